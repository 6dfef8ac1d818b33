/- a part of the proof -/
import Derived.Test.YtbhhejkolnigfaaGreatRows
import Derived.WalkKit
import Derived.Lib.Hide
import Derived.Deep.QuietTactic
import Derived.BigQuiet
import Derived.Outline
import Derived.WalkSpells
import Derived.WalkLawsBesides
import Derived.WalkSmall
import Derived.Lib.QuietBelow
import Derived.Below
import Derived.Maps.OwnOps
import Derived.OrdersHeld
import Derived.StillTail
set_option linter.unusedVariables false
set_option linter.unusedSimpArgs false
set_option maxRecDepth 100000
set_option maxHeartbeats 51200000
namespace Go.Proofs.YtbhhejkolnigfaaGreat
structure ztR(P:Prop):Prop where o:P
theorem I {P:Prop}(h:P):ztR P:=⟨h⟩
instance{P:Prop}:Coe P (ztR P):=⟨I⟩
instance{P:Prop}:CoeOut (ztR P) P:=⟨fun h=>h.1⟩
theorem zjj(t:Int)(h:t.tmod 1440<0):t.tdiv 1440-1=t/1440/\t.tmod 1440+1440=t%1440:=by
 rw[Int.tmod_eq_emod]at h ⊢;rw[Int.tdiv_eq_ediv];by_cases c:0<=t\/(1440:Int) ∣ t
 . rw[if_pos c]at h;have:=Int.emod_nonneg t (show(1440:Int)≠0 by decide);simp at h;omega
 rw[if_neg c,if_neg c];simp;have e:(1440:Int).sign=1:=by decide
 omega
theorem zji(t:Int)(h:0<=t.tmod 1440):t.tdiv 1440=t/1440/\t.tmod 1440=t%1440:=by
 rw[Int.tmod_eq_emod]at h ⊢;rw[Int.tdiv_eq_ediv];by_cases c:0<=t\/(1440:Int) ∣ t
 . rw[if_pos c,if_pos c];simp
 rw[if_neg c]at h;have:=Int.emod_lt_of_pos t (show(0:Int)<1440 by decide);simp at h;omega
theorem zo8(t:Int):-9223372036854775807<=t->t<=9223372036854775807->-9223372036854775<=t.tdiv 1440/\t.tdiv 1440<=9223372036854775/\-1440<=t.tmod 1440/\t.tmod 1440<1440:=by
 intro a b;by_cases c:t.tmod 1440<0
 . have:=zjj t c;omega
 have:=zji t (by omega);omega
def lowB(c:Int):Bool:=decide (97<=c/\c<=122)
def numB(c:Int):Bool:=decide (48<=c/\c<=57)
def zdV(i:Nat)(c:Int):Bool:=lowB c || (decide (0<i)&&(numB c || c==95))
def zfh:Nat->List UInt8->Bool
 |_, []=>true
 |i,c::l=>zdV i (c.toNat:Int)&&zfh (i+1) l
def zb0(l:List UInt8):Bool:=decide (1<=l.length/\l.length<=16)&&zfh 0 l
theorem zjE(l:List UInt8):∀(i k:Nat) (h:k<l.length),zdV (i+k) (l[k].toNat:Int)=false->zfh i l=false:=by
 induction l with
 |nil=>intro i k h;simp at h
 |cons c l ih=>
  intro i k h a;cases k with
  |zero=>simp at a;simp[zfh,a]
  |succ k=>
   have:=ih (i+1) k (by simpa using h) (by simpa[Nat.add_assoc,Nat.add_comm 1 k] using a);simp[zfh,this]
theorem zk9(l:List UInt8):∀(i:Nat),(∀k (h:k<l.length),zdV (i+k) (l[k].toNat:Int)=true)->zfh i l=true:=by
 induction l with
 |nil=>intro i _;rfl
 |cons c l ih=>
  intro i h;have a:=h 0 (by simp);simp at a
  have:=ih (i+1) (λk hk=>by have:=h (k+1) (by simpa using hk);simpa[Nat.add_assoc,Nat.add_comm 1 k] using this);simp[zfh,this,a]
def offB(n:Int):Bool:=decide (-840<=n/\n<=840)
def insB(n:Int):Bool:=decide (0<=n/\n<52596000)
def clkB(n:Int):Bool:=decide (0<=n/\n<1440)
def spnB(a b:Int):Bool:=decide (0<=a/\a<=b/\b<=52596000)
def zgH(c a b:Int):Bool:=if a<=b then decide (a<=c/\c<b) else decide (a<=c\/c<b)
def zak:Option Int->List (Int×Int)->Int
 |_, []=>0
 |p,s::l=>if(insB s.1&&offB s.2)=false then 5 else if p.any (λq=>decide (s.1<=q))=true then 8 else zak (some s.1) l
def zG(name:List UInt8)(off:Int)(l:List (Int×Int)):Int:=
 if zb0 name=false then 1 else if offB off=false then 5 else if 16<l.length then 10 else zak none l
def shAt(l:List (Int×Int))(k:Nat):Int×Int:=l.getD k (0,0)
def ziP(l:List (Int×Int))(k:Nat):Option Int:=if k=0 then none else some (shAt l (k-1)).1
def zb2(l:List (Int×Int))(k:Nat):Prop:=zak none l=zak (ziP l k) (l.drop k)
theorem zb2.zero(l:List (Int×Int)):zb2 l 0:=rfl
theorem zeF(l:List (Int×Int))(k:Nat)(h:k<l.length):l.drop k=shAt l k::l.drop (k+1):=by
 rw[shAt,List.drop_eq_getElem_cons h,List.getD_eq_getElem?_getD,List.getElem?_eq_getElem h];rfl
theorem zb2.bad{l:List (Int×Int)}{k:Nat}(H:zb2 l k)(h:k<l.length)(a:insB (shAt l k).1=false\/offB (shAt l k).2=false):zak none l=5:=by
 rw[H,zeF l k h,zak,if_pos (by rcases a with a|a <;> simp[a])]
theorem zb2.order{l:List (Int×Int)}{k:Nat}(H:zb2 l k)(h:k<l.length)(a:insB (shAt l k).1=true)(b:offB (shAt l k).2=true) 
 (d:0<k) (c:(shAt l k).1<=(shAt l (k-1)).1):zak none l=8:=by
 rw[H,zeF l k h,zak,if_neg (by simp[a,b]),if_pos (by simp[ziP,show ¬ k=0 by omega];simpa using c)]
theorem zb2.step{l:List (Int×Int)}{k:Nat}(H:zb2 l k)(h:k<l.length)(b:insB (shAt l k).1=true)(c:offB (shAt l k).2=true) 
 (a:k=0\/(shAt l (k-1)).1<(shAt l k).1):zb2 l (k+1):=by
 unfold zb2 at*
 rw[H,zeF l k h,zak,if_neg (by simp[b,c]),if_neg (by
  rcases a with a|a
  . simp[ziP,a]
  by_cases e:k=0
  . simp[ziP,e]
  simp[ziP,e];simpa using a)]
 simp[ziP]
theorem zb2.done{l:List (Int×Int)}(H:zb2 l l.length):zak none l=0:=by
 rw[H,List.drop_length,zak]
def offP:Int->List (Int×Int)->Int->Int
 |o, [],_=>o
 |o,s::l,t=>if t<s.1 then o else offP s.2 l t
def offR:Int->List (Int×Int)->Int->Int
 |o, [],_=>o
 |o,s::l,t=>offR (if s.1<=t then s.2 else o) l t
theorem zp0(l:List (Int×Int)):∀(p o t:Int),zak (some p) l=0->t<p->offR o l t=o:=by
 induction l with
 |nil=>intros;rfl
 |cons s l ih=>
  intro p o t h a;rw[zak]at h;split at h
  . omega
  split at h
  . omega
  rename_i _ h2
  simp at h2
  rw[offR,if_neg (by omega)];exact ih s.1 o t h (by omega)
theorem zdy(l:List (Int×Int)):∀(p:Option Int) (o t:Int),zak p l=0->offP o l t=offR o l t:=by
 induction l with
 |nil=>intros;rfl
 |cons s l ih=>
  intro p o t h;rw[zak]at h;split at h
  . omega
  split at h
  . omega
  rw[offP,offR];split
  . rw[if_neg (by omega)];exact(zp0 l s.1 o t h (by omega)).symm
  rw[if_pos (by omega)];exact ih _ _ _ h
theorem zil{l:List (Int×Int)}{k:Nat}{n t:Int}(h:¬ k<l.length):offP n (l.drop k) t=n:=by
 rw[List.drop_of_length_le (by omega)];rfl
theorem zij{l:List (Int×Int)}{k:Nat}{n t:Int}(h:k<l.length)(a:t<(shAt l k).1):offP n (l.drop k) t=n:=by
 rw[zeF l k h,offP,if_pos a]
theorem zik{l:List (Int×Int)}{k:Nat}{n t:Int}(h:k<l.length)(a:¬ t<(shAt l k).1):offP n (l.drop k) t=offP (shAt l k).2 (l.drop (k+1)) t:=by
 rw[zeF l k h,offP,if_neg a]
theorem zii{l:List (Int×Int)}{k:Nat}{n t:Int}(h:¬ k<l.length):offR n (l.drop k) t=n:=by
 rw[List.drop_of_length_le (by omega)];rfl
theorem zjA{l:List (Int×Int)}{k:Nat}{n t:Int}(h:k<l.length)(a:(shAt l k).1<=t):offR n (l.drop k) t=offR (shAt l k).2 (l.drop (k+1)) t:=by
 rw[zeF l k h,offR,if_pos a]
theorem zk7{l:List (Int×Int)}{k:Nat}{n t:Int}(h:k<l.length)(a:¬ (shAt l k).1<=t):offR n (l.drop k) t=offR n (l.drop (k+1)) t:=by
 rw[zeF l k h,offR,if_neg a]
def zaB(nm:List UInt8)(o:Int)(l:List (Int×Int))(t:Int):Int×Int:=
 if zG nm o l≠0 then(0,zG nm o l) else if insB t=false then(0,5) else(offP o l t,0)
def zbJ(nm:List UInt8)(o:Int)(l:List (Int×Int))(t:Int):Int×Int:=
 if(zaB nm o l t).2≠0 then(0,(zaB nm o l t).2) else(t+(zaB nm o l t).1,0)
def zbj(nm:List UInt8)(o:Int)(l:List (Int×Int))(t:Int):Int×Int×Int:=
 if(zbJ nm o l t).2≠0 then(0,0,(zbJ nm o l t).2) else((zbJ nm o l t).1/1440,(zbJ nm o l t).1%1440,0)
theorem ziR(nm:List UInt8)(o:Int)(l:List (Int×Int))(t:Int):zbJ nm o l t=if(zaB nm o l t).2≠0 then(0,(zaB nm o l t).2) else(t+(zaB nm o l t).1,0):=rfl
theorem zhB(nm:List UInt8)(o:Int)(l:List (Int×Int))(t:Int):zbj nm o l t=if(zbJ nm o l t).2≠0 then(0,0,(zbJ nm o l t).2) else((zbJ nm o l t).1/1440,(zbJ nm o l t).1%1440,0):=rfl
theorem zbg{nm:List UInt8}{o:Int}{l:List (Int×Int)}(h:zG nm o l=0):zb0 nm=true/\offB o=true/\l.length<=16/\zak none l=0:=by
 unfold zG at h
 split at h
 . omega
 split at h
 . omega
 split at h
 . omega
 rename_i h1 h2 h3
 exact⟨by simpa using h1,by simpa using h2,by omega,h⟩
theorem zjB{n:Int}(h:offB n=true):-840<=n/\n<=840:=by simpa[offB] using h
theorem znh{n:Int}(h:insB n=true):0<=n/\n<52596000:=by simpa[insB] using h
theorem zv6{n:Int}(h:0<=n/\n<52596000):insB n=true:=by simpa[insB] using h
theorem zp2(l:List (Int×Int)):∀(p:Option Int) (o t:Int),zak p l=0->offB o=true->offB (offP o l t)=true:=by
 induction l with
 |nil=>intro p o t _ h;exact h
 |cons s l ih=>
  intro p o t h a;rw[zak]at h;split at h
  . omega
  split at h
  . omega
  rename_i h1 h2
  rw[offP];split
  . exact a
  exact ih _ _ _ h (by simp at h1;exact h1.2)
theorem zex{nm:List UInt8}{o:Int}{l:List (Int×Int)}{t:Int}(h:(zaB nm o l t).2=0):0<=t/\t<52596000/\-840<=(zaB nm o l t).1/\(zaB nm o l t).1<=840:=by
 unfold zaB at*
 split
 . rename_i h1;rw[if_pos h1]at h;exact absurd h h1
 rename_i h1
 rw[if_neg h1]at h;split
 . rename_i h2;rw[if_pos h2]at h;simp at h
 rename_i h2
 have a:zG nm o l=0:=by simpa using h1
 obtain⟨_,b,_,c⟩:=zbg a;have:=znh (by simpa using h2:insB t=true);have:=zjB (zp2 l none o t c b);exact⟨by omega,by omega,by simpa using this⟩
theorem ziS{nm:List UInt8}{o:Int}{l:List (Int×Int)}{t:Int}:-840<=(zbJ nm o l t).1/\(zbJ nm o l t).1<=52597000:=by
 unfold zbJ
 split
 . simp
 rename_i h
 have:=zex (by simpa using h:(zaB nm o l t).2=0);simp;omega
def mx(a b:Int):Int:=if a<b then b else a
def mn(a b:Int):Int:=if b<a then b else a
def seg1(fr to o x y:Int):List (Int×Int×Int):=if mx fr x<mn to y then [(mx fr x,mn to y,o)] else []
def zbu:Int->Int->List (Int×Int)->Int->Int->List (Int×Int×Int)
 |fr,o, [],x,y=>seg1 fr 52596000 o x y
 |fr,o,s::l,x,y=>seg1 fr s.1 o x y++zbu s.1 s.2 l x y
def zdR(fr o:Int)(l:List (Int×Int))(k:Nat)(x y:Int):List (Int×Int×Int):=if k<=l.length then zbu fr o (l.drop k) x y else []
theorem ziJ(o:Int)(l:List (Int×Int))(x y:Int):zbu 0 o l x y= []++zdR 0 o l 0 x y:=by simp[zdR]
theorem zm4{a o:Int}{l:List (Int×Int)}{k:Nat}{x y:Int}(h:k<l.length):zdR a o l k x y=seg1 a (shAt l k).1 o x y++zdR (shAt l k).1 (shAt l k).2 l (k+1) x y:=by
 rw[zdR,if_pos (by omega),zdR,if_pos (by omega),zeF l k h,zbu]
theorem zfA{a o:Int}{l:List (Int×Int)}{x y:Int}:zdR a o l l.length x y=seg1 a 52596000 o x y++zdR a o l (l.length+1) x y:=by
 rw[zdR,if_pos (by omega),zdR,if_neg (by omega),List.drop_length,zbu,List.append_nil]
theorem zkR{a o:Int}{l:List (Int×Int)}{k:Nat}{x y:Int}(h:¬ k<=l.length):zdR a o l k x y= []:=by rw[zdR,if_neg h]
theorem zjm{a to o x y:Int}(h:mx a x<mn to y):seg1 a to o x y= [(mx a x,mn to y,o)]:=if_pos h
theorem zlY{a to o x y:Int}(h:¬ mx a x<mn to y):seg1 a to o x y= []:=if_neg h
theorem zm5(a to o x y:Int):(seg1 a to o x y).length<=1:=by unfold seg1;split <;> simp
theorem zpq(l:List (Int×Int)):∀a o x y,(zbu a o l x y).length<=l.length+1:=by
 induction l with
 |nil=>intro a o x y;simp[zbu,zm5]
 |cons s l ih=>
  intro a o x y;have b:=ih s.1 s.2 x y;have c:=zm5 a s.1 o x y;simp[zbu];omega
def zdu(L:List (Int×Int×Int))(k:Nat):Int×Int×Int:=L.getD k (0,0,0)
theorem zrp(L:List (Int×Int×Int))(k:Nat)(h:k<L.length):L.drop k=zdu L k::L.drop (k+1):=by
 rw[zdu,List.drop_eq_getElem_cons h,List.getD_eq_getElem?_getD,List.getElem?_eq_getElem h];rfl
theorem zkW(L:List (Int×Int×Int))(k:Nat)(h:k<L.length):zdu L k∈L:=by
 rw[zdu,List.getD_eq_getElem?_getD,List.getElem?_eq_getElem h];exact List.getElem_mem h
theorem znq{n:Int}(h:clkB n=true):0<=n/\n<1440:=by simpa[clkB] using h
theorem zsM{a b t:Int}:mx a b<=t ↔ a<=t/\b<=t:=by unfold mx;split <;> omega
theorem lt_mn{a b t:Int}:t<mn a b ↔ t<a/\t<b:=by unfold mn;split <;> omega
theorem zfK{a to o x y:Int}{g:Int×Int×Int}:g∈seg1 a to o x y ↔ mx a x<mn to y/\g=(mx a x,mn to y,o):=by
 unfold seg1
 split
 . rename_i h;simp[h]
 rename_i h
 constructor
 . intro b;simp at b
 rintro⟨c,_⟩;exact absurd c h
theorem zmi{f to o x y t v:Int}:(∃g∈seg1 f to o x y,g.1<=t/\t<g.2.1/\g.2.2=v) ↔ f<=t/\x<=t/\t<to/\t<y/\o=v:=by
 constructor
 . rintro⟨g,h,c,d,e⟩;obtain⟨_,rfl⟩:=zfK.1 h;simp only at c d e;rw[zsM]at c;rw[lt_mn]at d;exact⟨c.1,c.2,d.1,d.2,e⟩
 rintro⟨c,d,e,i,j⟩;have a:mx f x<=t:=zsM.2 ⟨c,d⟩;have b:t<mn to y:=lt_mn.2 ⟨e,i⟩;exact⟨_,zfK.2 ⟨by omega,rfl⟩,a,b,j⟩
def Okay(fr:Int)(l:List (Int×Int)):Prop:=∃p:Option Int,zak p l=0/\(p=some fr\/(p=none/\fr=0))
theorem Okay.cons{a:Int}{s:Int×Int}{l:List (Int×Int)}(h:Okay a (s::l)):0<=s.1/\s.1<52596000/\a<=s.1/\offB s.2=true/\Okay s.1 l:=by
 obtain⟨p,h,b⟩:=h;rw[zak]at h;split at h
 . omega
 split at h
 . omega
 rename_i h1 h2
 simp at h1
 have:=znh h1.1;refine⟨this.1,this.2,?_,h1.2,⟨_,h,.inl rfl⟩⟩;rcases b with rfl|⟨rfl,rfl⟩
 . simp at h2;omega
 omega
theorem zro(l:List (Int×Int)):∀(d o x y t v:Int),Okay d l->
 ((∃g∈zbu d o l x y,g.1<=t/\t<g.2.1/\g.2.2=v) ↔ d<=t/\x<=t/\t<52596000/\t<y/\offP o l t=v):=by
 induction l with
 |nil=>intro d o x y t v _;rw[zbu];exact zmi
 |cons s l ih=>
  intro d o x y t v h;obtain⟨f,i,j,k,e⟩:=h.cons;rw[zbu,offP];constructor
  . rintro⟨g,a,b⟩;rcases List.mem_append.1 a with a|a
    . have:=zmi.1 ⟨g,a,b⟩;rw[if_pos (by omega)];omega
    have:=(ih s.1 s.2 x y t v e).1 ⟨g,a,b⟩;rw[if_neg (by omega)];omega
  intro b;by_cases c:t<s.1
  . rw[if_pos c]at b;obtain⟨g,a,b⟩:=zmi.2 (show d<=t/\x<=t/\t<s.1/\t<y/\o=v by omega);exact⟨g,List.mem_append.2 (.inl a),b⟩
  rw[if_neg c]at b;obtain⟨g,a,b⟩:=(ih s.1 s.2 x y t v e).2 (by omega);exact⟨g,List.mem_append.2 (.inr a),b⟩
theorem zjy{nm:List UInt8}{o:Int}{l:List (Int×Int)}(h:zG nm o l=0):Okay 0 l:=⟨none,(zbg h).2.2.2,.inr ⟨rfl,rfl⟩⟩
def zaq(R:List (Int×Int))(k:Nat):Int×Int:=R.getD k (0,0)
def zdq(R:List (Int×Int))(a b:Int):List (Int×Int):=
 if 0<R.length/\(zaq R (R.length-1)).2=a then R.set (R.length-1) ((zaq R (R.length-1)).1,b) else R++ [(a,b)]
theorem zbU{R:List (Int×Int)}{a b:Int}(h:0<R.length)(c:(zaq R (R.length-1)).2=a):zdq R a b=R.set (R.length-1) ((zaq R (R.length-1)).1,b):=if_pos ⟨h,c⟩
theorem zci{R:List (Int×Int)}{a b:Int}(h:¬ (0<R.length/\(zaq R (R.length-1)).2=a)):zdq R a b=R++ [(a,b)]:=if_neg h
def zdK(g:Int×Int×Int)(fr d:Int):Int:=mx (d*1440+fr-g.2.2) g.1
def zee(g:Int×Int×Int)(fr ln d:Int):Int:=mn (d*1440+fr-g.2.2+ln) g.2.1
def day1(g:Int×Int×Int)(fr ln d:Int)(R:List (Int×Int)):List (Int×Int):=
 if zdK g fr d<zee g fr ln d then zdq R (zdK g fr d) (zee g fr ln d) else R
def zdJ(g:Int×Int×Int)(fr ln:Int):Nat->Int->List (Int×Int)->List (Int×Int)
 |0,_,R=>R
 |n+1,d,R=>zdJ g fr ln n (d+1) (day1 g fr ln d R)
theorem zln{g:Int×Int×Int}{a b d:Int}{n:Nat}{R:List (Int×Int)}(h:0<n):zdJ g a b n d R=zdJ g a b (n-1) (d+1) (day1 g a b d R):=by
 obtain⟨m,rfl⟩:∃m,n=m+1:=⟨n-1,by omega⟩;rfl
def zR(g:Int×Int×Int):Int:=(g.1+g.2.2)/1440-1
def segN(g:Int×Int×Int):Nat:=((g.2.1-1+g.2.2)/1440-zR g+1).toNat
def zfe(g:Int×Int×Int)(fr ln:Int)(R:List (Int×Int)):List (Int×Int):=zdJ g fr ln (segN g) (zR g) R
def zcE(fr ln:Int):List (Int×Int×Int)->List (Int×Int)->List (Int×Int)
 |[],R=>R
 |g::L,R=>zcE fr ln L (zfe g fr ln R)
theorem zlK{a b:Int}{L:List (Int×Int×Int)}{k:Nat}{R:List (Int×Int)}(h:k<L.length):zcE a b (L.drop k) R=zcE a b (L.drop (k+1)) (zfe (zdu L k) a b R):=by
 rw[zrp L k h,zcE]
theorem zmH{a b:Int}{L:List (Int×Int×Int)}{k:Nat}{R:List (Int×Int)}(h:¬ k<L.length):zcE a b (L.drop k) R=R:=by
 rw[List.drop_of_length_le (by omega),zcE]
def zq5(g:Int×Int×Int):Prop:=0<=g.1/\g.1<g.2.1/\g.2.1<=52596000/\-840<=g.2.2/\g.2.2<=840
theorem zpr{c to o x y:Int}(f:0<=c)(i:to<=52596000)(d:offB o=true):∀g∈seg1 c to o x y,zq5 g:=by
 intro g e;obtain⟨h,rfl⟩:=zfK.1 e;have a:=zsM.1 (Int.le_refl (mx c x));have b:mn to y<=to:=by unfold mn;split <;> omega
 have:=zjB d;exact⟨by simp only;omega,h,by simp only;omega,this.1,this.2⟩
theorem zm3(l:List (Int×Int)):∀(b o x y:Int),Okay b l->0<=b->offB o=true->∀g∈zbu b o l x y,zq5 g:=by
 induction l with
 |nil=>intro b o x y _ c d g a;exact zpr c (Int.le_refl _) d g (by simpa[zbu] using a)
 |cons s l ih=>
  intro b o x y h c d g a;obtain⟨e,j,k,f,i⟩:=h.cons;rcases List.mem_append.1 (by simpa[zbu] using a) with a|a
  . exact zpr c (by omega) d g a
  exact ih s.1 s.2 x y i e f g a
theorem zkV{g:Int×Int×Int}(h:zq5 g):-2<=zR g/\zR g<=36526/\(segN g:Int)=(g.2.1-1+g.2.2)/1440-zR g+1/\segN g<=40000/\(g.2.1-1+g.2.2)/1440<=36527:=by
 obtain⟨e,f,i,j,k⟩:=h;have a:-2<=zR g:=by unfold zR;omega
 have b:zR g<=36526:=by unfold zR;omega
 have c:zR g<=(g.2.1-1+g.2.2)/1440-1:=by unfold zR;omega
 have d:(segN g:Int)=(g.2.1-1+g.2.2)/1440-zR g+1:=by
  unfold segN;rw[Int.toNat_of_nonneg (by omega)]
 exact⟨a,b,d,by omega,by omega⟩
theorem zrM{g:Int×Int×Int}{a b d:Int}{R:List (Int×Int)}(h:zdK g a d<zee g a b d):day1 g a b d R=zdq R (zdK g a d) (zee g a b d):=if_pos h
theorem zth{g:Int×Int×Int}{a b d:Int}{R:List (Int×Int)}(h:¬ zdK g a d<zee g a b d):day1 g a b d R=R:=if_neg h
def zap(fr to:Int):Int:=(to-fr+1440)%1440
def zef(o:Int)(l:List (Int×Int))(x y fr to:Int):List (Int×Int):=if zap fr to=0 then [] else zcE fr (zap fr to) (zbu 0 o l x y) []
theorem zc9(R:List (Int×Int))(r:Int×Int):zaq (R++ [r]) R.length=r:=by simp[zaq]
theorem zdT{R:List (Int×Int)}{k:Nat}(r:Int×Int)(h:k<R.length):zaq (R.set k r) k=r:=by simp[zaq,h]
theorem zke(R:List (Int×Int))(a b c:Int):zdq (zdq R a b) b c=zdq R a c:=by
 by_cases h:0<R.length/\(zaq R (R.length-1)).2=a
 . rw[zbU h.1 h.2,zbU h.1 h.2];have d:R.length-1<R.length:=by omega
   rw[zbU (by simpa using h.1) (by simp only[List.length_set];rw[zdT _ d])];simp only[List.length_set];rw[zdT _ d,List.set_set]
 rw[zci h,zci h];have e:(R++ [(a,b)]).length-1=R.length:=by simp
 rw[zbU (by simp) (by rw[e,zc9])];rw[e,zc9];simp
def zaL(S:Int->Bool)(x:Int):Nat->List (Int×Int)
 |0=> []
 |n+1=>if S (x+n)=true then zdq (zaL S x n) (x+n) (x+n+1) else zaL S x n
theorem zhk{S:Int->Bool}{x:Int}(n:Nat):∀m:Nat,(∀t,x+n<=t->t<x+n+m->S t=false)->zaL S x (n+m)=zaL S x n:=by
 intro m;induction m with
 |zero=>intro _;rfl
 |succ m ih=>
  intro h;rw[<-Nat.add_assoc,zaL,if_neg (by rw[h _ (by omega) (by omega)];decide)];exact ih (λt h1 h2=>h t h1 (by omega))
theorem zl2{S:Int->Bool}{x:Int}(n:Nat):∀m:Nat,(∀t,x+n<=t->t<x+n+(m+1:Nat)->S t=true)->zaL S x (n+(m+1))=zdq (zaL S x n) (x+n) (x+n+(m+1:Nat)):=by
 intro m;induction m with
 |zero=>intro h;rw[zaL,if_pos (h _ (by omega) (by omega))];simp
 |succ m ih=>
  intro h;rw[<-Nat.add_assoc,zaL,if_pos (h _ (by omega) (by omega)),ih (λt h1 h2=>h t h1 (by omega))];rw[show x+((n+(m+1):Nat):Int)=x+n+((m+1:Nat):Int) by omega,zke];congr 1;omega
def zbP(S:Int->Bool)(x c:Int):List (Int×Int):=zaL S x (c-x).toNat
theorem zd7{S:Int->Bool}{x c d:Int}(a:x<=c)(b:c<=d)(h:∀t,c<=t->t<d->S t=false):zbP S x d=zbP S x c:=by
 unfold zbP
 obtain⟨n,e⟩:∃n:Nat,(n:Int)=c-x:=⟨(c-x).toNat,by omega⟩;obtain⟨m,f⟩:∃m:Nat,(m:Int)=d-c:=⟨(d-c).toNat,by omega⟩;rw[show(d-x).toNat=n+m by omega,show(c-x).toNat=n by omega];exact zhk n m (λt h1 h2=>h t (by omega) (by omega))
theorem zl1{S:Int->Bool}{x c d:Int}(a:x<=c)(b:c<d)(h:∀t,c<=t->t<d->S t=true):zbP S x d=zdq (zbP S x c) c d:=by
 unfold zbP
 obtain⟨n,e⟩:∃n:Nat,(n:Int)=c-x:=⟨(c-x).toNat,by omega⟩;obtain⟨m,f⟩:∃m:Nat,(m:Int)+1=d-c:=⟨(d-c-1).toNat,by omega⟩;rw[show(d-x).toNat=n+(m+1) by omega,show(c-x).toNat=n by omega];rw[zl2 n m (λt h1 h2=>h t (by omega) (by omega))];congr 1 <;> omega
theorem zlI{c a to:Int}(b:0<=c/\c<1440)(d:0<=a/\a<1440)(e:0<=to/\to<1440):zgH c a to=decide ((c-a)%1440<zap a to):=by
 unfold zgH zap
 split
 . congr 1;apply propext;omega
 congr 1;apply propext;omega
def zbX(g:Int×Int×Int)(fr ln d:Int):Int:=mn (mx ((d-1)*1440+fr-g.2.2+ln) g.1) g.2.1
theorem zcU(a b:Int):(mx a b=a/\b<=a)\/(mx a b=b/\a<b):=by unfold mx;split <;> omega
theorem zfI(a b:Int):(mn a b=a/\a<=b)\/(mn a b=b/\b<a):=by unfold mn;split <;> omega
theorem zqE{S:Int->Bool}{x f h d:Int}{g:Int×Int×Int}(C:x<=g.1)(D:g.1<g.2.1)(E:0<h)(G:h<1440) 
 (j:∀t,g.1<=t->t<g.2.1->S t=decide ((t+g.2.2-f)%1440<h)):
 day1 g f h d (zbP S x (zbX g f h d))=zbP S x (zbX g f h (d+1)):=by
 have i:∀t,g.1<=t->t<g.2.1->(d-1)*1440+f-g.2.2+h<=t->t<d*1440+f-g.2.2+h->S t=decide (d*1440+f-g.2.2<=t):=by
  intro t a b c e;rw[j t a b];congr 1;apply propext
  have q:(t+g.2.2-f)%1440=(t+g.2.2-f-d*1440)%1440:=by omega
  rw[q];omega
 unfold day1
 have k:zbX g f h d=mn (mx ((d-1)*1440+f-g.2.2+h) g.1) g.2.1:=rfl;have l:zbX g f h (d+1)=mn (mx (d*1440+f-g.2.2+h) g.1) g.2.1:=by unfold zbX;congr 2;omega
 have H:=zcU ((d-1)*1440+f-g.2.2+h) g.1;have m:=zfI (mx ((d-1)*1440+f-g.2.2+h) g.1) g.2.1;have K:=zcU (d*1440+f-g.2.2+h) g.1;have n:=zfI (mx (d*1440+f-g.2.2+h) g.1) g.2.1;have o:=zcU (d*1440+f-g.2.2) g.1;have p:=zfI (d*1440+f-g.2.2+h) g.2.1;rw[<-k]at m;rw[<-l]at n;have r:zdK g f d=mx (d*1440+f-g.2.2) g.1:=rfl;have s:zee g f h d=mn (d*1440+f-g.2.2+h) g.2.1:=rfl;rw[<-r]at o;rw[<-s]at p;generalize zbX g f h d=F at*;generalize zbX g f h (d+1)=w at*;generalize zdK g f d=A at*;generalize zee g f h d=B at*;split
 . rename_i hAB
   have y:zbP S x A=zbP S x F:=by
    apply zd7 (by omega) (by omega)
    intro t u v;rw[i t (by omega) (by omega) (by omega) (by omega)];simp;omega
   have z:zbP S x B=zdq (zbP S x A) A B:=by
    apply zl1 (by omega) hAB
    intro t u v;rw[i t (by omega) (by omega) (by omega) (by omega)];simp;omega
   rw[show w=B by omega,z,y]
 rename_i hAB
 symm
 apply zd7 (by omega) (by omega)
 intro t u v;rw[i t (by omega) (by omega) (by omega) (by omega)];simp;omega
theorem zlo{S:Int->Bool}{x b a:Int}{g:Int×Int×Int}(c:x<=g.1)(e:g.1<g.2.1)(f:0<a)(h:a<1440) 
 (i:∀t,g.1<=t->t<g.2.1->S t=decide ((t+g.2.2-b)%1440<a)):∀(n:Nat) (d:Int),
 zdJ g b a n d (zbP S x (zbX g b a d))=zbP S x (zbX g b a (d+n)):=by
 intro n;induction n with
 |zero=>intro d;simp[zdJ]
 |succ n ih=>
  intro d;rw[zdJ,zqE c e f h i,ih];congr 2;omega
theorem zkU{S:Int->Bool}{x a b:Int}{g:Int×Int×Int}(k:x<=g.1)(l:zq5 g)(m:0<b)(o:b<1440)(A:0<=a/\a<1440) 
 (h:∀t,g.1<=t->t<g.2.1->S t=decide ((t+g.2.2-a)%1440<b)):zfe g a b (zbP S x g.1)=zbP S x g.2.1:=by
 obtain⟨p,i,r,s,w⟩:=l;obtain⟨_,_,y,_,_⟩:=zkV ⟨p,i,r,s,w⟩;have B:zR g=(g.1+g.2.2)/1440-1:=rfl;have e:zbX g a b (zR g)=g.1:=by
  unfold zbX
  have z:=zcU ((zR g-1)*1440+a-g.2.2+b) g.1;have j:=zfI (mx ((zR g-1)*1440+a-g.2.2+b) g.1) g.2.1;omega
 have c:=zlo (d:=zR g) k i m o h (n:=segN g);unfold zfe
 rw[e]at c;rw[c,y];generalize hL:(g.2.1-1+g.2.2)/1440=L;rw[show zR g+(L-zR g+1)=L+1 by omega];symm
 have z:=zcU ((L+1-1)*1440+a-g.2.2+b) g.1;have j:=zfI (mx ((L+1-1)*1440+a-g.2.2+b) g.1) g.2.1;have f:zbX g a b (L+1)=mn (mx ((L+1-1)*1440+a-g.2.2+b) g.1) g.2.1:=rfl;rw[<-f]at j;generalize zbX g a b (L+1)=F at*;apply zd7 (by omega) (by omega)
 intro t u v;rw[h t (by omega) v];simp
 have q:(t+g.2.2-a)%1440=(t+g.2.2-a-(L+1)*1440)%1440:=by omega
 rw[q];omega
def Part:List (Int×Int×Int)->Int->Int->Prop
 |[],c,e=>c=e
 |g::L,c,e=>g.1=c/\Part L g.2.1 e
theorem znN(l:List (Int×Int)):∀(a o x y:Int),Okay a l->y<=52596000->a<=52596000->Part (zbu a o l x y) (mx a x) (mx (mx a x) y):=by
 induction l with
 |nil=>
  intro a o x y _ i b;have j:=zcU a x;have k:=zfI 52596000 y;have m:=zcU (mx a x) y;rw[zbu,seg1];split
  . exact⟨rfl,by show mn 52596000 y=_;omega⟩
  show mx a x=_;omega
 |cons s l ih=>
  intro a o x y h i b;obtain⟨p,q,r,t,d⟩:=h.cons;have:=ih s.1 s.2 x y d i (by omega);have j:=zcU a x;have k:=zfI s.1 y;have m:=zcU (mx a x) y;have u:=zcU s.1 x;have v:=zcU (mx s.1 x) y;rw[zbu,seg1];split
  . by_cases c:s.1<=y
    . refine⟨rfl,?_⟩;show Part _ (mn s.1 y) _
      rw[show mn s.1 y=mx s.1 x by omega,show mx (mx a x) y=mx (mx s.1 x) y by omega];exact this
    have e:zbu s.1 s.2 l x y= []:=by
     apply List.eq_nil_iff_forall_not_mem.2
     intro g f;have n:=segsP_ok' l s.1 s.2 x y d g f;omega
    rw[e];exact⟨rfl,by show mn s.1 y=_;omega⟩
  rw[List.nil_append];by_cases c:y<=mx a x
  . have e:zbu s.1 s.2 l x y= []:=by
     apply List.eq_nil_iff_forall_not_mem.2
     intro g f;have n:=segsP_ok' l s.1 s.2 x y d g f;omega
    rw[e];show mx a x=_;omega
  rw[show mx a x=mx s.1 x by omega];exact this
where
 segsP_ok' (l:List (Int×Int)):∀(fr o x y:Int),Okay fr l→∀g∈zbu fr o l x y,fr≤g.1∧x≤g.1∧g.1<g.2.1∧g.2.1≤y:=by
  induction l with
  |nil=>
   intro fr o x y _ g hg;obtain⟨h,rfl⟩:=zfK.1 (by simpa[zbu] using hg);have a1:=zcU fr x;have a2:=zfI 52596000 y;simp only;omega
  |cons s l ih=>
   intro fr o x y h g hg;obtain⟨h1,h2,h3,h4,h5⟩:=h.cons;rcases List.mem_append.1 (by simpa[zbu] using hg) with hg|hg
   · obtain⟨h,rfl⟩:=zfK.1 hg;have a1:=zcU fr x;have a2:=zfI s.1 y;simp only;omega
   have:=ih s.1 s.2 x y h5 g hg;omega
theorem zlL{S:Int->Bool}{x d f:Int}(j:0<f)(k:f<1440)(l:0<=d/\d<1440):∀(L:List (Int×Int×Int)) (c e:Int),x<=c->Part L c e->(∀g∈L,zq5 g)->
 (∀g∈L,∀t,g.1<=t->t<g.2.1->S t=decide ((t+g.2.2-d)%1440<f))->zcE d f L (zbP S x c)=zbP S x e:=by
 intro L;induction L with
 |nil=>intro c e _ a _ _;rw[zcE];cases a;rfl
 |cons g L ih=>
  intro c e m a b h;obtain⟨rfl,a⟩:=a;have i:=b g (by simp);rw[zcE,zkU m i j k l (h g (by simp))];exact ih _ _ (by have:=i.2.1;omega) a (λg' h'=>b g' (by simp[h'])) (λg' h'=>h g' (by simp[h']))
def inB(o:Int)(l:List (Int×Int))(fr to t:Int):Bool:=zgH ((t+offP o l t)%1440) fr to
theorem zoB{nm:List UInt8}{o:Int}{l:List (Int×Int)}{x y a to:Int}(c:zG nm o l=0)(m:0<=x)(d:x<=y)(j:y<=52596000)(h:0<=a/\a<1440)(k:0<=to/\to<1440):
 zef o l x y a to=zbP (inB o l a to) x y:=by
 have b:∀t,inB o l a to t=decide ((t+offP o l t-a)%1440<zap a to):=by
  intro t;unfold inB
  rw[zlI (by omega) h k];congr 1;apply propext
  rw[show((t+offP o l t)%1440-a)%1440=(t+offP o l t-a)%1440 by omega]
 unfold zef
 split
 . rename_i h0
   symm
   have:zbP (inB o l a to) x y=zbP (inB o l a to) x x:=zd7 (Int.le_refl _) d (λt _ _=>by rw[b,h0];simp;omega);rw[this];simp[zbP,zaL]
 rename_i h0
 have i:=znN l 0 o x y (zjy c) j (by decide);have n:=zcU 0 x;have p:=zcU (mx 0 x) y;rw[show mx 0 x=x by omega,show mx x y=y by have:=zcU x y;omega]at i;have e:0<zap a to:=by unfold zap at*;omega
 have f:zap a to<1440:=by unfold zap;omega
 have:=zlL (S:=inB o l a to) (x:=x) e f h _ x y (Int.le_refl _) i (zm3 l 0 o x y (zjy c) (Int.le_refl _) (zbg c).2.1)
  (λg hg t h1 h2=>by
   have:=(zro l 0 o x y t g.2.2 (zjy c)).1 ⟨g,hg,h1,h2,rfl⟩;rw[b,this.2.2.2.2])
 rw[<-this];simp[zbP,zaL]
def zeY(S:Int->Bool)(x:Int):Nat->Int
 |0=>0
 |n+1=>zeY S x n+if S (x+n)=true then 1 else 0
def zdI(R:List (Int×Int)):Nat->Int
 |0=>0
 |k+1=>zdI R k+((zaq R k).2-(zaq R k).1)
def zbY(R:List (Int×Int))(ln:Int):Nat->Int
 |0=>0
 |k+1=>zbY R ln k+if ln<=(zaq R k).2-(zaq R k).1 then 1 else 0
theorem zeu{R M:List (Int×Int)}{k:Nat}(h:k<R.length):zaq (R++M) k=zaq R k:=by
 simp only[zaq,List.getD_eq_getElem?_getD];rw[List.getElem?_append_left h]
theorem zet{R:List (Int×Int)}{k j:Nat}(r:Int×Int)(h:j≠k):zaq (R.set j r) k=zaq R k:=by
 simp only[zaq,List.getD_eq_getElem?_getD];rw[List.getElem?_set_ne h]
theorem zhg{R M:List (Int×Int)}:∀k:Nat,(∀j,j<k->zaq R j=zaq M j)->zdI R k=zdI M k:=by
 intro k;induction k with
 |zero=>intro _;rfl
 |succ k ih=>intro h;rw[zdI,zdI,ih (λj hj=>h j (by omega)),h k (by omega)]
theorem zgu{R M:List (Int×Int)}{a:Int}:∀k:Nat,(∀j,j<k->zaq R j=zaq M j)->zbY R a k=zbY M a k:=by
 intro k;induction k with
 |zero=>intro _;rfl
 |succ k ih=>intro h;rw[zbY,zbY,ih (λj hj=>h j (by omega)),h k (by omega)]
theorem zoI(R:List (Int×Int))(a b:Int):zdI (zdq R a b) (zdq R a b).length=zdI R R.length+(b-a):=by
 by_cases h:0<R.length/\(zaq R (R.length-1)).2=a
 . rw[zbU h.1 h.2,List.length_set];obtain⟨m,d⟩:∃m,R.length=m+1:=⟨R.length-1,by omega⟩;have c:=h.2;rw[d]at c ⊢;simp only[Nat.add_sub_cancel]at c ⊢;rw[zdI,zdI,zdT _ (by omega),zhg m (λj hj=>zet _ (by omega))];simp only;omega
 rw[zci h,List.length_append,List.length_singleton,zdI,zc9,zhg R.length (λj hj=>zeu hj)]
theorem zhl(S:Int->Bool)(x:Int):∀(n k:Nat),k<(zaL S x n).length->x<=(zaq (zaL S x n) k).1/\(zaq (zaL S x n) k).1<(zaq (zaL S x n) k).2/\(zaq (zaL S x n) k).2<=x+n:=by
 intro n;induction n with
 |zero=>intro k h;simp[zaL]at h
 |succ n ih=>
  intro k h;rw[zaL]at h ⊢;split
  . rename_i hs
    rw[if_pos hs]at h;generalize zaL S x n=R at*;by_cases a:0<R.length/\(zaq R (R.length-1)).2=x+n
    . rw[zbU a.1 a.2]at h ⊢;rw[List.length_set]at h;by_cases e:k=R.length-1
      . subst e;rw[zdT _ h];have:=ih _ h;simp only;omega
      rw[zet _ (Ne.symm e)];have:=ih k h;omega
    rw[zci a]at h ⊢;by_cases e:k=R.length
    . subst e;rw[zc9];simp only;omega
    rw[zeu (by simp at h;omega)];have:=ih k (by simp at h;omega);omega
  rename_i hs
  rw[if_neg hs]at h;have:=ih k h;omega
theorem ziL(S:Int->Bool)(x:Int):∀n:Nat,zdI (zaL S x n) (zaL S x n).length=zeY S x n:=by
 intro n;induction n with
 |zero=>rfl
 |succ n ih=>
  rw[zaL,zeY];split
  . rw[zoI,ih];omega
  rw[ih];omega
theorem zj5(S:Int->Bool)(x:Int):∀n:Nat,0<=zeY S x n/\zeY S x n<=n:=by
 intro n;induction n with
 |zero=>simp[zeY]
 |succ n ih=>rw[zeY];split <;> omega
theorem ziF{R:List (Int×Int)}(h:∀k,k<R.length->(zaq R k).1<(zaq R k).2):∀j k:Nat,j<=k->k<=R.length->zdI R j<=zdI R k:=by
 intro j k;induction k with
 |zero=>intro a _;rw[Nat.le_zero.1 a];exact Int.le_refl _
 |succ k ih=>
  intro a b;by_cases e:j=k+1
  . subst e;exact Int.le_refl _
  have:=ih (by omega) (by omega);have:=h k (by omega);rw[zdI];omega
def zbI(S:Int->Bool)(x ln:Int):Nat->Int×Int
 |0=>(0,0)
 |n+1=>if S (x+n)=true then((zbI S x ln n).1,(zbI S x ln n).2+1)
  else((zbI S x ln n).1+if ln<=(zbI S x ln n).2/\0<(zbI S x ln n).2 then 1 else 0,0)
def zfG(S:Int->Bool)(x ln:Int)(n:Nat):Int:=(zbI S x ln n).1+if ln<=(zbI S x ln n).2/\0<(zbI S x ln n).2 then 1 else 0
def zdf(R:List (Int×Int))(e:Int):Int:=if 0<R.length/\(zaq R (R.length-1)).2=e then e-(zaq R (R.length-1)).1 else 0
def zdg(R:List (Int×Int))(e:Int):Nat:=if 0<R.length/\(zaq R (R.length-1)).2=e then R.length-1 else R.length
theorem zk8(S:Int->Bool)(x k:Int):∀n:Nat,zbI S x k n=(zbY (zaL S x n) k (zdg (zaL S x n) (x+n)),zdf (zaL S x n) (x+n)):=by
 intro n;induction n with
 |zero=>simp[zbI,zaL,zdg,zdf,zbY]
 |succ n ih=>
  have b:=zhl S x n;rw[zbI,zaL,ih];generalize zaL S x n=R at*;rw[show x+((n+1:Nat):Int)=x+n+1 by omega];split
  . by_cases a:0<R.length/\(zaq R (R.length-1)).2=x+n
    . have l:R.length-1<R.length:=by omega
      have f:zdg R (x+n)=R.length-1:=if_pos a;have g:zdf R (x+n)=x+n-(zaq R (R.length-1)).1:=if_pos a;rw[zbU a.1 a.2,f,g];have d:0<(R.set (R.length-1) ((zaq R (R.length-1)).1,x+n+1)).length/\(zaq (R.set (R.length-1) ((zaq R (R.length-1)).1,x+n+1)) ((R.set (R.length-1) ((zaq R (R.length-1)).1,x+n+1)).length-1)).2=x+n+1:=by
       rw[List.length_set,zdT _ l];exact⟨a.1,rfl⟩
      rw[zdg,if_pos d,zdf,if_pos d,List.length_set,zdT _ l];refine Prod.ext ?_ ?_
      . exact zgu _ (λj a=>(zet _ (by omega)).symm)
      simp only;omega
    have f:zdg R (x+n)=R.length:=if_neg a;have g:zdf R (x+n)=0:=if_neg a;rw[zci a,f,g];have e:(R++ [(x+(n:Int),x+n+1)]).length-1=R.length:=by simp
    have d:0<(R++ [(x+(n:Int),x+n+1)]).length/\(zaq (R++ [(x+(n:Int),x+n+1)]) ((R++ [(x+(n:Int),x+n+1)]).length-1)).2=x+n+1:=by
     rw[e,zc9];exact⟨by simp,rfl⟩
    rw[zdg,if_pos d,zdf,if_pos d,e,zc9];refine Prod.ext ?_ ?_
    . exact zgu _ (λj a=>(zeu a).symm)
    simp only;omega
  have d:¬ (0<R.length/\(zaq R (R.length-1)).2=x+n+1):=by
   rintro⟨p,i⟩;have:=b (R.length-1) (by omega);omega
  have f:zdg R (x+n+1)=R.length:=if_neg d;have g:zdf R (x+n+1)=0:=if_neg d;rw[f,g];refine Prod.ext ?_ rfl;simp only;by_cases a:0<R.length/\(zaq R (R.length-1)).2=x+n
  . obtain⟨m,o⟩:∃m,R.length=m+1:=⟨R.length-1,by omega⟩;have:=b (R.length-1) (by omega);have i:=a.2;rw[zdg,if_pos a,zdf,if_pos a];rw[o]at this i ⊢;simp only[Nat.add_sub_cancel]at this i ⊢;rw[zbY,i];congr 1
    by_cases c:k<=x+n-(zaq R m).1
    . rw[if_pos c,if_pos ⟨c,by omega⟩]
    rw[if_neg c,if_neg (λh=>c h.1)]
  rw[zdg,if_neg a,zdf,if_neg a,if_neg (by omega)];omega
theorem zjD(S:Int->Bool)(x b:Int)(n:Nat):zfG S x b n=zbY (zaL S x n) b (zaL S x n).length:=by
 have d:=zhl S x n;unfold zfG
 rw[zk8];generalize zaL S x n=R at*;simp only;by_cases a:0<R.length/\(zaq R (R.length-1)).2=x+n
 . obtain⟨m,f⟩:∃m,R.length=m+1:=⟨R.length-1,by omega⟩;have:=d (R.length-1) (by omega);have e:=a.2;rw[zdg,if_pos a,zdf,if_pos a];rw[f]at this e ⊢;simp only[Nat.add_sub_cancel]at this e ⊢;rw[zbY,e];congr 1
   by_cases c:b<=x+n-(zaq R m).1
   . rw[if_pos c,if_pos ⟨c,by omega⟩]
   rw[if_neg c,if_neg (λh=>c h.1)]
 rw[zdg,if_neg a,zdf,if_neg a,if_neg (by omega)];omega
theorem zqh(R:List (Int×Int))(a:Int):∀k:Nat,0<=zbY R a k/\zbY R a k<=k:=by
 intro k;induction k with
 |zero=>simp[zbY]
 |succ k ih=>rw[zbY];split <;> omega
theorem zog(S:Int->Bool)(x a:Int):∀n:Nat,0<=(zbI S x a n).1/\(zbI S x a n).1<=n/\0<=(zbI S x a n).2/\(zbI S x a n).2<=n:=by
 intro n;induction n with
 |zero=>simp[zbI]
 |succ n ih=>
  rw[zbI];split
  . simp only;omega
  simp only;split <;> omega
def z9(nm:List UInt8)(o:Int)(l:List (Int×Int))(x y:Int):Int×Int×Int:=
 if zG nm o l≠0 then(0,0,zG nm o l) else if spnB x y=false then(0,0,5) else if x=y then(0,0,8)
 else((x+offP o l x)/1440,(y-1+offP o l (y-1))/1440,0)
theorem zrn{x y:Int}(h:spnB x y=true):0<=x/\x<=y/\y<=52596000:=by simpa[spnB] using h
theorem off_bd{nm:List UInt8}{o:Int}{l:List (Int×Int)}(h:zG nm o l=0)(t:Int):-840<=offP o l t/\offP o l t<=840:=by
 obtain⟨_,a,_,b⟩:=zbg h;exact zjB (zp2 l none o t b a)
theorem zvc{nm:List UInt8}{o:Int}{l:List (Int×Int)}{t:Int}(h:zG nm o l=0)(a:0<=t/\t<52596000):
 zbj nm o l t=((t+offP o l t)/1440,(t+offP o l t)%1440,0):=by
 have b:zaB nm o l t=(offP o l t,0):=by simp[zaB,h,zv6 a]
 have c:zbJ nm o l t=(t+offP o l t,0):=by simp[zbJ,b]
 simp[zbj,c]
end Go.Proofs.YtbhhejkolnigfaaGreat
namespace Go.Proofs.YtbhhejkolnigfaaGreat
open Go.RowKit Go.Sort Go.Proofs.Tryz
instance:Coe Int Value:=⟨.int .i64⟩
instance:CoeTail Nat Value:=⟨fun n=>.int .i64 (n:Int)⟩
theorem ca{P:Program}{n:Nat}{a:Array Value}{w:World}{v:Value}{R:World→Prop}{Q:Ending→World→Prop}(h:Calls P n a w fun e w'=>e=.returned v∧R w')(k:∀w',R w'→Q (.returned v) w'):Calls P n a w Q:=h.mono fun _ w' h=>h.1▸k w' h.2
theorem cb{P:Program}{n:Nat}{a:Array Value}{w:World}{v:Value}{Q:Ending→World→Prop}(h:Calls P n a w fun e w'=>e=.returned v∧w=w')(k:Q (.returned v) w):Calls P n a w Q:=h.mono fun _ _ h=>h.1▸h.2▸k
abbrev Bw(w w':World):Prop:=Below w.heap.size w w'
theorem zaA{a b:Bool}(h:a=true ↔ b=true):Ending.returned (.bool a)=.returned (.bool b):=by rw[Bool.eq_iff_iff.2 h]
theorem zaV(n:Int)(w:World):
 Calls prog 148 #[n] w λe w'=>e=.returned (.bool (offB n))/\w=w':=by
 go_enter func148,ntmps148
 go_wp2
 all_goals (go_ret;exact⟨by simp[offB];omega,rfl⟩)
theorem zca(n:Int)(w:World):
 Calls prog 149 #[n] w λe w'=>e=.returned (.bool (insB n))/\w=w':=by
 go_enter func149,ntmps149
 go_wp2
 all_goals (go_ret;exact⟨by simp[insB];omega,rfl⟩)
theorem zaE(n:Int)(w:World):
 Calls prog 165 #[n] w λe w'=>e=.returned (.bool (offB n))/\w=w':=by
 go_enter func165,ntmps165
 go_wp2
 all_goals (go_ret;exact⟨by simp[offB];omega,rfl⟩)
theorem zbS(n:Int)(w:World):
 Calls prog 166 #[n] w λe w'=>e=.returned (.bool (insB n))/\w=w':=by
 go_enter func166,ntmps166
 go_wp2
 all_goals (go_ret;exact⟨by simp[insB];omega,rfl⟩)
theorem zfR(n:Int)(w:World):
 Calls prog 208 #[n] w λe w'=>e=.returned (.bool (clkB n))/\w=w':=by
 go_enter func208,ntmps208
 go_wp2
 all_goals (go_ret;exact⟨by simp[clkB];omega,rfl⟩)
theorem zhA(n:Int)(w:World):
 Calls prog 196 #[.int .u8 n] w λe w'=>e=.returned (.bool (lowB n))/\w=w':=by
 go_enter func196,ntmps196
 go_wp2
 all_goals (go_ret;exact⟨by simp[lowB];omega,rfl⟩)
theorem zeQ(n:Int)(w:World):
 Calls prog 197 #[.int .u8 n] w λe w'=>e=.returned (.bool (numB n))/\w=w':=by
 go_enter func197,ntmps197
 go_wp2
 all_goals (go_ret;exact⟨by simp[numB];omega,rfl⟩)
theorem zcI(c a b:Int)(w:World):
 Calls prog 179 #[c,a,b] w λe w'=>e=.returned (.bool (zgH c a b))/\w=w':=by
 go_enter func179,ntmps179
 go_wp2
 all_goals (go_ret;refine⟨?_,rfl⟩;unfold zgH;split <;> first|omega|(simp;done)|(simp;omega))
theorem zgQ(a b:Int)(w:World):
 Calls prog 112 #[.agg #[a,b]] w λe w'=>e=.returned (.bool (spnB a b))/\Bw w w':=by
 go_enter func112,ntmps112
 go_wp2
 all_goals (go_ret;exact⟨zaA (by simp only[spnB,decide_eq_true_eq,Bool.false_eq_true,true_iff,false_iff];omega),(Below.refl _ _).alloc (Nat.le_refl _) _⟩)
theorem zdO(a b:Int)(w:World):
 Calls prog 118 #[.agg #[a,b]] w λe w'=>e=.returned (.bool (spnB a b))/\Bw w w':=by
 go_enter func118,ntmps118
 go_wp2
 all_goals (go_ret;exact⟨zaA (by simp only[spnB,decide_eq_true_eq,Bool.false_eq_true,true_iff,false_iff];omega),(Below.refl _ _).alloc (Nat.le_refl _) _⟩)
theorem ze{k:IntKind}{a b:Int}(h:a=b):Ending.returned (.int k a)=.returned (.int k b):=by rw[h]
theorem zJ{k l:IntKind}{a b c d:Int}(h:a=b)(e:c=d):Ending.returned (.tuple #[.int k a,.int l c])=.returned (.tuple #[.int k b,.int l d]):=by rw[h,e]
theorem zkO(t:Int)(w:World)(b:-9000000000000000000<=t)(d:t<=9000000000000000000):
 Calls prog 113 #[t] w λe w'=>e=.returned (.tuple #[.int .i64 (t/1440),.int .i64 (t%1440)])/\w=w':=by
 have f:=zo8 t (by omega) (by omega);by_cases c:t.tmod 1440<0
 . have a:=I (zjj t c);go_enter func113,ntmps113
   go_wp2
   go_ret2;exact⟨zJ a.1.1 a.1.2,rfl⟩
 have a:=I (zji t (by omega));go_enter func113,ntmps113
 go_wp2
 go_ret2;exact⟨zJ a.1.1 a.1.2,rfl⟩
theorem zqt(t:Int)(w:World)(b:-9000000000000000000<=t)(d:t<=9000000000000000000):
 Calls prog 199 #[t,.int .i64 1440] w λe w'=>e=.returned (.int .i64 (t/1440))/\w=w':=by
 have f:=zo8 t (by omega) (by omega);by_cases c:t.tmod 1440<0
 . have a:=I (zjj t c);go_enter func199,ntmps199
   go_wp2
   go_ret;exact⟨ze a.1.1,rfl⟩
 have a:=I (zji t (by omega));go_enter func199,ntmps199
 go_wp2
 go_ret;exact⟨ze a.1.1,rfl⟩
theorem zbp(t:Int)(w:World)(b:-9000000000000000000<=t)(c:t<=9000000000000000000):
 Calls prog 168 #[t] w λe a=>e=.returned (.tuple #[.int .i64 (t/1440),.int .i64 (t%1440)])/\w=a:=by
 go_enter func168,ntmps168
 go_wp2_with (go_at_call 199;refine cb (zqt _ _ (by omega) (by omega)) ?_)
 go_ret2;exact⟨zJ rfl (by omega),rfl⟩
theorem zeB(s:ByteArray)(k:Nat)(h:k<s.size):s.data.toList.getD k 0=s[k]:=by
 have a:k<s.data.toList.length:=by simpa using h
 rw[List.getD_eq_getElem?_getD,List.getElem?_eq_getElem a];rfl
def zbc(s:ByteArray)(k:Nat):Prop:=∀j,j<k->zdV j ((s.data.toList.getD j 0).toNat:Int)=true
theorem zbc.step{s:ByteArray}{k:Nat}(h:k<s.size)(H:zbc s k)(a:zdV k (s[k].toNat:Int)=true):zbc s (k+1):=by
 intro j b;by_cases e:j=k
 . subst e;rw[zeB s j h];exact a
 exact H j (by omega)
theorem zbc.done{s:ByteArray}(a:1<=s.size)(b:s.size<=16)(H:zbc s s.size):zb0 s.data.toList=true:=by
 have c:s.data.toList.length=s.size:=by simp
 unfold zb0
 rw[zk9 s.data.toList 0 (λk hk=>by
  have:=H k (by omega);rw[List.getD_eq_getElem?_getD,List.getElem?_eq_getElem hk]at this;simpa using this)]
 simp;omega
theorem zbc.bad{s:ByteArray}{k:Nat}(h:k<s.size)(a:zdV k (s[k].toNat:Int)=false):zb0 s.data.toList=false:=by
 have b:s.data.toList.length=s.size:=by simp
 unfold zb0
 rw[zjE s.data.toList 0 k (by omega) (by rw[Nat.zero_add];exact a)];simp
theorem zoh{k:Nat}{c:Int}(h:0<k\/lowB c=true)(a:lowB c=true\/numB c=true\/(c !=95)=false):zdV k c=true:=by
 simp only[zdV,Bool.or_eq_true,Bool.and_eq_true,decide_eq_true_eq,beq_iff_eq];simp only[bne_eq_false_iff_eq]at a;rcases h with h|h
 . rcases a with a|a|a
   . exact .inl a
   . exact .inr ⟨h,.inl a⟩
   exact .inr ⟨h,.inr a⟩
 exact .inl h
theorem zp9{k:Nat}{c:Int}(a:¬ lowB c=true)(b:¬ numB c=true)(d:(c !=95)=true):zdV k c=false:=by
 simp at a b d
 simp[zdV,a,b,d]
theorem zbc.len{s:ByteArray}(h:s.size<1\/16<s.size):zb0 s.data.toList=false:=by
 have a:s.data.toList.length=s.size:=by simp
 unfold zb0
 simp;omega
theorem zae(s:ByteArray)(w:World)(f:s.size<=maxLen):
 Calls prog 147 #[.string s] w λe w'=>e=.returned (.bool (zb0 s.data.toList))/\w=w':=by
 unfold maxLen at f
 by_cases c:s.size<1\/16<s.size
 . have d:=I (zbc.len c);rcases c with c|c
   all_goals
    go_enter func147,ntmps147
    go_wp2
    go_ret;exact⟨zaA (by rw[d.1]),rfl⟩
 go_enter func147,ntmps147
 go_wp2
 go_loop [15] (λi=>∃k:Nat,k<=s.size/\i=.int .i64 k/\zbc s k) (λi=>s.size-(intOf i).toNat)
 case atStart=>exact⟨0,Nat.zero_le _,rfl,λj h=>absurd h (Nat.not_lt_zero _)⟩
 obtain⟨k,g,rfl,a⟩:=hrel;by_cases b:k<s.size
 . go_wp2
   all_goals first
    |(go_ret
      refine⟨zaA (by rw[zbc.bad b (by simp only[zdV,lowB,numB,Bool.or_eq_false_iff,Bool.and_eq_false_iff,decide_eq_false_iff_not,beq_eq_false_iff_ne] at*;omega)]),rfl⟩)
    |(go_round
      case rel=>exact⟨k+1,by omega,by go_num,zbc.step b a (by simp only[zdV,lowB,numB,Bool.or_eq_true,Bool.and_eq_true,decide_eq_true_eq,beq_iff_eq] at*;omega)⟩
      case measure=>simp[intOf];omega)
 obtain rfl:k=s.size:=by omega
 have d:=I (zbc.done (by omega) (by omega) a);go_wp2
 go_ret;exact⟨zaA (by rw[d.1]),rfl⟩
theorem zU(s:ByteArray)(w:World)(n:s.size<=maxLen):
 Calls prog 164 #[.string s] w λe b=>e=.returned (.bool (zb0 s.data.toList))/\w=b:=by
 unfold maxLen at n
 by_cases f:s.size<1\/16<s.size
 . have c:=I (zbc.len f);rcases f with f|f
   all_goals
    go_enter func164,ntmps164
    go_wp2
    go_ret;exact⟨zaA (by rw[c.1]),rfl⟩
 have o:0<s.size:=by omega
 cases g:lowB (s[0].toNat:Int)
 . have c:=I (zbc.bad o (by simp only[zdV,g];simp));go_enter func164,ntmps164
   go_wp2_with (first|(go_at_call 196;refine cb (zhA _ _) ?_))
   go_ret;exact⟨zaA (by rw[c.1]),rfl⟩
 have l:=I g;go_enter func164,ntmps164
 go_wp2_with (first|(go_at_call 196;refine cb (zhA _ _) ?_))
 clear g;go_loop [3] (λi=>∃k:Nat,k<=s.size/\i=.int .i64 k/\zbc s k) (λi=>s.size-(intOf i).toNat)
 case atStart=>exact⟨0,Nat.zero_le _,rfl,λj h=>absurd h (Nat.not_lt_zero _)⟩
 obtain⟨k,p,rfl,a⟩:=hrel;by_cases d:k<s.size
 . have m:=I (show 0<k\/lowB (s[k].toNat:Int)=true from by
    by_cases e:k=0
    . subst e;exact .inr l.1
    exact .inl (by omega))
   go_wp2_with (first|(go_at_call 196;refine cb (zhA _ _) ?_)|(go_at_call 197;refine cb (zeQ _ _) ?_))
   all_goals first
    |(go_ret
      exact⟨zaA (by rw[zbc.bad d (zp9 (by assumption) (by assumption) (by assumption))]),rfl⟩)
    |(go_round
      case rel=>exact⟨k+1,by omega,by go_num,zbc.step d a (zoh m.1 (by first|exact .inl (by assumption)|exact .inr (.inl (by assumption))|exact .inr (.inr (by assumption))))⟩
      case measure=>simp[intOf];omega)
 obtain rfl:k=s.size:=by omega
 have c:=I (zbc.done (by omega) (by omega) a);go_wp2
 go_ret;exact⟨zaA (by rw[c.1]),rfl⟩
def zdL(w:World)(b off:Nat)(l:List (Int×Int)):Prop:=
 ∀i,i<l.length->w.cell? ⟨b,off+i*2,none⟩=some (.int .i64 (shAt l i).1)/\w.cell? ⟨b,off+i*2+1,none⟩=some (.int .i64 (shAt l i).2)
def ShAt(w:World)(a:Option Addr)(l:List (Int×Int)):Prop:=l= []\/∃b off,a=some ⟨b,off,none⟩/\b<w.heap.size/\zdL w b off l
theorem zdL.below{w w':World}{b a:Nat}{l:List (Int×Int)}(h:zdL w b a l)(c:b<w.heap.size)(d:Bw w w'):zdL w' b a l:=
 λi hi=>⟨(d.cell (p:=⟨b,a+i*2,none⟩) c).trans (h i hi).1,(d.cell (p:=⟨b,a+i*2+1,none⟩) c).trans (h i hi).2⟩
theorem ShAt.below{w w':World}{a:Option Addr}{l:List (Int×Int)}(h:ShAt w a l)(d:Bw w w'):ShAt w' a l:=by
 rcases h with h|⟨b,c,h,e,f⟩
 . exact .inl h
 exact .inr ⟨b,c,h,Nat.lt_of_lt_of_le e d.size,f.below e d⟩
theorem zkr(s:ByteArray)(o:Int)(a:Option Addr)(cap:Nat)(w:World)(d:s.size<=maxLen):
 Calls prog 99 #[.agg #[.string s,o,.slice a 0 cap]] w λe b=>e=.returned (zG s.data.toList o [])/\Bw w b:=by
 cases f:zb0 s.data.toList
 . have c:=I (show zG s.data.toList o []=1 from by simp[zG,f]);go_enter func99,ntmps99
   go_wp2_with (first|(go_at_call 147;refine cb (zae _ _ d) ?_)|(go_at_call 148;refine cb (zaV _ _) ?_))
   go_ret;exact⟨ze c.1.symm,(Below.refl _ _).alloc (Nat.le_refl _) _⟩
 cases g:offB o
 . have c:=I (show zG s.data.toList o []=5 from by simp[zG,f,g]);go_enter func99,ntmps99
   go_wp2_with (first|(go_at_call 147;refine cb (zae _ _ d) ?_)|(go_at_call 148;refine cb (zaV _ _) ?_))
   go_ret;exact⟨ze c.1.symm,(Below.refl _ _).alloc (Nat.le_refl _) _⟩
 have c:=I (show zG s.data.toList o []=0 from by simp[zG,f,g,zak]);go_enter func99,ntmps99
 go_wp2_with (first|(go_at_call 147;refine cb (zae _ _ d) ?_)|(go_at_call 148;refine cb (zaV _ _) ?_))
 go_loop [20] (λi=>i=.int .i64 0) (λ_=>0)
 case atStart=>rfl
 subst hrel;go_wp2
 go_ret;exact⟨ze c.1.symm,(Below.refl _ _).alloc (Nat.le_refl _) _⟩
theorem zi9(s:ByteArray)(o:Int)(l:List (Int×Int))(b off cap:Nat)(w:World)(v:s.size<=maxLen)(P:l.length<=1000000)(A:b<w.heap.size)(C:zdL w b off l):
 Calls prog 99 #[.agg #[.string s,o,.slice (some ⟨b,off,none⟩) l.length cap]] w λe f=>e=.returned (zG s.data.toList o l)/\Bw w f:=by
 cases u:zb0 s.data.toList
 . have h:=I (show zG s.data.toList o l=1 from by simp[zG,u]);go_enter func99,ntmps99
   go_wp2_with (first|(go_at_call 147;refine cb (zae _ _ v) ?_)|(go_at_call 148;refine cb (zaV _ _) ?_))
   go_ret;exact⟨ze h.1.symm,(Below.refl _ _).alloc (Nat.le_refl _) _⟩
 cases x:offB o
 . have h:=I (show zG s.data.toList o l=5 from by simp[zG,u,x]);go_enter func99,ntmps99
   go_wp2_with (first|(go_at_call 147;refine cb (zae _ _ v) ?_)|(go_at_call 148;refine cb (zaV _ _) ?_))
   go_ret;exact⟨ze h.1.symm,(Below.refl _ _).alloc (Nat.le_refl _) _⟩
 by_cases D:16<l.length
 . have h:=I (show zG s.data.toList o l=10 from by simp[zG,u,x,D]);go_enter func99,ntmps99
   go_wp2_with (first|(go_at_call 147;refine cb (zae _ _ v) ?_)|(go_at_call 148;refine cb (zaV _ _) ?_))
   go_ret;exact⟨ze h.1.symm,(Below.refl _ _).alloc (Nat.le_refl _) _⟩
 go_enter func99,ntmps99
 go_wp2_with (first|(go_at_call 147;refine cb (zae _ _ v) ?_)|(go_at_call 148;refine cb (zaV _ _) ?_))
 have t:zG s.data.toList o l=zak none l:=by simp[zG,u,x,D]
 have t:=I t;clear u x;generalize hW:w.alloc (Obj.cells #[.string s,.int IntKind.i64 o,.slice (some {block:=b,off:=off}) l.length cap] 109)=W;have n:Bw w W:=by rw[<-hW];exact(Below.refl _ _).alloc (Nat.le_refl _) _
 have g:w.heap.size<W.heap.size:=by rw[<-hW];simp
 have B:W.cell? ⟨w.heap.size,2,none⟩=some (Value.slice (some {block:=b,off:=off}) l.length cap):=by clear n g;subst hW;go_simp
 clear hW;go_loopw [20] (λi wr=>∃k:Nat,k<=l.length/\i=.int .i64 k/\zb2 l k/\Bw W wr) (λi _=>l.length-(intOf i).toNat)
 case atStart=>exact⟨0,Nat.zero_le _,rfl,zb2.zero _,Below.refl _ _⟩
 obtain⟨k,Q,rfl,d,a⟩:=hrel;have G:=(a.cell (p:=⟨w.heap.size,2,none⟩) g).trans B;have q:=(n.trans (a.mono (Nat.le_of_lt g)));by_cases j:k<l.length
 . have c:=C k j;have H:=(a.cell (p:=⟨b,off+k*2,none⟩) (by simp;omega)).trans ((n.cell (p:=⟨b,off+k*2,none⟩) A).trans c.1);have K:=(a.cell (p:=⟨b,off+k*2+1,none⟩) (by simp;omega)).trans ((n.cell (p:=⟨b,off+k*2+1,none⟩) A).trans c.2);clear c;have L:w.heap.size<wr.heap.size:=Nat.lt_of_lt_of_le g a.size;have M:b<wr.heap.size:=by omega
   cases y:insB (shAt l k).1
   . have h:=I (t.1.trans (d.bad j (.inl y)));go_wp2_with (first|(go_at_call 149;refine cb (zca _ _) ?_)|(go_at_call 148;refine cb (zaV _ _) ?_))
     go_ret;exact⟨ze h.1.symm,(q.alloc (Nat.le_trans (Nat.le_of_lt g) a.size) _)⟩
   cases z:offB (shAt l k).2
   . have h:=I (t.1.trans (d.bad j (.inr z)));go_wp2_with (first|(go_at_call 149;refine cb (zca _ _) ?_)|(go_at_call 148;refine cb (zaV _ _) ?_))
     go_ret;exact⟨ze h.1.symm,(q.alloc (Nat.le_trans (Nat.le_of_lt g) a.size) _)⟩
   by_cases E:k=0
   . have r:=I (d.step j y z (.inl E));have R:decide (0<k)=false:=by simp;omega
     clear E;go_wp2_with (first|(go_at_call 149;refine cb (zca _ _) ?_)|(go_at_call 148;refine cb (zaV _ _) ?_))
     go_quiet (fail)
     go_wp2
     go_roundw
     case rel=>exact⟨k+1,by omega,by go_num,r.1,below_drewN (a.alloc a.size _) _⟩
     case measure=>simp[intOf];omega
   obtain⟨m,rfl⟩:∃m,k=m+1:=⟨k-1,by omega⟩;have c:=C m (by omega);have N:=(a.cell (p:=⟨b,off+m*2,none⟩) (by simp;omega)).trans ((n.cell (p:=⟨b,off+m*2,none⟩) A).trans c.1);clear c;by_cases F:(shAt l (m+1)).1<=(shAt l m).1
   . have h:=I (t.1.trans (d.order j y z (by omega) F));go_wp2_with (first|(go_at_call 149;refine cb (zca _ _) ?_)|(go_at_call 148;refine cb (zaV _ _) ?_))
     go_quiet (fail)
     go_wp2
     go_ret;exact⟨ze h.1.symm,below_drewN (q.alloc (Nat.le_trans (Nat.le_of_lt g) a.size) _) _⟩
   have r:=I (d.step j y z (.inr (Int.not_le.1 F)));go_wp2_with (first|(go_at_call 149;refine cb (zca _ _) ?_)|(go_at_call 148;refine cb (zaV _ _) ?_))
   go_quiet (fail)
   go_wp2
   go_roundw
   case rel=>exact⟨m+1+1,by omega,by go_num,r.1,below_drewN (a.alloc a.size _) _⟩
   case measure=>simp[intOf];omega
 obtain rfl:k=l.length:=by omega
 have h:=I (t.1.trans d.done);go_wp2
 go_ret;exact⟨ze h.1.symm,q⟩
theorem zer(s:ByteArray)(o:Int)(l:List (Int×Int))(a:Option Addr)(cap:Nat)(w:World)(d:s.size<=maxLen)(f:l.length<=1000000)(g:ShAt w a l):
 Calls prog 99 #[.agg #[.string s,o,.slice a l.length cap]] w λe w'=>e=.returned (zG s.data.toList o l)/\Bw w w':=by
 rcases g with rfl|⟨b,c,rfl,h,i⟩
 . exact zkr s o a cap w d
 exact zi9 s o l b c cap w d f h i
theorem zjb(s:ByteArray)(o:Int)(a:Option Addr)(cap:Nat)(w:World)(d:s.size<=maxLen):
 Calls prog 117 #[.agg #[.string s,o,.slice a 0 cap]] w λe b=>e=.returned (zG s.data.toList o [])/\Bw w b:=by
 cases f:zb0 s.data.toList
 . have c:=I (show zG s.data.toList o []=1 from by simp[zG,f]);go_enter func117,ntmps117
   go_wp2_with (first|(go_at_call 164;refine cb (zU _ _ d) ?_)|(go_at_call 165;refine cb (zaE _ _) ?_))
   go_ret;exact⟨ze c.1.symm,(Below.refl _ _).alloc (Nat.le_refl _) _⟩
 cases g:offB o
 . have c:=I (show zG s.data.toList o []=5 from by simp[zG,f,g]);go_enter func117,ntmps117
   go_wp2_with (first|(go_at_call 164;refine cb (zU _ _ d) ?_)|(go_at_call 165;refine cb (zaE _ _) ?_))
   go_ret;exact⟨ze c.1.symm,(Below.refl _ _).alloc (Nat.le_refl _) _⟩
 have c:=I (show zG s.data.toList o []=0 from by simp[zG,f,g,zak]);go_enter func117,ntmps117
 go_wp2_with (first|(go_at_call 164;refine cb (zU _ _ d) ?_)|(go_at_call 165;refine cb (zaE _ _) ?_))
 go_loop [3] (λi=>i=.int .i64 0) (λ_=>0)
 case atStart=>rfl
 subst hrel;go_wp2
 go_ret;exact⟨ze c.1.symm,(Below.refl _ _).alloc (Nat.le_refl _) _⟩
theorem zie(s:ByteArray)(o:Int)(l:List (Int×Int))(b off cap:Nat)(w:World)(v:s.size<=maxLen)(P:l.length<=1000000)(A:b<w.heap.size)(C:zdL w b off l):
 Calls prog 117 #[.agg #[.string s,o,.slice (some ⟨b,off,none⟩) l.length cap]] w λe f=>e=.returned (zG s.data.toList o l)/\Bw w f:=by
 cases u:zb0 s.data.toList
 . have g:=I (show zG s.data.toList o l=1 from by simp[zG,u]);go_enter func117,ntmps117
   go_wp2_with (first|(go_at_call 164;refine cb (zU _ _ v) ?_)|(go_at_call 165;refine cb (zaE _ _) ?_))
   go_ret;exact⟨ze g.1.symm,(Below.refl _ _).alloc (Nat.le_refl _) _⟩
 cases x:offB o
 . have g:=I (show zG s.data.toList o l=5 from by simp[zG,u,x]);go_enter func117,ntmps117
   go_wp2_with (first|(go_at_call 164;refine cb (zU _ _ v) ?_)|(go_at_call 165;refine cb (zaE _ _) ?_))
   go_ret;exact⟨ze g.1.symm,(Below.refl _ _).alloc (Nat.le_refl _) _⟩
 by_cases D:16<l.length
 . have g:=I (show zG s.data.toList o l=10 from by simp[zG,u,x,D]);go_enter func117,ntmps117
   go_wp2_with (first|(go_at_call 164;refine cb (zU _ _ v) ?_)|(go_at_call 165;refine cb (zaE _ _) ?_))
   go_ret;exact⟨ze g.1.symm,(Below.refl _ _).alloc (Nat.le_refl _) _⟩
 go_enter func117,ntmps117
 go_wp2_with (first|(go_at_call 164;refine cb (zU _ _ v) ?_)|(go_at_call 165;refine cb (zaE _ _) ?_))
 have t:zG s.data.toList o l=zak none l:=by simp[zG,u,x,D]
 have t:=I t;clear u x;generalize hW:w.alloc (Obj.cells #[.string s,.int IntKind.i64 o,.slice (some {block:=b,off:=off}) l.length cap] 109)=W;have j:Bw w W:=by rw[<-hW];exact(Below.refl _ _).alloc (Nat.le_refl _) _
 have n:w.heap.size<W.heap.size:=by rw[<-hW];simp
 have B:W.cell? ⟨w.heap.size,2,none⟩=some (Value.slice (some {block:=b,off:=off}) l.length cap):=by clear j n;subst hW;go_simp
 clear hW;go_loopw [3] (λi wr=>∃k:Nat,k<=l.length/\i=.int .i64 k/\zb2 l k/\Bw W wr) (λi _=>l.length-(intOf i).toNat)
 case atStart=>exact⟨0,Nat.zero_le _,rfl,zb2.zero _,Below.refl _ _⟩
 obtain⟨k,Q,rfl,d,c⟩:=hrel;have G:=(c.cell (p:=⟨w.heap.size,2,none⟩) n).trans B;have q:=(j.trans (c.mono (Nat.le_of_lt n)));by_cases h:k<l.length
 . have a:=C k h;have H:=(c.cell (p:=⟨b,off+k*2,none⟩) (by simp;omega)).trans ((j.cell (p:=⟨b,off+k*2,none⟩) A).trans a.1);have K:=(c.cell (p:=⟨b,off+k*2+1,none⟩) (by simp;omega)).trans ((j.cell (p:=⟨b,off+k*2+1,none⟩) A).trans a.2);clear a;have L:w.heap.size<wr.heap.size:=Nat.lt_of_lt_of_le n c.size;have M:b<wr.heap.size:=by omega
   cases y:insB (shAt l k).1
   . have g:=I (t.1.trans (d.bad h (.inl y)));go_wp2_with (first|(go_at_call 166;refine cb (zbS _ _) ?_)|(go_at_call 165;refine cb (zaE _ _) ?_))
     go_ret;exact⟨ze g.1.symm,q⟩
   cases z:offB (shAt l k).2
   . have g:=I (t.1.trans (d.bad h (.inr z)));go_wp2_with (first|(go_at_call 166;refine cb (zbS _ _) ?_)|(go_at_call 165;refine cb (zaE _ _) ?_))
     go_ret;exact⟨ze g.1.symm,q⟩
   by_cases E:k=0
   . have r:=I (d.step h y z (.inl E));have R:decide (0<k)=false:=by simp;omega
     clear E;go_wp2_with (first|(go_at_call 166;refine cb (zbS _ _) ?_)|(go_at_call 165;refine cb (zaE _ _) ?_))
     go_quiet (fail)
     go_wp2
     go_roundw
     case rel=>exact⟨k+1,by omega,by go_num,r.1,below_drewN c _⟩
     case measure=>simp[intOf];omega
   obtain⟨m,rfl⟩:∃m,k=m+1:=⟨k-1,by omega⟩;have a:=C m (by omega);have N:=(c.cell (p:=⟨b,off+m*2,none⟩) (by simp;omega)).trans ((j.cell (p:=⟨b,off+m*2,none⟩) A).trans a.1);clear a;by_cases F:(shAt l (m+1)).1<=(shAt l m).1
   . have g:=I (t.1.trans (d.order h y z (by omega) F));go_wp2_with (first|(go_at_call 166;refine cb (zbS _ _) ?_)|(go_at_call 165;refine cb (zaE _ _) ?_))
     go_quiet (fail)
     go_wp2
     go_ret;exact⟨ze g.1.symm,below_drewN q _⟩
   have r:=I (d.step h y z (.inr (Int.not_le.1 F)));go_wp2_with (first|(go_at_call 166;refine cb (zbS _ _) ?_)|(go_at_call 165;refine cb (zaE _ _) ?_))
   go_quiet (fail)
   go_wp2
   go_roundw
   case rel=>exact⟨m+1+1,by omega,by go_num,r.1,below_drewN c _⟩
   case measure=>simp[intOf];omega
 obtain rfl:k=l.length:=by omega
 have g:=I (t.1.trans d.done);go_wp2
 go_ret;exact⟨ze g.1.symm,q⟩
theorem zd4(s:ByteArray)(o:Int)(l:List (Int×Int))(a:Option Addr)(cap:Nat)(w:World)(d:s.size<=maxLen)(f:l.length<=1000000)(g:ShAt w a l):
 Calls prog 117 #[.agg #[.string s,o,.slice a l.length cap]] w λe w'=>e=.returned (zG s.data.toList o l)/\Bw w w':=by
 rcases g with rfl|⟨b,c,rfl,h,i⟩
 . exact zjb s o a cap w d
 exact zie s o l b c cap w d f h i
theorem zk5(s:ByteArray)(o t:Int)(a:Option Addr)(cap:Nat)(w:World):
 Calls prog 114 #[.agg #[.string s,o,.slice a 0 cap],t] w λe w'=>e=.returned (offP o [] t)/\Bw w w':=by
 go_enter func114,ntmps114
 go_wp2
 go_loop [5,13] (λm i=>m=.int .i64 o/\i=.int .i64 0) (λ_ _=>0)
 case atStart=>exact⟨rfl,rfl⟩
 obtain⟨rfl,rfl⟩:=hrel;go_wp2
 go_ret;exact⟨rfl,(Below.refl _ _).alloc (Nat.le_refl _) _⟩
theorem zjz(s:ByteArray)(o t:Int)(l:List (Int×Int))(b off cap:Nat)(w:World)(A:l.length<=1000000)(r:b<w.heap.size)(v:zdL w b off l):
 Calls prog 114 #[.agg #[.string s,o,.slice (some ⟨b,off,none⟩) l.length cap],t] w λe w'=>e=.returned (offP o l t)/\Bw w w':=by
 go_enter func114,ntmps114
 go_wp2
 generalize hW:w.alloc (Obj.cells #[.string s,.int IntKind.i64 o,.slice (some {block:=b,off:=off}) l.length cap] 109)=W;have g:Bw w W:=by rw[<-hW];exact(Below.refl _ _).alloc (Nat.le_refl _) _
 have h:w.heap.size<W.heap.size:=by rw[<-hW];simp
 clear hW;go_loopw [5,13] (λm i wr=>∃(n:Int) (k:Nat),k<=l.length/\i=.int .i64 k/\m=.int .i64 n/\ztR (offP o l t=offP n (l.drop k) t)/\Bw W wr) (λ_ i _=>l.length-(intOf i).toNat)
 case atStart=>exact⟨o,0,Nat.zero_le _,rfl,rfl,I rfl,Below.refl _ _⟩
 obtain⟨n,k,B,rfl,rfl,d,a⟩:=hrel;have j:=(g.trans (a.mono (Nat.le_of_lt h)));by_cases f:k<l.length
 . have c:=v k f;have x:=(a.cell (p:=⟨b,off+k*2,none⟩) (by simp;omega)).trans ((g.cell (p:=⟨b,off+k*2,none⟩) r).trans c.1);have y:=(a.cell (p:=⟨b,off+k*2+1,none⟩) (by simp;omega)).trans ((g.cell (p:=⟨b,off+k*2+1,none⟩) r).trans c.2);clear c;have z:w.heap.size<wr.heap.size:=Nat.lt_of_lt_of_le h a.size;by_cases u:t<(shAt l k).1
   . have q:=I (d.1.trans (zij f u));go_wp2
     go_ret;exact⟨ze q.1.symm,j.alloc (Nat.le_trans (Nat.le_of_lt h) a.size) _⟩
   have q:=I (d.1.trans (zik f u));go_wp2
   go_roundw
   case rel=>exact⟨_,k+1,by omega,by go_num,rfl,q,a.alloc a.size _⟩
   case measure=>simp[intOf];omega
 have q:=I (d.1.trans (zil f));go_wp2
 go_ret;exact⟨ze q.1.symm,j⟩
theorem zk6(s:ByteArray)(o t:Int)(l:List (Int×Int))(a:Option Addr)(cap:Nat)(w:World)(d:l.length<=1000000)(f:ShAt w a l):
 Calls prog 114 #[.agg #[.string s,o,.slice a l.length cap],t] w λe w'=>e=.returned (offP o l t)/\Bw w w':=by
 rcases f with rfl|⟨b,c,rfl,g,h⟩
 . exact zk5 s o t a cap w
 exact zjz s o t l b c cap w d g h
theorem zfD(s:ByteArray)(o t:Int)(a:Option Addr)(cap:Nat)(w:World):
 Calls prog 162 #[.agg #[.string s,o,.slice a 0 cap],t] w λe w'=>e=.returned (offR o [] t)/\Bw w w':=by
 go_enter func162,ntmps162
 go_wp2
 go_loop [5,6] (λm i=>m=.int .i64 o/\i=.int .i64 0) (λ_ _=>0)
 case atStart=>exact⟨rfl,rfl⟩
 obtain⟨rfl,rfl⟩:=hrel;go_wp2
 go_ret;exact⟨rfl,(Below.refl _ _).alloc (Nat.le_refl _) _⟩
theorem ze0(s:ByteArray)(o t:Int)(l:List (Int×Int))(b off cap:Nat)(w:World)(y:l.length<=1000000)(j:b<w.heap.size)(r:zdL w b off l):
 Calls prog 162 #[.agg #[.string s,o,.slice (some ⟨b,off,none⟩) l.length cap],t] w λe w'=>e=.returned (offR o l t)/\Bw w w':=by
 go_enter func162,ntmps162
 go_wp2
 generalize hW:w.alloc (Obj.cells #[.string s,.int IntKind.i64 o,.slice (some {block:=b,off:=off}) l.length cap] 109)=W;have d:Bw w W:=by rw[<-hW];exact(Below.refl _ _).alloc (Nat.le_refl _) _
 have h:w.heap.size<W.heap.size:=by rw[<-hW];simp
 have u:W.cell? ⟨w.heap.size,2,none⟩=some (Value.slice (some {block:=b,off:=off}) l.length cap):=by clear d h;subst hW;go_simp
 clear hW;go_loop [5,6] (λm i=>∃(n:Int) (k:Nat),k<=l.length/\i=.int .i64 k/\m=.int .i64 n/\ztR (offR o l t=offR n (l.drop k) t)) (λ_ i=>l.length-(intOf i).toNat)
 case atStart=>exact⟨o,0,Nat.zero_le _,rfl,rfl,I rfl⟩
 obtain⟨n,k,z,rfl,rfl,c⟩:=hrel;by_cases f:k<l.length
 . have a:=r k f;have v:=((d.cell (p:=⟨b,off+k*2,none⟩) j).trans a.1);have x:=((d.cell (p:=⟨b,off+k*2+1,none⟩) j).trans a.2);clear a;by_cases q:(shAt l k).1<=t
   . have g:=I (c.1.trans (zjA f q));go_wp2
     go_round
     case rel=>exact⟨_,k+1,by omega,by go_num,rfl,g⟩
     case measure=>simp[intOf];omega
   have g:=I (c.1.trans (zk7 f q));go_wp2
   go_round
   case rel=>exact⟨_,k+1,by omega,by go_num,rfl,g⟩
   case measure=>simp[intOf];omega
 have g:=I (c.1.trans (zii f));go_wp2
 go_ret;exact⟨ze g.1.symm,d⟩
theorem zaY(s:ByteArray)(o t:Int)(l:List (Int×Int))(a:Option Addr)(cap:Nat)(w:World)(d:l.length<=1000000)(f:ShAt w a l):
 Calls prog 162 #[.agg #[.string s,o,.slice a l.length cap],t] w λe w'=>e=.returned (offR o l t)/\Bw w w':=by
 rcases f with rfl|⟨b,c,rfl,g,h⟩
 . exact zfD s o t a cap w
 exact ze0 s o t l b c cap w d g h
theorem zj9{W a:World}(c:Bw W a):(∀b o,b<W.heap.size->a.cell? ⟨b,o,none⟩=W.cell? ⟨b,o,none⟩)/\(∀b o,b<W.heap.size->a.frozen? ⟨b,o,none⟩=W.frozen? ⟨b,o,none⟩):=
 ⟨λb o h=>c.cell (p:=⟨b,o,none⟩) h,λb o h=>c.frozen (p:=⟨b,o,none⟩) h⟩
theorem Below.then{w W a:World}(h:Bw w W)(b:Bw W a):Bw w a:=h.trans (b.mono h.size)
theorem zgS{i j k:IntKind}{a b c d e f:Int}(h:a=b)(l:c=d)(g:e=f):Ending.returned (.tuple #[.int i a,.int j c,.int k e])=.returned (.tuple #[.int i b,.int j d,.int k f]):=by rw[h,l,g]
theorem zeK(s:ByteArray)(o t:Int)(l:List (Int×Int))(a:Option Addr)(cap:Nat)(w:World)(n:s.size<=maxLen)(i:l.length<=1000000)(j:ShAt w a l):
 Calls prog 145 #[.agg #[.string s,o,.slice a l.length cap],t] w λe g=>e=.returned (.tuple #[.int .i64 (zaB s.data.toList o l t).1,.int .i64 (zaB s.data.toList o l t).2])/\Bw w g:=by
 have k:=I (λW (h:Bw w W)=>j.below h);clear j;go_enter func145,ntmps145
 go_wp2_with fail;refine ca (zer s o l a cap _ n i (k.1 _ ((Below.refl _ _).alloc (Nat.le_refl _) _))) λp f=>?_;have b:=Below.then ((Below.refl _ _).alloc (Nat.le_refl _) _) f;have q:w.heap.size<p.heap.size:=by have:=f.size;simp at this;omega
 obtain⟨v,x⟩:=zj9 f;by_cases c:zG s.data.toList o l=0
 . have r:=I c;have u:(zG s.data.toList o l !=0)=false:=by simpa using c
   cases m:insB t
   . have d:=I (show zaB s.data.toList o l t=(0,5) from by simp[zaB,c,m]);clear c;go_wp2_with (go_at_call 149;refine cb (zca _ _) ?_)
     go_ret2;exact⟨zJ (by rw[d.1]) (by rw[d.1]),b⟩
   have d:=I (show zaB s.data.toList o l t=(offP o l t,0) from by simp[zaB,c,m]);clear c;go_wp2_with (first|(go_at_call 149;refine cb (zca _ _) ?_)|(go_at_call 114;refine ca (zk6 s o t l a cap _ i (k.1 _ b)) λw2 hb3=>?_))
   go_ret2;exact⟨zJ (by rw[d.1]) (by rw[d.1]),Below.then b hb3⟩
 have d:=I (show zaB s.data.toList o l t=(0,zG s.data.toList o l) from by simp[zaB,c]);have u:(zG s.data.toList o l !=0)=true:=by simpa using c
 clear c;go_wp2_with fail;go_ret2;exact⟨zJ (by rw[d.1]) (by rw[d.1]),b⟩
theorem zkj(s:ByteArray)(o t:Int)(l:List (Int×Int))(a:Option Addr)(cap:Nat)(w:World)(p:s.size<=maxLen)(j:l.length<=1000000)(k:ShAt w a l):
 Calls prog 198 #[.agg #[.string s,o,.slice a l.length cap],t] w λe g=>e=.returned (.tuple #[.int .i64 (zaB s.data.toList o l t).1,.int .i64 (zaB s.data.toList o l t).2])/\Bw w g:=by
 have m:=I (λW (h:Bw w W)=>k.below h);clear k;go_enter func198,ntmps198
 go_wp2_with fail;refine ca (zd4 s o l a cap _ p j (m.1 _ ((Below.refl _ _).alloc (Nat.le_refl _) _))) λq f=>?_;have b:=Below.then ((Below.refl _ _).alloc (Nat.le_refl _) _) f;have r:w.heap.size<q.heap.size:=by have:=f.size;simp at this;omega
 obtain⟨v,x⟩:=zj9 f;by_cases c:zG s.data.toList o l=0
 . have i:=I c;have u:(zG s.data.toList o l !=0)=false:=by simpa using c
   cases n:insB t
   . have d:=I (show zaB s.data.toList o l t=(0,5) from by simp[zaB,c,n]);clear c;go_wp2_with (go_at_call 166;refine cb (zbS _ _) ?_)
     go_ret2;exact⟨zJ (by rw[d.1]) (by rw[d.1]),b⟩
   have d:=I (show zaB s.data.toList o l t=(offP o l t,0) from by simp[zaB,c,n]);clear c;go_wp2_with (first|(go_at_call 166;refine cb (zbS _ _) ?_)|(go_at_call 162;refine ca (zaY s o t l a cap _ j (m.1 _ b)) λw2 hb3=>?_))
   go_ret2;exact⟨zJ (by rw[d.1];exact(zdy l none o t (zbg i.1).2.2.2).symm) (by rw[d.1]),Below.then b hb3⟩
 have d:=I (show zaB s.data.toList o l t=(0,zG s.data.toList o l) from by simp[zaB,c]);have u:(zG s.data.toList o l !=0)=true:=by simpa using c
 clear c;go_wp2_with fail;go_ret2;exact⟨zJ (by rw[d.1]) (by rw[d.1]),b⟩
theorem zh8(s:ByteArray)(o t:Int)(l:List (Int×Int))(a:Option Addr)(cap:Nat)(w:World)(j:s.size<=maxLen)(k:l.length<=1000000)(i:ShAt w a l):
 Calls prog 189 #[.agg #[.string s,o,.slice a l.length cap],t] w λe w'=>e=.returned (.tuple #[.int .i64 (zbJ s.data.toList o l t).1,.int .i64 (zbJ s.data.toList o l t).2])/\Bw w w':=by
 have m:=I (λW (h:Bw w W)=>i.below h);clear i;have c:=I (zex (nm:=s.data.toList) (o:=o) (l:=l) (t:=t));have b:=I (ziR s.data.toList o l t);go_enter func189,ntmps189
 go_wp2_with fail;refine ca (zeK s o t l a cap _ j k (m.1 _ ((Below.refl _ _).alloc (Nat.le_refl _) _))) λn d=>?_;have f:=Below.then ((Below.refl _ _).alloc (Nat.le_refl _) _) d;obtain⟨q,u⟩:=zj9 d;generalize zaB s.data.toList o l t=p at*;obtain⟨r,e⟩:=p;simp only at*;by_cases g:e=0
 . subst g;have c:=c.1 rfl;go_wp2_with fail;go_ret2;exact⟨zJ (by rw[b.1];simp) (by rw[b.1];simp),f⟩
 have v:(e !=0)=true:=by simpa using g
 go_wp2_with fail;go_ret2;exact⟨zJ (by rw[b.1];simp[g]) (by rw[b.1];simp[g]),f⟩
theorem zgO(s:ByteArray)(o t:Int)(l:List (Int×Int))(a:Option Addr)(cap:Nat)(w:World)(j:s.size<=maxLen)(k:l.length<=1000000)(i:ShAt w a l):
 Calls prog 167 #[.agg #[.string s,o,.slice a l.length cap],t] w λe w'=>e=.returned (.tuple #[.int .i64 (zbJ s.data.toList o l t).1,.int .i64 (zbJ s.data.toList o l t).2])/\Bw w w':=by
 have m:=I (λW (h:Bw w W)=>i.below h);clear i;have c:=I (zex (nm:=s.data.toList) (o:=o) (l:=l) (t:=t));have b:=I (ziR s.data.toList o l t);go_enter func167,ntmps167
 go_wp2_with fail;refine ca (zkj s o t l a cap _ j k (m.1 _ ((Below.refl _ _).alloc (Nat.le_refl _) _))) λn d=>?_;have f:=Below.then ((Below.refl _ _).alloc (Nat.le_refl _) _) d;obtain⟨q,u⟩:=zj9 d;generalize zaB s.data.toList o l t=p at*;obtain⟨r,e⟩:=p;simp only at*;by_cases g:e=0
 . subst g;have c:=c.1 rfl;go_wp2_with fail;go_ret2;exact⟨zJ (by rw[b.1];simp) (by rw[b.1];simp),f⟩
 have v:(e !=0)=true:=by simpa using g
 go_wp2_with fail;go_ret2;exact⟨zJ (by rw[b.1];simp[g]) (by rw[b.1];simp[g]),f⟩
theorem zfZ(s:ByteArray)(o t:Int)(l:List (Int×Int))(a:Option Addr)(cap:Nat)(w:World)(j:s.size<=maxLen)(k:l.length<=1000000)(g:ShAt w a l):
 Calls prog 146 #[.agg #[.string s,o,.slice a l.length cap],t] w λe i=>e=.returned (.tuple #[.int .i64 (zbj s.data.toList o l t).1,.int .i64 (zbj s.data.toList o l t).2.1,.int .i64 (zbj s.data.toList o l t).2.2])/\Bw w i:=by
 have m:=I (λW (h:Bw w W)=>g.below h);clear g;have n:=(ziS (nm:=s.data.toList) (o:=o) (l:=l) (t:=t));have b:=I (zhB s.data.toList o l t);go_enter func146,ntmps146
 go_wp2_with fail;refine ca (zh8 s o t l a cap _ j k (m.1 _ ((Below.refl _ _).alloc (Nat.le_refl _) _))) λq c=>?_;have d:=Below.then ((Below.refl _ _).alloc (Nat.le_refl _) _) c;obtain⟨u,v⟩:=zj9 c;generalize zbJ s.data.toList o l t=p at*;obtain⟨r,e⟩:=p;simp only at*;by_cases f:e=0
 . subst f;go_wp2_with (go_at_call 113;refine cb (zkO _ _ (by omega) (by omega)) ?_)
   go_ret3
   exact⟨zgS (by rw[b.1];simp) (by rw[b.1];simp) (by rw[b.1];simp),d⟩
 have x:(e !=0)=true:=by simpa using f
 go_wp2_with fail;go_ret3
 exact⟨zgS (by rw[b.1];simp[f]) (by rw[b.1];simp[f]) (by rw[b.1];simp[f]),d⟩
theorem ziv(s:ByteArray)(o t:Int)(l:List (Int×Int))(a:Option Addr)(cap:Nat)(w:World)(j:s.size<=maxLen)(k:l.length<=1000000)(g:ShAt w a l):
 Calls prog 119 #[.agg #[.string s,o,.slice a l.length cap],t] w λe i=>e=.returned (.tuple #[.int .i64 (zbj s.data.toList o l t).1,.int .i64 (zbj s.data.toList o l t).2.1,.int .i64 (zbj s.data.toList o l t).2.2])/\Bw w i:=by
 have m:=I (λW (h:Bw w W)=>g.below h);clear g;have n:=(ziS (nm:=s.data.toList) (o:=o) (l:=l) (t:=t));have b:=I (zhB s.data.toList o l t);go_enter func119,ntmps119
 go_wp2_with fail;refine ca (zgO s o t l a cap _ j k (m.1 _ ((Below.refl _ _).alloc (Nat.le_refl _) _))) λq c=>?_;have d:=Below.then ((Below.refl _ _).alloc (Nat.le_refl _) _) c;obtain⟨u,v⟩:=zj9 c;generalize zbJ s.data.toList o l t=p at*;obtain⟨r,e⟩:=p;simp only at*;by_cases f:e=0
 . subst f;go_wp2_with (go_at_call 168;refine cb (zbp _ _ (by omega) (by omega)) ?_)
   go_ret3
   exact⟨zgS (by rw[b.1];simp) (by rw[b.1];simp) (by rw[b.1];simp),d⟩
 have x:(e !=0)=true:=by simpa using f
 go_wp2_with fail;go_ret3
 exact⟨zgS (by rw[b.1];simp[f]) (by rw[b.1];simp[f]) (by rw[b.1];simp[f]),d⟩
def ZBox(w:World)(z:Nat)(s:ByteArray)(o:Int)(a:Option Addr)(n cap:Nat):Prop:=
 z<w.heap.size/\w.cell? ⟨z,0,none⟩=some (.string s)/\w.cell? ⟨z,1,none⟩=some (.int .i64 o)/\w.cell? ⟨z,2,none⟩=some (.slice a n cap)
def SBox(w:World)(z:Nat)(x y:Int):Prop:=
 z<w.heap.size/\w.cell? ⟨z,0,none⟩=some (.int .i64 x)/\w.cell? ⟨z,1,none⟩=some (.int .i64 y)
theorem ZBox.below{w w':World}{z:Nat}{s:ByteArray}{o:Int}{a:Option Addr}{n cap:Nat}(h:ZBox w z s o a n cap)(b:Bw w w'):ZBox w' z s o a n cap:=
 ⟨Nat.lt_of_lt_of_le h.1 b.size,(b.cell (p:=⟨z,0,none⟩) h.1).trans h.2.1,(b.cell (p:=⟨z,1,none⟩) h.1).trans h.2.2.1,(b.cell (p:=⟨z,2,none⟩) h.1).trans h.2.2.2⟩
theorem SBox.below{w w':World}{z:Nat}{x y:Int}(h:SBox w z x y)(a:Bw w w'):SBox w' z x y:=
 ⟨Nat.lt_of_lt_of_le h.1 a.size,(a.cell (p:=⟨z,0,none⟩) h.1).trans h.2.1,(a.cell (p:=⟨z,1,none⟩) h.1).trans h.2.2⟩
theorem ZBox.new(w:World)(s:ByteArray)(o:Int)(a:Option Addr)(n cap:Nat):ZBox (w.alloc (Obj.cells #[.string s,.int IntKind.i64 o,.slice a n cap] 109)) w.heap.size s o a n cap:=by
 refine⟨by simp,?_,?_,?_⟩ <;> go_simp
theorem SBox.new(w:World)(x y:Int):SBox (w.alloc (Obj.cells #[.int IntKind.i64 x,.int IntKind.i64 y] 144)) w.heap.size x y:=by
 refine⟨by simp,?_,?_⟩ <;> go_simp
theorem J(w:World)(o:Obj):Bw w (w.alloc o):=(Below.refl _ _).alloc (Nat.le_refl _) _
theorem zj8(w:World)(s:ByteArray)(o:Int)(a:Option Addr)(n cap:Nat)(x y:Int):
 let W:=(w.alloc (Obj.cells #[.string s,.int IntKind.i64 o,.slice a n cap] 109)).alloc (Obj.cells #[.int IntKind.i64 x,.int IntKind.i64 y] 144)
 ZBox W w.heap.size s o a n cap/\SBox W (w.heap.size+1) x y/\Bw w W:=by
 intro W;refine⟨(ZBox.new w s o a n cap).below (J _ _),?_,Below.then (J _ _) (J _ _)⟩;have:=SBox.new (w.alloc (Obj.cells #[.string s,.int IntKind.i64 o,.slice a n cap] 109)) x y;simpa using this
theorem zvk{P:Program}{f:FuncId}{a:Array Value}{w:World}{v:Value}(h:Calls P f a w λe w'=>e=.returned v/\w=w'):Calls P f a w λe w'=>e=.returned v/\Bw w w':=
 h.mono λ_ _ ⟨he,hw⟩=>⟨he,hw ▸ Below.refl _ _⟩
theorem zvs(s:ByteArray)(o x y:Int)(l:List (Int×Int))(a:Option Addr)(cap:Nat)(w:World)(hs:s.size<=maxLen)(Q:l.length<=1000000)(U:ShAt w a l):
 Calls prog 70 #[.agg #[.string s,o,.slice a l.length cap],.agg #[x,y]] w λe w'=>e=.returned (.tuple #[.int .i64 (z9 s.data.toList o l x y).1,.int .i64 (z9 s.data.toList o l x y).2.1,.int .i64 (z9 s.data.toList o l x y).2.2])/\Bw w w':=by
 have R:=I (λW (h:Bw w W)=>U.below h);clear U;go_enter func70,ntmps70
 go_wp2_with fail;obtain⟨j,k,q⟩:=zj8 w s o a l.length cap x y;generalize ((w.alloc (Obj.cells #[.string s,.int IntKind.i64 o,.slice a l.length cap] 109)).alloc (Obj.cells #[.int IntKind.i64 x,.int IntKind.i64 y] 144))=W at*;refine ca (zer s o l a cap _ hs Q (R.1 _ q)) λw1 m=>?_;have g:=Below.then q m;replace j:=j.below m;replace k:=k.below m;obtain⟨K,z,A,B⟩:=I j |>.1;obtain⟨L,C,D⟩:=I k |>.1;clear m q;clear W;by_cases f:zG s.data.toList o l=0
 . have a0:=I f;have hn:(zG s.data.toList o l !=0)=false:=by simpa using f
   cases M:spnB x y
   . have c:=I (show z9 s.data.toList o l x y=(0,0,5) from by simp[z9,f,M]);clear f;go_wp2_with (go_at_call 112;refine ca (zgQ _ _ _) λr b=>?_)
     go_ret3
     exact⟨zgS (by rw[c.1]) (by rw[c.1]) (by rw[c.1]),Below.then g b⟩
   by_cases G:x=y
   . have c:=I (show z9 s.data.toList o l x y=(0,0,8) from by unfold z9;rw[if_neg (by simp[f]),if_neg (by simp[M]),if_pos G]);have S:(x==y)=true:=by simpa using G
     clear f G;go_wp2_with fail;refine ca (zgQ _ _ _) λr b=>?_;obtain⟨hc,hf⟩:=zj9 b;go_wp2_with fail;go_ret3
     exact⟨zgS (by rw[c.1]) (by rw[c.1]) (by rw[c.1]),Below.then g b⟩
   have c:=I (show z9 s.data.toList o l x y=((x+offP o l x)/1440,(y-1+offP o l (y-1))/1440,0) from by simp[z9,f,M,G]);have S:(x==y)=false:=by simpa using G
   have a1:=zrn M;have a2:=off_bd f x;have a3:=off_bd f (y-1);clear f;go_wp2_with fail;refine ca (zgQ _ _ _) λr b=>?_;have u:=Below.then g b;replace j:=j.below b;replace k:=k.below b;clear b K z A B L C D g;clear w1;obtain⟨K,z,A,B⟩:=I j |>.1;obtain⟨L,C,D⟩:=I k |>.1;go_wp2_with fail;have V:=λd os=>cell_regrown z d os
   have X:=λd os=>cell_regrown A d os
   have Y:=λd os=>cell_regrown B d os
   have Z:=λd os=>cell_regrown C d os
   have r5:=λd os=>cell_regrown D d os
   have E:=I (λd os t=>Calls.regrown_of (zk6 s o t l a cap (grow (redrawn r d) os) Q ((R.1 _ u).below (below_regrown r d os))));have F:=I (λd os t h1 h2=>Calls.regrown_of (zvk (zkO t (grow (redrawn r d) os) h1 h2)));refine wp_region_quiet_below (by kernel_rfl) (by kernel_rfl) ?_;repeat (first|go_big_quiet_step (first|exact E.1 _ _ _|exact F.1 _ _ _ (by omega) (by omega))|quiet_step (first|exact E.1 _ _ _|exact F.1 _ _ _ (by omega) (by omega)))
   refine wpQuiet_nil ?_;intro _ v;obtain⟨⟨N,n⟩,i⟩:=v;subst i;have p:=below_regrown r N n;clear V X Y Z r5;generalize grow (redrawn r N) n=P at*;have H:=Below.then u p;replace j:=j.below p;replace k:=k.below p;clear p K z A B L C D u E F;obtain⟨K,z,A,B⟩:=I j |>.1;obtain⟨L,C,D⟩:=I k |>.1;go_wp2_with fail;have V:=λd os=>cell_regrown z d os
   have X:=λd os=>cell_regrown A d os
   have Y:=λd os=>cell_regrown B d os
   have Z:=λd os=>cell_regrown C d os
   have r5:=λd os=>cell_regrown D d os
   have E:=I (λd os t=>Calls.regrown_of (zk6 s o t l a cap (grow (redrawn P d) os) Q ((R.1 _ H).below (below_regrown P d os))));have F:=I (λd os t h1 h2=>Calls.regrown_of (zvk (zkO t (grow (redrawn P d) os) h1 h2)));refine wp_region_quiet_below (by kernel_rfl) (by kernel_rfl) ?_;repeat (first|go_big_quiet_step (first|exact E.1 _ _ _|exact F.1 _ _ _ (by omega) (by omega))|quiet_step (first|exact E.1 _ _ _|exact F.1 _ _ _ (by omega) (by omega)))
   refine wpQuiet_nil ?_;intro _ v;obtain⟨⟨N,n⟩,i⟩:=v;subst i;have T:=below_regrown P N n;go_wp2_with fail;go_ret3
   exact⟨zgS (by rw[c.1]) (by rw[c.1]) (by rw[c.1]),Below.then H T⟩
 have c:=I (show z9 s.data.toList o l x y=(0,0,zG s.data.toList o l) from by simp[z9,f]);have hn:(zG s.data.toList o l !=0)=true:=by simpa using f
 clear f;go_wp2_with fail;go_ret3
 exact⟨zgS (by rw[c.1]) (by rw[c.1]) (by rw[c.1]),g⟩
theorem zvi(s:ByteArray)(o x y:Int)(l:List (Int×Int))(a:Option Addr)(cap:Nat)(w:World)(F:s.size<=maxLen)(G:l.length<=1000000)(M:ShAt w a l):
 Calls prog 75 #[.agg #[.string s,o,.slice a l.length cap],.agg #[x,y]] w λe w'=>e=.returned (.tuple #[.int .i64 (z9 s.data.toList o l x y).1,.int .i64 (z9 s.data.toList o l x y).2.1,.int .i64 (z9 s.data.toList o l x y).2.2])/\Bw w w':=by
 have H:=I (λW (h:Bw w W)=>M.below h);clear M;go_enter func75,ntmps75
 go_wp2_with fail;obtain⟨g,i,m⟩:=zj8 w s o a l.length cap x y;generalize ((w.alloc (Obj.cells #[.string s,.int IntKind.i64 o,.slice a l.length cap] 109)).alloc (Obj.cells #[.int IntKind.i64 x,.int IntKind.i64 y] 144))=W at*;refine ca (zd4 s o l a cap _ F G (H.1 _ m)) λP j=>?_;have f:=Below.then m j;replace g:=g.below j;replace i:=i.below j;obtain⟨u,v,z,A⟩:=I g |>.1;obtain⟨B,C,D⟩:=I i |>.1;clear j m;clear W;by_cases d:zG s.data.toList o l=0
 . have p:=I d;have Q:(zG s.data.toList o l !=0)=false:=by simpa using d
   cases E:spnB x y
   . have c:=I (show z9 s.data.toList o l x y=(0,0,5) from by simp[z9,d,E]);clear d;go_wp2_with (go_at_call 118;refine ca (zdO _ _ _) λN b=>?_)
     go_ret3
     exact⟨zgS (by rw[c.1]) (by rw[c.1]) (by rw[c.1]),Below.then f b⟩
   by_cases q:x=y
   . have c:=I (show z9 s.data.toList o l x y=(0,0,8) from by unfold z9;rw[if_neg (by simp[d]),if_neg (by simp[E]),if_pos q]);have K:(x==y)=true:=by simpa using q
     clear d q;go_wp2_with fail;refine ca (zdO _ _ _) λN b=>?_;obtain⟨X,Y⟩:=zj9 b;go_wp2_with fail;go_ret3
     exact⟨zgS (by rw[c.1]) (by rw[c.1]) (by rw[c.1]),Below.then f b⟩
   have c:=I (show z9 s.data.toList o l x y=((x+offP o l x)/1440,(y-1+offP o l (y-1))/1440,0) from by simp[z9,d,E,q]);have K:(x==y)=false:=by simpa using q
   have R:=zrn E;have S:=off_bd d x;have T:=off_bd d (y-1);clear d;go_wp2_with fail;refine ca (zdO _ _ _) λN b=>?_;have n:=Below.then f b;replace g:=g.below b;replace i:=i.below b;clear b u v z A B C D f;clear P;obtain⟨u,v,z,A⟩:=I g |>.1;obtain⟨B,C,D⟩:=I i |>.1;go_wp2_with fail;refine ca (ziv s o x l a cap _ F G (H.1 _ n)) λZ k=>?_;have r:=Below.then n k;replace g:=g.below k;replace i:=i.below k;clear k u v z A B C D n;obtain⟨u,v,z,A⟩:=I g |>.1;obtain⟨B,C,D⟩:=I i |>.1;have U:=I (zvc (t:=x) p.1 (by omega));have V:=I (zvc (t:=y-1) p.1 (by omega));go_wp2_with fail;refine ca (ziv s o (y-1) l a cap _ F G (H.1 _ r)) λw4 L=>?_;go_wp2_with fail;go_ret3
   exact⟨zgS (by rw[c.1,U.1]) (by rw[c.1,V.1]) (by rw[c.1]),Below.then r L⟩
 have c:=I (show z9 s.data.toList o l x y=(0,0,zG s.data.toList o l) from by simp[z9,d]);have Q:(zG s.data.toList o l !=0)=true:=by simpa using d
 clear d;go_wp2_with fail;go_ret3
 exact⟨zgS (by rw[c.1]) (by rw[c.1]) (by rw[c.1]),f⟩
end Go.Proofs.YtbhhejkolnigfaaGreat
namespace Go.Proofs.YtbhhejkolnigfaaGreat
open Go.RowKit Go.Proofs.Tryz
def zb3(w:World)(b off:Nat)(cs:List Value):Prop:=∀j (h:j<cs.length),w.cell? ⟨b,off+j,none⟩=some cs[j]
theorem zb3.below{w w':World}{b a:Nat}{c:List Value}(h:zb3 w b a c)(d:b<w.heap.size)(e:Bw w w'):zb3 w' b a c:=
 λj hj=>(e.cell (p:=⟨b,a+j,none⟩) d).trans (h j hj)
structure RT(A:Type) where
 n:Nat
 rep:World->List Value->A->Prop
 len:∀{w cs a},rep w cs a->cs.length=n
 mono:∀{w w' cs a},rep w cs a->Below w.heap.size w w'->rep w' cs a
def RT.int:RT Int where
 n:=1
 rep _ cs a:=cs= [.int .i64 a]/\(Lit.int .i64 a).wf=true
 len h:=by rw[h.1];rfl
 mono h _:=h
def RT.bool:RT Bool where
 n:=1
 rep _ cs a:=cs= [.bool a]
 len h:=by rw[h];rfl
 mono h _:=h
def RT.str:RT ByteArray where
 n:=1
 rep _ cs a:=cs= [.string a]/\a.size<=140737488355328
 len h:=by rw[h.1];rfl
 mono h _:=h
def RT.prod{A B:Type}(r:RT A)(q:RT B):RT (A×B) where
 n:=r.n+q.n
 rep w cs a:=∃c d,cs=c++d/\r.rep w c a.1/\q.rep w d a.2
 len:=by
  rintro w cs a ⟨c,d,rfl,h1,h2⟩;rw[List.length_append,r.len h1,q.len h2]
 mono:=by
  rintro w w' cs a ⟨c,d,rfl,h1,h2⟩ hw;exact⟨c,d,rfl,r.mono h1 hw,q.mono h2 hw⟩
def SlAt{A:Type}(r:RT A)(w:World)(a:Option Addr)(l:List A):Prop:=
 l= []\/∃b off,a=some ⟨b,off,none⟩/\b<w.heap.size/\∀i (h:i<l.length),∃cs,zb3 w b (off+i*r.n) cs/\r.rep w cs l[i]
theorem SlAt.below{A:Type}{r:RT A}{w w':World}{a:Option Addr}{l:List A}(h:SlAt r w a l)(c:Bw w w'):SlAt r w' a l:=by
 rcases h with h|⟨b,d,h,e,f⟩
 . exact .inl h
 refine .inr ⟨b,d,h,Nat.lt_of_lt_of_le e c.size,λi hi=>?_⟩;obtain⟨g,j,k⟩:=f i hi;exact⟨g,j.below e c,r.mono k c⟩
def RT.sl{A:Type}(r:RT A):RT (List A) where
 n:=1
 rep w cs l:=∃a cap,cs= [.slice a l.length cap]/\l.length<=cap/\cap<=140737488355328/\SlAt r w a l
 len:=by rintro w cs a ⟨_,_,rfl,_⟩;rfl
 mono:=by
  rintro w w' cs l ⟨a,cap,h1,h2,h3,h4⟩ hw;exact⟨a,cap,h1,h2,h3,h4.below hw⟩
theorem SlAt.at{A:Type}{r:RT A}{w:World}{a:Option Addr}{l:List A}(h:SlAt r w a l)(c:0<l.length):
 ∃b off,a=some ⟨b,off,none⟩/\b<w.heap.size/\∀i (h:i<l.length),∃cs,zb3 w b (off+i*r.n) cs/\r.rep w cs l[i]:=by
 rcases h with rfl|h
 . simp at c
 exact h
def za3:RT (Int×Bool):=RT.prod RT.int RT.bool
def tAt(l:List (Int×Bool))(k:Nat):Int×Bool:=l.getD k (0,false)
def zfY(w:World)(b off:Nat)(l:List (Int×Bool)):Prop:=
 ∀i,i<l.length->w.cell? ⟨b,off+i*2,none⟩=some (.int .i64 (tAt l i).1)/\w.cell? ⟨b,off+i*2+1,none⟩=some (.bool (tAt l i).2)
theorem zfY.below{w w':World}{b a:Nat}{l:List (Int×Bool)}(h:zfY w b a l)(c:b<w.heap.size)(d:Bw w w'):zfY w' b a l:=
 λi hi=>⟨(d.cell (p:=⟨b,a+i*2,none⟩) c).trans (h i hi).1,(d.cell (p:=⟨b,a+i*2+1,none⟩) c).trans (h i hi).2⟩
theorem zbF{w:World}{a:Option Addr}{l:List (Int×Bool)}(h:SlAt za3 w a l)(j:0<l.length):∃b f,a=some ⟨b,f,none⟩/\b<w.heap.size/\zfY w b f l:=by
 obtain⟨b,f,k,m,n⟩:=h.at j;refine⟨b,f,k,m,λi hi=>?_⟩;obtain⟨q,g,c,d,rfl,⟨rfl,_⟩,rfl⟩:=n i hi;have e:tAt l i=l[i]:=by rw[tAt,List.getD_eq_getElem?_getD,List.getElem?_eq_getElem hi];rfl
 rw[e];have o:=g 0 (by simp);have p:=g 1 (by simp);exact⟨by simpa[za3,RT.prod,RT.int,RT.bool] using o,by simpa[za3,RT.prod,RT.int,RT.bool] using p⟩
end Go.Proofs.YtbhhejkolnigfaaGreat
namespace Go.Proofs.YtbhhejkolnigfaaGreat
open Go.RowKit Go.Sort Go.Proofs.Tryz

abbrev Duty:=List (Int×Bool)
def dutyRT:RT Duty:=RT.sl za3
def dAt(L:List Duty)(k:Nat):Duty:=L.getD k []
theorem zv3(l:List Duty)(k:Nat)(h:k<l.length):l.drop k=dAt l k::l.drop (k+1):=by
 rw[dAt,List.drop_eq_getElem_cons h,List.getD_eq_getElem?_getD,List.getElem?_eq_getElem h];rfl
def zuX(w:World)(b off:Nat)(L:List Duty):Prop:=
 ∀i,i<L.length->∃a cap,w.cell? ⟨b,off+i,none⟩=some (.slice a (dAt L i).length cap)/\(dAt L i).length<=140737488355328/\SlAt za3 w a (dAt L i)
theorem zuX.below{w w':World}{b c:Nat}{L:List Duty}(h:zuX w b c L)(f:b<w.heap.size)(e:Bw w w'):zuX w' b c L:=by
 intro i g;obtain⟨a,d,j,k,l⟩:=h i g;exact⟨a,d,(e.cell (p:=⟨b,c+i,none⟩) f).trans j,k,l.below e⟩
theorem zuQ{w:World}{a:Option Addr}{L:List Duty}(h:SlAt dutyRT w a L)(f:0<L.length):∃b c,a=some ⟨b,c,none⟩/\b<w.heap.size/\zuX w b c L:=by
 obtain⟨b,c,g,j,k⟩:=h.at f;refine⟨b,c,g,j,λi hi=>?_⟩;obtain⟨p,l,m,d,rfl,q,r,n⟩:=k i hi;have e:dAt L i=L[i]:=by rw[dAt,List.getD_eq_getElem?_getD,List.getElem?_eq_getElem hi];rfl
 rw[e];have o:=l 0 (by simp);exact⟨m,d,by simpa[dutyRT,RT.sl] using o,by omega,n⟩
def uppB(c:Int):Bool:=decide (65<=c/\c<=90)
def cdeB(c:Int):Bool:=uppB c || numB c
def zfo(l:List UInt8):Bool:=decide (1<=l.length/\l.length<=8)&&l.all λc=>cdeB (c.toNat:Int)
def airB(l:List UInt8):Bool:=decide (l.length=3)&&l.all λc=>uppB (c.toNat:Int)
def zct(P:Int->Bool)(s:ByteArray)(k:Nat):Prop:=∀j,j<k->P ((s.data.toList.getD j 0).toNat:Int)=true
theorem zct.step{P:Int->Bool}{s:ByteArray}{k:Nat}(h:k<s.size)(H:zct P s k)(a:P (s[k].toNat:Int)=true):zct P s (k+1):=by
 intro j b;by_cases e:j=k
 . subst e;rw[zeB s j h];exact a
 exact H j (by omega)
theorem zct.done{P:Int->Bool}{s:ByteArray}(H:zct P s s.size):(s.data.toList.all λc=>P (c.toNat:Int))=true:=by
 rw[List.all_eq_true];intro c b;obtain⟨i,a,rfl⟩:=List.mem_iff_getElem.1 b;have:=H i (by simpa using a);rw[List.getD_eq_getElem?_getD,List.getElem?_eq_getElem a]at this;exact this
theorem zkb{P:Int->Bool}{s:ByteArray}{k:Nat}(h:k<s.size)(a:P (s[k].toNat:Int)=false):(s.data.toList.all λc=>P (c.toNat:Int))=false:=by
 rw[List.all_eq_false];exact⟨s[k],by show s.data.toList[k]'(by simpa using h)∈_;exact List.getElem_mem _,by rw[a];decide⟩
theorem zdc(n:Int)(w:World):Calls prog 170 #[.int .u8 n] w λe w'=>e=.returned (.bool (uppB n))/\w=w':=by
 go_enter func170,ntmps170
 go_wp2
 all_goals (go_ret;exact⟨by simp[uppB];omega,rfl⟩)
theorem zc1(s:ByteArray)(w:World)(m:s.size<=140737488355328):Calls prog 100 #[.string s] w λe w'=>e=.returned (.bool (airB s.data.toList))/\w=w':=by
 have a:s.data.toList.length=s.size:=by simp
 by_cases d:s.size=3
 . have g:((s.size:Int) !=3)=false:=by simp;omega
   have f:=I (show decide (s.data.toList.length=3)=true from by simp[d]);have l:s.size<=3:=by omega
   clear d a;go_enter func100,ntmps100
   go_wp2_with fail;go_loop [9] (λi=>∃k:Nat,k<=s.size/\i=.int .i64 k/\zct uppB s k) (λi=>s.size-(intOf i).toNat)
   case atStart=>exact⟨0,Nat.zero_le _,rfl,λj h=>absurd h (Nat.not_lt_zero _)⟩
   obtain⟨k,n,rfl,b⟩:=hrel;by_cases c:k<s.size
   . go_wp2_with fail
     all_goals first
      |(go_ret
        exact⟨zaA (by rw[airB,zkb (P:=uppB) c (by simp only[uppB,decide_eq_false_iff_not];omega)];simp),rfl⟩)
      |(go_round
        case rel=>exact⟨k+1,by omega,by go_num,zct.step c b (by simp only[uppB,decide_eq_true_eq];omega)⟩
        case measure=>simp[intOf];omega)
   obtain rfl:k=s.size:=by omega
   go_wp2_with fail;go_ret;exact⟨zaA (by rw[airB,f.1,b.done];simp),rfl⟩
 have g:((s.size:Int) !=3)=true:=by simp;omega
 have f:=I (show airB s.data.toList=false from by simp[airB,d]);clear d a;go_enter func100,ntmps100
 go_wp2_with fail;go_ret;exact⟨zaA (by rw[f.1]),rfl⟩
theorem zbG(s:ByteArray)(w:World)(p:s.size<=140737488355328):Calls prog 150 #[.string s] w λe w'=>e=.returned (.bool (zfo s.data.toList))/\w=w':=by
 have b:s.data.toList.length=s.size:=by simp
 by_cases m:s.size<1\/8<s.size
 . have n:=I (show zfo s.data.toList=false from by simp[zfo];omega);clear b;rcases m with m|m
   all_goals
    go_enter func150,ntmps150
    go_wp2_with fail;go_ret;exact⟨zaA (by rw[n.1]),rfl⟩
 have o:=I (show decide (1<=s.data.toList.length/\s.data.toList.length<=8)=true from by simp;omega);clear b;go_enter func150,ntmps150
 go_wp2_with fail;go_loop [15] (λi=>∃k:Nat,k<=s.size/\i=.int .i64 k/\zct cdeB s k) (λi=>s.size-(intOf i).toNat)
 case atStart=>exact⟨0,Nat.zero_le _,rfl,λj h=>absurd h (Nat.not_lt_zero _)⟩
 obtain⟨k,q,rfl,a⟩:=hrel;by_cases c:k<s.size
 . have d:(65<=(s[k].toNat:Int)/\(s[k].toNat:Int)<=90)\/(48<=(s[k].toNat:Int)/\(s[k].toNat:Int)<=57)\/(s[k].toNat:Int)<48\/(57<(s[k].toNat:Int)/\(s[k].toNat:Int)<65)\/90<(s[k].toNat:Int):=by omega
   rcases d with⟨f,l⟩|⟨f,l⟩|f|⟨f,l⟩|f
   . have g:=I (zct.step (P:=cdeB) c a (by simp[cdeB,uppB,f,l]));go_wp2_with fail;go_round
     case rel=>exact⟨k+1,by omega,by go_num,g.1⟩
     case measure=>simp[intOf];omega
   . have g:=I (zct.step (P:=cdeB) c a (by simp[cdeB,numB,f,l]));go_wp2_with fail;go_round
     case rel=>exact⟨k+1,by omega,by go_num,g.1⟩
     case measure=>simp[intOf];omega
   all_goals
    have g:=I (show zfo s.data.toList=false from by rw[zfo,zkb (P:=cdeB) c (by simp only[cdeB,uppB,numB,Bool.or_eq_false_iff,decide_eq_false_iff_not];omega)];simp);go_wp2_with fail
    all_goals first
     |(go_ret;exact⟨zaA (by rw[g.1]),rfl⟩)
     |(exfalso;simp only[Bool.not_eq_false',decide_eq_true_eq] at*;omega)
 obtain rfl:k=s.size:=by omega
 go_wp2_with fail;go_ret;exact⟨zaA (by rw[zfo,o.1,a.done];simp),rfl⟩
theorem ze1(s:ByteArray)(w:World)(t:s.size<=140737488355328):Calls prog 123 #[.string s] w λe g=>e=.returned (.bool (airB s.data.toList))/\w=g:=by
 have d:s.data.toList.length=s.size:=by simp
 by_cases h:s.size=3
 . have o:((s.size:Int)==3)=true:=by simp;omega
   have i:=I (show decide (s.data.toList.length=3)=true from by simp[h]);have p:0<s.size:=by omega
   have q:1<s.size:=by omega
   have r:2<s.size:=by omega
   have G:=I (show uppB (s[0].toNat:Int)=true->uppB (s[1].toNat:Int)=true->uppB (s[2].toNat:Int)=true->airB s.data.toList=true from λa b c=>by
    rw[airB,zct.done (P:=uppB) (s:=s) (λj hj=>by
     rw[zeB s j hj];have:j=0\/j=1\/j=2:=by omega
     rcases this with rfl|rfl|rfl <;> assumption),i.1];rfl)
   have F:=I (λ(k:Nat) (hk:k<s.size) (hx:uppB (s[k].toNat:Int)=false)=>show airB s.data.toList=false from by rw[airB,zkb hk hx];simp);clear h d;cases l:uppB (s[0].toNat:Int)
   . have f:=I (F.1 0 p l);go_enter func123,ntmps123
     go_wp2_with (go_at_call 170;refine cb (zdc _ _) ?_)
     go_ret;exact⟨zaA (by rw[f.1]),rfl⟩
   cases m:uppB (s[1].toNat:Int)
   . have f:=I (F.1 1 q m);go_enter func123,ntmps123
     go_wp2_with (go_at_call 170;refine cb (zdc _ _) ?_)
     go_ret;exact⟨zaA (by rw[f.1]),rfl⟩
   cases n:uppB (s[2].toNat:Int)
   . have f:=I (F.1 2 r n);go_enter func123,ntmps123
     go_wp2_with (go_at_call 170;refine cb (zdc _ _) ?_)
     go_ret;exact⟨zaA (by rw[f.1]),rfl⟩
   have f:=I (G.1 l m n);go_enter func123,ntmps123
   go_wp2_with (go_at_call 170;refine cb (zdc _ _) ?_)
   go_ret;exact⟨zaA (by rw[f.1]),rfl⟩
 have o:((s.size:Int)==3)=false:=by simp;omega
 have i:=I (show airB s.data.toList=false from by simp[airB,h]);clear h d;go_enter func123,ntmps123
 go_wp2_with fail;go_ret;exact⟨zaA (by rw[i.1]),rfl⟩
theorem zbl(s:ByteArray)(w:World)(n:s.size<=140737488355328):Calls prog 171 #[.string s] w λe c=>e=.returned (.bool (zfo s.data.toList))/\w=c:=by
 have b:s.data.toList.length=s.size:=by simp
 go_enter func171,ntmps171
 go_wp2_with fail;have m:=I b;clear b;go_loop [3] (λi=>∃k:Nat,k<=s.size/\i=.int .i64 k/\zct cdeB s k) (λi=>s.size-(intOf i).toNat)
 case atStart=>exact⟨0,Nat.zero_le _,rfl,λj h=>absurd h (Nat.not_lt_zero _)⟩
 obtain⟨k,o,rfl,a⟩:=hrel;by_cases d:k<s.size
 . cases g:uppB (s[k].toNat:Int)
   . cases l:numB (s[k].toNat:Int)
     . have f:=I (show zfo s.data.toList=false from by rw[zfo,zkb (P:=cdeB) d (by simp[cdeB,g,l])];simp);go_wp2_with (first|(go_at_call 170;refine cb (zdc _ _) ?_)|(go_at_call 197;refine cb (zeQ _ _) ?_))
       go_ret;exact⟨zaA (by rw[f.1]),rfl⟩
     have f:=I (zct.step (P:=cdeB) d a (by simp[cdeB,l]));go_wp2_with (first|(go_at_call 170;refine cb (zdc _ _) ?_)|(go_at_call 197;refine cb (zeQ _ _) ?_))
     go_round
     case rel=>exact⟨k+1,by omega,by go_num,f.1⟩
     case measure=>simp[intOf];omega
   have f:=I (zct.step (P:=cdeB) d a (by simp[cdeB,g]));go_wp2_with (first|(go_at_call 170;refine cb (zdc _ _) ?_)|(go_at_call 197;refine cb (zeQ _ _) ?_))
   go_round
   case rel=>exact⟨k+1,by omega,by go_num,f.1⟩
   case measure=>simp[intOf];omega
 obtain rfl:k=s.size:=by omega
 have f:=I (a.done);go_wp2_with fail
 all_goals
  go_ret;refine⟨zaA ?_,rfl⟩;rw[zfo,f.1,m.1];simp only[Bool.and_true,decide_eq_true_eq,Bool.false_eq_true,false_iff,true_iff];omega
end Go.Proofs.YtbhhejkolnigfaaGreat
namespace Go.Proofs.YtbhhejkolnigfaaGreat
open Go.RowKit Go.Proofs.Tryz
def MapAt(w:World)(b:Nat)(M:List (Value×Value)):Prop:=∃es c,w.heap[b]?=some (.map es c)/\es.toList.map (λe=>(e.key,e.val))=M
def zaH:TypeDesc->Value->Prop
 | .string,.string _=>True
 | .int k,.int k' _=>k=k'
 |_,_=>False
theorem zsm(a b:ByteArray):(a==b)=decide (a=b):=by
 rw[Bool.eq_iff_iff,decide_eq_true_eq];show(a.data==b.data)=true ↔ _
 rw[beq_iff_eq];exact⟨ByteArray.ext,λh=>by rw[h]⟩
def zb1:Value->Value->Bool
 | .string a,.string b=>decide (a=b)
 | .int _ a,.int _ b=>decide (a=b)
 |_,_=>false
def mget(M:List (Value×Value))(k:Value):Option Value:=(M.find? λp=>zb1 k p.1).map (·.2)
def mput(M:List (Value×Value))(k v:Value):List (Value×Value):=
 match M with
 |[]=> [(k,v)]
 |p::M=>if zb1 k p.1 then(k,v)::M else p::mput M k v
theorem zjn{d:TypeDesc}{k q:Value}(a:zaH d k)(b:zaH d q):Instr.sameNow d k q=some (zb1 k q):=by
 cases d <;> cases k <;> simp[zaH]at a <;> cases q <;> simp[zaH]at b <;> simp[Instr.sameNow,zb1,zsm]
 subst a;subst b;simp only[if_true,Option.some.injEq];rw[Bool.eq_iff_iff];simp
theorem zjP{d:TypeDesc}{k:Value}(c:zaH d k):∀(a:List MapEntry) (i:Nat),(∀e∈a,zaH d e.key)->
 Instr.findNow d k a i=some ((a.zipIdx i).findSome? λe=>if zb1 k e.1.key then some (e.2,e.1.val) else none):=by
 intro a;induction a with
 |nil=>intro i _;rfl
 |cons e a ih=>
  intro i h;rw[Instr.findNow,zjn c (h e (by simp))];simp only[List.zipIdx_cons,List.findSome?_cons];cases b:zb1 k e.key
  . simp only[b];exact ih (i+1) (λe he=>h e (by simp[he]))
  simp[b]
theorem zj6{P:Program}{k:TypeId}{d:TypeDesc}(a:P.underlying k=some d){v:Value}(b:zaH d v)(c:Bool)(n:Nat)(w:World):(Instr.checkKey c (n+1) k v).run P w=.ok () w:=by
 cases d <;> cases v <;> simp[zaH]at b <;> simp[Instr.checkKey,run_underlying a]
theorem zbH{P:Program}{k:TypeId}{d:TypeDesc}(b:P.underlying k=some d){v:Value}(c:zaH d v)(a:Bool)(w:World):(Instr.checkKey a 10000 k v).run P w=.ok () w:=zj6 b c a 9999 w
def zmq(k:Value)(es:List MapEntry):Option (Nat×Value):=(es.zipIdx 0).findSome? λe=>if zb1 k e.1.key then some (e.2,e.1.val) else none
theorem zed{P:Program}{k:TypeId}{d:TypeDesc}(b:P.underlying k=some d){v:Value}(c:zaH d v)(a:List MapEntry)(h:∀e∈a,zaH d e.key)(w:World):
 (Instr.findKey k v a).run P w=.ok (zmq v a) w:=by
 simp[Instr.findKey,run_underlying b,zjP c a 0 h,zmq]
theorem ziV(k:Value):∀(a:List MapEntry) (i:Nat),((a.zipIdx i).findSome? λe=>if zb1 k e.1.key then some (e.2,e.1.val) else none).map (·.2)=mget (a.map λe=>(e.key,e.val)) k:=by
 intro a;induction a with
 |nil=>intro i;rfl
 |cons e a ih=>
  intro i;simp only[List.zipIdx_cons,List.findSome?_cons,List.map_cons,mget,List.find?_cons];cases b:zb1 k e.key
  . simp only[b];exact ih (i+1)
  simp[b]
def zaT(P:Program)(w:World)(b:Nat)(d:TypeDesc)(M:List (Value×Value)):Prop:=MapAt w b M/\∀p∈M,zaH d p.1
theorem zaT.keys{P:Program}{w:World}{b:Nat}{d:TypeDesc}{M:List (Value×Value)}(h:zaT P w b d M):∃a c,w.heap[b]?=some (.map a c)/\a.toList.map (λe=>(e.key,e.val))=M/\∀e∈a.toList,zaH d e.key:=by
 obtain⟨⟨a,c,g,f⟩,i⟩:=h;refine⟨a,c,g,f,λe he=>?_⟩;exact i (e.key,e.val) (by rw[<-f];exact List.mem_map.2 ⟨e,he,rfl⟩)
theorem zdS{P:Program}{w:World}{t k e:TypeId}{d:TypeDesc}{b:Nat}{M:List (Value×Value)}(m:P.underlying t=some (.map k e))(l:P.underlying k=some d)(h:zaT P w b d M) 
 {key z:Value} (a:zaH d key) (p:(zeroValue e).run P w=.ok z w):(Instr.lookup t (.map (some b)) key false).run P w=.ok ((mget M key).getD z) w:=by
 obtain⟨g,c,n,q,s⟩:=h.keys;have j:=zed l a g.toList s w;have f:=ziV key g.toList 0;rw[q]at f;change (zmq key g.toList).map (·.2)=_ at f
 cases o:zmq key g.toList with
 |none=>
  rw[o]at f j;simp at f
  simp[Instr.lookup,run_underlying m,getObj,Sem.run,n,zbH l a,j,p,<-f]
 |some r=>
  rw[o]at f j;obtain⟨i,v⟩:=r;simp at f
  simp[Instr.lookup,run_underlying m,getObj,Sem.run,n,zbH l a,j,<-f]
theorem zcW{P:Program}{w:World}{t k e:TypeId}{d:TypeDesc}{b:Nat}{M:List (Value×Value)}(m:P.underlying t=some (.map k e))(l:P.underlying k=some d)(h:zaT P w b d M) 
 {key z:Value} (a:zaH d key) (p:(zeroValue e).run P w=.ok z w):(Instr.lookup t (.map (some b)) key true).run P w=.ok (.tuple #[(mget M key).getD z,.bool (mget M key).isSome]) w:=by
 obtain⟨g,c,n,q,s⟩:=h.keys;have j:=zed l a g.toList s w;have f:=ziV key g.toList 0;rw[q]at f;change (zmq key g.toList).map (·.2)=_ at f
 cases o:zmq key g.toList with
 |none=>
  rw[o]at f j;simp at f
  simp[Instr.lookup,run_underlying m,getObj,Sem.run,n,zbH l a,j,p,<-f]
 |some r=>
  rw[o]at f j;obtain⟨i,v⟩:=r;simp at f
  simp[Instr.lookup,run_underlying m,getObj,Sem.run,n,zbH l a,j,<-f]
theorem zjT(k:Value):∀(a:List MapEntry) (n i:Nat) (v:Value),((a.zipIdx n).findSome? λe=>if zb1 k e.1.key then some (e.2,e.1.val) else none)=some (i,v)->
 n<=i/\∃h:i-n<a.length,zb1 k a[i-n].key=true/\∀(f:MapEntry->MapEntry) (u:Value),(∀e,(f e).key=k/\(f e).val=u)->(a.modify (i-n) f).map (λe=>(e.key,e.val))=mput (a.map λe=>(e.key,e.val)) k u:=by
 intro a;induction a with
 |nil=>intro n i v h;simp at h
 |cons e a ih=>
  intro n i v h;simp only[List.zipIdx_cons,List.findSome?_cons]at h;cases b:zb1 k e.key
  . simp only[b]at h;obtain⟨o,d,g,j⟩:=ih (n+1) i v (by simpa using h);obtain⟨m,l⟩:∃m,i-n=m+1:=⟨i-n-1,by omega⟩;have c:i-(n+1)=m:=by omega
    simp only[c]at d g j;simp only[l];refine⟨by omega,by simpa using d,by simpa using g,λf u hf=>?_⟩;simp only[List.modify_succ_cons,List.map_cons,mput,b];rw[j f u hf];simp
  simp[b]at h
  obtain⟨rfl,_⟩:=h;simp only[Nat.sub_self];refine⟨Nat.le_refl _,by simp,by simpa using b,λf u hf=>?_⟩;simp[mput,b,hf e]
theorem zos(k:Value)(u:Value):∀(a:List MapEntry) (n:Nat),((a.zipIdx n).findSome? λe=>if zb1 k e.1.key then some (e.2,e.1.val) else none)=none->mput (a.map λe=>(e.key,e.val)) k u=(a.map λe=>(e.key,e.val))++ [(k,u)]:=by
 intro a;induction a with
 |nil=>intro n _;rfl
 |cons e a ih=>
  intro n h;simp only[List.zipIdx_cons,List.findSome?_cons]at h;cases b:zb1 k e.key
  . simp only[b]at h;simp only[List.map_cons,mput,b];rw[ih (n+1) (by simpa using h)];simp
  simp[b]at h
theorem zig{d:TypeDesc}{k q:Value}(a:zaH d k)(b:zaH d q)(h:zb1 k q=true)(n:Nat):Instr.sameBits n q k=true:=by
 cases d <;> cases k <;> simp[zaH]at a <;> cases q <;> simp[zaH]at b <;> simp[zb1]at h <;> subst h <;> cases n <;> simp[Instr.sameBits,zsm]
 all_goals (subst a;subst b;rfl)
theorem zc8{P:Program}{w:World}{t k e:TypeId}{d:TypeDesc}{b:Nat}{M:List (Value×Value)}(F:P.underlying t=some (.map k e))(z:P.underlying k=some d)(h:zaT P w b d M) 
 {key:Value} (v:Value) (a:zaH d key):∃w',(Instr.mapUpdate t (.map (some b)) key v).run P w=.ok () w'/\zaT P w' b d (mput M key v)/\w.grownBy w' (some b):=by
 obtain⟨g,c,A,x,G⟩:=h.keys;have l:=zed z a g.toList G w;have m:b<w.heap.size:=(Array.getElem?_eq_some_iff.1 A).1;have j:∀p∈mput M key v,zaH d p.1:=by
  have B:=h.2;clear h x l;induction M with
  |nil=>intro p f;simp[mput]at f;subst f;exact a
  |cons q M ih=>
   intro p f;rw[mput]at f;split at f
   . rcases List.mem_cons.1 f with rfl|f
     . exact a
     exact B p (by simp[f])
   rcases List.mem_cons.1 f with rfl|f
   . exact B p (by simp)
   exact ih (λp f=>B p (by simp[f])) p f
 have n:∀o:Obj,w.grownBy {w with heap:=w.heap.setIfInBounds b o} (some b):=λo=>⟨rfl,rfl,rfl,by simp,λi hi hne=>by
  have:b≠i:=λe=>hne (by rw[e])
  simp[Array.getElem?_setIfInBounds,this]⟩
 cases y:zmq key g.toList with
 |none=>
  rw[y]at l;refine⟨{w with heap:=w.heap.setIfInBounds b (.map (g.push {key,val:=v,born:=c}) (c+1))},?_,⟨⟨g.push {key,val:=v,born:=c},c+1,by simp[Array.getElem?_setIfInBounds,m],?_⟩,j⟩,n _⟩
  . simp[Instr.mapUpdate,run_underlying F,getObj,setObj,Sem.run,A,zbH z a,l]
  have:=zos key v g.toList 0 y;rw[x]at this;rw[this,<-x];simp
 |some r=>
  obtain⟨i,u⟩:=r;rw[y]at l;obtain⟨_,H,K,L⟩:=zjT key g.toList 0 i u y;simp only[Nat.sub_zero]at H K L;have C:i<g.size:=by simpa using H
  have s:zaH d g[i].key:=G g[i] (by simp);have D:=zig a s (by simpa using K) 10000;refine⟨{w with heap:=w.heap.setIfInBounds b (.map (g.modify i λe=>{e with key,val:=v}) c)},?_,⟨⟨g.modify i λe=>{e with key,val:=v},c,by simp[Array.getElem?_setIfInBounds,m],?_⟩,j⟩,n _⟩
  . have E:(Instr.keyThatStays (((g[i]?).map (·.key)).getD key) key).run P w=.ok key w:=by
     rw[Array.getElem?_eq_getElem C];simp only[Option.map_some,Option.getD_some];unfold Instr.keyThatStays
     rw[if_pos D];rfl
    simp[Instr.mapUpdate,run_underlying F,getObj,setObj,Sem.run,A,zbH z a,l,E]
  rw[<-x,<-L (λe=>{e with key,val:=v}) v (λe=>⟨rfl,rfl⟩)];simp
theorem zaT.below{P:Program}{w w':World}{b:Nat}{d:TypeDesc}{M:List (Value×Value)}(h:zaT P w b d M)(e:Bw w w'):zaT P w' b d M:=by
 obtain⟨⟨f,c,a,g⟩,i⟩:=h;exact⟨⟨f,c,(e.block b (Array.getElem?_eq_some_iff.1 a).1).trans a,g⟩,i⟩
theorem zaT.lt{P:Program}{w:World}{b:Nat}{d:TypeDesc}{M:List (Value×Value)}(h:zaT P w b d M):b<w.heap.size:=by
 obtain⟨⟨e,c,a,_⟩,_⟩:=h;exact(Array.getElem?_eq_some_iff.1 a).1
theorem zaT.grown{P:Program}{w w':World}{b:Nat}{d:TypeDesc}{M:List (Value×Value)}{a:Option Nat}(h:zaT P w b d M)(g:w.grownBy w' a)(e:some b≠a):zaT P w' b d M:=by
 have f:=h.lt;obtain⟨⟨i,c,j,k⟩,l⟩:=h;exact⟨⟨i,c,(g.block b f e).trans j,k⟩,l⟩
theorem zaT.alloc{P:Program}{w:World}{b:Nat}{d:TypeDesc}{M:List (Value×Value)}(h:zaT P w b d M)(o:Obj):zaT P (w.alloc o) b d M:=h.below ((Below.refl _ _).alloc (Nat.le_refl _) _)
theorem zaT.drewN{P:Program}{w:World}{b:Nat}{d:TypeDesc}{M:List (Value×Value)}(h:zaT P w b d M)(n:Nat):zaT P (w.drewN n) b d M:=h
theorem zaT.made(P:Program)(w:World)(d:TypeDesc):zaT P (w.alloc (.map #[] 0)) w.heap.size d []:=by
 refine⟨⟨#[],0,?_,rfl⟩,λp hp=>by simp at hp⟩;show(w.heap.push _)[w.heap.size]?=_
 simp
section
variable {P:Program} {ops:Array Oper} {Q:Exit→Act→World→Prop} {a:Act} {w:World} {rest:List Oper} {o:Oper}
end
structure zaC where
 name:ByteArray
 off:Int
 sh:List (Int×Int)
structure AirM where
 code:ByteArray
 zone:ByteArray
structure zaw where
 num:ByteArray
 frm:ByteArray
 to:ByteArray
 dep:Int
 arr:Int
 typ:ByteArray
 n0:Int
 n1:Int
 n2:Int
structure TTM where
 zones:List zaC
 airs:List AirM
 fls:List zaw
def hasB(l:List ByteArray)(s:ByteArray):Bool:=l.any λx=>decide (s=x)
def zval(z:zaC):Int:=zG z.name.data.toList z.off z.sh
def valZ:List ByteArray->List zaC->Int×List ByteArray
 |acc, []=>(0,acc)
 |acc,z::l=>if zval z≠0 then(zval z,acc) else if hasB acc z.name=true then(7,acc) else valZ (acc++ [z.name]) l
def valA(zs:List ByteArray):List ByteArray->List AirM->Int×List ByteArray
 |acc, []=>(0,acc)
 |acc,a::l=>if airB a.code.data.toList=false then(1,acc) else if hasB acc a.code=true then(7,acc) else if hasB zs a.zone=false then(6,acc) else valA zs (acc++ [a.code]) l
def zal(n:Int):Bool:=decide (0<=n/\n<=8)
def zdC(f:zaw):Bool:=decide (2880<=f.dep/\f.arr<=52593120/\f.dep<f.arr/\f.arr-f.dep<=1440)
def zbh(ar:List ByteArray)(f:zaw):Int:=
 if(zfo f.num.data.toList&&zb0 f.typ.data.toList)=false then 1 else if(hasB ar f.frm&&hasB ar f.to)=false then 6 else if(f.frm.toList==f.to.toList)=true then 14
 else if zdC f=false then 5 else if(zal f.n0&&zal f.n1&&zal f.n2)=false then 5 else 0
def zcd(f g:zaw):Bool:=if f.dep≠g.dep then decide (f.dep<g.dep) else Op.bytesLess f.num.toList g.num.toList
def valF(ar:List ByteArray):Option zaw->List zaw->Int
 |_, []=>0
 |p,f::l=>if zbh ar f≠0 then zbh ar f else if p.any (λg=>!zcd g f)=true then 8 else valF ar (some f) l
def zY(t:TTM):Int:=
 if 16<t.zones.length\/64<t.airs.length\/200<t.fls.length then 10
 else if(valZ [] t.zones).1≠0 then(valZ [] t.zones).1
 else if(valA (valZ [] t.zones).2 [] t.airs).1≠0 then(valA (valZ [] t.zones).2 [] t.airs).1
 else valF (valA (valZ [] t.zones).2 [] t.airs).2 none t.fls
def shRT:RT (Int×Int):=RT.prod RT.int RT.int
def zcg:RT zaC where
 n:=3
 rep w cs z:=∃a cap,cs= [.string z.name,.int .i64 z.off,.slice a z.sh.length cap]/\z.name.size<=140737488355328/\(Lit.int .i64 z.off).wf=true/\z.sh.length<=140737488355328/\SlAt shRT w a z.sh
 len:=by rintro w cs z ⟨_,_,rfl,_⟩;rfl
 mono:=by
  rintro w w' cs z ⟨a,cap,h1,h2,h3,h4,h5⟩ hw;exact⟨a,cap,h1,h2,h3,h4,h5.below hw⟩
def zei:RT AirM where
 n:=2
 rep w cs a:=cs= [.string a.code,.string a.zone]/\a.code.size<=140737488355328/\a.zone.size<=140737488355328
 len:=by rintro w cs z ⟨rfl,_⟩;rfl
 mono:=by rintro w w' cs z h _;exact h
def zam:RT zaw where
 n:=9
 rep w cs f:=cs= [.string f.num,.string f.frm,.string f.to,.int .i64 f.dep,.int .i64 f.arr,.string f.typ,.int .i64 f.n0,.int .i64 f.n1,.int .i64 f.n2]/\
  (f.num.size<=140737488355328/\f.frm.size<=140737488355328/\f.to.size<=140737488355328/\f.typ.size<=140737488355328)/\(Lit.int .i64 f.dep).wf=true/\(Lit.int .i64 f.arr).wf=true
 len:=by rintro w cs z ⟨rfl,_⟩;rfl
 mono:=by rintro w w' cs z h _;exact h
def zAt(l:List zaC)(k:Nat):zaC:=l.getD k ⟨ByteArray.empty,0, []⟩
def aAt(l:List AirM)(k:Nat):AirM:=l.getD k ⟨ByteArray.empty,ByteArray.empty⟩
def fAt(l:List zaw)(k:Nat):zaw:=l.getD k ⟨ByteArray.empty,ByteArray.empty,ByteArray.empty,0,0,ByteArray.empty,0,0,0⟩
theorem zko(l:List zaC)(k:Nat)(h:k<l.length):l.drop k=zAt l k::l.drop (k+1):=by
 rw[zAt,List.drop_eq_getElem_cons h,List.getD_eq_getElem?_getD,List.getElem?_eq_getElem h];rfl
theorem zi0(l:List AirM)(k:Nat)(h:k<l.length):l.drop k=aAt l k::l.drop (k+1):=by
 rw[aAt,List.drop_eq_getElem_cons h,List.getD_eq_getElem?_getD,List.getElem?_eq_getElem h];rfl
theorem zno(l:List zaw)(k:Nat)(h:k<l.length):l.drop k=fAt l k::l.drop (k+1):=by
 rw[fAt,List.drop_eq_getElem_cons h,List.getD_eq_getElem?_getD,List.getElem?_eq_getElem h];rfl
theorem zkQ{w:World}{a:Option Addr}{l:List (Int×Int)}(h:SlAt shRT w a l):ShAt w a l:=by
 rcases h with h|⟨b,f,j,k,m⟩
 . exact .inl h
 refine .inr ⟨b,f,j,k,λi hi=>?_⟩;obtain⟨p,g,c,d,rfl,⟨rfl,_⟩,rfl,_⟩:=m i hi;have e:shAt l i=l[i]:=by rw[shAt,List.getD_eq_getElem?_getD,List.getElem?_eq_getElem hi];rfl
 rw[e];have n:=g 0 (by simp);have o:=g 1 (by simp);exact⟨by simpa[shRT,RT.prod,RT.int] using n,by simpa[shRT,RT.prod,RT.int] using o⟩
def zfW(w:World)(b off:Nat)(l:List zaC):Prop:=
 ∀i,i<l.length->∃a cap,w.cell? ⟨b,off+i*3,none⟩=some (.string (zAt l i).name)/\w.cell? ⟨b,off+i*3+1,none⟩=some (.int .i64 (zAt l i).off)/\w.cell? ⟨b,off+i*3+2,none⟩=some (.slice a (zAt l i).sh.length cap)/\
  (zAt l i).name.size<=140737488355328/\(zAt l i).sh.length<=140737488355328/\ShAt w a (zAt l i).sh
theorem zfW.below{w w':World}{b c:Nat}{l:List zaC}(h:zfW w b c l)(e:b<w.heap.size)(d:Bw w w'):zfW w' b c l:=by
 intro i g;obtain⟨a,f,j,k,m,n,o,q⟩:=h i g;exact⟨a,f,(d.cell (p:=⟨b,c+i*3,none⟩) e).trans j,(d.cell (p:=⟨b,c+i*3+1,none⟩) e).trans k,(d.cell (p:=⟨b,c+i*3+2,none⟩) e).trans m,n,o,q.below d⟩
theorem zc7{w:World}{a:Option Addr}{l:List zaC}(h:SlAt zcg w a l)(g:0<l.length):∃b c,a=some ⟨b,c,none⟩/\b<w.heap.size/\zfW w b c l:=by
 obtain⟨b,c,j,k,m⟩:=h.at g;refine⟨b,c,j,k,λi hi=>?_⟩;obtain⟨u,f,n,d,rfl,o,_,p,q⟩:=m i hi;have e:zAt l i=l[i]:=by rw[zAt,List.getD_eq_getElem?_getD,List.getElem?_eq_getElem hi];rfl
 rw[e];have r:=f 0 (by simp);have s:=f 1 (by simp);have t:=f 2 (by simp);exact⟨n,d,by simpa[zcg] using r,by simpa[zcg] using s,by simpa[zcg] using t,o,p,zkQ q⟩
def zg3(w:World)(b off:Nat)(l:List AirM):Prop:=
 ∀i,i<l.length->w.cell? ⟨b,off+i*2,none⟩=some (.string (aAt l i).code)/\w.cell? ⟨b,off+i*2+1,none⟩=some (.string (aAt l i).zone)/\(aAt l i).code.size<=140737488355328/\(aAt l i).zone.size<=140737488355328
theorem zg3.below{w w':World}{b a:Nat}{l:List AirM}(h:zg3 w b a l)(c:b<w.heap.size)(d:Bw w w'):zg3 w' b a l:=by
 intro i e;obtain⟨f,g,j⟩:=h i e;exact⟨(d.cell (p:=⟨b,a+i*2,none⟩) c).trans f,(d.cell (p:=⟨b,a+i*2+1,none⟩) c).trans g,j⟩
theorem zeJ{w:World}{a:Option Addr}{l:List AirM}(h:SlAt zei w a l)(f:0<l.length):∃b c,a=some ⟨b,c,none⟩/\b<w.heap.size/\zg3 w b c l:=by
 obtain⟨b,c,g,j,k⟩:=h.at f;refine⟨b,c,g,j,λi hi=>?_⟩;obtain⟨q,d,rfl,m,n⟩:=k i hi;have e:aAt l i=l[i]:=by rw[aAt,List.getD_eq_getElem?_getD,List.getElem?_eq_getElem hi];rfl
 rw[e];have o:=d 0 (by simp);have p:=d 1 (by simp);exact⟨by simpa[zei] using o,by simpa[zei] using p,m,n⟩
def zel(w:World)(b off:Nat)(l:List zaw):Prop:=
 ∀i,i<l.length->(w.cell? ⟨b,off+i*9,none⟩=some (.string (fAt l i).num)/\w.cell? ⟨b,off+i*9+1,none⟩=some (.string (fAt l i).frm)/\w.cell? ⟨b,off+i*9+2,none⟩=some (.string (fAt l i).to)/\
  w.cell? ⟨b,off+i*9+3,none⟩=some (.int .i64 (fAt l i).dep)/\w.cell? ⟨b,off+i*9+4,none⟩=some (.int .i64 (fAt l i).arr)/\w.cell? ⟨b,off+i*9+5,none⟩=some (.string (fAt l i).typ)/\
  w.cell? ⟨b,off+i*9+6,none⟩=some (.int .i64 (fAt l i).n0)/\w.cell? ⟨b,off+i*9+7,none⟩=some (.int .i64 (fAt l i).n1)/\w.cell? ⟨b,off+i*9+8,none⟩=some (.int .i64 (fAt l i).n2))/\
  ((fAt l i).num.size<=140737488355328/\(fAt l i).frm.size<=140737488355328/\(fAt l i).to.size<=140737488355328/\(fAt l i).typ.size<=140737488355328)
theorem zel.below{w w':World}{b a:Nat}{l:List zaw}(h:zel w b a l)(c:b<w.heap.size)(d:Bw w w'):zel w' b a l:=by
 intro i e;obtain⟨⟨f,j,k,m,n,q,r,s,t⟩,u⟩:=h i e;have g:=λ(o:Nat)=>d.cell (p:=⟨b,o,none⟩) c
 exact⟨⟨(g _).trans f,(g _).trans j,(g _).trans k,(g _).trans m,(g _).trans n,(g _).trans q,(g _).trans r,(g _).trans s,(g _).trans t⟩,u⟩
theorem zaO{w:World}{a:Option Addr}{l:List zaw}(h:SlAt zam w a l)(d:0<l.length):∃b c,a=some ⟨b,c,none⟩/\b<w.heap.size/\zel w b c l:=by
 obtain⟨b,c,f,k,m⟩:=h.at d;refine⟨b,c,f,k,λi hi=>?_⟩;obtain⟨p,n,rfl,o,_⟩:=m i hi;have e:fAt l i=l[i]:=by rw[fAt,List.getD_eq_getElem?_getD,List.getElem?_eq_getElem hi];rfl
 rw[e];have g:=λj (hj:j<9)=>n j (by simpa using hj)
 refine⟨⟨?_,?_,?_,?_,?_,?_,?_,?_,?_⟩,o⟩
 . simpa[zam] using g 0 (by omega)
 . simpa[zam] using g 1 (by omega)
 . simpa[zam] using g 2 (by omega)
 . simpa[zam] using g 3 (by omega)
 . simpa[zam] using g 4 (by omega)
 . simpa[zam] using g 5 (by omega)
 . simpa[zam] using g 6 (by omega)
 . simpa[zam] using g 7 (by omega)
 simpa[zam] using g 8 (by omega)
def zck(l:List ByteArray):List (Value×Value):=l.map λs=>(.string s,.bool true)
theorem zfi(l:List ByteArray)(s:ByteArray):(mget (zck l) (.string s)).getD (.bool false)=.bool (hasB l s):=by
 induction l with
 |nil=>rfl
 |cons x l ih=>
  by_cases e:s=x
  . subst e;simp[mget,zck,zb1,hasB]
  have:mget (zck (x::l)) (.string s)=mget (zck l) (.string s):=by simp[mget,zck,zb1,e]
  rw[this,ih];simp[hasB,e]
theorem zmb(l:List ByteArray)(s:ByteArray)(h:hasB l s=false):mput (zck l) (.string s) (.bool true)=zck (l++ [s]):=by
 induction l with
 |nil=>rfl
 |cons x l ih=>
  simp only[hasB,List.any_cons,Bool.or_eq_false_iff,decide_eq_false_iff_not]at h;have:=ih h.2;simp only[zck,List.map_cons,List.cons_append]at this ⊢;rw[mput];simp only[zb1,h.1,decide_false];rw[if_neg (by decide),this]
section
variable {P:Program} {ops:Array Oper} {Q:Exit→Act→World→Prop} {md:Region.Mode} {S:World→Prop} {Z:List Nat}
def anyZ(P:Program)(md:Region.Mode)(ops:Array Oper)(Q:Exit->Act->World->Prop)(S:World->Prop)(Z:List Nat):Nat->Array Bool->Act->World->Prop
 |0,listed,a,w=>Region.ready md ops listed= []/\Q .normal a w
 |n+1,listed,a,w=>(Region.ready md ops listed= []->Q .normal a w)/\∀i∈Region.ready md ops listed,wpOp P ops Q i (λa' w'=>(i ∉ Z->S w->S w')/\anyZ P md ops Q S Z n (listed.setIfInBounds i true) a' w') a w
theorem znu:∀(n:Nat) (listed:Array Bool) (a:Act) (w:World),anyZ P md ops Q S Z n listed a w->wpAny P md ops Q n listed a w
 |0,_,_,_,h=>h
 |n+1,_,_,_,h=>⟨h.1,λi hi=>wpOp_mono (λa' w' hh=>znu n _ a' w' hh.2) (h.2 i hi)⟩
theorem unl{a:Array Bool}{i:Nat}(c:a.getD i true=false)(b:a.getD i false=true):False:=by
 rcases Nat.lt_or_ge i a.size with h|h
 . simp[h]at c b
   rw[c]at b;cases b
 simp[Array.getElem?_eq_none h]at b
theorem zp3{z i:Nat}{a:Array Bool}(d:Region.waitsFor md ops z i=true)(f:i∈Region.ready md ops a):z ∉ Region.ready md ops a:=by
 intro g;obtain⟨l,h,e,j,k,rfl⟩:=Region.waitsFor_spec d;obtain⟨_,m,b,c⟩:=mem_ready.1 g;rw[h]at b;cases b;exact unl (mem_ready.1 f).1 (c e j k)
theorem zqZ{i:Nat}{oi:Oper}{v:Value}(u:ops[i]?=some oi)(B:Region.noSelect ops=true)(C:Z.all (λz=>Region.waitsFor md ops z i)=true) 
 (D:∀c a w,Q (.panic c) (a.put oi.dst v) w->Q (.panic c) a w):∀(n:Nat) (d:Array Bool) (a:Act) (w:World),
  (∀j m,ops[j]?=some m->j≠i->d.getD j true=false->(∀e∈m.after,Region.binds md e=true->e.on≠i)->oi.apart ops m=true)->
  i∈Region.ready md ops d->YieldsIf P ops S oi v a->S w->
  anyZ P md ops Q S Z n (d.setIfInBounds i true) (a.put oi.dst v) w->anyZ P md ops Q S Z (n+1) d a w:=by
 have g:=Region.noSelect_spec B;intro n;induction n with
 |zero=>
  intro d a w _ l s t H;refine⟨λh=>(by rw[h]at l;cases l),λj hj=>?_⟩;by_cases e:j=i
  . subst e;exact s.wpOp u t ⟨λ_ h=>h,H⟩
  have p:=ready_mono hj e;rw[H.1]at p;cases p
 |succ n ih=>
  intro d a w f l s t H;refine⟨λh=>(by rw[h]at l;cases l),λj hj=>?_⟩;by_cases e:j=i
  . subst e;exact s.wpOp u t ⟨λ_ h=>h,H⟩
  have x:j ∉ Z:=λhz=>zp3 (List.all_eq_true.1 C j hz) l hj
  obtain⟨q,m,o,r⟩:=mem_ready.1 hj;have y:∀b∈m.after,Region.binds md b=true->b.on≠i:=λb hb hbb hon=>by
   have p:=r b hb hbb;rw[hon]at p;exact unl (mem_ready.1 l).1 p
  have E:=wpOp_putIf o (f j m o e q y) (λcs b=>g i oi cs b u) (λcs b=>g j m cs b o) D s (H.2 j (ready_mono hj e));refine wpOp_mono (λa' w' h3=>?_) E;have hS':S w':=h3.2.1 x t;refine⟨λ_ _=>hS',ih (d.setIfInBounds j true) a' w' (λk ok hk hki hu hn=>?_) (ready_mono l (Ne.symm e)) h3.1 hS' ?_⟩
  . refine f k ok hk hki ?_ hn;by_cases A:j=k
    . subst A;exact q
    rw[getD_set_ne true A]at hu;exact hu
  rw[Array.setIfInBounds_comm _ _ e];exact h3.2.2
theorem zq0{i:Nat}{oi:Oper}{v:Value}(t:ops[i]?=some oi)(y:Region.noSelect ops=true) 
 (z:∀c a w,Q (.panic c) (a.put oi.dst v) w->Q (.panic c) a w):∀(n:Nat) (d:Array Bool) (a:Act) (w:World),
  (∀j l,ops[j]?=some l->j≠i->d.getD j true=false->(∀e∈l.after,Region.binds md e=true->e.on≠i)->oi.apart ops l=true)->
  i∈Region.ready md ops d->YieldsIf P ops (λ_=>True) oi v a->
  anyZ P md ops Q S Z n (d.setIfInBounds i true) (a.put oi.dst v) w->anyZ P md ops Q S Z (n+1) d a w:=by
 have g:=Region.noSelect_spec y;intro n;induction n with
 |zero=>
  intro d a w _ m s H;refine⟨λh=>(by rw[h]at m;cases m),λj hj=>?_⟩;by_cases e:j=i
  . subst e;exact s.wpOp t trivial ⟨λ_ h=>h,H⟩
  have p:=ready_mono hj e;rw[H.1]at p;cases p
 |succ n ih=>
  intro d a w f m s H;refine⟨λh=>(by rw[h]at m;cases m),λj hj=>?_⟩;by_cases e:j=i
  . subst e;exact s.wpOp t trivial ⟨λ_ h=>h,H⟩
  obtain⟨q,l,o,r⟩:=mem_ready.1 hj;have u:∀b∈l.after,Region.binds md b=true->b.on≠i:=λb hb hbb hon=>by
   have p:=r b hb hbb;rw[hon]at p;exact unl (mem_ready.1 m).1 p
  have A:=wpOp_putIf o (f j l o e q u) (λcs b=>g i oi cs b t) (λcs b=>g j l cs b o) z s (H.2 j (ready_mono hj e));refine wpOp_mono (λa' w' h3=>?_) A;refine⟨h3.2.1,ih (d.setIfInBounds j true) a' w' (λk ok hk hki hu hn=>?_) (ready_mono m (Ne.symm e)) h3.1 ?_⟩
  . refine f k ok hk hki ?_ hn;by_cases x:j=k
    . subst x;exact q
    rw[getD_set_ne true x]at hu;exact hu
  rw[Array.setIfInBounds_comm _ _ e];exact h3.2.2
theorem zoH{i n:Nat}{oi:Oper}{v:Value}{b:Array Bool}{a:Act}{w:World}(d:ops[i]?=some oi)(e:Region.noSelect ops=true)(f:Region.free md ops b i=true)(g:(Region.ready md ops b).contains i=true) 
 (j:∀c a w,Q (.panic c) (a.put oi.dst v) w->Q (.panic c) a w) (k:Region.wanted oi (yielded ops a.tmps)=true) (l:∀w,(execOp a.eval oi).run P w=.ok (.value v) w)
 (h:anyZ P md ops Q S Z n (b.setIfInBounds i true) (a.put oi.dst v) w):anyZ P md ops Q S Z (n+1) b a w:=
 zq0 d e j n b a w (Region.free_spec d f) (by simpa using g) (.inl ⟨k,λw _=>l w⟩) h
theorem zoG{i n:Nat}{oi:Oper}{v:Value}{b:Array Bool}{a:Act}{w:World}(d:ops[i]?=some oi)(e:Region.noSelect ops=true)(f:Z.all (λz=>Region.waitsFor md ops z i)=true)(g:Region.free md ops b i=true)(j:(Region.ready md ops b).contains i=true) 
 (k:∀c a w,Q (.panic c) (a.put oi.dst v) w->Q (.panic c) a w) (l:Region.wanted oi (yielded ops a.tmps)=true) (m:∀w,S w->(execOp a.eval oi).run P w=.ok (.value v) w) (o:S w)
 (h:anyZ P md ops Q S Z n (b.setIfInBounds i true) (a.put oi.dst v) w):anyZ P md ops Q S Z (n+1) b a w:=
 zqZ d e f k n b a w (Region.free_spec d g) (by simpa using j) (.inl ⟨l,m⟩) o h
theorem zo{i n:Nat}{o:Oper}{b:Array Bool}{a:Act}{w:World}(c:Region.ready md ops b= [i])(d:ops[i]?=some o)(e:Region.wanted o (yielded ops a.tmps)=true) 
 (h:∀K:Act->World->Prop,ztR (∀a' w',(i ∉ Z->S w->S w')->anyZ P md ops Q S Z n (b.setIfInBounds i true) a' w'->K a' w')->Oper.wp P o a w K Q):anyZ P md ops Q S Z (n+1) b a w:=by
 refine⟨λh0=>(by rw[c]at h0;cases h0),λj hj=>?_⟩;rw[c]at hj;obtain rfl:j=i:=by simpa using hj
 unfold wpOp
 rw[d];simp only[e,if_true];exact .inl (h _ (I (λa' w' h1 h2=>⟨h1,h2⟩)))
theorem zaU{i j n:Nat}{oi oj:Oper}{b:Array Bool}{a:Act}{w:World}(g:Region.ready md ops b= [i,j])(h:ops[i]?=some oi)(k:ops[j]?=some oj)(e:Region.wanted oi (yielded ops a.tmps)=true)(f:Region.wanted oj (yielded ops a.tmps)=true) 
 (c:∀K:Act->World->Prop,ztR (∀a' w',(i ∉ Z->S w->S w')->anyZ P md ops Q S Z n (b.setIfInBounds i true) a' w'->K a' w')->Oper.wp P oi a w K Q)
 (d:∀K:Act->World->Prop,ztR (∀a' w',(j ∉ Z->S w->S w')->anyZ P md ops Q S Z n (b.setIfInBounds j true) a' w'->K a' w')->Oper.wp P oj a w K Q):anyZ P md ops Q S Z (n+1) b a w:=by
 refine⟨λh0=>(by rw[g]at h0;cases h0),λm hm=>?_⟩;rw[g]at hm;rcases(by simpa using hm:m=i\/m=j) with rfl|rfl
 . unfold wpOp
   rw[h];simp only[e,if_true];exact .inl (c _ (I (λa' w' c d=>⟨c,d⟩)))
 unfold wpOp
 rw[k];simp only[f,if_true];exact .inl (d _ (I (λa' w' c d=>⟨c,d⟩)))
theorem zx{i n:Nat}{oi:Oper}{v:Value}{b:Array Bool}{a:Act}{w:World}(d:ops[i]?=some oi)(f:∀w,S w->(execOp a.eval oi).run P w=.ok (.value v) w)(g:S w)(h:anyZ P md ops Q S Z n (b.setIfInBounds i true) (a.put oi.dst v) w)(j:Region.noSelect ops=true:=by kernel_rfl)(k:Z.all (λz=>Region.waitsFor md ops z i)=true:=by kernel_rfl)(l:Region.free md ops b i=true:=by kernel_rfl)(m:(Region.ready md ops b).contains i=true:=by kernel_rfl)(o:∀c a w,Q (.panic c) (a.put oi.dst v) w->Q (.panic c) a w:=by first|exact λ_ _ _ h=>h|exact λ_ _ _ h=>⟨λe=>(by cases e),λhn=>h.2 hn⟩)(p:Region.wanted oi (yielded ops a.tmps)=true:=by rfl):anyZ P md ops Q S Z (n+1) b a w:=zoG d j k l m o p f g h
theorem zT{i n:Nat}{oi:Oper}{v:Value}{b:Array Bool}{a:Act}{w:World}(d:ops[i]?=some oi)(f:∀w,(execOp a.eval oi).run P w=.ok (.value v) w)(h:anyZ P md ops Q S Z n (b.setIfInBounds i true) (a.put oi.dst v) w)(g:Region.noSelect ops=true:=by kernel_rfl)(j:Region.free md ops b i=true:=by kernel_rfl)(k:(Region.ready md ops b).contains i=true:=by kernel_rfl)(l:∀c a w,Q (.panic c) (a.put oi.dst v) w->Q (.panic c) a w:=by first|exact λ_ _ _ h=>h|exact λ_ _ _ h=>⟨λe=>(by cases e),λhn=>h.2 hn⟩)(m:Region.wanted oi (yielded ops a.tmps)=true:=by rfl):anyZ P md ops Q S Z (n+1) b a w:=zoH d g j k l m f h
theorem zM{n:Nat}{b:Array Bool}{a:Act}{w:World}(c:Region.ready md ops b= [])(h:Q .normal a w):anyZ P md ops Q S Z n b a w:=by
 cases n with
 |zero=>exact⟨c,h⟩
 |succ n=>exact⟨λ_=>h,by rw[c];simp⟩
theorem zfC{b:Nat}{a:Act}{w:World}(S:World->Prop)(Z:List Nat)(c:P.follows .mixedOrders=true)(h:anyZ P .any ops Q S Z ops.size (Array.replicate ops.size false) a w.drew):(Code.region b ops true).wp P Q a w:=
 wp_region_any c (znu _ _ _ _ h)
end
theorem O:(∀(a:Act) (v:Value),a.put none v=a)/\(∀(a:Act) (d:Tmp) (v:Value),a.put (some d) v={a with tmps:=a.tmps.setIfInBounds d v})/\(∀(l:List Value) (i:Nat) (v:Value),l.toArray.setIfInBounds i v=(l.set i v).toArray)/\(∀(x y:Value) (l:List Value),(x::l).set 0 y=y::l)/\(∀(x y:Value) (l:List Value) (n:Nat),(x::l).set (n+1) y=x::l.set n y):=⟨λ_ _=>rfl,λ_ _ _=>rfl,λ_ _ _=>by simp,λ_ _ _=>rfl,λ_ _ _ _=>rfl⟩
end Go.Proofs.YtbhhejkolnigfaaGreat
namespace Go.Proofs.YtbhhejkolnigfaaGreat
open Go.RowKit Go.Sort
abbrev zua:=Option Addr
abbrev ztS:=@Below.then
abbrev ztT:=@Below.refl
abbrev ztU:=@Nat.lt_of_lt_of_le
abbrev ztV:=@Nat.le_trans
abbrev ztW:=@lt_of_block
abbrev ztX:=@Nat.zero_le
abbrev ztY:=@Nat.le_refl
abbrev ztZ:=@Calls.regrown_of
abbrev zt0:=@List.getD_eq_getElem?_getD
abbrev zt1:=@List.getElem?_eq_getElem
abbrev zt2:=@List.length_append
abbrev zt3:=@List.map_append
abbrev zt4:=@Bool.false_eq_true
abbrev zt5:=@Bool.and_eq_true
abbrev zt6:=@List.drop_length
abbrev zt7:=@Nat.le_of_ble_eq_true
abbrev zt8:=@List.getElem?_append_left
abbrev zt9:=@List.getElem?_append_right
abbrev oA(X:AirM):Obj:=.cells #[.string X.code,.string X.zone] 125
abbrev oW(X:zaw):Obj:=.cells #[.string X.num,.string X.frm,.string X.to,.int .i64 X.dep,.int .i64 X.arr,.string X.typ,.int .i64 X.n0,.int .i64 X.n1,.int .i64 X.n2] 82
abbrev oZx(X:zaC)(A:zua)(C:Nat):Obj:=.cells #[.string X.name,.int .i64 X.off,.slice A X.sh.length C] 109
abbrev oEg(o n:Int)(s:ByteArray)(A:zua)(L C:Nat):Obj:=.cells #[.int .i64 o,.int .i64 n,.string s,.slice A L C] 86
abbrev oFg(o n:Int)(A:zua)(L C:Nat):Obj:=.cells #[.int .i64 o,.int .i64 n,.slice A L C] 129
abbrev oZ(s:ByteArray)(o:Int)(A:zua)(L C:Nat):Obj:=.cells #[.string s,.int .i64 o,.slice A L C] 109
abbrev oV(s:ByteArray)(o n:Int)(A:zua)(L C:Nat):Obj:=.cells #[.string s,.int .i64 o,.int .i64 n,.slice A L C] 132
abbrev oP(s:ByteArray)(A:zua)(L C:Nat):Obj:=.cells #[.string s,.slice A L C] 37
abbrev oQ(x y:Int):Obj:=.cells #[.int .i64 x,.int .i64 y] 144
abbrev oI(x:Int):Obj:=.cells #[.int .i64 x] 3
abbrev oI1(x:Int):Obj:=.cells #[.int .i64 x] 42
abbrev oJ(A:zua)(L C:Nat)(B:zua)(M D:Nat):Obj:=.cells #[.slice A L C,.slice B M D] 229
abbrev oT(x:Int)(b:Bool):Obj:=.cells #[.int .i64 x,.bool b] 65
abbrev jA:Obj:=.cells #[.int .i64 0,.int .i64 0,.int .i64 0,.int .i64 0,.int .i64 0,.int .i64 0,.int .i64 0,.int .i64 0,.int .i64 0,.int .i64 0,.int .i64 0,.int .i64 0,.int .i64 0,.int .i64 0,.int .i64 0,.int .i64 0,.int .i64 0,.int .i64 0,.int .i64 0,.int .i64 0,.int .i64 0,.int .i64 0,.int .i64 0,.int .i64 0,.int .i64 0] 3
abbrev jB:Obj:=.cells #[.string ⟨#[]⟩,.string ⟨#[]⟩,.string ⟨#[]⟩,.int .i64 0,.int .i64 0,.string ⟨#[]⟩,.int .i64 0,.int .i64 0,.int .i64 0] 82
abbrev jC:Obj:=.cells #[.int .i64 0,.int .i64 0,.slice none 0 0] 129
abbrev jD:Obj:=.cells #[.string ⟨#[97,110,100]⟩,.string ⟨#[111,114]⟩,.string ⟨#[110,111,116]⟩,.string ⟨#[105,109,112,108,105,101,115]⟩,.string ⟨#[105,110]⟩,.string ⟨#[116,111]⟩,.string ⟨#[116,114,117,101]⟩,.string ⟨#[102,97,108,115,101]⟩,.string ⟨#[109,105,110]⟩,.string ⟨#[109,97,120]⟩,.string ⟨#[105,102]⟩,.string ⟨#[116,104,101,110]⟩,.string ⟨#[101,108,115,101]⟩] 9
abbrev jE:Obj:=.cells #[.int .i64 0,.int .i64 0] 144
abbrev jF:Obj:=.cells #[.slice none 0 0,.slice none 0 0] 229
abbrev jG:Obj:=.cells #[.string ⟨#[]⟩,.int .i64 0,.slice none 0 0] 109
abbrev jH:Obj:=.cells #[.int .i64 1441500,.int .i64 120,.int .i64 1444000,.int .i64 60] 158
abbrev jI:Obj:=.cells #[.int .i64 0,.bool false] 65
abbrev jJ:Obj:=.cells #[.int .i64 1442900,.int .i64 (-240)] 158
abbrev jK:Obj:=.cells #[.slice none 0 0,.slice none 0 0,.slice none 0 0] 26
end Go.Proofs.YtbhhejkolnigfaaGreat
