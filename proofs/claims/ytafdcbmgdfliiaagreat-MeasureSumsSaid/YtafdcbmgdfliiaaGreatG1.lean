/- a part of the proof -/
import Derived.Test.YtafdcbmgdfliiaaGreatRows
import Derived.WalkKit
import Derived.Lib.Hide
import Derived.Deep.QuietTactic
import Derived.BigQuiet
import Derived.Outline
import Derived.WalkSpells
import Derived.WalkLawsBesides
import Derived.WalkSmall
import Derived.Lib.QuietBelow
import Derived.Below
import Derived.Maps.OwnOps
import Derived.OrdersHeld
import Derived.StillTail
set_option linter.all false
set_option maxRecDepth 100000
set_option maxHeartbeats 3000000
namespace Go.Proofs.YtafdcbmgdfliiaaGreat
abbrev BA:=ByteArray
abbrev Wd:=World
abbrev LI:=List Int
abbrev LB:=List ByteArray
abbrev LV:=List Value
abbrev cR:=@cell_regrown
abbrev bR:=@below_regrown
abbrev dN:=@below_drewN
abbrev iN:=@if_neg
abbrev iP:=@if_pos
abbrev aI:=@And.intro
abbrev wI:=@IntKind.wrap_i64
abbrev bK:=@World.block_lt_of_cell?
abbrev tS:=@List.take_succ_eq_append_getElem
abbrev gM:=@List.getElem_mem
abbrev wQ:=@wp_region_quiet_below
abbrev bP:=@bodyPost_ret
abbrev eX:=@Exists.intro
abbrev aB:=@absurd
abbrev aD(b n:Nat):Addr:=⟨b,n,none⟩
abbrev A_(w:World)(b i:Nat)(v:Value):=w.setCell (aD b i) v
abbrev BP(w:World)(b i:Nat):=w.cell? (aD b i)
abbrev B_(s:ByteArray):Value:=.string s
abbrev CU(a:Option Addr)(n c:Nat):Value:=.slice a n c
def C_{A:Type}(a:A):∃x,x=a:=⟨a,rfl⟩
abbrev Bn(n:Int):Value:=.int .i64 n
abbrev Ls:Value:=.slice none 0 0
abbrev Ua(b n:Nat):Value:=.pointer (some (aD b n))
abbrev Kx(b o n c:Nat):Value:=.slice (some (aD b o)) n c
def bTa{a b:Int}(h:a=b):(a==b)=true:=by simpa using h
def RZ{a b:Int}(h:¬a=b):(a==b)=false:=by simpa using h
def CN{a b:Int}(h:¬a=b):(a !=b)=true:=by simpa using h
def bMa{a b:Int}(h:a=b):(a !=b)=false:=by simpa using h
variable {M R l:List (Int×Int)}{k:Nat}{a b c d f h n o t x y:Int}{g:Int×Int×Int}{L:List (Int×Int×Int)}{S:Int->Bool}
structure Af(P:Prop):Prop where o:P
def I {P:Prop}(h:P):Af P:=⟨h⟩
instance{P:Prop}:Coe P (Af P):=⟨I⟩
instance{P:Prop}:CoeOut (Af P) P:=⟨fun h=>h.1⟩
theorem pL(t:Int)(h:t.tmod 1440<0):t.tdiv 1440-1=t/1440/\t.tmod 1440+1440=t%1440:=by
 grind
theorem pK(t:Int)(h:0<=t.tmod 1440):t.tdiv 1440=t/1440/\t.tmod 1440=t%1440:=by
 grind
theorem AA(t:Int):-9223372036854775807<=t->t<=9223372036854775807->-9223372036854775<=t.tdiv 1440/\t.tdiv 1440<=9223372036854775/\-1440<=t.tmod 1440/\t.tmod 1440<1440:=by
 grind
def Kp(c:Int):Bool:=decide (97<=c/\c<=122)
def Jw(c:Int):Bool:=decide (48<=c/\c<=57)
def Qn(i:Nat)(c:Int):Bool:=Kp c || (decide (0<i)&&(Jw c || c==95))
def Zh:Nat->List UInt8->Bool
 |_, []=>true
 |i,c::l=>Qn i (c.toNat:Int)&&Zh (i+1) l
def Gu(l:List UInt8):Bool:=decide (1<=l.length/\l.length<=16)&&Zh 0 l
theorem II(l:List UInt8):∀(i k:Nat) (h:k<l.length),Qn (i+k) (l[k].toNat:Int)=false->Zh i l=false:=by
 induction l<;>grind[Zh]
theorem JE(l:List UInt8):∀(i:Nat),(∀k (h:k<l.length),Qn (i+k) (l[k].toNat:Int)=true)->Zh i l=true:=by
 induction l with
 |nil=>intro i _;rfl
 |cons c l ih=>
  intro i h;have a:=h 0 (by simp);simp at a
  have:=ih (i+1) (λk hk=>by have:=h (k+1) (by simpa using hk);grind);simp[Zh,this,a]
def Dr(n:Int):Bool:=decide (-840<=n/\n<=840)
def Ew(n:Int):Bool:=decide (0<=n/\n<52596000)
def Jb(n:Int):Bool:=decide (0<=n/\n<1440)
def Io(a b:Int):Bool:=decide (0<=a/\a<=b/\b<=52596000)
def Rg(c a b:Int):Bool:=if a<=b then decide (a<=c/\c<b) else decide (a<=c\/c<b)
def Ji:Option Int->List (Int×Int)->Int
 |_, []=>0
 |p,s::l=>if(Ew s.1&&Dr s.2)=false then 5 else if p.any (λq=>decide (s.1<=q))=true then 8 else Ji (some s.1) l
def zG(name:List UInt8)(off:Int)(l:List (Int×Int)):Int:=
 if Gu name=false then 1 else if Dr off=false then 5 else if 16<l.length then 10 else Ji none l
def Br(l:List (Int×Int))(k:Nat):Int×Int:=l.getD k (0,0)
def bU(l:List (Int×Int))(k:Nat):Option Int:=if k=0 then none else some (Br l (k-1)).1
def Np(l:List (Int×Int))(k:Nat):Prop:=Ji none l=Ji (bU l k) (l.drop k)
def Np.zero(l:List (Int×Int)):Np l 0:=rfl
theorem Vt(l:List (Int×Int))(k:Nat)(h:k<l.length):l.drop k=Br l k::l.drop (k+1):=by
 grind[Br,List.drop_eq_getElem_cons]
theorem Np.bad(H:Np l k)(h:k<l.length)(a:Ew (Br l k).1=false\/Dr (Br l k).2=false):Ji none l=5:=by
 rw[H,Vt l k h,Ji,iP (by grind)]
theorem Np.order(H:Np l k)(h:k<l.length)(a:Ew (Br l k).1=true)(b:Dr (Br l k).2=true) 
 (d:0<k) (c:(Br l k).1<=(Br l (k-1)).1):Ji none l=8:=by
 rw[H,Vt l k h,Ji,iN (by simp[a,b]),iP (by grind[bU])]
theorem Np.step(H:Np l k)(h:k<l.length)(b:Ew (Br l k).1=true)(c:Dr (Br l k).2=true) 
 (a:k=0\/(Br l (k-1)).1<(Br l k).1):Np l (k+1):=by
 grind[Np,Vt,Ji,bU]
def Np.done(H:Np l l.length):Ji none l=0:=by
 rw[H,List.drop_length,Ji]
def Cq:Int->List (Int×Int)->Int->Int
 |o, [],_=>o
 |o,s::l,t=>if t<s.1 then o else Cq s.2 l t
def Cw:Int->List (Int×Int)->Int->Int
 |o, [],_=>o
 |o,s::l,t=>Cw (if s.1<=t then s.2 else o) l t
def NU(l:List (Int×Int)):∀(p o t:Int),Ji (some p) l=0->t<p->Cw o l t=o:=by
 induction l with
 |nil=>intros;rfl
 |cons s l ih=>
  intro p o t h a;rw[Ji]at h;split at h
  . omega
  split at h
  . omega
  rename_i _ h2
  simp at h2
  rw[Cw,iN (by omega)];exact ih s.1 o t h (by omega)
def gN(l:List (Int×Int)):∀(p:Option Int) (o t:Int),Ji p l=0->Cq o l t=Cw o l t:=by
 induction l with
 |nil=>intros;rfl
 |cons s l ih=>
  intro p o t h;rw[Ji]at h;split at h
  . omega
  split at h
  . omega
  rw[Cq,Cw];split
  . rw[iN (by omega)];exact(NU l s.1 o t h (by omega)).symm
  rw[iP (by omega)];exact ih _ _ _ h
def GU(h:¬ k<l.length):Cq n (l.drop k) t=n:=by
 rw[List.drop_of_length_le (by omega)];rfl
theorem zij(h:k<l.length)(a:t<(Br l k).1):Cq n (l.drop k) t=n:=by
 grind[Vt,Cq]
theorem GT(h:k<l.length)(a:¬ t<(Br l k).1):Cq n (l.drop k) t=Cq (Br l k).2 (l.drop (k+1)) t:=by
 grind[Vt,Cq]
def GQ(h:¬ k<l.length):Cw n (l.drop k) t=n:=by
 rw[List.drop_of_length_le (by omega)];rfl
theorem IF(h:k<l.length)(a:(Br l k).1<=t):Cw n (l.drop k) t=Cw (Br l k).2 (l.drop (k+1)) t:=by
 grind[Vt,Cw]
theorem JC(h:k<l.length)(a:¬ (Br l k).1<=t):Cw n (l.drop k) t=Cw n (l.drop (k+1)) t:=by
 grind[Vt,Cw]
def Ej(nm:List UInt8)(o:Int)(l:List (Int×Int))(t:Int):Int×Int:=
 if zG nm o l≠0 then(0,zG nm o l) else if Ew t=false then(0,5) else(Cq o l t,0)
def Lf(nm:List UInt8)(o:Int)(l:List (Int×Int))(t:Int):Int×Int:=
 if(Ej nm o l t).2≠0 then(0,(Ej nm o l t).2) else(t+(Ej nm o l t).1,0)
def Kt(nm:List UInt8)(o:Int)(l:List (Int×Int))(t:Int):Int×Int×Int:=
 if(Lf nm o l t).2≠0 then(0,0,(Lf nm o l t).2) else((Lf nm o l t).1/1440,(Lf nm o l t).1%1440,0)
def vL(nm:List UInt8)(o:Int)(l:List (Int×Int))(t:Int):Lf nm o l t=if(Ej nm o l t).2≠0 then(0,(Ej nm o l t).2) else(t+(Ej nm o l t).1,0):=rfl
def uK(nm:List UInt8)(o:Int)(l:List (Int×Int))(t:Int):Kt nm o l t=if(Lf nm o l t).2≠0 then(0,0,(Lf nm o l t).2) else((Lf nm o l t).1/1440,(Lf nm o l t).1%1440,0):=rfl
theorem Ue{nm:List UInt8}(h:zG nm o l=0):Gu nm=true/\Dr o=true/\l.length<=16/\Ji none l=0:=by
 grind[zG]
theorem pC(h:Dr n=true):-840<=n/\n<=840:=by grind[Dr]
theorem yN(h:Ew n=true):0<=n/\n<52596000:=by grind[Ew]
theorem AK(l:List (Int×Int)):∀(p:Option Int) (o t:Int),Ji p l=0->Dr o=true->Dr (Cq o l t)=true:=by
 induction l<;>grind[Ji,Cq]
theorem eL{nm:List UInt8}(h:(Ej nm o l t).2=0):0<=t/\t<52596000/\-840<=(Ej nm o l t).1/\(Ej nm o l t).1<=840:=by
 unfold Ej at*;split;rename_i h1;rw[iP h1]at h;exact aB h h1;rename_i h1;rw[iN h1]at h;split;rename_i h2;rw[iP h2]at h;simp at h;rename_i h2;have a:zG nm o l=0:=by simpa using h1
 have⟨_,b,_,c⟩:=Ue a;have:=yN (by simpa using h2:Ew t=true);have:=pC (AK l none o t c b);omega
theorem vM{nm:List UInt8}:-840<=(Lf nm o l t).1/\(Lf nm o l t).1<=52597000:=by
 unfold Lf;split;simp;rename_i h;have:=eL (by simpa using h:(Ej nm o l t).2=0);omega
def mx(a b:Int):Int:=if a<b then b else a
def mn(a b:Int):Int:=if b<a then b else a
def Hw(fr tz o x y:Int):List (Int×Int×Int):=if mx fr x<mn tz y then [(mx fr x,mn tz y,o)] else []
def Fl:Int->Int->List (Int×Int)->Int->Int->List (Int×Int×Int)
 |fr,o, [],x,y=>Hw fr 52596000 o x y
 |fr,o,s::l,x,y=>Hw fr s.1 o x y++Fl s.1 s.2 l x y
def Lj(fr o:Int)(l:List (Int×Int))(k:Nat)(x y:Int):List (Int×Int×Int):=if k<=l.length then Fl fr o (l.drop k) x y else []
def vH(o:Int)(l:List (Int×Int))(x y:Int):Fl 0 o l x y= []++Lj 0 o l 0 x y:=by simp[Lj]
theorem xM(h:k<l.length):Lj a o l k x y=Hw a (Br l k).1 o x y++Lj (Br l k).1 (Br l k).2 l (k+1) x y:=by
 grind[Lj,Vt,Fl]
theorem gV:Lj a o l l.length x y=Hw a 52596000 o x y++Lj a o l (l.length+1) x y:=by
 grind[Lj,Fl]
def wH(h:¬ k<=l.length):Lj a o l k x y= []:=by rw[Lj,iN h]
theorem xN(a b o x y:Int):(Hw a b o x y).length<=1:=by grind[Hw]
theorem OU(l:List (Int×Int)):∀a o x y,(Fl a o l x y).length<=l.length+1:=by
 induction l<;>grind[Fl,xN]
def Ki(L:List (Int×Int×Int))(k:Nat):Int×Int×Int:=L.getD k (0,0,0)
theorem SR(L:List (Int×Int×Int))(k:Nat)(h:k<L.length):L.drop k=Ki L k::L.drop (k+1):=by
 grind[Ki,List.drop_eq_getElem_cons]
theorem wK(L:List (Int×Int×Int))(k:Nat)(h:k<L.length):Ki L k∈L:=by
 grind[Ki]
theorem yU(h:Jb n=true):0<=n/\n<1440:=by grind[Jb]
theorem rB:mx a b<=t ↔ a<=t/\b<=t:=by grind[mx]
theorem Vi:t<mn a b ↔ t<a/\t<b:=by grind[mn]
theorem eM:g∈Hw a b o x y ↔ mx a x<mn b y/\g=(mx a x,mn b y,o):=by
 grind[Hw]
theorem qH{v:Int}:(∃g∈Hw f h o x y,g.1<=t/\t<g.2.1/\g.2.2=v) ↔ f<=t/\x<=t/\t<h/\t<y/\o=v:=by
 constructor;rintro⟨g,i,c,d,e⟩;obtain⟨_,rfl⟩:=eM.1 i;rw[rB]at c;rw[Vi]at d;exact⟨c.1,c.2,d.1,d.2,e⟩;rintro⟨c,d,e,j,k⟩;have a:mx f x<=t:=rB.2 ⟨c,d⟩;have b:t<mn h y:=Vi.2 ⟨e,j⟩;exact⟨_,eM.2 ⟨by omega,rfl⟩,a,b,k⟩
def Mr(fr:Int)(l:List (Int×Int)):Prop:=∃p:Option Int,Ji p l=0/\(p=some fr\/(p=none/\fr=0))
theorem Mr.cons{a:Int}{s:Int×Int}{l:List (Int×Int)}(h:Mr a (s::l)):0<=s.1/\s.1<52596000/\a<=s.1/\Dr s.2=true/\Mr s.1 l:=by
 obtain⟨p,h,b⟩:=h;rw[Ji]at h;split at h;omega;split at h;omega;rename_i h1 h2;simp at h1;have:=yN h1.1;refine⟨this.1,this.2,?_,h1.2,⟨_,h,.inl rfl⟩⟩;grind
theorem SQ(l:List (Int×Int)):∀(d o x y t v:Int),Mr d l->
 ((∃g∈Fl d o l x y,g.1<=t/\t<g.2.1/\g.2.2=v) ↔ d<=t/\x<=t/\t<52596000/\t<y/\Cq o l t=v):=by
 induction l with
 |nil=>intro d o x y t v _;exact qH
 |cons s l ih=>
  intro d o x y t v h;have⟨f,i,j,k,e⟩:=h.cons;rw[Fl,Cq];constructor
  . rintro⟨g,a,b⟩;rcases List.mem_append.1 a with a|a
    . have:=qH.1 ⟨g,a,b⟩;omega
    have:=(ih s.1 s.2 x y t v e).1 ⟨g,a,b⟩;omega
  intro b;by_cases c:t<s.1
  . have⟨g,a,b⟩:=qH.2 (show d<=t/\x<=t/\t<s.1/\t<y/\o=v by omega);grind
  have⟨g,a,b⟩:=(ih s.1 s.2 x y t v e).2 (by omega);grind
def kA{nm:List UInt8}(h:zG nm o l=0):Mr 0 l:=⟨none,(Ue h).2.2.2,.inr ⟨rfl,rfl⟩⟩
def Cs(R:List (Int×Int))(k:Nat):Int×Int:=R.getD k (0,0)
def Ow(R:List (Int×Int))(a b:Int):List (Int×Int):=
 if 0<R.length/\(Cs R (R.length-1)).2=a then R.set (R.length-1) ((Cs R (R.length-1)).1,b) else R++ [(a,b)]
def Vm(h:0<R.length)(c:(Cs R (R.length-1)).2=a):Ow R a b=R.set (R.length-1) ((Cs R (R.length-1)).1,b):=iP ⟨h,c⟩
def Vr(h:¬ (0<R.length/\(Cs R (R.length-1)).2=a)):Ow R a b=R++ [(a,b)]:=iN h
def Kv(g:Int×Int×Int)(fr d:Int):Int:=mx (d*1440+fr-g.2.2) g.1
def Lx(g:Int×Int×Int)(fr ln d:Int):Int:=mn (d*1440+fr-g.2.2+ln) g.2.1
def Pv(g:Int×Int×Int)(fr ln d:Int)(R:List (Int×Int)):List (Int×Int):=
 if Kv g fr d<Lx g fr ln d then Ow R (Kv g fr d) (Lx g fr ln d) else R
def Tj(g:Int×Int×Int)(fr ln:Int):Nat->Int->List (Int×Int)->List (Int×Int)
 |0,_,R=>R
 |n+1,d,R=>Tj g fr ln n (d+1) (Pv g fr ln d R)
def zln{n:Nat}(h:0<n):Tj g a b n d R=Tj g a b (n-1) (d+1) (Pv g a b d R):=by
 obtain⟨m,rfl⟩:∃m,n=m+1:=⟨n-1,by omega⟩;rfl
def zR(g:Int×Int×Int):Int:=(g.1+g.2.2)/1440-1
def segN(g:Int×Int×Int):Nat:=((g.2.1-1+g.2.2)/1440-zR g+1).toNat
def Zg(g:Int×Int×Int)(fr ln:Int)(R:List (Int×Int)):List (Int×Int):=Tj g fr ln (segN g) (zR g) R
def Qm(fr ln:Int):List (Int×Int×Int)->List (Int×Int)->List (Int×Int)
 |[],R=>R
 |g::L,R=>Qm fr ln L (Zg g fr ln R)
def KB(h:k<L.length):Qm a b (L.drop k) R=Qm a b (L.drop (k+1)) (Zg (Ki L k) a b R):=by
 rw[SR L k h,Qm]
theorem LE(h:¬ k<L.length):Qm a b (L.drop k) R=R:=by
 grind[List.drop_of_length_le,Qm]
def eY(g:Int×Int×Int):Prop:=0<=g.1/\g.1<g.2.1/\g.2.1<=52596000/\-840<=g.2.2/\g.2.2<=840
theorem AU(i:0<=d)(j:c<=52596000)(e:Dr o=true):∀g∈Hw d c o x y,eY g:=by
 intro g f;obtain⟨h,rfl⟩:=eM.1 f;have a:=rB.1 (Int.le_refl (mx d x));have b:mn c y<=c:=by unfold mn;split <;> omega
 have:=pC e;exact⟨by omega,h,by simp only;omega,this.1,this.2⟩
theorem xL(l:List (Int×Int)):∀(b o x y:Int),Mr b l->0<=b->Dr o=true->∀g∈Fl b o l x y,eY g:=by
 induction l with
 |nil=>intro b o x y _ c d g a;exact AU c (Int.le_refl _) d g (by simpa[Fl] using a)
 |cons s l ih=>
  intro b o x y h c d g a;have⟨e,j,k,f,i⟩:=h.cons;rcases List.mem_append.1 (by simpa[Fl] using a) with a|a
  . exact AU c (by omega) d g a
  grind
theorem wJ(h:eY g):-2<=zR g/\zR g<=36526/\(segN g:Int)=(g.2.1-1+g.2.2)/1440-zR g+1/\segN g<=40000/\(g.2.1-1+g.2.2)/1440<=36527:=by
 obtain⟨e,f,i,j,k⟩:=h;grind[zR,segN]
def Ga(fr tz:Int):Int:=(tz-fr+1440)%1440
def Ly(o:Int)(l:List (Int×Int))(x y fr tz:Int):List (Int×Int):=if Ga fr tz=0 then [] else Qm fr (Ga fr tz) (Fl 0 o l x y) []
def aQ(R:List (Int×Int))(r:Int×Int):Cs (R++ [r]) R.length=r:=by simp[Cs]
def aV(r:Int×Int)(h:k<R.length):Cs (R.set k r) k=r:=by simp[Cs,h]
def JQ(R:List (Int×Int))(a b c:Int):Ow (Ow R a b) b c=Ow R a c:=by
 by_cases h:0<R.length/\(Cs R (R.length-1)).2=a;rw[Vm h.1 h.2,Vm h.1 h.2];have d:R.length-1<R.length:=by omega
 rw[Vm (by simpa using h.1) (by simp only[List.length_set];rw[aV _ d])];simp only[List.length_set];rw[aV _ d,List.set_set];rw[Vr h,Vr h];have e:(R++ [(a,b)]).length-1=R.length:=by simp
 rw[Vm (by simp) (by rw[e,aQ])];rw[e,aQ];simp
def Ez(S:Int->Bool)(x:Int):Nat->List (Int×Int)
 |0=> []
 |n+1=>if S (x+n)=true then Ow (Ez S x n) (x+n) (x+n+1) else Ez S x n
theorem uT(n:Nat):∀m:Nat,(∀t,x+n<=t->t<x+n+m->S t=false)->Ez S x (n+m)=Ez S x n:=by
 intro m;induction m<;>grind[Ez]
def JW(n:Nat):∀m:Nat,(∀t,x+n<=t->t<x+n+(m+1:Nat)->S t=true)->Ez S x (n+(m+1))=Ow (Ez S x n) (x+n) (x+n+(m+1:Nat)):=by
 intro m;induction m with
 |zero=>intro h;rw[Ez,iP (h _ (by omega) (by omega))];simp
 |succ m ih=>
  intro h;rw[<-Nat.add_assoc,Ez,iP (h _ (by omega) (by omega)),ih (λt h1 h2=>h t h1 (by omega))];rw[show x+((n+(m+1):Nat):Int)=x+n+((m+1:Nat):Int) by omega,JQ];congr 1;omega
def Jz(S:Int->Bool)(x c:Int):List (Int×Int):=Ez S x (c-x).toNat
theorem gH(a:x<=c)(b:c<=d)(h:∀t,c<=t->t<d->S t=false):Jz S x d=Jz S x c:=by
 unfold Jz;obtain⟨n,e⟩:∃n:Nat,(n:Int)=c-x:=⟨(c-x).toNat,by omega⟩;obtain⟨m,f⟩:∃m:Nat,(m:Int)=d-c:=⟨(d-c).toNat,by omega⟩;rw[show(d-x).toNat=n+m by omega,show(c-x).toNat=n by omega];grind[uT]
def JV(a:x<=c)(b:c<d)(h:∀t,c<=t->t<d->S t=true):Jz S x d=Ow (Jz S x c) c d:=by
 unfold Jz;obtain⟨n,e⟩:∃n:Nat,(n:Int)=c-x:=⟨(c-x).toNat,by omega⟩;obtain⟨m,f⟩:∃m:Nat,(m:Int)+1=d-c:=⟨(d-c-1).toNat,by omega⟩;rw[show(d-x).toNat=n+(m+1) by omega,show(c-x).toNat=n by omega];rw[JW n m (λt h1 h2=>h t (by omega) (by omega))];congr 1 <;> omega
theorem xB(d:0<=c/\c<1440)(e:0<=a/\a<1440)(f:0<=b/\b<1440):Rg c a b=decide ((c-a)%1440<Ga a b):=by
 grind[Rg,Ga]
def Qi(g:Int×Int×Int)(fr ln d:Int):Int:=mn (mx ((d-1)*1440+fr-g.2.2+ln) g.1) g.2.1
theorem Nu(a b:Int):(mx a b=a/\b<=a)\/(mx a b=b/\a<b):=by grind[mx]
theorem Uo(a b:Int):(mn a b=a/\a<=b)\/(mn a b=b/\b<a):=by grind[mn]
theorem PH(C:x<=g.1)(D:g.1<g.2.1)(E:0<h)(G:h<1440) 
 (j:∀t,g.1<=t->t<g.2.1->S t=decide ((t+g.2.2-f)%1440<h)):
 Pv g f h d (Jz S x (Qi g f h d))=Jz S x (Qi g f h (d+1)):=by
 have i:∀t,g.1<=t->t<g.2.1->(d-1)*1440+f-g.2.2+h<=t->t<d*1440+f-g.2.2+h->S t=decide (d*1440+f-g.2.2<=t):=by
  intro t a b c e;rw[j t a b];congr 1;apply propext;have q:(t+g.2.2-f)%1440=(t+g.2.2-f-d*1440)%1440:=by omega
  rw[q];omega
 unfold Pv;have k:Qi g f h d=mn (mx ((d-1)*1440+f-g.2.2+h) g.1) g.2.1:=rfl;have l:Qi g f h (d+1)=mn (mx (d*1440+f-g.2.2+h) g.1) g.2.1:=by unfold Qi;congr 2;omega
 have H:=Nu ((d-1)*1440+f-g.2.2+h) g.1;have m:=Uo (mx ((d-1)*1440+f-g.2.2+h) g.1) g.2.1;have K:=Nu (d*1440+f-g.2.2+h) g.1;have n:=Uo (mx (d*1440+f-g.2.2+h) g.1) g.2.1;have o:=Nu (d*1440+f-g.2.2) g.1;have p:=Uo (d*1440+f-g.2.2+h) g.2.1;rw[<-k]at m;rw[<-l]at n;have r:Kv g f d=mx (d*1440+f-g.2.2) g.1:=rfl;have s:Lx g f h d=mn (d*1440+f-g.2.2+h) g.2.1:=rfl;rw[<-r]at o;rw[<-s]at p;generalize Qi g f h d=F at*;generalize Qi g f h (d+1)=w at*;generalize Kv g f d=A at*;generalize Lx g f h d=B at*;split;rename_i hAB;have y:Jz S x A=Jz S x F:=by
  apply gH (by omega) (by omega);intro t u v;rw[i t (by omega) (by omega) (by omega) (by omega)];simp;omega
 have z:Jz S x B=Ow (Jz S x A) A B:=by
  apply JV (by omega) hAB;intro t u v;rw[i t (by omega) (by omega) (by omega) (by omega)];simp;omega
 rw[show w=B by omega,z,y];rename_i hAB;symm;apply gH (by omega) (by omega);grind
theorem KQ(c:x<=g.1)(e:g.1<g.2.1)(f:0<a)(h:a<1440) 
 (i:∀t,g.1<=t->t<g.2.1->S t=decide ((t+g.2.2-b)%1440<a)):∀(n:Nat) (d:Int),
 Tj g b a n d (Jz S x (Qi g b a d))=Jz S x (Qi g b a (d+n)):=by
 intro n;induction n<;>grind[Tj,PH]
theorem JM(k:x<=g.1)(l:eY g)(m:0<b)(o:b<1440)(A:0<=a/\a<1440) 
 (h:∀t,g.1<=t->t<g.2.1->S t=decide ((t+g.2.2-a)%1440<b)):Zg g a b (Jz S x g.1)=Jz S x g.2.1:=by
 obtain⟨p,i,r,s,w⟩:=l;have⟨_,_,y,_,_⟩:=wJ ⟨p,i,r,s,w⟩;have B:zR g=(g.1+g.2.2)/1440-1:=rfl;have e:Qi g a b (zR g)=g.1:=by
  unfold Qi;have z:=Nu ((zR g-1)*1440+a-g.2.2+b) g.1;have j:=Uo (mx ((zR g-1)*1440+a-g.2.2+b) g.1) g.2.1;omega
 have c:=KQ (d:=zR g) k i m o h (n:=segN g);unfold Zg;rw[e]at c;rw[c,y];generalize hL:(g.2.1-1+g.2.2)/1440=L;rw[show zR g+(L-zR g+1)=L+1 by omega];symm;have z:=Nu ((L+1-1)*1440+a-g.2.2+b) g.1;have j:=Uo (mx ((L+1-1)*1440+a-g.2.2+b) g.1) g.2.1;have f:Qi g a b (L+1)=mn (mx ((L+1-1)*1440+a-g.2.2+b) g.1) g.2.1:=rfl;apply gH (by omega) (by omega);grind
def Ty:List (Int×Int×Int)->Int->Int->Prop
 |[],c,e=>c=e
 |g::L,c,e=>g.1=c/\Ty L g.2.1 e
theorem MF(l:List (Int×Int)):∀(a o x y:Int),Mr a l->y<=52596000->a<=52596000->Ty (Fl a o l x y) (mx a x) (mx (mx a x) y):=by
 induction l with
 |nil=>
  intro a o x y _ i b;have k:=Uo 52596000 y;have m:=Nu (mx a x) y;rw[Fl,Hw];split
  . exact⟨rfl,by show mn 52596000 y=_;omega⟩
  show mx a x=_;omega
 |cons s l ih=>
  intro a o x y h i b;have⟨p,q,r,t,d⟩:=h.cons;have:=ih s.1 s.2 x y d i (by omega);have j:=Nu a x;have k:=Uo s.1 y;have m:=Nu (mx a x) y;have u:=Nu s.1 x;have v:=Nu (mx s.1 x) y;rw[Fl,Hw];split
  . by_cases c:s.1<=y
    . grind[Ty]
    have e:Fl s.1 s.2 l x y= []:=by
     apply List.eq_nil_iff_forall_not_mem.2
     intro g f;have n:=segsP_ok' l s.1 s.2 x y d g f;omega
    rw[e];exact⟨rfl,by show mn s.1 y=_;omega⟩
  by_cases c:y<=mx a x
  . have e:Fl s.1 s.2 l x y= []:=by
     apply List.eq_nil_iff_forall_not_mem.2
     intro g f;have n:=segsP_ok' l s.1 s.2 x y d g f;omega
    rw[e];show mx a x=_;omega
  grind
where
 segsP_ok' (l:List (Int×Int)):∀(fr o x y:Int),Mr fr l→∀g∈Fl fr o l x y,fr≤g.1∧x≤g.1∧g.1<g.2.1∧g.2.1≤y:=by
  induction l with
  |nil=>
   grind[eM,Fl,Nu,Uo]
  |cons s l ih=>
   intro fr o x y h g hg;obtain⟨h1,h2,h3,h4,h5⟩:=h.cons;grind[Fl,eM,Nu,Uo]
theorem KC(j:0<f)(k:f<1440)(l:0<=d/\d<1440):∀(L:List (Int×Int×Int)) (c e:Int),x<=c->Ty L c e->(∀g∈L,eY g)->
 (∀g∈L,∀t,g.1<=t->t<g.2.1->S t=decide ((t+g.2.2-d)%1440<f))->Qm d f L (Jz S x c)=Jz S x e:=by
 intro L;induction L with
 |nil=>intro c e _ a _ _;cases a;rfl
 |cons g L ih=>
  intro c e m a b h;obtain⟨rfl,a⟩:=a;have i:=b g (by simp);rw[Qm,JM m i j k l (h g (by simp))];exact ih _ _ (by have:=i.2.1;omega) a (λg' h'=>b g' (by simp[h'])) (λg' h'=>h g' (by simp[h']))
def Gx(o:Int)(l:List (Int×Int))(fr tz t:Int):Bool:=Rg ((t+Cq o l t)%1440) fr tz
theorem MP{nm:List UInt8}(d:zG nm o l=0)(n:0<=x)(e:x<=y)(k:y<=52596000)(i:0<=a/\a<1440)(m:0<=b/\b<1440):
 Ly o l x y a b=Jz (Gx o l a b) x y:=by
 have c:∀t,Gx o l a b t=decide ((t+Cq o l t-a)%1440<Ga a b):=by
  intro t;unfold Gx;rw[xB (by omega) i m];congr 1;apply propext;rw[show((t+Cq o l t)%1440-a)%1440=(t+Cq o l t-a)%1440 by omega]
 unfold Ly;split;rename_i h0;have:Jz (Gx o l a b) x y=Jz (Gx o l a b) x x:=gH (Int.le_refl _) e (λt _ _=>by grind);rw[this];simp[Jz,Ez];have j:=MF l 0 o x y (kA d) k (by decide);have p:=Nu 0 x;rw[show mx 0 x=x by omega,show mx x y=y by grind[Nu]]at j;have f:0<Ga a b:=by unfold Ga at*;omega
 have h:Ga a b<1440:=by unfold Ga;omega
 have:=KC (S:=Gx o l a b) (x:=x) f h i _ x y (Int.le_refl _) j (xL l 0 o x y (kA d) (Int.le_refl _) (Ue d).2.1)
  (λg hg t h1 h2=>by
   have:=(SQ l 0 o x y t g.2.2 (kA d)).1 ⟨g,hg,h1,h2,rfl⟩;simp_all)
 grind[Jz,Ez]
def Nv(S:Int->Bool)(x:Int):Nat->Int
 |0=>0
 |n+1=>Nv S x n+if S (x+n)=true then 1 else 0
def Ku(R:List (Int×Int)):Nat->Int
 |0=>0
 |k+1=>Ku R k+((Cs R k).2-(Cs R k).1)
def Kf(R:List (Int×Int))(ln:Int):Nat->Int
 |0=>0
 |k+1=>Kf R ln k+if ln<=(Cs R k).2-(Cs R k).1 then 1 else 0
theorem nC(h:k<R.length):Cs (R++M) k=Cs R k:=by
 grind[Cs]
theorem nB{j:Nat}(r:Int×Int)(h:j≠k):Cs (R.set j r) k=Cs R k:=by
 grind[Cs]
theorem uR:∀k:Nat,(∀j,j<k->Cs R j=Cs M j)->Ku R k=Ku M k:=by
 intro k;induction k<;>grind[Ku]
theorem uE:∀k:Nat,(∀j,j<k->Cs R j=Cs M j)->Kf R a k=Kf M a k:=by
 intro k;induction k<;>grind[Kf]
theorem MU(R:List (Int×Int))(a b:Int):Ku (Ow R a b) (Ow R a b).length=Ku R R.length+(b-a):=by
 by_cases h:0<R.length/\(Cs R (R.length-1)).2=a;rw[Vm h.1 h.2,List.length_set];obtain⟨m,d⟩:∃m,R.length=m+1:=⟨R.length-1,by omega⟩;have c:=h.2;rw[d]at c ⊢;simp only[Nat.add_sub_cancel]at c ⊢;rw[Ku,Ku,aV _ (by omega),uR m (λj hj=>nB _ (by omega))];omega;rw[Vr h,List.length_append,List.length_singleton,Ku,aQ,uR R.length (λj hj=>nC hj)]
def oH(S:Int->Bool)(x:Int):∀(n k:Nat),k<(Ez S x n).length->x<=(Cs (Ez S x n) k).1/\(Cs (Ez S x n) k).1<(Cs (Ez S x n) k).2/\(Cs (Ez S x n) k).2<=x+n:=by
 intro n;induction n with
 |zero=>intro k h;simp[Ez]at h
 |succ n ih=>
  intro k h;rw[Ez]at h ⊢;split
  . rename_i hs
    rw[iP hs]at h;generalize Ez S x n=R at*;by_cases a:0<R.length/\(Cs R (R.length-1)).2=x+n
    . rw[Vm a.1 a.2]at h ⊢;rw[List.length_set]at h;by_cases e:k=R.length-1
      . subst e;rw[aV _ h];have:=ih _ h;simp only;omega
      rw[nB _ (Ne.symm e)];have:=ih k h;omega
    rw[Vr a]at h ⊢;by_cases e:k=R.length
    . subst e;rw[aQ];simp only;omega
    rw[nC (by simp at h;omega)];have:=ih k (by simp at h;omega);omega
  rename_i hs
  rw[iN hs]at h;have:=ih k h;omega
theorem vJ(S:Int->Bool)(x:Int):∀n:Nat,Ku (Ez S x n) (Ez S x n).length=Nv S x n:=by
 intro n;induction n with
 |zero=>rfl
 |succ n ih=>
  grind[Ez,Nv,MU]
theorem pB(S:Int->Bool)(x:Int):∀n:Nat,0<=Nv S x n/\Nv S x n<=n:=by
 intro n;induction n<;>grind[Nv]
theorem vE(h:∀k,k<R.length->(Cs R k).1<(Cs R k).2):∀j k:Nat,j<=k->k<=R.length->Ku R j<=Ku R k:=by
 intro j k;induction k<;>grind[Ku]
def Le(S:Int->Bool)(x ln:Int):Nat->Int×Int
 |0=>(0,0)
 |n+1=>if S (x+n)=true then((Le S x ln n).1,(Le S x ln n).2+1)
  else((Le S x ln n).1+if ln<=(Le S x ln n).2/\0<(Le S x ln n).2 then 1 else 0,0)
def bF(S:Int->Bool)(x ln:Int)(n:Nat):Int:=(Le S x ln n).1+if ln<=(Le S x ln n).2/\0<(Le S x ln n).2 then 1 else 0
def Sl(R:List (Int×Int))(e:Int):Int:=if 0<R.length/\(Cs R (R.length-1)).2=e then e-(Cs R (R.length-1)).1 else 0
def Sm(R:List (Int×Int))(e:Int):Nat:=if 0<R.length/\(Cs R (R.length-1)).2=e then R.length-1 else R.length
def JD(S:Int->Bool)(x k:Int):∀n:Nat,Le S x k n=(Kf (Ez S x n) k (Sm (Ez S x n) (x+n)),Sl (Ez S x n) (x+n)):=by
 intro n;induction n with
 |zero=>simp[Le,Ez,Sm,Sl,Kf]
 |succ n ih=>
  have b:=oH S x n;rw[Le,Ez,ih];generalize Ez S x n=R at*;rw[show x+((n+1:Nat):Int)=x+n+1 by omega];split
  . by_cases a:0<R.length/\(Cs R (R.length-1)).2=x+n
    . have l:R.length-1<R.length:=by omega
      have f:Sm R (x+n)=R.length-1:=iP a;have g:Sl R (x+n)=x+n-(Cs R (R.length-1)).1:=iP a;rw[Vm a.1 a.2,f,g];have d:0<(R.set (R.length-1) ((Cs R (R.length-1)).1,x+n+1)).length/\(Cs (R.set (R.length-1) ((Cs R (R.length-1)).1,x+n+1)) ((R.set (R.length-1) ((Cs R (R.length-1)).1,x+n+1)).length-1)).2=x+n+1:=by
       rw[List.length_set,aV _ l];exact⟨a.1,rfl⟩
      rw[Sm,iP d,Sl,iP d,List.length_set,aV _ l];refine Prod.ext ?_ ?_
      . exact uE _ (λj a=>(nB _ (by omega)).symm)
      simp only;omega
    have f:Sm R (x+n)=R.length:=iN a;have g:Sl R (x+n)=0:=iN a;rw[Vr a,f,g];have e:(R++ [(x+(n:Int),x+n+1)]).length-1=R.length:=by simp
    have d:0<(R++ [(x+(n:Int),x+n+1)]).length/\(Cs (R++ [(x+(n:Int),x+n+1)]) ((R++ [(x+(n:Int),x+n+1)]).length-1)).2=x+n+1:=by
     rw[e,aQ];exact⟨by simp,rfl⟩
    rw[Sm,iP d,Sl,iP d,e,aQ];refine Prod.ext ?_ ?_
    . exact uE _ (λj a=>(nC a).symm)
    simp only;omega
  have d:¬ (0<R.length/\(Cs R (R.length-1)).2=x+n+1):=by
   rintro⟨p,i⟩;have:=b (R.length-1) (by omega);omega
  have f:Sm R (x+n+1)=R.length:=iN d;have g:Sl R (x+n+1)=0:=iN d;rw[f,g];refine Prod.ext ?_ rfl;simp only;by_cases a:0<R.length/\(Cs R (R.length-1)).2=x+n
  . obtain⟨m,o⟩:∃m,R.length=m+1:=⟨R.length-1,by omega⟩;have:=b (R.length-1) (by omega);have i:=a.2;rw[Sm,iP a,Sl,iP a];rw[o]at this i ⊢;simp only[Nat.add_sub_cancel]at this i ⊢;rw[Kf,i];congr 1
    by_cases c:k<=x+n-(Cs R m).1
    . rw[iP c,iP ⟨c,by omega⟩]
    rw[iN c,iN (λh=>c h.1)]
  rw[Sm,iN a,Sl,iN a,iN (by omega)];omega
theorem IG(S:Int->Bool)(x b:Int)(n:Nat):bF S x b n=Kf (Ez S x n) b (Ez S x n).length:=by
 have d:=oH S x n;unfold bF;rw[JD];generalize Ez S x n=R at*;by_cases a:0<R.length/\(Cs R (R.length-1)).2=x+n;obtain⟨m,f⟩:∃m,R.length=m+1:=⟨R.length-1,by omega⟩;have:=d (R.length-1) (by omega);have e:=a.2;rw[Sm,iP a,Sl,iP a];rw[f]at this e ⊢;all_goals grind[Kf,Sm,Sl]
theorem PZ(R:List (Int×Int))(a:Int):∀k:Nat,0<=Kf R a k/\Kf R a k<=k:=by
 intro k;induction k<;>grind[Kf]
theorem NG(S:Int->Bool)(x a:Int):∀n:Nat,0<=(Le S x a n).1/\(Le S x a n).1<=n/\0<=(Le S x a n).2/\(Le S x a n).2<=n:=by
 intro n;induction n<;>grind[Le]
def z9(nm:List UInt8)(o:Int)(l:List (Int×Int))(x y:Int):Int×Int×Int:=
 if zG nm o l≠0 then(0,0,zG nm o l) else if Io x y=false then(0,0,5) else if x=y then(0,0,8)
 else((x+Cq o l x)/1440,(y-1+Cq o l (y-1))/1440,0)
theorem qX(h:Io x y=true):0<=x/\x<=y/\y<=52596000:=by grind[Io]
def He{nm:List UInt8}(h:zG nm o l=0)(t:Int):-840<=Cq o l t/\Cq o l t<=840:=by
 have⟨_,a,_,b⟩:=Ue h;exact pC (AK l none o t b a)
end Go.Proofs.YtafdcbmgdfliiaaGreat
namespace Go.Proofs.YtafdcbmgdfliiaaGreat
open Go.RowKit Go.Sort Go.Proofs.Tryz
variable {P:Program}{k n z:Nat}{a:Array Value}{w w':Wd}{v:Value}{Q:Ending→Wd→Prop}{b c d:Int}{s:BA}{l:List (Int×Int)}
instance:Coe Int Value:=⟨.int .i64⟩
instance:CoeTail Nat Value:=⟨fun n=>.int .i64 (n:Int)⟩
def ca{R:Wd→Prop}(h:Calls P n a w fun e w'=>e=.returned v∧R w')(k:∀w',R w'→Q (.returned v) w'):Calls P n a w Q:=h.mono fun _ w' h=>h.1▸k w' h.2
def cb(h:Calls P n a w fun e w'=>e=.returned v∧w=w')(k:Q (.returned v) w):Calls P n a w Q:=h.mono fun _ _ h=>h.1▸h.2▸k
abbrev Bw(w w':Wd):Prop:=Below w.heap.size w w'
abbrev CV(n:Nat)(a:Array Value)(w:World)(v:Value):Prop:=Calls prog n a w λe w'=>e=.returned v/\Bw w w'
abbrev CE(n:Nat)(a:Array Value)(w:World)(v:Value):Prop:=Calls prog n a w λe w'=>e=.returned v/\w=w'
theorem Ip{a b:Bool}(h:a=true ↔ b=true):Ending.returned (.bool a)=.returned (.bool b):=by simp_all
def Oi(n:Int)(w:Wd):
 CE 215 #[n] w (.bool (Dr n)):=by
 delta CE;go_in;go_wp2
 all_goals (go_ret;exact⟨by simp[Dr];omega,rfl⟩)
def Yx(n:Int)(w:Wd):
 CE 216 #[n] w (.bool (Ew n)):=by
 delta CE;go_in;go_wp2
 all_goals (go_ret;exact⟨by simp[Ew];omega,rfl⟩)
def Oh(n:Int)(w:Wd):
 CE 250 #[n] w (.bool (Dr n)):=by
 delta CE;go_in;go_wp2
 all_goals (go_ret;exact⟨by simp[Dr];omega,rfl⟩)
def Yt(n:Int)(w:Wd):
 CE 251 #[n] w (.bool (Ew n)):=by
 delta CE;go_in;go_wp2
 all_goals (go_ret;exact⟨by simp[Ew];omega,rfl⟩)
def zfR(n:Int)(w:Wd):
 CE 266 #[n] w (.bool (Jb n)):=by
 delta CE;go_in;go_wp2
 all_goals (go_ret;exact⟨by simp[Jb];omega,rfl⟩)
def nU(n:Int)(w:Wd):
 CE 275 #[.int .u8 n] w (.bool (Kp n)):=by
 delta CE;go_in;go_wp2
 all_goals (go_ret;exact⟨by simp[Kp];omega,rfl⟩)
def eH(n:Int)(w:Wd):
 CE 272 #[.int .u8 n] w (.bool (Jw n)):=by
 delta CE;go_in;go_wp2
 all_goals (go_ret;exact⟨by simp[Jw];omega,rfl⟩)
def Th(c a b:Int)(w:Wd):
 CE 240 #[c,a,b] w (.bool (Rg c a b)):=by
 delta CE;go_in;go_wp2
 all_goals (go_ret;refine⟨?_,rfl⟩;unfold Rg;split <;> first|omega|(simp;done)|(simp;omega))
def Zk(a b:Int)(w:Wd):
 CV 154 #[.agg #[a,b]] w (.bool (Io a b)):=by
 delta CV;go_in;go_wp2
 all_goals (go_ret;exact⟨Ip (by simp only[Io,decide_eq_true_eq,Bool.false_eq_true,true_iff,false_iff];omega),(Below.refl _ _).alloc (Nat.le_refl _) _⟩)
def Uk(a b:Int)(w:Wd):
 CV 289 #[.agg #[a,b]] w (.bool (Io a b)):=by
 delta CV;go_in;go_wp2
 all_goals (go_ret;exact⟨Ip (by simp only[Io,decide_eq_true_eq,Bool.false_eq_true,true_iff,false_iff];omega),(Below.refl _ _).alloc (Nat.le_refl _) _⟩)
def aT{α:Type}(a:α):∃b,b=a:=⟨a,rfl⟩
def SY{P:Program}{id:Nat}{Q:Exit->Act->World->Prop}{a:Act}{w:World}{l:List Oper}(h:wpQuiet P l.toArray (λw'=>∃p:Regrown,w'=grow (redrawn w p.d) p.os) (λa'=>∀w',(∃p:Regrown,w'=grow (redrawn w p.d) p.os)->Q .normal a' w') l a)(d:P.follows .mixedOrders=true:=by kernel_rfl)(e:Region.lexB .any l.toArray=true:=by kernel_rfl):(Code.region id l.toArray true).wp P Q a w:=wQ d e h
def ze{k:IntKind}{a:Int}(h:a=b):Ending.returned (.int k a)=.returned (.int k b):=by rw[h]
def hU{k:IntKind}{a b:Int}{P:Prop}(h:Af (b=a))(q:Af P):Ending.returned (.int k a)=.returned (.int k b)/\P:=⟨ze h.1.symm,q.1⟩
def zJ{k l:IntKind}{a:Int}(h:a=b)(e:c=d):Ending.returned (.tuple #[.int k a,.int l c])=.returned (.tuple #[.int k b,.int l d]):=by rw[h,e]
def kB(t:Int)(w:Wd)(b:-9000000000000000000<=t)(d:t<=9000000000000000000):
 CE 155 #[t] w (.tuple #[Bn (t/1440),Bn (t%1440)]):=by
 have f:=AA t (by omega) (by omega);by_cases c:t.tmod 1440<0
 . have a:=I (pL t c);delta CE;go_in;go_wp2;go_ret2;exact⟨zJ a.1.1 a.1.2,rfl⟩
 have a:=I (pK t (by omega));delta CE;go_in;go_wp2;go_ret2;exact⟨zJ a.1.1 a.1.2,rfl⟩
def zqt(t:Int)(w:Wd)(b:-9000000000000000000<=t)(d:t<=9000000000000000000):
 CE 238 #[t,Bn 1440] w (Bn (t/1440)):=by
 have f:=AA t (by omega) (by omega);by_cases c:t.tmod 1440<0
 . have a:=I (pL t c);delta CE;go_in;go_wp2;go_ret;exact⟨ze a.1.1,rfl⟩
 have a:=I (pK t (by omega));delta CE;go_in;go_wp2;go_ret;exact⟨ze a.1.1,rfl⟩
def Si(t:Int)(w:Wd)(b:-9000000000000000000<=t)(c:t<=9000000000000000000):
 CE 172 #[t] w (.tuple #[Bn (t/1440),Bn (t%1440)]):=by
 delta CE;go_in;go_wp2_with (go_at_call 238;refine cb (zqt _ _ (by omega) (by omega)) ?_);go_ret2;exact⟨zJ rfl (by omega),rfl⟩
def eD(s:BA)(k:Nat)(h:k<s.size):s.data.toList.getD k 0=s[k]:=by
 have a:k<s.data.toList.length:=by simpa using h
 rw[List.getD_eq_getElem?_getD,List.getElem?_eq_getElem a];rfl
def Md(s:BA)(k:Nat):Prop:=∀j,j<k->Qn j ((s.data.toList.getD j 0).toNat:Int)=true
def Md.step(h:k<s.size)(H:Md s k)(a:Qn k (s[k].toNat:Int)=true):Md s (k+1):=by
 intro j b;by_cases e:j=k;subst e;rw[eD s j h];exact a;exact H j (by omega)
theorem Md.done(a:1<=s.size)(b:s.size<=16)(H:Md s s.size):Gu s.data.toList=true:=by
 have c:s.data.toList.length=s.size:=by simp
 unfold Gu;rw[JE s.data.toList 0 (λk hk=>by
  have:=H k (by omega);grind)]
 simp;omega
def Md.bad(h:k<s.size)(a:Qn k (s[k].toNat:Int)=false):Gu s.data.toList=false:=by
 have b:s.data.toList.length=s.size:=by simp
 unfold Gu;rw[II s.data.toList 0 k (by omega) (by rw[Nat.zero_add];exact a)];simp
theorem NH(h:0<k\/Kp c=true)(a:Kp c=true\/Jw c=true\/(c !=95)=false):Qn k c=true:=by
 grind[Qn]
theorem OA(a:¬ Kp c=true)(b:¬ Jw c=true)(d:(c !=95)=true):Qn k c=false:=by
 grind[Qn]
theorem Md.len(h:s.size<1\/16<s.size):Gu s.data.toList=false:=by
 unfold Gu;simp;omega
def Jh(s:BA)(w:Wd)(f:s.size<=maxLen):
 CE 214 #[B_ s] w (.bool (Gu s.data.toList)):=by
 unfold maxLen at f;by_cases c:s.size<1\/16<s.size
 . have d:=I (Md.len c);rcases c with c|c
   all_goals
    delta CE;go_in
    go_wp2
    go_ret;exact⟨Ip (by rw[d.1]),rfl⟩
 delta CE;go_in;go_wp2;go_loop [15] (λi=>∃k:Nat,k<=s.size/\i=Bn k/\Md s k) (λi=>s.size-(intOf i).toNat);exact⟨0,Nat.zero_le _,rfl,λj h=>aB h (Nat.not_lt_zero _)⟩;obtain⟨k,g,rfl,a⟩:=hrel;by_cases b:k<s.size
 . go_wp2
   all_goals first
    |(go_ret
      refine⟨Ip (by rw[Md.bad b (by simp only[Qn,Kp,Jw,Bool.or_eq_false_iff,Bool.and_eq_false_iff,decide_eq_false_iff_not,beq_eq_false_iff_ne] at*;omega)]),rfl⟩)
    |(go_round
      case rel=>exact⟨k+1,by omega,by go_num,Md.step b a (by simp only[Qn,Kp,Jw,Bool.or_eq_true,Bool.and_eq_true,decide_eq_true_eq,beq_iff_eq] at*;omega)⟩
      case measure=>simp[intOf];omega)
 obtain rfl:k=s.size:=by omega
 have d:=I (Md.done (by omega) (by omega) a);go_wp2;go_ret;exact⟨Ip (by rw[d.1]),rfl⟩
def zU(s:BA)(w:Wd)(n:s.size<=maxLen):
 CE 248 #[B_ s] w (.bool (Gu s.data.toList)):=by
 unfold maxLen at n;by_cases f:s.size<1\/16<s.size
 . have c:=I (Md.len f);rcases f with f|f
   all_goals
    delta CE;go_in
    go_wp2
    go_ret;exact⟨Ip (by rw[c.1]),rfl⟩
 have o:0<s.size:=by omega
 cases g:Kp (s[0].toNat:Int)
 . have c:=I (Md.bad o (by simp only[Qn,g];simp));delta CE;go_in;go_wp2_with (first|(go_at_call 275;refine cb (nU _ _) ?_));go_ret;exact⟨Ip (by rw[c.1]),rfl⟩
 have l:=I g;delta CE;go_in;go_wp2_with (first|(go_at_call 275;refine cb (nU _ _) ?_));go_loop [3] (λi=>∃k:Nat,k<=s.size/\i=Bn k/\Md s k) (λi=>s.size-(intOf i).toNat);exact⟨0,Nat.zero_le _,rfl,λj h=>aB h (Nat.not_lt_zero _)⟩;obtain⟨k,p,rfl,a⟩:=hrel;by_cases d:k<s.size
 . have m:=I (show 0<k\/Kp (s[k].toNat:Int)=true from by
    by_cases e:k=0
    . subst e;exact .inr l.1
    exact .inl (by omega))
   go_wp2_with (first|(go_at_call 275;refine cb (nU _ _) ?_)|(go_at_call 272;refine cb (eH _ _) ?_))
   all_goals first
    |(go_ret
      exact⟨Ip (by rw[Md.bad d (OA (by assumption) (by assumption) (by assumption))]),rfl⟩)
    |(go_round
      case rel=>exact⟨k+1,by omega,by go_num,Md.step d a (NH m.1 (by first|exact .inl (by assumption)|exact .inr (.inl (by assumption))|exact .inr (.inr (by assumption))))⟩
      case measure=>simp[intOf];omega)
 obtain rfl:k=s.size:=by omega
 have c:=I (Md.done (by omega) (by omega) a);go_wp2;go_ret;exact⟨Ip (by rw[c.1]),rfl⟩
def Tk(w:Wd)(b off:Nat)(l:List (Int×Int)):Prop:=
 ∀i,i<l.length->w.cell? (aD b (off+i*2))=some (.int .i64 (Br l i).1)/\w.cell? (aD b (off+i*2+1))=some (.int .i64 (Br l i).2)
def Cj(w:Wd)(a:Option Addr)(l:List (Int×Int)):Prop:=l= []\/∃b off,a=some (aD b off)/\b<w.heap.size/\Tk w b off l
def Tk.below{b a:Nat}(h:Tk w b a l)(c:b<w.heap.size)(d:Bw w w'):Tk w' b a l:=
 λi hi=>⟨(d.cell (p:=aD b (a+i*2)) c).trans (h i hi).1,(d.cell (p:=aD b (a+i*2+1)) c).trans (h i hi).2⟩
def Cj.below{a:Option Addr}(h:Cj w a l)(d:Bw w w'):Cj w' a l:=by
 rcases h with h|⟨b,c,h,e,f⟩;exact .inl h;exact .inr ⟨b,c,h,Nat.lt_of_lt_of_le e d.size,f.below e d⟩
def gT(s:BA)(o:Int)(l:List (Int×Int))(a:Option Addr)(cap:Nat)(w:Wd)(z:s.size<=maxLen)(T:l.length<=1000000)(L:Cj w a l):
 CV 141 #[.agg #[B_ s,o,CU a l.length cap]] w (zG s.data.toList o l):=by
 cases y:Gu s.data.toList
 . have q:Af (zG s.data.toList o l=1):=I (by simp[zG,y]);delta CV;go_in
   go_wp2_with (first|(go_at_call 214;refine cb (Jh _ _ z) ?_)|(go_at_call 215;refine cb (Oi _ _) ?_))
   go_ret;exact⟨ze q.1.symm,(Below.refl _ _).alloc (Nat.le_refl _) _⟩
 cases A:Dr o
 . have q:Af (zG s.data.toList o l=5):=I (by simp[zG,y,A]);delta CV;go_in
   go_wp2_with (first|(go_at_call 214;refine cb (Jh _ _ z) ?_)|(go_at_call 215;refine cb (Oi _ _) ?_))
   go_ret;exact⟨ze q.1.symm,(Below.refl _ _).alloc (Nat.le_refl _) _⟩
 by_cases F:16<l.length
 . have q:Af (zG s.data.toList o l=10):=I (by simp[zG,y,A,F]);delta CV;go_in
   go_wp2_with (first|(go_at_call 214;refine cb (Jh _ _ z) ?_)|(go_at_call 215;refine cb (Oi _ _) ?_))
   go_ret;exact⟨ze q.1.symm,(Below.refl _ _).alloc (Nat.le_refl _) _⟩
 delta CV;go_in
 go_wp2_with (first|(go_at_call 214;refine cb (Jh _ _ z) ?_)|(go_at_call 215;refine cb (Oi _ _) ?_))
 have x:zG s.data.toList o l=Ji none l:=by simp[zG,y,A,F]
 have x:=I x;clear y A;generalize hW:w.alloc (Obj.cells #[B_ s,Bn o,CU a l.length cap] 168)=W;have t:Bw w W:=by rw[<-hW];exact(Below.refl _ _).alloc (Nat.le_refl _) _
 have j:w.heap.size<W.heap.size:=by rw[<-hW];simp
 have D:W.cell? (aD w.heap.size 2)=some (CU a l.length cap):=by clear t j;subst hW;go_simp
 clear hW;go_loopw [20] (λi wr=>∃k:Nat,k<=l.length/\i=Bn k/\Np l k/\Bw W wr) (λi _=>l.length-(intOf i).toNat)
 case atStart=>exact⟨0,Nat.zero_le _,rfl,Np.zero _,Below.refl _ _⟩
 obtain⟨k,U,rfl,f,c⟩:=hrel;have M:=(c.cell (p:=aD w.heap.size 2) j).trans D;have u:=(t.trans (c.mono (Nat.le_of_lt j)));by_cases n:k<l.length
 . obtain⟨b,r,rfl,E,G⟩:=L.resolve_left (λh=>by simp[h]at n);have d:=G k n;have N:=(c.cell (p:=aD b (r+k*2)) (by simp;omega)).trans ((t.cell (p:=aD b (r+k*2)) E).trans d.1);have P:=(c.cell (p:=aD b (r+k*2+1)) (by simp;omega)).trans ((t.cell (p:=aD b (r+k*2+1)) E).trans d.2);clear d;have Q:w.heap.size<wr.heap.size:=Nat.lt_of_lt_of_le j c.size;have R:b<wr.heap.size:=by omega
   cases B:Ew (Br l k).1
   . have q:=I (x.1.trans (f.bad n (.inl B)));go_wp2_with (first|(go_at_call 216;refine cb (Yx _ _) ?_)|(go_at_call 215;refine cb (Oi _ _) ?_))
     go_ret;exact⟨ze q.1.symm,(u.alloc (Nat.le_trans (Nat.le_of_lt j) c.size) _)⟩
   cases C:Dr (Br l k).2
   . have q:=I (x.1.trans (f.bad n (.inr C)));go_wp2_with (first|(go_at_call 216;refine cb (Yx _ _) ?_)|(go_at_call 215;refine cb (Oi _ _) ?_))
     go_ret;exact⟨ze q.1.symm,(u.alloc (Nat.le_trans (Nat.le_of_lt j) c.size) _)⟩
   by_cases H:k=0
   . have v:=I (f.step n B C (.inl H));have V:decide (0<k)=false:=by simp;omega
     clear H;go_wp2_with (first|(go_at_call 216;refine cb (Yx _ _) ?_)|(go_at_call 215;refine cb (Oi _ _) ?_))
     go_quiet (fail)
     go_wp2
     go_roundw
     case rel=>exact⟨k+1,by omega,by go_num,v.1,dN (c.alloc c.size _) _⟩
     case measure=>simp[intOf];omega
   obtain⟨m,rfl⟩:∃m,k=m+1:=⟨k-1,by omega⟩;have d:=G m (by omega);have S:=(c.cell (p:=aD b (r+m*2)) (by simp;omega)).trans ((t.cell (p:=aD b (r+m*2)) E).trans d.1);clear d;by_cases K:(Br l (m+1)).1<=(Br l m).1
   . have q:=I (x.1.trans (f.order n B C (by omega) K));go_wp2_with (first|(go_at_call 216;refine cb (Yx _ _) ?_)|(go_at_call 215;refine cb (Oi _ _) ?_))
     go_quiet (fail)
     go_wp2
     go_ret;exact⟨ze q.1.symm,dN (u.alloc (Nat.le_trans (Nat.le_of_lt j) c.size) _) _⟩
   have v:=I (f.step n B C (.inr (Int.not_le.1 K)));go_wp2_with (first|(go_at_call 216;refine cb (Yx _ _) ?_)|(go_at_call 215;refine cb (Oi _ _) ?_))
   go_quiet (fail)
   go_wp2
   go_roundw
   case rel=>exact⟨m+1+1,by omega,by go_num,v.1,dN (c.alloc c.size _) _⟩
   case measure=>simp[intOf];omega
 obtain rfl:k=l.length:=by omega
 have q:=I (x.1.trans f.done);go_wp2
 go_ret;exact⟨ze q.1.symm,u⟩
def gG(s:BA)(o:Int)(l:List (Int×Int))(a:Option Addr)(cap:Nat)(w:Wd)(z:s.size<=maxLen)(T:l.length<=1000000)(L:Cj w a l):
 CV 202 #[.agg #[B_ s,o,CU a l.length cap]] w (zG s.data.toList o l):=by
 cases y:Gu s.data.toList
 . have n:Af (zG s.data.toList o l=1):=I (by simp[zG,y]);delta CV;go_in
   go_wp2_with (first|(go_at_call 248;refine cb (zU _ _ z) ?_)|(go_at_call 250;refine cb (Oh _ _) ?_))
   go_ret;exact⟨ze n.1.symm,(Below.refl _ _).alloc (Nat.le_refl _) _⟩
 cases A:Dr o
 . have n:Af (zG s.data.toList o l=5):=I (by simp[zG,y,A]);delta CV;go_in
   go_wp2_with (first|(go_at_call 248;refine cb (zU _ _ z) ?_)|(go_at_call 250;refine cb (Oh _ _) ?_))
   go_ret;exact⟨ze n.1.symm,(Below.refl _ _).alloc (Nat.le_refl _) _⟩
 by_cases F:16<l.length
 . have n:Af (zG s.data.toList o l=10):=I (by simp[zG,y,A,F]);delta CV;go_in
   go_wp2_with (first|(go_at_call 248;refine cb (zU _ _ z) ?_)|(go_at_call 250;refine cb (Oh _ _) ?_))
   go_ret;exact⟨ze n.1.symm,(Below.refl _ _).alloc (Nat.le_refl _) _⟩
 delta CV;go_in
 go_wp2_with (first|(go_at_call 248;refine cb (zU _ _ z) ?_)|(go_at_call 250;refine cb (Oh _ _) ?_))
 have x:zG s.data.toList o l=Ji none l:=by simp[zG,y,A,F]
 have x:=I x;clear y A;generalize hW:w.alloc (Obj.cells #[B_ s,Bn o,CU a l.length cap] 168)=W;have r:Bw w W:=by rw[<-hW];exact(Below.refl _ _).alloc (Nat.le_refl _) _
 have t:w.heap.size<W.heap.size:=by rw[<-hW];simp
 have D:W.cell? (aD w.heap.size 2)=some (CU a l.length cap):=by clear r t;subst hW;go_simp
 clear hW;go_loopw [3] (λi wr=>∃k:Nat,k<=l.length/\i=Bn k/\Np l k/\Bw W wr) (λi _=>l.length-(intOf i).toNat)
 case atStart=>exact⟨0,Nat.zero_le _,rfl,Np.zero _,Below.refl _ _⟩
 obtain⟨k,U,rfl,f,d⟩:=hrel;have M:=(d.cell (p:=aD w.heap.size 2) t).trans D;have u:=(r.trans (d.mono (Nat.le_of_lt t)));by_cases j:k<l.length
 . obtain⟨b,q,rfl,E,G⟩:=L.resolve_left (λh=>by simp[h]at j);have c:=G k j;have N:=(d.cell (p:=aD b (q+k*2)) (by simp;omega)).trans ((r.cell (p:=aD b (q+k*2)) E).trans c.1);have P:=(d.cell (p:=aD b (q+k*2+1)) (by simp;omega)).trans ((r.cell (p:=aD b (q+k*2+1)) E).trans c.2);clear c;have Q:w.heap.size<wr.heap.size:=Nat.lt_of_lt_of_le t d.size;have R:b<wr.heap.size:=by omega
   cases B:Ew (Br l k).1
   . have n:=I (x.1.trans (f.bad j (.inl B)));go_wp2_with (first|(go_at_call 251;refine cb (Yt _ _) ?_)|(go_at_call 250;refine cb (Oh _ _) ?_))
     go_ret;exact⟨ze n.1.symm,u⟩
   cases C:Dr (Br l k).2
   . have n:=I (x.1.trans (f.bad j (.inr C)));go_wp2_with (first|(go_at_call 251;refine cb (Yt _ _) ?_)|(go_at_call 250;refine cb (Oh _ _) ?_))
     go_ret;exact⟨ze n.1.symm,u⟩
   by_cases H:k=0
   . have v:=I (f.step j B C (.inl H));have V:decide (0<k)=false:=by simp;omega
     clear H;go_wp2_with (first|(go_at_call 251;refine cb (Yt _ _) ?_)|(go_at_call 250;refine cb (Oh _ _) ?_))
     go_quiet (fail)
     go_wp2
     go_roundw
     case rel=>exact⟨k+1,by omega,by go_num,v.1,dN d _⟩
     case measure=>simp[intOf];omega
   obtain⟨m,rfl⟩:∃m,k=m+1:=⟨k-1,by omega⟩;have c:=G m (by omega);have S:=(d.cell (p:=aD b (q+m*2)) (by simp;omega)).trans ((r.cell (p:=aD b (q+m*2)) E).trans c.1);clear c;by_cases K:(Br l (m+1)).1<=(Br l m).1
   . have n:=I (x.1.trans (f.order j B C (by omega) K));go_wp2_with (first|(go_at_call 251;refine cb (Yt _ _) ?_)|(go_at_call 250;refine cb (Oh _ _) ?_))
     go_quiet (fail)
     go_wp2
     go_ret;exact⟨ze n.1.symm,dN u _⟩
   have v:=I (f.step j B C (.inr (Int.not_le.1 K)));go_wp2_with (first|(go_at_call 251;refine cb (Yt _ _) ?_)|(go_at_call 250;refine cb (Oh _ _) ?_))
   go_quiet (fail)
   go_wp2
   go_roundw
   case rel=>exact⟨m+1+1,by omega,by go_num,v.1,dN d _⟩
   case measure=>simp[intOf];omega
 obtain rfl:k=l.length:=by omega
 have n:=I (x.1.trans f.done);go_wp2
 go_ret;exact⟨ze n.1.symm,u⟩
def pR(s:BA)(o t:Int)(l:List (Int×Int))(a:Option Addr)(cap:Nat)(w:Wd)(E:l.length<=1000000)(z:Cj w a l):
 CV 156 #[.agg #[B_ s,o,CU a l.length cap],t] w (Cq o l t):=by
 delta CV;go_in;go_wp2;generalize hW:w.alloc (Obj.cells #[B_ s,Bn o,CU a l.length cap] 168)=W;have q:Bw w W:=by rw[<-hW];exact(Below.refl _ _).alloc (Nat.le_refl _) _
 have r:w.heap.size<W.heap.size:=by rw[<-hW];simp
 go_loopw [5,13] (λm i wr=>∃(n:Int) (k:Nat),k<=l.length/\i=Bn k/\m=Bn n/\Af (Cq o l t=Cq n (l.drop k) t)/\Bw W wr) (λ_ i _=>l.length-(intOf i).toNat);exact⟨o,0,Nat.zero_le _,rfl,rfl,I rfl,Below.refl _ _⟩;obtain⟨n,k,F,rfl,rfl,f,c⟩:=hrel;have u:=(q.trans (c.mono (Nat.le_of_lt r)));by_cases g:k<l.length
 . obtain⟨b,j,rfl,x,A⟩:=z.resolve_left (λh=>by simp[h]at g);have d:=A k g;have B:=(c.cell (p:=aD b (j+k*2)) (by simp;omega)).trans ((q.cell (p:=aD b (j+k*2)) x).trans d.1);have C:=(c.cell (p:=aD b (j+k*2+1)) (by simp;omega)).trans ((q.cell (p:=aD b (j+k*2+1)) x).trans d.2);have D:w.heap.size<wr.heap.size:=Nat.lt_of_lt_of_le r c.size;by_cases y:t<(Br l k).1
   . have v:=I (f.1.trans (zij g y));go_wp2;go_ret;exact⟨ze v.1.symm,u.alloc (Nat.le_trans (Nat.le_of_lt r) c.size) _⟩
   have v:=I (f.1.trans (GT g y));go_wp2;go_roundw;exact⟨_,k+1,by omega,by go_num,rfl,v,c.alloc c.size _⟩;simp[intOf];omega
 have v:=I (f.1.trans (GU g));go_wp2;go_ret;exact⟨ze v.1.symm,u⟩
def Tc(s:BA)(o t:Int)(l:List (Int×Int))(a:Option Addr)(cap:Nat)(w:Wd)(C:l.length<=1000000)(x:Cj w a l):
 CV 278 #[.agg #[B_ s,o,CU a l.length cap],t] w (Cw o l t):=by
 delta CV;go_in;go_wp2;generalize hW:w.alloc (Obj.cells #[B_ s,Bn o,CU a l.length cap] 168)=W;have g:Bw w W:=by rw[<-hW];exact(Below.refl _ _).alloc (Nat.le_refl _) _
 have r:w.heap.size<W.heap.size:=by rw[<-hW];simp
 have y:W.cell? (aD w.heap.size 2)=some (CU a l.length cap):=by clear g r;subst hW;go_simp
 go_loop [5,6] (λm i=>∃(n:Int) (k:Nat),k<=l.length/\i=Bn k/\m=Bn n/\Af (Cw o l t=Cw n (l.drop k) t)) (λ_ i=>l.length-(intOf i).toNat);exact⟨o,0,Nat.zero_le _,rfl,rfl,I rfl⟩;obtain⟨n,k,D,rfl,rfl,d⟩:=hrel;by_cases f:k<l.length
 . obtain⟨b,j,rfl,u,z⟩:=x.resolve_left (λh=>by simp[h]at f);have c:=z k f;have A:=((g.cell (p:=aD b (j+k*2)) u).trans c.1);have B:=((g.cell (p:=aD b (j+k*2+1)) u).trans c.2);by_cases v:(Br l k).1<=t
   . have q:=I (d.1.trans (IF f v));go_wp2;go_round;exact⟨_,k+1,by omega,by go_num,rfl,q⟩;simp[intOf];omega
   have q:=I (d.1.trans (JC f v));go_wp2;go_round;exact⟨_,k+1,by omega,by go_num,rfl,q⟩;simp[intOf];omega
 have q:=I (d.1.trans (GQ f));go_wp2;go_ret;exact⟨ze q.1.symm,g⟩
def St{W a:Wd}(c:Bw W a):(∀b o,b<W.heap.size->a.cell? (aD b o)=W.cell? (aD b o))/\(∀b o,b<W.heap.size->a.frozen? (aD b o)=W.frozen? (aD b o)):=
 ⟨λb o h=>c.cell (p:=aD b o) h,λb o h=>c.frozen (p:=aD b o) h⟩
def Below.then{w W a:Wd}(h:Bw w W)(b:Bw W a):Bw w a:=h.trans (b.mono h.size)
def Rh{i j k:IntKind}{a e f:Int}(h:a=b)(l:c=d)(g:e=f):Ending.returned (.tuple #[.int i a,.int j c,.int k e])=.returned (.tuple #[.int i b,.int j d,.int k f]):=by rw[h,l,g]
def mV(s:BA)(o t:Int)(l:List (Int×Int))(a:Option Addr)(cap:Nat)(w:Wd)(n:s.size<=maxLen)(i:l.length<=1000000)(j:Cj w a l):
 CV 159 #[.agg #[B_ s,o,CU a l.length cap],t] w (.tuple #[Bn (Ej s.data.toList o l t).1,Bn (Ej s.data.toList o l t).2]):=by
 have k:=I (λW (h:Bw w W)=>j.below h);delta CV;go_in;go_wp2_with fail;refine ca (gT s o l a cap _ n i (k.1 _ ((Below.refl _ _).alloc (Nat.le_refl _) _))) λp f=>?_;have b:=Below.then ((Below.refl _ _).alloc (Nat.le_refl _) _) f;have q:w.heap.size<p.heap.size:=by have:=f.size;simp at this;omega
 have⟨v,x⟩:=St f;by_cases c:zG s.data.toList o l=0
 . have r:=I c;have u:=bMa c
   cases m:Ew t
   . have d:Af (Ej s.data.toList o l t=(0,5)):=I (by simp[Ej,c,m]);go_wp2_with (go_at_call 216;refine cb (Yx _ _) ?_);go_ret2;exact⟨zJ (by rw[d.1]) (by rw[d.1]),b⟩
   have d:Af (Ej s.data.toList o l t=(Cq o l t,0)):=I (by simp[Ej,c,m]);go_wp2_with (first|(go_at_call 216;refine cb (Yx _ _) ?_)|(go_at_call 156;refine ca (pR s o t l a cap _ i (k.1 _ b)) λw2 hb3=>?_));go_ret2;exact⟨zJ (by rw[d.1]) (by rw[d.1]),Below.then b hb3⟩
 have d:Af (Ej s.data.toList o l t=(0,zG s.data.toList o l)):=I (by simp[Ej,c]);have u:=CN c
 go_wp2;go_ret2;exact⟨zJ (by rw[d.1]) (by rw[d.1]),b⟩
def JR(s:BA)(o t:Int)(l:List (Int×Int))(a:Option Addr)(cap:Nat)(w:Wd)(p:s.size<=maxLen)(j:l.length<=1000000)(k:Cj w a l):
 CV 304 #[.agg #[B_ s,o,CU a l.length cap],t] w (.tuple #[Bn (Ej s.data.toList o l t).1,Bn (Ej s.data.toList o l t).2]):=by
 have m:=I (λW (h:Bw w W)=>k.below h);delta CV;go_in;go_wp2_with fail;refine ca (gG s o l a cap _ p j (m.1 _ ((Below.refl _ _).alloc (Nat.le_refl _) _))) λq f=>?_;have b:=Below.then ((Below.refl _ _).alloc (Nat.le_refl _) _) f;have r:w.heap.size<q.heap.size:=by have:=f.size;simp at this;omega
 have⟨v,x⟩:=St f;by_cases c:zG s.data.toList o l=0
 . have i:=I c;have u:=bMa c
   cases n:Ew t
   . have d:Af (Ej s.data.toList o l t=(0,5)):=I (by simp[Ej,c,n]);go_wp2_with (go_at_call 251;refine cb (Yt _ _) ?_);go_ret2;exact⟨zJ (by rw[d.1]) (by rw[d.1]),b⟩
   have d:Af (Ej s.data.toList o l t=(Cq o l t,0)):=I (by simp[Ej,c,n]);go_wp2_with (first|(go_at_call 251;refine cb (Yt _ _) ?_)|(go_at_call 278;refine ca (Tc s o t l a cap _ j (m.1 _ b)) λw2 hb3=>?_));go_ret2;exact⟨zJ (by rw[d.1];exact(gN l none o t (Ue i.1).2.2.2).symm) (by rw[d.1]),Below.then b hb3⟩
 have d:Af (Ej s.data.toList o l t=(0,zG s.data.toList o l)):=I (by simp[Ej,c]);have u:=CN c
 go_wp2;go_ret2;exact⟨zJ (by rw[d.1]) (by rw[d.1]),b⟩
def FZ(s:BA)(o t:Int)(l:List (Int×Int))(a:Option Addr)(cap:Nat)(w:Wd)(j:s.size<=maxLen)(k:l.length<=1000000)(i:Cj w a l):
 CV 230 #[.agg #[B_ s,o,CU a l.length cap],t] w (.tuple #[Bn (Lf s.data.toList o l t).1,Bn (Lf s.data.toList o l t).2]):=by
 have m:=I (λW (h:Bw w W)=>i.below h);have c:=I (eL (nm:=s.data.toList) (o:=o) (l:=l) (t:=t));have b:=I (vL s.data.toList o l t);delta CV;go_in;go_wp2_with fail;refine ca (mV s o t l a cap _ j k (m.1 _ ((Below.refl _ _).alloc (Nat.le_refl _) _))) λn d=>?_;have f:=Below.then ((Below.refl _ _).alloc (Nat.le_refl _) _) d;have⟨q,u⟩:=St d;generalize Ej s.data.toList o l t=p at*;obtain⟨r,e⟩:=p;simp only at*;by_cases g:e=0
 . subst g;have c:=c.1 rfl;go_wp2;go_ret2;exact⟨zJ (by rw[b.1];simp) (by rw[b.1];simp),f⟩
 have v:=CN g
 go_wp2;go_ret2;exact⟨zJ (by rw[b.1];simp[g]) (by rw[b.1];simp[g]),f⟩
def zgO(s:BA)(o t:Int)(l:List (Int×Int))(a:Option Addr)(cap:Nat)(w:Wd)(j:s.size<=maxLen)(k:l.length<=1000000)(i:Cj w a l):
 CV 300 #[.agg #[B_ s,o,CU a l.length cap],t] w (.tuple #[Bn (Lf s.data.toList o l t).1,Bn (Lf s.data.toList o l t).2]):=by
 have m:=I (λW (h:Bw w W)=>i.below h);have c:=I (eL (nm:=s.data.toList) (o:=o) (l:=l) (t:=t));have b:=I (vL s.data.toList o l t);delta CV;go_in;go_wp2_with fail;refine ca (JR s o t l a cap _ j k (m.1 _ ((Below.refl _ _).alloc (Nat.le_refl _) _))) λn d=>?_;have f:=Below.then ((Below.refl _ _).alloc (Nat.le_refl _) _) d;have⟨q,u⟩:=St d;generalize Ej s.data.toList o l t=p at*;obtain⟨r,e⟩:=p;simp only at*;by_cases g:e=0
 . subst g;have c:=c.1 rfl;go_wp2;go_ret2;exact⟨zJ (by rw[b.1];simp) (by rw[b.1];simp),f⟩
 have v:=CN g
 go_wp2;go_ret2;exact⟨zJ (by rw[b.1];simp[g]) (by rw[b.1];simp[g]),f⟩
def tL(s:BA)(o t:Int)(l:List (Int×Int))(a:Option Addr)(cap:Nat)(w:Wd)(j:s.size<=maxLen)(k:l.length<=1000000)(g:Cj w a l):
 CV 160 #[.agg #[B_ s,o,CU a l.length cap],t] w (.tuple #[Bn (Kt s.data.toList o l t).1,Bn (Kt s.data.toList o l t).2.1,Bn (Kt s.data.toList o l t).2.2]):=by
 have m:=I (λW (h:Bw w W)=>g.below h);have n:=(vM (nm:=s.data.toList) (o:=o) (l:=l) (t:=t));have b:=I (uK s.data.toList o l t);delta CV;go_in;go_wp2_with fail;refine ca (FZ s o t l a cap _ j k (m.1 _ ((Below.refl _ _).alloc (Nat.le_refl _) _))) λq c=>?_;have d:=Below.then ((Below.refl _ _).alloc (Nat.le_refl _) _) c;have⟨u,v⟩:=St c;generalize Lf s.data.toList o l t=p at*;obtain⟨r,e⟩:=p;simp only at*;by_cases f:e=0
 . subst f;go_wp2_with (go_at_call 155;refine cb (kB _ _ (by omega) (by omega)) ?_);go_ret3;exact⟨Rh (by rw[b.1];simp) (by rw[b.1];simp) (by rw[b.1];simp),d⟩
 have x:=CN f
 go_wp2;go_ret3;exact⟨Rh (by rw[b.1];simp[f]) (by rw[b.1];simp[f]) (by rw[b.1];simp[f]),d⟩
def pA(s:BA)(o t:Int)(l:List (Int×Int))(a:Option Addr)(cap:Nat)(w:Wd)(j:s.size<=maxLen)(k:l.length<=1000000)(g:Cj w a l):
 CV 297 #[.agg #[B_ s,o,CU a l.length cap],t] w (.tuple #[Bn (Kt s.data.toList o l t).1,Bn (Kt s.data.toList o l t).2.1,Bn (Kt s.data.toList o l t).2.2]):=by
 have m:=I (λW (h:Bw w W)=>g.below h);have n:=(vM (nm:=s.data.toList) (o:=o) (l:=l) (t:=t));have b:=I (uK s.data.toList o l t);delta CV;go_in;go_wp2_with fail;refine ca (zgO s o t l a cap _ j k (m.1 _ ((Below.refl _ _).alloc (Nat.le_refl _) _))) λq c=>?_;have d:=Below.then ((Below.refl _ _).alloc (Nat.le_refl _) _) c;have⟨u,v⟩:=St c;generalize Lf s.data.toList o l t=p at*;obtain⟨r,e⟩:=p;simp only at*;by_cases f:e=0
 . subst f;go_wp2_with (go_at_call 172;refine cb (Si _ _ (by omega) (by omega)) ?_);go_ret3;exact⟨Rh (by rw[b.1];simp) (by rw[b.1];simp) (by rw[b.1];simp),d⟩
 have x:=CN f
 go_wp2;go_ret3;exact⟨Rh (by rw[b.1];simp[f]) (by rw[b.1];simp[f]) (by rw[b.1];simp[f]),d⟩
def Of(w:Wd)(z:Nat)(s:BA)(o:Int)(a:Option Addr)(n cap:Nat):Prop:=
 z<w.heap.size/\w.cell? (aD z 0)=some (.string s)/\w.cell? (aD z 1)=some (.int .i64 o)/\w.cell? (aD z 2)=some (.slice a n cap)
def Od(w:Wd)(z:Nat)(x y:Int):Prop:=
 z<w.heap.size/\w.cell? (aD z 0)=some (.int .i64 x)/\w.cell? (aD z 1)=some (.int .i64 y)
def Of.below{o:Int}{a:Option Addr}{cap:Nat}(h:Of w z s o a n cap)(b:Bw w w'):Of w' z s o a n cap:=
 ⟨Nat.lt_of_lt_of_le h.1 b.size,(b.cell (p:=aD z 0) h.1).trans h.2.1,(b.cell (p:=aD z 1) h.1).trans h.2.2.1,(b.cell (p:=aD z 2) h.1).trans h.2.2.2⟩
def Od.below{x y:Int}(h:Od w z x y)(a:Bw w w'):Od w' z x y:=
 ⟨Nat.lt_of_lt_of_le h.1 a.size,(a.cell (p:=aD z 0) h.1).trans h.2.1,(a.cell (p:=aD z 1) h.1).trans h.2.2⟩
def Of.new(w:Wd)(s:BA)(o:Int)(a:Option Addr)(n cap:Nat):Of (w.alloc (Obj.cells #[B_ s,Bn o,CU a n cap] 168)) w.heap.size s o a n cap:=by
 refine⟨by simp,?_,?_,?_⟩ <;> go_simp
def Od.new(w:Wd)(x y:Int):Od (w.alloc (Obj.cells #[Bn x,Bn y] 186)) w.heap.size x y:=by
 refine⟨by simp,?_,?_⟩ <;> go_simp
def rQa{b:Nat}{s:Array Value}{t:TypeId}{f:Nat×Nat}(h:w.heap[b]?=some (.cells s t f)):∀(d:Nat) (os:Array Obj) (j:Nat),(grow (redrawn w d) os).cell? (aD b j)=s[j]?:=λd os j=>by
 have a:=((bR w d os).block b (Array.getElem?_eq_some_iff.1 h).1).trans h;simp[World.cell?,a]
def J(w:Wd)(o:Obj):Bw w (w.alloc o):=(Below.refl _ _).alloc (Nat.le_refl _) _
theorem Ss(w:Wd)(s:BA)(o:Int)(a:Option Addr)(n cap:Nat)(x y:Int):
 let W:=(w.alloc (Obj.cells #[B_ s,Bn o,CU a n cap] 168)).alloc (Obj.cells #[Bn x,Bn y] 186)
 Of W w.heap.size s o a n cap/\Od W (w.heap.size+1) x y/\Bw w W:=by
 refine⟨(Of.new w s o a n cap).below (J _ _),?_,Below.then (J _ _) (J _ _)⟩;have:=Od.new (w.alloc (Obj.cells #[B_ s,Bn o,CU a n cap] 168)) x y;simp_all
def CX{f:FuncId}(h:Calls P f a w λe w'=>e=.returned v/\w=w'):Calls P f a w λe w'=>e=.returned v/\Bw w w':=
 h.mono λ_ _ ⟨he,hw⟩=>⟨he,hw ▸ Below.refl _ _⟩
theorem WU(s:BA)(o x y:Int)(l:List (Int×Int))(a:Option Addr)(cap:Nat)(w:Wd)(hs:s.size<=maxLen)(Q:l.length<=1000000)(U:Cj w a l):
 CV 93 #[.agg #[.string s,o,.slice a l.length cap],.agg #[x,y]] w (.tuple #[Bn (z9 s.data.toList o l x y).1,Bn (z9 s.data.toList o l x y).2.1,Bn (z9 s.data.toList o l x y).2.2]):=by
 have R:=I (λW (h:Bw w W)=>U.below h);clear U;delta CV;go_in;go_wp2_with fail;obtain⟨j,k,q⟩:=Ss w s o a l.length cap x y;generalize ((w.alloc (Obj.cells #[.string s,Bn o,.slice a l.length cap] 168)).alloc (Obj.cells #[Bn x,Bn y] 186))=W at*;refine ca (gT s o l a cap _ hs Q (R.1 _ q)) λw1 m=>?_;have g:=Below.then q m;replace j:=j.below m;replace k:=k.below m;obtain⟨K,z,A,B⟩:=I j |>.1;obtain⟨L,C,D⟩:=I k |>.1;clear m q;clear W;by_cases f:zG s.data.toList o l=0
 . have a0:=I f;have hn:=bMa f
   cases M:Io x y
   . have c:=I (show z9 s.data.toList o l x y=(0,0,5) from by simp[z9,f,M]);clear f;go_wp2_with (go_at_call 154;refine ca (Zk _ _ _) λr b=>?_);go_ret3;exact⟨Rh (by rw[c.1]) (by rw[c.1]) (by rw[c.1]),Below.then g b⟩
   by_cases G:x=y
   . have c:=I (show z9 s.data.toList o l x y=(0,0,8) from by unfold z9;rw[iN (by simp[f]),iN (by simp[M]),iP G]);have S:=bTa G
     clear f G;go_wp2_with fail;refine ca (Zk _ _ _) λr b=>?_;obtain⟨hc,hf⟩:=St b;go_wp2;go_ret3
     exact⟨Rh (by rw[c.1]) (by rw[c.1]) (by rw[c.1]),Below.then g b⟩
   have c:=I (show z9 s.data.toList o l x y=((x+Cq o l x)/1440,(y-1+Cq o l (y-1))/1440,0) from by simp[z9,f,M,G]);have S:=RZ G
   have a1:=qX M;have a2:=He f x;have a3:=He f (y-1);clear f;go_wp2_with fail;refine ca (Zk _ _ _) λr b=>?_;have u:=Below.then g b;replace j:=j.below b;replace k:=k.below b;clear b K z A B L C D g;clear w1;obtain⟨K,z,A,B⟩:=I j |>.1;obtain⟨L,C,D⟩:=I k |>.1;go_wp2_with fail;have V:=cR z
   have X:=cR A;have Y:=cR B;have Z:=cR C;have r5:=cR D;have E:=I (λd os t=>Calls.regrown_of (pR s o t l a cap (grow (redrawn r d) os) Q ((R.1 _ u).below (bR r d os))));have F:=I (λd os t h1 h2=>Calls.regrown_of (CX (kB t (grow (redrawn r d) os) h1 h2)));refine SY ?_;repeat (first|go_big_quiet_step (first|exact E.1 _ _ _|exact F.1 _ _ _ (by omega) (by omega))|quiet_step (first|exact E.1 _ _ _|exact F.1 _ _ _ (by omega) (by omega)))
   refine wpQuiet_nil ?_;intro _ v;obtain⟨⟨N,n⟩,i⟩:=v;subst i;have p:=bR r N n;clear V X Y Z r5;generalize grow (redrawn r N) n=P at*;have H:=Below.then u p;replace j:=j.below p;replace k:=k.below p;clear p K z A B L C D u E F;obtain⟨K,z,A,B⟩:=I j |>.1;obtain⟨L,C,D⟩:=I k |>.1;go_wp2_with fail;have V:=cR z;have X:=cR A;have Y:=cR B;have Z:=cR C;have r5:=cR D;have E:=I (λd os t=>Calls.regrown_of (pR s o t l a cap (grow (redrawn P d) os) Q ((R.1 _ H).below (bR P d os))));have F:=I (λd os t h1 h2=>Calls.regrown_of (CX (kB t (grow (redrawn P d) os) h1 h2)));refine SY ?_;repeat (first|go_big_quiet_step (first|exact E.1 _ _ _|exact F.1 _ _ _ (by omega) (by omega))|quiet_step (first|exact E.1 _ _ _|exact F.1 _ _ _ (by omega) (by omega)))
   refine wpQuiet_nil ?_;intro _ v;obtain⟨⟨N,n⟩,i⟩:=v;subst i;have T:=bR P N n;go_wp2;go_ret3;exact⟨Rh (by rw[c.1]) (by rw[c.1]) (by rw[c.1]),Below.then H T⟩
 have c:=I (show z9 s.data.toList o l x y=(0,0,zG s.data.toList o l) from by simp[z9,f]);have hn:=CN f
 clear f;go_wp2;go_ret3;exact⟨Rh (by rw[c.1]) (by rw[c.1]) (by rw[c.1]),g⟩
end Go.Proofs.YtafdcbmgdfliiaaGreat
namespace Go.Proofs.YtafdcbmgdfliiaaGreat
open Go.RowKit Go.Proofs.Tryz
variable {w w':Wd}{b:Nat}{a:Option Addr}{l:List (Int×Bool)}
def dS(w:Wd)(b off:Nat)(cs:LV):Prop:=∀j (h:j<cs.length),w.cell? (aD b (off+j))=some cs[j]
def dS.below{a:Nat}{c:LV}(h:dS w b a c)(d:b<w.heap.size)(e:Bw w w'):dS w' b a c:=
 λj hj=>(e.cell (p:=aD b (a+j)) d).trans (h j hj)
structure RT(A:Type) where
 n:Nat
 rep:Wd->LV->A->Prop
 len:∀{w cs a},rep w cs a->cs.length=n
 mono:∀{w w' cs a},rep w cs a->Below w.heap.size w w'->rep w' cs a
def RT.int:RT Int where
 n:=1
 rep _ cs a:=cs= [.int .i64 a]/\(Lit.int .i64 a).wf=true
 len h:=by rw[h.1];rfl
 mono h _:=h
def RT.bool:RT Bool where
 n:=1
 rep _ cs a:=cs= [.bool a]
 len h:=by rw[h];rfl
 mono h _:=h
def RT.prod{A B:Type}(r:RT A)(q:RT B):RT (A×B) where
 n:=r.n+q.n
 rep w cs a:=∃c d,cs=c++d/\r.rep w c a.1/\q.rep w d a.2
 len:=by
  rintro w cs a ⟨c,d,rfl,h1,h2⟩;rw[List.length_append,r.len h1,q.len h2]
 mono:=by
  rintro w w' cs a ⟨c,d,rfl,h1,h2⟩ hw;exact⟨c,d,rfl,r.mono h1 hw,q.mono h2 hw⟩
def Al{A:Type}(r:RT A)(w:Wd)(a:Option Addr)(l:List A):Prop:=
 l= []\/∃b off,a=some (aD b off)/\b<w.heap.size/\∀i (h:i<l.length),∃cs,dS w b (off+i*r.n) cs/\r.rep w cs l[i]
def Al.below{A:Type}{r:RT A}{l:List A}(h:Al r w a l)(c:Bw w w'):Al r w' a l:=by
 rcases h with h|⟨b,d,h,e,f⟩;exact .inl h;refine .inr ⟨b,d,h,Nat.lt_of_lt_of_le e c.size,λi hi=>?_⟩;have⟨g,j,k⟩:=f i hi;exact⟨g,j.below e c,r.mono k c⟩
def RT.sl{A:Type}(r:RT A):RT (List A) where
 n:=1
 rep w cs l:=∃a cap,cs= [.slice a l.length cap]/\l.length<=cap/\cap<=140737488355328/\Al r w a l
 len:=by simp_all
 mono:=by
  rintro w w' cs l ⟨a,cap,h1,h2,h3,h4⟩ hw;exact⟨a,cap,h1,h2,h3,h4.below hw⟩
theorem Al.at{A:Type}{r:RT A}{l:List A}(h:Al r w a l)(c:0<l.length):
 ∃b off,a=some (aD b off)/\b<w.heap.size/\∀i (h:i<l.length),∃cs,dS w b (off+i*r.n) cs/\r.rep w cs l[i]:=by
 rcases h with rfl|h;all_goals grind
def zz5(a b:Int):Int:=if a<b then -1 else if b<a then 1 else 0
def zzT(a b:Int×Bool):Int:=if zz5 a.1 b.1≠0 then zz5 a.1 b.1 else if a.2=b.2 then 0 else if b.2=true then -1 else 1
def zz9{A:Type}(c:A->A->Int):List A->List A->Int
 |[], []=>0
 |[],_::_=>-1
 |_::_, []=>1
 |x::l,y::m=>if c x y≠0 then c x y else zz9 c l m
def CD(a b:List (Int×Bool)):Int:=zz9 zzT a b
def Ei:RT (Int×Bool):=RT.prod RT.int RT.bool
def Cm(l:List (Int×Bool))(k:Nat):Int×Bool:=l.getD k (0,false)
theorem zBS(l:List (Int×Bool))(k:Nat)(h:k<l.length):l.drop k=Cm l k::l.drop (k+1):=by
 grind[Cm,List.drop_eq_getElem_cons]
def eP(w:Wd)(b off:Nat)(l:List (Int×Bool)):Prop:=
 ∀i,i<l.length->w.cell? (aD b (off+i*2))=some (.int .i64 (Cm l i).1)/\w.cell? (aD b (off+i*2+1))=some (.bool (Cm l i).2)
def eP.below{a:Nat}(h:eP w b a l)(c:b<w.heap.size)(d:Bw w w'):eP w' b a l:=
 λi hi=>⟨(d.cell (p:=aD b (a+i*2)) c).trans (h i hi).1,(d.cell (p:=aD b (a+i*2+1)) c).trans (h i hi).2⟩
theorem Ok(h:Al Ei w a l)(j:0<l.length):∃b f,a=some (aD b f)/\b<w.heap.size/\eP w b f l:=by
 have⟨b,f,k,m,n⟩:=h.at j;refine⟨b,f,k,m,λi hi=>?_⟩;obtain⟨q,g,c,d,rfl,⟨rfl,_⟩,rfl⟩:=n i hi;have e:Cm l i=l[i]:=by rw[Cm,List.getD_eq_getElem?_getD,List.getElem?_eq_getElem hi];rfl
 rw[e];have o:=g 0 (by simp);have p:=g 1 (by simp);grind[Ei,RT.prod,RT.int,RT.bool]
def zAJ{m:List (Int×Bool)}{k:Nat}(a:k<l.length)(b:k<m.length):CD (l.drop k) (m.drop k)=if zzT (Cm l k) (Cm m k)≠0 then zzT (Cm l k) (Cm m k) else CD (l.drop (k+1)) (m.drop (k+1)):=by
 rw[zBS l k a,zBS m k b];rfl
end Go.Proofs.YtafdcbmgdfliiaaGreat
namespace Go.Proofs.YtafdcbmgdfliiaaGreat
open Go.RowKit Go.Sort Go.Proofs.Tryz
variable {w:Wd}{P:Int->Bool}{s:BA}{k:Nat}

abbrev Ai:=List (Int×Bool)
def RT.slF{A:Type}(r:RT A):RT (List A) where
 n:=1
 rep w cs l:=∃a cap,cs= [.slice a l.length cap]/\l.length<=140737488355328/\Al r w a l
 len:=by simp_all
 mono:=by
  rintro w w' cs l ⟨a,cap,h1,h2,h4⟩ hw;exact⟨a,cap,h1,h2,h4.below hw⟩
def Ed:RT Ai:=RT.slF Ei
def Ba(L:List Ai)(k:Nat):Ai:=L.getD k []
def kW(w:Wd)(b off:Nat)(L:List Ai):Prop:=
 ∀i,i<L.length->∃a cap,w.cell? (aD b (off+i))=some (.slice a (Ba L i).length cap)/\(Ba L i).length<=140737488355328/\Al Ei w a (Ba L i)
def kW.below{w':Wd}{b c:Nat}{L:List Ai}(h:kW w b c L)(f:b<w.heap.size)(e:Bw w w'):kW w' b c L:=by
 intro i g;have⟨a,d,j,k,l⟩:=h i g;exact⟨a,d,(e.cell (p:=aD b (c+i)) f).trans j,k,l.below e⟩
theorem fC{a:Option Addr}{L:List Ai}(h:Al Ed w a L)(f:0<L.length):∃b c,a=some (aD b c)/\b<w.heap.size/\kW w b c L:=by
 have⟨b,c,g,j,k⟩:=h.at f;refine⟨b,c,g,j,λi hi=>?_⟩;obtain⟨q,l,m,d,rfl,n,o⟩:=k i hi;have e:Ba L i=L[i]:=by rw[Ba,List.getD_eq_getElem?_getD,List.getElem?_eq_getElem hi];rfl
 rw[e];have p:=l 0 (by simp);grind[Ed,RT.slF]
def Fk(c:Int):Bool:=decide (65<=c/\c<=90)
def Ha(c:Int):Bool:=Fk c || Jw c
def Oz(l:List UInt8):Bool:=decide (1<=l.length/\l.length<=8)&&l.all λc=>Ha (c.toNat:Int)
def Eo(l:List UInt8):Bool:=decide (l.length=3)&&l.all λc=>Fk (c.toNat:Int)
def Pi(P:Int->Bool)(s:BA)(k:Nat):Prop:=∀j,j<k->P ((s.data.toList.getD j 0).toNat:Int)=true
def Pi.step(h:k<s.size)(H:Pi P s k)(a:P (s[k].toNat:Int)=true):Pi P s (k+1):=by
 intro j b;by_cases e:j=k;subst e;rw[eD s j h];exact a;exact H j (by omega)
theorem Pi.done(H:Pi P s s.size):(s.data.toList.all λc=>P (c.toNat:Int))=true:=by
 rw[List.all_eq_true];intro c b;obtain⟨i,a,rfl⟩:=List.mem_iff_getElem.1 b;have:=H i (by simpa using a);grind
theorem kD(h:k<s.size)(a:P (s[k].toNat:Int)=false):(s.data.toList.all λc=>P (c.toNat:Int))=false:=by
 rw[List.all_eq_false];exact⟨s[k],by exact gM _,by rw[a];decide⟩
def Yz(n:Int)(w:Wd):CE 252 #[.int .u8 n] w (.bool (Fk n)):=by
 delta CE;go_in;go_wp2
 all_goals (go_ret;exact⟨by simp[Fk];omega,rfl⟩)
def gA(s:BA)(w:Wd)(m:s.size<=2^47):CE 142 #[B_ s] w (.bool (Eo s.data.toList)):=by
 have a:s.data.toList.length=s.size:=by simp
 by_cases d:s.size=3
 . have g:((s.size:Int) !=3)=false:=by simp;omega
   have f:Af (decide (s.data.toList.length=3)=true):=I (by simp[d]);have l:s.size<=3:=by omega
   delta CE;go_in;go_wp2_with fail;go_loop [9] (λi=>∃k:Nat,k<=s.size/\i=Bn k/\Pi Fk s k) (λi=>s.size-(intOf i).toNat);exact⟨0,Nat.zero_le _,rfl,λj h=>aB h (Nat.not_lt_zero _)⟩;obtain⟨k,n,rfl,b⟩:=hrel;by_cases c:k<s.size
   . go_wp2_with fail
     all_goals first
      |(go_ret
        exact⟨Ip (by rw[Eo,kD (P:=Fk) c (by simp only[Fk,decide_eq_false_iff_not];omega)];simp),rfl⟩)
      |(go_round
        case rel=>exact⟨k+1,by omega,by go_num,Pi.step c b (by simp only[Fk,decide_eq_true_eq];omega)⟩
        case measure=>simp[intOf];omega)
   obtain rfl:k=s.size:=by omega
   go_wp2;go_ret;exact⟨Ip (by rw[Eo,f.1,b.done];simp),rfl⟩
 have g:((s.size:Int) !=3)=true:=by simp;omega
 have f:Af (Eo s.data.toList=false):=I (by simp[Eo,d]);delta CE;go_in;go_wp2;go_ret;exact⟨Ip (by rw[f.1]),rfl⟩
def Te(s:BA)(w:Wd)(p:s.size<=2^47):CE 217 #[B_ s] w (.bool (Oz s.data.toList)):=by
 have b:s.data.toList.length=s.size:=by simp
 by_cases m:s.size<1\/8<s.size
 . have n:Af (Oz s.data.toList=false):=I (by simp[Oz];omega);rcases m with m|m
   all_goals
    delta CE;go_in
    go_wp2;go_ret;exact⟨Ip (by rw[n.1]),rfl⟩
 have o:Af (decide (1<=s.data.toList.length/\s.data.toList.length<=8)=true):=I (by simp;omega);delta CE;go_in;go_wp2_with fail;go_loop [15] (λi=>∃k:Nat,k<=s.size/\i=Bn k/\Pi Ha s k) (λi=>s.size-(intOf i).toNat);exact⟨0,Nat.zero_le _,rfl,λj h=>aB h (Nat.not_lt_zero _)⟩;obtain⟨k,q,rfl,a⟩:=hrel;by_cases c:k<s.size
 . have d:(65<=(s[k].toNat:Int)/\(s[k].toNat:Int)<=90)\/(48<=(s[k].toNat:Int)/\(s[k].toNat:Int)<=57)\/(s[k].toNat:Int)<48\/(57<(s[k].toNat:Int)/\(s[k].toNat:Int)<65)\/90<(s[k].toNat:Int):=by omega
   rcases d with⟨f,l⟩|⟨f,l⟩|f|⟨f,l⟩|f
   . have g:=I (Pi.step (P:=Ha) c a (by simp[Ha,Fk,f,l]));go_wp2;go_round;exact⟨k+1,by omega,by go_num,g.1⟩;simp[intOf];omega
   . have g:=I (Pi.step (P:=Ha) c a (by simp[Ha,Jw,f,l]));go_wp2;go_round;exact⟨k+1,by omega,by go_num,g.1⟩;simp[intOf];omega
   all_goals
    have g:Af (Oz s.data.toList=false):=I (by rw[Oz,kD (P:=Ha) c (by simp only[Ha,Fk,Jw,Bool.or_eq_false_iff,decide_eq_false_iff_not];omega)];simp);go_wp2_with fail
    all_goals first
     |(go_ret;exact⟨Ip (by rw[g.1]),rfl⟩)
     |(exfalso;simp only[Bool.not_eq_false',decide_eq_true_eq] at*;omega)
 obtain rfl:k=s.size:=by omega
 go_wp2;go_ret;exact⟨Ip (by rw[Oz,o.1,a.done];simp),rfl⟩
def sT(s:BA)(w:Wd)(t:s.size<=2^47):CE 204 #[B_ s] w (.bool (Eo s.data.toList)):=by
 have d:s.data.toList.length=s.size:=by simp
 by_cases h:s.size=3
 . have o:((s.size:Int)==3)=true:=by simp;omega
   have i:Af (decide (s.data.toList.length=3)=true):=I (by simp[h]);have p:0<s.size:=by omega
   have q:1<s.size:=by omega
   have r:2<s.size:=by omega
   have G:=I (show Fk (s[0].toNat:Int)=true->Fk (s[1].toNat:Int)=true->Fk (s[2].toNat:Int)=true->Eo s.data.toList=true from λa b c=>by
    rw[Eo,Pi.done (P:=Fk) (s:=s) (λj hj=>by
     rw[eD s j hj];have:j=0\/j=1\/j=2:=by omega
     rcases this with rfl|rfl|rfl <;> assumption),i.1];rfl)
   have F:=I (λ(k:Nat) (hk:k<s.size) (hx:Fk (s[k].toNat:Int)=false)=>show Eo s.data.toList=false from by rw[Eo,kD hk hx];simp);cases l:Fk (s[0].toNat:Int)
   . have f:=I (F.1 0 p l);delta CE;go_in;go_wp2_with (go_at_call 252;refine cb (Yz _ _) ?_);go_ret;exact⟨Ip (by rw[f.1]),rfl⟩
   cases m:Fk (s[1].toNat:Int)
   . have f:=I (F.1 1 q m);delta CE;go_in;go_wp2_with (go_at_call 252;refine cb (Yz _ _) ?_);go_ret;exact⟨Ip (by rw[f.1]),rfl⟩
   cases n:Fk (s[2].toNat:Int)
   . have f:=I (F.1 2 r n);delta CE;go_in;go_wp2_with (go_at_call 252;refine cb (Yz _ _) ?_);go_ret;exact⟨Ip (by rw[f.1]),rfl⟩
   have f:=I (G.1 l m n);delta CE;go_in;go_wp2_with (go_at_call 252;refine cb (Yz _ _) ?_);go_ret;exact⟨Ip (by rw[f.1]),rfl⟩
 have o:((s.size:Int)==3)=false:=by simp;omega
 have i:Af (Eo s.data.toList=false):=I (by simp[Eo,h]);delta CE;go_in;go_wp2;go_ret;exact⟨Ip (by rw[i.1]),rfl⟩
def Tf(s:BA)(w:Wd)(n:s.size<=2^47):CE 253 #[B_ s] w (.bool (Oz s.data.toList)):=by
 have b:s.data.toList.length=s.size:=by simp
 delta CE;go_in;go_wp2_with fail;have m:=I b;go_loop [3] (λi=>∃k:Nat,k<=s.size/\i=Bn k/\Pi Ha s k) (λi=>s.size-(intOf i).toNat);exact⟨0,Nat.zero_le _,rfl,λj h=>aB h (Nat.not_lt_zero _)⟩;obtain⟨k,o,rfl,a⟩:=hrel;by_cases d:k<s.size
 . cases g:Fk (s[k].toNat:Int)
   . cases l:Jw (s[k].toNat:Int)
     . have f:Af (Oz s.data.toList=false):=I (by rw[Oz,kD (P:=Ha) d (by simp[Ha,g,l])];simp);go_wp2_with (first|(go_at_call 252;refine cb (Yz _ _) ?_)|(go_at_call 272;refine cb (eH _ _) ?_));go_ret;exact⟨Ip (by rw[f.1]),rfl⟩
     have f:=I (Pi.step (P:=Ha) d a (by simp[Ha,l]));go_wp2_with (first|(go_at_call 252;refine cb (Yz _ _) ?_)|(go_at_call 272;refine cb (eH _ _) ?_));go_round;exact⟨k+1,by omega,by go_num,f.1⟩;simp[intOf];omega
   have f:=I (Pi.step (P:=Ha) d a (by simp[Ha,g]));go_wp2_with (first|(go_at_call 252;refine cb (Yz _ _) ?_)|(go_at_call 272;refine cb (eH _ _) ?_));go_round;exact⟨k+1,by omega,by go_num,f.1⟩;simp[intOf];omega
 obtain rfl:k=s.size:=by omega
 have f:=I (a.done);go_wp2_with fail
 all_goals
  go_ret;refine⟨Ip ?_,rfl⟩;rw[Oz,f.1,m.1];simp only[Bool.and_true,decide_eq_true_eq,Bool.false_eq_true,false_iff,true_iff];omega
end Go.Proofs.YtafdcbmgdfliiaaGreat
namespace Go.Proofs.YtafdcbmgdfliiaaGreat
open Go.RowKit Go.Proofs.Tryz
variable {e k t:TypeId}{key q v z:Value}{P:Program}{w w':Wd}{b:Nat}{M:List (Value×Value)}{a:Option Addr}
def Vb(w:Wd)(b:Nat)(M:List (Value×Value)):Prop:=∃es c,w.heap[b]?=some (.map es c)/\es.toList.map (λe=>(e.key,e.val))=M
def Jo:TypeDesc->Value->Prop
 | .string,.string _=>True
 | .int k,.int k' _=>k=k'
 |_,_=>False
theorem BT(a b:BA):(a==b)=decide (a=b):=by
 rw[Bool.eq_iff_iff,decide_eq_true_eq];show(a.data==b.data)=true ↔ _;grind[ByteArray.ext]
def Gv:Value->Value->Bool
 | .string a,.string b=>decide (a=b)
 | .int _ a,.int _ b=>decide (a=b)
 |_,_=>false
def Bz(M:List (Value×Value))(k:Value):Option Value:=(M.find? λp=>Gv k p.1).map (·.2)
def Dd(M:List (Value×Value))(k v:Value):List (Value×Value):=
 match M with
 |[]=> [(k,v)]
 |p::M=>if Gv k p.1 then(k,v)::M else p::Dd M k v
theorem IX{d:TypeDesc}{k:Value}(a:Jo d k)(b:Jo d q):Instr.sameNow d k q=some (Gv k q):=by
 cases d <;> cases k <;> simp[Jo]at a <;> cases q <;> simp[Jo]at b <;> simp[Instr.sameNow,Gv,BT];grind
theorem IM{d:TypeDesc}{k:Value}(c:Jo d k):∀(a:List MapEntry) (i:Nat),(∀e∈a,Jo d e.key)->
 Instr.findNow d k a i=some ((a.zipIdx i).findSome? λe=>if Gv k e.1.key then some (e.2,e.1.val) else none):=by
 intro a;induction a<;>grind[Instr.findNow,IX,List.zipIdx_cons]
def IE{d:TypeDesc}(a:P.underlying k=some d)(b:Jo d v)(c:Bool)(n:Nat)(w:Wd):(Instr.checkKey c (n+1) k v).run P w=.ok () w:=by
 cases d <;> cases v <;> simp[Jo]at b <;> simp[Instr.checkKey,run_underlying a]
theorem aM{d:TypeDesc}(b:P.underlying k=some d)(c:Jo d v)(a:Bool)(w:Wd):(Instr.checkKey a 10000 k v).run P w=.ok () w:=IE b c a 9999 w
def Zr(k:Value)(es:List MapEntry):Option (Nat×Value):=(es.zipIdx 0).findSome? λe=>if Gv k e.1.key then some (e.2,e.1.val) else none
theorem mY{d:TypeDesc}(b:P.underlying k=some d)(c:Jo d v)(a:List MapEntry)(h:∀e∈a,Jo d e.key)(w:Wd):
 (Instr.findKey k v a).run P w=.ok (Zr v a) w:=by
 simp_all[Instr.findKey,run_underlying,IM,Zr]
theorem vN(k:Value):∀(a:List MapEntry) (i:Nat),((a.zipIdx i).findSome? λe=>if Gv k e.1.key then some (e.2,e.1.val) else none).map (·.2)=Bz (a.map λe=>(e.key,e.val)) k:=by
 intro a;induction a<;>grind[List.zipIdx_cons,Bz]
def Dl(P:Program)(w:Wd)(b:Nat)(d:TypeDesc)(M:List (Value×Value)):Prop:=Vb w b M/\∀p∈M,Jo d p.1
theorem Dl.keys{d:TypeDesc}(h:Dl P w b d M):∃a c,w.heap[b]?=some (.map a c)/\a.toList.map (λe=>(e.key,e.val))=M/\∀e∈a.toList,Jo d e.key:=by
 obtain⟨⟨a,c,g,f⟩,i⟩:=h;refine⟨a,c,g,f,λe he=>?_⟩;exact i (e.key,e.val) (by grind)
theorem aU{d:TypeDesc}(m:P.underlying t=some (.map k e))(l:P.underlying k=some d)(h:Dl P w b d M) 
  (a:Jo d key) (p:(zeroValue e).run P w=.ok z w):(Instr.lookup t (.map (some b)) key false).run P w=.ok ((Bz M key).getD z) w:=by
 have⟨g,c,n,q,s⟩:=h.keys;have j:=mY l a g.toList s w;have f:=vN key g.toList 0;rw[q]at f;change (Zr key g.toList).map (·.2)=_ at f;cases o:Zr key g.toList with
 |none=>
  rw[o]at f j;simp[Instr.lookup,run_underlying m,getObj,Sem.run,n,aM l a,j,p,<-f]
 |some r=>
  rw[o]at f j;simp[Instr.lookup,run_underlying m,getObj,Sem.run,n,aM l a,j,<-f]
theorem dW{d:TypeDesc}(m:P.underlying t=some (.map k e))(l:P.underlying k=some d)(h:Dl P w b d M) 
  (a:Jo d key) (p:(zeroValue e).run P w=.ok z w):(Instr.lookup t (.map (some b)) key true).run P w=.ok (.tuple #[(Bz M key).getD z,.bool (Bz M key).isSome]) w:=by
 have⟨g,c,n,q,s⟩:=h.keys;have j:=mY l a g.toList s w;have f:=vN key g.toList 0;rw[q]at f;change (Zr key g.toList).map (·.2)=_ at f;cases o:Zr key g.toList with
 |none=>
  rw[o]at f j;simp[Instr.lookup,run_underlying m,getObj,Sem.run,n,aM l a,j,p,<-f]
 |some r=>
  rw[o]at f j;simp[Instr.lookup,run_underlying m,getObj,Sem.run,n,aM l a,j,<-f]
theorem IN(k:Value):∀(a:List MapEntry) (n i:Nat) (v:Value),((a.zipIdx n).findSome? λe=>if Gv k e.1.key then some (e.2,e.1.val) else none)=some (i,v)->
 n<=i/\∃h:i-n<a.length,Gv k a[i-n].key=true/\∀(f:MapEntry->MapEntry) (u:Value),(∀e,(f e).key=k/\(f e).val=u)->(a.modify (i-n) f).map (λe=>(e.key,e.val))=Dd (a.map λe=>(e.key,e.val)) k u:=by
 intro a;induction a with
 |nil=>simp_all
 |cons e a ih=>
  intro n i v h;simp only[List.zipIdx_cons,List.findSome?_cons]at h;grind[Dd]
theorem NP(k:Value)(u:Value):∀(a:List MapEntry) (n:Nat),((a.zipIdx n).findSome? λe=>if Gv k e.1.key then some (e.2,e.1.val) else none)=none->Dd (a.map λe=>(e.key,e.val)) k u=(a.map λe=>(e.key,e.val))++ [(k,u)]:=by
 intro a;induction a<;>grind[List.zipIdx_cons,Dd]
theorem GP{d:TypeDesc}{k:Value}(a:Jo d k)(b:Jo d q)(h:Gv k q=true)(n:Nat):Instr.sameBits n q k=true:=by
 cases d <;> cases k <;> simp[Jo]at a <;> cases q <;> simp[Jo]at b <;> simp[Gv]at h <;> subst h <;> cases n <;> simp[Instr.sameBits,BT]
 all_goals simp_all
theorem aP{d:TypeDesc}(F:P.underlying t=some (.map k e))(z:P.underlying k=some d)(h:Dl P w b d M) 
  (v:Value) (a:Jo d key):∃w',(Instr.mapUpdate t (.map (some b)) key v).run P w=.ok () w'/\Dl P w' b d (Dd M key v)/\w.grownBy w' (some b):=by
 have⟨g,c,A,x,G⟩:=h.keys;have l:=mY z a g.toList G w;have m:b<w.heap.size:=(Array.getElem?_eq_some_iff.1 A).1;have j:∀p∈Dd M key v,Jo d p.1:=by
  have B:=h.2;clear h x l;induction M with
  |nil=>grind[Dd]
  |cons q M ih=>
   grind[Dd]
 have n:∀o:Obj,w.grownBy {w with heap:=w.heap.setIfInBounds b o} (some b):=λo=>⟨rfl,rfl,rfl,by simp,λi hi hne=>by
  grind⟩
 cases y:Zr key g.toList with
 |none=>
  rw[y]at l;refine⟨{w with heap:=w.heap.setIfInBounds b (.map (g.push {key,val:=v,born:=c}) (c+1))},?_,⟨⟨g.push {key,val:=v,born:=c},c+1,by simp_all,?_⟩,j⟩,n _⟩
  . simp_all[Instr.mapUpdate,run_underlying,getObj,setObj,Sem.run,aM]
  have:=NP key v g.toList 0 y;simp_all
 |some r=>
  obtain⟨i,u⟩:=r;rw[y]at l;have⟨_,H,K,L⟩:=IN key g.toList 0 i u y;have C:i<g.size:=by simpa using H
  have s:Jo d g[i].key:=G g[i] (by simp);have D:=GP a s (by simpa using K) 10000;refine⟨{w with heap:=w.heap.setIfInBounds b (.map (g.modify i λe=>{e with key,val:=v}) c)},?_,⟨⟨g.modify i λe=>{e with key,val:=v},c,by simp_all,?_⟩,j⟩,n _⟩
  . have E:(Instr.keyThatStays (((g[i]?).map (·.key)).getD key) key).run P w=.ok key w:=by
     rw[Array.getElem?_eq_getElem C];simp only[Option.map_some,Option.getD_some];unfold Instr.keyThatStays
     rw[iP D];rfl
    simp_all[Instr.mapUpdate,run_underlying,getObj,setObj,Sem.run,aM]
  simp_all
def Dl.below{d:TypeDesc}(h:Dl P w b d M)(e:Bw w w'):Dl P w' b d M:=by
 obtain⟨⟨f,c,a,g⟩,i⟩:=h;exact⟨⟨f,c,(e.block b (Array.getElem?_eq_some_iff.1 a).1).trans a,g⟩,i⟩
theorem Dl.lt{d:TypeDesc}(h:Dl P w b d M):b<w.heap.size:=by
 obtain⟨⟨e,c,a,_⟩,_⟩:=h;grind
def Dl.grown{d:TypeDesc}{a:Option Nat}(h:Dl P w b d M)(g:w.grownBy w' a)(e:some b≠a):Dl P w' b d M:=by
 have f:=h.lt;obtain⟨⟨i,c,j,k⟩,l⟩:=h;exact⟨⟨i,c,(g.block b f e).trans j,k⟩,l⟩
def Dl.alloc{d:TypeDesc}(h:Dl P w b d M)(o:Obj):Dl P (w.alloc o) b d M:=h.below ((Below.refl _ _).alloc (Nat.le_refl _) _)
def Dl.drewN{d:TypeDesc}(h:Dl P w b d M)(n:Nat):Dl P (w.drewN n) b d M:=h
def Dl.made(P:Program)(w:Wd)(d:TypeDesc):Dl P (w.alloc (.map #[] 0)) w.heap.size d []:=by
 refine⟨⟨#[],0,?_,rfl⟩,λp hp=>by simp at hp⟩;show(w.heap.push _)[w.heap.size]?=_;simp
section
variable {P:Program} {ops:Array Oper} {Q:Exit→Act→Wd→Prop} {a:Act} {w:Wd} {rest:List Oper} {o:Oper}
end
structure Cy where
 name:BA
 off:Int
 sh:List (Int×Int)
structure Bh where
 code:BA
 zone:BA
structure Ft where
 num:BA
 fq:BA
 to:BA
 dp:Int
 ar:Int
 ty:BA
 n0:Int
 n1:Int
 n2:Int
structure At where
 zn:List Cy
 ai:List Bh
 fs:List Ft
def Ao(l:LB)(s:BA):Bool:=l.any λx=>decide (s=x)
def Fv(z:Cy):Int:=zG z.name.data.toList z.off z.sh
def Ca:LB->List Cy->Int×LB
 |acc, []=>(0,acc)
 |acc,z::l=>if Fv z≠0 then(Fv z,acc) else if Ao acc z.name=true then(7,acc) else Ca (acc++ [z.name]) l
def Cb(zs:LB):LB->List Bh->Int×LB
 |acc, []=>(0,acc)
 |acc,a::l=>if Eo a.code.data.toList=false then(1,acc) else if Ao acc a.code=true then(7,acc) else if Ao zs a.zone=false then(6,acc) else Cb zs (acc++ [a.code]) l
def Dx(n:Int):Bool:=decide (0<=n/\n<=8)
def Pj(f:Ft):Bool:=decide (2880<=f.dp/\f.ar<=52593120/\f.dp<f.ar/\f.ar-f.dp<=1440)
def El(ar:LB)(f:Ft):Int:=
 if(Oz f.num.data.toList&&Gu f.ty.data.toList)=false then 1 else if(Ao ar f.fq&&Ao ar f.to)=false then 6 else if(f.fq.toList==f.to.toList)=true then 14
 else if Pj f=false then 5 else if(Dx f.n0&&Dx f.n1&&Dx f.n2)=false then 5 else 0
def Oq(f g:Ft):Bool:=if f.dp≠g.dp then decide (f.dp<g.dp) else Op.bytesLess f.num.toList g.num.toList
def Dw(ar:LB):Option Ft->List Ft->Int
 |_, []=>0
 |p,f::l=>if El ar f≠0 then El ar f else if p.any (λg=>!Oq g f)=true then 8 else Dw ar (some f) l
def zY(t:At):Int:=
 if 16<t.zn.length\/64<t.ai.length\/200<t.fs.length then 10
 else if(Ca [] t.zn).1≠0 then(Ca [] t.zn).1
 else if(Cb (Ca [] t.zn).2 [] t.ai).1≠0 then(Cb (Ca [] t.zn).2 [] t.ai).1
 else Dw (Cb (Ca [] t.zn).2 [] t.ai).2 none t.fs
def Sa:RT (Int×Int):=RT.prod RT.int RT.int
def Nc:RT Cy where
 n:=3
 rep w cs z:=∃a cap,cs= [.string z.name,.int .i64 z.off,.slice a z.sh.length cap]/\z.name.size<=140737488355328/\(Lit.int .i64 z.off).wf=true/\z.sh.length<=140737488355328/\Al Sa w a z.sh
 len:=by simp_all
 mono:=by
  rintro w w' cs z ⟨a,cap,h1,h2,h3,h4,h5⟩ hw;exact⟨a,cap,h1,h2,h3,h4,h5.below hw⟩
def Mk:RT Bh where
 n:=2
 rep w cs a:=cs= [.string a.code,.string a.zone]/\a.code.size<=140737488355328/\a.zone.size<=140737488355328
 len:=by simp_all
 mono:=by simp_all
def Hi:RT Ft where
 n:=9
 rep w cs f:=cs= [.string f.num,.string f.fq,.string f.to,.int .i64 f.dp,.int .i64 f.ar,.string f.ty,.int .i64 f.n0,.int .i64 f.n1,.int .i64 f.n2]/\
  (f.num.size<=140737488355328/\f.fq.size<=140737488355328/\f.to.size<=140737488355328/\f.ty.size<=140737488355328)/\(Lit.int .i64 f.dp).wf=true/\(Lit.int .i64 f.ar).wf=true
 len:=by simp_all
 mono:=by simp_all
def Cg(l:List Cy)(k:Nat):Cy:=l.getD k ⟨ByteArray.empty,0, []⟩
def Ct(l:List Bh)(k:Nat):Bh:=l.getD k ⟨ByteArray.empty,ByteArray.empty⟩
def Aa(l:List Ft)(k:Nat):Ft:=l.getD k ⟨ByteArray.empty,ByteArray.empty,ByteArray.empty,0,0,ByteArray.empty,0,0,0⟩
theorem eU(l:List Cy)(k:Nat)(h:k<l.length):l.drop k=Cg l k::l.drop (k+1):=by
 grind[Cg,List.drop_eq_getElem_cons]
theorem bQ(l:List Bh)(k:Nat)(h:k<l.length):l.drop k=Ct l k::l.drop (k+1):=by
 grind[Ct,List.drop_eq_getElem_cons]
theorem kN(l:List Ft)(k:Nat)(h:k<l.length):l.drop k=Aa l k::l.drop (k+1):=by
 grind[Aa,List.drop_eq_getElem_cons]
theorem JJ{l:List (Int×Int)}(h:Al Sa w a l):Cj w a l:=by
 rcases h with h|⟨b,f,j,k,m⟩;exact .inl h;refine .inr ⟨b,f,j,k,λi hi=>?_⟩;obtain⟨p,g,c,d,rfl,⟨rfl,_⟩,rfl,_⟩:=m i hi;have e:Br l i=l[i]:=by rw[Br,List.getD_eq_getElem?_getD,List.getElem?_eq_getElem hi];rfl
 rw[e];have n:=g 0 (by simp);have o:=g 1 (by simp);grind[Sa,RT.prod,RT.int]
def iA(w:Wd)(b off:Nat)(l:List Cy):Prop:=
 ∀i,i<l.length->∃a cap,w.cell? (aD b (off+i*3))=some (.string (Cg l i).name)/\w.cell? (aD b (off+i*3+1))=some (.int .i64 (Cg l i).off)/\w.cell? (aD b (off+i*3+2))=some (.slice a (Cg l i).sh.length cap)/\
  (Cg l i).name.size<=140737488355328/\(Cg l i).sh.length<=140737488355328/\Cj w a (Cg l i).sh
def iA.below{c:Nat}{l:List Cy}(h:iA w b c l)(e:b<w.heap.size)(d:Bw w w'):iA w' b c l:=by
 intro i g;have⟨a,f,j,k,m,n,o,q⟩:=h i g;exact⟨a,f,(d.cell (p:=aD b (c+i*3)) e).trans j,(d.cell (p:=aD b (c+i*3+1)) e).trans k,(d.cell (p:=aD b (c+i*3+2)) e).trans m,n,o,q.below d⟩
theorem dV{l:List Cy}(h:Al Nc w a l)(g:0<l.length):∃b c,a=some (aD b c)/\b<w.heap.size/\iA w b c l:=by
 have⟨b,c,j,k,m⟩:=h.at g;refine⟨b,c,j,k,λi hi=>?_⟩;obtain⟨u,f,n,d,rfl,o,_,p,q⟩:=m i hi;have e:Cg l i=l[i]:=by rw[Cg,List.getD_eq_getElem?_getD,List.getElem?_eq_getElem hi];rfl
 rw[e];have r:=f 0 (by simp);have s:=f 1 (by simp);have t:=f 2 (by simp);grind[Nc,JJ]
def iH(w:Wd)(b off:Nat)(l:List Bh):Prop:=
 ∀i,i<l.length->w.cell? (aD b (off+i*2))=some (.string (Ct l i).code)/\w.cell? (aD b (off+i*2+1))=some (.string (Ct l i).zone)/\(Ct l i).code.size<=140737488355328/\(Ct l i).zone.size<=140737488355328
def iH.below{a:Nat}{l:List Bh}(h:iH w b a l)(c:b<w.heap.size)(d:Bw w w'):iH w' b a l:=by
 intro i e;have⟨f,g,j⟩:=h i e;exact⟨(d.cell (p:=aD b (a+i*2)) c).trans f,(d.cell (p:=aD b (a+i*2+1)) c).trans g,j⟩
theorem eF{l:List Bh}(h:Al Mk w a l)(f:0<l.length):∃b c,a=some (aD b c)/\b<w.heap.size/\iH w b c l:=by
 have⟨b,c,g,j,k⟩:=h.at f;refine⟨b,c,g,j,λi hi=>?_⟩;obtain⟨q,d,rfl,m,n⟩:=k i hi;have e:Ct l i=l[i]:=by rw[Ct,List.getD_eq_getElem?_getD,List.getElem?_eq_getElem hi];rfl
 rw[e];have o:=d 0 (by simp);have p:=d 1 (by simp);grind[Mk]
def gS(w:Wd)(b off:Nat)(l:List Ft):Prop:=
 ∀i,i<l.length->(w.cell? (aD b (off+i*9))=some (.string (Aa l i).num)/\w.cell? (aD b (off+i*9+1))=some (.string (Aa l i).fq)/\w.cell? (aD b (off+i*9+2))=some (.string (Aa l i).to)/\
  w.cell? (aD b (off+i*9+3))=some (.int .i64 (Aa l i).dp)/\w.cell? (aD b (off+i*9+4))=some (.int .i64 (Aa l i).ar)/\w.cell? (aD b (off+i*9+5))=some (.string (Aa l i).ty)/\
  w.cell? (aD b (off+i*9+6))=some (.int .i64 (Aa l i).n0)/\w.cell? (aD b (off+i*9+7))=some (.int .i64 (Aa l i).n1)/\w.cell? (aD b (off+i*9+8))=some (.int .i64 (Aa l i).n2))/\
  ((Aa l i).num.size<=140737488355328/\(Aa l i).fq.size<=140737488355328/\(Aa l i).to.size<=140737488355328/\(Aa l i).ty.size<=140737488355328)
theorem gS.below{a:Nat}{l:List Ft}(h:gS w b a l)(c:b<w.heap.size)(d:Bw w w'):gS w' b a l:=by
 intro i e;have⟨⟨f,j,k,m,n,q,r,s,t⟩,u⟩:=h i e;have g:=λ(o:Nat)=>d.cell (p:=aD b o) c;simp_all
theorem Qg{l:List Ft}(h:Al Hi w a l)(d:0<l.length):∃b c,a=some (aD b c)/\b<w.heap.size/\gS w b c l:=by
 have⟨b,c,f,k,m⟩:=h.at d;refine⟨b,c,f,k,λi hi=>?_⟩;obtain⟨p,n,rfl,o,_⟩:=m i hi;have e:Aa l i=l[i]:=by rw[Aa,List.getD_eq_getElem?_getD,List.getElem?_eq_getElem hi];rfl
 rw[e];have g:=λj (hj:j<9)=>n j (by simpa using hj);refine⟨⟨?_,?_,?_,?_,?_,?_,?_,?_,?_⟩,o⟩;simpa[Hi] using g 0 (by omega);simpa[Hi] using g 1 (by omega);simpa[Hi] using g 2 (by omega);simpa[Hi] using g 3 (by omega);simpa[Hi] using g 4 (by omega);simpa[Hi] using g 5 (by omega);all_goals simp_all[Hi]
def Lw(l:LB):List (Value×Value):=l.map λs=>(.string s,.bool true)
theorem nL(l:LB)(s:BA):(Bz (Lw l) (B_ s)).getD (.bool false)=.bool (Ao l s):=by
 induction l<;>grind[Bz,Lw,Gv,Ao]
theorem LF(l:LB)(s:BA)(h:Ao l s=false):Dd (Lw l) (B_ s) (.bool true)=Lw (l++ [s]):=by
 induction l<;>simp_all[Ao,Lw,Dd,Gv]
section
variable {P:Program} {ops:Array Oper} {Q:Exit→Act→Wd→Prop} {md:Region.Mode} {S:Wd→Prop} {Z:List Nat}
def Ds(P:Program)(md:Region.Mode)(ops:Array Oper)(Q:Exit->Act->Wd->Prop)(S:Wd->Prop)(Z:List Nat):Nat->Array Bool->Act->Wd->Prop
 |0,listed,a,w=>Region.ready md ops listed= []/\Q .normal a w
 |n+1,listed,a,w=>(Region.ready md ops listed= []->Q .normal a w)/\∀i∈Region.ready md ops listed,wpOp P ops Q i (λa' w'=>(i ∉ Z->S w->S w')/\Ds P md ops Q S Z n (listed.setIfInBounds i true) a' w') a w
def yX:∀(n:Nat) (listed:Array Bool) (a:Act) (w:Wd),Ds P md ops Q S Z n listed a w->wpAny P md ops Q n listed a w
 |0,_,_,_,h=>h
 |n+1,_,_,_,h=>⟨h.1,λi hi=>wpOp_mono (λa' w' hh=>yX n _ a' w' hh.2) (h.2 i hi)⟩
theorem dQ{a:Array Bool}{i:Nat}(c:a.getD i true=false)(b:a.getD i false=true):False:=by
 grind
theorem NV{z i:Nat}{a:Array Bool}(d:Region.waitsFor md ops z i=true)(f:i∈Region.ready md ops a):z ∉ Region.ready md ops a:=by
 grind[Region.waitsFor_spec,mem_ready]
theorem PV{i:Nat}{oi:Oper}{v:Value}(u:ops[i]?=some oi)(B:Region.noSelect ops=true)(C:Z.all (λz=>Region.waitsFor md ops z i)=true) 
 (D:∀c a w,Q (.panic c) (a.put oi.dst v) w->Q (.panic c) a w):∀(n:Nat) (d:Array Bool) (a:Act) (w:Wd),
  (∀j m,ops[j]?=some m->j≠i->d.getD j true=false->(∀e∈m.after,Region.binds md e=true->e.on≠i)->oi.apart ops m=true)->
  i∈Region.ready md ops d->YieldsIf P ops S oi v a->S w->
  Ds P md ops Q S Z n (d.setIfInBounds i true) (a.put oi.dst v) w->Ds P md ops Q S Z (n+1) d a w:=by
 have g:=Region.noSelect_spec B;intro n;induction n with
 |zero=>
  intro d a w _ l s t H;refine⟨λh=>(by simp_all),λj hj=>?_⟩;by_cases e:j=i
  . subst e;exact s.wpOp u t ⟨λ_ h=>h,H⟩
  have p:=ready_mono hj e;rw[H.1]at p;cases p
 |succ n ih=>
  intro d a w f l s t H;refine⟨λh=>(by simp_all),λj hj=>?_⟩;by_cases e:j=i
  . subst e;exact s.wpOp u t ⟨λ_ h=>h,H⟩
  have x:j ∉ Z:=λhz=>NV (List.all_eq_true.1 C j hz) l hj
  have⟨q,m,o,r⟩:=mem_ready.1 hj;have y:∀b∈m.after,Region.binds md b=true->b.on≠i:=λb hb hbb hon=>by
   grind[mem_ready]
  have E:=wpOp_putIf o (f j m o e q y) (λcs b=>g i oi cs b u) (λcs b=>g j m cs b o) D s (H.2 j (ready_mono hj e));refine wpOp_mono (λa' w' h3=>?_) E;have hS':S w':=h3.2.1 x t;refine⟨λ_ _=>hS',ih (d.setIfInBounds j true) a' w' (λk ok hk hki hu hn=>?_) (ready_mono l (Ne.symm e)) h3.1 hS' ?_⟩
  . refine f k ok hk hki ?_ hn;by_cases A:j=k
    . subst A;exact q
    rw[getD_set_ne true A]at hu;exact hu
  grind[Array.setIfInBounds_comm]
theorem OW{i:Nat}{oi:Oper}{v:Value}(t:ops[i]?=some oi)(y:Region.noSelect ops=true) 
 (z:∀c a w,Q (.panic c) (a.put oi.dst v) w->Q (.panic c) a w):∀(n:Nat) (d:Array Bool) (a:Act) (w:Wd),
  (∀j l,ops[j]?=some l->j≠i->d.getD j true=false->(∀e∈l.after,Region.binds md e=true->e.on≠i)->oi.apart ops l=true)->
  i∈Region.ready md ops d->YieldsIf P ops (λ_=>True) oi v a->
  Ds P md ops Q S Z n (d.setIfInBounds i true) (a.put oi.dst v) w->Ds P md ops Q S Z (n+1) d a w:=by
 have g:=Region.noSelect_spec y;intro n;induction n with
 |zero=>
  intro d a w _ m s H;refine⟨λh=>(by simp_all),λj hj=>?_⟩;by_cases e:j=i
  . subst e;exact s.wpOp t trivial ⟨λ_ h=>h,H⟩
  have p:=ready_mono hj e;rw[H.1]at p;cases p
 |succ n ih=>
  intro d a w f m s H;refine⟨λh=>(by simp_all),λj hj=>?_⟩;by_cases e:j=i
  . subst e;exact s.wpOp t trivial ⟨λ_ h=>h,H⟩
  have⟨q,l,o,r⟩:=mem_ready.1 hj;have u:∀b∈l.after,Region.binds md b=true->b.on≠i:=λb hb hbb hon=>by
   grind[mem_ready]
  have A:=wpOp_putIf o (f j l o e q u) (λcs b=>g i oi cs b t) (λcs b=>g j l cs b o) z s (H.2 j (ready_mono hj e));refine wpOp_mono (λa' w' h3=>?_) A;refine⟨h3.2.1,ih (d.setIfInBounds j true) a' w' (λk ok hk hki hu hn=>?_) (ready_mono m (Ne.symm e)) h3.1 ?_⟩
  . refine f k ok hk hki ?_ hn;by_cases x:j=k
    . subst x;exact q
    rw[getD_set_ne true x]at hu;exact hu
  grind[Array.setIfInBounds_comm]
def AB{i n:Nat}{oi:Oper}{v:Value}{b:Array Bool}{a:Act}{w:Wd}(d:ops[i]?=some oi)(e:Region.noSelect ops=true)(f:Region.free md ops b i=true)(g:(Region.ready md ops b).contains i=true) 
 (j:∀c a w,Q (.panic c) (a.put oi.dst v) w->Q (.panic c) a w) (k:Region.wanted oi (yielded ops a.tmps)=true) (l:∀w,(execOp a.eval oi).run P w=.ok (.value v) w)
 (h:Ds P md ops Q S Z n (b.setIfInBounds i true) (a.put oi.dst v) w):Ds P md ops Q S Z (n+1) b a w:=
 OW d e j n b a w (Region.free_spec d f) (by simpa using g) (.inl ⟨k,λw _=>l w⟩) h
def MT{i n:Nat}{oi:Oper}{v:Value}{b:Array Bool}{a:Act}{w:Wd}(d:ops[i]?=some oi)(e:Region.noSelect ops=true)(f:Z.all (λz=>Region.waitsFor md ops z i)=true)(g:Region.free md ops b i=true)(j:(Region.ready md ops b).contains i=true) 
 (k:∀c a w,Q (.panic c) (a.put oi.dst v) w->Q (.panic c) a w) (l:Region.wanted oi (yielded ops a.tmps)=true) (m:∀w,S w->(execOp a.eval oi).run P w=.ok (.value v) w) (o:S w)
 (h:Ds P md ops Q S Z n (b.setIfInBounds i true) (a.put oi.dst v) w):Ds P md ops Q S Z (n+1) b a w:=
 PV d e f k n b a w (Region.free_spec d g) (by simpa using j) (.inl ⟨l,m⟩) o h
def zo{i n:Nat}{o:Oper}{b:Array Bool}{a:Act}{w:Wd}(c:Region.ready md ops b= [i])(d:ops[i]?=some o)(e:Region.wanted o (yielded ops a.tmps)=true) 
 (h:∀K:Act->Wd->Prop,Af (∀a' w',(i ∉ Z->S w->S w')->Ds P md ops Q S Z n (b.setIfInBounds i true) a' w'->K a' w')->Oper.wp P o a w K Q):Ds P md ops Q S Z (n+1) b a w:=by
 refine⟨λh0=>(by rw[c]at h0;cases h0),λj hj=>?_⟩;rw[c]at hj;obtain rfl:j=i:=by simpa using hj
 unfold wpOp;rw[d];simp only[e,if_true];exact .inl (h _ (I (λa' w' h1 h2=>⟨h1,h2⟩)))
def QY{P:Program}{md:Region.Mode}{ops:Array Oper}{Q:Exit->Act->World->Prop}{S:World->Prop}{Z:List Nat}{i n:Nat}{o:Oper}{b:Array Bool}{a:Act}{w:World}(d:ops[i]?=some o)(h:∀K:Act->World->Prop,Af (∀a' w',(i ∉ Z->S w->S w')->Ds P md ops Q S Z n (b.setIfInBounds i true) a' w'->K a' w')->Oper.wp P o a w K Q)(c:Region.ready md ops b= [i]:=by kernel_rfl)(e:Region.wanted o (yielded ops a.tmps)=true:=by rfl):Ds P md ops Q S Z (n+1) b a w:=zo c d e h
def Yr{i j n:Nat}{oi oj:Oper}{b:Array Bool}{a:Act}{w:Wd}(g:Region.ready md ops b= [i,j])(h:ops[i]?=some oi)(k:ops[j]?=some oj)(e:Region.wanted oi (yielded ops a.tmps)=true)(f:Region.wanted oj (yielded ops a.tmps)=true) 
 (c:∀K:Act->Wd->Prop,Af (∀a' w',(i ∉ Z->S w->S w')->Ds P md ops Q S Z n (b.setIfInBounds i true) a' w'->K a' w')->Oper.wp P oi a w K Q)
 (d:∀K:Act->Wd->Prop,Af (∀a' w',(j ∉ Z->S w->S w')->Ds P md ops Q S Z n (b.setIfInBounds j true) a' w'->K a' w')->Oper.wp P oj a w K Q):Ds P md ops Q S Z (n+1) b a w:=by
 refine⟨λh0=>(by rw[g]at h0;cases h0),λm hm=>?_⟩;rw[g]at hm;rcases(by simpa using hm:m=i\/m=j) with rfl|rfl;unfold wpOp;rw[h];simp only[e,if_true];exact .inl (c _ (I (λa' w' c d=>⟨c,d⟩)));unfold wpOp;rw[k];simp only[f,if_true];exact .inl (d _ (I (λa' w' c d=>⟨c,d⟩)))
def zx{i n:Nat}{oi:Oper}{v:Value}{b:Array Bool}{a:Act}{w:Wd}(d:ops[i]?=some oi)(f:∀w,S w->(execOp a.eval oi).run P w=.ok (.value v) w)(g:S w)(h:Ds P md ops Q S Z n (b.setIfInBounds i true) (a.put oi.dst v) w)(j:Region.noSelect ops=true:=by kernel_rfl)(k:Z.all (λz=>Region.waitsFor md ops z i)=true:=by kernel_rfl)(l:Region.free md ops b i=true:=by kernel_rfl)(m:(Region.ready md ops b).contains i=true:=by kernel_rfl)(o:∀c a w,Q (.panic c) (a.put oi.dst v) w->Q (.panic c) a w:=by first|exact λ_ _ _ h=>h|exact λ_ _ _ h=>⟨λe=>(by cases e),λhn=>h.2 hn⟩)(p:Region.wanted oi (yielded ops a.tmps)=true:=by rfl):Ds P md ops Q S Z (n+1) b a w:=MT d j k l m o p f g h
def zT{i n:Nat}{oi:Oper}{v:Value}{b:Array Bool}{a:Act}{w:Wd}(d:ops[i]?=some oi)(f:∀w,(execOp a.eval oi).run P w=.ok (.value v) w)(h:Ds P md ops Q S Z n (b.setIfInBounds i true) (a.put oi.dst v) w)(g:Region.noSelect ops=true:=by kernel_rfl)(j:Region.free md ops b i=true:=by kernel_rfl)(k:(Region.ready md ops b).contains i=true:=by kernel_rfl)(l:∀c a w,Q (.panic c) (a.put oi.dst v) w->Q (.panic c) a w:=by first|exact λ_ _ _ h=>h|exact λ_ _ _ h=>⟨λe=>(by cases e),λhn=>h.2 hn⟩)(m:Region.wanted oi (yielded ops a.tmps)=true:=by rfl):Ds P md ops Q S Z (n+1) b a w:=AB d g j k l m f h
def zM{n:Nat}{b:Array Bool}{a:Act}{w:Wd}(c:Region.ready md ops b= [])(h:Q .normal a w):Ds P md ops Q S Z n b a w:=by
 cases n with
 |zero=>exact⟨c,h⟩
 |succ n=>exact⟨λ_=>h,by rw[c];simp⟩
def bE{b:Nat}{a:Act}{w:Wd}(S:Wd->Prop)(Z:List Nat)(c:P.follows .mixedOrders=true)(h:Ds P .any ops Q S Z ops.size (Array.replicate ops.size false) a w.drew):(Code.region b ops true).wp P Q a w:=
 wp_region_any c (yX _ _ _ _ h)
end
def CG{P:Program}{md:Region.Mode}{ops:Array Oper}{Q:Exit->Act->Wd->Prop}{S:Wd->Prop}{Z:List Nat}{i n:Nat}{oi:Oper}{v:Value}{b:Array Bool}{a:Act}{w:Wd}(d:ops[i]?=some oi)(g:S w)(h:Ds P md ops Q S Z n (b.setIfInBounds i true) (a.put oi.dst v) w)(f:∀w,S w->(execOp a.eval oi).run P w=.ok (.value v) w:=by (intro w' hS;go_simp))(j:Region.noSelect ops=true:=by kernel_rfl)(k:Z.all (λz=>Region.waitsFor md ops z i)=true:=by kernel_rfl)(l:Region.free md ops b i=true:=by kernel_rfl)(m:(Region.ready md ops b).contains i=true:=by kernel_rfl)(o:∀c a w,Q (.panic c) (a.put oi.dst v) w->Q (.panic c) a w:=by first|exact λ_ _ _ h=>h|exact λ_ _ _ h=>⟨λe=>(by cases e),λhn=>h.2 hn⟩)(p:Region.wanted oi (yielded ops a.tmps)=true:=by rfl):Ds P md ops Q S Z (n+1) b a w:=zx d f g h j k l m o p
def sPa{P:Program}{md:Region.Mode}{ops:Array Oper}{Q:Exit->Act->Wd->Prop}{S:Wd->Prop}{Z:List Nat}{i n:Nat}{oi:Oper}{v:Value}{b:Array Bool}{a:Act}{w:Wd}(d:ops[i]?=some oi)(h:Ds P md ops Q S Z n (b.setIfInBounds i true) (a.put oi.dst v) w)(f:∀w,(execOp a.eval oi).run P w=.ok (.value v) w:=by (intro w';go_simp))(j:Region.noSelect ops=true:=by kernel_rfl)(l:Region.free md ops b i=true:=by kernel_rfl)(m:(Region.ready md ops b).contains i=true:=by kernel_rfl)(o:∀c a w,Q (.panic c) (a.put oi.dst v) w->Q (.panic c) a w:=by first|exact λ_ _ _ h=>h|exact λ_ _ _ h=>⟨λe=>(by cases e),λhn=>h.2 hn⟩)(p:Region.wanted oi (yielded ops a.tmps)=true:=by rfl):Ds P md ops Q S Z (n+1) b a w:=zT d f h j l m o p
def O:(∀(a:Act) (v:Value),a.put none v=a)/\(∀(a:Act) (d:Tmp) (v:Value),a.put (some d) v={a with tmps:=a.tmps.setIfInBounds d v})/\(∀(l:LV) (i:Nat) (v:Value),l.toArray.setIfInBounds i v=(l.set i v).toArray)/\(∀(x y:Value) (l:LV),(x::l).set 0 y=y::l)/\(∀(x y:Value) (l:LV) (n:Nat),(x::l).set (n+1) y=x::l.set n y):=⟨λ_ _=>rfl,λ_ _ _=>rfl,λ_ _ _=>by simp,λ_ _ _=>rfl,λ_ _ _ _=>rfl⟩
end Go.Proofs.YtafdcbmgdfliiaaGreat
namespace Go.Proofs.YtafdcbmgdfliiaaGreat
open Go.RowKit Go.Sort
abbrev Ae:=Option Addr
abbrev Ab:=@Below.then
abbrev An:=@Below.refl
abbrev As:=@Nat.lt_of_lt_of_le
abbrev Bf:=@Nat.le_trans
abbrev Ag:=@lt_of_block
abbrev Bg:=@Nat.zero_le
abbrev Bv:=@Nat.le_refl
abbrev Fa:=@Calls.regrown_of
abbrev Cr:=@List.getD_eq_getElem?_getD
abbrev Cz:=@List.getElem?_eq_getElem
abbrev Gh:=@List.length_append
abbrev Ii:=@List.map_append
abbrev Mn:=@Bool.false_eq_true
abbrev Em:=@Bool.and_eq_true
abbrev Gk:=@List.drop_length
abbrev Jr:=@Nat.le_of_ble_eq_true
abbrev Tp:=@List.getElem?_append_left
abbrev Nf:=@List.getElem?_append_right
abbrev oA(X:Bh):Obj:=.cells #[.string X.code,.string X.zone] 170
abbrev oW(X:Ft):Obj:=.cells #[.string X.num,.string X.fq,.string X.to,.int .i64 X.dp,.int .i64 X.ar,.string X.ty,.int .i64 X.n0,.int .i64 X.n1,.int .i64 X.n2] 122
abbrev Pc(X:Cy)(A:Ae)(C:Nat):Obj:=.cells #[.string X.name,.int .i64 X.off,.slice A X.sh.length C] 168
abbrev Dq(o n:Int)(s:BA)(A:Ae)(L C:Nat):Obj:=.cells #[.int .i64 o,.int .i64 n,.string s,.slice A L C] 71
abbrev Pb(o n:Int)(A:Ae)(L C:Nat):Obj:=.cells #[.int .i64 o,.int .i64 n,.slice A L C] 174
abbrev oZ(s:BA)(o:Int)(A:Ae)(L C:Nat):Obj:=.cells #[.string s,.int .i64 o,.slice A L C] 168
abbrev oP(s:BA)(A:Ae)(L C:Nat):Obj:=.cells #[.string s,.slice A L C] 50
abbrev oQ(x y:Int):Obj:=.cells #[.int .i64 x,.int .i64 y] 186
abbrev oI(x:Int):Obj:=.cells #[.int .i64 x] 3
abbrev Lc(x:Int):Obj:=.cells #[.int .i64 x] 53
abbrev oJ(A:Ae)(L C:Nat)(B:Ae)(M D:Nat):Obj:=.cells #[.slice A L C,.slice B M D] 206
abbrev oT(x:Int)(b:Bool):Obj:=.cells #[.int .i64 x,.bool b] 104
abbrev jA:Obj:=.cells #[.int .i64 0,.int .i64 0,.int .i64 0,.int .i64 0,.int .i64 0,.int .i64 0,.int .i64 0,.slice none 0 0,.slice none 0 0,.slice none 0 0,.slice none 0 0,.slice none 0 0,.slice none 0 0,.int .i64 0] 35
abbrev jB:Obj:=.cells #[.string ⟨#[]⟩,.string ⟨#[]⟩,.string ⟨#[]⟩,.int .i64 0,.int .i64 0,.string ⟨#[]⟩,.int .i64 0,.int .i64 0,.int .i64 0] 122
abbrev jC:Obj:=.cells #[.int .i64 0,.int .i64 0,.slice none 0 0] 174
abbrev jD:Obj:=.cells #[.string ⟨#[]⟩,.slice none 0 0,.slice none 0 0,.slice none 0 0,.slice none 0 0] 42
abbrev jE:Obj:=.cells #[.int .i64 0,.int .i64 0,.int .i64 0,.int .i64 0,.int .i64 0,.int .i64 0,.int .i64 0,.int .i64 0,.int .i64 0,.int .i64 0,.int .i64 0,.int .i64 0,.int .i64 0,.int .i64 0,.int .i64 0,.int .i64 0,.int .i64 0,.int .i64 0,.int .i64 0,.int .i64 0,.int .i64 0,.int .i64 0,.int .i64 0,.int .i64 0,.int .i64 0] 3
abbrev jF:Obj:=.cells #[.string ⟨#[97,110,100]⟩,.string ⟨#[111,114]⟩,.string ⟨#[110,111,116]⟩,.string ⟨#[105,109,112,108,105,101,115]⟩,.string ⟨#[105,110]⟩,.string ⟨#[116,111]⟩,.string ⟨#[116,114,117,101]⟩,.string ⟨#[102,97,108,115,101]⟩,.string ⟨#[109,105,110]⟩,.string ⟨#[109,97,120]⟩,.string ⟨#[105,102]⟩,.string ⟨#[116,104,101,110]⟩,.string ⟨#[101,108,115,101]⟩] 9
abbrev jG:Obj:=.cells #[.int .i64 0,.int .i64 0,.int .i64 0,.int .i64 1440,.int .i64 2880,.int .i64 0,.int .i64 0,.slice none 0 0,.slice none 0 0,.slice none 0 0,.slice none 0 0,.slice none 0 0,.slice none 0 0,.int .i64 0] 35
abbrev jH:Obj:=.cells #[.slice none 0 0,.int .i64 0,.int .i64 0,.string ⟨#[]⟩,.string ⟨#[]⟩,.int .i64 0,.int .i64 0] 92
abbrev jI:Obj:=.cells #[.string ⟨#[108,101,103,115]⟩,.string ⟨#[104,101,97,100,115]⟩,.string ⟨#[98,108,111,99,107]⟩,.string ⟨#[99,114,101,100,105,116]⟩,.string ⟨#[115,112,97,110]⟩] 9
abbrev jJ:Obj:=.cells #[.int .i64 30,.int .i64 45,.int .i64 45,.int .i64 60,.int .i64 90,.int .i64 150,.int .i64 600,.int .i64 780] 3
abbrev jK:Obj:=.cells #[.int .i64 60,.int .i64 30,.int .i64 40,.int .i64 1440,.int .i64 2880,.int .i64 0,.int .i64 0,.slice none 0 0,.slice none 0 0,.slice none 0 0,.slice none 0 0,.slice none 0 0,.slice none 0 0,.int .i64 0] 35
abbrev jL:Obj:=.cells #[.slice none 0 0,.slice none 0 0,.slice none 0 0] 27
abbrev jM:Obj:=.cells #[.string ⟨#[97,51,50,48]⟩,.string ⟨#[98,55,51,55]⟩,.string ⟨#[101,49,57,48]⟩] 9
abbrev jN:Obj:=.cells #[.bool false,.bool false,.bool false,.bool false,.bool false,.bool false,.bool false] 225
abbrev jO:Obj:=.cells #[.slice none 0 0,.slice none 0 0] 206
abbrev jP:Obj:=.cells #[.int .i64 0,.int .i64 0] 186
abbrev jQ:Obj:=.cells #[.string ⟨#[]⟩,.int .i64 0,.slice none 0 0] 168
abbrev jR:Obj:=.cells #[.int .i64 1441500,.int .i64 120,.int .i64 1444000,.int .i64 60] 198
abbrev jS:Obj:=.cells #[.int .i64 0,.int .i64 0,.int .i64 0,.int .i64 0,.int .i64 0] 56
abbrev jT:Obj:=.cells #[.int .i64 0,.string ⟨#[]⟩,.int .i64 0,.int .i64 0] 290
abbrev jU:Obj:=.cells #[.int .i64 0,.bool false,.int .i64 1,.bool false] 104
abbrev jV:Obj:=.cells #[.int .i64 0,.int .i64 1,.int .i64 2,.int .i64 4] 3
abbrev jW:Obj:=.cells #[.int .i64 1442900,.int .i64 (-240)] 198
abbrev jX:Obj:=.cells #[.string ⟨#[]⟩,.slice none 0 0] 50
