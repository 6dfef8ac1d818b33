/- a part of the proof -/
import Derived.Deep.DeepCutAuto
import Derived.RegionTactic
import Derived.Deep.RegionHeld3
import Derived.Deep.AppendLies
import Derived.Test.YtafdcbmgdfliiaaGreatG3
set_option linter.all false
set_option maxRecDepth 100000
set_option maxHeartbeats 3000000
namespace Go.Proofs.YtafdcbmgdfliiaaGreat
open Go.RowKit Go.Sort Go.Proofs.Tryz
variable {w w':Wd}{B a b c cap d f i k n:Nat}{e:TypeId}{v:Value}{o:Obj}{L:List (Int×Int×Int)}{l:LB}{g:List Nat}{s:BA}{q:LI}{X:Nat->Prop}{C:Array Value}
def BQ:(prog.info? 344).map (λi=>(i.zero,i.size,i.bytes))=some (some (.agg #[Bn 0,Bn 0,Bn 0]),3,24):=by kernel_rfl
def Ie(L:List (Int×Int×Int)):LV:=L.flatMap λg=> [Bn g.1,Bn g.2.1,Bn g.2.2]
def mR(L:List (Int×Int×Int))(g:Int×Int×Int):Ie (L++ [g])=Ie L++ [Bn g.1,Bn g.2.1,Bn g.2.2]:=by simp[Ie]
theorem Hh(w:Wd)(a:LV)(e:TypeId)(j:Nat)(u:Value)(h:a[j]?=some u):(w.alloc (.cells a.toArray e)).cell? (Addr.add (aD w.heap.size 0) j)=some u:=by
 grind[Addr.add,World.cell?_alloc_at]
theorem Lt{d:LV}(h:w.ownsRow a e b v n d)(k:Nat)(c:v.ownBlock=some k):a<=k:=by
 rcases h.2 with⟨rfl,_⟩|⟨g,f,i,rfl,j,_⟩;all_goals grind[Value.ownBlock]
def pQ{i:LV}(h:w.ownsRow b e c v n i)(j:a<=b):w.ownsRow a e c v n i:=by
 refine⟨h.1,?_⟩;rcases h.2 with h|⟨g,d,f,k,l,h⟩;exact .inl h;exact .inr ⟨g,d,f,k,Bf j l,h⟩
def Ld{W c d:Wd}{e':TypeId}{g:LV}(f:Bw W c)(h:B=W.heap.size)(b:c.ownsRow B e a v n g)(i:(c.alloc o).grownBy d v.ownBlock):Bw W d:=by
 subst h;have j:=f.size;exact(f.alloc j o).grown i (by simp;omega) (λk hk=>Lt b k hk)
def JL(s:BA)(o x y:Int)(l:List (Int×Int))(a:Ae)(cap:Nat)(w:Wd)(hl:l.length<=1000000)(T:Cj w a l):
 Calls prog 267 #[.agg #[B_ s,o,CU a l.length cap],.agg #[x,y]] w λe w'=>
  ∃v,e=.returned v/\w'.ownsRow w.heap.size 344 3 v (Fl 0 o l x y).length (Ie (Fl 0 o l x y))/\Bw w w':=by
 have⟨i0,hi,a0,a1,a2⟩:=info_parts BQ;go_in;go_wp2_with fail;have⟨Q,U,R⟩:=Ss w s o a l.length cap x y;generalize ((w.alloc (oZ s o a l.length cap)).alloc (oQ x y))=W at*;have⟨V,X,Y,Z⟩:=I Q |>.1;have⟨t0,t1,t2⟩:=I U |>.1;go_quiet (fail);go_wp2_with fail;have C:Bw W (W.drewN nq):=dN (An _ _) _;generalize W.drewN nq=F at*;replace Q:=Q.below C;replace U:=U.below C;have G:=Ab R C;replace T:=T.below G;go_loopw [5,6,7,8] (λout fr oo i wr=>∃(k:Nat) (v:Value) (f q:Int) (L:List (Int×Int×Int)),k<=l.length+1/\L.length<=k/\i=Bn k/\out=v/\fr=Bn f/\oo=Bn q/\
  wr.ownsRow F.heap.size 344 3 v L.length (Ie L)/\Af (Fl 0 o l x y=L++Lj f q l k x y)/\Bw F wr) (λ_ _ _ i _=>l.length+1-(intOf i).toNat)
 exact⟨0,_,_,_, [],Bg _,Bv _,rfl,rfl,rfl,rfl,⟨rfl,.inl ⟨rfl,rfl⟩⟩,I (vH o l x y),An _ _⟩;obtain⟨k,v,f,q,L,hk,hL,rfl,rfl,rfl,rfl,r,t,g⟩:=hrel;have⟨V,X,Y,Z⟩:=I (Q.below g) |>.1;by_cases a3:k<=l.length
 . obtain⟨n,D⟩:∃n,Af (n=if k<l.length then(Br l k).1 else 52596000):=⟨_,I rfl⟩;have E:=I (show Fl 0 o l x y=L++Hw f n q x y++if k<l.length then Lj (Br l k).1 (Br l k).2 l (k+1) x y else [] by
    rw[t.1,D.1,List.append_assoc];by_cases c:k<l.length
    . rw[iP c,iP c,xM c]
    obtain rfl:k=l.length:=by omega
    rw[iN c,iN c,gV,wH (by omega)])
   go_upto_if 25 with(fail)
   go_cut [9] (λtv wx=>tv=Bn n/\wr=wx)
   case first=>
    by_cases c:k<l.length
    . obtain⟨b,H,rfl,hb,hc⟩:=T.resolve_left (λh=>by simp[h]at c);have a4:=(g.cell (p:=aD b (H+k*2)) hb).trans (hc k c).1;go_wp2;go_meet;exact⟨by rw[D.1,iP c],rfl⟩
    go_wp2;go_meet;exact⟨by rw[D.1,iN c],rfl⟩
   obtain⟨rfl,rfl⟩:=hcut;have⟨t0,t1,t2⟩:=I (U.below g) |>.1;go_wp2;go_quiet (fail);have j:(wr.drewN nq).ownsRow F.heap.size 344 3 u5 L.length (Ie L):=r;have m:=g.trans ((dN (An wr.heap.size wr) nq).mono g.size);have K:Af (Hw f n q x y=if mx f x<mn n y then [(mx f x,mn n y,q)] else []):=I rfl;simp only[show(if f<x then x else f)=mx f x from rfl,show(if y<n then y else n)=mn n y from rfl];generalize mx f x=A at*;generalize mn n y=B at*;generalize wr.drewN nq=wd at*;go_upto_if 42 with(fail);go_cut [5] (λov wx=>∃M:List (Int×Int×Int),M.length<=L.length+1/\wx.ownsRow F.heap.size 344 3 ov M.length (Ie M)/\Af (M=L++Hw f n q x y)/\Bw F wx)
   case first=>
    by_cases ht:A<B
    . go_wp2_with (at_builtin;refine wpList_append_own _ rfl _ _ 341 rfl F.heap.size 344 i0 (.agg #[Bn 0,Bn 0,Bn 0]) 3 24 underlying341 hi a0 a1 a2 rfl (by decide) _ _ _ rfl (j.alloc _) (aD wd.heap.size 0) 1 1 [Bn A,Bn B,Bn q] rfl rfl ?c1 ?c2 ?c3 ?c4 ?c5 ?_)
      case c1=>exact Hh wd [Bn A,Bn B,Bn q] 344
      case c2=>intro u hu;simp at hu;rcases hu with rfl|rfl|rfl <;> rfl
      case c3=>unfold maxLen;omega
      case c4=>omega
      case c5=>have:=m.size;simp;omega
      intro v' w1 N P _;have d:=Ld (e':=344) m rfl j P;go_wp2;go_meet;exact⟨L++ [(A,B,q)],by simp,by rw[mR];simpa using N,I (by rw[K.1,iP ht]),d⟩
    go_wp2;go_meet;exact⟨L,by omega,j,I (by rw[K.1,iN (by omega),List.append_nil]),m⟩
   obtain⟨M,hM,z,a5,d⟩:=hcut;replace E:=I (a5.1 ▸ E.1);have⟨V,X,Y,Z⟩:=I (Q.below d) |>.1;by_cases c:k<l.length
   . obtain⟨b,H,rfl,hb,hc⟩:=T.resolve_left (λh=>by simp[h]at c);have a4:=(d.cell (p:=aD b (H+k*2+1)) hb).trans (hc k c).2;go_wp2;go_quiet (fail);go_wp2;go_roundw;exact⟨k+1,_,_,_,M,by omega,by omega,by go_num,rfl,rfl,rfl,(show(wc.drewN nq).ownsRow _ _ _ _ _ _ from z),I (E.1.trans (by rw[iP c,D.1,iP c])),dN d _⟩;simp[intOf]<;>omega
   go_wp2;go_roundw;exact⟨k+1,_,_,_,M,by omega,by omega,by go_num,rfl,rfl,rfl,z,I (E.1.trans (by rw[iN c,wH (by omega)])),d⟩;simp[intOf]<;>omega
 have S:=I (t.1.trans (by rw[wH a3,List.append_nil]));go_wp2;go_ret;refine⟨_,rfl,?_,Ab G g⟩;rw[S.1];exact pQ r G.size
theorem KI(L:List (Int×Int×Int)):∀k,k<L.length->(Ie L)[k*3]?=some (Bn (Ki L k).1)/\(Ie L)[k*3+1]?=some (Bn (Ki L k).2.1)/\(Ie L)[k*3+2]?=some (Bn (Ki L k).2.2):=by
 induction L with
 |nil=>simp_all
 |cons g L ih=>
  intro k h;cases k with
  |zero=>simp[Ie,Ki]
  |succ k=>
   have:=ih k (by simpa using h);have e:Ie (g::L)= [Bn g.1,Bn g.2.1,Bn g.2.2]++Ie L:=by simp[Ie]
   have a:Ki (g::L) (k+1)=Ki L k:=by simp[Ki]
   grind
def kO(w:Wd)(g:Nat)(L:List (Int×Int×Int)):Prop:=
 g<w.heap.size/\∀k,k<L.length->w.cell? (aD g (k*3))=some (Bn (Ki L k).1)/\w.cell? (aD g (k*3+1))=some (Bn (Ki L k).2.1)/\w.cell? (aD g (k*3+2))=some (Bn (Ki L k).2.2)
theorem gL(g j:Nat):Addr.add (aD g 0) j=(aD g j):=by
 grind[Addr.add]
def kO.below{g:Nat}(h:kO w g L)(a:Bw w w'):kO w' g L:=
 ⟨As h.1 a.size,λk hk=>⟨(a.cell (p:=aD g (k*3)) h.1).trans (h.2 k hk).1,(a.cell (p:=aD g (k*3+1)) h.1).trans (h.2 k hk).2.1,(a.cell (p:=aD g (k*3+2)) h.1).trans (h.2 k hk).2.2⟩⟩
theorem KH(h:w.ownsRow c 344 3 v L.length (Ie L)):
 (v=Ls/\L= [])\/∃g b,v=Kx g 0 L.length b/\kO w g L:=by
 rcases h.2 with⟨d,m⟩|⟨g,b,n,d,r⟩;exact .inl ⟨d,List.length_eq_zero_iff.1 m⟩;have a:v.ownBlock=some g:=by rw[d];rfl
 have e:=(h.lt g a).2;have f:=h.cells a;refine .inr ⟨g,b,d,e,λk hk=>?_⟩;simp_all[KI,gL]
def Sh{c b k:Wd}{l:LV}(h:b.ownsRow c.heap.size e a v n l)(_hb:Bw c b)(d:Bw b k):k.ownsRow c.heap.size e a v n l:=by
 refine⟨h.1,?_⟩;rcases h.2 with o|⟨g,f,i,m,p,q,r⟩;exact .inl o;have j:g<b.heap.size:=(h.lt g (by rw[m];rfl)).2;exact .inr ⟨g,f,i,m,p,(d.block g j).trans q,r⟩
def Xv:(prog.info? 186).map (λi=>(i.zero,i.size,i.bytes))=some (some (.agg #[Bn 0,Bn 0]),2,16):=by kernel_rfl
def Iq(R:List (Int×Int)):LV:=R.flatMap λr=> [Bn r.1,Bn r.2]
def IY(R:List (Int×Int))(a b:Int):Iq (R++ [(a,b)])=Iq R++ [Bn a,Bn b]:=by simp[Iq]
theorem uU(R:List (Int×Int)):∀k,k<R.length->(Iq R)[k*2]?=some (Bn (Cs R k).1)/\(Iq R)[k*2+1]?=some (Bn (Cs R k).2):=by
 induction R with
 |nil=>simp_all
 |cons r R ih=>
  intro k h;cases k<;>grind[Iq,Cs]
theorem JN(R:List (Int×Int))(b:Int):∀k,k<R.length->(Iq R).set (k*2+1) (Bn b)=Iq (R.set k ((Cs R k).1,b)):=by
 induction R with
 |nil=>simp_all
 |cons r R ih=>
  intro k h;cases k<;>grind[Iq,Cs]
theorem kL{f:LV}{c:Array Value}(h:w.ownsRow a 186 2 v n f)(i:w.heap[b]?=some (.cells c 344)):some b≠v.ownBlock:=by
 rcases h.2 with⟨rfl,_⟩|⟨g,j,k,rfl,l,d,_⟩;all_goals grind[Value.ownBlock]
def Oj{c:Array Value}(b:w.heap[a]?=some (.cells c 344))(i:Nat):w.cell? (aD a i)=c[i]?:=by
 simp[World.cell?,b]
def BS(b:w.heap[a]?=some o):a<w.heap.size:=(Array.getElem?_eq_some_iff.1 b).1
def hY{a:Option Nat}(d:w.heap[b]?=some o)(e:w.grownBy w' a)(c:some b≠a):w'.heap[b]?=some o:=
 (e.block b (BS d) c).trans d
def oC(b:w.heap[a]?=some o)(o':Obj):(w.alloc o').heap[a]?=some o:=(Below.heap_alloc _ _ _ (BS b)).trans b
theorem xO{T:TypeId}{s:Nat}{b:LV}(c:w.ownsRow B T s v n b):∃ua uc,v=CU ua n uc:=by
 rcases c.2 with⟨rfl,e⟩|⟨g,a,d,rfl,_⟩;all_goals simp_all
def tR(s:BA)(o x y f p:Int)(l:List (Int×Int))(a:Ae)(cap:Nat)(w:Wd)(hl:l.length<=1000000)(ha:Cj w a l)(hv:zG s.data.toList o l=0)(c9:0<=f/\f<1440)(d0:0<=p/\p<1440):
 Calls prog 229 #[.agg #[B_ s,o,CU a l.length cap],.agg #[x,y],f,p] w λe w'=>
  ∃v,e=.returned (.tuple #[v,(Ga f p)])/\w'.ownsRow w.heap.size 186 2 v (Ly o l x y f p).length (Iq (Ly o l x y f p))/\Bw w w':=by
 have hA:=I (λW (h:Bw w W)=>ha.below h);have a9:=I (xL l 0 o x y (kA hv) (Int.le_refl _) (Ue hv).2.1);have f1:=OU l 0 o x y;clear ha hv;obtain⟨f6,f7⟩:=c9;obtain⟨f8,f9⟩:=d0;have⟨i0,hi,d1,d2,d3⟩:=info_parts Xv;by_cases h0:Ga f p=0
 . have hz:Af (Ly o l x y f p= []):=I (iP h0);have d4:=I h0;have b0:((p-f+1440)%1440==0)=true:=by simpa[Ga] using h0
   clear h0;go_in;go_wp2;go_ret2;exact⟨_,by rw[d4.1];rfl,by rw[hz.1];exact⟨rfl,.inl ⟨rfl,rfl⟩⟩,Ab (J _ _) (J _ _)⟩
 have hz:Af (Ly o l x y f p=Qm f (Ga f p) (Fl 0 o l x y) []):=I (iN h0);have b0:((p-f+1440)%1440==0)=false:=by simpa[Ga] using h0
 have f2:0<Ga f p:=by unfold Ga at*;omega
 have f3:Ga f p<1440:=by unfold Ga;omega
 clear h0;go_in;go_wp2_with fail;rw[show(p-f+1440)%1440=Ga f p from rfl];clear b0;generalize hlne:Ga f p=P at*;have b1:=I hlne;clear hlne;have⟨zb,sb,a4⟩:=Ss w s o a l.length cap x y;generalize ((w.alloc (oZ s o a l.length cap)).alloc (oQ x y))=W at*;refine(JL s o x y l a cap _ hl (hA.1 _ a4)).mono ?_;rintro e S ⟨v,rfl,n,C⟩;have a5:=Ab a4 C;clear C a4 zb sb;generalize Fl 0 o l x y=L at*;rcases KH n with⟨rfl,rfl⟩|⟨g,f4,rfl,a2⟩
 . clear n;go_wp2_with fail;go_loop [11,34] (λm i=>m=Ls/\i=Bn 0) (λ_ _=>0);exact⟨rfl,rfl⟩;obtain⟨rfl,rfl⟩:=hrel;go_wp2;go_ret2;exact⟨_,by rw[b1.1];rfl,by rw[hz.1];exact⟨rfl,.inl ⟨rfl,rfl⟩⟩,a5⟩
 clear n;go_wp2_with fail;go_loopw [11,34] (λout i wr=>∃(k:Nat) (v:Value) (R:List (Int×Int)),k<=L.length/\R.length<=k*40000/\i=Bn k/\out=v/\
  wr.ownsRow S.heap.size 186 2 v R.length (Iq R)/\Af (Qm f P L []=Qm f P (L.drop k) R)/\Bw S wr) (λ_ i _=>L.length-(intOf i).toNat)
 exact⟨0,_, [],Bg _,Bv _,rfl,rfl,⟨rfl,.inl ⟨rfl,rfl⟩⟩,I rfl,An _ _⟩;obtain⟨k,v,R,hk,hR,rfl,rfl,n,a3,r⟩:=hrel;by_cases T:k<L.length
 . have⟨c1,c2,c3⟩:=(a2.below r).2 k T;have g0:=(a2.below r).1;have⟨s1,s2,s3,s4,s5⟩:=a9.1 _ (wK L k T);have⟨e1,e2,e3,e4,e5⟩:=wJ (a9.1 _ (wK L k T));have d5:=I (a3.1.trans (KB T));have E3:=I e3;clear e3;go_wp2_with (go_at_call 155;refine cb (kB _ _ (by omega) (by omega)) ?_);generalize hwb:wr.alloc (Obj.cells #[Bn (Ki L k).1,Bn (Ki L k).2.1,Bn (Ki L k).2.2] 344)=wb;have b2:Bw wr wb:=by rw[<-hwb];exact J _ _
   have b3:wb.heap[wr.heap.size]?=some (.cells #[Bn (Ki L k).1,Bn (Ki L k).2.1,Bn (Ki L k).2.2] 344):=by rw[<-hwb];exact zh _ _
   have a6:=r.trans (b2.mono r.size);have a7:wb.ownsRow S.heap.size 186 2 u11 R.length (Iq R):=by rw[<-hwb];exact n.alloc _
   clear hwb c1 c2 c3 n b2;generalize hg:Ki L k=G at*;rw[show(G.1+G.2.2)/1440-1=zR G from rfl];generalize hlast:(G.2.1-1+G.2.2)/1440=D at*;have Hg:=I hg;have d6:=I hlast;clear hg hlast;generalize hN:segN G=N at*;have HN:=I hN;clear hN;have d7:Af (Zg G f P R=Tj G f P N (zR G) R):=I (by unfold Zg;rw[HN.1]);have e3:=E3.1;have e6:(N:Int)<=D-zR G+1:=by omega
   have e7:D-zR G+1<=(N:Int):=by omega
   clear e3;generalize wr.heap.size=bx at*;go_loopw [11,18] (λout d wi=>∃(j:Nat) (v:Value) (Q:List (Int×Int)),j<=N/\Q.length<=k*40000+j/\d=Bn (zR G+j)/\out=v/\
    wi.ownsRow S.heap.size 186 2 v Q.length (Iq Q)/\Af (Zg G f P R=Tj G f P (N-j) (zR G+j) Q)/\wi.heap[bx]?=some (.cells #[G.1,G.2.1,G.2.2] 344)/\Bw S wi) (λ_ d _=>(D+1-intOf d).toNat)
   exact⟨0,_,R,Bg _,by omega,by simp,rfl,a7,I (by simpa using d7.1),b3,a6⟩;obtain⟨j,v,Q,hj,hQ,rfl,rfl,E,F,U,a0⟩:=hrel;by_cases g1:j<N
   . have E1:Af (N-j-1=N-(j+1)/\zR G+(j:Int)+1=zR G+((j+1:Nat):Int)):=I (by omega);have b4:=I (F.1.trans (zln (by omega)));have p1:=Oj U 0;have p2:=Oj U 1;have p3:=Oj U 2;simp only[List.getElem?_toArray,List.getElem?_cons_zero,List.getElem?_cons_succ]at p1 p2 p3;go_wp2;go_quiet (fail);have t:Bw S (wr.drewN nq):=dN a0 _;have z:(wr.drewN nq).heap[bx]?=_:=U;have c:(wr.drewN nq).ownsRow S.heap.size 186 2 u11 Q.length (Iq Q):=E;simp only[show(if(zR G+(j:Int))*1440+f-G.2.2<G.1 then G.1 else(zR G+(j:Int))*1440+f-G.2.2)=Kv G f (zR G+j) from rfl,show(if G.2.1<(zR G+(j:Int))*1440+f-G.2.2+P then G.2.1 else(zR G+(j:Int))*1440+f-G.2.2+P)=Lx G f P (zR G+j) from rfl];have b5:Af (Pv G f P (zR G+j) Q=if Kv G f (zR G+j)<Lx G f P (zR G+j) then Ow Q (Kv G f (zR G+j)) (Lx G f P (zR G+j)) else Q):=I rfl;generalize Kv G f (zR G+j)=A at*;generalize Lx G f P (zR G+j)=B at*;generalize wr.drewN nq=wd at*;clear p1 p2 p3 E a0 U F;by_cases b6:A<B
     . have b7:=I (b4.1.trans (by rw[b5.1,iP b6]));obtain⟨ga,gc,rfl⟩:=xO c;obtain⟨b,hb⟩:∃b,Af (b=decide (0<Q.length/\(Cs Q (Q.length-1)).2=A)):=⟨_,I rfl⟩;go_upto_region 17 with fail;go_cut [97] (λv wx=>v=.bool b/\wd=wx)
       case first=>
        by_cases V:Q.length=0
        . have hq:=I V;have hd:decide (0<Q.length)=false:=by simp[V]
          clear V;go_wp2;go_meet;exact⟨by rw[hb.1];simp[hq.1],rfl⟩
        obtain⟨m,hm⟩:∃m,Q.length=m+1:=⟨Q.length-1,by omega⟩;rcases c.2 with⟨e,b8⟩|⟨g',b9,d8,e,-⟩;exact aB b8 V;cases e;have X:=uU Q m (by omega);have H:=(World.ownsRow.cells c (g:=g') rfl) (m*2+1) _ X.2;rw[gL]at H;have C:=I (show b=((Cs Q m).2==A) by rw[hb.1,hm];simp;rfl);have hd:decide (0<Q.length)=true:=by simp;omega
        have g2:m<Q.length:=by omega
        have g3:(Q.length:Int)-1=m:=by omega
        clear X hm V hb;go_wp2;go_meet;exact⟨by rw[C.1],rfl⟩
       obtain⟨rfl,rfl⟩:=hcut;cases b
       . have C:=hb.1;have Y:=I (b7.1.trans (by rw[Vr (λh=>by simp[h]at C)]));clear C;go_wp2_with (at_builtin;refine wpList_append_own _ rfl _ _ 318 rfl S.heap.size 186 i0 (.agg #[Bn 0,Bn 0]) 2 16 underlying318 hi d1 d2 d3 rfl (by decide) _ _ _ rfl (c.alloc _) (aD wd.heap.size 0) 1 1 [Bn A,Bn B] rfl rfl ?c1 ?c2 ?c3 ?c4 ?c5 ?_)
         case c1=>exact Hh wd [Bn A,Bn B] 186
         case c2=>intro u hu;simp at hu;rcases hu with rfl|rfl <;> rfl
         case c3=>unfold maxLen;omega
         case c4=>omega
         case c5=>have:=t.size;simp;omega
         intro v' w3 a8 Z _;have K:=Ld (e':=186) t rfl c Z;have M:=hY (oC z _) Z (kL c z);go_wp2;go_roundw;exact⟨j+1,_,Q++ [(A,B)],by omega,by rw[Gh,List.length_singleton];omega,by go_num,rfl,by rw[Gh,List.length_singleton,IY];exact a8,I (by rw[Y.1,E1.1.1,E1.1.2]),M,K⟩;simp[intOf];omega
       have⟨c0,c6⟩:=of_decide_eq_true hb.1.symm;obtain⟨m,hm⟩:∃m,Q.length=m+1:=⟨Q.length-1,by omega⟩;rcases c.2 with⟨e,b8⟩|⟨g',b9,d8,e,-⟩;omega;cases e;have Y:=I (b7.1.trans (by rw[Vm c0 c6,hm,Nat.add_sub_cancel]));have c7:=I (JN Q B m (by omega));have X:=uU Q m (by omega);have H:=(World.ownsRow.cells c (g:=g') rfl) (m*2+1) _ X.2;rw[gL]at H;have f5:=World.ownsRow.frozenAt c (m*2+1);have Hm:=I hm;rw[hm]at c hQ;clear X hm c0 c6 hb;simp only[Hm.1];go_wp2_with fail;have a1:=c.stored (m*2+1) (Bn B);rw[c7.1]at a1;have K:=t.grown a1.2 t.size (λq hq=>Lt c q hq);have M:=hY z a1.2 (kL c z);go_roundw;exact⟨j+1,_,Q.set m ((Cs Q m).1,B),by omega,by rw[List.length_set,Hm.1];omega,by go_num,rfl,by rw[List.length_set,Hm.1];exact a1.1,I (by rw[Y.1,E1.1.1,E1.1.2]),M,K⟩;simp[intOf];omega
     have Y:=I (b4.1.trans (by rw[b5.1,iN b6]));go_wp2;go_roundw;exact⟨j+1,_,Q,by omega,by omega,by go_num,rfl,c,I (by rw[Y.1,E1.1.1,E1.1.2]),z,t⟩;simp[intOf];omega
   have d9:=a0;have f0:j=N:=by omega
   have c8:=I (F.1.trans (by rw[f0,Nat.sub_self,Tj]));go_wp2;go_roundw;exact⟨k+1,_,Q,by omega,by omega,by go_num,rfl,E,I (by rw[d5.1,c8.1]),a0⟩;simp[intOf];omega
 have hf:=I (a3.1.trans (LE T));go_wp2;go_ret2;refine⟨_,by rw[b1.1];rfl,?_,Ab a5 r⟩;rw[hz.1,hf.1];exact pQ n a5.size
def za4:LB:= [⟨#[98,101,102,111,114,101,46]⟩,⟨#[97,102,116,101,114,46]⟩]
def Ml:LB:= [⟨#[114,101,115,116]⟩,⟨#[110,105,103,104,116,115]⟩,⟨#[104,111,109,101]⟩]
def Lq(k:Nat):LB:=Ml++(za4.take k).flatMap λp=>zI.map (p++·)
def Eg(k j:Nat):LB:=Lq k++(zI.take j).map (Bl za4 k++·)
def oM(k:Nat):Eg k 0=Lq k:=by simp[Eg]
def oU(k j:Nat)(a:j<11):Eg k (j+1)=Eg k j++ [Bl za4 k++Bl zI j]:=by
 have:zI.take (j+1)=zI.take j++ [Bl zI j]:=by
  rw[tS (show j<zI.length from a)];simp[Bl,show j<zI.length from a]
 simp[Eg,this]
def pO(k:Nat)(a:k<2):Eg k 11=Lq (k+1):=by
 match k,a with
 |0,_=>rfl
 |1,_=>rfl
theorem pN(k j:Nat)(b:k<2)(c:j<=11):(Eg k j).length=3+11*k+j:=by
 have a:zI.length=11:=rfl;match k,b with
 |0,_=>grind[Eg,Lq,Ml]
 |1,_=>grind[Eg,Lq,Ml,za4]
def gW(k j:Nat):((Eg k j).map Value.string)[0]?=some (B_ ⟨#[114,101,115,116]⟩):=rfl
def jZ{j:LV}(h:w.ownsRow a e 1 v n j){x y:Value}(c:j[0]?=some x)(d:w.cell? (aD b 0)=some y)(f:x≠y):v.ownBlock≠some b:=by
 rcases h.2 with⟨rfl,_⟩|⟨g,l,i,rfl,_,m,_,_,_,o⟩;simp[Value.ownBlock];intro k;simp[Value.ownBlock]at k;subst k;have:i[0]?=some x:=by
  rw[<-o]at c;rw[List.getElem?_take]at c;split at c;simpa using c;simp at c
 simp[World.cell?,m]at d;rw[this]at d;exact f (by simpa using d)
theorem Gy.grown{c:Option Nat}(h:Gy w b a l)(f:b<w.heap.size)(g:w.grownBy w' c)(d:c≠some b):Gy w' b a l:=by
 intro i j;have e:=g.block b f (Ne.symm d);have:=h i j;grind[World.cell?]
def SW:∀k,k<2->(Bl za4 k).size<=7:=by decide
def nX:∀k,k<11->(Bl zI k).size<=8:=by decide
def yG:(prog.info? 9).map (λi=>(i.zero,i.size,i.bytes))=some (some (B_ ByteArray.empty),1,16):=by kernel_rfl
def tA(w:Wd):Calls prog 91 #[Bn 2] w λe w'=>∃v,e=.returned v/\w'.ownsRow w.heap.size 9 1 v 25 (Rb.map Value.string)/\Bw w w':=by
 have⟨Z,hi,N,P,Q⟩:=info_parts yG;go_in;go_wp2_with fail;have⟨W,R⟩:=aT ((w.alloc (.cells (Ml.map Value.string).toArray 9)).alloc (.cells (za4.map Value.string).toArray 9));have p:=I (show World.ownsRow ((w.alloc (.cells (Ml.map Value.string).toArray 9)).alloc (.cells (za4.map Value.string).toArray 9)) w.heap.size 9 1 (Kx w.heap.size 0 3 3) 3 ((Lq 0).map Value.string) from by
  refine⟨rfl,.inr ⟨w.heap.size,3,(Ml.map Value.string).toArray,rfl,Bv _,?_,Bv _,by decide,rfl,rfl⟩⟩;show((w.heap.push _).push _)[w.heap.size]?=_
  simp[Array.getElem?_push])
 have q:=I (Gy.new (w.alloc (.cells (Ml.map Value.string).toArray 9)) za4 9);have x:=I (Ab (J w (.cells (Ml.map Value.string).toArray 9)) (J _ (.cells (za4.map Value.string).toArray 9)));have y:w.heap.size+1<((w.alloc (.cells (Ml.map Value.string).toArray 9)).alloc (.cells (za4.map Value.string).toArray 9)).heap.size:=by simp
 rw[show(w.alloc (.cells (Ml.map Value.string).toArray 9)).heap.size=w.heap.size+1 from by simp]at q;rw[<-R]at p q x y;change Code.wp _ _ _ _ ((w.alloc (.cells (Ml.map Value.string).toArray 9)).alloc (.cells (za4.map Value.string).toArray 9));rw[<-R];clear R;go_loopw [3,17] (λout i wr=>∃(k:Nat) (v:Value),k<=2/\i=Bn k/\out=v/\Af (wr.ownsRow w.heap.size 9 1 v (Lq k).length ((Lq k).map Value.string))/\Af (Gy wr (w.heap.size+1) 0 za4)/\w.heap.size+1<wr.heap.size/\Af (Bw w wr)) (λ_ i _=>2-(intOf i).toNat);exact⟨0,_,Bg _,rfl,rfl,p,q,y,x⟩;clear p q x y;clear W;obtain⟨k,v,hk,rfl,rfl,d,o,y,l⟩:=hrel;by_cases m:k<2
 . have c1:=o.1 k m;rw[Nat.zero_add]at c1;have V:(k:Int)<2:=by omega
   go_wp2_with fail;refine(mU _).mono ?_;rintro e r ⟨⟨cp,rfl⟩,c,s,n⟩;have S:=I s;have q:=I (o.1.below y n);have x:=I (Ab l.1 n);have p:=I (Sh d.1 l.1 n);rw[<-oM k]at p;have f:w.heap.size+1<r.heap.size:=by omega
   clear s n d o l c1;have⟨b,T⟩:=aT wr.heap.size;rw[<-T]at c S y;simp only[<-T];clear T;clear wr;go_wp2_with fail;go_loopw [3,23] (λout i wr=>∃(j:Nat) (v:Value),j<=11/\i=Bn j/\out=v/\Af (wr.ownsRow w.heap.size 9 1 v (Eg k j).length ((Eg k j).map Value.string))/\Af (Gy wr (w.heap.size+1) 0 za4)/\Af (Gy wr b 0 zI)/\(w.heap.size+1<wr.heap.size/\b<wr.heap.size)/\Af (Bw w wr)) (λ_ i _=>11-(intOf i).toNat);exact⟨0,_,Bg _,rfl,rfl,p,q,S,⟨f,c⟩,x⟩;clear p q S f c x;clear r;obtain⟨j,v,hj,rfl,rfl,d,o,s,⟨c,f⟩,l⟩:=hrel;by_cases t:j<11
   . have c1:=s.1 j t;rw[Nat.zero_add]at c1;have X:(j:Int)<11:=by omega
     have z:=jZ d.1 (gW k j) (s.1 0 (by decide)) (by simp[Bl,zI]);have A:=jZ d.1 (gW k j) (o.1 0 (by decide)) (by simp[Bl,za4]);have g:=I (pN k j m hj);have B:(Bl za4 k).size<=7:=SW k m;have C:(Bl zI j).size<=8:=nX j t;have D:((Bl za4 k).size:Int)+((Bl zI j).size:Int)<=9223372036854775807:=by omega
     have E:(Bl za4 k).size+(Bl zI j).size<=9223372036854775807:=by omega
     go_wp2_with (at_builtin;refine wpList_append_own _ rfl _ _ 36 rfl w.heap.size 9 Z (B_ ByteArray.empty) 1 16 underlying36 hi N P Q rfl (by decide) _ _ _ rfl (d.1.alloc _) (aD wr.heap.size 0) 1 1 [B_ (Bl za4 k++Bl zI j)] rfl rfl ?c1 ?c2 ?c3 ?c4 ?c5 ?_)
     case c1=>exact Hh wr [B_ (Bl za4 k++Bl zI j)] 9
     case c2=>intro u Y;simp at Y;subst Y;rfl
     case c3=>rw[g.1];unfold maxLen;omega
     case c4=>rw[g.1];omega
     case c5=>have:=l.1.size;simp;omega
     intro v' r h a _;have F:=I (Ld (e':=9) l.1 rfl d.1 a);have G:=I ((o.1.below c (J _ _)).grown (by simp;omega) a A);have H:=I ((s.1.below f (J _ _)).grown (by simp;omega) a z);have U:wr.heap.size<=r.heap.size:=Bf (by simp) a.size;have K:w.heap.size+1<r.heap.size:=by omega
     have L:b<r.heap.size:=by omega
     have M:=I (show r.ownsRow w.heap.size 9 1 v' (Eg k (j+1)).length ((Eg k (j+1)).map Value.string) by
      rw[oU k j t,Gh,Ii];exact h)
     clear h a z A g B C D E d o s l c f U c1;go_wp2;go_roundw;(try((repeat apply eX);refine⟨?_,rfl⟩));exact⟨j+1,_,by omega,by go_num,rfl,M,G,H,⟨K,L⟩,F⟩;simp[intOf];omega
   obtain rfl:j=11:=by omega
   rw[pO k m]at d;go_wp2;go_roundw;exact⟨k+1,_,by omega,by go_num,rfl,d,o,c,l⟩;simp[intOf];omega
 obtain rfl:k=2:=by omega
 go_wp2;go_ret;exact⟨_,rfl,d.1,l.1⟩
def wi(l:LB)(s:BA):Option Nat:=l.findIdx? λx=>decide (x=s)
def Qd(k:Int)(s:BA):Option Nat:=wi (zk k) s
mutual
def Bj(cv:BA->Int)(sc:Int):zH->zE
 | .mk o n s l=>if o=1\/o=2\/o=3 then .mk 1 n [] else if o=4 then .mk 1 1 [] else if o=5 then .mk 1 0 []
  else if o=6 then(match Qd sc s with|some i=>.mk 6 i []|none=>.mk 1 (cv s) []) else .mk o 0 (Ce cv sc l)
def Ce(cv:BA->Int)(sc:Int):List zH->List zE
 |[]=> []
 |x::l=>Bj cv sc x::Ce cv sc l
end
def aO(a:BA->Int)(b:Int):∀l,(Ce a b l).length=l.length
 |[]=>rfl
 |x::l=>by rw[Ce,List.length_cons,List.length_cons,aO a b l]
def nG(a:BA->Int)(b:Int):∀(l:List zH) (k:Nat),k<l.length->Ce a b (l.take (k+1))=Ce a b (l.take k)++ [Bj a b (Au l k)]
 |[],k,h=>by simp at h
 |x::l,0,h=>by simp[Ce,Au]
 |x::l,k+1,h=>by
  have:=nG a b l k (by simpa using h);simp only[List.take_succ_cons,Ce,List.cons_append]at this ⊢;rw[this];rfl
def fP(l:List zB)(T:LI)(s:BA):Int:=match fi l s with
 |some i=>T.getD i 0
 |none=>0
def Es(l:List zB):Nat->LI
 |0=> []
 |i+1=>Es l i++ [Aw [] (Bj (fP l (Es l i)) 0 (Ak l i).ex)]
def Dm(l:List zB)(i:Nat):Int:=Aw [] (Bj (fP l (Es l i)) 0 (Ak l i).ex)
def Ec(l:List zB)(n:Nat)(s:BA):Int:=match fi l s with
 |some i=>if i<n then Dm l i else 0
 |none=>0
theorem Uf(l:List zB)(n:Nat):(Es l n).length=n:=by
 induction n<;>simp_all[Es]
theorem yF(l:List zB)(n i:Nat):(Es l n).getD i 0=if i<n then Dm l i else 0:=by
 by_cases h:i<n;rw[iP h];induction n with
 |zero=>omega
 |succ n ih=>
  grind[Es,Uf,Dm]
 grind[Uf]
theorem Xf(l:List zB)(n:Nat):fP l (Es l n)=Ec l n:=by
 grind[fP,Ec,yF]
theorem qJ(l:List zB)(i:Nat):Dm l i=Aw [] (Bj (Ec l i) 0 (Ak l i).ex):=by rw[Dm,Xf]
def Gz(w:Wd)(b:Nat)(l:LB):Prop:=∃M,Dl prog w b .string M/\∀s,Bz M (.string s)=(wi l s).map λi=>Value.int .i64 i
def Gz.below(h:Gz w b l)(a:Bw w w'):Gz w' b l:=by
 obtain⟨M,c,d⟩:=h;exact⟨M,c.below a,d⟩
def Gz.grown{a:Option Nat}(h:Gz w b l)(d:w.grownBy w' a)(c:some b≠a):Gz w' b l:=by
 obtain⟨M,e,f⟩:=h;exact⟨M,e.grown d c,f⟩
def Gz.lt(h:Gz w b l):b<w.heap.size:=by
 obtain⟨M,a,c⟩:=h;exact a.lt
def fU(l:LB)(s:BA):Nat:=(wi l s).getD 0
def aJ(l:LB)(s:BA):Bool:=(wi l s).isSome
def TW(h:Gz w b l)(s:BA):(Instr.lookup 246 (.map (some b)) (B_ s) true).run prog w=.ok (.tuple #[(fU l s),.bool (aJ l s)]) w:=by
 obtain⟨M,a,c⟩:=h;rw[dW underlying246 underlying9 a (key:=B_ s) trivial (iS _),c];unfold fU aJ;cases wi l s <;> rfl
theorem UJ(a:k<l.length)(s:BA):wi (l.take (k+1)) s=match wi (l.take k) s with|some i=>some i|none=>if Bl l k=s then some k else none:=by
 have e:l.take (k+1)=l.take k++ [Bl l k]:=by
  rw[tS a,Bl,Cr,Cz a];rfl
 grind[wi]
def Qb(l:LB):Bool:=(List.range l.length).all λj=>(wi (l.take j) (Bl l j)).isNone
theorem TP(h:Qb l=true)(a:k<l.length):wi (l.take k) (Bl l k)=none:=by
 have:=List.all_eq_true.1 h k (List.mem_range.2 a);simp_all
def OK:Qb zI=true:=by decide+kernel
def OI:Qb Rb=true:=by decide+kernel
def OJ:Qb Uh=true:=by decide+kernel
def OM(k:Int):Qb (zk k)=true:=by
 unfold zk;split;exact OK;split;exact OI;split;exact OJ;rfl
theorem Yh(h:Gz w b (l.take k))(c:k<l.length)(d:Qb l=true):
 ∃a,(Instr.mapUpdate 246 (.map (some b)) (B_ (Bl l k)) (Bn k)).run prog w=.ok () a/\Gz a b (l.take (k+1))/\w.grownBy a (some b):=by
 obtain⟨M,f,g⟩:=h;have⟨a,j,m,n⟩:=aP underlying246 underlying9 f (key:=B_ (Bl l k)) (Bn k) trivial;refine⟨a,j,⟨_,m,λs=>?_⟩,n⟩;grind[fY,UJ,TP]
def Nb(w:Wd)(b:Nat)(l:List zB):Prop:=∃M,Dl prog w b (.int .i64) M/\∀(i:Nat) v,Bz M (Bn i)=some v->v=Bn (Dm l i)
def Nb.below{l:List zB}(h:Nb w b l)(a:Bw w w'):Nb w' b l:=by
 obtain⟨M,c,d⟩:=h;exact⟨M,c.below a,d⟩
def Nb.grown{l:List zB}{a:Option Nat}(h:Nb w b l)(d:w.grownBy w' a)(c:some b≠a):Nb w' b l:=by
 obtain⟨M,e,f⟩:=h;exact⟨M,e.grown d c,f⟩
def Nb.lt{l:List zB}(h:Nb w b l):b<w.heap.size:=by
 obtain⟨M,a,c⟩:=h;exact a.lt
theorem RM{l:List zB}(h:Nb w b l)(i:Nat):(Instr.lookup 247 (.map (some b)) (Bn i) true).run prog w=.ok (.tuple #[(Dm l i),.bool true]) w\/(Instr.lookup 247 (.map (some b)) (Bn i) true).run prog w=.ok (.tuple #[Bn 0,.bool false]) w:=by
 obtain⟨M,c,d⟩:=h;have e:=dW underlying247 underlying3 c (key:=Bn i) rfl (iS _);cases a:Bz M (Bn i)<;>grind
theorem TM{l:List zB}(h:Nb w b l)(i:Nat):
 ∃a,(Instr.mapUpdate 247 (.map (some b)) (Bn i) (Bn (Dm l i))).run prog w=.ok () a/\Nb a b l/\w.grownBy a (some b):=by
 obtain⟨M,c,d⟩:=h;have⟨a,f,g,k⟩:=aP underlying247 underlying3 c (key:=Bn i) (Bn (Dm l i)) rfl;refine⟨a,f,⟨_,g,λj v hj=>?_⟩,k⟩;rw[tH M i j _ c.2]at hj;grind
def Jc(v0 v1 v2:Value)(ps:List Nat):Array Value:=(v0::v1::v2::(ps.map (λb=>Value.map (some b))++List.replicate (4-ps.length) (Value.map none))).toArray
def Nj(ps:List Nat)(k:Nat):Nat:=ps.getD k 0
theorem PR(b c d:Value)(a:List Nat)(h:a.length<4):(Jc b c d a)[3+a.length]?=some (Value.map none):=by
 grind[Jc]
theorem BC(b c d:Value)(a:List Nat)(k:Nat)(h:k<a.length):(Jc b c d a)[3+k]?=some (Value.map (some (Nj a k))):=by
 grind[Jc,Nj]
theorem SD(d e f:Value)(a:List Nat)(b:Nat)(h:a.length<4):(Jc d e f a).setIfInBounds (3+a.length) (Value.map (some b))=Jc d e f (a++ [b]):=by
 obtain⟨m,g⟩:∃m,4-a.length=m+1:=⟨4-a.length-1,by omega⟩;have c:4-(a++ [b]).length=m:=by simp;omega
 simp_all[Jc,List.replicate_succ,Nat.add_comm]
structure Ir(B:Nat)(w:Wd)(kp ib vb:Nat)(ps:List Nat)(l:List zB)(a:Ae)(cap:Nat):Prop where
 bp:B<=kp
 bi:B<=ib
 bv:B<=vb
 pv:kp≠vb
 iv:ib≠vb
 plen:ps.length=4
 psv:∀k,k<4->Nj ps k≠vb
 box:w.heap[kp]?=some (.cells (Jc (.slice a l.length cap) (.map (some ib)) (.map (some vb)) ps) 250 (0,0))
 idx:Kw w ib l
 vals:Nb w vb l
 places:∀k:Nat,k<4->Gz w (Nj ps k) (zk k)
 cs:Me B w a l
def Ir.lt{e:List Nat}{l:List zB}{a:Ae}(h:Ir B w b c d e l a cap):b<w.heap.size/\c<w.heap.size/\d<w.heap.size:=⟨Ag h.box,h.idx.lt,h.vals.lt⟩
def Ir.below{e:Nat}{f:List Nat}{l:List zB}{a:Ae}(h:Ir B w c d e f l a cap)(b:Bw w w'):Ir B w' c d e f l a cap where
 bp:=h.bp
 bi:=h.bi
 bv:=h.bv
 pv:=h.pv
 iv:=h.iv
 plen:=h.plen
 psv:=h.psv
 box:=(b.block _ h.lt.1).trans h.box
 idx:=h.idx.below b
 vals:=h.vals.below b
 places:=λk hk=>(h.places k hk).below b
 cs:=h.cs.keep (b.mono (Bf h.bp (Nat.le_of_lt h.lt.1))) (Is.keep (b.mono (Bf h.bp (Nat.le_of_lt h.lt.1))))
def Ir.grown{e:Nat}{l:List zB}{a:Ae}(h:Ir B w e f b g l a cap)(c:w.grownBy w' (some b))(d:Nb w' b l):Ir B w' e f b g l a cap where
 bp:=h.bp
 bi:=h.bi
 bv:=h.bv
 pv:=h.pv
 iv:=h.iv
 plen:=h.plen
 psv:=h.psv
 box:=(c.block _ h.lt.1 (by simpa using h.pv)).trans h.box
 idx:=h.idx.grown c (by simpa using h.iv)
 vals:=d
 places:=λk d=>(h.places k d).grown c (by simpa using h.psv k d)
 cs:=by
  have:Below B w w':=(An B w).grown c (Bf h.bp (Nat.le_of_lt h.lt.1)) (λj hj=>by cases hj;exact h.bv);exact h.cs.keep this (Is.keep this)
def Ir.other{e:Nat}{l:List zB}{a:Ae}{b:Option Nat}(h:Ir B w d e f g l a cap)(c:w.grownBy w' b)(i:∀j,b=some j->B<=j)(m:some d≠b)(n:some e≠b)(o:some f≠b)(p:∀k,k<4->some (Nj g k)≠b):Ir B w' d e f g l a cap where
 bp:=h.bp
 bi:=h.bi
 bv:=h.bv
 pv:=h.pv
 iv:=h.iv
 plen:=h.plen
 psv:=h.psv
 box:=(c.block _ h.lt.1 m).trans h.box
 idx:=h.idx.grown c n
 vals:=h.vals.grown c o
 places:=λk hk=>(h.places k hk).grown c (p k hk)
 cs:=by
  have:Below B w w':=(An B w).grown c (Bf h.bp (Nat.le_of_lt h.lt.1)) i;exact h.cs.keep this (Is.keep this)
def Lz(w:Wd)(a:Ae)(l:LB):Prop:=l= []\/∃b off,a=some (aD b off)/\b<w.heap.size/\Gy w b off l
def Lz.below{a:Ae}(h:Lz w a l)(d:Bw w w'):Lz w' a l:=by
 rcases h with h|⟨b,c,f,e,g⟩;exact .inl h;exact .inr ⟨b,c,f,As e d.size,g.below e d⟩
theorem Lz.cells{a:Ae}(h:Lz w a l)(c:0<l.length):∃b off,a=some (aD b off)/\b<w.heap.size/\Gy w b off l:=by
 rcases h with rfl|h;all_goals grind
theorem Lz.of_own(h:w.ownsRow c e 1 v l.length (l.map Value.string))(r:0<l.length):∃a d,v=CU a l.length d/\Lz w a l/\∃b,a=some (aD b 0)/\c<=b:=by
 rcases h.2 with⟨_,s⟩|⟨g,d,f,rfl,k,j,m,n,o,p⟩;omega;refine⟨_,_,rfl,.inr ⟨g,0,rfl,Ag j,λi hi=>?_⟩,g,rfl,k⟩;have e:(f.toList.take (l.length*1))[i]?=some (B_ (Bl l i)):=by
  rw[p];simp[Bl,hi]
 grind[zm]
def mX(k:Int)(w:Wd)(e:Ending)(w':Wd):Prop:=∃a cap,e=.returned (.slice a (zk k).length cap)/\Lz w' a (zk k)/\Below w.heap.size w w'
def GZ(k:Nat)(h:k<4)(w:Wd):Calls prog 91 #[k] w (mX k w):=by
 obtain rfl|rfl|rfl|rfl:k=0\/k=1\/k=2\/k=3:=by omega
 refine cb (FY w) ?_;exact⟨none,0,rfl,.inl rfl,An _ _⟩;refine(mU w).mono ?_;rintro e g ⟨⟨b,rfl⟩,c,d,f⟩;exact⟨_,b,rfl,.inr ⟨_,0,rfl,c,d⟩,f⟩;refine(tA w).mono ?_;rintro e g ⟨v,rfl,c,d⟩;obtain⟨a,b,rfl,f,_⟩:=Lz.of_own (l:=Rb) c (by decide);exact⟨a,b,rfl,f,d⟩;refine(tB w).mono ?_;rintro e g ⟨⟨b,rfl⟩,c,d,f⟩;exact⟨_,b,rfl,.inr ⟨_,0,rfl,c,d⟩,f⟩
def dZ(k:Int):(zk k).length<=25:=by
 unfold zk;split;decide;split;decide;split <;> decide
theorem Gy.kept(h:Gy w b a l)(f:b<w.heap.size)(g:w.grownBy w' (some c))(d:b≠c):Gy w' b a l:=h.grown f g (by grind)
def Ws(B:Nat)(w:Wd)(l:List zB)(a:Ae)(cap:Nat)(e:Ending)(w':Wd):Prop:=∃kp ib vb ps,e=.returned (.pointer (some (aD kp 0)))/\Ir B w' kp ib vb ps l a cap/\(w.heap.size<=kp/\w.heap.size<=ib/\w.heap.size<=vb/\∀k,k<4->w.heap.size<=Nj ps k)/\Below w.heap.size w w'
theorem yL(a:List Nat)(b:Nat)(k:Nat)(c:k<(a++ [b]).length):Nj (a++ [b]) k=if k<a.length then Nj a k else b:=by
 grind[Nj]
def Ux(w0:Nat)(w:Wd)(ps:List Nat):Prop:=∀k:Nat,k<ps.length->Gz w (Nj ps k) (zk k)/\w0+2<Nj ps k
def Ux.below{b:List Nat}(h:Ux a w b)(c:Bw w w'):Ux a w' b:=λk hk=>⟨(h k hk).1.below c,(h k hk).2⟩
theorem Ux.grown{b:List Nat}(h:Ux d w b)(e:w.grownBy w' (some a))(c:∀k,k<b.length->Nj b k≠a):Ux d w' b:=λk hk=>⟨(h k hk).1.grown e (by simp_all),(h k hk).2⟩
def GG(l:List zB)(a:Ae)(cap:Nat)(w:Wd)(B:Nat)(hB:B<=w.heap.size)(ha:Me B w a l):
 Calls prog 83 #[CU a l.length cap] w (Ws B w l a cap):=by
 have hl:=ha.1;have HA:=I ha;have c8:=BE;have b5:=BF;clear ha;go_in;go_wp2_with fail;have⟨W,S⟩:=aT (((w.alloc (.map #[] 0)).alloc (.map #[] 0)).alloc (Obj.cells #[CU a l.length cap,Value.map (some w.heap.size),Value.map (some (w.heap.size+1)),Value.map none,Value.map none,Value.map none,Value.map none] 250));have HB:=I (Ab (J w (.map #[] 0)) (Ab (J _ (.map #[] 0)) (J _ (Obj.cells #[CU a l.length cap,Value.map (some w.heap.size),Value.map (some (w.heap.size+1)),Value.map none,Value.map none,Value.map none,Value.map none] 250))));have HI:Af (Kw W w.heap.size (l.take 0)):=I ⟨[],by rw[S];exact((Dl.made prog w .string).alloc _).alloc _,λs=>by simp[Bz,fi]⟩;have HK:Af (Nb W (w.heap.size+1) l):=I ⟨[],by rw[S];have:=(Dl.made prog (w.alloc (.map #[] 0)) (.int .i64)).alloc (Obj.cells #[CU a l.length cap,Value.map (some w.heap.size),Value.map (some (w.heap.size+1)),Value.map none,Value.map none,Value.map none,Value.map none] 250);rwa [zr]at this,λi v hv=>by simp[Bz]at hv⟩;have HP:=I (show W.heap[w.heap.size+2]?=some (Obj.cells (Jc (CU a l.length cap) (.map (some w.heap.size)) (.map (some (w.heap.size+1))) []) 250 (0,0)) by rw[S];have:=zh ((w.alloc (.map #[] 0)).alloc (.map #[] 0)) (Obj.cells #[CU a l.length cap,Value.map (some w.heap.size),Value.map (some (w.heap.size+1)),Value.map none,Value.map none,Value.map none,Value.map none] 250);rwa [zr,zr]at this);rw[<-S]at HB;simp only[<-S];clear S b5;go_loopw [18] (λi wr=>∃(k:Nat),k<=l.length/\i=Bn k/\Af (Kw wr w.heap.size (l.take k))/\Af (Nb wr (w.heap.size+1) l)/\Af (wr.heap[w.heap.size+2]?=some (Obj.cells (Jc (CU a l.length cap) (.map (some w.heap.size)) (.map (some (w.heap.size+1))) []) 250 (0,0)))/\Af (Bw w wr)) (λi _=>l.length-(intOf i).toNat);exact⟨0,Bg _,rfl,HI,HK,HP,HB⟩;clear HI HK HP HB W;obtain⟨k,Z,rfl,P,Q,q,d⟩:=hrel;by_cases t:k<l.length
 . have a7:=HA.1;obtain⟨b,y,rfl,hb,D⟩:=a7.cells (by omega);have⟨c0,s1,a2,o,⟨c1,c2,c3,c4⟩,a8,a1⟩:=(D k t).keep (d.1.mono hB) b _ _ hb;have c9:b<wr.heap.size:=by have:=d.1.size;omega
   have a3:=Ag q.1;clear a1 D a8 a7;have z:=I (P.1.below (J wr (oN (Ak l k) a2 o)));have E:=I (Q.1.below (J wr (oN (Ak l k) a2 o)));have r:=I (zd (o':=(oN (Ak l k) a2 o)) q.1);have F:=I (Ab d.1 (J wr (oN (Ak l k) a2 o)));have q0:=I (zh wr (oN (Ak l k) a2 o));go_wp2_with fail;generalize hW1:wr.alloc (oN (Ak l k) a2 o)=R at*;have z1:R.cell? (aD (w.heap.size+2) 1)=some (.map (some w.heap.size)):=zm r.1 rfl;have z2:R.cell? (aD wr.heap.size 0)=some (B_ (Ak l k).name):=zm q0.1 rfl;have zs:=Ag q0.1;have L1:=λn=>iL (w:=R.drewN n) (z.1.below (dN (An _ _) n)) (Ak l k).name;clear hW1 P Q q d c0 c1 c2 c3 c4;go_quiet (fail);have a9:=I (z.1.below (dN (An _ _) nq));have b0:=I (E.1.below (dN (An _ _) nq));have T:=I (((dN (An R.heap.size R) nq).block _ (by omega)).trans r.1);have q2:=I (((dN (An R.heap.size R) nq).block _ zs).trans q0.1);have a4:=I (Ab F.1 (dN (An _ _) nq));clear L1 z1 z2 z E r F q0 zs;generalize R.drewN nq=W2 at*;clear R;cases e1:Px (l.take k) (Ak l k).name
   . go_wp2_with fail;have z1:W2.drew.cell? (aD (w.heap.size+2) 1)=some (.map (some w.heap.size)):=zm T.1 rfl;have z2:W2.drew.cell? (aD wr.heap.size 0)=some (B_ (Ak l k).name):=zm q2.1 rfl;have d0:W2.cell? (aD (w.heap.size+2) 1)=some (.map (some w.heap.size)):=zm T.1 rfl;have d1:W2.cell? (aD wr.heap.size 0)=some (B_ (Ak l k).name):=zm q2.1 rfl;have⟨w3,P1,I3,G⟩:=zpL (w:=W2.drew) (a9.1.below (An _ _).drew) t e1;have x:=I I3;have H:=I ((b0.1.below (An _ _).drew).grown G (by simp));have K:=I ((G.block _ (Ag T.1) (by simp)).trans T.1);have L:=I (a4.1.drew.grown G a4.1.size (by simp));clear I3 G;go_still_tail 7,(by kernel_rfl);change wpList _ _ _ _ _ W2.drew;go_wp2;go_roundw;exact⟨k+1,by omega,by go_num,x,H,K,L⟩;simp[intOf];omega
   have x:=I (yQ a9.1 t e1);go_wp2;go_roundw;exact⟨k+1,by omega,by go_num,x,b0,T,a4⟩;simp[intOf];omega
 obtain rfl:k=l.length:=by omega
 have HI:=I P.1;rw[List.take_length]at HI;clear P Z t;go_wp2_with fail;obtain⟨w0,rfl⟩:∃w0:Wd,w0=wr:=⟨_,rfl⟩;go_loopw [43] (λi wr=>∃(k:Nat) (N:List Nat),k<=4/\i=Bn k/\Af (N.length=k)/\Af (Kw wr w.heap.size l)/\Af (Nb wr (w.heap.size+1) l)/\Af (wr.heap[w.heap.size+2]?=some (Obj.cells (Jc (CU a l.length cap) (.map (some w.heap.size)) (.map (some (w.heap.size+1))) N) 250 (0,0)))/\Af (Ux w.heap.size wr N)/\Af (Bw w wr)) (λi _=>4-(intOf i).toNat);exact⟨0, [],by omega,rfl,I rfl,HI,Q,q,I (λk Z=>by simp at Z),d⟩;clear HI Q q d w0;obtain⟨k,N,Z,rfl,f,P,Q,q,g,d⟩:=hrel;by_cases t:k<4
 . have c5:(k:Int)<4:=by omega
   have d2:(0:Int)<=(k:Int):=by omega
   have a3:=Ag q.1;have z0:wr.cell? (aD (w.heap.size+2) (3+k))=some (.map none):=by have:=PR (CU a l.length cap) (.map (some w.heap.size)) (.map (some (w.heap.size+1))) N (by rw[f.1];exact t);rw[f.1]at this;exact zm q.1 this
   have z1:wr.frozen? (aD (w.heap.size+2) (3+k))=false:=zQ q.1;go_wp2_with fail;have G1:=Lib.grownBy_setCell wr (w.heap.size+2) (3+k) (.map (some wr.heap.size));have C:(wr.setCell (aD (w.heap.size+2) (3+k)) (.map (some wr.heap.size))).heap.size=wr.heap.size:=by simp
   have QP:=zg (i:=3+k) (u:=.map (some wr.heap.size)) q.1;have U:=SD (CU a l.length cap) (.map (some w.heap.size)) (.map (some (w.heap.size+1))) N wr.heap.size (by rw[f.1];exact t);rw[f.1]at U;rw[U]at QP;have⟨ws,b1⟩:=aT (wr.setCell (aD (w.heap.size+2) (3+k)) (.map (some wr.heap.size)));have z:=I ((P.1.grown G1 (by simp)).below (J _ (.map #[] 0)));have E:=I ((Q.1.grown G1 (by simp)).below (J _ (.map #[] 0)));have V:=I ((g.1.grown G1 (λj hj=>by have:=(g.1 j hj).2;omega)).below (J _ (.map #[] 0)));have r:=I (zd (o':=.map #[] 0) QP);have X:=I (Dl.made prog (wr.setCell (aD (w.heap.size+2) (3+k)) (.map (some wr.heap.size))) .string);have F:=I (Below.trans (d.1.grown G1 d.1.size (by simp)) ((J (wr.setCell (aD (w.heap.size+2) (3+k)) (.map (some wr.heap.size))) (.map #[] 0)).mono (by rw[C];exact d.1.size)));change Calls _ _ _ ((wr.setCell (aD (w.heap.size+2) (3+k)) (.map (some wr.heap.size))).alloc (.map #[] 0)) _;rw[C]at X;rw[<-b1]at z E V r X F C ⊢;have b2:wr.heap.size<(ws.alloc (.map #[] 0)).heap.size:=by simp;omega
   have HO:=I (λj hj=>(g.1 j hj).1.lt);have⟨Y,a5⟩:=aT wr.heap.size;rw[<-a5]at r X a3 b2 HO;simp only[<-a5];clear G1 QP U P Q q g d z0 z1 b1 C a5 wr;have b3:Af (Gz (ws.alloc (.map #[] 0)) Y ((zk k).take 0)):=I ⟨[],X.1,λs=>by simp[Bz,wi]⟩;clear X;generalize ws.alloc (.map #[] 0)=R at*;clear ws;refine(GZ k t R).mono ?_;rintro e w3 ⟨aa,ac,rfl,hS,A⟩;have x:=I (z.1.below A);have H:=I (E.1.below A);have p:=I (V.1.below A);have K:=I ((A.block _ (Ag r.1)).trans r.1);have m:=I (b3.1.below A);have L:=I (Ab F.1 A);have a0:=I hS;have b6:Y<w3.heap.size:=m.1.lt;have c6:=dZ k;have b7:=I (show ∀b y,aa=some (aD b y)->0<(zk k).length->b≠Y from λb y hab hpos hbm=>by
    subst hab;subst hbm;have⟨b',c7,e1,_,hc⟩:=hS.cells hpos;cases e1;have b8:=hc 0 hpos;have⟨M,⟨⟨es,c,h1,_⟩,_⟩,_⟩:=m.1;simp[World.cell?,h1]at b8)
   clear hS A z E V r b3 F b2 R;go_wp2_with fail;go_loopw [55] (λi wr=>∃(j:Nat),j<=(zk k).length/\i=Bn j/\Af (Kw wr w.heap.size l)/\Af (Nb wr (w.heap.size+1) l)/\Af (wr.heap[w.heap.size+2]?=some (Obj.cells (Jc (CU a l.length cap) (.map (some w.heap.size)) (.map (some (w.heap.size+1))) (N++ [Y])) 250 (0,0)))/\Af (Ux w.heap.size wr N)/\Af (Gz wr Y ((zk k).take j))/\Af (Lz wr aa (zk k))/\Af (Bw w wr)) (λi _=>(zk k).length-(intOf i).toNat);exact⟨0,by omega,rfl,x,H,K,p,m,a0,L⟩;clear x H K p m a0 L b6 w3;obtain⟨j,hj,rfl,P,Q,q,g,S,hS,d⟩:=hrel;by_cases a6:j<(zk k).length
   . obtain⟨b,y,rfl,hb,D⟩:=hS.1.cells (by omega);have c0:=D j a6;have y0:wr.cell? (aD (w.heap.size+2) (3+k))=some (.map (some Y)):=by
      have:=BC (CU a l.length cap) (.map (some w.heap.size)) (.map (some (w.heap.size+1))) (N++ [Y]) k (by simp[f.1]);rw[yL _ _ _ (by simp[f.1]),iN (by rw[f.1];omega)]at this;exact zm q.1 this
     have ys:=Ag q.1;have b9:=b7.1 b y rfl (by omega);have⟨w3,P1,W3,G⟩:=Yh S.1 a6 (OM k);have x:=I (P.1.grown G (by simp;omega));have H:=I (Q.1.grown G (by simp;omega));have K:=I ((G.block _ (Ag q.1) (by simp;omega)).trans q.1);have p:=I (g.1.grown G (λj hj=>by have:=HO.1 j hj;omega));have a0:Af (Lz w3 (some (aD b y)) (zk k)):=I (.inr ⟨b,y,rfl,As hb G.size,D.kept hb G b9⟩);have L:=I (d.1.grown G d.1.size (by simp;omega));have m:=I W3;clear W3 G P Q q g S hS d D;go_wp2;go_roundw;exact⟨j+1,by omega,by go_num,x,H,K,p,m,a0,L⟩;simp[intOf];omega
   obtain rfl:j=(zk k).length:=by omega
   have m:=I S.1;rw[List.take_length]at m;have b4:=I (show(N++ [Y]).length=k+1 by simp[f.1]);have p:=I (show Ux w.heap.size wr (N++ [Y]) from λi hi=>by
    rw[yL _ _ _ hi];by_cases h:i<N.length
    . rw[iP h];exact g.1 i h
    rw[iN h];obtain rfl:i=k:=by have:=f.1;simp at hi;omega
    exact⟨m.1,a3⟩)
   clear g S hS m hj a6;go_wp2;go_roundw;exact⟨k+1,_,by omega,by go_num,b4,P,Q,q,p,d⟩;simp[intOf];omega
 obtain rfl:k=4:=by omega
 go_wp2;go_ret;refine⟨w.heap.size+2,w.heap.size,w.heap.size+1,N,rfl,⟨by omega,hB,by omega,by omega,by omega,f.1,λk Z=>?_,q.1,P.1,Q.1,λk Z=>(g.1 k (by rw[f.1];exact Z)).1,HA.1.keep (d.1.mono hB) (Is.keep (d.1.mono hB))⟩,⟨by omega,by omega,by omega,λk Z=>?_⟩,d.1⟩;have:=(g.1 k (by rw[f.1];exact Z)).2;omega;have:=(g.1 k (by rw[f.1];exact Z)).2;omega
theorem eB{L:List (List UInt8)}(h:zN L s=true):s∈L.map (λx=>(⟨x.toArray⟩:BA)):=by
 grind[zN,Lib.toList_data]
theorem UK(h:wi l s=none):s ∉ l:=by
 grind[wi]
theorem kS(h:wi l s=some i):i<l.length:=by
 grind[wi,List.findIdx?_eq_some_iff_getElem]
theorem rD(h:wi l s=some i):Bl l i=s:=by
 grind[wi,List.findIdx?_eq_some_iff_getElem,Bl]
theorem Zc(h:Ao l s=true):s∈l:=by
 grind[Ao]
theorem nY(h:Oy s≠0):s∈zI:=by
 have a:((Rr++Rq++Rp).map (λx=>(⟨x.toArray⟩:BA))).all (Ao zI)=true:=by decide+kernel
 have b:∀x∈(Rr++Rq++Rp).map (λx=>(⟨x.toArray⟩:BA)),x∈zI:=λx hx=>Zc (List.all_eq_true.1 a x hx);grind[Oy,eB]
theorem OH(h:Uv s≠0):s∈Uh:=by
 have a:((Rw++Rv).map (λx=>(⟨x.toArray⟩:BA))).all (Ao Uh)=true:=by decide+kernel
 grind[Zc,Uv,eB]
theorem aW{p:BA}(h:Dt s p=true):s=p++s.extract p.size s.size:=by
 simp only[Dt,Em,decide_eq_true_eq,beq_iff_eq]at h;obtain⟨d,a⟩:=h;rw[Lib.toList_data,Lib.toList_data]at a;have b:s.data.toList.take p.data.toList.length=p.data.toList:=by
  rw[<-a];simp
 apply ByteArray.ext;apply Array.ext';simp;have c:p.size=p.data.toList.length:=by simp
 rw[c,List.take_of_length_le (by simp)];grind[List.take_append_drop]
def iT{l:List UInt8}(h:(s.toList==l)=true):s=⟨l.toArray⟩:=by
 rw[beq_iff_eq,Lib.toList_data]at h;subst h;simp
theorem OC(h:Jq s≠0):s∈Rb:=by
 unfold Jq at h;by_cases g:(s.toList== [114,101,115,116])=true;rw[iT g];exact Zc (by decide+kernel);rw[iN g]at h;by_cases i:(s.toList== [110,105,103,104,116,115])=true;rw[iT i];exact Zc (by decide+kernel);rw[iN i]at h;by_cases j:(s.toList== [104,111,109,101])=true;rw[iT j];exact Zc (by decide+kernel);rw[iN j]at h;by_cases c:Dt s Kn=true;rw[iP c]at h;have d:=nY h;have e:s=Kn++s.extract 7 s.size:=aW c;have a:zI.all (λx=>Ao Rb (Kn++x))=true:=by decide+kernel
 have b:∀x∈zI,Kn++x∈Rb:=λx hx=>Zc (List.all_eq_true.1 a x hx);rw[e];exact b _ d;rw[iN c]at h;by_cases f:Dt s Mt=true;rw[iP f]at h;have d:=nY h;have e:s=Mt++s.extract 6 s.size:=aW f;all_goals grind[Rb,Mt]
def mQ(b:k<4)(h:Qd k s=none):Cl k s=0:=by
 have a:=UK h;obtain rfl|rfl|rfl|rfl:k=0\/k=1\/k=2\/k=3:=by omega
 rfl;exact Classical.byContradiction λh'=>a (nY h');exact Classical.byContradiction λh'=>a (OC h');exact Classical.byContradiction λh'=>a (OH h')
theorem PT(b:k<4)(h:Qd k s=some i):Cl k s≠0:=by
 have c:=kS h;have d:=rD h;rw[<-d];have a:((List.range 4).all λk=>(List.range (zk k).length).all λi=>Cl k (Bl (zk k) i) !=0)=true:=by decide+kernel
 grind
theorem zjh{a:BA->Option (Int×Int)}{b:Int}:∀{l:List zH},(Cn a b l).1=0->(Cn a b l).2.length=l.length/\∀k,k<l.length->(Bt a b (Au l k)).2=0/\Am (Cn a b l).2 k=(Bt a b (Au l k)).1
 |[],_=>⟨rfl,λk hk=>by simp at hk⟩
 |x::l,h=>by
  rw[Cn]at h ⊢;by_cases c:(Bt a b x).2≠0
  . simp_all
  rw[iN c]at h ⊢;have⟨d,e⟩:=zjh (l:=l) h;refine⟨by simp[d],λk hk=>?_⟩;cases k with
  |zero=>exact⟨Classical.not_not.1 c,rfl⟩
  |succ k=>exact e k (by simpa using hk)
theorem qA:∀{t:LI} {k:Int},Ck t k=true->∀j,j<t.length->Am t j=k
 |[],_,_,j,hj=>by simp at hj
 |x::t,k,h,0,_=>by rw[Ck,Em,beq_iff_eq]at h;exact h.1
 |x::t,k,h,j+1,hj=>by rw[Ck,Em]at h;exact qA h.2 j (by simpa using hj)
structure eZ(lk:BA->Option (Int×Int))(cv:BA->Int)(sc:Int)(q:LI):Prop where
 attr:∀s i,Qd sc s=some i->i<q.length/\wA (Am q i)/\(Cl sc s=4->Gq (Am q i))
 none:∀s,Qd sc s=none->Cl sc s=0
 named:∀s i,Qd sc s=some i->Cl sc s≠0
 const:∀s r,lk s=some r->r.2=0->wA (cv s)/\(r.1=4->Gq (cv s))
theorem iG(b:Bool):Gq (Iw b):=by grind[Gq,Iw]
theorem LQ{o:Int}{t:LI}(h:o=7\/o=8\/o=9\/o=12\/o=13\/o=10\/o=11):Ch o t≠4:=by
 have a:Fs (Am t 0)=true->Am t 0≠4:=by
  intro h;simp[Fs]at h;omega
 rcases h with rfl|rfl|rfl|rfl|rfl|rfl|rfl
 all_goals grind[Ch,aZ]
mutual
theorem eV{b:BA->Option (Int×Int)}{d:BA->Int}{a:Int}(E:eZ b d a q):∀(x:zH),Db x=true->(Bt b a x).2=0->Lb q (Bj d a x)/\((Bt b a x).1=4->Gq (Aw q (Bj d a x)))
 | .mk o n s l,hwf,ht=>by
  have⟨U,N⟩:=Zb hwf;simp only[Nr,Em]at U;obtain⟨⟨⟨Z,c⟩,f⟩,a0⟩:=U;have⟨a1,z⟩:=Om.1 Z;rw[Bt]at ht ⊢;rw[Bj];by_cases A:o=6
  . subst A;rw[iP rfl]at ht ⊢;rw[iN (by decide),iN (by decide),iN (by decide),iP rfl];cases P:Qd a s with
    |some i=>
     have⟨u,v,h3⟩:=E.attr s i P;refine⟨?_,?_⟩
     . grind[Lb]
     intro p;rw[Aw,iN (by decide),iP rfl];by_cases w:Cl a s≠0
     . simp_all
     have Q:Cl a s=0:=Classical.not_not.1 w;exfalso
     exact(E.named s i P) Q
    |none=>
     have w:=E.none s P;rw[iN (by simpa using w)]at ht ⊢;cases R:b s with
     |none=>simp_all
     |some r=>
      rw[R]at ht;have⟨u,v⟩:=E.const s r R ht;grind[Lb,Aw]
  rw[iN A]at ht ⊢;have a2:zL o l.length=true:=c;by_cases o5:o<=5
  . have B:l.length=0:=by
     obtain rfl|rfl|rfl|rfl|rfl:o=1\/o=2\/o=3\/o=4\/o=5:=by omega
     all_goals grind[zL]
    have C:l= []:=List.length_eq_zero_iff.1 B;subst C;obtain rfl|rfl|rfl|rfl|rfl:o=1\/o=2\/o=3\/o=4\/o=5:=by omega
    . have V:=Om.1 (show Ar n 0 1099511627776=true from f);grind[Lb,wA,Ch]
    . have V:=Om.1 (show Ar n 0 1099511627776=true from f);grind[Lb,wA,Ch]
    . have V:=Om.1 (show Ar n 0 1439=true from f);grind[Lb,wA,Ch]
    . rw[iN (by decide),iP rfl];exact⟨by grind[Lb,wA],λ_=>by exact .inr rfl⟩
    rw[iN (by decide),iN (by decide),iP rfl];exact⟨by grind[Lb,wA],λ_=>by exact .inl rfl⟩
  rw[iN (by omega),iN (by omega),iN (by omega),iN A];by_cases u:(Cn b a l).1≠0
  . simp_all
  rw[iN u]at ht ⊢;have S:(Cn b a l).1=0:=Classical.not_not.1 u;by_cases v:Ch o (Cn b a l).2≠0
  . rw[iP v]at ht ⊢;have⟨g2,W⟩:=zjh S;have X:=qS E l N (λk t=>(W k t).1);have g:(Ce d a l).length=l.length:=aO d a l;have j:∀k,k<l.length->Am (Cn b a l).2 k=4->Gq (Am (Dz q (Ce d a l)) k):=λk t p=>by
     grind[Na]
    have m:19<=o->∀k,k<l.length->Gq (Am (Dz q (Ce d a l)) k):=λh19 k t=>by
     refine j k t ?_;have y:Gd o (Cn b a l).2=true:=by
      refine Classical.byContradiction λy=>v ?_
      obtain rfl|rfl|rfl|rfl:o=19\/o=20\/o=21\/o=22:=by omega
      all_goals grind[Ch]
     grind[Gd,qA]
    refine⟨?_,λp=>?_⟩
    . grind[Lb]
    rw[Aw,iN (by omega),iN A];have a3:¬ (o=7\/o=8\/o=9\/o=12\/o=13\/o=10\/o=11):=λh=>LQ h p
    by_cases D:o=14
    . grind[Am,Ch,Fx]
    by_cases F:o=15
    . grind[Fx,iG]
    have G:0<l.length:=by have:=BK c (by omega);omega
    by_cases H:o=19
    . grind[Fx,Gq]
    have e:Fx o (Dz q (Ce d a l))=Cx o (Am (Dz q (Ce d a l)) 0) (Am (Dz q (Ce d a l)) 1):=by
     rw[Fx,iN (by omega),iN (by omega),iN (by omega),iN D,iN F,iN H]
    rw[e];unfold Cx
    rw[iN (by omega),iN (by omega),iN (by omega),iN (by omega)];by_cases K:o=16
    . grind[iG]
    rw[iN K];by_cases L:o=17
    all_goals grind[iG,zL,Gq]
  simp_all
theorem qS{b:BA->Option (Int×Int)}{c:BA->Int}{a:Int}(E:eZ b c a q):∀(l:List zH),Ib l=true->(∀k,k<l.length->(Bt b a (Au l k)).2=0)->Ko q (Ce c a l)/\∀k,k<l.length->(Bt b a (Au l k)).1=4->Gq (Aw q (Ci (Ce c a l) k))
 |[],_,_=>⟨trivial,λk hk=>by simp at hk⟩
 |x::l,hw,ht=>by
  rw[Ib,Em]at hw;have⟨d,e⟩:=eV E x hw.1 (ht 0 (by simp));have⟨f,g⟩:=qS E l hw.2 (λk hk=>ht (k+1) (by simpa using hk));rw[Ce];refine⟨by grind[Ko],λk hk=>?_⟩;cases k with
  |zero=>exact e
  |succ k=>exact g k (by simpa using hk)
end
theorem pH(l:List zB)(n:Nat)(h:∀j,j<n->j<l.length->(Bx l j).2=0->wA (Dm l j)/\((Bx l j).1=4->Gq (Dm l j))):eZ (Cv l n) (Ec l n) 0 [] where
 attr:=λs i hp=>by grind[Qd,zk,wi]
 none:=λs _=>rfl
 named:=λs i hp=>by grind[Qd,zk,wi]
 const:=λs r hr h0=>by
  grind[Cv,Ec,qY]
theorem iZ{l:List zB}(h:(Bx l i).2=0):Bb (Ak l i).ex=0/\(Bt (Cv l i) 0 (Ak l i).ex).2=0/\Bx l i=Bt (Cv l i) 0 (Ak l i).ex:=by
 grind[bI]
theorem AX(l:List zB)(i:Nat)(f:i<l.length)(h:(Bx l i).2=0):wA (Dm l i)/\((Bx l i).1=4->Gq (Dm l i)):=by
 induction i using Nat.strongRecOn<;>grind[iZ,pH,eV,Ql,qJ,Ph]
theorem QO(l:List zB)(i:Nat)(h:(Bx l i).2=0):Lb [] (Bj (Ec l i) 0 (Ak l i).ex):=by
 grind[iZ,eV,pH,AX,Ql]
def bL(B kp ib vb:Nat)(ps:List Nat)(l:List zB)(a:Ae)(cap:Nat)(w:Wd)(f:zE)(e:Ending)(w':Wd):Prop:=∃fa fc,e=.returned (.agg #[f.op,f.num,.slice fa f.args.length fc])/\Gi (λb=>b<w.heap.size) w' fa f.args/\f.args.length<=200/\Ir B w' kp ib vb ps l a cap/\w.grownBy w' (some vb)
def rH(B kp ib vb:Nat)(ps:List Nat)(l:List zB)(a:Ae)(cap:Nat)(n:Nat):Prop:=∀(k:Nat) (x:zH) (xa:Ae) (xc:Nat) (w:Wd),k<4->Ir B w kp ib vb ps l a cap->Ia x->Db x=true->Bq x<=200->(Bt (Cv l n) k x).2=0->Et B w xa x.args->
 Calls prog 84 #[.pointer (some (aD kp 0)),k,.agg #[x.op,x.num,.string x.name,.slice xa x.args.length xc]] w (bL B kp ib vb ps l a cap w (Bj (Ec l n) k x))
def kH(B kp ib vb:Nat)(ps:List Nat)(l:List zB)(a:Ae)(cap:Nat)(i:Nat):Prop:=∀(s:BA) (w:Wd),fi l s=some i->Ir B w kp ib vb ps l a cap->Calls prog 150 #[.pointer (some (aD kp 0)),.string s] w λe w'=>e=.returned (Dm l i)/\Ir B w' kp ib vb ps l a cap/\w.grownBy w' (some vb)
def aX(B b c d:Nat)(e:List Nat)(l:List zB)(a:Ae)(cap:Nat){o n:Int}(g:Ir B w b c d e l a cap)(f:Bw w w'):bL B b c d e l a cap w (.mk o n []) (.returned (.agg #[o,n,Ls])) w':=
 ⟨none,0,rfl,⟨0,0,λh=>aB rfl h,.nil _ _⟩,by simp[zE.args],g.below f,zP _ f⟩
def KV(B d e f:Nat)(g:List Nat)(l:List zB)(a:Ae)(cap:Nat)(i:BA->Int)(k:Nat)(o b:Int)(s:BA)(h:List zH)(n:Ae)(p:Nat)(w:Wd)(r:1<=o)(q:o<=5)(m:Ir B w d e f g l a cap):
 Calls prog 84 #[Ua d 0,k,.agg #[o,b,B_ s,CU n h.length p]] w (bL B d e f g l a cap w (Bj i k (.mk o b s h))):=by
 have j:=I m;obtain rfl|rfl|rfl|rfl|rfl:o=1\/o=2\/o=3\/o=4\/o=5:=by omega
 . have c:=I (show Bj i k (.mk 1 b s h)=.mk 1 b [] by simp[Bj]);go_in;go_wp2_with fail;refine bP (v:=.agg #[Bn 1,b,Ls]) (by simp[results,results84,go_sem]) rfl ?_;rw[c.1];exact aX B d e f g l a cap j.1 (Ab (J _ _) (J _ _))
 . have c:=I (show Bj i k (.mk 2 b s h)=.mk 1 b [] by simp[Bj]);go_in;go_wp2_with fail;refine bP (v:=.agg #[Bn 1,b,Ls]) (by simp[results,results84,go_sem]) rfl ?_;rw[c.1];exact aX B d e f g l a cap j.1 (Ab (J _ _) (J _ _))
 . have c:=I (show Bj i k (.mk 3 b s h)=.mk 1 b [] by simp[Bj]);go_in;go_wp2_with fail;refine bP (v:=.agg #[Bn 1,b,Ls]) (by simp[results,results84,go_sem]) rfl ?_;rw[c.1];exact aX B d e f g l a cap j.1 (Ab (J _ _) (J _ _))
 . have c:=I (show Bj i k (.mk 4 b s h)=.mk 1 1 [] by simp[Bj]);go_in;go_wp2_with fail;refine bP (v:=.agg #[Bn 1,Bn 1,Ls]) (by simp[results,results84,go_sem]) rfl ?_;rw[c.1];exact aX B d e f g l a cap j.1 (Ab (J _ _) (J _ _))
 have c:=I (show Bj i k (.mk 5 b s h)=.mk 1 0 [] by simp[Bj]);go_in;go_wp2_with fail;refine bP (v:=.agg #[Bn 1,Bn 0,Ls]) (by simp[results,results84,go_sem]) rfl ?_;rw[c.1];exact aX B d e f g l a cap j.1 (Ab (J _ _) (J _ _))
theorem UN{a:BA->Option (Int×Int)}{c:Int}{d:List zH}(h:(Bt a k (.mk 6 c s d)).2=0)(e:Cl k s=0):∃r,a s=some r/\r.2=0:=by
 rw[Bt,iP rfl,iN (by simpa using e)]at h;cases b:a s<;>simp_all
theorem RN{l:List zB}{r:Int×Int}(h:Cv l n s=some r):∃i,fi l s=some i/\i<n/\r=Bx l i/\Ec l n s=Dm l i:=by
 grind[Cv,Ec]
def KW(B x E y:Nat)(z:List Nat)(l:List zB)(a:Ae)(cap:Nat)(n:Nat)(f:Af (∀i,i<n->i<l.length->(Bx l i).2=0->kH B x E y z l a cap i))(k:Nat)(F:k<4)(g:Int)(s:BA)(o:List zH)(G:Ae)(H:Nat)(w:Wd)(R:Ir B w x E y z l a cap)(ht:(Bt (Cv l n) k (.mk 6 g s o)).2=0):
 Calls prog 84 #[Ua x 0,k,.agg #[Bn 6,g,B_ s,CU G o.length H]] w (bL B x E y z l a cap w (Bj (Ec l n) k (.mk 6 g s o))):=by
 have A:=I R;have a8:=R.lt.1;have HT:=I ht;have k0:(0:Int)<=(k:Int):=by omega
 have k4:(k:Int)<4:=by omega
 clear R ht;go_in;go_wp2_with fail;have S:=I (Ab (J w (Dq 6 g s G o.length H)) (J _ jC));have T:=I (zd (o':=jC) (zh w (Dq 6 g s G o.length H)));have P:=I (zh (w.alloc (Dq 6 g s G o.length H)) jC);rw[zr]at P;have p:=I (A.1.below S.1);generalize (w.alloc (Dq 6 g s G o.length H)).alloc jC=W at*;have z1:W.cell? (aD x (3+k))=some (.map (some (Nj z k))):=zm p.1.box (BC _ _ _ z k (by rw[p.1.plen];exact F));have z2:W.cell? (aD w.heap.size 2)=some (B_ s):=zm T.1 rfl;have zs:=Ag P.1;have L1:=λm=>TW (w:=W.drewN m) ((p.1.places k F).below (dN (An _ _) m)) s;go_quiet (fail);have C:=I (Ab S.1 (dN (An _ _) nq));have U:=I (A.1.below C.1);have d:=I (((dN (An W.heap.size W) nq).block _ zs).trans P.1);have q3:=I (((dN (An W.heap.size W) nq).block _ (by omega)).trans T.1);clear L1 z1 z2 zs T P p S;generalize W.drewN nq=b at*;clear W;have y0:b.cell? (aD (w.heap.size+1) 0)=some (Bn 0):=zm d.1 rfl;have y1:b.cell? (aD (w.heap.size+1) 1)=some (Bn 0):=zm d.1 rfl;have y2:b.cell? (aD (w.heap.size+1) 2)=some Ls:=zm d.1 rfl;have f0:b.frozen? (aD (w.heap.size+1) 0)=false:=zQ d.1;have f1:b.frozen? (aD (w.heap.size+1) 1)=false:=zQ d.1;have f2:b.frozen? (aD (w.heap.size+1) 2)=false:=zQ d.1;have ys:=Ag d.1;cases q:Qd k s with
 |some i=>
  have K:aJ (zk k) s=true:=by have:wi (zk k) s=some i:=q;simp[aJ,this]
  have e2:fU (zk k) s=i:=by have:wi (zk k) s=some i:=q;simp[fU,this]
  have V:=I (show Bj (Ec l n) k (.mk 6 g s o)=.mk 6 i [] by rw[Bj,iN (by decide),iN (by decide),iN (by decide),iP rfl,q]);rw[K,e2];clear q K e2;go_wp2_with fail;have Q:=zg (i:=2) (u:=Ls) (zg (i:=1) (u:=Bn i) (zg (i:=0) (u:=Bn 6) d.1));have X:(((b.setCell (aD (w.heap.size+1) 0) (Bn 6)).setCell (aD (w.heap.size+1) 1) (Bn i)).setCell (aD (w.heap.size+1) 2) Ls).cell? (aD (w.heap.size+1) 0)=some (Bn 6):=zm Q rfl;have Y:(((b.setCell (aD (w.heap.size+1) 0) (Bn 6)).setCell (aD (w.heap.size+1) 1) (Bn i)).setCell (aD (w.heap.size+1) 2) Ls).cell? (aD (w.heap.size+1) 1)=some (Bn i):=zm Q rfl;have Z:(((b.setCell (aD (w.heap.size+1) 0) (Bn 6)).setCell (aD (w.heap.size+1) 1) (Bn i)).setCell (aD (w.heap.size+1) 2) Ls).cell? (aD (w.heap.size+1) 2)=some Ls:=zm Q rfl;have a0:Bw w (((b.setCell (aD (w.heap.size+1) 0) (Bn 6)).setCell (aD (w.heap.size+1) 1) (Bn i)).setCell (aD (w.heap.size+1) 2) Ls):=((C.1.setCell (by simp) _).setCell (by simp) _).setCell (by simp) _;clear Q;generalize (((b.setCell (aD (w.heap.size+1) 0) (Bn 6)).setCell (aD (w.heap.size+1) 1) (Bn i)).setCell (aD (w.heap.size+1) 2) Ls)=Wf at*;refine bP (v:=.agg #[Bn 6,i,Ls]) (by simp[results,results84,go_sem,X,Y,Z]) rfl ?_;rw[V.1];exact aX B x E y z l a cap A.1 a0
 |none=>
  have K:aJ (zk k) s=false:=by have:wi (zk k) s=none:=q;simp[aJ,this]
  have ha:=mQ F q;have⟨r,hr,L⟩:=UN HT.1 ha;obtain⟨i,hi,a1,rfl,M⟩:=RN hr;have a2:=qY hi;have V:=I (show Bj (Ec l n) k (.mk 6 g s o)=.mk 1 (Dm l i) [] by rw[Bj,iN (by decide),iN (by decide),iN (by decide),iP rfl,q,M]);have HI:=I hi;have HR:=I L;have v2:b.cell? (aD w.heap.size 2)=some (B_ s):=zm q3.1 rfl;rw[K];clear q K ha hr M hi L;go_wp2_with fail;refine(f.1 i a1 a2 HR.1 s b HI.1 U.1).mono ?_;rintro e c ⟨rfl,N,D⟩;have a9:=A.1.lt.2.2;have t:=I ((D.block _ ys (by simp;omega)).trans d.1);have a3:=I N;have a4:=I (Lib.grownBy_trans (zP (some y) C.1) D);have x0:c.cell? (aD (w.heap.size+1) 0)=some (Bn 0):=zm t.1 rfl;have x1:c.cell? (aD (w.heap.size+1) 1)=some (Bn 0):=zm t.1 rfl;have x2:c.cell? (aD (w.heap.size+1) 2)=some Ls:=zm t.1 rfl;have u0:c.frozen? (aD (w.heap.size+1) 0)=false:=zQ t.1;have u1:c.frozen? (aD (w.heap.size+1) 1)=false:=zQ t.1;have u2:c.frozen? (aD (w.heap.size+1) 2)=false:=zQ t.1;have us:=Ag t.1;clear N D y0 y1 y2 f0 f1 f2 ys v2 d q3;go_wp2_with fail;have Q:=zg (i:=2) (u:=Ls) (zg (i:=1) (u:=Bn (Dm l i)) (zg (i:=0) (u:=Bn 1) t.1));have X:(((c.setCell (aD (w.heap.size+1) 0) (Bn 1)).setCell (aD (w.heap.size+1) 1) (Bn (Dm l i))).setCell (aD (w.heap.size+1) 2) Ls).cell? (aD (w.heap.size+1) 0)=some (Bn 1):=zm Q rfl;have Y:(((c.setCell (aD (w.heap.size+1) 0) (Bn 1)).setCell (aD (w.heap.size+1) 1) (Bn (Dm l i))).setCell (aD (w.heap.size+1) 2) Ls).cell? (aD (w.heap.size+1) 1)=some (Bn (Dm l i)):=zm Q rfl;have Z:(((c.setCell (aD (w.heap.size+1) 0) (Bn 1)).setCell (aD (w.heap.size+1) 1) (Bn (Dm l i))).setCell (aD (w.heap.size+1) 2) Ls).cell? (aD (w.heap.size+1) 2)=some Ls:=zm Q rfl;have a7:∀j,j<w.heap.size->j≠w.heap.size+1:=λj hj=>by omega
  have G1:=Lib.grownBy_setB (Lib.grownBy_setB (Lib.grownBy_setCell c (w.heap.size+1) 0 (Bn 1)) 1 (Bn (Dm l i))) 2 Ls;have a5:w.grownBy (((c.setCell (aD (w.heap.size+1) 0) (Bn 1)).setCell (aD (w.heap.size+1) 1) (Bn (Dm l i))).setCell (aD (w.heap.size+1) 2) Ls) (some y):=a4.1.andThen G1 (λj hj=>by cases hj;exact .inl (by omega));have a6:Ir B (((c.setCell (aD (w.heap.size+1) 0) (Bn 1)).setCell (aD (w.heap.size+1) 1) (Bn (Dm l i))).setCell (aD (w.heap.size+1) 2) Ls) x E y z l a cap:=a3.1.other G1 (λj hj=>by cases hj;have:=A.1.bp;omega) (by simp;omega) (by have:=A.1.lt.2.1;simp;omega) (by simp;omega) (λk F=>by have:=(A.1.places k F).lt;simp;omega);clear Q G1;generalize (((c.setCell (aD (w.heap.size+1) 0) (Bn 1)).setCell (aD (w.heap.size+1) 1) (Bn (Dm l i))).setCell (aD (w.heap.size+1) 2) Ls)=Wf at*;refine bP (v:=.agg #[Bn 1,(Dm l i),Ls]) (by simp[results,results84,go_sem,X,Y,Z]) rfl ?_;rw[V.1];exact⟨none,0,rfl,⟨0,0,λh=>aB rfl h,.nil _ _⟩,by simp[zE.args],a6,a5⟩
def zX.mk1{f:zE}{a:Ae}(e:b<w.heap.size)(g:¬ X b)(h:w.cell? (aD b c)=some (Bn f.op))(i:w.cell? (aD b (c+1))=some (Bn f.num))(j:w.cell? (aD b (c+2))=some (CU a f.args.length cap))(k:f.args.length<=2^47)(l:Gi X w a f.args):zX X w b c [f]:=by
 obtain⟨o,d,m,n⟩:=l;exact .cons e g h i j k m n (.nil _ _)
def KS(B p G q:Nat)(S:List Nat)(l:List zB)(a:Ae)(cap:Nat)(i:Nat)(hi:i<l.length)(T:(Bx l i).2=0)(IH:Af (rH B p G q S l a cap i)):kH B p G q S l a cap i:=by
 intro s w U c;have V:=I c;have hl:=c.cs.1;have hB:B<=w.heap.size:=Bf c.bp (Nat.le_of_lt c.lt.1);have z0:w.cell? (aD p 0)=some (CU a l.length cap):=zm c.box rfl;have z1:w.cell? (aD p 1)=some (.map (some G)):=zm c.box rfl;have z2:w.cell? (aD p 2)=some (.map (some q)):=zm c.box rfl;have⟨zs,zi,zv⟩:=c.lt;have W:=iL c.idx s;have X:aH l s=i:=by simp[aH,U]
 have Y:Px l s=true:=by simp[Px,U]
 rw[X,Y]at W;clear X Y;rcases RM c.vals i with Z|Z
 . clear c;go_enter func150,ntmps150;go_wp2;go_ret;exact⟨rfl,V.1,World.grownBy.refl _ _⟩
 obtain⟨b,a1,rfl,hb,t⟩:=c.cs.cells (by omega);have⟨c0,s1,a2,u,⟨c1,c2,c3,c4⟩,k,d⟩:=t i hi;have a3:b<w.heap.size:=by omega
 have HF:=I k;have HA:=I d;have⟨g1,g2,_⟩:=iZ T;have⟨t1,t2,_⟩:=Ql g1;have G2:=I g2;have HK:=I (QO l i T);have v:=I (qJ l i);clear t d k c g1 g2;go_enter func150,ntmps150;go_wp2_with fail;refine(IH.1 0 (Ak l i).ex a2 u w (by omega) V.1 HF.1 t1 t2 G2.1 HA.1).mono ?_;rintro e r ⟨D,E,rfl,g,x,y,m⟩;have H:((0:Nat):Int)=0:=rfl;rw[H]at g x;simp only[H];have⟨f,n⟩:=aT (Bj (Ec l i) 0 (Ak l i).ex);rw[<-n]at g x HK v;simp only[<-n];clear n H;have K:=I g;have L:=I y;have M:=I m;have a0:=m.size;clear g y m z0 z1 z2 c0 c1 c2 c3 c4 W Z;go_wp2_with fail;have h:=I (J r (Pb f.op f.num D f.args.length E));have F:=zh r (Pb f.op f.num D f.args.length E);have z:Af (zX (λb=>b<w.heap.size) (r.alloc (Pb f.op f.num D f.args.length E)) r.heap.size 0 [f]):=I (zX.mk1 (by simp) (by simp;omega) (zm F rfl) (zm F rfl) (zm F rfl) (by omega) (K.1.below h.1));have A:=I (L.1.below h.1);have C:=I (Lib.grownBy_trans M.1 (zP (some q) h.1));clear F;generalize r.alloc (Pb f.op f.num D f.args.length E)=W3 at*;refine ca (tN [] none 0 (λb=>b<w.heap.size) (by simp) f r.heap.size 0 W3 z.1 HK.1 (.inl rfl)) λw4 o=>?_;have j:=I (A.1.below o);have N:=I (Lib.grownBy_trans C.1 (zP (some q) o));clear o A C z h;rw[<-v.1];have y2:w4.cell? (aD p 2)=some (.map (some q)):=zm j.1.box rfl;have ys:=j.1.lt.1;have⟨w5,P1,V5,P⟩:=TM j.1.vals i;have Q:=I (j.1.grown P V5);have R:=I (Lib.grownBy_trans N.1 P);clear V5 P;go_wp2;go_ret;exact⟨rfl,Q.1,R.1⟩
def xF:(prog.info? 174).map (λi=>(i.zero,i.size,i.bytes))=some (some (.agg #[Bn 0,Bn 0,Ls]),3,40):=by kernel_rfl
def NI(n:Nat)(f:n<=200)(w:Wd):(Instr.makeSlice 162 (Bn (n:Int)) (Bn (n:Int))).run prog w=.ok (Kx w.heap.size 0 n n) (w.alloc (.cells (madeCells #[Bn 0,Bn 0,Ls] (n*3)) 174)):=by
 have⟨i,b,c,d,e⟩:=info_parts xF;have a:=run_make (P:=prog) w 162 174 i (.agg #[Bn 0,Bn 0,Ls]) underlying162 b c .i64 .i64 n n (by omega) (Int.le_refl _) (by rw[e];omega) (by omega);simp only[Int.toNat_natCast,d]at a;exact a
inductive En(X:Nat->Prop)(w:Wd):LV->List zE->Prop
 |nil:En X w [] []
 |snoc {cs:LV} {fs:List zE} {f:zE} {a:Ae} {cap:Nat} (h:En X w cs fs) (hl:f.args.length<=140737488355328) (ha:Gi X w a f.args):En X w (cs++ [.int .i64 f.op,.int .i64 f.num,.slice a f.args.length cap]) (fs++ [f])
theorem En.len{a:LV}{b:List zE}(h:En X w a b):a.length=b.length*3:=by
 induction h<;>grind
def En.step{X':Nat->Prop}{a:LV}{c:List zE}(h:En X w a c)(d:w.heap.size<=w'.heap.size)(e:∀b,b<w.heap.size->¬ X b->w'.heap[b]?=w.heap[b]?)(f:∀b,b<w.heap.size->X' b->X b):En X' w' a c:=by
 induction h with
 |nil=>exact .nil
 |snoc h hl ha ih=>exact .snoc ih hl (ha.step d e f)
theorem zX.app:∀{l:List zE} {a:Nat} {f:zE},zX X w b a l->zX X w b (a+l.length*3) [f]->zX X w b a (l++ [f]):=by
 intro l;induction l with
 |nil=>simp_all
 |cons x l ih=>
  intro a f h c;cases h with
  |cons hb hX h0 h1' h2 hl ha hx ht=>
   refine .cons hb hX h0 h1' h2 hl ha hx (ih ht ?_);grind
theorem En.forms{c:LV}{l:List zE}(h:En X w c l){t:TypeId}(k:w.heap[b]?=some (.cells C t (0,0)))(n:¬ X b)(d:C.toList.take c.length=c):zX X w b 0 l:=by
 have o:=Ag k;induction h with
 |nil=>exact .nil _ _
 | @snoc c l f a cap h hl ha ih=>
  have g:=h.len;have i:C.toList.take c.length=c:=by
   have:=congrArg (List.take c.length) d;rw[List.take_take]at this;simpa using this
  have m:∀j v, [Bn f.op,Bn f.num,CU a f.args.length cap][j]?=some v->C[c.length+j]?=some v:=λj v hv=>by
   have p:j<3:=by
    have:=(List.getElem?_eq_some_iff.1 hv).1;simpa using this
   have e:(C.toList.take (c++ [Bn f.op,Bn f.num,CU a f.args.length cap]).length)[c.length+j]?=some v:=by
    rw[d,Nf (by omega),Nat.add_sub_cancel_left];exact hv
   grind
  refine zX.app (ih i) ?_;rw[Nat.zero_add,<-g];exact zX.mk1 o n (EE c.length k (m 0 _ rfl)) (zm (j:=c.length+1) k (m 1 _ rfl)) (zm (j:=c.length+2) k (m 2 _ rfl)) hl ha
theorem TF{b:BA->Option (Int×Int)}{k o d:Int}{a:List zH}(h:(Bt b k (.mk o d s a)).2=0)(e:o≠6):∀j,j<a.length->(Bt b k (Au a j)).2=0:=by
 grind[Bt,zjh]
def dT(w:Wd)(h:b≠a)(o c d f:Nat)(g i j:Value):(((w.setCell (aD a c) g).setCell (aD a d) i).setCell (aD a f) j).cell? (aD b o)=w.cell? (aD b o):=by
 have e:(((w.setCell (aD a c) g).setCell (aD a d) i).setCell (aD a f) j).heap[b]?=w.heap[b]?:=by
  rw[Below.heap_setCell _ _ _ _ h,Below.heap_setCell _ _ _ _ h,Below.heap_setCell _ _ _ _ h]
 simp only[World.cell?,e]
def tE{a:Option Nat}(h:w.grownBy w' a):w.grownBy w'.drew a:=⟨h.os,h.tape,h.output,h.size,h.block⟩
theorem JF{b:LV}{m:Nat}(h:C.toList.take m=b)(f:m+3<=C.size)(c d e:Value):(((C.setIfInBounds m c).setIfInBounds (m+1) d).setIfInBounds (m+2) e).toList.take (m+3)=b++ [c,d,e]:=by
 subst h;obtain⟨L⟩:=C;simp only[List.setIfInBounds_toArray,List.size_toArray]at f ⊢;have g:L=L.take m++L.drop m:=(List.take_append_drop m L).symm;obtain⟨x,y,z,T,i⟩:∃x y z T,L.drop m=x::y::z::T:=by
  have j:3<=(L.drop m).length:=by simp;omega
  match hh:L.drop m,j with
  |x::y::z::T,_=>grind
 have a:(L.take m).length=m:=by simp;omega
 generalize L.take m=A at*;rw[g,i];subst a;simp[List.set_append,List.take_append];grind
def JY(B kp ib vb:Nat)(ps:List Nat)(l:List zB)(a:Ae)(cap:Nat)(n:Nat)(k:Nat)(hk:k<4)(o m:Int)(s:BA)(c:List zH)(o7:7<=o)(q:Ae)(y:Nat)(w:Wd)(R:Ir B w kp ib vb ps l a cap)(b2:Db (.mk o m s c)=true)(S:Bq (.mk o m s c)<=200)(ht:(Bt (Cv l n) k (.mk o m s c)).2=0)(ha:Et B w q c) 
 (IH:Af (∀x:zH,SizeOf.sizeOf x<SizeOf.sizeOf (zH.mk o m s c)->∀(q:Ae) (y:Nat) (w:Wd),Ir B w kp ib vb ps l a cap->Ia x->Db x=true->Bq x<=200->(Bt (Cv l n) k x).2=0->Et B w q x.args->
  Calls prog 84 #[Ua kp 0,k,.agg #[x.op,x.num,B_ x.name,CU q x.args.length y]] w (bL B kp ib vb ps l a cap w (Bj (Ec l n) k x)))):
 Calls prog 84 #[Ua kp 0,k,.agg #[o,m,B_ s,CU q c.length y]] w (bL B kp ib vb ps l a cap w (Bj (Ec l n) k (.mk o m s c))):=by
 have HC:=I R;have HA:=I ha;have HT:=I ht;have hB:B<=w.heap.size:=Bf R.bp (Nat.le_of_lt R.lt.1);have⟨g8,g9,h0⟩:=R.lt;have d3:=R.bv;have⟨hh,b3⟩:=Zb b2;have h3:1+Dc c<=200:=by rw[Bq]at S;exact S
 have a1:c.length<=200:=by have:=iM c;omega
 have n1:(o==1)=false:=by simp;omega
 have n2:(o==2)=false:=by simp;omega
 have n3:(o==3)=false:=by simp;omega
 have n4:(o==4)=false:=by simp;omega
 have n5:(o==5)=false:=by simp;omega
 have n6:(o==6)=false:=by simp;omega
 have HW:=I b3;have d4:=NI c.length a1;clear R ha ht b2 S hh b3;go_in;have Hz:=I (show Bj (Ec l n) k (.mk o m s c)=.mk o 0 (Ce (Ec l n) k c) by rw[Bj,iN (by omega),iN (by omega),iN (by omega),iN (by omega)]);have d5:=I (TF HT.1 (by omega));go_upto_region 16 with(fail);go_cut [9] (λf wx=>∃K g:Nat,f=Ua K 0/\Af (Bw w wx)/\Af (wx.heap[w.heap.size+1]?=some jC)/\Af (wx.heap[w.heap.size]?=some (Dq o m s q c.length y))/\Af (wx.heap[K]?=some (Pb o 0 (some (aD g 0)) c.length c.length))/\Af (wx.heap[g]?=some (Obj.cells (madeCells #[Bn 0,Bn 0,Ls] (c.length*3)) 174))/\w.heap.size+1<K/\w.heap.size+1<g/\K≠g)
 case first=>
  go_region
  . have e2:((w.alloc (Dq o m s q c.length y)).alloc jC).heap.size=w.heap.size+1+1:=by rw[zr,zr]
    have⟨W,L⟩:=aT (((((w.alloc (Dq o m s q c.length y)).alloc jC).alloc (Obj.cells (madeCells #[Bn 0,Bn 0,Ls] (c.length*3)) 174)).alloc (Pb o 0 (some (aD (w.heap.size+1+1) 0)) c.length c.length)).drew);have HB:=I (show Bw w W by rw[L];exact(Ab (Ab (J w _) (J _ _)) (Ab (J _ _) (J _ _))).drew);have QR:=I (show W.heap[w.heap.size+1]?=some jC by rw[L,<-zr w (Dq o m s q c.length y)];exact zd (zd (zh (w.alloc (Dq o m s q c.length y)) _)));have QX:=I (show W.heap[w.heap.size]?=some (Dq o m s q c.length y) by rw[L];exact zd (zd (zd (zh w _))));have QF:=I (show W.heap[w.heap.size+1+1+1]?=some (Pb o 0 (some (aD (w.heap.size+1+1) 0)) c.length c.length) by have h:=zh (((w.alloc (Dq o m s q c.length y)).alloc jC).alloc (Obj.cells (madeCells #[Bn 0,Bn 0,Ls] (c.length*3)) 174)) (Pb o 0 (some (aD (w.heap.size+1+1) 0)) c.length c.length);rw[zr,e2]at h;rw[L];exact h);have QA:=I (show W.heap[w.heap.size+1+1]?=some (Obj.cells (madeCells #[Bn 0,Bn 0,Ls] (c.length*3)) 174) by rw[L,<-e2];exact zd (zh ((w.alloc (Dq o m s q c.length y)).alloc jC) _));change Exit.then _ _ _ _ (((((w.alloc (Dq o m s q c.length y)).alloc jC).alloc (Obj.cells (madeCells #[Bn 0,Bn 0,Ls] (c.length*3)) 174)).alloc (Pb o 0 (some (aD (w.heap.size+1+1) 0)) c.length c.length)).drew);rw[<-L];go_wp2;go_meet;exact⟨_,_,rfl,HB,QR,QX,QF,QA,by omega,by omega,by omega⟩
  have e2:((w.alloc (Dq o m s q c.length y)).alloc jC).heap.size=w.heap.size+1+1:=by rw[zr,zr]
  have⟨W,L⟩:=aT (((((w.alloc (Dq o m s q c.length y)).alloc jC).alloc (Pb o 0 (some (aD (w.heap.size+1+1+1) 0)) c.length c.length)).alloc (Obj.cells (madeCells #[Bn 0,Bn 0,Ls] (c.length*3)) 174)).drew);have HB:=I (show Bw w W by rw[L];exact(Ab (Ab (J w _) (J _ _)) (Ab (J _ _) (J _ _))).drew);have QR:=I (show W.heap[w.heap.size+1]?=some jC by rw[L,<-zr w (Dq o m s q c.length y)];exact zd (zd (zh (w.alloc (Dq o m s q c.length y)) _)));have QX:=I (show W.heap[w.heap.size]?=some (Dq o m s q c.length y) by rw[L];exact zd (zd (zd (zh w _))));have QF:=I (show W.heap[w.heap.size+1+1]?=some (Pb o 0 (some (aD (w.heap.size+1+1+1) 0)) c.length c.length) by rw[L,<-e2];exact zd (zh ((w.alloc (Dq o m s q c.length y)).alloc jC) _));have QA:=I (show W.heap[w.heap.size+1+1+1]?=some (Obj.cells (madeCells #[Bn 0,Bn 0,Ls] (c.length*3)) 174) by have h:=zh (((w.alloc (Dq o m s q c.length y)).alloc jC).alloc (Pb o 0 (some (aD (w.heap.size+1+1+1) 0)) c.length c.length)) (Obj.cells (madeCells #[Bn 0,Bn 0,Ls] (c.length*3)) 174);rw[zr,e2]at h;rw[L];exact h);change Exit.then _ _ _ _ (((((w.alloc (Dq o m s q c.length y)).alloc jC).alloc (Pb o 0 (some (aD (w.heap.size+1+1+1) 0)) c.length c.length)).alloc (Obj.cells (madeCells #[Bn 0,Bn 0,Ls] (c.length*3)) 174)).drew);rw[<-L];go_wp2;go_meet;exact⟨_,_,rfl,HB,QR,QX,QF,QA,by omega,by omega,by omega⟩
 obtain⟨K,g,rfl,HB,QR,QX,QF,QA,g6,g7,b4⟩:=hcut;have d6:wc.cell? (aD w.heap.size 3)=some (CU q c.length y):=zm QX.1 rfl;have d7:=Ag QX.1;have b5:=I (HC.1.below HB.1);clear d4;go_wp2_with fail;clear d6 d7 QX;go_loopw [65] (λi wr=>∃(j:Nat) (C:Array Value) (cs:LV),j<=c.length/\i=Bn j/\Af (C.size=c.length*3/\C.toList.take (j*3)=cs)/\Af (En (λb=>b<w.heap.size+2\/b=g) wr cs (Ce (Ec l n) k (c.take j)))/\Af (wr.heap[w.heap.size+1]?=some jC)/\Af (wr.heap[K]?=some (Pb o 0 (some (aD g 0)) c.length c.length))/\Af (wr.heap[g]?=some (Obj.cells C 174 (0,0)))/\Af (Ir B wr kp ib vb ps l a cap)/\Af (w.grownBy wr (some vb))) (λi _=>c.length-(intOf i).toNat);exact⟨0,_, [],Bg _,rfl,I ⟨by rw[size_madeCells],by simp⟩,I (by rw[List.take_zero,Ce];exact .nil),QR,QF,QA,b5,I (zP _ HB.1)⟩;clear QR QF QA b5 HB wc;obtain⟨j,C,cs,Y,rfl,M,F,r,A,N,R,T⟩:=hrel;by_cases P:j<c.length
 . obtain⟨b,h4,rfl,hb,b6⟩:=HA.1.cells (by omega);have b7:Below B w wr:=(An B w).grown T.1 hB (λj Y=>by cases Y;exact d3);have⟨G,d,h5,⟨c0,c1,c2,c3⟩,a3,U⟩:=(b6.keep b7).at j P;have h6:=Ag N.1;have h7:=Ag A.1;have h8:b<wr.heap.size:=by omega
   have HF:=I a3;have b8:=I (U.keep ((J wr (oE (Au c j) G d)).mono (by omega)));have b9:=I (R.1.below (J wr (oE (Au c j) G d)));have c4:=I (Lib.grownBy_trans T.1 (zP (some vb) (J wr (oE (Au c j) G d))));have c5:=I (F.1.step (J wr (oE (Au c j) G d)).size (λb h _=>(J wr (oE (Au c j) G d)).block b h) (λ_ _ h=>h));have Z:=I (zd (o':=(oE (Au c j) G d)) r.1);have E:=I (zd (o':=(oE (Au c j) G d)) A.1);have b0:=I (zd (o':=(oE (Au c j) G d)) N.1);have t:=I (zh wr (oE (Au c j) G d));clear U b6 a3 R T r A N b7 F;go_wp2_with fail;generalize wr.alloc (oE (Au c j) G d)=z at*;have z2:z.drew.cell? (aD K 2)=some (Kx g 0 c.length c.length):=zm E.1 rfl;have x0:z.drew.cell? (aD wr.heap.size 0)=some (Bn (Au c j).op):=zm t.1 rfl;have x1:z.drew.cell? (aD wr.heap.size 1)=some (Bn (Au c j).num):=zm t.1 rfl;have x2:z.drew.cell? (aD wr.heap.size 2)=some (B_ (Au c j).name):=zm t.1 rfl;have x3:z.drew.cell? (aD wr.heap.size 3)=some (CU G (Au c j).args.length d):=zm t.1 rfl;have d8:z.cell? (aD K 2)=some (Kx g 0 c.length c.length):=zm E.1 rfl;have d9:z.cell? (aD wr.heap.size 0)=some (Bn (Au c j).op):=zm t.1 rfl;have f0:z.cell? (aD wr.heap.size 1)=some (Bn (Au c j).num):=zm t.1 rfl;have f1:z.cell? (aD wr.heap.size 2)=some (B_ (Au c j).name):=zm t.1 rfl;have f2:z.cell? (aD wr.heap.size 3)=some (CU G (Au c j).args.length d):=zm t.1 rfl;have xs:=Ag t.1;have a4:=I (b9.1.below ((An _ z).drew));have a5:=I (b8.1.keep ((An B z).drew));have f3:=Rc (x:=.mk o m s c) P;have f4:=kI HW.1 j P;have f5:Bq (Au c j)<=200:=by have:=iQ (l:=c) j P;omega
   have f6:=d5.1 j P;have f7:z.drew.heap.size=z.heap.size:=rfl;have a6:=Ag b0.1;have a7:=Ag E.1;have D:=Ag t.1;have a0:wr.heap.size≠g:=by omega
   have a8:j*3+3<=C.size:=by have:=M.1.1;omega
   clear d8 d9 f0 f1 f2 xs;have⟨WD,f8⟩:=aT z.drew;go_region_held3 (λw'=>w'.cell? (aD K 2)=some (Kx g 0 c.length c.length)/\w'.cell? (aD wr.heap.size 0)=some (Bn (Au c j).op)/\w'.cell? (aD wr.heap.size 1)=some (Bn (Au c j).num)/\w'.cell? (aD wr.heap.size 2)=some (B_ (Au c j).name)/\w'.cell? (aD wr.heap.size 3)=some (CU G (Au c j).args.length d)) (first|exact⟨z2,x0,x1,x2,x3⟩|exact⟨k2,k3,k4,k5,k6⟩|exact⟨(dT _ b4 _ _ _ _ _ _ _).trans k2,(dT _ a0 _ _ _ _ _ _ _).trans k3,(dT _ a0 _ _ _ _ _ _ _).trans k4,(dT _ a0 _ _ _ _ _ _ _).trans k5,(dT _ a0 _ _ _ _ _ _ _).trans k6⟩)
    (first|(go_at_call 84;refine(IH.1 (Au c j) f3 G d z.drew a4.1 HF.1 f4 f5 f6 a5.1).mono ?_;rintro e w2 ⟨fa,fc,rfl,b1,c6,c7,p⟩;have q4:=(p.block _ a6 (by simp;omega)).trans b0.1;have k2:=(p.cell_far (aD K 2) a7 (by simp;omega)).trans z2;have k3:=(p.cell_far (aD wr.heap.size 0) D (by simp;omega)).trans x0;have k4:=(p.cell_far (aD wr.heap.size 1) D (by simp;omega)).trans x1;have k5:=(p.cell_far (aD wr.heap.size 2) D (by simp;omega)).trans x2;have k6:=(p.cell_far (aD wr.heap.size 3) D (by simp;omega)).trans x3;have y0:=zm (j:=j*3) q4 (Array.getElem?_eq_getElem (by omega));have y1:=zm (j:=j*3+1) q4 (Array.getElem?_eq_getElem (by omega));have y2:=zm (j:=j*3+2) q4 (Array.getElem?_eq_getElem (by omega));have u0:=zQ (j:=j*3) q4;have u1:=zQ (j:=j*3+1) q4;have u2:=zQ (j:=j*3+2) q4))
   have⟨f,V⟩:=aT (Bj (Ec l n) k (Au c j));rw[<-V]at b1 c6;simp only[<-V];have h9:vb≠g:=by omega
   have G3:=Lib.grownBy_setB (Lib.grownBy_setB (Lib.grownBy_setCell w2 g (j*3) (Bn f.op)) (j*3+1) (Bn f.num)) (j*3+2) (CU fa f.args.length fc);have s2:z.heap.size<=w2.heap.size:=p.size;have s3:w2.heap.size<=(((w2.setCell (aD g (j*3)) (Bn f.op)).setCell (aD g (j*3+1)) (Bn f.num)).setCell (aD g (j*3+2)) (CU fa f.args.length fc)).heap.size:=G3.size;have a9:=b1.step (X':=λb=>b<w.heap.size+2\/b=g) s3 (λb h1 h2=>G3.block b h1 (by simp;intro e;exact h2 (by show b<z.heap.size;omega))) (λb h1 h2=>by show b<z.heap.size;rcases h2 with h2|h2 <;> omega);have c8:=c5.1.step (X':=λb=>b<w.heap.size+2\/b=g) (Bf s2 s3) (λb h1 h2=>(G3.block b (by omega) (by simp;intro e;exact h2 (.inr e))).trans (p.block b h1 (by simp;intro e;exact h2 (.inl (by omega))))) (λb _ h=>h);have c9:=I (En.snoc (cap:=fc) c8 (by omega) a9);rw[V,<-nG (Ec l n) k c j P,<-V]at c9;have Q3:=I (zg (i:=j*3+2) (u:=CU fa f.args.length fc) (zg (i:=j*3+1) (u:=Bn f.num) (zg (i:=j*3) (u:=Bn f.op) q4)));have d0:Af ((((C.setIfInBounds (j*3) (Bn f.op)).setIfInBounds (j*3+1) (Bn f.num)).setIfInBounds (j*3+2) (CU fa f.args.length fc)).size=c.length*3/\(((C.setIfInBounds (j*3) (Bn f.op)).setIfInBounds (j*3+1) (Bn f.num)).setIfInBounds (j*3+2) (CU fa f.args.length fc)).toList.take ((j+1)*3)=cs++ [Bn f.op,Bn f.num,CU fa f.args.length fc]):=I ⟨by simp[M.1.1],by have:=JF M.1.2 a8 (Bn f.op) (Bn f.num) (CU fa f.args.length fc);rw[show(j+1)*3=j*3+3 by omega];exact this⟩;have f9:=I ((G3.block _ (by have:=Ag Z.1;omega) (by simp;omega)).trans ((p.block _ (Ag Z.1) (by simp;omega)).trans Z.1));have g0:=I ((G3.block _ (by have:=Ag E.1;omega) (by simp;omega)).trans ((p.block _ (Ag E.1) (by simp;omega)).trans E.1));have g1:=I (c7.other G3 (λj Y=>by cases Y;omega) (by simp;omega) (by simp;omega) (by simp;omega) (λk hk=>by have:=(HC.1.places k hk).lt;simp;omega));have g2:=I ((Lib.grownBy_trans (tE c4.1) p).andThen G3 (λj Y=>by cases Y;exact .inl (by omega)));clear b1 c6 c7 p q4 k2 k3 k4 k5 k6 y0 y1 y2 u0 u1 u2 G3 a9 c8 c5 Z E b0 t b9 a4 c4 a5 b8 z2 x0 x1 x2 x3 f7 a6 a7 D a8 M V c0 c1 c2 c3 s2 s3 f8;generalize (((w2.setCell (aD g (j*3)) (Bn f.op)).setCell (aD g (j*3+1)) (Bn f.num)).setCell (aD g (j*3+2)) (CU fa f.args.length fc))=W4 at*;go_wp2;go_roundw;exact⟨j+1,_,_,by omega,by go_num,d0,c9,f9,g0,Q3,g1,g2⟩;simp[intOf];omega
 obtain rfl:j=c.length:=by omega
 have H:=F.1;rw[List.take_length]at H;have v0:wr.cell? (aD K 0)=some (Bn o):=zm A.1 rfl;have v1:wr.cell? (aD K 1)=some (Bn 0):=zm A.1 rfl;have v2:wr.cell? (aD K 2)=some (Kx g 0 c.length c.length):=zm A.1 rfl;have y0:wr.cell? (aD (w.heap.size+1) 0)=some (Bn 0):=zm r.1 rfl;have y1:wr.cell? (aD (w.heap.size+1) 1)=some (Bn 0):=zm r.1 rfl;have y2:wr.cell? (aD (w.heap.size+1) 2)=some Ls:=zm r.1 rfl;have u0:wr.frozen? (aD (w.heap.size+1) 0)=false:=zQ r.1;have u1:wr.frozen? (aD (w.heap.size+1) 1)=false:=zQ r.1;have u2:wr.frozen? (aD (w.heap.size+1) 2)=false:=zQ r.1;have us:=Ag r.1;have uf:=Ag A.1;have ua:=Ag N.1;have Q:=zg (i:=2) (u:=Kx g 0 c.length c.length) (zg (i:=1) (u:=Bn 0) (zg (i:=0) (u:=Bn o) r.1));have G1:=Lib.grownBy_setB (Lib.grownBy_setB (Lib.grownBy_setCell wr (w.heap.size+1) 0 (Bn o)) 1 (Bn 0)) 2 (Kx g 0 c.length c.length);have r0:(((wr.setCell (aD (w.heap.size+1) 0) (Bn o)).setCell (aD (w.heap.size+1) 1) (Bn 0)).setCell (aD (w.heap.size+1) 2) (Kx g 0 c.length c.length)).cell? (aD (w.heap.size+1) 0)=some (Bn o):=zm Q rfl;have r1:(((wr.setCell (aD (w.heap.size+1) 0) (Bn o)).setCell (aD (w.heap.size+1) 1) (Bn 0)).setCell (aD (w.heap.size+1) 2) (Kx g 0 c.length c.length)).cell? (aD (w.heap.size+1) 1)=some (Bn 0):=zm Q rfl;have r2:(((wr.setCell (aD (w.heap.size+1) 0) (Bn o)).setCell (aD (w.heap.size+1) 1) (Bn 0)).setCell (aD (w.heap.size+1) 2) (Kx g 0 c.length c.length)).cell? (aD (w.heap.size+1) 2)=some (Kx g 0 c.length c.length):=zm Q rfl;have g3:=I (T.1.andThen G1 (λj Y=>by cases Y;exact .inl (by omega)));have g4:=I (R.1.other G1 (λj Y=>by cases Y;omega) (by simp;omega) (by simp;omega) (by simp;omega) (λk hk=>by have:=(HC.1.places k hk).lt;simp;omega));have X:cs.length=c.length*3:=by rw[H.len,aO]
 have d1:C.toList.take cs.length=cs:=by rw[X];exact M.1.2
 have d2:=H.step (X':=λb=>b<w.heap.size) (w':=(((wr.setCell (aD (w.heap.size+1) 0) (Bn o)).setCell (aD (w.heap.size+1) 1) (Bn 0)).setCell (aD (w.heap.size+1) 2) (Kx g 0 c.length c.length))) G1.size (λb h1 h2=>G1.block b h1 (by simp;intro e;exact h2 (.inl (by omega)))) (λb _ h=>.inl (by omega));have g5:=I (d2.forms (b:=g) ((G1.block g ua (by simp;omega)).trans N.1) (by omega) d1);clear Q G1 d2 d1 X H F M r A N R T;go_wp2_with fail;generalize (((wr.setCell (aD (w.heap.size+1) 0) (Bn o)).setCell (aD (w.heap.size+1) 1) (Bn 0)).setCell (aD (w.heap.size+1) 2) (Kx g 0 c.length c.length))=Wf at*;refine bP (v:=.agg #[o,Bn 0,Kx g 0 c.length c.length]) (by simp[results,results84,go_sem,r0,r1,r2]) rfl ?_;rw[Hz.1];refine⟨some (aD g 0),c.length,?_,⟨g,0,λ_=>rfl,g5.1⟩,?_,g4.1,g3.1⟩;simp only[zE.op,zE.num,zE.args,aO];simp only[zE.args,aO];exact a1
def vO(B c d e:Nat)(f:List Nat)(l:List zB)(a:Ae)(cap:Nat)(n:Nat)(b:∀i,i<n->i<l.length->(Bx l i).2=0->kH B c d e f l a cap i):rH B c d e f l a cap n:=by
 intro k x;have⟨m,C⟩:=aT (SizeOf.sizeOf x);induction m using Nat.strongRecOn generalizing x with
 |_ m ih=>
  subst C;intro g h w q r G j p y D;obtain⟨o,t,s,u⟩:=x;have⟨z,_⟩:=Zb j;simp only[Nr,Em]at z;have⟨v,A⟩:=Om.1 z.1.1.1;by_cases E:o=6
  . subst E;exact KW B c d e f l a cap n b k q t s u g h w r y
  by_cases F:o<=5
  . exact KV B c d e f l a cap (Ec l n) k o t s u g h w v F r
  exact JY B c d e f l a cap n k q o t s u (by omega) g h w r j p y D (λx hx g h w v A h3 h4 h5 h6=>ih _ hx x rfl g h w q v A h3 h4 h5 h6)
def ID(B b c d:Nat)(e:List Nat)(l:List zB)(a:Ae)(cap:Nat)(i:Nat)(f:i<l.length)(g:(Bx l i).2=0):kH B b c d e l a cap i:=by
 induction i using Nat.strongRecOn with
 |_ i ih=>exact KS B b c d e l a cap i f g (vO B b c d e l a cap i (λj hj hjl hj0=>ih j hj hjl hj0))
def LC(B b c d:Nat)(e:List Nat)(l:List zB)(a:Ae)(cap:Nat)(n:Nat):rH B b c d e l a cap n:=vO B b c d e l a cap n (λi _ hi h0=>ID B b c d e l a cap i hi h0)
