/- a part of the proof -/
import Derived.Deep.DeepCutAuto
import Derived.Deep.CutBlock
import Derived.Test.YtafdcbmgdfliiaaGreatG3
set_option linter.all false
set_option maxRecDepth 100000
set_option maxHeartbeats 3000000
namespace Go.Proofs.YtafdcbmgdfliiaaGreat
open Go.RowKit Go.Sort Go.Proofs.Tryz
variable {s:BA}{a d k n:Nat}{l:List zH}{o:Int}
def Yw(n:Int)(w:Wd):CE 174 #[n] w (Fz n):=by
 delta CE;go_in;go_wp2_with fail
 all_goals (go_ret;exact⟨ze (by unfold Fz;(repeat' split) <;> omega),rfl⟩)
def nJ(a b:Int)(w:Wd)(g:wA a)(h:wA b):CE 175 #[a,b] w (Fz (a+b)):=by
 obtain⟨j,k⟩:=g;obtain⟨l,m⟩:=h;have n:IntKind.i64.wrap (a+b)=a+b:=by rw[wI];omega
 by_cases o:0<a <;> by_cases p:0<b
 . have i:¬ a+b<0:=by omega
   delta CE;go_in;go_wp2_with (go_at_call 174;refine cb (Yw _ _) ?_)
   all_goals (go_ret;exact⟨rfl,rfl⟩)
 . have d:b<=0:=by omega
   delta CE;go_in;go_wp2_with (go_at_call 174;refine cb (Yw _ _) ?_)
   all_goals (go_ret;exact⟨rfl,rfl⟩)
 . have f:a<=0:=by omega
   delta CE;go_in;go_wp2_with (go_at_call 174;refine cb (Yw _ _) ?_)
   all_goals (go_ret;exact⟨rfl,rfl⟩)
 have f:a<=0:=by omega
 have d:b<=0:=by omega
 by_cases q:a<0
 . by_cases r:b<0
   . have i:a+b<0:=by omega
     delta CE;go_in;go_wp2_with (go_at_call 174;refine cb (Yw _ _) ?_)
     all_goals (go_ret;exact⟨rfl,rfl⟩)
   delta CE;go_in;go_wp2_with (go_at_call 174;refine cb (Yw _ _) ?_)
   all_goals (go_ret;exact⟨rfl,rfl⟩)
 delta CE;go_in;go_wp2_with (go_at_call 174;refine cb (Yw _ _) ?_)
 all_goals (go_ret;exact⟨rfl,rfl⟩)
def gP(n:Int)(w:Wd)(h:wA n):CE 239 #[n] w (.int .u64 (n.natAbs:Int)):=by
 obtain⟨a,b⟩:=h;by_cases c:n<0
 . delta CE;go_in;go_wp2;go_ret;refine⟨ze ?_,rfl⟩;simp only[IntKind.wrap_u64];omega
 delta CE;go_in;go_wp2;go_ret;refine⟨ze ?_,rfl⟩;try simp only[IntKind.wrap_u64]
 omega
theorem zry(a b x y:Int)(j:x=a.natAbs)(k:y=b.natAbs)(l:b≠0):Er a b=if(decide (a<0) !=decide (b<0))=true then -(if x<=1099511627776/y then x*y else 1099511627776) else if x<=1099511627776/y then x*y else 1099511627776:=by
 have f:0<y:=by omega
 have g:0<=x:=by omega
 have d:x<=1099511627776/y ↔ x*y<=1099511627776:=Int.le_ediv_iff_mul_le f;have m:0<=x*y:=Int.mul_nonneg g (by omega);have i:a*b=if(decide (a<0) !=decide (b<0))=true then -(x*y) else x*y:=by
  by_cases c:a<0 <;> by_cases e:b<0;rw[iN (by simp[c,e]),show a=-x by omega,show b=-y by omega];simp[Int.neg_mul,Int.mul_neg];rw[iP (by simp[c,e]),show a=-x by omega,show b=y by omega];simp[Int.neg_mul,Int.mul_neg];rw[iP (by simp[c,e]),show a=x by omega,show b=-y by omega];simp[Int.neg_mul,Int.mul_neg];rw[iN (by simp[c,e]),show a=x by omega,show b=y by omega]
 grind[Er,Fz]
def KJ(a b:Int)(w:Wd)(p:wA a)(q:wA b):CE 176 #[a,b] w (Er a b):=by
 by_cases m:a=0
 . subst m;have c:=I (show Er 0 b=0 by rw[Er,Int.zero_mul];decide);delta CE;go_in;go_wp2;go_ret;exact⟨ze c.1.symm,rfl⟩
 have A:=RZ m
 by_cases i:b=0
 . subst i;have c:=I (show Er a 0=0 by rw[Er,Int.mul_zero];decide);delta CE;go_in;go_wp2;go_ret;exact⟨ze c.1.symm,rfl⟩
 have B:=RZ i
 obtain⟨x,r⟩:∃x:Int,x=(a.natAbs:Int):=⟨_,rfl⟩;obtain⟨y,s⟩:∃y:Int,y=(b.natAbs:Int):=⟨_,rfl⟩;have t:0<y:=by omega
 have u:0<=x:=by omega
 have v:x<=1099511627776:=by unfold wA at p;omega
 have z:y<=1099511627776:=by unfold wA at q;omega
 have n:=I (gP a w p);have o:=I (gP b w q);rw[<-r]at n;rw[<-s]at o;have c:=I (zry a b x y r s i);clear r s p q;have f:Af (x<=1099511627776/y ↔ x*y<=1099511627776):=I (Int.le_ediv_iff_mul_le t);have C:0<=x*y:=Int.mul_nonneg u (by omega);by_cases g:a<0 <;> by_cases h:b<0
 . have j:decide (a<0)=true:=by simpa using g
   have k:decide (b<0)=true:=by simpa using h
   have l:=I (show Er a b=if x<=1099511627776/y then x*y else 1099511627776 by rw[c.1,j,k];try rfl);clear c g h;delta CE;go_in;go_wp2_with fail;refine n.1.mono ?_;rintro e d ⟨rfl,rfl⟩;go_wp2_with fail;refine o.1.mono ?_;rintro e d ⟨rfl,rfl⟩;go_wp2_with fail
   all_goals (go_ret;exact⟨ze (by rw[l.1];have:=f.1;split <;> (try simp only[IntKind.wrap_u64,wI,wrap64]) <;> omega),rfl⟩)
 . have j:decide (a<0)=true:=by simpa using g
   have k:decide (b<0)=false:=by simpa using h
   have l:=I (show Er a b=-(if x<=1099511627776/y then x*y else 1099511627776) by rw[c.1,j,k];try rfl);clear c g h;delta CE;go_in;go_wp2_with fail;refine n.1.mono ?_;rintro e d ⟨rfl,rfl⟩;go_wp2_with fail;refine o.1.mono ?_;rintro e d ⟨rfl,rfl⟩;go_wp2_with fail
   all_goals (go_ret;exact⟨ze (by rw[l.1];have:=f.1;split <;> (try simp only[IntKind.wrap_u64,wI,wrap64]) <;> omega),rfl⟩)
 . have j:decide (a<0)=false:=by simpa using g
   have k:decide (b<0)=true:=by simpa using h
   have l:=I (show Er a b=-(if x<=1099511627776/y then x*y else 1099511627776) by rw[c.1,j,k];try rfl);clear c g h;delta CE;go_in;go_wp2_with fail;refine n.1.mono ?_;rintro e d ⟨rfl,rfl⟩;go_wp2_with fail;refine o.1.mono ?_;rintro e d ⟨rfl,rfl⟩;go_wp2_with fail
   all_goals (go_ret;exact⟨ze (by rw[l.1];have:=f.1;split <;> (try simp only[IntKind.wrap_u64,wI,wrap64]) <;> omega),rfl⟩)
 have j:decide (a<0)=false:=by simpa using g
 have k:decide (b<0)=false:=by simpa using h
 have l:=I (show Er a b=if x<=1099511627776/y then x*y else 1099511627776 by rw[c.1,j,k];try rfl);clear c g h;delta CE;go_in;go_wp2_with fail;refine n.1.mono ?_;rintro e d ⟨rfl,rfl⟩;go_wp2_with fail;refine o.1.mono ?_;rintro e d ⟨rfl,rfl⟩;go_wp2_with fail
 all_goals (go_ret;exact⟨ze (by rw[l.1];have:=f.1;split <;> (try simp only[IntKind.wrap_u64,wI,wrap64]) <;> omega),rfl⟩)
theorem RW(a b:Int)(j:b≠0):Di a b=if decide (a<0)=decide (b<0) then((a.natAbs/b.natAbs:Nat):Int) else if 0<a.natAbs%b.natAbs then -(((a.natAbs/b.natAbs:Nat):Int)+1) else -((a.natAbs/b.natAbs:Nat):Int):=by
 have g:a.tmod b=0 ↔ a.natAbs%b.natAbs=0:=by
  rw[<-Int.natAbs_tmod];omega
 have k:a.tdiv b=if decide (a<0)=decide (b<0) then((a.natAbs/b.natAbs:Nat):Int) else -((a.natAbs/b.natAbs:Nat):Int):=by
  by_cases e:a<0 <;> by_cases f:b<0;have c:a=-(a.natAbs:Int):=by omega
  have d:b=-(b.natAbs:Int):=by omega
  rw[iP (by simp[e,f])];generalize a.natAbs=p at*;generalize b.natAbs=q at*;subst c d;rw[Int.neg_tdiv,Int.tdiv_neg,Int.neg_neg,Int.ofNat_tdiv];have c:a=-(a.natAbs:Int):=by omega
  have d:b=(b.natAbs:Int):=by omega
  rw[iN (by simp[e,f])];generalize a.natAbs=p at*;generalize b.natAbs=q at*;subst c d;rw[Int.neg_tdiv,Int.ofNat_tdiv];have c:a=(a.natAbs:Int):=by omega
  have d:b=-(b.natAbs:Int):=by omega
  rw[iN (by simp[e,f])];generalize a.natAbs=p at*;generalize b.natAbs=q at*;subst c d;rw[Int.tdiv_neg,Int.ofNat_tdiv];have c:a=(a.natAbs:Int):=by omega
  have d:b=(b.natAbs:Int):=by omega
  rw[iP (by simp[e,f])];generalize a.natAbs=p at*;generalize b.natAbs=q at*;subst c d;rw[Int.ofNat_tdiv]
 grind[Di]
theorem RV(a b x y:Int)(c:x=a.natAbs)(d:y=b.natAbs)(e:b≠0):Di a b=if decide (a<0)=decide (b<0) then x/y else if 0<x%y then -(x/y+1) else -(x/y):=by
 grind[RW]
theorem NR(x y:Int)(a:0<=x)(d:0<y)(c:x<=1099511627776):0<=x/y/\x/y<=1099511627776/\(0<x%y->x/y+1<=1099511627776):=by
 have e:x/y<=x:=Int.ediv_le_self y a;have b:0<=x/y:=Int.ediv_nonneg a (by omega);grind[Int.mul_ediv_add_emod]
def JU(a b:Int)(w:Wd)(n:wA a)(o:wA b):CE 177 #[a,b] w (Di a b):=by
 by_cases i:b=0
 . subst i;have d:=I (show Di a 0=0 by rw[Di,iP rfl]);delta CE;go_in;go_wp2;go_ret;exact⟨ze d.1.symm,rfl⟩
 have v:=RZ i
 obtain⟨x,p⟩:∃x:Int,x=(a.natAbs:Int):=⟨_,rfl⟩;obtain⟨y,q⟩:∃y:Int,y=(b.natAbs:Int):=⟨_,rfl⟩;have r:0<y:=by omega
 have s:0<=x:=by omega
 have t:x<=1099511627776:=by unfold wA at n;omega
 have u:y<=1099511627776:=by unfold wA at o;omega
 have l:=I (gP a w n);have m:=I (gP b w o);rw[<-p]at l;rw[<-q]at m;have d:=I (RV a b x y p q i);have⟨z,A,B⟩:=NR x y s r t;clear p q n o;by_cases g:a<0 <;> by_cases h:b<0
 . have j:decide (a<0)=true:=by simpa using g
   have k:decide (b<0)=true:=by simpa using h
   have c:=I (show Di a b=x/y by rw[d.1,j,k];try rfl);clear d g h;delta CE;go_in;go_wp2_with fail;refine l.1.mono ?_;rintro e f ⟨rfl,rfl⟩;go_wp2_with fail;refine m.1.mono ?_;rintro e f ⟨rfl,rfl⟩;go_wp2_with fail
   all_goals (go_ret;exact⟨ze (by first|(rw[c.1];done)|(rw[c.1];(repeat' split) <;> (try simp only[IntKind.wrap_u64,wI,wrap64]) <;> omega)),rfl⟩)
 . have j:decide (a<0)=true:=by simpa using g
   have k:decide (b<0)=false:=by simpa using h
   have c:=I (show Di a b=if 0<x%y then -(x/y+1) else -(x/y) by rw[d.1,j,k];try rfl);clear d g h;delta CE;go_in;go_wp2_with fail;refine l.1.mono ?_;rintro e f ⟨rfl,rfl⟩;go_wp2_with fail;refine m.1.mono ?_;rintro e f ⟨rfl,rfl⟩;go_wp2_with fail
   all_goals (go_ret;exact⟨ze (by first|(rw[c.1];done)|(rw[c.1];(repeat' split) <;> (try simp only[IntKind.wrap_u64,wI,wrap64]) <;> omega)),rfl⟩)
 . have j:decide (a<0)=false:=by simpa using g
   have k:decide (b<0)=true:=by simpa using h
   have c:=I (show Di a b=if 0<x%y then -(x/y+1) else -(x/y) by rw[d.1,j,k];try rfl);clear d g h;delta CE;go_in;go_wp2_with fail;refine l.1.mono ?_;rintro e f ⟨rfl,rfl⟩;go_wp2_with fail;refine m.1.mono ?_;rintro e f ⟨rfl,rfl⟩;go_wp2_with fail
   all_goals (go_ret;exact⟨ze (by first|(rw[c.1];done)|(rw[c.1];(repeat' split) <;> (try simp only[IntKind.wrap_u64,wI,wrap64]) <;> omega)),rfl⟩)
 have j:decide (a<0)=false:=by simpa using g
 have k:decide (b<0)=false:=by simpa using h
 have c:=I (show Di a b=x/y by rw[d.1,j,k];try rfl);clear d g h;delta CE;go_in;go_wp2_with fail;refine l.1.mono ?_;rintro e f ⟨rfl,rfl⟩;go_wp2_with fail;refine m.1.mono ?_;rintro e f ⟨rfl,rfl⟩;go_wp2_with fail
 all_goals (go_ret;exact⟨ze (by first|(rw[c.1];done)|(rw[c.1];(repeat' split) <;> (try simp only[IntKind.wrap_u64,wI,wrap64]) <;> omega)),rfl⟩)
theorem VG(c f t:Int):Rg c f t=Ff c f t:=by simp_all[Rg,Ff]
def IK(c f t:Int)(w:Wd):CE 178 #[c,f,t] w (.bool (Ff c f t)):=by
 delta CE;go_in;go_wp2_with fail;refine cb (Th c f t w) ?_;go_wp2;go_ret;exact⟨by rw[VG];rfl,rfl⟩
def Ju(k n:Int):Int:=if k=3 then n%1440 else if k=4 then Iw (n !=0) else Fz n
def PU(k n:Int)(w:Wd)(f:-9000000000000000000<=n)(g:n<=9000000000000000000):CE 108 #[k,n] w (Ju k n):=by
 by_cases c:k=3
 . subst c;have a:=I (show Ju 3 n=n%1440 by simp[Ju]);delta CE;go_in;go_wp2_with fail;refine cb (Si n w f g) ?_;go_wp2;go_ret;exact⟨ze a.1.symm,rfl⟩
 by_cases d:k=4
 . subst d;have a:=I (show Ju 4 n=Iw (n !=0) by simp[Ju]);delta CE;go_in;go_wp2_with fail;refine cb (bG _ w) ?_;go_wp2;go_ret;exact⟨ze a.1.symm,rfl⟩
 have h:=RZ c
 have i:=RZ d
 have a:=I (show Ju k n=Fz n by rw[Ju,iN c,iN d]);delta CE;go_in;go_wp2_with fail;refine cb (Yw n w) ?_;go_wp2;go_ret;exact⟨ze a.1.symm,rfl⟩
def Fw(o n:Int)(v:LI):Int:=if o<=3 then n else if o=4 then 1 else if o=5 then 0 else Fx o v
def VS(n:Int)(a:Ae)(b c:Nat)(w:Wd):CV 110 #[Bn 1,n,CU a b c] w (n):=by
 delta CV;go_in;go_wp2;go_ret;exact⟨rfl,An _ _⟩
def VR(n:Int)(a:Ae)(b c:Nat)(w:Wd):CV 110 #[Bn 2,n,CU a b c] w (n):=by
 delta CV;go_in;go_wp2;go_ret;exact⟨rfl,An _ _⟩
def VQ(n:Int)(a:Ae)(b c:Nat)(w:Wd):CV 110 #[Bn 3,n,CU a b c] w (n):=by
 delta CV;go_in;go_wp2;go_ret;exact⟨rfl,An _ _⟩
def VP(n:Int)(a:Ae)(b c:Nat)(w:Wd):CV 110 #[Bn 4,n,CU a b c] w (Bn (1)):=by
 delta CV;go_in;go_wp2;go_ret;exact⟨rfl,An _ _⟩
def VO(n:Int)(a:Ae)(b c:Nat)(w:Wd):CV 110 #[Bn 5,n,CU a b c] w (Bn (0)):=by
 delta CV;go_in;go_wp2;go_ret;exact⟨rfl,An _ _⟩
def VN(n a:Int)(b c g:Nat)(w:Wd)(h:b<w.heap.size)(d:wA a)(i:w.cell? (aD b c)=some (Bn a)):CV 110 #[Bn 7,n,Kx b c 1 g] w (Fz (0+-a)):=by
 have j:=d;obtain⟨k,l⟩:=d;have m:IntKind.i64.wrap (-a)=-a:=by rw[wI];omega
 delta CV;go_in;go_wp2_with fail;refine cb (nJ 0 (-a) w (by unfold wA;omega) (by unfold wA;omega)) ?_;go_wp2;go_ret;exact⟨ze (by rw[Int.zero_add]),An _ _⟩
def RH(n a:Int)(b c d:Nat)(w:Wd)(g:b<w.heap.size)(f:wA a)(h:w.cell? (aD b c)=some (Bn a)):CV 110 #[Bn 19,n,Kx b c 1 d] w (Bn (1-a)):=by
 obtain⟨i,j⟩:=f;have k:IntKind.i64.wrap (1-a)=1-a:=by rw[wI];omega
 delta CV;go_in;go_wp2;go_ret;exact⟨rfl,An _ _⟩
def VM(n x y:Int)(b a f:Nat)(w:Wd)(i:b<w.heap.size)(c:wA x)(d:wA y)(j:w.cell? (aD b a)=some (Bn x))(k:w.cell? (aD b (a+1))=some (Bn y)):CV 110 #[Bn 8,n,Kx b a 2 f] w (Fz (x+y)):=by
 have g:=I (λm=>Calls.quiet_of_same (w:=w) (n:=m) ((nJ x y (w.drewN m) c d).mono λ_ _ h=>⟨h.1,h.2.symm⟩));obtain⟨l,o⟩:=c;obtain⟨p,q⟩:=d;delta CV;go_in;go_wp2_with fail;go_quiet ((go_at_call 175;exact g.1 _));go_wp2;go_ret;exact⟨rfl,dN (An _ _) _⟩
def VL(n x y:Int)(b a d:Nat)(w:Wd)(i:b<w.heap.size)(c:wA x)(f:wA y)(j:w.cell? (aD b a)=some (Bn x))(k:w.cell? (aD b (a+1))=some (Bn y)):CV 110 #[Bn 9,n,Kx b a 2 d] w (Fz (x+-y)):=by
 have g:=I (λm=>Calls.quiet_of_same (w:=w) (n:=m) ((nJ x (-y) (w.drewN m) c (by unfold wA at*;omega)).mono λ_ _ h=>⟨h.1,h.2.symm⟩));obtain⟨l,o⟩:=c;obtain⟨p,q⟩:=f;have r:IntKind.i64.wrap (-y)=-y:=by rw[wI];omega
 delta CV;go_in;go_wp2_with fail;go_quiet ((go_at_call 175;exact g.1 _));go_wp2;go_ret;exact⟨rfl,dN (An _ _) _⟩
def UH(n x y:Int)(b a f:Nat)(w:Wd)(i:b<w.heap.size)(c:wA x)(d:wA y)(j:w.cell? (aD b a)=some (Bn x))(k:w.cell? (aD b (a+1))=some (Bn y)):CV 110 #[Bn 10,n,Kx b a 2 f] w (Er x y):=by
 have g:=I (λm=>Calls.quiet_of_same (w:=w) (n:=m) ((KJ x y (w.drewN m) c d).mono λ_ _ h=>⟨h.1,h.2.symm⟩));obtain⟨l,o⟩:=c;obtain⟨p,q⟩:=d;delta CV;go_in;go_wp2_with fail;go_quiet ((go_at_call 176;exact g.1 _));go_wp2;go_ret;exact⟨rfl,dN (An _ _) _⟩
def UG(n x y:Int)(b a f:Nat)(w:Wd)(i:b<w.heap.size)(c:wA x)(d:wA y)(j:w.cell? (aD b a)=some (Bn x))(k:w.cell? (aD b (a+1))=some (Bn y)):CV 110 #[Bn 11,n,Kx b a 2 f] w (Di x y):=by
 have g:=I (λm=>Calls.quiet_of_same (w:=w) (n:=m) ((JU x y (w.drewN m) c d).mono λ_ _ h=>⟨h.1,h.2.symm⟩));obtain⟨l,o⟩:=c;obtain⟨p,q⟩:=d;delta CV;go_in;go_wp2_with fail;go_quiet ((go_at_call 177;exact g.1 _));go_wp2;go_ret;exact⟨rfl,dN (An _ _) _⟩
def RL(n x y:Int)(b a c:Nat)(w:Wd)(i:b<w.heap.size)(d:wA x)(f:wA y)(j:w.cell? (aD b a)=some (Bn x))(k:w.cell? (aD b (a+1))=some (Bn y)):CV 110 #[Bn 16,n,Kx b a 2 c] w (Iw (decide (x<y))):=by
 have g:=I (λm=>Calls.quiet_of_same (w:=w) (n:=m) ((bG (decide (x<y)) (w.drewN m)).mono λ_ _ h=>⟨h.1,h.2.symm⟩));obtain⟨l,o⟩:=d;obtain⟨p,q⟩:=f;delta CV;go_in;go_wp2_with fail;go_quiet ((go_at_call 173;exact g.1 _));go_wp2;go_ret;exact⟨rfl,dN (An _ _) _⟩
def RJ(n x y:Int)(b a c:Nat)(w:Wd)(i:b<w.heap.size)(d:wA x)(f:wA y)(j:w.cell? (aD b a)=some (Bn x))(k:w.cell? (aD b (a+1))=some (Bn y)):CV 110 #[Bn 17,n,Kx b a 2 c] w (Iw (decide (x<=y))):=by
 have g:=I (λm=>Calls.quiet_of_same (w:=w) (n:=m) ((bG (decide (x<=y)) (w.drewN m)).mono λ_ _ h=>⟨h.1,h.2.symm⟩));obtain⟨l,o⟩:=d;obtain⟨p,q⟩:=f;delta CV;go_in;go_wp2_with fail;go_quiet ((go_at_call 173;exact g.1 _));go_wp2;go_ret;exact⟨rfl,dN (An _ _) _⟩
def RI(n x y:Int)(b a c:Nat)(w:Wd)(i:b<w.heap.size)(d:wA x)(f:wA y)(j:w.cell? (aD b a)=some (Bn x))(k:w.cell? (aD b (a+1))=some (Bn y)):CV 110 #[Bn 18,n,Kx b a 2 c] w (Iw (x==y)):=by
 have g:=I (λm=>Calls.quiet_of_same (w:=w) (n:=m) ((bG (x==y) (w.drewN m)).mono λ_ _ h=>⟨h.1,h.2.symm⟩));obtain⟨l,o⟩:=d;obtain⟨p,q⟩:=f;delta CV;go_in;go_wp2_with fail;go_quiet ((go_at_call 173;exact g.1 _));go_wp2;go_ret;exact⟨rfl,dN (An _ _) _⟩
def RG(n x y:Int)(b a c:Nat)(w:Wd)(g:b<w.heap.size)(d:Gq x)(f:Gq y)(h:w.cell? (aD b a)=some (Bn x))(i:w.cell? (aD b (a+1))=some (Bn y)):CV 110 #[Bn 20,n,Kx b a 2 c] w (Bn (if x=0 then 0 else y)):=by
 rcases d with rfl|rfl <;> rcases f with rfl|rfl
 all_goals
  delta CV;go_in
  go_wp2;go_quiet (fail)
  go_wp2;go_ret;exact⟨rfl,dN (An _ _) _⟩
def RF(n x y:Int)(b a c:Nat)(w:Wd)(g:b<w.heap.size)(d:Gq x)(f:Gq y)(h:w.cell? (aD b a)=some (Bn x))(i:w.cell? (aD b (a+1))=some (Bn y)):CV 110 #[Bn 21,n,Kx b a 2 c] w (Bn (if x=0 then y else 1)):=by
 rcases d with rfl|rfl <;> rcases f with rfl|rfl
 all_goals
  delta CV;go_in
  go_wp2;go_quiet (fail)
  go_wp2;go_ret;exact⟨rfl,dN (An _ _) _⟩
theorem RE(n x y:Int)(b a c:Nat)(w:Wd)(g:b<w.heap.size)(d:Gq x)(f:Gq y)(h:w.cell? (aD b a)=some (Bn x))(i:w.cell? (aD b (a+1))=some (Bn y)):CV 110 #[Bn 22,n,Kx b a 2 c] w (Bn (if x=0 then 1 else y)):=by
 rcases d with rfl|rfl <;> rcases f with rfl|rfl
 all_goals
  delta CV;go_in
  go_wp2;go_quiet (fail)
  go_wp2;go_ret;exact⟨rfl,dN (An _ _) _⟩
def UD(n x y z:Int)(b a c:Nat)(w:Wd)(f:b<w.heap.size)(d:Gq x)(g:w.cell? (aD b a)=some (Bn x))(h:w.cell? (aD b (a+1))=some (Bn y))(i:w.cell? (aD b (a+2))=some (Bn z)):CV 110 #[Bn 14,n,Kx b a 3 c] w (Bn (if x≠0 then y else z)):=by
 rcases d with rfl|rfl
 all_goals
  delta CV;go_in
  go_wp2;go_ret;exact⟨rfl,An _ _⟩
def UC(n x y z:Int)(b a c:Nat)(w:Wd)(g:b<w.heap.size)(i:w.cell? (aD b a)=some (Bn x))(j:w.cell? (aD b (a+1))=some (Bn y))(k:w.cell? (aD b (a+2))=some (Bn z)):CV 110 #[Bn 15,n,Kx b a 3 c] w (Iw (Ff x y z)):=by
 have d:=I (λm=>Calls.quiet_of_same (w:=w) (n:=m) ((IK x y z (w.drewN m)).mono λ_ _ h=>⟨h.1,h.2.symm⟩));have f:=I (λm=>Calls.quiet_of_same (w:=w) (n:=m) ((bG (Ff x y z) (w.drewN m)).mono λ_ _ h=>⟨h.1,h.2.symm⟩));delta CV;go_in;go_wp2_with fail;go_quiet (first|(go_at_call 178;exact d.1 _)|(go_at_call 173;exact f.1 _));go_wp2;go_ret;exact⟨rfl,dN (An _ _) _⟩
def UF(n:Int)(v:LI)(o:Ae)(s:Nat)(w:Wd)(p:0<v.length)(A:v.length<=2^47)(q:zW w o v):CV 110 #[Bn 12,n,CU o v.length s] w (Hd (Am v 0) (v.drop 1)):=by
 obtain⟨b,l,rfl,B,d⟩:=q.cells p;have C:w.cell? (aD b l)=some (Bn (Am v 0)):=d 0 p;have t:=I d;clear d q;delta CV;go_in;go_wp2_with fail;go_loop [7,8] (λm i=>∃(k:Nat) (a:Int),1<=k/\k<=v.length/\i=Bn k/\m=Bn a/\Af (Hd (Am v 0) (v.drop 1)=Hd a (v.drop k))) (λ_ i=>v.length-(intOf i).toNat);exact⟨1,_,by omega,by omega,rfl,rfl,I rfl⟩;obtain⟨k,a,u,D,rfl,rfl,c⟩:=hrel;by_cases g:k<v.length
 . have y:=t.1 k g;have f:=I (c.1.trans (by rw[Zn v k g,Hd]));have⟨x,r⟩:=aT (Am v k);rw[<-r]at y f;clear r c;by_cases j:x<a
   . have z:decide (x<a)=true:=by simpa using j
     have h:=I (show min a x=x by omega);clear j;go_wp2;go_round;exact⟨k+1,_,by omega,by omega,by go_num,rfl,I (by rw[f.1,h.1])⟩;simp[intOf];omega
   have z:decide (x<a)=false:=by simpa using j
   have h:=I (show min a x=a by omega);clear j;go_wp2;go_round;exact⟨k+1,_,by omega,by omega,by go_num,rfl,I (by rw[f.1,h.1])⟩;simp[intOf];omega
 obtain rfl:k=v.length:=by omega
 have h:Af (Hd (Am v 0) (v.drop 1)=a):=I (c.1.trans (by rw[List.drop_of_length_le (Bv _),Hd]));go_wp2;go_ret;exact⟨ze (h.1.symm.trans (by rw[List.drop_one])),An _ _⟩
def UE(n:Int)(v:LI)(o:Ae)(s:Nat)(w:Wd)(p:0<v.length)(A:v.length<=2^47)(q:zW w o v):CV 110 #[Bn 13,n,CU o v.length s] w (Hc (Am v 0) (v.drop 1)):=by
 obtain⟨b,l,rfl,B,d⟩:=q.cells p;have C:w.cell? (aD b l)=some (Bn (Am v 0)):=d 0 p;have t:=I d;clear d q;delta CV;go_in;go_wp2_with fail;go_loop [7,8] (λm i=>∃(k:Nat) (a:Int),1<=k/\k<=v.length/\i=Bn k/\m=Bn a/\Af (Hc (Am v 0) (v.drop 1)=Hc a (v.drop k))) (λ_ i=>v.length-(intOf i).toNat);exact⟨1,_,by omega,by omega,rfl,rfl,I rfl⟩;obtain⟨k,a,u,D,rfl,rfl,c⟩:=hrel;by_cases g:k<v.length
 . have y:=t.1 k g;have f:=I (c.1.trans (by rw[Zn v k g,Hc]));have⟨x,r⟩:=aT (Am v k);rw[<-r]at y f;clear r c;by_cases j:x<a
   . have z:decide (x<a)=true:=by simpa using j
     have h:=I (show max a x=a by omega);clear j;go_wp2;go_round;exact⟨k+1,_,by omega,by omega,by go_num,rfl,I (by rw[f.1,h.1])⟩;simp[intOf];omega
   have z:decide (x<a)=false:=by simpa using j
   have h:=I (show max a x=x by omega);clear j;go_wp2;go_round;exact⟨k+1,_,by omega,by omega,by go_num,rfl,I (by rw[f.1,h.1])⟩;simp[intOf];omega
 obtain rfl:k=v.length:=by omega
 have h:Af (Hc (Am v 0) (v.drop 1)=a):=I (c.1.trans (by rw[List.drop_of_length_le (Bv _),Hc]));go_wp2;go_ret;exact⟨ze (h.1.symm.trans (by rw[List.drop_one])),An _ _⟩
theorem MR(o n:Int)(v:LI)(m:Ae)(h:Nat)(w:Wd)(r:1<=o/\o<=22)(s:o≠6)(q:v.length<=2^47)(f:zL o v.length=true)(i:∀k,k<v.length->wA (Am v k))(p:o=14->Gq (Am v 0))(l:19<=o->∀k,k<v.length->Gq (Am v k))(j:zW w m v):CV 110 #[o,n,CU m v.length h] w (Fw o n v):=by
 obtain rfl|rfl|rfl|rfl|rfl|rfl|rfl|rfl|rfl|rfl|rfl|rfl|rfl|rfl|rfl|rfl|rfl|rfl|rfl|rfl|rfl:o=1\/o=2\/o=3\/o=4\/o=5\/o=7\/o=8\/o=9\/o=10\/o=11\/o=12\/o=13\/o=14\/o=15\/o=16\/o=17\/o=18\/o=19\/o=20\/o=21\/o=22:=by omega
 exact VS n m v.length h w;exact VR n m v.length h w;exact VQ n m v.length h w;exact VP n m v.length h w;exact VO n m v.length h w;have a:v.length=1:=by simp[zL]at f;omega
 obtain⟨b,d,rfl,g,c⟩:=j.cells (by omega);have e:Fw 7 n v=Fz (0+-Am v 0):=by simp[Fw,Fx]
 rw[e,a];exact VN n (Am v 0) b d h w g (i 0 (by omega)) (c 0 (by omega));have a:v.length=2:=by simp[zL]at f;omega
 obtain⟨b,d,rfl,g,c⟩:=j.cells (by omega);have e:Fw 8 n v=Fz (Am v 0+Am v 1):=by simp[Fw,Fx,Cx]
 rw[e,a];exact VM n (Am v 0) (Am v 1) b d h w g (i 0 (by omega)) (i 1 (by omega)) (c 0 (by omega)) (c 1 (by omega));have a:v.length=2:=by simp[zL]at f;omega
 obtain⟨b,d,rfl,g,c⟩:=j.cells (by omega);have e:Fw 9 n v=Fz (Am v 0+-Am v 1):=by simp[Fw,Fx,Cx]
 rw[e,a];exact VL n (Am v 0) (Am v 1) b d h w g (i 0 (by omega)) (i 1 (by omega)) (c 0 (by omega)) (c 1 (by omega));have a:v.length=2:=by simp[zL]at f;omega
 obtain⟨b,d,rfl,g,c⟩:=j.cells (by omega);have e:Fw 10 n v=Er (Am v 0) (Am v 1):=by simp[Fw,Fx,Cx]
 rw[e,a];exact UH n (Am v 0) (Am v 1) b d h w g (i 0 (by omega)) (i 1 (by omega)) (c 0 (by omega)) (c 1 (by omega));have a:v.length=2:=by simp[zL]at f;omega
 obtain⟨b,d,rfl,g,c⟩:=j.cells (by omega);have e:Fw 11 n v=Di (Am v 0) (Am v 1):=by simp[Fw,Fx,Cx]
 rw[e,a];exact UG n (Am v 0) (Am v 1) b d h w g (i 0 (by omega)) (i 1 (by omega)) (c 0 (by omega)) (c 1 (by omega));have a:2<=v.length:=by simp[zL]at f;omega
 have e:Fw 12 n v=Hd (Am v 0) (v.drop 1):=by simp[Fw,Fx]
 exact UF n v m h w (by omega) q j;have a:2<=v.length:=by simp[zL]at f;omega
 have e:Fw 13 n v=Hc (Am v 0) (v.drop 1):=by simp[Fw,Fx]
 exact UE n v m h w (by omega) q j;have a:v.length=3:=by simp[zL]at f;omega
 obtain⟨b,d,rfl,g,c⟩:=j.cells (by omega);have e:Fw 14 n v=if Am v 0≠0 then Am v 1 else Am v 2:=by simp[Fw,Fx]
 rw[e,a];exact UD n (Am v 0) (Am v 1) (Am v 2) b d h w g (p rfl) (c 0 (by omega)) (c 1 (by omega)) (c 2 (by omega));have a:v.length=3:=by simp[zL]at f;omega
 obtain⟨b,d,rfl,g,c⟩:=j.cells (by omega);have e:Fw 15 n v=Iw (Ff (Am v 0) (Am v 1) (Am v 2)):=by simp[Fw,Fx]
 rw[e,a];exact UC n (Am v 0) (Am v 1) (Am v 2) b d h w g (c 0 (by omega)) (c 1 (by omega)) (c 2 (by omega));have a:v.length=2:=by simp[zL]at f;omega
 obtain⟨b,d,rfl,g,c⟩:=j.cells (by omega);have e:Fw 16 n v=Iw (decide (Am v 0<Am v 1)):=by simp[Fw,Fx,Cx]
 rw[e,a];exact RL n (Am v 0) (Am v 1) b d h w g (i 0 (by omega)) (i 1 (by omega)) (c 0 (by omega)) (c 1 (by omega));have a:v.length=2:=by simp[zL]at f;omega
 obtain⟨b,d,rfl,g,c⟩:=j.cells (by omega);have e:Fw 17 n v=Iw (decide (Am v 0<=Am v 1)):=by simp[Fw,Fx,Cx]
 rw[e,a];exact RJ n (Am v 0) (Am v 1) b d h w g (i 0 (by omega)) (i 1 (by omega)) (c 0 (by omega)) (c 1 (by omega));have a:v.length=2:=by simp[zL]at f;omega
 obtain⟨b,d,rfl,g,c⟩:=j.cells (by omega);have e:Fw 18 n v=Iw (Am v 0==Am v 1):=by simp[Fw,Fx,Cx]
 rw[e,a];exact RI n (Am v 0) (Am v 1) b d h w g (i 0 (by omega)) (i 1 (by omega)) (c 0 (by omega)) (c 1 (by omega));have a:v.length=1:=by simp[zL]at f;omega
 obtain⟨b,d,rfl,g,c⟩:=j.cells (by omega);have e:Fw 19 n v=1-Am v 0:=by simp[Fw,Fx]
 rw[e,a];exact RH n (Am v 0) b d h w g (i 0 (by omega)) (c 0 (by omega));have a:v.length=2:=by simp[zL]at f;omega
 obtain⟨b,d,rfl,g,c⟩:=j.cells (by omega);have e:Fw 20 n v=if Am v 0=0 then 0 else Am v 1:=by simp[Fw,Fx,Cx]
 rw[e,a];exact RG n (Am v 0) (Am v 1) b d h w g (l (by omega) 0 (by omega)) (l (by omega) 1 (by omega)) (c 0 (by omega)) (c 1 (by omega));have a:v.length=2:=by simp[zL]at f;omega
 obtain⟨b,d,rfl,g,c⟩:=j.cells (by omega);have e:Fw 21 n v=if Am v 0=0 then Am v 1 else 1:=by simp[Fw,Fx,Cx]
 rw[e,a];exact RF n (Am v 0) (Am v 1) b d h w g (l (by omega) 0 (by omega)) (l (by omega) 1 (by omega)) (c 0 (by omega)) (c 1 (by omega));have a:v.length=2:=by simp[zL]at f;omega
 obtain⟨b,d,rfl,g,c⟩:=j.cells (by omega);have e:Fw 22 n v=if Am v 0=0 then 1 else Am v 1:=by simp[Fw,Fx,Cx]
 rw[e,a];grind[RE]
theorem uH(c:UInt8):∀(l:List UInt8) (k:Nat),k<l.length->(∀j,j<k->l.getD j 0≠c)->l.getD k 0=c->Lib.indexByte l c=k
 |[],k,h,_,_=>by simp at h
 |b::l,0,_,_,h=>by
  grind[Lib.indexByte]
 |b::l,k+1,h,h1,h2=>by
  have d:b≠c:=by simpa using h1 0 (by omega)
  have a:=uH c l k (by simpa using h) (λj hj=>by grind) (by simpa using h2);grind[Lib.indexByte]
theorem uF(c:UInt8):∀(l:List UInt8),(∀j,j<l.length->l.getD j 0≠c)->Lib.indexByte l c=-1
 |[],_=>rfl
 |b::l,h=>by
  have a:b≠c:=by simpa using h 0 (by simp)
  have d:=uF c l (λj hj=>by simpa using h (j+1) (by simpa using hj));grind[Lib.indexByte]
def Mp(s:BA)(k:Nat):Prop:=∀j,j<k->s.data.toList.getD j 0≠46
def Mp.step(h:Mp s k)(a:k<s.size)(e:¬ (s[k].toNat:Int)=46):Mp s (k+1):=by
 intro j d;by_cases b:j=k;subst b;rw[eD s j a];intro c;rw[c]at e;exact e rfl;exact h j (by omega)
theorem Mp.hit(h:Mp s k)(a:k<s.size)(e:(s[k].toNat:Int)=46):Kq s=k:=by
 refine uH 46 _ k (by simpa using a) h ?_;rw[eD s k a];exact UInt8.toNat_inj.1 (by grind)
def Mp.all(h:Mp s s.size):Kq s=-1:=uF 46 _ (λj hj=>h j (by simpa using hj))
def nV(s:BA)(w:Wd)(f:s.size<=2^47):CE 242 #[B_ s,.int .u8 46] w (Kq s):=by
 delta CE;go_in;go_wp2_with fail;go_loop [5] (λi=>∃k:Nat,k<=s.size/\i=Bn k/\Af (Mp s k)) (λi=>s.size-(intOf i).toNat);exact⟨0,Bg _,rfl,I (λj h=>aB h (Nat.not_lt_zero _))⟩;obtain⟨k,g,rfl,a⟩:=hrel;by_cases b:k<s.size
 . by_cases e:(s[k].toNat:Int)=46
   . have c:=I (a.1.hit b e);have d:=bTa e
     go_wp2;go_ret;exact⟨ze c.1.symm,rfl⟩
   have c:=I (a.1.step b e);have d:=RZ e
   go_wp2;go_round;exact⟨k+1,by omega,by go_num,c⟩;simp[intOf];omega
 obtain rfl:k=s.size:=by omega
 have c:=I a.1.all;go_wp2;go_ret;exact⟨ze c.1.symm,rfl⟩
def Qf:LB:= [⟨#[97,110,100]⟩,⟨#[111,114]⟩,⟨#[110,111,116]⟩,⟨#[105,109,112,108,105,101,115]⟩,⟨#[105,110]⟩,⟨#[116,111]⟩,⟨#[116,114,117,101]⟩,⟨#[102,97,108,115,101]⟩,⟨#[109,105,110]⟩,⟨#[109,97,120]⟩,⟨#[105,102]⟩,⟨#[116,104,101,110]⟩,⟨#[101,108,115,101]⟩]
def zrs:∀k,k<13->bA.drop k=(Bl Qf k).data.toList::bA.drop (k+1):=by decide
def IZ(s:BA)(w:Wd):CV 249 #[B_ s] w (.bool (Ug s)):=by
 delta CV;go_in;go_wp2_with fail;have g:Af (Gy (w.alloc jF) w.heap.size 0 Qf):=I (Gy.new w Qf 9);have f:=I (J w jF);have l:w.heap.size<(w.alloc jF).heap.size:=by simp
 generalize w.alloc jF=W at*;go_loop [4] (λi=>∃k:Nat,k<=13/\i=Bn k/\Af (Ug s=zN (bA.drop k) s)) (λi=>13-(intOf i).toNat);exact⟨0,Bg _,rfl,I rfl⟩;obtain⟨k,m,rfl,a⟩:=hrel;by_cases b:k<13
 . have j:=g.1 k b;rw[Nat.zero_add]at j;have d:=zrs k b;cases e:((Bl Qf k).toList==s.toList)
   . have c:=I (show Ug s=zN (bA.drop (k+1)) s from a.1.trans (by
      rw[d,zN,List.any_cons,<-Lib.toList_data];have:(s.toList==(Bl Qf k).toList)=false:=by rw[beq_eq_false_iff_ne]at e ⊢;exact λh=>e h.symm
      rw[this];rfl))
     go_wp2;go_round;exact⟨k+1,by omega,by go_num,c⟩;simp[intOf];omega
   have c:=I (show Ug s=true from a.1.trans (by
    rw[d,zN,List.any_cons,<-Lib.toList_data];have:(s.toList==(Bl Qf k).toList)=true:=by rw[beq_iff_eq]at e ⊢;exact e.symm
    rw[this];rfl))
   go_wp2;go_ret;exact⟨zz c.1.symm,f.1⟩
 obtain rfl:k=13:=by omega
 have c:Af (Ug s=false):=I a.1;go_wp2;go_ret;exact⟨zz c.1.symm,f.1⟩
def bC(s:BA)(w:Wd)(c:s.size<=maxLen):CV 200 #[B_ s] w (.bool (zZ s)):=by
 cases d:Gu s.data.toList
 . have b:=I (show zZ s=false by rw[zZ,d];rfl);delta CV;go_in;go_wp2_with (go_at_call 248;refine cb (zU _ _ c) ?_);go_ret;exact⟨zz b.1.symm,An _ _⟩
 have b:=I (show zZ s=!Ug s by rw[zZ,d];rfl);delta CV;go_in;go_wp2_with (go_at_call 248;refine cb (zU _ _ c) ?_);refine ca (IZ s _) λg f=>?_;go_wp2;go_ret;exact⟨zz b.1.symm,f⟩
def sW(s:BA)(w:Wd)(f:s.size<=2^47):CV 235 #[B_ s] w (.bool (Qr s)):=by
 have i:=zsi s;have n:s.size<=maxLen:=by unfold maxLen;omega
 by_cases a:0<=Kq s
 . have⟨k,g⟩:=Int.eq_ofNat_of_zero_le a;have o:k<s.size:=by omega
   have c:=I g;have j:Qr s=(Gu (s.data.toList.take k)&&Gu (s.data.toList.drop (k+1))):=by rw[Qr,iP a,g];rfl
   have d:=I j;have l:(s.extract 0 k).size<=maxLen:=by unfold maxLen;simp;omega
   have p:(s.extract (k+1) s.size).size<=maxLen:=by unfold maxLen;simp;omega
   have q:Af (List.take (s.size-(k+1)) (List.drop (k+1) s.data.toList)=List.drop (k+1) s.data.toList):=I (List.take_of_length_le (by simp));cases m:Gu (List.take k s.data.toList)
   . delta CV;go_in;go_wp2_with fail;refine cb (nV s w f) ?_;rw[c.1];go_wp2_with fail;refine cb (zU _ _ l) ?_;go_wp2;go_ret;exact⟨zz (by rw[d.1,m];rfl),An _ _⟩
   delta CV;go_in;go_wp2_with fail;refine cb (nV s w f) ?_;rw[c.1];go_wp2_with fail;refine cb (zU _ _ l) ?_;go_wp2_with fail;refine cb (zU _ _ p) ?_;go_wp2;go_ret;exact⟨zz (by rw[d.1,m,q.1];rfl),An _ _⟩
 have c:=I (show Kq s=-1 by omega);have d:Af (Qr s=zZ s):=I (iN a);delta CV;go_in;go_wp2_with fail;refine cb (nV s w f) ?_;rw[c.1];go_wp2_with fail;refine ca (bC _ _ n) λh r=>?_;go_wp2;go_ret;exact⟨zz d.1.symm,r⟩
def zS(n a b:Int)(w:Wd):CE 199 #[n,a,b] w (.bool (Ar n a b)):=by
 by_cases h:a<=n
 all_goals
  delta CE;go_in
  go_wp2_with fail
  all_goals (go_ret;exact⟨zz (by first|(simp[Ar,h];done)|(simp[Ar];omega)),rfl⟩)
def bW(s:BA):Int:=if zN iJ s=true then 2 else if zN iX s=true then 1 else 0
theorem uY(s:BA):bW s=0 ↔ Qp s=0:=by
 grind[bW,Qp]
def eC(s:BA)(w:Wd):CE 198 #[B_ s] w (bW s):=by
 delta CE;go_in;go_wp2_with fail
 all_goals (go_ret;exact⟨ze (by first|(simp only[bW,zN,iJ,iX,List.any_cons,List.any_nil, *];rfl)|simp_all),rfl⟩)
def Mv(o:Int):Int:=if(o==1)=true then 0 else if(o==2)=true then 0 else if(o==3)=true then 0 else if(o==4)=true then 0 else if(o==5)=true then 0 else if(o==6)=true then 0 else if(o==7)=true then 1 else if(o==19)=true then 1 else if(o==12)=true then 2 else if(o==13)=true then 2 else if(o==14)=true then 3 else if(o==15)=true then 3 else 2
def Mu(o:Int):Int:=if(o==1)=true then 0 else if(o==2)=true then 0 else if(o==3)=true then 0 else if(o==4)=true then 0 else if(o==5)=true then 0 else if(o==6)=true then 0 else if(o==7)=true then 1 else if(o==19)=true then 1 else if(o==12)=true then 200 else if(o==13)=true then 200 else if(o==14)=true then 3 else if(o==15)=true then 3 else 2
def dR(o:Int)(w:Wd):CE 234 #[o] w (.tuple #[(Mv o),(Mu o)]):=by
 delta CE;go_in;go_wp2_with fail
 all_goals (go_ret2;exact⟨by simp_all [Mv,Mu],rfl⟩)
mutual
theorem pU(x:zH):∀a:Nat,a<=17->(Dk a x).1<=201*(18-a)/\(Dk a x).2<=18-a:=by
 intro a b;cases x with
 |mk o m s l=>
  rw[Dk];by_cases h:16<a
  . grind
  rw[iN h];have:=AR l (a+1) 1 1 (by omega) (by omega) (by omega);omega
theorem AR(l:List zH):∀a n d:Nat,a<=17->n<=200+201*(18-a)->d<=19-a->(Dv a n d l).1<=200+201*(18-a)/\(Dv a n d l).2<=19-a:=by
 intro a n d b c e;cases l with
 |nil=>grind[Dv]
 |cons x l=>
  rw[Dv];have f:=pU x a b;by_cases h:n<=200
  . rw[iP h];exact AR l a _ _ b (by omega) (by omega)
  grind
end
theorem TJ(b:k<l.length)(c:n<=200):Dv a n d (l.drop k)=Dv a (n+(Dk a (Au l k)).1) (max d ((Dk a (Au l k)).2+1)) (l.drop (k+1)):=by grind[Vx,Dv]
theorem OS(b:k<l.length)(c:¬ n<=200):Dv a n d (l.drop k)=(n,d):=by grind[Vx,Dv]
def rG(B:Nat)(x:zH):Prop:=∀(lv:Nat) (a:Ae) (cap:Nat) (w:Wd),lv<=17->B<=w.heap.size->x.args.length<=140737488355328->Et B w a x.args->Calls prog 233 #[.agg #[x.op,x.num,.string x.name,.slice a x.args.length cap],lv] w λe w'=>e=.returned (.tuple #[Bn ((Dk lv x).1:Nat),Bn ((Dk lv x).2:Nat)])/\Below w.heap.size w w'
def ME(B:Nat)(o n:Int)(s:BA)(l:List zH)(N:∀k,k<l.length->rG B (Au l k)):rG B (.mk o n s l):=by
 intro f a h w P p Q E;simp only[zH.op,zH.num,zH.name,zH.args]at Q E ⊢;have R:=I N;have S:=I E;by_cases r:16<f
 . have C:=I (show Dk f (.mk o n s l)=(1,1) by rw[Dk,iP r]);go_enter func233,ntmps233;go_wp2;go_ret2;exact⟨by rw[C.1];rfl,J _ _⟩
 have C:=I (show Dk f (.mk o n s l)=Dv (f+1) 1 1 l by rw[Dk,iN r]);go_enter func233,ntmps233;go_wp2_with fail;have T:=I (J w (Dq o n s a l.length h));have U:=I (zh w (Dq o n s a l.length h));generalize w.alloc (Dq o n s a l.length h)=W at*;go_loopw [6,7,8] (λm dp i wr=>∃(k z d:Nat),k<=l.length/\i=Bn k/\m=Bn z/\dp=Bn d/\z<=200+201*(18-(f+1))/\d<=19-(f+1)/\Af (Dv (f+1) 1 1 l=Dv (f+1) z d (l.drop k))/\Af (wr.heap[w.heap.size]?=some (Dq o n s a l.length h))/\Af (Bw w wr)) (λ_ _ i _=>l.length-(intOf i).toNat);exact⟨0,1,1,Bg _,rfl,rfl,rfl,by omega,by omega,I rfl,U,T⟩;obtain⟨k,z,d,hk,rfl,rfl,rfl,V,X,F,D,c⟩:=hrel;have q3:=Hk D.1;have ql:=Ag D.1;by_cases j:k<l.length
 . by_cases t:z<=200
   . obtain⟨b,Y,rfl,hb,u⟩:=S.1.cells (by omega);have⟨Z,v,G,⟨c0,c1,c2,c3⟩,x,g⟩:=(u.keep (c.1.mono p)).at k j;have y:=I g;have a0:b<wr.heap.size:=As G (Bf p c.1.size);have bd:=pU (Au l k) (f+1) (by omega);have H:=I (F.1.trans (TJ j t));have A:((f+1:Nat):Int)=(f:Int)+1:=by omega
     go_wp2_with fail;have K:=I (R.1 k j (f+1) Z v wr (by omega) (Bf p c.1.size) x.2.1 y.1);rw[A]at K;refine K.1.mono ?_;rintro e w1 ⟨rfl,q⟩;have L:=I (Ab c.1 q);have Q1:=I ((q.block _ (Ag D.1)).trans D.1);generalize (Dk (f+1) (Au l k)).1=z1 at*;generalize (Dk (f+1) (Au l k)).2=d1 at*;go_wp2;go_roundw;exact⟨k+1,z+z1,max d (d1+1),by omega,by go_num,by go_num,by first|go_num|(congr 1;split <;> omega),by omega,by omega,H,Q1,L⟩;simp[intOf];omega
   have M:=I (C.1.trans (F.1.trans (OS j t)));go_wp2;go_ret2;exact⟨by rw[M.1];rfl,c.1⟩
 obtain rfl:k=l.length:=by omega
 have M:=I (C.1.trans (F.1.trans (by rw[Gk,Dv])));go_wp2;go_ret2;exact⟨by rw[M.1];rfl,c.1⟩
def OR(B:Nat)(x:zH):rG B x:=by
 have⟨m,a⟩:=aT (SizeOf.sizeOf x);induction m using Nat.strongRecOn generalizing x with
 |_ m ih=>
  subst a;obtain⟨o,n,s,l⟩:=x;exact ME B o n s l λk hk=>ih _ (Rc (x:=.mk o n s l) hk) _ rfl
def Ut(o:Int):Int:=if(o==1)=true then 1099511627776 else if(o==2)=true then 1099511627776 else if(o==3)=true then 1439 else 0
theorem tW(f:k<=200):zL o k=Ar k (Mv o) (Mu o):=by
 unfold zL Mv Mu Ar;cases g:(o==1)
 case true=>grind
 cases h:(o==2)
 case true=>grind
 cases i:(o==3)
 case true=>grind
 cases j:(o==4)<;>grind
theorem sR(o n:Int):Mm o n=Ar n 0 (Ut o):=by
 grind[Mm,Ut,Ar]
theorem FH{n:Int}(a:k<=200)(h:o<1\/22<o\/(k:Int)<Mv o\/Mu o<k\/n<0\/Ut o<n\/Ni o s=false):Nr o n s k=false:=by
 grind[Nr,tW,sR,Ar]
def qV(B:Nat)(x:zH):Prop:=∀(a:Ae) (cap:Nat) (w:Wd),Bq x<=200->B<=w.heap.size->Ia x->Et B w a x.args->Calls prog 169 #[.agg #[x.op,x.num,.string x.name,.slice a x.args.length cap]] w λe w'=>e=.returned (.bool (Db x))/\Below w.heap.size w w'
theorem tC:∀{l:List zH} {k:Nat},k<l.length->Bq (Au l k)<=Dc l
 |[],k,h=>by simp at h
 |x::l,0,_=>by rw[Dc];show Bq x<=_;omega
 |x::l,k+1,h=>by
  have:=tC (l:=l) (k:=k) (by simpa using h);grind[Dc,Au]
theorem PQ:∀x,1<=Bq x
 | .mk _ _ _ _=>by rw[Bq];omega
theorem wW:∀(l:List zH),l.length<=Dc l
 |[]=>by simp
 |x::l=>by have:=wW l;grind[PQ,Dc]
def NF(B:Nat)(o n:Int)(s:BA)(l:List zH)(IH:∀k,k<l.length->qV B (Au l k)):qV B (.mk o n s l):=by
 intro a f w y C r S;obtain⟨hs,hl,_,_⟩:=r;simp only[zH.op,zH.num,zH.name,zH.args]at hl S hs ⊢;have F:Dc l<=200:=by rw[Bq]at y;omega
 have t:l.length<=200:=Bf (wW l) F;have HI:=I IH;have HA:=I S;have T:=I (show Db (.mk o n s l)=(Nr o n s l.length&&Ib l) by rw[Db]);have c:∀h:(o<1\/22<o\/(l.length:Int)<Mv o\/Mu o<l.length),Af (Db (.mk o n s l)=false):=λh=>I (by rw[T.1,FH t (by rcases h with h|h|h|h;exact .inl h;exact .inr (.inl h);exact .inr (.inr (.inl h));exact .inr (.inr (.inr (.inl h))))];rfl);by_cases f1:o<1
 . have g:=c (.inl f1);go_enter func169,ntmps169;go_wp2_with (go_at_call 234;refine cb (dR _ _) ?_);go_ret;exact⟨zz g.1.symm,J _ _⟩
 by_cases f2:22<o
 . have g:=c (.inr (.inl f2));go_enter func169,ntmps169;go_wp2_with (go_at_call 234;refine cb (dR _ _) ?_);go_ret;exact⟨zz g.1.symm,J _ _⟩
 by_cases f3:(l.length:Int)<Mv o
 . have g:=c (.inr (.inr (.inl f3)));go_enter func169,ntmps169;go_wp2_with (go_at_call 234;refine cb (dR _ _) ?_);go_ret;exact⟨zz g.1.symm,J _ _⟩
 by_cases f4:Mu o<(l.length:Int)
 . have g:=c (.inr (.inr (.inr f4)));go_enter func169,ntmps169;go_wp2_with (go_at_call 234;refine cb (dR _ _) ?_);go_ret;exact⟨zz g.1.symm,J _ _⟩
 have G:=I (show Db (.mk o n s l)=((Ar n 0 (Ut o)&&Ni o s)&&Ib l) by
  rw[T.1,Nr,tW t,sR,show Ar o 1 22=true by(simp[Ar];omega),show Ar (l.length:Int) (Mv o) (Mu o)=true by(simp[Ar];omega),Bool.true_and,Bool.true_and])
 go_enter func169,ntmps169;go_upto_block 0 with(go_at_call 234;refine cb (dR _ _) ?_)
 go_cut [5] (λm wx=>m=.int .i64 (Ut o)/\wx=(w.alloc (Dq o n s a l.length f)))
 case first=>
  have e1:=(rfl:Ut o=Ut o);cases g1:(o==1);cases g2:(o==2);cases g3:(o==3)
  all_goals
   first|obtain rfl:=eq_of_beq g1|obtain rfl:=eq_of_beq g2|obtain rfl:=eq_of_beq g3|skip
   go_wp2;go_meet
   case rel=>exact⟨by first|rfl|simp only[Ut,g1,g2,g3,if_false,Mn],rfl⟩
 obtain⟨rfl,rfl⟩:=hcut;have z:=I (J w (Dq o n s a l.length f));have q:=I (zh w (Dq o n s a l.length f));have p0:=zw q.1;have p1:=zu q.1;have p2:=zC q.1;have pl:=Ag q.1;generalize (w.alloc (Dq o n s a l.length f))=W at*;generalize Ut o=E at*;go_upto_region 13 with(fail);go_cut [69] (λb wx=>b=.bool (!(Ar n 0 E&&Ni o s))/\Af (Bw w wx)/\Af (wx.heap[w.heap.size]?=some (Dq o n s a l.length f)))
 case first=>
  by_cases f5:n<0
  . have A:(Ar n 0 E&&Ni o s)=false:=by simp[Ar];omega
    go_wp2;go_meet;exact⟨by rw[A];rfl,z,q⟩
  by_cases f6:E<n
  . have A:(Ar n 0 E&&Ni o s)=false:=by simp[Ar];omega
    go_wp2;go_meet;exact⟨by rw[A];rfl,z,q⟩
  have U:Ar n 0 E=true:=by simp[Ar];omega
  cases Q:(o==6)
  . have V:(o !=6)=true:=by simpa using Q
    have X:Ni o s=s.toList.isEmpty:=by rw[Ni,Q];rfl
    cases Y:s.toList.isEmpty
    all_goals
     go_wp2;go_meet
     case rel=>exact⟨by rw[U,X,Y];rfl,z,q⟩
  have V:(o !=6)=false:=by simpa using Q
  have X:Ni o s=Qr s:=by rw[Ni,Q];rfl
  go_wp2_with fail;refine ca (sW s _ hs) λw1 p=>?_;have u:=I (Ab z.1 p);have D:=I ((p.block _ (Ag q.1)).trans q.1);have p0:=D_ D.1;have pl:=Ag D.1;cases Z:Qr s
  all_goals
   go_wp2;go_meet
   case rel=>exact⟨by rw[U,X,Z];rfl,u,D⟩
 obtain⟨rfl,z,q⟩:=hcut;cases A:(Ar n 0 E&&Ni o s)
 . rw[A]at G;have g:Af (Db (.mk o n s l)=false):=I G.1;go_wp2;go_ret;exact⟨zz g.1.symm,z.1⟩
 rw[A,Bool.true_and]at G;go_wp2_with fail;go_loopw [6] (λi wr=>∃(k:Nat),k<=l.length/\i=.int .i64 k/\Af (Ib l=Ib (l.drop k))/\Af (wr.heap[w.heap.size]?=some (Dq o n s a l.length f))/\Af (Bw w wr)) (λi _=>l.length-(intOf i).toNat);exact⟨0,Bg _,rfl,I rfl,q,z⟩;obtain⟨k,A,rfl,hv,R,d⟩:=hrel;have q3:=Hk R.1;have ql:=Ag R.1;by_cases v:k<l.length
 . obtain⟨b,a1,rfl,U,H⟩:=HA.1.cells (by omega);have⟨a2,K,a0,⟨c0,c1,c2,c3⟩,r,x⟩:=(H.keep (d.1.mono C)).at k v;have L:=I x;have a3:b<wr.heap.size:=As a0 (Bf C d.1.size);go_wp2_with fail;refine ca (HI.1 k v a2 K wr (Bf (tC v) F) (Bf C d.1.size) r L.1) λw1 p=>?_;have u:=I (Ab d.1 p);have D:=I ((p.block _ (Ag R.1)).trans R.1);cases M:Db (Au l k)
   . have g:=I (show Db (.mk o n s l)=false by rw[G.1,hv.1,Yu l k v,M];rfl);go_wp2;go_ret;exact⟨zz g.1.symm,u.1⟩
   have N:=I (show Ib l=Ib (l.drop (k+1)) by rw[hv.1,Yu l k v,M];rfl);go_wp2;go_roundw;(try((repeat apply eX);refine⟨?_,rfl⟩));exact⟨k+1,by omega,by go_num,N,D,u⟩;simp[intOf];omega
 obtain rfl:k=l.length:=by omega
 have g:=I (show Db (.mk o n s l)=true by rw[G.1,hv.1,Gk,Ib]);go_wp2;go_ret;exact⟨zz g.1.symm,d.1⟩
def NY(B:Nat)(x:zH):qV B x:=by
 have⟨m,a⟩:=aT (SizeOf.sizeOf x);induction m using Nat.strongRecOn generalizing x with
 |_ m ih=>
  subst a;obtain⟨o,n,s,l⟩:=x;exact NF B o n s l λk hk=>ih _ (Rc (x:=.mk o n s l) hk) _ rfl
def KF(B:Nat)(x:zH)(a:Ae)(cap:Nat)(w:Wd)(d:B<=w.heap.size)(g:Ia x)(f:Et B w a x.args):CV 168 #[.agg #[x.op,x.num,B_ x.name,CU a x.args.length cap]] w (.tuple #[Bn ((Dk 1 x).1:Nat),Bn ((Dk 1 x).2:Nat)]):=by
 have h:=I f;delta CV;go_in;go_wp2_with fail;have b:=I (J w (oE x a cap));generalize w.alloc (oE x a cap)=W at*;refine ca (OR B x 1 a cap W (by omega) (Bf d b.1.size) g.2.1 (h.1.keep (b.1.mono d))) λi c=>?_;go_wp2;go_ret2;exact⟨rfl,Ab b.1 c⟩
def aK(x:zH)(a:Ae)(cap:Nat)(w:Wd)(B:Nat)(o:B<=w.heap.size)(u:Ia x)(v:Et B w a x.args):
 CV 103 #[.agg #[x.op,x.num,B_ x.name,CU a x.args.length cap]] w (Bb x):=by
 have y:=I v;have r:=xJ x 1 (by omega);have C:=pU x 1 (by omega);delta CV;go_in;go_wp2_with fail;have p:=I (J w (oE x a cap));have s:=I (zh w (oE x a cap));generalize w.alloc (oE x a cap)=W at*;refine ca (KF B x a cap W (Bf o p.1.size) u (y.1.keep (p.1.mono o))) λz c=>?_;have b:=I (Ab p.1 c);have j:=I ((c.block _ (Ag s.1)).trans s.1);have k:(Bq x<=200/\Il x<=16) ↔ ((Dk 1 x).1<=200/\(Dk 1 x).2<=16):=by
  constructor;intro h;rw[r.1 ⟨h.1,by omega⟩];exact h;intro h;by_cases g:Bq x<=200/\1+Il x<=17;exact⟨g.1,by omega⟩;rcases r.2.1 g with q|q <;> omega
 have t:=I k;by_cases D:200<(Dk 1 x).1
 . have i:Af (Bb x=10):=I (iN (λh=>by have:=t.1.1 h;omega));go_wp2;go_ret;exact hU i b
 by_cases E:16<(Dk 1 x).2
 . have i:Af (Bb x=10):=I (iN (λh=>by have:=t.1.1 h;omega));go_wp2;go_ret;exact hU i b
 have d:=t.1.2 ⟨by omega,by omega⟩;have i:Af (Bb x=if Db x=true then 0 else 1):=I (iP d);have A:=d.1;have F:=zw j.1;have G:=zu j.1;have H:=zC j.1;have K:=Hk j.1;have L:=Ag j.1;go_wp2_with fail;refine ca (NY B x a cap z A (Bf o b.1.size) u (y.1.keep (b.1.mono o))) λM l=>?_;have m:=I (Ab b.1 l);cases n:Db x
 . have f:=I (show Bb x=1 by rw[i.1,n];rfl);go_wp2;go_ret;exact hU f m
 have f:=I (show Bb x=0 by rw[i.1,n];rfl);go_wp2;go_ret;exact hU f m
