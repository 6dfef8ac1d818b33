/- a part of the proof -/
import Derived.Test.YtbhhejkolnigfaaGreatG3
set_option linter.unusedVariables false
set_option linter.unusedSimpArgs false
set_option maxRecDepth 100000
set_option maxHeartbeats 51200000
namespace Go.Proofs.YtbhhejkolnigfaaGreat
open Go.RowKit Go.Sort Go.Proofs.Tryz
theorem zcD(n:Int)(w:World):Calls prog 180 #[n] w λe w'=>e=.returned (zaP n)/\w=w':=by
 go_enter func180,ntmps180
 go_wp2_with fail
 all_goals (go_ret;exact⟨ze (by unfold zaP;(repeat' split) <;> omega),rfl⟩)
theorem zff(a b:Int)(w:World)(g:inR a)(h:inR b):Calls prog 181 #[a,b] w λe c=>e=.returned (zaP (a+b))/\w=c:=by
 obtain⟨j,k⟩:=g;obtain⟨l,m⟩:=h;have n:IntKind.i64.wrap (a+b)=a+b:=by rw[IntKind.wrap_i64];omega
 by_cases o:0<a <;> by_cases p:0<b
 . have i:¬ a+b<0:=by omega
   go_enter func181,ntmps181
   go_wp2_with (go_at_call 180;refine cb (zcD _ _) ?_)
   all_goals (go_ret;exact⟨rfl,rfl⟩)
 . have d:b<=0:=by omega
   go_enter func181,ntmps181
   go_wp2_with (go_at_call 180;refine cb (zcD _ _) ?_)
   all_goals (go_ret;exact⟨rfl,rfl⟩)
 . have f:a<=0:=by omega
   go_enter func181,ntmps181
   go_wp2_with (go_at_call 180;refine cb (zcD _ _) ?_)
   all_goals (go_ret;exact⟨rfl,rfl⟩)
 have f:a<=0:=by omega
 have d:b<=0:=by omega
 by_cases q:a<0
 . by_cases r:b<0
   . have i:a+b<0:=by omega
     go_enter func181,ntmps181
     go_wp2_with (go_at_call 180;refine cb (zcD _ _) ?_)
     all_goals (go_ret;exact⟨rfl,rfl⟩)
   go_enter func181,ntmps181
   go_wp2_with (go_at_call 180;refine cb (zcD _ _) ?_)
   all_goals (go_ret;exact⟨rfl,rfl⟩)
 go_enter func181,ntmps181
 go_wp2_with (go_at_call 180;refine cb (zcD _ _) ?_)
 all_goals (go_ret;exact⟨rfl,rfl⟩)
theorem zeN(n:Int)(w:World)(h:inR n):Calls prog 205 #[n] w λe w'=>e=.returned (.int .u64 (n.natAbs:Int))/\w=w':=by
 obtain⟨a,b⟩:=h;by_cases c:n<0
 . go_enter func205,ntmps205
   go_wp2_with fail;go_ret;refine⟨ze ?_,rfl⟩;simp only[IntKind.wrap_u64];omega
 go_enter func205,ntmps205
 go_wp2_with fail;go_ret;refine⟨ze ?_,rfl⟩;try simp only[IntKind.wrap_u64]
 omega
theorem zry(a b x y:Int)(j:x=a.natAbs)(k:y=b.natAbs)(l:b≠0):mulV a b=if(decide (a<0) !=decide (b<0))=true then -(if x<=1099511627776/y then x*y else 1099511627776) else if x<=1099511627776/y then x*y else 1099511627776:=by
 have f:0<y:=by omega
 have g:0<=x:=by omega
 have d:x<=1099511627776/y ↔ x*y<=1099511627776:=Int.le_ediv_iff_mul_le f;have m:0<=x*y:=Int.mul_nonneg g (by omega);have i:a*b=if(decide (a<0) !=decide (b<0))=true then -(x*y) else x*y:=by
  by_cases c:a<0 <;> by_cases e:b<0
  . rw[if_neg (by simp[c,e]),show a=-x by omega,show b=-y by omega];simp[Int.neg_mul,Int.mul_neg]
  . rw[if_pos (by simp[c,e]),show a=-x by omega,show b=y by omega];simp[Int.neg_mul,Int.mul_neg]
  . rw[if_pos (by simp[c,e]),show a=x by omega,show b=-y by omega];simp[Int.neg_mul,Int.mul_neg]
  rw[if_neg (by simp[c,e]),show a=x by omega,show b=y by omega]
 rw[mulV,i];generalize x*y=z at*;unfold zaP
 by_cases c:x<=1099511627776/y
 . have:=d.1 c;rw[if_pos c];split <;> split <;> (try split) <;> omega
 have:¬ z<=1099511627776:=λh=>c (d.2 h)
 rw[if_neg c];split <;> split <;> (try split) <;> omega
theorem zlZ(a b:Int)(w:World)(p:inR a)(q:inR b):Calls prog 182 #[a,b] w λe d=>e=.returned (mulV a b)/\w=d:=by
 by_cases m:a=0
 . subst m;have c:=I (show mulV 0 b=0 by rw[mulV,Int.zero_mul];decide);go_enter func182,ntmps182
   go_wp2_with fail;go_ret;exact⟨ze c.1.symm,rfl⟩
 have A:(a==0)=false:=by simpa using m
 by_cases i:b=0
 . subst i;have c:=I (show mulV a 0=0 by rw[mulV,Int.mul_zero];decide);go_enter func182,ntmps182
   go_wp2_with fail;go_ret;exact⟨ze c.1.symm,rfl⟩
 have B:(b==0)=false:=by simpa using i
 obtain⟨x,r⟩:∃x:Int,x=(a.natAbs:Int):=⟨_,rfl⟩;obtain⟨y,s⟩:∃y:Int,y=(b.natAbs:Int):=⟨_,rfl⟩;have t:0<y:=by omega
 have u:0<=x:=by omega
 have v:x<=1099511627776:=by unfold inR at p;omega
 have z:y<=1099511627776:=by unfold inR at q;omega
 have n:=I (zeN a w p);have o:=I (zeN b w q);rw[<-r]at n;rw[<-s]at o;have c:=I (zry a b x y r s i);clear r s p q;have f:=I (show x<=1099511627776/y ↔ x*y<=1099511627776 from Int.le_ediv_iff_mul_le t);have C:0<=x*y:=Int.mul_nonneg u (by omega);by_cases g:a<0 <;> by_cases h:b<0
 . have j:decide (a<0)=true:=by simpa using g
   have k:decide (b<0)=true:=by simpa using h
   have l:=I (show mulV a b=if x<=1099511627776/y then x*y else 1099511627776 by rw[c.1,j,k];try rfl);clear c g h;go_enter func182,ntmps182
   go_wp2_with fail;refine n.1.mono ?_;rintro e d ⟨rfl,rfl⟩;go_wp2_with fail;refine o.1.mono ?_;rintro e d ⟨rfl,rfl⟩;go_wp2_with fail
   all_goals (go_ret;exact⟨ze (by rw[l.1];have:=f.1;split <;> (try simp only[IntKind.wrap_u64,IntKind.wrap_i64,wrap64]) <;> omega),rfl⟩)
 . have j:decide (a<0)=true:=by simpa using g
   have k:decide (b<0)=false:=by simpa using h
   have l:=I (show mulV a b=-(if x<=1099511627776/y then x*y else 1099511627776) by rw[c.1,j,k];try rfl);clear c g h;go_enter func182,ntmps182
   go_wp2_with fail;refine n.1.mono ?_;rintro e d ⟨rfl,rfl⟩;go_wp2_with fail;refine o.1.mono ?_;rintro e d ⟨rfl,rfl⟩;go_wp2_with fail
   all_goals (go_ret;exact⟨ze (by rw[l.1];have:=f.1;split <;> (try simp only[IntKind.wrap_u64,IntKind.wrap_i64,wrap64]) <;> omega),rfl⟩)
 . have j:decide (a<0)=false:=by simpa using g
   have k:decide (b<0)=true:=by simpa using h
   have l:=I (show mulV a b=-(if x<=1099511627776/y then x*y else 1099511627776) by rw[c.1,j,k];try rfl);clear c g h;go_enter func182,ntmps182
   go_wp2_with fail;refine n.1.mono ?_;rintro e d ⟨rfl,rfl⟩;go_wp2_with fail;refine o.1.mono ?_;rintro e d ⟨rfl,rfl⟩;go_wp2_with fail
   all_goals (go_ret;exact⟨ze (by rw[l.1];have:=f.1;split <;> (try simp only[IntKind.wrap_u64,IntKind.wrap_i64,wrap64]) <;> omega),rfl⟩)
 have j:decide (a<0)=false:=by simpa using g
 have k:decide (b<0)=false:=by simpa using h
 have l:=I (show mulV a b=if x<=1099511627776/y then x*y else 1099511627776 by rw[c.1,j,k];try rfl);clear c g h;go_enter func182,ntmps182
 go_wp2_with fail;refine n.1.mono ?_;rintro e d ⟨rfl,rfl⟩;go_wp2_with fail;refine o.1.mono ?_;rintro e d ⟨rfl,rfl⟩;go_wp2_with fail
 all_goals (go_ret;exact⟨ze (by rw[l.1];have:=f.1;split <;> (try simp only[IntKind.wrap_u64,IntKind.wrap_i64,wrap64]) <;> omega),rfl⟩)
theorem zrL(a b:Int)(j:b≠0):divV a b=if decide (a<0)=decide (b<0) then((a.natAbs/b.natAbs:Nat):Int) else if 0<a.natAbs%b.natAbs then -(((a.natAbs/b.natAbs:Nat):Int)+1) else -((a.natAbs/b.natAbs:Nat):Int):=by
 have g:a.tmod b=0 ↔ a.natAbs%b.natAbs=0:=by
  rw[<-Int.natAbs_tmod];omega
 have k:a.tdiv b=if decide (a<0)=decide (b<0) then((a.natAbs/b.natAbs:Nat):Int) else -((a.natAbs/b.natAbs:Nat):Int):=by
  by_cases e:a<0 <;> by_cases f:b<0
  . have c:a=-(a.natAbs:Int):=by omega
    have d:b=-(b.natAbs:Int):=by omega
    rw[if_pos (by simp[e,f])];generalize a.natAbs=p at*;generalize b.natAbs=q at*;subst c d;rw[Int.neg_tdiv,Int.tdiv_neg,Int.neg_neg,Int.ofNat_tdiv]
  . have c:a=-(a.natAbs:Int):=by omega
    have d:b=(b.natAbs:Int):=by omega
    rw[if_neg (by simp[e,f])];generalize a.natAbs=p at*;generalize b.natAbs=q at*;subst c d;rw[Int.neg_tdiv,Int.ofNat_tdiv]
  . have c:a=(a.natAbs:Int):=by omega
    have d:b=-(b.natAbs:Int):=by omega
    rw[if_neg (by simp[e,f])];generalize a.natAbs=p at*;generalize b.natAbs=q at*;subst c d;rw[Int.tdiv_neg,Int.ofNat_tdiv]
  have c:a=(a.natAbs:Int):=by omega
  have d:b=(b.natAbs:Int):=by omega
  rw[if_pos (by simp[e,f])];generalize a.natAbs=p at*;generalize b.natAbs=q at*;subst c d;rw[Int.ofNat_tdiv]
 unfold divV
 rw[if_neg j,k];by_cases i:a.natAbs%b.natAbs=0
 . rw[if_pos (g.2 i),if_neg (by omega:¬ 0<a.natAbs%b.natAbs)]
 rw[if_neg (λh=>i (g.1 h)),if_pos (by omega:0<a.natAbs%b.natAbs)];split
 . rfl
 omega
theorem zrK(a b x y:Int)(c:x=a.natAbs)(d:y=b.natAbs)(e:b≠0):divV a b=if decide (a<0)=decide (b<0) then x/y else if 0<x%y then -(x/y+1) else -(x/y):=by
 subst c d;rw[zrL a b e];have f:((a.natAbs/b.natAbs:Nat):Int)=(a.natAbs:Int)/(b.natAbs:Int):=Int.natCast_ediv _ _;have g:((a.natAbs%b.natAbs:Nat):Int)=(a.natAbs:Int)%(b.natAbs:Int):=Int.natCast_emod _ _;rw[<-f,<-g];by_cases h:0<a.natAbs%b.natAbs
 . rw[if_pos h,if_pos (by omega:(0:Int)<((a.natAbs%b.natAbs:Nat):Int))]
 rw[if_neg h,if_neg (by omega:¬ (0:Int)<((a.natAbs%b.natAbs:Nat):Int))]
theorem zou(x y:Int)(a:0<=x)(d:0<y)(c:x<=1099511627776):0<=x/y/\x/y<=1099511627776/\(0<x%y->x/y+1<=1099511627776):=by
 have e:x/y<=x:=Int.ediv_le_self y a;have b:0<=x/y:=Int.ediv_nonneg a (by omega);refine⟨b,by omega,λh=>?_⟩;have f:=Int.mul_ediv_add_emod x y;have g:x/y<=y*(x/y):=by
  have:=Int.mul_le_mul_of_nonneg_right (show 1<=y by omega) b;omega
 omega
theorem zl0(a b:Int)(w:World)(n:inR a)(o:inR b):Calls prog 183 #[a,b] w λe f=>e=.returned (divV a b)/\w=f:=by
 by_cases i:b=0
 . subst i;have d:=I (show divV a 0=0 by rw[divV,if_pos rfl]);go_enter func183,ntmps183
   go_wp2_with fail;go_ret;exact⟨ze d.1.symm,rfl⟩
 have v:(b==0)=false:=by simpa using i
 obtain⟨x,p⟩:∃x:Int,x=(a.natAbs:Int):=⟨_,rfl⟩;obtain⟨y,q⟩:∃y:Int,y=(b.natAbs:Int):=⟨_,rfl⟩;have r:0<y:=by omega
 have s:0<=x:=by omega
 have t:x<=1099511627776:=by unfold inR at n;omega
 have u:y<=1099511627776:=by unfold inR at o;omega
 have l:=I (zeN a w n);have m:=I (zeN b w o);rw[<-p]at l;rw[<-q]at m;have d:=I (zrK a b x y p q i);obtain⟨z,A,B⟩:=zou x y s r t;clear p q n o;by_cases g:a<0 <;> by_cases h:b<0
 . have j:decide (a<0)=true:=by simpa using g
   have k:decide (b<0)=true:=by simpa using h
   have c:=I (show divV a b=x/y by rw[d.1,j,k];try rfl);clear d g h;go_enter func183,ntmps183
   go_wp2_with fail;refine l.1.mono ?_;rintro e f ⟨rfl,rfl⟩;go_wp2_with fail;refine m.1.mono ?_;rintro e f ⟨rfl,rfl⟩;go_wp2_with fail
   all_goals (go_ret;exact⟨ze (by first|(rw[c.1];done)|(rw[c.1];(repeat' split) <;> (try simp only[IntKind.wrap_u64,IntKind.wrap_i64,wrap64]) <;> omega)),rfl⟩)
 . have j:decide (a<0)=true:=by simpa using g
   have k:decide (b<0)=false:=by simpa using h
   have c:=I (show divV a b=if 0<x%y then -(x/y+1) else -(x/y) by rw[d.1,j,k];try rfl);clear d g h;go_enter func183,ntmps183
   go_wp2_with fail;refine l.1.mono ?_;rintro e f ⟨rfl,rfl⟩;go_wp2_with fail;refine m.1.mono ?_;rintro e f ⟨rfl,rfl⟩;go_wp2_with fail
   all_goals (go_ret;exact⟨ze (by first|(rw[c.1];done)|(rw[c.1];(repeat' split) <;> (try simp only[IntKind.wrap_u64,IntKind.wrap_i64,wrap64]) <;> omega)),rfl⟩)
 . have j:decide (a<0)=false:=by simpa using g
   have k:decide (b<0)=true:=by simpa using h
   have c:=I (show divV a b=if 0<x%y then -(x/y+1) else -(x/y) by rw[d.1,j,k];try rfl);clear d g h;go_enter func183,ntmps183
   go_wp2_with fail;refine l.1.mono ?_;rintro e f ⟨rfl,rfl⟩;go_wp2_with fail;refine m.1.mono ?_;rintro e f ⟨rfl,rfl⟩;go_wp2_with fail
   all_goals (go_ret;exact⟨ze (by first|(rw[c.1];done)|(rw[c.1];(repeat' split) <;> (try simp only[IntKind.wrap_u64,IntKind.wrap_i64,wrap64]) <;> omega)),rfl⟩)
 have j:decide (a<0)=false:=by simpa using g
 have k:decide (b<0)=false:=by simpa using h
 have c:=I (show divV a b=x/y by rw[d.1,j,k];try rfl);clear d g h;go_enter func183,ntmps183
 go_wp2_with fail;refine l.1.mono ?_;rintro e f ⟨rfl,rfl⟩;go_wp2_with fail;refine m.1.mono ?_;rintro e f ⟨rfl,rfl⟩;go_wp2_with fail
 all_goals (go_ret;exact⟨ze (by first|(rw[c.1];done)|(rw[c.1];(repeat' split) <;> (try simp only[IntKind.wrap_u64,IntKind.wrap_i64,wrap64]) <;> omega)),rfl⟩)
theorem ztm(c f t:Int):zgH c f t=bndB c f t:=by unfold zgH bndB;split <;> simp
theorem zjK(c f t:Int)(w:World):Calls prog 184 #[c,f,t] w λe a=>e=.returned (.bool (bndB c f t))/\w=a:=by
 go_enter func184,ntmps184
 go_wp2_with fail;refine cb (zcI c f t w) ?_;go_wp2_with fail;go_ret;exact⟨by rw[ztm];rfl,rfl⟩
def atrV(k n:Int):Int:=if k=3 then n%1440 else if k=4 then zc2 (n !=0) else zaP n
theorem zqY(k n:Int)(w:World)(f:-9000000000000000000<=n)(g:n<=9000000000000000000):Calls prog 133 #[k,n] w λe b=>e=.returned (atrV k n)/\w=b:=by
 by_cases c:k=3
 . subst c;have a:=I (show atrV 3 n=n%1440 by simp[atrV]);go_enter func133,ntmps133
   go_wp2_with fail;refine cb (zbp n w f g) ?_;go_wp2_with fail;go_ret;exact⟨ze a.1.symm,rfl⟩
 by_cases d:k=4
 . subst d;have a:=I (show atrV 4 n=zc2 (n !=0) by simp[atrV]);go_enter func133,ntmps133
   go_wp2_with fail;refine cb (zfO _ w) ?_;go_wp2_with fail;go_ret;exact⟨ze a.1.symm,rfl⟩
 have h:(k==3)=false:=by simpa using c
 have i:(k==4)=false:=by simpa using d
 have a:=I (show atrV k n=zaP n by rw[atrV,if_neg c,if_neg d]);go_enter func133,ntmps133
 go_wp2_with fail;refine cb (zcD n w) ?_;go_wp2_with fail;go_ret;exact⟨ze a.1.symm,rfl⟩
def apV(o n:Int)(v:List Int):Int:=if o<=3 then n else if o=4 then 1 else if o=5 then 0 else opV o v
theorem ztz(n:Int)(a:zua)(b c:Nat)(w:World):Calls prog 135 #[.int .i64 1,n,.slice a b c] w λe w'=>e=.returned (n)/\Bw w w':=by
 go_enter func135,ntmps135
 go_wp2_with fail;go_ret;exact⟨rfl,ztT _ _⟩
theorem zty(n:Int)(a:zua)(b c:Nat)(w:World):Calls prog 135 #[.int .i64 2,n,.slice a b c] w λe w'=>e=.returned (n)/\Bw w w':=by
 go_enter func135,ntmps135
 go_wp2_with fail;go_ret;exact⟨rfl,ztT _ _⟩
theorem ztx(n:Int)(a:zua)(b c:Nat)(w:World):Calls prog 135 #[.int .i64 3,n,.slice a b c] w λe w'=>e=.returned (n)/\Bw w w':=by
 go_enter func135,ntmps135
 go_wp2_with fail;go_ret;exact⟨rfl,ztT _ _⟩
theorem ztw(n:Int)(a:zua)(b c:Nat)(w:World):Calls prog 135 #[.int .i64 4,n,.slice a b c] w λe w'=>e=.returned (.int .i64 (1))/\Bw w w':=by
 go_enter func135,ntmps135
 go_wp2_with fail;go_ret;exact⟨rfl,ztT _ _⟩
theorem ztv(n:Int)(a:zua)(b c:Nat)(w:World):Calls prog 135 #[.int .i64 5,n,.slice a b c] w λe w'=>e=.returned (.int .i64 (0))/\Bw w w':=by
 go_enter func135,ntmps135
 go_wp2_with fail;go_ret;exact⟨rfl,ztT _ _⟩
theorem ztu(n a:Int)(b c g:Nat)(w:World)(h:b<w.heap.size)(d:inR a)(i:w.cell? ⟨b,c,none⟩=some (.int .i64 a)):Calls prog 135 #[.int .i64 7,n,.slice (some ⟨b,c,none⟩) 1 g] w λe f=>e=.returned (zaP (0+-a))/\Bw w f:=by
 have j:=d;obtain⟨k,l⟩:=d;have m:IntKind.i64.wrap (-a)=-a:=by rw[IntKind.wrap_i64];omega
 go_enter func135,ntmps135
 go_wp2_with fail;refine cb (zff 0 (-a) w (by unfold inR;omega) (by unfold inR;omega)) ?_;go_wp2_with fail;go_ret;exact⟨ze (by rw[Int.zero_add]),ztT _ _⟩
theorem zr6(n a:Int)(b c d:Nat)(w:World)(g:b<w.heap.size)(f:inR a)(h:w.cell? ⟨b,c,none⟩=some (.int .i64 a)):Calls prog 135 #[.int .i64 19,n,.slice (some ⟨b,c,none⟩) 1 d] w λe w'=>e=.returned (.int .i64 (1-a))/\Bw w w':=by
 obtain⟨i,j⟩:=f;have k:IntKind.i64.wrap (1-a)=1-a:=by rw[IntKind.wrap_i64];omega
 go_enter func135,ntmps135
 go_wp2_with fail;go_ret;exact⟨rfl,ztT _ _⟩
theorem ztt(n x y:Int)(b a f:Nat)(w:World)(i:b<w.heap.size)(c:inR x)(d:inR y)(j:w.cell? ⟨b,a,none⟩=some (.int .i64 x))(k:w.cell? ⟨b,a+1,none⟩=some (.int .i64 y)):Calls prog 135 #[.int .i64 8,n,.slice (some ⟨b,a,none⟩) 2 f] w λe w'=>e=.returned (zaP (x+y))/\Bw w w':=by
 have g:=I (λm=>Calls.quiet_of_same (w:=w) (n:=m) ((zff x y (w.drewN m) c d).mono λ_ _ h=>⟨h.1,h.2.symm⟩));obtain⟨l,o⟩:=c;obtain⟨p,q⟩:=d;go_enter func135,ntmps135
 go_wp2_with fail;go_quiet ((go_at_call 181;exact g.1 _))
 go_wp2_with fail;go_ret;exact⟨rfl,below_drewN (ztT _ _) _⟩
theorem zts(n x y:Int)(b a d:Nat)(w:World)(i:b<w.heap.size)(c:inR x)(f:inR y)(j:w.cell? ⟨b,a,none⟩=some (.int .i64 x))(k:w.cell? ⟨b,a+1,none⟩=some (.int .i64 y)):Calls prog 135 #[.int .i64 9,n,.slice (some ⟨b,a,none⟩) 2 d] w λe w'=>e=.returned (zaP (x+-y))/\Bw w w':=by
 have g:=I (λm=>Calls.quiet_of_same (w:=w) (n:=m) ((zff x (-y) (w.drewN m) c (by unfold inR at*;omega)).mono λ_ _ h=>⟨h.1,h.2.symm⟩));obtain⟨l,o⟩:=c;obtain⟨p,q⟩:=f;have r:IntKind.i64.wrap (-y)=-y:=by rw[IntKind.wrap_i64];omega
 go_enter func135,ntmps135
 go_wp2_with fail;go_quiet ((go_at_call 181;exact g.1 _))
 go_wp2_with fail;go_ret;exact⟨rfl,below_drewN (ztT _ _) _⟩
theorem zsf(n x y:Int)(b a f:Nat)(w:World)(i:b<w.heap.size)(c:inR x)(d:inR y)(j:w.cell? ⟨b,a,none⟩=some (.int .i64 x))(k:w.cell? ⟨b,a+1,none⟩=some (.int .i64 y)):Calls prog 135 #[.int .i64 10,n,.slice (some ⟨b,a,none⟩) 2 f] w λe w'=>e=.returned (mulV x y)/\Bw w w':=by
 have g:=I (λm=>Calls.quiet_of_same (w:=w) (n:=m) ((zlZ x y (w.drewN m) c d).mono λ_ _ h=>⟨h.1,h.2.symm⟩));obtain⟨l,o⟩:=c;obtain⟨p,q⟩:=d;go_enter func135,ntmps135
 go_wp2_with fail;go_quiet ((go_at_call 182;exact g.1 _))
 go_wp2_with fail;go_ret;exact⟨rfl,below_drewN (ztT _ _) _⟩
theorem zse(n x y:Int)(b a f:Nat)(w:World)(i:b<w.heap.size)(c:inR x)(d:inR y)(j:w.cell? ⟨b,a,none⟩=some (.int .i64 x))(k:w.cell? ⟨b,a+1,none⟩=some (.int .i64 y)):Calls prog 135 #[.int .i64 11,n,.slice (some ⟨b,a,none⟩) 2 f] w λe w'=>e=.returned (divV x y)/\Bw w w':=by
 have g:=I (λm=>Calls.quiet_of_same (w:=w) (n:=m) ((zl0 x y (w.drewN m) c d).mono λ_ _ h=>⟨h.1,h.2.symm⟩));obtain⟨l,o⟩:=c;obtain⟨p,q⟩:=d;go_enter func135,ntmps135
 go_wp2_with fail;go_quiet ((go_at_call 183;exact g.1 _))
 go_wp2_with fail;go_ret;exact⟨rfl,below_drewN (ztT _ _) _⟩
theorem zr9(n x y:Int)(b a c:Nat)(w:World)(i:b<w.heap.size)(d:inR x)(f:inR y)(j:w.cell? ⟨b,a,none⟩=some (.int .i64 x))(k:w.cell? ⟨b,a+1,none⟩=some (.int .i64 y)):Calls prog 135 #[.int .i64 16,n,.slice (some ⟨b,a,none⟩) 2 c] w λe w'=>e=.returned (zc2 (decide (x<y)))/\Bw w w':=by
 have g:=I (λm=>Calls.quiet_of_same (w:=w) (n:=m) ((zfO (decide (x<y)) (w.drewN m)).mono λ_ _ h=>⟨h.1,h.2.symm⟩));obtain⟨l,o⟩:=d;obtain⟨p,q⟩:=f;go_enter func135,ntmps135
 go_wp2_with fail;go_quiet ((go_at_call 131;exact g.1 _))
 go_wp2_with fail;go_ret;exact⟨rfl,below_drewN (ztT _ _) _⟩
theorem zr8(n x y:Int)(b a c:Nat)(w:World)(i:b<w.heap.size)(d:inR x)(f:inR y)(j:w.cell? ⟨b,a,none⟩=some (.int .i64 x))(k:w.cell? ⟨b,a+1,none⟩=some (.int .i64 y)):Calls prog 135 #[.int .i64 17,n,.slice (some ⟨b,a,none⟩) 2 c] w λe w'=>e=.returned (zc2 (decide (x<=y)))/\Bw w w':=by
 have g:=I (λm=>Calls.quiet_of_same (w:=w) (n:=m) ((zfO (decide (x<=y)) (w.drewN m)).mono λ_ _ h=>⟨h.1,h.2.symm⟩));obtain⟨l,o⟩:=d;obtain⟨p,q⟩:=f;go_enter func135,ntmps135
 go_wp2_with fail;go_quiet ((go_at_call 131;exact g.1 _))
 go_wp2_with fail;go_ret;exact⟨rfl,below_drewN (ztT _ _) _⟩
theorem zr7(n x y:Int)(b a c:Nat)(w:World)(i:b<w.heap.size)(d:inR x)(f:inR y)(j:w.cell? ⟨b,a,none⟩=some (.int .i64 x))(k:w.cell? ⟨b,a+1,none⟩=some (.int .i64 y)):Calls prog 135 #[.int .i64 18,n,.slice (some ⟨b,a,none⟩) 2 c] w λe w'=>e=.returned (zc2 (x==y))/\Bw w w':=by
 have g:=I (λm=>Calls.quiet_of_same (w:=w) (n:=m) ((zfO (x==y) (w.drewN m)).mono λ_ _ h=>⟨h.1,h.2.symm⟩));obtain⟨l,o⟩:=d;obtain⟨p,q⟩:=f;go_enter func135,ntmps135
 go_wp2_with fail;go_quiet ((go_at_call 131;exact g.1 _))
 go_wp2_with fail;go_ret;exact⟨rfl,below_drewN (ztT _ _) _⟩
theorem zr5(n x y:Int)(b a c:Nat)(w:World)(g:b<w.heap.size)(d:isB x)(f:isB y)(h:w.cell? ⟨b,a,none⟩=some (.int .i64 x))(i:w.cell? ⟨b,a+1,none⟩=some (.int .i64 y)):Calls prog 135 #[.int .i64 20,n,.slice (some ⟨b,a,none⟩) 2 c] w λe w'=>e=.returned (.int .i64 (if x=0 then 0 else y))/\Bw w w':=by
 rcases d with rfl|rfl <;> rcases f with rfl|rfl
 all_goals
  go_enter func135,ntmps135
  go_wp2_with fail;go_quiet (fail)
  go_wp2_with fail;go_ret;exact⟨rfl,below_drewN (ztT _ _) _⟩
theorem zr4(n x y:Int)(b a c:Nat)(w:World)(g:b<w.heap.size)(d:isB x)(f:isB y)(h:w.cell? ⟨b,a,none⟩=some (.int .i64 x))(i:w.cell? ⟨b,a+1,none⟩=some (.int .i64 y)):Calls prog 135 #[.int .i64 21,n,.slice (some ⟨b,a,none⟩) 2 c] w λe w'=>e=.returned (.int .i64 (if x=0 then y else 1))/\Bw w w':=by
 rcases d with rfl|rfl <;> rcases f with rfl|rfl
 all_goals
  go_enter func135,ntmps135
  go_wp2_with fail;go_quiet (fail)
  go_wp2_with fail;go_ret;exact⟨rfl,below_drewN (ztT _ _) _⟩
theorem zr3(n x y:Int)(b a c:Nat)(w:World)(g:b<w.heap.size)(d:isB x)(f:isB y)(h:w.cell? ⟨b,a,none⟩=some (.int .i64 x))(i:w.cell? ⟨b,a+1,none⟩=some (.int .i64 y)):Calls prog 135 #[.int .i64 22,n,.slice (some ⟨b,a,none⟩) 2 c] w λe w'=>e=.returned (.int .i64 (if x=0 then 1 else y))/\Bw w w':=by
 rcases d with rfl|rfl <;> rcases f with rfl|rfl
 all_goals
  go_enter func135,ntmps135
  go_wp2_with fail;go_quiet (fail)
  go_wp2_with fail;go_ret;exact⟨rfl,below_drewN (ztT _ _) _⟩
theorem zsb(n x y z:Int)(b a c:Nat)(w:World)(f:b<w.heap.size)(d:isB x)(g:w.cell? ⟨b,a,none⟩=some (.int .i64 x))(h:w.cell? ⟨b,a+1,none⟩=some (.int .i64 y))(i:w.cell? ⟨b,a+2,none⟩=some (.int .i64 z)):Calls prog 135 #[.int .i64 14,n,.slice (some ⟨b,a,none⟩) 3 c] w λe w'=>e=.returned (.int .i64 (if x≠0 then y else z))/\Bw w w':=by
 rcases d with rfl|rfl
 all_goals
  go_enter func135,ntmps135
  go_wp2_with fail;go_ret;exact⟨rfl,ztT _ _⟩
theorem zsa(n x y z:Int)(b a c:Nat)(w:World)(g:b<w.heap.size)(i:w.cell? ⟨b,a,none⟩=some (.int .i64 x))(j:w.cell? ⟨b,a+1,none⟩=some (.int .i64 y))(k:w.cell? ⟨b,a+2,none⟩=some (.int .i64 z)):Calls prog 135 #[.int .i64 15,n,.slice (some ⟨b,a,none⟩) 3 c] w λe w'=>e=.returned (zc2 (bndB x y z))/\Bw w w':=by
 have d:=I (λm=>Calls.quiet_of_same (w:=w) (n:=m) ((zjK x y z (w.drewN m)).mono λ_ _ h=>⟨h.1,h.2.symm⟩));have f:=I (λm=>Calls.quiet_of_same (w:=w) (n:=m) ((zfO (bndB x y z) (w.drewN m)).mono λ_ _ h=>⟨h.1,h.2.symm⟩));go_enter func135,ntmps135
 go_wp2_with fail;go_quiet (first|(go_at_call 184;exact d.1 _)|(go_at_call 131;exact f.1 _))
 go_wp2_with fail;go_ret;exact⟨rfl,below_drewN (ztT _ _) _⟩
theorem zsd(n:Int)(v:List Int)(o:zua)(s:Nat)(w:World)(p:0<v.length)(A:v.length<=140737488355328)(q:zW w o v):Calls prog 135 #[.int .i64 12,n,.slice o v.length s] w λe w'=>e=.returned (minF (iAt v 0) (v.drop 1))/\Bw w w':=by
 obtain⟨b,l,rfl,B,d⟩:=q.cells p;have C:w.cell? ⟨b,l,none⟩=some (.int .i64 (iAt v 0)):=d 0 p;have t:=I d;clear d q;go_enter func135,ntmps135
 go_wp2_with fail;go_loop [7,8] (λm i=>∃(k:Nat) (a:Int),1<=k/\k<=v.length/\i=.int .i64 k/\m=.int .i64 a/\ztR (minF (iAt v 0) (v.drop 1)=minF a (v.drop k))) (λ_ i=>v.length-(intOf i).toNat)
 case atStart=>exact⟨1,_,by omega,by omega,rfl,rfl,I rfl⟩
 obtain⟨k,a,u,D,rfl,rfl,c⟩:=hrel;by_cases g:k<v.length
 . have y:=t.1 k g;have f:=I (c.1.trans (by rw[zhG v k g,minF]));obtain⟨x,r⟩:∃x,x=iAt v k:=⟨_,rfl⟩;rw[<-r]at y f;clear r c;by_cases j:x<a
   . have z:decide (x<a)=true:=by simpa using j
     have h:=I (show min a x=x by omega);clear j;go_wp2_with fail;go_round
     case rel=>exact⟨k+1,_,by omega,by omega,by go_num,rfl,I (by rw[f.1,h.1])⟩
     case measure=>simp[intOf];omega
   have z:decide (x<a)=false:=by simpa using j
   have h:=I (show min a x=a by omega);clear j;go_wp2_with fail;go_round
   case rel=>exact⟨k+1,_,by omega,by omega,by go_num,rfl,I (by rw[f.1,h.1])⟩
   case measure=>simp[intOf];omega
 obtain rfl:k=v.length:=by omega
 have h:=I (show minF (iAt v 0) (v.drop 1)=a from c.1.trans (by rw[List.drop_of_length_le (ztY _),minF]));go_wp2_with fail;go_ret;exact⟨ze (h.1.symm.trans (by rw[List.drop_one])),ztT _ _⟩
theorem zsc(n:Int)(v:List Int)(o:zua)(s:Nat)(w:World)(p:0<v.length)(A:v.length<=140737488355328)(q:zW w o v):Calls prog 135 #[.int .i64 13,n,.slice o v.length s] w λe w'=>e=.returned (maxF (iAt v 0) (v.drop 1))/\Bw w w':=by
 obtain⟨b,l,rfl,B,d⟩:=q.cells p;have C:w.cell? ⟨b,l,none⟩=some (.int .i64 (iAt v 0)):=d 0 p;have t:=I d;clear d q;go_enter func135,ntmps135
 go_wp2_with fail;go_loop [7,8] (λm i=>∃(k:Nat) (a:Int),1<=k/\k<=v.length/\i=.int .i64 k/\m=.int .i64 a/\ztR (maxF (iAt v 0) (v.drop 1)=maxF a (v.drop k))) (λ_ i=>v.length-(intOf i).toNat)
 case atStart=>exact⟨1,_,by omega,by omega,rfl,rfl,I rfl⟩
 obtain⟨k,a,u,D,rfl,rfl,c⟩:=hrel;by_cases g:k<v.length
 . have y:=t.1 k g;have f:=I (c.1.trans (by rw[zhG v k g,maxF]));obtain⟨x,r⟩:∃x,x=iAt v k:=⟨_,rfl⟩;rw[<-r]at y f;clear r c;by_cases j:x<a
   . have z:decide (x<a)=true:=by simpa using j
     have h:=I (show max a x=a by omega);clear j;go_wp2_with fail;go_round
     case rel=>exact⟨k+1,_,by omega,by omega,by go_num,rfl,I (by rw[f.1,h.1])⟩
     case measure=>simp[intOf];omega
   have z:decide (x<a)=false:=by simpa using j
   have h:=I (show max a x=x by omega);clear j;go_wp2_with fail;go_round
   case rel=>exact⟨k+1,_,by omega,by omega,by go_num,rfl,I (by rw[f.1,h.1])⟩
   case measure=>simp[intOf];omega
 obtain rfl:k=v.length:=by omega
 have h:=I (show maxF (iAt v 0) (v.drop 1)=a from c.1.trans (by rw[List.drop_of_length_le (ztY _),maxF]));go_wp2_with fail;go_ret;exact⟨ze (h.1.symm.trans (by rw[List.drop_one])),ztT _ _⟩
theorem zoE(o n:Int)(v:List Int)(m:zua)(h:Nat)(w:World)(r:1<=o/\o<=22)(s:o≠6)(q:v.length<=140737488355328)(f:zL o v.length=true)(i:∀k,k<v.length->inR (iAt v k))(p:o=14->isB (iAt v 0))(l:19<=o->∀k,k<v.length->isB (iAt v k))(j:zW w m v):Calls prog 135 #[o,n,.slice m v.length h] w λe w'=>e=.returned (apV o n v)/\Bw w w':=by
 obtain rfl|rfl|rfl|rfl|rfl|rfl|rfl|rfl|rfl|rfl|rfl|rfl|rfl|rfl|rfl|rfl|rfl|rfl|rfl|rfl|rfl:o=1\/o=2\/o=3\/o=4\/o=5\/o=7\/o=8\/o=9\/o=10\/o=11\/o=12\/o=13\/o=14\/o=15\/o=16\/o=17\/o=18\/o=19\/o=20\/o=21\/o=22:=by omega
 . exact ztz n m v.length h w
 . exact zty n m v.length h w
 . exact ztx n m v.length h w
 . exact ztw n m v.length h w
 . exact ztv n m v.length h w
 . have a:v.length=1:=by simp[zL]at f;omega
   obtain⟨b,d,rfl,g,c⟩:=j.cells (by omega);have e:apV 7 n v=zaP (0+-iAt v 0):=by simp[apV,opV]
   rw[e,a];exact ztu n (iAt v 0) b d h w g (i 0 (by omega)) (c 0 (by omega))
 . have a:v.length=2:=by simp[zL]at f;omega
   obtain⟨b,d,rfl,g,c⟩:=j.cells (by omega);have e:apV 8 n v=zaP (iAt v 0+iAt v 1):=by simp[apV,opV,op2V]
   rw[e,a];exact ztt n (iAt v 0) (iAt v 1) b d h w g (i 0 (by omega)) (i 1 (by omega)) (c 0 (by omega)) (c 1 (by omega))
 . have a:v.length=2:=by simp[zL]at f;omega
   obtain⟨b,d,rfl,g,c⟩:=j.cells (by omega);have e:apV 9 n v=zaP (iAt v 0+-iAt v 1):=by simp[apV,opV,op2V]
   rw[e,a];exact zts n (iAt v 0) (iAt v 1) b d h w g (i 0 (by omega)) (i 1 (by omega)) (c 0 (by omega)) (c 1 (by omega))
 . have a:v.length=2:=by simp[zL]at f;omega
   obtain⟨b,d,rfl,g,c⟩:=j.cells (by omega);have e:apV 10 n v=mulV (iAt v 0) (iAt v 1):=by simp[apV,opV,op2V]
   rw[e,a];exact zsf n (iAt v 0) (iAt v 1) b d h w g (i 0 (by omega)) (i 1 (by omega)) (c 0 (by omega)) (c 1 (by omega))
 . have a:v.length=2:=by simp[zL]at f;omega
   obtain⟨b,d,rfl,g,c⟩:=j.cells (by omega);have e:apV 11 n v=divV (iAt v 0) (iAt v 1):=by simp[apV,opV,op2V]
   rw[e,a];exact zse n (iAt v 0) (iAt v 1) b d h w g (i 0 (by omega)) (i 1 (by omega)) (c 0 (by omega)) (c 1 (by omega))
 . have a:2<=v.length:=by simp[zL]at f;omega
   have e:apV 12 n v=minF (iAt v 0) (v.drop 1):=by simp[apV,opV]
   rw[e];exact zsd n v m h w (by omega) q j
 . have a:2<=v.length:=by simp[zL]at f;omega
   have e:apV 13 n v=maxF (iAt v 0) (v.drop 1):=by simp[apV,opV]
   rw[e];exact zsc n v m h w (by omega) q j
 . have a:v.length=3:=by simp[zL]at f;omega
   obtain⟨b,d,rfl,g,c⟩:=j.cells (by omega);have e:apV 14 n v=if iAt v 0≠0 then iAt v 1 else iAt v 2:=by simp[apV,opV]
   rw[e,a];exact zsb n (iAt v 0) (iAt v 1) (iAt v 2) b d h w g (p rfl) (c 0 (by omega)) (c 1 (by omega)) (c 2 (by omega))
 . have a:v.length=3:=by simp[zL]at f;omega
   obtain⟨b,d,rfl,g,c⟩:=j.cells (by omega);have e:apV 15 n v=zc2 (bndB (iAt v 0) (iAt v 1) (iAt v 2)):=by simp[apV,opV]
   rw[e,a];exact zsa n (iAt v 0) (iAt v 1) (iAt v 2) b d h w g (c 0 (by omega)) (c 1 (by omega)) (c 2 (by omega))
 . have a:v.length=2:=by simp[zL]at f;omega
   obtain⟨b,d,rfl,g,c⟩:=j.cells (by omega);have e:apV 16 n v=zc2 (decide (iAt v 0<iAt v 1)):=by simp[apV,opV,op2V]
   rw[e,a];exact zr9 n (iAt v 0) (iAt v 1) b d h w g (i 0 (by omega)) (i 1 (by omega)) (c 0 (by omega)) (c 1 (by omega))
 . have a:v.length=2:=by simp[zL]at f;omega
   obtain⟨b,d,rfl,g,c⟩:=j.cells (by omega);have e:apV 17 n v=zc2 (decide (iAt v 0<=iAt v 1)):=by simp[apV,opV,op2V]
   rw[e,a];exact zr8 n (iAt v 0) (iAt v 1) b d h w g (i 0 (by omega)) (i 1 (by omega)) (c 0 (by omega)) (c 1 (by omega))
 . have a:v.length=2:=by simp[zL]at f;omega
   obtain⟨b,d,rfl,g,c⟩:=j.cells (by omega);have e:apV 18 n v=zc2 (iAt v 0==iAt v 1):=by simp[apV,opV,op2V]
   rw[e,a];exact zr7 n (iAt v 0) (iAt v 1) b d h w g (i 0 (by omega)) (i 1 (by omega)) (c 0 (by omega)) (c 1 (by omega))
 . have a:v.length=1:=by simp[zL]at f;omega
   obtain⟨b,d,rfl,g,c⟩:=j.cells (by omega);have e:apV 19 n v=1-iAt v 0:=by simp[apV,opV]
   rw[e,a];exact zr6 n (iAt v 0) b d h w g (i 0 (by omega)) (c 0 (by omega))
 . have a:v.length=2:=by simp[zL]at f;omega
   obtain⟨b,d,rfl,g,c⟩:=j.cells (by omega);have e:apV 20 n v=if iAt v 0=0 then 0 else iAt v 1:=by simp[apV,opV,op2V]
   rw[e,a];exact zr5 n (iAt v 0) (iAt v 1) b d h w g (l (by omega) 0 (by omega)) (l (by omega) 1 (by omega)) (c 0 (by omega)) (c 1 (by omega))
 . have a:v.length=2:=by simp[zL]at f;omega
   obtain⟨b,d,rfl,g,c⟩:=j.cells (by omega);have e:apV 21 n v=if iAt v 0=0 then iAt v 1 else 1:=by simp[apV,opV,op2V]
   rw[e,a];exact zr4 n (iAt v 0) (iAt v 1) b d h w g (l (by omega) 0 (by omega)) (l (by omega) 1 (by omega)) (c 0 (by omega)) (c 1 (by omega))
 have a:v.length=2:=by simp[zL]at f;omega
 obtain⟨b,d,rfl,g,c⟩:=j.cells (by omega);have e:apV 22 n v=if iAt v 0=0 then 1 else iAt v 1:=by simp[apV,opV,op2V]
 rw[e,a];exact zr3 n (iAt v 0) (iAt v 1) b d h w g (l (by omega) 0 (by omega)) (l (by omega) 1 (by omega)) (c 0 (by omega)) (c 1 (by omega))
end Go.Proofs.YtbhhejkolnigfaaGreat
