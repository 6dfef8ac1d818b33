/- a part of the proof -/
import Derived.StillTailTactics
import Derived.Deep.OwnRows
import Derived.Laws.OwnMore
import Derived.Maps.Range
import Derived.Lib.Mul64
import Derived.Laws.Bits64b
import Derived.Test.YtafdcbmgdfliiaaGreatG2
set_option linter.all false
set_option maxRecDepth 100000
set_option maxHeartbeats 3000000
namespace Go.Proofs.YtafdcbmgdfliiaaGreat
open Go.RowKit Go.Sort Go.Proofs.Tryz
variable {w w':Wd}{a:Ae}{l:List zB}{B b c cap d e i k:Nat}{s:BA}{t:TypeId}{n o:Int}{f:Nat->Int}{v:Value}{q:LI}{X X':Nat->Prop}
def Rr:List (List UInt8):= [[108,101,103,115], [104,101,97,100,115], [116,121,112,101,115]]
def Rq:List (List UInt8):= [[98,108,111,99,107], [115,112,97,110], [110,105,103,104,116], [108,111,110,103,101,115,116], [115,104,111,114,116,101,115,116], [115,104,105,102,116]]
def Rp:List (List UInt8):= [[115,116,97,114,116], [101,110,100]]
def Rw:List (List UInt8):= [[100,117,116,105,101,115], [108,101,103,115], [104,101,97,100,115], [100,97,121,115]]
def Rv:List (List UInt8):= [[98,108,111,99,107], [115,112,97,110], [99,114,101,100,105,116]]
def Oy(s:BA):Int:=if zN Rr s=true then 1 else if zN Rq s=true then 2 else if zN Rp s=true then 3 else 0
def Uv(s:BA):Int:=if zN Rw s=true then 1 else if zN Rv s=true then 2 else 0
def Kn:BA:=⟨#[98,101,102,111,114,101,46]⟩
def Mt:BA:=⟨#[97,102,116,101,114,46]⟩
def Dt(s p:BA):Bool:=decide (p.size<=s.size)&&((s.extract 0 p.size).toList==p.toList)
def Jq(s:BA):Int:=if(s.toList== [114,101,115,116])=true then 2 else if(s.toList== [110,105,103,104,116,115])=true then 1 else if(s.toList== [104,111,109,101])=true then 4
 else if Dt s Kn=true then Oy (s.extract 7 s.size) else if Dt s Mt=true then Oy (s.extract 6 s.size) else 0
def Cl(k:Int)(s:BA):Int:=if(k==1)=true then Oy s else if(k==2)=true then Jq s else if(k==3)=true then Uv s else 0
def gK(s:BA)(w:Wd):CE 224 #[B_ s] w (Oy s):=by
 delta CE;go_in;go_wp2_with fail
 all_goals (go_ret;exact⟨ze (by first|(simp only[Oy,zN,Rr,Rq,Rp,List.any_cons,List.any_nil, *];rfl)|simp_all),rfl⟩)
def tF(s:BA)(w:Wd):CE 226 #[B_ s] w (Uv s):=by
 delta CE;go_in;go_wp2_with fail
 all_goals (go_ret;exact⟨ze (by first|(simp only[Uv,zN,Rw,Rv,List.any_cons,List.any_nil, *];rfl)|simp_all),rfl⟩)
def tI(s p:BA)(w:Wd):CE 291 #[B_ s,B_ p] w (.bool (Dt s p)):=by
 by_cases h:p.size<=s.size
 . have a:=I (show Dt s p=((s.extract 0 p.size).toList==p.toList) by simp[Dt,h]);delta CE;go_in;go_wp2_with fail
   all_goals (go_ret;exact⟨zz a.1.symm,rfl⟩)
 have a:=I (show Dt s p=false by simp[Dt,h]);delta CE;go_in;go_wp2_with fail
 all_goals (go_ret;exact⟨zz a.1.symm,rfl⟩)
def NS(s p:BA)(w:Wd)(b:s.size<=2^47)(h:Dt s p=true):CE 283 #[B_ s,B_ p] w (.tuple #[B_ (s.extract p.size s.size),.bool true]):=by
 have c:p.size<=s.size:=by simp[Dt]at h;exact h.1
 delta CE;go_in;go_wp2_with (go_at_call 291;refine cb (tI _ _ _) ?_);go_ret2;exact⟨rfl,rfl⟩
def PI(s p:BA)(w:Wd)(h:Dt s p=false):CE 283 #[B_ s,B_ p] w (.tuple #[B_ s,.bool false]):=by
 delta CE;go_in;go_wp2_with (go_at_call 291;refine cb (tI _ _ _) ?_);go_ret2;exact⟨rfl,rfl⟩
def uN(s p:BA)(w:Wd)(b:s.size<=2^47)(h:Dt s p=true):CE 264 #[B_ s,B_ p] w (.tuple #[B_ (s.extract p.size s.size),.bool true]):=by
 have c:p.size<=s.size:=by simp[Dt]at h;exact h.1
 delta CE;go_in;go_wp2_with fail;refine cb (NS _ _ _ b h) ?_;go_wp2;go_ret2;exact⟨rfl,rfl⟩
def nR(s p:BA)(w:Wd)(h:Dt s p=false):CE 264 #[B_ s,B_ p] w (.tuple #[B_ s,.bool false]):=by
 delta CE;go_in;go_wp2_with fail;refine cb (PI _ _ _ h) ?_;go_wp2;go_ret2;exact⟨rfl,rfl⟩
def uC(s:BA)(w:Wd)(i:s.size<=2^47):CE 225 #[B_ s] w (Jq s):=by
 cases c:(s.toList== [114,101,115,116]);rotate_left
 . have a:=I (show Jq s=2 by simp only[Jq,c];rfl);delta CE;go_in;go_wp2;go_ret;exact⟨ze a.1.symm,rfl⟩
 cases f:(s.toList== [110,105,103,104,116,115]);rotate_left
 . have a:=I (show Jq s=1 by simp only[Jq,c,f];rfl);delta CE;go_in;go_wp2;go_ret;exact⟨ze a.1.symm,rfl⟩
 cases g:(s.toList== [104,111,109,101]);rotate_left
 . have a:=I (show Jq s=4 by simp only[Jq,c,f,g];rfl);delta CE;go_in;go_wp2;go_ret;exact⟨ze a.1.symm,rfl⟩
 cases d:Dt s Kn
 . cases h:Dt s Mt
   . have a:=I (show Jq s=0 by simp only[Jq,c,f,g,d,h];rfl);delta CE;go_in;go_wp2_with fail;refine cb (nR _ _ _ d) ?_;go_wp2_with fail;refine cb (nR _ _ _ h) ?_;go_wp2;go_ret;exact⟨ze a.1.symm,rfl⟩
   have a:=I (show Jq s=Oy (s.extract 6 s.size) by simp only[Jq,c,f,g,d,h];rfl);delta CE;go_in;go_wp2_with fail;refine cb (nR _ _ _ d) ?_;go_wp2_with fail;refine cb (uN _ _ _ i h) ?_;go_wp2_with fail;refine cb (gK _ _) ?_;go_wp2;go_ret;exact⟨ze a.1.symm,rfl⟩
 have a:=I (show Jq s=Oy (s.extract 7 s.size) by simp only[Jq,c,f,g,d];rfl);delta CE;go_in;go_wp2_with fail;refine cb (uN _ _ _ i d) ?_;go_wp2_with fail;refine cb (gK _ _) ?_;go_wp2;go_ret;exact⟨ze a.1.symm,rfl⟩
def So(k:Int):Int:=if(k==0)=true then 6 else 0
def sO(k:Int)(s:BA)(w:Wd)(i:s.size<=2^47):CE 147 #[k,B_ s] w (.tuple #[(Cl k s),(So (Cl k s))]):=by
 by_cases d:k=1
 . subst d;have a:Af (Cl 1 s=Oy s):=I rfl;cases h:(Oy s==0)
   . have b:=I (show So (Oy s)=0 by simp only[So,h];rfl);delta CE;go_in;go_wp2_with fail;refine cb (gK _ _) ?_;go_wp2;go_ret2;exact⟨zJ a.1.symm (by rw[a.1,b.1]),rfl⟩
   have b:=I (show Oy s=0 by simpa using h);delta CE;go_in;go_wp2_with fail;refine cb (gK _ _) ?_;go_wp2;go_ret2;exact⟨zJ (by rw[a.1,b.1]) (by rw[a.1,b.1];rfl),rfl⟩
 by_cases f:k=2
 . subst f;have a:Af (Cl 2 s=Jq s):=I rfl;cases h:(Jq s==0)
   . have b:=I (show So (Jq s)=0 by simp only[So,h];rfl);delta CE;go_in;go_wp2_with fail;refine cb (uC _ _ i) ?_;go_wp2;go_ret2;exact⟨zJ a.1.symm (by rw[a.1,b.1]),rfl⟩
   have b:=I (show Jq s=0 by simpa using h);delta CE;go_in;go_wp2_with fail;refine cb (uC _ _ i) ?_;go_wp2;go_ret2;exact⟨zJ (by rw[a.1,b.1]) (by rw[a.1,b.1];rfl),rfl⟩
 by_cases g:k=3
 . subst g;have a:Af (Cl 3 s=Uv s):=I rfl;cases h:(Uv s==0)
   . have b:=I (show So (Uv s)=0 by simp only[So,h];rfl);delta CE;go_in;go_wp2_with fail;refine cb (tF _ _) ?_;go_wp2;go_ret2;exact⟨zJ a.1.symm (by rw[a.1,b.1]),rfl⟩
   have b:=I (show Uv s=0 by simpa using h);delta CE;go_in;go_wp2_with fail;refine cb (tF _ _) ?_;go_wp2;go_ret2;exact⟨zJ (by rw[a.1,b.1]) (by rw[a.1,b.1];rfl),rfl⟩
 have j:=RZ d
 have l:=RZ f
 have m:=RZ g
 have a:=I (show Cl k s=0 by simp only[Cl,j,l,m];rfl);delta CE;go_in;go_wp2;go_ret2;exact⟨zJ (by rw[a.1]) (by rw[a.1];rfl),rfl⟩
def Am(l:LI)(k:Nat):Int:=l.getD k 0
theorem Zn(l:LI)(k:Nat)(h:k<l.length):l.drop k=Am l k::l.drop (k+1):=by
 grind[Am,List.drop_eq_getElem_cons]
def zW(w:Wd)(a:Ae)(l:LI):Prop:=l= []\/∃b off,a=some (aD b off)/\b<w.heap.size/\∀i,i<l.length->w.cell? (aD b (off+i))=some (Bn (Am l i))
def zW.below{l:LI}(h:zW w a l)(d:Bw w w'):zW w' a l:=by
 rcases h with h|⟨b,c,f,e,g⟩;exact .inl h;exact .inr ⟨b,c,f,As e d.size,λi hi=>(d.cell (p:=aD b (c+i)) e).trans (g i hi)⟩
def zW.cells{l:LI}(h:zW w a l)(c:0<l.length):∃b off,a=some (aD b off)/\b<w.heap.size/\∀i,i<l.length->w.cell? (aD b (off+i))=some (Bn (Am l i)):=by
 rcases h with rfl|h;simp at c;exact h
def Ck:LI->Int->Bool
 |[],_=>true
 |x::l,k=>(x==k)&&Ck l k
def Fs(k:Int):Bool:=(k==1) || (k==2)
def aZ(o a b:Int):Int:=if((a==1)&&(b==1))=true then 1 else if((a==2)&&(b==1))=true then 2 else if((o==10)&&(a==1)&&(b==2))=true then 2 else if((o==11)&&(a==2)&&(b==2))=true then 1 else 0
def Gd(o:Int)(t:LI):Bool:=if(o==15)=true then Ck t 3 else if(o==16)=true then Fs (Am t 0)&&(Am t 0==Am t 1) else if(o==17)=true then Fs (Am t 0)&&(Am t 0==Am t 1) else if(o==18)=true then Am t 0==Am t 1 else Ck t 4
def Ch(o:Int)(t:LI):Int:=
 if(o==1)=true then 1 else if(o==2)=true then 2 else if(o==3)=true then 3 else if(o==4)=true then 4 else if(o==5)=true then 4
 else if((o==7) || (o==8) || (o==9) || (o==12) || (o==13))=true then(if(Fs (Am t 0)&&Ck t (Am t 0))=true then Am t 0 else 0)
 else if((o==10) || (o==11))=true then aZ o (Am t 0) (Am t 1) else if(o==14)=true then(if((Am t 0==4)&&(Am t 1==Am t 2))=true then Am t 1 else 0)
 else if Gd o t=true then 4 else 0
def dY(k:Int)(w:Wd):CE 292 #[k] w (.bool (Fs k)):=by
 cases h:(k==1)
 all_goals
  delta CE;go_in
  go_wp2_with fail
  all_goals (go_ret;exact⟨zz (by simp[Fs,h]),rfl⟩)
def uW(o a b:Int)(w:Wd):CE 294 #[o,a,b] w (aZ o a b):=by
 cases c:(a==1) <;> cases d:(a==2) <;> cases f:(b==1) <;> cases g:(b==2) <;> cases h:(o==10) <;> cases i:(o==11)
 all_goals
  have j:=I (show aZ o a b=_ by simp only[aZ,c,d,f,g,h,i,Bool.true_and,Bool.and_true,Bool.false_and,Bool.and_false,if_true,if_false,Mn];rfl);delta CE;go_in
  go_wp2_with fail
  all_goals (go_ret;exact⟨ze j.1.symm,rfl⟩)
def kE(l:LI)(k:Int)(a:Ae)(cap:Nat)(w:Wd)(r:l.length<=140737488355328)(n:zW w a l):CE 293 #[CU a l.length cap,k] w (.bool (Ck l k)):=by
 have o:=I n;delta CE;go_in;go_wp2_with fail;go_loop [9] (λi=>∃j:Nat,j<=l.length/\i=.int .i64 j/\Af (Ck l k=Ck (l.drop j) k)) (λi=>l.length-(intOf i).toNat);exact⟨0,Bg _,rfl,I rfl⟩;obtain⟨j,s,rfl,c⟩:=hrel;by_cases d:j<l.length
 . obtain⟨b,p,rfl,t,f⟩:=o.1.cells (by omega);have u:=f j d;have g:=I (c.1.trans (by rw[Zn l j d,Ck]));cases m:(Am l j==k)
   . have q:(Am l j !=k)=true:=by simpa using m
     have h:=I (g.1.trans (by rw[m,Bool.false_and]));go_wp2;go_ret;exact⟨zz h.1.symm,rfl⟩
   have q:(Am l j !=k)=false:=by simpa using m
   have h:=I (g.1.trans (by rw[m,Bool.true_and]));go_wp2;go_round;exact⟨j+1,by omega,by go_num,h⟩;simp[intOf];omega
 obtain rfl:j=l.length:=by omega
 have h:Af (Ck l k=true):=I (c.1.trans (by rw[Gk];rfl));go_wp2;go_ret;exact⟨zz h.1.symm,rfl⟩
def sV(o:Int)(l:LI)(a:Ae)(cap:Nat)(w:Wd)(p:l.length<=2^47)(q:15<=o)(k:zL o l.length=true)(m:zW w a l):CV 295 #[o,CU a l.length cap] w (.bool (Gd o l)):=by
 by_cases c:o=15
 . subst c;delta CV;go_in;go_wp2_with fail;refine cb (kE l 3 a cap w p m) ?_;go_wp2;go_ret;exact⟨rfl,An _ _⟩
 by_cases d:o=16\/o=17\/o=18
 . have s:l.length=2:=by rcases d with rfl|rfl|rfl <;> simp[zL]at k <;> omega
   obtain⟨b,t,rfl,A,f⟩:=m.cells (by omega);have u:=f 0 (by omega);have B:=f 1 (by omega);rw[Nat.add_zero]at u;rw[s];rcases d with rfl|rfl|rfl
   . cases g:Fs (Am l 0)
     all_goals
      have i:=I (show Gd 16 l=_ by simp only[Gd,g,Bool.true_and,Bool.false_and];rfl);have j:=I (λn=>Calls.quiet_of_same (w:=w) (n:=n) ((dY (Am l 0) (w.drewN n)).mono λ_ _ h=>⟨h.1,h.2.symm⟩));rw[g]at j;delta CV;go_in
      go_wp2_with fail;go_quiet ((go_at_call 292;exact j.1 _))
      go_wp2;go_ret;exact⟨zz i.1.symm,dN (An _ _) _⟩
   . cases g:Fs (Am l 0)
     all_goals
      have i:=I (show Gd 17 l=_ by simp only[Gd,g,Bool.true_and,Bool.false_and];rfl);have j:=I (λn=>Calls.quiet_of_same (w:=w) (n:=n) ((dY (Am l 0) (w.drewN n)).mono λ_ _ h=>⟨h.1,h.2.symm⟩));rw[g]at j;delta CV;go_in
      go_wp2_with fail;go_quiet ((go_at_call 292;exact j.1 _))
      go_wp2;go_ret;exact⟨zz i.1.symm,dN (An _ _) _⟩
   delta CV;go_in;go_wp2;go_quiet (fail);go_wp2;go_ret;exact⟨rfl,dN (An _ _) _⟩
 have v:=RZ c
 have x:(o==16)=false:=by simp;omega
 have y:(o==17)=false:=by simp;omega
 have z:(o==18)=false:=by simp;omega
 have i:=I (show Gd o l=Ck l 4 by simp only[Gd,v,x,y,z];rfl);delta CV;go_in;go_wp2_with fail;refine cb (kE l 4 a cap w p m) ?_;go_wp2;go_ret;exact⟨zz i.1.symm,An _ _⟩
def znS(o:Int)(l:LI)(a:Ae)(cap:Nat)(w:Wd)(r:l.length<=2^47)(t:1<=o)(f:o<=22)(g:o≠6)(k:zL o l.length=true)(m:zW w a l):CV 284 #[o,CU a l.length cap] w (Ch o l):=by
 by_cases u:o=1\/o=2\/o=3\/o=4\/o=5
 . rcases u with rfl|rfl|rfl|rfl|rfl
   all_goals
    delta CV;go_in
    go_wp2;go_ret;exact⟨rfl,An _ _⟩
 by_cases q:o=7\/o=8\/o=9\/o=12\/o=13
 . have D:0<l.length:=by rcases q with rfl|rfl|rfl|rfl|rfl <;> simp[zL]at k <;> omega
   have E:=I m;obtain⟨b,v,rfl,s,c⟩:=m.cells D;have x:=c 0 D;rw[Nat.add_zero]at x;have y:Ch o l=if(Fs (Am l 0)&&Ck l (Am l 0))=true then Am l 0 else 0:=by rcases q with rfl|rfl|rfl|rfl|rfl <;> rfl
   have i:=I y;cases j:Fs (Am l 0)
   . have d:=I (i.1.trans (by rw[j];rfl:_=(0:Int)));rcases q with rfl|rfl|rfl|rfl|rfl
     all_goals
      delta CV;go_in
      go_wp2_with fail;refine cb (dY _ _) ?_;go_wp2;go_ret;exact⟨ze d.1.symm,An _ _⟩
   cases z:Ck l (Am l 0)
   . have d:=I (i.1.trans (by rw[j,z];rfl:_=(0:Int)));rcases q with rfl|rfl|rfl|rfl|rfl
     all_goals
      delta CV;go_in
      go_wp2_with fail;refine cb (dY _ _) ?_;go_wp2_with fail;refine cb (kE l _ _ cap _ r E.1) ?_;go_wp2;go_ret;exact⟨ze d.1.symm,An _ _⟩
   have d:=I (i.1.trans (by rw[j,z];rfl:_=Am l 0));rcases q with rfl|rfl|rfl|rfl|rfl
   all_goals
    delta CV;go_in
    go_wp2_with fail;refine cb (dY _ _) ?_;go_wp2_with fail;refine cb (kE l _ _ cap _ r E.1) ?_;go_wp2;go_ret;exact⟨ze d.1.symm,An _ _⟩
 by_cases B:o=10\/o=11
 . have F:l.length=2:=by rcases B with rfl|rfl <;> simp[zL]at k <;> omega
   obtain⟨b,v,rfl,s,c⟩:=m.cells (by omega);have x:=c 0 (by omega);have L:=c 1 (by omega);rw[Nat.add_zero]at x;rw[F];rcases B with rfl|rfl
   . have C:=I (λn=>Calls.quiet_of_same (w:=w) (n:=n) ((uW 10 (Am l 0) (Am l 1) (w.drewN n)).mono λ_ _ h=>⟨h.1,h.2.symm⟩));delta CV;go_in;go_wp2_with fail;go_quiet ((go_at_call 294;exact C.1 _));go_wp2;go_ret;exact⟨rfl,dN (An _ _) _⟩
   have C:=I (λn=>Calls.quiet_of_same (w:=w) (n:=n) ((uW 11 (Am l 0) (Am l 1) (w.drewN n)).mono λ_ _ h=>⟨h.1,h.2.symm⟩));delta CV;go_in;go_wp2_with fail;go_quiet ((go_at_call 294;exact C.1 _));go_wp2;go_ret;exact⟨rfl,dN (An _ _) _⟩
 by_cases G:o=14
 . subst G;have H:l.length=3:=by simp[zL]at k;omega
   obtain⟨b,v,rfl,s,c⟩:=m.cells (by omega);have x:=c 0 (by omega);have L:=c 1 (by omega);have S:=c 2 (by omega);rw[Nat.add_zero]at x;rw[H];have i:Af (Ch 14 l=if((Am l 0==4)&&(Am l 1==Am l 2))=true then Am l 1 else 0):=I rfl;cases j:(Am l 0==4)
   . have d:=I (i.1.trans (by rw[j];rfl:_=(0:Int)));delta CV;go_in;go_wp2;go_quiet (fail);go_wp2;go_ret;exact⟨ze d.1.symm,dN (An _ _) _⟩
   cases z:(Am l 1==Am l 2)
   . have d:=I (i.1.trans (by rw[j,z];rfl:_=(0:Int)));delta CV;go_in;go_wp2;go_quiet (fail);go_wp2;go_ret;exact⟨ze d.1.symm,dN (An _ _) _⟩
   have d:=I (i.1.trans (by rw[j,z];rfl:_=Am l 1));delta CV;go_in;go_wp2;go_quiet (fail);go_wp2;go_ret;exact⟨ze d.1.symm,dN (An _ _) _⟩
 have A:15<=o:=by omega
 have y:Ch o l=if Gd o l=true then 4 else 0:=by
  obtain rfl|rfl|rfl|rfl|rfl|rfl|rfl|rfl:o=15\/o=16\/o=17\/o=18\/o=19\/o=20\/o=21\/o=22:=by omega
  all_goals rfl
 have i:=I y;have K:=I k;have T:(o==1)=false:=by simp;omega
 have U:(o==2)=false:=by simp;omega
 have V:(o==3)=false:=by simp;omega
 have W:(o==4)=false:=by simp;omega
 have X:(o==5)=false:=by simp;omega
 have Y:(o==7)=false:=by simp;omega
 have Z:(o==8)=false:=by simp;omega
 have n9:(o==9)=false:=by simp;omega
 have M:(o==12)=false:=by simp;omega
 have N:(o==13)=false:=by simp;omega
 have P:(o==10)=false:=by simp;omega
 have Q:(o==11)=false:=by simp;omega
 have R:(o==14)=false:=by simp;omega
 cases j:Gd o l
 . have d:=I (i.1.trans (by rw[j];rfl:_=(0:Int)));delta CV;go_in;go_wp2_with fail;refine ca (sV o l a cap w r A K.1 m) λp s=>?_;go_wp2;go_ret;exact⟨ze d.1.symm,s⟩
 have d:=I (i.1.trans (by rw[j];rfl:_=(4:Int)));delta CV;go_in;go_wp2_with fail;refine ca (sV o l a cap w r A K.1 m) λp s=>?_;go_wp2;go_ret;exact⟨ze d.1.symm,s⟩
mutual
def Bt(lk:BA->Option (Int×Int))(sc:Int):zH->Int×Int
 | .mk o _ s l=>if o=6 then(if Cl sc s≠0 then(Cl sc s,0) else(lk s).getD (0,6))
  else if(Cn lk sc l).1≠0 then(0,(Cn lk sc l).1) else if Ch o (Cn lk sc l).2≠0 then(Ch o (Cn lk sc l).2,0) else(0,9)
def Cn(lk:BA->Option (Int×Int))(sc:Int):List zH->Int×LI
 |[]=>(0, [])
 |x::l=>if(Bt lk sc x).2≠0 then((Bt lk sc x).2, []) else((Cn lk sc l).1,(Bt lk sc x).1::(Cn lk sc l).2)
end
theorem TG{b:BA->Option (Int×Int)}(h:∀s r,b s=some r->r.2≠0->r.1=0)(c:Int)(x:zH)(a:(Bt b c x).2≠0):(Bt b c x).1=0:=by
 obtain⟨o,n,s,l⟩:=x;rw[Bt]at a ⊢;by_cases e:o=6;rw[iP e]at a ⊢;by_cases d:Cl c s≠0;rw[iP d]at a;exact aB rfl a;rw[iN d]at a ⊢;cases f:b s with
 |none=>rfl
 |some r=>grind
 grind
theorem BO{a:BA->Option (Int×Int)}{b:Int}{l:List zH}{c:LI}(d:k<l.length)(h:Cn a b l=((Cn a b (l.drop k)).1,c++(Cn a b (l.drop k)).2))(e:(Bt a b (Au l k)).2=0):
 Cn a b l=((Cn a b (l.drop (k+1))).1,(c++ [(Bt a b (Au l k)).1])++(Cn a b (l.drop (k+1))).2):=by
 grind[Vx,Cn]
theorem yZ{a:BA->Option (Int×Int)}{b:Int}{l:List zH}{c:LI}(d:k<l.length)(h:Cn a b l=((Cn a b (l.drop k)).1,c++(Cn a b (l.drop k)).2))(e:(Bt a b (Au l k)).2≠0):
 (Cn a b l).1=(Bt a b (Au l k)).2:=by
 grind[Vx,Cn]
def fi(l:List zB)(s:BA):Option Nat:=l.findIdx? λx=>decide (x.name=s)
theorem qY(h:fi l s=some i):i<l.length:=by
 grind[fi,List.findIdx?_eq_some_iff_getElem]
theorem BM(a:k<l.length)(s:BA):fi (l.take (k+1)) s=match fi (l.take k) s with|some i=>some i|none=>if(Ak l k).name=s then some k else none:=by
 have e:l.take (k+1)=l.take k++ [Ak l k]:=by
  rw[tS a,Ak,Cr,Cz a];rfl
 grind[fi]
def Co(l:List zB)(T:List (Int×Int))(n:Nat)(s:BA):Option (Int×Int):=match fi l s with
 |some i=>if i<n then some (T.getD i (0,0)) else none
 |none=>none
def Ur(l:List zB)(T:List (Int×Int))(i:Nat):Int×Int:=if Bb (Ak l i).ex≠0 then(0,Bb (Ak l i).ex) else Bt (Co l T i) 0 (Ak l i).ex
def Bs(l:List zB):Nat->List (Int×Int)
 |0=> []
 |i+1=>Bs l i++ [Ur l (Bs l i) i]
def Bx(l:List zB)(i:Nat):Int×Int:=Ur l (Bs l i) i
theorem Yy(l:List zB)(n:Nat):(Bs l n).length=n:=by
 induction n<;>simp_all[Bs]
theorem SO(l:List zB)(n i:Nat)(h:i<n):(Bs l n).getD i (0,0)=Bx l i:=by
 induction n<;>grind[Bs,Yy,Bx]
def Cv(l:List zB)(n:Nat)(s:BA):Option (Int×Int):=match fi l s with
 |some i=>if i<n then some (Bx l i) else none
 |none=>none
theorem BI(l:List zB)(n:Nat):Co l (Bs l n) n=Cv l n:=by
 grind[Co,Cv,SO]
theorem bI(l:List zB)(i:Nat):Bx l i=if Bb (Ak l i).ex≠0 then(0,Bb (Ak l i).ex) else Bt (Cv l i) 0 (Ak l i).ex:=by
 rw[Bx,Ur,BI]
theorem zrP(l:List zB)(i:Nat):(Bx l i).2≠0->(Bx l i).1=0:=by
 induction i using Nat.strongRecOn<;>grind[bI,TG,Cv]
theorem fY(M:List (Value×Value))(s t:BA)(v:Value):Bz (Dd M (B_ s) v) (B_ t)=if s=t then some v else Bz M (B_ t):=by
 induction M with
 |nil=>
  grind[Dd,Bz,Gv]
 |cons p M ih=>
  rw[Dd];by_cases a:Gv (B_ s) p.1=true
  . rw[iP a];have:p.1=B_ s:=by
     cases b:p.1 <;> rw[b]at a <;> simp[Gv]at a
     rw[a]
    grind[Bz,Gv]
  grind[Bz]
theorem tH(M:List (Value×Value))(s t:Int)(v:Value)(f:∀p∈M,Jo (.int .i64) p.1):Bz (Dd M (.int .i64 s) v) (.int .i64 t)=if s=t then some v else Bz M (.int .i64 t):=by
 induction M with
 |nil=>
  grind[Dd,Bz,Gv]
 |cons p M b=>
  have b:=b (λp d=>f p (by simp[d]));have a:=f p (by simp);rw[Dd];by_cases c:Gv (.int .i64 s) p.1=true
  . rw[iP c];have:p.1=.int .i64 s:=by
     cases d:p.1 <;> rw[d]at c a <;> simp[Gv,Jo]at c a
     rw[c,a]
    grind[Bz,Gv]
  grind[Bz]
def Kw(w:Wd)(b:Nat)(l:List zB):Prop:=∃M,Dl prog w b .string M/\∀s,Bz M (.string s)=(fi l s).map λi=>Value.int .i64 i
def Kw.below(h:Kw w b l)(a:Bw w w'):Kw w' b l:=by
 obtain⟨M,c,d⟩:=h;exact⟨M,c.below a,d⟩
def Kw.grown{a:Option Nat}(h:Kw w b l)(d:w.grownBy w' a)(c:some b≠a):Kw w' b l:=by
 obtain⟨M,e,f⟩:=h;exact⟨M,e.grown d c,f⟩
def Kw.lt(h:Kw w b l):b<w.heap.size:=by
 obtain⟨M,a,c⟩:=h;exact a.lt
def iS(w:Wd):(zeroValue 3).run prog w=.ok (Bn 0) w:=by kernel_rfl
def aH(l:List zB)(s:BA):Nat:=(fi l s).getD 0
def Px(l:List zB)(s:BA):Bool:=(fi l s).isSome
def iL(h:Kw w b l)(s:BA):(Instr.lookup 246 (.map (some b)) (B_ s) true).run prog w=.ok (.tuple #[(aH l s),.bool (Px l s)]) w:=by
 obtain⟨M,a,c⟩:=h;rw[dW underlying246 underlying9 a (key:=B_ s) trivial (iS _),c];unfold aH Px;cases fi l s <;> rfl
theorem zpL(h:Kw w b (l.take k))(d:k<l.length)(f:Px (l.take k) (Ak l k).name=false):
 ∃a,(Instr.mapUpdate 246 (.map (some b)) (B_ (Ak l k).name) (Bn k)).run prog w=.ok () a/\Kw a b (l.take (k+1))/\w.grownBy a (some b):=by
 obtain⟨M,g,j⟩:=h;have⟨a,m,n,o⟩:=aP underlying246 underlying9 g (key:=B_ (Ak l k).name) (Bn k) trivial;refine⟨a,m,⟨_,n,λs=>?_⟩,o⟩;grind[fY,BM,Px]
theorem yQ(h:Kw w b (l.take k))(c:k<l.length)(a:Px (l.take k) (Ak l k).name=true):Kw w b (l.take (k+1)):=by
 obtain⟨M,d,f⟩:=h;refine⟨M,d,λs=>?_⟩;grind[BM,Px]
def Ot(w:Wd)(b:Nat)(l:List zB):Prop:=∃M,Dl prog w b (.int .i64) M/\∀(i:Nat) v,Bz M (Bn i)=some v->v=Bn (Bx l i).1/\(Bx l i).2=0
def Ot.below(h:Ot w b l)(a:Bw w w'):Ot w' b l:=by
 obtain⟨M,c,d⟩:=h;exact⟨M,c.below a,d⟩
def Ot.grown{a:Option Nat}(h:Ot w b l)(d:w.grownBy w' a)(c:some b≠a):Ot w' b l:=by
 obtain⟨M,e,f⟩:=h;exact⟨M,e.grown d c,f⟩
def Ot.lt(h:Ot w b l):b<w.heap.size:=by
 obtain⟨M,a,c⟩:=h;exact a.lt
theorem NL(h:Ot w b l)(i:Nat):((Instr.lookup 247 (.map (some b)) (Bn i) true).run prog w=.ok (.tuple #[Bn (Bx l i).1,.bool true]) w/\(Bx l i).2=0)\/(Instr.lookup 247 (.map (some b)) (Bn i) true).run prog w=.ok (.tuple #[Bn 0,.bool false]) w:=by
 obtain⟨M,c,d⟩:=h;have e:=dW underlying247 underlying3 c (key:=Bn i) rfl (iS _);cases a:Bz M (Bn i)<;>grind
theorem OG(h:Ot w b l)(i:Nat)(d:(Bx l i).2=0):
 ∃a,(Instr.mapUpdate 247 (.map (some b)) (Bn i) (Bn (Bx l i).1)).run prog w=.ok () a/\Ot a b l/\w.grownBy a (some b):=by
 obtain⟨M,c,f⟩:=h;have⟨a,g,k,m⟩:=aP underlying247 underlying3 c (key:=Bn i) (Bn (Bx l i).1) rfl;refine⟨a,g,⟨_,k,λj v hj=>?_⟩,m⟩;rw[tH M i j _ c.2]at hj;grind
structure Ix(B:Nat)(w:Wd)(kp ib kb:Nat)(l:List zB)(a:Ae)(cap:Nat):Prop where
 bp:B<=kp
 bi:B<=ib
 bk:B<=kb
 pk:kp≠kb
 ik:ib≠kb
 pi:kp≠ib
 box:w.heap[kp]?=some (.cells #[.slice a l.length cap,.map (some ib),.map (some kb)] 315 (0,0))
 idx:Kw w ib l
 known:Ot w kb l
 cs:Me B w a l
def Ix.lt(h:Ix B w b c d l a cap):b<w.heap.size/\c<w.heap.size/\d<w.heap.size:=⟨Ag h.box,h.idx.lt,h.known.lt⟩
def Ix.below(h:Ix B w c d e l a cap)(b:Bw w w'):Ix B w' c d e l a cap where
 bp:=h.bp
 bi:=h.bi
 bk:=h.bk
 pk:=h.pk
 ik:=h.ik
 pi:=h.pi
 box:=(b.block _ h.lt.1).trans h.box
 idx:=h.idx.below b
 known:=h.known.below b
 cs:=h.cs.keep (b.mono (Bf h.bp (Nat.le_of_lt h.lt.1))) (Is.keep (b.mono (Bf h.bp (Nat.le_of_lt h.lt.1))))
def Ix.grown(h:Ix B w d e b l a cap)(c:w.grownBy w' (some b))(f:Ot w' b l):Ix B w' d e b l a cap where
 bp:=h.bp
 bi:=h.bi
 bk:=h.bk
 pk:=h.pk
 ik:=h.ik
 pi:=h.pi
 box:=(c.block _ h.lt.1 (by simpa using h.pk)).trans h.box
 idx:=h.idx.grown c (by simpa using h.ik)
 known:=f
 cs:=by
  have:Below B w w':=(An B w).grown c (Bf h.bp (Nat.le_of_lt h.lt.1)) (λj hj=>by cases hj;exact h.bk);exact h.cs.keep this (Is.keep this)
theorem Ix.other{f:Nat}(h:Ix B w d e f l a cap)(c:w.grownBy w' (some b))(g:B<=b)(i:d≠b)(k:e≠b)(m:f≠b):Ix B w' d e f l a cap where
 bp:=h.bp
 bi:=h.bi
 bk:=h.bk
 pk:=h.pk
 ik:=h.ik
 pi:=h.pi
 box:=(c.block _ h.lt.1 (by simpa using i)).trans h.box
 idx:=h.idx.grown c (by simpa using k)
 known:=h.known.grown c (by simpa using m)
 cs:=by
  have:Below B w w':=(An B w).grown c (Bf h.bp (Nat.le_of_lt h.lt.1)) (λj hj=>by simp_all);exact h.cs.keep this (Is.keep this)
def BE(w:Wd):(Instr.makeMap 246 none).run prog w=.ok (.map (some w.heap.size)) (w.alloc (.map #[] 0)):=by kernel_rfl
def BF(w:Wd):(Instr.makeMap 247 none).run prog w=.ok (.map (some w.heap.size)) (w.alloc (.map #[] 0)):=by kernel_rfl
def Wr(B:Nat)(w:Wd)(l:List zB)(a:Ae)(cap:Nat)(e:Ending)(w':Wd):Prop:=∃kp ib kb,e=.returned (.pointer (some (aD kp 0)))/\Ix B w' kp ib kb l a cap/\w.heap.size<=kb/\Below w.heap.size w w'
def GV(l:List zB)(a:Ae)(cap:Nat)(w:Wd)(B:Nat)(E:B<=w.heap.size)(K:Me B w a l):
 Calls prog 146 #[CU a l.length cap] w (Wr B w l a cap):=by
 have hl:=K.1;have U:=I K;have L:=BE;have M:=BF;go_in;go_wp2_with fail;have⟨W,q⟩:=aT (((w.alloc (.map #[] 0)).alloc (.map #[] 0)).alloc (Obj.cells #[CU a l.length cap,Value.map (some w.heap.size),Value.map (some (w.heap.size+1))] 315));have N:=I (Ab (J w (.map #[] 0)) (Ab (J _ (.map #[] 0)) (J _ (Obj.cells #[CU a l.length cap,Value.map (some w.heap.size),Value.map (some (w.heap.size+1))] 315))));have V:Af (Kw W w.heap.size (l.take 0)):=I ⟨[],by rw[q];exact((Dl.made prog w .string).alloc _).alloc _,λs=>by simp[Bz,fi]⟩;have X:Af (Ot W (w.heap.size+1) l):=I ⟨[],by rw[q];have:=(Dl.made prog (w.alloc (.map #[] 0)) (.int .i64)).alloc (Obj.cells #[CU a l.length cap,Value.map (some w.heap.size),Value.map (some (w.heap.size+1))] 315);rwa [zr]at this,λi v hv=>by simp[Bz]at hv⟩;have Y:=I (show W.heap[w.heap.size+2]?=some (.cells #[CU a l.length cap,Value.map (some w.heap.size),Value.map (some (w.heap.size+1))] 315 (0,0)) by rw[q];have:=zh ((w.alloc (.map #[] 0)).alloc (.map #[] 0)) (Obj.cells #[CU a l.length cap,Value.map (some w.heap.size),Value.map (some (w.heap.size+1))] 315);rwa [zr,zr]at this);rw[<-q]at N;simp only[<-q];go_loopw [15] (λi wr=>∃(k:Nat),k<=l.length/\i=Bn k/\Af (Kw wr w.heap.size (l.take k))/\Af (Ot wr (w.heap.size+1) l)/\Af (wr.heap[w.heap.size+2]?=some (.cells #[CU a l.length cap,Value.map (some w.heap.size),Value.map (some (w.heap.size+1))] 315 (0,0)))/\Af (Bw w wr)) (λi _=>l.length-(intOf i).toNat);exact⟨0,Bg _,rfl,V,X,Y,N⟩;obtain⟨k,hk,rfl,P,Q,F,c⟩:=hrel;by_cases h:k<l.length
 . have u:=U.1;obtain⟨b,a0,rfl,hb,x⟩:=u.cells (by omega);have⟨c0,s1,r,d,⟨c1,c2,c3,c4⟩,y,j⟩:=(x k h).keep (c.1.mono E) b _ _ hb;have a1:b<wr.heap.size:=by have:=c.1.size;omega
   have a3:=Ag F.1;have m:=I (P.1.below (J wr (oN (Ak l k) r d)));have z:=I (Q.1.below (J wr (oN (Ak l k) r d)));have o:=I (zd (o':=(oN (Ak l k) r d)) F.1);have A:=I (Ab c.1 (J wr (oN (Ak l k) r d)));have G:=I (zh wr (oN (Ak l k) r d));go_wp2_with fail;generalize hW1:wr.alloc (oN (Ak l k) r d)=g at*;have Z:g.cell? (aD (w.heap.size+2) 1)=some (.map (some w.heap.size)):=zm o.1 rfl;have z2:g.cell? (aD wr.heap.size 0)=some (B_ (Ak l k).name):=zm G.1 rfl;have zs:=Ag G.1;have L1:=λn=>iL (w:=g.drewN n) (m.1.below (dN (An _ _) n)) (Ak l k).name;go_quiet (fail);have C:=I (m.1.below (dN (An _ _) nq));have D:=I (z.1.below (dN (An _ _) nq));have f:=I (((dN (An g.heap.size g) nq).block _ (by omega)).trans o.1);have q2:=I (((dN (An g.heap.size g) nq).block _ zs).trans G.1);have p:=I (Ab A.1 (dN (An _ _) nq));generalize g.drewN nq=t at*;cases e1:Px (l.take k) (Ak l k).name
   . go_wp2_with fail;have Z:t.drew.cell? (aD (w.heap.size+2) 1)=some (.map (some w.heap.size)):=zm f.1 rfl;have z2:t.drew.cell? (aD wr.heap.size 0)=some (B_ (Ak l k).name):=zm q2.1 rfl;have a4:t.cell? (aD (w.heap.size+2) 1)=some (.map (some w.heap.size)):=zm f.1 rfl;have a5:t.cell? (aD wr.heap.size 0)=some (B_ (Ak l k).name):=zm q2.1 rfl;have⟨w3,P1,I3,H⟩:=zpL (w:=t.drew) (C.1.below (An _ _).drew) h e1;have e:=I I3;have R:=I ((D.1.below (An _ _).drew).grown H (by simp));have S:=I ((H.block _ (Ag f.1) (by simp)).trans f.1);have T:=I (p.1.drew.grown H p.1.size (by simp));go_still_tail 7,(by kernel_rfl);change wpList _ _ _ _ _ t.drew;go_wp2;go_roundw;exact⟨k+1,by omega,by go_num,e,R,S,T⟩;simp[intOf];omega
   have e:=I (yQ C.1 h e1);go_wp2;go_roundw;exact⟨k+1,by omega,by go_num,e,D,f,p⟩;simp[intOf];omega
 obtain rfl:k=l.length:=by omega
 have e:=I P.1;rw[List.take_length]at e;go_wp2;go_ret;exact⟨w.heap.size+2,w.heap.size,w.heap.size+1,rfl,⟨by omega,E,by omega,by omega,by omega,by omega,F.1,e.1,Q.1,U.1.keep (c.1.mono E) (Is.keep (c.1.mono E))⟩,by omega,c.1⟩
def bS(B kp ib kb:Nat)(l:List zB)(a:Ae)(cap:Nat)(w:Wd)(r:Int×Int)(e:Ending)(w':Wd):Prop:=e=.returned (.tuple #[r.1,r.2])/\Ix B w' kp ib kb l a cap/\w.grownBy w' (some kb)
def Vc(B kp ib kb:Nat)(l:List zB)(a:Ae)(cap:Nat)(n:Nat):Prop:=∀(sc:Int) (x:zH) (xa:Ae) (xc:Nat) (w:Wd),Ix B w kp ib kb l a cap->Ia x->Db x=true->Bq x<=200->Et B w xa x.args->
 Calls prog 265 #[.pointer (some (aD kp 0)),sc,n,.agg #[x.op,x.num,.string x.name,.slice xa x.args.length xc]] w (bS B kp ib kb l a cap w (Bt (Cv l n) sc x))
def Cd(l:List zB)(n:Nat)(sc:Int)(x:zH):Int×Int:=if Bb x≠0 then(0,Bb x) else Bt (Cv l n) sc x
def qD(B kp ib kb:Nat)(l:List zB)(a:Ae)(cap:Nat)(n:Nat):Prop:=∀(sc:Int) (x:zH) (xa:Ae) (xc:Nat) (w:Wd),Ix B w kp ib kb l a cap->Ia x->Et B w xa x.args->
 Calls prog 227 #[.pointer (some (aD kp 0)),sc,n,.agg #[x.op,x.num,.string x.name,.slice xa x.args.length xc]] w (bS B kp ib kb l a cap w (Cd l n sc x))
def kQ(B kp ib kb:Nat)(l:List zB)(a:Ae)(cap:Nat)(i:Nat):Prop:=∀(w:Wd),Ix B w kp ib kb l a cap->Calls prog 148 #[.pointer (some (aD kp 0)),i] w (bS B kp ib kb l a cap w (Bx l i))
theorem Ql{x:zH}(h:Bb x=0):Db x=true/\Bq x<=200/\Il x<=16:=by
 grind[Bb]
def zP(a:Option Nat)(h:Bw w w'):w.grownBy w' a:=⟨h.os,h.tape,h.output,h.size,λi hi _=>h.block i hi⟩
def wD(B A C u:Nat)(l:List zB)(a:Ae)(cap:Nat)(n:Nat)(N:Af (Vc B A C u l a cap n)):qD B A C u l a cap n:=by
 intro r x c d w s D E;have P:=I s;have F:=I E;have G:B<=w.heap.size:=Bf s.bp (Nat.le_of_lt s.lt.1);go_enter func227,ntmps227;go_wp2_with fail;have g:=I (J w (oE x c d));have v:=I (zh w (oE x c d));have h:=I (P.1.below g.1);have i:=I (F.1.keep (g.1.mono G));generalize w.alloc (oE x c d)=W at*;refine ca (dU x c d W B (by have:=g.1.size;omega) D i.1) λj t=>?_;have b:=I (Ab g.1 t);have k:=I (h.1.below t);have f:=(t.block _ (Ag v.1)).trans v.1;have H:j.cell? (aD w.heap.size 0)=some (Bn x.op):=zm f rfl;have K:j.cell? (aD w.heap.size 1)=some (Bn x.num):=zm f rfl;have L:j.cell? (aD w.heap.size 2)=some (B_ x.name):=zm f rfl;have M:j.cell? (aD w.heap.size 3)=some (CU c x.args.length d):=zm f rfl;have S:=Ag f;by_cases m:Bb x=0
 . have⟨Q,R,_⟩:=Ql m;have o:Af (Cd l n r x=Bt (Cv l n) r x):=I (iN (by simpa using m));rw[m];go_wp2_with fail;refine(N.1 r x c d j k.1 D Q R (F.1.keep (b.1.mono G))).mono ?_;rintro e T ⟨rfl,p,q⟩;have y:=I p;have z:=I (Lib.grownBy_trans (zP (some u) b.1) q);go_wp2;go_ret2;exact⟨zJ (by rw[o.1]) (by rw[o.1]),y.1,z.1⟩
 have o:Af (Cd l n r x=(0,Bb x)):=I (iP m);have U:=CN m
 go_wp2;go_ret2;exact⟨zJ (by rw[o.1]) (by rw[o.1]),k.1,zP _ b.1⟩
def PJ(l:List zB)(i:Nat):Bx l i=Cd l i 0 (Ak l i).ex:=bI l i
def LP(B j u q:Nat)(l:List zB)(a:Ae)(cap:Nat)(i:Nat)(A:i<l.length)(C:Af (qD B j u q l a cap i)):kQ B j u q l a cap i:=by
 intro w c;have v:=I c;have V:=c.cs.1;have W:B<=w.heap.size:=Bf c.bp (Nat.le_of_lt c.lt.1);have D:w.cell? (aD j 0)=some (CU a l.length cap):=zm c.box rfl;have E:w.cell? (aD j 2)=some (.map (some q)):=zm c.box rfl;have X:=c.lt.1;rcases NL c.known i with⟨x,y⟩|x
 . have F:=I y;go_enter func148,ntmps148;go_wp2;go_ret2;exact⟨zJ rfl F.1.symm,v.1,World.grownBy.refl _ _⟩
 obtain⟨b,G,rfl,Y,k⟩:=c.cs.cells (by omega);have⟨H,Z,K,m,⟨L,M,N,P⟩,g,d⟩:=k i A;have Q:b<w.heap.size:=by omega
 have R:=I g;have S:=I d;go_enter func148,ntmps148;go_wp2_with fail;refine(C.1 0 (Ak l i).ex K m w v.1 R.1 S.1).mono ?_;rintro e T ⟨rfl,f,n⟩;have h:=I f;have o:=I n;have y2:T.cell? (aD j 2)=some (.map (some q)):=zm f.box rfl;have ys:=f.lt.1;rw[<-PJ l i];by_cases p:(Bx l i).2=0
 . have⟨w3,P1,z,r⟩:=OG h.1.known i p;have s:=I (h.1.grown r z);have t:=I (Lib.grownBy_trans o.1 r);rw[p];go_wp2;go_ret2;exact⟨zJ rfl p.symm,s.1,t.1⟩
 have e2:=CN p
 have U:=I (zrP l i p);go_wp2;go_ret2;exact⟨zJ U.1.symm rfl,h.1,o.1⟩
def Ru(ks:LI)(n:Nat):Array Value:=(ks.map (Value.int .i64)++List.replicate (n-ks.length) (Value.int .i64 0)).toArray
theorem TR(n:Nat):madeCells #[Bn 0] n=Ru [] n:=by
 grind[toList_madeCells_one,Ru]
theorem TQ(a:LI)(n:Nat)(v:Int)(h:a.length<n):(Ru a n).setIfInBounds a.length (Bn v)=Ru (a++ [v]) n:=by
 grind[Ru]
theorem TS(a:LI)(n:Nat)(h:a.length<n):(Ru a n)[a.length]?=some (Bn 0):=by
 grind[Ru]
theorem zrz(a:LI)(n:Nat)(h:a.length=n)(i:Nat)(b:i<a.length):(Ru a n)[i]?=some (Bn (Am a i)):=by
 simp_all[Ru,List.getElem?_toArray,Am]
def zg{c:Array Value}{u:Value}(h:w.heap[b]?=some (.cells c t (0,0))):(w.setCell (aD b i) u).heap[b]?=some (.cells (c.setIfInBounds i u) t (0,0)):=by
 have a:=Ag h;have d:w.heap[b]=.cells c t (0,0):=by simpa[Array.getElem?_eq_getElem a] using h
 show(w.heap.modify b _)[b]?=_;rw[Array.getElem?_eq_getElem (by simpa using a),Array.getElem_modify_self,d];rfl
def zQ{j:Nat}{a:Array Value}(h:w.heap[b]?=some (.cells a t (0,0))):w.frozen? (aD b j)=false:=by simp[World.frozen?,h]
def E_{w:World}{b:Nat}{a:Array Value}{t:TypeId}(j:Nat)(h:w.heap[b]?=some (.cells a t (0,0))):=zQ (j:=j) h
def CH{w:Wd}{b:Nat}{s:Array Value}{t:TypeId}(h:w.heap[b]?=some (.cells s t (0,0))):∀j:Nat,w.frozen? (aD b j)=false:=λj=>by simp[World.frozen?,h]
def RP:(prog.info? 3).map (λi=>(i.zero,i.size,i.bytes))=some (some (Bn 0),1,8):=by kernel_rfl
theorem Zb{b:Int}{a:List zH}(h:Db (.mk o b s a)=true):Nr o b s a.length=true/\Ib a=true:=by
 grind[Db]
theorem kI{l:List zH}(h:Ib l=true):∀k,k<l.length->Db (Au l k)=true:=by
 induction l with
 |nil=>simp_all
 |cons x l ih=>
  rw[Ib,Em]at h;intro k a;cases k with
  |zero=>exact h.1
  |succ k=>exact ih h.2 k (by simpa using a)
theorem iQ{l:List zH}:∀k,k<l.length->Bq (Au l k)<=Dc l:=by
 induction l<;>grind[Dc,Au]
theorem iM(l:List zH):l.length<=Dc l:=by
 induction l with
 |nil=>simp
 |cons x l ih=>
  have:1<=Bq x:=by cases x;rw[Bq];omega
  grind[Dc]
def NW(B u z A:Nat)(l:List zB)(a:Ae)(cap:Nat)(n:Nat)(k:Af (∀i,i<n->i<l.length->kQ B u z A l a cap i))(b c:Int)(s:BA)(d:List zH)(C:Ae)(D:Nat)(w:Wd)(v:Ix B w u z A l a cap)(Q:s.size<=2^47)(hn:n<=2^47):
 Calls prog 265 #[Ua u 0,b,n,.agg #[Bn 6,c,B_ s,CU C d.length D]] w (bS B u z A l a cap w (Bt (Cv l n) b (.mk 6 c s d))):=by
 have R:=I v;have hB:B<=w.heap.size:=Bf v.bp (Nat.le_of_lt v.lt.1);have S:=v.lt.1;have G:=I (show Bt (Cv l n) b (.mk 6 c s d)=if Cl b s≠0 then(Cl b s,0) else(Cv l n s).getD (0,6) by rw[Bt,iP rfl]);go_in;go_wp2_with fail;have E:=I (J w (Dq 6 c s C d.length D));have H:=I (zh w (Dq 6 c s C d.length D));have f:=I (R.1.below E.1);generalize w.alloc (Dq 6 c s C d.length D)=W at*;refine cb (sO b s W Q) ?_;by_cases r:Cl b s=0
 . have g:Af (Bt (Cv l n) b (.mk 6 c s d)=(Cv l n s).getD (0,6)):=I (G.1.trans (iN (by simpa using r)));have F:So (Cl b s)=6:=by rw[r];rfl
   rw[F,r];go_wp2_with fail;have T:=D_ f.1.box;have U:=D_ H.1;have V:=Ag H.1;have X:=λm=>iL (w:=W.drewN m) (f.1.idx.below (dN (An _ _) m)) s;go_quiet (fail);have o:=I (f.1.below (dN (An _ _) nq));have p:=I (Ab E.1 (dN (An _ _) nq));generalize W.drewN nq=Y at*;cases P:Px l s
   . have j:=I (show Bt (Cv l n) b (.mk 6 c s d)=(0,6) from g.1.trans (by
      have:fi l s=none:=by simpa[Px] using P
      simp only[Cv,this];rfl))
     go_wp2;go_ret2;exact⟨zJ (by rw[j.1]) (by rw[j.1]),o.1,zP _ p.1⟩
   obtain⟨i,t⟩:∃i,fi l s=some i:=by
    cases h:fi l s with
    |none=>simp[Px,h]at P
    |some i=>exact⟨i,rfl⟩
   have K:=qY t;have q:aH l s=i:=by simp[aH,t]
   have Z:=o.1.cs.1;rw[q];by_cases L:i<n
   . have j:Af (Bt (Cv l n) b (.mk 6 c s d)=Bx l i):=I (g.1.trans (by simp only[Cv,t,iP L];rfl));go_wp2_with fail;refine(k.1 i L K Y o.1).mono ?_;rintro e w2 ⟨rfl,x,y⟩;have M:=I x;have N:=I (Lib.grownBy_trans (zP (some A) p.1) y);go_wp2;go_ret2;exact⟨zJ (by rw[j.1]) (by rw[j.1]),M.1,N.1⟩
   have j:Af (Bt (Cv l n) b (.mk 6 c s d)=(0,6)):=I (g.1.trans (by simp only[Cv,t,iN L];rfl));go_wp2;go_ret2;exact⟨zJ (by rw[j.1]) (by rw[j.1]),o.1,zP _ p.1⟩
 have j:Af (Bt (Cv l n) b (.mk 6 c s d)=(Cl b s,0)):=I (G.1.trans (iP (by simpa using r)));have F:So (Cl b s)=0:=iN (by simpa using r);rw[F];go_wp2;go_ret2;exact⟨zJ (by rw[j.1]) (by rw[j.1]),f.1,zP _ E.1⟩
def NX(B R X M:Nat)(l:List zB)(a:Ae)(cap:Nat)(n:Nat)(f o r:Int)(s:BA)(c:List zH)(o6:o≠6)(G:Ae)(S:Nat)(w:Wd)(E:Ix B w R X M l a cap)(Y:Db (.mk o r s c)=true)(t:Bq (.mk o r s c)<=200)(ha:Et B w G c) 
 (IH:Af (∀x:zH,SizeOf.sizeOf x<SizeOf.sizeOf (zH.mk o r s c)->∀(G:Ae) (S:Nat) (w:Wd),Ix B w R X M l a cap->Ia x->Db x=true->Bq x<=200->Et B w G x.args->
  Calls prog 265 #[Ua R 0,f,n,.agg #[x.op,x.num,B_ x.name,CU G x.args.length S]] w (bS B R X M l a cap w (Bt (Cv l n) f x)))):
 Calls prog 265 #[Ua R 0,f,n,.agg #[o,r,B_ s,CU G c.length S]] w (bS B R X M l a cap w (Bt (Cv l n) f (.mk o r s c))):=by
 have HC:=I E;have HA:=I ha;have hB:B<=w.heap.size:=Bf E.bp (Nat.le_of_lt E.lt.1);have⟨b8,b9,c4⟩:=E.lt;have b1:=E.bk;have⟨hh,Z⟩:=Zb Y;have c5:1+Dc c<=200:=by rw[Bq]at t;exact t
 have b7:c.length<=200:=by have:=iM c;omega
 have e6:=RZ o6
 have Hv:=I (show Bt (Cv l n) f (.mk o r s c)=if(Cn (Cv l n) f c).1≠0 then(0,(Cn (Cv l n) f c).1) else if Ch o (Cn (Cv l n) f c).2≠0 then(Ch o (Cn (Cv l n) f c).2,0) else(0,9) by rw[Bt,iN o6]);simp only[Nr,Em]at hh;obtain⟨⟨⟨g1,h3⟩,_⟩,_⟩:=hh;have⟨h1,h2⟩:=Om.1 g1;have H3:=I h3;have O6:=I o6;have HW:=I Z;have b2:=λw'=>run_make_row' (P:=prog) 22 3 (Bn 0) 8 underlying22 RP rfl .i64 .i64 c.length (by omega) (by omega) w';go_in;go_wp2_with fail;have⟨W,hW⟩:=aT ((w.alloc (Dq o r s G c.length S)).alloc (Obj.cells (madeCells #[Bn 0] c.length) 3));have HB:=I (show Bw w W by rw[hW];exact Ab (J w _) (J _ _));have q0:=I (show W.heap[w.heap.size]?=some (Dq o r s G c.length S) by rw[hW];exact zd (zh _ _));have q1:=I (show W.heap[w.heap.size+1]?=some (.cells (Ru [] c.length) 3 (0,0)) by rw[hW,<-TR,<-zr w (Dq o r s G c.length S)];exact zh _ _);have a0:=I (HC.1.below HB.1);simp only[<-hW];go_loopw [61] (λi wr=>∃(k:Nat) (p:LI),k<=c.length/\i=Bn k/\Af (p.length=k)/\Af (Cn (Cv l n) f c=((Cn (Cv l n) f (c.drop k)).1,p++(Cn (Cv l n) f (c.drop k)).2))/\Af (wr.heap[w.heap.size]?=some (Dq o r s G c.length S))/\Af (wr.heap[w.heap.size+1]?=some (.cells (Ru p c.length) 3 (0,0)))/\Af (Ix B wr R X M l a cap)/\Af (w.grownBy wr (some M))) (λi _=>c.length-(intOf i).toNat);exact⟨0, [],Bg _,rfl,I rfl,I (by simp),q0,q1,a0,I (zP _ HB.1)⟩;obtain⟨k,p,hk,rfl,q,h,T,v,E,H⟩:=hrel;by_cases m:k<c.length
 . obtain⟨b,c6,rfl,hb,a1⟩:=HA.1.cells (by omega);have a3:Below B w wr:=(An B w).grown H.1 hB (λj hj=>by cases hj;exact b1);have⟨U,d,c7,⟨c0,c1,c2,c3⟩,N,y⟩:=(a1.keep a3).at k m;have c8:=Ag v.1;have c9:b<wr.heap.size:=by omega
   have HF:=I N;have a4:=I (y.keep ((J wr (oE (Au c k) U d)).mono (by omega)));have a5:=I (E.1.below (J wr (oE (Au c k) U d)));have a6:=I (Lib.grownBy_trans H.1 (zP (some M) (J wr (oE (Au c k) U d))));have Q0:=I (zd (o':=(oE (Au c k) U d)) T.1);have Q1:=I (zd (o':=(oE (Au c k) U d)) v.1);go_wp2_with fail;generalize wr.alloc (oE (Au c k) U d)=W1 at*;refine(IH.1 (Au c k) (Rc (x:=.mk o r s c) m) U d _ a5.1 HF.1 (kI HW.1 k m) (by have:=iQ (l:=c) k m;omega) a4.1).mono ?_;rintro e w2 ⟨rfl,a7,K⟩;have z:=I a7;have A:=I (Lib.grownBy_trans a6.1 K);have a8:=I ((K.block _ (Ag Q0.1) (by simp;omega)).trans Q0.1);have L:=I ((K.block _ (Ag Q1.1) (by simp;omega)).trans Q1.1);by_cases F:(Bt (Cv l n) f (Au c k)).2=0
   . have C:=I (BO m h.1 F);have y0:w2.cell? (aD (w.heap.size+1) k)=some (Bn 0):=by have:=TS p c.length (by rw[q.1];exact m);rw[q.1]at this;exact zm L.1 this
     have y1:=CH L.1;have ys:=Ag L.1;have G3:=Lib.grownBy_setCell w2 (w.heap.size+1) k (Bn (Bt (Cv l n) f (Au c k)).1);have b3:=I (z.1.other G3 (by omega) (by omega) (by omega) (by omega));have b4:=I (A.1.andThen G3 (λj hj=>by cases hj;exact .inl (by omega)));have b5:=I ((G3.block _ (Ag a8.1) (by simp)).trans a8.1);have a9:=I (zg (i:=k) (u:=Bn (Bt (Cv l n) f (Au c k)).1) L.1);have D:=TQ p c.length (Bt (Cv l n) f (Au c k)).1 (by rw[q.1];exact m);rw[q.1]at D;rw[D]at a9;have b6:=I (show(p++ [(Bt (Cv l n) f (Au c k)).1]).length=k+1 by simp[q.1]);rw[F];go_wp2;go_roundw;exact⟨k+1,_,by omega,by go_num,b6,C,b5,a9,b3,b4⟩;simp[intOf];omega
   have C:=I (yZ m h.1 F);have Q:Af (Bt (Cv l n) f (.mk o r s c)=(0,(Bt (Cv l n) f (Au c k)).2)):=I (Hv.1.trans (by rw[C.1,iP F]));have e2:((Bt (Cv l n) f (Au c k)).2 !=0)=true:=by simpa using F
   go_wp2;go_ret2;exact⟨zJ (by rw[Q.1]) (by rw[Q.1]),z.1,A.1⟩
 obtain rfl:k=c.length:=by omega
 have g:=q.1;have C:Af (Cn (Cv l n) f c=(0,p)):=I (h.1.trans (by rw[Gk,Cn];simp));have b0:Af (Bt (Cv l n) f (.mk o r s c)=if Ch o p≠0 then(Ch o p,0) else(0,9)):=I (Hv.1.trans (by rw[C.1];simp));have y0:wr.cell? (aD w.heap.size 0)=some (Bn o):=zm T.1 rfl;have ys:=Ag v.1;have HI:Af (zW wr (some (aD (w.heap.size+1) 0)) p):=I (.inr ⟨w.heap.size+1,0,rfl,ys,λi hi=>by rw[Nat.zero_add];exact zm v.1 (zrz p c.length g i hi)⟩);have H4:=H3.1;rw[<-g]at H4;have H5:=I H4;go_wp2_with fail;have g:=q.1;rw[<-g];refine ca (znS o p _ _ wr (by omega) h1 h2 O6.1 H5.1 HI.1) λw2 V=>?_;have z:=I (E.1.below V);have A:=I (Lib.grownBy_trans H.1 (zP (some M) V));by_cases F:Ch o p=0
 . have Q:=I (b0.1.trans (iN (by simpa using F)));rw[F];go_wp2;go_ret2;exact⟨zJ (by rw[Q.1]) (by rw[Q.1]),z.1,A.1⟩
 have Q:=I (b0.1.trans (iP (by simpa using F)));have e2:=CN F
 go_wp2;go_ret2;exact⟨zJ (by rw[Q.1]) (by rw[Q.1]),z.1,A.1⟩
def AL(B d e f:Nat)(l:List zB)(a:Ae)(cap:Nat)(n:Nat)(u:n<=2^47)(b:∀i,i<n->i<l.length->kQ B d e f l a cap i):Vc B d e f l a cap n:=by
 intro k x;have⟨m,v⟩:=aT (SizeOf.sizeOf x);induction m using Nat.strongRecOn generalizing x with
 |_ m ih=>
  subst v;intro g h w p y j c z;obtain⟨o,q,s,r⟩:=x;by_cases t:o=6
  . subst t;exact NW B d e f l a cap n b k q s r g h w p y.1 u
  exact NX B d e f l a cap n k o q s r t g h w p j c z (λx hx g h w h1 h2 h3 h4 h5=>ih _ hx x rfl g h w h1 h2 h3 h4 h5)
def tQ(B b c d:Nat)(l:List zB)(a:Ae)(cap:Nat)(f:l.length<=2^47)(i:Nat)(e:i<l.length):kQ B b c d l a cap i:=by
 induction i using Nat.strongRecOn with
 |_ i ih=>exact LP B b c d l a cap i e (wD B b c d l a cap i (AL B b c d l a cap i (by omega) (λj hj hjl=>ih j hj hjl)))
def MD(B b c d:Nat)(l:List zB)(a:Ae)(cap:Nat)(e:l.length<=2^47)(n:Nat)(f:n<=2^47):qD B b c d l a cap n:=
 wD B b c d l a cap n (AL B b c d l a cap n f (λi _ hi=>tQ B b c d l a cap e i hi))
def Cu(r:Int×Int)(k:Int):Int:=if r.2=0 then(if r.1=k then 0 else 9) else r.2
def UV(B kp ib kb:Nat)(l:List zB)(a:Ae)(cap:Nat)(w:Wd)(v:Int)(e:Ending)(w':Wd):Prop:=e=.returned v/\Ix B w' kp ib kb l a cap/\w.grownBy w' (some kb)
def nQ(B p y q:Nat)(l:List zB)(a:Ae)(cap:Nat)(D:l.length<=2^47)(n:Nat)(E:n<=2^47)(s c:Int)(x:zH)(h:Ae)(t:Nat)(w:Wd)(u:Ix B w p y q l a cap)(F:Ia x)(C:Et B w h x.args):
 Calls prog 149 #[Ua p 0,s,n,.agg #[x.op,x.num,B_ x.name,CU h x.args.length t],c] w (UV B p y q l a cap w (Cu (Cd l n s x) c)):=by
 have G:=I u;have H:=I C;have K:B<=w.heap.size:=Bf u.bp (Nat.le_of_lt u.lt.1);clear u C;go_in;go_wp2_with fail;have v:=I (J w (oE x h t));have i:=I (G.1.below v.1);have j:=I (H.1.keep (v.1.mono K));generalize w.alloc (oE x h t)=W at*;refine(MD B p y q l a cap D n E s x h t W i.1 F j.1).mono ?_;rintro e M ⟨rfl,k,m⟩;have d:=I k;have f:=I (Lib.grownBy_trans (zP (some q) v.1) m);clear k m v i j W;generalize Cd l n s x=r at*;by_cases b:r.2=0
 . have z:=bTa b
   by_cases g:r.1=c
   . have A:=bMa g
     have o:=I (show Cu r c=0 by rw[Cu,iP b,iP g]);have L:=I b;clear b g;go_wp2;go_ret;exact⟨ze (by rw[o.1,L.1]),d.1,f.1⟩
   have A:=CN g
   have o:=I (show Cu r c=9 by rw[Cu,iP b,iN g]);clear b g;go_wp2;go_ret;exact⟨ze (by rw[o.1]),d.1,f.1⟩
 have z:=RZ b
 have o:=I (show Cu r c=r.2 by rw[Cu,iN b]);clear b;go_wp2;go_ret;exact⟨ze (by rw[o.1]),d.1,f.1⟩
def Av(f:Nat->Int):Nat->Nat->Int
 |_,0=>0
 |k,m+1=>if f k≠0 then f k else Av f (k+1) m
def Mc{n:Nat}(h:k<n)(a:f k≠0):Av f k (n-k)=f k:=by
 obtain⟨m,b⟩:∃m,n-k=m+1:=⟨n-k-1,by omega⟩;rw[b,Av,iP a]
theorem Ns{n:Nat}(h:k<n)(a:f k=0):Av f k (n-k)=Av f (k+1) (n-(k+1)):=by
 obtain⟨m,b⟩:∃m,n-k=m+1:=⟨n-k-1,by omega⟩;grind[Av]
def Nq(f:Nat->Int)(n:Nat):Av f n (n-n)=0:=by rw[Nat.sub_self];rfl
def Re(s:BA):Bool:=!(Cl 1 s==0&&Cl 2 s==0&&Cl 3 s==0)
theorem xE{m:Nat}(a:1<=m)(b:m<=3)(e:Cl m s≠0):Re s=true:=by
 grind[Re]
def Fg(l:List zB)(i:Nat):Int:=if Re (Ak l i).name=true then 7 else(Bx l i).2
def Fh(c:Ad)(i:Nat):Int:=Cu (Cd c.cs c.cs.length (Ah c.rs i).sc (Ah c.rs i).ex) 4
def Ep(c:Ad)(i:Nat):Int:=Cu (Cd c.cs c.cs.length (Aq c.ks i).sc (Aq c.ks i).ex) 1
def Gt(c:Ad)(i:Nat):Int:=Cu (Cd c.cs c.cs.length 1 (Au c.xs i)) 2
def Ax(c:Ad):Int:=
 if Cf c≠0 then Cf c else if Av (Fg c.cs) 0 (c.cs.length-0)≠0 then Av (Fg c.cs) 0 (c.cs.length-0)
 else if Av (Fh c) 0 (c.rs.length-0)≠0 then Av (Fh c) 0 (c.rs.length-0) else if Av (Ep c) 0 (c.ks.length-0)≠0 then Av (Ep c) 0 (c.ks.length-0)
 else Av (Gt c) 0 (c.xs.length-0)
theorem iK{W:Wd}{a:Nat}(h:Bw w W)(b:W.grownBy w' (some a))(c:w.heap.size<=a):Bw w w':=h.grown b h.size (λj hj=>by simp_all)
def IR(c:Ad)(p:Bd)(w:Wd)(B:Nat)(hB:B<=w.heap.size)(ha:Kb B w c p):
 CV 82 #[Ay c p] w (Ax c):=by
 try delta Ay Az
 have b1:=ha.cs.1;have b2:=ha.rs.1;have b3:=ha.ks.1;have b4:=ha.creditN;have HA:=I ha;delta CV;go_in;go_wp2_with fail;have HX:=I (Lh.new w c p);have HB:=I (J w (Aj c p));have a3:=I (HA.1.keep (HB.1.mono hB));generalize w.alloc (Aj c p)=W at*;refine ca (IV c p W B (by have:=HB.1.size;omega) a3.1) λw1 P=>?_;have r:=I (HX.1.below P);have q:=I (Ab HB.1 P);have D:=r.1.lt;have d7:=Ic r.1;by_cases e0:Cf c=0
 . have Hv:Af (Ax c=if Av (Fg c.cs) 0 (c.cs.length-0)≠0 then Av (Fg c.cs) 0 (c.cs.length-0) else if Av (Fh c) 0 (c.rs.length-0)≠0 then Av (Fh c) 0 (c.rs.length-0) else if Av (Ep c) 0 (c.ks.length-0)≠0 then Av (Ep c) 0 (c.ks.length-0) else Av (Gt c) 0 (c.xs.length-0)):=I (iN (by simpa using e0));rw[e0];go_wp2_with fail;refine(GV c.cs p.ca p.cc w1 B (by have:=q.1.size;omega) (HA.1.keep (q.1.mono hB)).cs).mono ?_;rintro e w2 ⟨S,T,Q,rfl,u,a4,V⟩;have R:w.heap.size<=Q:=by have:=q.1.size;omega
   have n:=I u;have g:=I (r.1.below V);have a:=I (Ab q.1 V);have b5:w.heap.size≠Q:=by have:=r.1.lt;omega
   have D:=g.1.lt;have d7:=Ic g.1;go_wp2_with fail;go_loopw [33] (λi wr=>∃(k:Nat),k<=c.cs.length/\i=Bn k/\Af (Av (Fg c.cs) 0 (c.cs.length-0)=Av (Fg c.cs) k (c.cs.length-k))/\Af (Lh wr w.heap.size c p)/\Af (Ix B wr S T Q c.cs p.ca p.cc)/\Af (Bw w wr)) (λi _=>c.cs.length-(intOf i).toNat);exact⟨0,Bg _,rfl,I rfl,g,n,a⟩;obtain⟨k,hk,rfl,h,g,n,a⟩:=hrel;by_cases o:k<c.cs.length
   . have⟨b,X,x,P,y⟩:=HA.1.cs.cells (by omega);rw[x];have a8:=I x;have⟨c0,s1,z,d,⟨c1,c2,c3,c4⟩,s,l⟩:=(y k o).keep (a.1.mono hB) b _ _ P;have Y:b<wr.heap.size:=by have:=a.1.size;omega
     have q:=I (Ab a.1 (J wr (oN (Ak c.cs k) z d)));have r:=I (g.1.below (J wr (oN (Ak c.cs k) z d)));have A:=I (n.1.below (J wr (oN (Ak c.cs k) z d)));have q0:=I (zh wr (oN (Ak c.cs k) z d));go_wp2_with fail;generalize wr.alloc (oN (Ak c.cs k) z d)=W1 at*;have y0:=D_ q0.1;have ys:=Ag q0.1;go_loop [7] (λi=>∃m:Nat,1<=m/\m<=4/\i=Bn m/\Af (∀j:Nat,1<=j->j<m->Cl j (Ak c.cs k).name=0)) (λi=>4-(intOf i).toNat);exact⟨1,by omega,by omega,rfl,I (λj h1 h2=>by omega)⟩;obtain⟨m,a5,a9,rfl,L⟩:=hrel;by_cases hm:m<=3
     . have b6:(m:Int)<=3:=by omega
       go_wp2_with fail;refine cb (sO m (Ak c.cs k).name W1 s1) ?_;by_cases v:Cl m (Ak c.cs k).name=0
       . have Z:So (Cl m (Ak c.cs k).name)=6:=by rw[v];rfl
         have a6:=I (show ∀j:Nat,1<=j->j<m+1->Cl j (Ak c.cs k).name=0 from λj h1 h2=>by
          by_cases ej:j=m
          . subst ej;exact v
          exact L.1 j h1 (by omega))
         rw[Z,v];go_wp2;go_round;exact⟨m+1,by omega,by omega,by go_num,a6⟩;simp[intOf];omega
       have Z:So (Cl m (Ak c.cs k).name)=0:=iN (by simpa using v);have M:Re (Ak c.cs k).name=true:=xE a5 hm v;have G:Fg c.cs k=7:=iP M;have f:=I (h.1.trans (Mc o (by rw[G];decide)));have N:Af (Ax c=7):=I (Hv.1.trans (by rw[f.1,G];rfl));rw[Z];go_wp2;go_ret;exact hU N q
     obtain rfl:m=4:=by omega
     have M:Re (Ak c.cs k).name=false:=by
      have h1:=L.1 1 (by omega) (by omega);have h2:=L.1 2 (by omega) (by omega);have h3:=L.1 3 (by omega) (by omega);simp only[Int.natCast_one,Int.cast_ofNat_Int]at h1 h2 h3;simp[Re,h1,h2,h3]
     have G:Af (Fg c.cs k=(Bx c.cs k).2):=I (iN (by simp[M]));go_wp2_with fail;refine(tQ B S T Q c.cs p.ca p.cc (by omega) k o W1 A.1).mono ?_;rintro e w2 ⟨rfl,u,t⟩;have H:=I u;have K:=I (r.1.grown t (by simp;omega));have C:=I (iK q.1 t R);by_cases v:(Bx c.cs k).2=0
     . have f:=I (h.1.trans (Ns o (G.1.trans v)));rw[v];go_wp2;go_roundw;exact⟨k+1,by omega,by go_num,f,K,(by rw[<-a8.1];exact H),C⟩;simp[intOf];omega
     have f:=I (h.1.trans (Mc o (by rw[G.1];exact v)));have N:Af (Ax c=(Bx c.cs k).2):=I (Hv.1.trans (by rw[f.1,G.1];exact iP v));have Z:=CN v
     go_wp2;go_ret;exact hU N C
   obtain rfl:k=c.cs.length:=by omega
   have f:=I (h.1.trans (Nq _ _));have a0:Af (Ax c=if Av (Fh c) 0 (c.rs.length-0)≠0 then Av (Fh c) 0 (c.rs.length-0) else if Av (Ep c) 0 (c.ks.length-0)≠0 then Av (Ep c) 0 (c.ks.length-0) else Av (Gt c) 0 (c.xs.length-0)):=I (Hv.1.trans (by rw[f.1];rfl));have d7:=Ic g.1;have d8:=Jg g.1;have D:=g.1.lt;go_wp2_with fail;obtain⟨U,rfl⟩:∃U:Wd,U=wr:=⟨_,rfl⟩;go_loopw [67] (λi wr=>∃(k:Nat),k<=c.rs.length/\i=Bn k/\Af (Av (Fh c) 0 (c.rs.length-0)=Av (Fh c) k (c.rs.length-k))/\Af (Lh wr w.heap.size c p)/\Af (Ix B wr S T Q c.cs p.ca p.cc)/\Af (Bw w wr)) (λi _=>c.rs.length-(intOf i).toNat);exact⟨0,Bg _,rfl,I rfl,g,n,a⟩;obtain⟨k,hk,rfl,h,g,n,a⟩:=hrel;by_cases o:k<c.rs.length
   . have⟨b,X,x,P,y⟩:=HA.1.rs.cells (by omega);rw[x];have⟨c0,b7,s1,sw,z,d,⟨c1,c2,c3,c4⟩,s,l⟩:=(y k o).keep (a.1.mono hB) b _ _ P;have Y:b<wr.heap.size:=by have:=a.1.size;omega
     have HF:=I s;have E:=I (l.keep ((J wr (oR (Ah c.rs k) z d)).mono (by have:=a.1.size;omega)));have q:=I (Ab a.1 (J wr (oR (Ah c.rs k) z d)));have r:=I (g.1.below (J wr (oR (Ah c.rs k) z d)));have A:=I (n.1.below (J wr (oR (Ah c.rs k) z d)));go_wp2_with fail;refine(nQ B S T Q c.cs p.ca p.cc (by omega) c.cs.length (by omega) (Ah c.rs k).sc 4 (Ah c.rs k).ex z d _ A.1 HF.1 E.1).mono ?_;rintro e w2 ⟨rfl,u,t⟩;have H:=I u;have K:=I (r.1.grown t (by simp;omega));have C:=I (iK q.1 t R);have F:Cu (Cd c.cs c.cs.length (Ah c.rs k).sc (Ah c.rs k).ex) 4=Fh c k:=rfl;rw[F];by_cases v:Fh c k=0
     . have f:=I (h.1.trans (Ns o v));rw[v];go_wp2;go_roundw;exact⟨k+1,by omega,by go_num,f,K,H,C⟩;simp[intOf];omega
     have f:=I (h.1.trans (Mc o v));have N:Af (Ax c=Fh c k):=I (a0.1.trans (by rw[f.1];exact iP v));have Z:=CN v
     go_wp2;go_ret;exact hU N C
   obtain rfl:k=c.rs.length:=by omega
   have f:=I (h.1.trans (Nq _ _));have a1:Af (Ax c=if Av (Ep c) 0 (c.ks.length-0)≠0 then Av (Ep c) 0 (c.ks.length-0) else Av (Gt c) 0 (c.xs.length-0)):=I (a0.1.trans (by rw[f.1];rfl));have d9:=Mg g.1;have D:=g.1.lt;go_wp2_with fail;obtain⟨U,rfl⟩:∃U:Wd,U=wr:=⟨_,rfl⟩;go_loopw [85] (λi wr=>∃(k:Nat),k<=c.ks.length/\i=Bn k/\Af (Av (Ep c) 0 (c.ks.length-0)=Av (Ep c) k (c.ks.length-k))/\Af (Lh wr w.heap.size c p)/\Af (Ix B wr S T Q c.cs p.ca p.cc)/\Af (Bw w wr)) (λi _=>c.ks.length-(intOf i).toNat);exact⟨0,Bg _,rfl,I rfl,g,n,a⟩;obtain⟨k,hk,rfl,h,g,n,a⟩:=hrel;by_cases o:k<c.ks.length
   . have⟨b,X,x,P,y⟩:=HA.1.ks.cells (by omega);rw[x];have⟨c0,sw,z,d,⟨c1,c2,c3,c4⟩,s,l⟩:=(y k o).keep (a.1.mono hB) b _ _ P;have Y:b<wr.heap.size:=by have:=a.1.size;omega
     have HF:=I s;have E:=I (l.keep ((J wr (oK (Aq c.ks k) z d)).mono (by have:=a.1.size;omega)));have q:=I (Ab a.1 (J wr (oK (Aq c.ks k) z d)));have r:=I (g.1.below (J wr (oK (Aq c.ks k) z d)));have A:=I (n.1.below (J wr (oK (Aq c.ks k) z d)));go_wp2_with fail;refine(nQ B S T Q c.cs p.ca p.cc (by omega) c.cs.length (by omega) (Aq c.ks k).sc 1 (Aq c.ks k).ex z d _ A.1 HF.1 E.1).mono ?_;rintro e w2 ⟨rfl,u,t⟩;have H:=I u;have K:=I (r.1.grown t (by simp;omega));have C:=I (iK q.1 t R);have F:Cu (Cd c.cs c.cs.length (Aq c.ks k).sc (Aq c.ks k).ex) 1=Ep c k:=rfl;rw[F];by_cases v:Ep c k=0
     . have f:=I (h.1.trans (Ns o v));rw[v];go_wp2;go_roundw;exact⟨k+1,by omega,by go_num,f,K,H,C⟩;simp[intOf];omega
     have f:=I (h.1.trans (Mc o v));have N:Af (Ax c=Ep c k):=I (a1.1.trans (by rw[f.1];exact iP v));have Z:=CN v
     go_wp2;go_ret;exact hU N C
   obtain rfl:k=c.ks.length:=by omega
   have f:=I (h.1.trans (Nq _ _));have a7:Af (Ax c=Av (Gt c) 0 (c.xs.length-0)):=I (a1.1.trans (by rw[f.1];rfl));have b0:=Ol g.1;have D:=g.1.lt;go_wp2_with fail;obtain⟨U,rfl⟩:∃U:Wd,U=wr:=⟨_,rfl⟩;go_loopw [103] (λi wr=>∃(k:Nat),k<=c.xs.length/\i=Bn k/\Af (Av (Gt c) 0 (c.xs.length-0)=Av (Gt c) k (c.xs.length-k))/\Af (Lh wr w.heap.size c p)/\Af (Ix B wr S T Q c.cs p.ca p.cc)/\Af (Bw w wr)) (λi _=>c.xs.length-(intOf i).toNat);exact⟨0,Bg _,rfl,I rfl,g,n,a⟩;obtain⟨k,hk,rfl,h,g,n,a⟩:=hrel;by_cases o:k<c.xs.length
   . have⟨b,X,x,P,y⟩:=HA.1.xs.cells (by omega);rw[x];have⟨z,d,b8,⟨c0,c1,c2,c3⟩,s,l⟩:=(y.keep (a.1.mono hB)).at k o;have Y:b<wr.heap.size:=by have:=a.1.size;omega
     have HF:=I s;have E:=I (l.keep ((J wr (oE (Au c.xs k) z d)).mono (by have:=a.1.size;omega)));have q:=I (Ab a.1 (J wr (oE (Au c.xs k) z d)));have r:=I (g.1.below (J wr (oE (Au c.xs k) z d)));have A:=I (n.1.below (J wr (oE (Au c.xs k) z d)));go_wp2_with fail;refine(nQ B S T Q c.cs p.ca p.cc (by omega) c.cs.length (by omega) 1 2 (Au c.xs k) z d _ A.1 HF.1 E.1).mono ?_;rintro e w2 ⟨rfl,u,t⟩;have H:=I u;have K:=I (r.1.grown t (by simp;omega));have C:=I (iK q.1 t R);have F:Cu (Cd c.cs c.cs.length 1 (Au c.xs k)) 2=Gt c k:=rfl;rw[F];by_cases v:Gt c k=0
     . have f:=I (h.1.trans (Ns o v));rw[v];go_wp2;go_roundw;exact⟨k+1,by omega,by go_num,f,K,H,C⟩;simp[intOf];omega
     have f:=I (h.1.trans (Mc o v));have N:Af (Ax c=Gt c k):=I (a7.1.trans (by rw[f.1]));have Z:=CN v
     go_wp2;go_ret;exact hU N C
   obtain rfl:k=c.xs.length:=by omega
   have f:=I (h.1.trans (Nq _ _));have N:Af (Ax c=0):=I (a7.1.trans f.1);go_wp2;go_ret;exact hU N a
 have f:Af (Ax c=Cf c):=I (iP e0);have e4:=CN e0
 go_wp2;go_ret;exact hU f q
def Fz(n:Int):Int:=if n < -1099511627776 then -1099511627776 else if 1099511627776<n then 1099511627776 else n
def wA(n:Int):Prop:=-1099511627776<=n/\n<=1099511627776
theorem wX(n:Int):wA (Fz n):=by grind[Fz,wA]
theorem Za(h:wA n):Fz n=n:=by grind[Fz,wA]
def Uc(n:Int)(w:Wd):CE 167 #[n] w (Fz n):=by
 delta CE;go_in;go_wp2_with fail
 all_goals (go_ret;exact⟨ze (by unfold Fz;(repeat' split) <;> omega),rfl⟩)
def qB(a b:Int)(w:Wd)(g:wA a)(h:wA b):CE 163 #[a,b] w (Fz (a+b)):=by
 obtain⟨j,k⟩:=g;obtain⟨l,m⟩:=h;by_cases n:0<=a <;> by_cases o:0<=b
 . have i:0<=a+b:=by omega
   delta CE;go_in;go_wp2_with (go_at_call 167;refine cb (Uc _ _) ?_);go_ret;exact⟨rfl,rfl⟩
 . have d:b<0:=by omega
   delta CE;go_in;go_wp2_with (go_at_call 167;refine cb (Uc _ _) ?_);go_ret;exact⟨rfl,rfl⟩
 . have f:a<0:=by omega
   delta CE;go_in;go_wp2_with (go_at_call 167;refine cb (Uc _ _) ?_);go_ret;exact⟨rfl,rfl⟩
 have f:a<0:=by omega
 have d:b<0:=by omega
 have i:a+b<0:=by omega
 delta CE;go_in;go_wp2_with (go_at_call 167;refine cb (Uc _ _) ?_);go_ret;exact⟨rfl,rfl⟩
def Vn(n:Int)(w:Wd)(h:wA n):CE 269 #[n] w (.int .u64 (n.natAbs:Int)):=by
 obtain⟨a,b⟩:=h;by_cases c:n<0
 . delta CE;go_in;go_wp2;go_ret;refine⟨ze ?_,rfl⟩;simp only[IntKind.wrap_u64];omega
 delta CE;go_in;go_wp2;go_ret;refine⟨ze ?_,rfl⟩;try simp only[IntKind.wrap_u64]
 omega
theorem pD(a:Nat)(b:a<18446744073709551616):bits .and .u64 (a:Int) 4294967295=((a%4294967296:Nat):Int):=by
 have h:=bits_and_u64_nat a 4294967295 b (by omega);have e:a &&& 4294967295=a%4294967296:=Nat.and_two_pow_sub_one_eq_mod a 32;simp_all
def TU(a:Nat):(a:Int)/4294967296=((a/4294967296:Nat):Int):=by omega
def TT(a b:Nat):(a:Int)*(b:Int)=((a*b:Nat):Int):=(Int.natCast_mul a b).symm
def TV(a b:Nat):(a:Int)+(b:Int)=((a+b:Nat):Int):=(Int.natCast_add a b).symm
theorem Vo(a:Nat)(b:a<18446744073709551616):IntKind.u64.wrap (a:Int)=(a:Int):=by grind[IntKind.wrap_u64]
theorem PW(a:Nat):IntKind.u64.wrap (a:Int)=((a%18446744073709551616:Nat):Int):=by grind[IntKind.wrap_u64]
def gZ(x y:Nat)(i:x<18446744073709551616)(j:y<18446744073709551616)(w:Wd):
 CE 268 #[.int .u64 x,.int .u64 y] w (.tuple #[.int .u64 ((x*y/18446744073709551616:Nat):Int),.int .u64 ((x*y%18446744073709551616:Nat):Int)]):=by
 have⟨l,k,m,c⟩:=Lib.mul64_hi x y i j;have o:=Lib.half_mul_le (a:=x/4294967296) (b:=y/4294967296) (by omega) (by omega);have p:=Lib.half_mul_le (a:=x/4294967296) (b:=y%4294967296) (by omega) (by omega);have q:=Lib.half_mul_le (a:=x%4294967296) (b:=y/4294967296) (by omega) (by omega);have d:x/4294967296*(y/4294967296)<18446744073709551616:=by omega
 have f:x/4294967296*(y%4294967296)<18446744073709551616:=by omega
 have g:x%4294967296*(y/4294967296)<18446744073709551616:=by omega
 have h:x/4294967296*(y/4294967296)+(x/4294967296*(y%4294967296)+x%4294967296*(y%4294967296)/4294967296)/4294967296<18446744073709551616:=by omega
 have n:x/4294967296*(y/4294967296)+(x/4294967296*(y%4294967296)+x%4294967296*(y%4294967296)/4294967296)/4294967296+((x/4294967296*(y%4294967296)+x%4294967296*(y%4294967296)/4294967296)%4294967296+x%4294967296*(y/4294967296))/4294967296<18446744073709551616:=by omega
 delta CE;go_in;go_wp2;simp only[pD x i,pD y j,TU,TT,TV,Vo _ l,Vo _ f,Vo _ k,pD _ k,Vo _ g,Vo _ m,Vo _ d,Vo _ h,Vo _ n,PW (x*y)];rw[c];go_ret2;exact⟨rfl,rfl⟩
def Er(a b:Int):Int:=Fz (a*b)
def BD(a b:Int)(w:Wd)(h:wA a)(i:wA b):CE 231 #[a,b] w (Er a b):=by
 have j:a.natAbs<18446744073709551616:=by unfold wA at h;omega
 have k:b.natAbs<18446744073709551616:=by unfold wA at i;omega
 have r:0<=(a.natAbs:Int)*(b.natAbs:Int):=Int.mul_nonneg (by omega) (by omega);by_cases l:a<0 <;> by_cases m:b<0
 . have d:=I (show a*b=(a.natAbs:Int)*(b.natAbs:Int) by
    have f:a=-(a.natAbs:Int):=by omega
    have g:b=-(b.natAbs:Int):=by omega
    generalize a.natAbs=p at*;generalize b.natAbs=q at*;subst f g;simp[Int.neg_mul,Int.mul_neg])
   have n:decide (a<0)=true:=by simpa using l
   have o:decide (b<0)=true:=by simpa using m
   delta CE;go_in;go_wp2_with fail;refine cb (Vn a w h) ?_;go_wp2_with fail;refine cb (Vn b w i) ?_;go_wp2_with fail;refine cb (gZ a.natAbs b.natAbs j k w) ?_;go_wp2_with fail
   all_goals (go_ret;exact⟨ze (by rw[Er,d.1];unfold Fz;(repeat' split) <;> omega),rfl⟩)
 . have d:=I (show a*b=-((a.natAbs:Int)*(b.natAbs:Int)) by
    have f:a=-(a.natAbs:Int):=by omega
    have g:b=(b.natAbs:Int):=by omega
    generalize a.natAbs=p at*;generalize b.natAbs=q at*;subst f g;simp[Int.neg_mul,Int.mul_neg])
   have n:decide (a<0)=true:=by simpa using l
   have o:decide (b<0)=false:=by simpa using m
   delta CE;go_in;go_wp2_with fail;refine cb (Vn a w h) ?_;go_wp2_with fail;refine cb (Vn b w i) ?_;go_wp2_with fail;refine cb (gZ a.natAbs b.natAbs j k w) ?_;go_wp2_with fail
   all_goals (go_ret;exact⟨ze (by rw[Er,d.1];unfold Fz;(repeat' split) <;> omega),rfl⟩)
 . have d:=I (show a*b=-((a.natAbs:Int)*(b.natAbs:Int)) by
    have f:a=(a.natAbs:Int):=by omega
    have g:b=-(b.natAbs:Int):=by omega
    generalize a.natAbs=p at*;generalize b.natAbs=q at*;subst f g;simp[Int.neg_mul,Int.mul_neg])
   have n:decide (a<0)=false:=by simpa using l
   have o:decide (b<0)=true:=by simpa using m
   delta CE;go_in;go_wp2_with fail;refine cb (Vn a w h) ?_;go_wp2_with fail;refine cb (Vn b w i) ?_;go_wp2_with fail;refine cb (gZ a.natAbs b.natAbs j k w) ?_;go_wp2_with fail
   all_goals (go_ret;exact⟨ze (by rw[Er,d.1];unfold Fz;(repeat' split) <;> omega),rfl⟩)
 have d:=I (show a*b=(a.natAbs:Int)*(b.natAbs:Int) by
  have f:a=(a.natAbs:Int):=by omega
  have g:b=(b.natAbs:Int):=by omega
  generalize a.natAbs=p at*;generalize b.natAbs=q at*;subst f g;simp[Int.neg_mul,Int.mul_neg])
 have n:decide (a<0)=false:=by simpa using l
 have o:decide (b<0)=false:=by simpa using m
 delta CE;go_in;go_wp2_with fail;refine cb (Vn a w h) ?_;go_wp2_with fail;refine cb (Vn b w i) ?_;go_wp2_with fail;refine cb (gZ a.natAbs b.natAbs j k w) ?_;go_wp2_with fail
 all_goals (go_ret;exact⟨ze (by rw[Er,d.1];unfold Fz;(repeat' split) <;> omega),rfl⟩)
def Di(a b:Int):Int:=if b=0 then 0 else if a.tmod b=0 then a.tdiv b else if decide (a<0)=decide (b<0) then a.tdiv b else a.tdiv b-1
theorem pT{a b:Int}(c:wA a):wA (a.tdiv b):=by
 have h:(a.tdiv b).natAbs<=a.natAbs:=by rw[Int.natAbs_tdiv];exact Nat.div_le_self _ _
 grind[wA]
theorem yE{a b:Int}(e:wA a)(f:b≠0)(c:a.tmod b≠0):-549755813888<=a.tdiv b/\a.tdiv b<=549755813888:=by
 have d:2<=b.natAbs:=by
  have g:b≠1:=by rintro rfl;simp at c
  have d:b≠-1:=by rintro rfl;simp at c
  omega
 have h:(a.tdiv b).natAbs<=a.natAbs/2:=by rw[Int.natAbs_tdiv];exact Nat.div_le_div_left d (by omega)
 grind[wA]
theorem VB{a b:Int}(c:wA a):wA (Di a b):=by
 unfold Di;by_cases d:b=0;unfold wA;omega;rw[iN d];by_cases e:a.tmod b=0;rw[iP e];exact pT c;split;exact pT c;have:=yE c d e;unfold wA;omega
def VA(a b:Int)(w:Wd)(q:wA a)(s:wA b):CE 232 #[a,b] w (Di a b):=by
 have i:=q;obtain⟨t,u⟩:=q;obtain⟨z,A⟩:=s;by_cases f:b=0
 . subst f;delta CE;go_in;go_wp2;go_ret;exact⟨rfl,rfl⟩
 by_cases r:b=-1
 . subst r;delta CE;go_in;go_wp2_with fail;refine cb (BD a (-1) w ⟨t,u⟩ (by unfold wA;omega)) ?_;go_wp2;go_ret;exact⟨ze (by rw[Er,Di,iN (by omega),iP (by simp),Za (by unfold wA;omega)];simp),rfl⟩
 have B:=RZ f
 have C:=RZ r
 have⟨v,x⟩:=pT (b:=b) i;by_cases c:a.tmod b=0
 . have d:=I (show Di a b=Fz (a.tdiv b) by rw[Di,iN f,iP c,Za ⟨v,x⟩]);have m:=bMa c
   have l:0<=a->(a%b !=0)=false:=λh=>by rw[<-Int.tmod_eq_emod_of_nonneg h];exact m
   delta CE;go_in;go_wp2_with (go_at_call 167;refine cb (Uc _ _) ?_);go_ret;exact⟨ze d.1.symm,rfl⟩
 have⟨D,E⟩:=yE i f c;have m:=CN c
 have y:¬ a.tmod b=0:=c;by_cases n:a<0 <;> by_cases o:b<0
 . have j:decide (a<0)=true:=by simpa using n
   have k:decide (b<0)=true:=by simpa using o
   have d:=I (show Di a b=Fz (a.tdiv b) by rw[Di,iN f,iN c,iP (by rw[j,k]),Za (by unfold wA;omega)]);delta CE;go_in;go_wp2_with (go_at_call 167;refine cb (Uc _ _) ?_);go_ret;exact⟨ze d.1.symm,rfl⟩
 . have j:decide (a<0)=true:=by simpa using n
   have k:decide (b<0)=false:=by simpa using o
   have d:=I (show Di a b=Fz (a.tdiv b-1) by rw[Di,iN f,iN c,iN (by rw[j,k];decide),Za (by unfold wA;omega)]);delta CE;go_in;go_wp2_with (go_at_call 167;refine cb (Uc _ _) ?_);go_ret;exact⟨ze d.1.symm,rfl⟩
 . have j:decide (a<0)=false:=by simpa using n
   have k:decide (b<0)=true:=by simpa using o
   have l:(a%b !=0)=true:=by rw[<-Int.tmod_eq_emod_of_nonneg (by omega)];exact m
   have p:¬ a%b=0:=by rw[<-Int.tmod_eq_emod_of_nonneg (by omega)];exact c
   have d:=I (show Di a b=Fz (a.tdiv b-1) by rw[Di,iN f,iN c,iN (by rw[j,k];decide),Za (by unfold wA;omega)]);delta CE;go_in;go_wp2_with (go_at_call 167;refine cb (Uc _ _) ?_);go_ret;exact⟨ze d.1.symm,rfl⟩
 have j:decide (a<0)=false:=by simpa using n
 have k:decide (b<0)=false:=by simpa using o
 have l:(a%b !=0)=true:=by rw[<-Int.tmod_eq_emod_of_nonneg (by omega)];exact m
 have p:¬ a%b=0:=by rw[<-Int.tmod_eq_emod_of_nonneg (by omega)];exact c
 have d:=I (show Di a b=Fz (a.tdiv b) by rw[Di,iN f,iN c,iP (by rw[j,k]),Za (by unfold wA;omega)]);delta CE;go_in;go_wp2_with (go_at_call 167;refine cb (Uc _ _) ?_);go_ret;exact⟨ze d.1.symm,rfl⟩
def nK{P:Program}{f:FuncId}{a:Array Value}(h:Calls P f a w λe w'=>e=.returned v/\w=w'):Calls P f a w λe w'=>e=.returned v/\Bw w w':=
 h.mono λ_ _ ⟨he,hw⟩=>⟨he,hw ▸ An _ _⟩
def Iw(b:Bool):Int:=if b=true then 1 else 0
def bG(b:Bool)(w:Wd):CE 173 #[.bool b] w (Iw b):=by
 cases b
 all_goals
  delta CE;go_in
  go_wp2
  go_ret;exact⟨rfl,rfl⟩
def zAK(a b:Int)(w:Wd):CE 134 #[a,b] w (zz5 a b):=by
 by_cases h:a<b
 . delta CE;go_in;go_wp2;go_ret;exact⟨ze (by simp[zz5,h]),rfl⟩
 have d:Af (zz5 a b=Iw (decide (b<a))):=I (by simp[zz5,h,Iw]);delta CE;go_in;go_wp2_with (go_at_call 173;refine cb (bG _ _) ?_);go_ret;exact⟨ze d.1.symm,rfl⟩
theorem zBH(x y:Int)(p q:Bool):zzT (x,p) (y,q)=if x≠y then(if x<y then -1 else 1) else Iw p-Iw q:=by
 grind[zzT,zz5,Iw]
def zAw(x y:Int)(p q:Bool)(w:Wd):CV 133 #[.agg #[x,.bool p],.agg #[y,.bool q]] w (zzT (x,p) (y,q)):=by
 have g:=I (zBH x y p q);by_cases h:x=y
 . have m:(x !=y)=false:=by simpa using h
   have a:=I (g.1.trans (iN (by simpa using h)));clear h;go_enter func133,ntmps133
   go_wp2_with fail;generalize hW:(w.alloc (oT x p)).alloc (oT y q)=W;have c:Bw w W:=by rw[<-hW];exact Ab (J _ _) (J _ _)
   have n:W.cell? (aD w.heap.size 1)=some (.bool p):=by clear c;subst hW;go_simp
   have o:W.cell? (aD (w.heap.size+1) 1)=some (.bool q):=by clear c;subst hW;go_simp
   clear hW;have s:=λd os=>cR n d os
   have t:=λd os=>cR o d os
   have k:=I (λd os b=>Fa (nK (bG b (grow (redrawn W d) os))));have u:0<=Iw p/\Iw p<=1:=by cases p <;> decide
   have v:0<=Iw q/\Iw q<=1:=by cases q <;> decide
   refine wQ (by kernel_rfl) (by kernel_rfl) ?_;repeat go_big_quiet_step (first|exact k.1 _ _ _)
   refine wpQuiet_nil ?_;intro _ i;obtain⟨⟨r,j⟩,f⟩:=i;subst f;go_wp2;go_ret;exact⟨ze a.1.symm,Ab c (bR W r j)⟩
 have m:(x !=y)=true:=by simpa using h
 by_cases l:x<y
 . have a:=I (g.1.trans (by rw[iP h,iP l]));clear h;go_enter func133,ntmps133
   go_wp2;go_ret;exact⟨ze a.1.symm,Ab (J _ _) (J _ _)⟩
 have a:=I (g.1.trans (by rw[iP h,iN l]));clear h;go_enter func133,ntmps133
 go_wp2;go_ret;exact⟨ze a.1.symm,Ab (J _ _) (J _ _)⟩
def zBa{A:Type}(c:A->A->Int)(l m:List A)(k:Nat)(e:k<=l.length)(a:k<=m.length)(h:¬ (k<l.length/\k<m.length)):zz9 c (l.drop k) (m.drop k)=zz5 l.length m.length:=by
 unfold zz5;by_cases b:k<l.length;rw[iN (by omega),iP (by omega),List.drop_of_length_le (by omega:m.length<=k),List.drop_eq_getElem_cons b];rfl;by_cases d:k<m.length;rw[iP (by omega),List.drop_of_length_le (by omega:l.length<=k),List.drop_eq_getElem_cons d];rfl;rw[iN (by omega),iN (by omega),List.drop_of_length_le (by omega:l.length<=k),List.drop_of_length_le (by omega:m.length<=k)];rfl
def zAm(l m:Ai)(b p cap b' off' q:Nat)(w:Wd)(R:l.length<=2^47)(S:m.length<=2^47)(G:b<w.heap.size)(t:b' < w.heap.size)(H:eP w b p l)(u:eP w b' off' m):
 CV 77 #[Kx b p l.length cap,Kx b' off' m.length q] w (CD l m):=by
 delta CV;go_in;go_wp2_with fail;go_loopw [5] (λi wr=>∃k:Nat,k<=l.length/\k<=m.length/\i=Bn k/\Af (CD l m=CD (l.drop k) (m.drop k))/\Bw w wr) (λi _=>l.length-(intOf i).toNat);exact⟨0,Bg _,Bg _,rfl,I rfl,An _ _⟩;obtain⟨k,K,v,rfl,h,a⟩:=hrel;by_cases c:k<l.length/\k<m.length
 . obtain⟨c,j⟩:=c;have⟨B,C⟩:=H.below G a k c;have⟨D,E⟩:=u.below t a k j;have g:=I (h.1.trans (zAJ c j));go_wp2_with fail;have L:=cR B;have M:=cR C;have N:=cR D;have P:=cR E;have x:=I (λd os=>Fa (zAw (Cm l k).1 (Cm m k).1 (Cm l k).2 (Cm m k).2 (grow (redrawn wr d) os)));refine SY ?_;repeat go_big_quiet_step (first|exact x.1 _ _)
   refine wpQuiet_nil ?_;intro _ y;obtain⟨⟨F,r⟩,s⟩:=y;subst s;have z:=bR wr F r;generalize grow (redrawn wr F) r=T at*;have f:=a.trans (z.mono a.size);by_cases o:zzT ((Cm l k).1,(Cm l k).2) ((Cm m k).1,(Cm m k).2)=0
   . have Q:(zzT ((Cm l k).1,(Cm l k).2) ((Cm m k).1,(Cm m k).2) !=0)=false:=by simpa using o
     have n:=I (g.1.trans (by rw[iN (by simpa using o)]));go_wp2;go_roundw;exact⟨k+1,by omega,by omega,by go_num,n,f⟩;simp[intOf];omega
   have Q:(zzT ((Cm l k).1,(Cm l k).2) ((Cm m k).1,(Cm m k).2) !=0)=true:=by simpa using o
   have n:=I (g.1.trans (by rw[iP o]));go_wp2;go_ret;exact⟨ze n.1.symm,f⟩
 have g:=I (h.1.trans (zBa zzT l m k K v c));by_cases U:k<l.length
 all_goals
  go_wp2_with (go_at_call 134;refine cb (zAK _ _ _) ?_)
  go_ret;exact⟨ze g.1.symm,a⟩
def zAN(l m:Ai)(a f:Ae)(cap b:Nat)(w:Wd)(g:l.length<=2^47)(j:m.length<=2^47)(h:¬ (0<l.length/\0<m.length)):
 CV 77 #[CU a l.length cap,CU f m.length b] w (CD l m):=by
 have c:Af (CD l m=zz5 l.length m.length):=I (zBa zzT l m 0 (by omega) (by omega) h);delta CV;go_in;go_wp2_with fail;go_loop [5] (λi=>i=Bn 0) (λ_=>0);rfl;subst hrel;by_cases k:0<l.length
 all_goals
  go_wp2_with (go_at_call 134;refine cb (zAK _ _ _) ?_)
  go_ret;exact⟨ze c.1.symm,An _ _⟩
def zAd(l m:Ai)(a f:Ae)(cap c:Nat)(w:Wd)(n:l.length<=2^47)(o:m.length<=2^47)(p:Al Ei w a l)(g:Al Ei w f m):
 CV 77 #[CU a l.length cap,CU f m.length c] w (CD l m):=by
 by_cases h:0<l.length/\0<m.length;obtain⟨b,i,rfl,q,r⟩:=Ok p h.1;obtain⟨s,d,rfl,j,k⟩:=Ok g h.2;exact zAm l m b i cap s d c w n o q j r k;exact zAN l m a f cap c w n o h
def Ff(c f t:Int):Bool:=if f<=t then decide (f<=c)&&decide (c<t) else decide (f<=c) || decide (c<t)
def Hd:Int->LI->Int
 |a, []=>a
 |a,x::l=>Hd (min a x) l
def Hc:Int->LI->Int
 |a, []=>a
 |a,x::l=>Hc (max a x) l
def Cx(o a b:Int):Int:=
 if o=8 then Fz (a+b) else if o=9 then Fz (a+-b) else if o=10 then Er a b else if o=11 then Di a b
 else if o=16 then Iw (decide (a<b)) else if o=17 then Iw (decide (a<=b)) else if o=18 then Iw (a==b)
 else if o=20 then(if a=0 then 0 else b) else if o=21 then(if a=0 then b else 1) else(if a=0 then 1 else b)
def Fx(o:Int)(v:LI):Int:=
 if o=7 then Fz (0+-Am v 0) else if o=12 then Hd (Am v 0) (v.drop 1) else if o=13 then Hc (Am v 0) (v.drop 1)
 else if o=14 then(if Am v 0≠0 then Am v 1 else Am v 2) else if o=15 then Iw (Ff (Am v 0) (Am v 1) (Am v 2))
 else if o=19 then 1-Am v 0 else Cx o (Am v 0) (Am v 1)
inductive zE where
 |mk (op num:Int) (args:List zE)
def zE.op:zE->Int
 | .mk o _ _=>o
def zE.num:zE->Int
 | .mk _ n _=>n
def zE.args:zE->List zE
 | .mk _ _ l=>l
def Ci(l:List zE)(k:Nat):zE:=l.getD k (.mk 0 0 [])
theorem Xt(l:List zE)(k:Nat)(h:k<l.length):l.drop k=Ci l k::l.drop (k+1):=by
 grind[Ci,List.drop_eq_getElem_cons]
theorem zqr{l:List zE}(h:k<l.length):Ci l k∈l:=by
 grind[Ci]
theorem wG{l:List zE}(h:k<l.length):SizeOf.sizeOf (Ci l k)<SizeOf.sizeOf (zE.mk o n l):=by
 have:=List.sizeOf_lt_of_mem (zqr h);grind
mutual
def Aw(q:LI):zE->Int
 | .mk o n l=>if o=1 then n else if o=6 then Am q n.toNat else Fx o (Dz q l)
def Dz(q:LI):List zE->LI
 |[]=> []
 |x::l=>Aw q x::Dz q l
end
def Gq(v:Int):Prop:=v=0\/v=1
mutual
def Lb(q:LI):zE->Prop
 | .mk o n l=>if o=1 then wA n else if o=6 then(0<=n/\n<q.length/\wA (Am q n.toNat)) else(7<=o/\o<=22/\zL o l.length=true/\(19<=o->∀k,k<l.length->Gq (Am (Dz q l) k))/\Ko q l)
def Ko(q:LI):List zE->Prop
 |[]=>True
 |x::l=>Lb q x/\Ko q l
end
theorem Vp(q:LI):∀l,(Dz q l).length=l.length
 |[]=>rfl
 |x::l=>by rw[Dz,List.length_cons,List.length_cons,Vp q l]
theorem Na(q:LI):∀(l:List zE) (k:Nat),k<l.length->Am (Dz q l) k=Aw q (Ci l k)
 |[],k,h=>by simp at h
 |x::l,0,h=>rfl
 |x::l,k+1,h=>by
  exact Na q l k (by simpa using h)
theorem Oo:∀{l:List zE},Ko q l->∀k,k<l.length->Lb q (Ci l k)
 |[],_,k,h=>by simp at h
 |x::l,hl,0,h=>by exact hl.1
 |x::l,hl,k+1,h=>by exact Oo hl.2 k (by simpa using h)
theorem BG:∀(l:LI) (a:Int),wA a->(∀k,k<l.length->wA (Am l k))->wA (Hd a l)
 |[],a,h,_=>h
 |x::l,a,h,hl=>BG l (min a x) (by have:=hl 0 (by simp);grind[Am]) (λk hk=>hl (k+1) (by simpa using hk))
theorem BH:∀(l:LI) (a:Int),wA a->(∀k,k<l.length->wA (Am l k))->wA (Hc a l)
 |[],a,h,_=>h
 |x::l,a,h,hl=>BH l (max a x) (by have:=hl 0 (by simp);grind[Am]) (λk hk=>hl (k+1) (by simpa using hk))
def yR(b:Bool):wA (Iw b):=by cases b <;> (unfold wA;decide)
theorem xG(v:LI)(k:Nat):Am (v.drop 1) k=Am v (k+1):=by
 grind[Am]
theorem BK{n:Nat}(h:zL o n=true)(a:7<=o):1<=n:=by
 have e:∀k:Int,k<=6->(o==k)=false:=λk hk=>by simp;omega
 simp only[zL,e 1 (by omega),e 2 (by omega),e 3 (by omega),e 4 (by omega),e 5 (by omega),e 6 (by omega),Mn,if_false]at h;grind
def TO{a b:Int}(c:wA a)(d:wA b):wA (Cx o a b):=by
 unfold Cx;(repeat' split) <;> first|exact wX _|exact VB c|exact yR _|exact d|(unfold wA;omega)
def Yf{v:LI}(m:7<=o)(n:o<=22)(p:zL o v.length=true)(q:19<=o->∀k,k<v.length->Gq (Am v k))(i:∀k,k<v.length->wA (Am v k)):wA (Fx o v):=by
 have r:=BK p m;have j:=i 0 (by omega);have a:∀k,wA (Am v k):=λk=>by
  by_cases g:k<v.length;exact i k g;have:Am v k=0:=by simp[Am,Cr,List.getElem?_eq_none (Nat.le_of_not_lt g)]
  rw[this];unfold wA;omega
 unfold Fx;by_cases l:o=7;rw[iP l];exact wX _;rw[iN l];by_cases b:o=12;rw[iP b];exact BG _ _ j (λk g=>by rw[xG];exact a _);rw[iN b];by_cases c:o=13;rw[iP c];exact BH _ _ j (λk g=>by rw[xG];exact a _);rw[iN c];by_cases d:o=14;rw[iP d];split <;> exact a _;rw[iN d];by_cases e:o=15;rw[iP e];exact yR _;rw[iN e];by_cases f:o=19;rw[iP f];rcases q (by omega) 0 (by omega) with h|h <;> rw[h] <;> unfold wA <;> omega;rw[iN f];exact TO (a 0) (a 1)
mutual
theorem Ph:∀(f:zE),Lb q f->wA (Aw q f)
 | .mk o n l,h=>by
  rw[Lb]at h;rw[Aw];by_cases b:o=1
  . simp_all
  rw[iN b]at h ⊢;by_cases c:o=6
  . simp_all
  rw[iN c]at h ⊢;obtain⟨d,a,e,g,i⟩:=h;exact Yf d a (by rw[Vp];exact e) (λh k hk=>g h k (by rwa [Vp]at hk)) (pF l i)
theorem pF:∀(l:List zE),Ko q l->∀k,k<(Dz q l).length->wA (Am (Dz q l) k)
 |[],_=>λk hk=>by simp[Dz]at hk
 |x::l,h=>λk hk=>by
  rw[Dz]at hk ⊢;cases k with
  |zero=>exact Ph x h.1
  |succ k=>exact pF l h.2 k (by simpa using hk)
end
inductive zX(X:Nat->Prop)(w:Wd):Nat->Nat->List zE->Prop
 |nil (b off:Nat):zX X w b off []
 |cons {b off b' off':Nat} {f:zE} {l:List zE} {a:Ae} {cap:Nat} (hb:b<w.heap.size) (hX:¬ X b)
  (h0:w.cell? (aD b off)=some (.int .i64 f.op)) (h1:w.cell? (aD b (off+1))=some (.int .i64 f.num)) (h2:w.cell? (aD b (off+2))=some (.slice a f.args.length cap))
  (hl:f.args.length<=140737488355328) (ha:f.args≠ []->a=some (aD b' off')) (hx:zX X w b' off' f.args) (ht:zX X w b (off+3) l):zX X w b off (f::l)
def Gi(X:Nat->Prop)(w:Wd)(a:Ae)(l:List zE):Prop:=∃b off,(l≠ []->a=some (aD b off))/\zX X w b off l
def zX.step{l:List zE}(h:zX X w b d l)(g:w.heap.size<=w'.heap.size)(i:∀b,b<w.heap.size->¬ X b->w'.heap[b]?=w.heap[b]?)(k:∀b,b<w.heap.size->X' b->X b):zX X' w' b d l:=by
 induction h with
 |nil b d=>exact .nil b d
 | @cons b d b' off' f l a cap hb hXb h0 h1 h2 hl ha hx ht ih1 ih2=>
  have e:=i b hb hXb;have c:∀j,w'.cell? (aD b j)=w.cell? (aD b j):=λj=>by simp only[World.cell?,e]
  exact .cons (As hb g) (λh=>hXb (k b hb h)) ((c _).trans h0) ((c _).trans h1) ((c _).trans h2) hl ha ih1 ih2
def zX.kept{a:Nat}{l:List zE}(h:zX X w b a l)(c:Bw w w'):zX X w' b a l:=h.step c.size (λb hlt _=>c.block b hlt) (λ_ _ h=>h)
def Gi.step{l:List zE}(h:Gi X w a l)(d:w.heap.size<=w'.heap.size)(e:∀b,b<w.heap.size->¬ X b->w'.heap[b]?=w.heap[b]?)(f:∀b,b<w.heap.size->X' b->X b):Gi X' w' a l:=by
 obtain⟨b,c,g,i⟩:=h;exact⟨b,c,g,i.step d e f⟩
def Gi.below{l:List zE}(h:Gi X w a l)(d:Bw w w'):Gi X w' a l:=by
 obtain⟨b,c,e,f⟩:=h;exact⟨b,c,e,f.kept d⟩
theorem zX.at{l:List zE}(h:zX X w b c l)(k:Nat)(d:k<l.length):zX X w b (c+k*3) [Ci l k]:=by
 induction h generalizing k with
 |nil b c=>simp at d
 | @cons b c b' off' f l a cap hb hXb h0 h1 h2 hl ha hx ht ih1 ih2=>
  cases k with
  |zero=>exact .cons hb hXb h0 h1 h2 hl ha hx (.nil _ _)
  |succ k=>
   have:=ih2 k (by simpa using d);have e:c+(k+1)*3=c+3+k*3:=by omega
   rw[e];exact this
def zX.one{f:zE}(h:zX X w b c [f]):∃a cap,b<w.heap.size/\w.cell? (aD b c)=some (Bn f.op)/\w.cell? (aD b (c+1))=some (Bn f.num)/\w.cell? (aD b (c+2))=some (CU a f.args.length cap)/\f.args.length<=2^47/\Gi X w a f.args:=by
 cases h with
 | @cons _ _ b' off' _ _ a cap hb hXb h0 h1 h2 hl ha hx ht=>exact⟨a,cap,hb,h0,h1,h2,hl,b',off',ha,hx⟩
theorem zX.lt{a:Nat}{l:List zE}(h:zX X w b a l)(c:0<l.length):b<w.heap.size:=by
 cases h<;>simp_all
theorem Gi.cells{l:List zE}(h:Gi X w a l)(d:0<l.length):∃b c,a=some (aD b c)/\b<w.heap.size/\zX X w b c l:=by
 obtain⟨b,c,f,e⟩:=h;exact⟨b,c,f (by grind),e.lt d,e⟩
def iC(b:Bool)(w:Wd):CE 161 #[.bool b] w (Iw b):=by
 cases b
 all_goals
  delta CE;go_in
  go_wp2;go_ret;exact⟨rfl,rfl⟩
def LH(c f t:Int)(w:Wd):CE 162 #[c,f,t] w (.bool (Ff c f t)):=by
 by_cases b:f<=t <;> by_cases d:f<=c
 . have a:=I (show Ff c f t=decide (c<t) by simp[Ff,b,d]);delta CE;go_in;go_wp2;go_ret;exact⟨zz a.1.symm,rfl⟩
 . have a:=I (show Ff c f t=false by simp[Ff,b,d]);delta CE;go_in;go_wp2;go_ret;exact⟨zz a.1.symm,rfl⟩
 . have a:=I (show Ff c f t=true by simp[Ff,b,d]);delta CE;go_in;go_wp2;go_ret;exact⟨zz a.1.symm,rfl⟩
 have a:=I (show Ff c f t=decide (c<t) by simp[Ff,b,d]);delta CE;go_in;go_wp2;go_ret;exact⟨zz a.1.symm,rfl⟩
def LD(o a b:Int)(w:Wd)(i:wA a)(h:wA b)(f:8<=o/\o<=11\/16<=o/\o<=18\/20<=o/\o<=22)(d:19<=o->Gq a/\Gq b):CE 164 #[o,a,b] w (Cx o a b):=by
 have u:=h.1;have v:=h.2;by_cases s:o=8
 . subst s;have c:=I (show Cx 8 a b=Fz (a+b) by simp[Cx]);delta CE;go_in;go_wp2_with fail;refine cb (qB a b w i h) ?_;go_wp2;go_ret;exact⟨ze c.1.symm,rfl⟩
 by_cases t:o=9
 . subst t;have c:=I (show Cx 9 a b=Fz (a+-b) by simp[Cx]);delta CE;go_in;go_wp2_with fail;refine cb (qB a (-b) w i (by unfold wA at*;omega)) ?_;go_wp2;go_ret;exact⟨ze c.1.symm,rfl⟩
 by_cases j:o=10
 . subst j;have c:=I (show Cx 10 a b=Er a b by simp[Cx]);delta CE;go_in;go_wp2_with fail;refine cb (BD a b w i h) ?_;go_wp2;go_ret;exact⟨ze c.1.symm,rfl⟩
 by_cases k:o=11
 . subst k;have c:=I (show Cx 11 a b=Di a b by simp[Cx]);delta CE;go_in;go_wp2_with fail;refine cb (VA a b w i h) ?_;go_wp2;go_ret;exact⟨ze c.1.symm,rfl⟩
 by_cases l:o=16
 . subst l;have c:=I (show Cx 16 a b=Iw (decide (a<b)) by simp[Cx]);delta CE;go_in;go_wp2_with fail;refine cb (iC (decide (a<b)) w) ?_;go_wp2;go_ret;exact⟨ze c.1.symm,rfl⟩
 by_cases m:o=17
 . subst m;have c:=I (show Cx 17 a b=Iw (decide (a<=b)) by simp[Cx]);delta CE;go_in;go_wp2_with fail;refine cb (iC (decide (a<=b)) w) ?_;go_wp2;go_ret;exact⟨ze c.1.symm,rfl⟩
 by_cases n:o=18
 . subst n;have c:=I (show Cx 18 a b=Iw (a==b) by simp[Cx]);delta CE;go_in;go_wp2_with fail;refine cb (iC (a==b) w) ?_;go_wp2;go_ret;exact⟨ze c.1.symm,rfl⟩
 have p:o=20\/o=21\/o=22:=by omega
 have⟨q,r⟩:=d (by omega);rcases q with rfl|rfl <;> rcases r with rfl|rfl <;> rcases p with rfl|rfl|rfl
 all_goals
  delta CE;go_in
  go_wp2;go_ret;exact⟨ze (by first|(simp[Cx];done)|rfl),rfl⟩
def Gc(q:LI)(aa:Ae)(ac:Nat)(X:Nat->Prop)(f:zE):Prop:=∀(b off:Nat) (w:Wd),zX X w b off [f]->Lb q f->zW w aa q->Calls prog 98 #[.pointer (some (aD b off)),.slice aa q.length ac] w λe w'=>e=.returned (Aw q f)/\Below w.heap.size w w'
def zj{o:Nat}(h:w.cell? (aD b o)=some v)(a:b<w.heap.size)(c:Bw w w'):w'.cell? (aD b o)=some v:=(c.cell (p:=aD b o) a).trans h
theorem Vs{l:List zE}(h:Lb q (.mk o n l))(a:o≠1)(b:o≠6):7<=o/\o<=22/\zL o l.length=true/\(19<=o->∀k,k<l.length->Gq (Am (Dz q l) k))/\Ko q l:=by
 grind[Lb]
theorem Zi{l:List zE}(a:o≠1)(b:o≠6):Aw q (.mk o n l)=Fx o (Dz q l):=by grind[Aw]
def LU(q:LI)(k:Ae)(p:Nat)(X:Nat->Prop)(o n:Int)(l:List zE)(r:o=1\/o=6)(B:q.length<=2^47):Gc q k p X (.mk o n l):=by
 intro b s w e c f;have⟨a,t,C,u,v,x,D,h⟩:=e.one;simp only[zE.op,zE.num,zE.args]at u v x;rcases r with rfl|rfl
 . have g:=I (show Aw q (.mk 1 n l)=n by rw[Aw,iP rfl]);go_enter func98,ntmps98;go_wp2;go_ret;exact⟨ze g.1.symm,An _ _⟩
 rw[Lb,iN (by decide),iP rfl]at c;obtain⟨i,y,_⟩:=c;obtain⟨m,rfl⟩:=Int.eq_ofNat_of_zero_le i;have g:=I (show Aw q (.mk 6 m l)=Am q m by rw[Aw,iN (by decide),iP rfl,Int.toNat_natCast]);have z:m<q.length:=by omega
 obtain⟨E,j,rfl,A,d⟩:=f.cells (by omega);have F:=d m z;go_enter func98,ntmps98;go_wp2;go_ret;exact⟨ze g.1.symm,An _ _⟩
def SJ(q:LI)(A:Ae)(B:Nat)(X:Nat->Prop)(n:Int)(l:List zE)(hq:q.length<=2^47)(y:Af (∀k,k<l.length->Gc q A B X (Ci l k))):Gc q A B X (.mk 14 n l):=by
 intro b R w C r D;have⟨a,S,T,E,F,u,G,v⟩:=C.one;simp only[zE.op,zE.num,zE.args]at E F u G;replace v:Gi X w a l:=v;have⟨h7,U,i,m,f⟩:=Vs r (by decide) (by decide);have j:l.length=3:=by simp[zL]at i;omega
 have H:=I D;obtain⟨p,c,rfl,V,h⟩:=v.cells (by omega);have W:Af (zX X w p c [Ci l 0]):=I (h.at 0 (by omega));have K:=I (Oo f 0 (by omega));have Y:=I (Na q l 0 (by omega));have Z:=Ph _ K.1;have F1:Af (zX X w p (c+3) [Ci l 1]):=I (h.at 1 (by omega));have L:=I (Oo f 1 (by omega));have v1:=I (Na q l 1 (by omega));have R1:=Ph _ L.1;have F2:Af (zX X w p (c+6) [Ci l 2]):=I (h.at 2 (by omega));have M:=I (Oo f 2 (by omega));have v2:=I (Na q l 2 (by omega));have R2:=Ph _ M.1;have N:=I (show Aw q (.mk 14 n l)=if Aw q (Ci l 0)≠0 then Aw q (Ci l 1) else Aw q (Ci l 2) by rw[Zi (by decide) (by decide),<-Y.1,<-v1.1,<-v2.1];simp[Fx]);have I0:=I (y.1 0 (by omega));have I1:=I (y.1 1 (by omega));have I2:=I (y.1 2 (by omega));rw[j]at u;go_enter func98,ntmps98;go_wp2_with fail;refine ca (I0.1 p c w W.1 K.1 H.1) λP d=>?_;have Q:=zj u T d;have a0:=d.size;have G1:=I (F1.1.kept d);have G2:=I (F2.1.kept d);have s:=I (H.1.below d);have t:=I d;by_cases x:Aw q (Ci l 0)=0
 . have z:=I (N.1.trans (iN (by simpa using x)));rw[x];go_wp2_with fail;refine ca (I2.1 p (c+6) P G2.1 M.1 s.1) λw2 g=>?_;have o:=I (Ab t.1 g);go_wp2;go_ret;exact hU z o
 have z:=I (N.1.trans (iP (by simpa using x)));have e1:=CN x
 go_wp2_with fail;refine ca (I1.1 p (c+3) P G1.1 L.1 s.1) λw2 g=>?_;have o:=I (Ab t.1 g);go_wp2;go_ret;exact hU z o
def NB(q:LI)(s:Ae)(t:Nat)(X:Nat->Prop)(n:Int)(l:List zE)(R:q.length<=2^47)(C:Af (∀k,k<l.length->Gc q s t X (Ci l k))):Gc q s t X (.mk 7 n l):=by
 intro b D w u i v;have⟨a,E,S,x,y,p,z,o⟩:=u.one;simp only[zE.op,zE.num,zE.args]at x y p z;replace o:Gi X w a l:=o;have⟨T,F,c,h,d⟩:=Vs i (by decide) (by decide);have f:l.length=1:=by simp[zL]at c;omega
 have G:=I v;obtain⟨A,g,rfl,H,j⟩:=o.cells (by omega);have K:Af (zX X w A g [Ci l 0]):=I (j.at 0 (by omega));have B:=I (Oo d 0 (by omega));have L:=I (Na q l 0 (by omega));have M:=Ph _ B.1;have N:=I (show Aw q (.mk 7 n l)=Fz (-Aw q (Ci l 0)) by rw[Zi (by decide) (by decide),<-L.1];simp[Fx]);have P:=I (C.1 0 (by omega));obtain⟨U,V⟩:=M;rw[f]at p;go_enter func98,ntmps98;go_wp2_with fail;refine ca (P.1 A g w K.1 B.1 G.1) λQ m=>?_;have r:=I m;go_wp2_with fail;refine cb (qB 0 (-Aw q (Ci l 0)) Q (by unfold wA;omega) (by unfold wA;omega)) ?_;go_wp2;go_ret;exact hU N r
def NA(q:LI)(u:Ae)(v:Nat)(X:Nat->Prop)(n:Int)(l:List zE)(S:q.length<=2^47)(F:Af (∀k,k<l.length->Gc q u v X (Ci l k))):Gc q u v X (.mk 19 n l):=by
 intro b G w x j y;have⟨a,H,T,z,A,s,B,p⟩:=x.one;simp only[zE.op,zE.num,zE.args]at z A s B;replace p:Gi X w a l:=p;have⟨U,K,d,c,f⟩:=Vs j (by decide) (by decide);have g:l.length=1:=by simp[zL]at d;omega
 have L:=I y;obtain⟨C,i,rfl,M,m⟩:=p.cells (by omega);have N:Af (zX X w C i [Ci l 0]):=I (m.at 0 (by omega));have D:=I (Oo f 0 (by omega));have E:=I (Na q l 0 (by omega));have P:=Ph _ D.1;have Q:=I (show Aw q (.mk 19 n l)=1-Aw q (Ci l 0) by rw[Zi (by decide) (by decide),<-E.1];simp[Fx]);have r:=c (by decide) 0 (by omega);rw[E.1]at r;have V:0<=Aw q (Ci l 0):=by rcases r with h|h <;> omega
 have W:Aw q (Ci l 0)<=1:=by rcases r with h|h <;> omega
 have R:=I (F.1 0 (by omega));obtain⟨Y,Z⟩:=P;rw[g]at s;go_enter func98,ntmps98;go_wp2_with fail;refine ca (R.1 C i w N.1 D.1 L.1) λw1 o=>?_;have t:=I o;go_wp2;go_ret;exact hU Q t
def SI(q:LI)(C:Ae)(D:Nat)(X:Nat->Prop)(n:Int)(l:List zE)(hq:q.length<=2^47)(r:Af (∀k,k<l.length->Gc q C D X (Ci l k))):Gc q C D X (.mk 15 n l):=by
 intro b M w E m F;have⟨a,N,hb,P,Q,s,G,p⟩:=E.one;simp only[zE.op,zE.num,zE.args]at P Q s G;replace p:Gi X w a l:=p;have⟨h7,R,g,i,e⟩:=Vs m (by decide) (by decide);have h:l.length=3:=by simp[zL]at g;omega
 have t:=I F;obtain⟨j,c,rfl,S,f⟩:=p.cells (by omega);have T:Af (zX X w j c [Ci l 0]):=I (f.at 0 (by omega));have H:=I (Oo e 0 (by omega));have U:=I (Na q l 0 (by omega));have V:=Ph _ H.1;have W:Af (zX X w j (c+3) [Ci l 1]):=I (f.at 1 (by omega));have K:=I (Oo e 1 (by omega));have Y:=I (Na q l 1 (by omega));have Z:=Ph _ K.1;have F2:Af (zX X w j (c+6) [Ci l 2]):=I (f.at 2 (by omega));have L:=I (Oo e 2 (by omega));have v2:=I (Na q l 2 (by omega));have R2:=Ph _ L.1;have hz:=I (show Aw q (.mk 15 n l)=Iw (Ff (Aw q (Ci l 0)) (Aw q (Ci l 1)) (Aw q (Ci l 2))) by rw[Zi (by decide) (by decide),<-U.1,<-Y.1,<-v2.1];simp[Fx]);have u:=I (λd os=>Fa (r.1 0 (by omega) j c (grow (redrawn w d) os) (T.1.kept (bR w d os)) H.1 (t.1.below (bR w d os))));have v:=I (λd os=>Fa (r.1 1 (by omega) j (c+3) (grow (redrawn w d) os) (W.1.kept (bR w d os)) K.1 (t.1.below (bR w d os))));have x:=I (λd os=>Fa (r.1 2 (by omega) j (c+6) (grow (redrawn w d) os) (F2.1.kept (bR w d os)) L.1 (t.1.below (bR w d os))));have y:=I (λd os=>Fa (nK (LH (Aw q (Ci l 0)) (Aw q (Ci l 1)) (Aw q (Ci l 2)) (grow (redrawn w d) os))));have z:=I (λd os=>Fa (nK (iC (Ff (Aw q (Ci l 0)) (Aw q (Ci l 1)) (Aw q (Ci l 2))) (grow (redrawn w d) os))));rw[h]at s;go_enter func98,ntmps98;go_wp2_with fail;have r2:=cR s;refine SY ?_;repeat go_big_quiet_step (with_reducible first|exact u.1 _ _|exact v.1 _ _|exact x.1 _ _|exact y.1 _ _|exact z.1 _ _)
 refine wpQuiet_nil ?_;intro _ A;obtain⟨⟨dq,B⟩,o⟩:=A;subst o;go_wp2;go_ret;exact⟨ze hz.1.symm,bR w dq B⟩
def MY(q:LI)(C:Ae)(D:Nat)(X:Nat->Prop)(o n:Int)(l:List zE)(E:8<=o/\o<=11\/16<=o/\o<=18\/20<=o/\o<=22)(hq:q.length<=2^47)(F:Af (∀k,k<l.length->Gc q C D X (Ci l k))):Gc q C D X (.mk o n l):=by
 intro b W w G m H;have⟨a,Y,hb,K,Z,t,L,r⟩:=G.one;simp only[zE.op,zE.num,zE.args]at K Z t L;replace r:Gi X w a l:=r;have⟨h7,u,g,c,f⟩:=Vs m (by omega) (by omega);have n1:(o==1)=false:=by simp;omega
 have n6:(o==6)=false:=by simp;omega
 have a0:(o==14)=false:=by simp;omega
 have a1:(o==12)=false:=by simp;omega
 have a2:(o==13)=false:=by simp;omega
 have a3:(o==15)=false:=by simp;omega
 have n7:(o==7)=false:=by simp;omega
 have a4:(o==19)=false:=by simp;omega
 have i:l.length=2:=by
  obtain rfl|rfl|rfl|rfl|rfl|rfl|rfl|rfl|rfl|rfl:o=8\/o=9\/o=10\/o=11\/o=16\/o=17\/o=18\/o=20\/o=21\/o=22:=by omega
  all_goals (simp[zL]at g;omega)
 have M:=I H;obtain⟨s,e,rfl,a5,j⟩:=r.cells (by omega);have F0:Af (zX X w s e [Ci l 0]):=I (j.at 0 (by omega));have N:=I (Oo f 0 (by omega));have P:=I (Na q l 0 (by omega));have Q:=Ph _ N.1;have F1:Af (zX X w s (e+3) [Ci l 1]):=I (j.at 1 (by omega));have R:=I (Oo f 1 (by omega));have S:=I (Na q l 1 (by omega));have T:=Ph _ R.1;have hz:=I (show Aw q (.mk o n l)=Cx o (Aw q (Ci l 0)) (Aw q (Ci l 1)) by
  rw[Zi (by omega) (by omega),<-P.1,<-S.1,Fx,iN (by omega),iN (by omega),iN (by omega),iN (by omega),iN (by omega),iN (by omega)])
 have v:=I (show 19<=o->Gq (Aw q (Ci l 0))/\Gq (Aw q (Ci l 1)) from λh=>by
  have U:=c h 0 (by omega);have V:=c h 1 (by omega);rw[P.1]at U;rw[S.1]at V;exact⟨U,V⟩)
 have x:=I (λd os=>Fa (F.1 0 (by omega) s e (grow (redrawn w d) os) (F0.1.kept (bR w d os)) N.1 (M.1.below (bR w d os))));have y:=I (λd os=>Fa (F.1 1 (by omega) s (e+3) (grow (redrawn w d) os) (F1.1.kept (bR w d os)) R.1 (M.1.below (bR w d os))));have z:=I (λd os=>Fa (nK (LD o (Aw q (Ci l 0)) (Aw q (Ci l 1)) (grow (redrawn w d) os) Q T E v.1)));rw[i]at t;go_enter func98,ntmps98;go_wp2_with fail;have r0:=cR K;have r2:=cR t;refine SY ?_;repeat go_big_quiet_step (with_reducible first|exact x.1 _ _|exact y.1 _ _|exact z.1 _ _)
 refine wpQuiet_nil ?_;intro _ A;obtain⟨⟨dq,B⟩,p⟩:=A;subst p;go_wp2;go_ret;exact⟨ze hz.1.symm,bR w dq B⟩
def NC(q:LI)(C:Ae)(D:Nat)(X:Nat->Prop)(n:Int)(l:List zE)(hq:q.length<=2^47)(E:Af (∀k,k<l.length->Gc q C D X (Ci l k))):Gc q C D X (.mk 12 n l):=by
 intro b S w F s G;have⟨a,T,x,H,U,K,V,v⟩:=F.one;simp only[zE.op,zE.num,zE.args]at H U K V;replace v:Gi X w a l:=v;have⟨h7,W,o,p,d⟩:=Vs s (by decide) (by decide);have L:2<=l.length:=by simp[zL]at o;omega
 have M:=I G;obtain⟨y,f,rfl,Y,r⟩:=v.cells (by omega);have Z:=I r;have HK:=I d;have F0:Af (zX X w y f [Ci l 0]):=I (r.at 0 (by omega));have K0:=I (Oo d 0 (by omega));have v0:=I (Na q l 0 (by omega));have Hz:=I (show Aw q (.mk 12 n l)=Hd (Aw q (Ci l 0)) ((Dz q l).drop 1) by rw[Zi (by decide) (by decide),<-v0.1];simp[Fx]);have I0:=I (E.1 0 (by omega));go_enter func98,ntmps98;go_wp2_with fail;refine ca (I0.1 y f w F0.1 K0.1 M.1) λw1 t=>?_;have u:=I t;go_wp2_with fail;go_loopw [5,6] (λnn i wr=>∃(k:Nat) (g:Int),1<=k/\k<=l.length/\i=Bn k/\nn=Bn g/\Af (Hd (Aw q (Ci l 0)) ((Dz q l).drop 1)=Hd g ((Dz q l).drop k))/\Af (Bw w wr)) (λ_ i _=>l.length-(intOf i).toNat)
 exact⟨1,_,by omega,by omega,rfl,rfl,I rfl,u⟩;obtain⟨k,g,a0,hk,rfl,rfl,h,c⟩:=hrel;have N:=zj H x c.1;have d2:=zj K x c.1;have z:=c.1.size;by_cases j:k<l.length
 . have P:=I ((Z.1.at k j).kept c.1);have Q:=I (Oo HK.1 k j);have R:=I (E.1 k j);have A:=I (h.1.trans (by
    rw[Zn (Dz q l) k (by rw[Vp];exact j),Hd,Na q l k j]))
   go_wp2_with fail;refine ca (R.1 y (f+k*3) wr P.1 Q.1 (M.1.below c.1)) λw2 m=>?_;have g0:=zj N (As x z) m;have a1:=m.size;have B:=I (Ab c.1 m);go_wp2;go_roundw
   exact⟨k+1,min g (Aw q (Ci l k)),by omega,by omega,by go_num,by(congr 1;first|(split <;> omega)|omega),A,B⟩;simp[intOf];omega
 obtain rfl:k=l.length:=by omega
 have hr:Af (Aw q (.mk 12 n l)=g):=I (Hz.1.trans (h.1.trans (by rw[List.drop_of_length_le (by rw[Vp];exact Bv _),Hd])));go_wp2;go_ret;exact hU hr c
def ND(q:LI)(C:Ae)(D:Nat)(X:Nat->Prop)(n:Int)(l:List zE)(hq:q.length<=2^47)(E:Af (∀k,k<l.length->Gc q C D X (Ci l k))):Gc q C D X (.mk 13 n l):=by
 intro b S w F s G;have⟨a,T,x,H,U,K,V,v⟩:=F.one;simp only[zE.op,zE.num,zE.args]at H U K V;replace v:Gi X w a l:=v;have⟨h7,W,o,p,d⟩:=Vs s (by decide) (by decide);have L:2<=l.length:=by simp[zL]at o;omega
 have M:=I G;obtain⟨y,f,rfl,Y,r⟩:=v.cells (by omega);have Z:=I r;have HK:=I d;have F0:Af (zX X w y f [Ci l 0]):=I (r.at 0 (by omega));have K0:=I (Oo d 0 (by omega));have v0:=I (Na q l 0 (by omega));have Hz:=I (show Aw q (.mk 13 n l)=Hc (Aw q (Ci l 0)) ((Dz q l).drop 1) by rw[Zi (by decide) (by decide),<-v0.1];simp[Fx]);have I0:=I (E.1 0 (by omega));go_enter func98,ntmps98;go_wp2_with fail;refine ca (I0.1 y f w F0.1 K0.1 M.1) λw1 t=>?_;have u:=I t;go_wp2_with fail;go_loopw [5,6] (λnn i wr=>∃(k:Nat) (g:Int),1<=k/\k<=l.length/\i=Bn k/\nn=Bn g/\Af (Hc (Aw q (Ci l 0)) ((Dz q l).drop 1)=Hc g ((Dz q l).drop k))/\Af (Bw w wr)) (λ_ i _=>l.length-(intOf i).toNat)
 exact⟨1,_,by omega,by omega,rfl,rfl,I rfl,u⟩;obtain⟨k,g,a0,hk,rfl,rfl,h,c⟩:=hrel;have N:=zj H x c.1;have d2:=zj K x c.1;have z:=c.1.size;by_cases j:k<l.length
 . have P:=I ((Z.1.at k j).kept c.1);have Q:=I (Oo HK.1 k j);have R:=I (E.1 k j);have A:=I (h.1.trans (by
    rw[Zn (Dz q l) k (by rw[Vp];exact j),Hc,Na q l k j]))
   go_wp2_with fail;refine ca (R.1 y (f+k*3) wr P.1 Q.1 (M.1.below c.1)) λw2 m=>?_;have g0:=zj N (As x z) m;have a1:=m.size;have B:=I (Ab c.1 m);go_wp2;go_roundw
   exact⟨k+1,max g (Aw q (Ci l k)),by omega,by omega,by go_num,by(congr 1;first|(split <;> omega)|omega),A,B⟩;simp[intOf];omega
 obtain rfl:k=l.length:=by omega
 have hr:Af (Aw q (.mk 13 n l)=g):=I (Hz.1.trans (h.1.trans (by rw[List.drop_of_length_le (by rw[Vp];exact Bv _),Hc])));go_wp2;go_ret;exact hU hr c
def tN(q:LI)(a:Ae)(c:Nat)(X:Nat->Prop)(d:q.length<=2^47)(f:zE):Gc q a c X f:=by
 have⟨m,u⟩:=aT (SizeOf.sizeOf f);induction m using Nat.strongRecOn generalizing f with
 |_ m ih=>
  subst u;obtain⟨o,n,l⟩:=f;have e:∀k,k<l.length->Gc q a c X (Ci l k):=λk hk=>ih _ (wG hk) _ rfl
  by_cases v:o=1\/o=6
  . exact LU q a c X o n l v d
  by_cases i:o=14
  . subst i;exact SJ q a c X n l d e
  by_cases x:o=7
  . subst x;exact NB q a c X n l d e
  by_cases j:o=19
  . subst j;exact NA q a c X n l d e
  by_cases p:o=15
  . subst p;exact SI q a c X n l d e
  by_cases r:o=12
  . subst r;exact NC q a c X n l d e
  by_cases s:o=13
  . subst s;exact ND q a c X n l d e
  intro b t w y g z;have h:=Vs g (by omega) (by omega);exact MY q a c X o n l (by omega) d e b t w y g z
def zI:LB:= [⟨#[108,101,103,115]⟩,⟨#[104,101,97,100,115]⟩,⟨#[116,121,112,101,115]⟩,⟨#[98,108,111,99,107]⟩,⟨#[115,112,97,110]⟩,⟨#[110,105,103,104,116]⟩,⟨#[108,111,110,103,101,115,116]⟩,⟨#[115,104,111,114,116,101,115,116]⟩,⟨#[115,104,105,102,116]⟩,⟨#[115,116,97,114,116]⟩,⟨#[101,110,100]⟩]
def Rb:LB:= [⟨#[114,101,115,116]⟩,⟨#[110,105,103,104,116,115]⟩,⟨#[104,111,109,101]⟩]++zI.map (λs=>⟨#[98,101,102,111,114,101,46]⟩++s)++zI.map (λs=>⟨#[97,102,116,101,114,46]⟩++s)
def Uh:LB:= [⟨#[100,117,116,105,101,115]⟩,⟨#[108,101,103,115]⟩,⟨#[104,101,97,100,115]⟩,⟨#[100,97,121,115]⟩,⟨#[98,108,111,99,107]⟩,⟨#[115,112,97,110]⟩,⟨#[99,114,101,100,105,116]⟩]
def zk(k:Int):LB:=if k=1 then zI else if k=2 then Rb else if k=3 then Uh else []
def Bl(l:LB)(k:Nat):BA:=l.getD k ByteArray.empty
def Gy(w:Wd)(b off:Nat)(l:LB):Prop:=∀i,i<l.length->w.cell? (aD b (off+i))=some (.string (Bl l i))
def Gy.below{a:Nat}{l:LB}(h:Gy w b a l)(c:b<w.heap.size)(d:Bw w w'):Gy w' b a l:=
 λi hi=>(d.cell (p:=aD b (a+i)) c).trans (h i hi)
theorem Gy.new(w:Wd)(l:LB)(e:TypeId):Gy (w.alloc (.cells (l.map Value.string).toArray e)) w.heap.size 0 l:=by
 intro i a;rw[World.cell?_alloc_at _ _ _ _ rfl];simp[Bl,a]
def mU(w:Wd):Calls prog 91 #[Bn 1] w λe w'=>(∃cap,e=.returned (Kx w.heap.size 0 11 cap))/\w.heap.size<w'.heap.size/\Gy w' w.heap.size 0 zI/\Bw w w':=by
 go_in;go_wp2;go_ret;exact⟨⟨_,rfl⟩,by simp,Gy.new w zI _,J _ _⟩
def tB(w:Wd):Calls prog 91 #[Bn 3] w λe w'=>(∃cap,e=.returned (Kx w.heap.size 0 7 cap))/\w.heap.size<w'.heap.size/\Gy w' w.heap.size 0 Uh/\Bw w w':=by
 go_in;go_wp2;go_ret;exact⟨⟨_,rfl⟩,by simp,Gy.new w Uh _,J _ _⟩
def FY(w:Wd):CE 91 #[Bn 0] w Ls:=by
 delta CE;go_in;go_wp2;go_ret;exact⟨rfl,rfl⟩
