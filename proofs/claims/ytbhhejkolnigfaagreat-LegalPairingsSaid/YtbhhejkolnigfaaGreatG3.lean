/- a part of the proof -/
import Derived.StillTailTactics
import Derived.Deep.OwnRows
import Derived.Laws.OwnMore
import Derived.Maps.Range
import Derived.Lib.Mul64
import Derived.Laws.Bits64b
import Derived.Test.YtbhhejkolnigfaaGreatG2
set_option linter.unusedVariables false
set_option linter.unusedSimpArgs false
set_option maxRecDepth 100000
set_option maxHeartbeats 51200000
namespace Go.Proofs.YtbhhejkolnigfaaGreat
open Go.RowKit Go.Sort Go.Proofs.Tryz
def dNum:List (List UInt8):= [[108,101,103,115], [104,101,97,100,115], [116,121,112,101,115]]
def dDur:List (List UInt8):= [[98,108,111,99,107], [115,112,97,110], [110,105,103,104,116], [108,111,110,103,101,115,116], [115,104,111,114,116,101,115,116], [115,104,105,102,116]]
def dClk:List (List UInt8):= [[115,116,97,114,116], [101,110,100]]
def pNum:List (List UInt8):= [[100,117,116,105,101,115], [108,101,103,115], [104,101,97,100,115], [100,97,121,115]]
def pDur:List (List UInt8):= [[98,108,111,99,107], [115,112,97,110], [99,114,101,100,105,116]]
def zfm(s:ByteArray):Int:=if zN dNum s=true then 1 else if zN dDur s=true then 2 else if zN dClk s=true then 3 else 0
def zjv(s:ByteArray):Int:=if zN pNum s=true then 1 else if zN pDur s=true then 2 else 0
def befW:ByteArray:=⟨#[98,101,102,111,114,101,46]⟩
def aftW:ByteArray:=⟨#[97,102,116,101,114,46]⟩
def preB(s p:ByteArray):Bool:=decide (p.size<=s.size)&&((s.extract 0 p.size).toList==p.toList)
def zcX(s:ByteArray):Int:=if(s.toList== [114,101,115,116])=true then 2 else if(s.toList== [110,105,103,104,116,115])=true then 1 else if(s.toList== [104,111,109,101])=true then 4
 else if preB s befW=true then zfm (s.extract 7 s.size) else if preB s aftW=true then zfm (s.extract 6 s.size) else 0
def zad(k:Int)(s:ByteArray):Int:=if(k==1)=true then zfm s else if(k==2)=true then zcX s else if(k==3)=true then zjv s else 0
theorem zdD(s:ByteArray)(w:World):Calls prog 157 #[.string s] w λe w'=>e=.returned (zfm s)/\w=w':=by
 go_enter func157,ntmps157
 go_wp2_with fail
 all_goals (go_ret;exact⟨ze (by first|(simp only[zfm,zN,dNum,dDur,dClk,List.any_cons,List.any_nil, *];rfl)|simp_all),rfl⟩)
theorem zev(s:ByteArray)(w:World):Calls prog 159 #[.string s] w λe w'=>e=.returned (zjv s)/\w=w':=by
 go_enter func159,ntmps159
 go_wp2_with fail
 all_goals (go_ret;exact⟨ze (by first|(simp only[zjv,zN,pNum,pDur,List.any_cons,List.any_nil, *];rfl)|simp_all),rfl⟩)
theorem zfL(s p:ByteArray)(w:World):Calls prog 220 #[.string s,.string p] w λe w'=>e=.returned (.bool (preB s p))/\w=w':=by
 by_cases h:p.size<=s.size
 . have a:=I (show preB s p=((s.extract 0 p.size).toList==p.toList) by simp[preB,h]);go_enter func220,ntmps220
   go_wp2_with fail
   all_goals (go_ret;exact⟨zz a.1.symm,rfl⟩)
 have a:=I (show preB s p=false by simp[preB,h]);go_enter func220,ntmps220
 go_wp2_with fail
 all_goals (go_ret;exact⟨zz a.1.symm,rfl⟩)
theorem zov(s p:ByteArray)(w:World)(b:s.size<=140737488355328)(h:preB s p=true):Calls prog 213 #[.string s,.string p] w λe a=>e=.returned (.tuple #[.string (s.extract p.size s.size),.bool true])/\w=a:=by
 have c:p.size<=s.size:=by simp[preB]at h;exact h.1
 go_enter func213,ntmps213
 go_wp2_with (go_at_call 220;refine cb (zfL _ _ _) ?_)
 go_ret2;exact⟨rfl,rfl⟩
theorem zqH(s p:ByteArray)(w:World)(h:preB s p=false):Calls prog 213 #[.string s,.string p] w λe a=>e=.returned (.tuple #[.string s,.bool false])/\w=a:=by
 go_enter func213,ntmps213
 go_wp2_with (go_at_call 220;refine cb (zfL _ _ _) ?_)
 go_ret2;exact⟨rfl,rfl⟩
theorem zhR(s p:ByteArray)(w:World)(b:s.size<=140737488355328)(h:preB s p=true):Calls prog 194 #[.string s,.string p] w λe a=>e=.returned (.tuple #[.string (s.extract p.size s.size),.bool true])/\w=a:=by
 have c:p.size<=s.size:=by simp[preB]at h;exact h.1
 go_enter func194,ntmps194
 go_wp2_with fail;refine cb (zov _ _ _ b h) ?_;go_wp2_with fail;go_ret2;exact⟨rfl,rfl⟩
theorem zgd(s p:ByteArray)(w:World)(h:preB s p=false):Calls prog 194 #[.string s,.string p] w λe a=>e=.returned (.tuple #[.string s,.bool false])/\w=a:=by
 go_enter func194,ntmps194
 go_wp2_with fail;refine cb (zqH _ _ _ h) ?_;go_wp2_with fail;go_ret2;exact⟨rfl,rfl⟩
theorem zgq(s:ByteArray)(w:World)(i:s.size<=140737488355328):Calls prog 158 #[.string s] w λe b=>e=.returned (zcX s)/\w=b:=by
 cases c:(s.toList== [114,101,115,116]);rotate_left
 . have a:=I (show zcX s=2 by simp only[zcX,c];rfl);go_enter func158,ntmps158
   go_wp2_with fail;go_ret;exact⟨ze a.1.symm,rfl⟩
 cases f:(s.toList== [110,105,103,104,116,115]);rotate_left
 . have a:=I (show zcX s=1 by simp only[zcX,c,f];rfl);go_enter func158,ntmps158
   go_wp2_with fail;go_ret;exact⟨ze a.1.symm,rfl⟩
 cases g:(s.toList== [104,111,109,101]);rotate_left
 . have a:=I (show zcX s=4 by simp only[zcX,c,f,g];rfl);go_enter func158,ntmps158
   go_wp2_with fail;go_ret;exact⟨ze a.1.symm,rfl⟩
 cases d:preB s befW
 . cases h:preB s aftW
   . have a:=I (show zcX s=0 by simp only[zcX,c,f,g,d,h];rfl);go_enter func158,ntmps158
     go_wp2_with fail;refine cb (zgd _ _ _ d) ?_;go_wp2_with fail;refine cb (zgd _ _ _ h) ?_;go_wp2_with fail;go_ret;exact⟨ze a.1.symm,rfl⟩
   have a:=I (show zcX s=zfm (s.extract 6 s.size) by simp only[zcX,c,f,g,d,h];rfl);go_enter func158,ntmps158
   go_wp2_with fail;refine cb (zgd _ _ _ d) ?_;go_wp2_with fail;refine cb (zhR _ _ _ i h) ?_;go_wp2_with fail;refine cb (zdD _ _) ?_;go_wp2_with fail;go_ret;exact⟨ze a.1.symm,rfl⟩
 have a:=I (show zcX s=zfm (s.extract 7 s.size) by simp only[zcX,c,f,g,d];rfl);go_enter func158,ntmps158
 go_wp2_with fail;refine cb (zhR _ _ _ i d) ?_;go_wp2_with fail;refine cb (zdD _ _) ?_;go_wp2_with fail;go_ret;exact⟨ze a.1.symm,rfl⟩
def zh5(k:Int):Int:=if(k==0)=true then 6 else 0
theorem zd1(k:Int)(s:ByteArray)(w:World)(i:s.size<=140737488355328):Calls prog 105 #[k,.string s] w λe c=>e=.returned (.tuple #[(zad k s),(zh5 (zad k s))])/\w=c:=by
 by_cases d:k=1
 . subst d;have a:=I (show zad 1 s=zfm s from rfl);cases h:(zfm s==0)
   . have b:=I (show zh5 (zfm s)=0 by simp only[zh5,h];rfl);go_enter func105,ntmps105
     go_wp2_with fail;refine cb (zdD _ _) ?_;go_wp2_with fail;go_ret2;exact⟨zJ a.1.symm (by rw[a.1,b.1]),rfl⟩
   have b:=I (show zfm s=0 by simpa using h);go_enter func105,ntmps105
   go_wp2_with fail;refine cb (zdD _ _) ?_;go_wp2_with fail;go_ret2;exact⟨zJ (by rw[a.1,b.1]) (by rw[a.1,b.1];rfl),rfl⟩
 by_cases f:k=2
 . subst f;have a:=I (show zad 2 s=zcX s from rfl);cases h:(zcX s==0)
   . have b:=I (show zh5 (zcX s)=0 by simp only[zh5,h];rfl);go_enter func105,ntmps105
     go_wp2_with fail;refine cb (zgq _ _ i) ?_;go_wp2_with fail;go_ret2;exact⟨zJ a.1.symm (by rw[a.1,b.1]),rfl⟩
   have b:=I (show zcX s=0 by simpa using h);go_enter func105,ntmps105
   go_wp2_with fail;refine cb (zgq _ _ i) ?_;go_wp2_with fail;go_ret2;exact⟨zJ (by rw[a.1,b.1]) (by rw[a.1,b.1];rfl),rfl⟩
 by_cases g:k=3
 . subst g;have a:=I (show zad 3 s=zjv s from rfl);cases h:(zjv s==0)
   . have b:=I (show zh5 (zjv s)=0 by simp only[zh5,h];rfl);go_enter func105,ntmps105
     go_wp2_with fail;refine cb (zev _ _) ?_;go_wp2_with fail;go_ret2;exact⟨zJ a.1.symm (by rw[a.1,b.1]),rfl⟩
   have b:=I (show zjv s=0 by simpa using h);go_enter func105,ntmps105
   go_wp2_with fail;refine cb (zev _ _) ?_;go_wp2_with fail;go_ret2;exact⟨zJ (by rw[a.1,b.1]) (by rw[a.1,b.1];rfl),rfl⟩
 have j:(k==1)=false:=by simpa using d
 have l:(k==2)=false:=by simpa using f
 have m:(k==3)=false:=by simpa using g
 have a:=I (show zad k s=0 by simp only[zad,j,l,m];rfl);clear d f g;go_enter func105,ntmps105
 go_wp2_with fail;go_ret2;exact⟨zJ (by rw[a.1]) (by rw[a.1];rfl),rfl⟩
def iAt(l:List Int)(k:Nat):Int:=l.getD k 0
theorem zhG(l:List Int)(k:Nat)(h:k<l.length):l.drop k=iAt l k::l.drop (k+1):=by
 rw[iAt,List.drop_eq_getElem_cons h,zt0,zt1 h];rfl
def zW(w:World)(a:zua)(l:List Int):Prop:=l= []\/∃b off,a=some ⟨b,off,none⟩/\b<w.heap.size/\∀i,i<l.length->w.cell? ⟨b,off+i,none⟩=some (.int .i64 (iAt l i))
theorem zW.below{w w':World}{a:zua}{l:List Int}(h:zW w a l)(d:Bw w w'):zW w' a l:=by
 rcases h with h|⟨b,c,f,e,g⟩
 . exact .inl h
 exact .inr ⟨b,c,f,ztU e d.size,λi hi=>(d.cell (p:=⟨b,c+i,none⟩) e).trans (g i hi)⟩
theorem zW.cells{w:World}{a:zua}{l:List Int}(h:zW w a l)(c:0<l.length):∃b off,a=some ⟨b,off,none⟩/\b<w.heap.size/\∀i,i<l.length->w.cell? ⟨b,off+i,none⟩=some (.int .i64 (iAt l i)):=by
 rcases h with rfl|h
 . simp at c
 exact h
def allB:List Int->Int->Bool
 |[],_=>true
 |x::l,k=>(x==k)&&allB l k
def amtB(k:Int):Bool:=(k==1) || (k==2)
def zde(o a b:Int):Int:=if((a==1)&&(b==1))=true then 1 else if((a==2)&&(b==1))=true then 2 else if((o==10)&&(a==1)&&(b==2))=true then 2 else if((o==11)&&(a==2)&&(b==2))=true then 1 else 0
def cmpB(o:Int)(t:List Int):Bool:=if(o==15)=true then allB t 3 else if(o==16)=true then amtB (iAt t 0)&&(iAt t 0==iAt t 1) else if(o==17)=true then amtB (iAt t 0)&&(iAt t 0==iAt t 1) else if(o==18)=true then iAt t 0==iAt t 1 else allB t 4
def resK(o:Int)(t:List Int):Int:=
 if(o==1)=true then 1 else if(o==2)=true then 2 else if(o==3)=true then 3 else if(o==4)=true then 4 else if(o==5)=true then 4
 else if((o==7) || (o==8) || (o==9) || (o==12) || (o==13))=true then(if(amtB (iAt t 0)&&allB t (iAt t 0))=true then iAt t 0 else 0)
 else if((o==10) || (o==11))=true then zde o (iAt t 0) (iAt t 1) else if(o==14)=true then(if((iAt t 0==4)&&(iAt t 1==iAt t 2))=true then iAt t 1 else 0)
 else if cmpB o t=true then 4 else 0
theorem zd3(k:Int)(w:World):Calls prog 221 #[k] w λe w'=>e=.returned (.bool (amtB k))/\w=w':=by
 cases h:(k==1)
 all_goals
  go_enter func221,ntmps221
  go_wp2_with fail
  all_goals (go_ret;exact⟨zz (by simp[amtB,h]),rfl⟩)
theorem zht(o a b:Int)(w:World):Calls prog 223 #[o,a,b] w λe w'=>e=.returned (zde o a b)/\w=w':=by
 cases c:(a==1) <;> cases d:(a==2) <;> cases f:(b==1) <;> cases g:(b==2) <;> cases h:(o==10) <;> cases i:(o==11)
 all_goals
  have j:=I (show zde o a b=_ by simp only[zde,c,d,f,g,h,i,Bool.true_and,Bool.and_true,Bool.false_and,Bool.and_false,if_true,if_false,zt4];rfl);go_enter func223,ntmps223
  go_wp2_with fail
  all_goals (go_ret;exact⟨ze j.1.symm,rfl⟩)
theorem zkc(l:List Int)(k:Int)(a:zua)(cap:Nat)(w:World)(r:l.length<=140737488355328)(n:zW w a l):Calls prog 222 #[.slice a l.length cap,k] w λe w'=>e=.returned (.bool (allB l k))/\w=w':=by
 have o:=I n;clear n;go_enter func222,ntmps222
 go_wp2_with fail;go_loop [9] (λi=>∃j:Nat,j<=l.length/\i=.int .i64 j/\ztR (allB l k=allB (l.drop j) k)) (λi=>l.length-(intOf i).toNat)
 case atStart=>exact⟨0,ztX _,rfl,I rfl⟩
 obtain⟨j,s,rfl,c⟩:=hrel;by_cases d:j<l.length
 . obtain⟨b,p,rfl,t,f⟩:=o.1.cells (by omega);have u:=f j d;clear f o;have g:=I (c.1.trans (by rw[zhG l j d,allB]));cases m:(iAt l j==k)
   . have q:(iAt l j !=k)=true:=by simpa using m
     have h:=I (g.1.trans (by rw[m,Bool.false_and]));go_wp2_with fail;go_ret;exact⟨zz h.1.symm,rfl⟩
   have q:(iAt l j !=k)=false:=by simpa using m
   have h:=I (g.1.trans (by rw[m,Bool.true_and]));go_wp2_with fail;go_round
   case rel=>exact⟨j+1,by omega,by go_num,h⟩
   case measure=>simp[intOf];omega
 obtain rfl:j=l.length:=by omega
 have h:=I (show allB l k=true from c.1.trans (by rw[zt6];rfl));go_wp2_with fail;go_ret;exact⟨zz h.1.symm,rfl⟩
theorem ze3(o:Int)(l:List Int)(a:zua)(cap:Nat)(w:World)(p:l.length<=140737488355328)(q:15<=o)(k:zL o l.length=true)(m:zW w a l):Calls prog 224 #[o,.slice a l.length cap] w λe r=>e=.returned (.bool (cmpB o l))/\Bw w r:=by
 by_cases c:o=15
 . subst c;clear q k;go_enter func224,ntmps224
   go_wp2_with fail;refine cb (zkc l 3 a cap w p m) ?_;go_wp2_with fail;go_ret;exact⟨rfl,ztT _ _⟩
 by_cases d:o=16\/o=17\/o=18
 . have s:l.length=2:=by rcases d with rfl|rfl|rfl <;> simp[zL]at k <;> omega
   obtain⟨b,t,rfl,A,f⟩:=m.cells (by omega);have u:=f 0 (by omega);have B:=f 1 (by omega);rw[Nat.add_zero]at u;clear f m k q c;rw[s];clear s p;rcases d with rfl|rfl|rfl
   . cases g:amtB (iAt l 0)
     all_goals
      have i:=I (show cmpB 16 l=_ by simp only[cmpB,g,Bool.true_and,Bool.false_and];rfl);have j:=I (λn=>Calls.quiet_of_same (w:=w) (n:=n) ((zd3 (iAt l 0) (w.drewN n)).mono λ_ _ h=>⟨h.1,h.2.symm⟩));rw[g]at j;go_enter func224,ntmps224
      go_wp2_with fail;go_quiet ((go_at_call 221;exact j.1 _))
      go_wp2_with fail;go_ret;exact⟨zz i.1.symm,below_drewN (ztT _ _) _⟩
   . cases g:amtB (iAt l 0)
     all_goals
      have i:=I (show cmpB 17 l=_ by simp only[cmpB,g,Bool.true_and,Bool.false_and];rfl);have j:=I (λn=>Calls.quiet_of_same (w:=w) (n:=n) ((zd3 (iAt l 0) (w.drewN n)).mono λ_ _ h=>⟨h.1,h.2.symm⟩));rw[g]at j;go_enter func224,ntmps224
      go_wp2_with fail;go_quiet ((go_at_call 221;exact j.1 _))
      go_wp2_with fail;go_ret;exact⟨zz i.1.symm,below_drewN (ztT _ _) _⟩
   go_enter func224,ntmps224
   go_wp2_with fail;go_quiet (fail)
   go_wp2_with fail;go_ret;exact⟨rfl,below_drewN (ztT _ _) _⟩
 have v:(o==15)=false:=by simpa using c
 have x:(o==16)=false:=by simp;omega
 have y:(o==17)=false:=by simp;omega
 have z:(o==18)=false:=by simp;omega
 have i:=I (show cmpB o l=allB l 4 by simp only[cmpB,v,x,y,z];rfl);clear c d q k;go_enter func224,ntmps224
 go_wp2_with fail;refine cb (zkc l 4 a cap w p m) ?_;go_wp2_with fail;go_ret;exact⟨zz i.1.symm,ztT _ _⟩
theorem znS(o:Int)(l:List Int)(a:zua)(cap:Nat)(w:World)(r:l.length<=140737488355328)(t:1<=o)(f:o<=22)(g:o≠6)(k:zL o l.length=true)(m:zW w a l):Calls prog 214 #[o,.slice a l.length cap] w λe p=>e=.returned (resK o l)/\Bw w p:=by
 by_cases u:o=1\/o=2\/o=3\/o=4\/o=5
 . clear k m t f g;rcases u with rfl|rfl|rfl|rfl|rfl
   all_goals
    go_enter func214,ntmps214
    go_wp2_with fail;go_ret;exact⟨rfl,ztT _ _⟩
 by_cases q:o=7\/o=8\/o=9\/o=12\/o=13
 . have D:0<l.length:=by rcases q with rfl|rfl|rfl|rfl|rfl <;> simp[zL]at k <;> omega
   have E:=I m;obtain⟨b,v,rfl,s,c⟩:=m.cells D;have x:=c 0 D;rw[Nat.add_zero]at x;have y:resK o l=if(amtB (iAt l 0)&&allB l (iAt l 0))=true then iAt l 0 else 0:=by rcases q with rfl|rfl|rfl|rfl|rfl <;> rfl
   have i:=I y;clear c k t f g u y;cases j:amtB (iAt l 0)
   . have d:=I (i.1.trans (by rw[j];rfl:_=(0:Int)));rcases q with rfl|rfl|rfl|rfl|rfl
     all_goals
      go_enter func214,ntmps214
      go_wp2_with fail;refine cb (zd3 _ _) ?_;go_wp2_with fail;go_ret;exact⟨ze d.1.symm,ztT _ _⟩
   cases z:allB l (iAt l 0)
   . have d:=I (i.1.trans (by rw[j,z];rfl:_=(0:Int)));rcases q with rfl|rfl|rfl|rfl|rfl
     all_goals
      go_enter func214,ntmps214
      go_wp2_with fail;refine cb (zd3 _ _) ?_;go_wp2_with fail;refine cb (zkc l _ _ cap _ r E.1) ?_;go_wp2_with fail;go_ret;exact⟨ze d.1.symm,ztT _ _⟩
   have d:=I (i.1.trans (by rw[j,z];rfl:_=iAt l 0));rcases q with rfl|rfl|rfl|rfl|rfl
   all_goals
    go_enter func214,ntmps214
    go_wp2_with fail;refine cb (zd3 _ _) ?_;go_wp2_with fail;refine cb (zkc l _ _ cap _ r E.1) ?_;go_wp2_with fail;go_ret;exact⟨ze d.1.symm,ztT _ _⟩
 by_cases B:o=10\/o=11
 . have F:l.length=2:=by rcases B with rfl|rfl <;> simp[zL]at k <;> omega
   obtain⟨b,v,rfl,s,c⟩:=m.cells (by omega);have x:=c 0 (by omega);have L:=c 1 (by omega);rw[Nat.add_zero]at x;clear c m k t f g u q;rw[F];clear F r;rcases B with rfl|rfl
   . have C:=I (λn=>Calls.quiet_of_same (w:=w) (n:=n) ((zht 10 (iAt l 0) (iAt l 1) (w.drewN n)).mono λ_ _ h=>⟨h.1,h.2.symm⟩));go_enter func214,ntmps214
     go_wp2_with fail;go_quiet ((go_at_call 223;exact C.1 _))
     go_wp2_with fail;go_ret;exact⟨rfl,below_drewN (ztT _ _) _⟩
   have C:=I (λn=>Calls.quiet_of_same (w:=w) (n:=n) ((zht 11 (iAt l 0) (iAt l 1) (w.drewN n)).mono λ_ _ h=>⟨h.1,h.2.symm⟩));go_enter func214,ntmps214
   go_wp2_with fail;go_quiet ((go_at_call 223;exact C.1 _))
   go_wp2_with fail;go_ret;exact⟨rfl,below_drewN (ztT _ _) _⟩
 by_cases G:o=14
 . subst G;have H:l.length=3:=by simp[zL]at k;omega
   obtain⟨b,v,rfl,s,c⟩:=m.cells (by omega);have x:=c 0 (by omega);have L:=c 1 (by omega);have S:=c 2 (by omega);rw[Nat.add_zero]at x;clear c m k t f g u q B;rw[H];clear H r;have i:=I (show resK 14 l=if((iAt l 0==4)&&(iAt l 1==iAt l 2))=true then iAt l 1 else 0 from rfl);cases j:(iAt l 0==4)
   . have d:=I (i.1.trans (by rw[j];rfl:_=(0:Int)));go_enter func214,ntmps214
     go_wp2_with fail;go_quiet (fail)
     go_wp2_with fail;go_ret;exact⟨ze d.1.symm,below_drewN (ztT _ _) _⟩
   cases z:(iAt l 1==iAt l 2)
   . have d:=I (i.1.trans (by rw[j,z];rfl:_=(0:Int)));go_enter func214,ntmps214
     go_wp2_with fail;go_quiet (fail)
     go_wp2_with fail;go_ret;exact⟨ze d.1.symm,below_drewN (ztT _ _) _⟩
   have d:=I (i.1.trans (by rw[j,z];rfl:_=iAt l 1));go_enter func214,ntmps214
   go_wp2_with fail;go_quiet (fail)
   go_wp2_with fail;go_ret;exact⟨ze d.1.symm,below_drewN (ztT _ _) _⟩
 have A:15<=o:=by omega
 have y:resK o l=if cmpB o l=true then 4 else 0:=by
  obtain rfl|rfl|rfl|rfl|rfl|rfl|rfl|rfl:o=15\/o=16\/o=17\/o=18\/o=19\/o=20\/o=21\/o=22:=by omega
  all_goals rfl
 have i:=I y;have K:=I k;have T:(o==1)=false:=by simp;omega
 have U:(o==2)=false:=by simp;omega
 have V:(o==3)=false:=by simp;omega
 have W:(o==4)=false:=by simp;omega
 have X:(o==5)=false:=by simp;omega
 have Y:(o==7)=false:=by simp;omega
 have Z:(o==8)=false:=by simp;omega
 have n9:(o==9)=false:=by simp;omega
 have M:(o==12)=false:=by simp;omega
 have N:(o==13)=false:=by simp;omega
 have P:(o==10)=false:=by simp;omega
 have Q:(o==11)=false:=by simp;omega
 have R:(o==14)=false:=by simp;omega
 clear y k u q B G t f g;cases j:cmpB o l
 . have d:=I (i.1.trans (by rw[j];rfl:_=(0:Int)));go_enter func214,ntmps214
   go_wp2_with fail;refine ca (ze3 o l a cap w r A K.1 m) λp s=>?_;go_wp2_with fail;go_ret;exact⟨ze d.1.symm,s⟩
 have d:=I (i.1.trans (by rw[j];rfl:_=(4:Int)));go_enter func214,ntmps214
 go_wp2_with fail;refine ca (ze3 o l a cap w r A K.1 m) λp s=>?_;go_wp2_with fail;go_ret;exact⟨ze d.1.symm,s⟩
mutual
def tyE(lk:ByteArray->Option (Int×Int))(sc:Int):zH->Int×Int
 | .mk o _ s l=>if o=6 then(if zad sc s≠0 then(zad sc s,0) else(lk s).getD (0,6))
  else if(tyL lk sc l).1≠0 then(0,(tyL lk sc l).1) else if resK o (tyL lk sc l).2≠0 then(resK o (tyL lk sc l).2,0) else(0,9)
def tyL(lk:ByteArray->Option (Int×Int))(sc:Int):List zH->Int×List Int
 |[]=>(0, [])
 |x::l=>if(tyE lk sc x).2≠0 then((tyE lk sc x).2, []) else((tyL lk sc l).1,(tyE lk sc x).1::(tyL lk sc l).2)
end
theorem zsB{b:ByteArray->Option (Int×Int)}(h:∀s r,b s=some r->r.2≠0->r.1=0)(c:Int)(x:zH)(a:(tyE b c x).2≠0):(tyE b c x).1=0:=by
 obtain⟨o,n,s,l⟩:=x;rw[tyE]at a ⊢;by_cases e:o=6
 . rw[if_pos e]at a ⊢;by_cases d:zad c s≠0
   . rw[if_pos d]at a;exact absurd rfl a
   rw[if_neg d]at a ⊢;cases f:b s with
   |none=>rfl
   |some r=>rw[f]at a;exact h s r f a
 rw[if_neg e]at a ⊢;by_cases d:(tyL b c l).1≠0
 . rw[if_pos d]
 rw[if_neg d]at a ⊢;by_cases g:resK o (tyL b c l).2≠0
 . rw[if_pos g]at a;exact absurd rfl a
 rw[if_neg g]
theorem zsh{a:ByteArray->Option (Int×Int)}{b:Int}{l:List zH}{k:Nat}{c:List Int}(d:k<l.length)(h:tyL a b l=((tyL a b (l.drop k)).1,c++(tyL a b (l.drop k)).2))(e:(tyE a b (eAt l k)).2=0):
 tyL a b l=((tyL a b (l.drop (k+1))).1,(c++ [(tyE a b (eAt l k)).1])++(tyL a b (l.drop (k+1))).2):=by
 rw[h,zgz l k d,tyL,if_neg (by simp[e])];simp
theorem zo5{a:ByteArray->Option (Int×Int)}{b:Int}{l:List zH}{k:Nat}{c:List Int}(d:k<l.length)(h:tyL a b l=((tyL a b (l.drop k)).1,c++(tyL a b (l.drop k)).2))(e:(tyE a b (eAt l k)).2≠0):
 (tyL a b l).1=(tyE a b (eAt l k)).2:=by
 rw[h,zgz l k d,tyL,if_pos e]
def fi(l:List zB)(s:ByteArray):Option Nat:=l.findIdx? λx=>decide (x.name=s)
theorem zs6{l:List zB}{s:ByteArray}{i:Nat}(h:fi l s=some i):i<l.length:=by
 unfold fi at h
 exact(List.findIdx?_eq_some_iff_getElem.1 h).1
theorem zqx{l:List zB}{k:Nat}(a:k<l.length)(s:ByteArray):fi (l.take (k+1)) s=match fi (l.take k) s with|some i=>some i|none=>if(csAt l k).name=s then some k else none:=by
 have e:l.take (k+1)=l.take k++ [csAt l k]:=by
  rw[List.take_succ_eq_append_getElem a,csAt,zt0,zt1 a];rfl
 unfold fi
 rw[e,List.findIdx?_append];cases c:(l.take k).findIdx? (λx=>decide (x.name=s)) with
 |some i=>simp
 |none=>
  have:(l.take k).length=k:=by simp;omega
  by_cases b:(csAt l k).name=s <;> simp[b,this]
def lkUp(l:List zB)(T:List (Int×Int))(n:Nat)(s:ByteArray):Option (Int×Int):=match fi l s with
 |some i=>if i<n then some (T.getD i (0,0)) else none
 |none=>none
def zgB(l:List zB)(T:List (Int×Int))(i:Nat):Int×Int:=if valE (csAt l i).ex≠0 then(0,valE (csAt l i).ex) else tyE (lkUp l T i) 0 (csAt l i).ex
def tabC(l:List zB):Nat->List (Int×Int)
 |0=> []
 |i+1=>tabC l i++ [zgB l (tabC l i) i]
def ctyp(l:List zB)(i:Nat):Int×Int:=zgB l (tabC l i) i
theorem zd5(l:List zB)(n:Nat):(tabC l n).length=n:=by
 induction n with
 |zero=>rfl
 |succ n ih=>simp[tabC,ih]
theorem zrm(l:List zB)(n i:Nat)(h:i<n):(tabC l n).getD i (0,0)=ctyp l i:=by
 induction n with
 |zero=>omega
 |succ n ih=>
  rw[tabC,zt0];by_cases e:i=n
  . subst e;rw[zt9 (by rw[zd5];exact ztY _),zd5];simp[ctyp]
  rw[zt8 (by rw[zd5];omega),<-zt0];exact ih (by omega)
def lkC(l:List zB)(n:Nat)(s:ByteArray):Option (Int×Int):=match fi l s with
 |some i=>if i<n then some (ctyp l i) else none
 |none=>none
theorem zqi(l:List zB)(n:Nat):lkUp l (tabC l n) n=lkC l n:=by
 funext s
 unfold lkUp lkC
 cases fi l s with
 |none=>rfl
 |some i=>
  by_cases h:i<n
  . simp only[if_pos h,zrm l n i h]
  simp only[if_neg h]
theorem zge(l:List zB)(i:Nat):ctyp l i=if valE (csAt l i).ex≠0 then(0,valE (csAt l i).ex) else tyE (lkC l i) 0 (csAt l i).ex:=by
 rw[ctyp,zgB,zqi]
theorem zrP(l:List zB)(i:Nat):(ctyp l i).2≠0->(ctyp l i).1=0:=by
 induction i using Nat.strongRecOn with
 |_ i ih=>
  rw[zge];by_cases h:valE (csAt l i).ex≠0
  . rw[if_pos h];intro _;rfl
  rw[if_neg h];refine zsB (λs r hr=>?_) 0 _;unfold lkC at hr
  cases b:fi l s with
  |none=>rw[b]at hr;cases hr
  |some j=>
   rw[b]at hr;by_cases a:j<i
   . simp only[if_pos a,Option.some.injEq]at hr;subst hr;exact ih j a
   simp only[if_neg a]at hr;cases hr
theorem zb8(M:List (Value×Value))(s t:ByteArray)(v:Value):mget (mput M (.string s) v) (.string t)=if s=t then some v else mget M (.string t):=by
 induction M with
 |nil=>
  by_cases h:s=t
  . subst h;simp[mput,mget,zb1]
  simp[mput,mget,zb1,h];exact λe=>h e.symm
 |cons p M ih=>
  rw[mput];by_cases a:zb1 (.string s) p.1=true
  . rw[if_pos a];have:p.1=.string s:=by
     cases b:p.1 <;> rw[b]at a <;> simp[zb1]at a
     rw[a]
    by_cases h:s=t
    . subst h;simp[mget,zb1]
    have c:¬ t=s:=λe=>h e.symm
    simp[mget,zb1,h,c,this]
  rw[if_neg a];by_cases h:s=t
  . subst h;have:mget (p::mput M (.string s) v) (.string s)=mget (mput M (.string s) v) (.string s):=by simp[mget,a]
    rw[this,ih];simp
  rw[if_neg h]at ih ⊢;unfold mget at ih ⊢
  simp only[List.find?_cons];cases zb1 (.string t) p.1
  . exact ih
  rfl
theorem zfJ(M:List (Value×Value))(s t:Int)(v:Value)(f:∀p∈M,zaH (.int .i64) p.1):mget (mput M (.int .i64 s) v) (.int .i64 t)=if s=t then some v else mget M (.int .i64 t):=by
 induction M with
 |nil=>
  by_cases h:s=t
  . subst h;simp[mput,mget,zb1]
  simp[mput,mget,zb1,h];exact λe=>h e.symm
 |cons p M b=>
  have b:=b (λp d=>f p (by simp[d]));have a:=f p (by simp);rw[mput];by_cases c:zb1 (.int .i64 s) p.1=true
  . rw[if_pos c];have:p.1=.int .i64 s:=by
     cases d:p.1 <;> rw[d]at c a <;> simp[zb1,zaH]at c a
     rw[c,a]
    by_cases h:s=t
    . subst h;simp[mget,zb1]
    have g:¬ t=s:=λe=>h e.symm
    simp[mget,zb1,h,g,this]
  rw[if_neg c];by_cases h:s=t
  . subst h;have:mget (p::mput M (.int .i64 s) v) (.int .i64 s)=mget (mput M (.int .i64 s) v) (.int .i64 s):=by simp[mget,c]
    rw[this,b];simp
  rw[if_neg h]at b ⊢;unfold mget at b ⊢
  simp only[List.find?_cons];cases zb1 (.int .i64 t) p.1
  . exact b
  rfl
def zdM(w:World)(b:Nat)(l:List zB):Prop:=∃M,zaT prog w b .string M/\∀s,mget M (.string s)=(fi l s).map λi=>Value.int .i64 i
theorem zdM.below{w w':World}{b:Nat}{l:List zB}(h:zdM w b l)(a:Bw w w'):zdM w' b l:=by
 obtain⟨M,c,d⟩:=h;exact⟨M,c.below a,d⟩
theorem zdM.grown{w w':World}{b:Nat}{l:List zB}{a:Option Nat}(h:zdM w b l)(d:w.grownBy w' a)(c:some b≠a):zdM w' b l:=by
 obtain⟨M,e,f⟩:=h;exact⟨M,e.grown d c,f⟩
theorem zdM.lt{w:World}{b:Nat}{l:List zB}(h:zdM w b l):b<w.heap.size:=by
 obtain⟨M,a,c⟩:=h;exact a.lt
theorem zi4(w:World):(zeroValue 3).run prog w=.ok (.int .i64 0) w:=by kernel_rfl
def fiN(l:List zB)(s:ByteArray):Nat:=(fi l s).getD 0
def fiB(l:List zB)(s:ByteArray):Bool:=(fi l s).isSome
theorem zgW{w:World}{b:Nat}{l:List zB}(h:zdM w b l)(s:ByteArray):(Instr.lookup 181 (.map (some b)) (.string s) true).run prog w=.ok (.tuple #[(fiN l s),.bool (fiB l s)]) w:=by
 obtain⟨M,a,c⟩:=h;rw[zcW underlying181 underlying9 a (key:=.string s) trivial (zi4 _),c];unfold fiN fiB
 cases fi l s <;> rfl
theorem zpL{w:World}{b:Nat}{l:List zB}{k:Nat}(h:zdM w b (l.take k))(d:k<l.length)(f:fiB (l.take k) (csAt l k).name=false):
 ∃a,(Instr.mapUpdate 181 (.map (some b)) (.string (csAt l k).name) (.int .i64 k)).run prog w=.ok () a/\zdM a b (l.take (k+1))/\w.grownBy a (some b):=by
 obtain⟨M,g,j⟩:=h;obtain⟨a,m,n,o⟩:=zc8 underlying181 underlying9 g (key:=.string (csAt l k).name) (.int .i64 k) trivial;refine⟨a,m,⟨_,n,λs=>?_⟩,o⟩;rw[zb8,j,zqx d];have c:fi (l.take k) (csAt l k).name=none:=by simpa[fiB] using f
 by_cases e:(csAt l k).name=s
 . subst e;rw[if_pos rfl,c];simp
 rw[if_neg e];cases fi (l.take k) s with
 |none=>simp[e]
 |some i=>rfl
theorem znk{w:World}{b:Nat}{l:List zB}{k:Nat}(h:zdM w b (l.take k))(c:k<l.length)(a:fiB (l.take k) (csAt l k).name=true):zdM w b (l.take (k+1)):=by
 obtain⟨M,d,f⟩:=h;refine⟨M,d,λs=>?_⟩;rw[f,zqx c];cases g:fi (l.take k) s with
 |some i=>rfl
 |none=>
  have:¬ (csAt l k).name=s:=by
   intro e;rw[e]at a;simp[fiB,g]at a
  simp[this]
def zce(w:World)(b:Nat)(l:List zB):Prop:=∃M,zaT prog w b (.int .i64) M/\∀(i:Nat) v,mget M (.int .i64 i)=some v->v=.int .i64 (ctyp l i).1/\(ctyp l i).2=0
theorem zce.below{w w':World}{b:Nat}{l:List zB}(h:zce w b l)(a:Bw w w'):zce w' b l:=by
 obtain⟨M,c,d⟩:=h;exact⟨M,c.below a,d⟩
theorem zce.grown{w w':World}{b:Nat}{l:List zB}{a:Option Nat}(h:zce w b l)(d:w.grownBy w' a)(c:some b≠a):zce w' b l:=by
 obtain⟨M,e,f⟩:=h;exact⟨M,e.grown d c,f⟩
theorem zce.lt{w:World}{b:Nat}{l:List zB}(h:zce w b l):b<w.heap.size:=by
 obtain⟨M,a,c⟩:=h;exact a.lt
theorem zol{w:World}{b:Nat}{l:List zB}(h:zce w b l)(i:Nat):((Instr.lookup 182 (.map (some b)) (.int .i64 i) true).run prog w=.ok (.tuple #[.int .i64 (ctyp l i).1,.bool true]) w/\(ctyp l i).2=0)\/(Instr.lookup 182 (.map (some b)) (.int .i64 i) true).run prog w=.ok (.tuple #[.int .i64 0,.bool false]) w:=by
 obtain⟨M,c,d⟩:=h;have e:=zcW underlying182 underlying3 c (key:=.int .i64 i) rfl (zi4 _);cases a:mget M (.int .i64 i) with
 |none=>rw[a]at e;exact .inr e
 |some v=>
  rw[a]at e;obtain⟨rfl,f⟩:=d i v a;exact .inl ⟨e,f⟩
theorem zpK{w:World}{b:Nat}{l:List zB}(h:zce w b l)(i:Nat)(d:(ctyp l i).2=0):
 ∃a,(Instr.mapUpdate 182 (.map (some b)) (.int .i64 i) (.int .i64 (ctyp l i).1)).run prog w=.ok () a/\zce a b l/\w.grownBy a (some b):=by
 obtain⟨M,c,f⟩:=h;obtain⟨a,g,k,m⟩:=zc8 underlying182 underlying3 c (key:=.int .i64 i) (.int .i64 (ctyp l i).1) rfl;refine⟨a,g,⟨_,k,λj v hj=>?_⟩,m⟩;rw[zfJ M i j _ c.2]at hj;by_cases e:(i:Int)=j
 . rw[if_pos e]at hj;obtain rfl:i=j:=by omega
   exact⟨(Option.some.inj hj).symm,d⟩
 rw[if_neg e]at hj;exact f j v hj
structure zcQ(B:Nat)(w:World)(kp ib kb:Nat)(l:List zB)(a:zua)(cap:Nat):Prop where
 bp:B<=kp
 bi:B<=ib
 bk:B<=kb
 pk:kp≠kb
 ik:ib≠kb
 pi:kp≠ib
 box:w.heap[kp]?=some (.cells #[.slice a l.length cap,.map (some ib),.map (some kb)] 222 (0,0))
 idx:zdM w ib l
 known:zce w kb l
 consts:zbd B w a l
theorem zcQ.lt{B:Nat}{w:World}{b c d:Nat}{l:List zB}{a:zua}{cap:Nat}(h:zcQ B w b c d l a cap):b<w.heap.size/\c<w.heap.size/\d<w.heap.size:=⟨ztW h.box,h.idx.lt,h.known.lt⟩
theorem zcQ.below{B:Nat}{w w':World}{c d e:Nat}{l:List zB}{a:zua}{cap:Nat}(h:zcQ B w c d e l a cap)(b:Bw w w'):zcQ B w' c d e l a cap where
 bp:=h.bp
 bi:=h.bi
 bk:=h.bk
 pk:=h.pk
 ik:=h.ik
 pi:=h.pi
 box:=(b.block _ h.lt.1).trans h.box
 idx:=h.idx.below b
 known:=h.known.below b
 consts:=h.consts.keep (b.mono (ztV h.bp (Nat.le_of_lt h.lt.1))) (zbs.keep (b.mono (ztV h.bp (Nat.le_of_lt h.lt.1))))
theorem zcQ.grown{B:Nat}{w w':World}{d e b:Nat}{l:List zB}{a:zua}{cap:Nat}(h:zcQ B w d e b l a cap)(c:w.grownBy w' (some b))(f:zce w' b l):zcQ B w' d e b l a cap where
 bp:=h.bp
 bi:=h.bi
 bk:=h.bk
 pk:=h.pk
 ik:=h.ik
 pi:=h.pi
 box:=(c.block _ h.lt.1 (by simpa using h.pk)).trans h.box
 idx:=h.idx.grown c (by simpa using h.ik)
 known:=f
 consts:=by
  have:Below B w w':=(ztT B w).grown c (ztV h.bp (Nat.le_of_lt h.lt.1)) (λj hj=>by cases hj;exact h.bk);exact h.consts.keep this (zbs.keep this)
theorem zcQ.other{B:Nat}{w w':World}{d e f:Nat}{l:List zB}{a:zua}{cap:Nat}{b:Nat}(h:zcQ B w d e f l a cap)(c:w.grownBy w' (some b))(g:B<=b)(i:d≠b)(k:e≠b)(m:f≠b):zcQ B w' d e f l a cap where
 bp:=h.bp
 bi:=h.bi
 bk:=h.bk
 pk:=h.pk
 ik:=h.ik
 pi:=h.pi
 box:=(c.block _ h.lt.1 (by simpa using i)).trans h.box
 idx:=h.idx.grown c (by simpa using k)
 known:=h.known.grown c (by simpa using m)
 consts:=by
  have:Below B w w':=(ztT B w).grown c (ztV h.bp (Nat.le_of_lt h.lt.1)) (λj hj=>by cases hj;exact g);exact h.consts.keep this (zbs.keep this)
theorem zqb(w:World):(Instr.makeMap 181 none).run prog w=.ok (.map (some w.heap.size)) (w.alloc (.map #[] 0)):=by kernel_rfl
theorem zqc(w:World):(Instr.makeMap 182 none).run prog w=.ok (.map (some w.heap.size)) (w.alloc (.map #[] 0)):=by kernel_rfl
def NewChk(B:Nat)(w:World)(l:List zB)(a:zua)(cap:Nat)(e:Ending)(w':World):Prop:=∃kp ib kb,e=.returned (.pointer (some ⟨kp,0,none⟩))/\zcQ B w' kp ib kb l a cap/\w.heap.size<=kb/\Below w.heap.size w w'
theorem zim(l:List zB)(a:zua)(cap:Nat)(w:World)(B:Nat)(E:B<=w.heap.size)(K:zbd B w a l):
 Calls prog 104 #[.slice a l.length cap] w (NewChk B w l a cap):=by
 have hl:=K.1;have U:=I K;have L:=zqb;have M:=zqc;clear K;go_enter func104,ntmps104
 go_wp2_with fail;obtain⟨W,q⟩:∃W,W=((w.alloc (.map #[] 0)).alloc (.map #[] 0)).alloc (Obj.cells #[.slice a l.length cap,Value.map (some w.heap.size),Value.map (some (w.heap.size+1))] 222):=⟨_,rfl⟩;have N:=I (ztS (J w (.map #[] 0)) (ztS (J _ (.map #[] 0)) (J _ (Obj.cells #[.slice a l.length cap,Value.map (some w.heap.size),Value.map (some (w.heap.size+1))] 222))));have V:=I (show zdM W w.heap.size (l.take 0) from⟨[],by rw[q];exact((zaT.made prog w .string).alloc _).alloc _,λs=>by simp[mget,fi]⟩);have X:=I (show zce W (w.heap.size+1) l from⟨[],by rw[q];have:=(zaT.made prog (w.alloc (.map #[] 0)) (.int .i64)).alloc (Obj.cells #[.slice a l.length cap,Value.map (some w.heap.size),Value.map (some (w.heap.size+1))] 222);rwa [zr]at this,λi v hv=>by simp[mget]at hv⟩);have Y:=I (show W.heap[w.heap.size+2]?=some (.cells #[.slice a l.length cap,Value.map (some w.heap.size),Value.map (some (w.heap.size+1))] 222 (0,0)) by rw[q];have:=zh ((w.alloc (.map #[] 0)).alloc (.map #[] 0)) (Obj.cells #[.slice a l.length cap,Value.map (some w.heap.size),Value.map (some (w.heap.size+1))] 222);rwa [zr,zr]at this);rw[<-q]at N;simp only[<-q];clear q L M;go_loopw [15] (λi wr=>∃(k:Nat),k<=l.length/\i=.int .i64 k/\ztR (zdM wr w.heap.size (l.take k))/\ztR (zce wr (w.heap.size+1) l)/\ztR (wr.heap[w.heap.size+2]?=some (.cells #[.slice a l.length cap,Value.map (some w.heap.size),Value.map (some (w.heap.size+1))] 222 (0,0)))/\ztR (Bw w wr)) (λi _=>l.length-(intOf i).toNat)
 case atStart=>exact⟨0,ztX _,rfl,V,X,Y,N⟩
 clear V X Y N W;obtain⟨k,hk,rfl,P,Q,F,c⟩:=hrel;by_cases h:k<l.length
 . have u:=U.1;obtain⟨b,a0,rfl,hb,x⟩:=u.cells (by omega);obtain⟨c0,s1,r,d,⟨c1,c2,c3,c4⟩,y,j⟩:=(x k h).keep (c.1.mono E) b _ _ hb;have a1:b<wr.heap.size:=by have:=c.1.size;omega
   have a3:=ztW F.1;clear j x y u;have m:=I (P.1.below (J wr (oN (csAt l k) r d)));have z:=I (Q.1.below (J wr (oN (csAt l k) r d)));have o:=I (zd (o':=(oN (csAt l k) r d)) F.1);have A:=I (ztS c.1 (J wr (oN (csAt l k) r d)));have G:=I (zh wr (oN (csAt l k) r d));go_wp2_with fail;generalize hW1:wr.alloc (oN (csAt l k) r d)=g at*;have Z:g.cell? ⟨w.heap.size+2,1,none⟩=some (.map (some w.heap.size)):=zm o.1 rfl;have z2:g.cell? ⟨wr.heap.size,0,none⟩=some (.string (csAt l k).name):=zm G.1 rfl;have zs:=ztW G.1;have L1:=λn=>zgW (w:=g.drewN n) (m.1.below (below_drewN (ztT _ _) n)) (csAt l k).name
   clear hW1 P Q F c c0 c1 c2 c3 c4;go_quiet (fail)
   have C:=I (m.1.below (below_drewN (ztT _ _) nq));have D:=I (z.1.below (below_drewN (ztT _ _) nq));have f:=I (((below_drewN (ztT g.heap.size g) nq).block _ (by omega)).trans o.1);have q2:=I (((below_drewN (ztT g.heap.size g) nq).block _ zs).trans G.1);have p:=I (ztS A.1 (below_drewN (ztT _ _) nq));clear L1 Z z2 m z o A G zs;generalize g.drewN nq=t at*;clear g;cases e1:fiB (l.take k) (csAt l k).name
   . go_wp2_with fail;have Z:t.drew.cell? ⟨w.heap.size+2,1,none⟩=some (.map (some w.heap.size)):=zm f.1 rfl;have z2:t.drew.cell? ⟨wr.heap.size,0,none⟩=some (.string (csAt l k).name):=zm q2.1 rfl;have a4:t.cell? ⟨w.heap.size+2,1,none⟩=some (.map (some w.heap.size)):=zm f.1 rfl;have a5:t.cell? ⟨wr.heap.size,0,none⟩=some (.string (csAt l k).name):=zm q2.1 rfl;obtain⟨w3,P1,I3,H⟩:=zpL (w:=t.drew) (C.1.below (ztT _ _).drew) h e1;have e:=I I3;have R:=I ((D.1.below (ztT _ _).drew).grown H (by simp));have S:=I ((H.block _ (ztW f.1) (by simp)).trans f.1);have T:=I (p.1.drew.grown H p.1.size (by simp));clear I3 H;go_still_tail 7,(by kernel_rfl)
     change wpList _ _ _ _ _ t.drew
     go_wp2_with fail;go_roundw
     case rel=>exact⟨k+1,by omega,by go_num,e,R,S,T⟩
     case measure=>simp[intOf];omega
   have e:=I (znk C.1 h e1);go_wp2_with fail;go_roundw
   case rel=>exact⟨k+1,by omega,by go_num,e,D,f,p⟩
   case measure=>simp[intOf];omega
 obtain rfl:k=l.length:=by omega
 have e:=I P.1;rw[List.take_length]at e;go_wp2_with fail;go_ret;exact⟨w.heap.size+2,w.heap.size,w.heap.size+1,rfl,⟨by omega,E,by omega,by omega,by omega,by omega,F.1,e.1,Q.1,U.1.keep (c.1.mono E) (zbs.keep (c.1.mono E))⟩,by omega,c.1⟩
def zi1(B kp ib kb:Nat)(l:List zB)(a:zua)(cap:Nat)(w:World)(r:Int×Int)(e:Ending)(w':World):Prop:=e=.returned (.tuple #[r.1,r.2])/\zcQ B w' kp ib kb l a cap/\w.grownBy w' (some kb)
def NodeS(B kp ib kb:Nat)(l:List zB)(a:zua)(cap:Nat)(n:Nat):Prop:=∀(sc:Int) (x:zH) (xa:zua) (xc:Nat) (w:World),zcQ B w kp ib kb l a cap->za2 x->wfE x=true->cntE x<=200->zaz B w xa x.args->
 Calls prog 195 #[.pointer (some ⟨kp,0,none⟩),sc,n,.agg #[x.op,x.num,.string x.name,.slice xa x.args.length xc]] w (zi1 B kp ib kb l a cap w (tyE (lkC l n) sc x))
def typX(l:List zB)(n:Nat)(sc:Int)(x:zH):Int×Int:=if valE x≠0 then(0,valE x) else tyE (lkC l n) sc x
def zmK(B kp ib kb:Nat)(l:List zB)(a:zua)(cap:Nat)(n:Nat):Prop:=∀(sc:Int) (x:zH) (xa:zua) (xc:Nat) (w:World),zcQ B w kp ib kb l a cap->za2 x->zaz B w xa x.args->
 Calls prog 160 #[.pointer (some ⟨kp,0,none⟩),sc,n,.agg #[x.op,x.num,.string x.name,.slice xa x.args.length xc]] w (zi1 B kp ib kb l a cap w (typX l n sc x))
def zny(B kp ib kb:Nat)(l:List zB)(a:zua)(cap:Nat)(i:Nat):Prop:=∀(w:World),zcQ B w kp ib kb l a cap->Calls prog 106 #[.pointer (some ⟨kp,0,none⟩),i] w (zi1 B kp ib kb l a cap w (ctyp l i))
theorem zcA{x:zH}(h:valE x=0):wfE x=true/\cntE x<=200/\depE x<=16:=by
 unfold valE at h
 by_cases a:cntE x<=200/\depE x<=16
 . rw[if_pos a]at h;by_cases b:wfE x=true
   . exact⟨b,a⟩
   rw[if_neg b]at h;omega
 rw[if_neg a]at h;omega
theorem zP{w w':World}(a:Option Nat)(h:Bw w w'):w.grownBy w' a:=⟨h.os,h.tape,h.output,h.size,λi hi _=>h.block i hi⟩
theorem zkH(B A C u:Nat)(l:List zB)(a:zua)(cap:Nat)(n:Nat)(N:ztR (NodeS B A C u l a cap n)):zmK B A C u l a cap n:=by
 intro r x c d w s D E;have P:=I s;have F:=I E;have G:B<=w.heap.size:=ztV s.bp (Nat.le_of_lt s.lt.1);clear s E;go_enter func160,ntmps160
 go_wp2_with fail;have g:=I (J w (oE x c d));have v:=I (zh w (oE x c d));have h:=I (P.1.below g.1);have i:=I (F.1.keep (g.1.mono G));generalize w.alloc (oE x c d)=W at*;refine ca (zbB x c d W B (by have:=g.1.size;omega) D i.1) λj t=>?_;have b:=I (ztS g.1 t);have k:=I (h.1.below t);have f:=(t.block _ (ztW v.1)).trans v.1;have H:j.cell? ⟨w.heap.size,0,none⟩=some (.int .i64 x.op):=zm f rfl;have K:j.cell? ⟨w.heap.size,1,none⟩=some (.int .i64 x.num):=zm f rfl;have L:j.cell? ⟨w.heap.size,2,none⟩=some (.string x.name):=zm f rfl;have M:j.cell? ⟨w.heap.size,3,none⟩=some (.slice c x.args.length d):=zm f rfl;have S:=ztW f;clear t f v g h i W;by_cases m:valE x=0
 . obtain⟨Q,R,_⟩:=zcA m;have o:=I (show typX l n r x=tyE (lkC l n) r x from if_neg (by simpa using m));rw[m];go_wp2_with fail;refine(N.1 r x c d j k.1 D Q R (F.1.keep (b.1.mono G))).mono ?_;rintro e T ⟨rfl,p,q⟩;have y:=I p;have z:=I (Lib.grownBy_trans (zP (some u) b.1) q);clear p q H K L M;go_wp2_with fail;go_ret2;exact⟨zJ (by rw[o.1]) (by rw[o.1]),y.1,z.1⟩
 have o:=I (show typX l n r x=(0,valE x) from if_pos m);have U:(valE x !=0)=true:=by simpa using m
 clear H K L M;go_wp2_with fail;go_ret2;exact⟨zJ (by rw[o.1]) (by rw[o.1]),k.1,zP _ b.1⟩
theorem zqI(l:List zB)(i:Nat):ctyp l i=typX l i 0 (csAt l i).ex:=zge l i
theorem zmy(B j u q:Nat)(l:List zB)(a:zua)(cap:Nat)(i:Nat)(A:i<l.length)(C:ztR (zmK B j u q l a cap i)):zny B j u q l a cap i:=by
 intro w c;have v:=I c;have V:=c.consts.1;have W:B<=w.heap.size:=ztV c.bp (Nat.le_of_lt c.lt.1);have D:w.cell? ⟨j,0,none⟩=some (.slice a l.length cap):=zm c.box rfl;have E:w.cell? ⟨j,2,none⟩=some (.map (some q)):=zm c.box rfl;have X:=c.lt.1;rcases zol c.known i with⟨x,y⟩|x
 . have F:=I y;clear c y;go_enter func106,ntmps106
   go_wp2_with fail;go_ret2;exact⟨zJ rfl F.1.symm,v.1,World.grownBy.refl _ _⟩
 obtain⟨b,G,rfl,Y,k⟩:=c.consts.cells (by omega);obtain⟨H,Z,K,m,⟨L,M,N,P⟩,g,d⟩:=k i A;have Q:b<w.heap.size:=by omega
 have R:=I g;have S:=I d;clear k d g c;go_enter func106,ntmps106
 go_wp2_with fail;refine(C.1 0 (csAt l i).ex K m w v.1 R.1 S.1).mono ?_;rintro e T ⟨rfl,f,n⟩;have h:=I f;have o:=I n;have y2:T.cell? ⟨j,2,none⟩=some (.map (some q)):=zm f.box rfl;have ys:=f.lt.1;clear f n D E H L M N P x;rw[<-zqI l i];by_cases p:(ctyp l i).2=0
 . obtain⟨w3,P1,z,r⟩:=zpK h.1.known i p;have s:=I (h.1.grown r z);have t:=I (Lib.grownBy_trans o.1 r);clear z r;rw[p];go_wp2_with fail;go_ret2;exact⟨zJ rfl p.symm,s.1,t.1⟩
 have e2:((ctyp l i).2 !=0)=true:=by simpa using p
 have U:=I (zrP l i p);go_wp2_with fail;go_ret2;exact⟨zJ U.1.symm rfl,h.1,o.1⟩
def mkA(ks:List Int)(n:Nat):Array Value:=(ks.map (Value.int .i64)++List.replicate (n-ks.length) (Value.int .i64 0)).toArray
theorem zsP(n:Nat):madeCells #[.int .i64 0] n=mkA [] n:=by
 apply Array.ext'
 rw[toList_madeCells_one];simp[mkA]
theorem zsO(a:List Int)(n:Nat)(v:Int)(h:a.length<n):(mkA a n).setIfInBounds a.length (.int .i64 v)=mkA (a++ [v]) n:=by
 obtain⟨m,c⟩:∃m,n-a.length=m+1:=⟨n-a.length-1,by omega⟩;have b:n-(a++ [v]).length=m:=by simp;omega
 unfold mkA
 rw[c,b,List.replicate_succ];simp
theorem zsQ(a:List Int)(n:Nat)(h:a.length<n):(mkA a n)[a.length]?=some (.int .i64 0):=by
 unfold mkA
 simp only[List.getElem?_toArray];rw[zt9 (by simp),List.length_map,Nat.sub_self,List.getElem?_replicate,if_pos (by omega)]
theorem zrz(a:List Int)(n:Nat)(h:a.length=n)(i:Nat)(b:i<a.length):(mkA a n)[i]?=some (.int .i64 (iAt a i)):=by
 unfold mkA
 simp only[List.getElem?_toArray];rw[zt8 (by simpa using b)];simp[iAt,b]
theorem zg{w:World}{b i:Nat}{c:Array Value}{t:TypeId}{u:Value}(h:w.heap[b]?=some (.cells c t (0,0))):(w.setCell ⟨b,i,none⟩ u).heap[b]?=some (.cells (c.setIfInBounds i u) t (0,0)):=by
 have a:=ztW h;have d:w.heap[b]=.cells c t (0,0):=by simpa[Array.getElem?_eq_getElem a] using h
 show(w.heap.modify b _)[b]?=_
 rw[Array.getElem?_eq_getElem (by simpa using a),Array.getElem_modify_self,d];rfl
theorem zQ{w:World}{b j:Nat}{a:Array Value}{t:TypeId}(h:w.heap[b]?=some (.cells a t (0,0))):w.frozen? ⟨b,j,none⟩=false:=by simp[World.frozen?,h]
theorem zrD:(prog.info? 3).map (λi=>(i.zero,i.size,i.bytes))=some (some (.int .i64 0),1,8):=by kernel_rfl
theorem ze8{o b:Int}{s:ByteArray}{a:List zH}(h:wfE (.mk o b s a)=true):zcR o b s a.length=true/\wfL a=true:=by
 rw[wfE,zt5]at h;exact h
theorem zkq{l:List zH}(h:wfL l=true):∀k,k<l.length->wfE (eAt l k)=true:=by
 induction l with
 |nil=>intro k a;simp at a
 |cons x l ih=>
  rw[wfL,zt5]at h;intro k a;cases k with
  |zero=>exact h.1
  |succ k=>exact ih h.2 k (by simpa using a)
theorem zhW{l:List zH}:∀k,k<l.length->cntE (eAt l k)<=cntL l:=by
 induction l with
 |nil=>intro k a;simp at a
 |cons x l ih=>
  intro k a;rw[cntL];cases k with
  |zero=>show cntE x<=_;omega
  |succ k=>have:=ih k (by simpa using a);show cntE (eAt l k)<=_;omega
theorem zgZ(l:List zH):l.length<=cntL l:=by
 induction l with
 |nil=>simp
 |cons x l ih=>
  have:1<=cntE x:=by cases x;rw[cntE];omega
  rw[cntL,List.length_cons];omega
theorem zp5(B u z A:Nat)(l:List zB)(a:zua)(cap:Nat)(n:Nat)(k:ztR (∀i,i<n->i<l.length->zny B u z A l a cap i))(b c:Int)(s:ByteArray)(d:List zH)(C:zua)(D:Nat)(w:World)(v:zcQ B w u z A l a cap)(Q:s.size<=140737488355328)(hn:n<=140737488355328):
 Calls prog 195 #[.pointer (some ⟨u,0,none⟩),b,n,.agg #[.int .i64 6,c,.string s,.slice C d.length D]] w (zi1 B u z A l a cap w (tyE (lkC l n) b (.mk 6 c s d))):=by
 have R:=I v;have hB:B<=w.heap.size:=ztV v.bp (Nat.le_of_lt v.lt.1);have S:=v.lt.1;have G:=I (show tyE (lkC l n) b (.mk 6 c s d)=if zad b s≠0 then(zad b s,0) else(lkC l n s).getD (0,6) by rw[tyE,if_pos rfl]);clear v;go_enter func195,ntmps195
 go_wp2_with fail;have E:=I (J w (oEg 6 c s C d.length D));have H:=I (zh w (oEg 6 c s C d.length D));have f:=I (R.1.below E.1);generalize w.alloc (oEg 6 c s C d.length D)=W at*;refine cb (zd1 b s W Q) ?_;by_cases r:zad b s=0
 . have g:=I (show tyE (lkC l n) b (.mk 6 c s d)=(lkC l n s).getD (0,6) from G.1.trans (if_neg (by simpa using r)));have F:zh5 (zad b s)=6:=by rw[r];rfl
   rw[F,r];go_wp2_with fail;have T:W.cell? ⟨u,1,none⟩=some (.map (some z)):=zm f.1.box rfl;have U:W.cell? ⟨w.heap.size,2,none⟩=some (.string s):=zm H.1 rfl;have V:=ztW H.1;have X:=λm=>zgW (w:=W.drewN m) (f.1.idx.below (below_drewN (ztT _ _) m)) s
   go_quiet (fail)
   have o:=I (f.1.below (below_drewN (ztT _ _) nq));have p:=I (ztS E.1 (below_drewN (ztT _ _) nq));clear X T U V H f E r F G;generalize W.drewN nq=Y at*;clear W;cases P:fiB l s
   . have j:=I (show tyE (lkC l n) b (.mk 6 c s d)=(0,6) from g.1.trans (by
      have:fi l s=none:=by simpa[fiB] using P
      simp only[lkC,this];rfl))
     go_wp2_with fail;go_ret2;exact⟨zJ (by rw[j.1]) (by rw[j.1]),o.1,zP _ p.1⟩
   obtain⟨i,t⟩:∃i,fi l s=some i:=by
    cases h:fi l s with
    |none=>simp[fiB,h]at P
    |some i=>exact⟨i,rfl⟩
   have K:=zs6 t;have q:fiN l s=i:=by simp[fiN,t]
   have Z:=o.1.consts.1;rw[q];by_cases L:i<n
   . have j:=I (show tyE (lkC l n) b (.mk 6 c s d)=ctyp l i from g.1.trans (by simp only[lkC,t,if_pos L];rfl));clear t q g;go_wp2_with fail;refine(k.1 i L K Y o.1).mono ?_;rintro e w2 ⟨rfl,x,y⟩;have M:=I x;have N:=I (Lib.grownBy_trans (zP (some A) p.1) y);clear x y;go_wp2_with fail;go_ret2;exact⟨zJ (by rw[j.1]) (by rw[j.1]),M.1,N.1⟩
   have j:=I (show tyE (lkC l n) b (.mk 6 c s d)=(0,6) from g.1.trans (by simp only[lkC,t,if_neg L];rfl));clear t q g;go_wp2_with fail;go_ret2;exact⟨zJ (by rw[j.1]) (by rw[j.1]),o.1,zP _ p.1⟩
 have j:=I (show tyE (lkC l n) b (.mk 6 c s d)=(zad b s,0) from G.1.trans (if_pos (by simpa using r)));have F:zh5 (zad b s)=0:=if_neg (by simpa using r);rw[F];go_wp2_with fail;go_ret2;exact⟨zJ (by rw[j.1]) (by rw[j.1]),f.1,zP _ E.1⟩
theorem zp6(B R X M:Nat)(l:List zB)(a:zua)(cap:Nat)(n:Nat)(f o r:Int)(s:ByteArray)(c:List zH)(o6:o≠6)(G:zua)(S:Nat)(w:World)(E:zcQ B w R X M l a cap)(Y:wfE (.mk o r s c)=true)(t:cntE (.mk o r s c)<=200)(ha:zaz B w G c) 
 (IH:ztR (∀x:zH,SizeOf.sizeOf x<SizeOf.sizeOf (zH.mk o r s c)->∀(G:zua) (S:Nat) (w:World),zcQ B w R X M l a cap->za2 x->wfE x=true->cntE x<=200->zaz B w G x.args->
  Calls prog 195 #[.pointer (some ⟨R,0,none⟩),f,n,.agg #[x.op,x.num,.string x.name,.slice G x.args.length S]] w (zi1 B R X M l a cap w (tyE (lkC l n) f x)))):
 Calls prog 195 #[.pointer (some ⟨R,0,none⟩),f,n,.agg #[o,r,.string s,.slice G c.length S]] w (zi1 B R X M l a cap w (tyE (lkC l n) f (.mk o r s c))):=by
 have HC:=I E;have HA:=I ha;have hB:B<=w.heap.size:=ztV E.bp (Nat.le_of_lt E.lt.1);obtain⟨b8,b9,c4⟩:=E.lt;have b1:=E.bk;obtain⟨hh,Z⟩:=ze8 Y;have c5:1+cntL c<=200:=by rw[cntE]at t;exact t
 have b7:c.length<=200:=by have:=zgZ c;omega
 have e6:(o==6)=false:=by simpa using o6
 have Hv:=I (show tyE (lkC l n) f (.mk o r s c)=if(tyL (lkC l n) f c).1≠0 then(0,(tyL (lkC l n) f c).1) else if resK o (tyL (lkC l n) f c).2≠0 then(resK o (tyL (lkC l n) f c).2,0) else(0,9) by rw[tyE,if_neg o6]);simp only[zcR,zt5]at hh;obtain⟨⟨⟨g1,h3⟩,_⟩,_⟩:=hh;obtain⟨h1,h2⟩:=zbz.1 g1;have H3:=I h3;have O6:=I o6;have HW:=I Z;have b2:=λw'=>run_make_row' (P:=prog) 72 3 (.int .i64 0) 8 underlying72 zrD rfl .i64 .i64 c.length (by omega) (by omega) w'
 clear E ha Y t g1 h3 o6 Z;go_enter func195,ntmps195
 go_wp2_with fail;obtain⟨W,hW⟩:∃W,W=(w.alloc (oEg o r s G c.length S)).alloc (Obj.cells (madeCells #[.int .i64 0] c.length) 3):=⟨_,rfl⟩;have HB:=I (show Bw w W by rw[hW];exact ztS (J w _) (J _ _));have q0:=I (show W.heap[w.heap.size]?=some (oEg o r s G c.length S) by rw[hW];exact zd (zh _ _));have q1:=I (show W.heap[w.heap.size+1]?=some (.cells (mkA [] c.length) 3 (0,0)) by rw[hW,<-zsP,<-zr w (oEg o r s G c.length S)];exact zh _ _);have a0:=I (HC.1.below HB.1);simp only[<-hW];clear hW b2;go_loopw [61] (λi wr=>∃(k:Nat) (p:List Int),k<=c.length/\i=.int .i64 k/\ztR (p.length=k)/\ztR (tyL (lkC l n) f c=((tyL (lkC l n) f (c.drop k)).1,p++(tyL (lkC l n) f (c.drop k)).2))/\ztR (wr.heap[w.heap.size]?=some (oEg o r s G c.length S))/\ztR (wr.heap[w.heap.size+1]?=some (.cells (mkA p c.length) 3 (0,0)))/\ztR (zcQ B wr R X M l a cap)/\ztR (w.grownBy wr (some M))) (λi _=>c.length-(intOf i).toNat)
 case atStart=>exact⟨0, [],ztX _,rfl,I rfl,I (by simp),q0,q1,a0,I (zP _ HB.1)⟩
 clear q0 q1 a0 HB;obtain⟨k,p,hk,rfl,q,h,T,v,E,H⟩:=hrel;by_cases m:k<c.length
 . obtain⟨b,c6,rfl,hb,a1⟩:=HA.1.cells (by omega);have a3:Below B w wr:=(ztT B w).grown H.1 hB (λj hj=>by cases hj;exact b1);obtain⟨U,d,c7,⟨c0,c1,c2,c3⟩,N,y⟩:=(a1.keep a3).at k m;have c8:=ztW v.1;have c9:b<wr.heap.size:=by omega
   have HF:=I N;have a4:=I (y.keep ((J wr (oE (eAt c k) U d)).mono (by omega)));have a5:=I (E.1.below (J wr (oE (eAt c k) U d)));have a6:=I (Lib.grownBy_trans H.1 (zP (some M) (J wr (oE (eAt c k) U d))));have Q0:=I (zd (o':=(oE (eAt c k) U d)) T.1);have Q1:=I (zd (o':=(oE (eAt c k) U d)) v.1);clear y a1 N E H T v a3;go_wp2_with fail;generalize wr.alloc (oE (eAt c k) U d)=W1 at*;refine(IH.1 (eAt c k) (zbM (x:=.mk o r s c) m) U d _ a5.1 HF.1 (zkq HW.1 k m) (by have:=zhW (l:=c) k m;omega) a4.1).mono ?_;rintro e w2 ⟨rfl,a7,K⟩;have z:=I a7;have A:=I (Lib.grownBy_trans a6.1 K);have a8:=I ((K.block _ (ztW Q0.1) (by simp;omega)).trans Q0.1);have L:=I ((K.block _ (ztW Q1.1) (by simp;omega)).trans Q1.1);clear a7 K a5 a6 Q0 Q1 a4 c0 c1 c2 c3;by_cases F:(tyE (lkC l n) f (eAt c k)).2=0
   . have C:=I (zsh m h.1 F);have y0:w2.cell? ⟨w.heap.size+1,k,none⟩=some (.int .i64 0):=by have:=zsQ p c.length (by rw[q.1];exact m);rw[q.1]at this;exact zm L.1 this
     have y1:w2.frozen? ⟨w.heap.size+1,k,none⟩=false:=zQ L.1;have ys:=ztW L.1;have G3:=Lib.grownBy_setCell w2 (w.heap.size+1) k (.int .i64 (tyE (lkC l n) f (eAt c k)).1);have b3:=I (z.1.other G3 (by omega) (by omega) (by omega) (by omega));have b4:=I (A.1.andThen G3 (λj hj=>by cases hj;exact .inl (by omega)));have b5:=I ((G3.block _ (ztW a8.1) (by simp)).trans a8.1);have a9:=I (zg (i:=k) (u:=.int .i64 (tyE (lkC l n) f (eAt c k)).1) L.1);have D:=zsO p c.length (tyE (lkC l n) f (eAt c k)).1 (by rw[q.1];exact m);rw[q.1]at D;rw[D]at a9;have b6:=I (show(p++ [(tyE (lkC l n) f (eAt c k)).1]).length=k+1 by simp[q.1]);clear G3 D h;rw[F];go_wp2_with fail;go_roundw
     case rel=>exact⟨k+1,_,by omega,by go_num,b6,C,b5,a9,b3,b4⟩
     case measure=>simp[intOf];omega
   have C:=I (zo5 m h.1 F);have Q:=I (show tyE (lkC l n) f (.mk o r s c)=(0,(tyE (lkC l n) f (eAt c k)).2) from Hv.1.trans (by rw[C.1,if_pos F]));have e2:((tyE (lkC l n) f (eAt c k)).2 !=0)=true:=by simpa using F
   go_wp2_with fail;go_ret2;exact⟨zJ (by rw[Q.1]) (by rw[Q.1]),z.1,A.1⟩
 obtain rfl:k=c.length:=by omega
 have g:=q.1;have C:=I (show tyL (lkC l n) f c=(0,p) from h.1.trans (by rw[zt6,tyL];simp));have b0:=I (show tyE (lkC l n) f (.mk o r s c)=if resK o p≠0 then(resK o p,0) else(0,9) from Hv.1.trans (by rw[C.1];simp));have y0:wr.cell? ⟨w.heap.size,0,none⟩=some (.int .i64 o):=zm T.1 rfl;have ys:=ztW v.1;have HI:=I (show zW wr (some ⟨w.heap.size+1,0,none⟩) p from .inr ⟨w.heap.size+1,0,rfl,ys,λi hi=>by rw[Nat.zero_add];exact zm v.1 (zrz p c.length g i hi)⟩);have H4:=H3.1;rw[<-g]at H4;have H5:=I H4;clear g H4 h;go_wp2_with fail;have g:=q.1;rw[<-g];refine ca (znS o p _ _ wr (by omega) h1 h2 O6.1 H5.1 HI.1) λw2 V=>?_;have z:=I (E.1.below V);have A:=I (Lib.grownBy_trans H.1 (zP (some M) V));clear V g y0;by_cases F:resK o p=0
 . have Q:=I (b0.1.trans (if_neg (by simpa using F)));rw[F];go_wp2_with fail;go_ret2;exact⟨zJ (by rw[Q.1]) (by rw[Q.1]),z.1,A.1⟩
 have Q:=I (b0.1.trans (if_pos (by simpa using F)));have e2:(resK o p !=0)=true:=by simpa using F
 go_wp2_with fail;go_ret2;exact⟨zJ (by rw[Q.1]) (by rw[Q.1]),z.1,A.1⟩
theorem zp4(B d e f:Nat)(l:List zB)(a:zua)(cap:Nat)(n:Nat)(u:n<=140737488355328)(b:∀i,i<n->i<l.length->zny B d e f l a cap i):NodeS B d e f l a cap n:=by
 intro k x;obtain⟨m,v⟩:∃m,m=SizeOf.sizeOf x:=⟨_,rfl⟩;induction m using Nat.strongRecOn generalizing x with
 |_ m ih=>
  subst v;intro g h w p y j c z;obtain⟨o,q,s,r⟩:=x;by_cases t:o=6
  . subst t;exact zp5 B d e f l a cap n b k q s r g h w p y.1 u
  exact zp6 B d e f l a cap n k o q s r t g h w p j c z (λx hx g h w h1 h2 h3 h4 h5=>ih _ hx x rfl g h w h1 h2 h3 h4 h5)
theorem zgA(B b c d:Nat)(l:List zB)(a:zua)(cap:Nat)(f:l.length<=140737488355328)(i:Nat)(e:i<l.length):zny B b c d l a cap i:=by
 induction i using Nat.strongRecOn with
 |_ i ih=>exact zmy B b c d l a cap i e (zkH B b c d l a cap i (zp4 B b c d l a cap i (by omega) (λj hj hjl=>ih j hj hjl)))
theorem znL(B b c d:Nat)(l:List zB)(a:zua)(cap:Nat)(e:l.length<=140737488355328)(n:Nat)(f:n<=140737488355328):zmK B b c d l a cap n:=
 zkH B b c d l a cap n (zp4 B b c d l a cap n f (λi _ hi=>zgA B b c d l a cap e i hi))
def expE(r:Int×Int)(k:Int):Int:=if r.2=0 then(if r.1=k then 0 else 9) else r.2
def ztN(B kp ib kb:Nat)(l:List zB)(a:zua)(cap:Nat)(w:World)(v:Int)(e:Ending)(w':World):Prop:=e=.returned v/\zcQ B w' kp ib kb l a cap/\w.grownBy w' (some kb)
theorem zgc(B p y q:Nat)(l:List zB)(a:zua)(cap:Nat)(D:l.length<=140737488355328)(n:Nat)(E:n<=140737488355328)(s c:Int)(x:zH)(h:zua)(t:Nat)(w:World)(u:zcQ B w p y q l a cap)(F:za2 x)(C:zaz B w h x.args):
 Calls prog 107 #[.pointer (some ⟨p,0,none⟩),s,n,.agg #[x.op,x.num,.string x.name,.slice h x.args.length t],c] w (ztN B p y q l a cap w (expE (typX l n s x) c)):=by
 have G:=I u;have H:=I C;have K:B<=w.heap.size:=ztV u.bp (Nat.le_of_lt u.lt.1);clear u C;go_enter func107,ntmps107
 go_wp2_with fail;have v:=I (J w (oE x h t));have i:=I (G.1.below v.1);have j:=I (H.1.keep (v.1.mono K));generalize w.alloc (oE x h t)=W at*;refine(znL B p y q l a cap D n E s x h t W i.1 F j.1).mono ?_;rintro e M ⟨rfl,k,m⟩;have d:=I k;have f:=I (Lib.grownBy_trans (zP (some q) v.1) m);clear k m v i j W;generalize typX l n s x=r at*;by_cases b:r.2=0
 . have z:(r.2==0)=true:=by simpa using b
   by_cases g:r.1=c
   . have A:(r.1 !=c)=false:=by simpa using g
     have o:=I (show expE r c=0 by rw[expE,if_pos b,if_pos g]);have L:=I b;clear b g;go_wp2_with fail;go_ret;exact⟨ze (by rw[o.1,L.1]),d.1,f.1⟩
   have A:(r.1 !=c)=true:=by simpa using g
   have o:=I (show expE r c=9 by rw[expE,if_pos b,if_neg g]);clear b g;go_wp2_with fail;go_ret;exact⟨ze (by rw[o.1]),d.1,f.1⟩
 have z:(r.2==0)=false:=by simpa using b
 have o:=I (show expE r c=r.2 by rw[expE,if_neg b]);clear b;go_wp2_with fail;go_ret;exact⟨ze (by rw[o.1]),d.1,f.1⟩
def fstE(f:Nat->Int):Nat->Nat->Int
 |_,0=>0
 |k,m+1=>if f k≠0 then f k else fstE f (k+1) m
theorem zbN{f:Nat->Int}{k n:Nat}(h:k<n)(a:f k≠0):fstE f k (n-k)=f k:=by
 obtain⟨m,b⟩:∃m,n-k=m+1:=⟨n-k-1,by omega⟩;rw[b,fstE,if_pos a]
theorem zcS{f:Nat->Int}{k n:Nat}(h:k<n)(a:f k=0):fstE f k (n-k)=fstE f (k+1) (n-(k+1)):=by
 obtain⟨m,b⟩:∃m,n-k=m+1:=⟨n-k-1,by omega⟩;have:n-(k+1)=m:=by omega
 rw[b,this,fstE,if_neg (by simpa using a)]
theorem zb9(f:Nat->Int)(n:Nat):fstE f n (n-n)=0:=by rw[Nat.sub_self];rfl
def zen(s:ByteArray):Bool:=!(zad 1 s==0&&zad 2 s==0&&zad 3 s==0)
theorem zlc{s:ByteArray}{m:Nat}(a:1<=m)(b:m<=3)(e:zad m s≠0):zen s=true:=by
 obtain rfl|rfl|rfl:m=1\/m=2\/m=3:=by omega
 . have:(zad 1 s==0)=false:=by simpa using e
   simp only[zen,this];rfl
 . have:(zad 2 s==0)=false:=by simpa using e
   simp only[zen,this];simp
 have:(zad 3 s==0)=false:=by simpa using e
 simp only[zen,this];simp
def cErr(l:List zB)(i:Nat):Int:=if zen (csAt l i).name=true then 7 else(ctyp l i).2
def rErr(c:ConM)(i:Nat):Int:=expE (typX c.consts c.consts.length (rlAt c.rules i).scope (rlAt c.rules i).ex) 4
def kErr(c:ConM)(i:Nat):Int:=expE (typX c.consts c.consts.length (coAt c.costs i).scope (coAt c.costs i).ex) 1
def xErr(c:ConM)(i:Nat):Int:=expE (typX c.consts c.consts.length 1 (eAt c.credit i)) 2
def valT(c:ConM):Int:=
 if valG c≠0 then valG c else if fstE (cErr c.consts) 0 (c.consts.length-0)≠0 then fstE (cErr c.consts) 0 (c.consts.length-0)
 else if fstE (rErr c) 0 (c.rules.length-0)≠0 then fstE (rErr c) 0 (c.rules.length-0) else if fstE (kErr c) 0 (c.costs.length-0)≠0 then fstE (kErr c) 0 (c.costs.length-0)
 else fstE (xErr c) 0 (c.credit.length-0)
theorem zgV{w w' W:World}{a:Nat}(h:Bw w W)(b:W.grownBy w' (some a))(c:w.heap.size<=a):Bw w w':=h.grown b h.size (λj hj=>by cases hj;exact c)
theorem zja(c:ConM)(p:ConP)(w:World)(B:Nat)(hB:B<=w.heap.size)(ha:zdr B w c p):
 Calls prog 57 #[aggC c p] w λe w'=>e=.returned (valT c)/\Bw w w':=by
 try delta aggC aggT
 have b1:=ha.consts.1;have b2:=ha.rules.1;have b3:=ha.costs.1;have b4:=ha.creditN;have HA:=I ha;clear ha;go_enter func57,ntmps57
 go_wp2_with fail;have HX:=I (zcj.new w c p);have HB:=I (J w (objC c p));have a3:=I (HA.1.keep (HB.1.mono hB));generalize w.alloc (objC c p)=W at*;refine ca (zje c p W B (by have:=HB.1.size;omega) a3.1) λw1 P=>?_;have r:=I (HX.1.below P);have q:=I (ztS HB.1 P);have D:=r.1.lt;have d7:=zaK r.1;clear P HX HB a3 W;by_cases e0:valG c=0
 . have Hv:=I (show valT c=if fstE (cErr c.consts) 0 (c.consts.length-0)≠0 then fstE (cErr c.consts) 0 (c.consts.length-0) else if fstE (rErr c) 0 (c.rules.length-0)≠0 then fstE (rErr c) 0 (c.rules.length-0) else if fstE (kErr c) 0 (c.costs.length-0)≠0 then fstE (kErr c) 0 (c.costs.length-0) else fstE (xErr c) 0 (c.credit.length-0) from if_neg (by simpa using e0));rw[e0];go_wp2_with fail;refine(zim c.consts p.ca p.cc w1 B (by have:=q.1.size;omega) (HA.1.keep (q.1.mono hB)).consts).mono ?_;rintro e w2 ⟨S,T,Q,rfl,u,a4,V⟩;have R:w.heap.size<=Q:=by have:=q.1.size;omega
   have n:=I u;have g:=I (r.1.below V);have a:=I (ztS q.1 V);have b5:w.heap.size≠Q:=by have:=r.1.lt;omega
   clear u V r q d7 D e0 a4;have D:=g.1.lt;have d7:=zaK g.1;go_wp2_with fail;clear d7 D;go_loopw [33] (λi wr=>∃(k:Nat),k<=c.consts.length/\i=.int .i64 k/\ztR (fstE (cErr c.consts) 0 (c.consts.length-0)=fstE (cErr c.consts) k (c.consts.length-k))/\ztR (zcj wr w.heap.size c p)/\ztR (zcQ B wr S T Q c.consts p.ca p.cc)/\ztR (Bw w wr)) (λi _=>c.consts.length-(intOf i).toNat)
   case atStart=>exact⟨0,ztX _,rfl,I rfl,g,n,a⟩
   clear g n a;obtain⟨k,hk,rfl,h,g,n,a⟩:=hrel;by_cases o:k<c.consts.length
   . obtain⟨b,X,x,P,y⟩:=HA.1.consts.cells (by omega);rw[x];have a8:=I x;obtain⟨c0,s1,z,d,⟨c1,c2,c3,c4⟩,s,l⟩:=(y k o).keep (a.1.mono hB) b _ _ P;have Y:b<wr.heap.size:=by have:=a.1.size;omega
     have q:=I (ztS a.1 (J wr (oN (csAt c.consts k) z d)));have r:=I (g.1.below (J wr (oN (csAt c.consts k) z d)));have A:=I (n.1.below (J wr (oN (csAt c.consts k) z d)));have q0:=I (zh wr (oN (csAt c.consts k) z d));clear l y s g n x a;go_wp2_with fail;generalize wr.alloc (oN (csAt c.consts k) z d)=W1 at*;have y0:W1.cell? ⟨wr.heap.size,0,none⟩=some (.string (csAt c.consts k).name):=zm q0.1 rfl;have ys:=ztW q0.1;clear c0 c1 c2 c3 c4 q0;go_loop [7] (λi=>∃m:Nat,1<=m/\m<=4/\i=.int .i64 m/\ztR (∀j:Nat,1<=j->j<m->zad j (csAt c.consts k).name=0)) (λi=>4-(intOf i).toNat)
     case atStart=>exact⟨1,by omega,by omega,rfl,I (λj h1 h2=>by omega)⟩
     obtain⟨m,a5,a9,rfl,L⟩:=hrel;by_cases hm:m<=3
     . have b6:(m:Int)<=3:=by omega
       go_wp2_with fail;refine cb (zd1 m (csAt c.consts k).name W1 s1) ?_;by_cases v:zad m (csAt c.consts k).name=0
       . have Z:zh5 (zad m (csAt c.consts k).name)=6:=by rw[v];rfl
         have a6:=I (show ∀j:Nat,1<=j->j<m+1->zad j (csAt c.consts k).name=0 from λj h1 h2=>by
          by_cases ej:j=m
          . subst ej;exact v
          exact L.1 j h1 (by omega))
         rw[Z,v];go_wp2_with fail;go_round
         case rel=>exact⟨m+1,by omega,by omega,by go_num,a6⟩
         case measure=>simp[intOf];omega
       have Z:zh5 (zad m (csAt c.consts k).name)=0:=if_neg (by simpa using v);have M:zen (csAt c.consts k).name=true:=zlc a5 hm v;have G:cErr c.consts k=7:=if_pos M;have f:=I (h.1.trans (zbN o (by rw[G];decide)));have N:=I (show valT c=7 from Hv.1.trans (by rw[f.1,G];rfl));clear G M;rw[Z];go_wp2_with fail;go_ret;exact⟨ze N.1.symm,q.1⟩
     obtain rfl:m=4:=by omega
     have M:zen (csAt c.consts k).name=false:=by
      have h1:=L.1 1 (by omega) (by omega);have h2:=L.1 2 (by omega) (by omega);have h3:=L.1 3 (by omega) (by omega);simp only[Int.natCast_one,Int.cast_ofNat_Int]at h1 h2 h3;simp[zen,h1,h2,h3]
     have G:=I (show cErr c.consts k=(ctyp c.consts k).2 from if_neg (by simp[M]));clear M L hm a5 a9;go_wp2_with fail;refine(zgA B S T Q c.consts p.ca p.cc (by omega) k o W1 A.1).mono ?_;rintro e w2 ⟨rfl,u,t⟩;have H:=I u;have K:=I (r.1.grown t (by simp;omega));have C:=I (zgV q.1 t R);clear u t r A q y0 ys;by_cases v:(ctyp c.consts k).2=0
     . have f:=I (h.1.trans (zcS o (G.1.trans v)));rw[v];go_wp2_with fail;go_roundw
       case rel=>exact⟨k+1,by omega,by go_num,f,K,(by rw[<-a8.1];exact H),C⟩
       case measure=>simp[intOf];omega
     have f:=I (h.1.trans (zbN o (by rw[G.1];exact v)));have N:=I (show valT c=(ctyp c.consts k).2 from Hv.1.trans (by rw[f.1,G.1];exact if_pos v));have Z:((ctyp c.consts k).2 !=0)=true:=by simpa using v
     go_wp2_with fail;go_ret;exact⟨ze N.1.symm,C.1⟩
   obtain rfl:k=c.consts.length:=by omega
   have f:=I (h.1.trans (zb9 _ _));have a0:=I (show valT c=if fstE (rErr c) 0 (c.rules.length-0)≠0 then fstE (rErr c) 0 (c.rules.length-0) else if fstE (kErr c) 0 (c.costs.length-0)≠0 then fstE (kErr c) 0 (c.costs.length-0) else fstE (xErr c) 0 (c.credit.length-0) from Hv.1.trans (by rw[f.1];rfl));have d7:=zaK g.1;have d8:=zaX g.1;have D:=g.1.lt;clear h f Hv;go_wp2_with fail;clear d7 d8 D hk o;obtain⟨U,rfl⟩:∃U:World,U=wr:=⟨_,rfl⟩;go_loopw [67] (λi wr=>∃(k:Nat),k<=c.rules.length/\i=.int .i64 k/\ztR (fstE (rErr c) 0 (c.rules.length-0)=fstE (rErr c) k (c.rules.length-k))/\ztR (zcj wr w.heap.size c p)/\ztR (zcQ B wr S T Q c.consts p.ca p.cc)/\ztR (Bw w wr)) (λi _=>c.rules.length-(intOf i).toNat)
   case atStart=>exact⟨0,ztX _,rfl,I rfl,g,n,a⟩
   clear g n a;obtain⟨k,hk,rfl,h,g,n,a⟩:=hrel;by_cases o:k<c.rules.length
   . obtain⟨b,X,x,P,y⟩:=HA.1.rules.cells (by omega);rw[x];obtain⟨c0,b7,s1,sw,z,d,⟨c1,c2,c3,c4⟩,s,l⟩:=(y k o).keep (a.1.mono hB) b _ _ P;have Y:b<wr.heap.size:=by have:=a.1.size;omega
     have HF:=I s;have E:=I (l.keep ((J wr (oR (rlAt c.rules k) z d)).mono (by have:=a.1.size;omega)));have q:=I (ztS a.1 (J wr (oR (rlAt c.rules k) z d)));have r:=I (g.1.below (J wr (oR (rlAt c.rules k) z d)));have A:=I (n.1.below (J wr (oR (rlAt c.rules k) z d)));clear l y s g n x;go_wp2_with fail;refine(zgc B S T Q c.consts p.ca p.cc (by omega) c.consts.length (by omega) (rlAt c.rules k).scope 4 (rlAt c.rules k).ex z d _ A.1 HF.1 E.1).mono ?_;rintro e w2 ⟨rfl,u,t⟩;have H:=I u;have K:=I (r.1.grown t (by simp;omega));have C:=I (zgV q.1 t R);have F:expE (typX c.consts c.consts.length (rlAt c.rules k).scope (rlAt c.rules k).ex) 4=rErr c k:=rfl;rw[F];clear u t r A q E F;by_cases v:rErr c k=0
     . have f:=I (h.1.trans (zcS o v));rw[v];go_wp2_with fail;go_roundw
       case rel=>exact⟨k+1,by omega,by go_num,f,K,H,C⟩
       case measure=>simp[intOf];omega
     have f:=I (h.1.trans (zbN o v));have N:=I (show valT c=rErr c k from a0.1.trans (by rw[f.1];exact if_pos v));have Z:(rErr c k !=0)=true:=by simpa using v
     go_wp2_with fail;go_ret;exact⟨ze N.1.symm,C.1⟩
   obtain rfl:k=c.rules.length:=by omega
   have f:=I (h.1.trans (zb9 _ _));have a1:=I (show valT c=if fstE (kErr c) 0 (c.costs.length-0)≠0 then fstE (kErr c) 0 (c.costs.length-0) else fstE (xErr c) 0 (c.credit.length-0) from a0.1.trans (by rw[f.1];rfl));have d9:=zbr g.1;have D:=g.1.lt;clear h f a0;go_wp2_with fail;clear d9 D hk o;obtain⟨U,rfl⟩:∃U:World,U=wr:=⟨_,rfl⟩;go_loopw [85] (λi wr=>∃(k:Nat),k<=c.costs.length/\i=.int .i64 k/\ztR (fstE (kErr c) 0 (c.costs.length-0)=fstE (kErr c) k (c.costs.length-k))/\ztR (zcj wr w.heap.size c p)/\ztR (zcQ B wr S T Q c.consts p.ca p.cc)/\ztR (Bw w wr)) (λi _=>c.costs.length-(intOf i).toNat)
   case atStart=>exact⟨0,ztX _,rfl,I rfl,g,n,a⟩
   clear g n a;obtain⟨k,hk,rfl,h,g,n,a⟩:=hrel;by_cases o:k<c.costs.length
   . obtain⟨b,X,x,P,y⟩:=HA.1.costs.cells (by omega);rw[x];obtain⟨c0,sw,z,d,⟨c1,c2,c3,c4⟩,s,l⟩:=(y k o).keep (a.1.mono hB) b _ _ P;have Y:b<wr.heap.size:=by have:=a.1.size;omega
     have HF:=I s;have E:=I (l.keep ((J wr (oK (coAt c.costs k) z d)).mono (by have:=a.1.size;omega)));have q:=I (ztS a.1 (J wr (oK (coAt c.costs k) z d)));have r:=I (g.1.below (J wr (oK (coAt c.costs k) z d)));have A:=I (n.1.below (J wr (oK (coAt c.costs k) z d)));clear l y s g n x;go_wp2_with fail;refine(zgc B S T Q c.consts p.ca p.cc (by omega) c.consts.length (by omega) (coAt c.costs k).scope 1 (coAt c.costs k).ex z d _ A.1 HF.1 E.1).mono ?_;rintro e w2 ⟨rfl,u,t⟩;have H:=I u;have K:=I (r.1.grown t (by simp;omega));have C:=I (zgV q.1 t R);have F:expE (typX c.consts c.consts.length (coAt c.costs k).scope (coAt c.costs k).ex) 1=kErr c k:=rfl;rw[F];clear u t r A q E F;by_cases v:kErr c k=0
     . have f:=I (h.1.trans (zcS o v));rw[v];go_wp2_with fail;go_roundw
       case rel=>exact⟨k+1,by omega,by go_num,f,K,H,C⟩
       case measure=>simp[intOf];omega
     have f:=I (h.1.trans (zbN o v));have N:=I (show valT c=kErr c k from a1.1.trans (by rw[f.1];exact if_pos v));have Z:(kErr c k !=0)=true:=by simpa using v
     go_wp2_with fail;go_ret;exact⟨ze N.1.symm,C.1⟩
   obtain rfl:k=c.costs.length:=by omega
   have f:=I (h.1.trans (zb9 _ _));have a7:=I (show valT c=fstE (xErr c) 0 (c.credit.length-0) from a1.1.trans (by rw[f.1];rfl));have b0:=zbb g.1;have D:=g.1.lt;clear h f a1;go_wp2_with fail;clear b0 D hk o;obtain⟨U,rfl⟩:∃U:World,U=wr:=⟨_,rfl⟩;go_loopw [103] (λi wr=>∃(k:Nat),k<=c.credit.length/\i=.int .i64 k/\ztR (fstE (xErr c) 0 (c.credit.length-0)=fstE (xErr c) k (c.credit.length-k))/\ztR (zcj wr w.heap.size c p)/\ztR (zcQ B wr S T Q c.consts p.ca p.cc)/\ztR (Bw w wr)) (λi _=>c.credit.length-(intOf i).toNat)
   case atStart=>exact⟨0,ztX _,rfl,I rfl,g,n,a⟩
   clear g n a;obtain⟨k,hk,rfl,h,g,n,a⟩:=hrel;by_cases o:k<c.credit.length
   . obtain⟨b,X,x,P,y⟩:=HA.1.credit.cells (by omega);rw[x];obtain⟨z,d,b8,⟨c0,c1,c2,c3⟩,s,l⟩:=(y.keep (a.1.mono hB)).at k o;have Y:b<wr.heap.size:=by have:=a.1.size;omega
     have HF:=I s;have E:=I (l.keep ((J wr (oE (eAt c.credit k) z d)).mono (by have:=a.1.size;omega)));have q:=I (ztS a.1 (J wr (oE (eAt c.credit k) z d)));have r:=I (g.1.below (J wr (oE (eAt c.credit k) z d)));have A:=I (n.1.below (J wr (oE (eAt c.credit k) z d)));clear l y s g n x;go_wp2_with fail;refine(zgc B S T Q c.consts p.ca p.cc (by omega) c.consts.length (by omega) 1 2 (eAt c.credit k) z d _ A.1 HF.1 E.1).mono ?_;rintro e w2 ⟨rfl,u,t⟩;have H:=I u;have K:=I (r.1.grown t (by simp;omega));have C:=I (zgV q.1 t R);have F:expE (typX c.consts c.consts.length 1 (eAt c.credit k)) 2=xErr c k:=rfl;rw[F];clear u t r A q E F;by_cases v:xErr c k=0
     . have f:=I (h.1.trans (zcS o v));rw[v];go_wp2_with fail;go_roundw
       case rel=>exact⟨k+1,by omega,by go_num,f,K,H,C⟩
       case measure=>simp[intOf];omega
     have f:=I (h.1.trans (zbN o v));have N:=I (show valT c=xErr c k from a7.1.trans (by rw[f.1]));have Z:(xErr c k !=0)=true:=by simpa using v
     go_wp2_with fail;go_ret;exact⟨ze N.1.symm,C.1⟩
   obtain rfl:k=c.credit.length:=by omega
   have f:=I (h.1.trans (zb9 _ _));have N:=I (show valT c=0 from a7.1.trans f.1);go_wp2_with fail;go_ret;exact⟨ze N.1.symm,a.1⟩
 have f:=I (show valT c=valG c from if_pos e0);have e4:(valG c !=0)=true:=by simpa using e0
 go_wp2_with fail;go_ret;exact⟨ze f.1.symm,q.1⟩
def zaP(n:Int):Int:=if n < -1099511627776 then -1099511627776 else if 1099511627776<n then 1099511627776 else n
def inR(n:Int):Prop:=-1099511627776<=n/\n<=1099511627776
theorem zlC(n:Int):inR (zaP n):=by unfold zaP inR;split <;> (try split) <;> omega
theorem zdm{n:Int}(h:inR n):zaP n=n:=by unfold zaP inR at*;rw[if_neg (by omega),if_neg (by omega)]
theorem zb5(n:Int)(w:World):Calls prog 137 #[n] w λe w'=>e=.returned (zaP n)/\w=w':=by
 go_enter func137,ntmps137
 go_wp2_with fail
 all_goals (go_ret;exact⟨ze (by unfold zaP;(repeat' split) <;> omega),rfl⟩)
theorem zmJ(a b:Int)(w:World)(g:inR a)(h:inR b):Calls prog 140 #[a,b] w λe c=>e=.returned (zaP (a+b))/\w=c:=by
 obtain⟨j,k⟩:=g;obtain⟨l,m⟩:=h;by_cases n:0<=a <;> by_cases o:0<=b
 . have i:0<=a+b:=by omega
   go_enter func140,ntmps140
   go_wp2_with (go_at_call 137;refine cb (zb5 _ _) ?_)
   go_ret;exact⟨rfl,rfl⟩
 . have d:b<0:=by omega
   go_enter func140,ntmps140
   go_wp2_with (go_at_call 137;refine cb (zb5 _ _) ?_)
   go_ret;exact⟨rfl,rfl⟩
 . have f:a<0:=by omega
   go_enter func140,ntmps140
   go_wp2_with (go_at_call 137;refine cb (zb5 _ _) ?_)
   go_ret;exact⟨rfl,rfl⟩
 have f:a<0:=by omega
 have d:b<0:=by omega
 have i:a+b<0:=by omega
 go_enter func140,ntmps140
 go_wp2_with (go_at_call 137;refine cb (zb5 _ _) ?_)
 go_ret;exact⟨rfl,rfl⟩
theorem zbi(n:Int)(w:World)(h:inR n):Calls prog 207 #[n] w λe w'=>e=.returned (.int .u64 (n.natAbs:Int))/\w=w':=by
 obtain⟨a,b⟩:=h;by_cases c:n<0
 . go_enter func207,ntmps207
   go_wp2_with fail;go_ret;refine⟨ze ?_,rfl⟩;simp only[IntKind.wrap_u64];omega
 go_enter func207,ntmps207
 go_wp2_with fail;go_ret;refine⟨ze ?_,rfl⟩;try simp only[IntKind.wrap_u64]
 omega
theorem zjH(a:Nat)(b:a<18446744073709551616):bits .and .u64 (a:Int) 4294967295=((a%4294967296:Nat):Int):=by
 have h:=bits_and_u64_nat a 4294967295 b (by omega);have e:a &&& 4294967295=a%4294967296:=Nat.and_two_pow_sub_one_eq_mod a 32;rw[e]at h;exact h
theorem zsS(a:Nat):(a:Int)/4294967296=((a/4294967296:Nat):Int):=by omega
theorem zsR(a b:Nat):(a:Int)*(b:Int)=((a*b:Nat):Int):=(Int.natCast_mul a b).symm
theorem zsT(a b:Nat):(a:Int)+(b:Int)=((a+b:Nat):Int):=(Int.natCast_add a b).symm
theorem zcL(a:Nat)(b:a<18446744073709551616):IntKind.u64.wrap (a:Int)=(a:Int):=by rw[IntKind.wrap_u64];omega
theorem zqf(a:Nat):IntKind.u64.wrap (a:Int)=((a%18446744073709551616:Nat):Int):=by rw[IntKind.wrap_u64];omega
theorem zfH(x y:Nat)(i:x<18446744073709551616)(j:y<18446744073709551616)(w:World):
 Calls prog 206 #[.int .u64 x,.int .u64 y] w λe w'=>e=.returned (.tuple #[.int .u64 ((x*y/18446744073709551616:Nat):Int),.int .u64 ((x*y%18446744073709551616:Nat):Int)])/\w=w':=by
 obtain⟨l,k,m,c⟩:=Lib.mul64_hi x y i j;have o:=Lib.half_mul_le (a:=x/4294967296) (b:=y/4294967296) (by omega) (by omega);have p:=Lib.half_mul_le (a:=x/4294967296) (b:=y%4294967296) (by omega) (by omega);have q:=Lib.half_mul_le (a:=x%4294967296) (b:=y/4294967296) (by omega) (by omega);have d:x/4294967296*(y/4294967296)<18446744073709551616:=by omega
 have f:x/4294967296*(y%4294967296)<18446744073709551616:=by omega
 have g:x%4294967296*(y/4294967296)<18446744073709551616:=by omega
 have h:x/4294967296*(y/4294967296)+(x/4294967296*(y%4294967296)+x%4294967296*(y%4294967296)/4294967296)/4294967296<18446744073709551616:=by omega
 have n:x/4294967296*(y/4294967296)+(x/4294967296*(y%4294967296)+x%4294967296*(y%4294967296)/4294967296)/4294967296+((x/4294967296*(y%4294967296)+x%4294967296*(y%4294967296)/4294967296)%4294967296+x%4294967296*(y/4294967296))/4294967296<18446744073709551616:=by omega
 go_enter func206,ntmps206
 go_wp2
 simp only[zjH x i,zjH y j,zsS,zsR,zsT,zcL _ l,zcL _ f,zcL _ k,zjH _ k,zcL _ g,zcL _ m,zcL _ d,zcL _ h,zcL _ n,zqf (x*y)];rw[c];go_ret2;exact⟨rfl,rfl⟩
def mulV(a b:Int):Int:=zaP (a*b)
theorem zqa(a b:Int)(w:World)(h:inR a)(i:inR b):Calls prog 185 #[a,b] w λe c=>e=.returned (mulV a b)/\w=c:=by
 have j:a.natAbs<18446744073709551616:=by unfold inR at h;omega
 have k:b.natAbs<18446744073709551616:=by unfold inR at i;omega
 have r:0<=(a.natAbs:Int)*(b.natAbs:Int):=Int.mul_nonneg (by omega) (by omega);by_cases l:a<0 <;> by_cases m:b<0
 . have d:=I (show a*b=(a.natAbs:Int)*(b.natAbs:Int) by
    have f:a=-(a.natAbs:Int):=by omega
    have g:b=-(b.natAbs:Int):=by omega
    generalize a.natAbs=p at*;generalize b.natAbs=q at*;subst f g;simp[Int.neg_mul,Int.mul_neg])
   have n:decide (a<0)=true:=by simpa using l
   have o:decide (b<0)=true:=by simpa using m
   go_enter func185,ntmps185
   go_wp2_with fail;refine cb (zbi a w h) ?_;go_wp2_with fail;refine cb (zbi b w i) ?_;go_wp2_with fail;refine cb (zfH a.natAbs b.natAbs j k w) ?_;go_wp2_with fail
   all_goals (go_ret;exact⟨ze (by rw[mulV,d.1];unfold zaP;(repeat' split) <;> omega),rfl⟩)
 . have d:=I (show a*b=-((a.natAbs:Int)*(b.natAbs:Int)) by
    have f:a=-(a.natAbs:Int):=by omega
    have g:b=(b.natAbs:Int):=by omega
    generalize a.natAbs=p at*;generalize b.natAbs=q at*;subst f g;simp[Int.neg_mul,Int.mul_neg])
   have n:decide (a<0)=true:=by simpa using l
   have o:decide (b<0)=false:=by simpa using m
   go_enter func185,ntmps185
   go_wp2_with fail;refine cb (zbi a w h) ?_;go_wp2_with fail;refine cb (zbi b w i) ?_;go_wp2_with fail;refine cb (zfH a.natAbs b.natAbs j k w) ?_;go_wp2_with fail
   all_goals (go_ret;exact⟨ze (by rw[mulV,d.1];unfold zaP;(repeat' split) <;> omega),rfl⟩)
 . have d:=I (show a*b=-((a.natAbs:Int)*(b.natAbs:Int)) by
    have f:a=(a.natAbs:Int):=by omega
    have g:b=-(b.natAbs:Int):=by omega
    generalize a.natAbs=p at*;generalize b.natAbs=q at*;subst f g;simp[Int.neg_mul,Int.mul_neg])
   have n:decide (a<0)=false:=by simpa using l
   have o:decide (b<0)=true:=by simpa using m
   go_enter func185,ntmps185
   go_wp2_with fail;refine cb (zbi a w h) ?_;go_wp2_with fail;refine cb (zbi b w i) ?_;go_wp2_with fail;refine cb (zfH a.natAbs b.natAbs j k w) ?_;go_wp2_with fail
   all_goals (go_ret;exact⟨ze (by rw[mulV,d.1];unfold zaP;(repeat' split) <;> omega),rfl⟩)
 have d:=I (show a*b=(a.natAbs:Int)*(b.natAbs:Int) by
  have f:a=(a.natAbs:Int):=by omega
  have g:b=(b.natAbs:Int):=by omega
  generalize a.natAbs=p at*;generalize b.natAbs=q at*;subst f g;simp[Int.neg_mul,Int.mul_neg])
 have n:decide (a<0)=false:=by simpa using l
 have o:decide (b<0)=false:=by simpa using m
 go_enter func185,ntmps185
 go_wp2_with fail;refine cb (zbi a w h) ?_;go_wp2_with fail;refine cb (zbi b w i) ?_;go_wp2_with fail;refine cb (zfH a.natAbs b.natAbs j k w) ?_;go_wp2_with fail
 all_goals (go_ret;exact⟨ze (by rw[mulV,d.1];unfold zaP;(repeat' split) <;> omega),rfl⟩)
def divV(a b:Int):Int:=if b=0 then 0 else if a.tmod b=0 then a.tdiv b else if decide (a<0)=decide (b<0) then a.tdiv b else a.tdiv b-1
theorem zlP{a b:Int}(c:inR a):inR (a.tdiv b):=by
 have h:(a.tdiv b).natAbs<=a.natAbs:=by rw[Int.natAbs_tdiv];exact Nat.div_le_self _ _
 unfold inR at*
 omega
theorem zmX{a b:Int}(e:inR a)(f:b≠0)(c:a.tmod b≠0):-549755813888<=a.tdiv b/\a.tdiv b<=549755813888:=by
 have d:2<=b.natAbs:=by
  have g:b≠1:=by rintro rfl;simp at c
  have d:b≠-1:=by rintro rfl;simp at c
  omega
 have h:(a.tdiv b).natAbs<=a.natAbs/2:=by rw[Int.natAbs_tdiv];exact Nat.div_le_div_left d (by omega)
 unfold inR at*
 omega
theorem ztg{a b:Int}(c:inR a):inR (divV a b):=by
 unfold divV
 by_cases d:b=0
 . rw[if_pos d];unfold inR;omega
 rw[if_neg d];by_cases e:a.tmod b=0
 . rw[if_pos e];exact zlP c
 rw[if_neg e];split
 . exact zlP c
 have:=zmX c d e;unfold inR;omega
theorem ztf(a b:Int)(w:World)(q:inR a)(s:inR b):Calls prog 186 #[a,b] w λe g=>e=.returned (divV a b)/\w=g:=by
 have i:=q;obtain⟨t,u⟩:=q;obtain⟨z,A⟩:=s;by_cases f:b=0
 . subst f;go_enter func186,ntmps186
   go_wp2_with fail;go_ret;exact⟨rfl,rfl⟩
 by_cases r:b=-1
 . subst r;go_enter func186,ntmps186
   go_wp2_with fail;refine cb (zqa a (-1) w ⟨t,u⟩ (by unfold inR;omega)) ?_;go_wp2_with fail;go_ret;exact⟨ze (by rw[mulV,divV,if_neg (by omega),if_pos (by simp),zdm (by unfold inR;omega)];simp),rfl⟩
 have B:(b==0)=false:=by simpa using f
 have C:(b==-1)=false:=by simpa using r
 obtain⟨v,x⟩:=zlP (b:=b) i;by_cases c:a.tmod b=0
 . have d:=I (show divV a b=zaP (a.tdiv b) by rw[divV,if_neg f,if_pos c,zdm ⟨v,x⟩]);have m:(a.tmod b !=0)=false:=by simpa using c
   have l:0<=a->(a%b !=0)=false:=λh=>by rw[<-Int.tmod_eq_emod_of_nonneg h];exact m
   clear c i;go_enter func186,ntmps186
   go_wp2_with (go_at_call 137;refine cb (zb5 _ _) ?_)
   go_ret;exact⟨ze d.1.symm,rfl⟩
 obtain⟨D,E⟩:=zmX i f c;have m:(a.tmod b !=0)=true:=by simpa using c
 have y:¬ a.tmod b=0:=c;by_cases n:a<0 <;> by_cases o:b<0
 . have j:decide (a<0)=true:=by simpa using n
   have k:decide (b<0)=true:=by simpa using o
   have d:=I (show divV a b=zaP (a.tdiv b) by rw[divV,if_neg f,if_neg c,if_pos (by rw[j,k]),zdm (by unfold inR;omega)]);clear c i;go_enter func186,ntmps186
   go_wp2_with (go_at_call 137;refine cb (zb5 _ _) ?_)
   go_ret;exact⟨ze d.1.symm,rfl⟩
 . have j:decide (a<0)=true:=by simpa using n
   have k:decide (b<0)=false:=by simpa using o
   have d:=I (show divV a b=zaP (a.tdiv b-1) by rw[divV,if_neg f,if_neg c,if_neg (by rw[j,k];decide),zdm (by unfold inR;omega)]);clear c i;go_enter func186,ntmps186
   go_wp2_with (go_at_call 137;refine cb (zb5 _ _) ?_)
   go_ret;exact⟨ze d.1.symm,rfl⟩
 . have j:decide (a<0)=false:=by simpa using n
   have k:decide (b<0)=true:=by simpa using o
   have l:(a%b !=0)=true:=by rw[<-Int.tmod_eq_emod_of_nonneg (by omega)];exact m
   have p:¬ a%b=0:=by rw[<-Int.tmod_eq_emod_of_nonneg (by omega)];exact c
   have d:=I (show divV a b=zaP (a.tdiv b-1) by rw[divV,if_neg f,if_neg c,if_neg (by rw[j,k];decide),zdm (by unfold inR;omega)]);clear c i;go_enter func186,ntmps186
   go_wp2_with (go_at_call 137;refine cb (zb5 _ _) ?_)
   go_ret;exact⟨ze d.1.symm,rfl⟩
 have j:decide (a<0)=false:=by simpa using n
 have k:decide (b<0)=false:=by simpa using o
 have l:(a%b !=0)=true:=by rw[<-Int.tmod_eq_emod_of_nonneg (by omega)];exact m
 have p:¬ a%b=0:=by rw[<-Int.tmod_eq_emod_of_nonneg (by omega)];exact c
 have d:=I (show divV a b=zaP (a.tdiv b) by rw[divV,if_neg f,if_neg c,if_pos (by rw[j,k]),zdm (by unfold inR;omega)]);clear c i;go_enter func186,ntmps186
 go_wp2_with (go_at_call 137;refine cb (zb5 _ _) ?_)
 go_ret;exact⟨ze d.1.symm,rfl⟩
theorem zfg{P:Program}{f:FuncId}{a:Array Value}{w:World}{v:Value}(h:Calls P f a w λe w'=>e=.returned v/\w=w'):Calls P f a w λe w'=>e=.returned v/\Bw w w':=
 h.mono λ_ _ ⟨he,hw⟩=>⟨he,hw ▸ ztT _ _⟩
def zc2(b:Bool):Int:=if b=true then 1 else 0
theorem zfO(b:Bool)(w:World):Calls prog 131 #[.bool b] w λe w'=>e=.returned (zc2 b)/\w=w':=by
 cases b
 all_goals
  go_enter func131,ntmps131
  go_wp2
  go_ret;exact⟨rfl,rfl⟩
def zuR:Int->List Duty->Int
 |n, []=>n
 |n,d::L=>if n<1000 then zuR (n+1+d.length) L else n
def zvz(L:List Duty):Bool:=decide (zuR 0 L<100)
theorem zv4{n:Int}{L:List Duty}{k:Nat}(h:¬ (k<L.length/\n<1000)):zuR n (L.drop k)=n:=by
 by_cases a:k<L.length
 . rw[zv3 L k a,zuR,if_neg (by omega)]
 rw[List.drop_of_length_le (by omega),zuR]
theorem zv5{n:Int}{L:List Duty}{k:Nat}(a:k<L.length)(b:n<1000):zuR n (L.drop k)=zuR (n+1+(dAt L k).length) (L.drop (k+1)):=by
 rw[zv3 L k a,zuR,if_pos b]
theorem zu5(p:ByteArray)(L:List Duty)(b a cap:Nat)(w:World)(t:L.length<=140737488355328)(l:b<w.heap.size)(o:zuX w b a L):
 Calls prog 7 #[.agg #[.string p,.slice (some ⟨b,a,none⟩) L.length cap]] w λe w'=>e=.returned (.bool (zvz L))/\Bw w w':=by
 go_enter func7,ntmps7
 go_wp2_with fail;generalize hW:w.alloc (oP p (some ⟨b,a,none⟩) L.length cap)=W;have d:Bw w W:=by rw[<-hW];exact J _ _
 have u:W.cell? ⟨w.heap.size,1,none⟩=some (.slice (some ⟨b,a,none⟩) L.length cap):=by clear d;subst hW;go_simp
 clear hW;have h:=o.below l d;go_loop [3,4] (λm i=>∃(k:Nat) (n:Int),k<=L.length/\i=.int .i64 k/\m=.int .i64 n/\0<=n/\n<=4000000000000000000/\ztR (zuR 0 L=zuR n (L.drop k))) (λ_ i=>L.length-(intOf i).toNat)
 case atStart=>exact⟨0,0,ztX _,rfl,rfl,by omega,by omega,I rfl⟩
 obtain⟨k,n,v,rfl,rfl,q,r,c⟩:=hrel;by_cases g:k<L.length/\n<1000
 . obtain⟨j,s⟩:=g;obtain⟨x,y,z,A,_⟩:=h k j;have f:=I (c.1.trans (zv5 j s));go_wp2_with fail;go_round
   case rel=>exact⟨k+1,n+1+(dAt L k).length,by omega,by go_num,by go_num,by omega,by omega,f⟩
   case measure=>simp[intOf];omega
 have f:=I (c.1.trans (zv4 g));by_cases j:k<L.length
 all_goals
  go_wp2_with fail;go_ret;exact⟨zaA (by rw[zvz,f.1]),d⟩
theorem zvj(p:ByteArray)(a:zua)(cap:Nat)(w:World):
 Calls prog 7 #[.agg #[.string p,.slice a 0 cap]] w λe w'=>e=.returned (.bool (zvz []))/\Bw w w':=by
 go_enter func7,ntmps7
 go_wp2_with fail;go_loop [3,4] (λm i=>m=.int .i64 0/\i=.int .i64 0) (λ_ _=>0)
 case atStart=>exact⟨rfl,rfl⟩
 obtain⟨rfl,rfl⟩:=hrel;go_wp2_with fail;go_ret;exact⟨rfl,J _ _⟩
theorem zu7(p:ByteArray)(L:List Duty)(a:zua)(cap:Nat)(w:World)(d:L.length<=140737488355328)(f:SlAt dutyRT w a L):
 Calls prog 7 #[.agg #[.string p,.slice a L.length cap]] w λe w'=>e=.returned (.bool (zvz L))/\Bw w w':=by
 by_cases h:0<L.length
 . obtain⟨b,c,rfl,g,i⟩:=zuQ f h;exact zu5 p L b c cap w d g i
 obtain rfl:L= []:=List.length_eq_zero_iff.1 (by omega);exact zvj p a cap w
def bndB(c f t:Int):Bool:=if f<=t then decide (f<=c)&&decide (c<t) else decide (f<=c) || decide (c<t)
def minF:Int->List Int->Int
 |a, []=>a
 |a,x::l=>minF (min a x) l
def maxF:Int->List Int->Int
 |a, []=>a
 |a,x::l=>maxF (max a x) l
def op2V(o a b:Int):Int:=
 if o=8 then zaP (a+b) else if o=9 then zaP (a+-b) else if o=10 then mulV a b else if o=11 then divV a b
 else if o=16 then zc2 (decide (a<b)) else if o=17 then zc2 (decide (a<=b)) else if o=18 then zc2 (a==b)
 else if o=20 then(if a=0 then 0 else b) else if o=21 then(if a=0 then b else 1) else(if a=0 then 1 else b)
def opV(o:Int)(v:List Int):Int:=
 if o=7 then zaP (0+-iAt v 0) else if o=12 then minF (iAt v 0) (v.drop 1) else if o=13 then maxF (iAt v 0) (v.drop 1)
 else if o=14 then(if iAt v 0≠0 then iAt v 1 else iAt v 2) else if o=15 then zc2 (bndB (iAt v 0) (iAt v 1) (iAt v 2))
 else if o=19 then 1-iAt v 0 else op2V o (iAt v 0) (iAt v 1)
inductive zE where
 |mk (op num:Int) (args:List zE)
def zE.op:zE->Int
 | .mk o _ _=>o
def zE.num:zE->Int
 | .mk _ n _=>n
def zE.args:zE->List zE
 | .mk _ _ l=>l
def gAt(l:List zE)(k:Nat):zE:=l.getD k (.mk 0 0 [])
theorem g_drop(l:List zE)(k:Nat)(h:k<l.length):l.drop k=gAt l k::l.drop (k+1):=by
 rw[gAt,List.drop_eq_getElem_cons h,zt0,zt1 h];rfl
theorem zqr{l:List zE}{k:Nat}(h:k<l.length):gAt l k∈l:=by
 unfold gAt;rw[zt0,zt1 h];exact List.getElem_mem h
theorem zkP{o n:Int}{l:List zE}{k:Nat}(h:k<l.length):SizeOf.sizeOf (gAt l k)<SizeOf.sizeOf (zE.mk o n l):=by
 have:=List.sizeOf_lt_of_mem (zqr h);simp only[zE.mk.sizeOf_spec];omega
mutual
def fval(q:List Int):zE->Int
 | .mk o n l=>if o=1 then n else if o=6 then iAt q n.toNat else opV o (za5 q l)
def za5(q:List Int):List zE->List Int
 |[]=> []
 |x::l=>fval q x::za5 q l
end
def isB(v:Int):Prop:=v=0\/v=1
mutual
def fok(q:List Int):zE->Prop
 | .mk o n l=>if o=1 then inR n else if o=6 then(0<=n/\n<q.length/\inR (iAt q n.toNat)) else(7<=o/\o<=22/\zL o l.length=true/\(19<=o->∀k,k<l.length->isB (iAt (za5 q l) k))/\fokL q l)
def fokL(q:List Int):List zE->Prop
 |[]=>True
 |x::l=>fok q x/\fokL q l
end
theorem zcM(q:List Int):∀l,(za5 q l).length=l.length
 |[]=>rfl
 |x::l=>by rw[za5,List.length_cons,List.length_cons,zcM q l]
theorem zbk(q:List Int):∀(l:List zE) (k:Nat),k<l.length->iAt (za5 q l) k=fval q (gAt l k)
 |[],k,h=>by simp at h
 |x::l,0,h=>rfl
 |x::l,k+1,h=>by
  rw[za5];exact zbk q l k (by simpa using h)
theorem zcc{q:List Int}:∀{l:List zE},fokL q l->∀k,k<l.length->fok q (gAt l k)
 |[],_,k,h=>by simp at h
 |x::l,hl,0,h=>by rw[fokL]at hl;exact hl.1
 |x::l,hl,k+1,h=>by rw[fokL]at hl;exact zcc hl.2 k (by simpa using h)
theorem zqd:∀(l:List Int) (a:Int),inR a->(∀k,k<l.length->inR (iAt l k))->inR (minF a l)
 |[],a,h,_=>h
 |x::l,a,h,hl=>zqd l (min a x) (by have:=hl 0 (by simp);simp only[iAt,List.getD_cons_zero]at this;unfold inR at*;omega) (λk hk=>hl (k+1) (by simpa using hk))
theorem zqe:∀(l:List Int) (a:Int),inR a->(∀k,k<l.length->inR (iAt l k))->inR (maxF a l)
 |[],a,h,_=>h
 |x::l,a,h,hl=>zqe l (max a x) (by have:=hl 0 (by simp);simp only[iAt,List.getD_cons_zero]at this;unfold inR at*;omega) (λk hk=>hl (k+1) (by simpa using hk))
theorem znm(b:Bool):inR (zc2 b):=by cases b <;> (unfold inR;decide)
theorem zlg(v:List Int)(k:Nat):iAt (v.drop 1) k=iAt v (k+1):=by
 cases v with
 |nil=>simp[iAt]
 |cons x v=>rfl
theorem zqv{o:Int}{n:Nat}(h:zL o n=true)(a:7<=o):1<=n:=by
 have e:∀k:Int,k<=6->(o==k)=false:=λk hk=>by simp;omega
 simp only[zL,e 1 (by omega),e 2 (by omega),e 3 (by omega),e 4 (by omega),e 5 (by omega),e 6 (by omega),zt4,if_false]at h;(repeat' split at h) <;> simp at h <;> omega
theorem zsI{o a b:Int}(c:inR a)(d:inR b):inR (op2V o a b):=by
 unfold op2V
 (repeat' split) <;> first|exact zlC _|exact ztg c|exact znm _|exact d|(unfold inR;omega)
theorem opV_in{o:Int}{v:List Int}(m:7<=o)(n:o<=22)(p:zL o v.length=true)(q:19<=o->∀k,k<v.length->isB (iAt v k))(i:∀k,k<v.length->inR (iAt v k)):inR (opV o v):=by
 have r:=zqv p m;have j:=i 0 (by omega);have a:∀k,inR (iAt v k):=λk=>by
  by_cases g:k<v.length
  . exact i k g
  have:iAt v k=0:=by simp[iAt,zt0,List.getElem?_eq_none (Nat.le_of_not_lt g)]
  rw[this];unfold inR;omega
 unfold opV
 by_cases l:o=7
 . rw[if_pos l];exact zlC _
 rw[if_neg l];by_cases b:o=12
 . rw[if_pos b];exact zqd _ _ j (λk g=>by rw[zlg];exact a _)
 rw[if_neg b];by_cases c:o=13
 . rw[if_pos c];exact zqe _ _ j (λk g=>by rw[zlg];exact a _)
 rw[if_neg c];by_cases d:o=14
 . rw[if_pos d];split <;> exact a _
 rw[if_neg d];by_cases e:o=15
 . rw[if_pos e];exact znm _
 rw[if_neg e];by_cases f:o=19
 . rw[if_pos f];rcases q (by omega) 0 (by omega) with h|h <;> rw[h] <;> unfold inR <;> omega
 rw[if_neg f];exact zsI (a 0) (a 1)
mutual
theorem zcb{q:List Int}:∀(f:zE),fok q f->inR (fval q f)
 | .mk o n l,h=>by
  rw[fok]at h;rw[fval];by_cases b:o=1
  . rw[if_pos b]at h ⊢;exact h
  rw[if_neg b]at h ⊢;by_cases c:o=6
  . rw[if_pos c]at h ⊢;exact h.2.2
  rw[if_neg c]at h ⊢;obtain⟨d,a,e,g,i⟩:=h;exact opV_in d a (by rw[zcM];exact e) (λh k hk=>g h k (by rwa [zcM]at hk)) (zjN l i)
theorem zjN{q:List Int}:∀(l:List zE),fokL q l->∀k,k<(za5 q l).length->inR (iAt (za5 q l) k)
 |[],_=>λk hk=>by simp[za5]at hk
 |x::l,h=>λk hk=>by
  rw[fokL]at h;rw[za5]at hk ⊢;cases k with
  |zero=>exact zcb x h.1
  |succ k=>exact zjN l h.2 k (by simpa using hk)
end
inductive zX(X:Nat->Prop)(w:World):Nat->Nat->List zE->Prop
 |nil (b off:Nat):zX X w b off []
 |cons {b off b' off':Nat} {f:zE} {l:List zE} {a:zua} {cap:Nat} (hb:b<w.heap.size) (hX:¬ X b)
  (h0:w.cell? ⟨b,off,none⟩=some (.int .i64 f.op)) (h1:w.cell? ⟨b,off+1,none⟩=some (.int .i64 f.num)) (h2:w.cell? ⟨b,off+2,none⟩=some (.slice a f.args.length cap))
  (hl:f.args.length<=140737488355328) (ha:f.args≠ []->a=some ⟨b',off',none⟩) (hx:zX X w b' off' f.args) (ht:zX X w b (off+3) l):zX X w b off (f::l)
def zax(X:Nat->Prop)(w:World)(a:zua)(l:List zE):Prop:=∃b off,(l≠ []->a=some ⟨b,off,none⟩)/\zX X w b off l
theorem zX.step{X X':Nat->Prop}{w w':World}{b d:Nat}{l:List zE}(h:zX X w b d l)(g:w.heap.size<=w'.heap.size)(i:∀b,b<w.heap.size->¬ X b->w'.heap[b]?=w.heap[b]?)(k:∀b,b<w.heap.size->X' b->X b):zX X' w' b d l:=by
 induction h with
 |nil b d=>exact .nil b d
 | @cons b d b' off' f l a cap hb hXb h0 h1 h2 hl ha hx ht ih1 ih2=>
  have e:=i b hb hXb;have c:∀j,w'.cell? ⟨b,j,none⟩=w.cell? ⟨b,j,none⟩:=λj=>by simp only[World.cell?,e]
  exact .cons (ztU hb g) (λh=>hXb (k b hb h)) ((c _).trans h0) ((c _).trans h1) ((c _).trans h2) hl ha ih1 ih2
theorem zX.kept{X:Nat->Prop}{w w':World}{b a:Nat}{l:List zE}(h:zX X w b a l)(c:Bw w w'):zX X w' b a l:=h.step c.size (λb hlt _=>c.block b hlt) (λ_ _ h=>h)
theorem zax.step{X X':Nat->Prop}{w w':World}{a:zua}{l:List zE}(h:zax X w a l)(d:w.heap.size<=w'.heap.size)(e:∀b,b<w.heap.size->¬ X b->w'.heap[b]?=w.heap[b]?)(f:∀b,b<w.heap.size->X' b->X b):zax X' w' a l:=by
 obtain⟨b,c,g,i⟩:=h;exact⟨b,c,g,i.step d e f⟩
theorem zax.below{X:Nat->Prop}{w w':World}{a:zua}{l:List zE}(h:zax X w a l)(d:Bw w w'):zax X w' a l:=by
 obtain⟨b,c,e,f⟩:=h;exact⟨b,c,e,f.kept d⟩
theorem zX.at{X:Nat->Prop}{w:World}{b c:Nat}{l:List zE}(h:zX X w b c l)(k:Nat)(d:k<l.length):zX X w b (c+k*3) [gAt l k]:=by
 induction h generalizing k with
 |nil b c=>simp at d
 | @cons b c b' off' f l a cap hb hXb h0 h1 h2 hl ha hx ht ih1 ih2=>
  cases k with
  |zero=>rw[Nat.zero_mul,Nat.add_zero];exact .cons hb hXb h0 h1 h2 hl ha hx (.nil _ _)
  |succ k=>
   have:=ih2 k (by simpa using d);have e:c+(k+1)*3=c+3+k*3:=by omega
   rw[e];exact this
theorem zX.one{X:Nat->Prop}{w:World}{b c:Nat}{f:zE}(h:zX X w b c [f]):∃a cap,b<w.heap.size/\w.cell? ⟨b,c,none⟩=some (.int .i64 f.op)/\w.cell? ⟨b,c+1,none⟩=some (.int .i64 f.num)/\w.cell? ⟨b,c+2,none⟩=some (.slice a f.args.length cap)/\f.args.length<=140737488355328/\zax X w a f.args:=by
 cases h with
 | @cons _ _ b' off' _ _ a cap hb hXb h0 h1 h2 hl ha hx ht=>exact⟨a,cap,hb,h0,h1,h2,hl,b',off',ha,hx⟩
theorem zX.lt{X:Nat->Prop}{w:World}{b a:Nat}{l:List zE}(h:zX X w b a l)(c:0<l.length):b<w.heap.size:=by
 cases h with
 |nil=>simp at c
 |cons hb _ _ _ _ _ _ _ _=>exact hb
theorem zax.cells{X:Nat->Prop}{w:World}{a:zua}{l:List zE}(h:zax X w a l)(d:0<l.length):∃b c,a=some ⟨b,c,none⟩/\b<w.heap.size/\zX X w b c l:=by
 obtain⟨b,c,f,e⟩:=h;exact⟨b,c,f (by rintro rfl;simp at d),e.lt d,e⟩
theorem zfx(b:Bool)(w:World):Calls prog 138 #[.bool b] w λe w'=>e=.returned (zc2 b)/\w=w':=by
 cases b
 all_goals
  go_enter func138,ntmps138
  go_wp2_with fail;go_ret;exact⟨rfl,rfl⟩
theorem zmj(c f t:Int)(w:World):Calls prog 139 #[c,f,t] w λe w'=>e=.returned (.bool (bndB c f t))/\w=w':=by
 by_cases b:f<=t <;> by_cases d:f<=c
 . have a:=I (show bndB c f t=decide (c<t) by simp[bndB,b,d]);go_enter func139,ntmps139
   go_wp2_with fail;go_ret;exact⟨zz a.1.symm,rfl⟩
 . have a:=I (show bndB c f t=false by simp[bndB,b,d]);go_enter func139,ntmps139
   go_wp2_with fail;go_ret;exact⟨zz a.1.symm,rfl⟩
 . have a:=I (show bndB c f t=true by simp[bndB,b,d]);go_enter func139,ntmps139
   go_wp2_with fail;go_ret;exact⟨zz a.1.symm,rfl⟩
 have a:=I (show bndB c f t=decide (c<t) by simp[bndB,b,d]);go_enter func139,ntmps139
 go_wp2_with fail;go_ret;exact⟨zz a.1.symm,rfl⟩
theorem zmB(o a b:Int)(w:World)(i:inR a)(h:inR b)(f:8<=o/\o<=11\/16<=o/\o<=18\/20<=o/\o<=22)(d:19<=o->isB a/\isB b):Calls prog 141 #[o,a,b] w λe g=>e=.returned (op2V o a b)/\w=g:=by
 have u:=h.1;have v:=h.2;by_cases s:o=8
 . subst s;clear d f;have c:=I (show op2V 8 a b=zaP (a+b) by simp[op2V]);go_enter func141,ntmps141
   go_wp2_with fail;refine cb (zmJ a b w i h) ?_;go_wp2_with fail;go_ret;exact⟨ze c.1.symm,rfl⟩
 by_cases t:o=9
 . subst t;clear d f;have c:=I (show op2V 9 a b=zaP (a+-b) by simp[op2V]);go_enter func141,ntmps141
   go_wp2_with fail;refine cb (zmJ a (-b) w i (by unfold inR at*;omega)) ?_;go_wp2_with fail;go_ret;exact⟨ze c.1.symm,rfl⟩
 by_cases j:o=10
 . subst j;clear d f;have c:=I (show op2V 10 a b=mulV a b by simp[op2V]);go_enter func141,ntmps141
   go_wp2_with fail;refine cb (zqa a b w i h) ?_;go_wp2_with fail;go_ret;exact⟨ze c.1.symm,rfl⟩
 by_cases k:o=11
 . subst k;clear d f;have c:=I (show op2V 11 a b=divV a b by simp[op2V]);go_enter func141,ntmps141
   go_wp2_with fail;refine cb (ztf a b w i h) ?_;go_wp2_with fail;go_ret;exact⟨ze c.1.symm,rfl⟩
 by_cases l:o=16
 . subst l;clear d f;have c:=I (show op2V 16 a b=zc2 (decide (a<b)) by simp[op2V]);go_enter func141,ntmps141
   go_wp2_with fail;refine cb (zfx (decide (a<b)) w) ?_;go_wp2_with fail;go_ret;exact⟨ze c.1.symm,rfl⟩
 by_cases m:o=17
 . subst m;clear d f;have c:=I (show op2V 17 a b=zc2 (decide (a<=b)) by simp[op2V]);go_enter func141,ntmps141
   go_wp2_with fail;refine cb (zfx (decide (a<=b)) w) ?_;go_wp2_with fail;go_ret;exact⟨ze c.1.symm,rfl⟩
 by_cases n:o=18
 . subst n;clear d f;have c:=I (show op2V 18 a b=zc2 (a==b) by simp[op2V]);go_enter func141,ntmps141
   go_wp2_with fail;refine cb (zfx (a==b) w) ?_;go_wp2_with fail;go_ret;exact⟨ze c.1.symm,rfl⟩
 have p:o=20\/o=21\/o=22:=by omega
 obtain⟨q,r⟩:=d (by omega);clear d f i h u v s t j k l m n;rcases q with rfl|rfl <;> rcases r with rfl|rfl <;> rcases p with rfl|rfl|rfl
 all_goals
  go_enter func141,ntmps141
  go_wp2_with fail;go_ret;exact⟨ze (by first|(simp[op2V];done)|rfl),rfl⟩
def ValS(q:List Int)(aa:zua)(ac:Nat)(X:Nat->Prop)(f:zE):Prop:=∀(b off:Nat) (w:World),zX X w b off [f]->fok q f->zW w aa q->Calls prog 94 #[.pointer (some ⟨b,off,none⟩),.slice aa q.length ac] w λe w'=>e=.returned (fval q f)/\Below w.heap.size w w'
theorem zj{w w':World}{b o:Nat}{v:Value}(h:w.cell? ⟨b,o,none⟩=some v)(a:b<w.heap.size)(c:Bw w w'):w'.cell? ⟨b,o,none⟩=some v:=(c.cell (p:=⟨b,o,none⟩) a).trans h
theorem zdB{q:List Int}{o n:Int}{l:List zE}(h:fok q (.mk o n l))(a:o≠1)(b:o≠6):7<=o/\o<=22/\zL o l.length=true/\(19<=o->∀k,k<l.length->isB (iAt (za5 q l) k))/\fokL q l:=by
 rw[fok,if_neg a,if_neg b]at h;exact h
theorem zfk{q:List Int}{o n:Int}{l:List zE}(a:o≠1)(b:o≠6):fval q (.mk o n l)=opV o (za5 q l):=by rw[fval,if_neg a,if_neg b]
theorem znD(q:List Int)(k:zua)(p:Nat)(X:Nat->Prop)(o n:Int)(l:List zE)(r:o=1\/o=6)(B:q.length<=140737488355328):ValS q k p X (.mk o n l):=by
 intro b s w e c f;obtain⟨a,t,C,u,v,x,D,h⟩:=e.one;simp only[zE.op,zE.num,zE.args]at u v x;rcases r with rfl|rfl
 . have g:=I (show fval q (.mk 1 n l)=n by rw[fval,if_pos rfl]);clear e c f h;go_enter func94,ntmps94
   go_wp2_with fail;go_ret;exact⟨ze g.1.symm,ztT _ _⟩
 rw[fok,if_neg (by decide),if_pos rfl]at c;obtain⟨i,y,_⟩:=c;obtain⟨m,rfl⟩:=Int.eq_ofNat_of_zero_le i;have g:=I (show fval q (.mk 6 m l)=iAt q m by rw[fval,if_neg (by decide),if_pos rfl,Int.toNat_natCast]);have z:m<q.length:=by omega
 obtain⟨E,j,rfl,A,d⟩:=f.cells (by omega);have F:=d m z;clear e f h d i y;go_enter func94,ntmps94
 go_wp2_with fail;go_ret;exact⟨ze g.1.symm,ztT _ _⟩
theorem zrf(q:List Int)(A:zua)(B:Nat)(X:Nat->Prop)(n:Int)(l:List zE)(hq:q.length<=140737488355328)(y:ztR (∀k,k<l.length->ValS q A B X (gAt l k))):ValS q A B X (.mk 14 n l):=by
 intro b R w C r D;obtain⟨a,S,T,E,F,u,G,v⟩:=C.one;simp only[zE.op,zE.num,zE.args]at E F u G;replace v:zax X w a l:=v;obtain⟨h7,U,i,m,f⟩:=zdB r (by decide) (by decide);have j:l.length=3:=by simp[zL]at i;omega
 have H:=I D;obtain⟨p,c,rfl,V,h⟩:=v.cells (by omega);have W:=I (show zX X w p c [gAt l 0] from h.at 0 (by omega));have K:=I (zcc f 0 (by omega));have Y:=I (zbk q l 0 (by omega));have Z:=zcb _ K.1;have F1:=I (show zX X w p (c+3) [gAt l 1] from h.at 1 (by omega));have L:=I (zcc f 1 (by omega));have v1:=I (zbk q l 1 (by omega));have R1:=zcb _ L.1;have F2:=I (show zX X w p (c+6) [gAt l 2] from h.at 2 (by omega));have M:=I (zcc f 2 (by omega));have v2:=I (zbk q l 2 (by omega));have R2:=zcb _ M.1;have N:=I (show fval q (.mk 14 n l)=if fval q (gAt l 0)≠0 then fval q (gAt l 1) else fval q (gAt l 2) by rw[zfk (by decide) (by decide),<-Y.1,<-v1.1,<-v2.1];simp[opV]);have I0:=I (y.1 0 (by omega));have I1:=I (y.1 1 (by omega));have I2:=I (y.1 2 (by omega));clear C r D v h f i m Z R1 R2;rw[j]at u;clear j G;go_enter func94,ntmps94
 go_wp2_with fail;refine ca (I0.1 p c w W.1 K.1 H.1) λP d=>?_;have Q:=zj u T d;have a0:=d.size;have G1:=I (F1.1.kept d);have G2:=I (F2.1.kept d);have s:=I (H.1.below d);have t:=I d;clear d E F u;by_cases x:fval q (gAt l 0)=0
 . have z:=I (N.1.trans (if_neg (by simpa using x)));rw[x];go_wp2_with fail;refine ca (I2.1 p (c+6) P G2.1 M.1 s.1) λw2 g=>?_;have o:=I (ztS t.1 g);clear g Q;go_wp2_with fail;go_ret;exact⟨ze z.1.symm,o.1⟩
 have z:=I (N.1.trans (if_pos (by simpa using x)));have e1:(fval q (gAt l 0) !=0)=true:=by simpa using x
 go_wp2_with fail;refine ca (I1.1 p (c+3) P G1.1 L.1 s.1) λw2 g=>?_;have o:=I (ztS t.1 g);clear g Q;go_wp2_with fail;go_ret;exact⟨ze z.1.symm,o.1⟩
theorem zoT(q:List Int)(s:zua)(t:Nat)(X:Nat->Prop)(n:Int)(l:List zE)(R:q.length<=140737488355328)(C:ztR (∀k,k<l.length->ValS q s t X (gAt l k))):ValS q s t X (.mk 7 n l):=by
 intro b D w u i v;obtain⟨a,E,S,x,y,p,z,o⟩:=u.one;simp only[zE.op,zE.num,zE.args]at x y p z;replace o:zax X w a l:=o;obtain⟨T,F,c,h,d⟩:=zdB i (by decide) (by decide);have f:l.length=1:=by simp[zL]at c;omega
 have G:=I v;obtain⟨A,g,rfl,H,j⟩:=o.cells (by omega);have K:=I (show zX X w A g [gAt l 0] from j.at 0 (by omega));have B:=I (zcc d 0 (by omega));have L:=I (zbk q l 0 (by omega));have M:=zcb _ B.1;have N:=I (show fval q (.mk 7 n l)=zaP (-fval q (gAt l 0)) by rw[zfk (by decide) (by decide),<-L.1];simp[opV]);have P:=I (C.1 0 (by omega));obtain⟨U,V⟩:=M;clear u i v o j d c h;rw[f]at p;clear f z;go_enter func94,ntmps94
 go_wp2_with fail;refine ca (P.1 A g w K.1 B.1 G.1) λQ m=>?_;have r:=I m;clear m x y p;go_wp2_with fail;refine cb (zmJ 0 (-fval q (gAt l 0)) Q (by unfold inR;omega) (by unfold inR;omega)) ?_;go_wp2_with fail;go_ret;exact⟨ze N.1.symm,r.1⟩
theorem zoS(q:List Int)(u:zua)(v:Nat)(X:Nat->Prop)(n:Int)(l:List zE)(S:q.length<=140737488355328)(F:ztR (∀k,k<l.length->ValS q u v X (gAt l k))):ValS q u v X (.mk 19 n l):=by
 intro b G w x j y;obtain⟨a,H,T,z,A,s,B,p⟩:=x.one;simp only[zE.op,zE.num,zE.args]at z A s B;replace p:zax X w a l:=p;obtain⟨U,K,d,c,f⟩:=zdB j (by decide) (by decide);have g:l.length=1:=by simp[zL]at d;omega
 have L:=I y;obtain⟨C,i,rfl,M,m⟩:=p.cells (by omega);have N:=I (show zX X w C i [gAt l 0] from m.at 0 (by omega));have D:=I (zcc f 0 (by omega));have E:=I (zbk q l 0 (by omega));have P:=zcb _ D.1;have Q:=I (show fval q (.mk 19 n l)=1-fval q (gAt l 0) by rw[zfk (by decide) (by decide),<-E.1];simp[opV]);have r:=c (by decide) 0 (by omega);rw[E.1]at r;have V:0<=fval q (gAt l 0):=by rcases r with h|h <;> omega
 have W:fval q (gAt l 0)<=1:=by rcases r with h|h <;> omega
 clear r;have R:=I (F.1 0 (by omega));obtain⟨Y,Z⟩:=P;clear x j y p m f d c;rw[g]at s;clear g B;go_enter func94,ntmps94
 go_wp2_with fail;refine ca (R.1 C i w N.1 D.1 L.1) λw1 o=>?_;have t:=I o;clear o z A s;go_wp2_with fail;go_ret;exact⟨ze Q.1.symm,t.1⟩
theorem zre(q:List Int)(C:zua)(D:Nat)(X:Nat->Prop)(n:Int)(l:List zE)(hq:q.length<=140737488355328)(r:ztR (∀k,k<l.length->ValS q C D X (gAt l k))):ValS q C D X (.mk 15 n l):=by
 intro b M w E m F;obtain⟨a,N,hb,P,Q,s,G,p⟩:=E.one;simp only[zE.op,zE.num,zE.args]at P Q s G;replace p:zax X w a l:=p;obtain⟨h7,R,g,i,e⟩:=zdB m (by decide) (by decide);have h:l.length=3:=by simp[zL]at g;omega
 have t:=I F;obtain⟨j,c,rfl,S,f⟩:=p.cells (by omega);have T:=I (show zX X w j c [gAt l 0] from f.at 0 (by omega));have H:=I (zcc e 0 (by omega));have U:=I (zbk q l 0 (by omega));have V:=zcb _ H.1;have W:=I (show zX X w j (c+3) [gAt l 1] from f.at 1 (by omega));have K:=I (zcc e 1 (by omega));have Y:=I (zbk q l 1 (by omega));have Z:=zcb _ K.1;have F2:=I (show zX X w j (c+6) [gAt l 2] from f.at 2 (by omega));have L:=I (zcc e 2 (by omega));have v2:=I (zbk q l 2 (by omega));have R2:=zcb _ L.1;have hz:=I (show fval q (.mk 15 n l)=zc2 (bndB (fval q (gAt l 0)) (fval q (gAt l 1)) (fval q (gAt l 2))) by rw[zfk (by decide) (by decide),<-U.1,<-Y.1,<-v2.1];simp[opV]);have u:=I (λd os=>ztZ (r.1 0 (by omega) j c (grow (redrawn w d) os) (T.1.kept (below_regrown w d os)) H.1 (t.1.below (below_regrown w d os))));have v:=I (λd os=>ztZ (r.1 1 (by omega) j (c+3) (grow (redrawn w d) os) (W.1.kept (below_regrown w d os)) K.1 (t.1.below (below_regrown w d os))));have x:=I (λd os=>ztZ (r.1 2 (by omega) j (c+6) (grow (redrawn w d) os) (F2.1.kept (below_regrown w d os)) L.1 (t.1.below (below_regrown w d os))));have y:=I (λd os=>ztZ (zfg (zmj (fval q (gAt l 0)) (fval q (gAt l 1)) (fval q (gAt l 2)) (grow (redrawn w d) os))));have z:=I (λd os=>ztZ (zfg (zfx (bndB (fval q (gAt l 0)) (fval q (gAt l 1)) (fval q (gAt l 2))) (grow (redrawn w d) os))));clear E m F p f e g i V Z R2;rw[h]at s;clear h G;go_enter func94,ntmps94
 go_wp2_with fail;have r2:=λd os=>cell_regrown s d os
 refine wp_region_quiet_below (by kernel_rfl) (by kernel_rfl) ?_;repeat (first|go_big_quiet_step (first|(with_reducible exact u.1 _ _)|(with_reducible exact v.1 _ _)|(with_reducible exact x.1 _ _)|(with_reducible exact y.1 _ _)|(with_reducible exact z.1 _ _))|quiet_step (first|(with_reducible exact u.1 _ _)|(with_reducible exact v.1 _ _)|(with_reducible exact x.1 _ _)|(with_reducible exact y.1 _ _)|(with_reducible exact z.1 _ _)))
 refine wpQuiet_nil ?_;intro _ A;obtain⟨⟨dq,B⟩,o⟩:=A;subst o;clear r2 u v x y z;go_wp2_with fail;go_ret;exact⟨ze hz.1.symm,below_regrown w dq B⟩
theorem zoR(q:List Int)(C:zua)(D:Nat)(X:Nat->Prop)(o n:Int)(l:List zE)(E:8<=o/\o<=11\/16<=o/\o<=18\/20<=o/\o<=22)(hq:q.length<=140737488355328)(F:ztR (∀k,k<l.length->ValS q C D X (gAt l k))):ValS q C D X (.mk o n l):=by
 intro b W w G m H;obtain⟨a,Y,hb,K,Z,t,L,r⟩:=G.one;simp only[zE.op,zE.num,zE.args]at K Z t L;replace r:zax X w a l:=r;obtain⟨h7,u,g,c,f⟩:=zdB m (by omega) (by omega);have n1:(o==1)=false:=by simp;omega
 have n6:(o==6)=false:=by simp;omega
 have a0:(o==14)=false:=by simp;omega
 have a1:(o==12)=false:=by simp;omega
 have a2:(o==13)=false:=by simp;omega
 have a3:(o==15)=false:=by simp;omega
 have n7:(o==7)=false:=by simp;omega
 have a4:(o==19)=false:=by simp;omega
 have i:l.length=2:=by
  obtain rfl|rfl|rfl|rfl|rfl|rfl|rfl|rfl|rfl|rfl:o=8\/o=9\/o=10\/o=11\/o=16\/o=17\/o=18\/o=20\/o=21\/o=22:=by omega
  all_goals (simp[zL]at g;omega)
 have M:=I H;obtain⟨s,e,rfl,a5,j⟩:=r.cells (by omega);have F0:=I (show zX X w s e [gAt l 0] from j.at 0 (by omega));have N:=I (zcc f 0 (by omega));have P:=I (zbk q l 0 (by omega));have Q:=zcb _ N.1;have F1:=I (show zX X w s (e+3) [gAt l 1] from j.at 1 (by omega));have R:=I (zcc f 1 (by omega));have S:=I (zbk q l 1 (by omega));have T:=zcb _ R.1
 have hz:=I (show fval q (.mk o n l)=op2V o (fval q (gAt l 0)) (fval q (gAt l 1)) by
  rw[zfk (by omega) (by omega),<-P.1,<-S.1,opV,if_neg (by omega),if_neg (by omega),if_neg (by omega),if_neg (by omega),if_neg (by omega),if_neg (by omega)])
 have v:=I (show 19<=o->isB (fval q (gAt l 0))/\isB (fval q (gAt l 1)) from λh=>by
  have U:=c h 0 (by omega);have V:=c h 1 (by omega);rw[P.1]at U;rw[S.1]at V;exact⟨U,V⟩)
 have x:=I (λd os=>ztZ (F.1 0 (by omega) s e (grow (redrawn w d) os) (F0.1.kept (below_regrown w d os)) N.1 (M.1.below (below_regrown w d os))));have y:=I (λd os=>ztZ (F.1 1 (by omega) s (e+3) (grow (redrawn w d) os) (F1.1.kept (below_regrown w d os)) R.1 (M.1.below (below_regrown w d os))));have z:=I (λd os=>ztZ (zfg (zmB o (fval q (gAt l 0)) (fval q (gAt l 1)) (grow (redrawn w d) os) Q T E v.1)));clear G m H r j f g c Q T E h7 u;rw[i]at t;clear i L;go_enter func94,ntmps94
 go_wp2_with fail;have r0:=λd os=>cell_regrown K d os
 have r2:=λd os=>cell_regrown t d os
 refine wp_region_quiet_below (by kernel_rfl) (by kernel_rfl) ?_;repeat (first|go_big_quiet_step (first|(with_reducible exact x.1 _ _)|(with_reducible exact y.1 _ _)|(with_reducible exact z.1 _ _))|quiet_step (first|(with_reducible exact x.1 _ _)|(with_reducible exact y.1 _ _)|(with_reducible exact z.1 _ _)))
 refine wpQuiet_nil ?_;intro _ A;obtain⟨⟨dq,B⟩,p⟩:=A;subst p;clear r0 r2 x y z;go_wp2_with fail;go_ret;exact⟨ze hz.1.symm,below_regrown w dq B⟩
theorem zoU(q:List Int)(C:zua)(D:Nat)(X:Nat->Prop)(n:Int)(l:List zE)(hq:q.length<=140737488355328)(E:ztR (∀k,k<l.length->ValS q C D X (gAt l k))):ValS q C D X (.mk 12 n l):=by
 intro b S w F s G;obtain⟨a,T,x,H,U,K,V,v⟩:=F.one;simp only[zE.op,zE.num,zE.args]at H U K V;replace v:zax X w a l:=v;obtain⟨h7,W,o,p,d⟩:=zdB s (by decide) (by decide);have L:2<=l.length:=by simp[zL]at o;omega
 have M:=I G;obtain⟨y,f,rfl,Y,r⟩:=v.cells (by omega);have Z:=I r;have HK:=I d;have F0:=I (show zX X w y f [gAt l 0] from r.at 0 (by omega));have K0:=I (zcc d 0 (by omega));have v0:=I (zbk q l 0 (by omega));have Hz:=I (show fval q (.mk 12 n l)=minF (fval q (gAt l 0)) ((za5 q l).drop 1) by rw[zfk (by decide) (by decide),<-v0.1];simp[opV]);have I0:=I (E.1 0 (by omega));clear F s G v r d o p;go_enter func94,ntmps94
 go_wp2_with fail;refine ca (I0.1 y f w F0.1 K0.1 M.1) λw1 t=>?_;have u:=I t;clear t;go_wp2_with fail;go_loopw [5,6] (λnn i wr=>∃(k:Nat) (g:Int),1<=k/\k<=l.length/\i=.int .i64 k/\nn=.int .i64 g/\ztR (minF (fval q (gAt l 0)) ((za5 q l).drop 1)=minF g ((za5 q l).drop k))/\ztR (Bw w wr)) (λ_ i _=>l.length-(intOf i).toNat)
 case atStart=>exact⟨1,_,by omega,by omega,rfl,rfl,I rfl,u⟩
 clear u w1;obtain⟨k,g,a0,hk,rfl,rfl,h,c⟩:=hrel;have N:=zj H x c.1;have d2:=zj K x c.1;have z:=c.1.size;by_cases j:k<l.length
 . have P:=I ((Z.1.at k j).kept c.1);have Q:=I (zcc HK.1 k j);have R:=I (E.1 k j)
   have A:=I (h.1.trans (by
    rw[zhG (za5 q l) k (by rw[zcM];exact j),minF,zbk q l k j]))
   go_wp2_with fail;refine ca (R.1 y (f+k*3) wr P.1 Q.1 (M.1.below c.1)) λw2 m=>?_;have g0:=zj N (ztU x z) m;have a1:=m.size;have B:=I (ztS c.1 m);clear m N d2 P Q R h;go_wp2_with fail;go_roundw
   case rel=>exact⟨k+1,min g (fval q (gAt l k)),by omega,by omega,by go_num,by(congr 1;first|(split <;> omega)|omega),A,B⟩
   case measure=>simp[intOf];omega
 obtain rfl:k=l.length:=by omega
 have hr:=I (show fval q (.mk 12 n l)=g from Hz.1.trans (h.1.trans (by rw[List.drop_of_length_le (by rw[zcM];exact ztY _),minF])));go_wp2_with fail;go_ret;exact⟨ze hr.1.symm,c.1⟩
theorem zoV(q:List Int)(C:zua)(D:Nat)(X:Nat->Prop)(n:Int)(l:List zE)(hq:q.length<=140737488355328)(E:ztR (∀k,k<l.length->ValS q C D X (gAt l k))):ValS q C D X (.mk 13 n l):=by
 intro b S w F s G;obtain⟨a,T,x,H,U,K,V,v⟩:=F.one;simp only[zE.op,zE.num,zE.args]at H U K V;replace v:zax X w a l:=v;obtain⟨h7,W,o,p,d⟩:=zdB s (by decide) (by decide);have L:2<=l.length:=by simp[zL]at o;omega
 have M:=I G;obtain⟨y,f,rfl,Y,r⟩:=v.cells (by omega);have Z:=I r;have HK:=I d;have F0:=I (show zX X w y f [gAt l 0] from r.at 0 (by omega));have K0:=I (zcc d 0 (by omega));have v0:=I (zbk q l 0 (by omega));have Hz:=I (show fval q (.mk 13 n l)=maxF (fval q (gAt l 0)) ((za5 q l).drop 1) by rw[zfk (by decide) (by decide),<-v0.1];simp[opV]);have I0:=I (E.1 0 (by omega));clear F s G v r d o p;go_enter func94,ntmps94
 go_wp2_with fail;refine ca (I0.1 y f w F0.1 K0.1 M.1) λw1 t=>?_;have u:=I t;clear t;go_wp2_with fail;go_loopw [5,6] (λnn i wr=>∃(k:Nat) (g:Int),1<=k/\k<=l.length/\i=.int .i64 k/\nn=.int .i64 g/\ztR (maxF (fval q (gAt l 0)) ((za5 q l).drop 1)=maxF g ((za5 q l).drop k))/\ztR (Bw w wr)) (λ_ i _=>l.length-(intOf i).toNat)
 case atStart=>exact⟨1,_,by omega,by omega,rfl,rfl,I rfl,u⟩
 clear u w1;obtain⟨k,g,a0,hk,rfl,rfl,h,c⟩:=hrel;have N:=zj H x c.1;have d2:=zj K x c.1;have z:=c.1.size;by_cases j:k<l.length
 . have P:=I ((Z.1.at k j).kept c.1);have Q:=I (zcc HK.1 k j);have R:=I (E.1 k j)
   have A:=I (h.1.trans (by
    rw[zhG (za5 q l) k (by rw[zcM];exact j),maxF,zbk q l k j]))
   go_wp2_with fail;refine ca (R.1 y (f+k*3) wr P.1 Q.1 (M.1.below c.1)) λw2 m=>?_;have g0:=zj N (ztU x z) m;have a1:=m.size;have B:=I (ztS c.1 m);clear m N d2 P Q R h;go_wp2_with fail;go_roundw
   case rel=>exact⟨k+1,max g (fval q (gAt l k)),by omega,by omega,by go_num,by(congr 1;first|(split <;> omega)|omega),A,B⟩
   case measure=>simp[intOf];omega
 obtain rfl:k=l.length:=by omega
 have hr:=I (show fval q (.mk 13 n l)=g from Hz.1.trans (h.1.trans (by rw[List.drop_of_length_le (by rw[zcM];exact ztY _),maxF])));go_wp2_with fail;go_ret;exact⟨ze hr.1.symm,c.1⟩
theorem zfs(q:List Int)(a:zua)(c:Nat)(X:Nat->Prop)(d:q.length<=140737488355328)(f:zE):ValS q a c X f:=by
 obtain⟨m,u⟩:∃m,m=SizeOf.sizeOf f:=⟨_,rfl⟩;induction m using Nat.strongRecOn generalizing f with
 |_ m ih=>
  subst u;obtain⟨o,n,l⟩:=f;have e:∀k,k<l.length->ValS q a c X (gAt l k):=λk hk=>ih _ (zkP hk) _ rfl
  by_cases v:o=1\/o=6
  . exact znD q a c X o n l v d
  by_cases i:o=14
  . subst i;exact zrf q a c X n l d e
  by_cases x:o=7
  . subst x;exact zoT q a c X n l d e
  by_cases j:o=19
  . subst j;exact zoS q a c X n l d e
  by_cases p:o=15
  . subst p;exact zre q a c X n l d e
  by_cases r:o=12
  . subst r;exact zoU q a c X n l d e
  by_cases s:o=13
  . subst s;exact zoV q a c X n l d e
  intro b t w y g z;have h:=zdB g (by omega) (by omega);exact zoR q a c X o n l (by omega) d e b t w y g z
def zI:List ByteArray:= [⟨#[108,101,103,115]⟩,⟨#[104,101,97,100,115]⟩,⟨#[116,121,112,101,115]⟩,⟨#[98,108,111,99,107]⟩,⟨#[115,112,97,110]⟩,⟨#[110,105,103,104,116]⟩,⟨#[108,111,110,103,101,115,116]⟩,⟨#[115,104,111,114,116,101,115,116]⟩,⟨#[115,104,105,102,116]⟩,⟨#[115,116,97,114,116]⟩,⟨#[101,110,100]⟩]
def zbC:List ByteArray:= [⟨#[114,101,115,116]⟩,⟨#[110,105,103,104,116,115]⟩,⟨#[104,111,109,101]⟩]++zI.map (λs=>⟨#[98,101,102,111,114,101,46]⟩++s)++zI.map (λs=>⟨#[97,102,116,101,114,46]⟩++s)
def zcm:List ByteArray:= [⟨#[100,117,116,105,101,115]⟩,⟨#[108,101,103,115]⟩,⟨#[104,101,97,100,115]⟩,⟨#[100,97,121,115]⟩,⟨#[98,108,111,99,107]⟩,⟨#[115,112,97,110]⟩,⟨#[99,114,101,100,105,116]⟩]
def zk(k:Int):List ByteArray:=if k=1 then zI else if k=2 then zbC else if k=3 then zcm else []
def sAt(l:List ByteArray)(k:Nat):ByteArray:=l.getD k ByteArray.empty
def zai(w:World)(b off:Nat)(l:List ByteArray):Prop:=∀i,i<l.length->w.cell? ⟨b,off+i,none⟩=some (.string (sAt l i))
theorem zai.below{w w':World}{b a:Nat}{l:List ByteArray}(h:zai w b a l)(c:b<w.heap.size)(d:Bw w w'):zai w' b a l:=
 λi hi=>(d.cell (p:=⟨b,a+i,none⟩) c).trans (h i hi)
theorem zai.new(w:World)(l:List ByteArray)(e:TypeId):zai (w.alloc (.cells (l.map Value.string).toArray e)) w.heap.size 0 l:=by
 intro i a;rw[World.cell?_alloc_at _ _ _ _ rfl];simp[sAt,a]
theorem zdp(w:World):Calls prog 67 #[.int .i64 1] w λe w'=>(∃cap,e=.returned (.slice (some ⟨w.heap.size,0,none⟩) 11 cap))/\w.heap.size<w'.heap.size/\zai w' w.heap.size 0 zI/\Bw w w':=by
 go_enter func67,ntmps67
 go_wp2_with fail;go_ret;exact⟨⟨_,rfl⟩,by simp,zai.new w zI _,J _ _⟩
theorem zeI(w:World):Calls prog 67 #[.int .i64 3] w λe w'=>(∃cap,e=.returned (.slice (some ⟨w.heap.size,0,none⟩) 7 cap))/\w.heap.size<w'.heap.size/\zai w' w.heap.size 0 zcm/\Bw w w':=by
 go_enter func67,ntmps67
 go_wp2_with fail;go_ret;exact⟨⟨_,rfl⟩,by simp,zai.new w zcm _,J _ _⟩
theorem zh4(w:World):Calls prog 67 #[.int .i64 0] w λe w'=>e=.returned (.slice none 0 0)/\w=w':=by
 go_enter func67,ntmps67
 go_wp2_with fail;go_ret;exact⟨rfl,rfl⟩
end Go.Proofs.YtbhhejkolnigfaaGreat
