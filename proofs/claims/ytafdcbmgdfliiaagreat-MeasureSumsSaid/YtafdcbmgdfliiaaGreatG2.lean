/- a part of the proof -/
import Derived.Lib.Bytealg
import Derived.Lib.IndexMore
import Derived.BigCall
import Derived.OneCell
import Derived.Lib.BufferOwn
import Derived.DeepKeys3
import Derived.Test.YtafdcbmgdfliiaaGreatG1
set_option linter.all false
set_option maxRecDepth 100000
set_option maxHeartbeats 3000000
namespace Go.Proofs.YtafdcbmgdfliiaaGreat
open Go.RowKit Go.Proofs.Tryz
variable {B b c k:Nat}{w w':Wd}{a:Ae}
inductive zH where
 |mk (op num:Int) (name:BA) (args:List zH)
def zH.op:zH->Int
 | .mk o _ _ _=>o
def zH.num:zH->Int
 | .mk _ n _ _=>n
def zH.name:zH->BA
 | .mk _ _ s _=>s
def zH.args:zH->List zH
 | .mk _ _ _ l=>l
def Au(l:List zH)(k:Nat):zH:=l.getD k (.mk 0 0 ByteArray.empty [])
theorem Vx(l:List zH)(k:Nat)(h:k<l.length):l.drop k=Au l k::l.drop (k+1):=by
 grind[Au,List.drop_eq_getElem_cons]
theorem UZ{l:List zH}(h:k<l.length):Au l k∈l:=by
 grind[Au]
theorem Rc{x:zH}(h:k<x.args.length):SizeOf.sizeOf (Au x.args k)<SizeOf.sizeOf x:=by
 cases x with
 |mk o n s l=>
  have:=List.sizeOf_lt_of_mem (UZ (l:=l) h);grind[zH.args]
inductive Ou(B:Nat)(w:Wd):Nat->Nat->List zH->Prop
 |nil (b off:Nat):Ou B w b off []
 |cons {b off b' off':Nat} {x:zH} {l:List zH} {a:Ae} {cap:Nat} (hb:b<B)
  (h0:w.cell? (aD b off)=some (.int .i64 x.op)) (h1:w.cell? (aD b (off+1))=some (.int .i64 x.num)) (h2:w.cell? (aD b (off+2))=some (.string x.name))
  (h3:w.cell? (aD b (off+3))=some (.slice a x.args.length cap)) (hs:x.name.size<=140737488355328) (hl:x.args.length<=140737488355328)
  (g0:(Lit.int .i64 x.op).wf=true) (g1:(Lit.int .i64 x.num).wf=true) (ha:x.args≠ []->a=some (aD b' off')) (hx:Ou B w b' off' x.args) (ht:Ou B w b (off+4) l):Ou B w b off (x::l)
def Et(B:Nat)(w:Wd)(a:Ae)(l:List zH):Prop:=∃b off,(l≠ []->a=some (aD b off))/\Ou B w b off l
def Ia(x:zH):Prop:=x.name.size<=140737488355328/\x.args.length<=140737488355328/\(Lit.int .i64 x.op).wf=true/\(Lit.int .i64 x.num).wf=true
def Ou.keep{a:Nat}{l:List zH}(h:Ou B w b a l)(c:Below B w w'):Ou B w' b a l:=by
 induction h with
 |nil b a=>exact .nil b a
 |cons hb h0 h1 h2 h3 hs hl g0 g1 ha hx ht ih1 ih2=>
  exact .cons hb ((c.cell (p:=aD _ _) hb).trans h0) ((c.cell (p:=aD _ _) hb).trans h1) ((c.cell (p:=aD _ _) hb).trans h2) ((c.cell (p:=aD _ _) hb).trans h3) hs hl g0 g1 ha ih1 ih2
def Ou.more{a:Nat}{l:List zH}(h:Ou B w b a l)(d:B<=c):Ou c w b a l:=by
 induction h with
 |nil b a=>exact .nil b a
 |cons hb h0 h1 h2 h3 hs hl g0 g1 ha hx ht ih1 ih2=>exact .cons (As hb d) h0 h1 h2 h3 hs hl g0 g1 ha ih1 ih2
def Et.keep{l:List zH}(h:Et B w a l)(d:Below B w w'):Et B w' a l:=by
 obtain⟨b,c,e,f⟩:=h;exact⟨b,c,e,f.keep d⟩
def Et.more{d:Nat}{l:List zH}(h:Et B w a l)(e:B<=d):Et d w a l:=by
 obtain⟨b,c,f,g⟩:=h;exact⟨b,c,f,g.more e⟩
def Ou.at{l:List zH}(h:Ou B w b c l)(k:Nat)(d:k<l.length):
 ∃a cap,b<B/\(w.cell? (aD b (c+k*4))=some (Bn (Au l k).op)/\w.cell? (aD b (c+k*4+1))=some (Bn (Au l k).num)/\w.cell? (aD b (c+k*4+2))=some (B_ (Au l k).name)/\
  w.cell? (aD b (c+k*4+3))=some (CU a (Au l k).args.length cap))/\Ia (Au l k)/\Et B w a (Au l k).args:=by
 induction h generalizing k with
 |nil b c=>simp at d
 | @cons b c b' off' x l a cap hb h0 h1 h2 h3 hs hl g0 g1 ha hx ht ih1 ih2=>
  cases k with
  |zero=>exact⟨a,cap,hb,⟨by simpa[Au] using h0,by simpa[Au] using h1,by simpa[Au] using h2,by simpa[Au] using h3⟩,⟨hs,hl,g0,g1⟩,b',off',ha,hx⟩
  |succ k=>
   have:=ih2 k (by simpa using d);have e:c+(k+1)*4=c+4+k*4:=by omega
   have f:Au (x::l) (k+1)=Au l k:=rfl;rw[e,f];exact this
theorem Et.cells{l:List zH}(h:Et B w a l)(d:0<l.length):∃b c,a=some (aD b c)/\b<B/\Ou B w b c l:=by
 obtain⟨b,c,f,e⟩:=h;have⟨_,_,g,_⟩:=e.at 0 d;grind
mutual
def Bq:zH->Nat
 | .mk _ _ _ l=>1+Dc l
def Dc:List zH->Nat
 |[]=>0
 |x::l=>Bq x+Dc l
end
mutual
def Il:zH->Nat
 | .mk _ _ _ l=>1+Im l
def Im:List zH->Nat
 |[]=>0
 |x::l=>max (Il x) (Im l)
end
mutual
def Da:Nat->Nat->zH->Bool×Nat
 |lv,n,.mk _ _ _ l=>if 200<n+1\/16<lv then(false,n+1) else Hb (lv+1) (n+1) l
def Hb:Nat->Nat->List zH->Bool×Nat
 |_,n, []=>(true,n)
 |lv,n,x::l=>if(Da lv n x).1=true then Hb lv (Da lv n x).2 l else(false,(Da lv n x).2)
end
mutual
def Dk:Nat->zH->Nat×Nat
 |lv,.mk _ _ _ l=>if 16<lv then(1,1) else Dv (lv+1) 1 1 l
def Dv:Nat->Nat->Nat->List zH->Nat×Nat
 |_,n,d, []=>(n,d)
 |lv,n,d,x::l=>if n<=200 then Dv lv (n+(Dk lv x).1) (max d ((Dk lv x).2+1)) l else(n,d)
end
mutual
theorem pG(x:zH):∀(a n:Nat),((Da a n x).1=true ↔ n+Bq x<=200/\a+Il x<=17)/\((Da a n x).1=true->(Da a n x).2=n+Bq x)/\n<=(Da a n x).2/\(Da a n x).2<=max n 201+1:=by
 intro a n;cases x with
 |mk o m s l=>
  rw[Da,Bq,Il];by_cases h:200<n+1\/16<a
  . grind
  rw[iN h];have⟨b,c,e,f⟩:=yS l (a+1) (n+1) (by omega) (by omega);grind
theorem yS(l:List zH):∀(b n:Nat),b<=17->n<=200->((Hb b n l).1=true ↔ n+Dc l<=200/\b+Im l<=17)/\((Hb b n l).1=true->(Hb b n l).2=n+Dc l)/\n<=(Hb b n l).2/\(Hb b n l).2<=max n 201+1:=by
 intro b n c r;cases l with
 |nil=>grind[Hb,Dc,Im]
 |cons x l=>
  rw[Hb,Dc,Im];have⟨d,j,k,m⟩:=pG x b n;by_cases h:(Da b n x).1=true
  . rw[iP h];have e:=j h;have g:=d.1 h;have⟨f,i,o,p⟩:=yS l b (Da b n x).2 c (by omega);grind
  grind
end
mutual
theorem xJ(x:zH):∀c:Nat,c<=17->(Bq x<=200/\c+Il x<=17->Dk c x=(Bq x,Il x))/\(¬ (Bq x<=200/\c+Il x<=17)->200<(Dk c x).1\/17<c+(Dk c x).2)/\1<=(Dk c x).1:=by
 intro c d;cases x with
 |mk o m s l=>
  rw[Dk,Bq,Il];by_cases h:16<c
  . grind
  rw[iN h];have⟨e,f,g⟩:=xK l (c+1) 1 1 (by omega);grind[Im]
theorem xK(l:List zH):∀e n d:Nat,e<=17->(n+Dc l<=200/\e+Im l<=17->Dv e n d l=(n+Dc l,max d (if l= [] then 0 else Im l+1)))/\(¬ (n+Dc l<=200/\e+Im l<=17)->200<(Dv e n d l).1\/18<e+(Dv e n d l).2)/\n<=(Dv e n d l).1/\d<=(Dv e n d l).2:=by
 intro e n d f;cases l with
 |nil=>
  grind[Dv,Dc,Im]
 |cons x l=>
  rw[Dv,Dc,Im];have⟨i,o,p⟩:=xJ x e f;by_cases h:n<=200
  . rw[iP h];have⟨j,g,k,m⟩:=xK l e (n+(Dk e x).1) (max d ((Dk e x).2+1)) f;grind[Im]
  grind
end
end Go.Proofs.YtafdcbmgdfliiaaGreat
namespace Go.Proofs.YtafdcbmgdfliiaaGreat
open Go.RowKit Go.Sort Go.Proofs.Tryz
def zz{a b:Bool}(h:a=b):Ending.returned (.bool a)=.returned (.bool b):=by rw[h]
def zL(o n:Int):Bool:=
 if(o==1)=true then n==0 else if(o==2)=true then n==0 else if(o==3)=true then n==0 else if(o==4)=true then n==0 else if(o==5)=true then n==0 else if(o==6)=true then n==0
 else if(o==7)=true then n==1 else if(o==19)=true then n==1 else if(o==12)=true then decide (2<=n) else if(o==13)=true then decide (2<=n) else if(o==14)=true then n==3 else if(o==15)=true then n==3 else n==2
def Mb(o:Int)(n:Nat)(w:Wd):CE 281 #[o,n] w (.bool (zL o n)):=by
 delta CE;go_in;go_wp2_with fail
 all_goals (go_ret;exact⟨Ip (by simp[zL, *] <;> omega),rfl⟩)
def Ar(n a b:Int):Bool:=decide (a<=n)&&decide (n<=b)
def Om{n a b:Int}:Ar n a b=true ↔ a<=n/\n<=b:=by simp[Ar]
def Iv(n a b:Int)(w:Wd):CE 218 #[n,a,b] w (.bool (Ar n a b)):=by
 by_cases h:a<=n
 all_goals
  delta CE;go_in
  go_wp2_with fail
  all_goals (go_ret;exact⟨Ip (by simp[Ar,h] <;> omega),rfl⟩)
def tD(n:Int)(w:Wd):CE 221 #[n] w (.bool (Ar n 1 3)):=by
 delta CE;go_in;go_wp2_with fail;refine cb (Iv _ _ _ _) ?_;go_wp2;go_ret;exact⟨rfl,rfl⟩
def zN(L:List (List UInt8))(s:BA):Bool:=L.any λx=>s.toList==x
def bA:List (List UInt8):= [[97,110,100], [111,114], [110,111,116], [105,109,112,108,105,101,115], [105,110], [116,111], [116,114,117,101], [102,97,108,115,101], [109,105,110], [109,97,120], [105,102], [116,104,101,110], [101,108,115,101]]
def Ug(s:BA):Bool:=zN bA s
def JP(s:BA)(w:Wd):CE 280 #[B_ s] w (.bool (Ug s)):=by
 delta CE;go_in;go_wp2_with fail
 all_goals (go_ret;exact⟨zz (by first|(simp only[Ug,zN,bA,List.any_cons,List.any_nil, *];rfl)|simp_all),rfl⟩)
def zZ(s:BA):Bool:=Gu s.data.toList && !Ug s
def eA(s:BA)(w:Wd)(b:s.size<=maxLen):CE 260 #[B_ s] w (.bool (zZ s)):=by
 cases c:Gu s.data.toList
 . delta CE;go_in;go_wp2_with fail;refine cb (Jh _ _ b) ?_;go_wp2;go_ret;exact⟨zz (by simp[zZ,c]),rfl⟩
 delta CE;go_in;go_wp2_with fail;refine cb (Jh _ _ b) ?_;go_wp2_with fail;refine cb (JP _ _) ?_;go_wp2;go_ret;exact⟨zz (by simp[zZ,c]),rfl⟩
def Kq(s:BA):Int:=Lib.indexByte s.data.toList 46
def KL(s:BA)(w:Wd):CE 305 #[B_ s,.int .u8 46] w (Kq s):=by
 delta CE;go_in;go_wp2;rw[run_callFunc_extern func310 (by kernel_rfl) (by kernel_rfl) (by kernel_rfl) (e:=Extern.BytealgIndexByte.indexByte) (by kernel_rfl),Lib.run_indexByteString];simp only[Result.andThen];rw[Oper.upon_value];go_wp2;go_ret;exact⟨rfl,rfl⟩
def TN{s:BA}(h:([46]==s.toList)=true):Kq s=0:=by
 have:s.data.toList= [46]:=by rw[<-Lib.toList_data];exact(beq_iff_eq.1 h).symm
 rw[Kq,this];rfl
theorem yP(s:BA)(w:Wd):CE 301 #[.string s,.string ⟨#[46]⟩] w (Kq s):=by
 cases h:([46]==s.toList)
 . delta CE;go_in;go_wp2_with fail;have a:((((⟨#[46]⟩:BA)[0]).toNat:Nat):Int)=46:=rfl;rw[a];refine cb (KL _ _) ?_;go_wp2;go_ret;exact⟨rfl,rfl⟩
 have c:=I (TN h);delta CE;go_in;go_wp2;go_ret;exact⟨ze c.1.symm,rfl⟩
theorem uG:∀(l:List UInt8) (c:UInt8),Lib.indexByte l c<l.length/\-1<=Lib.indexByte l c
 |[],c=>by simp[Lib.indexByte]
 |b::l,c=>by
  have:=uG l c;grind[Lib.indexByte]
theorem zsi(s:BA):Kq s<s.size/\-1<=Kq s:=by
 have:=uG s.data.toList 46;simp_all[Kq]
def zrO(s:BA)(k:Nat)(w:Wd)(b:s.size<=2^47)(c:k<s.size)(h:Af (Kq s=k)):CV 298 #[B_ s,B_ ⟨#[46]⟩] w (.tuple #[B_ (s.extract 0 k),B_ (s.extract (k+1) s.size),.bool true]):=by
 delta CV;go_in;go_wp2_with fail;refine cb (yP _ _) ?_;rw[h.1];go_wp2;go_quiet (fail);go_wp2;go_ret3;exact⟨rfl,dN (An _ _) _⟩
def VD(s:BA)(w:Wd)(h:Af (Kq s=-1)):CE 298 #[B_ s,B_ ⟨#[46]⟩] w (.tuple #[B_ s,B_ ByteArray.empty,.bool false]):=by
 delta CE;go_in;go_wp2_with fail;refine cb (yP _ _) ?_;rw[h.1];go_wp2;go_ret3;exact⟨rfl,rfl⟩
def AY(s:BA)(k:Nat)(w:Wd)(b:s.size<=2^47)(c:k<s.size)(h:Af (Kq s=k)):CV 290 #[B_ s,B_ ⟨#[46]⟩] w (.tuple #[B_ (s.extract 0 k),B_ (s.extract (k+1) s.size),.bool true]):=by
 delta CV;go_in;go_wp2_with fail;refine ca (zrO _ k _ b c h) λa d=>?_;go_wp2;go_ret3
 exact⟨rfl,d⟩
def Xe(s:BA)(w:Wd)(h:Af (Kq s=-1)):CE 290 #[B_ s,B_ ⟨#[46]⟩] w (.tuple #[B_ s,B_ ByteArray.empty,.bool false]):=by
 delta CE;go_in;go_wp2_with fail;refine cb (VD _ _ h) ?_;go_wp2;go_ret3;exact⟨rfl,rfl⟩
def Qr(s:BA):Bool:=if 0<=Kq s then Gu (s.data.toList.take (Kq s).toNat)&&Gu (s.data.toList.drop ((Kq s).toNat+1)) else zZ s
def sY(s:BA)(w:Wd)(j:s.size<=2^47):CV 282 #[B_ s] w (.bool (Qr s)):=by
 have l:=zsi s;have q:s.size<=maxLen:=by unfold maxLen;omega
 by_cases a:0<=Kq s
 . have⟨k,g⟩:=Int.eq_ofNat_of_zero_le a;have b:k<s.size:=by omega
   have d:=I g;have m:Qr s=(Gu (s.data.toList.take k)&&Gu (s.data.toList.drop (k+1))):=by rw[Qr,iP a,g];rfl
   have f:=I m;have n:(s.extract 0 k).size<=maxLen:=by unfold maxLen;simp;omega
   have r:(s.extract (k+1) s.size).size<=maxLen:=by unfold maxLen;simp;omega
   clear g m a l;have o:List.take (s.size-(k+1)) (List.drop (k+1) s.data.toList)=List.drop (k+1) s.data.toList:=List.take_of_length_le (by simp);have t:=I o;clear o;cases p:Gu (List.take k s.data.toList)
   . delta CV;go_in;go_wp2_with fail;refine ca (AY _ k _ j b d) λc h=>?_;go_wp2_with fail;refine cb (Jh _ _ n) ?_;go_wp2;go_ret;exact⟨zz (by rw[f.1,p];rfl),h⟩
   delta CV;go_in;go_wp2_with fail;refine ca (AY _ k _ j b d) λc h=>?_;go_wp2_with fail;refine cb (Jh _ _ n) ?_;go_wp2_with fail;refine cb (Jh _ _ r) ?_;go_wp2;go_ret;exact⟨zz (by rw[f.1,p,t.1];rfl),h⟩
 have d:=I (show Kq s=-1 by omega);have f:Af (Qr s=zZ s):=I (iN a);clear a l;delta CV;go_in;go_wp2_with fail;refine cb (Xe _ _ d) ?_;go_wp2_with fail;refine cb (eA _ _ q) ?_;go_wp2;go_ret;exact⟨zz f.1.symm,An _ _⟩
def Mm(o n:Int):Bool:=if(o==1)=true then Ar n 0 1099511627776 else if(o==2)=true then Ar n 0 1099511627776 else if(o==3)=true then Ar n 0 1439 else n==0
def Ni(o:Int)(s:BA):Bool:=if(o==6)=true then Qr s else s.toList.isEmpty
def Nr(o n:Int)(s:BA)(k:Nat):Bool:=Ar o 1 22&&zL o k&&Mm o n&&Ni o s
mutual
def Db:zH->Bool
 | .mk o n s l=>Nr o n s l.length&&Ib l
def Ib:List zH->Bool
 |[]=>true
 |x::l=>Db x&&Ib l
end
def Yu(l:List zH)(k:Nat)(h:k<l.length):Ib (l.drop k)=(Db (Au l k)&&Ib (l.drop (k+1))):=by rw[Vx l k h,Ib]
def UM(o n:Int)(s:BA)(a:Ae)(k cap:Nat)(w:Wd)(x:s.size<=2^47)(h:Nr o n s k=false):
 CV 262 #[.agg #[o,n,B_ s,CU a k cap]] w (.bool false):=by
 by_cases C:o<1
 . delta CV;go_in;go_wp2;go_ret;exact⟨rfl,J _ _⟩
 by_cases D:22<o
 . delta CV;go_in;go_wp2;go_ret;exact⟨rfl,J _ _⟩
 have r:Ar o 1 22=true:=by simp[Ar];omega
 rw[Nr,r,Bool.true_and]at h;have H:=I h;cases y:zL o k
 . delta CV;go_in;go_wp2_with (go_at_call 281;refine cb (Mb _ _ _) ?_);go_ret;exact⟨rfl,J _ _⟩
 have j:=I (H.1);rw[y,Bool.true_and]at j;cases b:Mm o n
 . by_cases f:o=1
   . subst f;have:n<0\/1099511627776<n:=by simp[Mm,Ar]at b;omega
     rcases this with d|d
     . delta CV;go_in;go_wp2_with (go_at_call 281;refine cb (Mb _ _ _) ?_);go_ret;exact⟨rfl,J _ _⟩
     delta CV;go_in;go_wp2_with (go_at_call 281;refine cb (Mb _ _ _) ?_);go_ret;exact⟨rfl,J _ _⟩
   by_cases g:o=2
   . subst g;have:n<0\/1099511627776<n:=by simp[Mm,Ar]at b;omega
     rcases this with d|d
     . delta CV;go_in;go_wp2_with (go_at_call 281;refine cb (Mb _ _ _) ?_);go_ret;exact⟨rfl,J _ _⟩
     delta CV;go_in;go_wp2_with (go_at_call 281;refine cb (Mb _ _ _) ?_);go_ret;exact⟨rfl,J _ _⟩
   by_cases i:o=3
   . subst i;have:n<0\/1439<n:=by simp[Mm,Ar]at b;omega
     rcases this with d|d
     . delta CV;go_in;go_wp2_with (go_at_call 281;refine cb (Mb _ _ _) ?_);go_ret;exact⟨rfl,J _ _⟩
     delta CV;go_in;go_wp2_with (go_at_call 281;refine cb (Mb _ _ _) ?_);go_ret;exact⟨rfl,J _ _⟩
   have m:=RZ f
   have p:=RZ g
   have q:=RZ i
   have t:(n !=0)=true:=by simpa[Mm,m,p,q] using b
   delta CV;go_in;go_wp2_with (go_at_call 281;refine cb (Mb _ _ _) ?_);go_ret;exact⟨rfl,J _ _⟩
 have l:Ni o s=false:=by have:=j.1;rwa [b,Bool.true_and]at this
 by_cases u:o=6
 . subst u;have t:(n !=0)=false:=by simpa[Mm] using b
   have z:Qr s=false:=by simpa[Ni] using l
   delta CV;go_in;go_wp2_with (go_at_call 281;refine cb (Mb _ _ _) ?_);refine ca (sY _ _ x) λc A=>?_;go_wp2;go_ret;exact⟨rfl,Ab (J _ _) A⟩
 have B:=RZ u
 have z:s.toList.isEmpty=false:=by simpa[Ni,B] using l
 by_cases f:o=1
 . subst f;obtain⟨d,v⟩:0<=n/\n<=1099511627776:=by simpa[Mm,Ar] using b
   delta CV;go_in;go_wp2_with (go_at_call 281;refine cb (Mb _ _ _) ?_);go_ret;exact⟨rfl,J _ _⟩
 by_cases g:o=2
 . subst g;obtain⟨d,v⟩:0<=n/\n<=1099511627776:=by simpa[Mm,Ar] using b
   delta CV;go_in;go_wp2_with (go_at_call 281;refine cb (Mb _ _ _) ?_);go_ret;exact⟨rfl,J _ _⟩
 by_cases i:o=3
 . subst i;obtain⟨d,v⟩:0<=n/\n<=1439:=by simpa[Mm,Ar] using b
   delta CV;go_in;go_wp2_with (go_at_call 281;refine cb (Mb _ _ _) ?_);go_ret;exact⟨rfl,J _ _⟩
 have m:=RZ f
 have p:=RZ g
 have q:=RZ i
 have t:(n !=0)=false:=by simpa[Mm,m,p,q] using b
 delta CV;go_in;go_wp2_with (go_at_call 281;refine cb (Mb _ _ _) ?_);go_ret;exact⟨rfl,J _ _⟩
def UL(o n:Int)(s:BA)(l:List zH)(a:Ae)(cap:Nat)(w:Wd)(B:Nat)(A:B<=w.heap.size)(hf:Ia (.mk o n s l))(ha:Et B w a l) 
 (T:Af (∀x:zH,SizeOf.sizeOf x<SizeOf.sizeOf (zH.mk o n s l)->∀(a:Ae) (cap:Nat) (w:Wd) (B:Nat),B<=w.heap.size->Ia x->Et B w a x.args->CV 262 #[.agg #[x.op,x.num,B_ x.name,CU a x.args.length cap]] w (.bool (Db x)))):
 CV 262 #[.agg #[o,n,B_ s,CU a l.length cap]] w (.bool (Db (.mk o n s l))):=by
 obtain⟨W,hl,_,_⟩:=hf;replace W:s.size<=2^47:=W;replace hl:l.length<=2^47:=hl;have U:=I ha;cases V:Nr o n s l.length;refine ca (UM o n s a l.length cap w W V) λE F=>?_;exact⟨zz (by rw[Db,V];rfl),F⟩
 have H:Af (Db (.mk o n s l)=Ib l):=I (by rw[Db,V,Bool.true_and]);simp only[Nr,Em]at V;obtain⟨⟨⟨g1,h3⟩,K⟩,X⟩:=V;have⟨h1,h2⟩:=Om.1 g1;by_cases o6:o=6
 . subst o6;have e4:(n !=0)=false:=by simpa[Mm] using K
   have h7:Qr s=true:=by simpa[Ni] using X
   delta CV;go_in;go_wp2_with (go_at_call 281;refine cb (Mb _ _ _) ?_);refine ca (sY _ _ W) λE G=>?_;have q:E.cell? (aD w.heap.size 3)=some (CU a l.length cap):=((St G).1 _ 3 (by simp)).trans (by clear G;go_simp);have a0:w.heap.size<E.heap.size:=As (by simp) G.size;have a1:=I (Ab (J _ _) G);go_wp2_with fail;go_loopw [61] (λi wr=>∃k:Nat,k<=l.length/\i=Bn k/\Af (Ib l=Ib (l.drop k))/\Af (Bw w wr)) (λi _=>l.length-(intOf i).toNat)
   exact⟨0,Bg _,rfl,I rfl,I a1.1⟩;obtain⟨k,Y,rfl,f,c⟩:=hrel;by_cases h:k<l.length
   . obtain⟨b,L,rfl,F,j⟩:=U.1.cells (by omega);have⟨C,g,M,⟨N,P,Q,R⟩,m,d⟩:=(j.keep (c.1.mono A)).at k h;have S:b<wr.heap.size:=As F (Bf A c.1.size);have p:B<=(wr.alloc (.cells #[(Au l k).op,(Au l k).num,B_ (Au l k).name,CU C (Au l k).args.length g] 71)).heap.size:=by have:=c.1.size;simp;omega
     have r:=I d;go_wp2_with fail;refine ca (T.1 (Au l k) (Rc (x:=.mk 6 n s l) h) C g _ B p m (r.1.keep ((J _ _).mono (Bf A c.1.size)))) λZ t=>?_;have u:=I (Ab c.1 (Ab (J wr _) t));have v:=I (f.1.trans (Yu l k h));cases D:Db (Au l k)
     . have z:Af (Db (.mk 6 n s l)=false):=I (H.1.trans (by rw[v.1,D];rfl));go_wp2;go_ret;exact⟨zz z.1.symm,u.1⟩
     have y:=I (v.1.trans (by rw[D,Bool.true_and]));go_wp2;go_roundw;exact⟨k+1,by omega,by go_num,y,u⟩;simp[intOf];omega
   obtain rfl:k=l.length:=by omega
   have z:Af (Db (.mk 6 n s l)=true):=I (H.1.trans (by rw[f.1,Gk];rfl));go_wp2;go_ret;exact⟨zz z.1.symm,c.1⟩
 have e6:=RZ o6
 have h7:s.toList.isEmpty=true:=by simpa[Ni,e6] using X
 by_cases o1:o=1
 . subst o1;obtain⟨h5,h8⟩:0<=n/\n<=1099511627776:=by simpa[Mm,Ar] using K
   delta CV;go_in;go_wp2_with (go_at_call 281;refine cb (Mb _ _ _) ?_);go_loopw [61] (λi wr=>∃k:Nat,k<=l.length/\i=Bn k/\Af (Ib l=Ib (l.drop k))/\Af (Bw w wr)) (λi _=>l.length-(intOf i).toNat);exact⟨0,Bg _,rfl,I rfl,I (J _ _)⟩;obtain⟨k,Y,rfl,f,c⟩:=hrel;by_cases h:k<l.length
   . obtain⟨b,L,rfl,F,j⟩:=U.1.cells (by omega);have⟨C,g,M,⟨N,P,Q,R⟩,m,d⟩:=(j.keep (c.1.mono A)).at k h;have S:b<wr.heap.size:=As F (Bf A c.1.size);have p:B<=(wr.alloc (.cells #[(Au l k).op,(Au l k).num,B_ (Au l k).name,CU C (Au l k).args.length g] 71)).heap.size:=by have:=c.1.size;simp;omega
     have r:=I d;go_wp2_with fail;refine ca (T.1 (Au l k) (Rc (x:=.mk 1 n s l) h) C g _ B p m (r.1.keep ((J _ _).mono (Bf A c.1.size)))) λZ t=>?_;have u:=I (Ab c.1 (Ab (J wr _) t));have v:=I (f.1.trans (Yu l k h));cases D:Db (Au l k)
     . have z:Af (Db (.mk 1 n s l)=false):=I (H.1.trans (by rw[v.1,D];rfl));go_wp2;go_ret;exact⟨zz z.1.symm,u.1⟩
     have y:=I (v.1.trans (by rw[D,Bool.true_and]));go_wp2;go_roundw;exact⟨k+1,by omega,by go_num,y,u⟩;simp[intOf];omega
   obtain rfl:k=l.length:=by omega
   have z:Af (Db (.mk 1 n s l)=true):=I (H.1.trans (by rw[f.1,Gk];rfl));go_wp2;go_ret;exact⟨zz z.1.symm,c.1⟩
 by_cases o2:o=2
 . subst o2;obtain⟨h5,h8⟩:0<=n/\n<=1099511627776:=by simpa[Mm,Ar] using K
   delta CV;go_in;go_wp2_with (go_at_call 281;refine cb (Mb _ _ _) ?_);go_loopw [61] (λi wr=>∃k:Nat,k<=l.length/\i=Bn k/\Af (Ib l=Ib (l.drop k))/\Af (Bw w wr)) (λi _=>l.length-(intOf i).toNat);exact⟨0,Bg _,rfl,I rfl,I (J _ _)⟩;obtain⟨k,Y,rfl,f,c⟩:=hrel;by_cases h:k<l.length
   . obtain⟨b,L,rfl,F,j⟩:=U.1.cells (by omega);have⟨C,g,M,⟨N,P,Q,R⟩,m,d⟩:=(j.keep (c.1.mono A)).at k h;have S:b<wr.heap.size:=As F (Bf A c.1.size);have p:B<=(wr.alloc (.cells #[(Au l k).op,(Au l k).num,B_ (Au l k).name,CU C (Au l k).args.length g] 71)).heap.size:=by have:=c.1.size;simp;omega
     have r:=I d;go_wp2_with fail;refine ca (T.1 (Au l k) (Rc (x:=.mk 2 n s l) h) C g _ B p m (r.1.keep ((J _ _).mono (Bf A c.1.size)))) λZ t=>?_;have u:=I (Ab c.1 (Ab (J wr _) t));have v:=I (f.1.trans (Yu l k h));cases D:Db (Au l k)
     . have z:Af (Db (.mk 2 n s l)=false):=I (H.1.trans (by rw[v.1,D];rfl));go_wp2;go_ret;exact⟨zz z.1.symm,u.1⟩
     have y:=I (v.1.trans (by rw[D,Bool.true_and]));go_wp2;go_roundw;exact⟨k+1,by omega,by go_num,y,u⟩;simp[intOf];omega
   obtain rfl:k=l.length:=by omega
   have z:Af (Db (.mk 2 n s l)=true):=I (H.1.trans (by rw[f.1,Gk];rfl));go_wp2;go_ret;exact⟨zz z.1.symm,c.1⟩
 by_cases o3:o=3
 . subst o3;obtain⟨h5,h8⟩:0<=n/\n<=1439:=by simpa[Mm,Ar] using K
   delta CV;go_in;go_wp2_with (go_at_call 281;refine cb (Mb _ _ _) ?_);go_loopw [61] (λi wr=>∃k:Nat,k<=l.length/\i=Bn k/\Af (Ib l=Ib (l.drop k))/\Af (Bw w wr)) (λi _=>l.length-(intOf i).toNat);exact⟨0,Bg _,rfl,I rfl,I (J _ _)⟩;obtain⟨k,Y,rfl,f,c⟩:=hrel;by_cases h:k<l.length
   . obtain⟨b,L,rfl,F,j⟩:=U.1.cells (by omega);have⟨C,g,M,⟨N,P,Q,R⟩,m,d⟩:=(j.keep (c.1.mono A)).at k h;have S:b<wr.heap.size:=As F (Bf A c.1.size);have p:B<=(wr.alloc (.cells #[(Au l k).op,(Au l k).num,B_ (Au l k).name,CU C (Au l k).args.length g] 71)).heap.size:=by have:=c.1.size;simp;omega
     have r:=I d;go_wp2_with fail;refine ca (T.1 (Au l k) (Rc (x:=.mk 3 n s l) h) C g _ B p m (r.1.keep ((J _ _).mono (Bf A c.1.size)))) λZ t=>?_;have u:=I (Ab c.1 (Ab (J wr _) t));have v:=I (f.1.trans (Yu l k h));cases D:Db (Au l k)
     . have z:Af (Db (.mk 3 n s l)=false):=I (H.1.trans (by rw[v.1,D];rfl));go_wp2;go_ret;exact⟨zz z.1.symm,u.1⟩
     have y:=I (v.1.trans (by rw[D,Bool.true_and]));go_wp2;go_roundw;exact⟨k+1,by omega,by go_num,y,u⟩;simp[intOf];omega
   obtain rfl:k=l.length:=by omega
   have z:Af (Db (.mk 3 n s l)=true):=I (H.1.trans (by rw[f.1,Gk];rfl));go_wp2;go_ret;exact⟨zz z.1.symm,c.1⟩
 have e1:=RZ o1
 have e2:=RZ o2
 have e3:=RZ o3
 have e4:(n !=0)=false:=by simpa[Mm,e1,e2,e3] using K
 delta CV;go_in;go_wp2_with (go_at_call 281;refine cb (Mb _ _ _) ?_);go_loopw [61] (λi wr=>∃k:Nat,k<=l.length/\i=Bn k/\Af (Ib l=Ib (l.drop k))/\Af (Bw w wr)) (λi _=>l.length-(intOf i).toNat);exact⟨0,Bg _,rfl,I rfl,I (J _ _)⟩;obtain⟨k,Y,rfl,f,c⟩:=hrel;by_cases h:k<l.length
 . obtain⟨b,L,rfl,F,j⟩:=U.1.cells (by omega);have⟨C,g,M,⟨N,P,Q,R⟩,m,d⟩:=(j.keep (c.1.mono A)).at k h;have S:b<wr.heap.size:=As F (Bf A c.1.size);have p:B<=(wr.alloc (.cells #[(Au l k).op,(Au l k).num,B_ (Au l k).name,CU C (Au l k).args.length g] 71)).heap.size:=by have:=c.1.size;simp;omega
   have r:=I d;go_wp2_with fail;refine ca (T.1 (Au l k) (Rc (x:=.mk o n s l) h) C g _ B p m (r.1.keep ((J _ _).mono (Bf A c.1.size)))) λZ t=>?_;have u:=I (Ab c.1 (Ab (J wr _) t));have v:=I (f.1.trans (Yu l k h));cases D:Db (Au l k)
   . have z:Af (Db (.mk o n s l)=false):=I (H.1.trans (by rw[v.1,D];rfl));go_wp2;go_ret;exact⟨zz z.1.symm,u.1⟩
   have y:=I (v.1.trans (by rw[D,Bool.true_and]));go_wp2;go_roundw;exact⟨k+1,by omega,by go_num,y,u⟩;simp[intOf];omega
 obtain rfl:k=l.length:=by omega
 have z:Af (Db (.mk o n s l)=true):=I (H.1.trans (by rw[f.1,Gk];rfl));go_wp2;go_ret;exact⟨zz z.1.symm,c.1⟩
def GK(x:zH)(a:Ae)(cap:Nat)(w:Wd)(B:Nat)(b:B<=w.heap.size)(c:Ia x)(d:Et B w a x.args):
 CV 262 #[.agg #[x.op,x.num,B_ x.name,CU a x.args.length cap]] w (.bool (Db x)):=by
 have⟨m,f⟩:=aT (SizeOf.sizeOf x);induction m using Nat.strongRecOn generalizing x a cap w B with
 |_ m ih=>
  subst f;obtain⟨o,n,s,l⟩:=x;exact UL o n s l a cap w B b c d (λx hx a cap w B b c d=>ih _ hx x a cap w B b c d rfl)
def zqw(a n:Nat)(l:List zH)(k:Nat)(h:k<l.length):Hb a n (l.drop k)=if(Da a n (Au l k)).1=true then Hb a (Da a n (Au l k)).2 (l.drop (k+1)) else(false,(Da a n (Au l k)).2):=by rw[Vx l k h,Hb]
theorem zd{w:Wd}{a:Nat}{o o':Obj}(h:w.heap[a]?=some o):(w.alloc o').heap[a]?=some o:=by
 grind[Below.heap_alloc]
theorem zh(w:Wd)(o:Obj):(w.alloc o).heap[w.heap.size]?=some o:=by
 exact Array.getElem?_push_size
def zr(w:Wd)(o:Obj):(w.alloc o).heap.size=w.heap.size+1:=by simp
theorem QU(o n:Int)(s:BA)(l:List zH)(c m:Nat)(a:Ae)(cap:Nat)(w:Wd)(B d:Nat)(hB:B<=d)(a0:d<w.heap.size)(a1:c<=100)(hm:m<=300)(hl:l.length<=2^47)(Y:Et B w a l)(A:w.heap[d]?=some (.cells #[m] 3 (0,0))) 
 (IH:Af (∀x:zH,SizeOf.sizeOf x<SizeOf.sizeOf (zH.mk o n s l)->∀(c m:Nat) (a:Ae) (cap:Nat) (w:Wd),d<w.heap.size->c<=100->m<=300->x.args.length<=2^47->Et B w a x.args->w.heap[d]?=some (.cells #[m] 3 (0,0))->
  Calls prog 261 #[.agg #[x.op,x.num,.string x.name,.slice a x.args.length cap],c,Ua d 0] w λe w'=>e=.returned (.bool (Da c m x).1)/\w'.heap[d]?=some (.cells #[Bn (Da c m x).2] 3 (0,0))/\w.grownBy w' (some d))):
 Calls prog 261 #[.agg #[o,n,.string s,.slice a l.length cap],c,Ua d 0] w λe w'=>e=.returned (.bool (Da c m (.mk o n s l)).1)/\w'.heap[d]?=some (.cells #[Bn (Da c m (.mk o n s l)).2] 3 (0,0))/\w.grownBy w' (some d):=by
 have HA:=I Y;have S:=cell_of_one A;have f0:=free_of_one A;have HN:=I A;have T:((m+1:Nat):Int)=(m:Int)+1:=by omega
 have G:=I (Lib.grownBy_setCell w d 0 (Bn ((m:Int)+1)));have g:=I (one_setCell (u:=Bn ((m:Int)+1)) A);have f:=I (λo=>Lib.grownBy_allocR G.1 o);have v:=I (λo=>zd (o':=o) g.1);by_cases t:200<m+1\/16<c
 . have Z:Da c m (.mk o n s l)=(false,m+1):=by rw[Da,iP t]
   rw[Z];simp only[T];by_cases t1:(200:Int)<(m:Int)+1
   . go_in;go_wp2;go_ret;exact⟨rfl,v.1 _,f.1 _⟩
   have t2:(16:Int)<(c:Int):=by omega
   replace t1:(m:Int)+1<=200:=by omega
   go_in;go_wp2;go_ret;exact⟨rfl,v.1 _,f.1 _⟩
 have t1:(m:Int)+1<=200:=by omega
 have t2:(c:Int)<=16:=by omega
 have Hv:=I (show Da c m (.mk o n s l)=Hb (c+1) (m+1) l by rw[Da,iN t]);go_in;go_wp2_with fail;go_loopw [25] (λi wr=>∃k q:Nat,k<=l.length/\i=Bn k/\q<=200/\Af (Hb (c+1) (m+1) l=Hb (c+1) q (l.drop k))/\Af (wr.heap[d]?=some (oI q))/\Af (w.grownBy wr (some d))) (λi _=>l.length-(intOf i).toNat);exact⟨0,m+1,Bg _,rfl,by omega,I rfl,I (by have:=v.1 (Dq o n s a l.length cap);simpa using this),I (f.1 _)⟩;obtain⟨k,q,hk,rfl,hq,h,U,p⟩:=hrel;by_cases y:k<l.length
 . obtain⟨b,a3,rfl,hb,C⟩:=HA.1.cells (by omega);have z:Below B w wr:=(An B w).grown p.1 (by omega) (λj hj=>by cases hj;exact hB);obtain⟨a2,D,a4,⟨S,c1,c2,c3⟩,E,r⟩:=(C.keep z).at k y;have a5:w.heap.size<=wr.heap.size:=p.1.size;have a6:b<wr.heap.size:=by omega
   have F:=I r;have V:=I z;have W:((c+1:Nat):Int)=(c:Int)+1:=by omega
   go_wp2_with fail;rw[<-W];refine(IH.1 (Au l k) (Rc (x:=.mk o n s l) y) (c+1) q a2 D _ (by simp;omega) (by omega) (by omega) E.2.1 (F.1.keep ((J _ _).mono (by omega))) (zd U.1)).mono ?_;rintro e w1 ⟨rfl,H,K⟩;rw[W];have g:=I H;have L:=I (Lib.grownBy_trans p.1 (Lib.grownBy_trans (World.grownBy_alloc wr _ _) K));have M:=I (h.1.trans (zqw (c+1) q l k y));have Q:=pG (Au l k) (c+1) q;cases R:(Da (c+1) q (Au l k)).1
   . have N:=I (show Da c m (.mk o n s l)=(false,(Da (c+1) q (Au l k)).2) from Hv.1.trans (by rw[M.1,R];rfl));go_wp2;go_ret;exact⟨zz (by rw[N.1]),by rw[N.1];exact g.1,L.1⟩
   have P:=I (M.1.trans (by rw[iP R]));have X:(Da (c+1) q (Au l k)).2<=200:=by have:=Q.2.1 R;have:=Q.1.1 R;omega
   go_wp2;go_roundw;exact⟨k+1,_,by omega,by go_num,X,P,g,L⟩;simp[intOf];omega
 obtain rfl:k=l.length:=by omega
 have N:=I (show Da c m (.mk o n s l)=(true,q) from Hv.1.trans (by rw[h.1,Gk];rfl));go_wp2;go_ret;exact⟨zz (by rw[N.1]),by rw[N.1];exact U.1,p.1⟩
def zrG(B c:Nat)(g:B<=c)(x:zH)(b m:Nat)(a:Ae)(cap:Nat)(w:Wd)(d:c<w.heap.size)(f:b<=100)(h:m<=300)(i:x.args.length<=2^47)(j:Et B w a x.args)(k:w.heap[c]?=some (.cells #[m] 3 (0,0))):
 Calls prog 261 #[.agg #[x.op,x.num,B_ x.name,CU a x.args.length cap],b,Ua c 0] w λe w'=>e=.returned (.bool (Da b m x).1)/\w'.heap[c]?=some (.cells #[Bn (Da b m x).2] 3 (0,0))/\w.grownBy w' (some c):=by
 have⟨z,p⟩:=C_ (SizeOf.sizeOf x);induction z using Nat.strongRecOn generalizing x b m a cap w with
 |_ z ih=>
  subst p;obtain⟨o,n,s,l⟩:=x;exact QU o n s l b m a cap w B c g d f h i j k (λx hx b m a cap w h1 h2 h3 h4 h5 h6=>ih _ hx x b m a cap w h1 h2 h3 h4 h5 h6 rfl)
def Bb(x:zH):Int:=if Bq x<=200/\Il x<=16 then(if Db x=true then 0 else 1) else 10
theorem dU(x:zH)(a:Ae)(cap:Nat)(w:Wd)(B:Nat)(t:B<=w.heap.size)(u:Ia x)(v:Et B w a x.args):
 CV 222 #[.agg #[x.op,x.num,.string x.name,.slice a x.args.length cap]] w (Bb x):=by
 have p:=(pG x 1 0).1;have y:=I v;delta CV;go_in;go_wp2_with fail;obtain⟨W,k⟩:=aT ((w.alloc (Obj.cells #[x.op,x.num,.string x.name,.slice a x.args.length cap] 71)).alloc (oI 0));have g:Bw w W:=by rw[k];exact Ab (J _ _) (J _ _)
 have r:W.heap.size=w.heap.size+2:=by rw[k];simp
 have d:W.heap[w.heap.size+1]?=some (oI ((0:Nat):Int)):=by rw[k,<-zr w (Obj.cells #[x.op,x.num,.string x.name,.slice a x.args.length cap] 71)];exact zh _ _
 have z:W.heap[w.heap.size]?=some (Obj.cells #[x.op,x.num,.string x.name,.slice a x.args.length cap] 71):=by rw[k];exact zd (zh _ _)
 simp only[<-k];refine(zrG w.heap.size (w.heap.size+1) (Nat.le_succ _) x 1 0 a cap W (by omega) (by omega) (by omega) u.2.1 ((y.1.more t).keep g) d).mono ?_;rintro e f ⟨rfl,s,c⟩;have l:Bw w f:=g.grown c (by omega) (λj hj=>by cases hj;omega);have m:f.heap[w.heap.size]?=some (Obj.cells #[x.op,x.num,.string x.name,.slice a x.args.length cap] 71):=(c.block _ (by omega) (by simp)).trans z;have D:w.heap.size+1<f.heap.size:=by have:=c.size;omega
 have E:f.cell? (aD w.heap.size 0)=some (Bn x.op):=by simp[World.cell?,m]
 have F:f.cell? (aD w.heap.size 1)=some (Bn x.num):=by simp[World.cell?,m]
 have G:f.cell? (aD w.heap.size 2)=some (.string x.name):=by simp[World.cell?,m]
 have H:f.cell? (aD w.heap.size 3)=some (.slice a x.args.length cap):=by simp[World.cell?,m]
 have b:=I l;cases A:(Da 1 0 x).1
 . have q:=I (show Bb x=10 from iN (λh=>by have:=p.2 (by omega);rw[A]at this;cases this));go_wp2;go_ret;exact hU q b
 have q:=I (show Bb x=if Db x=true then 0 else 1 from iP (by have:=p.1 A;omega));go_wp2_with fail;refine ca (GK x a cap f w.heap.size b.1.size u ((y.1.more t).keep b.1)) λK n=>?_;have o:=I (Ab b.1 n);cases C:Db x
 . have i:=I (q.1.trans (by rw[C];rfl:_=(1:Int)));go_wp2;go_ret;exact hU i o
 have i:=I (q.1.trans (by rw[C];rfl:_=(0:Int)));go_wp2;go_ret;exact hU i o
end Go.Proofs.YtafdcbmgdfliiaaGreat
namespace Go.Proofs.YtafdcbmgdfliiaaGreat
open Go.RowKit Go.Proofs.Tryz
variable {B b c e:Nat}{w w':Wd}{x:zH}{n:BA}{a:Ae}{s:Int}{L:List (Int×BA)}
structure zB where
 name:BA
 ex:zH
structure It where
 sc:Int
 name:BA
 ex:zH
structure Ky where
 sc:Int
 ex:zH
structure Dg where
 name:BA
 meas:BA
 most:Int
 days:Int
structure Fd where
 name:BA
 cnt:Int
 days:Int
structure Ad where
 rp:Int
 rl:Int
 cn:Int
 sit:Int
 lv:Int
 nf:Int
 nt:Int
 cs:List zB
 rs:List It
 ks:List Ky
 xs:List zH
 ls:List Dg
 oz:List Fd
 gu:Int
structure Bd where
 ca:Option Addr
 cc:Nat
 ra:Option Addr
 rc:Nat
 ka:Option Addr
 kc:Nat
 xa:Option Addr
 xc:Nat
 la:Option Addr
 lc:Nat
 oa:Option Addr
 oc:Nat
abbrev Ay(c:Ad)(p:Bd):Value:=.agg #[c.rp,c.rl,c.cn,c.sit,c.lv,c.nf,c.nt,.slice p.ca c.cs.length p.cc,.slice p.ra c.rs.length p.rc,.slice p.ka c.ks.length p.kc,.slice p.xa c.xs.length p.xc,.slice p.la c.ls.length p.lc,.slice p.oa c.oz.length p.oc,c.gu]
abbrev Az(t:At)(za:Ae)(zc:Nat)(aa:Ae)(ac:Nat)(fa:Ae)(fc:Nat):Value:=.agg #[.slice za t.zn.length zc,.slice aa t.ai.length ac,.slice fa t.fs.length fc]
abbrev zaf:Obj:=Obj.cells #[.string ⟨#[]⟩,.int .i64 0,.slice none 0 0] 129
abbrev zbR:Obj:=Obj.cells #[.slice none 0 0,.slice none 0 0,.slice none 0 0] 26
abbrev zjC:Obj:=Obj.cells #[.int .i64 0,.int .i64 0] 40
abbrev Aj(c:Ad)(p:Bd):Obj:=Obj.cells #[c.rp,c.rl,c.cn,c.sit,c.lv,c.nf,c.nt,.slice p.ca c.cs.length p.cc,.slice p.ra c.rs.length p.rc,.slice p.ka c.ks.length p.kc,.slice p.xa c.xs.length p.xc,.slice p.la c.ls.length p.lc,.slice p.oa c.oz.length p.oc,c.gu] 35
abbrev Ap(t:At)(za:Ae)(zc:Nat)(aa:Ae)(ac:Nat)(fa:Ae)(fc:Nat):Obj:=Obj.cells #[.slice za t.zn.length zc,.slice aa t.ai.length ac,.slice fa t.fs.length fc] 27
def Wb(c:Ad)(p:Bd):Array Value:=#[Bn c.rp,Bn c.rl,Bn c.cn,Bn c.sit,Bn c.lv,Bn c.nf,Bn c.nt,
 .slice p.ca c.cs.length p.cc,.slice p.ra c.rs.length p.rc,.slice p.ka c.ks.length p.kc,.slice p.xa c.xs.length p.xc,.slice p.la c.ls.length p.lc,.slice p.oa c.oz.length p.oc,Bn c.gu]
def e0:zH:=.mk 0 0 ByteArray.empty []
def Ak(l:List zB)(k:Nat):zB:=l.getD k ⟨ByteArray.empty,e0⟩
def Ah(l:List It)(k:Nat):It:=l.getD k ⟨0,ByteArray.empty,e0⟩
def Aq(l:List Ky)(k:Nat):Ky:=l.getD k ⟨0,e0⟩
def Bc(l:List Dg)(k:Nat):Dg:=l.getD k ⟨ByteArray.empty,ByteArray.empty,0,0⟩
def Bi(l:List Fd)(k:Nat):Fd:=l.getD k ⟨ByteArray.empty,0,0⟩
theorem bJ(l:List zB)(k:Nat)(h:k<l.length):l.drop k=Ak l k::l.drop (k+1):=by
 grind[Ak,List.drop_eq_getElem_cons]
theorem jY(l:List It)(k:Nat)(h:k<l.length):l.drop k=Ah l k::l.drop (k+1):=by
 grind[Ah,List.drop_eq_getElem_cons]
theorem pZ(l:List Ky)(k:Nat)(h:k<l.length):l.drop k=Aq l k::l.drop (k+1):=by
 grind[Aq,List.drop_eq_getElem_cons]
theorem bH(l:List Dg)(k:Nat)(h:k<l.length):l.drop k=Bc l k::l.drop (k+1):=by
 grind[Bc,List.drop_eq_getElem_cons]
theorem eT(l:List Fd)(k:Nat)(h:k<l.length):l.drop k=Bi l k::l.drop (k+1):=by
 grind[Bi,List.drop_eq_getElem_cons]
def Sr(B:Nat)(w:Wd)(b off:Nat)(x:zH):Prop:=∃a cap,(w.cell? (aD b off)=some (Bn x.op)/\w.cell? (aD b (off+1))=some (Bn x.num)/\w.cell? (aD b (off+2))=some (.string x.name)/\w.cell? (aD b (off+3))=some (.slice a x.args.length cap))/\Ia x/\Et B w a x.args
def Sr.keep(h:Sr B w b c x)(f:b<B)(e:Below B w w'):Sr B w' b c x:=by
 obtain⟨a,d,⟨i,j,k,l⟩,m,n⟩:=h;have g:=λ(o:Nat)=>e.cell (p:=aD b o) f;exact⟨a,d,⟨(g _).trans i,(g _).trans j,(g _).trans k,(g _).trans l⟩,m,n.keep e⟩
def Sr.more(h:Sr B w b c x)(f:B<=e):Sr e w b c x:=by
 obtain⟨a,d,h,g,i⟩:=h;exact⟨a,d,h,g,i.more f⟩
def Is(B:Nat)(w:Wd)(b off:Nat)(x:zB):Prop:=w.cell? (aD b off)=some (.string x.name)/\x.name.size<=140737488355328/\Sr B w b (off+1) x.ex
def Zs(B:Nat)(w:Wd)(b off:Nat)(x:It):Prop:=w.cell? (aD b off)=some (Bn x.sc)/\w.cell? (aD b (off+1))=some (.string x.name)/\x.name.size<=140737488355328/\(Lit.int .i64 x.sc).wf=true/\Sr B w b (off+2) x.ex
def Zt(B:Nat)(w:Wd)(b off:Nat)(x:Ky):Prop:=w.cell? (aD b off)=some (Bn x.sc)/\(Lit.int .i64 x.sc).wf=true/\Sr B w b (off+1) x.ex
def Ny(B:Nat)(w:Wd)(b off:Nat)(x:Dg):Prop:=w.cell? (aD b off)=some (.string x.name)/\w.cell? (aD b (off+1))=some (.string x.meas)/\w.cell? (aD b (off+2))=some (Bn x.most)/\w.cell? (aD b (off+3))=some (Bn x.days)/\x.name.size<=140737488355328/\x.meas.size<=140737488355328
def Oa(B:Nat)(w:Wd)(b off:Nat)(x:Fd):Prop:=w.cell? (aD b off)=some (.string x.name)/\w.cell? (aD b (off+1))=some (Bn x.cnt)/\w.cell? (aD b (off+2))=some (Bn x.days)/\x.name.size<=140737488355328
def Pk{X:Type}(n:Nat)(at':List X->Nat->X)(C:Nat->Wd->Nat->Nat->X->Prop)(B:Nat)(w:Wd)(a:Ae)(l:List X):Prop:=
 l.length<=140737488355328/\(l= []\/∃b off,a=some (aD b off)/\b<B/\∀i,i<l.length->C B w b (off+i*n) (at' l i))
theorem Pk.keep{X:Type}{n:Nat}{d:List X->Nat->X}{C:Nat->Wd->Nat->Nat->X->Prop}{l:List X}(h:Pk n d C B w a l)(m:Below B w w') 
 (f:∀b c x,b<B->C B w b c x->C B w' b c x):Pk n d C B w' a l:=by
 obtain⟨g,h⟩:=h;refine⟨g,?_⟩;grind
theorem Pk.more{X:Type}{n:Nat}{d:List X->Nat->X}{C:Nat->Wd->Nat->Nat->X->Prop}{l:List X}(h:Pk n d C B w a l)(f:B<=e) 
 (g:∀b c x,C B w b c x->C e w b c x):Pk n d C e w a l:=by
 obtain⟨j,h⟩:=h;refine⟨j,?_⟩;grind
theorem Pk.cells{X:Type}{n:Nat}{c:List X->Nat->X}{C:Nat->Wd->Nat->Nat->X->Prop}{l:List X}(h:Pk n c C B w a l)(d:0<l.length):
 ∃b off,a=some (aD b off)/\b<B/\∀i,i<l.length->C B w b (off+i*n) (c l i):=by
 rcases h.2 with rfl|h;all_goals grind
abbrev Me:=Pk 5 Ak Is
abbrev AW:=Pk 6 Ah Zs
abbrev UW:=Pk 5 Aq Zt
abbrev zsr:=Pk 4 Bc Ny
abbrev BZ:=Pk 3 Bi Oa
def Is.keep(c:Below B w w')(b a:Nat)(x:zB)(d:b<B)(h:Is B w b a x):Is B w' b a x:=
 ⟨(c.cell (p:=aD b a) d).trans h.1,h.2.1,h.2.2.keep d c⟩
def Zs.keep(c:Below B w w')(b a:Nat)(x:It)(d:b<B)(h:Zs B w b a x):Zs B w' b a x:=
 ⟨(c.cell (p:=aD b a) d).trans h.1,(c.cell (p:=aD b (a+1)) d).trans h.2.1,h.2.2.1,h.2.2.2.1,h.2.2.2.2.keep d c⟩
def Zt.keep(c:Below B w w')(b a:Nat)(x:Ky)(d:b<B)(h:Zt B w b a x):Zt B w' b a x:=
 ⟨(c.cell (p:=aD b a) d).trans h.1,h.2.1,h.2.2.keep d c⟩
def Ny.keep(c:Below B w w')(b a:Nat)(x:Dg)(d:b<B)(h:Ny B w b a x):Ny B w' b a x:=
 ⟨(c.cell (p:=aD b a) d).trans h.1,(c.cell (p:=aD b (a+1)) d).trans h.2.1,(c.cell (p:=aD b (a+2)) d).trans h.2.2.1,(c.cell (p:=aD b (a+3)) d).trans h.2.2.2.1,h.2.2.2.2⟩
def Oa.keep(c:Below B w w')(b a:Nat)(x:Fd)(d:b<B)(h:Oa B w b a x):Oa B w' b a x:=
 ⟨(c.cell (p:=aD b a) d).trans h.1,(c.cell (p:=aD b (a+1)) d).trans h.2.1,(c.cell (p:=aD b (a+2)) d).trans h.2.2.1,h.2.2.2⟩
structure Kb(B:Nat)(w:Wd)(c:Ad)(p:Bd):Prop where
 cs:Me B w p.ca c.cs
 rs:AW B w p.ra c.rs
 ks:UW B w p.ka c.ks
 xs:Et B w p.xa c.xs
 creditN:c.xs.length<=140737488355328
 creditF:∀x∈c.xs,Ia x
 ls:zsr B w p.la c.ls
 oz:BZ B w p.oa c.oz
def Kb.keep{c:Ad}{p:Bd}(h:Kb B w c p)(a:Below B w w'):Kb B w' c p where
 cs:=h.cs.keep a (Is.keep a)
 rs:=h.rs.keep a (Zs.keep a)
 ks:=h.ks.keep a (Zt.keep a)
 xs:=h.xs.keep a
 creditN:=h.creditN
 creditF:=h.creditF
 ls:=h.ls.keep a (Ny.keep a)
 oz:=h.oz.keep a (Oa.keep a)
def Kb.more{c:Ad}{p:Bd}(h:Kb B w c p)(a:B<=b):Kb b w c p where
 cs:=h.cs.more a (λ_ _ _ h=>⟨h.1,h.2.1,h.2.2.more a⟩)
 rs:=h.rs.more a (λ_ _ _ h=>⟨h.1,h.2.1,h.2.2.1,h.2.2.2.1,h.2.2.2.2.more a⟩)
 ks:=h.ks.more a (λ_ _ _ h=>⟨h.1,h.2.1,h.2.2.more a⟩)
 xs:=h.xs.more a
 creditN:=h.creditN
 creditF:=h.creditF
 ls:=h.ls.more a (λ_ _ _ h=>h)
 oz:=h.oz.more a (λ_ _ _ h=>h)
def Ih:LB->List zB->Int
 |_, []=>0
 |acc,x::l=>if zZ x.name=false then 1 else if Ao acc x.name=true then 7 else if Bb x.ex≠0 then Bb x.ex else Ih (acc++ [x.name]) l
def Ge(l:List (Int×BA))(s:Int)(n:BA):Bool:=l.any λp=>decide (p.1=s/\p.2=n)
def Gj:List (Int×BA)->List It->Int
 |_, []=>0
 |acc,x::l=>if(Ar x.sc 1 3&&zZ x.name)=false then 1 else if Ge acc x.sc x.name=true then 7 else if Bb x.ex≠0 then Bb x.ex else Gj (acc++ [(x.sc,x.name)]) l
def Ig:List Ky->Int
 |[]=>0
 |x::l=>if Ar x.sc 1 3=false then 1 else if Bb x.ex≠0 then Bb x.ex else Ig l
def Kg:List zH->Int
 |[]=>0
 |x::l=>if Bb x≠0 then Bb x else Kg l
def iJ:List (List UInt8):= [[98,108,111,99,107], [115,112,97,110], [110,105,103,104,116], [99,114,101,100,105,116]]
def iX:List (List UInt8):= [[108,101,103,115], [104,101,97,100,115], [100,117,116,105,101,115]]
def Qp(s:BA):Int:=if zN iJ s=true then 3 else if zN iX s=true then 2 else 0
def If:LB->List Dg->Int×LB
 |acc, []=>(0,acc)
 |acc,x::l=>if zZ x.name=false then(1,acc) else if Ao acc x.name=true then(7,acc) else if Qp x.meas=0 then(6,acc) else if(Ar x.most 0 599999&&Ar x.days 1 31)=false then(5,acc) else If (acc++ [x.name]) l
def Kh:LB->List Fd->Int
 |_, []=>0
 |acc,x::l=>if zZ x.name=false then 1 else if Ao acc x.name=true then 7 else if(Ar x.days 1 31&&Ar x.cnt 1 x.days)=false then 5 else Kh (acc++ [x.name]) l
def Gg(c:Ad):Int:=if(If [] c.ls).1≠0 then(If [] c.ls).1 else Kh (If [] c.ls).2 c.oz
def Mh(c:Ad):Bool:=Ar c.rp 0 1440&&Ar c.rl 0 1440&&Ar c.cn 0 1440&&Ar c.sit c.cn 1440&&Ar c.lv 0 10080&&Ar c.nf 0 1439&&Ar c.nt 0 1439&&Ar c.gu 0 599999
def Li(c:Ad):Bool:=decide (c.cs.length<=32)&&decide (c.rs.length<=40)&&decide (c.ks.length<=16)&&decide (c.xs.length<=1)&&decide (c.ls.length<=16)&&decide (c.oz.length<=16)
def Cf(c:Ad):Int:=
 if Mh c=false then 5 else if Li c=false then 10 else if Ih [] c.cs≠0 then Ih [] c.cs else if Gj [] c.rs≠0 then Gj [] c.rs
 else if Ig c.ks≠0 then Ig c.ks else if Kg c.xs≠0 then Kg c.xs else Gg c
def RK(s:Int)(n:BA):Value:=.agg #[s,.string n]
theorem iF(s:Int)(n:BA)(a:(Lit.int .i64 s).wf=true)(b:n.size<=maxLen):∃l,keyOf prog 336 (RK s n)=some l:=by
 obtain⟨d,c⟩:∃d,prog.types.size=d+1:=⟨prog.types.size-1,by kernel_rfl⟩;unfold keyOf;rw[underlying336];rw[iP (by kernel_rfl),c];have e:prog.cellsOf 336=2:=by kernel_rfl
 have f:prog.cellsOf 3=1:=by kernel_rfl
 have g:prog.cellsOf 9=1:=by kernel_rfl
 simp only[Program.keyLits,underlying336,RK,Value.cells];simp_all
def zsF:WideMaps.KeyLaw prog 336:=deep_law (m:=5) (by omega) (by kernel_rfl) (by kernel_rfl) (by kernel_rfl)
def Wu{a:Int}{b:BA}:RK s n=RK a b ↔ s=a/\n=b:=by simp[RK]
def Fp(w:Wd)(b:Nat)(L:List (Int×BA)):Prop:=∃es c,w.heap[b]?=some (.map es c)/\es.toList.map (λe=>(e.key,e.val))=L.map (λp=>(RK p.1 p.2,.bool true))/\∀p∈L,(Lit.int .i64 p.1).wf=true/\p.2.size<=maxLen
theorem Fp.lt(h:Fp w b L):b<w.heap.size:=by
 obtain⟨d,c,a,_⟩:=h;grind
def Fp.below(h:Fp w b L)(d:Bw w w'):Fp w' b L:=by
 have a:=h.lt;obtain⟨e,c,f,g⟩:=h;exact⟨e,c,(d.block b a).trans f,g⟩
def Fp.made(w:Wd):Fp (w.alloc (.map #[] 0)) w.heap.size []:=
 ⟨#[],0,zh _ _,rfl,λp hp=>by simp at hp⟩
theorem Fp.key{w:Wd}{b:Nat}{a:Array MapEntry}(d:a.toList.map (λe=>(e.key,e.val))=L.map (λp=>(RK p.1 p.2,.bool true)))(e:MapEntry)(f:e∈a.toList):∃p∈L,e.key=RK p.1 p.2/\e.val=.bool true:=by
 have:(e.key,e.val)∈a.toList.map (λe=>(e.key,e.val)):=List.mem_map.2 ⟨e,f,rfl⟩;grind
def Fp.find{b:Nat}(i:(Lit.int .i64 s).wf=true)(k:n.size<=maxLen){d:Array MapEntry}(f:d.toList.map (λe=>(e.key,e.val))=L.map (λp=>(RK p.1 p.2,.bool true)))(h:∀p∈L,(Lit.int .i64 p.1).wf=true/\p.2.size<=maxLen):
 ((Instr.findKey 336 (RK s n) d.toList).run prog w=.ok none w/\Ge L s n=false)\/(∃j,(Instr.findKey 336 (RK s n) d.toList).run prog w=.ok (some (j,.bool true)) w/\Ge L s n=true):=by
 have⟨l,m⟩:=iF s n i k;rcases zsF.find w m d.toList (λe g=>by
  have⟨p,a,c,_⟩:=Fp.key (w:=w) (b:=b) f e g;rw[c];exact iF _ _ (h p a).1 (h p a).2) with⟨g1,g2⟩|⟨j,e,g1,g2,g3⟩
 refine .inl ⟨g1,?_⟩;rw[Ge,List.any_eq_false];intro p a o;obtain⟨rfl,rfl⟩:=of_decide_eq_true o;have:(RK p.1 p.2,.bool true)∈d.toList.map (λe=>(e.key,e.val)):=by rw[f];exact List.mem_map.2 ⟨p,a,rfl⟩
 have⟨e,g,c⟩:=List.mem_map.1 this;exact g2 e g (Prod.mk.inj c).1;have⟨p,a,c,q⟩:=Fp.key (w:=w) (b:=b) f e (List.mem_of_getElem? g2);refine .inr ⟨j,by rw[g1,q],?_⟩;rw[Ge,List.any_eq_true];refine⟨p,a,decide_eq_true ?_⟩;rw[g3]at c;have:=Wu.1 c;exact⟨this.1.symm,this.2.symm⟩
def zsV(h:Fp w b L)(e:(Lit.int .i64 s).wf=true)(f:n.size<=maxLen):(Instr.lookup 334 (.map (some b)) (.agg #[s,B_ n]) false).run prog w=.ok (.bool (Ge L s n)) w:=by
 obtain⟨r,c,g,k,m⟩:=h;have⟨l,o⟩:=iF s n e f;have i:=λem=>zsF.check w em o;have p:(zeroValue 4).run prog w=.ok (.bool false) w:=by kernel_rfl
 have q:Value.agg #[s,B_ n]=RK s n:=rfl;rw[q];rcases Fp.find (w:=w) (b:=b) e f k m with⟨a,d⟩|⟨j,a,d⟩;simp[Instr.lookup,run_underlying underlying334,getObj,Sem.run,g,i,a,d,p];simp[Instr.lookup,run_underlying underlying334,getObj,Sem.run,g,i,a,d]
theorem Yg(h:Fp w b L)(f:(Lit.int .i64 s).wf=true)(g:n.size<=maxLen)(d:Ge L s n=false):
 ∃w',(Instr.mapUpdate 334 (.map (some b)) (.agg #[s,B_ n]) (.bool true)).run prog w=.ok () w'/\Fp w' b (L++ [(s,n)])/\w.grownBy w' (some b):=by
 have k:=h.lt;obtain⟨q,c,x,r,t⟩:=h;have⟨l,y⟩:=iF s n f g;have z:=λem=>zsF.check w em y;have A:Value.agg #[s,B_ n]=RK s n:=rfl;rw[A];have m:∀o:Obj,w.grownBy {w with heap:=w.heap.setIfInBounds b o} (some b):=λo=>⟨rfl,rfl,rfl,by simp,λi hi hne=>by
  grind⟩
 rcases Fp.find (w:=w) (b:=b) f g r t with⟨u,v⟩|⟨j,u,v⟩;refine⟨{w with heap:=w.heap.setIfInBounds b (.map (q.push {key:=RK s n,val:=.bool true,born:=c}) (c+1))},?_,⟨q.push {key:=RK s n,val:=.bool true,born:=c},c+1,by simp_all,by simp[r],?_⟩,m _⟩;simp[Instr.mapUpdate,run_underlying underlying334,getObj,setObj,Sem.run,x,z,u];all_goals grind
def Yb(w:Wd):(Instr.makeMap 334 none).run prog w=.ok (.map (some w.heap.size)) (w.alloc (.map #[] 0)):=by kernel_rfl
end Go.Proofs.YtafdcbmgdfliiaaGreat
namespace Go.Proofs.YtafdcbmgdfliiaaGreat
open Go.RowKit Go.Sort Go.Proofs.Tryz
variable {w w':Wd}{A B C D E c d e f g i m n o p q r s t u v x y z:Value}{fa:Ae}{b fc j k:Nat}{a:LB}{l:LV}{T:TypeId}
def oV(w:Wd):(zeroValue 4).run prog w=.ok (.bool false) w:=by kernel_rfl
def MO(f g:Ft)(w:Wd):CV 144 #[.agg #[B_ f.num,B_ f.fq,B_ f.to,f.dp,f.ar,B_ f.ty,f.n0,f.n1,f.n2],.agg #[B_ g.num,B_ g.fq,B_ g.to,g.dp,g.ar,B_ g.ty,g.n0,g.n1,g.n2]] w (.bool (Oq f g)):=by
 by_cases h:f.dp=g.dp
 . have b:=bMa h
   have a:Af (Oq f g=Op.bytesLess f.num.toList g.num.toList):=I (iN (by simpa using h));delta CV;go_in;go_wp2;go_ret;exact⟨Ip (by rw[a.1]),Ab (J _ _) (J _ _)⟩
 have b:=CN h
 have a:Af (Oq f g=decide (f.dp<g.dp)):=I (iP h);delta CV;go_in;go_wp2;go_ret;exact⟨Ip (by rw[a.1]),Ab (J _ _) (J _ _)⟩
def FM(f:Ft)(b:LB)(u:Nat)(w:Wd)(F:f.num.size<=2^47/\f.fq.size<=2^47/\f.to.size<=2^47/\f.ty.size<=2^47)(A:Dl prog w u .string (Lw b)):
 CV 143 #[.agg #[B_ f.num,B_ f.fq,B_ f.to,f.dp,f.ar,B_ f.ty,f.n0,f.n1,f.n2],.map (some u)] w (El b f):=by
 obtain⟨h,Q,R,d⟩:=F;replace d:f.ty.size<=maxLen:=by unfold maxLen;omega
 have B:=I A;clear A;cases C:Oz f.num.data.toList
 . have a:Af (El b f=1):=I (by simp[El,C]);delta CV;go_in;go_wp2_with (first|(go_at_call 217;refine cb (Te _ _ h) ?_)|(go_at_call 214;refine cb (Jh _ _ d) ?_));go_ret;exact⟨ze a.1.symm,J _ _⟩
 cases D:Gu f.ty.data.toList
 . have a:Af (El b f=1):=I (by simp[El,D]);delta CV;go_in;go_wp2_with (first|(go_at_call 217;refine cb (Te _ _ h) ?_)|(go_at_call 214;refine cb (Jh _ _ d) ?_));go_ret;exact⟨ze a.1.symm,J _ _⟩
 have l:El b f=if(Ao b f.fq&&Ao b f.to)=false then 6 else if(f.fq.toList==f.to.toList)=true then 14 else if Pj f=false then 5 else if(Dx f.n0&&Dx f.n1&&Dx f.n2)=false then 5 else 0:=by simp[El,C,D]
 have v:=I l;clear l;have G:∀o,(Instr.lookup 238 (.map (some u)) (B_ f.fq) false).run prog (w.alloc o)=.ok (.bool (Ao b f.fq)) (w.alloc o):=λo=>by rw[aU underlying238 underlying9 (B.1.alloc o) (key:=B_ f.fq) trivial (oV _),nL]
 have H:∀o,(Instr.lookup 238 (.map (some u)) (B_ f.to) false).run prog (w.alloc o)=.ok (.bool (Ao b f.to)) (w.alloc o):=λo=>by rw[aU underlying238 underlying9 (B.1.alloc o) (key:=B_ f.to) trivial (oV _),nL]
 cases m:Ao b f.fq <;> rw[m]at G
 . have a:Af (El b f=6):=I (v.1.trans (by simp[m]));delta CV;go_in;go_wp2_with (first|(go_at_call 217;refine cb (Te _ _ h) ?_)|(go_at_call 214;refine cb (Jh _ _ d) ?_));go_ret;exact⟨ze a.1.symm,J _ _⟩
 cases x:Ao b f.to <;> rw[x]at H
 . have a:Af (El b f=6):=I (v.1.trans (by simp[m,x]));delta CV;go_in;go_wp2_with (first|(go_at_call 217;refine cb (Te _ _ h) ?_)|(go_at_call 214;refine cb (Jh _ _ d) ?_));go_ret;exact⟨ze a.1.symm,J _ _⟩
 cases E:(f.fq.toList==f.to.toList)
 . have n:El b f=if Pj f=false then 5 else if(Dx f.n0&&Dx f.n1&&Dx f.n2)=false then 5 else 0:=v.1.trans (by simp only[m,x,E];rfl);have p:=I n;clear n;cases k:Pj f
   . have a:Af (El b f=5):=I (p.1.trans (by rw[k];rfl));have y:¬ (2880<=f.dp/\f.ar<=52593120/\f.dp<f.ar/\f.ar-f.dp<=1440):=by simpa[Pj] using k
     clear k;by_cases K:f.dp<2880
     . delta CV;go_in;go_wp2_with (first|(go_at_call 217;refine cb (Te _ _ h) ?_)|(go_at_call 214;refine cb (Jh _ _ d) ?_));go_ret;exact⟨ze a.1.symm,J _ _⟩
     by_cases L:52593120<f.ar
     . delta CV;go_in;go_wp2_with (first|(go_at_call 217;refine cb (Te _ _ h) ?_)|(go_at_call 214;refine cb (Jh _ _ d) ?_));go_ret;exact⟨ze a.1.symm,J _ _⟩
     by_cases M:f.ar<=f.dp
     . delta CV;go_in;go_wp2_with (first|(go_at_call 217;refine cb (Te _ _ h) ?_)|(go_at_call 214;refine cb (Jh _ _ d) ?_));go_ret;exact⟨ze a.1.symm,J _ _⟩
     have N:1440<f.ar-f.dp:=by omega
     delta CV;go_in;go_wp2_with (first|(go_at_call 217;refine cb (Te _ _ h) ?_)|(go_at_call 214;refine cb (Jh _ _ d) ?_));go_ret;exact⟨ze a.1.symm,J _ _⟩
   have q:El b f=if(Dx f.n0&&Dx f.n1&&Dx f.n2)=false then 5 else 0:=p.1.trans (by rw[k];rfl);have j:=I q;obtain⟨K,L,M,N⟩:2880<=f.dp/\f.ar<=52593120/\f.dp<f.ar/\f.ar-f.dp<=1440:=by simpa[Pj] using k
   clear k q;have S:∀w,(Instr.index 120 (.agg #[f.n0,f.n1,f.n2]) (Bn 0)).run prog w=.ok (Bn f.n0) w:=λ_=>rfl;have T:∀w,(Instr.index 120 (.agg #[f.n0,f.n1,f.n2]) (Bn 1)).run prog w=.ok (Bn f.n1) w:=λ_=>rfl;have U:∀w,(Instr.index 120 (.agg #[f.n0,f.n1,f.n2]) (Bn 2)).run prog w=.ok (Bn f.n2) w:=λ_=>rfl;delta CV;go_in;go_wp2_with (first|(go_at_call 217;refine cb (Te _ _ h) ?_)|(go_at_call 214;refine cb (Jh _ _ d) ?_));go_loop [63] (λi=>i=Bn 0\/(i=Bn 1/\Dx f.n0=true)\/(i=Bn 2/\Dx f.n0=true/\Dx f.n1=true)\/(i=Bn 3/\Dx f.n0=true/\Dx f.n1=true/\Dx f.n2=true)) (λi=>(3-intOf i).toNat);exact .inl rfl;rcases hrel with rfl|⟨rfl,r⟩|⟨rfl,r,z⟩|⟨rfl,r,z,P⟩
   . cases g:Dx f.n0
     . have a:Af (El b f=5):=I (j.1.trans (by rw[g];simp));have y:¬ (0<=f.n0/\f.n0<=8):=by simpa[Dx] using g
       by_cases s:f.n0<0
       . go_wp2;go_ret;exact⟨ze a.1.symm,J _ _⟩
       have t:8<f.n0:=by omega
       go_wp2;go_ret;exact⟨ze a.1.symm,J _ _⟩
     obtain⟨s,t⟩:0<=f.n0/\f.n0<=8:=by simpa[Dx] using g
     go_wp2;go_round;exact(.inr (.inl ⟨rfl,trivial⟩));simp[intOf]
   . cases g:Dx f.n1
     . have a:Af (El b f=5):=I (j.1.trans (by rw[g];simp));have y:¬ (0<=f.n1/\f.n1<=8):=by simpa[Dx] using g
       by_cases s:f.n1<0
       . go_wp2;go_ret;exact⟨ze a.1.symm,J _ _⟩
       have t:8<f.n1:=by omega
       go_wp2;go_ret;exact⟨ze a.1.symm,J _ _⟩
     obtain⟨s,t⟩:0<=f.n1/\f.n1<=8:=by simpa[Dx] using g
     go_wp2;go_round;exact(.inr (.inr (.inl ⟨rfl,r,trivial⟩)));simp[intOf]
   . cases g:Dx f.n2
     . have a:Af (El b f=5):=I (j.1.trans (by rw[g];simp));have y:¬ (0<=f.n2/\f.n2<=8):=by simpa[Dx] using g
       by_cases s:f.n2<0
       . go_wp2;go_ret;exact⟨ze a.1.symm,J _ _⟩
       have t:8<f.n2:=by omega
       go_wp2;go_ret;exact⟨ze a.1.symm,J _ _⟩
     obtain⟨s,t⟩:0<=f.n2/\f.n2<=8:=by simpa[Dx] using g
     go_wp2;go_round;exact(.inr (.inr (.inr ⟨rfl,r,z,trivial⟩)));simp[intOf]
   have a:Af (El b f=0):=I (j.1.trans (by rw[r,z,P];rfl));go_wp2;go_ret;exact⟨ze a.1.symm,J _ _⟩
 have a:Af (El b f=14):=I (v.1.trans (by simp only[m,x,E];rfl));delta CV;go_in;go_wp2_with (first|(go_at_call 217;refine cb (Te _ _ h) ?_)|(go_at_call 214;refine cb (Jh _ _ d) ?_));go_ret;exact⟨ze a.1.symm,J _ _⟩
def GH(s:BA)(o:Int)(l:List (Int×Int))(a:Ae)(cap:Nat)(w:Wd)(d:s.size<=maxLen)(k:l.length<=2^47)(h:Cj w a l):
 CV 141 #[.agg #[B_ s,o,CU a l.length cap]] w (zG s.data.toList o l):=by
 by_cases i:l.length<=1000000;exact gT s o l a cap w d i h;have j:16<l.length:=by omega
 cases f:Gu s.data.toList
 . have c:Af (zG s.data.toList o l=1):=I (by simp[zG,f]);delta CV;go_in;go_wp2_with (first|(go_at_call 214;refine cb (Jh _ _ d) ?_)|(go_at_call 215;refine cb (Oi _ _) ?_));go_ret;exact⟨ze c.1.symm,(An _ _).alloc (Bv _) _⟩
 cases g:Dr o
 . have c:Af (zG s.data.toList o l=5):=I (by simp[zG,f,g]);delta CV;go_in;go_wp2_with (first|(go_at_call 214;refine cb (Jh _ _ d) ?_)|(go_at_call 215;refine cb (Oi _ _) ?_));go_ret;exact⟨ze c.1.symm,(An _ _).alloc (Bv _) _⟩
 have c:Af (zG s.data.toList o l=10):=I (by simp[zG,f,g,j]);delta CV;go_in;go_wp2_with (first|(go_at_call 214;refine cb (Jh _ _ d) ?_)|(go_at_call 215;refine cb (Oi _ _) ?_));go_ret;exact⟨ze c.1.symm,(An _ _).alloc (Bv _) _⟩
def Gm(w:Wd)(z:Nat)(za:Ae)(zn zc:Nat)(aa:Ae)(an ac:Nat)(fa:Ae)(fn fc:Nat):Prop:=
 z<w.heap.size/\w.cell? (aD z 0)=some (.slice za zn zc)/\w.cell? (aD z 1)=some (.slice aa an ac)/\w.cell? (aD z 2)=some (.slice fa fn fc)
def Gm.grown{z:Nat}{d f:Ae}{g i l m:Nat}{a:Option Nat}(h:Gm w z d g i f k l fa m fc)(n:w.grownBy w' a)(b:some z≠a):Gm w' z d g i f k l fa m fc:=by
 obtain⟨o,p,q,r⟩:=h;have e:=n.block z o b;have c:∀j,w'.cell? (aD z j)=w.cell? (aD z j):=λj=>by simp only[World.cell?,e]
 exact⟨As o n.size,(c 0).trans p,(c 1).trans q,(c 2).trans r⟩
def Gm.below{z:Nat}{c d:Ae}{e f g i:Nat}(h:Gm w z c e f d g i fa j fc)(a:Bw w w'):Gm w' z c e f d g i fa j fc:=by
 obtain⟨b,k,l,m⟩:=h;exact⟨As b a.size,(a.cell (p:=aD z 0) b).trans k,(a.cell (p:=aD z 1) b).trans l,(a.cell (p:=aD z 2) b).trans m⟩
def Gm.new(w:Wd)(a b fa:Ae)(c d e f g fc:Nat):Gm (w.alloc (Obj.cells #[CU a c d,CU b e f,CU fa g fc] 27)) w.heap.size a c d b e f fa g fc:=by
 refine⟨by simp,?_,?_,?_⟩ <;> go_simp
theorem xR{l:List Cy}(b:k<l.length)(h:Fv (Cg l k)≠0):Ca a (l.drop k)=(Fv (Cg l k),a):=by
 grind[eU,Ca]
theorem xQ{l:List Cy}(b:k<l.length)(h:Fv (Cg l k)=0)(c:Ao a (Cg l k).name=true):Ca a (l.drop k)=(7,a):=by
 grind[eU,Ca]
theorem AE{l:List Cy}(b:k<l.length)(h:Fv (Cg l k)=0)(c:Ao a (Cg l k).name=false):Ca a (l.drop k)=Ca (a++ [(Cg l k).name]) (l.drop (k+1)):=by
 grind[eU,Ca]
theorem yC{b:LB}{l:List Bh}(c:k<l.length)(h:Eo (Ct l k).code.data.toList=false):Cb b a (l.drop k)=(1,a):=by
 grind[bQ,Cb]
theorem xZ{b:LB}{l:List Bh}(c:k<l.length)(h:Eo (Ct l k).code.data.toList=true)(d:Ao a (Ct l k).code=true):Cb b a (l.drop k)=(7,a):=by
 grind[bQ,Cb]
theorem xY{b:LB}{l:List Bh}(c:k<l.length)(h:Eo (Ct l k).code.data.toList=true)(d:Ao a (Ct l k).code=false)(e:Ao b (Ct l k).zone=false):Cb b a (l.drop k)=(6,a):=by
 grind[bQ,Cb]
theorem zoZ{b:LB}{l:List Bh}(c:k<l.length)(h:Eo (Ct l k).code.data.toList=true)(d:Ao a (Ct l k).code=false)(e:Ao b (Ct l k).zone=true):Cb b a (l.drop k)=Cb b (a++ [(Ct l k).code]) (l.drop (k+1)):=by
 grind[bQ,Cb]
def Tm(l:List Ft):Nat->Option Ft
 |0=>none
 |k+1=>some (Aa l k)
theorem xW{l:List Ft}{p:Option Ft}(b:k<l.length)(h:El a (Aa l k)≠0):Dw a p (l.drop k)=El a (Aa l k):=by
 grind[kN,Dw]
theorem xV{l:List Ft}(b:k+1<l.length)(h:El a (Aa l (k+1))=0)(c:Oq (Aa l k) (Aa l (k+1))=false):Dw a (Tm l (k+1)) (l.drop (k+1))=8:=by
 grind[kN,Dw,Tm]
theorem AF{l:List Ft}(b:k+1<l.length)(h:El a (Aa l (k+1))=0)(c:Oq (Aa l k) (Aa l (k+1))=true):Dw a (Tm l (k+1)) (l.drop (k+1))=Dw a (Tm l (k+1+1)) (l.drop (k+1+1)):=by
 grind[kN,Dw,Tm]
theorem vX{l:List Ft}(b:0<l.length)(h:El a (Aa l 0)=0):Dw a (Tm l 0) (l.drop 0)=Dw a (Tm l 1) (l.drop 1):=by
 grind[kN,Dw,Tm]
def rC(w:Wd):(Instr.makeMap 238 none).run prog w=.ok (.map (some w.heap.size)) (w.alloc (.map #[] 0)):=by kernel_rfl
def bB{a:Nat}{l:LB}(s:BA)(h:Dl prog w a .string (Lw l)):(Instr.lookup 238 (.map (some a)) (B_ s) false).run prog w=.ok (.bool (Ao l s)) w:=by
 rw[aU underlying238 underlying9 h (key:=B_ s) trivial (oV _),nL]
theorem eS{a:Nat}{l:LB}{s:BA}(h:Dl prog w a .string (Lw l))(b:Ao l s=false):∃w',(Instr.mapUpdate 238 (.map (some a)) (B_ s) (.bool true)).run prog w=.ok () w'/\Dl prog w' a .string (Lw (l++ [s]))/\w.grownBy w' (some a):=by
 have:=aP underlying238 underlying9 h (key:=B_ s) (.bool true) trivial;grind[LF]
def GL(t:At)(H K fa:Ae)(L M fc:Nat)(w:Wd)(hz:Al Nc w H t.zn)(ha:Al Mk w K t.ai)(hf:Al Hi w fa t.fs):
 CV 81 #[Az t H L K M fa fc] w (zY t):=by
 try delta Ay Az
 by_cases g1:16<t.zn.length
 . have Q:Af (zY t=10):=I (iP (.inl g1));delta CV;go_in;go_wp2;go_ret;exact⟨ze Q.1.symm,J _ _⟩
 by_cases x:64<t.ai.length
 . have Q:Af (zY t=10):=I (iP (.inr (.inl x)));delta CV;go_in;go_wp2;go_ret;exact⟨ze Q.1.symm,J _ _⟩
 by_cases g3:200<t.fs.length
 . have Q:Af (zY t=10):=I (iP (.inr (.inr g3)));delta CV;go_in;go_wp2;go_ret;exact⟨ze Q.1.symm,J _ _⟩
 have Q:zY t=if(Ca [] t.zn).1≠0 then(Ca [] t.zn).1
  else if(Cb (Ca [] t.zn).2 [] t.ai).1≠0 then(Cb (Ca [] t.zn).2 [] t.ai).1
  else Dw (Cb (Ca [] t.zn).2 [] t.ai).2 none t.fs:=iN (by omega)
 have Hv:=I Q;clear Q;have mk:=rC;delta CV;go_in;go_wp2_with fail;have⟨W,hW⟩:=aT ((w.alloc (Ap t H L K M fa fc)).alloc (.map #[] 0));have HT:=I ((Gm.new w H K fa t.zn.length L t.ai.length M t.fs.length fc).below (J _ (.map #[] 0)));have HM:=I (Dl.made prog (w.alloc (Ap t H L K M fa fc)) .string);have HB:=I (Ab (J w (Ap t H L K M fa fc)) (J _ (.map #[] 0)));have a0:(w.alloc (Ap t H L K M fa fc)).heap.size=w.heap.size+1:=by simp
 rw[<-hW]at HT HM HB;rw[a0]at HM;simp only[<-hW];clear hW a0;go_loopw [33] (λi wr=>∃(k:Nat) (n:LB),k<=t.zn.length/\i=Bn k/\Af (Ca [] t.zn=Ca n (t.zn.drop k))/\Af (Dl prog wr (w.heap.size+1) .string (Lw n))/\Af (Gm wr w.heap.size H t.zn.length L K t.ai.length M fa t.fs.length fc)/\Af (Bw w wr)) (λi _=>t.zn.length-(intOf i).toNat);exact⟨0, [],Bg _,rfl,I rfl,HM,HT,HB⟩;obtain⟨k,n,hk,rfl,a,hM,p,c⟩:=hrel;by_cases h:k<t.zn.length
 . obtain⟨b,a1,rfl,N,q⟩:=dV hz (by omega);have⟨sa,b3,c1,c2,c3,R,s2,s3⟩:=(q.below N c.1) k h;replace R:(Cg t.zn k).name.size<=maxLen:=by unfold maxLen;omega
   have S:b<wr.heap.size:=As N c.1.size;have S3:=I s3;clear s3 q;go_wp2_with fail;refine ca (GH _ _ _ _ _ _ R s2 (S3.1.below (J _ _))) λs f=>?_;have l:=I (Ab c.1 (Ab (J wr _) f));have D:=I ((hM.1.alloc _).below f);have z:=I ((p.1.below (J _ _)).below f);have d1:s.cell? (aD wr.heap.size 0)=some (B_ (Cg t.zn k).name):=((St f).1 _ 0 (by simp)).trans (by clear f;go_simp);have a2:wr.heap.size<s.heap.size:=As (by simp) f.size;have L1:=bB (Cg t.zn k).name D.1;have ez:zG (Cg t.zn k).name.data.toList (Cg t.zn k).off (Cg t.zn k).sh=Fv (Cg t.zn k):=rfl;simp only[ez];clear ez f c1 c2 c3 S3 p hM;by_cases B:Fv (Cg t.zn k)=0
   . cases A:Ao n (Cg t.zn k).name
     . rw[A]at L1;have⟨w2,P1,M2,x⟩:=eS D.1 A;have g:=I (a.1.trans (AE h B A));have T:=I M2;have U:=I (z.1.grown x (by simp));have V:=I (l.1.grown x l.1.size (by simp));clear M2 x;simp only[B];go_wp2;go_roundw;exact⟨k+1,_,by omega,by go_num,g,T,U,V⟩;simp[intOf];omega
     rw[A]at L1;have g:=I (a.1.trans (xQ h B A));have v:Af (zY t=7):=I (Hv.1.trans (by rw[g.1];rfl));simp only[B];go_wp2;go_ret;exact hU v l
   have g:=I (a.1.trans (xR h B));have v:Af (zY t=Fv (Cg t.zn k)):=I (Hv.1.trans (by rw[g.1];exact iP B));go_wp2;go_ret;exact hU v l
 obtain rfl:k=t.zn.length:=by omega
 have E:Ca [] t.zn=(0,n):=a.1.trans (by rw[Gk];rfl);have F:Af (zY t=if(Cb n [] t.ai).1≠0 then(Cb n [] t.ai).1 else Dw (Cb n [] t.ai).2 none t.fs):=I (Hv.1.trans (by rw[E];exact iN (by simp)));clear E Hv a hk h;have q0:=p.1.2.1;have q1:=p.1.2.2.1;have q2:=p.1.2.2.2;have q3:=p.1.1;have a6:w.heap.size+1<wr.heap.size:=hM.1.lt;go_wp2_with fail;have a7:=I (hM.1.alloc (.map #[] 0));have HT:=I (p.1.below (J _ (.map #[] 0)));have a3:=I (Dl.made prog wr .string);have HB:=I (Ab c.1 (J _ (.map #[] 0)));have a8:wr.heap.size<(wr.alloc (.map #[] 0)).heap.size:=by simp
 clear hM p c q0 q1 q2 q3;have⟨X,G⟩:=C_ wr.heap.size;rw[<-G]at a3 a8 a6;simp only[<-G];generalize wr.alloc (.map #[] 0)=W2 at*;clear G;go_loopw [54] (λi wr=>∃(k:Nat) (C:LB),k<=t.ai.length/\i=Bn k/\Af (Cb n [] t.ai=Cb n C (t.ai.drop k))/\Af (Dl prog wr (w.heap.size+1) .string (Lw n))/\Af (Dl prog wr X .string (Lw C))/\Af (Gm wr w.heap.size H t.zn.length L K t.ai.length M fa t.fs.length fc)/\Af (Bw w wr)) (λi _=>t.ai.length-(intOf i).toNat);exact⟨0, [],Bg _,rfl,I rfl,a7,a3,HT,HB⟩;obtain⟨k,C,hk,rfl,a,Y,u,p,c⟩:=hrel;by_cases h:k<t.ai.length
 . obtain⟨b,a1,rfl,N,q⟩:=eF ha (by omega);have⟨c1,c2,R,s2⟩:=(q.below N c.1) k h;have S:b<wr.heap.size:=As N c.1.size;clear q;have l:=I (λo=>Ab c.1 (J wr o));have LZ:=λo=>bB (Ct t.ai k).zone (Y.1.alloc o);have LA:=λo=>bB (Ct t.ai k).code (u.1.alloc o);cases A:Eo (Ct t.ai k).code.data.toList
   . have g:=I (a.1.trans (yC h A));have v:Af (zY t=1):=I (F.1.trans (by rw[g.1];rfl));clear LA LZ;go_wp2_with (go_at_call 142;refine cb (gA _ _ R) ?_);go_ret;exact⟨ze v.1.symm,l.1 _⟩
   cases e2:Ao C (Ct t.ai k).code <;> rw[e2]at LA
   . cases e3:Ao n (Ct t.ai k).zone <;> rw[e3]at LZ
     . have g:=I (a.1.trans (xY h A e2 e3));have v:Af (zY t=6):=I (F.1.trans (by rw[g.1];rfl));go_wp2_with (go_at_call 142;refine cb (gA _ _ R) ?_);go_ret;exact⟨ze v.1.symm,l.1 _⟩
     have g:=I (a.1.trans (zoZ h A e2 e3));have⟨w2,P1,M2,x⟩:=eS (u.1.alloc (oA (Ct t.ai k))) e2;have T:=I M2;have a9:=I ((Y.1.alloc _).grown x (by simp;omega));have U:=I ((p.1.below (J _ _)).grown x (by simp;omega));have V:=I ((l.1 _).grown x (l.1 _).size (by simp;omega));clear M2 x;go_wp2_with (go_at_call 142;refine cb (gA _ _ R) ?_);go_roundw;exact⟨k+1,_,by omega,by go_num,g,a9,T,U,V⟩;simp[intOf];omega
   have g:=I (a.1.trans (xZ h A e2));have v:Af (zY t=7):=I (F.1.trans (by rw[g.1];rfl));clear LZ;go_wp2_with (go_at_call 142;refine cb (gA _ _ R) ?_);go_ret;exact⟨ze v.1.symm,l.1 _⟩
 obtain rfl:k=t.ai.length:=by omega
 have E:Cb n [] t.ai=(0,C):=a.1.trans (by rw[Gk];rfl);have Z:Af (zY t=Dw C none t.fs):=I (F.1.trans (by rw[E];exact iN (by simp)));clear E F a hk h Y;have q0:=p.1.2.1;have q1:=p.1.2.2.1;have q2:=p.1.2.2.2;have q3:=p.1.1;go_wp2_with fail;clear q0 q1 q2 q3;go_loopw [81] (λi wr=>∃(k:Nat),k<=t.fs.length/\i=Bn k/\Af (Dw C none t.fs=Dw C (Tm t.fs k) (t.fs.drop k))/\Af (Dl prog wr X .string (Lw C))/\Af (Gm wr w.heap.size H t.zn.length L K t.ai.length M fa t.fs.length fc)/\Af (Bw w wr)) (λi _=>t.fs.length-(intOf i).toNat);exact⟨0,Bg _,rfl,I rfl,u,p,c⟩;clear u p c;obtain⟨k,hk,rfl,a,u,p,c⟩:=hrel;by_cases h:k<t.fs.length
 . obtain⟨b,a1,rfl,N,q⟩:=Qg hf (by omega);have⟨⟨c0,c1,c2,c3,c4,c5,c6,c7,c8⟩,sz⟩:=(q.below N c.1) k h;have b0:=I q;have S:b<wr.heap.size:=As N c.1.size;clear q;go_wp2_with fail;refine ca (FM (Aa t.fs k) C X _ sz (u.1.alloc _)) λs f=>?_;have l:=I (Ab c.1 (Ab (J wr _) f));have D:=I ((u.1.alloc _).below f);have z:=I ((p.1.below (J _ _)).below f);have a2:wr.heap.size<s.heap.size:=As (by simp) f.size;have r:=I (λj=>(St f).1 wr.heap.size j (by simp));have d0:s.cell? (aD wr.heap.size 0)=some (B_ (Aa t.fs k).num):=(r.1 0).trans (by clear r f;go_simp);have d1:s.cell? (aD wr.heap.size 1)=some (B_ (Aa t.fs k).fq):=(r.1 1).trans (by clear r f;go_simp);have d2:s.cell? (aD wr.heap.size 2)=some (B_ (Aa t.fs k).to):=(r.1 2).trans (by clear r f;go_simp);have d3:s.cell? (aD wr.heap.size 3)=some (Bn (Aa t.fs k).dp):=(r.1 3).trans (by clear r f;go_simp);have d4:s.cell? (aD wr.heap.size 4)=some (Bn (Aa t.fs k).ar):=(r.1 4).trans (by clear r f;go_simp);have d5:s.cell? (aD wr.heap.size 5)=some (B_ (Aa t.fs k).ty):=(r.1 5).trans (by clear r f;go_simp);have d6:s.cell? (aD wr.heap.size 6)=some (Bn (Aa t.fs k).n0):=(r.1 6).trans (by clear r f;go_simp);have d7:s.cell? (aD wr.heap.size 7)=some (Bn (Aa t.fs k).n1):=(r.1 7).trans (by clear r f;go_simp);have d8:s.cell? (aD wr.heap.size 8)=some (Bn (Aa t.fs k).n2):=(r.1 8).trans (by clear r f;go_simp);clear f r c0 c1 c2 c3 c4 c5 c6 c7 c8 p u;by_cases B:El C (Aa t.fs k)=0
   . simp only[B];have q2:=z.1.2.2.2;have q3:=z.1.1;have b4:b<s.heap.size:=Nat.lt_trans S a2;by_cases h0:k=0
     . have g:=I (a.1.trans (by subst h0;exact vX h B));have hd:decide (0<k)=false:=by simp;omega
       have b5:k+1<=t.fs.length:=h;have b1:=I h0;clear h0;go_wp2;go_quiet (fail);go_wp2;go_roundw;exact⟨k+1,by omega,by go_num,by have:=g.1;rw[b1.1];exact I this,I (D.1.drewN _),I (z.1.below (dN (An _ _) _)),I (dN l.1 _)⟩;simp[intOf];omega
     obtain⟨m,rfl⟩:∃m,k=m+1:=⟨k-1,by omega⟩;clear h0;have⟨⟨g0,g1,x,g3,g4,g5,g6,g7,g8⟩,_⟩:=(b0.1.below N l.1) m (by omega);go_wp2_with fail;have r0:=cR d0;have x0:=cR g0;have r1:=cR d1;have x1:=cR g1;have r2:=cR d2;have x2:=cR x;have r3:=cR d3;have x3:=cR g3;have r4:=cR d4;have x4:=cR g4;have r5:=cR d5;have x5:=cR g5;have r6:=cR d6;have x6:=cR g6;have r7:=cR d7;have x7:=cR g7;have r8:=cR d8;have x8:=cR g8;have y:=cR q2;have f1:=I (λd os=>Fa (MO (Aa t.fs m) (Aa t.fs (m+1)) (grow (redrawn s d) os)));refine SY ?_;repeat go_big_quiet_step (first|exact f1.1 _ _)
     refine wpQuiet_nil ?_;intro _ b2;obtain⟨⟨dq,a4⟩,a5⟩:=b2;subst a5;have P:=bR s dq a4;clear y f1 r0 x0 g0 d0 r1 x1 g1 d1 r2 x2 x d2 r3 x3 g3 d3 r4 x4 g4 d4 r5 x5 g5 d5 r6 x6 g6 d6 r7 x7 g7 d7 r8 x8 g8 d8;generalize grow (redrawn s dq) a4=w5 at*;cases A:Oq (Aa t.fs m) (Aa t.fs (m+1))
     . have g:=I (a.1.trans (xV h B A));have v:Af (zY t=8):=I (Z.1.trans g.1);go_wp2;go_ret;exact⟨ze v.1.symm,Ab l.1 P⟩
     have g:=I (a.1.trans (AF h B A));go_wp2;go_roundw;exact⟨m+1+1,by omega,by go_num,g,I (D.1.below P),I (z.1.below P),I (Ab l.1 P)⟩;simp[intOf];omega
   have g:=I (a.1.trans (xW h B));have v:Af (zY t=El C (Aa t.fs k)):=I (Z.1.trans g.1);go_wp2;go_ret;exact hU v l
 obtain rfl:k=t.fs.length:=by omega
 have v:Af (zY t=0):=I (Z.1.trans (a.1.trans (by rw[Gk];rfl)));go_wp2;go_ret;exact hU v c
theorem vB{l:List zB}(b:k<l.length)(h:zZ (Ak l k).name=false):Ih a (l.drop k)=1:=by
 grind[bJ,Ih]
theorem vY{l:List zB}(b:k<l.length)(h:zZ (Ak l k).name=true)(c:Ao a (Ak l k).name=true):Ih a (l.drop k)=7:=by
 grind[bJ,Ih]
theorem vZ{l:List zB}(b:k<l.length)(h:zZ (Ak l k).name=true)(c:Ao a (Ak l k).name=false)(d:Bb (Ak l k).ex≠0):Ih a (l.drop k)=Bb (Ak l k).ex:=by
 grind[bJ,Ih]
theorem xX{l:List zB}(b:k<l.length)(h:zZ (Ak l k).name=true)(c:Ao a (Ak l k).name=false)(d:Bb (Ak l k).ex=0):Ih a (l.drop k)=Ih (a++ [(Ak l k).name]) (l.drop (k+1)):=by
 grind[bJ,Ih]
theorem gO{a:List (Int×BA)}{l:List It}(b:k<l.length)(h:(Ar (Ah l k).sc 1 3&&zZ (Ah l k).name)=false):Gj a (l.drop k)=1:=by
 grind[jY,Gj]
theorem wP{a:List (Int×BA)}{l:List It}(b:k<l.length)(h:(Ar (Ah l k).sc 1 3&&zZ (Ah l k).name)=true)(c:Ge a (Ah l k).sc (Ah l k).name=true):Gj a (l.drop k)=7:=by
 grind[jY,Gj]
theorem wR{a:List (Int×BA)}{l:List It}(b:k<l.length)(h:(Ar (Ah l k).sc 1 3&&zZ (Ah l k).name)=true)(c:Ge a (Ah l k).sc (Ah l k).name=false)(d:Bb (Ah l k).ex≠0):Gj a (l.drop k)=Bb (Ah l k).ex:=by
 grind[jY,Gj]
theorem xT{a:List (Int×BA)}{l:List It}(b:k<l.length)(h:(Ar (Ah l k).sc 1 3&&zZ (Ah l k).name)=true)(c:Ge a (Ah l k).sc (Ah l k).name=false)(d:Bb (Ah l k).ex=0):Gj a (l.drop k)=Gj (a++ [((Ah l k).sc,(Ah l k).name)]) (l.drop (k+1)):=by
 grind[jY,Gj]
theorem zm{a:Array Value}{t:TypeId}{f:Nat×Nat}(h:w.heap[b]?=some (.cells a t f))(c:a[j]?=some v):w.cell? (aD b j)=some v:=by simp[World.cell?,h,c]
def EE{w:World}{b:Nat}{a:Array Value}{t:TypeId}{f:Nat×Nat}{v:Value}(j:Nat)(h:w.heap[b]?=some (.cells a t f))(c:a[j]?=some v):=zm (j:=j) h c
def D_{w:Wd}{b:Nat}{s:Array Value}{t:TypeId}{f:Nat×Nat}(h:w.heap[b]?=some (.cells s t f)):∀j:Nat,w.cell? (aD b j)=s[j]?:=λj=>by simp[World.cell?,h]
def zy{a b:Prop}(h:a)(k:b):a/\b:=⟨h,k⟩
def zw{a:Value}(h:w.heap[b]?=some (.cells (a::l).toArray T (0,0))):w.cell? (aD b 0)=some a:=EE 0 h rfl
def zu{a:Value}(h:w.heap[b]?=some (.cells (c::a::l).toArray T (0,0))):w.cell? (aD b 1)=some a:=EE 1 h rfl
def zC{a:Value}(h:w.heap[b]?=some (.cells (c::d::a::l).toArray T (0,0))):w.cell? (aD b 2)=some a:=EE 2 h rfl
def Hk{a:Value}(h:w.heap[b]?=some (.cells (c::d::e::a::l).toArray T (0,0))):w.cell? (aD b 3)=some a:=EE 3 h rfl
def Ks{a:Value}(h:w.heap[b]?=some (.cells (c::d::e::f::a::l).toArray T (0,0))):w.cell? (aD b 4)=some a:=EE 4 h rfl
def Lg{a:Value}(h:w.heap[b]?=some (.cells (c::d::e::f::g::a::l).toArray T (0,0))):w.cell? (aD b 5)=some a:=EE 5 h rfl
def Mf{a:Value}(h:w.heap[b]?=some (.cells (c::d::e::f::g::i::a::l).toArray T (0,0))):w.cell? (aD b 6)=some a:=EE 6 h rfl
def Ic{k a:Value}(h:w.heap[b]?=some (.cells (c::d::e::f::g::i::k::a::l).toArray T (0,0))):w.cell? (aD b 7)=some a:=EE 7 h rfl
def Jg{k a:Value}(h:w.heap[b]?=some (.cells (c::d::e::f::g::i::k::m::a::l).toArray T (0,0))):w.cell? (aD b 8)=some a:=EE 8 h rfl
def Mg{k a:Value}(h:w.heap[b]?=some (.cells (c::d::e::f::g::i::k::m::n::a::l).toArray T (0,0))):w.cell? (aD b 9)=some a:=EE 9 h rfl
def Ol{k a:Value}(h:w.heap[b]?=some (.cells (c::d::e::f::g::i::k::m::n::o::a::l).toArray T (0,0))):w.cell? (aD b 10)=some a:=EE 10 h rfl
def Qk{k a:Value}(h:w.heap[b]?=some (.cells (d::e::f::g::i::k::m::n::o::p::c::a::l).toArray T (0,0))):w.cell? (aD b 11)=some a:=EE 11 h rfl
def Qj{k a:Value}(h:w.heap[b]?=some (.cells (e::f::g::i::k::m::n::o::p::q::c::d::a::l).toArray T (0,0))):w.cell? (aD b 12)=some a:=EE 12 h rfl
def Ui{k a:Value}(h:w.heap[b]?=some (.cells (f::g::i::k::m::n::o::p::q::r::c::d::e::a::l).toArray T (0,0))):w.cell? (aD b 13)=some a:=EE 13 h rfl
def cO{k a:Value}(h:w.heap[b]?=some (.cells (g::i::k::m::n::o::p::q::r::s::c::d::e::f::a::l).toArray T (0,0))):w.cell? (aD b 14)=some a:=EE 14 h rfl
def cP{k a:Value}(h:w.heap[b]?=some (.cells (i::k::m::n::o::p::q::r::s::t::c::d::e::f::g::a::l).toArray T (0,0))):w.cell? (aD b 15)=some a:=EE 15 h rfl
def cQ{k a:Value}(h:w.heap[b]?=some (.cells (k::m::n::o::p::q::r::s::t::u::c::d::e::f::g::i::a::l).toArray T (0,0))):w.cell? (aD b 16)=some a:=EE 16 h rfl
def BN{k a:Value}(h:w.heap[b]?=some (.cells (m::n::o::p::q::r::s::t::u::v::c::d::e::f::g::i::k::a::l).toArray T (0,0))):w.cell? (aD b 17)=some a:=EE 17 h rfl
def cS{k a:Value}(h:w.heap[b]?=some (.cells (n::o::p::q::r::s::t::u::v::x::c::d::e::f::g::i::k::m::a::l).toArray T (0,0))):w.cell? (aD b 18)=some a:=EE 18 h rfl
def zrW{k a:Value}(h:w.heap[b]?=some (.cells (o::p::q::r::s::t::u::v::x::y::c::d::e::f::g::i::k::m::n::a::l).toArray T (0,0))):w.cell? (aD b 19)=some a:=EE 19 h rfl
def cT{k a:Value}(h:w.heap[b]?=some (.cells (p::q::r::s::t::u::v::x::y::z::c::d::e::f::g::i::k::m::n::o::a::l).toArray T (0,0))):w.cell? (aD b 20)=some a:=EE 20 h rfl
def cU{k a:Value}(h:w.heap[b]?=some (.cells (q::r::s::t::u::v::x::y::z::A::c::d::e::f::g::i::k::m::n::o::p::a::l).toArray T (0,0))):w.cell? (aD b 21)=some a:=EE 21 h rfl
def cV{k a:Value}(h:w.heap[b]?=some (.cells (r::s::t::u::v::x::y::z::A::B::c::d::e::f::g::i::k::m::n::o::p::q::a::l).toArray T (0,0))):w.cell? (aD b 22)=some a:=EE 22 h rfl
def zrV{k a:Value}(h:w.heap[b]?=some (.cells (s::t::u::v::x::y::z::A::B::C::c::d::e::f::g::i::k::m::n::o::p::q::r::a::l).toArray T (0,0))):w.cell? (aD b 23)=some a:=EE 23 h rfl
def cW{k a:Value}(h:w.heap[b]?=some (.cells (t::u::v::x::y::z::A::B::C::D::c::d::e::f::g::i::k::m::n::o::p::q::r::s::a::l).toArray T (0,0))):w.cell? (aD b 24)=some a:=EE 24 h rfl
def cX{k a:Value}(h:w.heap[b]?=some (.cells (u::v::x::y::z::A::B::C::D::E::c::d::e::f::g::i::k::m::n::o::p::q::r::s::t::a::l).toArray T (0,0))):w.cell? (aD b 25)=some a:=EE 25 h rfl
def SE{F k a:Value}(h:w.heap[b]?=some (.cells (v::x::y::z::A::B::C::D::E::F::c::d::e::f::g::i::k::m::n::o::p::q::r::s::t::u::a::l).toArray T (0,0))):w.cell? (aD b 26)=some a:=EE 26 h rfl
def FN(l:List zB)(a:Ae)(cap:Nat)(w:Wd)(B:Nat)(Q:B<=w.heap.size)(H:Me B w a l):
 CV 219 #[CU a l.length cap] w (Ih [] l):=by
 have hl:=H.1;have X:=I H;have mk:=rC;delta CV;go_in;go_wp2_with fail;have R:=I (Dl.made prog w .string);have S:=I (J w (.map #[] 0));have K:w.heap.size<(w.alloc (.map #[] 0)).heap.size:=by simp
 generalize w.alloc (.map #[] 0)=W at*;go_loopw [10] (λi wr=>∃(k:Nat) (n:LB),k<=l.length/\i=Bn k/\Af (Ih [] l=Ih n (l.drop k))/\Af (Dl prog wr w.heap.size .string (Lw n))/\Af (Bw w wr)) (λi _=>l.length-(intOf i).toNat);exact⟨0, [],Bg _,rfl,I rfl,R,S⟩;obtain⟨k,n,hk,rfl,c,L,f⟩:=hrel;by_cases g:k<l.length
 . obtain⟨b,Y,rfl,Z,t⟩:=X.1.cells (by omega);have⟨c0,T,u,d,⟨c1,c2,c3,c4⟩,o,h⟩:=(t k g).keep (f.1.mono Q) b _ _ Z;have a0:b<wr.heap.size:=by have:=f.1.size;omega
   have a1:w.heap.size<wr.heap.size:=L.1.lt;replace T:(Ak l k).name.size<=maxLen:=by unfold maxLen;omega
   have M:=I h;have HF:=I o;have U:=I (zh wr (Obj.cells #[B_ (Ak l k).name,(Ak l k).ex.op,(Ak l k).ex.num,B_ (Ak l k).ex.name,CU u (Ak l k).ex.args.length d] 214));have p:=I (L.1.alloc (Obj.cells #[B_ (Ak l k).name,(Ak l k).ex.op,(Ak l k).ex.num,B_ (Ak l k).ex.name,CU u (Ak l k).ex.args.length d] 214));have m:=I (Ab f.1 (J wr (Obj.cells #[B_ (Ak l k).name,(Ak l k).ex.op,(Ak l k).ex.num,B_ (Ak l k).ex.name,CU u (Ak l k).ex.args.length d] 214)));have E:=bB (Ak l k).name p.1;go_wp2_with fail;refine cb (eA _ _ T) ?_;cases F:zZ (Ak l k).name
   . have v:=I (c.1.trans (vB g F));go_wp2;go_ret;exact hU v m
   cases s:Ao n (Ak l k).name
   . rw[s]at E;have⟨N,P1,V,x⟩:=eS p.1 s;have y:=(x.block wr.heap.size (by simp) (by simp;omega)).trans U.1;have a3:wr.heap.size<N.heap.size:=As (by simp) x.size;have d1:=EE 1 y rfl;have d2:=EE 2 y rfl;have d3:=EE 3 y rfl;have d4:=EE 4 y rfl;have z:=I V;have A:=I (m.1.grown x m.1.size (by simp));have C:=I (M.1.keep ((((J wr (Obj.cells #[B_ (Ak l k).name,(Ak l k).ex.op,(Ak l k).ex.num,B_ (Ak l k).ex.name,CU u (Ak l k).ex.args.length d] 214)).mono (by omega)).grown x (by simp;omega) (λj hj=>by cases hj;exact Q)):Below B wr N));go_wp2_with fail;refine ca (dU (Ak l k).ex u d N B (by omega) HF.1 C.1) λw3 q=>?_;have P:=I (z.1.below q);have D:=I (Ab A.1 q);by_cases G:Bb (Ak l k).ex=0
     . have r:=I (c.1.trans (xX g F s G));rw[G];go_wp2;go_roundw;exact⟨k+1,_,by omega,by go_num,r,P,D⟩;simp[intOf];omega
     have r:=I (c.1.trans (vZ g F s G));have e4:=CN G
     go_wp2;go_ret;exact hU r D
   rw[s]at E;have v:=I (c.1.trans (vY g F s));go_wp2;go_ret;exact hU v m
 obtain rfl:k=l.length:=by omega
 have v:Af (Ih [] l=0):=I (c.1.trans (by rw[Gk];rfl));go_wp2;go_ret;exact hU v f
def zf3(l:List It)(a:Ae)(cap:Nat)(w:Wd)(B:Nat)(U:B<=w.heap.size)(L:AW B w a l):
 CV 220 #[CU a l.length cap] w (Gj [] l):=by
 have hl:=L.1;have HA:=I L;have mk:=Yb;delta CV;go_in;go_wp2_with fail;have V:=I (Fp.made w);have X:=I (J w (.map #[] 0));have M:w.heap.size<(w.alloc (.map #[] 0)).heap.size:=by simp
 generalize w.alloc (.map #[] 0)=W at*;go_loopw [11] (λi wr=>∃(k:Nat) (m:List (Int×BA)),k<=l.length/\i=Bn k/\Af (Gj [] l=Gj m (l.drop k))/\Af (Fp wr w.heap.size m)/\Af (Bw w wr)) (λi _=>l.length-(intOf i).toNat);exact⟨0, [],Bg _,rfl,I rfl,V,X⟩;obtain⟨k,m,hk,rfl,c,N,f⟩:=hrel;by_cases g:k<l.length
 . obtain⟨b,a0,rfl,hb,x⟩:=HA.1.cells (by omega);have⟨c0,P,H,Y,y,d,⟨c1,c2,c3,c4⟩,p,h⟩:=(x k g).keep (f.1.mono U) b _ _ hb;have a1:b<wr.heap.size:=by have:=f.1.size;omega
   have a3:w.heap.size<wr.heap.size:=N.1.lt;replace H:(Ah l k).name.size<=maxLen:=by unfold maxLen;omega
   have Q:=I h;have HF:=I p;have Z:=I Y;have q0:=I (zh wr (Obj.cells #[(Ah l k).sc,B_ (Ah l k).name,(Ah l k).ex.op,(Ah l k).ex.num,B_ (Ah l k).ex.name,CU y (Ah l k).ex.args.length d] 73));have z:=I (N.1.below (J wr (Obj.cells #[(Ah l k).sc,B_ (Ah l k).name,(Ah l k).ex.op,(Ah l k).ex.num,B_ (Ah l k).ex.name,CU y (Ah l k).ex.args.length d] 73)));have n:=I (Ab f.1 (J wr (Obj.cells #[(Ah l k).sc,B_ (Ah l k).name,(Ah l k).ex.op,(Ah l k).ex.num,B_ (Ah l k).ex.name,CU y (Ah l k).ex.args.length d] 73)));go_wp2_with fail;refine cb (tD _ _) ?_;cases e0:Ar (Ah l k).sc 1 3
   . have q:=I (c.1.trans (gO g (by rw[e0];rfl)));go_wp2;go_ret;exact hU q n
   go_wp2_with fail;refine cb (eA _ _ H) ?_;cases e1:zZ (Ah l k).name
   . have q:=I (c.1.trans (gO g (by rw[e1];simp)));go_wp2;go_ret;exact hU q n
   have r:=I (show(Ar (Ah l k).sc 1 3&&zZ (Ah l k).name)=true by rw[e0,e1];rfl);have q1:=I (zd (o':=Obj.cells #[(Ah l k).sc,B_ (Ah l k).name] 336) q0.1);have s:=I (z.1.below (J _ (Obj.cells #[(Ah l k).sc,B_ (Ah l k).name] 336)));have o:=I (Ab n.1 (J _ (Obj.cells #[(Ah l k).sc,B_ (Ah l k).name] 336)));have R:=zsV s.1 Z.1 H;cases v:Ge m (Ah l k).sc (Ah l k).name
   . rw[v]at R;have⟨S,P1,M2,A⟩:=Yg s.1 Z.1 H v;have C:=(A.block wr.heap.size (by simp;omega) (by simp;omega)).trans q1.1;have a4:wr.heap.size<S.heap.size:=As (by simp;omega) A.size;have d1:=EE 2 C rfl;have d2:=EE 3 C rfl;have d3:=EE 4 C rfl;have d4:=EE 5 C rfl;have D:=I M2;have E:=I (o.1.grown A o.1.size (by simp));have F:=I (Q.1.keep ((((Ab (J wr (Obj.cells #[(Ah l k).sc,B_ (Ah l k).name,(Ah l k).ex.op,(Ah l k).ex.num,B_ (Ah l k).ex.name,CU y (Ah l k).ex.args.length d] 73)) (J _ _)).mono (by omega)).grown A (by simp;omega) (λj hj=>by cases hj;exact U)):Below B wr S));go_wp2_with fail;refine ca (dU (Ah l k).ex y d S B (by omega) HF.1 F.1) λw3 t=>?_;have T:=I (D.1.below t);have G:=I (Ab E.1 t);by_cases K:Bb (Ah l k).ex=0
     . have u:=I (c.1.trans (xT g r.1 v K));rw[K];go_wp2;go_roundw;exact⟨k+1,_,by omega,by go_num,u,T,G⟩;simp[intOf];omega
     have u:=I (c.1.trans (wR g r.1 v K));have e4:=CN K
     go_wp2;go_ret;exact hU u G
   rw[v]at R;have q:=I (c.1.trans (wP g r.1 v));go_wp2;go_ret;exact hU q o
 obtain rfl:k=l.length:=by omega
 have q:Af (Gj [] l=0):=I (c.1.trans (by rw[Gk];rfl));go_wp2;go_ret;exact hU q f
def Lh(w:Wd)(b:Nat)(c:Ad)(p:Bd):Prop:=w.heap[b]?=some (.cells (Wb c p) 35 (0,0))
def Lh.new(w:Wd)(c:Ad)(p:Bd):Lh (w.alloc (Obj.cells #[c.rp,c.rl,c.cn,c.sit,c.lv,c.nf,c.nt,CU p.ca c.cs.length p.cc,CU p.ra c.rs.length p.rc,CU p.ka c.ks.length p.kc,CU p.xa c.xs.length p.xc,CU p.la c.ls.length p.lc,CU p.oa c.oz.length p.oc,c.gu] 35)) w.heap.size c p:=zh w _
def Lh.lt{c:Ad}{p:Bd}(h:Lh w b c p):b<w.heap.size:=Ag h
def Lh.below{c:Ad}{p:Bd}(h:Lh w b c p)(a:Bw w w'):Lh w' b c p:=(a.block b h.lt).trans h
def Lh.grown{c:Ad}{p:Bd}{a:Option Nat}(h:Lh w b c p)(e:w.grownBy w' a)(d:some b≠a):Lh w' b c p:=(e.block b h.lt d).trans h
def zco(s:BA)(w:Wd):CE 263 #[B_ s] w (Qp s):=by
 delta CE;go_in;go_wp2_with fail
 all_goals (go_ret;exact⟨ze (by first|(simp only[Qp,zN,iJ,iX,List.any_cons,List.any_nil, *];rfl)|simp_all),rfl⟩)
theorem vA{l:List Dg}(b:k<l.length)(h:zZ (Bc l k).name=false):If a (l.drop k)=(1,a):=by
 grind[bH,If]
theorem wV{l:List Dg}(b:k<l.length)(h:zZ (Bc l k).name=true)(c:Ao a (Bc l k).name=true):If a (l.drop k)=(7,a):=by
 grind[bH,If]
theorem LY{l:List Dg}(b:k<l.length)(h:zZ (Bc l k).name=true)(c:Ao a (Bc l k).name=false)(d:Qp (Bc l k).meas=0):If a (l.drop k)=(6,a):=by
 grind[bH,If]
theorem wU{l:List Dg}(b:k<l.length)(h:zZ (Bc l k).name=true)(c:Ao a (Bc l k).name=false)(d:Qp (Bc l k).meas≠0)(e:(Ar (Bc l k).most 0 599999&&Ar (Bc l k).days 1 31)=false):If a (l.drop k)=(5,a):=by
 grind[bH,If]
theorem zrh{l:List Dg}(b:k<l.length)(h:zZ (Bc l k).name=true)(c:Ao a (Bc l k).name=false)(d:Qp (Bc l k).meas≠0)(e:(Ar (Bc l k).most 0 599999&&Ar (Bc l k).days 1 31)=true):If a (l.drop k)=If (a++ [(Bc l k).name]) (l.drop (k+1)):=by
 grind[bH,If]
theorem uZ{l:List Fd}(b:k<l.length)(h:zZ (Bi l k).name=false):Kh a (l.drop k)=1:=by
 grind[eT,Kh]
theorem nP{l:List Fd}(b:k<l.length)(h:zZ (Bi l k).name=true)(c:Ao a (Bi l k).name=true):Kh a (l.drop k)=7:=by
 grind[eT,Kh]
theorem wT{l:List Fd}(b:k<l.length)(h:zZ (Bi l k).name=true)(c:Ao a (Bi l k).name=false)(d:(Ar (Bi l k).days 1 31&&Ar (Bi l k).cnt 1 (Bi l k).days)=false):Kh a (l.drop k)=5:=by
 grind[eT,Kh]
theorem SK{l:List Fd}(b:k<l.length)(h:zZ (Bi l k).name=true)(c:Ao a (Bi l k).name=false)(d:(Ar (Bi l k).days 1 31&&Ar (Bi l k).cnt 1 (Bi l k).days)=true):Kh a (l.drop k)=Kh (a++ [(Bi l k).name]) (l.drop (k+1)):=by
 grind[eT,Kh]
def FL(c:Ad)(p:Bd)(w:Wd)(B:Nat)(hB:B<=w.heap.size)(M:zsr B w p.la c.ls)(N:BZ B w p.oa c.oz):
 CV 223 #[Ay c p] w (Gg c):=by
 try delta Ay Az
 have a1:=M.1;have a2:=N.1;have HL:=I M;have HO:=I N;have mk:=rC;have u:Af (Gg c=if(If [] c.ls).1≠0 then(If [] c.ls).1 else Kh (If [] c.ls).2 c.oz):=I rfl;delta CV;go_in;go_wp2_with fail;have⟨W,P⟩:=aT ((w.alloc (Aj c p)).alloc (.map #[] 0));have Q:=I ((Lh.new w c p).below (J _ (.map #[] 0)));have L:=I (Dl.made prog (w.alloc (Aj c p)) .string);have R:=I (Ab (J w (Aj c p)) (J _ (.map #[] 0)));rw[zr]at L;rw[<-P]at Q L R;simp only[<-P];go_loopw [12] (λi wr=>∃(k:Nat) (h:LB),k<=c.ls.length/\i=Bn k/\Af (If [] c.ls=If h (c.ls.drop k))/\Af (Dl prog wr (w.heap.size+1) .string (Lw h))/\Af (Lh wr w.heap.size c p)/\Af (Bw w wr)) (λi _=>c.ls.length-(intOf i).toNat);exact⟨0, [],Bg _,rfl,I rfl,L,Q,R⟩;obtain⟨k,h,hk,rfl,a,t,C,f⟩:=hrel;by_cases g:k<c.ls.length
 . have⟨b,S,q,T,r⟩:=HL.1.cells (by omega);rw[q];have⟨c0,c1,c2,c3,D,s2⟩:=(r k g).keep (f.1.mono hB) b _ _ T;have U:b<wr.heap.size:=by have:=f.1.size;omega
   have V:w.heap.size+1<wr.heap.size:=t.1.lt;replace D:(Bc c.ls k).name.size<=maxLen:=by unfold maxLen;omega
   have q0:=I (zh wr (Obj.cells #[B_ (Bc c.ls k).name,B_ (Bc c.ls k).meas,(Bc c.ls k).most,(Bc c.ls k).days] 302));have m:=I (t.1.alloc (Obj.cells #[B_ (Bc c.ls k).name,B_ (Bc c.ls k).meas,(Bc c.ls k).most,(Bc c.ls k).days] 302));have E:=I (C.1.below (J wr (Obj.cells #[B_ (Bc c.ls k).name,B_ (Bc c.ls k).meas,(Bc c.ls k).most,(Bc c.ls k).days] 302)));have d:=I (Ab f.1 (J wr (Obj.cells #[B_ (Bc c.ls k).name,B_ (Bc c.ls k).meas,(Bc c.ls k).most,(Bc c.ls k).days] 302)));have v:=bB (Bc c.ls k).name m.1;go_wp2_with fail;refine cb (eA _ _ D) ?_;cases o:zZ (Bc c.ls k).name
   . have j:Af (Gg c=1):=I (u.1.trans (by rw[a.1,vA g o];rfl));go_wp2;go_ret;exact hU j d
   cases l:Ao h (Bc c.ls k).name
   . rw[l]at v;by_cases F:Qp (Bc c.ls k).meas=0
     . have j:Af (Gg c=6):=I (u.1.trans (by rw[a.1,LY g o l F];rfl));go_wp2_with fail;refine cb (zco _ _) ?_;rw[F];go_wp2;go_ret;exact hU j d
     have X:=I F;have a3:=RZ F
     cases G:Ar (Bc c.ls k).most 0 599999
     . have j:Af (Gg c=5):=I (u.1.trans (by rw[a.1,wU g o l X.1 (by rw[G];rfl)];rfl));go_wp2_with fail;refine cb (zco _ _) ?_;go_wp2_with fail;refine cb (Iv _ _ _ _) ?_;go_wp2;go_ret;exact hU j d
     cases H:Ar (Bc c.ls k).days 1 31
     . have j:Af (Gg c=5):=I (u.1.trans (by rw[a.1,wU g o l X.1 (by rw[H];simp)];rfl));go_wp2_with fail;refine cb (zco _ _) ?_;go_wp2_with fail;refine cb (Iv _ _ _ _) ?_;go_wp2_with fail;refine cb (Iv _ _ _ _) ?_;go_wp2;go_ret;exact hU j d
     have⟨w2,P1,K,A⟩:=eS m.1 l;have x:=I K;have Y:=I (E.1.grown A (by simp));have y:=I (d.1.grown A d.1.size (by simp));have z:=I (a.1.trans (zrh g o l X.1 (by rw[G,H];rfl)));go_wp2_with fail;refine cb (zco _ _) ?_;go_wp2_with fail;refine cb (Iv _ _ _ _) ?_;go_wp2_with fail;refine cb (Iv _ _ _ _) ?_;go_wp2;go_roundw;exact⟨k+1,_,by omega,by go_num,z,x,Y,y⟩;simp[intOf];omega
   rw[l]at v;have j:Af (Gg c=7):=I (u.1.trans (by rw[a.1,wV g o l];rfl));go_wp2;go_ret;exact hU j d
 obtain rfl:k=c.ls.length:=by omega
 have s:Af (Gg c=Kh h c.oz):=I (u.1.trans (by rw[a.1,Gk];rfl));have Z:=Qj C.1;have a0:=C.1.lt;go_wp2_with fail;obtain⟨w0,rfl⟩:∃w0:Wd,w0=wr:=⟨_,rfl⟩;go_loopw [49] (λi wr=>∃(k:Nat) (ac:LB),k<=c.oz.length/\i=Bn k/\Af (Kh h c.oz=Kh ac (c.oz.drop k))/\Af (Dl prog wr (w.heap.size+1) .string (Lw ac))/\Af (Bw w wr)) (λi _=>c.oz.length-(intOf i).toNat);exact⟨0,h,Bg _,rfl,I rfl,t,f⟩;obtain⟨k,h,hk,rfl,a,t,f⟩:=hrel;by_cases g:k<c.oz.length
 . have⟨b,S,q,T,r⟩:=HO.1.cells (by omega);rw[q];have⟨c0,c1,c2,D⟩:=(r k g).keep (f.1.mono hB) b _ _ T;have U:b<wr.heap.size:=by have:=f.1.size;omega
   have V:w.heap.size+1<wr.heap.size:=t.1.lt;replace D:(Bi c.oz k).name.size<=maxLen:=by unfold maxLen;omega
   have q0:=I (zh wr (Obj.cells #[B_ (Bi c.oz k).name,(Bi c.oz k).cnt,(Bi c.oz k).days] 304));have m:=I (t.1.alloc (Obj.cells #[B_ (Bi c.oz k).name,(Bi c.oz k).cnt,(Bi c.oz k).days] 304));have d:=I (Ab f.1 (J wr (Obj.cells #[B_ (Bi c.oz k).name,(Bi c.oz k).cnt,(Bi c.oz k).days] 304)));have v:=bB (Bi c.oz k).name m.1;go_wp2_with fail;refine cb (eA _ _ D) ?_;cases o:zZ (Bi c.oz k).name
   . have j:=I (s.1.trans (a.1.trans (uZ g o)));go_wp2;go_ret;exact hU j d
   cases l:Ao h (Bi c.oz k).name
   . rw[l]at v;cases G:Ar (Bi c.oz k).days 1 31
     . have j:=I (s.1.trans (a.1.trans (wT g o l (by rw[G];rfl))));go_wp2_with fail;refine cb (Iv _ _ _ _) ?_;go_wp2;go_ret;exact hU j d
     cases H:Ar (Bi c.oz k).cnt 1 (Bi c.oz k).days
     . have j:=I (s.1.trans (a.1.trans (wT g o l (by rw[H];simp))));go_wp2_with fail;refine cb (Iv _ _ _ _) ?_;go_wp2_with fail;refine cb (Iv _ _ _ _) ?_;go_wp2;go_ret;exact hU j d
     have⟨w2,P1,K,A⟩:=eS m.1 l;have x:=I K;have y:=I (d.1.grown A d.1.size (by simp));have z:=I (a.1.trans (SK g o l (by rw[G,H];rfl)));go_wp2_with fail;refine cb (Iv _ _ _ _) ?_;go_wp2_with fail;refine cb (Iv _ _ _ _) ?_;go_wp2;go_roundw;exact⟨k+1,_,by omega,by go_num,z,x,y⟩;simp[intOf];omega
   rw[l]at v;have j:=I (s.1.trans (a.1.trans (nP g o l)));go_wp2;go_ret;exact hU j d
 obtain rfl:k=c.oz.length:=by omega
 have j:Af (Gg c=0):=I (s.1.trans (a.1.trans (by rw[Gk];rfl)));go_wp2;go_ret;exact hU j f
theorem tP{l:List Ky}(a:k<l.length)(h:Ar (Aq l k).sc 1 3=false):Ig (l.drop k)=1:=by
 grind[pZ,Ig]
theorem vW{l:List Ky}(a:k<l.length)(h:Ar (Aq l k).sc 1 3=true)(b:Bb (Aq l k).ex≠0):Ig (l.drop k)=Bb (Aq l k).ex:=by
 grind[pZ,Ig]
theorem xU{l:List Ky}(a:k<l.length)(h:Ar (Aq l k).sc 1 3=true)(b:Bb (Aq l k).ex=0):Ig (l.drop k)=Ig (l.drop (k+1)):=by
 grind[pZ,Ig]
theorem wO{l:List zH}(a:k<l.length)(b:Bb (Au l k)≠0):Kg (l.drop k)=Bb (Au l k):=by
 grind[Vx,Kg]
theorem xS{l:List zH}(a:k<l.length)(b:Bb (Au l k)=0):Kg (l.drop k)=Kg (l.drop (k+1)):=by
 grind[Vx,Kg]
def IU(c:Ad)(p:Bd)(w:Wd)(h:Mh c=false):
 CV 145 #[Ay c p] w (Bn 5):=by
 try delta Ay Az
 cases b:Ar c.rp 0 1440
 . delta CV;go_in;go_wp2_with (go_at_call 218;refine cb (Iv _ _ _ _) ?_);go_ret;exact⟨rfl,J _ _⟩
 cases d:Ar c.rl 0 1440
 . delta CV;go_in;go_wp2_with (go_at_call 218;refine cb (Iv _ _ _ _) ?_);go_ret;exact⟨rfl,J _ _⟩
 cases f:Ar c.cn 0 1440
 . delta CV;go_in;go_wp2_with (go_at_call 218;refine cb (Iv _ _ _ _) ?_);go_ret;exact⟨rfl,J _ _⟩
 cases g:Ar c.sit c.cn 1440
 . delta CV;go_in;go_wp2_with (go_at_call 218;refine cb (Iv _ _ _ _) ?_);go_ret;exact⟨rfl,J _ _⟩
 cases i:Ar c.lv 0 10080
 . delta CV;go_in;go_wp2_with (go_at_call 218;refine cb (Iv _ _ _ _) ?_);go_ret;exact⟨rfl,J _ _⟩
 cases j:Ar c.nf 0 1439
 . delta CV;go_in;go_wp2_with (go_at_call 218;refine cb (Iv _ _ _ _) ?_);go_ret;exact⟨rfl,J _ _⟩
 cases k:Ar c.nt 0 1439
 . delta CV;go_in;go_wp2_with (go_at_call 218;refine cb (Iv _ _ _ _) ?_);go_ret;exact⟨rfl,J _ _⟩
 cases l:Ar c.gu 0 599999
 . delta CV;go_in;go_wp2_with (go_at_call 218;refine cb (Iv _ _ _ _) ?_);go_ret;exact⟨rfl,J _ _⟩
 simp[Mh,b,d,f,g,i,j,k,l]at h
def IT(c:Ad)(p:Bd)(w:Wd)(b:Mh c=true)(h:Li c=false):
 CV 145 #[Ay c p] w (Bn 10):=by
 try delta Ay Az
 simp only[Mh,Em]at b;obtain⟨⟨⟨⟨⟨⟨⟨d,f⟩,g⟩,i⟩,j⟩,k⟩,l⟩,m⟩:=b;by_cases n:32<c.cs.length
 . delta CV;go_in;go_wp2_with (go_at_call 218;refine cb (Iv _ _ _ _) ?_);go_ret;exact⟨rfl,J _ _⟩
 by_cases o:40<c.rs.length
 . delta CV;go_in;go_wp2_with (go_at_call 218;refine cb (Iv _ _ _ _) ?_);go_ret;exact⟨rfl,J _ _⟩
 by_cases q:16<c.ks.length
 . delta CV;go_in;go_wp2_with (go_at_call 218;refine cb (Iv _ _ _ _) ?_);go_ret;exact⟨rfl,J _ _⟩
 by_cases r:1<c.xs.length
 . delta CV;go_in;go_wp2_with (go_at_call 218;refine cb (Iv _ _ _ _) ?_);go_ret;exact⟨rfl,J _ _⟩
 by_cases s:16<c.ls.length
 . delta CV;go_in;go_wp2_with (go_at_call 218;refine cb (Iv _ _ _ _) ?_);go_ret;exact⟨rfl,J _ _⟩
 by_cases t:16<c.oz.length
 . delta CV;go_in;go_wp2_with (go_at_call 218;refine cb (Iv _ _ _ _) ?_);go_ret;exact⟨rfl,J _ _⟩
 simp[Li]at h;omega
theorem IV(c:Ad)(p:Bd)(w:Wd)(B:Nat)(L:B<=w.heap.size)(ha:Kb B w c p):
 CV 145 #[Ay c p] w (Cf c):=by
 try delta Ay Az
 cases E:Mh c;exact(IU c p w E).mono (by rintro e V ⟨rfl,h⟩;exact⟨ze (by rw[Cf,iP E]),h⟩);cases M:Li c;exact(IT c p w E M).mono (by rintro e V ⟨rfl,h⟩;exact⟨ze (by rw[Cf,iN (by simp[E]),iP M]),h⟩);have X:=I (show Cf c=if Ih [] c.cs≠0 then Ih [] c.cs else if Gj [] c.rs≠0 then Gj [] c.rs else if Ig c.ks≠0 then Ig c.ks else if Kg c.xs≠0 then Kg c.xs else Gg c by rw[Cf,iN (by simp[E]),iN (by simp[M])]);simp only[Mh,Em]at E;obtain⟨⟨⟨⟨⟨⟨⟨b0,b1⟩,b2⟩,b3⟩,b4⟩,b5⟩,b6⟩,b7⟩:=E;simp only[Li,Em,decide_eq_true_eq]at M;obtain⟨⟨⟨⟨⟨s0,s1⟩,s2⟩,s3⟩,s4⟩,s5⟩:=M;have N:=I ha;delta CV;go_in;go_wp2_with (go_at_call 218;refine cb (Iv _ _ _ _) ?_);have HC:=I (Lh.new w c p);have Y:=I (J w (Aj c p));have P:B<=(w.alloc (Aj c p)).heap.size:=by simp;omega
 have Q:=I (N.1.keep (Y.1.mono L));generalize w.alloc (Aj c p)=W at*;refine ca (FN c.cs p.ca p.cc _ B P Q.1.cs) λw1 z=>?_;have n:=I (HC.1.below z);have d:=I (Ab Y.1 z);have t:=n.1.lt;have Z:=Jg n.1;by_cases R:Ih [] c.cs=0
 . have F:=I (X.1.trans (iN (by simpa using R)));rw[R];go_wp2_with fail;refine ca (zf3 c.rs p.ra p.rc w1 B (by have:=d.1.size;omega) (N.1.keep (d.1.mono L)).rs) λw2 z=>?_;have A:=I (n.1.below z);have G:=I (Ab d.1 z);have t:=A.1.lt;have d9:=Mg A.1;by_cases S:Gj [] c.rs=0
   . have C:=I (F.1.trans (iN (by simpa using S)));rw[S];go_wp2_with fail;go_loopw [86] (λi wr=>∃(k:Nat),k<=c.ks.length/\i=Bn k/\Af (Ig c.ks=Ig (c.ks.drop k))/\Af (Lh wr w.heap.size c p)/\Af (Bw w wr)) (λi _=>c.ks.length-(intOf i).toNat);exact⟨0,Bg _,rfl,I rfl,A,G⟩;obtain⟨k,hk,rfl,f,l,a⟩:=hrel;by_cases q:k<c.ks.length
     . obtain⟨b,a0,u,z,v⟩:=N.1.ks.cells (by omega);rw[u];obtain⟨c0,sw,D,g,⟨c1,c2,c3,c4⟩,r,m⟩:=(v k q).keep (a.1.mono L) b _ _ z;have a1:b<wr.heap.size:=by have:=a.1.size;omega
       have HF:=I r;have x:=I (m.keep ((J wr (Obj.cells #[(Aq c.ks k).sc,(Aq c.ks k).ex.op,(Aq c.ks k).ex.num,.string (Aq c.ks k).ex.name,.slice D (Aq c.ks k).ex.args.length g] 82)).mono (by have:=a.1.size;omega)));have n:=I (l.1.below (J wr (Obj.cells #[(Aq c.ks k).sc,(Aq c.ks k).ex.op,(Aq c.ks k).ex.num,.string (Aq c.ks k).ex.name,.slice D (Aq c.ks k).ex.args.length g] 82)));have d:=I (Ab a.1 (J wr (Obj.cells #[(Aq c.ks k).sc,(Aq c.ks k).ex.op,(Aq c.ks k).ex.num,.string (Aq c.ks k).ex.name,.slice D (Aq c.ks k).ex.args.length g] 82)));go_wp2_with fail;refine cb (tD _ _) ?_;cases e0:Ar (Aq c.ks k).sc 1 3
       . have j:=I (show Cf c=1 from C.1.trans (by rw[f.1,tP q e0];rfl));go_wp2;go_ret;exact hU j d
       go_wp2_with fail;refine ca (dU (Aq c.ks k).ex D g _ B (by have:=d.1.size;omega) HF.1 x.1) λw3 o=>?_;have H:=I (n.1.below o);have s:=I (Ab d.1 o);by_cases y:Bb (Aq c.ks k).ex=0
       . have j:=I (f.1.trans (xU q e0 y));rw[y];go_wp2;go_roundw;exact⟨k+1,by omega,by go_num,j,H,s⟩;simp[intOf];omega
       have j:=I (show Cf c=Bb (Aq c.ks k).ex from C.1.trans (by rw[f.1,vW q e0 y,iP y]));have e4:=CN y
       go_wp2;go_ret;exact hU j s
     obtain rfl:k=c.ks.length:=by omega
     have T:=I (show Cf c=if Kg c.xs≠0 then Kg c.xs else Gg c from C.1.trans (by rw[f.1,Gk];rfl));have K:=Ol l.1;have t:=l.1.lt;go_wp2_with fail;obtain⟨w0,rfl⟩:∃w0:Wd,w0=wr:=⟨_,rfl⟩;go_loopw [104] (λi wr=>∃(k:Nat),k<=c.xs.length/\i=Bn k/\Af (Kg c.xs=Kg (c.xs.drop k))/\Af (Lh wr w.heap.size c p)/\Af (Bw w wr)) (λi _=>c.xs.length-(intOf i).toNat);exact⟨0,Bg _,rfl,I rfl,l,a⟩;obtain⟨k,hk,rfl,f,l,a⟩:=hrel;by_cases q:k<c.xs.length
     . obtain⟨b,a0,u,z,v⟩:=N.1.xs.cells (by omega);rw[u];obtain⟨D,g,a7,⟨c0,c1,c2,c3⟩,r,m⟩:=(v.keep (a.1.mono L)).at k q;have a1:b<wr.heap.size:=by have:=a.1.size;omega
       have HF:=I r;have x:=I (m.keep ((J wr (Obj.cells #[(Au c.xs k).op,(Au c.xs k).num,.string (Au c.xs k).name,.slice D (Au c.xs k).args.length g] 71)).mono (by have:=a.1.size;omega)));have n:=I (l.1.below (J wr (Obj.cells #[(Au c.xs k).op,(Au c.xs k).num,.string (Au c.xs k).name,.slice D (Au c.xs k).args.length g] 71)));have d:=I (Ab a.1 (J wr (Obj.cells #[(Au c.xs k).op,(Au c.xs k).num,.string (Au c.xs k).name,.slice D (Au c.xs k).args.length g] 71)));go_wp2_with fail;refine ca (dU (Au c.xs k) D g _ B (by have:=d.1.size;omega) HF.1 x.1) λw3 o=>?_;have H:=I (n.1.below o);have s:=I (Ab d.1 o);by_cases y:Bb (Au c.xs k)=0
       . have j:=I (f.1.trans (xS q y));rw[y];go_wp2;go_roundw;exact⟨k+1,by omega,by go_num,j,H,s⟩;simp[intOf];omega
       have j:=I (show Cf c=Bb (Au c.xs k) from T.1.trans (by rw[f.1,wO q y,iP y]));have e4:=CN y
       go_wp2;go_ret;exact hU j s
     obtain rfl:k=c.xs.length:=by omega
     have a3:=I (show Cf c=Gg c from T.1.trans (by rw[f.1,Gk];rfl));have t:=l.1.lt;have d0:=zw l.1;have d1:=zu l.1;have d2:=zC l.1;have d3:=Hk l.1;have d4:=Ks l.1;have d5:=Lg l.1;have d6:=Mf l.1;have d7:=Ic l.1;have Z:=Jg l.1;have d9:=Mg l.1;have K:=Ol l.1;have a4:=Qk l.1;have a5:=Qj l.1;have a6:=Ui l.1;go_wp2_with fail;have U:=I (N.1.keep (a.1.mono L));refine ca (FL c p wr B (by have:=a.1.size;omega) U.1.ls U.1.oz) λw3 o=>?_;have s:=I (Ab a.1 o);go_wp2;go_ret;exact hU a3 s
   have j:=I (F.1.trans (iP S));have e4:=CN S
   go_wp2;go_ret;exact hU j G
 have j:=I (X.1.trans (iP R));have e4:=CN R
 go_wp2;go_ret;exact hU j d
def Ek{q:Nat}{c:Ad}{p:Bd}(h:w.heap[q]?=some (Aj c p)):w.cell? (aD q 0)=some (Bn c.rp)/\w.cell? (aD q 1)=some (Bn c.rl)/\w.cell? (aD q 2)=some (Bn c.cn)/\w.cell? (aD q 3)=some (Bn c.sit)/\w.cell? (aD q 4)=some (Bn c.lv)/\w.cell? (aD q 5)=some (Bn c.nf)/\w.cell? (aD q 6)=some (Bn c.nt)/\w.cell? (aD q 7)=some (CU p.ca c.cs.length p.cc)/\w.cell? (aD q 8)=some (CU p.ra c.rs.length p.rc)/\w.cell? (aD q 9)=some (CU p.ka c.ks.length p.kc)/\w.cell? (aD q 10)=some (CU p.xa c.xs.length p.xc)/\w.cell? (aD q 11)=some (CU p.la c.ls.length p.lc)/\w.cell? (aD q 12)=some (CU p.oa c.oz.length p.oc)/\w.cell? (aD q 13)=some (Bn c.gu)/\q<w.heap.size:=⟨EE 0 h rfl,EE 1 h rfl,EE 2 h rfl,EE 3 h rfl,EE 4 h rfl,EE 5 h rfl,EE 6 h rfl,EE 7 h rfl,EE 8 h rfl,EE 9 h rfl,EE 10 h rfl,EE 11 h rfl,EE 12 h rfl,EE 13 h rfl,Ag h⟩
def Ev{q:Nat}{t:At}{a:Ae}{c:Ae}{d:Nat}(h:w.heap[q]?=some (Ap t a b c d fa fc)):w.cell? (aD q 0)=some (CU a t.zn.length b)/\w.cell? (aD q 1)=some (CU c t.ai.length d)/\w.cell? (aD q 2)=some (CU fa t.fs.length fc)/\q<w.heap.size:=⟨EE 0 h rfl,EE 1 h rfl,EE 2 h rfl,Ag h⟩
abbrev oE(X:zH)(A:Ae)(C:Nat):Obj:=.cells #[.int .i64 X.op,.int .i64 X.num,.string X.name,.slice A X.args.length C] 71
abbrev oR(X:It)(A:Ae)(C:Nat):Obj:=.cells #[.int .i64 X.sc,.string X.name,.int .i64 X.ex.op,.int .i64 X.ex.num,.string X.ex.name,.slice A X.ex.args.length C] 73
abbrev fS(n:Int)(s:BA)(X:zH)(A:Ae)(C:Nat):Obj:=.cells #[.int .i64 n,.string s,.int .i64 X.op,.int .i64 X.num,.string X.name,.slice A X.args.length C] 73
abbrev oK(X:Ky)(A:Ae)(C:Nat):Obj:=.cells #[.int .i64 X.sc,.int .i64 X.ex.op,.int .i64 X.ex.num,.string X.ex.name,.slice A X.ex.args.length C] 82
abbrev fR(n:Int)(X:zH)(A:Ae)(C:Nat):Obj:=.cells #[.int .i64 n,.int .i64 X.op,.int .i64 X.num,.string X.name,.slice A X.args.length C] 82
abbrev oN(X:zB)(A:Ae)(C:Nat):Obj:=.cells #[.string X.name,.int .i64 X.ex.op,.int .i64 X.ex.num,.string X.ex.name,.slice A X.ex.args.length C] 214
abbrev oL(X:Dg):Obj:=.cells #[.string X.name,.string X.meas,.int .i64 X.most,.int .i64 X.days] 302
abbrev oO(X:Fd):Obj:=.cells #[.string X.name,.int .i64 X.cnt,.int .i64 X.days] 304
abbrev oS(t:At)(a:Ae)(b:Nat)(c:Ae)(d:Nat)(e:Ae)(f:Nat)(C:Ad)(P:Bd)(m:Option Nat):Obj:=.cells #[.slice a t.zn.length b,.slice c t.ai.length d,.slice e t.fs.length f,.int .i64 C.rp,.int .i64 C.rl,.int .i64 C.cn,.int .i64 C.sit,.int .i64 C.lv,.int .i64 C.nf,.int .i64 C.nt,.slice P.ca C.cs.length P.cc,.slice P.ra C.rs.length P.rc,.slice P.ka C.ks.length P.kc,.slice P.xa C.xs.length P.xc,.slice P.la C.ls.length P.lc,.slice P.oa C.oz.length P.oc,.int .i64 C.gu,Value.map m,.slice none 0 0,.slice none 0 0,.slice none 0 0,.slice none 0 0,.slice none 0 0,.slice none 0 0,.slice none 0 0,.slice none 0 0,.slice none 0 0,.bool false] 165
