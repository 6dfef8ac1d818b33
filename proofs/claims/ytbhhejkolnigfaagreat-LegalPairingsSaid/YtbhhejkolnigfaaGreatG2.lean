/- a part of the proof -/
import Derived.Lib.Bytealg
import Derived.Lib.IndexMore
import Derived.BigCall
import Derived.OneCell
import Derived.Lib.BufferOwn
import Derived.DeepKeys3
import Derived.Test.YtbhhejkolnigfaaGreatG1
set_option linter.unusedVariables false
set_option linter.unusedSimpArgs false
set_option maxRecDepth 100000
set_option maxHeartbeats 51200000
namespace Go.Proofs.YtbhhejkolnigfaaGreat
open Go.RowKit Go.Proofs.Tryz
inductive zH where
 |mk (op num:Int) (name:ByteArray) (args:List zH)
def zH.op:zH->Int
 | .mk o _ _ _=>o
def zH.num:zH->Int
 | .mk _ n _ _=>n
def zH.name:zH->ByteArray
 | .mk _ _ s _=>s
def zH.args:zH->List zH
 | .mk _ _ _ l=>l
def eAt(l:List zH)(k:Nat):zH:=l.getD k (.mk 0 0 ByteArray.empty [])
theorem zgz(l:List zH)(k:Nat)(h:k<l.length):l.drop k=eAt l k::l.drop (k+1):=by
 rw[eAt,List.drop_eq_getElem_cons h,zt0,zt1 h];rfl
theorem zte{l:List zH}{k:Nat}(h:k<l.length):eAt l k∈l:=by
 unfold eAt;rw[zt0,zt1 h];exact List.getElem_mem h
theorem zbM{x:zH}{k:Nat}(h:k<x.args.length):SizeOf.sizeOf (eAt x.args k)<SizeOf.sizeOf x:=by
 cases x with
 |mk o n s l=>
  have:=List.sizeOf_lt_of_mem (zte (l:=l) h);simp only[zH.args,zH.mk.sizeOf_spec];omega
inductive zcf(B:Nat)(w:World):Nat->Nat->List zH->Prop
 |nil (b off:Nat):zcf B w b off []
 |cons {b off b' off':Nat} {x:zH} {l:List zH} {a:zua} {cap:Nat} (hb:b<B)
  (h0:w.cell? ⟨b,off,none⟩=some (.int .i64 x.op)) (h1:w.cell? ⟨b,off+1,none⟩=some (.int .i64 x.num)) (h2:w.cell? ⟨b,off+2,none⟩=some (.string x.name))
  (h3:w.cell? ⟨b,off+3,none⟩=some (.slice a x.args.length cap)) (hs:x.name.size<=140737488355328) (hl:x.args.length<=140737488355328)
  (g0:(Lit.int .i64 x.op).wf=true) (g1:(Lit.int .i64 x.num).wf=true) (ha:x.args≠ []->a=some ⟨b',off',none⟩) (hx:zcf B w b' off' x.args) (ht:zcf B w b (off+4) l):zcf B w b off (x::l)
def zaz(B:Nat)(w:World)(a:zua)(l:List zH):Prop:=∃b off,(l≠ []->a=some ⟨b,off,none⟩)/\zcf B w b off l
def za2(x:zH):Prop:=x.name.size<=140737488355328/\x.args.length<=140737488355328/\(Lit.int .i64 x.op).wf=true/\(Lit.int .i64 x.num).wf=true
theorem zcf.keep{B:Nat}{w w':World}{b a:Nat}{l:List zH}(h:zcf B w b a l)(c:Below B w w'):zcf B w' b a l:=by
 induction h with
 |nil b a=>exact .nil b a
 |cons hb h0 h1 h2 h3 hs hl g0 g1 ha hx ht ih1 ih2=>
  exact .cons hb ((c.cell (p:=⟨_,_,none⟩) hb).trans h0) ((c.cell (p:=⟨_,_,none⟩) hb).trans h1) ((c.cell (p:=⟨_,_,none⟩) hb).trans h2) ((c.cell (p:=⟨_,_,none⟩) hb).trans h3) hs hl g0 g1 ha ih1 ih2
theorem zcf.more{B c:Nat}{w:World}{b a:Nat}{l:List zH}(h:zcf B w b a l)(d:B<=c):zcf c w b a l:=by
 induction h with
 |nil b a=>exact .nil b a
 |cons hb h0 h1 h2 h3 hs hl g0 g1 ha hx ht ih1 ih2=>exact .cons (ztU hb d) h0 h1 h2 h3 hs hl g0 g1 ha ih1 ih2
theorem zaz.keep{B:Nat}{w w':World}{a:zua}{l:List zH}(h:zaz B w a l)(d:Below B w w'):zaz B w' a l:=by
 obtain⟨b,c,e,f⟩:=h;exact⟨b,c,e,f.keep d⟩
theorem zaz.more{B d:Nat}{w:World}{a:zua}{l:List zH}(h:zaz B w a l)(e:B<=d):zaz d w a l:=by
 obtain⟨b,c,f,g⟩:=h;exact⟨b,c,f,g.more e⟩
theorem zcf.at{B:Nat}{w:World}{b c:Nat}{l:List zH}(h:zcf B w b c l)(k:Nat)(d:k<l.length):
 ∃a cap,b<B/\(w.cell? ⟨b,c+k*4,none⟩=some (.int .i64 (eAt l k).op)/\w.cell? ⟨b,c+k*4+1,none⟩=some (.int .i64 (eAt l k).num)/\w.cell? ⟨b,c+k*4+2,none⟩=some (.string (eAt l k).name)/\
  w.cell? ⟨b,c+k*4+3,none⟩=some (.slice a (eAt l k).args.length cap))/\za2 (eAt l k)/\zaz B w a (eAt l k).args:=by
 induction h generalizing k with
 |nil b c=>simp at d
 | @cons b c b' off' x l a cap hb h0 h1 h2 h3 hs hl g0 g1 ha hx ht ih1 ih2=>
  cases k with
  |zero=>exact⟨a,cap,hb,⟨by simpa[eAt] using h0,by simpa[eAt] using h1,by simpa[eAt] using h2,by simpa[eAt] using h3⟩,⟨hs,hl,g0,g1⟩,b',off',ha,hx⟩
  |succ k=>
   have:=ih2 k (by simpa using d);have e:c+(k+1)*4=c+4+k*4:=by omega
   have f:eAt (x::l) (k+1)=eAt l k:=rfl;rw[e,f];exact this
theorem zaz.cells{B:Nat}{w:World}{a:zua}{l:List zH}(h:zaz B w a l)(d:0<l.length):∃b c,a=some ⟨b,c,none⟩/\b<B/\zcf B w b c l:=by
 obtain⟨b,c,f,e⟩:=h;obtain⟨_,_,g,_⟩:=e.at 0 d;exact⟨b,c,f (by rintro rfl;simp at d),g,e⟩
mutual
def cntE:zH->Nat
 | .mk _ _ _ l=>1+cntL l
def cntL:List zH->Nat
 |[]=>0
 |x::l=>cntE x+cntL l
end
mutual
def depE:zH->Nat
 | .mk _ _ _ l=>1+depL l
def depL:List zH->Nat
 |[]=>0
 |x::l=>max (depE x) (depL l)
end
mutual
def fitE:Nat->Nat->zH->Bool×Nat
 |lv,n,.mk _ _ _ l=>if 200<n+1\/16<lv then(false,n+1) else fitL (lv+1) (n+1) l
def fitL:Nat->Nat->List zH->Bool×Nat
 |_,n, []=>(true,n)
 |lv,n,x::l=>if(fitE lv n x).1=true then fitL lv (fitE lv n x).2 l else(false,(fitE lv n x).2)
end
mutual
def sizR:Nat->zH->Nat×Nat
 |lv,.mk _ _ _ l=>if 16<lv then(1,1) else sizL (lv+1) 1 1 l
def sizL:Nat->Nat->Nat->List zH->Nat×Nat
 |_,n,d, []=>(n,d)
 |lv,n,d,x::l=>if n<=200 then sizL lv (n+(sizR lv x).1) (max d ((sizR lv x).2+1)) l else(n,d)
end
mutual
theorem zjO(x:zH):∀(a n:Nat),((fitE a n x).1=true ↔ n+cntE x<=200/\a+depE x<=17)/\((fitE a n x).1=true->(fitE a n x).2=n+cntE x)/\n<=(fitE a n x).2/\(fitE a n x).2<=max n 201+1:=by
 intro a n;cases x with
 |mk o m s l=>
  rw[fitE,cntE,depE];by_cases h:200<n+1\/16<a
  . rw[if_pos h];simp
    omega
  rw[if_neg h];obtain⟨b,c,e,f⟩:=znn l (a+1) (n+1) (by omega) (by omega);refine⟨?_,?_,by omega,by omega⟩
  . rw[b];omega
  intro d;rw[c d];omega
theorem znn(l:List zH):∀(b n:Nat),b<=17->n<=200->((fitL b n l).1=true ↔ n+cntL l<=200/\b+depL l<=17)/\((fitL b n l).1=true->(fitL b n l).2=n+cntL l)/\n<=(fitL b n l).2/\(fitL b n l).2<=max n 201+1:=by
 intro b n c r;cases l with
 |nil=>simp[fitL,cntL,depL];omega
 |cons x l=>
  rw[fitL,cntL,depL];obtain⟨d,j,k,m⟩:=zjO x b n;by_cases h:(fitE b n x).1=true
  . rw[if_pos h];have e:=j h;have g:=d.1 h;obtain⟨f,i,o,p⟩:=znn l b (fitE b n x).2 c (by omega);rw[e]at f i o p ⊢;refine⟨?_,?_,by omega,by omega⟩
    . rw[f];omega
    intro q;rw[i q];omega
  rw[if_neg h];refine⟨?_,by simp,k,m⟩;constructor
  . intro a;simp at a
  intro a;exact absurd (d.2 ⟨by omega,by omega⟩) h
end
mutual
theorem zm0(x:zH):∀c:Nat,c<=17->(cntE x<=200/\c+depE x<=17->sizR c x=(cntE x,depE x))/\(¬ (cntE x<=200/\c+depE x<=17)->200<(sizR c x).1\/17<c+(sizR c x).2)/\1<=(sizR c x).1:=by
 intro c d;cases x with
 |mk o m s l=>
  rw[sizR,cntE,depE];by_cases h:16<c
  . rw[if_pos h];refine⟨λa=>by omega,λ_=>.inr (by omega),by simp⟩
  rw[if_neg h];obtain⟨e,f,g⟩:=zm1 l (c+1) 1 1 (by omega);refine⟨λa=>?_,λa=>?_,by omega⟩
  . rw[e ⟨by omega,by omega⟩];cases l with
    |nil=>simp[cntL,depL]
    |cons y l=>simp;omega
  rcases f (by omega) with b|b
  . exact .inl b
  exact .inr (by omega)
theorem zm1(l:List zH):∀e n d:Nat,e<=17->(n+cntL l<=200/\e+depL l<=17->sizL e n d l=(n+cntL l,max d (if l= [] then 0 else depL l+1)))/\(¬ (n+cntL l<=200/\e+depL l<=17)->200<(sizL e n d l).1\/18<e+(sizL e n d l).2)/\n<=(sizL e n d l).1/\d<=(sizL e n d l).2:=by
 intro e n d f;cases l with
 |nil=>
  refine⟨λ_=>by simp[sizL,cntL],λa=>.inl ?_,by simp[sizL],by simp[sizL]⟩;simp[cntL,depL]at a
  simp only[sizL];omega
 |cons x l=>
  rw[sizL,cntL,depL];obtain⟨i,o,p⟩:=zm0 x e f;by_cases h:n<=200
  . rw[if_pos h];obtain⟨j,g,k,m⟩:=zm1 l e (n+(sizR e x).1) (max d ((sizR e x).2+1)) f;refine⟨λa=>?_,λa=>?_,by omega,by omega⟩
    . rw[i (by omega)]at j ⊢;rw[j (by simp only;omega)];cases l with
      |nil=>simp[cntL,depL]
      |cons y l=>simp;omega
    by_cases b:cntE x<=200/\e+depE x<=17
    . rw[i b]at g k m ⊢;simp only at g k m;by_cases c:n+cntE x+cntL l<=200/\e+depL l<=17
      . omega
      exact g c
    rcases o b with c|c
    . exact .inl (by omega)
    exact .inr (by omega)
  rw[if_neg h];refine⟨λa=>by omega,λ_=>.inl (by omega),by simp,by simp⟩
end
end Go.Proofs.YtbhhejkolnigfaaGreat
namespace Go.Proofs.YtbhhejkolnigfaaGreat
open Go.RowKit Go.Sort Go.Proofs.Tryz
theorem zz{a b:Bool}(h:a=b):Ending.returned (.bool a)=.returned (.bool b):=by rw[h]
def zL(o n:Int):Bool:=
 if(o==1)=true then n==0 else if(o==2)=true then n==0 else if(o==3)=true then n==0 else if(o==4)=true then n==0 else if(o==5)=true then n==0 else if(o==6)=true then n==0
 else if(o==7)=true then n==1 else if(o==19)=true then n==1 else if(o==12)=true then decide (2<=n) else if(o==13)=true then decide (2<=n) else if(o==14)=true then n==3 else if(o==15)=true then n==3 else n==2
theorem zan(o:Int)(n:Nat)(w:World):Calls prog 211 #[o,n] w λe w'=>e=.returned (.bool (zL o n))/\w=w':=by
 go_enter func211,ntmps211
 go_wp2_with fail
 all_goals (go_ret;exact⟨zaA (by simp[zL, *] <;> omega),rfl⟩)
def btwB(n a b:Int):Bool:=decide (a<=n)&&decide (n<=b)
theorem zbz{n a b:Int}:btwB n a b=true ↔ a<=n/\n<=b:=by simp[btwB]
theorem zab(n a b:Int)(w:World):Calls prog 151 #[n,a,b] w λe w'=>e=.returned (.bool (btwB n a b))/\w=w':=by
 by_cases h:a<=n
 all_goals
  go_enter func151,ntmps151
  go_wp2_with fail
  all_goals (go_ret;exact⟨zaA (by simp[btwB,h] <;> omega),rfl⟩)
theorem zeZ(n:Int)(w:World):Calls prog 154 #[n] w λe a=>e=.returned (.bool (btwB n 1 3))/\w=a:=by
 go_enter func154,ntmps154
 go_wp2_with fail;refine cb (zab _ _ _ _) ?_;go_wp2_with fail;go_ret;exact⟨rfl,rfl⟩
def zN(L:List (List UInt8))(s:ByteArray):Bool:=L.any λx=>s.toList==x
def zeO:List (List UInt8):= [[97,110,100], [111,114], [110,111,116], [105,109,112,108,105,101,115], [105,110], [116,111], [116,114,117,101], [102,97,108,115,101], [109,105,110], [109,97,120], [105,102], [116,104,101,110], [101,108,115,101]]
def zcl(s:ByteArray):Bool:=zN zeO s
theorem zkY(s:ByteArray)(w:World):Calls prog 210 #[.string s] w λe w'=>e=.returned (.bool (zcl s))/\w=w':=by
 go_enter func210,ntmps210
 go_wp2_with fail
 all_goals (go_ret;exact⟨zz (by first|(simp only[zcl,zN,zeO,List.any_cons,List.any_nil, *];rfl)|simp_all),rfl⟩)
def zZ(s:ByteArray):Bool:=zb0 s.data.toList && !zcl s
theorem zdi(s:ByteArray)(w:World)(b:s.size<=maxLen):Calls prog 190 #[.string s] w λe a=>e=.returned (.bool (zZ s))/\w=a:=by
 cases c:zb0 s.data.toList
 . go_enter func190,ntmps190
   go_wp2_with fail;refine cb (zae _ _ b) ?_;go_wp2_with fail;go_ret;exact⟨zz (by simp[zZ,c]),rfl⟩
 go_enter func190,ntmps190
 go_wp2_with fail;refine cb (zae _ _ b) ?_;go_wp2_with fail;refine cb (zkY _ _) ?_;go_wp2_with fail;go_ret;exact⟨zz (by simp[zZ,c]),rfl⟩
def ptI(s:ByteArray):Int:=Lib.indexByte s.data.toList 46
theorem zlf(s:ByteArray)(w:World):Calls prog 228 #[.string s,.int .u8 46] w λe w'=>e=.returned (ptI s)/\w=w':=by
 go_enter func228,ntmps228
 go_wp2
 rw[run_callFunc_extern func232 (by kernel_rfl) (by kernel_rfl) (by kernel_rfl) (e:=Extern.BytealgIndexByte.indexByte) (by kernel_rfl),Lib.run_indexByteString];simp only[Result.andThen];rw[Oper.upon_value];go_wp2
 go_ret;exact⟨rfl,rfl⟩
theorem zsH{s:ByteArray}(h:([46]==s.toList)=true):ptI s=0:=by
 have:s.data.toList= [46]:=by rw[<-Lib.toList_data];exact(beq_iff_eq.1 h).symm
 rw[ptI,this];rfl
theorem znj(s:ByteArray)(w:World):Calls prog 227 #[.string s,.string ⟨#[46]⟩] w λe b=>e=.returned (ptI s)/\w=b:=by
 cases h:([46]==s.toList)
 . go_enter func227,ntmps227
   go_wp2_with fail;have a:((((⟨#[46]⟩:ByteArray)[0]).toNat:Nat):Int)=46:=rfl;rw[a];refine cb (zlf _ _) ?_;go_wp2_with fail;go_ret;exact⟨rfl,rfl⟩
 have c:=I (zsH h);go_enter func227,ntmps227
 go_wp2_with fail;go_ret;exact⟨ze c.1.symm,rfl⟩
theorem zgx:∀(l:List UInt8) (c:UInt8),Lib.indexByte l c<l.length/\-1<=Lib.indexByte l c
 |[],c=>by simp[Lib.indexByte]
 |b::l,c=>by
  have:=zgx l c;unfold Lib.indexByte
  simp only[List.length_cons];split
  . omega
  split <;> omega
theorem zsi(s:ByteArray):ptI s<s.size/\-1<=ptI s:=by
 have:=zgx s.data.toList 46;exact⟨by simpa[ptI] using this.1,this.2⟩
theorem zrO(s:ByteArray)(k:Nat)(w:World)(b:s.size<=140737488355328)(c:k<s.size)(h:ztR (ptI s=k)):Calls prog 226 #[.string s,.string ⟨#[46]⟩] w λe a=>e=.returned (.tuple #[.string (s.extract 0 k),.string (s.extract (k+1) s.size),.bool true])/\Bw w a:=by
 go_enter func226,ntmps226
 go_wp2_with fail;refine cb (znj _ _) ?_;rw[h.1];go_wp2_with fail;go_quiet (fail)
 go_wp2_with fail;go_ret3
 exact⟨rfl,below_drewN (ztT _ _) _⟩
theorem zti(s:ByteArray)(w:World)(h:ztR (ptI s=-1)):Calls prog 226 #[.string s,.string ⟨#[46]⟩] w λe a=>e=.returned (.tuple #[.string s,.string ByteArray.empty,.bool false])/\w=a:=by
 go_enter func226,ntmps226
 go_wp2_with fail;refine cb (znj _ _) ?_;rw[h.1];go_wp2_with fail;go_ret3
 exact⟨rfl,rfl⟩
theorem zqG(s:ByteArray)(k:Nat)(w:World)(b:s.size<=140737488355328)(c:k<s.size)(h:ztR (ptI s=k)):Calls prog 219 #[.string s,.string ⟨#[46]⟩] w λe a=>e=.returned (.tuple #[.string (s.extract 0 k),.string (s.extract (k+1) s.size),.bool true])/\Bw w a:=by
 go_enter func219,ntmps219
 go_wp2_with fail;refine ca (zrO _ k _ b c h) λa d=>?_;go_wp2_with fail;go_ret3
 exact⟨rfl,d⟩
theorem cut_no(s:ByteArray)(w:World)(h:ztR (ptI s=-1)):Calls prog 219 #[.string s,.string ⟨#[46]⟩] w λe a=>e=.returned (.tuple #[.string s,.string ByteArray.empty,.bool false])/\w=a:=by
 go_enter func219,ntmps219
 go_wp2_with fail;refine cb (zti _ _ h) ?_;go_wp2_with fail;go_ret3
 exact⟨rfl,rfl⟩
def zgM(s:ByteArray):Bool:=if 0<=ptI s then zb0 (s.data.toList.take (ptI s).toNat)&&zb0 (s.data.toList.drop ((ptI s).toNat+1)) else zZ s
theorem zeA(s:ByteArray)(w:World)(j:s.size<=140737488355328):Calls prog 212 #[.string s] w λe c=>e=.returned (.bool (zgM s))/\Bw w c:=by
 have l:=zsi s;have q:s.size<=maxLen:=by unfold maxLen;omega
 by_cases a:0<=ptI s
 . obtain⟨k,g⟩:=Int.eq_ofNat_of_zero_le a;have b:k<s.size:=by omega
   have d:=I g;have m:zgM s=(zb0 (s.data.toList.take k)&&zb0 (s.data.toList.drop (k+1))):=by rw[zgM,if_pos a,g];rfl
   have f:=I m;have n:(s.extract 0 k).size<=maxLen:=by unfold maxLen;simp;omega
   have r:(s.extract (k+1) s.size).size<=maxLen:=by unfold maxLen;simp;omega
   clear g m a l;have o:List.take (s.size-(k+1)) (List.drop (k+1) s.data.toList)=List.drop (k+1) s.data.toList:=List.take_of_length_le (by simp);have t:=I o;clear o;cases p:zb0 (List.take k s.data.toList)
   . go_enter func212,ntmps212
     go_wp2_with fail;refine ca (zqG _ k _ j b d) λc h=>?_;go_wp2_with fail;refine cb (zae _ _ n) ?_;go_wp2_with fail;go_ret;exact⟨zz (by rw[f.1,p];rfl),h⟩
   go_enter func212,ntmps212
   go_wp2_with fail;refine ca (zqG _ k _ j b d) λc h=>?_;go_wp2_with fail;refine cb (zae _ _ n) ?_;go_wp2_with fail;refine cb (zae _ _ r) ?_;go_wp2_with fail;go_ret;exact⟨zz (by rw[f.1,p,t.1];rfl),h⟩
 have d:=I (show ptI s=-1 by omega);have f:=I (show zgM s=zZ s from if_neg a);clear a l;go_enter func212,ntmps212
 go_wp2_with fail;refine cb (cut_no _ _ d) ?_;go_wp2_with fail;refine cb (zdi _ _ q) ?_;go_wp2_with fail;go_ret;exact⟨zz f.1.symm,ztT _ _⟩
def zep(o n:Int):Bool:=if(o==1)=true then btwB n 0 1099511627776 else if(o==2)=true then btwB n 0 1099511627776 else if(o==3)=true then btwB n 0 1439 else n==0
def nmB(o:Int)(s:ByteArray):Bool:=if(o==6)=true then zgM s else s.toList.isEmpty
def zcR(o n:Int)(s:ByteArray)(k:Nat):Bool:=btwB o 1 22&&zL o k&&zep o n&&nmB o s
mutual
def wfE:zH->Bool
 | .mk o n s l=>zcR o n s l.length&&wfL l
def wfL:List zH->Bool
 |[]=>true
 |x::l=>wfE x&&wfL l
end
theorem zbt(l:List zH)(k:Nat)(h:k<l.length):wfL (l.drop k)=(wfE (eAt l k)&&wfL (l.drop (k+1))):=by rw[zgz l k h,wfL]
theorem zsy(o n:Int)(s:ByteArray)(a:zua)(k cap:Nat)(w:World)(x:s.size<=140737488355328)(h:zcR o n s k=false):
 Calls prog 192 #[.agg #[o,n,.string s,.slice a k cap]] w λe c=>e=.returned (.bool false)/\Bw w c:=by
 by_cases C:o<1
 . clear h;go_enter func192,ntmps192
   go_wp2_with fail;go_ret;exact⟨rfl,J _ _⟩
 by_cases D:22<o
 . clear h;go_enter func192,ntmps192
   go_wp2_with fail;go_ret;exact⟨rfl,J _ _⟩
 have r:btwB o 1 22=true:=by simp[btwB];omega
 rw[zcR,r,Bool.true_and]at h;have H:=I h;clear h r;cases y:zL o k
 . go_enter func192,ntmps192
   go_wp2_with (go_at_call 211;refine cb (zan _ _ _) ?_)
   go_ret;exact⟨rfl,J _ _⟩
 have j:=I (H.1);rw[y,Bool.true_and]at j;clear H;cases b:zep o n
 . clear j;by_cases f:o=1
   . subst f;have:n<0\/1099511627776<n:=by simp[zep,btwB]at b;omega
     clear b;rcases this with d|d
     . go_enter func192,ntmps192
       go_wp2_with (go_at_call 211;refine cb (zan _ _ _) ?_)
       go_ret;exact⟨rfl,J _ _⟩
     go_enter func192,ntmps192
     go_wp2_with (go_at_call 211;refine cb (zan _ _ _) ?_)
     go_ret;exact⟨rfl,J _ _⟩
   by_cases g:o=2
   . subst g;have:n<0\/1099511627776<n:=by simp[zep,btwB]at b;omega
     clear b;rcases this with d|d
     . go_enter func192,ntmps192
       go_wp2_with (go_at_call 211;refine cb (zan _ _ _) ?_)
       go_ret;exact⟨rfl,J _ _⟩
     go_enter func192,ntmps192
     go_wp2_with (go_at_call 211;refine cb (zan _ _ _) ?_)
     go_ret;exact⟨rfl,J _ _⟩
   by_cases i:o=3
   . subst i;have:n<0\/1439<n:=by simp[zep,btwB]at b;omega
     clear b;rcases this with d|d
     . go_enter func192,ntmps192
       go_wp2_with (go_at_call 211;refine cb (zan _ _ _) ?_)
       go_ret;exact⟨rfl,J _ _⟩
     go_enter func192,ntmps192
     go_wp2_with (go_at_call 211;refine cb (zan _ _ _) ?_)
     go_ret;exact⟨rfl,J _ _⟩
   have m:(o==1)=false:=by simpa using f
   have p:(o==2)=false:=by simpa using g
   have q:(o==3)=false:=by simpa using i
   have t:(n !=0)=true:=by simpa[zep,m,p,q] using b
   clear b f g i;go_enter func192,ntmps192
   go_wp2_with (go_at_call 211;refine cb (zan _ _ _) ?_)
   go_ret;exact⟨rfl,J _ _⟩
 have l:nmB o s=false:=by have:=j.1;rwa [b,Bool.true_and]at this
 clear j;by_cases u:o=6
 . subst u;have t:(n !=0)=false:=by simpa[zep] using b
   have z:zgM s=false:=by simpa[nmB] using l
   clear b l;go_enter func192,ntmps192
   go_wp2_with (go_at_call 211;refine cb (zan _ _ _) ?_)
   refine ca (zeA _ _ x) λc A=>?_;go_wp2_with fail;go_ret;exact⟨rfl,ztS (J _ _) A⟩
 have B:(o==6)=false:=by simpa using u
 have z:s.toList.isEmpty=false:=by simpa[nmB,B] using l
 clear l;by_cases f:o=1
 . subst f;obtain⟨d,v⟩:0<=n/\n<=1099511627776:=by simpa[zep,btwB] using b
   clear b;go_enter func192,ntmps192
   go_wp2_with (go_at_call 211;refine cb (zan _ _ _) ?_)
   go_ret;exact⟨rfl,J _ _⟩
 by_cases g:o=2
 . subst g;obtain⟨d,v⟩:0<=n/\n<=1099511627776:=by simpa[zep,btwB] using b
   clear b;go_enter func192,ntmps192
   go_wp2_with (go_at_call 211;refine cb (zan _ _ _) ?_)
   go_ret;exact⟨rfl,J _ _⟩
 by_cases i:o=3
 . subst i;obtain⟨d,v⟩:0<=n/\n<=1439:=by simpa[zep,btwB] using b
   clear b;go_enter func192,ntmps192
   go_wp2_with (go_at_call 211;refine cb (zan _ _ _) ?_)
   go_ret;exact⟨rfl,J _ _⟩
 have m:(o==1)=false:=by simpa using f
 have p:(o==2)=false:=by simpa using g
 have q:(o==3)=false:=by simpa using i
 have t:(n !=0)=false:=by simpa[zep,m,p,q] using b
 clear b f g i;go_enter func192,ntmps192
 go_wp2_with (go_at_call 211;refine cb (zan _ _ _) ?_)
 go_ret;exact⟨rfl,J _ _⟩
theorem zsx(o n:Int)(s:ByteArray)(l:List zH)(a:zua)(cap:Nat)(w:World)(B:Nat)(A:B<=w.heap.size)(hf:za2 (.mk o n s l))(ha:zaz B w a l) 
 (T:ztR (∀x:zH,SizeOf.sizeOf x<SizeOf.sizeOf (zH.mk o n s l)->∀(a:zua) (cap:Nat) (w:World) (B:Nat),B<=w.heap.size->za2 x->zaz B w a x.args->Calls prog 192 #[.agg #[x.op,x.num,.string x.name,.slice a x.args.length cap]] w λe E=>e=.returned (.bool (wfE x))/\Bw w E)):
 Calls prog 192 #[.agg #[o,n,.string s,.slice a l.length cap]] w λe E=>e=.returned (.bool (wfE (.mk o n s l)))/\Bw w E:=by
 obtain⟨W,hl,_,_⟩:=hf;replace W:s.size<=140737488355328:=W;replace hl:l.length<=140737488355328:=hl;have U:=I ha;clear ha;cases V:zcR o n s l.length
 . refine ca (zsy o n s a l.length cap w W V) λE F=>?_;exact⟨zz (by rw[wfE,V];rfl),F⟩
 have H:=I (show wfE (.mk o n s l)=wfL l from by rw[wfE,V,Bool.true_and]);simp only[zcR,zt5]at V;obtain⟨⟨⟨g1,h3⟩,K⟩,X⟩:=V;obtain⟨h1,h2⟩:=zbz.1 g1;clear g1;by_cases o6:o=6
 . subst o6;have e4:(n !=0)=false:=by simpa[zep] using K
   have h7:zgM s=true:=by simpa[nmB] using X
   clear K X;go_enter func192,ntmps192
   go_wp2_with (go_at_call 211;refine cb (zan _ _ _) ?_)
   refine ca (zeA _ _ W) λE G=>?_;have q:E.cell? ⟨w.heap.size,3,none⟩=some (.slice a l.length cap):=((zj9 G).1 _ 3 (by simp)).trans (by clear G;go_simp);have a0:w.heap.size<E.heap.size:=ztU (by simp) G.size;have a1:=I (ztS (J _ _) G);clear G;go_wp2_with fail;clear q a0;go_loopw [61] (λi wr=>∃k:Nat,k<=l.length/\i=.int .i64 k/\ztR (wfL l=wfL (l.drop k))/\ztR (Bw w wr)) (λi _=>l.length-(intOf i).toNat)
   case atStart=>exact⟨0,ztX _,rfl,I rfl,I a1.1⟩
   obtain⟨k,Y,rfl,f,c⟩:=hrel;by_cases h:k<l.length
   . obtain⟨b,L,rfl,F,j⟩:=U.1.cells (by omega);obtain⟨C,g,M,⟨N,P,Q,R⟩,m,d⟩:=(j.keep (c.1.mono A)).at k h;have S:b<wr.heap.size:=ztU F (ztV A c.1.size);have p:B<=(wr.alloc (.cells #[(eAt l k).op,(eAt l k).num,.string (eAt l k).name,.slice C (eAt l k).args.length g] 86)).heap.size:=by have:=c.1.size;simp;omega
     have r:=I d;clear d j;go_wp2_with fail;refine ca (T.1 (eAt l k) (zbM (x:=.mk 6 n s l) h) C g _ B p m (r.1.keep ((J _ _).mono (ztV A c.1.size)))) λZ t=>?_;have u:=I (ztS c.1 (ztS (J wr _) t));have v:=I (f.1.trans (zbt l k h));clear t N P Q R r p;cases D:wfE (eAt l k)
     . have z:=I (show wfE (.mk 6 n s l)=false from H.1.trans (by rw[v.1,D];rfl));go_wp2_with fail;go_ret;exact⟨zz z.1.symm,u.1⟩
     have y:=I (v.1.trans (by rw[D,Bool.true_and]));go_wp2_with fail;go_roundw
     case rel=>exact⟨k+1,by omega,by go_num,y,u⟩
     case measure=>simp[intOf];omega
   obtain rfl:k=l.length:=by omega
   have z:=I (show wfE (.mk 6 n s l)=true from H.1.trans (by rw[f.1,zt6];rfl));go_wp2_with fail;go_ret;exact⟨zz z.1.symm,c.1⟩
 have e6:(o==6)=false:=by simpa using o6
 have h7:s.toList.isEmpty=true:=by simpa[nmB,e6] using X
 clear X;by_cases o1:o=1
 . subst o1;obtain⟨h5,h8⟩:0<=n/\n<=1099511627776:=by simpa[zep,btwB] using K
   clear K;go_enter func192,ntmps192
   go_wp2_with (go_at_call 211;refine cb (zan _ _ _) ?_)
   go_loopw [61] (λi wr=>∃k:Nat,k<=l.length/\i=.int .i64 k/\ztR (wfL l=wfL (l.drop k))/\ztR (Bw w wr)) (λi _=>l.length-(intOf i).toNat)
   case atStart=>exact⟨0,ztX _,rfl,I rfl,I (J _ _)⟩
   obtain⟨k,Y,rfl,f,c⟩:=hrel;by_cases h:k<l.length
   . obtain⟨b,L,rfl,F,j⟩:=U.1.cells (by omega);obtain⟨C,g,M,⟨N,P,Q,R⟩,m,d⟩:=(j.keep (c.1.mono A)).at k h;have S:b<wr.heap.size:=ztU F (ztV A c.1.size);have p:B<=(wr.alloc (.cells #[(eAt l k).op,(eAt l k).num,.string (eAt l k).name,.slice C (eAt l k).args.length g] 86)).heap.size:=by have:=c.1.size;simp;omega
     have r:=I d;clear d j;go_wp2_with fail;refine ca (T.1 (eAt l k) (zbM (x:=.mk 1 n s l) h) C g _ B p m (r.1.keep ((J _ _).mono (ztV A c.1.size)))) λZ t=>?_;have u:=I (ztS c.1 (ztS (J wr _) t));have v:=I (f.1.trans (zbt l k h));clear t N P Q R r p;cases D:wfE (eAt l k)
     . have z:=I (show wfE (.mk 1 n s l)=false from H.1.trans (by rw[v.1,D];rfl));go_wp2_with fail;go_ret;exact⟨zz z.1.symm,u.1⟩
     have y:=I (v.1.trans (by rw[D,Bool.true_and]));go_wp2_with fail;go_roundw
     case rel=>exact⟨k+1,by omega,by go_num,y,u⟩
     case measure=>simp[intOf];omega
   obtain rfl:k=l.length:=by omega
   have z:=I (show wfE (.mk 1 n s l)=true from H.1.trans (by rw[f.1,zt6];rfl));go_wp2_with fail;go_ret;exact⟨zz z.1.symm,c.1⟩
 by_cases o2:o=2
 . subst o2;obtain⟨h5,h8⟩:0<=n/\n<=1099511627776:=by simpa[zep,btwB] using K
   clear K;go_enter func192,ntmps192
   go_wp2_with (go_at_call 211;refine cb (zan _ _ _) ?_)
   go_loopw [61] (λi wr=>∃k:Nat,k<=l.length/\i=.int .i64 k/\ztR (wfL l=wfL (l.drop k))/\ztR (Bw w wr)) (λi _=>l.length-(intOf i).toNat)
   case atStart=>exact⟨0,ztX _,rfl,I rfl,I (J _ _)⟩
   obtain⟨k,Y,rfl,f,c⟩:=hrel;by_cases h:k<l.length
   . obtain⟨b,L,rfl,F,j⟩:=U.1.cells (by omega);obtain⟨C,g,M,⟨N,P,Q,R⟩,m,d⟩:=(j.keep (c.1.mono A)).at k h;have S:b<wr.heap.size:=ztU F (ztV A c.1.size);have p:B<=(wr.alloc (.cells #[(eAt l k).op,(eAt l k).num,.string (eAt l k).name,.slice C (eAt l k).args.length g] 86)).heap.size:=by have:=c.1.size;simp;omega
     have r:=I d;clear d j;go_wp2_with fail;refine ca (T.1 (eAt l k) (zbM (x:=.mk 2 n s l) h) C g _ B p m (r.1.keep ((J _ _).mono (ztV A c.1.size)))) λZ t=>?_;have u:=I (ztS c.1 (ztS (J wr _) t));have v:=I (f.1.trans (zbt l k h));clear t N P Q R r p;cases D:wfE (eAt l k)
     . have z:=I (show wfE (.mk 2 n s l)=false from H.1.trans (by rw[v.1,D];rfl));go_wp2_with fail;go_ret;exact⟨zz z.1.symm,u.1⟩
     have y:=I (v.1.trans (by rw[D,Bool.true_and]));go_wp2_with fail;go_roundw
     case rel=>exact⟨k+1,by omega,by go_num,y,u⟩
     case measure=>simp[intOf];omega
   obtain rfl:k=l.length:=by omega
   have z:=I (show wfE (.mk 2 n s l)=true from H.1.trans (by rw[f.1,zt6];rfl));go_wp2_with fail;go_ret;exact⟨zz z.1.symm,c.1⟩
 by_cases o3:o=3
 . subst o3;obtain⟨h5,h8⟩:0<=n/\n<=1439:=by simpa[zep,btwB] using K
   clear K;go_enter func192,ntmps192
   go_wp2_with (go_at_call 211;refine cb (zan _ _ _) ?_)
   go_loopw [61] (λi wr=>∃k:Nat,k<=l.length/\i=.int .i64 k/\ztR (wfL l=wfL (l.drop k))/\ztR (Bw w wr)) (λi _=>l.length-(intOf i).toNat)
   case atStart=>exact⟨0,ztX _,rfl,I rfl,I (J _ _)⟩
   obtain⟨k,Y,rfl,f,c⟩:=hrel;by_cases h:k<l.length
   . obtain⟨b,L,rfl,F,j⟩:=U.1.cells (by omega);obtain⟨C,g,M,⟨N,P,Q,R⟩,m,d⟩:=(j.keep (c.1.mono A)).at k h;have S:b<wr.heap.size:=ztU F (ztV A c.1.size);have p:B<=(wr.alloc (.cells #[(eAt l k).op,(eAt l k).num,.string (eAt l k).name,.slice C (eAt l k).args.length g] 86)).heap.size:=by have:=c.1.size;simp;omega
     have r:=I d;clear d j;go_wp2_with fail;refine ca (T.1 (eAt l k) (zbM (x:=.mk 3 n s l) h) C g _ B p m (r.1.keep ((J _ _).mono (ztV A c.1.size)))) λZ t=>?_;have u:=I (ztS c.1 (ztS (J wr _) t));have v:=I (f.1.trans (zbt l k h));clear t N P Q R r p;cases D:wfE (eAt l k)
     . have z:=I (show wfE (.mk 3 n s l)=false from H.1.trans (by rw[v.1,D];rfl));go_wp2_with fail;go_ret;exact⟨zz z.1.symm,u.1⟩
     have y:=I (v.1.trans (by rw[D,Bool.true_and]));go_wp2_with fail;go_roundw
     case rel=>exact⟨k+1,by omega,by go_num,y,u⟩
     case measure=>simp[intOf];omega
   obtain rfl:k=l.length:=by omega
   have z:=I (show wfE (.mk 3 n s l)=true from H.1.trans (by rw[f.1,zt6];rfl));go_wp2_with fail;go_ret;exact⟨zz z.1.symm,c.1⟩
 have e1:(o==1)=false:=by simpa using o1
 have e2:(o==2)=false:=by simpa using o2
 have e3:(o==3)=false:=by simpa using o3
 have e4:(n !=0)=false:=by simpa[zep,e1,e2,e3] using K
 clear K o1 o2 o3;go_enter func192,ntmps192
 go_wp2_with (go_at_call 211;refine cb (zan _ _ _) ?_)
 go_loopw [61] (λi wr=>∃k:Nat,k<=l.length/\i=.int .i64 k/\ztR (wfL l=wfL (l.drop k))/\ztR (Bw w wr)) (λi _=>l.length-(intOf i).toNat)
 case atStart=>exact⟨0,ztX _,rfl,I rfl,I (J _ _)⟩
 obtain⟨k,Y,rfl,f,c⟩:=hrel;by_cases h:k<l.length
 . obtain⟨b,L,rfl,F,j⟩:=U.1.cells (by omega);obtain⟨C,g,M,⟨N,P,Q,R⟩,m,d⟩:=(j.keep (c.1.mono A)).at k h;have S:b<wr.heap.size:=ztU F (ztV A c.1.size);have p:B<=(wr.alloc (.cells #[(eAt l k).op,(eAt l k).num,.string (eAt l k).name,.slice C (eAt l k).args.length g] 86)).heap.size:=by have:=c.1.size;simp;omega
   have r:=I d;clear d j;go_wp2_with fail;refine ca (T.1 (eAt l k) (zbM (x:=.mk o n s l) h) C g _ B p m (r.1.keep ((J _ _).mono (ztV A c.1.size)))) λZ t=>?_;have u:=I (ztS c.1 (ztS (J wr _) t));have v:=I (f.1.trans (zbt l k h));clear t N P Q R r p;cases D:wfE (eAt l k)
   . have z:=I (show wfE (.mk o n s l)=false from H.1.trans (by rw[v.1,D];rfl));go_wp2_with fail;go_ret;exact⟨zz z.1.symm,u.1⟩
   have y:=I (v.1.trans (by rw[D,Bool.true_and]));go_wp2_with fail;go_roundw
   case rel=>exact⟨k+1,by omega,by go_num,y,u⟩
   case measure=>simp[intOf];omega
 obtain rfl:k=l.length:=by omega
 have z:=I (show wfE (.mk o n s l)=true from H.1.trans (by rw[f.1,zt6];rfl));go_wp2_with fail;go_ret;exact⟨zz z.1.symm,c.1⟩
theorem zia(x:zH)(a:zua)(cap:Nat)(w:World)(B:Nat)(b:B<=w.heap.size)(c:za2 x)(d:zaz B w a x.args):
 Calls prog 192 #[.agg #[x.op,x.num,.string x.name,.slice a x.args.length cap]] w λe w'=>e=.returned (.bool (wfE x))/\Bw w w':=by
 obtain⟨m,f⟩:∃m,m=SizeOf.sizeOf x:=⟨_,rfl⟩;induction m using Nat.strongRecOn generalizing x a cap w B with
 |_ m ih=>
  subst f;obtain⟨o,n,s,l⟩:=x;exact zsx o n s l a cap w B b c d (λx hx a cap w B b c d=>ih _ hx x a cap w B b c d rfl)
theorem zqw(a n:Nat)(l:List zH)(k:Nat)(h:k<l.length):fitL a n (l.drop k)=if(fitE a n (eAt l k)).1=true then fitL a (fitE a n (eAt l k)).2 (l.drop (k+1)) else(false,(fitE a n (eAt l k)).2):=by rw[zgz l k h,fitL]
theorem zd{w:World}{a:Nat}{o o':Obj}(h:w.heap[a]?=some o):(w.alloc o').heap[a]?=some o:=by
 rw[Below.heap_alloc w o' a (ztW h)];exact h
theorem zh(w:World)(o:Obj):(w.alloc o).heap[w.heap.size]?=some o:=by
 show(w.heap.push o)[w.heap.size]?=some o
 exact Array.getElem?_push_size
theorem zr(w:World)(o:Obj):(w.alloc o).heap.size=w.heap.size+1:=by simp
theorem zqu(o n:Int)(s:ByteArray)(l:List zH)(c m:Nat)(a:zua)(cap:Nat)(w:World)(B d:Nat)(hB:B<=d)(a0:d<w.heap.size)(a1:c<=100)(hm:m<=300)(hl:l.length<=140737488355328)(Y:zaz B w a l)(A:w.heap[d]?=some (.cells #[m] 3 (0,0))) 
 (IH:ztR (∀x:zH,SizeOf.sizeOf x<SizeOf.sizeOf (zH.mk o n s l)->∀(c m:Nat) (a:zua) (cap:Nat) (w:World),d<w.heap.size->c<=100->m<=300->x.args.length<=140737488355328->zaz B w a x.args->w.heap[d]?=some (.cells #[m] 3 (0,0))->
  Calls prog 191 #[.agg #[x.op,x.num,.string x.name,.slice a x.args.length cap],c,.pointer (some ⟨d,0,none⟩)] w λe w'=>e=.returned (.bool (fitE c m x).1)/\w'.heap[d]?=some (.cells #[.int .i64 (fitE c m x).2] 3 (0,0))/\w.grownBy w' (some d))):
 Calls prog 191 #[.agg #[o,n,.string s,.slice a l.length cap],c,.pointer (some ⟨d,0,none⟩)] w λe w'=>e=.returned (.bool (fitE c m (.mk o n s l)).1)/\w'.heap[d]?=some (.cells #[.int .i64 (fitE c m (.mk o n s l)).2] 3 (0,0))/\w.grownBy w' (some d):=by
 have HA:=I Y;have S:=cell_of_one A;have f0:=free_of_one A;have HN:=I A;have T:((m+1:Nat):Int)=(m:Int)+1:=by omega
 have G:=I (Lib.grownBy_setCell w d 0 (.int .i64 ((m:Int)+1)));have g:=I (one_setCell (u:=.int .i64 ((m:Int)+1)) A);have f:=I (λo=>Lib.grownBy_allocR G.1 o);have v:=I (λo=>zd (o':=o) g.1);clear Y A G g;by_cases t:200<m+1\/16<c
 . have Z:fitE c m (.mk o n s l)=(false,m+1):=by rw[fitE,if_pos t]
   rw[Z];simp only[T];clear T Z;by_cases t1:(200:Int)<(m:Int)+1
   . clear t;go_enter func191,ntmps191
     go_wp2_with fail;go_ret;exact⟨rfl,v.1 _,f.1 _⟩
   have t2:(16:Int)<(c:Int):=by omega
   replace t1:(m:Int)+1<=200:=by omega
   clear t;go_enter func191,ntmps191
   go_wp2_with fail;go_ret;exact⟨rfl,v.1 _,f.1 _⟩
 have t1:(m:Int)+1<=200:=by omega
 have t2:(c:Int)<=16:=by omega
 have Hv:=I (show fitE c m (.mk o n s l)=fitL (c+1) (m+1) l by rw[fitE,if_neg t]);clear T t;go_enter func191,ntmps191
 go_wp2_with fail;go_loopw [25] (λi wr=>∃k q:Nat,k<=l.length/\i=.int .i64 k/\q<=200/\ztR (fitL (c+1) (m+1) l=fitL (c+1) q (l.drop k))/\ztR (wr.heap[d]?=some (oI q))/\ztR (w.grownBy wr (some d))) (λi _=>l.length-(intOf i).toNat)
 case atStart=>exact⟨0,m+1,ztX _,rfl,by omega,I rfl,I (by have:=v.1 (oEg o n s a l.length cap);simpa using this),I (f.1 _)⟩
 clear v f S f0 HN;obtain⟨k,q,hk,rfl,hq,h,U,p⟩:=hrel;by_cases y:k<l.length
 . obtain⟨b,a3,rfl,hb,C⟩:=HA.1.cells (by omega);have z:Below B w wr:=(ztT B w).grown p.1 (by omega) (λj hj=>by cases hj;exact hB);obtain⟨a2,D,a4,⟨S,c1,c2,c3⟩,E,r⟩:=(C.keep z).at k y;have a5:w.heap.size<=wr.heap.size:=p.1.size;have a6:b<wr.heap.size:=by omega
   have F:=I r;have V:=I z;clear r C z;have W:((c+1:Nat):Int)=(c:Int)+1:=by omega
   go_wp2_with fail;rw[<-W];refine(IH.1 (eAt l k) (zbM (x:=.mk o n s l) y) (c+1) q a2 D _ (by simp;omega) (by omega) (by omega) E.2.1 (F.1.keep ((J _ _).mono (by omega))) (zd U.1)).mono ?_;rintro e w1 ⟨rfl,H,K⟩;rw[W];have g:=I H;have L:=I (Lib.grownBy_trans p.1 (Lib.grownBy_trans (World.grownBy_alloc wr _ _) K));have M:=I (h.1.trans (zqw (c+1) q l k y));have Q:=zjO (eAt l k) (c+1) q;clear H K S c1 c2 c3 F W U p h V;cases R:(fitE (c+1) q (eAt l k)).1
   . have N:=I (show fitE c m (.mk o n s l)=(false,(fitE (c+1) q (eAt l k)).2) from Hv.1.trans (by rw[M.1,R];rfl));clear Q;go_wp2_with fail;go_ret;exact⟨zz (by rw[N.1]),by rw[N.1];exact g.1,L.1⟩
   have P:=I (M.1.trans (by rw[if_pos R]));have X:(fitE (c+1) q (eAt l k)).2<=200:=by have:=Q.2.1 R;have:=Q.1.1 R;omega
   clear Q;go_wp2_with fail;go_roundw
   case rel=>exact⟨k+1,_,by omega,by go_num,X,P,g,L⟩
   case measure=>simp[intOf];omega
 obtain rfl:k=l.length:=by omega
 have N:=I (show fitE c m (.mk o n s l)=(true,q) from Hv.1.trans (by rw[h.1,zt6];rfl));go_wp2_with fail;go_ret;exact⟨zz (by rw[N.1]),by rw[N.1];exact U.1,p.1⟩
theorem zrG(B c:Nat)(g:B<=c)(x:zH)(b m:Nat)(a:zua)(cap:Nat)(w:World)(d:c<w.heap.size)(f:b<=100)(h:m<=300)(i:x.args.length<=140737488355328)(j:zaz B w a x.args)(k:w.heap[c]?=some (.cells #[m] 3 (0,0))):
 Calls prog 191 #[.agg #[x.op,x.num,.string x.name,.slice a x.args.length cap],b,.pointer (some ⟨c,0,none⟩)] w λe w'=>e=.returned (.bool (fitE b m x).1)/\w'.heap[c]?=some (.cells #[.int .i64 (fitE b m x).2] 3 (0,0))/\w.grownBy w' (some c):=by
 obtain⟨z,p⟩:∃m,m=SizeOf.sizeOf x:=⟨_,rfl⟩;induction z using Nat.strongRecOn generalizing x b m a cap w with
 |_ z ih=>
  subst p;obtain⟨o,n,s,l⟩:=x;exact zqu o n s l b m a cap w B c g d f h i j k (λx hx b m a cap w h1 h2 h3 h4 h5 h6=>ih _ hx x b m a cap w h1 h2 h3 h4 h5 h6 rfl)
def valE(x:zH):Int:=if cntE x<=200/\depE x<=16 then(if wfE x=true then 0 else 1) else 10
theorem zbB(x:zH)(a:zua)(cap:Nat)(w:World)(B:Nat)(t:B<=w.heap.size)(u:za2 x)(v:zaz B w a x.args):
 Calls prog 155 #[.agg #[x.op,x.num,.string x.name,.slice a x.args.length cap]] w λe w'=>e=.returned (valE x)/\Bw w w':=by
 have p:=(zjO x 1 0).1;have y:=I v;clear v;go_enter func155,ntmps155
 go_wp2_with fail;obtain⟨W,k⟩:∃W,W=(w.alloc (Obj.cells #[x.op,x.num,.string x.name,.slice a x.args.length cap] 86)).alloc (oI 0):=⟨_,rfl⟩;have g:Bw w W:=by rw[k];exact ztS (J _ _) (J _ _)
 have r:W.heap.size=w.heap.size+2:=by rw[k];simp
 have d:W.heap[w.heap.size+1]?=some (oI ((0:Nat):Int)):=by rw[k,<-zr w (Obj.cells #[x.op,x.num,.string x.name,.slice a x.args.length cap] 86)];exact zh _ _
 have z:W.heap[w.heap.size]?=some (Obj.cells #[x.op,x.num,.string x.name,.slice a x.args.length cap] 86):=by rw[k];exact zd (zh _ _)
 simp only[<-k];clear k;refine(zrG w.heap.size (w.heap.size+1) (Nat.le_succ _) x 1 0 a cap W (by omega) (by omega) (by omega) u.2.1 ((y.1.more t).keep g) d).mono ?_;rintro e f ⟨rfl,s,c⟩;have l:Bw w f:=g.grown c (by omega) (λj hj=>by cases hj;omega);have m:f.heap[w.heap.size]?=some (Obj.cells #[x.op,x.num,.string x.name,.slice a x.args.length cap] 86):=(c.block _ (by omega) (by simp)).trans z;have D:w.heap.size+1<f.heap.size:=by have:=c.size;omega
 have E:f.cell? ⟨w.heap.size,0,none⟩=some (.int .i64 x.op):=by simp[World.cell?,m]
 have F:f.cell? ⟨w.heap.size,1,none⟩=some (.int .i64 x.num):=by simp[World.cell?,m]
 have G:f.cell? ⟨w.heap.size,2,none⟩=some (.string x.name):=by simp[World.cell?,m]
 have H:f.cell? ⟨w.heap.size,3,none⟩=some (.slice a x.args.length cap):=by simp[World.cell?,m]
 have b:=I l;clear z m d s c g r l;cases A:(fitE 1 0 x).1
 . have q:=I (show valE x=10 from if_neg (λh=>by have:=p.2 (by omega);rw[A]at this;cases this));clear p;go_wp2_with fail;go_ret;exact⟨ze q.1.symm,b.1⟩
 have q:=I (show valE x=if wfE x=true then 0 else 1 from if_pos (by have:=p.1 A;omega));clear p;go_wp2_with fail;refine ca (zia x a cap f w.heap.size b.1.size u ((y.1.more t).keep b.1)) λK n=>?_;have o:=I (ztS b.1 n);clear n E F G H b;cases C:wfE x
 . have i:=I (q.1.trans (by rw[C];rfl:_=(1:Int)));go_wp2_with fail;go_ret;exact⟨ze i.1.symm,o.1⟩
 have i:=I (q.1.trans (by rw[C];rfl:_=(0:Int)));go_wp2_with fail;go_ret;exact⟨ze i.1.symm,o.1⟩
end Go.Proofs.YtbhhejkolnigfaaGreat
namespace Go.Proofs.YtbhhejkolnigfaaGreat
open Go.RowKit Go.Proofs.Tryz
structure zB where
 name:ByteArray
 ex:zH
structure zcx where
 scope:Int
 name:ByteArray
 ex:zH
structure zdw where
 scope:Int
 ex:zH
structure LimM where
 name:ByteArray
 meas:ByteArray
 most:Int
 days:Int
structure OffM where
 name:ByteArray
 cnt:Int
 days:Int
structure ConM where
 report:Int
 release:Int
 connect:Int
 sit:Int
 layover:Int
 nf:Int
 nt:Int
 consts:List zB
 rules:List zcx
 costs:List zdw
 credit:List zH
 lims:List LimM
 offs:List OffM
 guar:Int
structure ConP where
 ca:Option Addr
 cc:Nat
 ra:Option Addr
 rc:Nat
 ka:Option Addr
 kc:Nat
 xa:Option Addr
 xc:Nat
 la:Option Addr
 lc:Nat
 oa:Option Addr
 oc:Nat
abbrev aggC(c:ConM)(p:ConP):Value:=.agg #[c.report,c.release,c.connect,c.sit,c.layover,c.nf,c.nt,.slice p.ca c.consts.length p.cc,.slice p.ra c.rules.length p.rc,.slice p.ka c.costs.length p.kc,.slice p.xa c.credit.length p.xc,.slice p.la c.lims.length p.lc,.slice p.oa c.offs.length p.oc,c.guar]
abbrev aggT(t:TTM)(za:zua)(zc:Nat)(aa:zua)(ac:Nat)(fa:zua)(fc:Nat):Value:=.agg #[.slice za t.zones.length zc,.slice aa t.airs.length ac,.slice fa t.fls.length fc]
abbrev zaf:Obj:=Obj.cells #[.string ⟨#[]⟩,.int .i64 0,.slice none 0 0] 129
abbrev zbR:Obj:=Obj.cells #[.slice none 0 0,.slice none 0 0,.slice none 0 0] 26
abbrev zjC:Obj:=Obj.cells #[.int .i64 0,.int .i64 0] 40
abbrev objC(c:ConM)(p:ConP):Obj:=Obj.cells #[c.report,c.release,c.connect,c.sit,c.layover,c.nf,c.nt,.slice p.ca c.consts.length p.cc,.slice p.ra c.rules.length p.rc,.slice p.ka c.costs.length p.kc,.slice p.xa c.credit.length p.xc,.slice p.la c.lims.length p.lc,.slice p.oa c.offs.length p.oc,c.guar] 34
abbrev objT(t:TTM)(za:zua)(zc:Nat)(aa:zua)(ac:Nat)(fa:zua)(fc:Nat):Obj:=Obj.cells #[.slice za t.zones.length zc,.slice aa t.airs.length ac,.slice fa t.fls.length fc] 26
def zj4(c:ConM)(p:ConP):Array Value:=#[.int .i64 c.report,.int .i64 c.release,.int .i64 c.connect,.int .i64 c.sit,.int .i64 c.layover,.int .i64 c.nf,.int .i64 c.nt,
 .slice p.ca c.consts.length p.cc,.slice p.ra c.rules.length p.rc,.slice p.ka c.costs.length p.kc,.slice p.xa c.credit.length p.xc,.slice p.la c.lims.length p.lc,.slice p.oa c.offs.length p.oc,.int .i64 c.guar]
def e0:zH:=.mk 0 0 ByteArray.empty []
def csAt(l:List zB)(k:Nat):zB:=l.getD k ⟨ByteArray.empty,e0⟩
def rlAt(l:List zcx)(k:Nat):zcx:=l.getD k ⟨0,ByteArray.empty,e0⟩
def coAt(l:List zdw)(k:Nat):zdw:=l.getD k ⟨0,e0⟩
def liAt(l:List LimM)(k:Nat):LimM:=l.getD k ⟨ByteArray.empty,ByteArray.empty,0,0⟩
def ofAt(l:List OffM)(k:Nat):OffM:=l.getD k ⟨ByteArray.empty,0,0⟩
theorem zgf(l:List zB)(k:Nat)(h:k<l.length):l.drop k=csAt l k::l.drop (k+1):=by
 rw[csAt,List.drop_eq_getElem_cons h,zt0,zt1 h];rfl
theorem zjr(l:List zcx)(k:Nat)(h:k<l.length):l.drop k=rlAt l k::l.drop (k+1):=by
 rw[rlAt,List.drop_eq_getElem_cons h,zt0,zt1 h];rfl
theorem zmC(l:List zdw)(k:Nat)(h:k<l.length):l.drop k=coAt l k::l.drop (k+1):=by
 rw[coAt,List.drop_eq_getElem_cons h,zt0,zt1 h];rfl
theorem zga(l:List LimM)(k:Nat)(h:k<l.length):l.drop k=liAt l k::l.drop (k+1):=by
 rw[liAt,List.drop_eq_getElem_cons h,zt0,zt1 h];rfl
theorem zhx(l:List OffM)(k:Nat)(h:k<l.length):l.drop k=ofAt l k::l.drop (k+1):=by
 rw[ofAt,List.drop_eq_getElem_cons h,zt0,zt1 h];rfl
def ziw(B:Nat)(w:World)(b off:Nat)(x:zH):Prop:=∃a cap,(w.cell? ⟨b,off,none⟩=some (.int .i64 x.op)/\w.cell? ⟨b,off+1,none⟩=some (.int .i64 x.num)/\w.cell? ⟨b,off+2,none⟩=some (.string x.name)/\w.cell? ⟨b,off+3,none⟩=some (.slice a x.args.length cap))/\za2 x/\zaz B w a x.args
theorem ziw.keep{B:Nat}{w w':World}{b c:Nat}{x:zH}(h:ziw B w b c x)(f:b<B)(e:Below B w w'):ziw B w' b c x:=by
 obtain⟨a,d,⟨i,j,k,l⟩,m,n⟩:=h;have g:=λ(o:Nat)=>e.cell (p:=⟨b,o,none⟩) f
 exact⟨a,d,⟨(g _).trans i,(g _).trans j,(g _).trans k,(g _).trans l⟩,m,n.keep e⟩
theorem ziw.more{B e:Nat}{w:World}{b c:Nat}{x:zH}(h:ziw B w b c x)(f:B<=e):ziw e w b c x:=by
 obtain⟨a,d,h,g,i⟩:=h;exact⟨a,d,h,g,i.more f⟩
def zbs(B:Nat)(w:World)(b off:Nat)(x:zB):Prop:=w.cell? ⟨b,off,none⟩=some (.string x.name)/\x.name.size<=140737488355328/\ziw B w b (off+1) x.ex
def zoJ(B:Nat)(w:World)(b off:Nat)(x:zcx):Prop:=w.cell? ⟨b,off,none⟩=some (.int .i64 x.scope)/\w.cell? ⟨b,off+1,none⟩=some (.string x.name)/\x.name.size<=140737488355328/\(Lit.int .i64 x.scope).wf=true/\ziw B w b (off+2) x.ex
def zoK(B:Nat)(w:World)(b off:Nat)(x:zdw):Prop:=w.cell? ⟨b,off,none⟩=some (.int .i64 x.scope)/\(Lit.int .i64 x.scope).wf=true/\ziw B w b (off+1) x.ex
def LimC(B:Nat)(w:World)(b off:Nat)(x:LimM):Prop:=w.cell? ⟨b,off,none⟩=some (.string x.name)/\w.cell? ⟨b,off+1,none⟩=some (.string x.meas)/\w.cell? ⟨b,off+2,none⟩=some (.int .i64 x.most)/\w.cell? ⟨b,off+3,none⟩=some (.int .i64 x.days)/\x.name.size<=140737488355328/\x.meas.size<=140737488355328
def OffC(B:Nat)(w:World)(b off:Nat)(x:OffM):Prop:=w.cell? ⟨b,off,none⟩=some (.string x.name)/\w.cell? ⟨b,off+1,none⟩=some (.int .i64 x.cnt)/\w.cell? ⟨b,off+2,none⟩=some (.int .i64 x.days)/\x.name.size<=140737488355328
def zdH{X:Type}(n:Nat)(at':List X->Nat->X)(C:Nat->World->Nat->Nat->X->Prop)(B:Nat)(w:World)(a:zua)(l:List X):Prop:=
 l.length<=140737488355328/\(l= []\/∃b off,a=some ⟨b,off,none⟩/\b<B/\∀i,i<l.length->C B w b (off+i*n) (at' l i))
theorem zdH.keep{X:Type}{n:Nat}{d:List X->Nat->X}{C:Nat->World->Nat->Nat->X->Prop}{B:Nat}{w w':World}{a:zua}{l:List X}(h:zdH n d C B w a l)(m:Below B w w') 
 (f:∀b c x,b<B->C B w b c x->C B w' b c x):zdH n d C B w' a l:=by
 obtain⟨g,h⟩:=h;refine⟨g,?_⟩;rcases h with h|⟨b,c,j,e,k⟩
 . exact .inl h
 exact .inr ⟨b,c,j,e,λi hi=>f _ _ _ e (k i hi)⟩
theorem zdH.more{X:Type}{n:Nat}{d:List X->Nat->X}{C:Nat->World->Nat->Nat->X->Prop}{B e:Nat}{w:World}{a:zua}{l:List X}(h:zdH n d C B w a l)(f:B<=e) 
 (g:∀b c x,C B w b c x->C e w b c x):zdH n d C e w a l:=by
 obtain⟨j,h⟩:=h;refine⟨j,?_⟩;rcases h with h|⟨b,c,k,m,o⟩
 . exact .inl h
 exact .inr ⟨b,c,k,ztU m f,λi hi=>g _ _ _ (o i hi)⟩
theorem zdH.cells{X:Type}{n:Nat}{c:List X->Nat->X}{C:Nat->World->Nat->Nat->X->Prop}{B:Nat}{w:World}{a:zua}{l:List X}(h:zdH n c C B w a l)(d:0<l.length):
 ∃b off,a=some ⟨b,off,none⟩/\b<B/\∀i,i<l.length->C B w b (off+i*n) (c l i):=by
 rcases h.2 with rfl|h
 . simp at d
 exact h
abbrev zbd:=zdH 5 csAt zbs
abbrev zq6:=zdH 6 rlAt zoJ
abbrev ztO:=zdH 5 coAt zoK
abbrev zsr:=zdH 4 liAt LimC
abbrev zsq:=zdH 3 ofAt OffC
theorem zbs.keep{B:Nat}{w w':World}(c:Below B w w')(b a:Nat)(x:zB)(d:b<B)(h:zbs B w b a x):zbs B w' b a x:=
 ⟨(c.cell (p:=⟨b,a,none⟩) d).trans h.1,h.2.1,h.2.2.keep d c⟩
theorem zoJ.keep{B:Nat}{w w':World}(c:Below B w w')(b a:Nat)(x:zcx)(d:b<B)(h:zoJ B w b a x):zoJ B w' b a x:=
 ⟨(c.cell (p:=⟨b,a,none⟩) d).trans h.1,(c.cell (p:=⟨b,a+1,none⟩) d).trans h.2.1,h.2.2.1,h.2.2.2.1,h.2.2.2.2.keep d c⟩
theorem zoK.keep{B:Nat}{w w':World}(c:Below B w w')(b a:Nat)(x:zdw)(d:b<B)(h:zoK B w b a x):zoK B w' b a x:=
 ⟨(c.cell (p:=⟨b,a,none⟩) d).trans h.1,h.2.1,h.2.2.keep d c⟩
theorem LimC.keep{B:Nat}{w w':World}(c:Below B w w')(b a:Nat)(x:LimM)(d:b<B)(h:LimC B w b a x):LimC B w' b a x:=
 ⟨(c.cell (p:=⟨b,a,none⟩) d).trans h.1,(c.cell (p:=⟨b,a+1,none⟩) d).trans h.2.1,(c.cell (p:=⟨b,a+2,none⟩) d).trans h.2.2.1,(c.cell (p:=⟨b,a+3,none⟩) d).trans h.2.2.2.1,h.2.2.2.2⟩
theorem OffC.keep{B:Nat}{w w':World}(c:Below B w w')(b a:Nat)(x:OffM)(d:b<B)(h:OffC B w b a x):OffC B w' b a x:=
 ⟨(c.cell (p:=⟨b,a,none⟩) d).trans h.1,(c.cell (p:=⟨b,a+1,none⟩) d).trans h.2.1,(c.cell (p:=⟨b,a+2,none⟩) d).trans h.2.2.1,h.2.2.2⟩
structure zdr(B:Nat)(w:World)(c:ConM)(p:ConP):Prop where
 consts:zbd B w p.ca c.consts
 rules:zq6 B w p.ra c.rules
 costs:ztO B w p.ka c.costs
 credit:zaz B w p.xa c.credit
 creditN:c.credit.length<=140737488355328
 creditF:∀x∈c.credit,za2 x
 lims:zsr B w p.la c.lims
 offs:zsq B w p.oa c.offs
theorem zdr.keep{B:Nat}{w w':World}{c:ConM}{p:ConP}(h:zdr B w c p)(a:Below B w w'):zdr B w' c p where
 consts:=h.consts.keep a (zbs.keep a)
 rules:=h.rules.keep a (zoJ.keep a)
 costs:=h.costs.keep a (zoK.keep a)
 credit:=h.credit.keep a
 creditN:=h.creditN
 creditF:=h.creditF
 lims:=h.lims.keep a (LimC.keep a)
 offs:=h.offs.keep a (OffC.keep a)
theorem zdr.more{B b:Nat}{w:World}{c:ConM}{p:ConP}(h:zdr B w c p)(a:B<=b):zdr b w c p where
 consts:=h.consts.more a (λ_ _ _ h=>⟨h.1,h.2.1,h.2.2.more a⟩)
 rules:=h.rules.more a (λ_ _ _ h=>⟨h.1,h.2.1,h.2.2.1,h.2.2.2.1,h.2.2.2.2.more a⟩)
 costs:=h.costs.more a (λ_ _ _ h=>⟨h.1,h.2.1,h.2.2.more a⟩)
 credit:=h.credit.more a
 creditN:=h.creditN
 creditF:=h.creditF
 lims:=h.lims.more a (λ_ _ _ h=>h)
 offs:=h.offs.more a (λ_ _ _ h=>h)
def zcw:List ByteArray->List zB->Int
 |_, []=>0
 |acc,x::l=>if zZ x.name=false then 1 else if hasB acc x.name=true then 7 else if valE x.ex≠0 then valE x.ex else zcw (acc++ [x.name]) l
def hasR(l:List (Int×ByteArray))(s:Int)(n:ByteArray):Bool:=l.any λp=>decide (p.1=s/\p.2=n)
def zbW:List (Int×ByteArray)->List zcx->Int
 |_, []=>0
 |acc,x::l=>if(btwB x.scope 1 3&&zZ x.name)=false then 1 else if hasR acc x.scope x.name=true then 7 else if valE x.ex≠0 then valE x.ex else zbW (acc++ [(x.scope,x.name)]) l
def zcv:List zdw->Int
 |[]=>0
 |x::l=>if btwB x.scope 1 3=false then 1 else if valE x.ex≠0 then valE x.ex else zcv l
def zds:List zH->Int
 |[]=>0
 |x::l=>if valE x≠0 then valE x else zds l
def zgU:List (List UInt8):= [[98,108,111,99,107], [115,112,97,110], [110,105,103,104,116], [99,114,101,100,105,116]]
def zjG:List (List UInt8):= [[108,101,103,115], [104,101,97,100,115], [100,117,116,105,101,115]]
def zf9(s:ByteArray):Int:=if zN zgU s=true then 3 else if zN zjG s=true then 2 else 0
def zcu:List ByteArray->List LimM->Int×List ByteArray
 |acc, []=>(0,acc)
 |acc,x::l=>if zZ x.name=false then(1,acc) else if hasB acc x.name=true then(7,acc) else if zf9 x.meas=0 then(6,acc) else if(btwB x.most 0 599999&&btwB x.days 1 31)=false then(5,acc) else zcu (acc++ [x.name]) l
def zdt:List ByteArray->List OffM->Int
 |_, []=>0
 |acc,x::l=>if zZ x.name=false then 1 else if hasB acc x.name=true then 7 else if(btwB x.days 1 31&&btwB x.cnt 1 x.days)=false then 5 else zdt (acc++ [x.name]) l
def za1(c:ConM):Int:=if(zcu [] c.lims).1≠0 then(zcu [] c.lims).1 else zdt (zcu [] c.lims).2 c.offs
def zcy(c:ConM):Bool:=btwB c.report 0 1440&&btwB c.release 0 1440&&btwB c.connect 0 1440&&btwB c.sit c.connect 1440&&btwB c.layover 0 10080&&btwB c.nf 0 1439&&btwB c.nt 0 1439&&btwB c.guar 0 599999
def zdP(c:ConM):Bool:=decide (c.consts.length<=32)&&decide (c.rules.length<=40)&&decide (c.costs.length<=16)&&decide (c.credit.length<=1)&&decide (c.lims.length<=16)&&decide (c.offs.length<=16)
def valG(c:ConM):Int:=
 if zcy c=false then 5 else if zdP c=false then 10 else if zcw [] c.consts≠0 then zcw [] c.consts else if zbW [] c.rules≠0 then zbW [] c.rules
 else if zcv c.costs≠0 then zcv c.costs else if zds c.credit≠0 then zds c.credit else za1 c
def RK(s:Int)(n:ByteArray):Value:=.agg #[s,.string n]
theorem zg0(s:Int)(n:ByteArray)(a:(Lit.int .i64 s).wf=true)(b:n.size<=maxLen):∃l,keyOf prog 237 (RK s n)=some l:=by
 obtain⟨d,c⟩:∃d,prog.types.size=d+1:=⟨prog.types.size-1,by kernel_rfl⟩;unfold keyOf
 rw[underlying237];simp only[];rw[if_pos (by kernel_rfl),c];have e:prog.cellsOf 237=2:=by kernel_rfl
 have f:prog.cellsOf 3=1:=by kernel_rfl
 have g:prog.cellsOf 9=1:=by kernel_rfl
 simp only[Program.keyLits,underlying237,RK,Value.cells];rw[if_pos ⟨e.symm,by simp⟩];simp[List.mapM_cons,f,g,underlying3,underlying9,a,b]
theorem zsF:WideMaps.KeyLaw prog 237:=deep_law (m:=5) (by omega) (by kernel_rfl) (by kernel_rfl) (by kernel_rfl)
theorem RK_inj{s a:Int}{n b:ByteArray}:RK s n=RK a b ↔ s=a/\n=b:=by simp[RK]
def RMap(w:World)(b:Nat)(L:List (Int×ByteArray)):Prop:=∃es c,w.heap[b]?=some (.map es c)/\es.toList.map (λe=>(e.key,e.val))=L.map (λp=>(RK p.1 p.2,.bool true))/\∀p∈L,(Lit.int .i64 p.1).wf=true/\p.2.size<=maxLen
theorem RMap.lt{w:World}{b:Nat}{L:List (Int×ByteArray)}(h:RMap w b L):b<w.heap.size:=by
 obtain⟨d,c,a,_⟩:=h;exact(Array.getElem?_eq_some_iff.1 a).1
theorem RMap.below{w w':World}{b:Nat}{L:List (Int×ByteArray)}(h:RMap w b L)(d:Bw w w'):RMap w' b L:=by
 have a:=h.lt;obtain⟨e,c,f,g⟩:=h;exact⟨e,c,(d.block b a).trans f,g⟩
theorem RMap.made(w:World):RMap (w.alloc (.map #[] 0)) w.heap.size []:=
 ⟨#[],0,zh _ _,rfl,λp hp=>by simp at hp⟩
theorem RMap.key{w:World}{b:Nat}{L:List (Int×ByteArray)}{a:Array MapEntry}(d:a.toList.map (λe=>(e.key,e.val))=L.map (λp=>(RK p.1 p.2,.bool true)))(e:MapEntry)(f:e∈a.toList):∃p∈L,e.key=RK p.1 p.2/\e.val=.bool true:=by
 have:(e.key,e.val)∈a.toList.map (λe=>(e.key,e.val)):=List.mem_map.2 ⟨e,f,rfl⟩;rw[d,List.mem_map]at this;obtain⟨p,g,c⟩:=this;simp only[Prod.mk.injEq]at c;exact⟨p,g,c.1.symm,c.2.symm⟩
theorem RMap.find{w:World}{b:Nat}{L:List (Int×ByteArray)}{s:Int}{n:ByteArray}(i:(Lit.int .i64 s).wf=true)(k:n.size<=maxLen){d:Array MapEntry}(f:d.toList.map (λe=>(e.key,e.val))=L.map (λp=>(RK p.1 p.2,.bool true)))(h:∀p∈L,(Lit.int .i64 p.1).wf=true/\p.2.size<=maxLen):
 ((Instr.findKey 237 (RK s n) d.toList).run prog w=.ok none w/\hasR L s n=false)\/(∃j,(Instr.findKey 237 (RK s n) d.toList).run prog w=.ok (some (j,.bool true)) w/\hasR L s n=true):=by
 obtain⟨l,m⟩:=zg0 s n i k
 rcases zsF.find w m d.toList (λe g=>by
  obtain⟨p,a,c,_⟩:=RMap.key (w:=w) (b:=b) f e g;rw[c];exact zg0 _ _ (h p a).1 (h p a).2) with⟨g1,g2⟩|⟨j,e,g1,g2,g3⟩
 . refine .inl ⟨g1,?_⟩;rw[hasR,List.any_eq_false];intro p a o;obtain⟨rfl,rfl⟩:=of_decide_eq_true o;have:(RK p.1 p.2,.bool true)∈d.toList.map (λe=>(e.key,e.val)):=by rw[f];exact List.mem_map.2 ⟨p,a,rfl⟩
   obtain⟨e,g,c⟩:=List.mem_map.1 this;exact g2 e g (Prod.mk.inj c).1
 obtain⟨p,a,c,q⟩:=RMap.key (w:=w) (b:=b) f e (List.mem_of_getElem? g2);refine .inr ⟨j,by rw[g1,q],?_⟩;rw[hasR,List.any_eq_true];refine⟨p,a,decide_eq_true ?_⟩;rw[g3]at c;have:=RK_inj.1 c;exact⟨this.1.symm,this.2.symm⟩
theorem zsV{w:World}{b:Nat}{L:List (Int×ByteArray)}(h:RMap w b L){s:Int}{n:ByteArray}(e:(Lit.int .i64 s).wf=true)(f:n.size<=maxLen):(Instr.lookup 235 (.map (some b)) (.agg #[s,.string n]) false).run prog w=.ok (.bool (hasR L s n)) w:=by
 obtain⟨r,c,g,k,m⟩:=h;obtain⟨l,o⟩:=zg0 s n e f;have i:=λem=>zsF.check w em o
 have p:(zeroValue 4).run prog w=.ok (.bool false) w:=by kernel_rfl
 have q:Value.agg #[s,.string n]=RK s n:=rfl;rw[q];rcases RMap.find (w:=w) (b:=b) e f k m with⟨a,d⟩|⟨j,a,d⟩
 . simp[Instr.lookup,run_underlying underlying235,getObj,Sem.run,g,i,a,d,p]
 simp[Instr.lookup,run_underlying underlying235,getObj,Sem.run,g,i,a,d]
theorem put_rk{w:World}{b:Nat}{L:List (Int×ByteArray)}(h:RMap w b L){s:Int}{n:ByteArray}(f:(Lit.int .i64 s).wf=true)(g:n.size<=maxLen)(d:hasR L s n=false):
 ∃w',(Instr.mapUpdate 235 (.map (some b)) (.agg #[s,.string n]) (.bool true)).run prog w=.ok () w'/\RMap w' b (L++ [(s,n)])/\w.grownBy w' (some b):=by
 have k:=h.lt;obtain⟨q,c,x,r,t⟩:=h;obtain⟨l,y⟩:=zg0 s n f g;have z:=λem=>zsF.check w em y
 have A:Value.agg #[s,.string n]=RK s n:=rfl;rw[A];have m:∀o:Obj,w.grownBy {w with heap:=w.heap.setIfInBounds b o} (some b):=λo=>⟨rfl,rfl,rfl,by simp,λi hi hne=>by
  have:b≠i:=λe=>hne (by rw[e])
  simp[Array.getElem?_setIfInBounds,this]⟩
 rcases RMap.find (w:=w) (b:=b) f g r t with⟨u,v⟩|⟨j,u,v⟩
 . refine⟨{w with heap:=w.heap.setIfInBounds b (.map (q.push {key:=RK s n,val:=.bool true,born:=c}) (c+1))},?_,⟨q.push {key:=RK s n,val:=.bool true,born:=c},c+1,by simp[Array.getElem?_setIfInBounds,k],by simp[r],?_⟩,m _⟩
   . simp[Instr.mapUpdate,run_underlying underlying235,getObj,setObj,Sem.run,x,z,u]
   intro p a;rcases List.mem_append.1 a with a|a
   . exact t p a
   simp at a;subst a;exact⟨f,g⟩
 rw[v]at d;cases d
theorem mkMapR(w:World):(Instr.makeMap 235 none).run prog w=.ok (.map (some w.heap.size)) (w.alloc (.map #[] 0)):=by kernel_rfl
end Go.Proofs.YtbhhejkolnigfaaGreat
namespace Go.Proofs.YtbhhejkolnigfaaGreat
open Go.RowKit Go.Sort Go.Proofs.Tryz
theorem zi5(w:World):(zeroValue 4).run prog w=.ok (.bool false) w:=by kernel_rfl
theorem zoA(f g:zaw)(w:World):Calls prog 102 #[.agg #[.string f.num,.string f.frm,.string f.to,f.dep,f.arr,.string f.typ,f.n0,f.n1,f.n2],.agg #[.string g.num,.string g.frm,.string g.to,g.dep,g.arr,.string g.typ,g.n0,g.n1,g.n2]] w λe w'=>e=.returned (.bool (zcd f g))/\Bw w w':=by
 by_cases h:f.dep=g.dep
 . have b:(f.dep !=g.dep)=false:=by simpa using h
   have a:=I (show zcd f g=Op.bytesLess f.num.toList g.num.toList from if_neg (by simpa using h));clear h;go_enter func102,ntmps102
   go_wp2_with fail;go_ret;exact⟨zaA (by rw[a.1]),ztS (J _ _) (J _ _)⟩
 have b:(f.dep !=g.dep)=true:=by simpa using h
 have a:=I (show zcd f g=decide (f.dep<g.dep) from if_pos h);clear h;go_enter func102,ntmps102
 go_wp2_with fail;go_ret;exact⟨zaA (by rw[a.1]),ztS (J _ _) (J _ _)⟩
theorem zft(f:zaw)(b:List ByteArray)(u:Nat)(w:World)(F:f.num.size<=140737488355328/\f.frm.size<=140737488355328/\f.to.size<=140737488355328/\f.typ.size<=140737488355328)(A:zaT prog w u .string (zck b)):
 Calls prog 101 #[.agg #[.string f.num,.string f.frm,.string f.to,f.dep,f.arr,.string f.typ,f.n0,f.n1,f.n2],.map (some u)] w λe c=>e=.returned (zbh b f)/\Bw w c:=by
 obtain⟨h,Q,R,d⟩:=F;replace d:f.typ.size<=maxLen:=by unfold maxLen;omega
 have B:=I A;clear A;cases C:zfo f.num.data.toList
 . have a:=I (show zbh b f=1 from by simp[zbh,C]);go_enter func101,ntmps101
   go_wp2_with (first|(go_at_call 150;refine cb (zbG _ _ h) ?_)|(go_at_call 147;refine cb (zae _ _ d) ?_))
   go_ret;exact⟨ze a.1.symm,J _ _⟩
 cases D:zb0 f.typ.data.toList
 . have a:=I (show zbh b f=1 from by simp[zbh,D]);go_enter func101,ntmps101
   go_wp2_with (first|(go_at_call 150;refine cb (zbG _ _ h) ?_)|(go_at_call 147;refine cb (zae _ _ d) ?_))
   go_ret;exact⟨ze a.1.symm,J _ _⟩
 have l:zbh b f=if(hasB b f.frm&&hasB b f.to)=false then 6 else if(f.frm.toList==f.to.toList)=true then 14 else if zdC f=false then 5 else if(zal f.n0&&zal f.n1&&zal f.n2)=false then 5 else 0:=by simp[zbh,C,D]
 have v:=I l;clear l;have G:∀o,(Instr.lookup 172 (.map (some u)) (.string f.frm) false).run prog (w.alloc o)=.ok (.bool (hasB b f.frm)) (w.alloc o):=λo=>by rw[zdS underlying172 underlying9 (B.1.alloc o) (key:=.string f.frm) trivial (zi5 _),zfi]
 have H:∀o,(Instr.lookup 172 (.map (some u)) (.string f.to) false).run prog (w.alloc o)=.ok (.bool (hasB b f.to)) (w.alloc o):=λo=>by rw[zdS underlying172 underlying9 (B.1.alloc o) (key:=.string f.to) trivial (zi5 _),zfi]
 cases m:hasB b f.frm <;> rw[m]at G
 . have a:=I (show zbh b f=6 from v.1.trans (by simp[m]));go_enter func101,ntmps101
   go_wp2_with (first|(go_at_call 150;refine cb (zbG _ _ h) ?_)|(go_at_call 147;refine cb (zae _ _ d) ?_))
   go_ret;exact⟨ze a.1.symm,J _ _⟩
 cases x:hasB b f.to <;> rw[x]at H
 . have a:=I (show zbh b f=6 from v.1.trans (by simp[m,x]));go_enter func101,ntmps101
   go_wp2_with (first|(go_at_call 150;refine cb (zbG _ _ h) ?_)|(go_at_call 147;refine cb (zae _ _ d) ?_))
   go_ret;exact⟨ze a.1.symm,J _ _⟩
 cases E:(f.frm.toList==f.to.toList)
 . have n:zbh b f=if zdC f=false then 5 else if(zal f.n0&&zal f.n1&&zal f.n2)=false then 5 else 0:=v.1.trans (by simp only[m,x,E];rfl);have p:=I n;clear n;cases k:zdC f
   . have a:=I (show zbh b f=5 from p.1.trans (by rw[k];rfl));have y:¬ (2880<=f.dep/\f.arr<=52593120/\f.dep<f.arr/\f.arr-f.dep<=1440):=by simpa[zdC] using k
     clear k;by_cases K:f.dep<2880
     . go_enter func101,ntmps101
       go_wp2_with (first|(go_at_call 150;refine cb (zbG _ _ h) ?_)|(go_at_call 147;refine cb (zae _ _ d) ?_))
       go_ret;exact⟨ze a.1.symm,J _ _⟩
     by_cases L:52593120<f.arr
     . go_enter func101,ntmps101
       go_wp2_with (first|(go_at_call 150;refine cb (zbG _ _ h) ?_)|(go_at_call 147;refine cb (zae _ _ d) ?_))
       go_ret;exact⟨ze a.1.symm,J _ _⟩
     by_cases M:f.arr<=f.dep
     . go_enter func101,ntmps101
       go_wp2_with (first|(go_at_call 150;refine cb (zbG _ _ h) ?_)|(go_at_call 147;refine cb (zae _ _ d) ?_))
       go_ret;exact⟨ze a.1.symm,J _ _⟩
     have N:1440<f.arr-f.dep:=by omega
     go_enter func101,ntmps101
     go_wp2_with (first|(go_at_call 150;refine cb (zbG _ _ h) ?_)|(go_at_call 147;refine cb (zae _ _ d) ?_))
     go_ret;exact⟨ze a.1.symm,J _ _⟩
   have q:zbh b f=if(zal f.n0&&zal f.n1&&zal f.n2)=false then 5 else 0:=p.1.trans (by rw[k];rfl);have j:=I q;obtain⟨K,L,M,N⟩:2880<=f.dep/\f.arr<=52593120/\f.dep<f.arr/\f.arr-f.dep<=1440:=by simpa[zdC] using k
   clear k q;have S:∀w,(Instr.index 80 (.agg #[f.n0,f.n1,f.n2]) (.int .i64 0)).run prog w=.ok (.int .i64 f.n0) w:=λ_=>rfl
   have T:∀w,(Instr.index 80 (.agg #[f.n0,f.n1,f.n2]) (.int .i64 1)).run prog w=.ok (.int .i64 f.n1) w:=λ_=>rfl
   have U:∀w,(Instr.index 80 (.agg #[f.n0,f.n1,f.n2]) (.int .i64 2)).run prog w=.ok (.int .i64 f.n2) w:=λ_=>rfl
   go_enter func101,ntmps101
   go_wp2_with (first|(go_at_call 150;refine cb (zbG _ _ h) ?_)|(go_at_call 147;refine cb (zae _ _ d) ?_))
   go_loop [63] (λi=>i=.int .i64 0\/(i=.int .i64 1/\zal f.n0=true)\/(i=.int .i64 2/\zal f.n0=true/\zal f.n1=true)\/(i=.int .i64 3/\zal f.n0=true/\zal f.n1=true/\zal f.n2=true)) (λi=>(3-intOf i).toNat)
   case atStart=>exact .inl rfl
   rcases hrel with rfl|⟨rfl,r⟩|⟨rfl,r,z⟩|⟨rfl,r,z,P⟩
   . cases g:zal f.n0
     . have a:=I (show zbh b f=5 from j.1.trans (by rw[g];simp));have y:¬ (0<=f.n0/\f.n0<=8):=by simpa[zal] using g
       by_cases s:f.n0<0
       . go_wp2_with fail;go_ret;exact⟨ze a.1.symm,J _ _⟩
       have t:8<f.n0:=by omega
       go_wp2_with fail;go_ret;exact⟨ze a.1.symm,J _ _⟩
     obtain⟨s,t⟩:0<=f.n0/\f.n0<=8:=by simpa[zal] using g
     go_wp2_with fail;go_round
     case rel=>exact(.inr (.inl ⟨rfl,trivial⟩))
     case measure=>simp[intOf]
   . cases g:zal f.n1
     . have a:=I (show zbh b f=5 from j.1.trans (by rw[g];simp));have y:¬ (0<=f.n1/\f.n1<=8):=by simpa[zal] using g
       by_cases s:f.n1<0
       . go_wp2_with fail;go_ret;exact⟨ze a.1.symm,J _ _⟩
       have t:8<f.n1:=by omega
       go_wp2_with fail;go_ret;exact⟨ze a.1.symm,J _ _⟩
     obtain⟨s,t⟩:0<=f.n1/\f.n1<=8:=by simpa[zal] using g
     go_wp2_with fail;go_round
     case rel=>exact(.inr (.inr (.inl ⟨rfl,r,trivial⟩)))
     case measure=>simp[intOf]
   . cases g:zal f.n2
     . have a:=I (show zbh b f=5 from j.1.trans (by rw[g];simp));have y:¬ (0<=f.n2/\f.n2<=8):=by simpa[zal] using g
       by_cases s:f.n2<0
       . go_wp2_with fail;go_ret;exact⟨ze a.1.symm,J _ _⟩
       have t:8<f.n2:=by omega
       go_wp2_with fail;go_ret;exact⟨ze a.1.symm,J _ _⟩
     obtain⟨s,t⟩:0<=f.n2/\f.n2<=8:=by simpa[zal] using g
     go_wp2_with fail;go_round
     case rel=>exact(.inr (.inr (.inr ⟨rfl,r,z,trivial⟩)))
     case measure=>simp[intOf]
   have a:=I (show zbh b f=0 from j.1.trans (by rw[r,z,P];rfl));go_wp2_with fail;go_ret;exact⟨ze a.1.symm,J _ _⟩
 have a:=I (show zbh b f=14 from v.1.trans (by simp only[m,x,E];rfl));go_enter func101,ntmps101
 go_wp2_with (first|(go_at_call 150;refine cb (zbG _ _ h) ?_)|(go_at_call 147;refine cb (zae _ _ d) ?_))
 go_ret;exact⟨ze a.1.symm,J _ _⟩
theorem zi8(s:ByteArray)(o:Int)(l:List (Int×Int))(a:zua)(cap:Nat)(w:World)(d:s.size<=maxLen)(k:l.length<=140737488355328)(h:ShAt w a l):
 Calls prog 99 #[.agg #[.string s,o,.slice a l.length cap]] w λe b=>e=.returned (zG s.data.toList o l)/\Bw w b:=by
 by_cases i:l.length<=1000000
 . exact zer s o l a cap w d i h
 have j:16<l.length:=by omega
 cases f:zb0 s.data.toList
 . have c:=I (show zG s.data.toList o l=1 from by simp[zG,f]);go_enter func99,ntmps99
   go_wp2_with (first|(go_at_call 147;refine cb (zae _ _ d) ?_)|(go_at_call 148;refine cb (zaV _ _) ?_))
   go_ret;exact⟨ze c.1.symm,(ztT _ _).alloc (ztY _) _⟩
 cases g:offB o
 . have c:=I (show zG s.data.toList o l=5 from by simp[zG,f,g]);go_enter func99,ntmps99
   go_wp2_with (first|(go_at_call 147;refine cb (zae _ _ d) ?_)|(go_at_call 148;refine cb (zaV _ _) ?_))
   go_ret;exact⟨ze c.1.symm,(ztT _ _).alloc (ztY _) _⟩
 have c:=I (show zG s.data.toList o l=10 from by simp[zG,f,g,j]);go_enter func99,ntmps99
 go_wp2_with (first|(go_at_call 147;refine cb (zae _ _ d) ?_)|(go_at_call 148;refine cb (zaV _ _) ?_))
 go_ret;exact⟨ze c.1.symm,(ztT _ _).alloc (ztY _) _⟩
def TBox(w:World)(z:Nat)(za:zua)(zn zc:Nat)(aa:zua)(an ac:Nat)(fa:zua)(fn fc:Nat):Prop:=
 z<w.heap.size/\w.cell? ⟨z,0,none⟩=some (.slice za zn zc)/\w.cell? ⟨z,1,none⟩=some (.slice aa an ac)/\w.cell? ⟨z,2,none⟩=some (.slice fa fn fc)
theorem TBox.grown{w w':World}{z:Nat}{d f fa:zua}{g i k l m fc:Nat}{a:Option Nat}(h:TBox w z d g i f k l fa m fc)(n:w.grownBy w' a)(b:some z≠a):TBox w' z d g i f k l fa m fc:=by
 obtain⟨o,p,q,r⟩:=h;have e:=n.block z o b;have c:∀j,w'.cell? ⟨z,j,none⟩=w.cell? ⟨z,j,none⟩:=λj=>by simp only[World.cell?,e]
 exact⟨ztU o n.size,(c 0).trans p,(c 1).trans q,(c 2).trans r⟩
theorem TBox.below{w w':World}{z:Nat}{c d fa:zua}{e f g i j fc:Nat}(h:TBox w z c e f d g i fa j fc)(a:Bw w w'):TBox w' z c e f d g i fa j fc:=by
 obtain⟨b,k,l,m⟩:=h;exact⟨ztU b a.size,(a.cell (p:=⟨z,0,none⟩) b).trans k,(a.cell (p:=⟨z,1,none⟩) b).trans l,(a.cell (p:=⟨z,2,none⟩) b).trans m⟩
theorem TBox.new(w:World)(a b fa:zua)(c d e f g fc:Nat):TBox (w.alloc (Obj.cells #[.slice a c d,.slice b e f,.slice fa g fc] 26)) w.heap.size a c d b e f fa g fc:=by
 refine⟨by simp,?_,?_,?_⟩ <;> go_simp
theorem zmM{a:List ByteArray}{l:List zaC}{k:Nat}(b:k<l.length)(h:zval (zAt l k)≠0):valZ a (l.drop k)=(zval (zAt l k),a):=by
 rw[zko l k b,valZ,if_pos h]
theorem zmL{a:List ByteArray}{l:List zaC}{k:Nat}(b:k<l.length)(h:zval (zAt l k)=0)(c:hasB a (zAt l k).name=true):valZ a (l.drop k)=(7,a):=by
 rw[zko l k b,valZ,if_neg (by simpa using h),if_pos c]
theorem zoW{a:List ByteArray}{l:List zaC}{k:Nat}(b:k<l.length)(h:zval (zAt l k)=0)(c:hasB a (zAt l k).name=false):valZ a (l.drop k)=valZ (a++ [(zAt l k).name]) (l.drop (k+1)):=by
 rw[zko l k b,valZ,if_neg (by simpa using h),if_neg (by simp[c])]
theorem zmV{b a:List ByteArray}{l:List AirM}{k:Nat}(c:k<l.length)(h:airB (aAt l k).code.data.toList=false):valA b a (l.drop k)=(1,a):=by
 rw[zi0 l k c,valA,if_pos h]
theorem zmU{b a:List ByteArray}{l:List AirM}{k:Nat}(c:k<l.length)(h:airB (aAt l k).code.data.toList=true)(d:hasB a (aAt l k).code=true):valA b a (l.drop k)=(7,a):=by
 rw[zi0 l k c,valA,if_neg (by simp[h]),if_pos d]
theorem zmT{b a:List ByteArray}{l:List AirM}{k:Nat}(c:k<l.length)(h:airB (aAt l k).code.data.toList=true)(d:hasB a (aAt l k).code=false)(e:hasB b (aAt l k).zone=false):valA b a (l.drop k)=(6,a):=by
 rw[zi0 l k c,valA,if_neg (by simp[h]),if_neg (by simp[d]),if_pos e]
theorem zoZ{b a:List ByteArray}{l:List AirM}{k:Nat}(c:k<l.length)(h:airB (aAt l k).code.data.toList=true)(d:hasB a (aAt l k).code=false)(e:hasB b (aAt l k).zone=true):valA b a (l.drop k)=valA b (a++ [(aAt l k).code]) (l.drop (k+1)):=by
 rw[zi0 l k c,valA,if_neg (by simp[h]),if_neg (by simp[d]),if_neg (by simp[e])]
def zih(l:List zaw):Nat->Option zaw
 |0=>none
 |k+1=>some (fAt l k)
theorem zmR{a:List ByteArray}{l:List zaw}{k:Nat}{p:Option zaw}(b:k<l.length)(h:zbh a (fAt l k)≠0):valF a p (l.drop k)=zbh a (fAt l k):=by
 rw[zno l k b,valF,if_pos h]
theorem zmQ{a:List ByteArray}{l:List zaw}{k:Nat}(b:k+1<l.length)(h:zbh a (fAt l (k+1))=0)(c:zcd (fAt l k) (fAt l (k+1))=false):valF a (zih l (k+1)) (l.drop (k+1))=8:=by
 rw[zno l (k+1) b,valF,if_neg (by simp[h]),if_pos (by simp[zih,c])]
theorem zoY{a:List ByteArray}{l:List zaw}{k:Nat}(b:k+1<l.length)(h:zbh a (fAt l (k+1))=0)(c:zcd (fAt l k) (fAt l (k+1))=true):valF a (zih l (k+1)) (l.drop (k+1))=valF a (zih l (k+1+1)) (l.drop (k+1+1)):=by
 rw[zno l (k+1) b,valF,if_neg (by simp[h]),if_neg (by simp[zih,c])];rfl
theorem zkB{a:List ByteArray}{l:List zaw}(b:0<l.length)(h:zbh a (fAt l 0)=0):valF a (zih l 0) (l.drop 0)=valF a (zih l 1) (l.drop 1):=by
 rw[zno l 0 b,valF,if_neg (by simp[h]),if_neg (by simp[zih])];rfl
theorem zsN(w:World):(Instr.makeMap 172 none).run prog w=.ok (.map (some w.heap.size)) (w.alloc (.map #[] 0)):=by kernel_rfl
theorem zeR{w:World}{a:Nat}{l:List ByteArray}(s:ByteArray)(h:zaT prog w a .string (zck l)):(Instr.lookup 172 (.map (some a)) (.string s) false).run prog w=.ok (.bool (hasB l s)) w:=by
 rw[zdS underlying172 underlying9 h (key:=.string s) trivial (zi5 _),zfi]
theorem zhs{w:World}{a:Nat}{l:List ByteArray}{s:ByteArray}(h:zaT prog w a .string (zck l))(b:hasB l s=false):∃w',(Instr.mapUpdate 172 (.map (some a)) (.string s) (.bool true)).run prog w=.ok () w'/\zaT prog w' a .string (zck (l++ [s]))/\w.grownBy w' (some a):=by
 have:=zc8 underlying172 underlying9 h (key:=.string s) (.bool true) trivial;rwa [zmb l s b]at this
theorem zic(t:TTM)(H K fa:zua)(L M fc:Nat)(w:World)(hz:SlAt zcg w H t.zones)(ha:SlAt zei w K t.airs)(hf:SlAt zam w fa t.fls):
 Calls prog 56 #[aggT t H L K M fa fc] w λe w'=>e=.returned (zY t)/\Bw w w':=by
 try delta aggC aggT
 by_cases g1:16<t.zones.length
 . have Q:=I (show zY t=10 from if_pos (.inl g1));go_enter func56,ntmps56
   go_wp2_with fail;go_ret;exact⟨ze Q.1.symm,J _ _⟩
 by_cases x:64<t.airs.length
 . have Q:=I (show zY t=10 from if_pos (.inr (.inl x)));go_enter func56,ntmps56
   go_wp2_with fail;go_ret;exact⟨ze Q.1.symm,J _ _⟩
 by_cases g3:200<t.fls.length
 . have Q:=I (show zY t=10 from if_pos (.inr (.inr g3)));go_enter func56,ntmps56
   go_wp2_with fail;go_ret;exact⟨ze Q.1.symm,J _ _⟩
 have Q:zY t=if(valZ [] t.zones).1≠0 then(valZ [] t.zones).1
  else if(valA (valZ [] t.zones).2 [] t.airs).1≠0 then(valA (valZ [] t.zones).2 [] t.airs).1
  else valF (valA (valZ [] t.zones).2 [] t.airs).2 none t.fls:=if_neg (by omega)
 have Hv:=I Q;clear Q;have mk:=zsN;go_enter func56,ntmps56
 go_wp2_with fail;obtain⟨W,hW⟩:∃W,W=(w.alloc (objT t H L K M fa fc)).alloc (.map #[] 0):=⟨_,rfl⟩;have HT:=I ((TBox.new w H K fa t.zones.length L t.airs.length M t.fls.length fc).below (J _ (.map #[] 0)));have HM:=I (zaT.made prog (w.alloc (objT t H L K M fa fc)) .string);have HB:=I (ztS (J w (objT t H L K M fa fc)) (J _ (.map #[] 0)));have a0:(w.alloc (objT t H L K M fa fc)).heap.size=w.heap.size+1:=by simp
 rw[<-hW]at HT HM HB;rw[a0]at HM;simp only[<-hW];clear hW a0;go_loopw [33] (λi wr=>∃(k:Nat) (n:List ByteArray),k<=t.zones.length/\i=.int .i64 k/\ztR (valZ [] t.zones=valZ n (t.zones.drop k))/\ztR (zaT prog wr (w.heap.size+1) .string (zck n))/\ztR (TBox wr w.heap.size H t.zones.length L K t.airs.length M fa t.fls.length fc)/\ztR (Bw w wr)) (λi _=>t.zones.length-(intOf i).toNat)
 case atStart=>exact⟨0, [],ztX _,rfl,I rfl,HM,HT,HB⟩
 obtain⟨k,n,hk,rfl,a,hM,p,c⟩:=hrel;by_cases h:k<t.zones.length
 . obtain⟨b,a1,rfl,N,q⟩:=zc7 hz (by omega);obtain⟨sa,b3,c1,c2,c3,R,s2,s3⟩:=(q.below N c.1) k h;replace R:(zAt t.zones k).name.size<=maxLen:=by unfold maxLen;omega
   have S:b<wr.heap.size:=ztU N c.1.size;have S3:=I s3;clear s3 q;go_wp2_with fail;refine ca (zi8 _ _ _ _ _ _ R s2 (S3.1.below (J _ _))) λs f=>?_;have l:=I (ztS c.1 (ztS (J wr _) f));have D:=I ((hM.1.alloc _).below f);have z:=I ((p.1.below (J _ _)).below f);have d1:s.cell? ⟨wr.heap.size,0,none⟩=some (.string (zAt t.zones k).name):=((zj9 f).1 _ 0 (by simp)).trans (by clear f;go_simp);have a2:wr.heap.size<s.heap.size:=ztU (by simp) f.size;have L1:=zeR (zAt t.zones k).name D.1;have ez:zG (zAt t.zones k).name.data.toList (zAt t.zones k).off (zAt t.zones k).sh=zval (zAt t.zones k):=rfl;simp only[ez];clear ez f c1 c2 c3 S3 p hM;by_cases B:zval (zAt t.zones k)=0
   . cases A:hasB n (zAt t.zones k).name
     . rw[A]at L1;obtain⟨w2,P1,M2,x⟩:=zhs D.1 A;have g:=I (a.1.trans (zoW h B A));have T:=I M2;have U:=I (z.1.grown x (by simp));have V:=I (l.1.grown x l.1.size (by simp));clear M2 x;simp only[B];go_wp2_with fail;go_roundw
       case rel=>exact⟨k+1,_,by omega,by go_num,g,T,U,V⟩
       case measure=>simp[intOf];omega
     rw[A]at L1;have g:=I (a.1.trans (zmL h B A));have v:=I (show zY t=7 from Hv.1.trans (by rw[g.1];rfl));simp only[B];go_wp2_with fail;go_ret;exact⟨ze v.1.symm,l.1⟩
   have g:=I (a.1.trans (zmM h B));have v:=I (show zY t=zval (zAt t.zones k) from Hv.1.trans (by rw[g.1];exact if_pos B));go_wp2_with fail;go_ret;exact⟨ze v.1.symm,l.1⟩
 obtain rfl:k=t.zones.length:=by omega
 have E:valZ [] t.zones=(0,n):=a.1.trans (by rw[zt6];rfl);have F:=I (show zY t=if(valA n [] t.airs).1≠0 then(valA n [] t.airs).1 else valF (valA n [] t.airs).2 none t.fls from Hv.1.trans (by rw[E];exact if_neg (by simp)));clear E Hv a hk h;have q0:=p.1.2.1;have q1:=p.1.2.2.1;have q2:=p.1.2.2.2;have q3:=p.1.1;have a6:w.heap.size+1<wr.heap.size:=hM.1.lt;go_wp2_with fail;have a7:=I (hM.1.alloc (.map #[] 0));have HT:=I (p.1.below (J _ (.map #[] 0)));have a3:=I (zaT.made prog wr .string);have HB:=I (ztS c.1 (J _ (.map #[] 0)));have a8:wr.heap.size<(wr.alloc (.map #[] 0)).heap.size:=by simp
 clear hM p c q0 q1 q2 q3;obtain⟨X,G⟩:∃m,m=wr.heap.size:=⟨_,rfl⟩;rw[<-G]at a3 a8 a6;simp only[<-G];generalize wr.alloc (.map #[] 0)=W2 at*;clear G;go_loopw [54] (λi wr=>∃(k:Nat) (C:List ByteArray),k<=t.airs.length/\i=.int .i64 k/\ztR (valA n [] t.airs=valA n C (t.airs.drop k))/\ztR (zaT prog wr (w.heap.size+1) .string (zck n))/\ztR (zaT prog wr X .string (zck C))/\ztR (TBox wr w.heap.size H t.zones.length L K t.airs.length M fa t.fls.length fc)/\ztR (Bw w wr)) (λi _=>t.airs.length-(intOf i).toNat)
 case atStart=>exact⟨0, [],ztX _,rfl,I rfl,a7,a3,HT,HB⟩
 obtain⟨k,C,hk,rfl,a,Y,u,p,c⟩:=hrel;by_cases h:k<t.airs.length
 . obtain⟨b,a1,rfl,N,q⟩:=zeJ ha (by omega);obtain⟨c1,c2,R,s2⟩:=(q.below N c.1) k h;have S:b<wr.heap.size:=ztU N c.1.size;clear q;have l:=I (λo=>ztS c.1 (J wr o));have LZ:=λo=>zeR (aAt t.airs k).zone (Y.1.alloc o)
   have LA:=λo=>zeR (aAt t.airs k).code (u.1.alloc o)
   cases A:airB (aAt t.airs k).code.data.toList
   . have g:=I (a.1.trans (zmV h A));have v:=I (show zY t=1 from F.1.trans (by rw[g.1];rfl));clear LA LZ;go_wp2_with (go_at_call 100;refine cb (zc1 _ _ R) ?_)
     go_ret;exact⟨ze v.1.symm,l.1 _⟩
   cases e2:hasB C (aAt t.airs k).code <;> rw[e2]at LA
   . cases e3:hasB n (aAt t.airs k).zone <;> rw[e3]at LZ
     . have g:=I (a.1.trans (zmT h A e2 e3));have v:=I (show zY t=6 from F.1.trans (by rw[g.1];rfl));go_wp2_with (go_at_call 100;refine cb (zc1 _ _ R) ?_)
       go_ret;exact⟨ze v.1.symm,l.1 _⟩
     have g:=I (a.1.trans (zoZ h A e2 e3));obtain⟨w2,P1,M2,x⟩:=zhs (u.1.alloc (oA (aAt t.airs k))) e2;have T:=I M2;have a9:=I ((Y.1.alloc _).grown x (by simp;omega));have U:=I ((p.1.below (J _ _)).grown x (by simp;omega));have V:=I ((l.1 _).grown x (l.1 _).size (by simp;omega));clear M2 x;go_wp2_with (go_at_call 100;refine cb (zc1 _ _ R) ?_)
     go_roundw
     case rel=>exact⟨k+1,_,by omega,by go_num,g,a9,T,U,V⟩
     case measure=>simp[intOf];omega
   have g:=I (a.1.trans (zmU h A e2));have v:=I (show zY t=7 from F.1.trans (by rw[g.1];rfl));clear LZ;go_wp2_with (go_at_call 100;refine cb (zc1 _ _ R) ?_)
   go_ret;exact⟨ze v.1.symm,l.1 _⟩
 obtain rfl:k=t.airs.length:=by omega
 have E:valA n [] t.airs=(0,C):=a.1.trans (by rw[zt6];rfl);have Z:=I (show zY t=valF C none t.fls from F.1.trans (by rw[E];exact if_neg (by simp)));clear E F a hk h Y;have q0:=p.1.2.1;have q1:=p.1.2.2.1;have q2:=p.1.2.2.2;have q3:=p.1.1;go_wp2_with fail;clear q0 q1 q2 q3;go_loopw [81] (λi wr=>∃(k:Nat),k<=t.fls.length/\i=.int .i64 k/\ztR (valF C none t.fls=valF C (zih t.fls k) (t.fls.drop k))/\ztR (zaT prog wr X .string (zck C))/\ztR (TBox wr w.heap.size H t.zones.length L K t.airs.length M fa t.fls.length fc)/\ztR (Bw w wr)) (λi _=>t.fls.length-(intOf i).toNat)
 case atStart=>exact⟨0,ztX _,rfl,I rfl,u,p,c⟩
 clear u p c;obtain⟨k,hk,rfl,a,u,p,c⟩:=hrel;by_cases h:k<t.fls.length
 . obtain⟨b,a1,rfl,N,q⟩:=zaO hf (by omega);obtain⟨⟨c0,c1,c2,c3,c4,c5,c6,c7,c8⟩,sz⟩:=(q.below N c.1) k h;have b0:=I q;have S:b<wr.heap.size:=ztU N c.1.size;clear q;go_wp2_with fail;refine ca (zft (fAt t.fls k) C X _ sz (u.1.alloc _)) λs f=>?_;have l:=I (ztS c.1 (ztS (J wr _) f));have D:=I ((u.1.alloc _).below f);have z:=I ((p.1.below (J _ _)).below f);have a2:wr.heap.size<s.heap.size:=ztU (by simp) f.size;have r:=I (λj=>(zj9 f).1 wr.heap.size j (by simp));have d0:s.cell? ⟨wr.heap.size,0,none⟩=some (.string (fAt t.fls k).num):=(r.1 0).trans (by clear r f;go_simp);have d1:s.cell? ⟨wr.heap.size,1,none⟩=some (.string (fAt t.fls k).frm):=(r.1 1).trans (by clear r f;go_simp);have d2:s.cell? ⟨wr.heap.size,2,none⟩=some (.string (fAt t.fls k).to):=(r.1 2).trans (by clear r f;go_simp);have d3:s.cell? ⟨wr.heap.size,3,none⟩=some (.int .i64 (fAt t.fls k).dep):=(r.1 3).trans (by clear r f;go_simp);have d4:s.cell? ⟨wr.heap.size,4,none⟩=some (.int .i64 (fAt t.fls k).arr):=(r.1 4).trans (by clear r f;go_simp);have d5:s.cell? ⟨wr.heap.size,5,none⟩=some (.string (fAt t.fls k).typ):=(r.1 5).trans (by clear r f;go_simp);have d6:s.cell? ⟨wr.heap.size,6,none⟩=some (.int .i64 (fAt t.fls k).n0):=(r.1 6).trans (by clear r f;go_simp);have d7:s.cell? ⟨wr.heap.size,7,none⟩=some (.int .i64 (fAt t.fls k).n1):=(r.1 7).trans (by clear r f;go_simp);have d8:s.cell? ⟨wr.heap.size,8,none⟩=some (.int .i64 (fAt t.fls k).n2):=(r.1 8).trans (by clear r f;go_simp);clear f r c0 c1 c2 c3 c4 c5 c6 c7 c8 p u;by_cases B:zbh C (fAt t.fls k)=0
   . simp only[B];have q2:=z.1.2.2.2;have q3:=z.1.1;have b4:b<s.heap.size:=Nat.lt_trans S a2;by_cases h0:k=0
     . have g:=I (a.1.trans (by subst h0;exact zkB h B));have hd:decide (0<k)=false:=by simp;omega
       have b5:k+1<=t.fls.length:=h;have b1:=I h0;clear h0;go_wp2_with fail;go_quiet (fail)
       go_wp2_with fail;go_roundw
       case rel=>exact⟨k+1,by omega,by go_num,by have:=g.1;rw[b1.1];exact I this,I (D.1.drewN _),I (z.1.below (below_drewN (ztT _ _) _)),I (below_drewN l.1 _)⟩
       case measure=>simp[intOf];omega
     obtain⟨m,rfl⟩:∃m,k=m+1:=⟨k-1,by omega⟩;clear h0;obtain⟨⟨g0,g1,x,g3,g4,g5,g6,g7,g8⟩,_⟩:=(b0.1.below N l.1) m (by omega);go_wp2_with fail;have r0:=λd os=>cell_regrown d0 d os
     have x0:=λd os=>cell_regrown g0 d os
     have r1:=λd os=>cell_regrown d1 d os
     have x1:=λd os=>cell_regrown g1 d os
     have r2:=λd os=>cell_regrown d2 d os
     have x2:=λd os=>cell_regrown x d os
     have r3:=λd os=>cell_regrown d3 d os
     have x3:=λd os=>cell_regrown g3 d os
     have r4:=λd os=>cell_regrown d4 d os
     have x4:=λd os=>cell_regrown g4 d os
     have r5:=λd os=>cell_regrown d5 d os
     have x5:=λd os=>cell_regrown g5 d os
     have r6:=λd os=>cell_regrown d6 d os
     have x6:=λd os=>cell_regrown g6 d os
     have r7:=λd os=>cell_regrown d7 d os
     have x7:=λd os=>cell_regrown g7 d os
     have r8:=λd os=>cell_regrown d8 d os
     have x8:=λd os=>cell_regrown g8 d os
     have y:=λd os=>cell_regrown q2 d os
     have f1:=I (λd os=>ztZ (zoA (fAt t.fls m) (fAt t.fls (m+1)) (grow (redrawn s d) os)));refine wp_region_quiet_below (by kernel_rfl) (by kernel_rfl) ?_;repeat (first|go_big_quiet_step (first|exact f1.1 _ _)|quiet_step (first|exact f1.1 _ _))
     refine wpQuiet_nil ?_;intro _ b2;obtain⟨⟨dq,a4⟩,a5⟩:=b2;subst a5;have P:=below_regrown s dq a4;clear y f1 r0 x0 g0 d0 r1 x1 g1 d1 r2 x2 x d2 r3 x3 g3 d3 r4 x4 g4 d4 r5 x5 g5 d5 r6 x6 g6 d6 r7 x7 g7 d7 r8 x8 g8 d8;generalize grow (redrawn s dq) a4=w5 at*;cases A:zcd (fAt t.fls m) (fAt t.fls (m+1))
     . have g:=I (a.1.trans (zmQ h B A));have v:=I (show zY t=8 from Z.1.trans g.1);go_wp2_with fail;go_ret;exact⟨ze v.1.symm,ztS l.1 P⟩
     have g:=I (a.1.trans (zoY h B A));go_wp2_with fail;go_roundw
     case rel=>exact⟨m+1+1,by omega,by go_num,g,I (D.1.below P),I (z.1.below P),I (ztS l.1 P)⟩
     case measure=>simp[intOf];omega
   have g:=I (a.1.trans (zmR h B));have v:=I (show zY t=zbh C (fAt t.fls k) from Z.1.trans g.1);go_wp2_with fail;go_ret;exact⟨ze v.1.symm,l.1⟩
 obtain rfl:k=t.fls.length:=by omega
 have v:=I (show zY t=0 from Z.1.trans (a.1.trans (by rw[zt6];rfl)));go_wp2_with fail;go_ret;exact⟨ze v.1.symm,c.1⟩
theorem ziC{a:List ByteArray}{l:List zB}{k:Nat}(b:k<l.length)(h:zZ (csAt l k).name=false):zcw a (l.drop k)=1:=by
 rw[zgf l k b,zcw,if_pos h]
theorem zkC{a:List ByteArray}{l:List zB}{k:Nat}(b:k<l.length)(h:zZ (csAt l k).name=true)(c:hasB a (csAt l k).name=true):zcw a (l.drop k)=7:=by
 rw[zgf l k b,zcw,if_neg (by simp[h]),if_pos c]
theorem zkD{a:List ByteArray}{l:List zB}{k:Nat}(b:k<l.length)(h:zZ (csAt l k).name=true)(c:hasB a (csAt l k).name=false)(d:valE (csAt l k).ex≠0):zcw a (l.drop k)=valE (csAt l k).ex:=by
 rw[zgf l k b,zcw,if_neg (by simp[h]),if_neg (by simp[c]),if_pos d]
theorem zmS{a:List ByteArray}{l:List zB}{k:Nat}(b:k<l.length)(h:zZ (csAt l k).name=true)(c:hasB a (csAt l k).name=false)(d:valE (csAt l k).ex=0):zcw a (l.drop k)=zcw (a++ [(csAt l k).name]) (l.drop (k+1)):=by
 rw[zgf l k b,zcw,if_neg (by simp[h]),if_neg (by simp[c]),if_neg (by simp[d])]
theorem zeM{a:List (Int×ByteArray)}{l:List zcx}{k:Nat}(b:k<l.length)(h:(btwB (rlAt l k).scope 1 3&&zZ (rlAt l k).name)=false):zbW a (l.drop k)=1:=by
 rw[zjr l k b,zbW,if_pos h]
theorem zku{a:List (Int×ByteArray)}{l:List zcx}{k:Nat}(b:k<l.length)(h:(btwB (rlAt l k).scope 1 3&&zZ (rlAt l k).name)=true)(c:hasR a (rlAt l k).scope (rlAt l k).name=true):zbW a (l.drop k)=7:=by
 rw[zjr l k b,zbW,if_neg (by simp[h]),if_pos c]
theorem zkv{a:List (Int×ByteArray)}{l:List zcx}{k:Nat}(b:k<l.length)(h:(btwB (rlAt l k).scope 1 3&&zZ (rlAt l k).name)=true)(c:hasR a (rlAt l k).scope (rlAt l k).name=false)(d:valE (rlAt l k).ex≠0):zbW a (l.drop k)=valE (rlAt l k).ex:=by
 rw[zjr l k b,zbW,if_neg (by simp[h]),if_neg (by simp[c]),if_pos d]
theorem zmO{a:List (Int×ByteArray)}{l:List zcx}{k:Nat}(b:k<l.length)(h:(btwB (rlAt l k).scope 1 3&&zZ (rlAt l k).name)=true)(c:hasR a (rlAt l k).scope (rlAt l k).name=false)(d:valE (rlAt l k).ex=0):zbW a (l.drop k)=zbW (a++ [((rlAt l k).scope,(rlAt l k).name)]) (l.drop (k+1)):=by
 rw[zjr l k b,zbW,if_neg (by simp[h]),if_neg (by simp[c]),if_neg (by simp[d])]
theorem zm{w:World}{b j:Nat}{a:Array Value}{t:TypeId}{v:Value}{f:Nat×Nat}(h:w.heap[b]?=some (.cells a t f))(c:a[j]?=some v):w.cell? ⟨b,j,none⟩=some v:=by simp[World.cell?,h,c]
theorem zy{a b:Prop}(h:a)(k:b):a/\b:=⟨h,k⟩
theorem zw{w:World}{b:Nat}{T:TypeId}{a:Value}{l:List Value}(h:w.heap[b]?=some (.cells (a::l).toArray T (0,0))):w.cell? ⟨b,0,none⟩=some a:=zm (j:=0) h rfl
theorem zu{w:World}{b:Nat}{T:TypeId}{c a:Value}{l:List Value}(h:w.heap[b]?=some (.cells (c::a::l).toArray T (0,0))):w.cell? ⟨b,1,none⟩=some a:=zm (j:=1) h rfl
theorem zC{w:World}{b:Nat}{T:TypeId}{c d a:Value}{l:List Value}(h:w.heap[b]?=some (.cells (c::d::a::l).toArray T (0,0))):w.cell? ⟨b,2,none⟩=some a:=zm (j:=2) h rfl
theorem zaj{w:World}{b:Nat}{T:TypeId}{c d e a:Value}{l:List Value}(h:w.heap[b]?=some (.cells (c::d::e::a::l).toArray T (0,0))):w.cell? ⟨b,3,none⟩=some a:=zm (j:=3) h rfl
theorem zbe{w:World}{b:Nat}{T:TypeId}{c d e f a:Value}{l:List Value}(h:w.heap[b]?=some (.cells (c::d::e::f::a::l).toArray T (0,0))):w.cell? ⟨b,4,none⟩=some a:=zm (j:=4) h rfl
theorem zbn{w:World}{b:Nat}{T:TypeId}{c d e f g a:Value}{l:List Value}(h:w.heap[b]?=some (.cells (c::d::e::f::g::a::l).toArray T (0,0))):w.cell? ⟨b,5,none⟩=some a:=zm (j:=5) h rfl
theorem zbm{w:World}{b:Nat}{T:TypeId}{c d e f g i a:Value}{l:List Value}(h:w.heap[b]?=some (.cells (c::d::e::f::g::i::a::l).toArray T (0,0))):w.cell? ⟨b,6,none⟩=some a:=zm (j:=6) h rfl
theorem zaK{w:World}{b:Nat}{T:TypeId}{c d e f g i k a:Value}{l:List Value}(h:w.heap[b]?=some (.cells (c::d::e::f::g::i::k::a::l).toArray T (0,0))):w.cell? ⟨b,7,none⟩=some a:=zm (j:=7) h rfl
theorem zaX{w:World}{b:Nat}{T:TypeId}{c d e f g i k m a:Value}{l:List Value}(h:w.heap[b]?=some (.cells (c::d::e::f::g::i::k::m::a::l).toArray T (0,0))):w.cell? ⟨b,8,none⟩=some a:=zm (j:=8) h rfl
theorem zbr{w:World}{b:Nat}{T:TypeId}{c d e f g i k m n a:Value}{l:List Value}(h:w.heap[b]?=some (.cells (c::d::e::f::g::i::k::m::n::a::l).toArray T (0,0))):w.cell? ⟨b,9,none⟩=some a:=zm (j:=9) h rfl
theorem zbb{w:World}{b:Nat}{T:TypeId}{c d e f g i k m n o a:Value}{l:List Value}(h:w.heap[b]?=some (.cells (c::d::e::f::g::i::k::m::n::o::a::l).toArray T (0,0))):w.cell? ⟨b,10,none⟩=some a:=zm (j:=10) h rfl
theorem zby{w:World}{b:Nat}{T:TypeId}{d e f g i k m n o p c a:Value}{l:List Value}(h:w.heap[b]?=some (.cells (d::e::f::g::i::k::m::n::o::p::c::a::l).toArray T (0,0))):w.cell? ⟨b,11,none⟩=some a:=zm (j:=11) h rfl
theorem zbx{w:World}{b:Nat}{T:TypeId}{e f g i k m n o p q c d a:Value}{l:List Value}(h:w.heap[b]?=some (.cells (e::f::g::i::k::m::n::o::p::q::c::d::a::l).toArray T (0,0))):w.cell? ⟨b,12,none⟩=some a:=zm (j:=12) h rfl
theorem zcq{w:World}{b:Nat}{T:TypeId}{f g i k m n o p q r c d e a:Value}{l:List Value}(h:w.heap[b]?=some (.cells (f::g::i::k::m::n::o::p::q::r::c::d::e::a::l).toArray T (0,0))):w.cell? ⟨b,13,none⟩=some a:=zm (j:=13) h rfl
theorem cellW_14{w:World}{b:Nat}{T:TypeId}{g i k m n o p q r s c d e f a:Value}{l:List Value}(h:w.heap[b]?=some (.cells (g::i::k::m::n::o::p::q::r::s::c::d::e::f::a::l).toArray T (0,0))):w.cell? ⟨b,14,none⟩=some a:=zm (j:=14) h rfl
theorem cellW_15{w:World}{b:Nat}{T:TypeId}{i k m n o p q r s t c d e f g a:Value}{l:List Value}(h:w.heap[b]?=some (.cells (i::k::m::n::o::p::q::r::s::t::c::d::e::f::g::a::l).toArray T (0,0))):w.cell? ⟨b,15,none⟩=some a:=zm (j:=15) h rfl
theorem cellW_16{w:World}{b:Nat}{T:TypeId}{k m n o p q r s t u c d e f g i a:Value}{l:List Value}(h:w.heap[b]?=some (.cells (k::m::n::o::p::q::r::s::t::u::c::d::e::f::g::i::a::l).toArray T (0,0))):w.cell? ⟨b,16,none⟩=some a:=zm (j:=16) h rfl
theorem zrX{w:World}{b:Nat}{T:TypeId}{m n o p q r s t u v c d e f g i k a:Value}{l:List Value}(h:w.heap[b]?=some (.cells (m::n::o::p::q::r::s::t::u::v::c::d::e::f::g::i::k::a::l).toArray T (0,0))):w.cell? ⟨b,17,none⟩=some a:=zm (j:=17) h rfl
theorem cellW_18{w:World}{b:Nat}{T:TypeId}{n o p q r s t u v x c d e f g i k m a:Value}{l:List Value}(h:w.heap[b]?=some (.cells (n::o::p::q::r::s::t::u::v::x::c::d::e::f::g::i::k::m::a::l).toArray T (0,0))):w.cell? ⟨b,18,none⟩=some a:=zm (j:=18) h rfl
theorem zrW{w:World}{b:Nat}{T:TypeId}{o p q r s t u v x y c d e f g i k m n a:Value}{l:List Value}(h:w.heap[b]?=some (.cells (o::p::q::r::s::t::u::v::x::y::c::d::e::f::g::i::k::m::n::a::l).toArray T (0,0))):w.cell? ⟨b,19,none⟩=some a:=zm (j:=19) h rfl
theorem cellW_20{w:World}{b:Nat}{T:TypeId}{p q r s t u v x y z c d e f g i k m n o a:Value}{l:List Value}(h:w.heap[b]?=some (.cells (p::q::r::s::t::u::v::x::y::z::c::d::e::f::g::i::k::m::n::o::a::l).toArray T (0,0))):w.cell? ⟨b,20,none⟩=some a:=zm (j:=20) h rfl
theorem cellW_21{w:World}{b:Nat}{T:TypeId}{q r s t u v x y z A c d e f g i k m n o p a:Value}{l:List Value}(h:w.heap[b]?=some (.cells (q::r::s::t::u::v::x::y::z::A::c::d::e::f::g::i::k::m::n::o::p::a::l).toArray T (0,0))):w.cell? ⟨b,21,none⟩=some a:=zm (j:=21) h rfl
theorem cellW_22{w:World}{b:Nat}{T:TypeId}{r s t u v x y z A B c d e f g i k m n o p q a:Value}{l:List Value}(h:w.heap[b]?=some (.cells (r::s::t::u::v::x::y::z::A::B::c::d::e::f::g::i::k::m::n::o::p::q::a::l).toArray T (0,0))):w.cell? ⟨b,22,none⟩=some a:=zm (j:=22) h rfl
theorem zrV{w:World}{b:Nat}{T:TypeId}{s t u v x y z A B C c d e f g i k m n o p q r a:Value}{l:List Value}(h:w.heap[b]?=some (.cells (s::t::u::v::x::y::z::A::B::C::c::d::e::f::g::i::k::m::n::o::p::q::r::a::l).toArray T (0,0))):w.cell? ⟨b,23,none⟩=some a:=zm (j:=23) h rfl
theorem cellW_24{w:World}{b:Nat}{T:TypeId}{t u v x y z A B C D c d e f g i k m n o p q r s a:Value}{l:List Value}(h:w.heap[b]?=some (.cells (t::u::v::x::y::z::A::B::C::D::c::d::e::f::g::i::k::m::n::o::p::q::r::s::a::l).toArray T (0,0))):w.cell? ⟨b,24,none⟩=some a:=zm (j:=24) h rfl
theorem cellW_25{w:World}{b:Nat}{T:TypeId}{u v x y z A B C D E c d e f g i k m n o p q r s t a:Value}{l:List Value}(h:w.heap[b]?=some (.cells (u::v::x::y::z::A::B::C::D::E::c::d::e::f::g::i::k::m::n::o::p::q::r::s::t::a::l).toArray T (0,0))):w.cell? ⟨b,25,none⟩=some a:=zm (j:=25) h rfl
theorem zrU{w:World}{b:Nat}{T:TypeId}{v x y z A B C D E F c d e f g i k m n o p q r s t u a:Value}{l:List Value}(h:w.heap[b]?=some (.cells (v::x::y::z::A::B::C::D::E::F::c::d::e::f::g::i::k::m::n::o::p::q::r::s::t::u::a::l).toArray T (0,0))):w.cell? ⟨b,26,none⟩=some a:=zm (j:=26) h rfl
theorem zfu(l:List zB)(a:zua)(cap:Nat)(w:World)(B:Nat)(Q:B<=w.heap.size)(H:zbd B w a l):
 Calls prog 152 #[.slice a l.length cap] w λe w'=>e=.returned (zcw [] l)/\Bw w w':=by
 have hl:=H.1;have X:=I H;have mk:=zsN;clear H;go_enter func152,ntmps152
 go_wp2_with fail;have R:=I (zaT.made prog w .string);have S:=I (J w (.map #[] 0));have K:w.heap.size<(w.alloc (.map #[] 0)).heap.size:=by simp
 generalize w.alloc (.map #[] 0)=W at*;go_loopw [10] (λi wr=>∃(k:Nat) (n:List ByteArray),k<=l.length/\i=.int .i64 k/\ztR (zcw [] l=zcw n (l.drop k))/\ztR (zaT prog wr w.heap.size .string (zck n))/\ztR (Bw w wr)) (λi _=>l.length-(intOf i).toNat)
 case atStart=>exact⟨0, [],ztX _,rfl,I rfl,R,S⟩
 clear R S K W;obtain⟨k,n,hk,rfl,c,L,f⟩:=hrel;by_cases g:k<l.length
 . obtain⟨b,Y,rfl,Z,t⟩:=X.1.cells (by omega);obtain⟨c0,T,u,d,⟨c1,c2,c3,c4⟩,o,h⟩:=(t k g).keep (f.1.mono Q) b _ _ Z;have a0:b<wr.heap.size:=by have:=f.1.size;omega
   have a1:w.heap.size<wr.heap.size:=L.1.lt;replace T:(csAt l k).name.size<=maxLen:=by unfold maxLen;omega
   have M:=I h;have HF:=I o;have U:=I (zh wr (Obj.cells #[.string (csAt l k).name,(csAt l k).ex.op,(csAt l k).ex.num,.string (csAt l k).ex.name,.slice u (csAt l k).ex.args.length d] 112));have p:=I (L.1.alloc (Obj.cells #[.string (csAt l k).name,(csAt l k).ex.op,(csAt l k).ex.num,.string (csAt l k).ex.name,.slice u (csAt l k).ex.args.length d] 112));have m:=I (ztS f.1 (J wr (Obj.cells #[.string (csAt l k).name,(csAt l k).ex.op,(csAt l k).ex.num,.string (csAt l k).ex.name,.slice u (csAt l k).ex.args.length d] 112)));have E:=zeR (csAt l k).name p.1;clear h t L o;go_wp2_with fail;refine cb (zdi _ _ T) ?_;cases F:zZ (csAt l k).name
   . have v:=I (c.1.trans (ziC g F));clear E;go_wp2_with fail;go_ret;exact⟨ze v.1.symm,m.1⟩
   cases s:hasB n (csAt l k).name
   . rw[s]at E;obtain⟨N,P1,V,x⟩:=zhs p.1 s;have y:=(x.block wr.heap.size (by simp) (by simp;omega)).trans U.1;have a3:wr.heap.size<N.heap.size:=ztU (by simp) x.size;have d1:=zm (j:=1) y rfl;have d2:=zm (j:=2) y rfl;have d3:=zm (j:=3) y rfl;have d4:=zm (j:=4) y rfl;have z:=I V;have A:=I (m.1.grown x m.1.size (by simp));have C:=I (M.1.keep ((((J wr (Obj.cells #[.string (csAt l k).name,(csAt l k).ex.op,(csAt l k).ex.num,.string (csAt l k).ex.name,.slice u (csAt l k).ex.args.length d] 112)).mono (by omega)).grown x (by simp;omega) (λj hj=>by cases hj;exact Q)):Below B wr N));clear V x y p m;go_wp2_with fail;refine ca (zbB (csAt l k).ex u d N B (by omega) HF.1 C.1) λw3 q=>?_;have P:=I (z.1.below q);have D:=I (ztS A.1 q);clear q z A C d1 d2 d3 d4 c0 c1 c2 c3 c4 E P1 U;by_cases G:valE (csAt l k).ex=0
     . have r:=I (c.1.trans (zmS g F s G));rw[G];go_wp2_with fail;go_roundw
       case rel=>exact⟨k+1,_,by omega,by go_num,r,P,D⟩
       case measure=>simp[intOf];omega
     have r:=I (c.1.trans (zkD g F s G));have e4:(valE (csAt l k).ex !=0)=true:=by simpa using G
     go_wp2_with fail;go_ret;exact⟨ze r.1.symm,D.1⟩
   rw[s]at E;have v:=I (c.1.trans (zkC g F s));go_wp2_with fail;go_ret;exact⟨ze v.1.symm,m.1⟩
 obtain rfl:k=l.length:=by omega
 have v:=I (show zcw [] l=0 from c.1.trans (by rw[zt6];rfl));go_wp2_with fail;go_ret;exact⟨ze v.1.symm,f.1⟩
theorem zf3(l:List zcx)(a:zua)(cap:Nat)(w:World)(B:Nat)(U:B<=w.heap.size)(L:zq6 B w a l):
 Calls prog 153 #[.slice a l.length cap] w λe w'=>e=.returned (zbW [] l)/\Bw w w':=by
 have hl:=L.1;have HA:=I L;have mk:=mkMapR;clear L;go_enter func153,ntmps153
 go_wp2_with fail;have V:=I (RMap.made w);have X:=I (J w (.map #[] 0));have M:w.heap.size<(w.alloc (.map #[] 0)).heap.size:=by simp
 generalize w.alloc (.map #[] 0)=W at*;go_loopw [11] (λi wr=>∃(k:Nat) (m:List (Int×ByteArray)),k<=l.length/\i=.int .i64 k/\ztR (zbW [] l=zbW m (l.drop k))/\ztR (RMap wr w.heap.size m)/\ztR (Bw w wr)) (λi _=>l.length-(intOf i).toNat)
 case atStart=>exact⟨0, [],ztX _,rfl,I rfl,V,X⟩
 clear V X M W;obtain⟨k,m,hk,rfl,c,N,f⟩:=hrel;by_cases g:k<l.length
 . obtain⟨b,a0,rfl,hb,x⟩:=HA.1.cells (by omega);obtain⟨c0,P,H,Y,y,d,⟨c1,c2,c3,c4⟩,p,h⟩:=(x k g).keep (f.1.mono U) b _ _ hb;have a1:b<wr.heap.size:=by have:=f.1.size;omega
   have a3:w.heap.size<wr.heap.size:=N.1.lt;replace H:(rlAt l k).name.size<=maxLen:=by unfold maxLen;omega
   have Q:=I h;have HF:=I p;have Z:=I Y;have q0:=I (zh wr (Obj.cells #[(rlAt l k).scope,.string (rlAt l k).name,(rlAt l k).ex.op,(rlAt l k).ex.num,.string (rlAt l k).ex.name,.slice y (rlAt l k).ex.args.length d] 88));have z:=I (N.1.below (J wr (Obj.cells #[(rlAt l k).scope,.string (rlAt l k).name,(rlAt l k).ex.op,(rlAt l k).ex.num,.string (rlAt l k).ex.name,.slice y (rlAt l k).ex.args.length d] 88)));have n:=I (ztS f.1 (J wr (Obj.cells #[(rlAt l k).scope,.string (rlAt l k).name,(rlAt l k).ex.op,(rlAt l k).ex.num,.string (rlAt l k).ex.name,.slice y (rlAt l k).ex.args.length d] 88)));clear h x N p Y;go_wp2_with fail;refine cb (zeZ _ _) ?_;cases e0:btwB (rlAt l k).scope 1 3
   . have q:=I (c.1.trans (zeM g (by rw[e0];rfl)));go_wp2_with fail;go_ret;exact⟨ze q.1.symm,n.1⟩
   go_wp2_with fail;refine cb (zdi _ _ H) ?_;cases e1:zZ (rlAt l k).name
   . have q:=I (c.1.trans (zeM g (by rw[e1];simp)));go_wp2_with fail;go_ret;exact⟨ze q.1.symm,n.1⟩
   have r:=I (show(btwB (rlAt l k).scope 1 3&&zZ (rlAt l k).name)=true by rw[e0,e1];rfl);have q1:=I (zd (o':=Obj.cells #[(rlAt l k).scope,.string (rlAt l k).name] 237) q0.1);have s:=I (z.1.below (J _ (Obj.cells #[(rlAt l k).scope,.string (rlAt l k).name] 237)));have o:=I (ztS n.1 (J _ (Obj.cells #[(rlAt l k).scope,.string (rlAt l k).name] 237)));have R:=zsV s.1 Z.1 H;cases v:hasR m (rlAt l k).scope (rlAt l k).name
   . rw[v]at R;obtain⟨S,P1,M2,A⟩:=put_rk s.1 Z.1 H v;have C:=(A.block wr.heap.size (by simp;omega) (by simp;omega)).trans q1.1;have a4:wr.heap.size<S.heap.size:=ztU (by simp;omega) A.size;have d1:=zm (j:=2) C rfl;have d2:=zm (j:=3) C rfl;have d3:=zm (j:=4) C rfl;have d4:=zm (j:=5) C rfl;have D:=I M2;have E:=I (o.1.grown A o.1.size (by simp));have F:=I (Q.1.keep ((((ztS (J wr (Obj.cells #[(rlAt l k).scope,.string (rlAt l k).name,(rlAt l k).ex.op,(rlAt l k).ex.num,.string (rlAt l k).ex.name,.slice y (rlAt l k).ex.args.length d] 88)) (J _ _)).mono (by omega)).grown A (by simp;omega) (λj hj=>by cases hj;exact U)):Below B wr S));clear M2 A C z n s o q1;go_wp2_with fail;refine ca (zbB (rlAt l k).ex y d S B (by omega) HF.1 F.1) λw3 t=>?_;have T:=I (D.1.below t);have G:=I (ztS E.1 t);clear t D E F d1 d2 d3 d4 c0 P c1 c2 c3 c4 R P1 q0;by_cases K:valE (rlAt l k).ex=0
     . have u:=I (c.1.trans (zmO g r.1 v K));rw[K];go_wp2_with fail;go_roundw
       case rel=>exact⟨k+1,_,by omega,by go_num,u,T,G⟩
       case measure=>simp[intOf];omega
     have u:=I (c.1.trans (zkv g r.1 v K));have e4:(valE (rlAt l k).ex !=0)=true:=by simpa using K
     go_wp2_with fail;go_ret;exact⟨ze u.1.symm,G.1⟩
   rw[v]at R;have q:=I (c.1.trans (zku g r.1 v));go_wp2_with fail;go_ret;exact⟨ze q.1.symm,o.1⟩
 obtain rfl:k=l.length:=by omega
 have q:=I (show zbW [] l=0 from c.1.trans (by rw[zt6];rfl));go_wp2_with fail;go_ret;exact⟨ze q.1.symm,f.1⟩
def zcj(w:World)(b:Nat)(c:ConM)(p:ConP):Prop:=w.heap[b]?=some (.cells (zj4 c p) 34 (0,0))
theorem zcj.new(w:World)(c:ConM)(p:ConP):zcj (w.alloc (Obj.cells #[c.report,c.release,c.connect,c.sit,c.layover,c.nf,c.nt,.slice p.ca c.consts.length p.cc,.slice p.ra c.rules.length p.rc,.slice p.ka c.costs.length p.kc,.slice p.xa c.credit.length p.xc,.slice p.la c.lims.length p.lc,.slice p.oa c.offs.length p.oc,c.guar] 34)) w.heap.size c p:=zh w _
theorem zcj.lt{w:World}{b:Nat}{c:ConM}{p:ConP}(h:zcj w b c p):b<w.heap.size:=ztW h
theorem zcj.below{w w':World}{b:Nat}{c:ConM}{p:ConP}(h:zcj w b c p)(a:Bw w w'):zcj w' b c p:=(a.block b h.lt).trans h
theorem zcj.grown{w w':World}{b:Nat}{c:ConM}{p:ConP}{a:Option Nat}(h:zcj w b c p)(e:w.grownBy w' a)(d:some b≠a):zcj w' b c p:=(e.block b h.lt d).trans h
theorem zco(s:ByteArray)(w:World):Calls prog 193 #[.string s] w λe w'=>e=.returned (zf9 s)/\w=w':=by
 go_enter func193,ntmps193
 go_wp2_with fail
 all_goals (go_ret;exact⟨ze (by first|(simp only[zf9,zN,zgU,zjG,List.any_cons,List.any_nil, *];rfl)|simp_all),rfl⟩)
theorem ziB{a:List ByteArray}{l:List LimM}{k:Nat}(b:k<l.length)(h:zZ (liAt l k).name=false):zcu a (l.drop k)=(1,a):=by
 rw[zga l k b,zcu,if_pos h]
theorem zkz{a:List ByteArray}{l:List LimM}{k:Nat}(b:k<l.length)(h:zZ (liAt l k).name=true)(c:hasB a (liAt l k).name=true):zcu a (l.drop k)=(7,a):=by
 rw[zga l k b,zcu,if_neg (by simp[h]),if_pos c]
theorem znG{a:List ByteArray}{l:List LimM}{k:Nat}(b:k<l.length)(h:zZ (liAt l k).name=true)(c:hasB a (liAt l k).name=false)(d:zf9 (liAt l k).meas=0):zcu a (l.drop k)=(6,a):=by
 rw[zga l k b,zcu,if_neg (by simp[h]),if_neg (by simp[c]),if_pos d]
theorem zky{a:List ByteArray}{l:List LimM}{k:Nat}(b:k<l.length)(h:zZ (liAt l k).name=true)(c:hasB a (liAt l k).name=false)(d:zf9 (liAt l k).meas≠0)(e:(btwB (liAt l k).most 0 599999&&btwB (liAt l k).days 1 31)=false):zcu a (l.drop k)=(5,a):=by
 rw[zga l k b,zcu,if_neg (by simp[h]),if_neg (by simp[c]),if_neg d,if_pos e]
theorem zrh{a:List ByteArray}{l:List LimM}{k:Nat}(b:k<l.length)(h:zZ (liAt l k).name=true)(c:hasB a (liAt l k).name=false)(d:zf9 (liAt l k).meas≠0)(e:(btwB (liAt l k).most 0 599999&&btwB (liAt l k).days 1 31)=true):zcu a (l.drop k)=zcu (a++ [(liAt l k).name]) (l.drop (k+1)):=by
 rw[zga l k b,zcu,if_neg (by simp[h]),if_neg (by simp[c]),if_neg d,if_neg (by simp[e])]
theorem ziA{a:List ByteArray}{l:List OffM}{k:Nat}(b:k<l.length)(h:zZ (ofAt l k).name=false):zdt a (l.drop k)=1:=by
 rw[zhx l k b,zdt,if_pos h]
theorem zg8{a:List ByteArray}{l:List OffM}{k:Nat}(b:k<l.length)(h:zZ (ofAt l k).name=true)(c:hasB a (ofAt l k).name=true):zdt a (l.drop k)=7:=by
 rw[zhx l k b,zdt,if_neg (by simp[h]),if_pos c]
theorem zkx{a:List ByteArray}{l:List OffM}{k:Nat}(b:k<l.length)(h:zZ (ofAt l k).name=true)(c:hasB a (ofAt l k).name=false)(d:(btwB (ofAt l k).days 1 31&&btwB (ofAt l k).cnt 1 (ofAt l k).days)=false):zdt a (l.drop k)=5:=by
 rw[zhx l k b,zdt,if_neg (by simp[h]),if_neg (by simp[c]),if_pos d]
theorem zrg{a:List ByteArray}{l:List OffM}{k:Nat}(b:k<l.length)(h:zZ (ofAt l k).name=true)(c:hasB a (ofAt l k).name=false)(d:(btwB (ofAt l k).days 1 31&&btwB (ofAt l k).cnt 1 (ofAt l k).days)=true):zdt a (l.drop k)=zdt (a++ [(ofAt l k).name]) (l.drop (k+1)):=by
 rw[zhx l k b,zdt,if_neg (by simp[h]),if_neg (by simp[c]),if_neg (by simp[d])]
theorem zfa(c:ConM)(p:ConP)(w:World)(B:Nat)(hB:B<=w.heap.size)(M:zsr B w p.la c.lims)(N:zsq B w p.oa c.offs):
 Calls prog 156 #[aggC c p] w λe w'=>e=.returned (za1 c)/\Bw w w':=by
 try delta aggC aggT
 have a1:=M.1;have a2:=N.1;have HL:=I M;have HO:=I N;have mk:=zsN;clear M N;have u:=I (show za1 c=if(zcu [] c.lims).1≠0 then(zcu [] c.lims).1 else zdt (zcu [] c.lims).2 c.offs from rfl);go_enter func156,ntmps156
 go_wp2_with fail;obtain⟨W,P⟩:∃W,W=(w.alloc (objC c p)).alloc (.map #[] 0):=⟨_,rfl⟩;have Q:=I ((zcj.new w c p).below (J _ (.map #[] 0)));have L:=I (zaT.made prog (w.alloc (objC c p)) .string);have R:=I (ztS (J w (objC c p)) (J _ (.map #[] 0)));rw[zr]at L;rw[<-P]at Q L R;simp only[<-P];clear P;go_loopw [12] (λi wr=>∃(k:Nat) (h:List ByteArray),k<=c.lims.length/\i=.int .i64 k/\ztR (zcu [] c.lims=zcu h (c.lims.drop k))/\ztR (zaT prog wr (w.heap.size+1) .string (zck h))/\ztR (zcj wr w.heap.size c p)/\ztR (Bw w wr)) (λi _=>c.lims.length-(intOf i).toNat)
 case atStart=>exact⟨0, [],ztX _,rfl,I rfl,L,Q,R⟩
 clear L R Q W;obtain⟨k,h,hk,rfl,a,t,C,f⟩:=hrel;by_cases g:k<c.lims.length
 . obtain⟨b,S,q,T,r⟩:=HL.1.cells (by omega);rw[q];obtain⟨c0,c1,c2,c3,D,s2⟩:=(r k g).keep (f.1.mono hB) b _ _ T;have U:b<wr.heap.size:=by have:=f.1.size;omega
   have V:w.heap.size+1<wr.heap.size:=t.1.lt;replace D:(liAt c.lims k).name.size<=maxLen:=by unfold maxLen;omega
   have q0:=I (zh wr (Obj.cells #[.string (liAt c.lims k).name,.string (liAt c.lims k).meas,(liAt c.lims k).most,(liAt c.lims k).days] 242));have m:=I (t.1.alloc (Obj.cells #[.string (liAt c.lims k).name,.string (liAt c.lims k).meas,(liAt c.lims k).most,(liAt c.lims k).days] 242));have E:=I (C.1.below (J wr (Obj.cells #[.string (liAt c.lims k).name,.string (liAt c.lims k).meas,(liAt c.lims k).most,(liAt c.lims k).days] 242)));have d:=I (ztS f.1 (J wr (Obj.cells #[.string (liAt c.lims k).name,.string (liAt c.lims k).meas,(liAt c.lims k).most,(liAt c.lims k).days] 242)));have v:=zeR (liAt c.lims k).name m.1;clear r t q C;go_wp2_with fail;refine cb (zdi _ _ D) ?_;cases o:zZ (liAt c.lims k).name
   . have j:=I (show za1 c=1 from u.1.trans (by rw[a.1,ziB g o];rfl));clear v;go_wp2_with fail;go_ret;exact⟨ze j.1.symm,d.1⟩
   cases l:hasB h (liAt c.lims k).name
   . rw[l]at v;by_cases F:zf9 (liAt c.lims k).meas=0
     . have j:=I (show za1 c=6 from u.1.trans (by rw[a.1,znG g o l F];rfl));go_wp2_with fail;refine cb (zco _ _) ?_;rw[F];go_wp2_with fail;go_ret;exact⟨ze j.1.symm,d.1⟩
     have X:=I F;have a3:(zf9 (liAt c.lims k).meas==0)=false:=by simpa using F
     clear F;cases G:btwB (liAt c.lims k).most 0 599999
     . have j:=I (show za1 c=5 from u.1.trans (by rw[a.1,zky g o l X.1 (by rw[G];rfl)];rfl));go_wp2_with fail;refine cb (zco _ _) ?_;go_wp2_with fail;refine cb (zab _ _ _ _) ?_;go_wp2_with fail;go_ret;exact⟨ze j.1.symm,d.1⟩
     cases H:btwB (liAt c.lims k).days 1 31
     . have j:=I (show za1 c=5 from u.1.trans (by rw[a.1,zky g o l X.1 (by rw[H];simp)];rfl));go_wp2_with fail;refine cb (zco _ _) ?_;go_wp2_with fail;refine cb (zab _ _ _ _) ?_;go_wp2_with fail;refine cb (zab _ _ _ _) ?_;go_wp2_with fail;go_ret;exact⟨ze j.1.symm,d.1⟩
     obtain⟨w2,P1,K,A⟩:=zhs m.1 l;have x:=I K;have Y:=I (E.1.grown A (by simp));have y:=I (d.1.grown A d.1.size (by simp));have z:=I (a.1.trans (zrh g o l X.1 (by rw[G,H];rfl)));clear K A m d E;go_wp2_with fail;refine cb (zco _ _) ?_;go_wp2_with fail;refine cb (zab _ _ _ _) ?_;go_wp2_with fail;refine cb (zab _ _ _ _) ?_;go_wp2_with fail;go_roundw
     case rel=>exact⟨k+1,_,by omega,by go_num,z,x,Y,y⟩
     case measure=>simp[intOf];omega
   rw[l]at v;have j:=I (show za1 c=7 from u.1.trans (by rw[a.1,zkz g o l];rfl));go_wp2_with fail;go_ret;exact⟨ze j.1.symm,d.1⟩
 obtain rfl:k=c.lims.length:=by omega
 have s:=I (show za1 c=zdt h c.offs from u.1.trans (by rw[a.1,zt6];rfl));have Z:=zbx C.1;have a0:=C.1.lt;clear u a hk g;go_wp2_with fail;clear Z a0;obtain⟨w0,rfl⟩:∃w0:World,w0=wr:=⟨_,rfl⟩;go_loopw [49] (λi wr=>∃(k:Nat) (ac:List ByteArray),k<=c.offs.length/\i=.int .i64 k/\ztR (zdt h c.offs=zdt ac (c.offs.drop k))/\ztR (zaT prog wr (w.heap.size+1) .string (zck ac))/\ztR (Bw w wr)) (λi _=>c.offs.length-(intOf i).toNat)
 case atStart=>exact⟨0,h,ztX _,rfl,I rfl,t,f⟩
 clear t f C;obtain⟨k,h,hk,rfl,a,t,f⟩:=hrel;by_cases g:k<c.offs.length
 . obtain⟨b,S,q,T,r⟩:=HO.1.cells (by omega);rw[q];obtain⟨c0,c1,c2,D⟩:=(r k g).keep (f.1.mono hB) b _ _ T;have U:b<wr.heap.size:=by have:=f.1.size;omega
   have V:w.heap.size+1<wr.heap.size:=t.1.lt;replace D:(ofAt c.offs k).name.size<=maxLen:=by unfold maxLen;omega
   have q0:=I (zh wr (Obj.cells #[.string (ofAt c.offs k).name,(ofAt c.offs k).cnt,(ofAt c.offs k).days] 244));have m:=I (t.1.alloc (Obj.cells #[.string (ofAt c.offs k).name,(ofAt c.offs k).cnt,(ofAt c.offs k).days] 244));have d:=I (ztS f.1 (J wr (Obj.cells #[.string (ofAt c.offs k).name,(ofAt c.offs k).cnt,(ofAt c.offs k).days] 244)));have v:=zeR (ofAt c.offs k).name m.1;clear r t q;go_wp2_with fail;refine cb (zdi _ _ D) ?_;cases o:zZ (ofAt c.offs k).name
   . have j:=I (s.1.trans (a.1.trans (ziA g o)));clear v;go_wp2_with fail;go_ret;exact⟨ze j.1.symm,d.1⟩
   cases l:hasB h (ofAt c.offs k).name
   . rw[l]at v;cases G:btwB (ofAt c.offs k).days 1 31
     . have j:=I (s.1.trans (a.1.trans (zkx g o l (by rw[G];rfl))));go_wp2_with fail;refine cb (zab _ _ _ _) ?_;go_wp2_with fail;go_ret;exact⟨ze j.1.symm,d.1⟩
     cases H:btwB (ofAt c.offs k).cnt 1 (ofAt c.offs k).days
     . have j:=I (s.1.trans (a.1.trans (zkx g o l (by rw[H];simp))));go_wp2_with fail;refine cb (zab _ _ _ _) ?_;go_wp2_with fail;refine cb (zab _ _ _ _) ?_;go_wp2_with fail;go_ret;exact⟨ze j.1.symm,d.1⟩
     obtain⟨w2,P1,K,A⟩:=zhs m.1 l;have x:=I K;have y:=I (d.1.grown A d.1.size (by simp));have z:=I (a.1.trans (zrg g o l (by rw[G,H];rfl)));clear K A m d;go_wp2_with fail;refine cb (zab _ _ _ _) ?_;go_wp2_with fail;refine cb (zab _ _ _ _) ?_;go_wp2_with fail;go_roundw
     case rel=>exact⟨k+1,_,by omega,by go_num,z,x,y⟩
     case measure=>simp[intOf];omega
   rw[l]at v;have j:=I (s.1.trans (a.1.trans (zg8 g o l)));go_wp2_with fail;go_ret;exact⟨ze j.1.symm,d.1⟩
 obtain rfl:k=c.offs.length:=by omega
 have j:=I (show za1 c=0 from s.1.trans (a.1.trans (by rw[zt6];rfl)));go_wp2_with fail;go_ret;exact⟨ze j.1.symm,f.1⟩
theorem zg9{l:List zdw}{k:Nat}(a:k<l.length)(h:btwB (coAt l k).scope 1 3=false):zcv (l.drop k)=1:=by
 rw[zmC l k a,zcv,if_pos h]
theorem zkA{l:List zdw}{k:Nat}(a:k<l.length)(h:btwB (coAt l k).scope 1 3=true)(b:valE (coAt l k).ex≠0):zcv (l.drop k)=valE (coAt l k).ex:=by
 rw[zmC l k a,zcv,if_neg (by simp[h]),if_pos b]
theorem zmP{l:List zdw}{k:Nat}(a:k<l.length)(h:btwB (coAt l k).scope 1 3=true)(b:valE (coAt l k).ex=0):zcv (l.drop k)=zcv (l.drop (k+1)):=by
 rw[zmC l k a,zcv,if_neg (by simp[h]),if_neg (by simp[b])]
theorem zkt{l:List zH}{k:Nat}(a:k<l.length)(b:valE (eAt l k)≠0):zds (l.drop k)=valE (eAt l k):=by
 rw[zgz l k a,zds,if_pos b]
theorem zmN{l:List zH}{k:Nat}(a:k<l.length)(b:valE (eAt l k)=0):zds (l.drop k)=zds (l.drop (k+1)):=by
 rw[zgz l k a,zds,if_neg (by simp[b])]
theorem zjd(c:ConM)(p:ConP)(w:World)(h:zcy c=false):
 Calls prog 103 #[aggC c p] w λe a=>e=.returned (.int .i64 5)/\Bw w a:=by
 try delta aggC aggT
 cases b:btwB c.report 0 1440
 . clear h;go_enter func103,ntmps103
   go_wp2_with (go_at_call 151;refine cb (zab _ _ _ _) ?_)
   go_ret;exact⟨rfl,J _ _⟩
 cases d:btwB c.release 0 1440
 . clear h;go_enter func103,ntmps103
   go_wp2_with (go_at_call 151;refine cb (zab _ _ _ _) ?_)
   go_ret;exact⟨rfl,J _ _⟩
 cases f:btwB c.connect 0 1440
 . clear h;go_enter func103,ntmps103
   go_wp2_with (go_at_call 151;refine cb (zab _ _ _ _) ?_)
   go_ret;exact⟨rfl,J _ _⟩
 cases g:btwB c.sit c.connect 1440
 . clear h;go_enter func103,ntmps103
   go_wp2_with (go_at_call 151;refine cb (zab _ _ _ _) ?_)
   go_ret;exact⟨rfl,J _ _⟩
 cases i:btwB c.layover 0 10080
 . clear h;go_enter func103,ntmps103
   go_wp2_with (go_at_call 151;refine cb (zab _ _ _ _) ?_)
   go_ret;exact⟨rfl,J _ _⟩
 cases j:btwB c.nf 0 1439
 . clear h;go_enter func103,ntmps103
   go_wp2_with (go_at_call 151;refine cb (zab _ _ _ _) ?_)
   go_ret;exact⟨rfl,J _ _⟩
 cases k:btwB c.nt 0 1439
 . clear h;go_enter func103,ntmps103
   go_wp2_with (go_at_call 151;refine cb (zab _ _ _ _) ?_)
   go_ret;exact⟨rfl,J _ _⟩
 cases l:btwB c.guar 0 599999
 . clear h;go_enter func103,ntmps103
   go_wp2_with (go_at_call 151;refine cb (zab _ _ _ _) ?_)
   go_ret;exact⟨rfl,J _ _⟩
 simp[zcy,b,d,f,g,i,j,k,l]at h
theorem zjc(c:ConM)(p:ConP)(w:World)(b:zcy c=true)(h:zdP c=false):
 Calls prog 103 #[aggC c p] w λe a=>e=.returned (.int .i64 10)/\Bw w a:=by
 try delta aggC aggT
 simp only[zcy,zt5]at b;obtain⟨⟨⟨⟨⟨⟨⟨d,f⟩,g⟩,i⟩,j⟩,k⟩,l⟩,m⟩:=b;by_cases n:32<c.consts.length
 . clear h;go_enter func103,ntmps103
   go_wp2_with (go_at_call 151;refine cb (zab _ _ _ _) ?_)
   go_ret;exact⟨rfl,J _ _⟩
 by_cases o:40<c.rules.length
 . clear h;go_enter func103,ntmps103
   go_wp2_with (go_at_call 151;refine cb (zab _ _ _ _) ?_)
   go_ret;exact⟨rfl,J _ _⟩
 by_cases q:16<c.costs.length
 . clear h;go_enter func103,ntmps103
   go_wp2_with (go_at_call 151;refine cb (zab _ _ _ _) ?_)
   go_ret;exact⟨rfl,J _ _⟩
 by_cases r:1<c.credit.length
 . clear h;go_enter func103,ntmps103
   go_wp2_with (go_at_call 151;refine cb (zab _ _ _ _) ?_)
   go_ret;exact⟨rfl,J _ _⟩
 by_cases s:16<c.lims.length
 . clear h;go_enter func103,ntmps103
   go_wp2_with (go_at_call 151;refine cb (zab _ _ _ _) ?_)
   go_ret;exact⟨rfl,J _ _⟩
 by_cases t:16<c.offs.length
 . clear h;go_enter func103,ntmps103
   go_wp2_with (go_at_call 151;refine cb (zab _ _ _ _) ?_)
   go_ret;exact⟨rfl,J _ _⟩
 simp[zdP]at h
 omega
theorem zje(c:ConM)(p:ConP)(w:World)(B:Nat)(L:B<=w.heap.size)(ha:zdr B w c p):
 Calls prog 103 #[aggC c p] w λe V=>e=.returned (valG c)/\Bw w V:=by
 try delta aggC aggT
 cases E:zcy c
 . exact(zjd c p w E).mono (by rintro e V ⟨rfl,h⟩;exact⟨ze (by rw[valG,if_pos E]),h⟩)
 cases M:zdP c
 . exact(zjc c p w E M).mono (by rintro e V ⟨rfl,h⟩;exact⟨ze (by rw[valG,if_neg (by simp[E]),if_pos M]),h⟩)
 have X:=I (show valG c=if zcw [] c.consts≠0 then zcw [] c.consts else if zbW [] c.rules≠0 then zbW [] c.rules else if zcv c.costs≠0 then zcv c.costs else if zds c.credit≠0 then zds c.credit else za1 c by rw[valG,if_neg (by simp[E]),if_neg (by simp[M])]);simp only[zcy,zt5]at E;obtain⟨⟨⟨⟨⟨⟨⟨b0,b1⟩,b2⟩,b3⟩,b4⟩,b5⟩,b6⟩,b7⟩:=E;simp only[zdP,zt5,decide_eq_true_eq]at M;obtain⟨⟨⟨⟨⟨s0,s1⟩,s2⟩,s3⟩,s4⟩,s5⟩:=M;have N:=I ha;clear ha;go_enter func103,ntmps103
 go_wp2_with (go_at_call 151;refine cb (zab _ _ _ _) ?_)
 have HC:=I (zcj.new w c p);have Y:=I (J w (objC c p));have P:B<=(w.alloc (objC c p)).heap.size:=by simp;omega
 have Q:=I (N.1.keep (Y.1.mono L));generalize w.alloc (objC c p)=W at*;refine ca (zfu c.consts p.ca p.cc _ B P Q.1.consts) λw1 z=>?_;have n:=I (HC.1.below z);have d:=I (ztS Y.1 z);have t:=n.1.lt;have Z:=zaX n.1;clear z HC Y Q P W b0 b1 b2 b3 b4 b5 b6 b7;by_cases R:zcw [] c.consts=0
 . have F:=I (X.1.trans (if_neg (by simpa using R)));clear X;rw[R];go_wp2_with fail;refine ca (zf3 c.rules p.ra p.rc w1 B (by have:=d.1.size;omega) (N.1.keep (d.1.mono L)).rules) λw2 z=>?_;have A:=I (n.1.below z);have G:=I (ztS d.1 z);clear z n d Z t R;have t:=A.1.lt;have d9:=zbr A.1;by_cases S:zbW [] c.rules=0
   . have C:=I (F.1.trans (if_neg (by simpa using S)));clear F;rw[S];go_wp2_with fail;clear d9 t S;go_loopw [86] (λi wr=>∃(k:Nat),k<=c.costs.length/\i=.int .i64 k/\ztR (zcv c.costs=zcv (c.costs.drop k))/\ztR (zcj wr w.heap.size c p)/\ztR (Bw w wr)) (λi _=>c.costs.length-(intOf i).toNat)
     case atStart=>exact⟨0,ztX _,rfl,I rfl,A,G⟩
     clear A G;obtain⟨k,hk,rfl,f,l,a⟩:=hrel;by_cases q:k<c.costs.length
     . obtain⟨b,a0,u,z,v⟩:=N.1.costs.cells (by omega);rw[u];obtain⟨c0,sw,D,g,⟨c1,c2,c3,c4⟩,r,m⟩:=(v k q).keep (a.1.mono L) b _ _ z;have a1:b<wr.heap.size:=by have:=a.1.size;omega
       have HF:=I r;have x:=I (m.keep ((J wr (Obj.cells #[(coAt c.costs k).scope,(coAt c.costs k).ex.op,(coAt c.costs k).ex.num,.string (coAt c.costs k).ex.name,.slice D (coAt c.costs k).ex.args.length g] 90)).mono (by have:=a.1.size;omega)));have n:=I (l.1.below (J wr (Obj.cells #[(coAt c.costs k).scope,(coAt c.costs k).ex.op,(coAt c.costs k).ex.num,.string (coAt c.costs k).ex.name,.slice D (coAt c.costs k).ex.args.length g] 90)));have d:=I (ztS a.1 (J wr (Obj.cells #[(coAt c.costs k).scope,(coAt c.costs k).ex.op,(coAt c.costs k).ex.num,.string (coAt c.costs k).ex.name,.slice D (coAt c.costs k).ex.args.length g] 90)));clear v u l m r sw;go_wp2_with fail;refine cb (zeZ _ _) ?_;cases e0:btwB (coAt c.costs k).scope 1 3
       . have j:=I (show valG c=1 from C.1.trans (by rw[f.1,zg9 q e0];rfl));go_wp2_with fail;go_ret;exact⟨ze j.1.symm,d.1⟩
       go_wp2_with fail;refine ca (zbB (coAt c.costs k).ex D g _ B (by have:=d.1.size;omega) HF.1 x.1) λw3 o=>?_;have H:=I (n.1.below o);have s:=I (ztS d.1 o);clear o n d x c0 c1 c2 c3 c4;by_cases y:valE (coAt c.costs k).ex=0
       . have j:=I (f.1.trans (zmP q e0 y));rw[y];go_wp2_with fail;go_roundw
         case rel=>exact⟨k+1,by omega,by go_num,j,H,s⟩
         case measure=>simp[intOf];omega
       have j:=I (show valG c=valE (coAt c.costs k).ex from C.1.trans (by rw[f.1,zkA q e0 y,if_pos y]));have e4:(valE (coAt c.costs k).ex !=0)=true:=by simpa using y
       go_wp2_with fail;go_ret;exact⟨ze j.1.symm,s.1⟩
     obtain rfl:k=c.costs.length:=by omega
     have T:=I (show valG c=if zds c.credit≠0 then zds c.credit else za1 c from C.1.trans (by rw[f.1,zt6];rfl));have K:=zbb l.1;have t:=l.1.lt;clear C f hk q;go_wp2_with fail;clear K t;obtain⟨w0,rfl⟩:∃w0:World,w0=wr:=⟨_,rfl⟩;go_loopw [104] (λi wr=>∃(k:Nat),k<=c.credit.length/\i=.int .i64 k/\ztR (zds c.credit=zds (c.credit.drop k))/\ztR (zcj wr w.heap.size c p)/\ztR (Bw w wr)) (λi _=>c.credit.length-(intOf i).toNat)
     case atStart=>exact⟨0,ztX _,rfl,I rfl,l,a⟩
     clear l a;obtain⟨k,hk,rfl,f,l,a⟩:=hrel;by_cases q:k<c.credit.length
     . obtain⟨b,a0,u,z,v⟩:=N.1.credit.cells (by omega);rw[u];obtain⟨D,g,a7,⟨c0,c1,c2,c3⟩,r,m⟩:=(v.keep (a.1.mono L)).at k q;have a1:b<wr.heap.size:=by have:=a.1.size;omega
       have HF:=I r;have x:=I (m.keep ((J wr (Obj.cells #[(eAt c.credit k).op,(eAt c.credit k).num,.string (eAt c.credit k).name,.slice D (eAt c.credit k).args.length g] 86)).mono (by have:=a.1.size;omega)));have n:=I (l.1.below (J wr (Obj.cells #[(eAt c.credit k).op,(eAt c.credit k).num,.string (eAt c.credit k).name,.slice D (eAt c.credit k).args.length g] 86)));have d:=I (ztS a.1 (J wr (Obj.cells #[(eAt c.credit k).op,(eAt c.credit k).num,.string (eAt c.credit k).name,.slice D (eAt c.credit k).args.length g] 86)));clear v u l m r;go_wp2_with fail;refine ca (zbB (eAt c.credit k) D g _ B (by have:=d.1.size;omega) HF.1 x.1) λw3 o=>?_;have H:=I (n.1.below o);have s:=I (ztS d.1 o);clear o n d x c0 c1 c2 c3;by_cases y:valE (eAt c.credit k)=0
       . have j:=I (f.1.trans (zmN q y));rw[y];go_wp2_with fail;go_roundw
         case rel=>exact⟨k+1,by omega,by go_num,j,H,s⟩
         case measure=>simp[intOf];omega
       have j:=I (show valG c=valE (eAt c.credit k) from T.1.trans (by rw[f.1,zkt q y,if_pos y]));have e4:(valE (eAt c.credit k) !=0)=true:=by simpa using y
       go_wp2_with fail;go_ret;exact⟨ze j.1.symm,s.1⟩
     obtain rfl:k=c.credit.length:=by omega
     have a3:=I (show valG c=za1 c from T.1.trans (by rw[f.1,zt6];rfl));have t:=l.1.lt;have d0:=zw l.1;have d1:=zu l.1;have d2:=zC l.1;have d3:=zaj l.1;have d4:=zbe l.1;have d5:=zbn l.1;have d6:=zbm l.1;have d7:=zaK l.1;have Z:=zaX l.1;have d9:=zbr l.1;have K:=zbb l.1;have a4:=zby l.1;have a5:=zbx l.1;have a6:=zcq l.1;go_wp2_with fail;have U:=I (N.1.keep (a.1.mono L));refine ca (zfa c p wr B (by have:=a.1.size;omega) U.1.lims U.1.offs) λw3 o=>?_;have s:=I (ztS a.1 o);clear o d0 d1 d2 d3 d4 d5 d6 d7 Z d9 K a4 a5 a6;go_wp2_with fail;go_ret;exact⟨ze a3.1.symm,s.1⟩
   have j:=I (F.1.trans (if_pos S));have e4:(zbW [] c.rules !=0)=true:=by simpa using S
   go_wp2_with fail;go_ret;exact⟨ze j.1.symm,G.1⟩
 have j:=I (X.1.trans (if_pos R));have e4:(zcw [] c.consts !=0)=true:=by simpa using R
 go_wp2_with fail;go_ret;exact⟨ze j.1.symm,d.1⟩
theorem zbZ{w:World}{q:Nat}{c:ConM}{p:ConP}(h:w.heap[q]?=some (objC c p)):w.cell? ⟨q,0,none⟩=some (.int .i64 c.report)/\w.cell? ⟨q,1,none⟩=some (.int .i64 c.release)/\w.cell? ⟨q,2,none⟩=some (.int .i64 c.connect)/\w.cell? ⟨q,3,none⟩=some (.int .i64 c.sit)/\w.cell? ⟨q,4,none⟩=some (.int .i64 c.layover)/\w.cell? ⟨q,5,none⟩=some (.int .i64 c.nf)/\w.cell? ⟨q,6,none⟩=some (.int .i64 c.nt)/\w.cell? ⟨q,7,none⟩=some (.slice p.ca c.consts.length p.cc)/\w.cell? ⟨q,8,none⟩=some (.slice p.ra c.rules.length p.rc)/\w.cell? ⟨q,9,none⟩=some (.slice p.ka c.costs.length p.kc)/\w.cell? ⟨q,10,none⟩=some (.slice p.xa c.credit.length p.xc)/\w.cell? ⟨q,11,none⟩=some (.slice p.la c.lims.length p.lc)/\w.cell? ⟨q,12,none⟩=some (.slice p.oa c.offs.length p.oc)/\w.cell? ⟨q,13,none⟩=some (.int .i64 c.guar)/\q<w.heap.size:=⟨zm (j:=0) h rfl,zm (j:=1) h rfl,zm (j:=2) h rfl,zm (j:=3) h rfl,zm (j:=4) h rfl,zm (j:=5) h rfl,zm (j:=6) h rfl,zm (j:=7) h rfl,zm (j:=8) h rfl,zm (j:=9) h rfl,zm (j:=10) h rfl,zm (j:=11) h rfl,zm (j:=12) h rfl,zm (j:=13) h rfl,ztW h⟩
theorem zdn{w:World}{q:Nat}{t:TTM}{a:zua}{b:Nat}{c:zua}{d:Nat}{fa:zua}{fc:Nat}(h:w.heap[q]?=some (objT t a b c d fa fc)):w.cell? ⟨q,0,none⟩=some (.slice a t.zones.length b)/\w.cell? ⟨q,1,none⟩=some (.slice c t.airs.length d)/\w.cell? ⟨q,2,none⟩=some (.slice fa t.fls.length fc)/\q<w.heap.size:=⟨zm (j:=0) h rfl,zm (j:=1) h rfl,zm (j:=2) h rfl,ztW h⟩
abbrev oE(X:zH)(A:zua)(C:Nat):Obj:=.cells #[.int .i64 X.op,.int .i64 X.num,.string X.name,.slice A X.args.length C] 86
abbrev oR(X:zcx)(A:zua)(C:Nat):Obj:=.cells #[.int .i64 X.scope,.string X.name,.int .i64 X.ex.op,.int .i64 X.ex.num,.string X.ex.name,.slice A X.ex.args.length C] 88
abbrev oRx(n:Int)(s:ByteArray)(X:zH)(A:zua)(C:Nat):Obj:=.cells #[.int .i64 n,.string s,.int .i64 X.op,.int .i64 X.num,.string X.name,.slice A X.args.length C] 88
abbrev oK(X:zdw)(A:zua)(C:Nat):Obj:=.cells #[.int .i64 X.scope,.int .i64 X.ex.op,.int .i64 X.ex.num,.string X.ex.name,.slice A X.ex.args.length C] 90
abbrev oKx(n:Int)(X:zH)(A:zua)(C:Nat):Obj:=.cells #[.int .i64 n,.int .i64 X.op,.int .i64 X.num,.string X.name,.slice A X.args.length C] 90
abbrev oN(X:zB)(A:zua)(C:Nat):Obj:=.cells #[.string X.name,.int .i64 X.ex.op,.int .i64 X.ex.num,.string X.ex.name,.slice A X.ex.args.length C] 112
abbrev oL(X:LimM):Obj:=.cells #[.string X.name,.string X.meas,.int .i64 X.most,.int .i64 X.days] 242
abbrev oO(X:OffM):Obj:=.cells #[.string X.name,.int .i64 X.cnt,.int .i64 X.days] 244
abbrev oS(t:TTM)(a:zua)(b:Nat)(c:zua)(d:Nat)(e:zua)(f:Nat)(C:ConM)(P:ConP)(m:Option Nat):Obj:=.cells #[.slice a t.zones.length b,.slice c t.airs.length d,.slice e t.fls.length f,.int .i64 C.report,.int .i64 C.release,.int .i64 C.connect,.int .i64 C.sit,.int .i64 C.layover,.int .i64 C.nf,.int .i64 C.nt,.slice P.ca C.consts.length P.cc,.slice P.ra C.rules.length P.rc,.slice P.ka C.costs.length P.kc,.slice P.xa C.credit.length P.xc,.slice P.la C.lims.length P.lc,.slice P.oa C.offs.length P.oc,.int .i64 C.guar,Value.map m,.slice none 0 0,.slice none 0 0,.slice none 0 0,.slice none 0 0,.slice none 0 0,.slice none 0 0,.slice none 0 0,.slice none 0 0,.slice none 0 0,.bool false] 123
end Go.Proofs.YtbhhejkolnigfaaGreat
