/- a part of the proof -/
import Derived.Test.YtbhhejkolnigfaaGreatG3
set_option linter.unusedVariables false
set_option linter.unusedSimpArgs false
set_option maxRecDepth 100000
set_option maxHeartbeats 51200000
namespace Go.Proofs.YtbhhejkolnigfaaGreat
open Go.RowKit Go.Sort Go.Proofs.Tryz
theorem zgy(c:UInt8):∀(l:List UInt8) (k:Nat),k<l.length->(∀j,j<k->l.getD j 0≠c)->l.getD k 0=c->Lib.indexByte l c=k
 |[],k,h,_,_=>by simp at h
 |b::l,0,_,_,h=>by
  have:b=c:=by simpa using h
  simp[Lib.indexByte,this]
 |b::l,k+1,h,h1,h2=>by
  have d:b≠c:=by simpa using h1 0 (by omega)
  have a:=zgy c l k (by simpa using h) (λj hj=>by simpa using h1 (j+1) (by omega)) (by simpa using h2);rw[Lib.indexByte,if_neg (by simpa using d),if_neg (by rw[a];simp),a];omega
theorem zgw(c:UInt8):∀(l:List UInt8),(∀j,j<l.length->l.getD j 0≠c)->Lib.indexByte l c=-1
 |[],_=>rfl
 |b::l,h=>by
  have a:b≠c:=by simpa using h 0 (by simp)
  have d:=zgw c l (λj hj=>by simpa using h (j+1) (by simpa using hj));rw[Lib.indexByte,if_neg (by simpa using a),if_pos (by rw[d];rfl)]
def NoPt(s:ByteArray)(k:Nat):Prop:=∀j,j<k->s.data.toList.getD j 0≠46
theorem NoPt.step{s:ByteArray}{k:Nat}(h:NoPt s k)(a:k<s.size)(e:¬ (s[k].toNat:Int)=46):NoPt s (k+1):=by
 intro j d;by_cases b:j=k
 . subst b;rw[zeB s j a];intro c;rw[c]at e;exact e rfl
 exact h j (by omega)
theorem NoPt.hit{s:ByteArray}{k:Nat}(h:NoPt s k)(a:k<s.size)(e:(s[k].toNat:Int)=46):ptI s=k:=by
 refine zgy 46 _ k (by simpa using a) h ?_;rw[zeB s k a];exact UInt8.toNat_inj.1 (by show s[k].toNat=46;omega)
theorem NoPt.all{s:ByteArray}(h:NoPt s s.size):ptI s=-1:=zgw 46 _ (λj hj=>h j (by simpa using hj))
theorem zhJ(s:ByteArray)(w:World)(f:s.size<=140737488355328):Calls prog 225 #[.string s,.int .u8 46] w λe w'=>e=.returned (ptI s)/\w=w':=by
 go_enter func225,ntmps225
 go_wp2_with fail;go_loop [5] (λi=>∃k:Nat,k<=s.size/\i=.int .i64 k/\ztR (NoPt s k)) (λi=>s.size-(intOf i).toNat)
 case atStart=>exact⟨0,ztX _,rfl,I (λj h=>absurd h (Nat.not_lt_zero _))⟩
 obtain⟨k,g,rfl,a⟩:=hrel;by_cases b:k<s.size
 . by_cases e:(s[k].toNat:Int)=46
   . have c:=I (a.1.hit b e);have d:((s[k].toNat:Int)==46)=true:=by simpa using e
     clear e;go_wp2_with fail;go_ret;exact⟨ze c.1.symm,rfl⟩
   have c:=I (a.1.step b e);have d:((s[k].toNat:Int)==46)=false:=by simpa using e
   clear e;go_wp2_with fail;go_round
   case rel=>exact⟨k+1,by omega,by go_num,c⟩
   case measure=>simp[intOf];omega
 obtain rfl:k=s.size:=by omega
 have c:=I a.1.all;go_wp2_with fail;go_ret;exact⟨ze c.1.symm,rfl⟩
def resB:List ByteArray:= [⟨#[97,110,100]⟩,⟨#[111,114]⟩,⟨#[110,111,116]⟩,⟨#[105,109,112,108,105,101,115]⟩,⟨#[105,110]⟩,⟨#[116,111]⟩,⟨#[116,114,117,101]⟩,⟨#[102,97,108,115,101]⟩,⟨#[109,105,110]⟩,⟨#[109,97,120]⟩,⟨#[105,102]⟩,⟨#[116,104,101,110]⟩,⟨#[101,108,115,101]⟩]
theorem zrs:∀k,k<13->zeO.drop k=(sAt resB k).data.toList::zeO.drop (k+1):=by decide
theorem zjs(s:ByteArray)(w:World):Calls prog 200 #[.string s] w λe w'=>e=.returned (.bool (zcl s))/\Bw w w':=by
 go_enter func200,ntmps200
 go_wp2_with fail;have g:ztR (zai (w.alloc jD) w.heap.size 0 resB):=I (zai.new w resB 9);have f:=I (J w jD);have l:w.heap.size<(w.alloc jD).heap.size:=by simp
 generalize w.alloc jD=W at*;go_loop [4] (λi=>∃k:Nat,k<=13/\i=.int .i64 k/\ztR (zcl s=zN (zeO.drop k) s)) (λi=>13-(intOf i).toNat)
 case atStart=>exact⟨0,ztX _,rfl,I rfl⟩
 obtain⟨k,m,rfl,a⟩:=hrel;by_cases b:k<13
 . have j:=g.1 k b;rw[Nat.zero_add]at j;have d:=zrs k b;cases e:((sAt resB k).toList==s.toList)
   . have c:=I (show zcl s=zN (zeO.drop (k+1)) s from a.1.trans (by
      rw[d,zN,List.any_cons,<-Lib.toList_data];have:(s.toList==(sAt resB k).toList)=false:=by rw[beq_eq_false_iff_ne]at e ⊢;exact λh=>e h.symm
      rw[this];rfl))
     clear d a;go_wp2_with fail;go_round
     case rel=>exact⟨k+1,by omega,by go_num,c⟩
     case measure=>simp[intOf];omega
   have c:=I (show zcl s=true from a.1.trans (by
    rw[d,zN,List.any_cons,<-Lib.toList_data];have:(s.toList==(sAt resB k).toList)=true:=by rw[beq_iff_eq]at e ⊢;exact e.symm
    rw[this];rfl))
   clear d a;go_wp2_with fail;go_ret;exact⟨zz c.1.symm,f.1⟩
 obtain rfl:k=13:=by omega
 have c:=I (show zcl s=false from a.1);go_wp2_with fail;go_ret;exact⟨zz c.1.symm,f.1⟩
theorem zey(s:ByteArray)(w:World)(c:s.size<=maxLen):Calls prog 173 #[.string s] w λe a=>e=.returned (.bool (zZ s))/\Bw w a:=by
 cases d:zb0 s.data.toList
 . have b:=I (show zZ s=false by rw[zZ,d];rfl);go_enter func173,ntmps173
   go_wp2_with (go_at_call 164;refine cb (zU _ _ c) ?_)
   go_ret;exact⟨zz b.1.symm,ztT _ _⟩
 have b:=I (show zZ s=!zcl s by rw[zZ,d];rfl);go_enter func173,ntmps173
 go_wp2_with (go_at_call 164;refine cb (zU _ _ c) ?_)
 refine ca (zjs s _) λg f=>?_;go_wp2_with fail;go_ret;exact⟨zz b.1.symm,f⟩
theorem ze5(s:ByteArray)(w:World)(f:s.size<=140737488355328):Calls prog 217 #[.string s] w λe b=>e=.returned (.bool (zgM s))/\Bw w b:=by
 have i:=zsi s;have n:s.size<=maxLen:=by unfold maxLen;omega
 by_cases a:0<=ptI s
 . obtain⟨k,g⟩:=Int.eq_ofNat_of_zero_le a;have o:k<s.size:=by omega
   have c:=I g;have j:zgM s=(zb0 (s.data.toList.take k)&&zb0 (s.data.toList.drop (k+1))):=by rw[zgM,if_pos a,g];rfl
   have d:=I j;have l:(s.extract 0 k).size<=maxLen:=by unfold maxLen;simp;omega
   have p:(s.extract (k+1) s.size).size<=maxLen:=by unfold maxLen;simp;omega
   clear g j a i;have q:=I (show List.take (s.size-(k+1)) (List.drop (k+1) s.data.toList)=List.drop (k+1) s.data.toList from List.take_of_length_le (by simp));cases m:zb0 (List.take k s.data.toList)
   . go_enter func217,ntmps217
     go_wp2_with fail;refine cb (zhJ s w f) ?_;rw[c.1];go_wp2_with fail;refine cb (zU _ _ l) ?_;go_wp2_with fail;go_ret;exact⟨zz (by rw[d.1,m];rfl),ztT _ _⟩
   go_enter func217,ntmps217
   go_wp2_with fail;refine cb (zhJ s w f) ?_;rw[c.1];go_wp2_with fail;refine cb (zU _ _ l) ?_;go_wp2_with fail;refine cb (zU _ _ p) ?_;go_wp2_with fail;go_ret;exact⟨zz (by rw[d.1,m,q.1];rfl),ztT _ _⟩
 have c:=I (show ptI s=-1 by omega);have d:=I (show zgM s=zZ s from if_neg a);clear a i;go_enter func217,ntmps217
 go_wp2_with fail;refine cb (zhJ s w f) ?_;rw[c.1];go_wp2_with fail;refine ca (zey _ _ n) λh r=>?_;go_wp2_with fail;go_ret;exact⟨zz d.1.symm,r⟩
theorem zS(n a b:Int)(w:World):Calls prog 172 #[n,a,b] w λe w'=>e=.returned (.bool (btwB n a b))/\w=w':=by
 by_cases h:a<=n
 all_goals
  go_enter func172,ntmps172
  go_wp2_with fail
  all_goals (go_ret;exact⟨zz (by first|(simp[btwB,h];done)|(simp[btwB];omega)),rfl⟩)
def zla(s:ByteArray):Int:=if zN zgU s=true then 2 else if zN zjG s=true then 1 else 0
theorem zhz(s:ByteArray):zla s=0 ↔ zf9 s=0:=by
 unfold zla zf9;repeat (first|split|simp)
theorem zdz(s:ByteArray)(w:World):Calls prog 203 #[.string s] w λe w'=>e=.returned (zla s)/\w=w':=by
 go_enter func203,ntmps203
 go_wp2_with fail
 all_goals (go_ret;exact⟨ze (by first|(simp only[zla,zN,zgU,zjG,List.any_cons,List.any_nil, *];rfl)|simp_all),rfl⟩)
def arLo(o:Int):Int:=if(o==1)=true then 0 else if(o==2)=true then 0 else if(o==3)=true then 0 else if(o==4)=true then 0 else if(o==5)=true then 0 else if(o==6)=true then 0 else if(o==7)=true then 1 else if(o==19)=true then 1 else if(o==12)=true then 2 else if(o==13)=true then 2 else if(o==14)=true then 3 else if(o==15)=true then 3 else 2
def arHi(o:Int):Int:=if(o==1)=true then 0 else if(o==2)=true then 0 else if(o==3)=true then 0 else if(o==4)=true then 0 else if(o==5)=true then 0 else if(o==6)=true then 0 else if(o==7)=true then 1 else if(o==19)=true then 1 else if(o==12)=true then 200 else if(o==13)=true then 200 else if(o==14)=true then 3 else if(o==15)=true then 3 else 2
theorem zao(o:Int)(w:World):Calls prog 216 #[o] w λe w'=>e=.returned (.tuple #[(arLo o),(arHi o)])/\w=w':=by
 go_enter func216,ntmps216
 go_wp2_with fail
 all_goals (go_ret2;exact⟨by simp_all [arLo,arHi],rfl⟩)
mutual
theorem zlU(x:zH):∀a:Nat,a<=17->(sizR a x).1<=201*(18-a)/\(sizR a x).2<=18-a:=by
 intro a b;cases x with
 |mk o m s l=>
  rw[sizR];by_cases h:16<a
  . rw[if_pos h];simp only;omega
  rw[if_neg h];have:=zpl l (a+1) 1 1 (by omega) (by omega) (by omega);omega
theorem zpl(l:List zH):∀a n d:Nat,a<=17->n<=200+201*(18-a)->d<=19-a->(sizL a n d l).1<=200+201*(18-a)/\(sizL a n d l).2<=19-a:=by
 intro a n d b c e;cases l with
 |nil=>rw[sizL];exact⟨c,e⟩
 |cons x l=>
  rw[sizL];have f:=zlU x a b;by_cases h:n<=200
  . rw[if_pos h];exact zpl l a _ _ b (by omega) (by omega)
  rw[if_neg h];exact⟨c,e⟩
end
theorem zsD{l:List zH}{k a n d:Nat}(b:k<l.length)(c:n<=200):sizL a n d (l.drop k)=sizL a (n+(sizR a (eAt l k)).1) (max d ((sizR a (eAt l k)).2+1)) (l.drop (k+1)):=by rw[zgz l k b,sizL,if_pos c]
theorem zpk{l:List zH}{k a n d:Nat}(b:k<l.length)(c:¬ n<=200):sizL a n d (l.drop k)=(n,d):=by rw[zgz l k b,sizL,if_neg c]
def ztI(B:Nat)(x:zH):Prop:=∀(lv:Nat) (a:zua) (cap:Nat) (w:World),lv<=17->B<=w.heap.size->x.args.length<=140737488355328->zaz B w a x.args->Calls prog 215 #[.agg #[x.op,x.num,.string x.name,.slice a x.args.length cap],lv] w λe w'=>e=.returned (.tuple #[.int .i64 ((sizR lv x).1:Nat),.int .i64 ((sizR lv x).2:Nat)])/\Below w.heap.size w w'
theorem znM(B:Nat)(o n:Int)(s:ByteArray)(l:List zH)(N:∀k,k<l.length->ztI B (eAt l k)):ztI B (.mk o n s l):=by
 intro f a h w P p Q E;simp only[zH.op,zH.num,zH.name,zH.args]at Q E ⊢;have R:=I N;have S:=I E;clear N E;by_cases r:16<f
 . have C:=I (show sizR f (.mk o n s l)=(1,1) by rw[sizR,if_pos r]);go_enter func215,ntmps215
   go_wp2_with fail;go_ret2;exact⟨by rw[C.1];rfl,J _ _⟩
 have C:=I (show sizR f (.mk o n s l)=sizL (f+1) 1 1 l by rw[sizR,if_neg r]);go_enter func215,ntmps215
 go_wp2_with fail;have T:=I (J w (oEg o n s a l.length h));have U:=I (zh w (oEg o n s a l.length h));generalize w.alloc (oEg o n s a l.length h)=W at*;go_loopw [6,7,8] (λm dp i wr=>∃(k z d:Nat),k<=l.length/\i=.int .i64 k/\m=.int .i64 z/\dp=.int .i64 d/\z<=200+201*(18-(f+1))/\d<=19-(f+1)/\ztR (sizL (f+1) 1 1 l=sizL (f+1) z d (l.drop k))/\ztR (wr.heap[w.heap.size]?=some (oEg o n s a l.length h))/\ztR (Bw w wr)) (λ_ _ i _=>l.length-(intOf i).toNat)
 case atStart=>exact⟨0,1,1,ztX _,rfl,rfl,rfl,by omega,by omega,I rfl,U,T⟩
 obtain⟨k,z,d,hk,rfl,rfl,rfl,V,X,F,D,c⟩:=hrel;have q3:=zaj D.1;have ql:=ztW D.1;by_cases j:k<l.length
 . by_cases t:z<=200
   . obtain⟨b,Y,rfl,hb,u⟩:=S.1.cells (by omega);obtain⟨Z,v,G,⟨c0,c1,c2,c3⟩,x,g⟩:=(u.keep (c.1.mono p)).at k j;have y:=I g;have a0:b<wr.heap.size:=ztU G (ztV p c.1.size);have bd:=zlU (eAt l k) (f+1) (by omega);have H:=I (F.1.trans (zsD j t));have A:((f+1:Nat):Int)=(f:Int)+1:=by omega
     clear u g;go_wp2_with fail;have K:=I (R.1 k j (f+1) Z v wr (by omega) (ztV p c.1.size) x.2.1 y.1);rw[A]at K;refine K.1.mono ?_;rintro e w1 ⟨rfl,q⟩;have L:=I (ztS c.1 q);have Q1:=I ((q.block _ (ztW D.1)).trans D.1);clear q c0 c1 c2 c3 y K;generalize (sizR (f+1) (eAt l k)).1=z1 at*;generalize (sizR (f+1) (eAt l k)).2=d1 at*;go_wp2_with fail;go_roundw
     case rel=>exact⟨k+1,z+z1,max d (d1+1),by omega,by go_num,by go_num,by first|go_num|(congr 1;split <;> omega),by omega,by omega,H,Q1,L⟩
     case measure=>simp[intOf];omega
   have M:=I (C.1.trans (F.1.trans (zpk j t)));go_wp2_with fail;go_ret2;exact⟨by rw[M.1];rfl,c.1⟩
 obtain rfl:k=l.length:=by omega
 have M:=I (C.1.trans (F.1.trans (by rw[zt6,sizL])));go_wp2_with fail;go_ret2;exact⟨by rw[M.1];rfl,c.1⟩
theorem zpj(B:Nat)(x:zH):ztI B x:=by
 obtain⟨m,a⟩:∃m,m=SizeOf.sizeOf x:=⟨_,rfl⟩;induction m using Nat.strongRecOn generalizing x with
 |_ m ih=>
  subst a;obtain⟨o,n,s,l⟩:=x;exact znM B o n s l λk hk=>ih _ (zbM (x:=.mk o n s l) hk) _ rfl
def zjF(o:Int):Int:=if(o==1)=true then 1099511627776 else if(o==2)=true then 1099511627776 else if(o==3)=true then 1439 else 0
theorem zgi{o:Int}{k:Nat}(f:k<=200):zL o k=btwB k (arLo o) (arHi o):=by
 unfold zL arLo arHi btwB
 cases g:(o==1)
 case true=>simp only[if_true];rw[Bool.eq_iff_iff];simp <;> omega
 simp only[zt4,if_false];cases h:(o==2)
 case true=>simp only[if_true];rw[Bool.eq_iff_iff];simp <;> omega
 simp only[zt4,if_false];cases i:(o==3)
 case true=>simp only[if_true];rw[Bool.eq_iff_iff];simp <;> omega
 simp only[zt4,if_false];cases j:(o==4)
 case true=>simp only[if_true];rw[Bool.eq_iff_iff];simp <;> omega
 simp only[zt4,if_false];cases l:(o==5)
 case true=>simp only[if_true];rw[Bool.eq_iff_iff];simp <;> omega
 simp only[zt4,if_false];cases m:(o==6)
 case true=>simp only[if_true];rw[Bool.eq_iff_iff];simp <;> omega
 simp only[zt4,if_false];cases n:(o==7)
 case true=>simp only[if_true];rw[Bool.eq_iff_iff];simp <;> omega
 simp only[zt4,if_false];cases a:(o==19)
 case true=>simp only[if_true];rw[Bool.eq_iff_iff];simp <;> omega
 simp only[zt4,if_false];cases b:(o==12)
 case true=>simp only[if_true];rw[Bool.eq_iff_iff];simp <;> omega
 simp only[zt4,if_false];cases c:(o==13)
 case true=>simp only[if_true];rw[Bool.eq_iff_iff];simp <;> omega
 simp only[zt4,if_false];cases d:(o==14)
 case true=>simp only[if_true];rw[Bool.eq_iff_iff];simp <;> omega
 simp only[zt4,if_false];cases e:(o==15)
 case true=>simp only[if_true];rw[Bool.eq_iff_iff];simp <;> omega
 simp only[zt4,if_false];rw[Bool.eq_iff_iff];simp <;> omega
theorem zdX(o n:Int):zep o n=btwB n 0 (zjF o):=by
 unfold zep zjF
 repeat' split
 all_goals first|rfl|(rw[Bool.eq_iff_iff];simp[btwB];omega)
theorem zbv{o n:Int}{s:ByteArray}{k:Nat}(a:k<=200)(h:o<1\/22<o\/(k:Int)<arLo o\/arHi o<k\/n<0\/zjF o<n\/nmB o s=false):zcR o n s k=false:=by
 rw[zcR,zgi a,zdX];unfold btwB
 rcases h with h|h|h|h|h|h|h
 all_goals first|(rw[h];simp)|(have:¬ (0:Int)=1:=by decide
                               simp;omega)
def zq7(B:Nat)(x:zH):Prop:=∀(a:zua) (cap:Nat) (w:World),cntE x<=200->B<=w.heap.size->za2 x->zaz B w a x.args->Calls prog 202 #[.agg #[x.op,x.num,.string x.name,.slice a x.args.length cap]] w λe w'=>e=.returned (.bool (wfE x))/\Below w.heap.size w w'
theorem zeV:∀{l:List zH} {k:Nat},k<l.length->cntE (eAt l k)<=cntL l
 |[],k,h=>by simp at h
 |x::l,0,_=>by rw[cntL];show cntE x<=_;omega
 |x::l,k+1,h=>by
  have:=zeV (l:=l) (k:=k) (by simpa using h);rw[cntL];show cntE (eAt l k)<=_;omega
theorem zqS:∀x,1<=cntE x
 | .mk _ _ _ _=>by rw[cntE];omega
theorem zlB:∀(l:List zH),l.length<=cntL l
 |[]=>by simp
 |x::l=>by have:=zlB l;have:=zqS x;rw[cntL,List.length_cons];omega
theorem zof(B:Nat)(o n:Int)(s:ByteArray)(l:List zH)(IH:∀k,k<l.length->zq7 B (eAt l k)):zq7 B (.mk o n s l):=by
 intro a q w a1 t r ha;obtain⟨hs,hl,_,_⟩:=r;simp only[zH.op,zH.num,zH.name,zH.args]at hl ha hs ⊢;have M:cntL l<=200:=by rw[cntE]at a1;omega
 have c:l.length<=200:=ztV (zlB l) M;have HI:=I IH;have HA:=I ha;have u:=I (show wfE (.mk o n s l)=(zcR o n s l.length&&wfL l) by rw[wfE]);clear IH ha a1;by_cases f1:o<1
 . have m:=I (show wfE (.mk o n s l)=false by rw[u.1,zbv c (.inl f1)];rfl);go_enter func202,ntmps202
   go_wp2_with (go_at_call 216;refine cb (zao _ _) ?_)
   go_ret;exact⟨zz m.1.symm,J _ _⟩
 by_cases f2:22<o
 . have m:=I (show wfE (.mk o n s l)=false by rw[u.1,zbv c (.inr (.inl f2))];rfl);go_enter func202,ntmps202
   go_wp2_with (go_at_call 216;refine cb (zao _ _) ?_)
   go_ret;exact⟨zz m.1.symm,J _ _⟩
 by_cases f3:(l.length:Int)<arLo o
 . have m:=I (show wfE (.mk o n s l)=false by rw[u.1,zbv c (.inr (.inr (.inl f3)))];rfl);go_enter func202,ntmps202
   go_wp2_with (go_at_call 216;refine cb (zao _ _) ?_)
   go_ret;exact⟨zz m.1.symm,J _ _⟩
 by_cases f4:arHi o<(l.length:Int)
 . have m:=I (show wfE (.mk o n s l)=false by rw[u.1,zbv c (.inr (.inr (.inr (.inl f4))))];rfl);go_enter func202,ntmps202
   go_wp2_with (go_at_call 216;refine cb (zao _ _) ?_)
   go_ret;exact⟨zz m.1.symm,J _ _⟩
 by_cases o1:o=1
 . subst o1;have f:zjF 1=1099511627776:=by decide
   by_cases P:n<0
   . have m:=I (show wfE (.mk 1 n s l)=false by rw[u.1,zbv c (.inr (.inr (.inr (.inr (.inl P)))))];rfl);go_enter func202,ntmps202
     go_wp2_with (go_at_call 216;refine cb (zao _ _) ?_)
     go_ret;exact⟨zz m.1.symm,J _ _⟩
   by_cases Q:1099511627776<n
   . have m:=I (show wfE (.mk 1 n s l)=false by rw[u.1,zbv c (.inr (.inr (.inr (.inr (.inr (.inl (by rw[f];exact Q)))))))];rfl);go_enter func202,ntmps202
     go_wp2_with (go_at_call 216;refine cb (zao _ _) ?_)
     go_ret;exact⟨zz m.1.symm,J _ _⟩
   cases F:s.toList.isEmpty
   . have g:nmB 1 s=false:=by simpa[nmB] using F
     have m:=I (show wfE (.mk 1 n s l)=false by rw[u.1,zbv c (.inr (.inr (.inr (.inr (.inr (.inr (g)))))))];rfl);clear g;go_enter func202,ntmps202
     go_wp2_with (go_at_call 216;refine cb (zao _ _) ?_)
     go_ret;exact⟨zz m.1.symm,J _ _⟩
   have g:nmB 1 s=true:=by simpa[nmB] using F
   have v:=I (show wfE (.mk 1 n s l)=wfL l by
    rw[u.1];have:zcR 1 n s l.length=true:=by rw[zcR,zgi c,zdX,f,show btwB 1 1 22=true by decide,show btwB (l.length:Int) (arLo 1) (arHi 1)=true by(simp[btwB];omega),show btwB n 0 1099511627776=true by(simp[btwB];omega),g];rfl
    rw[this];rfl)
   clear u g f;go_enter func202,ntmps202
   go_wp2_with (go_at_call 216;refine cb (zao _ _) ?_)
   have G:=J w (oEg 1 n s a l.length q);have N:=I (zh w (oEg 1 n s a l.length q));have R:=I (G);generalize w.alloc (oEg 1 n s a l.length q)=W at*;go_loopw [6] (λi wr=>∃(k:Nat),k<=l.length/\i=.int .i64 k/\ztR (wfL l=wfL (l.drop k))/\ztR (wr.heap[w.heap.size]?=some (oEg 1 n s a l.length q))/\ztR (Bw w wr)) (λi _=>l.length-(intOf i).toNat)
   case atStart=>exact⟨0,ztX _,rfl,I rfl,N,R⟩
   obtain⟨k,hk,rfl,H,D,d⟩:=hrel;have q3:=zaj D.1;have ql:=ztW D.1;by_cases h:k<l.length
   . obtain⟨b,S,rfl,hb,x⟩:=HA.1.cells (by omega);obtain⟨T,y,K,⟨U,V,X,Y⟩,r,j⟩:=(x.keep (d.1.mono t)).at k h;have z:=I j;have Z:b<wr.heap.size:=ztU K (ztV t d.1.size);clear x j;go_wp2_with fail;refine ca (HI.1 k h T y wr (ztV (zeV h) M) (ztV t d.1.size) r z.1) λw1 p=>?_;have A:=I (ztS d.1 p);have Q1:=I ((p.block _ (ztW D.1)).trans D.1);clear p U V X Y z;cases C:wfE (eAt l k)
     . have m:=I (show wfE (.mk 1 n s l)=false by rw[v.1,H.1,zbt l k h,C];rfl);go_wp2_with fail;go_ret;exact⟨zz m.1.symm,A.1⟩
     have L:=I (show wfL l=wfL (l.drop (k+1)) by rw[H.1,zbt l k h,C];rfl);go_wp2_with fail;go_roundw
     case rel=>exact⟨k+1,by omega,by go_num,L,Q1,A⟩
     case measure=>simp[intOf];omega
   obtain rfl:k=l.length:=by omega
   have m:=I (show wfE (.mk 1 n s l)=true by rw[v.1,H.1,zt6,wfL]);go_wp2_with fail;go_ret;exact⟨zz m.1.symm,d.1⟩
 by_cases o2:o=2
 . subst o2;have f:zjF 2=1099511627776:=by decide
   by_cases P:n<0
   . have m:=I (show wfE (.mk 2 n s l)=false by rw[u.1,zbv c (.inr (.inr (.inr (.inr (.inl P)))))];rfl);go_enter func202,ntmps202
     go_wp2_with (go_at_call 216;refine cb (zao _ _) ?_)
     go_ret;exact⟨zz m.1.symm,J _ _⟩
   by_cases Q:1099511627776<n
   . have m:=I (show wfE (.mk 2 n s l)=false by rw[u.1,zbv c (.inr (.inr (.inr (.inr (.inr (.inl (by rw[f];exact Q)))))))];rfl);go_enter func202,ntmps202
     go_wp2_with (go_at_call 216;refine cb (zao _ _) ?_)
     go_ret;exact⟨zz m.1.symm,J _ _⟩
   cases F:s.toList.isEmpty
   . have g:nmB 2 s=false:=by simpa[nmB] using F
     have m:=I (show wfE (.mk 2 n s l)=false by rw[u.1,zbv c (.inr (.inr (.inr (.inr (.inr (.inr (g)))))))];rfl);clear g;go_enter func202,ntmps202
     go_wp2_with (go_at_call 216;refine cb (zao _ _) ?_)
     go_ret;exact⟨zz m.1.symm,J _ _⟩
   have g:nmB 2 s=true:=by simpa[nmB] using F
   have v:=I (show wfE (.mk 2 n s l)=wfL l by
    rw[u.1];have:zcR 2 n s l.length=true:=by rw[zcR,zgi c,zdX,f,show btwB 2 1 22=true by decide,show btwB (l.length:Int) (arLo 2) (arHi 2)=true by(simp[btwB];omega),show btwB n 0 1099511627776=true by(simp[btwB];omega),g];rfl
    rw[this];rfl)
   clear u g f;go_enter func202,ntmps202
   go_wp2_with (go_at_call 216;refine cb (zao _ _) ?_)
   have G:=J w (oEg 2 n s a l.length q);have N:=I (zh w (oEg 2 n s a l.length q));have R:=I (G);generalize w.alloc (oEg 2 n s a l.length q)=W at*;go_loopw [6] (λi wr=>∃(k:Nat),k<=l.length/\i=.int .i64 k/\ztR (wfL l=wfL (l.drop k))/\ztR (wr.heap[w.heap.size]?=some (oEg 2 n s a l.length q))/\ztR (Bw w wr)) (λi _=>l.length-(intOf i).toNat)
   case atStart=>exact⟨0,ztX _,rfl,I rfl,N,R⟩
   obtain⟨k,hk,rfl,H,D,d⟩:=hrel;have q3:=zaj D.1;have ql:=ztW D.1;by_cases h:k<l.length
   . obtain⟨b,S,rfl,hb,x⟩:=HA.1.cells (by omega);obtain⟨T,y,K,⟨U,V,X,Y⟩,r,j⟩:=(x.keep (d.1.mono t)).at k h;have z:=I j;have Z:b<wr.heap.size:=ztU K (ztV t d.1.size);clear x j;go_wp2_with fail;refine ca (HI.1 k h T y wr (ztV (zeV h) M) (ztV t d.1.size) r z.1) λw1 p=>?_;have A:=I (ztS d.1 p);have Q1:=I ((p.block _ (ztW D.1)).trans D.1);clear p U V X Y z;cases C:wfE (eAt l k)
     . have m:=I (show wfE (.mk 2 n s l)=false by rw[v.1,H.1,zbt l k h,C];rfl);go_wp2_with fail;go_ret;exact⟨zz m.1.symm,A.1⟩
     have L:=I (show wfL l=wfL (l.drop (k+1)) by rw[H.1,zbt l k h,C];rfl);go_wp2_with fail;go_roundw
     case rel=>exact⟨k+1,by omega,by go_num,L,Q1,A⟩
     case measure=>simp[intOf];omega
   obtain rfl:k=l.length:=by omega
   have m:=I (show wfE (.mk 2 n s l)=true by rw[v.1,H.1,zt6,wfL]);go_wp2_with fail;go_ret;exact⟨zz m.1.symm,d.1⟩
 by_cases o3:o=3
 . subst o3;have f:zjF 3=1439:=by decide
   by_cases P:n<0
   . have m:=I (show wfE (.mk 3 n s l)=false by rw[u.1,zbv c (.inr (.inr (.inr (.inr (.inl P)))))];rfl);go_enter func202,ntmps202
     go_wp2_with (go_at_call 216;refine cb (zao _ _) ?_)
     go_ret;exact⟨zz m.1.symm,J _ _⟩
   by_cases Q:1439<n
   . have m:=I (show wfE (.mk 3 n s l)=false by rw[u.1,zbv c (.inr (.inr (.inr (.inr (.inr (.inl (by rw[f];exact Q)))))))];rfl);go_enter func202,ntmps202
     go_wp2_with (go_at_call 216;refine cb (zao _ _) ?_)
     go_ret;exact⟨zz m.1.symm,J _ _⟩
   cases F:s.toList.isEmpty
   . have g:nmB 3 s=false:=by simpa[nmB] using F
     have m:=I (show wfE (.mk 3 n s l)=false by rw[u.1,zbv c (.inr (.inr (.inr (.inr (.inr (.inr (g)))))))];rfl);clear g;go_enter func202,ntmps202
     go_wp2_with (go_at_call 216;refine cb (zao _ _) ?_)
     go_ret;exact⟨zz m.1.symm,J _ _⟩
   have g:nmB 3 s=true:=by simpa[nmB] using F
   have v:=I (show wfE (.mk 3 n s l)=wfL l by
    rw[u.1];have:zcR 3 n s l.length=true:=by rw[zcR,zgi c,zdX,f,show btwB 3 1 22=true by decide,show btwB (l.length:Int) (arLo 3) (arHi 3)=true by(simp[btwB];omega),show btwB n 0 1439=true by(simp[btwB];omega),g];rfl
    rw[this];rfl)
   clear u g f;go_enter func202,ntmps202
   go_wp2_with (go_at_call 216;refine cb (zao _ _) ?_)
   have G:=J w (oEg 3 n s a l.length q);have N:=I (zh w (oEg 3 n s a l.length q));have R:=I (G);generalize w.alloc (oEg 3 n s a l.length q)=W at*;go_loopw [6] (λi wr=>∃(k:Nat),k<=l.length/\i=.int .i64 k/\ztR (wfL l=wfL (l.drop k))/\ztR (wr.heap[w.heap.size]?=some (oEg 3 n s a l.length q))/\ztR (Bw w wr)) (λi _=>l.length-(intOf i).toNat)
   case atStart=>exact⟨0,ztX _,rfl,I rfl,N,R⟩
   obtain⟨k,hk,rfl,H,D,d⟩:=hrel;have q3:=zaj D.1;have ql:=ztW D.1;by_cases h:k<l.length
   . obtain⟨b,S,rfl,hb,x⟩:=HA.1.cells (by omega);obtain⟨T,y,K,⟨U,V,X,Y⟩,r,j⟩:=(x.keep (d.1.mono t)).at k h;have z:=I j;have Z:b<wr.heap.size:=ztU K (ztV t d.1.size);clear x j;go_wp2_with fail;refine ca (HI.1 k h T y wr (ztV (zeV h) M) (ztV t d.1.size) r z.1) λw1 p=>?_;have A:=I (ztS d.1 p);have Q1:=I ((p.block _ (ztW D.1)).trans D.1);clear p U V X Y z;cases C:wfE (eAt l k)
     . have m:=I (show wfE (.mk 3 n s l)=false by rw[v.1,H.1,zbt l k h,C];rfl);go_wp2_with fail;go_ret;exact⟨zz m.1.symm,A.1⟩
     have L:=I (show wfL l=wfL (l.drop (k+1)) by rw[H.1,zbt l k h,C];rfl);go_wp2_with fail;go_roundw
     case rel=>exact⟨k+1,by omega,by go_num,L,Q1,A⟩
     case measure=>simp[intOf];omega
   obtain rfl:k=l.length:=by omega
   have m:=I (show wfE (.mk 3 n s l)=true by rw[v.1,H.1,zt6,wfL]);go_wp2_with fail;go_ret;exact⟨zz m.1.symm,d.1⟩
 by_cases o6:o=6
 . subst o6;have f:zjF 6=0:=by decide
   by_cases P:n<0
   . have m:=I (show wfE (.mk 6 n s l)=false by rw[u.1,zbv c (.inr (.inr (.inr (.inr (.inl P)))))];rfl);go_enter func202,ntmps202
     go_wp2_with (go_at_call 216;refine cb (zao _ _) ?_)
     go_ret;exact⟨zz m.1.symm,J _ _⟩
   by_cases Q:0<n
   . have m:=I (show wfE (.mk 6 n s l)=false by rw[u.1,zbv c (.inr (.inr (.inr (.inr (.inr (.inl (by rw[f];exact Q)))))))];rfl);go_enter func202,ntmps202
     go_wp2_with (go_at_call 216;refine cb (zao _ _) ?_)
     go_ret;exact⟨zz m.1.symm,J _ _⟩
   cases a0:zgM s
   . have g:nmB 6 s=false:=by simpa[nmB] using a0
     have m:=I (show wfE (.mk 6 n s l)=false by rw[u.1,zbv c (.inr (.inr (.inr (.inr (.inr (.inr (g)))))))];rfl);clear g;go_enter func202,ntmps202
     go_wp2_with (go_at_call 216;refine cb (zao _ _) ?_)
     refine ca (ze5 s _ hs) λw1 p=>?_;rw[a0];go_wp2_with fail;go_ret;exact⟨zz m.1.symm,ztS (J _ _) p⟩
   have g:nmB 6 s=true:=by simpa[nmB] using a0
   have v:=I (show wfE (.mk 6 n s l)=wfL l by
    rw[u.1];have:zcR 6 n s l.length=true:=by rw[zcR,zgi c,zdX,f,show btwB 6 1 22=true by decide,show btwB (l.length:Int) (arLo 6) (arHi 6)=true by(simp[btwB];omega),show btwB n 0 0=true by(simp[btwB];omega),g];rfl
    rw[this];rfl)
   clear u g f;have a3:=I (zh w (oEg 6 n s a l.length q));go_enter func202,ntmps202
   go_wp2_with (go_at_call 216;refine cb (zao _ _) ?_)
   refine ca (ze5 s _ hs) λw1 p=>?_;rw[a0];have G:=ztS (J w (oEg 6 n s a l.length q)) p;have N:=I ((p.block _ (ztW a3.1)).trans a3.1);clear p a3;have p3:=zaj N.1;have p2:=zC N.1;have p0:=zw N.1;have pl:=ztW N.1;go_wp2_with fail;clear p3 p2 p0 pl;have R:=I (G);go_loopw [6] (λi wr=>∃(k:Nat),k<=l.length/\i=.int .i64 k/\ztR (wfL l=wfL (l.drop k))/\ztR (wr.heap[w.heap.size]?=some (oEg 6 n s a l.length q))/\ztR (Bw w wr)) (λi _=>l.length-(intOf i).toNat)
   case atStart=>exact⟨0,ztX _,rfl,I rfl,N,R⟩
   obtain⟨k,hk,rfl,H,D,d⟩:=hrel;have q3:=zaj D.1;have ql:=ztW D.1;by_cases h:k<l.length
   . obtain⟨b,S,rfl,hb,x⟩:=HA.1.cells (by omega);obtain⟨T,y,K,⟨U,V,X,Y⟩,r,j⟩:=(x.keep (d.1.mono t)).at k h;have z:=I j;have Z:b<wr.heap.size:=ztU K (ztV t d.1.size);clear x j;go_wp2_with fail;refine ca (HI.1 k h T y wr (ztV (zeV h) M) (ztV t d.1.size) r z.1) λw1 p=>?_;have A:=I (ztS d.1 p);have Q1:=I ((p.block _ (ztW D.1)).trans D.1);clear p U V X Y z;cases C:wfE (eAt l k)
     . have m:=I (show wfE (.mk 6 n s l)=false by rw[v.1,H.1,zbt l k h,C];rfl);go_wp2_with fail;go_ret;exact⟨zz m.1.symm,A.1⟩
     have L:=I (show wfL l=wfL (l.drop (k+1)) by rw[H.1,zbt l k h,C];rfl);go_wp2_with fail;go_roundw
     case rel=>exact⟨k+1,by omega,by go_num,L,Q1,A⟩
     case measure=>simp[intOf];omega
   obtain rfl:k=l.length:=by omega
   have m:=I (show wfE (.mk 6 n s l)=true by rw[v.1,H.1,zt6,wfL]);go_wp2_with fail;go_ret;exact⟨zz m.1.symm,d.1⟩
 have e1:(o==1)=false:=by simpa using o1
 have e2:(o==2)=false:=by simpa using o2
 have e3:(o==3)=false:=by simpa using o3
 have e6:(o==6)=false:=by simpa using o6
 have a4:(o !=6)=true:=by simpa using o6
 have f:zjF o=0:=by simp only[zjF,e1,e2,e3,if_false,zt4]
 by_cases P:n<0
 . have m:=I (show wfE (.mk o n s l)=false by rw[u.1,zbv c (.inr (.inr (.inr (.inr (.inl P)))))];rfl);go_enter func202,ntmps202
   go_wp2_with (go_at_call 216;refine cb (zao _ _) ?_)
   go_ret;exact⟨zz m.1.symm,J _ _⟩
 by_cases Q:0<n
 . have m:=I (show wfE (.mk o n s l)=false by rw[u.1,zbv c (.inr (.inr (.inr (.inr (.inr (.inl (by rw[f];exact Q)))))))];rfl);go_enter func202,ntmps202
   go_wp2_with (go_at_call 216;refine cb (zao _ _) ?_)
   go_ret;exact⟨zz m.1.symm,J _ _⟩
 cases F:s.toList.isEmpty
 . have g:nmB o s=false:=by simpa[nmB,e6] using F
   have m:=I (show wfE (.mk o n s l)=false by rw[u.1,zbv c (.inr (.inr (.inr (.inr (.inr (.inr (g)))))))];rfl);clear g;go_enter func202,ntmps202
   go_wp2_with (go_at_call 216;refine cb (zao _ _) ?_)
   go_ret;exact⟨zz m.1.symm,J _ _⟩
 have g:nmB o s=true:=by simpa[nmB,e6] using F
 have v:=I (show wfE (.mk o n s l)=wfL l by
  rw[u.1];have:zcR o n s l.length=true:=by rw[zcR,zgi c,zdX,f,show btwB o 1 22=true by(simp[btwB];omega),show btwB (l.length:Int) (arLo o) (arHi o)=true by(simp[btwB];omega),show btwB n 0 0=true by(simp[btwB];omega),g];rfl
  rw[this];rfl)
 clear u g f;go_enter func202,ntmps202
 go_wp2_with (go_at_call 216;refine cb (zao _ _) ?_)
 have G:=J w (oEg o n s a l.length q);have N:=I (zh w (oEg o n s a l.length q));have R:=I (G);generalize w.alloc (oEg o n s a l.length q)=W at*;go_loopw [6] (λi wr=>∃(k:Nat),k<=l.length/\i=.int .i64 k/\ztR (wfL l=wfL (l.drop k))/\ztR (wr.heap[w.heap.size]?=some (oEg o n s a l.length q))/\ztR (Bw w wr)) (λi _=>l.length-(intOf i).toNat)
 case atStart=>exact⟨0,ztX _,rfl,I rfl,N,R⟩
 obtain⟨k,hk,rfl,H,D,d⟩:=hrel;have q3:=zaj D.1;have ql:=ztW D.1;by_cases h:k<l.length
 . obtain⟨b,S,rfl,hb,x⟩:=HA.1.cells (by omega);obtain⟨T,y,K,⟨U,V,X,Y⟩,r,j⟩:=(x.keep (d.1.mono t)).at k h;have z:=I j;have Z:b<wr.heap.size:=ztU K (ztV t d.1.size);clear x j;go_wp2_with fail;refine ca (HI.1 k h T y wr (ztV (zeV h) M) (ztV t d.1.size) r z.1) λw1 p=>?_;have A:=I (ztS d.1 p);have Q1:=I ((p.block _ (ztW D.1)).trans D.1);clear p U V X Y z;cases C:wfE (eAt l k)
   . have m:=I (show wfE (.mk o n s l)=false by rw[v.1,H.1,zbt l k h,C];rfl);go_wp2_with fail;go_ret;exact⟨zz m.1.symm,A.1⟩
   have L:=I (show wfL l=wfL (l.drop (k+1)) by rw[H.1,zbt l k h,C];rfl);go_wp2_with fail;go_roundw
   case rel=>exact⟨k+1,by omega,by go_num,L,Q1,A⟩
   case measure=>simp[intOf];omega
 obtain rfl:k=l.length:=by omega
 have m:=I (show wfE (.mk o n s l)=true by rw[v.1,H.1,zt6,wfL]);go_wp2_with fail;go_ret;exact⟨zz m.1.symm,d.1⟩
theorem zp7(B:Nat)(x:zH):zq7 B x:=by
 obtain⟨m,a⟩:∃m,m=SizeOf.sizeOf x:=⟨_,rfl⟩;induction m using Nat.strongRecOn generalizing x with
 |_ m ih=>
  subst a;obtain⟨o,n,s,l⟩:=x;exact zof B o n s l λk hk=>ih _ (zbM (x:=.mk o n s l) hk) _ rfl
theorem zlT(B:Nat)(x:zH)(a:zua)(cap:Nat)(w:World)(d:B<=w.heap.size)(g:za2 x)(f:zaz B w a x.args):Calls prog 201 #[.agg #[x.op,x.num,.string x.name,.slice a x.args.length cap]] w λe w'=>e=.returned (.tuple #[.int .i64 ((sizR 1 x).1:Nat),.int .i64 ((sizR 1 x).2:Nat)])/\Bw w w':=by
 have h:=I f;clear f;go_enter func201,ntmps201
 go_wp2_with fail;have b:=I (J w (oE x a cap));generalize w.alloc (oE x a cap)=W at*;refine ca (zpj B x 1 a cap W (by omega) (ztV d b.1.size) g.2.1 (h.1.keep (b.1.mono d))) λi c=>?_;go_wp2_with fail;go_ret2;exact⟨rfl,ztS b.1 c⟩
theorem za8(x:zH)(a:zua)(cap:Nat)(w:World)(B:Nat)(o:B<=w.heap.size)(u:za2 x)(v:zaz B w a x.args):
 Calls prog 174 #[.agg #[x.op,x.num,.string x.name,.slice a x.args.length cap]] w λe w'=>e=.returned (valE x)/\Bw w w':=by
 have y:=I v;have r:=zm0 x 1 (by omega);have C:=zlU x 1 (by omega);clear v;go_enter func174,ntmps174
 go_wp2_with fail;have p:=I (J w (oE x a cap));have s:=I (zh w (oE x a cap));generalize w.alloc (oE x a cap)=W at*;refine ca (zlT B x a cap W (ztV o p.1.size) u (y.1.keep (p.1.mono o))) λz c=>?_;have b:=I (ztS p.1 c);have j:=I ((c.block _ (ztW s.1)).trans s.1);clear c s p;have k:(cntE x<=200/\depE x<=16) ↔ ((sizR 1 x).1<=200/\(sizR 1 x).2<=16):=by
  constructor
  . intro h;rw[r.1 ⟨h.1,by omega⟩];exact h
  intro h;by_cases g:cntE x<=200/\1+depE x<=17
  . exact⟨g.1,by omega⟩
  rcases r.2.1 g with q|q <;> omega
 have t:=I k;clear r k;by_cases D:200<(sizR 1 x).1
 . have i:=I (show valE x=10 from if_neg (λh=>by have:=t.1.1 h;omega));go_wp2_with fail;go_ret;exact⟨ze i.1.symm,b.1⟩
 by_cases E:16<(sizR 1 x).2
 . have i:=I (show valE x=10 from if_neg (λh=>by have:=t.1.1 h;omega));go_wp2_with fail;go_ret;exact⟨ze i.1.symm,b.1⟩
 have d:=t.1.2 ⟨by omega,by omega⟩;have i:=I (show valE x=if wfE x=true then 0 else 1 from if_pos d);have A:=d.1;clear d;have F:=zw j.1;have G:=zu j.1;have H:=zC j.1;have K:=zaj j.1;have L:=ztW j.1;go_wp2_with fail;refine ca (zp7 B x a cap z A (ztV o b.1.size) u (y.1.keep (b.1.mono o))) λM l=>?_;have m:=I (ztS b.1 l);clear l;cases n:wfE x
 . have f:=I (show valE x=1 by rw[i.1,n];rfl);go_wp2_with fail;go_ret;exact⟨ze f.1.symm,m.1⟩
 have f:=I (show valE x=0 by rw[i.1,n];rfl);go_wp2_with fail;go_ret;exact⟨ze f.1.symm,m.1⟩
end Go.Proofs.YtbhhejkolnigfaaGreat
