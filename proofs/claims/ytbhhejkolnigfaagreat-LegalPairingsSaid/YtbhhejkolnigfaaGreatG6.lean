/- a part of the proof -/
import Derived.Test.YtbhhejkolnigfaaGreatG5
set_option linter.unusedVariables false
set_option linter.unusedSimpArgs false
set_option maxRecDepth 100000
set_option maxHeartbeats 51200000
namespace Go.Proofs.YtbhhejkolnigfaaGreat
open Go.RowKit Go.Sort Go.Proofs.Tryz
def fOf(t:TTM)(d:Duty)(k:Nat):zaw:=fAt t.fls (tAt d k).1.toNat
theorem znl{t:TTM}{c:ConM}{d:Duty}(b:valT c=0)(e:za6 t c d=0){k:Nat}(f:k<d.length)(g:0<k):0<=(fOf t d k).dep-(fOf t d (k-1)).arr/\(fOf t d k).dep-(fOf t d (k-1)).arr<=1440:=by
 have a:=(zcp e).2.2.2 k (by omega) f;have h:=zdl b;unfold zcZ at a
 simp only[zt5,decide_eq_true_eq]at a;unfold fOf
 omega
theorem zgv{t:TTM}{c:ConM}{d:Duty}(b:zY t=0)(e:za6 t c d=0){k:Nat}(f:k<d.length):0<(fOf t d k).arr-(fOf t d k).dep/\(fOf t d k).arr-(fOf t d k).dep<=1440/\2880<=(fOf t d k).dep/\(fOf t d k).arr<=52593120:=by
 obtain⟨i,j,g,_⟩:=zcp e;obtain⟨m,h,a⟩:=zbO (g k f);unfold fOf
 rw[h];have:=zas b a;simp only[Int.toNat_natCast];omega
theorem znr{t:TTM}{c:ConM}{d:Duty}(b:zY t=0)(e:valT c=0)(a:za6 t c d=0):∀k,k<d.length->(fOf t d 0).dep<(fOf t d k).arr
 |0,h=>by have:=zgv b a h;omega
 |k+1,h=>by
  have g:=znr b e a k (by omega);have f:=znl e a h (by omega);have i:=zgv b a h;rw[Nat.add_sub_cancel]at f;omega
theorem zhh{t:TTM}{c:ConM}{d:Duty}(e:zY t=0)(a:valT c=0)(b:za6 t c d=0):0<(fAt t.fls (lstN d)).arr+c.release-((fAt t.fls (fstN d)).dep-c.report):=by
 have h:=znr e a b (d.length-1) (by have:=(zcp b).1;omega);have f:=zdl a;show 0<(fOf t d (d.length-1)).arr+c.release-((fOf t d 0).dep-c.report)
 omega
theorem zjf:∀{l:List zaC} {acc:List ByteArray},(valZ acc l).1=0->∀z∈l,zval z=0
 |[],_,_,z,a=>by simp at a
 |x::l,acc,h,z,a=>by
  rw[valZ]at h;by_cases b:zval x≠0
  . rw[if_pos b]at h;exact absurd h b
  rw[if_neg b]at h;by_cases c:hasB acc x.name=true
  . rw[if_pos c]at h;simp at h
  rw[if_neg c]at h;rcases List.mem_cons.1 a with rfl|a
  . exact Classical.not_not.1 b
  exact zjf h z a
theorem zlO{t:TTM}(h:zY t=0):(valZ [] t.zones).1=0/\(valA (valZ [] t.zones).2 [] t.airs).1=0:=by
 unfold zY at h
 by_cases c:16<t.zones.length\/64<t.airs.length\/200<t.fls.length
 . rw[if_pos c]at h;omega
 rw[if_neg c]at h;by_cases a:(valZ [] t.zones).1≠0
 . rw[if_pos a]at h;exact absurd h a
 rw[if_neg a]at h;by_cases b:(valA (valZ [] t.zones).2 [] t.airs).1≠0
 . rw[if_pos b]at h;exact absurd h b
 exact⟨Classical.not_not.1 a,Classical.not_not.1 b⟩
theorem zra{t:TTM}(h:zY t=0)(s:ByteArray):zval (zp t s)=0\/zp t s=ze7:=by
 cases b:airN t.airs s with
 |none=>exact .inr (by simp[zp,b])
 |some a=>
  cases c:ze6 t.zones a.zone with
  |none=>exact .inr (by simp[zp,b,c])
  |some z=>
   have e:zp t s=z:=by simp[zp,b,c]
   rw[e];refine .inl (zjf (zlO h).1 z ?_);have:=List.mem_of_find?_eq_some c;simpa using this
theorem zi3{t:TTM}(h:zY t=0)(s:ByteArray):(zp t s).sh.length<=16:=by
 rcases zra h s with a|a
 . exact(zbg a).2.2.1
 rw[a];simp[ze7]
def zio(c:ConM)(q:List Int):Int:=if(zaI c).length=0 then iAt q 3 else fval q (gAt (zaI c) 0)
theorem zls(w:World)(s:Nat)(t:TTM)(c:ConM)(P:SetP)(l:zc6 w s t c P)(q:List Int)(a:zua)(cap:Nat)(m:3<q.length)(x:q.length<=140737488355328)(n:zW w a q)(u:∀k,k<(zaI c).length->fok q (gAt (zaI c) k))(y:(zaI c).length<=140737488355328):Calls prog 68 #[.pointer (some ⟨s,0,none⟩),.slice a q.length cap] w λe w'=>e=.returned (zio c q)/\Bw w w':=by
 have d:=zrU l.box;have F:=l.lt;obtain⟨b,z,rfl,G,f⟩:=n.cells (by omega);have H:=f 3 m;have A:=I n;have v:=I l.credit;have B:=I u;have K:(3:Int)<(q.length:Int):=by omega
 clear l f n u;by_cases o:(zaI c).length=0
 . have p:=I (show zio c q=iAt q 3 from if_pos o);rw[o]at d;go_enter func68,ntmps68
   go_wp2_with fail;go_loop [11] (λi=>i=.int .i64 0) (λ_=>0)
   case atStart=>rfl
   subst hrel;go_wp2_with fail;go_ret;exact⟨ze p.1.symm,ztT _ _⟩
 have p:=I (show zio c q=fval q (gAt (zaI c) 0) from if_neg o);obtain⟨C,g,h,D,j⟩:=v.1.cells (by omega);have E:=I (j.at 0 (by omega));have L:(0:Int)<((zaI c).length:Int):=by omega
 rw[h]at d;clear j h v;go_enter func68,ntmps68
 go_wp2_with fail;go_loop [11] (λi=>i=.int .i64 0) (λ_=>0)
 case atStart=>rfl
 subst hrel;go_wp2_with fail;refine ca (zfs q _ _ noX x (gAt (zaI c) 0) C g w (by simpa using E.1) (B.1 0 (by omega)) A.1) λM r=>?_;go_wp2_with fail;go_ret;exact⟨ze p.1.symm,r⟩
theorem zoz(q:List Int)(b d cap:Nat)(w:World)(C:b<w.heap.size)(D:q.length*8<=140737488355328)(t:∀i,i<q.length->w.cell? ⟨b,d+i,none⟩=some (.int .i64 (iAt q i))):Calls prog 136 #[.slice (some ⟨b,d,none⟩) q.length cap] w λe w'=>∃g,e=.returned g/\w'.ownsRow w.heap.size 3 1 g q.length (q.map (Value.int .i64))/\g≠.slice none 0 0/\Bw w w':=by
 obtain⟨v,y,o,p,r⟩:=info_parts (show(prog.info? 3).map (λi=>(i.zero,i.size,i.bytes))=some (some (.int .i64 0),1,8) by kernel_rfl);have E:∀(w:World) (a:zua) (n c n' c':Nat),(binOp .eql 72 (.slice a n c) (.slice none n' c')).run prog w=.ok (.bool a.isNone) w:=λw a n c n' c'=>Lib.run_eql_slice_nil w _ _ a n c n' c' underlying72
 have A:=I t;clear t;go_enter func136,ntmps136
 go_wp2_with (at_builtin;refine wpList_append_own _ rfl _ _ 72 rfl w.heap.size 3 v (.int .i64 0) 1 8 underlying72 y o p r rfl (by decide) _ _ _ rfl (World.ownsRow_made w #[] 0 (ztY _) (ztX _) rfl) ⟨b,d,none⟩ q.length cap (q.map (Value.int .i64)) rfl ?qc1 ?qc2 ?qc3 ?qc4 ?qc5 ?qc6 ?_)
 case qc1=>simp
 case qc2=>
  intro j u s;have h:j<q.length:=by
   have:=(List.getElem?_eq_some_iff.1 s).1;simpa using this
  rw[Addr.add_lit];refine Lib.cell?_alloc_some _ ?_;rw[A.1 j h];have e:(q.map (Value.int .i64))[j]?=some (Value.int .i64 (iAt q j)):=by simp[iAt,List.getD,zt1 h]
  rw[e]at s;exact s
 case qc3=>intro u z;obtain⟨x,_,rfl⟩:=List.mem_map.1 z;rfl
 case qc4=>unfold maxLen;omega
 case qc5=>omega
 case qc6=>simp
 intro g F l f m;go_wp2_with fail;go_ret;refine⟨g,rfl,by simpa using l,m,?_⟩;exact((ztT _ w).alloc (ztY _) _).grown f (by simp) (by intro k B;simp[Value.ownBlock]at B;omega)
def limV(k:Int)(q:List Int):List Int:=if k=3 then q.set 6 (zaP (iAt q 6)) else q
theorem zgY(k:Int)(q:List Int):(limV k q).length=q.length:=by unfold limV;split <;> simp
theorem zrx{w:World}{B:Nat}{v:Value}{q:List Int}(h:w.ownsRow B 3 1 v q.length (q.map (Value.int .i64)))(d:v≠.slice none 0 0):∃g b a,v=.slice (some ⟨g,0,none⟩) q.length b/\B<=g/\w.heap[g]?=some (.cells a 3 (0,0))/\q.length<=a.size/\∀i,i<q.length->a[i]?=some (.int .i64 (iAt q i)):=by
 rcases h.2 with⟨e,_⟩|⟨g,b,a,rfl,f,j,l,m,n,k⟩
 . exact absurd e d
 refine⟨g,b,a,rfl,f,j,by omega,λi hi=>?_⟩;have c:(a.toList.take (q.length*1))[i]?=(q.map (Value.int .i64))[i]?:=by rw[k]
 rw[List.getElem?_take_of_lt (by omega)]at c;rw[<-Array.getElem?_toList,c];simp[iAt,List.getD,zt1 hi]
theorem zs2{q:List Int}{k i:Nat}{x:Int}(h:k<q.length):iAt (q.set k x) i=if i=k then x else iAt q i:=by
 unfold iAt
 rw[zt0,List.getElem?_set,zt0];by_cases e:i=k
 . subst e;simp[h]
 rw[if_neg (λh=>e h.symm),if_neg e]
theorem zhD(k:Int)(q:List Int)(a:zua)(cap:Nat)(w:World)(n:k=3->6<q.length)(C:q.length*8<=140737488355328)(s:zW w a q):Calls prog 93 #[k,.slice a q.length cap] w λe w'=>∃a' c,e=.returned (.slice a' (limV k q).length c)/\zW w' a' (limV k q)/\Bw w w':=by
 by_cases v:k=3
 . subst v;have B:=n rfl;clear n;obtain⟨b,x,rfl,D,o⟩:=s.cells (by omega);have E:=I o;clear o s;have P:(6:Int)<(q.length:Int):=by omega
   have t:=I (show limV 3 q=q.set 6 (zaP (iAt q 6)) from rfl);go_enter func93,ntmps93
   go_wp2_with fail;refine(zoz q b x cap w D C E.1).mono ?_;rintro e y ⟨R,rfl,l,r,m⟩;obtain⟨g,c,z,rfl,F,d,G,f⟩:=zrx l r;have H:=I m;have K:=I f;have S:y.cell? ⟨g,6,none⟩=some (.int .i64 (iAt q 6)):=zm (j:=6) d (f 6 B);have T:y.frozen? ⟨g,6,none⟩=false:=by simp[World.frozen?,d]
   have L:=ztW d;have A:6<z.size:=by omega
   clear l r m f;go_wp2_with fail;refine cb (zb5 (iAt q 6) y) ?_;go_wp2_with fail;go_ret;have Q:=zg (i:=6) (u:=.int .i64 (zaP (iAt q 6))) d;refine⟨some ⟨g,0,none⟩,c,by(show Ending.returned (.slice (some ⟨g,0,none⟩) q.length c)=_;rw[zgY]),.inr ⟨g,0,rfl,ztW Q,λi hi=>?_⟩,H.1.setCell (p:=⟨g,6,none⟩) F _⟩;rw[zgY]at hi;rw[t.1,Nat.zero_add,zs2 B];refine zm Q ?_;rw[Array.getElem?_setIfInBounds];by_cases e:i=6
   . subst e;simp[A]
   rw[if_neg (λh=>e h.symm),if_neg e];exact K.1 i hi
 have M:(k==3)=false:=by simpa using v
 have t:=I (show limV k q=q from if_neg v);have N:=I s;clear s n;go_enter func93,ntmps93
 go_wp2_with fail;go_ret;exact⟨a,cap,by(show Ending.returned (.slice a q.length cap)=_;rw[t.1]),by rw[t.1];exact N.1,ztT _ _⟩
def sumF(q:List Int)(l:List zE):Nat->Int
 |0=>0
 |j+1=>sumF q l j+fval q (gAt l j)
theorem zpg{q:List Int}{l:List zE}(h:∀i,i<l.length->inR (fval q (gAt l i))):∀k:Nat,k<=l.length->-(1099511627776*(k:Int))<=sumF q l k/\sumF q l k<=1099511627776*(k:Int)
 |0,_=>by simp[sumF]
 |k+1,hk=>by
  obtain⟨a,b⟩:=zpg h k (by omega);obtain⟨c,d⟩:=h k (by omega);rw[sumF];omega
def zoy(c:ConM)(k:Nat)(q:List Int):Int:=sumF (limV k q) (zaW c k) (zaW c k).length
theorem zrQ(w:World)(H:Nat)(t:TTM)(c:ConM)(P:SetP)(K:zc6 w H t c P)(q:List Int)(a:zua)(cap:Nat)(V:q.length*8<=140737488355328)(L:zW w a q)(W:(zaW c 1).length<=1000)(M:∀i,i<(zaW c 1).length->fok (limV 1 q) (gAt (zaW c 1) i)):Calls prog 45 #[.pointer (some ⟨H,0,none⟩),.int .i64 1,.slice a q.length cap] w λe w'=>e=.returned (zoy c 1 q)/\Bw w w':=by
 have N:=I K;have j:=I M;have Q:=I L;clear K M L;go_enter func45,ntmps45
 go_wp2_with fail;refine(zhD 1 q a cap w (λh=>absurd h (by decide)) V Q.1).mono ?_;rintro e R ⟨a1,S,rfl,m,f⟩;have n:=I m;have d:=I (N.1.below f);have A:=I f;have o:(limV 1 q).length<=140737488355328:=by rw[zgY];omega
 have T:=zrV d.1.box;have r:=d.1.lt;clear m f N Q;have B:=I (show zoy c 1 q=sumF (limV 1 q) (zaW c 1) (zaW c 1).length from rfl);obtain⟨p,C⟩:∃p,p=limV 1 q:=⟨_,rfl⟩;obtain⟨l,U⟩:∃l,l=zaW c 1:=⟨_,rfl⟩;have u:=I (d.1.costs 1 (by decide));rw[<-C]at n j B o;rw[<-U]at j B W u T;rw[<-C];clear C U d;go_wp2_with fail;go_loopw [7,19] (λs i wr=>∃(k:Nat),k<=l.length/\i=.int .i64 k/\s=.int .i64 (sumF p l k)/\ztR (Bw R wr)) (λ_ i _=>l.length-(intOf i).toNat)
 case atStart=>exact⟨0,ztX _,rfl,rfl,I (ztT _ _)⟩
 obtain⟨k,D,rfl,rfl,b⟩:=hrel;by_cases g:k<l.length
 . obtain⟨X,v,x,E,y⟩:=u.1.cells (by omega);have Y:=I ((y.kept b.1).at k g);have Z:=zj T r b.1;have a0:=ztU r b.1.size;have a2:=ztU E b.1.size;rw[x]at Z;obtain⟨a3,a4⟩:=zpg (λi hi=>zcb _ (j.1 i hi)) k D;obtain⟨a5,a6⟩:=zcb _ (j.1 k g);have F:=I (show sumF p l (k+1)=sumF p l k+fval p (gAt l k) from rfl);clear y x;go_wp2_with fail;refine ca (zfs p _ _ noX o (gAt l k) X (v+k*3) wr Y.1 (j.1 k g) (n.1.below b.1)) λw2 z=>?_;have G:=I (ztS b.1 z);clear z;go_wp2_with fail;go_roundw
   case rel=>exact⟨k+1,by omega,by go_num,by rw[F.1],G⟩
   case measure=>simp[intOf];omega
 obtain rfl:k=l.length:=by omega
 go_wp2_with fail;go_ret;exact⟨ze B.1.symm,ztS A.1 b.1⟩
theorem zvZ(w:World)(H:Nat)(t:TTM)(c:ConM)(P:SetP)(K:zc6 w H t c P)(q:List Int)(a:zua)(cap:Nat)(V:q.length*8<=140737488355328)(L:zW w a q)(W:(zaW c 2).length<=1000)(M:∀i,i<(zaW c 2).length->fok (limV 2 q) (gAt (zaW c 2) i)):Calls prog 45 #[.pointer (some ⟨H,0,none⟩),.int .i64 2,.slice a q.length cap] w λe w'=>e=.returned (zoy c 2 q)/\Bw w w':=by
 have N:=I K;have j:=I M;have Q:=I L;clear K M L;go_enter func45,ntmps45
 go_wp2_with fail;refine(zhD 2 q a cap w (λh=>absurd h (by decide)) V Q.1).mono ?_;rintro e R ⟨a1,S,rfl,m,f⟩;have n:=I m;have d:=I (N.1.below f);have A:=I f;have o:(limV 2 q).length<=140737488355328:=by rw[zgY];omega
 have T:=cellW_24 d.1.box;have r:=d.1.lt;clear m f N Q;have B:=I (show zoy c 2 q=sumF (limV 2 q) (zaW c 2) (zaW c 2).length from rfl);obtain⟨p,C⟩:∃p,p=limV 2 q:=⟨_,rfl⟩;obtain⟨l,U⟩:∃l,l=zaW c 2:=⟨_,rfl⟩;have u:=I (d.1.costs 2 (by decide));rw[<-C]at n j B o;rw[<-U]at j B W u T;rw[<-C];clear C U d;go_wp2_with fail;go_loopw [7,19] (λs i wr=>∃(k:Nat),k<=l.length/\i=.int .i64 k/\s=.int .i64 (sumF p l k)/\ztR (Bw R wr)) (λ_ i _=>l.length-(intOf i).toNat)
 case atStart=>exact⟨0,ztX _,rfl,rfl,I (ztT _ _)⟩
 obtain⟨k,D,rfl,rfl,b⟩:=hrel;by_cases g:k<l.length
 . obtain⟨X,v,x,E,y⟩:=u.1.cells (by omega);have Y:=I ((y.kept b.1).at k g);have Z:=zj T r b.1;have a0:=ztU r b.1.size;have a2:=ztU E b.1.size;rw[x]at Z;obtain⟨a3,a4⟩:=zpg (λi hi=>zcb _ (j.1 i hi)) k D;obtain⟨a5,a6⟩:=zcb _ (j.1 k g);have F:=I (show sumF p l (k+1)=sumF p l k+fval p (gAt l k) from rfl);clear y x;go_wp2_with fail;refine ca (zfs p _ _ noX o (gAt l k) X (v+k*3) wr Y.1 (j.1 k g) (n.1.below b.1)) λw2 z=>?_;have G:=I (ztS b.1 z);clear z;go_wp2_with fail;go_roundw
   case rel=>exact⟨k+1,by omega,by go_num,by rw[F.1],G⟩
   case measure=>simp[intOf];omega
 obtain rfl:k=l.length:=by omega
 go_wp2_with fail;go_ret;exact⟨ze B.1.symm,ztS A.1 b.1⟩
theorem costOf_3(w:World)(H:Nat)(t:TTM)(c:ConM)(P:SetP)(K:zc6 w H t c P)(q:List Int)(a:zua)(cap:Nat)(V:6<q.length)(W:q.length*8<=140737488355328)(L:zW w a q)(X:(zaW c 3).length<=1000)(M:∀i,i<(zaW c 3).length->fok (limV 3 q) (gAt (zaW c 3) i)):Calls prog 45 #[.pointer (some ⟨H,0,none⟩),.int .i64 3,.slice a q.length cap] w λe w'=>e=.returned (zoy c 3 q)/\Bw w w':=by
 have N:=I K;have j:=I M;have Q:=I L;clear K M L;go_enter func45,ntmps45
 go_wp2_with fail;refine(zhD 3 q a cap w (λh=>V) W Q.1).mono ?_;rintro e R ⟨a1,S,rfl,m,f⟩;have n:=I m;have d:=I (N.1.below f);have A:=I f;have o:(limV 3 q).length<=140737488355328:=by rw[zgY];omega
 have T:=cellW_25 d.1.box;have r:=d.1.lt;clear m f N Q;have B:=I (show zoy c 3 q=sumF (limV 3 q) (zaW c 3) (zaW c 3).length from rfl);obtain⟨p,C⟩:∃p,p=limV 3 q:=⟨_,rfl⟩;obtain⟨l,U⟩:∃l,l=zaW c 3:=⟨_,rfl⟩;have u:=I (d.1.costs 3 (by decide));rw[<-C]at n j B o;rw[<-U]at j B X u T;rw[<-C];clear C U d;go_wp2_with fail;go_loopw [7,19] (λs i wr=>∃(k:Nat),k<=l.length/\i=.int .i64 k/\s=.int .i64 (sumF p l k)/\ztR (Bw R wr)) (λ_ i _=>l.length-(intOf i).toNat)
 case atStart=>exact⟨0,ztX _,rfl,rfl,I (ztT _ _)⟩
 obtain⟨k,D,rfl,rfl,b⟩:=hrel;by_cases g:k<l.length
 . obtain⟨Y,v,x,E,y⟩:=u.1.cells (by omega);have Z:=I ((y.kept b.1).at k g);have dr:=zj T r b.1;have a0:=ztU r b.1.size;have a2:=ztU E b.1.size;rw[x]at dr;obtain⟨a3,a4⟩:=zpg (λi hi=>zcb _ (j.1 i hi)) k D;obtain⟨a5,a6⟩:=zcb _ (j.1 k g);have F:=I (show sumF p l (k+1)=sumF p l k+fval p (gAt l k) from rfl);clear y x;go_wp2_with fail;refine ca (zfs p _ _ noX o (gAt l k) Y (v+k*3) wr Z.1 (j.1 k g) (n.1.below b.1)) λw2 z=>?_;have G:=I (ztS b.1 z);clear z;go_wp2_with fail;go_roundw
   case rel=>exact⟨k+1,by omega,by go_num,by rw[F.1],G⟩
   case measure=>simp[intOf];omega
 obtain rfl:k=l.length:=by omega
 go_wp2_with fail;go_ret;exact⟨ze B.1.symm,ztS A.1 b.1⟩
def brkF(q:List Int)(l:List (ByteArray×zE)):Nat->List ByteArray
 |0=> []
 |j+1=>if fval q (ruAt l j).2=0 then brkF q l j++ [(ruAt l j).1] else brkF q l j
theorem zrZ{p:List Int}{l:List (ByteArray×zE)}{k:Nat}(h:fval p (ruAt l k).2=0):brkF p l (k+1)=brkF p l k++ [(ruAt l k).1]:=if_pos h
theorem ztl{p:List Int}{l:List (ByteArray×zE)}{k:Nat}(h:¬ fval p (ruAt l k).2=0):brkF p l (k+1)=brkF p l k:=if_neg h
theorem zj7(p:List Int)(l:List (ByteArray×zE)):∀k,(brkF p l k).length<=k
 |0=>ztY _
 |k+1=>by
  have:=zj7 p l k;rw[brkF];split
  . rw[zt2];simp;omega
  omega
def brkV(c:ConM)(k:Nat)(q:List Int):List ByteArray:=brkF (limV k q) (zaR c k) (zaR c k).length
theorem zhn{w:World}{a:zua}{l:List (ByteArray×zE)}(h:zek w a l)(c:0<l.length):∃b off,a=some ⟨b,off,none⟩/\b<w.heap.size/\∀i,i<l.length->w.cell? ⟨b,off+i*4,none⟩=some (.string (ruAt l i).1)/\(ruAt l i).1.size<=140737488355328/\zX noX w b (off+i*4+1) [(ruAt l i).2]:=by
 rcases h with rfl|h
 . simp at c
 exact h
theorem zpN{w:World}{B c:Nat}{e:TypeId}{s:Nat}{v:Value}{n:Nat}{d:List Value}(h:w.ownsRow B e s v n d)(f:c<=B):w.ownsRow c e s v n d:=by
 refine⟨h.1,?_⟩;rcases h.2 with h|⟨g,a,b,i,j,k⟩
 . exact .inl h
 exact .inr ⟨g,a,b,i,ztV f j,k⟩
theorem zrY(w:World)(sb:Nat)(t:TTM)(c:ConM)(P:SetP)(hS:zc6 w sb t c P)(q:List Int)(a:zua)(cap:Nat)(hq:q.length*8<=140737488355328)(hI:zW w a q)(hn:(zaR c 1).length<=1000)(hk:∀i,i<(zaR c 1).length->fok (limV 1 q) (ruAt (zaR c 1) i).2):Calls prog 89 #[.pointer (some ⟨sb,0,none⟩),.int .i64 1,.slice a q.length cap] w λe w'=>∃R,e=.returned R/\w'.ownsRow w.heap.size 9 1 R (brkV c 1 q).length ((brkV c 1 q).map Value.string)/\Bw w w':=by
 obtain⟨i0,hi,S,T,U⟩:=info_parts zmh;have HS:=I hS;have V:=I hk;have HI:=I hI;clear hS hk hI;go_enter func89,ntmps89
 go_wp2_with fail;refine(zhD 1 q a cap w (λh=>absurd h (by decide)) hq HI.1).mono ?_;rintro e A ⟨a1,a2,rfl,B,o⟩;have C:=I B;have j:=I (HS.1.below o);have D:=I o;have E:(limV 1 q).length<=140737488355328:=by rw[zgY];omega
 have dk:=zrW j.1.box;have F:=j.1.lt;clear B o HS HI;have W:=I (show brkV c 1 q=brkF (limV 1 q) (zaR c 1) (zaR c 1).length from rfl);obtain⟨p,X⟩:∃p,p=limV 1 q:=⟨_,rfl⟩;obtain⟨l,hl⟩:∃l,l=zaR c 1:=⟨_,rfl⟩;have G:=I (j.1.rules 1 (by decide));rw[<-X]at C V W E;rw[<-hl]at V W hn G dk;rw[<-X];clear X hl j;go_wp2_with fail;go_loopw [7,20] (λs i wr=>∃(k:Nat) (v:Value),k<=l.length/\i=.int .i64 k/\s=v/\ztR (wr.ownsRow A.heap.size 9 1 v (brkF p l k).length ((brkF p l k).map Value.string))/\ztR (Bw A wr)) (λ_ i _=>l.length-(intOf i).toNat)
 case atStart=>exact⟨0,_,ztX _,rfl,rfl,I (World.ownsRow_nil _ _ _ _),I (ztT _ _)⟩
 obtain⟨k,v,a4,rfl,rfl,Y,b⟩:=hrel;by_cases H:k<l.length
 . obtain⟨fb,K,L,r,M⟩:=zhn G.1 (by omega);obtain⟨n0,n1,n2⟩:=M k H;have F0:=I (n2.kept b.1);have N0:=I n0;have dr:=zj dk F b.1;have Z:=ztU F b.1.size;have a0:=ztU r b.1.size;rw[L]at dr;clear M L n0 n2;go_wp2_with fail;refine ca (zfs p _ _ noX E (ruAt l k).2 fb (K+k*4+1) wr F0.1 (V.1 k H) (C.1.below b.1)) λw2 x=>?_;have d:=I (ztS b.1 x);have m:=I (zbQ Y.1 b.1 x);have nm:=zj N0.1 r d.1;have a3:=ztU r d.1.size;clear x dr Z a0 Y;by_cases z:fval p (ruAt l k).2=0
   . have n:=I (zrZ (p:=p) (l:=l) (k:=k) z);have y:=I (zj7 p l k);rw[z];clear z;go_wp2_with (at_builtin;refine wpList_append_own _ rfl _ _ 140 rfl A.heap.size 9 i0 (.string ByteArray.empty) 1 16 underlying140 hi S T U rfl (by decide) _ _ _ rfl (m.1.alloc _) ⟨w2.heap.size,0,none⟩ 1 1 [.string (ruAt l k).1] rfl rfl ?c1 ?c2 ?c3 ?c4 ?c5 ?_)
     case c1=>exact zaa w2 [.string (ruAt l k).1] 9
     case c2=>intro u hu;simp at hu;subst hu;rfl
     case c3=>have:=y.1;unfold maxLen;omega
     case c4=>have:=y.1;omega
     case c5=>have:=d.1.size;simp;omega
     intro R w3 f g _;have N:=I (zaG (e':=9) d.1 rfl m.1 g)
     have Q:=I (show w3.ownsRow A.heap.size 9 1 R (brkF p l (k+1)).length ((brkF p l (k+1)).map Value.string) by
      rw[n.1,zt2,zt3];exact f)
     clear f g y n m nm;go_wp2_with fail;go_roundw
     case rel=>first|exact⟨k+1,_,by omega,by go_num,rfl,Q,N⟩|((repeat apply Exists.intro);exact⟨⟨k+1,_,by omega,by go_num,rfl,Q,N⟩,rfl⟩)
     case measure=>simp[intOf];omega
   have n:=I (ztl (p:=p) (l:=l) (k:=k) z);have a5:(fval p (ruAt l k).2==0)=false:=by simpa using z
   clear z;go_wp2_with fail;go_roundw
   case rel=>exact⟨k+1,_,by omega,by go_num,rfl,by rw[n.1];exact m,d⟩
   case measure=>simp[intOf];omega
 obtain rfl:k=l.length:=by omega
 go_wp2_with fail;go_ret;exact⟨_,rfl,by rw[W.1];exact zpN Y.1 D.1.size,ztS D.1 b.1⟩
theorem zv0(w:World)(sb:Nat)(t:TTM)(c:ConM)(P:SetP)(hS:zc6 w sb t c P)(q:List Int)(a:zua)(cap:Nat)(hq:q.length*8<=140737488355328)(hI:zW w a q)(hn:(zaR c 2).length<=1000)(hk:∀i,i<(zaR c 2).length->fok (limV 2 q) (ruAt (zaR c 2) i).2):Calls prog 89 #[.pointer (some ⟨sb,0,none⟩),.int .i64 2,.slice a q.length cap] w λe w'=>∃R,e=.returned R/\w'.ownsRow w.heap.size 9 1 R (brkV c 2 q).length ((brkV c 2 q).map Value.string)/\Bw w w':=by
 obtain⟨i0,hi,S,T,U⟩:=info_parts zmh;have HS:=I hS;have V:=I hk;have HI:=I hI;clear hS hk hI;go_enter func89,ntmps89
 go_wp2_with fail;refine(zhD 2 q a cap w (λh=>absurd h (by decide)) hq HI.1).mono ?_;rintro e A ⟨a1,a2,rfl,B,o⟩;have C:=I B;have j:=I (HS.1.below o);have D:=I o;have E:(limV 2 q).length<=140737488355328:=by rw[zgY];omega
 have dk:=cellW_20 j.1.box;have F:=j.1.lt;clear B o HS HI;have W:=I (show brkV c 2 q=brkF (limV 2 q) (zaR c 2) (zaR c 2).length from rfl);obtain⟨p,X⟩:∃p,p=limV 2 q:=⟨_,rfl⟩;obtain⟨l,hl⟩:∃l,l=zaR c 2:=⟨_,rfl⟩;have G:=I (j.1.rules 2 (by decide));rw[<-X]at C V W E;rw[<-hl]at V W hn G dk;rw[<-X];clear X hl j;go_wp2_with fail;go_loopw [7,20] (λs i wr=>∃(k:Nat) (v:Value),k<=l.length/\i=.int .i64 k/\s=v/\ztR (wr.ownsRow A.heap.size 9 1 v (brkF p l k).length ((brkF p l k).map Value.string))/\ztR (Bw A wr)) (λ_ i _=>l.length-(intOf i).toNat)
 case atStart=>exact⟨0,_,ztX _,rfl,rfl,I (World.ownsRow_nil _ _ _ _),I (ztT _ _)⟩
 obtain⟨k,v,a4,rfl,rfl,Y,b⟩:=hrel;by_cases H:k<l.length
 . obtain⟨fb,K,L,r,M⟩:=zhn G.1 (by omega);obtain⟨n0,n1,n2⟩:=M k H;have F0:=I (n2.kept b.1);have N0:=I n0;have dr:=zj dk F b.1;have Z:=ztU F b.1.size;have a0:=ztU r b.1.size;rw[L]at dr;clear M L n0 n2;go_wp2_with fail;refine ca (zfs p _ _ noX E (ruAt l k).2 fb (K+k*4+1) wr F0.1 (V.1 k H) (C.1.below b.1)) λw2 x=>?_;have d:=I (ztS b.1 x);have m:=I (zbQ Y.1 b.1 x);have nm:=zj N0.1 r d.1;have a3:=ztU r d.1.size;clear x dr Z a0 Y;by_cases z:fval p (ruAt l k).2=0
   . have n:=I (zrZ (p:=p) (l:=l) (k:=k) z);have y:=I (zj7 p l k);rw[z];clear z;go_wp2_with (at_builtin;refine wpList_append_own _ rfl _ _ 140 rfl A.heap.size 9 i0 (.string ByteArray.empty) 1 16 underlying140 hi S T U rfl (by decide) _ _ _ rfl (m.1.alloc _) ⟨w2.heap.size,0,none⟩ 1 1 [.string (ruAt l k).1] rfl rfl ?c1 ?c2 ?c3 ?c4 ?c5 ?_)
     case c1=>exact zaa w2 [.string (ruAt l k).1] 9
     case c2=>intro u hu;simp at hu;subst hu;rfl
     case c3=>have:=y.1;unfold maxLen;omega
     case c4=>have:=y.1;omega
     case c5=>have:=d.1.size;simp;omega
     intro R w3 f g _;have N:=I (zaG (e':=9) d.1 rfl m.1 g)
     have Q:=I (show w3.ownsRow A.heap.size 9 1 R (brkF p l (k+1)).length ((brkF p l (k+1)).map Value.string) by
      rw[n.1,zt2,zt3];exact f)
     clear f g y n m nm;go_wp2_with fail;go_roundw
     case rel=>first|exact⟨k+1,_,by omega,by go_num,rfl,Q,N⟩|((repeat apply Exists.intro);exact⟨⟨k+1,_,by omega,by go_num,rfl,Q,N⟩,rfl⟩)
     case measure=>simp[intOf];omega
   have n:=I (ztl (p:=p) (l:=l) (k:=k) z);have a5:(fval p (ruAt l k).2==0)=false:=by simpa using z
   clear z;go_wp2_with fail;go_roundw
   case rel=>exact⟨k+1,_,by omega,by go_num,rfl,by rw[n.1];exact m,d⟩
   case measure=>simp[intOf];omega
 obtain rfl:k=l.length:=by omega
 go_wp2_with fail;go_ret;exact⟨_,rfl,by rw[W.1];exact zpN Y.1 D.1.size,ztS D.1 b.1⟩
theorem broken_3(w:World)(sb:Nat)(t:TTM)(c:ConM)(P:SetP)(hS:zc6 w sb t c P)(q:List Int)(a:zua)(cap:Nat)(h6:6<q.length)(hq:q.length*8<=140737488355328)(hI:zW w a q)(hn:(zaR c 3).length<=1000)(hk:∀i,i<(zaR c 3).length->fok (limV 3 q) (ruAt (zaR c 3) i).2):Calls prog 89 #[.pointer (some ⟨sb,0,none⟩),.int .i64 3,.slice a q.length cap] w λe w'=>∃R,e=.returned R/\w'.ownsRow w.heap.size 9 1 R (brkV c 3 q).length ((brkV c 3 q).map Value.string)/\Bw w w':=by
 obtain⟨i0,hi,S,T,U⟩:=info_parts zmh;have HS:=I hS;have V:=I hk;have HI:=I hI;clear hS hk hI;go_enter func89,ntmps89
 go_wp2_with fail;refine(zhD 3 q a cap w (λh=>h6) hq HI.1).mono ?_;rintro e A ⟨a1,a2,rfl,B,o⟩;have C:=I B;have j:=I (HS.1.below o);have D:=I o;have E:(limV 3 q).length<=140737488355328:=by rw[zgY];omega
 have dk:=cellW_21 j.1.box;have F:=j.1.lt;clear B o HS HI;have W:=I (show brkV c 3 q=brkF (limV 3 q) (zaR c 3) (zaR c 3).length from rfl);obtain⟨p,X⟩:∃p,p=limV 3 q:=⟨_,rfl⟩;obtain⟨l,hl⟩:∃l,l=zaR c 3:=⟨_,rfl⟩;have G:=I (j.1.rules 3 (by decide));rw[<-X]at C V W E;rw[<-hl]at V W hn G dk;rw[<-X];clear X hl j;go_wp2_with fail;go_loopw [7,20] (λs i wr=>∃(k:Nat) (v:Value),k<=l.length/\i=.int .i64 k/\s=v/\ztR (wr.ownsRow A.heap.size 9 1 v (brkF p l k).length ((brkF p l k).map Value.string))/\ztR (Bw A wr)) (λ_ i _=>l.length-(intOf i).toNat)
 case atStart=>exact⟨0,_,ztX _,rfl,rfl,I (World.ownsRow_nil _ _ _ _),I (ztT _ _)⟩
 obtain⟨k,v,a4,rfl,rfl,Y,b⟩:=hrel;by_cases H:k<l.length
 . obtain⟨fb,K,L,r,M⟩:=zhn G.1 (by omega);obtain⟨n0,n1,n2⟩:=M k H;have F0:=I (n2.kept b.1);have N0:=I n0;have dr:=zj dk F b.1;have Z:=ztU F b.1.size;have a0:=ztU r b.1.size;rw[L]at dr;clear M L n0 n2;go_wp2_with fail;refine ca (zfs p _ _ noX E (ruAt l k).2 fb (K+k*4+1) wr F0.1 (V.1 k H) (C.1.below b.1)) λw2 x=>?_;have d:=I (ztS b.1 x);have m:=I (zbQ Y.1 b.1 x);have nm:=zj N0.1 r d.1;have a3:=ztU r d.1.size;clear x dr Z a0 Y;by_cases z:fval p (ruAt l k).2=0
   . have n:=I (zrZ (p:=p) (l:=l) (k:=k) z);have y:=I (zj7 p l k);rw[z];clear z;go_wp2_with (at_builtin;refine wpList_append_own _ rfl _ _ 140 rfl A.heap.size 9 i0 (.string ByteArray.empty) 1 16 underlying140 hi S T U rfl (by decide) _ _ _ rfl (m.1.alloc _) ⟨w2.heap.size,0,none⟩ 1 1 [.string (ruAt l k).1] rfl rfl ?c1 ?c2 ?c3 ?c4 ?c5 ?_)
     case c1=>exact zaa w2 [.string (ruAt l k).1] 9
     case c2=>intro u hu;simp at hu;subst hu;rfl
     case c3=>have:=y.1;unfold maxLen;omega
     case c4=>have:=y.1;omega
     case c5=>have:=d.1.size;simp;omega
     intro R w3 f g _;have N:=I (zaG (e':=9) d.1 rfl m.1 g)
     have Q:=I (show w3.ownsRow A.heap.size 9 1 R (brkF p l (k+1)).length ((brkF p l (k+1)).map Value.string) by
      rw[n.1,zt2,zt3];exact f)
     clear f g y n m nm;go_wp2_with fail;go_roundw
     case rel=>first|exact⟨k+1,_,by omega,by go_num,rfl,Q,N⟩|((repeat apply Exists.intro);exact⟨⟨k+1,_,by omega,by go_num,rfl,Q,N⟩,rfl⟩)
     case measure=>simp[intOf];omega
   have n:=I (ztl (p:=p) (l:=l) (k:=k) z);have a5:(fval p (ruAt l k).2==0)=false:=by simpa using z
   clear z;go_wp2_with fail;go_roundw
   case rel=>exact⟨k+1,_,by omega,by go_num,rfl,by rw[n.1];exact m,d⟩
   case measure=>simp[intOf];omega
 obtain rfl:k=l.length:=by omega
 go_wp2_with fail;go_ret;exact⟨_,rfl,by rw[W.1];exact zpN Y.1 D.1.size,ztS D.1 b.1⟩
def zkl(e:TypeId)(w w':World):Prop:=w.heap.size<=w'.heap.size/\∀(b:Nat) (o:Obj),(∀cs f,o≠Obj.cells cs e f)->w.heap[b]?=some o->w'.heap[b]?=some o
theorem zkl.refl(e:TypeId)(w:World):zkl e w w:=⟨ztY _,λ_ _ _ h=>h⟩
theorem zkl.append{e:TypeId}{B a n:Nat}{w c w':World}{v:Value}{m:List Value}{o:Obj}(h:zkl e w c)(p:c.ownsRow B e a v n m)(l:(c.alloc o).grownBy w' v.ownBlock):zkl e w w':=by
 have q:c.heap.size<=w'.heap.size:=ztV (by simp) l.size;refine⟨ztV h.1 q,λb x hx hb=>?_⟩;have d:=h.2 b x hx hb;have f:=ztW d;rw[l.block b (by simp;omega) ?_]
 . exact((World.grownBy_alloc c o none).block b f (by simp)).trans d
 intro i;rcases p.2 with⟨rfl,_⟩|⟨g,r,j,rfl,_,k,_⟩
 . simp[Value.ownBlock]at i
 simp[Value.ownBlock]at i
 subst i;rw[k]at d;exact hx j (0,0) (Option.some.inj d).symm
def vCells(x:Int×Int×ByteArray):List Value:= [.int .i64 x.1,.int .i64 x.2.1,.string x.2.2]
def vRow(V:List (Int×Int×ByteArray)):List Value:=V.flatMap vCells
def zf5(sc ix:Int)(N:List ByteArray)(k:Nat):List (Int×Int×ByteArray):=(N.take k).map λs=>(sc,ix,s)
theorem znH{a ix:Int}{N:List ByteArray}{k:Nat}(h:k<N.length):zf5 a ix N (k+1)=zf5 a ix N k++ [(a,ix,sAt N k)]:=by
 unfold zf5
 rw[List.take_succ_eq_append_getElem h,zt3,sAt,zt0,zt1 h];rfl
theorem zo1(a ix:Int)(N:List ByteArray):zf5 a ix N N.length=N.map λs=>(a,ix,s):=by rw[zf5,List.take_length]
theorem zo0{a ix:Int}{N:List ByteArray}{k:Nat}(h:k<=N.length):(zf5 a ix N k).length=k:=by simp[zf5];omega
theorem zqo:(prog.info? 94).map (λi=>(i.zero,i.size,i.bytes))=some (some (.agg #[.int .i64 0,.int .i64 0,.string ByteArray.empty]),3,32):=by kernel_rfl
def zkk(w:World)(a:zua)(N:List ByteArray):Prop:=N= []\/∃b cur f,a=some ⟨b,0,none⟩/\w.heap[b]?=some (.cells cur 9 f)/\∀i,i<N.length->cur[i]?=some (.string (sAt N i))
theorem zib(B:Nat)(V:List (Int×Int×ByteArray))(v:Value)(w:World)(D:B<=w.heap.size)(l:w.ownsRow B 94 3 v V.length (vRow V))(g ix:Int)(N:List ByteArray)(E:zua)(T:Nat)(P:zkk w E N)(Q:V.length+N.length<=100000):Calls prog 88 #[v,g,ix,.slice E N.length T] w λe w'=>∃C,e=.returned C/\w'.ownsRow B 94 3 C (V++N.map λs=>(g,ix,s)).length (vRow (V++N.map λs=>(g,ix,s)))/\Below B w w'/\zkl 94 w w':=by
 obtain⟨U,W,F,G,H⟩:=info_parts zqo;have r:=I l;have X:=I P;clear l P;go_enter func88,ntmps88
 go_wp2_with fail;go_loopw [0,13] (λs i wr=>∃(k:Nat) (u:Value),k<=N.length/\i=.int .i64 k/\s=u/\ztR (wr.ownsRow B 94 3 u (V++zf5 g ix N k).length (vRow (V++zf5 g ix N k)))/\ztR (Below B w wr)/\ztR (zkl 94 w wr)) (λ_ i _=>N.length-(intOf i).toNat)
 case atStart=>exact⟨0,v,ztX _,rfl,rfl,I (by simpa[zf5] using r.1),I (ztT _ _),I (zkl.refl _ _)⟩
 clear r;obtain⟨k,u,K,rfl,rfl,l,L,t⟩:=hrel;by_cases o:k<N.length
 . obtain⟨R,p,nf,rfl,m,n⟩:∃b p f,E=some ⟨b,0,none⟩/\w.heap[b]?=some (.cells p 9 f)/\∀i,i<N.length->p[i]?=some (.string (sAt N i)):=by
    rcases X.1 with rfl|h
    . simp at o
    exact h
   have c:=t.1.2 R _ (λcs f h=>by cases h) m;have Y:wr.cell? ⟨R,k,none⟩=some (.string (sAt N k)):=zm (j:=k) c (n k o);have Z:=ztW c;have M:B<=wr.heap.size:=ztV D t.1.1;have q:=I (show(V++zf5 g ix N k).length=V.length+k by rw[zt2,zo0 K]);clear m c n;go_wp2_with (at_builtin;refine wpList_append_own _ rfl _ _ 50 rfl B 94 U (.agg #[.int .i64 0,.int .i64 0,.string ByteArray.empty]) 3 32 underlying50 W F G H rfl (by decide) _ _ _ rfl (l.1.alloc _) ⟨wr.heap.size,0,none⟩ 1 1 [.int .i64 g,.int .i64 ix,.string (sAt N k)] rfl rfl ?c1 ?c2 ?c3 ?c4 ?c5 ?_)
   case c1=>exact zaa wr [.int .i64 g,.int .i64 ix,.string (sAt N k)] 94
   case c2=>intro x S;simp at S;rcases S with rfl|rfl|rfl <;> rfl
   case c3=>have:=q.1;unfold maxLen;omega
   case c4=>have:=q.1;omega
   case c5=>simp;omega
   intro C w3 d a _;have y:=I ((L.1.alloc M _).grown a (by simp;omega) (λj hj=>zaM l.1 j hj));have z:=I (zkl.append t.1 l.1 a)
   have A:=I (show w3.ownsRow B 94 3 C (V++zf5 g ix N (k+1)).length (vRow (V++zf5 g ix N (k+1))) by
    rw[znH o,<-List.append_assoc,zt2,zt2,vRow,List.flatMap_append];exact d)
   clear d a q l L t Y;go_wp2_with fail;go_roundw
   case rel=>first|exact⟨k+1,_,by omega,by go_num,rfl,A,y,z⟩|((repeat apply Exists.intro);exact⟨⟨k+1,_,by omega,by go_num,rfl,A,y,z⟩,rfl⟩)
   case measure=>simp[intOf];omega
 obtain rfl:k=N.length:=by omega
 rw[zo1]at l;go_wp2_with fail;go_ret;exact⟨_,rfl,l.1,L.1,t.1⟩
def zbL(N:List ByteArray)(q:List Int):Nat->List Value
 |0=> []
 |k+1=>zbL N q k++ [.string (sAt N k),.int .i64 (iAt q k)]
mutual
def zfv(p:Int):zE->Bool
 | .mk o n l=>if o=6 then n==p else zf6 p l
def zf6(p:Int):List zE->Bool
 |[]=>false
 |x::l=>zfv p x || zf6 p l
end
theorem znI{p:Int}{l:List zE}{k:Nat}(h:k<l.length):zf6 p (l.drop k)=(zfv p (gAt l k) || zf6 p (l.drop (k+1))):=by rw[g_drop l k h,zf6]
theorem zo4(p:Int)(l:List zE):zf6 p (l.drop l.length)=false:=by rw[zt6,zf6]
def ztE(p:Int)(X:Nat->Prop)(f:zE):Prop:=∀(b off:Nat) (w:World),zX X w b off [f]->Calls prog 60 #[.pointer (some ⟨b,off,none⟩),p] w λe w'=>e=.returned (.bool (zfv p f))/\w=w'
theorem zo3(p:Int)(X:Nat->Prop)(o n:Int)(l:List zE)(r:∀k,k<l.length->ztE p X (gAt l k)):ztE p X (.mk o n l):=by
 intro b x w s;obtain⟨a,y,L,z,A,B,C,q⟩:=s.one;simp only[zE.op,zE.num,zE.args]at z A B C q;have D:=I r;have E:=I q;clear s q r;by_cases j:o=6
 . have m:=I (show zfv p (.mk o n l)=(n==p) by rw[zfv,if_pos j]);subst j;go_enter func60,ntmps60
   go_wp2_with fail;go_ret;exact⟨zz m.1.symm,rfl⟩
 have m:=I (show zfv p (.mk o n l)=zf6 p (l.drop 0) by rw[zfv,if_neg j];rfl);have F:(o==6)=false:=by simpa using j
 go_enter func60,ntmps60
 go_wp2_with fail;go_loop [22] (λi=>∃k:Nat,k<=l.length/\i=.int .i64 k/\ztR (zf6 p (l.drop 0)=zf6 p (l.drop k))) (λi=>l.length-(intOf i).toNat)
 case atStart=>exact⟨0,ztX _,rfl,I rfl⟩
 obtain⟨k,M,rfl,d⟩:=hrel;by_cases f:k<l.length
 . obtain⟨G,g,rfl,H,h⟩:=E.1.cells (by omega);have K:=I (h.at k f);clear h;have t:=znI (p:=p) f;have u:=I (d.1.trans t);clear t;go_wp2_with fail;refine cb (D.1 k f G (g+k*3) w K.1) ?_;cases v:zfv p (gAt l k)
   . have c:=I (show zf6 p (l.drop 0)=zf6 p (l.drop (k+1)) from u.1.trans (by rw[v];rfl));go_wp2_with fail;go_round
     case rel=>exact⟨k+1,by omega,by go_num,c⟩
     case measure=>simp[intOf];omega
   have c:=I (show zf6 p (l.drop 0)=true from u.1.trans (by rw[v];rfl));go_wp2_with fail;go_ret;exact⟨zz (m.1.trans c.1).symm,rfl⟩
 obtain rfl:k=l.length:=by omega
 have c:=I (d.1.trans (zo4 p l));go_wp2_with fail;go_ret;exact⟨zz (m.1.trans c.1).symm,rfl⟩
theorem zmW(p:Int)(X:Nat->Prop)(f:zE):ztE p X f:=by
 obtain⟨m,a⟩:∃m,m=SizeOf.sizeOf f:=⟨_,rfl⟩;induction m using Nat.strongRecOn generalizing f with
 |_ m ih=>
  subst a;obtain⟨o,n,l⟩:=f;exact zo3 p X o n l λk hk=>ih _ (zkP hk) _ rfl
theorem ziy(a:List zaC)(z:zaC)(s:ByteArray):ze6 (a++ [z]) s=if z.name=s then some z else ze6 a s:=by
 unfold ze6
 rw[List.reverse_append];by_cases h:z.name=s <;> simp[h]
theorem zlM(l:List AirM)(z:AirM)(s:ByteArray):airN (l++ [z]) s=if z.code=s then some z else airN l s:=by
 unfold airN
 rw[List.reverse_append];by_cases h:z.code=s <;> simp[h]
def zfX(w0:World)(M:List (Value×Value))(zs:List zaC):Prop:=∀s,(ze6 zs s=none->mget M (.string s)=none)/\∀z,ze6 zs s=some z->∃v,mget M (.string s)=some v/\ZVal w0 v z
theorem zfX.nil(a:World):zfX a [] []:=λs=>⟨λ_=>rfl,λz h=>by simp[ze6]at h⟩
theorem zfX.put{a:World}{M:List (Value×Value)}{b:List zaC}(h:zfX a M b)(z:zaC){v:Value}(c:ZVal a v z):zfX a (mput M (.string z.name) v) (b++ [z]):=by
 intro s;rw[ziy,zb8];by_cases e:z.name=s
 . rw[if_pos e,if_pos e];exact⟨(λh=>by cases h),λy hy=>⟨v,rfl,by cases hy;exact c⟩⟩
 rw[if_neg e,if_neg e];exact h s
def zeL(w0:World)(M:List (Value×Value))(zs:List zaC)(l:List AirM):Prop:=∀s,(airN l s=none->mget M (.string s)=none)/\∀a,airN l s=some a->∃v,mget M (.string s)=some v/\ZVal w0 v ((ze6 zs a.zone).getD ze7)
theorem zeL.nil(a:World)(b:List zaC):zeL a [] b []:=λs=>⟨λ_=>rfl,λz h=>by simp[airN]at h⟩
theorem zeL.put{b:World}{M:List (Value×Value)}{c:List zaC}{l:List AirM}(h:zeL b M c l)(a:AirM){v:Value}(d:ZVal b v ((ze6 c a.zone).getD ze7)):zeL b (mput M (.string a.code) v) c (l++ [a]):=by
 intro s;rw[zlM,zb8];by_cases e:a.code=s
 . rw[if_pos e,if_pos e];exact⟨(λh=>by cases h),λy hy=>⟨v,rfl,by cases hy;exact d⟩⟩
 rw[if_neg e,if_neg e];exact h s
theorem ZVal.zero(w:World):ZVal w (.agg #[.string ByteArray.empty,.int .i64 0,.slice none 0 0]) ze7:=⟨none,0,rfl,.inl rfl,by simp[ze7],by simp[ze7]⟩
theorem zqg{d w:World}{b:Nat}{M:List (Value×Value)}{c:List zaC}(f:zaT prog w b .string M)(h:zfX d M c)(s:ByteArray):∃v,((Instr.lookup 117 (.map (some b)) (.string s) false).run prog w=.ok v w)/\ZVal d v ((ze6 c s).getD ze7):=by
 have a:=zdS underlying117 underlying9 f (key:=.string s) trivial (zq1 _);cases e:ze6 c s with
 |none=>
  rw[(h s).1 e]at a;exact⟨_,a,ZVal.zero _⟩
 |some z=>
  obtain⟨v,g,i⟩:=(h s).2 z e;rw[g]at a;exact⟨v,a,i⟩
theorem znc{w:World}{b:Nat}{M:List (Value×Value)}(a:zaT prog w b .string M)(s:ByteArray)(v:Value):∃w',(Instr.mapUpdate 117 (.map (some b)) (.string s) v).run prog w=.ok () w'/\zaT prog w' b .string (mput M (.string s) v)/\w.grownBy w' (some b):=
 zc8 underlying117 underlying9 a (key:=.string s) v trivial
theorem zeL.zones{c w:World}{b:Nat}{M:List (Value×Value)}{t:TTM}(f:zaT prog w b .string M)(h:zeL c M t.zones t.airs)(g:Bw c w):zgj w b t:=by
 refine⟨M,f,λs=>⟨(h s).1,λhs=>?_⟩⟩;cases d:airN t.airs s with
 |none=>exact absurd d hs
 |some a=>
  obtain⟨v,i,j⟩:=(h s).2 a d;refine⟨v,i,?_⟩;have e:zp t s=(ze6 t.zones a.zone).getD ze7:=by simp[zp,d]
  rw[e];exact j.below g
theorem mkMapZ(w:World):(Instr.makeMap 117 none).run prog w=.ok (.map (some w.heap.size)) (w.alloc (.map #[] 0)):=by kernel_rfl
theorem zo9(l:List zaC)(k:Nat)(h:k<l.length):l.take (k+1)=l.take k++ [zAt l k]:=by
 rw[List.take_succ_eq_append_getElem h,zAt,zt0,zt1 h];rfl
theorem zpe(l:List AirM)(k:Nat)(h:k<l.length):l.take (k+1)=l.take k++ [aAt l k]:=by
 rw[List.take_succ_eq_append_getElem h,aAt,zt0,zt1 h];rfl
def zhb(l:List (ByteArray×zE)):Bool:=l.any λr=>zfv 1 r.2
def zkF(l:List zE):Bool:=l.any λf=>zfv 1 f
def zma(c:ConM):Bool:=zhb (zaR c 2) || zkF (zaW c 2)
inductive NewRes(w:World)(t:TTM)(c:ConM)(e:Ending)(w':World):Prop
 |badT (h:zY t≠0) (he:e=.returned (.tuple #[.pointer none,(zY t)]))
 |badC (h:zY t=0) (hc:valT c≠0) (he:e=.returned (.tuple #[.pointer none,(valT c)]))
 |ok (sb:Nat) (P:SetP) (he:e=.returned (.tuple #[.pointer (some ⟨sb,0,none⟩),.int .i64 0])) (hs:zc6 w' sb t c P) (hl:w.heap.size<=sb) (hn:P.nights=zma c)
def ztL(w:World)(t:TTM)(c:ConM)(e:Ending)(w':World):Prop:=NewRes w t c e w'/\Below w.heap.size w w'
structure TCAt(w:World)(t:TTM)(c:ConM)(za aa fa:zua)(p:ConP):Prop where
 z:SlAt zcg w za t.zones
 a:SlAt zei w aa t.airs
 f:SlAt zam w fa t.fls
 c:zdr w.heap.size w c p
theorem TCAt.below{w w':World}{t:TTM}{c:ConM}{d e fa:zua}{p:ConP}(h:TCAt w t c d e fa p)(b:Bw w w'):TCAt w' t c d e fa p where
 z:=h.z.below b
 a:=h.a.below b
 f:=h.f.below b
 c:=(h.c.keep b).more b.size
def NewS(t:TTM)(c:ConM)(za:zua)(zc:Nat)(aa:zua)(ac:Nat)(fa:zua)(fc:Nat)(p:ConP):Prop:=∀w:World,TCAt w t c za aa fa p->Calls prog 29 #[.agg #[.slice za t.zones.length zc,.slice aa t.airs.length ac,.slice fa t.fls.length fc],.agg #[c.report,c.release,c.connect,c.sit,c.layover,c.nf,c.nt,.slice p.ca c.consts.length p.cc,.slice p.ra c.rules.length p.rc,.slice p.ka c.costs.length p.kc,.slice p.xa c.credit.length p.xc,.slice p.la c.lims.length p.lc,.slice p.oa c.offs.length p.oc,c.guar]] w (ztL w t c)
inductive RRow(X:Nat->Prop)(w:World):List Value->List (ByteArray×zE)->Prop
 |nil:RRow X w [] []
 |snoc {cs:List Value} {rs:List (ByteArray×zE)} {s:ByteArray} {f:zE} {a:zua} {cap:Nat} (h:RRow X w cs rs) (hs:s.size<=140737488355328) (hl:f.args.length<=140737488355328) (ha:zax X w a f.args):RRow X w (cs++ [.string s,.int .i64 f.op,.int .i64 f.num,.slice a f.args.length cap]) (rs++ [(s,f)])
theorem RRow.len{X:Nat->Prop}{w:World}{a:List Value}{b:List (ByteArray×zE)}(h:RRow X w a b):a.length=b.length*4:=by
 induction h with
 |nil=>rfl
 |snoc h hs hl ha ih=>simp[ih];omega
theorem RRow.step{X X':Nat->Prop}{w w':World}{a:List Value}{c:List (ByteArray×zE)}(h:RRow X w a c)(d:w.heap.size<=w'.heap.size)(e:∀b,b<w.heap.size->¬ X b->w'.heap[b]?=w.heap[b]?)(f:∀b,b<w.heap.size->X' b->X b):RRow X' w' a c:=by
 induction h with
 |nil=>exact .nil
 |snoc h h1 h2 ha ih=>exact .snoc ih h1 h2 (ha.step d e f)
theorem zgo{a:List (ByteArray×zE)}{x:ByteArray×zE}{i:Nat}(h:i<a.length):ruAt (a++ [x]) i=ruAt a i:=by
 unfold ruAt;rw[zt0,zt0,zt8 h]
theorem zgp{a:List (ByteArray×zE)}{x:ByteArray×zE}:ruAt (a++ [x]) a.length=x:=by
 unfold ruAt;rw[zt0,zt9 (ztY _),Nat.sub_self];rfl
theorem RRow.at{X:Nat->Prop}{w:World}{c:List Value}{d:List (ByteArray×zE)}(h:RRow X w c d){b:Nat}{C:Array Value}{t:TypeId}(g:w.heap[b]?=some (.cells C t (0,0)))(p:¬ X b)(k:C.toList.take c.length=c):∀i,i<d.length->w.cell? ⟨b,0+i*4,none⟩=some (.string (ruAt d i).1)/\(ruAt d i).1.size<=140737488355328/\zX X w b (0+i*4+1) [(ruAt d i).2]:=by
 have q:=ztW g;induction h with
 |nil=>intro i o;simp at o
 | @snoc c d s f a cap h h1 h2 ha ih=>
  have l:=h.len;have m:C.toList.take c.length=c:=by
   have:=congrArg (List.take c.length) k;rw[List.take_take]at this;simpa using this
  have n:∀j v, [Value.string s,.int .i64 f.op,.int .i64 f.num,.slice a f.args.length cap][j]?=some v->C[c.length+j]?=some v:=λj v hv=>by
   have r:j<4:=by
    have:=(List.getElem?_eq_some_iff.1 hv).1;simpa using this
   have e:(C.toList.take (c++ [Value.string s,.int .i64 f.op,.int .i64 f.num,.slice a f.args.length cap]).length)[c.length+j]?=some v:=by
    rw[k,zt9 (by omega),Nat.add_sub_cancel_left];exact hv
   rw[List.getElem?_take,if_pos (by simp;omega)]at e;simpa using e
  intro i o;by_cases e:i<d.length
  . rw[zgo e];exact ih m i e
  obtain rfl:i=d.length:=by simp at o;omega
  rw[zgp,Nat.zero_add,<-l];exact⟨zm (j:=c.length) g (n 0 _ rfl),h1,zX.mk1 q p (zm (j:=c.length+1) g (n 1 _ rfl)) (zm (j:=c.length+2) g (n 2 _ rfl)) (zm (j:=c.length+3) g (n 3 _ rfl)) h2 ha⟩
theorem RRow.rules{w:World}{B:Nat}{T:TypeId}{v:Value}{d:List Value}{c:List (ByteArray×zE)}(i:w.ownsRow B T 4 v c.length d)(h:RRow noX w d c):∃a b,v=.slice a c.length b/\zek w a c:=by
 rcases i.2 with⟨rfl,e⟩|⟨g,b,j,rfl,l,f,m,n,o,k⟩
 . exact⟨none,0,by rw[e],.inl (List.length_eq_zero_iff.1 e)⟩
 refine⟨_,b,rfl,.inr ⟨g,0,rfl,ztW f,h.at f (λh=>h) ?_⟩⟩;rw[h.len];exact k
theorem FRow.rows{w:World}{B:Nat}{T:TypeId}{v:Value}{d:List Value}{c:List zE}(f:w.ownsRow B T 3 v c.length d)(h:FRow noX w d c):∃a b,v=.slice a c.length b/\zax noX w a c:=by
 rcases f.2 with⟨rfl,e⟩|⟨g,b,i,rfl,m,j,n,o,p,k⟩
 . have l:=List.length_eq_zero_iff.1 e;subst l;exact⟨none,0,rfl,0,0,λh=>absurd rfl h,.nil _ _⟩
 refine⟨_,b,rfl,g,0,λ_=>rfl,h.forms j (λh=>h) ?_⟩;rw[h.len];exact k
theorem zho(c:ConM)(l:List zcx)(r:zcx)(k:Nat):zaD c (l++ [r]) k=if r.scope=(k:Int) then zaD c l k++ [(r.name,cmpX c k r.ex)] else zaD c l k:=by
 unfold zaD
 rw[List.filter_append];by_cases e:r.scope=(k:Int) <;> simp[e]
theorem zhT(c:ConM)(l:List zdw)(r:zdw)(k:Nat):zau c (l++ [r]) k=if r.scope=(k:Int) then zau c l k++ [cmpX c k r.ex] else zau c l k:=by
 unfold zau
 rw[List.filter_append];by_cases e:r.scope=(k:Int) <;> simp[e]
def XV(B:Nat)(V:Nat->Value)(b:Nat):Prop:=b<B\/∃k,k<9/\(V k).ownBlock=some b
def upd(V:Nat->Value)(k:Nat)(v:Value):Nat->Value:=λi=>if i=k then v else V i
theorem zfw(V:Nat->Value)(k:Nat)(v:Value):upd V k v k=v:=if_pos rfl
theorem zhc(V:Nat->Value){k i:Nat}(v:Value)(h:i≠k):upd V k v i=V i:=if_neg h
def zi2(V:Nat->Value):Prop:=∀i j b,i<9->j<9->(V i).ownBlock=some b->(V j).ownBlock=some b->i=j
theorem zso{B H:Nat}{V:Nat->Value}{k:Nat}{v:Value}(d:k<9)(a:v.ownBlock=(V k).ownBlock\/v.ownBlock=some H){b:Nat}(f:b<H)(h:XV B (upd V k v) b):XV B V b:=by
 rcases h with h|⟨i,c,h⟩
 . exact .inl h
 by_cases e:i=k
 . subst e;rw[zfw]at h;rcases a with a|a
   . exact .inr ⟨i,c,a ▸ h⟩
   rw[a]at h;cases h;omega
 rw[zhc _ _ e]at h;exact .inr ⟨i,c,h⟩
theorem zi2.upd{V:Nat->Value}{k H:Nat}{v:Value}(h:zi2 V)(n:k<9)(e:∀i b,i<9->(V i).ownBlock=some b->b<H)(a:v.ownBlock=(V k).ownBlock\/v.ownBlock=some H):zi2 (upd V k v):=by
 intro i j b f g c d;by_cases m:i=k
 . by_cases l:j=k
   . omega
   subst m;rw[zfw]at c;rw[zhc _ _ l]at d;rcases a with a|a
   . rw[a]at c;exact h i j b f g c d
   rw[a]at c;cases c;have:=e j _ g d;omega
 by_cases l:j=k
 . subst l;rw[zfw]at d;rw[zhc _ _ m]at c;rcases a with a|a
   . rw[a]at d;exact h i j b f g c d
   rw[a]at d;cases d;have:=e i _ f c;omega
 rw[zhc _ _ m]at c;rw[zhc _ _ l]at d;exact h i j b f g c d
theorem zhL{r:Int×Int}{k:Int}(h:expE r k=0):r.2=0/\r.1=k:=by
 unfold expE at h
 by_cases a:r.2=0
 . rw[if_pos a]at h;by_cases b:r.1=k
   . exact⟨a,b⟩
   rw[if_neg b]at h;omega
 rw[if_neg a]at h;exact absurd h a
theorem zhe{l:List zB}{n:Nat}{a:Int}{x:zH}(h:(typX l n a x).2=0):valE x=0/\typX l n a x=tyE (lkC l n) a x/\(tyE (lkC l n) a x).2=0:=by
 unfold typX at*
 by_cases b:valE x≠0
 . rw[if_pos b]at h;exact absurd h b
 rw[if_neg b]at h ⊢;exact⟨Classical.not_not.1 b,rfl,h⟩
structure ValT(c:ConM):Prop where
 g:valG c=0
 r:∀i,i<c.rules.length->rErr c i=0
 k:∀i,i<c.costs.length->kErr c i=0
 x:∀i,i<c.credit.length->xErr c i=0
theorem zbV{c:ConM}(h:valT c=0):ValT c:=by
 unfold valT at h
 by_cases a:valG c≠0
 . rw[if_pos a]at h;exact absurd h a
 rw[if_neg a]at h;by_cases e:fstE (cErr c.consts) 0 (c.consts.length-0)≠0
 . rw[if_pos e]at h;exact absurd h e
 rw[if_neg e]at h;by_cases b:fstE (rErr c) 0 (c.rules.length-0)≠0
 . rw[if_pos b]at h;exact absurd h b
 rw[if_neg b]at h;by_cases d:fstE (kErr c) 0 (c.costs.length-0)≠0
 . rw[if_pos d]at h;exact absurd h d
 rw[if_neg d]at h;exact⟨Classical.not_not.1 a,λi hi=>zcN _ _ (Classical.not_not.1 b) i (ztX _) (by omega),λi hi=>zcN _ _ (Classical.not_not.1 d) i (ztX _) (by omega),λi hi=>zcN _ _ h i (ztX _) (by omega)⟩
theorem zch{c:ConM}(h:valG c=0):zdP c=true/\zbW [] c.rules=0/\zcv c.costs=0/\zds c.credit=0:=by
 unfold valG at h
 by_cases g:zcy c=false
 . rw[if_pos g]at h;omega
 rw[if_neg g]at h;by_cases d:zdP c=false
 . rw[if_pos d]at h;omega
 rw[if_neg d]at h;by_cases e:zcw [] c.consts≠0
 . rw[if_pos e]at h;exact absurd h e
 rw[if_neg e]at h;by_cases a:zbW [] c.rules≠0
 . rw[if_pos a]at h;exact absurd h a
 rw[if_neg a]at h;by_cases b:zcv c.costs≠0
 . rw[if_pos b]at h;exact absurd h b
 rw[if_neg b]at h;by_cases f:zds c.credit≠0
 . rw[if_pos f]at h;exact absurd h f
 exact⟨by simpa using d,Classical.not_not.1 a,Classical.not_not.1 b,Classical.not_not.1 f⟩
theorem zkw:∀{l:List zcx} {acc:List (Int×ByteArray)},zbW acc l=0->∀r∈l,1<=r.scope/\r.scope<=3
 |[],_,_,r,a=>by simp at a
 |x::l,acc,h,r,a=>by
  rw[zbW]at h;by_cases b:(btwB x.scope 1 3&&zZ x.name)=false
  . rw[if_pos b]at h;omega
  rw[if_neg b]at h;by_cases d:hasR acc x.scope x.name=true
  . rw[if_pos d]at h;omega
  rw[if_neg d]at h;by_cases c:valE x.ex≠0
  . rw[if_pos c]at h;exact absurd h c
  rw[if_neg c]at h;rcases List.mem_cons.1 a with rfl|a
  . have:(btwB r.scope 1 3&&zZ r.name)=true:=by simpa using b
    simp only[zt5,zbz]at this;exact this.1
  exact zkw h r a
theorem zha:∀{l:List zdw},zcv l=0->∀r∈l,1<=r.scope/\r.scope<=3
 |[],_,r,a=>by simp at a
 |x::l,h,r,a=>by
  rw[zcv]at h;by_cases b:btwB x.scope 1 3=false
  . rw[if_pos b]at h;omega
  rw[if_neg b]at h;by_cases c:valE x.ex≠0
  . rw[if_pos c]at h;exact absurd h c
  rw[if_neg c]at h;rcases List.mem_cons.1 a with rfl|a
  . have:btwB r.scope 1 3=true:=by simpa using b
    exact zbz.1 this
  exact zha h r a
theorem zrr{l:List zcx}{k:Nat}(h:k<l.length):rlAt l k∈l:=by
 unfold rlAt;rw[zt0,zt1 h];exact List.getElem_mem h
theorem zrS{l:List zdw}{k:Nat}(h:k<l.length):coAt l k∈l:=by
 unfold coAt;rw[zt0,zt1 h];exact List.getElem_mem h
theorem zpb(l:List zcx)(k:Nat)(h:k<l.length):l.take (k+1)=l.take k++ [rlAt l k]:=by
 rw[List.take_succ_eq_append_getElem h,rlAt,zt0,zt1 h];rfl
theorem zjk(l:List zdw)(k:Nat)(h:k<l.length):l.take (k+1)=l.take k++ [coAt l k]:=by
 rw[List.take_succ_eq_append_getElem h,coAt,zt0,zt1 h];rfl
theorem zpu{c:ConM}(h:valT c=0){i:Nat}(a:i<c.rules.length):∃k:Nat,(rlAt c.rules i).scope=k/\1<=k/\k<=3/\wfE (rlAt c.rules i).ex=true/\cntE (rlAt c.rules i).ex<=200/\(tyE (lkC c.consts c.consts.length) k (rlAt c.rules i).ex).2=0:=by
 have b:=zbV h;have l:=zkw (zch b.g).2.1 _ (zrr a);obtain⟨j,m⟩:=zhL (b.r i a);obtain⟨d,_,e⟩:=zhe j;obtain⟨k,f⟩:=Int.eq_ofNat_of_zero_le (show 0<=(rlAt c.rules i).scope by omega);rw[f]at e;exact⟨k,f,by omega,by omega,(zcA d).1,(zcA d).2.1,e⟩
theorem zqO{c:ConM}(h:valT c=0){i:Nat}(a:i<c.costs.length):∃k:Nat,(coAt c.costs i).scope=k/\1<=k/\k<=3/\wfE (coAt c.costs i).ex=true/\cntE (coAt c.costs i).ex<=200/\(tyE (lkC c.consts c.consts.length) k (coAt c.costs i).ex).2=0:=by
 have b:=zbV h;have l:=zha (zch b.g).2.2.1 _ (zrS a);obtain⟨j,m⟩:=zhL (b.k i a);obtain⟨d,_,e⟩:=zhe j;obtain⟨k,f⟩:=Int.eq_ofNat_of_zero_le (show 0<=(coAt c.costs i).scope by omega);rw[f]at e;exact⟨k,f,by omega,by omega,(zcA d).1,(zcA d).2.1,e⟩
theorem zhS{c:ConM}(h:valT c=0){i:Nat}(b:i<c.credit.length):wfE (eAt c.credit i)=true/\cntE (eAt c.credit i)<=200/\(tyE (lkC c.consts c.consts.length) 1 (eAt c.credit i)).2=0:=by
 have d:=zbV h;obtain⟨e,g⟩:=zhL (d.x i b);obtain⟨a,_,f⟩:=zhe e;exact⟨(zcA a).1,(zcA a).2.1,f⟩
end Go.Proofs.YtbhhejkolnigfaaGreat
