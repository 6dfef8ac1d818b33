/- a part of the proof -/
import Derived.Sort.Walk0
import Derived.Test.YtbhhejkolnigfaaGreatG6
set_option linter.unusedVariables false
set_option linter.unusedSimpArgs false
set_option maxRecDepth 100000
set_option maxHeartbeats 51200000
namespace Go.Proofs.YtbhhejkolnigfaaGreat
open Go.RowKit Go.Sort Go.Proofs.Tryz
theorem zr0{a b:List UInt8}(e:Op.bytesLess a b=false)(f:(a==b)=false):Op.bytesLess b a=true:=by
 rw[bytesLess_eq]at e ⊢;have c:¬ a<b:=by simpa using e
 have d:a≠b:=by simpa using f
 exact decide_eq_true (Classical.byContradiction λh3=>d (List.le_antisymm (List.not_lt.1 h3) (List.not_lt.1 c)))
theorem zr1{a b:List UInt8}(h:Op.bytesLess a b=true\/(a==b)=true):Op.bytesLess b a=false:=by
 rw[bytesLess_eq]at h ⊢;rcases h with h|h
 . have c:a<b:=by simpa using h
   exact decide_eq_false (λh2=>List.lt_asymm c h2)
 have c:a=b:=by simpa using h
 subst c;exact decide_eq_false (λh2=>List.lt_irrefl _ h2)
theorem zlG{f g:zaw}(h:f.dep=g.dep):zcd f g=Op.bytesLess f.num.toList g.num.toList:=by unfold zcd;rw[if_neg (by simpa using h)]
theorem zlF{f g:zaw}(h:¬ f.dep=g.dep):zcd f g=decide (f.dep<g.dep):=by unfold zcd;rw[if_pos h]
def zcz(t:TTM):List ByteArray:=t.airs.map AirM.code
def zdv(t:TTM)(i:Nat):Int:=if zbh (zcz t) (fAt t.fls i)≠0 then zbh (zcz t) (fAt t.fls i) else if 0<i/\zcd (fAt t.fls (i-1)) (fAt t.fls i)=false then 8 else 0
theorem zb4{t:TTM}{i:Nat}{n:Int}(h:zbh (zcz t) (fAt t.fls i)=n)(a:n≠0):zdv t i=n:=by
 unfold zdv;rw[if_pos (by rw[h];exact a),h]
theorem zsn{t:TTM}{s:ByteArray}(h:ziu t.airs s<0):hasB (zcz t) s=false:=by
 rw[zcz,<-zhF AirM.code s 0];simpa[ziu] using h
theorem zkd{t:TTM}{s:ByteArray}(h:¬ ziu t.airs s<0):hasB (zcz t) s=true:=by
 rw[zcz,<-zhF AirM.code s 0];simpa[ziu] using h
theorem zmm(t:TTM)(F k fa:zua)(G l fc:Nat)(w:World)(f:t.airs.length<=140737488355328)(Q:SlAt zei w k t.airs)(R:SlAt zam w fa t.fls)(i:Nat)(V:i<t.fls.length)(W:t.fls.length<=140737488355328):
 Calls prog 124 #[aggT t F G k l fa fc,i] w λe c=>e=.returned (zdv t i)/\Bw w c:=by
 try delta aggC aggT
 obtain⟨b,y,rfl,X,u⟩:=zaO R (by omega);obtain⟨⟨d0,d1,d2,d3,d4,d5,d6,d7,d8⟩,p,h2,h3,m⟩:=u i V;have H:=I u;replace m:(fAt t.fls i).typ.size<=maxLen:=by unfold maxLen;omega
 have a:=I (ztS (J w (objT t F G k l (some ⟨b,y,none⟩) fc)) (J _ (oW (fAt t.fls i))));have g:=I (Q.below a.1);clear Q R u;cases S:zfo (fAt t.fls i).num.data.toList
 . have d:=I (zb4 (t:=t) (i:=i) (n:=1) (by simp[zbh,S]) (by decide));go_enter func124,ntmps124
   go_wp2_with (first|(go_at_call 171;refine cb (zbl _ _ p) ?_)|(go_at_call 164;refine cb (zU _ _ m) ?_)|(go_at_call 80;refine cb (zbE t.airs _ k l _ g.1 f) ?_))
   go_ret;exact⟨ze d.1.symm,a.1⟩
 cases T:zb0 (fAt t.fls i).typ.data.toList
 . have d:=I (zb4 (t:=t) (i:=i) (n:=1) (by simp[zbh,T]) (by decide));go_enter func124,ntmps124
   go_wp2_with (first|(go_at_call 171;refine cb (zbl _ _ p) ?_)|(go_at_call 164;refine cb (zU _ _ m) ?_)|(go_at_call 80;refine cb (zbE t.airs _ k l _ g.1 f) ?_))
   go_ret;exact⟨ze d.1.symm,a.1⟩
 have z:=I (show zbh (zcz t) (fAt t.fls i)=if(hasB (zcz t) (fAt t.fls i).frm&&hasB (zcz t) (fAt t.fls i).to)=false then 6 else if((fAt t.fls i).frm.toList==(fAt t.fls i).to.toList)=true then 14 else if zdC (fAt t.fls i)=false then 5 else if(zal (fAt t.fls i).n0&&zal (fAt t.fls i).n1&&zal (fAt t.fls i).n2)=false then 5 else 0 by simp[zbh,S,T]);by_cases K:ziu t.airs (fAt t.fls i).frm<0
 . have d:=I (zb4 (t:=t) (i:=i) (n:=6) (z.1.trans (by simp[zsn K])) (by decide));go_enter func124,ntmps124
   go_wp2_with (first|(go_at_call 171;refine cb (zbl _ _ p) ?_)|(go_at_call 164;refine cb (zU _ _ m) ?_)|(go_at_call 80;refine cb (zbE t.airs _ k l _ g.1 f) ?_))
   go_ret;exact⟨ze d.1.symm,a.1⟩
 by_cases L:ziu t.airs (fAt t.fls i).to<0
 . have d:=I (zb4 (t:=t) (i:=i) (n:=6) (z.1.trans (by simp[zsn L])) (by decide));go_enter func124,ntmps124
   go_wp2_with (first|(go_at_call 171;refine cb (zbl _ _ p) ?_)|(go_at_call 164;refine cb (zU _ _ m) ?_)|(go_at_call 80;refine cb (zbE t.airs _ k l _ g.1 f) ?_))
   go_ret;exact⟨ze d.1.symm,a.1⟩
 cases U:((fAt t.fls i).frm.toList==(fAt t.fls i).to.toList)
 case true=>
  have d:=I (zb4 (t:=t) (i:=i) (n:=14) (z.1.trans (by simp[zkd K,zkd L,U])) (by decide));go_enter func124,ntmps124
  go_wp2_with (first|(go_at_call 171;refine cb (zbl _ _ p) ?_)|(go_at_call 164;refine cb (zU _ _ m) ?_)|(go_at_call 80;refine cb (zbE t.airs _ k l _ g.1 f) ?_))
  go_ret;exact⟨ze d.1.symm,a.1⟩
 have v:=I (show zbh (zcz t) (fAt t.fls i)=if zdC (fAt t.fls i)=false then 5 else if(zal (fAt t.fls i).n0&&zal (fAt t.fls i).n1&&zal (fAt t.fls i).n2)=false then 5 else 0 from z.1.trans (by rw[zkd K,zkd L,U];rfl));clear z;cases x:zdC (fAt t.fls i)
 . have d:=I (zb4 (t:=t) (i:=i) (n:=5) (v.1.trans (by rw[x];rfl)) (by decide));have M:¬ (2880<=(fAt t.fls i).dep/\(fAt t.fls i).arr<=52593120/\(fAt t.fls i).dep<(fAt t.fls i).arr/\(fAt t.fls i).arr-(fAt t.fls i).dep<=1440):=by simpa[zdC] using x
   clear x;by_cases Y:(fAt t.fls i).dep<2880
   . skip
     go_enter func124,ntmps124
     go_wp2_with (first|(go_at_call 171;refine cb (zbl _ _ p) ?_)|(go_at_call 164;refine cb (zU _ _ m) ?_)|(go_at_call 80;refine cb (zbE t.airs _ k l _ g.1 f) ?_))
     go_ret;exact⟨ze d.1.symm,a.1⟩
   by_cases Z:52593120<(fAt t.fls i).arr
   . skip
     go_enter func124,ntmps124
     go_wp2_with (first|(go_at_call 171;refine cb (zbl _ _ p) ?_)|(go_at_call 164;refine cb (zU _ _ m) ?_)|(go_at_call 80;refine cb (zbE t.airs _ k l _ g.1 f) ?_))
     go_ret;exact⟨ze d.1.symm,a.1⟩
   by_cases t3:(fAt t.fls i).arr<=(fAt t.fls i).dep
   . skip
     go_enter func124,ntmps124
     go_wp2_with (first|(go_at_call 171;refine cb (zbl _ _ p) ?_)|(go_at_call 164;refine cb (zU _ _ m) ?_)|(go_at_call 80;refine cb (zbE t.airs _ k l _ g.1 f) ?_))
     go_ret;exact⟨ze d.1.symm,a.1⟩
   have t4:1440<(fAt t.fls i).arr-(fAt t.fls i).dep:=by omega
   go_enter func124,ntmps124
   go_wp2_with (first|(go_at_call 171;refine cb (zbl _ _ p) ?_)|(go_at_call 164;refine cb (zU _ _ m) ?_)|(go_at_call 80;refine cb (zbE t.airs _ k l _ g.1 f) ?_))
   go_ret;exact⟨ze d.1.symm,a.1⟩
 have r:=I (show zbh (zcz t) (fAt t.fls i)=if(zal (fAt t.fls i).n0&&zal (fAt t.fls i).n1&&zal (fAt t.fls i).n2)=false then 5 else 0 from v.1.trans (by rw[x];rfl));obtain⟨Y,Z,t3,t4⟩:2880<=(fAt t.fls i).dep/\(fAt t.fls i).arr<=52593120/\(fAt t.fls i).dep<(fAt t.fls i).arr/\(fAt t.fls i).arr-(fAt t.fls i).dep<=1440:=by simpa[zdC] using x
 clear x v;go_enter func124,ntmps124
 go_wp2_with (first|(go_at_call 171;refine cb (zbl _ _ p) ?_)|(go_at_call 164;refine cb (zU _ _ m) ?_)|(go_at_call 80;refine cb (zbE t.airs _ k l _ g.1 f) ?_))
 go_loop [6] (λq=>q=.int .i64 0\/(q=.int .i64 1/\zal (fAt t.fls i).n0=true)\/(q=.int .i64 2/\zal (fAt t.fls i).n0=true/\zal (fAt t.fls i).n1=true)\/(q=.int .i64 3/\zal (fAt t.fls i).n0=true/\zal (fAt t.fls i).n1=true/\zal (fAt t.fls i).n2=true)) (λq=>(3-intOf q).toNat)
 case atStart=>exact .inl rfl
 rcases hrel with rfl|⟨rfl,A⟩|⟨rfl,A,N⟩|⟨rfl,A,N,n2⟩
 . cases o:zal (fAt t.fls i).n0
   . have d:=I (zb4 (t:=t) (i:=i) (n:=5) (r.1.trans (by rw[o];simp)) (by decide));have M:¬ (0<=(fAt t.fls i).n0/\(fAt t.fls i).n0<=8):=by simpa[zal] using o
     by_cases B:(fAt t.fls i).n0<0
     . go_wp2_with fail;go_ret;exact⟨ze d.1.symm,a.1⟩
     have C:8<(fAt t.fls i).n0:=by omega
     go_wp2_with fail;go_ret;exact⟨ze d.1.symm,a.1⟩
   obtain⟨B,C⟩:0<=(fAt t.fls i).n0/\(fAt t.fls i).n0<=8:=by simpa[zal] using o
   go_wp2_with fail;go_round
   case rel=>exact(.inr (.inl ⟨rfl,trivial⟩))
   case measure=>simp[intOf]
 . cases o:zal (fAt t.fls i).n1
   . have d:=I (zb4 (t:=t) (i:=i) (n:=5) (r.1.trans (by rw[o];simp)) (by decide));have M:¬ (0<=(fAt t.fls i).n1/\(fAt t.fls i).n1<=8):=by simpa[zal] using o
     by_cases B:(fAt t.fls i).n1<0
     . go_wp2_with fail;go_ret;exact⟨ze d.1.symm,a.1⟩
     have C:8<(fAt t.fls i).n1:=by omega
     go_wp2_with fail;go_ret;exact⟨ze d.1.symm,a.1⟩
   obtain⟨B,C⟩:0<=(fAt t.fls i).n1/\(fAt t.fls i).n1<=8:=by simpa[zal] using o
   go_wp2_with fail;go_round
   case rel=>exact(.inr (.inr (.inl ⟨rfl,A,trivial⟩)))
   case measure=>simp[intOf]
 . cases o:zal (fAt t.fls i).n2
   . have d:=I (zb4 (t:=t) (i:=i) (n:=5) (r.1.trans (by rw[o];simp)) (by decide));have M:¬ (0<=(fAt t.fls i).n2/\(fAt t.fls i).n2<=8):=by simpa[zal] using o
     by_cases B:(fAt t.fls i).n2<0
     . go_wp2_with fail;go_ret;exact⟨ze d.1.symm,a.1⟩
     have C:8<(fAt t.fls i).n2:=by omega
     go_wp2_with fail;go_ret;exact⟨ze d.1.symm,a.1⟩
   obtain⟨B,C⟩:0<=(fAt t.fls i).n2/\(fAt t.fls i).n2<=8:=by simpa[zal] using o
   go_wp2_with fail;go_round
   case rel=>exact(.inr (.inr (.inr ⟨rfl,A,N,trivial⟩)))
   case measure=>simp[intOf]
 have D:=I (show zbh (zcz t) (fAt t.fls i)=0 from r.1.trans (by rw[A,N,n2];rfl));by_cases P:i=0
 . subst P;have d:=I (show zdv t 0=0 by unfold zdv;rw[if_neg (by rw[D.1];simp),if_neg (by simp)]);go_wp2_with fail;go_ret;exact⟨ze d.1.symm,a.1⟩
 have a0:0<i:=by omega
 obtain⟨j,rfl⟩:∃j,i=j+1:=⟨i-1,by omega⟩;obtain⟨⟨p0,p1,p2,p3,p4,p5,p6,p7,p8⟩,_⟩:=(H.1.below X a.1) j (by omega);have E:=I (show zdv t (j+1)=if zcd (fAt t.fls j) (fAt t.fls (j+1))=false then 8 else 0 by unfold zdv;rw[if_neg (by rw[D.1];simp),Nat.add_sub_cancel];simp);have a1:((j+1:Nat):Int)-1=(j:Int):=by omega
 have s:=I (λo1 o2=>ztS (ztS (J w (objT t F G k l (some ⟨b,y,none⟩) fc)) (J _ o1)) (J _ o2));go_wp2_with fail
 . next q1 q2 q3 _=>
   go_ret;exact⟨ze (by rw[E.1,zlG q2.symm,if_pos (zr1 q3)]),s.1 _ _⟩
 . next q1 q2 q3 _=>
   go_ret;exact⟨ze (by rw[E.1,zlG q2.symm,if_neg (by rw[zr0 q3.1 q3.2];simp)]),s.1 _ _⟩
 . next q1 q2 q3 _=>
   go_ret;exact⟨ze (by rw[E.1,zlF (λh=>q2 h.symm),if_neg (by simp;omega)]),s.1 _ _⟩
 next _ q1=>
 go_ret;exact⟨ze (by rw[E.1,zlF (by omega),if_pos (by simp;omega)]),s.1 _ _⟩
theorem SlAt.take{A:Type}{r:RT A}{w:World}{a:zua}{l:List A}(h:SlAt r w a l)(k:Nat):SlAt r w a (l.take k):=by
 rcases h with rfl|⟨b,c,e,f,g⟩
 . exact .inl (by simp)
 refine .inr ⟨b,c,e,f,λi hi=>?_⟩;have d:i<l.length:=by rw[List.length_take]at hi;omega
 obtain⟨j,m,n⟩:=g i d;exact⟨j,m,by rw[List.getElem_take];exact n⟩
theorem zf4(t:TTM):∀(m k:Nat),k+m=t.fls.length->valF (zcz t) (zih t.fls k) (t.fls.drop k)=fstE (zdv t) k m
 |0,k,h=>by
  have e:k=t.fls.length:=by omega
  subst e;rw[zt6,valF,fstE]
 |m+1,k,h=>by
  have c:k<t.fls.length:=by omega
  rw[fstE];by_cases a:zbh (zcz t) (fAt t.fls k)≠0
  . rw[zmR c a];have e:zdv t k=zbh (zcz t) (fAt t.fls k):=zb4 rfl a;rw[e,if_pos a]
  have b:zbh (zcz t) (fAt t.fls k)=0:=Classical.not_not.1 a;cases k with
  |zero=>
   have e:zdv t 0=0:=by unfold zdv;rw[if_neg a,if_neg (by simp)]
   rw[e,if_neg (by simp),zkB c b];exact zf4 t m 1 (by omega)
  |succ k=>
   cases d:zcd (fAt t.fls k) (fAt t.fls (k+1))
   . have e:zdv t (k+1)=8:=by unfold zdv;rw[if_neg a,if_pos (by rw[Nat.add_sub_cancel];exact⟨by omega,d⟩)]
     rw[e,if_pos (by decide),zmQ c b d]
   have e:zdv t (k+1)=0:=by unfold zdv;rw[if_neg a,if_neg (by rw[Nat.add_sub_cancel,d];simp)]
   rw[e,if_neg (by simp),zoY c b d];exact zf4 t m (k+1+1) (by omega)
theorem Calls.still{f:Nat}{a:Array Value}{w:World}{r:Ending}(h:Calls prog f a w λe w'=>e=r/\w=w'):Calls prog f a w λe w'=>e=r/\Bw w w':=h.mono λe w' h=>⟨h.1,h.2 ▸ ztT _ _⟩
theorem zid(s:ByteArray)(o:Int)(l:List (Int×Int))(a:zua)(cap:Nat)(w:World)(d:s.size<=maxLen)(k:l.length<=140737488355328)(h:ShAt w a l):
 Calls prog 117 #[.agg #[.string s,o,.slice a l.length cap]] w λe b=>e=.returned (zG s.data.toList o l)/\Bw w b:=by
 by_cases i:l.length<=1000000
 . exact zd4 s o l a cap w d i h
 have j:16<l.length:=by omega
 cases f:zb0 s.data.toList
 . have c:=I (show zG s.data.toList o l=1 from by simp[zG,f]);go_enter func117,ntmps117
   go_wp2_with (first|(go_at_call 164;refine cb (zU _ _ d) ?_)|(go_at_call 165;refine cb (zaE _ _) ?_))
   go_ret;exact⟨ze c.1.symm,(ztT _ _).alloc (ztY _) _⟩
 cases g:offB o
 . have c:=I (show zG s.data.toList o l=5 from by simp[zG,f,g]);go_enter func117,ntmps117
   go_wp2_with (first|(go_at_call 164;refine cb (zU _ _ d) ?_)|(go_at_call 165;refine cb (zaE _ _) ?_))
   go_ret;exact⟨ze c.1.symm,(ztT _ _).alloc (ztY _) _⟩
 have c:=I (show zG s.data.toList o l=10 from by simp[zG,f,g,j]);go_enter func117,ntmps117
 go_wp2_with (first|(go_at_call 164;refine cb (zU _ _ d) ?_)|(go_at_call 165;refine cb (zaE _ _) ?_))
 go_ret;exact⟨ze c.1.symm,(ztT _ _).alloc (ztY _) _⟩
theorem zif(t:TTM)(B D fa:zua)(s u fc:Nat)(w:World)(a3:t.zones.length<=s/\s<=140737488355328/\t.airs.length<=u/\u<=140737488355328)(hz:SlAt zcg w B t.zones)(ha:SlAt zei w D t.airs)(hf:SlAt zam w fa t.fls):
 Calls prog 78 #[aggT t B s D u fa fc] w λe w'=>e=.returned (zY t)/\Bw w w':=by
 try delta aggC aggT
 by_cases g1:16<t.zones.length
 . have H:=I (show zY t=10 from if_pos (.inl g1));go_enter func78,ntmps78
   go_wp2_with fail;go_ret;exact⟨ze H.1.symm,J _ _⟩
 by_cases g2:64<t.airs.length
 . have H:=I (show zY t=10 from if_pos (.inr (.inl g2)));go_enter func78,ntmps78
   go_wp2_with fail;go_ret;exact⟨ze H.1.symm,J _ _⟩
 by_cases g3:200<t.fls.length
 . have H:=I (show zY t=10 from if_pos (.inr (.inr g3)));go_enter func78,ntmps78
   go_wp2_with fail;go_ret;exact⟨ze H.1.symm,J _ _⟩
 have H:zY t=if(valZ [] t.zones).1≠0 then(valZ [] t.zones).1
  else if(valA (valZ [] t.zones).2 [] t.airs).1≠0 then(valA (valZ [] t.zones).2 [] t.airs).1
  else valF (valA (valZ [] t.zones).2 [] t.airs).2 none t.fls:=if_neg (by omega)
 have Hv:=I H;clear H;have HZ:=I hz;have HA:=I ha;have HF:=I hf;clear hz ha hf;go_enter func78,ntmps78
 go_wp2_with fail;have HT:=I (TBox.new w B D fa t.zones.length s t.airs.length u t.fls.length fc);have HB:=I (J w (objT t B s D u fa fc));generalize w.alloc (objT t B s D u fa fc)=W at*;go_loopw [3] (λi wr=>∃(k:Nat),k<=t.zones.length/\i=.int .i64 k/\ztR (valZ [] t.zones=valZ ((t.zones.take k).map zaC.name) (t.zones.drop k))/\ztR (TBox wr w.heap.size B t.zones.length s D t.airs.length u fa t.fls.length fc)/\ztR (Bw w wr)) (λi _=>t.zones.length-(intOf i).toNat)
 case atStart=>exact⟨0,ztX _,rfl,I rfl,HT,HB⟩
 clear HT HB;obtain⟨k,hk,rfl,a,h,c⟩:=hrel;have K:=h.1.2.1;have L:=h.1.1;by_cases d:k<t.zones.length
 . obtain⟨b,M,N,X,v⟩:=zc7 (HZ.1.below c.1) (by omega);obtain⟨sa,a4,c1,c2,c3,Y,s2,s3⟩:=v k d;rw[N]at K;have S3:=I s3;clear s3 v;replace Y:(zAt t.zones k).name.size<=maxLen:=by unfold maxLen;omega
   have a5:b<wr.heap.size:=X;go_wp2_with fail;refine ca (zid _ _ _ _ _ _ Y s2 S3.1) λp j=>?_;have q:=I (ztS c.1 j);have n:=I (h.1.below j);have ez:zG (zAt t.zones k).name.data.toList (zAt t.zones k).off (zAt t.zones k).sh=zval (zAt t.zones k):=rfl;simp only[ez];by_cases E:zval (zAt t.zones k)=0
   . have P:(t.zones.take k).length=k:=by rw[List.length_take];omega
     have F:=I (λdd os=>ztZ (Calls.still (zf1 (t.zones.take k) (zAt t.zones k).name (some ⟨b,M,none⟩) s (grow (redrawn p dd) os) (((N ▸ (HZ.1.below q.1)).take k).below (below_regrown p dd os)) (by omega))));rw[P]at F;have V:=n.1.2.1;have xl:=n.1.1;rw[N]at V;have y0:=zj c1 X j;have yl:b<p.heap.size:=ztU X j.size;rw[E];clear j c1 c2 c3 S3 ez;go_wp2_with fail;have r0:=λdd os=>cell_regrown V dd os
     have r1:=λdd os=>cell_regrown y0 dd os
     refine wp_region_quiet_below (by kernel_rfl) (by kernel_rfl) ?_;repeat (first|go_big_quiet_step (first|(with_reducible exact F.1 _ _))|quiet_step (first|(with_reducible exact F.1 _ _)))
     refine wpQuiet_nil ?_;intro _ Q;obtain⟨⟨C,l⟩,x⟩:=Q;subst x;have o:=I (ztS q.1 (below_regrown p C l));have r:=I (n.1.below (below_regrown p C l));clear r0 r1 F V y0;generalize grow (redrawn p C) l=W2 at*;have g:=zhF zaC.name (zAt t.zones k).name 0 (t.zones.take k);by_cases R:0<=zg4 (t.zones.take k) (zAt t.zones k).name
     . have f:=I (a.1.trans (zmL d E (by rw[<-g];exact decide_eq_true R)));have y:=I (show zY t=7 from Hv.1.trans (by rw[f.1];rfl));clear g;go_wp2_with fail;go_ret;exact⟨ze y.1.symm,o.1⟩
     have f:=I (a.1.trans (zoW d E (by rw[<-g];exact decide_eq_false R)));clear g;go_wp2_with fail;go_roundw
     case rel=>exact⟨k+1,by omega,by go_num,I (by rw[zo9 _ _ d,zt3];exact f.1),r,o⟩
     case measure=>simp[intOf];omega
   have f:=I (a.1.trans (zmM d E));have y:=I (show zY t=zval (zAt t.zones k) from Hv.1.trans (by rw[f.1];exact if_pos E));clear j c1 c2 c3 S3 ez;go_wp2_with fail;go_ret;exact⟨ze y.1.symm,q.1⟩
 obtain rfl:k=t.zones.length:=by omega
 have z:valZ [] t.zones=(0,t.zones.map zaC.name):=a.1.trans (by rw[zt6,List.take_length];rfl);have A:=I (show zY t=if(valA (t.zones.map zaC.name) [] t.airs).1≠0 then(valA (t.zones.map zaC.name) [] t.airs).1 else valF (valA (t.zones.map zaC.name) [] t.airs).2 none t.fls from Hv.1.trans (by rw[z];exact if_neg (by simp)));clear z Hv a hk d;have K:=h.1.2.1;have S:=h.1.2.2.1;have Z:=h.1.2.2.2;have L:=h.1.1;go_wp2_with fail;clear K S Z L;go_loopw [5] (λi wr=>∃(k:Nat),k<=t.airs.length/\i=.int .i64 k/\ztR (valA (t.zones.map zaC.name) [] t.airs=valA (t.zones.map zaC.name) ((t.airs.take k).map AirM.code) (t.airs.drop k))/\ztR (TBox wr w.heap.size B t.zones.length s D t.airs.length u fa t.fls.length fc)/\ztR (Bw w wr)) (λi _=>t.airs.length-(intOf i).toNat)
 case atStart=>exact⟨0,ztX _,rfl,I rfl,h,c⟩
 clear h c;obtain⟨k,hk,rfl,a,h,c⟩:=hrel;have S:=h.1.2.2.1;have L:=h.1.1;by_cases d:k<t.airs.length
 . obtain⟨b,M,T,X,v⟩:=zeJ (HA.1.below c.1) (by omega);obtain⟨c1,c2,Y,s2⟩:=v k d;rw[T]at S;have a0:=I T;clear v T;have U:=I (ztS c.1 (J wr (oA (aAt t.airs k))));cases R:airB (aAt t.airs k).code.data.toList
   . have f:=I (a.1.trans (zmV d R));have y:=I (show zY t=1 from A.1.trans (by rw[f.1];rfl));go_wp2_with (go_at_call 123;refine cb (ze1 _ _ Y) ?_)
     go_ret;exact⟨ze y.1.symm,U.1⟩
   have P:(t.airs.take k).length=k:=by rw[List.length_take];omega
   have n:=I (h.1.below (J wr (oA (aAt t.airs k))));have G:=zh wr (oA (aAt t.airs k));have V:=zw G;have x1:=zu G;have xl:=ztW G;have a6:b<(wr.alloc (oA (aAt t.airs k))).heap.size:=Nat.lt_trans X xl;clear G;go_wp2_with (go_at_call 123;refine cb (ze1 _ _ Y) ?_)
   generalize wr.alloc (oA (aAt t.airs k))=p at*;have F:=I (λdd os=>ztZ (Calls.still (zbE (t.airs.take k) (aAt t.airs k).code (some ⟨b,M,none⟩) u (grow (redrawn p dd) os) (((a0.1 ▸ (HA.1.below U.1)).take k).below (below_regrown p dd os)) (by omega))));rw[P]at F;have z1:=n.1.2.2.1;have zl:=n.1.1;rw[a0.1]at z1;have r0:=λdd os=>cell_regrown z1 dd os
   have r1:=λdd os=>cell_regrown V dd os
   refine wp_region_quiet_below (by kernel_rfl) (by kernel_rfl) ?_;repeat (first|go_big_quiet_step (first|(with_reducible exact F.1 _ _))|quiet_step (first|(with_reducible exact F.1 _ _)))
   refine wpQuiet_nil ?_;intro _ Q;obtain⟨⟨C,l⟩,x⟩:=Q;subst x;have o:=I (ztS U.1 (below_regrown p C l));have r:=I (n.1.below (below_regrown p C l));have y1:=cell_regrown x1 C l;have yl:wr.heap.size<(grow (redrawn p C) l).heap.size:=ztU xl (below_regrown p C l).size;clear r0 r1 F V x1 z1 zl;generalize grow (redrawn p C) l=W2 at*;have g:=zhF AirM.code (aAt t.airs k).code 0 (t.airs.take k);by_cases e2:0<=ziu (t.airs.take k) (aAt t.airs k).code
   . have f:=I (a.1.trans (zmU d R (by rw[<-g];exact decide_eq_true e2)));have y:=I (show zY t=7 from A.1.trans (by rw[f.1];rfl));clear g;go_wp2_with fail;go_ret;exact⟨ze y.1.symm,o.1⟩
   have a1:=I (show hasB ((t.airs.take k).map AirM.code) (aAt t.airs k).code=false by rw[<-g];exact decide_eq_false e2);clear g;have g:=zhF zaC.name (aAt t.airs k).zone 0 t.zones;have p0:=r.1.2.1;have pl:=r.1.1;go_wp2_with fail;refine cb (zf1 t.zones (aAt t.airs k).zone B s _ (HZ.1.below o.1) (by omega)) ?_;by_cases e3:zg4 t.zones (aAt t.airs k).zone<0
   . have f:=I (a.1.trans (zmT d R a1.1 (by rw[<-g];simpa[zg4] using e3)));have y:=I (show zY t=6 from A.1.trans (by rw[f.1];rfl));clear g;go_wp2_with fail;go_ret;exact⟨ze y.1.symm,o.1⟩
   have f:=I (a.1.trans (zoZ d R a1.1 (by rw[<-g];simpa[zg4] using e3)));clear g;go_wp2_with fail;go_roundw
   case rel=>
    have m:=I (show valA (t.zones.map zaC.name) [] t.airs=valA (t.zones.map zaC.name) ((t.airs.take (k+1)).map AirM.code) (t.airs.drop (k+1)) by rw[zpe _ _ d,zt3];exact f.1);first|exact⟨k+1,by omega,by go_num,m,r,o⟩|((repeat apply Exists.intro);exact⟨⟨k+1,by omega,by go_num,m,r,o⟩,rfl⟩)
   case measure=>simp[intOf];omega
 obtain rfl:k=t.airs.length:=by omega
 have z:valA (t.zones.map zaC.name) [] t.airs=(0,zcz t):=a.1.trans (by rw[zt6,List.take_length];rfl);have a2:=I (show zY t=fstE (zdv t) 0 t.fls.length from A.1.trans (by rw[z];exact(if_neg (by simp)).trans (zf4 t t.fls.length 0 (by omega))));clear z A a hk d;have K:=h.1.2.1;have S:=h.1.2.2.1;have Z:=h.1.2.2.2;have L:=h.1.1;go_wp2_with fail;clear K S Z L;go_loopw [7] (λi wr=>∃(k:Nat),k<=t.fls.length/\i=.int .i64 k/\ztR (zY t=fstE (zdv t) k (t.fls.length-k))/\ztR (TBox wr w.heap.size B t.zones.length s D t.airs.length u fa t.fls.length fc)/\ztR (Bw w wr)) (λi _=>t.fls.length-(intOf i).toNat)
 case atStart=>exact⟨0,ztX _,rfl,a2,h,c⟩
 clear h c;obtain⟨k,hk,rfl,a,h,c⟩:=hrel;have K:=h.1.2.1;have S:=h.1.2.2.1;have Z:=h.1.2.2.2;have L:=h.1.1;by_cases d:k<t.fls.length
 . have f:=I (a.1.trans (show fstE (zdv t) k (t.fls.length-k)=if zdv t k≠0 then zdv t k else fstE (zdv t) (k+1) (t.fls.length-(k+1)) by rw[show t.fls.length-k=(t.fls.length-(k+1))+1 by omega,fstE]));clear a;go_wp2_with fail;refine ca (zmm t B D fa s u fc _ (by omega) (HA.1.below c.1) (HF.1.below c.1) k d (by omega)) λp j=>?_;have q:=I (ztS c.1 j);have n:=I (h.1.below j);clear j K S Z L;by_cases E:zdv t k=0
   . have m:=I (f.1.trans (if_neg (by simpa using E)));rw[E];go_wp2_with fail;go_roundw
     case rel=>exact⟨k+1,by omega,by go_num,m,n,q⟩
     case measure=>simp[intOf];omega
   have m:=I (f.1.trans (if_pos E));go_wp2_with fail;go_ret;exact⟨ze m.1.symm,q.1⟩
 obtain rfl:k=t.fls.length:=by omega
 have y:=I (show zY t=0 from a.1.trans (by rw[Nat.sub_self,fstE]));go_wp2_with fail;go_ret;exact⟨ze y.1.symm,c.1⟩
end Go.Proofs.YtbhhejkolnigfaaGreat
