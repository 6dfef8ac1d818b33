/- a part of the proof -/
import Derived.Test.YtllakjblamfjbaaGreatGU
import Derived.Test.YtllakjblamfjbaaGreatGX
set_option linter.unusedVariables false
set_option linter.unusedSimpArgs false
set_option maxRecDepth 100000
set_option maxHeartbeats 51200000
namespace Go.Proofs.YtllakjblamfjbaaGreat
open Go.RowKit Go.Sort Go.Proofs.Tryz
theorem zvM(nm:List UInt8)(o:Int)(l:List (Int×Int))(x y a b:Int):0≤(zdh nm o l x y a b).1∧(zdh nm o l x y a b).1≤60000000:=by
 unfold zdh
 by_cases h:zac nm o l x y a b=0
 · rw[if_neg (by simpa using h)];obtain⟨_,⟨c,d,e⟩,_⟩:=zdb h;have f:=zog (inB o l a b) x (zap a b) (y-x).toNat;have g:(((y-x).toNat:Nat):Int)≤52596000:=by omega
   simp only;split
   · omega
   unfold zfG;split <;> omega
 rw[if_pos h];simp
theorem zv7(a b:List Int)(k:Nat):iAt (a++b) k=if k<a.length then iAt a k else iAt b (k-a.length):=by
 unfold iAt
 by_cases h:k<a.length
 · rw[if_pos h];simp[List.getD,zt8 h]
 rw[if_neg h];simp[List.getD,zt9 (Nat.le_of_not_lt h)]
theorem zvI:((List.range 25).all fun i=>(zad 2 (sAt (zk 2) i) !=4 || decide (i=2))&&(zad 2 (sAt (zk 2) i) !=3 || decide (i=12∨i=13∨i=23∨i=24)))=true:=by decide+kernel
theorem zvX(t:TTM)(c:ConM)(s:ByteArray)(x y:Duty)(i:Nat):iAt (zuh t c s x y) (i+3)=if i<11 then iAt (zaZ t c x) i else iAt (zaZ t c y) (i-11):=by
 show iAt (zaZ t c x++zaZ t c y) i=_
 rw[zv7,zeD]
theorem zu8{t:TTM}{c:ConM}{s:ByteArray}{x y:Duty}(f:zY t=0)(g:valT c=0)(j:za6 t c x=0∧za6 t c y=0):QOk 2 (zuh t c s x y) where
 len:=rfl
 val:=fun i hi=>by
  have l:i<25:=hi;have m:=List.all_eq_true.1 zvI i (List.mem_range.2 l);simp only[zt5,bne_iff_ne,Bool.or_eq_true,decide_eq_true_eq]at m;obtain⟨d,b⟩:=m;have r:=zuj f g j.1;have u:=zuj f g j.2;rcases Nat.lt_or_ge i 3 with o|o
  · have p:zad 2 (sAt (zk 2) i)≠3:=by rcases b with h|h;exact h;omega
    refine⟨?_,fun h=>absurd h p,fun h4=>?_⟩
    · obtain rfl|rfl|rfl:i=0∨i=1∨i=2:=by omega
      · show inR ((zcK t c y).1-(zcK t c x).2);unfold inR;omega
      · show inR (zuK t c x y);have:=zvM (zp t (fAt t.fls (lstN x)).to).name.data.toList (zp t (fAt t.fls (lstN x)).to).off (zp t (fAt t.fls (lstN x)).to).sh (zcK t c x).2 (zcK t c y).1 c.nf c.nt;unfold inR zuK;omega
      show inR (zuM t x s);unfold inR zuM;split <;> omega
    rcases d with h|rfl
    · exact absurd h4 h
    show isB (zuM t x s);unfold isB zuM;split <;> simp
  obtain⟨k,rfl⟩:∃k,i=k+3:=⟨i-3,by omega⟩;have n:zad 2 (sAt (zk 2) (k+3))≠4:=by rcases d with h|h;exact h;omega
  rw[zvX];by_cases a:k<11
  · rw[if_pos a];have q:=zrJ f g j.1 k a;refine⟨by unfold inR;omega,fun h=>?_,fun h=>absurd h n⟩;rcases b with e|e
    · exact absurd h e
    exact zqB t c x (by omega) a
  rw[if_neg a];have q:=zrJ f g j.2 (k-11) (by omega);refine⟨by unfold inR;omega,fun h=>?_,fun h=>absurd h n⟩;rcases b with e|e
  · exact absurd h e
  exact zqB t c y (by omega) (by omega)
theorem zuS{t:TTM}{c:ConM}{s:ByteArray}{x y:Duty}(h:zuf t c s x y=0):zY t=0∧valT c=0∧za6 t c x=0∧za6 t c y=0:=by
 unfold zuf tcE at h
 by_cases a:zY t=0
 · by_cases b:valT c=0
   · rw[if_neg (by simpa using a),if_neg (by simpa using b)]at h;by_cases d:zul t s=true
     · rw[if_pos d]at h;exact⟨a,b,zuC h⟩
     rw[if_neg d]at h;omega
   rw[if_neg (by simpa using a),if_pos b]at h;exact absurd h b
 rw[if_pos a]at h;exact absurd h a
def zvA(t:TTM)(c:ConM)(s:ByteArray)(x y:Duty):List (Int×Int×ByteArray):=if zuf t c s x y=0 then(brkV c 2 (zuh t c s x y)).map fun s=>(2,0,s) else []
def zvK(t:TTM)(c:ConM)(s:ByteArray)(x y:Duty):Int:=if zuf t c s x y=0 then zoy c 2 (zuh t c s x y) else 0
theorem zu9(q:List Int):limV 2 q=q:=if_neg (by decide)
theorem zuU{t:TTM}{c:ConM}{s:ByteArray}{x y:Duty}(h:zuf t c s x y≠0):zvA t c s x y= []:=if_neg h
theorem zvt{t:TTM}{c:ConM}{s:ByteArray}{x y:Duty}(h:zuf t c s x y≠0):zvK t c s x y=0:=if_neg h
theorem zvn{t:TTM}{c:ConM}{s:ByteArray}{x y:Duty}(h:zuf t c s x y=0):zvA t c s x y=(brkV c 2 (zuh t c s x y)).map fun s=>(2,0,s):=if_pos h
theorem zvE{t:TTM}{c:ConM}{s:ByteArray}{x y:Duty}(h:zuf t c s x y=0):zvK t c s x y=zoy c 2 (zuh t c s x y):=if_pos h
theorem zva{t:TTM}{c:ConM}{s:ByteArray}{x y:Duty}(h:zuf t c s x y=0):zvA t c s x y=refV c 2 0 (zuh t c s x y) c.rules.length:=by
 rw[zvn h,refV,zru,brkV,show limV ((2:Nat):Int) (zuh t c s x y)=(zuh t c s x y) from zu9 _];rfl
theorem zvP{t:TTM}{c:ConM}{s:ByteArray}{x y:Duty}(h:zuf t c s x y=0):zvK t c s x y=refC c 2 (zuh t c s x y) c.costs.length:=by
 rw[zvE h,zrt,zoy,show limV ((2:Nat):Int) (zuh t c s x y)=(zuh t c s x y) from zu9 _]
theorem zvO(t:TTM)(c:ConM)(s:ByteArray)(x y:Duty):(zvA t c s x y).length≤140737488355328:=by
 by_cases h:zuf t c s x y=0
 · obtain⟨_,a,_⟩:=zuS h;have:=zda a;rw[zva h];exact ztV (zm8 _ _ _ _ _) (by omega)
 rw[zuU h];exact ztX _
theorem zvg(t:TTM)(c:ConM)(m:zua)(j:Nat)(n:zua)(k:Nat)(fa:zua)(fc:Nat)(p:ConP)(w:World)(o:(t.zones.length≤j∧j≤140737488355328∧t.airs.length≤k∧k≤140737488355328))(q:c.consts.length≤p.cc∧p.cc≤140737488355328)(r:TCAt w t c m n fa p)(s:ByteArray)(x y:Duty)(D E:zua)(N P:Nat)(F:x.length≤140737488355328)(G:y.length≤140737488355328)(Q:SlAt za3 w D x)(R:SlAt za3 w E y):
 Calls prog 21 #[aggT t m j n k fa fc,aggC c p,.string s,.slice D x.length N,.slice E y.length P] w (VPost w (zvA t c s x y) (zuf t c s x y)):=by
 try delta aggC aggT
 have S:=I r;have HX:=I Q;have HY:=I R;clear r Q R;go_enter func21,ntmps21
 go_wp2_with fail;obtain⟨T,u,d⟩:=zuN w t c m j n k fa fc p;have z:=I T;obtain⟨U,f⟩:∃U,U=w.heap.size+1:=⟨_,rfl⟩;rw[←f]at d;simp only[←f];have QT:=I u;have V:=I d;clear f T u d;generalize (w.alloc (objT t m j n k fa fc)).alloc (objC c p)=W at*;refine(zug t c m j n k fa fc p W o q (S.1.below z.1) s x y D E N P F G (HX.1.below z.1) (HY.1.below z.1)).mono ?_;rintro e X ⟨la,lc,rfl,C,g⟩;have h:=I (ztS z.1 g);have H:=I (blkA g V.1);clear g z QT V;by_cases a:zuf t c s x y=0
 · have l:=I a;obtain⟨Y,K,Z⟩:=zuS a;rw[zuB a]at C;have CS:=I (zoQ c p X.heap.size X (ztY _) q K (S.1.below h.1).c 2 (by decide) 2 rfl 0 (zuh t c s x y) (zuh t c s x y) (zu8 Y K Z).self la lc (zuh t c s x y).length rfl C);rw[zuB a,zf2 (show(zuh t c s x y).length=(zk 2).length from rfl)];clear Y K Z C;obtain⟨y0,y1,y2,y3,y4,y5,y6,y7,y8,y9,a1,a2,a4,a5,yl⟩:=zbZ H.1;rw[a];clear a;go_wp2_with fail;refine CS.1.mono ?_;rintro e w2 ⟨v,a0,rfl,i,b,A⟩;have L:=I (ztS h.1 A);obtain⟨a3,c3,rfl,B⟩:=zgN.of_own b;have M:=I B;clear A CS b i B;go_wp2_with fail;go_ret2;exact⟨a3,c3,ziM (by rw[zva l.1] <;> rfl) l.1.symm,by rw[zva l.1];exact M.1,L.1⟩
 have e1:(zuf t c s x y !=0)=true:=by simpa using a
 have l:=I a;clear a C;go_wp2_with fail;go_ret2;exact⟨none,0,ziM (by rw[zuU l.1];rfl) rfl,.inl (zuU l.1),h.1⟩
theorem zvo(t:TTM)(c:ConM)(j:zua)(h:Nat)(k:zua)(i:Nat)(fa:zua)(fc:Nat)(p:ConP)(w:World)(l:(t.zones.length≤h∧h≤140737488355328∧t.airs.length≤i∧i≤140737488355328))(m:c.consts.length≤p.cc∧p.cc≤140737488355328)(n:TCAt w t c j k fa p)(s:ByteArray)(x y:Duty)(z A:zua)(G H:Nat)(B:x.length≤140737488355328)(C:y.length≤140737488355328)(K:SlAt za3 w z x)(L:SlAt za3 w A y):
 Calls prog 23 #[aggT t j h k i fa fc,aggC c p,.string s,.slice z x.length G,.slice A y.length H] w fun e w'=>e=.returned (.tuple #[.int .i64 (zvK t c s x y),.int .i64 (zuf t c s x y)])∧Below w.heap.size w w':=by
 try delta aggC aggT
 have M:=I n;have V:=I K;have X:=I L;clear n K L;go_enter func23,ntmps23
 go_wp2_with fail;obtain⟨N,o,b⟩:=zuN w t c j h k i fa fc p;have q:=I N;obtain⟨P,d⟩:∃P,P=w.heap.size+1:=⟨_,rfl⟩;rw[←d]at b;simp only[←d];have Y:=I o;have Q:=I b;clear d N o b;generalize (w.alloc (objT t j h k i fa fc)).alloc (objC c p)=W at*;refine(zug t c j h k i fa fc p W l m (M.1.below q.1) s x y z A G H B C (V.1.below q.1) (X.1.below q.1)).mono ?_;rintro e R ⟨Z,lc,rfl,u,f⟩;have g:=I (ztS q.1 f);have D:=I (blkA f Q.1);clear f q Y Q;by_cases a:zuf t c s x y=0
 · have v:=I a;obtain⟨S,E,T⟩:=zuS a;rw[zuB a]at u;have U:=I (zqP c p R.heap.size R (ztY _) m E (M.1.below g.1).c 2 (by decide) 2 rfl (zuh t c s x y) (zuh t c s x y) (zu8 S E T).self Z lc (zuh t c s x y).length rfl u);rw[zuB a,zf2 (show(zuh t c s x y).length=(zk 2).length from rfl)];clear S E T u;obtain⟨y0,y1,y2,y3,y4,y5,y6,y7,y8,y9,a0,a1,a2,a3,yl⟩:=zbZ D.1;rw[a];clear a;go_wp2_with fail;refine U.1.mono ?_;rintro e w2 ⟨rfl,r⟩;have F:=I (ztS g.1 r);clear r U;go_wp2_with fail;go_ret2;exact⟨zJ (zvP v.1).symm v.1.symm,F.1⟩
 have e1:(zuf t c s x y !=0)=true:=by simpa using a
 have v:=I a;clear a u;go_wp2_with fail;go_ret2;exact⟨zJ (zvt v.1).symm rfl,g.1⟩
inductive zv8(w:World)(t:TTM)(c:ConM)(s:ByteArray)(x y:Duty)(e:Ending)(w':World):Prop
 |bad (h:zuf t c s x y≠0) (he:e=.returned (.tuple #[.pointer none,.int .i64 (zuf t c s x y)]))
 |ok (sb:Nat) (P:SetP) (h:zuf t c s x y=0) (hx:za6 t c x=0) (hy:za6 t c y=0) (he:e=.returned (.tuple #[.pointer (some ⟨sb,0,none⟩),.int .i64 0])) (hs:zc6 w' sb t c P)
def zv1(w:World)(t:TTM)(c:ConM)(s:ByteArray)(x y:Duty)(e:Ending)(w':World):Prop:=zv8 w t c s x y e w'∧Below w.heap.size w w'
theorem zve(t:TTM)(c:ConM)(n:zua)(A:Nat)(o:zua)(B:Nat)(fa:zua)(fc:Nat)(p:ConP)(w:World)(S:NewS t c n A o B fa fc p)(q:TCAt w t c n o fa p)(s:ByteArray)(x y:Duty)(E F:zua)(T U:Nat)(G:x.length≤140737488355328)(H:y.length≤140737488355328)(V:SlAt za3 w E x)(X:SlAt za3 w F y):Calls prog 58 #[aggT t n A o B fa fc,aggC c p,.string s,.slice E x.length T,.slice F y.length U] w (zv1 w t c s x y):=by
 try delta aggC aggT
 have HT:=I q;have HX:=I V;have HY:=I X;have HN:=I S;clear q V X S;go_enter func58,ntmps58
 go_wp2_with fail;obtain⟨Y,r,f⟩:=zuN w t c n A o B fa fc p;have K:=I Y;obtain⟨Z,g⟩:∃Z,Z=w.heap.size+1:=⟨_,rfl⟩;rw[←g]at f;simp only[←g];have QT:=I r;have QC:=I f;clear g Y r f;generalize (w.alloc (objT t n A o B fa fc)).alloc (objC c p)=W at*;clear QT QC;refine(HN.1 W (HT.1.below K.1)).mono ?_;rintro e w1 ⟨u,v⟩;have d:=I (ztS K.1 v);clear v K;rcases u with⟨h,rfl⟩|⟨h,C,rfl⟩|⟨L,P,rfl,D,_,hn⟩
 · have h':(zY t !=0)=true:=by simpa using h
   have a:=I (show zY t=zuf t c s x y from(tcE_t h).symm);have M:=I h;clear h;go_wp2_with fail;go_ret2;exact⟨.bad (by rw[←a.1];exact M.1) (ziN a.1),d.1⟩
 · have h':(valT c !=0)=true:=by simpa using C
   have a:=I (show valT c=zuf t c s x y from(tcE_c h C).symm);have M:=I C;clear h C;go_wp2_with fail;go_ret2;exact⟨.bad (by rw[←a.1];exact M.1) (ziN a.1),d.1⟩
 have N:=I D;have a:=I (show zuf t c s x y=if zul t s=true then zub t c x y else 6 from tcE_d D.okT D.okC);clear D hn;go_wp2_with fail;refine(zut w1 L t c P N.1 s).mono ?_;rintro e w2 ⟨rfl,i⟩;have b:=I (ztS d.1 i);have j:=I (N.1.below i);clear i d N;by_cases m:zul t s=true
 · rw[if_pos m]at a;rw[m];clear m;go_wp2_with fail;refine(zud w2 L t c P j.1 x y E F T U G H (HX.1.below b.1) (HY.1.below b.1)).mono ?_;rintro e w3 ⟨rfl,k⟩;have z:=I (ztS b.1 k);have Q:=I (j.1.below k);clear k b j;by_cases l:zub t c x y=0
   · have HR:=I (zuC l);have HZ:=I (a.1.trans l);rw[l];clear l a;go_wp2_with fail;go_ret2;exact⟨.ok L P HZ.1 HR.1.1 HR.1.2 rfl Q.1,z.1⟩
   have h':(zub t c x y !=0)=true:=by simpa using l
   have R:=I (show zuf t c s x y≠0 by rw[a.1];exact l);clear l;go_wp2_with fail;go_ret2;exact⟨.bad R.1 (ziN a.1.symm),z.1⟩
 rw[if_neg m]at a;rw[show zul t s=false by simpa using m];have R:=I (show zuf t c s x y≠0 by rw[a.1];decide);clear m;go_wp2_with fail;go_ret2;exact⟨.bad R.1 (ziN a.1.symm),b.1⟩
theorem zvf(w:World)(l:Nat)(t:TTM)(c:ConM)(P:SetP)(a:zc6 w l t c P)(s:ByteArray)(x y:Duty)(m n:zua)(u v:Nat)(z:za6 t c x=0∧za6 t c y=0)(A:za6 t c x=0)(B:za6 t c y=0)(d:SlAt za3 w m x)(f:SlAt za3 w n y):Calls prog 59 #[.pointer (some ⟨l,0,none⟩),.string s,.slice m x.length u,.slice n y.length v] w (VOwn w ((brkV c 2 (zuh t c s x y)).map fun s=>(2,0,s))):=by
 have K:=I a;have C:=zu8 (s:=s) a.okT a.okC z;have L:=I (zpt a.okC (by decide) C);have M:=zda a.okC;have N:=zl3 c 2;have D:=I (zur w l t c P a s x y m n u v A B d f);clear a A B d f C z;go_enter func59,ntmps59
 go_wp2_with fail;refine D.1.mono ?_;rintro e Q ⟨R,S,rfl,E,b⟩;have o:=I b;have F:=I (zv0 Q l t c P (K.1.below b) (zuh t c s x y) R S (by rw[zuH];decide) E (by omega) (by rw[zu9];exact L.1));clear E b D;go_wp2_with fail;refine F.1.mono ?_;rintro e p ⟨W,rfl,g,h⟩;have i:=I (ztS o.1 h);obtain⟨T,U,rfl,G⟩:=zkk.of_own g;have H:=I (zib p.heap.size [] (.slice none 0 0) p (ztY _) (World.ownsRow_nil _ _ _ _) 2 0 (brkV c 2 (zuh t c s x y)) T U G (by have:=zj7 (limV ((2:Nat):Int) (zuh t c s x y)) (zaR c 2) (zaR c 2).length;simp only[List.length_nil];unfold brkV;omega));clear g G h F;go_wp2_with fail;refine H.1.mono ?_;rintro e X ⟨V,rfl,j,k,_⟩;have q:=I (ztS i.1 k);have r:=I j;clear j k H;go_wp2_with fail;go_ret;exact⟨V,p.heap.size,rfl,i.1.size,by simpa using r.1,q.1⟩
theorem zvh(t:TTM)(c:ConM)(i:zua)(l:Nat)(j:zua)(m:Nat)(fa:zua)(fc:Nat)(p:ConP)(w:World)(N:NewS t c i l j m fa fc p)(n:TCAt w t c i j fa p)(s:ByteArray)(x y:Duty)(D E:zua)(F G:Nat)(H:x.length≤140737488355328)(K:y.length≤140737488355328)(Q:SlAt za3 w D x)(R:SlAt za3 w E y):
 Calls prog 20 #[aggT t i l j m fa fc,aggC c p,.string s,.slice D x.length F,.slice E y.length G] w (VPost w (zvA t c s x y) (zuf t c s x y)):=by
 try delta aggC aggT
 have HT:=I n;have S:=I Q;have T:=I R;have HN:=I N;clear n Q R N;go_enter func20,ntmps20
 go_wp2_with fail;obtain⟨U,o,d⟩:=zuN w t c i l j m fa fc p;have q:=I U;obtain⟨V,f⟩:∃V,V=w.heap.size+1:=⟨_,rfl⟩;rw[←f]at d;simp only[←f];have QT:=I o;have QC:=I d;clear f U o d;generalize (w.alloc (objT t i l j m fa fc)).alloc (objC c p)=W at*;refine(zve t c i l j m fa fc p W HN.1 (HT.1.below q.1) s x y D E F G H K (S.1.below q.1) (T.1.below q.1)).mono ?_;rintro e w1 ⟨r,u⟩;have a:=I (ztS q.1 u);clear u q QT QC;rcases r with⟨h,rfl⟩|⟨sb,P,h,z,A,rfl,X⟩
 · have k:=I h;have e1:(zuf t c s x y !=0)=true:=by simpa using h
   clear h;go_wp2_with fail;go_ret2;exact⟨none,0,ziM (by rw[zuU k.1];rfl) rfl,.inl (zuU k.1),a.1⟩
 have k:=I h;have Y:=I (zvf w1 sb t c P X s x y D E F G (zuS h).2.2 z A (S.1.below a.1) (T.1.below a.1));clear X h z A;go_wp2_with fail;refine Y.1.mono ?_;rintro e w2 ⟨v,Z,rfl,g,b,B⟩;have L:=I (ztS a.1 B);obtain⟨a3,c3,rfl,C⟩:=zgN.of_own b;have M:=I C;clear B Y b g C;go_wp2_with fail;go_ret2;exact⟨a3,c3,ziM (by rw[zvn k.1,List.length_map] <;> rfl) k.1.symm,by rw[zvn k.1];exact M.1,L.1⟩
theorem zvp(t:TTM)(c:ConM)(i:zua)(k:Nat)(j:zua)(l:Nat)(fa:zua)(fc:Nat)(p:ConP)(w:World)(L:NewS t c i k j l fa fc p)(m:TCAt w t c i j fa p)(s:ByteArray)(x y:Duty)(A B:zua)(D E:Nat)(F:x.length≤140737488355328)(G:y.length≤140737488355328)(M:SlAt za3 w A x)(N:SlAt za3 w B y):
 Calls prog 22 #[aggT t i k j l fa fc,aggC c p,.string s,.slice A x.length D,.slice B y.length E] w fun e w'=>e=.returned (.tuple #[.int .i64 (zvK t c s x y),.int .i64 (zuf t c s x y)])∧Below w.heap.size w w':=by
 try delta aggC aggT
 have HT:=I m;have Q:=I M;have R:=I N;have HN:=I L;clear m M N L;go_enter func22,ntmps22
 go_wp2_with fail;obtain⟨S,n,b⟩:=zuN w t c i k j l fa fc p;have o:=I S;obtain⟨T,d⟩:∃T,T=w.heap.size+1:=⟨_,rfl⟩;rw[←d]at b;simp only[←d];have QT:=I n;have QC:=I b;clear d S n b;generalize (w.alloc (objT t i k j l fa fc)).alloc (objC c p)=W at*;refine(zve t c i k j l fa fc p W HN.1 (HT.1.below o.1) s x y A B D E F G (Q.1.below o.1) (R.1.below o.1)).mono ?_;rintro e w1 ⟨q,r⟩;have a:=I (ztS o.1 r);clear r o QT QC;rcases q with⟨h,rfl⟩|⟨U,P,h,u,v,rfl,f⟩
 · have C:=I h;have e1:(zuf t c s x y !=0)=true:=by simpa using h
   clear h;go_wp2_with fail;go_ret2;exact⟨zJ (zvt C.1).symm rfl,a.1⟩
 have C:=I h;have HS:=I f;have V:=zu8 (s:=s) f.okT f.okC (zuS h).2.2;have HF:=I (zqN f.okC (by decide) V);have a0:=zda f.okC;have a1:=zmx c 2;have X:=I (zur w1 U t c P f s x y A B D E u v (Q.1.below a.1) (R.1.below a.1));clear f h u v V;go_wp2_with fail;refine X.1.mono ?_;rintro e w2 ⟨qa,qc,rfl,Y,g⟩;have H:=I (ztS a.1 g);have Z:=I (zvZ w2 U t c P (HS.1.below g) (zuh t c s x y) qa qc (by rw[zuH];decide) Y (by omega) (by rw[zu9];exact HF.1));clear Y g X;go_wp2_with fail;refine Z.1.mono ?_;rintro e w3 ⟨rfl,z⟩;have K:=I (ztS H.1 z);clear z Z;go_wp2_with fail;go_ret2;exact⟨zJ (zvE C.1).symm C.1.symm,K.1⟩
end Go.Proofs.YtllakjblamfjbaaGreat
