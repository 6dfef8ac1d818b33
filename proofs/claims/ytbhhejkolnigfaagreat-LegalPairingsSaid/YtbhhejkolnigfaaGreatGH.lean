/- a part of the proof -/
import Derived.Test.YtbhhejkolnigfaaGreatGF
import Derived.Test.YtbhhejkolnigfaaGreatG5
set_option linter.unusedVariables false
set_option linter.unusedSimpArgs false
set_option maxRecDepth 100000
set_option maxHeartbeats 51200000
namespace Go.Proofs.YtbhhejkolnigfaaGreat
open Go.RowKit Go.Sort Go.Proofs.Tryz
theorem zea{X:Type}(nm:X->ByteArray)(d:X)(l:List X)(i:Nat)(s:ByteArray)(f:i<=l.length)(h:∀m,m<i->nm (l.getD m d)≠s):hasB ((l.take i).map nm) s=false:=by
 rw[hasB,List.any_eq_false];intro x a;obtain⟨y,b,rfl⟩:=List.mem_map.1 a;obtain⟨m,c,rfl⟩:=List.mem_iff_getElem.1 b;rw[List.length_take]at c;have:=h m (by omega);rw[zt0,zt1 (by omega)]at this;rw[List.getElem_take];simpa using λe=>this (show nm l[m]=s from e.symm)
theorem zdA{X:Type}(nm:X->ByteArray)(d:X)(l:List X)(i j:Nat)(s:ByteArray)(a:j<i)(b:i<=l.length)(h:nm (l.getD j d)=s):hasB ((l.take i).map nm) s=true:=by
 rw[hasB,List.any_eq_true];refine⟨nm (l.getD j d),List.mem_map.2 ⟨l.getD j d,?_,rfl⟩,decide_eq_true h.symm⟩;rw[zt0,zt1 (by omega)];exact List.mem_iff_getElem.2 ⟨j,by rw[List.length_take];omega,by rw[List.getElem_take];rfl⟩
theorem zlh(l:List zcx)(i:Nat)(a:Int)(s:ByteArray)(e:i<=l.length)(h:∀m,m<i->¬ ((rlAt l m).scope=a/\(rlAt l m).name=s)):hasR ((l.take i).map λr=>(r.scope,r.name)) a s=false:=by
 rw[hasR,List.any_eq_false];intro x b;obtain⟨y,c,rfl⟩:=List.mem_map.1 b;obtain⟨m,d,rfl⟩:=List.mem_iff_getElem.1 c;rw[List.length_take]at d;have:=h m (by omega);unfold rlAt at this
 rw[zt0,zt1 (by omega)]at this;rw[List.getElem_take];simpa using this
theorem zjL(l:List zcx)(i j:Nat)(a:Int)(s:ByteArray)(b:j<i)(c:i<=l.length)(h:(rlAt l j).scope=a/\(rlAt l j).name=s):hasR ((l.take i).map λr=>(r.scope,r.name)) a s=true:=by
 rw[hasR,List.any_eq_true];refine⟨((rlAt l j).scope,(rlAt l j).name),List.mem_map.2 ⟨rlAt l j,?_,rfl⟩,by simp[h]⟩;unfold rlAt
 rw[zt0,zt1 (by omega)];exact List.mem_iff_getElem.2 ⟨j,by rw[List.length_take];omega,by rw[List.getElem_take];rfl⟩
theorem zkM(l:List zB)(k:Nat)(h:k<l.length):l.take (k+1)=l.take k++ [csAt l k]:=by
 rw[List.take_succ_eq_append_getElem h,csAt,zt0,zt1 h];rfl
theorem zkL(l:List zcx)(k:Nat)(h:k<l.length):l.take (k+1)=l.take k++ [rlAt l k]:=by
 rw[List.take_succ_eq_append_getElem h,rlAt,zt0,zt1 h];rfl
theorem zpd(l:List LimM)(k:Nat)(h:k<l.length):l.take (k+1)=l.take k++ [liAt l k]:=by
 rw[List.take_succ_eq_append_getElem h,liAt,zt0,zt1 h];rfl
theorem zpc(l:List OffM)(k:Nat)(h:k<l.length):l.take (k+1)=l.take k++ [ofAt l k]:=by
 rw[List.take_succ_eq_append_getElem h,ofAt,zt0,zt1 h];rfl
theorem blkA{w w':World}{o:Obj}{b:Nat}(a:Bw w w')(q:w.heap[b]?=some o):w'.heap[b]?=some o:=(a.block b (ztW q)).trans q
theorem dr(w:World)(n:Nat):Bw w (w.drewN n):=below_drewN (ztT _ _) n
theorem znF{a:List ByteArray}{l:List LimM}{k:Nat}(b:k<l.length)(h:zZ (liAt l k).name=true)(c:hasB a (liAt l k).name=false):zcu a (l.drop k)=if zf9 (liAt l k).meas=0 then(6,a) else if(btwB (liAt l k).most 0 599999&&btwB (liAt l k).days 1 31)=false then(5,a) else zcu (a++ [(liAt l k).name]) (l.drop (k+1)):=by
 rw[zga l k b,zcu,if_neg (by simp[h]),if_neg (by simp[c])]
theorem znE{a:List ByteArray}{l:List OffM}{k:Nat}(b:k<l.length)(h:zZ (ofAt l k).name=true)(c:hasB a (ofAt l k).name=false):zdt a (l.drop k)=if(btwB (ofAt l k).days 1 31&&btwB (ofAt l k).cnt 1 (ofAt l k).days)=false then 5 else zdt (a++ [(ofAt l k).name]) (l.drop (k+1)):=by
 rw[zhx l k b,zdt,if_neg (by simp[h]),if_neg (by simp[c])]
theorem zfj(l m:List ByteArray)(s:ByteArray):hasB (l++m) s=(hasB l s || hasB m s):=by rw[hasB,hasB,hasB,List.any_append]
def zh7{X:Type}(at':List X->Nat->X)(nm:X->ByteArray)(l:List X)(s:ByteArray)(j:Nat):Prop:=∀m,m<j->nm (at' l m)≠s
theorem zh7.step{X:Type}{a:List X->Nat->X}{nm:X->ByteArray}{l:List X}{s:ByteArray}{j:Nat}(h:zh7 a nm l s j)(e:(((nm (a l j)).toList)==s.toList)=false):zh7 a nm l s (j+1):=by
 intro m c;by_cases b:m=j
 . subst b;rw[zV]at e;simpa using e
 exact h m (by omega)
theorem zf8{a b:ByteArray}(h:(a.toList==b.toList)=true):a=b:=by rw[zV]at h;simpa using h
theorem zkp(c:ConM)(p:ConP)(w:World)(B:Nat)(V:B<=w.heap.size)(ha:zdr B w c p):
 Calls prog 175 #[aggC c p] w λe D=>e=.returned (za1 c)/\Bw w D:=by
 try delta aggC aggT
 have a4:=ha.lims.1;have a5:=ha.offs.1;have X:=I ha;clear ha;go_enter func175,ntmps175
 go_wp2_with fail;have HX:=I (zh w (objC c p));have HB:=I (J w (objC c p));generalize w.alloc (objC c p)=W at*;go_loopw [3] (λi wr=>∃(k:Nat),k<=c.lims.length/\i=.int .i64 k/\ztR (zcu [] c.lims=zcu ((c.lims.take k).map LimM.name) (c.lims.drop k))/\ztR (wr.heap[w.heap.size]?=some (objC c p))/\ztR (Bw w wr)) (λi _=>c.lims.length-(intOf i).toNat)
 case atStart=>exact⟨0,ztX _,rfl,I rfl,HX,HB⟩
 obtain⟨k,T,rfl,C,K,g⟩:=hrel;have t:=zby K.1;have x:=zbx K.1;have N:=ztW K.1;by_cases n:k<c.lims.length
 . obtain⟨b,L,h,hb,l⟩:=(X.1.keep (g.1.mono V)).lims.cells (by omega);obtain⟨U,c1,c2,c3,s1,s2⟩:=l k n;have M:b<wr.heap.size:=by have:=g.1.size;omega
   rw[h]at t;clear h;have sm:(liAt c.lims k).name.size<=maxLen:=by unfold maxLen;omega
   have E:=I (ztS g.1 (J wr (oL (liAt c.lims k))));have F:=I (blkA (J wr (oL (liAt c.lims k))) K.1);have G:=I (zh wr (oL (liAt c.lims k)));clear l x;go_wp2_with fail;clear U c1 c2 c3 t N;generalize wr.alloc (oL (liAt c.lims k))=w0 at*;refine ca (zey _ _ sm) λw1 u=>?_;have a:=I (ztS E.1 u);have f:=I (blkA u F.1);have d:=I (blkA u G.1);clear u E F G;obtain⟨P,z⟩:∃P,P=wr.heap.size:=⟨_,rfl⟩;rw[<-z]at d;simp only[<-z];clear z;cases Q:zZ (liAt c.lims k).name
   . have s:=I (show za1 c=1 by unfold za1;rw[C.1,ziB n Q];rfl);go_wp2_with fail;go_ret;exact⟨ze s.1.symm,a.1⟩
   go_wp2_with fail;go_loopw [5] (λq wr=>∃j:Nat,j<=k/\q=.int .i64 j/\ztR (zh7 liAt LimM.name c.lims (liAt c.lims k).name j)/\ztR (wr.heap[w.heap.size]?=some (objC c p))/\ztR (wr.heap[P]?=some (oL (liAt c.lims k)))/\ztR (Bw w wr)) (λq _=>k-(intOf q).toNat)
   case atStart=>exact⟨0,ztX _,rfl,I (λm hm=>absurd hm (Nat.not_lt_zero _)),f,d,a⟩
   clear f d a;obtain⟨j,hj,rfl,r,f,d,a⟩:=hrel;have r0:=zw d.1;have r1:=zu d.1;have r2:=zC d.1;have r3:=zaj d.1;have rl:=ztW d.1;have t:=zby f.1;have N:=ztW f.1;by_cases A:j<k
   . obtain⟨b,L,h,hb,l⟩:=(X.1.keep (a.1.mono V)).lims.cells (by omega);obtain⟨U,_⟩:=l j (by omega);have M:b<wr.heap.size:=by have:=a.1.size;omega
     rw[h]at t;clear h;have a2:j<c.lims.length:=by omega
     clear l;cases R:((liAt c.lims j).name.toList==(liAt c.lims k).name.toList)
     . have o:=I (r.1.step R);go_wp2_with fail;go_quiet (fail)
       go_wp2_with fail;go_roundw
       case rel=>first|exact⟨j+1,by omega,by go_num,o,I (blkA (dr _ _) f.1),I (blkA (dr _ _) d.1),I (ztS a.1 (dr _ _))⟩|((repeat apply Exists.intro);exact⟨⟨j+1,by omega,by go_num,o,I (blkA (dr _ _) f.1),I (blkA (dr _ _) d.1),I (ztS a.1 (dr _ _))⟩,rfl⟩)
       case measure=>simp[intOf];omega
     have s:=I (show za1 c=7 by unfold za1;rw[C.1,zkz n Q (zdA LimM.name _ c.lims k j _ A T (zf8 R))];rfl);go_wp2_with fail;go_quiet (fail)
     go_wp2_with fail;go_ret;exact⟨ze s.1.symm,ztS a.1 (dr _ _)⟩
   obtain rfl:j=k:=by omega
   have y:=I (C.1.trans (znF n Q (zea LimM.name _ c.lims j _ T r.1)));clear t r C;cases e3:(zla (liAt c.lims j).meas==0)
   . have v:¬ zf9 (liAt c.lims j).meas=0:=by rw[<-zhz];simpa using e3
     cases S:btwB (liAt c.lims j).most 0 599999
     . have s:=I (show za1 c=5 by unfold za1;rw[y.1,if_neg v,S];rfl);clear v;go_wp2_with (first|(go_at_call 203;refine cb (zdz _ _) ?_)|(go_at_call 172;refine cb (zS _ _ _ _) ?_))
       go_ret;exact⟨ze s.1.symm,a.1⟩
     cases Y:btwB (liAt c.lims j).days 1 31
     . have s:=I (show za1 c=5 by unfold za1;rw[y.1,if_neg v,S,Y];rfl);clear v;go_wp2_with (first|(go_at_call 203;refine cb (zdz _ _) ?_)|(go_at_call 172;refine cb (zS _ _ _ _) ?_))
       go_ret;exact⟨ze s.1.symm,a.1⟩
     have H:=I (show zcu [] c.lims=zcu ((c.lims.take (j+1)).map LimM.name) (c.lims.drop (j+1)) by rw[y.1,if_neg v,S,Y,zpd _ _ n,zt3];rfl);clear v;go_wp2_with (first|(go_at_call 203;refine cb (zdz _ _) ?_)|(go_at_call 172;refine cb (zS _ _ _ _) ?_))
     go_roundw
     case rel=>first|exact⟨j+1,by omega,by go_num,H,f,a⟩|((repeat apply Exists.intro);exact⟨⟨j+1,by omega,by go_num,H,f,a⟩,rfl⟩)
     case measure=>simp[intOf];omega
   have v:zf9 (liAt c.lims j).meas=0:=by rw[<-zhz];simpa using e3
   have s:=I (show za1 c=6 by unfold za1;rw[y.1,if_pos v];rfl);clear v;go_wp2_with (first|(go_at_call 203;refine cb (zdz _ _) ?_)|(go_at_call 172;refine cb (zS _ _ _ _) ?_))
   go_ret;exact⟨ze s.1.symm,a.1⟩
 obtain rfl:k=c.lims.length:=by omega
 have Z:zcu [] c.lims=(0,c.lims.map LimM.name):=C.1.trans (by rw[zt6,List.take_length];rfl);have a0:=I (show za1 c=zdt (c.lims.map LimM.name) c.offs by unfold za1;rw[Z];rfl);clear Z C T n;go_wp2_with fail;clear t x N;go_loopw [6] (λi wr=>∃(k:Nat),k<=c.offs.length/\i=.int .i64 k/\ztR (za1 c=zdt (c.lims.map LimM.name++(c.offs.take k).map OffM.name) (c.offs.drop k))/\ztR (wr.heap[w.heap.size]?=some (objC c p))/\ztR (Bw w wr)) (λi _=>c.offs.length-(intOf i).toNat)
 case atStart=>exact⟨0,ztX _,rfl,I (by rw[a0.1,List.take_zero,List.map_nil,List.append_nil];rfl),K,g⟩
 clear a0 K g;obtain⟨k,T,rfl,C,K,g⟩:=hrel;have x:=zbx K.1;have N:=ztW K.1;by_cases n:k<c.offs.length
 . obtain⟨b,L,h,hb,l⟩:=(X.1.keep (g.1.mono V)).offs.cells (by omega);obtain⟨U,c1,c2,s1⟩:=l k n;have M:b<wr.heap.size:=by have:=g.1.size;omega
   rw[h]at x;clear h;have sm:(ofAt c.offs k).name.size<=maxLen:=by unfold maxLen;omega
   have E:=I (ztS g.1 (J wr (oO (ofAt c.offs k))));have F:=I (blkA (J wr (oO (ofAt c.offs k))) K.1);have G:=I (zh wr (oO (ofAt c.offs k)));clear l;go_wp2_with fail;clear U c1 c2 x N;generalize wr.alloc (oO (ofAt c.offs k))=w0 at*;refine ca (zey _ _ sm) λw1 u=>?_;have a:=I (ztS E.1 u);have f:=I (blkA u F.1);have d:=I (blkA u G.1);clear u E F G;obtain⟨P,z⟩:∃P,P=wr.heap.size:=⟨_,rfl⟩;rw[<-z]at d;simp only[<-z];clear z;cases Q:zZ (ofAt c.offs k).name
   . have s:=I (show za1 c=1 by rw[C.1,ziA n Q]);go_wp2_with fail;go_ret;exact⟨ze s.1.symm,a.1⟩
   have a3:=zby f.1;have gl:=ztW f.1;go_wp2_with fail;clear a3 gl;go_loopw [8] (λq wr=>∃j:Nat,j<=c.lims.length/\q=.int .i64 j/\ztR (zh7 liAt LimM.name c.lims (ofAt c.offs k).name j)/\ztR (wr.heap[w.heap.size]?=some (objC c p))/\ztR (wr.heap[P]?=some (oO (ofAt c.offs k)))/\ztR (Bw w wr)) (λq _=>c.lims.length-(intOf q).toNat)
   case atStart=>exact⟨0,ztX _,rfl,I (λm hm=>absurd hm (Nat.not_lt_zero _)),f,d,a⟩
   clear f d a;obtain⟨j,hj,rfl,r,f,d,a⟩:=hrel;have r0:=zw d.1;have rl:=ztW d.1;have t:=zby f.1;have N:=ztW f.1;by_cases A:j<c.lims.length
   . obtain⟨b,L,h,hb,l⟩:=(X.1.keep (a.1.mono V)).lims.cells (by omega);obtain⟨U,_⟩:=l j A;have M:b<wr.heap.size:=by have:=a.1.size;omega
     rw[h]at t;clear h;clear l;cases R:((liAt c.lims j).name.toList==(ofAt c.offs k).name.toList)
     . have o:=I (r.1.step R);go_wp2_with fail;go_quiet (fail)
       go_wp2_with fail;go_roundw
       case rel=>first|exact⟨j+1,by omega,by go_num,o,I (blkA (dr _ _) f.1),I (blkA (dr _ _) d.1),I (ztS a.1 (dr _ _))⟩|((repeat apply Exists.intro);exact⟨⟨j+1,by omega,by go_num,o,I (blkA (dr _ _) f.1),I (blkA (dr _ _) d.1),I (ztS a.1 (dr _ _))⟩,rfl⟩)
       case measure=>simp[intOf];omega
     have s:=I (show za1 c=7 by
      have:=zdA LimM.name _ c.lims c.lims.length j _ A (ztY _) (zf8 R);rw[List.take_length]at this;rw[C.1,zg8 n Q (by rw[zfj,this];rfl)])
     go_wp2_with fail;go_quiet (fail)
     go_wp2_with fail;go_ret;exact⟨ze s.1.symm,ztS a.1 (dr _ _)⟩
   obtain rfl:j=c.lims.length:=by omega
   have a1:=I (show hasB (c.lims.map LimM.name) (ofAt c.offs k).name=false by
    have:=zea LimM.name _ c.lims c.lims.length _ (ztY _) r.1;rwa [List.take_length]at this)
   clear r A;go_wp2_with fail;clear r0 rl t N;go_loopw [9] (λq wr=>∃j:Nat,j<=k/\q=.int .i64 j/\ztR (zh7 ofAt OffM.name c.offs (ofAt c.offs k).name j)/\ztR (wr.heap[w.heap.size]?=some (objC c p))/\ztR (wr.heap[P]?=some (oO (ofAt c.offs k)))/\ztR (Bw w wr)) (λq _=>k-(intOf q).toNat)
   case atStart=>exact⟨0,ztX _,rfl,I (λm hm=>absurd hm (Nat.not_lt_zero _)),f,d,a⟩
   clear f d a;obtain⟨j,hj,rfl,r,f,d,a⟩:=hrel;have r0:=zw d.1;have r1:=zu d.1;have r2:=zC d.1;have rl:=ztW d.1;have x:=zbx f.1;have N:=ztW f.1;by_cases A:j<k
   . obtain⟨b,L,h,hb,l⟩:=(X.1.keep (a.1.mono V)).offs.cells (by omega);obtain⟨U,_⟩:=l j (by omega);have M:b<wr.heap.size:=by have:=a.1.size;omega
     rw[h]at x;clear h;have a2:j<c.offs.length:=by omega
     clear l;cases R:((ofAt c.offs j).name.toList==(ofAt c.offs k).name.toList)
     . have o:=I (r.1.step R);go_wp2_with fail;go_quiet (fail)
       go_wp2_with fail;go_roundw
       case rel=>first|exact⟨j+1,by omega,by go_num,o,I (blkA (dr _ _) f.1),I (blkA (dr _ _) d.1),I (ztS a.1 (dr _ _))⟩|((repeat apply Exists.intro);exact⟨⟨j+1,by omega,by go_num,o,I (blkA (dr _ _) f.1),I (blkA (dr _ _) d.1),I (ztS a.1 (dr _ _))⟩,rfl⟩)
       case measure=>simp[intOf];omega
     have s:=I (show za1 c=7 by rw[C.1,zg8 n Q (by rw[zfj,zdA OffM.name _ c.offs k j _ A T (zf8 R),Bool.or_true])]);go_wp2_with fail;go_quiet (fail)
     go_wp2_with fail;go_ret;exact⟨ze s.1.symm,ztS a.1 (dr _ _)⟩
   obtain rfl:j=k:=by omega
   have y:=I (C.1.trans (znE n Q (by rw[zfj,a1.1,zea OffM.name _ c.offs j _ T r.1];rfl)));clear x r C;cases S:btwB (ofAt c.offs j).days 1 31
   . have s:=I (show za1 c=5 by rw[y.1,S];rfl);go_wp2_with (go_at_call 172;refine cb (zS _ _ _ _) ?_)
     go_ret;exact⟨ze s.1.symm,a.1⟩
   cases Y:btwB (ofAt c.offs j).cnt 1 (ofAt c.offs j).days
   . have s:=I (show za1 c=5 by rw[y.1,S,Y];rfl);go_wp2_with (go_at_call 172;refine cb (zS _ _ _ _) ?_)
     go_ret;exact⟨ze s.1.symm,a.1⟩
   have H:=I (show za1 c=zdt (c.lims.map LimM.name++(c.offs.take (j+1)).map OffM.name) (c.offs.drop (j+1)) by rw[y.1,S,Y,zpc _ _ n,zt3,<-List.append_assoc];rfl);go_wp2_with (go_at_call 172;refine cb (zS _ _ _ _) ?_)
   go_roundw
   case rel=>first|exact⟨j+1,by omega,by go_num,H,f,a⟩|((repeat apply Exists.intro);exact⟨⟨j+1,by omega,by go_num,H,f,a⟩,rfl⟩)
   case measure=>simp[intOf];omega
 obtain rfl:k=c.offs.length:=by omega
 have s:=I (show za1 c=0 by rw[C.1,zt6,zdt]);go_wp2_with fail;go_ret;exact⟨ze s.1.symm,g.1⟩
theorem zg6(c:ConM)(p:ConP)(w:World)(h:zcy c=false):Calls prog 125 #[aggC c p] w λe a=>e=.returned (.int .i64 5)/\Bw w a:=by
 try delta aggC aggT
 cases b:btwB c.report 0 1440
 . clear h;go_enter func125,ntmps125
   go_wp2_with (go_at_call 172;refine cb (zS _ _ _ _) ?_)
   go_ret;exact⟨rfl,J _ _⟩
 cases d:btwB c.release 0 1440
 . clear h;go_enter func125,ntmps125
   go_wp2_with (go_at_call 172;refine cb (zS _ _ _ _) ?_)
   go_ret;exact⟨rfl,J _ _⟩
 cases f:btwB c.connect 0 1440
 . clear h;go_enter func125,ntmps125
   go_wp2_with (go_at_call 172;refine cb (zS _ _ _ _) ?_)
   go_ret;exact⟨rfl,J _ _⟩
 cases g:btwB c.sit c.connect 1440
 . clear h;go_enter func125,ntmps125
   go_wp2_with (go_at_call 172;refine cb (zS _ _ _ _) ?_)
   go_ret;exact⟨rfl,J _ _⟩
 cases i:btwB c.layover 0 10080
 . clear h;go_enter func125,ntmps125
   go_wp2_with (go_at_call 172;refine cb (zS _ _ _ _) ?_)
   go_ret;exact⟨rfl,J _ _⟩
 cases j:btwB c.nf 0 1439
 . clear h;go_enter func125,ntmps125
   go_wp2_with (go_at_call 172;refine cb (zS _ _ _ _) ?_)
   go_ret;exact⟨rfl,J _ _⟩
 cases k:btwB c.nt 0 1439
 . clear h;go_enter func125,ntmps125
   go_wp2_with (go_at_call 172;refine cb (zS _ _ _ _) ?_)
   go_ret;exact⟨rfl,J _ _⟩
 cases l:btwB c.guar 0 599999
 . clear h;go_enter func125,ntmps125
   go_wp2_with (go_at_call 172;refine cb (zS _ _ _ _) ?_)
   go_ret;exact⟨rfl,J _ _⟩
 simp[zcy,b,d,f,g,i,j,k,l]at h
theorem zg5(c:ConM)(p:ConP)(w:World)(b:zcy c=true)(h:zdP c=false):Calls prog 125 #[aggC c p] w λe a=>e=.returned (.int .i64 10)/\Bw w a:=by
 try delta aggC aggT
 simp only[zcy,zt5]at b;obtain⟨⟨⟨⟨⟨⟨⟨d,f⟩,g⟩,i⟩,j⟩,k⟩,l⟩,m⟩:=b;by_cases n:32<c.consts.length
 . clear h;go_enter func125,ntmps125
   go_wp2_with (go_at_call 172;refine cb (zS _ _ _ _) ?_)
   go_ret;exact⟨rfl,J _ _⟩
 by_cases o:40<c.rules.length
 . clear h;go_enter func125,ntmps125
   go_wp2_with (go_at_call 172;refine cb (zS _ _ _ _) ?_)
   go_ret;exact⟨rfl,J _ _⟩
 by_cases q:16<c.costs.length
 . clear h;go_enter func125,ntmps125
   go_wp2_with (go_at_call 172;refine cb (zS _ _ _ _) ?_)
   go_ret;exact⟨rfl,J _ _⟩
 by_cases r:1<c.credit.length
 . clear h;go_enter func125,ntmps125
   go_wp2_with (go_at_call 172;refine cb (zS _ _ _ _) ?_)
   go_ret;exact⟨rfl,J _ _⟩
 by_cases s:16<c.lims.length
 . clear h;go_enter func125,ntmps125
   go_wp2_with (go_at_call 172;refine cb (zS _ _ _ _) ?_)
   go_ret;exact⟨rfl,J _ _⟩
 by_cases t:16<c.offs.length
 . clear h;go_enter func125,ntmps125
   go_wp2_with (go_at_call 172;refine cb (zS _ _ _ _) ?_)
   go_ret;exact⟨rfl,J _ _⟩
 simp[zdP]at h
 omega
theorem zg7(c:ConM)(p:ConP)(w:World)(B:Nat)(hB:B<=w.heap.size)(ha:zdr B w c p):
 Calls prog 125 #[aggC c p] w λe w'=>e=.returned (valG c)/\Bw w w':=by
 try delta aggC aggT
 cases h0:zcy c
 . exact(zg6 c p w h0).mono (by rintro e w' ⟨rfl,h⟩;exact⟨ze (by rw[valG,if_pos h0]),h⟩)
 cases h1:zdP c
 . exact(zg5 c p w h0 h1).mono (by rintro e w' ⟨rfl,h⟩;exact⟨ze (by rw[valG,if_neg (by simp[h0]),if_pos h1]),h⟩)
 have Hv:=I (show valG c=if zcw [] c.consts≠0 then zcw [] c.consts else if zbW [] c.rules≠0 then zbW [] c.rules else if zcv c.costs≠0 then zcv c.costs else if zds c.credit≠0 then zds c.credit else za1 c by rw[valG,if_neg (by simp[h0]),if_neg (by simp[h1])]);simp only[zcy,zt5]at h0;obtain⟨⟨⟨⟨⟨⟨⟨b0,b1⟩,b2⟩,b3⟩,b4⟩,b5⟩,b6⟩,b7⟩:=h0;simp only[zdP,zt5,decide_eq_true_eq]at h1;obtain⟨⟨⟨⟨⟨s0,s1⟩,s2⟩,s3⟩,s4⟩,s5⟩:=h1;have HA:=I ha;clear ha;go_enter func125,ntmps125
 go_wp2_with (go_at_call 172;refine cb (zS _ _ _ _) ?_)
 clear b0 b1 b2 b3 b4 b5 b6 b7;have HX:=I (zh w (objC c p));have HB:=I (J w (objC c p));generalize w.alloc (objC c p)=W at*;go_loopw [3] (λi wr=>∃(k:Nat),k<=c.consts.length/\i=.int .i64 k/\ztR (zcw [] c.consts=zcw ((c.consts.take k).map zB.name) (c.consts.drop k))/\ztR (wr.heap[w.heap.size]?=some (objC c p))/\ztR (Bw w wr)) (λi _=>c.consts.length-(intOf i).toNat)
 case atStart=>exact⟨0,ztX _,rfl,I rfl,HX,HB⟩
 clear HX HB;obtain⟨k,S,rfl,E,s,a⟩:=hrel;have q7:=zaK s.1;have Q:=ztW s.1;by_cases d:k<c.consts.length
 . obtain⟨b,T,y,hb,t⟩:=(HA.1.keep (a.1.mono hB)).consts.cells (by omega);obtain⟨c0,a7,N,n,⟨X,Y,Z,c4⟩,o,f⟩:=t k d;have P:b<wr.heap.size:=by have:=a.1.size;omega
   rw[y]at q7;clear y;have sm:(csAt c.consts k).name.size<=maxLen:=by unfold maxLen;omega
   clear t f o;go_wp2_with fail;clear c0 X Y Z c4 q7 Q;refine ca (zey _ _ sm) λw1 H=>?_;have g:=I (ztS a.1 H);have u:=I (blkA H s.1);clear H a s P;cases e1:zZ (csAt c.consts k).name
   . have l:=I (E.1.trans (ziC d e1));have K:=I (show valG c=1 by rw[Hv.1,l.1];rfl);go_wp2_with fail;go_ret;exact⟨ze K.1.symm,g.1⟩
   go_wp2_with fail;go_loopw [4] (λq wr=>∃j:Nat,j<=k/\q=.int .i64 j/\ztR (zh7 csAt zB.name c.consts (csAt c.consts k).name j)/\ztR (wr.heap[w.heap.size]?=some (objC c p))/\ztR (Bw w wr)) (λq _=>k-(intOf q).toNat)
   case atStart=>exact⟨0,ztX _,rfl,I (λm hm=>absurd hm (Nat.not_lt_zero _)),u,g⟩
   clear u g;obtain⟨j,hj,rfl,L,u,g⟩:=hrel;have q7:=zaK u.1;have Q:=ztW u.1;obtain⟨b,T,y,hb,t⟩:=(HA.1.keep (g.1.mono hB)).consts.cells (by omega);obtain⟨c0,a7,N,n,⟨X,Y,Z,c4⟩,o,f⟩:=t k d;have F:=I f;have V:=I o;have P:b<wr.heap.size:=by have:=g.1.size;omega
   rw[y]at q7;clear y;by_cases U:j<k
   . obtain⟨d0,_⟩:=t j (by omega);have b9:j<c.consts.length:=by omega
     clear t f o;cases e2:((csAt c.consts j).name.toList==(csAt c.consts k).name.toList)
     . have D:=I (L.1.step e2);go_wp2_with fail;go_quiet (fail)
       go_wp2_with fail;go_roundw
       case rel=>first|exact⟨j+1,by omega,by go_num,D,I (blkA (dr _ _) u.1),I (ztS g.1 (dr _ _))⟩|((repeat apply Exists.intro);exact⟨⟨j+1,by omega,by go_num,D,I (blkA (dr _ _) u.1),I (ztS g.1 (dr _ _))⟩,rfl⟩)
       case measure=>simp[intOf];omega
     have l:=I (E.1.trans (zkC d e1 (zdA zB.name _ c.consts k j _ U S (zf8 e2))));have K:=I (show valG c=7 by rw[Hv.1,l.1];rfl);go_wp2_with fail;go_quiet (fail)
     go_wp2_with fail;go_ret;exact⟨ze K.1.symm,ztS g.1 (dr _ _)⟩
   obtain rfl:j=k:=by omega
   have hh:=I (zea zB.name _ c.consts j _ S L.1);clear t f o L U;go_wp2_with fail;refine ca (za8 (csAt c.consts j).ex N n wr B (by have:=g.1.size;omega) V.1 F.1) λw2 x=>?_;have z:=I (ztS g.1 x);have G:=I (blkA x u.1);clear x c0 X Y Z c4 q7 Q F V;by_cases A:valE (csAt c.consts j).ex=0
   . have v:=I (E.1.trans (zmS d e1 hh.1 A));rw[A];go_wp2_with fail;go_roundw
     case rel=>first|exact⟨j+1,by omega,by go_num,I (by rw[zkM _ _ d,zt3];exact v.1),G,z⟩|((repeat apply Exists.intro);exact⟨⟨j+1,by omega,by go_num,I (by rw[zkM _ _ d,zt3];exact v.1),G,z⟩,rfl⟩)
     case measure=>simp[intOf];omega
   have v:=I (E.1.trans (zkD d e1 hh.1 A));have K:=I (show valG c=valE (csAt c.consts j).ex by rw[Hv.1,v.1];exact if_pos A);have e4:(valE (csAt c.consts j).ex !=0)=true:=by simpa using A
   clear A;go_wp2_with fail;go_ret;exact⟨ze K.1.symm,z.1⟩
 obtain rfl:k=c.consts.length:=by omega
 have l:=I (show zcw [] c.consts=0 from E.1.trans (by rw[zt6,zcw]));have R:=I (Hv.1.trans (if_neg (by rw[l.1];simp)));clear Hv E S d l;have q8:=zaX s.1;go_wp2_with fail;clear q7 q8 Q;go_loopw [6] (λi wr=>∃(k:Nat),k<=c.rules.length/\i=.int .i64 k/\ztR (zbW [] c.rules=zbW ((c.rules.take k).map λr=>(r.scope,r.name)) (c.rules.drop k))/\ztR (wr.heap[w.heap.size]?=some (objC c p))/\ztR (Bw w wr)) (λi _=>c.rules.length-(intOf i).toNat)
 case atStart=>exact⟨0,ztX _,rfl,I rfl,s,a⟩
 clear s a;obtain⟨k,S,rfl,E,s,a⟩:=hrel;have q8:=zaX s.1;have Q:=ztW s.1;by_cases d:k<c.rules.length
 . obtain⟨b,T,y,hb,t⟩:=(HA.1.keep (a.1.mono hB)).rules.cells (by omega);obtain⟨c0,X,a7,c6,N,n,⟨Y,Z,c4,c5⟩,o,f⟩:=t k d;have P:b<wr.heap.size:=by have:=a.1.size;omega
   rw[y]at q8;clear y;have sm:(rlAt c.rules k).name.size<=maxLen:=by unfold maxLen;omega
   have V:=I o;have F:=I f;have a0:=I (ztS a.1 (J wr (oR (rlAt c.rules k) N n)));have a8:=I (blkA (J wr (oR (rlAt c.rules k) N n)) s.1);have a9:=I (zh wr (oR (rlAt c.rules k) N n));have b8:=I (F.1.keep ((J wr (oR (rlAt c.rules k) N n)).mono (show B<=wr.heap.size by have:=a.1.size;omega)));clear t f o F;cases e0:btwB (rlAt c.rules k).scope 1 3
   . have l:=I (E.1.trans (zeM d (by rw[e0];rfl)));have K:=I (show valG c=1 by rw[R.1,l.1];rfl);go_wp2_with (go_at_call 172;refine cb (zS _ _ _ _) ?_)
     go_ret;exact⟨ze K.1.symm,a0.1⟩
   go_wp2_with (go_at_call 172;refine cb (zS _ _ _ _) ?_)
   clear c0 X Y Z c4 c5 q8 Q;generalize wr.alloc (oR (rlAt c.rules k) N n)=w0 at*;refine ca (zey _ _ sm) λw1 H=>?_;have g:=I (ztS a0.1 H);have u:=I (blkA H a8.1);have C:=I (blkA H a9.1);have M:=I (b8.1.keep (H.mono (show B<=w0.heap.size by have:=a0.1.size;omega)));clear H a s P a0 a8 a9 b8;obtain⟨rb,a4⟩:∃rb,rb=wr.heap.size:=⟨_,rfl⟩;rw[<-a4]at C;simp only[<-a4];clear a4;cases e1:zZ (rlAt c.rules k).name
   . have l:=I (E.1.trans (zeM d (by rw[e0,e1];rfl)));have K:=I (show valG c=1 by rw[R.1,l.1];rfl);go_wp2_with fail;go_ret;exact⟨ze K.1.symm,g.1⟩
   have a5:=I (show(btwB (rlAt c.rules k).scope 1 3&&zZ (rlAt c.rules k).name)=true by rw[e0,e1];rfl);clear e0;go_wp2_with fail;go_loopw [8] (λq wr=>∃j:Nat,j<=k/\q=.int .i64 j/\ztR (∀m,m<j->¬ ((rlAt c.rules m).scope=(rlAt c.rules k).scope/\(rlAt c.rules m).name=(rlAt c.rules k).name))/\ztR (wr.heap[w.heap.size]?=some (objC c p))/\ztR (wr.heap[rb]?=some (oR (rlAt c.rules k) N n))/\ztR (zaz B wr N (rlAt c.rules k).ex.args)/\ztR (Bw w wr)) (λq _=>k-(intOf q).toNat)
   case atStart=>exact⟨0,ztX _,rfl,I (λm hm=>absurd hm (Nat.not_lt_zero _)),u,C,M,g⟩
   clear u C M g;obtain⟨j,hj,rfl,L,u,C,M,g⟩:=hrel;have q8:=zaX u.1;have Q:=ztW u.1;have r0:=zw C.1;have r1:=zu C.1;have r2:=zC C.1;have r3:=zaj C.1;have r4:=zbe C.1;have r5:=zbn C.1;have rl:=ztW C.1;by_cases U:j<k
   . obtain⟨b,T,y,hb,t⟩:=(HA.1.keep (g.1.mono hB)).rules.cells (by omega);have P:b<wr.heap.size:=by have:=g.1.size;omega
     rw[y]at q8;clear y;obtain⟨d0,d1,_⟩:=t j (by omega);have b9:j<c.rules.length:=by omega
     clear t;cases e2:((rlAt c.rules j).scope==(rlAt c.rules k).scope)
     . have D:=I (show ∀m,m<j+1->¬ ((rlAt c.rules m).scope=(rlAt c.rules k).scope/\(rlAt c.rules m).name=(rlAt c.rules k).name) from λm hm=>by
        by_cases e:m=j
        . subst e;intro h;rw[h.1]at e2;simp at e2
        exact L.1 m (by omega))
       go_wp2_with fail;go_quiet (fail)
       go_wp2_with fail;go_roundw
       case rel=>first|exact⟨j+1,by omega,by go_num,D,I (blkA (dr _ _) u.1),I (blkA (dr _ _) C.1),I (M.1.keep ((dr wr _).mono (show B<=wr.heap.size by have:=g.1.size;omega))),I (ztS g.1 (dr _ _))⟩|((repeat apply Exists.intro);exact⟨⟨j+1,by omega,by go_num,D,I (blkA (dr _ _) u.1),I (blkA (dr _ _) C.1),I (M.1.keep ((dr wr _).mono (show B<=wr.heap.size by have:=g.1.size;omega))),I (ztS g.1 (dr _ _))⟩,rfl⟩)
       case measure=>simp[intOf];omega
     cases A:((rlAt c.rules j).name.toList==(rlAt c.rules k).name.toList)
     . have D:=I (show ∀m,m<j+1->¬ ((rlAt c.rules m).scope=(rlAt c.rules k).scope/\(rlAt c.rules m).name=(rlAt c.rules k).name) from λm hm=>by
        by_cases e:m=j
        . subst e;intro h;rw[h.2]at A;simp at A
        exact L.1 m (by omega))
       go_wp2_with fail;go_quiet (fail)
       go_wp2_with fail;go_roundw
       case rel=>first|exact⟨j+1,by omega,by go_num,D,I (blkA (dr _ _) u.1),I (blkA (dr _ _) C.1),I (M.1.keep ((dr wr _).mono (show B<=wr.heap.size by have:=g.1.size;omega))),I (ztS g.1 (dr _ _))⟩|((repeat apply Exists.intro);exact⟨⟨j+1,by omega,by go_num,D,I (blkA (dr _ _) u.1),I (blkA (dr _ _) C.1),I (M.1.keep ((dr wr _).mono (show B<=wr.heap.size by have:=g.1.size;omega))),I (ztS g.1 (dr _ _))⟩,rfl⟩)
       case measure=>simp[intOf];omega
     have l:=I (E.1.trans (zku d a5.1 (zjL c.rules k j _ _ U S ⟨by simpa using e2,zf8 A⟩)));have K:=I (show valG c=7 by rw[R.1,l.1];rfl);go_wp2_with fail;go_quiet (fail)
     go_wp2_with fail;go_ret;exact⟨ze K.1.symm,ztS g.1 (dr _ _)⟩
   obtain rfl:j=k:=by omega
   have hh:=I (zlh c.rules j _ _ S L.1);clear L U q8;go_wp2_with fail;refine ca (za8 (rlAt c.rules j).ex N n wr B (by have:=g.1.size;omega) V.1 M.1) λw2 x=>?_;have z:=I (ztS g.1 x);have G:=I (blkA x u.1);clear x r0 r1 r2 r3 r4 r5 Q rl;by_cases A:valE (rlAt c.rules j).ex=0
   . have v:=I (E.1.trans (zmO d a5.1 hh.1 A));rw[A];go_wp2_with fail;go_roundw
     case rel=>first|exact⟨j+1,by omega,by go_num,I (by rw[zkL _ _ d,zt3];exact v.1),G,z⟩|((repeat apply Exists.intro);exact⟨⟨j+1,by omega,by go_num,I (by rw[zkL _ _ d,zt3];exact v.1),G,z⟩,rfl⟩)
     case measure=>simp[intOf];omega
   have v:=I (E.1.trans (zkv d a5.1 hh.1 A));have K:=I (show valG c=valE (rlAt c.rules j).ex by rw[R.1,v.1];exact if_pos A);have e4:(valE (rlAt c.rules j).ex !=0)=true:=by simpa using A
   clear A;go_wp2_with fail;go_ret;exact⟨ze K.1.symm,z.1⟩
 obtain rfl:k=c.rules.length:=by omega
 have l:=I (show zbW [] c.rules=0 from E.1.trans (by rw[zt6,zbW]));have a1:=I (R.1.trans (if_neg (by rw[l.1];simp)));clear R E S d l;have q9:=zbr s.1;go_wp2_with fail;clear q8 q9 Q;go_loopw [10] (λi wr=>∃(k:Nat),k<=c.costs.length/\i=.int .i64 k/\ztR (zcv c.costs=zcv (c.costs.drop k))/\ztR (wr.heap[w.heap.size]?=some (objC c p))/\ztR (Bw w wr)) (λi _=>c.costs.length-(intOf i).toNat)
 case atStart=>exact⟨0,ztX _,rfl,I rfl,s,a⟩
 clear s a;obtain⟨k,S,rfl,E,s,a⟩:=hrel;have q9:=zbr s.1;have Q:=ztW s.1;by_cases d:k<c.costs.length
 . obtain⟨b,T,y,hb,t⟩:=(HA.1.keep (a.1.mono hB)).costs.cells (by omega);obtain⟨c0,c6,N,n,⟨X,Y,Z,c4⟩,o,f⟩:=t k d;have P:b<wr.heap.size:=by have:=a.1.size;omega
   rw[y]at q9;clear y;have V:=I o;have F:=I f;clear t f o;cases e0:btwB (coAt c.costs k).scope 1 3
   . have l:=I (E.1.trans (zg9 d e0));have K:=I (show valG c=1 by rw[a1.1,l.1];rfl);go_wp2_with (go_at_call 172;refine cb (zS _ _ _ _) ?_)
     go_ret;exact⟨ze K.1.symm,a.1⟩
   go_wp2_with (go_at_call 172;refine cb (zS _ _ _ _) ?_)
   refine ca (za8 (coAt c.costs k).ex N n wr B (by have:=a.1.size;omega) V.1 F.1) λw2 x=>?_;have z:=I (ztS a.1 x);have G:=I (blkA x s.1);clear x c0 X Y Z c4 q9 Q F V;by_cases A:valE (coAt c.costs k).ex=0
   . have v:=I (E.1.trans (zmP d e0 A));rw[A];go_wp2_with fail;go_roundw
     case rel=>first|exact⟨k+1,by omega,by go_num,v,G,z⟩|((repeat apply Exists.intro);exact⟨⟨k+1,by omega,by go_num,v,G,z⟩,rfl⟩)
     case measure=>simp[intOf];omega
   have v:=I (E.1.trans (zkA d e0 A));have K:=I (show valG c=valE (coAt c.costs k).ex by rw[a1.1,v.1];exact if_pos A);have e4:(valE (coAt c.costs k).ex !=0)=true:=by simpa using A
   clear A;go_wp2_with fail;go_ret;exact⟨ze K.1.symm,z.1⟩
 obtain rfl:k=c.costs.length:=by omega
 have l:=I (show zcv c.costs=0 from E.1.trans (by rw[zt6,zcv]));have a6:=I (a1.1.trans (if_neg (by rw[l.1];simp)));clear a1 E S d l;have a3:=zbb s.1;go_wp2_with fail;clear q9 a3 Q;go_loopw [12] (λi wr=>∃(k:Nat),k<=c.credit.length/\i=.int .i64 k/\ztR (zds c.credit=zds (c.credit.drop k))/\ztR (wr.heap[w.heap.size]?=some (objC c p))/\ztR (Bw w wr)) (λi _=>c.credit.length-(intOf i).toNat)
 case atStart=>exact⟨0,ztX _,rfl,I rfl,s,a⟩
 clear s a;obtain⟨k,S,rfl,E,s,a⟩:=hrel;have a3:=zbb s.1;have Q:=ztW s.1;by_cases d:k<c.credit.length
 . obtain⟨b,T,y,hb,t⟩:=(HA.1.keep (a.1.mono hB)).credit.cells (by omega);obtain⟨N,n,_,⟨X,Y,Z,c4⟩,o,f⟩:=t.at k d;have P:b<wr.heap.size:=by have:=a.1.size;omega
   rw[y]at a3;clear y;have V:=I o;have F:=I f;clear t f o;go_wp2_with fail;refine ca (za8 (eAt c.credit k) N n wr B (by have:=a.1.size;omega) V.1 F.1) λw2 x=>?_;have z:=I (ztS a.1 x);have G:=I (blkA x s.1);clear x X Y Z c4 a3 Q F V;by_cases A:valE (eAt c.credit k)=0
   . have v:=I (E.1.trans (zmN d A));rw[A];go_wp2_with fail;go_roundw
     case rel=>first|exact⟨k+1,by omega,by go_num,v,G,z⟩|((repeat apply Exists.intro);exact⟨⟨k+1,by omega,by go_num,v,G,z⟩,rfl⟩)
     case measure=>simp[intOf];omega
   have v:=I (E.1.trans (zkt d A));have K:=I (show valG c=valE (eAt c.credit k) by rw[a6.1,v.1];exact if_pos A);have e4:(valE (eAt c.credit k) !=0)=true:=by simpa using A
   clear A;go_wp2_with fail;go_ret;exact⟨ze K.1.symm,z.1⟩
 obtain rfl:k=c.credit.length:=by omega
 have l:=I (show zds c.credit=0 from E.1.trans (by rw[zt6,zds]));have c7:=I (a6.1.trans (if_neg (by rw[l.1];simp)));clear a6 E S d l;have x0:=zw s.1;have x1:=zu s.1;have x2:=zC s.1;have x3:=zaj s.1;have x4:=zbe s.1;have x5:=zbn s.1;have x6:=zbm s.1;have x7:=zaK s.1;have x8:=zaX s.1;have x9:=zbr s.1;have c8:=zbb s.1;have c9:=zby s.1;have d2:=zbx s.1;have d3:=zcq s.1;go_wp2_with fail;refine ca (zkp c p wr B (by have:=a.1.size;omega) (HA.1.keep (a.1.mono hB))) λw2 x=>?_;have z:=I (ztS a.1 x);clear x;go_wp2_with fail;go_ret;exact⟨ze c7.1.symm,z.1⟩
end Go.Proofs.YtbhhejkolnigfaaGreat
