/- a part of the proof -/
import Derived.Test.YtdolonpblgfjdaaGreatGW
import Derived.Test.YtdolonpblgfjdaaGreatGS
set_option linter.unusedVariables false
set_option linter.unusedSimpArgs false
set_option maxRecDepth 100000
set_option maxHeartbeats 12800000
namespace Go.Proofs.YtdolonpblgfjdaaGreat
open Go.RowKit Go.Sort Go.Proofs.Tryz
theorem zuN(w:World)(t:TTM)(c:ConM)(a:zua)(b:Nat)(d:zua)(e:Nat)(fa:zua)(fc:Nat)(p:ConP):Below w.heap.size w ((w.alloc (objT t a b d e fa fc)).alloc (objC c p))∧((w.alloc (objT t a b d e fa fc)).alloc (objC c p)).heap[w.heap.size]?=some (objT t a b d e fa fc)∧((w.alloc (objT t a b d e fa fc)).alloc (objC c p)).heap[w.heap.size+1]?=some (objC c p):=
 ⟨ztS (J w _) (J _ _),zd (zh w _),by have h:=zh (w.alloc (objT t a b d e fa fc)) (objC c p);rw[zr]at h;exact h⟩
theorem zuw{w:World}{q:Nat}{T:TypeId}{a b:Value}(h:w.heap[q]?=some (Obj.cells #[a,b] T)):w.cell? ⟨q,0,none⟩=some a∧w.cell? ⟨q,1,none⟩=some b∧q<w.heap.size:=⟨zm (j:=0) h rfl,zm (j:=1) h rfl,ztW h⟩
theorem pc2{w:World}{q:Nat}{T:TypeId}{a b:Value}(h:w.heap[q]?=some (Obj.cells #[a,b] T)):w.cell? ⟨q,0,none⟩=some a∧w.cell? ⟨q,1,none⟩=some b∧w.frozen? ⟨q,0,none⟩=false∧w.frozen? ⟨q,1,none⟩=false∧q<w.heap.size:=⟨zm (j:=0) h rfl,zm (j:=1) h rfl,zQ (j:=0) h,zQ (j:=1) h,ztW h⟩
theorem alB{a w W:World}{o:Obj}{p:Nat}(c:W=w.alloc o)(d:p=w.heap.size)(b:Below a.heap.size a w):Below a.heap.size a W∧W.heap[p]?=some o∧a.heap.size≤p:=by
 subst c d;exact⟨ztS b (J w o),zh w o,b.size⟩
theorem stB{b w:World}{q:Nat}{T:TypeId}{f d:Value}(a c:Value)(g:w.heap[q]?=some (Obj.cells #[f,d] T))(h:Below b.heap.size b w)(e:b.heap.size≤q):((w.setCell ⟨q,0,none⟩ a).setCell ⟨q,1,none⟩ c).heap[q]?=some (Obj.cells #[a,c] T)∧Below b.heap.size b ((w.setCell ⟨q,0,none⟩ a).setCell ⟨q,1,none⟩ c):=by
 refine⟨?_,(h.setCell (p:=⟨q,0,none⟩) e _).setCell (p:=⟨q,1,none⟩) e _⟩;have j:(w.setCell ⟨q,0,none⟩ a).heap[q]?=some (Obj.cells #[a,d] T):=zg (i:=0) (u:=a) g;exact zg (i:=1) (u:=c) j
theorem ownT{w:World}{B:Nat}{T:TypeId}{s:Nat}{v:Value}{n nq:Nat}{a xq:List Value}(h:w.ownsRow B T s v n a)(b:n=nq)(c:a=xq):w.ownsRow B T s v nq xq:=by subst b c;exact h
theorem zuD{w:World}{c:Nat}{v:Value}{N:List ByteArray}{q:List Int}(h:w.ownsRow c 92 2 v q.length (zbL N q q.length))(d:q.length=N.length)(o:0<q.length):∃(g b:Nat) (a:Array Value),v=.slice (some ⟨g,0,none⟩) q.length b∧w.heap[g]?=some (Obj.cells a 92)∧∀i,i<q.length→a[i*2+1]?=some (.int .i64 (iAt q i)):=by
 rcases h.2 with⟨f,p⟩|⟨g,b,a,rfl,f,j,k,l,m,n⟩
 · omega
 refine⟨g,b,a,rfl,j,fun i hi=>?_⟩;obtain⟨r,e⟩:=zfr N q d q.length (ztY _) i hi;rw[znt d hi,←n,List.getElem?_take,if_pos (by omega)]at e;simpa using e
theorem zuA{q:List Int}{k:Nat}(h:k<q.length):q.take (k+1)=q.take k++ [iAt q k]:=by
 rw[List.take_succ_eq_append_getElem h,iAt,zt0,zt1 h];rfl
theorem zus(t:TTM)(c:ConM)(l:zua)(q:Nat)(m:zua)(r:Nat)(fa:zua)(fc:Nat)(p:ConP)(w:World)(hT:zY t=0)(hC:valT c=0)(hz:SlAt zcg w l t.zones)(ha:SlAt zei w m t.airs)(hf:SlAt zam w fa t.fls)(s:ByteArray)(x y:Duty)(xa ya:zua)(xc yc:Nat)(X:za6 t c x=0)(j3:za6 t c y=0)(hx:SlAt za3 w xa x)(hy:SlAt za3 w ya y):
 Calls prog 71 #[.agg #[.slice l t.zones.length q,.slice m t.airs.length r,.slice fa t.fls.length fc],.agg #[.int .i64 c.report,.int .i64 c.release,.int .i64 c.connect,.int .i64 c.sit,.int .i64 c.layover,.int .i64 c.nf,.int .i64 c.nt,.slice p.ca c.consts.length p.cc,.slice p.ra c.rules.length p.rc,.slice p.ka c.costs.length p.kc,.slice p.xa c.credit.length p.xc,.slice p.la c.lims.length p.lc,.slice p.oa c.offs.length p.oc,.int .i64 c.guar],.string s,.slice xa x.length xc,.slice ya y.length yc] w (ARow w (zk 2) (zuh t c s x y)):=by
 obtain⟨i0,hi,k5,k6,k7⟩:=info_parts zjJ;have HT:=I hT;have HC:=I hC;have HZ:=I hz;have HA:=I ha;have HF:=I hf;have j4:=I X;have f7:=I j3;have f8:=I hx;have f9:=I hy;obtain⟨k8,k9,q9,r0⟩:(tAt x (x.length-1)).1=(lstN x:Int)∧lstN x<t.fls.length∧1≤x.length∧x.length≤6:=⟨(zfN X).2.2.1,(zfN X).2.2.2,(zcp X).1,(zcp X).2.1⟩;have bx:=zuj hT hC X;have bY:=zuj hT hC j3;have j5:=(zcJ hT).2.2;have HM:=I k8;obtain⟨f,b3⟩:∃f,f=(zcK t c y).1:=⟨_,rfl⟩;obtain⟨g,b4⟩:∃g,g=(zcK t c x).2:=⟨_,rfl⟩;obtain⟨B,h0⟩:∃B,B=(fAt t.fls (lstN x)).to:=⟨_,rfl⟩;have HK:=I (show hasB (t.airs.map AirM.code) B=true by rw[h0];exact(zfV hT k9).2);have hw:IntKind.i64.wrap (f-g)=f-g:=by rw[IntKind.wrap_i64,b3,b4];omega
 obtain⟨S,j6⟩:∃n,n=(zdh (zp t B).name.data.toList (zp t B).off (zp t B).sh g f c.nf c.nt).1:=⟨_,rfl⟩;obtain⟨V,j7⟩:∃n,n=(zc2 (B.toList==s.toList)):=⟨_,rfl⟩;have l0:=I j7.symm;have l1:=I j6.symm;have o6:=I (zi3 hT B)
 have HQ:=I (show zuh t c s x y=([f-g,S,V]++zaZ t c x)++zaZ t c y by
  rw[zuh,zuv,b3,b4,j6,j7,if_pos rfl,zuK,zuM,h0,b3,b4,zc2];rfl)
 have j8:=I b3.symm;have l2:=I b4.symm;have o7:=I h0.symm;have FD:=I (And.intro (fun w:World=>(by kernel_rfl:(Instr.field 40 (.agg #[.int .i64 (zcK t c x).1,.int .i64 g]) 1).run prog w=.ok (.int .i64 g) w)) (fun w:World=>(by kernel_rfl:(Instr.field 40 (.agg #[.int .i64 f,.int .i64 (zcK t c y).2]) 0).run prog w=.ok (.int .i64 f) w)));clear hT hC hz ha hf X j3 hx hy k8 bx bY b3 b4 h0 j7 j6;go_enter func71,ntmps71
 go_wp2_with fail;obtain⟨hB,a9,b0⟩:=zuN w t c l q m r fa fc p;have HB:=I hB;obtain⟨R,j9⟩:∃R,R=w.heap.size+1:=⟨_,rfl⟩;rw[←j9]at b0;simp only[←j9];clear j9 hB;generalize (w.alloc (objT t l q m r fa fc)).alloc (objC c p)=W at*;obtain⟨Wd,b5⟩:∃W',W.drew=W':=⟨_,rfl⟩;have E:=I (show Below w.heap.size w Wd by rw[←b5];exact HB.1.drew);have a:Wd.heap[w.heap.size]?=some (objT t l q m r fa fc)∧Wd.heap[R]?=some (objC c p):=by rw[←b5];exact⟨a9,b0⟩
 have C:=I (fun W' (h:Below Wd.heap.size Wd W')=>(⟨blkA h a.1,blkA h a.2⟩:W'.heap[w.heap.size]?=some (objT t l q m r fa fc)∧W'.heap[R]?=some (objC c p)));clear a9 b0 HB;refine ziO (fun a0 a' d=>∃sp,a'=((((((((((((a0.put (some 20) (.agg #[.slice l t.zones.length q,.slice m t.airs.length r,.slice fa t.fls.length fc])).put (some 21) (.agg #[.int .i64 c.report,.int .i64 c.release,.int .i64 c.connect,.int .i64 c.sit,.int .i64 c.layover,.int .i64 c.nf,.int .i64 c.nt,.slice p.ca c.consts.length p.cc,.slice p.ra c.rules.length p.rc,.slice p.ka c.costs.length p.kc,.slice p.xa c.credit.length p.xc,.slice p.la c.lims.length p.lc,.slice p.oa c.offs.length p.oc,.int .i64 c.guar])).put (some 22) (.slice xa x.length xc)).put (some 25) (.agg #[.slice l t.zones.length q,.slice m t.airs.length r,.slice fa t.fls.length fc])).put (some 26) (.agg #[.int .i64 c.report,.int .i64 c.release,.int .i64 c.connect,.int .i64 c.sit,.int .i64 c.layover,.int .i64 c.nf,.int .i64 c.nt,.slice p.ca c.consts.length p.cc,.slice p.ra c.rules.length p.rc,.slice p.ka c.costs.length p.kc,.slice p.xa c.credit.length p.xc,.slice p.la c.lims.length p.lc,.slice p.oa c.offs.length p.oc,.int .i64 c.guar])).put (some 27) (.slice ya y.length yc)).put (some 23) (.agg #[.int .i64 (zcK t c x).1,.int .i64 g])).put (some 24) (.int .i64 g)).put (some 28) (.agg #[.int .i64 f,.int .i64 (zcK t c y).2])).put (some 29) (.int .i64 f)).put (some 30) (.agg #[.int .i64 g,.int .i64 f])).put (some 11) (.pointer (some ⟨sp,0,none⟩)))∧d.heap[sp]?=some (Obj.cells #[.int .i64 g,.int .i64 f] 40)∧Below Wd.heap.size Wd d∧Wd.heap.size≤sp) (fun d=>d.heap[w.heap.size]?=some (objT t l q m r fa fc)∧d.heap[R]?=some (objC c p)) [] (by kernel_rfl) b5 ?_ ?_
 · clear b5;refine zx (i:=0) (v:=.agg #[.slice l t.zones.length q,.slice m t.airs.length r,.slice fa t.fls.length fc]) rfl (fun d hS'=>?_) a ?_
   · obtain⟨F,G,g2,H⟩:=zdn hS'.1;go_simp
   try simp only[Act.put,O]
   refine zx (i:=1) (v:=.agg #[.int .i64 c.report,.int .i64 c.release,.int .i64 c.connect,.int .i64 c.sit,.int .i64 c.layover,.int .i64 c.nf,.int .i64 c.nt,.slice p.ca c.consts.length p.cc,.slice p.ra c.rules.length p.rc,.slice p.ka c.costs.length p.kc,.slice p.xa c.credit.length p.xc,.slice p.la c.lims.length p.lc,.slice p.oa c.offs.length p.oc,.int .i64 c.guar]) rfl (fun d hS'=>?_) a ?_
   · obtain⟨F,G,g2,g3,g4,g5,g6,g7,g8,g9,Y,Z,a1,a2,H⟩:=zbZ hS'.2;go_simp
   try simp only[Act.put,O]
   refine zT (i:=2) (v:=.slice xa x.length xc) rfl (fun d=>?_) ?_
   · go_simp
   try simp only[Act.put,O]
   refine zx (i:=5) (v:=.agg #[.slice l t.zones.length q,.slice m t.airs.length r,.slice fa t.fls.length fc]) rfl (fun d hS'=>?_) a ?_
   · obtain⟨F,G,g2,H⟩:=zdn hS'.1;go_simp
   try simp only[Act.put,O]
   refine zx (i:=6) (v:=.agg #[.int .i64 c.report,.int .i64 c.release,.int .i64 c.connect,.int .i64 c.sit,.int .i64 c.layover,.int .i64 c.nf,.int .i64 c.nt,.slice p.ca c.consts.length p.cc,.slice p.ra c.rules.length p.rc,.slice p.ka c.costs.length p.kc,.slice p.xa c.credit.length p.xc,.slice p.la c.lims.length p.lc,.slice p.oa c.offs.length p.oc,.int .i64 c.guar]) rfl (fun d hS'=>?_) a ?_
   · obtain⟨F,G,g2,g3,g4,g5,g6,g7,g8,g9,Y,Z,a1,a2,H⟩:=zbZ hS'.2;go_simp
   try simp only[Act.put,O]
   refine zT (i:=7) (v:=.slice ya y.length yc) rfl (fun d=>?_) ?_
   · go_simp
   try simp only[Act.put,O]
   have a4:=ztT Wd.heap.size Wd;refine zaU (i:=3) (j:=11) (oi:={dst:=some 23,op:=Op.call {callee:=Callee.value (Operand.func 49),args:=#[Operand.tmp 20,Operand.tmp 21,Operand.tmp 22],argTypes:=#[26,34,36]},type:=40,pos:= "measure.go:198",after:=_,guard:=none}) (oj:={dst:=some 11,op:=Op.alloc 40,type:=_,pos:= "measure.go:198",after:=_,guard:=none}) (by kernel_rfl) rfl rfl (by rfl) (by rfl) (fun K hK=>?_) (fun K hK=>?_)
   · skip
     go_simp;refine(zhi t c l q m r fa fc p Wd HT.1 HC.1 (HF.1.below (ztS E.1 a4)) x xa xc j4.1 (f8.1.below (ztS E.1 a4))).mono ?_;rintro e k0 ⟨rfl,h5⟩;rw[show(zcK t c x).2=g from l2.1];have T:=ztS a4 h5;clear h5;refine hK.1 _ _ (fun _ _=>C.1 _ T) ?_;clear hK K;try simp only[Act.put,O]
     refine zT (i:=4) (v:=.int .i64 g) rfl (fun d=>?_) ?_
     · have f1:=FD.1.1;go_simp
     try simp only[Act.put,O]
     refine zaU (i:=8) (j:=11) (oi:={dst:=some 28,op:=Op.call {callee:=Callee.value (Operand.func 49),args:=#[Operand.tmp 25,Operand.tmp 26,Operand.tmp 27],argTypes:=#[26,34,36]},type:=40,pos:= "measure.go:198",after:=_,guard:=none}) (oj:={dst:=some 11,op:=Op.alloc 40,type:=_,pos:= "measure.go:198",after:=_,guard:=none}) (by kernel_rfl) rfl rfl (by rfl) (by rfl) (fun K hK=>?_) (fun K hK=>?_)
     · skip
       go_simp;refine(zhi t c l q m r fa fc p k0 HT.1 HC.1 (HF.1.below (ztS E.1 T)) y ya yc f7.1 (f9.1.below (ztS E.1 T))).mono ?_;rintro e l3 ⟨rfl,h6⟩;rw[show(zcK t c y).1=f from j8.1];have h7:=ztS T h6;clear h6;refine hK.1 _ _ (fun _ _=>C.1 _ h7) ?_;clear hK K;try simp only[Act.put,O]
       refine zT (i:=9) (v:=.int .i64 f) rfl (fun d=>?_) ?_
       · have f1:=FD.1.2;go_simp
       try simp only[Act.put,O]
       refine zT (i:=10) (v:=.agg #[.int .i64 g,.int .i64 f]) rfl (fun d=>?_) ?_
       · go_simp
       try simp only[Act.put,O]
       refine zo (i:=11) (o:={dst:=some 11,op:=Op.alloc 40,type:=_,pos:= "measure.go:198",after:=_,guard:=none}) (by kernel_rfl) rfl (by rfl) (fun K hK=>?_);go_simp;obtain⟨o8,b6⟩:∃p,p=l3.heap.size:=⟨_,rfl⟩;obtain⟨r1,b7⟩:∃W,W=l3.alloc (Obj.cells #[.int .i64 0,.int .i64 0] 40):=⟨_,rfl⟩;obtain⟨h8,h9,i1⟩:=alB b7 b6 h7;simp only[←b7,←b6];clear b7 b6;refine hK.1 _ _ (fun _ _=>C.1 _ h8) ?_;clear hK K;try simp only[Act.put,O]
       obtain⟨E2,B2⟩:=stB (.int .i64 g) (.int .i64 f) h9 h8 i1;obtain⟨z0,z1,F,G,H⟩:=pc2 h9;refine zo (i:=12) (o:={dst:=none,op:=Op.store 40 (Operand.tmp 11) (Operand.tmp 30),type:=0,pos:= "measure.go:198",after:=_,guard:=none}) (by kernel_rfl) rfl (by rfl) (fun K hK=>?_);go_simp;refine hK.1 _ _ (fun _ _=>C.1 _ B2) ?_;clear hK K z0 z1 F G H;try simp only[Act.put,O]
       refine zM (by kernel_rfl) ?_;exact⟨fun _=>⟨o8,by simp only[Act.put,O],E2,B2,i1⟩,fun h=>absurd rfl h⟩
     skip
     go_simp;obtain⟨o9,b8⟩:∃p,p=k0.heap.size:=⟨_,rfl⟩;obtain⟨p0,b9⟩:∃W,W=k0.alloc (Obj.cells #[.int .i64 0,.int .i64 0] 40):=⟨_,rfl⟩;obtain⟨a5,l4,i2⟩:=alB b9 b8 T;simp only[←b9,←b8];clear b9 b8;refine hK.1 _ _ (fun _ _=>C.1 _ a5) ?_;clear hK K;try simp only[Act.put,O]
     refine zo (i:=8) (o:={dst:=some 28,op:=Op.call {callee:=Callee.value (Operand.func 49),args:=#[Operand.tmp 25,Operand.tmp 26,Operand.tmp 27],argTypes:=#[26,34,36]},type:=40,pos:= "measure.go:198",after:=_,guard:=none}) (by kernel_rfl) rfl (by rfl) (fun K hK=>?_);go_simp;refine(zhi t c l q m r fa fc p p0 HT.1 HC.1 (HF.1.below (ztS E.1 a5)) y ya yc f7.1 (f9.1.below (ztS E.1 a5))).mono ?_;rintro e r2 ⟨rfl,c6⟩;rw[show(zcK t c y).1=f from j8.1];have i3:=ztS a5 c6;have i4:=blkA c6 l4;clear c6;refine hK.1 _ _ (fun _ _=>C.1 _ i3) ?_;clear hK K;try simp only[Act.put,O]
     refine zT (i:=9) (v:=.int .i64 f) rfl (fun d=>?_) ?_
     · have f1:=FD.1.2;go_simp
     try simp only[Act.put,O]
     refine zT (i:=10) (v:=.agg #[.int .i64 g,.int .i64 f]) rfl (fun d=>?_) ?_
     · go_simp
     try simp only[Act.put,O]
     obtain⟨E2,B2⟩:=stB (.int .i64 g) (.int .i64 f) i4 i3 i2;obtain⟨z0,z1,F,G,H⟩:=pc2 i4;refine zo (i:=12) (o:={dst:=none,op:=Op.store 40 (Operand.tmp 11) (Operand.tmp 30),type:=0,pos:= "measure.go:198",after:=_,guard:=none}) (by kernel_rfl) rfl (by rfl) (fun K hK=>?_);go_simp;refine hK.1 _ _ (fun _ _=>C.1 _ B2) ?_;clear hK K z0 z1 F G H;try simp only[Act.put,O]
     refine zM (by kernel_rfl) ?_;exact⟨fun _=>⟨o9,by simp only[Act.put,O],E2,B2,i2⟩,fun h=>absurd rfl h⟩
   skip
   go_simp;obtain⟨p1,c7⟩:∃p,p=Wd.heap.size:=⟨_,rfl⟩;obtain⟨p2,c8⟩:∃W,W=Wd.alloc (Obj.cells #[.int .i64 0,.int .i64 0] 40):=⟨_,rfl⟩;obtain⟨a6,l5,i5⟩:=alB c8 c7 a4;simp only[←c8,←c7];clear c8 c7;refine hK.1 _ _ (fun _ _=>C.1 _ a6) ?_;clear hK K;try simp only[Act.put,O]
   refine zo (i:=3) (o:={dst:=some 23,op:=Op.call {callee:=Callee.value (Operand.func 49),args:=#[Operand.tmp 20,Operand.tmp 21,Operand.tmp 22],argTypes:=#[26,34,36]},type:=40,pos:= "measure.go:198",after:=_,guard:=none}) (by kernel_rfl) rfl (by rfl) (fun K hK=>?_);go_simp;refine(zhi t c l q m r fa fc p p2 HT.1 HC.1 (HF.1.below (ztS E.1 a6)) x xa xc j4.1 (f8.1.below (ztS E.1 a6))).mono ?_;rintro e p3 ⟨rfl,c9⟩;rw[show(zcK t c x).2=g from l2.1];have a7:=ztS a6 c9;have l6:=blkA c9 l5;clear c9;refine hK.1 _ _ (fun _ _=>C.1 _ a7) ?_;clear hK K;try simp only[Act.put,O]
   refine zT (i:=4) (v:=.int .i64 g) rfl (fun d=>?_) ?_
   · have f1:=FD.1.1;go_simp
   try simp only[Act.put,O]
   refine zo (i:=8) (o:={dst:=some 28,op:=Op.call {callee:=Callee.value (Operand.func 49),args:=#[Operand.tmp 25,Operand.tmp 26,Operand.tmp 27],argTypes:=#[26,34,36]},type:=40,pos:= "measure.go:198",after:=_,guard:=none}) (by kernel_rfl) rfl (by rfl) (fun K hK=>?_);go_simp;refine(zhi t c l q m r fa fc p p3 HT.1 HC.1 (HF.1.below (ztS E.1 a7)) y ya yc f7.1 (f9.1.below (ztS E.1 a7))).mono ?_;rintro e r3 ⟨rfl,d0⟩;rw[show(zcK t c y).1=f from j8.1];have i6:=ztS a7 d0;have i7:=blkA d0 l6;clear d0;refine hK.1 _ _ (fun _ _=>C.1 _ i6) ?_;clear hK K;try simp only[Act.put,O]
   refine zT (i:=9) (v:=.int .i64 f) rfl (fun d=>?_) ?_
   · have f1:=FD.1.2;go_simp
   try simp only[Act.put,O]
   refine zT (i:=10) (v:=.agg #[.int .i64 g,.int .i64 f]) rfl (fun d=>?_) ?_
   · go_simp
   try simp only[Act.put,O]
   obtain⟨E2,B2⟩:=stB (.int .i64 g) (.int .i64 f) i7 i6 i5;obtain⟨z0,z1,F,G,H⟩:=pc2 i7;refine zo (i:=12) (o:={dst:=none,op:=Op.store 40 (Operand.tmp 11) (Operand.tmp 30),type:=0,pos:= "measure.go:198",after:=_,guard:=none}) (by kernel_rfl) rfl (by rfl) (fun K hK=>?_);go_simp;refine hK.1 _ _ (fun _ _=>C.1 _ B2) ?_;clear hK K z0 z1 F G H;try simp only[Act.put,O]
   refine zM (by kernel_rfl) ?_;exact⟨fun _=>⟨p1,by simp only[Act.put,O],E2,B2,i5⟩,fun h=>absurd rfl h⟩
 clear b5 a;rintro _ w3 ⟨sp,rfl,l7,k1,_⟩;obtain⟨a9,b0⟩:=C.1 _ k1;have l8:=ztS E.1 k1;clear C E k1;simp only[Act.put,O];have QT:=I a9;have QC:=I b0;have QS:=I l7;have h1:=I l8;obtain⟨x0,x1,x2,xl⟩:=zdn a9;clear a9 b0 l7 l8;have l9:∀w:World,(Instr.field 95 (.agg #[.string (fAt t.fls (lstN x)).num,.string (fAt t.fls (lstN x)).frm,.string (fAt t.fls (lstN x)).to,.int .i64 (fAt t.fls (lstN x)).dep,.int .i64 (fAt t.fls (lstN x)).arr,.string (fAt t.fls (lstN x)).typ,.int .i64 (fAt t.fls (lstN x)).n0,.int .i64 (fAt t.fls (lstN x)).n1,.int .i64 (fAt t.fls (lstN x)).n2]) 2).run prog w=.ok (.string (fAt t.fls (lstN x)).to) w:=fun _=>by kernel_rfl
 go_wp2_with fail;refine(zlb t l q m r fa fc w3 (HF.1.below h1.1) j5 x xa xc ⟨by omega,by omega⟩ (f8.1.below h1.1) (lstN x) HM.1 k9).mono ?_;rintro e w4 ⟨rfl,d1⟩;rw[o7.1]at l9 ⊢;have m0:=blkA d1 QT.1;have m1:=blkA d1 QC.1;have m2:=blkA d1 QS.1;have U:=I (ztS h1.1 d1);clear d1 h1 QT QC QS x0 x1 x2 xl;go_wp2_with fail;clear l9;obtain⟨W4,h2⟩:∃W',w4.drew=W':=⟨_,rfl⟩;have d2:=I (show Below w.heap.size w W4 by rw[←h2];exact U.1.drew);have a:W4.heap[w.heap.size]?=some (objT t l q m r fa fc)∧W4.heap[R]?=some (objC c p)∧W4.heap[sp]?=some (Obj.cells #[.int .i64 g,.int .i64 f] 40):=by rw[←h2];exact⟨m0,m1,m2⟩
 clear m0 m1 m2 U;refine zbD (fun d=>d.heap[w.heap.size]?=some (objT t l q m r fa fc)∧d.heap[R]?=some (objC c p)∧d.heap[sp]?=some (Obj.cells #[.int .i64 g,.int .i64 f] 40)) [] (by kernel_rfl) h2 ?_;clear h2;refine zx (i:=0) (v:=.agg #[.slice l t.zones.length q,.slice m t.airs.length r,.slice fa t.fls.length fc]) rfl (fun d hS'=>?_) a ?_
 · obtain⟨F,G,g2,H⟩:=zdn hS'.1;go_simp
 try simp only[Act.put,O]
 refine zT (i:=1) (v:=.string B) rfl (fun d=>?_) ?_
 · go_simp
 try simp only[Act.put,O]
 refine zx (i:=3) (v:=.agg #[.int .i64 g,.int .i64 f]) rfl (fun d hS'=>?_) a ?_
 · obtain⟨F,G,H⟩:=zuw hS'.2.2;go_simp
 try simp only[Act.put,O]
 refine zx (i:=4) (v:=.pointer (some ⟨R,5,none⟩)) rfl (fun d hS'=>?_) a ?_
 · obtain⟨F,G,g2,g3,g4,g5,g6,g7,g8,g9,Y,Z,a1,a2,H⟩:=zbZ hS'.2.1;go_simp
 try simp only[Act.put,O]
 refine zx (i:=5) (v:=.int .i64 c.nf) rfl (fun d hS'=>?_) a ?_
 · obtain⟨F,G,g2,g3,g4,g5,g6,g7,g8,g9,Y,Z,a1,a2,H⟩:=zbZ hS'.2.1;go_simp
 try simp only[Act.put,O]
 refine zx (i:=6) (v:=.pointer (some ⟨R,6,none⟩)) rfl (fun d hS'=>?_) a ?_
 · obtain⟨F,G,g2,g3,g4,g5,g6,g7,g8,g9,Y,Z,a1,a2,H⟩:=zbZ hS'.2.1;go_simp
 try simp only[Act.put,O]
 refine zx (i:=7) (v:=.int .i64 c.nt) rfl (fun d hS'=>?_) a ?_
 · obtain⟨F,G,g2,g3,g4,g5,g6,g7,g8,g9,Y,Z,a1,a2,H⟩:=zbZ hS'.2.1;go_simp
 try simp only[Act.put,O]
 refine zo (i:=2) (o:={dst:=some 38,op:=Op.call {callee:=Callee.value (Operand.func 114),args:=#[Operand.tmp 36,Operand.tmp 37],argTypes:=#[26,9]},type:=129,pos:= "measure.go:200",after:=_,guard:=none}) (by kernel_rfl) rfl (by rfl) (fun K hK=>?_);go_simp;refine(zaN t l q m r fa fc W4 HT.1 w d2.1 HZ.1 HA.1 B HK.1).mono ?_;rintro e w5 ⟨p4,p5,rfl,m3,m4,m5,hb⟩;have d3:=I (ztS d2.1 hb);have P:w5.heap[w.heap.size]?=some (objT t l q m r fa fc)∧w5.heap[R]?=some (objC c p)∧w5.heap[sp]?=some (Obj.cells #[.int .i64 g,.int .i64 f] 40):=⟨blkA hb a.1,blkA hb a.2.1,blkA hb a.2.2⟩;clear a hb;have a:=P;clear P;have m6:=I (m3.below d3.1);have m7:=I (And.intro m4 m5);clear m3 m4 m5;refine hK.1 _ _ (fun _ _=>a) ?_;clear hK K;try simp only[Act.put,O]
 refine zo (i:=8) (o:={dst:=some 44,op:=Op.call {callee:=Callee.value (Operand.func 113),args:=#[Operand.tmp 38,Operand.tmp 39,Operand.tmp 41,Operand.tmp 43],argTypes:=#[129,40,3,3]},type:=_,pos:= "measure.go:200",after:=_,guard:=none}) (by kernel_rfl) rfl (by rfl) (fun K hK=>?_);go_simp;refine(ztJ (zp t B).name (zp t B).off g f c.nf c.nt (zp t B).sh p4 p5 w5 (by have:=m7.1.1;unfold maxLen;omega) (by have:=o6.1;omega) m6.1).mono ?_;rintro e w6 ⟨rfl,hb⟩;have i8:=I (ztS d3.1 hb);have P:w6.heap[w.heap.size]?=some (objT t l q m r fa fc)∧w6.heap[R]?=some (objC c p)∧w6.heap[sp]?=some (Obj.cells #[.int .i64 g,.int .i64 f] 40):=⟨blkA hb a.1,blkA hb a.2.1,blkA hb a.2.2⟩;clear a hb;have a:=P;clear P;refine hK.1 _ _ (fun _ _=>a) ?_;clear hK K;try simp only[Act.put,O]
 refine zT (i:=9) (v:=.tuple #[.int .i64 (zdh (zp t B).name.data.toList (zp t B).off (zp t B).sh g f c.nf c.nt).1,.int .i64 (zdh (zp t B).name.data.toList (zp t B).off (zp t B).sh g f c.nf c.nt).2]) rfl (fun d=>?_) ?_
 · go_simp
 try simp only[Act.put,O]
 refine zT (i:=10) (v:=.int .i64 (zdh (zp t B).name.data.toList (zp t B).off (zp t B).sh g f c.nf c.nt).1) rfl (fun d=>?_) ?_
 · go_simp
 try simp only[Act.put,O]
 refine zT (i:=11) (v:=.int .i64 (zdh (zp t B).name.data.toList (zp t B).off (zp t B).sh g f c.nf c.nt).2) rfl (fun d=>?_) ?_
 · go_simp
 try simp only[Act.put,O]
 refine zo (i:=12) (o:={dst:=some 13,op:=Op.assign (Operand.tmp 45),type:=3,pos:= "measure.go:200",after:=_,guard:=none}) (by kernel_rfl) rfl (by rfl) (fun K hK=>?_);go_simp;refine hK.1 _ _ (fun _ h=>h) ?_;clear hK K;try simp only[Act.put,O]
 refine zo (i:=13) (o:={dst:=some 14,op:=Op.assign (Operand.tmp 46),type:=41,pos:= "measure.go:200",after:=_,guard:=none}) (by kernel_rfl) rfl (by rfl) (fun K hK=>?_);go_simp;refine hK.1 _ _ (fun _ h=>h) ?_;clear hK K;try simp only[Act.put,O]
 refine zM (by kernel_rfl) ?_;rw[l1.1];clear d2 d3 m6 m7;go_wp2_with fail;obtain⟨W7,h3⟩:∃W',w6.drew=W':=⟨_,rfl⟩;have d4:=I (show Below w.heap.size w W7 by rw[←h3];exact i8.1.drew);have P:W7.heap[w.heap.size]?=some (objT t l q m r fa fc)∧W7.heap[R]?=some (objC c p)∧W7.heap[sp]?=some (Obj.cells #[.int .i64 g,.int .i64 f] 40):=by rw[←h3];exact a
 clear a i8;have a:=P;clear P;refine zbD (fun d=>d.heap[w.heap.size]?=some (objT t l q m r fa fc)∧d.heap[R]?=some (objC c p)∧d.heap[sp]?=some (Obj.cells #[.int .i64 g,.int .i64 f] 40)) [] (by kernel_rfl) h3 ?_;clear h3;refine zx (i:=0) (v:=.pointer (some ⟨sp,1,none⟩)) rfl (fun d hS'=>?_) a ?_
 · obtain⟨F,G,H⟩:=zuw hS'.2.2;go_simp
 try simp only[Act.put,O]
 refine zx (i:=1) (v:=.int .i64 f) rfl (fun d hS'=>?_) a ?_
 · obtain⟨F,G,H⟩:=zuw hS'.2.2;go_simp
 try simp only[Act.put,O]
 refine zx (i:=2) (v:=.pointer (some ⟨sp,0,none⟩)) rfl (fun d hS'=>?_) a ?_
 · obtain⟨F,G,H⟩:=zuw hS'.2.2;go_simp
 try simp only[Act.put,O]
 refine zx (i:=3) (v:=.int .i64 g) rfl (fun d hS'=>?_) a ?_
 · obtain⟨F,G,H⟩:=zuw hS'.2.2;go_simp
 try simp only[Act.put,O]
 refine zT (i:=4) (v:=.int .i64 (f-g)) rfl (fun d=>?_) ?_
 · go_simp
 try simp only[Act.put,O]
 refine zT (i:=5) (v:=.int .i64 S) rfl (fun d=>?_) ?_
 · go_simp
 try simp only[Act.put,O]
 refine zT (i:=6) (v:=.string B) rfl (fun d=>?_) ?_
 · go_simp
 try simp only[Act.put,O]
 refine zT (i:=7) (v:=.string s) rfl (fun d=>?_) ?_
 · go_simp
 try simp only[Act.put,O]
 refine zT (i:=8) (v:=.bool (B.toList==s.toList)) rfl (fun d=>?_) ?_
 · go_simp
 try simp only[Act.put,O]
 refine zo (i:=9) (o:={dst:=some 56,op:=Op.call {callee:=Callee.value (Operand.func 115),args:=#[Operand.tmp 55],argTypes:=#[4]},type:=3,pos:= "measure.go:201",after:=_,guard:=none}) (by kernel_rfl) rfl (by rfl) (fun K hK=>?_);go_simp;refine(zfO _ _).mono ?_;rintro e d ⟨rfl,rfl⟩;rw[l0.1];refine hK.1 _ _ (fun _ h=>h) ?_;clear hK K;try simp only[Act.put,O]
 refine zo (i:=10) (o:={dst:=some 57,op:=Op.buildSlice 83 3 #[(0,Operand.tmp 51),(1,Operand.tmp 52),(2,Operand.tmp 56)],type:=83,pos:= "measure.go:201",after:=_,guard:=none}) (by kernel_rfl) rfl (by rfl) (fun K hK=>?_);go_simp;have a3:=I (zh W7 (.cells [.int .i64 (f-g),.int .i64 S,.int .i64 V].toArray 3));have b1:=J W7 (.cells [.int .i64 (f-g),.int .i64 S,.int .i64 V].toArray 3);obtain⟨vb,h4⟩:∃b,b=W7.heap.size:=⟨_,rfl⟩;have m8:=I (show w.heap.size≤vb by rw[h4];exact d4.1.size);obtain⟨W8,M⟩:∃W,W=W7.alloc (.cells [.int .i64 (f-g),.int .i64 S,.int .i64 V].toArray 3):=⟨_,rfl⟩;have i9:=I (show Below w.heap.size w W8 by rw[M];exact ztS d4.1 b1);rw[←M]at a3 b1;rw[←h4]at a3;have P:W8.heap[w.heap.size]?=some (objT t l q m r fa fc)∧W8.heap[R]?=some (objC c p)∧W8.heap[sp]?=some (Obj.cells #[.int .i64 g,.int .i64 f] 40):=⟨blkA b1 a.1,blkA b1 a.2.1,blkA b1 a.2.2⟩;change K _ (W7.alloc (.cells [.int .i64 (f-g),.int .i64 S,.int .i64 V].toArray 3))
 simp only[←h4,←M];clear a b1 h4 M;have a:=P;clear P;refine hK.1 _ _ (fun _ _=>a) ?_;clear hK K;try simp only[Act.put,O]
 refine zo (i:=11) (o:={dst:=some 15,op:=Op.assign (Operand.tmp 57),type:=83,pos:= "measure.go:201",after:=_,guard:=none}) (by kernel_rfl) rfl (by rfl) (fun K hK=>?_);go_simp;refine hK.1 _ _ (fun _ h=>h) ?_;clear hK K;try simp only[Act.put,O]
 refine zM (by kernel_rfl) ?_;clear d4 hw l1 l0;go_wp2_with fail;obtain⟨d5,M⟩:∃W',W8.drew=W':=⟨_,rfl⟩;have D:=I (show Below w.heap.size w d5 by rw[←M];exact i9.1.drew);have P:d5.heap[w.heap.size]?=some (objT t l q m r fa fc)∧d5.heap[R]?=some (objC c p):=by rw[←M];exact⟨a.1,a.2.1⟩
 have j0:=I (show d5.heap[vb]?=some (.cells [.int .i64 (f-g),.int .i64 S,.int .i64 V].toArray 3) by rw[←M];exact a3.1);clear a i9 a3;have a3:=j0;clear j0;have a:=P;clear P;refine zbD (fun d=>d.heap[w.heap.size]?=some (objT t l q m r fa fc)∧d.heap[R]?=some (objC c p)) [] (by kernel_rfl) M ?_;clear M;refine zx (i:=0) (v:=.agg #[.slice l t.zones.length q,.slice m t.airs.length r,.slice fa t.fls.length fc]) rfl (fun d hS'=>?_) a ?_
 · obtain⟨F,G,g2,H⟩:=zdn hS'.1;go_simp
 try simp only[Act.put,O]
 refine zx (i:=1) (v:=.agg #[.int .i64 c.report,.int .i64 c.release,.int .i64 c.connect,.int .i64 c.sit,.int .i64 c.layover,.int .i64 c.nf,.int .i64 c.nt,.slice p.ca c.consts.length p.cc,.slice p.ra c.rules.length p.rc,.slice p.ka c.costs.length p.kc,.slice p.xa c.credit.length p.xc,.slice p.la c.lims.length p.lc,.slice p.oa c.offs.length p.oc,.int .i64 c.guar]) rfl (fun d hS'=>?_) a ?_
 · obtain⟨F,G,g2,g3,g4,g5,g6,g7,g8,g9,Y,Z,a1,a2,H⟩:=zbZ hS'.2;go_simp
 try simp only[Act.put,O]
 refine zT (i:=2) (v:=.slice xa x.length xc) rfl (fun d=>?_) ?_
 · go_simp
 try simp only[Act.put,O]
 refine zx (i:=4) (v:=.agg #[.slice l t.zones.length q,.slice m t.airs.length r,.slice fa t.fls.length fc]) rfl (fun d hS'=>?_) a ?_
 · obtain⟨F,G,g2,H⟩:=zdn hS'.1;go_simp
 try simp only[Act.put,O]
 refine zx (i:=5) (v:=.agg #[.int .i64 c.report,.int .i64 c.release,.int .i64 c.connect,.int .i64 c.sit,.int .i64 c.layover,.int .i64 c.nf,.int .i64 c.nt,.slice p.ca c.consts.length p.cc,.slice p.ra c.rules.length p.rc,.slice p.ka c.costs.length p.kc,.slice p.xa c.credit.length p.xc,.slice p.la c.lims.length p.lc,.slice p.oa c.offs.length p.oc,.int .i64 c.guar]) rfl (fun d hS'=>?_) a ?_
 · obtain⟨F,G,g2,g3,g4,g5,g6,g7,g8,g9,Y,Z,a1,a2,H⟩:=zbZ hS'.2;go_simp
 try simp only[Act.put,O]
 refine zT (i:=6) (v:=.slice ya y.length yc) rfl (fun d=>?_) ?_
 · go_simp
 try simp only[Act.put,O]
 refine zo (i:=3) (o:={dst:=some 61,op:=Op.call {callee:=Callee.value (Operand.func 52),args:=#[Operand.tmp 58,Operand.tmp 59,Operand.tmp 60],argTypes:=#[26,34,36]},type:=44,pos:= "measure.go:202",after:=_,guard:=none}) (by kernel_rfl) rfl (by rfl) (fun K hK=>?_);go_simp;refine(zin t c l q m r fa fc p d5 HT.1 HC.1 (HZ.1.below D.1) (HA.1.below D.1) (HF.1.below D.1) x xa xc j4.1 (f8.1.below D.1)).mono ?_;rintro e w9 ⟨vx,p6,rfl,m9,d6,d7⟩;obtain⟨gx,q5,q6,rfl,n3,n4⟩:=zuD d6 rfl (by rw[zeD];decide);have n5:=I n3;have n6:=I n4;have Q:=I (ztS D.1 d7);have d8:=I (blkA d7 a3.1);have P:w9.heap[w.heap.size]?=some (objT t l q m r fa fc)∧w9.heap[R]?=some (objC c p):=⟨blkA d7 a.1,blkA d7 a.2⟩;clear a d7 m9 d6 n3 n4;have a:=P;clear P;refine hK.1 _ _ (fun _ _=>a) ?_;clear hK K;try simp only[Act.put,O]
 refine zo (i:=7) (o:={dst:=some 65,op:=Op.call {callee:=Callee.value (Operand.func 52),args:=#[Operand.tmp 62,Operand.tmp 63,Operand.tmp 64],argTypes:=#[26,34,36]},type:=44,pos:= "measure.go:202",after:=_,guard:=none}) (by kernel_rfl) rfl (by rfl) (fun K hK=>?_);go_simp;refine(zin t c l q m r fa fc p w9 HT.1 HC.1 (HZ.1.below Q.1) (HA.1.below Q.1) (HF.1.below Q.1) y ya yc f7.1 (f9.1.below Q.1)).mono ?_;rintro e d9 ⟨vy,p7,rfl,n7,f0,b2⟩;obtain⟨gy,q7,q8,rfl,n8,n9⟩:=zuD f0 rfl (by rw[zeD];decide);have p8:=I n8;have o0:=I n9;have f2:=I (ztS Q.1 b2);have a8:=I (blkA b2 d8.1);have o1:=I (blkA b2 n5.1);have P:d9.heap[w.heap.size]?=some (objT t l q m r fa fc)∧d9.heap[R]?=some (objC c p):=⟨blkA b2 a.1,blkA b2 a.2⟩;clear a b2 n7 f0 n8 n9;have a:=P;clear P;refine hK.1 _ _ (fun _ _=>a) ?_;clear hK K;try simp only[Act.put,O]
 refine zo (i:=8) (o:={dst:=some 16,op:=Op.assign (Operand.tmp 61),type:=44,pos:= "measure.go:202",after:=_,guard:=none}) (by kernel_rfl) rfl (by rfl) (fun K hK=>?_);go_simp;refine hK.1 _ _ (fun _ h=>h) ?_;clear hK K;try simp only[Act.put,O]
 refine zo (i:=9) (o:={dst:=some 17,op:=Op.assign (Operand.tmp 65),type:=44,pos:= "measure.go:202",after:=_,guard:=none}) (by kernel_rfl) rfl (by rfl) (fun K hK=>?_);go_simp;refine hK.1 _ _ (fun _ h=>h) ?_;clear hK K;try simp only[Act.put,O]
 refine zM (by kernel_rfl) ?_;have o2:=I (show d9.ownsRow w.heap.size 3 1 (.slice (some ⟨vb,0,none⟩) 3 3) (3+0) (([f-g,S,V]++(zaZ t c x).take 0).map (Value.int .i64)) from⟨rfl,.inr ⟨vb,3,_,rfl,m8.1,a8.1,by omega,by unfold maxLen;omega,rfl,rfl⟩⟩);clear a D Q a3 d8 a8 m8 n5;go_wp2_with fail;go_loopw [18,15] (fun i v wr=>∃(k:Nat),k≤11∧i=.int .i64 k∧ztR (wr.ownsRow w.heap.size 3 1 v (3+k) (([f-g,S,V]++(zaZ t c x).take k).map (Value.int .i64)))∧ztR (zkl 3 d9 wr)∧ztR (Below w.heap.size w wr)) (fun i _ _=>11-(intOf i).toNat)
 case atStart=>exact⟨0,by omega,rfl,o2,I (zkl.refl _ _),f2⟩
 obtain⟨k,hk,rfl,hO,N,A⟩:=hrel;by_cases f3:k<11
 · have QA:=N.1.2 _ _ (fun _ _ h=>by cases h) o1.1;have c0:wr.cell? ⟨gx,k*2+1,none⟩=some (.int .i64 (iAt (zaZ t c x) k)):=zm QA (n6.1 k (by rw[zeD];exact f3));have k2:=ztW QA;have HO:=I hO.1;have HB:=I A.1;have k3:=I (show([f-g,S,V]++(zaZ t c x).take (k+1)).map (Value.int .i64)=([f-g,S,V]++(zaZ t c x).take k).map (Value.int .i64)++ [.int .i64 (iAt (zaZ t c x) k)] by rw[zuA (by rw[zeD];exact f3),←List.append_assoc,zt3];rfl);clear A hO QA;go_wp2_with (at_builtin;refine wpList_append_own _ rfl _ _ 83 rfl w.heap.size 3 i0 (.int .i64 0) 1 8 underlying83 hi k5 k6 k7 rfl (by decide) _ _ _ rfl (HO.1.alloc _) ⟨wr.heap.size,0,none⟩ 1 1 [.int .i64 (iAt (zaZ t c x) k)] rfl rfl ?c1 ?c2 ?c3 ?c4 ?c5 ?_)
   case c1=>exact zaa wr [.int .i64 (iAt (zaZ t c x) k)] 3
   case c2=>intro u hu;simp at hu;subst hu;rfl
   case c3=>unfold maxLen;omega
   case c4=>omega
   case c5=>have:=HB.1.size;simp;omega
   intro v' k4 L z _;have f4:=I (zkl.append N.1 HO.1 z);have U:=I (zaG (e':=3) HB.1 rfl HO.1 z)
   have f5:=I (show k4.ownsRow w.heap.size 3 1 v' (3+(k+1)) (([f-g,S,V]++(zaZ t c x).take (k+1)).map (Value.int .i64)) by
    rw[k3.1];simpa[Nat.add_assoc] using L)
   clear L z HO HB N c0 k2;go_wp2_with fail;go_roundw
   case rel=>first|exact⟨k+1,by omega,by go_num,f5,f4,U⟩|((repeat apply Exists.intro);exact⟨⟨k+1,by omega,by go_num,f5,f4,U⟩,rfl⟩)
   case measure=>simp[intOf];omega
 obtain rfl:k=11:=by omega
 have p9:=I (ownT (nq:=14+0) (xq:=(([f-g,S,V]++zaZ t c x++(zaZ t c y).take 0).map (Value.int .i64))) hO.1 rfl (by rw[List.take_zero,List.append_nil];rfl));have q0:=I N.1;have q1:=I A.1;clear hO N A o2 f2;go_wp2_with fail;go_loopw [19,15] (fun i v wr=>∃(k:Nat),k≤11∧i=.int .i64 k∧ztR (wr.ownsRow w.heap.size 3 1 v (14+k) ((([f-g,S,V]++zaZ t c x)++(zaZ t c y).take k).map (Value.int .i64)))∧ztR (zkl 3 d9 wr)∧ztR (Below w.heap.size w wr)) (fun i _ _=>11-(intOf i).toNat)
 case atStart=>exact⟨0,by omega,rfl,p9,q0,q1⟩
 obtain⟨k,hk,rfl,hO,N,A⟩:=hrel;by_cases f3:k<11
 · have QA:=N.1.2 _ _ (fun _ _ h=>by cases h) p8.1;have c0:wr.cell? ⟨gy,k*2+1,none⟩=some (.int .i64 (iAt (zaZ t c y) k)):=zm QA (o0.1 k (by rw[zeD];exact f3));have k2:=ztW QA;have HO:=I hO.1;have HB:=I A.1;have k3:=I (show(([f-g,S,V]++zaZ t c x)++(zaZ t c y).take (k+1)).map (Value.int .i64)=(([f-g,S,V]++zaZ t c x)++(zaZ t c y).take k).map (Value.int .i64)++ [.int .i64 (iAt (zaZ t c y) k)] by rw[zuA (by rw[zeD];exact f3),←List.append_assoc,zt3];rfl);clear A hO QA;go_wp2_with (at_builtin;refine wpList_append_own _ rfl _ _ 83 rfl w.heap.size 3 i0 (.int .i64 0) 1 8 underlying83 hi k5 k6 k7 rfl (by decide) _ _ _ rfl (HO.1.alloc _) ⟨wr.heap.size,0,none⟩ 1 1 [.int .i64 (iAt (zaZ t c y) k)] rfl rfl ?c1 ?c2 ?c3 ?c4 ?c5 ?_)
   case c1=>exact zaa wr [.int .i64 (iAt (zaZ t c y) k)] 3
   case c2=>intro u hu;simp at hu;subst hu;rfl
   case c3=>unfold maxLen;omega
   case c4=>omega
   case c5=>have:=HB.1.size;simp;omega
   intro v' k4 L z _;have f4:=I (zkl.append N.1 HO.1 z);have U:=I (zaG (e':=3) HB.1 rfl HO.1 z)
   have f5:=I (show k4.ownsRow w.heap.size 3 1 v' (14+(k+1)) ((([f-g,S,V]++zaZ t c x)++(zaZ t c y).take (k+1)).map (Value.int .i64)) by
    rw[k3.1];simpa[Nat.add_assoc] using L)
   clear L z HO HB N c0 k2;go_wp2_with fail;go_roundw
   case rel=>first|exact⟨k+1,by omega,by go_num,f5,f4,U⟩|((repeat apply Exists.intro);exact⟨⟨k+1,by omega,by go_num,f5,f4,U⟩,rfl⟩)
   case measure=>simp[intOf];omega
 obtain rfl:k=11:=by omega
 have o3:=I (ownT (nq:=(zuh t c s x y).length) (xq:=((zuh t c s x y).map (Value.int .i64))) hO.1 rfl (by rw[HQ.1];rfl));obtain⟨va,vc,rfl,hI⟩:=zW.of_own o3.1;have HI:=I hI;have o4:=I A.1;clear hI o3 hO N A;go_wp2_with fail;refine(zoD 2 (by decide) (by decide) (zuh t c s x y) va vc wr rfl HI.1).mono ?_;rintro e r4 ⟨vr,o5,rfl,f6,j1,j2⟩;have q2:=I (ztS o4.1 j2);have q3:=I j1;have q4:=ztV o4.1.size f6;clear j1 j2 f6;go_wp2_with fail;go_ret;exact⟨vr,o5,rfl,q4,q3.1,q2.1⟩
theorem zuL(l:List AirM)(s:ByteArray):(airN l s).isSome=hasB (l.map AirM.code) s:=by
 rw[Bool.eq_iff_iff];simp only[airN,hasB,List.find?_isSome,List.mem_reverse,List.any_eq_true,List.mem_map,decide_eq_true_eq];constructor
 · rintro⟨a,b,e⟩;exact⟨a.code,⟨a,b,rfl⟩,e.symm⟩
 rintro⟨_,⟨a,b,rfl⟩,e⟩;exact⟨a,b,e.symm⟩
theorem zux(t:TTM)(s:ByteArray):decide (ziu t.airs s<0)=!(zul t s):=by
 have h:=zhF AirM.code s 0 t.airs;have b:zul t s=hasB (t.airs.map AirM.code) s:=by
  unfold zul
  exact zuL t.airs s
 rw[b,←h];by_cases e:0≤ixF AirM.code s 0 t.airs
 · have a:¬ ixF AirM.code s 0 t.airs<0:=by omega
   simp[ziu,e,a]
 have a:ixF AirM.code s 0 t.airs<0:=by omega
 simp[ziu,e,a]
theorem zug(t:TTM)(c:ConM)(u:zua)(m:Nat)(n:zua)(i:Nat)(fa:zua)(fc:Nat)(p:ConP)(w:World)(d:(t.zones.length≤m∧m≤140737488355328∧t.airs.length≤i∧i≤140737488355328))(Z:c.consts.length≤p.cc∧p.cc≤140737488355328)(H:TCAt w t c u n fa p)(s:ByteArray)(x y:Duty)(U V:zua)(xc yc:Nat)(a0:x.length≤140737488355328)(a1:y.length≤140737488355328)(hx:SlAt za3 w U x)(hy:SlAt za3 w V y):
 Calls prog 27 #[.agg #[.slice u t.zones.length m,.slice n t.airs.length i,.slice fa t.fls.length fc],.agg #[.int .i64 c.report,.int .i64 c.release,.int .i64 c.connect,.int .i64 c.sit,.int .i64 c.layover,.int .i64 c.nf,.int .i64 c.nt,.slice p.ca c.consts.length p.cc,.slice p.ra c.rules.length p.rc,.slice p.ka c.costs.length p.kc,.slice p.xa c.credit.length p.xc,.slice p.la c.lims.length p.lc,.slice p.oa c.offs.length p.oc,.int .i64 c.guar],.string s,.slice U x.length xc,.slice V y.length yc] w (zst w (zuy t c s x y) (zuf t c s x y)):=by
 have X:=I H;have HX:=I hx;have HY:=I hy;have a9:=d.2.2.2;have a7:=d.2.2.1;clear H hx hy;go_enter func27,ntmps27
 go_wp2_with fail;obtain⟨hB,K,A⟩:=zuN w t c u m n i fa fc p;have HB:=I hB;obtain⟨cb,B⟩:∃cb,cb=w.heap.size+1:=⟨_,rfl⟩;rw[←B]at A;simp only[←B];have QT:=I K;have QC:=I A;clear B hB K A;generalize (w.alloc (objT t u m n i fa fc)).alloc (objC c p)=W at*;have L:=I (X.1.below HB.1);refine(zlD t c u m n i fa fc p W W.heap.size (ztY _) d Z L.1.z L.1.a L.1.f L.1.c).mono ?_;rintro e w1 ⟨rfl,j⟩;have b:=I (ztS HB.1 j);have C:=I (blkA j QT.1);have D:=I (blkA j QC.1);clear j HB QT QC L d;by_cases E:tcV t c=0
 · obtain⟨hT,hC⟩:=zrk E;have g:=I (show zuf t c s x y=if zul t s=true then zub t c x y else 6 from tcE_d hT hC);have k:=I (And.intro hT hC);clear hT hC;obtain⟨x0,x1,x2,xl⟩:=zdn C.1;obtain⟨y0,y1,y2,y3,y4,y5,y6,y7,y8,y9,M,N,P,Q,yl⟩:=zbZ D.1;rw[E];clear E;go_wp2_with fail;refine(zbE t.airs s n i w1 (X.1.below b.1).a (by omega)).mono ?_;rintro e w' ⟨rfl,rfl⟩;by_cases G:zul t s=true
   · rw[if_pos G]at g;have R:decide (ziu t.airs s<0)=false:=by rw[zux];simp[G]
     clear G;go_wp2_with fail;refine(zum t c u m n i fa fc p w1 k.1.1 k.1.2 (X.1.below b.1).f x y U V xc yc a0 a1 (HX.1.below b.1) (HY.1.below b.1)).mono ?_;rintro e w2 ⟨rfl,l⟩;have h:=I (ztS b.1 l);have a3:=I (blkA l C.1);have a4:=I (blkA l D.1);clear l R x0 x1 x2 xl y0 y1 y2 y3 y4 y5 y6 y7 y8 y9 M N P Q yl b C D;by_cases o:zub t c x y=0
     · have HR:=I (zuC o);have q:=I (zuB (g.1.trans o));have HZ:=I (g.1.trans o);obtain⟨x0,x1,x2,xl⟩:=zdn a3.1;obtain⟨y0,y1,y2,y3,y4,y5,y6,y7,y8,y9,M,N,P,Q,yl⟩:=zbZ a4.1;rw[o];clear o g;go_wp2_with fail;have Y:=X.1.below h.1;refine(zus t c u m n i fa fc p w2 k.1.1 k.1.2 Y.z Y.a Y.f s x y U V xc yc HR.1.1 HR.1.2 (HX.1.below h.1) (HY.1.below h.1)).mono ?_;rintro e w3 ⟨v,a8,rfl,F,r,S⟩;have a5:=I (ztS h.1 S);obtain⟨a2,c2,rfl,T⟩:=zcs.of_own r rfl;have a6:=I T;clear S r F T Y;go_wp2_with fail;go_ret2;exact⟨a2,c2,ziM (by rw[q.1,zf2 rfl] <;> rfl) HZ.1.symm,by rw[q.1];exact a6.1,a5.1⟩
     have h':(zub t c x y !=0)=true:=by simpa using o
     have q:=I (zuc (show zuf t c s x y≠0 by rw[g.1];exact o));clear o;go_wp2_with fail;go_ret2;exact zuq q.1 g.1.symm h.1
   rw[if_neg G]at g;have R:decide (ziu t.airs s<0)=true:=by rw[zux];simpa using G
   have q:=I (zuc (show zuf t c s x y≠0 by rw[g.1];decide));clear G;go_wp2_with fail;go_ret2;exact zuq q.1 g.1.symm b.1
 have g:=I (show tcV t c=zuf t c s x y from(zuG E).symm);have h':(tcV t c !=0)=true:=by simpa using E
 have q:=I (zuc (show zuf t c s x y≠0 by rw[←g.1];exact E));clear E;go_wp2_with fail;go_ret2;exact zuq q.1 g.1 b.1
end Go.Proofs.YtdolonpblgfjdaaGreat
