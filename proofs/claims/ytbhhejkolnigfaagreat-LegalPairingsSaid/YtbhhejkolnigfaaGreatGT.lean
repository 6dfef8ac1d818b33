/- a part of the proof -/
import Derived.Test.YtbhhejkolnigfaaGreatGN
set_option linter.unusedVariables false
set_option linter.unusedSimpArgs false
set_option maxRecDepth 100000
set_option maxHeartbeats 51200000
namespace Go.Proofs.YtbhhejkolnigfaaGreat
open Go.RowKit Go.Sort Go.Proofs.Tryz
theorem zrd:wi (zk 1) ⟨#[98,108,111,99,107]⟩=some 3:=by decide+kernel
theorem zmv{c:ConM}{k:Nat}(a:k<c.credit.length):gAt (zaI c) k=cmpE (cvC c.consts c.consts.length) 1 (eAt c.credit k):=by
 unfold gAt zaI eAt
 rw[zt0,List.getElem?_map,zt0,zt1 a];rfl
theorem zmu(c:ConM)(p:ConP)(B:Nat)(w:World)(N:B<=w.heap.size)(b0:c.consts.length<=p.cc/\p.cc<=140737488355328)(hC:valT c=0)(hc:zdr B w c p)(q:List Int)(hq:QOk 1 q)(ta:zua)(tc:Nat)(hA:zcs w ta ((zk 1).zip q)):
 Calls prog 73 #[aggC c p,.slice ta q.length tc] w λe w'=>e=.returned (zio c q)/\Bw w w':=by
 try delta aggC aggT
 have HC:=I hc;have HA:=I hA;have b1:=I (zhU hC);have a0:=(zda hC).1;have A:q.length=11:=hq.len;have u:q.length=(zk 1).length:=hq.len;by_cases V:c.credit.length=0
 . have hr:=I (show zio c q=iAt q 3 from if_pos (by simpa[zaI] using V));have b2:=I ((zns ⟨#[98,108,111,99,107]⟩ u).trans (by rw[zrd];rfl):arIx ((zk 1).zip q) ⟨#[98,108,111,99,107]⟩=3);have a1:((zk 1).zip q).length=q.length:=by rw[List.length_zip];omega
   have X:3<q.length:=by omega
   have e3:(3:Int)<(q.length:Int):=by omega
   have e0:((c.credit.length:Int)==0)=true:=by rw[V];rfl
   have a3:q.length<=140737488355328:=by omega
   have b3:=I u;have x:=I a1;clear hc hA hq V u a1 A a0;go_enter func73,ntmps73
   go_wp2_with fail;have Y:=I (J w (objC c p));generalize w.alloc (objC c p)=W at*;have A1:=HA.1.below Y.1;obtain⟨b,a,rfl,hb,r⟩:=A1.cells (by rw[x.1];omega);have d1:=(r 3 (by rw[x.1];omega)).2;rw[znt b3.1 X]at d1;have HF:=I (zli ((zk 1).zip q) ⟨#[98,108,111,99,107]⟩ (some ⟨b,a,none⟩) tc W A1 (by rw[x.1];exact a3));rw[x.1,b2.1]at HF;clear r A1;refine HF.1.mono ?_;rintro e s ⟨rfl,rfl⟩;clear HF;go_wp2_with fail;go_ret;exact⟨ze hr.1.symm,Y.1⟩
 have X:0<c.credit.length:=by omega
 have hr:=I (show zio c q=fval q (cmpE (cvC c.consts c.consts.length) 1 (eAt c.credit 0)) by rw[zio,if_neg (by simpa[zaI] using V),zmv X]);have e0:((c.credit.length:Int)==0)=false:=by simpa using V
 have P:=zhS hC X;have c5:(0:Int)<(c.credit.length:Int):=by omega
 clear hc hA V;go_enter func73,ntmps73
 go_wp2_with fail;have Y:=I (J w (objC c p));have QC:=I (zh w (objC c p));obtain⟨m,Q⟩:∃m,m=w.heap.size:=⟨_,rfl⟩;rw[<-Q]at QC;simp only[<-Q];clear Q;generalize w.alloc (objC c p)=W at*;have a4:=ztV N Y.1.size;obtain⟨b,a,a5,b4,r⟩:=(HC.1.keep (Y.1.mono N)).credit.cells X;obtain⟨R,g,_,⟨c1,c2,c3,c4⟩,C,t⟩:=r.at 0 X;simp only[Nat.zero_mul,Nat.add_zero]at c1 c2 c3 c4;have HF:=I C;have a6:W.cell? ⟨m,10,none⟩=some (.slice (some ⟨b,a,none⟩) c.credit.length p.xc):=by rw[<-a5];exact zm (j:=10) QC.1 rfl
 have d:W.drew.cell? ⟨m,7,none⟩=some (.slice p.ca c.consts.length p.cc)/\W.drew.cell? ⟨m,10,none⟩=some (.slice (some ⟨b,a,none⟩) c.credit.length p.xc)/\W.drew.cell? ⟨b,a,none⟩=some (.int .i64 (eAt c.credit 0).op)/\W.drew.cell? ⟨b,a+1,none⟩=some (.int .i64 (eAt c.credit 0).num)/\W.drew.cell? ⟨b,a+2,none⟩=some (.string (eAt c.credit 0).name)/\W.drew.cell? ⟨b,a+3,none⟩=some (.slice R (eAt c.credit 0).args.length g):=⟨zm (j:=7) QC.1 rfl,a6,c1,c2,c3,c4⟩;have BL:=I Y.1.drew;have n:B<=W.drew.heap.size:=a4;have y:m<W.drew.heap.size:=ztW QC.1;have Z:b<W.drew.heap.size:=ztU b4 n;have S:=I (HC.1.keep (BL.1.mono N));have a7:ztR (zaz B W.drew R (eAt c.credit 0).args):=I (t.keep ((ztT W.heap.size W).drew.mono a4));have a8:=I (HA.1.below BL.1);have T:=I (zfn c.consts p.ca p.cc B W.drew n b0 (by omega) S.1.consts b1.1);obtain⟨Wd,U⟩:∃Wd,W.drew=Wd:=⟨_,rfl⟩;rw[U]at d BL n y Z S a7 a8 T;clear r C t a5 c1 c2 c3 c4 A u;go_wp2_with fail;refine zbD (λw'=>w'.cell? ⟨m,7,none⟩=some (.slice p.ca c.consts.length p.cc)/\w'.cell? ⟨m,10,none⟩=some (.slice (some ⟨b,a,none⟩) c.credit.length p.xc)/\w'.cell? ⟨b,a,none⟩=some (.int .i64 (eAt c.credit 0).op)/\w'.cell? ⟨b,a+1,none⟩=some (.int .i64 (eAt c.credit 0).num)/\w'.cell? ⟨b,a+2,none⟩=some (.string (eAt c.credit 0).name)/\w'.cell? ⟨b,a+3,none⟩=some (.slice R (eAt c.credit 0).args.length g)) [] (by kernel_rfl) U ?_;clear U a6;refine zx (i:=0) (v:=.pointer (some ⟨m,7,none⟩)) rfl (λw' hS'=>?_) d ?_
 . obtain⟨D,E,F,G,H,L⟩:=hS';go_simp
 try simp only[Act.put,O]
 refine zx (i:=1) (v:=.slice p.ca c.consts.length p.cc) rfl (λw' hS'=>?_) d ?_
 . obtain⟨D,E,F,G,H,L⟩:=hS';go_simp
 try simp only[Act.put,O]
 refine zx (i:=3) (v:=.pointer (some ⟨m,7,none⟩)) rfl (λw' hS'=>?_) d ?_
 . obtain⟨D,E,F,G,H,L⟩:=hS';go_simp
 try simp only[Act.put,O]
 refine zx (i:=4) (v:=.slice p.ca c.consts.length p.cc) rfl (λw' hS'=>?_) d ?_
 . obtain⟨D,E,F,G,H,L⟩:=hS';go_simp
 try simp only[Act.put,O]
 refine zx (i:=5) (v:=.slice ta q.length tc) rfl (λw' hS'=>?_) d ?_
 . obtain⟨D,E,F,G,H,L⟩:=hS';go_simp
 try simp only[Act.put,O]
 refine zx (i:=6) (v:=.pointer (some ⟨m,10,none⟩)) rfl (λw' hS'=>?_) d ?_
 . obtain⟨D,E,F,G,H,L⟩:=hS';go_simp
 try simp only[Act.put,O]
 refine zx (i:=7) (v:=.slice (some ⟨b,a,none⟩) c.credit.length p.xc) rfl (λw' hS'=>?_) d ?_
 . obtain⟨D,E,F,G,H,L⟩:=hS';go_simp
 try simp only[Act.put,O]
 refine zx (i:=8) (v:=.pointer (some ⟨b,a,none⟩)) rfl (λw' hS'=>?_) d ?_
 . obtain⟨D,E,F,G,H,L⟩:=hS';go_simp
 try simp only[Act.put,O]
 refine zx (i:=9) (v:=.agg #[(eAt c.credit 0).op,(eAt c.credit 0).num,.string (eAt c.credit 0).name,.slice R (eAt c.credit 0).args.length g]) rfl (λw' hS'=>?_) d ?_
 . obtain⟨D,E,F,G,H,L⟩:=hS';go_simp
 try simp only[Act.put,O]
 refine zo (i:=2) (o:={dst:=some 17,op:=Op.call {callee:=Callee.value (Operand.func 91),args:=#[Operand.tmp 16],argTypes:=#[27]},type:=72,pos:= "measure.go:231",after:=_,guard:=none}) (by kernel_rfl) rfl (by rfl) (λK hK=>?_);go_simp;refine T.1.mono ?_;rintro e s ⟨va,vc,rfl,hI,f⟩;have HI:=I hI;have b5:=I (ztS BL.1 f);have b6:B<=s.heap.size:=ztV n f.size;have b7:=I (S.1.keep (f.mono n));have b8:=I (a7.1.keep (f.mono n));have b9:=I (a8.1.below f);have k:s.cell? ⟨m,7,none⟩=some (.slice p.ca c.consts.length p.cc)/\s.cell? ⟨m,10,none⟩=some (.slice (some ⟨b,a,none⟩) c.credit.length p.xc)/\s.cell? ⟨b,a,none⟩=some (.int .i64 (eAt c.credit 0).op)/\s.cell? ⟨b,a+1,none⟩=some (.int .i64 (eAt c.credit 0).num)/\s.cell? ⟨b,a+2,none⟩=some (.string (eAt c.credit 0).name)/\s.cell? ⟨b,a+3,none⟩=some (.slice R (eAt c.credit 0).args.length g):=⟨zD d.1 y f,zD d.2.1 y f,zD d.2.2.1 Z f,zD d.2.2.2.1 Z f,zD d.2.2.2.2.1 Z f,zD d.2.2.2.2.2 Z f⟩;have M:m<s.heap.size:=ztU y f.size;have z:b<s.heap.size:=ztU Z f.size;have HV:=I (zi7 B c.consts p.ca p.cc 1 1 rfl (by decide) va vc q q hq.self ta tc q.length rfl (eAt c.credit 0) R g s b6 HF.1 P.1 P.2.1 b8.1 P.2.2 HI.1 b7.1.consts b9.1);clear hI f T;refine hK.1 _ _ (λ_ _=>k) ?_;clear hK K;try simp only[Act.put,O]
 refine zo (i:=10) (o:={dst:=some 25,op:=Op.call {callee:=Callee.value (Operand.func 92),args:=#[Operand.tmp 17,Operand.tmp 19,Operand.const (Value.int IntKind.i64 1),Operand.tmp 20,Operand.tmp 24],argTypes:=#[72,27,3,41,86]},type:=3,pos:= "measure.go:231",after:=_,guard:=none}) (by kernel_rfl) rfl (by rfl) (λK hK=>?_);go_simp;refine HV.1.mono ?_;rintro e w3 ⟨rfl,l⟩;have c0:=I (ztS b5.1 l);have a9:w3.cell? ⟨m,7,none⟩=some (.slice p.ca c.consts.length p.cc)/\w3.cell? ⟨m,10,none⟩=some (.slice (some ⟨b,a,none⟩) c.credit.length p.xc)/\w3.cell? ⟨b,a,none⟩=some (.int .i64 (eAt c.credit 0).op)/\w3.cell? ⟨b,a+1,none⟩=some (.int .i64 (eAt c.credit 0).num)/\w3.cell? ⟨b,a+2,none⟩=some (.string (eAt c.credit 0).name)/\w3.cell? ⟨b,a+3,none⟩=some (.slice R (eAt c.credit 0).args.length g):=⟨zD k.1 M l,zD k.2.1 M l,zD k.2.2.1 z l,zD k.2.2.2.1 z l,zD k.2.2.2.2.1 z l,zD k.2.2.2.2.2 z l⟩;clear l HV;refine hK.1 _ _ (λ_ _=>a9) ?_;clear hK K;try simp only[Act.put,O]
 refine zo (i:=11) (o:={dst:=some 4,op:=Op.assign (Operand.tmp 25),type:=3,pos:= "measure.go:231",after:=_,guard:=none}) (by kernel_rfl) rfl (by rfl) (λK hK=>?_);go_simp;refine hK.1 _ _ (λ_ h=>h) ?_;clear hK K;try simp only[Act.put,O]
 refine zM (by kernel_rfl) ?_;clear d k a9;go_wp2_with fail;go_ret;exact⟨ze hr.1.symm,c0.1⟩
end Go.Proofs.YtbhhejkolnigfaaGreat
