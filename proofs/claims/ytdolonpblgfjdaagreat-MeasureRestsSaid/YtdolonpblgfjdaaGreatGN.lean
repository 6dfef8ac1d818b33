/- a part of the proof -/
import Derived.Test.YtdolonpblgfjdaaGreatGM
import Derived.Test.YtdolonpblgfjdaaGreatGR
set_option linter.unusedVariables false
set_option linter.unusedSimpArgs false
set_option maxRecDepth 100000
set_option maxHeartbeats 12800000
namespace Go.Proofs.YtdolonpblgfjdaaGreat
open Go.RowKit Go.Sort Go.Proofs.Tryz
theorem zoC(nm:List UInt8)(o:Int)(l:List (Int×Int))(x y a b:Int):0≤(zaJ nm o l x y a b).1∧(zaJ nm o l x y a b).1≤52596000:=by
 unfold zaJ
 by_cases h:zac nm o l x y a b≠0
 · rw[if_pos h];omega
 rw[if_neg h];obtain⟨_,c,_⟩:=zdb (Classical.not_not.1 h);have:=zj5 (inB o l a b) x (y-x).toNat;simp only;omega
theorem zng(nm:List UInt8)(o:Int)(l:List (Int×Int))(t:Int):-840≤(zaB nm o l t).1∧(zaB nm o l t).1≤840:=by
 by_cases h:(zaB nm o l t).2=0
 · have:=zex h;omega
 unfold zaB at*
 by_cases a:zG nm o l≠0
 · rw[if_pos a];simp
 rw[if_neg a]at h ⊢;by_cases b:insB t=false
 · rw[if_pos b];simp
 rw[if_neg b]at h;exact absurd rfl h
theorem zeS(nm:List UInt8)(o:Int)(l:List (Int×Int))(t:Int):0≤(zbj nm o l t).2.1∧(zbj nm o l t).2.1<1440:=by
 unfold zbj
 split
 · simp
 simp only;omega
theorem zeD(t:TTM)(c:ConM)(d:Duty):(zaZ t c d).length=11:=rfl
theorem zrJ{t:TTM}{c:ConM}{d:Duty}(b:zY t=0)(e:valT c=0)(a:za6 t c d=0):∀i,i<11→0≤iAt (zaZ t c d) i∧iAt (zaZ t c d) i≤100000000:=by
 have f:=DVB.to b e a d.length (ztY _);have x:d.length≤6:=(zcp a).2.1;have g:=znp b e a;have h:(zcK t c d).1=(fAt t.fls (fstN d)).dep-c.report:=rfl;have j:(zcK t c d).2=(fAt t.fls (lstN d)).arr+c.release:=rfl;rw[h,j]at g;obtain⟨k,l,m,n,o,p,q,r,s,u,v⟩:=f;intro i w;match i,w with
 |0,_=>show 0≤(dvTo t d d.length).legs∧(dvTo t d d.length).legs≤_;omega
 |1,_=>show 0≤(dvTo t d d.length).heads∧(dvTo t d d.length).heads≤_;omega
 |2,_=>show 0≤((dvTo t d d.length).kinds.length:Int)∧((dvTo t d d.length).kinds.length:Int)≤_;omega
 |3,_=>show 0≤(dvTo t d d.length).blk∧(dvTo t d d.length).blk≤_;omega
 |4,_=>show 0≤zlR t c (fstN d) (lstN d)∧zlR t c (fstN d) (lstN d)≤_;unfold zlR;omega
 |5,_=>show 0≤zfF t c (fstN d) (lstN d)∧zfF t c (fstN d) (lstN d)≤_;unfold zfF;have:=zoC (zp t (fAt t.fls (fstN d)).frm).name.data.toList (zp t (fAt t.fls (fstN d)).frm).off (zp t (fAt t.fls (fstN d)).frm).sh ((fAt t.fls (fstN d)).dep-c.report) ((fAt t.fls (lstN d)).arr+c.release) c.nf c.nt;omega
 |6,_=>show 0≤(dvTo t d d.length).lng∧(dvTo t d d.length).lng≤_;omega
 |7,_=>show 0≤(dvTo t d d.length).sht∧(dvTo t d d.length).sht≤_;omega
 |8,_=>
  show 0≤zcT t c (fstN d) (lstN d)∧zcT t c (fstN d) (lstN d)≤_
  have y:=zng (zp t (fAt t.fls (fstN d)).frm).name.data.toList (zp t (fAt t.fls (fstN d)).frm).off (zp t (fAt t.fls (fstN d)).frm).sh ((fAt t.fls (fstN d)).dep-c.report);have z:=zng (zp t (fAt t.fls (lstN d)).to).name.data.toList (zp t (fAt t.fls (lstN d)).to).off (zp t (fAt t.fls (lstN d)).to).sh ((fAt t.fls (lstN d)).arr+c.release);unfold zcT zgt zgs mx
  split <;> omega
 |9,_=>
  have:=zeS (zp t (fAt t.fls (fstN d)).frm).name.data.toList (zp t (fAt t.fls (fstN d)).frm).off (zp t (fAt t.fls (fstN d)).frm).sh ((fAt t.fls (fstN d)).dep-c.report);show 0≤zdd t c (fstN d)∧zdd t c (fstN d)≤_;unfold zdd;omega
 |10,_=>
  have:=zeS (zp t (fAt t.fls (lstN d)).to).name.data.toList (zp t (fAt t.fls (lstN d)).to).off (zp t (fAt t.fls (lstN d)).to).sh ((fAt t.fls (lstN d)).arr+c.release);show 0≤endI t c (lstN d)∧endI t c (lstN d)≤_;unfold endI;omega
theorem zot:((List.range 11).all fun i=>zad 1 (sAt (zk 1) i) !=4&&(zad 1 (sAt (zk 1) i) !=3 || decide (9≤i)))=true:=by decide+kernel
theorem zqB(t:TTM)(c:ConM)(d:Duty){i:Nat}(b:9≤i)(a:i<11):0≤iAt (zaZ t c d) i∧iAt (zaZ t c d) i<1440:=by
 obtain rfl|rfl:i=9∨i=10:=by omega
 · have:=zeS (zp t (fAt t.fls (fstN d)).frm).name.data.toList (zp t (fAt t.fls (fstN d)).frm).off (zp t (fAt t.fls (fstN d)).frm).sh ((fAt t.fls (fstN d)).dep-c.report);exact this
 have:=zeS (zp t (fAt t.fls (lstN d)).to).name.data.toList (zp t (fAt t.fls (lstN d)).to).off (zp t (fAt t.fls (lstN d)).to).sh ((fAt t.fls (lstN d)).arr+c.release);exact this
theorem zeU{t:TTM}{c:ConM}{d:Duty}(e:zY t=0)(f:valT c=0)(g:za6 t c d=0):QOk 1 (zaZ t c d) where
 len:=rfl
 val:=fun i hi=>by
  have a:i<11:=hi;have j:=zrJ e f g i a;have b:=List.all_eq_true.1 zot i (List.mem_range.2 a);simp only[zt5,bne_iff_ne,Bool.or_eq_true,decide_eq_true_eq]at b;refine⟨by unfold inR;omega,fun h3=>?_,fun h4=>absurd h4 b.1⟩;rcases b.2 with h|h
  · exact absurd h3 h
  exact zqB t c d h a
def zh3(t:TTM)(c:ConM)(d:Duty):List (ByteArray×Int):=if dErr t c d=0 then(zk 1).zip (zaZ t c d) else []
def zst(w:World)(L:List (ByteArray×Int))(er:Int)(e:Ending)(w':World):Prop:=∃a cap,e=.returned (.tuple #[.slice a L.length cap,.int .i64 er])∧zcs w' a L∧Below w.heap.size w w'
theorem zcr{t:TTM}{c:ConM}{d:Duty}(h:dErr t c d=0):zh3 t c d=(zk 1).zip (zaZ t c d):=if_pos h
theorem zgh{t:TTM}{c:ConM}{d:Duty}(h:dErr t c d≠0):zh3 t c d= []:=if_neg h
theorem zf2{N:List ByteArray}{q:List Int}(h:q.length=N.length):(N.zip q).length=q.length:=by rw[List.length_zip];omega
theorem zf0.list{t:TTM}{c:ConM}{d:Duty}{w w':World}{e:Ending}(h:zf0 w (zk 1) (zaZ t c d) (dErr t c d) e w'):zst w (zh3 t c d) (dErr t c d) e w':=by
 obtain⟨h,f⟩:=h;rcases h with⟨a,rfl⟩|⟨b,a,rfl,g,i⟩
 · exact⟨none,0,by rw[zgh a];rfl,.inl (zgh a),f⟩
 exact⟨_,_,by rw[zcr a,zf2 g,a],by rw[zcr a];exact i.at g,f⟩
theorem ziM{v c:Value}{a b:Int}(d:v=c)(h:a=b):Ending.returned (.tuple #[v,.int .i64 a])=.returned (.tuple #[c,.int .i64 b]):=by rw[h,d]
theorem zbw(t:TTM)(c:ConM)(j:zua)(g:Nat)(k:zua)(h:Nat)(fa:zua)(fc:Nat)(p:ConP)(w:World)(q:(t.zones.length≤g∧g≤140737488355328∧t.airs.length≤h∧h≤140737488355328))(D:c.consts.length≤p.cc∧p.cc≤140737488355328)(r:TCAt w t c j k fa p)(d:Duty)(y:zua)(E:Nat)(F:d.length≤140737488355328)(M:SlAt za3 w y d):
 Calls prog 14 #[.agg #[.slice j t.zones.length g,.slice k t.airs.length h,.slice fa t.fls.length fc],.agg #[.int .i64 c.report,.int .i64 c.release,.int .i64 c.connect,.int .i64 c.sit,.int .i64 c.layover,.int .i64 c.nf,.int .i64 c.nt,.slice p.ca c.consts.length p.cc,.slice p.ra c.rules.length p.rc,.slice p.ka c.costs.length p.kc,.slice p.xa c.credit.length p.xc,.slice p.la c.lims.length p.lc,.slice p.oa c.offs.length p.oc,.int .i64 c.guar],.slice y d.length E] w (zst w (zh3 t c d) (dErr t c d)):=by
 have A:=I r;have N:=I M;clear r M;go_enter func14,ntmps14
 go_wp2_with fail;have B:=I (ztS (J w (objT t j g k h fa fc)) (J _ (objC c p)));have P:=I (zd (o':=(objC c p)) (zh w (objT t j g k h fa fc)));have C:=I (zh (w.alloc (objT t j g k h fa fc)) (objC c p));rw[zr]at C;obtain⟨Q,n⟩:∃Q,Q=w.heap.size+1:=⟨_,rfl⟩;rw[←n]at C;simp only[←n];clear n;generalize (w.alloc (objT t j g k h fa fc)).alloc (objC c p)=W at*;refine(zdk t c j g k h fa fc p W q D (A.1.below B.1) d y E F (N.1.below B.1)).mono ?_;rintro e X ⟨rfl,i⟩;have b:=I (ztS B.1 i);have G:=I (blkA i P.1);have H:=I (blkA i C.1);clear i B P C;by_cases l:dErr t c d=0
 · have s:=I (zcr l);have Y:=I l;obtain⟨R,S,T⟩:=zd0 l;have U:=I (zin t c j g k h fa fc p X R S (A.1.below b.1).z (A.1.below b.1).a (A.1.below b.1).f d y E T (N.1.below b.1));clear R S T;obtain⟨x0,x1,x2,xl⟩:=zdn G.1;obtain⟨y0,y1,y2,y3,y4,y5,y6,y7,y8,y9,Z,a0,a1,a3,yl⟩:=zbZ H.1;rw[l];clear l;go_wp2_with fail;refine U.1.mono ?_;rintro e w2 ⟨v,V,rfl,o,m,u⟩;have K:=I (ztS b.1 u);obtain⟨a2,c2,rfl,x⟩:=zcs.of_own m rfl;have L:=I x;clear u U m o x;go_wp2_with fail;go_ret2;exact⟨a2,c2,ziM (by rw[s.1,zf2 rfl] <;> rfl) Y.1.symm,by rw[s.1];exact L.1,K.1⟩
 have s:=I (zgh l);have e1:(dErr t c d !=0)=true:=by simpa using l
 clear l;go_wp2_with fail;go_ret2;exact⟨none,0,ziM (by rw[s.1];rfl) rfl,.inl s.1,b.1⟩
theorem zox{t:TTM}{c:ConM}{d:Duty}(f:zY t=0)(b:valT c=0)(g:za6 t c d=0):∀k,k<(zaI c).length→fok (zaZ t c d) (gAt (zaI c) k):=by
 intro k h;have a:k<c.credit.length:=by simpa[zaI] using h
 have e:gAt (zaI c) k=cmpE (cvC c.consts c.consts.length) 1 (eAt c.credit k):=by
  unfold gAt zaI eAt
  rw[zt0,List.getElem?_map,zt0,zt1 a];rfl
 obtain⟨i,l,j⟩:=zhS b a;rw[e];exact(zlS ((zeU f b g).env (by decide) c.consts c.consts.length) _ i j).1
theorem zow{c:ConM}(a:valT c=0):(zaI c).length≤1:=by
 have h:=(zch (zbV a).g).1;simp only[zdP,zt5,decide_eq_true_eq]at h;simp only[zaI,List.length_map];omega
def crR(t:TTM)(c:ConM)(d:Duty):Int:=if dErr t c d=0 then zio c (zaZ t c d) else 0
theorem zjW(t:TTM)(c:ConM)(j:zua)(n:Nat)(k:zua)(o:Nat)(fa:zua)(fc:Nat)(p:ConP)(w:World)(hN:NewS t c j n k o fa fc p)(E:TCAt w t c j k fa p)(d:Duty)(L:zua)(Q:Nat)(R:d.length≤140737488355328)(hd:SlAt za3 w L d):
 Calls prog 11 #[.agg #[.slice j t.zones.length n,.slice k t.airs.length o,.slice fa t.fls.length fc],.agg #[.int .i64 c.report,.int .i64 c.release,.int .i64 c.connect,.int .i64 c.sit,.int .i64 c.layover,.int .i64 c.nf,.int .i64 c.nt,.slice p.ca c.consts.length p.cc,.slice p.ra c.rules.length p.rc,.slice p.ka c.costs.length p.kc,.slice p.xa c.credit.length p.xc,.slice p.la c.lims.length p.lc,.slice p.oa c.offs.length p.oc,.int .i64 c.guar],.slice L d.length Q] w fun e w'=>e=.returned (.tuple #[.agg #[.int .i64 (spR t c d).1,.int .i64 (spR t c d).2],.int .i64 (dErr t c d)])∧Below w.heap.size w w':=by
 have HT:=I E;have HD:=I hd;have HN:=I hN;clear E hd hN;go_enter func11,ntmps11
 go_wp2_with fail;have M:=I (ztS (ztS (J w (objT t j n k o fa fc)) (J _ (objC c p))) (J _ zjC));have QT:=I (zd (o':=zjC) (zd (o':=(objC c p)) (zh w (objT t j n k o fa fc))));have S:=I (zd (o':=zjC) (zh (w.alloc (objT t j n k o fa fc)) (objC c p)));have N:=I (zh ((w.alloc (objT t j n k o fa fc)).alloc (objC c p)) (Obj.cells #[.int .i64 0,.int .i64 0] 40));rw[zr]at S;rw[zr,zr]at N;obtain⟨a,g⟩:∃a,a=w.heap.size+1+1:=⟨_,rfl⟩;obtain⟨cb,r⟩:∃cb,cb=w.heap.size+1:=⟨_,rfl⟩;rw[←g]at N;rw[←r]at S;simp only[←g];simp only[←r];have l:w.heap.size≤a:=by omega
 clear g r;generalize ((w.alloc (objT t j n k o fa fc)).alloc (objC c p)).alloc (Obj.cells #[.int .i64 0,.int .i64 0] 40)=W at*;refine(zeq t c j n k o fa fc p HN.1 W (HT.1.below M.1) d L Q R (HD.1.below M.1)).mono ?_;rintro e D ⟨F,s⟩;have x:=I (ztS M.1 s);have b:=I (blkA s N.1);clear s M QT S N;rcases F with⟨h,rfl⟩|⟨sb,P,h,G,rfl,hs,_⟩
 · have T:=I (show spR t c d=(0,0) from if_neg h);have e1:(dErr t c d !=0)=true:=by simpa using h
   clear h;have U:=zw b.1;have V:=zu b.1;have X:D.frozen? ⟨a,0,none⟩=false:=zQ b.1;have Y:D.frozen? ⟨a,1,none⟩=false:=zQ b.1;have rl:=ztW b.1;go_wp2_with fail;clear U V X Y;have Z:(D.setCell ⟨a,0,none⟩ (.int .i64 0)).heap[a]?=some (.cells #[.int .i64 0,.int .i64 0] 40 (0,0)):=zg (i:=0) (u:=.int .i64 0) b.1;have H:((D.setCell ⟨a,0,none⟩ (.int .i64 0)).setCell ⟨a,1,none⟩ (.int .i64 0)).heap[a]?=some (.cells #[.int .i64 0,.int .i64 0] 40 (0,0)):=zg (i:=1) (u:=.int .i64 0) Z;have r0:=zw H;have r1:=zu H;have y:Below w.heap.size w ((D.setCell ⟨a,0,none⟩ (.int .i64 0)).setCell ⟨a,1,none⟩ (.int .i64 0)):=((x.1.setCell l _).setCell l _);refine bodyPost_ret (v:=.tuple #[.agg #[.int .i64 0,.int .i64 0],.int .i64 (dErr t c d)]) (by simp[results,results11,go_sem,r0,r1]) rfl ?_;exact⟨by rw[T.1],y⟩
 have T:=I (show spR t c d=zcK t c d from if_pos h);have HS:=I hs;have HV:=I h;have a0:=I G;clear hs h G;go_wp2_with fail;refine(zll D sb t c P HS.1 d L Q a0.1 (HD.1.below x.1)).mono ?_;rintro e K ⟨rfl,z⟩;have a1:=I (ztS x.1 z);have f:=I (blkA z b.1);clear z;obtain⟨m,A⟩:∃m,m=(zcK t c d).1:=⟨_,rfl⟩;obtain⟨B,C⟩:∃B,B=(zcK t c d).2:=⟨_,rfl⟩;simp only[←A,←C];have q:=I (And.intro A C);clear A C;have U:=zw f.1;have V:=zu f.1;have X:K.frozen? ⟨a,0,none⟩=false:=zQ f.1;have Y:K.frozen? ⟨a,1,none⟩=false:=zQ f.1;have rl:=ztW f.1;go_wp2_with fail;clear U V X Y;have Z:(K.setCell ⟨a,0,none⟩ (.int .i64 m)).heap[a]?=some (.cells #[.int .i64 m,.int .i64 0] 40 (0,0)):=zg (i:=0) (u:=.int .i64 m) f.1;have H:((K.setCell ⟨a,0,none⟩ (.int .i64 m)).setCell ⟨a,1,none⟩ (.int .i64 B)).heap[a]?=some (.cells #[.int .i64 m,.int .i64 B] 40 (0,0)):=zg (i:=1) (u:=.int .i64 B) Z;have r0:=zw H;have r1:=zu H;have y:Below w.heap.size w ((K.setCell ⟨a,0,none⟩ (.int .i64 m)).setCell ⟨a,1,none⟩ (.int .i64 B)):=((a1.1.setCell l _).setCell l _);refine bodyPost_ret (v:=.tuple #[.agg #[.int .i64 m,.int .i64 B],.int .i64 0]) (by simp[results,results11,go_sem,r0,r1]) rfl ?_;exact⟨by rw[T.1,HV.1,q.1.1,q.1.2],y⟩
theorem zmw(t:TTM)(c:ConM)(a:zua)(g:Nat)(f:zua)(i:Nat)(fa:zua)(fc:Nat)(p:ConP)(w:World)(E:NewS t c a g f i fa fc p)(m:TCAt w t c a f fa p)(d:Duty)(v:zua)(y:Nat)(z:d.length≤140737488355328)(F:SlAt za3 w v d):
 Calls prog 15 #[.agg #[.slice a t.zones.length g,.slice f t.airs.length i,.slice fa t.fls.length fc],.agg #[.int .i64 c.report,.int .i64 c.release,.int .i64 c.connect,.int .i64 c.sit,.int .i64 c.layover,.int .i64 c.nf,.int .i64 c.nt,.slice p.ca c.consts.length p.cc,.slice p.ra c.rules.length p.rc,.slice p.ka c.costs.length p.kc,.slice p.xa c.credit.length p.xc,.slice p.la c.lims.length p.lc,.slice p.oa c.offs.length p.oc,.int .i64 c.guar],.slice v d.length y] w fun e w'=>e=.returned (.tuple #[.int .i64 (crR t c d),.int .i64 (dErr t c d)])∧Below w.heap.size w w':=by
 have Q:=I m;have G:=I F;have R:=I E;clear m F E;go_enter func15,ntmps15
 go_wp2_with fail;have x:=I (ztS (J w (objT t a g f i fa fc)) (J _ (objC c p)));have S:=I (zd (o':=(objC c p)) (zh w (objT t a g f i fa fc)));have A:=I (zh (w.alloc (objT t a g f i fa fc)) (objC c p));rw[zr]at A;obtain⟨H,j⟩:∃H,H=w.heap.size+1:=⟨_,rfl⟩;rw[←j]at A;simp only[←j];clear j;generalize (w.alloc (objT t a g f i fa fc)).alloc (objC c p)=W at*;refine(zeq t c a g f i fa fc p R.1 W (Q.1.below x.1) d v y z (G.1.below x.1)).mono ?_;rintro e T ⟨n,o⟩;have k:=I (ztS x.1 o);clear o x S A;rcases n with⟨h,rfl⟩|⟨K,P,h,q,rfl,L,_⟩
 · have B:=I (show crR t c d=0 from if_neg h);have Y:(dErr t c d !=0)=true:=by simpa using h
   clear h;go_wp2_with fail;go_ret2;exact⟨zJ B.1.symm rfl,k.1⟩
 have B:=I (show crR t c d=zio c (zaZ t c d) from if_pos h);have r:=I L;have U:=I h;have s:=I q;clear L h q;go_wp2_with fail;refine(zcH T K t c P r.1 d v y s.1 (G.1.below k.1)).mono ?_;rintro e V ⟨b,rfl,M,l⟩;have X:=I M;have C:=I (ztS k.1 l);have N:=I (zls V K t c P (r.1.below l) (zaZ t c d) (some ⟨b,0,none⟩) 11 (by rw[zeD];decide) (by rw[zeD];decide) X.1 (zox r.1.okT r.1.okC s.1) (ztV (zow r.1.okC) (by decide)));clear M l;go_wp2_with fail;refine N.1.mono ?_;rintro e Z ⟨rfl,u⟩;have D:=I (ztS C.1 u);clear u N;go_wp2_with fail;go_ret2;exact⟨zJ B.1.symm U.1.symm,D.1⟩
end Go.Proofs.YtdolonpblgfjdaaGreat
