/- a part of the proof -/
import Derived.Test.YtllakjblamfjbaaGreatH5
import Derived.Test.YtllakjblamfjbaaGreatGO
set_option linter.unusedVariables false
set_option linter.unusedSimpArgs false
set_option maxRecDepth 100000
set_option maxHeartbeats 51200000
namespace Go.Proofs.YtllakjblamfjbaaGreat
open Go.RowKit Go.Sort Go.Proofs.Tryz
theorem zvd(t:TTM)(c:ConM)(s:ByteArray)(x y:Duty)(o:zua)(l:Nat)(q:zua)(m:Nat)(fa:zua)(fc:Nat)(p:ConP)(xa:zua)(xc:Nat)(ya:zua)(yc:Nat)(w:World)(hn:(t.zones.length≤l∧l≤140737488355328∧t.airs.length≤m∧m≤140737488355328)∧t.fls.length≤fc∧fc≤140737488355328)(hz:SlAt zcg w o t.zones)(ha:SlAt zei w q t.airs)(hf:SlAt zam w fa t.fls)(a6:c.consts.length≤p.cc∧p.cc≤140737488355328)(hc:zdr w.heap.size w c p)(v:x.length≤140737488355328)(hx:SlAt za3 w xa x)(z:y.length≤140737488355328)(hy:SlAt za3 w ya y):
 Calls prog 4 #[aggT t o l q m fa fc,aggC c p,.string s,.slice xa x.length xc,.slice ya y.length yc] w fun e w'=>e=.returned (.bool true)∧Below w.heap.size w w':=by
 try delta aggC aggT
 have n:=I (fun W (h:Below w.heap.size w W)=>And.intro (TCAt.below ⟨hz,ha,hf,hc⟩ h) (And.intro (hx.below h) (hy.below h)));have a7:=hn.1;have a8:t.zones.length≤140737488355328∧t.airs.length≤140737488355328∧t.fls.length≤140737488355328:=by omega
 have c1:=zvO t c s x y;have F:=I (show t.zones.length≤l∧l≤140737488355328∧t.airs.length≤m∧m≤140737488355328 by omega);clear hz ha hf hc hx hy hn a7;go_enter func4,ntmps4
 go_wp2_with fail;obtain⟨hB,q0,q1⟩:=zuN w t c o l q m fa fc p;have a9:=I hB;obtain⟨b0,H⟩:∃b0,b0=w.heap.size:=⟨_,rfl⟩;obtain⟨b1,K⟩:∃b1,b1=w.heap.size+1:=⟨_,rfl⟩;rw[←H]at q0;rw[←K]at q1;simp only[←K];simp only[←H];clear H K hB;generalize (w.alloc (objT t o l q m fa fc)).alloc (objC c p)=w0 at*;have Q0:=I q0;have Q1:=I q1;clear q0 q1;have G:=I (fun W' (h:Below w0.heap.size w0 W')=>And.intro (blkA h Q0.1) (blkA h Q1.1));refine(zhE t c o l q m fa fc p w0 a8 (n.1 _ a9.1).1).mono ?_;rintro e w1 ⟨bl,rfl,L⟩;have b:=I (ztS a9.1 L);have M:=I L;clear L a8;cases bl
 · have d:=b;go_wp2_with fail;refine(zfp _).mono ?_;rintro e wz ⟨rfl,a⟩;have f:=I (ztS d.1 a);clear a;go_wp2_with fail;go_ret;exact⟨rfl,f.1⟩
 by_cases N:40<x.length
 · have ex:decide ((40:Int)<(x.length:Int))=true:=by simp;omega
   have d:=b;clear N;go_wp2_with fail;refine(zfp _).mono ?_;rintro e wz ⟨rfl,a⟩;have f:=I (ztS d.1 a);clear a;go_wp2_with fail;go_ret;exact⟨rfl,f.1⟩
 have ex:decide ((40:Int)<(x.length:Int))=false:=by simp;omega
 by_cases b2:40<y.length
 · have ey:decide ((40:Int)<(y.length:Int))=true:=by simp;omega
   have d:=b;clear N b2;go_wp2_with fail;refine(zfp _).mono ?_;rintro e wz ⟨rfl,a⟩;have f:=I (ztS d.1 a);clear a;go_wp2_with fail;go_ret;exact⟨rfl,f.1⟩
 have ey:decide ((40:Int)<(y.length:Int))=false:=by simp;omega
 clear N b2;obtain⟨er,b3⟩:∃er,er=zuf t c s x y:=⟨_,rfl⟩;have A:=I b3;clear b3;obtain⟨P,Q,R,S⟩:=zdn (G.1 _ M.1).1;obtain⟨T,U,V,X,Y,Z,y6,y7,y8,y9,g,i,j,k,yl⟩:=zbZ (G.1 _ M.1).2;go_wp2_with fail;refine(zvh t c o l q m fa fc p w1 (zd9 t o q fa l m fc c p) (n.1 _ b.1).1 s x y xa ya xc yc v z (n.1 _ b.1).2.1 (n.1 _ b.1).2.2).mono ?_;rintro e w2 ⟨a1,k1,rfl,b4,a0⟩;have B:=I (ztS b.1 a0);have a3:=I (ztS M.1 a0);rw[←A.1];clear P Q R S T U V X Y Z y6 y7 y8 y9 g i j k yl;have V1:=I b4;clear b4 a0;obtain⟨P,Q,R,S⟩:=zdn (G.1 _ a3.1).1;obtain⟨T,U,V,X,Y,Z,y6,y7,y8,y9,g,i,j,k,yl⟩:=zbZ (G.1 _ a3.1).2;go_wp2_with fail;refine(zvg t c o l q m fa fc p w2 F.1 a6 (n.1 _ B.1).1 s x y xa ya xc yc v z (n.1 _ B.1).2.1 (n.1 _ B.1).2.2).mono ?_;rintro e w3 ⟨a2,k2,rfl,b5,C⟩;have D:=I (ztS B.1 C);have a4:=I (ztS a3.1 C);rw[←A.1];clear P Q R S T U V X Y Z y6 y7 y8 y9 g i j k yl;have b6:=I (V1.1.below C);have V2:=I b5;clear b5 C V1;obtain⟨P,Q,R,S⟩:=zdn (G.1 _ a4.1).1;obtain⟨T,U,V,X,Y,Z,y6,y7,y8,y9,g,i,j,k,yl⟩:=zbZ (G.1 _ a4.1).2;go_wp2_with fail;refine(zvp t c o l q m fa fc p w3 (zd9 t o q fa l m fc c p) (n.1 _ D.1).1 s x y xa ya xc yc v z (n.1 _ D.1).2.1 (n.1 _ D.1).2.2).mono ?_;rintro e w4 ⟨rfl,r⟩;have E:=I (ztS D.1 r);have a5:=I (ztS a4.1 r);rw[←A.1];clear P Q R S T U V X Y Z y6 y7 y8 y9 g i j k yl;have b7:=I (b6.1.below r);have b8:=I (V2.1.below r);clear r b6 V2;obtain⟨P,Q,R,S⟩:=zdn (G.1 _ a5.1).1;obtain⟨T,U,V,X,Y,Z,y6,y7,y8,y9,g,i,j,k,yl⟩:=zbZ (G.1 _ a5.1).2;go_wp2_with fail;refine(zvo t c o l q m fa fc p w4 F.1 a6 (n.1 _ E.1).1 s x y xa ya xc yc v z (n.1 _ E.1).2.1 (n.1 _ E.1).2.2).mono ?_;rintro e w5 ⟨rfl,u⟩;have c2:=I (ztS E.1 u);have c5:=I (ztS a5.1 u);rw[←A.1];clear P Q R S T U V X Y Z y6 y7 y8 y9 g i j k yl;have c3:=I (b7.1.below u);have c4:=I (b8.1.below u);clear u b7 b8;obtain⟨cr,b9⟩:∃cr,cr=zvK t c s x y:=⟨_,rfl⟩;rw[←b9];clear b9;go_wp2_with fail;refine(znO (zvA t c s x y) a1 k1 a2 k2 w5 c3.1 c4.1 c1).mono ?_;rintro e w6 ⟨rfl,c0⟩;have d:=I (ztS c2.1 c0);clear c0;go_wp2_with fail;refine(zfp _).mono ?_;rintro e wz ⟨rfl,a⟩;have f:=I (ztS d.1 a);clear a;go_wp2_with fail;go_ret;exact⟨rfl,f.1⟩
end Go.Proofs.YtllakjblamfjbaaGreat
