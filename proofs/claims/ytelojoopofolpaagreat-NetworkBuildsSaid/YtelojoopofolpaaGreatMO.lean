/- a part of the proof -/
import Derived.Test.YtelojoopofolpaaGreatM1
set_option linter.all false
set_option maxRecDepth 100000
set_option maxHeartbeats 3000000
namespace Go.Proofs.YtelojoopofolpaaGreat
open Go.ChangeShapes Go.WideShapes Go.ChangeAt Go.RowKit Go.Deep Go.Joins Go.Proofs.Tryz
def zCX:RT Sd where
 n:=7
 rep w cs x:=∃(da:Ae) (dc:Nat),cs= [.slice da x.duty.length dc,.int .i64 x.rep,.int .i64 x.rel,.string x.src,.string x.dst,.int .i64 x.cost,.int .i64 x.cred]/\x.duty.length<=140737488355328/\Al Ei w da x.duty
 len:=by rintro w cs x ⟨_,_,rfl,_⟩;rfl
 mono:=by
  rintro w w' cs x ⟨da,dc,h1,h2,h3⟩ hb;exact⟨da,dc,h1,h2,h3.below hb⟩
theorem zCi:fX 50 zCX:=by
 intro H m W a n x o p;obtain⟨q,b⟩:=zdx underlying50 o p;have c:n.length=7:=q.trans (by kernel_rfl);obtain⟨r,v0,s,t,u,d,v,e⟩:=zaS b 0 rfl rfl (by kernel_rfl) (fX.f zob a);obtain⟨w,v1,y,g,w1⟩:=zaS b 1 rfl rfl (by kernel_rfl) (fX.f (FF underlying3) a);obtain⟨z,v2,A,h,w2⟩:=zaS b 2 rfl rfl (by kernel_rfl) (fX.f (FF underlying3) a);obtain⟨B,v3,C,i,w3⟩:=zaS b 3 rfl rfl (by kernel_rfl) (fX.f (zbq underlying9) a);obtain⟨D,v4,E,j,w4⟩:=zaS b 4 rfl rfl (by kernel_rfl) (fX.f (zbq underlying9) a);obtain⟨F,v5,G,k,w5⟩:=zaS b 5 rfl rfl (by kernel_rfl) (fX.f (FF underlying3) a);obtain⟨K,v6,L,l,w6⟩:=zaS b 6 rfl rfl (by kernel_rfl) (fX.f (FF underlying3) a);cases d;cases g;cases h;cases i;cases j;cases k;cases l;obtain⟨M,r0,rfl,N⟩:=zO c;obtain⟨P,r1,rfl,Q⟩:=zO N;obtain⟨R,r2,rfl,S⟩:=zO Q;obtain⟨T,r3,rfl,U⟩:=zO S;obtain⟨V,r4,rfl,X⟩:=zO U;obtain⟨Y,r5,rfl,Z⟩:=zO X;obtain⟨c6,r6,rfl,k6⟩:=zO Z;obtain rfl:=List.length_eq_zero_iff.1 k6;have g0:some M=some _:=s;have g1:some P=some _:=y;have g2:some R=some _:=A;have g3:some T=some _:=C;have g4:some V=some _:=E;have g5:some Y=some _:=G;have g6:some c6=some _:=L;cases g0;cases g1;cases g2;cases g3;cases g4;cases g5;cases g6;exact⟨⟨r,w,z,B,D,F,K⟩,t,u,rfl,v,e⟩
theorem zB3:fX 39 (RT.sl zCX):=
 FC underlying39 (by kernel_rfl) (by decide) (Jr (by kernel_rfl)) zCi
theorem zzU.of{w:Wd}{a:Ae}{L:List Sd}(h:Al zCX w a L):zzU w a L:=by
 rcases h with h|⟨b,d,f,g,j⟩;exact .inl h;refine .inr ⟨b,d,f,g,λi hi=>?_⟩;obtain⟨v,c,k,l,rfl,m,n⟩:=j i hi;have e:Hx L i=L[i]:=by rw[Hx,Cr,Cz hi];rfl
 rw[e];replace c:dS w b (d+i*7) _:=c;have o:=c 0 (by simp);have p:=c 1 (by simp);have q:=c 2 (by simp);have r:=c 3 (by simp);have s:=c 4 (by simp);have t:=c 5 (by simp);have u:=c 6 (by simp);exact⟨k,l,by simpa using o,by simpa using p,by simpa using q,by simpa using r,by simpa using s,by simpa using t,by simpa using u,m,n⟩
theorem zCj{H:Type}{enc:TypeId×Value->H}{W:Wd}{r:Reach}{c:Nat}{v:Value}{d:DataW H}{p:List MemPlace}(f:Value.okWide prog W r c 39 v)(h:DataW.Trod enc prog W 0 (λ_=>true) true 39 v d p)(g:∀n∈DataW.weights prog 39 d,n<=reachBytes):
 ∃(l:List Sd) (a:Ae) (b:Nat),v=.slice a l.length b/\l.length<=2^47/\zzU W a l:=by
 obtain⟨i,j,k,rfl⟩:=okWide_slice underlying39 f;obtain⟨u,m⟩:=h;obtain⟨l,a,b,e,o,q,s⟩:=zB3 m g;have t: [Value.slice i j k]= [.slice a l.length b]:=e;cases t;exact⟨l,_,_,rfl,Bf o q,zzU.of s⟩
end Go.Proofs.YtelojoopofolpaaGreat
