/- a part of the proof -/
import Derived.Deep.RegionLaw
import Derived.Test.YtafdcbmgdfliiaaGreatK1
set_option linter.all false
set_option maxRecDepth 100000
set_option maxHeartbeats 3000000
namespace Go.Proofs.YtafdcbmgdfliiaaGreat
open Go.RowKit Go.Sort Go.Proofs.Tryz
theorem XU(m:Nat)(H:PF 312 m):PF 309 m:=by
 intro w s t n k Y hm;have B:=I (PM.start Y);go_enter func309,ntmps309;go_wp2_with fail;refine(H _ s t n k B.1.pa hm).mono ?_;intro e i h;obtain⟨x,a,Z,k1,rfl,C,a0,D⟩:=B.1.got h;have a1:w.heap.size<i.heap.size:=D.lt (List.mem_singleton_self _);have S2:=I (D.new (xv x a Z));go_wp2_with fail;go_loopg [] (n-k1) (λg wr=>∃(u:Nat) (y:zH) (d:Ae) (f:Nat),g=n-u/\k<=u/\Af (PM w s t n u [(i.heap.size,xv y d f),(w.heap.size,zv)] [xv y d f] wr));exact⟨k1,x,a,Z,rfl,C,S2⟩;obtain⟨u,y,d,f,rfl,a2,S⟩:=hrel;go_wp2_with fail;refine(Lr _ s t n _ S.1.pa _).mono ?_;intro e v0 h;obtain⟨b,rfl,E,l⟩:=S.1.took h;have l:=I l;cases b
 . go_wp2_with fail;refine(Lr _ s t n _ l.1.pa _).mono ?_;intro e v1 h;obtain⟨b,rfl,F,p⟩:=l.1.took h;have p:=I p;cases b
   . have⟨x0,x1,x2,x3⟩:=p.1.xc (b:=i.heap.size) (x:=y) (a:=d) (c:=f) (by simp);have⟨⟨c0,c1,c2,c3,z0,z1,z2,z3⟩,y0,y1,y2,y3,zl⟩:=p.1.zc (b:=w.heap.size) (v:=zv) (by simp) rfl;go_wp2_with fail;have⟨Q,R⟩:=p.1.end4 (b:=w.heap.size) (o:=zv) (x:=y) (a:=d) (c:=f) (by simp) rfl (by simp) (show k<=_ from by simp;omega);exact bP (Du rfl rfl Q) rfl R
   have q:=F rfl;have r:n-((u+false.toNat)+true.toNat)<m:=by simp at q ⊢;omega
   have j:=I p.1.drew;have⟨G,K,L,M⟩:=p.1.xc (b:=i.heap.size) (x:=y) (a:=d) (c:=f) (by simp);have⟨N,P,T,U⟩:=j.1.xc (b:=i.heap.size) (x:=y) (a:=d) (c:=f) (by simp);go_wp2_with fail;go_region_with (go_at_call 312;refine(H _ s t n _ j.1.pa r).mono ?_;intro e w9 h;obtain⟨z,za,zc,k9,rfl,hk9,hkn9,S9⟩:=j.1.got h;have⟨q00,q01,q02,q03⟩:=S9.xc (b:=i.heap.size) (x:=y) (a:=d) (c:=f) (by simp);have⟨⟨_,_,_,_,g0,g1,g2,g3⟩,y0,y1,y2,y3,yl⟩:=S9.zc (b:=i.heap.size) (v:=xv y d f) (by simp) rfl)
   all_goals
    have⟨v,V,W,A⟩:=S9.nodeSet rfl (by simp;omega) rfl [xv y d f,xv z za zc] (by simp) 11 rfl (by simp);have X:=I A;clear A S9 p j;go_wp2_with fail;go_roundg (n-k9)
    case measure=>simp at hk9;omega
    case rel=>exact⟨k9,v,V,W,rfl,by simp at hk9;omega,X⟩
 have q:=E rfl;have r:n-((u)+true.toNat)<m:=by simp at q ⊢;omega
 have j:=I l.1.drew;have⟨G,K,L,M⟩:=l.1.xc (b:=i.heap.size) (x:=y) (a:=d) (c:=f) (by simp);have⟨N,P,T,U⟩:=j.1.xc (b:=i.heap.size) (x:=y) (a:=d) (c:=f) (by simp);go_wp2_with fail;go_region_with (go_at_call 312;refine(H _ s t n _ j.1.pa r).mono ?_;intro e w9 h;obtain⟨z,za,zc,k9,rfl,hk9,hkn9,S9⟩:=j.1.got h;have⟨q00,q01,q02,q03⟩:=S9.xc (b:=i.heap.size) (x:=y) (a:=d) (c:=f) (by simp);have⟨⟨_,_,_,_,g0,g1,g2,g3⟩,y0,y1,y2,y3,yl⟩:=S9.zc (b:=i.heap.size) (v:=xv y d f) (by simp) rfl)
 all_goals
  have⟨v,V,W,A⟩:=S9.nodeSet rfl (by simp;omega) rfl [xv y d f,xv z za zc] (by simp) 10 rfl (by simp);have X:=I A;clear A S9 l j;go_wp2_with fail;go_roundg (n-k9)
  case measure=>simp at hk9;omega
  case rel=>exact⟨k9,v,V,W,rfl,by simp at hk9;omega,X⟩
theorem ZM(m:Nat)(H:PF 309 m):PF 302 m:=by
 intro w s t n k Y hm;have B:=I (PM.start Y);go_enter func302,ntmps302;go_wp2_with fail;refine(H _ s t n k B.1.pa hm).mono ?_;intro e i h;obtain⟨x,a,Z,k1,rfl,C,a0,D⟩:=B.1.got h;have a1:w.heap.size<i.heap.size:=D.lt (List.mem_singleton_self _);have S2:=I (D.new (xv x a Z));go_wp2_with fail;go_loopg [] (n-k1) (λg wr=>∃(u:Nat) (y:zH) (d:Ae) (f:Nat),g=n-u/\k<=u/\Af (PM w s t n u [(i.heap.size,xv y d f),(w.heap.size,zv)] [xv y d f] wr));exact⟨k1,x,a,Z,rfl,C,S2⟩;obtain⟨u,y,d,f,rfl,a2,S⟩:=hrel;go_wp2_with fail;refine(Lr _ s t n _ S.1.pa _).mono ?_;intro e v0 h;obtain⟨b,rfl,E,l⟩:=S.1.took h;have l:=I l;cases b
 . go_wp2_with fail;refine(Lr _ s t n _ l.1.pa _).mono ?_;intro e v1 h;obtain⟨b,rfl,F,p⟩:=l.1.took h;have p:=I p;cases b
   . have⟨x0,x1,x2,x3⟩:=p.1.xc (b:=i.heap.size) (x:=y) (a:=d) (c:=f) (by simp);have⟨⟨c0,c1,c2,c3,z0,z1,z2,z3⟩,y0,y1,y2,y3,zl⟩:=p.1.zc (b:=w.heap.size) (v:=zv) (by simp) rfl;go_wp2_with fail;have⟨Q,R⟩:=p.1.end4 (b:=w.heap.size) (o:=zv) (x:=y) (a:=d) (c:=f) (by simp) rfl (by simp) (show k<=_ from by simp;omega);exact bP (Du rfl rfl Q) rfl R
   have q:=F rfl;have r:n-((u+false.toNat)+true.toNat)<m:=by simp at q ⊢;omega
   have j:=I p.1.drew;have⟨G,K,L,M⟩:=p.1.xc (b:=i.heap.size) (x:=y) (a:=d) (c:=f) (by simp);have⟨N,P,T,U⟩:=j.1.xc (b:=i.heap.size) (x:=y) (a:=d) (c:=f) (by simp);go_wp2_with fail;go_region_with (go_at_call 309;refine(H _ s t n _ j.1.pa r).mono ?_;intro e w9 h;obtain⟨z,za,zc,k9,rfl,hk9,hkn9,S9⟩:=j.1.got h;have⟨q00,q01,q02,q03⟩:=S9.xc (b:=i.heap.size) (x:=y) (a:=d) (c:=f) (by simp);have⟨⟨_,_,_,_,g0,g1,g2,g3⟩,y0,y1,y2,y3,yl⟩:=S9.zc (b:=i.heap.size) (v:=xv y d f) (by simp) rfl)
   all_goals
    have⟨v,V,W,A⟩:=S9.nodeSet rfl (by simp;omega) rfl [xv y d f,xv z za zc] (by simp) 9 rfl (by simp);have X:=I A;clear A S9 p j;go_wp2_with fail;go_roundg (n-k9)
    case measure=>simp at hk9;omega
    case rel=>exact⟨k9,v,V,W,rfl,by simp at hk9;omega,X⟩
 have q:=E rfl;have r:n-((u)+true.toNat)<m:=by simp at q ⊢;omega
 have j:=I l.1.drew;have⟨G,K,L,M⟩:=l.1.xc (b:=i.heap.size) (x:=y) (a:=d) (c:=f) (by simp);have⟨N,P,T,U⟩:=j.1.xc (b:=i.heap.size) (x:=y) (a:=d) (c:=f) (by simp);go_wp2_with fail;go_region_with (go_at_call 309;refine(H _ s t n _ j.1.pa r).mono ?_;intro e w9 h;obtain⟨z,za,zc,k9,rfl,hk9,hkn9,S9⟩:=j.1.got h;have⟨q00,q01,q02,q03⟩:=S9.xc (b:=i.heap.size) (x:=y) (a:=d) (c:=f) (by simp);have⟨⟨_,_,_,_,g0,g1,g2,g3⟩,y0,y1,y2,y3,yl⟩:=S9.zc (b:=i.heap.size) (v:=xv y d f) (by simp) rfl)
 all_goals
  have⟨v,V,W,A⟩:=S9.nodeSet rfl (by simp;omega) rfl [xv y d f,xv z za zc] (by simp) 8 rfl (by simp);have X:=I A;clear A S9 l j;go_wp2_with fail;go_roundg (n-k9)
  case measure=>simp at hk9;omega
  case rel=>exact⟨k9,v,V,W,rfl,by simp at hk9;omega,X⟩
theorem XA(m:Nat)(H:PF 302 m):PF 299 m:=by
 intro w j l n k hp hm;have V:=I (PM.start hp);go_enter func299,ntmps299;go_wp2_with fail;refine(H _ j l n k V.1.pa hm).mono ?_;intro e g h;obtain⟨x,a,d,M,rfl,a3,a4,W⟩:=V.1.got h;have a5:w.heap.size<g.heap.size:=W.lt (List.mem_singleton_self _);have X:=I (W.new (xv x a d));go_wp2_with fail;refine(Lr _ j l n _ X.1.pa _).mono ?_;intro e v0 h;obtain⟨b,rfl,a6,q⟩:=X.1.took h;have q:=I q;cases b
 . go_wp2_with fail;refine(Lr _ j l n _ q.1.pa _).mono ?_;intro e v1 h;obtain⟨b,rfl,a7,r⟩:=q.1.took h;have r:=I r;cases b
   . go_wp2_with fail;refine(Lr _ j l n _ r.1.pa _).mono ?_;intro e v2 h;obtain⟨b,rfl,a8,s⟩:=r.1.took h;have s:=I s;cases b
     . go_wp2_with fail;refine(Lr _ j l n _ s.1.pa _).mono ?_;intro e v3 h;obtain⟨b,rfl,a9,p⟩:=s.1.took h;have p:=I p;cases b
       . have⟨x0,x1,x2,x3⟩:=p.1.xc (b:=g.heap.size) (x:=x) (a:=a) (c:=d) (by simp);have⟨⟨c0,c1,c2,c3,z0,z1,z2,z3⟩,N,P,S,T,zl⟩:=p.1.zc (b:=w.heap.size) (v:=zv) (by simp) rfl;go_wp2_with fail;have⟨Q,R⟩:=p.1.end4 (b:=w.heap.size) (o:=zv) (x:=x) (a:=a) (c:=d) (by simp) rfl (by simp) (show k<=_ from by simp;omega);exact bP (Du rfl rfl Q) rfl R
       have i:n-(M+false.toNat+false.toNat+false.toNat+true.toNat)<m:=by simp;omega
       go_wp2_with fail;refine(H _ j l n _ p.1.pa i).mono ?_;intro e U h;obtain⟨y,G,K,k5,rfl,Y,a1,Z⟩:=p.1.got h;have a2:g.heap.size<U.heap.size:=Z.lt (List.mem_cons_self);have S6:=I (Z.new (xv y G K));go_wp2_with fail;refine(Zx _ j l n _ S6.1.pa _).mono ?_;intro e w6 h;obtain⟨k6,rfl,b0,L⟩:=S6.1.want h;have L:=I L;go_wp2_with fail;have a0:n-k6<m:=by simp at Y;omega
       have f:=I L.1.drew;have⟨t,u,A,B⟩:=L.1.xc (b:=g.heap.size) (x:=x) (a:=a) (c:=d) (by simp);have⟨C,D,E,F⟩:=f.1.xc (b:=g.heap.size) (x:=x) (a:=a) (c:=d) (by simp);have⟨b1,b2,b3,b4⟩:=L.1.xc (b:=U.heap.size) (x:=y) (a:=G) (c:=K) (by simp);have⟨b5,b6,b7,b8⟩:=f.1.xc (b:=U.heap.size) (x:=y) (a:=G) (c:=K) (by simp);go_wp2_with fail;go_region_with (go_at_call 302;refine(H _ j l n _ f.1.pa a0).mono ?_;intro e w9 h;obtain⟨z,za,zc,k9,rfl,hk9,hkn9,S9⟩:=f.1.got h;have⟨q00,q01,q02,q03⟩:=S9.xc (b:=g.heap.size) (x:=x) (a:=a) (c:=d) (by simp);have⟨q10,q11,q12,q13⟩:=S9.xc (b:=U.heap.size) (x:=y) (a:=G) (c:=K) (by simp);have⟨⟨_,_,_,_,g0,g1,g2,g3⟩,N,P,S,T,yl⟩:=S9.zc (b:=w.heap.size) (v:=zv) (by simp) rfl)
       all_goals
        go_wp2_with fail;have⟨Q,R⟩:=S9.nodeEnd (b:=w.heap.size) (o:=zv) (k0:=k) (by simp) rfl [xv x a d,xv y G K,xv z za zc] (by simp) 15 rfl (by simp) (by simp at*;omega);exact bP (Du rfl rfl Q) rfl R
     have i:n-(M+false.toNat+false.toNat+true.toNat)<m:=by simp;omega
     have f:=I s.1.drew;have⟨t,u,A,B⟩:=s.1.xc (b:=g.heap.size) (x:=x) (a:=a) (c:=d) (by simp);have⟨C,D,E,F⟩:=f.1.xc (b:=g.heap.size) (x:=x) (a:=a) (c:=d) (by simp);go_wp2_with fail;go_region_with (go_at_call 302;refine(H _ j l n _ f.1.pa i).mono ?_;intro e w9 h;obtain⟨z,za,zc,k9,rfl,hk9,hkn9,S9⟩:=f.1.got h;have⟨q00,q01,q02,q03⟩:=S9.xc (b:=g.heap.size) (x:=x) (a:=a) (c:=d) (by simp);have⟨⟨_,_,_,_,g0,g1,g2,g3⟩,N,P,S,T,yl⟩:=S9.zc (b:=w.heap.size) (v:=zv) (by simp) rfl)
     all_goals
      go_wp2_with fail;have⟨Q,R⟩:=S9.nodeEnd (b:=w.heap.size) (o:=zv) (k0:=k) (by simp) rfl [xv x a d,xv z za zc] (by simp) 18 rfl (by simp) (by simp at*;omega);exact bP (Du rfl rfl Q) rfl R
   have i:n-(M+false.toNat+true.toNat)<m:=by simp;omega
   have f:=I r.1.drew;have⟨t,u,A,B⟩:=r.1.xc (b:=g.heap.size) (x:=x) (a:=a) (c:=d) (by simp);have⟨C,D,E,F⟩:=f.1.xc (b:=g.heap.size) (x:=x) (a:=a) (c:=d) (by simp);go_wp2_with fail;go_region_with (go_at_call 302;refine(H _ j l n _ f.1.pa i).mono ?_;intro e w9 h;obtain⟨z,za,zc,k9,rfl,hk9,hkn9,S9⟩:=f.1.got h;have⟨q00,q01,q02,q03⟩:=S9.xc (b:=g.heap.size) (x:=x) (a:=a) (c:=d) (by simp);have⟨⟨_,_,_,_,g0,g1,g2,g3⟩,N,P,S,T,yl⟩:=S9.zc (b:=w.heap.size) (v:=zv) (by simp) rfl)
   all_goals
    go_wp2_with fail;have⟨Q,R⟩:=S9.nodeEnd (b:=w.heap.size) (o:=zv) (k0:=k) (by simp) rfl [xv x a d,xv z za zc] (by simp) 17 rfl (by simp) (by simp at*;omega);exact bP (Du rfl rfl Q) rfl R
 have i:n-(M+true.toNat)<m:=by simp;omega
 have f:=I q.1.drew;have⟨t,u,A,B⟩:=q.1.xc (b:=g.heap.size) (x:=x) (a:=a) (c:=d) (by simp);have⟨C,D,E,F⟩:=f.1.xc (b:=g.heap.size) (x:=x) (a:=a) (c:=d) (by simp);go_wp2_with fail;go_region_with (go_at_call 302;refine(H _ j l n _ f.1.pa i).mono ?_;intro e w9 h;obtain⟨z,za,zc,k9,rfl,hk9,hkn9,S9⟩:=f.1.got h;have⟨q00,q01,q02,q03⟩:=S9.xc (b:=g.heap.size) (x:=x) (a:=a) (c:=d) (by simp);have⟨⟨_,_,_,_,g0,g1,g2,g3⟩,N,P,S,T,yl⟩:=S9.zc (b:=w.heap.size) (v:=zv) (by simp) rfl)
 all_goals
  go_wp2_with fail;have⟨Q,R⟩:=S9.nodeEnd (b:=w.heap.size) (o:=zv) (k0:=k) (by simp) rfl [xv x a d,xv z za zc] (by simp) 16 rfl (by simp) (by simp at*;omega);exact bP (Du rfl rfl Q) rfl R
theorem YS(m:Nat)(t:PF 296 m)(u:PF 299 (m+1)):PF 296 (m+1):=by
 intro w l p n k s U;have q:=I (PM.start s);go_enter func296,ntmps296;go_wp2_with fail;refine(Lr _ l p n _ q.1.pa _).mono ?_;intro e V h;obtain⟨b,rfl,y,d⟩:=q.1.took h;have d:=I d;cases b
 . have f:n-(k+false.toNat)<m+1:=by simp;omega
   go_wp2_with fail;refine(u _ l p n _ d.1.pa f).mono ?_;intro e z h;obtain⟨x,a,r,A,rfl,g,j,i⟩:=d.1.got h;have i:=I i;have⟨⟨B,C,D,E,F,G,H,K⟩,L,M,N,P,S⟩:=i.1.zc (b:=w.heap.size) (v:=zv) (by simp) rfl;go_wp2_with fail;have⟨Q,R⟩:=i.1.end4 (b:=w.heap.size) (o:=zv) (x:=x) (a:=a) (c:=r) (by simp) rfl (by simp) (show k<=_ from by simp at g;omega);exact bP (Du rfl rfl Q) rfl R
 have T:=y rfl;have f:n-(k+true.toNat)<m:=by simp;omega
 go_wp2_with fail;refine(t _ l p n _ d.1.pa f).mono ?_;intro e z h;obtain⟨x,a,r,A,rfl,g,j,i⟩:=d.1.got h;have⟨⟨B,C,D,E,F,G,H,K⟩,L,M,N,P,S⟩:=i.zc (b:=w.heap.size) (v:=zv) (by simp) rfl;go_wp2_with fail;have⟨Q,R⟩:=i.nodeEnd (b:=w.heap.size) (o:=zv) (k0:=k) (by simp) rfl [xv x a r] (by simp) 19 rfl (by simp) (by simp at g;omega);exact bP (Du rfl rfl Q) rfl R
theorem XX(m:Nat)(H:PF 296 m):PF 285 m:=by
 intro w p q n k D K;have s:=I (PM.start D);go_enter func285,ntmps285;go_wp2_with fail;refine(H _ p q n k s.1.pa K).mono ?_;intro e j h;obtain⟨x,a,E,F,rfl,t,L,u⟩:=s.1.got h;have M:w.heap.size<j.heap.size:=u.lt (List.mem_singleton_self _);have N:=I (u.new (xv x a E));go_wp2_with fail;go_loopg [] (n-F) (λg wr=>∃(l:Nat) (y:zH) (d:Ae) (f:Nat),g=n-l/\k<=l/\Af (PM w p q n l [(j.heap.size,xv y d f),(w.heap.size,zv)] [xv y d f] wr));exact⟨F,x,a,E,rfl,t,N⟩;obtain⟨l,y,d,f,rfl,P,S⟩:=hrel;go_wp2_with fail;refine(Lr _ p q n _ S.1.pa _).mono ?_;intro e v0 h;obtain⟨b,rfl,A,i⟩:=S.1.took h;have i:=I i;cases b
 . have⟨x0,x1,x2,x3⟩:=i.1.xc (b:=j.heap.size) (x:=y) (a:=d) (c:=f) (by simp);have⟨⟨c0,c1,c2,c3,z0,z1,z2,z3⟩,T,U,V,W,zl⟩:=i.1.zc (b:=w.heap.size) (v:=zv) (by simp) rfl;go_wp2_with fail;have⟨Q,R⟩:=i.1.end4 (b:=w.heap.size) (o:=zv) (x:=y) (a:=d) (c:=f) (by simp) rfl (by simp) (show k<=_ from by simp;omega);exact bP (Du rfl rfl Q) rfl R
 have B:=A rfl;have C:n-((l)+true.toNat)<m:=by simp at B ⊢;omega
 have r:=I i.1.drew;have⟨X,Y,Z,a0⟩:=i.1.xc (b:=j.heap.size) (x:=y) (a:=d) (c:=f) (by simp);have⟨a1,a2,a3,a4⟩:=r.1.xc (b:=j.heap.size) (x:=y) (a:=d) (c:=f) (by simp);go_wp2_with fail;go_region_with (go_at_call 296;refine(H _ p q n _ r.1.pa C).mono ?_;intro e w9 h;obtain⟨z,za,zc,k9,rfl,hk9,hkn9,S9⟩:=r.1.got h;have⟨q00,q01,q02,q03⟩:=S9.xc (b:=j.heap.size) (x:=y) (a:=d) (c:=f) (by simp);have⟨⟨_,_,_,_,g0,g1,g2,g3⟩,T,U,V,W,yl⟩:=S9.zc (b:=j.heap.size) (v:=xv y d f) (by simp) rfl)
 all_goals
  have⟨v,va,vc,G⟩:=S9.nodeSet rfl (by simp;omega) rfl [xv y d f,xv z za zc] (by simp) 20 rfl (by simp);have S6:=I G;clear G S9 i r;go_wp2_with fail;go_roundg (n-k9)
  case measure=>simp at hk9;omega
  case rel=>exact⟨k9,v,va,vc,rfl,by simp at hk9;omega,S6⟩
theorem XW(m:Nat)(H:PF 285 m):PF 273 m:=by
 intro w p q n k D K;have s:=I (PM.start D);go_enter func273,ntmps273;go_wp2_with fail;refine(H _ p q n k s.1.pa K).mono ?_;intro e j h;obtain⟨x,a,E,F,rfl,t,L,u⟩:=s.1.got h;have M:w.heap.size<j.heap.size:=u.lt (List.mem_singleton_self _);have N:=I (u.new (xv x a E));go_wp2_with fail;go_loopg [] (n-F) (λg wr=>∃(l:Nat) (y:zH) (d:Ae) (f:Nat),g=n-l/\k<=l/\Af (PM w p q n l [(j.heap.size,xv y d f),(w.heap.size,zv)] [xv y d f] wr));exact⟨F,x,a,E,rfl,t,N⟩;obtain⟨l,y,d,f,rfl,P,S⟩:=hrel;go_wp2_with fail;refine(Lr _ p q n _ S.1.pa _).mono ?_;intro e v0 h;obtain⟨b,rfl,A,i⟩:=S.1.took h;have i:=I i;cases b
 . have⟨x0,x1,x2,x3⟩:=i.1.xc (b:=j.heap.size) (x:=y) (a:=d) (c:=f) (by simp);have⟨⟨c0,c1,c2,c3,z0,z1,z2,z3⟩,T,U,V,W,zl⟩:=i.1.zc (b:=w.heap.size) (v:=zv) (by simp) rfl;go_wp2_with fail;have⟨Q,R⟩:=i.1.end4 (b:=w.heap.size) (o:=zv) (x:=y) (a:=d) (c:=f) (by simp) rfl (by simp) (show k<=_ from by simp;omega);exact bP (Du rfl rfl Q) rfl R
 have B:=A rfl;have C:n-((l)+true.toNat)<m:=by simp at B ⊢;omega
 have r:=I i.1.drew;have⟨X,Y,Z,a0⟩:=i.1.xc (b:=j.heap.size) (x:=y) (a:=d) (c:=f) (by simp);have⟨a1,a2,a3,a4⟩:=r.1.xc (b:=j.heap.size) (x:=y) (a:=d) (c:=f) (by simp);go_wp2_with fail;go_region_with (go_at_call 285;refine(H _ p q n _ r.1.pa C).mono ?_;intro e w9 h;obtain⟨z,za,zc,k9,rfl,hk9,hkn9,S9⟩:=r.1.got h;have⟨q00,q01,q02,q03⟩:=S9.xc (b:=j.heap.size) (x:=y) (a:=d) (c:=f) (by simp);have⟨⟨_,_,_,_,g0,g1,g2,g3⟩,T,U,V,W,yl⟩:=S9.zc (b:=j.heap.size) (v:=xv y d f) (by simp) rfl)
 all_goals
  have⟨v,va,vc,G⟩:=S9.nodeSet rfl (by simp;omega) rfl [xv y d f,xv z za zc] (by simp) 21 rfl (by simp);have S6:=I G;clear G S9 i r;go_wp2_with fail;go_roundg (n-k9)
  case measure=>simp at hk9;omega
  case rel=>exact⟨k9,v,va,vc,rfl,by simp at hk9;omega,S6⟩
theorem WZ(m:Nat)(u:PF 246 m)(y:PF 273 (m+1)):PF 246 (m+1):=by
 intro w i j n k t A;have l:=I (PM.start t);go_enter func246,ntmps246;go_wp2_with fail;refine(y _ i j n k l.1.pa A).mono ?_;intro e g h;obtain⟨x,a,d,B,rfl,C,D,p⟩:=l.1.got h;have E:w.heap.size<g.heap.size:=p.lt (List.mem_singleton_self _);have q:=I (p.new (xv x a d));go_wp2_with fail;refine(Lr _ i j n _ q.1.pa _).mono ?_;intro e Y h;obtain⟨b,rfl,F,f⟩:=q.1.took h;have f:=I f;cases b
 . have⟨Z,x1,x2,x3⟩:=f.1.xc (b:=g.heap.size) (x:=x) (a:=a) (c:=d) (by simp);have⟨⟨c0,c1,c2,c3,z0,z1,z2,z3⟩,G,H,K,L,zl⟩:=f.1.zc (b:=w.heap.size) (v:=zv) (by simp) rfl;go_wp2_with fail;have⟨Q,R⟩:=f.1.end4 (b:=w.heap.size) (o:=zv) (x:=x) (a:=a) (c:=d) (by simp) rfl (by simp) (show k<=_ from by simp;omega);exact bP (Du rfl rfl Q) rfl R
 have M:=F rfl;have r:n-(B+true.toNat)<m:=by simp;omega
 have s:=I f.1.drew;have⟨N,P,S,T⟩:=f.1.xc (b:=g.heap.size) (x:=x) (a:=a) (c:=d) (by simp);have⟨U,V,W,X⟩:=s.1.xc (b:=g.heap.size) (x:=x) (a:=a) (c:=d) (by simp);go_wp2_with fail;go_region_with (go_at_call 246;refine(u _ i j n _ s.1.pa r).mono ?_;intro e w9 h;obtain⟨z,za,zc,k9,rfl,hk9,hkn9,S9⟩:=s.1.got h;have⟨q00,q01,q02,q03⟩:=S9.xc (b:=g.heap.size) (x:=x) (a:=a) (c:=d) (by simp);have⟨⟨_,_,_,_,g0,g1,g2,g3⟩,G,H,K,L,yl⟩:=S9.zc (b:=w.heap.size) (v:=zv) (by simp) rfl)
 all_goals
  go_wp2_with fail;have⟨Q,R⟩:=S9.nodeEnd (b:=w.heap.size) (o:=zv) (k0:=k) (by simp) rfl [xv x a d,xv z za zc] (by simp) 22 rfl (by simp) (by simp at*;omega);exact bP (Du rfl rfl Q) rfl R
def zy7(w:Wd)(o:Obj):(w.alloc o).drew.heap[w.heap.size]?=some o:=zh w o
section
variable {w0 w w':Wd} {pb n k:Nat} {lv:Value} {V:List (Nat×LV)} {E:List (LV)} (S:PM w0 pb lv n k V E w)
include S
theorem PM.tk{e:Ending}(h:TkR w pb lv n k e w'):(e=.returned (.bool false)/\PM w0 pb lv n k V E w')\/(e=.returned (.bool true)/\k<n/\PM w0 pb lv n (k+1) V E w'):=by
 have⟨b,a,d,c⟩:=S.took h;cases b<;>simp_all
theorem PM.below(h:Bw w w'):PM w0 pb lv n k V E w':=S.turn (Sj h) S.kn (by have⟨a,q⟩:=S.box;grind[Ac])
theorem PM.leaf(x:zH)(a:x.args= [])(d:Ia x):PM w0 pb lv n k V (xv x none 0::E) w:=by
 refine{S with ex:=λc b=>?_};rcases List.mem_cons.1 b with rfl|b;exact⟨x,none,0,by grind[xv],d,0,0,λh=>(h a).elim,by rw[a];exact .nil 0 0⟩;exact S.ex c b
def PM.flunk{e:Ending}(h:lU w pb lv k e w'):e=.returned (.agg #[Bn 0,Bn 0,B_ ⟨#[]⟩,Ls])/\PM w0 pb lv n k V (xv (.mk 0 0 ⟨#[]⟩ []) none 0::E) w':=by
 obtain⟨a,b,c⟩:=h;exact⟨a,(S.turn c S.kn b).leaf _ rfl ⟨Bg _,Bg _,rfl,rfl⟩⟩
def PM.inc(b:k<n):∃a:Int,w.cell? (aD pb 1)=some (Bn k)/\w.frozen? (aD pb 1)=false/\pb<w.heap.size/\PM w0 pb lv n (k+1) V E (w.setCell (aD pb 1) (Bn ((k:Int)+1))):=by
 have⟨a,q⟩:=S.box;exact⟨a,EE 1 q rfl,zQ q,Ag q,S.turn (Lib.grownBy_setCell _ _ _ _) b ⟨a,zg (i:=1) q⟩⟩
end
def PX(m:Nat):Prop:=∀(w:Wd) (pb:Nat) (lv:Value) (n k:Nat),PA w pb lv n k->k<n->n-k<m->Calls prog 313 #[.pointer (some (aD pb 0))] w (Va w pb lv n k)
theorem YD(m:Nat)(HF:PF 312 m)(HE:PF 246 m)(HX:PX (m+1)):PF 312 (m+1):=by
 intro w f lv n k hp hm;have S0:=I (PM.start hp);obtain⟨b0,⟨hn,ta,tc,rfl,b1,b2,ht⟩,H,hq⟩:=hp;have HT:=I ht;have p0:=zw hq;have p1:=zu hq;have p2:=zC hq;have pl:=Ag hq;clear hq ht;by_cases a4:H<0/\k<n
 . obtain⟨j,l⟩:=a4;have a2:decide (0<=H)=false:=by simpa using j
   have a3:decide (n<=k)=false:=by simpa using l
   have b3:(k:Int)<n:=by omega
   go_enter func312,ntmps312;go_wp2;go_quiet (fail);have K:=I (S0.1.below (dN (An _ _) nq));clear S0 p0 p1 p2;go_wp2_with fail;refine(Lr _ f _ n _ K.1.pa _).mono ?_;intro e v1 h;rcases K.1.tk h with⟨rfl,Y⟩|⟨rfl,L,Y⟩
   all_goals have Y:=I Y
   rotate_left
   . go_wp2_with fail;refine(HF _ f _ n _ Y.1.pa (by omega)).mono ?_;intro e g h;obtain⟨x,a,c,k5,rfl,M,N,d⟩:=Y.1.got h;have⟨⟨i,p,q,r,s,t,P,S⟩,B,C,D,E,T⟩:=d.zc (b:=w.heap.size) (v:=zv) (by simp) rfl;go_wp2_with fail;have⟨Q,R⟩:=d.nodeEnd (b:=w.heap.size) (o:=zv) (k0:=k) (by simp) rfl [xv x a c] (by simp) 7 rfl (by simp) (by omega);exact bP (Du rfl rfl Q) rfl R
   go_wp2_with fail;clear K;refine(Lr _ f _ n _ Y.1.pa _).mono ?_;intro e v2 h;rcases Y.1.tk h with⟨rfl,T2⟩|⟨rfl,L,T2⟩
   all_goals have T2:=I T2
   rotate_left
   . have d:=T2.1.leaf (.mk 4 0 ⟨#[]⟩ []) rfl ⟨Bg _,Bg _,rfl,rfl⟩;have⟨⟨i,p,q,r,s,t,P,S⟩,B,C,D,E,T⟩:=d.zc (b:=w.heap.size) (v:=zv) (by simp) rfl;go_wp2_with fail;have⟨Q,R⟩:=d.end4 (b:=w.heap.size) (o:=zv) (x:=(.mk 4 0 ⟨#[]⟩ [])) (a:=none) (c:=0) (by simp) rfl (by simp) (show k<=_ from by omega);exact bP (Du rfl rfl Q) rfl R
   go_wp2_with fail;clear Y;refine(Lr _ f _ n _ T2.1.pa _).mono ?_;intro e v3 h;rcases T2.1.tk h with⟨rfl,T3⟩|⟨rfl,L,T3⟩
   all_goals have T3:=I T3
   rotate_left
   . have d:=T3.1.leaf (.mk 5 0 ⟨#[]⟩ []) rfl ⟨Bg _,Bg _,rfl,rfl⟩;have⟨⟨i,p,q,r,s,t,P,S⟩,B,C,D,E,T⟩:=d.zc (b:=w.heap.size) (v:=zv) (by simp) rfl;go_wp2_with fail;have⟨Q,R⟩:=d.end4 (b:=w.heap.size) (o:=zv) (x:=(.mk 5 0 ⟨#[]⟩ [])) (a:=none) (c:=0) (by simp) rfl (by simp) (show k<=_ from by omega);exact bP (Du rfl rfl Q) rfl R
   go_wp2_with fail;clear T2;refine(lI _ f _ n _ T3.1.pa _).mono ?_;intro e v4 h;obtain⟨b,rfl,hb,Z⟩:=h;have U:=I (T3.1.below Z);clear T3 Z;cases b;rotate_left
   . go_wp2_with fail;refine(HX _ f _ n _ U.1.pa (by omega) (by omega)).mono ?_;intro e g h;obtain⟨x,a,c,k5,rfl,M,N,d⟩:=U.1.got h;have⟨⟨i,p,q,r,s,t,P,S⟩,B,C,D,E,T⟩:=d.zc (b:=w.heap.size) (v:=zv) (by simp) rfl;go_wp2_with fail;have⟨Q,R⟩:=d.end4 (b:=w.heap.size) (o:=zv) (x:=x) (a:=a) (c:=c) (by simp) rfl (by simp) (show k<=_ from by omega);exact bP (Du rfl rfl Q) rfl R
   clear hb;go_wp2_with fail;refine(lI _ f _ n _ U.1.pa _).mono ?_;intro e v5 h;obtain⟨b,rfl,hb,Z⟩:=h;have U2:=I (U.1.below Z);clear U Z;cases b;rotate_left
   . go_wp2_with fail;refine(HX _ f _ n _ U2.1.pa (by omega) (by omega)).mono ?_;intro e g h;obtain⟨x,a,c,k5,rfl,M,N,d⟩:=U2.1.got h;have⟨⟨i,p,q,r,s,t,P,S⟩,B,C,D,E,T⟩:=d.zc (b:=w.heap.size) (v:=zv) (by simp) rfl;go_wp2_with fail;have⟨Q,R⟩:=d.end4 (b:=w.heap.size) (o:=zv) (x:=x) (a:=a) (c:=c) (by simp) rfl (by simp) (show k<=_ from by omega);exact bP (Du rfl rfl Q) rfl R
   clear hb;go_wp2_with fail;refine(Lr _ f _ n _ U2.1.pa _).mono ?_;intro e v6 h;rcases U2.1.tk h with⟨rfl,T6⟩|⟨rfl,L,T6⟩
   all_goals have T6:=I T6
   rotate_left
   . go_wp2_with fail;refine(HE _ f _ n _ T6.1.pa (by omega)).mono ?_;intro e g h;obtain⟨x,a,c,k5,rfl,M,N,d⟩:=T6.1.got h;have a5:w.heap.size<g.heap.size:=d.lt (v:=(w.heap.size,zv)) (by simp);have S6:=I (d.new (xv x a c));clear d;go_wp2_with fail;refine(Zx _ f _ n _ S6.1.pa _).mono ?_;intro e w6 h;obtain⟨k6,rfl,a6,u⟩:=S6.1.want h;have u:=I u;clear S6;go_wp2_with fail;refine(HE _ f _ n _ u.1.pa (by omega)).mono ?_;intro e w8 h;obtain⟨y,ya,yc,k8,rfl,b4,b5,F⟩:=u.1.got h;have b6:g.heap.size<w8.heap.size:=F.lt (v:=(g.heap.size,xv x a c)) (by simp);have a1:=I (F.new (xv y ya yc));clear F u;go_wp2_with fail;refine(Zx _ f _ n _ a1.1.pa _).mono ?_;intro e b7 h;obtain⟨b8,rfl,a8,A⟩:=a1.1.want h;have A:=I A;clear a1;go_wp2_with fail;have Sd:=I A.1.drew;have⟨b9,c4,c5,c6⟩:=A.1.xc (b:=g.heap.size) (x:=x) (a:=a) (c:=c) (by simp);have⟨c7,c8,c9,d0⟩:=Sd.1.xc (b:=g.heap.size) (x:=x) (a:=a) (c:=c) (by simp);have⟨d1,d2,d3,d4⟩:=A.1.xc (b:=w8.heap.size) (x:=y) (a:=ya) (c:=yc) (by simp);have⟨d5,d6,d7,d8⟩:=Sd.1.xc (b:=w8.heap.size) (x:=y) (a:=ya) (c:=yc) (by simp);go_wp2_with fail;go_region_with (go_at_call 246;refine(HE _ f _ n _ Sd.1.pa (by omega)).mono ?_;intro e w9 h;obtain⟨z,za,zc,k9,rfl,hk9,hkn9,G⟩:=Sd.1.got h;have⟨q00,q01,q02,q03⟩:=G.xc (b:=g.heap.size) (x:=x) (a:=a) (c:=c) (by simp);have⟨q10,q11,q12,q13⟩:=G.xc (b:=w8.heap.size) (x:=y) (a:=ya) (c:=yc) (by simp);have⟨⟨_,_,_,_,g0,g1,g2,g3⟩,B,C,D,E,yl⟩:=G.zc (b:=w.heap.size) (v:=zv) (by simp) rfl)
     all_goals
      go_wp2_with fail;have⟨Q,R⟩:=G.nodeEnd (b:=w.heap.size) (o:=zv) (k0:=k) (by simp) rfl [xv x a c,xv y ya yc,xv z za zc] (by simp) 14 rfl (by simp) (by omega);exact bP (Du rfl rfl Q) rfl R
   go_wp2_with fail;clear U2;refine(Lr _ f _ n _ T6.1.pa _).mono ?_;intro e v7 h;rcases T6.1.tk h with⟨rfl,V⟩|⟨rfl,L,V⟩
   all_goals have V:=I V
   rotate_left
   . go_wp2_with fail;refine(HE _ f _ n _ V.1.pa (by omega)).mono ?_;intro e g h;obtain⟨x,a,c,k5,rfl,M,N,d⟩:=V.1.got h;have a5:w.heap.size<g.heap.size:=d.lt (v:=(w.heap.size,zv)) (by simp);have S6:=I (d.new (xv x a c));clear d;go_wp2_with fail;refine(Zx _ f _ n _ S6.1.pa _).mono ?_;intro e w6 h;obtain⟨k6,rfl,a6,u⟩:=S6.1.want h;have u:=I u;clear S6;have⟨x0,x1,x2,x3⟩:=u.1.xc (b:=g.heap.size) (x:=x) (a:=a) (c:=c) (by simp);have⟨⟨i,p,q,r,s,t,P,S⟩,B,C,D,E,T⟩:=u.1.zc (b:=w.heap.size) (v:=zv) (by simp) rfl;go_wp2_with fail;have⟨Q,R⟩:=u.1.end4 (b:=w.heap.size) (o:=zv) (x:=x) (a:=a) (c:=c) (by simp) rfl (by simp) (show k<=_ from by omega);exact bP (Du rfl rfl Q) rfl R
   go_wp2_with fail;clear T6;have⟨_,d9,f0,e,_,_,ht⟩:=V.1.pa.2.1;cases e;obtain⟨b,a7,rfl,hX,hc⟩:=ht (by omega);have⟨kd,tx,nm,ps,i,p,q,r,hs,hw⟩:=hc k l;have⟨a9,q7⟩:=V.1.box;have s:=zw q7;have t:=zu q7;have f1:=Ag q7;have bl:=bK v7 _ i;have F:=I (V.1.below (J v7 (Obj.cells #[kd,B_ tx,nm,ps] 290)).drew);have QT:=I (zy7 v7 (Obj.cells #[kd,B_ tx,nm,ps] 290));clear hc ht q7 HT a2 a3;go_region;clear s t i p q r bl V;generalize (v7.alloc (Obj.cells #[kd,B_ tx,nm,ps] 290)).drew=W at*;have⟨t0,t1,t2,t3⟩:=Yl QT.1;have a0:∀(X:Wd) (o:Int) (G:PM w f (Kx b a7 n tc) n (k+1) [(w.heap.size,zv)] [] X),(Lit.int .i64 o).wf=true->_:=λX o G ho=>(G.leaf (.mk o nm tx []) rfl ⟨hs,Bg _,ho,hw⟩).end4 (b:=w.heap.size) (o:=zv) (k0:=k) (x:=.mk o nm tx []) (a:=none) (c:=0) (by simp) rfl (by simp) (by omega);go_upto_region 33 with(go_at_call 235;refine ca (sW _ _ hs) λv9 Z=>?_;replace F:=I (F.1.below Z);replace QT:=fO QT Z;clear t0 t1 t2 t3;have⟨t0,t1,t2,t3⟩:=Yl QT.1)
   all_goals
    have⟨bd,i1,i2,il,G⟩:=F.1.inc l;have⟨⟨i,p,q,r,s,t,P,S⟩,B,C,D,E,T⟩:=F.1.zc (b:=w.heap.size) (v:=zv) (by simp) rfl;go_wp2_with fail;first
    |(with_reducible refine(fG _ f _ k F.1.box).mono ?_
      intro e w2 h;obtain⟨rfl,S2⟩:=F.1.flunk h;have⟨⟨i,p,q,r,s,t,P,S⟩,B,C,D,E,T⟩:=S2.zc (b:=w.heap.size) (v:=zv) (by simp) rfl;go_wp2_with fail;have⟨Q,R⟩:=S2.end4 (b:=w.heap.size) (o:=zv) (x:=(.mk 0 0 ⟨#[]⟩ [])) (a:=none) (c:=0) (by simp) rfl (by simp) (show k<=_ from by omega);exact bP (Du rfl rfl Q) rfl R)
    |(refine bP (Du rfl rfl (a0 _ _ G ?_).1) rfl (a0 _ _ G ?_).2 <;> rfl)
 by_cases j:0<=H
 . go_enter func312,ntmps312;go_wp2;go_quiet (fail);have K:=I (S0.1.below (dN (An _ _) nq));clear S0 p0 p1 p2;go_wp2_with fail;refine(fG _ f _ k K.1.box).mono ?_;intro e w2 h;obtain⟨rfl,S2⟩:=K.1.flunk h;have⟨⟨i,p,q,r,s,t,P,S⟩,B,C,D,E,T⟩:=S2.zc (b:=w.heap.size) (v:=zv) (by simp) rfl;go_wp2_with fail;have⟨Q,R⟩:=S2.end4 (b:=w.heap.size) (o:=zv) (x:=(.mk 0 0 ⟨#[]⟩ [])) (a:=none) (c:=0) (by simp) rfl (by simp) (show k<=_ from by omega);exact bP (Du rfl rfl Q) rfl R
 have a2:decide (0<=H)=false:=by simpa using j
 obtain rfl:k=n:=by omega
 have a3:decide (k<=k)=true:=by simp
 go_enter func312,ntmps312;go_wp2;go_quiet (fail);have K:=I (S0.1.below (dN (An _ _) nq));clear S0 p0 p1 p2;go_wp2_with fail;refine(fG _ f _ k K.1.box).mono ?_;intro e w2 h;obtain⟨rfl,S2⟩:=K.1.flunk h;have⟨⟨i,p,q,r,s,t,P,S⟩,B,C,D,E,T⟩:=S2.zc (b:=w.heap.size) (v:=zv) (by simp) rfl;go_wp2_with fail;have⟨Q,R⟩:=S2.end4 (b:=w.heap.size) (o:=zv) (x:=(.mk 0 0 ⟨#[]⟩ [])) (a:=none) (c:=0) (by simp) rfl (by simp) (show k<=_ from by omega);exact bP (Du rfl rfl Q) rfl R
structure XM(w0:Wd)(pb:Nat)(lv:Value)(n k xb:Nat)(o:Int)(sv:Value)(L:List (LV))(w:Wd):Prop where
 pm:PM w0 pb lv n k [(xb, [Bn o,Bn 0,.string ⟨#[]⟩,sv]),(w0.heap.size,zv)] [] w
 own:w.ownsRow w0.heap.size 71 4 sv L.length L.flatten
 far:∀g,sv.ownBlock=some g->g≠xb/\g≠w0.heap.size
 el:∀c∈L,Iu (λb=>w0.heap.size<=b/\b≠xb/\b≠w0.heap.size/\sv.ownBlock≠some b) w c
 ln:L.length<=k+2
 xr:xb≠w0.heap.size
section
variable {w0 w w':Wd} {pb n k xb:Nat} {lv sv:Value} {o:Int} {L:List (LV)} (S:XM w0 pb lv n k xb o sv L w)
include S
def XM.blk{g:Nat}(h:sv.ownBlock=some g):w0.heap.size<=g/\g<w.heap.size:=S.own.lt g h
theorem XM.turn{a:Nat}(h:w.grownBy w' (some pb))(f:a<=n)(i:k<=a)(d:∃bad:Int,w'.heap[pb]?=some (.cells #[lv,a,bad] 329 (0,0))):XM w0 pb lv n a xb o sv L w' where
 pm:=S.pm.turn h f d
 own:=S.own.kept h (by
  cases e:sv.ownBlock with
  |none=>exact .inl rfl
  |some g=>refine .inr λe2=>?_;have:=(S.blk e).1;have:=S.pm.pl;grind)
 far:=S.far
 el c hc:=(S.el c hc).step λb d hP=>⟨hP,h.block _ d (by have:=S.pm.pl;grind)⟩
 ln:=Bf S.ln (by omega)
 xr:=S.xr
theorem XM.below(h:Bw w w'):XM w0 pb lv n k xb o sv L w':=S.turn (Sj h) S.pm.kn (Bv _) (by have⟨a,q⟩:=S.pm.box;grind[Ac])
def XM.want{e:Ending}(h:mH w pb lv n k e w'):∃a,e=.returned (.tuple #[])/\k<=a/\XM w0 pb lv n a xb o sv L w':=by
 obtain⟨a,c,b,d,f,g⟩:=h;exact⟨a,c,b,S.turn g d b f⟩
def XM.call{e:Ending}(h:Va w pb lv n k e w'):∃(x:zH) (a:Ae) (d c:Nat),e=.returned (.agg #[x.op,x.num,B_ x.name,CU a x.args.length d])/\k<=c/\c<=n/\XM w0 pb lv n c xb o sv L w'/\
 Iu (λb=>w0.heap.size<=b/\b≠xb/\b≠w0.heap.size/\sv.ownBlock≠some b) w' (xv x a d):=by
 obtain⟨x,a,d,c,i,f,g,j,l,m⟩:=h;have p:xb<w.heap.size:=S.pm.lt (v:=(xb, [Bn o,Bn 0,B_ ⟨#[]⟩,sv])) (by simp);have q:w0.heap.size<w.heap.size:=S.pm.lt (v:=(w0.heap.size,zv)) (by simp);exact⟨x,a,d,c,i,f,g,S.turn m g f j,l.step λb _ hP=>⟨⟨by omega,by omega,by omega,λe=>by have:=(S.blk e).2;omega⟩,rfl⟩⟩
def XM.app{c:LV}{g cap H:Nat}(y:Iu (λb=>w0.heap.size<=b/\b≠xb/\b≠w0.heap.size/\sv.ownBlock≠some b) w c){ob:Obj}(F:w'.ownsRow w0.heap.size 71 4 (Kx g 0 (L.length+1) cap) (L.length+1) (L.flatten++c))(s:(w.alloc ob).grownBy w' sv.ownBlock) 
 (E:sv.ownBlock=some g\/g=H) (M:H=w.heap.size+1) (G:L.length+1<=k+2):
 XM w0 pb lv n k xb o (Kx g 0 (L.length+1) cap) (L++ [c]) (w'.setCell (aD xb 3) (Kx g 0 (L.length+1) cap)):=by
 have m:=S.pm.vs (xb, [Bn o,Bn 0,B_ ⟨#[]⟩,sv]) (by simp);have t:=S.pm.vs (w0.heap.size,zv) (by simp);have z:=Ag m.2;have A:=Ag t.2;have B:w0.heap.size<=xb:=m.1;have u:=S.pm.pl;have p:g≠xb/\g≠w0.heap.size/\w0.heap.size<=g:=by
  rcases E with e|e;exact⟨(S.far g e).1,(S.far g e).2,(S.blk e).1⟩;exact⟨by omega,by omega,by omega⟩
 have N:(w.alloc ob).heap.size=w.heap.size+1:=by simp
 have l:∀b,b<w.heap.size->sv.ownBlock≠some b->w'.heap[b]?=w.heap[b]?:=λb a hne=>(s.block b (by omega) (λe=>hne e.symm)).trans (heap_alloc_old w _ a);have f:∀b,b<w.heap.size->sv.ownBlock≠some b->b≠xb->(w'.setCell (aD xb 3) (Kx g 0 (L.length+1) cap)).heap[b]?=w.heap[b]?:=λb a hne y=>(Below.heap_setCell _ _ _ _ y).trans (l b a hne);have j:∀b,b<w0.heap.size\/b=xb\/b=w0.heap.size->sv.ownBlock≠some b:=λb a e=>by
  have P:=(S.blk e).1;have R:=S.far b e;rcases a with a|a|a <;> omega
 have K:w'.heap[xb]?=some (.cells #[o,Bn 0,B_ ⟨#[]⟩,sv] 71 (0,0)):=(l xb z (j _ (.inr (.inl rfl)))).trans m.2;refine{pm:=⟨u,S.pm.tok,?_,S.pm.kn,?_,λv C=>?_,λc hc=>by cases hc⟩,own:=?_,far:=λg' e=>?_,el:=λd r=>?_,ln:=by simpa using G,xr:=S.xr};refine⟨s.os.trans S.pm.gr.os,s.tape.trans S.pm.gr.tape,s.output.trans S.pm.gr.output,?_,λb a hne=>(f b (As a S.pm.gr.size) (j b (.inl a)) (by omega)).trans (S.pm.gr.block b a hne)⟩;have:=s.size;have:=S.pm.gr.size;simp[World.setCell];omega;have⟨D,q⟩:=S.pm.box;exact⟨D,(f pb (Ag q) (j _ (.inl u)) (by omega)).trans q⟩;rcases List.mem_cons.1 C with rfl|C;exact⟨B,zg (i:=3) K⟩;obtain rfl:=List.mem_singleton.1 C;exact⟨Bv _,(f _ A (j _ (.inr (.inr rfl))) (Ne.symm S.xr)).trans t.2⟩;have e:(L++ [c]).flatten=L.flatten++c:=by simp
 rw[Gh,e];exact F.kept (Lib.grownBy_setCell w' xb 3 _) (.inr λe=>p.1 (by simpa[Value.ownBlock] using e));obtain rfl:g=g':=by simpa[Value.ownBlock] using e
 exact⟨p.1,p.2.1⟩;have x:∀d,Iu (λb=>w0.heap.size<=b/\b≠xb/\b≠w0.heap.size/\sv.ownBlock≠some b) w d->_:=λd r=>r.step (Q:=λb=>w0.heap.size<=b/\b≠xb/\b≠w0.heap.size/\(Kx g 0 (L.length+1) cap).ownBlock≠some b) (w':=w'.setCell (aD xb 3) (Kx g 0 (L.length+1) cap)) λb a hP=>⟨⟨hP.1,hP.2.1,hP.2.2.1,λe=>by
  obtain rfl:g=b:=by simpa[Value.ownBlock] using e
  rcases E with h|h
  . exact hP.2.2.2 h
  omega⟩,f b a hP.2.2.2 hP.2.1⟩
 rcases List.mem_append.1 r with r|r;exact x d (S.el d r);obtain rfl:=List.mem_singleton.1 r;exact x _ y
def XM.op(o':Int):XM w0 pb lv n k xb o' sv L (w.setCell (aD xb 0) (Bn o')):=by
 have a:=S.pm.vs (xb, [Bn o,Bn 0,B_ ⟨#[]⟩,sv]) (by simp);have d:=Lib.grownBy_setCell w xb 0 (Bn o');refine{pm:=S.pm.set0 (V':= [(w0.heap.size,zv)]) (c:= [Bn o',Bn 0,B_ ⟨#[]⟩,sv]) rfl (by simpa using Ne.symm S.xr) d (zg (i:=0) a.2),own:=S.own.kept d ?_,far:=S.far,el:=λc hc=>(S.el c hc).step λb hb hP=>⟨hP,d.block _ hb (by have:=hP.2.1;simp;omega)⟩,ln:=S.ln,xr:=S.xr};cases e:sv.ownBlock with
 |none=>exact .inl rfl
 |some g=>exact .inr λe2=>(S.far g e).1 (by simpa using e2)
def XM.inc(b:k<n):∃a:Int,w.cell? (aD pb 1)=some (Bn k)/\w.frozen? (aD pb 1)=false/\pb<w.heap.size/\XM w0 pb lv n (k+1) xb o sv L (w.setCell (aD pb 1) (Bn ((k:Int)+1))):=by
 have⟨a,q⟩:=S.pm.box;exact⟨a,EE 1 q rfl,zQ q,Ag q,S.turn (Lib.grownBy_setCell _ _ _ _) b (by omega) ⟨a,zg (i:=1) q⟩⟩
def XM.tk{e:Ending}(h:TkR w pb lv n k e w'):(e=.returned (.bool false)/\XM w0 pb lv n k xb o sv L w')\/(e=.returned (.bool true)/\k<n/\XM w0 pb lv n (k+1) xb o sv L w'):=by
 obtain⟨b,a,c,d,f⟩:=h;cases b;exact .inl ⟨a,S.turn f S.pm.kn (Bv _) d⟩;exact .inr ⟨a,c rfl,S.turn f (c rfl) (Nat.le_succ _) d⟩
def XM.sx:w.cell? (aD xb 0)=some (Bn o)/\w.cell? (aD xb 3)=some sv/\w.frozen? (aD xb 0)=false/\w.frozen? (aD xb 3)=false/\xb<w.heap.size:=by
 have q:=(S.pm.vs (xb, [Bn o,Bn 0,B_ ⟨#[]⟩,sv]) (by simp)).2;exact⟨EE 0 q rfl,EE 3 q rfl,zQ q,zQ q,Ag q⟩
def XM.sx2{ob:Obj}(b:(w.alloc ob).grownBy w' sv.ownBlock):(∃c0,w'.cell? (aD xb 0)=some c0)/\w'.cell? (aD xb 3)=some sv/\w'.frozen? (aD xb 3)=false/\xb<w'.heap.size:=by
 have q:=(S.pm.vs (xb, [Bn o,Bn 0,B_ ⟨#[]⟩,sv]) (by simp)).2;have c:=Ag q;have a:=(b.block xb (by simp;omega) (λe=>(S.far xb e.symm).1 rfl)).trans ((heap_alloc_old w ob c).trans q);exact⟨⟨_,EE 0 a rfl⟩,EE 3 a rfl,zQ a,Ag a⟩
theorem XM.done(m:0<L.length)(p:(Lit.int .i64 o).wf=true)(z:n<=400):∃(x:zH) (a:Ae) (c:Nat),xv x a c= [Bn o,Bn 0,B_ ⟨#[]⟩,sv]/\PM w0 pb lv n k [(xb,xv x a c),(w0.heap.size,zv)] [xv x a c] w:=by
 have q:L.length<=2^47:=by have:=S.ln;have:=S.pm.kn;omega
 obtain⟨g,f,rfl,r,s⟩:=S.own.form m;have i:=S.far g rfl;have T:Iu (λb=>w0.heap.size<=b/\∀v∈ [(xb, [Bn o,Bn 0,B_ ⟨#[]⟩,Kx g 0 L.length f]),(w0.heap.size,zv)],v.1≠b) w [Bn o,Bn 0,B_ ⟨#[]⟩,Kx g 0 L.length f]:=by
  refine Iu.node ⟨r,λv h=>?_⟩ L (λc hc=>(S.el c hc).step λb _ hP=>⟨⟨hP.1,λv h=>?_⟩,rfl⟩) (λj u hu=>by have:=S.own.cells (g:=g) rfl j u hu;grind[Addr.add_lit]) o p f q;rcases List.mem_cons.1 h with rfl|h;exact Ne.symm i.1;obtain rfl:=List.mem_singleton.1 h;exact Ne.symm i.2;rcases List.mem_cons.1 h with rfl|h;exact Ne.symm hP.2.1;obtain rfl:=List.mem_singleton.1 h;exact Ne.symm hP.2.2.1
 obtain⟨x,a,c,e,t,y⟩:=T;have l:xv x a c= [Bn o,Bn 0,B_ ⟨#[]⟩,Kx g 0 L.length f]:=e.symm;refine⟨x,a,c,l,?_⟩;rw[l];refine{S.pm with ex:=λd hd=>?_};obtain rfl:=List.mem_singleton.1 hd;exact⟨x,a,c,e,t,y⟩
end
def Xw:(prog.info? 71).map (λi=>(i.zero,i.size,i.bytes))=some (some (.agg #[Bn 0,Bn 0,B_ ByteArray.empty,Ls]),4,56):=by kernel_rfl
theorem YU(m:Nat)(S:PF 246 m):PX (m+1):=by
 have⟨U,V,q,r,s⟩:=info_parts Xw;intro w d f n k W hk hm;have hn:=W.2.1.1;have S0:=(PM.start W).new [Bn 12,Bn 0,B_ ⟨#[]⟩,Ls];have Y:XM w d f n k (w.heap.size+1) 12 Ls [] _:=⟨by simpa using S0,World.ownsRow_nil _ _ _ _,(λg e=>by simp[Value.ownBlock]at e),(λc hc=>by cases hc),by simp,by omega⟩;have⟨l,t⟩:=aT (w.heap.size+1);rw[<-t]at Y;have Z:=I Y;clear Y S0;have b0:w.heap.size<l:=by omega
 go_enter func313,ntmps313;go_wp2_with fail;simp only[<-t];clear t W;refine(lI _ d f n _ Z.1.pm.pa _).mono ?_;rintro e w1 ⟨b,rfl,_,hB⟩;have z:=I (Z.1.below hB);clear Z hB;go_upto_if 6 with fail;go_cut [] (λwx=>∃o:Int,(Lit.int .i64 o).wf=true/\Af (XM w d f n k l o Ls [] wx))
 case first=>
  cases b
  . go_wp2;go_meet;exact⟨12,rfl,z⟩
  have⟨A,B,C,D,G⟩:=z.1.sx;have X3:=I (z.1.op 13);go_wp2;go_meet;exact⟨13,rfl,X3⟩
 obtain⟨o,K,z⟩:=hcut;have HW:=I K;have b1:d<l:=by have:=z.1.pm.pl;omega
 have⟨bd,i1,i2,il,S3⟩:=z.1.inc hk;clear K;go_wp2_with fail;refine(Zx _ d f n _ S3.pm.pa _).mono ?_;intro e w4 h;obtain⟨k4,rfl,b2,S4⟩:=S3.want h;have X4:=I (S4.below (An _ _).drew);clear h;clear S3 S4 i1 i2 il bd z;go_upto_region 6 with fail;go_cut [] (λwx=>∃(i:Nat) (H:Value) (L:List (LV)),k<=i/\n-i<m/\L.length=1/\Af (XM w d f n i l o H L wx))
 case first=>
  have⟨A,B,C,D,G⟩:=X4.1.sx;go_region_law (first|(refine step_append_lies _ rfl _ _ 31 rfl w.heap.size 71 U (.agg #[Bn 0,Bn 0,B_ ByteArray.empty,Ls]) 4 56 underlying31 V q r s rfl (by decide) _ _ _ rfl (S5.own.alloc _) (aD w5.heap.size 0) 1 1 (xv x5 a5 c5) rfl rfl (Hh w5 (xv x5 a5 c5) 71) (by intro u p;simp[xv]at p;rcases p with rfl|rfl|rfl|rfl <;> rfl) (by decide) (by have:=S5.ln;unfold maxLen;omega) (by have:=S5.ln;omega) (by have:=S5.pm.gr.size;simp;omega) _ rfl ?_;intro g6 e6 w6 ho6 hg6 ha6 hl6;have⟨⟨_,v0⟩,v3,u3,ul⟩:=S5.sx2 hg6)|(go_simp;go_at_call 246;refine(S _ d f n _ X4.1.pm.pa (by omega)).mono ?_;intro e w5 h;obtain⟨x5,a5,c5,k5,rfl,hk5,hn5,S5,T5⟩:=X4.1.call h;have⟨q0,q3,p0,p3,ql⟩:=S5.sx))
  all_goals
   have M:=I (S5.app T5 ho6 hg6 ha6 (by simp) (by simp));clear S5 T5 ho6 hg6 v0 v3 u3 ul A B C D G;go_wp2;go_meet
   case rel=>exact⟨k5,_,_,by omega,by omega,by rfl,M⟩
 obtain⟨k6,b3,L6,b4,b5,N,M⟩:=hcut;have P:=I N;clear N;go_wp2_with fail;refine(Zx _ d f n _ M.1.pm.pa _).mono ?_;intro e w7 h;obtain⟨k7,rfl,b6,S7⟩:=M.1.want h;have X7:=I (S7.below (An _ _).drew);clear h;clear S7;go_upto_region 8 with fail;go_cut [] (λwx=>∃(i:Nat) (H:Value) (L:List (LV)),k<=i/\n-i<m/\L.length=2/\Af (XM w d f n i l o H L wx))
 case first=>
  have⟨A,B,C,D,G⟩:=X7.1.sx;go_region_law (first|(refine step_append_lies _ rfl _ _ 31 rfl w.heap.size 71 U (.agg #[Bn 0,Bn 0,B_ ByteArray.empty,Ls]) 4 56 underlying31 V q r s rfl (by decide) _ _ _ rfl (S8.own.alloc _) (aD w8.heap.size 0) 1 1 (xv x8 a8 c8) rfl rfl (Hh w8 (xv x8 a8 c8) 71) (by intro u p;simp[xv]at p;rcases p with rfl|rfl|rfl|rfl <;> rfl) (by decide) (by have:=S8.ln;unfold maxLen;omega) (by have:=S8.ln;omega) (by have:=S8.pm.gr.size;simp;omega) _ rfl ?_;intro g9 e9 w9 ho9 hg9 ha9 hl9;have⟨⟨_,v0⟩,v3,u3,ul⟩:=S8.sx2 hg9)|(go_simp;go_at_call 246;refine(S _ d f n _ X7.1.pm.pa (by omega)).mono ?_;intro e w8 h;obtain⟨x8,a8,c8,k8,rfl,hk8,hn8,S8,T8⟩:=X7.1.call h;have⟨q0,q3,p0,p3,ql⟩:=S8.sx))
  all_goals
   have X9:=I (S8.app T8 ho9 hg9 ha9 (by simp) (by rw[P.1];omega));clear S8 T8 ho9 hg9 v0 v3 u3 ul A B C D G;go_wp2;go_meet
   case rel=>exact⟨k8,_,_,by omega,by omega,by rw[Gh,P.1];rfl,X9⟩
 obtain⟨k9,a0,L9,a1,a2,a3,X9⟩:=hcut;have a4:=I (show 0<L9.length by omega);clear a3 M;go_wp2_with fail;go_loopg [] (n-k9) (λg wr=>∃(i:Nat) (H:Value) (L:List (LV)),g=n-i/\k<=i/\n-i<m/\Af (0<L.length)/\Af (XM w d f n i l o H L wr));exact⟨k9,a0,L9,rfl,a1,a2,a4,X9⟩;obtain⟨i,H,L,rfl,b7,b8,HL,X⟩:=hrel;have b9:=X.1.ln;go_wp2_with fail;refine(Lr _ d f n _ X.1.pm.pa _).mono ?_;intro e c4 h;rcases X.1.tk h with⟨rfl,j⟩|⟨rfl,c6,j⟩
 . clear h X;go_wp2_with fail;refine(Zx _ d f n _ j.pm.pa _).mono ?_;intro e c7 h;obtain⟨c9,rfl,a9,E⟩:=j.want h;have a6:=I (E.below (An _ _).drew);clear h;have⟨y,ya,yc,ey,T⟩:=E.done HL.1 HW.1 hn;have⟨A,x1,x2,B⟩:=T.xc (b:=l) (x:=y) (a:=ya) (c:=yc) (by simp);have⟨⟨c0,c1,c2,c3,z0,z1,z2,z3⟩,C,y1,y2,D,zl⟩:=T.zc (b:=w.heap.size) (v:=zv) (by simp) rfl;clear j E a6 ey;go_wp2_with fail;have⟨Q,R⟩:=T.end4 (b:=w.heap.size) (o:=zv) (x:=y) (a:=ya) (c:=yc) (by simp) rfl (by simp) (show k<=_ from by omega);exact bP (Du rfl rfl Q) rfl R
 have F:=I (j.below (An _ _).drew);clear h X j;have⟨A,B,C,D,G⟩:=F.1.sx;go_wp2_with fail;go_region_law (first|(refine step_append_lies _ rfl _ _ 31 rfl w.heap.size 71 U (.agg #[Bn 0,Bn 0,B_ ByteArray.empty,Ls]) 4 56 underlying31 V q r s rfl (by decide) _ _ _ rfl (S12.own.alloc _) (aD w12.heap.size 0) 1 1 (xv x12 a12 c12) rfl rfl (Hh w12 (xv x12 a12 c12) 71) (by intro u p;simp[xv]at p;rcases p with rfl|rfl|rfl|rfl <;> rfl) (by decide) (by have:=S12.ln;unfold maxLen;omega) (by have:=S12.ln;omega) (by have:=S12.pm.gr.size;simp;omega) _ rfl ?_;intro g13 e13 w13 ho13 hg13 ha13 hl13;have⟨⟨_,v0⟩,v3,u3,ul⟩:=S12.sx2 hg13)|(go_simp;go_at_call 246;refine(S _ d f n _ F.1.pm.pa (by omega)).mono ?_;intro e w12 h;obtain⟨x12,a12,c12,k12,rfl,hk12,hn12,S12,T12⟩:=F.1.call h;have⟨q0,q3,p0,p3,ql⟩:=S12.sx))
 all_goals
  have a7:=I (S12.app T12 ho13 hg13 ha13 (by simp) (by omega));clear S12 T12 ho13 hg13 v0 v3 u3 ul A B C D G;go_wp2_with fail;go_roundg (n-k12)
  case measure=>omega
  case rel=>exact⟨k12,_,_,rfl,by omega,by omega,I (by simp),a7⟩
theorem DX:∀m:Nat,PF 312 m/\PF 246 m/\PF 296 m
 |0=>⟨λ_ _ _ _ _ _ h=>aB h (Nat.not_lt_zero _),λ_ _ _ _ _ _ h=>aB h (Nat.not_lt_zero _),λ_ _ _ _ _ _ h=>aB h (Nat.not_lt_zero _)⟩
 |m+1=>by
  have⟨f,e,n⟩:=DX m;grind[YD,YU,YS,XA,ZM,XU,WZ,XW,XX]
def Qt.imp{X Y:Nat->Prop}{w:Wd}{f:Value}{n:Nat}(h:Qt X w f n)(i:∀k,k<w.heap.size->X k->Y k):Qt Y w f n:=by
 obtain⟨j,a,c,l,o,q,r⟩:=h;refine⟨j,a,c,l,o,q,λhn=>?_⟩;have⟨b,d,e,t,g⟩:=r hn;have⟨k,s,m,p,u,_⟩:=g 0 hn;exact⟨b,d,e,i b (bK w _ u) t,g⟩
def EX(w:Wd)(e:Ending)(w':Wd):Prop:=∃(x:zH) (a:Ae) (ac:Nat) (bad:Int),e=.returned (.tuple #[.agg #[x.op,x.num,.string x.name,.slice a x.args.length ac],bad])/\Iu (λb=>w.heap.size<=b) w' (xv x a ac)/\Below w.heap.size w w'
structure TE(w:Wd)(pb xb n:Nat)(lv:Value)(x:zH)(xa:Ae)(xc:Nat)(k:Nat)(wx:Wd):Prop where
 qr:wx.heap[w.heap.size]?=some (.cells zv.toArray 71 (0,0))
 qp:∃bad:Int,wx.heap[pb]?=some (.cells #[lv,k,bad] 329 (0,0))
 qx:wx.heap[xb]?=some (.cells (xv x xa xc).toArray 71 (0,0))
 ex:Iu (λb=>w.heap.size<=b/\b≠w.heap.size/\b≠pb) wx (xv x xa xc)
 bl:Below w.heap.size w wx
 ne:w.heap.size<pb/\pb<xb
theorem TE.flunk{w f w':Wd}{c g n k:Nat}{d:Value}{x:zH}{i:Ae}{j:Nat}(T:TE w c g n d x i j k f){e:Ending}(h:lU f c d k e w'):e=.returned (.agg #[Bn 0,Bn 0,B_ ByteArray.empty,Ls])/\TE w c g n d x i j k w':=by
 obtain⟨l,m,a⟩:=h;have o:=T.ne;have p:=Ag T.qr;exact⟨l,(a.block _ p (by simp;omega)).trans T.qr,m,(a.block _ (Ag T.qx) (by simp;omega)).trans T.qx,T.ex.step λb hb hP=>⟨hP,a.block _ hb (by simp_all)⟩,T.bl.grown a (by omega) (λk e=>by cases e;omega),o⟩
def dK{e:Func}{a:Array Value}{W:Wd}{b:Nat}{v0 v1 v2 v3 u:Value}{f:Nat×Nat}(g:e.results=#[.cell 2 71,.tmp 3])(h:a.getD 2 undef=Ua b 0)(i:a.getD 3 undef=u)(q:W.heap[b]?=some (.cells #[v0,v1,v2,v3] 71 f)):(results e a).run prog W=.ok (.tuple #[.agg #[v0,v1,v2,v3],u]) W:=by
 have k:W.cell? (aD b 0)=some v0:=(EE 0 q rfl);have l:W.cell? (aD b 1)=some v1:=(EE 1 q rfl);have m:W.cell? (aD b 2)=some v2:=(EE 2 q rfl);have n:W.cell? (aD b 3)=some v3:=(EE 3 q rfl);have c:a[2]?.getD undef=Ua b 0:=by simpa using h
 have d:a[3]?.getD undef=u:=by simpa using i
 simp[results,g,go_sem,c,d,k,l,m,n]
def lD(w:Wd)(d:Value)(n:Nat)(h:Qt (λ_=>True) w d n):Calls prog 196 #[d] w (EX w):=by
 have r:PA ((w.alloc (.cells zv.toArray 71)).alloc (.cells #[d,Bn 0,Bn (-1)] 329)) (w.heap.size+1) d n 0:=by
  refine⟨Bg _,(h.imp (Y:=(·≠w.heap.size+1)) λk hk _=>by omega).step λk hk _=>?_,-1,?_⟩;exact(heap_alloc_old _ _ (by simp;omega)).trans (heap_alloc_old _ _ hk);have:=zh (w.alloc (.cells zv.toArray 71)) (.cells #[d,Bn 0,Bn (-1)] 329);simpa using this
 have C:((w.alloc (.cells zv.toArray 71)).alloc (.cells #[d,Bn 0,Bn (-1)] 329)).heap[w.heap.size]?=some (.cells zv.toArray 71 (0,0)):=zd (zh _ _);have D:=I (Ab (J w (.cells zv.toArray 71)) (J _ (.cells #[d,Bn 0,Bn (-1)] 329)));obtain⟨V,a,f,rfl,_⟩:=h;go_in;go_wp2_with fail;have⟨m,g⟩:=aT (w.heap.size+1);rw[<-g]at r;simp only[<-g];have s:=I r;have E:=I C;have t:w.heap.size<m:=by omega
 clear g r C;refine((DX (n+1)).2.1 _ m _ n 0 s.1 (by omega)).mono ?_;rintro e i ⟨x,o,p,k,rfl,_,M,⟨u,q⟩,F,v⟩;have N:((w.alloc (.cells zv.toArray 71)).alloc (.cells #[CU a n f,Bn 0,Bn (-1)] 329)).heap.size=w.heap.size+1+1:=by simp
 have y:=Ag s.1.2.2.choose_spec;have H:=(v.block w.heap.size (by omega) (by simp;omega)).trans E.1;have z:=Ag q;have T:Af (TE w m i.heap.size n (CU a n f) x o p k (i.alloc (.cells (xv x o p).toArray 71))):=⟨zd H,⟨u,zd q⟩,zh i _,F.step λb hb hP=>by
  have P:((w.alloc (.cells zv.toArray 71)).alloc (.cells #[CU a n f,Bn 0,Bn (-1)] 329)).heap.size<=b:=hP;exact⟨⟨by omega,by omega,by omega⟩,heap_alloc_old i _ hb⟩,(D.1.grown v (by omega) (λk e=>by cases e;omega)).alloc (by omega) _,t,z⟩
 clear D s E F v H q N y;go_upto_region 3 with fail;have⟨K,l⟩:=aT i.heap.size;have⟨X,A⟩:=aT (i.alloc (.cells (xv x o p).toArray 71));rw[<-l,<-A]at T;simp only[<-l];rw[show i.alloc (oE x o p)=X from A.symm];clear l z A;have⟨L,c⟩:=T.1.qp;have R:=zu c;have S:=zC c;have U:=Ag c;clear c;go_wp2_with ((with_reducible refine(fG _ m _ k T.1.qp).mono ?_);intro e W h;obtain⟨rfl,T4⟩:=T.1.flunk h;replace T:=I T4;clear T4 h R S U)
 all_goals
  have⟨B,c⟩:=T.1.qp;have Z:=zC c;have z:=Ag c;have⟨x0,x1,x2,x3⟩:=dJ T.1.qx;have xl:=Ag T.1.qx;have⟨r0,r1,r2,r3⟩:=Yl T.1.qr;have y0:=CH T.1.qr;have rl:=Ag T.1.qr;clear c;go_region
  all_goals
   go_wp2_with fail;have⟨Q,G⟩:=dO T.1.qr (Bn x.op) (Bn x.num) (B_ x.name) (CU o x.args.length p);exact bP (dK rfl rfl rfl Q) rfl ⟨x,o,p,_,rfl,T.1.ex.step λb hb hP=>⟨hP.1,G.block b hb (by simpa using hP.2.1)⟩,(T.1.bl.grown G (by omega) (λk e=>by cases e;exact Bv _)).drew⟩
