/- a part of the proof -/
import Derived.Test.YtafdcbmgdfliiaaGreatG5
set_option linter.all false
set_option maxRecDepth 100000
set_option maxHeartbeats 3000000
namespace Go.Proofs.YtafdcbmgdfliiaaGreat
open Go.RowKit Go.Sort Go.Proofs.Tryz
variable {w w':Wd}{B H b i k n:Nat}{a c:List (BA×zE)}{v:Value}{C:Array Value}{M:List (Value×Value)}{X:Nat->Prop}{x:BA×zE}{T:TypeId}{d:LV}{V:Nat->Value}
def Nw(c:Ad)(q:LI):Int:=if(Jf c).length=0 then Am q 3 else Aw q (Ci (Jf c) 0)
def KR(w:Wd)(s:Nat)(t:At)(c:Ad)(P:Dh)(l:Hl w s t c P)(q:LI)(a:Ae)(cap:Nat)(m:3<q.length)(x:q.length<=2^47)(n:zW w a q)(u:∀k,k<(Jf c).length->Lb q (Ci (Jf c) k))(y:(Jf c).length<=2^47):CV 45 #[Ua s 0,CU a q.length cap] w (Nw c q):=by
 have d:=SE l.box;have F:=l.lt;obtain⟨b,z,rfl,G,f⟩:=n.cells (by omega);have H:=f 3 m;have A:=I n;have v:=I l.xs;have B:=I u;have K:(3:Int)<(q.length:Int):=by omega
 by_cases o:(Jf c).length=0
 . have p:Af (Nw c q=Am q 3):=I (iP o);rw[o]at d;delta CV;go_in;go_wp2_with fail;go_loop [11] (λi=>i=Bn 0) (λ_=>0);rfl;subst hrel;go_wp2;go_ret;exact⟨ze p.1.symm,An _ _⟩
 have p:Af (Nw c q=Aw q (Ci (Jf c) 0)):=I (iN o);have⟨C,g,h,D,j⟩:=v.1.cells (by omega);have E:=I (j.at 0 (by omega));have L:(0:Int)<((Jf c).length:Int):=by omega
 rw[h]at d;delta CV;go_in;go_wp2_with fail;go_loop [11] (λi=>i=Bn 0) (λ_=>0);rfl;subst hrel;go_wp2_with fail;refine ca (tN q _ _ noX x (Ci (Jf c) 0) C g w (by simpa using E.1) (B.1 0 (by omega)) A.1) λM r=>?_;go_wp2;go_ret;exact⟨ze p.1.symm,r⟩
def Rt(k:Int)(q:LI):LI:=if k=3 then q.set 6 (Fz (Am q 6)) else q
def Jx(q:LI)(l:List zE):Nat->Int
 |0=>0
 |j+1=>Jx q l j+Aw q (Ci l j)
def zoy(c:Ad)(k:Nat)(q:LI):Int:=Jx (Rt k q) (Ra c k) (Ra c k).length
def Ik(q:LI)(l:List (BA×zE)):Nat->LB
 |0=> []
 |j+1=>if Aw q (Eh l j).2=0 then Ik q l j++ [(Eh l j).1] else Ik q l j
def Wy(c:Ad)(k:Nat)(q:LI):LB:=Ik (Rt k q) (Sg c k) (Sg c k).length
def GE{a:Ae}{l:List (BA×zE)}(h:Zd w a l)(c:0<l.length):∃b off,a=some (aD b off)/\b<w.heap.size/\∀i,i<l.length->w.cell? (aD b (off+i*4))=some (B_ (Eh l i).1)/\(Eh l i).1.size<=2^47/\zX noX w b (off+i*4+1) [(Eh l i).2]:=by
 rcases h with rfl|h;simp at c;exact h
def Ey(t:At)(d:Ai)(k:Nat):Ft:=Aa t.fs (Cm d k).1.toNat
theorem kM{t:At}{c:Ad}{d:Ai}(b:Ax c=0)(e:Cc t c d=0)(f:k<d.length)(g:0<k):0<=(Ey t d k).dp-(Ey t d (k-1)).ar/\(Ey t d k).dp-(Ey t d (k-1)).ar<=1440:=by
 have a:=(Ka e).2.2.2 k (by omega) f;have h:=Ul b;grind[Jj,Ey]
theorem bM{t:At}{c:Ad}{d:Ai}(b:zY t=0)(e:Cc t c d=0)(f:k<d.length):0<(Ey t d k).ar-(Ey t d k).dp/\(Ey t d k).ar-(Ey t d k).dp<=1440/\2880<=(Ey t d k).dp/\(Ey t d k).ar<=52593120:=by
 have⟨i,j,g,_⟩:=Ka e;have⟨m,h,a⟩:=Qh (g k f);simp_all[Ey,Lu,Int.toNat_natCast]
theorem yV{t:At}{c:Ad}{d:Ai}(b:zY t=0)(e:Ax c=0)(a:Cc t c d=0):∀k,k<d.length->(Ey t d 0).dp<(Ey t d k).ar
 |0,h=>by have:=bM b a h;omega
 |k+1,h=>by
  have g:=yV b e a k (by omega);have f:=kM e a h (by omega);have i:=bM b a h;grind
theorem oG{t:At}{c:Ad}{d:Ai}(e:zY t=0)(a:Ax c=0)(b:Cc t c d=0):0<(Aa t.fs (lstN d)).ar+c.rl-((Aa t.fs (fstN d)).dp-c.rp):=by
 have h:=yV e a b (d.length-1) (by grind[Ka]);have f:=Ul a;show 0<(Ey t d (d.length-1)).ar+c.rl-((Ey t d 0).dp-c.rp);omega
theorem pI:∀{l:List Cy} {acc:LB},(Ca acc l).1=0->∀z∈l,Fv z=0
 |[],_,_,z,a=>by simp at a
 |x::l,acc,h,z,a=>by
  rw[Ca]at h;by_cases b:Fv x≠0
  . simp_all
  rw[iN b]at h;by_cases c:Ao acc x.name=true
  . simp_all
  rw[iN c]at h;rcases List.mem_cons.1 a with rfl|a
  . omega
  exact pI h z a
theorem KE{t:At}(h:zY t=0):(Ca [] t.zn).1=0/\(Cb (Ca [] t.zn).2 [] t.ai).1=0:=by
 grind[zY]
theorem SF{t:At}(h:zY t=0)(s:BA):Fv (zp t s)=0\/zp t s=Lk:=by
 cases b:Fq t.ai s with
 |none=>grind[zp]
 |some a=>
  cases c:Ox t.zn a.zone<;>grind[Ox,zp,pI,KE]
def Vz{t:At}(h:zY t=0)(s:BA):(zp t s).sh.length<=16:=by
 rcases SF h s with a|a;exact(Ue a).2.2.1;rw[a];simp[Lk]
def Tn(e:TypeId)(w w':Wd):Prop:=w.heap.size<=w'.heap.size/\∀(b:Nat) (o:Obj),(∀cs f,o≠Obj.cells cs e f)->w.heap[b]?=some o->w'.heap[b]?=some o
def Tn.refl(e:TypeId)(w:Wd):Tn e w w:=⟨Bv _,λ_ _ _ h=>h⟩
theorem Tn.append{e:TypeId}{a:Nat}{c:Wd}{m:LV}{o:Obj}(h:Tn e w c)(p:c.ownsRow B e a v n m)(l:(c.alloc o).grownBy w' v.ownBlock):Tn e w w':=by
 have q:c.heap.size<=w'.heap.size:=Bf (by simp) l.size;refine⟨Bf h.1 q,λb x hx hb=>?_⟩;have d:=h.2 b x hx hb;have f:=Ag d;rw[l.block b (by simp;omega) ?_];exact((World.grownBy_alloc c o none).block b f (by simp)).trans d;intro i;rcases p.2 with⟨rfl,_⟩|⟨g,r,j,rfl,_,k,_⟩;all_goals grind[Value.ownBlock]
def Yq(x:Int×Int×BA):LV:= [Bn x.1,Bn x.2.1,.string x.2.2]
def Je(V:List (Int×Int×BA)):LV:=V.flatMap Yq
def QJ:(prog.info? 69).map (λi=>(i.zero,i.size,i.bytes))=some (some (.agg #[Bn 0,Bn 0,B_ ByteArray.empty]),3,32):=by kernel_rfl
def wM(w:Wd)(a:Ae)(N:LB):Prop:=N= []\/∃b cur f,a=some (aD b 0)/\w.heap[b]?=some (.cells cur 9 f)/\∀i,i<N.length->cur[i]?=some (.string (Bl N i))
def GY(k:Nat)(p:0<k)(q:k<4)(w:Wd):Calls prog 91 #[k] w λe f=>∃b d c,e=.returned (Kx b d (zk k).length c)/\w.heap.size<=b/\b<f.heap.size/\Gy f b d (zk k)/\Bw w f:=by
 obtain rfl|rfl|rfl:k=1\/k=2\/k=3:=by omega
 refine(mU w).mono ?_;rintro e f ⟨⟨c,rfl⟩,g,h,i⟩;exact⟨_,0,c,rfl,Bv _,g,h,i⟩;refine(tA w).mono ?_;rintro e f ⟨v,rfl,g,h⟩;have m:=λj hj=>Lt g j hj;obtain⟨a,c,rfl,i,_⟩:=Lz.of_own (l:=Rb) g (by decide);obtain⟨b,d,rfl,n,o⟩:=i.cells (by decide);exact⟨b,d,c,rfl,m b rfl,n,o,h⟩;refine(tB w).mono ?_;rintro e f ⟨⟨c,rfl⟩,g,h,i⟩;exact⟨_,0,c,rfl,Bv _,g,h,i⟩
def QI:(prog.info? 116).map (λi=>(i.zero,i.size,i.bytes))=some (some (.agg #[B_ ByteArray.empty,Bn 0]),2,24):=by kernel_rfl
def NJ(n:Nat)(f:n<=200)(w:Wd):(Instr.makeSlice 52 (Bn (n:Int)) (Bn (n:Int))).run prog w=.ok (Kx w.heap.size 0 n n) (w.alloc (.cells (madeCells #[B_ ByteArray.empty,Bn 0] (n*2)) 116)):=by
 have⟨i,b,c,d,e⟩:=info_parts QI;have a:=run_make (P:=prog) w 52 116 i (.agg #[B_ ByteArray.empty,Bn 0]) underlying52 b c .i64 .i64 n n (by omega) (Int.le_refl _) (by rw[e];omega) (by omega);simp only[Int.toNat_natCast,d]at a;exact a
theorem ON{b:LV}{m:Nat}(h:C.toList.take m=b)(e:m+2<=C.size)(c d:Value):((C.setIfInBounds m c).setIfInBounds (m+1) d).toList.take (m+2)=b++ [c,d]:=by
 subst h;obtain⟨L⟩:=C;simp only[List.setIfInBounds_toArray,List.size_toArray]at e ⊢;have f:L=L.take m++L.drop m:=(List.take_append_drop m L).symm;obtain⟨x,y,T,g⟩:∃x y T,L.drop m=x::y::T:=by
  have i:2<=(L.drop m).length:=by simp;omega
  match hh:L.drop m,i with
  |x::y::T,_=>grind
 have a:(L.take m).length=m:=by simp;omega
 generalize L.take m=A at*;rw[f,g];subst a;simp[List.set_append,List.take_append];grind
def Lv(N:LB)(q:LI):Nat->LV
 |0=> []
 |k+1=>Lv N q k++ [.string (Bl N k),Bn (Am q k)]
def qW(k:Nat)(h0:0<k)(hk:k<4)(q:LI)(a:Ae)(cap:Nat)(w:Wd)(L:q.length=(zk k).length)(X:zW w a q):Calls prog 40 #[k,CU a q.length cap] w λe w'=>∃C,e=.returned (Kx w.heap.size 0 q.length q.length)/\w'.heap[w.heap.size]?=some (.cells C 116 (0,0))/\C.size=q.length*2/\C.toList.take (q.length*2)=Lv (zk k) q q.length/\Bw w w':=by
 have hn:=dZ k;have HI:=I X;have mk:=λw=>NJ q.length (by omega) w;clear X;have⟨N,M⟩:=aT (zk k);have P:=I (λw=>GY k h0 hk w);rw[<-M]at P hn L;rw[<-M];clear M;have a1:q.length<=25:=by omega
 have Y:=I L;clear L;have r:=I (J w (.cells (madeCells #[B_ ByteArray.empty,Bn 0] (q.length*2)) 116));go_in;go_wp2_with fail;refine(P.1 _).mono ?_;rintro e w1 ⟨Z,s,a0,rfl,R,d,t,l⟩;have S:=I l;have g:(w.alloc (.cells (madeCells #[B_ ByteArray.empty,Bn 0] (q.length*2)) 116)).heap.size=w.heap.size+1:=by simp
 have f:w1.heap[w.heap.size]?=some (.cells (madeCells #[B_ ByteArray.empty,Bn 0] (q.length*2)) 116 (0,0)):=(l.block _ (by rw[g];omega)).trans (by show(w.heap.push _)[w.heap.size]?=_;simp);rw[g]at R;have v:=I (Ab r.1 l);have x:=I t;have m:(madeCells #[B_ ByteArray.empty,Bn 0] (q.length*2)).size=q.length*2:=by simp[madeCells]
 have⟨T,y⟩:=aT (madeCells #[B_ ByteArray.empty,Bn 0] (q.length*2));rw[<-y]at f m;have z:=I f;have A:=I m;clear l t S g f m y r mk P;go_wp2_with fail;go_loopw [14] (λi wr=>∃(j:Nat) (C:Array Value),j<=N.length/\i=Bn j/\Af (wr.heap[w.heap.size]?=some (.cells C 116 (0,0)))/\Af (C.size=q.length*2/\C.toList.take (j*2)=Lv N q j)/\Af (Gy wr Z s N)/\Z<wr.heap.size/\Af (Bw w wr)) (λi _=>N.length-(intOf i).toNat);exact⟨0,T,Bg _,rfl,z,I ⟨A.1,by simp[Lv]⟩,x,d,v⟩;clear z A x d v;obtain⟨j,C,hj,rfl,h,o,n,d,K⟩:=hrel;by_cases U:j<N.length
 . have c0:=n.1 j U;have V:j<q.length:=by have:=Y.1;omega
   obtain⟨b,a2,rfl,hb,B⟩:=(HI.1.below K.1).cells (by omega);have c1:=B j V;have c:=h.1;have hg:=Ag c;have W:j*2+2<=C.size:=by have:=o.1.1;omega
   have y0:=zm (j:=j*2) c (Array.getElem?_eq_getElem (by omega));have y1:=zm (j:=j*2+1) c (Array.getElem?_eq_getElem (by omega));have u0:=zQ (j:=j*2) c;have u1:=zQ (j:=j*2+1) c;clear B;go_wp2_with fail;have Q:=I (zg (i:=j*2+1) (u:=Bn (Am q j)) (zg (i:=j*2) (u:=B_ (Bl N j)) c));have G:=Lib.grownBy_setB (Lib.grownBy_setCell wr w.heap.size (j*2) (B_ (Bl N j))) (j*2+1) (Bn (Am q j));have D:=I ((K.1.setCell (p:=aD w.heap.size (j*2)) (Bv _) (B_ (Bl N j))).setCell (p:=aD w.heap.size (j*2+1)) (Bv _) (Bn (Am q j)));have E:=I (n.1.kept d G (by omega));have F:=As d G.size;have H:Af (((C.setIfInBounds (j*2) (B_ (Bl N j))).setIfInBounds (j*2+1) (Bn (Am q j))).size=q.length*2/\((C.setIfInBounds (j*2) (B_ (Bl N j))).setIfInBounds (j*2+1) (Bn (Am q j))).toList.take ((j+1)*2)=Lv N q (j+1)):=I ⟨by simpa using o.1.1,by rw[show(j+1)*2=j*2+2 by omega];exact ON o.1.2 W _ _⟩;clear y0 y1 u0 u1 c0 c1 c G h o n K;go_roundw;(try((repeat apply eX);refine⟨?_,rfl⟩));exact⟨j+1,_,by omega,by go_num,Q,H,E,F,D⟩;simp[intOf];omega
 obtain rfl:j=N.length:=by omega
 go_wp2;go_ret;exact⟨C,rfl,h.1,o.1.1,by rw[Y.1];exact o.1.2,K.1⟩
mutual
def Pm(p:Int):zE->Bool
 | .mk o n l=>if o=6 then n==p else Qo p l
def Qo(p:Int):List zE->Bool
 |[]=>false
 |x::l=>Pm p x || Qo p l
end
def MA{p:Int}{l:List zE}(h:k<l.length):Qo p (l.drop k)=(Pm p (Ci l k) || Qo p (l.drop (k+1))):=by rw[Xt l k h,Qo]
def MM(p:Int)(l:List zE):Qo p (l.drop l.length)=false:=by rw[Gk,Qo]
def rF(p:Int)(X:Nat->Prop)(f:zE):Prop:=∀(b off:Nat) (w:Wd),zX X w b off [f]->CE 85 #[.pointer (some (aD b off)),p] w (.bool (Pm p f))
theorem ML(p:Int)(X:Nat->Prop)(o n:Int)(l:List zE)(r:∀k,k<l.length->rF p X (Ci l k)):rF p X (.mk o n l):=by
 intro b x w s;have⟨a,y,L,z,A,B,C,q⟩:=s.one;simp only[zE.op,zE.num,zE.args]at z A B C q;have D:=I r;have E:=I q;by_cases j:o=6
 . have m:=I (show Pm p (.mk o n l)=(n==p) by rw[Pm,iP j]);subst j;go_enter func85,ntmps85;go_wp2;go_ret;exact⟨zz m.1.symm,rfl⟩
 have m:=I (show Pm p (.mk o n l)=Qo p (l.drop 0) by rw[Pm,iN j];rfl);have F:=RZ j
 go_enter func85,ntmps85;go_wp2_with fail;go_loop [22] (λi=>∃k:Nat,k<=l.length/\i=Bn k/\Af (Qo p (l.drop 0)=Qo p (l.drop k))) (λi=>l.length-(intOf i).toNat);exact⟨0,Bg _,rfl,I rfl⟩;obtain⟨k,M,rfl,d⟩:=hrel;by_cases f:k<l.length
 . obtain⟨G,g,rfl,H,h⟩:=E.1.cells (by omega);have K:=I (h.at k f);have t:=MA (p:=p) f;have u:=I (d.1.trans t);go_wp2_with fail;refine cb (D.1 k f G (g+k*3) w K.1) ?_;cases v:Pm p (Ci l k)
   . have c:Af (Qo p (l.drop 0)=Qo p (l.drop (k+1))):=I (u.1.trans (by rw[v];rfl));go_wp2;go_round;exact⟨k+1,by omega,by go_num,c⟩;simp[intOf];omega
   have c:Af (Qo p (l.drop 0)=true):=I (u.1.trans (by rw[v];rfl));go_wp2;go_ret;exact⟨zz (m.1.trans c.1).symm,rfl⟩
 obtain rfl:k=l.length:=by omega
 have c:=I (d.1.trans (MM p l));go_wp2;go_ret;exact⟨zz (m.1.trans c.1).symm,rfl⟩
theorem yD(p:Int)(X:Nat->Prop)(f:zE):rF p X f:=by
 have⟨m,a⟩:=aT (SizeOf.sizeOf f);induction m using Nat.strongRecOn generalizing f with
 |_ m ih=>
  subst a;obtain⟨o,n,l⟩:=f;grind[ML,wG]
theorem vS(a:List Cy)(z:Cy)(s:BA):Ox (a++ [z]) s=if z.name=s then some z else Ox a s:=by
 grind[Ox]
theorem xC(l:List Bh)(z:Bh)(s:BA):Fq (l++ [z]) s=if z.code=s then some z else Fq l s:=by
 grind[Fq]
def Up(w0:Wd)(M:List (Value×Value))(zs:List Cy):Prop:=∀s,(Ox zs s=none->Bz M (.string s)=none)/\∀z,Ox zs s=some z->∃v,Bz M (.string s)=some v/\Iz w0 v z
def Up.nil(a:Wd):Up a [] []:=λs=>⟨λ_=>rfl,λz h=>by simp[Ox]at h⟩
theorem Up.put{a:Wd}{b:List Cy}(h:Up a M b)(z:Cy)(c:Iz a v z):Up a (Dd M (B_ z.name) v) (b++ [z]):=by
 intro s;rw[vS,fY];by_cases e:z.name=s;rw[iP e,iP e];exact⟨(λh=>by cases h),λy hy=>⟨v,rfl,by simp_all⟩⟩;rw[iN e,iN e];exact h s
def Sn(w0:Wd)(M:List (Value×Value))(zs:List Cy)(l:List Bh):Prop:=∀s,(Fq l s=none->Bz M (.string s)=none)/\∀a,Fq l s=some a->∃v,Bz M (.string s)=some v/\Iz w0 v ((Ox zs a.zone).getD Lk)
def Sn.nil(a:Wd)(b:List Cy):Sn a [] b []:=λs=>⟨λ_=>rfl,λz h=>by simp[Fq]at h⟩
theorem Sn.put{b:Wd}{c:List Cy}{l:List Bh}(h:Sn b M c l)(a:Bh)(d:Iz b v ((Ox c a.zone).getD Lk)):Sn b (Dd M (B_ a.code) v) c (l++ [a]):=by
 intro s;rw[xC,fY];by_cases e:a.code=s;rw[iP e,iP e];exact⟨(λh=>by cases h),λy hy=>⟨v,rfl,by simp_all⟩⟩;rw[iN e,iN e];exact h s
theorem Iz.zero(w:Wd):Iz w (.agg #[B_ ByteArray.empty,Bn 0,Ls]) Lk:=⟨none,0,rfl,.inl rfl,by simp[Lk],by simp[Lk]⟩
theorem PY{d:Wd}{c:List Cy}(f:Dl prog w b .string M)(h:Up d M c)(s:BA):∃v,((Instr.lookup 159 (.map (some b)) (B_ s) false).run prog w=.ok v w)/\Iz d v ((Ox c s).getD Lk):=by
 have a:=aU underlying159 underlying9 f (key:=B_ s) trivial (kR _);cases e:Ox c s with
 |none=>
  rw[(h s).1 e]at a;grind[Iz.zero]
 |some z=>
  have⟨v,g,i⟩:=(h s).2 z e;simp_all
def yK(a:Dl prog w b .string M)(s:BA)(v:Value):∃w',(Instr.mapUpdate 159 (.map (some b)) (B_ s) v).run prog w=.ok () w'/\Dl prog w' b .string (Dd M (B_ s) v)/\w.grownBy w' (some b):=
 aP underlying159 underlying9 a (key:=B_ s) v trivial
def Sn.zn{c:Wd}{t:At}(f:Dl prog w b .string M)(h:Sn c M t.zn t.ai)(g:Bw c w):Zl w b t:=by
 refine⟨M,f,λs=>⟨(h s).1,λhs=>?_⟩⟩;cases d:Fq t.ai s with
 |none=>exact aB d hs
 |some a=>
  have⟨v,i,j⟩:=(h s).2 a d;refine⟨v,i,?_⟩;have e:zp t s=(Ox t.zn a.zone).getD Lk:=by simp[zp,d]
  rw[e];exact j.below g
def Yc(w:Wd):(Instr.makeMap 159 none).run prog w=.ok (.map (some w.heap.size)) (w.alloc (.map #[] 0)):=by kernel_rfl
theorem zo9(l:List Cy)(k:Nat)(h:k<l.length):l.take (k+1)=l.take k++ [Cg l k]:=by
 simp_all[Cg]
theorem zpe(l:List Bh)(k:Nat)(h:k<l.length):l.take (k+1)=l.take k++ [Ct l k]:=by
 simp_all[Ct]
def Sq(l:List (BA×zE)):Bool:=l.any λr=>Pm 1 r.2
def Wc(l:List zE):Bool:=l.any λf=>Pm 1 f
def qE(c:Ad):Bool:=Sq (Sg c 2) || Wc (Ra c 2)
inductive Wt(w:Wd)(t:At)(c:Ad)(e:Ending)(w':Wd):Prop
 |badT (h:zY t≠0) (he:e=.returned (.tuple #[.pointer none,(zY t)]))
 |badC (h:zY t=0) (hc:Ax c≠0) (he:e=.returned (.tuple #[.pointer none,(Ax c)]))
 |ok (sb:Nat) (P:Dh) (he:e=.returned (.tuple #[.pointer (some (aD sb 0)),.int .i64 0])) (hs:Hl w' sb t c P) (hl:w.heap.size<=sb) (hn:P.nights=qE c)
def UT(w:Wd)(t:At)(c:Ad)(e:Ending)(w':Wd):Prop:=Wt w t c e w'/\Below w.heap.size w w'
structure Ea(w:Wd)(t:At)(c:Ad)(za aa fa:Ae)(p:Bd):Prop where
 z:Al Nc w za t.zn
 a:Al Mk w aa t.ai
 f:Al Hi w fa t.fs
 c:Kb w.heap.size w c p
def Ea.below{t:At}{c:Ad}{d e fa:Ae}{p:Bd}(h:Ea w t c d e fa p)(b:Bw w w'):Ea w' t c d e fa p where
 z:=h.z.below b
 a:=h.a.below b
 f:=h.f.below b
 c:=(h.c.keep b).more b.size
def Rn(t:At)(c:Ad)(za:Ae)(zc:Nat)(aa:Ae)(ac:Nat)(fa:Ae)(fc:Nat)(p:Bd):Prop:=∀w:Wd,Ea w t c za aa fa p->Calls prog 38 #[.agg #[.slice za t.zn.length zc,.slice aa t.ai.length ac,.slice fa t.fs.length fc],.agg #[c.rp,c.rl,c.cn,c.sit,c.lv,c.nf,c.nt,.slice p.ca c.cs.length p.cc,.slice p.ra c.rs.length p.rc,.slice p.ka c.ks.length p.kc,.slice p.xa c.xs.length p.xc,.slice p.la c.ls.length p.lc,.slice p.oa c.oz.length p.oc,c.gu]] w (UT w t c)
inductive Gl(X:Nat->Prop)(w:Wd):LV->List (BA×zE)->Prop
 |nil:Gl X w [] []
 |snoc {cs:LV} {rs:List (BA×zE)} {s:BA} {f:zE} {a:Ae} {cap:Nat} (h:Gl X w cs rs) (hs:s.size<=140737488355328) (hl:f.args.length<=140737488355328) (ha:Gi X w a f.args):Gl X w (cs++ [.string s,.int .i64 f.op,.int .i64 f.num,.slice a f.args.length cap]) (rs++ [(s,f)])
def Gl.len{a:LV}{b:List (BA×zE)}(h:Gl X w a b):a.length=b.length*4:=by
 induction h with
 |nil=>rfl
 |snoc h hs hl ha ih=>simp[ih];omega
def Gl.step{X':Nat->Prop}{a:LV}(h:Gl X w a c)(d:w.heap.size<=w'.heap.size)(e:∀b,b<w.heap.size->¬ X b->w'.heap[b]?=w.heap[b]?)(f:∀b,b<w.heap.size->X' b->X b):Gl X' w' a c:=by
 induction h with
 |nil=>exact .nil
 |snoc h h1 h2 ha ih=>exact .snoc ih h1 h2 (ha.step d e f)
theorem tZ(h:i<a.length):Eh (a++ [x]) i=Eh a i:=by
 grind[Eh]
theorem uA:Eh (a++ [x]) a.length=x:=by
 grind[Eh]
def Gl.at{c:LV}{d:List (BA×zE)}(h:Gl X w c d){t:TypeId}(g:w.heap[b]?=some (.cells C t (0,0)))(p:¬ X b)(k:C.toList.take c.length=c):∀i,i<d.length->w.cell? (aD b (0+i*4))=some (B_ (Eh d i).1)/\(Eh d i).1.size<=2^47/\zX X w b (0+i*4+1) [(Eh d i).2]:=by
 have q:=Ag g;induction h with
 |nil=>intro i o;simp at o
 | @snoc c d s f a cap h h1 h2 ha ih=>
  have l:=h.len;have m:C.toList.take c.length=c:=by
   have:=congrArg (List.take c.length) k;rw[List.take_take]at this;simpa using this
  have n:∀j v, [B_ s,Bn f.op,Bn f.num,CU a f.args.length cap][j]?=some v->C[c.length+j]?=some v:=λj v hv=>by
   have r:j<4:=by
    have:=(List.getElem?_eq_some_iff.1 hv).1;simpa using this
   have e:(C.toList.take (c++ [B_ s,Bn f.op,Bn f.num,CU a f.args.length cap]).length)[c.length+j]?=some v:=by
    rw[k,Nf (by omega),Nat.add_sub_cancel_left];exact hv
   rw[List.getElem?_take,iP (by simp;omega)]at e;simpa using e
  intro i o;by_cases e:i<d.length
  . rw[tZ e];exact ih m i e
  obtain rfl:i=d.length:=by simp at o;omega
  rw[uA,Nat.zero_add,<-l];exact⟨EE c.length g (n 0 _ rfl),h1,zX.mk1 q p (zm (j:=c.length+1) g (n 1 _ rfl)) (zm (j:=c.length+2) g (n 2 _ rfl)) (zm (j:=c.length+3) g (n 3 _ rfl)) h2 ha⟩
theorem Gl.rs(i:w.ownsRow B T 4 v c.length d)(h:Gl noX w d c):∃a b,v=CU a c.length b/\Zd w a c:=by
 rcases i.2 with⟨rfl,e⟩|⟨g,b,j,rfl,l,f,m,n,o,k⟩;exact⟨none,0,by rw[e],.inl (List.length_eq_zero_iff.1 e)⟩;refine⟨_,b,rfl,.inr ⟨g,0,rfl,Ag f,h.at f (λh=>h) ?_⟩⟩;grind
theorem En.rows{c:List zE}(f:w.ownsRow B T 3 v c.length d)(h:En noX w d c):∃a b,v=CU a c.length b/\Gi noX w a c:=by
 rcases f.2 with⟨rfl,e⟩|⟨g,b,i,rfl,m,j,n,o,p,k⟩;have l:=List.length_eq_zero_iff.1 e;subst l;exact⟨none,0,rfl,0,0,λh=>aB rfl h,.nil _ _⟩;refine⟨_,b,rfl,g,0,λ_=>rfl,h.forms j (λh=>h) ?_⟩;grind
theorem uV(c:Ad)(l:List It)(r:It)(k:Nat):Fm c (l++ [r]) k=if r.sc=(k:Int) then Fm c l k++ [(r.name,Eb c k r.ex)] else Fm c l k:=by
 grind[Fm]
theorem uO(c:Ad)(l:List Ky)(r:Ky)(k:Nat):Eu c (l++ [r]) k=if r.sc=(k:Int) then Eu c l k++ [Eb c k r.ex] else Eu c l k:=by
 grind[Eu]
def XV(B:Nat)(V:Nat->Value)(b:Nat):Prop:=b<B\/∃k,k<9/\(V k).ownBlock=some b
def upd(V:Nat->Value)(k:Nat)(v:Value):Nat->Value:=λi=>if i=k then v else V i
def Uq(V:Nat->Value)(k:Nat)(v:Value):upd V k v k=v:=iP rfl
def Zo(V:Nat->Value)(v:Value)(h:i≠k):upd V k v i=V i:=iN h
def bT(V:Nat->Value):Prop:=∀i j b,i<9->j<9->(V i).ownBlock=some b->(V j).ownBlock=some b->i=j
theorem BV(d:k<9)(a:v.ownBlock=(V k).ownBlock\/v.ownBlock=some H)(f:b<H)(h:XV B (upd V k v) b):XV B V b:=by
 rcases h with h|⟨i,c,h⟩;exact .inl h;by_cases e:i=k;subst e;rw[Uq]at h;rcases a with a|a;exact .inr ⟨i,c,a ▸ h⟩;rw[a]at h;cases h;omega;rw[Zo _ _ e]at h;exact .inr ⟨i,c,h⟩
def bT.upd(h:bT V)(n:k<9)(e:∀i b,i<9->(V i).ownBlock=some b->b<H)(a:v.ownBlock=(V k).ownBlock\/v.ownBlock=some H):bT (upd V k v):=by
 intro i j b f g c d;by_cases m:i=k;by_cases l:j=k;omega;subst m;rw[Uq]at c;rw[Zo _ _ l]at d;rcases a with a|a;rw[a]at c;exact h i j b f g c d;rw[a]at c;cases c;have:=e j _ g d;omega;by_cases l:j=k;subst l;rw[Uq]at d;rw[Zo _ _ m]at c;rcases a with a|a;rw[a]at d;exact h i j b f g c d;rw[a]at d;cases d;have:=e i _ f c;omega;rw[Zo _ _ m]at c;rw[Zo _ _ l]at d;exact h i j b f g c d
theorem nW{r:Int×Int}{k:Int}(h:Cu r k=0):r.2=0/\r.1=k:=by
 grind[Cu]
theorem oF{l:List zB}{a:Int}{x:zH}(h:(Cd l n a x).2=0):Bb x=0/\Cd l n a x=Bt (Cv l n) a x/\(Bt (Cv l n) a x).2=0:=by
 grind[Cd]
structure mG(c:Ad):Prop where
 g:Cf c=0
 r:∀i,i<c.rs.length->Fh c i=0
 k:∀i,i<c.ks.length->Ep c i=0
 x:∀i,i<c.xs.length->Gt c i=0
def Ud{c:Ad}(h:Ax c=0):mG c:=by
 unfold Ax at h;by_cases a:Cf c≠0;rw[iP a]at h;exact aB h a;rw[iN a]at h;by_cases e:Av (Fg c.cs) 0 (c.cs.length-0)≠0;rw[iP e]at h;exact aB h e;rw[iN e]at h;by_cases b:Av (Fh c) 0 (c.rs.length-0)≠0;rw[iP b]at h;exact aB h b;rw[iN b]at h;by_cases d:Av (Ep c) 0 (c.ks.length-0)≠0;rw[iP d]at h;exact aB h d;rw[iN d]at h;exact⟨Classical.not_not.1 a,λi hi=>Ti _ _ (Classical.not_not.1 b) i (Bg _) (by omega),λi hi=>Ti _ _ (Classical.not_not.1 d) i (Bg _) (by omega),λi hi=>Ti _ _ h i (Bg _) (by omega)⟩
theorem Vq{c:Ad}(h:Cf c=0):Li c=true/\Gj [] c.rs=0/\Ig c.ks=0/\Kg c.xs=0:=by
 grind[Cf]
def wS:∀{l:List It} {acc:List (Int×BA)},Gj acc l=0->∀r∈l,1<=r.sc/\r.sc<=3
 |[],_,_,r,a=>by simp at a
 |x::l,acc,h,r,a=>by
  rw[Gj]at h;by_cases b:(Ar x.sc 1 3&&zZ x.name)=false
  . rw[iP b]at h;omega
  rw[iN b]at h;by_cases d:Ge acc x.sc x.name=true
  . rw[iP d]at h;omega
  rw[iN d]at h;by_cases c:Bb x.ex≠0
  . rw[iP c]at h;exact aB h c
  rw[iN c]at h;rcases List.mem_cons.1 a with rfl|a
  . have:(Ar r.sc 1 3&&zZ r.name)=true:=by simpa using b
    simp only[Em,Om]at this;exact this.1
  exact wS h r a
def oD:∀{l:List Ky},Ig l=0->∀r∈l,1<=r.sc/\r.sc<=3
 |[],_,r,a=>by simp at a
 |x::l,h,r,a=>by
  rw[Ig]at h;by_cases b:Ar x.sc 1 3=false
  . rw[iP b]at h;omega
  rw[iN b]at h;by_cases c:Bb x.ex≠0
  . rw[iP c]at h;exact aB h c
  rw[iN c]at h;rcases List.mem_cons.1 a with rfl|a
  . have:Ar r.sc 1 3=true:=by simpa using b
    exact Om.1 this
  exact oD h r a
theorem SS{l:List It}(h:k<l.length):Ah l k∈l:=by
 grind[Ah]
theorem zrS{l:List Ky}(h:k<l.length):Aq l k∈l:=by
 grind[Aq]
theorem AQ(l:List It)(k:Nat)(h:k<l.length):l.take (k+1)=l.take k++ [Ah l k]:=by
 simp_all[Ah]
theorem zjk(l:List Ky)(k:Nat)(h:k<l.length):l.take (k+1)=l.take k++ [Aq l k]:=by
 simp_all[Aq]
theorem AV{c:Ad}(h:Ax c=0)(a:i<c.rs.length):∃k:Nat,(Ah c.rs i).sc=k/\1<=k/\k<=3/\Db (Ah c.rs i).ex=true/\Bq (Ah c.rs i).ex<=200/\(Bt (Cv c.cs c.cs.length) k (Ah c.rs i).ex).2=0:=by
 have b:=Ud h;have l:=wS (Vq b.g).2.1 _ (SS a);have⟨j,m⟩:=nW (b.r i a);have⟨d,_,e⟩:=oF j;have⟨k,f⟩:=Int.eq_ofNat_of_zero_le (show 0<=(Ah c.rs i).sc by omega);grind[Ql]
theorem AZ{c:Ad}(h:Ax c=0)(a:i<c.ks.length):∃k:Nat,(Aq c.ks i).sc=k/\1<=k/\k<=3/\Db (Aq c.ks i).ex=true/\Bq (Aq c.ks i).ex<=200/\(Bt (Cv c.cs c.cs.length) k (Aq c.ks i).ex).2=0:=by
 have b:=Ud h;have l:=oD (Vq b.g).2.2.1 _ (zrS a);have⟨j,m⟩:=nW (b.k i a);have⟨d,_,e⟩:=oF j;have⟨k,f⟩:=Int.eq_ofNat_of_zero_le (show 0<=(Aq c.ks i).sc by omega);grind[Ql]
theorem nZ{c:Ad}(h:Ax c=0)(b:i<c.xs.length):Db (Au c.xs i)=true/\Bq (Au c.xs i)<=200/\(Bt (Cv c.cs c.cs.length) 1 (Au c.xs i)).2=0:=by
 have d:=Ud h;have⟨e,g⟩:=nW (d.x i b);grind[oF,Ql]
