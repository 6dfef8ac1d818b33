/- a part of the proof -/
import Derived.ProofKit
import Derived.OpenShut
import Derived.ShutString
import Derived.ChangeOld
import Derived.Deep.Slices
import Derived.Deep.Fields
import Derived.ChangeSame
import Derived.Lib.SmallJoins
import Derived.SizedLaws
import Derived.Test.YtelojoopofolpaaGreatG5
import Derived.Test.YtelojoopofolpaaGreatG8
set_option linter.all false
set_option maxRecDepth 100000
set_option maxHeartbeats 3000000
namespace Go.Proofs.YtelojoopofolpaaGreat
open Go.RowKit Go.Sort Go.Proofs.Tryz

def zkh(w:Wd)(e:Ending)(w':Wd):Prop:=∃b:Bool,e=.returned (.bool b)/\Below w.heap.size w w'
end Go.Proofs.YtelojoopofolpaaGreat
namespace Go.Proofs.YtelojoopofolpaaGreat
open Go.ChangeShapes Go.WideShapes Go.ChangeAt Go.RowKit Go.Deep Go.Joins
variable {e t:TypeId}
open Go.ChangeMaps (open_string shut_string)
open Go.Proofs.Tryz
theorem own:ownKnob prog.godebug=none:=by kernel_rfl
theorem tV:laidOutB prog=true:=by kernel_rfl
def fX{A:Type}(t:TypeId)(r:RT A):Prop:=∀{H:Type} {enc:TypeId×Value->H} {W:Wd} {fuel:Nat} {cs:LV} {x:DataW H×List MemPlace},DataW.trod enc prog W 0 (λ_=>true) true fuel t cs=some x->(∀n∈DataW.weights prog t x.1,n<=reachBytes)->∃a:A,r.rep W cs a
theorem FF(b:prog.underlying t=some (.int .i64)):fX t RT.int:=by
 intro H c W a f x h _;obtain⟨n,e,_,d⟩:=DataW.trod_int b h;exact⟨n,e,d⟩
theorem zod(c:prog.underlying t=some .bool):fX t RT.bool:=by
 intro H d W a f x h _;obtain⟨b,e,_⟩:=DataW.trod_bool c h;exact⟨b,e⟩
theorem zbq(b:prog.underlying t=some .string):fX t RT.str:=by
 intro H c W a f x h d;obtain⟨s,e,rfl,_⟩:=DataW.trod_string b h;refine⟨s,e,?_⟩;have:=d s.data.toList.length (by simp[DataW.weights]);have g:s.data.toList.length=s.size:=by simp
 have:=reachBytes_lt;omega
theorem sX{H:Type}:∀{l:List (DataW H)} {d:DataW H},d∈l->∀n∈d.weights prog e,n∈DataW.weightsAll prog e l
 |x::l,d,a,n,hn=>by
  simp only[DataW.weightsAll,List.mem_append];rcases List.mem_cons.1 a with rfl|a
  . exact .inl hn
  exact .inr (sX a n hn)
theorem GD{A:Type}(n:Nat)(R:Nat->A->Prop)(h:∀i,i<n->∃x,R i x):∃l:List A,l.length=n/\∀i (hi:i<l.length),R i l[i]:=by
 induction n with
 |zero=>exact⟨[],rfl,λi hi=>aB hi (Nat.not_lt_zero _)⟩
 |succ n ih=>
  obtain⟨l,b,c⟩:=ih (λi hi=>h i (by omega));obtain⟨x,d⟩:=h n (by omega);refine⟨l++ [x],by simp[b],λi hi=>?_⟩;by_cases e:i=n
  . subst e;rw[List.getElem_append_right (by omega)];simpa using d
  have a:i<l.length:=by simp at hi;omega
  rw[List.getElem_append_left a];exact c i a
theorem FC{A:Type}{r:RT A}(E:prog.underlying t=some (.slice e))(hc:prog.cellsOf e=r.n)(hn:0<r.n)(hb:1<=prog.bytesOf e)(h:fX e r):fX t (RT.sl r):=by
 intro H a0 W X cs x hx Y;rcases open_slice E hx with⟨F,_⟩|⟨a,d,f,m,n,D,Pl,F,_,hl,_,G,u,Z⟩;exact⟨[],none,0,F,Bv _,by omega,.inl rfl⟩;simp only[if_true]at G;rw[G]at Z u;subst u;have K:=Y ((((List.range d).map D).length+((List.range (f-d)).map λj=>D (d+j)).length)*prog.bytesOf e) (by simp only[DataW.weights,E];exact List.mem_cons_self ..);have v:((List.range d).map D).length+((List.range (f-d)).map λj=>D (d+j)).length=f:=by simp;omega
 rw[v]at K;have w:f<=2^47:=by
  have:=reachBytes_lt;have p:f*1<=f*prog.bytesOf e:=Nat.mul_le_mul_left _ hb;omega
 have L:∀i,i<d->∃y:A,∃c,W.cells? 0 (a.add (i*prog.cellsOf e)) (prog.cellsOf e)=some c/\r.rep W c y:=by
  intro i s;obtain⟨c,p,z⟩:=Z i (by omega);obtain⟨y,hy⟩:=h z (λk hk=>Y k (by
   simp only[DataW.weights,E];refine List.mem_cons_of_mem _ (List.mem_append_left _ ?_);exact sX (List.mem_map.2 ⟨i,List.mem_range.2 s,rfl⟩) k hk))
  exact⟨y,c,p,hy⟩
 obtain⟨l,M,N⟩:=GD d (λi y=>∃c,W.cells? 0 (a.add (i*prog.cellsOf e)) (prog.cellsOf e)=some c/\r.rep W c y) L;subst M;refine⟨l,some a,f,F,hl,w,?_⟩;by_cases e0:l.length=0;exact .inl (List.length_eq_zero_iff.1 e0);have o:∀i (s:i<l.length),∃c,(∀j (hj:j<c.length),W.cell? (a.add (i*r.n+j))=some c[j])/\r.rep W c l[i]:=by
  intro i s;obtain⟨c,p,z⟩:=N i s;rw[hc]at p;obtain⟨_,P,Q⟩:=World.cells?_some p;refine⟨c,λj hj=>?_,z⟩;have g:=Q j (by omega);rw[add_add]at g;rw[g];exact Cz hj
 obtain⟨b,R,B⟩:=a;obtain⟨S,T,U⟩:=o 0 (by omega);have V:0<S.length:=by rw[r.len U];exact hn
 have g0:=T 0 V;have q:B=none:=by simpa[Addr.add] using World.cell?_spot g0
 subst q;have C:b<W.heap.size:=by simpa[Addr.add] using block_lt_of_cell g0
 refine .inr ⟨b,R,rfl,C,λi s=>?_⟩;obtain⟨c,p,z⟩:=o i s;refine⟨c,λj hj=>?_,z⟩;have g:=p j hj;rw[Addr.add_lit]at g;rw[Nat.add_assoc];exact g
theorem zhf{H:Type}{enc:TypeId×Value->H}{W:Wd}{c:Array Field}{a:Nat}{e:LV}{x:DataW H×List MemPlace}(l:prog.underlying t=some (.struct c))(h:DataW.trod enc prog W 0 (λ_=>true) true a t e=some x)(p:∀n∈DataW.weights prog t x.1,n<=reachBytes):
 e.length=prog.cellsOf t/\∀(i:Nat) (f:Field),c[i]?=some f->∃(n:Nat) (y:DataW H×List MemPlace),DataW.trod enc prog W 0 (λ_=>true) true n f.type ((e.drop f.offset).take (prog.cellsOf f.type))=some y/\∀k∈DataW.weights prog f.type y.1,k<=reachBytes:=by
 obtain⟨g,n,_,rfl,q,m,r⟩:=DataW.trod_struct l h;refine⟨q,λi f hi=>?_⟩;have o:=r i f hi;have s:i<c.size:=(Array.getElem?_eq_some_iff.1 hi).1;have b:i<g.length:=by omega
 rw[Cz b]at o;refine⟨n,g[i],o,λk hk=>p k ?_⟩;simp only[DataW.weights,l];refine DataW.weights_mem_each (j:=i) (t:=f.type) (d:=g[i].1) ?_ ?_ k hk;rw[List.getElem?_map,Array.getElem?_toList,hi];rfl;rw[List.getElem?_map,Cz b];rfl
theorem zew{A B:Type}{r:RT A}{q:RT B}{c d:Field}(k:prog.underlying t=some (.struct #[c,d]))(l:c.offset=0)(m:d.offset=r.n)(o:prog.cellsOf c.type=r.n)(p:prog.cellsOf d.type=q.n)(E:prog.cellsOf t=r.n+q.n)(s:fX c.type r)(u:fX d.type q):fX t (RT.prod r q):=by
 intro H v W f g x h w;obtain⟨F,i⟩:=zhf k h w;obtain⟨G,K,y,z⟩:=i 0 c rfl;obtain⟨L,M,C,D⟩:=i 1 d rfl;obtain⟨a,j⟩:=s y z;obtain⟨b,e⟩:=u C D;rw[l,o,List.drop_zero]at j;rw[m,p]at e;rw[List.take_of_length_le (by rw[List.length_drop];omega)]at e;exact⟨(a,b),g.take r.n,g.drop r.n,(List.take_append_drop _ _).symm,j,e⟩
end Go.Proofs.YtelojoopofolpaaGreat
namespace Go.Proofs.YtelojoopofolpaaGreat
open Go.ChangeShapes Go.WideShapes Go.ChangeAt Go.RowKit Go.Deep Go.Joins Go.Proofs.Tryz
variable {t:TypeId}{W w:Wd}{a e:LV}{v:Value}{b:Nat}{l:List zH}
theorem zob:fX 48 Ed:=λhf hw=>by
 obtain⟨l,a,b,e,c,d,f⟩:=FC underlying48 (by kernel_rfl) (by decide) (Jr (by kernel_rfl)) (zew underlying86 rfl rfl (by kernel_rfl) (by kernel_rfl) (by kernel_rfl) (FF underlying3) (zod underlying4)) hf hw;exact⟨l,a,b,e,Bf c d,f⟩
def zh6(N:Nat){A:Type}(t:TypeId)(r:RT A):Prop:=∀(H:Type) (enc:TypeId×Value->H) (W:Wd) (fuel:Nat) (cs:LV) (x:DataW H×List MemPlace),fuel<N->DataW.trod enc prog W 0 (λ_=>true) true fuel t cs=some x->(∀n∈DataW.weights prog t x.1,n<=reachBytes)->∃a:A,r.rep W cs a
theorem fX.of{A:Type}{r:RT A}(h:∀N,zh6 N t r):fX t r:=by
 intro H b W a c x d e;exact h (a+1) H b W a c x (Nat.lt_succ_self _) d e
theorem zk1{A:Type}{r:RT A}{e:TypeId}{N:Nat}(M:prog.underlying t=some (.slice e))(hc:prog.cellsOf e=r.n)(hn:0<r.n)(hb:1<=prog.bytesOf e)(h:zh6 N e r):zh6 (N+1) t (RT.sl r):=by
 intro H a4 W a3 cs x hN hx P;rcases DataW.trod_slice M hx with⟨Q,_⟩|⟨a,v,f,d,q,n,a5,Q,R,_,hl,_,w,z,B,_⟩;exact⟨[],none,0,Q,Bv _,by omega,.inl rfl⟩;obtain⟨S,_⟩:=B rfl;subst R;have C:=P (((d.map (·.1)).length+(q.map (·.1)).length)*prog.bytesOf e) (by simp only[DataW.weights,M];exact List.mem_cons_self ..);have m:(d.map (·.1)).length+(q.map (·.1)).length=f:=by simp;omega
 rw[m]at C;have D:f<=2^47:=by
  have:=reachBytes_lt;have p:f*1<=f*prog.bytesOf e:=Nat.mul_le_mul_left _ hb;omega
 have E:∀i,i<v->∃y:A,∃c,W.cells? 0 (a.add (i*prog.cellsOf e)) (prog.cellsOf e)=some c/\r.rep W c y:=by
  intro i u;have p:=z i u;have F:i<d.length:=by omega
  rw[Cz F,Option.bind_eq_some_iff]at p;obtain⟨c,p,G⟩:=p;obtain⟨y,hy⟩:=h _ _ _ _ _ _ (by omega) G (λk hk=>P k (by
   simp only[DataW.weights,M];refine List.mem_cons_of_mem _ (List.mem_append_left _ ?_);exact sX (List.mem_map.2 ⟨d[i],gM F,rfl⟩) k hk))
  exact⟨y,c,p,hy⟩
 obtain⟨l,T,U⟩:=GD v (λi y=>∃c,W.cells? 0 (a.add (i*prog.cellsOf e)) (prog.cellsOf e)=some c/\r.rep W c y) E;subst T;refine⟨l,some a,f,Q,hl,D,?_⟩;by_cases e0:l.length=0;exact .inl (List.length_eq_zero_iff.1 e0);have o:∀i (u:i<l.length),∃c,(∀j (hj:j<c.length),W.cell? (a.add (i*r.n+j))=some c[j])/\r.rep W c l[i]:=by
  intro i u;obtain⟨c,p,G⟩:=U i u;rw[hc]at p;obtain⟨_,V,X⟩:=World.cells?_some p;refine⟨c,λj hj=>?_,G⟩;have g:=X j (by omega);rw[add_add]at g;rw[g];exact Cz hj
 obtain⟨b,Y,K⟩:=a;obtain⟨Z,a0,a1⟩:=o 0 (by omega);have a2:0<Z.length:=by rw[r.len a1];exact hn
 have g0:=a0 0 a2;have s:K=none:=by simpa[Addr.add] using World.cell?_spot g0
 subst s;have L:b<W.heap.size:=by simpa[Addr.add] using block_lt_of_cell g0
 refine .inr ⟨b,Y,rfl,L,λi u=>?_⟩;obtain⟨c,p,G⟩:=o i u;refine⟨c,λj hj=>?_,G⟩;have g:=p j hj;rw[Addr.add_lit]at g;rw[Nat.add_assoc];exact g
theorem zdx{H:Type}{enc:TypeId×Value->H}{c:Array Field}{a:Nat}{x:DataW H×List MemPlace}(l:prog.underlying t=some (.struct c))(h:DataW.trod enc prog W 0 (λ_=>true) true a t e=some x)(p:∀n∈DataW.weights prog t x.1,n<=reachBytes):
 e.length=prog.cellsOf t/\∀(i:Nat) (f:Field),c[i]?=some f->∃(n:Nat) (y:DataW H×List MemPlace),n<a/\DataW.trod enc prog W 0 (λ_=>true) true n f.type ((e.drop f.offset).take (prog.cellsOf f.type))=some y/\∀k∈DataW.weights prog f.type y.1,k<=reachBytes:=by
 obtain⟨g,n,q,rfl,r,m,s⟩:=DataW.trod_struct l h;refine⟨r,λi f hi=>?_⟩;have o:=s i f hi;have u:i<c.size:=(Array.getElem?_eq_some_iff.1 hi).1;have b:i<g.length:=by omega
 rw[Cz b]at o;refine⟨n,g[i],by omega,o,λk hk=>p k ?_⟩;simp only[DataW.weights,l];refine DataW.weights_mem_each (j:=i) (t:=f.type) (d:=g[i].1) ?_ ?_ k hk;rw[List.getElem?_map,Array.getElem?_toList,hi];rfl;rw[List.getElem?_map,Cz b];rfl
theorem zoe{l:LV}(h:l.length=1):∃v,l= [v]:=by
 match l,h with
 |[v],_=>exact⟨v,rfl⟩
theorem zmG{o:Nat}(h:(a.drop o).take 1= [v]):a[o]?=some v:=by
 have:=congrArg (λl:LV=>l[0]?) h;simpa using this
theorem zaS{A:Type}{r:RT A}{H:Type}{enc:TypeId×Value->H}{e:Array Field}{g:LV} 
 (c:∀(i:Nat) (f:Field),e[i]?=some f->∃(n:Nat) (y:DataW H×List MemPlace),n<b/\DataW.trod enc prog W 0 (λ_=>true) true n f.type ((g.drop f.offset).take (prog.cellsOf f.type))=some y/\∀k∈DataW.weights prog f.type y.1,k<=reachBytes)
 (i:Nat) {f:Field} (j:e[i]?=some f) (l:r.n=1) (m:prog.cellsOf f.type=1) (o:zh6 b f.type r):∃(a:A) (v:Value),g[f.offset]?=some v/\r.rep W [v] a:=by
 obtain⟨n,y,p,q,s⟩:=c i f j;obtain⟨a,d⟩:=o _ _ _ _ _ _ p q s;rw[m]at d;obtain⟨v,h⟩:=zoe ((r.len d).trans l);exact⟨a,v,zmG h,h ▸ d⟩
theorem fX.f{A:Type}{r:RT A}(h:fX t r)(N:Nat):zh6 N t r:=λ_ _ _ _ _ _ _ h1 h2=>h h1 h2
theorem zO{n:Nat}(h:a.length=n+1):∃c l,a=c::l/\l.length=n:=by
 cases a with
 |nil=>simp at h
 |cons c l=>exact⟨c,l,rfl,by simpa using h⟩
def zeC:RT zH where
 n:=4
 rep w cs x:=∃a cap,cs= [.int .i64 x.op,.int .i64 x.num,.string x.name,.slice a x.args.length cap]/\Ia x/\Et w.heap.size w a x.args
 len:=by rintro w cs z ⟨_,_,rfl,_⟩;rfl
 mono:=by
  rintro w w' cs z ⟨a,cap,h1,h2,h3⟩ hw;exact⟨a,cap,h1,h2,(h3.keep hw).more hw.size⟩
theorem ziU(f:b<w.heap.size):∀(l:List zH) (off:Nat),(∀i (h:i<l.length),∃e,dS w b (off+i*4) e/\zeC.rep w e l[i])->Ou w.heap.size w b off l
 |[],off,_=>.nil b off
 |x::l,off,h=>by
  obtain⟨e,c,a,j,rfl,d,r,g,k,m⟩:=h 0 (by simp);have n:=c 0 (by simp);have o:=c 1 (by simp);have p:=c 2 (by simp);have q:=c 3 (by simp);refine .cons f (by simpa using n) (by simpa using o) (by simpa using p) (by simpa using q) d.1 d.2.1 d.2.2.1 d.2.2.2 (by simpa using k) (by simpa using m) (ziU f l (off+4) λi hi=>?_);have:=h (i+1) (by simpa using hi);rw[show off+(i+1)*4=off+4+i*4 by omega]at this;simpa using this
theorem zlJ{a:Ae}(h:Al zeC w a l):Et w.heap.size w a l:=by
 rcases h with rfl|⟨b,c,rfl,d,e⟩;exact⟨0,0,λh=>aB rfl h,.nil _ _⟩;exact⟨b,c,λ_=>rfl,ziU d l c e⟩
theorem fit_of{a:Ae}(h:Al zeC w a l):∀x∈l,Ia x:=by
 intro x d;obtain⟨i,c,rfl⟩:=List.getElem_of_mem d;rcases h with rfl|⟨b,e,rfl,k,f⟩;simp at c;obtain⟨m,_,a,g,_,j,_⟩:=f i c;exact j
theorem zhv:∀N,zh6 N 116 zeC
 |0=>λ_ _ _ _ _ _ h _ _=>aB h (Nat.not_lt_zero _)
 |N+1=>by
  intro H g W b v x hN y z;obtain⟨A,d⟩:=zdx underlying116 y z;have i:v.length=4:=A.trans (by kernel_rfl);have B:zh6 b 31 (RT.sl zeC):=by
   cases N with
   |zero=>
    intro H g W C v x j c e;have D:C=0:=by omega
    subst D;simp[DataW.trod]at c
   |succ M=>exact λ_ _ _ _ _ _ j c e=>zk1 (N:=M) underlying31 (by kernel_rfl) (by decide) (Jr (by kernel_rfl)) (λ_ _ _ _ _ _ w k n=>zhv (M+1) _ _ _ _ _ _ (by omega) k n) _ _ _ _ _ _ (by omega) c e
  obtain⟨o,v0,E,p,F⟩:=zaS d 0 rfl rfl (by kernel_rfl) (fX.f (FF underlying3) b);obtain⟨m,v1,G,q,K⟩:=zaS d 1 rfl rfl (by kernel_rfl) (fX.f (FF underlying3) b);obtain⟨s,v2,L,r,P⟩:=zaS d 2 rfl rfl (by kernel_rfl) (fX.f (zbq underlying9) b);obtain⟨l,v3,Q,a,t,u,j,c,e⟩:=zaS d 3 rfl rfl (by kernel_rfl) B;cases p;cases q;cases r;cases u;obtain⟨R,r0,rfl,S⟩:=zO i;obtain⟨T,r1,rfl,U⟩:=zO S;obtain⟨V,r2,rfl,X⟩:=zO U;obtain⟨Y,r3,rfl,Z⟩:=zO X;obtain rfl:=List.length_eq_zero_iff.1 Z;have g0:some R=some _:=E;have w:some T=some _:=G;have k:some V=some _:=L;have n:some Y=some _:=Q;cases g0;cases w;cases k;cases n;exact⟨.mk o m s l,a,t,rfl,⟨P,Bf j c,F,K⟩,zlJ e⟩
theorem zeP:fX 116 zeC:=fX.of zhv
theorem zl7:fX 31 (RT.sl zeC):=FC underlying31 (by kernel_rfl) (by decide) (Jr (by kernel_rfl)) zeP
def RT.via{A B:Type}(r:RT A)(f:B->A):RT B where
 n:=r.n
 rep w cs b:=r.rep w cs (f b)
 len h:=r.len h
 mono h hw:=r.mono h hw
theorem fX.via{A B:Type}{r:RT A}(h:fX t r)(f:B->A)(g:A->B)(c:∀a,f (g a)=a):fX t (r.via f):=by
 intro H d W b e x i j;obtain⟨a,k⟩:=h i j;exact⟨g a,by show r.rep W e (f (g a));rw[c];exact k⟩
theorem zd8{A B C:Type}{r:RT A}{q:RT B}{s:RT C}{d e f:Field}(o:prog.underlying t=some (.struct #[d,e,f]))(p:d.offset=0)(u:e.offset=r.n)(v:f.offset=r.n+q.n)(w:prog.cellsOf d.type=r.n)(y:prog.cellsOf e.type=q.n)(z:prog.cellsOf f.type=s.n)(S:prog.cellsOf t=r.n+(q.n+s.n))(D:fX d.type r)(E:fX e.type q)(F:fX f.type s):fX t (RT.prod r (RT.prod q s)):=by
 intro H G W k g x h K;obtain⟨T,i⟩:=zhf o h K;obtain⟨U,V,L,M⟩:=i 0 d rfl;obtain⟨X,Y,N,P⟩:=i 1 e rfl;obtain⟨Z,y2,Q,R⟩:=i 2 f rfl;obtain⟨a,l⟩:=D L M;obtain⟨b,m⟩:=E N P;obtain⟨c,j⟩:=F Q R;rw[p,w,List.drop_zero]at l;rw[u,y]at m;rw[v,z]at j;rw[List.take_of_length_le (by rw[List.length_drop];omega),<-List.drop_drop]at j;exact⟨(a,b,c),g.take r.n,g.drop r.n,(List.take_append_drop _ _).symm,l,(g.drop r.n).take q.n,(g.drop r.n).drop q.n,(List.take_append_drop _ _).symm,m,j⟩
def zmz:RT zB:=(RT.prod RT.str zeC).via λx=>(x.name,x.ex)
def zpv:RT It:=(RT.prod RT.int (RT.prod RT.str zeC)).via λx=>(x.sc,x.name,x.ex)
def zqQ:RT Ky:=(RT.prod RT.int zeC).via λx=>(x.sc,x.ex)
def zsK:RT Fd:=(RT.prod RT.str (RT.prod RT.int RT.int)).via λx=>(x.name,x.cnt,x.days)
def zsZ:RT Dg where
 n:=4
 rep w cs x:=cs= [.string x.name,.string x.meas,.int .i64 x.most,.int .i64 x.days]/\x.name.size<=140737488355328/\x.meas.size<=140737488355328
 len:=by rintro w cs z ⟨rfl,_⟩;rfl
 mono:=by rintro w w' cs z h _;exact h
theorem zl9:fX 218 zmz:=fX.via (zew underlying218 rfl rfl (by kernel_rfl) (by kernel_rfl) (by kernel_rfl) (zbq underlying9) zeP) _ (λa=>⟨a.1,a.2⟩) (λ_=>rfl)
theorem zn8:fX 118 zpv:=fX.via (zd8 underlying118 rfl rfl rfl (by kernel_rfl) (by kernel_rfl) (by kernel_rfl) (by kernel_rfl) (FF underlying3) (zbq underlying9) zeP) _ (λa=>⟨a.1,a.2.1,a.2.2⟩) (λ_=>rfl)
theorem zoc:fX 120 zqQ:=fX.via (zew underlying120 rfl rfl (by kernel_rfl) (by kernel_rfl) (by kernel_rfl) (FF underlying3) zeP) _ (λa=>⟨a.1,a.2⟩) (λ_=>rfl)
theorem zpS:fX 307 zsK:=fX.via (zd8 underlying307 rfl rfl rfl (by kernel_rfl) (by kernel_rfl) (by kernel_rfl) (by kernel_rfl) (zbq underlying9) (FF underlying3) (FF underlying3)) _ (λa=>⟨a.1,a.2.1,a.2.2⟩) (λ_=>rfl)
theorem zpT:fX 305 zsZ:=by
 intro H i W a j x k n;obtain⟨p,b⟩:=zdx underlying305 k n;have c:j.length=4:=p.trans (by kernel_rfl);obtain⟨o,N,q,d,r⟩:=zaS b 0 rfl rfl (by kernel_rfl) (fX.f (zbq underlying9) a);obtain⟨m,P,t,e,u⟩:=zaS b 1 rfl rfl (by kernel_rfl) (fX.f (zbq underlying9) a);obtain⟨s,Q,v,g,R⟩:=zaS b 2 rfl rfl (by kernel_rfl) (fX.f (FF underlying3) a);obtain⟨l,S,w,h,T⟩:=zaS b 3 rfl rfl (by kernel_rfl) (fX.f (FF underlying3) a);cases d;cases e;cases g;cases h;obtain⟨y,U,rfl,z⟩:=zO c;obtain⟨A,V,rfl,B⟩:=zO z;obtain⟨C,X,rfl,D⟩:=zO B;obtain⟨E,Y,rfl,F⟩:=zO D;obtain rfl:=List.length_eq_zero_iff.1 F;have G:some y=some _:=q;have K:some A=some _:=t;have L:some C=some _:=v;have M:some E=some _:=w;cases G;cases K;cases L;cases M;exact⟨⟨o,m,s,l⟩,rfl,r,u⟩
theorem dS.right{a:Nat}{c d:LV}(h:dS w b a (c++d)):dS w b (a+c.length) d:=λj hj=>by
 have:=h (c.length+j) (by simp;omega);rw[List.getElem_append_right (by omega)]at this;rw[Nat.add_assoc];simpa using this
theorem zjQ{c:Nat}{x:zH}(h:dS w b c e)(f:zeC.rep w e x):Sr w.heap.size w b c x:=by
 obtain⟨a,d,rfl,g,i⟩:=f;have j:=h 0 (by simp);have k:=h 1 (by simp);have l:=h 2 (by simp);have m:=h 3 (by simp);exact⟨a,d,⟨by simpa using j,by simpa using k,by simpa using l,by simpa using m⟩,g,i⟩
theorem zez{X:Type}{r:RT X}{d:List X->Nat->X}{C:Nat->Wd->Nat->Nat->X->Prop}{a:Ae}{l:List X}(e:∀i (h:i<l.length),d l i=l[i])(g:∀b c f x,dS w b c f->r.rep w f x->C w.heap.size w b c x)(j:l.length<=2^47)(h:Al r w a l):Pk r.n d C w.heap.size w a l:=by
 refine⟨j,?_⟩;rcases h with h|⟨b,c,k,m,o⟩;exact .inl h;refine .inr ⟨b,c,k,m,λi hi=>?_⟩;obtain⟨f,p,q⟩:=o i hi;rw[e i hi];exact g _ _ _ _ p q
theorem zhH{X:Type}(l:List X)(i:Nat)(h:i<l.length)(d:X):l.getD i d=l[i]:=by
 rw[Cr,Cz h];rfl
theorem zqR(w:Wd)(b a:Nat)(e:LV)(x:zB)(h:dS w b a e)(f:zmz.rep w e x):Is w.heap.size w b a x:=by
 obtain⟨c,d,rfl,⟨rfl,g⟩,i⟩:=f;have j:=h 0 (by simp);exact⟨by simpa using j,g,zjQ h.right i⟩
theorem zrq(w:Wd)(b a:Nat)(f:LV)(x:It)(h:dS w b a f)(g:zpv.rep w f x):Zs w.heap.size w b a x:=by
 obtain⟨c,d,rfl,⟨rfl,i⟩,m,n,rfl,⟨rfl,e⟩,j⟩:=g;have k:=h 0 (by simp);have l:=h 1 (by simp);exact⟨by simpa using k,by simpa using l,e,i,zjQ h.right.right j⟩
theorem zrR(w:Wd)(b a:Nat)(e:LV)(x:Ky)(h:dS w b a e)(f:zqQ.rep w e x):Zt w.heap.size w b a x:=by
 obtain⟨c,d,rfl,⟨rfl,g⟩,i⟩:=f;have j:=h 0 (by simp);exact⟨by simpa using j,g,zjQ h.right i⟩
theorem zs0(w:Wd)(b a:Nat)(d:LV)(x:Dg)(h:dS w b a d)(e:zsZ.rep w d x):Ny w.heap.size w b a x:=by
 obtain⟨rfl,f,c⟩:=e;have g:=h 0 (by simp);have i:=h 1 (by simp);have j:=h 2 (by simp);have k:=h 3 (by simp);exact⟨by simpa using g,by simpa using i,by simpa using j,by simpa using k,f,c⟩
theorem zsL(w:Wd)(b a:Nat)(e:LV)(x:Fd)(h:dS w b a e)(f:zsK.rep w e x):Oa w.heap.size w b a x:=by
 obtain⟨c,d,rfl,⟨rfl,g⟩,m,n,rfl,⟨rfl,_⟩,i,_⟩:=f;subst i;have j:=h 0 (by simp);have k:=h 1 (by simp);have l:=h 2 (by simp);exact⟨by simpa using j,by simpa using k,by simpa using l,g⟩
theorem zk3:fX 28 (RT.sl zmz):=FC underlying28 (by kernel_rfl) (by decide) (Jr (by kernel_rfl)) zl9
theorem zl6:fX 29 (RT.sl zpv):=FC underlying29 (by kernel_rfl) (by decide) (Jr (by kernel_rfl)) zn8
theorem zl8:fX 30 (RT.sl zqQ):=FC underlying30 (by kernel_rfl) (by decide) (Jr (by kernel_rfl)) zoc
theorem zoa:fX 32 (RT.sl zsZ):=FC underlying32 (by kernel_rfl) (by decide) (Jr (by kernel_rfl)) zpT
theorem zn9:fX 33 (RT.sl zsK):=FC underlying33 (by kernel_rfl) (by decide) (Jr (by kernel_rfl)) zpS
theorem znf{H:Type}{enc:TypeId×Value->H}{r:Reach}{b0:Nat}{d:DataW H}{p:List MemPlace}(hv:Value.okWide prog W r b0 35 v)(h:DataW.Trod enc prog W 0 (λ_=>true) true 35 v d p)(hw:∀n∈DataW.weights prog 35 d,n<=reachBytes):
 ∃(c:Ad) (q:Bd),v=.agg (Wb c q)/\(c.cs.length<=q.cc/\q.cc<=9223372036854775807)/\Kb W.heap.size W c q:=by
 obtain⟨S,rfl,_⟩:=okWide_struct underlying35 hv;obtain⟨a,T⟩:=h;obtain⟨hl,b⟩:=zdx underlying35 T hw;have e:S.toList.length=14:=hl.trans (by kernel_rfl);obtain⟨l,j⟩:=aT S.toList;replace b:=j ▸ b;rw[<-j]at e;obtain⟨x0,v0,e0,U,w0⟩:=zaS b 0 rfl rfl (by kernel_rfl) (fX.f (FF underlying3) a);obtain⟨x1,v1,e1,V,w1⟩:=zaS b 1 rfl rfl (by kernel_rfl) (fX.f (FF underlying3) a);obtain⟨x2,v2,e2,X,w2⟩:=zaS b 2 rfl rfl (by kernel_rfl) (fX.f (FF underlying3) a);obtain⟨x3,v3,e3,Y,w3⟩:=zaS b 3 rfl rfl (by kernel_rfl) (fX.f (FF underlying3) a);obtain⟨x4,v4,e4,Z,w4⟩:=zaS b 4 rfl rfl (by kernel_rfl) (fX.f (FF underlying3) a);obtain⟨x5,v5,e5,a0,w5⟩:=zaS b 5 rfl rfl (by kernel_rfl) (fX.f (FF underlying3) a);obtain⟨x6,v6,e6,a1,w6⟩:=zaS b 6 rfl rfl (by kernel_rfl) (fX.f (FF underlying3) a);obtain⟨x7,v7,e7,a7,p7,a2,k,m,a3⟩:=zaS b 7 rfl rfl (by kernel_rfl) (fX.f zk3 a);obtain⟨x8,v8,e8,a8,p8,a4,a5,a6,b1⟩:=zaS b 8 rfl rfl (by kernel_rfl) (fX.f zl6 a);obtain⟨x9,v9,e9,a9,p9,b2,b3,b4,b5⟩:=zaS b 9 rfl rfl (by kernel_rfl) (fX.f zl8 a);obtain⟨o,f3,b6,s,t,u,w,x,g⟩:=zaS b 10 rfl rfl (by kernel_rfl) (fX.f zl7 a);obtain⟨y,f4,b7,z,A,B,C,D,E⟩:=zaS b 11 rfl rfl (by kernel_rfl) (fX.f zoa a);obtain⟨F,f5,b8,G,K,L,M,N,P⟩:=zaS b 12 rfl rfl (by kernel_rfl) (fX.f zn9 a);obtain⟨Q,f6,b9,R,f7⟩:=zaS b 13 rfl rfl (by kernel_rfl) (fX.f (FF underlying3) a);cases U;cases V;cases X;cases Y;cases Z;cases a0;cases a1;cases a2;cases a4;cases b2;cases u;cases B;cases L;cases R;obtain⟨c0,r0,rfl,k0⟩:=zO e;obtain⟨c1,r1,rfl,k1⟩:=zO k0;obtain⟨c2,r2,rfl,k2⟩:=zO k1;obtain⟨c3,r3,rfl,k3⟩:=zO k2;obtain⟨c4,r4,rfl,k4⟩:=zO k3;obtain⟨c5,r5,rfl,k5⟩:=zO k4;obtain⟨c6,r6,rfl,k6⟩:=zO k5;obtain⟨c7,r7,rfl,k7⟩:=zO k6;obtain⟨c8,r8,rfl,k8⟩:=zO k7;obtain⟨c9,r9,rfl,k9⟩:=zO k8;obtain⟨d0,f8,rfl,d1⟩:=zO k9;obtain⟨d2,f9,rfl,d3⟩:=zO d1;obtain⟨d4,h0,rfl,d5⟩:=zO d3;obtain⟨d6,h1,rfl,d7⟩:=zO d5;obtain rfl:=List.length_eq_zero_iff.1 d7;have g0:some c0=some _:=e0;have g1:some c1=some _:=e1;have g2:some c2=some _:=e2;have g3:some c3=some _:=e3;have g4:some c4=some _:=e4;have g5:some c5=some _:=e5;have g6:some c6=some _:=e6;have g7:some c7=some _:=e7;have g8:some c8=some _:=e8;have g9:some c9=some _:=e9;have d8:some d0=some _:=b6;have d9:some d2=some _:=b7;have f0:some d4=some _:=b8;have f1:some d6=some _:=b9;cases g0;cases g1;cases g2;cases g3;cases g4;cases g5;cases g6;cases g7;cases g8;cases g9;cases d8;cases d9;cases f0;cases f1;have f2:S=Wb ⟨x0,x1,x2,x3,x4,x5,x6,x7,x8,x9,o,y,F,Q⟩ ⟨a7,p7,a8,p8,a9,p9,s,t,z,A,G,K⟩:=by
  cases S;exact congrArg Array.mk j.symm
 exact⟨⟨x0,x1,x2,x3,x4,x5,x6,x7,x8,x9,o,y,F,Q⟩,⟨a7,p7,a8,p8,a9,p9,s,t,z,A,G,K⟩,by rw[f2],⟨k,Bf m (by decide)⟩,
  ⟨zez (λi h=>zhH _ _ h _) (zqR W) (Bf k m) a3,zez (λi h=>zhH _ _ h _) (zrq W) (Bf a5 a6) b1,zez (λi h=>zhH _ _ h _) (zrR W) (Bf b3 b4) b5,zlJ g,Bf w x,fit_of g,zez (λi h=>zhH _ _ h _) (zs0 W) (Bf C D) E,zez (λi h=>zhH _ _ h _) (zsL W) (Bf M N) P⟩⟩
theorem zpR:fX 163 (RT.sl Sa):=
 FC underlying163 (by kernel_rfl) (by decide) (Jr (by kernel_rfl)) (zew underlying204 rfl rfl (by kernel_rfl) (by kernel_rfl) (by kernel_rfl) (FF underlying3) (FF underlying3))
theorem zn7:fX 165 Nc:=by
 intro H f W e p x g h;obtain⟨⟨s,n,l⟩,c,d,rfl,⟨rfl,i⟩,q,r,rfl,⟨rfl,j⟩,a,b,rfl,k,m,o⟩:=zd8 underlying165 rfl rfl rfl (by kernel_rfl) (by kernel_rfl) (by kernel_rfl) (by kernel_rfl) (zbq underlying9) (FF underlying3) zpR g h;exact⟨⟨s,n,l⟩,a,b,rfl,i,j,Bf k m,o⟩
theorem zpU:fX 167 Mk:=by
 intro H b W a i x e f;obtain⟨⟨s,n⟩,c,d,rfl,⟨rfl,g⟩,rfl,h⟩:=zew underlying167 rfl rfl (by kernel_rfl) (by kernel_rfl) (by kernel_rfl) (zbq underlying9) (zbq underlying9) e f;exact⟨⟨s,n⟩,rfl,g,h⟩
theorem zk2:fX 112 Hi:=by
 intro H g W a t x D E;obtain⟨F,b⟩:=zdx underlying112 D E;have j:t.length=9:=F.trans (by kernel_rfl);obtain⟨G,v0,K,k,L⟩:=zaS b 0 rfl rfl (by kernel_rfl) (fX.f (zbq underlying9) a);obtain⟨M,v1,N,l,P⟩:=zaS b 1 rfl rfl (by kernel_rfl) (fX.f (zbq underlying9) a);obtain⟨Q,v2,R,o,S⟩:=zaS b 2 rfl rfl (by kernel_rfl) (fX.f (zbq underlying9) a);obtain⟨T,v3,U,p,V⟩:=zaS b 3 rfl rfl (by kernel_rfl) (fX.f (FF underlying3) a);obtain⟨X,v4,Y,q,Z⟩:=zaS b 4 rfl rfl (by kernel_rfl) (fX.f (FF underlying3) a);obtain⟨x5,v5,e5,r,w5⟩:=zaS b 5 rfl rfl (by kernel_rfl) (fX.f (zbq underlying9) a);obtain⟨n6,y6,_,d,_⟩:=b 6 _ rfl;have u:DataW.trod g prog W 0 (λ_=>true) true n6 110 ((t.drop 6).take (prog.cellsOf 110))=some y6:=d;rw[show prog.cellsOf 110=3 by kernel_rfl]at u;obtain⟨xs,m,_,ex,v,a0,s⟩:=DataW.trod_array underlying110 u;cases k;cases l;cases o;cases p;cases q;cases r;obtain⟨c0,r0,rfl,k0⟩:=zO j;obtain⟨c1,r1,rfl,k1⟩:=zO k0;obtain⟨c2,r2,rfl,k2⟩:=zO k1;obtain⟨c3,r3,rfl,k3⟩:=zO k2;obtain⟨c4,r4,rfl,k4⟩:=zO k3;obtain⟨c5,r5,rfl,k5⟩:=zO k4;obtain⟨w,r6,rfl,k6⟩:=zO k5;obtain⟨y,r7,rfl,k7⟩:=zO k6;obtain⟨z,r8,rfl,k8⟩:=zO k7;obtain rfl:=List.length_eq_zero_iff.1 k8;have g0:some c0=some _:=K;have g1:some c1=some _:=N;have g2:some c2=some _:=R;have g3:some c3=some _:=U;have g4:some c4=some _:=Y;have g5:some c5=some _:=e5;cases g0;cases g1;cases g2;cases g3;cases g4;cases g5;have c:∀i,i<3->∃n,((([w,y,z]:LV).drop (i*1)).take 1)= [Bn n]:=λi hi=>by
  have h:=s i hi;rw[show prog.cellsOf 3=1 by kernel_rfl,Cz (by omega)]at h;obtain⟨n,e,_⟩:=DataW.trod_int underlying3 h;exact⟨n,e⟩
 obtain⟨A,z0⟩:=c 0 (by omega);obtain⟨B,z1⟩:=c 1 (by omega);obtain⟨C,z2⟩:=c 2 (by omega);have q0: [w]= [Bn A]:=z0;have q1: [y]= [Bn B]:=z1;have q2: [z]= [Bn C]:=z2;cases q0;cases q1;cases q2;exact⟨⟨G,M,Q,T,X,x5,A,B,C⟩,rfl,⟨L,P,S,w5⟩,V,Z⟩
theorem zpQ:fX 23 (RT.sl Nc):=FC underlying23 (by kernel_rfl) (by decide) (Jr (by kernel_rfl)) zn7
theorem zpP:fX 24 (RT.sl Mk):=FC underlying24 (by kernel_rfl) (by decide) (Jr (by kernel_rfl)) zpU
theorem zpO:fX 25 (RT.sl Hi):=FC underlying25 (by kernel_rfl) (by decide) (Jr (by kernel_rfl)) zk2
theorem zpV{H:Type}{enc:TypeId×Value->H}{r:Reach}{D:Nat}{d:DataW H}{p:List MemPlace}(E:Value.okWide prog W r D 27 v)(h:DataW.Trod enc prog W 0 (λ_=>true) true 27 v d p)(F:∀n∈DataW.weights prog 27 d,n<=reachBytes):
 ∃(t:At) (za:Ae) (zc:Nat) (aa:Ae) (ac:Nat) (fa:Ae) (fc:Nat),v=Az t za zc aa ac fa fc/\((t.zn.length<=zc/\zc<=2^47/\t.ai.length<=ac/\ac<=2^47)/\t.fs.length<=fc/\fc<=2^47)/\Al Nc W za t.zn/\Al Mk W aa t.ai/\Al Hi W fa t.fs:=by
 try delta Ay Az
 obtain⟨a,rfl,_⟩:=okWide_struct underlying27 E;obtain⟨M,G⟩:=h;obtain⟨⟨b,f,g⟩,c,q,e,⟨i,j,rfl,k,l,m⟩,N,P,rfl,⟨o,s,rfl,u,w,x⟩,y,z,rfl,A,B,C⟩:=zd8 underlying27 rfl rfl rfl (by kernel_rfl) (by kernel_rfl) (by kernel_rfl) (by kernel_rfl) zpQ zpP zpO G F;have K:a.toList= [.slice i b.length j,.slice o f.length s,.slice y g.length z]:=e;have L:a=#[.slice i b.length j,.slice o f.length s,.slice y g.length z]:=by cases a;simpa using K
 subst L;exact⟨⟨b,f,g⟩,i,j,o,s,y,z,rfl,⟨⟨k,l,u,w⟩,A,B⟩,m,x,C⟩
end Go.Proofs.YtelojoopofolpaaGreat
