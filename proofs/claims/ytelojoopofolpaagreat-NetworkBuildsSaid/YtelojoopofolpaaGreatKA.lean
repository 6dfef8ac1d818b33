/- a part of the proof -/
import Derived.Test.YtelojoopofolpaaGreatK4
import Derived.Test.YtelojoopofolpaaGreatH1
set_option linter.all false
set_option maxRecDepth 100000
set_option maxHeartbeats 3000000
namespace Go.Proofs.YtelojoopofolpaaGreat
open Go.RowKit Go.Sort Go.Proofs.Tryz
variable {b c cap g i k lo m n:Nat}{u v v1 v2:Value}{d w w':Wd}{r:Option Nat}{a xs:LV}{L:LI}{o:Obj}
theorem cE{x:Int}(h:0<=x/\x<n)(a:n<=2^47):(Lit.int .i64 x).wf=true:=by
 have e:=Wm x;rwa [show wrap64 x=x by unfold wrap64;omega]at e
def Wv(n:Nat)(L:LI):Prop:=L.length<=n/\∀x∈L,0<=x/\x<n
def Km(lo n m:Nat)(u:Value)(w:Wd):Prop:=∃L:LI,L.length<=m/\(∀x∈L,0<=x/\x<(n:Int))/\w.ownsRow lo 3 1 u L.length (L.map (Value.int .i64))
def JO(lo n:Nat)(v:Value)(k:Nat)(w:Wd):Prop:=∃LL:LV,LL.length=k/\w.ownsRow lo 22 1 v k LL/\∀u∈LL,Km lo n n u w
def Tw(n:Nat)(v:Value)(w:Wd):Prop:=∃a cap,v=.slice a n cap/\(n=0\/∃g,a=some (aD g 0)/\g<w.heap.size/\∀i,i<n->∃(ra:Ae) (L:LI) (rc:Nat),w.cell? (aD g i)=some (.slice ra L.length rc)/\Wv n L/\Al RT.int w ra L)
theorem Tw.below(h:Tw n v w)(b:Bw w w'):Tw n v w':=by
 obtain⟨a,c,e,h⟩:=h;refine⟨a,c,e,h.imp_right λ⟨g,h1,h2,h3⟩=>⟨g,h1,As h2 b.size,λi hi=>?_⟩⟩;obtain⟨d,L,f,j,k,l⟩:=h3 i hi;exact⟨d,L,f,zD j h2 b,k,l.below b⟩
theorem Km.keep(h:Km lo n m u w)(a:w.grownBy w' r)(b:u.ownBlock=none\/u.ownBlock≠r):Km lo n m u w':=by
 obtain⟨L,c,d,e⟩:=h;exact⟨L,c,d,e.kept a b⟩
theorem Km.call(h:Km lo n m u w)(a:Bw w w'):Km lo n m u w':=h.keep (Sj (r:=none) a) (by cases u.ownBlock <;> simp)
theorem Km.mono{a:Nat}(h:Km lo n m u w)(e:a<=lo)(f:m<=b):Km a n b u w:=by
 obtain⟨L,i,d,c⟩:=h;exact⟨L,by omega,d,c.1,c.2.imp_right λ⟨g,cap,cur,h4,h5,h6⟩=>⟨g,cap,cur,h4,by omega,h6⟩⟩
theorem zx5{a:Nat}{e f:TypeId}{s r:Nat}{j:LV}(h:w.ownsRow a e s u n xs)(k:w.ownsRow b f r v m j)(d:e≠f):u.ownBlock=none\/u.ownBlock≠v.ownBlock:=by
 rcases h.2 with⟨rfl,_⟩|⟨g,_,l,rfl,_,o,_⟩;exact .inl rfl;rcases k.2 with⟨rfl,_⟩|⟨p,_,i,rfl,_,c,_⟩;exact .inr (by simp[Value.ownBlock]);refine .inr λe=>?_;obtain rfl:g=p:=by simpa[Value.ownBlock] using e
 rw[o]at c;simp at c;exact d c.2
theorem Km.app{x:Nat}{b:Ae}(g:L.length<=m)(e:∀x∈L,0<=x/\x<(n:Int))(h:x<n)(f:d.ownsRow lo 3 1 (.slice b (L.length+1) c) (L.length+1) (L.map (Value.int .i64)++ [Bn (x:Nat)])):Km lo n (m+1) (.slice b (L.length+1) c) d:=by
 refine⟨L++ [(x:Int)],by rw[Gh];simp;omega,λy a=>?_,by simpa using f⟩;rcases List.mem_append.1 a with a|a;exact e y a;obtain rfl:=List.mem_singleton.1 a;omega
theorem JO.app(f:a.length=k)(h:w.ownsRow lo 22 1 v k a)(i:∀u∈a,Km lo n n u w)(e:Km lo n n u w)(j:d.ownsRow lo 22 1 (Hy g 0 (k+1) c) (k+1) (a++ [u]))(l:(w.alloc (.cells [u].toArray 22)).grownBy d v.ownBlock):JO lo n (Hy g 0 (k+1) c) (k+1) d:=by
 have K:∀u,Km lo n n u w->Km lo n n u d:=λu e=>(e.call (J _ _)).keep l (by
  obtain⟨_,_,_,q⟩:=e;exact zx5 q h (by decide))
 refine⟨a++ [u],by simp[f],j,λy b=>?_⟩;rcases List.mem_append.1 b with b|b;exact K y (i y b);obtain rfl:=List.mem_singleton.1 b;exact K _ e
theorem JO.nil(lo n:Nat)(w:Wd):JO lo n Hn 0 w:=⟨[],rfl,World.ownsRow_nil ..,λu hu=>by cases hu⟩
section
variable {lo n k:Nat} {v:Value} {w w':Wd} (S:JO lo n v k w)
include S
theorem JO.call(a:Bw w w'):JO lo n v k w':=by
 obtain⟨b,c,d,e⟩:=S;exact⟨b,c,d.kept (Sj (r:=none) a) (by cases v.ownBlock <;> simp),λu hu=>(e u hu).call a⟩
theorem JO.at(h:k=n)(l:n<=2^47):Tw n v w:=by
 subst h;obtain⟨m,B,o,p⟩:=S;obtain⟨a,d,rfl,C,D,q⟩:=Sw o;refine⟨a,d,rfl,q.imp_right λ⟨g,h7,h8,h9,hc⟩=>⟨g,h7,h9,λi hi=>?_⟩⟩;have c:i<m.length:=by omega
 obtain⟨L,r,f,s⟩:=p _ (gM c);obtain⟨t,u,e,E,F,x⟩:=Sw s;refine⟨t,L,u,(hc i _ (Cz c)).trans (by rw[e]),⟨r,f⟩,?_⟩;rcases x with y|⟨b,rfl,G,z,A⟩;exact .inl (List.eq_nil_of_length_eq_zero y);refine .inr ⟨b,0,rfl,z,λj hj=>⟨[Bn L[j]],λi hi=>?_,rfl,cE (f _ (gM hj)) l⟩⟩;obtain rfl:i=0:=by simpa using hi
 have:=A j (Bn L[j]) (by simp[hj]);simpa[RT.int] using this
end
theorem Xi:EI 81 22 Hn 1 24:=⟨underlying81,by kernel_rfl,rfl,by decide⟩
def aC(n:Nat)(v:Value)(w:Wd):Prop:=∃a cap,v=.slice a n cap/\(n=0\/∃g,a=some (aD g 0)/\g<w.heap.size/\∀i,i<n->∃b:Bool,w.cell? (aD g i)=some (.bool b))
theorem aC.below(h:aC n v w)(c:Bw w w'):aC n v w':=by
 obtain⟨a,b,e,h⟩:=h;refine⟨a,b,e,h.imp_right λ⟨g,h1,h2,h3⟩=>⟨g,h1,As h2 c.size,λi hi=>?_⟩⟩;obtain⟨x,d⟩:=h3 i hi;exact⟨x,zD d h2 c⟩
def Rl(w:Wd)(g n:Nat):Prop:=∃l:List Bool,l.length=n/\w.heap[g]?=some (.cells (l.map Value.bool).toArray 4 (0,0))
theorem Rl.at(h:Rl w g n):aC n (Hy g 0 n n) w:=by
 obtain⟨l,rfl,h⟩:=h;exact⟨_,_,rfl,.inr ⟨g,rfl,Ag h,λi hi=>⟨l[i],zm h (by simp[hi])⟩⟩⟩
theorem Rl.set(h:Rl w g n)(i:Nat)(b:Bool):Rl (w.setCell (aD g i) (.bool b)) g n:=by
 obtain⟨l,rfl,h⟩:=h;refine⟨l.set i b,by simp,?_⟩;rw[zg h];simp
theorem Rl.cell(h:Rl w g n)(a:m<n):∃b:Bool,w.cell? (aD g m)=some (.bool b)/\w.frozen? (aD g m)=false/\g<w.heap.size:=by
 obtain⟨l,rfl,h⟩:=h;exact⟨l[m],zm h (by simp[a]),zQ h,Ag h⟩
theorem sA(v:Value)(n:Nat):madeCells #[v] n=(List.replicate n v).toArray:=by
 apply Array.ext;simp[size_madeCells];intro i a b;simp[madeCells,Nat.mod_one]
def Mz(x:Int×Bool):LV:= [.int .i64 x.1,.bool x.2]
def Hj(lo:Nat)(v:Value)(d:Ai)(w:Wd):Prop:=w.ownsRow lo 86 2 v d.length (d.map Mz).flatten
theorem Hj.call{d:Ai}(h:Hj lo v d w)(a:Bw w w'):Hj lo v d w':=World.ownsRow.kept h (Sj (r:=none) a) (by cases v.ownBlock <;> simp)
theorem EH{d:Ai}:∀c∈d.map Mz,c.length=2:=λc hc=>by
 obtain⟨x,_,rfl⟩:=List.mem_map.1 hc;rfl
theorem sD(d:Ai):(d.map Mz).flatten.length=d.length*2:=by
 induction d with
 |nil=>rfl
 |cons x d ih=>rw[List.map_cons,List.flatten_cons,Gh,ih,List.length_cons];simp[Mz];omega
theorem EJ{d:Ai}(h:i<d.length):(d.map Mz)[i]'(by simpa using h)= [Bn (Cm d i).1,.bool (Cm d i).2]:=by
 simp[Mz,Cm,Cr,Cz h]
theorem Hj.at{d:Ai}(h:Hj lo v d w)(f:∀x∈d,(Lit.int .i64 x.1).wf=true):∃a b,v=.slice a d.length b/\(d.length<=b/\b<=9223372036854775807)/\Al Ei w a d:=by
 obtain⟨a,b,rfl,k,l,m⟩:=Sw h;refine⟨a,b,rfl,⟨k,l⟩,?_⟩;rcases m with o|⟨g,rfl,r,p,q⟩;exact .inl (List.eq_nil_of_length_eq_zero o);refine .inr ⟨g,0,rfl,p,λi hi=>⟨[Bn (Cm d i).1,.bool (Cm d i).2],λj hj=>?_,?_⟩⟩;rw[Nat.zero_add];refine q _ _ ?_;show(d.map Mz).flatten[i*2+j]?=_;rw[Zy (n:=2) (d.map Mz) EH i (by simpa using hi) j (by simpa using hj),EJ hi];exact Cz hj;have e:d[i]=Cm d i:=by simp[Cm,Cr,Cz hi]
 have c:=f _ (gM hi);rw[e]at c ⊢;exact⟨[_], [_],rfl,⟨rfl,c⟩,rfl⟩
theorem Hj.sets{w a:Wd}{d:Ai}(c:b<lo)(l:LV)(i:Nat)(h:Hj lo v d a):Hj lo v d (stN b i l a):=by
 induction l generalizing i a with
 |nil=>exact h
 |cons x l ih=>exact ih (i+1) (ownsRow_setCell_below h c x)
theorem Hj.base{a:Nat}{d:Ai}(h:Hj lo v d w)(b:a<=lo):Hj a v d w:=⟨h.1,h.2.imp_right λ⟨g,cap,cur,h4,h5,h6⟩=>⟨g,cap,cur,h4,by omega,h6⟩⟩
theorem rW(h:w.grownBy w' r)(a:r=none):Bw w w':=⟨h.os,h.tape,h.output,h.size,λk hk=>h.block k hk (by rw[a];simp)⟩
theorem fF:EI 48 86 (.agg #[Bn 0,.bool false]) 2 16:=⟨underlying48,by kernel_rfl,rfl,by decide⟩
theorem EC{f a:Nat}{d:Ai}(h:eP w f a d):∀j u,(d.map Mz).flatten[j]?=some u->w.cell? (((aD f a):Addr).add j)=some u:=λj u hu=>by
 rw[Addr.add_lit];have l:j<(d.map Mz).flatten.length:=(List.getElem?_eq_some_iff.1 hu).1;have g:=sD d;have b:j/2<d.length:=by omega
 have e:=Zy (n:=2) (d.map Mz) EH (j/2) (by simpa using b) (j%2) (Nat.mod_lt _ (by decide));rw[show j/2*2+j%2=j by omega,EJ b,hu]at e;obtain⟨i,k⟩:=h (j/2) b;rcases Nat.mod_two_eq_zero_or_one j with c|c
 . rw[c]at e;obtain rfl:u=Bn (Cm d (j/2)).1:=by simpa using e
   rw[show a+j=a+j/2*2 by omega];exact i
 rw[c]at e;obtain rfl:u=.bool (Cm d (j/2)).2:=by simpa using e
 rw[show a+j=a+j/2*2+1 by omega];exact k
theorem EG{d:Ai}:∀u∈(d.map Mz).flatten,u.oneCell'=true:=λu a=>by
 obtain⟨c,b,a⟩:=List.mem_flatten.1 a;obtain⟨x,_,rfl⟩:=List.mem_map.1 b;simp[Mz]at a
 rcases a with rfl|rfl <;> rfl
theorem Yi{e:Func}{a:Array Value}{W:Wd}{v0 v3 v4 g h y:Value}{f:Nat×Nat}(i:e.results=#[.cell 6 50,.tmp 7])(k:a.getD 6 undef=hZ b 0)(l:a.getD 7 undef=y) 
 (q:W.heap[b]?=some (.cells #[v0,v1,v2,v3,v4,g,h] 50 f)):(results e a).run prog W=.ok (.tuple #[.agg #[v0,v1,v2,v3,v4,g,h],y]) W:=by
 have c:a[6]?.getD undef=hZ b 0:=by simpa using k
 have d:a[7]?.getD undef=y:=by simpa using l
 simp[results,i,go_sem,c,d,zm (j:=0) q rfl,zm (j:=1) q rfl,zm (j:=2) q rfl,zm (j:=3) q rfl,zm (j:=4) q rfl,zm (j:=5) q rfl,zm (j:=6) q rfl]
def cK(t:At)(c:Ad)(d:Ai)(x1 x2:Int)(s1 s2:BA)(x5 x6:Int):Prop:=Bk t c d=0/\Zp t c d= []/\x1=(Bm t c d).1/\x2=(Bm t c d).2/\s1=(Aa t.fs (fstN d)).fq/\s2=(Aa t.fs (lstN d)).to/\x5=Wg t c d/\x6=Xc t c d
def Iy(t:At)(c:Ad)(lo:Nat)(w:Wd)(cs:LV):Prop:=∃(da:Ae) (d:Ai) (dc:Nat) (x1 x2:Int) (s1 s2:BA) (x5 x6:Int),cs= [.slice da d.length dc,.int .i64 x1,.int .i64 x2,.string s1,.string s2,.int .i64 x5,.int .i64 x6]/\cK t c d x1 x2 s1 s2 x5 x6/\Hj lo (.slice da d.length dc) d w
def Kd(t:At)(c:Ad)(lo:Nat)(v:Value)(n:Nat)(w:Wd):Prop:=∃LL:List (LV),LL.length=n/\w.ownsRow lo 50 7 v n LL.flatten/\∀cs∈LL,Iy t c lo w cs
theorem Iy.keep{t:At}{c:Ad}(h:Iy t c lo w a)(f:w.ownsRow lo 50 7 v k xs)(g:w.grownBy w' v.ownBlock):Iy t c lo w' a:=by
 obtain⟨i,d,j,l,m,n,o,p,q,e,r,b⟩:=h;exact⟨i,d,j,l,m,n,o,p,q,e,r,World.ownsRow.kept b g (zx5 b f (by decide))⟩
theorem Iy.call{t:At}{c:Ad}(h:Iy t c lo w a)(b:Bw w w'):Iy t c lo w' a:=by
 obtain⟨f,d,g,i,j,k,l,m,n,e,o,p⟩:=h;exact⟨f,d,g,i,j,k,l,m,n,e,o,p.call b⟩
theorem Kd.nil(t:At)(c:Ad)(lo:Nat)(w:Wd):Kd t c lo Hn 0 w:=⟨[],rfl,World.ownsRow_nil ..,λcs h=>by cases h⟩
theorem Kd.call{t:At}{c:Ad}(S:Kd t c lo v k w)(a:Bw w w'):Kd t c lo v k w':=by
 obtain⟨b,d,e,f⟩:=S;exact⟨b,d,e.kept (Sj (r:=none) a) (by cases v.ownBlock <;> simp),λcs hc=>(f cs hc).call a⟩
theorem Kd.app{t:At}{c:Ad}{b:List (LV)}(e:b.length=k)(f:w.ownsRow lo 50 7 v k b.flatten)(i:∀a∈b,Iy t c lo w a)(j:Iy t c lo w a) 
 (l:w'.ownsRow lo 50 7 (Hy g 0 (k+1) cap) (k+1) (b.flatten++a)) (m:(w.alloc (.cells a.toArray 50)).grownBy w' v.ownBlock):Kd t c lo (Hy g 0 (k+1) cap) (k+1) w':=by
 have K:∀a,Iy t c lo w a->Iy t c lo w' a:=λa h=>(h.call (J _ _)).keep (f.alloc _) m;refine⟨b++ [a],by simp[e],by simpa using l,λx d=>?_⟩;rcases List.mem_append.1 d with d|d;exact K x (i x d);obtain rfl:=List.mem_singleton.1 d;exact K _ j
def GR(w w':Wd)(v v':Value):Prop:=w.grownBy w' v.ownBlock/\∀b,v'.ownBlock=some b->v.ownBlock=some b\/w.heap.size<=b
theorem GR.refl(w:Wd)(v:Value):GR w w v v:=⟨⟨rfl,rfl,rfl,Bv _,λ_ _ _=>rfl⟩,λb h=>.inl h⟩
theorem GR.trans{a c:Wd}(h:GR w a v v1)(k:GR a c v1 v2):GR w c v v2:=by
 refine⟨⟨k.1.os.trans h.1.os,k.1.tape.trans h.1.tape,k.1.output.trans h.1.output,Bf h.1.size k.1.size,λb hb hne=>(k.1.block b (As hb h.1.size) λe=>?_).trans (h.1.block b hb hne)⟩,λb hb=>?_⟩;rcases h.2 b e.symm with q|q;exact hne q.symm;omega;rcases k.2 b hb with q|q;exact h.2 b q;exact .inr (Bf h.1.size q)
theorem GR.of(v:Value)(h:Bw w w'):GR w w' v v:=⟨Sj h,λb h=>.inl h⟩
theorem GR.app(a:(w.alloc o).grownBy w' v.ownBlock)(c:v.ownBlock=some g\/g=w.heap.size+1):GR w w' v (Hy g 0 k cap):=by
 refine⟨⟨a.os,a.tape,a.output,Bf (by simp) a.size,λb hb hne=>(a.block b (by simp;omega) hne).trans (heap_alloc_old w _ hb)⟩,λb hb=>?_⟩;obtain rfl:g=b:=by simpa[Value.ownBlock] using hb
 rcases c with h|h;exact .inl h;exact .inr (by omega)
def Ps(n:Nat)(wB:Wd)(ca:Ae)(cc:Nat)(L:LI)(w:Wd):Prop:=Wv n L/\(Al RT.int wB ca L\/w.ownsRow wB.heap.size 3 1 (.slice ca L.length cc) L.length (L.map (Value.int .i64)))
def Wp(lo n:Nat)(dv:Value)(d:Ai)(w:Wd):Prop:=(∀x∈d,0<=x.1/\x.1<(n:Int))/\((d= []/\dv=.slice none 0 0)\/(d≠ []/\Hj lo dv d w))
theorem Ps.at{b:Wd}{c:Ae}{d:Nat}(h:Ps n b c d L w)(f:Bw b w)(k:n<=2^47):Al RT.int w c L:=by
 rcases h.2 with q|q;exact q.below f;obtain⟨a,l,e,u,v,m⟩:=Sw q;simp only[Value.slice.injEq]at e;obtain⟨o,-,p⟩:=e;subst o p;rcases m with r|⟨g,rfl,x,s,t⟩;exact .inl (List.eq_nil_of_length_eq_zero r);refine .inr ⟨g,0,rfl,s,λi hi=>⟨[Bn L[i]],λj hj=>?_,rfl,cE (h.1.2 _ (gM hi)) k⟩⟩;obtain rfl:j=0:=by simpa using hj
 have:=t i (Bn L[i]) (by simp[hi]);simpa[RT.int] using this
structure Rm(t:At)(c:Ad)(za:Ae)(zc:Nat)(aa:Ae)(ac:Nat)(fa:Ae)(fc:Nat)(p:Bd)(wB W:Wd)(tb cb:Nat)(v0 dv:Value)(d:Ai)(ca:Ae)(cc:Nat)(L:LI)(lv:Value)(w:Wd):Prop where
 bel:Below wB.heap.size wB w
 qt:w.heap[tb]?=some (Ap t za zc aa ac fa fc)
 qc:w.heap[cb]?=some (Aj c p)
 can:Ps t.fs.length wB ca cc L w
 dut:Wp wB.heap.size t.fs.length dv d w
 gr:GR W w v0 lv
section
variable {t:At} {c:Ad} {za:Ae} {zc:Nat} {aa:Ae} {ac:Nat} {fa:Ae} {fc:Nat} {p:Bd} {wB W:Wd} {tb cb:Nat} {v0 dv:Value} {d:Ai} {ca:Ae} {cc:Nat} {L:LI} {lv lv':Value} {w w':Wd} {k:Nat} (S:Rm t c za zc aa ac fa fc p wB W tb cb v0 dv d ca cc L lv w)
include S
theorem Rm.ext(l:Kd t c wB.heap.size lv k w)(h:GR w w' lv lv'):Rm t c za zc aa ac fa fc p wB W tb cb v0 dv d ca cc L lv' w':=by
 obtain⟨r,s,i,u⟩:=l;have K:∀b o,w.heap[b]?=some o->(∀a f,o≠Obj.cells a 50 f)->w'.heap[b]?=some o:=λb o q hne=>(h.1.block b (Ag q) λe=>by
  rcases i.2 with⟨j,_⟩|⟨g,m,a,j,_,n,_⟩
  . rw[j]at e;simp[Value.ownBlock]at e
  rw[j]at e;obtain rfl:b=g:=by simpa[Value.ownBlock] using e
  rw[n]at q;exact hne _ _ (Option.some.inj q).symm).trans q
 refine⟨S.bel.grown h.1 S.bel.size λb hb=>(i.lt b hb).1,K _ _ S.qt λa f e=>?_,K _ _ S.qc λa f e=>?_,⟨S.can.1,S.can.2.imp_right λq=>q.kept h.1 (zx5 q i (by decide))⟩,⟨S.dut.1,S.dut.2.imp_right λq=>⟨q.1,World.ownsRow.kept q.2 h.1 (zx5 q.2 i (by decide))⟩⟩,S.gr.trans h⟩;simp[Ap]at e;simp[Aj]at e
theorem Rm.call(a:Kd t c wB.heap.size lv k w)(b:Bw w w'):Rm t c za zc aa ac fa fc p wB W tb cb v0 dv d ca cc L lv w':=S.ext a (GR.of lv b)
end
def Mw:Nat->Nat
 |0=>0
 |k+1=>24*(1+Mw k)
def pr(j g:Nat):Nat:=j*g
theorem ZQ(g:Nat):pr 0 g=0:=Nat.zero_mul g
theorem DT(j g:Nat):pr (j+1) g=pr j g+g:=Nat.succ_mul j g
theorem sE(g:Nat)(h:i<=n):pr i g<=pr n g:=Nat.mul_le_mul_right g h
theorem Xh:EI 39 50 (.agg #[Hn,Bn 0,Bn 0,.string ByteArray.empty,.string ByteArray.empty,Bn 0,Bn 0]) 7 88:=⟨underlying39,by kernel_rfl,by rfl,by decide⟩
theorem DR{d:Ai}(h:i<d.length):Cm d i∈d:=by
 have:Cm d i=d[i]:=by simp[Cm,Cr,Cz h]
 rw[this];exact gM h
theorem ZB{A:Type}{P:A->Prop}{L:List A}{x:A}(h:∀s∈L,P s)(b:P x):∀s∈L++ [x],P s:=λs a=>by
 rcases List.mem_append.1 a with a|a
 . exact h s a
 obtain rfl:=List.mem_singleton.1 a;exact b
theorem Hj.keepL{a:Nat}{d:Ai}(h:Hj lo v d w)(b:w.ownsRow a 50 7 u k xs)(c:(w.alloc o).grownBy w' u.ownBlock):Hj lo v d w':=
 World.ownsRow.kept (h.call (J _ o)) c (zx5 (h.call (J _ o)) (b.alloc o) (by decide))
end Go.Proofs.YtelojoopofolpaaGreat
