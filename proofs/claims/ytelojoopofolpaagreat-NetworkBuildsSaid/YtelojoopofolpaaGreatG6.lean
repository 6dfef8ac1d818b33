/- a part of the proof -/
import Derived.Test.YtelojoopofolpaaGreatG5
set_option linter.all false
set_option maxRecDepth 100000
set_option maxHeartbeats 3000000
namespace Go.Proofs.YtelojoopofolpaaGreat
open Go.RowKit Go.Sort Go.Proofs.Tryz
variable {w w':Wd}{B H b i k n:Nat}{v:Value}{p q:LI}{a c l:List (BA×zE)}{M:List (Value×Value)}{X:Nat->Prop}{x:BA×zE}{T:TypeId}{d:LV}{V:Nat->Value}
def Nw(c:Ad)(q:LI):Int:=if(Jf c).length=0 then Am q 3 else Aw q (Ci (Jf c) 0)
theorem KR(w:Wd)(s:Nat)(t:At)(c:Ad)(P:Dh)(l:Hl w s t c P)(q:LI)(a:Ae)(cap:Nat)(m:3<q.length)(x:q.length<=2^47)(n:zW w a q)(u:∀k,k<(Jf c).length->Lb q (Ci (Jf c) k))(y:(Jf c).length<=2^47):CV 108 #[hZ s 0,.slice a q.length cap] w (Nw c q):=by
 have d:=SE l.box;have F:=l.lt;obtain⟨b,z,rfl,G,f⟩:=n.cells (by omega);have H:=f 3 m;have A:=I n;have v:=I l.xs;have B:=I u;have K:(3:Int)<(q.length:Int):=by omega
 by_cases o:(Jf c).length=0
 . have p:=I (show Nw c q=Am q 3 from iP o);rw[o]at d;delta CV;go_in;go_wp2_with fail;go_loop [11] (λi=>i=Bn 0) (λ_=>0);rfl;subst hrel;go_wp2;go_ret;exact⟨ze p.1.symm,An _ _⟩
 have p:=I (show Nw c q=Aw q (Ci (Jf c) 0) from iN o);obtain⟨C,g,h,D,j⟩:=v.1.cells (by omega);have E:=I (j.at 0 (by omega));have L:(0:Int)<((Jf c).length:Int):=by omega
 rw[h]at d;delta CV;go_in;go_wp2_with fail;go_loop [11] (λi=>i=Bn 0) (λ_=>0);rfl;subst hrel;go_wp2_with fail;refine ca (tN q _ _ noX x (Ci (Jf c) 0) C g w (by simpa using E.1) (B.1 0 (by omega)) A.1) λM r=>?_;go_wp2;go_ret;exact⟨ze p.1.symm,r⟩
theorem zoz(q:LI)(b d cap:Nat)(w:Wd)(C:b<w.heap.size)(D:q.length*8<=2^47)(t:∀i,i<q.length->w.cell? (aD b (d+i))=some (Bn (Am q i))):Calls prog 253 #[Hy b d q.length cap] w λe w'=>∃g,e=.returned g/\w'.ownsRow w.heap.size 3 1 g q.length (q.map (Value.int .i64))/\g≠Hn/\Bw w w':=by
 obtain⟨v,y,o,p,r⟩:=info_parts (show(prog.info? 3).map (λi=>(i.zero,i.size,i.bytes))=some (some (Bn 0),1,8) by kernel_rfl);have E:∀(w:Wd) (a:Ae) (n c n' c':Nat),(binOp .eql 22 (.slice a n c) (.slice none n' c')).run prog w=.ok (.bool a.isNone) w:=λw a n c n' c'=>Lib.run_eql_slice_nil w _ _ a n c n' c' underlying22;have A:=I t;go_in;go_wp2_with (at_builtin;refine wpList_append_own _ rfl _ _ 22 rfl w.heap.size 3 v (Bn 0) 1 8 underlying22 y o p r rfl (by decide) _ _ _ rfl (World.ownsRow_made w #[] 0 (Bv _) (Bg _) rfl) (aD b d) q.length cap (q.map (Value.int .i64)) rfl ?qc1 ?qc2 ?qc3 ?qc4 ?qc5 ?qc6 ?_)
 case qc1=>simp
 case qc2=>
  intro j u s;have h:j<q.length:=by
   have:=(List.getElem?_eq_some_iff.1 s).1;simpa using this
  rw[Addr.add_lit];refine Lib.cell?_alloc_some _ ?_;rw[A.1 j h];have e:(q.map (Value.int .i64))[j]?=some (Bn (Am q j)):=by simp[Am,List.getD,Cz h]
  rw[e]at s;exact s
 case qc3=>intro u z;obtain⟨x,_,rfl⟩:=List.mem_map.1 z;rfl
 case qc4=>unfold maxLen;omega
 case qc5=>omega
 case qc6=>simp
 intro g F l f m;go_wp2;go_ret;refine⟨g,rfl,by simpa using l,m,?_⟩;exact((An _ w).alloc (Bv _) _).grown f (by simp) (by intro k B;simp[Value.ownBlock]at B;omega)
def Rt(k:Int)(q:LI):LI:=if k=3 then q.set 6 (Fz (Am q 6)) else q
theorem L_(k:Int)(q:LI):(Rt k q).length=q.length:=by unfold Rt;split <;> simp
theorem zrx(h:w.ownsRow B 3 1 v q.length (q.map (Value.int .i64)))(d:v≠Hn):∃g b a,v=Hy g 0 q.length b/\B<=g/\w.heap[g]?=some (.cells a 3 (0,0))/\q.length<=a.size/\∀i,i<q.length->a[i]?=some (Bn (Am q i)):=by
 rcases h.2 with⟨e,_⟩|⟨g,b,a,rfl,f,j,l,m,n,k⟩;exact aB e d;refine⟨g,b,a,rfl,f,j,by omega,λi hi=>?_⟩;have c:(a.toList.take (q.length*1))[i]?=(q.map (Value.int .i64))[i]?:=by rw[k]
 rw[List.getElem?_take_of_lt (by omega)]at c;rw[<-Array.getElem?_toList,c];simp[Am,List.getD,Cz hi]
theorem zs2{x:Int}(h:k<q.length):Am (q.set k x) i=if i=k then x else Am q i:=by
 unfold Am;rw[Cr,List.getElem?_set,Cr];by_cases e:i=k;subst e;simp[h];rw[iN (λh=>e h.symm),iN e]
theorem Y_(k:Int)(q:LI)(a:Ae)(cap:Nat)(w:Wd)(n:k=3->6<q.length)(C:q.length*8<=2^47)(s:zW w a q):Calls prog 193 #[k,.slice a q.length cap] w λe w'=>∃a' c,e=.returned (.slice a' (Rt k q).length c)/\zW w' a' (Rt k q)/\Bw w w':=by
 by_cases v:k=3
 . subst v;have B:=n rfl;obtain⟨b,x,rfl,D,o⟩:=s.cells (by omega);have E:=I o;have P:(6:Int)<(q.length:Int):=by omega
   have t:=I (show Rt 3 q=q.set 6 (Fz (Am q 6)) from rfl);go_in;go_wp2_with fail;refine(zoz q b x cap w D C E.1).mono ?_;rintro e y ⟨R,rfl,l,r,m⟩;obtain⟨g,c,z,rfl,F,d,G,f⟩:=zrx l r;have H:=I m;have K:=I f;have S:y.cell? (aD g 6)=some (Bn (Am q 6)):=zm (j:=6) d (f 6 B);have T:y.frozen? (aD g 6)=false:=by simp[World.frozen?,d]
   have L:=Ag d;have A:6<z.size:=by omega
   go_wp2_with fail;refine cb (Uc (Am q 6) y) ?_;go_wp2;go_ret;have Q:=zg (i:=6) (u:=Bn (Fz (Am q 6))) d;refine⟨some (aD g 0),c,by(show Ending.returned (Hy g 0 q.length c)=_;rw[L_]),.inr ⟨g,0,rfl,Ag Q,λi hi=>?_⟩,H.1.setCell (p:=aD g 6) F _⟩;rw[L_]at hi;rw[t.1,Nat.zero_add,zs2 B];refine zm Q ?_;rw[Array.getElem?_setIfInBounds];by_cases e:i=6;subst e;simp[A];rw[iN (λh=>e h.symm),iN e];exact K.1 i hi
 have M:=KD v
 have t:=I (show Rt k q=q from iN v);have N:=I s;go_in;go_wp2;go_ret;exact⟨a,cap,by(show Ending.returned (.slice a q.length cap)=_;rw[t.1]),by rw[t.1];exact N.1,An _ _⟩
def Jx(q:LI)(l:List zE):Nat->Int
 |0=>0
 |j+1=>Jx q l j+Aw q (Ci l j)
theorem i_{l:List zE}(h:∀i,i<l.length->jU (Aw q (Ci l i))):∀k:Nat,k<=l.length->-(1099511627776*(k:Int))<=Jx q l k/\Jx q l k<=1099511627776*(k:Int)
 |0,_=>by simp[Jx]
 |k+1,hk=>by
  obtain⟨a,b⟩:=i_ h k (by omega);obtain⟨c,d⟩:=h k (by omega);rw[Jx];omega
def qQ(c:Ad)(k:Nat)(q:LI):Int:=Jx (Rt k q) (Ra c k) (Ra c k).length
theorem zzP(d:Nat)(A:Int)(W:A=d)(X:d<=3)(w:Wd)(B:Nat)(t:At)(c:Ad)(P:Dh)(M:Hl w B t c P)(q:LI)(a:Ae)(cap:Nat)(Y:A=3->6<q.length)(Z:q.length*8<=2^47)(N:zW w a q)(hn:(Ra c d).length<=1000)(Q:∀i,i<(Ra c d).length->Lb (Rt A q) (Ci (Ra c d) i)):CV 121 #[hZ B 0,A,.slice a q.length cap] w (qQ c d q):=by
 subst W;have R:=I M;have j:=I Q;have S:=I N;clear M Q N;delta CV;go_in;go_wp2_with fail;refine(Y_ d q a cap w Y Z S.1).mono ?_;rintro e C ⟨a1,T,rfl,m,g⟩;have n:=I m;have f:=I (R.1.below g);have D:=I g;have o:(Rt d q).length<=2^47:=by rw[L_];omega
 have U:C.cell? (aD B (22+d))=some (.slice (P.ka d) (Ra c d).length (P.kc d)):=zm f.1.box (match d,X with|0,_|1,_|2,_|3,_=>rfl);have r:=f.1.lt;clear m g R S;have E:=I (show qQ c d q=Jx (Rt d q) (Ra c d) (Ra c d).length from rfl);obtain⟨p,F⟩:=aT (Rt d q);obtain⟨l,V⟩:=aT (Ra c d);have u:=I (f.1.ks d (by omega));rw[<-F]at n j E o;rw[<-V]at j E hn u U;rw[<-F];clear F V f;go_wp2_with fail;go_loopw [7,19] (λs i wr=>∃(k:Nat),k<=l.length/\i=Bn k/\s=Bn (Jx p l k)/\Af (Bw C wr)) (λ_ i _=>l.length-(intOf i).toNat);exact⟨0,Bg _,rfl,rfl,I (An _ _)⟩;obtain⟨k,G,rfl,rfl,b⟩:=hrel;by_cases h:k<l.length
 . obtain⟨fb,v,x,H,y⟩:=u.1.cells (by omega);have F0:=I ((y.kept b.1).at k h);have dr:=zj U r b.1;have a0:=As r b.1.size;have a2:=As H b.1.size;rw[x]at dr;obtain⟨a3,a4⟩:=i_ (λi hi=>Ph _ (j.1 i hi)) k G;obtain⟨a5,a6⟩:=Ph _ (j.1 k h);have K:=I (show Jx p l (k+1)=Jx p l k+Aw p (Ci l k) from rfl);clear y x;go_wp2_with fail;refine ca (tN p _ _ noX o (Ci l k) fb (v+k*3) wr F0.1 (j.1 k h) (n.1.below b.1)) λw2 z=>?_;have L:=I (Ab b.1 z);clear z;go_wp2;go_roundw
   exact⟨k+1,by omega,by go_num,by rw[K.1],L⟩;simp[intOf];omega
 obtain rfl:k=l.length:=by omega
 go_wp2;go_ret;exact⟨ze E.1.symm,Ab D.1 b.1⟩
def Ik(q:LI)(l:List (BA×zE)):Nat->LB
 |0=> []
 |j+1=>if Aw q (Eh l j).2=0 then Ik q l j++ [(Eh l j).1] else Ik q l j
theorem zrZ(h:Aw p (Eh l k).2=0):Ik p l (k+1)=Ik p l k++ [(Eh l k).1]:=iP h
theorem ztl(h:¬ Aw p (Eh l k).2=0):Ik p l (k+1)=Ik p l k:=iN h
def Wy(c:Ad)(k:Nat)(q:LI):LB:=Ik (Rt k q) (Sg c k) (Sg c k).length
theorem GE{a:Ae}(h:Zd w a l)(c:0<l.length):∃b off,a=some (aD b off)/\b<w.heap.size/\∀i,i<l.length->w.cell? (aD b (off+i*4))=some (.string (Eh l i).1)/\(Eh l i).1.size<=2^47/\zX noX w b (off+i*4+1) [(Eh l i).2]:=by
 rcases h with rfl|h;simp at c;exact h
def Tn(e:TypeId)(w w':Wd):Prop:=w.heap.size<=w'.heap.size/\∀(b:Nat) (o:Obj),(∀cs f,o≠Obj.cells cs e f)->w.heap[b]?=some o->w'.heap[b]?=some o
theorem Tn.refl(e:TypeId)(w:Wd):Tn e w w:=⟨Bv _,λ_ _ _ h=>h⟩
theorem Tn.append{e:TypeId}{a:Nat}{c:Wd}{m:LV}{o:Obj}(h:Tn e w c)(p:c.ownsRow B e a v n m)(l:(c.alloc o).grownBy w' v.ownBlock):Tn e w w':=by
 have q:c.heap.size<=w'.heap.size:=Bf (by simp) l.size;refine⟨Bf h.1 q,λb x hx hb=>?_⟩;have d:=h.2 b x hx hb;have f:=Ag d;rw[l.block b (by simp;omega) ?_];exact((World.grownBy_alloc c o none).block b f (by simp)).trans d;intro i;rcases p.2 with⟨rfl,_⟩|⟨g,r,j,rfl,_,k,_⟩;simp[Value.ownBlock]at i;simp[Value.ownBlock]at i;subst i;rw[k]at d;exact hx j (0,0) (Option.some.inj d).symm
def Yq(x:Int×Int×BA):LV:= [.int .i64 x.1,.int .i64 x.2.1,.string x.2.2]
def Je(V:List (Int×Int×BA)):LV:=V.flatMap Yq
theorem QJ:(prog.info? 126).map (λi=>(i.zero,i.size,i.bytes))=some (some (.agg #[Bn 0,Bn 0,.string ByteArray.empty]),3,32):=by kernel_rfl
def wM(w:Wd)(a:Ae)(N:LB):Prop:=N= []\/∃b cur f,a=some (aD b 0)/\w.heap[b]?=some (.cells cur 9 f)/\∀i,i<N.length->cur[i]?=some (.string (Bl N i))
def Lv(N:LB)(q:LI):Nat->LV
 |0=> []
 |k+1=>Lv N q k++ [.string (Bl N k),.int .i64 (Am q k)]
mutual
def Pm(p:Int):zE->Bool
 | .mk o n l=>if o=6 then n==p else Qo p l
def Qo(p:Int):List zE->Bool
 |[]=>false
 |x::l=>Pm p x || Qo p l
end
theorem MA{p:Int}{l:List zE}(h:k<l.length):Qo p (l.drop k)=(Pm p (Ci l k) || Qo p (l.drop (k+1))):=by rw[Xt l k h,Qo]
theorem MM(p:Int)(l:List zE):Qo p (l.drop l.length)=false:=by rw[Gk,Qo]
def rF(p:Int)(X:Nat->Prop)(f:zE):Prop:=∀(b off:Nat) (w:Wd),zX X w b off [f]->CE 90 #[.pointer (some (aD b off)),p] w (.bool (Pm p f))
theorem ML(p:Int)(X:Nat->Prop)(o n:Int)(l:List zE)(r:∀k,k<l.length->rF p X (Ci l k)):rF p X (.mk o n l):=by
 intro b x w s;obtain⟨a,y,L,z,A,B,C,q⟩:=s.one;simp only[zE.op,zE.num,zE.args]at z A B C q;have D:=I r;have E:=I q;by_cases j:o=6
 . have m:=I (show Pm p (.mk o n l)=(n==p) by rw[Pm,iP j]);subst j;go_enter func90,ntmps90;go_wp2;go_ret;exact⟨zz m.1.symm,rfl⟩
 have m:=I (show Pm p (.mk o n l)=Qo p (l.drop 0) by rw[Pm,iN j];rfl);have F:=KD j
 go_enter func90,ntmps90;go_wp2_with fail;go_loop [22] (λi=>∃k:Nat,k<=l.length/\i=Bn k/\Af (Qo p (l.drop 0)=Qo p (l.drop k))) (λi=>l.length-(intOf i).toNat);exact⟨0,Bg _,rfl,I rfl⟩;obtain⟨k,M,rfl,d⟩:=hrel;by_cases f:k<l.length
 . obtain⟨G,g,rfl,H,h⟩:=E.1.cells (by omega);have K:=I (h.at k f);have t:=MA (p:=p) f;have u:=I (d.1.trans t);go_wp2_with fail;refine cb (D.1 k f G (g+k*3) w K.1) ?_;cases v:Pm p (Ci l k)
   . have c:=I (show Qo p (l.drop 0)=Qo p (l.drop (k+1)) from u.1.trans (by rw[v];rfl));go_wp2;go_round;exact⟨k+1,by omega,by go_num,c⟩;simp[intOf];omega
   have c:=I (show Qo p (l.drop 0)=true from u.1.trans (by rw[v];rfl));go_wp2;go_ret;exact⟨zz (m.1.trans c.1).symm,rfl⟩
 obtain rfl:k=l.length:=by omega
 have c:=I (d.1.trans (MM p l));go_wp2;go_ret;exact⟨zz (m.1.trans c.1).symm,rfl⟩
theorem yD(p:Int)(X:Nat->Prop)(f:zE):rF p X f:=by
 obtain⟨m,a⟩:=aT (SizeOf.sizeOf f);induction m using Nat.strongRecOn generalizing f with
 |_ m ih=>
  subst a;obtain⟨o,n,l⟩:=f;exact ML p X o n l λk hk=>ih _ (wG hk) _ rfl
theorem vS(a:List Cy)(z:Cy)(s:BA):Ox (a++ [z]) s=if z.name=s then some z else Ox a s:=by
 unfold Ox;rw[List.reverse_append];by_cases h:z.name=s <;> simp[h]
theorem xC(l:List Bh)(z:Bh)(s:BA):Fq (l++ [z]) s=if z.code=s then some z else Fq l s:=by
 unfold Fq;rw[List.reverse_append];by_cases h:z.code=s <;> simp[h]
def Up(w0:Wd)(M:List (Value×Value))(zs:List Cy):Prop:=∀s,(Ox zs s=none->Bz M (.string s)=none)/\∀z,Ox zs s=some z->∃v,Bz M (.string s)=some v/\Iz w0 v z
theorem Up.nil(a:Wd):Up a [] []:=λs=>⟨λ_=>rfl,λz h=>by simp[Ox]at h⟩
theorem Up.put{a:Wd}{b:List Cy}(h:Up a M b)(z:Cy)(c:Iz a v z):Up a (Dd M (.string z.name) v) (b++ [z]):=by
 intro s;rw[vS,fY];by_cases e:z.name=s;rw[iP e,iP e];exact⟨(λh=>by cases h),λy hy=>⟨v,rfl,by cases hy;exact c⟩⟩;rw[iN e,iN e];exact h s
def Sn(w0:Wd)(M:List (Value×Value))(zs:List Cy)(l:List Bh):Prop:=∀s,(Fq l s=none->Bz M (.string s)=none)/\∀a,Fq l s=some a->∃v,Bz M (.string s)=some v/\Iz w0 v ((Ox zs a.zone).getD Lk)
theorem Sn.nil(a:Wd)(b:List Cy):Sn a [] b []:=λs=>⟨λ_=>rfl,λz h=>by simp[Fq]at h⟩
theorem Sn.put{b:Wd}{c:List Cy}{l:List Bh}(h:Sn b M c l)(a:Bh)(d:Iz b v ((Ox c a.zone).getD Lk)):Sn b (Dd M (.string a.code) v) c (l++ [a]):=by
 intro s;rw[xC,fY];by_cases e:a.code=s;rw[iP e,iP e];exact⟨(λh=>by cases h),λy hy=>⟨v,rfl,by cases hy;exact d⟩⟩;rw[iN e,iN e];exact h s
theorem Iz.zero(w:Wd):Iz w (.agg #[.string ByteArray.empty,Bn 0,Hn]) Lk:=⟨none,0,rfl,.inl rfl,by simp[Lk],by simp[Lk]⟩
theorem PY{d:Wd}{c:List Cy}(f:Dl prog w b .string M)(h:Up d M c)(s:BA):∃v,((Instr.lookup 156 (.map (some b)) (.string s) false).run prog w=.ok v w)/\Iz d v ((Ox c s).getD Lk):=by
 have a:=aU underlying156 underlying9 f (key:=.string s) trivial (kR _);cases e:Ox c s with
 |none=>
  rw[(h s).1 e]at a;exact⟨_,a,Iz.zero _⟩
 |some z=>
  obtain⟨v,g,i⟩:=(h s).2 z e;rw[g]at a;exact⟨v,a,i⟩
theorem yK(a:Dl prog w b .string M)(s:BA)(v:Value):∃w',(Instr.mapUpdate 156 (.map (some b)) (.string s) v).run prog w=.ok () w'/\Dl prog w' b .string (Dd M (.string s) v)/\w.grownBy w' (some b):=
 aP underlying156 underlying9 a (key:=.string s) v trivial
theorem Sn.zn{c:Wd}{t:At}(f:Dl prog w b .string M)(h:Sn c M t.zn t.ai)(g:Bw c w):Zl w b t:=by
 refine⟨M,f,λs=>⟨(h s).1,λhs=>?_⟩⟩;cases d:Fq t.ai s with
 |none=>exact aB d hs
 |some a=>
  obtain⟨v,i,j⟩:=(h s).2 a d;refine⟨v,i,?_⟩;have e:zp t s=(Ox t.zn a.zone).getD Lk:=by simp[zp,d]
  rw[e];exact j.below g
theorem Yc(w:Wd):(Instr.makeMap 156 none).run prog w=.ok (.map (some w.heap.size)) (w.alloc (.map #[] 0)):=by kernel_rfl
theorem qN(l:List Cy)(k:Nat)(h:k<l.length):l.take (k+1)=l.take k++ [Cg l k]:=by
 rw[tS h,Cg,Cr,Cz h];rfl
theorem qR(l:List Bh)(k:Nat)(h:k<l.length):l.take (k+1)=l.take k++ [Ct l k]:=by
 rw[tS h,Ct,Cr,Cz h];rfl
def Sq(l:List (BA×zE)):Bool:=l.any λr=>Pm 1 r.2
def Wc(l:List zE):Bool:=l.any λf=>Pm 1 f
def qE(c:Ad):Bool:=Sq (Sg c 2) || Wc (Ra c 2)
inductive Wt(w:Wd)(t:At)(c:Ad)(e:Ending)(w':Wd):Prop
 |badT (h:zY t≠0) (he:e=.returned (.tuple #[.pointer none,(zY t)]))
 |badC (h:zY t=0) (hc:Ax c≠0) (he:e=.returned (.tuple #[.pointer none,(Ax c)]))
 |ok (sb:Nat) (P:Dh) (he:e=.returned (.tuple #[.pointer (some (aD sb 0)),.int .i64 0])) (hs:Hl w' sb t c P) (hl:w.heap.size<=sb) (hn:P.nights=qE c)
def UT(w:Wd)(t:At)(c:Ad)(e:Ending)(w':Wd):Prop:=Wt w t c e w'/\Below w.heap.size w w'
structure Ea(w:Wd)(t:At)(c:Ad)(za aa fa:Ae)(p:Bd):Prop where
 z:Al Nc w za t.zn
 a:Al Mk w aa t.ai
 f:Al Hi w fa t.fs
 c:Kb w.heap.size w c p
theorem Ea.below{t:At}{c:Ad}{d e fa:Ae}{p:Bd}(h:Ea w t c d e fa p)(b:Bw w w'):Ea w' t c d e fa p where
 z:=h.z.below b
 a:=h.a.below b
 f:=h.f.below b
 c:=(h.c.keep b).more b.size
def Rn(t:At)(c:Ad)(za:Ae)(zc:Nat)(aa:Ae)(ac:Nat)(fa:Ae)(fc:Nat)(p:Bd):Prop:=∀w:Wd,Ea w t c za aa fa p->Calls prog 37 #[.agg #[.slice za t.zn.length zc,.slice aa t.ai.length ac,.slice fa t.fs.length fc],.agg #[c.rp,c.rl,c.cn,c.sit,c.lv,c.nf,c.nt,.slice p.ca c.cs.length p.cc,.slice p.ra c.rs.length p.rc,.slice p.ka c.ks.length p.kc,.slice p.xa c.xs.length p.xc,.slice p.la c.ls.length p.lc,.slice p.oa c.oz.length p.oc,c.gu]] w (UT w t c)
inductive Gl(X:Nat->Prop)(w:Wd):LV->List (BA×zE)->Prop
 |nil:Gl X w [] []
 |snoc {cs:LV} {rs:List (BA×zE)} {s:BA} {f:zE} {a:Ae} {cap:Nat} (h:Gl X w cs rs) (hs:s.size<=140737488355328) (hl:f.args.length<=140737488355328) (ha:Gi X w a f.args):Gl X w (cs++ [.string s,.int .i64 f.op,.int .i64 f.num,.slice a f.args.length cap]) (rs++ [(s,f)])
theorem Gl.len{a:LV}{b:List (BA×zE)}(h:Gl X w a b):a.length=b.length*4:=by
 induction h with
 |nil=>rfl
 |snoc h hs hl ha ih=>simp[ih];omega
theorem Gl.step{X':Nat->Prop}{a:LV}(h:Gl X w a c)(d:w.heap.size<=w'.heap.size)(e:∀b,b<w.heap.size->¬ X b->w'.heap[b]?=w.heap[b]?)(f:∀b,b<w.heap.size->X' b->X b):Gl X' w' a c:=by
 induction h with
 |nil=>exact .nil
 |snoc h h1 h2 ha ih=>exact .snoc ih h1 h2 (ha.step d e f)
theorem tZ(h:i<a.length):Eh (a++ [x]) i=Eh a i:=by
 unfold Eh;rw[Cr,Cr,Tp h]
theorem uA:Eh (a++ [x]) a.length=x:=by
 unfold Eh;rw[Cr,Nf (Bv _),Nat.sub_self];rfl
theorem Gl.at{c:LV}{d:List (BA×zE)}(h:Gl X w c d){C:Array Value}{t:TypeId}(g:w.heap[b]?=some (.cells C t (0,0)))(p:¬ X b)(k:C.toList.take c.length=c):∀i,i<d.length->w.cell? (aD b (0+i*4))=some (.string (Eh d i).1)/\(Eh d i).1.size<=2^47/\zX X w b (0+i*4+1) [(Eh d i).2]:=by
 have q:=Ag g;induction h with
 |nil=>intro i o;simp at o
 | @snoc c d s f a cap h h1 h2 ha ih=>
  have l:=h.len;have m:C.toList.take c.length=c:=by
   have:=congrArg (List.take c.length) k;rw[List.take_take]at this;simpa using this
  have n:∀j v, [Value.string s,Bn f.op,Bn f.num,.slice a f.args.length cap][j]?=some v->C[c.length+j]?=some v:=λj v hv=>by
   have r:j<4:=by
    have:=(List.getElem?_eq_some_iff.1 hv).1;simpa using this
   have e:(C.toList.take (c++ [Value.string s,Bn f.op,Bn f.num,.slice a f.args.length cap]).length)[c.length+j]?=some v:=by
    rw[k,Nf (by omega),Nat.add_sub_cancel_left];exact hv
   rw[List.getElem?_take,iP (by simp;omega)]at e;simpa using e
  intro i o;by_cases e:i<d.length
  . rw[tZ e];exact ih m i e
  obtain rfl:i=d.length:=by simp at o;omega
  rw[uA,Nat.zero_add,<-l];exact⟨zm (j:=c.length) g (n 0 _ rfl),h1,zX.mk1 q p (zm (j:=c.length+1) g (n 1 _ rfl)) (zm (j:=c.length+2) g (n 2 _ rfl)) (zm (j:=c.length+3) g (n 3 _ rfl)) h2 ha⟩
theorem Gl.rs(i:w.ownsRow B T 4 v c.length d)(h:Gl noX w d c):∃a b,v=.slice a c.length b/\Zd w a c:=by
 rcases i.2 with⟨rfl,e⟩|⟨g,b,j,rfl,l,f,m,n,o,k⟩;exact⟨none,0,by rw[e],.inl (List.length_eq_zero_iff.1 e)⟩;refine⟨_,b,rfl,.inr ⟨g,0,rfl,Ag f,h.at f (λh=>h) ?_⟩⟩;rw[h.len];exact k
theorem En.rows{c:List zE}(f:w.ownsRow B T 3 v c.length d)(h:En noX w d c):∃a b,v=.slice a c.length b/\Gi noX w a c:=by
 rcases f.2 with⟨rfl,e⟩|⟨g,b,i,rfl,m,j,n,o,p,k⟩;have l:=List.length_eq_zero_iff.1 e;subst l;exact⟨none,0,rfl,0,0,λh=>aB rfl h,.nil _ _⟩;refine⟨_,b,rfl,g,0,λ_=>rfl,h.forms j (λh=>h) ?_⟩;rw[h.len];exact k
theorem uV(c:Ad)(l:List It)(r:It)(k:Nat):Fm c (l++ [r]) k=if r.sc=(k:Int) then Fm c l k++ [(r.name,Eb c k r.ex)] else Fm c l k:=by
 unfold Fm;rw[List.filter_append];by_cases e:r.sc=(k:Int) <;> simp[e]
theorem uO(c:Ad)(l:List Ky)(r:Ky)(k:Nat):Eu c (l++ [r]) k=if r.sc=(k:Int) then Eu c l k++ [Eb c k r.ex] else Eu c l k:=by
 unfold Eu;rw[List.filter_append];by_cases e:r.sc=(k:Int) <;> simp[e]
def XV(B:Nat)(V:Nat->Value)(b:Nat):Prop:=b<B\/∃k,k<9/\(V k).ownBlock=some b
def upd(V:Nat->Value)(k:Nat)(v:Value):Nat->Value:=λi=>if i=k then v else V i
theorem Uq(V:Nat->Value)(k:Nat)(v:Value):upd V k v k=v:=iP rfl
theorem Zo(V:Nat->Value)(v:Value)(h:i≠k):upd V k v i=V i:=iN h
def bT(V:Nat->Value):Prop:=∀i j b,i<9->j<9->(V i).ownBlock=some b->(V j).ownBlock=some b->i=j
theorem BV(d:k<9)(a:v.ownBlock=(V k).ownBlock\/v.ownBlock=some H)(f:b<H)(h:XV B (upd V k v) b):XV B V b:=by
 rcases h with h|⟨i,c,h⟩;exact .inl h;by_cases e:i=k;subst e;rw[Uq]at h;rcases a with a|a;exact .inr ⟨i,c,a ▸ h⟩;rw[a]at h;cases h;omega;rw[Zo _ _ e]at h;exact .inr ⟨i,c,h⟩
theorem bT.upd(h:bT V)(n:k<9)(e:∀i b,i<9->(V i).ownBlock=some b->b<H)(a:v.ownBlock=(V k).ownBlock\/v.ownBlock=some H):bT (upd V k v):=by
 intro i j b f g c d;by_cases m:i=k;by_cases l:j=k;omega;subst m;rw[Uq]at c;rw[Zo _ _ l]at d;rcases a with a|a;rw[a]at c;exact h i j b f g c d;rw[a]at c;cases c;have:=e j _ g d;omega;by_cases l:j=k;subst l;rw[Uq]at d;rw[Zo _ _ m]at c;rcases a with a|a;rw[a]at d;exact h i j b f g c d;rw[a]at d;cases d;have:=e i _ f c;omega;rw[Zo _ _ m]at c;rw[Zo _ _ l]at d;exact h i j b f g c d
theorem nW{r:Int×Int}{k:Int}(h:Cu r k=0):r.2=0/\r.1=k:=by
 unfold Cu at h;by_cases a:r.2=0;rw[iP a]at h;by_cases b:r.1=k;exact⟨a,b⟩;rw[iN b]at h;omega;rw[iN a]at h;exact aB h a
theorem oF{l:List zB}{a:Int}{x:zH}(h:(Cd l n a x).2=0):Bb x=0/\Cd l n a x=Bt (Cv l n) a x/\(Bt (Cv l n) a x).2=0:=by
 unfold Cd at*;by_cases b:Bb x≠0;rw[iP b]at h;exact aB h b;rw[iN b]at h ⊢;exact⟨Classical.not_not.1 b,rfl,h⟩
structure mG(c:Ad):Prop where
 g:Cf c=0
 r:∀i,i<c.rs.length->Fh c i=0
 k:∀i,i<c.ks.length->Ep c i=0
 x:∀i,i<c.xs.length->Gt c i=0
theorem Ud{c:Ad}(h:Ax c=0):mG c:=by
 unfold Ax at h;by_cases a:Cf c≠0;rw[iP a]at h;exact aB h a;rw[iN a]at h;by_cases e:Av (Fg c.cs) 0 (c.cs.length-0)≠0;rw[iP e]at h;exact aB h e;rw[iN e]at h;by_cases b:Av (Fh c) 0 (c.rs.length-0)≠0;rw[iP b]at h;exact aB h b;rw[iN b]at h;by_cases d:Av (Ep c) 0 (c.ks.length-0)≠0;rw[iP d]at h;exact aB h d;rw[iN d]at h;exact⟨Classical.not_not.1 a,λi hi=>Ti _ _ (Classical.not_not.1 b) i (Bg _) (by omega),λi hi=>Ti _ _ (Classical.not_not.1 d) i (Bg _) (by omega),λi hi=>Ti _ _ h i (Bg _) (by omega)⟩
theorem Vq{c:Ad}(h:Cf c=0):Li c=true/\Gj [] c.rs=0/\Ig c.ks=0/\Kg c.xs=0:=by
 unfold Cf at h;by_cases g:Mh c=false;rw[iP g]at h;omega;rw[iN g]at h;by_cases d:Li c=false;rw[iP d]at h;omega;rw[iN d]at h;by_cases e:Ih [] c.cs≠0;rw[iP e]at h;exact aB h e;rw[iN e]at h;by_cases a:Gj [] c.rs≠0;rw[iP a]at h;exact aB h a;rw[iN a]at h;by_cases b:Ig c.ks≠0;rw[iP b]at h;exact aB h b;rw[iN b]at h;by_cases f:Kg c.xs≠0;rw[iP f]at h;exact aB h f;exact⟨by simpa using d,Classical.not_not.1 a,Classical.not_not.1 b,Classical.not_not.1 f⟩
theorem wS:∀{l:List It} {acc:List (Int×BA)},Gj acc l=0->∀r∈l,1<=r.sc/\r.sc<=3
 |[],_,_,r,a=>by simp at a
 |x::l,acc,h,r,a=>by
  rw[Gj]at h;by_cases b:(Ar x.sc 1 3&&zZ x.name)=false
  . rw[iP b]at h;omega
  rw[iN b]at h;by_cases d:Ge acc x.sc x.name=true
  . rw[iP d]at h;omega
  rw[iN d]at h;by_cases c:Bb x.ex≠0
  . rw[iP c]at h;exact aB h c
  rw[iN c]at h;rcases List.mem_cons.1 a with rfl|a
  . have:(Ar r.sc 1 3&&zZ r.name)=true:=by simpa using b
    simp only[Em,Om]at this;exact this.1
  exact wS h r a
theorem oD:∀{l:List Ky},Ig l=0->∀r∈l,1<=r.sc/\r.sc<=3
 |[],_,r,a=>by simp at a
 |x::l,h,r,a=>by
  rw[Ig]at h;by_cases b:Ar x.sc 1 3=false
  . rw[iP b]at h;omega
  rw[iN b]at h;by_cases c:Bb x.ex≠0
  . rw[iP c]at h;exact aB h c
  rw[iN c]at h;rcases List.mem_cons.1 a with rfl|a
  . have:Ar r.sc 1 3=true:=by simpa using b
    exact Om.1 this
  exact oD h r a
theorem SS{l:List It}(h:k<l.length):Ah l k∈l:=by
 unfold Ah;rw[Cr,Cz h];exact gM h
theorem zrS{l:List Ky}(h:k<l.length):Aq l k∈l:=by
 unfold Aq;rw[Cr,Cz h];exact gM h
theorem AQ(l:List It)(k:Nat)(h:k<l.length):l.take (k+1)=l.take k++ [Ah l k]:=by
 rw[tS h,Ah,Cr,Cz h];rfl
theorem jX(l:List Ky)(k:Nat)(h:k<l.length):l.take (k+1)=l.take k++ [Aq l k]:=by
 rw[tS h,Aq,Cr,Cz h];rfl
theorem AV{c:Ad}(h:Ax c=0)(a:i<c.rs.length):∃k:Nat,(Ah c.rs i).sc=k/\1<=k/\k<=3/\Db (Ah c.rs i).ex=true/\Bq (Ah c.rs i).ex<=200/\(Bt (Cv c.cs c.cs.length) k (Ah c.rs i).ex).2=0:=by
 have b:=Ud h;have l:=wS (Vq b.g).2.1 _ (SS a);obtain⟨j,m⟩:=nW (b.r i a);obtain⟨d,_,e⟩:=oF j;obtain⟨k,f⟩:=Int.eq_ofNat_of_zero_le (show 0<=(Ah c.rs i).sc by omega);rw[f]at e;exact⟨k,f,by omega,by omega,(Ql d).1,(Ql d).2.1,e⟩
theorem AZ{c:Ad}(h:Ax c=0)(a:i<c.ks.length):∃k:Nat,(Aq c.ks i).sc=k/\1<=k/\k<=3/\Db (Aq c.ks i).ex=true/\Bq (Aq c.ks i).ex<=200/\(Bt (Cv c.cs c.cs.length) k (Aq c.ks i).ex).2=0:=by
 have b:=Ud h;have l:=oD (Vq b.g).2.2.1 _ (zrS a);obtain⟨j,m⟩:=nW (b.k i a);obtain⟨d,_,e⟩:=oF j;obtain⟨k,f⟩:=Int.eq_ofNat_of_zero_le (show 0<=(Aq c.ks i).sc by omega);rw[f]at e;exact⟨k,f,by omega,by omega,(Ql d).1,(Ql d).2.1,e⟩
theorem nZ{c:Ad}(h:Ax c=0)(b:i<c.xs.length):Db (Au c.xs i)=true/\Bq (Au c.xs i)<=200/\(Bt (Cv c.cs c.cs.length) 1 (Au c.xs i)).2=0:=by
 have d:=Ud h;obtain⟨e,g⟩:=nW (d.x i b);obtain⟨a,_,f⟩:=oF e;exact⟨(Ql a).1,(Ql a).2.1,f⟩
def Ey(t:At)(d:Ai)(k:Nat):Ft:=Aa t.fs (Cm d k).1.toNat
theorem kM{t:At}{c:Ad}{d:Ai}(b:Ax c=0)(e:Cc t c d=0)(f:k<d.length)(g:0<k):0<=(Ey t d k).dp-(Ey t d (k-1)).ar/\(Ey t d k).dp-(Ey t d (k-1)).ar<=1440:=by
 have a:=(Ka e).2.2.2 k (by omega) f;have h:=Ul b;unfold Jj at a;simp only[Em,decide_eq_true_eq]at a;unfold Ey;omega
theorem bM{t:At}{c:Ad}{d:Ai}(b:zY t=0)(e:Cc t c d=0)(f:k<d.length):0<(Ey t d k).ar-(Ey t d k).dp/\(Ey t d k).ar-(Ey t d k).dp<=1440/\2880<=(Ey t d k).dp/\(Ey t d k).ar<=52593120:=by
 obtain⟨i,j,g,_⟩:=Ka e;obtain⟨m,h,a⟩:=Qh (g k f);unfold Ey;rw[h];have:=Lu b a;simp only[Int.toNat_natCast];omega
theorem yV{t:At}{c:Ad}{d:Ai}(b:zY t=0)(e:Ax c=0)(a:Cc t c d=0):∀k,k<d.length->(Ey t d 0).dp<(Ey t d k).ar
 |0,h=>by have:=bM b a h;omega
 |k+1,h=>by
  have g:=yV b e a k (by omega);have f:=kM e a h (by omega);have i:=bM b a h;rw[Nat.add_sub_cancel]at f;omega
theorem oG{t:At}{c:Ad}{d:Ai}(e:zY t=0)(a:Ax c=0)(b:Cc t c d=0):0<(Aa t.fs (lstN d)).ar+c.rl-((Aa t.fs (fstN d)).dp-c.rp):=by
 have h:=yV e a b (d.length-1) (by have:=(Ka b).1;omega);have f:=Ul a;show 0<(Ey t d (d.length-1)).ar+c.rl-((Ey t d 0).dp-c.rp);omega
theorem pI:∀{l:List Cy} {acc:LB},(Ca acc l).1=0->∀z∈l,Fv z=0
 |[],_,_,z,a=>by simp at a
 |x::l,acc,h,z,a=>by
  rw[Ca]at h;by_cases b:Fv x≠0
  . rw[iP b]at h;exact aB h b
  rw[iN b]at h;by_cases c:Ao acc x.name=true
  . rw[iP c]at h;simp at h
  rw[iN c]at h;rcases List.mem_cons.1 a with rfl|a
  . exact Classical.not_not.1 b
  exact pI h z a
theorem KE{t:At}(h:zY t=0):(Ca [] t.zn).1=0/\(Cb (Ca [] t.zn).2 [] t.ai).1=0:=by
 unfold zY at h;by_cases c:16<t.zn.length\/64<t.ai.length\/200<t.fs.length;rw[iP c]at h;omega;rw[iN c]at h;by_cases a:(Ca [] t.zn).1≠0;rw[iP a]at h;exact aB h a;rw[iN a]at h;by_cases b:(Cb (Ca [] t.zn).2 [] t.ai).1≠0;rw[iP b]at h;exact aB h b;exact⟨Classical.not_not.1 a,Classical.not_not.1 b⟩
theorem SF{t:At}(h:zY t=0)(s:BA):Fv (zp t s)=0\/zp t s=Lk:=by
 cases b:Fq t.ai s with
 |none=>exact .inr (by simp[zp,b])
 |some a=>
  cases c:Ox t.zn a.zone with
  |none=>exact .inr (by simp[zp,b,c])
  |some z=>
   have e:zp t s=z:=by simp[zp,b,c]
   rw[e];refine .inl (pI (KE h).1 z ?_);have:=List.mem_of_find?_eq_some c;simpa using this
theorem Vz{t:At}(h:zY t=0)(s:BA):(zp t s).sh.length<=16:=by
 rcases SF h s with a|a;exact(Ue a).2.2.1;rw[a];simp[Lk]
end Go.Proofs.YtelojoopofolpaaGreat
