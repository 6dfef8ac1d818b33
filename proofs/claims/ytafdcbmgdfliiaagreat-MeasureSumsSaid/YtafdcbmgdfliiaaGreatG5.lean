/- a part of the proof -/
import Derived.Test.YtafdcbmgdfliiaaGreatG4
set_option linter.all false
set_option maxRecDepth 100000
set_option maxHeartbeats 3000000
namespace Go.Proofs.YtafdcbmgdfliiaaGreat
open Go.RowKit Go.Sort Go.Proofs.Tryz
variable {w w':Wd}{b k:Nat}{a:Ae}{l:List (BA×Int)}{s:BA}
def Eb(c:Ad)(k:Int)(x:zH):zE:=Bj (Ec c.cs c.cs.length) k x
def Fm(c:Ad)(l:List It)(k:Nat):List (BA×zE):=(l.filter λr=>decide (r.sc=(k:Int))).map λr=>(r.name,Eb c k r.ex)
def Eu(c:Ad)(l:List Ky)(k:Nat):List zE:=(l.filter λr=>decide (r.sc=(k:Int))).map λr=>Eb c k r.ex
def Sg(c:Ad)(k:Nat):List (BA×zE):=Fm c c.rs k
def Ra(c:Ad)(k:Nat):List zE:=Eu c c.ks k
def Jf(c:Ad):List zE:=c.xs.map (Eb c 1)
def Ox(zs:List Cy)(s:BA):Option Cy:=zs.reverse.find? λz=>decide (z.name=s)
def Fq(l:List Bh)(s:BA):Option Bh:=l.reverse.find? λa=>decide (a.code=s)
def Lk:Cy:=⟨ByteArray.empty,0, []⟩
def zp(t:At)(s:BA):Cy:=match Fq t.ai s with
 |some a=>(Ox t.zn a.zone).getD Lk
 |none=>Lk
def Iz(w:Wd)(v:Value)(z:Cy):Prop:=∃a cap,v=.agg #[.string z.name,z.off,.slice a z.sh.length cap]/\Cj w a z.sh/\z.name.size<=140737488355328/\z.sh.length<=140737488355328
def Iz.below{v:Value}{z:Cy}(h:Iz w v z)(c:Bw w w'):Iz w' v z:=by
 obtain⟨a,b,d,e,f⟩:=h;exact⟨a,b,d,e.below c,f⟩
def Zl(w:Wd)(b:Nat)(t:At):Prop:=∃M,Dl prog w b .string M/\∀s,(Fq t.ai s=none->Bz M (.string s)=none)/\(Fq t.ai s≠none->∃v,Bz M (.string s)=some v/\Iz w v (zp t s))
def Zl.below{t:At}(h:Zl w b t)(a:Bw w w'):Zl w' b t:=by
 obtain⟨M,d,c⟩:=h;refine⟨M,d.below a,λs=>⟨(c s).1,λhs=>?_⟩⟩;have⟨v,e,f⟩:=(c s).2 hs;exact⟨v,e,f.below a⟩
def Eh(l:List (BA×zE))(k:Nat):BA×zE:=l.getD k (ByteArray.empty,.mk 0 0 [])
def noX:Nat->Prop:=λ_=>False
def Zd(w:Wd)(a:Ae)(l:List (BA×zE)):Prop:=l= []\/∃b off,a=some (aD b off)/\b<w.heap.size/\∀i,i<l.length->w.cell? (aD b (off+i*4))=some (.string (Eh l i).1)/\(Eh l i).1.size<=140737488355328/\zX noX w b (off+i*4+1) [(Eh l i).2]
def Zd.below{l:List (BA×zE)}(h:Zd w a l)(c:Bw w w'):Zd w' a l:=by
 rcases h with h|⟨b,d,g,f,e⟩;exact .inl h;exact .inr ⟨b,d,g,As f c.size,λi hi=>⟨zj (e i hi).1 f c,(e i hi).2.1,(e i hi).2.2.kept c⟩⟩
structure Dh where
 za:Option Addr
 zc:Nat
 aa:Option Addr
 ac:Nat
 fa:Option Addr
 fc:Nat
 con:Bd
 zb:Nat
 ra:Nat->Option Addr
 rc:Nat->Nat
 ka:Nat->Option Addr
 kc:Nat->Nat
 xa:Option Addr
 xc:Nat
 nights:Bool
def AS(t:At)(c:Ad)(P:Dh):Array Value:=#[.slice P.za t.zn.length P.zc,.slice P.aa t.ai.length P.ac,.slice P.fa t.fs.length P.fc,Bn c.rp,Bn c.rl,Bn c.cn,Bn c.sit,Bn c.lv,Bn c.nf,Bn c.nt,.slice P.con.ca c.cs.length P.con.cc,.slice P.con.ra c.rs.length P.con.rc,.slice P.con.ka c.ks.length P.con.kc,.slice P.con.xa c.xs.length P.con.xc,.slice P.con.la c.ls.length P.con.lc,.slice P.con.oa c.oz.length P.con.oc,Bn c.gu,.map (some P.zb),.slice (P.ra 0) (Sg c 0).length (P.rc 0),.slice (P.ra 1) (Sg c 1).length (P.rc 1),.slice (P.ra 2) (Sg c 2).length (P.rc 2),.slice (P.ra 3) (Sg c 3).length (P.rc 3),.slice (P.ka 0) (Ra c 0).length (P.kc 0),.slice (P.ka 1) (Ra c 1).length (P.kc 1),.slice (P.ka 2) (Ra c 2).length (P.kc 2),.slice (P.ka 3) (Ra c 3).length (P.kc 3),.slice P.xa (Jf c).length P.xc,.bool P.nights]
structure Hl(w:Wd)(sb:Nat)(t:At)(c:Ad)(P:Dh):Prop where
 box:w.heap[sb]?=some (.cells (AS t c P) 165 (0,0))
 okT:zY t=0
 okC:Ax c=0
 fs:Al Hi w P.fa t.fs
 zn:Zl w P.zb t
 rs:∀k,k<4->Zd w (P.ra k) (Sg c k)
 ks:∀k,k<4->Gi noX w (P.ka k) (Ra c k)
 xs:Gi noX w P.xa (Jf c)
def Hl.lt{a:Nat}{t:At}{c:Ad}{P:Dh}(h:Hl w a t c P):a<w.heap.size:=Ag h.box
def Hl.below{t:At}{c:Ad}{P:Dh}(h:Hl w b t c P)(a:Bw w w'):Hl w' b t c P where
 box:=(a.block _ h.lt).trans h.box
 okT:=h.okT
 okC:=h.okC
 fs:=h.fs.below a
 zn:=h.zn.below a
 rs:=λk hk=>(h.rs k hk).below a
 ks:=λk hk=>(h.ks k hk).below a
 xs:=h.xs.below a
theorem On{t:At}(h:zY t=0):t.zn.length<=16/\t.ai.length<=64/\t.fs.length<=200:=by
 grind[zY]
theorem pJ{b:LB}:∀{l:List Ft} {p:Option Ft},Dw b p l=0->∀f∈l,El b f=0
 |[],_,_,f,a=>by simp at a
 |g::l,p,h,f,a=>by
  rw[Dw]at h;by_cases c:El b g≠0
  . omega
  rw[iN c]at h;have d:El b g=0:=Classical.not_not.1 c;by_cases e:p.any (λq=>!Oq q g)=true
  . simp_all
  rw[iN e]at h;rcases List.mem_cons.1 a with rfl|a
  . exact d
  exact pJ h f a
theorem NE{t:At}(h:zY t=0):∃ar,Dw ar none t.fs=0:=by
 grind[zY]
theorem TD{l:List Ft}(h:k<l.length):Aa l k∈l:=by
 grind[Aa]
theorem Lu{t:At}(h:zY t=0){i:Nat}(g:i<t.fs.length):2880<=(Aa t.fs i).dp/\(Aa t.fs i).ar<=52593120/\(Aa t.fs i).dp<(Aa t.fs i).ar/\(Aa t.fs i).ar-(Aa t.fs i).dp<=1440:=by
 have⟨b,j⟩:=NE h;have a:=pJ j _ (TD g);unfold El at a;by_cases c:(Oz (Aa t.fs i).num.data.toList&&Gu (Aa t.fs i).ty.data.toList)=false;all_goals grind[Pj]
def Ul{c:Ad}(h:Ax c=0):(0<=c.rp/\c.rp<=1440)/\(0<=c.rl/\c.rl<=1440)/\(0<=c.cn/\c.cn<=1440)/\(c.cn<=c.sit/\c.sit<=1440)/\(0<=c.lv/\c.lv<=10080)/\(0<=c.nf/\c.nf<=1439)/\(0<=c.nt/\c.nt<=1439):=by
 have b:Cf c=0:=by
  unfold Ax at h;by_cases a:Cf c≠0;rw[iP a]at h;exact aB h a;exact Classical.not_not.1 a
 have d:Mh c=true:=by
  unfold Cf at b;by_cases a:Mh c=false;rw[iP a]at b;omega;simpa using a
 simp only[Mh,Em,Om]at d;obtain⟨⟨⟨⟨⟨⟨⟨e,a⟩,f⟩,g⟩,i⟩,j⟩,k⟩,l⟩:=d;exact⟨e,a,f,g,i,j,k⟩
def KK(w:Wd)(b:Nat)(t:At)(c:Ad)(P:Dh)(a:Hl w b t c P)(i:Int):CE 151 #[Ua b 0,i] w (.bool (decide (0<=i)&&decide (i<t.fs.length))):=by
 have d:=zC a.box;have f:=a.lt;by_cases h:0<=i
 . delta CE;go_in;go_wp2;go_ret;exact⟨zz (by simp[h]),rfl⟩
 delta CE;go_in;go_wp2;go_ret;exact⟨zz (by simp[h];omega),rfl⟩
def Pe(w:Wd)(g:Nat)(t:At)(c:Ad)(P:Dh)(f:Hl w g t c P)(i:Nat)(j:i<t.fs.length)(b a:Nat)(d:P.fa=some (aD b a)):CE 95 #[Ua g 0,i] w (Ua b (a+i*9)):=by
 have h:=zC f.box;have k:=f.lt;have l:=(On f.okT).2.2;rw[d]at h;delta CE;go_in;go_wp2;go_ret;exact⟨rfl,rfl⟩
def kR(w:Wd):(zeroValue 168).run prog w=.ok (.agg #[B_ ByteArray.empty,Bn 0,Ls]) w:=by kernel_rfl
def Mo(t:At)(s:BA):Bool:=(Fq t.ai s).isSome
theorem VY{t:At}(h:Zl w b t)(s:BA):∃a c,((Instr.lookup 159 (.map (some b)) (B_ s) true).run prog w=.ok (.tuple #[.agg #[B_ (zp t s).name,(zp t s).off,CU a (zp t s).sh.length c],.bool (Mo t s)]) w)/\((Instr.lookup 159 (.map (some b)) (B_ s) false).run prog w=.ok (.agg #[B_ (zp t s).name,(zp t s).off,CU a (zp t s).sh.length c]) w)/\Cj w a (zp t s).sh/\(zp t s).name.size<=2^47/\(zp t s).sh.length<=2^47:=by
 obtain⟨M,g,i⟩:=h;have e:=dW underlying159 underlying9 g (key:=B_ s) trivial (kR _);have f:=aU underlying159 underlying9 g (key:=B_ s) trivial (kR _);cases d:Fq t.ai s with
 |none=>
  rw[(i s).1 d]at e f;have j:zp t s=Lk:=by simp[zp,d]
  rw[j];exact⟨none,0,by grind[Mo,Lk],by rw[f];simp[Lk],.inl rfl,by simp[Lk],by simp[Lk]⟩
 |some a=>
  obtain⟨v,k,l,c,rfl,m,n,o⟩:=(i s).2 (by rw[d];simp);grind[Mo]
def zut(w:Wd)(d:Nat)(t:At)(c:Ad)(P:Dh)(b:Hl w d t c P)(s:BA):CV 46 #[Ua d 0,B_ s] w (.bool (Mo t s)):=by
 have f:=BN b.box;have h:=b.lt;have⟨a,g,i,_,_⟩:=VY b.zn s;delta CV;go_in;go_wp2;go_ret;exact⟨rfl,J _ _⟩
theorem NK{t:At}(h:Zl w b t)(g:Bw w w')(s:BA):∃a c,((Instr.lookup 159 (.map (some b)) (B_ s) false).run prog w'=.ok (.agg #[B_ (zp t s).name,(zp t s).off,CU a (zp t s).sh.length c]) w')/\Cj w a (zp t s).sh/\(zp t s).name.size<=2^47/\(zp t s).sh.length<=2^47:=by
 obtain⟨M,i,f⟩:=h;have d:=aU underlying159 underlying9 (i.below g) (key:=B_ s) trivial (kR _);cases e:Fq t.ai s with
 |none=>
  rw[(f s).1 e]at d;have j:zp t s=Lk:=by simp[zp,e]
  rw[j];exact⟨none,0,by rw[d];simp[Lk],.inl rfl,by simp[Lk],by simp[Lk]⟩
 |some a=>
  obtain⟨v,k,l,c,rfl,m,n,o⟩:=(f s).2 (by rw[e];simp);simp_all
def Jj(t:At)(c:Ad)(i j:Nat):Bool:=((Aa t.fs i).to.toList==(Aa t.fs j).fq.toList)&&decide (c.cn<=(Aa t.fs j).dp-(Aa t.fs i).ar)&&decide ((Aa t.fs j).dp-(Aa t.fs i).ar<=c.sit)
def Gp(t:At)(n:Int):Bool:=decide (0<=n)&&decide (n<t.fs.length)
theorem Qh{t:At}{n:Int}(h:Gp t n=true):∃m:Nat,n=m/\m<t.fs.length:=by
 grind[Gp,Int.eq_ofNat_of_zero_le]
def Fi(t:At)(d:Ai)(k:Nat):Int:=if Gp t (Cm d k).1=true then 0 else 6
def Hq(t:At)(c:Ad)(d:Ai)(k:Nat):Int:=if Jj t c (Cm d (k-1)).1.toNat (Cm d k).1.toNat=true then 0 else 14
def Cc(t:At)(c:Ad)(d:Ai):Int:=if d.length<1\/6<d.length then 5 else if Av (Fi t d) 0 (d.length-0)≠0 then Av (Fi t d) 0 (d.length-0) else Av (Hq t c d) 1 (d.length-1)
theorem Ti{f:Nat->Int}:∀(m k:Nat),Av f k m=0->∀j,k<=j->j<k+m->f j=0
 |0,k,_,j,h1,h2=>by omega
 |m+1,k,h,j,h1,h2=>by
  rw[Av]at h;by_cases a:f k≠0
  . omega
  rw[iN a]at h;by_cases e:j=k
  . simp_all
  exact Ti m (k+1) h j (by omega) (by omega)
theorem Ka{t:At}{c:Ad}{d:Ai}(h:Cc t c d=0):1<=d.length/\d.length<=6/\(∀k,k<d.length->Gp t (Cm d k).1=true)/\∀k,1<=k->k<d.length->Jj t c (Cm d (k-1)).1.toNat (Cm d k).1.toNat=true:=by
 unfold Cc at h;by_cases a:d.length<1\/6<d.length;omega;rw[iN a]at h;by_cases b:Av (Fi t d) 0 (d.length-0)≠0;rw[iP b]at h;exact aB h b;rw[iN b]at h;have f:=Ti _ _ (Classical.not_not.1 b);grind[Ti,Fi,Hq]
def KT(w:Wd)(n:Nat)(t:At)(c:Ad)(P:Dh)(o:Hl w n t c P)(i j:Nat)(g:i<t.fs.length)(h:j<t.fs.length):CV 152 #[Ua n 0,i,j] w (.bool (Jj t c i j)):=by
 have⟨b,d,u,l,p⟩:=Qg o.fs (by omega);have⟨⟨B,C,q,D,Y,E,_,_,_⟩,_⟩:=p i g;have⟨⟨F,r,G,Z,H,K,_,_,_⟩,_⟩:=p j h;have⟨a0,a1,a2,a3⟩:=Lu o.okT g;have⟨a4,a5,a6,a7⟩:=Lu o.okT h;have L:=Lg o.box;have M:=Mf o.box;have m:=o.lt;have s:=I o;have f:=I u;have N:-52593120<=(Aa t.fs j).dp-(Aa t.fs i).ar:=by omega
 have Q:(Aa t.fs j).dp-(Aa t.fs i).ar<=52593120:=by omega
 cases S:((Aa t.fs i).to.toList==(Aa t.fs j).fq.toList)
 . have v:=I (show Jj t c i j=false by simp[Jj,S]);delta CV;go_in;go_wp2_with fail;refine cb (Pe w n t c P s.1 i g b d f.1) ?_;go_wp2_with fail;refine cb (Pe w n t c P s.1 j h b d f.1) ?_;go_wp2;go_quiet (fail);have a:=dN (An w.heap.size w) nq;have T:=zj q l a;have U:=zj r l a;have V:=zj L m a;have W:=zj M m a;have y:=As l a.size;have z:=As m a.size;have k:=I a;generalize w.drewN nq=X at*;go_wp2;go_quiet (fail);go_wp2;go_ret;exact⟨zz v.1.symm,Ab k.1 (dN (An _ _) _)⟩
 by_cases A:c.cn<=(Aa t.fs j).dp-(Aa t.fs i).ar
 . have v:=I (show Jj t c i j=decide ((Aa t.fs j).dp-(Aa t.fs i).ar<=c.sit) by simp[Jj,S,A]);have R:decide (c.cn<=(Aa t.fs j).dp-(Aa t.fs i).ar)=true:=by simpa using A
   delta CV;go_in;go_wp2_with fail;refine cb (Pe w n t c P s.1 i g b d f.1) ?_;go_wp2_with fail;refine cb (Pe w n t c P s.1 j h b d f.1) ?_;go_wp2;go_quiet (fail);have a:=dN (An w.heap.size w) nq;have T:=zj q l a;have U:=zj r l a;have V:=zj L m a;have W:=zj M m a;have y:=As l a.size;have z:=As m a.size;have k:=I a;generalize w.drewN nq=X at*;go_wp2;go_quiet (fail);go_wp2;go_ret;exact⟨zz v.1.symm,Ab k.1 (dN (An _ _) _)⟩
 have v:=I (show Jj t c i j=false by simp[Jj,A]);have R:decide (c.cn<=(Aa t.fs j).dp-(Aa t.fs i).ar)=false:=by simpa using A
 delta CV;go_in;go_wp2_with fail;refine cb (Pe w n t c P s.1 i g b d f.1) ?_;go_wp2_with fail;refine cb (Pe w n t c P s.1 j h b d f.1) ?_;go_wp2;go_quiet (fail);have a:=dN (An w.heap.size w) nq;have T:=zj q l a;have U:=zj r l a;have V:=zj L m a;have W:=zj M m a;have y:=As l a.size;have z:=As m a.size;have k:=I a;generalize w.drewN nq=X at*;go_wp2;go_quiet (fail);go_wp2;go_ret;exact⟨zz v.1.symm,Ab k.1 (dN (An _ _) _)⟩
def KU(w:Wd)(a:Nat)(t:At)(c:Ad)(P:Dh)(b:Hl w a t c P)(i j:Int)(d:Gp t i=true)(f:Gp t j=true):CV 152 #[Ua a 0,i,j] w (.bool (Jj t c i.toNat j.toNat)):=by
 obtain⟨m,rfl,g⟩:=Qh d;obtain⟨n,rfl,h⟩:=Qh f;exact KT w a t c P b m n g h
def gD(w:Wd)(G:Nat)(t:At)(c:Ad)(P:Dh)(T:Hl w G t c P)(d:Ai)(a:Ae)(cap:Nat)(hl:d.length<=2^47)(U:Al Ei w a d):CV 86 #[Ua G 0,CU a d.length cap] w (Cc t c d):=by
 have V:=I T;have HA:=I U;by_cases g1:(d.length:Int)<1
 . have H:Af (Cc t c d=5):=I (iP (.inl (by omega)));delta CV;go_in;go_wp2;go_ret;exact⟨ze H.1.symm,An _ _⟩
 by_cases g2:(6:Int)<(d.length:Int)
 . have H:Af (Cc t c d=5):=I (iP (.inr (by omega)));delta CV;go_in;go_wp2;go_ret;exact⟨ze H.1.symm,An _ _⟩
 have K:Af (Cc t c d=if Av (Fi t d) 0 (d.length-0)≠0 then Av (Fi t d) 0 (d.length-0) else Av (Hq t c d) 1 (d.length-1)):=I (iN (by omega));obtain⟨b,a0,rfl,y,z⟩:=Ok HA.1 (by omega);have q:=I z;delta CV;go_in;go_wp2_with fail;go_loopw [18] (λi wr=>∃(k:Nat),k<=d.length/\i=Bn k/\Af (Av (Fi t d) 0 (d.length-0)=Av (Fi t d) k (d.length-k))/\Af (∀j,j<k->Gp t (Cm d j).1=true)/\Af (Bw w wr)) (λi _=>d.length-(intOf i).toNat);exact⟨0,Bg _,rfl,I rfl,I (λj hj=>by omega),I (An _ _)⟩;obtain⟨k,W,rfl,g,o,f⟩:=hrel;by_cases l:k<d.length
 . have⟨L,M⟩:=(q.1.below y f.1) k l;have N:=As y f.1.size;have r:=I (Ab f.1 (J wr (oT (Cm d k).1 (Cm d k).2)));have s:=I (V.1.below r.1);go_wp2_with fail;refine cb (KK _ G t c P s.1 (Cm d k).1) ?_;have A:(decide (0<=(Cm d k).1)&&decide ((Cm d k).1<t.fs.length))=Gp t (Cm d k).1:=rfl;rw[A];cases p:Gp t (Cm d k).1
   . have u:Fi t d k=6:=by simp[Fi,p]
     have h:=I (g.1.trans (Mc l (by rw[u];decide)));have B:Af (Cc t c d=6):=I (K.1.trans (by rw[h.1,u];rfl));go_wp2;go_ret;exact hU B r
   have h:=I (g.1.trans (Ns l (by simp[Fi,p])));have v:=I (show ∀j,j<k+1->Gp t (Cm d j).1=true from λj hj=>by
    by_cases ej:j=k
    . subst ej;exact p
    exact o.1 j (by omega))
   go_wp2;go_roundw;exact⟨k+1,by omega,by go_num,h,v,r⟩;simp[intOf];omega
 obtain rfl:k=d.length:=by omega
 have h:=I (g.1.trans (Nq _ _));have C:Af (Cc t c d=Av (Hq t c d) 1 (d.length-1)):=I (K.1.trans (by rw[h.1];rfl));go_wp2_with fail;obtain⟨Q,rfl⟩:∃Q:Wd,Q=wr:=⟨_,rfl⟩;go_loopw [7] (λi wr=>∃(k:Nat),1<=k/\k<=d.length/\i=Bn k/\Af (Av (Hq t c d) 1 (d.length-1)=Av (Hq t c d) k (d.length-k))/\Af (Bw w wr)) (λi _=>d.length-(intOf i).toNat);exact⟨1,by omega,by omega,rfl,I rfl,f⟩;obtain⟨k,a1,W,rfl,g,f⟩:=hrel;by_cases l:k<d.length
 . obtain⟨m,rfl⟩:∃m,k=m+1:=⟨k-1,by omega⟩;have L:=((q.1.below y f.1) m (by omega)).1;have M:=((q.1.below y f.1) (m+1) l).1;have N:=As y f.1.size;have X:=o.1 m (by omega);have Y:=o.1 (m+1) l;have s:=I (V.1.below f.1);have R:=I (λdd os=>Fa (KU (grow (redrawn wr dd) os) G t c P (s.1.below (bR wr dd os)) (Cm d m).1 (Cm d (m+1)).1 X Y));have em:IntKind.i64.wrap (((m+1:Nat):Int)-1)=(m:Int):=by rw[wI];omega
   have ec:((m+1:Nat):Int)=(m:Int)+1:=by omega
   go_wp2_with fail;have r0:=cR L;have r1:=cR M;refine SY ?_;repeat go_big_quiet_step (with_reducible exact R.1 _ _)
   refine wpQuiet_nil ?_;intro _ S;obtain⟨⟨Z,D⟩,E⟩:=S;subst E;have F:=I (Ab f.1 (bR wr Z D));have n:Jj t c (Cm d m).1.toNat (Cm d (m+1)).1.toNat=Jj t c (Cm d (m+1-1)).1.toNat (Cm d (m+1)).1.toNat:=rfl;generalize grow (redrawn wr Z) D=W2 at*;cases p:Jj t c (Cm d m).1.toNat (Cm d (m+1)).1.toNat
   . have x:Hq t c d (m+1)=14:=by rw[p]at n;simp[Hq,<-n,p]
     have h:=I (g.1.trans (Mc l (by rw[x];decide)));have B:Af (Cc t c d=14):=I (C.1.trans (by rw[h.1,x]));go_wp2;go_ret;exact hU B F
   have h:=I (g.1.trans (Ns l (by rw[p]at n;simp[Hq,<-n,p])));go_wp2;go_roundw;exact⟨m+1+1,by omega,by omega,by go_num,h,F⟩;simp[intOf];omega
 obtain rfl:k=d.length:=by omega
 have B:Af (Cc t c d=0):=I (C.1.trans (g.1.trans (Nq _ _)));go_wp2;go_ret;exact hU B f
def fstN(d:Ai):Nat:=(Cm d 0).1.toNat
def lstN(d:Ai):Nat:=(Cm d (d.length-1)).1.toNat
def eE(w:Wd){a:Nat}(h:b≠a)(o c d:Nat)(f g:Value):((w.setCell (aD a c) f).setCell (aD a d) g).drew.cell? (aD b o)=w.cell? (aD b o):=by
 have e:((w.setCell (aD a c) f).setCell (aD a d) g).drew.heap[b]?=w.heap[b]?:=by
  show((w.setCell (aD a c) f).setCell (aD a d) g).heap[b]?=w.heap[b]?;rw[Below.heap_setCell _ _ _ _ h,Below.heap_setCell _ _ _ _ h]
 simp only[World.cell?,e]
def vQ(w:Wd){a:Nat}(h:b≠a)(o c d:Nat)(e f:Value):((w.setCell (aD a c) e).setCell (aD a d) f).cell? (aD b o)=w.cell? (aD b o):=eE w h o c d e f
theorem Jl{t:At}{c:Ad}{d:Ai}(h:Cc t c d=0):((Cm d 0).1=(fstN d:Int))/\fstN d<t.fs.length/\((Cm d (d.length-1)).1=(lstN d:Int))/\lstN d<t.fs.length:=by
 grind[Ka,Qh,fstN,lstN]
def Hr(w:Wd)(k:Nat)(t:At)(c:Ad)(P:Dh)(l:Hl w k t c P)(d:Ai)(a:Ae)(cap:Nat)(m:Cc t c d=0)(o:Al Ei w a d):CE 88 #[Ua k 0,CU a d.length cap] w (B_ (Aa t.fs (fstN d)).fq):=by
 have⟨y,z,q,_⟩:=Ka m;have⟨p,f,_,_⟩:=Jl m;obtain⟨b,r,rfl,A,g⟩:=Ok o (by omega);have s:=(g 0 (by omega)).1;rw[p,Nat.zero_mul,Nat.add_zero]at s;have⟨u,h,i,v,j⟩:=Qg l.fs (by omega);have⟨⟨B,C,D,E,F,G,_,_,_⟩,_⟩:=j (fstN d) f;have x:=I l;have n:=I i;delta CE;go_in;go_wp2_with fail;refine cb (Pe w k t c P x.1 (fstN d) f u h n.1) ?_;go_wp2;go_ret;exact⟨rfl,rfl⟩
def Jy(w:Wd)(k:Nat)(t:At)(c:Ad)(P:Dh)(l:Hl w k t c P)(d:Ai)(a:Ae)(cap:Nat)(m:Cc t c d=0)(q:Al Ei w a d):CE 89 #[Ua k 0,CU a d.length cap] w (B_ (Aa t.fs (lstN d)).to):=by
 have⟨B,C,u,_⟩:=Ka m;have⟨_,_,r,f⟩:=Jl m;obtain⟨b,v,rfl,D,g⟩:=Ok q (by omega);have o:=(g (d.length-1) (by omega)).1;rw[r]at o;have⟨x,h,i,y,j⟩:=Qg l.fs (by omega);have⟨⟨E,F,G,H,K,L,_,_,_⟩,_⟩:=j (lstN d) f;obtain⟨n,s⟩:∃n,d.length=n+1:=⟨d.length-1,by omega⟩;have z:n<=5:=by omega
 rw[s]at o ⊢;rw[Nat.add_sub_cancel]at o;have M:((n+1:Nat):Int)-1=(n:Int):=by omega
 have N:((n+1:Nat):Int)=(n:Int)+1:=by omega
 have A:=I l;have p:=I i;delta CE;go_in;go_wp2_with fail;refine cb (Pe w k t c P A.1 (lstN d) f x h p.1) ?_;go_wp2;go_ret;exact⟨rfl,rfl⟩
def vG(w:Wd)(d:Nat)(t:At)(c:Ad)(P:Dh)(f:Hl w d t c P)(i j:Nat)(k:i<t.fs.length)(l:j<t.fs.length):CV 153 #[Ua d 0,i,j] w (.agg #[Bn ((Aa t.fs i).dp-c.rp),Bn ((Aa t.fs j).ar+c.rl)]):=by
 have⟨b,a,o,z,m⟩:=Qg f.fs (by omega);have⟨⟨_,_,_,p,_,_,_,_,_⟩,_⟩:=m i k;have⟨⟨_,_,_,_,q,_,_,_,_⟩,_⟩:=m j l;have⟨R,S,T,U⟩:=Lu f.okT k;have⟨V,X,Y,Z⟩:=Lu f.okT l;have⟨⟨k1,k2⟩,⟨k3,k4⟩,_⟩:=Ul f.okC;have K:=Hk f.box;have L:=Ks f.box;have A:=f.lt;have g:=I (J w jP);have r:=I (f.below g.1);have s:=I o;delta CV;go_in;go_wp2_with fail;have a0:w.heap.size<(w.alloc jP).heap.size:=by simp
 have B:=zj p z g.1;have C:=zj q z g.1;have D:=zj K A g.1;have E:=zj L A g.1;have a1:=As z g.1.size;have a2:=As A g.1.size;have n:=zh w jP;have z0:=D_ n;have f0:=CH n;have HQ:=I n;have x:b≠w.heap.size:=by omega
 have y:d≠w.heap.size:=by omega
 have F:IntKind.i64.wrap ((Aa t.fs i).dp-c.rp)=(Aa t.fs i).dp-c.rp:=by rw[wI];omega
 have G:IntKind.i64.wrap ((Aa t.fs j).ar+c.rl)=(Aa t.fs j).ar+c.rl:=by rw[wI];omega
 generalize w.alloc jP=W at*;have M:=I (λ(W':Wd) (h:W'=W\/W'=W.drew)=>show Calls prog 95 #[Ua d 0,i] W' (λe w'=>e=.returned (Ua b (a+i*9))/\W'=w') from Pe W' d t c P (by rcases h with rfl|rfl;exact r.1;exact r.1.below ((An _ _).drew)) i k b a s.1);have N:=I (λ(W':Wd) (h:W'=W\/W'=W.drew)=>show Calls prog 95 #[Ua d 0,j] W' (λe w'=>e=.returned (Ua b (a+j*9))/\W'=w') from Pe W' d t c P (by rcases h with rfl|rfl;exact r.1;exact r.1.below ((An _ _).drew)) j l b a s.1);go_region_held3 (λw'=>w'.cell? (aD b (a+i*9+3))=some (Bn (Aa t.fs i).dp)/\w'.cell? (aD b (a+j*9+4))=some (Bn (Aa t.fs j).ar)/\w'.cell? (aD d 3)=some (Bn c.rp)/\w'.cell? (aD d 4)=some (Bn c.rl)) (first|exact⟨B,C,D,E⟩|exact⟨(eE _ x _ _ _ _ _).trans B,(eE _ x _ _ _ _ _).trans C,(eE _ y _ _ _ _ _).trans D,(eE _ y _ _ _ _ _).trans E⟩)
  (first|(go_at_call 95;with_reducible (refine(M.1 _ ?_).mono ?_);(first|exact .inl rfl|exact .inr rfl);rintro e w1 ⟨rfl,rfl⟩)|(go_at_call 95;with_reducible (refine(N.1 _ ?_).mono ?_);(first|exact .inl rfl|exact .inr rfl);rintro e w1 ⟨rfl,rfl⟩))
 have Q:=zg (i:=1) (u:=Bn ((Aa t.fs j).ar+c.rl)) (zg (i:=0) (u:=Bn ((Aa t.fs i).dp-c.rp)) HQ.1);have r0:((W.setCell (aD w.heap.size 0) (Bn ((Aa t.fs i).dp-c.rp))).setCell (aD w.heap.size 1) (Bn ((Aa t.fs j).ar+c.rl))).drew.cell? (aD w.heap.size 0)=some (Bn ((Aa t.fs i).dp-c.rp)):=zm Q rfl;have r1:((W.setCell (aD w.heap.size 0) (Bn ((Aa t.fs i).dp-c.rp))).setCell (aD w.heap.size 1) (Bn ((Aa t.fs j).ar+c.rl))).drew.cell? (aD w.heap.size 1)=some (Bn ((Aa t.fs j).ar+c.rl)):=zm Q rfl;have H:=I (show Bw w ((W.setCell (aD w.heap.size 0) (Bn ((Aa t.fs i).dp-c.rp))).setCell (aD w.heap.size 1) (Bn ((Aa t.fs j).ar+c.rl))).drew from((g.1.setCell (by simp) _).setCell (by simp) _).drew);generalize ((W.setCell (aD w.heap.size 0) (Bn ((Aa t.fs i).dp-c.rp))).setCell (aD w.heap.size 1) (Bn ((Aa t.fs j).ar+c.rl))).drew=Wf at*;go_wp2_with fail;refine bP (v:=.agg #[Bn ((Aa t.fs i).dp-c.rp),Bn ((Aa t.fs j).ar+c.rl)]) (by simp[results,results153,go_sem,r0,r1]) rfl ?_;exact⟨rfl,H.1⟩
def Bm(t:At)(c:Ad)(d:Ai):Int×Int:=((Aa t.fs (fstN d)).dp-c.rp,(Aa t.fs (lstN d)).ar+c.rl)
def To(w:Wd)(A:Nat)(t:At)(c:Ad)(P:Dh)(B:Hl w A t c P)(d:Ai)(a:Ae)(cap:Nat)(C:Cc t c d=0)(X:Al Ei w a d):CV 92 #[Ua A 0,CU a d.length cap] w (.agg #[Bn (Bm t c d).1,Bn (Bm t c d).2]):=by
 obtain⟨h1,h2,h3,_⟩:=Ka C;obtain⟨Y,D,o,q⟩:=Jl C;obtain⟨b,f,rfl,E,k⟩:=Ok X (by omega);have F:=(k 0 (by omega)).1;have s:=(k (d.length-1) (by omega)).1;rw[Y,Nat.zero_mul,Nat.add_zero]at F;rw[o]at s;obtain⟨n,Z⟩:∃n,d.length=n+1:=⟨d.length-1,by omega⟩;have a0:n<=5:=by omega
 rw[Z]at s ⊢;rw[Nat.add_sub_cancel]at s;have hs:=B.lt;have l:=I (J w jP);have HS:=I (B.below l.1);have G:∀r,Bm t c d=r->True:=λ_ _=>trivial;delta CV;go_in;go_wp2_with fail;have H:=zj F E l.1;have K:=zj s E l.1;have x:b≠w.heap.size:=by omega
 have q0:=zh w jP;have HQ:=I q0;have L:w.heap.size<(w.alloc jP).heap.size:=by simp
 have M:=As E l.1.size;have e1:((n+1:Nat):Int)-1=(n:Int):=by omega
 have e2:((n+1:Nat):Int)=(n:Int)+1:=by omega
 have e3:IntKind.i64.wrap ((n:Int)+1-1)=(n:Int):=by rw[wI];omega
 have e4:((n:Int)+1-1)=(n:Int):=by omega
 have e5:IntKind.i64.wrap (n:Int)=(n:Int):=by rw[wI];omega
 have e6:IntKind.i64.wrap (((n+1:Nat):Int)-1)=(n:Int):=by rw[wI];omega
 have i0:(0:Int)<=(n:Int):=by omega
 have i1:(n:Int)<(n:Int)+1:=by omega
 have i2:n<n+1:=by omega
 generalize w.alloc jP=W at*;have SP:=I (vG W.drew A t c P (HS.1.below ((An _ _).drew)) (fstN d) (lstN d) D q);have N:W.drew.cell? (aD b f)=some (Bn (fstN d)):=H;have R:W.drew.cell? (aD b (f+n*2))=some (Bn (lstN d)):=K;have y:w.heap.size<W.drew.heap.size:=L;have h:b<W.drew.heap.size:=M;have S:Af (W.drew.heap[w.heap.size]?=some jP):=I HQ.1;go_region_held3 (λw'=>w'.cell? (aD b f)=some (Bn (fstN d))/\w'.cell? (aD b (f+n*2))=some (Bn (lstN d))) (first|exact⟨H,K⟩|exact⟨T,U⟩|exact⟨(vQ _ x _ _ _ _ _).trans T,(vQ _ x _ _ _ _ _).trans U⟩)
  (first|(go_at_call 153;refine ca (SP.1) λz g=>?_;have T:=(g.cell (p:=aD b f) h).trans N;have U:=(g.cell (p:=aD b (f+n*2)) h).trans R;have m:=(g.block _ y).trans S.1;have y0:=EE 0 (v:=Bn 0) m rfl;have y1:=EE 1 (v:=Bn 0) m rfl;have u0:=E_ 0 m;have u1:=E_ 1 m))
 have Q:=zg (i:=1) (u:=Bn ((Aa t.fs (lstN d)).ar+c.rl)) (zg (i:=0) (u:=Bn ((Aa t.fs (fstN d)).dp-c.rp)) m);have r0:((z.setCell (aD w.heap.size 0) (Bn ((Aa t.fs (fstN d)).dp-c.rp))).setCell (aD w.heap.size 1) (Bn ((Aa t.fs (lstN d)).ar+c.rl))).cell? (aD w.heap.size 0)=some (Bn ((Aa t.fs (fstN d)).dp-c.rp)):=zm Q rfl;have r1:((z.setCell (aD w.heap.size 0) (Bn ((Aa t.fs (fstN d)).dp-c.rp))).setCell (aD w.heap.size 1) (Bn ((Aa t.fs (lstN d)).ar+c.rl))).cell? (aD w.heap.size 1)=some (Bn ((Aa t.fs (lstN d)).ar+c.rl)):=zm Q rfl;have V:=I (show Bw w ((z.setCell (aD w.heap.size 0) (Bn ((Aa t.fs (fstN d)).dp-c.rp))).setCell (aD w.heap.size 1) (Bn ((Aa t.fs (lstN d)).ar+c.rl))) from((Ab (l.1.drew) g).setCell (by simp) _).setCell (by simp) _);generalize ((z.setCell (aD w.heap.size 0) (Bn ((Aa t.fs (fstN d)).dp-c.rp))).setCell (aD w.heap.size 1) (Bn ((Aa t.fs (lstN d)).ar+c.rl)))=Wf at*;go_wp2_with fail;refine bP (v:=.agg #[Bn ((Aa t.fs (fstN d)).dp-c.rp),Bn ((Aa t.fs (lstN d)).ar+c.rl)]) (by simp[results,results92,go_sem,r0,r1]) rfl ?_;exact⟨rfl,V.1⟩
def Ll(t:At)(c:Ad)(x y:Ai):Bool:=((Aa t.fs (lstN x)).to.toList==(Aa t.fs (fstN y)).fq.toList)&&decide (0<=(Bm t c y).1-(Bm t c x).2)&&decide ((Bm t c y).1-(Bm t c x).2<=c.lv)
theorem Tq{t:At}{c:Ad}{d:Ai}(e:zY t=0)(f:Ax c=0)(g:Cc t c d=0):1440<=(Bm t c d).1/\(Bm t c d).1<=52593120/\2880<=(Bm t c d).2/\(Bm t c d).2<=52594560:=by
 have⟨_,h,_,i⟩:=Jl g;have a:=Lu e h;have b:=Lu e i;have r:=Ul f;grind[Bm]
def CM(w:Wd)(l:Nat)(t:At)(c:Ad)(P:Dh)(A:Hl w l t c P)(x y:Ai)(p q:Ae)(v z:Nat)(r:Cc t c x=0)(s:Cc t c y=0)(D:Al Ei w p x)(E:Al Ei w q y):CV 87 #[Ua l 0,CU p x.length v,CU q y.length z] w (.bool (Ll t c x y)):=by
 have⟨T,U,V,W⟩:=Tq A.okT A.okC r;have⟨X,Y,Z,y4⟩:=Tq A.okT A.okC s;have B:=I A;have L:=I D;have C:=I E;have Hx:=I r;have Hy:=I s;have R:∀(a b:Int) (w:Wd),(Instr.field 186 (.agg #[a,b]) 0).run prog w=.ok (Bn a) w:=λ_ _ _=>by kernel_rfl
 have S:∀(a b:Int) (w:Wd),(Instr.field 186 (.agg #[a,b]) 1).run prog w=.ok (Bn b) w:=λ_ _ _=>by kernel_rfl
 cases M:((Aa t.fs (lstN x)).to.toList==(Aa t.fs (fstN y)).fq.toList)
 . have F:=I (show Ll t c x y=false by simp[Ll,M]);delta CV;go_in;go_wp2_with fail;refine ca (To w l t c P B.1 y q z s C.1) λG d=>?_;have h:=I (B.1.below d);have i:=I (L.1.below d);have j:=I (C.1.below d);have k:=I d;go_wp2_with fail;refine ca (To G l t c P h.1 x p v r i.1) λu f=>?_;have g:=I (h.1.below f);have m:=I (i.1.below f);have n:=I (j.1.below f);have o:=I (Ab k.1 f);have N:=Ic g.1.box;have H:=g.1.lt;go_wp2_with fail;refine cb (Jy u l t c P g.1 x p v r m.1) ?_;go_wp2_with fail;refine cb (Hr u l t c P g.1 y q z s n.1) ?_;go_wp2;go_ret;exact⟨zz F.1.symm,o.1⟩
 by_cases Q:0<=(Bm t c y).1-(Bm t c x).2
 . have F:=I (show Ll t c x y=decide ((Bm t c y).1-(Bm t c x).2<=c.lv) by simp only[Ll,M,decide_eq_true Q];rfl);delta CV;go_in;go_wp2_with fail;refine ca (To w l t c P B.1 y q z s C.1) λG d=>?_;have h:=I (B.1.below d);have i:=I (L.1.below d);have j:=I (C.1.below d);have k:=I d;go_wp2_with fail;refine ca (To G l t c P h.1 x p v r i.1) λu f=>?_;have g:=I (h.1.below f);have m:=I (i.1.below f);have n:=I (j.1.below f);have o:=I (Ab k.1 f);have N:=Ic g.1.box;have H:=g.1.lt;go_wp2_with fail;refine cb (Jy u l t c P g.1 x p v r m.1) ?_;go_wp2_with fail;refine cb (Hr u l t c P g.1 y q z s n.1) ?_;go_wp2;go_ret;exact⟨zz F.1.symm,o.1⟩
 have F:=I (show Ll t c x y=false by simp only[Ll,decide_eq_false Q];simp);delta CV;go_in;go_wp2_with fail;refine ca (To w l t c P B.1 y q z s C.1) λG d=>?_;have h:=I (B.1.below d);have i:=I (L.1.below d);have j:=I (C.1.below d);have k:=I d;go_wp2_with fail;refine ca (To G l t c P h.1 x p v r i.1) λu f=>?_;have g:=I (h.1.below f);have m:=I (i.1.below f);have n:=I (j.1.below f);have o:=I (Ab k.1 f);have N:=Ic g.1.box;have H:=g.1.lt;go_wp2_with fail;refine cb (Jy u l t c P g.1 x p v r m.1) ?_;go_wp2_with fail;refine cb (Hr u l t c P g.1 y q z s n.1) ?_;go_wp2;go_ret;exact⟨zz F.1.symm,o.1⟩
def Gw(t:At)(c:Ad)(x y:Ai):Int:=if Cc t c x≠0 then Cc t c x else if Cc t c y≠0 then Cc t c y else if Ll t c x y=false then 14 else 0
def WF(w:Wd)(i:Nat)(t:At)(c:Ad)(P:Dh)(G:Hl w i t c P)(x y:Ai)(r s:Ae)(v z:Nat)(A:x.length<=2^47)(B:y.length<=2^47)(j:Al Ei w r x)(k:Al Ei w s y):CV 47 #[Ua i 0,CU r x.length v,CU s y.length z] w (Gw t c x y):=by
 have H:=I G;have K:=I j;have M:=I k;delta CV;go_in;go_wp2_with fail;refine ca (gD w i t c P H.1 x r v A K.1) λN a=>?_;have d:=I (H.1.below a);have l:=I (K.1.below a);have f:=I (M.1.below a);have g:=I a;by_cases m:Cc t c x=0
 . have u:=I m;rw[m];go_wp2_with fail;refine ca (gD N i t c P d.1 y s z B f.1) λQ b=>?_;have C:=I (d.1.below b);have D:=I (l.1.below b);have E:=I (f.1.below b);have n:=I (Ab g.1 b);by_cases o:Cc t c y=0
   . have F:=I o;rw[o];go_wp2_with fail;refine ca (CM Q i t c P C.1 x y r s v z u.1 F.1 D.1 E.1) λT p=>?_;have q:=I (Ab n.1 p);cases L:Ll t c x y
     . have h:=I (show Gw t c x y=14 by rw[Gw,iN (by simp[u.1]),iN (by simp[F.1]),iP L]);go_wp2;go_ret;exact hU h q
     have h:=I (show Gw t c x y=0 by rw[Gw,iN (by simp[u.1]),iN (by simp[F.1]),iN (by simp[L])]);go_wp2;go_ret;exact hU h q
   have h:=I (show Gw t c x y=Cc t c y by rw[Gw,iN (by simp[u.1]),iP o]);have R:=CN o
   go_wp2;go_ret;exact hU h n
 have h:=I (show Gw t c x y=Cc t c x by rw[Gw,iP m]);have S:=CN m
 go_wp2;go_ret;exact hU h g
def Qs(d:Ai)(k:Nat):Nat->Bool
 |0=>false
 |m+1=>if(Cm d k).2=true then Qs d (k+1) m else true
def Rj(d:Ai):Bool:=Qs d 0 (d.length-0)
def zvG{d:Ai}(h:k<d.length)(e:(Cm d k).2=true):Qs d k (d.length-k)=Qs d (k+1) (d.length-(k+1)):=by
 rw[show d.length-k=d.length-(k+1)+1 by omega,Qs,iP e]
def CZ{d:Ai}(h:k<d.length)(e:(Cm d k).2=false):Qs d k (d.length-k)=true:=by
 rw[show d.length-k=d.length-(k+1)+1 by omega,Qs,iN (by simp[e])]
def DA(d:Ai):Qs d d.length (d.length-d.length)=false:=by
 rw[Nat.sub_self];rfl
def WV(d:Ai)(a:Ae)(cap:Nat)(w:Wd)(u:d.length<=2^47)(n:Al Ei w a d):CV 90 #[CU a d.length cap] w (.bool (Rj d)):=by
 have q:=I n;delta CV;go_in;go_wp2_with fail;go_loopw [7] (λi wr=>∃(k:Nat),k<=d.length/\i=Bn k/\Af (Rj d=Qs d k (d.length-k))/\Af (Bw w wr)) (λi _=>d.length-(intOf i).toNat);exact⟨0,Bg _,rfl,I rfl,I (An _ _)⟩;obtain⟨k,r,rfl,c,f⟩:=hrel;by_cases h:k<d.length
 . obtain⟨b,s,rfl,o,l⟩:=Ok q.1 (by omega);have⟨v,p⟩:=(l.below o f.1) k h;have t:=As o f.1.size;have j:=I (Ab f.1 (J wr (oT (Cm d k).1 (Cm d k).2)));cases m:(Cm d k).2
   . have g:=I (c.1.trans (CZ h m));rw[m]at j p;go_wp2;go_ret;exact⟨zz g.1.symm,j.1⟩
   have g:=I (c.1.trans (zvG h m));rw[m]at j p;go_wp2;go_roundw;exact⟨k+1,by omega,by go_num,g,j⟩;simp[intOf];omega
 obtain rfl:k=d.length:=by omega
 have g:=I (c.1.trans (DA d));go_wp2;go_ret;exact⟨zz g.1.symm,f.1⟩
def Rx(t:At)(c:Ad)(L:List Ai)(k:Nat):Int:=Cc t c (Ba L k)
def Qc(t:At)(c:Ad)(L:List Ai)(k:Nat):Int:=if Ll t c (Ba L (k-1)) (Ba L k)=true then 0 else 14
def Qe(L:List Ai)(k:Nat):Nat->Bool
 |0=>false
 |m+1=>if Rj (Ba L k)=true then true else Qe L (k+1) m
def Vj(L:List Ai):Bool:=Qe L 0 (L.length-0)
def zv2{L:List Ai}(h:k<L.length)(e:Rj (Ba L k)=false):Qe L k (L.length-k)=Qe L (k+1) (L.length-(k+1)):=by
 rw[show L.length-k=L.length-(k+1)+1 by omega,Qe,iN (by simp[e])]
def CQ{L:List Ai}(h:k<L.length)(e:Rj (Ba L k)=true):Qe L k (L.length-k)=true:=by
 rw[show L.length-k=L.length-(k+1)+1 by omega,Qe,iP e]
def CR(L:List Ai):Qe L L.length (L.length-L.length)=false:=by
 rw[Nat.sub_self];rfl
def Po(t:At)(p:BA)(L:List Ai):Bool:=((Aa t.fs (fstN (Ba L 0))).fq.toList==p.toList)&&((Aa t.fs (lstN (Ba L (L.length-1)))).to.toList==p.toList)
def Fu(t:At)(c:Ad)(p:BA)(L:List Ai):Int:=if Mo t p=false then 6 else if L.length<1\/6<L.length then 5 else if Av (Rx t c L) 0 (L.length-0)≠0 then Av (Rx t c L) 0 (L.length-0) else if Av (Qc t c L) 1 (L.length-1)≠0 then 14 else if Po t p L=false then 14 else if Vj L=true then 0 else 14
def VZ(w:Wd)(U:Nat)(t:At)(c:Ad)(P:Dh)(hS:Hl w U t c P)(p:BA)(L:List Ai)(a:Ae)(cap:Nat)(hl:L.length<=2^47)(ha:Al Ed w a L):CV 39 #[Ua U 0,.agg #[B_ p,CU a L.length cap]] w (Fu t c p L):=by
 have HS:=I hS;have HA:=I ha;clear hS ha;have V:=I (J w (oP p a L.length cap));have a3:=I (HS.1.below V.1);delta CV;go_in;go_wp2_with fail;refine ca (zut _ U t c P a3.1 p) λK E=>?_;have q1:K.cell? (aD w.heap.size 1)=some (CU a L.length cap):=(E.cell (p:=aD w.heap.size 1) (by rw[World.alloc];simp)).trans (by go_simp);have q0:K.cell? (aD w.heap.size 0)=some (B_ p):=(E.cell (p:=aD w.heap.size 0) (by rw[World.alloc];simp)).trans (by go_simp);have q:=I (Ab V.1 E);have W:w.heap.size<K.heap.size:=As (by rw[World.alloc];simp) E.size;clear a3 V E;cases s:Mo t p
 . have u:=I (show Fu t c p L=6 by rw[Fu,iP s]);go_wp2;go_ret;exact hU u q
 have N:=I (show Fu t c p L=if L.length<1\/6<L.length then 5 else if Av (Rx t c L) 0 (L.length-0)≠0 then Av (Rx t c L) 0 (L.length-0) else if Av (Qc t c L) 1 (L.length-1)≠0 then 14 else if Po t p L=false then 14 else if Vj L=true then 0 else 14 by rw[Fu,iN (by simp[s])]);clear s;by_cases g1:(L.length:Int)<1
 . have u:=I (N.1.trans (iP (.inl (by omega))));go_wp2;go_ret;exact hU u q
 by_cases g2:(6:Int)<(L.length:Int)
 . have u:=I (N.1.trans (iP (.inr (by omega))));go_wp2;go_ret;exact hU u q
 have X:=I (N.1.trans (iN (by omega)));obtain⟨b,b0,rfl,A,a4⟩:=fC (HA.1.below q.1) (by omega);have Y:=I a4;have a5:=I (HS.1.below q.1);clear a4 N HA;go_wp2_with fail;obtain⟨wq,b1⟩:∃wq:Wd,wq=K:=⟨_,rfl⟩;go_loopw [29] (λi wr=>∃(k:Nat),k<=L.length/\i=Bn k/\Af (Av (Rx t c L) 0 (L.length-0)=Av (Rx t c L) k (L.length-k))/\Af (∀j,j<k->Cc t c (Ba L j)=0)/\Af (Bw K wr)) (λi _=>L.length-(intOf i).toNat);exact⟨0,Bg _,rfl,I rfl,I (λj hj=>by omega),I (An _ _)⟩;obtain⟨k,hk,rfl,f,x,d⟩:=hrel;by_cases l:k<L.length
 . have⟨da,dc,M,dl,dw⟩:=(Y.1.below A d.1) k l;have Z:=As A d.1.size;have DW:=I dw;clear dw;go_wp2_with fail;refine ca (gD _ U t c P (a5.1.below d.1) (Ba L k) da dc dl DW.1) λw2 F=>?_;have g:=I (Ab d.1 F);clear F;by_cases s:Cc t c (Ba L k)=0
   . have h:=I (f.1.trans (Ns l s));have a0:=I (show ∀j,j<k+1->Cc t c (Ba L j)=0 from λj hj=>by
      by_cases ej:j=k
      . subst ej;exact s
      exact x.1 j (by omega))
     rw[s];clear s;go_wp2;go_roundw;exact⟨k+1,by omega,by go_num,h,a0,g⟩;simp[intOf];omega
   have h:=f.1.trans (Mc l s);have u:Af (Fu t c p L=Cc t c (Ba L k)):=I (X.1.trans (by rw[iP (by rw[h];exact s),h];rfl));have b2:=CN s
   clear h;go_wp2;go_ret;exact⟨ze u.1.symm,Ab q.1 g.1⟩
 obtain rfl:k=L.length:=by omega
 have h:=f.1.trans (Nq _ _);have a1:=I (X.1.trans (iN (by rw[h];simp)));clear f h hk l X;go_wp2_with fail;have g:=I d.1;clear d;go_loopw [8] (λi wr=>∃(k:Nat),1<=k/\k<=L.length/\i=Bn k/\Af (Av (Qc t c L) 1 (L.length-1)=Av (Qc t c L) k (L.length-k))/\Af (Bw K wr)) (λi _=>L.length-(intOf i).toNat);exact⟨1,by omega,by omega,rfl,I rfl,g⟩;clear g;obtain⟨k,b3,hk,rfl,f,d⟩:=hrel;have y:=zj q1 W d.1;have G:=zj q0 W d.1;have a6:=As W d.1.size;have Z:=As A d.1.size;have Q:=I (a5.1.below d.1);have H:=I (Y.1.below A d.1);by_cases l:k<L.length
 . obtain⟨m,rfl⟩:∃m,k=m+1:=⟨k-1,by omega⟩;have⟨xa,xc,M,_,xw⟩:=H.1 m (by omega);have⟨ya,yc,c1,_,yw⟩:=H.1 (m+1) l;have F1:=x.1 m (by omega);have F2:=x.1 (m+1) l;have B:=I (λdd os=>Fa (CM (grow (redrawn wr dd) os) U t c P (Q.1.below (bR wr dd os)) (Ba L m) (Ba L (m+1)) xa ya xc yc F1 F2 (xw.below (bR wr dd os)) (yw.below (bR wr dd os))));have em:IntKind.i64.wrap (((m+1:Nat):Int)-1)=(m:Int):=by rw[wI];omega
   have ec:((m+1:Nat):Int)=(m:Int)+1:=by omega
   clear F1 F2 xw yw;go_wp2_with fail;have r0:=cR M;have r1:=cR c1;have r2:=cR y;refine SY ?_;repeat go_big_quiet_step (with_reducible exact B.1 _ _)
   refine wpQuiet_nil ?_;intro _ z;obtain⟨⟨D,o⟩,r⟩:=z;subst r;have g:=I (Ab d.1 (bR wr D o));have C:Ll t c (Ba L m) (Ba L (m+1))=Ll t c (Ba L (m+1-1)) (Ba L (m+1)):=rfl;clear r0 r1 r2 B M c1 em ec y G;generalize grow (redrawn wr D) o=W2 at*;cases s:Ll t c (Ba L m) (Ba L (m+1))
   . have a2:Qc t c L (m+1)=14:=by rw[s]at C;simp[Qc,<-C,s]
     have h:=f.1.trans (Mc l (by rw[a2];decide));have u:Af (Fu t c p L=14):=I (a1.1.trans (iP (by rw[h,a2];decide)));clear a2 C h;go_wp2;go_ret;exact⟨ze u.1.symm,Ab q.1 g.1⟩
   have h:=I (f.1.trans (Ns l (by rw[s]at C;simp[Qc,<-C,s])));clear C;go_wp2;go_roundw;exact⟨m+1+1,by omega,by omega,by go_num,h,g⟩;simp[intOf];omega
 obtain rfl:k=L.length:=by omega
 have R:=I (a1.1.trans (iN (by rw[f.1,Nq];simp)));clear f hk l a1;have⟨xa,xc,M,_,xw⟩:=H.1 0 (by omega);rw[Nat.add_zero]at M;obtain⟨n,hn⟩:∃n,L.length=n+1:=⟨L.length-1,by omega⟩;have⟨ya,yc,c1,_,yw⟩:=H.1 n (by omega);have F1:=x.1 0 (by omega);have F2:=x.1 n (by omega);have B:=I (λdd os=>Fa ((Hr (grow (redrawn wr dd) os) U t c P (Q.1.below (bR wr dd os)) (Ba L 0) xa xc F1 (xw.below (bR wr dd os))).mono (by rintro e w4 ⟨rfl,rfl⟩;exact⟨rfl,An _ _⟩)));have S:=I (λdd os=>Fa ((Jy (grow (redrawn wr dd) os) U t c P (Q.1.below (bR wr dd os)) (Ba L n) ya yc F2 (yw.below (bR wr dd os))).mono (by rintro e w4 ⟨rfl,rfl⟩;exact⟨rfl,An _ _⟩)));have em:IntKind.i64.wrap ((L.length:Int)-1)=(n:Int):=by rw[wI];omega
 have en:(n:Int)<(L.length:Int):=by omega
 have ez:(0:Int)<(L.length:Int):=by omega
 have a7:Po t p L=(((Aa t.fs (fstN (Ba L 0))).fq.toList==p.toList)&&((Aa t.fs (lstN (Ba L n))).to.toList==p.toList)):=by rw[Po,show L.length-1=n by omega]
 have T:=I a7;have Hn:=I hn;clear F1 F2 xw yw a7 hn;go_wp2_with fail;have r0:=cR M;have r1:=cR c1;have r2:=cR y;have r3:=cR G;have a9:∀(v:Bool),Po t p L=v->True:=λ_ _=>trivial;cases s:((Aa t.fs (fstN (Ba L 0))).fq.toList==p.toList)
 . have hh:=I (show Po t p L=false by rw[T.1,s];rfl);refine SY ?_;repeat go_big_quiet_step (with_reducible first|exact B.1 _ _|exact S.1 _ _)
   refine wpQuiet_nil ?_;intro _ z;obtain⟨⟨D,o⟩,r⟩:=z;subst r;have g:=I (Ab d.1 (bR wr D o));clear r0 r1 r2 r3 B S M c1 em en y G;generalize grow (redrawn wr D) o=W2 at*;have u:=I (R.1.trans (iP hh.1));go_wp2;go_ret;exact⟨ze u.1.symm,Ab q.1 g.1⟩
 cases e1:((Aa t.fs (lstN (Ba L n))).to.toList==p.toList)
 . have hh:=I (show Po t p L=false by rw[T.1,s,e1];rfl);refine SY ?_;repeat go_big_quiet_step (with_reducible first|exact B.1 _ _|exact S.1 _ _)
   refine wpQuiet_nil ?_;intro _ z;obtain⟨⟨D,o⟩,r⟩:=z;subst r;have g:=I (Ab d.1 (bR wr D o));clear r0 r1 r2 r3 B S M c1 em en y G;generalize grow (redrawn wr D) o=W2 at*;have u:=I (R.1.trans (iP hh.1));go_wp2;go_ret;exact⟨ze u.1.symm,Ab q.1 g.1⟩
 have a8:=I (R.1.trans (iN (by rw[T.1,s,e1];decide)));refine SY ?_;repeat go_big_quiet_step (with_reducible first|exact B.1 _ _|exact S.1 _ _)
 refine wpQuiet_nil ?_;intro _ z;obtain⟨⟨D,o⟩,r⟩:=z;subst r;have g:=I (Ab d.1 (bR wr D o));have b4:=zj y a6 (bR wr D o);clear r0 r1 r2 r3 B S M c1 em en y G a9;generalize grow (redrawn wr D) o=W2 at*;clear d Z Q H a6 R T;go_wp2_with fail;go_loopw [88] (λi wr=>∃(k:Nat),k<=L.length/\i=Bn k/\Af (Vj L=Qe L k (L.length-k))/\Af (Bw K wr)) (λi _=>L.length-(intOf i).toNat);exact⟨0,by omega,rfl,I rfl,g⟩;clear g;obtain⟨k,hk,rfl,f,d⟩:=hrel;by_cases l:k<L.length
 . have⟨da,dc,M,dl,dw⟩:=(Y.1.below A d.1) k l;have Z:=As A d.1.size;have DW:=I dw;clear dw;go_wp2_with fail;refine ca (WV (Ba L k) da dc _ dl DW.1) λw2 F=>?_;have g:=I (Ab d.1 F);clear F;cases e2:Rj (Ba L k)
   . have h:=I (f.1.trans (zv2 l e2));go_wp2;go_roundw;exact⟨k+1,by omega,by go_num,h,g⟩;simp[intOf];omega
   have h:=f.1.trans (CQ l e2);have u:Af (Fu t c p L=0):=I (a8.1.trans (iP h));clear h;go_wp2;go_ret;exact⟨ze u.1.symm,Ab q.1 g.1⟩
 obtain rfl:k=L.length:=by omega
 have u:Af (Fu t c p L=14):=I (a8.1.trans (iN (by rw[f.1,CR];decide)));clear f hk l;go_wp2;go_ret;exact⟨ze u.1.symm,Ab q.1 d.1⟩
theorem zV(a b:BA):(a.toList==b.toList)=decide (a=b):=by
 rw[Bool.eq_iff_iff,decide_eq_true_eq];constructor;intro h;have c:=iT h;all_goals simp_all[Lib.toList_data]
def UU(l:LB)(s:BA)(w:Wd)(e:Ending)(w':Wd):Prop:=∃n:Int,e=.returned n/\((0<=n/\Ao l s=true)\/(n<0/\Ao l s=false))/\w=w'
theorem TA{l:LB}(h:k<l.length)(e:s=Bl l k):Ao l s=true:=by
 grind[Ao,Bl]
theorem zqq{l:LB}(h:∀i,i<l.length->s≠Bl l i):Ao l s=false:=by
 grind[Ao,List.mem_iff_getElem,Bl]
def NN(l:LB)(s:BA)(a:Ae)(cap:Nat)(w:Wd)(g:Lz w a l)(o:l.length<=1000000):Calls prog 157 #[CU a l.length cap,B_ s] w (UU l s w):=by
 have j:=I g;clear g;go_in;go_wp2_with fail;go_loop [5,8] (λ_ i=>∃k:Nat,k<=l.length/\i=Bn k/\Af (∀i,i<k->s≠Bl l i)) (λ_ i=>l.length-(intOf i).toNat);exact⟨0,Bg _,rfl,I (λi hi=>aB hi (Nat.not_lt_zero _))⟩;obtain⟨k,p,rfl,h⟩:=hrel;by_cases c:k<l.length
 . obtain⟨b,m,rfl,q,d⟩:=j.1.cells (by omega);have r:=d k c;clear d;by_cases e:s=Bl l k
   . have n:(s.toList==(Bl l k).toList)=true:=by rw[zV];simpa using e
     have f:=I e;clear e;go_wp2;go_ret;exact⟨_,rfl,.inl ⟨by omega,TA c f.1⟩,rfl⟩
   have n:(s.toList==(Bl l k).toList)=false:=by rw[zV];simpa using e
   have f:=I e;clear e;go_wp2;go_round;exact⟨k+1,by omega,by go_num,I (λi hi=>if e:i=k then by subst e;exact f.1 else h.1 i (by omega))⟩;simp[intOf];omega
 obtain rfl:k=l.length:=by omega
 go_wp2;go_ret;exact⟨_,rfl,.inr ⟨by decide,zqq h.1⟩,rfl⟩
def IB(l:LB)(s:BA)(a:Ae)(cap:Nat)(w:Wd)(f:Lz w a l)(g:l.length<=1000000):CE 96 #[CU a l.length cap,B_ s] w (.bool (Ao l s)):=by
 delta CE;go_in;go_wp2_with fail;refine(NN l s a cap w f g).mono ?_;rintro e i ⟨n,rfl,h,rfl⟩;rcases h with⟨c,b⟩|⟨c,b⟩
 . have d:=I b;go_wp2;go_ret;exact⟨zz (by rw[d.1] <;> simp[c]),rfl⟩
 have d:=I b;go_wp2;go_ret;exact⟨zz (by rw[d.1] <;> simp[c]),rfl⟩
def Do(l:List (BA×Int))(k:Nat):BA×Int:=l.getD k (ByteArray.empty,0)
def xD(w:Wd)(b off:Nat)(l:List (BA×Int)):Prop:=∀i,i<l.length->w.cell? (aD b (off+i*2))=some (.string (Do l i).1)/\w.cell? (aD b (off+i*2+1))=some (Bn (Do l i).2)
def Jk(w:Wd)(a:Ae)(l:List (BA×Int)):Prop:=l= []\/∃b off,a=some (aD b off)/\b<w.heap.size/\xD w b off l
def Jk.below(h:Jk w a l)(c:Bw w w'):Jk w' a l:=by
 rcases h with h|⟨b,d,h,e,f⟩;exact .inl h;exact .inr ⟨b,d,h,As e c.size,λi hi=>⟨zj (f i hi).1 e c,zj (f i hi).2 e c⟩⟩
theorem Jk.cells(h:Jk w a l)(c:0<l.length):∃b off,a=some (aD b off)/\b<w.heap.size/\xD w b off l:=by
 rcases h with rfl|h;all_goals grind
def Nh:List (BA×Int)->BA->Int×Int
 |[],_=>(0,6)
 |x::l,s=>if x.1=s then(x.2,0) else Nh l s
theorem kC(l:List (BA×Int))(k:Nat)(h:k<l.length):l.drop k=Do l k::l.drop (k+1):=by
 grind[Do,List.drop_eq_getElem_cons]
theorem VH(h:k<l.length)(e:(Do l k).1=s):Nh (l.drop k) s=((Do l k).2,0):=by grind[kC,Nh]
theorem Wx(h:k<l.length)(e:¬ (Do l k).1=s):Nh (l.drop k) s=Nh (l.drop (k+1)) s:=by grind[kC,Nh]
theorem VI(h:¬ k<l.length):Nh (l.drop k) s=(0,6):=by grind[List.drop_of_length_le,Nh]
def tK(l:List (BA×Int))(s:BA)(a:Ae)(cap:Nat)(w:Wd)(n:Jk w a l)(t:l.length<=2^47):CV 15 #[CU a l.length cap,B_ s] w (.tuple #[Bn (Nh l s).1,Bn (Nh l s).2]):=by
 have o:=I n;delta CV;go_in;go_wp2_with fail;go_loopw [10] (λi wr=>∃k:Nat,k<=l.length/\i=Bn k/\Af (Nh l s=Nh (l.drop k) s)/\Af (Bw w wr)) (λi _=>l.length-(intOf i).toNat);exact⟨0,Bg _,rfl,I rfl,I (An _ _)⟩;obtain⟨k,u,rfl,h,g⟩:=hrel;by_cases c:k<l.length
 . obtain⟨b,p,rfl,j,d⟩:=o.1.cells (by omega);have v:=zj (d k c).1 j g.1;have x:=zj (d k c).2 j g.1;have q:=As j g.1.size;by_cases e:(Do l k).1=s
   . have r:((Do l k).1.toList==s.toList)=true:=by rw[zV];simpa using e
     have f:=I (h.1.trans (VH c e));go_wp2;go_ret2;exact⟨zJ (by rw[f.1]) (by rw[f.1]),Ab g.1 (J _ _)⟩
   have r:((Do l k).1.toList==s.toList)=false:=by rw[zV];simpa using e
   have f:=I (h.1.trans (Wx c e));have m:=I (Ab g.1 (J wr (Obj.cells #[B_ (Do l k).1,Bn (Do l k).2] 116)));go_wp2;go_roundw;exact⟨k+1,by omega,by go_num,f,m⟩;simp[intOf];omega
 have f:=I (h.1.trans (VI c));obtain rfl:k=l.length:=by omega
 go_wp2;go_ret2;exact⟨zJ (by rw[f.1]) (by rw[f.1]),g.1⟩
def cI(l:List (BA×Int))(s:BA)(w:Wd)(e:Ending)(w':Wd):Prop:=∃n:Int,e=.returned n/\((n<0/\Nh l s=(0,6))\/∃k:Nat,n=k/\k<l.length/\Nh l s=((Do l k).2,0))/\w=w'
def DQ(l:List (BA×Int))(s:BA)(a:Ae)(cap:Nat)(w:Wd)(h:Jk w a l)(o:l.length<=2^47):Calls prog 107 #[CU a l.length cap,B_ s] w (cI l s w):=by
 have j:=I h;go_in;go_wp2_with fail;go_loop [5] (λi=>∃k:Nat,k<=l.length/\i=Bn k/\Af (Nh l s=Nh (l.drop k) s)) (λi=>l.length-(intOf i).toNat);exact⟨0,Bg _,rfl,I rfl⟩;obtain⟨k,p,rfl,g⟩:=hrel;by_cases c:k<l.length
 . obtain⟨b,m,rfl,q,d⟩:=j.1.cells (by omega);have r:=(d k c).1;by_cases e:(Do l k).1=s
   . have n:((Do l k).1.toList==s.toList)=true:=by rw[zV];simpa using e
     have f:=I (g.1.trans (VH c e));go_wp2;go_ret;exact⟨_,rfl,.inr ⟨k,rfl,c,f.1⟩,rfl⟩
   have n:((Do l k).1.toList==s.toList)=false:=by rw[zV];simpa using e
   have f:=I (g.1.trans (Wx c e));go_wp2;go_round;exact⟨k+1,by omega,by go_num,f⟩;simp[intOf];omega
 have f:=I (g.1.trans (VI c));obtain rfl:k=l.length:=by omega
 go_wp2;go_ret;exact⟨_,rfl,.inl ⟨by decide,f.1⟩,rfl⟩
def Ex{X:Type}(nm:X->BA)(s:BA):Nat->List X->Int
 |_, []=>-1
 |k,x::l=>if nm x=s then(k:Int) else Ex nm s (k+1) l
theorem qF{X:Type}(nm:X->BA)(s:BA):∀(k:Nat) (l:List X),(Ex nm s k l<0/\Ao (l.map nm) s=false)\/(∃j:Nat,j<l.length/\Ex nm s k l=(k+j:Nat)/\(l[j]?).map nm=some s/\∀i,i<j->(l[i]?).map nm≠some s)/\Ao (l.map nm) s=true
 |k, []=>.inl ⟨by simp[Ex],rfl⟩
 |k,x::l=>by
  rw[Ex];by_cases h:nm x=s
  . grind[Ao]
  rw[iN h];rcases qF nm s (k+1) l with⟨b,a⟩|⟨⟨j,b,a,d,f⟩,c⟩
  . grind[Ao]
  refine .inr ⟨⟨j+1,by simp;omega,by omega,by simpa using d,λi hi=>?_⟩,?_⟩
  all_goals grind[Ao]
theorem bN{X:Type}(nm:X->BA)(s:BA)(k:Nat)(l:List X):decide (0<=Ex nm s k l)=Ao (l.map nm) s:=by
 rcases qF nm s k l with⟨c,a⟩|⟨⟨j,_,a,_⟩,b⟩;all_goals grind
def Zj(l:List Cy)(s:BA):Int:=Ex Cy.name s 0 l
theorem LR{l:List Cy}(h:k<l.length)(e:(Cg l k).name=s):Ex Cy.name s k (l.drop k)=k:=by grind[eU,Ex]
theorem MW{l:List Cy}(h:k<l.length)(e:(Cg l k).name≠s):Ex Cy.name s k (l.drop k)=Ex Cy.name s (k+1) (l.drop (k+1)):=by grind[eU,Ex]
def nD(l:List Cy)(s:BA)(a:Ae)(cap:Nat)(w:Wd)(h:Al Nc w a l)(p:l.length<=2^47):CE 203 #[CU a l.length cap,B_ s] w (Zj l s):=by
 have m:=I h;delta CE;go_in;go_wp2_with fail;go_loop [5] (λi=>∃k:Nat,k<=l.length/\i=Bn k/\Af (Zj l s=Ex Cy.name s k (l.drop k))) (λi=>l.length-(intOf i).toNat);exact⟨0,Bg _,rfl,I rfl⟩;obtain⟨k,q,rfl,g⟩:=hrel;by_cases c:k<l.length
 . obtain⟨b,n,rfl,r,d⟩:=dV m.1 (by omega);have⟨t,j,u,_⟩:=d k c;by_cases e:(Cg l k).name=s
   . have o:((Cg l k).name.toList==s.toList)=true:=by rw[zV];simpa using e
     have f:=I (g.1.trans (LR c e));go_wp2;go_ret;exact⟨ze f.1.symm,rfl⟩
   have o:((Cg l k).name.toList==s.toList)=false:=by rw[zV];simpa using e
   have f:=I (g.1.trans (MW c e));go_wp2;go_round;exact⟨k+1,by omega,by go_num,f⟩;simp[intOf];omega
 obtain rfl:k=l.length:=by omega
 have f:=I (g.1.trans (by rw[Gk,Ex]));go_wp2;go_ret;exact⟨ze f.1.symm,rfl⟩
def Nd(l:List Bh)(s:BA):Int:=Ex Bh.code s 0 l
theorem OY{l:List Bh}(h:k<l.length)(e:(Ct l k).code=s):Ex Bh.code s k (l.drop k)=k:=by grind[bQ,Ex]
theorem UI{l:List Bh}(h:k<l.length)(e:(Ct l k).code≠s):Ex Bh.code s k (l.drop k)=Ex Bh.code s (k+1) (l.drop (k+1)):=by grind[bQ,Ex]
def Pf(l:List Bh)(s:BA)(a:Ae)(cap:Nat)(w:Wd)(h:Al Mk w a l)(o:l.length<=2^47):CE 74 #[CU a l.length cap,B_ s] w (Nd l s):=by
 have j:=I h;delta CE;go_in;go_wp2_with fail;go_loop [5] (λi=>∃k:Nat,k<=l.length/\i=Bn k/\Af (Nd l s=Ex Bh.code s k (l.drop k))) (λi=>l.length-(intOf i).toNat);exact⟨0,Bg _,rfl,I rfl⟩;obtain⟨k,p,rfl,g⟩:=hrel;by_cases c:k<l.length
 . obtain⟨b,m,rfl,q,d⟩:=eF j.1 (by omega);have⟨r,_⟩:=d k c;by_cases e:(Ct l k).code=s
   . have n:((Ct l k).code.toList==s.toList)=true:=by rw[zV];simpa using e
     have f:=I (g.1.trans (OY c e));go_wp2;go_ret;exact⟨ze f.1.symm,rfl⟩
   have n:((Ct l k).code.toList==s.toList)=false:=by rw[zV];simpa using e
   have f:=I (g.1.trans (UI c e));go_wp2;go_round;exact⟨k+1,by omega,by go_num,f⟩;simp[intOf];omega
 obtain rfl:k=l.length:=by omega
 have f:=I (g.1.trans (by rw[Gk,Ex]));go_wp2;go_ret;exact⟨ze f.1.symm,rfl⟩
