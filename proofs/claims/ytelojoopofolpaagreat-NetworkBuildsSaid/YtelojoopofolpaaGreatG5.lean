/- a part of the proof -/
import Derived.Test.YtelojoopofolpaaGreatG4
set_option linter.all false
set_option maxRecDepth 100000
set_option maxHeartbeats 3000000
namespace Go.Proofs.YtelojoopofolpaaGreat
open Go.RowKit Go.Sort Go.Proofs.Tryz
variable {w w':Wd}{b k:Nat}{a:Ae}{l:List (BA×Int)}{s:BA}
def Eb(c:Ad)(k:Int)(x:zH):zE:=Bj (Ec c.cs c.cs.length) k x
def Fm(c:Ad)(l:List It)(k:Nat):List (BA×zE):=(l.filter λr=>decide (r.sc=(k:Int))).map λr=>(r.name,Eb c k r.ex)
def Eu(c:Ad)(l:List Ky)(k:Nat):List zE:=(l.filter λr=>decide (r.sc=(k:Int))).map λr=>Eb c k r.ex
def Sg(c:Ad)(k:Nat):List (BA×zE):=Fm c c.rs k
def Ra(c:Ad)(k:Nat):List zE:=Eu c c.ks k
def Jf(c:Ad):List zE:=c.xs.map (Eb c 1)
def Ox(zs:List Cy)(s:BA):Option Cy:=zs.reverse.find? λz=>decide (z.name=s)
def Fq(l:List Bh)(s:BA):Option Bh:=l.reverse.find? λa=>decide (a.code=s)
def Lk:Cy:=⟨ByteArray.empty,0, []⟩
def zp(t:At)(s:BA):Cy:=match Fq t.ai s with
 |some a=>(Ox t.zn a.zone).getD Lk
 |none=>Lk
def Iz(w:Wd)(v:Value)(z:Cy):Prop:=∃a cap,v=.agg #[.string z.name,z.off,.slice a z.sh.length cap]/\Cj w a z.sh/\z.name.size<=140737488355328/\z.sh.length<=140737488355328
theorem Iz.below{v:Value}{z:Cy}(h:Iz w v z)(c:Bw w w'):Iz w' v z:=by
 obtain⟨a,b,d,e,f⟩:=h;exact⟨a,b,d,e.below c,f⟩
def Zl(w:Wd)(b:Nat)(t:At):Prop:=∃M,Dl prog w b .string M/\∀s,(Fq t.ai s=none->Bz M (.string s)=none)/\(Fq t.ai s≠none->∃v,Bz M (.string s)=some v/\Iz w v (zp t s))
theorem Zl.below{t:At}(h:Zl w b t)(a:Bw w w'):Zl w' b t:=by
 obtain⟨M,d,c⟩:=h;refine⟨M,d.below a,λs=>⟨(c s).1,λhs=>?_⟩⟩;obtain⟨v,e,f⟩:=(c s).2 hs;exact⟨v,e,f.below a⟩
def Eh(l:List (BA×zE))(k:Nat):BA×zE:=l.getD k (ByteArray.empty,.mk 0 0 [])
def noX:Nat->Prop:=λ_=>False
def Zd(w:Wd)(a:Ae)(l:List (BA×zE)):Prop:=l= []\/∃b off,a=some (aD b off)/\b<w.heap.size/\∀i,i<l.length->w.cell? (aD b (off+i*4))=some (.string (Eh l i).1)/\(Eh l i).1.size<=140737488355328/\zX noX w b (off+i*4+1) [(Eh l i).2]
theorem Zd.below{l:List (BA×zE)}(h:Zd w a l)(c:Bw w w'):Zd w' a l:=by
 rcases h with h|⟨b,d,g,f,e⟩;exact .inl h;exact .inr ⟨b,d,g,As f c.size,λi hi=>⟨zj (e i hi).1 f c,(e i hi).2.1,(e i hi).2.2.kept c⟩⟩
structure Dh where
 za:Option Addr
 zc:Nat
 aa:Option Addr
 ac:Nat
 fa:Option Addr
 fc:Nat
 con:Bd
 zb:Nat
 ra:Nat->Option Addr
 rc:Nat->Nat
 ka:Nat->Option Addr
 kc:Nat->Nat
 xa:Option Addr
 xc:Nat
 nights:Bool
def AS(t:At)(c:Ad)(P:Dh):Array Value:=#[.slice P.za t.zn.length P.zc,.slice P.aa t.ai.length P.ac,.slice P.fa t.fs.length P.fc,.int .i64 c.rp,.int .i64 c.rl,.int .i64 c.cn,.int .i64 c.sit,.int .i64 c.lv,.int .i64 c.nf,.int .i64 c.nt,.slice P.con.ca c.cs.length P.con.cc,.slice P.con.ra c.rs.length P.con.rc,.slice P.con.ka c.ks.length P.con.kc,.slice P.con.xa c.xs.length P.con.xc,.slice P.con.la c.ls.length P.con.lc,.slice P.con.oa c.oz.length P.con.oc,.int .i64 c.gu,.map (some P.zb),.slice (P.ra 0) (Sg c 0).length (P.rc 0),.slice (P.ra 1) (Sg c 1).length (P.rc 1),.slice (P.ra 2) (Sg c 2).length (P.rc 2),.slice (P.ra 3) (Sg c 3).length (P.rc 3),.slice (P.ka 0) (Ra c 0).length (P.kc 0),.slice (P.ka 1) (Ra c 1).length (P.kc 1),.slice (P.ka 2) (Ra c 2).length (P.kc 2),.slice (P.ka 3) (Ra c 3).length (P.kc 3),.slice P.xa (Jf c).length P.xc,.bool P.nights]
structure Hl(w:Wd)(sb:Nat)(t:At)(c:Ad)(P:Dh):Prop where
 box:w.heap[sb]?=some (.cells (AS t c P) 162 (0,0))
 okT:zY t=0
 okC:Ax c=0
 fs:Al Hi w P.fa t.fs
 zn:Zl w P.zb t
 rs:∀k,k<4->Zd w (P.ra k) (Sg c k)
 ks:∀k,k<4->Gi noX w (P.ka k) (Ra c k)
 xs:Gi noX w P.xa (Jf c)
theorem Hl.lt{a:Nat}{t:At}{c:Ad}{P:Dh}(h:Hl w a t c P):a<w.heap.size:=Ag h.box
theorem Hl.below{t:At}{c:Ad}{P:Dh}(h:Hl w b t c P)(a:Bw w w'):Hl w' b t c P where
 box:=(a.block _ h.lt).trans h.box
 okT:=h.okT
 okC:=h.okC
 fs:=h.fs.below a
 zn:=h.zn.below a
 rs:=λk hk=>(h.rs k hk).below a
 ks:=λk hk=>(h.ks k hk).below a
 xs:=h.xs.below a
theorem On{t:At}(h:zY t=0):t.zn.length<=16/\t.ai.length<=64/\t.fs.length<=200:=by
 unfold zY at h;by_cases a:16<t.zn.length\/64<t.ai.length\/200<t.fs.length;rw[iP a]at h;omega;omega
theorem pJ{b:LB}:∀{l:List Ft} {p:Option Ft},Dw b p l=0->∀f∈l,El b f=0
 |[],_,_,f,a=>by simp at a
 |g::l,p,h,f,a=>by
  rw[Dw]at h;by_cases c:El b g≠0
  . rw[iP c]at h;exact aB h c
  rw[iN c]at h;have d:El b g=0:=Classical.not_not.1 c;by_cases e:p.any (λq=>!Oq q g)=true
  . rw[iP e]at h;omega
  rw[iN e]at h;rcases List.mem_cons.1 a with rfl|a
  . exact d
  exact pJ h f a
theorem NE{t:At}(h:zY t=0):∃ar,Dw ar none t.fs=0:=by
 unfold zY at h;by_cases c:16<t.zn.length\/64<t.ai.length\/200<t.fs.length;rw[iP c]at h;omega;rw[iN c]at h;by_cases a:(Ca [] t.zn).1≠0;rw[iP a]at h;exact aB h a;rw[iN a]at h;by_cases b:(Cb (Ca [] t.zn).2 [] t.ai).1≠0;rw[iP b]at h;exact aB h b;rw[iN b]at h;exact⟨_,h⟩
theorem TD{l:List Ft}(h:k<l.length):Aa l k∈l:=by
 unfold Aa;rw[Cr,Cz h];exact gM h
theorem Lu{t:At}(h:zY t=0){i:Nat}(g:i<t.fs.length):2880<=(Aa t.fs i).dp/\(Aa t.fs i).ar<=52593120/\(Aa t.fs i).dp<(Aa t.fs i).ar/\(Aa t.fs i).ar-(Aa t.fs i).dp<=1440:=by
 obtain⟨b,j⟩:=NE h;have a:=pJ j _ (TD g);unfold El at a;by_cases c:(Oz (Aa t.fs i).num.data.toList&&Gu (Aa t.fs i).ty.data.toList)=false;rw[iP c]at a;omega;rw[iN c]at a;by_cases d:(Ao b (Aa t.fs i).fq&&Ao b (Aa t.fs i).to)=false;rw[iP d]at a;omega;rw[iN d]at a;by_cases e:((Aa t.fs i).fq.toList==(Aa t.fs i).to.toList)=true;rw[iP e]at a;omega;rw[iN e]at a;by_cases f:Pj (Aa t.fs i)=false;rw[iP f]at a;omega;have:Pj (Aa t.fs i)=true:=by simpa using f
 simpa[Pj] using this
theorem Ul{c:Ad}(h:Ax c=0):(0<=c.rp/\c.rp<=1440)/\(0<=c.rl/\c.rl<=1440)/\(0<=c.cn/\c.cn<=1440)/\(c.cn<=c.sit/\c.sit<=1440)/\(0<=c.lv/\c.lv<=10080)/\(0<=c.nf/\c.nf<=1439)/\(0<=c.nt/\c.nt<=1439):=by
 have b:Cf c=0:=by
  unfold Ax at h;by_cases a:Cf c≠0;rw[iP a]at h;exact aB h a;exact Classical.not_not.1 a
 have d:Mh c=true:=by
  unfold Cf at b;by_cases a:Mh c=false;rw[iP a]at b;omega;simpa using a
 simp only[Mh,Em,Om]at d;obtain⟨⟨⟨⟨⟨⟨⟨e,a⟩,f⟩,g⟩,i⟩,j⟩,k⟩,l⟩:=d;exact⟨e,a,f,g,i,j,k⟩
theorem KK(w:Wd)(b:Nat)(t:At)(c:Ad)(P:Dh)(a:Hl w b t c P)(i:Int):CE 159 #[hZ b 0,i] w (.bool (decide (0<=i)&&decide (i<t.fs.length))):=by
 have d:=zC a.box;have f:=a.lt;by_cases h:0<=i
 . delta CE;go_in;go_wp2;go_ret;exact⟨zz (by simp[h]),rfl⟩
 delta CE;go_in;go_wp2;go_ret;exact⟨zz (by simp[h];omega),rfl⟩
theorem Pe(w:Wd)(g:Nat)(t:At)(c:Ad)(P:Dh)(f:Hl w g t c P)(i:Nat)(j:i<t.fs.length)(b a:Nat)(d:P.fa=some (aD b a)):CE 115 #[hZ g 0,i] w (hZ b (a+i*9)):=by
 have h:=zC f.box;have k:=f.lt;have l:=(On f.okT).2.2;rw[d]at h;delta CE;go_in;go_wp2;go_ret;exact⟨rfl,rfl⟩
theorem kR(w:Wd):(zeroValue 165).run prog w=.ok (.agg #[.string ByteArray.empty,Bn 0,Hn]) w:=by kernel_rfl
def Mo(t:At)(s:BA):Bool:=(Fq t.ai s).isSome
theorem VY{t:At}(h:Zl w b t)(s:BA):∃a c,((Instr.lookup 156 (.map (some b)) (.string s) true).run prog w=.ok (.tuple #[.agg #[.string (zp t s).name,(zp t s).off,.slice a (zp t s).sh.length c],.bool (Mo t s)]) w)/\((Instr.lookup 156 (.map (some b)) (.string s) false).run prog w=.ok (.agg #[.string (zp t s).name,(zp t s).off,.slice a (zp t s).sh.length c]) w)/\Cj w a (zp t s).sh/\(zp t s).name.size<=2^47/\(zp t s).sh.length<=2^47:=by
 obtain⟨M,g,i⟩:=h;have e:=dW underlying156 underlying9 g (key:=.string s) trivial (kR _);have f:=aU underlying156 underlying9 g (key:=.string s) trivial (kR _);cases d:Fq t.ai s with
 |none=>
  rw[(i s).1 d]at e f;have j:zp t s=Lk:=by simp[zp,d]
  rw[j];exact⟨none,0,by rw[e];simp[Mo,d,Lk],by rw[f];simp[Lk],.inl rfl,by simp[Lk],by simp[Lk]⟩
 |some a=>
  obtain⟨v,k,l,c,rfl,m,n,o⟩:=(i s).2 (by rw[d];simp);rw[k]at e f;exact⟨l,c,by rw[e];simp[Mo,d],by rw[f];simp,m,n,o⟩
theorem zut(w:Wd)(d:Nat)(t:At)(c:Ad)(P:Dh)(b:Hl w d t c P)(s:BA):CV 38 #[hZ d 0,.string s] w (.bool (Mo t s)):=by
 have f:=BN b.box;have h:=b.lt;obtain⟨a,g,i,_,_⟩:=VY b.zn s;delta CV;go_in;go_wp2;go_ret;exact⟨rfl,J _ _⟩
theorem NK{t:At}(h:Zl w b t)(g:Bw w w')(s:BA):∃a c,((Instr.lookup 156 (.map (some b)) (.string s) false).run prog w'=.ok (.agg #[.string (zp t s).name,(zp t s).off,.slice a (zp t s).sh.length c]) w')/\Cj w a (zp t s).sh/\(zp t s).name.size<=2^47/\(zp t s).sh.length<=2^47:=by
 obtain⟨M,i,f⟩:=h;have d:=aU underlying156 underlying9 (i.below g) (key:=.string s) trivial (kR _);cases e:Fq t.ai s with
 |none=>
  rw[(f s).1 e]at d;have j:zp t s=Lk:=by simp[zp,e]
  rw[j];exact⟨none,0,by rw[d];simp[Lk],.inl rfl,by simp[Lk],by simp[Lk]⟩
 |some a=>
  obtain⟨v,k,l,c,rfl,m,n,o⟩:=(f s).2 (by rw[e];simp);rw[k]at d;exact⟨l,c,by rw[d];simp,m,n,o⟩
def Jj(t:At)(c:Ad)(i j:Nat):Bool:=((Aa t.fs i).to.toList==(Aa t.fs j).fq.toList)&&decide (c.cn<=(Aa t.fs j).dp-(Aa t.fs i).ar)&&decide ((Aa t.fs j).dp-(Aa t.fs i).ar<=c.sit)
def Gp(t:At)(n:Int):Bool:=decide (0<=n)&&decide (n<t.fs.length)
theorem Qh{t:At}{n:Int}(h:Gp t n=true):∃m:Nat,n=m/\m<t.fs.length:=by
 simp only[Gp,Em,decide_eq_true_eq]at h;obtain⟨m,rfl⟩:=Int.eq_ofNat_of_zero_le h.1;exact⟨m,rfl,by omega⟩
def Fi(t:At)(d:Ai)(k:Nat):Int:=if Gp t (Cm d k).1=true then 0 else 6
def Hq(t:At)(c:Ad)(d:Ai)(k:Nat):Int:=if Jj t c (Cm d (k-1)).1.toNat (Cm d k).1.toNat=true then 0 else 14
def Cc(t:At)(c:Ad)(d:Ai):Int:=if d.length<1\/6<d.length then 5 else if Av (Fi t d) 0 (d.length-0)≠0 then Av (Fi t d) 0 (d.length-0) else Av (Hq t c d) 1 (d.length-1)
theorem Ti{f:Nat->Int}:∀(m k:Nat),Av f k m=0->∀j,k<=j->j<k+m->f j=0
 |0,k,_,j,h1,h2=>by omega
 |m+1,k,h,j,h1,h2=>by
  rw[Av]at h;by_cases a:f k≠0
  . rw[iP a]at h;exact aB h a
  rw[iN a]at h;by_cases e:j=k
  . subst e;exact Classical.not_not.1 a
  exact Ti m (k+1) h j (by omega) (by omega)
theorem Ka{t:At}{c:Ad}{d:Ai}(h:Cc t c d=0):1<=d.length/\d.length<=6/\(∀k,k<d.length->Gp t (Cm d k).1=true)/\∀k,1<=k->k<d.length->Jj t c (Cm d (k-1)).1.toNat (Cm d k).1.toNat=true:=by
 unfold Cc at h;by_cases a:d.length<1\/6<d.length;rw[iP a]at h;omega;rw[iN a]at h;by_cases b:Av (Fi t d) 0 (d.length-0)≠0;rw[iP b]at h;exact aB h b;rw[iN b]at h;have f:=Ti _ _ (Classical.not_not.1 b);have g:=Ti _ _ h;refine⟨by omega,by omega,λk hk=>?_,λk a hk=>?_⟩;have:=f k (by omega) (by omega);unfold Fi at this;by_cases e:Gp t (Cm d k).1=true;exact e;rw[iN e]at this;omega;have:=g k a (by omega);unfold Hq at this;by_cases e:Jj t c (Cm d (k-1)).1.toNat (Cm d k).1.toNat=true;exact e;rw[iN e]at this;omega
theorem KT(w:Wd)(n:Nat)(t:At)(c:Ad)(P:Dh)(o:Hl w n t c P)(i j:Nat)(g:i<t.fs.length)(h:j<t.fs.length):CV 160 #[hZ n 0,i,j] w (.bool (Jj t c i j)):=by
 obtain⟨b,d,u,l,p⟩:=Qg o.fs (by omega);obtain⟨⟨B,C,q,D,Y,E,_,_,_⟩,_⟩:=p i g;obtain⟨⟨F,r,G,Z,H,K,_,_,_⟩,_⟩:=p j h;obtain⟨a0,a1,a2,a3⟩:=Lu o.okT g;obtain⟨a4,a5,a6,a7⟩:=Lu o.okT h;have L:=Lg o.box;have M:=Mf o.box;have m:=o.lt;have s:=I o;have f:=I u;have N:-52593120<=(Aa t.fs j).dp-(Aa t.fs i).ar:=by omega
 have Q:(Aa t.fs j).dp-(Aa t.fs i).ar<=52593120:=by omega
 cases S:((Aa t.fs i).to.toList==(Aa t.fs j).fq.toList)
 . have v:=I (show Jj t c i j=false by simp[Jj,S]);delta CV;go_in;go_wp2_with fail;refine cb (Pe w n t c P s.1 i g b d f.1) ?_;go_wp2_with fail;refine cb (Pe w n t c P s.1 j h b d f.1) ?_;go_wp2;go_quiet (fail);have a:=dN (An w.heap.size w) nq;have T:=zj q l a;have U:=zj r l a;have V:=zj L m a;have W:=zj M m a;have y:=As l a.size;have z:=As m a.size;have k:=I a;generalize w.drewN nq=X at*;go_wp2;go_quiet (fail);go_wp2;go_ret;exact⟨zz v.1.symm,Ab k.1 (dN (An _ _) _)⟩
 by_cases A:c.cn<=(Aa t.fs j).dp-(Aa t.fs i).ar
 . have v:=I (show Jj t c i j=decide ((Aa t.fs j).dp-(Aa t.fs i).ar<=c.sit) by simp[Jj,S,A]);have R:decide (c.cn<=(Aa t.fs j).dp-(Aa t.fs i).ar)=true:=by simpa using A
   delta CV;go_in;go_wp2_with fail;refine cb (Pe w n t c P s.1 i g b d f.1) ?_;go_wp2_with fail;refine cb (Pe w n t c P s.1 j h b d f.1) ?_;go_wp2;go_quiet (fail);have a:=dN (An w.heap.size w) nq;have T:=zj q l a;have U:=zj r l a;have V:=zj L m a;have W:=zj M m a;have y:=As l a.size;have z:=As m a.size;have k:=I a;generalize w.drewN nq=X at*;go_wp2;go_quiet (fail);go_wp2;go_ret;exact⟨zz v.1.symm,Ab k.1 (dN (An _ _) _)⟩
 have v:=I (show Jj t c i j=false by simp[Jj,A]);have R:decide (c.cn<=(Aa t.fs j).dp-(Aa t.fs i).ar)=false:=by simpa using A
 delta CV;go_in;go_wp2_with fail;refine cb (Pe w n t c P s.1 i g b d f.1) ?_;go_wp2_with fail;refine cb (Pe w n t c P s.1 j h b d f.1) ?_;go_wp2;go_quiet (fail);have a:=dN (An w.heap.size w) nq;have T:=zj q l a;have U:=zj r l a;have V:=zj L m a;have W:=zj M m a;have y:=As l a.size;have z:=As m a.size;have k:=I a;generalize w.drewN nq=X at*;go_wp2;go_quiet (fail);go_wp2;go_ret;exact⟨zz v.1.symm,Ab k.1 (dN (An _ _) _)⟩
theorem KU(w:Wd)(a:Nat)(t:At)(c:Ad)(P:Dh)(b:Hl w a t c P)(i j:Int)(d:Gp t i=true)(f:Gp t j=true):CV 160 #[hZ a 0,i,j] w (.bool (Jj t c i.toNat j.toNat)):=by
 obtain⟨m,rfl,g⟩:=Qh d;obtain⟨n,rfl,h⟩:=Qh f;exact KT w a t c P b m n g h
theorem gD(w:Wd)(G:Nat)(t:At)(c:Ad)(P:Dh)(T:Hl w G t c P)(d:Ai)(a:Ae)(cap:Nat)(hl:d.length<=2^47)(U:Al Ei w a d):CV 91 #[hZ G 0,.slice a d.length cap] w (Cc t c d):=by
 have V:=I T;have HA:=I U;by_cases g1:(d.length:Int)<1
 . have H:=I (show Cc t c d=5 from iP (.inl (by omega)));delta CV;go_in;go_wp2;go_ret;exact⟨ze H.1.symm,An _ _⟩
 by_cases g2:(6:Int)<(d.length:Int)
 . have H:=I (show Cc t c d=5 from iP (.inr (by omega)));delta CV;go_in;go_wp2;go_ret;exact⟨ze H.1.symm,An _ _⟩
 have K:=I (show Cc t c d=if Av (Fi t d) 0 (d.length-0)≠0 then Av (Fi t d) 0 (d.length-0) else Av (Hq t c d) 1 (d.length-1) from iN (by omega));obtain⟨b,a0,rfl,y,z⟩:=Ok HA.1 (by omega);have q:=I z;delta CV;go_in;go_wp2_with fail;go_loopw [18] (λi wr=>∃(k:Nat),k<=d.length/\i=Bn k/\Af (Av (Fi t d) 0 (d.length-0)=Av (Fi t d) k (d.length-k))/\Af (∀j,j<k->Gp t (Cm d j).1=true)/\Af (Bw w wr)) (λi _=>d.length-(intOf i).toNat);exact⟨0,Bg _,rfl,I rfl,I (λj hj=>by omega),I (An _ _)⟩;obtain⟨k,W,rfl,g,o,f⟩:=hrel;by_cases l:k<d.length
 . obtain⟨L,M⟩:=(q.1.below y f.1) k l;have N:=As y f.1.size;have r:=I (Ab f.1 (J wr (oT (Cm d k).1 (Cm d k).2)));have s:=I (V.1.below r.1);go_wp2_with fail;refine cb (KK _ G t c P s.1 (Cm d k).1) ?_;have A:(decide (0<=(Cm d k).1)&&decide ((Cm d k).1<t.fs.length))=Gp t (Cm d k).1:=rfl;rw[A];cases p:Gp t (Cm d k).1
   . have u:Fi t d k=6:=by simp[Fi,p]
     have h:=I (g.1.trans (Mc l (by rw[u];decide)));have B:=I (show Cc t c d=6 from K.1.trans (by rw[h.1,u];rfl));go_wp2;go_ret;exact jP B r
   have h:=I (g.1.trans (Ns l (by simp[Fi,p])));have v:=I (show ∀j,j<k+1->Gp t (Cm d j).1=true from λj hj=>by
    by_cases ej:j=k
    . subst ej;exact p
    exact o.1 j (by omega))
   go_wp2;go_roundw;exact⟨k+1,by omega,by go_num,h,v,r⟩;simp[intOf];omega
 obtain rfl:k=d.length:=by omega
 have h:=I (g.1.trans (Nq _ _));have C:=I (show Cc t c d=Av (Hq t c d) 1 (d.length-1) from K.1.trans (by rw[h.1];rfl));go_wp2_with fail;obtain⟨Q,rfl⟩:∃Q:Wd,Q=wr:=⟨_,rfl⟩;go_loopw [7] (λi wr=>∃(k:Nat),1<=k/\k<=d.length/\i=Bn k/\Af (Av (Hq t c d) 1 (d.length-1)=Av (Hq t c d) k (d.length-k))/\Af (Bw w wr)) (λi _=>d.length-(intOf i).toNat);exact⟨1,by omega,by omega,rfl,I rfl,f⟩;obtain⟨k,a1,W,rfl,g,f⟩:=hrel;by_cases l:k<d.length
 . obtain⟨m,rfl⟩:∃m,k=m+1:=⟨k-1,by omega⟩;have L:=((q.1.below y f.1) m (by omega)).1;have M:=((q.1.below y f.1) (m+1) l).1;have N:=As y f.1.size;have X:=o.1 m (by omega);have Y:=o.1 (m+1) l;have s:=I (V.1.below f.1);have R:=I (λdd os=>Fa (KU (grow (redrawn wr dd) os) G t c P (s.1.below (bR wr dd os)) (Cm d m).1 (Cm d (m+1)).1 X Y));have em:IntKind.i64.wrap (((m+1:Nat):Int)-1)=(m:Int):=by rw[wI];omega
   have ec:((m+1:Nat):Int)=(m:Int)+1:=by omega
   go_wp2_with fail;have r0:=cR L;have r1:=cR M;refine wRa ?_;repeat (first|go_big_quiet_step (with_reducible exact R.1 _ _)|quiet_step (with_reducible exact R.1 _ _))
   refine wpQuiet_nil ?_;intro _ S;obtain⟨⟨Z,D⟩,E⟩:=S;subst E;have F:=I (Ab f.1 (bR wr Z D));have n:Jj t c (Cm d m).1.toNat (Cm d (m+1)).1.toNat=Jj t c (Cm d (m+1-1)).1.toNat (Cm d (m+1)).1.toNat:=rfl;generalize grow (redrawn wr Z) D=W2 at*;cases p:Jj t c (Cm d m).1.toNat (Cm d (m+1)).1.toNat
   . have x:Hq t c d (m+1)=14:=by rw[p]at n;simp[Hq,<-n,p]
     have h:=I (g.1.trans (Mc l (by rw[x];decide)));have B:=I (show Cc t c d=14 from C.1.trans (by rw[h.1,x]));go_wp2;go_ret;exact jP B F
   have h:=I (g.1.trans (Ns l (by rw[p]at n;simp[Hq,<-n,p])));go_wp2;go_roundw;exact⟨m+1+1,by omega,by omega,by go_num,h,F⟩;simp[intOf];omega
 obtain rfl:k=d.length:=by omega
 have B:=I (show Cc t c d=0 from C.1.trans (g.1.trans (Nq _ _)));go_wp2;go_ret;exact jP B f
def fstN(d:Ai):Nat:=(Cm d 0).1.toNat
def lstN(d:Ai):Nat:=(Cm d (d.length-1)).1.toNat
theorem eE(w:Wd){a:Nat}(h:b≠a)(o c d:Nat)(f g:Value):((w.setCell (aD a c) f).setCell (aD a d) g).drew.cell? (aD b o)=w.cell? (aD b o):=by
 have e:((w.setCell (aD a c) f).setCell (aD a d) g).drew.heap[b]?=w.heap[b]?:=by
  show((w.setCell (aD a c) f).setCell (aD a d) g).heap[b]?=w.heap[b]?;rw[Below.heap_setCell _ _ _ _ h,Below.heap_setCell _ _ _ _ h]
 simp only[World.cell?,e]
theorem vQ(w:Wd){a:Nat}(h:b≠a)(o c d:Nat)(e f:Value):((w.setCell (aD a c) e).setCell (aD a d) f).cell? (aD b o)=w.cell? (aD b o):=eE w h o c d e f
theorem Jl{t:At}{c:Ad}{d:Ai}(h:Cc t c d=0):((Cm d 0).1=(fstN d:Int))/\fstN d<t.fs.length/\((Cm d (d.length-1)).1=(lstN d:Int))/\lstN d<t.fs.length:=by
 obtain⟨i,j,e,_⟩:=Ka h;obtain⟨m,f,a⟩:=Qh (e 0 (by omega));obtain⟨n,g,b⟩:=Qh (e (d.length-1) (by omega));unfold fstN lstN;rw[f,g];exact⟨rfl,a,rfl,b⟩
theorem Hr(w:Wd)(k:Nat)(t:At)(c:Ad)(P:Dh)(l:Hl w k t c P)(d:Ai)(a:Ae)(cap:Nat)(m:Cc t c d=0)(o:Al Ei w a d):CE 105 #[hZ k 0,.slice a d.length cap] w (.string (Aa t.fs (fstN d)).fq):=by
 obtain⟨y,z,q,_⟩:=Ka m;obtain⟨p,f,_,_⟩:=Jl m;obtain⟨b,r,rfl,A,g⟩:=Ok o (by omega);have s:=(g 0 (by omega)).1;rw[p,Nat.zero_mul,Nat.add_zero]at s;obtain⟨u,h,i,v,j⟩:=Qg l.fs (by omega);obtain⟨⟨B,C,D,E,F,G,_,_,_⟩,_⟩:=j (fstN d) f;have x:=I l;have n:=I i;delta CE;go_in;go_wp2_with fail;refine cb (Pe w k t c P x.1 (fstN d) f u h n.1) ?_;go_wp2;go_ret;exact⟨rfl,rfl⟩
theorem Jy(w:Wd)(k:Nat)(t:At)(c:Ad)(P:Dh)(l:Hl w k t c P)(d:Ai)(a:Ae)(cap:Nat)(m:Cc t c d=0)(q:Al Ei w a d):CE 106 #[hZ k 0,.slice a d.length cap] w (.string (Aa t.fs (lstN d)).to):=by
 obtain⟨B,C,u,_⟩:=Ka m;obtain⟨_,_,r,f⟩:=Jl m;obtain⟨b,v,rfl,D,g⟩:=Ok q (by omega);have o:=(g (d.length-1) (by omega)).1;rw[r]at o;obtain⟨x,h,i,y,j⟩:=Qg l.fs (by omega);obtain⟨⟨E,F,G,H,K,L,_,_,_⟩,_⟩:=j (lstN d) f;obtain⟨n,s⟩:∃n,d.length=n+1:=⟨d.length-1,by omega⟩;have z:n<=5:=by omega
 rw[s]at o ⊢;rw[Nat.add_sub_cancel]at o;have M:((n+1:Nat):Int)-1=(n:Int):=by omega
 have N:((n+1:Nat):Int)=(n:Int)+1:=by omega
 have A:=I l;have p:=I i;delta CE;go_in;go_wp2_with fail;refine cb (Pe w k t c P A.1 (lstN d) f x h p.1) ?_;go_wp2;go_ret;exact⟨rfl,rfl⟩
theorem vG(w:Wd)(d:Nat)(t:At)(c:Ad)(P:Dh)(f:Hl w d t c P)(i j:Nat)(k:i<t.fs.length)(l:j<t.fs.length):CV 176 #[hZ d 0,i,j] w (.agg #[Bn ((Aa t.fs i).dp-c.rp),Bn ((Aa t.fs j).ar+c.rl)]):=by
 obtain⟨b,a,o,z,m⟩:=Qg f.fs (by omega);obtain⟨⟨_,_,_,p,_,_,_,_,_⟩,_⟩:=m i k;obtain⟨⟨_,_,_,_,q,_,_,_,_⟩,_⟩:=m j l;obtain⟨R,S,T,U⟩:=Lu f.okT k;obtain⟨V,X,Y,Z⟩:=Lu f.okT l;obtain⟨⟨k1,k2⟩,⟨k3,k4⟩,_⟩:=Ul f.okC;have K:=Hk f.box;have L:=Ks f.box;have A:=f.lt;have g:=I (J w jJ);have r:=I (f.below g.1);have s:=I o;delta CV;go_in;go_wp2_with fail;have a0:w.heap.size<(w.alloc jJ).heap.size:=by simp
 have B:=zj p z g.1;have C:=zj q z g.1;have D:=zj K A g.1;have E:=zj L A g.1;have a1:=As z g.1.size;have a2:=As A g.1.size;have n:=zh w jJ;have z0:=D_ n;have f0:=FA n;have HQ:=I n;have x:b≠w.heap.size:=by omega
 have y:d≠w.heap.size:=by omega
 have F:IntKind.i64.wrap ((Aa t.fs i).dp-c.rp)=(Aa t.fs i).dp-c.rp:=by rw[wI];omega
 have G:IntKind.i64.wrap ((Aa t.fs j).ar+c.rl)=(Aa t.fs j).ar+c.rl:=by rw[wI];omega
 generalize w.alloc jJ=W at*;have M:=I (λ(W':Wd) (h:W'=W\/W'=W.drew)=>show Calls prog 115 #[hZ d 0,i] W' (λe w'=>e=.returned (hZ b (a+i*9))/\W'=w') from Pe W' d t c P (by rcases h with rfl|rfl;exact r.1;exact r.1.below ((An _ _).drew)) i k b a s.1);have N:=I (λ(W':Wd) (h:W'=W\/W'=W.drew)=>show Calls prog 115 #[hZ d 0,j] W' (λe w'=>e=.returned (hZ b (a+j*9))/\W'=w') from Pe W' d t c P (by rcases h with rfl|rfl;exact r.1;exact r.1.below ((An _ _).drew)) j l b a s.1);go_region_held3 (λw'=>w'.cell? (aD b (a+i*9+3))=some (Bn (Aa t.fs i).dp)/\w'.cell? (aD b (a+j*9+4))=some (Bn (Aa t.fs j).ar)/\w'.cell? (aD d 3)=some (Bn c.rp)/\w'.cell? (aD d 4)=some (Bn c.rl)) (first|exact⟨B,C,D,E⟩|exact⟨(eE _ x _ _ _ _ _).trans B,(eE _ x _ _ _ _ _).trans C,(eE _ y _ _ _ _ _).trans D,(eE _ y _ _ _ _ _).trans E⟩)
  (first|(go_at_call 115;with_reducible (refine(M.1 _ ?_).mono ?_);(first|exact .inl rfl|exact .inr rfl);rintro e w1 ⟨rfl,rfl⟩)|(go_at_call 115;with_reducible (refine(N.1 _ ?_).mono ?_);(first|exact .inl rfl|exact .inr rfl);rintro e w1 ⟨rfl,rfl⟩))
 have Q:=zg (i:=1) (u:=Bn ((Aa t.fs j).ar+c.rl)) (zg (i:=0) (u:=Bn ((Aa t.fs i).dp-c.rp)) HQ.1);have r0:((W.setCell (aD w.heap.size 0) (Bn ((Aa t.fs i).dp-c.rp))).setCell (aD w.heap.size 1) (Bn ((Aa t.fs j).ar+c.rl))).drew.cell? (aD w.heap.size 0)=some (Bn ((Aa t.fs i).dp-c.rp)):=zm Q rfl;have r1:((W.setCell (aD w.heap.size 0) (Bn ((Aa t.fs i).dp-c.rp))).setCell (aD w.heap.size 1) (Bn ((Aa t.fs j).ar+c.rl))).drew.cell? (aD w.heap.size 1)=some (Bn ((Aa t.fs j).ar+c.rl)):=zm Q rfl;have H:=I (show Bw w ((W.setCell (aD w.heap.size 0) (Bn ((Aa t.fs i).dp-c.rp))).setCell (aD w.heap.size 1) (Bn ((Aa t.fs j).ar+c.rl))).drew from((g.1.setCell (by simp) _).setCell (by simp) _).drew);generalize ((W.setCell (aD w.heap.size 0) (Bn ((Aa t.fs i).dp-c.rp))).setCell (aD w.heap.size 1) (Bn ((Aa t.fs j).ar+c.rl))).drew=Wf at*;go_wp2_with fail;refine bP (v:=.agg #[Bn ((Aa t.fs i).dp-c.rp),Bn ((Aa t.fs j).ar+c.rl)]) (by simp[results,results176,go_sem,r0,r1]) rfl ?_;exact⟨rfl,H.1⟩
def Bm(t:At)(c:Ad)(d:Ai):Int×Int:=((Aa t.fs (fstN d)).dp-c.rp,(Aa t.fs (lstN d)).ar+c.rl)
theorem To(w:Wd)(A:Nat)(t:At)(c:Ad)(P:Dh)(B:Hl w A t c P)(d:Ai)(a:Ae)(cap:Nat)(C:Cc t c d=0)(X:Al Ei w a d):CV 109 #[hZ A 0,.slice a d.length cap] w (.agg #[Bn (Bm t c d).1,Bn (Bm t c d).2]):=by
 obtain⟨h1,h2,h3,_⟩:=Ka C;obtain⟨Y,D,o,q⟩:=Jl C;obtain⟨b,f,rfl,E,k⟩:=Ok X (by omega);have F:=(k 0 (by omega)).1;have s:=(k (d.length-1) (by omega)).1;rw[Y,Nat.zero_mul,Nat.add_zero]at F;rw[o]at s;obtain⟨n,Z⟩:∃n,d.length=n+1:=⟨d.length-1,by omega⟩;have a0:n<=5:=by omega
 rw[Z]at s ⊢;rw[Nat.add_sub_cancel]at s;have hs:=B.lt;have l:=I (J w jJ);have HS:=I (B.below l.1);have G:∀r,Bm t c d=r->True:=λ_ _=>trivial;delta CV;go_in;go_wp2_with fail;have H:=zj F E l.1;have K:=zj s E l.1;have x:b≠w.heap.size:=by omega
 have q0:=zh w jJ;have HQ:=I q0;have L:w.heap.size<(w.alloc jJ).heap.size:=by simp
 have M:=As E l.1.size;have e1:((n+1:Nat):Int)-1=(n:Int):=by omega
 have e2:((n+1:Nat):Int)=(n:Int)+1:=by omega
 have e3:IntKind.i64.wrap ((n:Int)+1-1)=(n:Int):=by rw[wI];omega
 have e4:((n:Int)+1-1)=(n:Int):=by omega
 have e5:IntKind.i64.wrap (n:Int)=(n:Int):=by rw[wI];omega
 have e6:IntKind.i64.wrap (((n+1:Nat):Int)-1)=(n:Int):=by rw[wI];omega
 have i0:(0:Int)<=(n:Int):=by omega
 have i1:(n:Int)<(n:Int)+1:=by omega
 have i2:n<n+1:=by omega
 generalize w.alloc jJ=W at*;have SP:=I (vG W.drew A t c P (HS.1.below ((An _ _).drew)) (fstN d) (lstN d) D q);have N:W.drew.cell? (aD b f)=some (Bn (fstN d)):=H;have R:W.drew.cell? (aD b (f+n*2))=some (Bn (lstN d)):=K;have y:w.heap.size<W.drew.heap.size:=L;have h:b<W.drew.heap.size:=M;have S:=I (show W.drew.heap[w.heap.size]?=some jJ from HQ.1);go_region_held3 (λw'=>w'.cell? (aD b f)=some (Bn (fstN d))/\w'.cell? (aD b (f+n*2))=some (Bn (lstN d))) (first|exact⟨H,K⟩|exact⟨T,U⟩|exact⟨(vQ _ x _ _ _ _ _).trans T,(vQ _ x _ _ _ _ _).trans U⟩)
  (first|(go_at_call 176;refine ca (SP.1) λz g=>?_;have T:=(g.cell (p:=aD b f) h).trans N;have U:=(g.cell (p:=aD b (f+n*2)) h).trans R;have m:=(g.block _ y).trans S.1;have y0:=zm (j:=0) (v:=Bn 0) m rfl;have y1:=zm (j:=1) (v:=Bn 0) m rfl;have u0:=zQ (j:=0) m;have u1:=zQ (j:=1) m))
 have Q:=zg (i:=1) (u:=Bn ((Aa t.fs (lstN d)).ar+c.rl)) (zg (i:=0) (u:=Bn ((Aa t.fs (fstN d)).dp-c.rp)) m);have r0:((z.setCell (aD w.heap.size 0) (Bn ((Aa t.fs (fstN d)).dp-c.rp))).setCell (aD w.heap.size 1) (Bn ((Aa t.fs (lstN d)).ar+c.rl))).cell? (aD w.heap.size 0)=some (Bn ((Aa t.fs (fstN d)).dp-c.rp)):=zm Q rfl;have r1:((z.setCell (aD w.heap.size 0) (Bn ((Aa t.fs (fstN d)).dp-c.rp))).setCell (aD w.heap.size 1) (Bn ((Aa t.fs (lstN d)).ar+c.rl))).cell? (aD w.heap.size 1)=some (Bn ((Aa t.fs (lstN d)).ar+c.rl)):=zm Q rfl;have V:=I (show Bw w ((z.setCell (aD w.heap.size 0) (Bn ((Aa t.fs (fstN d)).dp-c.rp))).setCell (aD w.heap.size 1) (Bn ((Aa t.fs (lstN d)).ar+c.rl))) from((Ab (l.1.drew) g).setCell (by simp) _).setCell (by simp) _);generalize ((z.setCell (aD w.heap.size 0) (Bn ((Aa t.fs (fstN d)).dp-c.rp))).setCell (aD w.heap.size 1) (Bn ((Aa t.fs (lstN d)).ar+c.rl)))=Wf at*;go_wp2_with fail;refine bP (v:=.agg #[Bn ((Aa t.fs (fstN d)).dp-c.rp),Bn ((Aa t.fs (lstN d)).ar+c.rl)]) (by simp[results,results109,go_sem,r0,r1]) rfl ?_;exact⟨rfl,V.1⟩
def Ll(t:At)(c:Ad)(x y:Ai):Bool:=((Aa t.fs (lstN x)).to.toList==(Aa t.fs (fstN y)).fq.toList)&&decide (0<=(Bm t c y).1-(Bm t c x).2)&&decide ((Bm t c y).1-(Bm t c x).2<=c.lv)
theorem Tq{t:At}{c:Ad}{d:Ai}(e:zY t=0)(f:Ax c=0)(g:Cc t c d=0):1440<=(Bm t c d).1/\(Bm t c d).1<=52593120/\2880<=(Bm t c d).2/\(Bm t c d).2<=52594560:=by
 obtain⟨_,h,_,i⟩:=Jl g;have a:=Lu e h;have b:=Lu e i;have r:=Ul f;simp only[Bm];omega
def Gw(t:At)(c:Ad)(x y:Ai):Int:=if Cc t c x≠0 then Cc t c x else if Cc t c y≠0 then Cc t c y else if Ll t c x y=false then 14 else 0
def Qs(d:Ai)(k:Nat):Nat->Bool
 |0=>false
 |m+1=>if(Cm d k).2=true then Qs d (k+1) m else true
def Rj(d:Ai):Bool:=Qs d 0 (d.length-0)
theorem zvG{d:Ai}(h:k<d.length)(e:(Cm d k).2=true):Qs d k (d.length-k)=Qs d (k+1) (d.length-(k+1)):=by
 rw[show d.length-k=d.length-(k+1)+1 by omega,Qs,iP e]
theorem CZ{d:Ai}(h:k<d.length)(e:(Cm d k).2=false):Qs d k (d.length-k)=true:=by
 rw[show d.length-k=d.length-(k+1)+1 by omega,Qs,iN (by simp[e])]
theorem DA(d:Ai):Qs d d.length (d.length-d.length)=false:=by
 rw[Nat.sub_self];rfl
theorem WV(d:Ai)(a:Ae)(cap:Nat)(w:Wd)(u:d.length<=2^47)(n:Al Ei w a d):CV 107 #[.slice a d.length cap] w (.bool (Rj d)):=by
 have q:=I n;delta CV;go_in;go_wp2_with fail;go_loopw [7] (λi wr=>∃(k:Nat),k<=d.length/\i=Bn k/\Af (Rj d=Qs d k (d.length-k))/\Af (Bw w wr)) (λi _=>d.length-(intOf i).toNat);exact⟨0,Bg _,rfl,I rfl,I (An _ _)⟩;obtain⟨k,r,rfl,c,f⟩:=hrel;by_cases h:k<d.length
 . obtain⟨b,s,rfl,o,l⟩:=Ok q.1 (by omega);obtain⟨v,p⟩:=(l.below o f.1) k h;have t:=As o f.1.size;have j:=I (Ab f.1 (J wr (oT (Cm d k).1 (Cm d k).2)));cases m:(Cm d k).2
   . have g:=I (c.1.trans (CZ h m));rw[m]at j p;go_wp2;go_ret;exact⟨zz g.1.symm,j.1⟩
   have g:=I (c.1.trans (zvG h m));rw[m]at j p;go_wp2;go_roundw;exact⟨k+1,by omega,by go_num,g,j⟩;simp[intOf];omega
 obtain rfl:k=d.length:=by omega
 have g:=I (c.1.trans (DA d));go_wp2;go_ret;exact⟨zz g.1.symm,f.1⟩
theorem zV(a b:BA):(a.toList==b.toList)=decide (a=b):=by
 rw[Bool.eq_iff_iff,decide_eq_true_eq];constructor;intro h;have c:=iT h;rw[c,Lib.toList_data];rintro rfl;exact beq_self_eq_true _
def UU(l:LB)(s:BA)(w:Wd)(e:Ending)(w':Wd):Prop:=∃n:Int,e=.returned n/\((0<=n/\Ao l s=true)\/(n<0/\Ao l s=false))/\w=w'
theorem TA{l:LB}(h:k<l.length)(e:s=Bl l k):Ao l s=true:=by
 unfold Ao;rw[List.any_eq_true];refine⟨Bl l k,?_,by simpa using e⟩;unfold Bl;rw[Cr,Cz h];exact gM h
theorem zqq{l:LB}(h:∀i,i<l.length->s≠Bl l i):Ao l s=false:=by
 unfold Ao;rw[List.any_eq_false];intro x b;obtain⟨i,a,rfl⟩:=List.mem_iff_getElem.1 b;have:=h i a;unfold Bl at this;rw[Cr,Cz a]at this;simpa using this
theorem NN(l:LB)(s:BA)(a:Ae)(cap:Nat)(w:Wd)(g:Lz w a l)(o:l.length<=1000000):Calls prog 185 #[.slice a l.length cap,.string s] w (UU l s w):=by
 have j:=I g;clear g;go_in;go_wp2_with fail;go_loop [5,8] (λ_ i=>∃k:Nat,k<=l.length/\i=Bn k/\Af (∀i,i<k->s≠Bl l i)) (λ_ i=>l.length-(intOf i).toNat);exact⟨0,Bg _,rfl,I (λi hi=>aB hi (Nat.not_lt_zero _))⟩;obtain⟨k,p,rfl,h⟩:=hrel;by_cases c:k<l.length
 . obtain⟨b,m,rfl,q,d⟩:=j.1.cells (by omega);have r:=d k c;clear d;by_cases e:s=Bl l k
   . have n:(s.toList==(Bl l k).toList)=true:=by rw[zV];simpa using e
     have f:=I e;clear e;go_wp2;go_ret;exact⟨_,rfl,.inl ⟨by omega,TA c f.1⟩,rfl⟩
   have n:(s.toList==(Bl l k).toList)=false:=by rw[zV];simpa using e
   have f:=I e;clear e;go_wp2;go_round;exact⟨k+1,by omega,by go_num,I (λi hi=>if e:i=k then by subst e;exact f.1 else h.1 i (by omega))⟩;simp[intOf];omega
 obtain rfl:k=l.length:=by omega
 go_wp2;go_ret;exact⟨_,rfl,.inr ⟨by decide,zqq h.1⟩,rfl⟩
theorem IB(l:LB)(s:BA)(a:Ae)(cap:Nat)(w:Wd)(f:Lz w a l)(g:l.length<=1000000):CE 116 #[.slice a l.length cap,.string s] w (.bool (Ao l s)):=by
 delta CE;go_in;go_wp2_with fail;refine(NN l s a cap w f g).mono ?_;rintro e i ⟨n,rfl,h,rfl⟩;rcases h with⟨c,b⟩|⟨c,b⟩
 . have d:=I b;go_wp2;go_ret;exact⟨zz (by rw[d.1] <;> simp[c]),rfl⟩
 have d:=I b;go_wp2;go_ret;exact⟨zz (by rw[d.1] <;> simp[c]),rfl⟩
def Do(l:List (BA×Int))(k:Nat):BA×Int:=l.getD k (ByteArray.empty,0)
def xD(w:Wd)(b off:Nat)(l:List (BA×Int)):Prop:=∀i,i<l.length->w.cell? (aD b (off+i*2))=some (.string (Do l i).1)/\w.cell? (aD b (off+i*2+1))=some (.int .i64 (Do l i).2)
def Jk(w:Wd)(a:Ae)(l:List (BA×Int)):Prop:=l= []\/∃b off,a=some (aD b off)/\b<w.heap.size/\xD w b off l
theorem Jk.below(h:Jk w a l)(c:Bw w w'):Jk w' a l:=by
 rcases h with h|⟨b,d,h,e,f⟩;exact .inl h;exact .inr ⟨b,d,h,As e c.size,λi hi=>⟨zj (f i hi).1 e c,zj (f i hi).2 e c⟩⟩
theorem Jk.cells(h:Jk w a l)(c:0<l.length):∃b off,a=some (aD b off)/\b<w.heap.size/\xD w b off l:=by
 rcases h with rfl|h;simp at c;exact h
theorem kC(l:List (BA×Int))(k:Nat)(h:k<l.length):l.drop k=Do l k::l.drop (k+1):=by
 rw[Do,List.drop_eq_getElem_cons h,Cr,Cz h];rfl
def Ex{X:Type}(nm:X->BA)(s:BA):Nat->List X->Int
 |_, []=>-1
 |k,x::l=>if nm x=s then(k:Int) else Ex nm s (k+1) l
theorem qF{X:Type}(nm:X->BA)(s:BA):∀(k:Nat) (l:List X),(Ex nm s k l<0/\Ao (l.map nm) s=false)\/(∃j:Nat,j<l.length/\Ex nm s k l=(k+j:Nat)/\(l[j]?).map nm=some s/\∀i,i<j->(l[i]?).map nm≠some s)/\Ao (l.map nm) s=true
 |k, []=>.inl ⟨by simp[Ex],rfl⟩
 |k,x::l=>by
  rw[Ex];by_cases h:nm x=s
  . rw[iP h];exact .inr ⟨⟨0,by simp,by simp,by simp[h],λi hi=>by omega⟩,by simp[Ao,h]⟩
  rw[iN h];rcases qF nm s (k+1) l with⟨b,a⟩|⟨⟨j,b,a,d,f⟩,c⟩
  . refine .inl ⟨b,?_⟩;simp only[Ao,List.map_cons,List.any_cons]at a ⊢;rw[a];simp;exact λe=>h e.symm
  refine .inr ⟨⟨j+1,by simp;omega,by rw[a];congr 1;omega,by simpa using d,λi hi=>?_⟩,?_⟩
  . cases i with
    |zero=>simpa using h
    |succ i=>simpa using f i (by omega)
  simp only[Ao,List.map_cons,List.any_cons]at c ⊢;rw[c];simp
theorem bN{X:Type}(nm:X->BA)(s:BA)(k:Nat)(l:List X):decide (0<=Ex nm s k l)=Ao (l.map nm) s:=by
 rcases qF nm s k l with⟨c,a⟩|⟨⟨j,_,a,_⟩,b⟩;rw[a];simp;omega;rw[b,a];simp;omega
def Zj(l:List Cy)(s:BA):Int:=Ex Cy.name s 0 l
theorem LR{l:List Cy}(h:k<l.length)(e:(Cg l k).name=s):Ex Cy.name s k (l.drop k)=k:=by rw[eU l k h,Ex,iP e]
theorem MW{l:List Cy}(h:k<l.length)(e:(Cg l k).name≠s):Ex Cy.name s k (l.drop k)=Ex Cy.name s (k+1) (l.drop (k+1)):=by rw[eU l k h,Ex,iN e]
theorem nD(l:List Cy)(s:BA)(a:Ae)(cap:Nat)(w:Wd)(h:Al Nc w a l)(p:l.length<=2^47):CE 163 #[.slice a l.length cap,.string s] w (Zj l s):=by
 have m:=I h;delta CE;go_in;go_wp2_with fail;go_loop [5] (λi=>∃k:Nat,k<=l.length/\i=Bn k/\Af (Zj l s=Ex Cy.name s k (l.drop k))) (λi=>l.length-(intOf i).toNat);exact⟨0,Bg _,rfl,I rfl⟩;obtain⟨k,q,rfl,g⟩:=hrel;by_cases c:k<l.length
 . obtain⟨b,n,rfl,r,d⟩:=dV m.1 (by omega);obtain⟨t,j,u,_⟩:=d k c;by_cases e:(Cg l k).name=s
   . have o:((Cg l k).name.toList==s.toList)=true:=by rw[zV];simpa using e
     have f:=I (g.1.trans (LR c e));go_wp2;go_ret;exact⟨ze f.1.symm,rfl⟩
   have o:((Cg l k).name.toList==s.toList)=false:=by rw[zV];simpa using e
   have f:=I (g.1.trans (MW c e));go_wp2;go_round;exact⟨k+1,by omega,by go_num,f⟩;simp[intOf];omega
 obtain rfl:k=l.length:=by omega
 have f:=I (g.1.trans (by rw[Gk,Ex]));go_wp2;go_ret;exact⟨ze f.1.symm,rfl⟩
def Nd(l:List Bh)(s:BA):Int:=Ex Bh.code s 0 l
theorem OY{l:List Bh}(h:k<l.length)(e:(Ct l k).code=s):Ex Bh.code s k (l.drop k)=k:=by rw[bQ l k h,Ex,iP e]
theorem UI{l:List Bh}(h:k<l.length)(e:(Ct l k).code≠s):Ex Bh.code s k (l.drop k)=Ex Bh.code s (k+1) (l.drop (k+1)):=by rw[bQ l k h,Ex,iN e]
theorem Pf(l:List Bh)(s:BA)(a:Ae)(cap:Nat)(w:Wd)(h:Al Mk w a l)(o:l.length<=2^47):CE 43 #[.slice a l.length cap,.string s] w (Nd l s):=by
 have j:=I h;delta CE;go_in;go_wp2_with fail;go_loop [5] (λi=>∃k:Nat,k<=l.length/\i=Bn k/\Af (Nd l s=Ex Bh.code s k (l.drop k))) (λi=>l.length-(intOf i).toNat);exact⟨0,Bg _,rfl,I rfl⟩;obtain⟨k,p,rfl,g⟩:=hrel;by_cases c:k<l.length
 . obtain⟨b,m,rfl,q,d⟩:=eF j.1 (by omega);obtain⟨r,_⟩:=d k c;by_cases e:(Ct l k).code=s
   . have n:((Ct l k).code.toList==s.toList)=true:=by rw[zV];simpa using e
     have f:=I (g.1.trans (OY c e));go_wp2;go_ret;exact⟨ze f.1.symm,rfl⟩
   have n:((Ct l k).code.toList==s.toList)=false:=by rw[zV];simpa using e
   have f:=I (g.1.trans (UI c e));go_wp2;go_round;exact⟨k+1,by omega,by go_num,f⟩;simp[intOf];omega
 obtain rfl:k=l.length:=by omega
 have f:=I (g.1.trans (by rw[Gk,Ex]));go_wp2;go_ret;exact⟨ze f.1.symm,rfl⟩
end Go.Proofs.YtelojoopofolpaaGreat
