/- a part of the proof -/
import Derived.Test.YtafdcbmgdfliiaaGreatM2
set_option linter.all false
set_option maxRecDepth 100000
set_option maxHeartbeats 51200000
namespace Go.Proofs.YtafdcbmgdfliiaaGreat
open Go.RowKit Go.Sort Go.Proofs.Tryz
variable {b k lo:Nat}{w w':Wd}{v:Value}{p:Nat->Bool}
theorem zBR(t:At)(c:Ad)(e:Int):Sb t c e=if Jn t c≠0 then Jn t c else e:=by
 grind[Sb,Jn]
def zBV{e:TypeId}{s:Nat}{n:Nat}{xs:LV}(h:w.ownsRow lo e s v n xs)(c:some b≠v.ownBlock)(l:LV)(i:Nat):(stN b i l w).ownsRow lo e s v n xs:=by
 refine⟨h.1,?_⟩;rcases h.2 with a|⟨g,d,f,a,j,k,m⟩;exact .inl a;refine .inr ⟨g,d,f,a,j,?_,m⟩;rw[lG (λe=>c (by rw[a,e];rfl))];exact k
theorem zCe{t:At}{c:Ad}(h:Jn t c=0):zY t=0/\Ax c=0:=by
 grind[Jn]
theorem zCt{t:At}{c:Ad}(h:Jn t c=0)(d:Ai):RB t c d=FW t c d:=by
 have⟨b,e⟩:=zCe h;simp_all[RB,FW,pX,Cc,FO,Wy,Bo]
theorem keep3{a c m:Nat}{x y z:Obj}(e:a≠m)(f:w.heap[a]?=some x)(g:b≠m)(h:w.heap[b]?=some y)(i:c≠m)(j:w.heap[c]?=some z):∀p∈ [(a,x),(b,y),(c,z)],p.1≠m/\w.heap[p.1]?=some p.2:=by
 simp_all
def zBX(h:p k=true):JB p (k+1)=JB p k++ [(k:Int)]:=by rw[JB,iP h]
theorem zCp(h:p k=false):JB p (k+1)=JB p k:=by grind[JB]
theorem zCO{L:List gF}(h:k<L.length):L.take k++ [Qa L k]=L.take (k+1):=by
 simp_all[Qa]
theorem zBp(x y:Int×Bool):zzT x y=- zzT y x:=by
 grind[zzT,zz5]
theorem zAG:∀(l m:List (Int×Bool)),CD l m=- CD m l
 |[], []=>by simp[CD,zz9]
 |[],_::_=>by simp[CD,zz9]
 |_::_, []=>by simp[CD,zz9]
 |x::l,y::m=>by
  have a:=zAG l m;grind[zBp,CD,zz9]
def zB2{d:Ai}(v1 v2:Int)(a c:BA)(f g:Int)(y:gF)(m:y.duty=d)(b:Bool)(n:legB ⟨d,v1,v2,a,c,f,g⟩ y=b)(h:Ae)(j:Nat)(i:Ae)(k:Nat)(w:Wd)(l:d.length<=2^47)(o:Al Ei w h d)(p:Al Ei w i d):
 CV 76 #[.agg #[CU h d.length j,v1,v2,B_ a,B_ c,f,g],.agg #[CU i d.length k,y.rep,y.rel,B_ y.src,B_ y.dst,y.cost,y.cred]] w (.bool b):=by
 subst m n;exact zAA ⟨y.duty,v1,v2,a,c,f,g⟩ y h j i k w l l o p
def LegT(t:At)(c:Ad)(lo:Nat)(d:Ai)(v:Value)(w:Wd):Prop:=∃(sa:Ae) (sn sc:Nat) (x1 x2:Int) (s1 s2:BA) (x5 x6:Int),v=.agg #[.slice sa sn sc,x1,x2,.string s1,.string s2,x5,x6]/\(RB t c d=0->cK t c d x1 x2 s1 s2 x5 x6/\sn=d.length/\Hj lo (.slice sa sn sc) d w)
def LegT.call{t:At}{c:Ad}{d:Ai}(h:LegT t c lo d v w)(b:Bw w w'):LegT t c lo d v w':=by
 obtain⟨f,g,i,j,k,l,m,n,o,p,a⟩:=h;exact⟨f,g,i,j,k,l,m,n,o,p,λe=>⟨(a e).1,(a e).2.1,Hj.call (a e).2.2 b⟩⟩
def DesT(t:At)(c:Ad)(lo:Nat)(d:Ai)(v:Value)(w:Wd):Prop:=∃u,v=.tuple #[u,(RB t c d)]/\LegT t c lo d u w
def DesT.call{t:At}{c:Ad}{d:Ai}(h:DesT t c lo d v w)(a:Bw w w'):DesT t c lo d v w':=by
 obtain⟨u,b,e⟩:=h;exact⟨u,b,e.call a⟩
def VioS(t:At)(c:Ad)(s:BA)(x y:Ai)(v:Value):Prop:=∃(va:Ae) (vc:Nat),v=.slice va (V_ t c s x y).length vc
def VioT(t:At)(c:Ad)(s:BA)(x y:Ai)(v:Value):Prop:=∃(va:Ae) (vc:Nat),v=.tuple #[.slice va (V_ t c s x y).length vc,(Kc t c s x y)]
