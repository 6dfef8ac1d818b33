/- a part of the proof -/
import Derived.Test.YtafdcbmgdfliiaaGreatKA
import Derived.Test.YtafdcbmgdfliiaaGreatH6
set_option linter.all false
set_option maxRecDepth 100000
set_option maxHeartbeats 3000000
namespace Go.Proofs.YtafdcbmgdfliiaaGreat
open Go.RowKit Go.Sort Go.Proofs.Tryz

def retB{a b:Bool}(h:a=b):Ending.returned (.bool a)=.returned (.bool b):=by rw[h]
def eqUp{A:Type}(l m:List A)(k:Nat):Prop:=l.take k=m.take k
def eqUp.go{A:Type}{l m:List A}{k:Nat}(h:eqUp l m k)(a:k<l.length)(b:k<m.length)(e:l[k]=m[k]):eqUp l m (k+1):=by
 unfold eqUp at*;rw[tS a,tS b,h,e]
def eqUp.no{A:Type}{l m:List A}{k:Nat}(a:k<l.length)(b:k<m.length)(e:¬ l[k]=m[k]):¬ l=m:=λh=>e (by subst h;rfl)
theorem eqUp.fin{A:Type}{l m:List A}(h:eqUp l m l.length)(a:l.length=m.length):l=m:=by
 grind[eqUp]
structure gF where
 duty:Ai
 rep:Int
 rel:Int
 src:BA
 dst:BA
 cost:Int
 cred:Int
def legB(x y:gF):Bool:=decide (x.duty=y.duty)&&((x.rep==y.rep)&&((x.rel==y.rel)&&((x.src.toList==y.src.toList)&&((x.dst.toList==y.dst.toList)&&((x.cost==y.cost)&&(x.cred==y.cred))))))
theorem zCM{a b:BA}(h:(a.toList==b.toList)=true):a=b:=by
 rw[beq_iff_eq,Lib.toList_data,Lib.toList_data]at h;cases a<;>simp_all
theorem zBO{x y:gF}:legB x y=true ↔ x=y:=by
 constructor;intro h;simp only[legB,Em]at h;obtain⟨a,b,c,d,e,f,g⟩:=h;have j:=zCM d;have k:=zCM e;cases x;all_goals simp_all[legB]
theorem zCL(a b c d e f g:Bool):a=false\/(a=true/\b=false)\/(a=true/\b=true/\c=false)\/(a=true/\b=true/\c=true/\d=false)\/(a=true/\b=true/\c=true/\d=true/\e=false)\/(a=true/\b=true/\c=true/\d=true/\e=true/\f=false)\/(a=true/\b=true/\c=true/\d=true/\e=true/\f=true/\g=false)\/(a=true/\b=true/\c=true/\d=true/\e=true/\f=true/\g=true):=by
 grind
def legO(t:At)(c:Ad)(d:Ai):gF:=⟨d,(Bm t c d).1,(Bm t c d).2,(Aa t.fs (fstN d)).fq,(Aa t.fs (lstN d)).to,zoy c 1 (Bo t c d),Nw c (Bo t c d)⟩
def FW(t:At)(c:Ad)(d:Ai):Int:=if Cc t c d≠0 then Cc t c d else if(Wy c 1 (Bo t c d)).isEmpty then 0 else 15
end Go.Proofs.YtafdcbmgdfliiaaGreat
namespace Go.Proofs.YtafdcbmgdfliiaaGreat
open Go.RowKit Go.Proofs.Tryz

end Go.Proofs.YtafdcbmgdfliiaaGreat
namespace Go.Proofs.YtafdcbmgdfliiaaGreat
open Go.RowKit Go.Sort Go.Proofs.Tryz
variable {w w':Wd}{cap g i lo m n r s:Nat}{a:Ae}{b xs:LV}{Φ:Wd->Prop}{e f:TypeId}{c u v:Value}{U:Nat->Value}{Q:Nat->LI}{x:Int}{o:Obj}



theorem zAz{x y:Int×Bool}:zzT x y=0 ↔ x=y:=by
 grind[zzT,zz5]
theorem zAF:∀(l m:List (Int×Bool)),CD l m=0 ↔ l=m
 |[], []=>by simp[CD,zz9]
 |[],_::_=>by simp[CD,zz9]
 |_::_, []=>by simp[CD,zz9]
 |x::l,y::m=>by
  have a:=zAF l m;grind[CD,zz9,zAz]
def zBe(l m:Ai)(a c:Ae)(cap b:Nat)(w:Wd)(f:l.length<=2^47)(g:m.length<=2^47)(h:Al Ei w a l)(d:Al Ei w c m):CV 132 #[CU a l.length cap,CU c m.length b] w (.bool (decide (l=m))):=by
 have i:=I (show decide (l=m)=(CD l m==0) by
  rw[Bool.eq_iff_iff,decide_eq_true_iff,beq_iff_eq];exact(zAF l m).symm)
 delta CV;go_in;go_wp2_with fail;refine ca (zAd l m a c cap b w f g h d) λk j=>?_;go_wp2;go_ret;exact⟨retB i.1.symm,j⟩
def zAA(x y:gF)(a:Ae)(b:Nat)(h:Ae)(l:Nat)(w:Wd)(t:x.duty.length<=2^47)(u:y.duty.length<=2^47)(n:Al Ei w a x.duty)(o:Al Ei w h y.duty):CV 76 #[.agg #[CU a x.duty.length b,x.rep,x.rel,B_ x.src,B_ x.dst,x.cost,x.cred],.agg #[CU h y.duty.length l,y.rep,y.rel,B_ y.src,B_ y.dst,y.cost,y.cred]] w (.bool (legB x y)):=by
 delta CV;go_in;go_wp2_with fail;have q:=Ab (J w (Obj.cells #[CU a x.duty.length b,x.rep,x.rel,B_ x.src,B_ x.dst,x.cost,x.cred] 92)) (J (w.alloc (Obj.cells #[CU a x.duty.length b,x.rep,x.rel,B_ x.src,B_ x.dst,x.cost,x.cred] 92)) (Obj.cells #[CU h y.duty.length l,y.rep,y.rel,B_ y.src,B_ y.dst,y.cost,y.cred] 92));have i:=((J (w.alloc (Obj.cells #[CU a x.duty.length b,x.rep,x.rel,B_ x.src,B_ x.dst,x.cost,x.cred] 92)) (Obj.cells #[CU h y.duty.length l,y.rep,y.rel,B_ y.src,B_ y.dst,y.cost,y.cred] 92)).block _ (Ag (zh w (Obj.cells #[CU a x.duty.length b,x.rep,x.rel,B_ x.src,B_ x.dst,x.cost,x.cred] 92)))).trans (zh w (Obj.cells #[CU a x.duty.length b,x.rep,x.rel,B_ x.src,B_ x.dst,x.cost,x.cred] 92));have c:=zh (w.alloc (Obj.cells #[CU a x.duty.length b,x.rep,x.rel,B_ x.src,B_ x.dst,x.cost,x.cred] 92)) (Obj.cells #[CU h y.duty.length l,y.rep,y.rel,B_ y.src,B_ y.dst,y.cost,y.cred] 92);rw[show(w.alloc (Obj.cells #[CU a x.duty.length b,x.rep,x.rel,B_ x.src,B_ x.dst,x.cost,x.cred] 92)).heap.size=w.heap.size+1 by simp]at c;generalize (w.alloc (Obj.cells #[CU a x.duty.length b,x.rep,x.rel,B_ x.src,B_ x.dst,x.cost,x.cred] 92)).alloc (Obj.cells #[CU h y.duty.length l,y.rep,y.rel,B_ y.src,B_ y.dst,y.cost,y.cred] 92)=W at*;refine ca (zBe x.duty y.duty a h b l W t u (n.below q) (o.below q)) λB d=>?_;have f:=(d.block _ (Ag i)).trans i;have g:=(d.block _ (Ag c)).trans c;have z:=I (Ab q d);have C:=D_ f;have D:=D_ g;have R:=Ag f;have S:=Ag g;rcases zCL (decide (x.duty=y.duty)) (x.rep==y.rep) (x.rel==y.rel) (x.src.toList==y.src.toList) (x.dst.toList==y.dst.toList) (x.cost==y.cost) (x.cred==y.cred) with k|⟨k,m⟩|⟨k,m,p⟩|⟨k,m,p,r⟩|⟨k,m,p,r,s⟩|⟨k,m,p,r,s,v⟩|⟨k,m,p,r,s,v,A⟩|⟨k,m,p,r,s,v,A⟩
 all_goals
  go_wp2;go_ret;refine⟨retB ?_,z.1⟩;simp only[legB, *];rfl
def lg0:gF:=⟨[],0,0,ByteArray.empty,ByteArray.empty,0,0⟩
def Qa(L:List gF)(i:Nat):gF:=L.getD i lg0
def LgAt(w:Wd)(g o:Nat)(x:gF):Prop:=∃(da:Ae) (dc:Nat),w.cell? (aD g o)=some (.slice da x.duty.length dc)/\w.cell? (aD g (o+1))=some (Bn x.rep)/\w.cell? (aD g (o+2))=some (Bn x.rel)/\w.cell? (aD g (o+3))=some (.string x.src)/\w.cell? (aD g (o+4))=some (.string x.dst)/\w.cell? (aD g (o+5))=some (Bn x.cost)/\w.cell? (aD g (o+6))=some (Bn x.cred)/\x.duty.length<=140737488355328/\Al Ei w da x.duty
def LgAt.below{o:Nat}{x:gF}(h:LgAt w g o x)(b:g<w.heap.size)(a:Bw w w'):LgAt w' g o x:=by
 obtain⟨c,d,e,f,i,j,k,l,m,n,q⟩:=h;exact⟨c,d,(a.cell (p:=aD g o) b).trans e,(a.cell (p:=aD g (o+1)) b).trans f,(a.cell (p:=aD g (o+2)) b).trans i,(a.cell (p:=aD g (o+3)) b).trans j,(a.cell (p:=aD g (o+4)) b).trans k,(a.cell (p:=aD g (o+5)) b).trans l,(a.cell (p:=aD g (o+6)) b).trans m,n,q.below a⟩
def zzU(w:Wd)(a:Ae)(L:List gF):Prop:=L= []\/∃g o,a=some (aD g o)/\g<w.heap.size/\∀i,i<L.length->LgAt w g (o+i*7) (Qa L i)
def zzU.below{L:List gF}(h:zzU w a L)(b:Bw w w'):zzU w' a L:=by
 rcases h with h|⟨g,o,d,c,e⟩;exact .inl h;exact .inr ⟨g,o,d,As c b.size,λi hi=>(e i hi).below c b⟩
def zzU.cells{L:List gF}(h:zzU w a L)(b:0<L.length):∃g o,a=some (aD g o)/\g<w.heap.size/\∀i,i<L.length->LgAt w g (o+i*7) (Qa L i):=
 h.resolve_left (λe=>by simp[e]at b)
structure CP where
 i:Int
 k:Int
 cost:Int
def PB(L:List CP)(i:Nat):CP:=L.getD i ⟨0,0,0⟩
def zz2(w:Wd)(a:Ae)(L:List CP):Prop:=L= []\/∃g o,a=some (aD g o)/\g<w.heap.size/\∀j,j<L.length->w.cell? (aD g (o+j*3))=some (Bn (PB L j).i)/\w.cell? (aD g (o+j*3+1))=some (Bn (PB L j).k)/\w.cell? (aD g (o+j*3+2))=some (Bn (PB L j).cost)
def zz2.below{L:List CP}(h:zz2 w a L)(b:Bw w w'):zz2 w' a L:=by
 rcases h with h|⟨g,o,e,c,d⟩;exact .inl h;exact .inr ⟨g,o,e,As c b.size,λi hi=>⟨(b.cell (p:=aD g (o+i*3)) c).trans (d i hi).1,(b.cell (p:=aD g (o+i*3+1)) c).trans (d i hi).2.1,(b.cell (p:=aD g (o+i*3+2)) c).trans (d i hi).2.2⟩⟩
def zz2.cells{L:List CP}(h:zz2 w a L)(b:0<L.length):∃g o,a=some (aD g o)/\g<w.heap.size/\∀j,j<L.length->w.cell? (aD g (o+j*3))=some (Bn (PB L j).i)/\w.cell? (aD g (o+j*3+1))=some (Bn (PB L j).k)/\w.cell? (aD g (o+j*3+2))=some (Bn (PB L j).cost):=
 h.resolve_left (λe=>by simp[e]at b)
def lgE(t:At)(c:Ad)(L:List gF)(k:Nat):Int:=
 if FW t c (Qa L k).duty≠0 then FW t c (Qa L k).duty else if legB (legO t c (Qa L k).duty) (Qa L k)=false then 2
 else if 0<k/\CD (Qa L k).duty (Qa L (k-1)).duty<=0 then 8 else 0
def bldE(t:At)(c:Ad)(base:BA)(L:List gF):Int:=if Mo t base=false then 6 else Av (lgE t c L) 0 (L.length-0)
def zAc(t:At)(c:Ad)(base:BA)(x y:gF):Bool:=(x.dst.toList==y.src.toList)&&(decide (0<=y.rep-x.rel)&&(decide (y.rep-x.rel<=c.lv)&&(Wy c 2 (ZZ t c base x.duty y.duty)).isEmpty))
def zCm(t:At)(c:Ad)(base:BA)(x y:gF):Int:=zoy c 2 (ZZ t c base x.duty y.duty)
def zz1(t:At)(c:Ad)(base:BA)(L:List gF)(i:Nat):Nat->List CP
 |0=> []
 |k+1=>zz1 t c base L i k++if zAc t c base (Qa L i) (Qa L k)=true then [⟨i,k,zCm t c base (Qa L i) (Qa L k)⟩] else []
def SB(t:At)(c:Ad)(base:BA)(L:List gF):Nat->List CP
 |0=> []
 |i+1=>SB t c base L i++zz1 t c base L i L.length
def JB(p:Nat->Bool):Nat->LI
 |0=> []
 |k+1=>JB p k++if p k=true then [(k:Int)] else []
theorem zzX(p:Nat->Bool):∀k,(JB p k).length<=k
 |0=>Bv _
 |k+1=>by
  have:=zzX p k;grind[JB]
theorem zAv(t:At)(c:Ad)(a:BA)(L:List gF)(i:Nat):∀k,(zz1 t c a L i k).length<=k
 |0=>Bv _
 |k+1=>by
  have:=zAv t c a L i k;grind[zz1]
theorem zz7(t:At)(c:Ad)(a:BA)(L:List gF):∀i,(SB t c a L i).length<=i*L.length
 |0=>by simp[SB]
 |i+1=>by
  have b:=zz7 t c a L i;grind[zAv,SB]
structure zA2(t:At)(c:Ad)(x:gF):Prop where
 d:Cc t c x.duty=0
 b:(Wy c 1 (Bo t c x.duty)).isEmpty=true
 e:x=legO t c x.duty
theorem zBh{t:At}{c:Ad}{L:List gF}{k:Nat}(h:lgE t c L k=0):zA2 t c (Qa L k):=by
 unfold lgE at h;by_cases a:FW t c (Qa L k).duty=0;rw[iN (by simpa using a)]at h;by_cases d:legB (legO t c (Qa L k).duty) (Qa L k)=false;rw[iP d]at h;exact aB h (by decide);have f:=(zBO.1 (by simpa using d)).symm;unfold FW at a;by_cases b:Cc t c (Qa L k).duty=0;rw[iN (by simpa using b)]at a;refine⟨b,?_,f⟩;all_goals grind
theorem zCy{t:At}{c:Ad}{a:BA}{x y:gF}(q:zY t=0)(r:Ax c=0)(u:Mo t a=true)(g:zA2 t c x)(i:zA2 t c y):
 ((x.dst.toList==y.src.toList)&&(decide (x.rel<=y.rep)&&(decide (Kc t c a x.duty y.duty=0)&&(V_ t c a x.duty y.duty).isEmpty)))=zAc t c a x y/\(zAc t c a x y=true->d_ t c a x.duty y.duty=zCm t c a x y):=by
 have f:Kc t c a x.duty y.duty=if Ll t c x.duty y.duty=false then 14 else 0:=by
  unfold Kc;rw[iP u];unfold Gw Sb;rw[iN (not_not_intro q),iN (not_not_intro r),iN (not_not_intro g.d),iN (not_not_intro i.d)]
 have j:x.dst=(Aa t.fs (lstN x.duty)).to:=congrArg gF.dst g.e;have k:x.rel=(Bm t c x.duty).2:=congrArg gF.rel g.e;have l:y.src=(Aa t.fs (fstN y.duty)).fq:=congrArg gF.src i.e;have m:y.rep=(Bm t c y.duty).1:=congrArg gF.rep i.e;have o:Ll t c x.duty y.duty=((x.dst.toList==y.src.toList)&&(decide (0<=y.rep-x.rel)&&decide (y.rep-x.rel<=c.lv))):=by
  rw[j,k,l,m];unfold Ll;rw[Bool.and_assoc]
 have v:Kc t c a x.duty y.duty=0->V_ t c a x.duty y.duty=(Wy c 2 (ZZ t c a x.duty y.duty)).map λs=>(2,0,s):=λh=>by
  grind[V_,zxm]
 cases b:Ll t c x.duty y.duty;rw[b,iP rfl]at f;have n:zAc t c a x y=false:=by
  rw[o]at b;unfold zAc;revert b;cases (x.dst.toList==y.src.toList) <;> cases decide (0<=y.rep-x.rel) <;> cases decide (y.rep-x.rel<=c.lv) <;> simp
 rw[n,f];simp;rw[b,iN (by decide)]at f;rw[o]at b;simp only[Em,decide_eq_true_eq]at b;obtain⟨p,w,z⟩:=b;have n:zAc t c a x y=(Wy c 2 (ZZ t c a x.duty y.duty)).isEmpty:=by
  unfold zAc;rw[p,decide_eq_true w,decide_eq_true z];rfl
 simp_all[decide_eq_true,d_,zCm,zxc]
def Agr(lo:Nat)(w w':Wd):Prop:=w.heap.size<=w'.heap.size/\∀b,lo<=b->b<w.heap.size->w'.heap[b]?=w.heap[b]?
def Agr.refl(lo:Nat)(w:Wd):Agr lo w w:=⟨Bv _,λ_ _ _=>rfl⟩
def Agr.trans{a c:Wd}(h:Agr lo w a)(k:Agr lo a c):Agr lo w c:=⟨Bf h.1 k.1,λb h1 h2=>(k.2 b h1 (As h2 h.1)).trans (h.2 b h1 h2)⟩
def Agr.of(h:Bw w w'):Agr lo w w':=⟨h.size,λb _ hb=>h.block b hb⟩
def Agr.set(w:Wd){b:Nat}(a:b<lo)(i:Nat)(v:Value):Agr lo w (w.setCell (aD b i) v):=⟨by simp[World.setCell],λg h1 h2=>by
 simp only[World.setCell];rw[Array.getElem?_modify];rw[iN (by omega)]⟩
def Agr.stN{b:Nat}(a:b<lo):∀(l:LV) (i:Nat) (w:Wd),Agr lo w (stN b i l w)
 |[],_,w=>Agr.refl lo w
 |v::l,i,w=>(Agr.set w a i v).trans (Agr.stN a l (i+1) _)
def FrK(lo:Nat)(Φ:Wd->Prop)(w:Wd):Prop:=∀w',Agr lo w w'->Φ w'
def FrK.to(h:FrK lo Φ w)(a:Agr lo w w'):FrK lo Φ w':=λw2 a2=>h w2 (a.trans a2)
def FrK.le{lo':Nat}(h:FrK lo Φ w)(a:lo'<=lo):FrK lo' Φ w:=λw2 a2=>h w2 ⟨a2.1,λb h1 h2=>a2.2 b (Bf a h1) h2⟩
def zz3(h:w.ownsRow lo e s v n xs)(a:Agr lo w w'):w'.ownsRow lo e s v n xs:=by
 refine⟨h.1,?_⟩;rcases h.2 with b|⟨g,c,d,b,f,i,j⟩;exact .inl b;exact .inr ⟨g,c,d,b,f,(a.2 g f (Ag i)).trans i,j⟩
def zCC{q:LI}(h:w.ownsRow lo e 1 v q.length (q.map (Value.int .i64))):∃a b,v=CU a q.length b/\FrK lo (λw=>zW w a q) w:=by
 obtain⟨a,b,rfl,g,i,j⟩:=Sw h;refine⟨a,b,rfl,λw' ag=>?_⟩;have⟨k,c,d,f⟩:=zW.of_own (zz3 h ag);cases d;exact f
def lnkC(x:CP):LV:= [Bn x.i,Bn x.k,Bn x.cost]
def zCU{K:List CP}:∀c∈K.map lnkC,c.length=3:=λc hc=>by
 obtain⟨x,_,rfl⟩:=List.mem_map.1 hc;rfl
theorem zCV{K:List CP}(h:i<K.length):(K.map lnkC)[i]'(by simpa using h)= [Bn (PB K i).i,Bn (PB K i).k,Bn (PB K i).cost]:=by
 grind[lnkC,PB]
theorem zCz{K:List CP}(h:w.ownsRow lo e 3 (CU a K.length cap) K.length (K.map lnkC).flatten):zz2 w a K:=by
 rcases h.2 with⟨f,p⟩|⟨g,l,d,f,u,c,q,r,s,t⟩;exact .inl (List.length_eq_zero_iff.1 p);cases f;refine .inr ⟨g,0,rfl,Ag c,λj hj=>?_⟩;have b:∀m,m<3->d[0+j*3+m]?= [Bn (PB K j).i,Bn (PB K j).k,Bn (PB K j).cost][m]?:=λm hm=>by
  have o:=Zy (n:=3) (K.map lnkC) zCU j (by simpa using hj) m hm;grind[zCV]
 exact⟨zm c (by simpa using b 0 (by decide)),zm c (by simp_all),zm c (by simp_all)⟩
def zBt{K:List CP}(h:w.ownsRow lo e 3 v K.length (K.map lnkC).flatten):∃a b,v=CU a K.length b/\FrK lo (λw=>zz2 w a K) w:=by
 obtain⟨a,b,rfl,c,d,f⟩:=Sw h;exact⟨a,b,rfl,λw' ag=>zCz (zz3 h ag)⟩
def LgC(lo:Nat)(w:Wd)(x:gF)(cs:LV):Prop:=∃(da:Ae) (dc:Nat),cs= [.slice da x.duty.length dc,Bn x.rep,Bn x.rel,.string x.src,.string x.dst,Bn x.cost,Bn x.cred]/\x.duty.length<=140737488355328/\(∀y∈x.duty,(Lit.int .i64 y.1).wf=true)/\Hj lo (.slice da x.duty.length dc) x.duty w
def zz4(lo:Nat)(w:Wd)(v:Value)(L:List gF):Prop:=∃LL:List (LV),LL.length=L.length/\w.ownsRow lo 92 7 v L.length LL.flatten/\∀i (h:i<LL.length),LgC lo w (Qa L i) LL[i]
def LgC.agr{x:gF}(h:LgC lo w x b)(a:Agr lo w w'):LgC lo w' x b:=by
 obtain⟨c,d,e,f,g,i⟩:=h;exact⟨c,d,e,f,g,zz3 i a⟩
def zz4.agr{L:List gF}(h:zz4 lo w v L)(a:Agr lo w w'):zz4 lo w' v L:=by
 obtain⟨b,c,d,e⟩:=h;exact⟨b,c,zz3 d a,λi hi=>(e i hi).agr a⟩
theorem zz4.at{L:List gF}(h:zz4 lo w (CU a L.length cap) L):zzU w a L:=by
 obtain⟨f,H,s,k⟩:=h;rcases s.2 with⟨l,t⟩|⟨g,o,e,l,K,d,u,v,x,y⟩;exact .inl (List.length_eq_zero_iff.1 t);cases l;refine .inr ⟨g,0,rfl,Ag d,λj hj=>?_⟩;have⟨p,r,z,A,B,C⟩:=k j (by omega);have D:∀c∈f,c.length=7:=λc hcm=>by
  obtain⟨i,E,rfl⟩:=List.getElem_of_mem hcm;have⟨_,_,q,_⟩:=k i E;rw[q];rfl
 have b:∀m,m<7->e[0+j*7+m]?= [CU p (Qa L j).duty.length r,Bn (Qa L j).rep,Bn (Qa L j).rel,B_ (Qa L j).src,B_ (Qa L j).dst,Bn (Qa L j).cost,Bn (Qa L j).cred][m]?:=λm hm=>by
  have q:=Zy (n:=7) f D j (by omega) m hm;grind
 obtain⟨M,N,F,-,G⟩:=Hj.at C B;cases F;exact⟨p,r,zm d (by simpa using b 0 (by decide)),zm d (by simp_all),zm d (by simp_all),zm d (by simp_all),zm d (by simp_all),zm d (by simp_all),zm d (by simp_all),A,G⟩
def zz4.fr{L:List gF}(h:zz4 lo w v L):∃a b,v=CU a L.length b/\FrK lo (λw=>zzU w a L) w:=by
 obtain⟨a,b,rfl,_⟩:=Sw h.choose_spec.2.1;exact⟨a,b,rfl,λw' ag=>(h.agr ag).at⟩
def zAP{d:Ai}(h:Al Ei w a d):∀y∈d,(Lit.int .i64 y.1).wf=true:=by
 intro y e;rcases h with rfl|⟨b,f,_,_,g⟩;cases e;obtain⟨i,j,rfl⟩:=List.getElem_of_mem e;obtain⟨l,_,c,m,rfl,⟨_,k⟩,_⟩:=g i j;exact k
def updV(U:Nat->Value)(i:Nat)(v:Value):Nat->Value:=λj=>if j=i then v else U j
def SX(Q:Nat->LI)(i:Nat)(l:LI):Nat->LI:=λj=>if j=i then l else Q j
structure zAe(lo:Nat)(w:Wd)(U:Nat->Value)(Q:Nat->LI):Prop where
 own:∀i,w.ownsRow lo 3 1 (U i) (Q i).length ((Q i).map (Value.int .i64))
 apart:∀i j b,(U i).ownBlock=some b->(U j).ownBlock=some b->i=j
def zAe.nil(lo:Nat)(w:Wd):zAe lo w (λ_=>Ls) (λ_=> []) where
 own _:=World.ownsRow_nil ..
 apart i j b h:=by cases h
def zAe.agr(h:zAe lo w U Q)(a:Agr lo w w'):zAe lo w' U Q where
 own i:=zz3 (h.own i) a
 apart:=h.apart
def zAe.lt(h:zAe lo w U Q){b:Nat}(e:(U i).ownBlock=some b):lo<=b/\b<w.heap.size:=(h.own i).lt b e
theorem zAe.app(h:zAe lo w U Q)(q:(w.alloc o).grownBy w' (U i).ownBlock) 
 (r:w'.ownsRow lo 3 1 (Kx g 0 ((Q i).length+1) cap) ((Q i).length+1) ((Q i).map (Value.int .i64)++ [Bn x])) (p:(U i).ownBlock=some g\/g=w.heap.size+1):zAe lo w' (updV U i (Kx g 0 ((Q i).length+1) cap)) (SX Q i (Q i++ [x])) where
 own j:=by
  unfold updV SX
  by_cases e:j=i
  . simp_all
  rw[iN e,iN e];refine World.ownsRow.kept ((h.own j).alloc _) q ?_;cases s:(U j).ownBlock with
  |none=>exact .inl rfl
  |some b=>exact .inr λd=>e (h.apart j i b s (by rw[<-d]))
 apart a b c:=by
  unfold updV
  intro k f;by_cases m:a=i
  . by_cases d:b=i
    . rw[m,d]
    rw[iP m]at k;rw[iN d]at f;have n:c=g:=by cases k;rfl
    rcases p with l|l
    . exact aB (h.apart b i c f (by rw[l,n])) d
    have:=(h.lt f).2;omega
  rw[iN m]at k;by_cases d:b=i
  . rw[iP d]at f;have n:c=g:=by cases f;rfl
    rcases p with l|l
    . exact aB (h.apart a i c k (by rw[l,n])) m
    have:=(h.lt k).2;omega
  rw[iN d]at f;exact h.apart a b c k f
def zAe.form(h:zAe lo w U Q)(i:Nat):∃a cap,U i=CU a (Q i).length cap/\FrK lo (λw=>zW w a (Q i)) w:=zCC (h.own i)
structure zAi(lo:Nat)(w:Wd)(lv kv:Value)(U:Nat->Value)(L:List gF)(K:List CP)(Q:Nat->LI):Prop where
 lg:zz4 lo w lv L
 lk:w.ownsRow lo 94 3 kv K.length (K.map lnkC).flatten
 iv:zAe lo w U Q
def zAi.nil(lo:Nat)(w:Wd):zAi lo w Ls Ls (λ_=>Ls) [] [] (λ_=> []) where
 lg:=⟨[],rfl,World.ownsRow_nil ..,λi h=>aB h (Nat.not_lt_zero i)⟩
 lk:=World.ownsRow_nil ..
 iv:=zAe.nil lo w
def zAi.agr{b:Value}{L:List gF}{K:List CP}(h:zAi lo w b c U L K Q)(a:Agr lo w w'):zAi lo w' b c U L K Q where
 lg:=h.lg.agr a
 lk:=zz3 h.lk a
 iv:=h.iv.agr a
def zAr(h:w.ownsRow lo e s u n xs)(k:w.ownsRow lo f r v m b)(a:e≠f)(c:(w.alloc o).grownBy w' v.ownBlock):w'.ownsRow lo e s u n xs:=
 World.ownsRow.kept (h.alloc _) c (zx5 h k a)
def zAe.oth{a:LV}(h:zAe lo w U Q)(k:w.ownsRow lo f r v m a)(b:3≠f)(c:(w.alloc o).grownBy w' v.ownBlock):zAe lo w' U Q where
 own i:=zAr (h.own i) k b c
 apart:=h.apart
def LgC.oth{x:gF}{a:LV}(h:LgC lo w x a)(k:w.ownsRow lo f r v m b)(c:104≠f)(d:(w.alloc o).grownBy w' v.ownBlock):LgC lo w' x a:=by
 obtain⟨e,g,i,j,l,n⟩:=h;exact⟨e,g,i,j,l,zAr n k c d⟩
def zz4.oth{L:List gF}{c:LV}(h:zz4 lo w u L)(k:w.ownsRow lo f r v m c)(d:104≠f)(a:92≠f)(b:(w.alloc o).grownBy w' v.ownBlock):zz4 lo w' u L:=by
 obtain⟨e,g,j,l⟩:=h;exact⟨e,g,zAr j k a b,λi hi=>(l i hi).oth k d b⟩
theorem zAi.leg{d g:Value}{L:List gF}{K:List CP}{a:List (LV)}{x:gF}{f:LV}(h:zAi lo w d g U L K Q)(j:a.length=L.length)(b:w.ownsRow lo 92 7 d L.length a.flatten)(k:∀i (h:i<a.length),LgC lo w (Qa L i) a[i]) 
 (c:(w.alloc o).grownBy w' d.ownBlock) (l:LgC lo w x f) (m:w'.ownsRow lo 92 7 v (L.length+1) (a.flatten++f)):zAi lo w' v g U (L++ [x]) K Q where
 lg:=by
  refine⟨a++ [f],by simp[j],by simp_all,λi hi=>?_⟩;by_cases e:i<a.length
  . rw[List.getElem_append_left e];have q:Qa (L++ [x]) i=Qa L i:=by
     simp only[Qa,Cr];rw[Tp (by omega)]
    rw[q];exact(k i e).oth b (by decide) c
  have n:i=a.length:=by simp at hi;omega
  subst n;have q:Qa (L++ [x]) a.length=x:=by
   simp only[Qa,Cr,j];simp
  rw[q];simpa using l.oth b (by decide) c
 lk:=zAr h.lk b (by decide) c
 iv:=h.iv.oth b (by decide) c
def zAi.int{b:Value}{L:List gF}{K:List CP}(h:zAi lo w b c U L K Q)(a:(w.alloc o).grownBy w' (U i).ownBlock) 
 (d:w'.ownsRow lo 3 1 (Kx g 0 ((Q i).length+1) cap) ((Q i).length+1) ((Q i).map (Value.int .i64)++ [Bn x])) (e:(U i).ownBlock=some g\/g=w.heap.size+1):zAi lo w' b c (updV U i (Kx g 0 ((Q i).length+1) cap)) L K (SX Q i (Q i++ [x])) where
 lg:=h.lg.oth (h.iv.own i) (by decide) (by decide) a
 lk:=zAr h.lk (h.iv.own i) (by decide) a
 iv:=h.iv.app a d e
theorem zAi.link{a b:Value}{L:List gF}{K:List CP}{x:CP}(h:zAi lo w a b U L K Q)(c:(w.alloc o).grownBy w' b.ownBlock) 
 (d:w'.ownsRow lo 94 3 v (K.length+1) ((K.map lnkC).flatten++lnkC x)):zAi lo w' a v U L (K++ [x]) Q where
 lg:=h.lg.oth h.lk (by decide) (by decide) c
 lk:=by simp_all
 iv:=h.iv.oth h.lk (by decide) c
