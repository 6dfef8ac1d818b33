/- a part of the proof -/
import Derived.Test.YtelojoopofolpaaGreatKA
import Derived.Test.YtelojoopofolpaaGreatH6
set_option linter.all false
set_option maxRecDepth 100000
set_option maxHeartbeats 3000000
namespace Go.Proofs.YtelojoopofolpaaGreat
open Go.RowKit Go.Proofs.Tryz

end Go.Proofs.YtelojoopofolpaaGreat
namespace Go.Proofs.YtelojoopofolpaaGreat
open Go.RowKit Go.Sort Go.Proofs.Tryz
variable {cap g i j k lo m n r:Nat}{w w':Wd}{a:Ae}{b xs:LV}{Φ:Wd->Prop}{e f:TypeId}{base s:BA}{c u v:Value}{U:Nat->Value}{Q:Nat->LI}{x:Int}{o:Obj}{p:LI}{l:List (BA×zE)}{M:List (Value×Value)}



theorem retB{a b:Bool}(h:a=b):Ending.returned (.bool a)=.returned (.bool b):=by rw[h]
def eqUp{A:Type}(l m:List A)(k:Nat):Prop:=l.take k=m.take k
theorem eqUp.go{A:Type}{l m:List A}(h:eqUp l m k)(a:k<l.length)(b:k<m.length)(e:l[k]=m[k]):eqUp l m (k+1):=by
 unfold eqUp at*;rw[tS a,tS b,h,e]
theorem eqUp.no{A:Type}{l m:List A}(a:k<l.length)(b:k<m.length)(e:¬ l[k]=m[k]):¬ l=m:=λh=>e (by subst h;rfl)
theorem eqUp.fin{A:Type}{l m:List A}(h:eqUp l m l.length)(a:l.length=m.length):l=m:=by
 unfold eqUp at h;rw[List.take_length,a,List.take_length]at h;exact h
theorem zBP(l m:List (Int×Bool))(a:Ae)(cap:Nat)(b:Ae)(v:Nat)(w:Wd)(N:l.length<=2^47)(P:m.length<=2^47)(y:Al Ei w a l)(z:Al Ei w b m):CV 199 #[.slice a l.length cap,.slice b m.length v] w (.bool (decide (l=m))):=by
 have D:=I y;have E:=I z;delta CV;go_in;by_cases g:l.length=m.length
 . have F:((l.length:Int) !=(m.length:Int))=false:=by simp[g]
   have G:=I g;have Q:l.length<=m.length:=by omega
   have R:m.length<=l.length:=by omega
   go_wp2_with fail;go_loopw [13] (λi wr=>∃(k:Nat),k<=l.length/\i=Bn k/\Af (eqUp l m k)/\Af (Bw w wr)) (λi _=>l.length-(intOf i).toNat);exact⟨0,Bg _,rfl,I rfl,I (An _ _)⟩;obtain⟨k,S,rfl,j,c⟩:=hrel;by_cases n:k<l.length
   . have f:k<m.length:=by omega
     obtain⟨T,U,rfl,p,q⟩:=Ok D.1 (by omega);obtain⟨V,W,rfl,r,s⟩:=Ok E.1 (by omega);obtain⟨X,Y⟩:=(q.below p c.1) k n;obtain⟨H,K⟩:=(s.below r c.1) k f;have L:=As p c.1.size;have M:=As r c.1.size;have A:=I (show Cm l k=l[k] by simp[Cm,n]);have B:=I (show Cm m k=m[k] by simp[Cm,f]);by_cases o:l[k]=m[k]
     . have d:=I (j.1.go n f o);have t:=congrArg Prod.fst o;have x:=congrArg Prod.snd o;rw[<-A.1,<-B.1]at t x;rw[<-t]at H;rw[<-x]at K;go_wp2;go_quiet (fail);go_wp2;go_roundw;exact⟨k+1,by omega,by go_num,d,I (dN c.1 _)⟩;simp[intOf];omega
     have d:=I (decide_eq_false (eqUp.no n f o));have t:(¬ (Cm l k).1=(Cm m k).1)\/((Cm l k).1=(Cm m k).1/\¬ (Cm l k).2=(Cm m k).2):=by
      rw[<-A.1,<-B.1]at o;by_cases u:(Cm l k).1=(Cm m k).1;exact .inr ⟨u,λC=>o (Prod.ext u C)⟩;exact .inl u
     rcases t with u|⟨u,C⟩
     all_goals
      go_wp2;go_quiet (fail)
      go_wp2;go_ret;exact⟨retB d.1.symm,dN c.1 _⟩
   obtain rfl:k=l.length:=by omega
   have d:=I (decide_eq_true (j.1.fin G.1));go_wp2;go_ret;exact⟨retB d.1.symm,c.1⟩
 have F:((l.length:Int) !=(m.length:Int))=true:=by simp;omega
 have d:=I (decide_eq_false (λh:l=m=>g (by rw[h])));go_wp2;go_ret;exact⟨retB d.1.symm,An _ _⟩
structure Sd where
 duty:Ai
 rep:Int
 rel:Int
 src:BA
 dst:BA
 cost:Int
 cred:Int
def legB(x y:Sd):Bool:=decide (x.duty=y.duty)&&((x.rep==y.rep)&&((x.rel==y.rel)&&((x.src.toList==y.src.toList)&&((x.dst.toList==y.dst.toList)&&((x.cost==y.cost)&&(x.cred==y.cred))))))
theorem zCM{a b:BA}(h:(a.toList==b.toList)=true):a=b:=by
 rw[beq_iff_eq,Lib.toList_data,Lib.toList_data]at h;cases a;cases b;simp at h;congr
theorem zBO{x y:Sd}:legB x y=true ↔ x=y:=by
 constructor;intro h;simp only[legB,Em]at h;obtain⟨a,b,c,d,e,f,g⟩:=h;have i:=of_decide_eq_true a;have j:=zCM d;have k:=zCM e;simp at b c f g;cases x;cases y;simp_all;rintro rfl;simp[legB]
theorem zCL(a b c d e f g:Bool):a=false\/(a=true/\b=false)\/(a=true/\b=true/\c=false)\/(a=true/\b=true/\c=true/\d=false)\/(a=true/\b=true/\c=true/\d=true/\e=false)\/(a=true/\b=true/\c=true/\d=true/\e=true/\f=false)\/(a=true/\b=true/\c=true/\d=true/\e=true/\f=true/\g=false)\/(a=true/\b=true/\c=true/\d=true/\e=true/\f=true/\g=true):=by
 cases a <;> cases b <;> cases c <;> cases d <;> cases e <;> cases f <;> cases g <;> simp
theorem zBM(x y:Sd)(a:Ae)(b:Nat)(h:Ae)(l:Nat)(w:Wd)(t:x.duty.length<=2^47)(u:y.duty.length<=2^47)(n:Al Ei w a x.duty)(o:Al Ei w h y.duty):CV 135 #[.agg #[.slice a x.duty.length b,x.rep,x.rel,.string x.src,.string x.dst,x.cost,x.cred],.agg #[.slice h y.duty.length l,y.rep,y.rel,.string y.src,.string y.dst,y.cost,y.cred]] w (.bool (legB x y)):=by
 delta CV;go_in;go_wp2_with fail;have q:=Ab (J w (Obj.cells #[.slice a x.duty.length b,x.rep,x.rel,.string x.src,.string x.dst,x.cost,x.cred] 50)) (J (w.alloc (Obj.cells #[.slice a x.duty.length b,x.rep,x.rel,.string x.src,.string x.dst,x.cost,x.cred] 50)) (Obj.cells #[.slice h y.duty.length l,y.rep,y.rel,.string y.src,.string y.dst,y.cost,y.cred] 50));have i:=((J (w.alloc (Obj.cells #[.slice a x.duty.length b,x.rep,x.rel,.string x.src,.string x.dst,x.cost,x.cred] 50)) (Obj.cells #[.slice h y.duty.length l,y.rep,y.rel,.string y.src,.string y.dst,y.cost,y.cred] 50)).block _ (Ag (zh w (Obj.cells #[.slice a x.duty.length b,x.rep,x.rel,.string x.src,.string x.dst,x.cost,x.cred] 50)))).trans (zh w (Obj.cells #[.slice a x.duty.length b,x.rep,x.rel,.string x.src,.string x.dst,x.cost,x.cred] 50));have c:=zh (w.alloc (Obj.cells #[.slice a x.duty.length b,x.rep,x.rel,.string x.src,.string x.dst,x.cost,x.cred] 50)) (Obj.cells #[.slice h y.duty.length l,y.rep,y.rel,.string y.src,.string y.dst,y.cost,y.cred] 50);rw[show(w.alloc (Obj.cells #[.slice a x.duty.length b,x.rep,x.rel,.string x.src,.string x.dst,x.cost,x.cred] 50)).heap.size=w.heap.size+1 by simp]at c;generalize (w.alloc (Obj.cells #[.slice a x.duty.length b,x.rep,x.rel,.string x.src,.string x.dst,x.cost,x.cred] 50)).alloc (Obj.cells #[.slice h y.duty.length l,y.rep,y.rel,.string y.src,.string y.dst,y.cost,y.cred] 50)=W at*;refine ca (zBP x.duty y.duty a b h l W t u (n.below q) (o.below q)) λB d=>?_;have f:=(d.block _ (Ag i)).trans i;have g:=(d.block _ (Ag c)).trans c;have z:=I (Ab q d);have C:=D_ f;have D:=D_ g;have R:=Ag f;have S:=Ag g;rcases zCL (decide (x.duty=y.duty)) (x.rep==y.rep) (x.rel==y.rel) (x.src.toList==y.src.toList) (x.dst.toList==y.dst.toList) (x.cost==y.cost) (x.cred==y.cred) with k|⟨k,m⟩|⟨k,m,p⟩|⟨k,m,p,r⟩|⟨k,m,p,r,s⟩|⟨k,m,p,r,s,v⟩|⟨k,m,p,r,s,v,A⟩|⟨k,m,p,r,s,v,A⟩
 all_goals
  go_wp2;go_ret;refine⟨retB ?_,z.1⟩;simp only[legB, *];rfl
theorem zAz{x y:Int×Bool}:zzT x y=0 ↔ x=y:=by
 obtain⟨a,p⟩:=x;obtain⟨b,q⟩:=y;simp only[zzT,zz5,Prod.mk.injEq];constructor;intro h;by_cases c:a<b;rw[iP c]at h;simp at h;by_cases d:b<a;rw[iN c,iP d]at h;simp at h;refine⟨by omega,?_⟩;rw[iN c,iN d]at h;simp at h;by_cases e:p=q;exact e;have f:=h e;split at f <;> simp at f;rintro⟨rfl,rfl⟩;simp
theorem zAF:∀(l m:List (Int×Bool)),CD l m=0 ↔ l=m
 |[], []=>by simp[CD,zz9]
 |[],_::_=>by simp[CD,zz9]
 |_::_, []=>by simp[CD,zz9]
 |x::l,y::m=>by
  have a:=zAF l m;simp only[CD]at a;simp only[CD,zz9,List.cons.injEq];by_cases h:zzT x y=0
  . rw[iN (by simp[h]),a];exact⟨λk=>⟨zAz.1 h,k⟩,λk=>k.2⟩
  rw[iP h];exact⟨λk=>aB k h,λk=>aB (zAz.2 k.1) h⟩
theorem zBe(l m:Ai)(a c:Ae)(cap b:Nat)(w:Wd)(f:l.length<=2^47)(g:m.length<=2^47)(h:Al Ei w a l)(d:Al Ei w c m):CV 139 #[.slice a l.length cap,.slice c m.length b] w (.bool (decide (l=m))):=by
 have i:=I (show decide (l=m)=(CD l m==0) by
  rw[Bool.eq_iff_iff,decide_eq_true_iff,beq_iff_eq];exact(zAF l m).symm)
 delta CV;go_in;go_wp2_with fail;refine ca (zAd l m a c cap b w f g h d) λk j=>?_;go_wp2;go_ret;exact⟨retB i.1.symm,j⟩
theorem zAA(x y:Sd)(a:Ae)(b:Nat)(h:Ae)(l:Nat)(w:Wd)(t:x.duty.length<=2^47)(u:y.duty.length<=2^47)(n:Al Ei w a x.duty)(o:Al Ei w h y.duty):CV 77 #[.agg #[.slice a x.duty.length b,x.rep,x.rel,.string x.src,.string x.dst,x.cost,x.cred],.agg #[.slice h y.duty.length l,y.rep,y.rel,.string y.src,.string y.dst,y.cost,y.cred]] w (.bool (legB x y)):=by
 delta CV;go_in;go_wp2_with fail;have q:=Ab (J w (Obj.cells #[.slice a x.duty.length b,x.rep,x.rel,.string x.src,.string x.dst,x.cost,x.cred] 50)) (J (w.alloc (Obj.cells #[.slice a x.duty.length b,x.rep,x.rel,.string x.src,.string x.dst,x.cost,x.cred] 50)) (Obj.cells #[.slice h y.duty.length l,y.rep,y.rel,.string y.src,.string y.dst,y.cost,y.cred] 50));have i:=((J (w.alloc (Obj.cells #[.slice a x.duty.length b,x.rep,x.rel,.string x.src,.string x.dst,x.cost,x.cred] 50)) (Obj.cells #[.slice h y.duty.length l,y.rep,y.rel,.string y.src,.string y.dst,y.cost,y.cred] 50)).block _ (Ag (zh w (Obj.cells #[.slice a x.duty.length b,x.rep,x.rel,.string x.src,.string x.dst,x.cost,x.cred] 50)))).trans (zh w (Obj.cells #[.slice a x.duty.length b,x.rep,x.rel,.string x.src,.string x.dst,x.cost,x.cred] 50));have c:=zh (w.alloc (Obj.cells #[.slice a x.duty.length b,x.rep,x.rel,.string x.src,.string x.dst,x.cost,x.cred] 50)) (Obj.cells #[.slice h y.duty.length l,y.rep,y.rel,.string y.src,.string y.dst,y.cost,y.cred] 50);rw[show(w.alloc (Obj.cells #[.slice a x.duty.length b,x.rep,x.rel,.string x.src,.string x.dst,x.cost,x.cred] 50)).heap.size=w.heap.size+1 by simp]at c;generalize (w.alloc (Obj.cells #[.slice a x.duty.length b,x.rep,x.rel,.string x.src,.string x.dst,x.cost,x.cred] 50)).alloc (Obj.cells #[.slice h y.duty.length l,y.rep,y.rel,.string y.src,.string y.dst,y.cost,y.cred] 50)=W at*;refine ca (zBe x.duty y.duty a h b l W t u (n.below q) (o.below q)) λB d=>?_;have f:=(d.block _ (Ag i)).trans i;have g:=(d.block _ (Ag c)).trans c;have z:=I (Ab q d);have C:=D_ f;have D:=D_ g;have R:=Ag f;have S:=Ag g;rcases zCL (decide (x.duty=y.duty)) (x.rep==y.rep) (x.rel==y.rel) (x.src.toList==y.src.toList) (x.dst.toList==y.dst.toList) (x.cost==y.cost) (x.cred==y.cred) with k|⟨k,m⟩|⟨k,m,p⟩|⟨k,m,p,r⟩|⟨k,m,p,r,s⟩|⟨k,m,p,r,s,v⟩|⟨k,m,p,r,s,v,A⟩|⟨k,m,p,r,s,v,A⟩
 all_goals
  go_wp2;go_ret;refine⟨retB ?_,z.1⟩;simp only[legB, *];rfl
def lg0:Sd:=⟨[],0,0,ByteArray.empty,ByteArray.empty,0,0⟩
def Hx(L:List Sd)(i:Nat):Sd:=L.getD i lg0
def LgAt(w:Wd)(g o:Nat)(x:Sd):Prop:=∃(da:Ae) (dc:Nat),w.cell? (aD g o)=some (.slice da x.duty.length dc)/\w.cell? (aD g (o+1))=some (.int .i64 x.rep)/\w.cell? (aD g (o+2))=some (.int .i64 x.rel)/\w.cell? (aD g (o+3))=some (.string x.src)/\w.cell? (aD g (o+4))=some (.string x.dst)/\w.cell? (aD g (o+5))=some (.int .i64 x.cost)/\w.cell? (aD g (o+6))=some (.int .i64 x.cred)/\x.duty.length<=140737488355328/\Al Ei w da x.duty
theorem LgAt.below{o:Nat}{x:Sd}(h:LgAt w g o x)(b:g<w.heap.size)(a:Bw w w'):LgAt w' g o x:=by
 obtain⟨c,d,e,f,i,j,k,l,m,n,q⟩:=h;exact⟨c,d,(a.cell (p:=aD g o) b).trans e,(a.cell (p:=aD g (o+1)) b).trans f,(a.cell (p:=aD g (o+2)) b).trans i,(a.cell (p:=aD g (o+3)) b).trans j,(a.cell (p:=aD g (o+4)) b).trans k,(a.cell (p:=aD g (o+5)) b).trans l,(a.cell (p:=aD g (o+6)) b).trans m,n,q.below a⟩
def zzU(w:Wd)(a:Ae)(L:List Sd):Prop:=L= []\/∃g o,a=some (aD g o)/\g<w.heap.size/\∀i,i<L.length->LgAt w g (o+i*7) (Hx L i)
theorem zzU.below{L:List Sd}(h:zzU w a L)(b:Bw w w'):zzU w' a L:=by
 rcases h with h|⟨g,o,d,c,e⟩;exact .inl h;exact .inr ⟨g,o,d,As c b.size,λi hi=>(e i hi).below c b⟩
theorem zzU.cells{L:List Sd}(h:zzU w a L)(b:0<L.length):∃g o,a=some (aD g o)/\g<w.heap.size/\∀i,i<L.length->LgAt w g (o+i*7) (Hx L i):=
 h.resolve_left (λe=>by simp[e]at b)
structure DW where
 i:Int
 k:Int
 cost:Int
def PB(L:List DW)(i:Nat):DW:=L.getD i ⟨0,0,0⟩
def zz2(w:Wd)(a:Ae)(L:List DW):Prop:=L= []\/∃g o,a=some (aD g o)/\g<w.heap.size/\∀j,j<L.length->w.cell? (aD g (o+j*3))=some (.int .i64 (PB L j).i)/\w.cell? (aD g (o+j*3+1))=some (.int .i64 (PB L j).k)/\w.cell? (aD g (o+j*3+2))=some (.int .i64 (PB L j).cost)
theorem zz2.below{L:List DW}(h:zz2 w a L)(b:Bw w w'):zz2 w' a L:=by
 rcases h with h|⟨g,o,e,c,d⟩;exact .inl h;exact .inr ⟨g,o,e,As c b.size,λi hi=>⟨(b.cell (p:=aD g (o+i*3)) c).trans (d i hi).1,(b.cell (p:=aD g (o+i*3+1)) c).trans (d i hi).2.1,(b.cell (p:=aD g (o+i*3+2)) c).trans (d i hi).2.2⟩⟩
theorem zz2.cells{L:List DW}(h:zz2 w a L)(b:0<L.length):∃g o,a=some (aD g o)/\g<w.heap.size/\∀j,j<L.length->w.cell? (aD g (o+j*3))=some (Bn (PB L j).i)/\w.cell? (aD g (o+j*3+1))=some (Bn (PB L j).k)/\w.cell? (aD g (o+j*3+2))=some (Bn (PB L j).cost):=
 h.resolve_left (λe=>by simp[e]at b)
theorem zAS(q:LI)(a:Ae)(l:Nat)(b:Ae)(m:Nat)(w:Wd)(s:q.length<=2^47)(h:zW w a q)(j:zW w b q):CV 80 #[.slice a q.length l,.slice b q.length m] w (.bool true):=by
 have n:=I h;have o:=I j;delta CV;go_in;go_wp2_with fail;go_loopw [5] (λi wr=>∃(k:Nat),k<=q.length/\i=Bn k/\Af (Bw w wr)) (λi _=>q.length-(intOf i).toNat);exact⟨0,Bg _,rfl,I (An _ _)⟩;obtain⟨k,t,rfl,c⟩:=hrel;by_cases d:k<q.length
 . obtain⟨u,v,rfl,p,f⟩:=(n.1.below c.1).cells (by omega);obtain⟨x,y,rfl,r,g⟩:=(o.1.below c.1).cells (by omega);have z:=f k d;have A:=g k d;go_wp2;go_quiet (fail);go_wp2;go_roundw;exact⟨k+1,by omega,by go_num,I (dN c.1 _)⟩;simp[intOf];omega
 obtain rfl:k=q.length:=by omega
 go_wp2;go_ret;exact⟨rfl,c.1⟩
theorem zBL(L:List Sd)(a:Ae)(T:Nat)(b:Ae)(U:Nat)(w:Wd)(hq:L.length<=140737488355328)(P:zzU w a L)(Q:zzU w b L):CV 79 #[.slice a L.length T,.slice b L.length U] w (.bool true):=by
 have V:=I P;have W:=I Q;clear P Q;go_enter func79,ntmps79
 go_wp2_with fail;go_loopw [5] (λi wr=>∃(k:Nat),k<=L.length/\i=.int .i64 k/\Af (Bw w wr)) (λi _=>L.length-(intOf i).toNat)
 case atStart=>exact⟨0,Bg _,rfl,I (An _ _)⟩
 obtain⟨k,hk,rfl,c⟩:=hrel;by_cases l:k<L.length
 . obtain⟨X,o1,rfl,q,m⟩:=(V.1.below c.1).cells (by omega);obtain⟨Y,o2,rfl,r,n⟩:=(W.1.below c.1).cells (by omega);obtain⟨Z,dc,s,t,u,v,y,z,A,o,g⟩:=m k l;obtain⟨ea,ec,B,C,D,E,F,G,H,p,j⟩:=n k l;obtain⟨x,R⟩:∃x,x=Hx L k:=⟨_,rfl⟩;rw[<-R]at s t u v y z A B C D E F G H o p g j;have T1:=I g;have T2:=I j;have HE:=I (zBO.2 (rfl:x=x));clear m n R g j;have r0:=cR s;have r1:=cR t;have r2:=cR u;have r3:=cR v;have r4:=cR y;have r5:=cR z;have r6:=cR A;have s0:=cR B;have s1:=cR C;have s2:=cR D;have s3:=cR E;have s4:=cR F;have s5:=cR G;have s6:=cR H;have z1:∀d f,X<(grow (redrawn wr d) f).heap.size:=λd f=>As q (bR wr d f).size
   have z2:∀d f,Y<(grow (redrawn wr d) f).heap.size:=λd f=>As r (bR wr d f).size
   have K:=I (λ(d:Nat) (f:Array Obj)=>Fa ((zAA x x Z dc ea ec (grow (redrawn wr d) f) o p (T1.1.below (bR wr d f)) (T2.1.below (bR wr d f))).mono λe w' h=>⟨h.1.trans (by rw[HE.1]),h.2⟩));go_wp2_with fail;refine wQ (by kernel_rfl) (by kernel_rfl) ?_;repeat (first|go_big_quiet_step (first|exact K.1 _ _)|quiet_step (first|exact K.1 _ _))
   refine wpQuiet_nil ?_;intro w1 M;obtain⟨⟨S,f⟩,rfl⟩:=M;have N:=jS c (bR wr S f);clear r0 r1 r2 r3 r4 r5 r6 s0 s1 s2 s3 s4 s5 s6 z1 z2 s t u v y z A B C D E F G H K;generalize grow (redrawn wr S) f=w2 at*;go_wp2;go_roundw
   case rel=>exact⟨k+1,by omega,by go_num,N⟩
   case measure=>simp[intOf];omega
 obtain rfl:k=L.length:=by omega
 go_wp2;go_ret;exact⟨rfl,c.1⟩
theorem zA3(base:BA)(L:List Sd)(K:List DW)(S E:LI)(b f c d t A u v:Ae)(g m h l B F C D:Nat)(w:Wd)(hL:L.length<=140737488355328)(hK:K.length<=140737488355328)(hS:S.length<=140737488355328)(hE:E.length<=140737488355328)(G:zzU w b L)(H:zzU w t L)(M:zz2 w f K)(N:zz2 w A K)(P:zW w c S)(Q:zW w u S)(R:zW w d E)(T:zW w v E):CV 25 #[.agg #[.string base,.slice b L.length g,.slice f K.length m,.slice c S.length h,.slice d E.length l],.agg #[.string base,.slice t L.length B,.slice A K.length F,.slice u S.length C,.slice v E.length D]] w (.bool true):=by
 have H1:=I G;have H2:=I H;have H3:=I M;have H4:=I N;have H5:=I P;have H6:=I Q;have H7:=I R;have H8:=I T;clear G H M N P Q R T;go_enter func25,ntmps25
 go_wp2_with fail;have hB:=Ab (J w (Obj.cells #[.string base,.slice b L.length g,.slice f K.length m,.slice c S.length h,.slice d E.length l] 65)) (J (w.alloc (Obj.cells #[.string base,.slice b L.length g,.slice f K.length m,.slice c S.length h,.slice d E.length l] 65)) (Obj.cells #[.string base,.slice t L.length B,.slice A K.length F,.slice u S.length C,.slice v E.length D] 65));have q1:=((J (w.alloc (Obj.cells #[.string base,.slice b L.length g,.slice f K.length m,.slice c S.length h,.slice d E.length l] 65)) (Obj.cells #[.string base,.slice t L.length B,.slice A K.length F,.slice u S.length C,.slice v E.length D] 65)).block _ (Ag (zh w (Obj.cells #[.string base,.slice b L.length g,.slice f K.length m,.slice c S.length h,.slice d E.length l] 65)))).trans (zh w (Obj.cells #[.string base,.slice b L.length g,.slice f K.length m,.slice c S.length h,.slice d E.length l] 65));have Y:=zh (w.alloc (Obj.cells #[.string base,.slice b L.length g,.slice f K.length m,.slice c S.length h,.slice d E.length l] 65)) (Obj.cells #[.string base,.slice t L.length B,.slice A K.length F,.slice u S.length C,.slice v E.length D] 65);rw[show(w.alloc (Obj.cells #[.string base,.slice b L.length g,.slice f K.length m,.slice c S.length h,.slice d E.length l] 65)).heap.size=w.heap.size+1 by simp]at Y;obtain⟨pb,x⟩:∃pb,pb=w.heap.size:=⟨_,rfl⟩;obtain⟨qb,y⟩:∃qb,qb=w.heap.size+1:=⟨_,rfl⟩;rw[<-y]at Y;rw[<-x]at q1;simp only[<-y];simp only[<-x];clear y x;generalize (w.alloc (Obj.cells #[.string base,.slice b L.length g,.slice f K.length m,.slice c S.length h,.slice d E.length l] 65)).alloc (Obj.cells #[.string base,.slice t L.length B,.slice A K.length F,.slice u S.length C,.slice v E.length D] 65)=W at*;have Z:=I hB;have Q1:=I q1;have Q2:=I Y;clear hB q1 Y;refine ca (zBL L b g t B W hL (H1.1.below Z.1) (H2.1.below Z.1)) λw1 B1=>?_;have n:=jS Z B1;have o:=I ((B1.block _ (Ag Q1.1)).trans Q1.1);have p:=I ((B1.block _ (Ag Q2.1)).trans Q2.1);clear B1 Z Q1 Q2;have x0:=zm (j:=0) o.1 rfl;have x1:=zm (j:=1) o.1 rfl;have x2:=zm (j:=2) o.1 rfl;have x3:=zm (j:=3) o.1 rfl;have x4:=zm (j:=4) o.1 rfl;have xl:=Ag o.1;have y0:=zm (j:=0) p.1 rfl;have y1:=zm (j:=1) p.1 rfl;have y2:=zm (j:=2) p.1 rfl;have y3:=zm (j:=3) p.1 rfl;have y4:=zm (j:=4) p.1 rfl;have yl:=Ag p.1;go_wp2_with fail;refine ca (zAS S c h u C w1 hS (H5.1.below n.1) (H6.1.below n.1)) λw2 B2=>?_;have q:=jS n B2;have r:=I ((B2.block _ (Ag o.1)).trans o.1);have s:=I ((B2.block _ (Ag p.1)).trans p.1);clear B2 n o p x0 x1 x2 x3 x4 xl y0 y1 y2 y3 y4 yl;have x0:=zm (j:=0) r.1 rfl;have x1:=zm (j:=1) r.1 rfl;have x2:=zm (j:=2) r.1 rfl;have x3:=zm (j:=3) r.1 rfl;have x4:=zm (j:=4) r.1 rfl;have xl:=Ag r.1;have y0:=zm (j:=0) s.1 rfl;have y1:=zm (j:=1) s.1 rfl;have y2:=zm (j:=2) s.1 rfl;have y3:=zm (j:=3) s.1 rfl;have y4:=zm (j:=4) s.1 rfl;have yl:=Ag s.1;go_wp2_with fail;refine ca (zAS E d l v D w2 hE (H7.1.below q.1) (H8.1.below q.1)) λw3 B3=>?_;have z:=jS q B3;have V1:=I ((B3.block _ (Ag r.1)).trans r.1);have V2:=I ((B3.block _ (Ag s.1)).trans s.1);clear B3 q r s x0 x1 x2 x3 x4 xl y0 y1 y2 y3 y4 yl;go_wp2_with fail;go_loopw [5] (λi wr=>∃(k:Nat),k<=K.length/\i=.int .i64 k/\Af (Bw w3 wr)) (λi _=>K.length-(intOf i).toNat)
 case atStart=>exact⟨0,Bg _,rfl,I (An _ _)⟩
 obtain⟨k,hk,rfl,a⟩:=hrel;have U1:=(a.1.block _ (Ag V1.1)).trans V1.1;have U2:=(a.1.block _ (Ag V2.1)).trans V2.1;have x2:=zm (j:=2) U1 rfl;have y2:=zm (j:=2) U2 rfl;have xl:=Ag U1;have yl:=Ag U2;clear U1 U2;by_cases U:k<K.length
 . obtain⟨g1,o1,rfl,a0,V⟩:=(H3.1.below (Ab z.1 a.1)).cells (by omega);obtain⟨g2,o2,rfl,a9,X⟩:=(H4.1.below (Ab z.1 a.1)).cells (by omega);obtain⟨c0,c1,c2⟩:=V k U;obtain⟨d0,d1,d2⟩:=X k U;clear V X;go_wp2;go_quiet (fail)
   go_wp2;go_roundw
   case rel=>exact⟨k+1,by omega,by go_num,I (dN a.1 _)⟩
   case measure=>simp[intOf];omega
 obtain rfl:k=K.length:=by omega
 go_wp2;go_ret;exact⟨rfl,Ab z.1 a.1⟩
def jR(lo:Nat)(w w':Wd):Prop:=w.heap.size<=w'.heap.size/\∀b,lo<=b->b<w.heap.size->w'.heap[b]?=w.heap[b]?
theorem jR.refl(lo:Nat)(w:Wd):jR lo w w:=⟨Bv _,λ_ _ _=>rfl⟩
theorem jR.trans{a c:Wd}(h:jR lo w a)(k:jR lo a c):jR lo w c:=⟨Bf h.1 k.1,λb h1 h2=>(k.2 b h1 (As h2 h.1)).trans (h.2 b h1 h2)⟩
theorem jR.of(h:Bw w w'):jR lo w w':=⟨h.size,λb _ hb=>h.block b hb⟩
theorem jR.set(w:Wd){b:Nat}(a:b<lo)(i:Nat)(v:Value):jR lo w (w.setCell (aD b i) v):=⟨by simp[World.setCell],λg h1 h2=>by
 simp only[World.setCell];rw[Array.getElem?_modify];rw[iN (by omega)]⟩
theorem jR.stN{b:Nat}(a:b<lo):∀(l:LV) (i:Nat) (w:Wd),jR lo w (stN b i l w)
 |[],_,w=>jR.refl lo w
 |v::l,i,w=>(jR.set w a i v).trans (jR.stN a l (i+1) _)
def FrK(lo:Nat)(Φ:Wd->Prop)(w:Wd):Prop:=∀w',jR lo w w'->Φ w'
theorem FrK.use(h:FrK lo Φ w):Φ w:=h w (jR.refl _ _)
theorem FrK.to(h:FrK lo Φ w)(a:jR lo w w'):FrK lo Φ w':=λw2 a2=>h w2 (a.trans a2)
theorem FrK.le{a:Nat}(h:FrK lo Φ w)(c:a<=lo):FrK a Φ w:=λw2 a2=>h w2 ⟨a2.1,λb h1 h2=>a2.2 b (Bf c h1) h2⟩
theorem zz3{s:Nat}(h:w.ownsRow lo e s v n xs)(a:jR lo w w'):w'.ownsRow lo e s v n xs:=by
 refine⟨h.1,?_⟩;rcases h.2 with b|⟨g,c,d,b,f,i,j⟩;exact .inl b;exact .inr ⟨g,c,d,b,f,(a.2 g f (Ag i)).trans i,j⟩
theorem zCC{q:LI}(h:w.ownsRow lo e 1 v q.length (q.map (Value.int .i64))):∃a b,v=.slice a q.length b/\FrK lo (λw=>zW w a q) w:=by
 obtain⟨a,b,rfl,g,i,j⟩:=Sw h;refine⟨a,b,rfl,λw' ag=>?_⟩;obtain⟨k,c,d,f⟩:=zW.of_own (zz3 h ag);cases d;exact f
def QV(x:DW):LV:= [.int .i64 x.i,.int .i64 x.k,.int .i64 x.cost]
theorem zCU{K:List DW}:∀c∈K.map QV,c.length=3:=λc hc=>by
 obtain⟨x,_,rfl⟩:=List.mem_map.1 hc;rfl
theorem zCV{K:List DW}(h:i<K.length):(K.map QV)[i]'(by simpa using h)= [Bn (PB K i).i,Bn (PB K i).k,Bn (PB K i).cost]:=by
 simp[QV,PB,Cr,Cz h]
theorem zCz{K:List DW}(h:w.ownsRow lo e 3 (.slice a K.length cap) K.length (K.map QV).flatten):zz2 w a K:=by
 rcases h.2 with⟨f,p⟩|⟨g,l,d,f,u,c,q,r,s,t⟩;exact .inl (List.length_eq_zero_iff.1 p);cases f;refine .inr ⟨g,0,rfl,Ag c,λj hj=>?_⟩;have b:∀m,m<3->d[0+j*3+m]?= [Bn (PB K j).i,Bn (PB K j).k,Bn (PB K j).cost][m]?:=λm hm=>by
  have o:=Zy (n:=3) (K.map QV) zCU j (by simpa using hj) m hm;rw[zCV hj,<-t,List.getElem?_take,iP (by omega)]at o;rw[Nat.zero_add];simpa using o
 exact⟨zm c (by simpa using b 0 (by decide)),zm c (by simpa using b 1 (by decide)),zm c (by simpa using b 2 (by decide))⟩
theorem zBt{K:List DW}(h:w.ownsRow lo e 3 v K.length (K.map QV).flatten):∃a b,v=.slice a K.length b/\FrK lo (λw=>zz2 w a K) w:=by
 obtain⟨a,b,rfl,c,d,f⟩:=Sw h;exact⟨a,b,rfl,λw' ag=>zCz (zz3 h ag)⟩
def LgC(lo:Nat)(w:Wd)(x:Sd)(cs:LV):Prop:=∃(da:Ae) (dc:Nat),cs= [.slice da x.duty.length dc,.int .i64 x.rep,.int .i64 x.rel,.string x.src,.string x.dst,.int .i64 x.cost,.int .i64 x.cred]/\x.duty.length<=140737488355328/\(∀y∈x.duty,(Lit.int .i64 y.1).wf=true)/\Hj lo (.slice da x.duty.length dc) x.duty w
def zz4(lo:Nat)(w:Wd)(v:Value)(L:List Sd):Prop:=∃LL:List (LV),LL.length=L.length/\w.ownsRow lo 50 7 v L.length LL.flatten/\∀i (h:i<LL.length),LgC lo w (Hx L i) LL[i]
theorem LgC.agr{x:Sd}(h:LgC lo w x b)(a:jR lo w w'):LgC lo w' x b:=by
 obtain⟨c,d,e,f,g,i⟩:=h;exact⟨c,d,e,f,g,zz3 i a⟩
theorem zz4.agr{L:List Sd}(h:zz4 lo w v L)(a:jR lo w w'):zz4 lo w' v L:=by
 obtain⟨b,c,d,e⟩:=h;exact⟨b,c,zz3 d a,λi hi=>(e i hi).agr a⟩
theorem zz4.at{L:List Sd}(h:zz4 lo w (.slice a L.length cap) L):zzU w a L:=by
 obtain⟨f,H,s,k⟩:=h;rcases s.2 with⟨l,t⟩|⟨g,o,e,l,K,d,u,v,x,y⟩;exact .inl (List.length_eq_zero_iff.1 t);cases l;refine .inr ⟨g,0,rfl,Ag d,λj hj=>?_⟩;obtain⟨p,r,z,A,B,C⟩:=k j (by omega);have D:∀c∈f,c.length=7:=λc hcm=>by
  obtain⟨i,E,rfl⟩:=List.getElem_of_mem hcm;obtain⟨_,_,q,_⟩:=k i E;rw[q];rfl
 have b:∀m,m<7->e[0+j*7+m]?= [Value.slice p (Hx L j).duty.length r,Bn (Hx L j).rep,Bn (Hx L j).rel,.string (Hx L j).src,.string (Hx L j).dst,Bn (Hx L j).cost,Bn (Hx L j).cred][m]?:=λm hm=>by
  have q:=Zy (n:=7) f D j (by omega) m hm;rw[z,<-y,List.getElem?_take,iP (by omega)]at q;rw[Nat.zero_add];simpa using q
 obtain⟨M,N,F,-,G⟩:=Hj.at C B;cases F;exact⟨p,r,zm d (by simpa using b 0 (by decide)),zm d (by simpa using b 1 (by decide)),zm d (by simpa using b 2 (by decide)),zm d (by simpa using b 3 (by decide)),zm d (by simpa using b 4 (by decide)),zm d (by simpa using b 5 (by decide)),zm d (by simpa using b 6 (by decide)),A,G⟩
theorem zz4.fr{L:List Sd}(h:zz4 lo w v L):∃a b,v=.slice a L.length b/\FrK lo (λw=>zzU w a L) w:=by
 obtain⟨a,b,rfl,_⟩:=Sw h.choose_spec.2.1;exact⟨a,b,rfl,λw' ag=>(h.agr ag).at⟩
theorem zAP{d:Ai}(h:Al Ei w a d):∀y∈d,(Lit.int .i64 y.1).wf=true:=by
 intro y e;rcases h with rfl|⟨b,f,_,_,g⟩;cases e;obtain⟨i,j,rfl⟩:=List.getElem_of_mem e;obtain⟨l,_,c,m,rfl,⟨_,k⟩,_⟩:=g i j;exact k
def BW(U:Nat->Value)(i:Nat)(v:Value):Nat->Value:=λj=>if j=i then v else U j
def SX(Q:Nat->LI)(i:Nat)(l:LI):Nat->LI:=λj=>if j=i then l else Q j
structure zAe(lo:Nat)(w:Wd)(U:Nat->Value)(Q:Nat->LI):Prop where
 own:∀i,w.ownsRow lo 3 1 (U i) (Q i).length ((Q i).map (Value.int .i64))
 apart:∀i j b,(U i).ownBlock=some b->(U j).ownBlock=some b->i=j
theorem zAe.nil(lo:Nat)(w:Wd):zAe lo w (λ_=>Hn) (λ_=> []) where
 own _:=World.ownsRow_nil ..
 apart i j b h:=by cases h
theorem zAe.agr(h:zAe lo w U Q)(a:jR lo w w'):zAe lo w' U Q where
 own i:=zz3 (h.own i) a
 apart:=h.apart
theorem zAe.lt(h:zAe lo w U Q){b:Nat}(e:(U i).ownBlock=some b):lo<=b/\b<w.heap.size:=(h.own i).lt b e
theorem zAe.app(h:zAe lo w U Q)(q:(w.alloc o).grownBy w' (U i).ownBlock) 
 (r:w'.ownsRow lo 3 1 (Hy g 0 ((Q i).length+1) cap) ((Q i).length+1) ((Q i).map (Value.int .i64)++ [Bn x])) (p:(U i).ownBlock=some g\/g=w.heap.size+1):zAe lo w' (BW U i (Hy g 0 ((Q i).length+1) cap)) (SX Q i (Q i++ [x])) where
 own j:=by
  unfold BW SX
  by_cases e:j=i
  . rw[iP e,iP e,Gh,Ii];exact r
  rw[iN e,iN e];refine World.ownsRow.kept ((h.own j).alloc _) q ?_;cases s:(U j).ownBlock with
  |none=>exact .inl rfl
  |some b=>exact .inr λd=>e (h.apart j i b s (by rw[<-d]))
 apart a b c:=by
  unfold BW
  intro k f;by_cases m:a=i
  . by_cases d:b=i
    . rw[m,d]
    rw[iP m]at k;rw[iN d]at f;have n:c=g:=by cases k;rfl
    rcases p with l|l
    . exact aB (h.apart b i c f (by rw[l,n])) d
    have:=(h.lt f).2;omega
  rw[iN m]at k;by_cases d:b=i
  . rw[iP d]at f;have n:c=g:=by cases f;rfl
    rcases p with l|l
    . exact aB (h.apart a i c k (by rw[l,n])) m
    have:=(h.lt k).2;omega
  rw[iN d]at f;exact h.apart a b c k f
theorem zAe.form(h:zAe lo w U Q)(i:Nat):∃a cap,U i=.slice a (Q i).length cap/\FrK lo (λw=>zW w a (Q i)) w:=zCC (h.own i)
structure zAi(lo:Nat)(w:Wd)(lv kv:Value)(U:Nat->Value)(L:List Sd)(K:List DW)(Q:Nat->LI):Prop where
 lg:zz4 lo w lv L
 lk:w.ownsRow lo 144 3 kv K.length (K.map QV).flatten
 iv:zAe lo w U Q
theorem zAi.nil(lo:Nat)(w:Wd):zAi lo w Hn Hn (λ_=>Hn) [] [] (λ_=> []) where
 lg:=⟨[],rfl,World.ownsRow_nil ..,λi h=>aB h (Nat.not_lt_zero i)⟩
 lk:=World.ownsRow_nil ..
 iv:=zAe.nil lo w
theorem zAi.agr{b:Value}{L:List Sd}{K:List DW}(h:zAi lo w b c U L K Q)(a:jR lo w w'):zAi lo w' b c U L K Q where
 lg:=h.lg.agr a
 lk:=zz3 h.lk a
 iv:=h.iv.agr a
theorem zAr{s:Nat}(h:w.ownsRow lo e s u n xs)(k:w.ownsRow lo f r v m b)(a:e≠f)(c:(w.alloc o).grownBy w' v.ownBlock):w'.ownsRow lo e s u n xs:=
 World.ownsRow.kept (h.alloc _) c (zx5 h k a)
theorem zAe.oth{a:LV}(h:zAe lo w U Q)(k:w.ownsRow lo f r v m a)(b:3≠f)(c:(w.alloc o).grownBy w' v.ownBlock):zAe lo w' U Q where
 own i:=zAr (h.own i) k b c
 apart:=h.apart
theorem LgC.oth{x:Sd}{a:LV}(h:LgC lo w x a)(k:w.ownsRow lo f r v m b)(c:86≠f)(d:(w.alloc o).grownBy w' v.ownBlock):LgC lo w' x a:=by
 obtain⟨e,g,i,j,l,n⟩:=h;exact⟨e,g,i,j,l,zAr n k c d⟩
theorem zz4.oth{L:List Sd}{c:LV}(h:zz4 lo w u L)(k:w.ownsRow lo f r v m c)(d:86≠f)(a:50≠f)(b:(w.alloc o).grownBy w' v.ownBlock):zz4 lo w' u L:=by
 obtain⟨e,g,j,l⟩:=h;exact⟨e,g,zAr j k a b,λi hi=>(l i hi).oth k d b⟩
theorem zAi.leg{d g:Value}{L:List Sd}{K:List DW}{a:List (LV)}{x:Sd}{f:LV}(h:zAi lo w d g U L K Q)(j:a.length=L.length)(b:w.ownsRow lo 50 7 d L.length a.flatten)(k:∀i (h:i<a.length),LgC lo w (Hx L i) a[i]) 
 (c:(w.alloc o).grownBy w' d.ownBlock) (l:LgC lo w x f) (m:w'.ownsRow lo 50 7 v (L.length+1) (a.flatten++f)):zAi lo w' v g U (L++ [x]) K Q where
 lg:=by
  refine⟨a++ [f],by simp[j],by rw[Gh];simpa using m,λi hi=>?_⟩;by_cases e:i<a.length
  . rw[List.getElem_append_left e];have q:Hx (L++ [x]) i=Hx L i:=by
     simp only[Hx,Cr];rw[Tp (by omega)]
    rw[q];exact(k i e).oth b (by decide) c
  have n:i=a.length:=by simp at hi;omega
  subst n;rw[List.getElem_append_right (Bv _)];have q:Hx (L++ [x]) a.length=x:=by
   simp only[Hx,Cr,j];simp
  rw[q];simpa using l.oth b (by decide) c
 lk:=zAr h.lk b (by decide) c
 iv:=h.iv.oth b (by decide) c
theorem zAi.int{b:Value}{L:List Sd}{K:List DW}(h:zAi lo w b c U L K Q)(a:(w.alloc o).grownBy w' (U i).ownBlock) 
 (d:w'.ownsRow lo 3 1 (Hy g 0 ((Q i).length+1) cap) ((Q i).length+1) ((Q i).map (Value.int .i64)++ [Bn x])) (e:(U i).ownBlock=some g\/g=w.heap.size+1):zAi lo w' b c (BW U i (Hy g 0 ((Q i).length+1) cap)) L K (SX Q i (Q i++ [x])) where
 lg:=h.lg.oth (h.iv.own i) (by decide) (by decide) a
 lk:=zAr h.lk (h.iv.own i) (by decide) a
 iv:=h.iv.app a d e
theorem zAi.link{a b:Value}{L:List Sd}{K:List DW}{x:DW}(h:zAi lo w a b U L K Q)(c:(w.alloc o).grownBy w' b.ownBlock) 
 (d:w'.ownsRow lo 144 3 v (K.length+1) ((K.map QV).flatten++QV x)):zAi lo w' a v U L (K++ [x]) Q where
 lg:=h.lg.oth h.lk (by decide) (by decide) c
 lk:=by rw[Gh,Ii,List.flatten_append];simpa using d
 iv:=h.iv.oth h.lk (by decide) c
theorem zBG(h:¬ Ik p l k= []):∀n,¬ Ik p l (k+n)= []
 |0=>h
 |n+1=>λe=>by
  rw[<-Nat.add_assoc,Ik]at e;split at e
  . simp at e
  exact zBG h n e
theorem zBQ(h:¬ Ik p l k= [])(a:k<=n):¬ Ik p l n= []:=by
 obtain⟨m,rfl⟩:∃m,n=k+m:=⟨n-k,by omega⟩;exact zBG h m
theorem zBx(s:Nat)(D:Int)(he:D=s)(F:s<=3)(w:Wd)(sb:Nat)(t:At)(c:Ad)(P:Dh)(Q:Hl w sb t c P)(q:LI)(a:Ae)(cap:Nat)(h6:D=3->6<q.length)(hq:q.length*8<=140737488355328)(R:zW w a q)(hn:(Sg c s).length<=1000)(S:∀i,i<(Sg c s).length->Lb (Rt D q) (Eh (Sg c s) i).2):CV 203 #[.pointer (some (aD sb 0)),D,.slice a q.length cap] w (.bool (Wy c s q).isEmpty):=by
 subst he;have T:=I Q;have G:=I S;have U:=I R;clear Q S R;go_enter func203,ntmps203
 go_wp2_with fail;refine(Y_ s q a cap w h6 hq U.1).mono ?_;rintro e H ⟨a1,V,rfl,n,f⟩;have o:=I n;have d:=I (T.1.below f);have r:=I f;have u:(Rt s q).length<=140737488355328:=by rw[L_];omega
 have W:H.cell? (aD sb (18+s))=some (.slice (P.ra s) (Sg c s).length (P.rc s)):=zm d.1.box (match s,F with|0,_|1,_|2,_|3,_=>rfl);have v:=d.1.lt;clear n f T U;have E:=I (show Wy c s q=Ik (Rt s q) (Sg c s) (Sg c s).length from rfl);obtain⟨p,K⟩:∃p,p=Rt s q:=⟨_,rfl⟩;obtain⟨l,X⟩:∃l,l=Sg c s:=⟨_,rfl⟩;have x:=I (d.1.rs s (by omega));rw[<-K]at o G E u;rw[<-X]at G E hn x W;rw[<-K];clear K X d;go_wp2_with fail;go_loopw [18] (λi wr=>∃(k:Nat),k<=l.length/\i=.int .i64 k/\Af (Ik p l k= [])/\Af (Bw H wr)) (λi _=>l.length-(intOf i).toNat)
 case atStart=>exact⟨0,Bg _,rfl,I rfl,I (An _ _)⟩
 obtain⟨k,a0,rfl,Y,b⟩:=hrel;by_cases g:k<l.length
 . obtain⟨fb,y,z,L,A⟩:=GE x.1 (by omega);have F0:=I ((A k g).2.2.kept b.1);have Z:=zj W v b.1;have M:=As v b.1.size;have N:=As L b.1.size;rw[z]at Z;clear A z;go_wp2_with fail;refine ca (tN p _ _ noX u (Eh l k).2 fb (y+k*4+1) wr F0.1 (G.1 k g) (o.1.below b.1)) λw2 B=>?_;have C:=jS b B;clear B Z M N;by_cases m:Aw p (Eh l k).2=0
   . have j:=I (show(Wy c s q).isEmpty=false by
      rw[E.1];have:=zBQ (p:=p) (l:=l) (k:=k+1) (by rw[zrZ m];simp) g;cases h:Ik p l l.length with
      |nil=>exact aB h this
      |cons _ _=>rfl)
     rw[m];clear m;go_wp2;go_ret;exact⟨zz j.1.symm,Ab r.1 C.1⟩
   have j:=I (ztl (p:=p) (l:=l) (k:=k) m);have a2:(Aw p (Eh l k).2==0)=false:=by simpa using m
   clear m;go_wp2;go_roundw
   case rel=>exact⟨k+1,by omega,by go_num,I (j.1.trans Y.1),C⟩
   case measure=>simp[intOf];omega
 obtain rfl:k=l.length:=by omega
 go_wp2;go_ret;exact⟨zz (by rw[E.1,Y.1];rfl),Ab r.1 b.1⟩
def OL(t:At)(c:Ad)(d:Ai):Sd:=⟨d,(Bm t c d).1,(Bm t c d).2,(Aa t.fs (fstN d)).fq,(Aa t.fs (lstN d)).to,qQ c 1 (Bo t c d),Nw c (Bo t c d)⟩
theorem resL{e:Func}{a:Array Value}{W:Wd}{b:Nat}{v0 v1 v2 v3 v4 g h y:Value}{f:Nat×Nat}(i:e.results=#[.cell 4 50,.tmp 5])(k:a.getD 4 undef=hZ b 0)(l:a.getD 5 undef=y) 
 (q:W.heap[b]?=some (.cells #[v0,v1,v2,v3,v4,g,h] 50 f)):(results e a).run prog W=.ok (.tuple #[.agg #[v0,v1,v2,v3,v4,g,h],y]) W:=by
 have c:a[4]?.getD undef=hZ b 0:=by simpa using k
 have d:a[5]?.getD undef=y:=by simpa using l
 simp[results,i,go_sem,c,d,zm (j:=0) q rfl,zm (j:=1) q rfl,zm (j:=2) q rfl,zm (j:=3) q rfl,zm (j:=4) q rfl,zm (j:=5) q rfl,zm (j:=6) q rfl]
def LegV(t:At)(c:Ad)(d:Ai)(w w':Wd)(g:Prop)(y:Value)(e:Ending):Prop:=∃(sa:Ae) (sn sc:Nat) (x1 x2:Int) (s1 s2:BA) (x5 x6:Int),e=.returned (.tuple #[.agg #[.slice sa sn sc,x1,x2,.string s1,.string s2,x5,x6],y])/\
 (g->sn=d.length/\(⟨d,x1,x2,s1,s2,x5,x6⟩:Sd)=OL t c d/\Hj w.heap.size (.slice sa sn sc) d w')/\Below w.heap.size w w'
theorem zCo(w:Wd)(sb:Nat)(t:At)(c:Ad)(P:Dh)(n:Hl w sb t c P)(d:Ai)(da:Ae)(dc:Nat)(H:Cc t c d=0)(ha:Al Ei w da d):Calls prog 198 #[.pointer (some (aD sb 0)),.slice da d.length dc] w λe w'=>LegV t c d w w' ((Wy c 1 (Bo t c d)).isEmpty=true) (.bool (Wy c 1 (Bo t c d)).isEmpty) e:=by
 have HS:=I n;have HD:=I ha;have hq:=eI n.okT n.okC H;have HF:=I (j_ n.okC (by decide) hq);have a8:=I (c_ n.okC (by decide) hq);have a9:=I (AI n.okT n.okC H);have b0:=I (NT n.okC);have b7:=a_ c 1;have b8:=b_ c 1;have b9:=mT n.okC;have o:=I H;obtain⟨c0,c2,_,_⟩:=Ka H;clear n ha hq H;go_enter func198,ntmps198
 go_wp2_with fail;have hB:=J w jD;have r:=zh w jD;obtain⟨F,p⟩:∃F,F=w.heap.size:=⟨_,rfl⟩;rw[<-p]at r;simp only[<-p];have L:=I p;have HB:=I (show Bw w (w.alloc jD) from hB);have QL:=I r;clear hB p r;generalize w.alloc jD=W0 at*;refine(gE W0 sb t c P (HS.1.below HB.1) d da dc o.1 (HD.1.below HB.1)).mono ?_;rintro e i ⟨b,rfl,M,B1⟩;have s:=jS HB B1;have N:=jT QL B1;have x:=I M;clear B1 HB QL M;go_wp2_with fail;have CH:=I (zBx 1 1 rfl (by decide) i sb t c P (HS.1.below s.1) (Bo t c d) (some (aD b 0)) 11 (λh=>aB h (by decide)) (by rw[Rd];decide) x.1 (by omega) (by rw[tU];exact HF.1));refine CH.1.mono ?_;rintro e G ⟨rfl,B2⟩;have l:=jS s B2;have y:=jT N B2;have Q:=I (x.1.below B2);clear B2 s N x CH;obtain⟨z,hz⟩:∃z,z=(Wy c 1 (Bo t c d)).isEmpty:=⟨_,rfl⟩;rw[<-hz];have HZ:=I hz;clear hz;cases z
 . have a:=y.1;have s0:=zm (j:=0) a rfl;have s1:=zm (j:=1) a rfl;have s2:=zm (j:=2) a rfl;have s3:=zm (j:=3) a rfl;have s4:=zm (j:=4) a rfl;have s5:=zm (j:=5) a rfl;have s6:=zm (j:=6) a rfl;have y0:=zQ (j:=0) a;have y1:=zQ (j:=1) a;have y2:=zQ (j:=2) a;have y3:=zQ (j:=3) a;have y4:=zQ (j:=4) a;have y5:=zQ (j:=5) a;have y6:=zQ (j:=6) a;have sl:=Ag a;have R:=I (Pr [.slice none 0 0,.int .i64 0,.int .i64 0,.string ⟨#[]⟩,.string ⟨#[]⟩,.int .i64 0,.int .i64 0] [] [.slice none 0 0,.int .i64 0,.int .i64 0,.string ⟨#[]⟩,.string ⟨#[]⟩,.int .i64 0,.int .i64 0] _ rfl a);have S:=I (Tt (show w.heap.size<=F by have:=L.1;omega) [.slice none 0 0,.int .i64 0,.int .i64 0,.string ⟨#[]⟩,.string ⟨#[]⟩,.int .i64 0,.int .i64 0] 0 _ l.1);clear a;simp only[stN,Nat.zero_add,Nat.reduceAdd,List.length_nil]at R S;go_wp2_with fail;refine bP (resL rfl rfl rfl R.1) rfl ⟨_,_,_,_,_,_,_,_,_,congrArg (λz:Bool=>Ending.returned (.tuple #[.agg #[.slice none 0 0,.int .i64 0,.int .i64 0,.string ⟨#[]⟩,.string ⟨#[]⟩,.int .i64 0,.int .i64 0],.bool z])) HZ.1,(λh=>by rw[<-HZ.1]at h;cases h),S.1⟩
 go_wp2_with fail;refine ca (To G sb t c P (HS.1.below l.1) d da dc o.1 (HD.1.below l.1)) λw3 B3=>?_;go_upto_region 5 with fail
 have B4:=Ab B3 (J w3 (oQ (Bm t c d).1 (Bm t c d).2));have B:=zh w3 (oQ (Bm t c d).1 (Bm t c d).2);obtain⟨gb,C⟩:∃gb,gb=w3.heap.size:=⟨_,rfl⟩;rw[<-C]at B;simp only[<-C];clear C;generalize w3.alloc (oQ (Bm t c d).1 (Bm t c d).2)=W at*;have m:=jS l B4;have T:=jT y B4;have U:=I (Q.1.below B4);have b1:=I B;clear B3 B4 B y Q l;obtain⟨db,D,rfl,V,tc⟩:=Ok (HD.1.below m.1) (by omega);have TK:=I tc;have b2:0<d.length:=by omega
 obtain⟨i0,b3,b4,b5,b6⟩:=info_parts fF.info;obtain⟨g0,g1,_,_,gl⟩:=fT b1.1;have X:=I (HD.1.below m.1);have q:=I (HS.1.below m.1);clear tc;refine' lK [⟨19, [],.kn _⟩,⟨20, [19],.ow (λv w'=>Hj W.heap.size v d w') (λ_ _ _=>Hj.call)⟩,⟨21, [],.kn _⟩,⟨22, [21],.kn _⟩,⟨23, [],.kn _⟩,⟨24, [23],.kn _⟩,⟨25, [],.kn _⟩,⟨26, [],.kn _⟩,⟨27, [25,26],.kn (.string (Aa t.fs (fstN d)).fq)⟩,⟨28, [],.kn _⟩,⟨29, [],.kn _⟩,⟨30, [28,29],.kn (.string (Aa t.fs (lstN d)).to)⟩,⟨31, [],.kn _⟩,⟨32, [],.kn _⟩,⟨33, [31,32],.kn (.int .i64 (qQ c 1 (Bo t c d)))⟩,⟨34, [],.kn _⟩,⟨35, [],.kn _⟩,⟨36, [34,35],.kn (.int .i64 (Nw c (Bo t c d)))⟩,⟨37, [20,22,24,27,30,33,36],.ag [20,22,24,27,30,33,36]⟩] [0,1,6,7] [20,22,24,27,30,33,36,37] (λ_ h=>aI (aI (zD g0 gl h) (zD g1 gl h)) (aI (As V h.size) (As gl h.size))) ?h1 ?c1 ?f1
 case h1=>
  intro u;simp only[Df,Jm,↓reduceIte,Nat.reduceEqDiff];intros
  and_intros
  all_goals try (first|trivial|(intros;refine Fy (by assumption) ?_;go_simp <;> rfl))
  . intro A i e f g f0 K k;have T1:=TK.1.below V f;clear g;refine wp_append_lies _ _ _ 48 rfl W.heap.size 86 i0 (.agg #[.int .i64 0,.bool false]) 2 16 fF.ht b3 b4 b5 b6 rfl (by decide) (.slice none 0 0) 0 [] rfl (World.ownsRow_nil ..) (aD db D) d.length dc (d.map Mz).flatten ((e.1 _).trans f0) (sD d) (EC T1) EG b2 (by unfold maxLen;omega) (by omega) f.size i.heap.size rfl ?_;intro g1 c3 G h1 h2 h3 h4;refine k.1 _ _ ⟨rW h2 rfl,?_⟩;simpa[Hj] using h1
  . intro A i e f g f1 f2 K k;clear g;go_simp;refine cb (Hr i sb t c P (q.1.below f) d (some (aD db D)) dc o.1 (X.1.below f)) ?_;exact k.1 _ _ ⟨An _ _,rfl⟩
  . intro A i e f g f1 f2 K k;clear g;go_simp;refine cb (Jy i sb t c P (q.1.below f) d (some (aD db D)) dc o.1 (X.1.below f)) ?_;exact k.1 _ _ ⟨An _ _,rfl⟩
  . intro A i e f g f1 f2 K k;clear g;go_simp;refine ca (zzP 1 1 rfl (by decide) i sb t c P (q.1.below f) (Bo t c d) (some (aD b 0)) 11 (λh=>aB h (by decide)) (by rw[Rd];decide) (U.1.below f) (by omega) (by rw[tU];exact a8.1)) λG h=>?_;exact k.1 _ _ ⟨h,rfl⟩
  . intro A i e f g f1 f2 K k;clear g;go_simp;refine ca (KR i sb t c P (q.1.below f) (Bo t c d) (some (aD b 0)) 11 (by rw[Rd];decide) (by rw[Rd];decide) (U.1.below f) a9.1 (Bf b0.1 (by decide))) λG h=>?_;exact k.1 _ _ ⟨h,rfl⟩
  intro A i e f g Y c4 c5 c6 c7 c8 c9 K k;obtain⟨Z,sc,Y⟩:=Js Y;clear g;refine Fy k ?_;go_simp
 case c1=>kernel_rfl
 intro u w9 f;simp only[Df,Hu,Jm,Act.put,O,↓reduceIte,Nat.reduceEqDiff];intro ow a0 a1 a2 a3 a4 a5 a6;obtain⟨Z,sc,E⟩:=Js ow;rw[E]at ow;rw[a6,E,a0,a1,a2,a3,a4,a5];have a:=Ac f T.1;have d0:=I ow;have s0:=zm (j:=0) a rfl;have s1:=zm (j:=1) a rfl;have s2:=zm (j:=2) a rfl;have s3:=zm (j:=3) a rfl;have s4:=zm (j:=4) a rfl;have s5:=zm (j:=5) a rfl;have s6:=zm (j:=6) a rfl;have y0:=zQ (j:=0) a;have y1:=zQ (j:=1) a;have y2:=zQ (j:=2) a;have y3:=zQ (j:=3) a;have y4:=zQ (j:=4) a;have y5:=zQ (j:=5) a;have y6:=zQ (j:=6) a;have sl:=Ag a;have R:=I (Pr [.slice Z d.length sc,.int .i64 (Bm t c d).1,.int .i64 (Bm t c d).2,.string (Aa t.fs (fstN d)).fq,.string (Aa t.fs (lstN d)).to,.int .i64 (qQ c 1 (Bo t c d)),.int .i64 (Nw c (Bo t c d))] [] [.slice none 0 0,.int .i64 0,.int .i64 0,.string ⟨#[]⟩,.string ⟨#[]⟩,.int .i64 0,.int .i64 0] _ rfl a);have S:=I (Tt (show w.heap.size<=F by have:=L.1;omega) [.slice Z d.length sc,.int .i64 (Bm t c d).1,.int .i64 (Bm t c d).2,.string (Aa t.fs (fstN d)).fq,.string (Aa t.fs (lstN d)).to,.int .i64 (qQ c 1 (Bo t c d)),.int .i64 (Nw c (Bo t c d))] 0 _ (Ab m.1 f));have a7:=I (Hj.sets (w:=w) (lo:=W.heap.size) (b:=F) (show F<W.heap.size from Ag T.1) [.slice Z d.length sc,.int .i64 (Bm t c d).1,.int .i64 (Bm t c d).2,.string (Aa t.fs (fstN d)).fq,.string (Aa t.fs (lstN d)).to,.int .i64 (qQ c 1 (Bo t c d)),.int .i64 (Nw c (Bo t c d))] 0 ow);clear a ow E a0 a1 a2 a3 a4 a5 a6;simp only[stN,Nat.zero_add,Nat.reduceAdd,List.length_nil]at R S a7;go_simp;go_wp2_with fail;refine bP (resL rfl rfl rfl R.1) rfl ?_;refine⟨_,_,_,_,_,_,_,_,_,congrArg (λz:Bool=>Ending.returned (.tuple #[.agg #[.slice Z d.length sc,.int .i64 (Bm t c d).1,.int .i64 (Bm t c d).2,.string (Aa t.fs (fstN d)).fq,.string (Aa t.fs (lstN d)).to,(qQ c 1 (Bo t c d)),(Nw c (Bo t c d))],.bool z])) HZ.1,λ_=>⟨rfl,rfl,?_⟩,S.1⟩;exact a7.1.base (by have:=m.1.size;omega)
def FW(t:At)(c:Ad)(d:Ai):Int:=if Cc t c d≠0 then Cc t c d else if(Wy c 1 (Bo t c d)).isEmpty then 0 else 15
theorem zCB(w:Wd)(sb:Nat)(t:At)(c:Ad)(P:Dh)(hS:Hl w sb t c P)(d:Ai)(da:Ae)(dc:Nat)(W:d.length<=140737488355328)(ha:Al Ei w da d):Calls prog 134 #[.pointer (some (aD sb 0)),.slice da d.length dc] w λe w'=>LegV t c d w w' (FW t c d=0) (.int .i64 (FW t c d)) e:=by
 have HS:=I hS;have HD:=I ha;clear hS ha;go_enter func134,ntmps134
 go_wp2_with fail;have hB:=J w jD;have G:=zh w jD;obtain⟨S,m⟩:∃S,S=w.heap.size:=⟨_,rfl⟩;rw[<-m]at G;simp only[<-m];have H:=I m;have V:=I (show Bw w (w.alloc jD) from hB);have QL:=I G;clear hB m G;generalize w.alloc jD=W0 at*;refine ca (gD W0 sb t c P (HS.1.below V.1) d da dc W (HD.1.below V.1)) λw1 X=>?_;have f:=jS V X;have n:=jT QL X;clear X V QL;by_cases C:Cc t c d=0
 rotate_left
 . have b:=I (show Cc t c d=FW t c d from(iP C).symm);have K:=I (show ¬ FW t c d=0 from by rw[<-b.1];exact C);have e1:(Cc t c d !=0)=true:=by simpa using C
   clear C;have a:=n.1;have s0:=zm (j:=0) a rfl;have s1:=zm (j:=1) a rfl;have s2:=zm (j:=2) a rfl;have s3:=zm (j:=3) a rfl;have s4:=zm (j:=4) a rfl;have s5:=zm (j:=5) a rfl;have s6:=zm (j:=6) a rfl;have y0:=zQ (j:=0) a;have y1:=zQ (j:=1) a;have y2:=zQ (j:=2) a;have y3:=zQ (j:=3) a;have y4:=zQ (j:=4) a;have y5:=zQ (j:=5) a;have y6:=zQ (j:=6) a;have sl:=Ag a;have D:=I (Pr [.slice none 0 0,.int .i64 0,.int .i64 0,.string ⟨#[]⟩,.string ⟨#[]⟩,.int .i64 0,.int .i64 0] [] [.slice none 0 0,.int .i64 0,.int .i64 0,.string ⟨#[]⟩,.string ⟨#[]⟩,.int .i64 0,.int .i64 0] _ rfl a);have E:=I (Tt (show w.heap.size<=S by have:=H.1;omega) [.slice none 0 0,.int .i64 0,.int .i64 0,.string ⟨#[]⟩,.string ⟨#[]⟩,.int .i64 0,.int .i64 0] 0 _ f.1);clear a;simp only[stN,Nat.zero_add,Nat.reduceAdd,List.length_nil]at D E;go_wp2_with fail;refine bP (resL rfl rfl rfl D.1) rfl ⟨_,_,_,_,_,_,_,_,_,congrArg (λz:Int=>Ending.returned (.tuple #[.agg #[.slice none 0 0,.int .i64 0,.int .i64 0,.string ⟨#[]⟩,.string ⟨#[]⟩,.int .i64 0,.int .i64 0],z])) b.1,(λh=>aB h K.1),E.1⟩
 have Y:=I C;have L:=I (show FW t c d=if(Wy c 1 (Bo t c d)).isEmpty then 0 else 15 from iN (by simpa using C));rw[C];clear C;go_wp2_with fail;refine(zCo w1 sb t c P (HS.1.below f.1) d da dc Y.1 (HD.1.below f.1)).mono ?_;rintro e T ⟨o,p,q,r,s,u,v,x,y,rfl,A,Z⟩;have B:=jS f Z;have g:=jT n Z;have M:=I (λh=>(A h).1);have i:=I (λh=>(A h).2.1);have k:=I (λh=>(A h).2.2);have a0:=f.1.size;have a1:=Ag n.1;clear Z f n A;obtain⟨z,hz⟩:∃z,z=(Wy c 1 (Bo t c d)).isEmpty:=⟨_,rfl⟩;rw[<-hz]at M i k L;rw[<-hz];clear hz;cases z
 . have b:=I (show(15:Int)=FW t c d from L.1.symm);have K:=I (show ¬ FW t c d=0 from by rw[<-b.1];decide);clear M i k;go_upto_region 5 with fail
   have F:=J T (Obj.cells #[.slice o p q,r,s,.string u,.string v,x,y] 50);generalize T.alloc (Obj.cells #[.slice o p q,r,s,.string u,.string v,x,y] 50)=w3 at*;have N:=jS B F;have Q:=jT g F;clear F B g;have a:=Q.1;have s0:=zm (j:=0) a rfl;have s1:=zm (j:=1) a rfl;have s2:=zm (j:=2) a rfl;have s3:=zm (j:=3) a rfl;have s4:=zm (j:=4) a rfl;have s5:=zm (j:=5) a rfl;have s6:=zm (j:=6) a rfl;have y0:=zQ (j:=0) a;have y1:=zQ (j:=1) a;have y2:=zQ (j:=2) a;have y3:=zQ (j:=3) a;have y4:=zQ (j:=4) a;have y5:=zQ (j:=5) a;have y6:=zQ (j:=6) a;have sl:=Ag a;have D:=I (Pr [.slice none 0 0,.int .i64 0,.int .i64 0,.string ⟨#[]⟩,.string ⟨#[]⟩,.int .i64 0,.int .i64 0] [] [.slice none 0 0,.int .i64 0,.int .i64 0,.string ⟨#[]⟩,.string ⟨#[]⟩,.int .i64 0,.int .i64 0] _ rfl a);have E:=I (Tt (show w.heap.size<=S by have:=H.1;omega) [.slice none 0 0,.int .i64 0,.int .i64 0,.string ⟨#[]⟩,.string ⟨#[]⟩,.int .i64 0,.int .i64 0] 0 _ N.1);clear a;simp only[stN,Nat.zero_add,Nat.reduceAdd,List.length_nil]at D E;go_wp2_with fail;refine bP (resL rfl rfl rfl D.1) rfl ⟨_,_,_,_,_,_,_,_,_,congrArg (λz:Int=>Ending.returned (.tuple #[.agg #[.slice none 0 0,.int .i64 0,.int .i64 0,.string ⟨#[]⟩,.string ⟨#[]⟩,.int .i64 0,.int .i64 0],z])) b.1,(λh=>aB h K.1),E.1⟩
 have b:=I (show(0:Int)=FW t c d from L.1.symm);go_upto_region 5 with fail
 have F:=J T (Obj.cells #[.slice o p q,r,s,.string u,.string v,x,y] 50);have l:=zh T (Obj.cells #[.slice o p q,r,s,.string u,.string v,x,y] 50);obtain⟨xb,R⟩:∃xb,xb=T.heap.size:=⟨_,rfl⟩;rw[<-R]at l;simp only[<-R];have a4:S≠xb:=by have:=Ag g.1;omega
 clear R;have a2:=I (Hj.call (k.1 (by first|rfl|trivial)) F);generalize T.alloc (Obj.cells #[.slice o p q,r,s,.string u,.string v,x,y] 50)=w3 at*;have N:=jS B F;have Q:=jT g F;clear F B g;have a:=Q.1;have a3:=FA a;have s0:=zm (j:=0) a rfl;have s1:=zm (j:=1) a rfl;have s2:=zm (j:=2) a rfl;have s3:=zm (j:=3) a rfl;have s4:=zm (j:=4) a rfl;have s5:=zm (j:=5) a rfl;have s6:=zm (j:=6) a rfl;have y0:=zQ (j:=0) a;have y1:=zQ (j:=1) a;have y2:=zQ (j:=2) a;have y3:=zQ (j:=3) a;have y4:=zQ (j:=4) a;have y5:=zQ (j:=5) a;have y6:=zQ (j:=6) a;have sl:=Ag a;have u0:=D_ l;have ul:=Ag l;have D:=I (Pr [.slice o p q,.int .i64 r,.int .i64 s,.string u,.string v,.int .i64 x,.int .i64 y] [] [.slice none 0 0,.int .i64 0,.int .i64 0,.string ⟨#[]⟩,.string ⟨#[]⟩,.int .i64 0,.int .i64 0] _ rfl a);have E:=I (Tt (show w.heap.size<=S by have:=H.1;omega) [.slice o p q,.int .i64 r,.int .i64 s,.string u,.string v,.int .i64 x,.int .i64 y] 0 _ N.1);have U:=I (Hj.sets (w:=w) (lo:=w1.heap.size) a1 [.slice o p q,.int .i64 r,.int .i64 s,.string u,.string v,.int .i64 x,.int .i64 y] 0 a2.1);clear a l a3;simp only[stN,Nat.zero_add,Nat.reduceAdd,List.length_nil]at D E U;go_wp2_with fail;refine bP (resL rfl rfl rfl D.1) rfl ?_;refine⟨_,_,_,_,_,_,_,_,_,congrArg (λz:Int=>Ending.returned (.tuple #[.agg #[.slice o p q,r,s,.string u,.string v,x,y],z])) b.1,λ_=>⟨M.1 (by first|rfl|trivial),i.1 (by first|rfl|trivial),?_⟩,E.1⟩;exact U.1.base a0
def lgE(t:At)(c:Ad)(L:List Sd)(k:Nat):Int:=
 if FW t c (Hx L k).duty≠0 then FW t c (Hx L k).duty else if legB (OL t c (Hx L k).duty) (Hx L k)=false then 2
 else if 0<k/\CD (Hx L k).duty (Hx L (k-1)).duty<=0 then 8 else 0
def qT(t:At)(c:Ad)(base:BA)(L:List Sd):Int:=if Mo t base=false then 6 else Av (lgE t c L) 0 (L.length-0)
def zAc(t:At)(c:Ad)(base:BA)(x y:Sd):Bool:=(x.dst.toList==y.src.toList)&&(decide (0<=y.rep-x.rel)&&(decide (y.rep-x.rel<=c.lv)&&(Wy c 2 (ZZ t c base x.duty y.duty)).isEmpty))
def zCm(t:At)(c:Ad)(base:BA)(x y:Sd):Int:=qQ c 2 (ZZ t c base x.duty y.duty)
def zz1(t:At)(c:Ad)(base:BA)(L:List Sd)(i:Nat):Nat->List DW
 |0=> []
 |k+1=>zz1 t c base L i k++if zAc t c base (Hx L i) (Hx L k)=true then [⟨i,k,zCm t c base (Hx L i) (Hx L k)⟩] else []
def qP(t:At)(c:Ad)(base:BA)(L:List Sd):Nat->List DW
 |0=> []
 |i+1=>qP t c base L i++zz1 t c base L i L.length
def jQ(p:Nat->Bool):Nat->LI
 |0=> []
 |k+1=>jQ p k++if p k=true then [(k:Int)] else []
theorem zzX(p:Nat->Bool):∀k,(jQ p k).length<=k
 |0=>Bv _
 |k+1=>by
  have:=zzX p k;rw[jQ,Gh];split <;> simp <;> omega
theorem zAv(t:At)(c:Ad)(base:BA)(L:List Sd)(i:Nat):∀k,(zz1 t c base L i k).length<=k
 |0=>Bv _
 |k+1=>by
  have:=zAv t c base L i k;rw[zz1,Gh];split <;> simp <;> omega
theorem zz7(t:At)(c:Ad)(base:BA)(L:List Sd):∀i,(qP t c base L i).length<=i*L.length
 |0=>by simp[qP]
 |i+1=>by
  have a:=zz7 t c base L i;have b:=zAv t c base L i L.length;rw[qP,Gh,Nat.succ_mul];omega
structure zA2(t:At)(c:Ad)(x:Sd):Prop where
 d:Cc t c x.duty=0
 b:(Wy c 1 (Bo t c x.duty)).isEmpty=true
 e:x=OL t c x.duty
theorem zBh{t:At}{c:Ad}{L:List Sd}(h:lgE t c L k=0):zA2 t c (Hx L k):=by
 unfold lgE at h;by_cases a:FW t c (Hx L k).duty=0;rw[iN (by simpa using a)]at h;by_cases d:legB (OL t c (Hx L k).duty) (Hx L k)=false;rw[iP d]at h;exact aB h (by decide);have f:=(zBO.1 (by simpa using d)).symm;unfold FW at a;by_cases b:Cc t c (Hx L k).duty=0;rw[iN (by simpa using b)]at a;refine⟨b,?_,f⟩;by_cases e:(Wy c 1 (Bo t c (Hx L k).duty)).isEmpty=true;exact e;rw[iN e]at a;exact aB a (by decide);rw[iP b]at a;exact aB a b;rw[iP a]at h;exact aB h a
theorem zCy{t:At}{c:Ad}{x y:Sd}(p:zY t=0)(q:Ax c=0)(r:Mo t base=true)(f:zA2 t c x)(g:zA2 t c y):
 ((x.dst.toList==y.src.toList)&&(decide (x.rel<=y.rep)&&(decide (Kc t c base x.duty y.duty=0)&&(V_ t c base x.duty y.duty).isEmpty)))=zAc t c base x y/\(zAc t c base x y=true->d_ t c base x.duty y.duty=zCm t c base x y):=by
 have b:Kc t c base x.duty y.duty=if Ll t c x.duty y.duty=false then 14 else 0:=by
  unfold Kc;rw[iP r];unfold Gw Sb;rw[iN (not_not_intro p),iN (not_not_intro q),iN (not_not_intro f.d),iN (not_not_intro g.d)]
 have i:x.dst=(Aa t.fs (lstN x.duty)).to:=congrArg Sd.dst f.e;have j:x.rel=(Bm t c x.duty).2:=congrArg Sd.rel f.e;have k:y.src=(Aa t.fs (fstN y.duty)).fq:=congrArg Sd.src g.e;have l:y.rep=(Bm t c y.duty).1:=congrArg Sd.rep g.e;have n:Ll t c x.duty y.duty=((x.dst.toList==y.src.toList)&&(decide (0<=y.rep-x.rel)&&decide (y.rep-x.rel<=c.lv))):=by
  rw[i,j,k,l];unfold Ll;rw[Bool.and_assoc]
 have u:Kc t c base x.duty y.duty=0->V_ t c base x.duty y.duty=(Wy c 2 (ZZ t c base x.duty y.duty)).map λs=>(2,0,s):=λh=>by
  unfold V_;rw[iP h,zxm]
 cases a:Ll t c x.duty y.duty;rw[a,iP rfl]at b;have m:zAc t c base x y=false:=by
  rw[n]at a;unfold zAc;revert a;cases (x.dst.toList==y.src.toList) <;> cases decide (0<=y.rep-x.rel) <;> cases decide (y.rep-x.rel<=c.lv) <;> simp
 rw[m,b];simp;rw[a,iN (by decide)]at b;rw[n]at a;simp only[Em,decide_eq_true_eq]at a;obtain⟨o,v,w⟩:=a;have m:zAc t c base x y=(Wy c 2 (ZZ t c base x.duty y.duty)).isEmpty:=by
  unfold zAc;rw[o,decide_eq_true v,decide_eq_true w];rfl
 refine⟨?_,λ_=>?_⟩;rw[m,u b,o,decide_eq_true (show x.rel<=y.rep by omega),decide_eq_true b];simp;unfold d_ zCm;rw[iP b,zxc]
def fIx(L:List Sd)(s:BA):Nat:=L.findIdx λx=>decide (x.src=s)
theorem zCJ{L:List Sd}(h:k<L.length):Hx L k=L[k]:=by
 rw[Hx,Cr,Cz h];rfl
theorem zCK{L:List Sd}(h:k<L.length)(e:(Hx L k).src=s):fIx L s<L.length/\(Hx L (fIx L s)).src=s:=by
 have a:fIx L s<L.length:=List.findIdx_lt_length_of_exists ⟨L[k],gM h,by rw[zCJ h]at e;simp[e]⟩;refine⟨a,?_⟩;have:=List.findIdx_getElem (w:=a);rw[zCJ a];exact of_decide_eq_true this
theorem zCr{L:List Sd}{u:BA}(a:j<L.length)(b:(Hx L j).src=s)(c:k<L.length)(d:(Hx L k).src=u)(h:fIx L s=fIx L u):s=u:=by
 rw[<-(zCK a b).2,h,(zCK c d).2]
def FT(L:List Sd)(s:BA)(k:Nat):LI:=jQ (λj=>decide ((Hx L j).src=s)) k
theorem zAO{L:List Sd}(h:(Hx L k).src=s):FT L s (k+1)=FT L s k++ [(k:Int)]:=by
 rw[FT,jQ,iP (by simp[h])];rfl
theorem zAW{L:List Sd}(h:¬ (Hx L k).src=s):FT L s (k+1)=FT L s k:=by
 rw[FT,jQ,iN (by simp[h]),List.append_nil];rfl
theorem zBk{L:List Sd}:∀{k:Nat},FT L s k≠ []->∃j,j<k/\(Hx L j).src=s
 |0,h=>aB rfl h
 |k+1,h=>by
  by_cases e:(Hx L k).src=s
  . exact⟨k,Nat.lt_succ_self k,e⟩
  rw[zAW e]at h;obtain⟨j,b,a⟩:=zBk h;exact⟨j,by omega,a⟩
structure MInv(L:List Sd)(base:BA)(k:Nat)(M:List (Value×Value))(U:Nat->Value)(Q:Nat->LI):Prop where
 m:∀s,Bz M (.string s)=if FT L s k= [] then none else some (U (2+fIx L s))
 q:∀j,j<L.length->Q (2+fIx L (Hx L j).src)=FT L (Hx L j).src k
 nil:∀i,Q i= []->U i=.slice none 0 0
 q0:Q 0=jQ (λj=>(Hx L j).src.toList==base.toList) k
 q1:Q 1=jQ (λj=>(Hx L j).dst.toList==base.toList) k
theorem MInv.start(L:List Sd)(base:BA):MInv L base 0 [] (λ_=>Hn) (λ_=> []) where
 m s:=by rw[iP (show FT L s 0= [] from rfl)];rfl
 q _ _:=rfl
 nil _ _:=rfl
 q0:=rfl
 q1:=rfl
theorem MInv.look{L:List Sd}(h:MInv L base k M U Q)(a:j<L.length):(Bz M (.string (Hx L j).src)).getD Hn=U (2+fIx L (Hx L j).src):=by
 rw[h.m];by_cases e:FT L (Hx L j).src k= [];rw[iP e,h.nil _ ((h.q j a).trans e)];rfl;rw[iN e];rfl
theorem MInv.put{L:List Sd}(h:MInv L base k M U Q)(b:k<L.length):(∀s,Bz (Dd M (.string (Hx L k).src) v) (.string s)=if FT L s (k+1)= [] then none else some (BW U (2+fIx L (Hx L k).src) v (2+fIx L s)))/\
 (∀j,j<L.length->SX Q (2+fIx L (Hx L k).src) (Q (2+fIx L (Hx L k).src)++ [(k:Int)]) (2+fIx L (Hx L j).src)=FT L (Hx L j).src (k+1)):=by
 constructor;intro s;rw[fY];by_cases e:(Hx L k).src=s;rw[iP e,zAO e,iN (by simp),BW,iP (by rw[e])];rw[iN e,zAW e,h.m];by_cases a:FT L s k= [];rw[iP a,iP a];rw[iN a,iN a,BW,iN λe3=>?_];obtain⟨j,f,d⟩:=zBk a;exact e (zCr b rfl (by omega) d (by omega));intro j c;unfold SX;by_cases e:(Hx L k).src=(Hx L j).src;rw[iP (by rw[e]),h.q k b,<-e,zAO rfl];rw[iN λe3=>e (zCr b rfl c rfl (by omega)),zAW e,h.q j c]
theorem zBN(L:List Sd)(a:Ae)(l:Nat)(w:Wd)(F:L.length<=140737488355328)(x:zzU w a L):Calls prog 21 #[.agg #[.string ⟨#[]⟩,.slice a L.length l,.slice none 0 0,.slice none 0 0,.slice none 0 0]] w λe w'=>∃b:Bool,e=.returned (.bool b)/\(b=true->L.length<=60/\∀i,i<L.length->(Hx L i).duty.length<=40)/\Bw w w':=by
 have C:=I x;clear x;go_enter func21,ntmps21
 by_cases m:L.length<=60
 . have n:¬ (60:Int)<(L.length:Int):=by omega
   have D:=I m;clear m;go_wp2_with fail;have y:=J w (Obj.cells #[.string ⟨#[]⟩,.slice a L.length l,.slice none 0 0,.slice none 0 0,.slice none 0 0] 65);have p:=zh w (Obj.cells #[.string ⟨#[]⟩,.slice a L.length l,.slice none 0 0,.slice none 0 0,.slice none 0 0] 65);obtain⟨z,f⟩:∃z,z=w.heap.size:=⟨_,rfl⟩;rw[<-f]at p;simp only[<-f];clear f;generalize w.alloc (Obj.cells #[.string ⟨#[]⟩,.slice a L.length l,.slice none 0 0,.slice none 0 0,.slice none 0 0] 65)=W at*;have q:=I y;have A:=I p;clear y p;go_loopw [3] (λi wr=>∃(k:Nat),k<=L.length/\i=.int .i64 k/\Af (∀i,i<k->(Hx L i).duty.length<=40)/\Af (Bw W wr)) (λi _=>L.length-(intOf i).toNat)
   case atStart=>exact⟨0,Bg _,rfl,I (λi h=>aB h (Nat.not_lt_zero i)),I (An _ _)⟩
   obtain⟨k,G,rfl,d,c⟩:=hrel;have r:=(c.1.block _ (Ag A.1)).trans A.1;have H:=D_ r;have K:=Ag r;clear r;by_cases s:k<L.length
   . obtain⟨g,o,rfl,M,B⟩:=(C.1.below (Ab q.1 c.1)).cells (by omega);obtain⟨N,P,Q,-,-,-,-,-,-,E,-⟩:=B k s;clear B;by_cases t:(Hx L k).duty.length<=40
     . have u:¬ (40:Int)<((Hx L k).duty.length:Int):=by omega
       have v:=I (show ∀i,i<k+1->(Hx L i).duty.length<=40 from λi hi=>by
        by_cases e:i=k
        . rw[e];exact t
        exact d.1 i (by omega))
       clear t;go_wp2;go_roundw
       case rel=>exact⟨k+1,by omega,by go_num,v,c⟩
       case measure=>simp[intOf];omega
     have u:(40:Int)<((Hx L k).duty.length:Int):=by omega
     clear t;go_wp2;go_ret;exact⟨false,rfl,(λh=>by cases h),Ab q.1 c.1⟩
   obtain rfl:k=L.length:=by omega
   go_wp2;go_ret;exact⟨true,rfl,λ_=>⟨D.1,d.1⟩,Ab q.1 c.1⟩
 have n:(60:Int)<(L.length:Int):=by omega
 clear m;go_wp2;go_ret;exact⟨false,rfl,(λh=>by cases h),J _ _⟩
end Go.Proofs.YtelojoopofolpaaGreat
