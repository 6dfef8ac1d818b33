/- a part of the proof -/
import Derived.Test.YtbhhejkolnigfaaGreatG9
set_option linter.unusedVariables false
set_option linter.unusedSimpArgs false
set_option maxRecDepth 100000
set_option maxHeartbeats 51200000
namespace Go.Proofs.YtbhhejkolnigfaaGreat
open Go.RowKit Go.Sort Go.Proofs.Tryz
def tcE(t:TTM)(c:ConM)(e:Int):Int:=if zY t≠0 then zY t else if valT c≠0 then valT c else e
theorem tcE_t{t:TTM}{c:ConM}{e:Int}(h:zY t≠0):tcE t c e=zY t:=if_pos h
theorem tcE_c{t:TTM}{c:ConM}{e:Int}(h:zY t=0)(a:valT c≠0):tcE t c e=valT c:=by rw[tcE,if_neg (by simpa using h),if_pos a]
theorem tcE_d{t:TTM}{c:ConM}{e:Int}(h:zY t=0)(a:valT c=0):tcE t c e=e:=by rw[tcE,if_neg (by simpa using h),if_neg (by simpa using a)]
def ztG(w:World)(e:Ending)(w':World):Prop:=∃n:Int,e=.returned n/\(Lit.int .i64 n).wf=true/\Below w.heap.size w w'
def ztH(B:Nat)(x:zH):Prop:=∀(a:zua) (cap:Nat) (w:World),B<=w.heap.size->x.args.length<=140737488355328->zaz B w a x.args->Calls prog 53 #[.agg #[x.op,x.num,.string x.name,.slice a x.args.length cap]] w (ztG w)
theorem zpi(B:Nat)(o n:Int)(s:ByteArray)(l:List zH)(A:∀k,k<l.length->ztH B (eAt l k)):ztH B (.mk o n s l):=by
 intro a f w g D v;simp only[zH.op,zH.num,zH.name,zH.args]at D v ⊢;have E:=I A;have F:=I v;clear A v;go_enter func53,ntmps53
 go_wp2_with fail;have G:=I (J w (oEg o n s a l.length f));have H:=I (zh w (oEg o n s a l.length f));generalize w.alloc (oEg o n s a l.length f)=W at*;go_loopw [3,4] (λm i wr=>∃(k:Nat) (z:Int),k<=l.length/\i=.int .i64 k/\m=.int .i64 z/\(Lit.int .i64 z).wf=true/\ztR (wr.heap[w.heap.size]?=some (oEg o n s a l.length f))/\ztR (Bw w wr)) (λ_ i _=>l.length-(intOf i).toNat)
 case atStart=>exact⟨0,1,ztX _,rfl,rfl,by decide,H,G⟩
 obtain⟨k,z,U,rfl,rfl,C,u,c⟩:=hrel;have V:=zaj u.1;have X:=ztW u.1;by_cases j:k<l.length
 . by_cases K:z<1000
   . obtain⟨b,L,rfl,Y,p⟩:=F.1.cells (by omega);obtain⟨M,q,x,⟨N,P,Q,R⟩,r,d⟩:=(p.keep (c.1.mono g)).at k j;have t:=I d;have S:b<wr.heap.size:=ztU x (ztV g c.1.size);clear p d;go_wp2_with fail;refine(E.1 k j M q wr (ztV g c.1.size) r.2.1 t.1).mono ?_;rintro e Z ⟨m,rfl,hm,h⟩;have y:=I (ztS c.1 h);have T:=I ((h.block _ (ztW u.1)).trans u.1);clear h N P Q R t;go_wp2_with fail;go_roundw
     case rel=>exact⟨k+1,_,by omega,by go_num,rfl,wrap64_wf _,T,y⟩
     case measure=>simp[intOf];omega
   go_wp2_with fail;go_ret;exact⟨_,rfl,C,c.1⟩
 go_wp2_with fail;go_ret;exact⟨_,rfl,C,c.1⟩
theorem zgR(B:Nat)(x:zH):ztH B x:=by
 obtain⟨m,a⟩:∃m,m=SizeOf.sizeOf x:=⟨_,rfl⟩;induction m using Nat.strongRecOn generalizing x with
 |_ m ih=>
  subst a;obtain⟨o,n,s,l⟩:=x;exact zpi B o n s l λk hk=>ih _ (zbM (x:=.mk o n s l) hk) _ rfl
theorem zom(t:TTM)(a d fa:zua)(e f fc:Nat)(w:World)(g:t.zones.length<=140737488355328/\t.airs.length<=140737488355328/\t.fls.length<=140737488355328)(o:SlAt zcg w a t.zones):Calls prog 24 #[aggT t a e d f fa fc] w (zkh w):=by
 try delta aggC aggT
 have q:=I o;obtain⟨x,y,z⟩:=g;clear o;go_enter func24,ntmps24
 go_wp2_with fail;have h:=I (J w (objT t a e d f fa fc));have j:=zh w (objT t a e d f fa fc);have A:=zw j;have B:=ztW j;clear j;generalize w.alloc (objT t a e d f fa fc)=W at*;go_loop [3,4] (λn i=>∃k m:Nat,k<=t.zones.length/\i=.int .i64 k/\n=.int .i64 m/\m<=422212465066000) (λ_ i=>t.zones.length-(intOf i).toNat)
 case atStart=>exact⟨0,t.zones.length+t.airs.length+t.fls.length,ztX _,rfl,by go_num,by omega⟩
 obtain⟨k,m,C,rfl,rfl,D⟩:=hrel;by_cases l:k<t.zones.length
 . by_cases r:m<1000
   . obtain⟨b,s,rfl,E,c⟩:=zc7 (q.1.below h.1) (by omega);obtain⟨F,p,G,H,K,L,M,u⟩:=c k l;clear c u;have v:decide ((m:Int)<1000)=true:=by simp;omega
     go_wp2_with fail;go_round
     case rel=>exact⟨k+1,m+(zAt t.zones k).sh.length,by omega,by go_num,by go_num,by omega⟩
     case measure=>simp[intOf];omega
   have v:decide ((m:Int)<1000)=false:=by simp;omega
   go_wp2_with fail;go_ret;exact⟨_,rfl,h.1⟩
 go_wp2_with fail;go_ret;exact⟨_,rfl,h.1⟩
theorem zon(c:ConM)(p:ConP)(w:World)(x:zdr w.heap.size w c p):Calls prog 25 #[aggC c p] w (zkh w):=by
 try delta aggC aggT
 have N:=I x;have l7:=x.consts.1;have l8:=x.rules.1;have l9:=x.costs.1;have T:=x.creditN;have U:=x.lims.1;have V:=x.offs.1;clear x;go_enter func25,ntmps25
 go_wp2_with fail;have X:=I (J w (objC c p));have Y:=I (zh w (objC c p));have P:(Lit.int .i64 ((c.lims.length:Int)+(c.offs.length:Int))).wf=true:=by simp[Lit.wf,IntKind.min,IntKind.max,IntKind.signed,IntKind.bits];omega
 generalize w.alloc (objC c p)=W at*;go_loopw [3,4] (λm i wr=>∃(k:Nat) (z:Int),k<=c.consts.length/\i=.int .i64 k/\m=.int .i64 z/\(Lit.int .i64 z).wf=true/\ztR (wr.heap[w.heap.size]?=some (objC c p))/\ztR (Bw w wr)) (λ_ i _=>c.consts.length-(intOf i).toNat)
 case atStart=>exact⟨0,_,ztX _,rfl,by go_num,P,Y,X⟩
 obtain⟨k,z,Q,rfl,rfl,v,g,a⟩:=hrel;have u:=zaK g.1;have M:=ztW g.1;by_cases r:k<c.consts.length/\z<3000
 . obtain⟨s,y⟩:=r;obtain⟨b,A,h,B,j⟩:=((N.1.keep a.1).consts).cells (by omega);obtain⟨_,_,C,l,⟨D,E,F,G⟩,n,d⟩:=j k s;have o:=I d;have H:b<wr.heap.size:=ztU B a.1.size;rw[h]at u;clear j d h;go_wp2_with fail;refine(zgR w.heap.size (csAt c.consts k).ex C l wr a.1.size n.2.1 o.1).mono ?_;rintro e R ⟨m,rfl,S,f⟩;have t:=I (ztS a.1 f);have K:=I ((f.block _ (ztW g.1)).trans g.1);clear f D E F G o u;go_wp2_with fail;go_roundw
   case rel=>exact⟨k+1,_,by omega,by go_num,rfl,wrap64_wf _,K,t⟩
   case measure=>simp[intOf];omega
 have q:(k<c.consts.length/\¬ z<3000)\/¬ k<c.consts.length:=by omega
 rcases q with⟨q,L⟩|q <;>
 (
 go_wp2_with fail;go_loopw [3,5] (λm i wr=>∃(k:Nat) (z:Int),k<=c.rules.length/\i=.int .i64 k/\m=.int .i64 z/\(Lit.int .i64 z).wf=true/\ztR (wr.heap[w.heap.size]?=some (objC c p))/\ztR (Bw w wr)) (λ_ i _=>c.rules.length-(intOf i).toNat)
 case atStart=>exact⟨0,_,ztX _,rfl,rfl,v,g,a⟩
 case round=>
  clear v g a u M q;obtain⟨k,z,Q,rfl,rfl,v,g,a⟩:=hrel;have u:=zaX g.1;have M:=ztW g.1;by_cases r:k<c.rules.length/\z<3000
  . obtain⟨s,y⟩:=r;obtain⟨b,A,h,B,j⟩:=((N.1.keep a.1).rules).cells (by omega);obtain⟨_,_,_,_,C,l,⟨D,E,F,G⟩,n,d⟩:=j k s;have o:=I d;have H:b<wr.heap.size:=ztU B a.1.size;rw[h]at u;clear j d h;go_wp2_with fail;refine(zgR w.heap.size (rlAt c.rules k).ex C l wr a.1.size n.2.1 o.1).mono ?_;rintro e R ⟨m,rfl,S,f⟩;have t:=I (ztS a.1 f);have K:=I ((f.block _ (ztW g.1)).trans g.1);clear f D E F G o u;go_wp2_with fail;go_roundw
    case rel=>exact⟨k+1,_,by omega,by go_num,rfl,wrap64_wf _,K,t⟩
    case measure=>simp[intOf];omega
  have q:(k<c.rules.length/\¬ z<3000)\/¬ k<c.rules.length:=by omega
  rcases q with⟨q,L⟩|q <;>
  (
  go_wp2_with fail;go_loopw [3,6] (λm i wr=>∃(k:Nat) (z:Int),k<=c.costs.length/\i=.int .i64 k/\m=.int .i64 z/\(Lit.int .i64 z).wf=true/\ztR (wr.heap[w.heap.size]?=some (objC c p))/\ztR (Bw w wr)) (λ_ i _=>c.costs.length-(intOf i).toNat)
  case atStart=>exact⟨0,_,ztX _,rfl,rfl,v,g,a⟩
  case round=>
   clear v g a u M q;obtain⟨k,z,Q,rfl,rfl,v,g,a⟩:=hrel;have u:=zbr g.1;have M:=ztW g.1;by_cases r:k<c.costs.length/\z<3000
   . obtain⟨s,y⟩:=r;obtain⟨b,A,h,B,j⟩:=((N.1.keep a.1).costs).cells (by omega);obtain⟨_,_,C,l,⟨D,E,F,G⟩,n,d⟩:=j k s;have o:=I d;have H:b<wr.heap.size:=ztU B a.1.size;rw[h]at u;clear j d h;go_wp2_with fail;refine(zgR w.heap.size (coAt c.costs k).ex C l wr a.1.size n.2.1 o.1).mono ?_;rintro e R ⟨m,rfl,S,f⟩;have t:=I (ztS a.1 f);have K:=I ((f.block _ (ztW g.1)).trans g.1);clear f D E F G o u;go_wp2_with fail;go_roundw
     case rel=>exact⟨k+1,_,by omega,by go_num,rfl,wrap64_wf _,K,t⟩
     case measure=>simp[intOf];omega
   have q:(k<c.costs.length/\¬ z<3000)\/¬ k<c.costs.length:=by omega
   rcases q with⟨q,L⟩|q <;>
   (
   go_wp2_with fail;go_loopw [3,7] (λm i wr=>∃(k:Nat) (z:Int),k<=c.credit.length/\i=.int .i64 k/\m=.int .i64 z/\(Lit.int .i64 z).wf=true/\ztR (wr.heap[w.heap.size]?=some (objC c p))/\ztR (Bw w wr)) (λ_ i _=>c.credit.length-(intOf i).toNat)
   case atStart=>exact⟨0,_,ztX _,rfl,rfl,v,g,a⟩
   case round=>
    clear v g a u M q;obtain⟨k,z,Q,rfl,rfl,v,g,a⟩:=hrel;have u:=zbb g.1;have M:=ztW g.1;by_cases r:k<c.credit.length/\z<3000
    . obtain⟨s,y⟩:=r;obtain⟨b,A,h,B,j⟩:=((N.1.keep a.1).credit).cells (by omega);obtain⟨C,l,Z,⟨D,E,F,G⟩,n,d⟩:=j.at k s;have o:=I d;have H:b<wr.heap.size:=ztU B a.1.size;rw[h]at u;clear j d h;go_wp2_with fail;refine(zgR w.heap.size (eAt c.credit k) C l wr a.1.size n.2.1 o.1).mono ?_;rintro e R ⟨m,rfl,S,f⟩;have t:=I (ztS a.1 f);have K:=I ((f.block _ (ztW g.1)).trans g.1);clear f D E F G o u;go_wp2_with fail;go_roundw
      case rel=>exact⟨k+1,_,by omega,by go_num,rfl,wrap64_wf _,K,t⟩
      case measure=>simp[intOf];omega
    have q:(k<c.credit.length/\¬ z<3000)\/¬ k<c.credit.length:=by omega
    rcases q with⟨q,L⟩|q <;>
    (
    go_wp2_with fail;go_ret;exact⟨_,rfl,a.1⟩)
   )
  )
 )
theorem zhE(t:TTM)(c:ConM)(f:zua)(m:Nat)(g:zua)(n:Nat)(fa:zua)(fc:Nat)(p:ConP)(w:World)(E:t.zones.length<=140737488355328/\t.airs.length<=140737488355328/\t.fls.length<=140737488355328)(K:TCAt w t c f g fa p):Calls prog 6 #[aggT t f m g n fa fc,aggC c p] w (zkh w):=by
 try delta aggC aggT
 have L:=I K;clear K;go_enter func6,ntmps6
 go_wp2_with fail;have h:=I (ztS (J w (objT t f m g n fa fc)) (J _ (objC c p)));have F:=I (zd (o':=(objC c p)) (zh w (objT t f m g n fa fc)));have D:=I (zh (w.alloc (objT t f m g n fa fc)) (objC c p));rw[zr]at D;generalize (w.alloc (objT t f m g n fa fc)).alloc (objC c p)=N at*;refine(zom t f g fa m n fc N E (L.1.below h.1).z).mono ?_;rintro e P ⟨Q,rfl,b⟩;have d:=I (ztS h.1 b);have M:=I ((b.block _ (ztW F.1)).trans F.1);have a:=I ((b.block _ (ztW D.1)).trans D.1);have R:=zC M.1;have S:=ztW M.1;clear b F D h;cases Q
 . go_wp2_with fail;go_ret;exact⟨_,rfl,d.1⟩
 by_cases T:t.fls.length<=12
 . have G:decide ((t.fls.length:Int)<=12)=true:=by simp;omega
   have o:=zw a.1;have q:=zu a.1;have r:=zC a.1;have s:=zaj a.1;have u:=zbe a.1;have v:=zbn a.1;have x:=zbm a.1;have y:=zaK a.1;have A:=zaX a.1;have B:=zbr a.1;have i:=zbb a.1;have j:=zby a.1;have k:=zbx a.1;have l:=zcq a.1;have U:=ztW a.1;go_wp2_with fail;refine(zon c p P (L.1.below d.1).c).mono ?_;rintro e V ⟨W,rfl,C⟩;have H:=I (ztS d.1 C);clear C o q r s u v x y A B i j k l;go_wp2_with fail;go_ret;exact⟨_,rfl,H.1⟩
 have G:decide ((t.fls.length:Int)<=12)=false:=by simp;omega
 go_wp2_with fail;go_ret;exact⟨_,rfl,d.1⟩
end Go.Proofs.YtbhhejkolnigfaaGreat
