/- a part of the proof -/
import Derived.Test.YtbhhejkolnigfaaGreatGS
import Derived.Test.YtbhhejkolnigfaaGreatGN
set_option linter.unusedVariables false
set_option linter.unusedSimpArgs false
set_option maxRecDepth 100000
set_option maxHeartbeats 51200000
namespace Go.Proofs.YtbhhejkolnigfaaGreat
open Go.RowKit Go.Sort Go.Proofs.Tryz
def zjU(t:TTM)(c:ConM)(d:Duty):List (Int×Int×ByteArray):=if dErr t c d=0 then(brkV c 1 (zaZ t c d)).map λs=>(1,0,s) else []
def zmr(t:TTM)(c:ConM)(d:Duty):Int:=if dErr t c d=0 then zoy c 1 (zaZ t c d) else 0
theorem zgX(q:List Int):limV 1 q=q:=if_neg (by decide)
theorem zeE{t:TTM}{c:ConM}{d:Duty}(h:dErr t c d≠0):zjU t c d= []:=if_neg h
theorem zlm{t:TTM}{c:ConM}{d:Duty}(h:dErr t c d≠0):zmr t c d=0:=if_neg h
theorem zg2{t:TTM}{c:ConM}{d:Duty}(h:dErr t c d=0):zjU t c d=(brkV c 1 (zaZ t c d)).map λs=>(1,0,s):=if_pos h
theorem zjY{t:TTM}{c:ConM}{d:Duty}(h:dErr t c d=0):zmr t c d=zoy c 1 (zaZ t c d):=if_pos h
def VPost(w:World)(V:List (Int×Int×ByteArray))(er:Int)(e:Ending)(w':World):Prop:=∃a cap,e=.returned (.tuple #[.slice a V.length cap,er])/\zgN w' a V/\Below w.heap.size w w'
theorem zkk.of_own{w:World}{b:Nat}{v:Value}{l:List ByteArray}(h:w.ownsRow b 9 1 v l.length (l.map Value.string)):∃a c,v=.slice a l.length c/\zkk w a l:=by
 rcases h.2 with⟨f,j⟩|⟨g,c,d,rfl,f,k,m,n,o,p⟩
 . exact⟨none,0,by rw[f,j],.inl (List.length_eq_zero_iff.1 j)⟩
 refine⟨_,_,rfl,.inr ⟨g,d,_,rfl,k,λi hi=>?_⟩⟩;have e:(d.toList.take (l.length*1))[i]?=some (.string (sAt l i)):=by
  rw[p];simp[sAt,hi]
 rw[List.getElem?_take,if_pos (by omega)]at e;simpa using e
theorem ziq(w:World)(m:Nat)(t:TTM)(c:ConM)(P:SetP)(f:zc6 w m t c P)(d:Duty)(a:zua)(cap:Nat)(n:za6 t c d=0)(u:SlAt za3 w a d):Calls prog 86 #[.pointer (some ⟨m,0,none⟩),.slice a d.length cap] w (VOwn w ((brkV c 1 (zaZ t c d)).map λs=>(1,0,s))):=by
 have C:=I f;have v:=zeU f.okT f.okC n;have D:=I (zpt f.okC (by decide) v);have E:=zda f.okC;have F:=zl3 c 1;have x:=I (zcH w m t c P f d a cap n u);clear f n u v;go_enter func86,ntmps86
 go_wp2_with fail;refine x.1.mono ?_;rintro e G ⟨b,rfl,y,g⟩;have o:=I g;have z:=I (zrY G m t c P (C.1.below g) (zaZ t c d) (some ⟨b,0,none⟩) 11 (by rw[zeD];decide) y (by omega) (by rw[zgX];exact D.1));clear y g x;go_wp2_with fail;refine z.1.mono ?_;rintro e p ⟨M,rfl,h,i⟩;have j:=I (ztS o.1 i);obtain⟨H,K,rfl,A⟩:=zkk.of_own h;have B:=I (zib p.heap.size [] (.slice none 0 0) p (ztY _) (World.ownsRow_nil _ _ _ _) 1 0 (brkV c 1 (zaZ t c d)) H K A (by have:=zj7 (limV ((1:Nat):Int) (zaZ t c d)) (zaR c 1) (zaR c 1).length;simp only[List.length_nil];unfold brkV;omega));clear h A i z;go_wp2_with fail;refine B.1.mono ?_;rintro e N ⟨L,rfl,k,l,_⟩;have q:=I (ztS j.1 l);have r:=I k;clear k l B;go_wp2_with fail;go_ret;exact⟨L,p.heap.size,rfl,j.1.size,by simpa using r.1,q.1⟩
theorem ze4(t:TTM)(c:ConM)(a:zua)(g:Nat)(b:zua)(i:Nat)(fa:zua)(fc:Nat)(p:ConP)(w:World)(E:NewS t c a g b i fa fc p)(n:TCAt w t c a b fa p)(d:Duty)(x:zua)(z:Nat)(A:d.length<=140737488355328)(F:SlAt za3 w x d):
 Calls prog 39 #[aggT t a g b i fa fc,aggC c p,.slice x d.length z] w (VPost w (zjU t c d) (dErr t c d)):=by
 try delta aggC aggT
 have N:=I n;have G:=I F;have Q:=I E;clear n F E;go_enter func39,ntmps39
 go_wp2_with fail;have y:=I (ztS (J w (objT t a g b i fa fc)) (J _ (objC c p)));have R:=I (zd (o':=(objC c p)) (zh w (objT t a g b i fa fc)));have B:=I (zh (w.alloc (objT t a g b i fa fc)) (objC c p));rw[zr]at B;obtain⟨H,j⟩:∃H,H=w.heap.size+1:=⟨_,rfl⟩;rw[<-j]at B;simp only[<-j];clear j;generalize (w.alloc (objT t a g b i fa fc)).alloc (objC c p)=W at*;refine(zhI t c a g b i fa fc p Q.1 W (N.1.below y.1) d x z A (G.1.below y.1)).mono ?_;rintro e S ⟨o,q⟩;have k:=I (ztS y.1 q);clear q y R B;rcases o with⟨h,rfl⟩|⟨T,P,h,r,rfl,K,_⟩
 . have m:=I h;have X:(dErr t c d !=0)=true:=by simpa using h
   clear h;go_wp2_with fail;go_ret2;exact⟨none,0,ziM (by rw[zeE m.1];rfl) rfl,.inl (zeE m.1),k.1⟩
 have m:=I h;have L:=I (ziq S T t c P K d x z r (G.1.below k.1));clear K h r;go_wp2_with fail;refine L.1.mono ?_;rintro e Y ⟨v,M,rfl,l,f,s⟩;have C:=I (ztS k.1 s);obtain⟨U,V,rfl,u⟩:=zgN.of_own f;have D:=I u;clear s L f l u;go_wp2_with fail;go_ret2;exact⟨U,V,ziM (by rw[zg2 m.1,List.length_map] <;> rfl) m.1.symm,by rw[zg2 m.1];exact D.1,C.1⟩
theorem zfP(t:TTM)(c:ConM)(a:zua)(g:Nat)(f:zua)(i:Nat)(fa:zua)(fc:Nat)(p:ConP)(w:World)(D:NewS t c a g f i fa fc p)(o:TCAt w t c a f fa p)(d:Duty)(u:zua)(y:Nat)(z:d.length<=140737488355328)(E:SlAt za3 w u d):
 Calls prog 40 #[aggT t a g f i fa fc,aggC c p,.slice u d.length y] w λe w'=>e=.returned (.tuple #[(zmr t c d),(dErr t c d)])/\Bw w w':=by
 try delta aggC aggT
 have Q:=I o;have F:=I E;have R:=I D;clear o E D;go_enter func40,ntmps40
 go_wp2_with fail;have v:=I (ztS (J w (objT t a g f i fa fc)) (J _ (objC c p)));have S:=I (zd (o':=(objC c p)) (zh w (objT t a g f i fa fc)));have A:=I (zh (w.alloc (objT t a g f i fa fc)) (objC c p));rw[zr]at A;obtain⟨G,j⟩:∃G,G=w.heap.size+1:=⟨_,rfl⟩;rw[<-j]at A;simp only[<-j];clear j;generalize (w.alloc (objT t a g f i fa fc)).alloc (objC c p)=W at*;refine(zhI t c a g f i fa fc p R.1 W (Q.1.below v.1) d u y z (F.1.below v.1)).mono ?_;rintro e T ⟨q,r⟩;have k:=I (ztS v.1 r);clear r v S A;rcases q with⟨h,rfl⟩|⟨H,P,h,l,rfl,m,_⟩
 . have x:=I h;have e1:(dErr t c d !=0)=true:=by simpa using h
   clear h;go_wp2_with fail;go_ret2;exact⟨zJ (zlm x.1).symm rfl,k.1⟩
 have x:=I h;have U:=I m;have K:=zeU m.okT m.okC l;have V:=I (zqN m.okC (by decide) K);have X:=zda m.okC;have Y:=zmx c 1;have L:=I (zcH T H t c P m d u y l (F.1.below k.1));clear m h l K;go_wp2_with fail;refine L.1.mono ?_;rintro e Z ⟨b,rfl,M,n⟩;have B:=I (ztS k.1 n);have N:=I (zrQ Z H t c P (U.1.below n) (zaZ t c d) (some ⟨b,0,none⟩) 11 (by rw[zeD];decide) M (by omega) (by rw[zgX];exact V.1));clear M n L;go_wp2_with fail;refine N.1.mono ?_;rintro e w3 ⟨rfl,s⟩;have C:=I (ztS B.1 s);clear s N;go_wp2_with fail;go_ret2;exact⟨zJ (zjY x.1).symm x.1.symm,C.1⟩
theorem znO(V:List (Int×Int×ByteArray))(g:zua)(q:Nat)(h:zua)(r:Nat)(w:World)(j:zgN w g V)(l:zgN w h V)(G:V.length<=140737488355328):Calls prog 19 #[.slice g V.length q,.slice h V.length r] w λe w'=>e=.returned (.bool true)/\Bw w w':=by
 have s:=I j;have t:=I l;clear j l;go_enter func19,ntmps19
 go_wp2_with fail;go_loopw [5] (λi wr=>∃k:Nat,k<=V.length/\i=.int .i64 k/\ztR (Bw w wr)) (λi _=>V.length-(intOf i).toNat)
 case atStart=>exact⟨0,ztX _,rfl,I (ztT _ _)⟩
 obtain⟨k,H,rfl,c⟩:=hrel;by_cases d:k<V.length
 . obtain⟨b,u,rfl,K,f⟩:=(s.1.below c.1).cells (by omega);obtain⟨L,m,rfl,v,a⟩:=(t.1.below c.1).cells (by omega);obtain⟨A,B,C⟩:=f k d;obtain⟨D,E,F⟩:=a k d;obtain⟨x,n⟩:∃x,x=(vAt V k).1:=⟨_,rfl⟩;obtain⟨y,o⟩:∃y,y=(vAt V k).2.1:=⟨_,rfl⟩;obtain⟨z,p⟩:∃z,z=(vAt V k).2.2:=⟨_,rfl⟩;rw[<-n]at A D;rw[<-o]at B E;rw[<-p]at C F;clear f a n o p;go_wp2_with fail;go_quiet (fail)
   go_wp2_with fail;go_roundw
   case rel=>first|exact⟨k+1,by omega,by go_num,I (ztS c.1 (dr _ _))⟩|((repeat apply Exists.intro);exact⟨⟨k+1,by omega,by go_num,I (ztS c.1 (dr _ _))⟩,rfl⟩)
   case measure=>simp[intOf];omega
 obtain rfl:k=V.length:=by omega
 go_wp2_with fail;go_ret;exact⟨rfl,c.1⟩
end Go.Proofs.YtbhhejkolnigfaaGreat
