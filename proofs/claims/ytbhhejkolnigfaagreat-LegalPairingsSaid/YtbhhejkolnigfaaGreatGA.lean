/- a part of the proof -/
import Derived.Test.YtbhhejkolnigfaaGreatG4
set_option linter.unusedVariables false
set_option linter.unusedSimpArgs false
set_option maxRecDepth 100000
set_option maxHeartbeats 51200000
namespace Go.Proofs.YtbhhejkolnigfaaGreat
open Go.RowKit Go.Sort Go.Proofs.Tryz
def zac(nm:List UInt8)(o:Int)(l:List (Int×Int))(x y fr to:Int):Int:=
 if zG nm o l≠0 then zG nm o l else if(spnB x y&&clkB fr&&clkB to)=false then 5 else 0
def zaJ(nm:List UInt8)(o:Int)(l:List (Int×Int))(x y fr to:Int):Int×Int:=
 if zac nm o l x y fr to≠0 then(0,zac nm o l x y fr to) else(zeY (inB o l fr to) x (y-x).toNat,0)
def zdh(nm:List UInt8)(o:Int)(l:List (Int×Int))(x y fr to:Int):Int×Int:=
 if zac nm o l x y fr to≠0 then(0,zac nm o l x y fr to) else(if zap fr to=0 then 0 else zfG (inB o l fr to) x (zap fr to) (y-x).toNat,0)
theorem zdb{nm:List UInt8}{o:Int}{l:List (Int×Int)}{x y b to:Int}(h:zac nm o l x y b to=0):zG nm o l=0/\(0<=x/\x<=y/\y<=52596000)/\(0<=b/\b<1440)/\(0<=to/\to<1440):=by
 unfold zac at h
 split at h
 . rename_i h1;exact absurd h h1
 split at h
 . omega
 rename_i h1 h2
 have a:(spnB x y&&clkB b&&clkB to)=true:=Bool.not_eq_false _ |>.mp h2;simp only[zt5]at a;exact⟨by simpa using h1,zrn a.1.1,znq a.1.2,znq a.2⟩
theorem zh1{nm:List UInt8}{o:Int}{l:List (Int×Int)}{x y a to:Int}(h:zac nm o l x y a to=0):zaJ nm o l x y a to=(zeY (inB o l a to) x (y-x).toNat,0):=if_neg (by simp[h])
theorem ziQ{nm:List UInt8}{o:Int}{l:List (Int×Int)}{x y a to:Int}(h:zac nm o l x y a to=0):zdh nm o l x y a to=(if zap a to=0 then 0 else zfG (inB o l a to) x (zap a to) (y-x).toNat,0):=if_neg (by simp[h])
theorem zfS(s:ByteArray)(o x y g to:Int)(l:List (Int×Int))(a:zua)(cap:Nat)(w:World)(t:s.size<=maxLen)(u:l.length<=1000000)(q:ShAt w a l):
 Calls prog 187 #[.agg #[.string s,o,.slice a l.length cap],.agg #[x,y],g,to] w λe w'=>e=.returned (zac s.data.toList o l x y g to)/\Bw w w':=by
 have v:=I (λW (h:Bw w W)=>q.below h);clear q;go_enter func187,ntmps187
 go_wp2_with fail;obtain⟨z,m,i⟩:=zj8 w s o a l.length cap x y;generalize ((w.alloc (oZ s o a l.length cap)).alloc (oQ x y))=W at*;refine ca (zer s o l a cap _ t u (v.1 _ i)) λB j=>?_;have d:=ztS i j;replace m:=m.below j;obtain⟨C,D,E⟩:=I m |>.1;clear j i z;clear W;by_cases c:zG s.data.toList o l=0
 . have A:(zG s.data.toList o l !=0)=false:=by simpa using c
   cases k:spnB x y
   . have f:=I (show zac s.data.toList o l x y g to=5 from by simp[zac,c,k]);clear c;go_wp2_with (first|(go_at_call 112;refine ca (zgQ _ _ _) λn b=>?_)|(go_at_call 208;refine cb (zfR _ _) ?_))
     go_ret;exact⟨ze f.1.symm,ztS d b⟩
   cases p:clkB g
   . have f:=I (show zac s.data.toList o l x y g to=5 from by simp[zac,c,k,p]);clear c;go_wp2_with (first|(go_at_call 112;refine ca (zgQ _ _ _) λn b=>?_)|(go_at_call 208;refine cb (zfR _ _) ?_))
     go_ret;exact⟨ze f.1.symm,ztS d b⟩
   cases r:clkB to
   . have f:=I (show zac s.data.toList o l x y g to=5 from by simp[zac,c,k,p,r]);clear c;go_wp2_with (first|(go_at_call 112;refine ca (zgQ _ _ _) λn b=>?_)|(go_at_call 208;refine cb (zfR _ _) ?_))
     go_ret;exact⟨ze f.1.symm,ztS d b⟩
   have f:=I (show zac s.data.toList o l x y g to=0 from by simp[zac,c,k,p,r]);clear c;go_wp2_with (first|(go_at_call 112;refine ca (zgQ _ _ _) λn b=>?_)|(go_at_call 208;refine cb (zfR _ _) ?_))
   go_ret;exact⟨ze f.1.symm,ztS d b⟩
 have f:=I (show zac s.data.toList o l x y g to=zG s.data.toList o l from by simp[zac,c]);have A:(zG s.data.toList o l !=0)=true:=by simpa using c
 clear c;go_wp2_with fail;go_ret;exact⟨ze f.1.symm,d⟩
theorem zh0(s:ByteArray)(o x y d to:Int)(l:List (Int×Int))(a:zua)(cap:Nat)(w:World)(q:s.size<=maxLen)(r:l.length<=1000000)(p:ShAt w a l):
 Calls prog 178 #[.agg #[.string s,o,.slice a l.length cap],.agg #[x,y],d,to] w λe w'=>e=.returned (zac s.data.toList o l x y d to)/\Bw w w':=by
 have t:=I (λW (h:Bw w W)=>p.below h);clear p;go_enter func178,ntmps178
 go_wp2_with fail;obtain⟨u,m,i⟩:=zj8 w s o a l.length cap x y;generalize ((w.alloc (oZ s o a l.length cap)).alloc (oQ x y))=W at*;refine ca (zd4 s o l a cap _ q r (t.1 _ i)) λE j=>?_;have c:=ztS i j;replace m:=m.below j;obtain⟨F,G,H⟩:=I m |>.1;clear j i u;clear W;by_cases f:zG s.data.toList o l=0
 . have v:(zG s.data.toList o l !=0)=false:=by simpa using f
   cases n:spnB x y
   . have g:=I (show zac s.data.toList o l x y d to=5 from by simp[zac,f,n]);clear f;go_wp2_with (first|(go_at_call 118;refine ca (zdO _ _ _) λk b=>?_))
     go_ret;exact⟨ze g.1.symm,ztS c b⟩
   by_cases z:(0<=d/\d<1440)/\(0<=to/\to<1440)
   . have g:=I (show zac s.data.toList o l x y d to=0 from by simp[zac,f,n,clkB];omega);obtain⟨⟨A,B⟩,C,D⟩:=z;clear f;go_wp2_with (first|(go_at_call 118;refine ca (zdO _ _ _) λk b=>?_))
     go_ret;exact⟨ze g.1.symm,ztS c b⟩
   have g:=I (show zac s.data.toList o l x y d to=5 from by simp[zac,f,n,clkB];omega);clear f;by_cases A:d<0
   . go_wp2_with (first|(go_at_call 118;refine ca (zdO _ _ _) λk b=>?_))
     go_ret;exact⟨ze g.1.symm,ztS c b⟩
   by_cases B:1439<d
   . go_wp2_with (first|(go_at_call 118;refine ca (zdO _ _ _) λk b=>?_))
     go_ret;exact⟨ze g.1.symm,ztS c b⟩
   by_cases C:to<0
   . go_wp2_with (first|(go_at_call 118;refine ca (zdO _ _ _) λk b=>?_))
     go_ret;exact⟨ze g.1.symm,ztS c b⟩
   have D:1439<to:=by omega
   go_wp2_with (first|(go_at_call 118;refine ca (zdO _ _ _) λk b=>?_))
   go_ret;exact⟨ze g.1.symm,ztS c b⟩
 have g:=I (show zac s.data.toList o l x y d to=zG s.data.toList o l from by simp[zac,f]);have v:(zG s.data.toList o l !=0)=true:=by simpa using f
 clear f;go_wp2_with fail;go_ret;exact⟨ze g.1.symm,c⟩
def znx(w:World)(g:Nat)(R:List (Int×Int)):Prop:=
 g<w.heap.size/\∀k,k<R.length->w.cell? ⟨g,k*2,none⟩=some (.int .i64 (zaq R k).1)/\w.cell? ⟨g,k*2+1,none⟩=some (.int .i64 (zaq R k).2)
theorem znx.below{w w':World}{g:Nat}{R:List (Int×Int)}(h:znx w g R)(a:Bw w w'):znx w' g R:=
 ⟨ztU h.1 a.size,λk hk=>⟨(a.cell (p:=⟨g,k*2,none⟩) h.1).trans (h.2 k hk).1,(a.cell (p:=⟨g,k*2+1,none⟩) h.1).trans (h.2 k hk).2⟩⟩
theorem zhj{w:World}{c:Nat}{v:Value}{R:List (Int×Int)}(h:w.ownsRow c 144 2 v R.length (zav R)):
 (v=.slice none 0 0/\R= [])\/∃g b,v=.slice (some ⟨g,0,none⟩) R.length b/\znx w g R:=by
 rcases h.2 with⟨d,l⟩|⟨g,b,m,d,p⟩
 . exact .inl ⟨d,List.length_eq_zero_iff.1 l⟩
 have a:v.ownBlock=some g:=by rw[d];rfl
 have e:=(h.lt g a).2;have f:=h.cells a;refine .inr ⟨g,b,d,e,λk hk=>?_⟩;obtain⟨n,o⟩:=zhm R k hk;have i:=f _ _ n;have j:=f _ _ o;rw[zdG]at i j;exact⟨i,j⟩
theorem zq3(R:List (Int×Int))(a b:Int):(zdq R a b).length<=R.length+1:=by unfold zdq;split <;> simp
theorem znQ(S:Int->Bool)(x:Int):∀n:Nat,(zaL S x n).length<=n:=by
 intro n;induction n with
 |zero=>simp[zaL]
 |succ n ih=>rw[zaL];split;exact ztV (zq3 _ _ _) (by omega);omega
theorem zlH{o:Int}{l:List (Int×Int)}{a to x:Int}{n:Nat}(h:zap a to=0)(b:0<=a/\a<1440)(c:0<=to/\to<1440):zaL (inB o l a to) x n= []:=by
 have:=zhk (S:=inB o l a to) (x:=x) 0 n (λt _ _=>by
  unfold inB
  rw[zlI (by omega) b c,h];simp;omega)
 simpa[zaL] using this
theorem ziK{nm:List UInt8}{o:Int}{l:List (Int×Int)}{x y a to:Int}(h:zac nm o l x y a to=0):
 zef o l x y a to=zaL (inB o l a to) x (y-x).toNat/\(zef o l x y a to).length<=52596000/\
 (∀k,k<(zef o l x y a to).length->0<=(zaq (zef o l x y a to) k).1/\(zaq (zef o l x y a to) k).1<(zaq (zef o l x y a to) k).2/\(zaq (zef o l x y a to) k).2<=52596000)/\
 (∀k,k<=(zef o l x y a to).length->0<=zdI (zef o l x y a to) k/\zdI (zef o l x y a to) k<=52596000):=by
 obtain⟨g,⟨i,m,n⟩,p,q⟩:=zdb h;have e:zef o l x y a to=zaL (inB o l a to) x (y-x).toNat:=zoB g i m n p q;have b:=zhl (inB o l a to) x (y-x).toNat;have c:=ziL (inB o l a to) x (y-x).toNat;have d:=zj5 (inB o l a to) x (y-x).toNat;have f:=znQ (inB o l a to) x (y-x).toNat;rw[e];generalize zaL (inB o l a to) x (y-x).toNat=R at*;refine⟨rfl,by omega,λk hk=>by have:=b k hk;omega,λk hk=>?_⟩;have r:=ziF (λj hj=>(b j hj).2.1) 0 k (ztX _) hk;have s:=ziF (λj hj=>(b j hj).2.1) k R.length hk (ztY _);simp only[zdI]at r;omega
theorem zh9(s:ByteArray)(o x y d to:Int)(l:List (Int×Int))(a:zua)(cap:Nat)(w:World)(V:s.size<=maxLen)(F:l.length<=1000000)(G:ShAt w a l):
 Calls prog 144 #[.agg #[.string s,o,.slice a l.length cap],.agg #[x,y],d,to] w λe w'=>e=.returned (.tuple #[.int .i64 (zaJ s.data.toList o l x y d to).1,.int .i64 (zaJ s.data.toList o l x y d to).2])/\Bw w w':=by
 have H:=I (λW (h:Bw w W)=>G.below h);clear G;go_enter func144,ntmps144
 go_wp2_with fail;obtain⟨B,C,r⟩:=zj8 w s o a l.length cap x y;generalize ((w.alloc (oZ s o a l.length cap)).alloc (oQ x y))=W at*;refine ca (zfS s o x y d to l a cap _ V F (H.1 _ r)) λw1 j=>?_;have n:=ztS r j;replace C:=C.below j;replace B:=B.below j;obtain⟨X,Y,Z⟩:=I C |>.1;obtain⟨z0,z1,z2,z3⟩:=I B |>.1;clear j r;clear W;by_cases p:zac s.data.toList o l x y d to=0
 . have hn:(zac s.data.toList o l x y d to !=0)=false:=by simpa using p
   obtain⟨t,⟨h1,h2,h3⟩,K,L⟩:=zdb p;obtain⟨M,f2,N,P⟩:=ziK p;have D:=I (zh1 p);have t:=I t;have Hf:=I K;have Ht:=I L;clear p K L;go_wp2_with fail;refine(zgC s o x y d to l a cap _ F (H.1 _ n) t.1 Hf.1 Ht.1).mono ?_;rintro e Q ⟨v,rfl,f,u⟩;have z:=ztS n u;clear u z0 z1 z2 z3 X Y Z B C n;generalize hR:zef o l x y d to=R at*;clear hR;have F1:=I M;have F3:=I N;have S:=I P;clear M N P
   have c:ztR ((zaJ s.data.toList o l x y d to).1=zdI R R.length/\(zaJ s.data.toList o l x y d to).2=0):=I (by
    rw[D.1];refine⟨?_,rfl⟩;rw[F1.1,ziL])
   rcases zhj f with⟨rfl,rfl⟩|⟨g,T,rfl,q⟩
   . clear f;go_wp2_with fail;go_loop [13,34] (λm i=>m=.int .i64 0/\i=.int .i64 0) (λ_ _=>0)
     case atStart=>exact⟨rfl,rfl⟩
     obtain⟨rfl,rfl⟩:=hrel;go_wp2
     go_ret2;exact⟨zJ (by rw[c.1.1];rfl) (by rw[c.1.2]),z⟩
   clear f;go_wp2_with fail;go_loopw [13,34] (λm i wr=>∃k:Nat,k<=R.length/\i=.int .i64 k/\m=.int .i64 (zdI R k)/\Bw Q wr) (λ_ i _=>R.length-(intOf i).toNat)
   case atStart=>exact⟨0,ztX _,rfl,rfl,ztT _ _⟩
   obtain⟨k,hk,rfl,rfl,b⟩:=hrel;by_cases A:k<R.length
   . obtain⟨c1,c2⟩:=(q.below b).2 k A;have a0:=(q.below b).1;have b1:=F3.1 k A;have b2:=S.1 k (by omega);have b3:=S.1 (k+1) (by omega);have E:=I (show zdI R (k+1)=zdI R k+((zaq R k).2-(zaq R k).1) from rfl);go_wp2_with fail;go_roundw
     case rel=>exact⟨k+1,by omega,by go_num,by rw[E.1],b.alloc b.size _⟩
     case measure=>simp[intOf];omega
   obtain rfl:k=R.length:=by omega
   go_wp2_with fail;go_ret2;exact⟨zJ (by rw[c.1.1]) (by rw[c.1.2]),ztS z b⟩
 have U:=I (show zaJ s.data.toList o l x y d to=(0,zac s.data.toList o l x y d to) from by simp[zaJ,p]);have hn:(zac s.data.toList o l x y d to !=0)=true:=by simpa using p
 clear p;go_wp2_with fail;go_ret2;exact⟨zJ (by rw[U.1]) (by rw[U.1]),n⟩
theorem Nights_any(s:ByteArray)(o x y c to:Int)(l:List (Int×Int))(a:zua)(cap:Nat)(w:World)(hs:s.size<=maxLen)(H:l.length<=1000000)(K:ShAt w a l):
 Calls prog 142 #[.agg #[.string s,o,.slice a l.length cap],.agg #[x,y],c,to] w λe w'=>e=.returned (.tuple #[.int .i64 (zdh s.data.toList o l x y c to).1,.int .i64 (zdh s.data.toList o l x y c to).2])/\Bw w w':=by
 have L:=I (λW (h:Bw w W)=>K.below h);clear K;go_enter func142,ntmps142
 go_wp2_with fail;obtain⟨D,E,t⟩:=zj8 w s o a l.length cap x y;generalize ((w.alloc (oZ s o a l.length cap)).alloc (oQ x y))=W at*;refine ca (zfS s o x y c to l a cap _ hs H (L.1 _ t)) λw1 n=>?_;have p:=ztS t n;replace E:=E.below n;replace D:=D.below n;obtain⟨t0,t1,t2⟩:=I E |>.1;obtain⟨z0,z1,z2,z3⟩:=I D |>.1;clear n t;clear W;by_cases q:zac s.data.toList o l x y c to=0
 . have hn:(zac s.data.toList o l x y c to !=0)=false:=by simpa using q
   obtain⟨u,⟨h1,h2,h3⟩,M,N⟩:=zdb q;obtain⟨P,f2,Q,S⟩:=ziK q;have F:=I (ziQ q);have u:=I u;have T:=I M;have U:=I N;clear q M N;go_wp2_with fail;refine(zgC s o x y c to l a cap _ H (L.1 _ p) u.1 T.1 U.1).mono ?_;rintro e V ⟨v,rfl,f,A⟩;have B:=ztS p A;clear A z0 z1 z2 z3 t0 t1 t2 D E p;generalize hR:zef o l x y c to=R at*;clear hR;have X:=I P;have F3:=I Q;have Y:=I S;clear P Q S
   have d:ztR ((zdh s.data.toList o l x y c to).1=zbY R (zap c to) R.length/\(zdh s.data.toList o l x y c to).2=0):=I (by
    rw[F.1];refine⟨?_,rfl⟩;by_cases G:zap c to=0
    . rw[if_pos G,X.1,zlH G T.1 U.1];rfl
    rw[if_neg G,X.1,zjD])
   rcases zhj f with⟨rfl,rfl⟩|⟨g,Z,rfl,r⟩
   . clear f;go_wp2_with fail;go_loop [13,34] (λm i=>m=.int .i64 0/\i=.int .i64 0) (λ_ _=>0)
     case atStart=>exact⟨rfl,rfl⟩
     obtain⟨rfl,rfl⟩:=hrel;go_wp2
     go_ret2;exact⟨zJ (by rw[d.1.1];rfl) (by rw[d.1.2]),B⟩
   clear f;go_wp2_with fail;go_loopw [13,34] (λm i wr=>∃k:Nat,k<=R.length/\i=.int .i64 k/\m=.int .i64 (zbY R (zap c to) k)/\Bw V wr) (λ_ i _=>R.length-(intOf i).toNat)
   case atStart=>exact⟨0,ztX _,rfl,rfl,ztT _ _⟩
   obtain⟨k,hk,rfl,rfl,b⟩:=hrel;by_cases C:k<R.length
   . obtain⟨c1,c2⟩:=(r.below b).2 k C;have a0:=(r.below b).1;have b1:=F3.1 k C;have b2:=Y.1 k (by omega);have b3:=Y.1 (k+1) (by omega);have b4:=zqh R (zap c to) k;by_cases j:zap c to<=(zaq R k).2-(zaq R k).1
     . have z:=I (show zbY R (zap c to) (k+1)=zbY R (zap c to) k+1 from by rw[zbY,if_pos j]);go_wp2_with fail;go_roundw
       case rel=>exact⟨k+1,by omega,by go_num,by rw[z.1],b.alloc b.size _⟩
       case measure=>simp[intOf];omega
     have z:=I (show zbY R (zap c to) (k+1)=zbY R (zap c to) k from by rw[zbY,if_neg j];omega);go_wp2_with fail;go_roundw
     case rel=>exact⟨k+1,by omega,by go_num,by rw[z.1],b.alloc b.size _⟩
     case measure=>simp[intOf];omega
   obtain rfl:k=R.length:=by omega
   go_wp2_with fail;go_ret2;exact⟨zJ (by rw[d.1.1]) (by rw[d.1.2]),ztS B b⟩
 have hz:=I (show zdh s.data.toList o l x y c to=(0,zac s.data.toList o l x y c to) from by simp[zdh,q]);have hn:(zac s.data.toList o l x y c to !=0)=true:=by simpa using q
 clear q;go_wp2_with fail;go_ret2;exact⟨zJ (by rw[hz.1]) (by rw[hz.1]),p⟩
theorem zqp{nm:List UInt8}{o:Int}{l:List (Int×Int)}(h:zG nm o l=0)(a to t:Int):zgH ((t+offR o l t)%1440) a to=inB o l a to t:=by
 rw[<-zdy l none o t (zbg h).2.2.2];rfl
def ztK(S:Int->Bool)(x ln:Int)(N k:Nat)(p:Int×Int):Prop:=(k<=N/\p=zbI S x ln k)\/(k=N+1/\p.1=zfG S x ln N)
theorem ztK.yes{S:Int->Bool}{x a:Int}{N k:Nat}{p:Int×Int}(h:ztK S x a N k p)(c:k<N)(b:S (x+k)=true):ztK S x a N (k+1) (p.1,p.2+1):=by
 rcases h with⟨_,rfl⟩|⟨h,_⟩
 . exact .inl ⟨by omega,by rw[zbI,if_pos b]⟩
 omega
theorem ztK.no{S:Int->Bool}{x a:Int}{N k:Nat}{p:Int×Int}(h:ztK S x a N k p)(c:k<N)(b:S (x+k)=false):ztK S x a N (k+1) (p.1+(if a<=p.2/\0<p.2 then 1 else 0),0):=by
 rcases h with⟨_,rfl⟩|⟨h,_⟩
 . exact .inl ⟨by omega,by rw[zbI];exact(if_neg (by rw[b];decide)).symm⟩
 omega
theorem ztK.close{S:Int->Bool}{x a:Int}{N:Nat}{p:Int×Int}(h:ztK S x a N N p):ztK S x a N (N+1) (p.1+(if a<=p.2/\0<p.2 then 1 else 0),0):=by
 rcases h with⟨_,rfl⟩|⟨h,_⟩
 . exact .inr ⟨rfl,rfl⟩
 omega
theorem ztK.fin{S:Int->Bool}{x a:Int}{N k:Nat}{p:Int×Int}(h:ztK S x a N k p)(b:N<k):p.1=zfG S x a N:=by
 rcases h with⟨_,_⟩|⟨_,h⟩
 . omega
 exact h
theorem zp1{nm:List UInt8}{o:Int}{l:List (Int×Int)}(h:zG nm o l=0)(t:Int):-840<=offR o l t/\offR o l t<=840:=by
 rw[<-zdy l none o t (zbg h).2.2.2];exact off_bd h t
theorem zgP(s:ByteArray)(o x y c to:Int)(l:List (Int×Int))(a:zua)(cap:Nat)(w:World)(L:s.size<=maxLen)(z:l.length<=1000000)(E:ShAt w a l):
 Calls prog 161 #[.agg #[.string s,o,.slice a l.length cap],.agg #[x,y],c,to] w λe w'=>e=.returned (.tuple #[.int .i64 (zaJ s.data.toList o l x y c to).1,.int .i64 (zaJ s.data.toList o l x y c to).2])/\Bw w w':=by
 have A:=I (λW (h:Bw w W)=>E.below h);clear E;go_enter func161,ntmps161
 go_wp2_with fail;obtain⟨u,v,g⟩:=zj8 w s o a l.length cap x y;generalize ((w.alloc (oZ s o a l.length cap)).alloc (oQ x y))=W at*;refine ca (zh0 s o x y c to l a cap _ L z (A.1 _ g)) λF d=>?_;have f:=ztS g d;replace v:=v.below d;replace u:=u.below d;obtain⟨M,P,Q⟩:=I v |>.1;obtain⟨R,S,T,U⟩:=I u |>.1;clear d g;clear W;by_cases j:zac s.data.toList o l x y c to=0
 . have V:(zac s.data.toList o l x y c to !=0)=false:=by simpa using j
   obtain⟨n,⟨h1,h2,h3⟩,⟨X,Y⟩,⟨Z,a0⟩⟩:=zdb j;have p:=I (zh1 j);have B:=I (zqp n c to);have C:=I (zp1 n);clear j n;obtain⟨N,G⟩:∃N:Nat,(y-x).toNat=N:=⟨_,rfl⟩;rw[G]at p;have a1:y-x<=N:=by omega
   have a2:(N:Int)<=y-x:=by omega
   clear G;go_wp2_with fail;go_loopw [11,12] (λm i wr=>∃k:Nat,k<=N/\i=.int .i64 (x+k)/\m=.int .i64 (zeY (inB o l c to) x k)/\Bw F wr) (λ_ i _=>(y-intOf i).toNat)
   case atStart=>exact⟨0,ztX _,by simp,rfl,ztT _ _⟩
   obtain⟨k,hk,rfl,rfl,b⟩:=hrel;obtain⟨M,P,Q⟩:=I (v.below b) |>.1;obtain⟨R,S,T,U⟩:=I (u.below b) |>.1;have b1:=zj5 (inB o l c to) x k;by_cases a3:k<N
   . have b2:=C.1 (x+k);have H:=I (B.1 (x+k));have E1:=I (show x+(k:Int)+1=x+((k+1:Nat):Int) from by omega);cases t:inB o l c to (x+k)
     . have q:=I (show zeY (inB o l c to) x (k+1)=zeY (inB o l c to) x k from by rw[zeY,if_neg (by rw[t];decide)];omega);have D:zgH ((x+(k:Int)+offR o l (x+k))%1440) c to=false:=H.1.trans t;clear t;go_wp2_with (first|(go_at_call 162;refine ca (zaY s o _ l a cap _ z (A.1 _ (ztS f b))) λw2 r=>?_)|(go_at_call 168;refine cb (zbp _ _ (by omega) (by omega)) ?_)|(go_at_call 179;refine cb (zcI _ _ _ _) ?_))
       go_roundw
       case rel=>exact⟨k+1,by omega,by go_num,by rw[q.1],b.trans (r.mono b.size)⟩
       case measure=>simp[intOf];omega
     have q:=I (show zeY (inB o l c to) x (k+1)=zeY (inB o l c to) x k+1 from by rw[zeY,if_pos t]);have D:zgH ((x+(k:Int)+offR o l (x+k))%1440) c to=true:=H.1.trans t;clear t;go_wp2_with (first|(go_at_call 162;refine ca (zaY s o _ l a cap _ z (A.1 _ (ztS f b))) λw2 r=>?_)|(go_at_call 168;refine cb (zbp _ _ (by omega) (by omega)) ?_)|(go_at_call 179;refine cb (zcI _ _ _ _) ?_))
     go_roundw
     case rel=>exact⟨k+1,by omega,by go_num,by rw[q.1],b.trans (r.mono b.size)⟩
     case measure=>simp[intOf];omega
   obtain rfl:k=N:=by omega
   go_wp2_with fail;go_ret2;exact⟨zJ (by rw[p.1]) (by rw[p.1]),ztS f b⟩
 have K:=I (show zaJ s.data.toList o l x y c to=(0,zac s.data.toList o l x y c to) from by simp[zaJ,j]);have V:(zac s.data.toList o l x y c to !=0)=true:=by simpa using j
 clear j;go_wp2_with fail;go_ret2;exact⟨zJ (by rw[K.1]) (by rw[K.1]),f⟩
theorem ztJ(s:ByteArray)(o x y n to:Int)(l:List (Int×Int))(a:zua)(cap:Nat)(w:World)(hs:s.size<=maxLen)(z:l.length<=1000000)(ha:ShAt w a l):
 Calls prog 130 #[.agg #[.string s,o,.slice a l.length cap],.agg #[x,y],n,to] w λe w'=>e=.returned (.tuple #[.int .i64 (zdh s.data.toList o l x y n to).1,.int .i64 (zdh s.data.toList o l x y n to).2])/\Bw w w':=by
 have A:=I (λW (h:Bw w W)=>ha.below h);clear ha;go_enter func130,ntmps130
 go_wp2_with fail;obtain⟨Q,R,B⟩:=zj8 w s o a l.length cap x y;generalize ((w.alloc (oZ s o a l.length cap)).alloc (oQ x y))=W at*;refine ca (zh0 s o x y n to l a cap _ hs z (A.1 _ B)) λw1 u=>?_;have d:=ztS B u;replace R:=R.below u;replace Q:=Q.below u;obtain⟨t0,t1,t2⟩:=I R |>.1;obtain⟨z0,z1,z2,z3⟩:=I Q |>.1;clear u B;clear W;by_cases C:zac s.data.toList o l x y n to=0
 . have hn:(zac s.data.toList o l x y n to !=0)=false:=by simpa using C
   obtain⟨D,⟨h1,h2,h3⟩,⟨a0,a1⟩,⟨a2,a3⟩⟩:=zdb C;have t:=I (ziQ C);have S:=I (zqp D n to);have T:=I (zp1 D);clear C D;obtain⟨N,hN⟩:∃N:Nat,(y-x).toNat=N:=⟨_,rfl⟩;rw[hN]at t;have a4:y-x<=N:=by omega
   have a5:(N:Int)<=y-x:=by omega
   clear hN;obtain⟨j,v⟩:∃j:Int,zap n to=j:=⟨_,rfl⟩;have U:=I v;have V:0<=j/\j<1440:=by rw[<-v];unfold zap;omega
   obtain⟨a6,a7⟩:=V;rw[v]at t;clear v;go_wp2_with fail;rw[show(to-n+1440)%1440=j from U.1];have hS:=I (λk=>zog (inB o l n to) x j k);go_loopw [12,13,14] (λm r i wr=>∃(k:Nat) (p:Int×Int),k<=N+1/\i=.int .i64 (x+k)/\m=.int .i64 p.1/\r=.int .i64 p.2/\ztR (ztK (inB o l n to) x j N k p)/\(0<=p.1/\p.1<=60000000+k/\0<=p.2/\p.2<=k)/\Bw w1 wr) (λ_ _ i _=>(y+1-intOf i).toNat)
   case atStart=>exact⟨0,(0,0),ztX _,by simp,rfl,rfl,I (.inl ⟨ztX _,rfl⟩),by simp,ztT _ _⟩
   obtain⟨k,p,hk,rfl,rfl,rfl,q,X,b⟩:=hrel;obtain⟨a8,a9,b0,b1⟩:=X;obtain⟨t0,t1,t2⟩:=I (R.below b) |>.1;obtain⟨z0,z1,z2,z3⟩:=I (Q.below b) |>.1;by_cases K:k<N
   . have b2:=T.1 (x+k);have hi:=I (S.1 (x+k));cases F:inB o l n to (x+k)
     . have g:=I (q.1.no K F);have Y:zgH ((x+(k:Int)+offR o l (x+k))%1440) n to=false:=hi.1.trans F;clear F;by_cases L:j<=p.2
       . by_cases M:0<p.2
         . have c:(p.1+(if j<=p.2/\0<p.2 then 1 else 0),(0:Int))=(p.1+1,0):=by rw[if_pos ⟨L,M⟩]
           have c:=I c;go_wp2_with (first|(go_at_call 162;refine ca (zaY s o _ l a cap _ z (A.1 _ (ztS d b))) λG f=>?_)|(go_at_call 168;refine cb (zbp _ _ (by omega) (by omega)) ?_)|(go_at_call 179;refine cb (zcI _ _ _ _) ?_))
           go_roundw
           case rel=>exact⟨k+1,(p.1+1,0),by omega,by go_num,by go_num,rfl,I (c.1 ▸ g.1),by simp only;omega,b.trans (f.mono b.size)⟩
           case measure=>simp[intOf];omega
         have c:=I (show(p.1+(if j<=p.2/\0<p.2 then 1 else 0),(0:Int))=(p.1,0) from by rw[if_neg (λh=>M h.2),Int.add_zero]);go_wp2_with (first|(go_at_call 162;refine ca (zaY s o _ l a cap _ z (A.1 _ (ztS d b))) λG f=>?_)|(go_at_call 168;refine cb (zbp _ _ (by omega) (by omega)) ?_)|(go_at_call 179;refine cb (zcI _ _ _ _) ?_))
         go_roundw
         case rel=>exact⟨k+1,(p.1,0),by omega,by go_num,rfl,rfl,I (c.1 ▸ g.1),by simp only;omega,b.trans (f.mono b.size)⟩
         case measure=>simp[intOf];omega
       have c:=I (show(p.1+(if j<=p.2/\0<p.2 then 1 else 0),(0:Int))=(p.1,0) from by rw[if_neg (λh=>L h.1),Int.add_zero]);go_wp2_with (first|(go_at_call 162;refine ca (zaY s o _ l a cap _ z (A.1 _ (ztS d b))) λG f=>?_)|(go_at_call 168;refine cb (zbp _ _ (by omega) (by omega)) ?_)|(go_at_call 179;refine cb (zcI _ _ _ _) ?_))
       go_roundw
       case rel=>exact⟨k+1,(p.1,0),by omega,by go_num,rfl,rfl,I (c.1 ▸ g.1),by simp only;omega,b.trans (f.mono b.size)⟩
       case measure=>simp[intOf];omega
     have g:=I (q.1.yes K F);have Y:zgH ((x+(k:Int)+offR o l (x+k))%1440) n to=true:=hi.1.trans F;clear F;go_wp2_with (first|(go_at_call 162;refine ca (zaY s o _ l a cap _ z (A.1 _ (ztS d b))) λG f=>?_)|(go_at_call 168;refine cb (zbp _ _ (by omega) (by omega)) ?_)|(go_at_call 179;refine cb (zcI _ _ _ _) ?_))
     go_roundw
     case rel=>exact⟨k+1,(p.1,p.2+1),by omega,by go_num,rfl,rfl,g,by simp only;omega,b.trans (f.mono b.size)⟩
     case measure=>simp[intOf];omega
   by_cases b3:k<=N
   . obtain rfl:k=N:=by omega
     have g:=I (q.1.close);by_cases L:j<=p.2
     . by_cases M:0<p.2
       . have c:(p.1+(if j<=p.2/\0<p.2 then 1 else 0),(0:Int))=(p.1+1,0):=by rw[if_pos ⟨L,M⟩]
         have c:=I c;go_wp2_with (first|(go_at_call 162;refine ca (zaY s o _ l a cap _ z (A.1 _ (ztS d b))) λG f=>?_)|(go_at_call 168;refine cb (zbp _ _ (by omega) (by omega)) ?_)|(go_at_call 179;refine cb (zcI _ _ _ _) ?_))
         go_roundw
         case rel=>exact⟨k+1,(p.1+1,0),by omega,by go_num,by go_num,rfl,I (c.1 ▸ g.1),by simp only;omega,b⟩
         case measure=>simp[intOf];omega
       have c:=I (show(p.1+(if j<=p.2/\0<p.2 then 1 else 0),(0:Int))=(p.1,0) from by rw[if_neg (λh=>M h.2),Int.add_zero]);go_wp2_with (first|(go_at_call 162;refine ca (zaY s o _ l a cap _ z (A.1 _ (ztS d b))) λG f=>?_)|(go_at_call 168;refine cb (zbp _ _ (by omega) (by omega)) ?_)|(go_at_call 179;refine cb (zcI _ _ _ _) ?_))
       go_roundw
       case rel=>exact⟨k+1,(p.1,0),by omega,by go_num,rfl,rfl,I (c.1 ▸ g.1),by simp only;omega,b⟩
       case measure=>simp[intOf];omega
     have c:=I (show(p.1+(if j<=p.2/\0<p.2 then 1 else 0),(0:Int))=(p.1,0) from by rw[if_neg (λh=>L h.1),Int.add_zero]);go_wp2_with (first|(go_at_call 162;refine ca (zaY s o _ l a cap _ z (A.1 _ (ztS d b))) λG f=>?_)|(go_at_call 168;refine cb (zbp _ _ (by omega) (by omega)) ?_)|(go_at_call 179;refine cb (zcI _ _ _ _) ?_))
     go_roundw
     case rel=>exact⟨k+1,(p.1,0),by omega,by go_num,rfl,rfl,I (c.1 ▸ g.1),by simp only;omega,b⟩
     case measure=>simp[intOf];omega
   have P:=I (q.1.fin (by omega));by_cases H:j=0
   . have Z:(j==0)=true:=by simpa using H
     have E:=I H;clear H;go_wp2_with fail;go_ret2;exact⟨zJ (by rw[t.1,E.1];rfl) (by rw[t.1]),ztS d b⟩
   have Z:(j==0)=false:=by simpa using H
   have E:=I H;clear H;go_wp2_with fail;go_ret2;exact⟨zJ (by rw[t.1,P.1,if_neg E.1]) (by rw[t.1]),ztS d b⟩
 have hz:=I (show zdh s.data.toList o l x y n to=(0,zac s.data.toList o l x y n to) from by simp[zdh,C]);have hn:(zac s.data.toList o l x y n to !=0)=true:=by simpa using C
 clear C;go_wp2_with fail;go_ret2;exact⟨zJ (by rw[hz.1]) (by rw[hz.1]),d⟩
end Go.Proofs.YtbhhejkolnigfaaGreat
