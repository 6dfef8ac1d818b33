/- a part of the proof -/
import Derived.Test.YtafdcbmgdfliiaaGreatN3
import Derived.Test.YtafdcbmgdfliiaaGreatN2
set_option linter.all false
set_option maxRecDepth 100000
set_option maxHeartbeats 3000000
namespace Go.Proofs.YtafdcbmgdfliiaaGreat
open Go.RowKit Go.Sort Go.Proofs.Tryz
def LegP(w:Wd)(cs:LV)(x:gF):Prop:=∃(da:Ae) (dc:Nat),cs= [.slice da x.duty.length dc,Bn x.rep,Bn x.rel,.string x.src,.string x.dst,Bn x.cost,Bn x.cred]/\x.duty.length<=140737488355328/\Al Ei w da x.duty
def Kd.legs{t:At}{c:Ad}{lo n:Nat}{v:Value}{w:Wd}(S:Kd t c lo v n w)(hN:t.fs.length<=12):∃(L:List gF) (a:Ae) (p:Nat),v=CU a L.length p/\L.length=n/\zzU w a L:=by
 obtain⟨b,rfl,G,H⟩:=S;obtain⟨a,p,rfl,q1,q2,M⟩:=Sw G;have r:∀cs,∃x,cs∈b->LegP w cs x:=λcs=>by
  by_cases q:cs∈b;have⟨s,d,u,N,P,Q,R,T,U,e,y,V⟩:=H _ q;have W:=(aR y.1).2.2;obtain⟨k1,k2,X,-⟩:=Ka W;obtain⟨a',C,D,-,z⟩:=V.at λx r=>by
   obtain⟨k,E,rfl⟩:=List.getElem_of_mem r;have:=X k E;rw[show Cm d k=d[k] by simp[Cm,Cr,Cz E]]at this;have⟨m,q,Y⟩:=Qh this;rw[q];exact cE (n:=12) ⟨by omega,by omega⟩ (by decide)
  simp only[Value.slice.injEq]at D;obtain⟨A,-,B⟩:=D;subst A B;exact⟨⟨d,N,P,Q,R,T,U⟩,λ_=>⟨s,u,e,by show d.length<=_;omega,z⟩⟩;exact⟨⟨[],0,0,⟨#[]⟩,⟨#[]⟩,0,0⟩,λh=>aB h q⟩
 have⟨f,F⟩:=Classical.axiomOfChoice r;have o:∀c∈b,c.length=7:=λcs hcs=>by
  have⟨_,_,e,_⟩:=F cs hcs;rw[e];rfl
 refine⟨b.map f,a,p,by simp,by simp,?_⟩;rcases M with Z|⟨g,rfl,hb,hg,hc⟩;exact .inl (by rw[List.eq_nil_of_length_eq_zero Z];rfl);refine .inr ⟨g,0,rfl,hg,λi hi=>?_⟩;have l:i<b.length:=by simpa using hi
 have e:Qa (b.map f) i=f b[i]:=by simp[Qa,Cr,l]
 have⟨s,u,ec,y,z⟩:=F _ (gM l);rw[e];have K:∀j (hj:j<7),w.cell? (aD g (0+i*7+j))=some (b[i].getD j undef):=λj hj=>by
  have h7:=o _ (gM l);have:=Zy b o i l j hj;rw[Nat.zero_add];refine hc _ _ ?_;rw[this,Cr,Cz (by omega)];rfl
 rw[ec]at K;exact⟨s,u,K 0 (by decide),K 1 (by decide),K 2 (by decide),K 3 (by decide),K 4 (by decide),K 5 (by decide),K 6 (by decide),y,z⟩
theorem fst_up{x y:Ai}(f:x≠ [])(g:y≠ [])(h:0<CD x y):(Cm y 0).1<=(Cm x 0).1:=by
 cases x with
 |nil=>exact aB rfl f
 |cons a x=>cases y<;>grind[Cm,CD,zz9,zzT,zz5]
section
variable {t:At} {c:Ad} {base:BA} {L:List gF}
theorem zD6(h:0=Sb t c (bldM t c base L)):NetG t c base L/\(SB t c base L L.length).length<=20000/\∀k,k<L.length->lgE t c L k=0:=by
 rw[zBR]at h;by_cases b:Jn t c≠0;rw[iP b]at h;exact aB h.symm b;rw[iN b]at h;obtain⟨g,j⟩:=zCe (by simpa using b);unfold bldM at h;by_cases a:bldE t c base L=0;rw[iN (by simpa using a)]at h;by_cases e:(SB t c base L L.length).length<=20000;unfold bldE at a;cases d:Mo t base;rw[iP d]at a;exact aB a (by decide);rw[iN (by rw[d];decide)]at a;have f:∀k,k<L.length->lgE t c L k=0:=λk hk=>Ti _ _ a k (Bg _) (by omega);exact⟨⟨g,j,d,λi hi=>zBh (f i hi)⟩,e,f⟩;rw[iN e]at h;exact aB h (by decide);rw[iP a]at h;exact aB h.symm a
theorem lg_up(G:NetG t c base L)(h:∀k,k<L.length->lgE t c L k=0){i:Nat}:∀m,i+m<L.length->(Cm (Qa L i).duty 0).1<=(Cm (Qa L (i+m)).duty 0).1
 |0,_=>Int.le_refl _
 |m+1,hm=>by
  have g:=lg_up G h (i:=i) m (by omega);have a:=h (i+(m+1)) hm;have f:∀k,k<L.length->(Qa L k).duty≠ []:=λk hk e=>by
   have:=(Ka (G.lg k hk).d).1;simp_all
  unfold lgE at a
  by_cases b:FW t c (Qa L (i+(m+1))).duty=0
  . rw[iN (by simpa using b)]at a;split at a
    . omega
    split at a
    . omega
    have:=fst_up (f _ hm) (f (i+(m+1)-1) (by omega)) (by omega);grind
  omega
theorem zDZ{x y:Ai}(a:zY t=0)(d:Ax c=0)(b:Cc t c x=0)(e:Cc t c y=0)(g:(Cm y 0).1<=(Cm x 0).1):(Bm t c y).1<(Bm t c x).2:=by
 have h:=oG a d b;have⟨k,f,_⟩:=Jl b;have⟨l,m,_⟩:=Jl e;have:=zDz a (i:=fstN y) (j:=fstN x) (by omega) f;grind[Bm]
theorem zEe(G:NetG t c base L)(h:∀k,k<L.length->lgE t c L k=0):∀i k,i<L.length->k<L.length->zAc t c base (Qa L i) (Qa L k)=true->i<k:=by
 intro i k j l a;by_cases e:i<k;exact e;have b:=lg_up G h (i:=k) (i-k) (by omega);rw[show k+(i-k)=i by omega]at b;unfold zAc at a;simp only[Em,decide_eq_true_eq]at a;have f:=G.lg i j;have g:=G.lg k l;have m:(Qa L i).rel=(Bm t c (Qa L i).duty).2:=congrArg gF.rel f.e;have n:(Qa L k).rep=(Bm t c (Qa L k).duty).1:=congrArg gF.rep g.e;exact aB a.2.1 (by
  have:=zDZ G.tt G.tc f.d g.d b;omega)
end
def NetQ(t:At)(c:Ad)(w:Wd)(e:Ending)(w':Wd):Prop:=∃(b:BA) (L:List gF) (K:List CP) (S E:LI) (a1 a3 a5 a7:Ae) (c1 c3 c5 c7:Nat),e=.returned (.agg #[.string b,.slice a1 L.length c1,.slice a3 K.length c3,.slice a5 S.length c5,.slice a7 E.length c7])/\FrK w.heap.size (λw=>NetA L K S E a1 a3 a5 a7 w) w'/\Below w.heap.size w w'/\
 ((L= []/\K= []/\S= []/\E= [])\/(NetG t c b L/\K=SB t c b L L.length/\S=zzW b L/\E=zzZ b L/\L.length<=2000/\K.length<=20000/\∀k,k<L.length->lgE t c L k=0))
def resN10{d:Func}{a:Array Value}{W:Wd}{b:Nat}{v0 v1 v2 v3 e:Value}{f:Nat×Nat}(g:d.results=#[.cell 10 42])(h:a.getD 10 undef=Ua b 0)(q:W.heap[b]?=some (.cells #[v0,v1,v2,v3,e] 42 f)):(results d a).run prog W=.ok (.agg #[v0,v1,v2,v3,e]) W:=by
 have c:a[10]?.getD undef=Ua b 0:=by simpa using h
 simp[results,g,go_sem,c,D_ q]
theorem zEd{t:At}{c:Ad}{a:BA}{L:List gF}{w w':Wd}{e:Ending}(u:L.length<=2000)(h:NetR t c a L (Sb t c (bldM t c a L)) w e w'):∃(b:BA) (L:List gF) (K:List CP) (S E:LI) (f g i j:Ae) (l m n o:Nat) (z:Int),e=.returned (.tuple #[.agg #[B_ b,CU f L.length l,CU g K.length m,CU i S.length n,CU j E.length o],z])/\FrK w.heap.size (λw=>NetA L K S E f g i j w) w'/\Bw w w'/\
 ((L= []/\K= []/\S= []/\E= [])\/(NetG t c b L/\K=SB t c b L L.length/\S=zzW b L/\E=zzZ b L/\L.length<=2000/\K.length<=20000/\∀k,k<L.length->lgE t c L k=0)):=by
 obtain⟨v,z,rfl,r,p,d,s⟩:=h;by_cases q:z=0;obtain⟨f,g,i,j,l,m,n,o,rfl,x,y,A,B⟩:=p q;rw[q]at r;have⟨C,D,F⟩:=zD6 r;have G:=zzX (λk=>(Qa L k).src.toList==a.toList) L.length;have H:=zzX (λk=>(Qa L k).dst.toList==a.toList) L.length;exact⟨a,L,_,_,_,f,g,i,j,l,m,n,o,z,rfl,λw2 ag=>⟨x w2 ag,y w2 ag,A w2 ag,B w2 ag,by omega,by omega,by grind[zzW],by grind[zzZ]⟩,s,.inr ⟨C,rfl,rfl,rfl,u,D,F⟩⟩;rw[d q];exact⟨⟨#[]⟩, [], [], [], [],none,none,none,none,0,0,0,0,z,rfl,λw2 ag=>⟨.inl rfl,.inl rfl,.inl rfl,.inl rfl,by decide,by decide,by decide,by decide⟩,s,.inl ⟨rfl,rfl,rfl,rfl⟩⟩
theorem zC7(t:At)(c:Ad)(T:Ae)(A:Nat)(U:Ae)(ac:Nat)(fa:Ae)(fc:Nat)(p:Bd)(w:World)(m:t.zn.length<=A/\A<=140737488355328/\t.ai.length<=ac/\ac<=140737488355328)(V:c.cs.length<=p.cc/\p.cc<=9223372036854775807)(hT:Ea w t c T U fa p)(hN:t.fs.length<=12)(o:ByteArray)(q:List Int)(la:Ae)(lc:Nat)(hq:Al RT.int w la q)(hl:q.length<=140737488355328)(hd:Nat)(a8:hd<=6):Calls prog 8 #[Az t T A U ac fa fc,Ay c p,.string o,.slice la q.length lc,hd] w (NetQ t c w):=by
 try delta Ay Az
 have W:=I hT;have HI:=I hq;have r:=I m;have X:=I V;clear hT hq m V;go_enter func8,ntmps8
 go_wp2_with fail;obtain⟨hB,B,C,D⟩:=cB w t c T A U ac fa fc p jD;obtain⟨tb,F⟩:∃tb,tb=w.heap.size:=⟨_,rfl⟩;obtain⟨cb,G⟩:∃cb,cb=w.heap.size+1:=⟨_,rfl⟩;obtain⟨Y,H⟩:∃Y,Y=w.heap.size+1+1:=⟨_,rfl⟩;rw[<-H]at D;rw[<-G]at C;rw[<-F]at B;simp only[<-H];simp only[<-G];simp only[<-F];have a9:=I (show w.heap.size<=Y by omega);have HB:=I hB;have QT:=I B;have QC:=I C;have QN:=I D;clear H G F hB B C D;generalize ((w.alloc (Ap t T A U ac fa fc)).alloc (Aj c p)).alloc jD=W0 at*;have EN:=I (YT t c T A U ac fa fc p W0 r.1 X.1 (W.1.below HB.1) hN q la lc (HI.1.below HB.1) hl hd a8);obtain⟨x0,x1,x2,xl⟩:=Ev QT.1;obtain⟨y0,y1,y2,y3,y4,y5,y6,y7,y8,y9,M,N,P,Q,yl⟩:=Ek QC.1;go_wp2_with fail;refine EN.1.mono ?_;rintro e w1 ⟨v,n,lo,er,rfl,hn,Z,-,B1⟩;obtain⟨L0,a0,c0,rfl,rfl,a2⟩:=Z.legs hN;have f:=I (Ab HB.1 B1);have a4:=I (Ac B1 QT.1);have a6:=I (Ac B1 QC.1);have g:=I (Ac B1 QN.1);have BU:=I (zDF t c T A U ac fa fc p w1 r.1 X.1 (W.1.below f.1) o L0 a0 c0 hn a2);clear x0 x1 x2 xl y0 y1 y2 y3 y4 y5 y6 y7 y8 y9 M N P Q yl B1 QT QC QN HB EN Z a2;obtain⟨x0,x1,x2,xl⟩:=Ev a4.1;obtain⟨y0,y1,y2,y3,y4,y5,y6,y7,y8,y9,M,N,P,Q,yl⟩:=Ek a6.1;go_wp2_with fail;refine BU.1.mono ?_;rintro e w2 hR;obtain⟨b,L,K,S,E,h,i,k,l,s,u,x,y,z,rfl,hA,B2,hC⟩:=zEd hn hR;have B3:=J w2 (Obj.cells #[.string b,.slice h L.length s,.slice i K.length u,.slice k S.length x,.slice l E.length y] 42);have q3:=zh w2 (Obj.cells #[.string b,.slice h L.length s,.slice i K.length u,.slice k S.length x,.slice l E.length y] 42);obtain⟨mb,R⟩:∃mb,mb=w2.heap.size:=⟨_,rfl⟩;rw[<-R]at q3;have HC:=I hC;have b0:=I (FrK.to hA (Agr.of B3));have b1:=I (Ag g.1);have b2:=I f.1.size;have b3:=I (Ab f.1 (Ab B2 B3));have a:=I (Ac (Ab B2 B3) g.1);have d:=I q3;have b4:=I (As (Ag g.1) B2.size);clear x0 x1 x2 xl y0 y1 y2 y3 y4 y5 y6 y7 y8 y9 M N P Q yl B2 B3 q3 hA hC hR BU a4 a6 g f;go_upto_region 3 with fail
 simp only[<-R];have b5:Y<mb:=by have:=b4.1;omega
 clear R;generalize w2.alloc (Obj.cells #[.string b,.slice h L.length s,.slice i K.length u,.slice k S.length x,.slice l E.length y] 42)=w3 at*;have m0:=zm (j:=0) d.1 rfl;have m1:=zm (j:=1) d.1 rfl;have m2:=zm (j:=2) d.1 rfl;have m3:=zm (j:=3) d.1 rfl;have m4:=zm (j:=4) d.1 rfl;have ml:=Ag d.1;have n0:=zm (j:=0) a.1 rfl;have n1:=zm (j:=1) a.1 rfl;have n2:=zm (j:=2) a.1 rfl;have n3:=zm (j:=3) a.1 rfl;have n4:=zm (j:=4) a.1 rfl;have f0:=zQ (j:=0) a.1;have f1:=zQ (j:=1) a.1;have f2:=zQ (j:=2) a.1;have f3:=zQ (j:=3) a.1;have f4:=zQ (j:=4) a.1;have nl:=Ag a.1;have QW:=I (Pr [.string b,.slice h L.length s,.slice i K.length u,.slice k S.length x,.slice l E.length y] [] [.string ⟨#[]⟩,.slice none 0 0,.slice none 0 0,.slice none 0 0,.slice none 0 0] _ rfl a.1);have HW:=I (Tt a9.1 [.string b,.slice h L.length s,.slice i K.length u,.slice k S.length x,.slice l E.length y] 0 _ b3.1);have HS:=I (show FrK w.heap.size (λw=>NetA L K S E h i k l w) (stN Y 0 [.string b,.slice h L.length s,.slice i K.length u,.slice k S.length x,.slice l E.length y] w3) from(FrK.to b0.1 (Agr.stN (lo:=w1.heap.size) b1.1 [.string b,.slice h L.length s,.slice i K.length u,.slice k S.length x,.slice l E.length y] 0 w3)).le b2.1);simp only[stN,Nat.zero_add,Nat.reduceAdd,List.length_nil]at QW HW HS;go_wp2_with fail;refine bodyPost_ret (resN10 rfl rfl QW.1) rfl ?_;exact⟨b,L,K,S,E,h,i,k,l,s,u,x,y,rfl,HS.1,HW.1,HC.1⟩
