/- a part of the proof -/
import Derived.Test.YtbhhejkolnigfaaGreatG7
import Derived.Test.YtbhhejkolnigfaaGreatGI
set_option linter.unusedVariables false
set_option linter.unusedSimpArgs false
set_option maxRecDepth 100000
set_option maxHeartbeats 51200000
namespace Go.Proofs.YtbhhejkolnigfaaGreat
open Go.RowKit Go.Sort Go.Proofs.Tryz
def zuK(t:TTM)(c:ConM)(x y:Duty):Int:=(zdh (zp t (fAt t.fls (lstN x)).to).name.data.toList (zp t (fAt t.fls (lstN x)).to).off (zp t (fAt t.fls (lstN x)).to).sh (zcK t c x).2 (zcK t c y).1 c.nf c.nt).1
def zuM(t:TTM)(x:Duty)(s:ByteArray):Int:=if((fAt t.fls (lstN x)).to.toList==s.toList)=true then 1 else 0
def zuv(t:TTM)(c:ConM)(s:ByteArray)(x y:Duty)(qx qy:List Int)(nb:Bool):List Int:=((zcK t c y).1-(zcK t c x).2)::(if nb=true then zuK t c x y else 0)::zuM t x s::(qx++qy)
theorem zuF{t:TTM}(a:zY t=0)(s:ByteArray):(zp t s).sh.length<=16:=zi3 a s
theorem zun{w:World}{b c:Nat}{q:List Int}(h:∀i,i<q.length->w.cell? ⟨b,c+i,none⟩=some (.int .i64 (iAt q i))):∀j u,(q.map (Value.int .i64))[j]?=some u->w.cell? (Addr.add ⟨b,c,none⟩ j)=some u:=by
 intro j u a;rw[List.getElem?_map]at a;by_cases d:j<q.length
 . rw[zt1 d]at a;have e:u=.int .i64 (iAt q j):=by
    simp at a
    rw[<-a];simp[iAt,d]
   rw[e,<-h j d];unfold Addr.add
   split
   . next h0=>rw[h0];rfl
   rfl
 rw[List.getElem?_eq_none (by omega)]at a;cases a
theorem zue(q:List Int):∀u∈q.map (Value.int .i64),u.oneCell'=true:=by
 intro u a;obtain⟨n,_,rfl⟩:=List.mem_map.1 a;rfl
theorem zuu(w:World)(r:Nat)(t:TTM)(c:ConM)(P:SetP)(hS:zc6 w r t c P)(s:ByteArray)(x y:Duty)(xa ya:zua)(xc yc:Nat)(hx:za6 t c x=0)(hy:za6 t c y=0)(c5:SlAt za3 w xa x)(c6:SlAt za3 w ya y)(E F:List Int)(qa ra:zua)(qc rc:Nat)(c7:E.length=11)(c8:F.length=11)(c9:zW w qa E)(d0:zW w ra F):
 Calls prog 95 #[.pointer (some ⟨r,0,none⟩),.string s,.slice xa x.length xc,.slice ya y.length yc,.slice qa 11 qc,.slice ra 11 rc,.bool true] w λe m=>∃v,e=.returned v/\m.ownsRow w.heap.size 3 1 v 25 ((zuv t c s x y E F true).map (Value.int .i64))/\Bw w m:=by
 have g5:∀w:World,(Instr.makeSlice 72 (.int .i64 0) (.int .i64 25)).run prog w=.ok (.slice (some ⟨w.heap.size,0,none⟩) 0 25) (w.alloc jA):=λ_=>by kernel_rfl
 obtain⟨i0,hi,L,M,N⟩:=info_parts zjJ;obtain⟨qb,b2,rfl,g6,d1⟩:=c9.cells (by omega);obtain⟨rb,b3,rfl,g7,d2⟩:=d0.cells (by omega);have d3:=I (λW (h:Bw w W)=>λi hi=>zj (d1 i hi) g6 h);have d4:=I (λW (h:Bw w W)=>λi hi=>zj (d2 i hi) g7 h);have a1:=I (And.intro c7 c8);clear c7 c8;have HS:=I hS;have HX:=I hx;have HY:=I hy;have d5:=I c5;have g8:=I c6;obtain⟨g9,d6,d7,h0⟩:fstN x<t.fls.length/\lstN x<t.fls.length/\fstN y<t.fls.length/\lstN y<t.fls.length:=⟨(zfN hx).2.1,(zfN hx).2.2.2,(zfN hy).2.1,(zfN hy).2.2.2⟩;have tx:=zas hS.okT d6;have ty:=zas hS.okT d7;have cr:=zdl hS.okC;have e1:(zcK t c y).1=(fAt t.fls (fstN y)).dep-c.report:=rfl;have e2:(zcK t c x).2=(fAt t.fls (lstN x)).arr+c.release:=rfl;obtain⟨f,a2⟩:∃f,f=(zcK t c y).1:=⟨_,rfl⟩;obtain⟨g,a3⟩:∃g,g=(zcK t c x).2:=⟨_,rfl⟩;have hw:IntKind.i64.wrap (f-g)=f-g:=by rw[IntKind.wrap_i64,a2,a3,e1,e2];omega
 have G:=I (And.intro a2 a3);obtain⟨l,b5⟩:∃l,l=(fAt t.fls (lstN x)).to:=⟨_,rfl⟩;have b6:=I b5;have Y:=I (show zuv t c s x y E F true=(f-g)::(if true=true then zuK t c x y else 0)::(if(l.toList==s.toList)=true then 1 else 0)::(E++F) by rw[zuv,zuM,a2,a3,b5]);have FD:=I (And.intro (λ(a b:Int) (w:World)=>(by kernel_rfl:(Instr.field 144 (.agg #[a,b]) 1).run prog w=.ok (.int .i64 b) w)) (λ(a b:Int) (w:World)=>(by kernel_rfl:(Instr.field 144 (.agg #[a,b]) 0).run prog w=.ok (.int .i64 a) w)));clear hS hx hy c5 c6 c9 d0 d1 d2 tx ty cr e1 e2 a2 a3 b5 g9 d6 d7 h0;go_enter func95,ntmps95
 go_wp2_with fail;have a4:=I (J w jA);have f2:=I (show World.ownsRow (w.alloc jA) w.heap.size 3 1 (.slice (some ⟨w.heap.size,0,none⟩) 0 25) 0 [] from⟨rfl,.inr ⟨w.heap.size,25,_,rfl,ztY _,zh w jA,by omega,by unfold maxLen;omega,rfl,rfl⟩⟩);generalize w.alloc jA=W1 at*;refine ca (zll W1 r t c P (HS.1.below a4.1) x xa xc HX.1 (d5.1.below a4.1)) λw2 b7=>?_;have a5:=I (ztS a4.1 b7);have f3:=I (zcn f2.1 b7);clear b7 a4 f2 g5;have f1:=FD.1.1 (zcK t c x).1 (zcK t c x).2;go_wp2_with fail;clear f1;refine ca (zll w2 r t c P (HS.1.below a5.1) y ya yc HY.1 (g8.1.below a5.1)) λw3 b8=>?_;have h1:=I (ztS a5.1 b8);have h2:=I (zcn f3.1 b8);clear b8 a5 f3;rw[<-G.1.2];have f0:=FD.1.2 (zcK t c y).1 (zcK t c y).2;go_wp2_with fail;rw[<-G.1.1];clear f0;have b9:=I (ztS h1.1 (J w3 (oQ g f)));have h3:=I (zcn h2.1 (J w3 (oQ g f)));have QP:=I (zh w3 (oQ g f));obtain⟨Q,c0⟩:∃Q,Q=w3.heap.size:=⟨_,rfl⟩;rw[<-c0]at QP;simp only[<-c0];clear c0;generalize w3.alloc (oQ g f)=w4 at*;refine cb (to_any w4 r t c P (HS.1.below b9.1) x xa xc HX.1 (d5.1.below b9.1)) ?_;rw[<-b6.1];have hn:=I (show zuv t c s x y E F true=(f-g)::(zdh (zp t l).name.data.toList (zp t l).off (zp t l).sh g f c.nf c.nt).1::(if(l.toList==s.toList)=true then 1 else 0)::(E++F) by rw[Y.1];simp only[zuK,G.1.1,G.1.2,b6.1,if_true]);replace Y:=hn;have h4:=I (zuF HS.1.okT l);have d8:=zaX HS.1.box;have d9:=zbr HS.1.box;have a6:=HS.1.lt;have R:=I b9.1.drew;have f4:ztR (w4.drew.ownsRow w.heap.size 3 1 (.slice (some ⟨w.heap.size,0,none⟩) 0 25) 0 []):=h3;have a7:ztR (w4.drew.heap[Q]?=some (oQ g f)):=QP;have d:w4.drew.cell? ⟨Q,0,none⟩=some (.int .i64 g)/\w4.drew.cell? ⟨Q,1,none⟩=some (.int .i64 f)/\w4.drew.cell? ⟨r,8,none⟩=some (.int .i64 c.nf)/\w4.drew.cell? ⟨r,9,none⟩=some (.int .i64 c.nt):=⟨zm (j:=0) a7.1 rfl,zm (j:=1) a7.1 rfl,zj d8 a6 R.1,zj d9 a6 R.1⟩;have Z:=ztW a7.1;have a8:=ztU a6 R.1.size;obtain⟨Wd,c1⟩:∃Wd,w4.drew=Wd:=⟨_,rfl⟩;rw[c1]at R f4 a7 d Z a8;have c2:=I (zix w Wd r t c P HS.1 R.1 (fAt t.fls (lstN x)).to);rw[<-b6.1]at c2;clear d8 d9 a6;go_wp2_with fail;refine zbD (λm=>m.cell? ⟨Q,0,none⟩=some (.int .i64 g)/\m.cell? ⟨Q,1,none⟩=some (.int .i64 f)/\m.cell? ⟨r,8,none⟩=some (.int .i64 c.nf)/\m.cell? ⟨r,9,none⟩=some (.int .i64 c.nt)) [] (by kernel_rfl) c1 ?_;clear c1;refine zx (i:=0) (v:=.pointer (some ⟨r,0,none⟩)) rfl (λm hS'=>?_) d ?_
 . obtain⟨T,U,V,X⟩:=hS';go_simp
 try simp only[Act.put,O]
 refine zx (i:=1) (v:=.string l) rfl (λm hS'=>?_) d ?_
 . obtain⟨T,U,V,X⟩:=hS';go_simp
 try simp only[Act.put,O]
 refine zx (i:=3) (v:=.agg #[g,f]) rfl (λm hS'=>?_) d ?_
 . obtain⟨T,U,V,X⟩:=hS';go_simp
 try simp only[Act.put,O]
 refine zx (i:=4) (v:=.pointer (some ⟨r,0,none⟩)) rfl (λm hS'=>?_) d ?_
 . obtain⟨T,U,V,X⟩:=hS';go_simp
 try simp only[Act.put,O]
 refine zx (i:=5) (v:=.pointer (some ⟨r,0,none⟩)) rfl (λm hS'=>?_) d ?_
 . obtain⟨T,U,V,X⟩:=hS';go_simp
 try simp only[Act.put,O]
 refine zx (i:=6) (v:=.pointer (some ⟨r,3,none⟩)) rfl (λm hS'=>?_) d ?_
 . obtain⟨T,U,V,X⟩:=hS';go_simp
 try simp only[Act.put,O]
 refine zx (i:=7) (v:=.pointer (some ⟨r,8,none⟩)) rfl (λm hS'=>?_) d ?_
 . obtain⟨T,U,V,X⟩:=hS';go_simp
 try simp only[Act.put,O]
 refine zx (i:=8) (v:=.int .i64 c.nf) rfl (λm hS'=>?_) d ?_
 . obtain⟨T,U,V,X⟩:=hS';go_simp
 try simp only[Act.put,O]
 refine zx (i:=9) (v:=.pointer (some ⟨r,0,none⟩)) rfl (λm hS'=>?_) d ?_
 . obtain⟨T,U,V,X⟩:=hS';go_simp
 try simp only[Act.put,O]
 refine zx (i:=10) (v:=.pointer (some ⟨r,0,none⟩)) rfl (λm hS'=>?_) d ?_
 . obtain⟨T,U,V,X⟩:=hS';go_simp
 try simp only[Act.put,O]
 refine zx (i:=11) (v:=.pointer (some ⟨r,3,none⟩)) rfl (λm hS'=>?_) d ?_
 . obtain⟨T,U,V,X⟩:=hS';go_simp
 try simp only[Act.put,O]
 refine zx (i:=12) (v:=.pointer (some ⟨r,9,none⟩)) rfl (λm hS'=>?_) d ?_
 . obtain⟨T,U,V,X⟩:=hS';go_simp
 try simp only[Act.put,O]
 refine zx (i:=13) (v:=.int .i64 c.nt) rfl (λm hS'=>?_) d ?_
 . obtain⟨T,U,V,X⟩:=hS';go_simp
 try simp only[Act.put,O]
 refine zo (i:=2) (o:={dst:=some 37,op:=Op.call {callee:=Callee.value (Operand.func 71),args:=#[Operand.tmp 35,Operand.tmp 36],argTypes:=#[67,9]},type:=109,pos:= "values.go:67",after:=_,guard:=none}) (by kernel_rfl) rfl (by rfl) (λK hK=>?_);go_simp;refine c2.1.mono ?_;rintro e w5 ⟨za,f5,rfl,f6,f7,h5,z⟩;have f8:=I (ztS R.1 z);have h6:=I (zcn f4.1 z);have S:=zy (zj d.1 Z z) (zy (zj d.2.1 Z z) (zy (zj d.2.2.1 a8 z) (zj d.2.2.2 a8 z)));have a0:Q<w5.heap.size:=ztU Z z.size;have b4:r<w5.heap.size:=ztU a8 z.size;have HN:=I (Nights_any (zp t l).name (zp t l).off g f c.nf c.nt (zp t l).sh za f5 w5 (by have:=f7;unfold maxLen;omega) (by have:=h4.1;omega) (f6.below f8.1));clear f6 f7 h5 z c2;refine hK.1 _ _ (λ_ _=>S) ?_;clear hK K;try simp only[Act.put,O]
 refine zo (i:=14) (o:={dst:=some 49,op:=Op.call {callee:=Callee.value (Operand.func 142),args:=#[Operand.tmp 37,Operand.tmp 38,Operand.tmp 43,Operand.tmp 48],argTypes:=#[109,144,3,3]},type:=_,pos:= "values.go:67",after:=_,guard:=none}) (by kernel_rfl) rfl (by rfl) (λK hK=>?_);go_simp;refine HN.1.mono ?_;rintro e w6 ⟨rfl,A⟩;have a9:=I (ztS f8.1 A);have b0:=I (zcn h6.1 A);have b1:=zy (zj S.1 a0 A) (zy (zj S.2.1 a0 A) (zy (zj S.2.2.1 b4 A) (zj S.2.2.2 b4 A)));have f9:Q<w6.heap.size:=ztU a0 A.size;clear A HN;refine hK.1 _ _ (λ_ _=>b1) ?_;clear hK K;try simp only[Act.put,O]
 refine zT (i:=15) (v:=.tuple #[.int .i64 (zdh (zp t l).name.data.toList (zp t l).off (zp t l).sh g f c.nf c.nt).1,.int .i64 (zdh (zp t l).name.data.toList (zp t l).off (zp t l).sh g f c.nf c.nt).2]) rfl (λm=>?_) ?_
 . go_simp
 try simp only[Act.put,O]
 refine zT (i:=16) (v:=.int .i64 (zdh (zp t l).name.data.toList (zp t l).off (zp t l).sh g f c.nf c.nt).1) rfl (λm=>?_) ?_
 . go_simp
 try simp only[Act.put,O]
 refine zT (i:=17) (v:=.int .i64 (zdh (zp t l).name.data.toList (zp t l).off (zp t l).sh g f c.nf c.nt).2) rfl (λm=>?_) ?_
 . go_simp
 try simp only[Act.put,O]
 refine zo (i:=18) (o:={dst:=some 18,op:=Op.assign (Operand.tmp 50),type:=3,pos:= "values.go:67",after:=_,guard:=none}) (by kernel_rfl) rfl (by rfl) (λK hK=>?_);go_simp;refine hK.1 _ _ (λ_ h=>h) ?_;clear hK K;try simp only[Act.put,O]
 refine zM (by kernel_rfl) ?_;have H:=And.intro b1.1 b1.2.1;have Z:=f9;obtain⟨ni,g4⟩:∃ni,ni=(zdh (zp t l).name.data.toList (zp t l).off (zp t l).sh g f c.nf c.nt).1:=⟨_,rfl⟩;simp only[<-g4]at Y ⊢;clear g4 d S b1;by_cases hh:(l.toList==s.toList)=true
 . have h7:=hh;have hj:=I (Y.1.trans (by rw[if_pos hh]):zuv t c s x y E F true=(f-g)::ni::1::(E++F));clear hh;have p0:w6.cell? ⟨Q,0,none⟩=some (.int .i64 g):=H.1;have p1:w6.cell? ⟨Q,1,none⟩=some (.int .i64 f):=H.2;go_wp2_with (at_builtin;refine wpList_append_own _ rfl _ _ 72 rfl w.heap.size 3 i0 (.int .i64 0) 1 8 underlying72 hi L M N rfl (by decide) _ _ _ rfl (b0.1.alloc _) ⟨w6.heap.size,0,none⟩ 3 3 [.int .i64 (f-g),.int .i64 ni,.int .i64 1] rfl ?c0a ?c1a ?c2a ?c3a ?c4a ?c5a ?_)
   case c0a=>rfl
   case c1a=>exact zaa w6 [.int .i64 (f-g),.int .i64 ni,.int .i64 1] 3
   case c2a=>intro u hu;simp at hu;rcases hu with rfl|rfl|rfl <;> rfl
   case c3a=>unfold maxLen;omega
   case c4a=>omega
   case c5a=>have:=a9.1.size;simp;omega
   intro v1 x1 n B _;have B1:=I (zaG (e':=3) a9.1 rfl b0.1 B);have O1:=I n;have c3:=I (d3.1 _ B1.1);clear n B p0 p1;go_wp2_with (at_builtin;refine wpList_append_own _ rfl _ _ 72 rfl w.heap.size 3 i0 (.int .i64 0) 1 8 underlying72 hi L M N rfl (by decide) _ _ _ rfl O1.1 ⟨qb,b2,none⟩ 11 qc (E.map (Value.int .i64)) rfl ?c0b ?c1b ?c2b ?c3b ?c4b ?c5b ?_)
   case c0b=>rw[List.length_map,a1.1.1]
   case c1b=>exact zun c3.1
   case c2b=>exact zue E
   case c3b=>unfold maxLen;omega
   case c4b=>omega
   case c5b=>exact B1.1.size
   intro v2 x2 p C _;have B2:=I (B1.1.grown C B1.1.size (λk hk=>zaM O1.1 k hk));have O2:=I p;have c4:=I (d4.1 _ B2.1);clear p C;go_wp2_with (at_builtin;refine wpList_append_own _ rfl _ _ 72 rfl w.heap.size 3 i0 (.int .i64 0) 1 8 underlying72 hi L M N rfl (by decide) _ _ _ rfl O2.1 ⟨rb,b3,none⟩ 11 rc (F.map (Value.int .i64)) rfl ?c0c ?c1c ?c2c ?c3c ?c4c ?c5c ?_)
   case c0c=>rw[List.length_map,a1.1.2]
   case c1c=>exact zun c4.1
   case c2c=>exact zue F
   case c3c=>unfold maxLen;omega
   case c4c=>omega
   case c5c=>exact B2.1.size
   intro v3 x3 q D _;have B3:=I (B2.1.grown D B2.1.size (λk hk=>zaM O2.1 k hk));have O3:=I q;clear q D;go_wp2_with fail;go_ret;exact⟨v3,rfl,by rw[hj.1];simpa using O3.1,B3.1⟩
 have h7:(l.toList==s.toList)=false:=by simpa using hh
 have hj:=I (Y.1.trans (by rw[if_neg hh]):zuv t c s x y E F true=(f-g)::ni::0::(E++F));clear hh;have p0:w6.cell? ⟨Q,0,none⟩=some (.int .i64 g):=H.1;have p1:w6.cell? ⟨Q,1,none⟩=some (.int .i64 f):=H.2;go_wp2_with (at_builtin;refine wpList_append_own _ rfl _ _ 72 rfl w.heap.size 3 i0 (.int .i64 0) 1 8 underlying72 hi L M N rfl (by decide) _ _ _ rfl (b0.1.alloc _) ⟨w6.heap.size,0,none⟩ 3 3 [.int .i64 (f-g),.int .i64 ni,.int .i64 0] rfl ?c0a ?c1a ?c2a ?c3a ?c4a ?c5a ?_)
 case c0a=>rfl
 case c1a=>exact zaa w6 [.int .i64 (f-g),.int .i64 ni,.int .i64 0] 3
 case c2a=>intro u hu;simp at hu;rcases hu with rfl|rfl|rfl <;> rfl
 case c3a=>unfold maxLen;omega
 case c4a=>omega
 case c5a=>have:=a9.1.size;simp;omega
 intro v1 x1 n B _;have B1:=I (zaG (e':=3) a9.1 rfl b0.1 B);have O1:=I n;have c3:=I (d3.1 _ B1.1);clear n B p0 p1;go_wp2_with (at_builtin;refine wpList_append_own _ rfl _ _ 72 rfl w.heap.size 3 i0 (.int .i64 0) 1 8 underlying72 hi L M N rfl (by decide) _ _ _ rfl O1.1 ⟨qb,b2,none⟩ 11 qc (E.map (Value.int .i64)) rfl ?c0b ?c1b ?c2b ?c3b ?c4b ?c5b ?_)
 case c0b=>rw[List.length_map,a1.1.1]
 case c1b=>exact zun c3.1
 case c2b=>exact zue E
 case c3b=>unfold maxLen;omega
 case c4b=>omega
 case c5b=>exact B1.1.size
 intro v2 x2 p C _;have B2:=I (B1.1.grown C B1.1.size (λk hk=>zaM O1.1 k hk));have O2:=I p;have c4:=I (d4.1 _ B2.1);clear p C;go_wp2_with (at_builtin;refine wpList_append_own _ rfl _ _ 72 rfl w.heap.size 3 i0 (.int .i64 0) 1 8 underlying72 hi L M N rfl (by decide) _ _ _ rfl O2.1 ⟨rb,b3,none⟩ 11 rc (F.map (Value.int .i64)) rfl ?c0c ?c1c ?c2c ?c3c ?c4c ?c5c ?_)
 case c0c=>rw[List.length_map,a1.1.2]
 case c1c=>exact zun c4.1
 case c2c=>exact zue F
 case c3c=>unfold maxLen;omega
 case c4c=>omega
 case c5c=>exact B2.1.size
 intro v3 x3 q D _;have B3:=I (B2.1.grown D B2.1.size (λk hk=>zaM O2.1 k hk));have O3:=I q;clear q D;go_wp2_with fail;go_ret;exact⟨v3,rfl,by rw[hj.1];simpa using O3.1,B3.1⟩
def zuh(t:TTM)(c:ConM)(s:ByteArray)(x y:Duty):List Int:=zuv t c s x y (zaZ t c x) (zaZ t c y) true
end Go.Proofs.YtbhhejkolnigfaaGreat
