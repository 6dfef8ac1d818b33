/- a part of the proof -/
import Derived.Test.YtbhhejkolnigfaaGreatG4
set_option linter.unusedVariables false
set_option linter.unusedSimpArgs false
set_option maxRecDepth 100000
set_option maxHeartbeats 51200000
namespace Go.Proofs.YtbhhejkolnigfaaGreat
open Go.RowKit Go.Sort Go.Proofs.Tryz
def cmpX(c:ConM)(k:Int)(x:zH):zE:=cmpE (cvC c.consts c.consts.length) k x
def zaD(c:ConM)(l:List zcx)(k:Nat):List (ByteArray×zE):=(l.filter λr=>decide (r.scope=(k:Int))).map λr=>(r.name,cmpX c k r.ex)
def zau(c:ConM)(l:List zdw)(k:Nat):List zE:=(l.filter λr=>decide (r.scope=(k:Int))).map λr=>cmpX c k r.ex
def zaR(c:ConM)(k:Nat):List (ByteArray×zE):=zaD c c.rules k
def zaW(c:ConM)(k:Nat):List zE:=zau c c.costs k
def zaI(c:ConM):List zE:=c.credit.map (cmpX c 1)
def ze6(zs:List zaC)(s:ByteArray):Option zaC:=zs.reverse.find? λz=>decide (z.name=s)
def airN(l:List AirM)(s:ByteArray):Option AirM:=l.reverse.find? λa=>decide (a.code=s)
def ze7:zaC:=⟨ByteArray.empty,0, []⟩
def zp(t:TTM)(s:ByteArray):zaC:=match airN t.airs s with
 |some a=>(ze6 t.zones a.zone).getD ze7
 |none=>ze7
def ZVal(w:World)(v:Value)(z:zaC):Prop:=∃a cap,v=.agg #[.string z.name,z.off,.slice a z.sh.length cap]/\ShAt w a z.sh/\z.name.size<=140737488355328/\z.sh.length<=140737488355328
theorem ZVal.below{w w':World}{v:Value}{z:zaC}(h:ZVal w v z)(c:Bw w w'):ZVal w' v z:=by
 obtain⟨a,b,d,e,f⟩:=h;exact⟨a,b,d,e.below c,f⟩
def zgj(w:World)(b:Nat)(t:TTM):Prop:=∃M,zaT prog w b .string M/\∀s,(airN t.airs s=none->mget M (.string s)=none)/\(airN t.airs s≠none->∃v,mget M (.string s)=some v/\ZVal w v (zp t s))
theorem zgj.below{w w':World}{b:Nat}{t:TTM}(h:zgj w b t)(a:Bw w w'):zgj w' b t:=by
 obtain⟨M,d,c⟩:=h;refine⟨M,d.below a,λs=>⟨(c s).1,λhs=>?_⟩⟩;obtain⟨v,e,f⟩:=(c s).2 hs;exact⟨v,e,f.below a⟩
def ruAt(l:List (ByteArray×zE))(k:Nat):ByteArray×zE:=l.getD k (ByteArray.empty,.mk 0 0 [])
def noX:Nat->Prop:=λ_=>False
def zek(w:World)(a:zua)(l:List (ByteArray×zE)):Prop:=l= []\/∃b off,a=some ⟨b,off,none⟩/\b<w.heap.size/\∀i,i<l.length->w.cell? ⟨b,off+i*4,none⟩=some (.string (ruAt l i).1)/\(ruAt l i).1.size<=140737488355328/\zX noX w b (off+i*4+1) [(ruAt l i).2]
theorem zek.below{w w':World}{a:zua}{l:List (ByteArray×zE)}(h:zek w a l)(c:Bw w w'):zek w' a l:=by
 rcases h with h|⟨b,d,g,f,e⟩
 . exact .inl h
 exact .inr ⟨b,d,g,ztU f c.size,λi hi=>⟨zj (e i hi).1 f c,(e i hi).2.1,(e i hi).2.2.kept c⟩⟩
structure SetP where
 za:Option Addr
 zc:Nat
 aa:Option Addr
 ac:Nat
 fa:Option Addr
 fc:Nat
 con:ConP
 zb:Nat
 ra:Nat->Option Addr
 rc:Nat->Nat
 ka:Nat->Option Addr
 kc:Nat->Nat
 xa:Option Addr
 xc:Nat
 nights:Bool
def zpn(t:TTM)(c:ConM)(P:SetP):Array Value:=#[.slice P.za t.zones.length P.zc,.slice P.aa t.airs.length P.ac,.slice P.fa t.fls.length P.fc,.int .i64 c.report,.int .i64 c.release,.int .i64 c.connect,.int .i64 c.sit,.int .i64 c.layover,.int .i64 c.nf,.int .i64 c.nt,.slice P.con.ca c.consts.length P.con.cc,.slice P.con.ra c.rules.length P.con.rc,.slice P.con.ka c.costs.length P.con.kc,.slice P.con.xa c.credit.length P.con.xc,.slice P.con.la c.lims.length P.con.lc,.slice P.con.oa c.offs.length P.con.oc,.int .i64 c.guar,.map (some P.zb),.slice (P.ra 0) (zaR c 0).length (P.rc 0),.slice (P.ra 1) (zaR c 1).length (P.rc 1),.slice (P.ra 2) (zaR c 2).length (P.rc 2),.slice (P.ra 3) (zaR c 3).length (P.rc 3),.slice (P.ka 0) (zaW c 0).length (P.kc 0),.slice (P.ka 1) (zaW c 1).length (P.kc 1),.slice (P.ka 2) (zaW c 2).length (P.kc 2),.slice (P.ka 3) (zaW c 3).length (P.kc 3),.slice P.xa (zaI c).length P.xc,.bool P.nights]
structure zc6(w:World)(sb:Nat)(t:TTM)(c:ConM)(P:SetP):Prop where
 box:w.heap[sb]?=some (.cells (zpn t c P) 123 (0,0))
 okT:zY t=0
 okC:valT c=0
 fls:SlAt zam w P.fa t.fls
 zones:zgj w P.zb t
 rules:∀k,k<4->zek w (P.ra k) (zaR c k)
 costs:∀k,k<4->zax noX w (P.ka k) (zaW c k)
 credit:zax noX w P.xa (zaI c)
theorem zc6.lt{w:World}{a:Nat}{t:TTM}{c:ConM}{P:SetP}(h:zc6 w a t c P):a<w.heap.size:=ztW h.box
theorem zc6.below{w w':World}{b:Nat}{t:TTM}{c:ConM}{P:SetP}(h:zc6 w b t c P)(a:Bw w w'):zc6 w' b t c P where
 box:=(a.block _ h.lt).trans h.box
 okT:=h.okT
 okC:=h.okC
 fls:=h.fls.below a
 zones:=h.zones.below a
 rules:=λk hk=>(h.rules k hk).below a
 costs:=λk hk=>(h.costs k hk).below a
 credit:=h.credit.below a
theorem zcJ{t:TTM}(h:zY t=0):t.zones.length<=16/\t.airs.length<=64/\t.fls.length<=200:=by
 unfold zY at h
 by_cases a:16<t.zones.length\/64<t.airs.length\/200<t.fls.length
 . rw[if_pos a]at h;omega
 omega
theorem zjg{b:List ByteArray}:∀{l:List zaw} {p:Option zaw},valF b p l=0->∀f∈l,zbh b f=0
 |[],_,_,f,a=>by simp at a
 |g::l,p,h,f,a=>by
  rw[valF]at h;by_cases c:zbh b g≠0
  . rw[if_pos c]at h;exact absurd h c
  rw[if_neg c]at h;have d:zbh b g=0:=Classical.not_not.1 c;by_cases e:p.any (λq=>!zcd q g)=true
  . rw[if_pos e]at h;omega
  rw[if_neg e]at h;rcases List.mem_cons.1 a with rfl|a
  . exact d
  exact zjg h f a
theorem zoX{t:TTM}(h:zY t=0):∃ar,valF ar none t.fls=0:=by
 unfold zY at h
 by_cases c:16<t.zones.length\/64<t.airs.length\/200<t.fls.length
 . rw[if_pos c]at h;omega
 rw[if_neg c]at h;by_cases a:(valZ [] t.zones).1≠0
 . rw[if_pos a]at h;exact absurd h a
 rw[if_neg a]at h;by_cases b:(valA (valZ [] t.zones).2 [] t.airs).1≠0
 . rw[if_pos b]at h;exact absurd h b
 rw[if_neg b]at h;exact⟨_,h⟩
theorem zs7{l:List zaw}{k:Nat}(h:k<l.length):fAt l k∈l:=by
 unfold fAt;rw[zt0,zt1 h];exact List.getElem_mem h
theorem zas{t:TTM}(h:zY t=0){i:Nat}(g:i<t.fls.length):2880<=(fAt t.fls i).dep/\(fAt t.fls i).arr<=52593120/\(fAt t.fls i).dep<(fAt t.fls i).arr/\(fAt t.fls i).arr-(fAt t.fls i).dep<=1440:=by
 obtain⟨b,j⟩:=zoX h;have a:=zjg j _ (zs7 g);unfold zbh at a
 by_cases c:(zfo (fAt t.fls i).num.data.toList&&zb0 (fAt t.fls i).typ.data.toList)=false
 . rw[if_pos c]at a;omega
 rw[if_neg c]at a;by_cases d:(hasB b (fAt t.fls i).frm&&hasB b (fAt t.fls i).to)=false
 . rw[if_pos d]at a;omega
 rw[if_neg d]at a;by_cases e:((fAt t.fls i).frm.toList==(fAt t.fls i).to.toList)=true
 . rw[if_pos e]at a;omega
 rw[if_neg e]at a;by_cases f:zdC (fAt t.fls i)=false
 . rw[if_pos f]at a;omega
 have:zdC (fAt t.fls i)=true:=by simpa using f
 simpa[zdC] using this
theorem zdl{c:ConM}(h:valT c=0):(0<=c.report/\c.report<=1440)/\(0<=c.release/\c.release<=1440)/\(0<=c.connect/\c.connect<=1440)/\(c.connect<=c.sit/\c.sit<=1440)/\(0<=c.layover/\c.layover<=10080)/\(0<=c.nf/\c.nf<=1439)/\(0<=c.nt/\c.nt<=1439):=by
 have b:valG c=0:=by
  unfold valT at h
  by_cases a:valG c≠0
  . rw[if_pos a]at h;exact absurd h a
  exact Classical.not_not.1 a
 have d:zcy c=true:=by
  unfold valG at b
  by_cases a:zcy c=false
  . rw[if_pos a]at b;omega
  simpa using a
 simp only[zcy,zt5,zbz]at d;obtain⟨⟨⟨⟨⟨⟨⟨e,a⟩,f⟩,g⟩,i⟩,j⟩,k⟩,l⟩:=d;exact⟨e,a,f,g,i,j,k⟩
theorem zld(w:World)(b:Nat)(t:TTM)(c:ConM)(P:SetP)(a:zc6 w b t c P)(i:Int):Calls prog 109 #[.pointer (some ⟨b,0,none⟩),i] w λe w'=>e=.returned (.bool (decide (0<=i)&&decide (i<t.fls.length)))/\w=w':=by
 have d:=zC a.box;have f:=a.lt;clear a;by_cases h:0<=i
 . go_enter func109,ntmps109
   go_wp2_with fail;go_ret;exact⟨zz (by simp[h]),rfl⟩
 go_enter func109,ntmps109
 go_wp2_with fail;go_ret;exact⟨zz (by simp[h];omega),rfl⟩
theorem zaF(w:World)(g:Nat)(t:TTM)(c:ConM)(P:SetP)(f:zc6 w g t c P)(i:Nat)(j:i<t.fls.length)(b a:Nat)(d:P.fa=some ⟨b,a,none⟩):Calls prog 96 #[.pointer (some ⟨g,0,none⟩),i] w λe w'=>e=.returned (.pointer (some ⟨b,a+i*9,none⟩))/\w=w':=by
 have h:=zC f.box;have k:=f.lt;have l:=(zcJ f.okT).2.2;rw[d]at h;clear f d;go_enter func96,ntmps96
 go_wp2_with fail;go_ret;exact⟨rfl,rfl⟩
theorem zq1(w:World):(zeroValue 109).run prog w=.ok (.agg #[.string ByteArray.empty,.int .i64 0,.slice none 0 0]) w:=by kernel_rfl
def zul(t:TTM)(s:ByteArray):Bool:=(airN t.airs s).isSome
theorem zuJ{w:World}{b:Nat}{t:TTM}(h:zgj w b t)(s:ByteArray):∃a c,((Instr.lookup 117 (.map (some b)) (.string s) true).run prog w=.ok (.tuple #[.agg #[.string (zp t s).name,(zp t s).off,.slice a (zp t s).sh.length c],.bool (zul t s)]) w)/\((Instr.lookup 117 (.map (some b)) (.string s) false).run prog w=.ok (.agg #[.string (zp t s).name,(zp t s).off,.slice a (zp t s).sh.length c]) w)/\ShAt w a (zp t s).sh/\(zp t s).name.size<=140737488355328/\(zp t s).sh.length<=140737488355328:=by
 obtain⟨M,g,i⟩:=h;have e:=zcW underlying117 underlying9 g (key:=.string s) trivial (zq1 _);have f:=zdS underlying117 underlying9 g (key:=.string s) trivial (zq1 _);cases d:airN t.airs s with
 |none=>
  rw[(i s).1 d]at e f;have j:zp t s=ze7:=by simp[zp,d]
  rw[j];exact⟨none,0,by rw[e];simp[zul,d,ze7],by rw[f];simp[ze7],.inl rfl,by simp[ze7],by simp[ze7]⟩
 |some a=>
  obtain⟨v,k,l,c,rfl,m,n,o⟩:=(i s).2 (by rw[d];simp);rw[k]at e f;exact⟨l,c,by rw[e];simp[zul,d],by rw[f];simp,m,n,o⟩
theorem zut(w:World)(d:Nat)(t:TTM)(c:ConM)(P:SetP)(b:zc6 w d t c P)(s:ByteArray):Calls prog 61 #[.pointer (some ⟨d,0,none⟩),.string s] w λe w'=>e=.returned (.bool (zul t s))/\Bw w w':=by
 have f:=zrX b.box;have h:=b.lt;obtain⟨a,g,i,_,_⟩:=zuJ b.zones s;clear b;go_enter func61,ntmps61
 go_wp2_with fail;go_ret;exact⟨rfl,J _ _⟩
theorem zok{w w':World}{b:Nat}{t:TTM}(h:zgj w b t)(g:Bw w w')(s:ByteArray):∃a c,((Instr.lookup 117 (.map (some b)) (.string s) false).run prog w'=.ok (.agg #[.string (zp t s).name,(zp t s).off,.slice a (zp t s).sh.length c]) w')/\ShAt w a (zp t s).sh/\(zp t s).name.size<=140737488355328/\(zp t s).sh.length<=140737488355328:=by
 obtain⟨M,i,f⟩:=h;have d:=zdS underlying117 underlying9 (i.below g) (key:=.string s) trivial (zq1 _);cases e:airN t.airs s with
 |none=>
  rw[(f s).1 e]at d;have j:zp t s=ze7:=by simp[zp,e]
  rw[j];exact⟨none,0,by rw[d];simp[ze7],.inl rfl,by simp[ze7],by simp[ze7]⟩
 |some a=>
  obtain⟨v,k,l,c,rfl,m,n,o⟩:=(f s).2 (by rw[e];simp);rw[k]at d;exact⟨l,c,by rw[d];simp,m,n,o⟩
def zcZ(t:TTM)(c:ConM)(i j:Nat):Bool:=((fAt t.fls i).to.toList==(fAt t.fls j).frm.toList)&&decide (c.connect<=(fAt t.fls j).dep-(fAt t.fls i).arr)&&decide ((fAt t.fls j).dep-(fAt t.fls i).arr<=c.sit)
def flOk(t:TTM)(n:Int):Bool:=decide (0<=n)&&decide (n<t.fls.length)
theorem zbO{t:TTM}{n:Int}(h:flOk t n=true):∃m:Nat,n=m/\m<t.fls.length:=by
 simp only[flOk,zt5,decide_eq_true_eq]at h;obtain⟨m,rfl⟩:=Int.eq_ofNat_of_zero_le h.1;exact⟨m,rfl,by omega⟩
def unkE(t:TTM)(d:Duty)(k:Nat):Int:=if flOk t (tAt d k).1=true then 0 else 6
def chnE(t:TTM)(c:ConM)(d:Duty)(k:Nat):Int:=if zcZ t c (tAt d (k-1)).1.toNat (tAt d k).1.toNat=true then 0 else 14
def za6(t:TTM)(c:ConM)(d:Duty):Int:=if d.length<1\/6<d.length then 5 else if fstE (unkE t d) 0 (d.length-0)≠0 then fstE (unkE t d) 0 (d.length-0) else fstE (chnE t c d) 1 (d.length-1)
theorem zcN{f:Nat->Int}:∀(m k:Nat),fstE f k m=0->∀j,k<=j->j<k+m->f j=0
 |0,k,_,j,h1,h2=>by omega
 |m+1,k,h,j,h1,h2=>by
  rw[fstE]at h;by_cases a:f k≠0
  . rw[if_pos a]at h;exact absurd h a
  rw[if_neg a]at h;by_cases e:j=k
  . subst e;exact Classical.not_not.1 a
  exact zcN m (k+1) h j (by omega) (by omega)
theorem zcp{t:TTM}{c:ConM}{d:Duty}(h:za6 t c d=0):1<=d.length/\d.length<=6/\(∀k,k<d.length->flOk t (tAt d k).1=true)/\∀k,1<=k->k<d.length->zcZ t c (tAt d (k-1)).1.toNat (tAt d k).1.toNat=true:=by
 unfold za6 at h
 by_cases a:d.length<1\/6<d.length
 . rw[if_pos a]at h;omega
 rw[if_neg a]at h;by_cases b:fstE (unkE t d) 0 (d.length-0)≠0
 . rw[if_pos b]at h;exact absurd h b
 rw[if_neg b]at h;have f:=zcN _ _ (Classical.not_not.1 b);have g:=zcN _ _ h;refine⟨by omega,by omega,λk hk=>?_,λk a hk=>?_⟩
 . have:=f k (by omega) (by omega);unfold unkE at this
   by_cases e:flOk t (tAt d k).1=true
   . exact e
   rw[if_neg e]at this;omega
 have:=g k a (by omega);unfold chnE at this
 by_cases e:zcZ t c (tAt d (k-1)).1.toNat (tAt d k).1.toNat=true
 . exact e
 rw[if_neg e]at this;omega
theorem zlw(w:World)(n:Nat)(t:TTM)(c:ConM)(P:SetP)(o:zc6 w n t c P)(i j:Nat)(g:i<t.fls.length)(h:j<t.fls.length):Calls prog 110 #[.pointer (some ⟨n,0,none⟩),i,j] w λe w'=>e=.returned (.bool (zcZ t c i j))/\Bw w w':=by
 obtain⟨b,d,u,l,p⟩:=zaO o.fls (by omega);obtain⟨⟨B,C,q,D,Y,E,_,_,_⟩,_⟩:=p i g;obtain⟨⟨F,r,G,Z,H,K,_,_,_⟩,_⟩:=p j h;obtain⟨a0,a1,a2,a3⟩:=zas o.okT g;obtain⟨a4,a5,a6,a7⟩:=zas o.okT h;have L:=zbn o.box;have M:=zbm o.box;have m:=o.lt;have s:=I o;have f:=I u;clear o p u B C D E F G H K;have N:-52593120<=(fAt t.fls j).dep-(fAt t.fls i).arr:=by omega
 have Q:(fAt t.fls j).dep-(fAt t.fls i).arr<=52593120:=by omega
 cases S:((fAt t.fls i).to.toList==(fAt t.fls j).frm.toList)
 . have v:=I (show zcZ t c i j=false by simp[zcZ,S]);go_enter func110,ntmps110
   go_wp2_with fail;refine cb (zaF w n t c P s.1 i g b d f.1) ?_;go_wp2_with fail;refine cb (zaF w n t c P s.1 j h b d f.1) ?_;go_wp2_with fail;go_quiet (fail)
   have a:=below_drewN (ztT w.heap.size w) nq;have T:=zj q l a;have U:=zj r l a;have V:=zj L m a;have W:=zj M m a;have y:=ztU l a.size;have z:=ztU m a.size;have k:=I a;clear a;generalize w.drewN nq=X at*;go_wp2_with fail;go_quiet (fail)
   go_wp2_with fail;go_ret;exact⟨zz v.1.symm,ztS k.1 (below_drewN (ztT _ _) _)⟩
 by_cases A:c.connect<=(fAt t.fls j).dep-(fAt t.fls i).arr
 . have v:=I (show zcZ t c i j=decide ((fAt t.fls j).dep-(fAt t.fls i).arr<=c.sit) by simp[zcZ,S,A]);have R:decide (c.connect<=(fAt t.fls j).dep-(fAt t.fls i).arr)=true:=by simpa using A
   go_enter func110,ntmps110
   go_wp2_with fail;refine cb (zaF w n t c P s.1 i g b d f.1) ?_;go_wp2_with fail;refine cb (zaF w n t c P s.1 j h b d f.1) ?_;go_wp2_with fail;go_quiet (fail)
   have a:=below_drewN (ztT w.heap.size w) nq;have T:=zj q l a;have U:=zj r l a;have V:=zj L m a;have W:=zj M m a;have y:=ztU l a.size;have z:=ztU m a.size;have k:=I a;clear a;generalize w.drewN nq=X at*;go_wp2_with fail;go_quiet (fail)
   go_wp2_with fail;go_ret;exact⟨zz v.1.symm,ztS k.1 (below_drewN (ztT _ _) _)⟩
 have v:=I (show zcZ t c i j=false by simp[zcZ,A]);have R:decide (c.connect<=(fAt t.fls j).dep-(fAt t.fls i).arr)=false:=by simpa using A
 go_enter func110,ntmps110
 go_wp2_with fail;refine cb (zaF w n t c P s.1 i g b d f.1) ?_;go_wp2_with fail;refine cb (zaF w n t c P s.1 j h b d f.1) ?_;go_wp2_with fail;go_quiet (fail)
 have a:=below_drewN (ztT w.heap.size w) nq;have T:=zj q l a;have U:=zj r l a;have V:=zj L m a;have W:=zj M m a;have y:=ztU l a.size;have z:=ztU m a.size;have k:=I a;clear a;generalize w.drewN nq=X at*;go_wp2_with fail;go_quiet (fail)
 go_wp2_with fail;go_ret;exact⟨zz v.1.symm,ztS k.1 (below_drewN (ztT _ _) _)⟩
theorem zlx(w:World)(a:Nat)(t:TTM)(c:ConM)(P:SetP)(b:zc6 w a t c P)(i j:Int)(d:flOk t i=true)(f:flOk t j=true):Calls prog 110 #[.pointer (some ⟨a,0,none⟩),i,j] w λe w'=>e=.returned (.bool (zcZ t c i.toNat j.toNat))/\Bw w w':=by
 obtain⟨m,rfl,g⟩:=zbO d;obtain⟨n,rfl,h⟩:=zbO f;exact zlw w a t c P b m n g h
theorem zcB(w:World)(G:Nat)(t:TTM)(c:ConM)(P:SetP)(T:zc6 w G t c P)(d:Duty)(a:zua)(cap:Nat)(hl:d.length<=140737488355328)(U:SlAt za3 w a d):Calls prog 62 #[.pointer (some ⟨G,0,none⟩),.slice a d.length cap] w λe w'=>e=.returned (za6 t c d)/\Bw w w':=by
 have V:=I T;have HA:=I U;clear T U;by_cases g1:(d.length:Int)<1
 . have H:=I (show za6 t c d=5 from if_pos (.inl (by omega)));go_enter func62,ntmps62
   go_wp2_with fail;go_ret;exact⟨ze H.1.symm,ztT _ _⟩
 by_cases g2:(6:Int)<(d.length:Int)
 . have H:=I (show za6 t c d=5 from if_pos (.inr (by omega)));go_enter func62,ntmps62
   go_wp2_with fail;go_ret;exact⟨ze H.1.symm,ztT _ _⟩
 have K:=I (show za6 t c d=if fstE (unkE t d) 0 (d.length-0)≠0 then fstE (unkE t d) 0 (d.length-0) else fstE (chnE t c d) 1 (d.length-1) from if_neg (by omega));obtain⟨b,a0,rfl,y,z⟩:=zbF HA.1 (by omega);have q:=I z;clear z;go_enter func62,ntmps62
 go_wp2_with fail;go_loopw [18] (λi wr=>∃(k:Nat),k<=d.length/\i=.int .i64 k/\ztR (fstE (unkE t d) 0 (d.length-0)=fstE (unkE t d) k (d.length-k))/\ztR (∀j,j<k->flOk t (tAt d j).1=true)/\ztR (Bw w wr)) (λi _=>d.length-(intOf i).toNat)
 case atStart=>exact⟨0,ztX _,rfl,I rfl,I (λj hj=>by omega),I (ztT _ _)⟩
 obtain⟨k,W,rfl,g,o,f⟩:=hrel;by_cases l:k<d.length
 . obtain⟨L,M⟩:=(q.1.below y f.1) k l;have N:=ztU y f.1.size;have r:=I (ztS f.1 (J wr (oT (tAt d k).1 (tAt d k).2)));have s:=I (V.1.below r.1);go_wp2_with fail;refine cb (zld _ G t c P s.1 (tAt d k).1) ?_;have A:(decide (0<=(tAt d k).1)&&decide ((tAt d k).1<t.fls.length))=flOk t (tAt d k).1:=rfl;rw[A];clear A;cases p:flOk t (tAt d k).1
   . have u:unkE t d k=6:=by simp[unkE,p]
     have h:=I (g.1.trans (zbN l (by rw[u];decide)));have B:=I (show za6 t c d=6 from K.1.trans (by rw[h.1,u];rfl));clear u;go_wp2_with fail;go_ret;exact⟨ze B.1.symm,r.1⟩
   have h:=I (g.1.trans (zcS l (by simp[unkE,p])))
   have v:=I (show ∀j,j<k+1->flOk t (tAt d j).1=true from λj hj=>by
    by_cases ej:j=k
    . subst ej;exact p
    exact o.1 j (by omega))
   go_wp2_with fail;go_roundw
   case rel=>exact⟨k+1,by omega,by go_num,h,v,r⟩
   case measure=>simp[intOf];omega
 obtain rfl:k=d.length:=by omega
 have h:=I (g.1.trans (zb9 _ _));have C:=I (show za6 t c d=fstE (chnE t c d) 1 (d.length-1) from K.1.trans (by rw[h.1];rfl));clear g h W l K;go_wp2_with fail;obtain⟨Q,rfl⟩:∃Q:World,Q=wr:=⟨_,rfl⟩;go_loopw [7] (λi wr=>∃(k:Nat),1<=k/\k<=d.length/\i=.int .i64 k/\ztR (fstE (chnE t c d) 1 (d.length-1)=fstE (chnE t c d) k (d.length-k))/\ztR (Bw w wr)) (λi _=>d.length-(intOf i).toNat)
 case atStart=>exact⟨1,by omega,by omega,rfl,I rfl,f⟩
 clear f Q;obtain⟨k,a1,W,rfl,g,f⟩:=hrel;by_cases l:k<d.length
 . obtain⟨m,rfl⟩:∃m,k=m+1:=⟨k-1,by omega⟩;have L:=((q.1.below y f.1) m (by omega)).1;have M:=((q.1.below y f.1) (m+1) l).1;have N:=ztU y f.1.size;have X:=o.1 m (by omega);have Y:=o.1 (m+1) l;have s:=I (V.1.below f.1);have R:=I (λdd os=>ztZ (zlx (grow (redrawn wr dd) os) G t c P (s.1.below (below_regrown wr dd os)) (tAt d m).1 (tAt d (m+1)).1 X Y));have em:IntKind.i64.wrap (((m+1:Nat):Int)-1)=(m:Int):=by rw[IntKind.wrap_i64];omega
   have ec:((m+1:Nat):Int)=(m:Int)+1:=by omega
   clear X Y;go_wp2_with fail;have r0:=λdd os=>cell_regrown L dd os
   have r1:=λdd os=>cell_regrown M dd os
   refine wp_region_quiet_below (by kernel_rfl) (by kernel_rfl) ?_;repeat (first|go_big_quiet_step (first|(with_reducible exact R.1 _ _))|quiet_step (first|(with_reducible exact R.1 _ _)))
   refine wpQuiet_nil ?_;intro _ S;obtain⟨⟨Z,D⟩,E⟩:=S;subst E;have F:=I (ztS f.1 (below_regrown wr Z D));have n:zcZ t c (tAt d m).1.toNat (tAt d (m+1)).1.toNat=zcZ t c (tAt d (m+1-1)).1.toNat (tAt d (m+1)).1.toNat:=rfl;clear r0 r1 R L M em ec;generalize grow (redrawn wr Z) D=W2 at*;cases p:zcZ t c (tAt d m).1.toNat (tAt d (m+1)).1.toNat
   . have x:chnE t c d (m+1)=14:=by rw[p]at n;simp[chnE,<-n,p]
     have h:=I (g.1.trans (zbN l (by rw[x];decide)));have B:=I (show za6 t c d=14 from C.1.trans (by rw[h.1,x]));clear x n;go_wp2_with fail;go_ret;exact⟨ze B.1.symm,F.1⟩
   have h:=I (g.1.trans (zcS l (by rw[p]at n;simp[chnE,<-n,p])));clear n;go_wp2_with fail;go_roundw
   case rel=>exact⟨m+1+1,by omega,by omega,by go_num,h,F⟩
   case measure=>simp[intOf];omega
 obtain rfl:k=d.length:=by omega
 have B:=I (show za6 t c d=0 from C.1.trans (g.1.trans (zb9 _ _)));go_wp2_with fail;go_ret;exact⟨ze B.1.symm,f.1⟩
def fstN(d:Duty):Nat:=(tAt d 0).1.toNat
def lstN(d:Duty):Nat:=(tAt d (d.length-1)).1.toNat
theorem zeG(w:World){a b:Nat}(h:b≠a)(o c d:Nat)(f g:Value):((w.setCell ⟨a,c,none⟩ f).setCell ⟨a,d,none⟩ g).drew.cell? ⟨b,o,none⟩=w.cell? ⟨b,o,none⟩:=by
 have e:((w.setCell ⟨a,c,none⟩ f).setCell ⟨a,d,none⟩ g).drew.heap[b]?=w.heap[b]?:=by
  show((w.setCell ⟨a,c,none⟩ f).setCell ⟨a,d,none⟩ g).heap[b]?=w.heap[b]?
  rw[Below.heap_setCell _ _ _ _ h,Below.heap_setCell _ _ _ _ h]
 simp only[World.cell?,e]
theorem ziY(w:World){a b:Nat}(h:b≠a)(o c d:Nat)(e f:Value):((w.setCell ⟨a,c,none⟩ e).setCell ⟨a,d,none⟩ f).cell? ⟨b,o,none⟩=w.cell? ⟨b,o,none⟩:=zeG w h o c d e f
theorem zfN{t:TTM}{c:ConM}{d:Duty}(h:za6 t c d=0):((tAt d 0).1=(fstN d:Int))/\fstN d<t.fls.length/\((tAt d (d.length-1)).1=(lstN d:Int))/\lstN d<t.fls.length:=by
 obtain⟨i,j,e,_⟩:=zcp h;obtain⟨m,f,a⟩:=zbO (e 0 (by omega));obtain⟨n,g,b⟩:=zbO (e (d.length-1) (by omega));unfold fstN lstN
 rw[f,g];exact⟨rfl,a,rfl,b⟩
theorem from_any(w:World)(k:Nat)(t:TTM)(c:ConM)(P:SetP)(l:zc6 w k t c P)(d:Duty)(a:zua)(cap:Nat)(m:za6 t c d=0)(o:SlAt za3 w a d):Calls prog 64 #[.pointer (some ⟨k,0,none⟩),.slice a d.length cap] w λe w'=>e=.returned (.string (fAt t.fls (fstN d)).frm)/\w=w':=by
 obtain⟨y,z,q,_⟩:=zcp m;obtain⟨p,f,_,_⟩:=zfN m;obtain⟨b,r,rfl,A,g⟩:=zbF o (by omega);have s:=(g 0 (by omega)).1;rw[p,Nat.zero_mul,Nat.add_zero]at s;obtain⟨u,h,i,v,j⟩:=zaO l.fls (by omega);obtain⟨⟨B,C,D,E,F,G,_,_,_⟩,_⟩:=j (fstN d) f;have x:=I l;have n:=I i;clear l o g m p i j q;go_enter func64,ntmps64
 go_wp2_with fail;refine cb (zaF w k t c P x.1 (fstN d) f u h n.1) ?_;go_wp2_with fail;go_ret;exact⟨rfl,rfl⟩
theorem to_any(w:World)(k:Nat)(t:TTM)(c:ConM)(P:SetP)(l:zc6 w k t c P)(d:Duty)(a:zua)(cap:Nat)(m:za6 t c d=0)(q:SlAt za3 w a d):Calls prog 65 #[.pointer (some ⟨k,0,none⟩),.slice a d.length cap] w λe w'=>e=.returned (.string (fAt t.fls (lstN d)).to)/\w=w':=by
 obtain⟨B,C,u,_⟩:=zcp m;obtain⟨_,_,r,f⟩:=zfN m;obtain⟨b,v,rfl,D,g⟩:=zbF q (by omega);have o:=(g (d.length-1) (by omega)).1;rw[r]at o;obtain⟨x,h,i,y,j⟩:=zaO l.fls (by omega);obtain⟨⟨E,F,G,H,K,L,_,_,_⟩,_⟩:=j (lstN d) f;obtain⟨n,s⟩:∃n,d.length=n+1:=⟨d.length-1,by omega⟩;have z:n<=5:=by omega
 rw[s]at o ⊢;rw[Nat.add_sub_cancel]at o;have M:((n+1:Nat):Int)-1=(n:Int):=by omega
 have N:((n+1:Nat):Int)=(n:Int)+1:=by omega
 have A:=I l;have p:=I i;clear l q g m r i j u s;go_enter func65,ntmps65
 go_wp2_with fail;refine cb (zaF w k t c P A.1 (lstN d) f x h p.1) ?_;go_wp2_with fail;go_ret;exact⟨rfl,rfl⟩
theorem ziH(w:World)(d:Nat)(t:TTM)(c:ConM)(P:SetP)(f:zc6 w d t c P)(i j:Nat)(k:i<t.fls.length)(l:j<t.fls.length):Calls prog 111 #[.pointer (some ⟨d,0,none⟩),i,j] w λe w'=>e=.returned (.agg #[.int .i64 ((fAt t.fls i).dep-c.report),.int .i64 ((fAt t.fls j).arr+c.release)])/\Bw w w':=by
 obtain⟨b,a,o,z,m⟩:=zaO f.fls (by omega);obtain⟨⟨_,_,_,p,_,_,_,_,_⟩,_⟩:=m i k;obtain⟨⟨_,_,_,_,q,_,_,_,_⟩,_⟩:=m j l;obtain⟨R,S,T,U⟩:=zas f.okT k;obtain⟨V,X,Y,Z⟩:=zas f.okT l;obtain⟨⟨k1,k2⟩,⟨k3,k4⟩,_⟩:=zdl f.okC;have K:=zaj f.box;have L:=zbe f.box;have A:=f.lt;have g:=I (J w jE);have r:=I (f.below g.1);have s:=I o;clear f m o;go_enter func111,ntmps111
 go_wp2_with fail;have a0:w.heap.size<(w.alloc jE).heap.size:=by simp
 have B:=zj p z g.1;have C:=zj q z g.1;have D:=zj K A g.1;have E:=zj L A g.1;have a1:=ztU z g.1.size;have a2:=ztU A g.1.size;have n:=zh w jE;have z0:(w.alloc jE).cell? ⟨w.heap.size,0,none⟩=some (.int .i64 0):=zm n rfl;have z1:(w.alloc jE).cell? ⟨w.heap.size,1,none⟩=some (.int .i64 0):=zm n rfl;have f0:(w.alloc jE).frozen? ⟨w.heap.size,0,none⟩=false:=zQ n;have f1:(w.alloc jE).frozen? ⟨w.heap.size,1,none⟩=false:=zQ n;have HQ:=I n;have x:b≠w.heap.size:=by omega
 have y:d≠w.heap.size:=by omega
 have F:IntKind.i64.wrap ((fAt t.fls i).dep-c.report)=(fAt t.fls i).dep-c.report:=by rw[IntKind.wrap_i64];omega
 have G:IntKind.i64.wrap ((fAt t.fls j).arr+c.release)=(fAt t.fls j).arr+c.release:=by rw[IntKind.wrap_i64];omega
 clear n p q K L z A;generalize w.alloc jE=W at*;have M:=I (λ(W':World) (h:W'=W\/W'=W.drew)=>show Calls prog 96 #[.pointer (some ⟨d,0,none⟩),i] W' (λe w'=>e=.returned (.pointer (some ⟨b,a+i*9,none⟩))/\W'=w') from zaF W' d t c P (by rcases h with rfl|rfl;exact r.1;exact r.1.below ((ztT _ _).drew)) i k b a s.1);have N:=I (λ(W':World) (h:W'=W\/W'=W.drew)=>show Calls prog 96 #[.pointer (some ⟨d,0,none⟩),j] W' (λe w'=>e=.returned (.pointer (some ⟨b,a+j*9,none⟩))/\W'=w') from zaF W' d t c P (by rcases h with rfl|rfl;exact r.1;exact r.1.below ((ztT _ _).drew)) j l b a s.1);go_region_held3 (λw'=>w'.cell? ⟨b,a+i*9+3,none⟩=some (.int .i64 (fAt t.fls i).dep)/\w'.cell? ⟨b,a+j*9+4,none⟩=some (.int .i64 (fAt t.fls j).arr)/\w'.cell? ⟨d,3,none⟩=some (.int .i64 c.report)/\w'.cell? ⟨d,4,none⟩=some (.int .i64 c.release)) (first|exact⟨B,C,D,E⟩|exact⟨(zeG _ x _ _ _ _ _).trans B,(zeG _ x _ _ _ _ _).trans C,(zeG _ y _ _ _ _ _).trans D,(zeG _ y _ _ _ _ _).trans E⟩)
  (first|(go_at_call 96;with_reducible (refine(M.1 _ ?_).mono ?_);(first|exact .inl rfl|exact .inr rfl);rintro e w1 ⟨rfl,rfl⟩)|(go_at_call 96;with_reducible (refine(N.1 _ ?_).mono ?_);(first|exact .inl rfl|exact .inr rfl);rintro e w1 ⟨rfl,rfl⟩))
 have Q:=zg (i:=1) (u:=.int .i64 ((fAt t.fls j).arr+c.release)) (zg (i:=0) (u:=.int .i64 ((fAt t.fls i).dep-c.report)) HQ.1);have r0:((W.setCell ⟨w.heap.size,0,none⟩ (.int .i64 ((fAt t.fls i).dep-c.report))).setCell ⟨w.heap.size,1,none⟩ (.int .i64 ((fAt t.fls j).arr+c.release))).drew.cell? ⟨w.heap.size,0,none⟩=some (.int .i64 ((fAt t.fls i).dep-c.report)):=zm Q rfl;have r1:((W.setCell ⟨w.heap.size,0,none⟩ (.int .i64 ((fAt t.fls i).dep-c.report))).setCell ⟨w.heap.size,1,none⟩ (.int .i64 ((fAt t.fls j).arr+c.release))).drew.cell? ⟨w.heap.size,1,none⟩=some (.int .i64 ((fAt t.fls j).arr+c.release)):=zm Q rfl;have H:=I (show Bw w ((W.setCell ⟨w.heap.size,0,none⟩ (.int .i64 ((fAt t.fls i).dep-c.report))).setCell ⟨w.heap.size,1,none⟩ (.int .i64 ((fAt t.fls j).arr+c.release))).drew from((g.1.setCell (by simp) _).setCell (by simp) _).drew);clear Q M N r g F G z0 z1 f0 f1 B C D E;generalize ((W.setCell ⟨w.heap.size,0,none⟩ (.int .i64 ((fAt t.fls i).dep-c.report))).setCell ⟨w.heap.size,1,none⟩ (.int .i64 ((fAt t.fls j).arr+c.release))).drew=Wf at*;go_wp2_with fail;refine bodyPost_ret (v:=.agg #[.int .i64 ((fAt t.fls i).dep-c.report),.int .i64 ((fAt t.fls j).arr+c.release)]) (by simp[results,results111,go_sem,r0,r1]) rfl ?_;exact⟨rfl,H.1⟩
def zcK(t:TTM)(c:ConM)(d:Duty):Int×Int:=((fAt t.fls (fstN d)).dep-c.report,(fAt t.fls (lstN d)).arr+c.release)
theorem zll(w:World)(A:Nat)(t:TTM)(c:ConM)(P:SetP)(B:zc6 w A t c P)(d:Duty)(a:zua)(cap:Nat)(C:za6 t c d=0)(X:SlAt za3 w a d):Calls prog 69 #[.pointer (some ⟨A,0,none⟩),.slice a d.length cap] w λe w'=>e=.returned (.agg #[.int .i64 (zcK t c d).1,.int .i64 (zcK t c d).2])/\Bw w w':=by
 obtain⟨h1,h2,h3,_⟩:=zcp C;obtain⟨Y,D,o,q⟩:=zfN C;obtain⟨b,f,rfl,E,k⟩:=zbF X (by omega);have F:=(k 0 (by omega)).1;have s:=(k (d.length-1) (by omega)).1;rw[Y,Nat.zero_mul,Nat.add_zero]at F;rw[o]at s;obtain⟨n,Z⟩:∃n,d.length=n+1:=⟨d.length-1,by omega⟩;have a0:n<=5:=by omega
 rw[Z]at s ⊢;rw[Nat.add_sub_cancel]at s;have hs:=B.lt;have l:=I (J w jE);have HS:=I (B.below l.1);have G:∀r,zcK t c d=r->True:=λ_ _=>trivial
 clear B X k C Y o h3 Z h1 h2 G;go_enter func69,ntmps69
 go_wp2_with fail;have H:=zj F E l.1;have K:=zj s E l.1;have x:b≠w.heap.size:=by omega
 have q0:=zh w jE;have HQ:=I q0;have L:w.heap.size<(w.alloc jE).heap.size:=by simp
 have M:=ztU E l.1.size;have e1:((n+1:Nat):Int)-1=(n:Int):=by omega
 have e2:((n+1:Nat):Int)=(n:Int)+1:=by omega
 have e3:IntKind.i64.wrap ((n:Int)+1-1)=(n:Int):=by rw[IntKind.wrap_i64];omega
 have e4:((n:Int)+1-1)=(n:Int):=by omega
 have e5:IntKind.i64.wrap (n:Int)=(n:Int):=by rw[IntKind.wrap_i64];omega
 have e6:IntKind.i64.wrap (((n+1:Nat):Int)-1)=(n:Int):=by rw[IntKind.wrap_i64];omega
 have i0:(0:Int)<=(n:Int):=by omega
 have i1:(n:Int)<(n:Int)+1:=by omega
 have i2:n<n+1:=by omega
 clear q0 F s hs;generalize w.alloc jE=W at*;have SP:=I (ziH W.drew A t c P (HS.1.below ((ztT _ _).drew)) (fstN d) (lstN d) D q);have N:W.drew.cell? ⟨b,f,none⟩=some (.int .i64 (fstN d)):=H;have R:W.drew.cell? ⟨b,f+n*2,none⟩=some (.int .i64 (lstN d)):=K;have y:w.heap.size<W.drew.heap.size:=L;have h:b<W.drew.heap.size:=M;have S:=I (show W.drew.heap[w.heap.size]?=some jE from HQ.1);go_region_held3 (λw'=>w'.cell? ⟨b,f,none⟩=some (.int .i64 (fstN d))/\w'.cell? ⟨b,f+n*2,none⟩=some (.int .i64 (lstN d))) (first|exact⟨H,K⟩|exact⟨T,U⟩|exact⟨(ziY _ x _ _ _ _ _).trans T,(ziY _ x _ _ _ _ _).trans U⟩)
  (first|(go_at_call 111;refine ca (SP.1) λz g=>?_;have T:=(g.cell (p:=⟨b,f,none⟩) h).trans N;have U:=(g.cell (p:=⟨b,f+n*2,none⟩) h).trans R;have m:=(g.block _ y).trans S.1;have y0:=zm (j:=0) (v:=.int .i64 0) m rfl;have y1:=zm (j:=1) (v:=.int .i64 0) m rfl;have u0:=zQ (j:=0) m;have u1:=zQ (j:=1) m))
 have Q:=zg (i:=1) (u:=.int .i64 ((fAt t.fls (lstN d)).arr+c.release)) (zg (i:=0) (u:=.int .i64 ((fAt t.fls (fstN d)).dep-c.report)) m);have r0:((z.setCell ⟨w.heap.size,0,none⟩ (.int .i64 ((fAt t.fls (fstN d)).dep-c.report))).setCell ⟨w.heap.size,1,none⟩ (.int .i64 ((fAt t.fls (lstN d)).arr+c.release))).cell? ⟨w.heap.size,0,none⟩=some (.int .i64 ((fAt t.fls (fstN d)).dep-c.report)):=zm Q rfl;have r1:((z.setCell ⟨w.heap.size,0,none⟩ (.int .i64 ((fAt t.fls (fstN d)).dep-c.report))).setCell ⟨w.heap.size,1,none⟩ (.int .i64 ((fAt t.fls (lstN d)).arr+c.release))).cell? ⟨w.heap.size,1,none⟩=some (.int .i64 ((fAt t.fls (lstN d)).arr+c.release)):=zm Q rfl;have V:=I (show Bw w ((z.setCell ⟨w.heap.size,0,none⟩ (.int .i64 ((fAt t.fls (fstN d)).dep-c.report))).setCell ⟨w.heap.size,1,none⟩ (.int .i64 ((fAt t.fls (lstN d)).arr+c.release))) from((ztS (l.1.drew) g).setCell (by simp) _).setCell (by simp) _);clear Q SP HS l T U m y0 y1 u0 u1 g H K e1 e2 e3 e4;generalize ((z.setCell ⟨w.heap.size,0,none⟩ (.int .i64 ((fAt t.fls (fstN d)).dep-c.report))).setCell ⟨w.heap.size,1,none⟩ (.int .i64 ((fAt t.fls (lstN d)).arr+c.release)))=Wf at*;go_wp2_with fail;refine bodyPost_ret (v:=.agg #[.int .i64 ((fAt t.fls (fstN d)).dep-c.report),.int .i64 ((fAt t.fls (lstN d)).arr+c.release)]) (by simp[results,results69,go_sem,r0,r1]) rfl ?_;exact⟨rfl,V.1⟩
theorem zV(a b:ByteArray):(a.toList==b.toList)=decide (a=b):=by
 rw[Bool.eq_iff_iff,decide_eq_true_eq];constructor
 . intro h;have c:=zi6 h;rw[c,Lib.toList_data]
 rintro rfl;exact beq_self_eq_true _
def ztM(l:List ByteArray)(s:ByteArray)(w:World)(e:Ending)(w':World):Prop:=∃n:Int,e=.returned n/\((0<=n/\hasB l s=true)\/(n<0/\hasB l s=false))/\w=w'
theorem zs3{l:List ByteArray}{k:Nat}(h:k<l.length){s:ByteArray}(e:s=sAt l k):hasB l s=true:=by
 unfold hasB
 rw[List.any_eq_true];refine⟨sAt l k,?_,by simpa using e⟩;unfold sAt
 rw[zt0,zt1 h];exact List.getElem_mem h
theorem zqq{l:List ByteArray}{s:ByteArray}(h:∀i,i<l.length->s≠sAt l i):hasB l s=false:=by
 unfold hasB
 rw[List.any_eq_false];intro x b;obtain⟨i,a,rfl⟩:=List.mem_iff_getElem.1 b;have:=h i a;unfold sAt at this
 rw[zt0,zt1 a]at this;simpa using this
theorem zoq(l:List ByteArray)(s:ByteArray)(a:zua)(cap:Nat)(w:World)(g:zej w a l)(o:l.length<=1000000):Calls prog 143 #[.slice a l.length cap,.string s] w (ztM l s w):=by
 have j:=I g;clear g;go_enter func143,ntmps143
 go_wp2_with fail;go_loop [5,8] (λ_ i=>∃k:Nat,k<=l.length/\i=.int .i64 k/\ztR (∀i,i<k->s≠sAt l i)) (λ_ i=>l.length-(intOf i).toNat)
 case atStart=>exact⟨0,ztX _,rfl,I (λi hi=>absurd hi (Nat.not_lt_zero _))⟩
 obtain⟨k,p,rfl,h⟩:=hrel;by_cases c:k<l.length
 . obtain⟨b,m,rfl,q,d⟩:=j.1.cells (by omega);have r:=d k c;clear d;by_cases e:s=sAt l k
   . have n:(s.toList==(sAt l k).toList)=true:=by rw[zV];simpa using e
     have f:=I e;clear e;go_wp2_with fail;go_ret;exact⟨_,rfl,.inl ⟨by omega,zs3 c f.1⟩,rfl⟩
   have n:(s.toList==(sAt l k).toList)=false:=by rw[zV];simpa using e
   have f:=I e;clear e;go_wp2_with fail;go_round
   case rel=>exact⟨k+1,by omega,by go_num,I (λi hi=>if e:i=k then by subst e;exact f.1 else h.1 i (by omega))⟩
   case measure=>simp[intOf];omega
 obtain rfl:k=l.length:=by omega
 go_wp2_with fail;go_ret;exact⟨_,rfl,.inr ⟨by decide,zqq h.1⟩,rfl⟩
theorem zj2(l:List ByteArray)(s:ByteArray)(a:zua)(cap:Nat)(w:World)(f:zej w a l)(g:l.length<=1000000):Calls prog 97 #[.slice a l.length cap,.string s] w λe w'=>e=.returned (.bool (hasB l s))/\w=w':=by
 go_enter func97,ntmps97
 go_wp2_with fail;refine(zoq l s a cap w f g).mono ?_;rintro e i ⟨n,rfl,h,rfl⟩;rcases h with⟨c,b⟩|⟨c,b⟩
 . have d:=I b;clear b;go_wp2_with fail;go_ret;exact⟨zz (by rw[d.1] <;> simp[c]),rfl⟩
 have d:=I b;clear b;go_wp2_with fail;go_ret;exact⟨zz (by rw[d.1] <;> simp[c]),rfl⟩
def zuk(t:TTM)(c:ConM)(x y:Duty):Bool:=((fAt t.fls (lstN x)).to.toList==(fAt t.fls (fstN y)).frm.toList)&&decide (0<=(zcK t c y).1-(zcK t c x).2)&&decide ((zcK t c y).1-(zcK t c x).2<=c.layover)
theorem zuj{t:TTM}{c:ConM}{d:Duty}(e:zY t=0)(f:valT c=0)(g:za6 t c d=0):1440<=(zcK t c d).1/\(zcK t c d).1<=52593120/\2880<=(zcK t c d).2/\(zcK t c d).2<=52594560:=by
 obtain⟨_,h,_,i⟩:=zfN g;have a:=zas e h;have b:=zas e i;have r:=zdl f;simp only[zcK];omega
theorem zuz(w:World)(l:Nat)(t:TTM)(c:ConM)(P:SetP)(A:zc6 w l t c P)(x y:Duty)(p q:zua)(v z:Nat)(r:za6 t c x=0)(s:za6 t c y=0)(D:SlAt za3 w p x)(E:SlAt za3 w q y):Calls prog 63 #[.pointer (some ⟨l,0,none⟩),.slice p x.length v,.slice q y.length z] w λe w'=>e=.returned (.bool (zuk t c x y))/\Bw w w':=by
 obtain⟨T,U,V,W⟩:=zuj A.okT A.okC r;obtain⟨X,Y,Z,y4⟩:=zuj A.okT A.okC s;have B:=I A;have L:=I D;have C:=I E;clear A D E;have Hx:=I r;have Hy:=I s;have R:∀(a b:Int) (w:World),(Instr.field 144 (.agg #[a,b]) 0).run prog w=.ok (.int .i64 a) w:=λ_ _ _=>by kernel_rfl
 have S:∀(a b:Int) (w:World),(Instr.field 144 (.agg #[a,b]) 1).run prog w=.ok (.int .i64 b) w:=λ_ _ _=>by kernel_rfl
 cases M:((fAt t.fls (lstN x)).to.toList==(fAt t.fls (fstN y)).frm.toList)
 . have F:=I (show zuk t c x y=false by simp[zuk,M]);go_enter func63,ntmps63
   go_wp2_with fail;refine ca (zll w l t c P B.1 y q z s C.1) λG d=>?_;have h:=I (B.1.below d);have i:=I (L.1.below d);have j:=I (C.1.below d);have k:=I d;clear d;go_wp2_with fail;refine ca (zll G l t c P h.1 x p v r i.1) λu f=>?_;have g:=I (h.1.below f);have m:=I (i.1.below f);have n:=I (j.1.below f);have o:=I (ztS k.1 f);clear f h i j k;have N:=zaK g.1.box;have H:=g.1.lt;go_wp2_with fail;refine cb (to_any u l t c P g.1 x p v r m.1) ?_;go_wp2_with fail;refine cb (from_any u l t c P g.1 y q z s n.1) ?_;go_wp2_with fail;go_ret;exact⟨zz F.1.symm,o.1⟩
 by_cases Q:0<=(zcK t c y).1-(zcK t c x).2
 . have F:=I (show zuk t c x y=decide ((zcK t c y).1-(zcK t c x).2<=c.layover) by simp only[zuk,M,decide_eq_true Q];rfl);go_enter func63,ntmps63
   go_wp2_with fail;refine ca (zll w l t c P B.1 y q z s C.1) λG d=>?_;have h:=I (B.1.below d);have i:=I (L.1.below d);have j:=I (C.1.below d);have k:=I d;clear d;go_wp2_with fail;refine ca (zll G l t c P h.1 x p v r i.1) λu f=>?_;have g:=I (h.1.below f);have m:=I (i.1.below f);have n:=I (j.1.below f);have o:=I (ztS k.1 f);clear f h i j k;have N:=zaK g.1.box;have H:=g.1.lt;go_wp2_with fail;refine cb (to_any u l t c P g.1 x p v r m.1) ?_;go_wp2_with fail;refine cb (from_any u l t c P g.1 y q z s n.1) ?_;go_wp2_with fail;go_ret;exact⟨zz F.1.symm,o.1⟩
 have F:=I (show zuk t c x y=false by simp only[zuk,decide_eq_false Q];simp);go_enter func63,ntmps63
 go_wp2_with fail;refine ca (zll w l t c P B.1 y q z s C.1) λG d=>?_;have h:=I (B.1.below d);have i:=I (L.1.below d);have j:=I (C.1.below d);have k:=I d;clear d;go_wp2_with fail;refine ca (zll G l t c P h.1 x p v r i.1) λu f=>?_;have g:=I (h.1.below f);have m:=I (i.1.below f);have n:=I (j.1.below f);have o:=I (ztS k.1 f);clear f h i j k;have N:=zaK g.1.box;have H:=g.1.lt;go_wp2_with fail;refine cb (to_any u l t c P g.1 x p v r m.1) ?_;go_wp2_with fail;refine cb (from_any u l t c P g.1 y q z s n.1) ?_;go_wp2_with fail;go_ret;exact⟨zz F.1.symm,o.1⟩
def zub(t:TTM)(c:ConM)(x y:Duty):Int:=if za6 t c x≠0 then za6 t c x else if za6 t c y≠0 then za6 t c y else if zuk t c x y=false then 14 else 0
def zu3(d:Duty)(k:Nat):Nat->Bool
 |0=>false
 |m+1=>if(tAt d k).2=true then zu3 d (k+1) m else true
def zu6(d:Duty):Bool:=zu3 d 0 (d.length-0)
theorem zvG{d:Duty}{k:Nat}(h:k<d.length)(e:(tAt d k).2=true):zu3 d k (d.length-k)=zu3 d (k+1) (d.length-(k+1)):=by
 rw[show d.length-k=d.length-(k+1)+1 by omega,zu3,if_pos e]
theorem zvv{d:Duty}{k:Nat}(h:k<d.length)(e:(tAt d k).2=false):zu3 d k (d.length-k)=true:=by
 rw[show d.length-k=d.length-(k+1)+1 by omega,zu3,if_neg (by simp[e])]
theorem zvw(d:Duty):zu3 d d.length (d.length-d.length)=false:=by
 rw[Nat.sub_self];rfl
theorem zvu(d:Duty)(a:zua)(cap:Nat)(w:World)(u:d.length<=140737488355328)(n:SlAt za3 w a d):Calls prog 66 #[.slice a d.length cap] w λe w'=>e=.returned (.bool (zu6 d))/\Bw w w':=by
 have q:=I n;clear n;go_enter func66,ntmps66
 go_wp2_with fail;go_loopw [7] (λi wr=>∃(k:Nat),k<=d.length/\i=.int .i64 k/\ztR (zu6 d=zu3 d k (d.length-k))/\ztR (Bw w wr)) (λi _=>d.length-(intOf i).toNat)
 case atStart=>exact⟨0,ztX _,rfl,I rfl,I (ztT _ _)⟩
 obtain⟨k,r,rfl,c,f⟩:=hrel;by_cases h:k<d.length
 . obtain⟨b,s,rfl,o,l⟩:=zbF q.1 (by omega);obtain⟨v,p⟩:=(l.below o f.1) k h;clear l;have t:=ztU o f.1.size;have j:=I (ztS f.1 (J wr (oT (tAt d k).1 (tAt d k).2)));cases m:(tAt d k).2
   . have g:=I (c.1.trans (zvv h m));rw[m]at j p;go_wp2_with fail;go_ret;exact⟨zz g.1.symm,j.1⟩
   have g:=I (c.1.trans (zvG h m));rw[m]at j p;go_wp2_with fail;go_roundw
   case rel=>exact⟨k+1,by omega,by go_num,g,j⟩
   case measure=>simp[intOf];omega
 obtain rfl:k=d.length:=by omega
 have g:=I (c.1.trans (zvw d));clear c r h;go_wp2_with fail;go_ret;exact⟨zz g.1.symm,f.1⟩
def arAt(l:List (ByteArray×Int))(k:Nat):ByteArray×Int:=l.getD k (ByteArray.empty,0)
def zlN(w:World)(b off:Nat)(l:List (ByteArray×Int)):Prop:=∀i,i<l.length->w.cell? ⟨b,off+i*2,none⟩=some (.string (arAt l i).1)/\w.cell? ⟨b,off+i*2+1,none⟩=some (.int .i64 (arAt l i).2)
def zcs(w:World)(a:zua)(l:List (ByteArray×Int)):Prop:=l= []\/∃b off,a=some ⟨b,off,none⟩/\b<w.heap.size/\zlN w b off l
theorem zcs.below{w w':World}{a:zua}{l:List (ByteArray×Int)}(h:zcs w a l)(c:Bw w w'):zcs w' a l:=by
 rcases h with h|⟨b,d,h,e,f⟩
 . exact .inl h
 exact .inr ⟨b,d,h,ztU e c.size,λi hi=>⟨zj (f i hi).1 e c,zj (f i hi).2 e c⟩⟩
theorem zcs.cells{w:World}{a:zua}{l:List (ByteArray×Int)}(h:zcs w a l)(c:0<l.length):∃b off,a=some ⟨b,off,none⟩/\b<w.heap.size/\zlN w b off l:=by
 rcases h with rfl|h
 . simp at c
 exact h
theorem zka(l:List (ByteArray×Int))(k:Nat)(h:k<l.length):l.drop k=arAt l k::l.drop (k+1):=by
 rw[arAt,List.drop_eq_getElem_cons h,zt0,zt1 h];rfl
def ixF{X:Type}(nm:X->ByteArray)(s:ByteArray):Nat->List X->Int
 |_, []=>-1
 |k,x::l=>if nm x=s then(k:Int) else ixF nm s (k+1) l
theorem zmf{X:Type}(nm:X->ByteArray)(s:ByteArray):∀(k:Nat) (l:List X),(ixF nm s k l<0/\hasB (l.map nm) s=false)\/(∃j:Nat,j<l.length/\ixF nm s k l=(k+j:Nat)/\(l[j]?).map nm=some s/\∀i,i<j->(l[i]?).map nm≠some s)/\hasB (l.map nm) s=true
 |k, []=>.inl ⟨by simp[ixF],rfl⟩
 |k,x::l=>by
  rw[ixF];by_cases h:nm x=s
  . rw[if_pos h];exact .inr ⟨⟨0,by simp,by simp,by simp[h],λi hi=>by omega⟩,by simp[hasB,h]⟩
  rw[if_neg h];rcases zmf nm s (k+1) l with⟨b,a⟩|⟨⟨j,b,a,d,f⟩,c⟩
  . refine .inl ⟨b,?_⟩;simp only[hasB,List.map_cons,List.any_cons]at a ⊢;rw[a];simp;exact λe=>h e.symm
  refine .inr ⟨⟨j+1,by simp;omega,by rw[a];congr 1;omega,by simpa using d,λi hi=>?_⟩,?_⟩
  . cases i with
    |zero=>simpa using h
    |succ i=>simpa using f i (by omega)
  simp only[hasB,List.map_cons,List.any_cons]at c ⊢;rw[c];simp
theorem zhF{X:Type}(nm:X->ByteArray)(s:ByteArray)(k:Nat)(l:List X):decide (0<=ixF nm s k l)=hasB (l.map nm) s:=by
 rcases zmf nm s k l with⟨c,a⟩|⟨⟨j,_,a,_⟩,b⟩
 . rw[a];simp;omega
 rw[b,a];simp;omega
def zg4(l:List zaC)(s:ByteArray):Int:=ixF zaC.name s 0 l
theorem znA{l:List zaC}{s:ByteArray}{k:Nat}(h:k<l.length)(e:(zAt l k).name=s):ixF zaC.name s k (l.drop k)=k:=by rw[zko l k h,ixF,if_pos e]
theorem zoO{l:List zaC}{s:ByteArray}{k:Nat}(h:k<l.length)(e:(zAt l k).name≠s):ixF zaC.name s k (l.drop k)=ixF zaC.name s (k+1) (l.drop (k+1)):=by rw[zko l k h,ixF,if_neg e]
theorem zf1(l:List zaC)(s:ByteArray)(a:zua)(cap:Nat)(w:World)(h:SlAt zcg w a l)(p:l.length<=140737488355328):Calls prog 122 #[.slice a l.length cap,.string s] w λe w'=>e=.returned (zg4 l s)/\w=w':=by
 have m:=I h;clear h;go_enter func122,ntmps122
 go_wp2_with fail;go_loop [5] (λi=>∃k:Nat,k<=l.length/\i=.int .i64 k/\ztR (zg4 l s=ixF zaC.name s k (l.drop k))) (λi=>l.length-(intOf i).toNat)
 case atStart=>exact⟨0,ztX _,rfl,I rfl⟩
 obtain⟨k,q,rfl,g⟩:=hrel;by_cases c:k<l.length
 . obtain⟨b,n,rfl,r,d⟩:=zc7 m.1 (by omega);obtain⟨t,j,u,_⟩:=d k c;clear d;by_cases e:(zAt l k).name=s
   . have o:((zAt l k).name.toList==s.toList)=true:=by rw[zV];simpa using e
     have f:=I (g.1.trans (znA c e));clear e;go_wp2_with fail;go_ret;exact⟨ze f.1.symm,rfl⟩
   have o:((zAt l k).name.toList==s.toList)=false:=by rw[zV];simpa using e
   have f:=I (g.1.trans (zoO c e));clear e;go_wp2_with fail;go_round
   case rel=>exact⟨k+1,by omega,by go_num,f⟩
   case measure=>simp[intOf];omega
 obtain rfl:k=l.length:=by omega
 have f:=I (g.1.trans (by rw[zt6,ixF]));go_wp2_with fail;go_ret;exact⟨ze f.1.symm,rfl⟩
def ziu(l:List AirM)(s:ByteArray):Int:=ixF AirM.code s 0 l
theorem zq2{l:List AirM}{s:ByteArray}{k:Nat}(h:k<l.length)(e:(aAt l k).code=s):ixF AirM.code s k (l.drop k)=k:=by rw[zi0 l k h,ixF,if_pos e]
theorem zsg{l:List AirM}{s:ByteArray}{k:Nat}(h:k<l.length)(e:(aAt l k).code≠s):ixF AirM.code s k (l.drop k)=ixF AirM.code s (k+1) (l.drop (k+1)):=by rw[zi0 l k h,ixF,if_neg e]
theorem zbE(l:List AirM)(s:ByteArray)(a:zua)(cap:Nat)(w:World)(h:SlAt zei w a l)(o:l.length<=140737488355328):Calls prog 80 #[.slice a l.length cap,.string s] w λe w'=>e=.returned (ziu l s)/\w=w':=by
 have j:=I h;clear h;go_enter func80,ntmps80
 go_wp2_with fail;go_loop [5] (λi=>∃k:Nat,k<=l.length/\i=.int .i64 k/\ztR (ziu l s=ixF AirM.code s k (l.drop k))) (λi=>l.length-(intOf i).toNat)
 case atStart=>exact⟨0,ztX _,rfl,I rfl⟩
 obtain⟨k,p,rfl,g⟩:=hrel;by_cases c:k<l.length
 . obtain⟨b,m,rfl,q,d⟩:=zeJ j.1 (by omega);obtain⟨r,_⟩:=d k c;clear d;by_cases e:(aAt l k).code=s
   . have n:((aAt l k).code.toList==s.toList)=true:=by rw[zV];simpa using e
     have f:=I (g.1.trans (zq2 c e));clear e;go_wp2_with fail;go_ret;exact⟨ze f.1.symm,rfl⟩
   have n:((aAt l k).code.toList==s.toList)=false:=by rw[zV];simpa using e
   have f:=I (g.1.trans (zsg c e));clear e;go_wp2_with fail;go_round
   case rel=>exact⟨k+1,by omega,by go_num,f⟩
   case measure=>simp[intOf];omega
 obtain rfl:k=l.length:=by omega
 have f:=I (g.1.trans (by rw[zt6,ixF]));go_wp2_with fail;go_ret;exact⟨ze f.1.symm,rfl⟩
def pdE(t:TTM)(c:ConM)(L:List Duty)(k:Nat):Int:=za6 t c (dAt L k)
def pfE(t:TTM)(c:ConM)(L:List Duty)(k:Nat):Int:=if zuk t c (dAt L (k-1)) (dAt L k)=true then 0 else 14
def poF(L:List Duty)(k:Nat):Nat->Bool
 |0=>false
 |m+1=>if zu6 (dAt L k)=true then true else poF L (k+1) m
def poB(L:List Duty):Bool:=poF L 0 (L.length-0)
theorem zv2{L:List Duty}{k:Nat}(h:k<L.length)(e:zu6 (dAt L k)=false):poF L k (L.length-k)=poF L (k+1) (L.length-(k+1)):=by
 rw[show L.length-k=L.length-(k+1)+1 by omega,poF,if_neg (by simp[e])]
theorem zvQ{L:List Duty}{k:Nat}(h:k<L.length)(e:zu6 (dAt L k)=true):poF L k (L.length-k)=true:=by
 rw[show L.length-k=L.length-(k+1)+1 by omega,poF,if_pos e]
theorem zvR(L:List Duty):poF L L.length (L.length-L.length)=false:=by
 rw[Nat.sub_self];rfl
def zu0(t:TTM)(p:ByteArray)(L:List Duty):Bool:=((fAt t.fls (fstN (dAt L 0))).frm.toList==p.toList)&&((fAt t.fls (lstN (dAt L (L.length-1)))).to.toList==p.toList)
def zuO(t:TTM)(c:ConM)(p:ByteArray)(L:List Duty):Int:=if zul t p=false then 6 else if L.length<1\/6<L.length then 5 else if fstE (pdE t c L) 0 (L.length-0)≠0 then fstE (pdE t c L) 0 (L.length-0) else if fstE (pfE t c L) 1 (L.length-1)≠0 then 14 else if zu0 t p L=false then 14 else if poB L=true then 0 else 14
theorem zuP(w:World)(U:Nat)(t:TTM)(c:ConM)(P:SetP)(hS:zc6 w U t c P)(p:ByteArray)(L:List Duty)(a:zua)(cap:Nat)(hl:L.length<=140737488355328)(ha:SlAt dutyRT w a L):Calls prog 30 #[.pointer (some ⟨U,0,none⟩),.agg #[.string p,.slice a L.length cap]] w λe w'=>e=.returned (zuO t c p L)/\Bw w w':=by
 have HS:=I hS;have HA:=I ha;clear hS ha;have V:=I (J w (oP p a L.length cap));have a3:=I (HS.1.below V.1);go_enter func30,ntmps30
 go_wp2_with fail;refine ca (zut _ U t c P a3.1 p) λK E=>?_;have q1:K.cell? ⟨w.heap.size,1,none⟩=some (.slice a L.length cap):=(E.cell (p:=⟨w.heap.size,1,none⟩) (by rw[World.alloc];simp)).trans (by go_simp);have q0:K.cell? ⟨w.heap.size,0,none⟩=some (.string p):=(E.cell (p:=⟨w.heap.size,0,none⟩) (by rw[World.alloc];simp)).trans (by go_simp);have q:=I (ztS V.1 E);have W:w.heap.size<K.heap.size:=ztU (by rw[World.alloc];simp) E.size;clear a3 V E;cases s:zul t p
 . have u:=I (show zuO t c p L=6 by rw[zuO,if_pos s]);go_wp2_with fail;go_ret;exact⟨ze u.1.symm,q.1⟩
 have N:=I (show zuO t c p L=if L.length<1\/6<L.length then 5 else if fstE (pdE t c L) 0 (L.length-0)≠0 then fstE (pdE t c L) 0 (L.length-0) else if fstE (pfE t c L) 1 (L.length-1)≠0 then 14 else if zu0 t p L=false then 14 else if poB L=true then 0 else 14 by rw[zuO,if_neg (by simp[s])]);clear s;by_cases g1:(L.length:Int)<1
 . have u:=I (N.1.trans (if_pos (.inl (by omega))));go_wp2_with fail;go_ret;exact⟨ze u.1.symm,q.1⟩
 by_cases g2:(6:Int)<(L.length:Int)
 . have u:=I (N.1.trans (if_pos (.inr (by omega))));go_wp2_with fail;go_ret;exact⟨ze u.1.symm,q.1⟩
 have X:=I (N.1.trans (if_neg (by omega)));obtain⟨b,b0,rfl,A,a4⟩:=zuQ (HA.1.below q.1) (by omega);have Y:=I a4;have a5:=I (HS.1.below q.1);clear a4 N HA;go_wp2_with fail;obtain⟨wq,b1⟩:∃wq:World,wq=K:=⟨_,rfl⟩;go_loopw [29] (λi wr=>∃(k:Nat),k<=L.length/\i=.int .i64 k/\ztR (fstE (pdE t c L) 0 (L.length-0)=fstE (pdE t c L) k (L.length-k))/\ztR (∀j,j<k->za6 t c (dAt L j)=0)/\ztR (Bw K wr)) (λi _=>L.length-(intOf i).toNat)
 case atStart=>exact⟨0,ztX _,rfl,I rfl,I (λj hj=>by omega),I (ztT _ _)⟩
 obtain⟨k,hk,rfl,f,x,d⟩:=hrel;by_cases l:k<L.length
 . obtain⟨da,dc,M,dl,dw⟩:=(Y.1.below A d.1) k l;have Z:=ztU A d.1.size;have DW:=I dw;clear dw;go_wp2_with fail;refine ca (zcB _ U t c P (a5.1.below d.1) (dAt L k) da dc dl DW.1) λw2 F=>?_;have g:=I (ztS d.1 F);clear F;by_cases s:za6 t c (dAt L k)=0
   . have h:=I (f.1.trans (zcS l s))
     have a0:=I (show ∀j,j<k+1->za6 t c (dAt L j)=0 from λj hj=>by
      by_cases ej:j=k
      . subst ej;exact s
      exact x.1 j (by omega))
     rw[s];clear s;go_wp2_with fail;go_roundw
     case rel=>exact⟨k+1,by omega,by go_num,h,a0,g⟩
     case measure=>simp[intOf];omega
   have h:=f.1.trans (zbN l s);have u:=I (show zuO t c p L=za6 t c (dAt L k) from X.1.trans (by rw[if_pos (by rw[h];exact s),h];rfl));have b2:(za6 t c (dAt L k) !=0)=true:=by simpa using s
   clear h;go_wp2_with fail;go_ret;exact⟨ze u.1.symm,ztS q.1 g.1⟩
 obtain rfl:k=L.length:=by omega
 have h:=f.1.trans (zb9 _ _);have a1:=I (X.1.trans (if_neg (by rw[h];simp)));clear f h hk l X;go_wp2_with fail;have g:=I d.1;clear d;go_loopw [8] (λi wr=>∃(k:Nat),1<=k/\k<=L.length/\i=.int .i64 k/\ztR (fstE (pfE t c L) 1 (L.length-1)=fstE (pfE t c L) k (L.length-k))/\ztR (Bw K wr)) (λi _=>L.length-(intOf i).toNat)
 case atStart=>exact⟨1,by omega,by omega,rfl,I rfl,g⟩
 clear g;obtain⟨k,b3,hk,rfl,f,d⟩:=hrel;have y:=zj q1 W d.1;have G:=zj q0 W d.1;have a6:=ztU W d.1.size;have Z:=ztU A d.1.size;have Q:=I (a5.1.below d.1);have H:=I (Y.1.below A d.1);by_cases l:k<L.length
 . obtain⟨m,rfl⟩:∃m,k=m+1:=⟨k-1,by omega⟩;obtain⟨xa,xc,M,_,xw⟩:=H.1 m (by omega);obtain⟨ya,yc,c1,_,yw⟩:=H.1 (m+1) l;have F1:=x.1 m (by omega);have F2:=x.1 (m+1) l;have B:=I (λdd os=>ztZ (zuz (grow (redrawn wr dd) os) U t c P (Q.1.below (below_regrown wr dd os)) (dAt L m) (dAt L (m+1)) xa ya xc yc F1 F2 (xw.below (below_regrown wr dd os)) (yw.below (below_regrown wr dd os))));have em:IntKind.i64.wrap (((m+1:Nat):Int)-1)=(m:Int):=by rw[IntKind.wrap_i64];omega
   have ec:((m+1:Nat):Int)=(m:Int)+1:=by omega
   clear F1 F2 xw yw;go_wp2_with fail;have r0:=λdd os=>cell_regrown M dd os
   have r1:=λdd os=>cell_regrown c1 dd os
   have r2:=λdd os=>cell_regrown y dd os
   refine wp_region_quiet_below (by kernel_rfl) (by kernel_rfl) ?_;repeat (first|go_big_quiet_step (first|(with_reducible exact B.1 _ _))|quiet_step (first|(with_reducible exact B.1 _ _)))
   refine wpQuiet_nil ?_;intro _ z;obtain⟨⟨D,o⟩,r⟩:=z;subst r;have g:=I (ztS d.1 (below_regrown wr D o));have C:zuk t c (dAt L m) (dAt L (m+1))=zuk t c (dAt L (m+1-1)) (dAt L (m+1)):=rfl;clear r0 r1 r2 B M c1 em ec y G;generalize grow (redrawn wr D) o=W2 at*;cases s:zuk t c (dAt L m) (dAt L (m+1))
   . have a2:pfE t c L (m+1)=14:=by rw[s]at C;simp[pfE,<-C,s]
     have h:=f.1.trans (zbN l (by rw[a2];decide));have u:=I (show zuO t c p L=14 from a1.1.trans (if_pos (by rw[h,a2];decide)));clear a2 C h;go_wp2_with fail;go_ret;exact⟨ze u.1.symm,ztS q.1 g.1⟩
   have h:=I (f.1.trans (zcS l (by rw[s]at C;simp[pfE,<-C,s])));clear C;go_wp2_with fail;go_roundw
   case rel=>exact⟨m+1+1,by omega,by omega,by go_num,h,g⟩
   case measure=>simp[intOf];omega
 obtain rfl:k=L.length:=by omega
 have R:=I (a1.1.trans (if_neg (by rw[f.1,zb9];simp)));clear f hk l a1;obtain⟨xa,xc,M,_,xw⟩:=H.1 0 (by omega);rw[Nat.add_zero]at M;obtain⟨n,hn⟩:∃n,L.length=n+1:=⟨L.length-1,by omega⟩;obtain⟨ya,yc,c1,_,yw⟩:=H.1 n (by omega);have F1:=x.1 0 (by omega);have F2:=x.1 n (by omega);have B:=I (λdd os=>ztZ ((from_any (grow (redrawn wr dd) os) U t c P (Q.1.below (below_regrown wr dd os)) (dAt L 0) xa xc F1 (xw.below (below_regrown wr dd os))).mono (by rintro e w4 ⟨rfl,rfl⟩;exact⟨rfl,ztT _ _⟩)));have S:=I (λdd os=>ztZ ((to_any (grow (redrawn wr dd) os) U t c P (Q.1.below (below_regrown wr dd os)) (dAt L n) ya yc F2 (yw.below (below_regrown wr dd os))).mono (by rintro e w4 ⟨rfl,rfl⟩;exact⟨rfl,ztT _ _⟩)));have em:IntKind.i64.wrap ((L.length:Int)-1)=(n:Int):=by rw[IntKind.wrap_i64];omega
 have en:(n:Int)<(L.length:Int):=by omega
 have ez:(0:Int)<(L.length:Int):=by omega
 have a7:zu0 t p L=(((fAt t.fls (fstN (dAt L 0))).frm.toList==p.toList)&&((fAt t.fls (lstN (dAt L n))).to.toList==p.toList)):=by rw[zu0,show L.length-1=n by omega]
 have T:=I a7;have Hn:=I hn;clear F1 F2 xw yw a7 hn;go_wp2_with fail;have r0:=λdd os=>cell_regrown M dd os
 have r1:=λdd os=>cell_regrown c1 dd os
 have r2:=λdd os=>cell_regrown y dd os
 have r3:=λdd os=>cell_regrown G dd os
 have a9:∀(v:Bool),zu0 t p L=v->True:=λ_ _=>trivial
 cases s:((fAt t.fls (fstN (dAt L 0))).frm.toList==p.toList)
 . have hh:=I (show zu0 t p L=false by rw[T.1,s];rfl);refine wp_region_quiet_below (by kernel_rfl) (by kernel_rfl) ?_;repeat (first|go_big_quiet_step (first|(with_reducible exact B.1 _ _)|(with_reducible exact S.1 _ _))|quiet_step (first|(with_reducible exact B.1 _ _)|(with_reducible exact S.1 _ _)))
   refine wpQuiet_nil ?_;intro _ z;obtain⟨⟨D,o⟩,r⟩:=z;subst r;have g:=I (ztS d.1 (below_regrown wr D o));clear r0 r1 r2 r3 B S M c1 em en y G;generalize grow (redrawn wr D) o=W2 at*;have u:=I (R.1.trans (if_pos hh.1));go_wp2_with fail;go_ret;exact⟨ze u.1.symm,ztS q.1 g.1⟩
 cases e1:((fAt t.fls (lstN (dAt L n))).to.toList==p.toList)
 . have hh:=I (show zu0 t p L=false by rw[T.1,s,e1];rfl);refine wp_region_quiet_below (by kernel_rfl) (by kernel_rfl) ?_;repeat (first|go_big_quiet_step (first|(with_reducible exact B.1 _ _)|(with_reducible exact S.1 _ _))|quiet_step (first|(with_reducible exact B.1 _ _)|(with_reducible exact S.1 _ _)))
   refine wpQuiet_nil ?_;intro _ z;obtain⟨⟨D,o⟩,r⟩:=z;subst r;have g:=I (ztS d.1 (below_regrown wr D o));clear r0 r1 r2 r3 B S M c1 em en y G;generalize grow (redrawn wr D) o=W2 at*;have u:=I (R.1.trans (if_pos hh.1));go_wp2_with fail;go_ret;exact⟨ze u.1.symm,ztS q.1 g.1⟩
 have a8:=I (R.1.trans (if_neg (by rw[T.1,s,e1];decide)));refine wp_region_quiet_below (by kernel_rfl) (by kernel_rfl) ?_;repeat (first|go_big_quiet_step (first|(with_reducible exact B.1 _ _)|(with_reducible exact S.1 _ _))|quiet_step (first|(with_reducible exact B.1 _ _)|(with_reducible exact S.1 _ _)))
 refine wpQuiet_nil ?_;intro _ z;obtain⟨⟨D,o⟩,r⟩:=z;subst r;have g:=I (ztS d.1 (below_regrown wr D o));have b4:=zj y a6 (below_regrown wr D o);clear r0 r1 r2 r3 B S M c1 em en y G a9;generalize grow (redrawn wr D) o=W2 at*;clear d Z Q H a6 R T;go_wp2_with fail;go_loopw [88] (λi wr=>∃(k:Nat),k<=L.length/\i=.int .i64 k/\ztR (poB L=poF L k (L.length-k))/\ztR (Bw K wr)) (λi _=>L.length-(intOf i).toNat)
 case atStart=>exact⟨0,by omega,rfl,I rfl,g⟩
 clear g;obtain⟨k,hk,rfl,f,d⟩:=hrel;by_cases l:k<L.length
 . obtain⟨da,dc,M,dl,dw⟩:=(Y.1.below A d.1) k l;have Z:=ztU A d.1.size;have DW:=I dw;clear dw;go_wp2_with fail;refine ca (zvu (dAt L k) da dc _ dl DW.1) λw2 F=>?_;have g:=I (ztS d.1 F);clear F;cases e2:zu6 (dAt L k)
   . have h:=I (f.1.trans (zv2 l e2));go_wp2_with fail;go_roundw
     case rel=>exact⟨k+1,by omega,by go_num,h,g⟩
     case measure=>simp[intOf];omega
   have h:=f.1.trans (zvQ l e2);have u:=I (show zuO t c p L=0 from a8.1.trans (if_pos h));clear h;go_wp2_with fail;go_ret;exact⟨ze u.1.symm,ztS q.1 g.1⟩
 obtain rfl:k=L.length:=by omega
 have u:=I (show zuO t c p L=14 from a8.1.trans (if_neg (by rw[f.1,zvR];decide)));clear f hk l;go_wp2_with fail;go_ret;exact⟨ze u.1.symm,ztS q.1 d.1⟩

end Go.Proofs.YtbhhejkolnigfaaGreat
