/- a part of the proof -/
import Derived.Test.YtafdcbmgdfliiaaGreatN1
set_option linter.all false
set_option maxRecDepth 100000
set_option maxHeartbeats 3000000
namespace Go.Proofs.YtafdcbmgdfliiaaGreat
open Go.RowKit Go.Sort Go.Proofs.Tryz
variable {b lo:Nat}{w w':Wd}{u v:Value}{p:LI}{e:TypeId}{f:Nat×Nat}
def RwO{A:Type}(e e1:TypeId)(s:Nat)(n:A->Nat)(enc:A->LV)(lo:Nat)(w:Wd)(v:Value)(R:List A):Prop:=∃X:LV,X.length=R.length/\w.ownsRow lo e 1 v R.length X/\∀(i:Nat) (x:Value) (r:A),X[i]?=some x->R[i]?=some r->w.ownsRow lo e1 s x (n r) (enc r)
section
variable {A:Type} {e e1:TypeId} {s:Nat} {n:A→Nat} {enc:A→LV} {lo:Nat} {w w':Wd} {v:Value} {R:List A}
def RwO.nil:RwO e e1 s n enc lo w Ls []:=⟨[],rfl,World.ownsRow_nil ..,λi x r h=>by simp at h⟩
theorem RwO.call(S:RwO e e1 s n enc lo w v R)(a:Bw w w'):RwO e e1 s n enc lo w' v R:=by
 obtain⟨X,b,c,d⟩:=S;exact⟨X,b,c.kept (Sj (r:=none) a) (by grind),λi x r hx hr=>(d i x r hx hr).kept (Sj (r:=none) a) (by grind)⟩
theorem RwO.app(d:e1≠e){X:LV}{u:Value}{r:A}{g c:Nat}(a:X.length=R.length)(f:w.ownsRow lo e 1 v R.length X)(h:∀(i:Nat) (x:Value) (r:A),X[i]?=some x->R[i]?=some r->w.ownsRow lo e1 s x (n r) (enc r))(k:w.ownsRow lo e1 s u (n r) (enc r)) 
 (l:w'.ownsRow lo e 1 (Kx g 0 (R.length+1) c) (R.length+1) (X++ [u])) (m:(w.alloc (.cells [u].toArray e)).grownBy w' v.ownBlock):RwO e e1 s n enc lo w' (Kx g 0 (R.length+1) c) (R++ [r]):=by
 have K:∀x r,w.ownsRow lo e1 s x (n r) (enc r)->w'.ownsRow lo e1 s x (n r) (enc r):=λx r q=>(q.alloc _).kept m (zx5 q f d);refine⟨X++ [u],by simp[a],by simpa using l,λi x r' hx hr=>?_⟩;grind
end
def PatC(lo:Nat)(w:Wd)(v:Value)(p:LI):Prop:=w.ownsRow lo 3 1 v p.length (p.map (Value.int .i64))
abbrev PatR:=RwO (A:=LI) 22 3 1 (λp=>p.length) (λp=>p.map (Value.int .i64))
theorem PatR.app{lo':Nat}{a b:Wd}{R:List (LI)}{g c:Nat}{X:LV}(f:X.length=R.length)(h:a.ownsRow lo 22 1 v R.length X)(j:∀(i:Nat) (x:Value) (r:LI),X[i]?=some x->R[i]?=some r->w.ownsRow lo 3 1 x r.length (r.map (Value.int .i64)))(k:Bw w a)(e:a.ownsRow lo' 3 1 u p.length (p.map (Value.int .i64)))(d:lo<=lo') 
 (l:b.ownsRow lo 22 1 (Kx g 0 (R.length+1) c) (R.length+1) (X++ [u])) (m:(a.alloc (.cells [u].toArray 22)).grownBy b v.ownBlock):PatR lo b (Kx g 0 (R.length+1) c) (R++ [p]):=
 RwO.app (n:=λp=>p.length) (enc:=λp=>p.map (Value.int .i64)) (by decide) f h (λi x r hx hr=>World.ownsRow.kept (j i x r hx hr) (Sj (r:=none) k) (by grind)) ⟨e.1,e.2.imp_right λ⟨g,cap,cur,h4,h5,h6⟩=>⟨g,cap,cur,h4,Bf d h5,h6⟩⟩ l m
theorem PatC.call(h:PatC lo w v p)(a:Bw w w'):PatC lo w' v p:=World.ownsRow.kept h (Sj (r:=none) a) (by grind)
def zDb{q:LI}(h:∀i,i<q.length->w.cell? (aD b i)=some (Bn (Am q i))):∀j u,(q.map (Value.int .i64))[j]?=some u->w.cell? (Addr.add (aD b 0) j)=some u:=by
 intro j u a;rw[List.getElem?_map]at a;by_cases c:j<q.length;rw[Cz c]at a;have e:u=Bn (Am q j):=by
  simp at a;rw[<-a];simp[Am,c]
 rw[e,show(Addr.add (aD b 0) j)=(aD b j) by unfold Addr.add;split <;> simp_all];exact h j c;rw[List.getElem?_eq_none (by omega)]at a;cases a
def PatC.form(h:PatC lo w v p)(k:0<p.length):∃b c,v=Kx b 0 p.length c/\lo<=b/\b<w.heap.size/\∀i,i<p.length->w.cell? (aD b i)=some (Bn (Am p i)):=by
 obtain⟨a,d,rfl,l,m,e⟩:=Sw h;obtain⟨b,rfl,f,g,j⟩:=e.resolve_left (by omega);exact⟨b,d,rfl,f,g,λi hi=>j i _ (by simp[Am,hi])⟩
def patIA(a:b<w.heap.size)(h:∀i,i<p.length->w.cell? (aD b i)=some (Bn (Am p i))):zW w (some (aD b 0)) p:=.inr ⟨b,0,rfl,a,λi hi=>by rw[Nat.zero_add];exact h i hi⟩
section
variable (base:BA) (L:List gF) (K:List CP) (S E:LI) (la ka sa ea:Ae) (lc kc sc ec:Nat)
structure FuI(wB W:Wd)(nb pb:Nat)(p:LI)(v0 lv:Value)(w:Wd):Prop where
 bel:Below wB.heap.size wB w
 qn:w.heap[nb]?=some (.cells #[.string base,.slice la L.length lc,.slice ka K.length kc,.slice sa S.length sc,.slice ea E.length ec] 42)
 pl:pb<w.heap.size
 pat:∀i,i<p.length->w.cell? (aD pb i)=some (Bn (Am p i))
 pty:∃cs f,w.heap[pb]?=some (.cells cs 3 f)
 gr:GR W w v0 lv
variable {base L K S E la ka sa ea lc kc sc ec} in
theorem FuI.ext{j W w w':Wd}{m n:Nat}{p:LI}{v0 k c:Value}{R:List (LI)}(H:FuI base L K S E la ka sa ea lc kc sc ec j W m n p v0 k w)(t:PatR j.heap.size w k R)(h:GR w w' k c):FuI base L K S E la ka sa ea lc kc sc ec j W m n p v0 c w':=by
 obtain⟨X,_,r,_⟩:=t;have Q:∀b o,w.heap[b]?=some o->(∀a f,o≠Obj.cells a 22 f)->w'.heap[b]?=some o:=λb o q hne=>(h.1.block b (Ag q) λe=>by
  rcases r.2 with⟨l,_⟩|⟨g,u,a,l,_,v,_⟩
  . rw[l]at e;simp[Value.ownBlock]at e
  rw[l]at e;obtain rfl:b=g:=by simpa[Value.ownBlock] using e
  rw[v]at q;exact hne _ _ (Option.some.inj q).symm).trans q
 obtain⟨x,f,s⟩:=H.pty;have d:=Q _ _ s λa f e=>by simp at e
 refine⟨H.bel.grown h.1 H.bel.size λb hb=>(r.lt b hb).1,Q _ _ H.qn λa f e=>by simp at e,As H.pl h.1.size,λi hi=>?_,⟨x,f,d⟩,H.gr.trans h⟩;rw[World.cell?_of_block (d.trans s.symm)];exact H.pat i hi
variable {base L K S E la ka sa ea lc kc sc ec} in
def FuI.call{b W w w':Wd}{c d:Nat}{p:LI}{v0 a:Value}{R:List (LI)}(H:FuI base L K S E la ka sa ea lc kc sc ec b W c d p v0 a w)(e:PatR b.heap.size w a R)(f:Bw w w'):FuI base L K S E la ka sa ea lc kc sc ec b W c d p v0 a w':=H.ext e (GR.of a f)
def FuR(lo:Nat)(v:Value)(R:List (LI))(w:Wd)(e:Ending)(w':Wd):Prop:=∃v':Value,e=.returned v'/\PatR lo w' v' R/\GR w w' v v'
def FuS(wB:Wd)(d:Nat):Prop:=∀(p:LI) (pv:Value) (R:List (LI)) (v:Value) (w:Wd),1<=p.length->p.length+d=6->RngP L p->(R++GS K (zC0 L K S E) d p).length<=5000000000000->Below wB.heap.size wB w->PatC wB.heap.size w pv p->PatR wB.heap.size w v R->
 Calls prog 36 #[.agg #[.string base,.slice la L.length lc,.slice ka K.length kc,.slice sa S.length sc,.slice ea E.length ec],v,pv] w (FuR wB.heap.size v (R++GS K (zC0 L K S E) d p) w)
theorem zEf{K:List CP}{a:Int}{f:Int->List (LI)}(i:Nat):(RS (K.take i) a f).length<=(RS K a f).length:=by
 grind[RS,List.take_append_drop]
theorem zDU{K:List CP}{a:Int}{f:Int->List (LI)}{i:Nat}(h:i<K.length):RS (K.take (i+1)) a f=RS (K.take i) a f++if(PB K i).i==a then f (PB K i).k else []:=by
 rw[tS h,RS,List.flatMap_append,<-RS];grind[PB]
theorem zDd (wB : World) (hA : NetA L K S E la ka sa ea wB) (hK : ∀ l ∈ K, 0 ≤ l.k ∧ l.k < (L.length : Int)) (d : Nat) (IH : Af (∀ d', d = d' + 1 → FuS base L K S E la ka sa ea lc kc sc ec wB d')) : FuS base L K S E la ka sa ea lc kc sc ec wB d := by
  intro p pv R v w hp1 hpd hr hlen hBw hP hL
  obtain ⟨pb, pc, rfl, hpo, hpb, hpc⟩ := hP.form hp1
  obtain ⟨va, vc, rfl⟩ : ∃ va vc, v = .slice va R.length vc := by
    obtain ⟨X, _, h, _⟩ := hL
    exact Js h
  have HA := I hA
  have HKr := I hK
  have HR := I hr
  have HLN := I hlen
  have HPD := I hpd
  clear hA hK hr hlen hpd
  go_enter Tryz.func36, Tryz.ntmps36
  have hB := J w (Obj.cells #[.string base, .slice la L.length lc, .slice ka K.length kc, .slice sa S.length sc, .slice ea E.length ec] 42)
  have hQ := zh w (Obj.cells #[.string base, .slice la L.length lc, .slice ka K.length kc, .slice sa S.length sc, .slice ea E.length ec] 42)
  obtain ⟨nb, hnb⟩ : ∃ nb, nb = w.heap.size := ⟨_, rfl⟩
  rw [← hnb] at hQ
  have HL1 := I (RwO.call hL hB)
  have HPC1 := I (fun i hi => zD (hpc i hi) hpb hB)
  have HP1 := I (hP.call hB)
  have HB1 := I (Below.then hBw hB)
  have QN := I hQ
  have HB0 := I hB
  have hpb1 := Nat.lt_of_lt_of_le hpb hB.size
  go_upto_region 1 with fail
  simp only [← hnb]
  clear hB hQ hnb hpb hpc hP hL hBw
  generalize w.alloc (Obj.cells #[.string base, .slice la L.length lc, .slice ka K.length kc, .slice sa S.length sc, .slice ea E.length ec] 42) = W at *
  have H1 := I (show FuI base L K S E la ka sa ea lc kc sc ec wB W nb pb p (.slice va R.length vc) (.slice va R.length vc) W from ⟨HB1.1, QN.1, hpb1, HPC1.1, by
    obtain ⟨-, h⟩ := HP1.1
    rcases h with ⟨h, _⟩ | ⟨g, cap, cur, h, _, hg, _⟩
    · simp at h
    · simp at h; obtain ⟨rfl, -⟩ := h; exact ⟨_, _, hg⟩, GR.refl _ _⟩)
  have n0 := zm (j := 0) QN.1 rfl
  have n1 := zm (j := 1) QN.1 rfl
  have n2 := zm (j := 2) QN.1 rfl
  have n3 := zm (j := 3) QN.1 rfl
  have n4 := zm (j := 4) QN.1 rfl
  have nl := lt_of_block QN.1
  have IP := I (zDE base L K S E la ka sa ea lc kc sc ec p ⟨hp1, by have := HPD.1; omega⟩ HR.1 (some ⟨pb, 0, none⟩) pc _ rfl W (HA.1.below HB1.1) (patIA hpb1 HPC1.1))
  clear HPC1 HP1 HB1 QN
  go_wp2_with fail
  refine IP.1.mono ?_
  rintro e w1 ⟨rfl, B1⟩
  have H2 := I (H1.1.call HL1.1 B1)
  have HL2 := I (HL1.1.call B1)
  clear B1 H1 HL1 IP n0 n1 n2 n3 n4 nl hpb1
  obtain ⟨bp, hbp⟩ : ∃ b, b = zC0 L K S E p := ⟨_, rfl⟩
  rw [← hbp]
  obtain ⟨F0, hF0⟩ : ∃ F, F = if bp = true then [p] else [] := ⟨_, rfl⟩
  have HF0 := I hF0
  have HBP := I hbp
  have HBQ := I hbp
  obtain ⟨i0, hi0, hz0, hz1, hz2⟩ := info_parts cF.info
  have hR1 : R.length + F0.length ≤ 5000000000000 := by
    have := HLN.1
    cases d with
    | zero => rw [GS, ← hbp, ← hF0, List.length_append] at this; exact this
    | succ d => rw [GS, ← hbp, ← hF0, List.length_append, List.length_append] at this; omega
  clear hbp hF0
  go_upto_if 11 with (fail)
  go_cut [1] (fun lv wx => Af (PatR wB.heap.size wx lv (R ++ F0)) ∧ Af (FuI base L K S E la ka sa ea lc kc sc ec wB W nb pb p (.slice va R.length vc) lv wx))
  case first =>
    cases bp
    · have HE := I (show PatR wB.heap.size w1 (.slice va R.length vc) (R ++ F0) by rw [HF0.1]; simpa using HL2.1)
      go_wp2_with fail
      go_meet
      case rel => exact ⟨HE, H2⟩
    · obtain ⟨X, l1, l2, l3⟩ := HL2.1
      have HX3 := I l3
      have HX1 := I l1
      have hp6 := HPD.1
      have hws := H2.1.bel.size
      rw [if_pos rfl] at HF0
      have hR2 : R.length + 1 ≤ 5000000000000 := by rw [HF0.1] at hR1; exact hR1
      clear l1 l3 hR1
      go_wp2_with (first | (at_builtin; refine wpList_append_lies _ rfl _ _ 22 rfl w1.heap.size 3 i0 (.int .i64 0) 1 8 cF.ht hi0 hz0 hz1 hz2 rfl (by decide) (.slice none 0 0) 0 [] rfl (World.ownsRow_nil ..) ⟨pb, 0, none⟩ p.length pc (p.map (Value.int .i64)) rfl (by simp) (zDb H2.1.pat) (by intro u hu; obtain ⟨x, -, rfl⟩ := List.mem_map.1 hu; rfl) (by omega) (by unfold maxLen; omega) (by omega) (Nat.le_refl _) w1.heap.size rfl ?_; intro g1 c1 w2 o1 o2 _ _; have B2 := I (rW o2 rfl); have P2 := I (show PatC w1.heap.size w2 _ p from by simpa [PatC] using o1); clear o1 o2; have l2' := I (World.ownsRow.kept l2 (Sj (r := none) B2.1) (by cases (Value.slice va R.length vc).ownBlock <;> simp)); clear l2) | (at_builtin; refine Zw Xi (Nat.le_trans hws B2.1.size) l2'.1 [.slice (some ⟨g1, 0, none⟩) p.length c1] rfl rfl rfl rfl rfl (by simp [Value.oneCell']) (by omega) ?_; intro g2 c2 w3 q1 q2 q3; have H3 := I (show FuI base L K S E la ka sa ea lc kc sc ec wB W nb pb p (.slice va R.length vc) (.slice (some ⟨g2, 0, none⟩) (R.length + 1) c2) w3 from FuI.ext (FuI.call H2.1 HL2.1 B2.1) (RwO.call HL2.1 B2.1) (GR.app q2 q3)); have L3 := I (show PatR wB.heap.size w3 (.slice (some ⟨g2, 0, none⟩) (R.length + 1) c2) (R ++ [p]) from PatR.app HX1.1 l2'.1 HX3.1 B2.1 P2.1 hws q1 q2); clear q1 q2 q3))
      go_meet
      case rel => exact ⟨by rw [HF0.1]; exact L3, H3⟩
  case rest =>
    obtain ⟨HL3, H3⟩ := hcut
    obtain ⟨w3, hw3⟩ : ∃ v : World, v = wc := ⟨_, rfl⟩
    subst hw3
    clear H2 HL2 HBP hR1
    obtain ⟨a3, c3, hu1⟩ : ∃ a c, u1 = .slice a (R ++ F0).length c := by
      obtain ⟨X, _, h, _⟩ := HL3.1
      exact Js h
    subst hu1
    cases d with
    | zero =>
      have hd6 : ((p.length : Int) == 6) = true := by have := HPD.1; simp; omega
      have HE := I (show FuR wB.heap.size (.slice va R.length vc) (R ++ GS K (zC0 L K S E) 0 p) w (.returned (.slice a3 (R ++ F0).length c3)) w3 from ⟨_, rfl, by rw [GS, ← HBQ.1, ← HF0.1]; exact HL3.1, (GR.of _ HB0.1).trans H3.1.gr⟩)
      clear HF0
      go_wp2_with fail
      go_ret
      exact HE.1
    | succ d =>
      have hd6 : ((p.length : Int) == 6) = false := by have := HPD.1; simp; omega
      have hp6 : p.length ≤ 6 := by have := HPD.1; omega
      have hKl : K.length ≤ 140737488355328 := HA.1.bd.2.1
      obtain ⟨m, hm⟩ : ∃ m, p.length = m + 1 := ⟨p.length - 1, by omega⟩
      have ek : IntKind.i64.wrap ((p.length : Int) - 1) = (m : Int) := by rw [IntKind.wrap_i64]; omega
      have hml : (m : Int) < (p.length : Int) := by omega
      have hml2 : m < p.length := by omega
      have hpl0 := H3.1.pl
      obtain ⟨q, hq⟩ : ∃ q, q = lstI p := ⟨_, rfl⟩
      have c0 : w3.cell? ⟨pb, m, none⟩ = some (.int .i64 q) := by
        have := H3.1.pat m hml2
        rw [hq, lstI, show p.length - 1 = m by omega]; exact this
      have HQ := I hq
      clear hm hq
      go_wp2_with fail
      clear ek hml hml2 c0 hpl0
      go_loopw [1, 8] (fun lv iv wr => ∃ i : Nat, i ≤ K.length ∧ iv = .int .i64 i ∧ Af (PatR wB.heap.size wr lv (R ++ F0 ++ RS (K.take i) q fun k => GS K (zC0 L K S E) d (p ++ [k]))) ∧ Af (FuI base L K S E la ka sa ea lc kc sc ec wB W nb pb p (.slice va R.length vc) lv wr)) (fun _ iv _ => K.length - (intOf iv).toNat)
      case atStart => exact ⟨0, Nat.zero_le _, rfl, I (by simpa [RS] using HL3.1), H3⟩
      case round =>
        obtain ⟨i, hi, rfl, HLi, Hi⟩ := hrel
        clear HL3 H3
        obtain ⟨wk, hwk⟩ : ∃ v : World, v = wr := ⟨_, rfl⟩
        subst hwk
        obtain ⟨Ri, hRi⟩ : ∃ Ri, Ri = R ++ F0 ++ RS (K.take i) q fun k => GS K (zC0 L K S E) d (p ++ [k]) := ⟨_, rfl⟩
        rw [← hRi] at HLi
        have HRI := I hRi
        clear hRi
        obtain ⟨a4, c4, hu4⟩ : ∃ a c, u1 = .slice a Ri.length c := by
          obtain ⟨X, _, h, _⟩ := HLi.1
          exact Js h
        subst hu4
        have n0 := zm (j := 0) Hi.1.qn rfl
        have n1 := zm (j := 1) Hi.1.qn rfl
        have n2 := zm (j := 2) Hi.1.qn rfl
        have n3 := zm (j := 3) Hi.1.qn rfl
        have n4 := zm (j := 4) Hi.1.qn rfl
        have nl := lt_of_block Hi.1.qn
        by_cases hik : i < K.length
        rotate_left
        · have HE := I (show FuR wB.heap.size (.slice va R.length vc) (R ++ GS K (zC0 L K S E) (d + 1) p) w (.returned (.slice a4 Ri.length c4)) wk from ⟨_, rfl, by
            have e := HRI.1
            rw [List.take_of_length_le (by omega)] at e
            rw [GS, ← HBQ.1, ← HF0.1, ← HQ.1, ← List.append_assoc, ← e]; exact HLi.1, (GR.of _ HB0.1).trans Hi.1.gr⟩)
          clear HF0 HRI
          have hik' : ¬ (i : Int) < (K.length : Int) := by omega
          go_wp2_with fail
          go_ret
          exact HE.1
        have hik' : (i : Int) < (K.length : Int) := by omega
        have HN := I (zDU (a := q) (f := fun k => GS K (zC0 L K S E) d (p ++ [k])) hik)
        have HAw := I (HA.1.below Hi.1.bel)
        obtain ⟨gk, gko, hka, hgk, kcs⟩ := HAw.1.lk.cells (by omega)
        rw [hka] at n2
        obtain ⟨k0, k1, -⟩ := kcs i hik
        clear hka
        clear kcs
        go_upto_if 41 with (fail)
        by_cases e0 : (PB K i).i = q
        rotate_left
        · have e1 : ((PB K i).i == q) = false := by simpa using e0
          have HL5 := I (show PatR wB.heap.size wk (.slice a4 Ri.length c4) (R ++ F0 ++ RS (K.take (i + 1)) q fun k => GS K (zC0 L K S E) d (p ++ [k])) by
            rw [HN.1, if_neg (by rw [e1]; decide), List.append_nil, ← HRI.1]; exact HLi.1)
          clear e0 HRI HN
          go_wp2_with fail
          go_roundw
          case rel => exact ⟨i + 1, by omega, by go_num, HL5, Hi⟩
          case measure => simp [intOf]; omega
        have e1 : ((PB K i).i == q) = true := by simpa using e0
        have HK2 := I (show R ++ F0 ++ (RS (K.take (i + 1)) q fun k => GS K (zC0 L K S E) d (p ++ [k])) = Ri ++ GS K (zC0 L K S E) d (p ++ [(PB K i).k]) by rw [HN.1, if_pos e1, ← List.append_assoc, ← HRI.1])
        have hb2 : (Ri ++ GS K (zC0 L K S E) d (p ++ [(PB K i).k])).length ≤ 5000000000000 := by
          have h1 := HLN.1
          have h2 := zEf (K := K) (a := q) (f := fun k => GS K (zC0 L K S E) d (p ++ [k])) (i + 1)
          rw [← HK2.1]
          rw [GS, ← HBQ.1, ← HF0.1, ← HQ.1] at h1
          simp only [List.length_append] at h1 ⊢
          omega
        have HB2 := I hb2
        have HKI := I (HKr.1 (PB K i) (by rw [PB, List.getD_eq_getElem?_getD, List.getElem?_eq_getElem hik]; exact List.getElem_mem hik))
        have HPC := I Hi.1.pat
        have hpb := Hi.1.pl
        have hws := Hi.1.bel.size
        clear e0 HN HRI hb2
        go_wp2_with fail
        refine aE fun A0 hA0 => ?_
        have HNN : A0.tmps.size = 56 := by rw [hA0]; rfl
        have HSS := I (dr wk 1)
        have HWS := I (Nat.le_refl wk.heap.size)
        refine aF [12] [(1, .slice a4 Ri.length c4), (2, .slice (some ⟨pb, 0, none⟩) p.length pc), (3, .pointer (some ⟨nb, 0, none⟩)), (8, .int .i64 (i : Nat))] HNN (by rw [hA0]; rfl) ?_
        refine Vk 0 42 (.agg #[.string base, .slice la L.length lc, .slice ka K.length kc, .slice sa S.length sc, .slice ea E.length ec]) [[]] rfl HNN HSS.1 ?_ ?_
        · intro A w' e hS
          obtain ⟨f0a, f0b, f0c⟩ := e.at (t := 3) (V := (.pointer (some ⟨nb, 0, none⟩))) rfl
          have q := Ac hS Hi.1.qn
          have n0 := zm (j := 0) q rfl
          have n1 := zm (j := 1) q rfl
          have n2 := zm (j := 2) q rfl
          have n3 := zm (j := 3) q rfl
          have n4 := zm (j := 4) q rfl
          have nl := lt_of_block q
          go_simp
        refine De 1 43 (.slice a4 Ri.length c4) rfl HNN ?_
        refine De 2 44 (.slice (some ⟨pb, 0, none⟩) p.length pc) rfl HNN ?_
        refine Kr 4 46 (.pointer (some ⟨nb, 2, none⟩)) rfl HNN ?_ ?_
        · intro A w' e
          obtain ⟨f0a, f0b, f0c⟩ := e.at (t := 3) (V := (.pointer (some ⟨nb, 0, none⟩))) rfl
          go_simp
        refine Nk 5 47 46 (.slice (some ⟨gk, gko, none⟩) K.length kc) [[11, 10, 9, 8, 7]] rfl HNN HSS.1 n2 nl ?_
        refine De 6 48 (.int .i64 (i : Nat)) rfl HNN ?_
        refine Kr 7 49 (.pointer (some ⟨gk, gko + i * 3, none⟩)) rfl HNN ?_ ?_
        · intro A w' e
          obtain ⟨f0a, f0b, f0c⟩ := e.at (t := 47) (V := (.slice (some ⟨gk, gko, none⟩) K.length kc)) rfl
          obtain ⟨f1a, f1b, f1c⟩ := e.at (t := 48) (V := (.int .i64 (i : Nat))) rfl
          go_simp
        refine Kr 8 50 (.pointer (some ⟨gk, gko + i * 3 + 1, none⟩)) rfl HNN ?_ ?_
        · intro A w' e
          obtain ⟨f0a, f0b, f0c⟩ := e.at (t := 49) (V := (.pointer (some ⟨gk, gko + i * 3, none⟩))) rfl
          go_simp
        refine Nk 9 51 50 (.int .i64 (PB K i).k) [[11, 10]] rfl HNN HSS.1 k1 hgk ?_
        obtain ⟨kk, hkk⟩ : ∃ k, k = (PB K i).k := ⟨_, rfl⟩
        have HKK := I hkk
        rw [← hkk] at k1 ⊢
        clear hkk n0 n1 n2 n3 n4 k0
        refine rgDuo 3 10 45 52 rfl rfl HNN (fun A e K9 hK => ?fa) (fun A e K9 hK => ?fb)
        case' fa =>
          obtain ⟨f0a, f0b, f0c⟩ := e.at (t := 44) (V := (.slice (some ⟨pb, 0, none⟩) p.length pc)) rfl
          refine wp_append_lies _ (.const (.slice none 0 0)) (.tmp 44) 22 rfl wk.heap.size 3 i0 (.int .i64 0) 1 8 cF.ht hi0 hz0 hz1 hz2 rfl (by decide) (.slice none 0 0) 0 [] rfl (World.ownsRow_nil ..) ⟨pb, 0, none⟩ p.length pc (p.map (Value.int .i64)) f0a (by simp) (zDb fun j hj => zD (HPC.1 j hj) hpb HSS.1) (by intro u hu; obtain ⟨x, -, rfl⟩ := List.mem_map.1 hu; rfl) (by omega) (by unfold maxLen; omega) (by omega) HSS.1.size wk.drew.heap.size rfl ?_
          intro g1 c1 w2 h1 h2 h3 h4
          simp only [Nat.zero_add] at h1 ⊢
          refine hK.1 _ _ (fun _ h0 => Below.then h0 (rW h2 rfl)) ?_
          have B2 := I (Below.then HSS.1 (rW h2 rfl))
          have P2 := I (show PatC wk.heap.size w2 (.slice (some ⟨g1, 0, none⟩) p.length c1) p by simpa [PatC] using h1)
          clear hK f0a f0b f0c e A K9 h1 h2 h3 h4
          refine Rz 10 52 rfl HNN (fun A e K9 hK => ?_)
          obtain ⟨f0a, f0b, f0c⟩ := e.at (t := 51) (V := (.int .i64 kk)) rfl
          go_simp
          refine hK.1 _ _ (fun _ h => Below.then h (J _ _)) ?_
          clear hK f0a f0b f0c e A K9
          have B5 := I (Below.then B2.1 (J w2 (Obj.cells #[.int .i64 kk] 3)))
          have P5 := I (P2.1.call (J w2 (Obj.cells #[.int .i64 kk] 3)))
          have Q5 := zh w2 (Obj.cells #[.int .i64 kk] 3)
          obtain ⟨gq, hgq⟩ : ∃ g, g = w2.heap.size := ⟨_, rfl⟩
          rw [← hgq] at Q5
          simp only [← hgq]
          replace Q5 := I Q5
          clear hgq B2 P2
          generalize w2.alloc (Obj.cells #[.int .i64 kk] 3) = w5 at *
        case' fb =>
          obtain ⟨f0a, f0b, f0c⟩ := e.at (t := 51) (V := (.int .i64 kk)) rfl
          go_simp
          refine hK.1 _ _ (fun _ h => Below.then h (J _ _)) ?_
          clear hK f0a f0b f0c e A K9
          have B2 := I (Below.then HSS.1 (J wk.drew (Obj.cells #[.int .i64 kk] 3)))
          have Q2 := zh wk.drew (Obj.cells #[.int .i64 kk] 3)
          obtain ⟨gq, hgq⟩ : ∃ g, g = wk.heap.size := ⟨_, rfl⟩
          rw [show wk.drew.heap.size = gq from hgq.symm] at Q2
          simp only [← hgq]
          clear hgq
          try simp only [show (wk.alloc (Obj.cells #[.int .i64 kk] 3)).drew = wk.drew.alloc (Obj.cells #[.int .i64 kk] 3) from rfl]
          generalize wk.drew.alloc (Obj.cells #[.int .i64 kk] 3) = w4 at *
          replace Q2 := I Q2
          refine Rz 3 45 rfl HNN (fun A e K9 hK => ?_)
          obtain ⟨f0a, f0b, f0c⟩ := e.at (t := 44) (V := (.slice (some ⟨pb, 0, none⟩) p.length pc)) rfl
          refine wp_append_lies _ (.const (.slice none 0 0)) (.tmp 44) 22 rfl wk.heap.size 3 i0 (.int .i64 0) 1 8 cF.ht hi0 hz0 hz1 hz2 rfl (by decide) (.slice none 0 0) 0 [] rfl (World.ownsRow_nil ..) ⟨pb, 0, none⟩ p.length pc (p.map (Value.int .i64)) f0a (by simp) (zDb fun j hj => zD (HPC.1 j hj) hpb B2.1) (by intro u hu; obtain ⟨x, -, rfl⟩ := List.mem_map.1 hu; rfl) (by omega) (by unfold maxLen; omega) (by omega) B2.1.size w4.heap.size rfl ?_
          intro g1 c1 w2 h1 h2 h3 h4
          simp only [Nat.zero_add] at h1 ⊢
          refine hK.1 _ _ (fun _ h0 => Below.then h0 (rW h2 rfl)) ?_
          have B5 := I (Below.then B2.1 (rW h2 rfl))
          have P5 := I (show PatC wk.heap.size w2 (.slice (some ⟨g1, 0, none⟩) p.length c1) p by simpa [PatC] using h1)
          have Q5 := I (Ac (rW h2 rfl) Q2.1)
          clear hK f0a f0b f0c e A K9 h1 h2 h3 h4 B2 Q2
          generalize w2 = w5 at *
        all_goals
          refine Rz 11 53 rfl HNN (fun A e K9 hK => ?_)
          obtain ⟨f0a, f0b, f0c⟩ := e.at (t := 45) (V := (.slice (some ⟨g1, 0, none⟩) p.length c1)) rfl
          obtain ⟨f1a, f1b, f1c⟩ := e.at (t := 52) (V := (.slice (some ⟨gq, 0, none⟩) 1 1)) rfl
          refine wp_append_lies _ (.tmp 45) (.tmp 52) 22 rfl wk.heap.size 3 i0 (.int .i64 0) 1 8 cF.ht hi0 hz0 hz1 hz2 rfl (by decide) (.slice (some ⟨g1, 0, none⟩) p.length c1) p.length (p.map (Value.int .i64)) f0a P5.1 ⟨gq, 0, none⟩ 1 1 [.int .i64 kk] f1a rfl (World.news_of_block Q5.1) (by intro u hu; simp at hu; subst hu; rfl) (by decide) (by unfold maxLen; omega) (by omega) B5.1.size w5.heap.size rfl ?_
          intro g10 cap10 w10 h1 h2 h3 h4
          have B10 := I (show Below wk.heap.size wk w10 from B5.1.grown h2 B5.1.size fun j hj => (World.ownsRow.lt P5.1 j hj).1)
          refine hK.1 _ _ (fun _ _ => B10.1) ?_
          have P10 := I (show PatC wB.heap.size w10 (.slice (some ⟨g10, 0, none⟩) (p.length + 1) cap10) (p ++ [kk]) from by
            have q : w10.ownsRow wk.heap.size 3 1 (.slice (some ⟨g10, 0, none⟩) (p.length + 1) cap10) (p ++ [kk]).length ((p ++ [kk]).map (Value.int .i64)) := by simpa using h1
            exact ⟨q.1, q.2.imp_right fun ⟨g, cap, cur, h4, h5, h6⟩ => ⟨g, cap, cur, h4, Nat.le_trans hws h5, h6⟩⟩)
          have S10 := I (FuI.call Hi.1 HLi.1 B10.1)
          have L10 := I (RwO.call HLi.1 B10.1)
          have IC := I (IH.1 d rfl (p ++ [kk]) (.slice (some ⟨g10, 0, none⟩) (p.length + 1) cap10) Ri (.slice a4 Ri.length c4) w10 (by simp) (by have := HPD.1; simp; omega) (fun x hx => by
            rcases List.mem_append.1 hx with h | h
            · exact HR.1 x h
            · obtain rfl := List.mem_singleton.1 h
              rw [HKK.1]; exact HKI.1) (by rw [HKK.1]; exact HB2.1) S10.1.bel P10.1 L10.1)
          clear hK f0a f0b f0c f1a f1b f1c e A K9 h1 h2 h3 h4 B5 P5 Q5 k1 hgk nl
          refine Rz 12 54 rfl HNN (fun A e K9 hK => ?_)
          obtain ⟨f0a, f0b, f0c⟩ := e.at (t := 42) (V := (.agg #[.string base, .slice la L.length lc, .slice ka K.length kc, .slice sa S.length sc, .slice ea E.length ec])) rfl
          obtain ⟨f1a, f1b, f1c⟩ := e.at (t := 43) (V := (.slice a4 Ri.length c4)) rfl
          obtain ⟨f2a, f2b, f2c⟩ := e.at (t := 53) (V := (.slice (some ⟨g10, 0, none⟩) (p.length + 1) cap10)) rfl
          go_simp
          refine IC.1.mono ?_
          rintro e' w11 ⟨v', rfl, hL', hG'⟩
          refine hK.1 _ _ (fun h => absurd (List.mem_singleton.2 rfl) h) ?_
          have L11 := I (show PatR wB.heap.size w11 v' (R ++ F0 ++ RS (K.take (i + 1)) q fun k => GS K (zC0 L K S E) d (p ++ [k])) by rw [HK2.1, ← HKK.1]; exact hL')
          have S11 := I (FuI.ext S10.1 L10.1 hG')
          clear hK f0a f0b f0c f1a f1b f1c f2a f2b f2c e A K9 hL' hG' IC P10 S10 L10 B10
          refine De 13 1 v' rfl HNN ?_
          refine Wn ?_
          rw [hA0]
          simp only [Dj, Act.put, List.setIfInBounds_toArray, List.set_cons_zero, List.set_cons_succ]
          clear HNN hA0 HSS HWS HKK HK2 HB2 HLi Hi HPC hpb HAw
          go_wp2_with fail
          try delta Kx
          try delta aD
          try delta CU
          go_roundw
          case rel => exact ⟨i + 1, by omega, by go_num, L11, S11⟩
          case measure => simp [intOf]; omega
def zDe(a:Wd)(b:NetA L K S E la ka sa ea a)(c:∀l∈K,0<=l.k/\l.k<(L.length:Int)):∀d,FuS base L K S E la ka sa ea lc kc sc ec a d
 |0=>zDd base L K S E la ka sa ea lc kc sc ec a b c 0 (I λd' h=>by omega)
 |d+1=>zDd base L K S E la ka sa ea lc kc sc ec a b c (d+1) (I λd' h=>by
  obtain rfl:d=d':=by omega
  exact zDe a b c d)
end
section
variable (base:BA) (L:List gF) (K:List CP) (S E:LI) (la ka sa ea:Ae) (lc kc sc ec:Nat)
theorem zD9{K:List CP}{B:LI->Bool}{S:LI}{i:Nat}(h:i<S.length):MI K B (S.take (i+1))=MI K B (S.take i)++GS K B 5 [Am S i]:=by
 rw[tS h,MI,List.flatMap_append,<-MI];grind[Am]
theorem zEi{K:List CP}{B:LI->Bool}{S:LI}(i:Nat):(MI K B (S.take i)).length<=(MI K B S).length:=by
 grind[MI,List.take_append_drop]
theorem zDp(w:World)(hA:NetA L K S E la ka sa ea w)(F:∀l∈K,0<=l.k/\l.k<(L.length:Int))(hS:RngP L S)(hn:(MI K (zC0 L K S E) S).length<=5000000000000):Calls prog 9 #[.agg #[B_ base,CU la L.length lc,CU ka K.length kc,CU sa S.length sc,CU ea E.length ec]] w λe w'=>∃v,e=.returned v/\PatR w.heap.size w' v (MI K (zC0 L K S E) S)/\Bw w w':=by
 have HA:=I hA;have HS:=I hS;have HN:=I hn;have HF:=I (zDe base L K S E la ka sa ea lc kc sc ec w hA F 5);clear hA F hS hn;go_enter func9,ntmps9
 have hB:=J w (Obj.cells #[B_ base,CU la L.length lc,CU ka K.length kc,CU sa S.length sc,CU ea E.length ec] 42);have hQ:=zh w (Obj.cells #[B_ base,CU la L.length lc,CU ka K.length kc,CU sa S.length sc,CU ea E.length ec] 42);obtain⟨u,y⟩:∃u,u=w.heap.size:=⟨_,rfl⟩;rw[<-y]at hQ;have HB:=I hB;have QN:=I hQ;go_upto_region 1 with fail
 simp only[<-y];have b9:=I y;clear hB hQ y;generalize w.alloc (Obj.cells #[B_ base,CU la L.length lc,CU ka K.length kc,CU sa S.length sc,CU ea E.length ec] 42)=W at*;have n3:=zm (j:=3) QN.1 rfl;have nl:=Ag QN.1;go_wp2_with fail;clear n3 nl;go_loopw [3,4] (λlv iv wr=>∃i:Nat,i<=S.length/\iv=.int .i64 i/\Af (PatR w.heap.size wr lv (MI K (zC0 L K S E) (S.take i)))/\Af (Bw w wr)/\Af (wr.heap[u]?=some (.cells #[B_ base,CU la L.length lc,CU ka K.length kc,CU sa S.length sc,CU ea E.length ec] 42))) (λ_ iv _=>S.length-(intOf iv).toNat)
 case atStart=>exact⟨0,Bg _,rfl,I (by simpa[MI] using RwO.nil),HB,QN⟩
 obtain⟨i,hi,rfl,HL,o,z⟩:=hrel;clear HB QN;obtain⟨C,b1⟩:∃v:World,v=wr:=⟨_,rfl⟩;subst b1;obtain⟨p,H⟩:∃p,p=MI K (zC0 L K S E) (S.take i):=⟨_,rfl⟩;rw[<-H]at HL;have r:=I H;clear H;obtain⟨Y,Z,b2⟩:∃a c,u3=CU a p.length c:=by
  obtain⟨X,_,h,_⟩:=HL.1;exact Js h
 subst b2;have n0:=zm (j:=0) z.1 rfl;have n1:=zm (j:=1) z.1 rfl;have n2:=zm (j:=2) z.1 rfl;have n3:=zm (j:=3) z.1 rfl;have n4:=zm (j:=4) z.1 rfl;have nl:=Ag z.1;have c0:S.length<=140737488355328:=HA.1.bd.2.2.1;by_cases M:i<S.length
 rotate_left
 . have HE:=I (show PatR w.heap.size C (CU Y p.length Z) (MI K (zC0 L K S E) S) by
    have e:=r.1;rw[List.take_of_length_le (by omega)]at e;rw[<-e];exact HL.1)
   have a0:¬ (i:Int)<(S.length:Int):=by omega
   clear r;go_wp2;go_ret;exact⟨_,rfl,HE.1,o.1⟩
 have a0:(i:Int)<(S.length:Int):=by omega
 obtain⟨gs,N,a1,a2,a3⟩:=(HA.1.st.below o.1).cells (by omega);have k0:=a3 i M;have P:=I (zD9 (K:=K) (B:=zC0 L K S E) M);have a5:(p++GS K (zC0 L K S E) 5 [Am S i]).length<=5000000000000:=by
  rw[r.1,<-P.1];exact Bf (zEi _) HN.1
 have a6:=I a5;have D:=n3;rw[a1]at D;have c1:=o.1.size;clear a5 a3 a1 n3;go_wp2_with fail;refine aE λA0 hA0=>?_
 have d:A0.tmps.size=22:=by rw[hA0];rfl
 have s:=I (dr C 1);refine aF [8] [(1,.pointer (some ⟨u,0,none⟩)),(3,CU Y p.length Z),(4,.int .i64 (i:Nat))] d (by rw[hA0];rfl) ?_;refine Vk 0 12 (.agg #[B_ base,CU la L.length lc,CU ka K.length kc,CU sa S.length sc,CU ea E.length ec]) [[]] rfl d s.1 ?_ ?_
 . intro A w' e hS;obtain⟨f,m,n⟩:=e.at (t:=1) (V:=(.pointer (some ⟨u,0,none⟩))) rfl;have q:=Ac hS z.1;have n0:=zm (j:=0) q rfl;have n1:=zm (j:=1) q rfl;have n2:=zm (j:=2) q rfl;have n3:=zm (j:=3) q rfl;have n4:=zm (j:=4) q rfl;have nl:=Ag q;clear D;go_simp
 refine De 1 13 (CU Y p.length Z) rfl d ?_;refine Kr 2 14 (.pointer (some ⟨u,3,none⟩)) rfl d ?_ ?_
 . intro A w' e;obtain⟨f,m,n⟩:=e.at (t:=1) (V:=(.pointer (some ⟨u,0,none⟩))) rfl;go_simp
 refine Nk 3 15 14 (CU (some ⟨gs,N,none⟩) S.length sc) [[7,6,5]] rfl d s.1 D nl ?_;refine De 4 16 (.int .i64 (i:Nat)) rfl d ?_;refine Kr 5 17 (.pointer (some ⟨gs,N+i,none⟩)) rfl d ?_ ?_
 . intro A w' e;obtain⟨f,m,n⟩:=e.at (t:=15) (V:=(CU (some ⟨gs,N,none⟩) S.length sc)) rfl;obtain⟨a7,a8,a9⟩:=e.at (t:=16) (V:=(.int .i64 (i:Nat))) rfl;go_simp
 refine Nk 6 18 17 (.int .i64 (Am S i)) [[7]] rfl d s.1 k0 a2 ?_;refine Rz 7 19 rfl d (λA e K9 F=>?_);obtain⟨f,m,n⟩:=e.at (t:=18) (V:=(.int .i64 (Am S i))) rfl;go_simp;refine F.1 _ _ (λ_ h=>Ab h (J _ _)) ?_;clear F f m n e A K9;have hb:=Ab s.1 (J C.drew (oI (Am S i)));have Q:=zh C.drew (oI (Am S i));obtain⟨gq,R⟩:∃g,g=C.heap.size:=⟨_,rfl⟩;rw[show C.drew.heap.size=gq from R.symm]at Q;simp only[<-R];try simp only[show(C.alloc (oI (Am S i))).drew=C.drew.alloc (oI (Am S i)) from rfl]
 generalize C.drew.alloc (oI (Am S i))=w9 at*;have P9:=I (show PatC w.heap.size w9 (CU (some ⟨gq,0,none⟩) 1 1) [Am S i] from⟨rfl,.inr ⟨gq,1,_,rfl,by omega,Q,by simp,by first|decide|simp,rfl,rfl⟩⟩);have B9:=I (Ab o.1 hb);have L9:=I (RwO.call HL.1 hb);have Q9:=I (Ac hb z.1)
 have IC:=I (HF.1 [Am S i] (CU (some ⟨gq,0,none⟩) 1 1) p (CU Y p.length Z) w9 (by simp) (by simp) (λx hx=>by
  obtain rfl:=List.mem_singleton.1 hx;exact HS.1 _ (by simp[Am,M])) a6.1 B9.1 P9.1 L9.1)
 clear R Q hb n0 n1 n2 D n4 nl k0 a2 a6 HL o z P9;refine Rz 8 20 rfl d (λA e K9 F=>?_);obtain⟨f,m,n⟩:=e.at (t:=12) (V:=(.agg #[B_ base,CU la L.length lc,CU ka K.length kc,CU sa S.length sc,CU ea E.length ec])) rfl;obtain⟨a7,a8,a9⟩:=e.at (t:=13) (V:=(CU Y p.length Z)) rfl;obtain⟨b3,b4,b5⟩:=e.at (t:=19) (V:=(CU (some ⟨gq,0,none⟩) 1 1)) rfl;go_simp;refine IC.1.mono ?_;rintro e' T ⟨v',rfl,b0,U⟩;refine F.1 _ _ (λh=>absurd (List.mem_singleton.2 rfl) h) ?_;clear F f m n a7 a8 a9 b3 b4 b5 e A K9;have b6:=I (show PatR w.heap.size T v' (MI K (zC0 L K S E) (S.take (i+1))) by rw[P.1,<-r.1];exact b0);have G:∀b,(CU Y p.length Z).ownBlock=some b->w.heap.size<=b:=by
  obtain⟨X,_,h2,_⟩:=L9.1;exact λb hb=>(h2.lt b hb).1
 have b7:=I (show Bw w T from B9.1.grown U.1 B9.1.size G)
 have b8:=I (show T.heap[u]?=some (.cells #[B_ base,CU la L.length lc,CU ka K.length kc,CU sa S.length sc,CU ea E.length ec] 42) from(U.1.block u (Ag Q9.1) λe=>by
  obtain⟨X,_,h2,_⟩:=L9.1;rcases h2.2 with⟨e2,_⟩|⟨g,c2,c3,e2,_,hg,_⟩
  . rw[e2]at e;simp[Value.ownBlock]at e
  rw[e2]at e;obtain rfl:u=g:=by simpa[Value.ownBlock] using e
  rw[hg]at Q9;have:=Q9.1;simp at this).trans Q9.1)
 clear b0 U IC L9 B9 Q9 r P G;refine De 9 3 v' rfl d ?_;refine Wn ?_;rw[hA0];simp only[Dj,Act.put,O];clear d hA0 s;go_wp2;go_roundw
 case rel=>exact⟨i+1,by omega,by go_num,b6,b7,b8⟩
 case measure=>simp[intOf];omega
end
def zDv{s n:Nat}{xs:LV}(h:w.ownsRow lo e s v n xs)(a:∀(b:Nat) (cur:Array Value) (f:Nat×Nat),w.heap[b]?=some (Obj.cells cur e f)->w'.heap[b]?=some (Obj.cells cur e f)):w'.ownsRow lo e s v n xs:=by
 refine⟨h.1,h.2.imp_right λ⟨g,cap,cur,h1,h2,h3,h4⟩=>⟨g,cap,cur,h1,h2,a _ _ _ h3,h4⟩⟩
def zC1{i:Nat}{d:Array Value}{t:TypeId}(j:w.heap[b]?=some (Obj.cells d t f))(a:t≠e):∀(c:Nat) (cur:Array Value) (g:Nat×Nat),w.heap[c]?=some (Obj.cells cur e g)->(w.setCell (aD b i) u).heap[c]?=some (Obj.cells cur e g):=λc cur g h=>
 (Below.heap_setCell _ (aD b i) _ _ λe2=>by
  subst e2;rw[j]at h;simp at h
  exact a h.2.1).trans h
section
variable {A:Type} {e e1:TypeId} {s:Nat} {n:A→Nat} {enc:A→LV} {lo:Nat} {w w':Wd} {v:Value} {R:List A}
def RwO.same(S:RwO e e1 s n enc lo w v R)(a:∀(b:Nat) (cur:Array Value) (f:Nat×Nat),w.heap[b]?=some (Obj.cells cur e f)->w'.heap[b]?=some (Obj.cells cur e f))(c:∀(b:Nat) (cur:Array Value) (f:Nat×Nat),w.heap[b]?=some (Obj.cells cur e1 f)->w'.heap[b]?=some (Obj.cells cur e1 f)):RwO e e1 s n enc lo w' v R:=by
 obtain⟨X,d,g,h⟩:=S;exact⟨X,d,zDv g a,λi x r hx hr=>zDv (h i x r hx hr) c⟩
theorem RwO.app2(d:e1≠e){X:LV}{u:Value}{r:A}{g c:Nat}(a:X.length=R.length)(f:w.ownsRow lo e 1 v R.length X)(h:∀(i:Nat) (x:Value) (r:A),X[i]?=some x->R[i]?=some r->w.ownsRow lo e1 s x (n r) (enc r))(k:w.ownsRow lo e1 s u (n r) (enc r)) 
 (l:w'.ownsRow lo e 1 (Kx g 0 (R.length+1) c) (R.length+1) (X++ [u])) (m:w.grownBy w' v.ownBlock):RwO e e1 s n enc lo w' (Kx g 0 (R.length+1) c) (R++ [r]):=by
 have K:∀x r,w.ownsRow lo e1 s x (n r) (enc r)->w'.ownsRow lo e1 s x (n r) (enc r):=λx r q=>q.kept m (zx5 q f d);refine⟨X++ [u],by simp[a],by simpa using l,λi x r' hx hr=>?_⟩;grind
end
abbrev DuR:=RwO (A:=Ai) 59 104 2 (λd=>d.length) (λd=>(d.map Mz).flatten)
def res50{d:Func}{a:Array Value}{W:Wd}{v0 v1:Value}(e:d.results=#[.cell 4 50])(g:a.getD 4 undef=Ua b 0)(q:W.heap[b]?=some (.cells #[v0,v1] 50 f)):(results d a).run prog W=.ok (.agg #[v0,v1]) W:=by
 have c:a[4]?.getD undef=Ua b 0:=by simpa using g
 simp[results,e,go_sem,c,D_ q]
theorem box3(w:Wd)(a b c:Obj):Bw w (((w.alloc a).alloc b).alloc c)/\(((w.alloc a).alloc b).alloc c).heap[w.heap.size]?=some a/\(((w.alloc a).alloc b).alloc c).heap[w.heap.size+1]?=some b/\(((w.alloc a).alloc b).alloc c).heap[w.heap.size+1+1]?=some c:=by
 have g:=J w a;have e:=J (w.alloc a) b;have d:=J ((w.alloc a).alloc b) c;have h:=zh w a;have i:=zh (w.alloc a) b;have j:=zh ((w.alloc a).alloc b) c;have f:(w.alloc a).heap.size=w.heap.size+1:=zr ..;have k:((w.alloc a).alloc b).heap.size=w.heap.size+1+1:=by rw[zr,f]
 exact⟨Ab (Ab g e) d,Ac d (Ac e h),by grind[Ac],by rwa [k]at j⟩
def zDW:EI 48 59 Ls 1 24:=⟨underlying48,by kernel_rfl,rfl,by decide⟩
theorem DuR.sl{R:List Ai}(h:DuR lo w v R)(f:∀d∈R,d.length<=2^47/\∀x∈d,(Lit.int .i64 x.1).wf=true):∃a c,v=CU a R.length c/\Al Ed w a R:=by
 obtain⟨X,z,k,l⟩:=h;obtain⟨a,b,rfl,A,B,m⟩:=Sw k;refine⟨a,b,rfl,?_⟩;rcases m with n|⟨g,rfl,C,o,p⟩;exact .inl (List.eq_nil_of_length_eq_zero n);refine .inr ⟨g,0,rfl,o,λi hi=>?_⟩;have q:=l i X[i] R[i] (Cz (by omega)) (Cz hi);have⟨r,s⟩:=f _ (gM hi);obtain⟨t,u,y,-,e⟩:=(show Hj lo X[i] R[i] w from q).at s;refine⟨[X[i]],λj hj=>?_,t,u,by rw[y],r,e⟩;grind[Ed,RT.slF]
section
variable (base:BA) (L:List gF) (K:List CP) (S E:LI) (la ka sa ea:Ae) (lc kc sc ec:Nat)
def zDX{L:List gF}{p:LI}{i:Nat}(h:i<p.length):CC L (p.take (i+1))=CC L (p.take i)++ [(Qa L (Am p i).toNat).duty]:=by
 rw[tS h,CC,Ii,<-CC];simp[Am,h]
theorem zDD(p:List Int)(pa:Ae)(pc:Nat)(w:World)(hA:NetA L K S E la ka sa ea w)(hP:zW w pa p)(hr:RngP L p)(hl:p.length<=6)(hd:∀i,i<L.length->(Qa L i).duty≠ []/\(Qa L i).duty.length<=6):Calls prog 11 #[.agg #[B_ base,CU la L.length lc,CU ka K.length kc,CU sa S.length sc,CU ea E.length ec],CU pa p.length pc] w λe w'=>∃dv,e=.returned (.agg #[B_ base,dv])/\DuR w.heap.size w' dv (CC L p)/\Bw w w':=by
 have HA:=I hA;have HP:=I hP;have HR:=I hr;have HD:=I hd;clear hA hP hr hd;go_enter func11,ntmps11
 go_upto_region 2 with fail
 obtain⟨nb,a1⟩:∃nb,nb=w.heap.size:=⟨_,rfl⟩;obtain⟨rb,a2⟩:∃rb,rb=w.heap.size+1:=⟨_,rfl⟩;obtain⟨M,a3⟩:∃M,M=w.heap.size+1+1:=⟨_,rfl⟩;obtain⟨hB,qN,qR,qQ⟩:=box3 w (Obj.cells #[B_ base,CU la L.length lc,CU ka K.length kc,CU sa S.length sc,CU ea E.length ec] 42) jX (oP base none 0 0);rw[<-a3]at qQ;rw[<-a2]at qR;rw[<-a1]at qN;simp only[<-a3];simp only[<-a2];simp only[<-a1];have b0:=I (show w.heap.size<=nb/\w.heap.size<=rb/\w.heap.size<=M by omega);have d4:=I (show rb≠M by omega);clear a1 a2 a3;have HB:=I hB;have QN:=I qN;have QR:=I qR;have QQ:=I qQ;clear hB qN qR qQ;generalize ((w.alloc (Obj.cells #[B_ base,CU la L.length lc,CU ka K.length kc,CU sa S.length sc,CU ea E.length ec] 42)).alloc jX).alloc (oP base none 0 0)=W at*;obtain⟨i0,d5,d6,d7,d8⟩:=info_parts fF.info;obtain⟨i1,d9,f0,f1,f2⟩:=info_parts zDW.info;go_wp2_with fail;go_loopw [6] (λiv wr=>∃(i:Nat) (dv:Value),i<=p.length/\iv=.int .i64 i/\Af (wr.heap[M]?=some (Obj.cells #[B_ base,dv] 50))/\Af (wr.heap[rb]?=some jX)/\Af (wr.heap[nb]?=some (Obj.cells #[B_ base,CU la L.length lc,CU ka K.length kc,CU sa S.length sc,CU ea E.length ec] 42))/\Af (DuR w.heap.size wr dv (CC L (p.take i)))/\Af (Bw w wr)) (λiv _=>p.length-(intOf iv).toNat)
 case atStart=>exact⟨0,_,Bg _,rfl,QQ,QR,QN,I (by simpa[CC] using RwO.nil),HB⟩
 obtain⟨i,dv,hi,rfl,HQ,m,U,HL,G⟩:=hrel;clear HB QN QR QQ;obtain⟨wk,f3⟩:∃v:World,v=wr:=⟨_,rfl⟩;subst f3;by_cases N:i<p.length
 rotate_left
 . obtain rfl:i=p.length:=by omega
   obtain⟨P,vn,Q,a4⟩:∃a n c,dv=CU a n c:=by
    obtain⟨X,_,h,_⟩:=HL.1;obtain⟨a,c,e⟩:=Js h;exact⟨a,_,c,e⟩
   subst a4;have HE:=I (show DuR w.heap.size wk (CU P vn Q) (CC L p) by have:=HL.1;rwa [List.take_length]at this);have q0:=zm (j:=0) HQ.1 rfl;have q1:=zm (j:=1) HQ.1 rfl;have ql:=Ag HQ.1;have r0:=zm (j:=0) m.1 rfl;have r1:=zm (j:=1) m.1 rfl;have y0:=zQ (j:=0) m.1;have y1:=zQ (j:=1) m.1;have rl:=Ag m.1;have b1:¬ ((p.length:Nat):Int)<(p.length:Int):=by omega
   have QW:=I (Pr [B_ base,CU P vn Q] [] [B_ ⟨#[]⟩,.slice none 0 0] _ rfl m.1);have HW:=I (Tt b0.1.2.1 [B_ base,CU P vn Q] 0 _ G.1);have HS:=I (show DuR w.heap.size (stN rb 0 [B_ base,CU P vn Q] wk) (CU P vn Q) (CC L p) from(HE.1.same (zC1 m.1 (by decide)) (zC1 m.1 (by decide))).same (zC1 (zg m.1) (by decide)) (zC1 (zg m.1) (by decide)));simp only[stN,Nat.zero_add,Nat.reduceAdd,List.length_nil]at QW HW HS;clear HL N;go_wp2_with fail;refine bodyPost_ret (res50 rfl rfl QW.1) rfl ?_;exact⟨_,rfl,HS.1,HW.1⟩
 have b1:(i:Int)<(p.length:Int):=by omega
 obtain⟨pb,po,b2,f4,b3⟩:=(HP.1.below G.1).cells (by omega);have b4:pa=some ⟨pb,po,none⟩:=b2;clear b2;subst b4;have c0:=b3 i N;obtain⟨x,hx⟩:∃x:Nat,Am p i=x:=⟨(Am p i).toNat,by have:=HR.1 (Am p i) (by simp[Am,N]);omega⟩;have a5:x<L.length:=by have:=HR.1 (Am p i) (by simp[Am,N]);omega
 have HX:=I (show CC L (p.take (i+1))=CC L (p.take i)++ [(Qa L x).duty] by rw[zDX N,hx];rfl);rw[hx]at c0;clear hx b3;obtain⟨gb,go,b5,f5,b6⟩:=(HA.1.below G.1).lg.cells (by omega);obtain⟨da,dc,z0,-,-,-,-,-,-,f6,a6⟩:=b6 x a5;obtain⟨d,hd⟩:∃d,d=(Qa L x).duty:=⟨_,rfl⟩;have b7:d≠ []:=by rw[hd];exact(HD.1 x a5).1
 have g5:d.length<=6:=by rw[hd];exact(HD.1 x a5).2
 rw[<-hd]at z0 f6 a6 HX;have n1:=zm (j:=1) U.1 rfl;rw[b5]at n1;have nl:=Ag U.1;have b8:=List.length_pos_iff.2 b7;obtain⟨tb,Y,b9,f7,c2⟩:=Ok a6 b8;have c3:da=some ⟨tb,Y,none⟩:=b9;subst c3;have c4:=I c2;have q1:=zm (j:=1) HQ.1 rfl;have ql:=Ag HQ.1;obtain⟨X,x1,x2,x3⟩:=HL.1;have c5:=I x1;have c6:=I x2;have c7:=I x3;obtain⟨P,Q,a4⟩:=Js x2;subst a4;have c8:(CC L (p.take i)).length=i:=by simp[CC];omega
 have a7:=G.1.size;have g4:(x:Int)<(L.length:Int):=by omega
 have a8:=I c8;clear x1 x2 x3 b9 b6 b5 hd b7 a6 c2 c8;go_wp2_with fail;refine aE λA0 hA0=>?_
 have k:A0.tmps.size=32:=by rw[hA0];rfl
 have B:=I (dr wk 1);refine aF [13,15] [(1,CU (some ⟨pb,po,none⟩) p.length pc),(2,.pointer (some ⟨nb,0,none⟩)),(5,.pointer (some ⟨M,0,none⟩)),(6,.int .i64 (i:Nat))] k (by rw[hA0];rfl) ?_;refine De 0 16 (.pointer (some ⟨M,1,none⟩)) rfl k ?_;refine Nk 1 17 16 (CU P (CC L (p.take i)).length Q) [[], []] rfl k B.1 q1 ql ?_;refine De 2 18 (.pointer (some ⟨nb,1,none⟩)) rfl k ?_;refine Nk 3 19 18 (CU (some ⟨gb,go,none⟩) L.length lc) [[11,10,9,8], []] rfl k B.1 n1 nl ?_;refine De 4 20 (CU (some ⟨pb,po,none⟩) p.length pc) rfl k ?_;refine De 5 21 (.int .i64 (i:Nat)) rfl k ?_;refine Kr 6 22 (.pointer (some ⟨pb,po+i,none⟩)) rfl k ?_ ?_
 . intro A w' e;obtain⟨s,y,z⟩:=e.at (t:=20) (V:=(CU (some ⟨pb,po,none⟩) p.length pc)) rfl;obtain⟨H,R,T⟩:=e.at (t:=21) (V:=(.int .i64 (i:Nat))) rfl;go_simp
 refine Nk 7 23 22 (.int .i64 (x:Nat)) [[11,10,9,8], []] rfl k B.1 c0 f4 ?_;refine Kr 8 24 (.pointer (some ⟨gb,go+x*7,none⟩)) rfl k ?_ ?_
 . intro A w' e;obtain⟨s,y,z⟩:=e.at (t:=19) (V:=(CU (some ⟨gb,go,none⟩) L.length lc)) rfl;obtain⟨H,R,T⟩:=e.at (t:=23) (V:=(.int .i64 (x:Nat))) rfl;go_simp
 refine De 9 25 (.pointer (some ⟨gb,go+x*7,none⟩)) rfl k ?_;refine Nk 10 26 25 (CU (some ⟨tb,Y,none⟩) d.length dc) [[11], []] rfl k B.1 z0 f5 ?_;refine Rz 11 27 rfl k (λA e K9 hK=>?_);obtain⟨s,y,z⟩:=e.at (t:=26) (V:=(CU (some ⟨tb,Y,none⟩) d.length dc)) rfl;refine wp_append_lies _ (.const (.slice none 0 0)) (.tmp 26) 59 rfl wk.heap.size 104 i0 (.agg #[.int .i64 0,.bool false]) 2 16 fF.ht d5 d6 d7 d8 rfl (by decide) (.slice none 0 0) 0 [] rfl (World.ownsRow_nil ..) ⟨tb,Y,none⟩ d.length dc (d.map Mz).flatten s (sD d) (EC (c4.1.below f7 B.1)) EG b8 (by unfold maxLen;omega) (by omega) B.1.size wk.drew.heap.size rfl ?_;intro g1 c1 w2 h1 h2 h3 h4;simp only[Nat.zero_add]at h1 ⊢;have B2:=I (Ab B.1 (rW h2 rfl))
 have P2:=I (show w2.ownsRow w.heap.size 104 2 (CU (some ⟨g1,0,none⟩) d.length c1) d.length (d.map Mz).flatten from by
  have q:w2.ownsRow wk.heap.size 104 2 (CU (some ⟨g1,0,none⟩) d.length c1) d.length (d.map Mz).flatten:=by simpa using h1
  exact⟨q.1,q.2.imp_right λ⟨g,c9,D,h4,h5,h6⟩=>⟨g,c9,D,h4,Bf a7 h5,h6⟩⟩)
 refine hK.1 _ _ (λ_ _=>B2.1) ?_;clear hK s y z e A K9 h1 h2 h3 h4;refine Rz 12 28 rfl k (λA e K9 hK=>?_);obtain⟨s,y,z⟩:=e.at (t:=27) (V:=(CU (some ⟨g1,0,none⟩) d.length c1)) rfl;go_simp;refine hK.1 _ _ (λ_ h=>Ab h (J _ _)) ?_;clear hK s y z e A K9;have B5:=I (Ab B2.1 (J w2 (Obj.cells #[CU (some ⟨g1,0,none⟩) d.length c1] 59)));have P5:=I (P2.1.alloc (Obj.cells #[CU (some ⟨g1,0,none⟩) d.length c1] 59));have Q5:=zh w2 (Obj.cells #[CU (some ⟨g1,0,none⟩) d.length c1] 59);obtain⟨gq,a9⟩:∃g,g=w2.heap.size:=⟨_,rfl⟩;rw[<-a9]at Q5;simp only[<-a9];replace Q5:=I Q5;clear a9 B2 P2;generalize w2.alloc (Obj.cells #[CU (some ⟨g1,0,none⟩) d.length c1] 59)=w5 at*;have X2:=I (c6.1.kept (Sj (r:=none) B5.1) (by cases (CU P (CC L (p.take i)).length Q).ownBlock <;> simp));refine Rz 13 29 rfl k (λA e K9 hK=>?_);obtain⟨s,y,z⟩:=e.at (t:=17) (V:=(CU P (CC L (p.take i)).length Q)) rfl;obtain⟨H,R,T⟩:=e.at (t:=28) (V:=(CU (some ⟨gq,0,none⟩) 1 1)) rfl;refine wp_append_lies _ (.tmp 17) (.tmp 28) 48 rfl w.heap.size 59 i1 (.slice none 0 0) 1 24 zDW.ht d9 f0 f1 f2 rfl (by decide) (CU P (CC L (p.take i)).length Q) (CC L (p.take i)).length X s X2.1 ⟨gq,0,none⟩ 1 1 [CU (some ⟨g1,0,none⟩) d.length c1] H rfl (World.news_of_block Q5.1) (by intro u hu;simp at hu;subst hu;rfl) (by decide) (by have:=a8.1;unfold maxLen;omega) (by have:=a8.1;omega) (Bf a7 B5.1.size) w5.heap.size rfl ?_;intro F l Z h1 h2 h3 h4
 have d0:=I (show DuR w.heap.size Z (CU (some ⟨F,0,none⟩) ((CC L (p.take i)).length+1) l) (CC L (p.take (i+1))) by
  rw[HX.1];exact RwO.app2 (n:=λd:Ai=>d.length) (enc:=λd=>(d.map Mz).flatten) (by decide) c5.1 X2.1 (λj x r hx hr=>World.ownsRow.kept (c7.1 j x r hx hr) (Sj (r:=none) B5.1) (by cases x.ownBlock <;> simp)) P5.1 h1 h2)
 have a0:∀b,(CU P (CC L (p.take i)).length Q).ownBlock=some b->w.heap.size<=b:=λb hb=>(X2.1.lt b hb).1
 have d1:=I (show Bw w Z from(Ab G.1 B5.1).grown h2 (Bf a7 B5.1.size) a0);have KP:∀b o,wk.heap[b]?=some o->(∀D f,o≠Obj.cells D 59 f)->Z.heap[b]?=some o:=λb o q hne=>by
  have q5:=Ac B5.1 q;refine(h2.block b (Ag q5) λe=>?_).trans q5;rcases X2.1.2 with⟨e2,_⟩|⟨g,c9,D,e2,_,hg,_⟩
  . rw[e2]at e;simp[Value.ownBlock]at e
  rw[e2]at e;obtain rfl:b=g:=by simpa[Value.ownBlock] using e
  rw[hg]at q5;exact hne _ _ (Option.some.inj q5).symm
 have C:=I (KP _ _ HQ.1 λD f e=>by simp at e);have d2:=I (KP _ _ U.1 λD f e=>by simp at e);have d3:=I (KP _ _ m.1 λD f e=>by simp at e);refine hK.1 _ _ (λh=>absurd (by simp) h) ?_;clear hK s y z H R T e A K9 h1 h2 h3 h4 KP a0 X2 Q5 P5 c5 c6 c7;refine De 14 30 (.pointer (some ⟨M,1,none⟩)) rfl k ?_;refine Ub 15 rfl k (λA e K9 hK=>?_);obtain⟨s,y,z⟩:=e.at (t:=30) (V:=(.pointer (some ⟨M,1,none⟩))) rfl;obtain⟨H,R,T⟩:=e.at (t:=29) (V:=(CU (some ⟨F,0,none⟩) ((CC L (p.take i)).length+1) l)) rfl;have s1:=zm (j:=1) C.1 rfl;have y1:=zQ (j:=1) C.1;have sl:=Ag C.1;go_simp;refine hK.1 _ (λh=>absurd (by simp) h) ?_;clear hK s y z H R T e A K9 s1 y1 sl;have f8:=I (zg (i:=1) (u:=CU (some ⟨F,0,none⟩) ((CC L (p.take i)).length+1) l) C.1);have f9:=I (show DuR w.heap.size (Z.setCell ⟨M,1,none⟩ (CU (some ⟨F,0,none⟩) ((CC L (p.take i)).length+1) l)) _ _ from d0.1.same (zC1 C.1 (by decide)) (zC1 C.1 (by decide)));have g0:=I (zC1 (i:=1) (u:=CU (some ⟨F,0,none⟩) ((CC L (p.take i)).length+1) l) C.1 (by decide) _ _ _ d2.1);have g2:=I ((Below.heap_setCell _ ⟨M,1,none⟩ (CU (some ⟨F,0,none⟩) ((CC L (p.take i)).length+1) l) rb d4.1).trans d3.1);have g3:=I (d1.1.setCell (p:=⟨M,1,none⟩) b0.1.2.2 (CU (some ⟨F,0,none⟩) ((CC L (p.take i)).length+1) l));refine Wn ?_;rw[hA0];simp only[Dj,Act.put,O];clear k hA0 B C d2 d3 d0 d1 B5 HQ m U HL G HX a8 c4 c0 n1 z0 nl ql q1;go_wp2;go_roundw
 case rel=>exact⟨i+1,_,by omega,by go_num,f8,g2,g0,f9,g3⟩
 case measure=>simp[intOf];omega
end
