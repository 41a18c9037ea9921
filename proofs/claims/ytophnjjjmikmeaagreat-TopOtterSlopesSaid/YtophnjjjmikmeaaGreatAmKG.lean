/- The abstract machine: rows that are written and that grow. -/
import Derived.Test.YtophnjjjmikmeaaGreatAmKF
import Derived.Laws.RangeAny
import Derived.Maps.RangeRun
import Derived.Laws.BytesString
import Derived.Laws.Cover4
set_option linter.all false
namespace Go.Am
open Go
section
variable {E : Env} {R R' : af} {w w' : World} {β : Nat → Nat} {s : St} {a : Act} {o : Oper}
theorem aJ.K4 (h : aJ E R w β s a) {id sz : Nat} {e : TypeId} {rows : List (List AV)} (aR : nth s.G id = some (.fI rows sz e)) (n : Nat) {ro : RO} (aO : nth R.obj id = some ro) :
    ∃ ts, ro = .aG ts ∧ ts.length = rows.length ∧ aJ E (R.reset id (.aG (ts ++ List.replicate n .aK))) w β (s.aX (aq s.G id (.fI (rows ++ List.replicate n []) sz e))) a ∧ Step R w β s.boxes (R.reset id (.aG (ts ++ List.replicate n .aK))) w β s.boxes := by
  have bg := h.g.obj id _ _ aR aO
  cases ro with
  | none => exact bg.elim
  | aK => exact bg.elim
  | bh _ => exact bg.elim
  | tok _ _ _ _ => exact bg.elim
  | aG ts =>
  obtain ⟨q1, q2, q3⟩ := bg
  have lG : ∀ j f b c, nth (List.replicate n TR.aK) j ≠ some (.tok f b c) := fun j f b c hj => by
    rw [aD] at hj
    have := List.eq_of_mem_replicate (List.mem_of_getElem? hj)
    cases this
  have gW : ∀ b, RO.has (.aG (ts ++ List.replicate n .aK)) b → RO.has (.aG ts) b := fun b ⟨j, f, c, hj⟩ => by
    rcases aI hj with hj | ⟨i, _, hi⟩
    · exact ⟨j, f, c, hj⟩
    · exact absurd hi (lG i f b c)
  have ext : Ext R w (R.reset id (.aG (ts ++ List.replicate n .aK))) w := ke aO (fun j t hj => ⟨t, gX hj, eG.refl t⟩) (Ext.refl R w)
  have live : ∀ b, Live (R.reset id (.aG (ts ++ List.replicate n .aK))) b → Live R b := fun b ⟨i, r, h1, h2⟩ => by
    rcases ao aO h1 with ⟨_, rfl⟩ | ⟨_, h1⟩
    · exact ⟨id, _, aO, gW b h2⟩
    · exact ⟨i, r, h1, h2⟩
  refine ⟨ts, rfl, q1, ⟨⟨by simp [St.aX, af.reset, h.g.len], fun i g r h1 h2 => ?_, fun i j ri rj b h1 h2 b1 b2 => ?_, h.g.wf, fun g cs hg => (h.g.cw g cs hg).mono ext, h.g.lo⟩, h.b.bL ext (fun _ _ _ => rfl) (fun _ _ _ _ h => h) (fun _ _ _ hl => live _ hl), h.t.mono ext, h.n, h.d.mono ext⟩, ?_⟩
  · rcases ao aO h2 with ⟨rfl, rfl⟩ | ⟨bS, h2⟩
    · simp only [St.aX] at h1
      rw [aj aR] at h1
      cases h1
      refine ⟨by simp [q1], fun i j f b c f' c' hi hj => ?_, fun j row t hf ht => ?_⟩
      · rcases aI hi with hi | ⟨_, _, hi⟩
        · rcases aI hj with hj | ⟨_, _, hj⟩
          · exact q2 i j _ _ _ _ _ hi hj
          · exact absurd hj (lG _ _ _ _)
        · exact absurd hi (lG _ _ _ _)
      · rcases aI hf with pN | ⟨k, hk, pN⟩
        · rcases aI ht with ht | ⟨k', eD, ht⟩
          · exact (q3 j row t pN ht).mono ext fun _ _ _ _ => ⟨rfl, fun _ h => h⟩
          · have := aM pN
            omega
        · rcases aI ht with ht | ⟨k', eD, ht⟩
          · have := aM ht
            omega
          · rw [aD] at ht pN
            rw [List.eq_of_mem_replicate (List.mem_of_getElem? ht), List.eq_of_mem_replicate (List.mem_of_getElem? pN)]
            exact rfl
    · simp only [St.aX] at h1
      rw [az (Ne.symm bS)] at h1
      exact (h.g.obj i g r h1 h2).mono ext (fun _ _ => rfl) (fun _ _ _ h => h)
  · rcases ao aO h1 with ⟨g3, e1⟩ | ⟨g3, g1⟩
    · rcases ao aO h2 with ⟨g4, e2⟩ | ⟨g4, g2⟩
      · omega
      · rw [e1] at b1
        exact g3.trans (h.g.inj id j _ _ b aO g2 (gW b b1) b2)
    · rcases ao aO h2 with ⟨g4, e2⟩ | ⟨g4, g2⟩
      · rw [e2] at b2
        exact (h.g.inj i id _ _ b g1 aO b1 (gW b b2)).trans g4.symm
      · exact h.g.inj i j ri rj b g1 g2 b1 b2
  · refine ⟨ext, rfl, rfl, rfl, Nat.le_refl _, fun _ _ _ => rfl, fun b _ ho => ?_, fun _ _ h _ _ => h⟩
    rcases ho with ho | ho
    · exact .inl (live b ho)
    · exact .inr ho
theorem aJ.CD (h : aJ E R w β s a) {id eC sz : Nat} {el : TypeId} {es : List AV} {rows : List (List AV)} (hg : nth s.G id = some (.cW es sz el)) (hm : nth s.G eC = some (.fI rows sz el)) {ro : RO} {ts : List TR} (aO : nth R.obj id = some ro) (CA : nth R.obj eC = some (.aG ts))
    {t : TR} (hle : bF ro .none) (ht : vP R w sz el es t) (hh : ∀ f x c, t = .tok f x c → ro.has x) :
    aJ E ((R.reset id .none).reset eC (.aG (ts ++ [t]))) w β (s.aX (aq (aq s.G id .dead) eC (.fI (rows ++ [es]) sz el))) a ∧ Step R w β s.boxes ((R.reset id .none).reset eC (.aG (ts ++ [t]))) w β s.boxes := by
  have bS : id ≠ eC := fun e => by
    subst e
    rw [hg] at hm
    cases hm
  have DJ : nth (R.reset id .none).obj eC = some (.aG ts) := by rw [af.reset, az bS]; exact CA
  have HZ : nth (aq s.G id .dead) eC = some (.fI rows sz el) := by rw [az bS]; exact hm
  obtain ⟨q1, q2, q3⟩ := h.g.obj eC _ _ hm CA
  have ext : Ext R w ((R.reset id .none).reset eC (.aG (ts ++ [t]))) w := ke DJ (fun j t hj => ⟨t, gX hj, eG.refl t⟩) (Ext.refl (R.reset id .none) w) |> fun e => (ke aO hle (Ext.refl R w)).trans e
  -- whose block a block is
  have gW : ∀ x, RO.has (.aG (ts ++ [t])) x → RO.has (.aG ts) x ∨ ro.has x := fun x ⟨j, f, c, hj⟩ => by
    rcases aI hj with hj | ⟨i, _, hi⟩
    · exact .inl ⟨j, f, c, hj⟩
    · cases i with
      | zero => cases hi; exact .inr (hh _ _ _ rfl)
      | succ i => cases hi
  have yY : ∀ i r x, nth ((R.reset id .none).reset eC (.aG (ts ++ [t]))).obj i = some r → r.has x → (i = eC ∧ RO.has (.aG ts) x) ∨ (i = eC ∧ ro.has x) ∨ (i ≠ eC ∧ i ≠ id ∧ nth R.obj i = some r) := fun i r x h1 h2 => by
    rcases ao DJ h1 with ⟨rfl, rfl⟩ | ⟨k1, h1⟩
    · rcases gW x h2 with h2 | h2
      · exact .inl ⟨rfl, h2⟩
      · exact .inr (.inl ⟨rfl, h2⟩)
    · rcases ao aO h1 with ⟨rfl, rfl⟩ | ⟨k2, h1⟩
      · exact h2.elim
      · exact .inr (.inr ⟨k1, k2, h1⟩)
  have live : ∀ x, Live ((R.reset id .none).reset eC (.aG (ts ++ [t]))) x → Live R x := fun x ⟨i, r, h1, h2⟩ => by
    rcases yY i r x h1 h2 with ⟨_, k⟩ | ⟨_, k⟩ | ⟨_, _, k⟩
    · exact ⟨eC, _, CA, k⟩
    · exact ⟨id, _, aO, k⟩
    · exact ⟨i, r, k, h2⟩
  refine ⟨⟨⟨by simp [St.aX, af.reset, h.g.len], fun i g r h1 h2 => ?_, fun i j ri rj x h1 h2 b1 b2 => ?_, h.g.wf, fun g cs hg => (h.g.cw g cs hg).mono ext, h.g.lo⟩, h.b.bL ext (fun _ _ _ => rfl) (fun _ _ _ _ h => h) (fun _ _ _ hl => live _ hl), h.t.mono ext, h.n, h.d.mono ext⟩, ?_⟩
  · rcases ao DJ h2 with ⟨rfl, rfl⟩ | ⟨k1, h2⟩
    · simp only [St.aX] at h1
      rw [aj HZ] at h1
      cases h1
      have Ig : ∀ i f b c f' c', nth ts i = some (.tok f b c) → t = .tok f' b c' → False := fun i f b c f' c' hi ht => bS (h.g.inj id _ _ _ b aO CA (hh _ _ _ ht) ⟨i, f, c, hi⟩)
      refine ⟨by simp [q1], fun i j f b c f' c' hi hj => ?_, fun j row t' hf oB => ?_⟩
      · rcases aI hi with hi | ⟨k, hk, hi⟩
        · rcases aI hj with hj | ⟨k', eD, hj⟩
          · exact q2 i j _ _ _ _ _ hi hj
          · cases k' with
            | zero => simp only [nth, Option.some.injEq] at hj; exact (Ig _ _ _ _ _ _ hi hj).elim
            | succ _ => cases hj
        · cases k with
          | succ _ => cases hi
          | zero =>
            rcases aI hj with hj | ⟨k', eD, hj⟩
            · simp only [nth, Option.some.injEq] at hi; exact (Ig _ _ _ _ _ _ hj hi).elim
            · cases k' with
              | zero => omega
              | succ _ => cases hj
      · rcases aI hf with pN | ⟨k, hk, pN⟩
        · rcases aI oB with oB | ⟨k', eD, oB⟩
          · exact (q3 j row t' pN oB).mono ext fun _ _ _ _ => ⟨rfl, fun _ h => h⟩
          · have := aM pN
            omega
        · rcases aI oB with oB | ⟨k', eD, oB⟩
          · have := aM oB
            omega
          · have AO : k = k' := by omega
            subst AO
            cases k with
            | succ _ => cases pN
            | zero =>
              cases pN; cases oB
              exact ht.mono ext fun _ _ _ _ => ⟨rfl, fun _ h => h⟩
    · simp only [St.aX] at h1
      rw [az (Ne.symm k1)] at h1
      rcases ao aO h2 with ⟨rfl, rfl⟩ | ⟨k2, h2⟩
      · rw [aj hg] at h1
        cases h1
        exact trivial
      · rw [az (Ne.symm k2)] at h1
        exact (h.g.obj i g r h1 h2).mono ext (fun _ _ => rfl) (fun _ _ _ h => h)
  · rcases yY i ri x h1 b1 with ⟨k1, k2⟩ | ⟨k1, k2⟩ | ⟨k1, k2, k3⟩
    · rcases yY j rj x h2 b2 with ⟨l1, l2⟩ | ⟨l1, l2⟩ | ⟨l1, l2, l3⟩
      · omega
      · omega
      · exact absurd (h.g.inj eC j _ _ x CA l3 k2 b2).symm l1
    · rcases yY j rj x h2 b2 with ⟨l1, l2⟩ | ⟨l1, l2⟩ | ⟨l1, l2, l3⟩
      · omega
      · omega
      · exact absurd (h.g.inj id j _ _ x aO l3 k2 b2).symm l2
    · rcases yY j rj x h2 b2 with ⟨l1, l2⟩ | ⟨l1, l2⟩ | ⟨l1, l2, l3⟩
      · exact absurd (h.g.inj eC i _ _ x CA k3 l2 b1).symm k1
      · exact absurd (h.g.inj id i _ _ x aO k3 l2 b1).symm k2
      · exact h.g.inj i j ri rj x k3 l3 b1 b2
  · refine ⟨ext, rfl, rfl, rfl, Nat.le_refl _, fun _ _ _ => rfl, fun b _ ho => ?_, fun _ _ h _ _ => h⟩
    rcases ho with ho | ho
    · exact .inl (live b ho)
    · exact .inr ho
theorem aJ.K5 (h : aJ E R w β s a) {id eC sz : Nat} {el : TypeId} {es : List AV} {rows : List (List AV)} (hg : nth s.G id = some (.cW es sz el)) (hm : nth s.G eC = some (.fI rows sz el)) (fK : aN es = true) :
    ∃ R', aJ E R' w β (s.aX (aq (aq s.G id .dead) eC (.fI (rows ++ [es]) sz el))) a ∧ Step R w β s.boxes R' w β s.boxes ∧ ∀ f len c, f = es.length → len = es.length → Rel R w (.cS id f 0 sz len) c → Rel R' w (.eT eC rows.length sz len) c := by
  have bS : id ≠ eC := fun e => by
    subst e
    rw [hg] at hm
    cases hm
  have ex : ∀ {i : Nat} {g : GO}, nth s.G i = some g → ∃ ro, nth R.obj i = some ro := fun {i g} hi => by
    have := aM hi
    rw [← h.g.len] at this
    exact ⟨R.obj[i], by rw [aD]; exact List.getElem?_eq_getElem this⟩
  obtain ⟨ro, aO⟩ := ex hg
  obtain ⟨rm, QP⟩ := ex hm
  have bg := h.g.obj id _ _ hg aO
  have yZ := h.g.obj eC _ _ hm QP
  cases rm with
  | none => exact yZ.elim
  | aK => exact yZ.elim
  | bh _ => exact yZ.elim
  | tok _ _ _ _ => exact yZ.elim
  | aG ts =>
  have hlen : ts.length = rows.length := yZ.1
  have DJ : nth (R.reset id .none).obj eC = some (.aG ts) := by rw [af.reset, az bS]; exact QP
  cases ro with
  | none => exact bg.elim
  | bh _ => exact bg.elim
  | aG _ => exact bg.elim
  | aK =>
    have yR : es = [] := bg
    subst yR
    obtain ⟨r1, r2⟩ := h.CD hg hm aO QP (t := .aK) trivial rfl (fun _ _ _ e => by cases e)
    refine ⟨_, r1, r2, fun f len c e1 e2 hc => ?_⟩
    subst e1; subst e2
    cases hc with
    | fZ _ _ => exact Rel.oe (aj DJ) trivial
    | cS hr cD _ =>
      rw [aO] at hr
      cases hr
      exact cD.elim
  | tok f0 b c k =>
    obtain ⟨rfl, rfl, h1, cur, vs, h2, h3, h4, h5, h6, h7, h8, h9⟩ := bg
    obtain ⟨r1, r2⟩ := h.CD hg hm aO QP (t := .tok es.length b c) trivial ⟨rfl, qN h1 fK, cur, vs, h2, h3, h4, h5, h6, h7, h8, h9⟩ (fun _ _ _ e => by cases e; exact rfl)
    refine ⟨_, r1, r2, fun f len c' e1 e2 hc => ?_⟩
    subst e1; subst e2
    generalize hl : es.length = n at hc
    cases hc with
    | fZ hr hon =>
      rw [aO] at hr
      cases hr
      have : 1 ≤ es.length := hon
      omega
    | cS hr cD dA =>
      rw [aO] at hr
      cases hr
      obtain ⟨p1, p2⟩ := cD
      obtain ⟨p3, p4, p5⟩ := p2 hl.symm
      subst hl
      refine Rel.eT (aj DJ) ⟨.tok es.length b c, ?_, Nat.le_refl _, fun _ => ⟨p3, ?_, by omega⟩⟩ dA
      · rw [← hlen, aD, List.getElem?_append_right (Nat.le_refl _), Nat.sub_self]
        rfl
      · rcases p5 with p5 | p5
        · exact .inl (by rw [p5, Nat.zero_mul])
        · exact .inr p5
theorem rU (h : aJ E R w β s a) {args : Array Operand} {t : TypeId} (ho : o.op = .call { callee := .builtin .append, args := args, argTypes := #[t, t] }) {id f off sz len N9 cap y1 y2 y3 y4 : Nat} {el : TypeId}
    (hl : js E s.ae args.toList = some [.cS id f off sz len, .gb N9 0 1 1 cap]) (aR : nth s.G N9 = some (.row [.eT y1 y2 y3 y4] el))
    {i : TI} (hi : E.ti t = some i) {elem esz eb : Nat} {ag : Bool} {z : AV} (hk : i.k = .sl elem esz ag eb (some z)) (vq : esz = 1) (vp : 1 ≤ eb) (hz : z.cells.length = esz) (j9 : z.aH = true)
    {v : AV} {G' : List GO} (ha : dc s.G elem esz eb (.cS id f off sz len) [.eT y1 y2 y3 y4] = some (true, v, G')) :
    bj E R w β s a o ((s.aX G').put o.dst (.v v)) := by
  have hr := dJ h hl
  generalize hv : args.toList.map a.eval = vs at hr
  have hx := cE (E := E) (w := w) ho vs hv
  cases hr with
  | @cons _ cx _ _ h0 h1 =>
  cases h1 with
  | @cons _ cy _ _ h1 h2 =>
  cases h2
  obtain ⟨eh, u, e1, e2, e3, e4, e5, e6⟩ := bE E hi
  rw [hk] at e5
  obtain ⟨ie, ue, rfl, f1, f2, f3, f4, f5, f6⟩ := ca e5
  have lf : (⟨[cx, cy]⟩ : Array Value) = #[cx, cy] := rfl
  subst vq
  cases h1 with
  | @gb _ _ _ _ _ b hb dA =>
  obtain ⟨us, k1, k2, k3, k4⟩ := h.g.obj N9 _ _ aR hb
  have Cz : us.length = 1 := k2.length.symm
  have iP : ∀ j v, us[j]? = some v → w.cell? ((⟨b, 0, none⟩ : Addr).add j) = some v := fun j v hj => by
    rw [bJ, Nat.zero_add, cell_of_row w b j _ el (0, 0) k1]
    simpa using hj
  unfold dc at ha
  simp only at ha
  split at ha
  · rename_i es aQ e' eI
    split at ha
    · rename_i bD
      simp only [Bool.and_eq_true] at bD
      obtain ⟨⟨q1, q2⟩, q3⟩ := bD
      have q1 := Nat.eq_of_beq_eq_true q1
      have q2 := Nat.eq_of_beq_eq_true q2
      have q3 := Nat.eq_of_beq_eq_true q3
      subst q1; subst q2; subst q3
      injection ha with ha; injection ha with hc ha; injection ha with p q
      subst p; subst q
      simp only [Bool.and_eq_true, decide_eq_true_eq] at hc
      refine gY h (cx := cx) (cy := .slice (some ⟨b, 0, none⟩) 1 cap) (t := t) (u := t) (us := us) (fun hh => ?_) vp hz j9 f2 f3 f6 h0 (y := .eT y1 y2 y3 y4) (ys := []) (fun zc jV => ?_) (fun e he => ?_) k2 k3 (by simpa using Cz) eI hc.1.1.1 hc.1.1.2 hc.1.2 hc.2
      · rw [hx]
        simp only [builtin, lf, Sem.run_bind, hh, Result.andThen_ok, Sem.run_pure]
      · refine ⟨fun hn => absurd hn (by simp), fun hh xu xw => run_append_nil (P := E.P) w t o.type e' ie zc e2 f1 jV _ _ cap us (by rw [Cz, f2]) iP hh xu xw, fun _ b sLen dx qh s6 DG hg xu xw => run_append_grow (P := E.P) w t o.type e' ie zc e2 f1 jV b sLen dx qh s6 DG _ _ cap us (by rw [Cz, f2]) iP hg xu xw, fun _ g k sLen dx cur hg cz lm => eM (P := E.P) w t o.type e' ie e2 f1 g k sLen dx cur hg _ _ cap us (by rw [Cz, f2]) iP k3 cz lm⟩
      · rcases List.mem_cons.1 he with rfl | he
        · exact ⟨rfl, rfl⟩
        · cases he
    · cases ha
  · cases ha
def qi : List AV → Bool
  | [] => true
  | .list .nil _ [] :: l => qi l
  | _ :: _ => false
theorem v8 {g : Nat → AV} (hg : ∀ j, (g j).cells = [g j]) (hR : ∀ j sz c, Rel R w (.list .nil sz []) c → Rel R w (g j) c) : ∀ {es : List AV} {vs : List Value} (k : Nat), qi es = true → ay R w (ap es) vs → ay R w (ap ((List.range' k es.length).map g)) vs
  | [], _, _, _, h => h
  | e :: es, vs, k, hn, h => by
    unfold qi at hn
    split at hn
    · rename_i h0; cases h0
    · rename_i sz l h0
      cases h0
      simp only [ap, AV.cells, List.singleton_append] at h
      cases h with
      | cons h1 h2 =>
      simp only [List.length_cons, List.range'_succ, List.map_cons, ap, hg, List.singleton_append]
      exact .cons (hR k _ _ h1) (v8 hg hR (k + 1) hn h2)
    · cases hn
theorem aJ.Fq (h : aJ E R w β s a) {id : Nat} {es : List AV} {el : TypeId} (aR : nth s.G id = some (.cW es 1 el)) (hn : qi es = true) {g : Nat → AV} (hg : ∀ j, (g j).cells = [g j]) (ht : ∀ j, (g j).aH = true) (hR : ∀ j sz c, Rel R w (.list .nil sz []) c → Rel R w (g j) c) :
    aJ E R w β (s.aX (aq s.G id (.cW ((List.range es.length).map g) 1 el))) a ∧ Step R w β s.boxes R w β s.boxes := by
  refine ⟨⟨⟨by simp [St.aX, h.g.len], fun i go r h1 h2 => ?_, h.g.inj, h.g.wf, h.g.cw, h.g.lo⟩, h.b, h.t, h.n, h.d⟩, Step.refl _ _ _ _⟩
  rcases bH h1 with ⟨rfl, rfl, _⟩ | ⟨_, h1⟩
  · have bg := h.g.obj id _ _ aR h2
    have hlen : ((List.range es.length).map g).length = es.length := by simp
    cases r with
    | none => exact bg.elim
    | bh _ => exact bg.elim
    | aG _ => exact bg.elim
    | aK =>
      have he : es = [] := bg
      subst he
      exact rfl
    | tok f b c k =>
      obtain ⟨q1, q2, q3, cur, vs, q4, q5, q6, q7, q8, q9, VH, VI⟩ := bg
      refine ⟨q1, by rw [hlen]; exact q2, fun e he => ?_, cur, vs, q4, q5, q6, q7, q8, ?_, VH, VI⟩
      · obtain ⟨j, _, rfl⟩ := List.mem_map.1 he
        exact ⟨by rw [hg]; rfl, ht j⟩
      · rw [List.range_eq_range']
        exact v8 hg hR 0 hn q9
  · exact h.g.obj i go r h1 h2
end
end Go.Am
namespace Go.Am
open Go
open Go.ChangeMaps (setBlock)
def kF (x : Obj) : Prop := match x with
  | .cells .. => False
  | _ => True
theorem oC {w : World} {b : Nat} {x : Obj} (h : w.heap[b]? = some x) (hn : kF x) (o : Nat) : w.cell? ⟨b, o, none⟩ = none := by
  simp only [World.cell?, h]
  cases x <;> first | rfl | exact hn.elim
def World.put (w : World) (b : Nat) (x : Obj) : World := { w with heap := w.heap.setIfInBounds b x }
theorem kh (w : World) (b k : Nat) (x : Obj) (h : k ≠ b) : (World.put w b x).heap[k]? = w.heap[k]? := Array.getElem?_setIfInBounds_ne (Ne.symm h)
theorem fc (w : World) (b : Nat) (x : Obj) (h : b < w.heap.size) : (World.put w b x).heap[b]? = some x := by simp [World.put, h]
@[simp] theorem O5 (w : World) (b : Nat) (x : Obj) : (World.put w b x).heap.size = w.heap.size := by simp [World.put]
section setobj
variable {E : Env} {R : af} {w : World} {β : Nat → Nat} {s : St} {a : Act}
theorem kG {b : Nat} {x x' : Obj} (hx : w.heap[b]? = some x) (hn : kF x) (Ib : kF x') (hl : ∀ r, x = .loop r → ∃ r', x' = .loop r' ∧ ly r r') : Ext R w R (World.put w b x') :=
  ⟨fun _ _ h => h, fun b' o h => by
    by_cases e : b' = b
    · subst e
      rw [oC hx hn, oC (fc w b' x' (a7 hx)) Ib]
    · exact bl (kh w b b' x' e) o, fun _ ro h => ⟨ro, h, bF.refl ro⟩, fun b' r hb => by
    by_cases e : b' = b
    · subst e
      rw [hx] at hb
      obtain ⟨r', rfl, h2⟩ := hl r (Option.some.inj hb)
      exact ⟨r', fc w b' _ (a7 hx), h2⟩
    · exact ⟨r, (kh w b b' x' e).trans hb, rfl, rfl, rfl, rfl, rfl⟩⟩
theorem aJ.setObj (h : aJ E R w β s a) {id b : Nat} {x x' : Obj} {go' : GO} (aR : nth R.obj id = some (.bh b)) (hx : w.heap[b]? = some x) (hn : kF x) (Ib : kF x') (hl : ∀ r, x = .loop r → ∃ r', x' = .loop r' ∧ ly r r') (eI : eH R (World.put w b x') go' (.bh b)) :
    aJ E R (World.put w b x') β (s.aX (aq s.G id go')) a ∧ Step R w β s.boxes R (World.put w b x') β s.boxes := by
  have hex := kG (R := R) hx hn Ib hl
  refine ⟨⟨⟨by simp [St.aX, h.g.len], fun fJ go ro hg gk => ?_, h.g.inj, fun b' o' nw => by have := h.g.wf b' o' nw; simpa using this, fun g di hg => (h.g.cw g di hg).mono hex, by first | exact h.g.lo | exact Nat.le_succ_of_le h.g.lo⟩, ?_, h.t.mono hex, h.n, h.d⟩, ?_⟩
  · rcases bH hg with ⟨rfl, rfl, _⟩ | ⟨bS, vS⟩
    · rw [aR] at gk
      cases gk
      exact eI
    · refine (h.g.obj fJ go ro vS gk).mono hex (fun b' gE => kh w _ b' _ (fun e => bS ?_)) (fun _ _ _ hi => hi)
      subst e
      exact h.g.inj id fJ _ _ b' aR gk rfl gE
  · exact h.b.bL hex (fun k di eD => kh w _ _ _ (h.AJ aR eD)) (fun _ _ _ _ hi => hi) (fun _ _ _ hl => hl)
  · have sH : Own R β s.boxes b := .inl ⟨id, _, aR, rfl⟩
    exact ⟨hex, rfl, rfl, rfl, by simp, fun b' _ hn => kh w _ b' _ (fun e => hn (e ▸ sH)), fun _ _ hb => hb, fun b o hi _ _ => hi⟩
end setobj
section maps
variable {E : Env} {R : af} {w : World} {β : Nat → Nat} {s : St} {a : Act} {o : Oper}
theorem Fs {t : TypeId} {i : TI} (hi : E.ti t = some i) : i.ek = qA E.P t := by
  have := E.Dl t i hi
  unfold Dk at this
  split at this
  · split at this
    · cases this; rfl
    · cases this
  · cases this
theorem il {e : EK} {a b : AV} {r : Bool} (h : HC e a b = some r) : jH e a b = some r := by
  unfold HC at h
  split at h
  · rename_i he
    cases hc : (e.wide && !mz a b) with
    | true => rw [hc] at h; cases h
    | false => rw [hc] at h; cases h; exact he
  · exact h
theorem Ft {e : EK} {a b : AV} (h : HC e a b = some true) (he : e.wide = true) : mz a b = true := by
  have := il h
  unfold HC at h
  rw [this] at h
  simp only [he, Bool.true_and] at h
  cases hs : mz a b with
  | true => rfl
  | false => rw [hs] at h; cases h
def za (e : EK) (d : TypeDesc) : Prop := (e = .bool ∧ d = .bool) ∨ (e = .int ∧ ∃ k, d = .int k) ∨ (e = .str ∧ d = .string) ∨ (e.wide = true ∧ ((∃ fs, d = .struct fs) ∨ ∃ n t, d = .array n t))
theorem qO {P : Program} {t : TypeId} (h : (qA P t).plain = true) : ∃ d, P.underlying t = some d ∧ za (qA P t) d := by
  have key : ∀ {e : EK}, e = mQ P 6 t → e.plain = true → ∃ d, P.underlying t = some d ∧ za e d := by
    intro e he h
    unfold mQ at he
    split at he
    · rename_i hu; exact ⟨_, hu, .inl ⟨he, rfl⟩⟩
    · rename_i k hu; exact ⟨_, hu, .inr (.inl ⟨he, k, rfl⟩)⟩
    · rename_i hu; exact ⟨_, hu, .inr (.inr (.inl ⟨he, rfl⟩))⟩
    · rename_i fs hu
      split at he
      · subst he; cases h
      · split at he
        · subst he; exact ⟨_, hu, .inr (.inr (.inr ⟨rfl, .inl ⟨_, rfl⟩⟩))⟩
        · subst he; cases h
    · rename_i m e' hu
      split at he
      · subst he; exact ⟨_, hu, .inr (.inr (.inr ⟨rfl, .inr ⟨_, _, rfl⟩⟩))⟩
      · subst he; cases h
    · subst he; cases h
  unfold qA at h ⊢
  split
  · rename_i l hl
    rw [hl] at h
    simp only at h
    split at h
    · simp [EK.plain] at h
    · rename_i hg
      rw [if_neg hg]
      exact key hl.symm rfl
  · rename_i k hk
    exact key rfl (by
      split at h
      · rename_i l hl; exact absurd hl (hk l)
      · exact h)
theorem xx {a b : AV} (h : sC a b = true) {x y : Value} (hx : Rel R w a x) (hy : Rel R w b y) : x = y := by
  unfold sC at h
  split at h
  · cases hx; cases hy; rw [eq_of_beq h]
  · rw [Bool.and_eq_true, decide_eq_true_eq] at h
    cases hx; cases hy; rw [h.1, eq_of_beq h.2]
  · cases hx; cases hy; rw [eq_of_beq h]
  · cases h
theorem oD : ∀ {xs ys : List AV} {vs us : List Value}, ob xs ys = true → ay R w xs vs → ay R w ys us → vs = us
  | [], [], _, _, _, .nil, .nil => rfl
  | a :: xs, b :: ys, _, _, h, .cons h1 h2, .cons h3 h4 => by
    unfold ob at h
    rw [Bool.and_eq_true] at h
    rw [xx h.1 h1 h3, oD h.2 h2 h4]
  | [], _ :: _, _, _, h, _, _ => by cases h
  | _ :: _, [], _, _, h, _, _ => by cases h
theorem zb {a b : AV} (h : mz a b = true) {x y : Value} (hx : Rel R w a x) (hy : Rel R w b y) : x = y := by
  unfold mz at h
  split at h
  · cases hx with
    | agg hx _ => cases hy with
      | agg hy _ => rw [oD h hx hy]
  · cases h
theorem qP {ek : TypeId → EK} {d : Nat} {em : Bool} (ih : ∀ (t : TypeId) (a : AV) (r : Bool) (x : Value), jH (ek t) a a = some r → Rel R w a x → (Instr.checkKey em d t x).run E.P w = .ok () w) {xs : List AV} {vs : List Value}
    (hx : ay R w xs vs) (pV : ∀ x ∈ vs, x.oneCell' = true) :
    ∀ (fs : List Field) (l : KB) (r : Bool), Ax E.P ek fs = some l → pR l xs xs = some r →
      (do for f in fs do if f.name ≠ "_" then Instr.checkKey em d f.type (← part f.type ⟨vs⟩ f.offset) : Sem Unit).run E.P w = .ok () w
  | [], l, r, hl, hr => by simp
  | f :: fs, l, r, hl, hr => by
    unfold Ax at hl
    split at hl
    · cases hl
    · rename_i hn
      split at hl
      · rename_i i u l' h1 h2 h3
        cases hl
        unfold pR at hr
        split at hr
        · rename_i a b ha hb
          rw [ha] at hb
          cases hb
          split at hr
          · rename_i p q hp hq
            obtain ⟨c, k1, k2⟩ := iz h1 h2 hx pV ha
            have bS : f.name ≠ "_" := by simpa using hn
            have sK := qP ih hx pV fs l' q h3 hq
            simp only [List.forIn_cons, Sem.run_bind, if_pos bS, Result.andThen_ok, k1, ih f.type a p c hp k2, Sem.run_pure]
            simpa only [Sem.run_bind, Sem.run_pure] using sK
          · cases hr
        · cases hr
      · cases hl
theorem oE {ek : EK} {d : Nat} {em : Bool} {e : TypeId} {i : TypeInfo} {u : TypeDesc} (h1 : E.P.info? e = some i) (h2 : E.P.underlying e = some u) (ih : ∀ (a : AV) (r : Bool) (x : Value), jH ek a a = some r → Rel R w a x → (Instr.checkKey em d e x).run E.P w = .ok () w) {xs : List AV} {vs : List Value}
    (hx : ay R w xs vs) (pV : ∀ x ∈ vs, x.oneCell' = true) :
    ∀ (m k : Nat) (r : Bool), pR (su i.size (gS u) ek m k) xs xs = some r →
      (do for j in List.range' k m do Instr.checkKey em d e (← part e ⟨vs⟩ (j * (← sizeOf e))) : Sem Unit).run E.P w = .ok () w
  | 0, k, r, hr => by simp
  | m + 1, k, r, hr => by
    unfold su pR at hr
    split at hr
    · rename_i a b ha hb
      rw [ha] at hb
      cases hb
      split at hr
      · rename_i p q hp hq
        obtain ⟨c, k1, k2⟩ := iz h1 h2 hx pV ha
        have sK := oE h1 h2 ih hx pV m (k + 1) q hq
        simp only [List.range'_succ, List.forIn_cons, Sem.run_bind, run_sizeOf w h1, Result.andThen_ok, k1, ih a p c hp k2, Sem.run_pure]
        simpa only [Sem.run_bind, Sem.run_pure] using sK
      · cases hr
    · cases hr
theorem kH (em : Bool) : ∀ (n d : Nat), n ≤ d → ∀ (t : TypeId) (a : AV) (r : Bool) (x : Value), jH (mQ E.P n t) a a = some r → Rel R w a x → (Instr.checkKey em d t x).run E.P w = .ok () w
  | 0, _, _, t, a, r, x, h, _ => by simp [mQ, jH] at h
  | n + 1, 0, hd, _, _, _, _, _, _ => by omega
  | n + 1, d + 1, hd, t, a, r, x, h, hx => by
    unfold mQ at h
    split at h
    · rename_i hu
      unfold jH at h
      split at h
      all_goals (try contradiction)
      cases hx
      simp [Instr.checkKey, run_underlying hu]
    · rename_i k hu
      unfold jH at h
      split at h
      all_goals (try contradiction)
      cases hx
      simp [Instr.checkKey, run_underlying hu]
    · rename_i hu
      unfold jH at h
      split at h
      all_goals (try contradiction)
      cases hx
      simp [Instr.checkKey, run_underlying hu]
    · rename_i fs hu
      split at h
      · simp [jH] at h
      · split at h
        · rename_i l hl
          unfold jH at h
          split at h
          all_goals (try contradiction)
          rename_i wX xs ys hk RU
          cases hk
          cases RU
          cases hx with
          | agg hx pV =>
          have := qP (em := em) (fun t a r x => kH em n d (by omega) t a r x) hx pV fs.toList _ r hl h
          rw [Instr.checkKey]
          simp only [Sem.run_bind, run_underlying hu, Result.andThen_ok]
          rw [← Array.forIn_toList]
          simp only [Sem.run_bind, Sem.run_pure] at this ⊢
          exact this
        · simp [jH] at h
    · rename_i m e hu
      split at h
      · rename_i i ud g1 g2
        unfold jH at h
        split at h
        all_goals (try contradiction)
        rename_i wX xs ys hk RU
        cases hk
        cases RU
        cases hx with
        | agg hx pV =>
        have := oE (em := em) g1 g2 (fun a r x => kH em n d (by omega) e a r x) hx pV m 0 r h
        rw [Instr.checkKey]
        simp only [Sem.run_bind, run_underlying hu, Result.andThen_ok]
        simp only [Std.Legacy.Range.forIn_eq_forIn_range', Std.Legacy.Range.size, Nat.sub_zero, Nat.add_one_sub_one, Nat.div_one]
        simp only [Sem.run_bind, Sem.run_pure] at this ⊢
        exact this
      · simp [jH] at h
    · simp [jH] at h
theorem jw {e : EK} {d : TypeDesc} (hd : (e = .bool ∧ d = .bool) ∨ (e = .int ∧ ∃ k, d = .int k) ∨ (e = .str ∧ d = .string)) {k k' : AV} {r : Bool} {x y : Value} (h : jH e k k' = some r) (hx : Rel R w k x) (hy : Rel R w k' y) : Instr.sameNow d x y = some r ∧ (r = true → x = y) := by
  rcases hd with ⟨rfl, rfl⟩ | ⟨rfl, n, rfl⟩ | ⟨rfl, rfl⟩
  · unfold jH at h
    split at h
    all_goals (try contradiction)
    cases hx; cases hy; cases h
    exact ⟨rfl, fun e => by rw [eq_of_beq e]⟩
  · unfold jH at h
    split at h
    all_goals (try contradiction)
    split at h
    · rename_i hk
      subst hk
      cases hx; cases hy; cases h
      exact ⟨by simp [Instr.sameNow], fun e => by rw [eq_of_beq e]⟩
    · cases h
  · unfold jH at h
    split at h
    all_goals (try contradiction)
    cases hx; cases hy; cases h
    refine ⟨?_, fun e => by rw [eq_of_beq e]⟩
    simp only [Instr.sameNow]
    rw [beq_toListBytes, ByteArray.toList_eq, ByteArray.toList_eq]
theorem ta {e : EK} {d : TypeDesc} (hd : (e = .bool ∧ d = .bool) ∨ (e = .int ∧ ∃ k, d = .int k) ∨ (e = .str ∧ d = .string)) {k : AV} {x : Value} (hx : Rel R w k x) : ∀ {es : List (AV × AV)} {av : List MapEntry} {r : Option AV}, cJ R w es av → gd e k es = some r →
    ∀ i, match r with
      | none => Instr.findNow d x av i = some none
      | some v => ∃ j c, Instr.findNow d x av i = some (some (j, c)) ∧ Rel R w v c
  | [], [], r, _, h, i => by simp [gd] at h; subst h; rfl
  | [], _ :: _, _, h, _, _ => h.elim
  | _ :: _, [], _, h, _, _ => h.elim
  | (k', v) :: es, en :: av, r, h, hf, i => by
    unfold gd at hf
    split at hf
    · rename_i he
      cases hf
      have h1 := (jw hd (il he) hx h.1).1
      exact ⟨i, en.val, by simp [Instr.findNow, h1], h.2.1⟩
    · rename_i he
      have h1 := (jw hd (il he) hx h.1).1
      have := ta hd hx h.2.2 hf (i + 1)
      split at this
      · simp only [Instr.findNow, h1]; exact this
      · obtain ⟨j, c, q1, q2⟩ := this
        exact ⟨j, c, by simp only [Instr.findNow, h1]; exact q1, q2⟩
    · cases hf
theorem CE {e : EK} {d : TypeDesc} (hd : (e = .bool ∧ d = .bool) ∨ (e = .int ∧ ∃ k, d = .int k) ∨ (e = .str ∧ d = .string)) {k v : AV} {x c : Value} (hx : Rel R w k x) (hv : Rel R w v c) : ∀ {es es' : List (AV × AV)} {av : List MapEntry}, cJ R w es av → pS e k v es = some es' →
    ∀ i, (Instr.findNow d x av i = some none ∧ jI e k es = av.length ∧ ∀ b, cJ R w es' (av ++ [{ key := x, val := c, born := b }])) ∨
      ∃ j c', Instr.findNow d x av i = some (some (i + j, c')) ∧ (j = jI e k es ∧ ∃ en, av[j]? = some en ∧ en.key = x ∧ en.val = c') ∧ cJ R w es' (av.modify j fun e => { e with key := x, val := c })
  | [], es', [], _, h, i => by simp [pS] at h; subst h; exact .inl ⟨rfl, rfl, fun b => ⟨hx, hv, trivial⟩⟩
  | [], _, _ :: _, h, _, _ => h.elim
  | _ :: _, _, [], h, _, _ => h.elim
  | (k', v') :: es, es', en :: av, h, hf, i => by
    unfold pS at hf
    split at hf
    · rename_i he
      cases hf
      obtain ⟨h1, h2⟩ := jw hd (il he) hx h.1
      have hm : yA e k k' = true := by unfold yA; rw [he]
      exact .inr ⟨0, en.val, by simp [Instr.findNow, h1], ⟨by simp [jI, hm], en, rfl, (h2 rfl).symm, rfl⟩, by simp only [List.modify_zero_cons]; exact ⟨hx, hv, h.2.2⟩⟩
    · rename_i he
      have h1 := (jw hd (il he) hx h.1).1
      split at hf
      · rename_i r hr
        cases hf
        have hm : yA e k k' = false := by unfold yA; rw [he]
        rcases CE hd hx hv h.2.2 hr (i + 1) with ⟨q1, q0, q2⟩ | ⟨j, c', q1, q2, q3⟩
        · exact .inl ⟨by simp only [Instr.findNow, h1]; exact q1, by simp [jI, hm, q0], fun b => ⟨h.1, h.2.1, q2 b⟩⟩
        · refine .inr ⟨j + 1, c', by simp only [Instr.findNow, h1]; rw [q1, Nat.add_assoc, Nat.add_comm 1 j], ?_, ?_⟩
          · obtain ⟨e0, RV, e1, e2⟩ := q2
            exact ⟨by simp [jI, hm, e0], RV, by simpa using e1, e2⟩
          · rw [List.modify_succ_cons]
            exact ⟨h.1, h.2.1, q3⟩
      · cases hf
    · cases hf
theorem nD {kt : TypeId} {j : TI} (hj : E.ti kt = some j) {k : AV} {x : Value} (hx : Rel R w k x) : ∀ {es : List (AV × AV)} {av : List MapEntry} {r : Option AV}, cJ R w es av → gd j.ek k es = some r →
    ∀ i, match r with
      | none => (Instr.findAsking kt x av i).run E.P w = .ok none w
      | some v => ∃ n c, (Instr.findAsking kt x av i).run E.P w = .ok (some (n, c)) w ∧ Rel R w v c
  | [], [], r, _, h, i => by simp [gd] at h; subst h; simp [Instr.findAsking]
  | [], _ :: _, _, h, _, _ => h.elim
  | _ :: _, [], _, h, _, _ => h.elim
  | (k', v) :: es, en :: av, r, h, hf, i => by
    unfold gd at hf
    split at hf
    · rename_i he
      cases hf
      have h1 := (iA hj (il he) hx h.1).1
      exact ⟨i, en.val, by simp [Instr.findAsking, Op.equal, Op.maxDepth, h1], h.2.1⟩
    · rename_i he
      have h1 := (iA hj (il he) hx h.1).1
      have := nD hj hx h.2.2 hf (i + 1)
      split at this
      · simp only [Instr.findAsking, Op.equal, Op.maxDepth, Sem.run_bind, h1, Result.andThen_ok]; exact this
      · obtain ⟨n, c, q1, q2⟩ := this
        exact ⟨n, c, by simp only [Instr.findAsking, Op.equal, Op.maxDepth, Sem.run_bind, h1, Result.andThen_ok]; exact q1, q2⟩
    · cases hf
theorem mY {kt : TypeId} {j : TI} (hj : E.ti kt = some j) (hw : j.ek.wide = true) {k v : AV} {x c : Value} (hx : Rel R w k x) (hv : Rel R w v c) : ∀ {es es' : List (AV × AV)} {av : List MapEntry}, cJ R w es av → pS j.ek k v es = some es' →
    ∀ i, ((Instr.findAsking kt x av i).run E.P w = .ok none w ∧ jI j.ek k es = av.length ∧ ∀ b, cJ R w es' (av ++ [{ key := x, val := c, born := b }])) ∨
      ∃ n c', (Instr.findAsking kt x av i).run E.P w = .ok (some (i + n, c')) w ∧ (n = jI j.ek k es ∧ ∃ en, av[n]? = some en ∧ en.key = x ∧ en.val = c') ∧ cJ R w es' (av.modify n fun e => { e with key := x, val := c })
  | [], es', [], _, h, i => by simp [pS] at h; subst h; exact .inl ⟨by simp [Instr.findAsking], rfl, fun b => ⟨hx, hv, trivial⟩⟩
  | [], _, _ :: _, h, _, _ => h.elim
  | _ :: _, _, [], h, _, _ => h.elim
  | (k', v') :: es, es', en :: av, h, hf, i => by
    unfold pS at hf
    split at hf
    · rename_i he
      cases hf
      have h1 := (iA hj (il he) hx h.1).1
      have h2 := zb (Ft he hw) hx h.1
      have hm : yA j.ek k k' = true := by unfold yA; rw [he]
      exact .inr ⟨0, en.val, by simp [Instr.findAsking, Op.equal, Op.maxDepth, h1], ⟨by simp [jI, hm], en, rfl, h2.symm, rfl⟩, by simp only [List.modify_zero_cons]; exact ⟨hx, hv, h.2.2⟩⟩
    · rename_i he
      have h1 := (iA hj (il he) hx h.1).1
      split at hf
      · rename_i r hr
        cases hf
        have hm : yA j.ek k k' = false := by unfold yA; rw [he]
        rcases mY hj hw hx hv h.2.2 hr (i + 1) with ⟨q1, q0, q2⟩ | ⟨n, c', q1, q2, q3⟩
        · exact .inl ⟨by simp only [Instr.findAsking, Op.equal, Op.maxDepth, Sem.run_bind, h1, Result.andThen_ok]; exact q1, by simp [jI, hm, q0], fun b => ⟨h.1, h.2.1, q2 b⟩⟩
        · refine .inr ⟨n + 1, c', ?_, ?_, ?_⟩
          · simp only [Instr.findAsking, Op.equal, Op.maxDepth, Sem.run_bind, h1, Result.andThen_ok]
            rw [show i + (n + 1) = i + 1 + n by omega]
            exact q1
          · obtain ⟨e0, RV, e1, e2⟩ := q2
            exact ⟨by simp [jI, hm, e0], RV, by simpa using e1, e2⟩
          · rw [List.modify_succ_cons]
            exact ⟨h.1, h.2.1, q3⟩
      · cases hf
    · cases hf
theorem iq {kt : TypeId} {d : TypeDesc} (hu : E.P.underlying kt = some d) (hd : (∃ fs, d = .struct fs) ∨ ∃ n t, d = .array n t) (x : Value) (es : List MapEntry) : (Instr.findKey kt x es).run E.P w = (Instr.findAsking kt x es).run E.P w := by
  cases es with
  | nil => simp [Instr.findKey, run_underlying hu, Instr.findNow, Instr.findAsking]
  | cons e es => rcases hd with ⟨fs, rfl⟩ | ⟨n, t, rfl⟩ <;> simp [Instr.findKey, run_underlying hu, Instr.findNow, Instr.sameNow]
theorem oF {kt : TypeId} {j : TI} (hj : E.ti kt = some j) {d : TypeDesc} (hu : E.P.underlying kt = some d) (hd : za j.ek d) {k : AV} {x : Value} (hx : Rel R w k x) {es : List (AV × AV)} {av : List MapEntry} (hM : cJ R w es av) (hf : gd j.ek k es = some none) :
    (Instr.findKey kt x av).run E.P w = .ok none w := by
  have tc : ((j.ek = .bool ∧ d = .bool) ∨ (j.ek = .int ∧ ∃ k, d = .int k) ∨ (j.ek = .str ∧ d = .string)) → (Instr.findKey kt x av).run E.P w = .ok none w := fun hd => by
    have := ta hd hx hM hf 0
    simp [Instr.findKey, run_underlying hu, this]
  rcases hd with hd | hd | hd | ⟨_, hd⟩
  · exact tc (.inl hd)
  · exact tc (.inr (.inl hd))
  · exact tc (.inr (.inr hd))
  · rw [iq hu hd]
    exact nD hj hx hM hf 0
theorem oG {kt : TypeId} {j : TI} (hj : E.ti kt = some j) {d : TypeDesc} (hu : E.P.underlying kt = some d) (hd : za j.ek d) {k : AV} {x : Value} (hx : Rel R w k x) {es : List (AV × AV)} {av : List MapEntry} {v : AV} (hM : cJ R w es av) (hf : gd j.ek k es = some (some v)) :
    ∃ n c, (Instr.findKey kt x av).run E.P w = .ok (some (n, c)) w ∧ Rel R w v c := by
  have tc : ((j.ek = .bool ∧ d = .bool) ∨ (j.ek = .int ∧ ∃ k, d = .int k) ∨ (j.ek = .str ∧ d = .string)) → ∃ n c, (Instr.findKey kt x av).run E.P w = .ok (some (n, c)) w ∧ Rel R w v c := fun hd => by
    obtain ⟨n, c, q1, q2⟩ := ta hd hx hM hf 0
    exact ⟨n, c, by simp [Instr.findKey, run_underlying hu, q1], q2⟩
  rcases hd with hd | hd | hd | ⟨_, hd⟩
  · exact tc (.inl hd)
  · exact tc (.inr (.inl hd))
  · exact tc (.inr (.inr hd))
  · rw [iq hu hd]
    exact nD hj hx hM hf 0
theorem nE {kt : TypeId} {j : TI} (hj : E.ti kt = some j) {d : TypeDesc} (hu : E.P.underlying kt = some d) (hd : za j.ek d) {k v : AV} {x c : Value} (hx : Rel R w k x) (hv : Rel R w v c) {es es' : List (AV × AV)} {av : List MapEntry} (hM : cJ R w es av) (hf : pS j.ek k v es = some es') :
    ((Instr.findKey kt x av).run E.P w = .ok none w ∧ jI j.ek k es = av.length ∧ ∀ b, cJ R w es' (av ++ [{ key := x, val := c, born := b }])) ∨
      ∃ n c', (Instr.findKey kt x av).run E.P w = .ok (some (n, c')) w ∧ (n = jI j.ek k es ∧ ∃ en, av[n]? = some en ∧ en.key = x ∧ en.val = c') ∧ cJ R w es' (av.modify n fun e => { e with key := x, val := c }) := by
  have tc : ((j.ek = .bool ∧ d = .bool) ∨ (j.ek = .int ∧ ∃ k, d = .int k) ∨ (j.ek = .str ∧ d = .string)) → ((Instr.findKey kt x av).run E.P w = .ok none w ∧ jI j.ek k es = av.length ∧ ∀ b, cJ R w es' (av ++ [{ key := x, val := c, born := b }])) ∨
      ∃ n c', (Instr.findKey kt x av).run E.P w = .ok (some (n, c')) w ∧ (n = jI j.ek k es ∧ ∃ en, av[n]? = some en ∧ en.key = x ∧ en.val = c') ∧ cJ R w es' (av.modify n fun e => { e with key := x, val := c }) := fun hd => by
    rcases CE hd hx hv hM hf 0 with ⟨q1, q2⟩ | ⟨n, c', q1, q2, q3⟩
    · exact .inl ⟨by simp [Instr.findKey, run_underlying hu, q1], q2⟩
    · rw [Nat.zero_add] at q1
      exact .inr ⟨n, c', by simp [Instr.findKey, run_underlying hu, q1], q2, q3⟩
  rcases hd with hd | hd | hd | ⟨hw, hd⟩
  · exact tc (.inl hd)
  · exact tc (.inr (.inl hd))
  · exact tc (.inr (.inr hd))
  · rcases mY hj hw hx hv hM hf 0 with ⟨q1, q2⟩ | ⟨n, c', q1, q2, q3⟩
    · exact .inl ⟨by rw [iq hu hd]; exact q1, q2⟩
    · rw [Nat.zero_add] at q1
      exact .inr ⟨n, c', by rw [iq hu hd]; exact q1, q2, q3⟩
theorem jO {kt : TypeId} {d : TypeDesc} (hu : E.P.underlying kt = some d) (hd : d = .bool ∨ (∃ k, d = .int k) ∨ d = .string) (b : Bool) (x : Value) (n : Nat) : (Instr.checkKey b (n + 1) kt x).run E.P w = .ok () w := by
  rcases hd with rfl | ⟨k, rfl⟩ | rfl <;> simp [Instr.checkKey, run_underlying hu]
theorem run_checkKey {kt : TypeId} {j : TI} (hj : E.ti kt = some j) {d : TypeDesc} (hu : E.P.underlying kt = some d) (hd : za j.ek d) {k : AV} (hk : fM j.ek k = true) {x : Value} (hx : Rel R w k x) (b : Bool) : (Instr.checkKey b 10000 kt x).run E.P w = .ok () w := by
  rcases hd with ⟨_, rfl⟩ | ⟨_, n, rfl⟩ | ⟨_, rfl⟩ | ⟨hw, _⟩
  · exact jO hu (.inl rfl) b x 9999
  · exact jO hu (.inr (.inl ⟨n, rfl⟩)) b x 9999
  · exact jO hu (.inr (.inr rfl)) b x 9999
  · have vV := Fs hj
    obtain ⟨fs, J5⟩ : ∃ fs, j.ek = .st fs := by
      cases he : j.ek with
      | st fs => exact ⟨fs, rfl⟩
      | _ => rw [he] at hw; cases hw
    rw [J5] at hk
    unfold fM at hk
    split at hk
    all_goals (try contradiction)
    rename_i wX cs h1
    cases h1
    rw [Bool.and_eq_true] at hk
    obtain ⟨r, hr⟩ := Option.isSome_iff_exists.1 hk.2
    have he : jH (mQ E.P 6 kt) (.agg cs) (.agg cs) = some r := by
      rw [J5] at vV
      have : mQ E.P 6 kt = .st fs := by
        unfold qA at vV
        split at vV
        · rename_i l hl
          split at vV
          · cases vV
          · rw [hl, vV]
        · rename_i k eD
          exact absurd vV.symm (eD fs)
      rw [this]
      unfold jH
      exact hr
    exact kH b 6 10000 (by omega) kt (.agg cs) r x he hx
theorem DK (h : aJ E R w β s a) {m : SV} {es : List (AV × AV)} {x : Value} (hm : mapOf s m = some es) (hx : lj R w β m x) :
    ∃ av, cJ R w es av ∧ ((x = .map none ∧ av = []) ∨ ∃ b es' clock, x = .map (some b) ∧ w.heap[b]? = some (.map es' clock) ∧ es'.toList = av) := by
  unfold mapOf at hm
  split at hm
  · cases hm
    have qI : Rel R w .jW x := hx
    cases qI
    exact ⟨[], trivial, .inl ⟨rfl, rfl⟩⟩
  · rename_i id
    have qI : Rel R w (.map id) x := hx
    cases qI with
    | map hb =>
    split at hm
    · rename_i es' hg
      cases hm
      obtain ⟨av, clock, q1, q2, _⟩ := h.g.obj id _ _ hg hb
      exact ⟨av.toList, q2, .inr ⟨_, av, clock, rfl, q1, rfl⟩⟩
    · cases hm
  · cases hm
theorem zd {t : TypeId} {z : AV} {i : TypeInfo} (h1 : E.P.info? t = some i) (h2 : dW i = some z) : ∃ c, (zeroValue t).run E.P w = .ok c w ∧ Rel R w z c := by
  obtain ⟨c, hc, hr⟩ := cj h2
  exact ⟨c, by simp [zeroValue, typeInfo, run_program, h1, hc], hr R w⟩
theorem kI (h : aJ E R w β s a) (t : TypeId) (x y : Operand) (ok : Bool) (ho : o.op = .lookup t x y ok) {v : AV} {b : Bool} (hv : gC E s t (ba E s.ae x) (ba E s.ae y) = some (v, b)) :
    bj E R w β s a o (s.put o.dst (.v (if ok then .bC [v, .bool b] else v))) := by
  have rx := aE h x
  have ry := aE h y
  unfold gC at hv
  split at hv
  · rename_i i es k hi hm hk
    rw [hk] at ry
    have lu : Rel R w k (a.eval y) := ry
    obtain ⟨av, hM, dw⟩ := DK h hm rx
    obtain ⟨eh, u, e1, e2, e3, e4, e5, e6⟩ := bE E hi
    split at hv
    · rename_i kt et z Fu
      split at hv
      · rename_i j hj
        split at hv
        · rename_i hc
          rw [Bool.and_eq_true] at hc
          rw [Fu] at e5
          obtain ⟨rfl, ie, g1, g2⟩ := j7 e5
          have vV := Fs hj
          have QM := hc.1
          rw [vV] at QM
          obtain ⟨d, hu, hd⟩ : ∃ d, E.P.underlying kt = some d ∧ za j.ek d := by
            rw [vV]
            exact qO QM
          have HI : ∀ b, (Instr.checkKey b 10000 kt (a.eval y)).run E.P w = .ok () w := fun b => run_checkKey hj hu hd hc.2 lu b
          have fin : ∀ r, gd j.ek k es = some r → r.getD z = v → r.isSome = b → bj E R w β s a o (s.put o.dst (.v (if ok then .bC [v, .bool b] else v))) := fun r hr q1 q2 => by
            subst q1 q2
            have rel : ∀ c, Rel R w (r.getD z) c → Rel R w (if ok then .bC [r.getD z, .bool r.isSome] else r.getD z) (if ok then .tuple #[c, .bool r.isSome] else c) := fun c k2 => by
              cases ok
              · exact k2
              · exact Rel.bC (vs := [c, .bool r.isSome]) (.cons k2 (.cons (.bool _) .nil))
            cases r with
            | none =>
              obtain ⟨c, k1, k2⟩ := zd (R := R) (w := w) g1 g2
              have Aq : (Instr.findKey kt (a.eval y) av).run E.P w = .ok none w := oF hj hu hd lu hM hr
              refine an h (c := if ok then .tuple #[c, .bool false] else c) ?_ (rel c k2)
              rcases dw with ⟨hx, rfl⟩ | ⟨b, es', clock, hx, hb, rfl⟩
              · simp [execOp, ho, Instr.lookup, hx, run_underlying e2, HI, Aq, k1]
              · simp [execOp, ho, Instr.lookup, hx, run_underlying e2, getObj, Sem.run, hb, HI, Aq, k1]
            | some v =>
              obtain ⟨j', c, q1, q2⟩ := oG hj hu hd lu hM hr
              have Aq : (Instr.findKey kt (a.eval y) av).run E.P w = .ok (some (j', c)) w := q1
              refine an h (c := if ok then .tuple #[c, .bool true] else c) ?_ (rel c q2)
              rcases dw with ⟨hx, rfl⟩ | ⟨b, es', clock, hx, hb, rfl⟩
              · simp [execOp, ho, Instr.lookup, hx, run_underlying e2, HI, Aq]
              · simp [execOp, ho, Instr.lookup, hx, run_underlying e2, getObj, Sem.run, hb, HI, Aq]
          split at hv
          · rename_i v' hr; cases hv; exact fin _ hr rfl rfl
          · rename_i hr; cases hv; exact fin _ hr rfl rfl
          · cases hv
        · cases hv
      · cases hv
    · cases hv
  · cases hv
theorem wg {R' : af} {w' : World} (h : aJ E R w β s a) (t : TypeId) (z : AV) (e : Ext R w R' w') {c : Value} (hc : Rel R' w' z c) : Rel R' w' (yL E s.G t z) c := by
  unfold yL
  split
  · rename_i e1 sz p aQ gR
    split
    · rename_i gf A5
      obtain ⟨fs, rN, _⟩ := iO A5
      rw [Nat.sub_zero] at rN
      have bR := aM rN
      rw [← h.g.len] at bR
      obtain ⟨ro, aO⟩ : ∃ ro, nth R.obj gf = some ro := ⟨R.obj[gf], by rw [aD]; exact List.getElem?_eq_getElem bR⟩
      have bg := h.g.obj gf _ _ rN aO
      have hn : nv ro := by
        cases ro with
        | none => exact bg.elim
        | aK => exact bg.elim
        | bh _ => exact bg.elim
        | tok _ _ _ => exact bg.elim
        | aG ts => trivial
      obtain ⟨gU, q1, q2⟩ := e.obj gf _ aO
      cases hc with
      | gi => exact .jm q1 (hn.mono q2)
      | list _ _ _ hk => exact hk.elim
    · exact hc
  · exact hc
theorem ze (h : aJ E R w β s a) (t : TypeId) (x y : Operand) (ok : Bool) (ho : o.op = .lookup t x y ok) {v : AV} {b : Bool} (hv : jt E s t (ba E s.ae x) (ba E s.ae y) = some (v, b)) :
    bj E R w β s a o (s.put o.dst (.v (if ok then .bC [v, .bool b] else v))) := by
  unfold jt at hv
  split at hv
  · rename_i v0 h0
    cases hv
    refine bj.CB (kI h t x y ok ho h0) (fun R' w' ex c hc => ?_)
    cases ok with
    | false => exact wg h t _ ex hc
    | true =>
      have hc : Rel R' w' (.bC [v0, .bool false]) c := hc
      cases hc with
      | bC h1 =>
      cases h1 with
      | cons h1 h2 => exact Rel.bC (.cons (wg h t _ ex h1) h2)
  · exact kI h t x y ok ho hv
theorem CF {kt : TypeId} {j : TI} (hj : E.ti kt = some j) (hp : j.ek.plain = true) : ∃ d, E.P.underlying kt = some d ∧ za j.ek d := by
  have vV := Fs hj
  rw [vV] at hp ⊢
  exact qO hp
theorem DL (x : ByteArray) : (x == x) = true := by rw [beq_toListBytes]; simp
theorem fk {k : AV} {x : Value} (hp : rZ k = true) (hx : Rel R w k x) (n : Nat) : Instr.sameBits n x x = true := by
  unfold rZ at hp
  split at hp
  · cases hx; cases n <;> simp [Instr.sameBits]
  · cases hx; cases n <;> simp [Instr.sameBits]
  · cases hx; cases n <;> (simp only [Instr.sameBits]; exact DL _)
  · cases hp
theorem oH (n : Nat) : ∀ {cs : List AV} {vs : List Value}, cs.all rZ = true → ay R w cs vs → ((vs.zip vs).all fun (x, y) => Instr.sameBits n x y) = true
  | [], _, _, .nil => rfl
  | a :: cs, _, h, .cons h1 h2 => by
    rw [List.all_cons, Bool.and_eq_true] at h
    simp only [List.zip_cons_cons, List.all_cons, fk h.1 h1 n, oH n h.2 h2, Bool.and_self]
theorem xy (n : Nat) {vs : Array Value} (h : ((vs.toList.zip vs.toList).all fun (x, y) => Instr.sameBits n x y) = true) : Instr.sameBits (n + 1) (.agg vs) (.agg vs) = true := by
  simp only [Instr.sameBits, beq_self_eq_true, Bool.true_and]
  exact h
theorem lI {e : EK} {k : AV} {x : Value} (hp : fM e k = true) (hx : Rel R w k x) : Instr.sameBits 10000 x x = true := by
  unfold fM at hp
  split at hp
  · exact fk rfl hx _
  · exact fk rfl hx _
  · exact fk rfl hx _
  · rw [Bool.and_eq_true] at hp
    cases hx with
    | agg hx _ =>
    exact xy 9999 (oH 9999 hp.1 hx)
  · cases hp
theorem gV.push {av : Array MapEntry} {clock : Nat} (h : gV av clock) (x c : Value) : gV (av.push { key := x, val := c, born := clock }) (clock + 1) := by
  obtain ⟨rfl, h2⟩ := h
  refine ⟨by simp, fun i e he => ?_⟩
  rw [Array.toList_push] at he
  rcases Nat.lt_or_ge i av.toList.length with bR | vN
  · rw [List.getElem?_append_left bR] at he
    exact h2 i e he
  · rw [List.getElem?_append_right vN] at he
    have hl := (List.getElem?_eq_some_iff.1 he).1
    have hl : i - av.toList.length < 1 := hl
    have h0 : i - av.toList.length = 0 := by omega
    rw [h0] at he
    simp only [List.getElem?_cons_zero, Option.some.injEq] at he
    subst he
    have hs : av.toList.length = av.size := Array.length_toList
    show av.size = i
    omega
theorem gV.modify {av : Array MapEntry} {clock : Nat} (h : gV av clock) (n : Nat) (x c : Value) : gV (av.modify n fun e => { e with key := x, val := c }) clock := by
  obtain ⟨rfl, h2⟩ := h
  refine ⟨by simp, fun i e he => ?_⟩
  rw [Array.toList_modify, List.getElem?_modify] at he
  cases hi : av.toList[i]? with
  | none => rw [hi] at he; cases he
  | some e' =>
    rw [hi] at he
    have h3 := h2 i e' hi
    have he : (if n = i then { key := x, val := c, born := e'.born } else e' : MapEntry) = e := Option.some.inj he
    by_cases hn : n = i
    · rw [if_pos hn] at he
      subst he; exact h3
    · rw [if_neg hn] at he
      subst he; exact h3
theorem lJ (h : aJ E R w β s a) (t : TypeId) (x y z : Operand) (ho : o.op = .mapUpdate t x y z ∨ o.op = .insert t x y z) (hd : o.dst = none) {s' : St} (hv : dI E s t (ba E s.ae x) (ba E s.ae y) (ba E s.ae z) = some s') :
    bj E R w β s a o s' := by
  have rx := aE h x
  have ry := aE h y
  have rz := aE h z
  unfold dI at hv
  split at hv
  · rename_i i id k v hi hm hk hz
    rw [hm] at rx
    rw [hk] at ry
    rw [hz] at rz
    have cu : Rel R w (.map id) (a.eval x) := rx
    have lu : Rel R w k (a.eval y) := ry
    have RW : Rel R w v (a.eval z) := rz
    split at hv
    · rename_i kt et ez es Fu hg
      split at hv
      · rename_i j hj
        split at hv
        · rename_i hc
          rw [Bool.and_eq_true] at hc
          split at hv
          · rename_i es' AL
            cases hv
            obtain ⟨eh, u, e1, e2, e3, e4, e5, e6⟩ := bE E hi
            rw [Fu] at e5
            obtain ⟨rfl, ie, g1, g2⟩ := j7 e5
            obtain ⟨d, hu, hD⟩ := CF hj hc.1
            generalize dw : a.eval x = xv at cu
            cases cu with
            | @map _ b hb =>
            obtain ⟨av, clock, q1, q2, q3⟩ := h.g.obj id _ _ hg hb
            have bR := a7 q1
            have HI : (Instr.checkKey false 10000 kt (a.eval y)).run E.P w = .ok () w := run_checkKey hj hu hD hc.2 lu _
            have ij : (getObj b).run E.P w = .ok (.map av clock) w := by simp [getObj, Sem.run, q1]
            have sY : ∀ o', (setObj b o').run E.P w = .ok () (World.put w b o') := fun o' => by
              simp [setObj, Sem.run, World.put, q1]
            have fin : ∀ iQ gq, cJ R w es' iQ.toList → gV iQ gq → (execOp a.eval o).run E.P w = .ok .skip (World.put w b (.map iQ gq)) →
                bj E R w β s a o (s.aX (aq s.G id (.map es'))) := fun iQ gq k1 k2 k3 => by
              have hex := kG (R := R) (x' := .map iQ gq) q1 trivial trivial (fun _ e => by cases e)
              obtain ⟨p1, p2⟩ := h.setObj (x' := .map iQ gq) (go' := .map es') hb q1 trivial trivial (fun _ e => by cases e) ⟨iQ, gq, fc w b _ bR, k1.mono hex, k2⟩
              refine ⟨.skip, undef, _, R, β, k3, .inr ⟨rfl, rfl⟩, ?_, p2⟩
              rw [hd]
              exact p1
            rcases nE hj hu hD lu RW q2 AL with ⟨k1, _, k2⟩ | ⟨n, c', k1, ⟨_, en, k2, k3, _⟩, k4⟩
            · have Aq : (Instr.findKey kt (a.eval y) av.toList).run E.P w = .ok none w := k1
              refine fin (av.push { key := a.eval y, val := a.eval z, born := clock }) (clock + 1) (by rw [Array.toList_push]; exact k2 clock) (q3.push _ _) ?_
              · rcases ho with ho | ho <;> simp [execOp, ho, Instr.mapUpdate, dw, run_underlying e2, ij, HI, Aq, sY]
            · have Aq : (Instr.findKey kt (a.eval y) av.toList).run E.P w = .ok (some (n, c')) w := k1
              have RX : av[n]? = some en := by rw [← Array.getElem?_toList]; exact k2
              have sQ : (Instr.keyThatStays (a.eval y) (a.eval y)).run E.P w = .ok (a.eval y) w := by simp [Instr.keyThatStays, lI hc.2 lu]
              refine fin (av.modify n fun e => { e with key := a.eval y, val := a.eval z }) clock (by rw [Array.toList_modify]; exact k4) (q3.modify n _ _) ?_
              · rcases ho with ho | ho <;> simp [execOp, ho, Instr.mapUpdate, dw, run_underlying e2, ij, HI, Aq, RX, k3, sQ, sY]
          · cases hv
        · cases hv
      · cases hv
    · cases hv
  · cases hv
theorem A6 (h : aJ E R w β s a) (t : TypeId) (x : Operand) (ho : o.op = .range t x) {i : TI} {l : List UInt8} (hi : E.ti t = some i) (hk : i.k = .str) (hx : ba E s.ae x = .v (.str l)) :
    bj E R w β s a o ((s.cI (.eR l 0)).put o.dst (.v (.ptr s.G.length 0))) := by
  have rx := aE h x
  rw [hx] at rx
  have cu : Rel R w (.str l) (a.eval x) := rx
  obtain ⟨eh, u, e1, e2, e3, e4, e5, e6⟩ := bE E hi
  rw [hk] at e5
  have hu := iK e5
  subst hu
  have eI : eH (R.add (.bh w.heap.size)) (w.alloc (.stringIter ⟨⟨l⟩⟩ 0)) (.eR l 0) (.bh w.heap.size) := heap_alloc_new w _
  refine ⟨_, .pointer (some ⟨w.heap.size, 0, none⟩), w.alloc (.stringIter ⟨⟨l⟩⟩ 0), R.add (.bh w.heap.size), β, ?_, .inl rfl, (h.iJ (.stringIter ⟨⟨l⟩⟩ 0) (.eR l 0) (.bh w.heap.size) (by exact fun _ h => h) eI).put o.dst (x := .v (.ptr s.G.length 0)) (Rel.ptr (eL h _)), by rw [aL]; exact cp h _ _ (by exact fun _ h => h)⟩
  generalize dw : a.eval x = xv at cu
  cases cu
  simp only [execOp, ho, dw, Instr.range, Sem.run_bind, run_underlying e2, run_newObj, Result.andThen_ok, Sem.run_pure]
  rfl
theorem A7 (l : List UInt8) (pos : Nat) (h : pos < l.length) : aZ l pos = Utf8.decode ⟨⟨l⟩⟩ pos := by
  unfold aZ
  cases hb : Nat.blt (l.getD pos 0).toNat 128 with
  | false => rfl
  | true =>
    have bR : (l.getD pos 0).toNat < 128 := Nat.le_of_ble_eq_true hb
    have e : (ByteArray.get! ⟨⟨l⟩⟩ (pos + 0)) = l.getD pos 0 := by
      simp [ByteArray.get!, h, List.getD_eq_getElem?_getD]
    simp only [cond_true, Utf8.decode, e]
    rw [if_pos (show (l.getD pos 0).toNat < 0x80 from bR)]
theorem DM (h : aJ E R w β s a) (x : Operand) (ho : o.op = .next x true) {s' : St} (hv : ju s o.dst (ba E s.ae x) = some s') : bj E R w β s a o s' := by
  have rx := aE h x
  unfold ju at hv
  split at hv
  · rename_i id hx
    rw [hx] at rx
    have cu : Rel R w (.ptr id 0) (a.eval x) := rx
    generalize dw : a.eval x = xv at cu
    cases cu with
    | @ptr _ _ b hb =>
    split at hv
    · rename_i l pos hg
      have q1 : w.heap[b]? = some (.stringIter ⟨⟨l⟩⟩ pos) := h.g.obj id _ _ hg hb
      have bR := a7 q1
      have ij : (getObj b).run E.P w = .ok (.stringIter ⟨⟨l⟩⟩ pos) w := by simp [getObj, Sem.run, q1]
      have sY : ∀ o', (setObj b o').run E.P w = .ok () (World.put w b o') := fun o' => by
        simp [setObj, Sem.run, World.put, q1]
      cases gE : Nat.blt pos l.length with
      | true =>
        rw [gE] at hv
        have hp : pos < l.length := Nat.le_of_ble_eq_true gE
        simp only [cond_true] at hv
        generalize vn : aZ l pos = p at hv
        obtain ⟨c, n⟩ := p
        cases hv
        rw [A7 l pos hp] at vn
        obtain ⟨p1, p2⟩ := h.setObj (x' := .stringIter ⟨⟨l⟩⟩ (pos + n)) (go' := .eR l (pos + n)) hb q1 trivial trivial (fun _ e => by cases e) (fc w b _ bR)
        have cU : pos < (⟨⟨l⟩⟩ : ByteArray).size := hp
        refine ⟨.value (.tuple #[.bool true, .int .i64 pos, .int .i32 c]), _, _, R, β, ?_, .inl rfl, p1.put o.dst (x := .v (.bC [.bool true, .int .i64 pos, .int .i32 c])) (Rel.bC (vs := [.bool true, .int .i64 pos, .int .i32 c]) (.cons (.bool _) (.cons (.int _ _) (.cons (.int _ _) .nil)))), by rw [aL]; exact p2⟩
        simp [execOp, ho, dw, Instr.next, ij, cU, vn, sY, goInt]
      | false =>
        rw [gE] at hv
        simp only [cond_false] at hv
        cases hv
        have hp : ¬ pos < l.length := fun hh => by
          have : Nat.blt pos l.length = true := Nat.ble_eq_true_of_le hh
          rw [gE] at this; cases this
        have cU : ¬ pos < (⟨⟨l⟩⟩ : ByteArray).size := hp
        refine an h (c := .tuple #[.bool false]) ?_ (Rel.bC (vs := [.bool false]) (.cons (.bool _) .nil))
        simp [execOp, ho, dw, Instr.next, ij, cU]
    · cases hv
  · cases hv
theorem cJ.get : ∀ {es : List (AV × AV)} {av : List MapEntry} {i : Nat} {e : MapEntry}, cJ R w es av → av[i]? = some e → Rel R w (vk es i).1 e.key ∧ Rel R w (vk es i).2 e.val
  | [], [], i, e, _, he => by simp at he
  | (k, v) :: _, en :: _, 0, e, h, he => by
    simp only [List.getElem?_cons_zero, Option.some.injEq] at he
    subst he
    exact ⟨h.1, h.2.1⟩
  | (_, _) :: es, _ :: av, i + 1, e, h, he => by
    simp only [List.getElem?_cons_succ] at he
    exact cJ.get (es := es) h.2.2 he
  | [], _ :: _, _, _, h, _ => h.elim
  | _ :: _, [], _, _, h, _ => h.elim
theorem A8 (E : Env) (t : TypeId) (e : AV × AV) : od E t e = (true, e.1, e.2) ∨ ∃ pv pk : aB, od E t e = (pk.fits e.1 && pv.fits e.2, pk.enc (pk.bf e.1), pv.enc (pv.bf e.2)) := by
  unfold od
  split
  · split
    · split
      · rename_i pv pk _ _
        exact .inr ⟨pv, pk, rfl⟩
      · exact .inl rfl
    · exact .inl rfl
  · exact .inl rfl
theorem zf {t : TypeId} {e : AV × AV} {x y : Value} (hf : (od E t e).1 = true) (h : Rel R w e.1 x ∧ Rel R w e.2 y) : Rel R w (od E t e).2.1 x ∧ Rel R w (od E t e).2.2 y := by
  rcases A8 E t e with he | ⟨pv, pk, he⟩
  · rw [he]; exact h
  · rw [he] at hf ⊢
    simp only [Bool.and_eq_true] at hf
    exact ⟨(pk.b9 hf.1).eX _ _ _ h.1, (pv.b9 hf.2).eX _ _ _ h.2⟩
theorem zg (h : aJ E R w β s a) (t : TypeId) (x : Operand) (ho : o.op = .range t x) {i : TI} {kt et : TypeId} {ez : Option AV} {id : Nat} {es : List (AV × AV)} (hi : E.ti t = some i) (hk : i.k = .map kt et ez) (hx : ba E s.ae x = .v (.map id)) (hg : nth s.G id = some (.map es)) :
    bj E R w β s a o ((s.cI (.ls id es.length (List.range es.length) none t)).put o.dst (.v (.ptr s.G.length 0))) := by
  have rx := aE h x
  rw [hx] at rx
  have cu : Rel R w (.map id) (a.eval x) := rx
  obtain ⟨eh, u, e1, e2, e3, e4, e5, e6⟩ := bE E hi
  rw [hk] at e5
  obtain ⟨rfl, ie, g1, g2⟩ := j7 e5
  generalize dw : a.eval x = xv at cu
  cases cu with
  | @map _ b hb =>
  obtain ⟨av, clock, q1, q2, q3, q4⟩ := h.g.obj id _ _ hg hb
  have hlen := q2.length
  have bR := a7 q1
  subst q3
  have eI : eH (R.add (.bh w.heap.size)) (w.alloc (.mapIter (some b) av.size #[] av.size)) (.ls id es.length (List.range es.length) none t) (.bh w.heap.size) := by
    refine ⟨b, #[], av.size, bc hb, ?_, fun j hj => ?_, fun j hj => List.mem_range.1 hj, List.nodup_range, ?_, fun i hi => by cases hi⟩
    · rw [hlen, Array.length_toList]; exact heap_alloc_new w _
    · simp [List.mem_range, hj]
    · rw [hlen, Array.length_toList]; exact Nat.le_refl _
  refine ⟨_, .pointer (some ⟨w.heap.size, 0, none⟩), w.alloc (.mapIter (some b) av.size #[] av.size), R.add (.bh w.heap.size), β, ?_, .inl rfl, (h.iJ _ _ (.bh w.heap.size) (by exact fun _ h => h) eI).put o.dst (x := .v (.ptr s.G.length 0)) (Rel.ptr (eL h _)), by rw [aL]; exact cp h _ _ (by exact fun _ h => h)⟩
  have ij : (getObj b).run E.P w = .ok (.map av av.size) w := by simp [getObj, Sem.run, q1]
  simp only [execOp, ho, dw, Instr.range, Sem.run_bind, run_underlying e2, ij, run_newObj, Result.andThen_ok, Sem.run_pure]
  rfl
theorem mem_erase_iff {l : List Nat} (hn : l.Nodup) (i j : Nat) : j ∈ l.erase i ↔ j ≠ i ∧ j ∈ l := hn.mem_erase_iff
theorem aJ.drew (h : aJ E R w β s a) : aJ E R w.drew β s a ∧ Step R w β s.boxes R w.drew β s.boxes := by
  have e : Ext R w R w.drew := ⟨fun _ _ h => h, fun _ _ _ => rfl, fun _ ro h => ⟨ro, h, bF.refl ro⟩, dp.refl w⟩
  exact ⟨h.bL e rfl (fun _ _ => rfl) (fun _ _ _ hi => hi) h.g.wf (fun hd => Nat.le_succ_of_le hd), ⟨e, rfl, rfl, rfl, Nat.le_refl _, fun _ _ _ => rfl, fun _ _ ho => ho, fun _ _ hi _ _ => hi⟩⟩
theorem A9 (h : aJ E R w β s a) (x : Operand) (ho : o.op = .next x false) {s0 : St} {left : List Nat} {g : Nat → Bool × St} (hv : vL E s o.dst (ba E s.ae x) = some (true, s0, left, g)) :
    (left = [] ∧ bj E R w β s a o s0) ∨ ∃ i ∈ left, (g i).1 = true → bj E R w β s a o (g i).2 := by
  have rx := aE h x
  unfold vL at hv
  split at hv
  · rename_i id hx
    rw [hx] at rx
    have cu : Rel R w (.ptr id 0) (a.eval x) := rx
    generalize dw : a.eval x = xv at cu
    cases cu with
    | @ptr _ _ r hr =>
    split at hv
    · rename_i eC n wh KW tt hg
      split at hv
      · rename_i es hm
        injection hv with hv; injection hv with h1 hv; injection hv with h2 hv; injection hv with h3 h4
        subst h2; subst h3; subst h4
        have hn := of_decide_eq_true h1
        obtain ⟨b, seen, c0, m1, m2, m3, m4, m5, m6, _⟩ := h.g.obj id _ _ hg hr
        obtain ⟨av, clock, q1, q2, q3, q4⟩ := h.g.obj eC _ _ hm m1
        subst q3
        have hlen := q2.length
        have RY : av.toList.length = av.size := Array.length_toList
        have cU : av.size = n := by omega
        have hold : ∀ y ∈ av.toList, y.born < n := fun y hy => by
          obtain ⟨i, hi, VJ⟩ := List.getElem_of_mem hy
          have := q4 i y (by rw [List.getElem?_eq_getElem hi, VJ])
          omega
        rcases run_next_at (P := E.P) w o.type r b n c0 seen av av.size m2 q1 hold m6 with ⟨k1, k2⟩ | ⟨en, k1, w1, k2, k3⟩
        · refine .inl ⟨?_, ?_⟩
          · apply List.eq_nil_iff_forall_not_mem.2
            intro i hi
            have sR := m4 i hi
            have hs := (m3 i sR).1 hi
            have Fv : i < av.toList.length := by omega
            have ij : av.toList[i]? = some av.toList[i] := List.getElem?_eq_getElem Fv
            have hb := q4 i _ ij
            have sX : av.toList[i] ∈ (leftOf av seen).toList := by
              unfold leftOf
              rw [Array.toList_filter, List.mem_filter]
              exact ⟨List.getElem_mem _, by rw [hb, hs]; rfl⟩
            have h0 : (leftOf av seen).toList = [] := List.eq_nil_of_length_eq_zero (by rw [Array.length_toList]; exact k1)
            rw [h0] at sX
            simp at sX
          · refine an h (c := .tuple #[.bool false]) ?_ (Rel.bC (vs := [.bool false]) (.cons (.bool _) .nil))
            simp [execOp, ho, dw, k2]
        · have sX : en ∈ av.toList ∧ seen.contains en.born = false := by
            unfold leftOf at k1
            rw [Array.toList_filter, List.mem_filter] at k1
            exact ⟨k1.1, by simpa using k1.2⟩
          obtain ⟨i, hi, VK⟩ := List.getElem_of_mem sX.1
          have ij : av.toList[i]? = some en := by rw [List.getElem?_eq_getElem hi, VK]
          have hb := q4 i en ij
          have sR : i < n := by omega
          have Fv : i ∈ wh := (m3 i sR).2 (by rw [← hb]; exact sX.2)
          refine .inr ⟨i, Fv, fun lm => ?_⟩
          -- the world, perhaps one draw on
          have RZ : aJ E R w1 β s a ∧ Step R w β s.boxes R w1 β s.boxes := by
            rcases k2 with rfl | rfl
            · exact ⟨h, Step.refl _ _ _ _⟩
            · exact h.drew
          obtain ⟨bg, fb⟩ := RZ
          have Ar : w1.heap[r]? = some (.mapIter (some b) n seen c0) := by rcases k2 with rfl | rfl <;> exact m2
          have bR := a7 Ar
          have O6 : (setBlock w1 r (.mapIter (some b) n (seen.push en.born) av.size)) = World.put w1 r (.mapIter (some b) n (seen.push en.born) av.size) := rfl
          have hex := kG (R := R) (x' := .mapIter (some b) n (seen.push en.born) av.size) Ar trivial trivial (fun _ e => by cases e)
          obtain ⟨p1, p2⟩ := bg.setObj (x' := .mapIter (some b) n (seen.push en.born) av.size) (go' := .ls eC n (wh.erase i) (some i) tt) hr Ar trivial trivial (fun _ e => by cases e)
            ⟨b, seen.push en.born, av.size, m1, fc w1 r _ bR, fun j hj => by
              rw [mem_erase_iff m5, Array.contains_push, m3 j hj, hb]
              by_cases e : j = i
              · subst e; simp
              · have e' : ¬ i = j := fun h => e h.symm
                simp [e, e'], fun j hj => m4 j (List.mem_of_mem_erase hj), m5.erase i, by omega, fun j hj => by
              cases hj
              exact ⟨by rw [hb]; simp, cU⟩⟩
          obtain ⟨z1, z2⟩ := zf lm (q2.get ij)
          have O7 := fb.ext.trans p2.ext
          refine ⟨.value (.tuple #[.bool true, en.key, en.val]), _, _, R, β, ?_, .inl rfl, p1.put o.dst (x := .v (.bC [.bool true, (od E tt (vk es i)).2.1, (od E tt (vk es i)).2.2])) (Rel.bC (vs := [.bool true, en.key, en.val]) (.cons (.bool _) (.cons (z1.mono O7) (.cons (z2.mono O7) .nil)))), by rw [aL]; exact fb.trans p2⟩
          simp [execOp, ho, dw, k3, O6]
      · cases hv
    · cases hv
  · cases hv
theorem td : ∀ (l : List MapEntry) (off i : Nat), (∀ (k : Nat) (e : MapEntry), l[k]? = some e → e.born = off + k) → i < l.length → l.find? (fun e => e.born == off + i) = l[i]?
  | [], _, _, _, h => by simp at h
  | e :: l, off, 0, hs, _ => by
    have := hs 0 e rfl
    simp [this]
  | e :: l, off, i + 1, hs, h => by
    have h0 := hs 0 e rfl
    have bS : (e.born == off + (i + 1)) = false := by simp; omega
    rw [List.find?_cons_of_neg (by simp [bS]), List.getElem?_cons_succ]
    have := td l (off + 1) i (fun k e' hk => by have := hs (k + 1) e' (by simpa using hk); omega) (by simpa using h)
    rw [show off + (i + 1) = off + 1 + i by omega]
    exact this
theorem mZ : ∀ (l : List MapEntry) (off i : Nat), (∀ (k : Nat) (e : MapEntry), l[k]? = some e → e.born = off + k) → i < l.length → l.findIdx? (fun e => (e.born : Int) == ((off + i : Nat) : Int)) = some i
  | [], _, _, _, h => by simp at h
  | e :: l, off, 0, hs, _ => by
    have := hs 0 e rfl
    simp [List.findIdx?_cons, this]
  | e :: l, off, i + 1, hs, h => by
    have h0 := hs 0 e rfl
    have bS : ((e.born : Int) == ((off + (i + 1) : Nat) : Int)) = false := by simp; omega
    have := mZ l (off + 1) i (fun k e' hk => by have := hs (k + 1) e' (by simpa using hk); omega) (by simpa using h)
    rw [show off + 1 + i = off + (i + 1) by omega] at this
    rw [List.findIdx?_cons, bS, this]
    rfl
theorem gV.bL {av : Array MapEntry} {clock : Nat} (h : gV av clock) (n : Nat) {f : MapEntry → MapEntry} (hf : ∀ e, (f e).born = e.born) : gV (av.modify n f) clock := by
  obtain ⟨rfl, h2⟩ := h
  refine ⟨by simp, fun i e he => ?_⟩
  rw [Array.toList_modify, List.getElem?_modify] at he
  cases hi : av.toList[i]? with
  | none => rw [hi] at he; cases he
  | some e' =>
    rw [hi] at he
    have h3 := h2 i e' hi
    have he : (if n = i then f e' else e') = e := Option.some.inj he
    by_cases hn : n = i
    · rw [if_pos hn] at he
      subst he; rw [hf]; exact h3
    · rw [if_neg hn] at he
      subst he; exact h3
theorem cJ.lx {v : AV} {c : Value} (hv : Rel R w v c) : ∀ {es : List (AV × AV)} {av : List MapEntry} (n : Nat), cJ R w es av → cJ R w (lx es n v) (av.modify n fun e => { e with val := c })
  | [], [], n, _ => by cases n <;> trivial
  | [], _ :: _, _, h => h.elim
  | _ :: _, [], _, h => h.elim
  | (_, _) :: _, _ :: _, 0, h => by
    rw [List.modify_zero_cons]
    exact ⟨h.1, hv, h.2.2⟩
  | (_, _) :: _, _ :: _, n + 1, h => by
    rw [List.modify_succ_cons]
    exact ⟨h.1, h.2.1, cJ.lx hv n h.2.2⟩
theorem J6 {e : EK} {k k' : AV} (h : (HC e k k').isSome = true) : HC e k k' = some (yA e k k') := by
  obtain ⟨b, hb⟩ := Option.isSome_iff_exists.1 h
  simp only [yA, hb]
theorem zh {e : EK} {k : AV} : ∀ {es : List (AV × AV)}, cQ e k es = true → gd e k es = some (ec e k es)
  | [], _ => rfl
  | (k', v) :: es, h => by
    simp only [cQ, Bool.and_eq_true] at h
    simp only [gd, ec, J6 h.1]
    cases hb : yA e k k' with
    | true => rfl
    | false => simp only [cond_false]; exact zh h.2
theorem CG {e : EK} {k v : AV} : ∀ {es : List (AV × AV)}, cQ e k es = true → pS e k v es = some (a6 e k v es)
  | [], _ => rfl
  | (k', v') :: es, h => by
    simp only [cQ, Bool.and_eq_true] at h
    simp only [pS, a6, J6 h.1]
    cases hb : yA e k k' with
    | true => rfl
    | false => simp only [cond_false, CG h.2]
theorem Ba (h : aJ E R w β s a) (x : Operand) (ho : o.op = .entry x) {v : AV} (hv : pU E s (ba E s.ae x) = some (true, v)) : bj E R w β s a o (s.put o.dst (.v v)) := by
  have rx := aE h x
  unfold pU at hv
  split at hv
  · rename_i id hx
    rw [hx] at rx
    have cu : Rel R w (.ptr id 0) (a.eval x) := rx
    generalize dw : a.eval x = xv at cu
    cases cu with
    | @ptr _ _ r hr =>
    split at hv
    · rename_i eC n wh i tt hg
      split at hv
      · rename_i es hm
        injection hv with hv; injection hv with h1 h2
        subst h2
        rw [Bool.and_eq_true, Bool.and_eq_true, decide_eq_true_eq, decide_eq_true_eq] at h1
        obtain ⟨⟨hn, hi⟩, lm⟩ := h1
        obtain ⟨b, seen, c0, m1, m2, m3, m4, m5, m6, m7⟩ := h.g.obj id _ _ hg hr
        obtain ⟨z1, z2⟩ := m7 i rfl
        obtain ⟨av, clock, q1, q2, q3, q4⟩ := h.g.obj eC _ _ hm m1
        subst q3
        have hlen := q2.length
        have RY : av.toList.length = av.size := Array.length_toList
        have Fv : i < av.toList.length := by omega
        have VL : av.find? (fun e => e.born == i) = some av.toList[i] := by
          have := td av.toList 0 i (fun k e hk => by rw [Nat.zero_add]; exact q4 k e hk) Fv
          rw [Nat.zero_add, List.getElem?_eq_getElem Fv] at this
          rw [← this]; simp
        have ij : av.toList[i]? = some av.toList[i] := List.getElem?_eq_getElem Fv
        obtain ⟨y1, y2⟩ := zf lm (q2.get ij)
        have hc : av.size = c0 := by omega
        refine an h (c := .tuple #[(av.toList[i]).key, (av.toList[i]).val]) ?_ (Rel.bC (vs := [(av.toList[i]).key, (av.toList[i]).val]) (.cons y1 (.cons y2 .nil)))
        simp [execOp, ho, dw, Instr.entry, getObj, Sem.run, m2, z1, q1, hc, VL]
      · cases hv
    · cases hv
  · cases hv
theorem vr (h : aJ E R w β s a) (t : TypeId) (x y : Operand) (ho : o.op = .mapEntry t x y) {v : AV} {s' : St} (hv : eE E s t (ba E s.ae x) (ba E s.ae y) = some (true, v, s')) :
    bj E R w β s a o (s'.put o.dst (.v v)) := by
  have rx := aE h x
  have ry := aE h y
  unfold eE at hv
  split at hv
  · rename_i i id k hi hm hk
    rw [hm] at rx
    rw [hk] at ry
    have cu : Rel R w (.map id) (a.eval x) := rx
    have lu : Rel R w k (a.eval y) := ry
    split at hv
    · rename_i kt et z es Fu hg
      split at hv
      · rename_i j hj
        split at hv
        · rename_i hc
          rw [Bool.and_eq_true] at hc
          injection hv with hv; injection hv with T1 hv; injection hv with h2 h3
          subst h2; subst h3
          obtain ⟨eh, u, e1, e2, e3, e4, e5, e6⟩ := bE E hi
          rw [Fu] at e5
          obtain ⟨rfl, ie, g1, g2⟩ := j7 e5
          obtain ⟨d, hu, hD⟩ := CF hj hc.1
          generalize dw : a.eval x = xv at cu
          cases cu with
          | @map _ b hb =>
          obtain ⟨av, clock, q1, q2, q3⟩ := h.g.obj id _ _ hg hb
          have bR := a7 q1
          have HI : (Instr.checkKey false 10000 kt (a.eval y)).run E.P w = .ok () w := run_checkKey hj hu hD hc.2 lu _
          have ij : (getObj b).run E.P w = .ok (.map av clock) w := by simp [getObj, Sem.run, q1]
          have sY : ∀ o', (setObj b o').run E.P w = .ok () (World.put w b o') := fun o' => by
            simp [setObj, Sem.run, World.put, q1]
          have fin : ∀ es' iQ gq c (n : Nat), cJ R w es' iQ.toList → gV iQ gq → (execOp a.eval o).run E.P w = .ok (.value (.tuple #[c, .int .i64 n])) (World.put w b (.map iQ gq)) → Rel R w (cg j.ek k z es) c → n = jI j.ek k es → es' = a6 j.ek k (cg j.ek k z es) es →
              bj E R w β s a o ((s.aX (aq s.G id (.map (a6 j.ek k (cg j.ek k z es) es)))).put o.dst (.v (.bC [cg j.ek k z es, .int .i64 (jI j.ek k es : Nat)]))) := fun es' iQ gq c n k1 k2 k3 k4 k5 k6 => by
            subst k5; subst k6
            have hex := kG (R := R) (x' := .map iQ gq) q1 trivial trivial (fun _ e => by cases e)
            obtain ⟨p1, p2⟩ := h.setObj (x' := .map iQ gq) (go' := .map (a6 j.ek k (cg j.ek k z es) es)) hb q1 trivial trivial (fun _ e => by cases e) ⟨iQ, gq, fc w b _ bR, k1.mono hex, k2⟩
            exact ⟨.value (.tuple #[c, .int .i64 (jI j.ek k es : Nat)]), _, _, R, β, k3, .inl rfl, p1.put o.dst (x := .v (.bC [cg j.ek k z es, .int .i64 (jI j.ek k es : Nat)])) (Rel.bC (vs := [c, .int .i64 (jI j.ek k es : Nat)]) (.cons (k4.mono p2.ext) (.cons (.int _ _) .nil))), by rw [aL]; exact p2⟩
          have QQ := zh T1
          have AL := CG (v := cg j.ek k z es) T1
          cases HF : ec j.ek k es with
          | none =>
            rw [HF] at QQ
            have O8 : cg j.ek k z es = z := by unfold cg; rw [HF]; rfl
            obtain ⟨c, k1, k2⟩ := zd (R := R) (w := w) g1 g2
            have Aq : (Instr.findKey kt (a.eval y) av.toList).run E.P w = .ok none w := oF hj hu hD lu q2 QQ
            rcases nE hj hu hD lu (show Rel R w (cg j.ek k z es) c by rw [O8]; exact k2) q2 AL with ⟨_, k3, k4⟩ | ⟨n, c', k3, _⟩
            · have cU : av.toList.length = av.size := Array.length_toList
              have fK : clock = av.size := q3.1
              refine fin _ (av.push { key := a.eval y, val := c, born := clock }) (clock + 1) c clock (by rw [Array.toList_push]; exact k4 clock) (q3.push _ _) ?_ (by rw [O8]; exact k2) (by rw [k3]; omega) rfl
              simp [execOp, ho, Instr.mapEntry, dw, run_underlying e2, ij, HI, Aq, sY, k1, goInt]
            · rw [Aq] at k3
              cases k3
          | some v0 =>
            rw [HF] at QQ
            have O8 : cg j.ek k z es = v0 := by unfold cg; rw [HF]; rfl
            obtain ⟨n0, c0, k1, k2⟩ := oG hj hu hD lu q2 QQ
            have Aq : (Instr.findKey kt (a.eval y) av.toList).run E.P w = .ok (some (n0, c0)) w := k1
            rcases nE hj hu hD lu (show Rel R w (cg j.ek k z es) c0 by rw [O8]; exact k2) q2 AL with ⟨k3, _⟩ | ⟨n, c', k3, ⟨k4, en, k5, k6, k7⟩, k8⟩
            · rw [Aq] at k3
              cases k3
            · rw [Aq] at k3
              cases k3
              have RX : av[n0]? = some en := by rw [← Array.getElem?_toList]; exact k5
              have sQ : (Instr.keyThatStays (a.eval y) (a.eval y)).run E.P w = .ok (a.eval y) w := by simp [Instr.keyThatStays, lI hc.2 lu]
              have O9 : en.born = n0 := q3.2 n0 en k5
              have R6 : (av.modify n0 fun e => { e with key := a.eval y }).toList = av.toList.modify n0 fun e => { e with key := a.eval y, val := c0 } := by
                rw [Array.toList_modify]
                apply List.ext_getElem?
                intro m
                rw [List.getElem?_modify, List.getElem?_modify]
                by_cases HZ : n0 = m
                · subst HZ
                  rw [k5]
                  simp [k7]
                · simp [HZ]
              refine fin _ (av.modify n0 fun e => { e with key := a.eval y }) clock c0 n0 (by rw [R6]; exact k8) (q3.bL n0 fun _ => rfl) ?_ (by rw [O8]; exact k2) k4 rfl
              simp [execOp, ho, Instr.mapEntry, dw, run_underlying e2, ij, HI, Aq, sY, RX, k6, sQ, O9, goInt]
        · cases hv
      · cases hv
    · cases hv
  · cases hv
theorem rV (h : aJ E R w β s a) (t : TypeId) (x y z : Operand) (ho : o.op = .entryStore t x y z) (hd : o.dst = none) {s' : St} (hv : dj s (ba E s.ae x) (ba E s.ae y) (ba E s.ae z) = some (true, s')) :
    bj E R w β s a o s' := by
  have rx := aE h x
  have ry := aE h y
  have rz := aE h z
  unfold dj at hv
  split at hv
  · rename_i id n v hm hk hz
    rw [hm] at rx
    rw [hk] at ry
    rw [hz] at rz
    have cu : Rel R w (.map id) (a.eval x) := rx
    have lu : Rel R w (.int .i64 n) (a.eval y) := ry
    have RW : Rel R w v (a.eval z) := rz
    split at hv
    · rename_i es hg
      injection hv with hv; injection hv with hc h2
      subst h2
      rw [Bool.and_eq_true, decide_eq_true_eq, decide_eq_true_eq] at hc
      obtain ⟨m, rfl⟩ : ∃ m : Nat, n = m := ⟨n.toNat, by omega⟩
      have K3 : m < es.length := by simpa using hc.2
      generalize dw : a.eval x = xv at cu
      generalize Oa : a.eval y = yv at lu
      cases lu
      cases cu with
      | @map _ b hb =>
      obtain ⟨av, clock, q1, q2, q3⟩ := h.g.obj id _ _ hg hb
      have bR := a7 q1
      have hlen := q2.length
      have ij : (getObj b).run E.P w = .ok (.map av clock) w := by simp [getObj, Sem.run, q1]
      have sY : ∀ o', (setObj b o').run E.P w = .ok () (World.put w b o') := fun o' => by
        simp [setObj, Sem.run, World.put, q1]
      have VM : av.findIdx? (fun e => (e.born : Int) == (m : Int)) = some m := by
        have := mZ av.toList 0 m (fun k e hk => by rw [Nat.zero_add]; exact q3.2 k e hk) (by omega)
        rw [Nat.zero_add] at this
        rw [← this]
        obtain ⟨l⟩ := av
        exact List.findIdx?_toArray ..
      have k1 : cJ R w (lx es m v) (av.modify m fun e => { e with val := a.eval z }).toList := by rw [Array.toList_modify]; exact cJ.lx RW m q2
      have hex := kG (R := R) (x' := .map (av.modify m fun e => { e with val := a.eval z }) clock) q1 trivial trivial (fun _ e => by cases e)
      obtain ⟨p1, p2⟩ := h.setObj (x' := .map (av.modify m fun e => { e with val := a.eval z }) clock) (go' := .map (lx es m v)) hb q1 trivial trivial (fun _ e => by cases e) ⟨_, clock, fc w b _ bR, k1.mono hex, q3.bL m fun _ => rfl⟩
      refine ⟨.skip, undef, _, R, β, ?_, .inr ⟨rfl, rfl⟩, ?_, p2⟩
      · simp [execOp, ho, Instr.entryStore, dw, Oa, ij, asInt, asIntOf, VM, sY]
      · rw [hd]
        exact p1
    · cases hv
  · cases hv
end maps
end Go.Am
namespace Go.Am
open Go
section ops
variable {E : Env} {R : af} {w : World} {β : Nat → Nat} {s : St} {a : Act} {o : Oper}
theorem nF {k : IntKind} : ∀ {es : List AV}, allFit (aB.fits (.int k)) es = true → es = (es.map AV.np).map (AV.int k)
  | [], _ => rfl
  | e :: es, h => by
    simp only [allFit, Bool.and_eq_true] at h
    have hr := nF h.2
    have he : e = .int k e.np := by
      have h1 := h.1
      cases e <;> first | (cases h1; done) | skip
      have : k = _ := of_decide_eq_true (show N8 _ _ = true from h1)
      subst this
      rfl
    rw [List.map_cons, List.map_cons, ← he, ← hr]
theorem qj {k : IntKind} : ∀ {ns : List Int} {vs : List Value}, ay R w (ns.map (AV.int k)) vs → vs = ns.map (Value.int k)
  | [], _, .nil => rfl
  | n :: ns, _, .cons h t => by
    cases h
    rw [List.map_cons, ← qj t]
theorem qQ {k : IntKind} : ∀ (ns : List Int), ap (ns.map (AV.int k)) = ns.map (AV.int k)
  | [] => rfl
  | n :: ns => by simp [ap, AV.cells, qQ ns]
theorem foldl_push (ns : List Int) : ∀ (l : List UInt8), ns.foldl (fun r n => r.push (UInt8.ofNat n.toNat)) (⟨⟨l⟩⟩ : ByteArray) = ⟨⟨l ++ ns.map fun n => UInt8.ofNat n.toNat⟩⟩ := by
  induction ns with
  | nil => intro l; simp
  | cons n ns ih =>
    intro l
    rw [List.foldl_cons]
    have : (⟨⟨l⟩⟩ : ByteArray).push (UInt8.ofNat n.toNat) = ⟨⟨l ++ [UInt8.ofNat n.toNat]⟩⟩ := by
      simp [ByteArray.push]
    rw [this, ih]
    simp
theorem zi (ns : List Int) : ∀ (l : List UInt8), ns.foldl (fun r n => r ++ Utf8.encode n) (⟨⟨l⟩⟩ : ByteArray) = ⟨⟨l ++ ns.flatMap fun n => (Utf8.encode n).data.toList⟩⟩ := by
  induction ns with
  | nil => intro l; simp
  | cons n ns ih =>
    intro l
    rw [List.foldl_cons]
    have : (⟨⟨l⟩⟩ : ByteArray) ++ Utf8.encode n = ⟨⟨l ++ (Utf8.encode n).data.toList⟩⟩ := by
      apply ByteArray.ext
      apply Array.ext'
      simp
    rw [this, ih]
    simp
theorem wi {es : List AV} : nt es = (es.map AV.np).map fun n => UInt8.ofNat n.toNat := by simp [nt, List.map_map, Function.comp_def]
theorem DN {es : List AV} : sB es = (es.map AV.np).flatMap fun n => (Utf8.encode n).data.toList := by simp [sB, List.flatMap_map]
theorem wj {a : Addr} {len cap : Nat} {ns : List Int} (h : (loadCells a len).run E.P w = .ok (ns.map (Value.int .u8)).toArray w) :
    (Conv.bytesToString (.slice (some a) len cap)).run E.P w = .ok (.string ⟨⟨ns.map fun n => UInt8.ofNat n.toNat⟩⟩) w := by
  rw [run_bytesToString w a len cap ns h]
  have := foldl_push ns []
  rw [List.nil_append] at this
  exact congrArg (fun x => Result.ok (Value.string x) w) this
theorem DO {a : Addr} {len cap : Nat} {ns : List Int} (h : (loadCells a len).run E.P w = .ok (ns.map (Value.int .i32)).toArray w) :
    (Conv.runesToString (.slice (some a) len cap)).run E.P w = .ok (.string ⟨⟨ns.flatMap fun n => (Utf8.encode n).data.toList⟩⟩) w := by
  rw [run_runesToString w a len cap ns h]
  have := zi ns []
  rw [List.nil_append] at this
  exact congrArg (fun x => Result.ok (Value.string x) w) this
theorem wo {k : IntKind} {lk : LK} {sz : Nat} {es : List AV} {c : Value} (h : Rel R w (.list lk sz es) c) (hs : (Nat.beq sz 1 || es.isEmpty) = true) (hf : allFit (aB.fits (.int k)) es = true) :
    (es = [] ∧ c = .slice none 0 0) ∨ ∃ a cap, c = .slice (some a) es.length cap ∧ (loadCells a es.length).run E.P w = .ok ((es.map AV.np).map (Value.int k)).toArray w := by
  obtain ⟨_, vs, h1, h2, h3, h4⟩ := ej (esz := 1) h (by
    simp only [Bool.or_eq_true] at hs
    rcases hs with hs | hs
    · exact .inr (Nat.eq_of_beq_eq_true hs)
    · exact .inl (by simpa using hs))
  rw [nF hf, qQ] at h1
  have hv := qj h1
  rcases h4 with ⟨he, _, ad, hc, _⟩ | ⟨b, o', cap, hc, _, _, eS, _⟩
  · cases ad with
    | none => exact .inl ⟨he, hc⟩
    | some ad =>
      subst he
      exact .inr ⟨ad, 0, hc, by simp [loadCells, loadCellsFrom]⟩
  · refine .inr ⟨_, cap, hc, ?_⟩
    have := run_loadCells_list (P := E.P) w ⟨b, o', none⟩ vs eS
    rw [h3, Nat.mul_one] at this
    rw [this, hv]
theorem xz (h : aJ E R w β s a) (t u : TypeId) (x : Operand) (ho : o.op = .convert t u x) {v : AV} (hc : j6 E s t u (ba E s.ae x) = some (true, v)) :
    bj E R w β s a o (s.put o.dst (.v v)) := by
  have rx := aE h x
  unfold j6 at hc
  split at hc
  · rename_i i j q hi hj hx
    rw [hx] at rx
    have cu : Rel R w q (a.eval x) := rx
    generalize dw : a.eval x = xv at cu
    obtain ⟨eh, ud, e1, e2, e3, e4, e5, e6⟩ := bE E hj
    obtain ⟨O4, VE, T2, HJ, Xf, Xg, QR, Xh⟩ := bE E hi
    split at hc
    · rename_i k _ n hk
      cases hc
      cases cu
      rw [hk] at e5
      have := oq e5
      subst this
      refine an h (c := .int k (k.wrap n)) ?_ (Rel.int _ _)
      simp [execOp, ho, convert, run_underlying HJ, run_underlying e2, dw, Conv.intToInt]
    · rename_i lk sz es hk
      rw [hk] at e5
      have := iK e5
      subst this
      split at hc
      · rename_i elem ag eb z Fu
        rw [Fu] at QR
        obtain ⟨ie, ue, rfl, _⟩ := ca QR
        split at hc
        · rename_i e he
          obtain ⟨Pa, VN, f1, f2, f3, f4, f5, f6⟩ := bE E he
          split at hc
          · rename_i vV
            injection hc with hc; injection hc with c1 c2
            subst c2
            rw [Bool.and_eq_true] at c1
            rw [vV] at f5
            have := oq f5
            subst this
            refine an h (c := .string ⟨⟨nt es⟩⟩) ?_ (Rel.str _)
            rcases wo (E := E) cu c1.1 c1.2 with ⟨rfl, rfl⟩ | ⟨ad, cap, rfl, hl⟩
            · simp [execOp, ho, convert, run_underlying HJ, run_underlying e2, run_underlying f2, dw, Conv.bytesToString, nt]
              rfl
            · have hr := wj (E := E) (cap := cap) hl
              rw [← wi] at hr
              simp [execOp, ho, convert, run_underlying HJ, run_underlying e2, run_underlying f2, dw, hr]
          · rename_i vV
            injection hc with hc; injection hc with c1 c2
            subst c2
            rw [Bool.and_eq_true] at c1
            rw [vV] at f5
            have := oq f5
            subst this
            refine an h (c := .string ⟨⟨sB es⟩⟩) ?_ (Rel.str _)
            rcases wo (E := E) cu c1.1 c1.2 with ⟨rfl, rfl⟩ | ⟨ad, cap, rfl, hl⟩
            · simp [execOp, ho, convert, run_underlying HJ, run_underlying e2, run_underlying f2, dw, Conv.runesToString, sB]
              rfl
            · have hr := DO (E := E) (cap := cap) hl
              rw [← DN] at hr
              simp [execOp, ho, convert, run_underlying HJ, run_underlying e2, run_underlying f2, dw, hr]
          · cases hc
        · cases hc
      · cases hc
    · rename_i id off len cap hk
      rw [hk] at e5
      have := iK e5
      subst this
      split at hc
      · rename_i elem ag eb z cs el Fu hg
        rw [Fu] at QR
        obtain ⟨ie, ue, rfl, _⟩ := ca QR
        split at hc
        · rename_i e he
          obtain ⟨Pa, VN, f1, f2, f3, f4, f5, f6⟩ := bE E he
          split at hc
          · rename_i vV
            injection hc with hc; injection hc with c1 c2
            subst c2
            rw [Bool.and_eq_true] at c1
            rw [vV] at f5
            have := oq f5
            subst this
            cases cu with
            | @gb _ _ _ _ _ b hb dA =>
            obtain ⟨vs, b1, b2, b3, b4⟩ := h.g.obj id _ _ hg hb
            have hle := Nat.le_of_ble_eq_true c1.1
            have R7 : nr off (off + len) cs = (cs.drop off).take len := by
              unfold nr
              rw [List.drop_take]
              congr 1
              omega
            have cZ : ay R w (nr off (off + len) cs) ((vs.drop off).take len) := by
              rw [R7]
              exact (b2.drop off).take len
            have hlen : ((vs.drop off).take len).length = len := by
              rw [List.length_take, List.length_drop, ← b2.length]
              omega
            have te := cZ
            rw [nF c1.2] at te
            have hv := qj te
            have hl := run_loadCells_list (P := E.P) w ⟨b, off, none⟩ ((vs.drop off).take len) (fun j v hj => by
              rw [bJ, gF b1]
              rw [List.getElem?_take] at hj
              split at hj
              · rw [List.getElem?_drop] at hj; exact hj
              · cases hj)
            rw [hlen, hv] at hl
            have hr := wj (E := E) (cap := cap) hl
            rw [← wi] at hr
            refine an h (c := .string ⟨⟨nt (nr off (off + len) cs)⟩⟩) ?_ (Rel.str _)
            simp [execOp, ho, convert, run_underlying HJ, run_underlying e2, run_underlying f2, dw, hr]
          · cases hc
        · cases hc
      · cases hc
    · cases hc
  · cases hc
theorem jP (h : aJ E R w β s a) (x : Operand) (ho : o.op = .nilCheck x) {y : SV} (hx : ba E s.ae x = y) (hy : (∃ id off, y = .v (.ptr id off)) ∨ (∃ k off, y = .lp k off) ∨ ∃ cs, y = .v (.ep cs)) :
    bj E R w β s a o (s.put o.dst y) := by
  have rx := aE h x
  rw [hx] at rx
  rcases hy with ⟨id, off, rfl⟩ | ⟨k, off, rfl⟩ | ⟨cs, rfl⟩
  · have cu : Rel R w (.ptr id off) (a.eval x) := rx
    generalize dw : a.eval x = xv at cu
    cases cu with
    | @ptr _ _ b hb =>
    refine an h (c := .pointer (some ⟨b, off, none⟩)) ?_ (Rel.ptr hb)
    simp [execOp, ho, dw]
  · refine ⟨_, _, w, R, β, ?_, .inl rfl, h.put o.dst rx, by rw [aL]; exact Step.refl _ _ _ _⟩
    have dw : a.eval x = .pointer (some ⟨β k, off, none⟩) := rx
    simp [execOp, ho, dw]
  · have cu : Rel R w (.ep cs) (a.eval x) := rx
    generalize dw : a.eval x = xv at cu
    cases cu with
    | @ep _ b off hb =>
    refine an h (c := .pointer (some ⟨b, off, none⟩)) ?_ (Rel.ep hb)
    simp [execOp, ho, dw]
end ops
end Go.Am
