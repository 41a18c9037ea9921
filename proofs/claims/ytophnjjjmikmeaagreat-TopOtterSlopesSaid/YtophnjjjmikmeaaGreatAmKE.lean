/- The abstract machine: what it does is what the model does: slices that grow and are written. -/
import Derived.Test.YtophnjjjmikmeaaGreatAmKD
set_option linter.all false
namespace Go.Am
open Go
section lists
theorem nB {α : Type} (c us : List α) (n p sz off : Nat) (hn : n ≤ c.length) (hp : p + sz ≤ n) (ho : off + us.length ≤ sz) :
    (c.take (p + off) ++ us ++ c.drop (p + off + us.length)).take n =
      (c.take n).take p ++ ((((c.take n).drop p).take sz).take off ++ us ++ (((c.take n).drop p).take sz).drop (off + us.length)) ++ (c.take n).drop (p + sz) := by
  apply List.ext_getElem?
  intro j
  simp only [List.getElem?_append, List.getElem?_take, List.getElem?_drop, List.length_append, List.length_take, List.length_drop]
  by_cases h1 : j < p
  · rw [if_pos (by omega), if_pos (by omega), if_pos (by omega), if_pos (by omega), if_pos (by omega), if_pos (by omega), if_pos (by omega), if_pos (by omega)]
  · by_cases h2 : j < p + off
    · rw [if_pos (by omega), if_pos (by omega), if_pos (by omega), if_pos (by omega), if_pos (by omega), if_neg (by omega), if_pos (by omega), if_pos (by omega), if_pos (by omega), if_pos (by omega), if_pos (by omega)]
      congr 1; omega
    · by_cases h3 : j < p + off + us.length
      · rw [if_pos (by omega), if_pos (by omega), if_neg (by omega), if_pos (by omega), if_neg (by omega), if_pos (by omega), if_neg (by omega)]
        congr 1; omega
      · by_cases h4 : j < p + sz
        · rw [if_pos (by omega), if_neg (by omega), if_pos (by omega), if_neg (by omega), if_neg (by omega), if_pos (by omega), if_pos (by omega)]
          congr 1; omega
        · by_cases h5 : j < n
          · rw [if_pos (by omega), if_neg (by omega), if_neg (by omega), if_pos (by omega)]
            congr 1; omega
          · rw [if_neg (by omega), if_neg (by omega), if_neg (by omega)]
theorem iN {sz : Nat} : ∀ {es : List AV} {i : Nat} {e : AV}, cK sz es → nth es i = some e → ((ap es).drop (i * sz)).take sz = e.cells
  | [], _, _, _, h => by simp [nth] at h
  | x :: es, 0, e, h, hi => by
    simp only [nth] at hi
    cases hi
    have h1 := (h x (by simp)).1
    rw [Nat.zero_mul, List.drop_zero]
    simp only [ap]
    rw [← h1, List.take_left]
  | x :: es, i + 1, e, h, hi => by
    have h1 := (h x (by simp)).1
    have ih := iN (i := i) (fun y hy => h y (by simp [hy])) (show nth es i = some e from hi)
    simp only [ap]
    rw [show (i + 1) * sz = x.cells.length + i * sz by rw [h1, Nat.succ_mul]; omega, List.drop_append, List.drop_of_length_le (by omega), List.nil_append, Nat.add_sub_cancel_left]
    exact ih
theorem ow {sz : Nat} {l r : List AV} (h : cK sz l) (k : cK sz r) : cK sz (l ++ r) := fun e he => by
  rcases List.mem_append.1 he with he | he
  · exact h e he
  · exact k e he
theorem vZ {sz : Nat} {l : List AV} (n : Nat) (h : cK sz l) : cK sz (l.take n) := fun e he => h e (List.mem_of_mem_take he)
theorem DE {sz : Nat} {l : List AV} (n : Nat) (h : cK sz l) : cK sz (l.drop n) := fun e he => h e (List.mem_of_mem_drop he)
theorem fw {sz : Nat} : ∀ {es : List AV} (i : Nat), cK sz es → ap (es.take i) = (ap es).take (i * sz)
  | [], i, _ => by simp [ap]
  | e :: es, 0, _ => by simp [ap]
  | e :: es, i + 1, h => by
    have h1 := (h e (by simp)).1
    simp only [List.take_succ_cons, ap]
    rw [fw i (fun y hy => h y (by simp [hy])), show (i + 1) * sz = e.cells.length + i * sz by rw [h1, Nat.succ_mul]; omega, List.take_append, Nat.add_sub_cancel_left, List.take_of_length_le (by omega : e.cells.length ≤ e.cells.length + i * sz)]
theorem lH {sz : Nat} : ∀ {es : List AV} (i : Nat), cK sz es → ap (es.drop i) = (ap es).drop (i * sz)
  | [], i, _ => by simp [ap]
  | e :: es, 0, _ => by simp [ap]
  | e :: es, i + 1, h => by
    have h1 := (h e (by simp)).1
    simp only [List.drop_succ_cons, ap]
    rw [lH i (fun y hy => h y (by simp [hy])), show (i + 1) * sz = e.cells.length + i * sz by rw [h1, Nat.succ_mul]; omega, List.drop_append, List.drop_of_length_le (by omega : e.cells.length ≤ e.cells.length + i * sz), List.nil_append, Nat.add_sub_cancel_left]
theorem bo {sz : Nat} {es : List AV} (h : cK sz es) : (ap es).length = es.length * sz := by
  induction es with
  | nil => simp [ap]
  | cons e es ih =>
    have h1 := (h e (by simp)).1
    have := ih (fun x hx => h x (by simp [hx]))
    simp only [ap, List.length_append, this, h1, List.length_cons, Nat.add_mul]
    omega
theorem AZ {sz : Nat} {es : List AV} {i : Nat} {v : AV} (h : cK sz es) (h1 : v.cells.length = sz) (h2 : v.aH = true) : cK sz (aq es i v) := fun e he => by
  rw [de] at he
  rcases List.mem_or_eq_of_mem_set he with he | rfl
  · exact h e he
  · exact ⟨h1, h2⟩
theorem qL {sz : Nat} {es : List AV} {i : Nat} {v : AV} (h : cK sz es) (hi : i < es.length) (hv : v.cells.length = sz) : ap (aq es i v) = bu (ap es) (i * sz) v.cells := by
  have sR : i * sz + sz ≤ es.length * sz := by
    rw [← Nat.succ_mul]
    exact Nat.mul_le_mul_right _ hi
  rw [de, List.set_eq_take_append_cons_drop, if_pos hi, cT _ _ _ (by rw [hv, bo h]; exact sR), bM, fw i h, hv]
  simp only [ap]
  rw [lH (i + 1) h, Nat.succ_mul, List.append_assoc]
end lists
section ops
variable {E : Env} {R : af} {w : World} {β : Nat → Nat} {s : St} {a : Act} {o : Oper}
theorem kE {G : List GO} (h : dv E R w G) {id : Nat} {es : List AV} {sz : Nat} {el : TypeId} {ro : RO} (aR : nth G id = some (.cW es sz el)) (aO : nth R.obj id = some ro) (hn : ro ≠ .aK) :
    ∃ b c cur vs, ro = .tok es.length b c 0 ∧ cK sz es ∧ w.heap[b]? = some (.cells cur el (0, 0)) ∧ es.length ≤ c ∧ c ≤ maxLen ∧ cur.size = c * sz ∧ (∀ o, ¬ R.I b o) ∧ ay R w (ap es) vs ∧ (∀ v ∈ vs, v.oneCell' = true) ∧ cur.toList.take (es.length * sz) = vs := by
  have hr := h.obj id _ _ aR aO
  cases ro with
  | none => exact hr.elim
  | aK => exact absurd rfl hn
  | bh b => exact hr.elim
  | aG _ => exact hr.elim
  | tok f b c k =>
    obtain ⟨rfl, rfl, h1, cur, vs, h2, h3, h4, h5, h6, h7, h8, h9⟩ := hr
    exact ⟨b, c, cur, vs, rfl, h1, h2, h3, h4, h5, h6, h7, h8, h9⟩
theorem sS {id f i sz : Nat} {t : TypeId} {v : AV} (h : sx E s id f i sz t = some (true, v)) :
    ∃ es el e, nth s.G id = some (.cW es sz el) ∧ f = es.length ∧ nth es i = some e ∧ eZ e v := by
  unfold sx at h
  split at h
  · rename_i es aQ el aR
    split at h
    · rename_i p hp
      split at h
      · rename_i cU
        have cU := Nat.eq_of_beq_eq_true cU
        subst cU
        injection h with h
        injection h with h1 h2
        simp only [Bool.and_eq_true, decide_eq_true_eq] at h1
        obtain ⟨⟨h3, h4⟩, h5⟩ := h1
        obtain ⟨e, he⟩ : ∃ e, nth es i = some e := ⟨es[i], by rw [aD]; exact List.getElem?_eq_getElem h4⟩
        have hd : aY es i = e := by simp [aY, he]
        rw [hd] at h5 h2
        rw [← h2]
        exact ⟨es, el, e, aR, h3, he, p.b9 h5⟩
      · cases h
    · split at h
      · rename_i cU
        have cU := Nat.eq_of_beq_eq_true cU
        subst cU
        injection h with h
        injection h with h1 h2
        simp only [Bool.and_eq_true, decide_eq_true_eq] at h1
        obtain ⟨h3, h4⟩ := h1
        obtain ⟨e, he⟩ : ∃ e, nth es i = some e := ⟨es[i], by rw [aD]; exact List.getElem?_eq_getElem h4⟩
        have hd : aY es i = e := by simp [aY, he]
        rw [hd] at h2
        rw [← h2]
        exact ⟨es, el, e, aR, h3, he, eZ.refl e⟩
      · cases h
  · cases h
theorem xm {G : List GO} (h : dv E R w G) {id j : Nat} {rows : List (List AV)} {sz : Nat} {el : TypeId} {ro : RO} {b o f i off : Nat} (aR : nth G id = some (.fI rows sz el)) (aO : nth R.obj id = some ro) (cD : ES b o j f i off sz ro) (hf : f = (rowOf rows j).length) :
    ∃ ts c cur vs, ro = .aG ts ∧ nth ts j = some (.tok f b c) ∧ nth rows j = some (rowOf rows j) ∧ o = i * sz + off ∧ dZ sz (rowOf rows j) ∧ w.heap[b]? = some (.cells cur el (0, 0)) ∧ f ≤ c ∧ c ≤ maxLen ∧ cur.size = c * sz ∧ (∀ o, ¬ R.I b o) ∧ ay R w (ap (rowOf rows j)) vs ∧ (∀ v ∈ vs, v.oneCell' = true) ∧ cur.toList.take (f * sz) = vs := by
  have hr := h.obj id _ _ aR aO
  cases ro with
  | none => exact hr.elim
  | aK => exact hr.elim
  | bh b => exact hr.elim
  | tok _ _ _ _ => exact hr.elim
  | aG ts =>
    obtain ⟨t, k1, k2⟩ := cD
    obtain ⟨h1, h2, h3⟩ := hr
    have bR := aM k1
    have ik : nth rows j = some rows[j] := by rw [aD]; exact List.getElem?_eq_getElem (by omega)
    have he : rowOf rows j = rows[j] := by unfold rowOf; rw [ik]
    have h4 := h3 j _ t ik k1
    rw [← he] at h4 ik
    cases t with
    | aK => exact k2.elim
    | full _ => exact h4.elim
    | tok f' b' c =>
      obtain ⟨h5, h6, cur, vs, q1, q2, q3, q4, q5, q6, q7, q8⟩ := h4
      obtain ⟨e1, e2⟩ := k2.2 (by omega)
      subst e1
      have e3 : f' = f := by omega
      subst e3
      exact ⟨ts, c, cur, vs, rfl, k1, ik, e2, h6, q1, q2, q3, q4, q5, q6, q7, q8⟩
theorem sT {id j f i sz : Nat} {t : TypeId} {v : AV} (h : sy E s id j f i sz t = some (true, v)) :
    ∃ rows el e, nth s.G id = some (.fI rows sz el) ∧ f = (rowOf rows j).length ∧ nth (rowOf rows j) i = some e ∧ eZ e v := by
  unfold sy at h
  split at h
  · rename_i rows aQ el aR
    split at h
    · rename_i p hp
      split at h
      · rename_i cU
        have cU := Nat.eq_of_beq_eq_true cU
        subst cU
        injection h with h
        injection h with h1 h2
        simp only [Bool.and_eq_true, decide_eq_true_eq] at h1
        obtain ⟨⟨h3, h4⟩, h5⟩ := h1
        obtain ⟨e, he⟩ : ∃ e, nth (rowOf rows j) i = some e := ⟨(rowOf rows j)[i], by rw [aD]; exact List.getElem?_eq_getElem h4⟩
        have hd : aY (rowOf rows j) i = e := by simp [aY, he]
        rw [hd] at h5 h2
        rw [← h2]
        exact ⟨rows, el, e, aR, h3, he, p.b9 h5⟩
      · cases h
    · split at h
      · rename_i cU
        have cU := Nat.eq_of_beq_eq_true cU
        subst cU
        injection h with h
        injection h with h1 h2
        simp only [Bool.and_eq_true, decide_eq_true_eq] at h1
        obtain ⟨h3, h4⟩ := h1
        obtain ⟨e, he⟩ : ∃ e, nth (rowOf rows j) i = some e := ⟨(rowOf rows j)[i], by rw [aD]; exact List.getElem?_eq_getElem h4⟩
        have hd : aY (rowOf rows j) i = e := by simp [aY, he]
        rw [hd] at h2
        rw [← h2]
        exact ⟨rows, el, e, aR, h3, he, eZ.refl e⟩
      · cases h
  · cases h
theorem sb {α : Type} {l : List α} {i : Nat} {x : α} (h : nth l i = some x) : x ∈ l := by
  rw [aD] at h
  exact List.mem_of_getElem? h
theorem qd {i n sz : Nat} (h : i < n) : i * sz + sz ≤ n * sz := by
  rw [← Nat.succ_mul]
  exact Nat.mul_le_mul_right _ h
theorem A0 (h : aJ E R w β s a) (t : TypeId) (x : Operand) (ho : o.op = .load t x) {v : AV} (hl : vK E s t (ba E s.ae x) = some (true, v)) :
    bj E R w β s a o (s.put o.dst (.v v)) := by
  have rx := aE h x
  unfold vK at hl
  split at hl
  · rename_i id f i off sz ty hx
    rw [hx] at rx
    split at hl
    · rename_i ti c ve EG hg
      split at hl
      · rename_i l hs
        split at hl
        · rename_i r hm
          injection hl with hl
          injection hl with h1 h2
          subst h1; subst h2
          obtain ⟨es, el, e, aR, Cv, he, vn⟩ := sS hg
          have cu : Rel R w (.gp id f i off sz ty) (a.eval x) := rx
          generalize dw : a.eval x = xv at cu
          cases cu with
          | @gp _ _ _ _ _ b o' _ ro aO cD =>
          obtain ⟨b', c', cur, vs, rfl, g1, g2, g3, g4, g5, g6, g7, g8, g9⟩ := kE h.g aR aO (fun k => by subst k; exact cD)
          obtain ⟨rfl, rfl⟩ := cD.2 Cv
          have KU := g1 e (sb he)
          have cZ : ay R w e.cells ((vs.drop (i * sz)).take sz) := by
            rw [← iN g1 he]
            exact (g7.drop _).take _
          have hw := (vn.cells KU.2).rel cZ
          obtain ⟨k1, k2, k3, k4⟩ := kB hs hw (fun y hy => g8 y (List.mem_of_mem_drop (List.mem_of_mem_take hy)))
          obtain ⟨c, hc, RJ⟩ := jv (E := E) EG (b := b) (off := i * sz + off) k1 k2 k3 (fun j y hy => by
            have h1 := k4 j y hy
            rw [List.getElem?_take] at h1
            split at h1
            · rw [List.getElem?_drop, ← g9, List.getElem?_take] at h1
              split at h1
              · rw [cell_of_row w b _ cur el (0, 0) g2, Nat.add_assoc, ← Array.getElem?_toList]
                exact h1
              · cases h1
            · cases h1) hm
          refine an h (c := c) ?_ RJ
          simp [execOp, ho, Instr.loadAt, dw, Instr.sureAddr, hc]
        · cases hl
      · cases hl
    · cases hl
  · rename_i id j f i off sz ty hx
    rw [hx] at rx
    split at hl
    · rename_i ti c ve EG hg
      split at hl
      · rename_i l hs
        split at hl
        · rename_i r hm
          injection hl with hl
          injection hl with h1 h2
          subst h1; subst h2
          obtain ⟨rows, el, e, aR, Cv, he, vn⟩ := sT hg
          have cu : Rel R w (.rp id j f i off sz ty) (a.eval x) := rx
          generalize dw : a.eval x = xv at cu
          cases cu with
          | @rp _ _ _ _ _ _ b o' _ ro aO cD =>
          obtain ⟨ts, c', cur, vs, rfl, k1, k2, rfl, vf, g2, g3, g4, g5, g6, g7, g8, g9⟩ := xm h.g aR aO cD Cv
          have g1 := vf.g
          subst Cv
          have KU := g1 e (sb he)
          have cZ : ay R w e.cells ((vs.drop (i * sz)).take sz) := by
            rw [← iN g1 he]
            exact (g7.drop _).take _
          have hw := (vn.cells KU.2).rel cZ
          obtain ⟨k1, k2, k3, k4⟩ := kB hs hw (fun y hy => g8 y (List.mem_of_mem_drop (List.mem_of_mem_take hy)))
          obtain ⟨c, hc, RJ⟩ := jv (E := E) EG (b := b) (off := i * sz + off) k1 k2 k3 (fun j' y hy => by
            have h1 := k4 j' y hy
            rw [List.getElem?_take] at h1
            split at h1
            · rw [List.getElem?_drop, ← g9, List.getElem?_take] at h1
              split at h1
              · rw [cell_of_row w b _ cur el (0, 0) g2, Nat.add_assoc, ← Array.getElem?_toList]
                exact h1
              · cases h1
            · cases h1) hm
          refine an h (c := c) ?_ RJ
          simp [execOp, ho, Instr.loadAt, dw, Instr.sureAddr, hc]
        · cases hl
      · cases hl
    · cases hl
  · split at hl
    · rename_i v' hv
      injection hl with hl
      injection hl with h1 h2
      subst h2
      exact Dy h t x ho hv
    · cases hl
theorem aJ.KV (h : aJ E R w β s a) {id j f b c : Nat} {rows : List (List AV)} {row' : List AV} {sz : Nat} {el : TypeId} {ts : List TR} {cur nz : Array Value} {vs' : List Value} (aR : nth s.G id = some (.fI rows sz el)) (aO : nth R.obj id = some (.aG ts)) (Fg : nth ts j = some (.tok f b c))
    (hb : w.heap[b]? = some (.cells cur el (0, 0))) (hlen : row'.length = f) (iI : dZ sz row') (cU : nz.size = cur.size) (hr : ay R w (ap row') vs') (h1 : ∀ v ∈ vs', v.oneCell' = true) (ht : nz.toList.take (f * sz) = vs') :
    aJ E R (w.setRow b nz) β (s.aX (aq s.G id (.fI (aq rows j row') sz el))) a ∧ Step R w β s.boxes R (w.setRow b nz) β s.boxes := by
  obtain ⟨m1, m2, m3⟩ := h.g.obj id _ _ aR aO
  have bR := aM Fg
  have ik : nth rows j = some rows[j] := by rw [aD]; exact List.getElem?_eq_getElem (by omega)
  obtain ⟨_, q1, KW, TX, p1, p2, p3, p4, p5, p6, p7, p8⟩ := m3 j _ _ ik Fg
  rw [hb] at p1
  cases p1
  have hex := ft (R := R) (w := w) p5 nz
  have gW : RO.has (.aG ts) b := ⟨j, f, c, Fg⟩
  have sU : ∀ k cs, cF s.boxes k = some cs → β k ≠ b := fun k cs hk e => (h.b.box k cs hk).2.2 ⟨id, _, aO, by rw [e]; exact gW⟩
  refine ⟨⟨⟨by simp [St.aX, h.g.len], fun fJ go ro hg gk => ?_, h.g.inj, fun b' o' nw => by have := h.g.wf b' o' nw; simp; omega, fun g di hg => (h.g.cw g di hg).mono hex, h.g.lo⟩, ?_, h.t.mono hex, h.n, h.d⟩, ?_⟩
  · rcases bH hg with ⟨rfl, rfl, _⟩ | ⟨bS, vS⟩
    · rw [aO] at gk
      cases gk
      refine ⟨by rw [cR]; exact m1, m2, fun j' row t Vu Ia => ?_⟩
      rcases bH Vu with ⟨rfl, rfl, _⟩ | ⟨Vv, RK⟩
      · rw [Fg] at Ia
        cases Ia
        exact ⟨hlen.symm, iI, nz, vs', setRow_heap w _ _ _ _ (0, 0) hb, p2, p3, by rw [cU]; exact p4, p5, hr.mono hex, h1, ht⟩
      · have h4 := m3 j' row t RK Ia
        cases t with
        | aK => exact h4
        | full _ => exact h4
        | tok f1 b1 c1 =>
          obtain ⟨h5, h6, RL, Vw, k1, k2, k3, k4, k5, k6, k7, k8⟩ := h4
          have EX : b1 ≠ b := fun e => Vv (m2 j' j f1 b1 c1 f c Ia (by rw [e]; exact Fg)).symm
          exact ⟨h5, h6, RL, Vw, (setRow_other w _ b1 _ EX).trans k1, k2, k3, k4, k5, k6.mono hex, k7, k8⟩
    · refine (h.g.obj fJ go ro vS gk).mono hex (fun b' gE => setRow_other w _ b' _ (fun e => bS ?_)) (fun _ _ _ hi => hi)
      subst e
      exact h.g.inj id fJ _ _ b' aO gk gW gE
  · exact h.b.bL hex (fun k di eD => setRow_other w _ _ _ (sU k di eD)) (fun _ _ _ _ hi => hi) (fun _ _ _ hl => hl)
  · have sH : Own R β s.boxes b := .inl ⟨id, _, aO, gW⟩
    exact ⟨hex, rfl, rfl, rfl, by simp, fun b' _ hn => setRow_other w _ b' _ (fun e => hn (e ▸ sH)), fun _ _ hb => hb, fun b o hi _ _ => hi⟩
theorem aJ.Fh (h : aJ E R w β s a) {id f b c : Nat} {es es' : List AV} {sz : Nat} {el : TypeId} {cur nz : Array Value} {vs' : List Value} (aR : nth s.G id = some (.cW es sz el)) (aO : nth R.obj id = some (.tok f b c 0))
    (hb : w.heap[b]? = some (.cells cur el (0, 0))) (hlen : es'.length = es.length) (iI : cK sz es') (cU : nz.size = cur.size) (hr : ay R w (ap es') vs') (h1 : ∀ v ∈ vs', v.oneCell' = true) (ht : nz.toList.take (f * sz) = vs') :
    aJ E R (w.setRow b nz) β (s.aX (aq s.G id (.cW es' sz el))) a ∧ Step R w β s.boxes R (w.setRow b nz) β s.boxes := by
  obtain ⟨_, q0, q1, KW, TX, p1, p2, p3, p4, p5, p6, p7, p8⟩ := h.g.obj id _ _ aR aO
  rw [hb] at p1
  cases p1
  have hex := ft (R := R) (w := w) p5 nz
  have sU : ∀ k cs, cF s.boxes k = some cs → β k ≠ b := fun k cs hk e => (h.b.box k cs hk).2.2 ⟨id, _, aO, by rw [e]; rfl⟩
  refine ⟨⟨⟨by simp [St.aX, h.g.len], fun fJ go ro hg gk => ?_, h.g.inj, fun b' o' nw => by have := h.g.wf b' o' nw; simp; omega, fun g di hg => (h.g.cw g di hg).mono hex, h.g.lo⟩, ?_, h.t.mono hex, h.n, h.d⟩, ?_⟩
  · rcases bH hg with ⟨rfl, rfl, _⟩ | ⟨bS, vS⟩
    · rw [aO] at gk
      cases gk
      exact ⟨rfl, by rw [hlen]; exact q0, iI, nz, vs', setRow_heap w _ _ _ _ (0, 0) hb, p2, p3, by rw [cU]; exact p4, p5, hr.mono hex, h1, ht⟩
    · refine (h.g.obj fJ go ro vS gk).mono hex (fun b' gE => setRow_other w _ b' _ (fun e => bS ?_)) (fun _ _ _ hi => hi)
      subst e
      exact h.g.inj id fJ _ _ b' aO gk rfl gE
  · exact h.b.bL hex (fun k di eD => setRow_other w _ _ _ (sU k di eD)) (fun _ _ _ _ hi => hi) (fun _ _ _ hl => hl)
  · have sH : Own R β s.boxes b := .inl ⟨id, _, aO, rfl⟩
    exact ⟨hex, rfl, rfl, rfl, by simp, fun b' _ hn => setRow_other w _ b' _ (fun e => hn (e ▸ sH)), fun _ _ hb => hb, fun b o hi _ _ => hi⟩
theorem aJ.Cw (h : aJ E R w β s a) {id b c i off : Nat} {es : List AV} {sz : Nat} {el : TypeId} {cur : Array Value} {vs us : List Value} {e' : AV} (aR : nth s.G id = some (.cW es sz el)) (aO : nth R.obj id = some (.tok es.length b c 0))
    (hb : w.heap[b]? = some (.cells cur el (0, 0))) (iI : cK sz es) (hle : es.length ≤ c) (mS : cur.size = c * sz) (hr : ay R w (ap es) vs) (h1 : ∀ v ∈ vs, v.oneCell' = true) (ht : cur.toList.take (es.length * sz) = vs) (hi : i < es.length)
    (h2 : ∀ v ∈ us, v.oneCell' = true) (qe : off + us.length ≤ sz) (kX : e'.cells.length = sz) (Ib : e'.aH = true) (KX : ay R w e'.cells (((vs.drop (i * sz)).take sz).take off ++ us ++ ((vs.drop (i * sz)).take sz).drop (off + us.length))) :
    aJ E R (w.setRow b ⟨cur.toList.take (i * sz + off) ++ us ++ cur.toList.drop (i * sz + off + us.length)⟩) β (s.aX (aq s.G id (.cW (aq es i e') sz el))) a ∧
      Step R w β s.boxes R (w.setRow b ⟨cur.toList.take (i * sz + off) ++ us ++ cur.toList.drop (i * sz + off + us.length)⟩) β s.boxes := by
  have sR := qd (sz := sz) hi
  have xn : es.length * sz ≤ cur.toList.length := by
    rw [show cur.toList.length = cur.size from Array.length_toList, mS]
    exact Nat.mul_le_mul_right _ hle
  have Ao : vs.length = es.length * sz := by rw [← hr.length, bo iI]
  refine h.Fh aR aO hb (cR _ _ _) (AZ iI kX Ib) ?_ (vs' := vs.take (i * sz) ++ (((vs.drop (i * sz)).take sz).take off ++ us ++ ((vs.drop (i * sz)).take sz).drop (off + us.length)) ++ vs.drop (i * sz + sz)) ?_ ?_ ?_
  · rw [List.size_toArray, ← Array.length_toList]
    simp only [List.length_append, List.length_take, List.length_drop]
    omega
  · rw [qL iI hi kX, cT _ _ _ (by rw [kX, bo iI]; exact sR), kX]
    exact ((hr.take _).append KX).append (hr.drop _)
  · intro v hv
    simp only [List.mem_append] at hv
    rcases hv with (hv | ((hv | hv) | hv)) | hv
    · exact h1 v (List.mem_of_mem_take hv)
    · exact h1 v (List.mem_of_mem_drop (List.mem_of_mem_take (List.mem_of_mem_take hv)))
    · exact h2 v hv
    · exact h1 v (List.mem_of_mem_drop (List.mem_of_mem_take (List.mem_of_mem_drop hv)))
    · exact h1 v (List.mem_of_mem_drop hv)
  · rw [List.toList_toArray, nB _ _ _ _ _ _ xn sR qe, ht]
theorem aJ.Cx (h : aJ E R w β s a) {id j b c i off : Nat} {rows : List (List AV)} {es : List AV} {ts : List TR} {sz : Nat} {el : TypeId} {cur : Array Value} {vs us : List Value} {e' : AV} (aR : nth s.G id = some (.fI rows sz el)) (aO : nth R.obj id = some (.aG ts)) (Fg : nth ts j = some (.tok es.length b c))
    (hb : w.heap[b]? = some (.cells cur el (0, 0))) (ox : dZ sz es) (hle : es.length ≤ c) (mS : cur.size = c * sz) (hr : ay R w (ap es) vs) (h1 : ∀ v ∈ vs, v.oneCell' = true) (ht : cur.toList.take (es.length * sz) = vs) (hi : i < es.length)
    (h2 : ∀ v ∈ us, v.oneCell' = true) (qe : off + us.length ≤ sz) (kX : e'.cells.length = sz) (Ib : e'.aH = true) (fK : e'.closed = true) (KX : ay R w e'.cells (((vs.drop (i * sz)).take sz).take off ++ us ++ ((vs.drop (i * sz)).take sz).drop (off + us.length))) :
    aJ E R (w.setRow b ⟨cur.toList.take (i * sz + off) ++ us ++ cur.toList.drop (i * sz + off + us.length)⟩) β (s.aX (aq s.G id (.fI (aq rows j (aq es i e')) sz el))) a ∧
      Step R w β s.boxes R (w.setRow b ⟨cur.toList.take (i * sz + off) ++ us ++ cur.toList.drop (i * sz + off + us.length)⟩) β s.boxes := by
  have iI := ox.g
  have sR := qd (sz := sz) hi
  have xn : es.length * sz ≤ cur.toList.length := by
    rw [show cur.toList.length = cur.size from Array.length_toList, mS]
    exact Nat.mul_le_mul_right _ hle
  have Ao : vs.length = es.length * sz := by rw [← hr.length, bo iI]
  refine h.KV aR aO Fg hb (cR _ _ _) (vX ox kX Ib fK) ?_ (vs' := vs.take (i * sz) ++ (((vs.drop (i * sz)).take sz).take off ++ us ++ ((vs.drop (i * sz)).take sz).drop (off + us.length)) ++ vs.drop (i * sz + sz)) ?_ ?_ ?_
  · rw [List.size_toArray, ← Array.length_toList]
    simp only [List.length_append, List.length_take, List.length_drop]
    omega
  · rw [qL iI hi kX, cT _ _ _ (by rw [kX, bo iI]; exact sR), kX]
    exact ((hr.take _).append KX).append (hr.drop _)
  · intro v hv
    simp only [List.mem_append] at hv
    rcases hv with (hv | ((hv | hv) | hv)) | hv
    · exact h1 v (List.mem_of_mem_take hv)
    · exact h1 v (List.mem_of_mem_drop (List.mem_of_mem_take (List.mem_of_mem_take hv)))
    · exact h2 v hv
    · exact h1 v (List.mem_of_mem_drop (List.mem_of_mem_take (List.mem_of_mem_drop hv)))
    · exact h1 v (List.mem_of_mem_drop hv)
  · rw [List.toList_toArray, nB _ _ _ _ _ _ xn sR qe, ht]
theorem aJ.Cy (h : aJ E R w β s a) {id b c off : Nat} {es ns : List AV} {sz : Nat} {el : TypeId} {cur : Array Value} {vs us : List Value} (aR : nth s.G id = some (.cW es sz el)) (aO : nth R.obj id = some (.tok es.length b c 0))
    (hb : w.heap[b]? = some (.cells cur el (0, 0))) (iI : cK sz es) (hle : es.length ≤ c) (mS : cur.size = c * sz) (hr : ay R w (ap es) vs) (h1 : ∀ v ∈ vs, v.oneCell' = true) (ht : cur.toList.take (es.length * sz) = vs)
    (qe : off + ns.length ≤ es.length) (TY : cK sz ns) (hu : ay R w (ap ns) us) (h2 : ∀ v ∈ us, v.oneCell' = true) :
    aJ E R (w.setRow b ⟨cur.toList.take (off * sz) ++ us ++ cur.toList.drop (off * sz + us.length)⟩) β (s.aX (aq s.G id (.cW (bu es off ns) sz el))) a ∧
      Step R w β s.boxes R (w.setRow b ⟨cur.toList.take (off * sz) ++ us ++ cur.toList.drop (off * sz + us.length)⟩) β s.boxes := by
  have Cz : us.length = ns.length * sz := by rw [← hu.length, bo TY]
  have sR : off * sz + ns.length * sz ≤ es.length * sz := by rw [← Nat.add_mul]; exact Nat.mul_le_mul_right _ qe
  have xn : es.length * sz ≤ cur.toList.length := by
    rw [show cur.toList.length = cur.size from Array.length_toList, mS]
    exact Nat.mul_le_mul_right _ hle
  have Ao : vs.length = es.length * sz := by rw [← hr.length, bo iI]
  have hm := nB cur.toList us (es.length * sz) (off * sz) (ns.length * sz) 0 xn sR (by omega)
  simp only [Nat.add_zero, List.take_zero, List.nil_append, Nat.zero_add] at hm
  rw [Cz, ht, show List.drop (ns.length * sz) (List.take (ns.length * sz) (List.drop (off * sz) vs)) = [] from List.drop_of_length_le (by rw [List.length_take]; exact Nat.min_le_left _ _), List.append_nil] at hm
  rw [cT _ _ _ qe]
  refine h.Fh aR aO hb (by simp; omega) (ow (ow (vZ _ iI) TY) (DE _ iI)) ?_ (vs' := vs.take (off * sz) ++ us ++ vs.drop (off * sz + ns.length * sz)) ?_ ?_ ?_
  · rw [List.size_toArray, ← Array.length_toList]
    simp only [List.length_append, List.length_take, List.length_drop, Cz]
    omega
  · rw [bM, bM, fw _ iI, lH _ iI, Nat.add_mul]
    exact ((hr.take _).append hu).append (hr.drop _)
  · intro v hv
    simp only [List.mem_append] at hv
    rcases hv with (hv | hv) | hv
    · exact h1 v (List.mem_of_mem_take hv)
    · exact h2 v hv
    · exact h1 v (List.mem_of_mem_drop hv)
  · rw [List.toList_toArray, Cz]
    exact hm
theorem oz (h : aJ E R w β s a) (t : TypeId) (p x : Operand) (ho : o.op = .store t p x) (hd : o.dst = none) {id f i off sz : Nat} {ty : TypeId} (DA : ba E s.ae p = .v (.gp id f i off sz ty)) {x' : SV} (rx : lj R w β x' (a.eval x)) {s' : St} (hs : dy E s t (.v (.gp id f i off sz ty)) x' = some (true, s')) :
    bj E R w β s a o s' := by
  have rp := aE h p
  rw [DA] at rp
  have JZ : Rel R w (.gp id f i off sz ty) (a.eval p) := rp
  generalize HY : a.eval p = pv at JZ
  unfold dy at hs
  simp only at hs
  split at hs
  · rename_i ti v es aQ el EG aR
    split at hs
    · rename_i dl
      simp only [Bool.and_eq_true] at dl
      obtain ⟨⟨Dz, hlen⟩, A1⟩ := dl
      have hlen := Nat.eq_of_beq_eq_true hlen
      have A1 := Nat.eq_of_beq_eq_true A1
      subst A1
      have RM : Rel R w v (a.eval x) := rx
      obtain ⟨c1, c2⟩ := Rel.cells RM Dz
      have nW : v.cells.length = (a.eval x).cells.toList.length := c1.length
      cases JZ with
      | @gp _ _ _ _ _ b o' _ ro aO cD =>
      obtain ⟨b', c', cur, vs, rfl, g1, g2, g3, g4, g5, g6, g7, g8, g9⟩ := kE h.g aR aO (fun k => by subst k; exact cD)
      have Ao : vs.length = es.length * sz := by rw [← g7.length, bo g1]
      have xn : es.length * sz ≤ cur.toList.length := by
        rw [show cur.toList.length = cur.size from Array.length_toList, g5]
        exact Nat.mul_le_mul_right _ g3
      split at hs
      · rename_i hw
        rw [Bool.and_eq_true] at hw
        have qe := Nat.eq_of_beq_eq_true hw.1
        have CA := Nat.eq_of_beq_eq_true hw.2
        subst qe
        injection hs with hs
        injection hs with h1 h2
        rw [Bool.and_eq_true, decide_eq_true_eq, decide_eq_true_eq] at h1
        subst h2
        obtain ⟨rfl, rfl⟩ := cD.2 h1.1
        have sR := qd (sz := sz) h1.2
        have aU := eJ (E := E) (w := w) EG (b := b) (vs := cur.toList) (off := i * sz + 0) (c := a.eval x) g2 (by rw [← nW]; exact hlen) (by rw [← nW]; omega) c2
        obtain ⟨r1, r2⟩ := h.Cw (us := (a.eval x).cells.toList) (off := 0) (i := i) (e' := v) aR aO g2 g1 g3 g5 g7 g8 g9 h1.2 c2 (by rw [← nW]; omega) (by omega) Dz (by
          rw [List.take_zero, List.nil_append, Nat.zero_add, List.drop_of_length_le (by rw [List.length_take, ← nW]; omega), List.append_nil]
          exact c1)
        simp only [Nat.add_zero] at HY aU r1 r2
        refine ⟨.skip, undef, _, R, β, ?_, .inr ⟨rfl, rfl⟩, by rw [hd]; exact r1, r2⟩
        simp [execOp, ho, Instr.storeAt, HY, Instr.sureAddr, aU]
      · split at hs
        · rename_i cc cs hg
          split at hs
          · rename_i hw
            simp only [Bool.and_eq_true] at hw
            obtain ⟨hle, A2⟩ := hw
            have hle := Nat.le_of_ble_eq_true hle
            have A2 := Nat.eq_of_beq_eq_true A2
            injection hs with hs
            injection hs with h1 h2
            subst h1; subst h2
            obtain ⟨Vx, Vy, e, yU, Cv, he, vn⟩ := sS hg
            rw [aR] at yU
            cases yU
            obtain ⟨rfl, rfl⟩ := cD.2 Cv
            have hi : i < es.length := aM he
            have sR := qd (sz := sz) hi
            have KU := g1 e (sb he)
            have cZ : ay R w e.cells ((vs.drop (i * sz)).take sz) := by
              rw [← iN g1 he]
              exact (g7.drop _).take _
            have hw := (vn.cells KU.2).rel cZ
            have OV : ay R w cs ((vs.drop (i * sz)).take sz) := hw
            have aU := eJ (E := E) (w := w) EG (b := b) (vs := cur.toList) (off := i * sz + off) (c := a.eval x) g2 (by rw [← nW]; exact hlen) (by rw [← nW]; omega) c2
            have vo : off + v.cells.length ≤ cs.length := by omega
            obtain ⟨r1, r2⟩ := h.Cw (us := (a.eval x).cells.toList) (off := off) (i := i) (e' := .agg (bu cs off v.cells)) aR aO g2 g1 g3 g5 g7 g8 g9 hi c2 (by rw [← nW]; omega) (by show (bu cs off v.cells).length = sz; rw [mV _ _ _ vo]; exact A2) rfl (by
              show ay R w (bu cs off v.cells) _
              rw [cT _ _ _ vo, nW]
              exact ((OV.take _).append c1).append (OV.drop _))
            refine ⟨.skip, undef, _, R, β, ?_, .inr ⟨rfl, rfl⟩, by rw [hd]; exact r1, r2⟩
            simp [execOp, ho, Instr.storeAt, HY, Instr.sureAddr, aU]
          · cases hs
        · cases hs
    · cases hs
  · cases hs
theorem xo (h : aJ E R w β s a) (t : TypeId) (p x : Operand) (ho : o.op = .store t p x) (hd : o.dst = none) {id j f i off sz : Nat} {ty : TypeId} (DA : ba E s.ae p = .v (.rp id j f i off sz ty)) {x' : SV} (rx : lj R w β x' (a.eval x)) {s' : St} (hs : dy E s t (.v (.rp id j f i off sz ty)) x' = some (true, s')) :
    bj E R w β s a o s' := by
  have rp := aE h p
  rw [DA] at rp
  have JZ : Rel R w (.rp id j f i off sz ty) (a.eval p) := rp
  generalize HY : a.eval p = pv at JZ
  unfold dy at hs
  simp only at hs
  split at hs
  · rename_i ti v rows aQ el EG aR
    split at hs
    · rename_i dl
      simp only [Bool.and_eq_true] at dl
      obtain ⟨⟨Dz, hlen⟩, A1⟩ := dl
      have hlen := Nat.eq_of_beq_eq_true hlen
      have A1 := Nat.eq_of_beq_eq_true A1
      subst A1
      have RM : Rel R w v (a.eval x) := rx
      obtain ⟨c1, c2⟩ := Rel.cells RM Dz
      have nW : v.cells.length = (a.eval x).cells.toList.length := c1.length
      cases JZ with
      | @rp _ _ _ _ _ _ b o' _ ro aO cD =>
      split at hs
      · rename_i hw
        rw [Bool.and_eq_true] at hw
        have qe := Nat.eq_of_beq_eq_true hw.1
        have CA := Nat.eq_of_beq_eq_true hw.2
        subst qe
        injection hs with hs
        injection hs with h1 h2
        rw [Bool.and_eq_true, Bool.and_eq_true, decide_eq_true_eq, decide_eq_true_eq] at h1
        obtain ⟨⟨RN, TZ⟩, RQ⟩ := h1
        subst h2
        obtain ⟨ts, c', cur, vs, rfl, Fg, ik, rfl, vf, g2, g3, g4, g5, g6, g7, g8, g9⟩ := xm h.g aR aO cD RN
        have g1 := vf.g
        have Ao : vs.length = (rowOf rows j).length * sz := by rw [← g7.length, bo g1]
        have xn : (rowOf rows j).length * sz ≤ cur.toList.length := by
          rw [show cur.toList.length = cur.size from Array.length_toList, g5, ← RN]
          exact Nat.mul_le_mul_right _ g3
        subst RN
        have sR := qd (sz := sz) TZ
        have aU := eJ (E := E) (w := w) EG (b := b) (vs := cur.toList) (off := i * sz + 0) (c := a.eval x) g2 (by rw [← nW]; exact hlen) (by rw [← nW]; omega) c2
        obtain ⟨r1, r2⟩ := h.Cx (us := (a.eval x).cells.toList) (off := 0) (i := i) (e' := v) aR aO Fg g2 vf g3 g5 g7 g8 g9 TZ c2 (by rw [← nW]; omega) (by omega) Dz RQ (by
          rw [List.take_zero, List.nil_append, Nat.zero_add, List.drop_of_length_le (by rw [List.length_take, ← nW]; omega), List.append_nil]
          exact c1)
        simp only [Nat.add_zero] at HY aU r1 r2
        refine ⟨.skip, undef, _, R, β, ?_, .inr ⟨rfl, rfl⟩, by rw [hd]; exact r1, r2⟩
        simp [execOp, ho, Instr.storeAt, HY, Instr.sureAddr, aU]
      · split at hs
        · rename_i cc cs hg
          split at hs
          · rename_i hw
            simp only [Bool.and_eq_true] at hw
            obtain ⟨hle, A2⟩ := hw
            have hle := Nat.le_of_ble_eq_true hle
            have A2 := Nat.eq_of_beq_eq_true A2
            injection hs with hs
            injection hs with h1 h2
            rw [Bool.and_eq_true] at h1
            obtain ⟨h1, RQ⟩ := h1
            subst h1; subst h2
            obtain ⟨Vx, Vy, e, yU, Cv, he, vn⟩ := sT hg
            rw [aR] at yU
            cases yU
            obtain ⟨ts, c', cur, vs, rfl, Fg, ik, rfl, vf, g2, g3, g4, g5, g6, g7, g8, g9⟩ := xm h.g aR aO cD Cv
            have g1 := vf.g
            have Ao : vs.length = (rowOf rows j).length * sz := by rw [← g7.length, bo g1]
            have xn : (rowOf rows j).length * sz ≤ cur.toList.length := by
              rw [show cur.toList.length = cur.size from Array.length_toList, g5, ← Cv]
              exact Nat.mul_le_mul_right _ g3
            subst Cv
            have hi : i < (rowOf rows j).length := aM he
            have sR := qd (sz := sz) hi
            have KU := g1 e (sb he)
            have cZ : ay R w e.cells ((vs.drop (i * sz)).take sz) := by
              rw [← iN g1 he]
              exact (g7.drop _).take _
            have hw := (vn.cells KU.2).rel cZ
            have OV : ay R w cs ((vs.drop (i * sz)).take sz) := hw
            have aU := eJ (E := E) (w := w) EG (b := b) (vs := cur.toList) (off := i * sz + off) (c := a.eval x) g2 (by rw [← nW]; exact hlen) (by rw [← nW]; omega) c2
            have vo : off + v.cells.length ≤ cs.length := by omega
            obtain ⟨r1, r2⟩ := h.Cx (us := (a.eval x).cells.toList) (off := off) (i := i) (e' := .agg (bu cs off v.cells)) aR aO Fg g2 vf g3 g5 g7 g8 g9 hi c2 (by rw [← nW]; omega) (by show (bu cs off v.cells).length = sz; rw [mV _ _ _ vo]; exact A2) rfl RQ (by
              show ay R w (bu cs off v.cells) _
              rw [cT _ _ _ vo, nW]
              exact ((OV.take _).append c1).append (OV.drop _))
            refine ⟨.skip, undef, _, R, β, ?_, .inr ⟨rfl, rfl⟩, by rw [hd]; exact r1, r2⟩
            simp [execOp, ho, Instr.storeAt, HY, Instr.sureAddr, aU]
          · cases hs
        · cases hs
    · cases hs
  · cases hs
theorem yV (h : aJ E R w β s a) (t : TypeId) (p x : Operand) (ho : o.op = .store t p x) (hd : o.dst = none) {s' : St} (hs : dy E s t (ba E s.ae p) (ba E s.ae x) = some (true, s')) :
    bj E R w β s a o s' := by
  have QN := hs
  unfold dy at hs
  split at hs
  · rename_i id f i off sz ty DA
    rw [DA] at QN
    exact oz h t p x ho hd DA (aE h x) QN
  · rename_i id j f i off sz ty DA
    rw [DA] at QN
    exact xo h t p x ho hd DA (aE h x) QN
  · split at hs
    · rename_i xp hv
      injection hs with hs
      injection hs with h1 h2
      subst h2
      exact AK h t p x ho hd hv
    · cases hs
def af.reset (R : af) (id : Nat) (ro : RO) : af := ⟨R.I, aq R.obj id ro⟩
theorem nC {id g : Nat} {r0 ro : RO} (aR : nth R.obj id = some r0) (aO : ∀ b, ro.has b → b = g) {b : Nat} (hl : Live (R.reset id ro) b) : b = g ∨ Live R b := by
  obtain ⟨i, r, h1, h2⟩ := hl
  rcases ao aR h1 with ⟨_, rfl⟩ | ⟨_, h1⟩
  · exact .inl (aO b h2)
  · exact .inr ⟨i, r, h1, h2⟩
theorem aJ.KY (h : aJ E R w β s a) {cur : Array Value} {vs : List Value} {es es' : List AV} {elem : TypeId} {sz cap id : Nat} {r0 : RO} (hg : nth s.G id = some (.cW es sz elem)) (aR : nth R.obj id = some r0) (hf : ∀ b c, bF r0 (.tok es'.length b c 0))
    (hn : es'.length ≤ cap) (hm : cap ≤ maxLen) (hs : cur.size = cap * sz) (iI : cK sz es') (hr : ay R w (ap es') vs) (h1 : ∀ v ∈ vs, v.oneCell' = true) (ht : cur.toList.take (es'.length * sz) = vs) :
    aJ E (R.reset id (.tok es'.length w.heap.size cap 0)) (w.drew.alloc (.cells cur elem)) β (s.aX (aq s.G id (.cW es' sz elem))) a ∧
    Step R w β s.boxes (R.reset id (.tok es'.length w.heap.size cap 0)) (w.drew.alloc (.cells cur elem)) β s.boxes := by
  have e : Ext R w (R.reset id (.tok es'.length w.heap.size cap 0)) (w.drew.alloc (.cells cur elem)) :=
    ⟨fun _ _ h => h, fun b o hi => bl (heap_alloc_old w.drew _ b (h.g.wf b o hi)) o, fun i r hr => by
      by_cases ei : id = i
      · subst ei
        rw [aR] at hr
        cases hr
        exact ⟨_, aj aR, hf _ _⟩
      · exact ⟨r, by rw [af.reset, az ei]; exact hr, bF.refl r⟩, .old fun b hb => heap_alloc_old w.drew _ b hb⟩
  have old : ∀ b, b < w.heap.size → (w.drew.alloc (.cells cur elem)).heap[b]? = w.heap[b]? := fun b hb => heap_alloc_old w.drew _ b hb
  have new : (w.drew.alloc (.cells cur elem)).heap[w.heap.size]? = some (.cells cur elem (0, 0)) := heap_alloc_new w.drew _
  have live : ∀ b, b < w.heap.size → Live (R.reset id (.tok es'.length w.heap.size cap 0)) b → Live R b := fun b hb hl => by
    rcases nC (g := w.heap.size) (ro := .tok es'.length w.heap.size cap 0) aR (fun _ h => h) hl with rfl | hl
    · omega
    · exact hl
  refine ⟨⟨⟨by simp [St.aX, af.reset, h.g.len], fun i gg r jn h2 => ?_, fun i j ri rj b jn h2 b1 b2 => ?_, fun b o hi => ?_, fun g cs hg => (h.g.cw g cs hg).mono e, Nat.le_succ_of_le h.g.lo⟩, ?_, h.t.mono e, h.n, h.d.mono e⟩, ?_⟩
  · rcases ao aR h2 with ⟨rfl, rfl⟩ | ⟨bS, h2⟩
    · simp only [St.aX] at jn
      rw [aj hg] at jn
      cases jn
      exact ⟨rfl, rfl, iI, cur, vs, new, hn, hm, hs, fun o hi => by have := h.g.wf _ _ hi; omega, hr.mono e, h1, ht⟩
    · simp only [St.aX] at jn
      rw [az (Ne.symm bS)] at jn
      exact (h.g.obj i gg r jn h2).mono e (fun b hb => old b (h.g.bq ⟨i, r, h2, hb⟩)) (fun b o _ hi => hi)
  · rcases ao aR jn with ⟨g3, e1⟩ | ⟨g3, g1⟩
    · rcases ao aR h2 with ⟨g4, e2⟩ | ⟨g4, g2⟩
      · omega
      · have := h.g.bq ⟨j, rj, g2, b2⟩
        rw [e1] at b1
        simp [RO.has] at b1
        omega
    · rcases ao aR h2 with ⟨g4, e2⟩ | ⟨g4, g2⟩
      · have := h.g.bq ⟨i, ri, g1, b1⟩
        rw [e2] at b2
        simp [RO.has] at b2
        omega
      · exact h.g.inj i j ri rj b g1 g2 b1 b2
  · have := h.g.wf b o hi
    simp
    omega
  · exact h.b.bL e (fun k cs hk => old _ (h.cA (.inr ⟨k, cs, hk, rfl⟩))) (fun k cs o hk hi => hi) (fun k cs hk hl => live _ (h.cA (.inr ⟨k, cs, hk, rfl⟩)) hl)
  · refine ⟨e, rfl, rfl, rfl, by simp, fun b hb _ => old b hb, fun b hb ho => ?_, fun b o hi hb _ => hi⟩
    rcases ho with ho | ho
    · exact .inl (live b hb ho)
    · exact .inr ho
theorem aJ.Ic (h : aJ E R w β s a) {cur : Array Value} {vs : List Value} {es es' : List AV} {elem : TypeId} {sz cap id : Nat} {r0 : RO} (hg : nth s.G id = some (.cW es sz elem)) (aR : nth R.obj id = some r0) (hf : ∀ b c, bF r0 (.tok es'.length b c 0))
    (hn : es'.length ≤ cap) (hm : cap ≤ maxLen) (hs : cur.size = cap * sz) (iI : cK sz es') (hr : ay R w (ap es') vs) (h1 : ∀ v ∈ vs, v.oneCell' = true) (ht : cur.toList.take (es'.length * sz) = vs) :
    aJ E (R.reset id (.tok es'.length w.heap.size cap 0)) (w.alloc (.cells cur elem)) β (s.aX (aq s.G id (.cW es' sz elem))) a ∧
    Step R w β s.boxes (R.reset id (.tok es'.length w.heap.size cap 0)) (w.alloc (.cells cur elem)) β s.boxes := by
  have e : Ext R w (R.reset id (.tok es'.length w.heap.size cap 0)) (w.alloc (.cells cur elem)) :=
    ⟨fun _ _ h => h, fun b o hi => bl (heap_alloc_old w _ b (h.g.wf b o hi)) o, fun i r hr => by
      by_cases ei : id = i
      · subst ei
        rw [aR] at hr
        cases hr
        exact ⟨_, aj aR, hf _ _⟩
      · exact ⟨r, by rw [af.reset, az ei]; exact hr, bF.refl r⟩, .old fun b hb => heap_alloc_old w _ b hb⟩
  have old : ∀ b, b < w.heap.size → (w.alloc (.cells cur elem)).heap[b]? = w.heap[b]? := fun b hb => heap_alloc_old w _ b hb
  have new : (w.alloc (.cells cur elem)).heap[w.heap.size]? = some (.cells cur elem (0, 0)) := heap_alloc_new w _
  have live : ∀ b, b < w.heap.size → Live (R.reset id (.tok es'.length w.heap.size cap 0)) b → Live R b := fun b hb hl => by
    rcases nC (g := w.heap.size) (ro := .tok es'.length w.heap.size cap 0) aR (fun _ h => h) hl with rfl | hl
    · omega
    · exact hl
  refine ⟨⟨⟨by simp [St.aX, af.reset, h.g.len], fun i gg r jn h2 => ?_, fun i j ri rj b jn h2 b1 b2 => ?_, fun b o hi => ?_, fun g cs hg => (h.g.cw g cs hg).mono e, h.g.lo⟩, ?_, h.t.mono e, h.n, h.d.mono e⟩, ?_⟩
  · rcases ao aR h2 with ⟨rfl, rfl⟩ | ⟨bS, h2⟩
    · simp only [St.aX] at jn
      rw [aj hg] at jn
      cases jn
      exact ⟨rfl, rfl, iI, cur, vs, new, hn, hm, hs, fun o hi => by have := h.g.wf _ _ hi; omega, hr.mono e, h1, ht⟩
    · simp only [St.aX] at jn
      rw [az (Ne.symm bS)] at jn
      exact (h.g.obj i gg r jn h2).mono e (fun b hb => old b (h.g.bq ⟨i, r, h2, hb⟩)) (fun b o _ hi => hi)
  · rcases ao aR jn with ⟨g3, e1⟩ | ⟨g3, g1⟩
    · rcases ao aR h2 with ⟨g4, e2⟩ | ⟨g4, g2⟩
      · omega
      · have := h.g.bq ⟨j, rj, g2, b2⟩
        rw [e1] at b1
        simp [RO.has] at b1
        omega
    · rcases ao aR h2 with ⟨g4, e2⟩ | ⟨g4, g2⟩
      · have := h.g.bq ⟨i, ri, g1, b1⟩
        rw [e2] at b2
        simp [RO.has] at b2
        omega
      · exact h.g.inj i j ri rj b g1 g2 b1 b2
  · have := h.g.wf b o hi
    simp
    omega
  · exact h.b.bL e (fun k cs hk => old _ (h.cA (.inr ⟨k, cs, hk, rfl⟩))) (fun k cs o hk hi => hi) (fun k cs hk hl => live _ (h.cA (.inr ⟨k, cs, hk, rfl⟩)) hl)
  · refine ⟨e, rfl, rfl, rfl, by simp, fun b hb _ => old b hb, fun b hb ho => ?_, fun b o hi hb _ => hi⟩
    rcases ho with ho | ho
    · exact .inl (live b hb ho)
    · exact .inr ho
theorem aJ.Ie (h : aJ E R w β s a) {cur cur2 : Array Value} {vs : List Value} {es es' : List AV} {elem : TypeId} {sz id g c : Nat} (hg : nth s.G id = some (.cW es sz elem)) (aR : nth R.obj id = some (.tok es.length g c 0)) (bR : es.length < es'.length) (hn : es'.length ≤ c)
    (gm : w.heap[g]? = some (.cells cur elem (0, 0))) (hs : cur2.size = cur.size) (iI : cK sz es') (hr : ay R w (ap es') vs) (h1 : ∀ v ∈ vs, v.oneCell' = true) (ht : cur2.toList.take (es'.length * sz) = vs) :
    aJ E (R.reset id (.tok es'.length g c 0)) (w.setRow g cur2) β (s.aX (aq s.G id (.cW es' sz elem))) a ∧
    Step R w β s.boxes (R.reset id (.tok es'.length g c 0)) (w.setRow g cur2) β s.boxes := by
  obtain ⟨_, q0, q1, KW, TX, p1, p2, p3, p4, p5, p6, p7, p8⟩ := h.g.obj id _ _ hg aR
  rw [gm] at p1
  cases p1
  have rO : Live R g := ⟨id, _, aR, rfl⟩
  have old : ∀ b, b ≠ g → (w.setRow g cur2).heap[b]? = w.heap[b]? := fun b hb => setRow_other w g b cur2 hb
  have new : (w.setRow g cur2).heap[g]? = some (.cells cur2 elem (0, 0)) := setRow_heap w g cur cur2 elem (0, 0) gm
  have e : Ext R w (R.reset id (.tok es'.length g c 0)) (w.setRow g cur2) := by
    have e0 := ft (R := R) (w := w) p5 cur2
    refine ⟨fun _ _ h => h, e0.cell, fun i r hr => ?_, e0.lp⟩
    by_cases ei : id = i
    · subst ei
      rw [aR] at hr
      cases hr
      exact ⟨_, aj aR, by omega, fun e => by omega⟩
    · exact ⟨r, by rw [af.reset, az ei]; exact hr, bF.refl r⟩
  have live : ∀ b, Live (R.reset id (.tok es'.length g c 0)) b → Live R b := fun b hl => by
    rcases nC (g := g) (ro := .tok es'.length g c 0) aR (fun _ h => h) hl with rfl | hl
    · exact rO
    · exact hl
  have nA : ∀ k cs, cF s.boxes k = some cs → β k ≠ g := fun k cs hk eq => (h.b.box k cs hk).2.2 (eq ▸ rO)
  refine ⟨⟨⟨by simp [St.aX, af.reset, h.g.len], fun i gg r jn h2 => ?_, fun i j ri rj b jn h2 b1 b2 => ?_, fun b o hi => ?_, fun g cs hg => (h.g.cw g cs hg).mono e, h.g.lo⟩, ?_, h.t.mono e, h.n, h.d.mono e⟩, ?_⟩
  · rcases ao aR h2 with ⟨rfl, rfl⟩ | ⟨bS, h2⟩
    · simp only [St.aX] at jn
      rw [aj hg] at jn
      cases jn
      exact ⟨rfl, rfl, iI, cur2, vs, new, hn, p3, by rw [hs]; exact p4, p5, hr.mono e, h1, ht⟩
    · simp only [St.aX] at jn
      rw [az (Ne.symm bS)] at jn
      have KS : ∀ b, r.has b → b ≠ g := fun b hb eq => bS (h.g.inj i id _ _ b h2 aR hb (by rw [eq]; rfl))
      exact (h.g.obj i gg r jn h2).mono e (fun b hb => old b (KS b hb)) (fun b o hb hi => hi)
  · rcases ao aR jn with ⟨g3, e1⟩ | ⟨g3, g1⟩
    · rcases ao aR h2 with ⟨g4, e2⟩ | ⟨g4, g2⟩
      · omega
      · rw [e1] at b1
        exact g3.trans (h.g.inj id j _ _ b aR g2 b1 b2)
    · rcases ao aR h2 with ⟨g4, e2⟩ | ⟨g4, g2⟩
      · rw [e2] at b2
        exact (h.g.inj i id _ _ b g1 aR b1 b2).trans g4.symm
      · exact h.g.inj i j ri rj b g1 g2 b1 b2
  · have := h.g.wf b o hi
    simpa using this
  · exact h.b.bL e (fun k cs hk => old _ (nA k cs hk)) (fun k cs o hk hi => hi) (fun k cs hk hl => live _ hl)
  · refine ⟨e, rfl, rfl, rfl, by simp, fun b hb lG => old b (fun eq => lG (.inl (eq ▸ rO))), fun b hb ho => ?_, fun b o hi hb lG => hi⟩
    rcases ho with ho | ho
    · exact .inl (live b ho)
    · exact .inr ho
theorem aJ.Fi (h : aJ E R w β s a) {cur : Array Value} {vs : List Value} {es : List AV} {elem : TypeId} {sz cap : Nat} (hn : es.length ≤ cap) (hm : cap ≤ maxLen) (hs : cur.size = cap * sz) (iI : cK sz es) (hr : ay R w (ap es) vs) (h1 : ∀ v ∈ vs, v.oneCell' = true) (ht : cur.toList.take (es.length * sz) = vs) :
    aJ E (R.add (.tok es.length w.heap.size cap 0)) (w.alloc (.cells cur elem)) β (s.cI (.cW es sz elem)) a :=
  h.iJ (.cells cur elem) (.cW es sz elem) (.tok es.length w.heap.size cap 0) (by exact fun _ h => h)
    ⟨rfl, rfl, iI, cur, vs, heap_alloc_new w _, hn, hm, hs, fun o hi => by have := h.g.wf _ _ hi; omega, hr.mono (eK h.g.wf _ _), h1, ht⟩
theorem rP (h : aJ E R w β s a) (t : TypeId) (x y : Operand) (ho : o.op = .makeSlice t x y) {i : TI} (hi : E.ti t = some i) {k k' : IntKind} {n m : Int} (hx : ba E s.ae x = .v (.int k n)) (hy : ba E s.ae y = .v (.int k' m))
    {elem esz kZ : Nat} {ag : Bool} {z : AV} (hk : i.k = .sl elem esz ag kZ (some z)) (hz : z.cells.length = esz) (AU : 1 ≤ esz) (j9 : z.aH = true) (jV : z.closed = true) (hc : 0 ≤ n ∧ n ≤ m ∧ m ≤ 140737488355328 ∧ m * kZ ≤ 140737488355328) :
    bj E R w β s a o ((s.cI (.cW (List.replicate n.toNat z) esz elem)).put o.dst (.v (.cS s.G.length n.toNat 0 esz n.toNat))) := by
  obtain ⟨us, z1, z2, aU⟩ := jN h t x y ho hi hx hy hk hz AU j9 hc
  have HG : n.toNat ≤ m.toNat := by omega
  have iI := (da (n := m.toNat) hz j9 jV).g
  have Cz : us.length = m.toNat * esz := by rw [← z1.length, bo iI, List.length_replicate]
  have xn : (List.replicate n.toNat z).length = n.toNat := List.length_replicate
  have EI : (List.replicate m.toNat z).take n.toNat = List.replicate n.toNat z := by rw [List.take_replicate, Nat.min_eq_left HG]
  have hr : ay R w (ap (List.replicate n.toNat z)) (us.take (n.toNat * esz)) := by
    rw [← EI, fw _ iI]
    exact z1.take _
  have r1 := h.Fi (cur := ⟨us⟩) (vs := us.take (n.toNat * esz)) (es := List.replicate n.toNat z) (elem := elem) (cap := m.toNat) (by rw [xn]; exact HG) (by unfold maxLen; omega) (by simpa using Cz) (da hz j9 jV).g hr (fun v hv => z2 v (List.mem_of_mem_take hv)) (by rw [xn])
  rw [xn] at r1
  have e := eK (R := R) (w := w) h.g.wf (.cells ⟨us⟩ elem) (.tok n.toNat w.heap.size m.toNat 0)
  exact ⟨_, .slice (some ⟨w.heap.size, 0, none⟩) n.toNat m.toNat, _, R.add (.tok n.toNat w.heap.size m.toNat 0), β, aU, .inl rfl, r1.put o.dst (x := .v (.cS s.G.length n.toNat 0 esz n.toNat)) (Rel.cS (eL h _) ⟨Nat.le_refl _, fun _ => ⟨rfl, Nat.zero_add _, .inl (Nat.zero_mul _).symm⟩⟩ HG), by rw [aL]; exact cp h _ _ (by exact fun _ h => h)⟩
theorem oA : ∀ {G : List GO} {sz : Nat} {e : TypeId} {i j : Nat}, mA G sz e i = some j → ∃ k, j = i + k ∧ nth G k = some (.cW [] sz e)
  | [], _, _, _, _, h => by cases h
  | g :: G, sz, e, i, j, h => by
    have OW : mA G sz e (i + 1) = some j → ∃ k, j = i + k ∧ nth (g :: G) k = some (.cW [] sz e) := fun h => by
      obtain ⟨k, h1, h2⟩ := oA h
      exact ⟨k + 1, by omega, h2⟩
    unfold mA at h
    split at h
    · cases ‹_ :: _ = []›
    · rename_i es s' e' G' gR
      obtain ⟨rfl, rfl⟩ := List.cons.inj gR
      split at h
      · rename_i j' hj
        cases h
        exact OW hj
      · rw [Bool.cond_eq_ite] at h
        split at h
        · rename_i hb
          rw [Bool.and_eq_true] at hb
          have q1 := Nat.eq_of_beq_eq_true hb.1
          have q2 := Nat.eq_of_beq_eq_true hb.2
          cases es with
          | nil =>
            injection h with h
            rw [q1, q2]
            exact ⟨0, by omega, rfl⟩
          | cons x l => cases h
        · cases h
    · rename_i g' G' _ gR
      obtain ⟨rfl, rfl⟩ := List.cons.inj gR
      exact OW h
theorem xq (h : aJ E R w β s a) (t : TypeId) (x y : Operand) (ho : o.op = .makeSlice t x y) {i : TI} (hi : E.ti t = some i) {k k' : IntKind} {n m : Int} (hx : ba E s.ae x = .v (.int k n)) (hy : ba E s.ae y = .v (.int k' m))
    {elem esz kZ : Nat} {ag : Bool} {z : AV} (hk : i.k = .sl elem esz ag kZ (some z)) (hz : z.cells.length = esz) (AU : 1 ≤ esz) (j9 : z.aH = true) {s' : St} (hs : kw s o.dst elem esz kZ z n m = some (true, s')) :
    bj E R w β s a o s' := by
  unfold kw at hs
  split at hs
  · rename_i id aR
    split at hs
    · rename_i jV
      injection hs with hs; injection hs with hc hs
      subst hs
      have hc := of_decide_eq_true hc
      obtain ⟨fJ, he, aR⟩ := oA aR
      rw [Nat.zero_add] at he
      subst he
      obtain ⟨us, z1, z2, aU⟩ := jN h t x y ho hi hx hy hk hz AU j9 ⟨by omega, by omega, by omega, by omega⟩
      have HG : n.toNat ≤ m.toNat := by omega
      have iI := (da (n := m.toNat) hz j9 jV).g
      have Cz : us.length = m.toNat * esz := by rw [← z1.length, bo iI, List.length_replicate]
      have xn : (List.replicate n.toNat z).length = n.toNat := List.length_replicate
      have EI : (List.replicate m.toNat z).take n.toNat = List.replicate n.toNat z := by rw [List.take_replicate, Nat.min_eq_left HG]
      have hr : ay R w (ap (List.replicate n.toNat z)) (us.take (n.toNat * esz)) := by
        rw [← EI, fw _ iI]
        exact z1.take _
      obtain ⟨ro, aO⟩ : ∃ ro, nth R.obj id = some ro := by
        have bR := aM aR
        rw [← h.g.len] at bR
        exact ⟨R.obj[id], by rw [aD, List.getElem?_eq_getElem bR]⟩
      have hle : ∀ b c, bF ro (.tok (List.replicate n.toNat z).length b c 0) := fun b c => by
        have bg := h.g.obj id _ _ aR aO
        rw [xn]
        cases ro with
        | none => exact bg.elim
        | aK => show 1 ≤ n.toNat; omega
        | bh _ => exact bg.elim
        | aG _ => exact bg.elim
        | tok f g c' k0 =>
          obtain ⟨_, hf, _⟩ := bg
          simp only [List.length_nil] at hf
          exact ⟨by omega, fun e => by omega⟩
      obtain ⟨r1, r2⟩ := h.Ic (cur := ⟨us⟩) (vs := us.take (n.toNat * esz)) (es' := List.replicate n.toNat z) (elem := elem) (cap := m.toNat) aR aO hle (by rw [xn]; exact HG) (by unfold maxLen; omega) (by simpa using Cz) (da hz j9 jV).g hr (fun v hv => z2 v (List.mem_of_mem_take hv)) (by rw [xn])
      rw [xn] at r1 r2
      exact ⟨_, .slice (some ⟨w.heap.size, 0, none⟩) n.toNat m.toNat, _, _, β, aU, .inl rfl, r1.put o.dst (x := .v (.cS id n.toNat 0 esz n.toNat)) (Rel.cS (aj aO) ⟨Nat.le_refl _, fun _ => ⟨rfl, Nat.zero_add _, .inl (Nat.zero_mul _).symm⟩⟩ HG), by rw [aL]; exact r2⟩
    · cases hs
  · cases hs
theorem qf (h : aJ E R w β s a) (t : TypeId) (len : Nat) (parts : Array (Nat × Operand)) (ho : o.op = .buildSlice t len parts) {k : LK} {esz : Nat} {es : List AV} (hv : bN E s t len parts.toList = some (.list k esz es)) {i : TI} (hi : E.ti t = some i) {elem aQ kZ : Nat} {ag : Bool} {z : Option AV} (hk : i.k = .sl elem aQ ag kZ z) (hm : len ≤ 65536) :
    bj E R w β s a o ((s.cI (.cW es esz elem)).put o.dst (.v (.cS s.G.length len 0 esz len))) := by
  obtain ⟨es', KO, us, OT, OP, aU, g2, hlen, u2, u3, i', RH, Oc, z', nw, eD⟩ := fQ h t len parts ho hv
  cases OP
  rw [hi] at nw
  cases nw
  rw [hk] at eD
  cases eD
  have OU : us.length = len * esz := by rw [← u2.length, cb g2, hlen]
  have r1 := h.Fi (cur := ⟨us⟩) (vs := us) (es := es) (elem := elem) (cap := len) (by rw [hlen]; exact Nat.le_refl _) (by simp [maxLen]; omega) (by simpa using OU) g2.g u2 u3 (by rw [hlen, ← OU]; exact List.take_length)
  rw [hlen] at r1
  exact ⟨_, .slice (some ⟨w.heap.size, 0, none⟩) len len, _, R.add (.tok len w.heap.size len 0), β, aU, .inl rfl, r1.put o.dst (x := .v (.cS s.G.length len 0 esz len)) (Rel.cS (eL h _) ⟨Nat.le_refl _, fun _ => ⟨rfl, Nat.zero_add _, .inl (Nat.zero_mul _).symm⟩⟩ (Nat.le_refl _)), by rw [aL]; exact cp h _ _ (by exact fun _ h => h)⟩
end ops
end Go.Am
