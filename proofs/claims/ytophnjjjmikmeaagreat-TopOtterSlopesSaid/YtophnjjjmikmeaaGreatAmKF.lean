/- The abstract machine: what it does is what the model does: append and copy. -/
import Derived.Test.YtophnjjjmikmeaaGreatAmKE
import Derived.Lib.AppendStr
set_option linter.all false
namespace Go.Am
open Go
section fams
variable {E : Env} {R R' : af} {w w' : World} {β β' : Nat → Nat} {s s' : St} {a a' : Act} {o : Oper}
theorem qg {α : Type} {l r : List α} {i : Nat} {x : α} (h : nth r i = some x) : nth (l ++ r) (l.length + i) = some x := by
  rw [aD] at *
  rw [List.getElem?_append_right (Nat.le_add_right _ _), Nat.add_sub_cancel_left]
  exact h
theorem gX {α : Type} {l r : List α} {i : Nat} {x : α} (h : nth l i = some x) : nth (l ++ r) i = some x := by
  have := aM h
  rw [aD] at *
  rw [List.getElem?_append_left this]
  exact h
theorem aI {α : Type} {l r : List α} {i : Nat} {x : α} (h : nth (l ++ r) i = some x) : nth l i = some x ∨ ∃ j, i = l.length + j ∧ nth r j = some x := by
  rw [aD] at h
  rcases Nat.lt_or_ge i l.length with bR | vN
  · rw [List.getElem?_append_left bR] at h
    exact .inl (by rw [aD]; exact h)
  · rw [List.getElem?_append_right vN] at h
    exact .inr ⟨i - l.length, by omega, by rw [aD]; exact h⟩
theorem aJ.xr (h : aJ E R w β s a) {id sz : Nat} {e : TypeId} {fs : List Nat} (aR : nth s.G id = some (.aG fs sz e)) {nfs : List Nat} {nts : List TR} (hl : nts.length = nfs.length)
    (cD : ∀ j f t, nth nfs j = some f → nth nts j = some t → vO R w sz e f t) (lG : ∀ j f b c, nth nts j ≠ some (.tok f b c)) {ro : RO} (aO : nth R.obj id = some ro) :
    ∃ ts, ro = .aG ts ∧ ts.length = fs.length ∧ aJ E (R.reset id (.aG (ts ++ nts))) w β (s.aX (aq s.G id (.aG (fs ++ nfs) sz e))) a ∧ Step R w β s.boxes (R.reset id (.aG (ts ++ nts))) w β s.boxes := by
  have bg := h.g.obj id _ _ aR aO
  cases ro with
  | none => exact bg.elim
  | aK => exact bg.elim
  | bh _ => exact bg.elim
  | tok _ _ _ _ => exact bg.elim
  | aG ts =>
  obtain ⟨q1, q2, q3⟩ := bg
  have gW : ∀ b, RO.has (.aG (ts ++ nts)) b → RO.has (.aG ts) b := fun b ⟨j, f, c, hj⟩ => by
    rcases aI hj with hj | ⟨i, _, hi⟩
    · exact ⟨j, f, c, hj⟩
    · exact absurd hi (lG i f b c)
  have ext : Ext R w (R.reset id (.aG (ts ++ nts))) w := ⟨fun _ _ h => h, fun _ _ _ => rfl, fun i r hr => by
    by_cases e : id = i
    · subst e
      rw [aO] at hr
      cases hr
      exact ⟨_, aj aO, fun j t hj => ⟨t, gX hj, eG.refl t⟩⟩
    · exact ⟨r, by rw [af.reset, az e]; exact hr, bF.refl r⟩, dp.refl w⟩
  have live : ∀ b, Live (R.reset id (.aG (ts ++ nts))) b → Live R b := fun b ⟨i, r, h1, h2⟩ => by
    rcases ao aO h1 with ⟨_, rfl⟩ | ⟨_, h1⟩
    · exact ⟨id, _, aO, gW b h2⟩
    · exact ⟨i, r, h1, h2⟩
  refine ⟨ts, rfl, q1, ⟨⟨by simp [St.aX, af.reset, h.g.len], fun i g r h1 h2 => ?_, fun i j ri rj b h1 h2 b1 b2 => ?_, h.g.wf, fun g cs hg => (h.g.cw g cs hg).mono ext, h.g.lo⟩, h.b.bL ext (fun _ _ _ => rfl) (fun _ _ _ _ h => h) (fun _ _ _ hl => live _ hl), h.t.mono ext, h.n, h.d.mono ext⟩, ?_⟩
  · rcases ao aO h2 with ⟨rfl, rfl⟩ | ⟨bS, h2⟩
    · simp only [St.aX] at h1
      rw [aj aR] at h1
      cases h1
      refine ⟨by simp [q1, hl], fun i j f b c f' c' hi hj => ?_, fun j f t hf ht => ?_⟩
      · rcases aI hi with hi | ⟨_, _, hi⟩
        · rcases aI hj with hj | ⟨_, _, hj⟩
          · exact q2 i j _ _ _ _ _ hi hj
          · exact absurd hj (lG _ _ _ _)
        · exact absurd hi (lG _ _ _ _)
      · rcases aI hf with pN | ⟨k, hk, pN⟩
        · rcases aI ht with ht | ⟨k', eD, ht⟩
          · exact q3 j f t pN ht
          · have := aM pN
            omega
        · rcases aI ht with ht | ⟨k', eD, ht⟩
          · have := aM ht
            omega
          · have AO : k = k' := by omega
            subst AO
            exact cD k f t pN ht
    · simp only [St.aX] at h1
      rw [az (Ne.symm bS)] at h1
      exact (h.g.obj i g r h1 h2).mono ext (fun _ _ => rfl) (fun _ _ _ h => h)
  · rcases ao aO h1 with ⟨g3, e1⟩ | ⟨g3, g1⟩
    · rcases ao aO h2 with ⟨g4, e2⟩ | ⟨g4, g2⟩
      · omega
      · rw [e1] at b1
        exact g3.trans (h.g.inj id j _ _ b aO g2 (gW b b1) b2)
    · rcases ao aO h2 with ⟨g4, e2⟩ | ⟨g4, g2⟩
      · rw [e2] at b2
        exact (h.g.inj i id _ _ b g1 aO b1 (gW b b2)).trans g4.symm
      · exact h.g.inj i j ri rj b g1 g2 b1 b2
  · refine ⟨ext, rfl, rfl, rfl, Nat.le_refl _, fun _ _ _ => rfl, fun b _ ho => ?_, fun _ _ h _ _ => h⟩
    rcases ho with ho | ho
    · exact .inl (live b ho)
    · exact .inr ho
theorem bj.step {s1 : St} {s2 : St} (e : s1.boxes = s.boxes) (st : Step R w β s.boxes R' w β s.boxes) (h : bj E R' w β s1 a o s2) : bj E R w β s a o s2 := by
  obtain ⟨nx, x, w', R2, β', h1, h2, h3, h4⟩ := h
  rw [e] at h4
  exact ⟨nx, x, w', R2, β', h1, h2, h3, st.trans h4⟩
theorem OX {c : Bool} {α : Type} {a b : α} (h : (bif c then some a else none) = some b) : c = true ∧ a = b := by
  cases c
  · cases h
  · exact ⟨rfl, Option.some.inj h⟩
theorem iO {sz : Nat} {e : TypeId} : ∀ {G : List GO} {i j : Nat}, fL G sz e i = some j → ∃ fs, nth G (j - i) = some (.aG fs sz e) ∧ i ≤ j
  | [], i, j, h => by cases h
  | g :: G, i, j, h => by
    have step : fL G sz e (i + 1) = some j → ∃ fs, nth (g :: G) (j - i) = some (.aG fs sz e) ∧ i ≤ j := fun h => by
      obtain ⟨fs, h1, h2⟩ := iO h
      refine ⟨fs, ?_, by omega⟩
      rw [show j - i = (j - (i + 1)) + 1 by omega]
      exact h1
    unfold fL at h
    split at h
    · rename_i gR
      cases gR
    · rename_i gR
      obtain ⟨rfl, rfl⟩ := List.cons.inj gR
      split at h
      · rename_i j' hj
        cases h
        exact step hj
      · obtain ⟨hc, rfl⟩ := OX h
        · rw [Bool.and_eq_true] at hc
          have h1 := Nat.eq_of_beq_eq_true hc.1
          have h2 := Nat.eq_of_beq_eq_true hc.2
          subst h1 h2
          exact ⟨_, by rw [Nat.sub_self]; rfl, Nat.le_refl _⟩
    · rename_i x G1 _ _ _ hn gR
      obtain ⟨rfl, rfl⟩ := List.cons.inj gR
      exact step h
theorem aJ.CB {s0 : St} {d : Option Tmp} {x y : AV} (h : aJ E R w β (s0.put d (.v x)) a) (hw : ∀ c, Rel R w x c → Rel R w y c) : aJ E R w β (s0.put d (.v y)) a := by
  cases d with
  | none => exact h
  | some d =>
    simp only [St.put] at h ⊢
    cases hb : Nat.blt d s0.n with
    | false => rw [hb] at h; exact h
    | true =>
      rw [hb] at h
      refine ⟨h.g, h.b, fun i hi => ?_, h.n, h.d⟩
      by_cases e : d = i
      · subst e
        rw [ar]
        obtain ⟨c, k1, k2⟩ := h.t d (by rw [ar]; simp)
        rw [ar] at k2
        exact ⟨c, k1, hw c k2⟩
      · rw [aC e] at hi ⊢
        have := h.t i (by rw [aC e]; exact hi)
        rw [aC e] at this
        exact this
theorem bj.CB {s0 : St} {x y : AV} (h : bj E R w β s a o (s0.put o.dst (.v x))) (hw : ∀ R' w', Ext R w R' w' → ∀ c, Rel R' w' x c → Rel R' w' y c) : bj E R w β s a o (s0.put o.dst (.v y)) := by
  obtain ⟨nx, v, w', R', β', h1, h2, h3, h4⟩ := h
  refine ⟨nx, v, w', R', β', h1, h2, h3.CB (hw R' w' h4.ext), ?_⟩
  rw [aL] at h4 ⊢
  exact h4
end fams
section ops
variable {E : Env} {R : af} {w : World} {β : Nat → Nat} {s : St} {a : Act} {o : Oper}
theorem ej {k : LK} {sz esz : Nat} {es : List AV} {c : Value} (h : Rel R w (.list k sz es) c) (cU : es = [] ∨ sz = esz) :
    dZ esz es ∧ ∃ vs, ay R w (ap es) vs ∧ (∀ v ∈ vs, v.oneCell' = true) ∧ vs.length = es.length * esz ∧
      ((es = [] ∧ vs = [] ∧ ∃ ad, c = .slice ad 0 0 ∧ (ad = none ∨ k = .fY)) ∨ ∃ b o' cap, c = .slice (some ⟨b, o', none⟩) es.length cap ∧ es.length ≤ cap ∧ wY R k b o' es.length cap ∧ (∀ j v, vs[j]? = some v → w.cell? ((⟨b, o', none⟩ : Addr).add j) = some v) ∧ eF R w b o' esz es) := by
  cases h with
  | gi => exact ⟨fun e he => by simp at he, [], .nil, by simp, by simp, .inl ⟨rfl, rfl, _, rfl, .inl rfl⟩⟩
  | fO => exact ⟨fun e he => by simp at he, [], .nil, by simp, by simp, .inl ⟨rfl, rfl, _, rfl, .inl rfl⟩⟩
  | jK => exact ⟨fun e he => by simp at he, [], .nil, by simp, by simp, .inl ⟨rfl, rfl, _, rfl, .inr rfl⟩⟩
  | iH => exact ⟨fun e he => by simp at he, [], .nil, by simp, by simp, .inl ⟨rfl, rfl, _, rfl, .inl rfl⟩⟩
  | jm => exact ⟨fun e he => by simp at he, [], .nil, by simp, by simp, .inl ⟨rfl, rfl, _, rfl, .inl rfl⟩⟩
  | @list _ _ _ b o' len cap hr hlen dA AO =>
    subst hlen
    have gk : eF R w b o' esz es := by
      rcases cU with rfl | rfl
      · exact .nil
      · exact hr
    obtain ⟨g0, vs, g1, g2, g3, g4⟩ := sN gk
    refine ⟨g0, vs, g1, g2, by rw [← g1.length, cb g0], .inr ⟨b, o', cap, rfl, dA, AO, fun j v hv => ?_, gk⟩⟩
    rw [bJ]
    exact g3 j v hv
theorem sV {b esz : Nat} {es : List AV} {vs : List Value} {w : World} {R : af} (h0 : dZ esz es) (h : ay R w (ap es) vs) (h1 : ∀ v ∈ vs, v.oneCell' = true)
    (hc : ∀ j v, vs[j]? = some v → w.cell? ⟨b, j, none⟩ = some v) (hI : ∀ j, j < vs.length → R.I b j) : eF R w b 0 esz es :=
  iB h0 (du.make h h1 (fun j v hv => by rw [Nat.zero_add]; exact hc j v hv) (fun j hj => by rw [Nat.zero_add]; exact hI j (by rw [← h.length]; exact hj)))
theorem fx {sz : Nat} {l r : List AV} (h : dZ sz l) (k : dZ sz r) : dZ sz (l ++ r) := fun e he => by
  rcases List.mem_append.1 he with he | he
  · exact h e he
  · exact k e he
theorem eo {l r : List Value} (h : ∀ v ∈ l, v.oneCell' = true) (k : ∀ v ∈ r, v.oneCell' = true) : ∀ v ∈ l ++ r, v.oneCell' = true := fun v hv => by
  rcases List.mem_append.1 hv with hv | hv
  · exact h v hv
  · exact k v hv
structure KZ (P : Program) (w : World) (t u ty e : TypeId) (i : TypeInfo) (z : Value) (cy : Value) (n : Nat) (us : List Value) : Prop where
  zero : n = 0 → ∀ base len cap, len ≤ cap → (Builtin.append_ #[t, u] ty #[.slice base len cap, cy]).run P w = .ok (.slice base len cap) w
  nil : 0 < n → (n : Int) ≤ 9223372036854775807 → n * i.bytes ≤ 281474976710656 → (Builtin.append_ #[t, u] ty #[.slice none 0 0, cy]).run P w =
      .ok (.slice (some ⟨w.heap.size, 0, none⟩) n (grownCap w n 0 e)) (w.drew.alloc (.cells (us.toArray ++ Builtin.zeroCells z.cells (grownCap w n 0 e - n)) e))
  grow : 0 < n → ∀ (b : Addr) (sLen dx : Nat) (qh : List Value), qh.length = sLen * i.size → (∀ j v, qh[j]? = some v → w.cell? (b.add j) = some v) → dx < sLen + n → ((sLen + n : Nat) : Int) ≤ 9223372036854775807 → Builtin.nextslicecap (sLen + n) dx * i.bytes ≤ 281474976710656 →
      (Builtin.append_ #[t, u] ty #[.slice (some b) sLen dx, cy]).run P w = .ok (.slice (some ⟨w.heap.size, 0, none⟩) (sLen + n) (grownCap w (sLen + n) dx e))
        (w.drew.alloc (.cells (qh.toArray ++ us.toArray ++ Builtin.zeroCells z.cells (grownCap w (sLen + n) dx e - (sLen + n))) e))
  room : 0 < n → ∀ (g k sLen dx : Nat) (cur : Array Value), w.heap[g]? = some (.cells cur e (0, 0)) → sLen + n ≤ dx → k + sLen * i.size + us.length ≤ cur.size →
      (Builtin.append_ #[t, u] ty #[.slice (some ⟨g, k, none⟩) sLen dx, cy]).run P w = .ok (.slice (some ⟨g, k, none⟩) (sLen + n) dx) (w.setRow g (cur.toList.take (k + sLen * i.size) ++ us ++ cur.toList.drop (k + sLen * i.size + us.length)).toArray)
theorem KZ.Fj {P : Program} {w : World} {t u ty e : TypeId} {i : TypeInfo} {z : Value} {cy : Value} {n : Nat} {us : List Value} (h : KZ P w t u ty e i z cy n us) (hn : 0 < n) (g sLen dx : Nat) (cur : Array Value) (h1 : w.heap[g]? = some (.cells cur e (0, 0))) (h2 : sLen + n ≤ dx) (h3 : sLen * i.size + us.length ≤ cur.size) :
    (Builtin.append_ #[t, u] ty #[.slice (some ⟨g, 0, none⟩) sLen dx, cy]).run P w = .ok (.slice (some ⟨g, 0, none⟩) (sLen + n) dx) (w.setRow g (cur.toList.take (sLen * i.size) ++ us ++ cur.toList.drop (sLen * i.size + us.length)).toArray) := by
  have := h.room hn g 0 sLen dx cur h1 h2 (by omega)
  rw [Nat.zero_add] at this
  exact this
theorem eM {P : Program} (w : World) (t ty e : TypeId) (i : TypeInfo) (ht : P.underlying t = some (.slice e)) (hi : P.info? e = some i)
    (g k sLen dx : Nat) (cur : Array Value) (hg : w.heap[g]? = some (.cells cur e (0, 0)))
    (a : Addr) (m c : Nat) (news : List Value) (hl : news.length = m * i.size) (OY : ∀ j u, news[j]? = some u → w.cell? (a.add j) = some u) (h1 : ∀ u ∈ news, u.oneCell' = true)
    (cz : sLen + m ≤ dx) (lm : k + sLen * i.size + news.length ≤ cur.size) :
    (Builtin.append_ #[t, t] ty #[.slice (some ⟨g, k, none⟩) sLen dx, .slice (some a) m c]).run P w =
      .ok (.slice (some ⟨g, k, none⟩) (sLen + m) dx) (w.setRow g (cur.toList.take (k + sLen * i.size) ++ news ++ cur.toList.drop (k + sLen * i.size + news.length)).toArray) := by
  have hf := run_firstCells_some (P := P) w i.size m a m c news hl OY
  have fb := run_storeCells_at P g (k + sLen * i.size) e news 0 cur w hg (by simpa using lm) h1
  simp only [Nat.add_zero] at fb
  simp [Builtin.append_, run_underlying ht, sizeOf, typeInfo, hi, Builtin.lenOf, cz, hf, Addr.add_lit, fb]
theorem kd {P : Program} (w : World) (t u ty e : TypeId) (i : TypeInfo) (ht : P.underlying t = some (.slice e)) (hu : P.underlying u = some .string) (hi : P.info? e = some i) (HE : i.size = 1)
    (g k sLen dx : Nat) (cur : Array Value) (hg : w.heap[g]? = some (.cells cur e (0, 0))) (s : ByteArray)
    (cz : sLen + s.size ≤ dx) (lm : k + sLen + s.size ≤ cur.size) :
    (Builtin.append_ #[t, u] ty #[.slice (some ⟨g, k, none⟩) sLen dx, .string s]).run P w =
      .ok (.slice (some ⟨g, k, none⟩) (sLen + s.size) dx) (w.setRow g (cur.toList.take (k + sLen) ++ Lib.strCells s ++ cur.toList.drop (k + sLen + s.size)).toArray) := by
  have hf := Lib.run_firstCells_string (P := P) w 1 s
  have fb := run_storeCells_at P g (k + sLen) e (Lib.strCells s) 0 cur w hg (by simpa [Lib.strCells_length] using lm) (Lib.strCells_oneCell s)
  simp only [Nat.add_zero, Lib.strCells_length] at fb
  simp [Builtin.append_, run_underlying ht, run_underlying hu, sizeOf, typeInfo, hi, HE, Builtin.lenOf, cz, hf, Addr.add_lit, fb]
theorem gY (h : aJ E R w β s a) {t u : TypeId} {id f off sz len : Nat} {y : AV} {ys : List AV} {cx cy : Value} {us : List Value}
    (dB : ∀ {c : Value} {w' : World}, (Builtin.append_ #[t, u] o.type #[cx, cy]).run E.P w = .ok c w' → (execOp a.eval o).run E.P w = .ok (.value c) w')
    {elem esz eb : Nat} {z : AV} (vp : 1 ≤ eb) (hz : z.cells.length = esz) (j9 : z.aH = true)
    {ie : TypeInfo} (f2 : ie.size = esz) (f3 : ie.bytes = eb) (f6 : dW ie = some z)
    (h0 : Rel R w (.cS id f off sz len) cx) (hA : ∀ zc : Value, ie.zero = some zc → KZ E.P w t u o.type elem ie zc cy (y :: ys).length us)
    (y0 : cK esz (y :: ys)) (y1 : ay R w (ap (y :: ys)) us) (y2 : ∀ v ∈ us, v.oneCell' = true) (y3 : us.length = (y :: ys).length * esz)
    {es : List AV} (aR : nth s.G id = some (.cW es esz elem)) (hf : f = es.length) (RR : off = 0) (sa : len = f) (hb : (es.length + (y :: ys).length) * eb ≤ 140737488355328) :
    bj E R w β s a o ((s.aX (aq s.G id (.cW (es ++ (y :: ys)) esz elem))).put o.dst (.v (.cS id (es.length + (y :: ys).length) 0 esz (es.length + (y :: ys).length)))) := by
  obtain ⟨zc, jV, yC⟩ := cj f6
  have hA := hA zc jV
  obtain ⟨d1, d2⟩ := Rel.cells (yC R w) j9
  have mS : zc.cells.size = esz := by rw [← hz, d1.length]; simp
  have ln : 0 < (y :: ys).length := by simp
  have hm : es.length + (y :: ys).length ≤ 140737488355328 := Nat.le_trans (Nat.le_mul_of_pos_right _ vp) hb
  have ox : (es ++ (y :: ys)).length = es.length + (y :: ys).length := List.length_append
  -- where a new block has been made
  have fresh : ∀ {xs : List Value} {old : Nat} {r0 : RO}, nth R.obj id = some r0 → (∀ b c, bF r0 (.tok (es.length + (y :: ys).length) b c 0)) → cK esz es → ay R w (ap es) xs → (∀ v ∈ xs, v.oneCell' = true) → xs.length = es.length * esz →
      (Builtin.append_ #[t, u] o.type #[cx, cy]).run E.P w = .ok (.slice (some ⟨w.heap.size, 0, none⟩) (es.length + (y :: ys).length) (grownCap w (es.length + (y :: ys).length) old elem)) (w.drew.alloc (.cells (xs.toArray ++ us.toArray ++ Builtin.zeroCells zc.cells (grownCap w (es.length + (y :: ys).length) old elem - (es.length + (y :: ys).length))) elem)) →
      bj E R w β s a o ((s.aX (aq s.G id (.cW (es ++ (y :: ys)) esz elem))).put o.dst (.v (.cS id (es.length + (y :: ys).length) 0 esz (es.length + (y :: ys).length)))) := by
    intro xs old r0 aO hle yR K0 pV sW aU
    have vN := grownCap_ge w (es.length + (y :: ys).length) old elem
    obtain ⟨r1, r2⟩ := h.KY (cur := xs.toArray ++ us.toArray ++ Builtin.zeroCells zc.cells (grownCap w (es.length + (y :: ys).length) old elem - (es.length + (y :: ys).length))) (vs := xs ++ us) (es' := es ++ (y :: ys)) aR aO (by rw [ox]; exact hle) (by rw [ox]; exact vN) (grownCap_le_maxLen w _ old elem (by unfold maxLen; omega)) (by
      simp only [Array.size_append, List.size_toArray, size_zeroCells, mS, sW, y3, ← Nat.add_mul]
      congr 1
      omega) (ow yR y0) (by rw [bM]; exact K0.append y1) (eo pV y2) (by
      rw [ox]
      simp only [Array.toList_append]
      exact List.take_left' (by rw [List.length_append, sW, y3, Nat.add_mul]))
    rw [ox] at r1 r2
    refine ⟨_, _, _, _, β, dB aU, .inl rfl, r1.put o.dst ?_, by rw [aL]; exact r2⟩
    exact Rel.cS (aj aO) ⟨Nat.le_refl _, fun _ => ⟨rfl, Nat.zero_add _, .inl (Nat.zero_mul _).symm⟩⟩ vN
  cases h0 with
  | @fZ _ _ ro aO hon =>
    have bg := h.g.obj id _ _ aR aO
    have RS : es = [] := List.eq_nil_of_length_eq_zero hf.symm
    subst RS
    cases ro with
    | none => exact bg.elim
    | bh _ => exact bg.elim
    | aG _ => exact bg.elim
    | tok f' g c k0 =>
      obtain ⟨_, rfl, _⟩ := bg
      simp [jJ] at hon
    | aK =>
      simp only [List.length_nil] at hb
      have aU := hA.nil ln (by omega) (by rw [f3]; rw [Nat.zero_add] at hb; omega)
      exact fresh (xs := []) (old := 0) aO (fun b c => by simp only [bF]; omega) (fun e he => by simp at he) .nil (by simp) (by simp) (by simpa using aU)
  | @cS _ _ _ _ _ cap b o' ro aO cD dA =>
    subst hf; subst RR; subst sa
    obtain ⟨b', c', cur, vs, rfl, g1, g2, g3, g4, g5, g6, g7, g8, g9⟩ := kE h.g aR aO (fun k => by subst k; exact cD)
    obtain ⟨rfl, A3, mX⟩ := cD.2 rfl
    rw [Nat.zero_add] at A3
    subst A3
    have Ao : vs.length = es.length * esz := by rw [← g7.length, bo g1]
    have eS : ∀ j v, vs[j]? = some v → cur[j]? = some v := fun j v hj => by
      rw [← g9, List.getElem?_take] at hj
      split at hj
      · rw [← Array.getElem?_toList]; exact hj
      · cases hj
    by_cases cz : es.length + (y :: ys).length ≤ cap
    · have kb : o' = 0 := by
        rcases mX with mX | mX
        · rw [mX, Nat.zero_mul]
        · rw [List.length_cons] at cz; omega
      subst kb
      have hle : (es.length + (y :: ys).length) * esz ≤ cap * esz := Nat.mul_le_mul_right _ cz
      have aU := hA.Fj ln b es.length cap cur g2 cz (by rw [f2, y3, ← Nat.add_mul, g5]; exact hle)
      rw [f2] at aU
      have fK : cur.toList.length = cap * esz := by rw [show cur.toList.length = cur.size from Array.length_toList, g5]
      obtain ⟨r1, r2⟩ := h.Ie (cur2 := (cur.toList.take (es.length * esz) ++ us ++ cur.toList.drop (es.length * esz + us.length)).toArray) (vs := vs ++ us) (es' := es ++ (y :: ys)) aR aO (by rw [ox]; omega) (by rw [ox]; exact cz) g2 (by
        rw [List.size_toArray, ← Array.length_toList]
        simp only [List.length_append, List.length_take, List.length_drop, y3, fK]
        rw [Nat.add_mul] at hle
        omega) (ow g1 y0) (by rw [bM]; exact g7.append y1) (eo g8 y2) (by
        rw [ox, List.toList_toArray, g9]
        exact List.take_left' (by rw [List.length_append, Ao, y3, Nat.add_mul]))
      rw [ox] at r1 r2
      refine ⟨_, _, _, _, β, dB aU, .inl rfl, r1.put o.dst ?_, by rw [aL]; exact r2⟩
      exact Rel.cS (aj aO) ⟨Nat.le_refl _, fun _ => ⟨rfl, Nat.zero_add _, .inl (Nat.zero_mul _).symm⟩⟩ cz
    · have aU := hA.grow ln ⟨b, o', none⟩ es.length cap vs (by rw [Ao, f2]) (fun j v hj => by
        rw [bJ]
        have Ap := (List.getElem?_eq_some_iff.1 hj).1
        have kb : o' = 0 := by
          rcases mX with mX | mX
          · rw [mX, Nat.zero_mul]
          · have : es.length = 0 := by omega
            rw [Ao, this] at Ap
            omega
        subst kb
        rw [Nat.zero_add, cell_of_row w b j cur elem (0, 0) g2]
        exact eS j v hj) (by omega) (by omega) (growslice_fits (by omega) (by rw [f3]; exact hb))
      exact fresh (xs := vs) (old := cap) aO (fun b c => ⟨by omega, fun e => by omega⟩) g1 g7 g8 Ao aU
section rows
variable {E : Env} {R R' : af} {w w' : World} {β : Nat → Nat} {s : St} {a : Act} {o : Oper}
theorem vP.mono {sz : Nat} {e : TypeId} {row : List AV} {t : TR} (h : vP R w sz e row t) (ex : Ext R w R' w') (hb : ∀ f b c, t = .tok f b c → w'.heap[b]? = w.heap[b]? ∧ ∀ o, R'.I b o → R.I b o) : vP R' w' sz e row t := by
  cases t with
  | aK => exact h
  | full _ => exact h
  | tok f b c =>
    obtain ⟨h5, iI, cur, vs, k1, k2, k3, k4, k5, k6, k7, k8⟩ := h
    obtain ⟨m1, m2⟩ := hb f b c rfl
    exact ⟨h5, iI, cur, vs, m1.trans k1, k2, k3, k4, fun o ho => k5 o (m2 o ho), k6.mono ex, k7, k8⟩
theorem aJ.Fk (h : aJ E R w β s a) {rows : List (List AV)} {row' : List AV} {elem : TypeId} {sz id j n b c : Nat} {ts : List TR} {t0 : TR}
    (hg : nth s.G id = some (.fI rows sz elem)) (aR : nth R.obj id = some (.aG ts)) (hj : nth ts j = some t0)
    (hb : b = w.heap.size ∨ ∃ f c0, t0 = .tok f b c0)
    (e : Ext R w (R.reset id (.aG (aq ts j (.tok n b c)))) w')
    (old : ∀ b', b' ≠ b → b' < w.heap.size → w'.heap[b']? = w.heap[b']?)
    (cU : w.heap.size ≤ w'.heap.size) (ik : vP (R.reset id (.aG (aq ts j (.tok n b c)))) w' sz elem row' (.tok n b c))
    (hd : E.lo ≤ w.drawn → E.lo ≤ w'.drawn) (os : w'.os = w.os) (tp : w'.tape = w.tape) (ou : w'.output = w.output) :
    aJ E (R.reset id (.aG (aq ts j (.tok n b c)))) w' β (s.aX (aq s.G id (.fI (aq rows j row') sz elem))) a ∧
    Step R w β s.boxes (R.reset id (.aG (aq ts j (.tok n b c)))) w' β s.boxes := by
  obtain ⟨m1, m2, m3⟩ := h.g.obj id _ _ hg aR
  have bR : ∀ x, RO.has (.aG ts) x → x < w.heap.size := fun x hx => h.g.bq ⟨id, _, aR, hx⟩
  have gW : ∀ x, RO.has (.aG (aq ts j (.tok n b c))) x → x = b ∨ RO.has (.aG ts) x := fun x ⟨j', f, c1, Ap⟩ => by
    rcases bH Ap with ⟨_, hx, _⟩ | ⟨_, Ap⟩
    · cases hx; exact .inl rfl
    · exact .inr ⟨j', f, c1, Ap⟩
  have OZ : b < w.heap.size → RO.has (.aG ts) b := fun hl => by
    rcases hb with hb | ⟨f, c0, rfl⟩
    · omega
    · exact ⟨j, f, c0, hj⟩
  have live : ∀ x, x < w.heap.size → Live (R.reset id (.aG (aq ts j (.tok n b c)))) x → Live R x := fun x hx ⟨i, r, h1, h2⟩ => by
    rcases ao aR h1 with ⟨rfl, rfl⟩ | ⟨_, h1⟩
    · rcases gW x h2 with rfl | h2
      · exact ⟨i, _, aR, OZ hx⟩
      · exact ⟨i, _, aR, h2⟩
    · exact ⟨i, r, h1, h2⟩
  have K1 : ∀ i r x, nth R.obj i = some r → i ≠ id → r.has x → x ≠ b := fun i r x hi bS hx e => by
    subst e
    have hl := h.g.bq ⟨i, r, hi, hx⟩
    exact bS (h.g.inj i id _ _ x hi aR hx (OZ hl))
  have sX : ∀ j' f x c1, nth ts j' = some (.tok f x c1) → j ≠ j' → x ≠ b := fun j' f x c1 Ap bS e => by
    subst e
    have hl := bR x ⟨j', f, c1, Ap⟩
    rcases hb with hb | ⟨f0, c0, rfl⟩
    · omega
    · exact bS (m2 _ _ _ _ _ _ _ hj Ap)
  have sU : ∀ k cs, cF s.boxes k = some cs → β k ≠ b := fun k cs hk e => by
    have hl := h.cA (.inr ⟨k, cs, hk, rfl⟩)
    exact (h.b.box k cs hk).2.2 ⟨id, _, aR, by rw [e]; exact OZ (e ▸ hl)⟩
  refine ⟨⟨⟨by simp [St.aX, af.reset, h.g.len], fun i gg r jn h2 => ?_, fun i j' ri rj x jn h2 b1 b2 => ?_, fun b o hi => Nat.lt_of_lt_of_le (h.g.wf b o hi) cU, fun g cs hg => (h.g.cw g cs hg).mono e, hd h.g.lo⟩, ?_, h.t.mono e, h.n, h.d.mono e⟩, ?_⟩
  · rcases ao aR h2 with ⟨rfl, rfl⟩ | ⟨bS, h2⟩
    · simp only [St.aX] at jn
      rw [aj hg] at jn
      cases jn
      refine ⟨by rw [cR, cR]; exact m1, fun i1 i2 f1 b1 c1 f2 c2 h1 h2 => ?_, fun j' row t gk oB => ?_⟩
      · rcases bH h1 with ⟨q1, q2, _⟩ | ⟨q1, q2⟩
        · rcases bH h2 with ⟨p1, p2, _⟩ | ⟨p1, p2⟩
          · omega
          · cases q2
            exact absurd rfl (sX _ _ _ _ p2 p1)
        · rcases bH h2 with ⟨p1, p2, _⟩ | ⟨p1, p2⟩
          · cases p2
            exact absurd rfl (sX _ _ _ _ q2 q1)
          · exact m2 _ _ _ _ _ _ _ q2 p2
      · rcases bH oB with ⟨q1, q2, _⟩ | ⟨q1, q2⟩
        · subst q1; subst q2
          rcases bH gk with ⟨_, p2, _⟩ | ⟨p1, _⟩
          · subst p2; exact ik
          · exact absurd rfl p1
        · rcases bH gk with ⟨p1, _, _⟩ | ⟨_, p2⟩
          · exact absurd p1 q1
          · exact (m3 j' row t p2 q2).mono e fun f b1 c1 ht => ⟨old b1 (sX j' f b1 c1 (ht ▸ q2) q1) (bR b1 ⟨j', f, c1, ht ▸ q2⟩), fun _ ho => ho⟩
    · simp only [St.aX] at jn
      rw [az (Ne.symm bS)] at jn
      exact (h.g.obj i gg r jn h2).mono e (fun x hx => old x (K1 i r x h2 bS hx) (h.g.bq ⟨i, r, h2, hx⟩)) (fun b o _ hi => hi)
  · rcases ao aR jn with ⟨g3, e1⟩ | ⟨g3, g1⟩
    · rcases ao aR h2 with ⟨g4, e2⟩ | ⟨g4, g2⟩
      · omega
      · rw [e1] at b1
        rcases gW x b1 with rfl | b1
        · exact absurd rfl (K1 j' rj x g2 g4 b2)
        · exact g3.trans (h.g.inj id j' _ _ x aR g2 b1 b2)
    · rcases ao aR h2 with ⟨g4, e2⟩ | ⟨g4, g2⟩
      · rw [e2] at b2
        rcases gW x b2 with rfl | b2
        · exact absurd rfl (K1 i ri x g1 g3 b1)
        · exact (h.g.inj i id _ _ x g1 aR b1 b2).trans g4.symm
      · exact h.g.inj i j' ri rj x g1 g2 b1 b2
  · exact h.b.bL e (fun k cs hk => old _ (sU k cs hk) (h.cA (.inr ⟨k, cs, hk, rfl⟩))) (fun k cs o hk hi => hi) (fun k cs hk hl => live _ (h.cA (.inr ⟨k, cs, hk, rfl⟩)) hl)
  · refine ⟨e, os, tp, ou, cU, fun x hx hn => old x (fun e => hn (.inl ⟨id, _, aR, by rw [e]; exact OZ (e ▸ hx)⟩)) hx, fun x hx ho => ?_, fun b o hi hb _ => hi⟩
    rcases ho with ho | ho
    · exact .inl (live x hx ho)
    · exact .inr ho
theorem ke {id : Nat} {r0 r1 : RO} (aR : nth R.obj id = some r0) (hle : bF r0 r1) (h : Ext R w R w') : Ext R w (R.reset id r1) w' := by
  refine ⟨fun _ _ h => h, h.cell, fun i r hr => ?_, h.lp⟩
  by_cases ei : id = i
  · subst ei
    rw [aR] at hr
    cases hr
    exact ⟨_, aj aR, hle⟩
  · exact ⟨r, by rw [af.reset, az ei]; exact hr, bF.refl r⟩
theorem v7 {ts : List TR} {j : Nat} {t0 t1 : TR} (hj : nth ts j = some t0) (hle : eG t0 t1) : og ts (aq ts j t1) := fun i t hi => by
  by_cases e : j = i
  · subst e
    rw [hj] at hi
    cases hi
    exact ⟨t1, aj hj, hle⟩
  · exact ⟨t, by rw [az e]; exact hi, eG.refl t⟩
theorem rQ (h : aJ E R w β s a) {t u : TypeId} {id j sz len : Nat} {y : AV} {ys : List AV} {cx cy : Value} {us : List Value}
    (dB : ∀ {c : Value} {w' : World}, (Builtin.append_ #[t, u] o.type #[cx, cy]).run E.P w = .ok c w' → (execOp a.eval o).run E.P w = .ok (.value c) w')
    {elem esz eb : Nat} {z : AV} (vp : 1 ≤ eb) (hz : z.cells.length = esz) (j9 : z.aH = true)
    {ie : TypeInfo} (f2 : ie.size = esz) (f3 : ie.bytes = eb) (f6 : dW ie = some z)
    (h0 : Rel R w (.eT id j sz len) cx) (hA : ∀ zc : Value, ie.zero = some zc → KZ E.P w t u o.type elem ie zc cy (y :: ys).length us)
    (y0 : dZ esz (y :: ys)) (y1 : ay R w (ap (y :: ys)) us) (y2 : ∀ v ∈ us, v.oneCell' = true) (y3 : us.length = (y :: ys).length * esz)
    {rows : List (List AV)} (aR : nth s.G id = some (.fI rows esz elem)) (O0 : j < rows.length) (sa : len = (rowOf rows j).length) (hb : ((rowOf rows j).length + (y :: ys).length) * eb ≤ 140737488355328) :
    bj E R w β s a o ((s.aX (aq s.G id (.fI (aq rows j (rowOf rows j ++ (y :: ys))) esz elem))).put o.dst (.v (.eT id j esz (len + (y :: ys).length)))) := by
  subst sa
  obtain ⟨zc, jV, yC⟩ := cj f6
  have hA := hA zc jV
  obtain ⟨d1, d2⟩ := Rel.cells (yC R w) j9
  have mS : zc.cells.size = esz := by rw [← hz, d1.length]; simp
  have ln : 0 < (y :: ys).length := by simp
  have hm : (rowOf rows j).length + (y :: ys).length ≤ 140737488355328 := Nat.le_trans (Nat.le_mul_of_pos_right _ vp) hb
  obtain ⟨ro, aO⟩ : ∃ ro, nth R.obj id = some ro := by
    have := aM aR
    rw [← h.g.len] at this
    exact ⟨R.obj[id], by rw [aD]; exact List.getElem?_eq_getElem this⟩
  have bg := h.g.obj id _ _ aR aO
  cases ro with
  | none => exact bg.elim
  | aK => exact bg.elim
  | bh _ => exact bg.elim
  | tok _ _ _ _ => exact bg.elim
  | aG ts =>
  obtain ⟨m1, m2, m3⟩ := bg
  obtain ⟨t0, J3⟩ : ∃ t0, nth ts j = some t0 := ⟨ts[j], by rw [aD]; exact List.getElem?_eq_getElem (by omega)⟩
  have ik : nth rows j = some (rowOf rows j) := by
    have : nth rows j = some rows[j] := by rw [aD]; exact List.getElem?_eq_getElem O0
    unfold rowOf
    rw [this]
  have QO := m3 j _ _ ik J3
  have ox : (rowOf rows j ++ (y :: ys)).length = (rowOf rows j).length + (y :: ys).length := List.length_append
  generalize rowOf rows j = es at *
  -- where a new block has been made
  have fresh : ∀ {xs : List Value} {old : Nat}, (∀ b c, eG t0 (.tok (es.length + (y :: ys).length) b c)) → dZ esz es → ay R w (ap es) xs → (∀ v ∈ xs, v.oneCell' = true) → xs.length = es.length * esz →
      (Builtin.append_ #[t, u] o.type #[cx, cy]).run E.P w = .ok (.slice (some ⟨w.heap.size, 0, none⟩) (es.length + (y :: ys).length) (grownCap w (es.length + (y :: ys).length) old elem)) (w.drew.alloc (.cells (xs.toArray ++ us.toArray ++ Builtin.zeroCells zc.cells (grownCap w (es.length + (y :: ys).length) old elem - (es.length + (y :: ys).length))) elem)) →
      bj E R w β s a o ((s.aX (aq s.G id (.fI (aq rows j (es ++ (y :: ys))) esz elem))).put o.dst (.v (.eT id j esz (es.length + (y :: ys).length)))) := by
    intro xs old hle yR K0 pV sW aU
    have vN := grownCap_ge w (es.length + (y :: ys).length) old elem
    have e := ke (r1 := .aG (aq ts j (.tok (es.length + (y :: ys).length) w.heap.size (grownCap w (es.length + (y :: ys).length) old elem)))) aO (v7 J3 (hle _ _)) (show Ext R w R (w.drew.alloc (.cells (xs.toArray ++ us.toArray ++ Builtin.zeroCells zc.cells (grownCap w (es.length + (y :: ys).length) old elem - (es.length + (y :: ys).length))) elem)) from
      ⟨fun _ _ h => h, fun b o hi => bl (heap_alloc_old w.drew _ b (h.g.wf b o hi)) o, fun i r hr => ⟨r, hr, bF.refl r⟩, .old fun b hb => heap_alloc_old w.drew _ b hb⟩)
    obtain ⟨r1, r2⟩ := h.Fk (row' := es ++ (y :: ys)) aR aO J3 (.inl rfl) e (fun b _ hb => heap_alloc_old w.drew _ b hb) (by simp) ⟨ox.symm, fx yR y0, _, xs ++ us, heap_alloc_new w.drew _, vN, grownCap_le_maxLen w _ old elem (by unfold maxLen; omega), by
      simp only [Array.size_append, List.size_toArray, size_zeroCells, mS, sW, y3, ← Nat.add_mul]
      congr 1
      omega, fun o hi => by have := h.g.wf _ _ hi; omega, by rw [bM]; exact (K0.append y1).mono e, eo pV y2, by
      simp only [Array.toList_append]
      exact List.take_left' (by rw [List.length_append, sW, y3, Nat.add_mul])⟩ (fun h => Nat.le_succ_of_le h) rfl rfl rfl
    refine ⟨_, _, _, _, β, dB aU, .inl rfl, r1.put o.dst ?_, by rw [aL]; exact r2⟩
    exact Rel.eT (aj aO) ⟨_, aj J3, Nat.le_refl _, fun _ => ⟨rfl, .inl rfl, rfl⟩⟩ vN
  generalize hlen : es.length = len at h0
  cases h0 with
  | oe DF hon =>
    have RS : es = [] := List.eq_nil_of_length_eq_zero hlen
    subst RS
    simp only [List.length_nil] at hb
    have aU := hA.nil ln (by omega) (by rw [f3]; rw [Nat.zero_add] at hb; omega)
    refine fresh (xs := []) (old := 0) (fun b c => ?_) (fun e he => by simp at he) .nil (by simp) (by simp) (by simpa using aU)
    cases t0 with
    | aK => simp only [eG]; simp
    | full _ => exact QO.elim
    | tok f b1 c1 =>
      have := QO.1
      simp only [eG, List.length_nil, List.length_cons] at *
      exact ⟨by omega, fun e => by omega⟩
  | @eT _ _ _ _ cap b o' gU DF cD dA =>
    rw [aO] at DF
    cases DF
    obtain ⟨t1, q1, q2⟩ := cD
    rw [J3] at q1
    cases q1
    subst hlen
    cases t0 with
    | aK => exact q2.elim
    | full _ => exact QO.elim
    | tok f b1 c1 =>
    obtain ⟨g0, vf, cur, vs, g2, g3, g4, g5, g6, g7, g8, g9⟩ := QO
    obtain ⟨rfl, mX, rfl⟩ := q2.2 g0.symm
    subst g0
    have g1 := vf.g
    have Ao : vs.length = es.length * esz := by rw [← g7.length, bo g1]
    have eS : ∀ j v, vs[j]? = some v → cur[j]? = some v := fun j v hj => by
      rw [← g9, List.getElem?_take] at hj
      split at hj
      · rw [← Array.getElem?_toList]; exact hj
      · cases hj
    by_cases cz : es.length + (y :: ys).length ≤ cap
    · have kb : o' = 0 := by
        rcases mX with mX | mX
        · exact mX
        · rw [List.length_cons] at cz; omega
      subst kb
      have hle : (es.length + (y :: ys).length) * esz ≤ cap * esz := Nat.mul_le_mul_right _ cz
      have aU := hA.Fj ln b es.length cap cur g2 cz (by rw [f2, y3, ← Nat.add_mul, g5]; exact hle)
      rw [f2] at aU
      have fK : cur.toList.length = cap * esz := by rw [show cur.toList.length = cur.size from Array.length_toList, g5]
      have e := ke (r1 := .aG (aq ts j (.tok (es.length + (y :: ys).length) b cap))) aO (v7 J3 ⟨by omega, fun _ => ⟨rfl, rfl⟩⟩) (ft (R := R) (w := w) g6 (cur.toList.take (es.length * esz) ++ us ++ cur.toList.drop (es.length * esz + us.length)).toArray)
      obtain ⟨r1, r2⟩ := h.Fk (row' := es ++ (y :: ys)) aR aO J3 (.inr ⟨_, _, rfl⟩) e (fun b' bS _ => setRow_other w _ b' _ bS) (by simp) ⟨ox.symm, fx vf y0, _, vs ++ us, setRow_heap w _ _ _ _ (0, 0) g2, cz, g4, by
        rw [List.size_toArray]
        simp only [List.length_append, List.length_take, List.length_drop, y3, fK]
        rw [Nat.add_mul] at hle
        omega, g6, by rw [bM]; exact (g7.append y1).mono e, eo g8 y2, by
        rw [List.toList_toArray, g9]
        exact List.take_left' (by rw [List.length_append, Ao, y3, Nat.add_mul])⟩ (fun h => h) rfl rfl rfl
      refine ⟨_, _, _, _, β, dB aU, .inl rfl, r1.put o.dst ?_, by rw [aL]; exact r2⟩
      exact Rel.eT (aj aO) ⟨_, aj J3, Nat.le_refl _, fun _ => ⟨rfl, .inl rfl, rfl⟩⟩ cz
    · have aU := hA.grow ln ⟨b, o', none⟩ es.length cap vs (by rw [Ao, f2]) (fun j v hj => by
        have Ap := (List.getElem?_eq_some_iff.1 hj).1
        have kb : o' = 0 := by
          rcases mX with mX | mX
          · exact mX
          · have : es.length = 0 := by omega
            rw [Ao, this] at Ap
            omega
        subst kb
        rw [bJ, Nat.zero_add, cell_of_row w b j cur elem (0, 0) g2]
        exact eS j v hj) (by omega) (by omega) (growslice_fits (by omega) (by rw [f3]; exact hb))
      exact fresh (xs := vs) (old := cap) (fun b c => ⟨by omega, fun e => by rw [List.length_cons] at e; omega⟩) vf g7 g8 Ao aU
end rows
theorem kf (h : aJ E R w β s a) {t u : TypeId} {id j : Nat} {es : List AV} {y : AV} {ys : List AV} {cx cy : Value} {us : List Value}
    (dB : ∀ {c : Value} {w' : World}, (Builtin.append_ #[t, u] o.type #[cx, cy]).run E.P w = .ok c w' → (execOp a.eval o).run E.P w = .ok (.value c) w')
    {elem esz eb : Nat} {z : AV} (vp : 1 ≤ eb) (hz : z.cells.length = esz) (j9 : z.aH = true)
    {ie : TypeInfo} (f2 : ie.size = esz) (f3 : ie.bytes = eb) (f6 : dW ie = some z)
    (h0 : Rel R w (.list (.aG id j) esz es) cx) (hA : ∀ zc : Value, ie.zero = some zc → KZ E.P w t u o.type elem ie zc cy (y :: ys).length us)
    (y0 : dZ esz (y :: ys)) (y1 : ay R w (ap (y :: ys)) us) (y2 : ∀ v ∈ us, v.oneCell' = true) (y3 : us.length = (y :: ys).length * esz)
    {fs : List Nat} (eI : nth s.G id = some (.aG fs esz elem)) (se : nth fs j = some es.length) (hb : (es.length + (y :: ys).length) * eb ≤ 140737488355328) :
    bj E R w β s a o ((s.aX (aq s.G id (.aG (aq fs j (es.length + (y :: ys).length)) esz elem))).put o.dst (.v (.list (.aG id j) esz (es ++ (y :: ys))))) := by
  obtain ⟨zc, jV, yC⟩ := cj f6
  have hA := hA zc jV
  obtain ⟨d1, d2⟩ := Rel.cells (yC R w) j9
  have mS : zc.cells.size = esz := by rw [← hz, d1.length]; simp
  have ln : 0 < (y :: ys).length := by simp
  have hm : es.length + (y :: ys).length ≤ 140737488355328 := Nat.le_trans (Nat.le_mul_of_pos_right _ vp) hb
  obtain ⟨x0, xs, x1, x2, x3, x4⟩ := ej (esz := esz) h0 (.inr rfl)
  obtain ⟨ro, aO⟩ : ∃ ro, nth R.obj id = some ro := by
    cases h0 with
    | jm q _ => exact ⟨_, q⟩
    | list _ _ _ hk => obtain ⟨ro, q, _⟩ := hk; exact ⟨ro, q⟩
  have bg := h.g.obj id _ _ eI aO
  cases ro with
  | none => exact bg.elim
  | aK => exact bg.elim
  | bh _ => exact bg.elim
  | tok _ _ _ _ => exact bg.elim
  | aG ts =>
  have bg : sD R w esz elem fs ts := bg
  have O0 : j < ts.length := by rw [bg.1]; exact aM se
  obtain ⟨tr, ht⟩ : ∃ tr, nth ts j = some tr := ⟨ts[j], by rw [aD]; exact List.getElem?_eq_getElem O0⟩
  have ld := bg.2.2 j _ _ se ht
  have yW : ∀ i f b c, nth ts i = some (.tok f b c) → b < w.heap.size := fun i f b c hi => h.g.bq ⟨id, _, aO, i, f, c, hi⟩
  -- where a new block has been made
  have fresh : ∀ {old : Nat}, (∀ b c, eG tr (.tok (es.length + (y :: ys).length) b c)) →
      (Builtin.append_ #[t, u] o.type #[cx, cy]).run E.P w = .ok (.slice (some ⟨w.heap.size, 0, none⟩) (es.length + (y :: ys).length) (grownCap w (es.length + (y :: ys).length) old elem)) (w.drew.alloc (.cells (xs.toArray ++ us.toArray ++ Builtin.zeroCells zc.cells (grownCap w (es.length + (y :: ys).length) old elem - (es.length + (y :: ys).length))) elem)) →
      bj E R w β s a o ((s.aX (aq s.G id (.aG (aq fs j (es.length + (y :: ys).length)) esz elem))).put o.dst (.v (.list (.aG id j) esz (es ++ (y :: ys))))) := by
    intro old hle aU
    have vN := grownCap_ge w (es.length + (y :: ys).length) old elem
    have Vz := grownCap_le_maxLen w (es.length + (y :: ys).length) old elem (by unfold maxLen; omega)
    have J4 : (xs.toArray ++ us.toArray ++ Builtin.zeroCells zc.cells (grownCap w (es.length + (y :: ys).length) old elem - (es.length + (y :: ys).length))).size = grownCap w (es.length + (y :: ys).length) old elem * esz := by
      simp only [Array.size_append, List.size_toArray, size_zeroCells, mS, x3, y3, ← Nat.add_mul]
      congr 1
      omega
    generalize gm : xs.toArray ++ us.toArray ++ Builtin.zeroCells zc.cells (grownCap w (es.length + (y :: ys).length) old elem - (es.length + (y :: ys).length)) = cur at aU J4
    have o1 := One.drew w (.cells cur elem)
    obtain ⟨r1, r2⟩ := h.KT o1 (n := (es.length + (y :: ys).length) * esz) (r1 := .aG (aq ts j (.tok (es.length + (y :: ys).length) w.heap.size (grownCap w (es.length + (y :: ys).length) old elem)))) (go := .aG (aq fs j (es.length + (y :: ys).length)) esz elem) eI aO
      (og.set ht (hle _ _)) (fun b hb => Cu hb) (sD.set bg ⟨rfl, cur, o1.new, vN, Vz, J4, fun o' kb hi => by
        rcases hi with hi | ⟨_, hi⟩
        · have := h.g.wf _ _ hi
          omega
        · omega⟩ (fun i f c hi => absurd (yW i f _ c hi) (Nat.lt_irrefl _)) (fun i f b c _ hi => ⟨o1.old b (yW i f b c hi), fun o' kb => by
          rcases kb with kb | ⟨kb, _⟩
          · exact kb
          · have := yW i f b c hi
            omega⟩))
    have e := r2.ext
    refine ⟨_, _, _, _, β, dB aU, .inl rfl, r1.put o.dst ?_, by rw [aL]; exact r2⟩
    refine Rel.list (sV (vs := xs ++ us) (fx x0 y0) (by rw [bM]; exact (x1.mono e).append (y1.mono e)) (eo x2 y2) (fun j v hj => ?_) (fun j hj => .inr ⟨rfl, by rw [List.length_append, x3, y3, ← Nat.add_mul] at hj; exact hj⟩)) (by simp) vN ⟨_, aj aO, _, aj ht, Nat.le_refl _, fun _ => ⟨rfl, .inl rfl, rfl⟩⟩
    rw [cell_of_row _ _ j _ _ _ o1.new, ← gm]
    have bR := (List.getElem?_eq_some_iff.1 hj).1
    rw [← Array.getElem?_toList]
    simp only [Array.toList_append, List.append_assoc]
    rw [← List.append_assoc, List.getElem?_append_left bR]
    exact hj
  rcases x4 with ⟨rfl, rfl, ad, rfl, hd⟩ | ⟨b, o', cap, rfl, O1, xk, qM, xE⟩
  · obtain rfl : ad = none := by
      rcases hd with hd | hd
      · exact hd
      · cases hd
    simp only [List.length_nil] at hb ld
    have aU := hA.nil ln (by simp only [List.length_nil] at hm; omega) (by rw [f3]; rw [Nat.zero_add] at hb; omega)
    cases tr with
    | aK => exact fresh (old := 0) (fun b c => by simp only [eG, List.length_cons]; omega) (by simpa using aU)
    | full f' =>
      have ld : f' = 0 := ld
      subst ld
      exact fresh (old := 0) (fun b c => by simp only [eG, List.length_cons]; omega) (by simpa using aU)
    | tok f' g c =>
      obtain ⟨ld, _⟩ := ld
      subst ld
      exact fresh (old := 0) (fun b c => by simp only [eG, List.length_cons, List.length_nil]; omega) (by simpa using aU)
  · obtain ⟨gU, DF, qK⟩ := xk
    rw [aO] at DF
    cases DF
    obtain ⟨t', q3, qK⟩ := qK
    rw [ht] at q3
    cases q3
    cases tr with
    | aK => exact qK.elim
    | full f' =>
      have hf : f' = es.length := ld
      subst hf
      have dA := qK.2 rfl
      subst dA
      have aU := hA.grow ln ⟨b, o', none⟩ es.length es.length xs (by rw [x3, f2]) qM (by omega) (by omega) (growslice_fits (by omega) (by rw [f3]; exact hb))
      exact fresh (fun b c => by simp only [eG]; omega) aU
    | tok f' g c =>
      obtain ⟨rfl, cur, gm, k1, k3, k4, k5⟩ := ld
      obtain ⟨rfl, mX, rfl⟩ := qK.2 rfl
      by_cases cz : es.length + (y :: ys).length ≤ cap
      · have RR : o' = 0 := by
          rcases mX with mX | mX
          · exact mX
          · rw [List.length_cons] at cz; omega
        subst RR
        have hle : (es.length + (y :: ys).length) * esz ≤ cap * esz := Nat.mul_le_mul_right _ cz
        have aU := hA.Fj ln b es.length cap cur gm cz (by rw [f2, y3, ← Nat.add_mul, k4]; exact hle)
        rw [f2] at aU
        generalize Fl : (cur.toList.take (es.length * esz) ++ us ++ cur.toList.drop (es.length * esz + us.length)).toArray = cur2 at aU
        have fK : cur.toList.length = cap * esz := by rw [show cur.toList.length = cur.size from Array.length_toList, k4]
        have Xd : es.length * esz ≤ cap * esz := Nat.mul_le_mul_right _ k1
        have vq : cur2.size = cap * esz := by
          rw [← Fl, List.size_toArray]
          simp only [List.length_append, List.length_take, List.length_drop, y3, fK]
          rw [Nat.add_mul] at hle
          omega
        have sQ : ∀ o', R.I b o' → cur2[o']? = cur[o']? := fun o' hi => by
          have ho : o' < es.length * esz := Nat.lt_of_not_le fun hle => k5 o' hle hi
          rw [← Fl, List.append_assoc]
          simp only [List.getElem?_toArray]
          rw [List.getElem?_append_left (by rw [List.length_take]; omega), List.getElem?_take, if_pos ho, Array.getElem?_toList]
        have new : (w.setRow b cur2).heap[b]? = some (.cells cur2 elem (0, 0)) := setRow_heap w b cur cur2 elem (0, 0) gm
        obtain ⟨r0, r1, r2⟩ := h.H9 (cur2 := cur2) (n := (es.length + (y :: ys).length) * esz) (r1 := .aG (aq ts j (.tok (es.length + (y :: ys).length) b cap))) (go := .aG (aq fs j (es.length + (y :: ys).length)) esz elem) eI aO ⟨j, _, _, ht⟩
          (og.set ht ⟨by omega, fun e => by omega⟩) (fun b' gE => (Cu gE).elim (fun e => by rw [e]; exact ⟨j, _, _, ht⟩) (fun x => x)) gm sQ (fun _ => sD.set bg ⟨rfl, cur2, new, cz, k3, vq, fun o' kb hi => by
            rcases hi with hi | ⟨_, hi⟩
            · exact k5 o' (Nat.le_trans (Nat.mul_le_mul_right _ (Nat.le_add_right _ _)) kb) hi
            · omega⟩ (fun i f c hi => bg.2.1 i j _ _ _ _ _ hi ht) (fun i f b' c bS hi => by
              have EX : b' ≠ b := fun e => by subst e; exact bS (bg.2.1 i j _ _ _ _ _ hi ht)
              refine ⟨setRow_other w b b' cur2 EX, fun o' kb => ?_⟩
              rcases kb with kb | ⟨kb, _⟩
              · exact kb
              · exact absurd kb EX))
        refine ⟨_, _, _, _, β, dB aU, .inl rfl, r1.put o.dst ?_, by rw [aL]; exact r2⟩
        have VA : cur.toList.take (es.length * esz) = xs := by
          have HH : xs.length = es.length * esz := x3
          apply List.ext_getElem?
          intro j
          rw [List.getElem?_take]
          split
          · rename_i hj
            have Ap : j < xs.length := by omega
            have qI := qM j xs[j] (List.getElem?_eq_getElem Ap)
            rw [bJ, Nat.zero_add, cell_of_row w b j cur elem (0, 0) gm] at qI
            rw [Array.getElem?_toList, qI, List.getElem?_eq_getElem Ap]
          · rw [List.getElem?_eq_none (by omega)]
        refine Rel.list (sV (vs := xs ++ us) (fx x0 y0) (by rw [bM]; exact (x1.mono r0).append (y1.mono r0)) (eo x2 y2) (fun j v hj => ?_) (fun j hj => .inr ⟨rfl, by rw [List.length_append, x3, y3, ← Nat.add_mul] at hj; exact hj⟩)) (by simp) cz ⟨_, aj aO, _, aj ht, Nat.le_refl _, fun _ => ⟨rfl, .inl rfl, rfl⟩⟩
        rw [cell_of_row _ _ j _ _ _ new, ← Fl, VA]
        simp only [List.getElem?_toArray]
        rw [List.getElem?_append_left (List.getElem?_eq_some_iff.1 hj).1]
        exact hj
      · have aU := hA.grow ln ⟨b, o', none⟩ es.length cap xs (by rw [x3, f2]) qM (by omega) (by omega) (growslice_fits (by omega) (by rw [f3]; exact hb))
        exact fresh (fun b c => ⟨by omega, fun e => by omega⟩) aU
theorem rR (h : aJ E R w β s a) {t u : TypeId} {id j : Nat} {es : List AV} {y : AV} {ys : List AV} {cx cy : Value} {us : List Value}
    (dB : ∀ {c : Value} {w' : World}, (Builtin.append_ #[t, u] o.type #[cx, cy]).run E.P w = .ok c w' → (execOp a.eval o).run E.P w = .ok (.value c) w')
    {elem esz eb : Nat} {z : AV} (vp : 1 ≤ eb) (hz : z.cells.length = esz) (j9 : z.aH = true)
    {ie : TypeInfo} (f2 : ie.size = esz) (f3 : ie.bytes = eb) (f6 : dW ie = some z)
    (h0 : Rel R w (.list (.aG id j) esz es) cx) (hA : ∀ zc : Value, ie.zero = some zc → KZ E.P w t u o.type elem ie zc cy (y :: ys).length us)
    (y0 : dZ esz (y :: ys)) (y1 : ay R w (ap (y :: ys)) us) (y2 : ∀ v ∈ us, v.oneCell' = true) (y3 : us.length = (y :: ys).length * esz)
    {fs : List Nat} (eI : nth s.G id = some (.aG fs esz elem)) (se : HS fs j es.length = true) (hb : (es.length + (y :: ys).length) * eb ≤ 140737488355328) :
    bj E R w β s a o ((s.aX (aq s.G id (.aG (Dp fs j (es.length + (y :: ys).length)) esz elem))).put o.dst (.v (.list (.aG id j) esz (es ++ (y :: ys))))) := by
  unfold HS at se
  rw [Bool.or_eq_true, decide_eq_true_eq, Bool.and_eq_true] at se
  rcases se with se | ⟨hj, hl⟩
  · have bS : Nat.beq j fs.length = false := by
      cases hb : Nat.beq j fs.length with
      | false => rfl
      | true =>
        have := Nat.eq_of_beq_eq_true hb
        have := aM se
        omega
    unfold Dp
    rw [bS]
    exact kf h dB vp hz j9 f2 f3 f6 h0 hA y0 y1 y2 y3 eI se hb
  · have sY : Dp fs j (es.length + (y :: ys).length) = fs ++ [es.length + (y :: ys).length] := by
      unfold Dp
      rw [hj]
      rfl
    rw [sY]
    have hj := Nat.eq_of_beq_eq_true hj
    have hl := Nat.eq_of_beq_eq_true hl
    subst hj
    have bR := aM eI
    rw [← h.g.len] at bR
    obtain ⟨ro, aO⟩ : ∃ ro, nth R.obj id = some ro := ⟨R.obj[id], by rw [aD]; exact List.getElem?_eq_getElem bR⟩
    obtain ⟨ts, rfl, z1, z2, z3⟩ := h.xr eI (nfs := [0]) (nts := [.aK]) rfl (fun j f t h1 h2 => by
      cases j with
      | zero => simp only [nth] at h1 h2; cases h1; cases h2; exact rfl
      | succ j => simp [nth] at h1) (fun j f b c hj => by
      cases j with
      | zero => simp only [nth] at hj; cases hj
      | succ j => simp [nth] at hj) aO
    have key := kf z2 dB vp hz j9 f2 f3 f6 (h0.mono z3.ext) hA y0 (y1.mono z3.ext) y2 y3 (fs := fs ++ [0]) (aj eI) (by rw [hl]; exact cY _ _) hb
    have e1 : aq (fs ++ [0]) fs.length (es.length + (y :: ys).length) = fs ++ [es.length + (y :: ys).length] := by
      rw [de, List.set_append_right _ _ (Nat.le_refl _), Nat.sub_self]
      rfl
    have e2 : ∀ x y : GO, aq (aq s.G id x) id y = aq s.G id y := fun x y => by rw [de, de, de, List.set_set]
    rw [e1] at key
    refine bj.step rfl z3 ?_
    have e3 : ((s.aX (aq s.G id (.aG (fs ++ [0]) esz elem))).aX (aq (s.aX (aq s.G id (.aG (fs ++ [0]) esz elem))).G id (.aG (fs ++ [es.length + (y :: ys).length]) esz elem))) = s.aX (aq s.G id (.aG (fs ++ [es.length + (y :: ys).length]) esz elem)) := by
      simp only [St.aX, e2]
    rw [e3] at key
    exact key
theorem gn (h : aJ E R w β s a) {t u : TypeId} {x : AV} {ys : List AV} {cx cy : Value} {us : List Value}
    (dB : ∀ {c : Value} {w' : World}, (Builtin.append_ #[t, u] o.type #[cx, cy]).run E.P w = .ok c w' → (execOp a.eval o).run E.P w = .ok (.value c) w')
    {i : TI} {elem esz eb : Nat} {ag : Bool} {z : AV} (hk : i.k = .sl elem esz ag eb (some z)) (vp : 1 ≤ eb) (hz : z.cells.length = esz) (j9 : z.aH = true)
    {ie : TypeInfo} (f1 : E.P.info? elem = some ie) (f2 : ie.size = esz) (f3 : ie.bytes = eb) (f6 : dW ie = some z)
    (h0 : Rel R w x cx) (hA : ∀ zc : Value, ie.zero = some zc → KZ E.P w t u o.type elem ie zc cy ys.length us)
    (y0 : dZ esz ys) (y1 : ay R w (ap ys) us) (y2 : ∀ v ∈ us, v.oneCell' = true) (y3 : us.length = ys.length * esz)
    {v : AV} {G' : List GO} (ha : dc s.G elem esz eb x ys = some (true, v, G')) :
    bj E R w β s a o ((s.aX G').put o.dst (.v v)) := by
  obtain ⟨zc, jV, yC⟩ := cj f6
  have RT := hA
  have hA := hA zc jV
  obtain ⟨d1, d2⟩ := Rel.cells (yC R w) j9
  have mS : zc.cells.size = esz := by rw [← hz, d1.length]; simp
  unfold dc at ha
  split at ha
  · -- nothing is appended
    rename_i k sz es
    have OU : us = [] := List.eq_nil_of_length_eq_zero (by simpa using y3)
    have hG : G' = s.G ∧ Rel R w v cx := by
      split at ha
      · injection ha with ha; injection ha with _ ha; injection ha with p q
        subst p; subst q
        exact ⟨rfl, h0⟩
      · injection ha with ha; injection ha with _ ha; injection ha with p q
        subst p; subst q
        exact ⟨rfl, h0⟩
    obtain ⟨rfl, VB⟩ := hG
    refine an (s := s) h (c := cx) (dB ?_) VB
    cases h0 with
    | gi => exact hA.zero rfl _ _ _ (Nat.le_refl 0)
    | fO => exact hA.zero rfl _ _ _ (Nat.le_refl 0)
    | jK => exact hA.zero rfl _ _ _ (Nat.le_refl 0)
    | iH => exact hA.zero rfl _ _ _ (Nat.le_refl 0)
    | jm => exact hA.zero rfl _ _ _ (Nat.le_refl 0)
    | list hr hlen dA _ => exact hA.zero rfl _ _ _ dA
  · -- something is appended
    rename_i k sz es y ys hA
    have ln : 0 < (y :: ys).length := by simp
    -- what is shown where a new block has been made
    have grown : ∀ {n old : Nat} {xs : List Value} {es' : List AV}, (es'.length = n) → dZ esz es' → ay R w (ap es') xs → (∀ v ∈ xs, v.oneCell' = true) → xs.length = n * esz →
        (n + (y :: ys).length) * eb ≤ 140737488355328 → n + (y :: ys).length ≤ maxLen → ∀ (R' : af) (G2 : List GO) (id : Nat),
        aJ E R' (w.drew.alloc (.cells (xs.toArray ++ us.toArray ++ Builtin.zeroCells zc.cells (grownCap w (n + (y :: ys).length) old elem - (n + (y :: ys).length))) elem)) β (s.aX G2) a →
        Step R w β s.boxes R' (w.drew.alloc (.cells (xs.toArray ++ us.toArray ++ Builtin.zeroCells zc.cells (grownCap w (n + (y :: ys).length) old elem - (n + (y :: ys).length))) elem)) β s.boxes →
        (∀ j, j < (n + (y :: ys).length) * esz → R'.I w.heap.size j) → nth R'.obj id = some (.tok (n + (y :: ys).length) w.heap.size (grownCap w (n + (y :: ys).length) old elem) 0) →
        (Builtin.append_ #[t, u] o.type #[cx, cy]).run E.P w = .ok (.slice (some ⟨w.heap.size, 0, none⟩) (n + (y :: ys).length) (grownCap w (n + (y :: ys).length) old elem)) (w.drew.alloc (.cells (xs.toArray ++ us.toArray ++ Builtin.zeroCells zc.cells (grownCap w (n + (y :: ys).length) old elem - (n + (y :: ys).length))) elem)) →
        bj E R w β s a o ((s.aX G2).put o.dst (.v (.list (.own id) esz (es' ++ (y :: ys))))) := by
      intro n old xs es' xd K2 K0 pV sW _ _ R' G2 id bg CC hI aR aU
      refine ⟨_, _, _, R', β, dB aU, .inl rfl, bg.put o.dst ?_, by rw [aL]; exact CC⟩
      have e := CC.ext
      refine Rel.list (sV (vs := xs ++ us) (fx K2 y0) (by rw [bM]; exact (K0.mono e).append (y1.mono e)) (eo pV y2) (fun j v hj => ?_) (fun j hj => hI j (by rw [List.length_append, sW, y3, ← Nat.add_mul] at hj; exact hj))) (by simp [xd]) (grownCap_ge w _ _ _) ⟨_, aR, Nat.le_refl _, fun _ => ⟨rfl, .inl rfl, rfl⟩⟩
      have kD : (w.drew.alloc (.cells (xs.toArray ++ us.toArray ++ Builtin.zeroCells zc.cells (grownCap w (n + (y :: ys).length) old elem - (n + (y :: ys).length))) elem)).heap[w.heap.size]? = some (.cells (xs.toArray ++ us.toArray ++ Builtin.zeroCells zc.cells (grownCap w (n + (y :: ys).length) old elem - (n + (y :: ys).length))) elem (0, 0)) := heap_alloc_new w.drew _
      rw [cell_of_row _ _ j _ _ _ kD]
      have bR := (List.getElem?_eq_some_iff.1 hj).1
      rw [← Array.getElem?_toList]
      simp only [Array.toList_append, List.append_assoc]
      rw [← List.append_assoc, List.getElem?_append_left bR]
      exact hj
    have Fm : ∀ {n old : Nat} {xs : List Value}, xs.length = n * esz → n + (y :: ys).length ≤ maxLen → (xs.toArray ++ us.toArray ++ Builtin.zeroCells zc.cells (grownCap w (n + (y :: ys).length) old elem - (n + (y :: ys).length))).size = grownCap w (n + (y :: ys).length) old elem * esz := by
      intro n old xs sW _
      have vN := grownCap_ge w (n + (y :: ys).length) old elem
      simp only [Array.size_append, List.size_toArray, size_zeroCells, mS, sW, y3, ← Nat.add_mul]
      congr 1
      omega
    have fresh : ∀ {n old : Nat} {xs : List Value} {es' : List AV}, (es'.length = n) → dZ esz es' → ay R w (ap es') xs → (∀ v ∈ xs, v.oneCell' = true) → xs.length = n * esz →
        (n + (y :: ys).length) * eb ≤ 140737488355328 → n + (y :: ys).length ≤ maxLen →
        (Builtin.append_ #[t, u] o.type #[cx, cy]).run E.P w = .ok (.slice (some ⟨w.heap.size, 0, none⟩) (n + (y :: ys).length) (grownCap w (n + (y :: ys).length) old elem)) (w.drew.alloc (.cells (xs.toArray ++ us.toArray ++ Builtin.zeroCells zc.cells (grownCap w (n + (y :: ys).length) old elem - (n + (y :: ys).length))) elem)) →
        bj E R w β s a o ((s.aX (s.G ++ [.tok (n + (y :: ys).length) esz elem])).put o.dst (.v (.list (.own s.G.length) esz (es' ++ (y :: ys))))) := by
      intro n old xs es' xd K2 K0 pV sW hb hm aU
      obtain ⟨r1, r2⟩ := h.KR (cur := xs.toArray ++ us.toArray ++ Builtin.zeroCells zc.cells (grownCap w (n + (y :: ys).length) old elem - (n + (y :: ys).length))) (elem := elem) (grownCap_ge w (n + (y :: ys).length) old elem) (grownCap_le_maxLen w _ old elem hm) (Fm sW hm)
      exact grown xd K2 K0 pV sW hb hm _ _ _ r1 r2 (fun j hj => .inr ⟨rfl, hj⟩) (by rw [← h.g.len]; exact cY _ _) aU
    have K3 : ∀ {n : Nat}, (n + (y :: ys).length) * eb ≤ 140737488355328 → n + (y :: ys).length ≤ 140737488355328 := fun {n} hb => Nat.le_trans (Nat.le_mul_of_pos_right _ vp) hb
    split at ha
    · -- nil
      injection ha with ha; injection ha with hc ha; injection ha with p q
      subst p; subst q
      have hb := of_decide_eq_true hc
      cases h0 with
      | list _ _ _ AO => exact AO.elim
      | gi =>
        simp only [List.length_nil] at hb
        have hm := K3 hb
        refine fresh (n := 0) (old := 0) (xs := []) (es' := []) rfl (fun e he => by simp at he) .nil (by simp) (by simp) hb (by unfold maxLen; omega) ?_
        have aU := hA.nil ln (by omega) (by rw [f3]; rw [Nat.zero_add] at hb; omega)
        simpa using aU
    · -- as long as its capacity
      split at ha
      · rename_i cU
        have cU := Nat.eq_of_beq_eq_true cU
        subst cU
        injection ha with ha; injection ha with hc ha; injection ha with p q
        subst p; subst q
        have hb := of_decide_eq_true hc
        have hm := K3 hb
        obtain ⟨x0, xs, x1, x2, x3, x4⟩ := ej (esz := sz) h0 (.inr rfl)
        rcases x4 with ⟨rfl, rfl, ad, rfl, hd⟩ | ⟨b, o', cap, rfl, O1, xk, qM, _⟩
        · rcases hd with rfl | hd
          · cases h0
          · cases hd
        · have dA : cap = es.length := xk
          subst dA
          refine fresh (n := es.length) (old := es.length) (xs := xs) (es' := es) rfl x0 x1 x2 x3 hb (by unfold maxLen; omega) ?_
          exact hA.grow ln ⟨b, o', none⟩ es.length es.length xs (by rw [x3, f2]) qM (by omega) (by omega) (growslice_fits (by omega) (by rw [f3]; exact hb))
      · cases ha
    · -- of a token
      rename_i id
      split at ha
      · rename_i f aQ e' eI
        split at ha
        · rename_i bD
          simp only [Bool.and_eq_true] at bD
          obtain ⟨⟨q1, q2⟩, q3⟩ := bD
          have q1 := Nat.eq_of_beq_eq_true q1
          have q2 := Nat.eq_of_beq_eq_true q2
          have q3 := Nat.eq_of_beq_eq_true q3
          subst q1; subst q2; subst q3
          injection ha with ha; injection ha with hc ha; injection ha with p q
          subst p; subst q
          simp only [Bool.and_eq_true] at hc
          have se := of_decide_eq_true hc.1
          have hb := of_decide_eq_true hc.2
          subst se
          have hm := K3 hb
          obtain ⟨x0, xs, x1, x2, x3, x4⟩ := ej (esz := sz) h0 (.inr rfl)
          rcases x4 with ⟨rfl, rfl, ad, rfl, hd⟩ | ⟨b, o', cap, rfl, O1, xk, qM, xE⟩
          · obtain rfl : ad = none := by
              rcases hd with hd | hd
              · exact hd
              · cases hd
            cases h0 with
            | @iH _ _ ro aO hon =>
            have bg := h.g.obj id _ _ eI aO
            cases ro with
            | none => exact bg.elim
            | bh _ => exact bg.elim
            | tok f' g c k0 =>
              obtain ⟨rfl, _⟩ := bg
              simp [jJ] at hon
            | aG _ => exact bg.elim
            | aK =>
              simp only [List.length_nil] at hb
              have aU := hA.nil ln (by omega) (by rw [f3]; rw [Nat.zero_add] at hb; omega)
              have cU := Fm (n := 0) (old := 0) (xs := []) (by simp) (by unfold maxLen; omega)
              obtain ⟨r1, r2⟩ := h.Fe (cur := [].toArray ++ us.toArray ++ Builtin.zeroCells zc.cells (grownCap w (0 + (y :: ys).length) 0 e' - (0 + (y :: ys).length))) (elem := e') (n := 0 + (y :: ys).length) (cap := grownCap w (0 + (y :: ys).length) 0 e') eI aO (fun b c => by simp only [bF]; omega) (grownCap_ge w _ _ _) (grownCap_le_maxLen w _ _ _ (by unfold maxLen; omega)) cU
              exact grown (n := 0) (es' := []) rfl (fun e he => by simp at he) .nil (by simp) (by simp) hb (by unfold maxLen; omega) _ _ _ r1 r2 (fun j hj => .inr ⟨rfl, hj⟩) (aj aO) (by simpa using aU)
          · obtain ⟨ro, aO, qK⟩ := xk
            have bg := h.g.obj id _ _ eI aO
            cases ro with
            | none => exact bg.elim
            | aK => exact qK.elim
            | bh _ => exact bg.elim
            | aG _ => exact bg.elim
            | tok f' g c k0 =>
              obtain ⟨rfl, cur, gm, k1, k3, k4, k5⟩ := bg
              obtain ⟨rfl, cD, rfl⟩ := qK.2 rfl
              by_cases cz : es.length + (y :: ys).length ≤ cap
              · have cD := cD.resolve_right (by rw [List.length_cons] at cz; omega)
                subst cD
                have hle : (es.length + (y :: ys).length) * sz ≤ cap * sz := Nat.mul_le_mul_right _ cz
                have aU := hA.room ln b o' es.length cap cur gm cz (by rw [f2, Nat.add_assoc, y3, ← Nat.add_mul, k4]; omega)
                rw [f2] at aU
                obtain ⟨r0, r1, r2⟩ := h.H7 (news := us) (n := es.length + (y :: ys).length) eI aO (by omega) cz gm k4 k3 (by rw [y3, ← Nat.add_mul])
                refine ⟨_, _, _, _, β, dB aU, .inl rfl, r1.put o.dst ?_, by rw [aL]; exact r2⟩
                have kD := setRow_heap w b cur (cur.toList.take (o' + es.length * sz) ++ us ++ cur.toList.drop (o' + es.length * sz + us.length)).toArray e' (0, 0) gm
                have HH : xs.length = es.length * sz := x3
                have fK : cur.toList.length = o' + cap * sz := by rw [show cur.toList.length = cur.size from Array.length_toList, k4]
                have yR : es.length * sz ≤ cap * sz := Nat.mul_le_mul_right _ (by omega)
                have eS : ∀ j v, (xs ++ us)[j]? = some v → (w.setRow b (cur.toList.take (o' + es.length * sz) ++ us ++ cur.toList.drop (o' + es.length * sz + us.length)).toArray).cell? ⟨b, o' + j, none⟩ = some v := fun j v hj => by
                  rw [cell_of_row _ _ (o' + j) _ _ _ kD]
                  simp only [List.getElem?_toArray]
                  by_cases VC : j < xs.length
                  · rw [List.getElem?_append_left VC] at hj
                    have qI := qM j v hj
                    rw [bJ, cell_of_row w b (o' + j) cur e' (0, 0) gm] at qI
                    rw [List.append_assoc, List.getElem?_append_left (by rw [List.length_take]; omega), List.getElem?_take, if_pos (by omega), Array.getElem?_toList]
                    exact qI
                  · have bR := (List.getElem?_eq_some_iff.1 hj).1
                    rw [List.length_append] at bR
                    rw [List.getElem?_append_right (by omega)] at hj
                    have ht : (cur.toList.take (o' + es.length * sz)).length = o' + es.length * sz := by rw [List.length_take]; omega
                    rw [List.append_assoc, List.getElem?_append_right (by rw [ht]; omega), ht, List.getElem?_append_left (by omega), show o' + j - (o' + es.length * sz) = j - xs.length by omega]
                    exact hj
                refine Rel.list (iB (fx x0 y0) (du.make (vs := xs ++ us) (by rw [bM]; exact (x1.mono r0).append (y1.mono r0)) (eo x2 y2) eS (fun j hj => .inr ⟨rfl, ?_⟩))) (by simp) cz ⟨_, aj aO, Nat.le_refl _, fun _ => ⟨rfl, .inl rfl, rfl⟩⟩
                rw [bM, List.length_append, x1.length, y1.length, HH, y3, ← Nat.add_mul] at hj
                omega
              · have aU := hA.grow ln ⟨b, o', none⟩ es.length cap xs (by rw [x3, f2]) qM (by omega) (by omega) (growslice_fits (by omega) (by rw [f3]; exact hb))
                obtain ⟨r1, r2⟩ := h.Fe (cur := xs.toArray ++ us.toArray ++ Builtin.zeroCells zc.cells (grownCap w (es.length + (y :: ys).length) cap e' - (es.length + (y :: ys).length))) (elem := e') (n := es.length + (y :: ys).length) (cap := grownCap w (es.length + (y :: ys).length) cap e') eI aO (fun b c => ⟨by omega, fun e => by omega⟩) (grownCap_ge w _ _ _) (grownCap_le_maxLen w _ _ _ (by unfold maxLen; omega)) (Fm x3 (by unfold maxLen; omega))
                exact grown rfl x0 x1 x2 x3 hb (by unfold maxLen; omega) _ _ _ r1 r2 (fun j hj => .inr ⟨rfl, hj⟩) (aj aO) aU
        · cases ha
      · cases ha
    · -- of a member of a family
      rename_i id j
      split at ha
      · rename_i fs aQ e' eI
        split at ha
        · rename_i bD
          simp only [Bool.and_eq_true] at bD
          obtain ⟨⟨q1, q2⟩, q3⟩ := bD
          have q1 := Nat.eq_of_beq_eq_true q1
          have q2 := Nat.eq_of_beq_eq_true q2
          have q3 := Nat.eq_of_beq_eq_true q3
          subst q1; subst q2; subst q3
          injection ha with ha; injection ha with hc ha; injection ha with p q
          subst p; subst q
          simp only [Bool.and_eq_true, decide_eq_true_eq] at hc
          exact rR h dB vp hz j9 f2 f3 f6 h0 (fun O2 Fo => RT O2 Fo) y0 y1 y2 y3 eI hc.1 hc.2
        · cases ha
      · cases ha
    · cases ha
  · -- a slice that grows, and nothing
    injection ha with ha; injection ha with _ ha; injection ha with p q
    subst p; subst q
    refine an (s := s) h (c := cx) (dB ?_) h0
    cases h0 with
    | fZ => exact hA.zero rfl _ _ _ (Nat.le_refl 0)
    | cS _ _ dA => exact hA.zero rfl _ _ _ dA
  · -- a slice that grows
    rename_i id f' off sz len y ys hA
    split at ha
    · rename_i es aQ e' eI
      split at ha
      · rename_i bD
        simp only [Bool.and_eq_true] at bD
        obtain ⟨⟨q1, q2⟩, q3⟩ := bD
        have q1 := Nat.eq_of_beq_eq_true q1
        have q2 := Nat.eq_of_beq_eq_true q2
        have q3 := Nat.eq_of_beq_eq_true q3
        subst q1; subst q2; subst q3
        injection ha with ha; injection ha with hc ha; injection ha with p q
        subst p; subst q
        simp only [Bool.and_eq_true, decide_eq_true_eq] at hc
        exact gY h dB vp hz j9 f2 f3 f6 h0 (fun O2 Fo => RT O2 Fo) y0.g y1 y2 y3 eI hc.1.1.1 hc.1.1.2 hc.1.2 hc.2
      · cases ha
    · cases ha
  · -- a row, and nothing
    injection ha with ha; injection ha with _ ha; injection ha with p q
    subst p; subst q
    refine an (s := s) h (c := cx) (dB ?_) h0
    cases h0 with
    | oe => exact hA.zero rfl _ _ _ (Nat.le_refl 0)
    | eT _ _ dA => exact hA.zero rfl _ _ _ dA
  · -- a row
    rename_i id j' sz len y ys hA
    split at ha
    · rename_i rows aQ e' eI
      split at ha
      · rename_i bD
        simp only [Bool.and_eq_true] at bD
        obtain ⟨⟨q1, q2⟩, q3⟩ := bD
        have q1 := Nat.eq_of_beq_eq_true q1
        have q2 := Nat.eq_of_beq_eq_true q2
        have q3 := Nat.eq_of_beq_eq_true q3
        subst q1; subst q2; subst q3
        injection ha with ha; injection ha with hc ha; injection ha with p q
        subst p; subst q
        simp only [Bool.and_eq_true, decide_eq_true_eq] at hc
        exact rQ h dB vp hz j9 f2 f3 f6 h0 (fun O2 Fo => RT O2 Fo) y0 y1 y2 y3 eI hc.1.1 hc.1.2 hc.2
      · cases ha
    · cases ha
  · cases ha
theorem yX (h : aJ E R w β s a) {args : Array Operand} {t : TypeId} (ho : o.op = .call { callee := .builtin .append, args := args, argTypes := #[t, t] }) {x : AV} {k2 : LK} {nV : Nat} {ys : List AV}
    (hl : js E s.ae args.toList = some [x, .list k2 nV ys]) {i : TI} (hi : E.ti t = some i) {elem esz eb : Nat} {ag : Bool} {z : AV} (hk : i.k = .sl elem esz ag eb (some z)) (vq : ys = [] ∨ nV = esz) (VD : 1 ≤ esz) (vp : 1 ≤ eb) (hz : z.cells.length = esz) (j9 : z.aH = true)
    {v : AV} {G' : List GO} (ha : dc s.G elem esz eb x ys = some (true, v, G')) :
    bj E R w β s a o ((s.aX G').put o.dst (.v v)) := by
  have hr := dJ h hl
  generalize hv : args.toList.map a.eval = vs at hr
  have hx := cE (E := E) (w := w) ho vs hv
  cases hr with
  | @cons _ cx _ _ h0 h1 =>
  cases h1 with
  | @cons _ cy _ _ h1 h2 =>
  cases h2
  obtain ⟨eh, u, e1, e2, e3, e4, e5, e6⟩ := bE E hi
  have yD := hk
  rw [hk] at e5
  obtain ⟨ie, ue, rfl, f1, f2, f3, f4, f5, f6⟩ := ca e5
  have lf : (⟨[cx, cy]⟩ : Array Value) = #[cx, cy] := rfl
  obtain ⟨y0, us, y1, y2, y3, y4⟩ := ej (esz := esz) h1 vq
  refine gn h (cx := cx) (cy := cy) (t := t) (u := t) (fun hh => ?_) yD vp hz j9 f1 f2 f3 f6 h0 (fun zc jV => ?_) y0 y1 y2 y3 ha
  · rw [hx]
    simp only [builtin, lf, Sem.run_bind, hh, Result.andThen_ok, Sem.run_pure]
  · rcases y4 with ⟨rfl, rfl, ad, rfl, _⟩ | ⟨Oc, oy, sZ, rfl, O3, _, iP, yE⟩
    · refine ⟨fun _ base len cap yB => ?_, fun hh => absurd hh (by simp), fun hh => absurd hh (by simp), fun hh => absurd hh (by simp)⟩
      cases ad <;> simp [Builtin.append_, run_underlying e2, run_sizeOf w f1, Builtin.lenOf, Builtin.firstCells, yB, storeCells, loadCells, loadCellsFrom] <;>
        cases base <;> simp [storeCells]
    · refine ⟨fun hn base len cap yB => ?_, fun hh xu xw => run_append_nil (P := E.P) w t o.type elem ie zc e2 f1 jV _ _ sZ us (by rw [y3, f2]) iP hh xu xw, fun _ b sLen dx qh s6 DG hg xu xw => run_append_grow (P := E.P) w t o.type elem ie zc e2 f1 jV b sLen dx qh s6 DG _ _ sZ us (by rw [y3, f2]) iP hg xu xw, fun _ g k sLen dx cur hg cz lm => eM (P := E.P) w t o.type elem ie e2 f1 g k sLen dx cur hg _ _ sZ us (by rw [y3, f2]) iP y2 cz lm⟩
      rw [hn]
      simp [Builtin.append_, run_underlying e2, run_sizeOf w f1, Builtin.lenOf, Builtin.firstCells, yB, storeCells, loadCells, loadCellsFrom]
      cases base <;> simp [storeCells]
theorem qN {sz : Nat} {es : List AV} (h : cK sz es) (hc : aN es = true) : dZ sz es := by
  induction es with
  | nil => intro e he; cases he
  | cons x es ih =>
    have kX : (x.closed && aN es) = true := hc
    rw [Bool.and_eq_true] at kX
    intro e he
    rcases List.mem_cons.1 he with rfl | he
    · exact ⟨(h e List.mem_cons_self).1, (h e List.mem_cons_self).2, kX.1⟩
    · exact ih (fun e he => h e (List.mem_cons_of_mem _ he)) kX.2 e he
theorem DH (h : aJ E R w β s a) {id f sz len : Nat} {es : List AV} {el : TypeId} {c : Value} (aR : nth s.G id = some (.cW es sz el)) (hf : f = es.length) (hl : len = es.length) (fK : aN es = true) (hc : Rel R w (.cS id f 0 sz len) c) :
    dZ sz es ∧ ∃ vs, ay R w (ap es) vs ∧ (∀ v ∈ vs, v.oneCell' = true) ∧ vs.length = es.length * sz ∧
      ((es = [] ∧ vs = [] ∧ ∃ ad, c = .slice ad 0 0) ∨ ∃ b o' cap, c = .slice (some ⟨b, o', none⟩) es.length cap ∧ es.length ≤ cap ∧ (∀ j v, vs[j]? = some v → w.cell? ((⟨b, o', none⟩ : Addr).add j) = some v)) := by
  cases hc with
  | fZ h1 h2 =>
    have he : es = [] := List.eq_nil_of_length_eq_zero hl.symm
    subst he
    exact ⟨(fun e he => by cases he), [], .nil, by simp, by simp, .inl ⟨rfl, rfl, _, rfl⟩⟩
  | @cS _ _ _ _ _ cap b1 o1 ro h1 h2 h3 =>
    have hn : ro ≠ .aK := fun e => by subst e; exact h2.elim
    obtain ⟨b, c', cur, vs, rfl, g0, g2, g3, g4, g5, g6, g7, g8, g9⟩ := kE h.g aR h1 hn
    have g1 : dZ sz es := qN g0 fK
    obtain ⟨rfl, k2, k3⟩ := h2.2 hf
    refine ⟨g1, vs, g7, g8, by rw [← g7.length, cb g1], .inr ⟨_, _, _, by rw [hl], by omega, fun j v hj => ?_⟩⟩
    rw [bJ]
    have O0 : j < vs.length := (List.getElem?_eq_some_iff.1 hj).1
    have ho : o1 = 0 := by
      rcases k3 with k3 | k3
      · rw [k3, Nat.zero_mul]
      · have : es.length = 0 := by omega
        rw [← g7.length, cb g1, this, Nat.zero_mul] at O0
        omega
    subst ho
    rw [Nat.zero_add, cell_of_row w b1 j cur el (0, 0) g2]
    rw [← g9, List.getElem?_take] at hj
    split at hj
    · rw [← Array.getElem?_toList]; exact hj
    · cases hj
theorem rS (h : aJ E R w β s a) {args : Array Operand} {t : TypeId} (ho : o.op = .call { callee := .builtin .append, args := args, argTypes := #[t, t] }) {x : AV} {id f sz len : Nat} {ys : List AV} {el : TypeId}
    (hl : js E s.ae args.toList = some [x, .cS id f 0 sz len]) (aR : nth s.G id = some (.cW ys sz el)) (hf : f = ys.length) (hlen : len = ys.length) (fK : aN ys = true)
    {i : TI} (hi : E.ti t = some i) {elem esz eb : Nat} {ag : Bool} {z : AV} (hk : i.k = .sl elem esz ag eb (some z)) (vq : sz = esz) (vp : 1 ≤ eb) (hz : z.cells.length = esz) (j9 : z.aH = true)
    {v : AV} {G' : List GO} (ha : dc s.G elem esz eb x ys = some (true, v, G')) :
    bj E R w β s a o ((s.aX G').put o.dst (.v v)) := by
  have hr := dJ h hl
  generalize hv : args.toList.map a.eval = vs at hr
  have hx := cE (E := E) (w := w) ho vs hv
  cases hr with
  | @cons _ cx _ _ h0 h1 =>
  cases h1 with
  | @cons _ cy _ _ h1 h2 =>
  cases h2
  obtain ⟨eh, u, e1, e2, e3, e4, e5, e6⟩ := bE E hi
  have yD := hk
  rw [hk] at e5
  obtain ⟨ie, ue, rfl, f1, f2, f3, f4, f5, f6⟩ := ca e5
  have lf : (⟨[cx, cy]⟩ : Array Value) = #[cx, cy] := rfl
  subst vq
  obtain ⟨y0, us, y1, y2, y3, y4⟩ := DH h aR hf hlen fK h1
  refine gn h (cx := cx) (cy := cy) (t := t) (u := t) (fun hh => ?_) yD vp hz j9 f1 f2 f3 f6 h0 (fun zc jV => ?_) y0 y1 y2 y3 ha
  · rw [hx]
    simp only [builtin, lf, Sem.run_bind, hh, Result.andThen_ok, Sem.run_pure]
  · rcases y4 with ⟨rfl, rfl, ad, rfl⟩ | ⟨Oc, oy, sZ, rfl, O3, iP⟩
    · refine ⟨fun _ base len cap yB => ?_, fun hh => absurd hh (by simp), fun hh => absurd hh (by simp), fun hh => absurd hh (by simp)⟩
      cases ad <;> simp [Builtin.append_, run_underlying e2, run_sizeOf w f1, Builtin.lenOf, Builtin.firstCells, yB, storeCells, loadCells, loadCellsFrom] <;>
        cases base <;> simp [storeCells]
    · refine ⟨fun hn base len cap yB => ?_, fun hh xu xw => run_append_nil (P := E.P) w t o.type elem ie zc e2 f1 jV _ _ sZ us (by rw [y3, f2]) iP hh xu xw, fun _ b sLen dx qh s6 DG hg xu xw => run_append_grow (P := E.P) w t o.type elem ie zc e2 f1 jV b sLen dx qh s6 DG _ _ sZ us (by rw [y3, f2]) iP hg xu xw, fun _ g k sLen dx cur hg cz lm => eM (P := E.P) w t o.type elem ie e2 f1 g k sLen dx cur hg _ _ sZ us (by rw [y3, f2]) iP y2 cz lm⟩
      rw [hn]
      simp [Builtin.append_, run_underlying e2, run_sizeOf w f1, Builtin.lenOf, Builtin.firstCells, yB, storeCells, loadCells, loadCellsFrom]
      cases base <;> simp [storeCells]
theorem s7 : ∀ (bs : List UInt8), ay R w (ap (bs.map n8)) (Lib.strCells ⟨⟨bs⟩⟩)
  | [] => .nil
  | b :: bs => .cons (Rel.int .u8 b.toNat) (s7 bs)
theorem rT (h : aJ E R w β s a) {args : Array Operand} {t u : TypeId} (ho : o.op = .call { callee := .builtin .append, args := args, argTypes := #[t, u] }) {x : AV} {bs : List UInt8}
    (hl : js E s.ae args.toList = some [x, .str bs]) {i j : TI} (hi : E.ti t = some i) (hj : E.ti u = some j) {elem eb : Nat} {ag : Bool} {z : AV} (hk : i.k = .sl elem 1 ag eb (some z)) (Oe : j.k = .str) (vp : 1 ≤ eb) (hz : z.cells.length = 1) (j9 : z.aH = true)
    {v : AV} {G' : List GO} (ha : dc s.G elem 1 eb x (bs.map n8) = some (true, v, G')) :
    bj E R w β s a o ((s.aX G').put o.dst (.v v)) := by
  have hr := dJ h hl
  generalize hv : args.toList.map a.eval = vs at hr
  have hx := cE (E := E) (w := w) ho vs hv
  cases hr with
  | @cons _ cx _ _ h0 h1 =>
  cases h1 with
  | @cons _ cy _ _ h1 h2 =>
  cases h2
  obtain ⟨eh, ud, e1, e2, e3, e4, e5, e6⟩ := bE E hi
  obtain ⟨O4, VE, g1, g2, g3, g4, g5, g6⟩ := bE E hj
  rw [Oe] at g5
  have := iK g5
  subst this
  have yD := hk
  rw [hk] at e5
  obtain ⟨ie, ue, rfl, f1, f2, f3, f4, f5, f6⟩ := ca e5
  cases h1
  have cU : (⟨⟨bs⟩⟩ : ByteArray).size = bs.length := rfl
  have hlen : (bs.map n8).length = bs.length := List.length_map _
  have lf : (⟨[cx, .string ⟨⟨bs⟩⟩]⟩ : Array Value) = #[cx, .string ⟨⟨bs⟩⟩] := rfl
  have fK : (Lib.strCells ⟨⟨bs⟩⟩).length = bs.length := Lib.strCells_length _
  refine gn h (cx := cx) (cy := .string ⟨⟨bs⟩⟩) (us := Lib.strCells ⟨⟨bs⟩⟩) (t := t) (u := u) (fun hh => ?_) yD vp hz j9 f1 f2 f3 f6 h0 (fun zc jV => ?_) ?_ (s7 bs) (Lib.strCells_oneCell _) (by rw [fK, hlen, Nat.mul_one]) ha
  · rw [hx]
    simp only [builtin, lf, Sem.run_bind, hh, Result.andThen_ok, Sem.run_pure]
  · rw [hlen]
    refine ⟨fun hn base len cap yB => ?_, fun hh xu xw => ?_, fun _ b sLen dx qh s6 DG hg xu xw => Lib.run_append_grow_string (P := E.P) w t u o.type elem ie zc e2 g2 f1 jV b sLen dx qh s6 DG ⟨⟨bs⟩⟩ hg xu xw, fun _ g k sLen dx cur hg cz lm => ?_⟩
    · have hb : bs = [] := List.eq_nil_of_length_eq_zero hn
      subst hb
      have VF : (⟨⟨[]⟩⟩ : ByteArray).size = 0 := rfl
      simp [VF, Builtin.append_, run_underlying e2, run_underlying g2, run_sizeOf w f1, Builtin.lenOf, Builtin.firstCells, yB, storeCells]
      cases base <;> simp [storeCells]
    · rw [run_append_nil_string (P := E.P) w t u o.type elem ie zc e2 g2 f1 jV ⟨⟨bs⟩⟩ hh xu xw]
      simp [Lib.strCells, cU]
    · have := kd (P := E.P) w t u o.type elem ie e2 g2 f1 f2 g k sLen dx cur hg ⟨⟨bs⟩⟩ cz (by rw [f2, Nat.mul_one, fK] at lm; exact lm)
      rw [this, f2, Nat.mul_one, fK]
      rfl
  · intro e he
    obtain ⟨b, _, rfl⟩ := List.mem_map.1 he
    exact ⟨rfl, rfl, rfl⟩
def af.s8 (R : af) (id : Nat) (ro : RO) : af := ⟨R.I, aq R.obj id .none ++ [ro]⟩
theorem kg {R : af} {id i : Nat} {r0 ro r : RO} (aR : nth R.obj id = some r0) (h : nth (R.s8 id ro).obj i = some r) : (i = id ∧ r = .none) ∨ (i ≠ id ∧ nth R.obj i = some r) ∨ (i = R.obj.length ∧ r = ro) := by
  rcases ah h with h | ⟨h1, h2⟩
  · rcases ao aR h with h | h
    · exact .inl h
    · exact .inr (.inl h)
  · refine .inr (.inr ⟨?_, h2⟩)
    rw [h1, de, List.length_set]
theorem DI {id f b c k : Nat} (ro : RO) (aR : nth R.obj id = some (.tok f b c k)) : Ext R w (R.s8 id ro) w :=
  ⟨fun _ _ h => h, fun _ _ _ => rfl, fun i r hr => by
    by_cases e : id = i
    · subst e
      rw [aR] at hr
      cases hr
      exact ⟨.none, bc (aj aR), trivial⟩
    · exact ⟨r, bc (by rw [az e]; exact hr), bF.refl r⟩, dp.refl w⟩
theorem Fp (h : aJ E R w β s a) {f : FuncId} {s' : St} (hs : AF E f s o = some (true, s')) : bj E R w β s a o s' := by
  unfold AF at hs
  split at hs
  · rename_i t x lo d ho hd
    split at hs
    · split at hs
      · rename_i i id sz es k n nw hx s6
        split at hs
        · rename_i elem esz ag kZ z f0 aQ VG hk eI
          split at hs
          · rename_i bD
            simp only [Bool.and_eq_true] at bD
            have q1 := Nat.eq_of_beq_eq_true bD.1
            have q2 := (Nat.eq_of_beq_eq_true bD.2).symm
            subst q1; subst q2
            injection hs with hs; injection hs with hc hs
            subst hs
            simp only [Bool.and_eq_true, decide_eq_true_eq] at hc
            obtain ⟨pN, bS, xd, AN⟩ := hc
            subst pN
            obtain ⟨p, rfl⟩ : ∃ p : Nat, n = (p : Int) := ⟨n.toNat, by omega⟩
            rw [Int.toNat_natCast]
            have hp : p ≤ es.length := by omega
            obtain ⟨eh, u, e1, e2, e3, e4, e5, e6⟩ := bE E nw
            rw [hk] at e5
            obtain ⟨ie, ue, rfl, f1, f2, f3, f4, f5, f6⟩ := ca e5
            have rx := aE h x
            rw [hx] at rx
            have cu : Rel R w (.list (.own id) sz es) (a.eval x) := rx
            generalize dw : a.eval x = xv at cu
            cases cu with
            | iH _ _ => simp at bS
            | @list _ _ _ b o' len cap hr hlen dA AO =>
              subst hlen
              obtain ⟨ro, aO, qK⟩ := AO
              have bg := h.g.obj id _ _ eI aO
              cases ro with
              | none => exact bg.elim
              | aK => exact qK.elim
              | bh _ => exact bg.elim
              | aG _ => exact bg.elim
              | tok f' g c k0 =>
                obtain ⟨rfl, cur, gm, k1, k3, k4, k5⟩ := bg
                obtain ⟨rfl, cD, rfl⟩ := qK.2 rfl
                have cD := cD.resolve_right (by omega)
                subst cD
                have hl : jl E s.ae (some lo) = some (some (.v (.int k (p : Int)))) := by simp [jl, s6]
                have hb : wV es.length (some (.v (.int k (p : Int)))) none = some (true, p, es.length) := by
                  have d : decide ((0 : Int) ≤ (p : Int) ∧ (p : Int) ≤ (es.length : Int)) = true := decide_eq_true (by omega)
                  simp only [wV, sA, d, Int.toNat_natCast, Bool.and_self]
                obtain ⟨r1, _, _⟩ := cO (E := E) true dA (ov h hl) (ov h (show jl E s.ae none = some none from rfl)) hb
                have aU : (execOp a.eval o).run E.P w = .ok (.value (.slice (if cap = p then some ⟨b, o', none⟩ else some ⟨b, o' + p * sz, none⟩) (es.length - p) (cap - p))) w := by
                  simp only [execOp, ho, Instr.sliceAt, Sem.run_bind, run_underlying e2, Result.andThen_ok, Instr.slice, dw, r1, run_sizeOf w f1, f2, Sem.run_pure, Option.map_some, Option.map_none, bJ] at *
                have e := DI (R := R) (w := w) (.tok (es.length - p) b (cap - p) (o' + p * sz)) aO
                have hmul : (cap - p) * sz + p * sz = cap * sz := by rw [← Nat.add_mul]; congr 1; omega
                have T0 : (es.length - p) * sz + p * sz = es.length * sz := by rw [← Nat.add_mul]; congr 1; omega
                have live : ∀ b', Live (R.s8 id (.tok (es.length - p) b (cap - p) (o' + p * sz))) b' → Live R b' := fun b' hl => by
                  obtain ⟨i, r, h1, h2⟩ := hl
                  rcases kg aO h1 with ⟨_, rfl⟩ | ⟨_, h1⟩ | ⟨_, rfl⟩
                  · exact h2.elim
                  · exact ⟨i, r, h1, h2⟩
                  · exact ⟨id, _, aO, h2⟩
                have hG : aJ E (R.s8 id (.tok (es.length - p) b (cap - p) (o' + p * sz))) w β (s.aX (aq s.G id .dead ++ [.tok (es.length - p) sz VG])) a := by
                  refine ⟨⟨by simp [St.aX, af.s8, de, h.g.len], fun i gg r h1 h2 => ?_, fun i j ri rj b' h1 h2 b1 b2 => ?_, h.g.wf, fun g cs hg => (h.g.cw g cs hg).mono e, h.g.lo⟩, h.b.bL e (fun _ _ _ => rfl) (fun _ _ _ _ hi => hi) (fun _ _ _ hl => live _ hl), h.t.mono e, h.n, h.d.mono e⟩
                  · simp only [St.aX] at h1
                    rcases kg aO h2 with ⟨rfl, rfl⟩ | ⟨A4, h2⟩ | ⟨h3, rfl⟩
                    · rw [bc (aj eI)] at h1
                      cases h1
                      trivial
                    · rcases ah h1 with h1 | ⟨h3, _⟩
                      · rw [az (Ne.symm A4)] at h1
                        exact (h.g.obj i gg r h1 h2).mono e (fun _ _ => rfl) (fun _ _ _ hi => hi)
                      · have := aM h2
                        rw [h3, de, List.length_set, h.g.len] at this
                        omega
                    · rcases ah h1 with h1 | ⟨_, rfl⟩
                      · have := aM h1
                        rw [h3, de, List.length_set, h.g.len] at this
                        omega
                      · exact ⟨rfl, cur, gm, by omega, by omega, by omega, fun o2 Xe hi => k5 o2 (by omega) hi⟩
                  · rcases kg aO h1 with ⟨_, rfl⟩ | ⟨m1, h1⟩ | ⟨m1, rfl⟩
                    · exact b1.elim
                    · rcases kg aO h2 with ⟨_, rfl⟩ | ⟨m2, h2⟩ | ⟨m2, rfl⟩
                      · exact b2.elim
                      · exact h.g.inj i j ri rj b' h1 h2 b1 b2
                      · exact absurd (h.g.inj i id ri _ b' h1 aO b1 b2) m1
                    · rcases kg aO h2 with ⟨_, rfl⟩ | ⟨m2, h2⟩ | ⟨m2, rfl⟩
                      · exact b2.elim
                      · exact absurd (h.g.inj j id rj _ b' h2 aO b2 b1) m2
                      · omega
                have fb : Step R w β s.boxes (R.s8 id (.tok (es.length - p) b (cap - p) (o' + p * sz))) w β s.boxes := by
                  refine ⟨e, rfl, rfl, rfl, Nat.le_refl _, fun _ _ _ => rfl, fun b' _ ho => ?_, fun _ _ h _ _ => h⟩
                  rcases ho with ho | ho
                  · exact .inl (live b' ho)
                  · exact .inr ho
                have kD : nth (R.s8 id (.tok (es.length - p) b (cap - p) (o' + p * sz))).obj s.G.length = some (.tok (es.length - p) b (cap - p) (o' + p * sz)) := by
                  have := cY (aq R.obj id .none) (RO.tok (es.length - p) b (cap - p) (o' + p * sz))
                  rw [de, List.length_set, h.g.len, ← de] at this
                  exact this
                refine ⟨_, _, w, _, β, aU, .inl rfl, ?_, by rw [aL]; exact fb⟩
                rw [hd]
                refine hG.put (some d) (x := .v (.list (.own s.G.length) sz (es.drop p))) ?_
                by_cases H5 : cap = p
                · rw [if_pos H5]
                  have he : es.drop p = [] := List.eq_nil_of_length_eq_zero (by rw [List.length_drop]; omega)
                  exact Rel.list (by rw [he]; exact .nil) (by rw [List.length_drop]) (by omega) ⟨_, kD, Nat.le_refl _, fun _ => ⟨rfl, .inr (by omega), rfl⟩⟩
                · rw [if_neg H5]
                  exact Rel.list ((pW p hr).mono e) (by rw [List.length_drop]) (by omega) ⟨_, kD, Nat.le_refl _, fun _ => ⟨rfl, .inl rfl, rfl⟩⟩
          · cases hs
        · cases hs
      · cases hs
    · cases hs
  · cases hs
end ops
end Go.Am
