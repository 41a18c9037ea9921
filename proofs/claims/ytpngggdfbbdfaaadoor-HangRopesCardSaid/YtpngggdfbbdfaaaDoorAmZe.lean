/- The abstract machine: a law's row out of what its function computes. -/
import Derived.Test.YtpngggdfbbdfaaaDoorAmZd
import Derived.Below
import Derived.ChangeSame
import Derived.Carry
import Derived.RowKit
set_option linter.all false
namespace Go.Am
open Go Go.RowKit Go.WideShapes Go.ChangeShapes

section
variable {H : Type} {enc : TypeId × Value → H} {P : Program}

theorem post_below {f : Func} {s : ChangeSpec} {apart fresh handsOn again : Bool} {W W' : World} {args : Array Value} {v : Value} {ds gs : List (DataW H)} {before pa pv : List MemPlace}
    (hW : DataW.Whole enc P f.params.toList s.vars apart W args.toList ds gs before)
    (hres : ∀ (b : Nat) (sp : Nat → Bool) (hd : Bool), DataW.TrodAll enc P W' b sp hd f.resultTypes.toList (v.resultList f.resultTypes.size) (s.fn H (ds ++ gs)).results [])
    (hargs : ∀ sp : Nat → Bool, (∀ p ∈ before, sp p.block = true) → DataW.TrodAll enc P W' 0 sp true f.params.toList args.toList (s.fn H (ds ++ gs)).args pa)
    (hvars : ∀ sp : Nat → Bool, (∀ p ∈ before, sp p.block = true) → DataW.TrodVars enc P W' sp s.vars (s.fn H (ds ++ gs)).vars pv)
    (hps : before = pa ++ pv) (hb : Below W.heap.size W W')
    (hok : ∀ (j : Nat) (t : TypeId) (r : Value), f.resultTypes[j]? = some t → (v.resultList f.resultTypes.size)[j]? = some r → Value.okWide P W' .any 0 t r) :
    s.post enc P f apart fresh handsOn again W args v W' := by
  have hlt : ∀ p ∈ before, p.block < W.heap.size := fun p hp => hW.lt p hp
  have hold : ∀ p ∈ before, (fun b => decide (b < W.heap.size)) p.block = true := fun p hp => by simpa using hlt p hp
  refine ⟨ds, gs, before, [], pa, pv, hW, hres _ _ _, hargs _ hold, hvars _ hold, World.keptBut_mono (fun p hp => ⟨hp, ?_⟩) (hb.frame (· ∈ before)), fun _ => ?_⟩
  · rw [hps, List.mem_append] at hp
    exact Or.inr hp
  · obtain ⟨_, _, _, _, _, hz, hn⟩ := hW
    refine ⟨hok, _, _, ([] ++ pa) ++ pv, ⟨[] ++ pa, pv, trodAll_append (hargs _ (fun _ _ => rfl)) (hres _ _ _), hvars _ (fun _ _ => rfl), rfl, ?_, ?_⟩, ?_⟩
    · intro b off hp
      have hin : MemPlace.cell b off ∈ before := by rw [hps]; simpa using hp
      rw [hb.frozen (hlt _ hin)]
      exact hz b off hin
    · intro ha
      have := hn ha
      rw [hps] at this
      simpa using this
    · intro p hp _
      rw [hps]
      simpa using hp

theorem trodAll_stays (hl : laidOutB P = true) {W W' : World} (hb : Below W.heap.size W W') {sp : Nat → Bool} : ∀ {ts : List TypeId} {vs : List Value} {ds : List (DataW H)} {pl : List MemPlace},
    (∀ t ∈ ts, P.readableRec t = true ∧ t < P.types.size) → DataW.TrodAll enc P W 0 (fun _ => true) true ts vs ds pl → (∀ p ∈ pl, p.block < W.heap.size) → (∀ p ∈ pl, sp p.block = true) →
    DataW.TrodAll enc P W' 0 sp true ts vs ds pl
  | [], [], [], _, _, h, _, _ => h
  | t :: ts, v :: vs, d :: ds, pl, hr, h, hlt, hsp => by
    obtain ⟨p, q, h1, h2, rfl⟩ := h
    refine ⟨p, q, ?_, trodAll_stays hl hb (fun t ht => hr t (by simp [ht])) h2 (fun x hx => hlt x (by simp [hx])) (fun x hx => hsp x (by simp [hx])), rfl⟩
    exact WideElems.Trod_stays hl (hr t (by simp)).1 (hr t (by simp)).2 h1 (fun x hx => hb.same (hlt x (by simp [hx]))) (fun x hx => hsp x (by simp [hx]))
  | [], [], _ :: _, _, _, h, _, _ => h.elim
  | [], _ :: _, _, _, _, h, _, _ => h.elim
  | _ :: _, [], _, _, _, h, _, _ => h.elim
  | _ :: _, _ :: _, [], _, _, h, _, _ => h.elim

/-- A law that is true of all leaves. -/
theorem law_calls {E : Env} {f : FuncId} {fn : Func} {s : ChangeSpec} {ps : List Pat} {apart fresh handsOn again : Bool} {W : World} {base : Nat} {args : Array Value} {ds gs : List (DataW H)} {before : List MemPlace} {n tb : Nat}
    (hent : ∀ x, (mkPats ps).wf x → PCalls E f ((mkPats ps).enc x) (fun r => r = .bool true)) (hpat : patVs E.P n fn.params.toList = some ps)
    (hval : ∀ (j : Nat) t v, fn.params[j]? = some t → args[j]? = some v → Value.okWide E.P W .any base t v)
    (hW : DataW.Whole enc E.P fn.params.toList s.vars apart W args.toList ds gs before) (hglob : ∀ g cs, E.glob g = some cs → RelC (allR W) W g 0 cs)
    (hvars : s.vars = []) (hsp : ∀ ds : List (DataW H), ds.length = fn.params.toList.length → s.fn H ds = { results := [.lit (.bool true)], args := ds })
    (hres : fn.resultTypes = #[tb]) (hub : E.P.underlying tb = some .bool) (hl : laidOutB E.P = true) (hr : ∀ t ∈ fn.params.toList, E.P.readableRec t = true ∧ t < E.P.types.size) :
    Calls E.P f args W fun e W' => ∃ v, e = .returned v ∧ s.post enc E.P fn apart fresh handsOn again W args v W' := by
  have hW0 := hW
  obtain ⟨p, q, hA, hV, rfl, hfz, hnd⟩ := hW
  obtain ⟨rfl, rfl⟩ : gs = [] ∧ q = [] := by
    rw [hvars] at hV
    cases gs with
    | nil => exact ⟨rfl, hV⟩
    | cons g r => exact absurd hV (by intro h; cases h)
  obtain ⟨x, hx, hwf⟩ := args_rel (n := n) hpat hA (r := .any) (base' := base) (fun j t v hj hv => hval j t v (by simpa using hj) (by simpa using hv))
  have hlen : ds.length = fn.params.toList.length := by
    clear hval hfz hnd hW0 hx hwf hsp hpat hr
    revert hA
    generalize fn.params.toList = ts
    generalize args.toList = vs
    generalize p = pl
    clear p
    intro hA
    induction ts generalizing vs ds pl with
    | nil => cases vs <;> cases ds <;> first | rfl | exact hA.elim
    | cons t ts ih =>
      cases vs with
      | nil => cases ds <;> exact hA.elim
      | cons v vs =>
        cases ds with
        | nil => exact hA.elim
        | cons d ds =>
          obtain ⟨p, q, _, h2, _⟩ := hA
          simp [ih vs q h2]
  have hG : RepG E (allR W) W [] := ⟨rfl, fun id go ro h => by simp [nth] at h, fun i j ri rj b h => by simp [allR, nth] at h, fun b o h => h, hglob⟩
  have hc := (hent x hwf [])
  refine (callsIn_wide.1 (hc.2 (allR W) W args.toList hG hx)).mono fun e W' he => ?_
  cases e with
  | panicked c => exact he.elim
  | outgrown => exact he.elim
  | returned c =>
    obtain ⟨r, G', R', ⟨_, rfl⟩, hrel, _, st⟩ := he
    cases hrel
    have hb : Below W.heap.size W W' := ⟨st.os, st.tape, st.output, st.size, fun k hk => st.keep k hk fun ho => by
      obtain ⟨id, ro, h1, _⟩ := own_noBox ho
      simp [allR, nth] at h1⟩
    have hlt : ∀ y ∈ p, y.block < W.heap.size := fun y hy => by simpa using hW0.lt y (by simpa using hy)
    have e1 : s.fn H (ds ++ []) = { results := [.lit (.bool true)], args := ds } := by rw [List.append_nil]; exact hsp ds hlen
    refine ⟨_, rfl, post_below (pa := p) (pv := []) hW0 ?_ ?_ ?_ rfl hb ?_⟩
    · intro b sp hd
      rw [e1, hres]
      exact trodAll_mk1 (shut_bool hub true)
    · intro sp hsp'
      rw [e1]
      exact trodAll_stays hl hb hr hA hlt (fun y hy => hsp' y (by simpa using hy))
    · intro sp _
      rw [e1, hvars]
      rfl
    · intro j t r hj hr'
      rw [hres] at hj hr'
      cases j with
      | succ j => simp at hj
      | zero =>
        simp at hj
        subst hj
        have : r = .bool true := by simpa [Value.resultList] using hr'.symm
        subst this
        simp [Value.okWide, Cell.okWide, Cell.ok, hub]

end
end Go.Am
