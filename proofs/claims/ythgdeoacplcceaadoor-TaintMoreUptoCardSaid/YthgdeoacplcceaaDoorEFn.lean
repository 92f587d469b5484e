import Derived.Test.YthgdeoacplcceaaDoorPAllx0
namespace Go.Proofs.YthgdeoacplcceaaDoor.PAll
open Go.RowKit Go.Proofs.YthgdeoacplcceaaDoorW.PrintWords Go.Proofs.YthgdeoacplcceaaDoorW.PrintLast Go.Proofs.YthgdeoacplcceaaDoorW.PrintMore
set_option linter.unusedVariables false
set_option linter.unusedSimpArgs false

def idxOf {α : Type} (pr : α → Bool) (l : List α) : Int := match l.findIdx? pr with | some i => (i : Int) | none => -1
theorem idx_none {α : Type} {pr : α → Bool} {l : List α} (h : ∀ j, (hj : j < l.length) → pr l[j] = false) : idxOf pr l = -1 := by
  unfold idxOf
  rw [List.findIdx?_eq_none_iff.2 (fun x hx => by
    obtain ⟨j, hj, rfl⟩ := List.getElem_of_mem hx
    exact h j hj)]
theorem idx_some {α : Type} {pr : α → Bool} {l : List α} {i : Nat} (hi : i < l.length) (h : ∀ j, (hj : j < l.length) → j < i → pr l[j] = false) (hp : pr l[i] = true) : idxOf pr l = (i : Int) := by
  unfold idxOf
  rw [List.findIdx?_eq_some_iff_getElem.2 ⟨hi, hp, fun j hj => by rw [h j (by omega) hj]; decide⟩]
theorem idx_any {α : Type} (pr : α → Bool) (l : List α) : decide (0 ≤ idxOf pr l) = l.any pr := by
  unfold idxOf
  cases h : l.findIdx? pr with
  | none =>
    have := List.findIdx?_eq_none_iff.1 h
    have h2 : l.any pr = false := by
      rw [List.any_eq_false]
      intro x hx
      rw [this x hx]
      decide
    rw [h2]
    rfl
  | some i =>
    obtain ⟨hi, hp, _⟩ := List.findIdx?_eq_some_iff_getElem.1 h
    have h2 : l.any pr = true := List.any_eq_true.2 ⟨l[i], List.getElem_mem hi, hp⟩
    rw [h2, decide_eq_true_eq]
    exact Int.natCast_nonneg i

/-! ### label -/
theorem cells_label {w : World} {A : Option Addr} {l : List S26} (h : Kd.C k26 w A l.length l) (i : Nat) (hi : i < l.length) : ∃ ad, A = some ad ∧ w.cell? (ad.add (i * 2)) = some (.string (l[i]'hi).f0) ∧ w.cell? ⟨(ad.add (i * 2)).block, (ad.add (i * 2)).off + 1, none⟩ = some (.string (l[i]'hi).f1) := by
  have h1 := at_T26 h i (by omega) (by omega)
  have h2 : rd_T26 l (i : Int) = l[i]'hi := by simp [rd_T26, List.getD_eq_getElem?_getD, hi]
  rw [h2, Int.toNat_natCast] at h1
  exact h1
set_option maxHeartbeats 1000000 in
theorem index_label (f : FuncId) (fn : Func) (hf : Tryd.prog.funcs[f]? = some fn) (hname : (fn.name == "runtime.NumGoroutine") = false) (hb : fn.body.isSome = true) (fr : Array Value) (A : Option Addr) (c : Nat) (l : List S26) (w : World)
    (hr : Kd.C k26 w A l.length l) (hl : l.length ≤ 9223372036854775806) (pr : S26 → Bool)
    (hcall : ∀ W, Below w.heap.size w W → ∀ x, Calls Tryd.prog f (#[.agg #[.string x.f0, .string x.f1]] ++ fr) W fun e W' => e = .returned (.bool (pr x)) ∧ Below W.heap.size W W') :
    Calls Tryd.prog 23 #[.slice A l.length c, .func (.func f) #[] fr] w fun e w' => e = .returned (.int .i64 (idxOf pr l)) ∧ Below w.heap.size w w' := by
  have HR := Aside0.mk hr
  have HCA := Aside0.mk hcall
  have HF := Aside0.mk hf
  have HN := Aside0.mk hname
  have HB0 := Aside0.mk hb
  have hu := Tryd.underlying26
  clear hr hcall hf hname hb
  go_enter Tryd.func23, Tryd.ntmps23
  go_wp2
  go_loopg [8] l.length (fun k v w' => ∃ i : Nat, v = .int .i64 i ∧ i + k = l.length ∧ Aside0 (∀ j, (hj : j < l.length) → j < i → pr l[j] = false) ∧ Aside0 (Below w.heap.size w w'))
  case atStart => exact ⟨0, rfl, by omega, ⟨fun j hj h0 => absurd h0 (by omega)⟩, ⟨Below.refl _ _⟩⟩
  case round =>
    obtain ⟨i, rfl, hik, HA, HB⟩ := hrel
    by_cases hlt : i < l.length
    · obtain ⟨ad, rfl, h0, h1⟩ := cells_label HR.out i hlt
      have up : ∀ {a : Addr} {v : Value}, w.cell? a = some v → wr.cell? a = some v := fun {a v} h => (HB.out.cell (World.block_lt_of_cell? w _ h)).trans h
      replace h0 := up h0
      replace h1 := up h1
      clear up
      obtain ⟨x, hx⟩ : ∃ x, x = l[i] := ⟨_, rfl⟩
      rw [← hx] at h0 h1
      have hcx := HCA.out wr HB.out x
      have HX := Aside0.mk hx
      clear hx
      cases hp : pr x with
      | true =>
        rw [hp] at hcx
        have HC := Aside0.mk hcx
        have hres : idxOf pr l = (i : Int) := idx_some hlt HA.out (by rw [← HX.out]; exact hp)
        have HRES := Aside0.mk hres
        clear hcx hp hres
        go_wp2_with ((with_reducible refine gate_dst (N := 16) rfl ?_); (refine goesLC_ (some 16) rfl rfl (t := 11) fr HF.out HN.out HB0.out #[.agg #[.string x.f0, .string x.f1]] rfl (by simp only [List.map_toArray, List.map_cons, List.map_nil]; rfl) rfl ?_); refine HC.out.mono ?_; rintro e w3 ⟨rfl, hb3⟩; refine ⟨_, rfl, ?_⟩; have HB3 := Aside0.mk (below_step HB.out hb3); clear hb3)
        go_ret
        exact ⟨by rw [HRES.out]; rfl, HB3.out⟩
      | false =>
        rw [hp] at hcx
        have HC := Aside0.mk hcx
        have HA2 : Aside0 (∀ j, (hj : j < l.length) → j < i + 1 → pr l[j] = false) := ⟨fun j hj hji => by
          rcases Nat.lt_or_ge j i with h1 | h1
          · exact HA.out j hj h1
          · obtain rfl : j = i := by omega
            rw [← HX.out]
            exact hp⟩
        clear hcx hp
        go_wp2_with ((with_reducible refine gate_dst (N := 16) rfl ?_); (refine goesLC_ (some 16) rfl rfl (t := 11) fr HF.out HN.out HB0.out #[.agg #[.string x.f0, .string x.f1]] rfl (by simp only [List.map_toArray, List.map_cons, List.map_nil]; rfl) rfl ?_); refine HC.out.mono ?_; rintro e w3 ⟨rfl, hb3⟩; refine ⟨_, rfl, ?_⟩; have HB3 := Aside0.mk (below_step HB.out hb3); clear hb3)
        go_roundg (gk - 1)
        case measure => omega
        case rel => exact ⟨i + 1, by go_num, by omega, HA2, HB3⟩
    · have hil : i = l.length := by omega
      have hres : idxOf pr l = -1 := idx_none (fun j hj => HA.out j hj (by omega))
      have HRES := Aside0.mk hres
      clear hres
      go_wp2
      go_ret
      exact ⟨by rw [HRES.out]; rfl, HB.out⟩
theorem contains_label (f : FuncId) (fn : Func) (hf : Tryd.prog.funcs[f]? = some fn) (hname : (fn.name == "runtime.NumGoroutine") = false) (hb : fn.body.isSome = true) (fr : Array Value) (A : Option Addr) (c : Nat) (l : List S26) (w : World)
    (hr : Kd.C k26 w A l.length l) (hl : l.length ≤ 9223372036854775806) (pr : S26 → Bool)
    (hcall : ∀ W, Below w.heap.size w W → ∀ x, Calls Tryd.prog f (#[.agg #[.string x.f0, .string x.f1]] ++ fr) W fun e W' => e = .returned (.bool (pr x)) ∧ Below W.heap.size W W') :
    Calls Tryd.prog 18 #[.slice A l.length c, .func (.func f) #[] fr] w fun e w' => e = .returned (.bool (l.any pr)) ∧ Below w.heap.size w w' := by
  have HI := Aside0.mk (index_label f fn hf hname hb fr A c l w hr hl pr hcall)
  have HE := Aside0.mk (idx_any pr l)
  clear hr hcall hf hname hb
  generalize idxOf pr l = r at HI HE
  go_enter Tryd.func18, Tryd.ntmps18
  go_wp2_with (go_at_call 23; refine HI.out.mono ?_; rintro e w2 ⟨rfl, hb2⟩; have HB2 := Aside0.mk hb2; clear hb2)
  all_goals
    go_ret
    exact ⟨by first | (rw [← HE.out]; done) | (rw [← HE.out]; rfl) | (rw [← HE.out]; simp [*]), HB2.out⟩

/-! ### tol -/
theorem cells_tol {w : World} {A : Option Addr} {l : List S28} (h : Kd.C k28 w A l.length l) (i : Nat) (hi : i < l.length) : ∃ ad, A = some ad ∧ w.cell? (ad.add (i * 3)) = some (.string (l[i]'hi).f0) ∧ w.cell? ⟨(ad.add (i * 3)).block, (ad.add (i * 3)).off + 1, none⟩ = some (.string (l[i]'hi).f1) ∧ w.cell? ⟨(ad.add (i * 3)).block, (ad.add (i * 3)).off + 2, none⟩ = some (.bool (l[i]'hi).f2) := by
  have h1 := at_T28 h i (by omega) (by omega)
  have h2 : rd_T28 l (i : Int) = l[i]'hi := by simp [rd_T28, List.getD_eq_getElem?_getD, hi]
  rw [h2, Int.toNat_natCast] at h1
  exact h1
set_option maxHeartbeats 1000000 in
theorem index_tol (f : FuncId) (fn : Func) (hf : Tryd.prog.funcs[f]? = some fn) (hname : (fn.name == "runtime.NumGoroutine") = false) (hb : fn.body.isSome = true) (fr : Array Value) (A : Option Addr) (c : Nat) (l : List S28) (w : World)
    (hr : Kd.C k28 w A l.length l) (hl : l.length ≤ 9223372036854775806) (pr : S28 → Bool)
    (hcall : ∀ W, Below w.heap.size w W → ∀ x, Calls Tryd.prog f (#[.agg #[.string x.f0, .string x.f1, .bool x.f2]] ++ fr) W fun e W' => e = .returned (.bool (pr x)) ∧ Below W.heap.size W W') :
    Calls Tryd.prog 34 #[.slice A l.length c, .func (.func f) #[] fr] w fun e w' => e = .returned (.int .i64 (idxOf pr l)) ∧ Below w.heap.size w w' := by
  have HR := Aside0.mk hr
  have HCA := Aside0.mk hcall
  have HF := Aside0.mk hf
  have HN := Aside0.mk hname
  have HB0 := Aside0.mk hb
  have hu := Tryd.underlying28
  clear hr hcall hf hname hb
  go_enter Tryd.func34, Tryd.ntmps34
  go_wp2
  go_loopg [8] l.length (fun k v w' => ∃ i : Nat, v = .int .i64 i ∧ i + k = l.length ∧ Aside0 (∀ j, (hj : j < l.length) → j < i → pr l[j] = false) ∧ Aside0 (Below w.heap.size w w'))
  case atStart => exact ⟨0, rfl, by omega, ⟨fun j hj h0 => absurd h0 (by omega)⟩, ⟨Below.refl _ _⟩⟩
  case round =>
    obtain ⟨i, rfl, hik, HA, HB⟩ := hrel
    by_cases hlt : i < l.length
    · obtain ⟨ad, rfl, h0, h1, h2⟩ := cells_tol HR.out i hlt
      have up : ∀ {a : Addr} {v : Value}, w.cell? a = some v → wr.cell? a = some v := fun {a v} h => (HB.out.cell (World.block_lt_of_cell? w _ h)).trans h
      replace h0 := up h0
      replace h1 := up h1
      replace h2 := up h2
      clear up
      obtain ⟨x, hx⟩ : ∃ x, x = l[i] := ⟨_, rfl⟩
      rw [← hx] at h0 h1 h2
      have hcx := HCA.out wr HB.out x
      have HX := Aside0.mk hx
      clear hx
      cases hp : pr x with
      | true =>
        rw [hp] at hcx
        have HC := Aside0.mk hcx
        have hres : idxOf pr l = (i : Int) := idx_some hlt HA.out (by rw [← HX.out]; exact hp)
        have HRES := Aside0.mk hres
        clear hcx hp hres
        go_wp2_with ((with_reducible refine gate_dst (N := 16) rfl ?_); (refine goesLC_ (some 16) rfl rfl (t := 11) fr HF.out HN.out HB0.out #[.agg #[.string x.f0, .string x.f1, .bool x.f2]] rfl (by simp only [List.map_toArray, List.map_cons, List.map_nil]; rfl) rfl ?_); refine HC.out.mono ?_; rintro e w3 ⟨rfl, hb3⟩; refine ⟨_, rfl, ?_⟩; have HB3 := Aside0.mk (below_step HB.out hb3); clear hb3)
        go_ret
        exact ⟨by rw [HRES.out]; rfl, HB3.out⟩
      | false =>
        rw [hp] at hcx
        have HC := Aside0.mk hcx
        have HA2 : Aside0 (∀ j, (hj : j < l.length) → j < i + 1 → pr l[j] = false) := ⟨fun j hj hji => by
          rcases Nat.lt_or_ge j i with h1 | h1
          · exact HA.out j hj h1
          · obtain rfl : j = i := by omega
            rw [← HX.out]
            exact hp⟩
        clear hcx hp
        go_wp2_with ((with_reducible refine gate_dst (N := 16) rfl ?_); (refine goesLC_ (some 16) rfl rfl (t := 11) fr HF.out HN.out HB0.out #[.agg #[.string x.f0, .string x.f1, .bool x.f2]] rfl (by simp only [List.map_toArray, List.map_cons, List.map_nil]; rfl) rfl ?_); refine HC.out.mono ?_; rintro e w3 ⟨rfl, hb3⟩; refine ⟨_, rfl, ?_⟩; have HB3 := Aside0.mk (below_step HB.out hb3); clear hb3)
        go_roundg (gk - 1)
        case measure => omega
        case rel => exact ⟨i + 1, by go_num, by omega, HA2, HB3⟩
    · have hil : i = l.length := by omega
      have hres : idxOf pr l = -1 := idx_none (fun j hj => HA.out j hj (by omega))
      have HRES := Aside0.mk hres
      clear hres
      go_wp2
      go_ret
      exact ⟨by rw [HRES.out]; rfl, HB.out⟩
theorem contains_tol (f : FuncId) (fn : Func) (hf : Tryd.prog.funcs[f]? = some fn) (hname : (fn.name == "runtime.NumGoroutine") = false) (hb : fn.body.isSome = true) (fr : Array Value) (A : Option Addr) (c : Nat) (l : List S28) (w : World)
    (hr : Kd.C k28 w A l.length l) (hl : l.length ≤ 9223372036854775806) (pr : S28 → Bool)
    (hcall : ∀ W, Below w.heap.size w W → ∀ x, Calls Tryd.prog f (#[.agg #[.string x.f0, .string x.f1, .bool x.f2]] ++ fr) W fun e W' => e = .returned (.bool (pr x)) ∧ Below W.heap.size W W') :
    Calls Tryd.prog 29 #[.slice A l.length c, .func (.func f) #[] fr] w fun e w' => e = .returned (.bool (l.any pr)) ∧ Below w.heap.size w w' := by
  have HI := Aside0.mk (index_tol f fn hf hname hb fr A c l w hr hl pr hcall)
  have HE := Aside0.mk (idx_any pr l)
  clear hr hcall hf hname hb
  generalize idxOf pr l = r at HI HE
  go_enter Tryd.func29, Tryd.ntmps29
  go_wp2_with (go_at_call 34; refine HI.out.mono ?_; rintro e w2 ⟨rfl, hb2⟩; have HB2 := Aside0.mk hb2; clear hb2)
  all_goals
    go_ret
    exact ⟨by first | (rw [← HE.out]; done) | (rw [← HE.out]; rfl) | (rw [← HE.out]; simp [*]), HB2.out⟩
end Go.Proofs.YthgdeoacplcceaaDoor.PAll
