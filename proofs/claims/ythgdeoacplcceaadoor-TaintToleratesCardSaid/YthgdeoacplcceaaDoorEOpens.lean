-- written by a program of this session: what the readings at these types say
import Derived.Test.YthgdeoacplcceaaDoorERow
import Derived.Test.YthgdeoacplcceaaDoorPAllx0
namespace Go.Proofs.YthgdeoacplcceaaDoor.PAll
open Go.RowKit Go.Proofs.YthgdeoacplcceaaDoorW.PrintWords
set_option linter.unusedVariables false
def good26 (x : S26) : Prop := x.f0.size ≤ 140737488351232 ∧ x.f1.size ≤ 140737488351232
theorem opens26 : Row.Opens Tryd.prog 26 k26 good26 := fun enc w base sp held fuel cs x hx => by
  obtain ⟨xs, n, _, rfl, hl, hlen, hf⟩ := DataW.trod_struct Tryd.underlying26 hx
  match xs, hlen with
  | [y0, y1], _ =>
    have z : Tryd.prog.cellsOf 26 = 2 := by kernel_rfl
    have z0 : Tryd.prog.cellsOf 9 = 1 := by kernel_rfl
    have e0 : DataW.trod enc Tryd.prog w base sp held n 9 ((cs.drop 0).take (Tryd.prog.cellsOf 9)) = some y0 := hf 0 _ rfl
    rw [z0] at e0
    obtain ⟨a0, k0, g0⟩ := (Row.opens_string Tryd.underlying9) enc w base sp held n _ _ e0
    have z1 : Tryd.prog.cellsOf 9 = 1 := by kernel_rfl
    have e1 : DataW.trod enc Tryd.prog w base sp held n 9 ((cs.drop 1).take (Tryd.prog.cellsOf 9)) = some y1 := hf 1 _ rfl
    rw [z1] at e1
    obtain ⟨a1, k1, g1⟩ := (Row.opens_string Tryd.underlying9) enc w base sp held n _ _ e1
    refine ⟨(⟨a0, a1⟩ : S26), ?_, fun hw => ?_⟩
    · have h : (Kd.pair Kd.string Kd.string).K w (a0, a1) ((cs.drop 0).take 2) := (Row.pair_K (a := Kd.string) (b := Kd.string) (o := 0) k0 k1)
      rw [List.drop_zero, List.take_of_length_le (by rw [hl, z]; exact Nat.le_refl _)] at h
      exact h
    · have hw2 : ∀ m, m ∈ (DataW.weights Tryd.prog 9 y0.1 ++ (DataW.weights Tryd.prog 9 y1.1 ++ [])) → m ≤ reachBytes := fun m hm => hw m (by rw [List.map_cons, Row.weights_agg Tryd.underlying26]; exact hm)
      exact ⟨g0 (fun m hm => hw2 m (List.mem_append_left _ hm)), g1 (fun m hm => hw2 m (List.mem_append_right _ (List.mem_append_left _ hm)))⟩
def good28 (x : S28) : Prop := x.f0.size ≤ 140737488351232 ∧ x.f1.size ≤ 140737488351232 ∧ True
theorem opens28 : Row.Opens Tryd.prog 28 k28 good28 := fun enc w base sp held fuel cs x hx => by
  obtain ⟨xs, n, _, rfl, hl, hlen, hf⟩ := DataW.trod_struct Tryd.underlying28 hx
  match xs, hlen with
  | [y0, y1, y2], _ =>
    have z : Tryd.prog.cellsOf 28 = 3 := by kernel_rfl
    have z0 : Tryd.prog.cellsOf 9 = 1 := by kernel_rfl
    have e0 : DataW.trod enc Tryd.prog w base sp held n 9 ((cs.drop 0).take (Tryd.prog.cellsOf 9)) = some y0 := hf 0 _ rfl
    rw [z0] at e0
    obtain ⟨a0, k0, g0⟩ := (Row.opens_string Tryd.underlying9) enc w base sp held n _ _ e0
    have z1 : Tryd.prog.cellsOf 9 = 1 := by kernel_rfl
    have e1 : DataW.trod enc Tryd.prog w base sp held n 9 ((cs.drop 1).take (Tryd.prog.cellsOf 9)) = some y1 := hf 1 _ rfl
    rw [z1] at e1
    obtain ⟨a1, k1, g1⟩ := (Row.opens_string Tryd.underlying9) enc w base sp held n _ _ e1
    have z2 : Tryd.prog.cellsOf 4 = 1 := by kernel_rfl
    have e2 : DataW.trod enc Tryd.prog w base sp held n 4 ((cs.drop 2).take (Tryd.prog.cellsOf 4)) = some y2 := hf 2 _ rfl
    rw [z2] at e2
    obtain ⟨a2, k2, g2⟩ := (Row.opens_bool Tryd.underlying4) enc w base sp held n _ _ e2
    refine ⟨(⟨a0, a1, a2⟩ : S28), ?_, fun hw => ?_⟩
    · have h : (Kd.pair Kd.string (Kd.pair Kd.string Kd.bool)).K w (a0, (a1, a2)) ((cs.drop 0).take 3) := (Row.pair_K (a := Kd.string) (b := (Kd.pair Kd.string Kd.bool)) (o := 0) k0 (Row.pair_K (a := Kd.string) (b := Kd.bool) (o := 1) k1 k2))
      rw [List.drop_zero, List.take_of_length_le (by rw [hl, z]; exact Nat.le_refl _)] at h
      exact h
    · have hw2 : ∀ m, m ∈ (DataW.weights Tryd.prog 9 y0.1 ++ (DataW.weights Tryd.prog 9 y1.1 ++ (DataW.weights Tryd.prog 4 y2.1 ++ []))) → m ≤ reachBytes := fun m hm => hw m (by rw [List.map_cons, Row.weights_agg Tryd.underlying28]; exact hm)
      exact ⟨g0 (fun m hm => hw2 m (List.mem_append_left _ hm)), g1 (fun m hm => hw2 m (List.mem_append_right _ (List.mem_append_left _ hm))), g2 (fun m hm => hw2 m (List.mem_append_right _ (List.mem_append_right _ (List.mem_append_left _ hm))))⟩
end Go.Proofs.YthgdeoacplcceaaDoor.PAll
