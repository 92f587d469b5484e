-- written by a program of this session: what the readings at these types say
import Derived.Test.YtmankbhlgjgnbaaERow
import Derived.Test.YtmankbhlgjgnbaaPAllx0
import Derived.Test.YtmankbhlgjgnbaaPAllx90
namespace Go.Proofs.Ytmankbhlgjgnbaa.PAll
open Go.RowKit Go.Proofs.YtmankbhlgjgnbaaW.PrintWords
set_option linter.unusedVariables false
def good28 (x : S28) : Prop := (Lit.int .i64 x.f0).wf = true ∧ (Lit.int .i64 x.f1).wf = true ∧ x.f2.size ≤ 140737488351232 ∧ (Lit.int .i64 x.f3).wf = true ∧ True ∧ x.f5.size ≤ 140737488351232 ∧ (x.f6.length * 1 ≤ 140737488351232 ∧ ∀ y_ ∈ x.f6, (Lit.int .u8 y_).wf = true) ∧ True
theorem opens28 : Row.Opens Try.prog 28 k28 good28 := fun enc w base sp held fuel cs x hx => by
  obtain ⟨xs, n, _, rfl, hl, hlen, hf⟩ := DataW.trod_struct Try.underlying28 hx
  match xs, hlen with
  | [y0, y1, y2, y3, y4, y5, y6, y7], _ =>
    have z : Try.prog.cellsOf 28 = 8 := by kernel_rfl
    have z0 : Try.prog.cellsOf 3 = 1 := by kernel_rfl
    have e0 : DataW.trod enc Try.prog w base sp held n 3 ((cs.drop 0).take (Try.prog.cellsOf 3)) = some y0 := hf 0 _ rfl
    rw [z0] at e0
    obtain ⟨a0, k0, g0⟩ := (Row.opens_int Try.underlying3) enc w base sp held n _ _ e0
    have z1 : Try.prog.cellsOf 3 = 1 := by kernel_rfl
    have e1 : DataW.trod enc Try.prog w base sp held n 3 ((cs.drop 1).take (Try.prog.cellsOf 3)) = some y1 := hf 1 _ rfl
    rw [z1] at e1
    obtain ⟨a1, k1, g1⟩ := (Row.opens_int Try.underlying3) enc w base sp held n _ _ e1
    have z2 : Try.prog.cellsOf 9 = 1 := by kernel_rfl
    have e2 : DataW.trod enc Try.prog w base sp held n 9 ((cs.drop 2).take (Try.prog.cellsOf 9)) = some y2 := hf 2 _ rfl
    rw [z2] at e2
    obtain ⟨a2, k2, g2⟩ := (Row.opens_string Try.underlying9) enc w base sp held n _ _ e2
    have z3 : Try.prog.cellsOf 2 = 1 := by kernel_rfl
    have e3 : DataW.trod enc Try.prog w base sp held n 2 ((cs.drop 3).take (Try.prog.cellsOf 2)) = some y3 := hf 3 _ rfl
    rw [z3] at e3
    obtain ⟨a3, k3, g3⟩ := (Row.opens_int Try.underlying2) enc w base sp held n _ _ e3
    have z4 : Try.prog.cellsOf 4 = 1 := by kernel_rfl
    have e4 : DataW.trod enc Try.prog w base sp held n 4 ((cs.drop 4).take (Try.prog.cellsOf 4)) = some y4 := hf 4 _ rfl
    rw [z4] at e4
    obtain ⟨a4, k4, g4⟩ := (Row.opens_bool Try.underlying4) enc w base sp held n _ _ e4
    have z5 : Try.prog.cellsOf 9 = 1 := by kernel_rfl
    have e5 : DataW.trod enc Try.prog w base sp held n 9 ((cs.drop 5).take (Try.prog.cellsOf 9)) = some y5 := hf 5 _ rfl
    rw [z5] at e5
    obtain ⟨a5, k5, g5⟩ := (Row.opens_string Try.underlying9) enc w base sp held n _ _ e5
    have z6 : Try.prog.cellsOf 26 = 1 := by kernel_rfl
    have e6 : DataW.trod enc Try.prog w base sp held n 26 ((cs.drop 6).take (Try.prog.cellsOf 26)) = some y6 := hf 6 _ rfl
    rw [z6] at e6
    obtain ⟨a6, k6, g6⟩ := (Row.opens_slice (B := 1) Try.underlying26 (by kernel_rfl) (by kernel_rfl) (Row.opens_int Try.underlying5)) enc w base sp held n _ _ e6
    have z7 : Try.prog.cellsOf 4 = 1 := by kernel_rfl
    have e7 : DataW.trod enc Try.prog w base sp held n 4 ((cs.drop 7).take (Try.prog.cellsOf 4)) = some y7 := hf 7 _ rfl
    rw [z7] at e7
    obtain ⟨a7, k7, g7⟩ := (Row.opens_bool Try.underlying4) enc w base sp held n _ _ e7
    refine ⟨(⟨a0, a1, a2, a3, a4, a5, a6, a7⟩ : S28), ?_, fun hw => ?_⟩
    · have h : (Kd.pair (Kd.int .i64) (Kd.pair (Kd.int .i64) (Kd.pair Kd.string (Kd.pair (Kd.int .i64) (Kd.pair Kd.bool (Kd.pair Kd.string (Kd.pair (Kd.slice 5 (Kd.int .u8)) Kd.bool))))))).K w (a0, (a1, (a2, (a3, (a4, (a5, (a6, a7))))))) ((cs.drop 0).take 8) := (Row.pair_K (a := (Kd.int .i64)) (b := (Kd.pair (Kd.int .i64) (Kd.pair Kd.string (Kd.pair (Kd.int .i64) (Kd.pair Kd.bool (Kd.pair Kd.string (Kd.pair (Kd.slice 5 (Kd.int .u8)) Kd.bool))))))) (o := 0) k0 (Row.pair_K (a := (Kd.int .i64)) (b := (Kd.pair Kd.string (Kd.pair (Kd.int .i64) (Kd.pair Kd.bool (Kd.pair Kd.string (Kd.pair (Kd.slice 5 (Kd.int .u8)) Kd.bool)))))) (o := 1) k1 (Row.pair_K (a := Kd.string) (b := (Kd.pair (Kd.int .i64) (Kd.pair Kd.bool (Kd.pair Kd.string (Kd.pair (Kd.slice 5 (Kd.int .u8)) Kd.bool))))) (o := 2) k2 (Row.pair_K (a := (Kd.int .i64)) (b := (Kd.pair Kd.bool (Kd.pair Kd.string (Kd.pair (Kd.slice 5 (Kd.int .u8)) Kd.bool)))) (o := 3) k3 (Row.pair_K (a := Kd.bool) (b := (Kd.pair Kd.string (Kd.pair (Kd.slice 5 (Kd.int .u8)) Kd.bool))) (o := 4) k4 (Row.pair_K (a := Kd.string) (b := (Kd.pair (Kd.slice 5 (Kd.int .u8)) Kd.bool)) (o := 5) k5 (Row.pair_K (a := (Kd.slice 5 (Kd.int .u8))) (b := Kd.bool) (o := 6) k6 k7)))))))
      rw [List.drop_zero, List.take_of_length_le (by rw [hl, z]; exact Nat.le_refl _)] at h
      exact h
    · have hw2 : ∀ m, m ∈ (DataW.weights Try.prog 3 y0.1 ++ (DataW.weights Try.prog 3 y1.1 ++ (DataW.weights Try.prog 9 y2.1 ++ (DataW.weights Try.prog 2 y3.1 ++ (DataW.weights Try.prog 4 y4.1 ++ (DataW.weights Try.prog 9 y5.1 ++ (DataW.weights Try.prog 26 y6.1 ++ (DataW.weights Try.prog 4 y7.1 ++ [])))))))) → m ≤ reachBytes := fun m hm => hw m (by rw [List.map_cons, Row.weights_agg Try.underlying28]; exact hm)
      exact ⟨g0 (fun m hm => hw2 m (List.mem_append_left _ hm)), g1 (fun m hm => hw2 m (List.mem_append_right _ (List.mem_append_left _ hm))), g2 (fun m hm => hw2 m (List.mem_append_right _ (List.mem_append_right _ (List.mem_append_left _ hm)))), g3 (fun m hm => hw2 m (List.mem_append_right _ (List.mem_append_right _ (List.mem_append_right _ (List.mem_append_left _ hm))))), g4 (fun m hm => hw2 m (List.mem_append_right _ (List.mem_append_right _ (List.mem_append_right _ (List.mem_append_right _ (List.mem_append_left _ hm)))))), g5 (fun m hm => hw2 m (List.mem_append_right _ (List.mem_append_right _ (List.mem_append_right _ (List.mem_append_right _ (List.mem_append_right _ (List.mem_append_left _ hm))))))), g6 (fun m hm => hw2 m (List.mem_append_right _ (List.mem_append_right _ (List.mem_append_right _ (List.mem_append_right _ (List.mem_append_right _ (List.mem_append_right _ (List.mem_append_left _ hm)))))))), g7 (fun m hm => hw2 m (List.mem_append_right _ (List.mem_append_right _ (List.mem_append_right _ (List.mem_append_right _ (List.mem_append_right _ (List.mem_append_right _ (List.mem_append_right _ (List.mem_append_left _ hm)))))))))⟩
end Go.Proofs.Ytmankbhlgjgnbaa.PAll
