-- written by a program of this session: what the readings at these types say
import Derived.Test.YtiodidhbkgnicaaERow
import Derived.Test.YtiodidhbkgnicaaPAllx0
namespace Go.Proofs.Ytiodidhbkgnicaa.PAll
open Go.RowKit Go.Proofs.YtiodidhbkgnicaaW.PrintWords
set_option linter.unusedVariables false
def good23 (x : S23) : Prop := x.f0.size ≤ 140737488351232 ∧ x.f1.size ≤ 140737488351232 ∧ x.f2.size ≤ 140737488351232
theorem opens23 : Row.Opens Try.prog 23 k23 good23 := fun enc w base sp held fuel cs x hx => by
  obtain ⟨xs, n, _, rfl, hl, hlen, hf⟩ := DataW.trod_struct Try.underlying23 hx
  match xs, hlen with
  | [y0, y1, y2], _ =>
    have z : Try.prog.cellsOf 23 = 3 := by kernel_rfl
    have z0 : Try.prog.cellsOf 9 = 1 := by kernel_rfl
    have e0 : DataW.trod enc Try.prog w base sp held n 9 ((cs.drop 0).take (Try.prog.cellsOf 9)) = some y0 := hf 0 _ rfl
    rw [z0] at e0
    obtain ⟨a0, k0, g0⟩ := (Row.opens_string Try.underlying9) enc w base sp held n _ _ e0
    have z1 : Try.prog.cellsOf 9 = 1 := by kernel_rfl
    have e1 : DataW.trod enc Try.prog w base sp held n 9 ((cs.drop 1).take (Try.prog.cellsOf 9)) = some y1 := hf 1 _ rfl
    rw [z1] at e1
    obtain ⟨a1, k1, g1⟩ := (Row.opens_string Try.underlying9) enc w base sp held n _ _ e1
    have z2 : Try.prog.cellsOf 9 = 1 := by kernel_rfl
    have e2 : DataW.trod enc Try.prog w base sp held n 9 ((cs.drop 2).take (Try.prog.cellsOf 9)) = some y2 := hf 2 _ rfl
    rw [z2] at e2
    obtain ⟨a2, k2, g2⟩ := (Row.opens_string Try.underlying9) enc w base sp held n _ _ e2
    refine ⟨(⟨a0, a1, a2⟩ : S23), ?_, fun hw => ?_⟩
    · have h : (Kd.pair Kd.string (Kd.pair Kd.string Kd.string)).K w (a0, (a1, a2)) ((cs.drop 0).take 3) := (Row.pair_K (a := Kd.string) (b := (Kd.pair Kd.string Kd.string)) (o := 0) k0 (Row.pair_K (a := Kd.string) (b := Kd.string) (o := 1) k1 k2))
      rw [List.drop_zero, List.take_of_length_le (by rw [hl, z]; exact Nat.le_refl _)] at h
      exact h
    · have hw2 : ∀ m, m ∈ (DataW.weights Try.prog 9 y0.1 ++ (DataW.weights Try.prog 9 y1.1 ++ (DataW.weights Try.prog 9 y2.1 ++ []))) → m ≤ reachBytes := fun m hm => hw m (by rw [List.map_cons, Row.weights_agg Try.underlying23]; exact hm)
      exact ⟨g0 (fun m hm => hw2 m (List.mem_append_left _ hm)), g1 (fun m hm => hw2 m (List.mem_append_right _ (List.mem_append_left _ hm))), g2 (fun m hm => hw2 m (List.mem_append_right _ (List.mem_append_right _ (List.mem_append_left _ hm))))⟩
def good25 (x : S25) : Prop := good23 x.f0 ∧ (Lit.int .i64 x.f1).wf = true
theorem opens25 : Row.Opens Try.prog 25 k25 good25 := fun enc w base sp held fuel cs x hx => by
  obtain ⟨xs, n, _, rfl, hl, hlen, hf⟩ := DataW.trod_struct Try.underlying25 hx
  match xs, hlen with
  | [y0, y1], _ =>
    have z : Try.prog.cellsOf 25 = 4 := by kernel_rfl
    have z0 : Try.prog.cellsOf 23 = 3 := by kernel_rfl
    have e0 : DataW.trod enc Try.prog w base sp held n 23 ((cs.drop 0).take (Try.prog.cellsOf 23)) = some y0 := hf 0 _ rfl
    rw [z0] at e0
    obtain ⟨a0, k0, g0⟩ := opens23 enc w base sp held n _ _ e0
    have z1 : Try.prog.cellsOf 2 = 1 := by kernel_rfl
    have e1 : DataW.trod enc Try.prog w base sp held n 2 ((cs.drop 3).take (Try.prog.cellsOf 2)) = some y1 := hf 1 _ rfl
    rw [z1] at e1
    obtain ⟨a1, k1, g1⟩ := (Row.opens_int Try.underlying2) enc w base sp held n _ _ e1
    refine ⟨(⟨a0, a1⟩ : S25), ?_, fun hw => ?_⟩
    · have h : (Kd.pair k23 (Kd.int .i64)).K w (a0, a1) ((cs.drop 0).take 4) := (Row.pair_K (a := k23) (b := (Kd.int .i64)) (o := 0) k0 k1)
      rw [List.drop_zero, List.take_of_length_le (by rw [hl, z]; exact Nat.le_refl _)] at h
      exact h
    · have hw2 : ∀ m, m ∈ (DataW.weights Try.prog 23 y0.1 ++ (DataW.weights Try.prog 2 y1.1 ++ [])) → m ≤ reachBytes := fun m hm => hw m (by rw [List.map_cons, Row.weights_agg Try.underlying25]; exact hm)
      exact ⟨g0 (fun m hm => hw2 m (List.mem_append_left _ hm)), g1 (fun m hm => hw2 m (List.mem_append_right _ (List.mem_append_left _ hm)))⟩
def good43 (x : ((List S25) × S25 × S23 × Int × Int)) : Prop := (x.1.length * 56 ≤ 140737488351232 ∧ ∀ y_ ∈ x.1, good25 y_) ∧ good25 x.2.1 ∧ good23 x.2.2.1 ∧ (Lit.int .i64 x.2.2.2.1).wf = true ∧ (Lit.int .i64 x.2.2.2.2).wf = true
theorem opens43 : Row.Opens Try.prog 43 (Kd.pair (Kd.slice 25 k25) (Kd.pair k25 (Kd.pair k23 (Kd.pair (Kd.int .i64) (Kd.int .i64))))) good43 := fun enc w base sp held fuel cs x hx => by
  obtain ⟨xs, n, _, rfl, hl, hlen, hf⟩ := DataW.trod_struct Try.underlying43 hx
  match xs, hlen with
  | [y0, y1, y2, y3, y4], _ =>
    have z : Try.prog.cellsOf 43 = 10 := by kernel_rfl
    have z0 : Try.prog.cellsOf 29 = 1 := by kernel_rfl
    have e0 : DataW.trod enc Try.prog w base sp held n 29 ((cs.drop 0).take (Try.prog.cellsOf 29)) = some y0 := hf 0 _ rfl
    rw [z0] at e0
    obtain ⟨a0, k0, g0⟩ := (Row.opens_slice (B := 56) Try.underlying29 (by kernel_rfl) (by kernel_rfl) opens25) enc w base sp held n _ _ e0
    have z1 : Try.prog.cellsOf 25 = 4 := by kernel_rfl
    have e1 : DataW.trod enc Try.prog w base sp held n 25 ((cs.drop 1).take (Try.prog.cellsOf 25)) = some y1 := hf 1 _ rfl
    rw [z1] at e1
    obtain ⟨a1, k1, g1⟩ := opens25 enc w base sp held n _ _ e1
    have z2 : Try.prog.cellsOf 23 = 3 := by kernel_rfl
    have e2 : DataW.trod enc Try.prog w base sp held n 23 ((cs.drop 5).take (Try.prog.cellsOf 23)) = some y2 := hf 2 _ rfl
    rw [z2] at e2
    obtain ⟨a2, k2, g2⟩ := opens23 enc w base sp held n _ _ e2
    have z3 : Try.prog.cellsOf 2 = 1 := by kernel_rfl
    have e3 : DataW.trod enc Try.prog w base sp held n 2 ((cs.drop 8).take (Try.prog.cellsOf 2)) = some y3 := hf 3 _ rfl
    rw [z3] at e3
    obtain ⟨a3, k3, g3⟩ := (Row.opens_int Try.underlying2) enc w base sp held n _ _ e3
    have z4 : Try.prog.cellsOf 2 = 1 := by kernel_rfl
    have e4 : DataW.trod enc Try.prog w base sp held n 2 ((cs.drop 9).take (Try.prog.cellsOf 2)) = some y4 := hf 4 _ rfl
    rw [z4] at e4
    obtain ⟨a4, k4, g4⟩ := (Row.opens_int Try.underlying2) enc w base sp held n _ _ e4
    refine ⟨(⟨a0, a1, a2, a3, a4⟩ : ((List S25) × S25 × S23 × Int × Int)), ?_, fun hw => ?_⟩
    · have h : (Kd.pair (Kd.slice 25 k25) (Kd.pair k25 (Kd.pair k23 (Kd.pair (Kd.int .i64) (Kd.int .i64))))).K w (a0, (a1, (a2, (a3, a4)))) ((cs.drop 0).take 10) := (Row.pair_K (a := (Kd.slice 25 k25)) (b := (Kd.pair k25 (Kd.pair k23 (Kd.pair (Kd.int .i64) (Kd.int .i64))))) (o := 0) k0 (Row.pair_K (a := k25) (b := (Kd.pair k23 (Kd.pair (Kd.int .i64) (Kd.int .i64)))) (o := 1) k1 (Row.pair_K (a := k23) (b := (Kd.pair (Kd.int .i64) (Kd.int .i64))) (o := 5) k2 (Row.pair_K (a := (Kd.int .i64)) (b := (Kd.int .i64)) (o := 8) k3 k4))))
      rw [List.drop_zero, List.take_of_length_le (by rw [hl, z]; exact Nat.le_refl _)] at h
      exact h
    · have hw2 : ∀ m, m ∈ (DataW.weights Try.prog 29 y0.1 ++ (DataW.weights Try.prog 25 y1.1 ++ (DataW.weights Try.prog 23 y2.1 ++ (DataW.weights Try.prog 2 y3.1 ++ (DataW.weights Try.prog 2 y4.1 ++ []))))) → m ≤ reachBytes := fun m hm => hw m (by rw [List.map_cons, Row.weights_agg Try.underlying43]; exact hm)
      exact ⟨g0 (fun m hm => hw2 m (List.mem_append_left _ hm)), g1 (fun m hm => hw2 m (List.mem_append_right _ (List.mem_append_left _ hm))), g2 (fun m hm => hw2 m (List.mem_append_right _ (List.mem_append_right _ (List.mem_append_left _ hm)))), g3 (fun m hm => hw2 m (List.mem_append_right _ (List.mem_append_right _ (List.mem_append_right _ (List.mem_append_left _ hm))))), g4 (fun m hm => hw2 m (List.mem_append_right _ (List.mem_append_right _ (List.mem_append_right _ (List.mem_append_right _ (List.mem_append_left _ hm))))))⟩
end Go.Proofs.Ytiodidhbkgnicaa.PAll
