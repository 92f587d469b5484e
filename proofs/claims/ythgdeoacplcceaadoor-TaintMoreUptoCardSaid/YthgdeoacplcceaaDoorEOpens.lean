-- written by a program of this session: what the readings at these types say
import Derived.Test.YthgdeoacplcceaaDoorERowU
import Derived.Test.YthgdeoacplcceaaDoorERow
import Derived.Test.YthgdeoacplcceaaDoorPAllx0
namespace Go.Proofs.YthgdeoacplcceaaDoor.PAll
open Go.RowKit Go.Proofs.YthgdeoacplcceaaDoorW.PrintWords
set_option linter.unusedVariables false
def good26 (x : S26) : Prop := x.f0.size ≤ 140737488351232 ∧ x.f1.size ≤ 140737488351232
theorem opens26 : Row.Opens Tryd.prog 26 k26 good26 := fun enc w base sp held fuel cs x hx => by
  obtain ⟨xs, n, _, rfl, hl, hlen, hf⟩ := DataW.trod_struct Tryd.underlying26 hx
  match xs, hlen with
  | [y0, y1], _ =>
    have z : Tryd.prog.cellsOf 26 = 2 := by kernel_rfl
    have z0 : Tryd.prog.cellsOf 9 = 1 := by kernel_rfl
    have e0 : DataW.trod enc Tryd.prog w base sp held n 9 ((cs.drop 0).take (Tryd.prog.cellsOf 9)) = some y0 := hf 0 _ rfl
    rw [z0] at e0
    obtain ⟨a0, k0, g0⟩ := (Row.opens_string Tryd.underlying9) enc w base sp held n _ _ e0
    have z1 : Tryd.prog.cellsOf 9 = 1 := by kernel_rfl
    have e1 : DataW.trod enc Tryd.prog w base sp held n 9 ((cs.drop 1).take (Tryd.prog.cellsOf 9)) = some y1 := hf 1 _ rfl
    rw [z1] at e1
    obtain ⟨a1, k1, g1⟩ := (Row.opens_string Tryd.underlying9) enc w base sp held n _ _ e1
    refine ⟨(⟨a0, a1⟩ : S26), ?_, fun hw => ?_⟩
    · have h : (Kd.pair Kd.string Kd.string).K w (a0, a1) ((cs.drop 0).take 2) := (Row.pair_K (a := Kd.string) (b := Kd.string) (o := 0) k0 k1)
      rw [List.drop_zero, List.take_of_length_le (by rw [hl, z]; exact Nat.le_refl _)] at h
      exact h
    · have hw2 : ∀ m, m ∈ (DataW.weights Tryd.prog 9 y0.1 ++ (DataW.weights Tryd.prog 9 y1.1 ++ [])) → m ≤ reachBytes := fun m hm => hw m (by rw [List.map_cons, Row.weights_agg Tryd.underlying26]; exact hm)
      exact ⟨g0 (fun m hm => hw2 m (List.mem_append_left _ hm)), g1 (fun m hm => hw2 m (List.mem_append_right _ (List.mem_append_left _ hm)))⟩
def good28 (x : S28) : Prop := x.f0.size ≤ 140737488351232 ∧ x.f1.size ≤ 140737488351232 ∧ True
theorem opens28 : Row.Opens Tryd.prog 28 k28 good28 := fun enc w base sp held fuel cs x hx => by
  obtain ⟨xs, n, _, rfl, hl, hlen, hf⟩ := DataW.trod_struct Tryd.underlying28 hx
  match xs, hlen with
  | [y0, y1, y2], _ =>
    have z : Tryd.prog.cellsOf 28 = 3 := by kernel_rfl
    have z0 : Tryd.prog.cellsOf 9 = 1 := by kernel_rfl
    have e0 : DataW.trod enc Tryd.prog w base sp held n 9 ((cs.drop 0).take (Tryd.prog.cellsOf 9)) = some y0 := hf 0 _ rfl
    rw [z0] at e0
    obtain ⟨a0, k0, g0⟩ := (Row.opens_string Tryd.underlying9) enc w base sp held n _ _ e0
    have z1 : Tryd.prog.cellsOf 9 = 1 := by kernel_rfl
    have e1 : DataW.trod enc Tryd.prog w base sp held n 9 ((cs.drop 1).take (Tryd.prog.cellsOf 9)) = some y1 := hf 1 _ rfl
    rw [z1] at e1
    obtain ⟨a1, k1, g1⟩ := (Row.opens_string Tryd.underlying9) enc w base sp held n _ _ e1
    have z2 : Tryd.prog.cellsOf 4 = 1 := by kernel_rfl
    have e2 : DataW.trod enc Tryd.prog w base sp held n 4 ((cs.drop 2).take (Tryd.prog.cellsOf 4)) = some y2 := hf 2 _ rfl
    rw [z2] at e2
    obtain ⟨a2, k2, g2⟩ := (Row.opens_bool Tryd.underlying4) enc w base sp held n _ _ e2
    refine ⟨(⟨a0, a1, a2⟩ : S28), ?_, fun hw => ?_⟩
    · have h : (Kd.pair Kd.string (Kd.pair Kd.string Kd.bool)).K w (a0, (a1, a2)) ((cs.drop 0).take 3) := (Row.pair_K (a := Kd.string) (b := (Kd.pair Kd.string Kd.bool)) (o := 0) k0 (Row.pair_K (a := Kd.string) (b := Kd.bool) (o := 1) k1 k2))
      rw [List.drop_zero, List.take_of_length_le (by rw [hl, z]; exact Nat.le_refl _)] at h
      exact h
    · have hw2 : ∀ m, m ∈ (DataW.weights Tryd.prog 9 y0.1 ++ (DataW.weights Tryd.prog 9 y1.1 ++ (DataW.weights Tryd.prog 4 y2.1 ++ []))) → m ≤ reachBytes := fun m hm => hw m (by rw [List.map_cons, Row.weights_agg Tryd.underlying28]; exact hm)
      exact ⟨g0 (fun m hm => hw2 m (List.mem_append_left _ hm)), g1 (fun m hm => hw2 m (List.mem_append_right _ (List.mem_append_left _ hm))), g2 (fun m hm => hw2 m (List.mem_append_right _ (List.mem_append_right _ (List.mem_append_left _ hm))))⟩
def good38 (x : ((List S28) × (List S28) × (List S26) × (List S26))) : Prop := (x.1.length * 40 ≤ 140737488351232 ∧ ∀ y_ ∈ x.1, good28 y_) ∧ (x.2.1.length * 40 ≤ 140737488351232 ∧ ∀ y_ ∈ x.2.1, good28 y_) ∧ (x.2.2.1.length * 32 ≤ 140737488351232 ∧ ∀ y_ ∈ x.2.2.1, good26 y_) ∧ (x.2.2.2.length * 32 ≤ 140737488351232 ∧ ∀ y_ ∈ x.2.2.2, good26 y_)
theorem opens38 : Row.Opens Tryd.prog 38 (Kd.pair (Kd.slice 28 k28) (Kd.pair (Kd.slice 28 k28) (Kd.pair (Kd.slice 26 k26) (Kd.slice 26 k26)))) good38 := fun enc w base sp held fuel cs x hx => by
  obtain ⟨xs, n, _, rfl, hl, hlen, hf⟩ := DataW.trod_struct Tryd.underlying38 hx
  match xs, hlen with
  | [y0, y1, y2, y3], _ =>
    have z : Tryd.prog.cellsOf 38 = 4 := by kernel_rfl
    have z0 : Tryd.prog.cellsOf 23 = 1 := by kernel_rfl
    have e0 : DataW.trod enc Tryd.prog w base sp held n 23 ((cs.drop 0).take (Tryd.prog.cellsOf 23)) = some y0 := hf 0 _ rfl
    rw [z0] at e0
    obtain ⟨a0, k0, g0⟩ := (Row.opens_slice (B := 40) Tryd.underlying23 (by kernel_rfl) (by kernel_rfl) opens28) enc w base sp held n _ _ e0
    have z1 : Tryd.prog.cellsOf 23 = 1 := by kernel_rfl
    have e1 : DataW.trod enc Tryd.prog w base sp held n 23 ((cs.drop 1).take (Tryd.prog.cellsOf 23)) = some y1 := hf 1 _ rfl
    rw [z1] at e1
    obtain ⟨a1, k1, g1⟩ := (Row.opens_slice (B := 40) Tryd.underlying23 (by kernel_rfl) (by kernel_rfl) opens28) enc w base sp held n _ _ e1
    have z2 : Tryd.prog.cellsOf 22 = 1 := by kernel_rfl
    have e2 : DataW.trod enc Tryd.prog w base sp held n 22 ((cs.drop 2).take (Tryd.prog.cellsOf 22)) = some y2 := hf 2 _ rfl
    rw [z2] at e2
    obtain ⟨a2, k2, g2⟩ := (Row.opens_slice (B := 32) Tryd.underlying22 (by kernel_rfl) (by kernel_rfl) opens26) enc w base sp held n _ _ e2
    have z3 : Tryd.prog.cellsOf 22 = 1 := by kernel_rfl
    have e3 : DataW.trod enc Tryd.prog w base sp held n 22 ((cs.drop 3).take (Tryd.prog.cellsOf 22)) = some y3 := hf 3 _ rfl
    rw [z3] at e3
    obtain ⟨a3, k3, g3⟩ := (Row.opens_slice (B := 32) Tryd.underlying22 (by kernel_rfl) (by kernel_rfl) opens26) enc w base sp held n _ _ e3
    refine ⟨(⟨a0, a1, a2, a3⟩ : ((List S28) × (List S28) × (List S26) × (List S26))), ?_, fun hw => ?_⟩
    · have h : (Kd.pair (Kd.slice 28 k28) (Kd.pair (Kd.slice 28 k28) (Kd.pair (Kd.slice 26 k26) (Kd.slice 26 k26)))).K w (a0, (a1, (a2, a3))) ((cs.drop 0).take 4) := (Row.pair_K (a := (Kd.slice 28 k28)) (b := (Kd.pair (Kd.slice 28 k28) (Kd.pair (Kd.slice 26 k26) (Kd.slice 26 k26)))) (o := 0) k0 (Row.pair_K (a := (Kd.slice 28 k28)) (b := (Kd.pair (Kd.slice 26 k26) (Kd.slice 26 k26))) (o := 1) k1 (Row.pair_K (a := (Kd.slice 26 k26)) (b := (Kd.slice 26 k26)) (o := 2) k2 k3)))
      rw [List.drop_zero, List.take_of_length_le (by rw [hl, z]; exact Nat.le_refl _)] at h
      exact h
    · have hw2 : ∀ m, m ∈ (DataW.weights Tryd.prog 23 y0.1 ++ (DataW.weights Tryd.prog 23 y1.1 ++ (DataW.weights Tryd.prog 22 y2.1 ++ (DataW.weights Tryd.prog 22 y3.1 ++ [])))) → m ≤ reachBytes := fun m hm => hw m (by rw [List.map_cons, Row.weights_agg Tryd.underlying38]; exact hm)
      exact ⟨g0 (fun m hm => hw2 m (List.mem_append_left _ hm)), g1 (fun m hm => hw2 m (List.mem_append_right _ (List.mem_append_left _ hm))), g2 (fun m hm => hw2 m (List.mem_append_right _ (List.mem_append_right _ (List.mem_append_left _ hm)))), g3 (fun m hm => hw2 m (List.mem_append_right _ (List.mem_append_right _ (List.mem_append_right _ (List.mem_append_left _ hm)))))⟩
def small28 (n_ : Nat) (x : S28) : Prop := x.f0.size ≤ n_ ∧ x.f1.size ≤ n_ ∧ True
theorem opensU28 : Row.OpensU Tryd.prog 28 k28 good28 small28 := fun enc w base sp held fuel cs x hx => by
  obtain ⟨xs, n, _, rfl, hl, hlen, hf⟩ := DataW.trod_struct Tryd.underlying28 hx
  match xs, hlen with
  | [y0, y1, y2], _ =>
    have z : Tryd.prog.cellsOf 28 = 3 := by kernel_rfl
    have z0 : Tryd.prog.cellsOf 9 = 1 := by kernel_rfl
    have e0 : DataW.trod enc Tryd.prog w base sp held n 9 ((cs.drop 0).take (Tryd.prog.cellsOf 9)) = some y0 := hf 0 _ rfl
    rw [z0] at e0
    obtain ⟨a0, k0, g0, u0⟩ := (Row.opens_stringU Tryd.underlying9) enc w base sp held n _ _ e0
    have z1 : Tryd.prog.cellsOf 9 = 1 := by kernel_rfl
    have e1 : DataW.trod enc Tryd.prog w base sp held n 9 ((cs.drop 1).take (Tryd.prog.cellsOf 9)) = some y1 := hf 1 _ rfl
    rw [z1] at e1
    obtain ⟨a1, k1, g1, u1⟩ := (Row.opens_stringU Tryd.underlying9) enc w base sp held n _ _ e1
    have z2 : Tryd.prog.cellsOf 4 = 1 := by kernel_rfl
    have e2 : DataW.trod enc Tryd.prog w base sp held n 4 ((cs.drop 2).take (Tryd.prog.cellsOf 4)) = some y2 := hf 2 _ rfl
    rw [z2] at e2
    obtain ⟨a2, k2, g2, u2⟩ := (Row.Opens.u (Row.opens_bool Tryd.underlying4)) enc w base sp held n _ _ e2
    refine ⟨(⟨a0, a1, a2⟩ : S28), ?_, fun hw => ?_, fun n_ hn_ => ?_⟩
    · have h : (Kd.pair Kd.string (Kd.pair Kd.string Kd.bool)).K w (a0, (a1, a2)) ((cs.drop 0).take 3) := (Row.pair_K (a := Kd.string) (b := (Kd.pair Kd.string Kd.bool)) (o := 0) k0 (Row.pair_K (a := Kd.string) (b := Kd.bool) (o := 1) k1 k2))
      rw [List.drop_zero, List.take_of_length_le (by rw [hl, z]; exact Nat.le_refl _)] at h
      exact h
    · have hw2 : ∀ m, m ∈ (DataW.weights Tryd.prog 9 y0.1 ++ (DataW.weights Tryd.prog 9 y1.1 ++ (DataW.weights Tryd.prog 4 y2.1 ++ []))) → m ≤ reachBytes := fun m hm => hw m (by rw [List.map_cons, Row.weights_agg Tryd.underlying28]; exact hm)
      exact ⟨g0 (fun m hm => hw2 m (List.mem_append_left _ hm)), g1 (fun m hm => hw2 m (List.mem_append_right _ (List.mem_append_left _ hm))), g2 (fun m hm => hw2 m (List.mem_append_right _ (List.mem_append_right _ (List.mem_append_left _ hm))))⟩
    · have hb := Row.bulk_agg hn_
      exact ⟨u0 n_ (hb _ (by simp)), u1 n_ (hb _ (by simp)), u2 n_ (hb _ (by simp))⟩
def small26 (n_ : Nat) (x : S26) : Prop := x.f0.size ≤ n_ ∧ x.f1.size ≤ n_
theorem opensU26 : Row.OpensU Tryd.prog 26 k26 good26 small26 := fun enc w base sp held fuel cs x hx => by
  obtain ⟨xs, n, _, rfl, hl, hlen, hf⟩ := DataW.trod_struct Tryd.underlying26 hx
  match xs, hlen with
  | [y0, y1], _ =>
    have z : Tryd.prog.cellsOf 26 = 2 := by kernel_rfl
    have z0 : Tryd.prog.cellsOf 9 = 1 := by kernel_rfl
    have e0 : DataW.trod enc Tryd.prog w base sp held n 9 ((cs.drop 0).take (Tryd.prog.cellsOf 9)) = some y0 := hf 0 _ rfl
    rw [z0] at e0
    obtain ⟨a0, k0, g0, u0⟩ := (Row.opens_stringU Tryd.underlying9) enc w base sp held n _ _ e0
    have z1 : Tryd.prog.cellsOf 9 = 1 := by kernel_rfl
    have e1 : DataW.trod enc Tryd.prog w base sp held n 9 ((cs.drop 1).take (Tryd.prog.cellsOf 9)) = some y1 := hf 1 _ rfl
    rw [z1] at e1
    obtain ⟨a1, k1, g1, u1⟩ := (Row.opens_stringU Tryd.underlying9) enc w base sp held n _ _ e1
    refine ⟨(⟨a0, a1⟩ : S26), ?_, fun hw => ?_, fun n_ hn_ => ?_⟩
    · have h : (Kd.pair Kd.string Kd.string).K w (a0, a1) ((cs.drop 0).take 2) := (Row.pair_K (a := Kd.string) (b := Kd.string) (o := 0) k0 k1)
      rw [List.drop_zero, List.take_of_length_le (by rw [hl, z]; exact Nat.le_refl _)] at h
      exact h
    · have hw2 : ∀ m, m ∈ (DataW.weights Tryd.prog 9 y0.1 ++ (DataW.weights Tryd.prog 9 y1.1 ++ [])) → m ≤ reachBytes := fun m hm => hw m (by rw [List.map_cons, Row.weights_agg Tryd.underlying26]; exact hm)
      exact ⟨g0 (fun m hm => hw2 m (List.mem_append_left _ hm)), g1 (fun m hm => hw2 m (List.mem_append_right _ (List.mem_append_left _ hm)))⟩
    · have hb := Row.bulk_agg hn_
      exact ⟨u0 n_ (hb _ (by simp)), u1 n_ (hb _ (by simp))⟩
def small38 (n_ : Nat) (x : ((List S28) × (List S28) × (List S26) × (List S26))) : Prop := (x.1.length ≤ n_ ∧ ∀ y_ ∈ x.1, small28 n_ y_) ∧ (x.2.1.length ≤ n_ ∧ ∀ y_ ∈ x.2.1, small28 n_ y_) ∧ (x.2.2.1.length ≤ n_ ∧ ∀ y_ ∈ x.2.2.1, small26 n_ y_) ∧ (x.2.2.2.length ≤ n_ ∧ ∀ y_ ∈ x.2.2.2, small26 n_ y_)
theorem opensU38 : Row.OpensU Tryd.prog 38 (Kd.pair (Kd.slice 28 k28) (Kd.pair (Kd.slice 28 k28) (Kd.pair (Kd.slice 26 k26) (Kd.slice 26 k26)))) good38 small38 := fun enc w base sp held fuel cs x hx => by
  obtain ⟨xs, n, _, rfl, hl, hlen, hf⟩ := DataW.trod_struct Tryd.underlying38 hx
  match xs, hlen with
  | [y0, y1, y2, y3], _ =>
    have z : Tryd.prog.cellsOf 38 = 4 := by kernel_rfl
    have z0 : Tryd.prog.cellsOf 23 = 1 := by kernel_rfl
    have e0 : DataW.trod enc Tryd.prog w base sp held n 23 ((cs.drop 0).take (Tryd.prog.cellsOf 23)) = some y0 := hf 0 _ rfl
    rw [z0] at e0
    obtain ⟨a0, k0, g0, u0⟩ := (Row.opens_sliceU (B := 40) Tryd.underlying23 (by kernel_rfl) (by kernel_rfl) opensU28) enc w base sp held n _ _ e0
    have z1 : Tryd.prog.cellsOf 23 = 1 := by kernel_rfl
    have e1 : DataW.trod enc Tryd.prog w base sp held n 23 ((cs.drop 1).take (Tryd.prog.cellsOf 23)) = some y1 := hf 1 _ rfl
    rw [z1] at e1
    obtain ⟨a1, k1, g1, u1⟩ := (Row.opens_sliceU (B := 40) Tryd.underlying23 (by kernel_rfl) (by kernel_rfl) opensU28) enc w base sp held n _ _ e1
    have z2 : Tryd.prog.cellsOf 22 = 1 := by kernel_rfl
    have e2 : DataW.trod enc Tryd.prog w base sp held n 22 ((cs.drop 2).take (Tryd.prog.cellsOf 22)) = some y2 := hf 2 _ rfl
    rw [z2] at e2
    obtain ⟨a2, k2, g2, u2⟩ := (Row.opens_sliceU (B := 32) Tryd.underlying22 (by kernel_rfl) (by kernel_rfl) opensU26) enc w base sp held n _ _ e2
    have z3 : Tryd.prog.cellsOf 22 = 1 := by kernel_rfl
    have e3 : DataW.trod enc Tryd.prog w base sp held n 22 ((cs.drop 3).take (Tryd.prog.cellsOf 22)) = some y3 := hf 3 _ rfl
    rw [z3] at e3
    obtain ⟨a3, k3, g3, u3⟩ := (Row.opens_sliceU (B := 32) Tryd.underlying22 (by kernel_rfl) (by kernel_rfl) opensU26) enc w base sp held n _ _ e3
    refine ⟨(⟨a0, a1, a2, a3⟩ : ((List S28) × (List S28) × (List S26) × (List S26))), ?_, fun hw => ?_, fun n_ hn_ => ?_⟩
    · have h : (Kd.pair (Kd.slice 28 k28) (Kd.pair (Kd.slice 28 k28) (Kd.pair (Kd.slice 26 k26) (Kd.slice 26 k26)))).K w (a0, (a1, (a2, a3))) ((cs.drop 0).take 4) := (Row.pair_K (a := (Kd.slice 28 k28)) (b := (Kd.pair (Kd.slice 28 k28) (Kd.pair (Kd.slice 26 k26) (Kd.slice 26 k26)))) (o := 0) k0 (Row.pair_K (a := (Kd.slice 28 k28)) (b := (Kd.pair (Kd.slice 26 k26) (Kd.slice 26 k26))) (o := 1) k1 (Row.pair_K (a := (Kd.slice 26 k26)) (b := (Kd.slice 26 k26)) (o := 2) k2 k3)))
      rw [List.drop_zero, List.take_of_length_le (by rw [hl, z]; exact Nat.le_refl _)] at h
      exact h
    · have hw2 : ∀ m, m ∈ (DataW.weights Tryd.prog 23 y0.1 ++ (DataW.weights Tryd.prog 23 y1.1 ++ (DataW.weights Tryd.prog 22 y2.1 ++ (DataW.weights Tryd.prog 22 y3.1 ++ [])))) → m ≤ reachBytes := fun m hm => hw m (by rw [List.map_cons, Row.weights_agg Tryd.underlying38]; exact hm)
      exact ⟨g0 (fun m hm => hw2 m (List.mem_append_left _ hm)), g1 (fun m hm => hw2 m (List.mem_append_right _ (List.mem_append_left _ hm))), g2 (fun m hm => hw2 m (List.mem_append_right _ (List.mem_append_right _ (List.mem_append_left _ hm)))), g3 (fun m hm => hw2 m (List.mem_append_right _ (List.mem_append_right _ (List.mem_append_right _ (List.mem_append_left _ hm)))))⟩
    · have hb := Row.bulk_agg hn_
      exact ⟨u0 n_ (hb _ (by simp)), u1 n_ (hb _ (by simp)), u2 n_ (hb _ (by simp)), u3 n_ (hb _ (by simp))⟩
end Go.Proofs.YthgdeoacplcceaaDoor.PAll
