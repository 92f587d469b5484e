import Derived.Test.YtmankbhlgjgnbaaEInv
/-! The record of the laws' calls (in the form of the print). -/
namespace Go.Proofs.Ytmankbhlgjgnbaa.PAll
open Go.RowKit Go.Proofs.YtmankbhlgjgnbaaW.PrintWords Go.Proofs.YtmankbhlgjgnbaaW.PrintLast Go.Proofs.YtmankbhlgjgnbaaW.PrintMore Mem
set_option linter.unusedVariables false
set_option linter.unusedSimpArgs false

structure S28 where
 f0 : Int
 f1 : Int
 f2 : ByteArray
 f3 : Int
 f4 : Bool
 f5 : ByteArray
 f6 : (List Int)
 f7 : Bool
def z28 : S28 := ⟨(0 : Int), (0 : Int), (⟨#[]⟩ : ByteArray), (0 : Int), false, (⟨#[]⟩ : ByteArray), ([] : List Int), false⟩
def k28 : Kd S28 := Kd.iso (Kd.pair (Kd.int .i64) (Kd.pair (Kd.int .i64) (Kd.pair Kd.string (Kd.pair (Kd.int .i64) (Kd.pair Kd.bool (Kd.pair Kd.string (Kd.pair (Kd.slice 5 (Kd.int .u8)) Kd.bool))))))) (fun x : S28 => (x.f0, x.f1, x.f2, x.f3, x.f4, x.f5, x.f6, x.f7))
theorem k28_open {w : World} {x : S28} {cs : List Value} (h : k28.K w x cs) : ∃ A6 c6, cs = [.int .i64 x.f0, .int .i64 x.f1, .string x.f2, .int .i64 x.f3, .bool x.f4, .string x.f5, .slice A6 x.f6.length c6, .bool x.f7] ∧ x.f6.length ≤ c6 ∧ (Kd.int .u8).C w A6 x.f6.length x.f6 := by
 obtain ⟨_, _, rfl, rfl, ⟨_, _, rfl, rfl, ⟨_, _, rfl, rfl, ⟨_, _, rfl, rfl, ⟨_, _, rfl, rfl, ⟨_, _, rfl, rfl, ⟨_, _, rfl, ⟨A6, c6, rfl, l6, g6⟩, rfl⟩⟩⟩⟩⟩⟩⟩ := h
 exact ⟨A6, c6, rfl, l6, g6⟩
def rd_T28 (xs : List S28) (i : Int) : S28 := xs.getD i.toNat z28
theorem at_T28 {w : World} {A : Option Addr} {n : Nat} {xs : List S28} (h : Kd.C k28 w A n xs) (i : Int) (h0 : 0 ≤ i) (h1 : i < n) : ∃ ad A6 c6, A = some ad ∧ w.cell? (ad.add (i.toNat * 8)) = some (.int .i64 (rd_T28 xs i).f0) ∧ w.cell? ⟨(ad.add (i.toNat * 8)).block, (ad.add (i.toNat * 8)).off + 1, none⟩ = some (.int .i64 (rd_T28 xs i).f1) ∧ w.cell? ⟨(ad.add (i.toNat * 8)).block, (ad.add (i.toNat * 8)).off + 2, none⟩ = some (.string (rd_T28 xs i).f2) ∧ w.cell? ⟨(ad.add (i.toNat * 8)).block, (ad.add (i.toNat * 8)).off + 3, none⟩ = some (.int .i64 (rd_T28 xs i).f3) ∧ w.cell? ⟨(ad.add (i.toNat * 8)).block, (ad.add (i.toNat * 8)).off + 4, none⟩ = some (.bool (rd_T28 xs i).f4) ∧ w.cell? ⟨(ad.add (i.toNat * 8)).block, (ad.add (i.toNat * 8)).off + 5, none⟩ = some (.string (rd_T28 xs i).f5) ∧ w.cell? ⟨(ad.add (i.toNat * 8)).block, (ad.add (i.toNat * 8)).off + 6, none⟩ = some (.slice A6 (rd_T28 xs i).f6.length c6) ∧ w.cell? ⟨(ad.add (i.toNat * 8)).block, (ad.add (i.toNat * 8)).off + 7, none⟩ = some (.bool (rd_T28 xs i).f7) ∧ (rd_T28 xs i).f6.length ≤ c6 ∧ (Kd.int .u8).C w A6 (rd_T28 xs i).f6.length (rd_T28 xs i).f6 := by
 obtain ⟨ad, c, e, _, hK, hc0⟩ := Kd.C_get h z28 i h0 h1
 have hc : ∀ j u, c[j]? = some u → w.cell? (ad.add (i.toNat * 8 + j)) = some u := hc0
 obtain ⟨A6, c6, rfl, l6, g6⟩ := k28_open hK
 exact ⟨ad, A6, c6, e, hc 0 _ rfl, by rw [← add_field _ _ 1 (by omega)]; exact hc 1 _ rfl, by rw [← add_field _ _ 2 (by omega)]; exact hc 2 _ rfl, by rw [← add_field _ _ 3 (by omega)]; exact hc 3 _ rfl, by rw [← add_field _ _ 4 (by omega)]; exact hc 4 _ rfl, by rw [← add_field _ _ 5 (by omega)]; exact hc 5 _ rfl, by rw [← add_field _ _ 6 (by omega)]; exact hc 6 _ rfl, by rw [← add_field _ _ 7 (by omega)]; exact hc 7 _ rfl, l6, g6⟩
theorem StoreE.lt {w : World} {p b : Nat} {s : St} (h : StoreE w p b s) : p < w.heap.size ∧ b < w.heap.size := let ⟨_, h1, _⟩ := h; ⟨h1.blk.lt, h1.map.lt⟩
def opC (x : S28) (A6 : Option Addr) (c6 : Nat) : List Value := [.int .i64 x.f0, .int .i64 x.f1, .string x.f2, .int .i64 x.f3, .bool x.f4, .string x.f5, .slice A6 x.f6.length c6, .bool x.f7]
def opZ : List Value := [.int .i64 0, .int .i64 0, .string ⟨#[]⟩, .int .i64 0, .bool false, .string ⟨#[]⟩, .slice none 0 0, .bool false]
theorem zero_op (w : World) : (zeroValue 28).run Try.prog w = .ok (.agg opZ.toArray) w := by kernel_rfl
theorem size_op : (Try.prog.info? 28).map (·.size) = some 8 := by kernel_rfl
theorem op_one (x : S28) (A6 : Option Addr) (c6 : Nat) : ∀ u ∈ opC x A6 c6, u.oneCell' = true := by
  intro u hu
  unfold opC at hu
  simp only [List.mem_cons, List.not_mem_nil, or_false] at hu
  rcases hu with rfl | rfl | rfl | rfl | rfl | rfl | rfl | rfl <;> rfl
end Go.Proofs.Ytmankbhlgjgnbaa.PAll
