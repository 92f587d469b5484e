import Derived.Test.YtmankbhlgjgnbaaEGet
namespace Go.Proofs.Ytmankbhlgjgnbaa.PAll
open Go.RowKit Go.Proofs.YtmankbhlgjgnbaaW.PrintWords Go.Proofs.YtmankbhlgjgnbaaW.PrintLast Go.Proofs.YtmankbhlgjgnbaaW.PrintMore Mem
set_option linter.unusedVariables false
set_option linter.unusedSimpArgs false
/-- A store at p. -/
abbrev ptrV (p : Nat) : Value := .pointer (some ⟨p, 0, none⟩)
def FitsP (x : PI) : Prop := x.H.length ≤ 1000 ∧ x.B.length ≤ 100000
def StFits (s : St) : Prop := ∀ q ∈ s.L, FitsP q.2
theorem fits_of {Lc : List (Key × CI)} {s : St} (hL : erase Lc = s.L) (hf : StFits s) {x : CI} {k : Key} (h : lookM eqKey k Lc = some x) : Fits x := by
  obtain ⟨q, hq, rfl⟩ := look_mem h
  exact hf (q.1, q.2.pure) (by rw [← hL]; exact List.mem_map.2 ⟨q, hq, rfl⟩)
theorem row_of {w : World} {p b : Nat} {Lc : List (Key × CI)} {n : Int} (hB : StoreB w p b Lc n) {x : CI} {k : Key} (h : lookM eqKey k Lc = some x) : RowOK w x := by
  obtain ⟨q, hq, rfl⟩ := look_mem h
  exact hB.rows q hq
theorem lookup_some {w : World} {p b : Nat} {Lc : List (Key × CI)} {n : Int} (hB : StoreB w p b Lc n) {x : CI} {k : Int} {nm : ByteArray} (h : lookM eqKey (k, nm) Lc = some x) :
    (Instr.lookup 47 (.map (some b)) (.agg #[.int .i64 k, .string nm]) true).run Try.prog w = .ok (.tuple #[itemV x, .bool true]) w := by
  have := run_lookM_ok key_run Try.underlying47 hB.map (k, nm) (zero_item w)
  rw [h] at this
  exact this
theorem lookup_none {w : World} {p b : Nat} {Lc : List (Key × CI)} {n : Int} (hB : StoreB w p b Lc n) {k : Int} {nm : ByteArray} (h : lookM eqKey (k, nm) Lc = none) :
    (Instr.lookup 47 (.map (some b)) (.agg #[.int .i64 k, .string nm]) true).run Try.prog w = .ok (.tuple #[itemV noItem, .bool false]) w := by
  have := run_lookM_ok key_run Try.underlying47 hB.map (k, nm) (zero_item w)
  rw [h] at this
  exact this
def getV (s : St) (k : Key) : PI × Int := match lookM eqKey k s.L with
  | some x => (x, 0)
  | none => (noPI, 5)
set_option maxHeartbeats 2000000 in
theorem Get.calls (w : World) (p : Nat) (s : St) (k : Int) (nm : ByteArray) (h : StoreAt w p s) (hf : StFits s) :
    Calls Try.prog 9 #[ptrV p, .int .i64 k, .string nm] w fun e w' => ∃ y : CI, e = .returned (.tuple #[itemV y, .int .i64 (getV s (k, nm)).2]) ∧ RowNew w' w.heap.size y ∧ y.pure = (getV s (k, nm)).1 ∧ Below w.heap.size w w' := by
  obtain ⟨b, Lc, hB, hL⟩ := h
  have hg : getV s (k, nm) = match (lookM eqKey (k, nm) Lc).map CI.pure with | some x => (x, 0) | none => (noPI, 5) := by
    unfold getV
    rw [← hL, look_erase]
  have HS := Aside0.mk hB
  cases hl : lookM eqKey (k, nm) Lc with
  | none =>
    rw [hl] at hg
    rw [hg]
    have HL := Aside0.mk hl
    clear hB hL hg hl hf
    dsimp only [Option.map_none]
    go_enter Try.func9, Try.ntmps9
    go_wp2_with (first
      | ((with_reducible refine gate_dst (N := 6) rfl ?_); refine new_at rfl (t := 31) rfl noItem.cells (itemV noItem) (fun W => zero_item W) rfl ?_; intro g6 hg6 w1 hk1 hb1
         have BK6 := Aside0.mk hk1; have HS1 := Aside0.mk (HS.out.below hb1); have HB1 := Aside0.mk hb1; have G6 := Aside0.mk hg6; clear hk1 hb1 hg6
         have c0 : w1.cell? ⟨p, 0, none⟩ = some (.map (some b)) := HS1.out.cell0
         have hlk := lookup_none HS1.out HL.out)
      | ((with_reducible refine gate_dst (N := 8) rfl ?_); refine new_at rfl (t := 31) rfl noItem.cells (itemV noItem) (fun W => zero_item W) rfl ?_; intro g8 hg8 w2 hk2 hb2
         have BK8 := Aside0.mk hk2; have BK6' := Aside0.mk (BK6.out.below hb2); have HB2 := Aside0.mk (HB1.out.trans ⟨hb2.os, hb2.tape, hb2.output, hb2.size, fun i hi => hb2.block i (Nat.lt_of_lt_of_le hi HB1.out.size)⟩); have G8 := Aside0.mk (show w.heap.size < g8 by have := BK6.out.lt; have := G6.out; omega); clear hk2 hb2 hg8)
      | ((with_reducible refine gate_store (p := 8) rfl ?_); refine store_at rfl (t := 31) rfl rfl g8 0 _ 31 _ rfl rfl BK8.out noItem.cells rfl size_item (show (6 : Nat) ≤ 6 from Nat.le_refl 6) (cells_one _) ?_; intro w3 hk3 hg3
         have BK6'' := Aside0.mk (BK6'.out.grown hg3 (by have := G6.out; have := G8.out; omega)); have HB3 := Aside0.mk (pw_below_grown HB2.out (some g8) HB2.out.size hg3 (fun k e => by cases e; exact Nat.le_of_lt G8.out)); clear hk3 hg3)
      | ((with_reducible refine gate_store (p := 6) rfl ?_); refine store_at rfl (t := 31) rfl rfl g6 0 _ 31 _ rfl rfl BK6''.out noItem.cells rfl size_item (show (6 : Nat) ≤ 6 from Nat.le_refl 6) (cells_one _) ?_; intro w4 hk4 hg4
         have BL := Aside0.mk hk4; have HB4 := Aside0.mk (pw_below_grown HB3.out (some g6) HB3.out.size hg4 (fun k e => by cases e; exact Nat.le_of_eq G6.out.symm)); clear hk4 hg4))
    have BE : Blk w4 g6 noItem.cells 31 := BL.out
    (try simp only [Exit.inBlock, Exit.then])
    exact bodyPost_ret (res_item2 rfl _ _ g6 _ rfl BE rfl) rfl ⟨noItem, rfl, RowNew.none _ _, rfl, HB4.out⟩
  | some x =>
    rw [hl] at hg
    rw [hg]
    have HL := Aside0.mk hl
    have HF := Aside0.mk (fits_of hL hf hl)
    have HX := Aside0.mk (row_of hB hl)
    clear hB hL hg hl hf
    dsimp only [Option.map_some]
    go_enter Try.func9, Try.ntmps9
    go_wp2_with (first
      | ((with_reducible refine gate_dst (N := 6) rfl ?_); refine new_at rfl (t := 31) rfl noItem.cells (itemV noItem) (fun W => zero_item W) rfl ?_; intro g6 hg6 w1 hk1 hb1
         have BK6 := Aside0.mk hk1; have HS1 := Aside0.mk (HS.out.below hb1); have HB1 := Aside0.mk hb1; have G6 := Aside0.mk hg6; clear hk1 hb1 hg6
         have c0 : w1.cell? ⟨p, 0, none⟩ = some (.map (some b)) := HS1.out.cell0
         have hlk := lookup_some HS1.out HL.out)
      | ((with_reducible refine gate_dst (N := 8) rfl ?_); refine new_at rfl (t := 31) rfl noItem.cells (itemV noItem) (fun W => zero_item W) rfl ?_; intro g8 hg8 w2 hk2 hb2
         have BK8 := Aside0.mk hk2; have BK6' := Aside0.mk (BK6.out.below hb2); have HB2 := Aside0.mk (HB1.out.trans ⟨hb2.os, hb2.tape, hb2.output, hb2.size, fun i hi => hb2.block i (Nat.lt_of_lt_of_le hi HB1.out.size)⟩); have G8 := Aside0.mk (show w.heap.size < g8 by have := BK6.out.lt; have := G6.out; omega); clear hk2 hb2 hg8)
      | ((with_reducible refine gate_store (p := 8) rfl ?_); refine store_at rfl (t := 31) rfl rfl g8 0 _ 31 _ rfl rfl BK8.out x.cells rfl size_item (show (6 : Nat) ≤ 6 from Nat.le_refl 6) (cells_one _) ?_; intro w3 hk3 hg3
         have BK8' : Aside0 (Blk w3 g8 x.cells 31) := Aside0.mk hk3; have BK6'' := Aside0.mk (BK6'.out.grown hg3 (by have := G6.out; have := G8.out; omega)); have HB3 := Aside0.mk (pw_below_grown HB2.out (some g8) HB2.out.size hg3 (fun k e => by cases e; exact Nat.le_of_lt G8.out)); clear hk3 hg3)
      | (refine load_at rfl (t := 31) rfl g8 _ 31 _ rfl BK8'.out Try.underlying31 size_item ?_)
      | (go_at_call 26; refine (copied.calls x _ (HX.out.below HB3.out) HF.out).mono ?_; rintro e w4 ⟨y, rfl, hy1, hy2, hb4⟩
         have HY := Aside0.mk hy1; have HP := Aside0.mk hy2; have BK6''' := Aside0.mk (BK6''.out.below hb4); have HB4 := Aside0.mk (below_then HB3.out HB3.out.size hb4); clear hy1 hy2 hb4)
      | ((with_reducible refine gate_store (p := 6) rfl ?_); refine store_at rfl (t := 31) rfl rfl g6 0 _ 31 _ rfl rfl BK6'''.out y.cells rfl size_item (show (6 : Nat) ≤ 6 from Nat.le_refl 6) (cells_one _) ?_; intro w5 hk5 hg5
         have BL := Aside0.mk hk5; have HY2 := Aside0.mk (HY.out.grown hg5 BK6''.out.lt); have HB5 := Aside0.mk (pw_below_grown HB4.out (some g6) HB4.out.size hg5 (fun k e => by cases e; exact Nat.le_of_eq G6.out.symm)); clear hk5 hg5))
    have BE : Blk w5 g6 y.cells 31 := BL.out
    (try simp only [Exit.inBlock, Exit.then])
    exact bodyPost_ret (res_item2 rfl _ _ g6 _ rfl BE rfl) rfl ⟨y, rfl, HY2.out.lower HB3.out.size, HP.out, HB5.out⟩
theorem Writes.calls (w : World) (p : Nat) (s : St) (h : StoreAt w p s) :
    Calls Try.prog 10 #[ptrV p] w fun e w' => e = .returned (.int .i64 s.n) ∧ w' = w := by
  obtain ⟨b, Lc, hB, hL⟩ := h
  have c1 : w.cell? ⟨p, 1, none⟩ = some (.int .i64 s.n) := hB.cell1
  clear hB hL
  generalize s.n = n at c1
  go_enter Try.func10, Try.ntmps10
  go_wp2
  go_ret
  exact ⟨rfl, rfl⟩
end Go.Proofs.Ytmankbhlgjgnbaa.PAll
