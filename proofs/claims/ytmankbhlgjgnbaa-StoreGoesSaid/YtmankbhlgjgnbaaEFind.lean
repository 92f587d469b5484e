import Derived.Test.YtmankbhlgjgnbaaEWrite
namespace Go.Proofs.Ytmankbhlgjgnbaa.PAll
open Go.RowKit Go.Proofs.YtmankbhlgjgnbaaW.PrintWords Go.Proofs.YtmankbhlgjgnbaaW.PrintLast Go.Proofs.YtmankbhlgjgnbaaW.PrintMore Mem
set_option linter.unusedVariables false
set_option linter.unusedSimpArgs false
def findV (s : St) (k : Key) (v : Int) : PI × Int := match lookM eqKey k s.L with
  | some x => if x.ver = v then (x, 0) else (noPI, 100)
  | none => (noPI, 5)
set_option maxHeartbeats 2000000 in
theorem find.calls (w : World) (p b : Nat) (Lc : List (Key × CI)) (n : Int) (k : Int) (nm : ByteArray) (v : Int) (hB : StoreB w p b Lc n) :
    Calls Try.prog 29 #[ptrV p, .int .i64 k, .string nm, .int .i64 v] w fun e w' => ∃ y : CI, e = .returned (.tuple #[itemV y, .int .i64 (findV ⟨erase Lc, n⟩ (k, nm) v).2]) ∧ RowOK w' y ∧ y.pure = (findV ⟨erase Lc, n⟩ (k, nm) v).1 ∧ Below w.heap.size w w' ∧ ((findV ⟨erase Lc, n⟩ (k, nm) v).2 = 0 → ∃ q ∈ Lc, q.2 = y) := by
  have hg : findV ⟨erase Lc, n⟩ (k, nm) v = match (lookM eqKey (k, nm) Lc).map CI.pure with | some x => if x.ver = v then (x, 0) else (noPI, 100) | none => (noPI, 5) := by
    unfold findV
    dsimp only
    rw [look_erase]
  have HS := Aside0.mk hB
  cases hl : lookM eqKey (k, nm) Lc with
  | none =>
    rw [hl] at hg
    rw [hg]
    have HL := Aside0.mk hl
    clear hB hg hl
    dsimp only [Option.map_none]
    go_enter Try.func29, Try.ntmps29
    go_wp2_with (first
      | ((with_reducible refine gate_dst (N := 8) rfl ?_); refine new_at rfl (t := 31) rfl noItem.cells (itemV noItem) (fun W => zero_item W) rfl ?_; intro g8 hg w1 hk hb
         have BK8 := Aside0.mk hk; have HS1 := Aside0.mk (HS.out.below hb); have HB1 := Aside0.mk hb; have G8 := Aside0.mk hg; clear hk hb hg
         have c0 : w1.cell? ⟨p, 0, none⟩ = some (.map (some b)) := HS1.out.cell0
         have hlk := lookup_none HS1.out HL.out)
      | ((with_reducible refine gate_dst (N := 10) rfl ?_); refine new_at rfl (t := 31) rfl noItem.cells (itemV noItem) (fun W => zero_item W) rfl ?_; intro g10 hg w2 hk hb
         have BK10 := Aside0.mk hk; have BK8' := Aside0.mk (BK8.out.below hb); have HB2 := Aside0.mk (below_then HB1.out HB1.out.size hb); have G10 := Aside0.mk (show w.heap.size < g10 by have := BK8.out.lt; have := G8.out; omega); clear hk hb hg)
      | ((with_reducible refine gate_store (p := 10) rfl ?_); refine store_at rfl (t := 31) rfl rfl g10 0 _ 31 _ rfl rfl BK10.out noItem.cells rfl size_item (show (6 : Nat) ≤ 6 from Nat.le_refl 6) (cells_one _) ?_; intro w3 hk hg
         have BK10' : Aside0 (Blk w3 g10 noItem.cells 31) := Aside0.mk hk; have BK8'' := Aside0.mk (BK8'.out.grown hg (by have := G8.out; have := G10.out; omega)); have HB3 := Aside0.mk (pw_below_grown HB2.out (some g10) HB2.out.size hg (fun k e => by cases e; exact Nat.le_of_lt G10.out)); clear hk hg)
      | ((with_reducible refine gate_store (p := 8) rfl ?_); refine store_at rfl (t := 31) rfl rfl g8 0 _ 31 _ rfl rfl BK8''.out noItem.cells rfl size_item (show (6 : Nat) ≤ 6 from Nat.le_refl 6) (cells_one _) ?_; intro w4 hk hg
         have BL := Aside0.mk hk; have HB4 := Aside0.mk (pw_below_grown HB3.out (some g8) HB3.out.size hg (fun k e => by cases e; exact Nat.le_of_eq G8.out.symm)); clear hk hg))
    have BE : Blk w4 g8 noItem.cells 31 := BL.out
    (try simp only [Exit.inBlock, Exit.then])
    exact bodyPost_ret (res_item2 rfl _ _ g8 _ rfl BE rfl) rfl ⟨noItem, rfl, RowOK.none _, rfl, HB4.out, fun e => absurd e (by decide)⟩
  | some x =>
    rw [hl] at hg
    rw [hg]
    have HL := Aside0.mk hl
    have HX := Aside0.mk (row_of hB hl)
    have HQ := Aside0.mk (look_mem hl)
    clear hB hg hl
    dsimp only [Option.map_some]
    have hxp : x.pure.ver = x.ver := rfl
    rw [hxp]
    by_cases hv : x.ver = v
    · rw [if_pos hv]
      have hv1 : (x.ver == v) = true := beq_iff_eq.2 hv
      have hv2 : (x.ver != v) = false := bne_eq_false_iff_eq.2 hv
      clear hv
      go_enter Try.func29, Try.ntmps29
      go_wp2_with (first
        | ((with_reducible refine gate_dst (N := 8) rfl ?_); refine new_at rfl (t := 31) rfl noItem.cells (itemV noItem) (fun W => zero_item W) rfl ?_; intro g8 hg w1 hk hb
           have BK8 := Aside0.mk hk; have HS1 := Aside0.mk (HS.out.below hb); have HB1 := Aside0.mk hb; have G8 := Aside0.mk hg; clear hk hb hg
           have c0 : w1.cell? ⟨p, 0, none⟩ = some (.map (some b)) := HS1.out.cell0
           have hlk := lookup_some HS1.out HL.out)
        | ((with_reducible refine gate_dst (N := 10) rfl ?_); refine new_at rfl (t := 31) rfl noItem.cells (itemV noItem) (fun W => zero_item W) rfl ?_; intro g10 hg w2 hk hb
           have BK10 := Aside0.mk hk; have BK8' := Aside0.mk (BK8.out.below hb); have HB2 := Aside0.mk (below_then HB1.out HB1.out.size hb); have G10 := Aside0.mk (show w.heap.size < g10 by have := BK8.out.lt; have := G8.out; omega); clear hk hb hg)
        | ((with_reducible refine gate_store (p := 10) rfl ?_); refine store_at rfl (t := 31) rfl rfl g10 0 _ 31 _ rfl rfl BK10.out x.cells rfl size_item (show (6 : Nat) ≤ 6 from Nat.le_refl 6) (cells_one _) ?_; intro w3 hk hg
           have BK10' : Aside0 (Blk w3 g10 x.cells 31) := Aside0.mk hk; have BK8'' := Aside0.mk (BK8'.out.grown hg (by have := G8.out; have := G10.out; omega)); have HB3 := Aside0.mk (pw_below_grown HB2.out (some g10) HB2.out.size hg (fun k e => by cases e; exact Nat.le_of_lt G10.out)); clear hk hg
           have c2 : w3.cell? ⟨g10, 2, none⟩ = some (.int .i64 x.ver) := BK10'.out.cell 2)
        | (refine load_at rfl (t := 31) rfl g10 _ 31 _ rfl BK10'.out Try.underlying31 size_item ?_)
        | ((with_reducible refine gate_store (p := 8) rfl ?_); refine store_at rfl (t := 31) rfl rfl g8 0 _ 31 _ rfl rfl BK8''.out x.cells rfl size_item (show (6 : Nat) ≤ 6 from Nat.le_refl 6) (cells_one _) ?_; intro w4 hk hg
           have BL := Aside0.mk hk; have HB4 := Aside0.mk (pw_below_grown HB3.out (some g8) HB3.out.size hg (fun k e => by cases e; exact Nat.le_of_eq G8.out.symm)); clear hk hg))
      have BE : Blk w4 g8 x.cells 31 := BL.out
      (try simp only [Exit.inBlock, Exit.then])
      exact bodyPost_ret (res_item2 rfl _ _ g8 _ rfl BE rfl) rfl ⟨x, rfl, HX.out.below HB4.out, rfl, HB4.out, fun _ => HQ.out⟩
    · rw [if_neg hv]
      have hv1 : (x.ver == v) = false := beq_eq_false_iff_ne.2 hv
      have hv2 : (x.ver != v) = true := bne_iff_ne.2 hv
      clear hv
      go_enter Try.func29, Try.ntmps29
      go_wp2_with (first
        | ((with_reducible refine gate_dst (N := 8) rfl ?_); refine new_at rfl (t := 31) rfl noItem.cells (itemV noItem) (fun W => zero_item W) rfl ?_; intro g8 hg w1 hk hb
           have BK8 := Aside0.mk hk; have HS1 := Aside0.mk (HS.out.below hb); have HB1 := Aside0.mk hb; have G8 := Aside0.mk hg; clear hk hb hg
           have c0 : w1.cell? ⟨p, 0, none⟩ = some (.map (some b)) := HS1.out.cell0
           have hlk := lookup_some HS1.out HL.out)
        | ((with_reducible refine gate_dst (N := 10) rfl ?_); refine new_at rfl (t := 31) rfl noItem.cells (itemV noItem) (fun W => zero_item W) rfl ?_; intro g10 hg w2 hk hb
           have BK10 := Aside0.mk hk; have BK8' := Aside0.mk (BK8.out.below hb); have HB2 := Aside0.mk (below_then HB1.out HB1.out.size hb); have G10 := Aside0.mk (show w.heap.size < g10 by have := BK8.out.lt; have := G8.out; omega); clear hk hb hg)
        | ((with_reducible refine gate_store (p := 10) rfl ?_); refine store_at rfl (t := 31) rfl rfl g10 0 _ 31 _ rfl rfl BK10.out x.cells rfl size_item (show (6 : Nat) ≤ 6 from Nat.le_refl 6) (cells_one _) ?_; intro w3 hk hg
           have BK10' : Aside0 (Blk w3 g10 x.cells 31) := Aside0.mk hk; have BK8'' := Aside0.mk (BK8'.out.grown hg (by have := G8.out; have := G10.out; omega)); have HB3 := Aside0.mk (pw_below_grown HB2.out (some g10) HB2.out.size hg (fun k e => by cases e; exact Nat.le_of_lt G10.out)); clear hk hg
           have c2 : w3.cell? ⟨g10, 2, none⟩ = some (.int .i64 x.ver) := BK10'.out.cell 2)
        | ((with_reducible refine gate_store (p := 8) rfl ?_); refine store_at rfl (t := 31) rfl rfl g8 0 _ 31 _ rfl rfl BK8''.out noItem.cells rfl size_item (show (6 : Nat) ≤ 6 from Nat.le_refl 6) (cells_one _) ?_; intro w4 hk hg
           have BL := Aside0.mk hk; have HB4 := Aside0.mk (pw_below_grown HB3.out (some g8) HB3.out.size hg (fun k e => by cases e; exact Nat.le_of_eq G8.out.symm)); clear hk hg))
      have BE : Blk w4 g8 noItem.cells 31 := BL.out
      (try simp only [Exit.inBlock, Exit.then])
      exact bodyPost_ret (res_item2 rfl _ _ g8 _ rfl BE rfl) rfl ⟨noItem, rfl, RowOK.none _, rfl, HB4.out, fun e => absurd e (by decide)⟩
set_option maxHeartbeats 2000000 in
theorem drop.calls (w : World) (p b : Nat) (Lc : List (Key × CI)) (n : Int) (x : CI) (hS : StoreB w p b Lc n) (hx : RowOK w x) (h0 : 0 ≤ n) (hn : n < 1000000000) :
    Calls Try.prog 33 #[ptrV p, itemV x] w fun e w' => e = .returned (.tuple #[]) ∧ StoreB w' p b (delM eqKey (x.kind, x.name) Lc) (n + 1) ∧ Chg w w' p b := by
  have hpb : p ≠ b := by
    intro e
    obtain ⟨es, clock, hb, _⟩ := hS.map
    have h1 := hS.blk
    unfold Blk at h1
    rw [e, hb] at h1
    cases h1
  have hplt : p < w.heap.size := hS.blk.lt
  have hblt : b < w.heap.size := hS.map.lt
  have hw1 : wrap64 (n + 1) = n + 1 := by unfold wrap64; omega
  have HS := Aside0.mk hS
  have HX := Aside0.mk hx
  have c1 : w.cell? ⟨p, 1, none⟩ = some (.int .i64 n) := hS.cell1
  clear hS hx h0 hn
  obtain ⟨k, nm, vr, ha, hc, H, ba, bc, B, gg⟩ := x
  go_enter Try.func33, Try.ntmps33
  go_wp2_with (first
    | ((with_reducible refine gate_dst (N := 3) rfl ?_); refine box_at rfl (t := 31) rfl _ (CI.cells ⟨k, nm, vr, ha, hc, H, ba, bc, B, gg⟩) rfl rfl ?_; intro g hg w1 hk1 hb1
       have BG := Aside0.mk hk1; have HS1 := Aside0.mk (HS.out.below hb1); have HB1 := Aside0.mk hb1; have G := Aside0.mk hg; clear hk1 hb1 hg
       have c1 : w1.cell? ⟨p, 1, none⟩ = some (.int .i64 n) := HS1.out.cell1)
    | ((with_reducible refine gate_store (p := 10) rfl ?_); refine store_at rfl (t := 2) rfl rfl p 1 _ 49 _ rfl rfl HS1.out.blk [.int .i64 (n + 1)] (by rw [hw1]; rfl) size_i64 (show (2 : Nat) ≤ 2 from Nat.le_refl 2) (by intro u hu; rw [List.mem_singleton.1 hu]; rfl) ?_; intro w2 hk2 hg2
       have BP : Aside0 (Blk w2 p [.map (some b), .int .i64 (n + 1)] 49) := Aside0.mk hk2; have BG' := Aside0.mk (BG.out.grown hg2 (by have := G.out; omega)); have GR2 := Aside0.mk hg2; clear hk2 hg2
       have c1' : w2.cell? ⟨p, 1, none⟩ = some (.int .i64 (n + 1)) := BP.out.cell 1))
  have hglt : w.heap.size ≤ g := Nat.le_of_eq G.out.symm
  have hblk2 : ∀ i, i < w1.heap.size → i ≠ p → i ≠ g → w2.heap[i]? = w1.heap[i]? := fun i hi h1 h2 => GR2.out.block i hi (fun e => h1 (Option.some.inj e))
  have hbg : b ≠ g := by omega
  have hM3 : MapAt w2 b keyV itemV Lc := HS1.out.map.kept (fun i hi e => hblk2 i hi (by rw [e]; exact hpb.symm) (by rw [e]; exact hbg))
  have hM3' : MapAt w2.drew b keyV itemV Lc := hM3
  obtain ⟨w4, hrun, hM4, hG4⟩ := run_delM key_run Try.underlying47 hM3' (k, nm) 52 0
  have hput : (Builtin.delete_ #[47, 52] 0 #[.map (some b), .agg #[.int .i64 k, .string nm]]).run Try.prog w2.drew = .ok (.tuple #[]) w4 := hrun
  clear hrun
  have d0 : w2.cell? ⟨p, 0, none⟩ = some (.map (some b)) := BP.out.cell 0
  have e0 : w2.cell? ⟨g, 0, none⟩ = some (.int .i64 k) := BG'.out.cell 0
  have e1 : w2.cell? ⟨g, 1, none⟩ = some (.string nm) := BG'.out.cell 1
  have e2 : w2.cell? ⟨g, 2, none⟩ = some (.int .i64 vr) := BG'.out.cell 2
  have e3 : w2.cell? ⟨g, 3, none⟩ = some (.slice ha H.length hc) := BG'.out.cell 3
  have e4 : w2.cell? ⟨g, 4, none⟩ = some (.slice ba B.length bc) := BG'.out.cell 4
  have e5 : w2.cell? ⟨g, 5, none⟩ = some (.bool gg) := BG'.out.cell 5
  have HM4 := Aside0.mk hM4
  have HG4 := Aside0.mk hG4
  have HBK := Aside0.mk hblk2
  have BP4 := Aside0.mk ((Blk.drew BP.out).grown hG4 hpb)
  have f1 : w4.cell? ⟨p, 1, none⟩ = some (.int .i64 (n + 1)) := BP4.out.cell 1
  clear hM3 hM3' hM4 hG4 hblk2
  go_wp2
  go_region
  all_goals
    go_wp2
    go_end0
    have hchg : Chg w w4 p b := by
      have hb1 := HB1.out
      have g2 := GR2.out
      have g4 := HG4.out
      exact ⟨(g4.os.trans g2.os).trans hb1.os, (g4.tape.trans g2.tape).trans hb1.tape, (g4.output.trans g2.output).trans hb1.output, Nat.le_trans hb1.size (Nat.le_trans g2.size g4.size),
        fun i hi h1 h2 => ((g4.block i (by have := hb1.size; have := g2.size; show i < w2.heap.size; omega) (fun e => h2 (Option.some.inj e))).trans (HBK.out i (Nat.lt_of_lt_of_le hi hb1.size) h1 (by omega))).trans (hb1.block i hi)⟩
    refine ⟨rfl, ⟨BP4.out, HM4.out, fun q hq => ?_⟩, hchg⟩
    exact (HS.out.rows q (del_mem hq)).chg HS.out hchg
attribute [local go_sem] run_makeMap
theorem New.calls (w : World) : Calls Try.prog 8 #[] w fun e w' => ∃ p b, e = .returned (ptrV p) ∧ w.heap.size ≤ p ∧ w.heap.size ≤ b ∧ StoreB w' p b [] 0 ∧ Below w.heap.size w w' := by
  have HM := Aside0.mk (MapAt.made w keyV itemV)
  go_enter Try.func8, Try.ntmps8
  go_wp2
  go_ret
  refine ⟨w.heap.size + 1, w.heap.size, by simp, Nat.le_succ _, Nat.le_refl _, ⟨?_, ?_, fun q hq => by cases hq⟩, below_alloc (below_alloc (Below.refl _ _) _) _⟩
  · have := Blk.alloc_new (w.alloc (.map #[] 0)) [.map (some w.heap.size), .int .i64 0] 49
    simpa using this
  · exact MapAt.kept HM.out (fun k hk _ => Below.heap_alloc _ _ _ hk)
end Go.Proofs.Ytmankbhlgjgnbaa.PAll
