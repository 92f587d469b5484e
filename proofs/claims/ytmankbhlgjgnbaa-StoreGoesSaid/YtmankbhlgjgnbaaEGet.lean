import Derived.Test.YtmankbhlgjgnbaaMEa
namespace Go.Proofs.Ytmankbhlgjgnbaa.PAll
open Go.RowKit Go.Proofs.YtmankbhlgjgnbaaW.PrintWords Go.Proofs.YtmankbhlgjgnbaaW.PrintLast Go.Proofs.YtmankbhlgjgnbaaW.PrintMore Mem
set_option linter.unusedVariables false
set_option linter.unusedSimpArgs false
theorem cells_one (x : CI) : ∀ u ∈ x.cells, u.oneCell' = true := by
  intro u hu
  unfold CI.cells at hu
  simp only [List.mem_cons, List.not_mem_nil, or_false] at hu
  rcases hu with rfl | rfl | rfl | rfl | rfl | rfl <;> rfl
theorem size_item : (Try.prog.info? 31).map (·.size) = some 6 := by kernel_rfl
/-- An item's rows are no longer than a clone bears. -/
def Fits (x : CI) : Prop := x.H.length ≤ 1000 ∧ x.B.length ≤ 100000
set_option maxHeartbeats 1000000 in
theorem copied.calls (x : CI) (w : World) (hx : RowOK w x) (hf : Fits x) :
    Calls Try.prog 26 #[itemV x] w fun e w' => ∃ y : CI, e = .returned (itemV y) ∧ RowNew w' w.heap.size y ∧ y.pure = x.pure ∧ Below w.heap.size w w' := by
  have HX := Aside0.mk hx
  have HF := Aside0.mk hf
  clear hx hf
  unfold itemV CI.cells
  obtain ⟨k, nm, vr, ha, hc, H, ba, bc, B, gg⟩ := x
  have hH := clone_strs.calls ha hc H
  have hB := clone_bytes.calls ba bc B
  have HH := Aside0.mk hH
  have HBy := Aside0.mk hB
  clear hH hB
  dsimp only
  go_enter Try.func26, Try.ntmps26
  go_wp2
  have BK1 := Aside0.mk (Blk.alloc (Blk.alloc_new w (CI.cells ⟨k, nm, vr, ha, hc, H, ba, bc, B, gg⟩) 31) (.cells (noItem.cells).toArray 31))
  have BK2 := Aside0.mk (Blk.alloc_new (w.alloc (.cells (CI.cells ⟨k, nm, vr, ha, hc, H, ba, bc, B, gg⟩).toArray 31)) noItem.cells 31)
  have HB := Aside0.mk (below_alloc (below_alloc (Below.refl w.heap.size w) (.cells (CI.cells ⟨k, nm, vr, ha, hc, H, ba, bc, B, gg⟩).toArray 31)) (.cells (noItem.cells).toArray 31))
  have e1 : (w.alloc (.cells (CI.cells ⟨k, nm, vr, ha, hc, H, ba, bc, B, gg⟩).toArray 31)).heap.size = w.heap.size + 1 := by simp
  rw [e1] at BK2
  clear e1
  show Code.wp _ _ _ _ ((w.alloc (.cells (CI.cells ⟨k, nm, vr, ha, hc, H, ba, bc, B, gg⟩).toArray 31)).alloc (.cells (noItem.cells).toArray 31))
  generalize (w.alloc (.cells (CI.cells ⟨k, nm, vr, ha, hc, H, ba, bc, B, gg⟩).toArray 31)).alloc (.cells (noItem.cells).toArray 31) = W1 at BK1 BK2 HB ⊢
  have c3 : W1.cell? ⟨w.heap.size, 3, none⟩ = some (.slice ha H.length hc) := BK1.out.cell 3
  have c4 : W1.cell? ⟨w.heap.size, 4, none⟩ = some (.slice ba B.length bc) := BK1.out.cell 4
  go_region_with (first
    | (go_at_call 32; refine (HH.out _ (Kd.C_drew (Kd.C_below HX.out.hr HB.out)) HX.out.hc (by have := HF.out.1; dsimp only at this; omega)).mono ?_; rintro e w2 ⟨A1, n1, rfl, hr1, hb1⟩
       have HR1 := Aside0.mk hr1; have BK1' := Aside0.mk ((Blk.drew BK1.out).below hb1); have BK2' := Aside0.mk ((Blk.drew BK2.out).below hb1); have HB2 := Aside0.mk (below_then (below_drew HB.out) HB.out.size hb1); have HZ2 : Aside0 (W1.heap.size ≤ w2.heap.size) := Aside0.mk hb1.size; clear hr1 hb1
       have c4 : w2.cell? ⟨w.heap.size, 4, none⟩ = some (.slice ba B.length bc) := BK1'.out.cell 4)
    | (go_at_call 28; refine (HBy.out _ (Kd.C_below HX.out.br HB2.out) HX.out.bc (by have := HF.out.2; dsimp only at this; omega)).mono ?_; rintro e w3 ⟨A2, n2, rfl, hr2, hb2⟩
       have HR2 := Aside0.mk hr2; have BK1'' := Aside0.mk (BK1'.out.below hb2); have BK2'' := Aside0.mk (BK2'.out.below hb2); have HB3 := Aside0.mk (below_then HB2.out HB2.out.size hb2); have HR1' := Aside0.mk (Kd.R_below HR1.out hb2); have HZ := Aside0.mk HB2.out.size; clear hr2 hb2
       have c3' : w3.cell? ⟨w.heap.size, 3, none⟩ = some (.slice ha H.length hc) := BK1''.out.cell 3
       have c4' : w3.cell? ⟨w.heap.size, 4, none⟩ = some (.slice ba B.length bc) := BK1''.out.cell 4
       have f3' := BK1''.out.frozen ⟨w.heap.size, 3, none⟩ rfl
       have f4' := BK1''.out.frozen ⟨w.heap.size, 4, none⟩ rfl))
  all_goals
    have BF : Aside0 (Blk ((w3.setCell ⟨w.heap.size, 3, none⟩ (.slice A1 H.length n1)).setCell ⟨w.heap.size, 4, none⟩ (.slice A2 B.length n2)) w.heap.size (CI.cells ⟨k, nm, vr, A1, n1, H, A2, n2, B, gg⟩) 31) := Aside0.mk ((BK1''.out.put 3 (.slice A1 H.length n1)).put 4 (.slice A2 B.length n2))
    have BG := Aside0.mk ((BK2''.out.putfar (k := w.heap.size) 3 (.slice A1 H.length n1) (Nat.succ_ne_self _)).putfar (k := w.heap.size) 4 (.slice A2 B.length n2) (Nat.succ_ne_self _))
    have HB4 := Aside0.mk (below_set (j := 4) (v := .slice A2 B.length n2) (below_set (j := 3) (v := .slice A1 H.length n1) HB3.out (Nat.le_refl _)) (Nat.le_refl _))
    have hz1 : w.heap.size + 1 < W1.heap.size := Blk.lt BK2.out
    have HF1 := Aside0.mk (Kd.R_far (p := ⟨w.heap.size, 4, none⟩) (Kd.R_far (p := ⟨w.heap.size, 3, none⟩) (R_from HR1'.out) (fun k hk e => by have : W1.heap.size ≤ k := hk; have e2 : k = w.heap.size := e; omega) (.slice A1 H.length n1)) (fun k hk e => by have : W1.heap.size ≤ k := hk; have e2 : k = w.heap.size := e; omega) (.slice A2 B.length n2))
    have HF2 := Aside0.mk (Kd.R_far (p := ⟨w.heap.size, 4, none⟩) (Kd.R_far (p := ⟨w.heap.size, 3, none⟩) (R_from HR2.out) (fun k hk e => by have h1 : w2.heap.size ≤ k := hk; have h2 := HZ2.out; have e2 : k = w.heap.size := e; omega) (.slice A1 H.length n1)) (fun k hk e => by have h1 : w2.heap.size ≤ k := hk; have h2 := HZ2.out; have e2 : k = w.heap.size := e; omega) (.slice A2 B.length n2))
    generalize (w3.setCell ⟨w.heap.size, 3, none⟩ (.slice A1 H.length n1)).setCell ⟨w.heap.size, 4, none⟩ (.slice A2 B.length n2) = W4 at BF BG HB4 HF1 HF2 ⊢
    go_wp2_with (first | (refine load_at rfl (t := 31) rfl w.heap.size _ 31 _ rfl BF.out Try.underlying31 size_item ?_) | (refine store_at rfl (t := 31) rfl rfl (w.heap.size + 1) 0 _ 31 _ rfl rfl BG.out (CI.cells ⟨k, nm, vr, A1, n1, H, A2, n2, B, gg⟩) rfl size_item (show (6 : Nat) ≤ 6 from Nat.le_refl 6) (cells_one _) ?_; intro W5 hblk hgr; have BL := Aside0.mk hblk; have HB5 := Aside0.mk (pw_below_grown HB4.out (some (w.heap.size + 1)) HB4.out.size hgr (fun k e => by cases e; exact Nat.le_succ _)); have HG1 := Aside0.mk (Kd.R_grown HF1.out hgr (fun k hk e => by have h1 : W1.heap.size ≤ k := hk; have e2 := Option.some.inj e; omega)); have HG2 := Aside0.mk (Kd.R_grown HF2.out hgr (fun k hk e => by have h1 : w2.heap.size ≤ k := hk; have h2 := HZ2.out; have e2 := Option.some.inj e; omega)); clear hblk hgr))
    have BE : Blk W5 (w.heap.size + 1) (CI.cells ⟨k, nm, vr, A1, n1, H, A2, n2, B, gg⟩) 31 := BL.out
    (try simp only [Exit.inBlock, Exit.then])
    refine bodyPost_ret (res_item1 rfl _ _ (w.heap.size + 1) _ rfl BE rfl) rfl ⟨⟨k, nm, vr, A1, n1, H, A2, n2, B, gg⟩, rfl, ?_, rfl, HB5.out⟩
    have hz2 := HZ2.out
    exact ⟨Kd.R_mono (Kd.R_lower HG1.out (show w.heap.size ≤ W1.heap.size by omega)) (fun k (hk : W1.heap.size ≤ k) => by show w.heap.size ≤ k; omega), Kd.R_mono (Kd.R_lower HG2.out (show w.heap.size ≤ w2.heap.size by omega)) (fun k (hk : w2.heap.size ≤ k) => by show w.heap.size ≤ k; omega)⟩
end Go.Proofs.Ytmankbhlgjgnbaa.PAll
