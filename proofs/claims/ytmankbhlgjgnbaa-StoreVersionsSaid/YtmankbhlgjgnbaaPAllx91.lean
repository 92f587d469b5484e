import Derived.Test.YtmankbhlgjgnbaaPAllx90
namespace Go.Proofs.Ytmankbhlgjgnbaa.PAll
open Go.RowKit Go.Proofs.YtmankbhlgjgnbaaW.PrintWords Go.Proofs.YtmankbhlgjgnbaaW.PrintLast Go.Proofs.YtmankbhlgjgnbaaW.PrintMore Mem
set_option linter.unusedVariables false
set_option linter.unusedSimpArgs false
def sutlerlaw10_StoreVersions.f (l0 : List S28) : Option Bool := some true
set_option maxHeartbeats 4000000 in
set_option maxRecDepth 100000 in
theorem sutlerlaw10_StoreVersions.calls (A0 : Option Addr) (c0 : Nat) (l0 : List S28) (r : Bool) (w : World) (hr0 : Kd.C k28 w A0 l0.length l0) (hc0 : l0.length ≤ c0) (h : sutlerlaw10_StoreVersions.f l0 = some r) :
  Calls Try.prog 3 #[.slice A0 l0.length c0] w fun e w' => e = .returned (.bool r) ∧ Below w.heap.size w w' := by
  obtain rfl := Option.some.inj h
  have HR0 := Aside0.mk hr0
  clear hr0 h
  by_cases hlong : l0.length > 200
  · have hlong' : (200 : Int) < (l0.length : Int) := by omega
    go_enter Try.func3, Try.ntmps3
    go_wp2_with (first
      | (go_at_call 7; refine (live.calls _).mono ?_; rintro e wl ⟨rfl, hb⟩
         have HBL := Aside0.mk hb; clear hb)
      | (go_at_call 8; refine (New.calls _).mono ?_; rintro e wn ⟨p, b, rfl, hp, hb, hs, hbl⟩
         have HP : Aside0 (w.heap.size ≤ p) := Aside0.mk (Nat.le_trans HBL.out.size hp); have HQ : Aside0 (w.heap.size ≤ b) := Aside0.mk (Nat.le_trans HBL.out.size hb); have HE0 : Aside0 (StoreE wn p b PAll.s0) := Aside0.mk ⟨[], hs, rfl⟩; have HBN := Aside0.mk (below_then HBL.out HBL.out.size hbl); clear hp hb hs hbl))
    go_ret
    exact ⟨rfl, HBN.out⟩
  have hlong' : ¬ (200 : Int) < (l0.length : Int) := by omega
  have HLEN := Aside0.mk (Nat.not_lt.1 hlong)
  clear hlong
  go_enter Try.func3, Try.ntmps3
  go_wp2_with (first
    | (go_at_call 7; refine (live.calls _).mono ?_; rintro e wl ⟨rfl, hb⟩
       have HBL := Aside0.mk hb; clear hb)
    | (go_at_call 8; refine (New.calls _).mono ?_; rintro e wn ⟨p, b, rfl, hp, hb, hs, hbl⟩
       have HP : Aside0 (w.heap.size ≤ p) := Aside0.mk (Nat.le_trans HBL.out.size hp); have HQ : Aside0 (w.heap.size ≤ b) := Aside0.mk (Nat.le_trans HBL.out.size hb); have HE0 : Aside0 (StoreE wn p b PAll.s0) := Aside0.mk ⟨[], hs, rfl⟩; have HBN := Aside0.mk (below_then HBL.out HBL.out.size hbl); clear hp hb hs hbl))
  go_loopg [33, 5] (l0.length + 1) (fun kq v33 v5 w' => ∃ (i : Nat) (s : St), v33 = .int .i64 (i : Int) ∧ v5 = .int .i64 s.n ∧ Aside0 (kq + i = l0.length + 1) ∧ Aside0 (i ≤ l0.length) ∧ Aside0 (StoreE w' p b s) ∧ Aside0 (Inv s) ∧ Aside0 (s.n ≤ i) ∧ Aside0 (Below w.heap.size w w'))
  case atStart => exact ⟨0, PAll.s0, rfl, rfl, ⟨rfl⟩, ⟨Nat.zero_le _⟩, HE0, ⟨Inv.s0⟩, ⟨Int.le_refl _⟩, HBN⟩
  case round =>
    clear HE0 HBN HBL
    obtain ⟨i, s, rfl, rfl, HK, HI_, HE, HI, HSN, HB⟩ := hrel
    cases gk with
    | zero => exact absurd HK.out (by have := HI_.out; omega)
    | succ k1 =>
      by_cases c5 : i < l0.length
      · have c5' : (i : Int) < (l0.length : Int) := by omega
        have p0 : (0 : Int) ≤ (i : Int) := by omega
        obtain ⟨ad, A6, c6, e1, hx0, hx1, hx2, hx3, hx4, hx5, hx6, hx7, hl6, hr6⟩ := at_T28 HR0.out (i : Int) p0 c5'
        cases e1
        replace hx0 := pw_cell_below HB.out hx0
        replace hx1 := pw_cell_below HB.out hx1
        replace hx2 := pw_cell_below HB.out hx2
        replace hx3 := pw_cell_below HB.out hx3
        replace hx4 := pw_cell_below HB.out hx4
        replace hx5 := pw_cell_below HB.out hx5
        replace hx6 := pw_cell_below HB.out hx6
        replace hx7 := pw_cell_below HB.out hx7
        simp only [Int.toNat_natCast] at hx0 hx1 hx2 hx3 hx4 hx5 hx6 hx7
        have HR6 := Aside0.mk hr6
        have HC6 := Aside0.mk hl6
        clear hr6 hl6
        generalize rd_T28 l0 (i : Int) = x at *
        replace p0 := eq_true p0
        have hiw : wrap64 ((i : Int) + 1) = ((i + 1 : Nat) : Int) := w_succ (by have := HLEN.out; omega)
        have HN : Aside0 (s.n < 1000000000) := Aside0.mk (by have := HSN.out; have := HLEN.out; omega)
        have HPW := Aside0.mk HE.out.lt
        by_cases c6b : x.f6.length > 10000
        · have c6c : (10000 : Int) < (x.f6.length : Int) := by omega
          go_wp2_with (first
            | ((with_reducible refine gate_dst (N := 7) rfl ?_); refine new_at rfl (t := 28) rfl opZ (.agg opZ.toArray) (fun W => zero_op W) rfl ?_; intro g7 hg w1 hk hb
               have BZ7 := Aside0.mk hk; have X1 := Aside0.mk hb; have G7 : Aside0 (wr.heap.size ≤ g7) := Aside0.mk (by omega); clear hk hb hg)
            | ((with_reducible refine gate_store (p := 7) rfl ?_); refine store_at rfl (t := 28) rfl rfl g7 0 _ 28 _ rfl rfl BZ7.out (opC x A6 c6) rfl size_op (show (8 : Nat) ≤ 8 from Nat.le_refl 8) (op_one _ _ _) ?_; intro w2 hk hg
               have BK2 : Aside0 (Blk w2 g7 (opC x A6 c6) 28) := Aside0.mk hk; have X2 := Aside0.mk (pw_below_grown X1.out (some g7) X1.out.size hg (fun k e => by cases e; exact G7.out)); have HE2 := Aside0.mk (HE.out.below X2.out); have HB2 := Aside0.mk (below_then HB.out HB.out.size X2.out); clear hk hg
               have GP : Aside0 (g7 ≠ p ∧ g7 ≠ b) := Aside0.mk (by have h1 := HPW.out; have h2 := G7.out; omega)
               have c1_w2 : w2.cell? ⟨g7, 1, none⟩ = some (.int .i64 x.f1) := BK2.out.cell 1; have c2_w2 : w2.cell? ⟨g7, 2, none⟩ = some (.string x.f2) := BK2.out.cell 2; have c6_w2 : w2.cell? ⟨g7, 6, none⟩ = some (.slice A6 x.f6.length c6) := BK2.out.cell 6))
          go_roundg k1
          case measure => have := HK.out; omega
          case rel => exact ⟨i + 1, s, (by first | rfl | (simp; done) | (simp [*]; done)), rfl, ⟨by have := HK.out; omega⟩, ⟨by omega⟩, HE2, HI, ⟨by have := HSN.out; omega⟩, HB2⟩
        · have c6c : ¬ (10000 : Int) < (x.f6.length : Int) := by omega
          have hw1 : wrap64 (s.n + 1) = s.n + 1 := by rw [Go.IntWalk.wrap64_in _ (by have := HI.out.n0; have := HN.out; omega)]
          have hw2 : IntKind.i64.wrap (s.n + 1) = s.n + 1 := by rw [IntKind.wrap_i64]; have := HI.out.n0; have := HN.out; omega
          have ht1 : ¬ s.n + 1 ≤ s.n := by omega
          have ht2 : ¬ s.n + 1 ≤ 0 := by have := HI.out.n0; omega
          rcases get_cases s (x.f1, x.f2) with hgv | ⟨y, hgv⟩
          · have HG := Aside0.mk hgv
            rcases create_cases HI.out x.f1 x.f2 x.f6 with ⟨f, hf, hcv⟩ | ⟨s', hcv, hI', hn', y', hg', hyv, hyB⟩
            · have HV := Aside0.mk hcv
              have kf1 : (f == 0) = false := beq_eq_false_iff_ne.2 hf
              have kf2 : (f != 0) = true := bne_iff_ne.2 hf
              clear hcv hf hgv
              go_wp2_with (first
                | ((with_reducible refine gate_dst (N := 7) rfl ?_); refine new_at rfl (t := 28) rfl opZ (.agg opZ.toArray) (fun W => zero_op W) rfl ?_; intro g7 hg w1 hk hb
                   have BZ7 := Aside0.mk hk; have X1 := Aside0.mk hb; have G7 : Aside0 (wr.heap.size ≤ g7) := Aside0.mk (by omega); clear hk hb hg)
                | ((with_reducible refine gate_store (p := 7) rfl ?_); refine store_at rfl (t := 28) rfl rfl g7 0 _ 28 _ rfl rfl BZ7.out (opC x A6 c6) rfl size_op (show (8 : Nat) ≤ 8 from Nat.le_refl 8) (op_one _ _ _) ?_; intro w2 hk hg
                   have BK2 : Aside0 (Blk w2 g7 (opC x A6 c6) 28) := Aside0.mk hk; have X2 := Aside0.mk (pw_below_grown X1.out (some g7) X1.out.size hg (fun k e => by cases e; exact G7.out)); have HE2 := Aside0.mk (HE.out.below X2.out); have HB2 := Aside0.mk (below_then HB.out HB.out.size X2.out); clear hk hg
                   have GP : Aside0 (g7 ≠ p ∧ g7 ≠ b) := Aside0.mk (by have h1 := HPW.out; have h2 := G7.out; omega)
                   have c1_w2 : w2.cell? ⟨g7, 1, none⟩ = some (.int .i64 x.f1) := BK2.out.cell 1; have c2_w2 : w2.cell? ⟨g7, 2, none⟩ = some (.string x.f2) := BK2.out.cell 2; have c6_w2 : w2.cell? ⟨g7, 6, none⟩ = some (.slice A6 x.f6.length c6) := BK2.out.cell 6)
                | (go_at_call 9; (with_reducible refine (id ?_ : Calls _ _ _ w2 _)); refine (Get.to HE2.out HI.out.fits HG.out).mono ?_; rintro e w3 ⟨z3, rfl, hz, hzy, hb⟩
                   have HZ3 := Aside0.mk hz; have HZY3 := Aside0.mk hzy; have X3 := Aside0.mk hb; clear hz hzy hb
                   have HE3 := Aside0.mk (HE2.out.below X3.out); have HB3 := Aside0.mk (below_then HB2.out HB2.out.size X3.out); have BK3 := Aside0.mk (BK2.out.below X3.out)
                   have hzv : z3.ver = 0 := by have h := HZY3.out; exact congrArg PI.ver h)
                | ((with_reducible refine gate_dst (N := 8) rfl ?_); refine new_at rfl (t := 31) rfl noItem.cells (itemV noItem) (fun W => zero_item W) rfl ?_; intro g8 hg w4 hk hb
                   have BZ8 := Aside0.mk hk; have XA8 := Aside0.mk hb; have G8 : Aside0 (w3.heap.size ≤ g8) := Aside0.mk (by omega); clear hk hb hg)
                | ((with_reducible refine gate_store (p := 8) rfl ?_); refine store_at rfl (t := 31) rfl rfl g8 0 _ 31 _ rfl rfl BZ8.out z3.cells rfl size_item (show (6 : Nat) ≤ 6 from Nat.le_refl 6) (cells_one _) ?_; intro w5 hk hg
                   have BI8 : Aside0 (Blk w5 g8 z3.cells 31) := Aside0.mk hk; have XB8 := Aside0.mk (pw_below_grown XA8.out (some g8) XA8.out.size hg (fun k e => by cases e; exact G8.out)); clear hk hg
                   have HE5 := Aside0.mk (HE3.out.below XB8.out); have HB5 := Aside0.mk (below_then HB3.out HB3.out.size XB8.out); have BK5 := Aside0.mk (BK3.out.below XB8.out)
                   have GB8 : Aside0 (g8 ≠ p ∧ g8 ≠ b) := Aside0.mk (by have h1 := HE3.out.lt; have h2 := G8.out; omega)
                   have c1_w5 : w5.cell? ⟨g7, 1, none⟩ = some (.int .i64 x.f1) := BK5.out.cell 1; have c2_w5 : w5.cell? ⟨g7, 2, none⟩ = some (.string x.f2) := BK5.out.cell 2; have c6_w5 : w5.cell? ⟨g7, 6, none⟩ = some (.slice A6 x.f6.length c6) := BK5.out.cell 6
                   have v8_w5 : w5.cell? ⟨g8, 2, none⟩ = some (.int .i64 (0)) := (BI8.out.cell 2).trans (congrArg (fun q => some (Value.int .i64 q)) hzv); have BI5 := BI8)
                | (go_at_call 10; (with_reducible refine (id ?_ : Calls _ _ _ w5 _)); refine (Writes.calls _ p s HE5.out.at).mono ?_; rintro e w5x ⟨rfl, hw⟩
                   have hw' := hw.symm; clear hw; subst hw')
                | (go_at_call 11; (with_reducible refine (id ?_ : Calls _ _ _ w5 _)); refine (Create.to A6 c6 x.f6 HE5.out HI.out.n0 HN.out (Kd.C_below HR6.out HB5.out) HC6.out HV.out).mono ?_; rintro e w6 ⟨rfl, he, hc⟩
                   have HE6 := Aside0.mk he; have HB6 := Aside0.mk (hc.below HB5.out HB5.out.size HP.out HQ.out); have BK6 := Aside0.mk (blk_chg hc BK5.out GP.out.1 GP.out.2); have BI6 := Aside0.mk (blk_chg hc BI5.out GB8.out.1 GB8.out.2); clear he hc
                   have c1_w6 : w6.cell? ⟨g7, 1, none⟩ = some (.int .i64 x.f1) := BK6.out.cell 1; have c2_w6 : w6.cell? ⟨g7, 2, none⟩ = some (.string x.f2) := BK6.out.cell 2; have c6_w6 : w6.cell? ⟨g7, 6, none⟩ = some (.slice A6 x.f6.length c6) := BK6.out.cell 6
                   have v8_w6 : w6.cell? ⟨g8, 2, none⟩ = some (.int .i64 (0)) := (BI6.out.cell 2).trans (congrArg (fun q => some (Value.int .i64 q)) hzv))
                | (go_at_call 10; (with_reducible refine (id ?_ : Calls _ _ _ w6 _)); refine (Writes.calls _ p s HE6.out.at).mono ?_; rintro e w6x ⟨rfl, hw⟩
                   have hw' := hw.symm; clear hw; subst hw'))
              go_roundg k1
              case measure => have := HK.out; omega
              case rel => exact ⟨i + 1, s, (by first | rfl | (simp; done) | (simp [*]; done)), rfl, ⟨by have := HK.out; omega⟩, ⟨by omega⟩, HE6, HI, ⟨by have := HSN.out; omega⟩, HB6⟩
            · have HV := Aside0.mk hcv
              have HI' := Aside0.mk hI'
              have HG' := Aside0.mk hg'
              have HYV := Aside0.mk hyv
              have HYB := Aside0.mk hyB
              have HN' : Aside0 (s'.n < 1000000000) := Aside0.mk (by have := HSN.out; have := HLEN.out; omega)
              clear hcv hI' hg' hyv hyB hgv
              go_wp2_with (first
                | ((with_reducible refine gate_dst (N := 7) rfl ?_); refine new_at rfl (t := 28) rfl opZ (.agg opZ.toArray) (fun W => zero_op W) rfl ?_; intro g7 hg w1 hk hb
                   have BZ7 := Aside0.mk hk; have X1 := Aside0.mk hb; have G7 : Aside0 (wr.heap.size ≤ g7) := Aside0.mk (by omega); clear hk hb hg)
                | ((with_reducible refine gate_store (p := 7) rfl ?_); refine store_at rfl (t := 28) rfl rfl g7 0 _ 28 _ rfl rfl BZ7.out (opC x A6 c6) rfl size_op (show (8 : Nat) ≤ 8 from Nat.le_refl 8) (op_one _ _ _) ?_; intro w2 hk hg
                   have BK2 : Aside0 (Blk w2 g7 (opC x A6 c6) 28) := Aside0.mk hk; have X2 := Aside0.mk (pw_below_grown X1.out (some g7) X1.out.size hg (fun k e => by cases e; exact G7.out)); have HE2 := Aside0.mk (HE.out.below X2.out); have HB2 := Aside0.mk (below_then HB.out HB.out.size X2.out); clear hk hg
                   have GP : Aside0 (g7 ≠ p ∧ g7 ≠ b) := Aside0.mk (by have h1 := HPW.out; have h2 := G7.out; omega)
                   have c1_w2 : w2.cell? ⟨g7, 1, none⟩ = some (.int .i64 x.f1) := BK2.out.cell 1; have c2_w2 : w2.cell? ⟨g7, 2, none⟩ = some (.string x.f2) := BK2.out.cell 2; have c6_w2 : w2.cell? ⟨g7, 6, none⟩ = some (.slice A6 x.f6.length c6) := BK2.out.cell 6)
                | (go_at_call 9; (with_reducible refine (id ?_ : Calls _ _ _ w2 _)); refine (Get.to HE2.out HI.out.fits HG.out).mono ?_; rintro e w3 ⟨z3, rfl, hz, hzy, hb⟩
                   have HZ3 := Aside0.mk hz; have HZY3 := Aside0.mk hzy; have X3 := Aside0.mk hb; clear hz hzy hb
                   have HE3 := Aside0.mk (HE2.out.below X3.out); have HB3 := Aside0.mk (below_then HB2.out HB2.out.size X3.out); have BK3 := Aside0.mk (BK2.out.below X3.out)
                   have hzv : z3.ver = 0 := by have h := HZY3.out; exact congrArg PI.ver h)
                | ((with_reducible refine gate_dst (N := 8) rfl ?_); refine new_at rfl (t := 31) rfl noItem.cells (itemV noItem) (fun W => zero_item W) rfl ?_; intro g8 hg w4 hk hb
                   have BZ8 := Aside0.mk hk; have XA8 := Aside0.mk hb; have G8 : Aside0 (w3.heap.size ≤ g8) := Aside0.mk (by omega); clear hk hb hg)
                | ((with_reducible refine gate_store (p := 8) rfl ?_); refine store_at rfl (t := 31) rfl rfl g8 0 _ 31 _ rfl rfl BZ8.out z3.cells rfl size_item (show (6 : Nat) ≤ 6 from Nat.le_refl 6) (cells_one _) ?_; intro w5 hk hg
                   have BI8 : Aside0 (Blk w5 g8 z3.cells 31) := Aside0.mk hk; have XB8 := Aside0.mk (pw_below_grown XA8.out (some g8) XA8.out.size hg (fun k e => by cases e; exact G8.out)); clear hk hg
                   have HE5 := Aside0.mk (HE3.out.below XB8.out); have HB5 := Aside0.mk (below_then HB3.out HB3.out.size XB8.out); have BK5 := Aside0.mk (BK3.out.below XB8.out)
                   have GB8 : Aside0 (g8 ≠ p ∧ g8 ≠ b) := Aside0.mk (by have h1 := HE3.out.lt; have h2 := G8.out; omega)
                   have c1_w5 : w5.cell? ⟨g7, 1, none⟩ = some (.int .i64 x.f1) := BK5.out.cell 1; have c2_w5 : w5.cell? ⟨g7, 2, none⟩ = some (.string x.f2) := BK5.out.cell 2; have c6_w5 : w5.cell? ⟨g7, 6, none⟩ = some (.slice A6 x.f6.length c6) := BK5.out.cell 6
                   have v8_w5 : w5.cell? ⟨g8, 2, none⟩ = some (.int .i64 (0)) := (BI8.out.cell 2).trans (congrArg (fun q => some (Value.int .i64 q)) hzv); have BI5 := BI8)
                | (go_at_call 10; (with_reducible refine (id ?_ : Calls _ _ _ w5 _)); refine (Writes.calls _ p s HE5.out.at).mono ?_; rintro e w5x ⟨rfl, hw⟩
                   have hw' := hw.symm; clear hw; subst hw')
                | (go_at_call 11; (with_reducible refine (id ?_ : Calls _ _ _ w5 _)); refine (Create.to A6 c6 x.f6 HE5.out HI.out.n0 HN.out (Kd.C_below HR6.out HB5.out) HC6.out HV.out).mono ?_; rintro e w6 ⟨rfl, he, hc⟩
                   have HE6 := Aside0.mk he; have HB6 := Aside0.mk (hc.below HB5.out HB5.out.size HP.out HQ.out); have BK6 := Aside0.mk (blk_chg hc BK5.out GP.out.1 GP.out.2); have BI6 := Aside0.mk (blk_chg hc BI5.out GB8.out.1 GB8.out.2); clear he hc
                   have c1_w6 : w6.cell? ⟨g7, 1, none⟩ = some (.int .i64 x.f1) := BK6.out.cell 1; have c2_w6 : w6.cell? ⟨g7, 2, none⟩ = some (.string x.f2) := BK6.out.cell 2; have c6_w6 : w6.cell? ⟨g7, 6, none⟩ = some (.slice A6 x.f6.length c6) := BK6.out.cell 6
                   have v8_w6 : w6.cell? ⟨g8, 2, none⟩ = some (.int .i64 (0)) := (BI6.out.cell 2).trans (congrArg (fun q => some (Value.int .i64 q)) hzv))
                | (go_at_call 10; (with_reducible refine (id ?_ : Calls _ _ _ w6 _)); refine (Writes.calls _ p s' HE6.out.at).mono ?_; rintro e w6x ⟨rfl, hw⟩
                   have hw' := hw.symm; clear hw; subst hw')
                | (go_at_call 9; (with_reducible refine (id ?_ : Calls _ _ _ w6 _)); refine (Get.to HE6.out HI'.out.fits HG'.out).mono ?_; rintro e w7 ⟨z7, rfl, hz, hzy, hb⟩
                   have HZ7 := Aside0.mk hz; have HZY7 := Aside0.mk hzy; have X7 := Aside0.mk hb; clear hz hzy hb
                   have HE7 := Aside0.mk (HE6.out.below X7.out); have HB7 := Aside0.mk (below_then HB6.out HB6.out.size X7.out); have BK7 := Aside0.mk (BK6.out.below X7.out); have BI7 := Aside0.mk (BI6.out.below X7.out))
                | ((with_reducible refine gate_dst (N := 15) rfl ?_); refine new_at rfl (t := 31) rfl noItem.cells (itemV noItem) (fun W => zero_item W) rfl ?_; intro g15 hg w8 hk hb
                   have BZ15 := Aside0.mk hk; have XA15 := Aside0.mk hb; have G15 : Aside0 (w7.heap.size ≤ g15) := Aside0.mk (by omega); clear hk hb hg)
                | ((with_reducible refine gate_store (p := 15) rfl ?_); refine store_at rfl (t := 31) rfl rfl g15 0 _ 31 _ rfl rfl BZ15.out z7.cells rfl size_item (show (6 : Nat) ≤ 6 from Nat.le_refl 6) (cells_one _) ?_; intro w9 hk hg
                   have BI15 : Aside0 (Blk w9 g15 z7.cells 31) := Aside0.mk hk; have XB15 := Aside0.mk (pw_below_grown XA15.out (some g15) XA15.out.size hg (fun k e => by cases e; exact G15.out)); clear hk hg
                   have HE9 := Aside0.mk (HE7.out.below XB15.out); have HB9 := Aside0.mk (below_then HB7.out HB7.out.size XB15.out); have BK9 := Aside0.mk (BK7.out.below XB15.out)
                   have GB15 : Aside0 (g15 ≠ p ∧ g15 ≠ b) := Aside0.mk (by have h1 := HE7.out.lt; have h2 := G15.out; omega)
                   have c1_w9 : w9.cell? ⟨g7, 1, none⟩ = some (.int .i64 x.f1) := BK9.out.cell 1; have c2_w9 : w9.cell? ⟨g7, 2, none⟩ = some (.string x.f2) := BK9.out.cell 2; have c6_w9 : w9.cell? ⟨g7, 6, none⟩ = some (.slice A6 x.f6.length c6) := BK9.out.cell 6
                   have y15 : w9.cell? ⟨g15, 2, none⟩ = some (.int .i64 (s.n + 1)) := (BI15.out.cell 2).trans (congrArg (fun q => some (Value.int .i64 q)) ((congrArg PI.ver HZY7.out).trans HYV.out))
                   have hzB : z7.B = x.f6 := (congrArg PI.B HZY7.out).trans HYB.out
                   have b15 : w9.cell? ⟨g15, 4, none⟩ = some (.slice z7.ba x.f6.length z7.bc) := by have h : w9.cell? ⟨g15, 4, none⟩ = some (.slice z7.ba z7.B.length z7.bc) := BI15.out.cell 4; rw [hzB] at h; exact h
                   have hq1 : (convert 26 9 (.slice z7.ba x.f6.length z7.bc)).run Try.prog w9 = .ok (.string (strOfNums x.f6)) w9 := by have h := Kd.C_string (c := z7.bc) (P := Try.prog) Try.underlying26 Try.underlying5 Try.underlying9 (HZ7.out.ok.below XB15.out).br; rw [hzB] at h; exact h
                   clear hzB
                   have hq2 : (convert 26 9 (.slice A6 x.f6.length c6)).run Try.prog w9 = .ok (.string (strOfNums x.f6)) w9 := Kd.C_string Try.underlying26 Try.underlying5 Try.underlying9 (Kd.C_below HR6.out HB9.out)))
              go_roundg k1
              case measure => have := HK.out; omega
              case rel => exact ⟨i + 1, s', (by first | rfl | (simp; done) | (simp [*]; done)), (by rw [hn']), ⟨by have := HK.out; omega⟩, ⟨by omega⟩, HE9, HI', ⟨by have := HSN.out; omega⟩, HB9⟩
          · have HG := Aside0.mk hgv
            have ht3 : ¬ s.n + 1 ≤ y.ver := by have := HI.out.ver _ (lmem (get_some hgv)); dsimp only at this; omega
            rcases update_cases HI.out x.f1 x.f2 x.f6 y hgv with ⟨f, hf, hcv⟩ | ⟨s', hcv, hI', hn', hu2, y', hg', hyv, hyB⟩
            · have HV := Aside0.mk hcv
              have kf1 : (f == 0) = false := beq_eq_false_iff_ne.2 hf
              have kf2 : (f != 0) = true := bne_iff_ne.2 hf
              clear hcv hf hgv
              go_wp2_with (first
                | ((with_reducible refine gate_dst (N := 7) rfl ?_); refine new_at rfl (t := 28) rfl opZ (.agg opZ.toArray) (fun W => zero_op W) rfl ?_; intro g7 hg w1 hk hb
                   have BZ7 := Aside0.mk hk; have X1 := Aside0.mk hb; have G7 : Aside0 (wr.heap.size ≤ g7) := Aside0.mk (by omega); clear hk hb hg)
                | ((with_reducible refine gate_store (p := 7) rfl ?_); refine store_at rfl (t := 28) rfl rfl g7 0 _ 28 _ rfl rfl BZ7.out (opC x A6 c6) rfl size_op (show (8 : Nat) ≤ 8 from Nat.le_refl 8) (op_one _ _ _) ?_; intro w2 hk hg
                   have BK2 : Aside0 (Blk w2 g7 (opC x A6 c6) 28) := Aside0.mk hk; have X2 := Aside0.mk (pw_below_grown X1.out (some g7) X1.out.size hg (fun k e => by cases e; exact G7.out)); have HE2 := Aside0.mk (HE.out.below X2.out); have HB2 := Aside0.mk (below_then HB.out HB.out.size X2.out); clear hk hg
                   have GP : Aside0 (g7 ≠ p ∧ g7 ≠ b) := Aside0.mk (by have h1 := HPW.out; have h2 := G7.out; omega)
                   have c1_w2 : w2.cell? ⟨g7, 1, none⟩ = some (.int .i64 x.f1) := BK2.out.cell 1; have c2_w2 : w2.cell? ⟨g7, 2, none⟩ = some (.string x.f2) := BK2.out.cell 2; have c6_w2 : w2.cell? ⟨g7, 6, none⟩ = some (.slice A6 x.f6.length c6) := BK2.out.cell 6)
                | (go_at_call 9; (with_reducible refine (id ?_ : Calls _ _ _ w2 _)); refine (Get.to HE2.out HI.out.fits HG.out).mono ?_; rintro e w3 ⟨z3, rfl, hz, hzy, hb⟩
                   have HZ3 := Aside0.mk hz; have HZY3 := Aside0.mk hzy; have X3 := Aside0.mk hb; clear hz hzy hb
                   have HE3 := Aside0.mk (HE2.out.below X3.out); have HB3 := Aside0.mk (below_then HB2.out HB2.out.size X3.out); have BK3 := Aside0.mk (BK2.out.below X3.out)
                   have hzv : z3.ver = y.ver := by have h := HZY3.out; exact congrArg PI.ver h)
                | ((with_reducible refine gate_dst (N := 8) rfl ?_); refine new_at rfl (t := 31) rfl noItem.cells (itemV noItem) (fun W => zero_item W) rfl ?_; intro g8 hg w4 hk hb
                   have BZ8 := Aside0.mk hk; have XA8 := Aside0.mk hb; have G8 : Aside0 (w3.heap.size ≤ g8) := Aside0.mk (by omega); clear hk hb hg)
                | ((with_reducible refine gate_store (p := 8) rfl ?_); refine store_at rfl (t := 31) rfl rfl g8 0 _ 31 _ rfl rfl BZ8.out z3.cells rfl size_item (show (6 : Nat) ≤ 6 from Nat.le_refl 6) (cells_one _) ?_; intro w5 hk hg
                   have BI8 : Aside0 (Blk w5 g8 z3.cells 31) := Aside0.mk hk; have XB8 := Aside0.mk (pw_below_grown XA8.out (some g8) XA8.out.size hg (fun k e => by cases e; exact G8.out)); clear hk hg
                   have HE5 := Aside0.mk (HE3.out.below XB8.out); have HB5 := Aside0.mk (below_then HB3.out HB3.out.size XB8.out); have BK5 := Aside0.mk (BK3.out.below XB8.out)
                   have GB8 : Aside0 (g8 ≠ p ∧ g8 ≠ b) := Aside0.mk (by have h1 := HE3.out.lt; have h2 := G8.out; omega)
                   have c1_w5 : w5.cell? ⟨g7, 1, none⟩ = some (.int .i64 x.f1) := BK5.out.cell 1; have c2_w5 : w5.cell? ⟨g7, 2, none⟩ = some (.string x.f2) := BK5.out.cell 2; have c6_w5 : w5.cell? ⟨g7, 6, none⟩ = some (.slice A6 x.f6.length c6) := BK5.out.cell 6
                   have v8_w5 : w5.cell? ⟨g8, 2, none⟩ = some (.int .i64 (y.ver)) := (BI8.out.cell 2).trans (congrArg (fun q => some (Value.int .i64 q)) hzv); have BI5 := BI8)
                | (go_at_call 10; (with_reducible refine (id ?_ : Calls _ _ _ w5 _)); refine (Writes.calls _ p s HE5.out.at).mono ?_; rintro e w5x ⟨rfl, hw⟩
                   have hw' := hw.symm; clear hw; subst hw')
                | (go_at_call 12; (with_reducible refine (id ?_ : Calls _ _ _ w5 _)); refine (Update.to A6 c6 x.f6 HE5.out HI.out.n0 HN.out (Kd.C_below HR6.out HB5.out) HC6.out HV.out).mono ?_; rintro e w6 ⟨rfl, he, hc⟩
                   have HE6 := Aside0.mk he; have HB6 := Aside0.mk (hc.below HB5.out HB5.out.size HP.out HQ.out); have BK6 := Aside0.mk (blk_chg hc BK5.out GP.out.1 GP.out.2); have BI6 := Aside0.mk (blk_chg hc BI5.out GB8.out.1 GB8.out.2); clear he hc
                   have c1_w6 : w6.cell? ⟨g7, 1, none⟩ = some (.int .i64 x.f1) := BK6.out.cell 1; have c2_w6 : w6.cell? ⟨g7, 2, none⟩ = some (.string x.f2) := BK6.out.cell 2; have c6_w6 : w6.cell? ⟨g7, 6, none⟩ = some (.slice A6 x.f6.length c6) := BK6.out.cell 6
                   have v8_w6 : w6.cell? ⟨g8, 2, none⟩ = some (.int .i64 (y.ver)) := (BI6.out.cell 2).trans (congrArg (fun q => some (Value.int .i64 q)) hzv))
                | (go_at_call 10; (with_reducible refine (id ?_ : Calls _ _ _ w6 _)); refine (Writes.calls _ p s HE6.out.at).mono ?_; rintro e w6x ⟨rfl, hw⟩
                   have hw' := hw.symm; clear hw; subst hw'))
              go_roundg k1
              case measure => have := HK.out; omega
              case rel => exact ⟨i + 1, s, (by first | rfl | (simp; done) | (simp [*]; done)), rfl, ⟨by have := HK.out; omega⟩, ⟨by omega⟩, HE6, HI, ⟨by have := HSN.out; omega⟩, HB6⟩
            · have HV := Aside0.mk hcv
              have HI' := Aside0.mk hI'
              have HG' := Aside0.mk hg'
              have HYV := Aside0.mk hyv
              have HYB := Aside0.mk hyB
              have HN' : Aside0 (s'.n < 1000000000) := Aside0.mk (by have := HSN.out; have := HLEN.out; omega)
              have HU2 := Aside0.mk hu2
              clear hu2 hcv hI' hg' hyv hyB hgv
              go_wp2_with (first
                | ((with_reducible refine gate_dst (N := 7) rfl ?_); refine new_at rfl (t := 28) rfl opZ (.agg opZ.toArray) (fun W => zero_op W) rfl ?_; intro g7 hg w1 hk hb
                   have BZ7 := Aside0.mk hk; have X1 := Aside0.mk hb; have G7 : Aside0 (wr.heap.size ≤ g7) := Aside0.mk (by omega); clear hk hb hg)
                | ((with_reducible refine gate_store (p := 7) rfl ?_); refine store_at rfl (t := 28) rfl rfl g7 0 _ 28 _ rfl rfl BZ7.out (opC x A6 c6) rfl size_op (show (8 : Nat) ≤ 8 from Nat.le_refl 8) (op_one _ _ _) ?_; intro w2 hk hg
                   have BK2 : Aside0 (Blk w2 g7 (opC x A6 c6) 28) := Aside0.mk hk; have X2 := Aside0.mk (pw_below_grown X1.out (some g7) X1.out.size hg (fun k e => by cases e; exact G7.out)); have HE2 := Aside0.mk (HE.out.below X2.out); have HB2 := Aside0.mk (below_then HB.out HB.out.size X2.out); clear hk hg
                   have GP : Aside0 (g7 ≠ p ∧ g7 ≠ b) := Aside0.mk (by have h1 := HPW.out; have h2 := G7.out; omega)
                   have c1_w2 : w2.cell? ⟨g7, 1, none⟩ = some (.int .i64 x.f1) := BK2.out.cell 1; have c2_w2 : w2.cell? ⟨g7, 2, none⟩ = some (.string x.f2) := BK2.out.cell 2; have c6_w2 : w2.cell? ⟨g7, 6, none⟩ = some (.slice A6 x.f6.length c6) := BK2.out.cell 6)
                | (go_at_call 9; (with_reducible refine (id ?_ : Calls _ _ _ w2 _)); refine (Get.to HE2.out HI.out.fits HG.out).mono ?_; rintro e w3 ⟨z3, rfl, hz, hzy, hb⟩
                   have HZ3 := Aside0.mk hz; have HZY3 := Aside0.mk hzy; have X3 := Aside0.mk hb; clear hz hzy hb
                   have HE3 := Aside0.mk (HE2.out.below X3.out); have HB3 := Aside0.mk (below_then HB2.out HB2.out.size X3.out); have BK3 := Aside0.mk (BK2.out.below X3.out)
                   have hzv : z3.ver = y.ver := by have h := HZY3.out; exact congrArg PI.ver h)
                | ((with_reducible refine gate_dst (N := 8) rfl ?_); refine new_at rfl (t := 31) rfl noItem.cells (itemV noItem) (fun W => zero_item W) rfl ?_; intro g8 hg w4 hk hb
                   have BZ8 := Aside0.mk hk; have XA8 := Aside0.mk hb; have G8 : Aside0 (w3.heap.size ≤ g8) := Aside0.mk (by omega); clear hk hb hg)
                | ((with_reducible refine gate_store (p := 8) rfl ?_); refine store_at rfl (t := 31) rfl rfl g8 0 _ 31 _ rfl rfl BZ8.out z3.cells rfl size_item (show (6 : Nat) ≤ 6 from Nat.le_refl 6) (cells_one _) ?_; intro w5 hk hg
                   have BI8 : Aside0 (Blk w5 g8 z3.cells 31) := Aside0.mk hk; have XB8 := Aside0.mk (pw_below_grown XA8.out (some g8) XA8.out.size hg (fun k e => by cases e; exact G8.out)); clear hk hg
                   have HE5 := Aside0.mk (HE3.out.below XB8.out); have HB5 := Aside0.mk (below_then HB3.out HB3.out.size XB8.out); have BK5 := Aside0.mk (BK3.out.below XB8.out)
                   have GB8 : Aside0 (g8 ≠ p ∧ g8 ≠ b) := Aside0.mk (by have h1 := HE3.out.lt; have h2 := G8.out; omega)
                   have c1_w5 : w5.cell? ⟨g7, 1, none⟩ = some (.int .i64 x.f1) := BK5.out.cell 1; have c2_w5 : w5.cell? ⟨g7, 2, none⟩ = some (.string x.f2) := BK5.out.cell 2; have c6_w5 : w5.cell? ⟨g7, 6, none⟩ = some (.slice A6 x.f6.length c6) := BK5.out.cell 6
                   have v8_w5 : w5.cell? ⟨g8, 2, none⟩ = some (.int .i64 (y.ver)) := (BI8.out.cell 2).trans (congrArg (fun q => some (Value.int .i64 q)) hzv); have BI5 := BI8)
                | (go_at_call 10; (with_reducible refine (id ?_ : Calls _ _ _ w5 _)); refine (Writes.calls _ p s HE5.out.at).mono ?_; rintro e w5x ⟨rfl, hw⟩
                   have hw' := hw.symm; clear hw; subst hw')
                | (go_at_call 12; (with_reducible refine (id ?_ : Calls _ _ _ w5 _)); refine (Update.to A6 c6 x.f6 HE5.out HI.out.n0 HN.out (Kd.C_below HR6.out HB5.out) HC6.out HV.out).mono ?_; rintro e w6 ⟨rfl, he, hc⟩
                   have HE6 := Aside0.mk he; have HB6 := Aside0.mk (hc.below HB5.out HB5.out.size HP.out HQ.out); have BK6 := Aside0.mk (blk_chg hc BK5.out GP.out.1 GP.out.2); have BI6 := Aside0.mk (blk_chg hc BI5.out GB8.out.1 GB8.out.2); clear he hc
                   have c1_w6 : w6.cell? ⟨g7, 1, none⟩ = some (.int .i64 x.f1) := BK6.out.cell 1; have c2_w6 : w6.cell? ⟨g7, 2, none⟩ = some (.string x.f2) := BK6.out.cell 2; have c6_w6 : w6.cell? ⟨g7, 6, none⟩ = some (.slice A6 x.f6.length c6) := BK6.out.cell 6
                   have v8_w6 : w6.cell? ⟨g8, 2, none⟩ = some (.int .i64 (y.ver)) := (BI6.out.cell 2).trans (congrArg (fun q => some (Value.int .i64 q)) hzv))
                | (go_at_call 10; (with_reducible refine (id ?_ : Calls _ _ _ w6 _)); refine (Writes.calls _ p s' HE6.out.at).mono ?_; rintro e w6x ⟨rfl, hw⟩
                   have hw' := hw.symm; clear hw; subst hw')
                | (go_at_call 12; (with_reducible refine (id ?_ : Calls _ _ _ w6 _)); refine (Update.to none 0 [] HE6.out HI'.out.n0 HN'.out (Kd.C_nil _ _) (Nat.le_refl 0) HU2.out).mono ?_; rintro e w7 ⟨rfl, he, hc⟩
                   have HE7 := Aside0.mk he; have HB7 := Aside0.mk (hc.below HB6.out HB6.out.size HP.out HQ.out); have BK7 := Aside0.mk (blk_chg hc BK6.out GP.out.1 GP.out.2); have BI7 := Aside0.mk (blk_chg hc BI6.out GB8.out.1 GB8.out.2); clear he hc
                   have c1_w7 : w7.cell? ⟨g7, 1, none⟩ = some (.int .i64 x.f1) := BK7.out.cell 1; have c2_w7 : w7.cell? ⟨g7, 2, none⟩ = some (.string x.f2) := BK7.out.cell 2; have c6_w7 : w7.cell? ⟨g7, 6, none⟩ = some (.slice A6 x.f6.length c6) := BK7.out.cell 6)
                | (go_at_call 9; (with_reducible refine (id ?_ : Calls _ _ _ w7 _)); refine (Get.to HE7.out HI'.out.fits HG'.out).mono ?_; rintro e w8 ⟨z8, rfl, hz, hzy, hb⟩
                   have HZ8 := Aside0.mk hz; have HZY8 := Aside0.mk hzy; have X8 := Aside0.mk hb; clear hz hzy hb
                   have HE8 := Aside0.mk (HE7.out.below X8.out); have HB8 := Aside0.mk (below_then HB7.out HB7.out.size X8.out); have BK8 := Aside0.mk (BK7.out.below X8.out); have BI8 := Aside0.mk (BI7.out.below X8.out))
                | ((with_reducible refine gate_dst (N := 15) rfl ?_); refine new_at rfl (t := 31) rfl noItem.cells (itemV noItem) (fun W => zero_item W) rfl ?_; intro g15 hg w9 hk hb
                   have BZ15 := Aside0.mk hk; have XA15 := Aside0.mk hb; have G15 : Aside0 (w8.heap.size ≤ g15) := Aside0.mk (by omega); clear hk hb hg)
                | ((with_reducible refine gate_store (p := 15) rfl ?_); refine store_at rfl (t := 31) rfl rfl g15 0 _ 31 _ rfl rfl BZ15.out z8.cells rfl size_item (show (6 : Nat) ≤ 6 from Nat.le_refl 6) (cells_one _) ?_; intro w10 hk hg
                   have BI15 : Aside0 (Blk w10 g15 z8.cells 31) := Aside0.mk hk; have XB15 := Aside0.mk (pw_below_grown XA15.out (some g15) XA15.out.size hg (fun k e => by cases e; exact G15.out)); clear hk hg
                   have HE10 := Aside0.mk (HE8.out.below XB15.out); have HB10 := Aside0.mk (below_then HB8.out HB8.out.size XB15.out); have BK10 := Aside0.mk (BK8.out.below XB15.out)
                   have GB15 : Aside0 (g15 ≠ p ∧ g15 ≠ b) := Aside0.mk (by have h1 := HE8.out.lt; have h2 := G15.out; omega)
                   have c1_w10 : w10.cell? ⟨g7, 1, none⟩ = some (.int .i64 x.f1) := BK10.out.cell 1; have c2_w10 : w10.cell? ⟨g7, 2, none⟩ = some (.string x.f2) := BK10.out.cell 2; have c6_w10 : w10.cell? ⟨g7, 6, none⟩ = some (.slice A6 x.f6.length c6) := BK10.out.cell 6
                   have y15 : w10.cell? ⟨g15, 2, none⟩ = some (.int .i64 (s.n + 1)) := (BI15.out.cell 2).trans (congrArg (fun q => some (Value.int .i64 q)) ((congrArg PI.ver HZY8.out).trans HYV.out))
                   have hzB : z8.B = x.f6 := (congrArg PI.B HZY8.out).trans HYB.out
                   have b15 : w10.cell? ⟨g15, 4, none⟩ = some (.slice z8.ba x.f6.length z8.bc) := by have h : w10.cell? ⟨g15, 4, none⟩ = some (.slice z8.ba z8.B.length z8.bc) := BI15.out.cell 4; rw [hzB] at h; exact h
                   have hq1 : (convert 26 9 (.slice z8.ba x.f6.length z8.bc)).run Try.prog w10 = .ok (.string (strOfNums x.f6)) w10 := by have h := Kd.C_string (c := z8.bc) (P := Try.prog) Try.underlying26 Try.underlying5 Try.underlying9 (HZ8.out.ok.below XB15.out).br; rw [hzB] at h; exact h
                   clear hzB
                   have hq2 : (convert 26 9 (.slice A6 x.f6.length c6)).run Try.prog w10 = .ok (.string (strOfNums x.f6)) w10 := Kd.C_string Try.underlying26 Try.underlying5 Try.underlying9 (Kd.C_below HR6.out HB10.out)))
              go_roundg k1
              case measure => have := HK.out; omega
              case rel => exact ⟨i + 1, s', (by first | rfl | (simp; done) | (simp [*]; done)), (by rw [hn']), ⟨by have := HK.out; omega⟩, ⟨by omega⟩, HE10, HI', ⟨by have := HSN.out; omega⟩, HB10⟩
      · have c5' : ¬ (i : Int) < (l0.length : Int) := by omega
        go_wp2
        go_ret
        exact ⟨rfl, HB.out⟩
end Go.Proofs.Ytmankbhlgjgnbaa.PAll
