import Derived.Test.YtmankbhlgjgnbaaESame
import Derived.Deep.DeepCutAuto
import Derived.Deep.CutBlock
namespace Go.Proofs.Ytmankbhlgjgnbaa.PAll
open Go.RowKit Go.Proofs.YtmankbhlgjgnbaaW.PrintWords Go.Proofs.YtmankbhlgjgnbaaW.PrintLast Go.Proofs.YtmankbhlgjgnbaaW.PrintMore Mem
set_option linter.unusedVariables false
set_option linter.unusedSimpArgs false
def sutlerlaw10_StoreRefuses.f (l0 : List S28) : Option Bool := some true
set_option maxHeartbeats 40000000 in
set_option maxRecDepth 100000 in
theorem sutlerlaw10_StoreRefuses.calls (A0 : Option Addr) (c0 : Nat) (l0 : List S28) (r : Bool) (w : World) (hr0 : Kd.C k28 w A0 l0.length l0) (hc0 : l0.length ≤ c0) (h : sutlerlaw10_StoreRefuses.f l0 = some r) :
  Calls Try.prog 5 #[.slice A0 l0.length c0] w fun e w' => e = .returned (.bool r) ∧ Below w.heap.size w w' := by
  obtain rfl := Option.some.inj h
  have HR0 := Aside0.mk hr0
  clear hr0 h
  by_cases hlong : l0.length > 200
  · have hlong' : (200 : Int) < (l0.length : Int) := by omega
    go_enter Try.func5, Try.ntmps5
    go_wp2_with (first
      | (go_at_call 7; refine (live.calls _).mono ?_; rintro e wl ⟨rfl, hb⟩
         have HBL := Aside0.mk hb; clear hb)
      | (go_at_call 8; refine (New.calls _).mono ?_; rintro e wn ⟨p, b, rfl, hp, hb, hs, hbl⟩
         have HP : Aside0 (w.heap.size ≤ p) := Aside0.mk (Nat.le_trans HBL.out.size hp); have HQ : Aside0 (w.heap.size ≤ b) := Aside0.mk (Nat.le_trans HBL.out.size hb); have HE0 : Aside0 (StoreE wn p b PAll.s0) := Aside0.mk ⟨[], hs, rfl⟩; have HBN := Aside0.mk (below_then HBL.out HBL.out.size hbl); clear hp hb hs hbl))
    go_ret
    exact ⟨rfl, HBN.out⟩
  have hlong' : ¬ (200 : Int) < (l0.length : Int) := by omega
  have HLEN := Aside0.mk (Nat.not_lt.1 hlong)
  clear hlong
  go_enter Try.func5, Try.ntmps5
  go_wp2_with (first
    | (go_at_call 7; refine (live.calls _).mono ?_; rintro e wl ⟨rfl, hb⟩
       have HBL := Aside0.mk hb; clear hb)
    | (go_at_call 8; refine (New.calls _).mono ?_; rintro e wn ⟨p, b, rfl, hp, hb, hs, hbl⟩
       have HP : Aside0 (w.heap.size ≤ p) := Aside0.mk (Nat.le_trans HBL.out.size hp); have HQ : Aside0 (w.heap.size ≤ b) := Aside0.mk (Nat.le_trans HBL.out.size hb); have HE0 : Aside0 (StoreE wn p b PAll.s0) := Aside0.mk ⟨[], hs, rfl⟩; have HBN := Aside0.mk (below_then HBL.out HBL.out.size hbl); clear hp hb hs hbl))
  go_loopg [30] (l0.length + 1) (fun kq v30 w' => ∃ (i : Nat) (s : St), v30 = .int .i64 (i : Int) ∧ Aside0 (kq + i = l0.length + 1) ∧ Aside0 (i ≤ l0.length) ∧ Aside0 (StoreE w' p b s) ∧ Aside0 (Inv s) ∧ Aside0 (s.n ≤ i) ∧ Aside0 (Below w.heap.size w w'))
  case atStart => exact ⟨0, PAll.s0, rfl, ⟨rfl⟩, ⟨Nat.zero_le _⟩, HE0, ⟨Inv.s0⟩, ⟨Int.le_refl _⟩, HBN⟩
  case round =>
    clear HE0 HBN HBL
    obtain ⟨i, s, rfl, HK, HI_, HE, HI, HSN, HB⟩ := hrel
    cases gk with
    | zero => exact absurd HK.out (by have := HI_.out; omega)
    | succ k1 =>
      by_cases c5 : i < l0.length
      · have c5' : (i : Int) < (l0.length : Int) := by omega
        have p0 : (0 : Int) ≤ (i : Int) := by omega
        obtain ⟨ad, A6, c6, e1, hx0, hx1, hx2, hx3, hx4, hx5, hx6, hx7, hl6, hr6⟩ := at_T28 HR0.out (i : Int) p0 c5'
        cases e1
        replace hx0 := pw_cell_below HB.out hx0
        replace hx1 := pw_cell_below HB.out hx1
        replace hx2 := pw_cell_below HB.out hx2
        replace hx3 := pw_cell_below HB.out hx3
        replace hx4 := pw_cell_below HB.out hx4
        replace hx5 := pw_cell_below HB.out hx5
        replace hx6 := pw_cell_below HB.out hx6
        replace hx7 := pw_cell_below HB.out hx7
        simp only [Int.toNat_natCast] at hx0 hx1 hx2 hx3 hx4 hx5 hx6 hx7
        have HR6 := Aside0.mk hr6
        have HC6 := Aside0.mk hl6
        clear hr6 hl6
        generalize rd_T28 l0 (i : Int) = x at *
        replace p0 := eq_true p0
        have hiw : wrap64 ((i : Int) + 1) = ((i + 1 : Nat) : Int) := w_succ (by have := HLEN.out; omega)
        have HN : Aside0 (s.n < 1000000000) := Aside0.mk (by have := HSN.out; have := HLEN.out; omega)
        have HPW := Aside0.mk HE.out.lt
        by_cases c6b : x.f6.length > 10000
        · have c6c : (10000 : Int) < (x.f6.length : Int) := by omega
          go_wp2_with (first
            | ((with_reducible refine gate_dst (N := 6) rfl ?_); refine new_at rfl (t := 28) rfl opZ (.agg opZ.toArray) (fun W => zero_op W) rfl ?_; intro gop hg w1 hk hb
               have BZo := Aside0.mk hk; have X1 := Aside0.mk hb; have Gop : Aside0 (wr.heap.size ≤ gop) := Aside0.mk (by omega); clear hk hb hg)
            | ((with_reducible refine gate_store (p := 6) rfl ?_); refine store_at rfl (t := 28) rfl rfl gop 0 _ 28 _ rfl rfl BZo.out (opC x A6 c6) rfl size_op (show (8 : Nat) ≤ 8 from Nat.le_refl 8) (op_one _ _ _) ?_; intro w2 hk hg
               have BK2 : Aside0 (Blk w2 gop (opC x A6 c6) 28) := Aside0.mk hk; have X2 := Aside0.mk (pw_below_grown X1.out (some gop) X1.out.size hg (fun k e => by cases e; exact Gop.out)); have HE2 := Aside0.mk (HE.out.below X2.out); have HB2 := Aside0.mk (below_then HB.out HB.out.size X2.out); clear hk hg
               have GP : Aside0 (gop ≠ p ∧ gop ≠ b) := Aside0.mk (by have h1 := HPW.out; have h2 := Gop.out; omega)
               have c1_w2 : w2.cell? ⟨gop, 1, none⟩ = some (.int .i64 x.f1) := BK2.out.cell 1; have c2_w2 : w2.cell? ⟨gop, 2, none⟩ = some (.string x.f2) := BK2.out.cell 2; have c6_w2 : w2.cell? ⟨gop, 6, none⟩ = some (.slice A6 x.f6.length c6) := BK2.out.cell 6))
          go_roundg k1
          case measure => have := HK.out; omega
          case rel => exact ⟨i + 1, s, (by first | rfl | (simp; done) | (simp [*]; done)), ⟨by have := HK.out; omega⟩, ⟨by omega⟩, HE2, HI, ⟨by have := HSN.out; omega⟩, HB2⟩
        · have c6c : ¬ (10000 : Int) < (x.f6.length : Int) := by omega
          have hw1 : wrap64 (s.n + 1) = s.n + 1 := by rw [Go.IntWalk.wrap64_in _ (by have := HI.out.n0; have := HN.out; omega)]
          have hw2 : IntKind.i64.wrap (s.n + 1) = s.n + 1 := by rw [IntKind.wrap_i64]; have := HI.out.n0; have := HN.out; omega
          have hnn : (s.n == s.n + 1) = false := beq_eq_false_iff_ne.2 (by omega)
          have hnn2 : (s.n + 1 != s.n + 1) = false := bne_self_eq_false _
          obtain ⟨qg, hqg⟩ : ∃ qg, qg = getV s (x.f1, x.f2) := ⟨_, rfl⟩
          obtain ⟨y, er⟩ := qg
          have HG := Aside0.mk hqg.symm
          have HYL : Aside0 (y.H.length ≤ 1000) := Aside0.mk (get_fits HI.out hqg.symm)
          clear hqg
          go_upto_region 12 with (first
            | ((with_reducible refine gate_dst (N := 6) rfl ?_); refine new_at rfl (t := 28) rfl opZ (.agg opZ.toArray) (fun W => zero_op W) rfl ?_; intro gop hg w1 hk hb
               have BZo := Aside0.mk hk; have X1 := Aside0.mk hb; have Gop : Aside0 (wr.heap.size ≤ gop) := Aside0.mk (by omega); clear hk hb hg)
            | ((with_reducible refine gate_store (p := 6) rfl ?_); refine store_at rfl (t := 28) rfl rfl gop 0 _ 28 _ rfl rfl BZo.out (opC x A6 c6) rfl size_op (show (8 : Nat) ≤ 8 from Nat.le_refl 8) (op_one _ _ _) ?_; intro w2 hk hg
               have BK2 : Aside0 (Blk w2 gop (opC x A6 c6) 28) := Aside0.mk hk; have X2 := Aside0.mk (pw_below_grown X1.out (some gop) X1.out.size hg (fun k e => by cases e; exact Gop.out)); have HE2 := Aside0.mk (HE.out.below X2.out); have HB2 := Aside0.mk (below_then HB.out HB.out.size X2.out); clear hk hg
               have GP : Aside0 (gop ≠ p ∧ gop ≠ b) := Aside0.mk (by have h1 := HPW.out; have h2 := Gop.out; omega)
               have c1_w2 : w2.cell? ⟨gop, 1, none⟩ = some (.int .i64 x.f1) := BK2.out.cell 1; have c2_w2 : w2.cell? ⟨gop, 2, none⟩ = some (.string x.f2) := BK2.out.cell 2; have c6_w2 : w2.cell? ⟨gop, 6, none⟩ = some (.slice A6 x.f6.length c6) := BK2.out.cell 6)
            | (go_at_call 9; (with_reducible refine (id ?_ : Calls _ _ _ w2 _)); refine (Get.to HE2.out HI.out.fits HG.out).mono ?_; rintro e w3 ⟨z3, rfl, hz, hzy, hb⟩
               have HZ3 := Aside0.mk hz; have HZY3 := Aside0.mk hzy; have X3 := Aside0.mk hb; clear hz hzy hb
               have HE3 := Aside0.mk (HE2.out.below X3.out); have HB3 := Aside0.mk (below_then HB2.out HB2.out.size X3.out); have BK3 := Aside0.mk (BK2.out.below X3.out)
               have hl3 : Aside0 (z3.H.length ≤ 1000) := Aside0.mk (by have h := congrArg PI.H HZY3.out; have h2 : z3.H = y.H := h; rw [h2]; exact HYL.out))
            | ((with_reducible refine gate_dst (N := 7) rfl ?_); refine new_at rfl (t := 31) rfl noItem.cells (itemV noItem) (fun W => zero_item W) rfl ?_; intro g7 hg w4 hk hb
               have BZ7 := Aside0.mk hk; have XA7 := Aside0.mk hb; have G7 : Aside0 (w3.heap.size ≤ g7) := Aside0.mk (by omega); clear hk hb hg)
            | ((with_reducible refine gate_store (p := 7) rfl ?_); refine store_at rfl (t := 31) rfl rfl g7 0 _ 31 _ rfl rfl BZ7.out z3.cells rfl size_item (show (6 : Nat) ≤ 6 from Nat.le_refl 6) (cells_one _) ?_; intro w5 hk hg
               have BI7 : Aside0 (Blk w5 g7 z3.cells 31) := Aside0.mk hk; have XB7 := Aside0.mk (pw_below_grown XA7.out (some g7) XA7.out.size hg (fun k e => by cases e; exact G7.out)); clear hk hg
               have HE5 := Aside0.mk (HE3.out.below XB7.out); have HB5 := Aside0.mk (below_then HB3.out HB3.out.size XB7.out); have BK5 := Aside0.mk (BK3.out.below XB7.out)
               have GB7 : Aside0 (g7 ≠ p ∧ g7 ≠ b) := Aside0.mk (by have h1 := HE3.out.lt; have h2 := G7.out; omega)
               have c0_w5 : w5.cell? ⟨gop, 0, none⟩ = some (.int .i64 x.f0) := BK5.out.cell 0; have c1_w5 : w5.cell? ⟨gop, 1, none⟩ = some (.int .i64 x.f1) := BK5.out.cell 1; have c2_w5 : w5.cell? ⟨gop, 2, none⟩ = some (.string x.f2) := BK5.out.cell 2; have c3_w5 : w5.cell? ⟨gop, 3, none⟩ = some (.int .i64 x.f3) := BK5.out.cell 3; have c5_w5 : w5.cell? ⟨gop, 5, none⟩ = some (.string x.f5) := BK5.out.cell 5; have c6_w5 : w5.cell? ⟨gop, 6, none⟩ = some (.slice A6 x.f6.length c6) := BK5.out.cell 6; have BI5 := BI7; have HR3_5 := Aside0.mk (HZ3.out.ok.below XB7.out))
            | (go_at_call 10; (with_reducible refine (id ?_ : Calls _ _ _ w5 _)); refine (Writes.calls _ p s HE5.out.at).mono ?_; rintro e w5x ⟨rfl, hw⟩
               have hw' := hw.symm; clear hw; subst hw'))
          go_cut [57] (fun s57 wx => ∃ q : Bool, s57 = .bool q ∧ wx = w5)
          case first =>
            have c4_w5 : w5.cell? ⟨gop, 4, none⟩ = some (.bool x.f4) := BK5.out.cell 4
            by_cases her : er = 0
            · have k1 : (er == 0) = true := beq_iff_eq.2 her
              clear her
              go_wp2
              go_meet
              exact ⟨_, rfl, rfl⟩
            · have k1 : (er == 0) = false := beq_eq_false_iff_ne.2 her
              clear her
              go_wp2
              go_meet
              exact ⟨_, rfl, rfl⟩
          case rest =>
            obtain ⟨q, rfl, hwq⟩ := hcut
            replace hwq := hwq.symm
            subst hwq
            go_upto_if 57 with fail
            go_cut [10] (fun s10 wx => ∃ v : Int, s10 = .int .i64 v ∧ wx = w5)
            case first =>
              have v7_w5 : w5.cell? ⟨g7, 2, none⟩ = some (.int .i64 z3.ver) := BI7.out.cell 2
              go_wp2
              all_goals
                go_meet
                exact ⟨_, rfl, rfl⟩
            case rest =>
              obtain ⟨v, rfl, hwq⟩ := hcut
              replace hwq := hwq.symm
              subst hwq
              go_upto_block 2 with fail
              go_cut [11] (fun s11 wx => ∃ (f : Int) (s' : St), s11 = .int .i64 f ∧ Aside0 (StoreE wx p b s') ∧ Aside0 (Inv s') ∧ Aside0 (f ≠ 0 → s' = s) ∧ Aside0 (f = 0 → s'.n = s.n + 1) ∧ Aside0 (Below w.heap.size w wx) ∧ Aside0 (Blk wx gop (opC x A6 c6) 28) ∧ Aside0 (Blk wx g7 z3.cells 31) ∧ Aside0 (RowOK wx z3))
              case first =>
                go_wp2_with fail
                · rcases create_cases HI.out x.f1 x.f2 x.f6 with ⟨f, hf, hcv⟩ | ⟨s', hcv, hI', hn', _⟩
                  · have HV := Aside0.mk hcv
                    clear hcv
                    go_wp2_with (first
                      | (go_at_call 11; (with_reducible refine (id ?_ : Calls _ _ _ w5 _)); refine (Create.to A6 c6 x.f6 HE5.out HI.out.n0 HN.out (Kd.C_below HR6.out HB5.out) HC6.out HV.out).mono ?_; rintro e w6 ⟨rfl, he, hc⟩
                         have hc0 := hc; have HE6 := Aside0.mk he; have HB6 := Aside0.mk (hc.below HB5.out HB5.out.size HP.out HQ.out); have BK6 := Aside0.mk (blk_chg hc BK5.out GP.out.1 GP.out.2); have BI6 := Aside0.mk (blk_chg hc BI5.out GB7.out.1 GB7.out.2); clear he hc
                         have c1_w6 : w6.cell? ⟨gop, 1, none⟩ = some (.int .i64 x.f1) := BK6.out.cell 1; have c2_w6 : w6.cell? ⟨gop, 2, none⟩ = some (.string x.f2) := BK6.out.cell 2; have HR3_6 := Aside0.mk (HR3_5.out.chgE HE5.out hc0); clear hc0))
                    go_meet
                    exact ⟨f, s, rfl, HE6, HI, ⟨fun _ => rfl⟩, ⟨fun e => absurd e hf⟩, HB6, BK6, BI6, HR3_6⟩
                  · have HV := Aside0.mk hcv
                    have HI' := Aside0.mk hI'
                    have HN' := Aside0.mk hn'
                    clear hcv hI' hn'
                    go_wp2_with (first
                      | (go_at_call 11; (with_reducible refine (id ?_ : Calls _ _ _ w5 _)); refine (Create.to A6 c6 x.f6 HE5.out HI.out.n0 HN.out (Kd.C_below HR6.out HB5.out) HC6.out HV.out).mono ?_; rintro e w6 ⟨rfl, he, hc⟩
                         have hc0 := hc; have HE6 := Aside0.mk he; have HB6 := Aside0.mk (hc.below HB5.out HB5.out.size HP.out HQ.out); have BK6 := Aside0.mk (blk_chg hc BK5.out GP.out.1 GP.out.2); have BI6 := Aside0.mk (blk_chg hc BI5.out GB7.out.1 GB7.out.2); clear he hc
                         have c1_w6 : w6.cell? ⟨gop, 1, none⟩ = some (.int .i64 x.f1) := BK6.out.cell 1; have c2_w6 : w6.cell? ⟨gop, 2, none⟩ = some (.string x.f2) := BK6.out.cell 2; have HR3_6 := Aside0.mk (HR3_5.out.chgE HE5.out hc0); clear hc0))
                    go_meet
                    exact ⟨0, s', rfl, HE6, HI', ⟨fun e => absurd rfl e⟩, ⟨fun _ => HN'.out⟩, HB6, BK6, BI6, HR3_6⟩
                · rcases update_any HI.out x.f1 x.f2 (v) x.f6 with ⟨f, hf, hcv⟩ | ⟨s', hcv, hI', hn'⟩
                  · have HV := Aside0.mk hcv
                    clear hcv
                    go_wp2_with (first
                      | (go_at_call 12; (with_reducible refine (id ?_ : Calls _ _ _ w5 _)); refine (Update.to A6 c6 x.f6 HE5.out HI.out.n0 HN.out (Kd.C_below HR6.out HB5.out) HC6.out HV.out).mono ?_; rintro e w6 ⟨rfl, he, hc⟩
                         have hc0 := hc; have HE6 := Aside0.mk he; have HB6 := Aside0.mk (hc.below HB5.out HB5.out.size HP.out HQ.out); have BK6 := Aside0.mk (blk_chg hc BK5.out GP.out.1 GP.out.2); have BI6 := Aside0.mk (blk_chg hc BI5.out GB7.out.1 GB7.out.2); clear he hc
                         have c1_w6 : w6.cell? ⟨gop, 1, none⟩ = some (.int .i64 x.f1) := BK6.out.cell 1; have c2_w6 : w6.cell? ⟨gop, 2, none⟩ = some (.string x.f2) := BK6.out.cell 2; have HR3_6 := Aside0.mk (HR3_5.out.chgE HE5.out hc0); clear hc0))
                    go_meet
                    exact ⟨f, s, rfl, HE6, HI, ⟨fun _ => rfl⟩, ⟨fun e => absurd e hf⟩, HB6, BK6, BI6, HR3_6⟩
                  · have HV := Aside0.mk hcv
                    have HI' := Aside0.mk hI'
                    have HN' := Aside0.mk hn'
                    clear hcv hI' hn'
                    go_wp2_with (first
                      | (go_at_call 12; (with_reducible refine (id ?_ : Calls _ _ _ w5 _)); refine (Update.to A6 c6 x.f6 HE5.out HI.out.n0 HN.out (Kd.C_below HR6.out HB5.out) HC6.out HV.out).mono ?_; rintro e w6 ⟨rfl, he, hc⟩
                         have hc0 := hc; have HE6 := Aside0.mk he; have HB6 := Aside0.mk (hc.below HB5.out HB5.out.size HP.out HQ.out); have BK6 := Aside0.mk (blk_chg hc BK5.out GP.out.1 GP.out.2); have BI6 := Aside0.mk (blk_chg hc BI5.out GB7.out.1 GB7.out.2); clear he hc
                         have c1_w6 : w6.cell? ⟨gop, 1, none⟩ = some (.int .i64 x.f1) := BK6.out.cell 1; have c2_w6 : w6.cell? ⟨gop, 2, none⟩ = some (.string x.f2) := BK6.out.cell 2; have HR3_6 := Aside0.mk (HR3_5.out.chgE HE5.out hc0); clear hc0))
                    go_meet
                    exact ⟨0, s', rfl, HE6, HI', ⟨fun e => absurd rfl e⟩, ⟨fun _ => HN'.out⟩, HB6, BK6, BI6, HR3_6⟩
                · rcases delete_cases HI.out x.f1 x.f2 (v) with ⟨f, hf, hcv⟩ | ⟨s', hcv, hI', hn'⟩
                  · have HV := Aside0.mk hcv
                    clear hcv
                    go_wp2_with (first
                      | (go_at_call 14; (with_reducible refine (id ?_ : Calls _ _ _ w5 _)); refine (Delete.to HE5.out HI.out.n0 HN.out HV.out).mono ?_; rintro e w6 ⟨rfl, he, hc⟩
                         have hc0 := hc; have HE6 := Aside0.mk he; have HB6 := Aside0.mk (hc.below HB5.out HB5.out.size HP.out HQ.out); have BK6 := Aside0.mk (blk_chg hc BK5.out GP.out.1 GP.out.2); have BI6 := Aside0.mk (blk_chg hc BI5.out GB7.out.1 GB7.out.2); clear he hc
                         have c1_w6 : w6.cell? ⟨gop, 1, none⟩ = some (.int .i64 x.f1) := BK6.out.cell 1; have c2_w6 : w6.cell? ⟨gop, 2, none⟩ = some (.string x.f2) := BK6.out.cell 2; have HR3_6 := Aside0.mk (HR3_5.out.chgE HE5.out hc0); clear hc0))
                    go_meet
                    exact ⟨f, s, rfl, HE6, HI, ⟨fun _ => rfl⟩, ⟨fun e => absurd e hf⟩, HB6, BK6, BI6, HR3_6⟩
                  · have HV := Aside0.mk hcv
                    have HI' := Aside0.mk hI'
                    have HN' := Aside0.mk hn'
                    clear hcv hI' hn'
                    go_wp2_with (first
                      | (go_at_call 14; (with_reducible refine (id ?_ : Calls _ _ _ w5 _)); refine (Delete.to HE5.out HI.out.n0 HN.out HV.out).mono ?_; rintro e w6 ⟨rfl, he, hc⟩
                         have hc0 := hc; have HE6 := Aside0.mk he; have HB6 := Aside0.mk (hc.below HB5.out HB5.out.size HP.out HQ.out); have BK6 := Aside0.mk (blk_chg hc BK5.out GP.out.1 GP.out.2); have BI6 := Aside0.mk (blk_chg hc BI5.out GB7.out.1 GB7.out.2); clear he hc
                         have c1_w6 : w6.cell? ⟨gop, 1, none⟩ = some (.int .i64 x.f1) := BK6.out.cell 1; have c2_w6 : w6.cell? ⟨gop, 2, none⟩ = some (.string x.f2) := BK6.out.cell 2; have HR3_6 := Aside0.mk (HR3_5.out.chgE HE5.out hc0); clear hc0))
                    go_meet
                    exact ⟨0, s', rfl, HE6, HI', ⟨fun e => absurd rfl e⟩, ⟨fun _ => HN'.out⟩, HB6, BK6, BI6, HR3_6⟩
                · rcases hold_cases HI.out x.f1 x.f2 x.f5 with ⟨f, hf, hcv⟩ | ⟨s', hcv, hI', hn'⟩
                  · have HV := Aside0.mk hcv
                    clear hcv
                    go_wp2_with (first
                      | (go_at_call 13; (with_reducible refine (id ?_ : Calls _ _ _ w5 _)); refine (Hold.to HE5.out HI.out.srt HI.out.n0 HN.out HV.out).mono ?_; rintro e w6 ⟨rfl, he, hc⟩
                         have hc0 := hc; have HE6 := Aside0.mk he; have HB6 := Aside0.mk (hc.below HB5.out HB5.out.size HP.out HQ.out); have BK6 := Aside0.mk (blk_chg hc BK5.out GP.out.1 GP.out.2); have BI6 := Aside0.mk (blk_chg hc BI5.out GB7.out.1 GB7.out.2); clear he hc
                         have c1_w6 : w6.cell? ⟨gop, 1, none⟩ = some (.int .i64 x.f1) := BK6.out.cell 1; have c2_w6 : w6.cell? ⟨gop, 2, none⟩ = some (.string x.f2) := BK6.out.cell 2; have HR3_6 := Aside0.mk (HR3_5.out.chgE HE5.out hc0); clear hc0))
                    go_meet
                    exact ⟨f, s, rfl, HE6, HI, ⟨fun _ => rfl⟩, ⟨fun e => absurd e hf⟩, HB6, BK6, BI6, HR3_6⟩
                  · have HV := Aside0.mk hcv
                    have HI' := Aside0.mk hI'
                    have HN' := Aside0.mk hn'
                    clear hcv hI' hn'
                    go_wp2_with (first
                      | (go_at_call 13; (with_reducible refine (id ?_ : Calls _ _ _ w5 _)); refine (Hold.to HE5.out HI.out.srt HI.out.n0 HN.out HV.out).mono ?_; rintro e w6 ⟨rfl, he, hc⟩
                         have hc0 := hc; have HE6 := Aside0.mk he; have HB6 := Aside0.mk (hc.below HB5.out HB5.out.size HP.out HQ.out); have BK6 := Aside0.mk (blk_chg hc BK5.out GP.out.1 GP.out.2); have BI6 := Aside0.mk (blk_chg hc BI5.out GB7.out.1 GB7.out.2); clear he hc
                         have c1_w6 : w6.cell? ⟨gop, 1, none⟩ = some (.int .i64 x.f1) := BK6.out.cell 1; have c2_w6 : w6.cell? ⟨gop, 2, none⟩ = some (.string x.f2) := BK6.out.cell 2; have HR3_6 := Aside0.mk (HR3_5.out.chgE HE5.out hc0); clear hc0))
                    go_meet
                    exact ⟨0, s', rfl, HE6, HI', ⟨fun e => absurd rfl e⟩, ⟨fun _ => HN'.out⟩, HB6, BK6, BI6, HR3_6⟩
                · rcases release_cases HI.out x.f1 x.f2 x.f5 with ⟨f, hf, hcv⟩ | ⟨s', hcv, hI', hn'⟩
                  · have HV := Aside0.mk hcv
                    clear hcv
                    go_wp2_with (first
                      | (go_at_call 15; (with_reducible refine (id ?_ : Calls _ _ _ w5 _)); refine (Release.to HE5.out HI.out.srt HI.out.n0 HN.out HV.out).mono ?_; rintro e w6 ⟨rfl, he, hc⟩
                         have hc0 := hc; have HE6 := Aside0.mk he; have HB6 := Aside0.mk (hc.below HB5.out HB5.out.size HP.out HQ.out); have BK6 := Aside0.mk (blk_chg hc BK5.out GP.out.1 GP.out.2); have BI6 := Aside0.mk (blk_chg hc BI5.out GB7.out.1 GB7.out.2); clear he hc
                         have c1_w6 : w6.cell? ⟨gop, 1, none⟩ = some (.int .i64 x.f1) := BK6.out.cell 1; have c2_w6 : w6.cell? ⟨gop, 2, none⟩ = some (.string x.f2) := BK6.out.cell 2; have HR3_6 := Aside0.mk (HR3_5.out.chgE HE5.out hc0); clear hc0))
                    go_meet
                    exact ⟨f, s, rfl, HE6, HI, ⟨fun _ => rfl⟩, ⟨fun e => absurd e hf⟩, HB6, BK6, BI6, HR3_6⟩
                  · have HV := Aside0.mk hcv
                    have HI' := Aside0.mk hI'
                    have HN' := Aside0.mk hn'
                    clear hcv hI' hn'
                    go_wp2_with (first
                      | (go_at_call 15; (with_reducible refine (id ?_ : Calls _ _ _ w5 _)); refine (Release.to HE5.out HI.out.srt HI.out.n0 HN.out HV.out).mono ?_; rintro e w6 ⟨rfl, he, hc⟩
                         have hc0 := hc; have HE6 := Aside0.mk he; have HB6 := Aside0.mk (hc.below HB5.out HB5.out.size HP.out HQ.out); have BK6 := Aside0.mk (blk_chg hc BK5.out GP.out.1 GP.out.2); have BI6 := Aside0.mk (blk_chg hc BI5.out GB7.out.1 GB7.out.2); clear he hc
                         have c1_w6 : w6.cell? ⟨gop, 1, none⟩ = some (.int .i64 x.f1) := BK6.out.cell 1; have c2_w6 : w6.cell? ⟨gop, 2, none⟩ = some (.string x.f2) := BK6.out.cell 2; have HR3_6 := Aside0.mk (HR3_5.out.chgE HE5.out hc0); clear hc0))
                    go_meet
                    exact ⟨0, s', rfl, HE6, HI', ⟨fun e => absurd rfl e⟩, ⟨fun _ => HN'.out⟩, HB6, BK6, BI6, HR3_6⟩
                · go_roundg k1
                  case measure => have := HK.out; omega
                  case rel => exact ⟨i + 1, s, (by first | rfl | (simp; done) | (simp [*]; done)), ⟨by have := HK.out; omega⟩, ⟨by omega⟩, HE5, HI, ⟨by have := HSN.out; omega⟩, HB5⟩
              case rest =>
                obtain ⟨w6, hw6⟩ : ∃ w6, w6 = wc := ⟨_, rfl⟩
                subst hw6
                obtain ⟨f, s', rfl, HE6, HI', HF1, HF2, HB6, BK6, BI6, HR3_6⟩ := hcut
                have c1_w6 : w6.cell? ⟨gop, 1, none⟩ = some (.int .i64 x.f1) := BK6.out.cell 1
                have c2_w6 : w6.cell? ⟨gop, 2, none⟩ = some (.string x.f2) := BK6.out.cell 2
                by_cases hf : f = 0
                · have hn' := HF2.out hf
                  subst hf
                  obtain ⟨q', hq'⟩ : ∃ q', q' = getV s' (x.f1, x.f2) := ⟨_, rfl⟩
                  obtain ⟨y', er'⟩ := q'
                  have HG' := Aside0.mk hq'.symm
                  clear hq'
                  go_wp2_with (first
                    | (go_at_call 9; (with_reducible refine (id ?_ : Calls _ _ _ w6 _)); refine (Get.to HE6.out HI'.out.fits HG'.out).mono ?_; rintro e w7 ⟨z7, rfl, hz, hzy, hb⟩
                       have HZ7 := Aside0.mk hz; have HZY7 := Aside0.mk hzy; have X7 := Aside0.mk hb; clear hz hzy hb
                       have HE7 := Aside0.mk (HE6.out.below X7.out); have HB7 := Aside0.mk (below_then HB6.out HB6.out.size X7.out); have BK7 := Aside0.mk (BK6.out.below X7.out))
                    | ((with_reducible refine gate_dst (N := 12) rfl ?_); refine new_at rfl (t := 31) rfl noItem.cells (itemV noItem) (fun W => zero_item W) rfl ?_; intro g12 hg w8 hk hb
                       have BZ12 := Aside0.mk hk; have XA12 := Aside0.mk hb; have G12 : Aside0 (w7.heap.size ≤ g12) := Aside0.mk (by omega); clear hk hb hg)
                    | ((with_reducible refine gate_store (p := 12) rfl ?_); refine store_at rfl (t := 31) rfl rfl g12 0 _ 31 _ rfl rfl BZ12.out z7.cells rfl size_item (show (6 : Nat) ≤ 6 from Nat.le_refl 6) (cells_one _) ?_; intro w9 hk hg
                       have BI12 : Aside0 (Blk w9 g12 z7.cells 31) := Aside0.mk hk; have XB12 := Aside0.mk (pw_below_grown XA12.out (some g12) XA12.out.size hg (fun k e => by cases e; exact G12.out)); clear hk hg
                       have HE9 := Aside0.mk (HE7.out.below XB12.out); have HB9 := Aside0.mk (below_then HB7.out HB7.out.size XB12.out); have BK9 := Aside0.mk (BK7.out.below XB12.out)
                       have GB12 : Aside0 (g12 ≠ p ∧ g12 ≠ b) := Aside0.mk (by have h1 := HE7.out.lt; have h2 := G12.out; omega)
                       skip)
                    | (go_at_call 10; (with_reducible refine (id ?_ : Calls _ _ _ w9 _)); refine (Writes.calls _ p s' HE9.out.at).mono ?_; rintro e w9x ⟨rfl, hw⟩
                       have hw' := hw.symm; clear hw; subst hw'))
                  go_roundg k1
                  case measure => have := HK.out; omega
                  case rel => exact ⟨i + 1, s', (by first | rfl | (simp; done) | (simp [*]; done)), ⟨by have := HK.out; omega⟩, ⟨by omega⟩, HE9, HI', ⟨by have := HSN.out; omega⟩, HB9⟩
                · have hs' := HF1.out hf
                  replace hs' := hs'.symm
                  subst hs'
                  have kf1 : (f == 0) = false := beq_eq_false_iff_ne.2 hf
                  have kf2 : (f != 0) = true := bne_iff_ne.2 hf
                  clear hf
                  go_wp2_with (first
                    | (go_at_call 9; (with_reducible refine (id ?_ : Calls _ _ _ w6 _)); refine (Get.to HE6.out HI.out.fits HG.out).mono ?_; rintro e w7 ⟨z7, rfl, hz, hzy, hb⟩
                       have HZ7 := Aside0.mk hz; have HZY7 := Aside0.mk hzy; have X7 := Aside0.mk hb; clear hz hzy hb
                       have HE7 := Aside0.mk (HE6.out.below X7.out); have HB7 := Aside0.mk (below_then HB6.out HB6.out.size X7.out); have BK7 := Aside0.mk (BK6.out.below X7.out); have BI7 := Aside0.mk (BI6.out.below X7.out))
                    | ((with_reducible refine gate_dst (N := 12) rfl ?_); refine new_at rfl (t := 31) rfl noItem.cells (itemV noItem) (fun W => zero_item W) rfl ?_; intro g12 hg w8 hk hb
                       have BZ12 := Aside0.mk hk; have XA12 := Aside0.mk hb; have G12 : Aside0 (w7.heap.size ≤ g12) := Aside0.mk (by omega); clear hk hb hg)
                    | ((with_reducible refine gate_store (p := 12) rfl ?_); refine store_at rfl (t := 31) rfl rfl g12 0 _ 31 _ rfl rfl BZ12.out z7.cells rfl size_item (show (6 : Nat) ≤ 6 from Nat.le_refl 6) (cells_one _) ?_; intro w9 hk hg
                       have BI12 : Aside0 (Blk w9 g12 z7.cells 31) := Aside0.mk hk; have XB12 := Aside0.mk (pw_below_grown XA12.out (some g12) XA12.out.size hg (fun k e => by cases e; exact G12.out)); clear hk hg
                       have HE9 := Aside0.mk (HE7.out.below XB12.out); have HB9 := Aside0.mk (below_then HB7.out HB7.out.size XB12.out); have BK9 := Aside0.mk (BK7.out.below XB12.out); have BI9 := Aside0.mk (BI7.out.below XB12.out)
                       have GB12 : Aside0 (g12 ≠ p ∧ g12 ≠ b) := Aside0.mk (by have h1 := HE7.out.lt; have h2 := G12.out; omega)
                       have HR3_9 := Aside0.mk ((HR3_6.out.below X7.out).below XB12.out); have HR7_9 := Aside0.mk (HZ7.out.ok.below XB12.out)
                       have i0_g7_w9 : w9.cell? ⟨g7, 0, none⟩ = some (.int .i64 z3.kind) := BI9.out.cell 0; have i1_g7_w9 : w9.cell? ⟨g7, 1, none⟩ = some (.string z3.name) := BI9.out.cell 1; have i2_g7_w9 : w9.cell? ⟨g7, 2, none⟩ = some (.int .i64 z3.ver) := BI9.out.cell 2; have i3_g7_w9 : w9.cell? ⟨g7, 3, none⟩ = some (.slice z3.ha z3.H.length z3.hc) := BI9.out.cell 3; have i4_g7_w9 : w9.cell? ⟨g7, 4, none⟩ = some (.slice z3.ba z3.B.length z3.bc) := BI9.out.cell 4; have i5_g7_w9 : w9.cell? ⟨g7, 5, none⟩ = some (.bool z3.going) := BI9.out.cell 5
                       have i0_g12_w9 : w9.cell? ⟨g12, 0, none⟩ = some (.int .i64 z7.kind) := BI12.out.cell 0; have i1_g12_w9 : w9.cell? ⟨g12, 1, none⟩ = some (.string z7.name) := BI12.out.cell 1; have i2_g12_w9 : w9.cell? ⟨g12, 2, none⟩ = some (.int .i64 z7.ver) := BI12.out.cell 2; have i3_g12_w9 : w9.cell? ⟨g12, 3, none⟩ = some (.slice z7.ha z7.H.length z7.hc) := BI12.out.cell 3; have i4_g12_w9 : w9.cell? ⟨g12, 4, none⟩ = some (.slice z7.ba z7.B.length z7.bc) := BI12.out.cell 4; have i5_g12_w9 : w9.cell? ⟨g12, 5, none⟩ = some (.bool z7.going) := BI12.out.cell 5)
                    | (go_at_call 10; (with_reducible refine (id ?_ : Calls _ _ _ w9 _)); refine (Writes.calls _ p s HE9.out.at).mono ?_; rintro e w9x ⟨rfl, hw⟩
                       have hw' := hw.symm; clear hw; subst hw')
                    | (go_at_call 16; (with_reducible refine (id ?_ : Calls _ _ _ w9 _)); refine (Same.to (z := z3) (z' := z7) HR3_9.out HR7_9.out (HZY3.out.trans HZY7.out.symm) hl3.out).mono ?_; rintro e w10 ⟨rfl, hb⟩
                       have X10 := Aside0.mk hb; clear hb
                       have HE10 := Aside0.mk (HE9.out.below X10.out); have HB10 := Aside0.mk (below_then HB9.out HB9.out.size X10.out)))
                  go_roundg k1
                  case measure => have := HK.out; omega
                  case rel => exact ⟨i + 1, s, (by first | rfl | (simp; done) | (simp [*]; done)), ⟨by have := HK.out; omega⟩, ⟨by omega⟩, HE10, HI, ⟨by have := HSN.out; omega⟩, HB10⟩
      · have c5' : ¬ (i : Int) < (l0.length : Int) := by omega
        go_wp2
        go_ret
        exact ⟨rfl, HB.out⟩
end Go.Proofs.Ytmankbhlgjgnbaa.PAll
