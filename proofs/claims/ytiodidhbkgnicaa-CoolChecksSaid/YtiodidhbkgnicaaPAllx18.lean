-- written by a program of this session (the kit's print, turned): plain functions and their contracts
-- shrunk
import Derived.Test.YtiodidhbkgnicaaPAllx0
import Derived.Test.YtiodidhbkgnicaaPAllx5
import Derived.Test.YtiodidhbkgnicaaPAllx8
import Derived.Test.YtiodidhbkgnicaaPAllx11
import Derived.Test.YtiodidhbkgnicaaPAllx15
import Derived.Test.YtiodidhbkgnicaaPAllx16
import Derived.Test.YtiodidhbkgnicaaPAllx17
namespace Go.Proofs.Ytiodidhbkgnicaa.PAll
open Go.RowKit Go.Proofs.YtiodidhbkgnicaaW.PrintWords Go.Proofs.YtiodidhbkgnicaaW.PrintLast Go.Proofs.YtiodidhbkgnicaaW.PrintMore
attribute [local go_sem] max2_int min2_int max_two min_two max_three min_three max_four min_four   -- for this text's walks alone
set_option linter.unusedVariables false
set_option linter.unusedSimpArgs false

/-! ### sutlerlaw07_CoolChecks: function 4 -/
mutual
def sutlerlaw07_CoolChecks.j0 : Nat → List (S25) → List (S25) → Int → List (S25) → Bool → Option (Bool)
 | 0, _, _, _, _, _ => none
 | k + 1, x0, x5, x6, x7, x11 => sutlerlaw07_CoolChecks.l0 k x0 x5 x6 x7 x11 0
def sutlerlaw07_CoolChecks.l0 : Nat → List (S25) → List (S25) → Int → List (S25) → Bool → Int → Option (Bool)
 | 0, _, _, _, _, _, _ => none
 | k + 1, x0, x5, x6, x7, x11, x12 => if x12 < (x7.length : Int) then (if 0 ≤ x12 then (sutlerlaw07_CoolChecks.l0 k x0 x5 x6 (x7.set (x12 : Int).toNat (⟨(⟨(⟨#[]⟩ : ByteArray), (⟨#[]⟩ : ByteArray), (⟨#[]⟩ : ByteArray)⟩ : S23), (-77)⟩ : S25)) x11 (wrap64 (x12 + 1))) else (none)) else ((sutlerlaw07_live.f k).bind fun t294 => (if t294 = true then ((cool_Check.f k x0).bind fun t295 => (if t295 = x6 then (if x11 = true then ((sutlerlaw07_same.f k x0 x5).bind fun t296 => (some t296)) else (some false)) else (some false))) else (some false)))
end
def sutlerlaw07_CoolChecks.f (k : Nat) (l0 : List (S25)) (a1_0 : ByteArray) (a1_1 : ByteArray) (a1_2 : ByteArray) (a1_3 : Int) : Option (Bool) := (some (([] : List (S25)) : List (S25))).bind fun y277 => (if y277.length + l0.length < 2513169434916 then ((some (y277 ++ l0 : List (S25))).bind fun y280 => ((sutlerref07_Check.f k y280).bind fun t283 => ((cool_Put.f k l0 a1_0 a1_1 a1_2 a1_3).bind fun bt284 => ((sutlerref07_Put.f k y280 a1_0 a1_1 a1_2 a1_3).bind fun bt288 => ((sutlerlaw07_same.f k bt284.1 bt288.1).bind fun t292 => (if t292 = true then (sutlerlaw07_CoolChecks.j0 k l0 y280 t283 bt284.1 (bt284.2 == bt288.2)) else (sutlerlaw07_CoolChecks.j0 k l0 y280 t283 bt284.1 false))))))) else (none))
theorem sutlerlaw07_CoolChecks.mono_l : ∀ k, (∀ y0 y1 y2 y3 y4, LeO (sutlerlaw07_CoolChecks.j0 k y0 y1 y2 y3 y4) (sutlerlaw07_CoolChecks.j0 (k + 1) y0 y1 y2 y3 y4)) ∧ (∀ y0 y1 y2 y3 y4 y5, LeO (sutlerlaw07_CoolChecks.l0 k y0 y1 y2 y3 y4 y5) (sutlerlaw07_CoolChecks.l0 (k + 1) y0 y1 y2 y3 y4 y5))
 | 0 => ⟨fun _ _ _ _ _ r h => by simp [sutlerlaw07_CoolChecks.j0] at h, fun _ _ _ _ _ _ r h => by simp [sutlerlaw07_CoolChecks.l0] at h⟩
 | k + 1 => by
  obtain ⟨ih0, ih1⟩ := sutlerlaw07_CoolChecks.mono_l k
  refine ⟨?_, ?_⟩
  ·intro y0 y1 y2 y3 y4
   unfold sutlerlaw07_CoolChecks.j0
   repeat' first
   | (with_reducible exact ih0 _ _ _ _ _)
   | (with_reducible exact ih1 _ _ _ _ _ _)
   | (with_reducible exact cool_Check.mono _ _)
   | (with_reducible exact cool_Put.mono _ _ _ _ _ _)
   | (with_reducible exact sutlerlaw07_live.mono _)
   | (with_reducible exact sutlerlaw07_same.mono _ _ _)
   | (with_reducible exact sutlerref07_Check.mono _ _)
   | (with_reducible exact sutlerref07_Put.mono _ _ _ _ _ _)
   | (with_reducible exact LeO.refl _)
   | (with_reducible exact LeO.none _)
   | (with_reducible refine LeO.ite ?_ ?_)
   | (with_reducible refine LeO.bind ?_ (fun _ => ?_))
   | exact ih0 _ _ _ _ _
   | exact ih1 _ _ _ _ _ _
   | exact cool_Check.mono _ _
   | exact cool_Put.mono _ _ _ _ _ _
   | exact sutlerlaw07_live.mono _
   | exact sutlerlaw07_same.mono _ _ _
   | exact sutlerref07_Check.mono _ _
   | exact sutlerref07_Put.mono _ _ _ _ _ _
   | exact LeO.none _
   | refine LeO.ite ?_ ?_
   | refine LeO.bind ?_ (fun _ => ?_)
  ·intro y0 y1 y2 y3 y4 y5
   unfold sutlerlaw07_CoolChecks.l0
   repeat' first
   | (with_reducible exact ih0 _ _ _ _ _)
   | (with_reducible exact ih1 _ _ _ _ _ _)
   | (with_reducible exact cool_Check.mono _ _)
   | (with_reducible exact cool_Put.mono _ _ _ _ _ _)
   | (with_reducible exact sutlerlaw07_live.mono _)
   | (with_reducible exact sutlerlaw07_same.mono _ _ _)
   | (with_reducible exact sutlerref07_Check.mono _ _)
   | (with_reducible exact sutlerref07_Put.mono _ _ _ _ _ _)
   | (with_reducible exact LeO.refl _)
   | (with_reducible exact LeO.none _)
   | (with_reducible refine LeO.ite ?_ ?_)
   | (with_reducible refine LeO.bind ?_ (fun _ => ?_))
   | exact ih0 _ _ _ _ _
   | exact ih1 _ _ _ _ _ _
   | exact cool_Check.mono _ _
   | exact cool_Put.mono _ _ _ _ _ _
   | exact sutlerlaw07_live.mono _
   | exact sutlerlaw07_same.mono _ _ _
   | exact sutlerref07_Check.mono _ _
   | exact sutlerref07_Put.mono _ _ _ _ _ _
   | exact LeO.none _
   | refine LeO.ite ?_ ?_
   | refine LeO.bind ?_ (fun _ => ?_)
theorem sutlerlaw07_CoolChecks.mono : ∀ a0 a1 a2 a3 a4 k, LeO (sutlerlaw07_CoolChecks.f k a0 a1 a2 a3 a4) (sutlerlaw07_CoolChecks.f (k + 1) a0 a1 a2 a3 a4) := by
 intro a0 a1 a2 a3 a4 k
 obtain ⟨ih0, ih1⟩ := sutlerlaw07_CoolChecks.mono_l k
 unfold sutlerlaw07_CoolChecks.f
 repeat' first
   | (with_reducible exact ih0 _ _ _ _ _)
   | (with_reducible exact ih1 _ _ _ _ _ _)
   | (with_reducible exact cool_Check.mono _ _)
   | (with_reducible exact cool_Put.mono _ _ _ _ _ _)
   | (with_reducible exact sutlerlaw07_live.mono _)
   | (with_reducible exact sutlerlaw07_same.mono _ _ _)
   | (with_reducible exact sutlerref07_Check.mono _ _)
   | (with_reducible exact sutlerref07_Put.mono _ _ _ _ _ _)
   | (with_reducible exact LeO.refl _)
   | (with_reducible exact LeO.none _)
   | (with_reducible refine LeO.ite ?_ ?_)
   | (with_reducible refine LeO.bind ?_ (fun _ => ?_))
   | exact ih0 _ _ _ _ _
   | exact ih1 _ _ _ _ _ _
   | exact cool_Check.mono _ _
   | exact cool_Put.mono _ _ _ _ _ _
   | exact sutlerlaw07_live.mono _
   | exact sutlerlaw07_same.mono _ _ _
   | exact sutlerref07_Check.mono _ _
   | exact sutlerref07_Put.mono _ _ _ _ _ _
   | exact LeO.none _
   | refine LeO.ite ?_ ?_
   | refine LeO.bind ?_ (fun _ => ?_)
set_option maxHeartbeats 8000000 in
set_option maxRecDepth 100000 in
theorem sutlerlaw07_CoolChecks.calls (k : Nat) (A0 : Option Addr) (c0 : Nat) (l0 : List (S25)) (a1_0 : ByteArray) (a1_1 : ByteArray) (a1_2 : ByteArray) (a1_3 : Int) (r : Bool) (w : World) (hr0 : Kd.C k25 w A0 l0.length l0) (hc0 : l0.length ≤ c0) (h : sutlerlaw07_CoolChecks.f k l0 a1_0 a1_1 a1_2 a1_3 = some r) :
  Calls Try.prog 4 #[.slice A0 l0.length c0, .agg #[.string a1_0, .string a1_1, .string a1_2, .int .i64 a1_3]] w fun e w' => e = .returned (.bool r) ∧ Below w.heap.size w w' := by
 have hu25 := Try.underlying25
 have HR0 := Aside0.mk hr0
 have HC0 := Aside0.mk hc0
 clear hr0 hc0
 have HB := Aside0.mk (Below.refl w.heap.size w)
 have H : ((some (([] : List (S25)) : List (S25))).bind fun y277 => (if y277.length + l0.length < 2513169434916 then ((some (y277 ++ l0 : List (S25))).bind fun y280 => ((sutlerref07_Check.f k y280).bind fun t283 => ((cool_Put.f k l0 a1_0 a1_1 a1_2 a1_3).bind fun bt284 => ((sutlerref07_Put.f k y280 a1_0 a1_1 a1_2 a1_3).bind fun bt288 => ((sutlerlaw07_same.f k bt284.1 bt288.1).bind fun t292 => (if t292 = true then (sutlerlaw07_CoolChecks.j0 k l0 y280 t283 bt284.1 (bt284.2 == bt288.2)) else (sutlerlaw07_CoolChecks.j0 k l0 y280 t283 bt284.1 false))))))) else (none))) = some r := h
 clear h
 obtain ⟨y277, hy277⟩ : ∃ y_ : List (S25), y_ = (([] : List (S25))) := ⟨_, rfl⟩
 replace H : (if y277.length + l0.length < 2513169434916 then ((some (y277 ++ l0 : List (S25))).bind fun y280 => ((sutlerref07_Check.f k y280).bind fun t283 => ((cool_Put.f k l0 a1_0 a1_1 a1_2 a1_3).bind fun bt284 => ((sutlerref07_Put.f k y280 a1_0 a1_1 a1_2 a1_3).bind fun bt288 => ((sutlerlaw07_same.f k bt284.1 bt288.1).bind fun t292 => (if t292 = true then (sutlerlaw07_CoolChecks.j0 k l0 y280 t283 bt284.1 (bt284.2 == bt288.2)) else (sutlerlaw07_CoolChecks.j0 k l0 y280 t283 bt284.1 false))))))) else (none)) = some r := by first | (rw [hy277]; with_reducible exact H) | (have H2_ := (Option.bind_some _ _).symm.trans H; rw [hy277]; with_reducible exact H2_) | (have H2_ := (Option.bind_some _ _).symm.trans H; with_reducible exact H2_) | with_reducible exact H | (rw [hy277]; exact H) | exact H
 have Ny277 := Aside0.mk hy277
 clear hy277
 by_cases c3 : y277.length + l0.length < 2513169434916
 ·rw [if_pos c3] at H
  have LMc3 := Aside0.mk c3
  clear c3
  obtain ⟨y280, hy280⟩ : ∃ y_ : List (S25), y_ = (y277 ++ l0) := ⟨_, rfl⟩
  replace H : ((sutlerref07_Check.f k y280).bind fun t283 => ((cool_Put.f k l0 a1_0 a1_1 a1_2 a1_3).bind fun bt284 => ((sutlerref07_Put.f k y280 a1_0 a1_1 a1_2 a1_3).bind fun bt288 => ((sutlerlaw07_same.f k bt284.1 bt288.1).bind fun t292 => (if t292 = true then (sutlerlaw07_CoolChecks.j0 k l0 y280 t283 bt284.1 (bt284.2 == bt288.2)) else (sutlerlaw07_CoolChecks.j0 k l0 y280 t283 bt284.1 false)))))) = some r := by first | (rw [hy280]; with_reducible exact H) | (have H2_ := (Option.bind_some _ _).symm.trans H; rw [hy280]; with_reducible exact H2_) | (have H2_ := (Option.bind_some _ _).symm.trans H; with_reducible exact H2_) | with_reducible exact H | (rw [hy280]; exact H) | exact H
  have Ny280 := Aside0.mk hy280
  clear hy280
  replace H := Option.bind_eq_some_iff.mp H
  obtain ⟨t283, A40, H⟩ := H
  replace H : ((cool_Put.f k l0 a1_0 a1_1 a1_2 a1_3).bind fun bt284 => ((sutlerref07_Put.f k y280 a1_0 a1_1 a1_2 a1_3).bind fun bt288 => ((sutlerlaw07_same.f k bt284.1 bt288.1).bind fun t292 => (if t292 = true then (sutlerlaw07_CoolChecks.j0 k l0 y280 t283 bt284.1 (bt284.2 == bt288.2)) else (sutlerlaw07_CoolChecks.j0 k l0 y280 t283 bt284.1 false))))) = some r := H
  have A4 := Aside0.mk A40
  clear A40
  replace H := Option.bind_eq_some_iff.mp H
  obtain ⟨⟨t284, t287⟩, A50, H⟩ := H
  replace H : ((sutlerref07_Put.f k y280 a1_0 a1_1 a1_2 a1_3).bind fun bt288 => ((sutlerlaw07_same.f k t284 bt288.1).bind fun t292 => (if t292 = true then (sutlerlaw07_CoolChecks.j0 k l0 y280 t283 t284 (t287 == bt288.2)) else (sutlerlaw07_CoolChecks.j0 k l0 y280 t283 t284 false)))) = some r := H
  have A5 := Aside0.mk A50
  clear A50
  replace H := Option.bind_eq_some_iff.mp H
  obtain ⟨⟨t288, t291⟩, A60, H⟩ := H
  replace H : ((sutlerlaw07_same.f k t284 t288).bind fun t292 => (if t292 = true then (sutlerlaw07_CoolChecks.j0 k l0 y280 t283 t284 (t287 == t291)) else (sutlerlaw07_CoolChecks.j0 k l0 y280 t283 t284 false))) = some r := H
  have A6 := Aside0.mk A60
  clear A60
  have HC7 := Aside0.mk H
  clear H
  go_enter Try.func4, Try.ntmps4
  go_upto_region 5 with (first | ((with_reducible refine gate_dst (N := 3) rfl ?_); refine box_event ?hg (N := 3) ?hd (cs := #[.string a1_0, .string a1_1, .string a1_2, .int .i64 a1_3]) (t := 25) ?hr ?_; (case hd => rfl); (case hg => rfl); (case hr => first | (go_simp; done) | (go_simp; rfl)); intro gb276 hg w8 hbox hb; have n0_ := Aside0.mk (below_step (by repeat (first | (with_reducible first | exact HB.out | apply below_alloc | apply pw_below_drewN | apply below_drew1) | exact HB.out)) hb); have n1_ := Aside0.mk (hbox); have n2_ := Aside0.mk ((by rw [hg]; exact (below_size (by repeat (first | (with_reducible first | exact HB.out | apply below_alloc | apply pw_below_drewN | apply below_drew1) | exact HB.out))) : w.heap.size ≤ gb276)); have n3_ := Aside0.mk ((by rw [hg]; exact (below_size (by repeat (first | (with_reducible first | exact HB.out | apply below_alloc | apply pw_below_drewN | apply below_drew1) | exact HB.out))) : w.heap.size ≤ gb276)); clear HB; have HB := n0_; have BK276 := n1_; have GW276 := n2_; have GE276 := n3_; clear n0_ n1_ n2_ n3_; clear hb hbox hg) | ((with_reducible refine gate_dst (N := 13) rfl ?_); refine Kd.R_lit k25 _ 25 ?hg (N := 13) ?hd (xs := ([] : List (S25))) (inner := []) (ok := fun _ => True) (okp := fun _ => True) ?hr ?hp (fun _ hk => hk) trivial (Below.refl _ _) (Nat.le_refl _) (by simp) ?_; (case hd => rfl); (case hg => rfl); (case hr => first | (go_simp; done) | (go_simp; rfl)); (case hp => exact (Reps.none _ _)); intro v278 w9 ho10 hb hg_ hnew_; clear hg_ hnew_; (first | rw [← Ny277.out] at ho10 | (simp only [Int.reduceToNat] at ho10; rw [← Ny277.out] at ho10)); have n0_ := Aside0.mk (Kd.R_lower (Kd.R_newB ho10 (g := gb276) (o := .cells #[.string a1_0, .string a1_1, .string a1_2, .int .i64 a1_3] 25 (0, 0)) (by (with_reducible repeat (first | refine blk_drewN ?_ _ | refine blk_drew ?_ | refine blk_alloc ?_ _)); exact BK276.out)) (below_size (by repeat (first | (with_reducible first | exact HB.out | apply below_alloc | apply pw_below_drewN | apply below_drew1 | refine below_set ?_ GE276.out) | exact HB.out)))); have n1_ := Aside0.mk (blk_below (g := gb276) (o := .cells #[.string a1_0, .string a1_1, .string a1_2, .int .i64 a1_3] 25 (0, 0)) (by (with_reducible repeat (first | refine blk_drewN ?_ _ | refine blk_drew ?_ | refine blk_alloc ?_ _)); exact BK276.out) hb); have n2_ := Aside0.mk (below_step (by repeat (first | (with_reducible first | exact HB.out | apply below_alloc | apply pw_below_drewN | apply below_drew1 | refine below_set ?_ GE276.out) | exact HB.out)) hb); clear BK276; clear HB; have HO279 := n0_; have BK276 := n1_; have HB := n2_; clear n0_ n1_ n2_; clear hb ho10) | ((with_reducible refine gate_builtin (b := .append) (xs := #[.tmp 13, .tmp 14]) rfl ?_); at_builtin; refine Kd.R_append_rows k25 (w0 := w) w.heap.size rfl (.tmp 13) (.tmp 14) 29 25 (.agg #[(.string ⟨#[]⟩), (.string ⟨#[]⟩), (.string ⟨#[]⟩), (.int .i64 0)]) 56 rfl Try.underlying29 info25 rfl (by decide) (by omega) v278 y277 l0 _ _ _ (fun k_ => k_ ≠ gb276) (fun _ => False) rfl rfl ?aO ?aR (fun _ _ h => h) (fun _ h => h.elim) ?aF ?aB ?aS ?aL ?_; (case aR => repeat (first | exact (Kd.C_below HR0.out HB.out) | (with_reducible refine Kd.C_alloc ?_ _) | (with_reducible refine Kd.C_drewN ?_ _) | (with_reducible refine Kd.C_drew ?_))); (case aB => exact (by repeat (first | (with_reducible first | exact HB.out | apply below_alloc | apply pw_below_drewN | apply below_drew1 | refine below_set ?_ GE276.out) | exact HB.out))); (case aF => exact (fun k_ hk => Kd.freshB (g := gb276) (o := .cells #[.string a1_0, .string a1_1, .string a1_2, .int .i64 a1_3] 25 (0, 0)) (by (with_reducible repeat (first | refine blk_drewN ?_ _ | refine blk_drew ?_ | refine blk_alloc ?_ _)); exact BK276.out) k_ hk)); (case aO => exact (by (with_reducible repeat (first | apply Kd.R_alloc | apply Kd.R_drewN | apply Kd.R_drew)); exact Kd.R_mono HO279.out (fun _ hk => hk.2))); (case aS => exact (below_size (by repeat (first | (with_reducible first | exact HB.out | apply below_alloc | apply pw_below_drewN | apply below_drew1 | refine below_set ?_ GE276.out) | exact HB.out)))); (case aL => have := LMc3.out; omega); intro v281 w11 ho hb hg hat; rw [← Ny280.out] at ho; have n0_ := Aside0.mk (blk_grown (g := gb276) (o := .cells #[.string a1_0, .string a1_1, .string a1_2, .int .i64 a1_3] 25 (0, 0)) (by (with_reducible repeat (first | refine blk_drewN ?_ _ | refine blk_drew ?_ | refine blk_alloc ?_ _)); exact BK276.out) hg (Kd.R_away HO279.out (fun _ hk => hk.2))); have n1_ := Aside0.mk (hb); have n2_ := Aside0.mk (ho); clear BK276; clear HB; clear HO279; have BK276 := n0_; have HB := n1_; have HO282 := n2_; clear n0_ n1_ n2_; clear ho hb hg hat; obtain ⟨Ao12, co12, eo12⟩ := Kd.R_slice HO282.out; subst eo12) | ((with_reducible refine gate_callee (f := 11) rfl ?_); refine goesL_ (some 17) rfl rfl Try.func11 (by kernel_rfl) rfl #[.slice Ao12 y280.length co12] rfl (by (try simp only [List.map_toArray, List.map_cons, List.map_nil]); first | done | rfl | (simp only [List.length_drop, List.length_take]; rfl)) ?_; (with_reducible refine (sutlerref07_Check.calls k _ _ y280 t283 _ ?side1 ?side2 A4.out).mono ?_); (case side1 => repeat (first | exact (Kd.R_reads' HO282.out).2.2 | (with_reducible refine Kd.C_alloc ?_ _) | (with_reducible refine Kd.C_drewN ?_ _) | (with_reducible refine Kd.C_drew ?_))); (case side2 => exact (Kd.R_reads' HO282.out).2.1); rintro e w13 ⟨rfl, hb⟩; refine ⟨_, rfl, ?_⟩; have n0_ := Aside0.mk (Kd.R_below (by (with_reducible repeat (first | apply Kd.R_alloc | apply Kd.R_drewN | apply Kd.R_drew)); exact HO282.out) hb); have n1_ := Aside0.mk (blk_below (g := gb276) (o := .cells #[.string a1_0, .string a1_1, .string a1_2, .int .i64 a1_3] 25 (0, 0)) (by (with_reducible repeat (first | refine blk_drewN ?_ _ | refine blk_drew ?_ | refine blk_alloc ?_ _)); exact BK276.out) hb); have n2_ := Aside0.mk (below_step (by repeat (first | (with_reducible first | exact HB.out | apply below_alloc | apply pw_below_drewN | apply below_drew1 | refine below_set ?_ GE276.out) | exact HB.out)) hb); clear HO282; clear BK276; clear HB; have HO282 := n0_; have BK276 := n1_; have HB := n2_; clear n0_ n1_ n2_; (try clear hb); (try clear hb2); (try clear hk); (try clear hi); have hcz14_0 : w13.cell? ⟨gb276, 0, none⟩ = some (.string a1_0) := (blk_cell BK276.out 0).trans rfl; have hcz14_1 : w13.cell? ⟨gb276, 1, none⟩ = some (.string a1_1) := (blk_cell BK276.out 1).trans rfl; have hcz14_2 : w13.cell? ⟨gb276, 2, none⟩ = some (.string a1_2) := (blk_cell BK276.out 2).trans rfl; have hcz14_3 : w13.cell? ⟨gb276, 3, none⟩ = some (.int .i64 a1_3) := (blk_cell BK276.out 3).trans rfl; have hfz14_0 := blk_frozen BK276.out 0; have hfz14_1 := blk_frozen BK276.out 1; have hfz14_2 := blk_frozen BK276.out 2; have hfz14_3 := blk_frozen BK276.out 3) | ((with_reducible refine gate_callee (f := 12) rfl ?_); refine goesL_ (some 21) rfl rfl Try.func12 (by kernel_rfl) rfl #[.slice A0 l0.length c0, .agg #[.string a1_0, .string a1_1, .string a1_2, .int .i64 a1_3]] rfl (by (try simp only [List.map_toArray, List.map_cons, List.map_nil]); first | done | rfl | (simp only [List.length_drop, List.length_take]; rfl)) ?_; (with_reducible refine (cool_Put.calls k _ _ l0 a1_0 a1_1 a1_2 a1_3 t284 t287 _ ?side1 ?side2 A5.out).mono ?_); (case side1 => repeat (first | exact (Kd.C_below HR0.out HB.out) | (with_reducible refine Kd.C_alloc ?_ _) | (with_reducible refine Kd.C_drewN ?_ _) | (with_reducible refine Kd.C_drew ?_))); (case side2 => exact HC0.out); rintro e w15 ⟨v285, rfl, ho0, hb⟩; refine ⟨_, rfl, ?_⟩; have n0_ := Aside0.mk (Kd.R_elder' (by (with_reducible repeat (first | apply Kd.R_alloc | apply Kd.R_drewN | apply Kd.R_drew)); exact HO282.out) (Kd.R_base ho0) hb); have n1_ := Aside0.mk (Kd.R_lower (Kd.R_newB (Kd.R_new' ho0 (Kd.R_lt (by (with_reducible repeat (first | apply Kd.R_alloc | apply Kd.R_drewN | apply Kd.R_drew)); exact HO282.out))) (g := gb276) (o := .cells #[.string a1_0, .string a1_1, .string a1_2, .int .i64 a1_3] 25 (0, 0)) (by (with_reducible repeat (first | refine blk_drewN ?_ _ | refine blk_drew ?_ | refine blk_alloc ?_ _)); exact BK276.out)) (below_size (by repeat (first | (with_reducible first | exact HB.out | apply below_alloc | apply pw_below_drewN | apply below_drew1 | refine below_set ?_ GE276.out) | exact HB.out)))); have n2_ := Aside0.mk (blk_below (g := gb276) (o := .cells #[.string a1_0, .string a1_1, .string a1_2, .int .i64 a1_3] 25 (0, 0)) (by (with_reducible repeat (first | refine blk_drewN ?_ _ | refine blk_drew ?_ | refine blk_alloc ?_ _)); exact BK276.out) hb); have n3_ := Aside0.mk (below_step (by repeat (first | (with_reducible first | exact HB.out | apply below_alloc | apply pw_below_drewN | apply below_drew1 | refine below_set ?_ GE276.out) | exact HB.out)) hb); clear HO282; clear BK276; clear HB; have HO282 := n0_; have HO286 := n1_; have BK276 := n2_; have HB := n3_; clear n0_ n1_ n2_ n3_; (try clear hb); (try clear hb2); (try clear hk); (try clear hi); (try clear ho0); have hcz16_0 : w15.cell? ⟨gb276, 0, none⟩ = some (.string a1_0) := (blk_cell BK276.out 0).trans rfl; have hcz16_1 : w15.cell? ⟨gb276, 1, none⟩ = some (.string a1_1) := (blk_cell BK276.out 1).trans rfl; have hcz16_2 : w15.cell? ⟨gb276, 2, none⟩ = some (.string a1_2) := (blk_cell BK276.out 2).trans rfl; have hcz16_3 : w15.cell? ⟨gb276, 3, none⟩ = some (.int .i64 a1_3) := (blk_cell BK276.out 3).trans rfl; have hfz16_0 := blk_frozen BK276.out 0; have hfz16_1 := blk_frozen BK276.out 1; have hfz16_2 := blk_frozen BK276.out 2; have hfz16_3 := blk_frozen BK276.out 3) | ((with_reducible refine gate_callee (f := 13) rfl ?_); refine goesL_ (some 27) rfl rfl Try.func13 (by kernel_rfl) rfl #[.slice Ao12 y280.length co12, .agg #[.string a1_0, .string a1_1, .string a1_2, .int .i64 a1_3]] rfl (by (try simp only [List.map_toArray, List.map_cons, List.map_nil]); first | done | rfl | (simp only [List.length_drop, List.length_take]; rfl)) ?_; (with_reducible refine (sutlerref07_Put.calls k _ _ y280 a1_0 a1_1 a1_2 a1_3 t288 t291 _ ?side1 ?side2 A6.out).mono ?_); (case side1 => repeat (first | exact (Kd.R_reads' HO282.out).2.2 | (with_reducible refine Kd.C_alloc ?_ _) | (with_reducible refine Kd.C_drewN ?_ _) | (with_reducible refine Kd.C_drew ?_))); (case side2 => exact (Kd.R_reads' HO282.out).2.1); rintro e w17 ⟨v289, rfl, ho0, hb⟩; refine ⟨_, rfl, ?_⟩; have n0_ := Aside0.mk (Kd.R_elder' (by (with_reducible repeat (first | apply Kd.R_alloc | apply Kd.R_drewN | apply Kd.R_drew)); exact HO282.out) (Kd.R_base ho0) hb); have n1_ := Aside0.mk (Kd.R_elder' (by (with_reducible repeat (first | apply Kd.R_alloc | apply Kd.R_drewN | apply Kd.R_drew)); exact HO286.out) (Kd.R_base ho0) hb); have n2_ := Aside0.mk (Kd.R_lower (Kd.R_newB (Kd.R_new' (Kd.R_new' ho0 (Kd.R_lt (by (with_reducible repeat (first | apply Kd.R_alloc | apply Kd.R_drewN | apply Kd.R_drew)); exact HO282.out))) (Kd.R_lt (by (with_reducible repeat (first | apply Kd.R_alloc | apply Kd.R_drewN | apply Kd.R_drew)); exact HO286.out))) (g := gb276) (o := .cells #[.string a1_0, .string a1_1, .string a1_2, .int .i64 a1_3] 25 (0, 0)) (by (with_reducible repeat (first | refine blk_drewN ?_ _ | refine blk_drew ?_ | refine blk_alloc ?_ _)); exact BK276.out)) (below_size (by repeat (first | (with_reducible first | exact HB.out | apply below_alloc | apply pw_below_drewN | apply below_drew1 | refine below_set ?_ GE276.out) | exact HB.out)))); have n3_ := Aside0.mk (blk_below (g := gb276) (o := .cells #[.string a1_0, .string a1_1, .string a1_2, .int .i64 a1_3] 25 (0, 0)) (by (with_reducible repeat (first | refine blk_drewN ?_ _ | refine blk_drew ?_ | refine blk_alloc ?_ _)); exact BK276.out) hb); have n4_ := Aside0.mk (below_step (by repeat (first | (with_reducible first | exact HB.out | apply below_alloc | apply pw_below_drewN | apply below_drew1 | refine below_set ?_ GE276.out) | exact HB.out)) hb); clear HO282; clear HO286; clear BK276; clear HB; have HO282 := n0_; have HO286 := n1_; have HO290 := n2_; have BK276 := n3_; have HB := n4_; clear n0_ n1_ n2_ n3_ n4_; (try clear hb); (try clear hb2); (try clear hk); (try clear hi); (try clear ho0)))
  (try simp only [Act.put, List.setIfInBounds_toArray, List.set_cons_zero, List.set_cons_succ])
  go_cut [11] (fun v11 wc => ∃ (kq : Nat) (x11_6 : Bool), v11 = .bool x11_6 ∧ Aside0 (sutlerlaw07_CoolChecks.j0 kq l0 y280 t283 t284 x11_6 = some r) ∧ Aside0 (kq ≤ k) ∧ Aside0 (Kd.R k25 25 wc w.heap.size (fun k_ => some k_ ≠ (v285 : Value).ownBlock ∧ k_ ≠ gb276) (.slice Ao12 y280.length co12) y280) ∧ Aside0 (Kd.R k25 25 wc w.heap.size (fun k_ => some k_ ≠ ((.slice Ao12 y280.length co12) : Value).ownBlock ∧ k_ ≠ gb276) v285 t284) ∧ Aside0 (wc.heap[gb276]? = some (.cells #[.string a1_0, .string a1_1, .string a1_2, .int .i64 a1_3] 25 (0, 0))) ∧ Aside0 (Below w.heap.size w wc))
  case first =>
   have H := HC7.out
   clear HC7
   replace H := Option.bind_eq_some_iff.mp H
   obtain ⟨t292, A180, H⟩ := H
   replace H : (if t292 = true then (sutlerlaw07_CoolChecks.j0 k l0 y280 t283 t284 (t287 == t291)) else (sutlerlaw07_CoolChecks.j0 k l0 y280 t283 t284 false)) = some r := H
   have A18 := Aside0.mk A180
   clear A180
   by_cases c19 : t292 = true
   ·subst c19
    have H1 : (sutlerlaw07_CoolChecks.j0 k l0 y280 t283 t284 (t287 == t291)) = some r := by rw [if_pos rfl] at H; exact H
    clear H
    have H := H1
    clear H1
    have H' := Aside0.mk H
    clear H
    obtain ⟨Ao20, co20, eo20⟩ := Kd.R_slice HO286.out
    subst eo20
    obtain ⟨Ao21, co21, eo21⟩ := Kd.R_slice HO290.out
    subst eo21
    go_wp2_with (first | ((with_reducible refine gate_callee (f := 14) rfl ?_); refine goesL_ (some 32) rfl rfl Try.func14 (by kernel_rfl) rfl #[.slice Ao20 t284.length co20, .slice Ao21 t288.length co21] rfl (by (try simp only [List.map_toArray, List.map_cons, List.map_nil]); first | done | rfl | (simp only [List.length_drop, List.length_take]; rfl)) ?_; (with_reducible refine (sutlerlaw07_same.calls k _ _ t284 _ _ t288 true _ ?side1 ?side2 ?side3 ?side4 A18.out).mono ?_); (case side1 => repeat (first | exact (Kd.R_reads' HO286.out).2.2 | (with_reducible refine Kd.C_alloc ?_ _) | (with_reducible refine Kd.C_drewN ?_ _) | (with_reducible refine Kd.C_drew ?_))); (case side2 => exact (Kd.R_reads' HO286.out).2.1); (case side3 => repeat (first | exact (Kd.R_reads' HO290.out).2.2 | (with_reducible refine Kd.C_alloc ?_ _) | (with_reducible refine Kd.C_drewN ?_ _) | (with_reducible refine Kd.C_drew ?_))); (case side4 => exact (Kd.R_reads' HO290.out).2.1); rintro e w' ⟨rfl, ⟨nd, rfl⟩⟩; refine ⟨_, rfl, ?_⟩))
    go_meet
    case rel => exact ⟨_, ((t287 == t291)), (by first | rfl | (simp; done) | (simp [*]; done)), H', ⟨by first | omega | exact Nat.le_refl _⟩, ⟨by (with_reducible repeat (first | apply Kd.R_alloc | apply Kd.R_drewN | apply Kd.R_drew)); exact Kd.R_mono HO282.out (fun _ hk => ⟨hk.1.2, hk.1.1⟩)⟩, ⟨by (with_reducible repeat (first | apply Kd.R_alloc | apply Kd.R_drewN | apply Kd.R_drew)); exact Kd.R_mono HO286.out (fun _ hk => ⟨hk.1.1.2, hk.1.2⟩)⟩, ⟨by (with_reducible repeat (first | refine blk_drewN ?_ _ | refine blk_drew ?_ | refine blk_alloc ?_ _)); exact BK276.out⟩, ⟨by repeat (first | (with_reducible first | exact HB.out | apply below_alloc | apply pw_below_drewN | apply below_drew1 | refine below_set ?_ GE276.out) | exact HB.out)⟩⟩
   ·replace c19 := Bool.eq_false_iff.mpr c19
    subst c19
    have H1 : (sutlerlaw07_CoolChecks.j0 k l0 y280 t283 t284 false) = some r := by rw [if_neg (show ¬ (false = true) by decide)] at H; exact H
    clear H
    have H := H1
    clear H1
    have H' := Aside0.mk H
    clear H
    obtain ⟨Ao22, co22, eo22⟩ := Kd.R_slice HO286.out
    subst eo22
    obtain ⟨Ao23, co23, eo23⟩ := Kd.R_slice HO290.out
    subst eo23
    go_wp2_with (first | ((with_reducible refine gate_callee (f := 14) rfl ?_); refine goesL_ (some 32) rfl rfl Try.func14 (by kernel_rfl) rfl #[.slice Ao22 t284.length co22, .slice Ao23 t288.length co23] rfl (by (try simp only [List.map_toArray, List.map_cons, List.map_nil]); first | done | rfl | (simp only [List.length_drop, List.length_take]; rfl)) ?_; (with_reducible refine (sutlerlaw07_same.calls k _ _ t284 _ _ t288 false _ ?side1 ?side2 ?side3 ?side4 A18.out).mono ?_); (case side1 => repeat (first | exact (Kd.R_reads' HO286.out).2.2 | (with_reducible refine Kd.C_alloc ?_ _) | (with_reducible refine Kd.C_drewN ?_ _) | (with_reducible refine Kd.C_drew ?_))); (case side2 => exact (Kd.R_reads' HO286.out).2.1); (case side3 => repeat (first | exact (Kd.R_reads' HO290.out).2.2 | (with_reducible refine Kd.C_alloc ?_ _) | (with_reducible refine Kd.C_drewN ?_ _) | (with_reducible refine Kd.C_drew ?_))); (case side4 => exact (Kd.R_reads' HO290.out).2.1); rintro e w' ⟨rfl, ⟨nd, rfl⟩⟩; refine ⟨_, rfl, ?_⟩))
    go_meet
    case rel => exact ⟨_, (false), (by first | rfl | (simp; done) | (simp [*]; done)), H', ⟨by first | omega | exact Nat.le_refl _⟩, ⟨by (with_reducible repeat (first | apply Kd.R_alloc | apply Kd.R_drewN | apply Kd.R_drew)); exact Kd.R_mono HO282.out (fun _ hk => ⟨hk.1.2, hk.1.1⟩)⟩, ⟨by (with_reducible repeat (first | apply Kd.R_alloc | apply Kd.R_drewN | apply Kd.R_drew)); exact Kd.R_mono HO286.out (fun _ hk => ⟨hk.1.1.2, hk.1.2⟩)⟩, ⟨by (with_reducible repeat (first | refine blk_drewN ?_ _ | refine blk_drew ?_ | refine blk_alloc ?_ _)); exact BK276.out⟩, ⟨by repeat (first | (with_reducible first | exact HB.out | apply below_alloc | apply pw_below_drewN | apply below_drew1 | refine below_set ?_ GE276.out) | exact HB.out)⟩⟩
  case rest =>
   clear HC7
   try clear c1
   try clear p2
   try clear c3
   try clear c4
   try clear c11
   try clear c12
   try clear c13
   try clear c14
   try clear c19
   try clear hcz14_0
   try clear hcz14_1
   try clear hcz14_2
   try clear hcz14_3
   try clear hcz16_0
   try clear hcz16_1
   try clear hcz16_2
   try clear hcz16_3
   try clear hfz14_0
   try clear hfz14_1
   try clear hfz14_2
   try clear hfz14_3
   try clear hfz16_0
   try clear hfz16_1
   try clear hfz16_2
   try clear hfz16_3
   obtain ⟨kq, x11_6, rfl, HA, HJ6, HO_5, HO_7, BK276, HB⟩ := hcut
   cases kq with
   | zero => exact absurd HA.out (by simp [sutlerlaw07_CoolChecks.j0])
   | succ kj6 =>
    have H := HA.out
    clear HA
    simp only [sutlerlaw07_CoolChecks.j0] at H
    have H' := Aside0.mk H
    clear H
    go_wp2
    go_loopg [12] kj6 (fun kq v12 w' => ∃ (x7_2 : List (S25)) (x12_2 : Int) (x277000_2 : ByteArray) (x277001_2 : ByteArray) (x277002_2 : ByteArray) (x277003_2 : Int), v12 = .int .i64 x12_2 ∧ Aside0 (sutlerlaw07_CoolChecks.l0 kq l0 y280 t283 x7_2 x11_6 x12_2 = some r) ∧ Aside0 (kq ≤ kj6) ∧ Aside0 (Kd.R k25 25 w' w.heap.size (fun k_ => some k_ ≠ (v285 : Value).ownBlock ∧ k_ ≠ gb276) (.slice Ao12 y280.length co12) y280) ∧ Aside0 (Kd.R k25 25 w' w.heap.size (fun k_ => some k_ ≠ ((.slice Ao12 y280.length co12) : Value).ownBlock ∧ k_ ≠ gb276) v285 x7_2) ∧ Aside0 (w'.heap[gb276]? = some (.cells #[.string x277000_2, .string x277001_2, .string x277002_2, .int .i64 x277003_2] 25 (0, 0))) ∧ Aside0 (Below w.heap.size w w'))
    case atStart => exact ⟨(t284), (0), (a1_0), (a1_1), (a1_2), (a1_3), (by first | rfl | (simp; done) | (simp [*]; done)), H', ⟨Nat.le_refl _⟩, ⟨by (with_reducible repeat (first | apply Kd.R_alloc | apply Kd.R_drewN | apply Kd.R_drew)); exact HO_5.out⟩, ⟨by (with_reducible repeat (first | apply Kd.R_alloc | apply Kd.R_drewN | apply Kd.R_drew)); exact HO_7.out⟩, ⟨by (with_reducible repeat (first | refine blk_drewN ?_ _ | refine blk_drew ?_ | refine blk_alloc ?_ _)); exact BK276.out⟩, ⟨by repeat (first | (with_reducible first | exact HB.out | apply below_alloc | apply pw_below_drewN | apply below_drew1 | refine below_set ?_ GE276.out) | exact HB.out)⟩⟩
    case round =>
     clear H'
     try clear c1
     try clear p2
     try clear c3
     try clear c4
     try clear c11
     try clear c12
     try clear c13
     try clear c14
     try clear c19
     try clear hcz14_0
     try clear hcz14_1
     try clear hcz14_2
     try clear hcz14_3
     try clear hcz16_0
     try clear hcz16_1
     try clear hcz16_2
     try clear hcz16_3
     try clear hfz14_0
     try clear hfz14_1
     try clear hfz14_2
     try clear hfz14_3
     try clear hfz16_0
     try clear hfz16_1
     try clear hfz16_2
     try clear hfz16_3
     try clear p2
     obtain ⟨x7_2, x12_2, x277000_2, x277001_2, x277002_2, x277003_2, rfl, HA, HK2, HO_5, HO_7, BK276, HB⟩ := hrel
     cases gk with
     | zero => exact absurd HA.out (by simp [sutlerlaw07_CoolChecks.l0])
     | succ k2 =>
      have H := HA.out
      clear HA
      simp only [sutlerlaw07_CoolChecks.l0] at H
      by_cases c24 : x12_2 < (x7_2.length : Int)
      ·rw [if_pos c24] at H
       have c24b0 : decide (x12_2 < (x7_2.length : Int)) = true := decide_eq_true c24
       clear c24
       by_cases c25 : 0 ≤ x12_2
       ·rw [if_pos c25] at H
        have c25b0 : decide (0 ≤ x12_2) = true := decide_eq_true c25
        clear c25
        obtain ⟨y293, hy293⟩ : ∃ y_ : List (S25), y_ = (x7_2.set (x12_2 : Int).toNat (⟨(⟨(⟨#[]⟩ : ByteArray), (⟨#[]⟩ : ByteArray), (⟨#[]⟩ : ByteArray)⟩ : S23), (-77)⟩ : S25)) := ⟨_, rfl⟩
        replace H : (sutlerlaw07_CoolChecks.l0 k2 l0 y280 t283 y293 x11_6 (wrap64 (x12_2 + 1))) = some r := by first | (rw [hy293]; with_reducible exact H) | (have H2_ := (Option.bind_some _ _).symm.trans H; rw [hy293]; with_reducible exact H2_) | (have H2_ := (Option.bind_some _ _).symm.trans H; with_reducible exact H2_) | with_reducible exact H | (rw [hy293]; exact H) | exact H
        have Ny293 := Aside0.mk hy293
        clear hy293
        have H' := Aside0.mk H
        clear H
        obtain ⟨Ao27, co27, eo27⟩ := Kd.R_slice HO_7.out
        subst eo27
        have p26 : 0 ≤ (x12_2 : Int) := of_decide_eq_true (by first | (with_reducible assumption) | assumption)
        have q26 : (x12_2 : Int) < ((x7_2.length : Int) : Int) := of_decide_eq_true (by first | (with_reducible assumption) | assumption)
        obtain ⟨go26, co26, eo26, gb26, gl26, cl26, HG26⟩ := Kd.R_form HO_7.out (by omega)
        (first | cases eo26 | (injection eo26 with ea_ en_ ec_; (first | subst ea_ | (injection ea_ with ea_; subst ea_)); subst ec_; clear en_))
        have GB26 := Aside0.mk gb26
        have GG26 := Aside0.mk HG26
        clear gb26 gl26 HG26
        obtain ⟨ce26, hcl26, hM26, hcc26, hfr26⟩ := Kd.R_elem HO_7.out z25 (x12_2 : Int) p26 q26
        obtain rfl := k25_openM hM26
        have hx26_0 : wr.cell? ⟨go26, (x12_2 : Int).toNat * 4, none⟩ = some (.string ((rd_T25 x7_2 x12_2).f0.f0)) := hcc26 0 _ rfl
        have hx26_1 : wr.cell? ⟨go26, (x12_2 : Int).toNat * 4 + 1, none⟩ = some (.string ((rd_T25 x7_2 x12_2).f0.f1)) := hcc26 1 _ rfl
        have hx26_2 : wr.cell? ⟨go26, (x12_2 : Int).toNat * 4 + 2, none⟩ = some (.string ((rd_T25 x7_2 x12_2).f0.f2)) := hcc26 2 _ rfl
        have hx26_3 : wr.cell? ⟨go26, (x12_2 : Int).toNat * 4 + 3, none⟩ = some (.int .i64 ((rd_T25 x7_2 x12_2).f1)) := hcc26 3 _ rfl
        have hf26_0 : wr.frozen? ⟨go26, (x12_2 : Int).toNat * 4, none⟩ = false := hfr26 0
        have hf26_1 : wr.frozen? ⟨go26, (x12_2 : Int).toNat * 4 + 1, none⟩ = false := hfr26 1
        have hf26_2 : wr.frozen? ⟨go26, (x12_2 : Int).toNat * 4 + 2, none⟩ = false := hfr26 2
        have hf26_3 : wr.frozen? ⟨go26, (x12_2 : Int).toNat * 4 + 3, none⟩ = false := hfr26 3
        clear hcl26 hcc26 hfr26 hM26
        replace p26 := eq_true p26
        replace q26 := eq_true q26
        have HX28 := Aside0.mk (show Kd.R k25 25 wr w.heap.size (fun k_ => some k_ ≠ (.slice Ao12 y280.length co12 : Value).ownBlock ∧ k_ ≠ gb276) (.slice (some ⟨go26, 0, none⟩) x7_2.length co27) x7_2 from (by (with_reducible repeat (first | apply Kd.R_alloc | apply Kd.R_drewN | apply Kd.R_drew)); exact HO_7.out))
        obtain ⟨ce28, hcl28, hM28, hcc28, hfr28⟩ := Kd.R_elem HX28.out z25 (x12_2 : Int) (of_decide_eq_true (by first | (with_reducible assumption) | assumption)) (by have h_ : (x12_2 : Int) < ((x7_2.length : Int) : Int) := of_decide_eq_true (by first | (with_reducible assumption) | assumption); first | exact h_ | (have e_ := (Kd.R_reads' HO_7.out).1; omega) | simpa using h_)
        obtain rfl := k25_openM hM28
        have HP28 := Kd.R_seg HX28.out (x12_2 : Int) (of_decide_eq_true (by first | (with_reducible assumption) | assumption)) (by have h_ : (x12_2 : Int) < ((x7_2.length : Int) : Int) := of_decide_eq_true (by first | (with_reducible assumption) | assumption); first | exact h_ | (have e_ := (Kd.R_reads' HO_7.out).1; omega) | simpa using h_) (seg := [.string (⟨#[]⟩ : ByteArray), .string (⟨#[]⟩ : ByteArray), .string (⟨#[]⟩ : ByteArray), .int .i64 (-77)]) (j := 0) hcl28 hcc28 (show 4 ≤ 4 from by decide) (x' := (⟨(⟨(⟨#[]⟩ : ByteArray), (⟨#[]⟩ : ByteArray), (⟨#[]⟩ : ByteArray)⟩ : S23), (-77)⟩ : S25)) (k25_mkM _ _ _ (⟨(⟨(⟨#[]⟩ : ByteArray), (⟨#[]⟩ : ByteArray), (⟨#[]⟩ : ByteArray)⟩ : S23), (-77)⟩ : S25) ) (fun _ hk => hk)
        have hx28_0 := hcc28 0 _ rfl
        (try simp only [show (k25).sz = 4 from rfl, Nat.mul_one, Nat.add_zero] at hx28_0)
        have hf28_0 := hfr28 0
        (try simp only [show (k25).sz = 4 from rfl, Nat.mul_one, Nat.add_zero] at hf28_0)
        have hx28_1 := hcc28 1 _ rfl
        (try simp only [show (k25).sz = 4 from rfl, Nat.mul_one, Nat.add_zero] at hx28_1)
        have hf28_1 := hfr28 1
        (try simp only [show (k25).sz = 4 from rfl, Nat.mul_one, Nat.add_zero] at hf28_1)
        have hx28_2 := hcc28 2 _ rfl
        (try simp only [show (k25).sz = 4 from rfl, Nat.mul_one, Nat.add_zero] at hx28_2)
        have hf28_2 := hfr28 2
        (try simp only [show (k25).sz = 4 from rfl, Nat.mul_one, Nat.add_zero] at hf28_2)
        have hx28_3 := hcc28 3 _ rfl
        (try simp only [show (k25).sz = 4 from rfl, Nat.mul_one, Nat.add_zero] at hx28_3)
        have hf28_3 := hfr28 3
        (try simp only [show (k25).sz = 4 from rfl, Nat.mul_one, Nat.add_zero] at hf28_3)
        clear hcl28 hcc28 hfr28 hM28
        go_wp2_with (first | ((with_reducible refine gate_store (t := 25) (p := 47) rfl ?_); refine store_event (t := 25) (p := 47) (v := ?vo_w29) (w1 := ((((wr.setCell ⟨go26, (x12_2 : Int).toNat * 4, none⟩ (.string (⟨#[]⟩ : ByteArray))).setCell ⟨go26, (x12_2 : Int).toNat * 4 + 1, none⟩ (.string (⟨#[]⟩ : ByteArray))).setCell ⟨go26, (x12_2 : Int).toNat * 4 + 2, none⟩ (.string (⟨#[]⟩ : ByteArray))).setCell ⟨go26, (x12_2 : Int).toNat * 4 + 3, none⟩ (.int .i64 (-77)))) ?hg ?ho ?hn ?hr ?_; (case ho => rfl); (case hg => rfl); (case hn => rfl); (case hr => first | (go_simp; done) | (go_simp; rfl)); intro w29 hw; have hg : wr.grownBy w29 (some go26) := (by rw [hw]; exact HP28.2); have hp_ : Kd.R k25 25 w29 w.heap.size (fun k_ => some k_ ≠ (.slice Ao12 y280.length co12 : Value).ownBlock ∧ k_ ≠ gb276) (.slice (some ⟨go26, 0, none⟩) x7_2.length co27) y293 := (by rw [hw, Ny293.out]; exact HP28.1); clear HP28; have n0_ := Aside0.mk (Kd.R_after (v := (.slice (some ⟨go26, 0, none⟩) x7_2.length co27)) (v1 := (.slice (some ⟨go26, 0, none⟩) x7_2.length co27)) (ok := (fun k_ => k_ ≠ gb276)) (by (with_reducible repeat (first | apply Kd.R_alloc | apply Kd.R_drewN | apply Kd.R_drew)); exact Kd.R_mono HO_5.out (fun _ hk => ⟨hk.2, hk.1⟩)) hg (.inl rfl)); have n1_ := Aside0.mk (hp_); have n2_ := Aside0.mk (blk_grown (g := gb276) (o := .cells #[.string x277000_2, .string x277001_2, .string x277002_2, .int .i64 x277003_2] 25 (0, 0)) (by (with_reducible repeat (first | refine blk_drewN ?_ _ | refine blk_drew ?_ | refine blk_alloc ?_ _)); exact BK276.out) hg (Kd.R_away HO_7.out (fun _ hk => hk.2))); have n3_ := Aside0.mk ((by rw [hw]; exact below_set (below_set (below_set (below_set (HB.out) GB26.out) GB26.out) GB26.out) GB26.out : Below w.heap.size w w29)); clear HO_5; clear HO_7; clear BK276; clear HB; have HO_5 := n0_; have HO_7 := n1_; have BK276 := n2_; have HB := n3_; clear n0_ n1_ n2_ n3_; clear hg hw hp_))
        go_roundg k2
        case measure => have := HJ6.out; have := HK2.out; omega
        case rel => exact ⟨(y293), (wrap64 (x12_2 + 1)), (x277000_2), (x277001_2), (x277002_2), (x277003_2), (by first | rfl | (simp; done) | (simp [*]; done)), H', ⟨by have := HJ6.out; have := HK2.out; omega⟩, ⟨by (with_reducible repeat (first | apply Kd.R_alloc | apply Kd.R_drewN | apply Kd.R_drew)); exact Kd.R_mono HO_5.out (fun _ hk => ⟨hk.2, hk.1⟩)⟩, ⟨by (with_reducible repeat (first | apply Kd.R_alloc | apply Kd.R_drewN | apply Kd.R_drew)); exact HO_7.out⟩, ⟨by (with_reducible repeat (first | refine blk_drewN ?_ _ | refine blk_drew ?_ | refine blk_alloc ?_ _)); exact BK276.out⟩, ⟨by repeat (first | (with_reducible first | exact HB.out | apply below_alloc | apply pw_below_drewN | apply below_drew1 | refine below_set ?_ GE276.out) | exact HB.out)⟩⟩
       ·rw [if_neg c25] at H
        exact absurd H (by simp)
      ·rw [if_neg c24] at H
       have c24b0 : decide (x12_2 < (x7_2.length : Int)) = false := decide_eq_false c24
       clear c24
       replace H := Option.bind_eq_some_iff.mp H
       obtain ⟨t294, A300, H⟩ := H
       replace H : (if t294 = true then ((cool_Check.f k2 l0).bind fun t295 => (if t295 = t283 then (if x11_6 = true then ((sutlerlaw07_same.f k2 l0 y280).bind fun t296 => (some t296)) else (some false)) else (some false))) else (some false)) = some r := H
       have A30 := Aside0.mk A300
       clear A300
       by_cases c31 : t294 = true
       ·subst c31
        have H1 : ((cool_Check.f k2 l0).bind fun t295 => (if t295 = t283 then (if x11_6 = true then ((sutlerlaw07_same.f k2 l0 y280).bind fun t296 => (some t296)) else (some false)) else (some false))) = some r := by rw [if_pos rfl] at H; exact H
        clear H
        have H := H1
        clear H1
        replace H := Option.bind_eq_some_iff.mp H
        obtain ⟨t295, A320, H⟩ := H
        replace H : (if t295 = t283 then (if x11_6 = true then ((sutlerlaw07_same.f k2 l0 y280).bind fun t296 => (some t296)) else (some false)) else (some false)) = some r := H
        have A32 := Aside0.mk A320
        clear A320
        by_cases c33 : t295 = t283
        ·rw [if_pos c33] at H
         have c33b0 : (t295 == t283) = true := beq_iff_eq.mpr c33
         have c33b1 : (t295 != t283) = false := bne_eq_false_iff_eq.mpr c33
         clear c33
         by_cases c34 : x11_6 = true
         ·subst c34
          have H1 : ((sutlerlaw07_same.f k2 l0 y280).bind fun t296 => (some t296)) = some r := by rw [if_pos rfl] at H; exact H
          clear H
          have H := H1
          clear H1
          replace H := Option.bind_eq_some_iff.mp H
          obtain ⟨t296, A350, H⟩ := H
          replace H : (some t296) = some r := H
          have A35 := Aside0.mk A350
          clear A350
          obtain rfl := Option.some.inj H
          obtain ⟨Ao36, co36, eo36⟩ := Kd.R_slice HO_7.out
          subst eo36
          go_wp2_with (first | ((with_reducible refine gate_callee (f := 10) rfl ?_); refine goesL_ (some 48) rfl rfl Try.func10 (by kernel_rfl) rfl #[] rfl (by (try simp only [List.map_toArray, List.map_cons, List.map_nil]); first | done | rfl | (simp only [List.length_drop, List.length_take]; rfl)) ?_; (with_reducible refine (sutlerlaw07_live.calls k2  true _ A30.out).mono ?_); rintro e w37 ⟨rfl, hb⟩; refine ⟨_, rfl, ?_⟩; have n0_ := Aside0.mk (Kd.R_below (by (with_reducible repeat (first | apply Kd.R_alloc | apply Kd.R_drewN | apply Kd.R_drew)); exact HO_5.out) hb); have n1_ := Aside0.mk (Kd.R_below (by (with_reducible repeat (first | apply Kd.R_alloc | apply Kd.R_drewN | apply Kd.R_drew)); exact HO_7.out) hb); have n2_ := Aside0.mk (blk_below (g := gb276) (o := .cells #[.string x277000_2, .string x277001_2, .string x277002_2, .int .i64 x277003_2] 25 (0, 0)) (by (with_reducible repeat (first | refine blk_drewN ?_ _ | refine blk_drew ?_ | refine blk_alloc ?_ _)); exact BK276.out) hb); have n3_ := Aside0.mk (below_step (by repeat (first | (with_reducible first | exact HB.out | apply below_alloc | apply pw_below_drewN | apply below_drew1 | refine below_set ?_ GE276.out) | exact HB.out)) hb); clear HO_5; clear HO_7; clear BK276; clear HB; have HO_5 := n0_; have HO_7 := n1_; have BK276 := n2_; have HB := n3_; clear n0_ n1_ n2_ n3_; (try clear hb); (try clear hb2); (try clear hk); (try clear hi)) | (go_at_call 9; (with_reducible refine (cool_Check.calls k2 _ _ l0 t295 _ ?side1 ?side2 A32.out).mono ?_); (case side1 => repeat (first | exact (Kd.C_below HR0.out HB.out) | (with_reducible refine Kd.C_alloc ?_ _) | (with_reducible refine Kd.C_drewN ?_ _) | (with_reducible refine Kd.C_drew ?_))); (case side2 => exact HC0.out); rintro e w38 ⟨rfl, hb⟩; have n0_ := Aside0.mk (Kd.R_below (by (with_reducible repeat (first | apply Kd.R_alloc | apply Kd.R_drewN | apply Kd.R_drew)); exact HO_5.out) hb); have n1_ := Aside0.mk (Kd.R_below (by (with_reducible repeat (first | apply Kd.R_alloc | apply Kd.R_drewN | apply Kd.R_drew)); exact HO_7.out) hb); have n2_ := Aside0.mk (blk_below (g := gb276) (o := .cells #[.string x277000_2, .string x277001_2, .string x277002_2, .int .i64 x277003_2] 25 (0, 0)) (by (with_reducible repeat (first | refine blk_drewN ?_ _ | refine blk_drew ?_ | refine blk_alloc ?_ _)); exact BK276.out) hb); have n3_ := Aside0.mk (below_step (by repeat (first | (with_reducible first | exact HB.out | apply below_alloc | apply pw_below_drewN | apply below_drew1 | refine below_set ?_ GE276.out) | exact HB.out)) hb); clear HO_5; clear HO_7; clear BK276; clear HB; have HO_5 := n0_; have HO_7 := n1_; have BK276 := n2_; have HB := n3_; clear n0_ n1_ n2_ n3_; (try clear hb); (try clear hb2); (try clear hk); (try clear hi)) | (go_at_call 14; (with_reducible refine (sutlerlaw07_same.calls k2 _ _ l0 _ _ y280 t296 _ ?side1 ?side2 ?side3 ?side4 A35.out).mono ?_); (case side1 => repeat (first | exact (Kd.C_below HR0.out HB.out) | (with_reducible refine Kd.C_alloc ?_ _) | (with_reducible refine Kd.C_drewN ?_ _) | (with_reducible refine Kd.C_drew ?_))); (case side2 => exact HC0.out); (case side3 => repeat (first | exact (Kd.R_reads' HO_5.out).2.2 | (with_reducible refine Kd.C_alloc ?_ _) | (with_reducible refine Kd.C_drewN ?_ _) | (with_reducible refine Kd.C_drew ?_))); (case side4 => exact (Kd.R_reads' HO_5.out).2.1); rintro e w' ⟨rfl, ⟨nd, rfl⟩⟩))
          go_ret
          exact ⟨by first | rfl | (simp [errW_none, errW_some] <;> rfl) | (simp [*, errW_none, errW_some] <;> rfl), by repeat (first | (with_reducible first | exact HB.out | apply below_alloc | apply pw_below_drewN | apply below_drew1 | refine below_set ?_ GE276.out) | exact HB.out)⟩
         ·replace c34 := Bool.eq_false_iff.mpr c34
          subst c34
          have H1 : (some false) = some r := by rw [if_neg (show ¬ (false = true) by decide)] at H; exact H
          clear H
          have H := H1
          clear H1
          obtain rfl := Option.some.inj H
          obtain ⟨Ao39, co39, eo39⟩ := Kd.R_slice HO_7.out
          subst eo39
          go_wp2_with (first | ((with_reducible refine gate_callee (f := 10) rfl ?_); refine goesL_ (some 48) rfl rfl Try.func10 (by kernel_rfl) rfl #[] rfl (by (try simp only [List.map_toArray, List.map_cons, List.map_nil]); first | done | rfl | (simp only [List.length_drop, List.length_take]; rfl)) ?_; (with_reducible refine (sutlerlaw07_live.calls k2  true _ A30.out).mono ?_); rintro e w40 ⟨rfl, hb⟩; refine ⟨_, rfl, ?_⟩; have n0_ := Aside0.mk (Kd.R_below (by (with_reducible repeat (first | apply Kd.R_alloc | apply Kd.R_drewN | apply Kd.R_drew)); exact HO_5.out) hb); have n1_ := Aside0.mk (Kd.R_below (by (with_reducible repeat (first | apply Kd.R_alloc | apply Kd.R_drewN | apply Kd.R_drew)); exact HO_7.out) hb); have n2_ := Aside0.mk (blk_below (g := gb276) (o := .cells #[.string x277000_2, .string x277001_2, .string x277002_2, .int .i64 x277003_2] 25 (0, 0)) (by (with_reducible repeat (first | refine blk_drewN ?_ _ | refine blk_drew ?_ | refine blk_alloc ?_ _)); exact BK276.out) hb); have n3_ := Aside0.mk (below_step (by repeat (first | (with_reducible first | exact HB.out | apply below_alloc | apply pw_below_drewN | apply below_drew1 | refine below_set ?_ GE276.out) | exact HB.out)) hb); clear HO_5; clear HO_7; clear BK276; clear HB; have HO_5 := n0_; have HO_7 := n1_; have BK276 := n2_; have HB := n3_; clear n0_ n1_ n2_ n3_; (try clear hb); (try clear hb2); (try clear hk); (try clear hi)) | (go_at_call 9; (with_reducible refine (cool_Check.calls k2 _ _ l0 t295 _ ?side1 ?side2 A32.out).mono ?_); (case side1 => repeat (first | exact (Kd.C_below HR0.out HB.out) | (with_reducible refine Kd.C_alloc ?_ _) | (with_reducible refine Kd.C_drewN ?_ _) | (with_reducible refine Kd.C_drew ?_))); (case side2 => exact HC0.out); rintro e w41 ⟨rfl, hb⟩; have n0_ := Aside0.mk (Kd.R_below (by (with_reducible repeat (first | apply Kd.R_alloc | apply Kd.R_drewN | apply Kd.R_drew)); exact HO_5.out) hb); have n1_ := Aside0.mk (Kd.R_below (by (with_reducible repeat (first | apply Kd.R_alloc | apply Kd.R_drewN | apply Kd.R_drew)); exact HO_7.out) hb); have n2_ := Aside0.mk (blk_below (g := gb276) (o := .cells #[.string x277000_2, .string x277001_2, .string x277002_2, .int .i64 x277003_2] 25 (0, 0)) (by (with_reducible repeat (first | refine blk_drewN ?_ _ | refine blk_drew ?_ | refine blk_alloc ?_ _)); exact BK276.out) hb); have n3_ := Aside0.mk (below_step (by repeat (first | (with_reducible first | exact HB.out | apply below_alloc | apply pw_below_drewN | apply below_drew1 | refine below_set ?_ GE276.out) | exact HB.out)) hb); clear HO_5; clear HO_7; clear BK276; clear HB; have HO_5 := n0_; have HO_7 := n1_; have BK276 := n2_; have HB := n3_; clear n0_ n1_ n2_ n3_; (try clear hb); (try clear hb2); (try clear hk); (try clear hi)))
          go_ret
          exact ⟨by first | rfl | (simp [errW_none, errW_some] <;> rfl) | (simp [*, errW_none, errW_some] <;> rfl), by repeat (first | (with_reducible first | exact HB.out | apply below_alloc | apply pw_below_drewN | apply below_drew1 | refine below_set ?_ GE276.out) | exact HB.out)⟩
        ·rw [if_neg c33] at H
         have c33b0 : (t295 == t283) = false := beq_eq_false_iff_ne.mpr c33
         have c33b1 : (t295 != t283) = true := bne_iff_ne.mpr c33
         obtain rfl := Option.some.inj H
         obtain ⟨Ao42, co42, eo42⟩ := Kd.R_slice HO_7.out
         subst eo42
         go_wp2_with (first | ((with_reducible refine gate_callee (f := 10) rfl ?_); refine goesL_ (some 48) rfl rfl Try.func10 (by kernel_rfl) rfl #[] rfl (by (try simp only [List.map_toArray, List.map_cons, List.map_nil]); first | done | rfl | (simp only [List.length_drop, List.length_take]; rfl)) ?_; (with_reducible refine (sutlerlaw07_live.calls k2  true _ A30.out).mono ?_); rintro e w43 ⟨rfl, hb⟩; refine ⟨_, rfl, ?_⟩; have n0_ := Aside0.mk (Kd.R_below (by (with_reducible repeat (first | apply Kd.R_alloc | apply Kd.R_drewN | apply Kd.R_drew)); exact HO_5.out) hb); have n1_ := Aside0.mk (Kd.R_below (by (with_reducible repeat (first | apply Kd.R_alloc | apply Kd.R_drewN | apply Kd.R_drew)); exact HO_7.out) hb); have n2_ := Aside0.mk (blk_below (g := gb276) (o := .cells #[.string x277000_2, .string x277001_2, .string x277002_2, .int .i64 x277003_2] 25 (0, 0)) (by (with_reducible repeat (first | refine blk_drewN ?_ _ | refine blk_drew ?_ | refine blk_alloc ?_ _)); exact BK276.out) hb); have n3_ := Aside0.mk (below_step (by repeat (first | (with_reducible first | exact HB.out | apply below_alloc | apply pw_below_drewN | apply below_drew1 | refine below_set ?_ GE276.out) | exact HB.out)) hb); clear HO_5; clear HO_7; clear BK276; clear HB; have HO_5 := n0_; have HO_7 := n1_; have BK276 := n2_; have HB := n3_; clear n0_ n1_ n2_ n3_; (try clear hb); (try clear hb2); (try clear hk); (try clear hi)) | (go_at_call 9; (with_reducible refine (cool_Check.calls k2 _ _ l0 t295 _ ?side1 ?side2 A32.out).mono ?_); (case side1 => repeat (first | exact (Kd.C_below HR0.out HB.out) | (with_reducible refine Kd.C_alloc ?_ _) | (with_reducible refine Kd.C_drewN ?_ _) | (with_reducible refine Kd.C_drew ?_))); (case side2 => exact HC0.out); rintro e w44 ⟨rfl, hb⟩; have n0_ := Aside0.mk (Kd.R_below (by (with_reducible repeat (first | apply Kd.R_alloc | apply Kd.R_drewN | apply Kd.R_drew)); exact HO_5.out) hb); have n1_ := Aside0.mk (Kd.R_below (by (with_reducible repeat (first | apply Kd.R_alloc | apply Kd.R_drewN | apply Kd.R_drew)); exact HO_7.out) hb); have n2_ := Aside0.mk (blk_below (g := gb276) (o := .cells #[.string x277000_2, .string x277001_2, .string x277002_2, .int .i64 x277003_2] 25 (0, 0)) (by (with_reducible repeat (first | refine blk_drewN ?_ _ | refine blk_drew ?_ | refine blk_alloc ?_ _)); exact BK276.out) hb); have n3_ := Aside0.mk (below_step (by repeat (first | (with_reducible first | exact HB.out | apply below_alloc | apply pw_below_drewN | apply below_drew1 | refine below_set ?_ GE276.out) | exact HB.out)) hb); clear HO_5; clear HO_7; clear BK276; clear HB; have HO_5 := n0_; have HO_7 := n1_; have BK276 := n2_; have HB := n3_; clear n0_ n1_ n2_ n3_; (try clear hb); (try clear hb2); (try clear hk); (try clear hi)))
         go_ret
         exact ⟨by first | rfl | (simp [errW_none, errW_some] <;> rfl) | (simp [*, errW_none, errW_some] <;> rfl), by repeat (first | (with_reducible first | exact HB.out | apply below_alloc | apply pw_below_drewN | apply below_drew1 | refine below_set ?_ GE276.out) | exact HB.out)⟩
       ·replace c31 := Bool.eq_false_iff.mpr c31
        subst c31
        have H1 : (some false) = some r := by rw [if_neg (show ¬ (false = true) by decide)] at H; exact H
        clear H
        have H := H1
        clear H1
        obtain rfl := Option.some.inj H
        obtain ⟨Ao45, co45, eo45⟩ := Kd.R_slice HO_7.out
        subst eo45
        go_wp2_with (first | ((with_reducible refine gate_callee (f := 10) rfl ?_); refine goesL_ (some 48) rfl rfl Try.func10 (by kernel_rfl) rfl #[] rfl (by (try simp only [List.map_toArray, List.map_cons, List.map_nil]); first | done | rfl | (simp only [List.length_drop, List.length_take]; rfl)) ?_; (with_reducible refine (sutlerlaw07_live.calls k2  false _ A30.out).mono ?_); rintro e w46 ⟨rfl, hb⟩; refine ⟨_, rfl, ?_⟩; have n0_ := Aside0.mk (Kd.R_below (by (with_reducible repeat (first | apply Kd.R_alloc | apply Kd.R_drewN | apply Kd.R_drew)); exact HO_5.out) hb); have n1_ := Aside0.mk (Kd.R_below (by (with_reducible repeat (first | apply Kd.R_alloc | apply Kd.R_drewN | apply Kd.R_drew)); exact HO_7.out) hb); have n2_ := Aside0.mk (blk_below (g := gb276) (o := .cells #[.string x277000_2, .string x277001_2, .string x277002_2, .int .i64 x277003_2] 25 (0, 0)) (by (with_reducible repeat (first | refine blk_drewN ?_ _ | refine blk_drew ?_ | refine blk_alloc ?_ _)); exact BK276.out) hb); have n3_ := Aside0.mk (below_step (by repeat (first | (with_reducible first | exact HB.out | apply below_alloc | apply pw_below_drewN | apply below_drew1 | refine below_set ?_ GE276.out) | exact HB.out)) hb); clear HO_5; clear HO_7; clear BK276; clear HB; have HO_5 := n0_; have HO_7 := n1_; have BK276 := n2_; have HB := n3_; clear n0_ n1_ n2_ n3_; (try clear hb); (try clear hb2); (try clear hk); (try clear hi)))
        go_ret
        exact ⟨by first | rfl | (simp [errW_none, errW_some] <;> rfl) | (simp [*, errW_none, errW_some] <;> rfl), by repeat (first | (with_reducible first | exact HB.out | apply below_alloc | apply pw_below_drewN | apply below_drew1 | refine below_set ?_ GE276.out) | exact HB.out)⟩
 ·rw [if_neg c3] at H
  exact absurd H (by simp)

end Go.Proofs.Ytiodidhbkgnicaa.PAll
