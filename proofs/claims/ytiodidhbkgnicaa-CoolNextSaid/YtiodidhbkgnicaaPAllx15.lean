-- written by a program of this session (the kit's print, turned): plain functions and their contracts
-- shrunk
import Derived.Test.YtiodidhbkgnicaaPAllx0
import Derived.Test.YtiodidhbkgnicaaPAllx13
import Derived.Test.YtiodidhbkgnicaaPAllx14
namespace Go.Proofs.Ytiodidhbkgnicaa.PAll
open Go.RowKit Go.Proofs.YtiodidhbkgnicaaW.PrintWords Go.Proofs.YtiodidhbkgnicaaW.PrintLast Go.Proofs.YtiodidhbkgnicaaW.PrintMore
attribute [local go_sem] max2_int min2_int max_two min_two max_three min_three max_four min_four   -- for this text's walks alone
set_option linter.unusedVariables false
set_option linter.unusedSimpArgs false

/-! ### sutlerref07_Check: function 11 -/
def sutlerref07_Check.l0 : Nat → List (S25) → Int → Option (Int)
 | 0, _, _ => none
 | k + 1, x0, x3 => if x3 < (x0.length : Int) then (if 0 ≤ x3 then ((sutlerref07_one.f k ((rd_T25 x0 x3).f0.f0) ((rd_T25 x0 x3).f0.f1) ((rd_T25 x0 x3).f0.f2) ((rd_T25 x0 x3).f1)).bind fun t243 => (if t243 = 0 then (if x3 > 0 then (if 0 ≤ (wrap64 (x3 - 1)) then (if (wrap64 (x3 - 1)) < (x0.length : Int) then ((sutlerref06_Less.f ((rd_T25 x0 (wrap64 (x3 - 1))).f0.f0) ((rd_T25 x0 (wrap64 (x3 - 1))).f0.f1) ((rd_T25 x0 (wrap64 (x3 - 1))).f0.f2) ((rd_T25 x0 x3).f0.f0) ((rd_T25 x0 x3).f0.f1) ((rd_T25 x0 x3).f0.f2)).bind fun t246 => (if t246 = true then (sutlerref07_Check.l0 k x0 (wrap64 (x3 + 1))) else (some 6))) else (none)) else (none)) else (sutlerref07_Check.l0 k x0 (wrap64 (x3 + 1)))) else (some t243))) else (none)) else (some 0)
def sutlerref07_Check.f (k : Nat) (l0 : List (S25)) : Option (Int) := if (l0.length : Int) > 72 then (some 3) else (sutlerref07_Check.l0 k l0 0)
theorem sutlerref07_Check.mono_l : ∀ k, (∀ y0 y1, LeO (sutlerref07_Check.l0 k y0 y1) (sutlerref07_Check.l0 (k + 1) y0 y1))
 | 0 => fun _ _ r h => by simp [sutlerref07_Check.l0] at h
 | k + 1 => by
  have ih0 := sutlerref07_Check.mono_l k
  ·intro y0 y1
   unfold sutlerref07_Check.l0
   repeat' first
   | (with_reducible exact ih0 _ _)
   | (with_reducible exact sutlerref07_one.mono _ _ _ _ _)
   | (with_reducible exact LeO.refl _)
   | (with_reducible exact LeO.none _)
   | (with_reducible refine LeO.ite ?_ ?_)
   | (with_reducible refine LeO.bind ?_ (fun _ => ?_))
   | exact ih0 _ _
   | exact sutlerref07_one.mono _ _ _ _ _
   | exact LeO.none _
   | refine LeO.ite ?_ ?_
   | refine LeO.bind ?_ (fun _ => ?_)
theorem sutlerref07_Check.mono : ∀ a0 k, LeO (sutlerref07_Check.f k a0) (sutlerref07_Check.f (k + 1) a0) := by
 intro a0 k
 have ih0 := sutlerref07_Check.mono_l k
 unfold sutlerref07_Check.f
 repeat' first
   | (with_reducible exact ih0 _ _)
   | (with_reducible exact sutlerref07_one.mono _ _ _ _ _)
   | (with_reducible exact LeO.refl _)
   | (with_reducible exact LeO.none _)
   | (with_reducible refine LeO.ite ?_ ?_)
   | (with_reducible refine LeO.bind ?_ (fun _ => ?_))
   | exact ih0 _ _
   | exact sutlerref07_one.mono _ _ _ _ _
   | exact LeO.none _
   | refine LeO.ite ?_ ?_
   | refine LeO.bind ?_ (fun _ => ?_)
def sutlerref07_Check.T10 : Bool × List (List Nat × List Nat) := (true, [([], []), ([], []), ([1], [1]), ([0, 2], [0, 2]), ([3], [3]), ([4], [4]), ([], []), ([], []), ([6, 7], [6, 7]), ([8], [8]), ([9], [9]), ([5, 10], [5, 10]), ([11, 11, 0, 1, 2, 3, 4, 5, 6, 7, 8, 9, 10, 11], [11])])
def sutlerref07_Check.B10 : List Nat := [0, 0, 2, 7, 15, 31, 0, 0, 192, 448, 960, 2047, 4095]
theorem sutlerref07_Check.tab10 : rtab .any (opsOf Try.f11 10) = sutlerref07_Check.T10 := by kernel_rfl
theorem sutlerref07_Check.bits10 : waitsOk sutlerref07_Check.T10.2 sutlerref07_Check.B10 = true := by kernel_rfl
set_option maxHeartbeats 8000000 in
set_option maxRecDepth 100000 in
theorem sutlerref07_Check.calls (k : Nat) (A0 : Option Addr) (c0 : Nat) (l0 : List (S25)) (r : Int) (w : World) (hr0 : Kd.C k25 w A0 l0.length l0) (hc0 : l0.length ≤ c0) (h : sutlerref07_Check.f k l0 = some r) :
  Calls Try.prog 11 #[.slice A0 l0.length c0] w fun e w' => e = .returned (.int .i64 r) ∧ Below w.heap.size w w' := by
 have hu25 := Try.underlying25
 have hu23 := Try.underlying23
 have HR0 := Aside0.mk hr0
 have HC0 := Aside0.mk hc0
 clear hr0 hc0
 have HB := Aside0.mk (Below.refl w.heap.size w)
 have H : (if (l0.length : Int) > 72 then (some 3) else (sutlerref07_Check.l0 k l0 0)) = some r := h
 clear h
 by_cases c2 : (l0.length : Int) > 72
 ·rw [if_pos c2] at H
  have c2b0 : decide (72 < (l0.length : Int)) = true := decide_eq_true c2
  have c2b1 : decide (72 < l0.length) = true := decide_eq_true (by omega)
  clear c2
  obtain rfl := Option.some.inj H
  go_enter Try.func11, Try.ntmps11
  go_wp2
  go_ret
  exact ⟨by first | rfl | (simp [errW_none, errW_some] <;> rfl) | (simp [*, errW_none, errW_some] <;> rfl), by repeat (first | (with_reducible first | exact HB.out | apply below_alloc | apply pw_below_drewN | apply below_drew1) | exact HB.out)⟩
 ·rw [if_neg c2] at H
  have c2b0 : decide (72 < (l0.length : Int)) = false := decide_eq_false c2
  have c2b1 : decide (72 < l0.length) = false := decide_eq_false (by omega)
  clear c2
  have H' := Aside0.mk H
  clear H
  go_enter Try.func11, Try.ntmps11
  go_wp2
  go_loopg [3] k (fun kq v3 w' => ∃ (x3_1 : Int), v3 = .int .i64 x3_1 ∧ Aside0 (sutlerref07_Check.l0 kq l0 x3_1 = some r) ∧ Aside0 (kq ≤ k) ∧ Aside0 (Below w.heap.size w w'))
  case atStart => exact ⟨(0), (by first | rfl | (simp; done) | (simp [*]; done)), H', ⟨Nat.le_refl _⟩, ⟨by repeat (first | (with_reducible first | exact HB.out | apply below_alloc | apply pw_below_drewN | apply below_drew1) | exact HB.out)⟩⟩
  case round =>
   clear H'
   try clear c1
   try clear c2
   try clear c2b0
   try clear c2b1
   try clear p2
   obtain ⟨x3_1, rfl, HA, HK1, HB⟩ := hrel
   cases gk with
   | zero => exact absurd HA.out (by simp [sutlerref07_Check.l0])
   | succ k1 =>
    have H := HA.out
    clear HA
    simp only [sutlerref07_Check.l0] at H
    by_cases c3 : x3_1 < (l0.length : Int)
    ·rw [if_pos c3] at H
     have c3b0 : decide (x3_1 < (l0.length : Int)) = true := decide_eq_true c3
     clear c3
     by_cases c4 : 0 ≤ x3_1
     ·rw [if_pos c4] at H
      have c4b0 : decide (0 ≤ x3_1) = true := decide_eq_true c4
      clear c4
      replace H := Option.bind_eq_some_iff.mp H
      obtain ⟨t243, A50, H⟩ := H
      replace H : (if t243 = 0 then (if x3_1 > 0 then (if 0 ≤ (wrap64 (x3_1 - 1)) then (if (wrap64 (x3_1 - 1)) < (l0.length : Int) then ((sutlerref06_Less.f ((rd_T25 l0 (wrap64 (x3_1 - 1))).f0.f0) ((rd_T25 l0 (wrap64 (x3_1 - 1))).f0.f1) ((rd_T25 l0 (wrap64 (x3_1 - 1))).f0.f2) ((rd_T25 l0 x3_1).f0.f0) ((rd_T25 l0 x3_1).f0.f1) ((rd_T25 l0 x3_1).f0.f2)).bind fun t246 => (if t246 = true then (sutlerref07_Check.l0 k1 l0 (wrap64 (x3_1 + 1))) else (some 6))) else (none)) else (none)) else (sutlerref07_Check.l0 k1 l0 (wrap64 (x3_1 + 1)))) else (some t243)) = some r := H
      have A5 := Aside0.mk A50
      clear A50
      by_cases c6 : t243 = 0
      ·rw [if_pos c6] at H
       have c6b0 : (t243 == 0) = true := beq_iff_eq.mpr c6
       have c6b1 : (t243 != 0) = false := bne_eq_false_iff_eq.mpr c6
       clear c6
       by_cases c7 : x3_1 > 0
       ·rw [if_pos c7] at H
        have c7b0 : decide (0 < x3_1) = true := decide_eq_true c7
        clear c7
        obtain ⟨ji8, hji8⟩ : ∃ j_ : Int, (wrap64 (x3_1 - 1)) = j_ := ⟨_, rfl⟩
        replace H : (if 0 ≤ (ji8) then (if (ji8) < (l0.length : Int) then ((sutlerref06_Less.f ((rd_T25 l0 (ji8)).f0.f0) ((rd_T25 l0 (ji8)).f0.f1) ((rd_T25 l0 (ji8)).f0.f2) ((rd_T25 l0 x3_1).f0.f0) ((rd_T25 l0 x3_1).f0.f1) ((rd_T25 l0 x3_1).f0.f2)).bind fun t246 => (if t246 = true then (sutlerref07_Check.l0 k1 l0 (wrap64 (x3_1 + 1))) else (some 6))) else (none)) else (none)) = some r := by first | (rw [hji8] at H; exact H) | (simp only [hji8] at H ⊢; exact H)
        (try rw [hji8] at A5)
        have hji8w : (IntKind.i64.wrap (x3_1 - 1)) = ji8 := (i64_w _).trans hji8
        by_cases c9 : 0 ≤ (ji8)
        ·rw [if_pos c9] at H
         have c9b0 : decide (0 ≤ (ji8)) = true := decide_eq_true c9
         clear c9
         by_cases c10 : (ji8) < (l0.length : Int)
         ·rw [if_pos c10] at H
          have c10b0 : decide ((ji8) < (l0.length : Int)) = true := decide_eq_true c10
          clear c10
          replace H := Option.bind_eq_some_iff.mp H
          obtain ⟨t246, A110, H⟩ := H
          replace H : (if t246 = true then (sutlerref07_Check.l0 k1 l0 (wrap64 (x3_1 + 1))) else (some 6)) = some r := H
          have A11 := Aside0.mk A110
          clear A110
          by_cases c12 : t246 = true
          ·subst c12
           have H1 : (sutlerref07_Check.l0 k1 l0 (wrap64 (x3_1 + 1))) = some r := by rw [if_pos rfl] at H; exact H
           clear H
           have H := H1
           clear H1
           have H' := Aside0.mk H
           clear H
           have p242 : 0 ≤ (x3_1 : Int) := of_decide_eq_true (by first | (with_reducible assumption) | assumption)
           have q242 : x3_1 < (l0.length : Int) := of_decide_eq_true (by first | (with_reducible assumption) | assumption)
           obtain ⟨ad242, e242, hx242_0, hx242_1, hx242_2, hx242_3⟩ := at_T25 HR0.out x3_1 p242 q242
           cases e242
           replace hx242_0 := (HB.out.cell (World.block_lt_of_cell? w _ hx242_0)).trans hx242_0
           replace hx242_1 := (HB.out.cell (World.block_lt_of_cell? w _ hx242_1)).trans hx242_1
           replace hx242_2 := (HB.out.cell (World.block_lt_of_cell? w _ hx242_2)).trans hx242_2
           replace hx242_3 := (HB.out.cell (World.block_lt_of_cell? w _ hx242_3)).trans hx242_3
           replace p242 := eq_true p242
           replace q242 := eq_true q242
           try go_wp2_with (first | ((with_reducible refine gate_callee (f := 25) rfl ?_); refine goesL_ (some 19) rfl rfl Try.func25 (by kernel_rfl) rfl #[.agg #[.string ((rd_T25 l0 x3_1).f0.f0), .string ((rd_T25 l0 x3_1).f0.f1), .string ((rd_T25 l0 x3_1).f0.f2), .int .i64 ((rd_T25 l0 x3_1).f1)]] rfl (by (try simp only [List.map_toArray, List.map_cons, List.map_nil]); first | done | rfl | (simp only [List.length_drop, List.length_take]; rfl)) ?_; (with_reducible refine (sutlerref07_one.calls k1 ((rd_T25 l0 x3_1).f0.f0) ((rd_T25 l0 x3_1).f0.f1) ((rd_T25 l0 x3_1).f0.f2) ((rd_T25 l0 x3_1).f1) t243 _ A5.out).mono ?_); rintro e w13 ⟨rfl, hb⟩; refine ⟨_, rfl, ?_⟩; have n0_ := Aside0.mk (below_step (by repeat (first | (with_reducible first | exact HB.out | apply below_alloc | apply pw_below_drewN | apply below_drew1) | exact HB.out)) hb); clear HB; have HB := n0_; clear n0_; (try clear hb); (try clear hb2); (try clear hk); (try clear hi)))
           have n0_ := Aside0.mk (below_drew1 HB.out)
           clear HB
           have HB := n0_
           clear n0_
           have p244 : 0 ≤ ((ji8) : Int) := of_decide_eq_true (by first | (with_reducible assumption) | assumption)
           have q244 : (ji8) < (l0.length : Int) := of_decide_eq_true (by first | (with_reducible assumption) | assumption)
           obtain ⟨ad244, e244, hx244_0, hx244_1, hx244_2, hx244_3⟩ := at_T25 HR0.out (ji8) p244 q244
           have hw244_3 := hx244_3
           have hw244_2 := hx244_2
           have hw244_1 := hx244_1
           have hw244_0 := hx244_0
           obtain rfl : ad242 = ad244 := (by injection e244)
           replace hx244_0 := (HB.out.cell (World.block_lt_of_cell? w _ hx244_0)).trans hx244_0
           replace hx244_1 := (HB.out.cell (World.block_lt_of_cell? w _ hx244_1)).trans hx244_1
           replace hx244_2 := (HB.out.cell (World.block_lt_of_cell? w _ hx244_2)).trans hx244_2
           replace hx244_3 := (HB.out.cell (World.block_lt_of_cell? w _ hx244_3)).trans hx244_3
           replace p244 := eq_true p244
           replace q244 := eq_true q244
           have p245 : 0 ≤ (x3_1 : Int) := of_decide_eq_true (by first | (with_reducible assumption) | assumption)
           have q245 : x3_1 < (l0.length : Int) := of_decide_eq_true (by first | (with_reducible assumption) | assumption)
           obtain ⟨ad245, e245, hx245_0, hx245_1, hx245_2, hx245_3⟩ := at_T25 HR0.out x3_1 p245 q245
           have hw245_3 := hx245_3
           have hw245_2 := hx245_2
           have hw245_1 := hx245_1
           have hw245_0 := hx245_0
           obtain rfl : ad242 = ad245 := (by injection e245)
           replace hx245_0 := (HB.out.cell (World.block_lt_of_cell? w _ hx245_0)).trans hx245_0
           replace hx245_1 := (HB.out.cell (World.block_lt_of_cell? w _ hx245_1)).trans hx245_1
           replace hx245_2 := (HB.out.cell (World.block_lt_of_cell? w _ hx245_2)).trans hx245_2
           replace hx245_3 := (HB.out.cell (World.block_lt_of_cell? w _ hx245_3)).trans hx245_3
           replace p245 := eq_true p245
           replace q245 := eq_true q245
           refine start_ (n := 13) (S := fun w' => w'.cell? (ad242.add (((ji8)).toNat * 4)) = some (.string ((rd_T25 l0 (ji8)).f0.f0)) ∧ w'.cell? ⟨(ad242.add (((ji8)).toNat * 4)).block, (ad242.add (((ji8)).toNat * 4)).off + 1, none⟩ = some (.string ((rd_T25 l0 (ji8)).f0.f1)) ∧ w'.cell? ⟨(ad242.add (((ji8)).toNat * 4)).block, (ad242.add (((ji8)).toNat * 4)).off + 2, none⟩ = some (.string ((rd_T25 l0 (ji8)).f0.f2)) ∧ w'.cell? ⟨(ad242.add (((ji8)).toNat * 4)).block, (ad242.add (((ji8)).toNat * 4)).off + 3, none⟩ = some (.int .i64 ((rd_T25 l0 (ji8)).f1)) ∧ w'.cell? (ad242.add ((x3_1).toNat * 4)) = some (.string ((rd_T25 l0 x3_1).f0.f0)) ∧ w'.cell? ⟨(ad242.add ((x3_1).toNat * 4)).block, (ad242.add ((x3_1).toNat * 4)).off + 1, none⟩ = some (.string ((rd_T25 l0 x3_1).f0.f1)) ∧ w'.cell? ⟨(ad242.add ((x3_1).toNat * 4)).block, (ad242.add ((x3_1).toNat * 4)).off + 2, none⟩ = some (.string ((rd_T25 l0 x3_1).f0.f2)) ∧ w'.cell? ⟨(ad242.add ((x3_1).toNat * 4)).block, (ad242.add ((x3_1).toNat * 4)).off + 3, none⟩ = some (.int .i64 ((rd_T25 l0 x3_1).f1))) (ds := []) (tf 0 13) (by kernel_rfl) rfl rfl ⟨((HB.out.cell (World.block_lt_of_cell? w _ hw244_0)).trans hw244_0), ((HB.out.cell (World.block_lt_of_cell? w _ hw244_1)).trans hw244_1), ((HB.out.cell (World.block_lt_of_cell? w _ hw244_2)).trans hw244_2), ((HB.out.cell (World.block_lt_of_cell? w _ hw244_3)).trans hw244_3), ((HB.out.cell (World.block_lt_of_cell? w _ hw245_0)).trans hw245_0), ((HB.out.cell (World.block_lt_of_cell? w _ hw245_1)).trans hw245_1), ((HB.out.cell (World.block_lt_of_cell? w _ hw245_2)).trans hw245_2), ((HB.out.cell (World.block_lt_of_cell? w _ hw245_3)).trans hw245_3)⟩ (fun hHeld => ?_); refine with_tabW sutlerref07_Check.tab10 sutlerref07_Check.bits10 (fun HT_ HW_ => ?_)
           generalize w13.drew = w14 at HB hx244_0 hx244_1 hx244_2 hx244_3 hx245_0 hx245_1 hx245_2 hx245_3 hHeld ⊢
           refine pure_ (i := 0) (N := some 25) (v := ?_) (a' := ?_) (tf 1 12) rfl rfl (any_of HT_.out (by kernel_rfl)) (fun _ _ _ h => h) (Or.inl ⟨by rfl, ?_⟩) ?_ ?_
           rotate_left
           ·intro w'
            go_simp
            with_reducible rfl
           rotate_left
           ·simp only [Act.put, List.setIfInBounds_toArray, List.set_cons_zero, List.set_cons_succ, i64_w, i32_w]
            rfl
           refine pure_ (i := 1) (N := some 26) (v := ?_) (a' := ?_) (tf 2 11) rfl rfl (any_of HT_.out (by kernel_rfl)) (fun _ _ _ h => h) (Or.inl ⟨by rfl, ?_⟩) ?_ ?_
           rotate_left
           ·intro w'
            go_simp
            with_reducible rfl
           rotate_left
           ·simp only [Act.put, List.setIfInBounds_toArray, List.set_cons_zero, List.set_cons_succ, i64_w, i32_w]
            rfl
           refine pure_ (i := 2) (N := some 27) (v := ?_) (a' := ?_) (tf 3 10) rfl rfl (any_of HT_.out (by kernel_rfl)) (fun _ _ _ h => h) (Or.inl ⟨by rfl, ?_⟩) ?_ ?_
           rotate_left
           ·intro w'
            go_simp
            with_reducible rfl
           rotate_left
           ·simp only [Act.put, List.setIfInBounds_toArray, List.set_cons_zero, List.set_cons_succ, i64_w, i32_w]
            rfl
           refine pure_ (i := 3) (N := some 28) (v := ?_) (a' := ?_) (tf 4 9) rfl rfl (any_of HT_.out (by kernel_rfl)) (fun _ _ _ h => h) (Or.inl ⟨by rfl, ?_⟩) ?_ ?_
           rotate_left
           ·intro w'
            go_simp
            with_reducible rfl
           rotate_left
           ·simp only [Act.put, List.setIfInBounds_toArray, List.set_cons_zero, List.set_cons_succ, i64_w, i32_w]
            rfl
           refine pure_ (i := 4) (N := some 29) (v := ?_) (a' := ?_) (tf 5 8) rfl rfl (any_of HT_.out (by kernel_rfl)) (fun _ _ _ h => h) (Or.inl ⟨by rfl, ?_⟩) ?_ ?_
           rotate_left
           ·intro w'
            go_simp
            with_reducible rfl
           rotate_left
           ·simp only [Act.put, List.setIfInBounds_toArray, List.set_cons_zero, List.set_cons_succ, i64_w, i32_w]
            rfl
           refine pure_ (i := 6) (N := some 31) (v := ?_) (a' := ?_) #[true, true, true, true, true, false, true, false, false, false, false, false, false] rfl rfl (any_of HT_.out (by kernel_rfl)) (fun _ _ _ h => h) (Or.inl ⟨by rfl, ?_⟩) ?_ ?_
           rotate_left
           ·intro w'
            go_simp
            with_reducible rfl
           rotate_left
           ·simp only [Act.put, List.setIfInBounds_toArray, List.set_cons_zero, List.set_cons_succ, i64_w, i32_w]
            rfl
           refine pure_ (i := 7) (N := some 32) (v := ?_) (a' := ?_) #[true, true, true, true, true, false, true, true, false, false, false, false, false] rfl rfl (any_of HT_.out (by kernel_rfl)) (fun _ _ _ h => h) (Or.inl ⟨by rfl, ?_⟩) ?_ ?_
           rotate_left
           ·intro w'
            go_simp
            with_reducible rfl
           rotate_left
           ·simp only [Act.put, List.setIfInBounds_toArray, List.set_cons_zero, List.set_cons_succ, i64_w, i32_w]
            rfl
           refine pure_ (i := 8) (N := some 33) (v := ?_) (a' := ?_) #[true, true, true, true, true, false, true, true, true, false, false, false, false] rfl rfl (any_of HT_.out (by kernel_rfl)) (fun _ _ _ h => h) (Or.inl ⟨by rfl, ?_⟩) ?_ ?_
           rotate_left
           ·intro w'
            go_simp
            with_reducible rfl
           rotate_left
           ·simp only [Act.put, List.setIfInBounds_toArray, List.set_cons_zero, List.set_cons_succ, i64_w, i32_w]
            rfl
           refine pure_ (i := 9) (N := some 34) (v := ?_) (a' := ?_) #[true, true, true, true, true, false, true, true, true, true, false, false, false] rfl rfl (any_of HT_.out (by kernel_rfl)) (fun _ _ _ h => h) (Or.inl ⟨by rfl, ?_⟩) ?_ ?_
           rotate_left
           ·intro w'
            go_simp
            with_reducible rfl
           rotate_left
           ·simp only [Act.put, List.setIfInBounds_toArray, List.set_cons_zero, List.set_cons_succ, i64_w, i32_w]
            rfl
           refine take_ (i := 5) (N := some 30) (v := ?_) (a' := ?_) (tf 10 3) rfl rfl (take_ofW HT_.out HW_.out (by kernel_rfl)) (fun _ _ _ h => h) (Or.inl ⟨by rfl, ?_⟩) hHeld ?_ ?_
           rotate_left
           ·rintro w' ⟨s0, s1, s2, s3, s4, s5, s6, s7⟩
            go_simp
            with_reducible rfl
           rotate_left
           ·simp only [Act.put, List.setIfInBounds_toArray, List.set_cons_zero, List.set_cons_succ, i64_w, i32_w]
            rfl
           refine take_ (i := 10) (N := some 35) (v := ?_) (a' := ?_) (tf 11 2) rfl rfl (take_ofW HT_.out HW_.out (by kernel_rfl)) (fun _ _ _ h => h) (Or.inl ⟨by rfl, ?_⟩) hHeld ?_ ?_
           rotate_left
           ·rintro w' ⟨s0, s1, s2, s3, s4, s5, s6, s7⟩
            go_simp
            with_reducible rfl
           rotate_left
           ·simp only [Act.put, List.setIfInBounds_toArray, List.set_cons_zero, List.set_cons_succ, i64_w, i32_w]
            rfl
           refine one_ (i := 11) (N := some 36) (tf 12 1) rfl rfl (one_of HT_.out (by kernel_rfl)) (by decide) (fun K hK => ?_)
           refine goes_ Try.func26 (by kernel_rfl) rfl #[.agg #[.string ((rd_T25 l0 (ji8)).f0.f0), .string ((rd_T25 l0 (ji8)).f0.f1), .string ((rd_T25 l0 (ji8)).f0.f2)], .agg #[.string ((rd_T25 l0 x3_1).f0.f0), .string ((rd_T25 l0 x3_1).f0.f1), .string ((rd_T25 l0 x3_1).f0.f2)]] (by rfl) rfl rfl (by (try simp only [List.map_toArray, List.map_cons, List.map_nil]); first | done | (simp only [hji8]; rfl) | rfl | (simp only [List.length_drop, List.length_take]; rfl)) ?_
           with_reducible refine (sutlerref06_Less.calls ((rd_T25 l0 (ji8)).f0.f0) ((rd_T25 l0 (ji8)).f0.f1) ((rd_T25 l0 (ji8)).f0.f2) ((rd_T25 l0 x3_1).f0.f0) ((rd_T25 l0 x3_1).f0.f1) ((rd_T25 l0 x3_1).f0.f2) true _ A11.out).mono ?_
           rintro e w15 ⟨rfl, hb⟩
           refine ⟨_, rfl, ?_⟩
           have n0_ := Aside0.mk (below_step (by repeat (first | (with_reducible first | exact HB.out | apply below_alloc | apply pw_below_drewN | apply below_drew1) | exact HB.out)) hb)
           clear HB
           have HB := n0_
           clear n0_
           (try clear hb)
           (try clear hb2)
           (try clear hk)
           (try clear hi)
           refine hK.out _ _ ⟨((HB.out.cell (World.block_lt_of_cell? w _ hw244_0)).trans hw244_0), ((HB.out.cell (World.block_lt_of_cell? w _ hw244_1)).trans hw244_1), ((HB.out.cell (World.block_lt_of_cell? w _ hw244_2)).trans hw244_2), ((HB.out.cell (World.block_lt_of_cell? w _ hw244_3)).trans hw244_3), ((HB.out.cell (World.block_lt_of_cell? w _ hw245_0)).trans hw245_0), ((HB.out.cell (World.block_lt_of_cell? w _ hw245_1)).trans hw245_1), ((HB.out.cell (World.block_lt_of_cell? w _ hw245_2)).trans hw245_2), ((HB.out.cell (World.block_lt_of_cell? w _ hw245_3)).trans hw245_3)⟩ (fun hHeld => ?_)
           clear hK K
           refine norm_ (a' := ?_) ?_ ?_
           rotate_left
           ·show Act.put _ (some 36) _ = _
            simp only [Act.put, List.setIfInBounds_toArray, List.set_cons_zero, List.set_cons_succ, i64_w, i32_w]
            rfl
           refine pure_ (i := 12) (N := some 5) (v := ?_) (a' := ?_) (tf 13 0) rfl rfl (any_of HT_.out (by kernel_rfl)) (fun _ _ _ h => h) (Or.inl ⟨by rfl, ?_⟩) ?_ ?_
           rotate_left
           ·intro w'
            go_simp
            with_reducible rfl
           rotate_left
           ·simp only [Act.put, List.setIfInBounds_toArray, List.set_cons_zero, List.set_cons_succ, i64_w, i32_w]
            rfl
           refine done_ (done_of HT_.out (by kernel_rfl)) ?_
           try go_wp2
           go_roundg k1
           case measure => have := HK1.out; omega
           case rel => exact ⟨(wrap64 (x3_1 + 1)), (by first | rfl | (simp; done) | (simp [*]; done)), H', ⟨by have := HK1.out; omega⟩, ⟨by repeat (first | (with_reducible first | exact HB.out | apply below_alloc | apply pw_below_drewN | apply below_drew1) | exact HB.out)⟩⟩
          ·replace c12 := Bool.eq_false_iff.mpr c12
           subst c12
           have H1 : (some 6) = some r := by rw [if_neg (show ¬ (false = true) by decide)] at H; exact H
           clear H
           have H := H1
           clear H1
           obtain rfl := Option.some.inj H
           have p242 : 0 ≤ (x3_1 : Int) := of_decide_eq_true (by first | (with_reducible assumption) | assumption)
           have q242 : x3_1 < (l0.length : Int) := of_decide_eq_true (by first | (with_reducible assumption) | assumption)
           obtain ⟨ad242, e242, hx242_0, hx242_1, hx242_2, hx242_3⟩ := at_T25 HR0.out x3_1 p242 q242
           cases e242
           replace hx242_0 := (HB.out.cell (World.block_lt_of_cell? w _ hx242_0)).trans hx242_0
           replace hx242_1 := (HB.out.cell (World.block_lt_of_cell? w _ hx242_1)).trans hx242_1
           replace hx242_2 := (HB.out.cell (World.block_lt_of_cell? w _ hx242_2)).trans hx242_2
           replace hx242_3 := (HB.out.cell (World.block_lt_of_cell? w _ hx242_3)).trans hx242_3
           replace p242 := eq_true p242
           replace q242 := eq_true q242
           try go_wp2_with (first | ((with_reducible refine gate_callee (f := 25) rfl ?_); refine goesL_ (some 19) rfl rfl Try.func25 (by kernel_rfl) rfl #[.agg #[.string ((rd_T25 l0 x3_1).f0.f0), .string ((rd_T25 l0 x3_1).f0.f1), .string ((rd_T25 l0 x3_1).f0.f2), .int .i64 ((rd_T25 l0 x3_1).f1)]] rfl (by (try simp only [List.map_toArray, List.map_cons, List.map_nil]); first | done | rfl | (simp only [List.length_drop, List.length_take]; rfl)) ?_; (with_reducible refine (sutlerref07_one.calls k1 ((rd_T25 l0 x3_1).f0.f0) ((rd_T25 l0 x3_1).f0.f1) ((rd_T25 l0 x3_1).f0.f2) ((rd_T25 l0 x3_1).f1) t243 _ A5.out).mono ?_); rintro e w16 ⟨rfl, hb⟩; refine ⟨_, rfl, ?_⟩; have n0_ := Aside0.mk (below_step (by repeat (first | (with_reducible first | exact HB.out | apply below_alloc | apply pw_below_drewN | apply below_drew1) | exact HB.out)) hb); clear HB; have HB := n0_; clear n0_; (try clear hb); (try clear hb2); (try clear hk); (try clear hi)))
           have n0_ := Aside0.mk (below_drew1 HB.out)
           clear HB
           have HB := n0_
           clear n0_
           have p244 : 0 ≤ ((ji8) : Int) := of_decide_eq_true (by first | (with_reducible assumption) | assumption)
           have q244 : (ji8) < (l0.length : Int) := of_decide_eq_true (by first | (with_reducible assumption) | assumption)
           obtain ⟨ad244, e244, hx244_0, hx244_1, hx244_2, hx244_3⟩ := at_T25 HR0.out (ji8) p244 q244
           have hw244_3 := hx244_3
           have hw244_2 := hx244_2
           have hw244_1 := hx244_1
           have hw244_0 := hx244_0
           obtain rfl : ad242 = ad244 := (by injection e244)
           replace hx244_0 := (HB.out.cell (World.block_lt_of_cell? w _ hx244_0)).trans hx244_0
           replace hx244_1 := (HB.out.cell (World.block_lt_of_cell? w _ hx244_1)).trans hx244_1
           replace hx244_2 := (HB.out.cell (World.block_lt_of_cell? w _ hx244_2)).trans hx244_2
           replace hx244_3 := (HB.out.cell (World.block_lt_of_cell? w _ hx244_3)).trans hx244_3
           replace p244 := eq_true p244
           replace q244 := eq_true q244
           have p245 : 0 ≤ (x3_1 : Int) := of_decide_eq_true (by first | (with_reducible assumption) | assumption)
           have q245 : x3_1 < (l0.length : Int) := of_decide_eq_true (by first | (with_reducible assumption) | assumption)
           obtain ⟨ad245, e245, hx245_0, hx245_1, hx245_2, hx245_3⟩ := at_T25 HR0.out x3_1 p245 q245
           have hw245_3 := hx245_3
           have hw245_2 := hx245_2
           have hw245_1 := hx245_1
           have hw245_0 := hx245_0
           obtain rfl : ad242 = ad245 := (by injection e245)
           replace hx245_0 := (HB.out.cell (World.block_lt_of_cell? w _ hx245_0)).trans hx245_0
           replace hx245_1 := (HB.out.cell (World.block_lt_of_cell? w _ hx245_1)).trans hx245_1
           replace hx245_2 := (HB.out.cell (World.block_lt_of_cell? w _ hx245_2)).trans hx245_2
           replace hx245_3 := (HB.out.cell (World.block_lt_of_cell? w _ hx245_3)).trans hx245_3
           replace p245 := eq_true p245
           replace q245 := eq_true q245
           refine start_ (n := 13) (S := fun w' => w'.cell? (ad242.add (((ji8)).toNat * 4)) = some (.string ((rd_T25 l0 (ji8)).f0.f0)) ∧ w'.cell? ⟨(ad242.add (((ji8)).toNat * 4)).block, (ad242.add (((ji8)).toNat * 4)).off + 1, none⟩ = some (.string ((rd_T25 l0 (ji8)).f0.f1)) ∧ w'.cell? ⟨(ad242.add (((ji8)).toNat * 4)).block, (ad242.add (((ji8)).toNat * 4)).off + 2, none⟩ = some (.string ((rd_T25 l0 (ji8)).f0.f2)) ∧ w'.cell? ⟨(ad242.add (((ji8)).toNat * 4)).block, (ad242.add (((ji8)).toNat * 4)).off + 3, none⟩ = some (.int .i64 ((rd_T25 l0 (ji8)).f1)) ∧ w'.cell? (ad242.add ((x3_1).toNat * 4)) = some (.string ((rd_T25 l0 x3_1).f0.f0)) ∧ w'.cell? ⟨(ad242.add ((x3_1).toNat * 4)).block, (ad242.add ((x3_1).toNat * 4)).off + 1, none⟩ = some (.string ((rd_T25 l0 x3_1).f0.f1)) ∧ w'.cell? ⟨(ad242.add ((x3_1).toNat * 4)).block, (ad242.add ((x3_1).toNat * 4)).off + 2, none⟩ = some (.string ((rd_T25 l0 x3_1).f0.f2)) ∧ w'.cell? ⟨(ad242.add ((x3_1).toNat * 4)).block, (ad242.add ((x3_1).toNat * 4)).off + 3, none⟩ = some (.int .i64 ((rd_T25 l0 x3_1).f1))) (ds := []) (tf 0 13) (by kernel_rfl) rfl rfl ⟨((HB.out.cell (World.block_lt_of_cell? w _ hw244_0)).trans hw244_0), ((HB.out.cell (World.block_lt_of_cell? w _ hw244_1)).trans hw244_1), ((HB.out.cell (World.block_lt_of_cell? w _ hw244_2)).trans hw244_2), ((HB.out.cell (World.block_lt_of_cell? w _ hw244_3)).trans hw244_3), ((HB.out.cell (World.block_lt_of_cell? w _ hw245_0)).trans hw245_0), ((HB.out.cell (World.block_lt_of_cell? w _ hw245_1)).trans hw245_1), ((HB.out.cell (World.block_lt_of_cell? w _ hw245_2)).trans hw245_2), ((HB.out.cell (World.block_lt_of_cell? w _ hw245_3)).trans hw245_3)⟩ (fun hHeld => ?_); refine with_tabW sutlerref07_Check.tab10 sutlerref07_Check.bits10 (fun HT_ HW_ => ?_)
           generalize w16.drew = w17 at HB hx244_0 hx244_1 hx244_2 hx244_3 hx245_0 hx245_1 hx245_2 hx245_3 hHeld ⊢
           refine pure_ (i := 0) (N := some 25) (v := ?_) (a' := ?_) (tf 1 12) rfl rfl (any_of HT_.out (by kernel_rfl)) (fun _ _ _ h => h) (Or.inl ⟨by rfl, ?_⟩) ?_ ?_
           rotate_left
           ·intro w'
            go_simp
            with_reducible rfl
           rotate_left
           ·simp only [Act.put, List.setIfInBounds_toArray, List.set_cons_zero, List.set_cons_succ, i64_w, i32_w]
            rfl
           refine pure_ (i := 1) (N := some 26) (v := ?_) (a' := ?_) (tf 2 11) rfl rfl (any_of HT_.out (by kernel_rfl)) (fun _ _ _ h => h) (Or.inl ⟨by rfl, ?_⟩) ?_ ?_
           rotate_left
           ·intro w'
            go_simp
            with_reducible rfl
           rotate_left
           ·simp only [Act.put, List.setIfInBounds_toArray, List.set_cons_zero, List.set_cons_succ, i64_w, i32_w]
            rfl
           refine pure_ (i := 2) (N := some 27) (v := ?_) (a' := ?_) (tf 3 10) rfl rfl (any_of HT_.out (by kernel_rfl)) (fun _ _ _ h => h) (Or.inl ⟨by rfl, ?_⟩) ?_ ?_
           rotate_left
           ·intro w'
            go_simp
            with_reducible rfl
           rotate_left
           ·simp only [Act.put, List.setIfInBounds_toArray, List.set_cons_zero, List.set_cons_succ, i64_w, i32_w]
            rfl
           refine pure_ (i := 3) (N := some 28) (v := ?_) (a' := ?_) (tf 4 9) rfl rfl (any_of HT_.out (by kernel_rfl)) (fun _ _ _ h => h) (Or.inl ⟨by rfl, ?_⟩) ?_ ?_
           rotate_left
           ·intro w'
            go_simp
            with_reducible rfl
           rotate_left
           ·simp only [Act.put, List.setIfInBounds_toArray, List.set_cons_zero, List.set_cons_succ, i64_w, i32_w]
            rfl
           refine pure_ (i := 4) (N := some 29) (v := ?_) (a' := ?_) (tf 5 8) rfl rfl (any_of HT_.out (by kernel_rfl)) (fun _ _ _ h => h) (Or.inl ⟨by rfl, ?_⟩) ?_ ?_
           rotate_left
           ·intro w'
            go_simp
            with_reducible rfl
           rotate_left
           ·simp only [Act.put, List.setIfInBounds_toArray, List.set_cons_zero, List.set_cons_succ, i64_w, i32_w]
            rfl
           refine pure_ (i := 6) (N := some 31) (v := ?_) (a' := ?_) #[true, true, true, true, true, false, true, false, false, false, false, false, false] rfl rfl (any_of HT_.out (by kernel_rfl)) (fun _ _ _ h => h) (Or.inl ⟨by rfl, ?_⟩) ?_ ?_
           rotate_left
           ·intro w'
            go_simp
            with_reducible rfl
           rotate_left
           ·simp only [Act.put, List.setIfInBounds_toArray, List.set_cons_zero, List.set_cons_succ, i64_w, i32_w]
            rfl
           refine pure_ (i := 7) (N := some 32) (v := ?_) (a' := ?_) #[true, true, true, true, true, false, true, true, false, false, false, false, false] rfl rfl (any_of HT_.out (by kernel_rfl)) (fun _ _ _ h => h) (Or.inl ⟨by rfl, ?_⟩) ?_ ?_
           rotate_left
           ·intro w'
            go_simp
            with_reducible rfl
           rotate_left
           ·simp only [Act.put, List.setIfInBounds_toArray, List.set_cons_zero, List.set_cons_succ, i64_w, i32_w]
            rfl
           refine pure_ (i := 8) (N := some 33) (v := ?_) (a' := ?_) #[true, true, true, true, true, false, true, true, true, false, false, false, false] rfl rfl (any_of HT_.out (by kernel_rfl)) (fun _ _ _ h => h) (Or.inl ⟨by rfl, ?_⟩) ?_ ?_
           rotate_left
           ·intro w'
            go_simp
            with_reducible rfl
           rotate_left
           ·simp only [Act.put, List.setIfInBounds_toArray, List.set_cons_zero, List.set_cons_succ, i64_w, i32_w]
            rfl
           refine pure_ (i := 9) (N := some 34) (v := ?_) (a' := ?_) #[true, true, true, true, true, false, true, true, true, true, false, false, false] rfl rfl (any_of HT_.out (by kernel_rfl)) (fun _ _ _ h => h) (Or.inl ⟨by rfl, ?_⟩) ?_ ?_
           rotate_left
           ·intro w'
            go_simp
            with_reducible rfl
           rotate_left
           ·simp only [Act.put, List.setIfInBounds_toArray, List.set_cons_zero, List.set_cons_succ, i64_w, i32_w]
            rfl
           refine take_ (i := 5) (N := some 30) (v := ?_) (a' := ?_) (tf 10 3) rfl rfl (take_ofW HT_.out HW_.out (by kernel_rfl)) (fun _ _ _ h => h) (Or.inl ⟨by rfl, ?_⟩) hHeld ?_ ?_
           rotate_left
           ·rintro w' ⟨s0, s1, s2, s3, s4, s5, s6, s7⟩
            go_simp
            with_reducible rfl
           rotate_left
           ·simp only [Act.put, List.setIfInBounds_toArray, List.set_cons_zero, List.set_cons_succ, i64_w, i32_w]
            rfl
           refine take_ (i := 10) (N := some 35) (v := ?_) (a' := ?_) (tf 11 2) rfl rfl (take_ofW HT_.out HW_.out (by kernel_rfl)) (fun _ _ _ h => h) (Or.inl ⟨by rfl, ?_⟩) hHeld ?_ ?_
           rotate_left
           ·rintro w' ⟨s0, s1, s2, s3, s4, s5, s6, s7⟩
            go_simp
            with_reducible rfl
           rotate_left
           ·simp only [Act.put, List.setIfInBounds_toArray, List.set_cons_zero, List.set_cons_succ, i64_w, i32_w]
            rfl
           refine one_ (i := 11) (N := some 36) (tf 12 1) rfl rfl (one_of HT_.out (by kernel_rfl)) (by decide) (fun K hK => ?_)
           refine goes_ Try.func26 (by kernel_rfl) rfl #[.agg #[.string ((rd_T25 l0 (ji8)).f0.f0), .string ((rd_T25 l0 (ji8)).f0.f1), .string ((rd_T25 l0 (ji8)).f0.f2)], .agg #[.string ((rd_T25 l0 x3_1).f0.f0), .string ((rd_T25 l0 x3_1).f0.f1), .string ((rd_T25 l0 x3_1).f0.f2)]] (by rfl) rfl rfl (by (try simp only [List.map_toArray, List.map_cons, List.map_nil]); first | done | (simp only [hji8]; rfl) | rfl | (simp only [List.length_drop, List.length_take]; rfl)) ?_
           with_reducible refine (sutlerref06_Less.calls ((rd_T25 l0 (ji8)).f0.f0) ((rd_T25 l0 (ji8)).f0.f1) ((rd_T25 l0 (ji8)).f0.f2) ((rd_T25 l0 x3_1).f0.f0) ((rd_T25 l0 x3_1).f0.f1) ((rd_T25 l0 x3_1).f0.f2) false _ A11.out).mono ?_
           rintro e w18 ⟨rfl, hb⟩
           refine ⟨_, rfl, ?_⟩
           have n0_ := Aside0.mk (below_step (by repeat (first | (with_reducible first | exact HB.out | apply below_alloc | apply pw_below_drewN | apply below_drew1) | exact HB.out)) hb)
           clear HB
           have HB := n0_
           clear n0_
           (try clear hb)
           (try clear hb2)
           (try clear hk)
           (try clear hi)
           refine hK.out _ _ ⟨((HB.out.cell (World.block_lt_of_cell? w _ hw244_0)).trans hw244_0), ((HB.out.cell (World.block_lt_of_cell? w _ hw244_1)).trans hw244_1), ((HB.out.cell (World.block_lt_of_cell? w _ hw244_2)).trans hw244_2), ((HB.out.cell (World.block_lt_of_cell? w _ hw244_3)).trans hw244_3), ((HB.out.cell (World.block_lt_of_cell? w _ hw245_0)).trans hw245_0), ((HB.out.cell (World.block_lt_of_cell? w _ hw245_1)).trans hw245_1), ((HB.out.cell (World.block_lt_of_cell? w _ hw245_2)).trans hw245_2), ((HB.out.cell (World.block_lt_of_cell? w _ hw245_3)).trans hw245_3)⟩ (fun hHeld => ?_)
           clear hK K
           refine norm_ (a' := ?_) ?_ ?_
           rotate_left
           ·show Act.put _ (some 36) _ = _
            simp only [Act.put, List.setIfInBounds_toArray, List.set_cons_zero, List.set_cons_succ, i64_w, i32_w]
            rfl
           refine pure_ (i := 12) (N := some 5) (v := ?_) (a' := ?_) (tf 13 0) rfl rfl (any_of HT_.out (by kernel_rfl)) (fun _ _ _ h => h) (Or.inl ⟨by rfl, ?_⟩) ?_ ?_
           rotate_left
           ·intro w'
            go_simp
            with_reducible rfl
           rotate_left
           ·simp only [Act.put, List.setIfInBounds_toArray, List.set_cons_zero, List.set_cons_succ, i64_w, i32_w]
            rfl
           refine done_ (done_of HT_.out (by kernel_rfl)) ?_
           try go_wp2
           go_ret
           exact ⟨by first | rfl | (simp [errW_none, errW_some] <;> rfl) | (simp only [← hji8]; first | rfl | (simp [errW_none, errW_some] <;> rfl)) | (simp [*, errW_none, errW_some] <;> rfl), by repeat (first | (with_reducible first | exact HB.out | apply below_alloc | apply pw_below_drewN | apply below_drew1) | exact HB.out)⟩
         ·rw [if_neg c10] at H
          exact absurd H (by simp)
        ·rw [if_neg c9] at H
         exact absurd H (by simp)
       ·rw [if_neg c7] at H
        have c7b0 : decide (0 < x3_1) = false := decide_eq_false c7
        clear c7
        have H' := Aside0.mk H
        clear H
        have p242 : 0 ≤ (x3_1 : Int) := of_decide_eq_true (by first | (with_reducible assumption) | assumption)
        have q242 : x3_1 < (l0.length : Int) := of_decide_eq_true (by first | (with_reducible assumption) | assumption)
        obtain ⟨ad242, e242, hx242_0, hx242_1, hx242_2, hx242_3⟩ := at_T25 HR0.out x3_1 p242 q242
        cases e242
        replace hx242_0 := (HB.out.cell (World.block_lt_of_cell? w _ hx242_0)).trans hx242_0
        replace hx242_1 := (HB.out.cell (World.block_lt_of_cell? w _ hx242_1)).trans hx242_1
        replace hx242_2 := (HB.out.cell (World.block_lt_of_cell? w _ hx242_2)).trans hx242_2
        replace hx242_3 := (HB.out.cell (World.block_lt_of_cell? w _ hx242_3)).trans hx242_3
        replace p242 := eq_true p242
        replace q242 := eq_true q242
        go_wp2_with (first | ((with_reducible refine gate_callee (f := 25) rfl ?_); refine goesL_ (some 19) rfl rfl Try.func25 (by kernel_rfl) rfl #[.agg #[.string ((rd_T25 l0 x3_1).f0.f0), .string ((rd_T25 l0 x3_1).f0.f1), .string ((rd_T25 l0 x3_1).f0.f2), .int .i64 ((rd_T25 l0 x3_1).f1)]] rfl (by (try simp only [List.map_toArray, List.map_cons, List.map_nil]); first | done | rfl | (simp only [List.length_drop, List.length_take]; rfl)) ?_; (with_reducible refine (sutlerref07_one.calls k1 ((rd_T25 l0 x3_1).f0.f0) ((rd_T25 l0 x3_1).f0.f1) ((rd_T25 l0 x3_1).f0.f2) ((rd_T25 l0 x3_1).f1) t243 _ A5.out).mono ?_); rintro e w19 ⟨rfl, hb⟩; refine ⟨_, rfl, ?_⟩; have n0_ := Aside0.mk (below_step (by repeat (first | (with_reducible first | exact HB.out | apply below_alloc | apply pw_below_drewN | apply below_drew1) | exact HB.out)) hb); clear HB; have HB := n0_; clear n0_; (try clear hb); (try clear hb2); (try clear hk); (try clear hi)))
        go_roundg k1
        case measure => have := HK1.out; omega
        case rel => exact ⟨(wrap64 (x3_1 + 1)), (by first | rfl | (simp; done) | (simp [*]; done)), H', ⟨by have := HK1.out; omega⟩, ⟨by repeat (first | (with_reducible first | exact HB.out | apply below_alloc | apply pw_below_drewN | apply below_drew1) | exact HB.out)⟩⟩
      ·rw [if_neg c6] at H
       have c6b0 : (t243 == 0) = false := beq_eq_false_iff_ne.mpr c6
       have c6b1 : (t243 != 0) = true := bne_iff_ne.mpr c6
       obtain rfl := Option.some.inj H
       have p242 : 0 ≤ (x3_1 : Int) := of_decide_eq_true (by first | (with_reducible assumption) | assumption)
       have q242 : x3_1 < (l0.length : Int) := of_decide_eq_true (by first | (with_reducible assumption) | assumption)
       obtain ⟨ad242, e242, hx242_0, hx242_1, hx242_2, hx242_3⟩ := at_T25 HR0.out x3_1 p242 q242
       cases e242
       replace hx242_0 := (HB.out.cell (World.block_lt_of_cell? w _ hx242_0)).trans hx242_0
       replace hx242_1 := (HB.out.cell (World.block_lt_of_cell? w _ hx242_1)).trans hx242_1
       replace hx242_2 := (HB.out.cell (World.block_lt_of_cell? w _ hx242_2)).trans hx242_2
       replace hx242_3 := (HB.out.cell (World.block_lt_of_cell? w _ hx242_3)).trans hx242_3
       replace p242 := eq_true p242
       replace q242 := eq_true q242
       go_wp2_with (first | ((with_reducible refine gate_callee (f := 25) rfl ?_); refine goesL_ (some 19) rfl rfl Try.func25 (by kernel_rfl) rfl #[.agg #[.string ((rd_T25 l0 x3_1).f0.f0), .string ((rd_T25 l0 x3_1).f0.f1), .string ((rd_T25 l0 x3_1).f0.f2), .int .i64 ((rd_T25 l0 x3_1).f1)]] rfl (by (try simp only [List.map_toArray, List.map_cons, List.map_nil]); first | done | rfl | (simp only [List.length_drop, List.length_take]; rfl)) ?_; (with_reducible refine (sutlerref07_one.calls k1 ((rd_T25 l0 x3_1).f0.f0) ((rd_T25 l0 x3_1).f0.f1) ((rd_T25 l0 x3_1).f0.f2) ((rd_T25 l0 x3_1).f1) t243 _ A5.out).mono ?_); rintro e w20 ⟨rfl, hb⟩; refine ⟨_, rfl, ?_⟩; have n0_ := Aside0.mk (below_step (by repeat (first | (with_reducible first | exact HB.out | apply below_alloc | apply pw_below_drewN | apply below_drew1) | exact HB.out)) hb); clear HB; have HB := n0_; clear n0_; (try clear hb); (try clear hb2); (try clear hk); (try clear hi)))
       go_ret
       exact ⟨by first | rfl | (simp [errW_none, errW_some] <;> rfl) | (simp [*, errW_none, errW_some] <;> rfl), by repeat (first | (with_reducible first | exact HB.out | apply below_alloc | apply pw_below_drewN | apply below_drew1) | exact HB.out)⟩
     ·rw [if_neg c4] at H
      exact absurd H (by simp)
    ·rw [if_neg c3] at H
     have c3b0 : decide (x3_1 < (l0.length : Int)) = false := decide_eq_false c3
     clear c3
     obtain rfl := Option.some.inj H
     go_wp2
     go_ret
     exact ⟨by first | rfl | (simp [errW_none, errW_some] <;> rfl) | (simp [*, errW_none, errW_some] <;> rfl), by repeat (first | (with_reducible first | exact HB.out | apply below_alloc | apply pw_below_drewN | apply below_drew1) | exact HB.out)⟩

end Go.Proofs.Ytiodidhbkgnicaa.PAll
