-- written by a program of this session (the kit's print, turned): plain functions and their contracts
-- shrunk
import Derived.Test.YtafncdmclhdkdaaDoorPAllx0
import Derived.Test.YtafncdmclhdkdaaDoorPAllx1
import Derived.Test.YtafncdmclhdkdaaDoorEDigits
namespace Go.Proofs.YtafncdmclhdkdaaDoor.PAll
open Go.RowKit Go.Proofs.YtafncdmclhdkdaaDoorW.PrintWords Go.Proofs.YtafncdmclhdkdaaDoorW.PrintLast Go.Proofs.YtafncdmclhdkdaaDoorW.PrintMore
attribute [local go_sem] max2_int min2_int max_two min_two max_three min_three max_four min_four   -- for this text's walks alone
set_option linter.unusedVariables false
set_option linter.unusedSimpArgs false

/-! ### suffix_PrintCPU: function 16 -/
def suffix_PrintCPU.f (a0 : Int) : Option (ByteArray × Int) := (amount_Check.f a0).bind fun t120 => (if t120 = 0 then (if (Int.tmod a0 1000) = 0 then ((strconv_FormatInt.f (wrap64 (Int.tdiv a0 1000)) 10).bind fun t121 => (some (t121, 0))) else ((strconv_FormatInt.f a0 10).bind fun t122 => (if t122.size + 1 ≤ 9223372036854775807 then (some (t122 ++ (⟨#[109]⟩ : ByteArray), 0)) else (none)))) else (some ((⟨#[]⟩ : ByteArray), t120)))
set_option maxHeartbeats 8000000 in
set_option maxRecDepth 100000 in
theorem suffix_PrintCPU.calls (a0 : Int) (r1 : ByteArray) (r2 : Int) (w : World) (hg : Vars w) (h : suffix_PrintCPU.f a0 = some (r1, r2)) :
  Calls Tryd.prog 16 #[.int .i64 a0] w fun e w' => e = .returned (.tuple #[.string r1, .int .i64 r2]) ∧ Below w.heap.size w w' := by
 have HB := Aside0.mk (Below.refl w.heap.size w)
 have HV := Aside0.mk hg
 clear hg
 have H : ((amount_Check.f a0).bind fun t120 => (if t120 = 0 then (if (Int.tmod a0 1000) = 0 then ((strconv_FormatInt.f (wrap64 (Int.tdiv a0 1000)) 10).bind fun t121 => (some (t121, 0))) else ((strconv_FormatInt.f a0 10).bind fun t122 => (if t122.size + 1 ≤ 9223372036854775807 then (some (t122 ++ (⟨#[109]⟩ : ByteArray), 0)) else (none)))) else (some ((⟨#[]⟩ : ByteArray), t120)))) = some (r1, r2) := h
 clear h
 replace H := Option.bind_eq_some_iff.mp H
 obtain ⟨t120, A20, H⟩ := H
 replace H : (if t120 = 0 then (if (Int.tmod a0 1000) = 0 then ((strconv_FormatInt.f (wrap64 (Int.tdiv a0 1000)) 10).bind fun t121 => (some (t121, 0))) else ((strconv_FormatInt.f a0 10).bind fun t122 => (if t122.size + 1 ≤ 9223372036854775807 then (some (t122 ++ (⟨#[109]⟩ : ByteArray), 0)) else (none)))) else (some ((⟨#[]⟩ : ByteArray), t120))) = some (r1, r2) := H
 have A2 := Aside0.mk A20
 clear A20
 by_cases c3 : t120 = 0
 ·rw [if_pos c3] at H
  have c3b0 : (t120 == 0) = true := beq_iff_eq.mpr c3
  have c3b1 : (t120 != 0) = false := bne_eq_false_iff_eq.mpr c3
  clear c3
  by_cases c4 : (Int.tmod a0 1000) = 0
  ·rw [if_pos c4] at H
   have c4b0 : ((Int.tmod a0 1000) == 0) = true := beq_iff_eq.mpr c4
   have c4b1 : ((Int.tmod a0 1000) != 0) = false := bne_eq_false_iff_eq.mpr c4
   clear c4
   replace H := Option.bind_eq_some_iff.mp H
   obtain ⟨t121, A50, H⟩ := H
   replace H : (some (t121, 0)) = some (r1, r2) := H
   have A5 := Aside0.mk A50
   clear A50
   simp only [Option.some.injEq, Prod.mk.injEq] at H
   obtain ⟨rfl, rfl⟩ := H
   go_enter Tryd.func16, Tryd.ntmps16
   go_wp2_with (first | ((with_reducible refine gate_callee (f := 28) rfl ?_); refine goesL_ (some 6) rfl rfl Tryd.func28 (by kernel_rfl) rfl #[.int .i64 a0] rfl (by (try simp only [List.map_toArray, List.map_cons, List.map_nil]); first | done | rfl | (simp only [List.length_drop, List.length_take]; rfl)) ?_; (with_reducible refine (amount_Check.calls a0 t120 _ A2.out).mono ?_); rintro e w' ⟨rfl, ⟨nd, rfl⟩⟩; refine ⟨_, rfl, ?_⟩) | ((with_reducible refine gate_callee (f := 29) rfl ?_); refine goesL_ (some 18) rfl rfl Tryd.func29 (by kernel_rfl) rfl #[.int .i64 (wrap64 (Int.tdiv a0 1000)), .int .i64 10] rfl (by (try simp only [List.map_toArray, List.map_cons, List.map_nil]); first | done | rfl | (simp only [List.length_drop, List.length_take]; rfl)) ?_; (with_reducible refine (strconv_FormatInt.calls (wrap64 (Int.tdiv a0 1000)) 10 t121 _ ?side1 A5.out).mono ?_); (case side1 => exact Vars_below HV.out (by repeat (first | (with_reducible first | exact HB.out | apply below_alloc | apply pw_below_drewN | apply below_drew1) | exact HB.out))); rintro e w6 ⟨rfl, hb⟩; refine ⟨_, rfl, ?_⟩; have n0_ := Aside0.mk (below_step (by repeat (first | (with_reducible first | exact HB.out | apply below_alloc | apply pw_below_drewN | apply below_drew1) | exact HB.out)) hb); clear HB; have HB := n0_; clear n0_; (try clear hb); (try clear hb2); (try clear hk); (try clear hi)))
   go_ret2
   exact ⟨by first | rfl | (simp [errW_none, errW_some] <;> rfl) | (simp [*, errW_none, errW_some] <;> rfl), by repeat (first | (with_reducible first | exact HB.out | apply below_alloc | apply pw_below_drewN | apply below_drew1) | exact HB.out)⟩
  ·rw [if_neg c4] at H
   have c4b0 : ((Int.tmod a0 1000) == 0) = false := beq_eq_false_iff_ne.mpr c4
   have c4b1 : ((Int.tmod a0 1000) != 0) = true := bne_iff_ne.mpr c4
   replace H := Option.bind_eq_some_iff.mp H
   obtain ⟨t122, A70, H⟩ := H
   replace H : (if t122.size + 1 ≤ 9223372036854775807 then (some (t122 ++ (⟨#[109]⟩ : ByteArray), 0)) else (none)) = some (r1, r2) := H
   have A7 := Aside0.mk A70
   clear A70
   by_cases c8 : t122.size + 1 ≤ 9223372036854775807
   ·rw [if_pos c8] at H
    have c8b0 := eq_true c8
    have c8b1 : decide (t122.size + 1 ≤ 9223372036854775807) = true := decide_eq_true c8
    try have c8b2 : (9223372036854775807 < t122.size + 1) = False := eq_false (Nat.not_lt.2 c8)
    try (have c8s_ := c8; simp only [ByteArray.size_append, ByteArray.size_mk', List.size_toArray, List.length_cons, List.length_nil, Nat.zero_add] at c8s_; have c8b3 := eq_true c8s_; have c8b4 := eq_false (Nat.not_lt.2 c8s_); clear c8s_)
    simp only [Option.some.injEq, Prod.mk.injEq] at H
    obtain ⟨rfl, rfl⟩ := H
    go_enter Tryd.func16, Tryd.ntmps16
    go_wp2_with (first | ((with_reducible refine gate_callee (f := 28) rfl ?_); refine goesL_ (some 6) rfl rfl Tryd.func28 (by kernel_rfl) rfl #[.int .i64 a0] rfl (by (try simp only [List.map_toArray, List.map_cons, List.map_nil]); first | done | rfl | (simp only [List.length_drop, List.length_take]; rfl)) ?_; (with_reducible refine (amount_Check.calls a0 t120 _ A2.out).mono ?_); rintro e w' ⟨rfl, ⟨nd, rfl⟩⟩; refine ⟨_, rfl, ?_⟩) | ((with_reducible refine gate_callee (f := 29) rfl ?_); refine goesL_ (some 14) rfl rfl Tryd.func29 (by kernel_rfl) rfl #[.int .i64 a0, .int .i64 10] rfl (by (try simp only [List.map_toArray, List.map_cons, List.map_nil]); first | done | rfl | (simp only [List.length_drop, List.length_take]; rfl)) ?_; (with_reducible refine (strconv_FormatInt.calls a0 10 t122 _ ?side1 A7.out).mono ?_); (case side1 => exact Vars_below HV.out (by repeat (first | (with_reducible first | exact HB.out | apply below_alloc | apply pw_below_drewN | apply below_drew1) | exact HB.out))); rintro e w9 ⟨rfl, hb⟩; refine ⟨_, rfl, ?_⟩; have n0_ := Aside0.mk (below_step (by repeat (first | (with_reducible first | exact HB.out | apply below_alloc | apply pw_below_drewN | apply below_drew1) | exact HB.out)) hb); clear HB; have HB := n0_; clear n0_; (try clear hb); (try clear hb2); (try clear hk); (try clear hi)))
    go_ret2
    exact ⟨by first | rfl | (simp [errW_none, errW_some] <;> rfl) | (simp [*, errW_none, errW_some] <;> rfl), by repeat (first | (with_reducible first | exact HB.out | apply below_alloc | apply pw_below_drewN | apply below_drew1) | exact HB.out)⟩
   ·rw [if_neg c8] at H
    exact absurd H (by simp)
 ·rw [if_neg c3] at H
  have c3b0 : (t120 == 0) = false := beq_eq_false_iff_ne.mpr c3
  have c3b1 : (t120 != 0) = true := bne_iff_ne.mpr c3
  simp only [Option.some.injEq, Prod.mk.injEq] at H
  obtain ⟨rfl, rfl⟩ := H
  go_enter Tryd.func16, Tryd.ntmps16
  go_wp2_with (first | ((with_reducible refine gate_callee (f := 28) rfl ?_); refine goesL_ (some 6) rfl rfl Tryd.func28 (by kernel_rfl) rfl #[.int .i64 a0] rfl (by (try simp only [List.map_toArray, List.map_cons, List.map_nil]); first | done | rfl | (simp only [List.length_drop, List.length_take]; rfl)) ?_; (with_reducible refine (amount_Check.calls a0 t120 _ A2.out).mono ?_); rintro e w' ⟨rfl, ⟨nd, rfl⟩⟩; refine ⟨_, rfl, ?_⟩))
  go_ret2
  exact ⟨by first | rfl | (simp [errW_none, errW_some] <;> rfl) | (simp [*, errW_none, errW_some] <;> rfl), by repeat (first | (with_reducible first | exact HB.out | apply below_alloc | apply pw_below_drewN | apply below_drew1) | exact HB.out)⟩

/-! ### suffix_PrintBytes: function 18 -/
def suffix_PrintBytes.l0 : Nat → Int → ByteArray → Int → Option (ByteArray × Int)
 | 0, _, _, _ => none
 | k + 1, x0, x5, x6 => if x6 < 8 then (if x0 = 0 then ((strconv_FormatInt.f x0 10).bind fun t124 => (if t124.size + x5.size ≤ 9223372036854775807 then (some (t124 ++ x5, 0)) else (none))) else (if (Go.bits .and .i64 x0 1023) = 0 then (if 0 ≤ x6 then (if x6 ≤ (wrap64 (x6 + 2)) then (if (wrap64 (x6 + 2)) ≤ 8 then (suffix_PrintBytes.l0 k (x0 / 1024) ((⟨#[75, 105, 77, 105, 71, 105, 84, 105]⟩ : ByteArray).extract (x6 : Int).toNat ((wrap64 (x6 + 2)) : Int).toNat) (wrap64 (x6 + 2))) else (none)) else (none)) else (none)) else ((strconv_FormatInt.f x0 10).bind fun t125 => (if t125.size + x5.size ≤ 9223372036854775807 then (some (t125 ++ x5, 0)) else (none))))) else ((strconv_FormatInt.f x0 10).bind fun t126 => (if t126.size + x5.size ≤ 9223372036854775807 then (some (t126 ++ x5, 0)) else (none)))
def suffix_PrintBytes.f (k : Nat) (a0 : Int) : Option (ByteArray × Int) := (amount_Check.f a0).bind fun t123 => (if t123 = 0 then (suffix_PrintBytes.l0 k a0 (⟨#[]⟩ : ByteArray) 0) else (some ((⟨#[]⟩ : ByteArray), t123)))
theorem suffix_PrintBytes.mono_l : ∀ k, (∀ y0 y1 y2, LeO (suffix_PrintBytes.l0 k y0 y1 y2) (suffix_PrintBytes.l0 (k + 1) y0 y1 y2))
 | 0 => fun _ _ _ r h => by simp [suffix_PrintBytes.l0] at h
 | k + 1 => by
  have ih0 := suffix_PrintBytes.mono_l k
  ·intro y0 y1 y2
   unfold suffix_PrintBytes.l0
   repeat' first
   | (with_reducible exact ih0 _ _ _)
   | (with_reducible exact LeO.refl _)
   | (with_reducible exact LeO.none _)
   | (with_reducible refine LeO.ite ?_ ?_)
   | (with_reducible refine LeO.bind ?_ (fun _ => ?_))
   | exact ih0 _ _ _
   | exact LeO.none _
   | refine LeO.ite ?_ ?_
   | refine LeO.bind ?_ (fun _ => ?_)
theorem suffix_PrintBytes.mono : ∀ a0 k, LeO (suffix_PrintBytes.f k a0) (suffix_PrintBytes.f (k + 1) a0) := by
 intro a0 k
 have ih0 := suffix_PrintBytes.mono_l k
 unfold suffix_PrintBytes.f
 repeat' first
   | (with_reducible exact ih0 _ _ _)
   | (with_reducible exact LeO.refl _)
   | (with_reducible exact LeO.none _)
   | (with_reducible refine LeO.ite ?_ ?_)
   | (with_reducible refine LeO.bind ?_ (fun _ => ?_))
   | exact ih0 _ _ _
   | exact LeO.none _
   | refine LeO.ite ?_ ?_
   | refine LeO.bind ?_ (fun _ => ?_)
set_option maxHeartbeats 8000000 in
set_option maxRecDepth 100000 in
theorem suffix_PrintBytes.calls (k : Nat) (a0 : Int) (r1 : ByteArray) (r2 : Int) (w : World) (hg : Vars w) (h : suffix_PrintBytes.f k a0 = some (r1, r2)) :
  Calls Tryd.prog 18 #[.int .i64 a0] w fun e w' => e = .returned (.tuple #[.string r1, .int .i64 r2]) ∧ Below w.heap.size w w' := by
 have HB := Aside0.mk (Below.refl w.heap.size w)
 have HV := Aside0.mk hg
 clear hg
 have H : ((amount_Check.f a0).bind fun t123 => (if t123 = 0 then (suffix_PrintBytes.l0 k a0 (⟨#[]⟩ : ByteArray) 0) else (some ((⟨#[]⟩ : ByteArray), t123)))) = some (r1, r2) := h
 clear h
 replace H := Option.bind_eq_some_iff.mp H
 obtain ⟨t123, A20, H⟩ := H
 replace H : (if t123 = 0 then (suffix_PrintBytes.l0 k a0 (⟨#[]⟩ : ByteArray) 0) else (some ((⟨#[]⟩ : ByteArray), t123))) = some (r1, r2) := H
 have A2 := Aside0.mk A20
 clear A20
 by_cases c3 : t123 = 0
 ·rw [if_pos c3] at H
  have c3b0 : (t123 == 0) = true := beq_iff_eq.mpr c3
  have c3b1 : (t123 != 0) = false := bne_eq_false_iff_eq.mpr c3
  clear c3
  have H' := Aside0.mk H
  clear H
  go_enter Tryd.func18, Tryd.ntmps18
  go_wp2_with (first | ((with_reducible refine gate_callee (f := 28) rfl ?_); refine goesL_ (some 8) rfl rfl Tryd.func28 (by kernel_rfl) rfl #[.int .i64 a0] rfl (by (try simp only [List.map_toArray, List.map_cons, List.map_nil]); first | done | rfl | (simp only [List.length_drop, List.length_take]; rfl)) ?_; (with_reducible refine (amount_Check.calls a0 t123 _ A2.out).mono ?_); rintro e w' ⟨rfl, ⟨nd, rfl⟩⟩; refine ⟨_, rfl, ?_⟩))
  go_loopg [0, 5, 6] k (fun kq v0 v5 v6 w' => ∃ (x0_1 : Int) (x5_1 : ByteArray) (x6_1 : Int), v0 = .int .i64 x0_1 ∧ v5 = .string x5_1 ∧ v6 = .int .i64 x6_1 ∧ Aside0 (suffix_PrintBytes.l0 kq x0_1 x5_1 x6_1 = some (r1, r2)) ∧ Aside0 (kq ≤ k) ∧ Aside0 (Below w.heap.size w w'))
  case atStart => exact ⟨(a0), ((⟨#[]⟩ : ByteArray)), (0), (by first | rfl | (simp; done) | (simp [*]; done) | (simp [ne_nil_]; done)), (by first | rfl | (simp; done) | (simp [*]; done) | (simp [ne_nil_]; done)), (by first | rfl | (simp; done) | (simp [*]; done) | (simp [ne_nil_]; done)), H', ⟨Nat.le_refl _⟩, ⟨by repeat (first | (with_reducible first | exact HB.out | apply below_alloc | apply pw_below_drewN | apply below_drew1) | exact HB.out)⟩⟩
  case round =>
   clear H'
   try clear c1
   try clear c2
   try clear p2
   try clear c3
   try clear c3b0
   try clear c3b1
   obtain ⟨x0_1, x5_1, x6_1, rfl, rfl, rfl, HA, HK1, HB⟩ := hrel
   cases gk with
   | zero => exact absurd HA.out (by simp [suffix_PrintBytes.l0])
   | succ k1 =>
    have H := HA.out
    clear HA
    simp only [suffix_PrintBytes.l0] at H
    by_cases c4 : x6_1 < 8
    ·rw [if_pos c4] at H
     have c4b0 : decide (x6_1 < 8) = true := decide_eq_true c4
     clear c4
     by_cases c5 : x0_1 = 0
     ·rw [if_pos c5] at H
      have c5b0 : (x0_1 == 0) = true := beq_iff_eq.mpr c5
      have c5b1 : (x0_1 != 0) = false := bne_eq_false_iff_eq.mpr c5
      clear c5
      replace H := Option.bind_eq_some_iff.mp H
      obtain ⟨t124, A60, H⟩ := H
      replace H : (if t124.size + x5_1.size ≤ 9223372036854775807 then (some (t124 ++ x5_1, 0)) else (none)) = some (r1, r2) := H
      have A6 := Aside0.mk A60
      clear A60
      by_cases c7 : t124.size + x5_1.size ≤ 9223372036854775807
      ·rw [if_pos c7] at H
       have c7b0 := eq_true c7
       have c7b1 : decide (t124.size + x5_1.size ≤ 9223372036854775807) = true := decide_eq_true c7
       try have c7b2 : (9223372036854775807 < t124.size + x5_1.size) = False := eq_false (Nat.not_lt.2 c7)
       try (have c7s_ := c7; simp only [ByteArray.size_append, ByteArray.size_mk', List.size_toArray, List.length_cons, List.length_nil, Nat.zero_add] at c7s_; have c7b3 := eq_true c7s_; have c7b4 := eq_false (Nat.not_lt.2 c7s_); clear c7s_)
       simp only [Option.some.injEq, Prod.mk.injEq] at H
       obtain ⟨rfl, rfl⟩ := H
       go_wp2_with (first | ((with_reducible refine gate_callee (f := 29) rfl ?_); refine goesL_ (some 32) rfl rfl Tryd.func29 (by kernel_rfl) rfl #[.int .i64 x0_1, .int .i64 10] rfl (by (try simp only [List.map_toArray, List.map_cons, List.map_nil]); first | done | rfl | (simp only [List.length_drop, List.length_take]; rfl)) ?_; (with_reducible refine (strconv_FormatInt.calls x0_1 10 t124 _ ?side1 A6.out).mono ?_); (case side1 => exact Vars_below HV.out (by repeat (first | (with_reducible first | exact HB.out | apply below_alloc | apply pw_below_drewN | apply below_drew1) | exact HB.out))); rintro e w8 ⟨rfl, hb⟩; refine ⟨_, rfl, ?_⟩; have n0_ := Aside0.mk (below_step (by repeat (first | (with_reducible first | exact HB.out | apply below_alloc | apply pw_below_drewN | apply below_drew1) | exact HB.out)) hb); clear HB; have HB := n0_; clear n0_; (try clear hb); (try clear hb2); (try clear hk); (try clear hi)))
       go_ret2
       exact ⟨by first | rfl | (simp [errW_none, errW_some] <;> rfl) | (simp [*, errW_none, errW_some] <;> rfl), by repeat (first | (with_reducible first | exact HB.out | apply below_alloc | apply pw_below_drewN | apply below_drew1) | exact HB.out)⟩
      ·rw [if_neg c7] at H
       exact absurd H (by simp)
     ·rw [if_neg c5] at H
      have c5b0 : (x0_1 == 0) = false := beq_eq_false_iff_ne.mpr c5
      have c5b1 : (x0_1 != 0) = true := bne_iff_ne.mpr c5
      by_cases c9 : (Go.bits .and .i64 x0_1 1023) = 0
      ·rw [if_pos c9] at H
       have c9b0 : ((Go.bits .and .i64 x0_1 1023) == 0) = true := beq_iff_eq.mpr c9
       have c9b1 : ((Go.bits .and .i64 x0_1 1023) != 0) = false := bne_eq_false_iff_eq.mpr c9
       clear c9
       by_cases c10 : 0 ≤ x6_1
       ·rw [if_pos c10] at H
        have c10b0 := eq_true c10
        have c10b1 : decide (0 ≤ x6_1) = true := decide_eq_true c10
        clear c10
        by_cases c11 : x6_1 ≤ (wrap64 (x6_1 + 2))
        ·rw [if_pos c11] at H
         have c11b0 := eq_true c11
         have c11b1 : decide (x6_1 ≤ (wrap64 (x6_1 + 2))) = true := decide_eq_true c11
         by_cases c12 : (wrap64 (x6_1 + 2)) ≤ 8
         ·rw [if_pos c12] at H
          have c12b0 := eq_true c12
          have c12b1 : decide ((wrap64 (x6_1 + 2)) ≤ 8) = true := decide_eq_true c12
          have H' := Aside0.mk H
          clear H
          go_wp2
          go_roundg k1
          case measure => have := HK1.out; omega
          case rel => exact ⟨(x0_1 / 1024), ((⟨#[75, 105, 77, 105, 71, 105, 84, 105]⟩ : ByteArray).extract (x6_1 : Int).toNat ((wrap64 (x6_1 + 2)) : Int).toNat), (wrap64 (x6_1 + 2)), (by first | rfl | (simp; done) | (simp [*]; done) | (simp [ne_nil_]; done)), (by first | rfl | (simp; done) | (simp [*]; done) | (simp [ne_nil_]; done)), (by first | rfl | (simp; done) | (simp [*]; done) | (simp [ne_nil_]; done)), H', ⟨by have := HK1.out; omega⟩, ⟨by repeat (first | (with_reducible first | exact HB.out | apply below_alloc | apply pw_below_drewN | apply below_drew1) | exact HB.out)⟩⟩
         ·rw [if_neg c12] at H
          exact absurd H (by simp)
        ·rw [if_neg c11] at H
         exact absurd H (by simp)
       ·rw [if_neg c10] at H
        exact absurd H (by simp)
      ·rw [if_neg c9] at H
       have c9b0 : ((Go.bits .and .i64 x0_1 1023) == 0) = false := beq_eq_false_iff_ne.mpr c9
       have c9b1 : ((Go.bits .and .i64 x0_1 1023) != 0) = true := bne_iff_ne.mpr c9
       replace H := Option.bind_eq_some_iff.mp H
       obtain ⟨t125, A130, H⟩ := H
       replace H : (if t125.size + x5_1.size ≤ 9223372036854775807 then (some (t125 ++ x5_1, 0)) else (none)) = some (r1, r2) := H
       have A13 := Aside0.mk A130
       clear A130
       by_cases c14 : t125.size + x5_1.size ≤ 9223372036854775807
       ·rw [if_pos c14] at H
        have c14b0 := eq_true c14
        have c14b1 : decide (t125.size + x5_1.size ≤ 9223372036854775807) = true := decide_eq_true c14
        try have c14b2 : (9223372036854775807 < t125.size + x5_1.size) = False := eq_false (Nat.not_lt.2 c14)
        try (have c14s_ := c14; simp only [ByteArray.size_append, ByteArray.size_mk', List.size_toArray, List.length_cons, List.length_nil, Nat.zero_add] at c14s_; have c14b3 := eq_true c14s_; have c14b4 := eq_false (Nat.not_lt.2 c14s_); clear c14s_)
        simp only [Option.some.injEq, Prod.mk.injEq] at H
        obtain ⟨rfl, rfl⟩ := H
        go_wp2_with (first | ((with_reducible refine gate_callee (f := 29) rfl ?_); refine goesL_ (some 32) rfl rfl Tryd.func29 (by kernel_rfl) rfl #[.int .i64 x0_1, .int .i64 10] rfl (by (try simp only [List.map_toArray, List.map_cons, List.map_nil]); first | done | rfl | (simp only [List.length_drop, List.length_take]; rfl)) ?_; (with_reducible refine (strconv_FormatInt.calls x0_1 10 t125 _ ?side1 A13.out).mono ?_); (case side1 => exact Vars_below HV.out (by repeat (first | (with_reducible first | exact HB.out | apply below_alloc | apply pw_below_drewN | apply below_drew1) | exact HB.out))); rintro e w15 ⟨rfl, hb⟩; refine ⟨_, rfl, ?_⟩; have n0_ := Aside0.mk (below_step (by repeat (first | (with_reducible first | exact HB.out | apply below_alloc | apply pw_below_drewN | apply below_drew1) | exact HB.out)) hb); clear HB; have HB := n0_; clear n0_; (try clear hb); (try clear hb2); (try clear hk); (try clear hi)))
        go_ret2
        exact ⟨by first | rfl | (simp [errW_none, errW_some] <;> rfl) | (simp [*, errW_none, errW_some] <;> rfl), by repeat (first | (with_reducible first | exact HB.out | apply below_alloc | apply pw_below_drewN | apply below_drew1) | exact HB.out)⟩
       ·rw [if_neg c14] at H
        exact absurd H (by simp)
    ·rw [if_neg c4] at H
     have c4b0 : decide (x6_1 < 8) = false := decide_eq_false c4
     clear c4
     replace H := Option.bind_eq_some_iff.mp H
     obtain ⟨t126, A160, H⟩ := H
     replace H : (if t126.size + x5_1.size ≤ 9223372036854775807 then (some (t126 ++ x5_1, 0)) else (none)) = some (r1, r2) := H
     have A16 := Aside0.mk A160
     clear A160
     by_cases c17 : t126.size + x5_1.size ≤ 9223372036854775807
     ·rw [if_pos c17] at H
      have c17b0 := eq_true c17
      have c17b1 : decide (t126.size + x5_1.size ≤ 9223372036854775807) = true := decide_eq_true c17
      try have c17b2 : (9223372036854775807 < t126.size + x5_1.size) = False := eq_false (Nat.not_lt.2 c17)
      try (have c17s_ := c17; simp only [ByteArray.size_append, ByteArray.size_mk', List.size_toArray, List.length_cons, List.length_nil, Nat.zero_add] at c17s_; have c17b3 := eq_true c17s_; have c17b4 := eq_false (Nat.not_lt.2 c17s_); clear c17s_)
      simp only [Option.some.injEq, Prod.mk.injEq] at H
      obtain ⟨rfl, rfl⟩ := H
      go_wp2_with (first | ((with_reducible refine gate_callee (f := 29) rfl ?_); refine goesL_ (some 32) rfl rfl Tryd.func29 (by kernel_rfl) rfl #[.int .i64 x0_1, .int .i64 10] rfl (by (try simp only [List.map_toArray, List.map_cons, List.map_nil]); first | done | rfl | (simp only [List.length_drop, List.length_take]; rfl)) ?_; (with_reducible refine (strconv_FormatInt.calls x0_1 10 t126 _ ?side1 A16.out).mono ?_); (case side1 => exact Vars_below HV.out (by repeat (first | (with_reducible first | exact HB.out | apply below_alloc | apply pw_below_drewN | apply below_drew1) | exact HB.out))); rintro e w18 ⟨rfl, hb⟩; refine ⟨_, rfl, ?_⟩; have n0_ := Aside0.mk (below_step (by repeat (first | (with_reducible first | exact HB.out | apply below_alloc | apply pw_below_drewN | apply below_drew1) | exact HB.out)) hb); clear HB; have HB := n0_; clear n0_; (try clear hb); (try clear hb2); (try clear hk); (try clear hi)))
      go_ret2
      exact ⟨by first | rfl | (simp [errW_none, errW_some] <;> rfl) | (simp [*, errW_none, errW_some] <;> rfl), by repeat (first | (with_reducible first | exact HB.out | apply below_alloc | apply pw_below_drewN | apply below_drew1) | exact HB.out)⟩
     ·rw [if_neg c17] at H
      exact absurd H (by simp)
 ·rw [if_neg c3] at H
  have c3b0 : (t123 == 0) = false := beq_eq_false_iff_ne.mpr c3
  have c3b1 : (t123 != 0) = true := bne_iff_ne.mpr c3
  simp only [Option.some.injEq, Prod.mk.injEq] at H
  obtain ⟨rfl, rfl⟩ := H
  go_enter Tryd.func18, Tryd.ntmps18
  go_wp2_with (first | ((with_reducible refine gate_callee (f := 28) rfl ?_); refine goesL_ (some 8) rfl rfl Tryd.func28 (by kernel_rfl) rfl #[.int .i64 a0] rfl (by (try simp only [List.map_toArray, List.map_cons, List.map_nil]); first | done | rfl | (simp only [List.length_drop, List.length_take]; rfl)) ?_; (with_reducible refine (amount_Check.calls a0 t123 _ A2.out).mono ?_); rintro e w' ⟨rfl, ⟨nd, rfl⟩⟩; refine ⟨_, rfl, ?_⟩))
  go_ret2
  exact ⟨by first | rfl | (simp [errW_none, errW_some] <;> rfl) | (simp [*, errW_none, errW_some] <;> rfl), by repeat (first | (with_reducible first | exact HB.out | apply below_alloc | apply pw_below_drewN | apply below_drew1) | exact HB.out)⟩

end Go.Proofs.YtafncdmclhdkdaaDoor.PAll
