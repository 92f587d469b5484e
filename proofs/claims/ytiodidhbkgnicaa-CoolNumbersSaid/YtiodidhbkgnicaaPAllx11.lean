-- written by a program of this session (the kit's print, turned): plain functions and their contracts
-- shrunk
import Derived.Test.YtiodidhbkgnicaaPAllx0
import Derived.Test.YtiodidhbkgnicaaPAllx3
import Derived.Test.YtiodidhbkgnicaaPAllx5
import Derived.Test.YtiodidhbkgnicaaPAllx8
import Derived.Test.YtiodidhbkgnicaaPAllx10
import Derived.Test.YtiodidhbkgnicaaEAsk
import Derived.Test.YtiodidhbkgnicaaEClean
namespace Go.Proofs.Ytiodidhbkgnicaa.PAll
open Go.RowKit Go.Proofs.YtiodidhbkgnicaaW.PrintWords Go.Proofs.YtiodidhbkgnicaaW.PrintLast Go.Proofs.YtiodidhbkgnicaaW.PrintMore
attribute [local go_sem] max2_int min2_int max_two min_two max_three min_three max_four min_four   -- for this text's walks alone
set_option linter.unusedVariables false
set_option linter.unusedSimpArgs false

/-! ### sutlerlaw07_live: function 10 -/
def sutlerlaw07_live.j0 : Nat → List (S25) → List (S25) → List (S25) → Int → Bool → Bool → Option (Bool)
 | 0, _, _, _, _, _, _ => none
 | k + 1, x1, x2, x4, x6, x7, x43 => if x43 = true then (some false) else (if 0 < (x2.length : Int) then (if 0 < (x1.length : Int) then ((cool_Left.f x1 (([(⟨(rd_T25 x2 0).f0.f0, (rd_T25 x2 0).f0.f1, (rd_T25 x2 0).f0.f2⟩ : S23), (⟨(rd_T25 x1 0).f0.f0, (rd_T25 x1 0).f0.f1, (rd_T25 x1 0).f0.f2⟩ : S23)] : List (S23))) 10).bind fun t193 => (if ((rd_T25 x2 0).f0.f0).toList = ([108] : List UInt8) then (if 0 < (x4.length : Int) then (if ((rd_T25 x4 0).f1) = 9 then (if x6 = 5 then (if x7 = true then (if (t193.length : Int) = 1 then ((cool_IsCool.f x1 ((rd_T25 x1 0).f0.f0) ((rd_T25 x1 0).f0.f1) ((rd_T25 x1 0).f0.f2) 29).bind fun t199 => (if t199 = true then ((cool_IsCool.f x1 ((rd_T25 x1 0).f0.f0) ((rd_T25 x1 0).f0.f1) ((rd_T25 x1 0).f0.f2) 30).bind fun t201 => (if t201 = true then (some false) else ((cool_Clean.f x2 5).bind fun t202 => (if (t202.length : Int) = 1 then ((cool_Check.f k x2).bind fun t205 => (some (t205 == 0))) else (some false))))) else (some false))) else (some false)) else (some false)) else (some false)) else (some false)) else (none)) else (some false))) else (none)) else (none))
def sutlerlaw07_live.f (k : Nat)  : Option (Bool) := (sutlerlaw07_till.f (⟨#[115, 112, 111, 116]⟩ : ByteArray) (⟨#[97]⟩ : ByteArray) (⟨#[115]⟩ : ByteArray) 30).bind fun bt163 => ((some (([(⟨(⟨bt163.1, bt163.2.1, bt163.2.2.1⟩ : S23), bt163.2.2.2⟩ : S25)] : List (S25)) : List (S25))).bind fun y167 => ((sutlerlaw07_till.f (⟨#[111, 100]⟩ : ByteArray) (⟨#[97]⟩ : ByteArray) (⟨#[108]⟩ : ByteArray) 5).bind fun bt170 => ((cool_Put.f k y167 bt170.1 bt170.2.1 bt170.2.2.1 bt170.2.2.2).bind fun bt174 => ((sutlerlaw07_till.f (⟨#[115, 112, 111, 116]⟩ : ByteArray) (⟨#[97]⟩ : ByteArray) (⟨#[115]⟩ : ByteArray) 9).bind fun bt178 => ((cool_Put.f k y167 bt178.1 bt178.2.1 bt178.2.2.1 bt178.2.2.2).bind fun bt182 => ((cool_Next.f k bt174.1 0).bind fun bt186 => (if bt174.2 = 0 then (if bt182.2 = 0 then (if (bt174.1.length : Int) = 2 then (sutlerlaw07_live.j0 k y167 bt174.1 bt182.1 bt186.1 bt186.2 ((bt182.1.length : Int) != 1)) else (sutlerlaw07_live.j0 k y167 bt174.1 bt182.1 bt186.1 bt186.2 true)) else (sutlerlaw07_live.j0 k y167 bt174.1 bt182.1 bt186.1 bt186.2 true)) else (sutlerlaw07_live.j0 k y167 bt174.1 bt182.1 bt186.1 bt186.2 true))))))))
theorem sutlerlaw07_live.mono_l : ∀ k, (∀ y0 y1 y2 y3 y4 y5, LeO (sutlerlaw07_live.j0 k y0 y1 y2 y3 y4 y5) (sutlerlaw07_live.j0 (k + 1) y0 y1 y2 y3 y4 y5))
 | 0 => fun _ _ _ _ _ _ r h => by simp [sutlerlaw07_live.j0] at h
 | k + 1 => by
  have ih0 := sutlerlaw07_live.mono_l k
  ·intro y0 y1 y2 y3 y4 y5
   unfold sutlerlaw07_live.j0
   repeat' first
   | (with_reducible exact ih0 _ _ _ _ _ _)
   | (with_reducible exact cool_Check.mono _ _)
   | (with_reducible exact cool_Next.mono _ _ _)
   | (with_reducible exact cool_Put.mono _ _ _ _ _ _)
   | (with_reducible exact LeO.refl _)
   | (with_reducible exact LeO.none _)
   | (with_reducible refine LeO.ite ?_ ?_)
   | (with_reducible refine LeO.bind ?_ (fun _ => ?_))
   | exact ih0 _ _ _ _ _ _
   | exact cool_Check.mono _ _
   | exact cool_Next.mono _ _ _
   | exact cool_Put.mono _ _ _ _ _ _
   | exact LeO.none _
   | refine LeO.ite ?_ ?_
   | refine LeO.bind ?_ (fun _ => ?_)
theorem sutlerlaw07_live.mono : ∀ k, LeO (sutlerlaw07_live.f k ) (sutlerlaw07_live.f (k + 1) ) := by
 intro  k
 have ih0 := sutlerlaw07_live.mono_l k
 unfold sutlerlaw07_live.f
 repeat' first
   | (with_reducible exact ih0 _ _ _ _ _ _)
   | (with_reducible exact cool_Check.mono _ _)
   | (with_reducible exact cool_Next.mono _ _ _)
   | (with_reducible exact cool_Put.mono _ _ _ _ _ _)
   | (with_reducible exact LeO.refl _)
   | (with_reducible exact LeO.none _)
   | (with_reducible refine LeO.ite ?_ ?_)
   | (with_reducible refine LeO.bind ?_ (fun _ => ?_))
   | exact ih0 _ _ _ _ _ _
   | exact cool_Check.mono _ _
   | exact cool_Next.mono _ _ _
   | exact cool_Put.mono _ _ _ _ _ _
   | exact LeO.none _
   | refine LeO.ite ?_ ?_
   | refine LeO.bind ?_ (fun _ => ?_)
def sutlerlaw07_live.T7 : Bool × List (List Nat × List Nat) := (true, [([], []), ([], []), ([1], [1]), ([2], [2]), ([3], [3]), ([], []), ([5], [5]), ([6], [6]), ([7], [7]), ([4, 8], [4, 8]), ([0, 9], [0, 9]), ([10, 10, 0, 1, 2, 3, 4, 5, 6, 7, 8, 9, 10], [10])])
def sutlerlaw07_live.B7 : List Nat := [0, 0, 2, 6, 14, 0, 32, 96, 224, 510, 1023, 2047]
theorem sutlerlaw07_live.tab7 : rtab .any (opsOf Try.f10 7) = sutlerlaw07_live.T7 := by kernel_rfl
theorem sutlerlaw07_live.bits7 : waitsOk sutlerlaw07_live.T7.2 sutlerlaw07_live.B7 = true := by kernel_rfl
set_option maxHeartbeats 8000000 in
set_option maxRecDepth 100000 in
theorem sutlerlaw07_live.calls (k : Nat)  (r : Bool) (w : World) (h : sutlerlaw07_live.f k  = some r) :
  Calls Try.prog 10 #[] w fun e w' => e = .returned (.bool r) ∧ Below w.heap.size w w' := by
 have hu23 := Try.underlying23
 have HB := Aside0.mk (Below.refl w.heap.size w)
 have H : ((sutlerlaw07_till.f (⟨#[115, 112, 111, 116]⟩ : ByteArray) (⟨#[97]⟩ : ByteArray) (⟨#[115]⟩ : ByteArray) 30).bind fun bt163 => ((some (([(⟨(⟨bt163.1, bt163.2.1, bt163.2.2.1⟩ : S23), bt163.2.2.2⟩ : S25)] : List (S25)) : List (S25))).bind fun y167 => ((sutlerlaw07_till.f (⟨#[111, 100]⟩ : ByteArray) (⟨#[97]⟩ : ByteArray) (⟨#[108]⟩ : ByteArray) 5).bind fun bt170 => ((cool_Put.f k y167 bt170.1 bt170.2.1 bt170.2.2.1 bt170.2.2.2).bind fun bt174 => ((sutlerlaw07_till.f (⟨#[115, 112, 111, 116]⟩ : ByteArray) (⟨#[97]⟩ : ByteArray) (⟨#[115]⟩ : ByteArray) 9).bind fun bt178 => ((cool_Put.f k y167 bt178.1 bt178.2.1 bt178.2.2.1 bt178.2.2.2).bind fun bt182 => ((cool_Next.f k bt174.1 0).bind fun bt186 => (if bt174.2 = 0 then (if bt182.2 = 0 then (if (bt174.1.length : Int) = 2 then (sutlerlaw07_live.j0 k y167 bt174.1 bt182.1 bt186.1 bt186.2 ((bt182.1.length : Int) != 1)) else (sutlerlaw07_live.j0 k y167 bt174.1 bt182.1 bt186.1 bt186.2 true)) else (sutlerlaw07_live.j0 k y167 bt174.1 bt182.1 bt186.1 bt186.2 true)) else (sutlerlaw07_live.j0 k y167 bt174.1 bt182.1 bt186.1 bt186.2 true))))))))) = some r := h
 clear h
 replace H := Option.bind_eq_some_iff.mp H
 obtain ⟨⟨t163, t164, t165, t166⟩, A10, H⟩ := H
 replace H : ((some (([(⟨(⟨t163, t164, t165⟩ : S23), t166⟩ : S25)] : List (S25)) : List (S25))).bind fun y167 => ((sutlerlaw07_till.f (⟨#[111, 100]⟩ : ByteArray) (⟨#[97]⟩ : ByteArray) (⟨#[108]⟩ : ByteArray) 5).bind fun bt170 => ((cool_Put.f k y167 bt170.1 bt170.2.1 bt170.2.2.1 bt170.2.2.2).bind fun bt174 => ((sutlerlaw07_till.f (⟨#[115, 112, 111, 116]⟩ : ByteArray) (⟨#[97]⟩ : ByteArray) (⟨#[115]⟩ : ByteArray) 9).bind fun bt178 => ((cool_Put.f k y167 bt178.1 bt178.2.1 bt178.2.2.1 bt178.2.2.2).bind fun bt182 => ((cool_Next.f k bt174.1 0).bind fun bt186 => (if bt174.2 = 0 then (if bt182.2 = 0 then (if (bt174.1.length : Int) = 2 then (sutlerlaw07_live.j0 k y167 bt174.1 bt182.1 bt186.1 bt186.2 ((bt182.1.length : Int) != 1)) else (sutlerlaw07_live.j0 k y167 bt174.1 bt182.1 bt186.1 bt186.2 true)) else (sutlerlaw07_live.j0 k y167 bt174.1 bt182.1 bt186.1 bt186.2 true)) else (sutlerlaw07_live.j0 k y167 bt174.1 bt182.1 bt186.1 bt186.2 true)))))))) = some r := H
 have A1 := Aside0.mk A10
 clear A10
 obtain ⟨y167, hy167⟩ : ∃ y_ : List (S25), y_ = (([(⟨(⟨t163, t164, t165⟩ : S23), t166⟩ : S25)] : List (S25))) := ⟨_, rfl⟩
 replace H : ((sutlerlaw07_till.f (⟨#[111, 100]⟩ : ByteArray) (⟨#[97]⟩ : ByteArray) (⟨#[108]⟩ : ByteArray) 5).bind fun bt170 => ((cool_Put.f k y167 bt170.1 bt170.2.1 bt170.2.2.1 bt170.2.2.2).bind fun bt174 => ((sutlerlaw07_till.f (⟨#[115, 112, 111, 116]⟩ : ByteArray) (⟨#[97]⟩ : ByteArray) (⟨#[115]⟩ : ByteArray) 9).bind fun bt178 => ((cool_Put.f k y167 bt178.1 bt178.2.1 bt178.2.2.1 bt178.2.2.2).bind fun bt182 => ((cool_Next.f k bt174.1 0).bind fun bt186 => (if bt174.2 = 0 then (if bt182.2 = 0 then (if (bt174.1.length : Int) = 2 then (sutlerlaw07_live.j0 k y167 bt174.1 bt182.1 bt186.1 bt186.2 ((bt182.1.length : Int) != 1)) else (sutlerlaw07_live.j0 k y167 bt174.1 bt182.1 bt186.1 bt186.2 true)) else (sutlerlaw07_live.j0 k y167 bt174.1 bt182.1 bt186.1 bt186.2 true)) else (sutlerlaw07_live.j0 k y167 bt174.1 bt182.1 bt186.1 bt186.2 true))))))) = some r := by first | (rw [hy167]; with_reducible exact H) | (have H2_ := (Option.bind_some _ _).symm.trans H; rw [hy167]; with_reducible exact H2_) | (have H2_ := (Option.bind_some _ _).symm.trans H; with_reducible exact H2_) | with_reducible exact H | (rw [hy167]; exact H) | exact H
 have Ny167 := Aside0.mk hy167
 clear hy167
 replace H := Option.bind_eq_some_iff.mp H
 obtain ⟨⟨t170, t171, t172, t173⟩, A20, H⟩ := H
 replace H : ((cool_Put.f k y167 t170 t171 t172 t173).bind fun bt174 => ((sutlerlaw07_till.f (⟨#[115, 112, 111, 116]⟩ : ByteArray) (⟨#[97]⟩ : ByteArray) (⟨#[115]⟩ : ByteArray) 9).bind fun bt178 => ((cool_Put.f k y167 bt178.1 bt178.2.1 bt178.2.2.1 bt178.2.2.2).bind fun bt182 => ((cool_Next.f k bt174.1 0).bind fun bt186 => (if bt174.2 = 0 then (if bt182.2 = 0 then (if (bt174.1.length : Int) = 2 then (sutlerlaw07_live.j0 k y167 bt174.1 bt182.1 bt186.1 bt186.2 ((bt182.1.length : Int) != 1)) else (sutlerlaw07_live.j0 k y167 bt174.1 bt182.1 bt186.1 bt186.2 true)) else (sutlerlaw07_live.j0 k y167 bt174.1 bt182.1 bt186.1 bt186.2 true)) else (sutlerlaw07_live.j0 k y167 bt174.1 bt182.1 bt186.1 bt186.2 true)))))) = some r := H
 have A2 := Aside0.mk A20
 clear A20
 replace H := Option.bind_eq_some_iff.mp H
 obtain ⟨⟨t174, t177⟩, A30, H⟩ := H
 replace H : ((sutlerlaw07_till.f (⟨#[115, 112, 111, 116]⟩ : ByteArray) (⟨#[97]⟩ : ByteArray) (⟨#[115]⟩ : ByteArray) 9).bind fun bt178 => ((cool_Put.f k y167 bt178.1 bt178.2.1 bt178.2.2.1 bt178.2.2.2).bind fun bt182 => ((cool_Next.f k t174 0).bind fun bt186 => (if t177 = 0 then (if bt182.2 = 0 then (if (t174.length : Int) = 2 then (sutlerlaw07_live.j0 k y167 t174 bt182.1 bt186.1 bt186.2 ((bt182.1.length : Int) != 1)) else (sutlerlaw07_live.j0 k y167 t174 bt182.1 bt186.1 bt186.2 true)) else (sutlerlaw07_live.j0 k y167 t174 bt182.1 bt186.1 bt186.2 true)) else (sutlerlaw07_live.j0 k y167 t174 bt182.1 bt186.1 bt186.2 true))))) = some r := H
 have A3 := Aside0.mk A30
 clear A30
 replace H := Option.bind_eq_some_iff.mp H
 obtain ⟨⟨t178, t179, t180, t181⟩, A40, H⟩ := H
 replace H : ((cool_Put.f k y167 t178 t179 t180 t181).bind fun bt182 => ((cool_Next.f k t174 0).bind fun bt186 => (if t177 = 0 then (if bt182.2 = 0 then (if (t174.length : Int) = 2 then (sutlerlaw07_live.j0 k y167 t174 bt182.1 bt186.1 bt186.2 ((bt182.1.length : Int) != 1)) else (sutlerlaw07_live.j0 k y167 t174 bt182.1 bt186.1 bt186.2 true)) else (sutlerlaw07_live.j0 k y167 t174 bt182.1 bt186.1 bt186.2 true)) else (sutlerlaw07_live.j0 k y167 t174 bt182.1 bt186.1 bt186.2 true)))) = some r := H
 have A4 := Aside0.mk A40
 clear A40
 replace H := Option.bind_eq_some_iff.mp H
 obtain ⟨⟨t182, t185⟩, A50, H⟩ := H
 replace H : ((cool_Next.f k t174 0).bind fun bt186 => (if t177 = 0 then (if t185 = 0 then (if (t174.length : Int) = 2 then (sutlerlaw07_live.j0 k y167 t174 t182 bt186.1 bt186.2 ((t182.length : Int) != 1)) else (sutlerlaw07_live.j0 k y167 t174 t182 bt186.1 bt186.2 true)) else (sutlerlaw07_live.j0 k y167 t174 t182 bt186.1 bt186.2 true)) else (sutlerlaw07_live.j0 k y167 t174 t182 bt186.1 bt186.2 true))) = some r := H
 have A5 := Aside0.mk A50
 clear A50
 replace H := Option.bind_eq_some_iff.mp H
 obtain ⟨⟨t186, t187⟩, A60, H⟩ := H
 replace H : (if t177 = 0 then (if t185 = 0 then (if (t174.length : Int) = 2 then (sutlerlaw07_live.j0 k y167 t174 t182 t186 t187 ((t182.length : Int) != 1)) else (sutlerlaw07_live.j0 k y167 t174 t182 t186 t187 true)) else (sutlerlaw07_live.j0 k y167 t174 t182 t186 t187 true)) else (sutlerlaw07_live.j0 k y167 t174 t182 t186 t187 true)) = some r := H
 have A6 := Aside0.mk A60
 clear A60
 have HC7 := Aside0.mk H
 clear H
 go_enter Try.func10, Try.ntmps10
 go_upto_region 5 with (first | ((with_reducible refine gate_callee (f := 8) rfl ?_); refine goesL_ (some 9) rfl rfl Try.func8 (by kernel_rfl) rfl #[.string (⟨#[115, 112, 111, 116]⟩ : ByteArray), .string (⟨#[97]⟩ : ByteArray), .string (⟨#[115]⟩ : ByteArray), .int .i64 30] rfl (by (try simp only [List.map_toArray, List.map_cons, List.map_nil]); first | done | rfl | (simp only [List.length_drop, List.length_take]; rfl)) ?_; (with_reducible refine (sutlerlaw07_till.calls (⟨#[115, 112, 111, 116]⟩ : ByteArray) (⟨#[97]⟩ : ByteArray) (⟨#[115]⟩ : ByteArray) 30 t163 t164 t165 t166 _ A1.out).mono ?_); rintro e w8 ⟨rfl, hb⟩; refine ⟨_, rfl, ?_⟩; have n0_ := Aside0.mk (below_step (by repeat (first | (with_reducible first | exact HB.out | apply below_alloc | apply pw_below_drewN | apply below_drew1) | exact HB.out)) hb); clear HB; have HB := n0_; clear n0_; (try clear hb); (try clear hb2); (try clear hk); (try clear hi)) | ((with_reducible refine gate_dst (N := 10) rfl ?_); (try (refine gate_guard (by rfl) ?_; dsimp only)); refine Kd.R_lit k25 _ 25 ?hg (N := 10) ?hd (xs := ([(⟨(⟨t163, t164, t165⟩ : S23), t166⟩ : S25)] : List (S25))) (inner := [.string t163, .string t164, .string t165, .int .i64 t166]) (ok := fun _ => True) (okp := fun _ => True) ?hr ?hp (fun _ hk => hk) trivial (Below.refl _ _) (Nat.le_refl _) (by simp) ?_; (case hd => rfl); (case hg => rfl); (case hr => first | (go_simp; done) | (go_simp; rfl)); (case hp => exact (Reps.c4 (show Kd.M k25 _ _ _ (⟨(⟨t163, t164, t165⟩ : S23), t166⟩ : S25) [.string t163, .string t164, .string t165, .int .i64 t166] from (k25_mkM _ _ _ (⟨(⟨t163, t164, t165⟩ : S23), t166⟩ : S25) )) (Reps.none _ _))); intro v168 w9 ho10 hb hg_ hnew_; clear hg_ hnew_; (first | rw [← Ny167.out] at ho10 | (simp only [Int.reduceToNat] at ho10; rw [← Ny167.out] at ho10)); have n0_ := Aside0.mk (Kd.R_lower ho10 (below_size (by repeat (first | (with_reducible first | exact HB.out | apply below_alloc | apply pw_below_drewN | apply below_drew1) | exact HB.out)))); have n1_ := Aside0.mk (below_step (by repeat (first | (with_reducible first | exact HB.out | apply below_alloc | apply pw_below_drewN | apply below_drew1) | exact HB.out)) hb); clear HB; have HO169 := n0_; have HB := n1_; clear n0_ n1_; clear hb ho10) | ((with_reducible refine gate_callee (f := 8) rfl ?_); refine goesL_ (some 13) rfl rfl Try.func8 (by kernel_rfl) rfl #[.string (⟨#[111, 100]⟩ : ByteArray), .string (⟨#[97]⟩ : ByteArray), .string (⟨#[108]⟩ : ByteArray), .int .i64 5] rfl (by (try simp only [List.map_toArray, List.map_cons, List.map_nil]); first | done | rfl | (simp only [List.length_drop, List.length_take]; rfl)) ?_; (with_reducible refine (sutlerlaw07_till.calls (⟨#[111, 100]⟩ : ByteArray) (⟨#[97]⟩ : ByteArray) (⟨#[108]⟩ : ByteArray) 5 t170 t171 t172 t173 _ A2.out).mono ?_); rintro e w11 ⟨rfl, hb⟩; refine ⟨_, rfl, ?_⟩; have n0_ := Aside0.mk (Kd.R_below (by (with_reducible repeat (first | apply Kd.R_alloc | apply Kd.R_drewN | apply Kd.R_drew)); exact HO169.out) hb); have n1_ := Aside0.mk (below_step (by repeat (first | (with_reducible first | exact HB.out | apply below_alloc | apply pw_below_drewN | apply below_drew1) | exact HB.out)) hb); clear HO169; clear HB; have HO169 := n0_; have HB := n1_; clear n0_ n1_; (try clear hb); (try clear hb2); (try clear hk); (try clear hi); obtain ⟨Ao12, co12, eo12⟩ := Kd.R_slice HO169.out; subst eo12) | ((with_reducible refine gate_callee (f := 12) rfl ?_); refine goesL_ (some 14) rfl rfl Try.func12 (by kernel_rfl) rfl #[.slice Ao12 y167.length co12, .agg #[.string t170, .string t171, .string t172, .int .i64 t173]] rfl (by (try simp only [List.map_toArray, List.map_cons, List.map_nil]); first | done | rfl | (simp only [List.length_drop, List.length_take]; rfl)) ?_; (with_reducible refine (cool_Put.calls k _ _ y167 t170 t171 t172 t173 t174 t177 _ ?side1 ?side2 A3.out).mono ?_); (case side1 => repeat (first | exact (Kd.R_reads' HO169.out).2.2 | (with_reducible refine Kd.C_alloc ?_ _) | (with_reducible refine Kd.C_drewN ?_ _) | (with_reducible refine Kd.C_drew ?_))); (case side2 => exact (Kd.R_reads' HO169.out).2.1); rintro e w13 ⟨v175, rfl, ho0, hb⟩; refine ⟨_, rfl, ?_⟩; have n0_ := Aside0.mk (Kd.R_elder' (by (with_reducible repeat (first | apply Kd.R_alloc | apply Kd.R_drewN | apply Kd.R_drew)); exact HO169.out) (Kd.R_base ho0) hb); have n1_ := Aside0.mk (Kd.R_lower (Kd.R_new' ho0 (Kd.R_lt (by (with_reducible repeat (first | apply Kd.R_alloc | apply Kd.R_drewN | apply Kd.R_drew)); exact HO169.out))) (below_size (by repeat (first | (with_reducible first | exact HB.out | apply below_alloc | apply pw_below_drewN | apply below_drew1) | exact HB.out)))); have n2_ := Aside0.mk (below_step (by repeat (first | (with_reducible first | exact HB.out | apply below_alloc | apply pw_below_drewN | apply below_drew1) | exact HB.out)) hb); clear HO169; clear HB; have HO169 := n0_; have HO176 := n1_; have HB := n2_; clear n0_ n1_ n2_; (try clear hb); (try clear hb2); (try clear hk); (try clear hi); (try clear ho0)) | ((with_reducible refine gate_callee (f := 8) rfl ?_); refine goesL_ (some 19) rfl rfl Try.func8 (by kernel_rfl) rfl #[.string (⟨#[115, 112, 111, 116]⟩ : ByteArray), .string (⟨#[97]⟩ : ByteArray), .string (⟨#[115]⟩ : ByteArray), .int .i64 9] rfl (by (try simp only [List.map_toArray, List.map_cons, List.map_nil]); first | done | rfl | (simp only [List.length_drop, List.length_take]; rfl)) ?_; (with_reducible refine (sutlerlaw07_till.calls (⟨#[115, 112, 111, 116]⟩ : ByteArray) (⟨#[97]⟩ : ByteArray) (⟨#[115]⟩ : ByteArray) 9 t178 t179 t180 t181 _ A4.out).mono ?_); rintro e w14 ⟨rfl, hb⟩; refine ⟨_, rfl, ?_⟩; have n0_ := Aside0.mk (Kd.R_below (by (with_reducible repeat (first | apply Kd.R_alloc | apply Kd.R_drewN | apply Kd.R_drew)); exact HO169.out) hb); have n1_ := Aside0.mk (Kd.R_below (by (with_reducible repeat (first | apply Kd.R_alloc | apply Kd.R_drewN | apply Kd.R_drew)); exact HO176.out) hb); have n2_ := Aside0.mk (below_step (by repeat (first | (with_reducible first | exact HB.out | apply below_alloc | apply pw_below_drewN | apply below_drew1) | exact HB.out)) hb); clear HO169; clear HO176; clear HB; have HO169 := n0_; have HO176 := n1_; have HB := n2_; clear n0_ n1_ n2_; (try clear hb); (try clear hb2); (try clear hk); (try clear hi)) | ((with_reducible refine gate_callee (f := 12) rfl ?_); refine goesL_ (some 20) rfl rfl Try.func12 (by kernel_rfl) rfl #[.slice Ao12 y167.length co12, .agg #[.string t178, .string t179, .string t180, .int .i64 t181]] rfl (by (try simp only [List.map_toArray, List.map_cons, List.map_nil]); first | done | rfl | (simp only [List.length_drop, List.length_take]; rfl)) ?_; (with_reducible refine (cool_Put.calls k _ _ y167 t178 t179 t180 t181 t182 t185 _ ?side1 ?side2 A5.out).mono ?_); (case side1 => repeat (first | exact (Kd.R_reads' HO169.out).2.2 | (with_reducible refine Kd.C_alloc ?_ _) | (with_reducible refine Kd.C_drewN ?_ _) | (with_reducible refine Kd.C_drew ?_))); (case side2 => exact (Kd.R_reads' HO169.out).2.1); rintro e w15 ⟨v183, rfl, ho0, hb⟩; refine ⟨_, rfl, ?_⟩; have n0_ := Aside0.mk (Kd.R_elder' (by (with_reducible repeat (first | apply Kd.R_alloc | apply Kd.R_drewN | apply Kd.R_drew)); exact HO169.out) (Kd.R_base ho0) hb); have n1_ := Aside0.mk (Kd.R_elder' (by (with_reducible repeat (first | apply Kd.R_alloc | apply Kd.R_drewN | apply Kd.R_drew)); exact HO176.out) (Kd.R_base ho0) hb); have n2_ := Aside0.mk (Kd.R_lower (Kd.R_new' (Kd.R_new' ho0 (Kd.R_lt (by (with_reducible repeat (first | apply Kd.R_alloc | apply Kd.R_drewN | apply Kd.R_drew)); exact HO169.out))) (Kd.R_lt (by (with_reducible repeat (first | apply Kd.R_alloc | apply Kd.R_drewN | apply Kd.R_drew)); exact HO176.out))) (below_size (by repeat (first | (with_reducible first | exact HB.out | apply below_alloc | apply pw_below_drewN | apply below_drew1) | exact HB.out)))); have n3_ := Aside0.mk (below_step (by repeat (first | (with_reducible first | exact HB.out | apply below_alloc | apply pw_below_drewN | apply below_drew1) | exact HB.out)) hb); clear HO169; clear HO176; clear HB; have HO169 := n0_; have HO176 := n1_; have HO184 := n2_; have HB := n3_; clear n0_ n1_ n2_ n3_; (try clear hb); (try clear hb2); (try clear hk); (try clear hi); (try clear ho0); obtain ⟨Ao16, co16, eo16⟩ := Kd.R_slice HO176.out; subst eo16) | ((with_reducible refine gate_callee (f := 19) rfl ?_); refine goesL_ (some 25) rfl rfl Try.func19 (by kernel_rfl) rfl #[.slice Ao16 t174.length co16, .int .i64 0] rfl (by (try simp only [List.map_toArray, List.map_cons, List.map_nil]); first | done | rfl | (simp only [List.length_drop, List.length_take]; rfl)) ?_; (with_reducible refine (cool_Next.calls k _ _ t174 0 t186 t187 _ ?side1 ?side2 A6.out).mono ?_); (case side1 => repeat (first | exact (Kd.R_reads' HO176.out).2.2 | (with_reducible refine Kd.C_alloc ?_ _) | (with_reducible refine Kd.C_drewN ?_ _) | (with_reducible refine Kd.C_drew ?_))); (case side2 => exact (Kd.R_reads' HO176.out).2.1); rintro e w17 ⟨rfl, hb⟩; refine ⟨_, rfl, ?_⟩; have n0_ := Aside0.mk (Kd.R_below (by (with_reducible repeat (first | apply Kd.R_alloc | apply Kd.R_drewN | apply Kd.R_drew)); exact HO169.out) hb); have n1_ := Aside0.mk (Kd.R_below (by (with_reducible repeat (first | apply Kd.R_alloc | apply Kd.R_drewN | apply Kd.R_drew)); exact HO176.out) hb); have n2_ := Aside0.mk (Kd.R_below (by (with_reducible repeat (first | apply Kd.R_alloc | apply Kd.R_drewN | apply Kd.R_drew)); exact HO184.out) hb); have n3_ := Aside0.mk (below_step (by repeat (first | (with_reducible first | exact HB.out | apply below_alloc | apply pw_below_drewN | apply below_drew1) | exact HB.out)) hb); clear HO169; clear HO176; clear HO184; clear HB; have HO169 := n0_; have HO176 := n1_; have HO184 := n2_; have HB := n3_; clear n0_ n1_ n2_ n3_; (try clear hb); (try clear hb2); (try clear hk); (try clear hi)))
 (try simp only [Act.put, List.setIfInBounds_toArray, List.set_cons_zero, List.set_cons_succ])
 go_cut [43] (fun v43 wc => ∃ (kq : Nat) (x43_6 : Bool), v43 = .bool x43_6 ∧ Aside0 (sutlerlaw07_live.j0 kq y167 t174 t182 t186 t187 x43_6 = some r) ∧ Aside0 (kq ≤ k) ∧ Aside0 (Kd.R k25 25 wc w.heap.size (fun k_ => some k_ ≠ ((.slice Ao16 t174.length co16) : Value).ownBlock ∧ some k_ ≠ (v183 : Value).ownBlock) (.slice Ao12 y167.length co12) y167) ∧ Aside0 (Kd.R k25 25 wc w.heap.size (fun k_ => some k_ ≠ ((.slice Ao12 y167.length co12) : Value).ownBlock ∧ some k_ ≠ (v183 : Value).ownBlock) (.slice Ao16 t174.length co16) t174) ∧ Aside0 (Kd.R k25 25 wc w.heap.size (fun k_ => some k_ ≠ ((.slice Ao12 y167.length co12) : Value).ownBlock ∧ some k_ ≠ ((.slice Ao16 t174.length co16) : Value).ownBlock) v183 t182) ∧ Aside0 (Below w.heap.size w wc))
 case first =>
  have H := HC7.out
  clear HC7
  by_cases c18 : t177 = 0
  ·rw [if_pos c18] at H
   have c18b0 : (t177 == 0) = true := beq_iff_eq.mpr c18
   have c18b1 : (t177 != 0) = false := bne_eq_false_iff_eq.mpr c18
   clear c18
   (first | rw [c18b0] | (simp only [i64_w, i32_w]; rw [c18b0]) | skip)
   by_cases c19 : t185 = 0
   ·rw [if_pos c19] at H
    have c19b0 : (t185 == 0) = true := beq_iff_eq.mpr c19
    have c19b1 : (t185 != 0) = false := bne_eq_false_iff_eq.mpr c19
    clear c19
    by_cases c20 : (t174.length : Int) = 2
    ·rw [if_pos c20] at H
     have c20b0 : ((t174.length : Int) == 2) = true := beq_iff_eq.mpr c20
     have c20b1 : ((t174.length : Int) != 2) = false := bne_eq_false_iff_eq.mpr c20
     clear c20
     have H' := Aside0.mk H
     clear H
     obtain ⟨Ao21, co21, eo21⟩ := Kd.R_slice HO184.out
     subst eo21
     go_wp2
     go_meet
     case rel => exact ⟨_, (((t182.length : Int) != 1)), (by first | rfl | (simp; done) | (simp [*]; done)), H', ⟨by first | omega | exact Nat.le_refl _⟩, ⟨by (with_reducible repeat (first | apply Kd.R_alloc | apply Kd.R_drewN | apply Kd.R_drew)); exact Kd.R_mono HO169.out (fun _ hk => ⟨hk.1.2, hk.2⟩)⟩, ⟨by (with_reducible repeat (first | apply Kd.R_alloc | apply Kd.R_drewN | apply Kd.R_drew)); exact Kd.R_mono HO176.out (fun _ hk => ⟨hk.1.2, hk.2⟩)⟩, ⟨by (with_reducible repeat (first | apply Kd.R_alloc | apply Kd.R_drewN | apply Kd.R_drew)); exact Kd.R_mono HO184.out (fun _ hk => ⟨hk.1.2, hk.2⟩)⟩, ⟨by repeat (first | (with_reducible first | exact HB.out | apply below_alloc | apply pw_below_drewN | apply below_drew1) | exact HB.out)⟩⟩
    ·rw [if_neg c20] at H
     have c20b0 : ((t174.length : Int) == 2) = false := beq_eq_false_iff_ne.mpr c20
     have c20b1 : ((t174.length : Int) != 2) = true := bne_iff_ne.mpr c20
     have H' := Aside0.mk H
     clear H
     go_wp2
     go_meet
     case rel => exact ⟨_, (true), (by first | rfl | (simp; done) | (simp [*]; done)), H', ⟨by first | omega | exact Nat.le_refl _⟩, ⟨by (with_reducible repeat (first | apply Kd.R_alloc | apply Kd.R_drewN | apply Kd.R_drew)); exact Kd.R_mono HO169.out (fun _ hk => ⟨hk.1.2, hk.2⟩)⟩, ⟨by (with_reducible repeat (first | apply Kd.R_alloc | apply Kd.R_drewN | apply Kd.R_drew)); exact Kd.R_mono HO176.out (fun _ hk => ⟨hk.1.2, hk.2⟩)⟩, ⟨by (with_reducible repeat (first | apply Kd.R_alloc | apply Kd.R_drewN | apply Kd.R_drew)); exact Kd.R_mono HO184.out (fun _ hk => ⟨hk.1.2, hk.2⟩)⟩, ⟨by repeat (first | (with_reducible first | exact HB.out | apply below_alloc | apply pw_below_drewN | apply below_drew1) | exact HB.out)⟩⟩
   ·rw [if_neg c19] at H
    have c19b0 : (t185 == 0) = false := beq_eq_false_iff_ne.mpr c19
    have c19b1 : (t185 != 0) = true := bne_iff_ne.mpr c19
    have H' := Aside0.mk H
    clear H
    go_wp2
    go_meet
    case rel => exact ⟨_, (true), (by first | rfl | (simp; done) | (simp [*]; done)), H', ⟨by first | omega | exact Nat.le_refl _⟩, ⟨by (with_reducible repeat (first | apply Kd.R_alloc | apply Kd.R_drewN | apply Kd.R_drew)); exact Kd.R_mono HO169.out (fun _ hk => ⟨hk.1.2, hk.2⟩)⟩, ⟨by (with_reducible repeat (first | apply Kd.R_alloc | apply Kd.R_drewN | apply Kd.R_drew)); exact Kd.R_mono HO176.out (fun _ hk => ⟨hk.1.2, hk.2⟩)⟩, ⟨by (with_reducible repeat (first | apply Kd.R_alloc | apply Kd.R_drewN | apply Kd.R_drew)); exact Kd.R_mono HO184.out (fun _ hk => ⟨hk.1.2, hk.2⟩)⟩, ⟨by repeat (first | (with_reducible first | exact HB.out | apply below_alloc | apply pw_below_drewN | apply below_drew1) | exact HB.out)⟩⟩
  ·rw [if_neg c18] at H
   have c18b0 : (t177 == 0) = false := beq_eq_false_iff_ne.mpr c18
   have c18b1 : (t177 != 0) = true := bne_iff_ne.mpr c18
   (first | rw [c18b0] | (simp only [i64_w, i32_w]; rw [c18b0]) | skip)
   have H' := Aside0.mk H
   clear H
   go_wp2
   go_meet
   case rel => exact ⟨_, (true), (by first | rfl | (simp; done) | (simp [*]; done)), H', ⟨by first | omega | exact Nat.le_refl _⟩, ⟨by (with_reducible repeat (first | apply Kd.R_alloc | apply Kd.R_drewN | apply Kd.R_drew)); exact Kd.R_mono HO169.out (fun _ hk => ⟨hk.1.2, hk.2⟩)⟩, ⟨by (with_reducible repeat (first | apply Kd.R_alloc | apply Kd.R_drewN | apply Kd.R_drew)); exact Kd.R_mono HO176.out (fun _ hk => ⟨hk.1.2, hk.2⟩)⟩, ⟨by (with_reducible repeat (first | apply Kd.R_alloc | apply Kd.R_drewN | apply Kd.R_drew)); exact Kd.R_mono HO184.out (fun _ hk => ⟨hk.1.2, hk.2⟩)⟩, ⟨by repeat (first | (with_reducible first | exact HB.out | apply below_alloc | apply pw_below_drewN | apply below_drew1) | exact HB.out)⟩⟩
 case rest =>
  clear HC7
  try clear c1
  try clear c2
  try clear p2
  try clear c4
  try clear c8
  try clear c10
  try clear c12
  try clear c18
  try clear c18b0
  try clear c18b1
  try clear c19
  try clear c19b0
  try clear c19b1
  try clear c20
  try clear c20b0
  try clear c20b1
  obtain ⟨kq, x43_6, rfl, HA, HJ6, HO_1, HO_2, HO_4, HB⟩ := hcut
  cases kq with
  | zero => exact absurd HA.out (by simp [sutlerlaw07_live.j0])
  | succ kj6 =>
   have H := HA.out
   clear HA
   simp only [sutlerlaw07_live.j0] at H
   by_cases c22 : x43_6 = true
   ·subst c22
    have H1 : (some false) = some r := by rw [if_pos rfl] at H; exact H
    clear H
    have H := H1
    clear H1
    obtain rfl := Option.some.inj H
    go_wp2
    go_ret
    exact ⟨by first | rfl | (simp [errW_none, errW_some] <;> rfl) | (simp [*, errW_none, errW_some] <;> rfl), by repeat (first | (with_reducible first | exact HB.out | apply below_alloc | apply pw_below_drewN | apply below_drew1) | exact HB.out)⟩
   ·replace c22 := Bool.eq_false_iff.mpr c22
    subst c22
    have H1 : (if 0 < (t174.length : Int) then (if 0 < (y167.length : Int) then ((cool_Left.f y167 (([(⟨(rd_T25 t174 0).f0.f0, (rd_T25 t174 0).f0.f1, (rd_T25 t174 0).f0.f2⟩ : S23), (⟨(rd_T25 y167 0).f0.f0, (rd_T25 y167 0).f0.f1, (rd_T25 y167 0).f0.f2⟩ : S23)] : List (S23))) 10).bind fun t193 => (if ((rd_T25 t174 0).f0.f0).toList = ([108] : List UInt8) then (if 0 < (t182.length : Int) then (if ((rd_T25 t182 0).f1) = 9 then (if t186 = 5 then (if t187 = true then (if (t193.length : Int) = 1 then ((cool_IsCool.f y167 ((rd_T25 y167 0).f0.f0) ((rd_T25 y167 0).f0.f1) ((rd_T25 y167 0).f0.f2) 29).bind fun t199 => (if t199 = true then ((cool_IsCool.f y167 ((rd_T25 y167 0).f0.f0) ((rd_T25 y167 0).f0.f1) ((rd_T25 y167 0).f0.f2) 30).bind fun t201 => (if t201 = true then (some false) else ((cool_Clean.f t174 5).bind fun t202 => (if (t202.length : Int) = 1 then ((cool_Check.f kj6 t174).bind fun t205 => (some (t205 == 0))) else (some false))))) else (some false))) else (some false)) else (some false)) else (some false)) else (some false)) else (none)) else (some false))) else (none)) else (none)) = some r := by rw [if_neg (show ¬ (false = true) by decide)] at H; exact H
    clear H
    have H := H1
    clear H1
    by_cases c23 : 0 < (t174.length : Int)
    ·rw [if_pos c23] at H
     have c23b0 : decide (0 < (t174.length : Int)) = true := decide_eq_true c23
     have c23b1 : decide (0 < t174.length) = true := decide_eq_true (by omega)
     clear c23
     by_cases c24 : 0 < (y167.length : Int)
     ·rw [if_pos c24] at H
      have c24b0 : decide (0 < (y167.length : Int)) = true := decide_eq_true c24
      have c24b1 : decide (0 < y167.length) = true := decide_eq_true (by omega)
      clear c24
      obtain ⟨y190, hy190⟩ : ∃ y_ : List (S23), y_ = (([(⟨(rd_T25 t174 0).f0.f0, (rd_T25 t174 0).f0.f1, (rd_T25 t174 0).f0.f2⟩ : S23), (⟨(rd_T25 y167 0).f0.f0, (rd_T25 y167 0).f0.f1, (rd_T25 y167 0).f0.f2⟩ : S23)] : List (S23))) := ⟨_, rfl⟩
      replace H : ((cool_Left.f y167 y190 10).bind fun t193 => (if ((rd_T25 t174 0).f0.f0).toList = ([108] : List UInt8) then (if 0 < (t182.length : Int) then (if ((rd_T25 t182 0).f1) = 9 then (if t186 = 5 then (if t187 = true then (if (t193.length : Int) = 1 then ((cool_IsCool.f y167 ((rd_T25 y167 0).f0.f0) ((rd_T25 y167 0).f0.f1) ((rd_T25 y167 0).f0.f2) 29).bind fun t199 => (if t199 = true then ((cool_IsCool.f y167 ((rd_T25 y167 0).f0.f0) ((rd_T25 y167 0).f0.f1) ((rd_T25 y167 0).f0.f2) 30).bind fun t201 => (if t201 = true then (some false) else ((cool_Clean.f t174 5).bind fun t202 => (if (t202.length : Int) = 1 then ((cool_Check.f kj6 t174).bind fun t205 => (some (t205 == 0))) else (some false))))) else (some false))) else (some false)) else (some false)) else (some false)) else (some false)) else (none)) else (some false))) = some r := by first | (rw [hy190]; with_reducible exact H) | (have H2_ := (Option.bind_some _ _).symm.trans H; rw [hy190]; with_reducible exact H2_) | (have H2_ := (Option.bind_some _ _).symm.trans H; with_reducible exact H2_) | with_reducible exact H | (rw [hy190]; exact H) | exact H
      have Ny190 := Aside0.mk hy190
      clear hy190
      replace H := Option.bind_eq_some_iff.mp H
      obtain ⟨t193, A250, H⟩ := H
      replace H : (if ((rd_T25 t174 0).f0.f0).toList = ([108] : List UInt8) then (if 0 < (t182.length : Int) then (if ((rd_T25 t182 0).f1) = 9 then (if t186 = 5 then (if t187 = true then (if (t193.length : Int) = 1 then ((cool_IsCool.f y167 ((rd_T25 y167 0).f0.f0) ((rd_T25 y167 0).f0.f1) ((rd_T25 y167 0).f0.f2) 29).bind fun t199 => (if t199 = true then ((cool_IsCool.f y167 ((rd_T25 y167 0).f0.f0) ((rd_T25 y167 0).f0.f1) ((rd_T25 y167 0).f0.f2) 30).bind fun t201 => (if t201 = true then (some false) else ((cool_Clean.f t174 5).bind fun t202 => (if (t202.length : Int) = 1 then ((cool_Check.f kj6 t174).bind fun t205 => (some (t205 == 0))) else (some false))))) else (some false))) else (some false)) else (some false)) else (some false)) else (some false)) else (none)) else (some false)) = some r := H
      have A25 := Aside0.mk A250
      clear A250
      by_cases c26 : ((rd_T25 t174 0).f0.f0).toList = ([108] : List UInt8)
      ·rw [if_pos c26] at H
       have c26b0 : (((rd_T25 t174 0).f0.f0).toList == ([108] : List UInt8)) = true := beq_iff_eq.mpr c26
       have c26b1 : (((rd_T25 t174 0).f0.f0).toList != ([108] : List UInt8)) = false := bne_eq_false_iff_eq.mpr c26
       clear c26
       by_cases c27 : 0 < (t182.length : Int)
       ·rw [if_pos c27] at H
        have c27b0 : decide (0 < (t182.length : Int)) = true := decide_eq_true c27
        have c27b1 : decide (0 < t182.length) = true := decide_eq_true (by omega)
        clear c27
        by_cases c28 : ((rd_T25 t182 0).f1) = 9
        ·rw [if_pos c28] at H
         have c28b0 : (((rd_T25 t182 0).f1) == 9) = true := beq_iff_eq.mpr c28
         have c28b1 : (((rd_T25 t182 0).f1) != 9) = false := bne_eq_false_iff_eq.mpr c28
         clear c28
         by_cases c29 : t186 = 5
         ·rw [if_pos c29] at H
          have c29b0 : (t186 == 5) = true := beq_iff_eq.mpr c29
          have c29b1 : (t186 != 5) = false := bne_eq_false_iff_eq.mpr c29
          clear c29
          by_cases c30 : t187 = true
          ·subst c30
           have H1 : (if (t193.length : Int) = 1 then ((cool_IsCool.f y167 ((rd_T25 y167 0).f0.f0) ((rd_T25 y167 0).f0.f1) ((rd_T25 y167 0).f0.f2) 29).bind fun t199 => (if t199 = true then ((cool_IsCool.f y167 ((rd_T25 y167 0).f0.f0) ((rd_T25 y167 0).f0.f1) ((rd_T25 y167 0).f0.f2) 30).bind fun t201 => (if t201 = true then (some false) else ((cool_Clean.f t174 5).bind fun t202 => (if (t202.length : Int) = 1 then ((cool_Check.f kj6 t174).bind fun t205 => (some (t205 == 0))) else (some false))))) else (some false))) else (some false)) = some r := by rw [if_pos rfl] at H; exact H
           clear H
           have H := H1
           clear H1
           by_cases c31 : (t193.length : Int) = 1
           ·rw [if_pos c31] at H
            have c31b0 : ((t193.length : Int) == 1) = true := beq_iff_eq.mpr c31
            have c31b1 : ((t193.length : Int) != 1) = false := bne_eq_false_iff_eq.mpr c31
            clear c31
            replace H := Option.bind_eq_some_iff.mp H
            obtain ⟨t199, A320, H⟩ := H
            replace H : (if t199 = true then ((cool_IsCool.f y167 ((rd_T25 y167 0).f0.f0) ((rd_T25 y167 0).f0.f1) ((rd_T25 y167 0).f0.f2) 30).bind fun t201 => (if t201 = true then (some false) else ((cool_Clean.f t174 5).bind fun t202 => (if (t202.length : Int) = 1 then ((cool_Check.f kj6 t174).bind fun t205 => (some (t205 == 0))) else (some false))))) else (some false)) = some r := H
            have A32 := Aside0.mk A320
            clear A320
            by_cases c33 : t199 = true
            ·subst c33
             have H1 : ((cool_IsCool.f y167 ((rd_T25 y167 0).f0.f0) ((rd_T25 y167 0).f0.f1) ((rd_T25 y167 0).f0.f2) 30).bind fun t201 => (if t201 = true then (some false) else ((cool_Clean.f t174 5).bind fun t202 => (if (t202.length : Int) = 1 then ((cool_Check.f kj6 t174).bind fun t205 => (some (t205 == 0))) else (some false))))) = some r := by rw [if_pos rfl] at H; exact H
             clear H
             have H := H1
             clear H1
             replace H := Option.bind_eq_some_iff.mp H
             obtain ⟨t201, A340, H⟩ := H
             replace H : (if t201 = true then (some false) else ((cool_Clean.f t174 5).bind fun t202 => (if (t202.length : Int) = 1 then ((cool_Check.f kj6 t174).bind fun t205 => (some (t205 == 0))) else (some false)))) = some r := H
             have A34 := Aside0.mk A340
             clear A340
             by_cases c35 : t201 = true
             ·subst c35
              have H1 : (some false) = some r := by rw [if_pos rfl] at H; exact H
              clear H
              have H := H1
              clear H1
              obtain rfl := Option.some.inj H
              try go_wp2
              have n0_ := Aside0.mk (Kd.R_drew HO_1.out)
              have n1_ := Aside0.mk (Kd.R_drew HO_2.out)
              have n2_ := Aside0.mk (Kd.R_drew HO_4.out)
              have n3_ := Aside0.mk (below_drew1 HB.out)
              clear HO_1
              clear HO_2
              clear HO_4
              clear HB
              have HO_1 := n0_
              have HO_2 := n1_
              have HO_4 := n2_
              have HB := n3_
              clear n0_ n1_ n2_ n3_
              have p188 : 0 ≤ (0 : Int) := (by omega)
              have q188 : 0 < (t174.length : Int) := of_decide_eq_true (by first | (with_reducible assumption) | assumption)
              obtain ⟨ad188, e188, hx188_0, hx188_1, hx188_2, hx188_3⟩ := at_T25 (Kd.R_reads' HO_2.out).2.2 0 p188 q188
              cases e188
              have qi188 : (0 < t174.length) = True := eq_true (by omega)
              (try rw [show ((0 : Int)).toNat = 0 from rfl] at hx188_0)
              (try rw [show 0 * 4 = 0 from rfl] at hx188_0)
              (try rw [Addr.add_zero'] at hx188_0)
              (try rw [show ((0 : Int)).toNat = 0 from rfl] at hx188_1)
              (try rw [show 0 * 4 = 0 from rfl] at hx188_1)
              (try rw [Addr.add_zero'] at hx188_1)
              (try rw [show ((0 : Int)).toNat = 0 from rfl] at hx188_2)
              (try rw [show 0 * 4 = 0 from rfl] at hx188_2)
              (try rw [Addr.add_zero'] at hx188_2)
              (try rw [show ((0 : Int)).toNat = 0 from rfl] at hx188_3)
              (try rw [show 0 * 4 = 0 from rfl] at hx188_3)
              (try rw [Addr.add_zero'] at hx188_3)
              replace p188 := eq_true p188
              replace q188 := eq_true q188
              have p189 : 0 ≤ (0 : Int) := (by omega)
              have q189 : 0 < (y167.length : Int) := of_decide_eq_true (by first | (with_reducible assumption) | assumption)
              obtain ⟨ad189, e189, hx189_0, hx189_1, hx189_2, hx189_3⟩ := at_T25 (Kd.R_reads' HO_1.out).2.2 0 p189 q189
              cases e189
              have qi189 : (0 < y167.length) = True := eq_true (by omega)
              (try rw [show ((0 : Int)).toNat = 0 from rfl] at hx189_0)
              (try rw [show 0 * 4 = 0 from rfl] at hx189_0)
              (try rw [Addr.add_zero'] at hx189_0)
              (try rw [show ((0 : Int)).toNat = 0 from rfl] at hx189_1)
              (try rw [show 0 * 4 = 0 from rfl] at hx189_1)
              (try rw [Addr.add_zero'] at hx189_1)
              (try rw [show ((0 : Int)).toNat = 0 from rfl] at hx189_2)
              (try rw [show 0 * 4 = 0 from rfl] at hx189_2)
              (try rw [Addr.add_zero'] at hx189_2)
              (try rw [show ((0 : Int)).toNat = 0 from rfl] at hx189_3)
              (try rw [show 0 * 4 = 0 from rfl] at hx189_3)
              (try rw [Addr.add_zero'] at hx189_3)
              replace p189 := eq_true p189
              replace q189 := eq_true q189
              refine start_ (n := 12) (S := fun w' => w'.cell? ad188 = some (.string ((rd_T25 t174 0).f0.f0)) ∧ w'.cell? ⟨ad188.block, ad188.off + 1, none⟩ = some (.string ((rd_T25 t174 0).f0.f1)) ∧ w'.cell? ⟨ad188.block, ad188.off + 2, none⟩ = some (.string ((rd_T25 t174 0).f0.f2)) ∧ w'.cell? ⟨ad188.block, ad188.off + 3, none⟩ = some (.int .i64 ((rd_T25 t174 0).f1)) ∧ w'.cell? ad189 = some (.string ((rd_T25 y167 0).f0.f0)) ∧ w'.cell? ⟨ad189.block, ad189.off + 1, none⟩ = some (.string ((rd_T25 y167 0).f0.f1)) ∧ w'.cell? ⟨ad189.block, ad189.off + 2, none⟩ = some (.string ((rd_T25 y167 0).f0.f2)) ∧ w'.cell? ⟨ad189.block, ad189.off + 3, none⟩ = some (.int .i64 ((rd_T25 y167 0).f1))) (ds := []) (tf 0 12) (by kernel_rfl) rfl rfl ⟨hx188_0, hx188_1, hx188_2, hx188_3, hx189_0, hx189_1, hx189_2, hx189_3⟩ (fun hHeld => ?_); refine with_tabW sutlerlaw07_live.tab7 sutlerlaw07_live.bits7 (fun HT_ HW_ => ?_)
              generalize wc.drew = w36 at HO_1 HO_2 HO_4 HB hx188_0 hx188_1 hx188_2 hx188_3 hx189_0 hx189_1 hx189_2 hx189_3 hHeld ⊢
              refine pure_ (i := 0) (N := some 44) (v := ?_) (a' := ?_) (tf 1 11) rfl rfl (any_of HT_.out (by kernel_rfl)) (fun _ _ _ h => h) (Or.inl ⟨by rfl, ?_⟩) ?_ ?_
              rotate_left
              ·intro w'
               go_simp
               with_reducible rfl
              rotate_left
              ·simp only [Act.put, List.setIfInBounds_toArray, List.set_cons_zero, List.set_cons_succ, i64_w, i32_w]
               rfl
              refine pure_ (i := 1) (N := some 45) (v := ?_) (a' := ?_) (tf 2 10) rfl rfl (any_of HT_.out (by kernel_rfl)) (fun _ _ _ h => h) (Or.inl ⟨by rfl, ?_⟩) ?_ ?_
              rotate_left
              ·intro w'
               go_simp
               with_reducible rfl
              rotate_left
              ·simp only [Act.put, List.setIfInBounds_toArray, List.set_cons_zero, List.set_cons_succ, i64_w, i32_w]
               rfl
              refine pure_ (i := 2) (N := some 46) (v := ?_) (a' := ?_) (tf 3 9) rfl rfl (any_of HT_.out (by kernel_rfl)) (fun _ _ _ h => h) (Or.inl ⟨by rfl, ?_⟩) ?_ ?_
              rotate_left
              ·intro w'
               go_simp
               with_reducible rfl
              rotate_left
              ·simp only [Act.put, List.setIfInBounds_toArray, List.set_cons_zero, List.set_cons_succ, i64_w, i32_w]
               rfl
              refine pure_ (i := 3) (N := some 47) (v := ?_) (a' := ?_) (tf 4 8) rfl rfl (any_of HT_.out (by kernel_rfl)) (fun _ _ _ h => h) (Or.inl ⟨by rfl, ?_⟩) ?_ ?_
              rotate_left
              ·intro w'
               go_simp
               with_reducible rfl
              rotate_left
              ·simp only [Act.put, List.setIfInBounds_toArray, List.set_cons_zero, List.set_cons_succ, i64_w, i32_w]
               rfl
              refine pure_ (i := 5) (N := some 49) (v := ?_) (a' := ?_) #[true, true, true, true, false, true, false, false, false, false, false, false] rfl rfl (any_of HT_.out (by kernel_rfl)) (fun _ _ _ h => h) (Or.inl ⟨by rfl, ?_⟩) ?_ ?_
              rotate_left
              ·intro w'
               go_simp
               with_reducible rfl
              rotate_left
              ·simp only [Act.put, List.setIfInBounds_toArray, List.set_cons_zero, List.set_cons_succ, i64_w, i32_w]
               rfl
              refine pure_ (i := 6) (N := some 50) (v := ?_) (a' := ?_) #[true, true, true, true, false, true, true, false, false, false, false, false] rfl rfl (any_of HT_.out (by kernel_rfl)) (fun _ _ _ h => h) (Or.inl ⟨by rfl, ?_⟩) ?_ ?_
              rotate_left
              ·intro w'
               go_simp
               with_reducible rfl
              rotate_left
              ·simp only [Act.put, List.setIfInBounds_toArray, List.set_cons_zero, List.set_cons_succ, i64_w, i32_w]
               rfl
              refine pure_ (i := 7) (N := some 51) (v := ?_) (a' := ?_) #[true, true, true, true, false, true, true, true, false, false, false, false] rfl rfl (any_of HT_.out (by kernel_rfl)) (fun _ _ _ h => h) (Or.inl ⟨by rfl, ?_⟩) ?_ ?_
              rotate_left
              ·intro w'
               go_simp
               with_reducible rfl
              rotate_left
              ·simp only [Act.put, List.setIfInBounds_toArray, List.set_cons_zero, List.set_cons_succ, i64_w, i32_w]
               rfl
              refine take_ (i := 4) (N := some 48) (v := ?_) (a' := ?_) (tf 8 4) rfl rfl (take_ofW HT_.out HW_.out (by kernel_rfl)) (fun _ _ _ h => h) (Or.inl ⟨by rfl, ?_⟩) hHeld ?_ ?_
              rotate_left
              ·rintro w' ⟨s0, s1, s2, s3, s4, s5, s6, s7⟩
               go_simp
               with_reducible rfl
              rotate_left
              ·simp only [Act.put, List.setIfInBounds_toArray, List.set_cons_zero, List.set_cons_succ, i64_w, i32_w]
               rfl
              refine take_ (i := 8) (N := some 52) (v := ?_) (a' := ?_) (tf 9 3) rfl rfl (take_ofW HT_.out HW_.out (by kernel_rfl)) (fun _ _ _ h => h) (Or.inl ⟨by rfl, ?_⟩) hHeld ?_ ?_
              rotate_left
              ·rintro w' ⟨s0, s1, s2, s3, s4, s5, s6, s7⟩
               go_simp
               with_reducible rfl
              rotate_left
              ·simp only [Act.put, List.setIfInBounds_toArray, List.set_cons_zero, List.set_cons_succ, i64_w, i32_w]
               rfl
              refine one_ (i := 9) (N := some 53) (tf 10 2) rfl rfl (one_of HT_.out (by kernel_rfl)) (by decide) (fun K hK => ?_)
              refine Kd.R_lit_step k23 _ 23 ?hg (N := 53) ?hd (xs := ([(⟨(rd_T25 t174 0).f0.f0, (rd_T25 t174 0).f0.f1, (rd_T25 t174 0).f0.f2⟩ : S23), (⟨(rd_T25 y167 0).f0.f0, (rd_T25 y167 0).f0.f1, (rd_T25 y167 0).f0.f2⟩ : S23)] : List (S23))) (inner := [.string ((rd_T25 t174 0).f0.f0), .string ((rd_T25 t174 0).f0.f1), .string ((rd_T25 t174 0).f0.f2), .string ((rd_T25 y167 0).f0.f0), .string ((rd_T25 y167 0).f0.f1), .string ((rd_T25 y167 0).f0.f2)]) (ok := fun _ => True) (okp := fun _ => True) ?hr ?hp (fun _ hk => hk) trivial (Below.refl _ _) (Nat.le_refl _) (by simp) ?_; (case hd => rfl); (case hg => rfl); (case hr => first | (go_simp; done) | (go_simp; rfl)); (case hp => exact (Reps.c3 (show Kd.M k23 _ _ _ (⟨(rd_T25 t174 0).f0.f0, (rd_T25 t174 0).f0.f1, (rd_T25 t174 0).f0.f2⟩ : S23) [.string ((rd_T25 t174 0).f0.f0), .string ((rd_T25 t174 0).f0.f1), .string ((rd_T25 t174 0).f0.f2)] from (k23_mkM _ _ _ (⟨(rd_T25 t174 0).f0.f0, (rd_T25 t174 0).f0.f1, (rd_T25 t174 0).f0.f2⟩ : S23) )) (Reps.c3 (show Kd.M k23 _ _ _ (⟨(rd_T25 y167 0).f0.f0, (rd_T25 y167 0).f0.f1, (rd_T25 y167 0).f0.f2⟩ : S23) [.string ((rd_T25 y167 0).f0.f0), .string ((rd_T25 y167 0).f0.f1), .string ((rd_T25 y167 0).f0.f2)] from (k23_mkM _ _ _ (⟨(rd_T25 y167 0).f0.f0, (rd_T25 y167 0).f0.f1, (rd_T25 y167 0).f0.f2⟩ : S23) )) (Reps.none _ _))))
              intro v191 w37 ho38 hb hg_ hnew_
              have HS0_ := (hb.cell (World.block_lt_of_cell? _ _ (hHeld.1))).trans (hHeld.1)
              have HS1_ := (hb.cell (World.block_lt_of_cell? _ _ (hHeld.2.1))).trans (hHeld.2.1)
              have HS2_ := (hb.cell (World.block_lt_of_cell? _ _ (hHeld.2.2.1))).trans (hHeld.2.2.1)
              have HS3_ := (hb.cell (World.block_lt_of_cell? _ _ (hHeld.2.2.2.1))).trans (hHeld.2.2.2.1)
              have HS4_ := (hb.cell (World.block_lt_of_cell? _ _ (hHeld.2.2.2.2.1))).trans (hHeld.2.2.2.2.1)
              have HS5_ := (hb.cell (World.block_lt_of_cell? _ _ (hHeld.2.2.2.2.2.1))).trans (hHeld.2.2.2.2.2.1)
              have HS6_ := (hb.cell (World.block_lt_of_cell? _ _ (hHeld.2.2.2.2.2.2.1))).trans (hHeld.2.2.2.2.2.2.1)
              have HS7_ := (hb.cell (World.block_lt_of_cell? _ _ (hHeld.2.2.2.2.2.2.2))).trans (hHeld.2.2.2.2.2.2.2)
              clear hg_ hnew_
              (first | rw [← Ny190.out] at ho38 | (simp only [Int.reduceToNat] at ho38; rw [← Ny190.out] at ho38))
              have n0_ := Aside0.mk (Kd.R_below (by (with_reducible repeat (first | apply Kd.R_alloc | apply Kd.R_drewN | apply Kd.R_drew)); exact HO_1.out) hb)
              have n1_ := Aside0.mk (Kd.R_below (by (with_reducible repeat (first | apply Kd.R_alloc | apply Kd.R_drewN | apply Kd.R_drew)); exact HO_2.out) hb)
              have n2_ := Aside0.mk (Kd.R_below (by (with_reducible repeat (first | apply Kd.R_alloc | apply Kd.R_drewN | apply Kd.R_drew)); exact HO_4.out) hb)
              have n3_ := Aside0.mk (Kd.R_lower ho38 (below_size (by repeat (first | (with_reducible first | exact HB.out | apply below_alloc | apply pw_below_drewN | apply below_drew1) | exact HB.out))))
              have n4_ := Aside0.mk (below_step (by repeat (first | (with_reducible first | exact HB.out | apply below_alloc | apply pw_below_drewN | apply below_drew1) | exact HB.out)) hb)
              clear HO_1
              clear HO_2
              clear HO_4
              clear HB
              have HO_1 := n0_
              have HO_2 := n1_
              have HO_4 := n2_
              have HO192 := n3_
              have HB := n4_
              clear n0_ n1_ n2_ n3_ n4_
              clear hb ho38
              obtain ⟨Ao39, co39, eo39⟩ := Kd.R_slice HO192.out
              (first | subst eo39 | (injection eo39 with f1_ f2_ f3_; have f4_ := f1_.symm; have f5_ := f3_.symm; clear f1_ f2_ f3_; subst f4_; subst f5_))
              refine hK.out _ _ ⟨HS0_, HS1_, HS2_, HS3_, HS4_, HS5_, HS6_, HS7_⟩ (fun hHeld => ?_)
              clear hK K
              refine norm_ (a' := ?_) ?_ ?_
              rotate_left
              ·show Act.put _ (some 53) _ = _
               simp only [Act.put, List.setIfInBounds_toArray, List.set_cons_zero, List.set_cons_succ, i64_w, i32_w]
               rfl
              refine one_ (i := 10) (N := some 54) (tf 11 1) rfl rfl (one_of HT_.out (by kernel_rfl)) (by decide) (fun K hK => ?_)
              refine goes_ Try.func15 (by kernel_rfl) rfl #[.slice (some ad189) y167.length co12, .slice Ao39 y190.length co39, .int .i64 10] (by rfl) rfl rfl (by (try simp only [List.map_toArray, List.map_cons, List.map_nil]); first | done | rfl | (simp only [List.length_drop, List.length_take]; rfl)) ?_
              with_reducible refine (cool_Left.calls _ _ y167 _ _ y190 10 t193 _ ?side1 ?side2 ?side3 ?side4 A25.out).mono ?_
              (case side1 => repeat (first | exact (Kd.R_reads' HO_1.out).2.2 | (with_reducible refine Kd.C_alloc ?_ _) | (with_reducible refine Kd.C_drewN ?_ _) | (with_reducible refine Kd.C_drew ?_)))
              (case side2 => exact (Kd.R_reads' HO_1.out).2.1)
              (case side3 => repeat (first | exact (Kd.R_reads' HO192.out).2.2 | (with_reducible refine Kd.C_alloc ?_ _) | (with_reducible refine Kd.C_drewN ?_ _) | (with_reducible refine Kd.C_drew ?_)))
              (case side4 => exact (Kd.R_reads' HO192.out).2.1)
              rintro e w40 ⟨v194, rfl, ho0, hb⟩
              have HS0_ := (hb.cell (World.block_lt_of_cell? _ _ (hHeld.1))).trans (hHeld.1)
              have HS1_ := (hb.cell (World.block_lt_of_cell? _ _ (hHeld.2.1))).trans (hHeld.2.1)
              have HS2_ := (hb.cell (World.block_lt_of_cell? _ _ (hHeld.2.2.1))).trans (hHeld.2.2.1)
              have HS3_ := (hb.cell (World.block_lt_of_cell? _ _ (hHeld.2.2.2.1))).trans (hHeld.2.2.2.1)
              have HS4_ := (hb.cell (World.block_lt_of_cell? _ _ (hHeld.2.2.2.2.1))).trans (hHeld.2.2.2.2.1)
              have HS5_ := (hb.cell (World.block_lt_of_cell? _ _ (hHeld.2.2.2.2.2.1))).trans (hHeld.2.2.2.2.2.1)
              have HS6_ := (hb.cell (World.block_lt_of_cell? _ _ (hHeld.2.2.2.2.2.2.1))).trans (hHeld.2.2.2.2.2.2.1)
              have HS7_ := (hb.cell (World.block_lt_of_cell? _ _ (hHeld.2.2.2.2.2.2.2))).trans (hHeld.2.2.2.2.2.2.2)
              refine ⟨_, rfl, ?_⟩
              have n0_ := Aside0.mk (Kd.R_below (by (with_reducible repeat (first | apply Kd.R_alloc | apply Kd.R_drewN | apply Kd.R_drew)); exact HO_1.out) hb)
              have n1_ := Aside0.mk (Kd.R_below (by (with_reducible repeat (first | apply Kd.R_alloc | apply Kd.R_drewN | apply Kd.R_drew)); exact HO_2.out) hb)
              have n2_ := Aside0.mk (Kd.R_below (by (with_reducible repeat (first | apply Kd.R_alloc | apply Kd.R_drewN | apply Kd.R_drew)); exact HO_4.out) hb)
              have n3_ := Aside0.mk (Kd.R_elder' (by (with_reducible repeat (first | apply Kd.R_alloc | apply Kd.R_drewN | apply Kd.R_drew)); exact HO192.out) (Kd.R_base ho0) hb)
              have n4_ := Aside0.mk (Kd.R_lower (Kd.R_new' ho0 (Kd.R_lt (by (with_reducible repeat (first | apply Kd.R_alloc | apply Kd.R_drewN | apply Kd.R_drew)); exact HO192.out))) (below_size (by repeat (first | (with_reducible first | exact HB.out | apply below_alloc | apply pw_below_drewN | apply below_drew1) | exact HB.out))))
              have n5_ := Aside0.mk (below_step (by repeat (first | (with_reducible first | exact HB.out | apply below_alloc | apply pw_below_drewN | apply below_drew1) | exact HB.out)) hb)
              clear HO_1
              clear HO_2
              clear HO_4
              clear HO192
              clear HB
              have HO_1 := n0_
              have HO_2 := n1_
              have HO_4 := n2_
              have HO192 := n3_
              have HO195 := n4_
              have HB := n5_
              clear n0_ n1_ n2_ n3_ n4_ n5_
              (try clear hb)
              (try clear hb2)
              (try clear hk)
              (try clear hi)
              (try clear ho0)
              refine hK.out _ _ ⟨HS0_, HS1_, HS2_, HS3_, HS4_, HS5_, HS6_, HS7_⟩ (fun hHeld => ?_)
              clear hK K
              refine norm_ (a' := ?_) ?_ ?_
              rotate_left
              ·show Act.put _ (some 54) _ = _
               simp only [Act.put, List.setIfInBounds_toArray, List.set_cons_zero, List.set_cons_succ, i64_w, i32_w]
               rfl
              refine pure_ (i := 11) (N := some 8) (v := ?_) (a' := ?_) (tf 12 0) rfl rfl (any_of HT_.out (by kernel_rfl)) (fun _ _ _ h => h) (Or.inl ⟨by rfl, ?_⟩) ?_ ?_
              rotate_left
              ·intro w'
               go_simp
               with_reducible rfl
              rotate_left
              ·simp only [Act.put, List.setIfInBounds_toArray, List.set_cons_zero, List.set_cons_succ, i64_w, i32_w]
               rfl
              refine done_ (done_of HT_.out (by kernel_rfl)) ?_
              have p196 : 0 ≤ (0 : Int) := (by omega)
              have q196 : 0 < (t174.length : Int) := of_decide_eq_true (by first | (with_reducible assumption) | assumption)
              obtain ⟨ad196, e196, hx196_0, hx196_1, hx196_2, hx196_3⟩ := at_T25 (Kd.R_reads' HO_2.out).2.2 0 p196 q196
              obtain rfl : ad188 = ad196 := (by injection e196)
              have qi196 : (0 < t174.length) = True := eq_true (by omega)
              (try rw [show ((0 : Int)).toNat = 0 from rfl] at hx196_0)
              (try rw [show 0 * 4 = 0 from rfl] at hx196_0)
              (try rw [Addr.add_zero'] at hx196_0)
              (try rw [show ((0 : Int)).toNat = 0 from rfl] at hx196_1)
              (try rw [show 0 * 4 = 0 from rfl] at hx196_1)
              (try rw [Addr.add_zero'] at hx196_1)
              (try rw [show ((0 : Int)).toNat = 0 from rfl] at hx196_2)
              (try rw [show 0 * 4 = 0 from rfl] at hx196_2)
              (try rw [Addr.add_zero'] at hx196_2)
              (try rw [show ((0 : Int)).toNat = 0 from rfl] at hx196_3)
              (try rw [show 0 * 4 = 0 from rfl] at hx196_3)
              (try rw [Addr.add_zero'] at hx196_3)
              replace p196 := eq_true p196
              replace q196 := eq_true q196
              obtain ⟨Ao41, co41, eo41⟩ := Kd.R_slice HO_4.out
              subst eo41
              have p197 : 0 ≤ (0 : Int) := (by omega)
              have q197 : 0 < (t182.length : Int) := of_decide_eq_true (by first | (with_reducible assumption) | assumption)
              obtain ⟨ad197, e197, hx197_0, hx197_1, hx197_2, hx197_3⟩ := at_T25 (Kd.R_reads' HO_4.out).2.2 0 p197 q197
              cases e197
              have qi197 : (0 < t182.length) = True := eq_true (by omega)
              (try rw [show ((0 : Int)).toNat = 0 from rfl] at hx197_0)
              (try rw [show 0 * 4 = 0 from rfl] at hx197_0)
              (try rw [Addr.add_zero'] at hx197_0)
              (try rw [show ((0 : Int)).toNat = 0 from rfl] at hx197_1)
              (try rw [show 0 * 4 = 0 from rfl] at hx197_1)
              (try rw [Addr.add_zero'] at hx197_1)
              (try rw [show ((0 : Int)).toNat = 0 from rfl] at hx197_2)
              (try rw [show 0 * 4 = 0 from rfl] at hx197_2)
              (try rw [Addr.add_zero'] at hx197_2)
              (try rw [show ((0 : Int)).toNat = 0 from rfl] at hx197_3)
              (try rw [show 0 * 4 = 0 from rfl] at hx197_3)
              (try rw [Addr.add_zero'] at hx197_3)
              replace p197 := eq_true p197
              replace q197 := eq_true q197
              obtain ⟨Ao42, co42, eo42⟩ := Kd.R_slice HO195.out
              subst eo42
              have p198 : 0 ≤ (0 : Int) := (by omega)
              have q198 : 0 < (y167.length : Int) := of_decide_eq_true (by first | (with_reducible assumption) | assumption)
              obtain ⟨ad198, e198, hx198_0, hx198_1, hx198_2, hx198_3⟩ := at_T25 (Kd.R_reads' HO_1.out).2.2 0 p198 q198
              obtain rfl : ad189 = ad198 := (by injection e198)
              have qi198 : (0 < y167.length) = True := eq_true (by omega)
              (try rw [show ((0 : Int)).toNat = 0 from rfl] at hx198_0)
              (try rw [show 0 * 4 = 0 from rfl] at hx198_0)
              (try rw [Addr.add_zero'] at hx198_0)
              (try rw [show ((0 : Int)).toNat = 0 from rfl] at hx198_1)
              (try rw [show 0 * 4 = 0 from rfl] at hx198_1)
              (try rw [Addr.add_zero'] at hx198_1)
              (try rw [show ((0 : Int)).toNat = 0 from rfl] at hx198_2)
              (try rw [show 0 * 4 = 0 from rfl] at hx198_2)
              (try rw [Addr.add_zero'] at hx198_2)
              (try rw [show ((0 : Int)).toNat = 0 from rfl] at hx198_3)
              (try rw [show 0 * 4 = 0 from rfl] at hx198_3)
              (try rw [Addr.add_zero'] at hx198_3)
              replace p198 := eq_true p198
              replace q198 := eq_true q198
              try go_wp2_with (first | (go_at_call 21; (with_reducible refine (cool_IsCool.calls _ _ y167 ((rd_T25 y167 0).f0.f0) ((rd_T25 y167 0).f0.f1) ((rd_T25 y167 0).f0.f2) 29 true _ ?side1 ?side2 A32.out).mono ?_); (case side1 => repeat (first | exact (Kd.R_reads' HO_1.out).2.2 | (with_reducible refine Kd.C_alloc ?_ _) | (with_reducible refine Kd.C_drewN ?_ _) | (with_reducible refine Kd.C_drew ?_))); (case side2 => exact (Kd.R_reads' HO_1.out).2.1); rintro e w43 ⟨rfl, hb⟩; have n0_ := Aside0.mk (Kd.R_below (by (with_reducible repeat (first | apply Kd.R_alloc | apply Kd.R_drewN | apply Kd.R_drew)); exact HO_1.out) hb); have n1_ := Aside0.mk (Kd.R_below (by (with_reducible repeat (first | apply Kd.R_alloc | apply Kd.R_drewN | apply Kd.R_drew)); exact HO_2.out) hb); have n2_ := Aside0.mk (Kd.R_below (by (with_reducible repeat (first | apply Kd.R_alloc | apply Kd.R_drewN | apply Kd.R_drew)); exact HO_4.out) hb); have n3_ := Aside0.mk (Kd.R_below (by (with_reducible repeat (first | apply Kd.R_alloc | apply Kd.R_drewN | apply Kd.R_drew)); exact HO192.out) hb); have n4_ := Aside0.mk (Kd.R_below (by (with_reducible repeat (first | apply Kd.R_alloc | apply Kd.R_drewN | apply Kd.R_drew)); exact HO195.out) hb); have n5_ := Aside0.mk (below_step (by repeat (first | (with_reducible first | exact HB.out | apply below_alloc | apply pw_below_drewN | apply below_drew1) | exact HB.out)) hb); clear HO_1; clear HO_2; clear HO_4; clear HO192; clear HO195; clear HB; have HO_1 := n0_; have HO_2 := n1_; have HO_4 := n2_; have HO192 := n3_; have HO195 := n4_; have HB := n5_; clear n0_ n1_ n2_ n3_ n4_ n5_; (try clear hb); (try clear hb2); (try clear hk); (try clear hi); have p200 : 0 ≤ (0 : Int) := (by omega); have q200 : 0 < (y167.length : Int) := of_decide_eq_true (by first | (with_reducible assumption) | assumption); obtain ⟨ad200, e200, hx200_0, hx200_1, hx200_2, hx200_3⟩ := at_T25 (Kd.R_reads' HO_1.out).2.2 0 p200 q200; obtain rfl : ad189 = ad200 := (by injection e200); have qi200 : (0 < y167.length) = True := eq_true (by omega); (try rw [show ((0 : Int)).toNat = 0 from rfl] at hx200_0); (try rw [show 0 * 4 = 0 from rfl] at hx200_0); (try rw [Addr.add_zero'] at hx200_0); (try rw [show ((0 : Int)).toNat = 0 from rfl] at hx200_1); (try rw [show 0 * 4 = 0 from rfl] at hx200_1); (try rw [Addr.add_zero'] at hx200_1); (try rw [show ((0 : Int)).toNat = 0 from rfl] at hx200_2); (try rw [show 0 * 4 = 0 from rfl] at hx200_2); (try rw [Addr.add_zero'] at hx200_2); (try rw [show ((0 : Int)).toNat = 0 from rfl] at hx200_3); (try rw [show 0 * 4 = 0 from rfl] at hx200_3); (try rw [Addr.add_zero'] at hx200_3); replace p200 := eq_true p200; replace q200 := eq_true q200) | (go_at_call 21; (with_reducible refine (cool_IsCool.calls _ _ y167 ((rd_T25 y167 0).f0.f0) ((rd_T25 y167 0).f0.f1) ((rd_T25 y167 0).f0.f2) 30 true _ ?side1 ?side2 A34.out).mono ?_); (case side1 => repeat (first | exact (Kd.R_reads' HO_1.out).2.2 | (with_reducible refine Kd.C_alloc ?_ _) | (with_reducible refine Kd.C_drewN ?_ _) | (with_reducible refine Kd.C_drew ?_))); (case side2 => exact (Kd.R_reads' HO_1.out).2.1); rintro e w44 ⟨rfl, hb⟩; have n0_ := Aside0.mk (Kd.R_below (by (with_reducible repeat (first | apply Kd.R_alloc | apply Kd.R_drewN | apply Kd.R_drew)); exact HO_1.out) hb); have n1_ := Aside0.mk (Kd.R_below (by (with_reducible repeat (first | apply Kd.R_alloc | apply Kd.R_drewN | apply Kd.R_drew)); exact HO_2.out) hb); have n2_ := Aside0.mk (Kd.R_below (by (with_reducible repeat (first | apply Kd.R_alloc | apply Kd.R_drewN | apply Kd.R_drew)); exact HO_4.out) hb); have n3_ := Aside0.mk (Kd.R_below (by (with_reducible repeat (first | apply Kd.R_alloc | apply Kd.R_drewN | apply Kd.R_drew)); exact HO192.out) hb); have n4_ := Aside0.mk (Kd.R_below (by (with_reducible repeat (first | apply Kd.R_alloc | apply Kd.R_drewN | apply Kd.R_drew)); exact HO195.out) hb); have n5_ := Aside0.mk (below_step (by repeat (first | (with_reducible first | exact HB.out | apply below_alloc | apply pw_below_drewN | apply below_drew1) | exact HB.out)) hb); clear HO_1; clear HO_2; clear HO_4; clear HO192; clear HO195; clear HB; have HO_1 := n0_; have HO_2 := n1_; have HO_4 := n2_; have HO192 := n3_; have HO195 := n4_; have HB := n5_; clear n0_ n1_ n2_ n3_ n4_ n5_; (try clear hb); (try clear hb2); (try clear hk); (try clear hi)))
              go_ret
              exact ⟨by first | rfl | (simp [errW_none, errW_some] <;> rfl) | (simp [*, errW_none, errW_some] <;> rfl), by repeat (first | (with_reducible first | exact HB.out | apply below_alloc | apply pw_below_drewN | apply below_drew1) | exact HB.out)⟩
             ·replace c35 := Bool.eq_false_iff.mpr c35
              subst c35
              have H1 : ((cool_Clean.f t174 5).bind fun t202 => (if (t202.length : Int) = 1 then ((cool_Check.f kj6 t174).bind fun t205 => (some (t205 == 0))) else (some false))) = some r := by rw [if_neg (show ¬ (false = true) by decide)] at H; exact H
              clear H
              have H := H1
              clear H1
              replace H := Option.bind_eq_some_iff.mp H
              obtain ⟨t202, A450, H⟩ := H
              replace H : (if (t202.length : Int) = 1 then ((cool_Check.f kj6 t174).bind fun t205 => (some (t205 == 0))) else (some false)) = some r := H
              have A45 := Aside0.mk A450
              clear A450
              by_cases c46 : (t202.length : Int) = 1
              ·rw [if_pos c46] at H
               have c46b0 : ((t202.length : Int) == 1) = true := beq_iff_eq.mpr c46
               have c46b1 : ((t202.length : Int) != 1) = false := bne_eq_false_iff_eq.mpr c46
               clear c46
               replace H := Option.bind_eq_some_iff.mp H
               obtain ⟨t205, A470, H⟩ := H
               replace H : (some (t205 == 0)) = some r := H
               have A47 := Aside0.mk A470
               clear A470
               obtain rfl := Option.some.inj H
               try go_wp2
               have n0_ := Aside0.mk (Kd.R_drew HO_1.out)
               have n1_ := Aside0.mk (Kd.R_drew HO_2.out)
               have n2_ := Aside0.mk (Kd.R_drew HO_4.out)
               have n3_ := Aside0.mk (below_drew1 HB.out)
               clear HO_1
               clear HO_2
               clear HO_4
               clear HB
               have HO_1 := n0_
               have HO_2 := n1_
               have HO_4 := n2_
               have HB := n3_
               clear n0_ n1_ n2_ n3_
               have p188 : 0 ≤ (0 : Int) := (by omega)
               have q188 : 0 < (t174.length : Int) := of_decide_eq_true (by first | (with_reducible assumption) | assumption)
               obtain ⟨ad188, e188, hx188_0, hx188_1, hx188_2, hx188_3⟩ := at_T25 (Kd.R_reads' HO_2.out).2.2 0 p188 q188
               cases e188
               have qi188 : (0 < t174.length) = True := eq_true (by omega)
               (try rw [show ((0 : Int)).toNat = 0 from rfl] at hx188_0)
               (try rw [show 0 * 4 = 0 from rfl] at hx188_0)
               (try rw [Addr.add_zero'] at hx188_0)
               (try rw [show ((0 : Int)).toNat = 0 from rfl] at hx188_1)
               (try rw [show 0 * 4 = 0 from rfl] at hx188_1)
               (try rw [Addr.add_zero'] at hx188_1)
               (try rw [show ((0 : Int)).toNat = 0 from rfl] at hx188_2)
               (try rw [show 0 * 4 = 0 from rfl] at hx188_2)
               (try rw [Addr.add_zero'] at hx188_2)
               (try rw [show ((0 : Int)).toNat = 0 from rfl] at hx188_3)
               (try rw [show 0 * 4 = 0 from rfl] at hx188_3)
               (try rw [Addr.add_zero'] at hx188_3)
               replace p188 := eq_true p188
               replace q188 := eq_true q188
               have p189 : 0 ≤ (0 : Int) := (by omega)
               have q189 : 0 < (y167.length : Int) := of_decide_eq_true (by first | (with_reducible assumption) | assumption)
               obtain ⟨ad189, e189, hx189_0, hx189_1, hx189_2, hx189_3⟩ := at_T25 (Kd.R_reads' HO_1.out).2.2 0 p189 q189
               cases e189
               have qi189 : (0 < y167.length) = True := eq_true (by omega)
               (try rw [show ((0 : Int)).toNat = 0 from rfl] at hx189_0)
               (try rw [show 0 * 4 = 0 from rfl] at hx189_0)
               (try rw [Addr.add_zero'] at hx189_0)
               (try rw [show ((0 : Int)).toNat = 0 from rfl] at hx189_1)
               (try rw [show 0 * 4 = 0 from rfl] at hx189_1)
               (try rw [Addr.add_zero'] at hx189_1)
               (try rw [show ((0 : Int)).toNat = 0 from rfl] at hx189_2)
               (try rw [show 0 * 4 = 0 from rfl] at hx189_2)
               (try rw [Addr.add_zero'] at hx189_2)
               (try rw [show ((0 : Int)).toNat = 0 from rfl] at hx189_3)
               (try rw [show 0 * 4 = 0 from rfl] at hx189_3)
               (try rw [Addr.add_zero'] at hx189_3)
               replace p189 := eq_true p189
               replace q189 := eq_true q189
               refine start_ (n := 12) (S := fun w' => w'.cell? ad188 = some (.string ((rd_T25 t174 0).f0.f0)) ∧ w'.cell? ⟨ad188.block, ad188.off + 1, none⟩ = some (.string ((rd_T25 t174 0).f0.f1)) ∧ w'.cell? ⟨ad188.block, ad188.off + 2, none⟩ = some (.string ((rd_T25 t174 0).f0.f2)) ∧ w'.cell? ⟨ad188.block, ad188.off + 3, none⟩ = some (.int .i64 ((rd_T25 t174 0).f1)) ∧ w'.cell? ad189 = some (.string ((rd_T25 y167 0).f0.f0)) ∧ w'.cell? ⟨ad189.block, ad189.off + 1, none⟩ = some (.string ((rd_T25 y167 0).f0.f1)) ∧ w'.cell? ⟨ad189.block, ad189.off + 2, none⟩ = some (.string ((rd_T25 y167 0).f0.f2)) ∧ w'.cell? ⟨ad189.block, ad189.off + 3, none⟩ = some (.int .i64 ((rd_T25 y167 0).f1))) (ds := []) (tf 0 12) (by kernel_rfl) rfl rfl ⟨hx188_0, hx188_1, hx188_2, hx188_3, hx189_0, hx189_1, hx189_2, hx189_3⟩ (fun hHeld => ?_); refine with_tabW sutlerlaw07_live.tab7 sutlerlaw07_live.bits7 (fun HT_ HW_ => ?_)
               generalize wc.drew = w48 at HO_1 HO_2 HO_4 HB hx188_0 hx188_1 hx188_2 hx188_3 hx189_0 hx189_1 hx189_2 hx189_3 hHeld ⊢
               refine pure_ (i := 0) (N := some 44) (v := ?_) (a' := ?_) (tf 1 11) rfl rfl (any_of HT_.out (by kernel_rfl)) (fun _ _ _ h => h) (Or.inl ⟨by rfl, ?_⟩) ?_ ?_
               rotate_left
               ·intro w'
                go_simp
                with_reducible rfl
               rotate_left
               ·simp only [Act.put, List.setIfInBounds_toArray, List.set_cons_zero, List.set_cons_succ, i64_w, i32_w]
                rfl
               refine pure_ (i := 1) (N := some 45) (v := ?_) (a' := ?_) (tf 2 10) rfl rfl (any_of HT_.out (by kernel_rfl)) (fun _ _ _ h => h) (Or.inl ⟨by rfl, ?_⟩) ?_ ?_
               rotate_left
               ·intro w'
                go_simp
                with_reducible rfl
               rotate_left
               ·simp only [Act.put, List.setIfInBounds_toArray, List.set_cons_zero, List.set_cons_succ, i64_w, i32_w]
                rfl
               refine pure_ (i := 2) (N := some 46) (v := ?_) (a' := ?_) (tf 3 9) rfl rfl (any_of HT_.out (by kernel_rfl)) (fun _ _ _ h => h) (Or.inl ⟨by rfl, ?_⟩) ?_ ?_
               rotate_left
               ·intro w'
                go_simp
                with_reducible rfl
               rotate_left
               ·simp only [Act.put, List.setIfInBounds_toArray, List.set_cons_zero, List.set_cons_succ, i64_w, i32_w]
                rfl
               refine pure_ (i := 3) (N := some 47) (v := ?_) (a' := ?_) (tf 4 8) rfl rfl (any_of HT_.out (by kernel_rfl)) (fun _ _ _ h => h) (Or.inl ⟨by rfl, ?_⟩) ?_ ?_
               rotate_left
               ·intro w'
                go_simp
                with_reducible rfl
               rotate_left
               ·simp only [Act.put, List.setIfInBounds_toArray, List.set_cons_zero, List.set_cons_succ, i64_w, i32_w]
                rfl
               refine pure_ (i := 5) (N := some 49) (v := ?_) (a' := ?_) #[true, true, true, true, false, true, false, false, false, false, false, false] rfl rfl (any_of HT_.out (by kernel_rfl)) (fun _ _ _ h => h) (Or.inl ⟨by rfl, ?_⟩) ?_ ?_
               rotate_left
               ·intro w'
                go_simp
                with_reducible rfl
               rotate_left
               ·simp only [Act.put, List.setIfInBounds_toArray, List.set_cons_zero, List.set_cons_succ, i64_w, i32_w]
                rfl
               refine pure_ (i := 6) (N := some 50) (v := ?_) (a' := ?_) #[true, true, true, true, false, true, true, false, false, false, false, false] rfl rfl (any_of HT_.out (by kernel_rfl)) (fun _ _ _ h => h) (Or.inl ⟨by rfl, ?_⟩) ?_ ?_
               rotate_left
               ·intro w'
                go_simp
                with_reducible rfl
               rotate_left
               ·simp only [Act.put, List.setIfInBounds_toArray, List.set_cons_zero, List.set_cons_succ, i64_w, i32_w]
                rfl
               refine pure_ (i := 7) (N := some 51) (v := ?_) (a' := ?_) #[true, true, true, true, false, true, true, true, false, false, false, false] rfl rfl (any_of HT_.out (by kernel_rfl)) (fun _ _ _ h => h) (Or.inl ⟨by rfl, ?_⟩) ?_ ?_
               rotate_left
               ·intro w'
                go_simp
                with_reducible rfl
               rotate_left
               ·simp only [Act.put, List.setIfInBounds_toArray, List.set_cons_zero, List.set_cons_succ, i64_w, i32_w]
                rfl
               refine take_ (i := 4) (N := some 48) (v := ?_) (a' := ?_) (tf 8 4) rfl rfl (take_ofW HT_.out HW_.out (by kernel_rfl)) (fun _ _ _ h => h) (Or.inl ⟨by rfl, ?_⟩) hHeld ?_ ?_
               rotate_left
               ·rintro w' ⟨s0, s1, s2, s3, s4, s5, s6, s7⟩
                go_simp
                with_reducible rfl
               rotate_left
               ·simp only [Act.put, List.setIfInBounds_toArray, List.set_cons_zero, List.set_cons_succ, i64_w, i32_w]
                rfl
               refine take_ (i := 8) (N := some 52) (v := ?_) (a' := ?_) (tf 9 3) rfl rfl (take_ofW HT_.out HW_.out (by kernel_rfl)) (fun _ _ _ h => h) (Or.inl ⟨by rfl, ?_⟩) hHeld ?_ ?_
               rotate_left
               ·rintro w' ⟨s0, s1, s2, s3, s4, s5, s6, s7⟩
                go_simp
                with_reducible rfl
               rotate_left
               ·simp only [Act.put, List.setIfInBounds_toArray, List.set_cons_zero, List.set_cons_succ, i64_w, i32_w]
                rfl
               refine one_ (i := 9) (N := some 53) (tf 10 2) rfl rfl (one_of HT_.out (by kernel_rfl)) (by decide) (fun K hK => ?_)
               refine Kd.R_lit_step k23 _ 23 ?hg (N := 53) ?hd (xs := ([(⟨(rd_T25 t174 0).f0.f0, (rd_T25 t174 0).f0.f1, (rd_T25 t174 0).f0.f2⟩ : S23), (⟨(rd_T25 y167 0).f0.f0, (rd_T25 y167 0).f0.f1, (rd_T25 y167 0).f0.f2⟩ : S23)] : List (S23))) (inner := [.string ((rd_T25 t174 0).f0.f0), .string ((rd_T25 t174 0).f0.f1), .string ((rd_T25 t174 0).f0.f2), .string ((rd_T25 y167 0).f0.f0), .string ((rd_T25 y167 0).f0.f1), .string ((rd_T25 y167 0).f0.f2)]) (ok := fun _ => True) (okp := fun _ => True) ?hr ?hp (fun _ hk => hk) trivial (Below.refl _ _) (Nat.le_refl _) (by simp) ?_; (case hd => rfl); (case hg => rfl); (case hr => first | (go_simp; done) | (go_simp; rfl)); (case hp => exact (Reps.c3 (show Kd.M k23 _ _ _ (⟨(rd_T25 t174 0).f0.f0, (rd_T25 t174 0).f0.f1, (rd_T25 t174 0).f0.f2⟩ : S23) [.string ((rd_T25 t174 0).f0.f0), .string ((rd_T25 t174 0).f0.f1), .string ((rd_T25 t174 0).f0.f2)] from (k23_mkM _ _ _ (⟨(rd_T25 t174 0).f0.f0, (rd_T25 t174 0).f0.f1, (rd_T25 t174 0).f0.f2⟩ : S23) )) (Reps.c3 (show Kd.M k23 _ _ _ (⟨(rd_T25 y167 0).f0.f0, (rd_T25 y167 0).f0.f1, (rd_T25 y167 0).f0.f2⟩ : S23) [.string ((rd_T25 y167 0).f0.f0), .string ((rd_T25 y167 0).f0.f1), .string ((rd_T25 y167 0).f0.f2)] from (k23_mkM _ _ _ (⟨(rd_T25 y167 0).f0.f0, (rd_T25 y167 0).f0.f1, (rd_T25 y167 0).f0.f2⟩ : S23) )) (Reps.none _ _))))
               intro v191 w49 ho50 hb hg_ hnew_
               have HS0_ := (hb.cell (World.block_lt_of_cell? _ _ (hHeld.1))).trans (hHeld.1)
               have HS1_ := (hb.cell (World.block_lt_of_cell? _ _ (hHeld.2.1))).trans (hHeld.2.1)
               have HS2_ := (hb.cell (World.block_lt_of_cell? _ _ (hHeld.2.2.1))).trans (hHeld.2.2.1)
               have HS3_ := (hb.cell (World.block_lt_of_cell? _ _ (hHeld.2.2.2.1))).trans (hHeld.2.2.2.1)
               have HS4_ := (hb.cell (World.block_lt_of_cell? _ _ (hHeld.2.2.2.2.1))).trans (hHeld.2.2.2.2.1)
               have HS5_ := (hb.cell (World.block_lt_of_cell? _ _ (hHeld.2.2.2.2.2.1))).trans (hHeld.2.2.2.2.2.1)
               have HS6_ := (hb.cell (World.block_lt_of_cell? _ _ (hHeld.2.2.2.2.2.2.1))).trans (hHeld.2.2.2.2.2.2.1)
               have HS7_ := (hb.cell (World.block_lt_of_cell? _ _ (hHeld.2.2.2.2.2.2.2))).trans (hHeld.2.2.2.2.2.2.2)
               clear hg_ hnew_
               (first | rw [← Ny190.out] at ho50 | (simp only [Int.reduceToNat] at ho50; rw [← Ny190.out] at ho50))
               have n0_ := Aside0.mk (Kd.R_below (by (with_reducible repeat (first | apply Kd.R_alloc | apply Kd.R_drewN | apply Kd.R_drew)); exact HO_1.out) hb)
               have n1_ := Aside0.mk (Kd.R_below (by (with_reducible repeat (first | apply Kd.R_alloc | apply Kd.R_drewN | apply Kd.R_drew)); exact HO_2.out) hb)
               have n2_ := Aside0.mk (Kd.R_below (by (with_reducible repeat (first | apply Kd.R_alloc | apply Kd.R_drewN | apply Kd.R_drew)); exact HO_4.out) hb)
               have n3_ := Aside0.mk (Kd.R_lower ho50 (below_size (by repeat (first | (with_reducible first | exact HB.out | apply below_alloc | apply pw_below_drewN | apply below_drew1) | exact HB.out))))
               have n4_ := Aside0.mk (below_step (by repeat (first | (with_reducible first | exact HB.out | apply below_alloc | apply pw_below_drewN | apply below_drew1) | exact HB.out)) hb)
               clear HO_1
               clear HO_2
               clear HO_4
               clear HB
               have HO_1 := n0_
               have HO_2 := n1_
               have HO_4 := n2_
               have HO192 := n3_
               have HB := n4_
               clear n0_ n1_ n2_ n3_ n4_
               clear hb ho50
               obtain ⟨Ao51, co51, eo51⟩ := Kd.R_slice HO192.out
               (first | subst eo51 | (injection eo51 with f1_ f2_ f3_; have f4_ := f1_.symm; have f5_ := f3_.symm; clear f1_ f2_ f3_; subst f4_; subst f5_))
               refine hK.out _ _ ⟨HS0_, HS1_, HS2_, HS3_, HS4_, HS5_, HS6_, HS7_⟩ (fun hHeld => ?_)
               clear hK K
               refine norm_ (a' := ?_) ?_ ?_
               rotate_left
               ·show Act.put _ (some 53) _ = _
                simp only [Act.put, List.setIfInBounds_toArray, List.set_cons_zero, List.set_cons_succ, i64_w, i32_w]
                rfl
               refine one_ (i := 10) (N := some 54) (tf 11 1) rfl rfl (one_of HT_.out (by kernel_rfl)) (by decide) (fun K hK => ?_)
               refine goes_ Try.func15 (by kernel_rfl) rfl #[.slice (some ad189) y167.length co12, .slice Ao51 y190.length co51, .int .i64 10] (by rfl) rfl rfl (by (try simp only [List.map_toArray, List.map_cons, List.map_nil]); first | done | rfl | (simp only [List.length_drop, List.length_take]; rfl)) ?_
               with_reducible refine (cool_Left.calls _ _ y167 _ _ y190 10 t193 _ ?side1 ?side2 ?side3 ?side4 A25.out).mono ?_
               (case side1 => repeat (first | exact (Kd.R_reads' HO_1.out).2.2 | (with_reducible refine Kd.C_alloc ?_ _) | (with_reducible refine Kd.C_drewN ?_ _) | (with_reducible refine Kd.C_drew ?_)))
               (case side2 => exact (Kd.R_reads' HO_1.out).2.1)
               (case side3 => repeat (first | exact (Kd.R_reads' HO192.out).2.2 | (with_reducible refine Kd.C_alloc ?_ _) | (with_reducible refine Kd.C_drewN ?_ _) | (with_reducible refine Kd.C_drew ?_)))
               (case side4 => exact (Kd.R_reads' HO192.out).2.1)
               rintro e w52 ⟨v194, rfl, ho0, hb⟩
               have HS0_ := (hb.cell (World.block_lt_of_cell? _ _ (hHeld.1))).trans (hHeld.1)
               have HS1_ := (hb.cell (World.block_lt_of_cell? _ _ (hHeld.2.1))).trans (hHeld.2.1)
               have HS2_ := (hb.cell (World.block_lt_of_cell? _ _ (hHeld.2.2.1))).trans (hHeld.2.2.1)
               have HS3_ := (hb.cell (World.block_lt_of_cell? _ _ (hHeld.2.2.2.1))).trans (hHeld.2.2.2.1)
               have HS4_ := (hb.cell (World.block_lt_of_cell? _ _ (hHeld.2.2.2.2.1))).trans (hHeld.2.2.2.2.1)
               have HS5_ := (hb.cell (World.block_lt_of_cell? _ _ (hHeld.2.2.2.2.2.1))).trans (hHeld.2.2.2.2.2.1)
               have HS6_ := (hb.cell (World.block_lt_of_cell? _ _ (hHeld.2.2.2.2.2.2.1))).trans (hHeld.2.2.2.2.2.2.1)
               have HS7_ := (hb.cell (World.block_lt_of_cell? _ _ (hHeld.2.2.2.2.2.2.2))).trans (hHeld.2.2.2.2.2.2.2)
               refine ⟨_, rfl, ?_⟩
               have n0_ := Aside0.mk (Kd.R_below (by (with_reducible repeat (first | apply Kd.R_alloc | apply Kd.R_drewN | apply Kd.R_drew)); exact HO_1.out) hb)
               have n1_ := Aside0.mk (Kd.R_below (by (with_reducible repeat (first | apply Kd.R_alloc | apply Kd.R_drewN | apply Kd.R_drew)); exact HO_2.out) hb)
               have n2_ := Aside0.mk (Kd.R_below (by (with_reducible repeat (first | apply Kd.R_alloc | apply Kd.R_drewN | apply Kd.R_drew)); exact HO_4.out) hb)
               have n3_ := Aside0.mk (Kd.R_elder' (by (with_reducible repeat (first | apply Kd.R_alloc | apply Kd.R_drewN | apply Kd.R_drew)); exact HO192.out) (Kd.R_base ho0) hb)
               have n4_ := Aside0.mk (Kd.R_lower (Kd.R_new' ho0 (Kd.R_lt (by (with_reducible repeat (first | apply Kd.R_alloc | apply Kd.R_drewN | apply Kd.R_drew)); exact HO192.out))) (below_size (by repeat (first | (with_reducible first | exact HB.out | apply below_alloc | apply pw_below_drewN | apply below_drew1) | exact HB.out))))
               have n5_ := Aside0.mk (below_step (by repeat (first | (with_reducible first | exact HB.out | apply below_alloc | apply pw_below_drewN | apply below_drew1) | exact HB.out)) hb)
               clear HO_1
               clear HO_2
               clear HO_4
               clear HO192
               clear HB
               have HO_1 := n0_
               have HO_2 := n1_
               have HO_4 := n2_
               have HO192 := n3_
               have HO195 := n4_
               have HB := n5_
               clear n0_ n1_ n2_ n3_ n4_ n5_
               (try clear hb)
               (try clear hb2)
               (try clear hk)
               (try clear hi)
               (try clear ho0)
               refine hK.out _ _ ⟨HS0_, HS1_, HS2_, HS3_, HS4_, HS5_, HS6_, HS7_⟩ (fun hHeld => ?_)
               clear hK K
               refine norm_ (a' := ?_) ?_ ?_
               rotate_left
               ·show Act.put _ (some 54) _ = _
                simp only [Act.put, List.setIfInBounds_toArray, List.set_cons_zero, List.set_cons_succ, i64_w, i32_w]
                rfl
               refine pure_ (i := 11) (N := some 8) (v := ?_) (a' := ?_) (tf 12 0) rfl rfl (any_of HT_.out (by kernel_rfl)) (fun _ _ _ h => h) (Or.inl ⟨by rfl, ?_⟩) ?_ ?_
               rotate_left
               ·intro w'
                go_simp
                with_reducible rfl
               rotate_left
               ·simp only [Act.put, List.setIfInBounds_toArray, List.set_cons_zero, List.set_cons_succ, i64_w, i32_w]
                rfl
               refine done_ (done_of HT_.out (by kernel_rfl)) ?_
               have p196 : 0 ≤ (0 : Int) := (by omega)
               have q196 : 0 < (t174.length : Int) := of_decide_eq_true (by first | (with_reducible assumption) | assumption)
               obtain ⟨ad196, e196, hx196_0, hx196_1, hx196_2, hx196_3⟩ := at_T25 (Kd.R_reads' HO_2.out).2.2 0 p196 q196
               obtain rfl : ad188 = ad196 := (by injection e196)
               have qi196 : (0 < t174.length) = True := eq_true (by omega)
               (try rw [show ((0 : Int)).toNat = 0 from rfl] at hx196_0)
               (try rw [show 0 * 4 = 0 from rfl] at hx196_0)
               (try rw [Addr.add_zero'] at hx196_0)
               (try rw [show ((0 : Int)).toNat = 0 from rfl] at hx196_1)
               (try rw [show 0 * 4 = 0 from rfl] at hx196_1)
               (try rw [Addr.add_zero'] at hx196_1)
               (try rw [show ((0 : Int)).toNat = 0 from rfl] at hx196_2)
               (try rw [show 0 * 4 = 0 from rfl] at hx196_2)
               (try rw [Addr.add_zero'] at hx196_2)
               (try rw [show ((0 : Int)).toNat = 0 from rfl] at hx196_3)
               (try rw [show 0 * 4 = 0 from rfl] at hx196_3)
               (try rw [Addr.add_zero'] at hx196_3)
               replace p196 := eq_true p196
               replace q196 := eq_true q196
               obtain ⟨Ao53, co53, eo53⟩ := Kd.R_slice HO_4.out
               subst eo53
               have p197 : 0 ≤ (0 : Int) := (by omega)
               have q197 : 0 < (t182.length : Int) := of_decide_eq_true (by first | (with_reducible assumption) | assumption)
               obtain ⟨ad197, e197, hx197_0, hx197_1, hx197_2, hx197_3⟩ := at_T25 (Kd.R_reads' HO_4.out).2.2 0 p197 q197
               cases e197
               have qi197 : (0 < t182.length) = True := eq_true (by omega)
               (try rw [show ((0 : Int)).toNat = 0 from rfl] at hx197_0)
               (try rw [show 0 * 4 = 0 from rfl] at hx197_0)
               (try rw [Addr.add_zero'] at hx197_0)
               (try rw [show ((0 : Int)).toNat = 0 from rfl] at hx197_1)
               (try rw [show 0 * 4 = 0 from rfl] at hx197_1)
               (try rw [Addr.add_zero'] at hx197_1)
               (try rw [show ((0 : Int)).toNat = 0 from rfl] at hx197_2)
               (try rw [show 0 * 4 = 0 from rfl] at hx197_2)
               (try rw [Addr.add_zero'] at hx197_2)
               (try rw [show ((0 : Int)).toNat = 0 from rfl] at hx197_3)
               (try rw [show 0 * 4 = 0 from rfl] at hx197_3)
               (try rw [Addr.add_zero'] at hx197_3)
               replace p197 := eq_true p197
               replace q197 := eq_true q197
               obtain ⟨Ao54, co54, eo54⟩ := Kd.R_slice HO195.out
               subst eo54
               have p198 : 0 ≤ (0 : Int) := (by omega)
               have q198 : 0 < (y167.length : Int) := of_decide_eq_true (by first | (with_reducible assumption) | assumption)
               obtain ⟨ad198, e198, hx198_0, hx198_1, hx198_2, hx198_3⟩ := at_T25 (Kd.R_reads' HO_1.out).2.2 0 p198 q198
               obtain rfl : ad189 = ad198 := (by injection e198)
               have qi198 : (0 < y167.length) = True := eq_true (by omega)
               (try rw [show ((0 : Int)).toNat = 0 from rfl] at hx198_0)
               (try rw [show 0 * 4 = 0 from rfl] at hx198_0)
               (try rw [Addr.add_zero'] at hx198_0)
               (try rw [show ((0 : Int)).toNat = 0 from rfl] at hx198_1)
               (try rw [show 0 * 4 = 0 from rfl] at hx198_1)
               (try rw [Addr.add_zero'] at hx198_1)
               (try rw [show ((0 : Int)).toNat = 0 from rfl] at hx198_2)
               (try rw [show 0 * 4 = 0 from rfl] at hx198_2)
               (try rw [Addr.add_zero'] at hx198_2)
               (try rw [show ((0 : Int)).toNat = 0 from rfl] at hx198_3)
               (try rw [show 0 * 4 = 0 from rfl] at hx198_3)
               (try rw [Addr.add_zero'] at hx198_3)
               replace p198 := eq_true p198
               replace q198 := eq_true q198
               try go_wp2_with (first | (go_at_call 21; (with_reducible refine (cool_IsCool.calls _ _ y167 ((rd_T25 y167 0).f0.f0) ((rd_T25 y167 0).f0.f1) ((rd_T25 y167 0).f0.f2) 29 true _ ?side1 ?side2 A32.out).mono ?_); (case side1 => repeat (first | exact (Kd.R_reads' HO_1.out).2.2 | (with_reducible refine Kd.C_alloc ?_ _) | (with_reducible refine Kd.C_drewN ?_ _) | (with_reducible refine Kd.C_drew ?_))); (case side2 => exact (Kd.R_reads' HO_1.out).2.1); rintro e w55 ⟨rfl, hb⟩; have n0_ := Aside0.mk (Kd.R_below (by (with_reducible repeat (first | apply Kd.R_alloc | apply Kd.R_drewN | apply Kd.R_drew)); exact HO_1.out) hb); have n1_ := Aside0.mk (Kd.R_below (by (with_reducible repeat (first | apply Kd.R_alloc | apply Kd.R_drewN | apply Kd.R_drew)); exact HO_2.out) hb); have n2_ := Aside0.mk (Kd.R_below (by (with_reducible repeat (first | apply Kd.R_alloc | apply Kd.R_drewN | apply Kd.R_drew)); exact HO_4.out) hb); have n3_ := Aside0.mk (Kd.R_below (by (with_reducible repeat (first | apply Kd.R_alloc | apply Kd.R_drewN | apply Kd.R_drew)); exact HO192.out) hb); have n4_ := Aside0.mk (Kd.R_below (by (with_reducible repeat (first | apply Kd.R_alloc | apply Kd.R_drewN | apply Kd.R_drew)); exact HO195.out) hb); have n5_ := Aside0.mk (below_step (by repeat (first | (with_reducible first | exact HB.out | apply below_alloc | apply pw_below_drewN | apply below_drew1) | exact HB.out)) hb); clear HO_1; clear HO_2; clear HO_4; clear HO192; clear HO195; clear HB; have HO_1 := n0_; have HO_2 := n1_; have HO_4 := n2_; have HO192 := n3_; have HO195 := n4_; have HB := n5_; clear n0_ n1_ n2_ n3_ n4_ n5_; (try clear hb); (try clear hb2); (try clear hk); (try clear hi); have p200 : 0 ≤ (0 : Int) := (by omega); have q200 : 0 < (y167.length : Int) := of_decide_eq_true (by first | (with_reducible assumption) | assumption); obtain ⟨ad200, e200, hx200_0, hx200_1, hx200_2, hx200_3⟩ := at_T25 (Kd.R_reads' HO_1.out).2.2 0 p200 q200; obtain rfl : ad189 = ad200 := (by injection e200); have qi200 : (0 < y167.length) = True := eq_true (by omega); (try rw [show ((0 : Int)).toNat = 0 from rfl] at hx200_0); (try rw [show 0 * 4 = 0 from rfl] at hx200_0); (try rw [Addr.add_zero'] at hx200_0); (try rw [show ((0 : Int)).toNat = 0 from rfl] at hx200_1); (try rw [show 0 * 4 = 0 from rfl] at hx200_1); (try rw [Addr.add_zero'] at hx200_1); (try rw [show ((0 : Int)).toNat = 0 from rfl] at hx200_2); (try rw [show 0 * 4 = 0 from rfl] at hx200_2); (try rw [Addr.add_zero'] at hx200_2); (try rw [show ((0 : Int)).toNat = 0 from rfl] at hx200_3); (try rw [show 0 * 4 = 0 from rfl] at hx200_3); (try rw [Addr.add_zero'] at hx200_3); replace p200 := eq_true p200; replace q200 := eq_true q200) | (go_at_call 21; (with_reducible refine (cool_IsCool.calls _ _ y167 ((rd_T25 y167 0).f0.f0) ((rd_T25 y167 0).f0.f1) ((rd_T25 y167 0).f0.f2) 30 false _ ?side1 ?side2 A34.out).mono ?_); (case side1 => repeat (first | exact (Kd.R_reads' HO_1.out).2.2 | (with_reducible refine Kd.C_alloc ?_ _) | (with_reducible refine Kd.C_drewN ?_ _) | (with_reducible refine Kd.C_drew ?_))); (case side2 => exact (Kd.R_reads' HO_1.out).2.1); rintro e w56 ⟨rfl, hb⟩; have n0_ := Aside0.mk (Kd.R_below (by (with_reducible repeat (first | apply Kd.R_alloc | apply Kd.R_drewN | apply Kd.R_drew)); exact HO_1.out) hb); have n1_ := Aside0.mk (Kd.R_below (by (with_reducible repeat (first | apply Kd.R_alloc | apply Kd.R_drewN | apply Kd.R_drew)); exact HO_2.out) hb); have n2_ := Aside0.mk (Kd.R_below (by (with_reducible repeat (first | apply Kd.R_alloc | apply Kd.R_drewN | apply Kd.R_drew)); exact HO_4.out) hb); have n3_ := Aside0.mk (Kd.R_below (by (with_reducible repeat (first | apply Kd.R_alloc | apply Kd.R_drewN | apply Kd.R_drew)); exact HO192.out) hb); have n4_ := Aside0.mk (Kd.R_below (by (with_reducible repeat (first | apply Kd.R_alloc | apply Kd.R_drewN | apply Kd.R_drew)); exact HO195.out) hb); have n5_ := Aside0.mk (below_step (by repeat (first | (with_reducible first | exact HB.out | apply below_alloc | apply pw_below_drewN | apply below_drew1) | exact HB.out)) hb); clear HO_1; clear HO_2; clear HO_4; clear HO192; clear HO195; clear HB; have HO_1 := n0_; have HO_2 := n1_; have HO_4 := n2_; have HO192 := n3_; have HO195 := n4_; have HB := n5_; clear n0_ n1_ n2_ n3_ n4_ n5_; (try clear hb); (try clear hb2); (try clear hk); (try clear hi)) | (go_at_call 17; (with_reducible refine (cool_Clean.calls _ _ t174 5 t202 _ ?side1 ?side2 A45.out).mono ?_); (case side1 => repeat (first | exact (Kd.R_reads' HO_2.out).2.2 | (with_reducible refine Kd.C_alloc ?_ _) | (with_reducible refine Kd.C_drewN ?_ _) | (with_reducible refine Kd.C_drew ?_))); (case side2 => exact (Kd.R_reads' HO_2.out).2.1); rintro e w57 ⟨v203, rfl, ho0, hb⟩; have n0_ := Aside0.mk (Kd.R_elder' (by (with_reducible repeat (first | apply Kd.R_alloc | apply Kd.R_drewN | apply Kd.R_drew)); exact HO_1.out) (Kd.Q_base ho0) hb); have n1_ := Aside0.mk (Kd.R_elder' (by (with_reducible repeat (first | apply Kd.R_alloc | apply Kd.R_drewN | apply Kd.R_drew)); exact HO_2.out) (Kd.Q_base ho0) hb); have n2_ := Aside0.mk (Kd.R_elder' (by (with_reducible repeat (first | apply Kd.R_alloc | apply Kd.R_drewN | apply Kd.R_drew)); exact HO_4.out) (Kd.Q_base ho0) hb); have n3_ := Aside0.mk (Kd.R_below (by (with_reducible repeat (first | apply Kd.R_alloc | apply Kd.R_drewN | apply Kd.R_drew)); exact HO192.out) hb); have n4_ := Aside0.mk (Kd.R_below (by (with_reducible repeat (first | apply Kd.R_alloc | apply Kd.R_drewN | apply Kd.R_drew)); exact HO195.out) hb); have n5_ := Aside0.mk (Kd.Q_lower (Kd.Q_new' (Kd.Q_new' (Kd.Q_new' ho0 (Kd.R_lt (by (with_reducible repeat (first | apply Kd.R_alloc | apply Kd.R_drewN | apply Kd.R_drew)); exact HO_1.out))) (Kd.R_lt (by (with_reducible repeat (first | apply Kd.R_alloc | apply Kd.R_drewN | apply Kd.R_drew)); exact HO_2.out))) (Kd.R_lt (by (with_reducible repeat (first | apply Kd.R_alloc | apply Kd.R_drewN | apply Kd.R_drew)); exact HO_4.out))) (below_size (by repeat (first | (with_reducible first | exact HB.out | apply below_alloc | apply pw_below_drewN | apply below_drew1) | exact HB.out)))); have n6_ := Aside0.mk (below_step (by repeat (first | (with_reducible first | exact HB.out | apply below_alloc | apply pw_below_drewN | apply below_drew1) | exact HB.out)) hb); clear HO_1; clear HO_2; clear HO_4; clear HO192; clear HO195; clear HB; have HO_1 := n0_; have HO_2 := n1_; have HO_4 := n2_; have HO192 := n3_; have HO195 := n4_; have HO204 := n5_; have HB := n6_; clear n0_ n1_ n2_ n3_ n4_ n5_ n6_; (try clear hb); (try clear hb2); (try clear hk); (try clear hi); (try clear ho0); obtain ⟨Ao58, co58, eo58, _⟩ := Kd.Q_slice HO204.out; subst eo58) | (go_at_call 9; (with_reducible refine (cool_Check.calls kj6 _ _ t174 t205 _ ?side1 ?side2 A47.out).mono ?_); (case side1 => repeat (first | exact (Kd.R_reads' HO_2.out).2.2 | (with_reducible refine Kd.C_alloc ?_ _) | (with_reducible refine Kd.C_drewN ?_ _) | (with_reducible refine Kd.C_drew ?_))); (case side2 => exact (Kd.R_reads' HO_2.out).2.1); rintro e w59 ⟨rfl, hb⟩; have n0_ := Aside0.mk (Kd.R_below (by (with_reducible repeat (first | apply Kd.R_alloc | apply Kd.R_drewN | apply Kd.R_drew)); exact HO_1.out) hb); have n1_ := Aside0.mk (Kd.R_below (by (with_reducible repeat (first | apply Kd.R_alloc | apply Kd.R_drewN | apply Kd.R_drew)); exact HO_2.out) hb); have n2_ := Aside0.mk (Kd.R_below (by (with_reducible repeat (first | apply Kd.R_alloc | apply Kd.R_drewN | apply Kd.R_drew)); exact HO_4.out) hb); have n3_ := Aside0.mk (Kd.R_below (by (with_reducible repeat (first | apply Kd.R_alloc | apply Kd.R_drewN | apply Kd.R_drew)); exact HO192.out) hb); have n4_ := Aside0.mk (Kd.R_below (by (with_reducible repeat (first | apply Kd.R_alloc | apply Kd.R_drewN | apply Kd.R_drew)); exact HO195.out) hb); have n5_ := Aside0.mk (Kd.Q_below (by (with_reducible repeat (first | apply Kd.Q_alloc | apply Kd.Q_drewN | apply Kd.Q_drew)); exact HO204.out) hb); have n6_ := Aside0.mk (below_step (by repeat (first | (with_reducible first | exact HB.out | apply below_alloc | apply pw_below_drewN | apply below_drew1) | exact HB.out)) hb); clear HO_1; clear HO_2; clear HO_4; clear HO192; clear HO195; clear HO204; clear HB; have HO_1 := n0_; have HO_2 := n1_; have HO_4 := n2_; have HO192 := n3_; have HO195 := n4_; have HO204 := n5_; have HB := n6_; clear n0_ n1_ n2_ n3_ n4_ n5_ n6_; (try clear hb); (try clear hb2); (try clear hk); (try clear hi)))
               go_ret
               exact ⟨by first | rfl | (simp [errW_none, errW_some] <;> rfl) | (simp [*, errW_none, errW_some] <;> rfl), by repeat (first | (with_reducible first | exact HB.out | apply below_alloc | apply pw_below_drewN | apply below_drew1) | exact HB.out)⟩
              ·rw [if_neg c46] at H
               have c46b0 : ((t202.length : Int) == 1) = false := beq_eq_false_iff_ne.mpr c46
               have c46b1 : ((t202.length : Int) != 1) = true := bne_iff_ne.mpr c46
               obtain rfl := Option.some.inj H
               try go_wp2
               have n0_ := Aside0.mk (Kd.R_drew HO_1.out)
               have n1_ := Aside0.mk (Kd.R_drew HO_2.out)
               have n2_ := Aside0.mk (Kd.R_drew HO_4.out)
               have n3_ := Aside0.mk (below_drew1 HB.out)
               clear HO_1
               clear HO_2
               clear HO_4
               clear HB
               have HO_1 := n0_
               have HO_2 := n1_
               have HO_4 := n2_
               have HB := n3_
               clear n0_ n1_ n2_ n3_
               have p188 : 0 ≤ (0 : Int) := (by omega)
               have q188 : 0 < (t174.length : Int) := of_decide_eq_true (by first | (with_reducible assumption) | assumption)
               obtain ⟨ad188, e188, hx188_0, hx188_1, hx188_2, hx188_3⟩ := at_T25 (Kd.R_reads' HO_2.out).2.2 0 p188 q188
               cases e188
               have qi188 : (0 < t174.length) = True := eq_true (by omega)
               (try rw [show ((0 : Int)).toNat = 0 from rfl] at hx188_0)
               (try rw [show 0 * 4 = 0 from rfl] at hx188_0)
               (try rw [Addr.add_zero'] at hx188_0)
               (try rw [show ((0 : Int)).toNat = 0 from rfl] at hx188_1)
               (try rw [show 0 * 4 = 0 from rfl] at hx188_1)
               (try rw [Addr.add_zero'] at hx188_1)
               (try rw [show ((0 : Int)).toNat = 0 from rfl] at hx188_2)
               (try rw [show 0 * 4 = 0 from rfl] at hx188_2)
               (try rw [Addr.add_zero'] at hx188_2)
               (try rw [show ((0 : Int)).toNat = 0 from rfl] at hx188_3)
               (try rw [show 0 * 4 = 0 from rfl] at hx188_3)
               (try rw [Addr.add_zero'] at hx188_3)
               replace p188 := eq_true p188
               replace q188 := eq_true q188
               have p189 : 0 ≤ (0 : Int) := (by omega)
               have q189 : 0 < (y167.length : Int) := of_decide_eq_true (by first | (with_reducible assumption) | assumption)
               obtain ⟨ad189, e189, hx189_0, hx189_1, hx189_2, hx189_3⟩ := at_T25 (Kd.R_reads' HO_1.out).2.2 0 p189 q189
               cases e189
               have qi189 : (0 < y167.length) = True := eq_true (by omega)
               (try rw [show ((0 : Int)).toNat = 0 from rfl] at hx189_0)
               (try rw [show 0 * 4 = 0 from rfl] at hx189_0)
               (try rw [Addr.add_zero'] at hx189_0)
               (try rw [show ((0 : Int)).toNat = 0 from rfl] at hx189_1)
               (try rw [show 0 * 4 = 0 from rfl] at hx189_1)
               (try rw [Addr.add_zero'] at hx189_1)
               (try rw [show ((0 : Int)).toNat = 0 from rfl] at hx189_2)
               (try rw [show 0 * 4 = 0 from rfl] at hx189_2)
               (try rw [Addr.add_zero'] at hx189_2)
               (try rw [show ((0 : Int)).toNat = 0 from rfl] at hx189_3)
               (try rw [show 0 * 4 = 0 from rfl] at hx189_3)
               (try rw [Addr.add_zero'] at hx189_3)
               replace p189 := eq_true p189
               replace q189 := eq_true q189
               refine start_ (n := 12) (S := fun w' => w'.cell? ad188 = some (.string ((rd_T25 t174 0).f0.f0)) ∧ w'.cell? ⟨ad188.block, ad188.off + 1, none⟩ = some (.string ((rd_T25 t174 0).f0.f1)) ∧ w'.cell? ⟨ad188.block, ad188.off + 2, none⟩ = some (.string ((rd_T25 t174 0).f0.f2)) ∧ w'.cell? ⟨ad188.block, ad188.off + 3, none⟩ = some (.int .i64 ((rd_T25 t174 0).f1)) ∧ w'.cell? ad189 = some (.string ((rd_T25 y167 0).f0.f0)) ∧ w'.cell? ⟨ad189.block, ad189.off + 1, none⟩ = some (.string ((rd_T25 y167 0).f0.f1)) ∧ w'.cell? ⟨ad189.block, ad189.off + 2, none⟩ = some (.string ((rd_T25 y167 0).f0.f2)) ∧ w'.cell? ⟨ad189.block, ad189.off + 3, none⟩ = some (.int .i64 ((rd_T25 y167 0).f1))) (ds := []) (tf 0 12) (by kernel_rfl) rfl rfl ⟨hx188_0, hx188_1, hx188_2, hx188_3, hx189_0, hx189_1, hx189_2, hx189_3⟩ (fun hHeld => ?_); refine with_tabW sutlerlaw07_live.tab7 sutlerlaw07_live.bits7 (fun HT_ HW_ => ?_)
               generalize wc.drew = w60 at HO_1 HO_2 HO_4 HB hx188_0 hx188_1 hx188_2 hx188_3 hx189_0 hx189_1 hx189_2 hx189_3 hHeld ⊢
               refine pure_ (i := 0) (N := some 44) (v := ?_) (a' := ?_) (tf 1 11) rfl rfl (any_of HT_.out (by kernel_rfl)) (fun _ _ _ h => h) (Or.inl ⟨by rfl, ?_⟩) ?_ ?_
               rotate_left
               ·intro w'
                go_simp
                with_reducible rfl
               rotate_left
               ·simp only [Act.put, List.setIfInBounds_toArray, List.set_cons_zero, List.set_cons_succ, i64_w, i32_w]
                rfl
               refine pure_ (i := 1) (N := some 45) (v := ?_) (a' := ?_) (tf 2 10) rfl rfl (any_of HT_.out (by kernel_rfl)) (fun _ _ _ h => h) (Or.inl ⟨by rfl, ?_⟩) ?_ ?_
               rotate_left
               ·intro w'
                go_simp
                with_reducible rfl
               rotate_left
               ·simp only [Act.put, List.setIfInBounds_toArray, List.set_cons_zero, List.set_cons_succ, i64_w, i32_w]
                rfl
               refine pure_ (i := 2) (N := some 46) (v := ?_) (a' := ?_) (tf 3 9) rfl rfl (any_of HT_.out (by kernel_rfl)) (fun _ _ _ h => h) (Or.inl ⟨by rfl, ?_⟩) ?_ ?_
               rotate_left
               ·intro w'
                go_simp
                with_reducible rfl
               rotate_left
               ·simp only [Act.put, List.setIfInBounds_toArray, List.set_cons_zero, List.set_cons_succ, i64_w, i32_w]
                rfl
               refine pure_ (i := 3) (N := some 47) (v := ?_) (a' := ?_) (tf 4 8) rfl rfl (any_of HT_.out (by kernel_rfl)) (fun _ _ _ h => h) (Or.inl ⟨by rfl, ?_⟩) ?_ ?_
               rotate_left
               ·intro w'
                go_simp
                with_reducible rfl
               rotate_left
               ·simp only [Act.put, List.setIfInBounds_toArray, List.set_cons_zero, List.set_cons_succ, i64_w, i32_w]
                rfl
               refine pure_ (i := 5) (N := some 49) (v := ?_) (a' := ?_) #[true, true, true, true, false, true, false, false, false, false, false, false] rfl rfl (any_of HT_.out (by kernel_rfl)) (fun _ _ _ h => h) (Or.inl ⟨by rfl, ?_⟩) ?_ ?_
               rotate_left
               ·intro w'
                go_simp
                with_reducible rfl
               rotate_left
               ·simp only [Act.put, List.setIfInBounds_toArray, List.set_cons_zero, List.set_cons_succ, i64_w, i32_w]
                rfl
               refine pure_ (i := 6) (N := some 50) (v := ?_) (a' := ?_) #[true, true, true, true, false, true, true, false, false, false, false, false] rfl rfl (any_of HT_.out (by kernel_rfl)) (fun _ _ _ h => h) (Or.inl ⟨by rfl, ?_⟩) ?_ ?_
               rotate_left
               ·intro w'
                go_simp
                with_reducible rfl
               rotate_left
               ·simp only [Act.put, List.setIfInBounds_toArray, List.set_cons_zero, List.set_cons_succ, i64_w, i32_w]
                rfl
               refine pure_ (i := 7) (N := some 51) (v := ?_) (a' := ?_) #[true, true, true, true, false, true, true, true, false, false, false, false] rfl rfl (any_of HT_.out (by kernel_rfl)) (fun _ _ _ h => h) (Or.inl ⟨by rfl, ?_⟩) ?_ ?_
               rotate_left
               ·intro w'
                go_simp
                with_reducible rfl
               rotate_left
               ·simp only [Act.put, List.setIfInBounds_toArray, List.set_cons_zero, List.set_cons_succ, i64_w, i32_w]
                rfl
               refine take_ (i := 4) (N := some 48) (v := ?_) (a' := ?_) (tf 8 4) rfl rfl (take_ofW HT_.out HW_.out (by kernel_rfl)) (fun _ _ _ h => h) (Or.inl ⟨by rfl, ?_⟩) hHeld ?_ ?_
               rotate_left
               ·rintro w' ⟨s0, s1, s2, s3, s4, s5, s6, s7⟩
                go_simp
                with_reducible rfl
               rotate_left
               ·simp only [Act.put, List.setIfInBounds_toArray, List.set_cons_zero, List.set_cons_succ, i64_w, i32_w]
                rfl
               refine take_ (i := 8) (N := some 52) (v := ?_) (a' := ?_) (tf 9 3) rfl rfl (take_ofW HT_.out HW_.out (by kernel_rfl)) (fun _ _ _ h => h) (Or.inl ⟨by rfl, ?_⟩) hHeld ?_ ?_
               rotate_left
               ·rintro w' ⟨s0, s1, s2, s3, s4, s5, s6, s7⟩
                go_simp
                with_reducible rfl
               rotate_left
               ·simp only [Act.put, List.setIfInBounds_toArray, List.set_cons_zero, List.set_cons_succ, i64_w, i32_w]
                rfl
               refine one_ (i := 9) (N := some 53) (tf 10 2) rfl rfl (one_of HT_.out (by kernel_rfl)) (by decide) (fun K hK => ?_)
               refine Kd.R_lit_step k23 _ 23 ?hg (N := 53) ?hd (xs := ([(⟨(rd_T25 t174 0).f0.f0, (rd_T25 t174 0).f0.f1, (rd_T25 t174 0).f0.f2⟩ : S23), (⟨(rd_T25 y167 0).f0.f0, (rd_T25 y167 0).f0.f1, (rd_T25 y167 0).f0.f2⟩ : S23)] : List (S23))) (inner := [.string ((rd_T25 t174 0).f0.f0), .string ((rd_T25 t174 0).f0.f1), .string ((rd_T25 t174 0).f0.f2), .string ((rd_T25 y167 0).f0.f0), .string ((rd_T25 y167 0).f0.f1), .string ((rd_T25 y167 0).f0.f2)]) (ok := fun _ => True) (okp := fun _ => True) ?hr ?hp (fun _ hk => hk) trivial (Below.refl _ _) (Nat.le_refl _) (by simp) ?_; (case hd => rfl); (case hg => rfl); (case hr => first | (go_simp; done) | (go_simp; rfl)); (case hp => exact (Reps.c3 (show Kd.M k23 _ _ _ (⟨(rd_T25 t174 0).f0.f0, (rd_T25 t174 0).f0.f1, (rd_T25 t174 0).f0.f2⟩ : S23) [.string ((rd_T25 t174 0).f0.f0), .string ((rd_T25 t174 0).f0.f1), .string ((rd_T25 t174 0).f0.f2)] from (k23_mkM _ _ _ (⟨(rd_T25 t174 0).f0.f0, (rd_T25 t174 0).f0.f1, (rd_T25 t174 0).f0.f2⟩ : S23) )) (Reps.c3 (show Kd.M k23 _ _ _ (⟨(rd_T25 y167 0).f0.f0, (rd_T25 y167 0).f0.f1, (rd_T25 y167 0).f0.f2⟩ : S23) [.string ((rd_T25 y167 0).f0.f0), .string ((rd_T25 y167 0).f0.f1), .string ((rd_T25 y167 0).f0.f2)] from (k23_mkM _ _ _ (⟨(rd_T25 y167 0).f0.f0, (rd_T25 y167 0).f0.f1, (rd_T25 y167 0).f0.f2⟩ : S23) )) (Reps.none _ _))))
               intro v191 w61 ho62 hb hg_ hnew_
               have HS0_ := (hb.cell (World.block_lt_of_cell? _ _ (hHeld.1))).trans (hHeld.1)
               have HS1_ := (hb.cell (World.block_lt_of_cell? _ _ (hHeld.2.1))).trans (hHeld.2.1)
               have HS2_ := (hb.cell (World.block_lt_of_cell? _ _ (hHeld.2.2.1))).trans (hHeld.2.2.1)
               have HS3_ := (hb.cell (World.block_lt_of_cell? _ _ (hHeld.2.2.2.1))).trans (hHeld.2.2.2.1)
               have HS4_ := (hb.cell (World.block_lt_of_cell? _ _ (hHeld.2.2.2.2.1))).trans (hHeld.2.2.2.2.1)
               have HS5_ := (hb.cell (World.block_lt_of_cell? _ _ (hHeld.2.2.2.2.2.1))).trans (hHeld.2.2.2.2.2.1)
               have HS6_ := (hb.cell (World.block_lt_of_cell? _ _ (hHeld.2.2.2.2.2.2.1))).trans (hHeld.2.2.2.2.2.2.1)
               have HS7_ := (hb.cell (World.block_lt_of_cell? _ _ (hHeld.2.2.2.2.2.2.2))).trans (hHeld.2.2.2.2.2.2.2)
               clear hg_ hnew_
               (first | rw [← Ny190.out] at ho62 | (simp only [Int.reduceToNat] at ho62; rw [← Ny190.out] at ho62))
               have n0_ := Aside0.mk (Kd.R_below (by (with_reducible repeat (first | apply Kd.R_alloc | apply Kd.R_drewN | apply Kd.R_drew)); exact HO_1.out) hb)
               have n1_ := Aside0.mk (Kd.R_below (by (with_reducible repeat (first | apply Kd.R_alloc | apply Kd.R_drewN | apply Kd.R_drew)); exact HO_2.out) hb)
               have n2_ := Aside0.mk (Kd.R_below (by (with_reducible repeat (first | apply Kd.R_alloc | apply Kd.R_drewN | apply Kd.R_drew)); exact HO_4.out) hb)
               have n3_ := Aside0.mk (Kd.R_lower ho62 (below_size (by repeat (first | (with_reducible first | exact HB.out | apply below_alloc | apply pw_below_drewN | apply below_drew1) | exact HB.out))))
               have n4_ := Aside0.mk (below_step (by repeat (first | (with_reducible first | exact HB.out | apply below_alloc | apply pw_below_drewN | apply below_drew1) | exact HB.out)) hb)
               clear HO_1
               clear HO_2
               clear HO_4
               clear HB
               have HO_1 := n0_
               have HO_2 := n1_
               have HO_4 := n2_
               have HO192 := n3_
               have HB := n4_
               clear n0_ n1_ n2_ n3_ n4_
               clear hb ho62
               obtain ⟨Ao63, co63, eo63⟩ := Kd.R_slice HO192.out
               (first | subst eo63 | (injection eo63 with f1_ f2_ f3_; have f4_ := f1_.symm; have f5_ := f3_.symm; clear f1_ f2_ f3_; subst f4_; subst f5_))
               refine hK.out _ _ ⟨HS0_, HS1_, HS2_, HS3_, HS4_, HS5_, HS6_, HS7_⟩ (fun hHeld => ?_)
               clear hK K
               refine norm_ (a' := ?_) ?_ ?_
               rotate_left
               ·show Act.put _ (some 53) _ = _
                simp only [Act.put, List.setIfInBounds_toArray, List.set_cons_zero, List.set_cons_succ, i64_w, i32_w]
                rfl
               refine one_ (i := 10) (N := some 54) (tf 11 1) rfl rfl (one_of HT_.out (by kernel_rfl)) (by decide) (fun K hK => ?_)
               refine goes_ Try.func15 (by kernel_rfl) rfl #[.slice (some ad189) y167.length co12, .slice Ao63 y190.length co63, .int .i64 10] (by rfl) rfl rfl (by (try simp only [List.map_toArray, List.map_cons, List.map_nil]); first | done | rfl | (simp only [List.length_drop, List.length_take]; rfl)) ?_
               with_reducible refine (cool_Left.calls _ _ y167 _ _ y190 10 t193 _ ?side1 ?side2 ?side3 ?side4 A25.out).mono ?_
               (case side1 => repeat (first | exact (Kd.R_reads' HO_1.out).2.2 | (with_reducible refine Kd.C_alloc ?_ _) | (with_reducible refine Kd.C_drewN ?_ _) | (with_reducible refine Kd.C_drew ?_)))
               (case side2 => exact (Kd.R_reads' HO_1.out).2.1)
               (case side3 => repeat (first | exact (Kd.R_reads' HO192.out).2.2 | (with_reducible refine Kd.C_alloc ?_ _) | (with_reducible refine Kd.C_drewN ?_ _) | (with_reducible refine Kd.C_drew ?_)))
               (case side4 => exact (Kd.R_reads' HO192.out).2.1)
               rintro e w64 ⟨v194, rfl, ho0, hb⟩
               have HS0_ := (hb.cell (World.block_lt_of_cell? _ _ (hHeld.1))).trans (hHeld.1)
               have HS1_ := (hb.cell (World.block_lt_of_cell? _ _ (hHeld.2.1))).trans (hHeld.2.1)
               have HS2_ := (hb.cell (World.block_lt_of_cell? _ _ (hHeld.2.2.1))).trans (hHeld.2.2.1)
               have HS3_ := (hb.cell (World.block_lt_of_cell? _ _ (hHeld.2.2.2.1))).trans (hHeld.2.2.2.1)
               have HS4_ := (hb.cell (World.block_lt_of_cell? _ _ (hHeld.2.2.2.2.1))).trans (hHeld.2.2.2.2.1)
               have HS5_ := (hb.cell (World.block_lt_of_cell? _ _ (hHeld.2.2.2.2.2.1))).trans (hHeld.2.2.2.2.2.1)
               have HS6_ := (hb.cell (World.block_lt_of_cell? _ _ (hHeld.2.2.2.2.2.2.1))).trans (hHeld.2.2.2.2.2.2.1)
               have HS7_ := (hb.cell (World.block_lt_of_cell? _ _ (hHeld.2.2.2.2.2.2.2))).trans (hHeld.2.2.2.2.2.2.2)
               refine ⟨_, rfl, ?_⟩
               have n0_ := Aside0.mk (Kd.R_below (by (with_reducible repeat (first | apply Kd.R_alloc | apply Kd.R_drewN | apply Kd.R_drew)); exact HO_1.out) hb)
               have n1_ := Aside0.mk (Kd.R_below (by (with_reducible repeat (first | apply Kd.R_alloc | apply Kd.R_drewN | apply Kd.R_drew)); exact HO_2.out) hb)
               have n2_ := Aside0.mk (Kd.R_below (by (with_reducible repeat (first | apply Kd.R_alloc | apply Kd.R_drewN | apply Kd.R_drew)); exact HO_4.out) hb)
               have n3_ := Aside0.mk (Kd.R_elder' (by (with_reducible repeat (first | apply Kd.R_alloc | apply Kd.R_drewN | apply Kd.R_drew)); exact HO192.out) (Kd.R_base ho0) hb)
               have n4_ := Aside0.mk (Kd.R_lower (Kd.R_new' ho0 (Kd.R_lt (by (with_reducible repeat (first | apply Kd.R_alloc | apply Kd.R_drewN | apply Kd.R_drew)); exact HO192.out))) (below_size (by repeat (first | (with_reducible first | exact HB.out | apply below_alloc | apply pw_below_drewN | apply below_drew1) | exact HB.out))))
               have n5_ := Aside0.mk (below_step (by repeat (first | (with_reducible first | exact HB.out | apply below_alloc | apply pw_below_drewN | apply below_drew1) | exact HB.out)) hb)
               clear HO_1
               clear HO_2
               clear HO_4
               clear HO192
               clear HB
               have HO_1 := n0_
               have HO_2 := n1_
               have HO_4 := n2_
               have HO192 := n3_
               have HO195 := n4_
               have HB := n5_
               clear n0_ n1_ n2_ n3_ n4_ n5_
               (try clear hb)
               (try clear hb2)
               (try clear hk)
               (try clear hi)
               (try clear ho0)
               refine hK.out _ _ ⟨HS0_, HS1_, HS2_, HS3_, HS4_, HS5_, HS6_, HS7_⟩ (fun hHeld => ?_)
               clear hK K
               refine norm_ (a' := ?_) ?_ ?_
               rotate_left
               ·show Act.put _ (some 54) _ = _
                simp only [Act.put, List.setIfInBounds_toArray, List.set_cons_zero, List.set_cons_succ, i64_w, i32_w]
                rfl
               refine pure_ (i := 11) (N := some 8) (v := ?_) (a' := ?_) (tf 12 0) rfl rfl (any_of HT_.out (by kernel_rfl)) (fun _ _ _ h => h) (Or.inl ⟨by rfl, ?_⟩) ?_ ?_
               rotate_left
               ·intro w'
                go_simp
                with_reducible rfl
               rotate_left
               ·simp only [Act.put, List.setIfInBounds_toArray, List.set_cons_zero, List.set_cons_succ, i64_w, i32_w]
                rfl
               refine done_ (done_of HT_.out (by kernel_rfl)) ?_
               have p196 : 0 ≤ (0 : Int) := (by omega)
               have q196 : 0 < (t174.length : Int) := of_decide_eq_true (by first | (with_reducible assumption) | assumption)
               obtain ⟨ad196, e196, hx196_0, hx196_1, hx196_2, hx196_3⟩ := at_T25 (Kd.R_reads' HO_2.out).2.2 0 p196 q196
               obtain rfl : ad188 = ad196 := (by injection e196)
               have qi196 : (0 < t174.length) = True := eq_true (by omega)
               (try rw [show ((0 : Int)).toNat = 0 from rfl] at hx196_0)
               (try rw [show 0 * 4 = 0 from rfl] at hx196_0)
               (try rw [Addr.add_zero'] at hx196_0)
               (try rw [show ((0 : Int)).toNat = 0 from rfl] at hx196_1)
               (try rw [show 0 * 4 = 0 from rfl] at hx196_1)
               (try rw [Addr.add_zero'] at hx196_1)
               (try rw [show ((0 : Int)).toNat = 0 from rfl] at hx196_2)
               (try rw [show 0 * 4 = 0 from rfl] at hx196_2)
               (try rw [Addr.add_zero'] at hx196_2)
               (try rw [show ((0 : Int)).toNat = 0 from rfl] at hx196_3)
               (try rw [show 0 * 4 = 0 from rfl] at hx196_3)
               (try rw [Addr.add_zero'] at hx196_3)
               replace p196 := eq_true p196
               replace q196 := eq_true q196
               obtain ⟨Ao65, co65, eo65⟩ := Kd.R_slice HO_4.out
               subst eo65
               have p197 : 0 ≤ (0 : Int) := (by omega)
               have q197 : 0 < (t182.length : Int) := of_decide_eq_true (by first | (with_reducible assumption) | assumption)
               obtain ⟨ad197, e197, hx197_0, hx197_1, hx197_2, hx197_3⟩ := at_T25 (Kd.R_reads' HO_4.out).2.2 0 p197 q197
               cases e197
               have qi197 : (0 < t182.length) = True := eq_true (by omega)
               (try rw [show ((0 : Int)).toNat = 0 from rfl] at hx197_0)
               (try rw [show 0 * 4 = 0 from rfl] at hx197_0)
               (try rw [Addr.add_zero'] at hx197_0)
               (try rw [show ((0 : Int)).toNat = 0 from rfl] at hx197_1)
               (try rw [show 0 * 4 = 0 from rfl] at hx197_1)
               (try rw [Addr.add_zero'] at hx197_1)
               (try rw [show ((0 : Int)).toNat = 0 from rfl] at hx197_2)
               (try rw [show 0 * 4 = 0 from rfl] at hx197_2)
               (try rw [Addr.add_zero'] at hx197_2)
               (try rw [show ((0 : Int)).toNat = 0 from rfl] at hx197_3)
               (try rw [show 0 * 4 = 0 from rfl] at hx197_3)
               (try rw [Addr.add_zero'] at hx197_3)
               replace p197 := eq_true p197
               replace q197 := eq_true q197
               obtain ⟨Ao66, co66, eo66⟩ := Kd.R_slice HO195.out
               subst eo66
               have p198 : 0 ≤ (0 : Int) := (by omega)
               have q198 : 0 < (y167.length : Int) := of_decide_eq_true (by first | (with_reducible assumption) | assumption)
               obtain ⟨ad198, e198, hx198_0, hx198_1, hx198_2, hx198_3⟩ := at_T25 (Kd.R_reads' HO_1.out).2.2 0 p198 q198
               obtain rfl : ad189 = ad198 := (by injection e198)
               have qi198 : (0 < y167.length) = True := eq_true (by omega)
               (try rw [show ((0 : Int)).toNat = 0 from rfl] at hx198_0)
               (try rw [show 0 * 4 = 0 from rfl] at hx198_0)
               (try rw [Addr.add_zero'] at hx198_0)
               (try rw [show ((0 : Int)).toNat = 0 from rfl] at hx198_1)
               (try rw [show 0 * 4 = 0 from rfl] at hx198_1)
               (try rw [Addr.add_zero'] at hx198_1)
               (try rw [show ((0 : Int)).toNat = 0 from rfl] at hx198_2)
               (try rw [show 0 * 4 = 0 from rfl] at hx198_2)
               (try rw [Addr.add_zero'] at hx198_2)
               (try rw [show ((0 : Int)).toNat = 0 from rfl] at hx198_3)
               (try rw [show 0 * 4 = 0 from rfl] at hx198_3)
               (try rw [Addr.add_zero'] at hx198_3)
               replace p198 := eq_true p198
               replace q198 := eq_true q198
               try go_wp2_with (first | (go_at_call 21; (with_reducible refine (cool_IsCool.calls _ _ y167 ((rd_T25 y167 0).f0.f0) ((rd_T25 y167 0).f0.f1) ((rd_T25 y167 0).f0.f2) 29 true _ ?side1 ?side2 A32.out).mono ?_); (case side1 => repeat (first | exact (Kd.R_reads' HO_1.out).2.2 | (with_reducible refine Kd.C_alloc ?_ _) | (with_reducible refine Kd.C_drewN ?_ _) | (with_reducible refine Kd.C_drew ?_))); (case side2 => exact (Kd.R_reads' HO_1.out).2.1); rintro e w67 ⟨rfl, hb⟩; have n0_ := Aside0.mk (Kd.R_below (by (with_reducible repeat (first | apply Kd.R_alloc | apply Kd.R_drewN | apply Kd.R_drew)); exact HO_1.out) hb); have n1_ := Aside0.mk (Kd.R_below (by (with_reducible repeat (first | apply Kd.R_alloc | apply Kd.R_drewN | apply Kd.R_drew)); exact HO_2.out) hb); have n2_ := Aside0.mk (Kd.R_below (by (with_reducible repeat (first | apply Kd.R_alloc | apply Kd.R_drewN | apply Kd.R_drew)); exact HO_4.out) hb); have n3_ := Aside0.mk (Kd.R_below (by (with_reducible repeat (first | apply Kd.R_alloc | apply Kd.R_drewN | apply Kd.R_drew)); exact HO192.out) hb); have n4_ := Aside0.mk (Kd.R_below (by (with_reducible repeat (first | apply Kd.R_alloc | apply Kd.R_drewN | apply Kd.R_drew)); exact HO195.out) hb); have n5_ := Aside0.mk (below_step (by repeat (first | (with_reducible first | exact HB.out | apply below_alloc | apply pw_below_drewN | apply below_drew1) | exact HB.out)) hb); clear HO_1; clear HO_2; clear HO_4; clear HO192; clear HO195; clear HB; have HO_1 := n0_; have HO_2 := n1_; have HO_4 := n2_; have HO192 := n3_; have HO195 := n4_; have HB := n5_; clear n0_ n1_ n2_ n3_ n4_ n5_; (try clear hb); (try clear hb2); (try clear hk); (try clear hi); have p200 : 0 ≤ (0 : Int) := (by omega); have q200 : 0 < (y167.length : Int) := of_decide_eq_true (by first | (with_reducible assumption) | assumption); obtain ⟨ad200, e200, hx200_0, hx200_1, hx200_2, hx200_3⟩ := at_T25 (Kd.R_reads' HO_1.out).2.2 0 p200 q200; obtain rfl : ad189 = ad200 := (by injection e200); have qi200 : (0 < y167.length) = True := eq_true (by omega); (try rw [show ((0 : Int)).toNat = 0 from rfl] at hx200_0); (try rw [show 0 * 4 = 0 from rfl] at hx200_0); (try rw [Addr.add_zero'] at hx200_0); (try rw [show ((0 : Int)).toNat = 0 from rfl] at hx200_1); (try rw [show 0 * 4 = 0 from rfl] at hx200_1); (try rw [Addr.add_zero'] at hx200_1); (try rw [show ((0 : Int)).toNat = 0 from rfl] at hx200_2); (try rw [show 0 * 4 = 0 from rfl] at hx200_2); (try rw [Addr.add_zero'] at hx200_2); (try rw [show ((0 : Int)).toNat = 0 from rfl] at hx200_3); (try rw [show 0 * 4 = 0 from rfl] at hx200_3); (try rw [Addr.add_zero'] at hx200_3); replace p200 := eq_true p200; replace q200 := eq_true q200) | (go_at_call 21; (with_reducible refine (cool_IsCool.calls _ _ y167 ((rd_T25 y167 0).f0.f0) ((rd_T25 y167 0).f0.f1) ((rd_T25 y167 0).f0.f2) 30 false _ ?side1 ?side2 A34.out).mono ?_); (case side1 => repeat (first | exact (Kd.R_reads' HO_1.out).2.2 | (with_reducible refine Kd.C_alloc ?_ _) | (with_reducible refine Kd.C_drewN ?_ _) | (with_reducible refine Kd.C_drew ?_))); (case side2 => exact (Kd.R_reads' HO_1.out).2.1); rintro e w68 ⟨rfl, hb⟩; have n0_ := Aside0.mk (Kd.R_below (by (with_reducible repeat (first | apply Kd.R_alloc | apply Kd.R_drewN | apply Kd.R_drew)); exact HO_1.out) hb); have n1_ := Aside0.mk (Kd.R_below (by (with_reducible repeat (first | apply Kd.R_alloc | apply Kd.R_drewN | apply Kd.R_drew)); exact HO_2.out) hb); have n2_ := Aside0.mk (Kd.R_below (by (with_reducible repeat (first | apply Kd.R_alloc | apply Kd.R_drewN | apply Kd.R_drew)); exact HO_4.out) hb); have n3_ := Aside0.mk (Kd.R_below (by (with_reducible repeat (first | apply Kd.R_alloc | apply Kd.R_drewN | apply Kd.R_drew)); exact HO192.out) hb); have n4_ := Aside0.mk (Kd.R_below (by (with_reducible repeat (first | apply Kd.R_alloc | apply Kd.R_drewN | apply Kd.R_drew)); exact HO195.out) hb); have n5_ := Aside0.mk (below_step (by repeat (first | (with_reducible first | exact HB.out | apply below_alloc | apply pw_below_drewN | apply below_drew1) | exact HB.out)) hb); clear HO_1; clear HO_2; clear HO_4; clear HO192; clear HO195; clear HB; have HO_1 := n0_; have HO_2 := n1_; have HO_4 := n2_; have HO192 := n3_; have HO195 := n4_; have HB := n5_; clear n0_ n1_ n2_ n3_ n4_ n5_; (try clear hb); (try clear hb2); (try clear hk); (try clear hi)) | (go_at_call 17; (with_reducible refine (cool_Clean.calls _ _ t174 5 t202 _ ?side1 ?side2 A45.out).mono ?_); (case side1 => repeat (first | exact (Kd.R_reads' HO_2.out).2.2 | (with_reducible refine Kd.C_alloc ?_ _) | (with_reducible refine Kd.C_drewN ?_ _) | (with_reducible refine Kd.C_drew ?_))); (case side2 => exact (Kd.R_reads' HO_2.out).2.1); rintro e w69 ⟨v203, rfl, ho0, hb⟩; have n0_ := Aside0.mk (Kd.R_elder' (by (with_reducible repeat (first | apply Kd.R_alloc | apply Kd.R_drewN | apply Kd.R_drew)); exact HO_1.out) (Kd.Q_base ho0) hb); have n1_ := Aside0.mk (Kd.R_elder' (by (with_reducible repeat (first | apply Kd.R_alloc | apply Kd.R_drewN | apply Kd.R_drew)); exact HO_2.out) (Kd.Q_base ho0) hb); have n2_ := Aside0.mk (Kd.R_elder' (by (with_reducible repeat (first | apply Kd.R_alloc | apply Kd.R_drewN | apply Kd.R_drew)); exact HO_4.out) (Kd.Q_base ho0) hb); have n3_ := Aside0.mk (Kd.R_below (by (with_reducible repeat (first | apply Kd.R_alloc | apply Kd.R_drewN | apply Kd.R_drew)); exact HO192.out) hb); have n4_ := Aside0.mk (Kd.R_below (by (with_reducible repeat (first | apply Kd.R_alloc | apply Kd.R_drewN | apply Kd.R_drew)); exact HO195.out) hb); have n5_ := Aside0.mk (Kd.Q_lower (Kd.Q_new' (Kd.Q_new' (Kd.Q_new' ho0 (Kd.R_lt (by (with_reducible repeat (first | apply Kd.R_alloc | apply Kd.R_drewN | apply Kd.R_drew)); exact HO_1.out))) (Kd.R_lt (by (with_reducible repeat (first | apply Kd.R_alloc | apply Kd.R_drewN | apply Kd.R_drew)); exact HO_2.out))) (Kd.R_lt (by (with_reducible repeat (first | apply Kd.R_alloc | apply Kd.R_drewN | apply Kd.R_drew)); exact HO_4.out))) (below_size (by repeat (first | (with_reducible first | exact HB.out | apply below_alloc | apply pw_below_drewN | apply below_drew1) | exact HB.out)))); have n6_ := Aside0.mk (below_step (by repeat (first | (with_reducible first | exact HB.out | apply below_alloc | apply pw_below_drewN | apply below_drew1) | exact HB.out)) hb); clear HO_1; clear HO_2; clear HO_4; clear HO192; clear HO195; clear HB; have HO_1 := n0_; have HO_2 := n1_; have HO_4 := n2_; have HO192 := n3_; have HO195 := n4_; have HO204 := n5_; have HB := n6_; clear n0_ n1_ n2_ n3_ n4_ n5_ n6_; (try clear hb); (try clear hb2); (try clear hk); (try clear hi); (try clear ho0); obtain ⟨Ao70, co70, eo70, _⟩ := Kd.Q_slice HO204.out; subst eo70))
               go_ret
               exact ⟨by first | rfl | (simp [errW_none, errW_some] <;> rfl) | (simp [*, errW_none, errW_some] <;> rfl), by repeat (first | (with_reducible first | exact HB.out | apply below_alloc | apply pw_below_drewN | apply below_drew1) | exact HB.out)⟩
            ·replace c33 := Bool.eq_false_iff.mpr c33
             subst c33
             have H1 : (some false) = some r := by rw [if_neg (show ¬ (false = true) by decide)] at H; exact H
             clear H
             have H := H1
             clear H1
             obtain rfl := Option.some.inj H
             try go_wp2
             have n0_ := Aside0.mk (Kd.R_drew HO_1.out)
             have n1_ := Aside0.mk (Kd.R_drew HO_2.out)
             have n2_ := Aside0.mk (Kd.R_drew HO_4.out)
             have n3_ := Aside0.mk (below_drew1 HB.out)
             clear HO_1
             clear HO_2
             clear HO_4
             clear HB
             have HO_1 := n0_
             have HO_2 := n1_
             have HO_4 := n2_
             have HB := n3_
             clear n0_ n1_ n2_ n3_
             have p188 : 0 ≤ (0 : Int) := (by omega)
             have q188 : 0 < (t174.length : Int) := of_decide_eq_true (by first | (with_reducible assumption) | assumption)
             obtain ⟨ad188, e188, hx188_0, hx188_1, hx188_2, hx188_3⟩ := at_T25 (Kd.R_reads' HO_2.out).2.2 0 p188 q188
             cases e188
             have qi188 : (0 < t174.length) = True := eq_true (by omega)
             (try rw [show ((0 : Int)).toNat = 0 from rfl] at hx188_0)
             (try rw [show 0 * 4 = 0 from rfl] at hx188_0)
             (try rw [Addr.add_zero'] at hx188_0)
             (try rw [show ((0 : Int)).toNat = 0 from rfl] at hx188_1)
             (try rw [show 0 * 4 = 0 from rfl] at hx188_1)
             (try rw [Addr.add_zero'] at hx188_1)
             (try rw [show ((0 : Int)).toNat = 0 from rfl] at hx188_2)
             (try rw [show 0 * 4 = 0 from rfl] at hx188_2)
             (try rw [Addr.add_zero'] at hx188_2)
             (try rw [show ((0 : Int)).toNat = 0 from rfl] at hx188_3)
             (try rw [show 0 * 4 = 0 from rfl] at hx188_3)
             (try rw [Addr.add_zero'] at hx188_3)
             replace p188 := eq_true p188
             replace q188 := eq_true q188
             have p189 : 0 ≤ (0 : Int) := (by omega)
             have q189 : 0 < (y167.length : Int) := of_decide_eq_true (by first | (with_reducible assumption) | assumption)
             obtain ⟨ad189, e189, hx189_0, hx189_1, hx189_2, hx189_3⟩ := at_T25 (Kd.R_reads' HO_1.out).2.2 0 p189 q189
             cases e189
             have qi189 : (0 < y167.length) = True := eq_true (by omega)
             (try rw [show ((0 : Int)).toNat = 0 from rfl] at hx189_0)
             (try rw [show 0 * 4 = 0 from rfl] at hx189_0)
             (try rw [Addr.add_zero'] at hx189_0)
             (try rw [show ((0 : Int)).toNat = 0 from rfl] at hx189_1)
             (try rw [show 0 * 4 = 0 from rfl] at hx189_1)
             (try rw [Addr.add_zero'] at hx189_1)
             (try rw [show ((0 : Int)).toNat = 0 from rfl] at hx189_2)
             (try rw [show 0 * 4 = 0 from rfl] at hx189_2)
             (try rw [Addr.add_zero'] at hx189_2)
             (try rw [show ((0 : Int)).toNat = 0 from rfl] at hx189_3)
             (try rw [show 0 * 4 = 0 from rfl] at hx189_3)
             (try rw [Addr.add_zero'] at hx189_3)
             replace p189 := eq_true p189
             replace q189 := eq_true q189
             refine start_ (n := 12) (S := fun w' => w'.cell? ad188 = some (.string ((rd_T25 t174 0).f0.f0)) ∧ w'.cell? ⟨ad188.block, ad188.off + 1, none⟩ = some (.string ((rd_T25 t174 0).f0.f1)) ∧ w'.cell? ⟨ad188.block, ad188.off + 2, none⟩ = some (.string ((rd_T25 t174 0).f0.f2)) ∧ w'.cell? ⟨ad188.block, ad188.off + 3, none⟩ = some (.int .i64 ((rd_T25 t174 0).f1)) ∧ w'.cell? ad189 = some (.string ((rd_T25 y167 0).f0.f0)) ∧ w'.cell? ⟨ad189.block, ad189.off + 1, none⟩ = some (.string ((rd_T25 y167 0).f0.f1)) ∧ w'.cell? ⟨ad189.block, ad189.off + 2, none⟩ = some (.string ((rd_T25 y167 0).f0.f2)) ∧ w'.cell? ⟨ad189.block, ad189.off + 3, none⟩ = some (.int .i64 ((rd_T25 y167 0).f1))) (ds := []) (tf 0 12) (by kernel_rfl) rfl rfl ⟨hx188_0, hx188_1, hx188_2, hx188_3, hx189_0, hx189_1, hx189_2, hx189_3⟩ (fun hHeld => ?_); refine with_tabW sutlerlaw07_live.tab7 sutlerlaw07_live.bits7 (fun HT_ HW_ => ?_)
             generalize wc.drew = w71 at HO_1 HO_2 HO_4 HB hx188_0 hx188_1 hx188_2 hx188_3 hx189_0 hx189_1 hx189_2 hx189_3 hHeld ⊢
             refine pure_ (i := 0) (N := some 44) (v := ?_) (a' := ?_) (tf 1 11) rfl rfl (any_of HT_.out (by kernel_rfl)) (fun _ _ _ h => h) (Or.inl ⟨by rfl, ?_⟩) ?_ ?_
             rotate_left
             ·intro w'
              go_simp
              with_reducible rfl
             rotate_left
             ·simp only [Act.put, List.setIfInBounds_toArray, List.set_cons_zero, List.set_cons_succ, i64_w, i32_w]
              rfl
             refine pure_ (i := 1) (N := some 45) (v := ?_) (a' := ?_) (tf 2 10) rfl rfl (any_of HT_.out (by kernel_rfl)) (fun _ _ _ h => h) (Or.inl ⟨by rfl, ?_⟩) ?_ ?_
             rotate_left
             ·intro w'
              go_simp
              with_reducible rfl
             rotate_left
             ·simp only [Act.put, List.setIfInBounds_toArray, List.set_cons_zero, List.set_cons_succ, i64_w, i32_w]
              rfl
             refine pure_ (i := 2) (N := some 46) (v := ?_) (a' := ?_) (tf 3 9) rfl rfl (any_of HT_.out (by kernel_rfl)) (fun _ _ _ h => h) (Or.inl ⟨by rfl, ?_⟩) ?_ ?_
             rotate_left
             ·intro w'
              go_simp
              with_reducible rfl
             rotate_left
             ·simp only [Act.put, List.setIfInBounds_toArray, List.set_cons_zero, List.set_cons_succ, i64_w, i32_w]
              rfl
             refine pure_ (i := 3) (N := some 47) (v := ?_) (a' := ?_) (tf 4 8) rfl rfl (any_of HT_.out (by kernel_rfl)) (fun _ _ _ h => h) (Or.inl ⟨by rfl, ?_⟩) ?_ ?_
             rotate_left
             ·intro w'
              go_simp
              with_reducible rfl
             rotate_left
             ·simp only [Act.put, List.setIfInBounds_toArray, List.set_cons_zero, List.set_cons_succ, i64_w, i32_w]
              rfl
             refine pure_ (i := 5) (N := some 49) (v := ?_) (a' := ?_) #[true, true, true, true, false, true, false, false, false, false, false, false] rfl rfl (any_of HT_.out (by kernel_rfl)) (fun _ _ _ h => h) (Or.inl ⟨by rfl, ?_⟩) ?_ ?_
             rotate_left
             ·intro w'
              go_simp
              with_reducible rfl
             rotate_left
             ·simp only [Act.put, List.setIfInBounds_toArray, List.set_cons_zero, List.set_cons_succ, i64_w, i32_w]
              rfl
             refine pure_ (i := 6) (N := some 50) (v := ?_) (a' := ?_) #[true, true, true, true, false, true, true, false, false, false, false, false] rfl rfl (any_of HT_.out (by kernel_rfl)) (fun _ _ _ h => h) (Or.inl ⟨by rfl, ?_⟩) ?_ ?_
             rotate_left
             ·intro w'
              go_simp
              with_reducible rfl
             rotate_left
             ·simp only [Act.put, List.setIfInBounds_toArray, List.set_cons_zero, List.set_cons_succ, i64_w, i32_w]
              rfl
             refine pure_ (i := 7) (N := some 51) (v := ?_) (a' := ?_) #[true, true, true, true, false, true, true, true, false, false, false, false] rfl rfl (any_of HT_.out (by kernel_rfl)) (fun _ _ _ h => h) (Or.inl ⟨by rfl, ?_⟩) ?_ ?_
             rotate_left
             ·intro w'
              go_simp
              with_reducible rfl
             rotate_left
             ·simp only [Act.put, List.setIfInBounds_toArray, List.set_cons_zero, List.set_cons_succ, i64_w, i32_w]
              rfl
             refine take_ (i := 4) (N := some 48) (v := ?_) (a' := ?_) (tf 8 4) rfl rfl (take_ofW HT_.out HW_.out (by kernel_rfl)) (fun _ _ _ h => h) (Or.inl ⟨by rfl, ?_⟩) hHeld ?_ ?_
             rotate_left
             ·rintro w' ⟨s0, s1, s2, s3, s4, s5, s6, s7⟩
              go_simp
              with_reducible rfl
             rotate_left
             ·simp only [Act.put, List.setIfInBounds_toArray, List.set_cons_zero, List.set_cons_succ, i64_w, i32_w]
              rfl
             refine take_ (i := 8) (N := some 52) (v := ?_) (a' := ?_) (tf 9 3) rfl rfl (take_ofW HT_.out HW_.out (by kernel_rfl)) (fun _ _ _ h => h) (Or.inl ⟨by rfl, ?_⟩) hHeld ?_ ?_
             rotate_left
             ·rintro w' ⟨s0, s1, s2, s3, s4, s5, s6, s7⟩
              go_simp
              with_reducible rfl
             rotate_left
             ·simp only [Act.put, List.setIfInBounds_toArray, List.set_cons_zero, List.set_cons_succ, i64_w, i32_w]
              rfl
             refine one_ (i := 9) (N := some 53) (tf 10 2) rfl rfl (one_of HT_.out (by kernel_rfl)) (by decide) (fun K hK => ?_)
             refine Kd.R_lit_step k23 _ 23 ?hg (N := 53) ?hd (xs := ([(⟨(rd_T25 t174 0).f0.f0, (rd_T25 t174 0).f0.f1, (rd_T25 t174 0).f0.f2⟩ : S23), (⟨(rd_T25 y167 0).f0.f0, (rd_T25 y167 0).f0.f1, (rd_T25 y167 0).f0.f2⟩ : S23)] : List (S23))) (inner := [.string ((rd_T25 t174 0).f0.f0), .string ((rd_T25 t174 0).f0.f1), .string ((rd_T25 t174 0).f0.f2), .string ((rd_T25 y167 0).f0.f0), .string ((rd_T25 y167 0).f0.f1), .string ((rd_T25 y167 0).f0.f2)]) (ok := fun _ => True) (okp := fun _ => True) ?hr ?hp (fun _ hk => hk) trivial (Below.refl _ _) (Nat.le_refl _) (by simp) ?_; (case hd => rfl); (case hg => rfl); (case hr => first | (go_simp; done) | (go_simp; rfl)); (case hp => exact (Reps.c3 (show Kd.M k23 _ _ _ (⟨(rd_T25 t174 0).f0.f0, (rd_T25 t174 0).f0.f1, (rd_T25 t174 0).f0.f2⟩ : S23) [.string ((rd_T25 t174 0).f0.f0), .string ((rd_T25 t174 0).f0.f1), .string ((rd_T25 t174 0).f0.f2)] from (k23_mkM _ _ _ (⟨(rd_T25 t174 0).f0.f0, (rd_T25 t174 0).f0.f1, (rd_T25 t174 0).f0.f2⟩ : S23) )) (Reps.c3 (show Kd.M k23 _ _ _ (⟨(rd_T25 y167 0).f0.f0, (rd_T25 y167 0).f0.f1, (rd_T25 y167 0).f0.f2⟩ : S23) [.string ((rd_T25 y167 0).f0.f0), .string ((rd_T25 y167 0).f0.f1), .string ((rd_T25 y167 0).f0.f2)] from (k23_mkM _ _ _ (⟨(rd_T25 y167 0).f0.f0, (rd_T25 y167 0).f0.f1, (rd_T25 y167 0).f0.f2⟩ : S23) )) (Reps.none _ _))))
             intro v191 w72 ho73 hb hg_ hnew_
             have HS0_ := (hb.cell (World.block_lt_of_cell? _ _ (hHeld.1))).trans (hHeld.1)
             have HS1_ := (hb.cell (World.block_lt_of_cell? _ _ (hHeld.2.1))).trans (hHeld.2.1)
             have HS2_ := (hb.cell (World.block_lt_of_cell? _ _ (hHeld.2.2.1))).trans (hHeld.2.2.1)
             have HS3_ := (hb.cell (World.block_lt_of_cell? _ _ (hHeld.2.2.2.1))).trans (hHeld.2.2.2.1)
             have HS4_ := (hb.cell (World.block_lt_of_cell? _ _ (hHeld.2.2.2.2.1))).trans (hHeld.2.2.2.2.1)
             have HS5_ := (hb.cell (World.block_lt_of_cell? _ _ (hHeld.2.2.2.2.2.1))).trans (hHeld.2.2.2.2.2.1)
             have HS6_ := (hb.cell (World.block_lt_of_cell? _ _ (hHeld.2.2.2.2.2.2.1))).trans (hHeld.2.2.2.2.2.2.1)
             have HS7_ := (hb.cell (World.block_lt_of_cell? _ _ (hHeld.2.2.2.2.2.2.2))).trans (hHeld.2.2.2.2.2.2.2)
             clear hg_ hnew_
             (first | rw [← Ny190.out] at ho73 | (simp only [Int.reduceToNat] at ho73; rw [← Ny190.out] at ho73))
             have n0_ := Aside0.mk (Kd.R_below (by (with_reducible repeat (first | apply Kd.R_alloc | apply Kd.R_drewN | apply Kd.R_drew)); exact HO_1.out) hb)
             have n1_ := Aside0.mk (Kd.R_below (by (with_reducible repeat (first | apply Kd.R_alloc | apply Kd.R_drewN | apply Kd.R_drew)); exact HO_2.out) hb)
             have n2_ := Aside0.mk (Kd.R_below (by (with_reducible repeat (first | apply Kd.R_alloc | apply Kd.R_drewN | apply Kd.R_drew)); exact HO_4.out) hb)
             have n3_ := Aside0.mk (Kd.R_lower ho73 (below_size (by repeat (first | (with_reducible first | exact HB.out | apply below_alloc | apply pw_below_drewN | apply below_drew1) | exact HB.out))))
             have n4_ := Aside0.mk (below_step (by repeat (first | (with_reducible first | exact HB.out | apply below_alloc | apply pw_below_drewN | apply below_drew1) | exact HB.out)) hb)
             clear HO_1
             clear HO_2
             clear HO_4
             clear HB
             have HO_1 := n0_
             have HO_2 := n1_
             have HO_4 := n2_
             have HO192 := n3_
             have HB := n4_
             clear n0_ n1_ n2_ n3_ n4_
             clear hb ho73
             obtain ⟨Ao74, co74, eo74⟩ := Kd.R_slice HO192.out
             (first | subst eo74 | (injection eo74 with f1_ f2_ f3_; have f4_ := f1_.symm; have f5_ := f3_.symm; clear f1_ f2_ f3_; subst f4_; subst f5_))
             refine hK.out _ _ ⟨HS0_, HS1_, HS2_, HS3_, HS4_, HS5_, HS6_, HS7_⟩ (fun hHeld => ?_)
             clear hK K
             refine norm_ (a' := ?_) ?_ ?_
             rotate_left
             ·show Act.put _ (some 53) _ = _
              simp only [Act.put, List.setIfInBounds_toArray, List.set_cons_zero, List.set_cons_succ, i64_w, i32_w]
              rfl
             refine one_ (i := 10) (N := some 54) (tf 11 1) rfl rfl (one_of HT_.out (by kernel_rfl)) (by decide) (fun K hK => ?_)
             refine goes_ Try.func15 (by kernel_rfl) rfl #[.slice (some ad189) y167.length co12, .slice Ao74 y190.length co74, .int .i64 10] (by rfl) rfl rfl (by (try simp only [List.map_toArray, List.map_cons, List.map_nil]); first | done | rfl | (simp only [List.length_drop, List.length_take]; rfl)) ?_
             with_reducible refine (cool_Left.calls _ _ y167 _ _ y190 10 t193 _ ?side1 ?side2 ?side3 ?side4 A25.out).mono ?_
             (case side1 => repeat (first | exact (Kd.R_reads' HO_1.out).2.2 | (with_reducible refine Kd.C_alloc ?_ _) | (with_reducible refine Kd.C_drewN ?_ _) | (with_reducible refine Kd.C_drew ?_)))
             (case side2 => exact (Kd.R_reads' HO_1.out).2.1)
             (case side3 => repeat (first | exact (Kd.R_reads' HO192.out).2.2 | (with_reducible refine Kd.C_alloc ?_ _) | (with_reducible refine Kd.C_drewN ?_ _) | (with_reducible refine Kd.C_drew ?_)))
             (case side4 => exact (Kd.R_reads' HO192.out).2.1)
             rintro e w75 ⟨v194, rfl, ho0, hb⟩
             have HS0_ := (hb.cell (World.block_lt_of_cell? _ _ (hHeld.1))).trans (hHeld.1)
             have HS1_ := (hb.cell (World.block_lt_of_cell? _ _ (hHeld.2.1))).trans (hHeld.2.1)
             have HS2_ := (hb.cell (World.block_lt_of_cell? _ _ (hHeld.2.2.1))).trans (hHeld.2.2.1)
             have HS3_ := (hb.cell (World.block_lt_of_cell? _ _ (hHeld.2.2.2.1))).trans (hHeld.2.2.2.1)
             have HS4_ := (hb.cell (World.block_lt_of_cell? _ _ (hHeld.2.2.2.2.1))).trans (hHeld.2.2.2.2.1)
             have HS5_ := (hb.cell (World.block_lt_of_cell? _ _ (hHeld.2.2.2.2.2.1))).trans (hHeld.2.2.2.2.2.1)
             have HS6_ := (hb.cell (World.block_lt_of_cell? _ _ (hHeld.2.2.2.2.2.2.1))).trans (hHeld.2.2.2.2.2.2.1)
             have HS7_ := (hb.cell (World.block_lt_of_cell? _ _ (hHeld.2.2.2.2.2.2.2))).trans (hHeld.2.2.2.2.2.2.2)
             refine ⟨_, rfl, ?_⟩
             have n0_ := Aside0.mk (Kd.R_below (by (with_reducible repeat (first | apply Kd.R_alloc | apply Kd.R_drewN | apply Kd.R_drew)); exact HO_1.out) hb)
             have n1_ := Aside0.mk (Kd.R_below (by (with_reducible repeat (first | apply Kd.R_alloc | apply Kd.R_drewN | apply Kd.R_drew)); exact HO_2.out) hb)
             have n2_ := Aside0.mk (Kd.R_below (by (with_reducible repeat (first | apply Kd.R_alloc | apply Kd.R_drewN | apply Kd.R_drew)); exact HO_4.out) hb)
             have n3_ := Aside0.mk (Kd.R_elder' (by (with_reducible repeat (first | apply Kd.R_alloc | apply Kd.R_drewN | apply Kd.R_drew)); exact HO192.out) (Kd.R_base ho0) hb)
             have n4_ := Aside0.mk (Kd.R_lower (Kd.R_new' ho0 (Kd.R_lt (by (with_reducible repeat (first | apply Kd.R_alloc | apply Kd.R_drewN | apply Kd.R_drew)); exact HO192.out))) (below_size (by repeat (first | (with_reducible first | exact HB.out | apply below_alloc | apply pw_below_drewN | apply below_drew1) | exact HB.out))))
             have n5_ := Aside0.mk (below_step (by repeat (first | (with_reducible first | exact HB.out | apply below_alloc | apply pw_below_drewN | apply below_drew1) | exact HB.out)) hb)
             clear HO_1
             clear HO_2
             clear HO_4
             clear HO192
             clear HB
             have HO_1 := n0_
             have HO_2 := n1_
             have HO_4 := n2_
             have HO192 := n3_
             have HO195 := n4_
             have HB := n5_
             clear n0_ n1_ n2_ n3_ n4_ n5_
             (try clear hb)
             (try clear hb2)
             (try clear hk)
             (try clear hi)
             (try clear ho0)
             refine hK.out _ _ ⟨HS0_, HS1_, HS2_, HS3_, HS4_, HS5_, HS6_, HS7_⟩ (fun hHeld => ?_)
             clear hK K
             refine norm_ (a' := ?_) ?_ ?_
             rotate_left
             ·show Act.put _ (some 54) _ = _
              simp only [Act.put, List.setIfInBounds_toArray, List.set_cons_zero, List.set_cons_succ, i64_w, i32_w]
              rfl
             refine pure_ (i := 11) (N := some 8) (v := ?_) (a' := ?_) (tf 12 0) rfl rfl (any_of HT_.out (by kernel_rfl)) (fun _ _ _ h => h) (Or.inl ⟨by rfl, ?_⟩) ?_ ?_
             rotate_left
             ·intro w'
              go_simp
              with_reducible rfl
             rotate_left
             ·simp only [Act.put, List.setIfInBounds_toArray, List.set_cons_zero, List.set_cons_succ, i64_w, i32_w]
              rfl
             refine done_ (done_of HT_.out (by kernel_rfl)) ?_
             have p196 : 0 ≤ (0 : Int) := (by omega)
             have q196 : 0 < (t174.length : Int) := of_decide_eq_true (by first | (with_reducible assumption) | assumption)
             obtain ⟨ad196, e196, hx196_0, hx196_1, hx196_2, hx196_3⟩ := at_T25 (Kd.R_reads' HO_2.out).2.2 0 p196 q196
             obtain rfl : ad188 = ad196 := (by injection e196)
             have qi196 : (0 < t174.length) = True := eq_true (by omega)
             (try rw [show ((0 : Int)).toNat = 0 from rfl] at hx196_0)
             (try rw [show 0 * 4 = 0 from rfl] at hx196_0)
             (try rw [Addr.add_zero'] at hx196_0)
             (try rw [show ((0 : Int)).toNat = 0 from rfl] at hx196_1)
             (try rw [show 0 * 4 = 0 from rfl] at hx196_1)
             (try rw [Addr.add_zero'] at hx196_1)
             (try rw [show ((0 : Int)).toNat = 0 from rfl] at hx196_2)
             (try rw [show 0 * 4 = 0 from rfl] at hx196_2)
             (try rw [Addr.add_zero'] at hx196_2)
             (try rw [show ((0 : Int)).toNat = 0 from rfl] at hx196_3)
             (try rw [show 0 * 4 = 0 from rfl] at hx196_3)
             (try rw [Addr.add_zero'] at hx196_3)
             replace p196 := eq_true p196
             replace q196 := eq_true q196
             obtain ⟨Ao76, co76, eo76⟩ := Kd.R_slice HO_4.out
             subst eo76
             have p197 : 0 ≤ (0 : Int) := (by omega)
             have q197 : 0 < (t182.length : Int) := of_decide_eq_true (by first | (with_reducible assumption) | assumption)
             obtain ⟨ad197, e197, hx197_0, hx197_1, hx197_2, hx197_3⟩ := at_T25 (Kd.R_reads' HO_4.out).2.2 0 p197 q197
             cases e197
             have qi197 : (0 < t182.length) = True := eq_true (by omega)
             (try rw [show ((0 : Int)).toNat = 0 from rfl] at hx197_0)
             (try rw [show 0 * 4 = 0 from rfl] at hx197_0)
             (try rw [Addr.add_zero'] at hx197_0)
             (try rw [show ((0 : Int)).toNat = 0 from rfl] at hx197_1)
             (try rw [show 0 * 4 = 0 from rfl] at hx197_1)
             (try rw [Addr.add_zero'] at hx197_1)
             (try rw [show ((0 : Int)).toNat = 0 from rfl] at hx197_2)
             (try rw [show 0 * 4 = 0 from rfl] at hx197_2)
             (try rw [Addr.add_zero'] at hx197_2)
             (try rw [show ((0 : Int)).toNat = 0 from rfl] at hx197_3)
             (try rw [show 0 * 4 = 0 from rfl] at hx197_3)
             (try rw [Addr.add_zero'] at hx197_3)
             replace p197 := eq_true p197
             replace q197 := eq_true q197
             obtain ⟨Ao77, co77, eo77⟩ := Kd.R_slice HO195.out
             subst eo77
             have p198 : 0 ≤ (0 : Int) := (by omega)
             have q198 : 0 < (y167.length : Int) := of_decide_eq_true (by first | (with_reducible assumption) | assumption)
             obtain ⟨ad198, e198, hx198_0, hx198_1, hx198_2, hx198_3⟩ := at_T25 (Kd.R_reads' HO_1.out).2.2 0 p198 q198
             obtain rfl : ad189 = ad198 := (by injection e198)
             have qi198 : (0 < y167.length) = True := eq_true (by omega)
             (try rw [show ((0 : Int)).toNat = 0 from rfl] at hx198_0)
             (try rw [show 0 * 4 = 0 from rfl] at hx198_0)
             (try rw [Addr.add_zero'] at hx198_0)
             (try rw [show ((0 : Int)).toNat = 0 from rfl] at hx198_1)
             (try rw [show 0 * 4 = 0 from rfl] at hx198_1)
             (try rw [Addr.add_zero'] at hx198_1)
             (try rw [show ((0 : Int)).toNat = 0 from rfl] at hx198_2)
             (try rw [show 0 * 4 = 0 from rfl] at hx198_2)
             (try rw [Addr.add_zero'] at hx198_2)
             (try rw [show ((0 : Int)).toNat = 0 from rfl] at hx198_3)
             (try rw [show 0 * 4 = 0 from rfl] at hx198_3)
             (try rw [Addr.add_zero'] at hx198_3)
             replace p198 := eq_true p198
             replace q198 := eq_true q198
             try go_wp2_with (first | (go_at_call 21; (with_reducible refine (cool_IsCool.calls _ _ y167 ((rd_T25 y167 0).f0.f0) ((rd_T25 y167 0).f0.f1) ((rd_T25 y167 0).f0.f2) 29 false _ ?side1 ?side2 A32.out).mono ?_); (case side1 => repeat (first | exact (Kd.R_reads' HO_1.out).2.2 | (with_reducible refine Kd.C_alloc ?_ _) | (with_reducible refine Kd.C_drewN ?_ _) | (with_reducible refine Kd.C_drew ?_))); (case side2 => exact (Kd.R_reads' HO_1.out).2.1); rintro e w78 ⟨rfl, hb⟩; have n0_ := Aside0.mk (Kd.R_below (by (with_reducible repeat (first | apply Kd.R_alloc | apply Kd.R_drewN | apply Kd.R_drew)); exact HO_1.out) hb); have n1_ := Aside0.mk (Kd.R_below (by (with_reducible repeat (first | apply Kd.R_alloc | apply Kd.R_drewN | apply Kd.R_drew)); exact HO_2.out) hb); have n2_ := Aside0.mk (Kd.R_below (by (with_reducible repeat (first | apply Kd.R_alloc | apply Kd.R_drewN | apply Kd.R_drew)); exact HO_4.out) hb); have n3_ := Aside0.mk (Kd.R_below (by (with_reducible repeat (first | apply Kd.R_alloc | apply Kd.R_drewN | apply Kd.R_drew)); exact HO192.out) hb); have n4_ := Aside0.mk (Kd.R_below (by (with_reducible repeat (first | apply Kd.R_alloc | apply Kd.R_drewN | apply Kd.R_drew)); exact HO195.out) hb); have n5_ := Aside0.mk (below_step (by repeat (first | (with_reducible first | exact HB.out | apply below_alloc | apply pw_below_drewN | apply below_drew1) | exact HB.out)) hb); clear HO_1; clear HO_2; clear HO_4; clear HO192; clear HO195; clear HB; have HO_1 := n0_; have HO_2 := n1_; have HO_4 := n2_; have HO192 := n3_; have HO195 := n4_; have HB := n5_; clear n0_ n1_ n2_ n3_ n4_ n5_; (try clear hb); (try clear hb2); (try clear hk); (try clear hi)))
             go_ret
             exact ⟨by first | rfl | (simp [errW_none, errW_some] <;> rfl) | (simp [*, errW_none, errW_some] <;> rfl), by repeat (first | (with_reducible first | exact HB.out | apply below_alloc | apply pw_below_drewN | apply below_drew1) | exact HB.out)⟩
           ·rw [if_neg c31] at H
            have c31b0 : ((t193.length : Int) == 1) = false := beq_eq_false_iff_ne.mpr c31
            have c31b1 : ((t193.length : Int) != 1) = true := bne_iff_ne.mpr c31
            obtain rfl := Option.some.inj H
            try go_wp2
            have n0_ := Aside0.mk (Kd.R_drew HO_1.out)
            have n1_ := Aside0.mk (Kd.R_drew HO_2.out)
            have n2_ := Aside0.mk (Kd.R_drew HO_4.out)
            have n3_ := Aside0.mk (below_drew1 HB.out)
            clear HO_1
            clear HO_2
            clear HO_4
            clear HB
            have HO_1 := n0_
            have HO_2 := n1_
            have HO_4 := n2_
            have HB := n3_
            clear n0_ n1_ n2_ n3_
            have p188 : 0 ≤ (0 : Int) := (by omega)
            have q188 : 0 < (t174.length : Int) := of_decide_eq_true (by first | (with_reducible assumption) | assumption)
            obtain ⟨ad188, e188, hx188_0, hx188_1, hx188_2, hx188_3⟩ := at_T25 (Kd.R_reads' HO_2.out).2.2 0 p188 q188
            cases e188
            have qi188 : (0 < t174.length) = True := eq_true (by omega)
            (try rw [show ((0 : Int)).toNat = 0 from rfl] at hx188_0)
            (try rw [show 0 * 4 = 0 from rfl] at hx188_0)
            (try rw [Addr.add_zero'] at hx188_0)
            (try rw [show ((0 : Int)).toNat = 0 from rfl] at hx188_1)
            (try rw [show 0 * 4 = 0 from rfl] at hx188_1)
            (try rw [Addr.add_zero'] at hx188_1)
            (try rw [show ((0 : Int)).toNat = 0 from rfl] at hx188_2)
            (try rw [show 0 * 4 = 0 from rfl] at hx188_2)
            (try rw [Addr.add_zero'] at hx188_2)
            (try rw [show ((0 : Int)).toNat = 0 from rfl] at hx188_3)
            (try rw [show 0 * 4 = 0 from rfl] at hx188_3)
            (try rw [Addr.add_zero'] at hx188_3)
            replace p188 := eq_true p188
            replace q188 := eq_true q188
            have p189 : 0 ≤ (0 : Int) := (by omega)
            have q189 : 0 < (y167.length : Int) := of_decide_eq_true (by first | (with_reducible assumption) | assumption)
            obtain ⟨ad189, e189, hx189_0, hx189_1, hx189_2, hx189_3⟩ := at_T25 (Kd.R_reads' HO_1.out).2.2 0 p189 q189
            cases e189
            have qi189 : (0 < y167.length) = True := eq_true (by omega)
            (try rw [show ((0 : Int)).toNat = 0 from rfl] at hx189_0)
            (try rw [show 0 * 4 = 0 from rfl] at hx189_0)
            (try rw [Addr.add_zero'] at hx189_0)
            (try rw [show ((0 : Int)).toNat = 0 from rfl] at hx189_1)
            (try rw [show 0 * 4 = 0 from rfl] at hx189_1)
            (try rw [Addr.add_zero'] at hx189_1)
            (try rw [show ((0 : Int)).toNat = 0 from rfl] at hx189_2)
            (try rw [show 0 * 4 = 0 from rfl] at hx189_2)
            (try rw [Addr.add_zero'] at hx189_2)
            (try rw [show ((0 : Int)).toNat = 0 from rfl] at hx189_3)
            (try rw [show 0 * 4 = 0 from rfl] at hx189_3)
            (try rw [Addr.add_zero'] at hx189_3)
            replace p189 := eq_true p189
            replace q189 := eq_true q189
            refine start_ (n := 12) (S := fun w' => w'.cell? ad188 = some (.string ((rd_T25 t174 0).f0.f0)) ∧ w'.cell? ⟨ad188.block, ad188.off + 1, none⟩ = some (.string ((rd_T25 t174 0).f0.f1)) ∧ w'.cell? ⟨ad188.block, ad188.off + 2, none⟩ = some (.string ((rd_T25 t174 0).f0.f2)) ∧ w'.cell? ⟨ad188.block, ad188.off + 3, none⟩ = some (.int .i64 ((rd_T25 t174 0).f1)) ∧ w'.cell? ad189 = some (.string ((rd_T25 y167 0).f0.f0)) ∧ w'.cell? ⟨ad189.block, ad189.off + 1, none⟩ = some (.string ((rd_T25 y167 0).f0.f1)) ∧ w'.cell? ⟨ad189.block, ad189.off + 2, none⟩ = some (.string ((rd_T25 y167 0).f0.f2)) ∧ w'.cell? ⟨ad189.block, ad189.off + 3, none⟩ = some (.int .i64 ((rd_T25 y167 0).f1))) (ds := []) (tf 0 12) (by kernel_rfl) rfl rfl ⟨hx188_0, hx188_1, hx188_2, hx188_3, hx189_0, hx189_1, hx189_2, hx189_3⟩ (fun hHeld => ?_); refine with_tabW sutlerlaw07_live.tab7 sutlerlaw07_live.bits7 (fun HT_ HW_ => ?_)
            generalize wc.drew = w79 at HO_1 HO_2 HO_4 HB hx188_0 hx188_1 hx188_2 hx188_3 hx189_0 hx189_1 hx189_2 hx189_3 hHeld ⊢
            refine pure_ (i := 0) (N := some 44) (v := ?_) (a' := ?_) (tf 1 11) rfl rfl (any_of HT_.out (by kernel_rfl)) (fun _ _ _ h => h) (Or.inl ⟨by rfl, ?_⟩) ?_ ?_
            rotate_left
            ·intro w'
             go_simp
             with_reducible rfl
            rotate_left
            ·simp only [Act.put, List.setIfInBounds_toArray, List.set_cons_zero, List.set_cons_succ, i64_w, i32_w]
             rfl
            refine pure_ (i := 1) (N := some 45) (v := ?_) (a' := ?_) (tf 2 10) rfl rfl (any_of HT_.out (by kernel_rfl)) (fun _ _ _ h => h) (Or.inl ⟨by rfl, ?_⟩) ?_ ?_
            rotate_left
            ·intro w'
             go_simp
             with_reducible rfl
            rotate_left
            ·simp only [Act.put, List.setIfInBounds_toArray, List.set_cons_zero, List.set_cons_succ, i64_w, i32_w]
             rfl
            refine pure_ (i := 2) (N := some 46) (v := ?_) (a' := ?_) (tf 3 9) rfl rfl (any_of HT_.out (by kernel_rfl)) (fun _ _ _ h => h) (Or.inl ⟨by rfl, ?_⟩) ?_ ?_
            rotate_left
            ·intro w'
             go_simp
             with_reducible rfl
            rotate_left
            ·simp only [Act.put, List.setIfInBounds_toArray, List.set_cons_zero, List.set_cons_succ, i64_w, i32_w]
             rfl
            refine pure_ (i := 3) (N := some 47) (v := ?_) (a' := ?_) (tf 4 8) rfl rfl (any_of HT_.out (by kernel_rfl)) (fun _ _ _ h => h) (Or.inl ⟨by rfl, ?_⟩) ?_ ?_
            rotate_left
            ·intro w'
             go_simp
             with_reducible rfl
            rotate_left
            ·simp only [Act.put, List.setIfInBounds_toArray, List.set_cons_zero, List.set_cons_succ, i64_w, i32_w]
             rfl
            refine pure_ (i := 5) (N := some 49) (v := ?_) (a' := ?_) #[true, true, true, true, false, true, false, false, false, false, false, false] rfl rfl (any_of HT_.out (by kernel_rfl)) (fun _ _ _ h => h) (Or.inl ⟨by rfl, ?_⟩) ?_ ?_
            rotate_left
            ·intro w'
             go_simp
             with_reducible rfl
            rotate_left
            ·simp only [Act.put, List.setIfInBounds_toArray, List.set_cons_zero, List.set_cons_succ, i64_w, i32_w]
             rfl
            refine pure_ (i := 6) (N := some 50) (v := ?_) (a' := ?_) #[true, true, true, true, false, true, true, false, false, false, false, false] rfl rfl (any_of HT_.out (by kernel_rfl)) (fun _ _ _ h => h) (Or.inl ⟨by rfl, ?_⟩) ?_ ?_
            rotate_left
            ·intro w'
             go_simp
             with_reducible rfl
            rotate_left
            ·simp only [Act.put, List.setIfInBounds_toArray, List.set_cons_zero, List.set_cons_succ, i64_w, i32_w]
             rfl
            refine pure_ (i := 7) (N := some 51) (v := ?_) (a' := ?_) #[true, true, true, true, false, true, true, true, false, false, false, false] rfl rfl (any_of HT_.out (by kernel_rfl)) (fun _ _ _ h => h) (Or.inl ⟨by rfl, ?_⟩) ?_ ?_
            rotate_left
            ·intro w'
             go_simp
             with_reducible rfl
            rotate_left
            ·simp only [Act.put, List.setIfInBounds_toArray, List.set_cons_zero, List.set_cons_succ, i64_w, i32_w]
             rfl
            refine take_ (i := 4) (N := some 48) (v := ?_) (a' := ?_) (tf 8 4) rfl rfl (take_ofW HT_.out HW_.out (by kernel_rfl)) (fun _ _ _ h => h) (Or.inl ⟨by rfl, ?_⟩) hHeld ?_ ?_
            rotate_left
            ·rintro w' ⟨s0, s1, s2, s3, s4, s5, s6, s7⟩
             go_simp
             with_reducible rfl
            rotate_left
            ·simp only [Act.put, List.setIfInBounds_toArray, List.set_cons_zero, List.set_cons_succ, i64_w, i32_w]
             rfl
            refine take_ (i := 8) (N := some 52) (v := ?_) (a' := ?_) (tf 9 3) rfl rfl (take_ofW HT_.out HW_.out (by kernel_rfl)) (fun _ _ _ h => h) (Or.inl ⟨by rfl, ?_⟩) hHeld ?_ ?_
            rotate_left
            ·rintro w' ⟨s0, s1, s2, s3, s4, s5, s6, s7⟩
             go_simp
             with_reducible rfl
            rotate_left
            ·simp only [Act.put, List.setIfInBounds_toArray, List.set_cons_zero, List.set_cons_succ, i64_w, i32_w]
             rfl
            refine one_ (i := 9) (N := some 53) (tf 10 2) rfl rfl (one_of HT_.out (by kernel_rfl)) (by decide) (fun K hK => ?_)
            refine Kd.R_lit_step k23 _ 23 ?hg (N := 53) ?hd (xs := ([(⟨(rd_T25 t174 0).f0.f0, (rd_T25 t174 0).f0.f1, (rd_T25 t174 0).f0.f2⟩ : S23), (⟨(rd_T25 y167 0).f0.f0, (rd_T25 y167 0).f0.f1, (rd_T25 y167 0).f0.f2⟩ : S23)] : List (S23))) (inner := [.string ((rd_T25 t174 0).f0.f0), .string ((rd_T25 t174 0).f0.f1), .string ((rd_T25 t174 0).f0.f2), .string ((rd_T25 y167 0).f0.f0), .string ((rd_T25 y167 0).f0.f1), .string ((rd_T25 y167 0).f0.f2)]) (ok := fun _ => True) (okp := fun _ => True) ?hr ?hp (fun _ hk => hk) trivial (Below.refl _ _) (Nat.le_refl _) (by simp) ?_; (case hd => rfl); (case hg => rfl); (case hr => first | (go_simp; done) | (go_simp; rfl)); (case hp => exact (Reps.c3 (show Kd.M k23 _ _ _ (⟨(rd_T25 t174 0).f0.f0, (rd_T25 t174 0).f0.f1, (rd_T25 t174 0).f0.f2⟩ : S23) [.string ((rd_T25 t174 0).f0.f0), .string ((rd_T25 t174 0).f0.f1), .string ((rd_T25 t174 0).f0.f2)] from (k23_mkM _ _ _ (⟨(rd_T25 t174 0).f0.f0, (rd_T25 t174 0).f0.f1, (rd_T25 t174 0).f0.f2⟩ : S23) )) (Reps.c3 (show Kd.M k23 _ _ _ (⟨(rd_T25 y167 0).f0.f0, (rd_T25 y167 0).f0.f1, (rd_T25 y167 0).f0.f2⟩ : S23) [.string ((rd_T25 y167 0).f0.f0), .string ((rd_T25 y167 0).f0.f1), .string ((rd_T25 y167 0).f0.f2)] from (k23_mkM _ _ _ (⟨(rd_T25 y167 0).f0.f0, (rd_T25 y167 0).f0.f1, (rd_T25 y167 0).f0.f2⟩ : S23) )) (Reps.none _ _))))
            intro v191 w80 ho81 hb hg_ hnew_
            have HS0_ := (hb.cell (World.block_lt_of_cell? _ _ (hHeld.1))).trans (hHeld.1)
            have HS1_ := (hb.cell (World.block_lt_of_cell? _ _ (hHeld.2.1))).trans (hHeld.2.1)
            have HS2_ := (hb.cell (World.block_lt_of_cell? _ _ (hHeld.2.2.1))).trans (hHeld.2.2.1)
            have HS3_ := (hb.cell (World.block_lt_of_cell? _ _ (hHeld.2.2.2.1))).trans (hHeld.2.2.2.1)
            have HS4_ := (hb.cell (World.block_lt_of_cell? _ _ (hHeld.2.2.2.2.1))).trans (hHeld.2.2.2.2.1)
            have HS5_ := (hb.cell (World.block_lt_of_cell? _ _ (hHeld.2.2.2.2.2.1))).trans (hHeld.2.2.2.2.2.1)
            have HS6_ := (hb.cell (World.block_lt_of_cell? _ _ (hHeld.2.2.2.2.2.2.1))).trans (hHeld.2.2.2.2.2.2.1)
            have HS7_ := (hb.cell (World.block_lt_of_cell? _ _ (hHeld.2.2.2.2.2.2.2))).trans (hHeld.2.2.2.2.2.2.2)
            clear hg_ hnew_
            (first | rw [← Ny190.out] at ho81 | (simp only [Int.reduceToNat] at ho81; rw [← Ny190.out] at ho81))
            have n0_ := Aside0.mk (Kd.R_below (by (with_reducible repeat (first | apply Kd.R_alloc | apply Kd.R_drewN | apply Kd.R_drew)); exact HO_1.out) hb)
            have n1_ := Aside0.mk (Kd.R_below (by (with_reducible repeat (first | apply Kd.R_alloc | apply Kd.R_drewN | apply Kd.R_drew)); exact HO_2.out) hb)
            have n2_ := Aside0.mk (Kd.R_below (by (with_reducible repeat (first | apply Kd.R_alloc | apply Kd.R_drewN | apply Kd.R_drew)); exact HO_4.out) hb)
            have n3_ := Aside0.mk (Kd.R_lower ho81 (below_size (by repeat (first | (with_reducible first | exact HB.out | apply below_alloc | apply pw_below_drewN | apply below_drew1) | exact HB.out))))
            have n4_ := Aside0.mk (below_step (by repeat (first | (with_reducible first | exact HB.out | apply below_alloc | apply pw_below_drewN | apply below_drew1) | exact HB.out)) hb)
            clear HO_1
            clear HO_2
            clear HO_4
            clear HB
            have HO_1 := n0_
            have HO_2 := n1_
            have HO_4 := n2_
            have HO192 := n3_
            have HB := n4_
            clear n0_ n1_ n2_ n3_ n4_
            clear hb ho81
            obtain ⟨Ao82, co82, eo82⟩ := Kd.R_slice HO192.out
            (first | subst eo82 | (injection eo82 with f1_ f2_ f3_; have f4_ := f1_.symm; have f5_ := f3_.symm; clear f1_ f2_ f3_; subst f4_; subst f5_))
            refine hK.out _ _ ⟨HS0_, HS1_, HS2_, HS3_, HS4_, HS5_, HS6_, HS7_⟩ (fun hHeld => ?_)
            clear hK K
            refine norm_ (a' := ?_) ?_ ?_
            rotate_left
            ·show Act.put _ (some 53) _ = _
             simp only [Act.put, List.setIfInBounds_toArray, List.set_cons_zero, List.set_cons_succ, i64_w, i32_w]
             rfl
            refine one_ (i := 10) (N := some 54) (tf 11 1) rfl rfl (one_of HT_.out (by kernel_rfl)) (by decide) (fun K hK => ?_)
            refine goes_ Try.func15 (by kernel_rfl) rfl #[.slice (some ad189) y167.length co12, .slice Ao82 y190.length co82, .int .i64 10] (by rfl) rfl rfl (by (try simp only [List.map_toArray, List.map_cons, List.map_nil]); first | done | rfl | (simp only [List.length_drop, List.length_take]; rfl)) ?_
            with_reducible refine (cool_Left.calls _ _ y167 _ _ y190 10 t193 _ ?side1 ?side2 ?side3 ?side4 A25.out).mono ?_
            (case side1 => repeat (first | exact (Kd.R_reads' HO_1.out).2.2 | (with_reducible refine Kd.C_alloc ?_ _) | (with_reducible refine Kd.C_drewN ?_ _) | (with_reducible refine Kd.C_drew ?_)))
            (case side2 => exact (Kd.R_reads' HO_1.out).2.1)
            (case side3 => repeat (first | exact (Kd.R_reads' HO192.out).2.2 | (with_reducible refine Kd.C_alloc ?_ _) | (with_reducible refine Kd.C_drewN ?_ _) | (with_reducible refine Kd.C_drew ?_)))
            (case side4 => exact (Kd.R_reads' HO192.out).2.1)
            rintro e w83 ⟨v194, rfl, ho0, hb⟩
            have HS0_ := (hb.cell (World.block_lt_of_cell? _ _ (hHeld.1))).trans (hHeld.1)
            have HS1_ := (hb.cell (World.block_lt_of_cell? _ _ (hHeld.2.1))).trans (hHeld.2.1)
            have HS2_ := (hb.cell (World.block_lt_of_cell? _ _ (hHeld.2.2.1))).trans (hHeld.2.2.1)
            have HS3_ := (hb.cell (World.block_lt_of_cell? _ _ (hHeld.2.2.2.1))).trans (hHeld.2.2.2.1)
            have HS4_ := (hb.cell (World.block_lt_of_cell? _ _ (hHeld.2.2.2.2.1))).trans (hHeld.2.2.2.2.1)
            have HS5_ := (hb.cell (World.block_lt_of_cell? _ _ (hHeld.2.2.2.2.2.1))).trans (hHeld.2.2.2.2.2.1)
            have HS6_ := (hb.cell (World.block_lt_of_cell? _ _ (hHeld.2.2.2.2.2.2.1))).trans (hHeld.2.2.2.2.2.2.1)
            have HS7_ := (hb.cell (World.block_lt_of_cell? _ _ (hHeld.2.2.2.2.2.2.2))).trans (hHeld.2.2.2.2.2.2.2)
            refine ⟨_, rfl, ?_⟩
            have n0_ := Aside0.mk (Kd.R_below (by (with_reducible repeat (first | apply Kd.R_alloc | apply Kd.R_drewN | apply Kd.R_drew)); exact HO_1.out) hb)
            have n1_ := Aside0.mk (Kd.R_below (by (with_reducible repeat (first | apply Kd.R_alloc | apply Kd.R_drewN | apply Kd.R_drew)); exact HO_2.out) hb)
            have n2_ := Aside0.mk (Kd.R_below (by (with_reducible repeat (first | apply Kd.R_alloc | apply Kd.R_drewN | apply Kd.R_drew)); exact HO_4.out) hb)
            have n3_ := Aside0.mk (Kd.R_elder' (by (with_reducible repeat (first | apply Kd.R_alloc | apply Kd.R_drewN | apply Kd.R_drew)); exact HO192.out) (Kd.R_base ho0) hb)
            have n4_ := Aside0.mk (Kd.R_lower (Kd.R_new' ho0 (Kd.R_lt (by (with_reducible repeat (first | apply Kd.R_alloc | apply Kd.R_drewN | apply Kd.R_drew)); exact HO192.out))) (below_size (by repeat (first | (with_reducible first | exact HB.out | apply below_alloc | apply pw_below_drewN | apply below_drew1) | exact HB.out))))
            have n5_ := Aside0.mk (below_step (by repeat (first | (with_reducible first | exact HB.out | apply below_alloc | apply pw_below_drewN | apply below_drew1) | exact HB.out)) hb)
            clear HO_1
            clear HO_2
            clear HO_4
            clear HO192
            clear HB
            have HO_1 := n0_
            have HO_2 := n1_
            have HO_4 := n2_
            have HO192 := n3_
            have HO195 := n4_
            have HB := n5_
            clear n0_ n1_ n2_ n3_ n4_ n5_
            (try clear hb)
            (try clear hb2)
            (try clear hk)
            (try clear hi)
            (try clear ho0)
            refine hK.out _ _ ⟨HS0_, HS1_, HS2_, HS3_, HS4_, HS5_, HS6_, HS7_⟩ (fun hHeld => ?_)
            clear hK K
            refine norm_ (a' := ?_) ?_ ?_
            rotate_left
            ·show Act.put _ (some 54) _ = _
             simp only [Act.put, List.setIfInBounds_toArray, List.set_cons_zero, List.set_cons_succ, i64_w, i32_w]
             rfl
            refine pure_ (i := 11) (N := some 8) (v := ?_) (a' := ?_) (tf 12 0) rfl rfl (any_of HT_.out (by kernel_rfl)) (fun _ _ _ h => h) (Or.inl ⟨by rfl, ?_⟩) ?_ ?_
            rotate_left
            ·intro w'
             go_simp
             with_reducible rfl
            rotate_left
            ·simp only [Act.put, List.setIfInBounds_toArray, List.set_cons_zero, List.set_cons_succ, i64_w, i32_w]
             rfl
            refine done_ (done_of HT_.out (by kernel_rfl)) ?_
            have p196 : 0 ≤ (0 : Int) := (by omega)
            have q196 : 0 < (t174.length : Int) := of_decide_eq_true (by first | (with_reducible assumption) | assumption)
            obtain ⟨ad196, e196, hx196_0, hx196_1, hx196_2, hx196_3⟩ := at_T25 (Kd.R_reads' HO_2.out).2.2 0 p196 q196
            obtain rfl : ad188 = ad196 := (by injection e196)
            have qi196 : (0 < t174.length) = True := eq_true (by omega)
            (try rw [show ((0 : Int)).toNat = 0 from rfl] at hx196_0)
            (try rw [show 0 * 4 = 0 from rfl] at hx196_0)
            (try rw [Addr.add_zero'] at hx196_0)
            (try rw [show ((0 : Int)).toNat = 0 from rfl] at hx196_1)
            (try rw [show 0 * 4 = 0 from rfl] at hx196_1)
            (try rw [Addr.add_zero'] at hx196_1)
            (try rw [show ((0 : Int)).toNat = 0 from rfl] at hx196_2)
            (try rw [show 0 * 4 = 0 from rfl] at hx196_2)
            (try rw [Addr.add_zero'] at hx196_2)
            (try rw [show ((0 : Int)).toNat = 0 from rfl] at hx196_3)
            (try rw [show 0 * 4 = 0 from rfl] at hx196_3)
            (try rw [Addr.add_zero'] at hx196_3)
            replace p196 := eq_true p196
            replace q196 := eq_true q196
            obtain ⟨Ao84, co84, eo84⟩ := Kd.R_slice HO_4.out
            subst eo84
            have p197 : 0 ≤ (0 : Int) := (by omega)
            have q197 : 0 < (t182.length : Int) := of_decide_eq_true (by first | (with_reducible assumption) | assumption)
            obtain ⟨ad197, e197, hx197_0, hx197_1, hx197_2, hx197_3⟩ := at_T25 (Kd.R_reads' HO_4.out).2.2 0 p197 q197
            cases e197
            have qi197 : (0 < t182.length) = True := eq_true (by omega)
            (try rw [show ((0 : Int)).toNat = 0 from rfl] at hx197_0)
            (try rw [show 0 * 4 = 0 from rfl] at hx197_0)
            (try rw [Addr.add_zero'] at hx197_0)
            (try rw [show ((0 : Int)).toNat = 0 from rfl] at hx197_1)
            (try rw [show 0 * 4 = 0 from rfl] at hx197_1)
            (try rw [Addr.add_zero'] at hx197_1)
            (try rw [show ((0 : Int)).toNat = 0 from rfl] at hx197_2)
            (try rw [show 0 * 4 = 0 from rfl] at hx197_2)
            (try rw [Addr.add_zero'] at hx197_2)
            (try rw [show ((0 : Int)).toNat = 0 from rfl] at hx197_3)
            (try rw [show 0 * 4 = 0 from rfl] at hx197_3)
            (try rw [Addr.add_zero'] at hx197_3)
            replace p197 := eq_true p197
            replace q197 := eq_true q197
            obtain ⟨Ao85, co85, eo85⟩ := Kd.R_slice HO195.out
            subst eo85
            try go_wp2
            go_ret
            exact ⟨by first | rfl | (simp [errW_none, errW_some] <;> rfl) | (simp [*, errW_none, errW_some] <;> rfl), by repeat (first | (with_reducible first | exact HB.out | apply below_alloc | apply pw_below_drewN | apply below_drew1) | exact HB.out)⟩
          ·replace c30 := Bool.eq_false_iff.mpr c30
           subst c30
           have H1 : (some false) = some r := by rw [if_neg (show ¬ (false = true) by decide)] at H; exact H
           clear H
           have H := H1
           clear H1
           obtain rfl := Option.some.inj H
           try go_wp2
           have n0_ := Aside0.mk (Kd.R_drew HO_1.out)
           have n1_ := Aside0.mk (Kd.R_drew HO_2.out)
           have n2_ := Aside0.mk (Kd.R_drew HO_4.out)
           have n3_ := Aside0.mk (below_drew1 HB.out)
           clear HO_1
           clear HO_2
           clear HO_4
           clear HB
           have HO_1 := n0_
           have HO_2 := n1_
           have HO_4 := n2_
           have HB := n3_
           clear n0_ n1_ n2_ n3_
           have p188 : 0 ≤ (0 : Int) := (by omega)
           have q188 : 0 < (t174.length : Int) := of_decide_eq_true (by first | (with_reducible assumption) | assumption)
           obtain ⟨ad188, e188, hx188_0, hx188_1, hx188_2, hx188_3⟩ := at_T25 (Kd.R_reads' HO_2.out).2.2 0 p188 q188
           cases e188
           have qi188 : (0 < t174.length) = True := eq_true (by omega)
           (try rw [show ((0 : Int)).toNat = 0 from rfl] at hx188_0)
           (try rw [show 0 * 4 = 0 from rfl] at hx188_0)
           (try rw [Addr.add_zero'] at hx188_0)
           (try rw [show ((0 : Int)).toNat = 0 from rfl] at hx188_1)
           (try rw [show 0 * 4 = 0 from rfl] at hx188_1)
           (try rw [Addr.add_zero'] at hx188_1)
           (try rw [show ((0 : Int)).toNat = 0 from rfl] at hx188_2)
           (try rw [show 0 * 4 = 0 from rfl] at hx188_2)
           (try rw [Addr.add_zero'] at hx188_2)
           (try rw [show ((0 : Int)).toNat = 0 from rfl] at hx188_3)
           (try rw [show 0 * 4 = 0 from rfl] at hx188_3)
           (try rw [Addr.add_zero'] at hx188_3)
           replace p188 := eq_true p188
           replace q188 := eq_true q188
           have p189 : 0 ≤ (0 : Int) := (by omega)
           have q189 : 0 < (y167.length : Int) := of_decide_eq_true (by first | (with_reducible assumption) | assumption)
           obtain ⟨ad189, e189, hx189_0, hx189_1, hx189_2, hx189_3⟩ := at_T25 (Kd.R_reads' HO_1.out).2.2 0 p189 q189
           cases e189
           have qi189 : (0 < y167.length) = True := eq_true (by omega)
           (try rw [show ((0 : Int)).toNat = 0 from rfl] at hx189_0)
           (try rw [show 0 * 4 = 0 from rfl] at hx189_0)
           (try rw [Addr.add_zero'] at hx189_0)
           (try rw [show ((0 : Int)).toNat = 0 from rfl] at hx189_1)
           (try rw [show 0 * 4 = 0 from rfl] at hx189_1)
           (try rw [Addr.add_zero'] at hx189_1)
           (try rw [show ((0 : Int)).toNat = 0 from rfl] at hx189_2)
           (try rw [show 0 * 4 = 0 from rfl] at hx189_2)
           (try rw [Addr.add_zero'] at hx189_2)
           (try rw [show ((0 : Int)).toNat = 0 from rfl] at hx189_3)
           (try rw [show 0 * 4 = 0 from rfl] at hx189_3)
           (try rw [Addr.add_zero'] at hx189_3)
           replace p189 := eq_true p189
           replace q189 := eq_true q189
           refine start_ (n := 12) (S := fun w' => w'.cell? ad188 = some (.string ((rd_T25 t174 0).f0.f0)) ∧ w'.cell? ⟨ad188.block, ad188.off + 1, none⟩ = some (.string ((rd_T25 t174 0).f0.f1)) ∧ w'.cell? ⟨ad188.block, ad188.off + 2, none⟩ = some (.string ((rd_T25 t174 0).f0.f2)) ∧ w'.cell? ⟨ad188.block, ad188.off + 3, none⟩ = some (.int .i64 ((rd_T25 t174 0).f1)) ∧ w'.cell? ad189 = some (.string ((rd_T25 y167 0).f0.f0)) ∧ w'.cell? ⟨ad189.block, ad189.off + 1, none⟩ = some (.string ((rd_T25 y167 0).f0.f1)) ∧ w'.cell? ⟨ad189.block, ad189.off + 2, none⟩ = some (.string ((rd_T25 y167 0).f0.f2)) ∧ w'.cell? ⟨ad189.block, ad189.off + 3, none⟩ = some (.int .i64 ((rd_T25 y167 0).f1))) (ds := []) (tf 0 12) (by kernel_rfl) rfl rfl ⟨hx188_0, hx188_1, hx188_2, hx188_3, hx189_0, hx189_1, hx189_2, hx189_3⟩ (fun hHeld => ?_); refine with_tabW sutlerlaw07_live.tab7 sutlerlaw07_live.bits7 (fun HT_ HW_ => ?_)
           generalize wc.drew = w86 at HO_1 HO_2 HO_4 HB hx188_0 hx188_1 hx188_2 hx188_3 hx189_0 hx189_1 hx189_2 hx189_3 hHeld ⊢
           refine pure_ (i := 0) (N := some 44) (v := ?_) (a' := ?_) (tf 1 11) rfl rfl (any_of HT_.out (by kernel_rfl)) (fun _ _ _ h => h) (Or.inl ⟨by rfl, ?_⟩) ?_ ?_
           rotate_left
           ·intro w'
            go_simp
            with_reducible rfl
           rotate_left
           ·simp only [Act.put, List.setIfInBounds_toArray, List.set_cons_zero, List.set_cons_succ, i64_w, i32_w]
            rfl
           refine pure_ (i := 1) (N := some 45) (v := ?_) (a' := ?_) (tf 2 10) rfl rfl (any_of HT_.out (by kernel_rfl)) (fun _ _ _ h => h) (Or.inl ⟨by rfl, ?_⟩) ?_ ?_
           rotate_left
           ·intro w'
            go_simp
            with_reducible rfl
           rotate_left
           ·simp only [Act.put, List.setIfInBounds_toArray, List.set_cons_zero, List.set_cons_succ, i64_w, i32_w]
            rfl
           refine pure_ (i := 2) (N := some 46) (v := ?_) (a' := ?_) (tf 3 9) rfl rfl (any_of HT_.out (by kernel_rfl)) (fun _ _ _ h => h) (Or.inl ⟨by rfl, ?_⟩) ?_ ?_
           rotate_left
           ·intro w'
            go_simp
            with_reducible rfl
           rotate_left
           ·simp only [Act.put, List.setIfInBounds_toArray, List.set_cons_zero, List.set_cons_succ, i64_w, i32_w]
            rfl
           refine pure_ (i := 3) (N := some 47) (v := ?_) (a' := ?_) (tf 4 8) rfl rfl (any_of HT_.out (by kernel_rfl)) (fun _ _ _ h => h) (Or.inl ⟨by rfl, ?_⟩) ?_ ?_
           rotate_left
           ·intro w'
            go_simp
            with_reducible rfl
           rotate_left
           ·simp only [Act.put, List.setIfInBounds_toArray, List.set_cons_zero, List.set_cons_succ, i64_w, i32_w]
            rfl
           refine pure_ (i := 5) (N := some 49) (v := ?_) (a' := ?_) #[true, true, true, true, false, true, false, false, false, false, false, false] rfl rfl (any_of HT_.out (by kernel_rfl)) (fun _ _ _ h => h) (Or.inl ⟨by rfl, ?_⟩) ?_ ?_
           rotate_left
           ·intro w'
            go_simp
            with_reducible rfl
           rotate_left
           ·simp only [Act.put, List.setIfInBounds_toArray, List.set_cons_zero, List.set_cons_succ, i64_w, i32_w]
            rfl
           refine pure_ (i := 6) (N := some 50) (v := ?_) (a' := ?_) #[true, true, true, true, false, true, true, false, false, false, false, false] rfl rfl (any_of HT_.out (by kernel_rfl)) (fun _ _ _ h => h) (Or.inl ⟨by rfl, ?_⟩) ?_ ?_
           rotate_left
           ·intro w'
            go_simp
            with_reducible rfl
           rotate_left
           ·simp only [Act.put, List.setIfInBounds_toArray, List.set_cons_zero, List.set_cons_succ, i64_w, i32_w]
            rfl
           refine pure_ (i := 7) (N := some 51) (v := ?_) (a' := ?_) #[true, true, true, true, false, true, true, true, false, false, false, false] rfl rfl (any_of HT_.out (by kernel_rfl)) (fun _ _ _ h => h) (Or.inl ⟨by rfl, ?_⟩) ?_ ?_
           rotate_left
           ·intro w'
            go_simp
            with_reducible rfl
           rotate_left
           ·simp only [Act.put, List.setIfInBounds_toArray, List.set_cons_zero, List.set_cons_succ, i64_w, i32_w]
            rfl
           refine take_ (i := 4) (N := some 48) (v := ?_) (a' := ?_) (tf 8 4) rfl rfl (take_ofW HT_.out HW_.out (by kernel_rfl)) (fun _ _ _ h => h) (Or.inl ⟨by rfl, ?_⟩) hHeld ?_ ?_
           rotate_left
           ·rintro w' ⟨s0, s1, s2, s3, s4, s5, s6, s7⟩
            go_simp
            with_reducible rfl
           rotate_left
           ·simp only [Act.put, List.setIfInBounds_toArray, List.set_cons_zero, List.set_cons_succ, i64_w, i32_w]
            rfl
           refine take_ (i := 8) (N := some 52) (v := ?_) (a' := ?_) (tf 9 3) rfl rfl (take_ofW HT_.out HW_.out (by kernel_rfl)) (fun _ _ _ h => h) (Or.inl ⟨by rfl, ?_⟩) hHeld ?_ ?_
           rotate_left
           ·rintro w' ⟨s0, s1, s2, s3, s4, s5, s6, s7⟩
            go_simp
            with_reducible rfl
           rotate_left
           ·simp only [Act.put, List.setIfInBounds_toArray, List.set_cons_zero, List.set_cons_succ, i64_w, i32_w]
            rfl
           refine one_ (i := 9) (N := some 53) (tf 10 2) rfl rfl (one_of HT_.out (by kernel_rfl)) (by decide) (fun K hK => ?_)
           refine Kd.R_lit_step k23 _ 23 ?hg (N := 53) ?hd (xs := ([(⟨(rd_T25 t174 0).f0.f0, (rd_T25 t174 0).f0.f1, (rd_T25 t174 0).f0.f2⟩ : S23), (⟨(rd_T25 y167 0).f0.f0, (rd_T25 y167 0).f0.f1, (rd_T25 y167 0).f0.f2⟩ : S23)] : List (S23))) (inner := [.string ((rd_T25 t174 0).f0.f0), .string ((rd_T25 t174 0).f0.f1), .string ((rd_T25 t174 0).f0.f2), .string ((rd_T25 y167 0).f0.f0), .string ((rd_T25 y167 0).f0.f1), .string ((rd_T25 y167 0).f0.f2)]) (ok := fun _ => True) (okp := fun _ => True) ?hr ?hp (fun _ hk => hk) trivial (Below.refl _ _) (Nat.le_refl _) (by simp) ?_; (case hd => rfl); (case hg => rfl); (case hr => first | (go_simp; done) | (go_simp; rfl)); (case hp => exact (Reps.c3 (show Kd.M k23 _ _ _ (⟨(rd_T25 t174 0).f0.f0, (rd_T25 t174 0).f0.f1, (rd_T25 t174 0).f0.f2⟩ : S23) [.string ((rd_T25 t174 0).f0.f0), .string ((rd_T25 t174 0).f0.f1), .string ((rd_T25 t174 0).f0.f2)] from (k23_mkM _ _ _ (⟨(rd_T25 t174 0).f0.f0, (rd_T25 t174 0).f0.f1, (rd_T25 t174 0).f0.f2⟩ : S23) )) (Reps.c3 (show Kd.M k23 _ _ _ (⟨(rd_T25 y167 0).f0.f0, (rd_T25 y167 0).f0.f1, (rd_T25 y167 0).f0.f2⟩ : S23) [.string ((rd_T25 y167 0).f0.f0), .string ((rd_T25 y167 0).f0.f1), .string ((rd_T25 y167 0).f0.f2)] from (k23_mkM _ _ _ (⟨(rd_T25 y167 0).f0.f0, (rd_T25 y167 0).f0.f1, (rd_T25 y167 0).f0.f2⟩ : S23) )) (Reps.none _ _))))
           intro v191 w87 ho88 hb hg_ hnew_
           have HS0_ := (hb.cell (World.block_lt_of_cell? _ _ (hHeld.1))).trans (hHeld.1)
           have HS1_ := (hb.cell (World.block_lt_of_cell? _ _ (hHeld.2.1))).trans (hHeld.2.1)
           have HS2_ := (hb.cell (World.block_lt_of_cell? _ _ (hHeld.2.2.1))).trans (hHeld.2.2.1)
           have HS3_ := (hb.cell (World.block_lt_of_cell? _ _ (hHeld.2.2.2.1))).trans (hHeld.2.2.2.1)
           have HS4_ := (hb.cell (World.block_lt_of_cell? _ _ (hHeld.2.2.2.2.1))).trans (hHeld.2.2.2.2.1)
           have HS5_ := (hb.cell (World.block_lt_of_cell? _ _ (hHeld.2.2.2.2.2.1))).trans (hHeld.2.2.2.2.2.1)
           have HS6_ := (hb.cell (World.block_lt_of_cell? _ _ (hHeld.2.2.2.2.2.2.1))).trans (hHeld.2.2.2.2.2.2.1)
           have HS7_ := (hb.cell (World.block_lt_of_cell? _ _ (hHeld.2.2.2.2.2.2.2))).trans (hHeld.2.2.2.2.2.2.2)
           clear hg_ hnew_
           (first | rw [← Ny190.out] at ho88 | (simp only [Int.reduceToNat] at ho88; rw [← Ny190.out] at ho88))
           have n0_ := Aside0.mk (Kd.R_below (by (with_reducible repeat (first | apply Kd.R_alloc | apply Kd.R_drewN | apply Kd.R_drew)); exact HO_1.out) hb)
           have n1_ := Aside0.mk (Kd.R_below (by (with_reducible repeat (first | apply Kd.R_alloc | apply Kd.R_drewN | apply Kd.R_drew)); exact HO_2.out) hb)
           have n2_ := Aside0.mk (Kd.R_below (by (with_reducible repeat (first | apply Kd.R_alloc | apply Kd.R_drewN | apply Kd.R_drew)); exact HO_4.out) hb)
           have n3_ := Aside0.mk (Kd.R_lower ho88 (below_size (by repeat (first | (with_reducible first | exact HB.out | apply below_alloc | apply pw_below_drewN | apply below_drew1) | exact HB.out))))
           have n4_ := Aside0.mk (below_step (by repeat (first | (with_reducible first | exact HB.out | apply below_alloc | apply pw_below_drewN | apply below_drew1) | exact HB.out)) hb)
           clear HO_1
           clear HO_2
           clear HO_4
           clear HB
           have HO_1 := n0_
           have HO_2 := n1_
           have HO_4 := n2_
           have HO192 := n3_
           have HB := n4_
           clear n0_ n1_ n2_ n3_ n4_
           clear hb ho88
           obtain ⟨Ao89, co89, eo89⟩ := Kd.R_slice HO192.out
           (first | subst eo89 | (injection eo89 with f1_ f2_ f3_; have f4_ := f1_.symm; have f5_ := f3_.symm; clear f1_ f2_ f3_; subst f4_; subst f5_))
           refine hK.out _ _ ⟨HS0_, HS1_, HS2_, HS3_, HS4_, HS5_, HS6_, HS7_⟩ (fun hHeld => ?_)
           clear hK K
           refine norm_ (a' := ?_) ?_ ?_
           rotate_left
           ·show Act.put _ (some 53) _ = _
            simp only [Act.put, List.setIfInBounds_toArray, List.set_cons_zero, List.set_cons_succ, i64_w, i32_w]
            rfl
           refine one_ (i := 10) (N := some 54) (tf 11 1) rfl rfl (one_of HT_.out (by kernel_rfl)) (by decide) (fun K hK => ?_)
           refine goes_ Try.func15 (by kernel_rfl) rfl #[.slice (some ad189) y167.length co12, .slice Ao89 y190.length co89, .int .i64 10] (by rfl) rfl rfl (by (try simp only [List.map_toArray, List.map_cons, List.map_nil]); first | done | rfl | (simp only [List.length_drop, List.length_take]; rfl)) ?_
           with_reducible refine (cool_Left.calls _ _ y167 _ _ y190 10 t193 _ ?side1 ?side2 ?side3 ?side4 A25.out).mono ?_
           (case side1 => repeat (first | exact (Kd.R_reads' HO_1.out).2.2 | (with_reducible refine Kd.C_alloc ?_ _) | (with_reducible refine Kd.C_drewN ?_ _) | (with_reducible refine Kd.C_drew ?_)))
           (case side2 => exact (Kd.R_reads' HO_1.out).2.1)
           (case side3 => repeat (first | exact (Kd.R_reads' HO192.out).2.2 | (with_reducible refine Kd.C_alloc ?_ _) | (with_reducible refine Kd.C_drewN ?_ _) | (with_reducible refine Kd.C_drew ?_)))
           (case side4 => exact (Kd.R_reads' HO192.out).2.1)
           rintro e w90 ⟨v194, rfl, ho0, hb⟩
           have HS0_ := (hb.cell (World.block_lt_of_cell? _ _ (hHeld.1))).trans (hHeld.1)
           have HS1_ := (hb.cell (World.block_lt_of_cell? _ _ (hHeld.2.1))).trans (hHeld.2.1)
           have HS2_ := (hb.cell (World.block_lt_of_cell? _ _ (hHeld.2.2.1))).trans (hHeld.2.2.1)
           have HS3_ := (hb.cell (World.block_lt_of_cell? _ _ (hHeld.2.2.2.1))).trans (hHeld.2.2.2.1)
           have HS4_ := (hb.cell (World.block_lt_of_cell? _ _ (hHeld.2.2.2.2.1))).trans (hHeld.2.2.2.2.1)
           have HS5_ := (hb.cell (World.block_lt_of_cell? _ _ (hHeld.2.2.2.2.2.1))).trans (hHeld.2.2.2.2.2.1)
           have HS6_ := (hb.cell (World.block_lt_of_cell? _ _ (hHeld.2.2.2.2.2.2.1))).trans (hHeld.2.2.2.2.2.2.1)
           have HS7_ := (hb.cell (World.block_lt_of_cell? _ _ (hHeld.2.2.2.2.2.2.2))).trans (hHeld.2.2.2.2.2.2.2)
           refine ⟨_, rfl, ?_⟩
           have n0_ := Aside0.mk (Kd.R_below (by (with_reducible repeat (first | apply Kd.R_alloc | apply Kd.R_drewN | apply Kd.R_drew)); exact HO_1.out) hb)
           have n1_ := Aside0.mk (Kd.R_below (by (with_reducible repeat (first | apply Kd.R_alloc | apply Kd.R_drewN | apply Kd.R_drew)); exact HO_2.out) hb)
           have n2_ := Aside0.mk (Kd.R_below (by (with_reducible repeat (first | apply Kd.R_alloc | apply Kd.R_drewN | apply Kd.R_drew)); exact HO_4.out) hb)
           have n3_ := Aside0.mk (Kd.R_elder' (by (with_reducible repeat (first | apply Kd.R_alloc | apply Kd.R_drewN | apply Kd.R_drew)); exact HO192.out) (Kd.R_base ho0) hb)
           have n4_ := Aside0.mk (Kd.R_lower (Kd.R_new' ho0 (Kd.R_lt (by (with_reducible repeat (first | apply Kd.R_alloc | apply Kd.R_drewN | apply Kd.R_drew)); exact HO192.out))) (below_size (by repeat (first | (with_reducible first | exact HB.out | apply below_alloc | apply pw_below_drewN | apply below_drew1) | exact HB.out))))
           have n5_ := Aside0.mk (below_step (by repeat (first | (with_reducible first | exact HB.out | apply below_alloc | apply pw_below_drewN | apply below_drew1) | exact HB.out)) hb)
           clear HO_1
           clear HO_2
           clear HO_4
           clear HO192
           clear HB
           have HO_1 := n0_
           have HO_2 := n1_
           have HO_4 := n2_
           have HO192 := n3_
           have HO195 := n4_
           have HB := n5_
           clear n0_ n1_ n2_ n3_ n4_ n5_
           (try clear hb)
           (try clear hb2)
           (try clear hk)
           (try clear hi)
           (try clear ho0)
           refine hK.out _ _ ⟨HS0_, HS1_, HS2_, HS3_, HS4_, HS5_, HS6_, HS7_⟩ (fun hHeld => ?_)
           clear hK K
           refine norm_ (a' := ?_) ?_ ?_
           rotate_left
           ·show Act.put _ (some 54) _ = _
            simp only [Act.put, List.setIfInBounds_toArray, List.set_cons_zero, List.set_cons_succ, i64_w, i32_w]
            rfl
           refine pure_ (i := 11) (N := some 8) (v := ?_) (a' := ?_) (tf 12 0) rfl rfl (any_of HT_.out (by kernel_rfl)) (fun _ _ _ h => h) (Or.inl ⟨by rfl, ?_⟩) ?_ ?_
           rotate_left
           ·intro w'
            go_simp
            with_reducible rfl
           rotate_left
           ·simp only [Act.put, List.setIfInBounds_toArray, List.set_cons_zero, List.set_cons_succ, i64_w, i32_w]
            rfl
           refine done_ (done_of HT_.out (by kernel_rfl)) ?_
           have p196 : 0 ≤ (0 : Int) := (by omega)
           have q196 : 0 < (t174.length : Int) := of_decide_eq_true (by first | (with_reducible assumption) | assumption)
           obtain ⟨ad196, e196, hx196_0, hx196_1, hx196_2, hx196_3⟩ := at_T25 (Kd.R_reads' HO_2.out).2.2 0 p196 q196
           obtain rfl : ad188 = ad196 := (by injection e196)
           have qi196 : (0 < t174.length) = True := eq_true (by omega)
           (try rw [show ((0 : Int)).toNat = 0 from rfl] at hx196_0)
           (try rw [show 0 * 4 = 0 from rfl] at hx196_0)
           (try rw [Addr.add_zero'] at hx196_0)
           (try rw [show ((0 : Int)).toNat = 0 from rfl] at hx196_1)
           (try rw [show 0 * 4 = 0 from rfl] at hx196_1)
           (try rw [Addr.add_zero'] at hx196_1)
           (try rw [show ((0 : Int)).toNat = 0 from rfl] at hx196_2)
           (try rw [show 0 * 4 = 0 from rfl] at hx196_2)
           (try rw [Addr.add_zero'] at hx196_2)
           (try rw [show ((0 : Int)).toNat = 0 from rfl] at hx196_3)
           (try rw [show 0 * 4 = 0 from rfl] at hx196_3)
           (try rw [Addr.add_zero'] at hx196_3)
           replace p196 := eq_true p196
           replace q196 := eq_true q196
           obtain ⟨Ao91, co91, eo91⟩ := Kd.R_slice HO_4.out
           subst eo91
           have p197 : 0 ≤ (0 : Int) := (by omega)
           have q197 : 0 < (t182.length : Int) := of_decide_eq_true (by first | (with_reducible assumption) | assumption)
           obtain ⟨ad197, e197, hx197_0, hx197_1, hx197_2, hx197_3⟩ := at_T25 (Kd.R_reads' HO_4.out).2.2 0 p197 q197
           cases e197
           have qi197 : (0 < t182.length) = True := eq_true (by omega)
           (try rw [show ((0 : Int)).toNat = 0 from rfl] at hx197_0)
           (try rw [show 0 * 4 = 0 from rfl] at hx197_0)
           (try rw [Addr.add_zero'] at hx197_0)
           (try rw [show ((0 : Int)).toNat = 0 from rfl] at hx197_1)
           (try rw [show 0 * 4 = 0 from rfl] at hx197_1)
           (try rw [Addr.add_zero'] at hx197_1)
           (try rw [show ((0 : Int)).toNat = 0 from rfl] at hx197_2)
           (try rw [show 0 * 4 = 0 from rfl] at hx197_2)
           (try rw [Addr.add_zero'] at hx197_2)
           (try rw [show ((0 : Int)).toNat = 0 from rfl] at hx197_3)
           (try rw [show 0 * 4 = 0 from rfl] at hx197_3)
           (try rw [Addr.add_zero'] at hx197_3)
           replace p197 := eq_true p197
           replace q197 := eq_true q197
           try go_wp2
           go_ret
           exact ⟨by first | rfl | (simp [errW_none, errW_some] <;> rfl) | (simp [*, errW_none, errW_some] <;> rfl), by repeat (first | (with_reducible first | exact HB.out | apply below_alloc | apply pw_below_drewN | apply below_drew1) | exact HB.out)⟩
         ·rw [if_neg c29] at H
          have c29b0 : (t186 == 5) = false := beq_eq_false_iff_ne.mpr c29
          have c29b1 : (t186 != 5) = true := bne_iff_ne.mpr c29
          obtain rfl := Option.some.inj H
          try go_wp2
          have n0_ := Aside0.mk (Kd.R_drew HO_1.out)
          have n1_ := Aside0.mk (Kd.R_drew HO_2.out)
          have n2_ := Aside0.mk (Kd.R_drew HO_4.out)
          have n3_ := Aside0.mk (below_drew1 HB.out)
          clear HO_1
          clear HO_2
          clear HO_4
          clear HB
          have HO_1 := n0_
          have HO_2 := n1_
          have HO_4 := n2_
          have HB := n3_
          clear n0_ n1_ n2_ n3_
          have p188 : 0 ≤ (0 : Int) := (by omega)
          have q188 : 0 < (t174.length : Int) := of_decide_eq_true (by first | (with_reducible assumption) | assumption)
          obtain ⟨ad188, e188, hx188_0, hx188_1, hx188_2, hx188_3⟩ := at_T25 (Kd.R_reads' HO_2.out).2.2 0 p188 q188
          cases e188
          have qi188 : (0 < t174.length) = True := eq_true (by omega)
          (try rw [show ((0 : Int)).toNat = 0 from rfl] at hx188_0)
          (try rw [show 0 * 4 = 0 from rfl] at hx188_0)
          (try rw [Addr.add_zero'] at hx188_0)
          (try rw [show ((0 : Int)).toNat = 0 from rfl] at hx188_1)
          (try rw [show 0 * 4 = 0 from rfl] at hx188_1)
          (try rw [Addr.add_zero'] at hx188_1)
          (try rw [show ((0 : Int)).toNat = 0 from rfl] at hx188_2)
          (try rw [show 0 * 4 = 0 from rfl] at hx188_2)
          (try rw [Addr.add_zero'] at hx188_2)
          (try rw [show ((0 : Int)).toNat = 0 from rfl] at hx188_3)
          (try rw [show 0 * 4 = 0 from rfl] at hx188_3)
          (try rw [Addr.add_zero'] at hx188_3)
          replace p188 := eq_true p188
          replace q188 := eq_true q188
          have p189 : 0 ≤ (0 : Int) := (by omega)
          have q189 : 0 < (y167.length : Int) := of_decide_eq_true (by first | (with_reducible assumption) | assumption)
          obtain ⟨ad189, e189, hx189_0, hx189_1, hx189_2, hx189_3⟩ := at_T25 (Kd.R_reads' HO_1.out).2.2 0 p189 q189
          cases e189
          have qi189 : (0 < y167.length) = True := eq_true (by omega)
          (try rw [show ((0 : Int)).toNat = 0 from rfl] at hx189_0)
          (try rw [show 0 * 4 = 0 from rfl] at hx189_0)
          (try rw [Addr.add_zero'] at hx189_0)
          (try rw [show ((0 : Int)).toNat = 0 from rfl] at hx189_1)
          (try rw [show 0 * 4 = 0 from rfl] at hx189_1)
          (try rw [Addr.add_zero'] at hx189_1)
          (try rw [show ((0 : Int)).toNat = 0 from rfl] at hx189_2)
          (try rw [show 0 * 4 = 0 from rfl] at hx189_2)
          (try rw [Addr.add_zero'] at hx189_2)
          (try rw [show ((0 : Int)).toNat = 0 from rfl] at hx189_3)
          (try rw [show 0 * 4 = 0 from rfl] at hx189_3)
          (try rw [Addr.add_zero'] at hx189_3)
          replace p189 := eq_true p189
          replace q189 := eq_true q189
          refine start_ (n := 12) (S := fun w' => w'.cell? ad188 = some (.string ((rd_T25 t174 0).f0.f0)) ∧ w'.cell? ⟨ad188.block, ad188.off + 1, none⟩ = some (.string ((rd_T25 t174 0).f0.f1)) ∧ w'.cell? ⟨ad188.block, ad188.off + 2, none⟩ = some (.string ((rd_T25 t174 0).f0.f2)) ∧ w'.cell? ⟨ad188.block, ad188.off + 3, none⟩ = some (.int .i64 ((rd_T25 t174 0).f1)) ∧ w'.cell? ad189 = some (.string ((rd_T25 y167 0).f0.f0)) ∧ w'.cell? ⟨ad189.block, ad189.off + 1, none⟩ = some (.string ((rd_T25 y167 0).f0.f1)) ∧ w'.cell? ⟨ad189.block, ad189.off + 2, none⟩ = some (.string ((rd_T25 y167 0).f0.f2)) ∧ w'.cell? ⟨ad189.block, ad189.off + 3, none⟩ = some (.int .i64 ((rd_T25 y167 0).f1))) (ds := []) (tf 0 12) (by kernel_rfl) rfl rfl ⟨hx188_0, hx188_1, hx188_2, hx188_3, hx189_0, hx189_1, hx189_2, hx189_3⟩ (fun hHeld => ?_); refine with_tabW sutlerlaw07_live.tab7 sutlerlaw07_live.bits7 (fun HT_ HW_ => ?_)
          generalize wc.drew = w92 at HO_1 HO_2 HO_4 HB hx188_0 hx188_1 hx188_2 hx188_3 hx189_0 hx189_1 hx189_2 hx189_3 hHeld ⊢
          refine pure_ (i := 0) (N := some 44) (v := ?_) (a' := ?_) (tf 1 11) rfl rfl (any_of HT_.out (by kernel_rfl)) (fun _ _ _ h => h) (Or.inl ⟨by rfl, ?_⟩) ?_ ?_
          rotate_left
          ·intro w'
           go_simp
           with_reducible rfl
          rotate_left
          ·simp only [Act.put, List.setIfInBounds_toArray, List.set_cons_zero, List.set_cons_succ, i64_w, i32_w]
           rfl
          refine pure_ (i := 1) (N := some 45) (v := ?_) (a' := ?_) (tf 2 10) rfl rfl (any_of HT_.out (by kernel_rfl)) (fun _ _ _ h => h) (Or.inl ⟨by rfl, ?_⟩) ?_ ?_
          rotate_left
          ·intro w'
           go_simp
           with_reducible rfl
          rotate_left
          ·simp only [Act.put, List.setIfInBounds_toArray, List.set_cons_zero, List.set_cons_succ, i64_w, i32_w]
           rfl
          refine pure_ (i := 2) (N := some 46) (v := ?_) (a' := ?_) (tf 3 9) rfl rfl (any_of HT_.out (by kernel_rfl)) (fun _ _ _ h => h) (Or.inl ⟨by rfl, ?_⟩) ?_ ?_
          rotate_left
          ·intro w'
           go_simp
           with_reducible rfl
          rotate_left
          ·simp only [Act.put, List.setIfInBounds_toArray, List.set_cons_zero, List.set_cons_succ, i64_w, i32_w]
           rfl
          refine pure_ (i := 3) (N := some 47) (v := ?_) (a' := ?_) (tf 4 8) rfl rfl (any_of HT_.out (by kernel_rfl)) (fun _ _ _ h => h) (Or.inl ⟨by rfl, ?_⟩) ?_ ?_
          rotate_left
          ·intro w'
           go_simp
           with_reducible rfl
          rotate_left
          ·simp only [Act.put, List.setIfInBounds_toArray, List.set_cons_zero, List.set_cons_succ, i64_w, i32_w]
           rfl
          refine pure_ (i := 5) (N := some 49) (v := ?_) (a' := ?_) #[true, true, true, true, false, true, false, false, false, false, false, false] rfl rfl (any_of HT_.out (by kernel_rfl)) (fun _ _ _ h => h) (Or.inl ⟨by rfl, ?_⟩) ?_ ?_
          rotate_left
          ·intro w'
           go_simp
           with_reducible rfl
          rotate_left
          ·simp only [Act.put, List.setIfInBounds_toArray, List.set_cons_zero, List.set_cons_succ, i64_w, i32_w]
           rfl
          refine pure_ (i := 6) (N := some 50) (v := ?_) (a' := ?_) #[true, true, true, true, false, true, true, false, false, false, false, false] rfl rfl (any_of HT_.out (by kernel_rfl)) (fun _ _ _ h => h) (Or.inl ⟨by rfl, ?_⟩) ?_ ?_
          rotate_left
          ·intro w'
           go_simp
           with_reducible rfl
          rotate_left
          ·simp only [Act.put, List.setIfInBounds_toArray, List.set_cons_zero, List.set_cons_succ, i64_w, i32_w]
           rfl
          refine pure_ (i := 7) (N := some 51) (v := ?_) (a' := ?_) #[true, true, true, true, false, true, true, true, false, false, false, false] rfl rfl (any_of HT_.out (by kernel_rfl)) (fun _ _ _ h => h) (Or.inl ⟨by rfl, ?_⟩) ?_ ?_
          rotate_left
          ·intro w'
           go_simp
           with_reducible rfl
          rotate_left
          ·simp only [Act.put, List.setIfInBounds_toArray, List.set_cons_zero, List.set_cons_succ, i64_w, i32_w]
           rfl
          refine take_ (i := 4) (N := some 48) (v := ?_) (a' := ?_) (tf 8 4) rfl rfl (take_ofW HT_.out HW_.out (by kernel_rfl)) (fun _ _ _ h => h) (Or.inl ⟨by rfl, ?_⟩) hHeld ?_ ?_
          rotate_left
          ·rintro w' ⟨s0, s1, s2, s3, s4, s5, s6, s7⟩
           go_simp
           with_reducible rfl
          rotate_left
          ·simp only [Act.put, List.setIfInBounds_toArray, List.set_cons_zero, List.set_cons_succ, i64_w, i32_w]
           rfl
          refine take_ (i := 8) (N := some 52) (v := ?_) (a' := ?_) (tf 9 3) rfl rfl (take_ofW HT_.out HW_.out (by kernel_rfl)) (fun _ _ _ h => h) (Or.inl ⟨by rfl, ?_⟩) hHeld ?_ ?_
          rotate_left
          ·rintro w' ⟨s0, s1, s2, s3, s4, s5, s6, s7⟩
           go_simp
           with_reducible rfl
          rotate_left
          ·simp only [Act.put, List.setIfInBounds_toArray, List.set_cons_zero, List.set_cons_succ, i64_w, i32_w]
           rfl
          refine one_ (i := 9) (N := some 53) (tf 10 2) rfl rfl (one_of HT_.out (by kernel_rfl)) (by decide) (fun K hK => ?_)
          refine Kd.R_lit_step k23 _ 23 ?hg (N := 53) ?hd (xs := ([(⟨(rd_T25 t174 0).f0.f0, (rd_T25 t174 0).f0.f1, (rd_T25 t174 0).f0.f2⟩ : S23), (⟨(rd_T25 y167 0).f0.f0, (rd_T25 y167 0).f0.f1, (rd_T25 y167 0).f0.f2⟩ : S23)] : List (S23))) (inner := [.string ((rd_T25 t174 0).f0.f0), .string ((rd_T25 t174 0).f0.f1), .string ((rd_T25 t174 0).f0.f2), .string ((rd_T25 y167 0).f0.f0), .string ((rd_T25 y167 0).f0.f1), .string ((rd_T25 y167 0).f0.f2)]) (ok := fun _ => True) (okp := fun _ => True) ?hr ?hp (fun _ hk => hk) trivial (Below.refl _ _) (Nat.le_refl _) (by simp) ?_; (case hd => rfl); (case hg => rfl); (case hr => first | (go_simp; done) | (go_simp; rfl)); (case hp => exact (Reps.c3 (show Kd.M k23 _ _ _ (⟨(rd_T25 t174 0).f0.f0, (rd_T25 t174 0).f0.f1, (rd_T25 t174 0).f0.f2⟩ : S23) [.string ((rd_T25 t174 0).f0.f0), .string ((rd_T25 t174 0).f0.f1), .string ((rd_T25 t174 0).f0.f2)] from (k23_mkM _ _ _ (⟨(rd_T25 t174 0).f0.f0, (rd_T25 t174 0).f0.f1, (rd_T25 t174 0).f0.f2⟩ : S23) )) (Reps.c3 (show Kd.M k23 _ _ _ (⟨(rd_T25 y167 0).f0.f0, (rd_T25 y167 0).f0.f1, (rd_T25 y167 0).f0.f2⟩ : S23) [.string ((rd_T25 y167 0).f0.f0), .string ((rd_T25 y167 0).f0.f1), .string ((rd_T25 y167 0).f0.f2)] from (k23_mkM _ _ _ (⟨(rd_T25 y167 0).f0.f0, (rd_T25 y167 0).f0.f1, (rd_T25 y167 0).f0.f2⟩ : S23) )) (Reps.none _ _))))
          intro v191 w93 ho94 hb hg_ hnew_
          have HS0_ := (hb.cell (World.block_lt_of_cell? _ _ (hHeld.1))).trans (hHeld.1)
          have HS1_ := (hb.cell (World.block_lt_of_cell? _ _ (hHeld.2.1))).trans (hHeld.2.1)
          have HS2_ := (hb.cell (World.block_lt_of_cell? _ _ (hHeld.2.2.1))).trans (hHeld.2.2.1)
          have HS3_ := (hb.cell (World.block_lt_of_cell? _ _ (hHeld.2.2.2.1))).trans (hHeld.2.2.2.1)
          have HS4_ := (hb.cell (World.block_lt_of_cell? _ _ (hHeld.2.2.2.2.1))).trans (hHeld.2.2.2.2.1)
          have HS5_ := (hb.cell (World.block_lt_of_cell? _ _ (hHeld.2.2.2.2.2.1))).trans (hHeld.2.2.2.2.2.1)
          have HS6_ := (hb.cell (World.block_lt_of_cell? _ _ (hHeld.2.2.2.2.2.2.1))).trans (hHeld.2.2.2.2.2.2.1)
          have HS7_ := (hb.cell (World.block_lt_of_cell? _ _ (hHeld.2.2.2.2.2.2.2))).trans (hHeld.2.2.2.2.2.2.2)
          clear hg_ hnew_
          (first | rw [← Ny190.out] at ho94 | (simp only [Int.reduceToNat] at ho94; rw [← Ny190.out] at ho94))
          have n0_ := Aside0.mk (Kd.R_below (by (with_reducible repeat (first | apply Kd.R_alloc | apply Kd.R_drewN | apply Kd.R_drew)); exact HO_1.out) hb)
          have n1_ := Aside0.mk (Kd.R_below (by (with_reducible repeat (first | apply Kd.R_alloc | apply Kd.R_drewN | apply Kd.R_drew)); exact HO_2.out) hb)
          have n2_ := Aside0.mk (Kd.R_below (by (with_reducible repeat (first | apply Kd.R_alloc | apply Kd.R_drewN | apply Kd.R_drew)); exact HO_4.out) hb)
          have n3_ := Aside0.mk (Kd.R_lower ho94 (below_size (by repeat (first | (with_reducible first | exact HB.out | apply below_alloc | apply pw_below_drewN | apply below_drew1) | exact HB.out))))
          have n4_ := Aside0.mk (below_step (by repeat (first | (with_reducible first | exact HB.out | apply below_alloc | apply pw_below_drewN | apply below_drew1) | exact HB.out)) hb)
          clear HO_1
          clear HO_2
          clear HO_4
          clear HB
          have HO_1 := n0_
          have HO_2 := n1_
          have HO_4 := n2_
          have HO192 := n3_
          have HB := n4_
          clear n0_ n1_ n2_ n3_ n4_
          clear hb ho94
          obtain ⟨Ao95, co95, eo95⟩ := Kd.R_slice HO192.out
          (first | subst eo95 | (injection eo95 with f1_ f2_ f3_; have f4_ := f1_.symm; have f5_ := f3_.symm; clear f1_ f2_ f3_; subst f4_; subst f5_))
          refine hK.out _ _ ⟨HS0_, HS1_, HS2_, HS3_, HS4_, HS5_, HS6_, HS7_⟩ (fun hHeld => ?_)
          clear hK K
          refine norm_ (a' := ?_) ?_ ?_
          rotate_left
          ·show Act.put _ (some 53) _ = _
           simp only [Act.put, List.setIfInBounds_toArray, List.set_cons_zero, List.set_cons_succ, i64_w, i32_w]
           rfl
          refine one_ (i := 10) (N := some 54) (tf 11 1) rfl rfl (one_of HT_.out (by kernel_rfl)) (by decide) (fun K hK => ?_)
          refine goes_ Try.func15 (by kernel_rfl) rfl #[.slice (some ad189) y167.length co12, .slice Ao95 y190.length co95, .int .i64 10] (by rfl) rfl rfl (by (try simp only [List.map_toArray, List.map_cons, List.map_nil]); first | done | rfl | (simp only [List.length_drop, List.length_take]; rfl)) ?_
          with_reducible refine (cool_Left.calls _ _ y167 _ _ y190 10 t193 _ ?side1 ?side2 ?side3 ?side4 A25.out).mono ?_
          (case side1 => repeat (first | exact (Kd.R_reads' HO_1.out).2.2 | (with_reducible refine Kd.C_alloc ?_ _) | (with_reducible refine Kd.C_drewN ?_ _) | (with_reducible refine Kd.C_drew ?_)))
          (case side2 => exact (Kd.R_reads' HO_1.out).2.1)
          (case side3 => repeat (first | exact (Kd.R_reads' HO192.out).2.2 | (with_reducible refine Kd.C_alloc ?_ _) | (with_reducible refine Kd.C_drewN ?_ _) | (with_reducible refine Kd.C_drew ?_)))
          (case side4 => exact (Kd.R_reads' HO192.out).2.1)
          rintro e w96 ⟨v194, rfl, ho0, hb⟩
          have HS0_ := (hb.cell (World.block_lt_of_cell? _ _ (hHeld.1))).trans (hHeld.1)
          have HS1_ := (hb.cell (World.block_lt_of_cell? _ _ (hHeld.2.1))).trans (hHeld.2.1)
          have HS2_ := (hb.cell (World.block_lt_of_cell? _ _ (hHeld.2.2.1))).trans (hHeld.2.2.1)
          have HS3_ := (hb.cell (World.block_lt_of_cell? _ _ (hHeld.2.2.2.1))).trans (hHeld.2.2.2.1)
          have HS4_ := (hb.cell (World.block_lt_of_cell? _ _ (hHeld.2.2.2.2.1))).trans (hHeld.2.2.2.2.1)
          have HS5_ := (hb.cell (World.block_lt_of_cell? _ _ (hHeld.2.2.2.2.2.1))).trans (hHeld.2.2.2.2.2.1)
          have HS6_ := (hb.cell (World.block_lt_of_cell? _ _ (hHeld.2.2.2.2.2.2.1))).trans (hHeld.2.2.2.2.2.2.1)
          have HS7_ := (hb.cell (World.block_lt_of_cell? _ _ (hHeld.2.2.2.2.2.2.2))).trans (hHeld.2.2.2.2.2.2.2)
          refine ⟨_, rfl, ?_⟩
          have n0_ := Aside0.mk (Kd.R_below (by (with_reducible repeat (first | apply Kd.R_alloc | apply Kd.R_drewN | apply Kd.R_drew)); exact HO_1.out) hb)
          have n1_ := Aside0.mk (Kd.R_below (by (with_reducible repeat (first | apply Kd.R_alloc | apply Kd.R_drewN | apply Kd.R_drew)); exact HO_2.out) hb)
          have n2_ := Aside0.mk (Kd.R_below (by (with_reducible repeat (first | apply Kd.R_alloc | apply Kd.R_drewN | apply Kd.R_drew)); exact HO_4.out) hb)
          have n3_ := Aside0.mk (Kd.R_elder' (by (with_reducible repeat (first | apply Kd.R_alloc | apply Kd.R_drewN | apply Kd.R_drew)); exact HO192.out) (Kd.R_base ho0) hb)
          have n4_ := Aside0.mk (Kd.R_lower (Kd.R_new' ho0 (Kd.R_lt (by (with_reducible repeat (first | apply Kd.R_alloc | apply Kd.R_drewN | apply Kd.R_drew)); exact HO192.out))) (below_size (by repeat (first | (with_reducible first | exact HB.out | apply below_alloc | apply pw_below_drewN | apply below_drew1) | exact HB.out))))
          have n5_ := Aside0.mk (below_step (by repeat (first | (with_reducible first | exact HB.out | apply below_alloc | apply pw_below_drewN | apply below_drew1) | exact HB.out)) hb)
          clear HO_1
          clear HO_2
          clear HO_4
          clear HO192
          clear HB
          have HO_1 := n0_
          have HO_2 := n1_
          have HO_4 := n2_
          have HO192 := n3_
          have HO195 := n4_
          have HB := n5_
          clear n0_ n1_ n2_ n3_ n4_ n5_
          (try clear hb)
          (try clear hb2)
          (try clear hk)
          (try clear hi)
          (try clear ho0)
          refine hK.out _ _ ⟨HS0_, HS1_, HS2_, HS3_, HS4_, HS5_, HS6_, HS7_⟩ (fun hHeld => ?_)
          clear hK K
          refine norm_ (a' := ?_) ?_ ?_
          rotate_left
          ·show Act.put _ (some 54) _ = _
           simp only [Act.put, List.setIfInBounds_toArray, List.set_cons_zero, List.set_cons_succ, i64_w, i32_w]
           rfl
          refine pure_ (i := 11) (N := some 8) (v := ?_) (a' := ?_) (tf 12 0) rfl rfl (any_of HT_.out (by kernel_rfl)) (fun _ _ _ h => h) (Or.inl ⟨by rfl, ?_⟩) ?_ ?_
          rotate_left
          ·intro w'
           go_simp
           with_reducible rfl
          rotate_left
          ·simp only [Act.put, List.setIfInBounds_toArray, List.set_cons_zero, List.set_cons_succ, i64_w, i32_w]
           rfl
          refine done_ (done_of HT_.out (by kernel_rfl)) ?_
          have p196 : 0 ≤ (0 : Int) := (by omega)
          have q196 : 0 < (t174.length : Int) := of_decide_eq_true (by first | (with_reducible assumption) | assumption)
          obtain ⟨ad196, e196, hx196_0, hx196_1, hx196_2, hx196_3⟩ := at_T25 (Kd.R_reads' HO_2.out).2.2 0 p196 q196
          obtain rfl : ad188 = ad196 := (by injection e196)
          have qi196 : (0 < t174.length) = True := eq_true (by omega)
          (try rw [show ((0 : Int)).toNat = 0 from rfl] at hx196_0)
          (try rw [show 0 * 4 = 0 from rfl] at hx196_0)
          (try rw [Addr.add_zero'] at hx196_0)
          (try rw [show ((0 : Int)).toNat = 0 from rfl] at hx196_1)
          (try rw [show 0 * 4 = 0 from rfl] at hx196_1)
          (try rw [Addr.add_zero'] at hx196_1)
          (try rw [show ((0 : Int)).toNat = 0 from rfl] at hx196_2)
          (try rw [show 0 * 4 = 0 from rfl] at hx196_2)
          (try rw [Addr.add_zero'] at hx196_2)
          (try rw [show ((0 : Int)).toNat = 0 from rfl] at hx196_3)
          (try rw [show 0 * 4 = 0 from rfl] at hx196_3)
          (try rw [Addr.add_zero'] at hx196_3)
          replace p196 := eq_true p196
          replace q196 := eq_true q196
          obtain ⟨Ao97, co97, eo97⟩ := Kd.R_slice HO_4.out
          subst eo97
          have p197 : 0 ≤ (0 : Int) := (by omega)
          have q197 : 0 < (t182.length : Int) := of_decide_eq_true (by first | (with_reducible assumption) | assumption)
          obtain ⟨ad197, e197, hx197_0, hx197_1, hx197_2, hx197_3⟩ := at_T25 (Kd.R_reads' HO_4.out).2.2 0 p197 q197
          cases e197
          have qi197 : (0 < t182.length) = True := eq_true (by omega)
          (try rw [show ((0 : Int)).toNat = 0 from rfl] at hx197_0)
          (try rw [show 0 * 4 = 0 from rfl] at hx197_0)
          (try rw [Addr.add_zero'] at hx197_0)
          (try rw [show ((0 : Int)).toNat = 0 from rfl] at hx197_1)
          (try rw [show 0 * 4 = 0 from rfl] at hx197_1)
          (try rw [Addr.add_zero'] at hx197_1)
          (try rw [show ((0 : Int)).toNat = 0 from rfl] at hx197_2)
          (try rw [show 0 * 4 = 0 from rfl] at hx197_2)
          (try rw [Addr.add_zero'] at hx197_2)
          (try rw [show ((0 : Int)).toNat = 0 from rfl] at hx197_3)
          (try rw [show 0 * 4 = 0 from rfl] at hx197_3)
          (try rw [Addr.add_zero'] at hx197_3)
          replace p197 := eq_true p197
          replace q197 := eq_true q197
          try go_wp2
          go_ret
          exact ⟨by first | rfl | (simp [errW_none, errW_some] <;> rfl) | (simp [*, errW_none, errW_some] <;> rfl), by repeat (first | (with_reducible first | exact HB.out | apply below_alloc | apply pw_below_drewN | apply below_drew1) | exact HB.out)⟩
        ·rw [if_neg c28] at H
         have c28b0 : (((rd_T25 t182 0).f1) == 9) = false := beq_eq_false_iff_ne.mpr c28
         have c28b1 : (((rd_T25 t182 0).f1) != 9) = true := bne_iff_ne.mpr c28
         obtain rfl := Option.some.inj H
         try go_wp2
         have n0_ := Aside0.mk (Kd.R_drew HO_1.out)
         have n1_ := Aside0.mk (Kd.R_drew HO_2.out)
         have n2_ := Aside0.mk (Kd.R_drew HO_4.out)
         have n3_ := Aside0.mk (below_drew1 HB.out)
         clear HO_1
         clear HO_2
         clear HO_4
         clear HB
         have HO_1 := n0_
         have HO_2 := n1_
         have HO_4 := n2_
         have HB := n3_
         clear n0_ n1_ n2_ n3_
         have p188 : 0 ≤ (0 : Int) := (by omega)
         have q188 : 0 < (t174.length : Int) := of_decide_eq_true (by first | (with_reducible assumption) | assumption)
         obtain ⟨ad188, e188, hx188_0, hx188_1, hx188_2, hx188_3⟩ := at_T25 (Kd.R_reads' HO_2.out).2.2 0 p188 q188
         cases e188
         have qi188 : (0 < t174.length) = True := eq_true (by omega)
         (try rw [show ((0 : Int)).toNat = 0 from rfl] at hx188_0)
         (try rw [show 0 * 4 = 0 from rfl] at hx188_0)
         (try rw [Addr.add_zero'] at hx188_0)
         (try rw [show ((0 : Int)).toNat = 0 from rfl] at hx188_1)
         (try rw [show 0 * 4 = 0 from rfl] at hx188_1)
         (try rw [Addr.add_zero'] at hx188_1)
         (try rw [show ((0 : Int)).toNat = 0 from rfl] at hx188_2)
         (try rw [show 0 * 4 = 0 from rfl] at hx188_2)
         (try rw [Addr.add_zero'] at hx188_2)
         (try rw [show ((0 : Int)).toNat = 0 from rfl] at hx188_3)
         (try rw [show 0 * 4 = 0 from rfl] at hx188_3)
         (try rw [Addr.add_zero'] at hx188_3)
         replace p188 := eq_true p188
         replace q188 := eq_true q188
         have p189 : 0 ≤ (0 : Int) := (by omega)
         have q189 : 0 < (y167.length : Int) := of_decide_eq_true (by first | (with_reducible assumption) | assumption)
         obtain ⟨ad189, e189, hx189_0, hx189_1, hx189_2, hx189_3⟩ := at_T25 (Kd.R_reads' HO_1.out).2.2 0 p189 q189
         cases e189
         have qi189 : (0 < y167.length) = True := eq_true (by omega)
         (try rw [show ((0 : Int)).toNat = 0 from rfl] at hx189_0)
         (try rw [show 0 * 4 = 0 from rfl] at hx189_0)
         (try rw [Addr.add_zero'] at hx189_0)
         (try rw [show ((0 : Int)).toNat = 0 from rfl] at hx189_1)
         (try rw [show 0 * 4 = 0 from rfl] at hx189_1)
         (try rw [Addr.add_zero'] at hx189_1)
         (try rw [show ((0 : Int)).toNat = 0 from rfl] at hx189_2)
         (try rw [show 0 * 4 = 0 from rfl] at hx189_2)
         (try rw [Addr.add_zero'] at hx189_2)
         (try rw [show ((0 : Int)).toNat = 0 from rfl] at hx189_3)
         (try rw [show 0 * 4 = 0 from rfl] at hx189_3)
         (try rw [Addr.add_zero'] at hx189_3)
         replace p189 := eq_true p189
         replace q189 := eq_true q189
         refine start_ (n := 12) (S := fun w' => w'.cell? ad188 = some (.string ((rd_T25 t174 0).f0.f0)) ∧ w'.cell? ⟨ad188.block, ad188.off + 1, none⟩ = some (.string ((rd_T25 t174 0).f0.f1)) ∧ w'.cell? ⟨ad188.block, ad188.off + 2, none⟩ = some (.string ((rd_T25 t174 0).f0.f2)) ∧ w'.cell? ⟨ad188.block, ad188.off + 3, none⟩ = some (.int .i64 ((rd_T25 t174 0).f1)) ∧ w'.cell? ad189 = some (.string ((rd_T25 y167 0).f0.f0)) ∧ w'.cell? ⟨ad189.block, ad189.off + 1, none⟩ = some (.string ((rd_T25 y167 0).f0.f1)) ∧ w'.cell? ⟨ad189.block, ad189.off + 2, none⟩ = some (.string ((rd_T25 y167 0).f0.f2)) ∧ w'.cell? ⟨ad189.block, ad189.off + 3, none⟩ = some (.int .i64 ((rd_T25 y167 0).f1))) (ds := []) (tf 0 12) (by kernel_rfl) rfl rfl ⟨hx188_0, hx188_1, hx188_2, hx188_3, hx189_0, hx189_1, hx189_2, hx189_3⟩ (fun hHeld => ?_); refine with_tabW sutlerlaw07_live.tab7 sutlerlaw07_live.bits7 (fun HT_ HW_ => ?_)
         generalize wc.drew = w98 at HO_1 HO_2 HO_4 HB hx188_0 hx188_1 hx188_2 hx188_3 hx189_0 hx189_1 hx189_2 hx189_3 hHeld ⊢
         refine pure_ (i := 0) (N := some 44) (v := ?_) (a' := ?_) (tf 1 11) rfl rfl (any_of HT_.out (by kernel_rfl)) (fun _ _ _ h => h) (Or.inl ⟨by rfl, ?_⟩) ?_ ?_
         rotate_left
         ·intro w'
          go_simp
          with_reducible rfl
         rotate_left
         ·simp only [Act.put, List.setIfInBounds_toArray, List.set_cons_zero, List.set_cons_succ, i64_w, i32_w]
          rfl
         refine pure_ (i := 1) (N := some 45) (v := ?_) (a' := ?_) (tf 2 10) rfl rfl (any_of HT_.out (by kernel_rfl)) (fun _ _ _ h => h) (Or.inl ⟨by rfl, ?_⟩) ?_ ?_
         rotate_left
         ·intro w'
          go_simp
          with_reducible rfl
         rotate_left
         ·simp only [Act.put, List.setIfInBounds_toArray, List.set_cons_zero, List.set_cons_succ, i64_w, i32_w]
          rfl
         refine pure_ (i := 2) (N := some 46) (v := ?_) (a' := ?_) (tf 3 9) rfl rfl (any_of HT_.out (by kernel_rfl)) (fun _ _ _ h => h) (Or.inl ⟨by rfl, ?_⟩) ?_ ?_
         rotate_left
         ·intro w'
          go_simp
          with_reducible rfl
         rotate_left
         ·simp only [Act.put, List.setIfInBounds_toArray, List.set_cons_zero, List.set_cons_succ, i64_w, i32_w]
          rfl
         refine pure_ (i := 3) (N := some 47) (v := ?_) (a' := ?_) (tf 4 8) rfl rfl (any_of HT_.out (by kernel_rfl)) (fun _ _ _ h => h) (Or.inl ⟨by rfl, ?_⟩) ?_ ?_
         rotate_left
         ·intro w'
          go_simp
          with_reducible rfl
         rotate_left
         ·simp only [Act.put, List.setIfInBounds_toArray, List.set_cons_zero, List.set_cons_succ, i64_w, i32_w]
          rfl
         refine pure_ (i := 5) (N := some 49) (v := ?_) (a' := ?_) #[true, true, true, true, false, true, false, false, false, false, false, false] rfl rfl (any_of HT_.out (by kernel_rfl)) (fun _ _ _ h => h) (Or.inl ⟨by rfl, ?_⟩) ?_ ?_
         rotate_left
         ·intro w'
          go_simp
          with_reducible rfl
         rotate_left
         ·simp only [Act.put, List.setIfInBounds_toArray, List.set_cons_zero, List.set_cons_succ, i64_w, i32_w]
          rfl
         refine pure_ (i := 6) (N := some 50) (v := ?_) (a' := ?_) #[true, true, true, true, false, true, true, false, false, false, false, false] rfl rfl (any_of HT_.out (by kernel_rfl)) (fun _ _ _ h => h) (Or.inl ⟨by rfl, ?_⟩) ?_ ?_
         rotate_left
         ·intro w'
          go_simp
          with_reducible rfl
         rotate_left
         ·simp only [Act.put, List.setIfInBounds_toArray, List.set_cons_zero, List.set_cons_succ, i64_w, i32_w]
          rfl
         refine pure_ (i := 7) (N := some 51) (v := ?_) (a' := ?_) #[true, true, true, true, false, true, true, true, false, false, false, false] rfl rfl (any_of HT_.out (by kernel_rfl)) (fun _ _ _ h => h) (Or.inl ⟨by rfl, ?_⟩) ?_ ?_
         rotate_left
         ·intro w'
          go_simp
          with_reducible rfl
         rotate_left
         ·simp only [Act.put, List.setIfInBounds_toArray, List.set_cons_zero, List.set_cons_succ, i64_w, i32_w]
          rfl
         refine take_ (i := 4) (N := some 48) (v := ?_) (a' := ?_) (tf 8 4) rfl rfl (take_ofW HT_.out HW_.out (by kernel_rfl)) (fun _ _ _ h => h) (Or.inl ⟨by rfl, ?_⟩) hHeld ?_ ?_
         rotate_left
         ·rintro w' ⟨s0, s1, s2, s3, s4, s5, s6, s7⟩
          go_simp
          with_reducible rfl
         rotate_left
         ·simp only [Act.put, List.setIfInBounds_toArray, List.set_cons_zero, List.set_cons_succ, i64_w, i32_w]
          rfl
         refine take_ (i := 8) (N := some 52) (v := ?_) (a' := ?_) (tf 9 3) rfl rfl (take_ofW HT_.out HW_.out (by kernel_rfl)) (fun _ _ _ h => h) (Or.inl ⟨by rfl, ?_⟩) hHeld ?_ ?_
         rotate_left
         ·rintro w' ⟨s0, s1, s2, s3, s4, s5, s6, s7⟩
          go_simp
          with_reducible rfl
         rotate_left
         ·simp only [Act.put, List.setIfInBounds_toArray, List.set_cons_zero, List.set_cons_succ, i64_w, i32_w]
          rfl
         refine one_ (i := 9) (N := some 53) (tf 10 2) rfl rfl (one_of HT_.out (by kernel_rfl)) (by decide) (fun K hK => ?_)
         refine Kd.R_lit_step k23 _ 23 ?hg (N := 53) ?hd (xs := ([(⟨(rd_T25 t174 0).f0.f0, (rd_T25 t174 0).f0.f1, (rd_T25 t174 0).f0.f2⟩ : S23), (⟨(rd_T25 y167 0).f0.f0, (rd_T25 y167 0).f0.f1, (rd_T25 y167 0).f0.f2⟩ : S23)] : List (S23))) (inner := [.string ((rd_T25 t174 0).f0.f0), .string ((rd_T25 t174 0).f0.f1), .string ((rd_T25 t174 0).f0.f2), .string ((rd_T25 y167 0).f0.f0), .string ((rd_T25 y167 0).f0.f1), .string ((rd_T25 y167 0).f0.f2)]) (ok := fun _ => True) (okp := fun _ => True) ?hr ?hp (fun _ hk => hk) trivial (Below.refl _ _) (Nat.le_refl _) (by simp) ?_; (case hd => rfl); (case hg => rfl); (case hr => first | (go_simp; done) | (go_simp; rfl)); (case hp => exact (Reps.c3 (show Kd.M k23 _ _ _ (⟨(rd_T25 t174 0).f0.f0, (rd_T25 t174 0).f0.f1, (rd_T25 t174 0).f0.f2⟩ : S23) [.string ((rd_T25 t174 0).f0.f0), .string ((rd_T25 t174 0).f0.f1), .string ((rd_T25 t174 0).f0.f2)] from (k23_mkM _ _ _ (⟨(rd_T25 t174 0).f0.f0, (rd_T25 t174 0).f0.f1, (rd_T25 t174 0).f0.f2⟩ : S23) )) (Reps.c3 (show Kd.M k23 _ _ _ (⟨(rd_T25 y167 0).f0.f0, (rd_T25 y167 0).f0.f1, (rd_T25 y167 0).f0.f2⟩ : S23) [.string ((rd_T25 y167 0).f0.f0), .string ((rd_T25 y167 0).f0.f1), .string ((rd_T25 y167 0).f0.f2)] from (k23_mkM _ _ _ (⟨(rd_T25 y167 0).f0.f0, (rd_T25 y167 0).f0.f1, (rd_T25 y167 0).f0.f2⟩ : S23) )) (Reps.none _ _))))
         intro v191 w99 ho100 hb hg_ hnew_
         have HS0_ := (hb.cell (World.block_lt_of_cell? _ _ (hHeld.1))).trans (hHeld.1)
         have HS1_ := (hb.cell (World.block_lt_of_cell? _ _ (hHeld.2.1))).trans (hHeld.2.1)
         have HS2_ := (hb.cell (World.block_lt_of_cell? _ _ (hHeld.2.2.1))).trans (hHeld.2.2.1)
         have HS3_ := (hb.cell (World.block_lt_of_cell? _ _ (hHeld.2.2.2.1))).trans (hHeld.2.2.2.1)
         have HS4_ := (hb.cell (World.block_lt_of_cell? _ _ (hHeld.2.2.2.2.1))).trans (hHeld.2.2.2.2.1)
         have HS5_ := (hb.cell (World.block_lt_of_cell? _ _ (hHeld.2.2.2.2.2.1))).trans (hHeld.2.2.2.2.2.1)
         have HS6_ := (hb.cell (World.block_lt_of_cell? _ _ (hHeld.2.2.2.2.2.2.1))).trans (hHeld.2.2.2.2.2.2.1)
         have HS7_ := (hb.cell (World.block_lt_of_cell? _ _ (hHeld.2.2.2.2.2.2.2))).trans (hHeld.2.2.2.2.2.2.2)
         clear hg_ hnew_
         (first | rw [← Ny190.out] at ho100 | (simp only [Int.reduceToNat] at ho100; rw [← Ny190.out] at ho100))
         have n0_ := Aside0.mk (Kd.R_below (by (with_reducible repeat (first | apply Kd.R_alloc | apply Kd.R_drewN | apply Kd.R_drew)); exact HO_1.out) hb)
         have n1_ := Aside0.mk (Kd.R_below (by (with_reducible repeat (first | apply Kd.R_alloc | apply Kd.R_drewN | apply Kd.R_drew)); exact HO_2.out) hb)
         have n2_ := Aside0.mk (Kd.R_below (by (with_reducible repeat (first | apply Kd.R_alloc | apply Kd.R_drewN | apply Kd.R_drew)); exact HO_4.out) hb)
         have n3_ := Aside0.mk (Kd.R_lower ho100 (below_size (by repeat (first | (with_reducible first | exact HB.out | apply below_alloc | apply pw_below_drewN | apply below_drew1) | exact HB.out))))
         have n4_ := Aside0.mk (below_step (by repeat (first | (with_reducible first | exact HB.out | apply below_alloc | apply pw_below_drewN | apply below_drew1) | exact HB.out)) hb)
         clear HO_1
         clear HO_2
         clear HO_4
         clear HB
         have HO_1 := n0_
         have HO_2 := n1_
         have HO_4 := n2_
         have HO192 := n3_
         have HB := n4_
         clear n0_ n1_ n2_ n3_ n4_
         clear hb ho100
         obtain ⟨Ao101, co101, eo101⟩ := Kd.R_slice HO192.out
         (first | subst eo101 | (injection eo101 with f1_ f2_ f3_; have f4_ := f1_.symm; have f5_ := f3_.symm; clear f1_ f2_ f3_; subst f4_; subst f5_))
         refine hK.out _ _ ⟨HS0_, HS1_, HS2_, HS3_, HS4_, HS5_, HS6_, HS7_⟩ (fun hHeld => ?_)
         clear hK K
         refine norm_ (a' := ?_) ?_ ?_
         rotate_left
         ·show Act.put _ (some 53) _ = _
          simp only [Act.put, List.setIfInBounds_toArray, List.set_cons_zero, List.set_cons_succ, i64_w, i32_w]
          rfl
         refine one_ (i := 10) (N := some 54) (tf 11 1) rfl rfl (one_of HT_.out (by kernel_rfl)) (by decide) (fun K hK => ?_)
         refine goes_ Try.func15 (by kernel_rfl) rfl #[.slice (some ad189) y167.length co12, .slice Ao101 y190.length co101, .int .i64 10] (by rfl) rfl rfl (by (try simp only [List.map_toArray, List.map_cons, List.map_nil]); first | done | rfl | (simp only [List.length_drop, List.length_take]; rfl)) ?_
         with_reducible refine (cool_Left.calls _ _ y167 _ _ y190 10 t193 _ ?side1 ?side2 ?side3 ?side4 A25.out).mono ?_
         (case side1 => repeat (first | exact (Kd.R_reads' HO_1.out).2.2 | (with_reducible refine Kd.C_alloc ?_ _) | (with_reducible refine Kd.C_drewN ?_ _) | (with_reducible refine Kd.C_drew ?_)))
         (case side2 => exact (Kd.R_reads' HO_1.out).2.1)
         (case side3 => repeat (first | exact (Kd.R_reads' HO192.out).2.2 | (with_reducible refine Kd.C_alloc ?_ _) | (with_reducible refine Kd.C_drewN ?_ _) | (with_reducible refine Kd.C_drew ?_)))
         (case side4 => exact (Kd.R_reads' HO192.out).2.1)
         rintro e w102 ⟨v194, rfl, ho0, hb⟩
         have HS0_ := (hb.cell (World.block_lt_of_cell? _ _ (hHeld.1))).trans (hHeld.1)
         have HS1_ := (hb.cell (World.block_lt_of_cell? _ _ (hHeld.2.1))).trans (hHeld.2.1)
         have HS2_ := (hb.cell (World.block_lt_of_cell? _ _ (hHeld.2.2.1))).trans (hHeld.2.2.1)
         have HS3_ := (hb.cell (World.block_lt_of_cell? _ _ (hHeld.2.2.2.1))).trans (hHeld.2.2.2.1)
         have HS4_ := (hb.cell (World.block_lt_of_cell? _ _ (hHeld.2.2.2.2.1))).trans (hHeld.2.2.2.2.1)
         have HS5_ := (hb.cell (World.block_lt_of_cell? _ _ (hHeld.2.2.2.2.2.1))).trans (hHeld.2.2.2.2.2.1)
         have HS6_ := (hb.cell (World.block_lt_of_cell? _ _ (hHeld.2.2.2.2.2.2.1))).trans (hHeld.2.2.2.2.2.2.1)
         have HS7_ := (hb.cell (World.block_lt_of_cell? _ _ (hHeld.2.2.2.2.2.2.2))).trans (hHeld.2.2.2.2.2.2.2)
         refine ⟨_, rfl, ?_⟩
         have n0_ := Aside0.mk (Kd.R_below (by (with_reducible repeat (first | apply Kd.R_alloc | apply Kd.R_drewN | apply Kd.R_drew)); exact HO_1.out) hb)
         have n1_ := Aside0.mk (Kd.R_below (by (with_reducible repeat (first | apply Kd.R_alloc | apply Kd.R_drewN | apply Kd.R_drew)); exact HO_2.out) hb)
         have n2_ := Aside0.mk (Kd.R_below (by (with_reducible repeat (first | apply Kd.R_alloc | apply Kd.R_drewN | apply Kd.R_drew)); exact HO_4.out) hb)
         have n3_ := Aside0.mk (Kd.R_elder' (by (with_reducible repeat (first | apply Kd.R_alloc | apply Kd.R_drewN | apply Kd.R_drew)); exact HO192.out) (Kd.R_base ho0) hb)
         have n4_ := Aside0.mk (Kd.R_lower (Kd.R_new' ho0 (Kd.R_lt (by (with_reducible repeat (first | apply Kd.R_alloc | apply Kd.R_drewN | apply Kd.R_drew)); exact HO192.out))) (below_size (by repeat (first | (with_reducible first | exact HB.out | apply below_alloc | apply pw_below_drewN | apply below_drew1) | exact HB.out))))
         have n5_ := Aside0.mk (below_step (by repeat (first | (with_reducible first | exact HB.out | apply below_alloc | apply pw_below_drewN | apply below_drew1) | exact HB.out)) hb)
         clear HO_1
         clear HO_2
         clear HO_4
         clear HO192
         clear HB
         have HO_1 := n0_
         have HO_2 := n1_
         have HO_4 := n2_
         have HO192 := n3_
         have HO195 := n4_
         have HB := n5_
         clear n0_ n1_ n2_ n3_ n4_ n5_
         (try clear hb)
         (try clear hb2)
         (try clear hk)
         (try clear hi)
         (try clear ho0)
         refine hK.out _ _ ⟨HS0_, HS1_, HS2_, HS3_, HS4_, HS5_, HS6_, HS7_⟩ (fun hHeld => ?_)
         clear hK K
         refine norm_ (a' := ?_) ?_ ?_
         rotate_left
         ·show Act.put _ (some 54) _ = _
          simp only [Act.put, List.setIfInBounds_toArray, List.set_cons_zero, List.set_cons_succ, i64_w, i32_w]
          rfl
         refine pure_ (i := 11) (N := some 8) (v := ?_) (a' := ?_) (tf 12 0) rfl rfl (any_of HT_.out (by kernel_rfl)) (fun _ _ _ h => h) (Or.inl ⟨by rfl, ?_⟩) ?_ ?_
         rotate_left
         ·intro w'
          go_simp
          with_reducible rfl
         rotate_left
         ·simp only [Act.put, List.setIfInBounds_toArray, List.set_cons_zero, List.set_cons_succ, i64_w, i32_w]
          rfl
         refine done_ (done_of HT_.out (by kernel_rfl)) ?_
         have p196 : 0 ≤ (0 : Int) := (by omega)
         have q196 : 0 < (t174.length : Int) := of_decide_eq_true (by first | (with_reducible assumption) | assumption)
         obtain ⟨ad196, e196, hx196_0, hx196_1, hx196_2, hx196_3⟩ := at_T25 (Kd.R_reads' HO_2.out).2.2 0 p196 q196
         obtain rfl : ad188 = ad196 := (by injection e196)
         have qi196 : (0 < t174.length) = True := eq_true (by omega)
         (try rw [show ((0 : Int)).toNat = 0 from rfl] at hx196_0)
         (try rw [show 0 * 4 = 0 from rfl] at hx196_0)
         (try rw [Addr.add_zero'] at hx196_0)
         (try rw [show ((0 : Int)).toNat = 0 from rfl] at hx196_1)
         (try rw [show 0 * 4 = 0 from rfl] at hx196_1)
         (try rw [Addr.add_zero'] at hx196_1)
         (try rw [show ((0 : Int)).toNat = 0 from rfl] at hx196_2)
         (try rw [show 0 * 4 = 0 from rfl] at hx196_2)
         (try rw [Addr.add_zero'] at hx196_2)
         (try rw [show ((0 : Int)).toNat = 0 from rfl] at hx196_3)
         (try rw [show 0 * 4 = 0 from rfl] at hx196_3)
         (try rw [Addr.add_zero'] at hx196_3)
         replace p196 := eq_true p196
         replace q196 := eq_true q196
         obtain ⟨Ao103, co103, eo103⟩ := Kd.R_slice HO_4.out
         subst eo103
         have p197 : 0 ≤ (0 : Int) := (by omega)
         have q197 : 0 < (t182.length : Int) := of_decide_eq_true (by first | (with_reducible assumption) | assumption)
         obtain ⟨ad197, e197, hx197_0, hx197_1, hx197_2, hx197_3⟩ := at_T25 (Kd.R_reads' HO_4.out).2.2 0 p197 q197
         cases e197
         have qi197 : (0 < t182.length) = True := eq_true (by omega)
         (try rw [show ((0 : Int)).toNat = 0 from rfl] at hx197_0)
         (try rw [show 0 * 4 = 0 from rfl] at hx197_0)
         (try rw [Addr.add_zero'] at hx197_0)
         (try rw [show ((0 : Int)).toNat = 0 from rfl] at hx197_1)
         (try rw [show 0 * 4 = 0 from rfl] at hx197_1)
         (try rw [Addr.add_zero'] at hx197_1)
         (try rw [show ((0 : Int)).toNat = 0 from rfl] at hx197_2)
         (try rw [show 0 * 4 = 0 from rfl] at hx197_2)
         (try rw [Addr.add_zero'] at hx197_2)
         (try rw [show ((0 : Int)).toNat = 0 from rfl] at hx197_3)
         (try rw [show 0 * 4 = 0 from rfl] at hx197_3)
         (try rw [Addr.add_zero'] at hx197_3)
         replace p197 := eq_true p197
         replace q197 := eq_true q197
         try go_wp2
         go_ret
         exact ⟨by first | rfl | (simp [errW_none, errW_some] <;> rfl) | (simp [*, errW_none, errW_some] <;> rfl), by repeat (first | (with_reducible first | exact HB.out | apply below_alloc | apply pw_below_drewN | apply below_drew1) | exact HB.out)⟩
       ·rw [if_neg c27] at H
        exact absurd H (by simp)
      ·rw [if_neg c26] at H
       have c26b0 : (((rd_T25 t174 0).f0.f0).toList == ([108] : List UInt8)) = false := beq_eq_false_iff_ne.mpr c26
       have c26b1 : (((rd_T25 t174 0).f0.f0).toList != ([108] : List UInt8)) = true := bne_iff_ne.mpr c26
       obtain rfl := Option.some.inj H
       try go_wp2
       have n0_ := Aside0.mk (Kd.R_drew HO_1.out)
       have n1_ := Aside0.mk (Kd.R_drew HO_2.out)
       have n2_ := Aside0.mk (Kd.R_drew HO_4.out)
       have n3_ := Aside0.mk (below_drew1 HB.out)
       clear HO_1
       clear HO_2
       clear HO_4
       clear HB
       have HO_1 := n0_
       have HO_2 := n1_
       have HO_4 := n2_
       have HB := n3_
       clear n0_ n1_ n2_ n3_
       have p188 : 0 ≤ (0 : Int) := (by omega)
       have q188 : 0 < (t174.length : Int) := of_decide_eq_true (by first | (with_reducible assumption) | assumption)
       obtain ⟨ad188, e188, hx188_0, hx188_1, hx188_2, hx188_3⟩ := at_T25 (Kd.R_reads' HO_2.out).2.2 0 p188 q188
       cases e188
       have qi188 : (0 < t174.length) = True := eq_true (by omega)
       (try rw [show ((0 : Int)).toNat = 0 from rfl] at hx188_0)
       (try rw [show 0 * 4 = 0 from rfl] at hx188_0)
       (try rw [Addr.add_zero'] at hx188_0)
       (try rw [show ((0 : Int)).toNat = 0 from rfl] at hx188_1)
       (try rw [show 0 * 4 = 0 from rfl] at hx188_1)
       (try rw [Addr.add_zero'] at hx188_1)
       (try rw [show ((0 : Int)).toNat = 0 from rfl] at hx188_2)
       (try rw [show 0 * 4 = 0 from rfl] at hx188_2)
       (try rw [Addr.add_zero'] at hx188_2)
       (try rw [show ((0 : Int)).toNat = 0 from rfl] at hx188_3)
       (try rw [show 0 * 4 = 0 from rfl] at hx188_3)
       (try rw [Addr.add_zero'] at hx188_3)
       replace p188 := eq_true p188
       replace q188 := eq_true q188
       have p189 : 0 ≤ (0 : Int) := (by omega)
       have q189 : 0 < (y167.length : Int) := of_decide_eq_true (by first | (with_reducible assumption) | assumption)
       obtain ⟨ad189, e189, hx189_0, hx189_1, hx189_2, hx189_3⟩ := at_T25 (Kd.R_reads' HO_1.out).2.2 0 p189 q189
       cases e189
       have qi189 : (0 < y167.length) = True := eq_true (by omega)
       (try rw [show ((0 : Int)).toNat = 0 from rfl] at hx189_0)
       (try rw [show 0 * 4 = 0 from rfl] at hx189_0)
       (try rw [Addr.add_zero'] at hx189_0)
       (try rw [show ((0 : Int)).toNat = 0 from rfl] at hx189_1)
       (try rw [show 0 * 4 = 0 from rfl] at hx189_1)
       (try rw [Addr.add_zero'] at hx189_1)
       (try rw [show ((0 : Int)).toNat = 0 from rfl] at hx189_2)
       (try rw [show 0 * 4 = 0 from rfl] at hx189_2)
       (try rw [Addr.add_zero'] at hx189_2)
       (try rw [show ((0 : Int)).toNat = 0 from rfl] at hx189_3)
       (try rw [show 0 * 4 = 0 from rfl] at hx189_3)
       (try rw [Addr.add_zero'] at hx189_3)
       replace p189 := eq_true p189
       replace q189 := eq_true q189
       refine start_ (n := 12) (S := fun w' => w'.cell? ad188 = some (.string ((rd_T25 t174 0).f0.f0)) ∧ w'.cell? ⟨ad188.block, ad188.off + 1, none⟩ = some (.string ((rd_T25 t174 0).f0.f1)) ∧ w'.cell? ⟨ad188.block, ad188.off + 2, none⟩ = some (.string ((rd_T25 t174 0).f0.f2)) ∧ w'.cell? ⟨ad188.block, ad188.off + 3, none⟩ = some (.int .i64 ((rd_T25 t174 0).f1)) ∧ w'.cell? ad189 = some (.string ((rd_T25 y167 0).f0.f0)) ∧ w'.cell? ⟨ad189.block, ad189.off + 1, none⟩ = some (.string ((rd_T25 y167 0).f0.f1)) ∧ w'.cell? ⟨ad189.block, ad189.off + 2, none⟩ = some (.string ((rd_T25 y167 0).f0.f2)) ∧ w'.cell? ⟨ad189.block, ad189.off + 3, none⟩ = some (.int .i64 ((rd_T25 y167 0).f1))) (ds := []) (tf 0 12) (by kernel_rfl) rfl rfl ⟨hx188_0, hx188_1, hx188_2, hx188_3, hx189_0, hx189_1, hx189_2, hx189_3⟩ (fun hHeld => ?_); refine with_tabW sutlerlaw07_live.tab7 sutlerlaw07_live.bits7 (fun HT_ HW_ => ?_)
       generalize wc.drew = w104 at HO_1 HO_2 HO_4 HB hx188_0 hx188_1 hx188_2 hx188_3 hx189_0 hx189_1 hx189_2 hx189_3 hHeld ⊢
       refine pure_ (i := 0) (N := some 44) (v := ?_) (a' := ?_) (tf 1 11) rfl rfl (any_of HT_.out (by kernel_rfl)) (fun _ _ _ h => h) (Or.inl ⟨by rfl, ?_⟩) ?_ ?_
       rotate_left
       ·intro w'
        go_simp
        with_reducible rfl
       rotate_left
       ·simp only [Act.put, List.setIfInBounds_toArray, List.set_cons_zero, List.set_cons_succ, i64_w, i32_w]
        rfl
       refine pure_ (i := 1) (N := some 45) (v := ?_) (a' := ?_) (tf 2 10) rfl rfl (any_of HT_.out (by kernel_rfl)) (fun _ _ _ h => h) (Or.inl ⟨by rfl, ?_⟩) ?_ ?_
       rotate_left
       ·intro w'
        go_simp
        with_reducible rfl
       rotate_left
       ·simp only [Act.put, List.setIfInBounds_toArray, List.set_cons_zero, List.set_cons_succ, i64_w, i32_w]
        rfl
       refine pure_ (i := 2) (N := some 46) (v := ?_) (a' := ?_) (tf 3 9) rfl rfl (any_of HT_.out (by kernel_rfl)) (fun _ _ _ h => h) (Or.inl ⟨by rfl, ?_⟩) ?_ ?_
       rotate_left
       ·intro w'
        go_simp
        with_reducible rfl
       rotate_left
       ·simp only [Act.put, List.setIfInBounds_toArray, List.set_cons_zero, List.set_cons_succ, i64_w, i32_w]
        rfl
       refine pure_ (i := 3) (N := some 47) (v := ?_) (a' := ?_) (tf 4 8) rfl rfl (any_of HT_.out (by kernel_rfl)) (fun _ _ _ h => h) (Or.inl ⟨by rfl, ?_⟩) ?_ ?_
       rotate_left
       ·intro w'
        go_simp
        with_reducible rfl
       rotate_left
       ·simp only [Act.put, List.setIfInBounds_toArray, List.set_cons_zero, List.set_cons_succ, i64_w, i32_w]
        rfl
       refine pure_ (i := 5) (N := some 49) (v := ?_) (a' := ?_) #[true, true, true, true, false, true, false, false, false, false, false, false] rfl rfl (any_of HT_.out (by kernel_rfl)) (fun _ _ _ h => h) (Or.inl ⟨by rfl, ?_⟩) ?_ ?_
       rotate_left
       ·intro w'
        go_simp
        with_reducible rfl
       rotate_left
       ·simp only [Act.put, List.setIfInBounds_toArray, List.set_cons_zero, List.set_cons_succ, i64_w, i32_w]
        rfl
       refine pure_ (i := 6) (N := some 50) (v := ?_) (a' := ?_) #[true, true, true, true, false, true, true, false, false, false, false, false] rfl rfl (any_of HT_.out (by kernel_rfl)) (fun _ _ _ h => h) (Or.inl ⟨by rfl, ?_⟩) ?_ ?_
       rotate_left
       ·intro w'
        go_simp
        with_reducible rfl
       rotate_left
       ·simp only [Act.put, List.setIfInBounds_toArray, List.set_cons_zero, List.set_cons_succ, i64_w, i32_w]
        rfl
       refine pure_ (i := 7) (N := some 51) (v := ?_) (a' := ?_) #[true, true, true, true, false, true, true, true, false, false, false, false] rfl rfl (any_of HT_.out (by kernel_rfl)) (fun _ _ _ h => h) (Or.inl ⟨by rfl, ?_⟩) ?_ ?_
       rotate_left
       ·intro w'
        go_simp
        with_reducible rfl
       rotate_left
       ·simp only [Act.put, List.setIfInBounds_toArray, List.set_cons_zero, List.set_cons_succ, i64_w, i32_w]
        rfl
       refine take_ (i := 4) (N := some 48) (v := ?_) (a' := ?_) (tf 8 4) rfl rfl (take_ofW HT_.out HW_.out (by kernel_rfl)) (fun _ _ _ h => h) (Or.inl ⟨by rfl, ?_⟩) hHeld ?_ ?_
       rotate_left
       ·rintro w' ⟨s0, s1, s2, s3, s4, s5, s6, s7⟩
        go_simp
        with_reducible rfl
       rotate_left
       ·simp only [Act.put, List.setIfInBounds_toArray, List.set_cons_zero, List.set_cons_succ, i64_w, i32_w]
        rfl
       refine take_ (i := 8) (N := some 52) (v := ?_) (a' := ?_) (tf 9 3) rfl rfl (take_ofW HT_.out HW_.out (by kernel_rfl)) (fun _ _ _ h => h) (Or.inl ⟨by rfl, ?_⟩) hHeld ?_ ?_
       rotate_left
       ·rintro w' ⟨s0, s1, s2, s3, s4, s5, s6, s7⟩
        go_simp
        with_reducible rfl
       rotate_left
       ·simp only [Act.put, List.setIfInBounds_toArray, List.set_cons_zero, List.set_cons_succ, i64_w, i32_w]
        rfl
       refine one_ (i := 9) (N := some 53) (tf 10 2) rfl rfl (one_of HT_.out (by kernel_rfl)) (by decide) (fun K hK => ?_)
       refine Kd.R_lit_step k23 _ 23 ?hg (N := 53) ?hd (xs := ([(⟨(rd_T25 t174 0).f0.f0, (rd_T25 t174 0).f0.f1, (rd_T25 t174 0).f0.f2⟩ : S23), (⟨(rd_T25 y167 0).f0.f0, (rd_T25 y167 0).f0.f1, (rd_T25 y167 0).f0.f2⟩ : S23)] : List (S23))) (inner := [.string ((rd_T25 t174 0).f0.f0), .string ((rd_T25 t174 0).f0.f1), .string ((rd_T25 t174 0).f0.f2), .string ((rd_T25 y167 0).f0.f0), .string ((rd_T25 y167 0).f0.f1), .string ((rd_T25 y167 0).f0.f2)]) (ok := fun _ => True) (okp := fun _ => True) ?hr ?hp (fun _ hk => hk) trivial (Below.refl _ _) (Nat.le_refl _) (by simp) ?_; (case hd => rfl); (case hg => rfl); (case hr => first | (go_simp; done) | (go_simp; rfl)); (case hp => exact (Reps.c3 (show Kd.M k23 _ _ _ (⟨(rd_T25 t174 0).f0.f0, (rd_T25 t174 0).f0.f1, (rd_T25 t174 0).f0.f2⟩ : S23) [.string ((rd_T25 t174 0).f0.f0), .string ((rd_T25 t174 0).f0.f1), .string ((rd_T25 t174 0).f0.f2)] from (k23_mkM _ _ _ (⟨(rd_T25 t174 0).f0.f0, (rd_T25 t174 0).f0.f1, (rd_T25 t174 0).f0.f2⟩ : S23) )) (Reps.c3 (show Kd.M k23 _ _ _ (⟨(rd_T25 y167 0).f0.f0, (rd_T25 y167 0).f0.f1, (rd_T25 y167 0).f0.f2⟩ : S23) [.string ((rd_T25 y167 0).f0.f0), .string ((rd_T25 y167 0).f0.f1), .string ((rd_T25 y167 0).f0.f2)] from (k23_mkM _ _ _ (⟨(rd_T25 y167 0).f0.f0, (rd_T25 y167 0).f0.f1, (rd_T25 y167 0).f0.f2⟩ : S23) )) (Reps.none _ _))))
       intro v191 w105 ho106 hb hg_ hnew_
       have HS0_ := (hb.cell (World.block_lt_of_cell? _ _ (hHeld.1))).trans (hHeld.1)
       have HS1_ := (hb.cell (World.block_lt_of_cell? _ _ (hHeld.2.1))).trans (hHeld.2.1)
       have HS2_ := (hb.cell (World.block_lt_of_cell? _ _ (hHeld.2.2.1))).trans (hHeld.2.2.1)
       have HS3_ := (hb.cell (World.block_lt_of_cell? _ _ (hHeld.2.2.2.1))).trans (hHeld.2.2.2.1)
       have HS4_ := (hb.cell (World.block_lt_of_cell? _ _ (hHeld.2.2.2.2.1))).trans (hHeld.2.2.2.2.1)
       have HS5_ := (hb.cell (World.block_lt_of_cell? _ _ (hHeld.2.2.2.2.2.1))).trans (hHeld.2.2.2.2.2.1)
       have HS6_ := (hb.cell (World.block_lt_of_cell? _ _ (hHeld.2.2.2.2.2.2.1))).trans (hHeld.2.2.2.2.2.2.1)
       have HS7_ := (hb.cell (World.block_lt_of_cell? _ _ (hHeld.2.2.2.2.2.2.2))).trans (hHeld.2.2.2.2.2.2.2)
       clear hg_ hnew_
       (first | rw [← Ny190.out] at ho106 | (simp only [Int.reduceToNat] at ho106; rw [← Ny190.out] at ho106))
       have n0_ := Aside0.mk (Kd.R_below (by (with_reducible repeat (first | apply Kd.R_alloc | apply Kd.R_drewN | apply Kd.R_drew)); exact HO_1.out) hb)
       have n1_ := Aside0.mk (Kd.R_below (by (with_reducible repeat (first | apply Kd.R_alloc | apply Kd.R_drewN | apply Kd.R_drew)); exact HO_2.out) hb)
       have n2_ := Aside0.mk (Kd.R_below (by (with_reducible repeat (first | apply Kd.R_alloc | apply Kd.R_drewN | apply Kd.R_drew)); exact HO_4.out) hb)
       have n3_ := Aside0.mk (Kd.R_lower ho106 (below_size (by repeat (first | (with_reducible first | exact HB.out | apply below_alloc | apply pw_below_drewN | apply below_drew1) | exact HB.out))))
       have n4_ := Aside0.mk (below_step (by repeat (first | (with_reducible first | exact HB.out | apply below_alloc | apply pw_below_drewN | apply below_drew1) | exact HB.out)) hb)
       clear HO_1
       clear HO_2
       clear HO_4
       clear HB
       have HO_1 := n0_
       have HO_2 := n1_
       have HO_4 := n2_
       have HO192 := n3_
       have HB := n4_
       clear n0_ n1_ n2_ n3_ n4_
       clear hb ho106
       obtain ⟨Ao107, co107, eo107⟩ := Kd.R_slice HO192.out
       (first | subst eo107 | (injection eo107 with f1_ f2_ f3_; have f4_ := f1_.symm; have f5_ := f3_.symm; clear f1_ f2_ f3_; subst f4_; subst f5_))
       refine hK.out _ _ ⟨HS0_, HS1_, HS2_, HS3_, HS4_, HS5_, HS6_, HS7_⟩ (fun hHeld => ?_)
       clear hK K
       refine norm_ (a' := ?_) ?_ ?_
       rotate_left
       ·show Act.put _ (some 53) _ = _
        simp only [Act.put, List.setIfInBounds_toArray, List.set_cons_zero, List.set_cons_succ, i64_w, i32_w]
        rfl
       refine one_ (i := 10) (N := some 54) (tf 11 1) rfl rfl (one_of HT_.out (by kernel_rfl)) (by decide) (fun K hK => ?_)
       refine goes_ Try.func15 (by kernel_rfl) rfl #[.slice (some ad189) y167.length co12, .slice Ao107 y190.length co107, .int .i64 10] (by rfl) rfl rfl (by (try simp only [List.map_toArray, List.map_cons, List.map_nil]); first | done | rfl | (simp only [List.length_drop, List.length_take]; rfl)) ?_
       with_reducible refine (cool_Left.calls _ _ y167 _ _ y190 10 t193 _ ?side1 ?side2 ?side3 ?side4 A25.out).mono ?_
       (case side1 => repeat (first | exact (Kd.R_reads' HO_1.out).2.2 | (with_reducible refine Kd.C_alloc ?_ _) | (with_reducible refine Kd.C_drewN ?_ _) | (with_reducible refine Kd.C_drew ?_)))
       (case side2 => exact (Kd.R_reads' HO_1.out).2.1)
       (case side3 => repeat (first | exact (Kd.R_reads' HO192.out).2.2 | (with_reducible refine Kd.C_alloc ?_ _) | (with_reducible refine Kd.C_drewN ?_ _) | (with_reducible refine Kd.C_drew ?_)))
       (case side4 => exact (Kd.R_reads' HO192.out).2.1)
       rintro e w108 ⟨v194, rfl, ho0, hb⟩
       have HS0_ := (hb.cell (World.block_lt_of_cell? _ _ (hHeld.1))).trans (hHeld.1)
       have HS1_ := (hb.cell (World.block_lt_of_cell? _ _ (hHeld.2.1))).trans (hHeld.2.1)
       have HS2_ := (hb.cell (World.block_lt_of_cell? _ _ (hHeld.2.2.1))).trans (hHeld.2.2.1)
       have HS3_ := (hb.cell (World.block_lt_of_cell? _ _ (hHeld.2.2.2.1))).trans (hHeld.2.2.2.1)
       have HS4_ := (hb.cell (World.block_lt_of_cell? _ _ (hHeld.2.2.2.2.1))).trans (hHeld.2.2.2.2.1)
       have HS5_ := (hb.cell (World.block_lt_of_cell? _ _ (hHeld.2.2.2.2.2.1))).trans (hHeld.2.2.2.2.2.1)
       have HS6_ := (hb.cell (World.block_lt_of_cell? _ _ (hHeld.2.2.2.2.2.2.1))).trans (hHeld.2.2.2.2.2.2.1)
       have HS7_ := (hb.cell (World.block_lt_of_cell? _ _ (hHeld.2.2.2.2.2.2.2))).trans (hHeld.2.2.2.2.2.2.2)
       refine ⟨_, rfl, ?_⟩
       have n0_ := Aside0.mk (Kd.R_below (by (with_reducible repeat (first | apply Kd.R_alloc | apply Kd.R_drewN | apply Kd.R_drew)); exact HO_1.out) hb)
       have n1_ := Aside0.mk (Kd.R_below (by (with_reducible repeat (first | apply Kd.R_alloc | apply Kd.R_drewN | apply Kd.R_drew)); exact HO_2.out) hb)
       have n2_ := Aside0.mk (Kd.R_below (by (with_reducible repeat (first | apply Kd.R_alloc | apply Kd.R_drewN | apply Kd.R_drew)); exact HO_4.out) hb)
       have n3_ := Aside0.mk (Kd.R_elder' (by (with_reducible repeat (first | apply Kd.R_alloc | apply Kd.R_drewN | apply Kd.R_drew)); exact HO192.out) (Kd.R_base ho0) hb)
       have n4_ := Aside0.mk (Kd.R_lower (Kd.R_new' ho0 (Kd.R_lt (by (with_reducible repeat (first | apply Kd.R_alloc | apply Kd.R_drewN | apply Kd.R_drew)); exact HO192.out))) (below_size (by repeat (first | (with_reducible first | exact HB.out | apply below_alloc | apply pw_below_drewN | apply below_drew1) | exact HB.out))))
       have n5_ := Aside0.mk (below_step (by repeat (first | (with_reducible first | exact HB.out | apply below_alloc | apply pw_below_drewN | apply below_drew1) | exact HB.out)) hb)
       clear HO_1
       clear HO_2
       clear HO_4
       clear HO192
       clear HB
       have HO_1 := n0_
       have HO_2 := n1_
       have HO_4 := n2_
       have HO192 := n3_
       have HO195 := n4_
       have HB := n5_
       clear n0_ n1_ n2_ n3_ n4_ n5_
       (try clear hb)
       (try clear hb2)
       (try clear hk)
       (try clear hi)
       (try clear ho0)
       refine hK.out _ _ ⟨HS0_, HS1_, HS2_, HS3_, HS4_, HS5_, HS6_, HS7_⟩ (fun hHeld => ?_)
       clear hK K
       refine norm_ (a' := ?_) ?_ ?_
       rotate_left
       ·show Act.put _ (some 54) _ = _
        simp only [Act.put, List.setIfInBounds_toArray, List.set_cons_zero, List.set_cons_succ, i64_w, i32_w]
        rfl
       refine pure_ (i := 11) (N := some 8) (v := ?_) (a' := ?_) (tf 12 0) rfl rfl (any_of HT_.out (by kernel_rfl)) (fun _ _ _ h => h) (Or.inl ⟨by rfl, ?_⟩) ?_ ?_
       rotate_left
       ·intro w'
        go_simp
        with_reducible rfl
       rotate_left
       ·simp only [Act.put, List.setIfInBounds_toArray, List.set_cons_zero, List.set_cons_succ, i64_w, i32_w]
        rfl
       refine done_ (done_of HT_.out (by kernel_rfl)) ?_
       have p196 : 0 ≤ (0 : Int) := (by omega)
       have q196 : 0 < (t174.length : Int) := of_decide_eq_true (by first | (with_reducible assumption) | assumption)
       obtain ⟨ad196, e196, hx196_0, hx196_1, hx196_2, hx196_3⟩ := at_T25 (Kd.R_reads' HO_2.out).2.2 0 p196 q196
       obtain rfl : ad188 = ad196 := (by injection e196)
       have qi196 : (0 < t174.length) = True := eq_true (by omega)
       (try rw [show ((0 : Int)).toNat = 0 from rfl] at hx196_0)
       (try rw [show 0 * 4 = 0 from rfl] at hx196_0)
       (try rw [Addr.add_zero'] at hx196_0)
       (try rw [show ((0 : Int)).toNat = 0 from rfl] at hx196_1)
       (try rw [show 0 * 4 = 0 from rfl] at hx196_1)
       (try rw [Addr.add_zero'] at hx196_1)
       (try rw [show ((0 : Int)).toNat = 0 from rfl] at hx196_2)
       (try rw [show 0 * 4 = 0 from rfl] at hx196_2)
       (try rw [Addr.add_zero'] at hx196_2)
       (try rw [show ((0 : Int)).toNat = 0 from rfl] at hx196_3)
       (try rw [show 0 * 4 = 0 from rfl] at hx196_3)
       (try rw [Addr.add_zero'] at hx196_3)
       replace p196 := eq_true p196
       replace q196 := eq_true q196
       try go_wp2
       go_ret
       exact ⟨by first | rfl | (simp [errW_none, errW_some] <;> rfl) | (simp [*, errW_none, errW_some] <;> rfl), by repeat (first | (with_reducible first | exact HB.out | apply below_alloc | apply pw_below_drewN | apply below_drew1) | exact HB.out)⟩
     ·rw [if_neg c24] at H
      exact absurd H (by simp)
    ·rw [if_neg c23] at H
     exact absurd H (by simp)

end Go.Proofs.Ytiodidhbkgnicaa.PAll
