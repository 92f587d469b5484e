-- written by a program of this session (the kit's print, turned): plain functions and their contracts
-- shrunk
import Derived.Test.YtiodidhbkgnicaaPAllx0
import Derived.Test.YtiodidhbkgnicaaPAllx1
import Derived.Test.YtiodidhbkgnicaaPAllx10
import Derived.Test.YtiodidhbkgnicaaPAllx11
import Derived.Test.YtiodidhbkgnicaaPAllx17
import Derived.Test.YtiodidhbkgnicaaPAllx19
import Derived.Test.YtiodidhbkgnicaaEAsk
import Derived.Test.YtiodidhbkgnicaaEClean
namespace Go.Proofs.Ytiodidhbkgnicaa.PAll
open Go.RowKit Go.Proofs.YtiodidhbkgnicaaW.PrintWords Go.Proofs.YtiodidhbkgnicaaW.PrintLast Go.Proofs.YtiodidhbkgnicaaW.PrintMore
attribute [local go_sem] max2_int min2_int max_two min_two max_three min_three max_four min_four   -- for this text's walks alone
set_option linter.unusedVariables false
set_option linter.unusedSimpArgs false

attribute [local go_sem high] eqA23
/-! ### sutlerlaw07_CoolAsks: function 5 -/
mutual
def sutlerlaw07_CoolAsks.j0 : Nat → List (S25) → List (S23) → Int → List (S25) → List (S23) → List (S23) → List (S25) → Bool → Option (Bool)
 | 0, _, _, _, _, _, _, _, _ => none
 | k + 1, x0, x1, x2, x7, x8, x9, x10, x68 => if x68 = true then (some false) else (sutlerlaw07_CoolAsks.l0 k x0 x1 x2 x7 x8 x9 x10 0)
def sutlerlaw07_CoolAsks.l0 : Nat → List (S25) → List (S23) → Int → List (S25) → List (S23) → List (S23) → List (S25) → Int → Option (Bool)
 | 0, _, _, _, _, _, _, _, _ => none
 | k + 1, x0, x1, x2, x7, x8, x9, x10, x16 => if x16 < (x8.length : Int) then (if 0 ≤ x16 then (if x16 < (x9.length : Int) then (if (!((((rd_T23 x8 x16).f0).toList) == (((rd_T23 x9 x16).f0).toList)) || (!((((rd_T23 x8 x16).f1).toList) == (((rd_T23 x9 x16).f1).toList)) || (!((((rd_T23 x8 x16).f2).toList) == (((rd_T23 x9 x16).f2).toList))))) = true then (some false) else (sutlerlaw07_CoolAsks.l0 k x0 x1 x2 x7 (x8.set (x16 : Int).toNat (⟨(⟨#[64]⟩ : ByteArray), (⟨#[]⟩ : ByteArray), (⟨#[]⟩ : ByteArray)⟩ : S23)) x9 x10 (wrap64 (x16 + 1)))) else (none)) else (none)) else (sutlerlaw07_CoolAsks.l1 k x0 x1 x2 x7 x10 0)
def sutlerlaw07_CoolAsks.l1 : Nat → List (S25) → List (S23) → Int → List (S25) → List (S25) → Int → Option (Bool)
 | 0, _, _, _, _, _, _ => none
 | k + 1, x0, x1, x2, x7, x10, x17 => if x17 < (x1.length : Int) then (if 0 ≤ x17 then ((cool_IsCool.f x0 ((rd_T23 x1 x17).f0) ((rd_T23 x1 x17).f1) ((rd_T23 x1 x17).f2) x2).bind fun t342 => ((sutlerref07_IsCool.f k x7 ((rd_T23 x1 x17).f0) ((rd_T23 x1 x17).f1) ((rd_T23 x1 x17).f2) x2).bind fun t344 => (if (t342 != t344) = true then (some false) else (sutlerlaw07_CoolAsks.l1 k x0 x1 x2 x7 x10 (wrap64 (x17 + 1)))))) else (none)) else (sutlerlaw07_CoolAsks.l2 k x0 x7 x10 0)
def sutlerlaw07_CoolAsks.l2 : Nat → List (S25) → List (S25) → List (S25) → Int → Option (Bool)
 | 0, _, _, _, _ => none
 | k + 1, x0, x7, x10, x18 => if x18 < (x10.length : Int) then (if 0 ≤ x18 then (sutlerlaw07_CoolAsks.l2 k x0 x7 (x10.set (x18 : Int).toNat (⟨(⟨(⟨#[]⟩ : ByteArray), (⟨#[]⟩ : ByteArray), (⟨#[]⟩ : ByteArray)⟩ : S23), (-77)⟩ : S25)) (wrap64 (x18 + 1))) else (none)) else ((sutlerlaw07_live.f k).bind fun t346 => (if t346 = true then ((sutlerlaw07_same.f k x0 x7).bind fun t347 => (some t347)) else (some false)))
end
def sutlerlaw07_CoolAsks.f (k : Nat) (l0 : List (S25)) (l1 : List (S23)) (a2 : Int) : Option (Bool) := (some (([] : List (S25)) : List (S25))).bind fun y315 => (if y315.length + l0.length < 2513169434916 then ((some (y315 ++ l0 : List (S25))).bind fun y318 => ((cool_Left.f l0 l1 a2).bind fun t321 => ((sutlerref07_Left.f k y318 l1 a2).bind fun t324 => ((cool_Clean.f l0 a2).bind fun t327 => ((sutlerref07_Clean.f k y318 a2).bind fun t330 => ((cool_Next.f k l0 a2).bind fun bt333 => ((sutlerref07_Next.f k y318 a2).bind fun bt335 => (if (t321.length : Int) = (t324.length : Int) then ((sutlerlaw07_same.f k t327 t330).bind fun t337 => (if t337 = true then (if bt333.1 = bt335.1 then (sutlerlaw07_CoolAsks.j0 k l0 l1 a2 y318 t321 t324 t327 (bt333.2 != bt335.2)) else (sutlerlaw07_CoolAsks.j0 k l0 l1 a2 y318 t321 t324 t327 true)) else (sutlerlaw07_CoolAsks.j0 k l0 l1 a2 y318 t321 t324 t327 true))) else (sutlerlaw07_CoolAsks.j0 k l0 l1 a2 y318 t321 t324 t327 true))))))))) else (none))
theorem sutlerlaw07_CoolAsks.mono_l : ∀ k, (∀ y0 y1 y2 y3 y4 y5 y6 y7, LeO (sutlerlaw07_CoolAsks.j0 k y0 y1 y2 y3 y4 y5 y6 y7) (sutlerlaw07_CoolAsks.j0 (k + 1) y0 y1 y2 y3 y4 y5 y6 y7)) ∧ (∀ y0 y1 y2 y3 y4 y5 y6 y7, LeO (sutlerlaw07_CoolAsks.l0 k y0 y1 y2 y3 y4 y5 y6 y7) (sutlerlaw07_CoolAsks.l0 (k + 1) y0 y1 y2 y3 y4 y5 y6 y7)) ∧ (∀ y0 y1 y2 y3 y4 y5, LeO (sutlerlaw07_CoolAsks.l1 k y0 y1 y2 y3 y4 y5) (sutlerlaw07_CoolAsks.l1 (k + 1) y0 y1 y2 y3 y4 y5)) ∧ (∀ y0 y1 y2 y3, LeO (sutlerlaw07_CoolAsks.l2 k y0 y1 y2 y3) (sutlerlaw07_CoolAsks.l2 (k + 1) y0 y1 y2 y3))
 | 0 => ⟨fun _ _ _ _ _ _ _ _ r h => by simp [sutlerlaw07_CoolAsks.j0] at h, fun _ _ _ _ _ _ _ _ r h => by simp [sutlerlaw07_CoolAsks.l0] at h, fun _ _ _ _ _ _ r h => by simp [sutlerlaw07_CoolAsks.l1] at h, fun _ _ _ _ r h => by simp [sutlerlaw07_CoolAsks.l2] at h⟩
 | k + 1 => by
  obtain ⟨ih0, ih1, ih2, ih3⟩ := sutlerlaw07_CoolAsks.mono_l k
  refine ⟨?_, ?_, ?_, ?_⟩
  ·intro y0 y1 y2 y3 y4 y5 y6 y7
   unfold sutlerlaw07_CoolAsks.j0
   repeat' first
   | (with_reducible exact ih0 _ _ _ _ _ _ _ _)
   | (with_reducible exact ih1 _ _ _ _ _ _ _ _)
   | (with_reducible exact ih2 _ _ _ _ _ _)
   | (with_reducible exact ih3 _ _ _ _)
   | (with_reducible exact cool_Next.mono _ _ _)
   | (with_reducible exact sutlerlaw07_live.mono _)
   | (with_reducible exact sutlerlaw07_same.mono _ _ _)
   | (with_reducible exact sutlerref07_Clean.mono _ _ _)
   | (with_reducible exact sutlerref07_IsCool.mono _ _ _ _ _ _)
   | (with_reducible exact sutlerref07_Left.mono _ _ _ _)
   | (with_reducible exact sutlerref07_Next.mono _ _ _)
   | (with_reducible exact LeO.refl _)
   | (with_reducible exact LeO.none _)
   | (with_reducible refine LeO.ite ?_ ?_)
   | (with_reducible refine LeO.bind ?_ (fun _ => ?_))
   | exact ih0 _ _ _ _ _ _ _ _
   | exact ih1 _ _ _ _ _ _ _ _
   | exact ih2 _ _ _ _ _ _
   | exact ih3 _ _ _ _
   | exact cool_Next.mono _ _ _
   | exact sutlerlaw07_live.mono _
   | exact sutlerlaw07_same.mono _ _ _
   | exact sutlerref07_Clean.mono _ _ _
   | exact sutlerref07_IsCool.mono _ _ _ _ _ _
   | exact sutlerref07_Left.mono _ _ _ _
   | exact sutlerref07_Next.mono _ _ _
   | exact LeO.none _
   | refine LeO.ite ?_ ?_
   | refine LeO.bind ?_ (fun _ => ?_)
  ·intro y0 y1 y2 y3 y4 y5 y6 y7
   unfold sutlerlaw07_CoolAsks.l0
   repeat' first
   | (with_reducible exact ih0 _ _ _ _ _ _ _ _)
   | (with_reducible exact ih1 _ _ _ _ _ _ _ _)
   | (with_reducible exact ih2 _ _ _ _ _ _)
   | (with_reducible exact ih3 _ _ _ _)
   | (with_reducible exact cool_Next.mono _ _ _)
   | (with_reducible exact sutlerlaw07_live.mono _)
   | (with_reducible exact sutlerlaw07_same.mono _ _ _)
   | (with_reducible exact sutlerref07_Clean.mono _ _ _)
   | (with_reducible exact sutlerref07_IsCool.mono _ _ _ _ _ _)
   | (with_reducible exact sutlerref07_Left.mono _ _ _ _)
   | (with_reducible exact sutlerref07_Next.mono _ _ _)
   | (with_reducible exact LeO.refl _)
   | (with_reducible exact LeO.none _)
   | (with_reducible refine LeO.ite ?_ ?_)
   | (with_reducible refine LeO.bind ?_ (fun _ => ?_))
   | exact ih0 _ _ _ _ _ _ _ _
   | exact ih1 _ _ _ _ _ _ _ _
   | exact ih2 _ _ _ _ _ _
   | exact ih3 _ _ _ _
   | exact cool_Next.mono _ _ _
   | exact sutlerlaw07_live.mono _
   | exact sutlerlaw07_same.mono _ _ _
   | exact sutlerref07_Clean.mono _ _ _
   | exact sutlerref07_IsCool.mono _ _ _ _ _ _
   | exact sutlerref07_Left.mono _ _ _ _
   | exact sutlerref07_Next.mono _ _ _
   | exact LeO.none _
   | refine LeO.ite ?_ ?_
   | refine LeO.bind ?_ (fun _ => ?_)
  ·intro y0 y1 y2 y3 y4 y5
   unfold sutlerlaw07_CoolAsks.l1
   repeat' first
   | (with_reducible exact ih0 _ _ _ _ _ _ _ _)
   | (with_reducible exact ih1 _ _ _ _ _ _ _ _)
   | (with_reducible exact ih2 _ _ _ _ _ _)
   | (with_reducible exact ih3 _ _ _ _)
   | (with_reducible exact cool_Next.mono _ _ _)
   | (with_reducible exact sutlerlaw07_live.mono _)
   | (with_reducible exact sutlerlaw07_same.mono _ _ _)
   | (with_reducible exact sutlerref07_Clean.mono _ _ _)
   | (with_reducible exact sutlerref07_IsCool.mono _ _ _ _ _ _)
   | (with_reducible exact sutlerref07_Left.mono _ _ _ _)
   | (with_reducible exact sutlerref07_Next.mono _ _ _)
   | (with_reducible exact LeO.refl _)
   | (with_reducible exact LeO.none _)
   | (with_reducible refine LeO.ite ?_ ?_)
   | (with_reducible refine LeO.bind ?_ (fun _ => ?_))
   | exact ih0 _ _ _ _ _ _ _ _
   | exact ih1 _ _ _ _ _ _ _ _
   | exact ih2 _ _ _ _ _ _
   | exact ih3 _ _ _ _
   | exact cool_Next.mono _ _ _
   | exact sutlerlaw07_live.mono _
   | exact sutlerlaw07_same.mono _ _ _
   | exact sutlerref07_Clean.mono _ _ _
   | exact sutlerref07_IsCool.mono _ _ _ _ _ _
   | exact sutlerref07_Left.mono _ _ _ _
   | exact sutlerref07_Next.mono _ _ _
   | exact LeO.none _
   | refine LeO.ite ?_ ?_
   | refine LeO.bind ?_ (fun _ => ?_)
  ·intro y0 y1 y2 y3
   unfold sutlerlaw07_CoolAsks.l2
   repeat' first
   | (with_reducible exact ih0 _ _ _ _ _ _ _ _)
   | (with_reducible exact ih1 _ _ _ _ _ _ _ _)
   | (with_reducible exact ih2 _ _ _ _ _ _)
   | (with_reducible exact ih3 _ _ _ _)
   | (with_reducible exact cool_Next.mono _ _ _)
   | (with_reducible exact sutlerlaw07_live.mono _)
   | (with_reducible exact sutlerlaw07_same.mono _ _ _)
   | (with_reducible exact sutlerref07_Clean.mono _ _ _)
   | (with_reducible exact sutlerref07_IsCool.mono _ _ _ _ _ _)
   | (with_reducible exact sutlerref07_Left.mono _ _ _ _)
   | (with_reducible exact sutlerref07_Next.mono _ _ _)
   | (with_reducible exact LeO.refl _)
   | (with_reducible exact LeO.none _)
   | (with_reducible refine LeO.ite ?_ ?_)
   | (with_reducible refine LeO.bind ?_ (fun _ => ?_))
   | exact ih0 _ _ _ _ _ _ _ _
   | exact ih1 _ _ _ _ _ _ _ _
   | exact ih2 _ _ _ _ _ _
   | exact ih3 _ _ _ _
   | exact cool_Next.mono _ _ _
   | exact sutlerlaw07_live.mono _
   | exact sutlerlaw07_same.mono _ _ _
   | exact sutlerref07_Clean.mono _ _ _
   | exact sutlerref07_IsCool.mono _ _ _ _ _ _
   | exact sutlerref07_Left.mono _ _ _ _
   | exact sutlerref07_Next.mono _ _ _
   | exact LeO.none _
   | refine LeO.ite ?_ ?_
   | refine LeO.bind ?_ (fun _ => ?_)
theorem sutlerlaw07_CoolAsks.mono : ∀ a0 a1 a2 k, LeO (sutlerlaw07_CoolAsks.f k a0 a1 a2) (sutlerlaw07_CoolAsks.f (k + 1) a0 a1 a2) := by
 intro a0 a1 a2 k
 obtain ⟨ih0, ih1, ih2, ih3⟩ := sutlerlaw07_CoolAsks.mono_l k
 unfold sutlerlaw07_CoolAsks.f
 repeat' first
   | (with_reducible exact ih0 _ _ _ _ _ _ _ _)
   | (with_reducible exact ih1 _ _ _ _ _ _ _ _)
   | (with_reducible exact ih2 _ _ _ _ _ _)
   | (with_reducible exact ih3 _ _ _ _)
   | (with_reducible exact cool_Next.mono _ _ _)
   | (with_reducible exact sutlerlaw07_live.mono _)
   | (with_reducible exact sutlerlaw07_same.mono _ _ _)
   | (with_reducible exact sutlerref07_Clean.mono _ _ _)
   | (with_reducible exact sutlerref07_IsCool.mono _ _ _ _ _ _)
   | (with_reducible exact sutlerref07_Left.mono _ _ _ _)
   | (with_reducible exact sutlerref07_Next.mono _ _ _)
   | (with_reducible exact LeO.refl _)
   | (with_reducible exact LeO.none _)
   | (with_reducible refine LeO.ite ?_ ?_)
   | (with_reducible refine LeO.bind ?_ (fun _ => ?_))
   | exact ih0 _ _ _ _ _ _ _ _
   | exact ih1 _ _ _ _ _ _ _ _
   | exact ih2 _ _ _ _ _ _
   | exact ih3 _ _ _ _
   | exact cool_Next.mono _ _ _
   | exact sutlerlaw07_live.mono _
   | exact sutlerlaw07_same.mono _ _ _
   | exact sutlerref07_Clean.mono _ _ _
   | exact sutlerref07_IsCool.mono _ _ _ _ _ _
   | exact sutlerref07_Left.mono _ _ _ _
   | exact sutlerref07_Next.mono _ _ _
   | exact LeO.none _
   | refine LeO.ite ?_ ?_
   | refine LeO.bind ?_ (fun _ => ?_)
def sutlerlaw07_CoolAsks.T13 : Bool × List (List Nat × List Nat) := (true, [([], []), ([], []), ([0, 1], [0, 1]), ([2], [2]), ([], []), ([], []), ([4, 5], [4, 5]), ([6], [6]), ([3, 7], [3, 7])])
def sutlerlaw07_CoolAsks.B13 : List Nat := [0, 0, 3, 7, 0, 0, 48, 112, 255]
theorem sutlerlaw07_CoolAsks.tab13 : rtab .any (opsOf Try.f5 13) = sutlerlaw07_CoolAsks.T13 := by kernel_rfl
theorem sutlerlaw07_CoolAsks.bits13 : waitsOk sutlerlaw07_CoolAsks.T13.2 sutlerlaw07_CoolAsks.B13 = true := by kernel_rfl
def sutlerlaw07_CoolAsks.T19 : Bool × List (List Nat × List Nat) := (true, [([], []), ([], []), ([], []), ([1, 2], [1, 2]), ([3], [3]), ([], []), ([0, 4, 5], [0, 4, 5]), ([], []), ([], []), ([], []), ([8, 9], [8, 9]), ([10], [10]), ([], []), ([7, 11, 12, 6], [7, 11, 12]), ([6, 13], [6, 13])])
def sutlerlaw07_CoolAsks.B19 : List Nat := [0, 0, 0, 6, 14, 0, 63, 0, 0, 0, 768, 1792, 0, 8191, 16383]
theorem sutlerlaw07_CoolAsks.tab19 : rtab .any (opsOf Try.f5 19) = sutlerlaw07_CoolAsks.T19 := by kernel_rfl
theorem sutlerlaw07_CoolAsks.bits19 : waitsOk sutlerlaw07_CoolAsks.T19.2 sutlerlaw07_CoolAsks.B19 = true := by kernel_rfl
set_option maxHeartbeats 8000000 in
set_option maxRecDepth 100000 in
theorem sutlerlaw07_CoolAsks.calls (k : Nat) (A0 : Option Addr) (c0 : Nat) (l0 : List (S25)) (A1 : Option Addr) (c1 : Nat) (l1 : List (S23)) (a2 : Int) (r : Bool) (w : World) (hr0 : Kd.C k25 w A0 l0.length l0) (hc0 : l0.length ≤ c0) (hr1 : Kd.C k23 w A1 l1.length l1) (hc1 : l1.length ≤ c1) (h : sutlerlaw07_CoolAsks.f k l0 l1 a2 = some r) :
  Calls Try.prog 5 #[.slice A0 l0.length c0, .slice A1 l1.length c1, .int .i64 a2] w fun e w' => e = .returned (.bool r) ∧ Below w.heap.size w w' := by
 have hu23 := Try.underlying23
 have hu25 := Try.underlying25
 have HR0 := Aside0.mk hr0
 have HC0 := Aside0.mk hc0
 clear hr0 hc0
 have HR1 := Aside0.mk hr1
 have HC1 := Aside0.mk hc1
 clear hr1 hc1
 have HB := Aside0.mk (Below.refl w.heap.size w)
 have H : ((some (([] : List (S25)) : List (S25))).bind fun y315 => (if y315.length + l0.length < 2513169434916 then ((some (y315 ++ l0 : List (S25))).bind fun y318 => ((cool_Left.f l0 l1 a2).bind fun t321 => ((sutlerref07_Left.f k y318 l1 a2).bind fun t324 => ((cool_Clean.f l0 a2).bind fun t327 => ((sutlerref07_Clean.f k y318 a2).bind fun t330 => ((cool_Next.f k l0 a2).bind fun bt333 => ((sutlerref07_Next.f k y318 a2).bind fun bt335 => (if (t321.length : Int) = (t324.length : Int) then ((sutlerlaw07_same.f k t327 t330).bind fun t337 => (if t337 = true then (if bt333.1 = bt335.1 then (sutlerlaw07_CoolAsks.j0 k l0 l1 a2 y318 t321 t324 t327 (bt333.2 != bt335.2)) else (sutlerlaw07_CoolAsks.j0 k l0 l1 a2 y318 t321 t324 t327 true)) else (sutlerlaw07_CoolAsks.j0 k l0 l1 a2 y318 t321 t324 t327 true))) else (sutlerlaw07_CoolAsks.j0 k l0 l1 a2 y318 t321 t324 t327 true))))))))) else (none))) = some r := h
 clear h
 obtain ⟨y315, hy315⟩ : ∃ y_ : List (S25), y_ = (([] : List (S25))) := ⟨_, rfl⟩
 replace H : (if y315.length + l0.length < 2513169434916 then ((some (y315 ++ l0 : List (S25))).bind fun y318 => ((cool_Left.f l0 l1 a2).bind fun t321 => ((sutlerref07_Left.f k y318 l1 a2).bind fun t324 => ((cool_Clean.f l0 a2).bind fun t327 => ((sutlerref07_Clean.f k y318 a2).bind fun t330 => ((cool_Next.f k l0 a2).bind fun bt333 => ((sutlerref07_Next.f k y318 a2).bind fun bt335 => (if (t321.length : Int) = (t324.length : Int) then ((sutlerlaw07_same.f k t327 t330).bind fun t337 => (if t337 = true then (if bt333.1 = bt335.1 then (sutlerlaw07_CoolAsks.j0 k l0 l1 a2 y318 t321 t324 t327 (bt333.2 != bt335.2)) else (sutlerlaw07_CoolAsks.j0 k l0 l1 a2 y318 t321 t324 t327 true)) else (sutlerlaw07_CoolAsks.j0 k l0 l1 a2 y318 t321 t324 t327 true))) else (sutlerlaw07_CoolAsks.j0 k l0 l1 a2 y318 t321 t324 t327 true))))))))) else (none)) = some r := by first | (rw [hy315]; with_reducible exact H) | (have H2_ := (Option.bind_some _ _).symm.trans H; rw [hy315]; with_reducible exact H2_) | (have H2_ := (Option.bind_some _ _).symm.trans H; with_reducible exact H2_) | with_reducible exact H | (rw [hy315]; exact H) | exact H
 have Ny315 := Aside0.mk hy315
 clear hy315
 by_cases c4 : y315.length + l0.length < 2513169434916
 ·rw [if_pos c4] at H
  have LMc4 := Aside0.mk c4
  clear c4
  obtain ⟨y318, hy318⟩ : ∃ y_ : List (S25), y_ = (y315 ++ l0) := ⟨_, rfl⟩
  replace H : ((cool_Left.f l0 l1 a2).bind fun t321 => ((sutlerref07_Left.f k y318 l1 a2).bind fun t324 => ((cool_Clean.f l0 a2).bind fun t327 => ((sutlerref07_Clean.f k y318 a2).bind fun t330 => ((cool_Next.f k l0 a2).bind fun bt333 => ((sutlerref07_Next.f k y318 a2).bind fun bt335 => (if (t321.length : Int) = (t324.length : Int) then ((sutlerlaw07_same.f k t327 t330).bind fun t337 => (if t337 = true then (if bt333.1 = bt335.1 then (sutlerlaw07_CoolAsks.j0 k l0 l1 a2 y318 t321 t324 t327 (bt333.2 != bt335.2)) else (sutlerlaw07_CoolAsks.j0 k l0 l1 a2 y318 t321 t324 t327 true)) else (sutlerlaw07_CoolAsks.j0 k l0 l1 a2 y318 t321 t324 t327 true))) else (sutlerlaw07_CoolAsks.j0 k l0 l1 a2 y318 t321 t324 t327 true)))))))) = some r := by first | (rw [hy318]; with_reducible exact H) | (have H2_ := (Option.bind_some _ _).symm.trans H; rw [hy318]; with_reducible exact H2_) | (have H2_ := (Option.bind_some _ _).symm.trans H; with_reducible exact H2_) | with_reducible exact H | (rw [hy318]; exact H) | exact H
  have Ny318 := Aside0.mk hy318
  clear hy318
  replace H := Option.bind_eq_some_iff.mp H
  obtain ⟨t321, A50, H⟩ := H
  replace H : ((sutlerref07_Left.f k y318 l1 a2).bind fun t324 => ((cool_Clean.f l0 a2).bind fun t327 => ((sutlerref07_Clean.f k y318 a2).bind fun t330 => ((cool_Next.f k l0 a2).bind fun bt333 => ((sutlerref07_Next.f k y318 a2).bind fun bt335 => (if (t321.length : Int) = (t324.length : Int) then ((sutlerlaw07_same.f k t327 t330).bind fun t337 => (if t337 = true then (if bt333.1 = bt335.1 then (sutlerlaw07_CoolAsks.j0 k l0 l1 a2 y318 t321 t324 t327 (bt333.2 != bt335.2)) else (sutlerlaw07_CoolAsks.j0 k l0 l1 a2 y318 t321 t324 t327 true)) else (sutlerlaw07_CoolAsks.j0 k l0 l1 a2 y318 t321 t324 t327 true))) else (sutlerlaw07_CoolAsks.j0 k l0 l1 a2 y318 t321 t324 t327 true))))))) = some r := H
  have A5 := Aside0.mk A50
  clear A50
  replace H := Option.bind_eq_some_iff.mp H
  obtain ⟨t324, A60, H⟩ := H
  replace H : ((cool_Clean.f l0 a2).bind fun t327 => ((sutlerref07_Clean.f k y318 a2).bind fun t330 => ((cool_Next.f k l0 a2).bind fun bt333 => ((sutlerref07_Next.f k y318 a2).bind fun bt335 => (if (t321.length : Int) = (t324.length : Int) then ((sutlerlaw07_same.f k t327 t330).bind fun t337 => (if t337 = true then (if bt333.1 = bt335.1 then (sutlerlaw07_CoolAsks.j0 k l0 l1 a2 y318 t321 t324 t327 (bt333.2 != bt335.2)) else (sutlerlaw07_CoolAsks.j0 k l0 l1 a2 y318 t321 t324 t327 true)) else (sutlerlaw07_CoolAsks.j0 k l0 l1 a2 y318 t321 t324 t327 true))) else (sutlerlaw07_CoolAsks.j0 k l0 l1 a2 y318 t321 t324 t327 true)))))) = some r := H
  have A6 := Aside0.mk A60
  clear A60
  replace H := Option.bind_eq_some_iff.mp H
  obtain ⟨t327, A70, H⟩ := H
  replace H : ((sutlerref07_Clean.f k y318 a2).bind fun t330 => ((cool_Next.f k l0 a2).bind fun bt333 => ((sutlerref07_Next.f k y318 a2).bind fun bt335 => (if (t321.length : Int) = (t324.length : Int) then ((sutlerlaw07_same.f k t327 t330).bind fun t337 => (if t337 = true then (if bt333.1 = bt335.1 then (sutlerlaw07_CoolAsks.j0 k l0 l1 a2 y318 t321 t324 t327 (bt333.2 != bt335.2)) else (sutlerlaw07_CoolAsks.j0 k l0 l1 a2 y318 t321 t324 t327 true)) else (sutlerlaw07_CoolAsks.j0 k l0 l1 a2 y318 t321 t324 t327 true))) else (sutlerlaw07_CoolAsks.j0 k l0 l1 a2 y318 t321 t324 t327 true))))) = some r := H
  have A7 := Aside0.mk A70
  clear A70
  replace H := Option.bind_eq_some_iff.mp H
  obtain ⟨t330, A80, H⟩ := H
  replace H : ((cool_Next.f k l0 a2).bind fun bt333 => ((sutlerref07_Next.f k y318 a2).bind fun bt335 => (if (t321.length : Int) = (t324.length : Int) then ((sutlerlaw07_same.f k t327 t330).bind fun t337 => (if t337 = true then (if bt333.1 = bt335.1 then (sutlerlaw07_CoolAsks.j0 k l0 l1 a2 y318 t321 t324 t327 (bt333.2 != bt335.2)) else (sutlerlaw07_CoolAsks.j0 k l0 l1 a2 y318 t321 t324 t327 true)) else (sutlerlaw07_CoolAsks.j0 k l0 l1 a2 y318 t321 t324 t327 true))) else (sutlerlaw07_CoolAsks.j0 k l0 l1 a2 y318 t321 t324 t327 true)))) = some r := H
  have A8 := Aside0.mk A80
  clear A80
  replace H := Option.bind_eq_some_iff.mp H
  obtain ⟨⟨t333, t334⟩, A90, H⟩ := H
  replace H : ((sutlerref07_Next.f k y318 a2).bind fun bt335 => (if (t321.length : Int) = (t324.length : Int) then ((sutlerlaw07_same.f k t327 t330).bind fun t337 => (if t337 = true then (if t333 = bt335.1 then (sutlerlaw07_CoolAsks.j0 k l0 l1 a2 y318 t321 t324 t327 (t334 != bt335.2)) else (sutlerlaw07_CoolAsks.j0 k l0 l1 a2 y318 t321 t324 t327 true)) else (sutlerlaw07_CoolAsks.j0 k l0 l1 a2 y318 t321 t324 t327 true))) else (sutlerlaw07_CoolAsks.j0 k l0 l1 a2 y318 t321 t324 t327 true))) = some r := H
  have A9 := Aside0.mk A90
  clear A90
  replace H := Option.bind_eq_some_iff.mp H
  obtain ⟨⟨t335, t336⟩, A100, H⟩ := H
  replace H : (if (t321.length : Int) = (t324.length : Int) then ((sutlerlaw07_same.f k t327 t330).bind fun t337 => (if t337 = true then (if t333 = t335 then (sutlerlaw07_CoolAsks.j0 k l0 l1 a2 y318 t321 t324 t327 (t334 != t336)) else (sutlerlaw07_CoolAsks.j0 k l0 l1 a2 y318 t321 t324 t327 true)) else (sutlerlaw07_CoolAsks.j0 k l0 l1 a2 y318 t321 t324 t327 true))) else (sutlerlaw07_CoolAsks.j0 k l0 l1 a2 y318 t321 t324 t327 true)) = some r := H
  have A10 := Aside0.mk A100
  clear A100
  have HC11 := Aside0.mk H
  clear H
  go_enter Try.func5, Try.ntmps5
  go_upto_region 8 with (first | ((with_reducible refine gate_dst (N := 19) rfl ?_); refine Kd.R_lit k25 _ 25 ?hg (N := 19) ?hd (xs := ([] : List (S25))) (inner := []) (ok := fun _ => True) (okp := fun _ => True) ?hr ?hp (fun _ hk => hk) trivial (Below.refl _ _) (Nat.le_refl _) (by simp) ?_; (case hd => rfl); (case hg => rfl); (case hr => first | (go_simp; done) | (go_simp; rfl)); (case hp => exact (Reps.none _ _)); intro v316 w12 ho13 hb hg_ hnew_; clear hg_ hnew_; (first | rw [← Ny315.out] at ho13 | (simp only [Int.reduceToNat] at ho13; rw [← Ny315.out] at ho13)); have n0_ := Aside0.mk (Kd.R_lower ho13 (below_size (by repeat (first | (with_reducible first | exact HB.out | apply below_alloc | apply pw_below_drewN | apply below_drew1) | exact HB.out)))); have n1_ := Aside0.mk (below_step (by repeat (first | (with_reducible first | exact HB.out | apply below_alloc | apply pw_below_drewN | apply below_drew1) | exact HB.out)) hb); clear HB; have HO317 := n0_; have HB := n1_; clear n0_ n1_; clear hb ho13) | ((with_reducible refine gate_builtin (b := .append) (xs := #[.tmp 19, .tmp 20]) rfl ?_); at_builtin; refine Kd.R_append_rows k25 (w0 := w) w.heap.size rfl (.tmp 19) (.tmp 20) 29 25 (.agg #[(.string ⟨#[]⟩), (.string ⟨#[]⟩), (.string ⟨#[]⟩), (.int .i64 0)]) 56 rfl Try.underlying29 info25 rfl (by decide) (by omega) v316 y315 l0 _ _ _ (fun _ => True) (fun _ => False) rfl rfl ?aO ?aR (fun _ _ h => h) (fun _ h => h.elim) ?aF ?aB ?aS ?aL ?_; (case aR => repeat (first | exact (Kd.C_below HR0.out HB.out) | (with_reducible refine Kd.C_alloc ?_ _) | (with_reducible refine Kd.C_drewN ?_ _) | (with_reducible refine Kd.C_drew ?_))); (case aB => exact (by repeat (first | (with_reducible first | exact HB.out | apply below_alloc | apply pw_below_drewN | apply below_drew1) | exact HB.out))); (case aF => exact (fun _ _ => trivial)); (case aO => exact (by (with_reducible repeat (first | apply Kd.R_alloc | apply Kd.R_drewN | apply Kd.R_drew)); exact HO317.out)); (case aS => exact (below_size (by repeat (first | (with_reducible first | exact HB.out | apply below_alloc | apply pw_below_drewN | apply below_drew1) | exact HB.out)))); (case aL => have := LMc4.out; omega); intro v319 w14 ho hb hg hat; rw [← Ny318.out] at ho; have n0_ := Aside0.mk (hb); have n1_ := Aside0.mk (ho); clear HB; clear HO317; have HB := n0_; have HO320 := n1_; clear n0_ n1_; clear ho hb hg hat) | ((with_reducible refine gate_callee (f := 15) rfl ?_); refine goesL_ (some 25) rfl rfl Try.func15 (by kernel_rfl) rfl #[.slice A0 l0.length c0, .slice A1 l1.length c1, .int .i64 a2] rfl (by (try simp only [List.map_toArray, List.map_cons, List.map_nil]); first | done | rfl | (simp only [List.length_drop, List.length_take]; rfl)) ?_; (with_reducible refine (cool_Left.calls _ _ l0 _ _ l1 a2 t321 _ ?side1 ?side2 ?side3 ?side4 A5.out).mono ?_); (case side1 => repeat (first | exact (Kd.C_below HR0.out HB.out) | (with_reducible refine Kd.C_alloc ?_ _) | (with_reducible refine Kd.C_drewN ?_ _) | (with_reducible refine Kd.C_drew ?_))); (case side2 => exact HC0.out); (case side3 => repeat (first | exact (Kd.C_below HR1.out HB.out) | (with_reducible refine Kd.C_alloc ?_ _) | (with_reducible refine Kd.C_drewN ?_ _) | (with_reducible refine Kd.C_drew ?_))); (case side4 => exact HC1.out); rintro e w15 ⟨v322, rfl, ho0, hb⟩; refine ⟨_, rfl, ?_⟩; have n0_ := Aside0.mk (Kd.R_below (by (with_reducible repeat (first | apply Kd.R_alloc | apply Kd.R_drewN | apply Kd.R_drew)); exact HO320.out) hb); have n1_ := Aside0.mk (Kd.R_lower ho0 (below_size (by repeat (first | (with_reducible first | exact HB.out | apply below_alloc | apply pw_below_drewN | apply below_drew1) | exact HB.out)))); have n2_ := Aside0.mk (below_step (by repeat (first | (with_reducible first | exact HB.out | apply below_alloc | apply pw_below_drewN | apply below_drew1) | exact HB.out)) hb); clear HO320; clear HB; have HO320 := n0_; have HO323 := n1_; have HB := n2_; clear n0_ n1_ n2_; (try clear hb); (try clear hb2); (try clear hk); (try clear hi); (try clear ho0); obtain ⟨Ao16, co16, eo16⟩ := Kd.R_slice HO320.out; subst eo16) | ((with_reducible refine gate_callee (f := 16) rfl ?_); refine goesL_ (some 29) rfl rfl Try.func16 (by kernel_rfl) rfl #[.slice Ao16 y318.length co16, .slice A1 l1.length c1, .int .i64 a2] rfl (by (try simp only [List.map_toArray, List.map_cons, List.map_nil]); first | done | rfl | (simp only [List.length_drop, List.length_take]; rfl)) ?_; (with_reducible refine (sutlerref07_Left.calls k _ _ y318 _ _ l1 a2 t324 _ ?side1 ?side2 ?side3 ?side4 A6.out).mono ?_); (case side1 => repeat (first | exact (Kd.R_reads' HO320.out).2.2 | (with_reducible refine Kd.C_alloc ?_ _) | (with_reducible refine Kd.C_drewN ?_ _) | (with_reducible refine Kd.C_drew ?_))); (case side2 => exact (Kd.R_reads' HO320.out).2.1); (case side3 => repeat (first | exact (Kd.C_below HR1.out HB.out) | (with_reducible refine Kd.C_alloc ?_ _) | (with_reducible refine Kd.C_drewN ?_ _) | (with_reducible refine Kd.C_drew ?_))); (case side4 => exact HC1.out); rintro e w17 ⟨v325, rfl, ho0, hb⟩; refine ⟨_, rfl, ?_⟩; have n0_ := Aside0.mk (Kd.R_below (by (with_reducible repeat (first | apply Kd.R_alloc | apply Kd.R_drewN | apply Kd.R_drew)); exact HO320.out) hb); have n1_ := Aside0.mk (Kd.R_elder' (by (with_reducible repeat (first | apply Kd.R_alloc | apply Kd.R_drewN | apply Kd.R_drew)); exact HO323.out) (Kd.R_base ho0) hb); have n2_ := Aside0.mk (Kd.R_lower (Kd.R_new' ho0 (Kd.R_lt (by (with_reducible repeat (first | apply Kd.R_alloc | apply Kd.R_drewN | apply Kd.R_drew)); exact HO323.out))) (below_size (by repeat (first | (with_reducible first | exact HB.out | apply below_alloc | apply pw_below_drewN | apply below_drew1) | exact HB.out)))); have n3_ := Aside0.mk (below_step (by repeat (first | (with_reducible first | exact HB.out | apply below_alloc | apply pw_below_drewN | apply below_drew1) | exact HB.out)) hb); clear HO320; clear HO323; clear HB; have HO320 := n0_; have HO323 := n1_; have HO326 := n2_; have HB := n3_; clear n0_ n1_ n2_ n3_; (try clear hb); (try clear hb2); (try clear hk); (try clear hi); (try clear ho0)) | ((with_reducible refine gate_callee (f := 17) rfl ?_); refine goesL_ (some 32) rfl rfl Try.func17 (by kernel_rfl) rfl #[.slice A0 l0.length c0, .int .i64 a2] rfl (by (try simp only [List.map_toArray, List.map_cons, List.map_nil]); first | done | rfl | (simp only [List.length_drop, List.length_take]; rfl)) ?_; (with_reducible refine (cool_Clean.calls _ _ l0 a2 t327 _ ?side1 ?side2 A7.out).mono ?_); (case side1 => repeat (first | exact (Kd.C_below HR0.out HB.out) | (with_reducible refine Kd.C_alloc ?_ _) | (with_reducible refine Kd.C_drewN ?_ _) | (with_reducible refine Kd.C_drew ?_))); (case side2 => exact HC0.out); rintro e w18 ⟨v328, rfl, ho0, hb⟩; refine ⟨_, rfl, ?_⟩; have n0_ := Aside0.mk (Kd.R_elder' (by (with_reducible repeat (first | apply Kd.R_alloc | apply Kd.R_drewN | apply Kd.R_drew)); exact HO320.out) (Kd.Q_base ho0) hb); have n1_ := Aside0.mk (Kd.R_below (by (with_reducible repeat (first | apply Kd.R_alloc | apply Kd.R_drewN | apply Kd.R_drew)); exact HO323.out) hb); have n2_ := Aside0.mk (Kd.R_below (by (with_reducible repeat (first | apply Kd.R_alloc | apply Kd.R_drewN | apply Kd.R_drew)); exact HO326.out) hb); have n3_ := Aside0.mk (Kd.Q_lower (Kd.Q_new' ho0 (Kd.R_lt (by (with_reducible repeat (first | apply Kd.R_alloc | apply Kd.R_drewN | apply Kd.R_drew)); exact HO320.out))) (below_size (by repeat (first | (with_reducible first | exact HB.out | apply below_alloc | apply pw_below_drewN | apply below_drew1) | exact HB.out)))); have n4_ := Aside0.mk (below_step (by repeat (first | (with_reducible first | exact HB.out | apply below_alloc | apply pw_below_drewN | apply below_drew1) | exact HB.out)) hb); clear HO320; clear HO323; clear HO326; clear HB; have HO320 := n0_; have HO323 := n1_; have HO326 := n2_; have HO329 := n3_; have HB := n4_; clear n0_ n1_ n2_ n3_ n4_; (try clear hb); (try clear hb2); (try clear hk); (try clear hi); (try clear ho0)) | ((with_reducible refine gate_callee (f := 18) rfl ?_); refine goesL_ (some 35) rfl rfl Try.func18 (by kernel_rfl) rfl #[.slice Ao16 y318.length co16, .int .i64 a2] rfl (by (try simp only [List.map_toArray, List.map_cons, List.map_nil]); first | done | rfl | (simp only [List.length_drop, List.length_take]; rfl)) ?_; (with_reducible refine (sutlerref07_Clean.calls k _ _ y318 a2 t330 _ ?side1 ?side2 A8.out).mono ?_); (case side1 => repeat (first | exact (Kd.R_reads' HO320.out).2.2 | (with_reducible refine Kd.C_alloc ?_ _) | (with_reducible refine Kd.C_drewN ?_ _) | (with_reducible refine Kd.C_drew ?_))); (case side2 => exact (Kd.R_reads' HO320.out).2.1); rintro e w19 ⟨v331, rfl, ho0, hb⟩; refine ⟨_, rfl, ?_⟩; have n0_ := Aside0.mk (Kd.R_elder' (by (with_reducible repeat (first | apply Kd.R_alloc | apply Kd.R_drewN | apply Kd.R_drew)); exact HO320.out) (Kd.R_base ho0) hb); have n1_ := Aside0.mk (Kd.R_below (by (with_reducible repeat (first | apply Kd.R_alloc | apply Kd.R_drewN | apply Kd.R_drew)); exact HO323.out) hb); have n2_ := Aside0.mk (Kd.R_below (by (with_reducible repeat (first | apply Kd.R_alloc | apply Kd.R_drewN | apply Kd.R_drew)); exact HO326.out) hb); have n3_ := Aside0.mk (Kd.Q_elder' (by (with_reducible repeat (first | apply Kd.Q_alloc | apply Kd.Q_drewN | apply Kd.Q_drew)); exact HO329.out) (Kd.R_base ho0) hb); have n4_ := Aside0.mk (Kd.R_lower (Kd.R_new' (Kd.R_new' ho0 (Kd.R_lt (by (with_reducible repeat (first | apply Kd.R_alloc | apply Kd.R_drewN | apply Kd.R_drew)); exact HO320.out))) (Kd.Q_lt (by (with_reducible repeat (first | apply Kd.Q_alloc | apply Kd.Q_drewN | apply Kd.Q_drew)); exact HO329.out))) (below_size (by repeat (first | (with_reducible first | exact HB.out | apply below_alloc | apply pw_below_drewN | apply below_drew1) | exact HB.out)))); have n5_ := Aside0.mk (below_step (by repeat (first | (with_reducible first | exact HB.out | apply below_alloc | apply pw_below_drewN | apply below_drew1) | exact HB.out)) hb); clear HO320; clear HO323; clear HO326; clear HO329; clear HB; have HO320 := n0_; have HO323 := n1_; have HO326 := n2_; have HO329 := n3_; have HO332 := n4_; have HB := n5_; clear n0_ n1_ n2_ n3_ n4_ n5_; (try clear hb); (try clear hb2); (try clear hk); (try clear hi); (try clear ho0)) | ((with_reducible refine gate_callee (f := 19) rfl ?_); refine goesL_ (some 39) rfl rfl Try.func19 (by kernel_rfl) rfl #[.slice A0 l0.length c0, .int .i64 a2] rfl (by (try simp only [List.map_toArray, List.map_cons, List.map_nil]); first | done | rfl | (simp only [List.length_drop, List.length_take]; rfl)) ?_; (with_reducible refine (cool_Next.calls k _ _ l0 a2 t333 t334 _ ?side1 ?side2 A9.out).mono ?_); (case side1 => repeat (first | exact (Kd.C_below HR0.out HB.out) | (with_reducible refine Kd.C_alloc ?_ _) | (with_reducible refine Kd.C_drewN ?_ _) | (with_reducible refine Kd.C_drew ?_))); (case side2 => exact HC0.out); rintro e w20 ⟨rfl, hb⟩; refine ⟨_, rfl, ?_⟩; have n0_ := Aside0.mk (Kd.R_below (by (with_reducible repeat (first | apply Kd.R_alloc | apply Kd.R_drewN | apply Kd.R_drew)); exact HO320.out) hb); have n1_ := Aside0.mk (Kd.R_below (by (with_reducible repeat (first | apply Kd.R_alloc | apply Kd.R_drewN | apply Kd.R_drew)); exact HO323.out) hb); have n2_ := Aside0.mk (Kd.R_below (by (with_reducible repeat (first | apply Kd.R_alloc | apply Kd.R_drewN | apply Kd.R_drew)); exact HO326.out) hb); have n3_ := Aside0.mk (Kd.Q_below (by (with_reducible repeat (first | apply Kd.Q_alloc | apply Kd.Q_drewN | apply Kd.Q_drew)); exact HO329.out) hb); have n4_ := Aside0.mk (Kd.R_below (by (with_reducible repeat (first | apply Kd.R_alloc | apply Kd.R_drewN | apply Kd.R_drew)); exact HO332.out) hb); have n5_ := Aside0.mk (below_step (by repeat (first | (with_reducible first | exact HB.out | apply below_alloc | apply pw_below_drewN | apply below_drew1) | exact HB.out)) hb); clear HO320; clear HO323; clear HO326; clear HO329; clear HO332; clear HB; have HO320 := n0_; have HO323 := n1_; have HO326 := n2_; have HO329 := n3_; have HO332 := n4_; have HB := n5_; clear n0_ n1_ n2_ n3_ n4_ n5_; (try clear hb); (try clear hb2); (try clear hk); (try clear hi)) | ((with_reducible refine gate_callee (f := 20) rfl ?_); refine goesL_ (some 45) rfl rfl Try.func20 (by kernel_rfl) rfl #[.slice Ao16 y318.length co16, .int .i64 a2] rfl (by (try simp only [List.map_toArray, List.map_cons, List.map_nil]); first | done | rfl | (simp only [List.length_drop, List.length_take]; rfl)) ?_; (with_reducible refine (sutlerref07_Next.calls k _ _ y318 a2 t335 t336 _ ?side1 ?side2 A10.out).mono ?_); (case side1 => repeat (first | exact (Kd.R_reads' HO320.out).2.2 | (with_reducible refine Kd.C_alloc ?_ _) | (with_reducible refine Kd.C_drewN ?_ _) | (with_reducible refine Kd.C_drew ?_))); (case side2 => exact (Kd.R_reads' HO320.out).2.1); rintro e w' ⟨rfl, ⟨nd, rfl⟩⟩; refine ⟨_, rfl, ?_⟩))
  (try simp only [Act.put, List.setIfInBounds_toArray, List.set_cons_zero, List.set_cons_succ])
  go_cut [68] (fun v68 wc => ∃ (kq : Nat) (x68_10 : Bool), v68 = .bool x68_10 ∧ Aside0 (sutlerlaw07_CoolAsks.j0 kq l0 l1 a2 y318 t321 t324 t327 x68_10 = some r) ∧ Aside0 (kq ≤ k) ∧ Aside0 (Kd.R k25 25 wc w.heap.size (fun k_ => some k_ ≠ (v328 : Value).ownBlock) (.slice Ao16 y318.length co16) y318) ∧ Aside0 (Kd.R k23 23 wc w.heap.size (fun k_ => some k_ ≠ (v325 : Value).ownBlock) v322 t321) ∧ Aside0 (Kd.R k23 23 wc w.heap.size (fun k_ => some k_ ≠ (v322 : Value).ownBlock) v325 t324) ∧ Aside0 (Kd.Q k25 25 wc w.heap.size (fun k_ => some k_ ≠ ((.slice Ao16 y318.length co16) : Value).ownBlock) v328 t327) ∧ Aside0 (Below w.heap.size w wc))
  case first =>
   have H := HC11.out
   clear HC11
   by_cases c21 : (t321.length : Int) = (t324.length : Int)
   ·rw [if_pos c21] at H
    have c21b0 : ((t321.length : Int) == (t324.length : Int)) = true := beq_iff_eq.mpr c21
    have c21b1 : ((t321.length : Int) != (t324.length : Int)) = false := bne_eq_false_iff_eq.mpr c21
    have c21b2 : (t321.length == t324.length) = true := by first | simpa using c21 | (simp at c21 ⊢; omega)
    clear c21
    (first | rw [c21b0] | (simp only [i64_w, i32_w]; rw [c21b0]) | skip)
    replace H := Option.bind_eq_some_iff.mp H
    obtain ⟨t337, A220, H⟩ := H
    replace H : (if t337 = true then (if t333 = t335 then (sutlerlaw07_CoolAsks.j0 k l0 l1 a2 y318 t321 t324 t327 (t334 != t336)) else (sutlerlaw07_CoolAsks.j0 k l0 l1 a2 y318 t321 t324 t327 true)) else (sutlerlaw07_CoolAsks.j0 k l0 l1 a2 y318 t321 t324 t327 true)) = some r := H
    have A22 := Aside0.mk A220
    clear A220
    by_cases c23 : t337 = true
    ·subst c23
     have H1 : (if t333 = t335 then (sutlerlaw07_CoolAsks.j0 k l0 l1 a2 y318 t321 t324 t327 (t334 != t336)) else (sutlerlaw07_CoolAsks.j0 k l0 l1 a2 y318 t321 t324 t327 true)) = some r := by rw [if_pos rfl] at H; exact H
     clear H
     have H := H1
     clear H1
     by_cases c24 : t333 = t335
     ·rw [if_pos c24] at H
      have c24b0 : (t333 == t335) = true := beq_iff_eq.mpr c24
      have c24b1 : (t333 != t335) = false := bne_eq_false_iff_eq.mpr c24
      clear c24
      have H' := Aside0.mk H
      clear H
      obtain ⟨Ao25, co25, eo25⟩ := Kd.R_slice HO323.out
      subst eo25
      obtain ⟨Ao26, co26, eo26⟩ := Kd.R_slice HO326.out
      subst eo26
      obtain ⟨Ao27, co27, eo27, _⟩ := Kd.Q_slice HO329.out
      subst eo27
      obtain ⟨Ao28, co28, eo28⟩ := Kd.R_slice HO332.out
      subst eo28
      go_wp2_with (first | (go_at_call 14; (with_reducible refine (sutlerlaw07_same.calls k _ _ t327 _ _ t330 true _ ?side1 ?side2 ?side3 ?side4 A22.out).mono ?_); (case side1 => repeat (first | exact (Kd.Q_reads' HO329.out).2.2 | (with_reducible refine Kd.C_alloc ?_ _) | (with_reducible refine Kd.C_drewN ?_ _) | (with_reducible refine Kd.C_drew ?_))); (case side2 => exact (Kd.Q_reads' HO329.out).2.1); (case side3 => repeat (first | exact (Kd.R_reads' HO332.out).2.2 | (with_reducible refine Kd.C_alloc ?_ _) | (with_reducible refine Kd.C_drewN ?_ _) | (with_reducible refine Kd.C_drew ?_))); (case side4 => exact (Kd.R_reads' HO332.out).2.1); rintro e w' ⟨rfl, ⟨nd, rfl⟩⟩))
      go_meet
      case rel => exact ⟨_, ((t334 != t336)), (by first | rfl | (simp; done) | (simp [*]; done)), H', ⟨by first | omega | exact Nat.le_refl _⟩, ⟨by (with_reducible repeat (first | apply Kd.R_alloc | apply Kd.R_drewN | apply Kd.R_drew)); exact Kd.R_mono HO320.out (fun _ hk => hk.1.2)⟩, ⟨by (with_reducible repeat (first | apply Kd.R_alloc | apply Kd.R_drewN | apply Kd.R_drew)); exact Kd.R_mono HO323.out (fun _ hk => hk.2)⟩, ⟨by (with_reducible repeat (first | apply Kd.R_alloc | apply Kd.R_drewN | apply Kd.R_drew)); exact Kd.R_mono HO326.out (fun _ hk => hk.2)⟩, ⟨by (with_reducible repeat (first | apply Kd.Q_alloc | apply Kd.Q_drewN | apply Kd.Q_drew)); exact Kd.Q_mono HO329.out (fun _ hk => hk.1.2)⟩, ⟨by repeat (first | (with_reducible first | exact HB.out | apply below_alloc | apply pw_below_drewN | apply below_drew1) | exact HB.out)⟩⟩
     ·rw [if_neg c24] at H
      have c24b0 : (t333 == t335) = false := beq_eq_false_iff_ne.mpr c24
      have c24b1 : (t333 != t335) = true := bne_iff_ne.mpr c24
      have H' := Aside0.mk H
      clear H
      obtain ⟨Ao29, co29, eo29⟩ := Kd.R_slice HO323.out
      subst eo29
      obtain ⟨Ao30, co30, eo30⟩ := Kd.R_slice HO326.out
      subst eo30
      obtain ⟨Ao31, co31, eo31, _⟩ := Kd.Q_slice HO329.out
      subst eo31
      obtain ⟨Ao32, co32, eo32⟩ := Kd.R_slice HO332.out
      subst eo32
      go_wp2_with (first | (go_at_call 14; (with_reducible refine (sutlerlaw07_same.calls k _ _ t327 _ _ t330 true _ ?side1 ?side2 ?side3 ?side4 A22.out).mono ?_); (case side1 => repeat (first | exact (Kd.Q_reads' HO329.out).2.2 | (with_reducible refine Kd.C_alloc ?_ _) | (with_reducible refine Kd.C_drewN ?_ _) | (with_reducible refine Kd.C_drew ?_))); (case side2 => exact (Kd.Q_reads' HO329.out).2.1); (case side3 => repeat (first | exact (Kd.R_reads' HO332.out).2.2 | (with_reducible refine Kd.C_alloc ?_ _) | (with_reducible refine Kd.C_drewN ?_ _) | (with_reducible refine Kd.C_drew ?_))); (case side4 => exact (Kd.R_reads' HO332.out).2.1); rintro e w' ⟨rfl, ⟨nd, rfl⟩⟩))
      go_meet
      case rel => exact ⟨_, (true), (by first | rfl | (simp; done) | (simp [*]; done)), H', ⟨by first | omega | exact Nat.le_refl _⟩, ⟨by (with_reducible repeat (first | apply Kd.R_alloc | apply Kd.R_drewN | apply Kd.R_drew)); exact Kd.R_mono HO320.out (fun _ hk => hk.1.2)⟩, ⟨by (with_reducible repeat (first | apply Kd.R_alloc | apply Kd.R_drewN | apply Kd.R_drew)); exact Kd.R_mono HO323.out (fun _ hk => hk.2)⟩, ⟨by (with_reducible repeat (first | apply Kd.R_alloc | apply Kd.R_drewN | apply Kd.R_drew)); exact Kd.R_mono HO326.out (fun _ hk => hk.2)⟩, ⟨by (with_reducible repeat (first | apply Kd.Q_alloc | apply Kd.Q_drewN | apply Kd.Q_drew)); exact Kd.Q_mono HO329.out (fun _ hk => hk.1.2)⟩, ⟨by repeat (first | (with_reducible first | exact HB.out | apply below_alloc | apply pw_below_drewN | apply below_drew1) | exact HB.out)⟩⟩
    ·replace c23 := Bool.eq_false_iff.mpr c23
     subst c23
     have H1 : (sutlerlaw07_CoolAsks.j0 k l0 l1 a2 y318 t321 t324 t327 true) = some r := by rw [if_neg (show ¬ (false = true) by decide)] at H; exact H
     clear H
     have H := H1
     clear H1
     have H' := Aside0.mk H
     clear H
     obtain ⟨Ao33, co33, eo33⟩ := Kd.R_slice HO323.out
     subst eo33
     obtain ⟨Ao34, co34, eo34⟩ := Kd.R_slice HO326.out
     subst eo34
     obtain ⟨Ao35, co35, eo35, _⟩ := Kd.Q_slice HO329.out
     subst eo35
     obtain ⟨Ao36, co36, eo36⟩ := Kd.R_slice HO332.out
     subst eo36
     go_wp2_with (first | (go_at_call 14; (with_reducible refine (sutlerlaw07_same.calls k _ _ t327 _ _ t330 false _ ?side1 ?side2 ?side3 ?side4 A22.out).mono ?_); (case side1 => repeat (first | exact (Kd.Q_reads' HO329.out).2.2 | (with_reducible refine Kd.C_alloc ?_ _) | (with_reducible refine Kd.C_drewN ?_ _) | (with_reducible refine Kd.C_drew ?_))); (case side2 => exact (Kd.Q_reads' HO329.out).2.1); (case side3 => repeat (first | exact (Kd.R_reads' HO332.out).2.2 | (with_reducible refine Kd.C_alloc ?_ _) | (with_reducible refine Kd.C_drewN ?_ _) | (with_reducible refine Kd.C_drew ?_))); (case side4 => exact (Kd.R_reads' HO332.out).2.1); rintro e w' ⟨rfl, ⟨nd, rfl⟩⟩))
     go_meet
     case rel => exact ⟨_, (true), (by first | rfl | (simp; done) | (simp [*]; done)), H', ⟨by first | omega | exact Nat.le_refl _⟩, ⟨by (with_reducible repeat (first | apply Kd.R_alloc | apply Kd.R_drewN | apply Kd.R_drew)); exact Kd.R_mono HO320.out (fun _ hk => hk.1.2)⟩, ⟨by (with_reducible repeat (first | apply Kd.R_alloc | apply Kd.R_drewN | apply Kd.R_drew)); exact Kd.R_mono HO323.out (fun _ hk => hk.2)⟩, ⟨by (with_reducible repeat (first | apply Kd.R_alloc | apply Kd.R_drewN | apply Kd.R_drew)); exact Kd.R_mono HO326.out (fun _ hk => hk.2)⟩, ⟨by (with_reducible repeat (first | apply Kd.Q_alloc | apply Kd.Q_drewN | apply Kd.Q_drew)); exact Kd.Q_mono HO329.out (fun _ hk => hk.1.2)⟩, ⟨by repeat (first | (with_reducible first | exact HB.out | apply below_alloc | apply pw_below_drewN | apply below_drew1) | exact HB.out)⟩⟩
   ·rw [if_neg c21] at H
    have c21b0 : ((t321.length : Int) == (t324.length : Int)) = false := beq_eq_false_iff_ne.mpr c21
    have c21b1 : ((t321.length : Int) != (t324.length : Int)) = true := bne_iff_ne.mpr c21
    have c21b2 : (t321.length == t324.length) = false := by first | simpa using c21 | (simp at c21 ⊢; omega)
    (first | rw [c21b0] | (simp only [i64_w, i32_w]; rw [c21b0]) | skip)
    have H' := Aside0.mk H
    clear H
    obtain ⟨Ao37, co37, eo37⟩ := Kd.R_slice HO323.out
    subst eo37
    obtain ⟨Ao38, co38, eo38⟩ := Kd.R_slice HO326.out
    subst eo38
    go_wp2
    go_meet
    case rel => exact ⟨_, (true), (by first | rfl | (simp; done) | (simp [*]; done)), H', ⟨by first | omega | exact Nat.le_refl _⟩, ⟨by (with_reducible repeat (first | apply Kd.R_alloc | apply Kd.R_drewN | apply Kd.R_drew)); exact Kd.R_mono HO320.out (fun _ hk => hk.1.2)⟩, ⟨by (with_reducible repeat (first | apply Kd.R_alloc | apply Kd.R_drewN | apply Kd.R_drew)); exact Kd.R_mono HO323.out (fun _ hk => hk.2)⟩, ⟨by (with_reducible repeat (first | apply Kd.R_alloc | apply Kd.R_drewN | apply Kd.R_drew)); exact Kd.R_mono HO326.out (fun _ hk => hk.2)⟩, ⟨by (with_reducible repeat (first | apply Kd.Q_alloc | apply Kd.Q_drewN | apply Kd.Q_drew)); exact Kd.Q_mono HO329.out (fun _ hk => hk.1.2)⟩, ⟨by repeat (first | (with_reducible first | exact HB.out | apply below_alloc | apply pw_below_drewN | apply below_drew1) | exact HB.out)⟩⟩
  case rest =>
   clear HC11
   try clear c1
   try clear c2
   try clear p2
   try clear c4
   try clear c5
   try clear c15
   try clear c16
   try clear c17
   try clear c18
   try clear c19
   try clear c20
   try clear c21
   try clear c21b0
   try clear c21b1
   try clear c21b2
   try clear c23
   try clear c24
   try clear c24b0
   try clear c24b1
   obtain ⟨kq, x68_10, rfl, HA, HJ10, HO_7, HO_8, HO_9, HO_10, HB⟩ := hcut
   cases kq with
   | zero => exact absurd HA.out (by simp [sutlerlaw07_CoolAsks.j0])
   | succ kj10 =>
    have H := HA.out
    clear HA
    simp only [sutlerlaw07_CoolAsks.j0] at H
    by_cases c39 : x68_10 = true
    ·subst c39
     have H1 : (some false) = some r := by rw [if_pos rfl] at H; exact H
     clear H
     have H := H1
     clear H1
     obtain rfl := Option.some.inj H
     go_wp2
     go_ret
     exact ⟨by first | rfl | (simp [errW_none, errW_some] <;> rfl) | (simp [*, errW_none, errW_some] <;> rfl), by repeat (first | (with_reducible first | exact HB.out | apply below_alloc | apply pw_below_drewN | apply below_drew1) | exact HB.out)⟩
    ·replace c39 := Bool.eq_false_iff.mpr c39
     subst c39
     have H1 : (sutlerlaw07_CoolAsks.l0 kj10 l0 l1 a2 y318 t321 t324 t327 0) = some r := by rw [if_neg (show ¬ (false = true) by decide)] at H; exact H
     clear H
     have H := H1
     clear H1
     have H' := Aside0.mk H
     clear H
     go_wp2
     go_loopg [16] kj10 (fun kq v16 w' => ∃ (x8_2 : List (S23)) (x16_2 : Int), v16 = .int .i64 x16_2 ∧ Aside0 (sutlerlaw07_CoolAsks.l0 kq l0 l1 a2 y318 x8_2 t324 t327 x16_2 = some r) ∧ Aside0 (kq ≤ kj10) ∧ Aside0 (Kd.R k25 25 w' w.heap.size (fun k_ => some k_ ≠ (v328 : Value).ownBlock) (.slice Ao16 y318.length co16) y318) ∧ Aside0 (Kd.R k23 23 w' w.heap.size (fun k_ => some k_ ≠ (v325 : Value).ownBlock) v322 x8_2) ∧ Aside0 (Kd.R k23 23 w' w.heap.size (fun k_ => some k_ ≠ (v322 : Value).ownBlock) v325 t324) ∧ Aside0 (Kd.Q k25 25 w' w.heap.size (fun k_ => some k_ ≠ ((.slice Ao16 y318.length co16) : Value).ownBlock) v328 t327) ∧ Aside0 (Below w.heap.size w w'))
     case atStart => exact ⟨(t321), (0), (by first | rfl | (simp; done) | (simp [*]; done)), H', ⟨Nat.le_refl _⟩, ⟨by (with_reducible repeat (first | apply Kd.R_alloc | apply Kd.R_drewN | apply Kd.R_drew)); exact HO_7.out⟩, ⟨by (with_reducible repeat (first | apply Kd.R_alloc | apply Kd.R_drewN | apply Kd.R_drew)); exact HO_8.out⟩, ⟨by (with_reducible repeat (first | apply Kd.R_alloc | apply Kd.R_drewN | apply Kd.R_drew)); exact HO_9.out⟩, ⟨by (with_reducible repeat (first | apply Kd.Q_alloc | apply Kd.Q_drewN | apply Kd.Q_drew)); exact HO_10.out⟩, ⟨by repeat (first | (with_reducible first | exact HB.out | apply below_alloc | apply pw_below_drewN | apply below_drew1) | exact HB.out)⟩⟩
     case round =>
      clear H'
      try clear c1
      try clear c2
      try clear p2
      try clear c3
      try clear c4
      try clear c5
      try clear c15
      try clear c16
      try clear c17
      try clear c18
      try clear c19
      try clear c20
      try clear c21
      try clear c21b0
      try clear c21b1
      try clear c21b2
      try clear c23
      try clear c24
      try clear c24b0
      try clear c24b1
      try clear c39
      try clear p2
      obtain ⟨x8_2, x16_2, rfl, HA, HK2, HO_7, HO_8, HO_9, HO_10, HB⟩ := hrel
      cases gk with
      | zero => exact absurd HA.out (by simp [sutlerlaw07_CoolAsks.l0])
      | succ k2 =>
       have H := HA.out
       clear HA
       simp only [sutlerlaw07_CoolAsks.l0] at H
       by_cases c40 : x16_2 < (x8_2.length : Int)
       ·rw [if_pos c40] at H
        have c40b0 : decide (x16_2 < (x8_2.length : Int)) = true := decide_eq_true c40
        clear c40
        by_cases c41 : 0 ≤ x16_2
        ·rw [if_pos c41] at H
         have c41b0 : decide (0 ≤ x16_2) = true := decide_eq_true c41
         clear c41
         by_cases c42 : x16_2 < (t324.length : Int)
         ·rw [if_pos c42] at H
          have c42b0 : decide (x16_2 < (t324.length : Int)) = true := decide_eq_true c42
          clear c42
          by_cases c43 : (!((((rd_T23 x8_2 x16_2).f0).toList) == (((rd_T23 t324 x16_2).f0).toList)) || (!((((rd_T23 x8_2 x16_2).f1).toList) == (((rd_T23 t324 x16_2).f1).toList)) || (!((((rd_T23 x8_2 x16_2).f2).toList) == (((rd_T23 t324 x16_2).f2).toList))))) = true
          ·rw [if_pos c43] at H
           have c43b0 : (!((((rd_T23 x8_2 x16_2).f0).toList) == (((rd_T23 t324 x16_2).f0).toList)) || (!((((rd_T23 x8_2 x16_2).f1).toList) == (((rd_T23 t324 x16_2).f1).toList)) || (!((((rd_T23 x8_2 x16_2).f2).toList) == (((rd_T23 t324 x16_2).f2).toList))))) = true := c43
           clear c43
           obtain rfl := Option.some.inj H
           obtain ⟨Ao44, co44, eo44⟩ := Kd.R_slice HO_8.out
           subst eo44
           try go_wp2
           have n0_ := Aside0.mk (Kd.R_drew HO_7.out)
           have n1_ := Aside0.mk (Kd.R_drew HO_8.out)
           have n2_ := Aside0.mk (Kd.R_drew HO_9.out)
           have n3_ := Aside0.mk (Kd.Q_drew HO_10.out)
           have n4_ := Aside0.mk (below_drew1 HB.out)
           clear HO_7
           clear HO_8
           clear HO_9
           clear HO_10
           clear HB
           have HO_7 := n0_
           have HO_8 := n1_
           have HO_9 := n2_
           have HO_10 := n3_
           have HB := n4_
           clear n0_ n1_ n2_ n3_ n4_
           have p338 : 0 ≤ (x16_2 : Int) := of_decide_eq_true (by first | (with_reducible assumption) | assumption)
           have q338 : x16_2 < (x8_2.length : Int) := of_decide_eq_true (by first | (with_reducible assumption) | assumption)
           obtain ⟨ad338, e338, hx338_0, hx338_1, hx338_2⟩ := at_T23 (Kd.R_reads' HO_8.out).2.2 x16_2 p338 q338
           cases e338
           replace p338 := eq_true p338
           replace q338 := eq_true q338
           obtain ⟨Ao46, co46, eo46⟩ := Kd.R_slice HO_9.out
           (first | subst eo46 | (injection eo46 with f1_ f2_ f3_; have f4_ := f1_.symm; have f5_ := f3_.symm; clear f1_ f2_ f3_; subst f4_; subst f5_))
           have p339 : 0 ≤ (x16_2 : Int) := of_decide_eq_true (by first | (with_reducible assumption) | assumption)
           have q339 : x16_2 < (t324.length : Int) := of_decide_eq_true (by first | (with_reducible assumption) | assumption)
           obtain ⟨ad339, e339, hx339_0, hx339_1, hx339_2⟩ := at_T23 (Kd.R_reads' HO_9.out).2.2 x16_2 p339 q339
           cases e339
           replace p339 := eq_true p339
           replace q339 := eq_true q339
           refine start_ (n := 9) (S := fun w' => w'.cell? (ad338.add ((x16_2).toNat * 3)) = some (.string ((rd_T23 x8_2 x16_2).f0)) ∧ w'.cell? ⟨(ad338.add ((x16_2).toNat * 3)).block, (ad338.add ((x16_2).toNat * 3)).off + 1, none⟩ = some (.string ((rd_T23 x8_2 x16_2).f1)) ∧ w'.cell? ⟨(ad338.add ((x16_2).toNat * 3)).block, (ad338.add ((x16_2).toNat * 3)).off + 2, none⟩ = some (.string ((rd_T23 x8_2 x16_2).f2)) ∧ w'.cell? (ad339.add ((x16_2).toNat * 3)) = some (.string ((rd_T23 t324 x16_2).f0)) ∧ w'.cell? ⟨(ad339.add ((x16_2).toNat * 3)).block, (ad339.add ((x16_2).toNat * 3)).off + 1, none⟩ = some (.string ((rd_T23 t324 x16_2).f1)) ∧ w'.cell? ⟨(ad339.add ((x16_2).toNat * 3)).block, (ad339.add ((x16_2).toNat * 3)).off + 2, none⟩ = some (.string ((rd_T23 t324 x16_2).f2))) (ds := []) (tf 0 9) (by kernel_rfl) rfl rfl ⟨hx338_0, hx338_1, hx338_2, hx339_0, hx339_1, hx339_2⟩ (fun hHeld => ?_); refine with_tabW sutlerlaw07_CoolAsks.tab13 sutlerlaw07_CoolAsks.bits13 (fun HT_ HW_ => ?_)
           generalize wr.drew = w45 at HO_7 HO_8 HO_9 HO_10 HB hx338_0 hx338_1 hx338_2 hx339_0 hx339_1 hx339_2 hHeld ⊢
           refine pure_ (i := 0) (N := some 75) (v := ?_) (a' := ?_) (tf 1 8) rfl rfl (any_of HT_.out (by kernel_rfl)) (fun _ _ _ h => h) (Or.inl ⟨by rfl, ?_⟩) ?_ ?_
           rotate_left
           ·intro w'
            go_simp
            with_reducible rfl
           rotate_left
           ·simp only [Act.put, List.setIfInBounds_toArray, List.set_cons_zero, List.set_cons_succ, i64_w, i32_w]
            rfl
           refine pure_ (i := 1) (N := some 76) (v := ?_) (a' := ?_) (tf 2 7) rfl rfl (any_of HT_.out (by kernel_rfl)) (fun _ _ _ h => h) (Or.inl ⟨by rfl, ?_⟩) ?_ ?_
           rotate_left
           ·intro w'
            go_simp
            with_reducible rfl
           rotate_left
           ·simp only [Act.put, List.setIfInBounds_toArray, List.set_cons_zero, List.set_cons_succ, i64_w, i32_w]
            rfl
           refine pure_ (i := 2) (N := some 77) (v := ?_) (a' := ?_) (tf 3 6) rfl rfl (any_of HT_.out (by kernel_rfl)) (fun _ _ _ h => h) (Or.inl ⟨by rfl, ?_⟩) ?_ ?_
           rotate_left
           ·intro w'
            go_simp
            with_reducible rfl
           rotate_left
           ·simp only [Act.put, List.setIfInBounds_toArray, List.set_cons_zero, List.set_cons_succ, i64_w, i32_w]
            rfl
           refine pure_ (i := 4) (N := some 79) (v := ?_) (a' := ?_) #[true, true, true, false, true, false, false, false, false] rfl rfl (any_of HT_.out (by kernel_rfl)) (fun _ _ _ h => h) (Or.inl ⟨by rfl, ?_⟩) ?_ ?_
           rotate_left
           ·intro w'
            go_simp
            with_reducible rfl
           rotate_left
           ·simp only [Act.put, List.setIfInBounds_toArray, List.set_cons_zero, List.set_cons_succ, i64_w, i32_w]
            rfl
           refine pure_ (i := 5) (N := some 80) (v := ?_) (a' := ?_) #[true, true, true, false, true, true, false, false, false] rfl rfl (any_of HT_.out (by kernel_rfl)) (fun _ _ _ h => h) (Or.inl ⟨by rfl, ?_⟩) ?_ ?_
           rotate_left
           ·intro w'
            go_simp
            with_reducible rfl
           rotate_left
           ·simp only [Act.put, List.setIfInBounds_toArray, List.set_cons_zero, List.set_cons_succ, i64_w, i32_w]
            rfl
           refine pure_ (i := 6) (N := some 81) (v := ?_) (a' := ?_) #[true, true, true, false, true, true, true, false, false] rfl rfl (any_of HT_.out (by kernel_rfl)) (fun _ _ _ h => h) (Or.inl ⟨by rfl, ?_⟩) ?_ ?_
           rotate_left
           ·intro w'
            go_simp
            with_reducible rfl
           rotate_left
           ·simp only [Act.put, List.setIfInBounds_toArray, List.set_cons_zero, List.set_cons_succ, i64_w, i32_w]
            rfl
           refine take_ (i := 3) (N := some 78) (v := ?_) (a' := ?_) (tf 7 2) rfl rfl (take_ofW HT_.out HW_.out (by kernel_rfl)) (fun _ _ _ h => h) (Or.inl ⟨by rfl, ?_⟩) hHeld ?_ ?_
           rotate_left
           ·rintro w' ⟨s0, s1, s2, s3, s4, s5⟩
            go_simp
            with_reducible rfl
           rotate_left
           ·simp only [Act.put, List.setIfInBounds_toArray, List.set_cons_zero, List.set_cons_succ, i64_w, i32_w]
            rfl
           refine take_ (i := 7) (N := some 82) (v := ?_) (a' := ?_) (tf 8 1) rfl rfl (take_ofW HT_.out HW_.out (by kernel_rfl)) (fun _ _ _ h => h) (Or.inl ⟨by rfl, ?_⟩) hHeld ?_ ?_
           rotate_left
           ·rintro w' ⟨s0, s1, s2, s3, s4, s5⟩
            go_simp
            with_reducible rfl
           rotate_left
           ·simp only [Act.put, List.setIfInBounds_toArray, List.set_cons_zero, List.set_cons_succ, i64_w, i32_w]
            rfl
           refine pure_ (i := 8) (N := some 83) (v := ?_) (a' := ?_) (tf 9 0) rfl rfl (any_of HT_.out (by kernel_rfl)) (fun _ _ _ h => h) (Or.inl ⟨by rfl, ?_⟩) ?_ ?_
           rotate_left
           ·intro w'
            go_simp
            with_reducible rfl
           rotate_left
           ·simp only [Act.put, List.setIfInBounds_toArray, List.set_cons_zero, List.set_cons_succ, i64_w, i32_w]
            rfl
           refine done_ (done_of HT_.out (by kernel_rfl)) ?_
           try go_wp2
           go_ret
           exact ⟨by first | rfl | (simp [errW_none, errW_some] <;> rfl) | (simp [*, errW_none, errW_some] <;> rfl), by repeat (first | (with_reducible first | exact HB.out | apply below_alloc | apply pw_below_drewN | apply below_drew1) | exact HB.out)⟩
          ·rw [if_neg c43] at H
           have c43b0 : (!((((rd_T23 x8_2 x16_2).f0).toList) == (((rd_T23 t324 x16_2).f0).toList)) || (!((((rd_T23 x8_2 x16_2).f1).toList) == (((rd_T23 t324 x16_2).f1).toList)) || (!((((rd_T23 x8_2 x16_2).f2).toList) == (((rd_T23 t324 x16_2).f2).toList))))) = false := by simpa using c43
           clear c43
           obtain ⟨y340, hy340⟩ : ∃ y_ : List (S23), y_ = (x8_2.set (x16_2 : Int).toNat (⟨(⟨#[64]⟩ : ByteArray), (⟨#[]⟩ : ByteArray), (⟨#[]⟩ : ByteArray)⟩ : S23)) := ⟨_, rfl⟩
           replace H : (sutlerlaw07_CoolAsks.l0 k2 l0 l1 a2 y318 y340 t324 t327 (wrap64 (x16_2 + 1))) = some r := by first | (rw [hy340]; with_reducible exact H) | (have H2_ := (Option.bind_some _ _).symm.trans H; rw [hy340]; with_reducible exact H2_) | (have H2_ := (Option.bind_some _ _).symm.trans H; with_reducible exact H2_) | with_reducible exact H | (rw [hy340]; exact H) | exact H
           have Ny340 := Aside0.mk hy340
           clear hy340
           have H' := Aside0.mk H
           clear H
           obtain ⟨Ao48, co48, eo48⟩ := Kd.R_slice HO_8.out
           subst eo48
           try go_wp2
           have n0_ := Aside0.mk (Kd.R_drew HO_7.out)
           have n1_ := Aside0.mk (Kd.R_drew HO_8.out)
           have n2_ := Aside0.mk (Kd.R_drew HO_9.out)
           have n3_ := Aside0.mk (Kd.Q_drew HO_10.out)
           have n4_ := Aside0.mk (below_drew1 HB.out)
           clear HO_7
           clear HO_8
           clear HO_9
           clear HO_10
           clear HB
           have HO_7 := n0_
           have HO_8 := n1_
           have HO_9 := n2_
           have HO_10 := n3_
           have HB := n4_
           clear n0_ n1_ n2_ n3_ n4_
           have p338 : 0 ≤ (x16_2 : Int) := of_decide_eq_true (by first | (with_reducible assumption) | assumption)
           have q338 : x16_2 < (x8_2.length : Int) := of_decide_eq_true (by first | (with_reducible assumption) | assumption)
           obtain ⟨ad338, e338, hx338_0, hx338_1, hx338_2⟩ := at_T23 (Kd.R_reads' HO_8.out).2.2 x16_2 p338 q338
           cases e338
           replace p338 := eq_true p338
           replace q338 := eq_true q338
           obtain ⟨Ao50, co50, eo50⟩ := Kd.R_slice HO_9.out
           (first | subst eo50 | (injection eo50 with f1_ f2_ f3_; have f4_ := f1_.symm; have f5_ := f3_.symm; clear f1_ f2_ f3_; subst f4_; subst f5_))
           have p339 : 0 ≤ (x16_2 : Int) := of_decide_eq_true (by first | (with_reducible assumption) | assumption)
           have q339 : x16_2 < (t324.length : Int) := of_decide_eq_true (by first | (with_reducible assumption) | assumption)
           obtain ⟨ad339, e339, hx339_0, hx339_1, hx339_2⟩ := at_T23 (Kd.R_reads' HO_9.out).2.2 x16_2 p339 q339
           cases e339
           replace p339 := eq_true p339
           replace q339 := eq_true q339
           refine start_ (n := 9) (S := fun w' => w'.cell? (ad338.add ((x16_2).toNat * 3)) = some (.string ((rd_T23 x8_2 x16_2).f0)) ∧ w'.cell? ⟨(ad338.add ((x16_2).toNat * 3)).block, (ad338.add ((x16_2).toNat * 3)).off + 1, none⟩ = some (.string ((rd_T23 x8_2 x16_2).f1)) ∧ w'.cell? ⟨(ad338.add ((x16_2).toNat * 3)).block, (ad338.add ((x16_2).toNat * 3)).off + 2, none⟩ = some (.string ((rd_T23 x8_2 x16_2).f2)) ∧ w'.cell? (ad339.add ((x16_2).toNat * 3)) = some (.string ((rd_T23 t324 x16_2).f0)) ∧ w'.cell? ⟨(ad339.add ((x16_2).toNat * 3)).block, (ad339.add ((x16_2).toNat * 3)).off + 1, none⟩ = some (.string ((rd_T23 t324 x16_2).f1)) ∧ w'.cell? ⟨(ad339.add ((x16_2).toNat * 3)).block, (ad339.add ((x16_2).toNat * 3)).off + 2, none⟩ = some (.string ((rd_T23 t324 x16_2).f2))) (ds := []) (tf 0 9) (by kernel_rfl) rfl rfl ⟨hx338_0, hx338_1, hx338_2, hx339_0, hx339_1, hx339_2⟩ (fun hHeld => ?_); refine with_tabW sutlerlaw07_CoolAsks.tab13 sutlerlaw07_CoolAsks.bits13 (fun HT_ HW_ => ?_)
           generalize wr.drew = w49 at HO_7 HO_8 HO_9 HO_10 HB hx338_0 hx338_1 hx338_2 hx339_0 hx339_1 hx339_2 hHeld ⊢
           refine pure_ (i := 0) (N := some 75) (v := ?_) (a' := ?_) (tf 1 8) rfl rfl (any_of HT_.out (by kernel_rfl)) (fun _ _ _ h => h) (Or.inl ⟨by rfl, ?_⟩) ?_ ?_
           rotate_left
           ·intro w'
            go_simp
            with_reducible rfl
           rotate_left
           ·simp only [Act.put, List.setIfInBounds_toArray, List.set_cons_zero, List.set_cons_succ, i64_w, i32_w]
            rfl
           refine pure_ (i := 1) (N := some 76) (v := ?_) (a' := ?_) (tf 2 7) rfl rfl (any_of HT_.out (by kernel_rfl)) (fun _ _ _ h => h) (Or.inl ⟨by rfl, ?_⟩) ?_ ?_
           rotate_left
           ·intro w'
            go_simp
            with_reducible rfl
           rotate_left
           ·simp only [Act.put, List.setIfInBounds_toArray, List.set_cons_zero, List.set_cons_succ, i64_w, i32_w]
            rfl
           refine pure_ (i := 2) (N := some 77) (v := ?_) (a' := ?_) (tf 3 6) rfl rfl (any_of HT_.out (by kernel_rfl)) (fun _ _ _ h => h) (Or.inl ⟨by rfl, ?_⟩) ?_ ?_
           rotate_left
           ·intro w'
            go_simp
            with_reducible rfl
           rotate_left
           ·simp only [Act.put, List.setIfInBounds_toArray, List.set_cons_zero, List.set_cons_succ, i64_w, i32_w]
            rfl
           refine pure_ (i := 4) (N := some 79) (v := ?_) (a' := ?_) #[true, true, true, false, true, false, false, false, false] rfl rfl (any_of HT_.out (by kernel_rfl)) (fun _ _ _ h => h) (Or.inl ⟨by rfl, ?_⟩) ?_ ?_
           rotate_left
           ·intro w'
            go_simp
            with_reducible rfl
           rotate_left
           ·simp only [Act.put, List.setIfInBounds_toArray, List.set_cons_zero, List.set_cons_succ, i64_w, i32_w]
            rfl
           refine pure_ (i := 5) (N := some 80) (v := ?_) (a' := ?_) #[true, true, true, false, true, true, false, false, false] rfl rfl (any_of HT_.out (by kernel_rfl)) (fun _ _ _ h => h) (Or.inl ⟨by rfl, ?_⟩) ?_ ?_
           rotate_left
           ·intro w'
            go_simp
            with_reducible rfl
           rotate_left
           ·simp only [Act.put, List.setIfInBounds_toArray, List.set_cons_zero, List.set_cons_succ, i64_w, i32_w]
            rfl
           refine pure_ (i := 6) (N := some 81) (v := ?_) (a' := ?_) #[true, true, true, false, true, true, true, false, false] rfl rfl (any_of HT_.out (by kernel_rfl)) (fun _ _ _ h => h) (Or.inl ⟨by rfl, ?_⟩) ?_ ?_
           rotate_left
           ·intro w'
            go_simp
            with_reducible rfl
           rotate_left
           ·simp only [Act.put, List.setIfInBounds_toArray, List.set_cons_zero, List.set_cons_succ, i64_w, i32_w]
            rfl
           refine take_ (i := 3) (N := some 78) (v := ?_) (a' := ?_) (tf 7 2) rfl rfl (take_ofW HT_.out HW_.out (by kernel_rfl)) (fun _ _ _ h => h) (Or.inl ⟨by rfl, ?_⟩) hHeld ?_ ?_
           rotate_left
           ·rintro w' ⟨s0, s1, s2, s3, s4, s5⟩
            go_simp
            with_reducible rfl
           rotate_left
           ·simp only [Act.put, List.setIfInBounds_toArray, List.set_cons_zero, List.set_cons_succ, i64_w, i32_w]
            rfl
           refine take_ (i := 7) (N := some 82) (v := ?_) (a' := ?_) (tf 8 1) rfl rfl (take_ofW HT_.out HW_.out (by kernel_rfl)) (fun _ _ _ h => h) (Or.inl ⟨by rfl, ?_⟩) hHeld ?_ ?_
           rotate_left
           ·rintro w' ⟨s0, s1, s2, s3, s4, s5⟩
            go_simp
            with_reducible rfl
           rotate_left
           ·simp only [Act.put, List.setIfInBounds_toArray, List.set_cons_zero, List.set_cons_succ, i64_w, i32_w]
            rfl
           refine pure_ (i := 8) (N := some 83) (v := ?_) (a' := ?_) (tf 9 0) rfl rfl (any_of HT_.out (by kernel_rfl)) (fun _ _ _ h => h) (Or.inl ⟨by rfl, ?_⟩) ?_ ?_
           rotate_left
           ·intro w'
            go_simp
            with_reducible rfl
           rotate_left
           ·simp only [Act.put, List.setIfInBounds_toArray, List.set_cons_zero, List.set_cons_succ, i64_w, i32_w]
            rfl
           refine done_ (done_of HT_.out (by kernel_rfl)) ?_
           have p47 : 0 ≤ (x16_2 : Int) := of_decide_eq_true (by first | (with_reducible assumption) | assumption)
           have q47 : (x16_2 : Int) < ((x8_2.length : Int) : Int) := of_decide_eq_true (by first | (with_reducible assumption) | assumption)
           obtain ⟨go47, co47, eo47, gb47, gl47, cl47, HG47⟩ := Kd.R_form HO_8.out (by omega)
           (first | cases eo47 | (injection eo47 with ea_ en_ ec_; (first | subst ea_ | (injection ea_ with ea_; subst ea_)); subst ec_; clear en_))
           have GB47 := Aside0.mk gb47
           have GG47 := Aside0.mk HG47
           clear gb47 gl47 HG47
           (first | simp only [add_plain] at hx338_0 | skip)
           (first | simp only [add_plain] at hx338_1 | skip)
           (first | simp only [add_plain] at hx338_2 | skip)
           obtain ⟨ce47, hcl47, hM47, hcc47, hfr47⟩ := Kd.R_elem HO_8.out z23 (x16_2 : Int) p47 q47
           obtain rfl := k23_openM hM47
           have hx47_0 : w49.cell? ⟨go47, (x16_2 : Int).toNat * 3, none⟩ = some (.string ((rd_T23 x8_2 x16_2).f0)) := hcc47 0 _ rfl
           have hx47_1 : w49.cell? ⟨go47, (x16_2 : Int).toNat * 3 + 1, none⟩ = some (.string ((rd_T23 x8_2 x16_2).f1)) := hcc47 1 _ rfl
           have hx47_2 : w49.cell? ⟨go47, (x16_2 : Int).toNat * 3 + 2, none⟩ = some (.string ((rd_T23 x8_2 x16_2).f2)) := hcc47 2 _ rfl
           have hf47_0 : w49.frozen? ⟨go47, (x16_2 : Int).toNat * 3, none⟩ = false := hfr47 0
           have hf47_1 : w49.frozen? ⟨go47, (x16_2 : Int).toNat * 3 + 1, none⟩ = false := hfr47 1
           have hf47_2 : w49.frozen? ⟨go47, (x16_2 : Int).toNat * 3 + 2, none⟩ = false := hfr47 2
           clear hcl47 hcc47 hfr47 hM47
           replace p47 := eq_true p47
           replace q47 := eq_true q47
           have HX51 := Aside0.mk (show Kd.R k23 23 w49 w.heap.size (fun k_ => some k_ ≠ (.slice (some ad339) t324.length co50 : Value).ownBlock) (.slice (some ⟨go47, 0, none⟩) x8_2.length co48) x8_2 from (by (with_reducible repeat (first | apply Kd.R_alloc | apply Kd.R_drewN | apply Kd.R_drew)); exact HO_8.out))
           obtain ⟨ce51, hcl51, hM51, hcc51, hfr51⟩ := Kd.R_elem HX51.out z23 (x16_2 : Int) (of_decide_eq_true (by first | (with_reducible assumption) | assumption)) (by have h_ : (x16_2 : Int) < ((x8_2.length : Int) : Int) := of_decide_eq_true (by first | (with_reducible assumption) | assumption); first | exact h_ | (have e_ := (Kd.R_reads' HO_8.out).1; omega) | simpa using h_)
           obtain rfl := k23_openM hM51
           have HP51 := Kd.R_seg HX51.out (x16_2 : Int) (of_decide_eq_true (by first | (with_reducible assumption) | assumption)) (by have h_ : (x16_2 : Int) < ((x8_2.length : Int) : Int) := of_decide_eq_true (by first | (with_reducible assumption) | assumption); first | exact h_ | (have e_ := (Kd.R_reads' HO_8.out).1; omega) | simpa using h_) (seg := [.string (⟨#[64]⟩ : ByteArray), .string (⟨#[]⟩ : ByteArray), .string (⟨#[]⟩ : ByteArray)]) (j := 0) hcl51 hcc51 (show 3 ≤ 3 from by decide) (x' := (⟨(⟨#[64]⟩ : ByteArray), (⟨#[]⟩ : ByteArray), (⟨#[]⟩ : ByteArray)⟩ : S23)) (k23_mkM _ _ _ (⟨(⟨#[64]⟩ : ByteArray), (⟨#[]⟩ : ByteArray), (⟨#[]⟩ : ByteArray)⟩ : S23) ) (fun _ hk => hk)
           have hx51_0 := hcc51 0 _ rfl
           (try simp only [show (k23).sz = 3 from rfl, Nat.mul_one, Nat.add_zero] at hx51_0)
           have hf51_0 := hfr51 0
           (try simp only [show (k23).sz = 3 from rfl, Nat.mul_one, Nat.add_zero] at hf51_0)
           have hx51_1 := hcc51 1 _ rfl
           (try simp only [show (k23).sz = 3 from rfl, Nat.mul_one, Nat.add_zero] at hx51_1)
           have hf51_1 := hfr51 1
           (try simp only [show (k23).sz = 3 from rfl, Nat.mul_one, Nat.add_zero] at hf51_1)
           have hx51_2 := hcc51 2 _ rfl
           (try simp only [show (k23).sz = 3 from rfl, Nat.mul_one, Nat.add_zero] at hx51_2)
           have hf51_2 := hfr51 2
           (try simp only [show (k23).sz = 3 from rfl, Nat.mul_one, Nat.add_zero] at hf51_2)
           clear hcl51 hcc51 hfr51 hM51
           try go_wp2_with (first | ((with_reducible refine gate_store (t := 23) (p := 87) rfl ?_); refine store_event (t := 23) (p := 87) (v := ?vo_w52) (w1 := (((w49.setCell ⟨go47, (x16_2 : Int).toNat * 3, none⟩ (.string (⟨#[64]⟩ : ByteArray))).setCell ⟨go47, (x16_2 : Int).toNat * 3 + 1, none⟩ (.string (⟨#[]⟩ : ByteArray))).setCell ⟨go47, (x16_2 : Int).toNat * 3 + 2, none⟩ (.string (⟨#[]⟩ : ByteArray)))) ?hg ?ho ?hn ?hr ?_; (case ho => rfl); (case hg => rfl); (case hn => rfl); (case hr => first | (go_simp; done) | (go_simp; rfl)); intro w52 hw; have hg : w49.grownBy w52 (some go47) := (by rw [hw]; exact HP51.2); have hp_ : Kd.R k23 23 w52 w.heap.size (fun k_ => some k_ ≠ (.slice (some ad339) t324.length co50 : Value).ownBlock) (.slice (some ⟨go47, 0, none⟩) x8_2.length co48) y340 := (by rw [hw, Ny340.out]; exact HP51.1); clear HP51; have n0_ := Aside0.mk (Kd.R_over' (v := (.slice (some ⟨go47, 0, none⟩) x8_2.length co48)) (by (with_reducible repeat (first | apply Kd.R_alloc | apply Kd.R_drewN | apply Kd.R_drew)); exact HO_7.out) (Kd.R_typed HO_8.out) (by decide) hg); have n1_ := Aside0.mk (hp_); have n2_ := Aside0.mk (Kd.R_after (v := (.slice (some ⟨go47, 0, none⟩) x8_2.length co48)) (v1 := (.slice (some ⟨go47, 0, none⟩) x8_2.length co48)) (ok := (fun _ => True)) (by (with_reducible repeat (first | apply Kd.R_alloc | apply Kd.R_drewN | apply Kd.R_drew)); exact Kd.R_mono HO_9.out (fun _ hk => ⟨trivial, hk⟩)) hg (.inl rfl)); have n3_ := Aside0.mk (Kd.Q_over' (v := (.slice (some ⟨go47, 0, none⟩) x8_2.length co48)) (by (with_reducible repeat (first | apply Kd.Q_alloc | apply Kd.Q_drewN | apply Kd.Q_drew)); exact HO_10.out) (Kd.R_typed HO_8.out) (by decide) hg); have n4_ := Aside0.mk ((by rw [hw]; exact below_set (below_set (below_set (HB.out) GB47.out) GB47.out) GB47.out : Below w.heap.size w w52)); clear HO_7; clear HO_8; clear HO_9; clear HO_10; clear HB; have HO_7 := n0_; have HO_8 := n1_; have HO_9 := n2_; have HO_10 := n3_; have HB := n4_; clear n0_ n1_ n2_ n3_ n4_; clear hg hw hp_))
           go_roundg k2
           case measure => have := HJ10.out; have := HK2.out; omega
           case rel => exact ⟨(y340), (wrap64 (x16_2 + 1)), (by first | rfl | (simp; done) | (simp [*]; done)), H', ⟨by have := HJ10.out; have := HK2.out; omega⟩, ⟨by (with_reducible repeat (first | apply Kd.R_alloc | apply Kd.R_drewN | apply Kd.R_drew)); exact HO_7.out⟩, ⟨by (with_reducible repeat (first | apply Kd.R_alloc | apply Kd.R_drewN | apply Kd.R_drew)); exact HO_8.out⟩, ⟨by (with_reducible repeat (first | apply Kd.R_alloc | apply Kd.R_drewN | apply Kd.R_drew)); exact Kd.R_mono HO_9.out (fun _ hk => hk.2)⟩, ⟨by (with_reducible repeat (first | apply Kd.Q_alloc | apply Kd.Q_drewN | apply Kd.Q_drew)); exact HO_10.out⟩, ⟨by repeat (first | (with_reducible first | exact HB.out | apply below_alloc | apply pw_below_drewN | apply below_drew1) | exact HB.out)⟩⟩
         ·rw [if_neg c42] at H
          exact absurd H (by simp)
        ·rw [if_neg c41] at H
         exact absurd H (by simp)
       ·rw [if_neg c40] at H
        have c40b0 : decide (x16_2 < (x8_2.length : Int)) = false := decide_eq_false c40
        clear c40
        have H' := Aside0.mk H
        clear H
        obtain ⟨Ao53, co53, eo53⟩ := Kd.R_slice HO_8.out
        subst eo53
        go_wp2
        go_loopg [17] k2 (fun kq v17 w' => ∃ (x17_3 : Int), v17 = .int .i64 x17_3 ∧ Aside0 (sutlerlaw07_CoolAsks.l1 kq l0 l1 a2 y318 t327 x17_3 = some r) ∧ Aside0 (kq ≤ k2) ∧ Aside0 (Kd.R k25 25 w' w.heap.size (fun k_ => some k_ ≠ (v328 : Value).ownBlock) (.slice Ao16 y318.length co16) y318) ∧ Aside0 (Kd.Q k25 25 w' w.heap.size (fun k_ => some k_ ≠ ((.slice Ao16 y318.length co16) : Value).ownBlock) v328 t327) ∧ Aside0 (Below w.heap.size w w'))
        case atStart => exact ⟨(0), (by first | rfl | (simp; done) | (simp [*]; done)), H', ⟨Nat.le_refl _⟩, ⟨by (with_reducible repeat (first | apply Kd.R_alloc | apply Kd.R_drewN | apply Kd.R_drew)); exact HO_7.out⟩, ⟨by (with_reducible repeat (first | apply Kd.Q_alloc | apply Kd.Q_drewN | apply Kd.Q_drew)); exact HO_10.out⟩, ⟨by repeat (first | (with_reducible first | exact HB.out | apply below_alloc | apply pw_below_drewN | apply below_drew1) | exact HB.out)⟩⟩
        case round =>
         clear H'
         try clear c1
         try clear c2
         try clear p2
         try clear c3
         try clear p3
         try clear q3
         try clear hx3
         try clear c4
         try clear p4
         try clear q4
         try clear hx4
         try clear hf4
         try clear c5
         try clear hx5
         try clear hf5
         try clear p6
         try clear c15
         try clear c16
         try clear c17
         try clear c18
         try clear c19
         try clear c20
         try clear c21
         try clear c21b0
         try clear c21b1
         try clear c21b2
         try clear c23
         try clear c24
         try clear c24b0
         try clear c24b1
         try clear p33
         try clear q33
         try clear hx33
         try clear c39
         try clear c40
         try clear c40b0
         try clear c41
         try clear c41b0
         try clear c42
         try clear c42b0
         try clear c43
         try clear c43b0
         try clear c47
         try clear p47
         try clear q47
         try clear hx47
         try clear hf47
         try clear c51
         try clear hx51
         try clear hf51
         try clear hx338_0
         try clear hx338_1
         try clear hx338_2
         try clear hx339_0
         try clear hx339_1
         try clear hx339_2
         try clear hx47_0
         try clear hx47_1
         try clear hx47_2
         try clear hx51_0
         try clear hx51_1
         try clear hx51_2
         try clear p2
         try clear p338
         try clear p339
         try clear p47
         try clear q338
         try clear q339
         try clear q47
         obtain ⟨x17_3, rfl, HA, HK3, HO_7, HO_10, HB⟩ := hrel
         cases gk with
         | zero => exact absurd HA.out (by simp [sutlerlaw07_CoolAsks.l1])
         | succ k3 =>
          have H := HA.out
          clear HA
          simp only [sutlerlaw07_CoolAsks.l1] at H
          by_cases c54 : x17_3 < (l1.length : Int)
          ·rw [if_pos c54] at H
           have c54b0 : decide (x17_3 < (l1.length : Int)) = true := decide_eq_true c54
           clear c54
           by_cases c55 : 0 ≤ x17_3
           ·rw [if_pos c55] at H
            have c55b0 : decide (0 ≤ x17_3) = true := decide_eq_true c55
            clear c55
            replace H := Option.bind_eq_some_iff.mp H
            obtain ⟨t342, A560, H⟩ := H
            replace H : ((sutlerref07_IsCool.f k3 y318 ((rd_T23 l1 x17_3).f0) ((rd_T23 l1 x17_3).f1) ((rd_T23 l1 x17_3).f2) a2).bind fun t344 => (if (t342 != t344) = true then (some false) else (sutlerlaw07_CoolAsks.l1 k3 l0 l1 a2 y318 t327 (wrap64 (x17_3 + 1))))) = some r := H
            have A56 := Aside0.mk A560
            clear A560
            replace H := Option.bind_eq_some_iff.mp H
            obtain ⟨t344, A570, H⟩ := H
            replace H : (if (t342 != t344) = true then (some false) else (sutlerlaw07_CoolAsks.l1 k3 l0 l1 a2 y318 t327 (wrap64 (x17_3 + 1)))) = some r := H
            have A57 := Aside0.mk A570
            clear A570
            by_cases c58 : (t342 != t344) = true
            ·rw [if_pos c58] at H
             have c58b0 : (t342 != t344) = true := c58
             (try (have c58b1 : decide (t342 = t344) = false := by simpa using c58))
             (try (have c58b2 : (t342 == t344) = false := by simpa using c58))
             (try (have c58b3 : ¬ (t342 = t344) := by simpa using c58))
             clear c58
             obtain rfl := Option.some.inj H
             try go_wp2
             have n0_ := Aside0.mk (Kd.R_drew HO_7.out)
             have n1_ := Aside0.mk (Kd.Q_drew HO_10.out)
             have n2_ := Aside0.mk (below_drew1 HB.out)
             clear HO_7
             clear HO_10
             clear HB
             have HO_7 := n0_
             have HO_10 := n1_
             have HB := n2_
             clear n0_ n1_ n2_
             have p341 : 0 ≤ (x17_3 : Int) := of_decide_eq_true (by first | (with_reducible assumption) | assumption)
             have q341 : x17_3 < (l1.length : Int) := of_decide_eq_true (by first | (with_reducible assumption) | assumption)
             obtain ⟨ad341, e341, hx341_0, hx341_1, hx341_2⟩ := at_T23 HR1.out x17_3 p341 q341
             have hw341_2 := hx341_2
             have hw341_1 := hx341_1
             have hw341_0 := hx341_0
             cases e341
             replace hx341_0 := (HB.out.cell (World.block_lt_of_cell? w _ hx341_0)).trans hx341_0
             replace hx341_1 := (HB.out.cell (World.block_lt_of_cell? w _ hx341_1)).trans hx341_1
             replace hx341_2 := (HB.out.cell (World.block_lt_of_cell? w _ hx341_2)).trans hx341_2
             replace p341 := eq_true p341
             replace q341 := eq_true q341
             have p343 : 0 ≤ (x17_3 : Int) := of_decide_eq_true (by first | (with_reducible assumption) | assumption)
             have q343 : x17_3 < (l1.length : Int) := of_decide_eq_true (by first | (with_reducible assumption) | assumption)
             obtain ⟨ad343, e343, hx343_0, hx343_1, hx343_2⟩ := at_T23 HR1.out x17_3 p343 q343
             have hw343_2 := hx343_2
             have hw343_1 := hx343_1
             have hw343_0 := hx343_0
             obtain rfl : ad341 = ad343 := (by injection e343)
             replace hx343_0 := (HB.out.cell (World.block_lt_of_cell? w _ hx343_0)).trans hx343_0
             replace hx343_1 := (HB.out.cell (World.block_lt_of_cell? w _ hx343_1)).trans hx343_1
             replace hx343_2 := (HB.out.cell (World.block_lt_of_cell? w _ hx343_2)).trans hx343_2
             replace p343 := eq_true p343
             replace q343 := eq_true q343
             refine start_ (n := 15) (S := fun w' => w'.cell? (ad341.add ((x17_3).toNat * 3)) = some (.string ((rd_T23 l1 x17_3).f0)) ∧ w'.cell? ⟨(ad341.add ((x17_3).toNat * 3)).block, (ad341.add ((x17_3).toNat * 3)).off + 1, none⟩ = some (.string ((rd_T23 l1 x17_3).f1)) ∧ w'.cell? ⟨(ad341.add ((x17_3).toNat * 3)).block, (ad341.add ((x17_3).toNat * 3)).off + 2, none⟩ = some (.string ((rd_T23 l1 x17_3).f2)) ∧ w'.cell? (ad341.add ((x17_3).toNat * 3)) = some (.string ((rd_T23 l1 x17_3).f0)) ∧ w'.cell? ⟨(ad341.add ((x17_3).toNat * 3)).block, (ad341.add ((x17_3).toNat * 3)).off + 1, none⟩ = some (.string ((rd_T23 l1 x17_3).f1)) ∧ w'.cell? ⟨(ad341.add ((x17_3).toNat * 3)).block, (ad341.add ((x17_3).toNat * 3)).off + 2, none⟩ = some (.string ((rd_T23 l1 x17_3).f2))) (ds := []) (tf 0 15) (by kernel_rfl) rfl rfl ⟨((HB.out.cell (World.block_lt_of_cell? w _ hw341_0)).trans hw341_0), ((HB.out.cell (World.block_lt_of_cell? w _ hw341_1)).trans hw341_1), ((HB.out.cell (World.block_lt_of_cell? w _ hw341_2)).trans hw341_2), ((HB.out.cell (World.block_lt_of_cell? w _ hw343_0)).trans hw343_0), ((HB.out.cell (World.block_lt_of_cell? w _ hw343_1)).trans hw343_1), ((HB.out.cell (World.block_lt_of_cell? w _ hw343_2)).trans hw343_2)⟩ (fun hHeld => ?_); refine with_tabW sutlerlaw07_CoolAsks.tab19 sutlerlaw07_CoolAsks.bits19 (fun HT_ HW_ => ?_)
             generalize wr.drew = w59 at HO_7 HO_10 HB hx341_0 hx341_1 hx341_2 hx343_0 hx343_1 hx343_2 hHeld ⊢
             refine pure_ (i := 0) (N := some 94) (v := ?_) (a' := ?_) (tf 1 14) rfl rfl (any_of HT_.out (by kernel_rfl)) (fun _ _ _ h => h) (Or.inl ⟨by rfl, ?_⟩) ?_ ?_
             rotate_left
             ·intro w'
              go_simp
              with_reducible rfl
             rotate_left
             ·simp only [Act.put, List.setIfInBounds_toArray, List.set_cons_zero, List.set_cons_succ, i64_w, i32_w]
              rfl
             refine pure_ (i := 1) (N := some 95) (v := ?_) (a' := ?_) (tf 2 13) rfl rfl (any_of HT_.out (by kernel_rfl)) (fun _ _ _ h => h) (Or.inl ⟨by rfl, ?_⟩) ?_ ?_
             rotate_left
             ·intro w'
              go_simp
              with_reducible rfl
             rotate_left
             ·simp only [Act.put, List.setIfInBounds_toArray, List.set_cons_zero, List.set_cons_succ, i64_w, i32_w]
              rfl
             refine pure_ (i := 2) (N := some 96) (v := ?_) (a' := ?_) (tf 3 12) rfl rfl (any_of HT_.out (by kernel_rfl)) (fun _ _ _ h => h) (Or.inl ⟨by rfl, ?_⟩) ?_ ?_
             rotate_left
             ·intro w'
              go_simp
              with_reducible rfl
             rotate_left
             ·simp only [Act.put, List.setIfInBounds_toArray, List.set_cons_zero, List.set_cons_succ, i64_w, i32_w]
              rfl
             refine pure_ (i := 3) (N := some 97) (v := ?_) (a' := ?_) (tf 4 11) rfl rfl (any_of HT_.out (by kernel_rfl)) (fun _ _ _ h => h) (Or.inl ⟨by rfl, ?_⟩) ?_ ?_
             rotate_left
             ·intro w'
              go_simp
              with_reducible rfl
             rotate_left
             ·simp only [Act.put, List.setIfInBounds_toArray, List.set_cons_zero, List.set_cons_succ, i64_w, i32_w]
              rfl
             refine pure_ (i := 5) (N := some 99) (v := ?_) (a' := ?_) #[true, true, true, true, false, true, false, false, false, false, false, false, false, false, false] rfl rfl (any_of HT_.out (by kernel_rfl)) (fun _ _ _ h => h) (Or.inl ⟨by rfl, ?_⟩) ?_ ?_
             rotate_left
             ·intro w'
              go_simp
              with_reducible rfl
             rotate_left
             ·simp only [Act.put, List.setIfInBounds_toArray, List.set_cons_zero, List.set_cons_succ, i64_w, i32_w]
              rfl
             refine pure_ (i := 7) (N := some 101) (v := ?_) (a' := ?_) #[true, true, true, true, false, true, false, true, false, false, false, false, false, false, false] rfl rfl (any_of HT_.out (by kernel_rfl)) (fun _ _ _ h => h) (Or.inl ⟨by rfl, ?_⟩) ?_ ?_
             rotate_left
             ·intro w'
              go_simp
              with_reducible rfl
             rotate_left
             ·simp only [Act.put, List.setIfInBounds_toArray, List.set_cons_zero, List.set_cons_succ, i64_w, i32_w]
              rfl
             refine pure_ (i := 8) (N := some 102) (v := ?_) (a' := ?_) #[true, true, true, true, false, true, false, true, true, false, false, false, false, false, false] rfl rfl (any_of HT_.out (by kernel_rfl)) (fun _ _ _ h => h) (Or.inl ⟨by rfl, ?_⟩) ?_ ?_
             rotate_left
             ·intro w'
              go_simp
              with_reducible rfl
             rotate_left
             ·simp only [Act.put, List.setIfInBounds_toArray, List.set_cons_zero, List.set_cons_succ, i64_w, i32_w]
              rfl
             refine pure_ (i := 9) (N := some 103) (v := ?_) (a' := ?_) #[true, true, true, true, false, true, false, true, true, true, false, false, false, false, false] rfl rfl (any_of HT_.out (by kernel_rfl)) (fun _ _ _ h => h) (Or.inl ⟨by rfl, ?_⟩) ?_ ?_
             rotate_left
             ·intro w'
              go_simp
              with_reducible rfl
             rotate_left
             ·simp only [Act.put, List.setIfInBounds_toArray, List.set_cons_zero, List.set_cons_succ, i64_w, i32_w]
              rfl
             refine pure_ (i := 10) (N := some 104) (v := ?_) (a' := ?_) #[true, true, true, true, false, true, false, true, true, true, true, false, false, false, false] rfl rfl (any_of HT_.out (by kernel_rfl)) (fun _ _ _ h => h) (Or.inl ⟨by rfl, ?_⟩) ?_ ?_
             rotate_left
             ·intro w'
              go_simp
              with_reducible rfl
             rotate_left
             ·simp only [Act.put, List.setIfInBounds_toArray, List.set_cons_zero, List.set_cons_succ, i64_w, i32_w]
              rfl
             refine pure_ (i := 12) (N := some 106) (v := ?_) (a' := ?_) #[true, true, true, true, false, true, false, true, true, true, true, false, true, false, false] rfl rfl (any_of HT_.out (by kernel_rfl)) (fun _ _ _ h => h) (Or.inl ⟨by rfl, ?_⟩) ?_ ?_
             rotate_left
             ·intro w'
              go_simp
              with_reducible rfl
             rotate_left
             ·simp only [Act.put, List.setIfInBounds_toArray, List.set_cons_zero, List.set_cons_succ, i64_w, i32_w]
              rfl
             refine take_ (i := 4) (N := some 98) (v := ?_) (a' := ?_) #[true, true, true, true, true, true, false, true, true, true, true, false, true, false, false] rfl rfl (take_ofW HT_.out HW_.out (by kernel_rfl)) (fun _ _ _ h => h) (Or.inl ⟨by rfl, ?_⟩) hHeld ?_ ?_
             rotate_left
             ·rintro w' ⟨s0, s1, s2, s3, s4, s5⟩
              go_simp
              with_reducible rfl
             rotate_left
             ·simp only [Act.put, List.setIfInBounds_toArray, List.set_cons_zero, List.set_cons_succ, i64_w, i32_w]
              rfl
             refine take_ (i := 11) (N := some 105) (v := ?_) (a' := ?_) #[true, true, true, true, true, true, false, true, true, true, true, true, true, false, false] rfl rfl (take_ofW HT_.out HW_.out (by kernel_rfl)) (fun _ _ _ h => h) (Or.inl ⟨by rfl, ?_⟩) hHeld ?_ ?_
             rotate_left
             ·rintro w' ⟨s0, s1, s2, s3, s4, s5⟩
              go_simp
              with_reducible rfl
             rotate_left
             ·simp only [Act.put, List.setIfInBounds_toArray, List.set_cons_zero, List.set_cons_succ, i64_w, i32_w]
              rfl
             refine one_ (i := 6) (N := some 100) (tf 13 2) rfl rfl (one_of HT_.out (by kernel_rfl)) (by decide) (fun K hK => ?_)
             refine goes_ Try.func21 (by kernel_rfl) rfl #[.slice A0 l0.length c0, .agg #[.string ((rd_T23 l1 x17_3).f0), .string ((rd_T23 l1 x17_3).f1), .string ((rd_T23 l1 x17_3).f2)], .int .i64 a2] (by rfl) rfl rfl (by (try simp only [List.map_toArray, List.map_cons, List.map_nil]); first | done | rfl | (simp only [List.length_drop, List.length_take]; rfl)) ?_
             with_reducible refine (cool_IsCool.calls _ _ l0 ((rd_T23 l1 x17_3).f0) ((rd_T23 l1 x17_3).f1) ((rd_T23 l1 x17_3).f2) a2 t342 _ ?side1 ?side2 A56.out).mono ?_
             (case side1 => repeat (first | exact (Kd.C_below HR0.out HB.out) | (with_reducible refine Kd.C_alloc ?_ _) | (with_reducible refine Kd.C_drewN ?_ _) | (with_reducible refine Kd.C_drew ?_)))
             (case side2 => exact HC0.out)
             rintro e w60 ⟨rfl, hb⟩
             refine ⟨_, rfl, ?_⟩
             have n0_ := Aside0.mk (Kd.R_below (by (with_reducible repeat (first | apply Kd.R_alloc | apply Kd.R_drewN | apply Kd.R_drew)); exact HO_7.out) hb)
             have n1_ := Aside0.mk (Kd.Q_below (by (with_reducible repeat (first | apply Kd.Q_alloc | apply Kd.Q_drewN | apply Kd.Q_drew)); exact HO_10.out) hb)
             have n2_ := Aside0.mk (below_step (by repeat (first | (with_reducible first | exact HB.out | apply below_alloc | apply pw_below_drewN | apply below_drew1) | exact HB.out)) hb)
             clear HO_7
             clear HO_10
             clear HB
             have HO_7 := n0_
             have HO_10 := n1_
             have HB := n2_
             clear n0_ n1_ n2_
             (try clear hb)
             (try clear hb2)
             (try clear hk)
             (try clear hi)
             refine hK.out _ _ ⟨((HB.out.cell (World.block_lt_of_cell? w _ hw341_0)).trans hw341_0), ((HB.out.cell (World.block_lt_of_cell? w _ hw341_1)).trans hw341_1), ((HB.out.cell (World.block_lt_of_cell? w _ hw341_2)).trans hw341_2), ((HB.out.cell (World.block_lt_of_cell? w _ hw343_0)).trans hw343_0), ((HB.out.cell (World.block_lt_of_cell? w _ hw343_1)).trans hw343_1), ((HB.out.cell (World.block_lt_of_cell? w _ hw343_2)).trans hw343_2)⟩ (fun hHeld => ?_)
             clear hK K
             refine norm_ (a' := ?_) ?_ ?_
             rotate_left
             ·show Act.put _ (some 100) _ = _
              simp only [Act.put, List.setIfInBounds_toArray, List.set_cons_zero, List.set_cons_succ, i64_w, i32_w]
              rfl
             refine one_ (i := 13) (N := some 107) (tf 14 1) rfl rfl (one_of HT_.out (by kernel_rfl)) (by decide) (fun K hK => ?_)
             refine goes_ Try.func22 (by kernel_rfl) rfl #[.slice Ao16 y318.length co16, .agg #[.string ((rd_T23 l1 x17_3).f0), .string ((rd_T23 l1 x17_3).f1), .string ((rd_T23 l1 x17_3).f2)], .int .i64 a2] (by rfl) rfl rfl (by (try simp only [List.map_toArray, List.map_cons, List.map_nil]); first | done | rfl | (simp only [List.length_drop, List.length_take]; rfl)) ?_
             with_reducible refine (sutlerref07_IsCool.calls k3 _ _ y318 ((rd_T23 l1 x17_3).f0) ((rd_T23 l1 x17_3).f1) ((rd_T23 l1 x17_3).f2) a2 t344 _ ?side1 ?side2 A57.out).mono ?_
             (case side1 => repeat (first | exact (Kd.R_reads' HO_7.out).2.2 | (with_reducible refine Kd.C_alloc ?_ _) | (with_reducible refine Kd.C_drewN ?_ _) | (with_reducible refine Kd.C_drew ?_)))
             (case side2 => exact (Kd.R_reads' HO_7.out).2.1)
             rintro e w61 ⟨rfl, hb⟩
             refine ⟨_, rfl, ?_⟩
             have n0_ := Aside0.mk (Kd.R_below (by (with_reducible repeat (first | apply Kd.R_alloc | apply Kd.R_drewN | apply Kd.R_drew)); exact HO_7.out) hb)
             have n1_ := Aside0.mk (Kd.Q_below (by (with_reducible repeat (first | apply Kd.Q_alloc | apply Kd.Q_drewN | apply Kd.Q_drew)); exact HO_10.out) hb)
             have n2_ := Aside0.mk (below_step (by repeat (first | (with_reducible first | exact HB.out | apply below_alloc | apply pw_below_drewN | apply below_drew1) | exact HB.out)) hb)
             clear HO_7
             clear HO_10
             clear HB
             have HO_7 := n0_
             have HO_10 := n1_
             have HB := n2_
             clear n0_ n1_ n2_
             (try clear hb)
             (try clear hb2)
             (try clear hk)
             (try clear hi)
             refine hK.out _ _ ⟨((HB.out.cell (World.block_lt_of_cell? w _ hw341_0)).trans hw341_0), ((HB.out.cell (World.block_lt_of_cell? w _ hw341_1)).trans hw341_1), ((HB.out.cell (World.block_lt_of_cell? w _ hw341_2)).trans hw341_2), ((HB.out.cell (World.block_lt_of_cell? w _ hw343_0)).trans hw343_0), ((HB.out.cell (World.block_lt_of_cell? w _ hw343_1)).trans hw343_1), ((HB.out.cell (World.block_lt_of_cell? w _ hw343_2)).trans hw343_2)⟩ (fun hHeld => ?_)
             clear hK K
             refine norm_ (a' := ?_) ?_ ?_
             rotate_left
             ·show Act.put _ (some 107) _ = _
              simp only [Act.put, List.setIfInBounds_toArray, List.set_cons_zero, List.set_cons_succ, i64_w, i32_w]
              rfl
             refine pure_ (i := 14) (N := some 108) (v := ?_) (a' := ?_) (tf 15 0) rfl rfl (any_of HT_.out (by kernel_rfl)) (fun _ _ _ h => h) (Or.inl ⟨by rfl, ?_⟩) ?_ ?_
             rotate_left
             ·intro w'
              go_simp
              with_reducible rfl
             rotate_left
             ·simp only [Act.put, List.setIfInBounds_toArray, List.set_cons_zero, List.set_cons_succ, i64_w, i32_w]
              rfl
             refine done_ (done_of HT_.out (by kernel_rfl)) ?_
             try go_wp2
             go_ret
             exact ⟨by first | rfl | (simp [errW_none, errW_some] <;> rfl) | (simp [*, errW_none, errW_some] <;> rfl), by repeat (first | (with_reducible first | exact HB.out | apply below_alloc | apply pw_below_drewN | apply below_drew1) | exact HB.out)⟩
            ·rw [if_neg c58] at H
             have c58b0 : (t342 != t344) = false := by simpa using c58
             (try (have c58b1 : decide (t342 = t344) = true := by simpa using c58))
             (try (have c58b2 : (t342 == t344) = true := by simpa using c58))
             clear c58
             have H' := Aside0.mk H
             clear H
             try go_wp2
             have n0_ := Aside0.mk (Kd.R_drew HO_7.out)
             have n1_ := Aside0.mk (Kd.Q_drew HO_10.out)
             have n2_ := Aside0.mk (below_drew1 HB.out)
             clear HO_7
             clear HO_10
             clear HB
             have HO_7 := n0_
             have HO_10 := n1_
             have HB := n2_
             clear n0_ n1_ n2_
             have p341 : 0 ≤ (x17_3 : Int) := of_decide_eq_true (by first | (with_reducible assumption) | assumption)
             have q341 : x17_3 < (l1.length : Int) := of_decide_eq_true (by first | (with_reducible assumption) | assumption)
             obtain ⟨ad341, e341, hx341_0, hx341_1, hx341_2⟩ := at_T23 HR1.out x17_3 p341 q341
             have hw341_2 := hx341_2
             have hw341_1 := hx341_1
             have hw341_0 := hx341_0
             cases e341
             replace hx341_0 := (HB.out.cell (World.block_lt_of_cell? w _ hx341_0)).trans hx341_0
             replace hx341_1 := (HB.out.cell (World.block_lt_of_cell? w _ hx341_1)).trans hx341_1
             replace hx341_2 := (HB.out.cell (World.block_lt_of_cell? w _ hx341_2)).trans hx341_2
             replace p341 := eq_true p341
             replace q341 := eq_true q341
             have p343 : 0 ≤ (x17_3 : Int) := of_decide_eq_true (by first | (with_reducible assumption) | assumption)
             have q343 : x17_3 < (l1.length : Int) := of_decide_eq_true (by first | (with_reducible assumption) | assumption)
             obtain ⟨ad343, e343, hx343_0, hx343_1, hx343_2⟩ := at_T23 HR1.out x17_3 p343 q343
             have hw343_2 := hx343_2
             have hw343_1 := hx343_1
             have hw343_0 := hx343_0
             obtain rfl : ad341 = ad343 := (by injection e343)
             replace hx343_0 := (HB.out.cell (World.block_lt_of_cell? w _ hx343_0)).trans hx343_0
             replace hx343_1 := (HB.out.cell (World.block_lt_of_cell? w _ hx343_1)).trans hx343_1
             replace hx343_2 := (HB.out.cell (World.block_lt_of_cell? w _ hx343_2)).trans hx343_2
             replace p343 := eq_true p343
             replace q343 := eq_true q343
             refine start_ (n := 15) (S := fun w' => w'.cell? (ad341.add ((x17_3).toNat * 3)) = some (.string ((rd_T23 l1 x17_3).f0)) ∧ w'.cell? ⟨(ad341.add ((x17_3).toNat * 3)).block, (ad341.add ((x17_3).toNat * 3)).off + 1, none⟩ = some (.string ((rd_T23 l1 x17_3).f1)) ∧ w'.cell? ⟨(ad341.add ((x17_3).toNat * 3)).block, (ad341.add ((x17_3).toNat * 3)).off + 2, none⟩ = some (.string ((rd_T23 l1 x17_3).f2)) ∧ w'.cell? (ad341.add ((x17_3).toNat * 3)) = some (.string ((rd_T23 l1 x17_3).f0)) ∧ w'.cell? ⟨(ad341.add ((x17_3).toNat * 3)).block, (ad341.add ((x17_3).toNat * 3)).off + 1, none⟩ = some (.string ((rd_T23 l1 x17_3).f1)) ∧ w'.cell? ⟨(ad341.add ((x17_3).toNat * 3)).block, (ad341.add ((x17_3).toNat * 3)).off + 2, none⟩ = some (.string ((rd_T23 l1 x17_3).f2))) (ds := []) (tf 0 15) (by kernel_rfl) rfl rfl ⟨((HB.out.cell (World.block_lt_of_cell? w _ hw341_0)).trans hw341_0), ((HB.out.cell (World.block_lt_of_cell? w _ hw341_1)).trans hw341_1), ((HB.out.cell (World.block_lt_of_cell? w _ hw341_2)).trans hw341_2), ((HB.out.cell (World.block_lt_of_cell? w _ hw343_0)).trans hw343_0), ((HB.out.cell (World.block_lt_of_cell? w _ hw343_1)).trans hw343_1), ((HB.out.cell (World.block_lt_of_cell? w _ hw343_2)).trans hw343_2)⟩ (fun hHeld => ?_); refine with_tabW sutlerlaw07_CoolAsks.tab19 sutlerlaw07_CoolAsks.bits19 (fun HT_ HW_ => ?_)
             generalize wr.drew = w62 at HO_7 HO_10 HB hx341_0 hx341_1 hx341_2 hx343_0 hx343_1 hx343_2 hHeld ⊢
             refine pure_ (i := 0) (N := some 94) (v := ?_) (a' := ?_) (tf 1 14) rfl rfl (any_of HT_.out (by kernel_rfl)) (fun _ _ _ h => h) (Or.inl ⟨by rfl, ?_⟩) ?_ ?_
             rotate_left
             ·intro w'
              go_simp
              with_reducible rfl
             rotate_left
             ·simp only [Act.put, List.setIfInBounds_toArray, List.set_cons_zero, List.set_cons_succ, i64_w, i32_w]
              rfl
             refine pure_ (i := 1) (N := some 95) (v := ?_) (a' := ?_) (tf 2 13) rfl rfl (any_of HT_.out (by kernel_rfl)) (fun _ _ _ h => h) (Or.inl ⟨by rfl, ?_⟩) ?_ ?_
             rotate_left
             ·intro w'
              go_simp
              with_reducible rfl
             rotate_left
             ·simp only [Act.put, List.setIfInBounds_toArray, List.set_cons_zero, List.set_cons_succ, i64_w, i32_w]
              rfl
             refine pure_ (i := 2) (N := some 96) (v := ?_) (a' := ?_) (tf 3 12) rfl rfl (any_of HT_.out (by kernel_rfl)) (fun _ _ _ h => h) (Or.inl ⟨by rfl, ?_⟩) ?_ ?_
             rotate_left
             ·intro w'
              go_simp
              with_reducible rfl
             rotate_left
             ·simp only [Act.put, List.setIfInBounds_toArray, List.set_cons_zero, List.set_cons_succ, i64_w, i32_w]
              rfl
             refine pure_ (i := 3) (N := some 97) (v := ?_) (a' := ?_) (tf 4 11) rfl rfl (any_of HT_.out (by kernel_rfl)) (fun _ _ _ h => h) (Or.inl ⟨by rfl, ?_⟩) ?_ ?_
             rotate_left
             ·intro w'
              go_simp
              with_reducible rfl
             rotate_left
             ·simp only [Act.put, List.setIfInBounds_toArray, List.set_cons_zero, List.set_cons_succ, i64_w, i32_w]
              rfl
             refine pure_ (i := 5) (N := some 99) (v := ?_) (a' := ?_) #[true, true, true, true, false, true, false, false, false, false, false, false, false, false, false] rfl rfl (any_of HT_.out (by kernel_rfl)) (fun _ _ _ h => h) (Or.inl ⟨by rfl, ?_⟩) ?_ ?_
             rotate_left
             ·intro w'
              go_simp
              with_reducible rfl
             rotate_left
             ·simp only [Act.put, List.setIfInBounds_toArray, List.set_cons_zero, List.set_cons_succ, i64_w, i32_w]
              rfl
             refine pure_ (i := 7) (N := some 101) (v := ?_) (a' := ?_) #[true, true, true, true, false, true, false, true, false, false, false, false, false, false, false] rfl rfl (any_of HT_.out (by kernel_rfl)) (fun _ _ _ h => h) (Or.inl ⟨by rfl, ?_⟩) ?_ ?_
             rotate_left
             ·intro w'
              go_simp
              with_reducible rfl
             rotate_left
             ·simp only [Act.put, List.setIfInBounds_toArray, List.set_cons_zero, List.set_cons_succ, i64_w, i32_w]
              rfl
             refine pure_ (i := 8) (N := some 102) (v := ?_) (a' := ?_) #[true, true, true, true, false, true, false, true, true, false, false, false, false, false, false] rfl rfl (any_of HT_.out (by kernel_rfl)) (fun _ _ _ h => h) (Or.inl ⟨by rfl, ?_⟩) ?_ ?_
             rotate_left
             ·intro w'
              go_simp
              with_reducible rfl
             rotate_left
             ·simp only [Act.put, List.setIfInBounds_toArray, List.set_cons_zero, List.set_cons_succ, i64_w, i32_w]
              rfl
             refine pure_ (i := 9) (N := some 103) (v := ?_) (a' := ?_) #[true, true, true, true, false, true, false, true, true, true, false, false, false, false, false] rfl rfl (any_of HT_.out (by kernel_rfl)) (fun _ _ _ h => h) (Or.inl ⟨by rfl, ?_⟩) ?_ ?_
             rotate_left
             ·intro w'
              go_simp
              with_reducible rfl
             rotate_left
             ·simp only [Act.put, List.setIfInBounds_toArray, List.set_cons_zero, List.set_cons_succ, i64_w, i32_w]
              rfl
             refine pure_ (i := 10) (N := some 104) (v := ?_) (a' := ?_) #[true, true, true, true, false, true, false, true, true, true, true, false, false, false, false] rfl rfl (any_of HT_.out (by kernel_rfl)) (fun _ _ _ h => h) (Or.inl ⟨by rfl, ?_⟩) ?_ ?_
             rotate_left
             ·intro w'
              go_simp
              with_reducible rfl
             rotate_left
             ·simp only [Act.put, List.setIfInBounds_toArray, List.set_cons_zero, List.set_cons_succ, i64_w, i32_w]
              rfl
             refine pure_ (i := 12) (N := some 106) (v := ?_) (a' := ?_) #[true, true, true, true, false, true, false, true, true, true, true, false, true, false, false] rfl rfl (any_of HT_.out (by kernel_rfl)) (fun _ _ _ h => h) (Or.inl ⟨by rfl, ?_⟩) ?_ ?_
             rotate_left
             ·intro w'
              go_simp
              with_reducible rfl
             rotate_left
             ·simp only [Act.put, List.setIfInBounds_toArray, List.set_cons_zero, List.set_cons_succ, i64_w, i32_w]
              rfl
             refine take_ (i := 4) (N := some 98) (v := ?_) (a' := ?_) #[true, true, true, true, true, true, false, true, true, true, true, false, true, false, false] rfl rfl (take_ofW HT_.out HW_.out (by kernel_rfl)) (fun _ _ _ h => h) (Or.inl ⟨by rfl, ?_⟩) hHeld ?_ ?_
             rotate_left
             ·rintro w' ⟨s0, s1, s2, s3, s4, s5⟩
              go_simp
              with_reducible rfl
             rotate_left
             ·simp only [Act.put, List.setIfInBounds_toArray, List.set_cons_zero, List.set_cons_succ, i64_w, i32_w]
              rfl
             refine take_ (i := 11) (N := some 105) (v := ?_) (a' := ?_) #[true, true, true, true, true, true, false, true, true, true, true, true, true, false, false] rfl rfl (take_ofW HT_.out HW_.out (by kernel_rfl)) (fun _ _ _ h => h) (Or.inl ⟨by rfl, ?_⟩) hHeld ?_ ?_
             rotate_left
             ·rintro w' ⟨s0, s1, s2, s3, s4, s5⟩
              go_simp
              with_reducible rfl
             rotate_left
             ·simp only [Act.put, List.setIfInBounds_toArray, List.set_cons_zero, List.set_cons_succ, i64_w, i32_w]
              rfl
             refine one_ (i := 6) (N := some 100) (tf 13 2) rfl rfl (one_of HT_.out (by kernel_rfl)) (by decide) (fun K hK => ?_)
             refine goes_ Try.func21 (by kernel_rfl) rfl #[.slice A0 l0.length c0, .agg #[.string ((rd_T23 l1 x17_3).f0), .string ((rd_T23 l1 x17_3).f1), .string ((rd_T23 l1 x17_3).f2)], .int .i64 a2] (by rfl) rfl rfl (by (try simp only [List.map_toArray, List.map_cons, List.map_nil]); first | done | rfl | (simp only [List.length_drop, List.length_take]; rfl)) ?_
             with_reducible refine (cool_IsCool.calls _ _ l0 ((rd_T23 l1 x17_3).f0) ((rd_T23 l1 x17_3).f1) ((rd_T23 l1 x17_3).f2) a2 t342 _ ?side1 ?side2 A56.out).mono ?_
             (case side1 => repeat (first | exact (Kd.C_below HR0.out HB.out) | (with_reducible refine Kd.C_alloc ?_ _) | (with_reducible refine Kd.C_drewN ?_ _) | (with_reducible refine Kd.C_drew ?_)))
             (case side2 => exact HC0.out)
             rintro e w63 ⟨rfl, hb⟩
             refine ⟨_, rfl, ?_⟩
             have n0_ := Aside0.mk (Kd.R_below (by (with_reducible repeat (first | apply Kd.R_alloc | apply Kd.R_drewN | apply Kd.R_drew)); exact HO_7.out) hb)
             have n1_ := Aside0.mk (Kd.Q_below (by (with_reducible repeat (first | apply Kd.Q_alloc | apply Kd.Q_drewN | apply Kd.Q_drew)); exact HO_10.out) hb)
             have n2_ := Aside0.mk (below_step (by repeat (first | (with_reducible first | exact HB.out | apply below_alloc | apply pw_below_drewN | apply below_drew1) | exact HB.out)) hb)
             clear HO_7
             clear HO_10
             clear HB
             have HO_7 := n0_
             have HO_10 := n1_
             have HB := n2_
             clear n0_ n1_ n2_
             (try clear hb)
             (try clear hb2)
             (try clear hk)
             (try clear hi)
             refine hK.out _ _ ⟨((HB.out.cell (World.block_lt_of_cell? w _ hw341_0)).trans hw341_0), ((HB.out.cell (World.block_lt_of_cell? w _ hw341_1)).trans hw341_1), ((HB.out.cell (World.block_lt_of_cell? w _ hw341_2)).trans hw341_2), ((HB.out.cell (World.block_lt_of_cell? w _ hw343_0)).trans hw343_0), ((HB.out.cell (World.block_lt_of_cell? w _ hw343_1)).trans hw343_1), ((HB.out.cell (World.block_lt_of_cell? w _ hw343_2)).trans hw343_2)⟩ (fun hHeld => ?_)
             clear hK K
             refine norm_ (a' := ?_) ?_ ?_
             rotate_left
             ·show Act.put _ (some 100) _ = _
              simp only [Act.put, List.setIfInBounds_toArray, List.set_cons_zero, List.set_cons_succ, i64_w, i32_w]
              rfl
             refine one_ (i := 13) (N := some 107) (tf 14 1) rfl rfl (one_of HT_.out (by kernel_rfl)) (by decide) (fun K hK => ?_)
             refine goes_ Try.func22 (by kernel_rfl) rfl #[.slice Ao16 y318.length co16, .agg #[.string ((rd_T23 l1 x17_3).f0), .string ((rd_T23 l1 x17_3).f1), .string ((rd_T23 l1 x17_3).f2)], .int .i64 a2] (by rfl) rfl rfl (by (try simp only [List.map_toArray, List.map_cons, List.map_nil]); first | done | rfl | (simp only [List.length_drop, List.length_take]; rfl)) ?_
             with_reducible refine (sutlerref07_IsCool.calls k3 _ _ y318 ((rd_T23 l1 x17_3).f0) ((rd_T23 l1 x17_3).f1) ((rd_T23 l1 x17_3).f2) a2 t344 _ ?side1 ?side2 A57.out).mono ?_
             (case side1 => repeat (first | exact (Kd.R_reads' HO_7.out).2.2 | (with_reducible refine Kd.C_alloc ?_ _) | (with_reducible refine Kd.C_drewN ?_ _) | (with_reducible refine Kd.C_drew ?_)))
             (case side2 => exact (Kd.R_reads' HO_7.out).2.1)
             rintro e w64 ⟨rfl, hb⟩
             refine ⟨_, rfl, ?_⟩
             have n0_ := Aside0.mk (Kd.R_below (by (with_reducible repeat (first | apply Kd.R_alloc | apply Kd.R_drewN | apply Kd.R_drew)); exact HO_7.out) hb)
             have n1_ := Aside0.mk (Kd.Q_below (by (with_reducible repeat (first | apply Kd.Q_alloc | apply Kd.Q_drewN | apply Kd.Q_drew)); exact HO_10.out) hb)
             have n2_ := Aside0.mk (below_step (by repeat (first | (with_reducible first | exact HB.out | apply below_alloc | apply pw_below_drewN | apply below_drew1) | exact HB.out)) hb)
             clear HO_7
             clear HO_10
             clear HB
             have HO_7 := n0_
             have HO_10 := n1_
             have HB := n2_
             clear n0_ n1_ n2_
             (try clear hb)
             (try clear hb2)
             (try clear hk)
             (try clear hi)
             refine hK.out _ _ ⟨((HB.out.cell (World.block_lt_of_cell? w _ hw341_0)).trans hw341_0), ((HB.out.cell (World.block_lt_of_cell? w _ hw341_1)).trans hw341_1), ((HB.out.cell (World.block_lt_of_cell? w _ hw341_2)).trans hw341_2), ((HB.out.cell (World.block_lt_of_cell? w _ hw343_0)).trans hw343_0), ((HB.out.cell (World.block_lt_of_cell? w _ hw343_1)).trans hw343_1), ((HB.out.cell (World.block_lt_of_cell? w _ hw343_2)).trans hw343_2)⟩ (fun hHeld => ?_)
             clear hK K
             refine norm_ (a' := ?_) ?_ ?_
             rotate_left
             ·show Act.put _ (some 107) _ = _
              simp only [Act.put, List.setIfInBounds_toArray, List.set_cons_zero, List.set_cons_succ, i64_w, i32_w]
              rfl
             refine pure_ (i := 14) (N := some 108) (v := ?_) (a' := ?_) (tf 15 0) rfl rfl (any_of HT_.out (by kernel_rfl)) (fun _ _ _ h => h) (Or.inl ⟨by rfl, ?_⟩) ?_ ?_
             rotate_left
             ·intro w'
              go_simp
              with_reducible rfl
             rotate_left
             ·simp only [Act.put, List.setIfInBounds_toArray, List.set_cons_zero, List.set_cons_succ, i64_w, i32_w]
              rfl
             refine done_ (done_of HT_.out (by kernel_rfl)) ?_
             try go_wp2
             go_roundg k3
             case measure => have := HJ10.out; have := HK2.out; have := HK3.out; omega
             case rel => exact ⟨(wrap64 (x17_3 + 1)), (by first | rfl | (simp; done) | (simp [*]; done)), H', ⟨by have := HJ10.out; have := HK2.out; have := HK3.out; omega⟩, ⟨by (with_reducible repeat (first | apply Kd.R_alloc | apply Kd.R_drewN | apply Kd.R_drew)); exact HO_7.out⟩, ⟨by (with_reducible repeat (first | apply Kd.Q_alloc | apply Kd.Q_drewN | apply Kd.Q_drew)); exact HO_10.out⟩, ⟨by repeat (first | (with_reducible first | exact HB.out | apply below_alloc | apply pw_below_drewN | apply below_drew1) | exact HB.out)⟩⟩
           ·rw [if_neg c55] at H
            exact absurd H (by simp)
          ·rw [if_neg c54] at H
           have c54b0 : decide (x17_3 < (l1.length : Int)) = false := decide_eq_false c54
           clear c54
           have H' := Aside0.mk H
           clear H
           go_wp2
           go_loopg [18] k3 (fun kq v18 w' => ∃ (x10_4 : List (S25)) (x18_4 : Int), v18 = .int .i64 x18_4 ∧ Aside0 (sutlerlaw07_CoolAsks.l2 kq l0 y318 x10_4 x18_4 = some r) ∧ Aside0 (kq ≤ k3) ∧ Aside0 (Kd.R k25 25 w' w.heap.size (fun k_ => some k_ ≠ (v328 : Value).ownBlock) (.slice Ao16 y318.length co16) y318) ∧ Aside0 (Kd.Q k25 25 w' w.heap.size (fun k_ => some k_ ≠ ((.slice Ao16 y318.length co16) : Value).ownBlock) v328 x10_4) ∧ Aside0 (Below w.heap.size w w'))
           case atStart => exact ⟨(t327), (0), (by first | rfl | (simp; done) | (simp [*]; done)), H', ⟨Nat.le_refl _⟩, ⟨by (with_reducible repeat (first | apply Kd.R_alloc | apply Kd.R_drewN | apply Kd.R_drew)); exact HO_7.out⟩, ⟨by (with_reducible repeat (first | apply Kd.Q_alloc | apply Kd.Q_drewN | apply Kd.Q_drew)); exact HO_10.out⟩, ⟨by repeat (first | (with_reducible first | exact HB.out | apply below_alloc | apply pw_below_drewN | apply below_drew1) | exact HB.out)⟩⟩
           case round =>
            clear H'
            try clear c1
            try clear c2
            try clear p2
            try clear c3
            try clear p3
            try clear q3
            try clear hx3
            try clear c4
            try clear p4
            try clear q4
            try clear hx4
            try clear hf4
            try clear c5
            try clear hx5
            try clear hf5
            try clear p6
            try clear c15
            try clear c16
            try clear c17
            try clear c18
            try clear c19
            try clear c20
            try clear c21
            try clear c21b0
            try clear c21b1
            try clear c21b2
            try clear c22
            try clear c23
            try clear c24
            try clear c24b0
            try clear c24b1
            try clear p33
            try clear q33
            try clear hx33
            try clear p34
            try clear q34
            try clear hx34
            try clear c39
            try clear c40
            try clear c40b0
            try clear c41
            try clear c41b0
            try clear c42
            try clear c42b0
            try clear c43
            try clear c43b0
            try clear c47
            try clear p47
            try clear q47
            try clear hx47
            try clear hf47
            try clear c51
            try clear hx51
            try clear hf51
            try clear c54
            try clear c54b0
            try clear c55
            try clear c55b0
            try clear c58
            try clear c58b0
            try clear c58b1
            try clear c58b2
            try clear p64
            try clear hx338_0
            try clear hx338_1
            try clear hx338_2
            try clear hx339_0
            try clear hx339_1
            try clear hx339_2
            try clear hx341_0
            try clear hx341_1
            try clear hx341_2
            try clear hx343_0
            try clear hx343_1
            try clear hx343_2
            try clear hx47_0
            try clear hx47_1
            try clear hx47_2
            try clear hx51_0
            try clear hx51_1
            try clear hx51_2
            try clear p2
            try clear p3
            try clear p33
            try clear p338
            try clear p339
            try clear p341
            try clear p343
            try clear p4
            try clear p47
            try clear p6
            try clear q3
            try clear q33
            try clear q338
            try clear q339
            try clear q341
            try clear q343
            try clear q4
            try clear q47
            obtain ⟨x10_4, x18_4, rfl, HA, HK4, HO_7, HO_10, HB⟩ := hrel
            cases gk with
            | zero => exact absurd HA.out (by simp [sutlerlaw07_CoolAsks.l2])
            | succ k4 =>
             have H := HA.out
             clear HA
             simp only [sutlerlaw07_CoolAsks.l2] at H
             by_cases c65 : x18_4 < (x10_4.length : Int)
             ·rw [if_pos c65] at H
              have c65b0 : decide (x18_4 < (x10_4.length : Int)) = true := decide_eq_true c65
              clear c65
              by_cases c66 : 0 ≤ x18_4
              ·rw [if_pos c66] at H
               have c66b0 : decide (0 ≤ x18_4) = true := decide_eq_true c66
               clear c66
               obtain ⟨y345, hy345⟩ : ∃ y_ : List (S25), y_ = (x10_4.set (x18_4 : Int).toNat (⟨(⟨(⟨#[]⟩ : ByteArray), (⟨#[]⟩ : ByteArray), (⟨#[]⟩ : ByteArray)⟩ : S23), (-77)⟩ : S25)) := ⟨_, rfl⟩
               replace H : (sutlerlaw07_CoolAsks.l2 k4 l0 y318 y345 (wrap64 (x18_4 + 1))) = some r := by first | (rw [hy345]; with_reducible exact H) | (have H2_ := (Option.bind_some _ _).symm.trans H; rw [hy345]; with_reducible exact H2_) | (have H2_ := (Option.bind_some _ _).symm.trans H; with_reducible exact H2_) | with_reducible exact H | (rw [hy345]; exact H) | exact H
               have Ny345 := Aside0.mk hy345
               clear hy345
               have H' := Aside0.mk H
               clear H
               obtain ⟨Ao68, co68, eo68, _⟩ := Kd.Q_slice HO_10.out
               subst eo68
               have p67 : 0 ≤ (x18_4 : Int) := of_decide_eq_true (by first | (with_reducible assumption) | assumption)
               have q67 : (x18_4 : Int) < ((x10_4.length : Int) : Int) := of_decide_eq_true (by first | (with_reducible assumption) | assumption)
               obtain ⟨go67, oo67, co67, eo67, gb67, gl67, cl67, HG67⟩ := Kd.Q_form HO_10.out (by omega)
               (first | cases eo67 | (injection eo67 with ea_ en_ ec_; (first | subst ea_ | (injection ea_ with ea_; subst ea_)); subst ec_; clear en_))
               have GB67 := Aside0.mk gb67
               have GG67 := Aside0.mk HG67
               clear gb67 gl67 HG67
               obtain ⟨ce67, hcl67, hM67, hcc67, hfr67⟩ := Kd.Q_elem HO_10.out z25 (x18_4 : Int) p67 q67
               obtain rfl := k25_openM hM67
               have hx67_0 : wr.cell? ⟨go67, oo67 + (x18_4 : Int).toNat * 4, none⟩ = some (.string ((rd_T25 x10_4 x18_4).f0.f0)) := hcc67 0 _ rfl
               have hx67_1 : wr.cell? ⟨go67, oo67 + (x18_4 : Int).toNat * 4 + 1, none⟩ = some (.string ((rd_T25 x10_4 x18_4).f0.f1)) := hcc67 1 _ rfl
               have hx67_2 : wr.cell? ⟨go67, oo67 + (x18_4 : Int).toNat * 4 + 2, none⟩ = some (.string ((rd_T25 x10_4 x18_4).f0.f2)) := hcc67 2 _ rfl
               have hx67_3 : wr.cell? ⟨go67, oo67 + (x18_4 : Int).toNat * 4 + 3, none⟩ = some (.int .i64 ((rd_T25 x10_4 x18_4).f1)) := hcc67 3 _ rfl
               have hf67_0 : wr.frozen? ⟨go67, oo67 + (x18_4 : Int).toNat * 4, none⟩ = false := hfr67 0
               have hf67_1 : wr.frozen? ⟨go67, oo67 + (x18_4 : Int).toNat * 4 + 1, none⟩ = false := hfr67 1
               have hf67_2 : wr.frozen? ⟨go67, oo67 + (x18_4 : Int).toNat * 4 + 2, none⟩ = false := hfr67 2
               have hf67_3 : wr.frozen? ⟨go67, oo67 + (x18_4 : Int).toNat * 4 + 3, none⟩ = false := hfr67 3
               clear hcl67 hcc67 hfr67 hM67
               replace p67 := eq_true p67
               replace q67 := eq_true q67
               have HX69 := Aside0.mk (show Kd.Q k25 25 wr w.heap.size (fun k_ => some k_ ≠ (.slice Ao16 y318.length co16 : Value).ownBlock) (.slice (some ⟨go67, oo67, none⟩) x10_4.length co68) x10_4 from (by (with_reducible repeat (first | apply Kd.Q_alloc | apply Kd.Q_drewN | apply Kd.Q_drew)); exact HO_10.out))
               obtain ⟨ce69, hcl69, hM69, hcc69, hfr69⟩ := Kd.Q_elem HX69.out z25 (x18_4 : Int) (of_decide_eq_true (by first | (with_reducible assumption) | assumption)) (by have h_ : (x18_4 : Int) < ((x10_4.length : Int) : Int) := of_decide_eq_true (by first | (with_reducible assumption) | assumption); first | exact h_ | (have e_ := (Kd.Q_reads' HO_10.out).1; omega) | simpa using h_)
               obtain rfl := k25_openM hM69
               have HP69 := Kd.Q_seg HX69.out (x18_4 : Int) (of_decide_eq_true (by first | (with_reducible assumption) | assumption)) (by have h_ : (x18_4 : Int) < ((x10_4.length : Int) : Int) := of_decide_eq_true (by first | (with_reducible assumption) | assumption); first | exact h_ | (have e_ := (Kd.Q_reads' HO_10.out).1; omega) | simpa using h_) (seg := [.string (⟨#[]⟩ : ByteArray), .string (⟨#[]⟩ : ByteArray), .string (⟨#[]⟩ : ByteArray), .int .i64 (-77)]) (j := 0) hcl69 hcc69 (show 4 ≤ 4 from by decide) (x' := (⟨(⟨(⟨#[]⟩ : ByteArray), (⟨#[]⟩ : ByteArray), (⟨#[]⟩ : ByteArray)⟩ : S23), (-77)⟩ : S25)) (k25_mkM _ _ _ (⟨(⟨(⟨#[]⟩ : ByteArray), (⟨#[]⟩ : ByteArray), (⟨#[]⟩ : ByteArray)⟩ : S23), (-77)⟩ : S25) ) (fun _ hk => hk)
               have hx69_0 := hcc69 0 _ rfl
               (try simp only [show (k25).sz = 4 from rfl, Nat.mul_one, Nat.add_zero] at hx69_0)
               have hf69_0 := hfr69 0
               (try simp only [show (k25).sz = 4 from rfl, Nat.mul_one, Nat.add_zero] at hf69_0)
               have hx69_1 := hcc69 1 _ rfl
               (try simp only [show (k25).sz = 4 from rfl, Nat.mul_one, Nat.add_zero] at hx69_1)
               have hf69_1 := hfr69 1
               (try simp only [show (k25).sz = 4 from rfl, Nat.mul_one, Nat.add_zero] at hf69_1)
               have hx69_2 := hcc69 2 _ rfl
               (try simp only [show (k25).sz = 4 from rfl, Nat.mul_one, Nat.add_zero] at hx69_2)
               have hf69_2 := hfr69 2
               (try simp only [show (k25).sz = 4 from rfl, Nat.mul_one, Nat.add_zero] at hf69_2)
               have hx69_3 := hcc69 3 _ rfl
               (try simp only [show (k25).sz = 4 from rfl, Nat.mul_one, Nat.add_zero] at hx69_3)
               have hf69_3 := hfr69 3
               (try simp only [show (k25).sz = 4 from rfl, Nat.mul_one, Nat.add_zero] at hf69_3)
               clear hcl69 hcc69 hfr69 hM69
               go_wp2_with (first | ((with_reducible refine gate_store (t := 25) (p := 118) rfl ?_); refine store_event (t := 25) (p := 118) (v := ?vo_w70) (w1 := ((((wr.setCell ⟨go67, oo67 + (x18_4 : Int).toNat * 4, none⟩ (.string (⟨#[]⟩ : ByteArray))).setCell ⟨go67, oo67 + (x18_4 : Int).toNat * 4 + 1, none⟩ (.string (⟨#[]⟩ : ByteArray))).setCell ⟨go67, oo67 + (x18_4 : Int).toNat * 4 + 2, none⟩ (.string (⟨#[]⟩ : ByteArray))).setCell ⟨go67, oo67 + (x18_4 : Int).toNat * 4 + 3, none⟩ (.int .i64 (-77)))) ?hg ?ho ?hn ?hr ?_; (case ho => rfl); (case hg => rfl); (case hn => rfl); (case hr => first | (go_simp; done) | (go_simp; rfl)); intro w70 hw; have hg : wr.grownBy w70 (some go67) := (by rw [hw]; exact HP69.2); have hp_ : Kd.Q k25 25 w70 w.heap.size (fun k_ => some k_ ≠ (.slice Ao16 y318.length co16 : Value).ownBlock) (.slice (some ⟨go67, oo67, none⟩) x10_4.length co68) y345 := (by rw [hw, Ny345.out]; exact HP69.1); clear HP69; have n0_ := Aside0.mk (Kd.R_after (v := (.slice (some ⟨go67, oo67, none⟩) x10_4.length co68)) (v1 := (.slice (some ⟨go67, oo67, none⟩) x10_4.length co68)) (ok := (fun _ => True)) (by (with_reducible repeat (first | apply Kd.R_alloc | apply Kd.R_drewN | apply Kd.R_drew)); exact Kd.R_mono HO_7.out (fun _ hk => ⟨trivial, hk⟩)) hg (.inl rfl)); have n1_ := Aside0.mk (hp_); have n2_ := Aside0.mk ((by rw [hw]; exact below_set (below_set (below_set (below_set (HB.out) GB67.out) GB67.out) GB67.out) GB67.out : Below w.heap.size w w70)); clear HO_7; clear HO_10; clear HB; have HO_7 := n0_; have HO_10 := n1_; have HB := n2_; clear n0_ n1_ n2_; clear hg hw hp_))
               go_roundg k4
               case measure => have := HJ10.out; have := HK2.out; have := HK3.out; have := HK4.out; omega
               case rel => exact ⟨(y345), (wrap64 (x18_4 + 1)), (by first | rfl | (simp; done) | (simp [*]; done)), H', ⟨by have := HJ10.out; have := HK2.out; have := HK3.out; have := HK4.out; omega⟩, ⟨by (with_reducible repeat (first | apply Kd.R_alloc | apply Kd.R_drewN | apply Kd.R_drew)); exact Kd.R_mono HO_7.out (fun _ hk => hk.2)⟩, ⟨by (with_reducible repeat (first | apply Kd.Q_alloc | apply Kd.Q_drewN | apply Kd.Q_drew)); exact HO_10.out⟩, ⟨by repeat (first | (with_reducible first | exact HB.out | apply below_alloc | apply pw_below_drewN | apply below_drew1) | exact HB.out)⟩⟩
              ·rw [if_neg c66] at H
               exact absurd H (by simp)
             ·rw [if_neg c65] at H
              have c65b0 : decide (x18_4 < (x10_4.length : Int)) = false := decide_eq_false c65
              clear c65
              replace H := Option.bind_eq_some_iff.mp H
              obtain ⟨t346, A710, H⟩ := H
              replace H : (if t346 = true then ((sutlerlaw07_same.f k4 l0 y318).bind fun t347 => (some t347)) else (some false)) = some r := H
              have A71 := Aside0.mk A710
              clear A710
              by_cases c72 : t346 = true
              ·subst c72
               have H1 : ((sutlerlaw07_same.f k4 l0 y318).bind fun t347 => (some t347)) = some r := by rw [if_pos rfl] at H; exact H
               clear H
               have H := H1
               clear H1
               replace H := Option.bind_eq_some_iff.mp H
               obtain ⟨t347, A730, H⟩ := H
               replace H : (some t347) = some r := H
               have A73 := Aside0.mk A730
               clear A730
               obtain rfl := Option.some.inj H
               obtain ⟨Ao74, co74, eo74, _⟩ := Kd.Q_slice HO_10.out
               subst eo74
               go_wp2_with (first | ((with_reducible refine gate_callee (f := 10) rfl ?_); refine goesL_ (some 119) rfl rfl Try.func10 (by kernel_rfl) rfl #[] rfl (by (try simp only [List.map_toArray, List.map_cons, List.map_nil]); first | done | rfl | (simp only [List.length_drop, List.length_take]; rfl)) ?_; (with_reducible refine (sutlerlaw07_live.calls k4  true _ A71.out).mono ?_); rintro e w75 ⟨rfl, hb⟩; refine ⟨_, rfl, ?_⟩; have n0_ := Aside0.mk (Kd.R_below (by (with_reducible repeat (first | apply Kd.R_alloc | apply Kd.R_drewN | apply Kd.R_drew)); exact HO_7.out) hb); have n1_ := Aside0.mk (Kd.Q_below (by (with_reducible repeat (first | apply Kd.Q_alloc | apply Kd.Q_drewN | apply Kd.Q_drew)); exact HO_10.out) hb); have n2_ := Aside0.mk (below_step (by repeat (first | (with_reducible first | exact HB.out | apply below_alloc | apply pw_below_drewN | apply below_drew1) | exact HB.out)) hb); clear HO_7; clear HO_10; clear HB; have HO_7 := n0_; have HO_10 := n1_; have HB := n2_; clear n0_ n1_ n2_; (try clear hb); (try clear hb2); (try clear hk); (try clear hi)) | (go_at_call 14; (with_reducible refine (sutlerlaw07_same.calls k4 _ _ l0 _ _ y318 t347 _ ?side1 ?side2 ?side3 ?side4 A73.out).mono ?_); (case side1 => repeat (first | exact (Kd.C_below HR0.out HB.out) | (with_reducible refine Kd.C_alloc ?_ _) | (with_reducible refine Kd.C_drewN ?_ _) | (with_reducible refine Kd.C_drew ?_))); (case side2 => exact HC0.out); (case side3 => repeat (first | exact (Kd.R_reads' HO_7.out).2.2 | (with_reducible refine Kd.C_alloc ?_ _) | (with_reducible refine Kd.C_drewN ?_ _) | (with_reducible refine Kd.C_drew ?_))); (case side4 => exact (Kd.R_reads' HO_7.out).2.1); rintro e w' ⟨rfl, ⟨nd, rfl⟩⟩))
               go_ret
               exact ⟨by first | rfl | (simp [errW_none, errW_some] <;> rfl) | (simp [*, errW_none, errW_some] <;> rfl), by repeat (first | (with_reducible first | exact HB.out | apply below_alloc | apply pw_below_drewN | apply below_drew1) | exact HB.out)⟩
              ·replace c72 := Bool.eq_false_iff.mpr c72
               subst c72
               have H1 : (some false) = some r := by rw [if_neg (show ¬ (false = true) by decide)] at H; exact H
               clear H
               have H := H1
               clear H1
               obtain rfl := Option.some.inj H
               obtain ⟨Ao76, co76, eo76, _⟩ := Kd.Q_slice HO_10.out
               subst eo76
               go_wp2_with (first | ((with_reducible refine gate_callee (f := 10) rfl ?_); refine goesL_ (some 119) rfl rfl Try.func10 (by kernel_rfl) rfl #[] rfl (by (try simp only [List.map_toArray, List.map_cons, List.map_nil]); first | done | rfl | (simp only [List.length_drop, List.length_take]; rfl)) ?_; (with_reducible refine (sutlerlaw07_live.calls k4  false _ A71.out).mono ?_); rintro e w77 ⟨rfl, hb⟩; refine ⟨_, rfl, ?_⟩; have n0_ := Aside0.mk (Kd.R_below (by (with_reducible repeat (first | apply Kd.R_alloc | apply Kd.R_drewN | apply Kd.R_drew)); exact HO_7.out) hb); have n1_ := Aside0.mk (Kd.Q_below (by (with_reducible repeat (first | apply Kd.Q_alloc | apply Kd.Q_drewN | apply Kd.Q_drew)); exact HO_10.out) hb); have n2_ := Aside0.mk (below_step (by repeat (first | (with_reducible first | exact HB.out | apply below_alloc | apply pw_below_drewN | apply below_drew1) | exact HB.out)) hb); clear HO_7; clear HO_10; clear HB; have HO_7 := n0_; have HO_10 := n1_; have HB := n2_; clear n0_ n1_ n2_; (try clear hb); (try clear hb2); (try clear hk); (try clear hi)))
               go_ret
               exact ⟨by first | rfl | (simp [errW_none, errW_some] <;> rfl) | (simp [*, errW_none, errW_some] <;> rfl), by repeat (first | (with_reducible first | exact HB.out | apply below_alloc | apply pw_below_drewN | apply below_drew1) | exact HB.out)⟩
 ·rw [if_neg c4] at H
  exact absurd H (by simp)

end Go.Proofs.Ytiodidhbkgnicaa.PAll
