-- written by a program of this session (the kit's print, turned): plain functions and their contracts
-- shrunk
import Derived.Test.YtmankbhlgjgnbaaPAllx0
namespace Go.Proofs.Ytmankbhlgjgnbaa.PAll
open Go.RowKit Go.Proofs.YtmankbhlgjgnbaaW.PrintWords Go.Proofs.YtmankbhlgjgnbaaW.PrintLast Go.Proofs.YtmankbhlgjgnbaaW.PrintMore
attribute [local go_sem] max2_int min2_int max_two min_two max_three min_three max_four min_four   -- for this text's walks alone
set_option linter.unusedVariables false
set_option linter.unusedSimpArgs false

/-! ### sutlerref10_Same: function 16 -/
mutual
def sutlerref10_Same.j0 : Nat → Bool → Int → ByteArray → Int → List ByteArray → List Int → Bool → Int → ByteArray → Int → List ByteArray → List Int → Bool → Option (Bool)
 | 0, _, _, _, _, _, _, _, _, _, _, _, _, _ => none
 | k + 1, x49, x127000, x127001, x127002, x127003, x127004, x127005, x128000, x128001, x128002, x128003, x128004, x128005 => if x49 = true then (some false) else (sutlerref10_Same.l0 k (x127003.length : Int) 0 x127000 x127001 x127002 x127003 x127004 x127005 x128000 x128001 x128002 x128003 x128004 x128005)
def sutlerref10_Same.l0 : Nat → Int → Int → Int → ByteArray → Int → List ByteArray → List Int → Bool → Int → ByteArray → Int → List ByteArray → List Int → Bool → Option (Bool)
 | 0, _, _, _, _, _, _, _, _, _, _, _, _, _, _ => none
 | k + 1, x52, x53, x127000, x127001, x127002, x127003, x127004, x127005, x128000, x128001, x128002, x128003, x128004, x128005 => if x53 < x52 then (if 0 ≤ x53 then (if x53 < (x127003.length : Int) then (if x53 < (x128003.length : Int) then (if (rdOf ByteArray.empty x127003 x53).toList = (rdOf ByteArray.empty x128003 x53).toList then (sutlerref10_Same.l0 k x52 (wrap64 (x53 + 1)) x127000 x127001 x127002 x127003 x127004 x127005 x128000 x128001 x128002 x128003 x128004 x128005) else (some false)) else (none)) else (none)) else (none)) else (some true)
end
def sutlerref10_Same.f (k : Nat) (a0_0 : Int) (a0_1 : ByteArray) (a0_2 : Int) (l0_3 : List ByteArray) (l0_4 : List Int) (a0_5 : Bool) (a1_0 : Int) (a1_1 : ByteArray) (a1_2 : Int) (l1_3 : List ByteArray) (l1_4 : List Int) (a1_5 : Bool) : Option (Bool) := if a0_0 = a1_0 then (if a0_1.toList = a1_1.toList then (if a0_2 = a1_2 then (if (a0_5 != a1_5) = true then (sutlerref10_Same.j0 k true a0_0 a0_1 a0_2 l0_3 l0_4 a0_5 a1_0 a1_1 a1_2 l1_3 l1_4 a1_5) else (if (strOfNums l0_4).toList = (strOfNums l1_4).toList then (sutlerref10_Same.j0 k ((l0_3.length : Int) != (l1_3.length : Int)) a0_0 a0_1 a0_2 l0_3 l0_4 a0_5 a1_0 a1_1 a1_2 l1_3 l1_4 a1_5) else (sutlerref10_Same.j0 k true a0_0 a0_1 a0_2 l0_3 l0_4 a0_5 a1_0 a1_1 a1_2 l1_3 l1_4 a1_5))) else (sutlerref10_Same.j0 k true a0_0 a0_1 a0_2 l0_3 l0_4 a0_5 a1_0 a1_1 a1_2 l1_3 l1_4 a1_5)) else (sutlerref10_Same.j0 k true a0_0 a0_1 a0_2 l0_3 l0_4 a0_5 a1_0 a1_1 a1_2 l1_3 l1_4 a1_5)) else (sutlerref10_Same.j0 k true a0_0 a0_1 a0_2 l0_3 l0_4 a0_5 a1_0 a1_1 a1_2 l1_3 l1_4 a1_5)
theorem sutlerref10_Same.mono_l : ∀ k, (∀ y0 y1 y2 y3 y4 y5 y6 y7 y8 y9 y10 y11 y12, LeO (sutlerref10_Same.j0 k y0 y1 y2 y3 y4 y5 y6 y7 y8 y9 y10 y11 y12) (sutlerref10_Same.j0 (k + 1) y0 y1 y2 y3 y4 y5 y6 y7 y8 y9 y10 y11 y12)) ∧ (∀ y0 y1 y2 y3 y4 y5 y6 y7 y8 y9 y10 y11 y12 y13, LeO (sutlerref10_Same.l0 k y0 y1 y2 y3 y4 y5 y6 y7 y8 y9 y10 y11 y12 y13) (sutlerref10_Same.l0 (k + 1) y0 y1 y2 y3 y4 y5 y6 y7 y8 y9 y10 y11 y12 y13))
 | 0 => ⟨fun _ _ _ _ _ _ _ _ _ _ _ _ _ r h => by simp [sutlerref10_Same.j0] at h, fun _ _ _ _ _ _ _ _ _ _ _ _ _ _ r h => by simp [sutlerref10_Same.l0] at h⟩
 | k + 1 => by
  obtain ⟨ih0, ih1⟩ := sutlerref10_Same.mono_l k
  refine ⟨?_, ?_⟩
  ·intro y0 y1 y2 y3 y4 y5 y6 y7 y8 y9 y10 y11 y12
   unfold sutlerref10_Same.j0
   repeat' first
   | (with_reducible exact ih0 _ _ _ _ _ _ _ _ _ _ _ _ _)
   | (with_reducible exact ih1 _ _ _ _ _ _ _ _ _ _ _ _ _ _)
   | (with_reducible exact LeO.refl _)
   | (with_reducible exact LeO.none _)
   | (with_reducible refine LeO.ite ?_ ?_)
   | (with_reducible refine LeO.bind ?_ (fun _ => ?_))
   | exact ih0 _ _ _ _ _ _ _ _ _ _ _ _ _
   | exact ih1 _ _ _ _ _ _ _ _ _ _ _ _ _ _
   | exact LeO.none _
   | refine LeO.ite ?_ ?_
   | refine LeO.bind ?_ (fun _ => ?_)
  ·intro y0 y1 y2 y3 y4 y5 y6 y7 y8 y9 y10 y11 y12 y13
   unfold sutlerref10_Same.l0
   repeat' first
   | (with_reducible exact ih0 _ _ _ _ _ _ _ _ _ _ _ _ _)
   | (with_reducible exact ih1 _ _ _ _ _ _ _ _ _ _ _ _ _ _)
   | (with_reducible exact LeO.refl _)
   | (with_reducible exact LeO.none _)
   | (with_reducible refine LeO.ite ?_ ?_)
   | (with_reducible refine LeO.bind ?_ (fun _ => ?_))
   | exact ih0 _ _ _ _ _ _ _ _ _ _ _ _ _
   | exact ih1 _ _ _ _ _ _ _ _ _ _ _ _ _ _
   | exact LeO.none _
   | refine LeO.ite ?_ ?_
   | refine LeO.bind ?_ (fun _ => ?_)
theorem sutlerref10_Same.mono : ∀ a0 a1 a2 a3 a4 a5 a6 a7 a8 a9 a10 a11 k, LeO (sutlerref10_Same.f k a0 a1 a2 a3 a4 a5 a6 a7 a8 a9 a10 a11) (sutlerref10_Same.f (k + 1) a0 a1 a2 a3 a4 a5 a6 a7 a8 a9 a10 a11) := by
 intro a0 a1 a2 a3 a4 a5 a6 a7 a8 a9 a10 a11 k
 obtain ⟨ih0, ih1⟩ := sutlerref10_Same.mono_l k
 unfold sutlerref10_Same.f
 repeat' first
   | (with_reducible exact ih0 _ _ _ _ _ _ _ _ _ _ _ _ _)
   | (with_reducible exact ih1 _ _ _ _ _ _ _ _ _ _ _ _ _ _)
   | (with_reducible exact LeO.refl _)
   | (with_reducible exact LeO.none _)
   | (with_reducible refine LeO.ite ?_ ?_)
   | (with_reducible refine LeO.bind ?_ (fun _ => ?_))
   | exact ih0 _ _ _ _ _ _ _ _ _ _ _ _ _
   | exact ih1 _ _ _ _ _ _ _ _ _ _ _ _ _ _
   | exact LeO.none _
   | refine LeO.ite ?_ ?_
   | refine LeO.bind ?_ (fun _ => ?_)
set_option maxHeartbeats 8000000 in
set_option maxRecDepth 100000 in
theorem sutlerref10_Same.calls (k : Nat) (a0_0 : Int) (a0_1 : ByteArray) (a0_2 : Int) (A0_3 : Option Addr) (c0_3 : Nat) (l0_3 : List ByteArray) (A0_4 : Option Addr) (c0_4 : Nat) (l0_4 : List Int) (a0_5 : Bool) (a1_0 : Int) (a1_1 : ByteArray) (a1_2 : Int) (A1_3 : Option Addr) (c1_3 : Nat) (l1_3 : List ByteArray) (A1_4 : Option Addr) (c1_4 : Nat) (l1_4 : List Int) (a1_5 : Bool) (r : Bool) (w : World) (hr0_3 : Kd.C Kd.string w A0_3 l0_3.length l0_3) (hc0_3 : l0_3.length ≤ c0_3) (hr0_4 : Kd.C (Kd.int .u8) w A0_4 l0_4.length l0_4) (hc0_4 : l0_4.length ≤ c0_4) (hr1_3 : Kd.C Kd.string w A1_3 l1_3.length l1_3) (hc1_3 : l1_3.length ≤ c1_3) (hr1_4 : Kd.C (Kd.int .u8) w A1_4 l1_4.length l1_4) (hc1_4 : l1_4.length ≤ c1_4) (h : sutlerref10_Same.f k a0_0 a0_1 a0_2 l0_3 l0_4 a0_5 a1_0 a1_1 a1_2 l1_3 l1_4 a1_5 = some r) :
  Calls Try.prog 16 #[.agg #[.int .i64 a0_0, .string a0_1, .int .i64 a0_2, .slice A0_3 l0_3.length c0_3, .slice A0_4 l0_4.length c0_4, .bool a0_5], .agg #[.int .i64 a1_0, .string a1_1, .int .i64 a1_2, .slice A1_3 l1_3.length c1_3, .slice A1_4 l1_4.length c1_4, .bool a1_5]] w fun e w' => e = .returned (.bool r) ∧ Below w.heap.size w w' := by
 have hu31 := Try.underlying31
 have HR0_3 := Aside0.mk hr0_3
 have HC0_3 := Aside0.mk hc0_3
 clear hr0_3 hc0_3
 have HR0_4 := Aside0.mk hr0_4
 have HC0_4 := Aside0.mk hc0_4
 clear hr0_4 hc0_4
 have HR1_3 := Aside0.mk hr1_3
 have HC1_3 := Aside0.mk hc1_3
 clear hr1_3 hc1_3
 have HR1_4 := Aside0.mk hr1_4
 have HC1_4 := Aside0.mk hc1_4
 clear hr1_4 hc1_4
 have HB := Aside0.mk (Below.refl w.heap.size w)
 have H : (if a0_0 = a1_0 then (if a0_1.toList = a1_1.toList then (if a0_2 = a1_2 then (if (a0_5 != a1_5) = true then (sutlerref10_Same.j0 k true a0_0 a0_1 a0_2 l0_3 l0_4 a0_5 a1_0 a1_1 a1_2 l1_3 l1_4 a1_5) else (if (strOfNums l0_4).toList = (strOfNums l1_4).toList then (sutlerref10_Same.j0 k ((l0_3.length : Int) != (l1_3.length : Int)) a0_0 a0_1 a0_2 l0_3 l0_4 a0_5 a1_0 a1_1 a1_2 l1_3 l1_4 a1_5) else (sutlerref10_Same.j0 k true a0_0 a0_1 a0_2 l0_3 l0_4 a0_5 a1_0 a1_1 a1_2 l1_3 l1_4 a1_5))) else (sutlerref10_Same.j0 k true a0_0 a0_1 a0_2 l0_3 l0_4 a0_5 a1_0 a1_1 a1_2 l1_3 l1_4 a1_5)) else (sutlerref10_Same.j0 k true a0_0 a0_1 a0_2 l0_3 l0_4 a0_5 a1_0 a1_1 a1_2 l1_3 l1_4 a1_5)) else (sutlerref10_Same.j0 k true a0_0 a0_1 a0_2 l0_3 l0_4 a0_5 a1_0 a1_1 a1_2 l1_3 l1_4 a1_5)) = some r := h
 clear h
 have HC3 := Aside0.mk H
 clear H
 go_enter Try.func16, Try.ntmps16
 go_upto_region 1 with (first | ((with_reducible refine gate_dst (N := 2) rfl ?_); (try (refine gate_guard (by rfl) ?_; dsimp only)); refine box_event ?hg (N := 2) ?hd (cs := #[.int .i64 a0_0, .string a0_1, .int .i64 a0_2, .slice A0_3 l0_3.length c0_3, .slice A0_4 l0_4.length c0_4, .bool a0_5]) (t := 31) ?hr ?_; (case hd => rfl); (case hg => rfl); (case hr => first | (go_simp; done) | (go_simp; rfl)); intro gb126 hg w4 hbox hb; have n0_ := Aside0.mk (below_step (by repeat (first | (with_reducible first | exact HB.out | apply below_alloc | apply pw_below_drewN | apply below_drew1) | exact HB.out)) hb); have n1_ := Aside0.mk (hbox); have n2_ := Aside0.mk ((by rw [hg]; exact (below_size (by repeat (first | (with_reducible first | exact HB.out | apply below_alloc | apply pw_below_drewN | apply below_drew1) | exact HB.out))) : w.heap.size ≤ gb126)); have n3_ := Aside0.mk ((by rw [hg]; exact (below_size (by repeat (first | (with_reducible first | exact HB.out | apply below_alloc | apply pw_below_drewN | apply below_drew1) | exact HB.out))) : w.heap.size ≤ gb126)); clear HB; have HB := n0_; have BK126 := n1_; have GW126 := n2_; have GE126 := n3_; clear n0_ n1_ n2_ n3_; clear hb hbox hg) | ((with_reducible refine gate_dst (N := 3) rfl ?_); (try (refine gate_guard (by rfl) ?_; dsimp only)); refine box_event ?hg (N := 3) ?hd (cs := #[.int .i64 a1_0, .string a1_1, .int .i64 a1_2, .slice A1_3 l1_3.length c1_3, .slice A1_4 l1_4.length c1_4, .bool a1_5]) (t := 31) ?hr ?_; (case hd => rfl); (case hg => rfl); (case hr => first | (go_simp; done) | (go_simp; rfl)); intro gb127 hg w5 hbox hb; have n0_ := Aside0.mk (blk_below (g := gb126) (o := .cells #[.int .i64 a0_0, .string a0_1, .int .i64 a0_2, .slice A0_3 l0_3.length c0_3, .slice A0_4 l0_4.length c0_4, .bool a0_5] 31 (0, 0)) (by (with_reducible repeat (first | refine blk_drewN ?_ _ | refine blk_drew ?_ | refine blk_alloc ?_ _)); exact BK126.out) hb); have n1_ := Aside0.mk (below_step (by repeat (first | (with_reducible first | exact HB.out | apply below_alloc | apply pw_below_drewN | apply below_drew1 | refine below_set ?_ GE126.out) | exact HB.out)) hb); have n2_ := Aside0.mk (hbox); have n3_ := Aside0.mk ((by rw [hg]; exact (below_size (by repeat (first | (with_reducible first | exact HB.out | apply below_alloc | apply pw_below_drewN | apply below_drew1 | refine below_set ?_ GE126.out) | exact HB.out))) : w.heap.size ≤ gb127)); have n4_ := Aside0.mk ((by rw [hg]; exact (below_size (by repeat (first | (with_reducible first | exact HB.out | apply below_alloc | apply pw_below_drewN | apply below_drew1 | refine below_set ?_ GE126.out) | exact HB.out))) : w.heap.size ≤ gb127)); have n5_ := Aside0.mk ((by rw [hg]; exact Nat.ne_of_lt (blk_lt (g := gb126) (o := .cells #[.int .i64 a0_0, .string a0_1, .int .i64 a0_2, .slice A0_3 l0_3.length c0_3, .slice A0_4 l0_4.length c0_4, .bool a0_5] 31 (0, 0)) (by (with_reducible repeat (first | refine blk_drewN ?_ _ | refine blk_drew ?_ | refine blk_alloc ?_ _)); exact BK126.out)) : gb126 ≠ gb127)); have n6_ := Aside0.mk ((by rw [hg]; exact Nat.ne_of_gt (blk_lt (g := gb126) (o := .cells #[.int .i64 a0_0, .string a0_1, .int .i64 a0_2, .slice A0_3 l0_3.length c0_3, .slice A0_4 l0_4.length c0_4, .bool a0_5] 31 (0, 0)) (by (with_reducible repeat (first | refine blk_drewN ?_ _ | refine blk_drew ?_ | refine blk_alloc ?_ _)); exact BK126.out)) : gb127 ≠ gb126)); clear BK126; clear HB; have BK126 := n0_; have HB := n1_; have BK127 := n2_; have GW127 := n3_; have GE127 := n4_; have NB126_127 := n5_; have NB127_126 := n6_; clear n0_ n1_ n2_ n3_ n4_ n5_ n6_; clear hb hbox hg))
 repeat (go_quiet (first | ((with_reducible refine gate_dst (N := 2) rfl ?_); (try (refine gate_guard (by rfl) ?_; dsimp only)); refine box_event ?hg (N := 2) ?hd (cs := #[.int .i64 a0_0, .string a0_1, .int .i64 a0_2, .slice A0_3 l0_3.length c0_3, .slice A0_4 l0_4.length c0_4, .bool a0_5]) (t := 31) ?hr ?_; (case hd => rfl); (case hg => rfl); (case hr => first | (go_simp; done) | (go_simp; rfl)); intro gb126 hg w4 hbox hb; have n0_ := Aside0.mk (below_step (by repeat (first | (with_reducible first | exact HB.out | apply below_alloc | apply pw_below_drewN | apply below_drew1) | exact HB.out)) hb); have n1_ := Aside0.mk (hbox); have n2_ := Aside0.mk ((by rw [hg]; exact (below_size (by repeat (first | (with_reducible first | exact HB.out | apply below_alloc | apply pw_below_drewN | apply below_drew1) | exact HB.out))) : w.heap.size ≤ gb126)); have n3_ := Aside0.mk ((by rw [hg]; exact (below_size (by repeat (first | (with_reducible first | exact HB.out | apply below_alloc | apply pw_below_drewN | apply below_drew1) | exact HB.out))) : w.heap.size ≤ gb126)); clear HB; have HB := n0_; have BK126 := n1_; have GW126 := n2_; have GE126 := n3_; clear n0_ n1_ n2_ n3_; clear hb hbox hg) | ((with_reducible refine gate_dst (N := 3) rfl ?_); (try (refine gate_guard (by rfl) ?_; dsimp only)); refine box_event ?hg (N := 3) ?hd (cs := #[.int .i64 a1_0, .string a1_1, .int .i64 a1_2, .slice A1_3 l1_3.length c1_3, .slice A1_4 l1_4.length c1_4, .bool a1_5]) (t := 31) ?hr ?_; (case hd => rfl); (case hg => rfl); (case hr => first | (go_simp; done) | (go_simp; rfl)); intro gb127 hg w5 hbox hb; have n0_ := Aside0.mk (blk_below (g := gb126) (o := .cells #[.int .i64 a0_0, .string a0_1, .int .i64 a0_2, .slice A0_3 l0_3.length c0_3, .slice A0_4 l0_4.length c0_4, .bool a0_5] 31 (0, 0)) (by (with_reducible repeat (first | refine blk_drewN ?_ _ | refine blk_drew ?_ | refine blk_alloc ?_ _)); exact BK126.out) hb); have n1_ := Aside0.mk (below_step (by repeat (first | (with_reducible first | exact HB.out | apply below_alloc | apply pw_below_drewN | apply below_drew1 | refine below_set ?_ GE126.out) | exact HB.out)) hb); have n2_ := Aside0.mk (hbox); have n3_ := Aside0.mk ((by rw [hg]; exact (below_size (by repeat (first | (with_reducible first | exact HB.out | apply below_alloc | apply pw_below_drewN | apply below_drew1 | refine below_set ?_ GE126.out) | exact HB.out))) : w.heap.size ≤ gb127)); have n4_ := Aside0.mk ((by rw [hg]; exact (below_size (by repeat (first | (with_reducible first | exact HB.out | apply below_alloc | apply pw_below_drewN | apply below_drew1 | refine below_set ?_ GE126.out) | exact HB.out))) : w.heap.size ≤ gb127)); have n5_ := Aside0.mk ((by rw [hg]; exact Nat.ne_of_lt (blk_lt (g := gb126) (o := .cells #[.int .i64 a0_0, .string a0_1, .int .i64 a0_2, .slice A0_3 l0_3.length c0_3, .slice A0_4 l0_4.length c0_4, .bool a0_5] 31 (0, 0)) (by (with_reducible repeat (first | refine blk_drewN ?_ _ | refine blk_drew ?_ | refine blk_alloc ?_ _)); exact BK126.out)) : gb126 ≠ gb127)); have n6_ := Aside0.mk ((by rw [hg]; exact Nat.ne_of_gt (blk_lt (g := gb126) (o := .cells #[.int .i64 a0_0, .string a0_1, .int .i64 a0_2, .slice A0_3 l0_3.length c0_3, .slice A0_4 l0_4.length c0_4, .bool a0_5] 31 (0, 0)) (by (with_reducible repeat (first | refine blk_drewN ?_ _ | refine blk_drew ?_ | refine blk_alloc ?_ _)); exact BK126.out)) : gb127 ≠ gb126)); clear BK126; clear HB; have BK126 := n0_; have HB := n1_; have BK127 := n2_; have GW127 := n3_; have GE127 := n4_; have NB126_127 := n5_; have NB127_126 := n6_; clear n0_ n1_ n2_ n3_ n4_ n5_ n6_; clear hb hbox hg)); go_upto_region 1 with (first | ((with_reducible refine gate_dst (N := 2) rfl ?_); (try (refine gate_guard (by rfl) ?_; dsimp only)); refine box_event ?hg (N := 2) ?hd (cs := #[.int .i64 a0_0, .string a0_1, .int .i64 a0_2, .slice A0_3 l0_3.length c0_3, .slice A0_4 l0_4.length c0_4, .bool a0_5]) (t := 31) ?hr ?_; (case hd => rfl); (case hg => rfl); (case hr => first | (go_simp; done) | (go_simp; rfl)); intro gb126 hg w4 hbox hb; have n0_ := Aside0.mk (below_step (by repeat (first | (with_reducible first | exact HB.out | apply below_alloc | apply pw_below_drewN | apply below_drew1) | exact HB.out)) hb); have n1_ := Aside0.mk (hbox); have n2_ := Aside0.mk ((by rw [hg]; exact (below_size (by repeat (first | (with_reducible first | exact HB.out | apply below_alloc | apply pw_below_drewN | apply below_drew1) | exact HB.out))) : w.heap.size ≤ gb126)); have n3_ := Aside0.mk ((by rw [hg]; exact (below_size (by repeat (first | (with_reducible first | exact HB.out | apply below_alloc | apply pw_below_drewN | apply below_drew1) | exact HB.out))) : w.heap.size ≤ gb126)); clear HB; have HB := n0_; have BK126 := n1_; have GW126 := n2_; have GE126 := n3_; clear n0_ n1_ n2_ n3_; clear hb hbox hg) | ((with_reducible refine gate_dst (N := 3) rfl ?_); (try (refine gate_guard (by rfl) ?_; dsimp only)); refine box_event ?hg (N := 3) ?hd (cs := #[.int .i64 a1_0, .string a1_1, .int .i64 a1_2, .slice A1_3 l1_3.length c1_3, .slice A1_4 l1_4.length c1_4, .bool a1_5]) (t := 31) ?hr ?_; (case hd => rfl); (case hg => rfl); (case hr => first | (go_simp; done) | (go_simp; rfl)); intro gb127 hg w5 hbox hb; have n0_ := Aside0.mk (blk_below (g := gb126) (o := .cells #[.int .i64 a0_0, .string a0_1, .int .i64 a0_2, .slice A0_3 l0_3.length c0_3, .slice A0_4 l0_4.length c0_4, .bool a0_5] 31 (0, 0)) (by (with_reducible repeat (first | refine blk_drewN ?_ _ | refine blk_drew ?_ | refine blk_alloc ?_ _)); exact BK126.out) hb); have n1_ := Aside0.mk (below_step (by repeat (first | (with_reducible first | exact HB.out | apply below_alloc | apply pw_below_drewN | apply below_drew1 | refine below_set ?_ GE126.out) | exact HB.out)) hb); have n2_ := Aside0.mk (hbox); have n3_ := Aside0.mk ((by rw [hg]; exact (below_size (by repeat (first | (with_reducible first | exact HB.out | apply below_alloc | apply pw_below_drewN | apply below_drew1 | refine below_set ?_ GE126.out) | exact HB.out))) : w.heap.size ≤ gb127)); have n4_ := Aside0.mk ((by rw [hg]; exact (below_size (by repeat (first | (with_reducible first | exact HB.out | apply below_alloc | apply pw_below_drewN | apply below_drew1 | refine below_set ?_ GE126.out) | exact HB.out))) : w.heap.size ≤ gb127)); have n5_ := Aside0.mk ((by rw [hg]; exact Nat.ne_of_lt (blk_lt (g := gb126) (o := .cells #[.int .i64 a0_0, .string a0_1, .int .i64 a0_2, .slice A0_3 l0_3.length c0_3, .slice A0_4 l0_4.length c0_4, .bool a0_5] 31 (0, 0)) (by (with_reducible repeat (first | refine blk_drewN ?_ _ | refine blk_drew ?_ | refine blk_alloc ?_ _)); exact BK126.out)) : gb126 ≠ gb127)); have n6_ := Aside0.mk ((by rw [hg]; exact Nat.ne_of_gt (blk_lt (g := gb126) (o := .cells #[.int .i64 a0_0, .string a0_1, .int .i64 a0_2, .slice A0_3 l0_3.length c0_3, .slice A0_4 l0_4.length c0_4, .bool a0_5] 31 (0, 0)) (by (with_reducible repeat (first | refine blk_drewN ?_ _ | refine blk_drew ?_ | refine blk_alloc ?_ _)); exact BK126.out)) : gb127 ≠ gb126)); clear BK126; clear HB; have BK126 := n0_; have HB := n1_; have BK127 := n2_; have GW127 := n3_; have GE127 := n4_; have NB126_127 := n5_; have NB127_126 := n6_; clear n0_ n1_ n2_ n3_ n4_ n5_ n6_; clear hb hbox hg)))
 (try simp only [Act.put, List.setIfInBounds_toArray, List.set_cons_zero, List.set_cons_succ])
 go_cut [49] (fun v49 wc => ∃ (kq : Nat) (x49_2 : Bool), v49 = .bool x49_2 ∧ Aside0 (sutlerref10_Same.j0 kq x49_2 a0_0 a0_1 a0_2 l0_3 l0_4 a0_5 a1_0 a1_1 a1_2 l1_3 l1_4 a1_5 = some r) ∧ Aside0 (kq ≤ k) ∧ Aside0 (wc.heap[gb126]? = some (.cells #[.int .i64 a0_0, .string a0_1, .int .i64 a0_2, (.slice A0_3 l0_3.length c0_3), (.slice A0_4 l0_4.length c0_4), .bool a0_5] 31 (0, 0))) ∧ Aside0 (wc.heap[gb127]? = some (.cells #[.int .i64 a1_0, .string a1_1, .int .i64 a1_2, (.slice A1_3 l1_3.length c1_3), (.slice A1_4 l1_4.length c1_4), .bool a1_5] 31 (0, 0))) ∧ Aside0 (Below w.heap.size w wc))
 case first =>
  have H := HC3.out
  clear HC3
  by_cases c6 : a0_0 = a1_0
  ·rw [if_pos c6] at H
   have c6b0 : (a0_0 == a1_0) = true := beq_iff_eq.mpr c6
   have c6b1 : (a0_0 != a1_0) = false := bne_eq_false_iff_eq.mpr c6
   clear c6
   (first | rw [c6b0] | (simp only [i64_w, i32_w]; rw [c6b0]) | skip)
   by_cases c7 : a0_1.toList = a1_1.toList
   ·rw [if_pos c7] at H
    have c7b0 : (a0_1.toList == a1_1.toList) = true := beq_iff_eq.mpr c7
    have c7b1 : (a0_1.toList != a1_1.toList) = false := bne_eq_false_iff_eq.mpr c7
    clear c7
    by_cases c8 : a0_2 = a1_2
    ·rw [if_pos c8] at H
     have c8b0 : (a0_2 == a1_2) = true := beq_iff_eq.mpr c8
     have c8b1 : (a0_2 != a1_2) = false := bne_eq_false_iff_eq.mpr c8
     clear c8
     by_cases c9 : (a0_5 != a1_5) = true
     ·rw [if_pos c9] at H
      have c9b0 : (a0_5 != a1_5) = true := c9
      (try (have c9b1 : decide (a0_5 = a1_5) = false := by simpa using c9))
      (try (have c9b2 : (a0_5 == a1_5) = false := by simpa using c9))
      (try (have c9b3 : ¬ (a0_5 = a1_5) := by simpa using c9))
      clear c9
      have H' := Aside0.mk H
      clear H
      have hnb10 := NB126_127.out
      have hnc10 := NB127_126.out
      have hcz11_0 : w5.cell? ⟨gb126, 0, none⟩ = some (.int .i64 a0_0) := (blk_cell BK126.out 0).trans (by first | rfl | exact congrArg (fun b_ => some (Value.bool b_)) (Eq.symm (Aside0.out (by assumption))))
      have hcz11_1 : w5.cell? ⟨gb126, 1, none⟩ = some (.string a0_1) := (blk_cell BK126.out 1).trans (by first | rfl | exact congrArg (fun b_ => some (Value.bool b_)) (Eq.symm (Aside0.out (by assumption))))
      have hcz11_2 : w5.cell? ⟨gb126, 2, none⟩ = some (.int .i64 a0_2) := (blk_cell BK126.out 2).trans (by first | rfl | exact congrArg (fun b_ => some (Value.bool b_)) (Eq.symm (Aside0.out (by assumption))))
      have hcz11_3 : w5.cell? ⟨gb126, 3, none⟩ = some (.slice A0_3 l0_3.length c0_3) := (blk_cell BK126.out 3).trans (by first | rfl | exact congrArg (fun b_ => some (Value.bool b_)) (Eq.symm (Aside0.out (by assumption))))
      have hcz11_4 : w5.cell? ⟨gb126, 4, none⟩ = some (.slice A0_4 l0_4.length c0_4) := (blk_cell BK126.out 4).trans (by first | rfl | exact congrArg (fun b_ => some (Value.bool b_)) (Eq.symm (Aside0.out (by assumption))))
      have hcz11_5 : w5.cell? ⟨gb126, 5, none⟩ = some (.bool a0_5) := (blk_cell BK126.out 5).trans (by first | rfl | exact congrArg (fun b_ => some (Value.bool b_)) (Eq.symm (Aside0.out (by assumption))))
      have hfz11_0 := blk_frozen BK126.out 0
      have hfz11_1 := blk_frozen BK126.out 1
      have hfz11_2 := blk_frozen BK126.out 2
      have hfz11_3 := blk_frozen BK126.out 3
      have hfz11_4 := blk_frozen BK126.out 4
      have hfz11_5 := blk_frozen BK126.out 5
      have hcz12_0 : w5.cell? ⟨gb127, 0, none⟩ = some (.int .i64 a1_0) := (blk_cell BK127.out 0).trans (by first | rfl | exact congrArg (fun b_ => some (Value.bool b_)) (Eq.symm (Aside0.out (by assumption))))
      have hcz12_1 : w5.cell? ⟨gb127, 1, none⟩ = some (.string a1_1) := (blk_cell BK127.out 1).trans (by first | rfl | exact congrArg (fun b_ => some (Value.bool b_)) (Eq.symm (Aside0.out (by assumption))))
      have hcz12_2 : w5.cell? ⟨gb127, 2, none⟩ = some (.int .i64 a1_2) := (blk_cell BK127.out 2).trans (by first | rfl | exact congrArg (fun b_ => some (Value.bool b_)) (Eq.symm (Aside0.out (by assumption))))
      have hcz12_3 : w5.cell? ⟨gb127, 3, none⟩ = some (.slice A1_3 l1_3.length c1_3) := (blk_cell BK127.out 3).trans (by first | rfl | exact congrArg (fun b_ => some (Value.bool b_)) (Eq.symm (Aside0.out (by assumption))))
      have hcz12_4 : w5.cell? ⟨gb127, 4, none⟩ = some (.slice A1_4 l1_4.length c1_4) := (blk_cell BK127.out 4).trans (by first | rfl | exact congrArg (fun b_ => some (Value.bool b_)) (Eq.symm (Aside0.out (by assumption))))
      have hcz12_5 : w5.cell? ⟨gb127, 5, none⟩ = some (.bool a1_5) := (blk_cell BK127.out 5).trans (by first | rfl | exact congrArg (fun b_ => some (Value.bool b_)) (Eq.symm (Aside0.out (by assumption))))
      have hfz12_0 := blk_frozen BK127.out 0
      have hfz12_1 := blk_frozen BK127.out 1
      have hfz12_2 := blk_frozen BK127.out 2
      have hfz12_3 := blk_frozen BK127.out 3
      have hfz12_4 := blk_frozen BK127.out 4
      have hfz12_5 := blk_frozen BK127.out 5
      go_wp2
      repeat (go_quiet (fail); try go_wp2)
      go_meet
      case rel => exact ⟨_, (true), (by first | rfl | (simp; done) | (simp [*]; done) | (simp [ne_nil_]; done)), H', ⟨by first | omega | exact Nat.le_refl _⟩, ⟨by (with_reducible repeat (first | refine blk_drewN ?_ _ | refine blk_drew ?_ | refine blk_alloc ?_ _)); exact BK126.out⟩, ⟨by (with_reducible repeat (first | refine blk_drewN ?_ _ | refine blk_drew ?_ | refine blk_alloc ?_ _)); exact BK127.out⟩, ⟨by repeat (first | (with_reducible first | exact HB.out | apply below_alloc | apply pw_below_drewN | apply below_drew1 | refine below_set ?_ GE126.out | refine below_set ?_ GE127.out) | exact HB.out)⟩⟩
     ·rw [if_neg c9] at H
      have c9b0 : (a0_5 != a1_5) = false := by simpa using c9
      (try (have c9b1 : decide (a0_5 = a1_5) = true := by simpa using c9))
      (try (have c9b2 : (a0_5 == a1_5) = true := by simpa using c9))
      clear c9
      by_cases c13 : (strOfNums l0_4).toList = (strOfNums l1_4).toList
      ·rw [if_pos c13] at H
       have c13b0 : ((strOfNums l0_4).toList == (strOfNums l1_4).toList) = true := beq_iff_eq.mpr c13
       have c13b1 : ((strOfNums l0_4).toList != (strOfNums l1_4).toList) = false := bne_eq_false_iff_eq.mpr c13
       clear c13
       have H' := Aside0.mk H
       clear H
       have hnb14 := NB126_127.out
       have hnc14 := NB127_126.out
       have hcz15_0 : w5.cell? ⟨gb126, 0, none⟩ = some (.int .i64 a0_0) := (blk_cell BK126.out 0).trans (by first | rfl | exact congrArg (fun b_ => some (Value.bool b_)) (Eq.symm (Aside0.out (by assumption))))
       have hcz15_1 : w5.cell? ⟨gb126, 1, none⟩ = some (.string a0_1) := (blk_cell BK126.out 1).trans (by first | rfl | exact congrArg (fun b_ => some (Value.bool b_)) (Eq.symm (Aside0.out (by assumption))))
       have hcz15_2 : w5.cell? ⟨gb126, 2, none⟩ = some (.int .i64 a0_2) := (blk_cell BK126.out 2).trans (by first | rfl | exact congrArg (fun b_ => some (Value.bool b_)) (Eq.symm (Aside0.out (by assumption))))
       have hcz15_3 : w5.cell? ⟨gb126, 3, none⟩ = some (.slice A0_3 l0_3.length c0_3) := (blk_cell BK126.out 3).trans (by first | rfl | exact congrArg (fun b_ => some (Value.bool b_)) (Eq.symm (Aside0.out (by assumption))))
       have hcz15_4 : w5.cell? ⟨gb126, 4, none⟩ = some (.slice A0_4 l0_4.length c0_4) := (blk_cell BK126.out 4).trans (by first | rfl | exact congrArg (fun b_ => some (Value.bool b_)) (Eq.symm (Aside0.out (by assumption))))
       have hcz15_5 : w5.cell? ⟨gb126, 5, none⟩ = some (.bool a0_5) := (blk_cell BK126.out 5).trans (by first | rfl | exact congrArg (fun b_ => some (Value.bool b_)) (Eq.symm (Aside0.out (by assumption))))
       have hfz15_0 := blk_frozen BK126.out 0
       have hfz15_1 := blk_frozen BK126.out 1
       have hfz15_2 := blk_frozen BK126.out 2
       have hfz15_3 := blk_frozen BK126.out 3
       have hfz15_4 := blk_frozen BK126.out 4
       have hfz15_5 := blk_frozen BK126.out 5
       have hcz16_0 : w5.cell? ⟨gb127, 0, none⟩ = some (.int .i64 a1_0) := (blk_cell BK127.out 0).trans (by first | rfl | exact congrArg (fun b_ => some (Value.bool b_)) (Eq.symm (Aside0.out (by assumption))))
       have hcz16_1 : w5.cell? ⟨gb127, 1, none⟩ = some (.string a1_1) := (blk_cell BK127.out 1).trans (by first | rfl | exact congrArg (fun b_ => some (Value.bool b_)) (Eq.symm (Aside0.out (by assumption))))
       have hcz16_2 : w5.cell? ⟨gb127, 2, none⟩ = some (.int .i64 a1_2) := (blk_cell BK127.out 2).trans (by first | rfl | exact congrArg (fun b_ => some (Value.bool b_)) (Eq.symm (Aside0.out (by assumption))))
       have hcz16_3 : w5.cell? ⟨gb127, 3, none⟩ = some (.slice A1_3 l1_3.length c1_3) := (blk_cell BK127.out 3).trans (by first | rfl | exact congrArg (fun b_ => some (Value.bool b_)) (Eq.symm (Aside0.out (by assumption))))
       have hcz16_4 : w5.cell? ⟨gb127, 4, none⟩ = some (.slice A1_4 l1_4.length c1_4) := (blk_cell BK127.out 4).trans (by first | rfl | exact congrArg (fun b_ => some (Value.bool b_)) (Eq.symm (Aside0.out (by assumption))))
       have hcz16_5 : w5.cell? ⟨gb127, 5, none⟩ = some (.bool a1_5) := (blk_cell BK127.out 5).trans (by first | rfl | exact congrArg (fun b_ => some (Value.bool b_)) (Eq.symm (Aside0.out (by assumption))))
       have hfz16_0 := blk_frozen BK127.out 0
       have hfz16_1 := blk_frozen BK127.out 1
       have hfz16_2 := blk_frozen BK127.out 2
       have hfz16_3 := blk_frozen BK127.out 3
       have hfz16_4 := blk_frozen BK127.out 4
       have hfz16_5 := blk_frozen BK127.out 5
       have hcv17 := Kd.C_string (P := Try.prog) (A := A0_4) (c := c0_4) Try.underlying26 Try.underlying5 Try.underlying9 (Kd.C_below HR0_4.out HB.out)
       have hcv18 := Kd.C_string (P := Try.prog) (A := A1_4) (c := c1_4) Try.underlying26 Try.underlying5 Try.underlying9 (Kd.C_below HR1_4.out HB.out)
       go_wp2
       repeat (go_quiet (fail); try go_wp2)
       go_meet
       case rel => exact ⟨_, (((l0_3.length : Int) != (l1_3.length : Int))), (by first | rfl | (simp; done) | (simp [*]; done) | (simp [ne_nil_]; done)), H', ⟨by first | omega | exact Nat.le_refl _⟩, ⟨by (with_reducible repeat (first | refine blk_drewN ?_ _ | refine blk_drew ?_ | refine blk_alloc ?_ _)); exact BK126.out⟩, ⟨by (with_reducible repeat (first | refine blk_drewN ?_ _ | refine blk_drew ?_ | refine blk_alloc ?_ _)); exact BK127.out⟩, ⟨by repeat (first | (with_reducible first | exact HB.out | apply below_alloc | apply pw_below_drewN | apply below_drew1 | refine below_set ?_ GE126.out | refine below_set ?_ GE127.out) | exact HB.out)⟩⟩
      ·rw [if_neg c13] at H
       have c13b0 : ((strOfNums l0_4).toList == (strOfNums l1_4).toList) = false := beq_eq_false_iff_ne.mpr c13
       have c13b1 : ((strOfNums l0_4).toList != (strOfNums l1_4).toList) = true := bne_iff_ne.mpr c13
       have H' := Aside0.mk H
       clear H
       have hnb19 := NB126_127.out
       have hnc19 := NB127_126.out
       have hcz20_0 : w5.cell? ⟨gb126, 0, none⟩ = some (.int .i64 a0_0) := (blk_cell BK126.out 0).trans (by first | rfl | exact congrArg (fun b_ => some (Value.bool b_)) (Eq.symm (Aside0.out (by assumption))))
       have hcz20_1 : w5.cell? ⟨gb126, 1, none⟩ = some (.string a0_1) := (blk_cell BK126.out 1).trans (by first | rfl | exact congrArg (fun b_ => some (Value.bool b_)) (Eq.symm (Aside0.out (by assumption))))
       have hcz20_2 : w5.cell? ⟨gb126, 2, none⟩ = some (.int .i64 a0_2) := (blk_cell BK126.out 2).trans (by first | rfl | exact congrArg (fun b_ => some (Value.bool b_)) (Eq.symm (Aside0.out (by assumption))))
       have hcz20_3 : w5.cell? ⟨gb126, 3, none⟩ = some (.slice A0_3 l0_3.length c0_3) := (blk_cell BK126.out 3).trans (by first | rfl | exact congrArg (fun b_ => some (Value.bool b_)) (Eq.symm (Aside0.out (by assumption))))
       have hcz20_4 : w5.cell? ⟨gb126, 4, none⟩ = some (.slice A0_4 l0_4.length c0_4) := (blk_cell BK126.out 4).trans (by first | rfl | exact congrArg (fun b_ => some (Value.bool b_)) (Eq.symm (Aside0.out (by assumption))))
       have hcz20_5 : w5.cell? ⟨gb126, 5, none⟩ = some (.bool a0_5) := (blk_cell BK126.out 5).trans (by first | rfl | exact congrArg (fun b_ => some (Value.bool b_)) (Eq.symm (Aside0.out (by assumption))))
       have hfz20_0 := blk_frozen BK126.out 0
       have hfz20_1 := blk_frozen BK126.out 1
       have hfz20_2 := blk_frozen BK126.out 2
       have hfz20_3 := blk_frozen BK126.out 3
       have hfz20_4 := blk_frozen BK126.out 4
       have hfz20_5 := blk_frozen BK126.out 5
       have hcz21_0 : w5.cell? ⟨gb127, 0, none⟩ = some (.int .i64 a1_0) := (blk_cell BK127.out 0).trans (by first | rfl | exact congrArg (fun b_ => some (Value.bool b_)) (Eq.symm (Aside0.out (by assumption))))
       have hcz21_1 : w5.cell? ⟨gb127, 1, none⟩ = some (.string a1_1) := (blk_cell BK127.out 1).trans (by first | rfl | exact congrArg (fun b_ => some (Value.bool b_)) (Eq.symm (Aside0.out (by assumption))))
       have hcz21_2 : w5.cell? ⟨gb127, 2, none⟩ = some (.int .i64 a1_2) := (blk_cell BK127.out 2).trans (by first | rfl | exact congrArg (fun b_ => some (Value.bool b_)) (Eq.symm (Aside0.out (by assumption))))
       have hcz21_3 : w5.cell? ⟨gb127, 3, none⟩ = some (.slice A1_3 l1_3.length c1_3) := (blk_cell BK127.out 3).trans (by first | rfl | exact congrArg (fun b_ => some (Value.bool b_)) (Eq.symm (Aside0.out (by assumption))))
       have hcz21_4 : w5.cell? ⟨gb127, 4, none⟩ = some (.slice A1_4 l1_4.length c1_4) := (blk_cell BK127.out 4).trans (by first | rfl | exact congrArg (fun b_ => some (Value.bool b_)) (Eq.symm (Aside0.out (by assumption))))
       have hcz21_5 : w5.cell? ⟨gb127, 5, none⟩ = some (.bool a1_5) := (blk_cell BK127.out 5).trans (by first | rfl | exact congrArg (fun b_ => some (Value.bool b_)) (Eq.symm (Aside0.out (by assumption))))
       have hfz21_0 := blk_frozen BK127.out 0
       have hfz21_1 := blk_frozen BK127.out 1
       have hfz21_2 := blk_frozen BK127.out 2
       have hfz21_3 := blk_frozen BK127.out 3
       have hfz21_4 := blk_frozen BK127.out 4
       have hfz21_5 := blk_frozen BK127.out 5
       have hcv22 := Kd.C_string (P := Try.prog) (A := A0_4) (c := c0_4) Try.underlying26 Try.underlying5 Try.underlying9 (Kd.C_below HR0_4.out HB.out)
       have hcv23 := Kd.C_string (P := Try.prog) (A := A1_4) (c := c1_4) Try.underlying26 Try.underlying5 Try.underlying9 (Kd.C_below HR1_4.out HB.out)
       go_wp2
       repeat (go_quiet (fail); try go_wp2)
       go_meet
       case rel => exact ⟨_, (true), (by first | rfl | (simp; done) | (simp [*]; done) | (simp [ne_nil_]; done)), H', ⟨by first | omega | exact Nat.le_refl _⟩, ⟨by (with_reducible repeat (first | refine blk_drewN ?_ _ | refine blk_drew ?_ | refine blk_alloc ?_ _)); exact BK126.out⟩, ⟨by (with_reducible repeat (first | refine blk_drewN ?_ _ | refine blk_drew ?_ | refine blk_alloc ?_ _)); exact BK127.out⟩, ⟨by repeat (first | (with_reducible first | exact HB.out | apply below_alloc | apply pw_below_drewN | apply below_drew1 | refine below_set ?_ GE126.out | refine below_set ?_ GE127.out) | exact HB.out)⟩⟩
    ·rw [if_neg c8] at H
     have c8b0 : (a0_2 == a1_2) = false := beq_eq_false_iff_ne.mpr c8
     have c8b1 : (a0_2 != a1_2) = true := bne_iff_ne.mpr c8
     have H' := Aside0.mk H
     clear H
     have hnb24 := NB126_127.out
     have hnc24 := NB127_126.out
     have hcz25_0 : w5.cell? ⟨gb126, 0, none⟩ = some (.int .i64 a0_0) := (blk_cell BK126.out 0).trans (by first | rfl | exact congrArg (fun b_ => some (Value.bool b_)) (Eq.symm (Aside0.out (by assumption))))
     have hcz25_1 : w5.cell? ⟨gb126, 1, none⟩ = some (.string a0_1) := (blk_cell BK126.out 1).trans (by first | rfl | exact congrArg (fun b_ => some (Value.bool b_)) (Eq.symm (Aside0.out (by assumption))))
     have hcz25_2 : w5.cell? ⟨gb126, 2, none⟩ = some (.int .i64 a0_2) := (blk_cell BK126.out 2).trans (by first | rfl | exact congrArg (fun b_ => some (Value.bool b_)) (Eq.symm (Aside0.out (by assumption))))
     have hcz25_3 : w5.cell? ⟨gb126, 3, none⟩ = some (.slice A0_3 l0_3.length c0_3) := (blk_cell BK126.out 3).trans (by first | rfl | exact congrArg (fun b_ => some (Value.bool b_)) (Eq.symm (Aside0.out (by assumption))))
     have hcz25_4 : w5.cell? ⟨gb126, 4, none⟩ = some (.slice A0_4 l0_4.length c0_4) := (blk_cell BK126.out 4).trans (by first | rfl | exact congrArg (fun b_ => some (Value.bool b_)) (Eq.symm (Aside0.out (by assumption))))
     have hcz25_5 : w5.cell? ⟨gb126, 5, none⟩ = some (.bool a0_5) := (blk_cell BK126.out 5).trans (by first | rfl | exact congrArg (fun b_ => some (Value.bool b_)) (Eq.symm (Aside0.out (by assumption))))
     have hfz25_0 := blk_frozen BK126.out 0
     have hfz25_1 := blk_frozen BK126.out 1
     have hfz25_2 := blk_frozen BK126.out 2
     have hfz25_3 := blk_frozen BK126.out 3
     have hfz25_4 := blk_frozen BK126.out 4
     have hfz25_5 := blk_frozen BK126.out 5
     have hcz26_0 : w5.cell? ⟨gb127, 0, none⟩ = some (.int .i64 a1_0) := (blk_cell BK127.out 0).trans (by first | rfl | exact congrArg (fun b_ => some (Value.bool b_)) (Eq.symm (Aside0.out (by assumption))))
     have hcz26_1 : w5.cell? ⟨gb127, 1, none⟩ = some (.string a1_1) := (blk_cell BK127.out 1).trans (by first | rfl | exact congrArg (fun b_ => some (Value.bool b_)) (Eq.symm (Aside0.out (by assumption))))
     have hcz26_2 : w5.cell? ⟨gb127, 2, none⟩ = some (.int .i64 a1_2) := (blk_cell BK127.out 2).trans (by first | rfl | exact congrArg (fun b_ => some (Value.bool b_)) (Eq.symm (Aside0.out (by assumption))))
     have hcz26_3 : w5.cell? ⟨gb127, 3, none⟩ = some (.slice A1_3 l1_3.length c1_3) := (blk_cell BK127.out 3).trans (by first | rfl | exact congrArg (fun b_ => some (Value.bool b_)) (Eq.symm (Aside0.out (by assumption))))
     have hcz26_4 : w5.cell? ⟨gb127, 4, none⟩ = some (.slice A1_4 l1_4.length c1_4) := (blk_cell BK127.out 4).trans (by first | rfl | exact congrArg (fun b_ => some (Value.bool b_)) (Eq.symm (Aside0.out (by assumption))))
     have hcz26_5 : w5.cell? ⟨gb127, 5, none⟩ = some (.bool a1_5) := (blk_cell BK127.out 5).trans (by first | rfl | exact congrArg (fun b_ => some (Value.bool b_)) (Eq.symm (Aside0.out (by assumption))))
     have hfz26_0 := blk_frozen BK127.out 0
     have hfz26_1 := blk_frozen BK127.out 1
     have hfz26_2 := blk_frozen BK127.out 2
     have hfz26_3 := blk_frozen BK127.out 3
     have hfz26_4 := blk_frozen BK127.out 4
     have hfz26_5 := blk_frozen BK127.out 5
     go_wp2
     repeat (go_quiet (fail); try go_wp2)
     go_meet
     case rel => exact ⟨_, (true), (by first | rfl | (simp; done) | (simp [*]; done) | (simp [ne_nil_]; done)), H', ⟨by first | omega | exact Nat.le_refl _⟩, ⟨by (with_reducible repeat (first | refine blk_drewN ?_ _ | refine blk_drew ?_ | refine blk_alloc ?_ _)); exact BK126.out⟩, ⟨by (with_reducible repeat (first | refine blk_drewN ?_ _ | refine blk_drew ?_ | refine blk_alloc ?_ _)); exact BK127.out⟩, ⟨by repeat (first | (with_reducible first | exact HB.out | apply below_alloc | apply pw_below_drewN | apply below_drew1 | refine below_set ?_ GE126.out | refine below_set ?_ GE127.out) | exact HB.out)⟩⟩
   ·rw [if_neg c7] at H
    have c7b0 : (a0_1.toList == a1_1.toList) = false := beq_eq_false_iff_ne.mpr c7
    have c7b1 : (a0_1.toList != a1_1.toList) = true := bne_iff_ne.mpr c7
    have H' := Aside0.mk H
    clear H
    have hnb27 := NB126_127.out
    have hnc27 := NB127_126.out
    have hcz28_0 : w5.cell? ⟨gb126, 0, none⟩ = some (.int .i64 a0_0) := (blk_cell BK126.out 0).trans (by first | rfl | exact congrArg (fun b_ => some (Value.bool b_)) (Eq.symm (Aside0.out (by assumption))))
    have hcz28_1 : w5.cell? ⟨gb126, 1, none⟩ = some (.string a0_1) := (blk_cell BK126.out 1).trans (by first | rfl | exact congrArg (fun b_ => some (Value.bool b_)) (Eq.symm (Aside0.out (by assumption))))
    have hcz28_2 : w5.cell? ⟨gb126, 2, none⟩ = some (.int .i64 a0_2) := (blk_cell BK126.out 2).trans (by first | rfl | exact congrArg (fun b_ => some (Value.bool b_)) (Eq.symm (Aside0.out (by assumption))))
    have hcz28_3 : w5.cell? ⟨gb126, 3, none⟩ = some (.slice A0_3 l0_3.length c0_3) := (blk_cell BK126.out 3).trans (by first | rfl | exact congrArg (fun b_ => some (Value.bool b_)) (Eq.symm (Aside0.out (by assumption))))
    have hcz28_4 : w5.cell? ⟨gb126, 4, none⟩ = some (.slice A0_4 l0_4.length c0_4) := (blk_cell BK126.out 4).trans (by first | rfl | exact congrArg (fun b_ => some (Value.bool b_)) (Eq.symm (Aside0.out (by assumption))))
    have hcz28_5 : w5.cell? ⟨gb126, 5, none⟩ = some (.bool a0_5) := (blk_cell BK126.out 5).trans (by first | rfl | exact congrArg (fun b_ => some (Value.bool b_)) (Eq.symm (Aside0.out (by assumption))))
    have hfz28_0 := blk_frozen BK126.out 0
    have hfz28_1 := blk_frozen BK126.out 1
    have hfz28_2 := blk_frozen BK126.out 2
    have hfz28_3 := blk_frozen BK126.out 3
    have hfz28_4 := blk_frozen BK126.out 4
    have hfz28_5 := blk_frozen BK126.out 5
    have hcz29_0 : w5.cell? ⟨gb127, 0, none⟩ = some (.int .i64 a1_0) := (blk_cell BK127.out 0).trans (by first | rfl | exact congrArg (fun b_ => some (Value.bool b_)) (Eq.symm (Aside0.out (by assumption))))
    have hcz29_1 : w5.cell? ⟨gb127, 1, none⟩ = some (.string a1_1) := (blk_cell BK127.out 1).trans (by first | rfl | exact congrArg (fun b_ => some (Value.bool b_)) (Eq.symm (Aside0.out (by assumption))))
    have hcz29_2 : w5.cell? ⟨gb127, 2, none⟩ = some (.int .i64 a1_2) := (blk_cell BK127.out 2).trans (by first | rfl | exact congrArg (fun b_ => some (Value.bool b_)) (Eq.symm (Aside0.out (by assumption))))
    have hcz29_3 : w5.cell? ⟨gb127, 3, none⟩ = some (.slice A1_3 l1_3.length c1_3) := (blk_cell BK127.out 3).trans (by first | rfl | exact congrArg (fun b_ => some (Value.bool b_)) (Eq.symm (Aside0.out (by assumption))))
    have hcz29_4 : w5.cell? ⟨gb127, 4, none⟩ = some (.slice A1_4 l1_4.length c1_4) := (blk_cell BK127.out 4).trans (by first | rfl | exact congrArg (fun b_ => some (Value.bool b_)) (Eq.symm (Aside0.out (by assumption))))
    have hcz29_5 : w5.cell? ⟨gb127, 5, none⟩ = some (.bool a1_5) := (blk_cell BK127.out 5).trans (by first | rfl | exact congrArg (fun b_ => some (Value.bool b_)) (Eq.symm (Aside0.out (by assumption))))
    have hfz29_0 := blk_frozen BK127.out 0
    have hfz29_1 := blk_frozen BK127.out 1
    have hfz29_2 := blk_frozen BK127.out 2
    have hfz29_3 := blk_frozen BK127.out 3
    have hfz29_4 := blk_frozen BK127.out 4
    have hfz29_5 := blk_frozen BK127.out 5
    go_wp2
    repeat (go_quiet (fail); try go_wp2)
    go_meet
    case rel => exact ⟨_, (true), (by first | rfl | (simp; done) | (simp [*]; done) | (simp [ne_nil_]; done)), H', ⟨by first | omega | exact Nat.le_refl _⟩, ⟨by (with_reducible repeat (first | refine blk_drewN ?_ _ | refine blk_drew ?_ | refine blk_alloc ?_ _)); exact BK126.out⟩, ⟨by (with_reducible repeat (first | refine blk_drewN ?_ _ | refine blk_drew ?_ | refine blk_alloc ?_ _)); exact BK127.out⟩, ⟨by repeat (first | (with_reducible first | exact HB.out | apply below_alloc | apply pw_below_drewN | apply below_drew1 | refine below_set ?_ GE126.out | refine below_set ?_ GE127.out) | exact HB.out)⟩⟩
  ·rw [if_neg c6] at H
   have c6b0 : (a0_0 == a1_0) = false := beq_eq_false_iff_ne.mpr c6
   have c6b1 : (a0_0 != a1_0) = true := bne_iff_ne.mpr c6
   (first | rw [c6b0] | (simp only [i64_w, i32_w]; rw [c6b0]) | skip)
   have H' := Aside0.mk H
   clear H
   have hnb30 := NB126_127.out
   have hnc30 := NB127_126.out
   have hcz31_0 : w5.cell? ⟨gb126, 0, none⟩ = some (.int .i64 a0_0) := (blk_cell BK126.out 0).trans (by first | rfl | exact congrArg (fun b_ => some (Value.bool b_)) (Eq.symm (Aside0.out (by assumption))))
   have hcz31_1 : w5.cell? ⟨gb126, 1, none⟩ = some (.string a0_1) := (blk_cell BK126.out 1).trans (by first | rfl | exact congrArg (fun b_ => some (Value.bool b_)) (Eq.symm (Aside0.out (by assumption))))
   have hcz31_2 : w5.cell? ⟨gb126, 2, none⟩ = some (.int .i64 a0_2) := (blk_cell BK126.out 2).trans (by first | rfl | exact congrArg (fun b_ => some (Value.bool b_)) (Eq.symm (Aside0.out (by assumption))))
   have hcz31_3 : w5.cell? ⟨gb126, 3, none⟩ = some (.slice A0_3 l0_3.length c0_3) := (blk_cell BK126.out 3).trans (by first | rfl | exact congrArg (fun b_ => some (Value.bool b_)) (Eq.symm (Aside0.out (by assumption))))
   have hcz31_4 : w5.cell? ⟨gb126, 4, none⟩ = some (.slice A0_4 l0_4.length c0_4) := (blk_cell BK126.out 4).trans (by first | rfl | exact congrArg (fun b_ => some (Value.bool b_)) (Eq.symm (Aside0.out (by assumption))))
   have hcz31_5 : w5.cell? ⟨gb126, 5, none⟩ = some (.bool a0_5) := (blk_cell BK126.out 5).trans (by first | rfl | exact congrArg (fun b_ => some (Value.bool b_)) (Eq.symm (Aside0.out (by assumption))))
   have hfz31_0 := blk_frozen BK126.out 0
   have hfz31_1 := blk_frozen BK126.out 1
   have hfz31_2 := blk_frozen BK126.out 2
   have hfz31_3 := blk_frozen BK126.out 3
   have hfz31_4 := blk_frozen BK126.out 4
   have hfz31_5 := blk_frozen BK126.out 5
   have hcz32_0 : w5.cell? ⟨gb127, 0, none⟩ = some (.int .i64 a1_0) := (blk_cell BK127.out 0).trans (by first | rfl | exact congrArg (fun b_ => some (Value.bool b_)) (Eq.symm (Aside0.out (by assumption))))
   have hcz32_1 : w5.cell? ⟨gb127, 1, none⟩ = some (.string a1_1) := (blk_cell BK127.out 1).trans (by first | rfl | exact congrArg (fun b_ => some (Value.bool b_)) (Eq.symm (Aside0.out (by assumption))))
   have hcz32_2 : w5.cell? ⟨gb127, 2, none⟩ = some (.int .i64 a1_2) := (blk_cell BK127.out 2).trans (by first | rfl | exact congrArg (fun b_ => some (Value.bool b_)) (Eq.symm (Aside0.out (by assumption))))
   have hcz32_3 : w5.cell? ⟨gb127, 3, none⟩ = some (.slice A1_3 l1_3.length c1_3) := (blk_cell BK127.out 3).trans (by first | rfl | exact congrArg (fun b_ => some (Value.bool b_)) (Eq.symm (Aside0.out (by assumption))))
   have hcz32_4 : w5.cell? ⟨gb127, 4, none⟩ = some (.slice A1_4 l1_4.length c1_4) := (blk_cell BK127.out 4).trans (by first | rfl | exact congrArg (fun b_ => some (Value.bool b_)) (Eq.symm (Aside0.out (by assumption))))
   have hcz32_5 : w5.cell? ⟨gb127, 5, none⟩ = some (.bool a1_5) := (blk_cell BK127.out 5).trans (by first | rfl | exact congrArg (fun b_ => some (Value.bool b_)) (Eq.symm (Aside0.out (by assumption))))
   have hfz32_0 := blk_frozen BK127.out 0
   have hfz32_1 := blk_frozen BK127.out 1
   have hfz32_2 := blk_frozen BK127.out 2
   have hfz32_3 := blk_frozen BK127.out 3
   have hfz32_4 := blk_frozen BK127.out 4
   have hfz32_5 := blk_frozen BK127.out 5
   go_wp2
   repeat (go_quiet (fail); try go_wp2)
   go_meet
   case rel => exact ⟨_, (true), (by first | rfl | (simp; done) | (simp [*]; done) | (simp [ne_nil_]; done)), H', ⟨by first | omega | exact Nat.le_refl _⟩, ⟨by (with_reducible repeat (first | refine blk_drewN ?_ _ | refine blk_drew ?_ | refine blk_alloc ?_ _)); exact BK126.out⟩, ⟨by (with_reducible repeat (first | refine blk_drewN ?_ _ | refine blk_drew ?_ | refine blk_alloc ?_ _)); exact BK127.out⟩, ⟨by repeat (first | (with_reducible first | exact HB.out | apply below_alloc | apply pw_below_drewN | apply below_drew1 | refine below_set ?_ GE126.out | refine below_set ?_ GE127.out) | exact HB.out)⟩⟩
 case rest =>
  clear HC3
  try clear c1
  try clear hcv1
  try clear c2
  try clear p2
  try clear hcv2
  try clear c3
  try clear c6
  try clear c6b0
  try clear c6b1
  try clear c7
  try clear c7b0
  try clear c7b1
  try clear c8
  try clear c8b0
  try clear c8b1
  try clear c9
  try clear c9b0
  try clear c9b1
  try clear c9b2
  try clear c10
  try clear c13
  try clear c13b0
  try clear c13b1
  try clear c14
  try clear c16
  try clear hcv17
  try clear hcv18
  try clear c19
  try clear hcv22
  try clear hcv23
  try clear c24
  try clear c27
  try clear c30
  try clear hcz11_0
  try clear hcz11_1
  try clear hcz11_2
  try clear hcz11_3
  try clear hcz11_4
  try clear hcz11_5
  try clear hcz12_0
  try clear hcz12_1
  try clear hcz12_2
  try clear hcz12_3
  try clear hcz12_4
  try clear hcz12_5
  try clear hcz15_0
  try clear hcz15_1
  try clear hcz15_2
  try clear hcz15_3
  try clear hcz15_4
  try clear hcz15_5
  try clear hcz16_0
  try clear hcz16_1
  try clear hcz16_2
  try clear hcz16_3
  try clear hcz16_4
  try clear hcz16_5
  try clear hcz20_0
  try clear hcz20_1
  try clear hcz20_2
  try clear hcz20_3
  try clear hcz20_4
  try clear hcz20_5
  try clear hcz21_0
  try clear hcz21_1
  try clear hcz21_2
  try clear hcz21_3
  try clear hcz21_4
  try clear hcz21_5
  try clear hcz25_0
  try clear hcz25_1
  try clear hcz25_2
  try clear hcz25_3
  try clear hcz25_4
  try clear hcz25_5
  try clear hcz26_0
  try clear hcz26_1
  try clear hcz26_2
  try clear hcz26_3
  try clear hcz26_4
  try clear hcz26_5
  try clear hcz28_0
  try clear hcz28_1
  try clear hcz28_2
  try clear hcz28_3
  try clear hcz28_4
  try clear hcz28_5
  try clear hcz29_0
  try clear hcz29_1
  try clear hcz29_2
  try clear hcz29_3
  try clear hcz29_4
  try clear hcz29_5
  try clear hcz31_0
  try clear hcz31_1
  try clear hcz31_2
  try clear hcz31_3
  try clear hcz31_4
  try clear hcz31_5
  try clear hcz32_0
  try clear hcz32_1
  try clear hcz32_2
  try clear hcz32_3
  try clear hcz32_4
  try clear hcz32_5
  try clear hfz11_0
  try clear hfz11_1
  try clear hfz11_2
  try clear hfz11_3
  try clear hfz11_4
  try clear hfz11_5
  try clear hfz12_0
  try clear hfz12_1
  try clear hfz12_2
  try clear hfz12_3
  try clear hfz12_4
  try clear hfz12_5
  try clear hfz15_0
  try clear hfz15_1
  try clear hfz15_2
  try clear hfz15_3
  try clear hfz15_4
  try clear hfz15_5
  try clear hfz16_0
  try clear hfz16_1
  try clear hfz16_2
  try clear hfz16_3
  try clear hfz16_4
  try clear hfz16_5
  try clear hfz20_0
  try clear hfz20_1
  try clear hfz20_2
  try clear hfz20_3
  try clear hfz20_4
  try clear hfz20_5
  try clear hfz21_0
  try clear hfz21_1
  try clear hfz21_2
  try clear hfz21_3
  try clear hfz21_4
  try clear hfz21_5
  try clear hfz25_0
  try clear hfz25_1
  try clear hfz25_2
  try clear hfz25_3
  try clear hfz25_4
  try clear hfz25_5
  try clear hfz26_0
  try clear hfz26_1
  try clear hfz26_2
  try clear hfz26_3
  try clear hfz26_4
  try clear hfz26_5
  try clear hfz28_0
  try clear hfz28_1
  try clear hfz28_2
  try clear hfz28_3
  try clear hfz28_4
  try clear hfz28_5
  try clear hfz29_0
  try clear hfz29_1
  try clear hfz29_2
  try clear hfz29_3
  try clear hfz29_4
  try clear hfz29_5
  try clear hfz31_0
  try clear hfz31_1
  try clear hfz31_2
  try clear hfz31_3
  try clear hfz31_4
  try clear hfz31_5
  try clear hfz32_0
  try clear hfz32_1
  try clear hfz32_2
  try clear hfz32_3
  try clear hfz32_4
  try clear hfz32_5
  obtain ⟨kq, x49_2, rfl, HA, HJ2, BK126, BK127, HB⟩ := hcut
  cases kq with
  | zero => exact absurd HA.out (by simp [sutlerref10_Same.j0])
  | succ kj2 =>
   have H := HA.out
   clear HA
   simp only [sutlerref10_Same.j0] at H
   by_cases c33 : x49_2 = true
   ·subst c33
    have H1 : (some false) = some r := by rw [if_pos rfl] at H; exact H
    clear H
    have H := H1
    clear H1
    obtain rfl := Option.some.inj H
    go_wp2
    repeat (go_quiet (fail); try go_wp2)
    go_ret
    exact ⟨by first | rfl | (simp [errW_none, errW_some] <;> rfl) | (simp [*, errW_none, errW_some] <;> rfl), by repeat (first | (with_reducible first | exact HB.out | apply below_alloc | apply pw_below_drewN | apply below_drew1 | refine below_set ?_ GE126.out | refine below_set ?_ GE127.out) | exact HB.out)⟩
   ·replace c33 := Bool.eq_false_iff.mpr c33
    subst c33
    have H1 : (sutlerref10_Same.l0 kj2 (l0_3.length : Int) 0 a0_0 a0_1 a0_2 l0_3 l0_4 a0_5 a1_0 a1_1 a1_2 l1_3 l1_4 a1_5) = some r := by rw [if_neg (show ¬ (false = true) by decide)] at H; exact H
    clear H
    have H := H1
    clear H1
    have H' := Aside0.mk H
    clear H
    have hnb34 := NB126_127.out
    have hnc34 := NB127_126.out
    have hcz35_0 : wc.cell? ⟨gb126, 0, none⟩ = some (.int .i64 a0_0) := (blk_cell BK126.out 0).trans (by first | rfl | exact congrArg (fun b_ => some (Value.bool b_)) (Eq.symm (Aside0.out (by assumption))))
    have hcz35_1 : wc.cell? ⟨gb126, 1, none⟩ = some (.string a0_1) := (blk_cell BK126.out 1).trans (by first | rfl | exact congrArg (fun b_ => some (Value.bool b_)) (Eq.symm (Aside0.out (by assumption))))
    have hcz35_2 : wc.cell? ⟨gb126, 2, none⟩ = some (.int .i64 a0_2) := (blk_cell BK126.out 2).trans (by first | rfl | exact congrArg (fun b_ => some (Value.bool b_)) (Eq.symm (Aside0.out (by assumption))))
    have hcz35_3 : wc.cell? ⟨gb126, 3, none⟩ = some (.slice A0_3 l0_3.length c0_3) := (blk_cell BK126.out 3).trans (by first | rfl | exact congrArg (fun b_ => some (Value.bool b_)) (Eq.symm (Aside0.out (by assumption))))
    have hcz35_4 : wc.cell? ⟨gb126, 4, none⟩ = some (.slice A0_4 l0_4.length c0_4) := (blk_cell BK126.out 4).trans (by first | rfl | exact congrArg (fun b_ => some (Value.bool b_)) (Eq.symm (Aside0.out (by assumption))))
    have hcz35_5 : wc.cell? ⟨gb126, 5, none⟩ = some (.bool a0_5) := (blk_cell BK126.out 5).trans (by first | rfl | exact congrArg (fun b_ => some (Value.bool b_)) (Eq.symm (Aside0.out (by assumption))))
    have hfz35_0 := blk_frozen BK126.out 0
    have hfz35_1 := blk_frozen BK126.out 1
    have hfz35_2 := blk_frozen BK126.out 2
    have hfz35_3 := blk_frozen BK126.out 3
    have hfz35_4 := blk_frozen BK126.out 4
    have hfz35_5 := blk_frozen BK126.out 5
    go_wp2
    repeat (go_quiet (fail); try go_wp2)
    go_loopg [53] kj2 (fun kq v53 w' => ∃ (x53_2 : Int), v53 = .int .i64 x53_2 ∧ Aside0 (sutlerref10_Same.l0 kq (l0_3.length : Int) x53_2 a0_0 a0_1 a0_2 l0_3 l0_4 a0_5 a1_0 a1_1 a1_2 l1_3 l1_4 a1_5 = some r) ∧ Aside0 (kq ≤ kj2) ∧ Aside0 (w'.heap[gb126]? = some (.cells #[.int .i64 a0_0, .string a0_1, .int .i64 a0_2, (.slice A0_3 l0_3.length c0_3), (.slice A0_4 l0_4.length c0_4), .bool a0_5] 31 (0, 0))) ∧ Aside0 (w'.heap[gb127]? = some (.cells #[.int .i64 a1_0, .string a1_1, .int .i64 a1_2, (.slice A1_3 l1_3.length c1_3), (.slice A1_4 l1_4.length c1_4), .bool a1_5] 31 (0, 0))) ∧ Aside0 (Below w.heap.size w w'))
    case atStart => exact ⟨(0), (by first | rfl | (simp; done) | (simp [*]; done) | (simp [ne_nil_]; done)), H', ⟨Nat.le_refl _⟩, ⟨by (with_reducible repeat (first | refine blk_drewN ?_ _ | refine blk_drew ?_ | refine blk_alloc ?_ _)); exact BK126.out⟩, ⟨by (with_reducible repeat (first | refine blk_drewN ?_ _ | refine blk_drew ?_ | refine blk_alloc ?_ _)); exact BK127.out⟩, ⟨by repeat (first | (with_reducible first | exact HB.out | apply below_alloc | apply pw_below_drewN | apply below_drew1 | refine below_set ?_ GE126.out | refine below_set ?_ GE127.out) | exact HB.out)⟩⟩
    case round =>
     clear H'
     try clear c1
     try clear hcv1
     try clear c2
     try clear p2
     try clear hcv2
     try clear c3
     try clear c6
     try clear c6b0
     try clear c6b1
     try clear c7
     try clear c7b0
     try clear c7b1
     try clear c8
     try clear c8b0
     try clear c8b1
     try clear c9
     try clear c9b0
     try clear c9b1
     try clear c9b2
     try clear c10
     try clear c13
     try clear c13b0
     try clear c13b1
     try clear c14
     try clear c16
     try clear hcv17
     try clear hcv18
     try clear c19
     try clear hcv22
     try clear hcv23
     try clear c24
     try clear c27
     try clear c30
     try clear c33
     try clear c34
     try clear hcz11_0
     try clear hcz11_1
     try clear hcz11_2
     try clear hcz11_3
     try clear hcz11_4
     try clear hcz11_5
     try clear hcz12_0
     try clear hcz12_1
     try clear hcz12_2
     try clear hcz12_3
     try clear hcz12_4
     try clear hcz12_5
     try clear hcz15_0
     try clear hcz15_1
     try clear hcz15_2
     try clear hcz15_3
     try clear hcz15_4
     try clear hcz15_5
     try clear hcz16_0
     try clear hcz16_1
     try clear hcz16_2
     try clear hcz16_3
     try clear hcz16_4
     try clear hcz16_5
     try clear hcz20_0
     try clear hcz20_1
     try clear hcz20_2
     try clear hcz20_3
     try clear hcz20_4
     try clear hcz20_5
     try clear hcz21_0
     try clear hcz21_1
     try clear hcz21_2
     try clear hcz21_3
     try clear hcz21_4
     try clear hcz21_5
     try clear hcz25_0
     try clear hcz25_1
     try clear hcz25_2
     try clear hcz25_3
     try clear hcz25_4
     try clear hcz25_5
     try clear hcz26_0
     try clear hcz26_1
     try clear hcz26_2
     try clear hcz26_3
     try clear hcz26_4
     try clear hcz26_5
     try clear hcz28_0
     try clear hcz28_1
     try clear hcz28_2
     try clear hcz28_3
     try clear hcz28_4
     try clear hcz28_5
     try clear hcz29_0
     try clear hcz29_1
     try clear hcz29_2
     try clear hcz29_3
     try clear hcz29_4
     try clear hcz29_5
     try clear hcz31_0
     try clear hcz31_1
     try clear hcz31_2
     try clear hcz31_3
     try clear hcz31_4
     try clear hcz31_5
     try clear hcz32_0
     try clear hcz32_1
     try clear hcz32_2
     try clear hcz32_3
     try clear hcz32_4
     try clear hcz32_5
     try clear hcz35_0
     try clear hcz35_1
     try clear hcz35_2
     try clear hcz35_3
     try clear hcz35_4
     try clear hcz35_5
     try clear hfz11_0
     try clear hfz11_1
     try clear hfz11_2
     try clear hfz11_3
     try clear hfz11_4
     try clear hfz11_5
     try clear hfz12_0
     try clear hfz12_1
     try clear hfz12_2
     try clear hfz12_3
     try clear hfz12_4
     try clear hfz12_5
     try clear hfz15_0
     try clear hfz15_1
     try clear hfz15_2
     try clear hfz15_3
     try clear hfz15_4
     try clear hfz15_5
     try clear hfz16_0
     try clear hfz16_1
     try clear hfz16_2
     try clear hfz16_3
     try clear hfz16_4
     try clear hfz16_5
     try clear hfz20_0
     try clear hfz20_1
     try clear hfz20_2
     try clear hfz20_3
     try clear hfz20_4
     try clear hfz20_5
     try clear hfz21_0
     try clear hfz21_1
     try clear hfz21_2
     try clear hfz21_3
     try clear hfz21_4
     try clear hfz21_5
     try clear hfz25_0
     try clear hfz25_1
     try clear hfz25_2
     try clear hfz25_3
     try clear hfz25_4
     try clear hfz25_5
     try clear hfz26_0
     try clear hfz26_1
     try clear hfz26_2
     try clear hfz26_3
     try clear hfz26_4
     try clear hfz26_5
     try clear hfz28_0
     try clear hfz28_1
     try clear hfz28_2
     try clear hfz28_3
     try clear hfz28_4
     try clear hfz28_5
     try clear hfz29_0
     try clear hfz29_1
     try clear hfz29_2
     try clear hfz29_3
     try clear hfz29_4
     try clear hfz29_5
     try clear hfz31_0
     try clear hfz31_1
     try clear hfz31_2
     try clear hfz31_3
     try clear hfz31_4
     try clear hfz31_5
     try clear hfz32_0
     try clear hfz32_1
     try clear hfz32_2
     try clear hfz32_3
     try clear hfz32_4
     try clear hfz32_5
     try clear hfz35_0
     try clear hfz35_1
     try clear hfz35_2
     try clear hfz35_3
     try clear hfz35_4
     try clear hfz35_5
     try clear p2
     obtain ⟨x53_2, rfl, HA, HK2, BK126, BK127, HB⟩ := hrel
     cases gk with
     | zero => exact absurd HA.out (by simp [sutlerref10_Same.l0])
     | succ k2 =>
      have H := HA.out
      clear HA
      simp only [sutlerref10_Same.l0] at H
      by_cases c36 : x53_2 < (l0_3.length : Int)
      ·rw [if_pos c36] at H
       have c36b0 : decide (x53_2 < (l0_3.length : Int)) = true := decide_eq_true c36
       clear c36
       by_cases c37 : 0 ≤ x53_2
       ·rw [if_pos c37] at H
        have c37b0 : decide (0 ≤ x53_2) = true := decide_eq_true c37
        clear c37
        by_cases c38 : x53_2 < (l0_3.length : Int)
        ·rw [if_pos c38] at H
         have c38b0 : decide (x53_2 < (l0_3.length : Int)) = true := decide_eq_true c38
         clear c38
         by_cases c39 : x53_2 < (l1_3.length : Int)
         ·rw [if_pos c39] at H
          have c39b0 : decide (x53_2 < (l1_3.length : Int)) = true := decide_eq_true c39
          clear c39
          by_cases c40 : (rdOf ByteArray.empty l0_3 x53_2).toList = (rdOf ByteArray.empty l1_3 x53_2).toList
          ·rw [if_pos c40] at H
           have c40b0 : ((rdOf ByteArray.empty l0_3 x53_2).toList == (rdOf ByteArray.empty l1_3 x53_2).toList) = true := beq_iff_eq.mpr c40
           have c40b1 : ((rdOf ByteArray.empty l0_3 x53_2).toList != (rdOf ByteArray.empty l1_3 x53_2).toList) = false := bne_eq_false_iff_eq.mpr c40
           clear c40
           have H' := Aside0.mk H
           clear H
           have hnb41 := NB126_127.out
           have hnc41 := NB127_126.out
           have hcz42_0 : wr.cell? ⟨gb126, 0, none⟩ = some (.int .i64 a0_0) := (blk_cell BK126.out 0).trans (by first | rfl | exact congrArg (fun b_ => some (Value.bool b_)) (Eq.symm (Aside0.out (by assumption))))
           have hcz42_1 : wr.cell? ⟨gb126, 1, none⟩ = some (.string a0_1) := (blk_cell BK126.out 1).trans (by first | rfl | exact congrArg (fun b_ => some (Value.bool b_)) (Eq.symm (Aside0.out (by assumption))))
           have hcz42_2 : wr.cell? ⟨gb126, 2, none⟩ = some (.int .i64 a0_2) := (blk_cell BK126.out 2).trans (by first | rfl | exact congrArg (fun b_ => some (Value.bool b_)) (Eq.symm (Aside0.out (by assumption))))
           have hcz42_3 : wr.cell? ⟨gb126, 3, none⟩ = some (.slice A0_3 l0_3.length c0_3) := (blk_cell BK126.out 3).trans (by first | rfl | exact congrArg (fun b_ => some (Value.bool b_)) (Eq.symm (Aside0.out (by assumption))))
           have hcz42_4 : wr.cell? ⟨gb126, 4, none⟩ = some (.slice A0_4 l0_4.length c0_4) := (blk_cell BK126.out 4).trans (by first | rfl | exact congrArg (fun b_ => some (Value.bool b_)) (Eq.symm (Aside0.out (by assumption))))
           have hcz42_5 : wr.cell? ⟨gb126, 5, none⟩ = some (.bool a0_5) := (blk_cell BK126.out 5).trans (by first | rfl | exact congrArg (fun b_ => some (Value.bool b_)) (Eq.symm (Aside0.out (by assumption))))
           have hfz42_0 := blk_frozen BK126.out 0
           have hfz42_1 := blk_frozen BK126.out 1
           have hfz42_2 := blk_frozen BK126.out 2
           have hfz42_3 := blk_frozen BK126.out 3
           have hfz42_4 := blk_frozen BK126.out 4
           have hfz42_5 := blk_frozen BK126.out 5
           have p128 : 0 ≤ (x53_2 : Int) := of_decide_eq_true (by first | (with_reducible assumption) | assumption)
           have q128 : x53_2 < (l0_3.length : Int) := of_decide_eq_true (by first | (with_reducible assumption) | assumption)
           obtain ⟨ad128, e128, hx128_0⟩ := Kd.at_string HR0_3.out x53_2 p128 q128
           cases e128
           replace hx128_0 := (HB.out.cell (World.block_lt_of_cell? w _ hx128_0)).trans hx128_0
           replace p128 := eq_true p128
           replace q128 := eq_true q128
           have hcz43_0 : wr.cell? ⟨gb127, 0, none⟩ = some (.int .i64 a1_0) := (blk_cell BK127.out 0).trans (by first | rfl | exact congrArg (fun b_ => some (Value.bool b_)) (Eq.symm (Aside0.out (by assumption))))
           have hcz43_1 : wr.cell? ⟨gb127, 1, none⟩ = some (.string a1_1) := (blk_cell BK127.out 1).trans (by first | rfl | exact congrArg (fun b_ => some (Value.bool b_)) (Eq.symm (Aside0.out (by assumption))))
           have hcz43_2 : wr.cell? ⟨gb127, 2, none⟩ = some (.int .i64 a1_2) := (blk_cell BK127.out 2).trans (by first | rfl | exact congrArg (fun b_ => some (Value.bool b_)) (Eq.symm (Aside0.out (by assumption))))
           have hcz43_3 : wr.cell? ⟨gb127, 3, none⟩ = some (.slice A1_3 l1_3.length c1_3) := (blk_cell BK127.out 3).trans (by first | rfl | exact congrArg (fun b_ => some (Value.bool b_)) (Eq.symm (Aside0.out (by assumption))))
           have hcz43_4 : wr.cell? ⟨gb127, 4, none⟩ = some (.slice A1_4 l1_4.length c1_4) := (blk_cell BK127.out 4).trans (by first | rfl | exact congrArg (fun b_ => some (Value.bool b_)) (Eq.symm (Aside0.out (by assumption))))
           have hcz43_5 : wr.cell? ⟨gb127, 5, none⟩ = some (.bool a1_5) := (blk_cell BK127.out 5).trans (by first | rfl | exact congrArg (fun b_ => some (Value.bool b_)) (Eq.symm (Aside0.out (by assumption))))
           have hfz43_0 := blk_frozen BK127.out 0
           have hfz43_1 := blk_frozen BK127.out 1
           have hfz43_2 := blk_frozen BK127.out 2
           have hfz43_3 := blk_frozen BK127.out 3
           have hfz43_4 := blk_frozen BK127.out 4
           have hfz43_5 := blk_frozen BK127.out 5
           have p129 : 0 ≤ (x53_2 : Int) := of_decide_eq_true (by first | (with_reducible assumption) | assumption)
           have q129 : x53_2 < (l1_3.length : Int) := of_decide_eq_true (by first | (with_reducible assumption) | assumption)
           obtain ⟨ad129, e129, hx129_0⟩ := Kd.at_string HR1_3.out x53_2 p129 q129
           cases e129
           replace hx129_0 := (HB.out.cell (World.block_lt_of_cell? w _ hx129_0)).trans hx129_0
           replace p129 := eq_true p129
           replace q129 := eq_true q129
           go_wp2
           repeat (go_quiet (fail); try go_wp2)
           go_roundg k2
           case measure => have := HJ2.out; have := HK2.out; omega
           case rel => exact ⟨(wrap64 (x53_2 + 1)), (by first | rfl | (simp; done) | (simp [*]; done) | (simp [ne_nil_]; done)), H', ⟨by have := HJ2.out; have := HK2.out; omega⟩, ⟨by (with_reducible repeat (first | refine blk_drewN ?_ _ | refine blk_drew ?_ | refine blk_alloc ?_ _)); exact BK126.out⟩, ⟨by (with_reducible repeat (first | refine blk_drewN ?_ _ | refine blk_drew ?_ | refine blk_alloc ?_ _)); exact BK127.out⟩, ⟨by repeat (first | (with_reducible first | exact HB.out | apply below_alloc | apply pw_below_drewN | apply below_drew1 | refine below_set ?_ GE126.out | refine below_set ?_ GE127.out) | exact HB.out)⟩⟩
          ·rw [if_neg c40] at H
           have c40b0 : ((rdOf ByteArray.empty l0_3 x53_2).toList == (rdOf ByteArray.empty l1_3 x53_2).toList) = false := beq_eq_false_iff_ne.mpr c40
           have c40b1 : ((rdOf ByteArray.empty l0_3 x53_2).toList != (rdOf ByteArray.empty l1_3 x53_2).toList) = true := bne_iff_ne.mpr c40
           obtain rfl := Option.some.inj H
           have hnb44 := NB126_127.out
           have hnc44 := NB127_126.out
           have hcz45_0 : wr.cell? ⟨gb126, 0, none⟩ = some (.int .i64 a0_0) := (blk_cell BK126.out 0).trans (by first | rfl | exact congrArg (fun b_ => some (Value.bool b_)) (Eq.symm (Aside0.out (by assumption))))
           have hcz45_1 : wr.cell? ⟨gb126, 1, none⟩ = some (.string a0_1) := (blk_cell BK126.out 1).trans (by first | rfl | exact congrArg (fun b_ => some (Value.bool b_)) (Eq.symm (Aside0.out (by assumption))))
           have hcz45_2 : wr.cell? ⟨gb126, 2, none⟩ = some (.int .i64 a0_2) := (blk_cell BK126.out 2).trans (by first | rfl | exact congrArg (fun b_ => some (Value.bool b_)) (Eq.symm (Aside0.out (by assumption))))
           have hcz45_3 : wr.cell? ⟨gb126, 3, none⟩ = some (.slice A0_3 l0_3.length c0_3) := (blk_cell BK126.out 3).trans (by first | rfl | exact congrArg (fun b_ => some (Value.bool b_)) (Eq.symm (Aside0.out (by assumption))))
           have hcz45_4 : wr.cell? ⟨gb126, 4, none⟩ = some (.slice A0_4 l0_4.length c0_4) := (blk_cell BK126.out 4).trans (by first | rfl | exact congrArg (fun b_ => some (Value.bool b_)) (Eq.symm (Aside0.out (by assumption))))
           have hcz45_5 : wr.cell? ⟨gb126, 5, none⟩ = some (.bool a0_5) := (blk_cell BK126.out 5).trans (by first | rfl | exact congrArg (fun b_ => some (Value.bool b_)) (Eq.symm (Aside0.out (by assumption))))
           have hfz45_0 := blk_frozen BK126.out 0
           have hfz45_1 := blk_frozen BK126.out 1
           have hfz45_2 := blk_frozen BK126.out 2
           have hfz45_3 := blk_frozen BK126.out 3
           have hfz45_4 := blk_frozen BK126.out 4
           have hfz45_5 := blk_frozen BK126.out 5
           have p128 : 0 ≤ (x53_2 : Int) := of_decide_eq_true (by first | (with_reducible assumption) | assumption)
           have q128 : x53_2 < (l0_3.length : Int) := of_decide_eq_true (by first | (with_reducible assumption) | assumption)
           obtain ⟨ad128, e128, hx128_0⟩ := Kd.at_string HR0_3.out x53_2 p128 q128
           cases e128
           replace hx128_0 := (HB.out.cell (World.block_lt_of_cell? w _ hx128_0)).trans hx128_0
           replace p128 := eq_true p128
           replace q128 := eq_true q128
           have hcz46_0 : wr.cell? ⟨gb127, 0, none⟩ = some (.int .i64 a1_0) := (blk_cell BK127.out 0).trans (by first | rfl | exact congrArg (fun b_ => some (Value.bool b_)) (Eq.symm (Aside0.out (by assumption))))
           have hcz46_1 : wr.cell? ⟨gb127, 1, none⟩ = some (.string a1_1) := (blk_cell BK127.out 1).trans (by first | rfl | exact congrArg (fun b_ => some (Value.bool b_)) (Eq.symm (Aside0.out (by assumption))))
           have hcz46_2 : wr.cell? ⟨gb127, 2, none⟩ = some (.int .i64 a1_2) := (blk_cell BK127.out 2).trans (by first | rfl | exact congrArg (fun b_ => some (Value.bool b_)) (Eq.symm (Aside0.out (by assumption))))
           have hcz46_3 : wr.cell? ⟨gb127, 3, none⟩ = some (.slice A1_3 l1_3.length c1_3) := (blk_cell BK127.out 3).trans (by first | rfl | exact congrArg (fun b_ => some (Value.bool b_)) (Eq.symm (Aside0.out (by assumption))))
           have hcz46_4 : wr.cell? ⟨gb127, 4, none⟩ = some (.slice A1_4 l1_4.length c1_4) := (blk_cell BK127.out 4).trans (by first | rfl | exact congrArg (fun b_ => some (Value.bool b_)) (Eq.symm (Aside0.out (by assumption))))
           have hcz46_5 : wr.cell? ⟨gb127, 5, none⟩ = some (.bool a1_5) := (blk_cell BK127.out 5).trans (by first | rfl | exact congrArg (fun b_ => some (Value.bool b_)) (Eq.symm (Aside0.out (by assumption))))
           have hfz46_0 := blk_frozen BK127.out 0
           have hfz46_1 := blk_frozen BK127.out 1
           have hfz46_2 := blk_frozen BK127.out 2
           have hfz46_3 := blk_frozen BK127.out 3
           have hfz46_4 := blk_frozen BK127.out 4
           have hfz46_5 := blk_frozen BK127.out 5
           have p129 : 0 ≤ (x53_2 : Int) := of_decide_eq_true (by first | (with_reducible assumption) | assumption)
           have q129 : x53_2 < (l1_3.length : Int) := of_decide_eq_true (by first | (with_reducible assumption) | assumption)
           obtain ⟨ad129, e129, hx129_0⟩ := Kd.at_string HR1_3.out x53_2 p129 q129
           cases e129
           replace hx129_0 := (HB.out.cell (World.block_lt_of_cell? w _ hx129_0)).trans hx129_0
           replace p129 := eq_true p129
           replace q129 := eq_true q129
           go_wp2
           repeat (go_quiet (fail); try go_wp2)
           go_ret
           exact ⟨by first | rfl | (simp [errW_none, errW_some] <;> rfl) | (simp [*, errW_none, errW_some] <;> rfl), by repeat (first | (with_reducible first | exact HB.out | apply below_alloc | apply pw_below_drewN | apply below_drew1 | refine below_set ?_ GE126.out | refine below_set ?_ GE127.out) | exact HB.out)⟩
         ·rw [if_neg c39] at H
          exact absurd H (by simp)
        ·rw [if_neg c38] at H
         exact absurd H (by simp)
       ·rw [if_neg c37] at H
        exact absurd H (by simp)
      ·rw [if_neg c36] at H
       have c36b0 : decide (x53_2 < (l0_3.length : Int)) = false := decide_eq_false c36
       clear c36
       obtain rfl := Option.some.inj H
       go_wp2
       repeat (go_quiet (fail); try go_wp2)
       go_ret
       exact ⟨by first | rfl | (simp [errW_none, errW_some] <;> rfl) | (simp [*, errW_none, errW_some] <;> rfl), by repeat (first | (with_reducible first | exact HB.out | apply below_alloc | apply pw_below_drewN | apply below_drew1 | refine below_set ?_ GE126.out | refine below_set ?_ GE127.out) | exact HB.out)⟩

end Go.Proofs.Ytmankbhlgjgnbaa.PAll
