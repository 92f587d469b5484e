import Derived.Test.YtmankbhlgjgnbaaETo
import Derived.Lib.SlBytesConst
namespace Go.Proofs.Ytmankbhlgjgnbaa.PAll
open Go.RowKit Go.Proofs.YtmankbhlgjgnbaaW.PrintWords Go.Proofs.YtmankbhlgjgnbaaW.PrintLast Go.Proofs.YtmankbhlgjgnbaaW.PrintMore Mem
set_option linter.unusedVariables false
set_option linter.unusedSimpArgs false
theorem C_byteM (w : World) (s : Int) (f : Nat × Nat) : (Kd.int .u8).C (w.alloc (.cells #[.int .u8 s] 5 f)) (some ⟨w.heap.size, 0, none⟩) 1 [s] := by
  refine ⟨rfl, by decide, fun _ => ⟨_, rfl, fun j q hj => ?_⟩⟩
  cases j with
  | succ j => simp at hj
  | zero =>
    obtain rfl := Option.some.inj hj
    refine ⟨[.int .u8 s], rfl, rfl, fun i u hu => ?_⟩
    cases i with
    | succ i => simp at hu
    | zero =>
      obtain rfl := Option.some.inj hu
      have hh : (w.alloc (.cells #[.int .u8 s] 5 f)).heap[w.heap.size]? = some (.cells #[.int .u8 s] 5 f) := heap_alloc_new w _
      have hcell : (w.alloc (.cells #[.int .u8 s] 5 f)).cell? ⟨w.heap.size, 0, none⟩ = some (.int .u8 s) := by
        unfold World.cell?
        dsimp only
        rw [hh]
        rfl
      exact hcell
theorem StoreE.al {w : World} {p b : Nat} {s : St} (h : StoreE w p b s) (o : Obj) : StoreE (w.alloc o) p b s := h.below (below_alloc (Below.refl _ _) o)
theorem below_al {w0 w : World} (h : Below w0.heap.size w0 w) {o : Obj} : Below w0.heap.size w0 (w.alloc o) := below_alloc h o
def Xn : ByteArray := ⟨#[120]⟩
def Lf : ByteArray := ⟨#[108, 105, 102, 101]⟩
def s0 : St := ⟨[], 0⟩
def s1 : St := ⟨[((1, Xn), ⟨1, Xn, 1, [], [97], false⟩)], 1⟩
def s2 : St := ⟨[((1, Xn), ⟨1, Xn, 2, [], [99], false⟩)], 2⟩
def s3 : St := ⟨[((1, Xn), ⟨1, Xn, 3, [Lf], [99], false⟩)], 3⟩
def s4 : St := ⟨[((1, Xn), ⟨1, Xn, 4, [Lf], [99], true⟩)], 4⟩
def s5 : St := ⟨[], 5⟩
theorem srt0 (s : St) (h : s.L = []) : StSrt s := fun q hq => by rw [h] at hq; cases hq
theorem fits0 (s : St) (h : s.L = []) : StFits s := fun q hq => by rw [h] at hq; cases hq
theorem srt_s2 : StSrt s2 := fun q hq => by
  obtain rfl := List.mem_singleton.1 hq
  exact ⟨List.Pairwise.nil, by decide⟩
theorem srt_s4 : StSrt s4 := fun q hq => by
  obtain rfl := List.mem_singleton.1 hq
  exact ⟨List.pairwise_singleton _ _, by decide⟩
set_option maxHeartbeats 1000000 in
set_option maxRecDepth 100000 in
theorem live.calls (w : World) : Calls Try.prog 7 #[] w fun e w' => e = .returned (.bool true) ∧ Below w.heap.size w w' := by
  have kc := fun (w : World) (C : Array Value) (n c : Nat) => Lib.run_convert_bytes_const (P := Try.prog) w 26 5 C n c Try.underlying26 Try.underlying5
  have v1 : createV s0 1 Xn [97] = ((1, 0), s1) := by kernel_rfl
  have v2 : createV s1 1 Xn [98] = ((0, 6), s1) := by kernel_rfl
  have v3 : updateV s1 1 Xn 1 [99] = ((2, 0), s2) := by kernel_rfl
  have v4 : updateV s2 1 Xn 1 [100] = ((0, 100), s2) := by kernel_rfl
  have v5 : holdV s2 1 Xn Lf = (0, s3) := by kernel_rfl
  have v6 : deleteV s3 1 Xn 3 = (0, s4) := by kernel_rfl
  have v7 : deleteV s4 1 Xn 4 = (101, s4) := by kernel_rfl
  have v8 : releaseV s4 1 Xn Lf = (0, s5) := by kernel_rfl
  have v9 : getV s5 (1, Xn) = (noPI, 5) := by kernel_rfl
  go_enter Try.func7, Try.ntmps7
  go_wp2_with (first
    | (go_at_call 8; refine (New.calls _).mono ?_; rintro e wa ⟨p, b, rfl, hp, hb, hs, hbl⟩
       have HP := Aside0.mk hp; have HQ := Aside0.mk hb; have HE0 : Aside0 (StoreE wa p b s0) := Aside0.mk ⟨[], hs, rfl⟩; have HB0 := Aside0.mk hbl; clear hp hb hs hbl)
    | (go_at_call 11; (with_reducible refine (id ?_ : Calls _ _ _ (World.alloc wa _) _)); refine (Create.to (some ⟨_, 0, none⟩) 1 [97] (HE0.out.al _) (by decide) (by decide) (C_byteM _ _ _) (Nat.le_refl 1) v1).mono ?_; rintro e w2 ⟨rfl, he, hc⟩
       have HE2 := Aside0.mk he; have HB2 := Aside0.mk (hc.below (below_al HB0.out) (below_al HB0.out).size HP.out HQ.out); clear he hc)
    | (go_at_call 11; (with_reducible refine (id ?_ : Calls _ _ _ (World.alloc w2 _) _)); refine (Create.to (some ⟨_, 0, none⟩) 1 [98] (HE2.out.al _) (by decide) (by decide) (C_byteM _ _ _) (Nat.le_refl 1) v2).mono ?_; rintro e w4 ⟨rfl, he, hc⟩
       have HE4 := Aside0.mk he; have HB4 := Aside0.mk (hc.below (below_al HB2.out) (below_al HB2.out).size HP.out HQ.out); clear he hc)
    | (go_at_call 12; (with_reducible refine (id ?_ : Calls _ _ _ (World.alloc w4 _) _)); refine (Update.to (some ⟨_, 0, none⟩) 1 [99] (HE4.out.al _) (by decide) (by decide) (C_byteM _ _ _) (Nat.le_refl 1) v3).mono ?_; rintro e w6 ⟨rfl, he, hc⟩
       have HE6 := Aside0.mk he; have HB6 := Aside0.mk (hc.below (below_al HB4.out) (below_al HB4.out).size HP.out HQ.out); clear he hc)
    | (go_at_call 12; (with_reducible refine (id ?_ : Calls _ _ _ (World.alloc w6 _) _)); refine (Update.to (some ⟨_, 0, none⟩) 1 [100] (HE6.out.al _) (by decide) (by decide) (C_byteM _ _ _) (Nat.le_refl 1) v4).mono ?_; rintro e w8 ⟨rfl, he, hc⟩
       have HE8 := Aside0.mk he; have HB8 := Aside0.mk (hc.below (below_al HB6.out) (below_al HB6.out).size HP.out HQ.out); clear he hc)
    | (go_at_call 13; refine (Hold.to HE8.out srt_s2 (by decide) (by decide) v5).mono ?_; rintro e w9 ⟨rfl, he, hc⟩
       have HE9 := Aside0.mk he; have HB9 := Aside0.mk (hc.below HB8.out HB8.out.size HP.out HQ.out); clear he hc)
    | (go_at_call 14; (with_reducible refine (id ?_ : Calls _ _ _ w9 _)); refine (Delete.to HE9.out (by decide) (by decide) v6).mono ?_; rintro e w10 ⟨rfl, he, hc⟩
       have HE10 := Aside0.mk he; have HB10 := Aside0.mk (hc.below HB9.out HB9.out.size HP.out HQ.out); clear he hc)
    | (go_at_call 14; (with_reducible refine (id ?_ : Calls _ _ _ w10 _)); refine (Delete.to HE10.out (by decide) (by decide) v7).mono ?_; rintro e w11 ⟨rfl, he, hc⟩
       have HE11 := Aside0.mk he; have HB11 := Aside0.mk (hc.below HB10.out HB10.out.size HP.out HQ.out); clear he hc)
    | (go_at_call 15; refine (Release.to HE11.out srt_s4 (by decide) (by decide) v8).mono ?_; rintro e w12 ⟨rfl, he, hc⟩
       have HE12 := Aside0.mk he; have HB12 := Aside0.mk (hc.below HB11.out HB11.out.size HP.out HQ.out); clear he hc)
    | (go_at_call 9; refine (Get.to HE12.out (fits0 s5 rfl) v9).mono ?_; rintro e w13 ⟨z, rfl, hz, _, hb⟩
       have HE13 := Aside0.mk (HE12.out.below hb); have HB13 := Aside0.mk (below_then HB12.out HB12.out.size hb); clear hz hb)
    | ((with_reducible refine gate_dst (N := 14) rfl ?_); refine new_at rfl (t := 31) rfl noItem.cells (itemV noItem) (fun W => zero_item W) rfl ?_; intro g14 hg w14 hk hb
       have BK14 := Aside0.mk hk; have X14 := Aside0.mk hb; have G14 : Aside0 (w13.heap.size ≤ g14) := Aside0.mk (by omega); clear hk hb hg)
    | ((with_reducible refine gate_store (p := 14) rfl ?_); refine store_at rfl (t := 31) rfl rfl g14 0 _ 31 _ rfl rfl BK14.out z.cells rfl size_item (show (6 : Nat) ≤ 6 from Nat.le_refl 6) (cells_one _) ?_; intro w15 hk hg
       have X15 := Aside0.mk (pw_below_grown X14.out (some g14) X14.out.size hg (fun k e => by cases e; exact G14.out)); have HE15 := Aside0.mk (HE13.out.below X15.out); have HB15 := Aside0.mk (below_then HB13.out HB13.out.size X15.out); clear hk hg)
    | (go_at_call 10; refine (Writes.calls _ p s5 HE15.out.at).mono ?_; rintro e w16 ⟨rfl, rfl⟩))
  go_ret
  exact ⟨rfl, HB15.out⟩
end Go.Proofs.Ytmankbhlgjgnbaa.PAll
