import Derived.Test.YtmankbhlgjgnbaaEMeth
namespace Go.Proofs.Ytmankbhlgjgnbaa.PAll
open Go.RowKit Go.Proofs.YtmankbhlgjgnbaaW.PrintWords Go.Proofs.YtmankbhlgjgnbaaW.PrintLast Go.Proofs.YtmankbhlgjgnbaaW.PrintMore Mem
set_option linter.unusedVariables false
set_option linter.unusedSimpArgs false
def deleteV (s : St) (kind : Int) (nm : ByteArray) (v : Int) : Int × St :=
  match findV s (kind, nm) v with
  | (x, e) => if e ≠ 0 then (e, s) else if x.going = true then (101, s) else if x.H.length = 0 then (0, ⟨delM eqKey (x.kind, x.name) s.L, s.n + 1⟩)
    else (0, ⟨putM eqKey (x.kind, x.name) { x with ver := s.n + 1, going := true } s.L, s.n + 1⟩)
set_option maxHeartbeats 4000000 in
theorem Delete.calls2 (w : World) (p b : Nat) (Lc : List (Key × CI)) (s : St) (kind : Int) (nm : ByteArray) (v : Int) (hB : StoreB w p b Lc s.n) (hL : erase Lc = s.L) (hn0 : 0 ≤ s.n) (hn1 : s.n < 1000000000) :
    Calls Try.prog 14 #[ptrV p, .int .i64 kind, .string nm, .int .i64 v] w fun e w' => e = .returned (.int .i64 (deleteV s kind nm v).1) ∧ StoreX w w' p b Lc (deleteV s kind nm v).2 ∧ Chg w w' p b := by
  have HS := Aside0.mk hB
  have HL := Aside0.mk hL
  have hF := find.calls w p b Lc s.n kind nm v hB
  have hs : (⟨erase Lc, s.n⟩ : St) = s := by rw [hL]
  rw [hs] at hF
  unfold deleteV
  generalize hfv : findV s (kind, nm) v = fv at hF ⊢
  obtain ⟨y, er⟩ := fv
  dsimp only at hF ⊢
  have HF := Aside0.mk hF
  clear hB hL hF hs hfv
  by_cases k1 : er = 0
  · subst k1
    rw [if_neg (by decide)]
    cases hgo : y.going with
    | true =>
      rw [if_pos rfl]
      go_enter Try.func14, Try.ntmps14
      go_wp2_with (first
        | (go_at_call 29; refine HF.out.mono ?_; rintro e w0 ⟨x, rfl, hx, hxy, hb0, hq⟩
           have HB0 := Aside0.mk hb0; have HS0 := Aside0.mk (HS.out.below hb0); have HX := Aside0.mk hx; have HXY := Aside0.mk hxy; clear hx hxy hb0 hq)
        | ((with_reducible refine gate_dst (N := 9) rfl ?_); refine new_at rfl (t := 31) rfl noItem.cells (itemV noItem) (fun W => zero_item W) rfl ?_; intro g9 hg w1 hk hb
           have BK9 := Aside0.mk hk; have HB1 := Aside0.mk (below_then HB0.out HB0.out.size hb); have HS1 := Aside0.mk (HS0.out.below hb); have G9 : Aside0 (w.heap.size ≤ g9) := Aside0.mk (by have := HB0.out.size; omega); clear hk hb hg)
        | ((with_reducible refine gate_store (p := 9) rfl ?_); refine store_at rfl (t := 31) rfl rfl g9 0 _ 31 _ rfl rfl BK9.out x.cells rfl size_item (show (6 : Nat) ≤ 6 from Nat.le_refl 6) (cells_one _) ?_; intro w2 hk hg
           have BK9' : Aside0 (Blk w2 g9 x.cells 31) := Aside0.mk hk; have HB2 := Aside0.mk (pw_below_grown HB1.out (some g9) HB1.out.size hg (fun k e => by cases e; exact G9.out)); clear hk hg
           have HS2 := Aside0.mk (HS.out.below HB2.out)
           have hxg : x.going = true := by rw [← hgo, ← HXY.out]; rfl
           have c5 : w2.cell? ⟨g9, 5, none⟩ = some (.bool true) := (BK9'.out.cell 5).trans (congrArg (fun z => some (Value.bool z)) hxg)))
      go_ret
      exact ⟨rfl, ⟨Lc, HS2.out, HL.out, fun Q h _ => h⟩, Chg.of_below p b HB2.out⟩
    | false =>
      rw [if_neg (by decide)]
      by_cases k2 : y.H.length = 0
      · rw [if_pos k2]
        go_enter Try.func14, Try.ntmps14
        go_wp2_with (first
          | (go_at_call 29; refine HF.out.mono ?_; rintro e w0 ⟨x, rfl, hx, hxy, hb0, hq⟩
             have HB0 := Aside0.mk hb0; have HS0 := Aside0.mk (HS.out.below hb0); have HX := Aside0.mk hx; have HXY := Aside0.mk hxy; have HXQ := Aside0.mk (hq rfl); have HXW : Aside0 (∀ W : World, Below w.heap.size w W → RowOK W x) := Aside0.mk (fun W hb => by obtain ⟨q, h1, h2⟩ := hq rfl; rw [← h2]; exact (HS.out.rows q h1).below hb); clear hx hxy hb0 hq)
          | ((with_reducible refine gate_dst (N := 9) rfl ?_); refine new_at rfl (t := 31) rfl noItem.cells (itemV noItem) (fun W => zero_item W) rfl ?_; intro g9 hg w1 hk hb
             have BK9 := Aside0.mk hk; have HB1 := Aside0.mk (below_then HB0.out HB0.out.size hb); have HS1 := Aside0.mk (HS0.out.below hb); have G9 : Aside0 (w.heap.size ≤ g9) := Aside0.mk (by have := HB0.out.size; omega); clear hk hb hg)
          | ((with_reducible refine gate_store (p := 9) rfl ?_); refine store_at rfl (t := 31) rfl rfl g9 0 _ 31 _ rfl rfl BK9.out x.cells rfl size_item (show (6 : Nat) ≤ 6 from Nat.le_refl 6) (cells_one _) ?_; intro w2 hk hg
             have BK9' : Aside0 (Blk w2 g9 x.cells 31) := Aside0.mk hk; have HB2 := Aside0.mk (pw_below_grown HB1.out (some g9) HB1.out.size hg (fun k e => by cases e; exact G9.out)); clear hk hg
             have HS2 := Aside0.mk (HS.out.below HB2.out)
             have hxg : x.going = false := by rw [← hgo, ← HXY.out]; rfl
             have c5 : w2.cell? ⟨g9, 5, none⟩ = some (.bool false) := (BK9'.out.cell 5).trans (congrArg (fun z => some (Value.bool z)) hxg)
             have c3 : w2.cell? ⟨g9, 3, none⟩ = some (.slice x.ha x.H.length x.hc) := BK9'.out.cell 3
             have hyH : x.H.length = y.H.length := by rw [← HXY.out]; rfl
             have k2' : ((x.H.length : Int) == 0) = true := beq_iff_eq.2 (by omega))
          | (refine load_at rfl (t := 31) rfl g9 _ 31 _ rfl BK9'.out Try.underlying31 size_item ?_)
          | (go_at_call 33; refine (drop.calls _ p b Lc s.n x HS2.out (HXW.out _ HB2.out) hn0 hn1).mono ?_; rintro e w5 ⟨rfl, hs5, hc5⟩
             have HS5 := Aside0.mk hs5; have HC5 := Aside0.mk hc5; clear hs5 hc5))
        go_ret
        refine ⟨rfl, ⟨_, HS5.out, ?_, fun Q hQ hnew => rowsin_del hQ⟩, (Chg.of_below p b HB2.out).trans HC5.out⟩
        rw [del_erase, HL.out, ← HXY.out]
        rfl
      · rw [if_neg k2]
        go_enter Try.func14, Try.ntmps14
        go_wp2_with (first
          | (go_at_call 29; refine HF.out.mono ?_; rintro e w0 ⟨x, rfl, hx, hxy, hb0, hq⟩
             have HB0 := Aside0.mk hb0; have HS0 := Aside0.mk (HS.out.below hb0); have HX := Aside0.mk hx; have HXY := Aside0.mk hxy; have HXQ := Aside0.mk (hq rfl); have HXW : Aside0 (∀ W : World, Below w.heap.size w W → RowOK W x) := Aside0.mk (fun W hb => by obtain ⟨q, h1, h2⟩ := hq rfl; rw [← h2]; exact (HS.out.rows q h1).below hb); clear hx hxy hb0 hq)
          | ((with_reducible refine gate_dst (N := 9) rfl ?_); refine new_at rfl (t := 31) rfl noItem.cells (itemV noItem) (fun W => zero_item W) rfl ?_; intro g9 hg w1 hk hb
             have BK9 := Aside0.mk hk; have HB1 := Aside0.mk (below_then HB0.out HB0.out.size hb); have HS1 := Aside0.mk (HS0.out.below hb); have G9 : Aside0 (w.heap.size ≤ g9) := Aside0.mk (by have := HB0.out.size; omega); clear hk hb hg)
          | ((with_reducible refine gate_store (p := 9) rfl ?_); refine store_at rfl (t := 31) rfl rfl g9 0 _ 31 _ rfl rfl BK9.out x.cells rfl size_item (show (6 : Nat) ≤ 6 from Nat.le_refl 6) (cells_one _) ?_; intro w2 hk hg
             have BK9' : Aside0 (Blk w2 g9 x.cells 31) := Aside0.mk hk; have HB2 := Aside0.mk (pw_below_grown HB1.out (some g9) HB1.out.size hg (fun k e => by cases e; exact G9.out)); clear hk hg
             have HS2 := Aside0.mk (HS.out.below HB2.out)
             have hxg : x.going = false := by rw [← hgo, ← HXY.out]; rfl
             have c5 : w2.cell? ⟨g9, 5, none⟩ = some (.bool false) := (BK9'.out.cell 5).trans (congrArg (fun z => some (Value.bool z)) hxg)
             have c3 : w2.cell? ⟨g9, 3, none⟩ = some (.slice x.ha x.H.length x.hc) := BK9'.out.cell 3
             have hyH : x.H.length = y.H.length := by rw [← HXY.out]; rfl
             have k2' : ((x.H.length : Int) == 0) = false := beq_eq_false_iff_ne.2 (by omega))
          | ((with_reducible refine gate_store (p := 34) rfl ?_); refine store_at rfl (t := 4) rfl rfl g9 5 _ 31 _ rfl rfl BK9'.out [.bool true] rfl size_bool (show (6 : Nat) ≤ 6 by decide) (by intro u hu; rw [List.mem_singleton.1 hu]; rfl) ?_; intro w4 hk hg
             have BK4 : Aside0 (Blk w4 g9 (CI.cells ⟨x.kind, x.name, x.ver, x.ha, x.hc, x.H, x.ba, x.bc, x.B, true⟩) 31) := Aside0.mk hk; have HB4 := Aside0.mk (pw_below_grown HB2.out (some g9) HB2.out.size hg (fun k e => by cases e; exact G9.out)); clear hk hg
             have HS4 := Aside0.mk (HS.out.below HB4.out))
          | (refine load_at rfl (t := 31) rfl g9 _ 31 _ rfl BK4.out Try.underlying31 size_item ?_)
          | (go_at_call 27; refine (write.calls _ p b Lc s.n ⟨x.kind, x.name, x.ver, x.ha, x.hc, x.H, x.ba, x.bc, x.B, true⟩ HS4.out ⟨(HXW.out _ HB4.out).hr, (HXW.out _ HB4.out).hc, (HXW.out _ HB4.out).br, (HXW.out _ HB4.out).bc⟩ hn0 hn1).mono ?_; rintro e w5 ⟨rfl, hs5, hc5⟩
             have HS5 := Aside0.mk hs5; have HC5 := Aside0.mk hc5; clear hs5 hc5))
        go_ret
        refine ⟨rfl, ⟨_, HS5.out, ?_, fun Q hQ hnew => rowsin_put hQ (fun hne ad had => ?_) (fun hne ad had => ?_)⟩, (Chg.of_below p b HB4.out).trans HC5.out⟩
        · rw [put_erase, HL.out, ← HXY.out]
          rfl
        · obtain ⟨q0, h0, h1⟩ := HXQ.out
          exact (hQ q0 h0).1 (by rw [h1]; exact hne) ad (by rw [h1]; exact had)
        · obtain ⟨q0, h0, h1⟩ := HXQ.out
          exact (hQ q0 h0).2 (by rw [h1]; exact hne) ad (by rw [h1]; exact had)
  · rw [if_pos k1]
    have k1a : (er == 0) = false := beq_eq_false_iff_ne.2 k1
    have k1b : (er != 0) = true := bne_iff_ne.2 k1
    go_enter Try.func14, Try.ntmps14
    go_wp2_with (first
      | (go_at_call 29; refine HF.out.mono ?_; rintro e w0 ⟨x, rfl, hx, hxy, hb0, hq⟩
         have HB0 := Aside0.mk hb0; have HS0 := Aside0.mk (HS.out.below hb0); have HX := Aside0.mk hx; have HXY := Aside0.mk hxy; clear hx hxy hb0 hq)
      | ((with_reducible refine gate_dst (N := 9) rfl ?_); refine new_at rfl (t := 31) rfl noItem.cells (itemV noItem) (fun W => zero_item W) rfl ?_; intro g9 hg w1 hk hb
         have BK9 := Aside0.mk hk; have HB1 := Aside0.mk (below_then HB0.out HB0.out.size hb); have HS1 := Aside0.mk (HS0.out.below hb); have G9 : Aside0 (w.heap.size ≤ g9) := Aside0.mk (by have := HB0.out.size; omega); clear hk hb hg)
      | ((with_reducible refine gate_store (p := 9) rfl ?_); refine store_at rfl (t := 31) rfl rfl g9 0 _ 31 _ rfl rfl BK9.out x.cells rfl size_item (show (6 : Nat) ≤ 6 from Nat.le_refl 6) (cells_one _) ?_; intro w2 hk hg
         have BK9' : Aside0 (Blk w2 g9 x.cells 31) := Aside0.mk hk; have HB2 := Aside0.mk (pw_below_grown HB1.out (some g9) HB1.out.size hg (fun k e => by cases e; exact G9.out)); clear hk hg
         have HS2 := Aside0.mk (HS.out.below HB2.out)))
    go_ret
    exact ⟨rfl, ⟨Lc, HS2.out, HL.out, fun Q h _ => h⟩, Chg.of_below p b HB2.out⟩
theorem Delete.calls (w : World) (p b : Nat) (s : St) (kind : Int) (nm : ByteArray) (v : Int) (h : StoreE w p b s) (hn0 : 0 ≤ s.n) (hn1 : s.n < 1000000000) :
    Calls Try.prog 14 #[ptrV p, .int .i64 kind, .string nm, .int .i64 v] w fun e w' => e = .returned (.int .i64 (deleteV s kind nm v).1) ∧ StoreE w' p b (deleteV s kind nm v).2 ∧ Chg w w' p b := by
  obtain ⟨Lc, hB, hL⟩ := h
  exact (Delete.calls2 w p b Lc s kind nm v hB hL hn0 hn1).mono fun e w' ⟨h1, h2, h3⟩ => ⟨h1, h2.e, h3⟩
end Go.Proofs.Ytmankbhlgjgnbaa.PAll
