import Derived.Test.YtmankbhlgjgnbaaEFind
namespace Go.Proofs.Ytmankbhlgjgnbaa.PAll
open Go.RowKit Go.Proofs.YtmankbhlgjgnbaaW.PrintWords Go.Proofs.YtmankbhlgjgnbaaW.PrintLast Go.Proofs.YtmankbhlgjgnbaaW.PrintMore Mem
set_option linter.unusedVariables false
set_option linter.unusedSimpArgs false
def StoreE (w : World) (p b : Nat) (s : St) : Prop := ∃ Lc, StoreB w p b Lc s.n ∧ erase Lc = s.L
theorem StoreE.at {w : World} {p b : Nat} {s : St} (h : StoreE w p b s) : StoreAt w p s := let ⟨Lc, h1, h2⟩ := h; ⟨b, Lc, h1, h2⟩
theorem StoreE.below {w w' : World} {p b : Nat} {s : St} (h : StoreE w p b s) (hb : Below w.heap.size w w') : StoreE w' p b s := let ⟨Lc, h1, h2⟩ := h; ⟨Lc, h1.below hb, h2⟩
/-- The rows that the items have lie in blocks of Q. -/
def RowsIn (Lc : List (Key × CI)) (Q : Nat → Prop) : Prop := ∀ q ∈ Lc, (q.2.H ≠ [] → ∀ ad, q.2.ha = some ad → Q ad.block) ∧ (q.2.B ≠ [] → ∀ ad, q.2.ba = some ad → Q ad.block)
/-- Behind a call: the store is s'; its rows lie where they lay, or in new blocks. -/
def StoreX (w w' : World) (p b : Nat) (Lc : List (Key × CI)) (s' : St) : Prop := ∃ Lc', StoreB w' p b Lc' s'.n ∧ erase Lc' = s'.L ∧ ∀ Q : Nat → Prop, RowsIn Lc Q → (∀ k, w.heap.size ≤ k → Q k) → RowsIn Lc' Q
theorem StoreX.e {w w' : World} {p b : Nat} {Lc : List (Key × CI)} {s' : St} (h : StoreX w w' p b Lc s') : StoreE w' p b s' := let ⟨Lc', h1, h2, _⟩ := h; ⟨Lc', h1, h2⟩
theorem own_ge {α : Type} {d : Kd α} {e base : Nat} {w : World} {ok : Nat → Prop} {ad : Addr} {n c : Nat} {xs : List α} (h : d.R e w base ok (.slice (some ad) n c) xs) : base ≤ ad.block := ((Kd.R_bound h).1 ad.block rfl).2.1
theorem rowsin_put {Lc : List (Key × CI)} {Q : Nat → Prop} {k : Key} {x : CI} (h : RowsIn Lc Q) (h1 : x.H ≠ [] → ∀ ad, x.ha = some ad → Q ad.block) (h2 : x.B ≠ [] → ∀ ad, x.ba = some ad → Q ad.block) : RowsIn (putM eqKey k x Lc) Q := fun q hq => by
  rcases put_mem hq with rfl | hq
  · exact ⟨h1, h2⟩
  · exact h q hq
theorem rowsin_del {Lc : List (Key × CI)} {Q : Nat → Prop} {k : Key} (h : RowsIn Lc Q) : RowsIn (delM eqKey k Lc) Q := fun q hq => h q (del_mem hq)
theorem lookup_any {w : World} {p b : Nat} {Lc : List (Key × CI)} {n : Int} (hB : StoreB w p b Lc n) (k : Int) (nm : ByteArray) :
    (Instr.lookup 47 (.map (some b)) (.agg #[.int .i64 k, .string nm]) true).run Try.prog w = .ok (.tuple #[itemV ((lookM eqKey (k, nm) Lc).getD noItem), .bool (lookM eqKey (k, nm) Lc).isSome]) w := by
  have := run_lookM_ok key_run Try.underlying47 hB.map (k, nm) (zero_item w)
  cases hl : lookM eqKey (k, nm) Lc with
  | none => rw [hl] at this; exact this
  | some x => rw [hl] at this; exact this
theorem run_len_map {w : World} {p b : Nat} {Lc : List (Key × CI)} {n : Int} (hB : StoreB w p b Lc n) (ty : TypeId) : (Builtin.len_ #[47] ty #[.map (some b)]).run Try.prog w = .ok (.int .i64 (Lc.length : Int)) w := by
  obtain ⟨es, clock, hb, hl, _⟩ := hB.map
  have hsz : es.size = Lc.length := by
    have := congrArg List.length hl
    simpa using this
  simp [Builtin.len_, run_underlying Try.underlying47, MapKept.run_getObj_map hb, hsz, Result.andThen, goInt]
theorem erase_len (Lc : List (Key × CI)) : (erase Lc).length = Lc.length := List.length_map _
theorem look_isSome (k : Key) (Lc : List (Key × CI)) : (lookM eqKey k (erase Lc)).isSome = (lookM eqKey k Lc).isSome := by rw [look_erase]; cases lookM eqKey k Lc <;> rfl
def createV (s : St) (kind : Int) (nm : ByteArray) (B : List Int) : (Int × Int) × St :=
  if kind < 1 ∨ kind > 5 ∨ nm.size = 0 ∨ nm.size > 50 then ((0, 1), s)
  else if B.length > 4096 then ((0, 2), s)
  else if (lookM eqKey (kind, nm) s.L).isSome = true then ((0, 6), s)
  else if s.L.length ≥ 128 then ((0, 3), s)
  else ((s.n + 1, 0), ⟨putM eqKey (kind, nm) ⟨kind, nm, s.n + 1, [], B, false⟩ s.L, s.n + 1⟩)
set_option maxHeartbeats 4000000 in
theorem Create.calls2 (w : World) (p b : Nat) (Lc : List (Key × CI)) (s : St) (kind : Int) (nm : ByteArray) (A : Option Addr) (c : Nat) (B : List Int) (hB : StoreB w p b Lc s.n) (hL : erase Lc = s.L) (hn0 : 0 ≤ s.n) (hn1 : s.n < 1000000000) (hr : Kd.C (Kd.int .u8) w A B.length B) (hc : B.length ≤ c) :
    Calls Try.prog 11 #[ptrV p, .int .i64 kind, .string nm, .slice A B.length c] w fun e w' => e = .returned (.tuple #[.int .i64 (createV s kind nm B).1.1, .int .i64 (createV s kind nm B).1.2]) ∧ StoreX w w' p b Lc (createV s kind nm B).2 ∧ Chg w w' p b := by
  have HS := Aside0.mk hB
  have HL := Aside0.mk hL
  have HR := Aside0.mk hr
  have c0 : w.cell? ⟨p, 0, none⟩ = some (.map (some b)) := hB.cell0
  have hlk := lookup_any hB kind nm
  have hsome : (lookM eqKey (kind, nm) s.L).isSome = (lookM eqKey (kind, nm) Lc).isSome := by rw [← hL, look_isSome]
  have hlen0 : s.L.length = Lc.length := by rw [← hL, erase_len]
  have HB0 := Aside0.mk (Below.refl w.heap.size w)
  have HS0 := Aside0.mk hB
  generalize (lookM eqKey (kind, nm) Lc).getD noItem = y at hlk
  generalize hV : createV s kind nm B = r
  unfold createV at hV
  rw [hsome, hlen0] at hV
  generalize (lookM eqKey (kind, nm) Lc).isSome = is at hlk hV
  clear hB hL hr hsome hlen0
  by_cases k1 : kind < 1
  · rw [if_pos (.inl k1)] at hV
    subst hV
    go_enter Try.func11, Try.ntmps11
    go_wp2_with (first
      | ((with_reducible refine gate_dst (N := 10) rfl ?_); refine new_at rfl (t := 31) rfl noItem.cells (itemV noItem) (fun W => zero_item W) rfl ?_; intro g10 hg w1 hk hb
         have BK10 := Aside0.mk hk; have HB1 := Aside0.mk (below_then HB0.out HB0.out.size hb); have HS1 := Aside0.mk (HS0.out.below hb); have G10 : Aside0 (w.heap.size ≤ g10) := Aside0.mk (by have := HB0.out.size; omega); clear hk hb hg)
      | ((with_reducible refine gate_store (p := 10) rfl ?_); refine store_at rfl (t := 31) rfl rfl g10 0 _ 31 _ rfl rfl BK10.out y.cells rfl size_item (show (6 : Nat) ≤ 6 from Nat.le_refl 6) (cells_one _) ?_; intro w2 hk hg
         have BK10' : Aside0 (Blk w2 g10 y.cells 31) := Aside0.mk hk; have HB2 := Aside0.mk (pw_below_grown HB1.out (some g10) HB1.out.size hg (fun k e => by cases e; exact G10.out)); clear hk hg
         have HS2 := Aside0.mk (HS.out.below HB2.out)
         have c0' : w2.cell? ⟨p, 0, none⟩ = some (.map (some b)) := HS2.out.cell0
         have hlen := run_len_map HS2.out 3))
    go_ret2
    exact ⟨rfl, ⟨Lc, HS2.out, HL.out, fun Q h _ => h⟩, Chg.of_below p b HB2.out⟩
  · by_cases k2 : kind > 5
    · rw [if_pos (.inr (.inl k2))] at hV
      subst hV
      go_enter Try.func11, Try.ntmps11
      go_wp2_with (first
        | ((with_reducible refine gate_dst (N := 10) rfl ?_); refine new_at rfl (t := 31) rfl noItem.cells (itemV noItem) (fun W => zero_item W) rfl ?_; intro g10 hg w1 hk hb
           have BK10 := Aside0.mk hk; have HB1 := Aside0.mk (below_then HB0.out HB0.out.size hb); have HS1 := Aside0.mk (HS0.out.below hb); have G10 : Aside0 (w.heap.size ≤ g10) := Aside0.mk (by have := HB0.out.size; omega); clear hk hb hg)
        | ((with_reducible refine gate_store (p := 10) rfl ?_); refine store_at rfl (t := 31) rfl rfl g10 0 _ 31 _ rfl rfl BK10.out y.cells rfl size_item (show (6 : Nat) ≤ 6 from Nat.le_refl 6) (cells_one _) ?_; intro w2 hk hg
           have BK10' : Aside0 (Blk w2 g10 y.cells 31) := Aside0.mk hk; have HB2 := Aside0.mk (pw_below_grown HB1.out (some g10) HB1.out.size hg (fun k e => by cases e; exact G10.out)); clear hk hg
           have HS2 := Aside0.mk (HS.out.below HB2.out)
           have c0' : w2.cell? ⟨p, 0, none⟩ = some (.map (some b)) := HS2.out.cell0
           have hlen := run_len_map HS2.out 3))
      go_ret2
      exact ⟨rfl, ⟨Lc, HS2.out, HL.out, fun Q h _ => h⟩, Chg.of_below p b HB2.out⟩
    · by_cases k3 : nm.size = 0
      · rw [if_pos (.inr (.inr (.inl k3)))] at hV
        subst hV
        obtain rfl : nm = ⟨#[]⟩ := ByteArray.ext (Array.eq_empty_of_size_eq_zero k3)
        go_enter Try.func11, Try.ntmps11
        go_wp2_with (first
          | ((with_reducible refine gate_dst (N := 10) rfl ?_); refine new_at rfl (t := 31) rfl noItem.cells (itemV noItem) (fun W => zero_item W) rfl ?_; intro g10 hg w1 hk hb
             have BK10 := Aside0.mk hk; have HB1 := Aside0.mk (below_then HB0.out HB0.out.size hb); have HS1 := Aside0.mk (HS0.out.below hb); have G10 : Aside0 (w.heap.size ≤ g10) := Aside0.mk (by have := HB0.out.size; omega); clear hk hb hg)
          | ((with_reducible refine gate_store (p := 10) rfl ?_); refine store_at rfl (t := 31) rfl rfl g10 0 _ 31 _ rfl rfl BK10.out y.cells rfl size_item (show (6 : Nat) ≤ 6 from Nat.le_refl 6) (cells_one _) ?_; intro w2 hk hg
             have BK10' : Aside0 (Blk w2 g10 y.cells 31) := Aside0.mk hk; have HB2 := Aside0.mk (pw_below_grown HB1.out (some g10) HB1.out.size hg (fun k e => by cases e; exact G10.out)); clear hk hg
             have HS2 := Aside0.mk (HS.out.below HB2.out)
             have c0' : w2.cell? ⟨p, 0, none⟩ = some (.map (some b)) := HS2.out.cell0
             have hlen := run_len_map HS2.out 3))
        go_ret2
        exact ⟨rfl, ⟨Lc, HS2.out, HL.out, fun Q h _ => h⟩, Chg.of_below p b HB2.out⟩
      · have ne1 : (nm.toList == []) = false := beq_eq_false_iff_ne.2 (fun e => k3 (by have h2 := congrArg List.length e; rw [ByteArray.toList_eq] at h2; simpa using h2))
        have ne2 : nm.toList.isEmpty = false := by cases hq : nm.toList with | nil => rw [hq] at ne1; cases ne1 | cons => rfl
        have ne3 : ¬ nm.toList = [] := fun e => by rw [e] at ne1; cases ne1
        have ne4 : ¬ nm = ByteArray.empty := fun e => k3 (by rw [e]; rfl)
        by_cases k4 : nm.size > 50
        · rw [if_pos (.inr (.inr (.inr k4)))] at hV
          subst hV
          have k4' : (50 : Int) < (nm.size : Int) := by omega
          go_enter Try.func11, Try.ntmps11
          go_wp2_with (first
            | ((with_reducible refine gate_dst (N := 10) rfl ?_); refine new_at rfl (t := 31) rfl noItem.cells (itemV noItem) (fun W => zero_item W) rfl ?_; intro g10 hg w1 hk hb
               have BK10 := Aside0.mk hk; have HB1 := Aside0.mk (below_then HB0.out HB0.out.size hb); have HS1 := Aside0.mk (HS0.out.below hb); have G10 : Aside0 (w.heap.size ≤ g10) := Aside0.mk (by have := HB0.out.size; omega); clear hk hb hg)
            | ((with_reducible refine gate_store (p := 10) rfl ?_); refine store_at rfl (t := 31) rfl rfl g10 0 _ 31 _ rfl rfl BK10.out y.cells rfl size_item (show (6 : Nat) ≤ 6 from Nat.le_refl 6) (cells_one _) ?_; intro w2 hk hg
               have BK10' : Aside0 (Blk w2 g10 y.cells 31) := Aside0.mk hk; have HB2 := Aside0.mk (pw_below_grown HB1.out (some g10) HB1.out.size hg (fun k e => by cases e; exact G10.out)); clear hk hg
               have HS2 := Aside0.mk (HS.out.below HB2.out)
               have c0' : w2.cell? ⟨p, 0, none⟩ = some (.map (some b)) := HS2.out.cell0
               have hlen := run_len_map HS2.out 3))
          go_ret2
          exact ⟨rfl, ⟨Lc, HS2.out, HL.out, fun Q h _ => h⟩, Chg.of_below p b HB2.out⟩
        · have k4' : ¬ (50 : Int) < (nm.size : Int) := by omega
          rw [if_neg (by omega)] at hV
          by_cases k5 : B.length > 4096
          · rw [if_pos k5] at hV
            subst hV
            have k5' : (4096 : Int) < (B.length : Int) := by omega
            go_enter Try.func11, Try.ntmps11
            go_wp2_with (first
              | ((with_reducible refine gate_dst (N := 10) rfl ?_); refine new_at rfl (t := 31) rfl noItem.cells (itemV noItem) (fun W => zero_item W) rfl ?_; intro g10 hg w1 hk hb
                 have BK10 := Aside0.mk hk; have HB1 := Aside0.mk (below_then HB0.out HB0.out.size hb); have HS1 := Aside0.mk (HS0.out.below hb); have G10 : Aside0 (w.heap.size ≤ g10) := Aside0.mk (by have := HB0.out.size; omega); clear hk hb hg)
              | ((with_reducible refine gate_store (p := 10) rfl ?_); refine store_at rfl (t := 31) rfl rfl g10 0 _ 31 _ rfl rfl BK10.out y.cells rfl size_item (show (6 : Nat) ≤ 6 from Nat.le_refl 6) (cells_one _) ?_; intro w2 hk hg
                 have BK10' : Aside0 (Blk w2 g10 y.cells 31) := Aside0.mk hk; have HB2 := Aside0.mk (pw_below_grown HB1.out (some g10) HB1.out.size hg (fun k e => by cases e; exact G10.out)); clear hk hg
                 have HS2 := Aside0.mk (HS.out.below HB2.out)
                 have c0' : w2.cell? ⟨p, 0, none⟩ = some (.map (some b)) := HS2.out.cell0
                 have hlen := run_len_map HS2.out 3))
            go_ret2
            exact ⟨rfl, ⟨Lc, HS2.out, HL.out, fun Q h _ => h⟩, Chg.of_below p b HB2.out⟩
          · have k5' : ¬ (4096 : Int) < (B.length : Int) := by omega
            rw [if_neg k5] at hV
            cases is with
            | true =>
              rw [if_pos rfl] at hV
              subst hV
              go_enter Try.func11, Try.ntmps11
              go_wp2_with (first
                | ((with_reducible refine gate_dst (N := 10) rfl ?_); refine new_at rfl (t := 31) rfl noItem.cells (itemV noItem) (fun W => zero_item W) rfl ?_; intro g10 hg w1 hk hb
                   have BK10 := Aside0.mk hk; have HB1 := Aside0.mk (below_then HB0.out HB0.out.size hb); have HS1 := Aside0.mk (HS0.out.below hb); have G10 : Aside0 (w.heap.size ≤ g10) := Aside0.mk (by have := HB0.out.size; omega); clear hk hb hg)
                | ((with_reducible refine gate_store (p := 10) rfl ?_); refine store_at rfl (t := 31) rfl rfl g10 0 _ 31 _ rfl rfl BK10.out y.cells rfl size_item (show (6 : Nat) ≤ 6 from Nat.le_refl 6) (cells_one _) ?_; intro w2 hk hg
                   have BK10' : Aside0 (Blk w2 g10 y.cells 31) := Aside0.mk hk; have HB2 := Aside0.mk (pw_below_grown HB1.out (some g10) HB1.out.size hg (fun k e => by cases e; exact G10.out)); clear hk hg
                   have HS2 := Aside0.mk (HS.out.below HB2.out)
                   have c0' : w2.cell? ⟨p, 0, none⟩ = some (.map (some b)) := HS2.out.cell0
                   have hlen := run_len_map HS2.out 3))
              go_ret2
              exact ⟨rfl, ⟨Lc, HS2.out, HL.out, fun Q h _ => h⟩, Chg.of_below p b HB2.out⟩
            | false =>
              rw [if_neg (by decide)] at hV
              by_cases k6 : Lc.length ≥ 128
              · rw [if_pos k6] at hV
                subst hV
                have k6' : (128 : Int) ≤ (Lc.length : Int) := by omega
                go_enter Try.func11, Try.ntmps11
                go_wp2_with (first
                  | ((with_reducible refine gate_dst (N := 10) rfl ?_); refine new_at rfl (t := 31) rfl noItem.cells (itemV noItem) (fun W => zero_item W) rfl ?_; intro g10 hg w1 hk hb
                     have BK10 := Aside0.mk hk; have HB1 := Aside0.mk (below_then HB0.out HB0.out.size hb); have HS1 := Aside0.mk (HS0.out.below hb); have G10 : Aside0 (w.heap.size ≤ g10) := Aside0.mk (by have := HB0.out.size; omega); clear hk hb hg)
                  | ((with_reducible refine gate_store (p := 10) rfl ?_); refine store_at rfl (t := 31) rfl rfl g10 0 _ 31 _ rfl rfl BK10.out y.cells rfl size_item (show (6 : Nat) ≤ 6 from Nat.le_refl 6) (cells_one _) ?_; intro w2 hk hg
                     have BK10' : Aside0 (Blk w2 g10 y.cells 31) := Aside0.mk hk; have HB2 := Aside0.mk (pw_below_grown HB1.out (some g10) HB1.out.size hg (fun k e => by cases e; exact G10.out)); clear hk hg
                     have HS2 := Aside0.mk (HS.out.below HB2.out)
                     have c0' : w2.cell? ⟨p, 0, none⟩ = some (.map (some b)) := HS2.out.cell0
                     have hlen := run_len_map HS2.out 3))
                go_ret2
                exact ⟨rfl, ⟨Lc, HS2.out, HL.out, fun Q h _ => h⟩, Chg.of_below p b HB2.out⟩
              · rw [if_neg k6] at hV
                subst hV
                have k6' : ¬ (128 : Int) ≤ (Lc.length : Int) := by omega
                go_enter Try.func11, Try.ntmps11
                go_wp2_with (first
                  | ((with_reducible refine gate_dst (N := 10) rfl ?_); refine new_at rfl (t := 31) rfl noItem.cells (itemV noItem) (fun W => zero_item W) rfl ?_; intro g10 hg w1 hk hb
                     have BK10 := Aside0.mk hk; have HB1 := Aside0.mk (below_then HB0.out HB0.out.size hb); have HS1 := Aside0.mk (HS0.out.below hb); have G10 : Aside0 (w.heap.size ≤ g10) := Aside0.mk (by have := HB0.out.size; omega); clear hk hb hg)
                  | ((with_reducible refine gate_store (p := 10) rfl ?_); refine store_at rfl (t := 31) rfl rfl g10 0 _ 31 _ rfl rfl BK10.out y.cells rfl size_item (show (6 : Nat) ≤ 6 from Nat.le_refl 6) (cells_one _) ?_; intro w2 hk hg
                     have BK10' : Aside0 (Blk w2 g10 y.cells 31) := Aside0.mk hk; have HB2 := Aside0.mk (pw_below_grown HB1.out (some g10) HB1.out.size hg (fun k e => by cases e; exact G10.out)); clear hk hg
                     have HS2 := Aside0.mk (HS.out.below HB2.out)
                     have c0' : w2.cell? ⟨p, 0, none⟩ = some (.map (some b)) := HS2.out.cell0
                     have hlen := run_len_map HS2.out 3)
                  | (go_at_call 28; refine (clone_bytes.calls A c B _ (Kd.C_below HR.out HB2.out) hc (by omega)).mono ?_; rintro e w3 ⟨A', c', rfl, hv3, hb3⟩
                     have HV := Aside0.mk hv3; have HB3 := Aside0.mk (below_then HB2.out HB2.out.size hb3); have HS3 := Aside0.mk (HS2.out.below hb3); clear hv3 hb3)
                  | (go_at_call 27; refine (write.calls _ p b Lc s.n ⟨kind, nm, 0, none, 0, [], A', c', B, false⟩ HS3.out ⟨Kd.C_nil _ _, Nat.le_refl _, (Kd.R_reads' HV.out).2.2, (Kd.R_reads' HV.out).2.1⟩ hn0 hn1).mono ?_; rintro e w4 ⟨rfl, hs4, hc4⟩
                     have HS4 := Aside0.mk hs4; have HC4 := Aside0.mk hc4; clear hs4 hc4))
                go_ret2
                refine ⟨rfl, ⟨_, HS4.out, ?_, fun Q hQ hnew => rowsin_put hQ (fun hne => absurd rfl hne) (fun _ ad had => ?_)⟩, (Chg.of_below p b HB3.out).trans HC4.out⟩
                · rw [put_erase, HL.out]
                  rfl
                · have had2 : A' = some ad := had
                  subst had2
                  exact hnew _ (Nat.le_trans HB2.out.size (own_ge HV.out))
theorem Create.calls (w : World) (p b : Nat) (s : St) (kind : Int) (nm : ByteArray) (A : Option Addr) (c : Nat) (B : List Int) (h : StoreE w p b s) (hn0 : 0 ≤ s.n) (hn1 : s.n < 1000000000) (hr : Kd.C (Kd.int .u8) w A B.length B) (hc : B.length ≤ c) :
    Calls Try.prog 11 #[ptrV p, .int .i64 kind, .string nm, .slice A B.length c] w fun e w' => e = .returned (.tuple #[.int .i64 (createV s kind nm B).1.1, .int .i64 (createV s kind nm B).1.2]) ∧ StoreE w' p b (createV s kind nm B).2 ∧ Chg w w' p b := by
  obtain ⟨Lc, hB, hL⟩ := h
  exact (Create.calls2 w p b Lc s kind nm A c B hB hL hn0 hn1 hr hc).mono fun e w' ⟨h1, h2, h3⟩ => ⟨h1, h2.e, h3⟩
def updateV (s : St) (kind : Int) (nm : ByteArray) (v : Int) (B : List Int) : (Int × Int) × St :=
  match findV s (kind, nm) v with
  | (x, e) => if e ≠ 0 then ((0, e), s) else if B.length > 4096 then ((0, 2), s) else if x.going = true then ((0, 101), s)
    else ((s.n + 1, 0), ⟨putM eqKey (x.kind, x.name) { x with ver := s.n + 1, B := B } s.L, s.n + 1⟩)
theorem size_slice29 : (Try.prog.info? 29).map (·.size) = some 1 := by kernel_rfl
theorem size_slice26 : (Try.prog.info? 26).map (·.size) = some 1 := by kernel_rfl
theorem size_bool : (Try.prog.info? 4).map (·.size) = some 1 := by kernel_rfl
set_option maxHeartbeats 4000000 in
theorem Update.calls2 (w : World) (p b : Nat) (Lc : List (Key × CI)) (s : St) (kind : Int) (nm : ByteArray) (v : Int) (A : Option Addr) (c : Nat) (B : List Int) (hB : StoreB w p b Lc s.n) (hL : erase Lc = s.L) (hn0 : 0 ≤ s.n) (hn1 : s.n < 1000000000) (hr : Kd.C (Kd.int .u8) w A B.length B) (hc : B.length ≤ c) :
    Calls Try.prog 12 #[ptrV p, .int .i64 kind, .string nm, .int .i64 v, .slice A B.length c] w fun e w' => e = .returned (.tuple #[.int .i64 (updateV s kind nm v B).1.1, .int .i64 (updateV s kind nm v B).1.2]) ∧ StoreX w w' p b Lc (updateV s kind nm v B).2 ∧ Chg w w' p b := by
  have HS := Aside0.mk hB
  have HL := Aside0.mk hL
  have HR := Aside0.mk hr
  have hF := find.calls w p b Lc s.n kind nm v hB
  have hs : (⟨erase Lc, s.n⟩ : St) = s := by rw [hL]
  rw [hs] at hF
  unfold updateV
  generalize hfv : findV s (kind, nm) v = fv at hF ⊢
  obtain ⟨y, er⟩ := fv
  dsimp only at hF ⊢
  have HF := Aside0.mk hF
  clear hB hL hr hF hs hfv
  by_cases k1 : er = 0
  · subst k1
    rw [if_neg (by decide)]
    by_cases k2 : B.length > 4096
    · rw [if_pos k2]
      have k2' : (4096 : Int) < (B.length : Int) := by omega
      go_enter Try.func12, Try.ntmps12
      go_wp2_with (first
        | (go_at_call 29; refine HF.out.mono ?_; rintro e w0 ⟨x, rfl, hx, hxy, hb0, hq⟩
           have HB0 := Aside0.mk hb0; have HS0 := Aside0.mk (HS.out.below hb0); have HX := Aside0.mk hx; have HXY := Aside0.mk hxy; clear hx hxy hb0 hq)
        | ((with_reducible refine gate_dst (N := 12) rfl ?_); refine new_at rfl (t := 31) rfl noItem.cells (itemV noItem) (fun W => zero_item W) rfl ?_; intro g12 hg w1 hk hb
           have BK12 := Aside0.mk hk; have HB1 := Aside0.mk (below_then HB0.out HB0.out.size hb); have HS1 := Aside0.mk (HS0.out.below hb); have G12 : Aside0 (w.heap.size ≤ g12) := Aside0.mk (by have := HB0.out.size; omega); clear hk hb hg)
        | ((with_reducible refine gate_store (p := 12) rfl ?_); refine store_at rfl (t := 31) rfl rfl g12 0 _ 31 _ rfl rfl BK12.out x.cells rfl size_item (show (6 : Nat) ≤ 6 from Nat.le_refl 6) (cells_one _) ?_; intro w2 hk hg
           have BK12' : Aside0 (Blk w2 g12 x.cells 31) := Aside0.mk hk; have HB2 := Aside0.mk (pw_below_grown HB1.out (some g12) HB1.out.size hg (fun k e => by cases e; exact G12.out)); clear hk hg
           have HS2 := Aside0.mk (HS.out.below HB2.out)
           have c5 : w2.cell? ⟨g12, 5, none⟩ = some (.bool x.going) := BK12'.out.cell 5))
      go_ret2
      exact ⟨rfl, ⟨Lc, HS2.out, HL.out, fun Q h _ => h⟩, Chg.of_below p b HB2.out⟩
    · rw [if_neg k2]
      have k2' : ¬ (4096 : Int) < (B.length : Int) := by omega
      cases hgo : y.going with
      | true =>
        rw [if_pos rfl]
        go_enter Try.func12, Try.ntmps12
        go_wp2_with (first
          | (go_at_call 29; refine HF.out.mono ?_; rintro e w0 ⟨x, rfl, hx, hxy, hb0, hq⟩
             have HB0 := Aside0.mk hb0; have HS0 := Aside0.mk (HS.out.below hb0); have HX := Aside0.mk hx; have HXY := Aside0.mk hxy; clear hx hxy hb0 hq)
          | ((with_reducible refine gate_dst (N := 12) rfl ?_); refine new_at rfl (t := 31) rfl noItem.cells (itemV noItem) (fun W => zero_item W) rfl ?_; intro g12 hg w1 hk hb
             have BK12 := Aside0.mk hk; have HB1 := Aside0.mk (below_then HB0.out HB0.out.size hb); have HS1 := Aside0.mk (HS0.out.below hb); have G12 : Aside0 (w.heap.size ≤ g12) := Aside0.mk (by have := HB0.out.size; omega); clear hk hb hg)
          | ((with_reducible refine gate_store (p := 12) rfl ?_); refine store_at rfl (t := 31) rfl rfl g12 0 _ 31 _ rfl rfl BK12.out x.cells rfl size_item (show (6 : Nat) ≤ 6 from Nat.le_refl 6) (cells_one _) ?_; intro w2 hk hg
             have BK12' : Aside0 (Blk w2 g12 x.cells 31) := Aside0.mk hk; have HB2 := Aside0.mk (pw_below_grown HB1.out (some g12) HB1.out.size hg (fun k e => by cases e; exact G12.out)); clear hk hg
             have HS2 := Aside0.mk (HS.out.below HB2.out)
             have hxg : x.going = true := by rw [← hgo, ← HXY.out]; rfl
             have c5 : w2.cell? ⟨g12, 5, none⟩ = some (.bool true) := (BK12'.out.cell 5).trans (congrArg (fun z => some (Value.bool z)) hxg)))
        go_ret2
        exact ⟨rfl, ⟨Lc, HS2.out, HL.out, fun Q h _ => h⟩, Chg.of_below p b HB2.out⟩
      | false =>
        rw [if_neg (by decide)]
        go_enter Try.func12, Try.ntmps12
        go_wp2_with (first
          | (go_at_call 29; refine HF.out.mono ?_; rintro e w0 ⟨x, rfl, hx, hxy, hb0, hq⟩
             have HB0 := Aside0.mk hb0; have HS0 := Aside0.mk (HS.out.below hb0); have HX := Aside0.mk hx; have HXY := Aside0.mk hxy; have HXQ := Aside0.mk (hq rfl); have HXW : Aside0 (∀ W : World, Below w.heap.size w W → RowOK W x) := Aside0.mk (fun W hb => by obtain ⟨q, h1, h2⟩ := hq rfl; rw [← h2]; exact (HS.out.rows q h1).below hb); clear hx hxy hb0 hq)
          | ((with_reducible refine gate_dst (N := 12) rfl ?_); refine new_at rfl (t := 31) rfl noItem.cells (itemV noItem) (fun W => zero_item W) rfl ?_; intro g12 hg w1 hk hb
             have BK12 := Aside0.mk hk; have HB1 := Aside0.mk (below_then HB0.out HB0.out.size hb); have HS1 := Aside0.mk (HS0.out.below hb); have G12 : Aside0 (w.heap.size ≤ g12) := Aside0.mk (by have := HB0.out.size; omega); clear hk hb hg)
          | ((with_reducible refine gate_store (p := 12) rfl ?_); refine store_at rfl (t := 31) rfl rfl g12 0 _ 31 _ rfl rfl BK12.out x.cells rfl size_item (show (6 : Nat) ≤ 6 from Nat.le_refl 6) (cells_one _) ?_; intro w2 hk hg
             have BK12' : Aside0 (Blk w2 g12 x.cells 31) := Aside0.mk hk; have HB2 := Aside0.mk (pw_below_grown HB1.out (some g12) HB1.out.size hg (fun k e => by cases e; exact G12.out)); clear hk hg
             have HS2 := Aside0.mk (HS.out.below HB2.out)
             have hxg : x.going = false := by rw [← hgo, ← HXY.out]; rfl
             have c5 : w2.cell? ⟨g12, 5, none⟩ = some (.bool false) := (BK12'.out.cell 5).trans (congrArg (fun z => some (Value.bool z)) hxg))
          | (go_at_call 28; refine (clone_bytes.calls A c B _ (Kd.C_below HR.out HB2.out) hc (by omega)).mono ?_; rintro e w3 ⟨A', c', rfl, hv3, hb3⟩
             have HV := Aside0.mk (R_from hv3); have HB3 := Aside0.mk (below_then HB2.out HB2.out.size hb3); have BK3 := Aside0.mk (BK12'.out.below hb3); clear hv3 hb3)
          | ((with_reducible refine gate_store (p := 35) rfl ?_); refine store_at rfl (t := 26) rfl rfl g12 4 _ 31 _ rfl rfl BK3.out [.slice A' B.length c'] rfl size_slice26 (show (5 : Nat) ≤ 6 by decide) (by intro u hu; rw [List.mem_singleton.1 hu]; rfl) ?_; intro w4 hk hg
             have BK4 : Aside0 (Blk w4 g12 (CI.cells ⟨x.kind, x.name, x.ver, x.ha, x.hc, x.H, A', c', B, false⟩) 31) := Aside0.mk (by have h : Blk w4 g12 (CI.cells ⟨x.kind, x.name, x.ver, x.ha, x.hc, x.H, A', c', B, x.going⟩) 31 := hk; rw [hxg] at h; exact h); have HB4 := Aside0.mk (pw_below_grown HB3.out (some g12) HB3.out.size hg (fun k e => by cases e; exact G12.out)); have HV4 := Aside0.mk (Kd.R_grown HV.out hg (fun k (hk : w2.heap.size ≤ k) e => by have h1 := Option.some.inj e; have h2 := BK12'.out.lt; omega)); clear hk hg
             have HS4 := Aside0.mk (HS.out.below HB4.out))
          | (refine load_at rfl (t := 31) rfl g12 _ 31 _ rfl BK4.out Try.underlying31 size_item ?_)
          | (go_at_call 27; refine (write.calls _ p b Lc s.n ⟨x.kind, x.name, x.ver, x.ha, x.hc, x.H, A', c', B, false⟩ HS4.out ⟨(HXW.out _ HB4.out).hr, (HXW.out _ HB4.out).hc, (Kd.R_reads' HV4.out).2.2, (Kd.R_reads' HV4.out).2.1⟩ hn0 hn1).mono ?_; rintro e w5 ⟨rfl, hs5, hc5⟩
             have HS5 := Aside0.mk hs5; have HC5 := Aside0.mk hc5; clear hs5 hc5))
        go_ret2
        refine ⟨rfl, ⟨_, HS5.out, ?_, fun Q hQ hnew => rowsin_put hQ (fun hne ad had => ?_) (fun _ ad had => ?_)⟩, (Chg.of_below p b HB4.out).trans HC5.out⟩
        · rw [put_erase, HL.out, ← HXY.out]
          have hxg : x.going = false := by rw [← hgo, ← HXY.out]; rfl
          unfold CI.pure
          rw [hxg]
        · obtain ⟨q0, h0, h1⟩ := HXQ.out
          exact (hQ q0 h0).1 (by rw [h1]; exact hne) ad (by rw [h1]; exact had)
        · have had2 : A' = some ad := had
          subst had2
          exact hnew _ (Nat.le_trans HB2.out.size (own_ge HV4.out))
  · rw [if_pos k1]
    have k1a : (er == 0) = false := beq_eq_false_iff_ne.2 k1
    have k1b : (er != 0) = true := bne_iff_ne.2 k1
    go_enter Try.func12, Try.ntmps12
    go_wp2_with (first
      | (go_at_call 29; refine HF.out.mono ?_; rintro e w0 ⟨x, rfl, hx, hxy, hb0, hq⟩
         have HB0 := Aside0.mk hb0; have HS0 := Aside0.mk (HS.out.below hb0); have HX := Aside0.mk hx; have HXY := Aside0.mk hxy; clear hx hxy hb0 hq)
      | ((with_reducible refine gate_dst (N := 12) rfl ?_); refine new_at rfl (t := 31) rfl noItem.cells (itemV noItem) (fun W => zero_item W) rfl ?_; intro g12 hg w1 hk hb
         have BK12 := Aside0.mk hk; have HB1 := Aside0.mk (below_then HB0.out HB0.out.size hb); have HS1 := Aside0.mk (HS0.out.below hb); have G12 : Aside0 (w.heap.size ≤ g12) := Aside0.mk (by have := HB0.out.size; omega); clear hk hb hg)
      | ((with_reducible refine gate_store (p := 12) rfl ?_); refine store_at rfl (t := 31) rfl rfl g12 0 _ 31 _ rfl rfl BK12.out x.cells rfl size_item (show (6 : Nat) ≤ 6 from Nat.le_refl 6) (cells_one _) ?_; intro w2 hk hg
         have BK12' : Aside0 (Blk w2 g12 x.cells 31) := Aside0.mk hk; have HB2 := Aside0.mk (pw_below_grown HB1.out (some g12) HB1.out.size hg (fun k e => by cases e; exact G12.out)); clear hk hg
         have HS2 := Aside0.mk (HS.out.below HB2.out)
         have c5 : w2.cell? ⟨g12, 5, none⟩ = some (.bool x.going) := BK12'.out.cell 5))
    go_ret2
    exact ⟨rfl, ⟨Lc, HS2.out, HL.out, fun Q h _ => h⟩, Chg.of_below p b HB2.out⟩
theorem Update.calls (w : World) (p b : Nat) (s : St) (kind : Int) (nm : ByteArray) (v : Int) (A : Option Addr) (c : Nat) (B : List Int) (h : StoreE w p b s) (hn0 : 0 ≤ s.n) (hn1 : s.n < 1000000000) (hr : Kd.C (Kd.int .u8) w A B.length B) (hc : B.length ≤ c) :
    Calls Try.prog 12 #[ptrV p, .int .i64 kind, .string nm, .int .i64 v, .slice A B.length c] w fun e w' => e = .returned (.tuple #[.int .i64 (updateV s kind nm v B).1.1, .int .i64 (updateV s kind nm v B).1.2]) ∧ StoreE w' p b (updateV s kind nm v B).2 ∧ Chg w w' p b := by
  obtain ⟨Lc, hB, hL⟩ := h
  exact (Update.calls2 w p b Lc s kind nm v A c B hB hL hn0 hn1 hr hc).mono fun e w' ⟨h1, h2, h3⟩ => ⟨h1, h2.e, h3⟩
end Go.Proofs.Ytmankbhlgjgnbaa.PAll
