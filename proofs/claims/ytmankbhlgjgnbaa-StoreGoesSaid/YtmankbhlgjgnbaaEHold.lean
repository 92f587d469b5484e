import Derived.Test.YtmankbhlgjgnbaaEDelete
import Derived.Test.YtmankbhlgjgnbaaEDel
import Derived.Test.YtmankbhlgjgnbaaEBs
namespace Go.Proofs.Ytmankbhlgjgnbaa.PAll
open Go.RowKit Go.Proofs.YtmankbhlgjgnbaaW.PrintWords Go.Proofs.YtmankbhlgjgnbaaW.PrintLast Go.Proofs.YtmankbhlgjgnbaaW.PrintMore Mem
set_option linter.unusedVariables false
set_option linter.unusedSimpArgs false
section
variable {ops : Array Oper} {rest : List Oper} {o : Oper} {a : Act} {Q : Exit → Act → World → Prop} {w : World}
theorem strs1_at (hgd : o.guard = none) {x : Operand} (ho : o.op = .buildSlice 29 1 #[(0, x)]) (s : ByteArray) (hx : a.eval x = .string s)
    (h : ∀ g, g = w.heap.size → ∀ w', Blk w' g [.string s] 9 → Below w.heap.size w w' → wpList Try.prog ops Q rest (a.put o.dst (.slice (some ⟨g, 0, none⟩) 1 1)) w') : wpList Try.prog ops Q (o :: rest) a w := by
  refine Kd.event_run hgd (v := .slice (some ⟨w.heap.size, 0, none⟩) 1 1) (w1 := w.alloc (.cells #[.string s] 9)) ?_ (h _ rfl _ (Blk.alloc_new w [.string s] 9) (below_alloc (Below.refl _ _) _))
  simp only [execOp, ho, List.map_toArray, List.map_cons, List.map_nil, hx]
  go_simp
end
theorem C_str1 {W : World} {g : Nat} {s : ByteArray} (h : Blk W g [.string s] 9) : Kd.string.C W (some ⟨g, 0, none⟩) 1 [s] := by
  refine ⟨rfl, by decide, fun _ => ⟨_, rfl, fun j q hj => ?_⟩⟩
  cases j with
  | succ j => simp at hj
  | zero =>
    obtain rfl := Option.some.inj hj
    refine ⟨[.string s], rfl, rfl, fun i u hu => ?_⟩
    have := h.cell i
    cases i with
    | succ i => simp at hu
    | zero => exact this.trans hu
theorem insert_ins (l : List ByteArray) (who : ByteArray) (p : Nat) (hP : TPos l who p) (hl : l.length ≤ 1000) (A : Option Addr) (c : Nat) (g : Nat) (w0 w1 w : World) (hB : Below w0.heap.size w0 w) (h1 : w1.heap.size ≤ g)
    (ho : Kd.R Kd.string 9 w w0.heap.size (fun k => k < w1.heap.size) (.slice A l.length c) l) (hg : Blk w g [.string who] 9) :
    Calls Try.prog 31 #[.slice A l.length c, .int .i64 (p : Int), .slice (some ⟨g, 0, none⟩) 1 1] w fun e w' => ∃ A' c', e = .returned (.slice A' (insS who l).length c') ∧ Kd.R Kd.string 9 w' w0.heap.size (fun k => w0.heap.size ≤ k) (.slice A' (insS who l).length c') (insS who l) ∧ Below w0.heap.size w0 w' := by
  have hf : insert_strs.f l (p : Int) [who] = some (insS who l) := by
    unfold insert_strs.f
    have := hP.le
    rw [if_pos ⟨by omega, by omega, rfl, by omega⟩, Int.toNat_natCast, insS_at l who p hP]
  refine (insert_strs.calls (fun k => k < w1.heap.size) _ l (p : Int) (some ⟨g, 0, none⟩) 1 [who] _ w0 w hB ho (fun W hW => C_str1 ?_) (Nat.le_refl 1) hf).mono ?_
  · have := hW.2 g hg.lt (by omega)
    exact this.trans hg
  · rintro e w' ⟨v0, rfl, hv, hb, _⟩
    obtain ⟨A', c', rfl⟩ := Kd.R_slice hv
    exact ⟨A', c', rfl, R_from hv, hb⟩
theorem delete_rem (l : List ByteArray) (who : ByteArray) (p : Nat) (hS : Srt l) (hP : TPos l who p) (hm : hasS who l = true) (A : Option Addr) (c : Nat) (base : Nat) (w : World) (ho : Kd.R Kd.string 9 w base (fun k => base ≤ k) (.slice A l.length c) l) :
    Calls Try.prog 34 #[.slice A l.length c, .int .i64 (p : Int), .int .i64 ((p : Int) + 1)] w fun e w' => ∃ g c', e = .returned (.slice (some ⟨g, 0, none⟩) (remS who l).length c') ∧ Kd.R Kd.string 9 w' base (fun k => base ≤ k) (.slice (some ⟨g, 0, none⟩) (remS who l).length c') (remS who l) ∧ base ≤ g ∧ w.grownBy w' (some g) := by
  have hx := (tpos_mem hS hP).2 ((hasS_iff who l).1 hm)
  have := delete_strs.calls l p A c base w ho hx.1
  rw [remS_at l who p hP hx] at this
  exact this
def holdV (s : St) (kind : Int) (nm who : ByteArray) : Int × St :=
  match lookM eqKey (kind, nm) s.L with
  | none => (5, s)
  | some x => if who.size = 0 ∨ who.size > 16 then (1, s) else if x.going = true then (101, s) else if hasS who x.H = true then (6, s) else if x.H.length ≥ 4 then (3, s)
    else (0, ⟨putM eqKey (x.kind, x.name) { x with ver := s.n + 1, H := insS who x.H } s.L, s.n + 1⟩)
def releaseV (s : St) (kind : Int) (nm who : ByteArray) : Int × St :=
  match lookM eqKey (kind, nm) s.L with
  | none => (5, s)
  | some x => if hasS who x.H = false then (1, s) else if x.going = true ∧ (remS who x.H).length = 0 then (0, ⟨delM eqKey (x.kind, x.name) s.L, s.n + 1⟩)
    else (0, ⟨putM eqKey (x.kind, x.name) { x with ver := s.n + 1, H := remS who x.H } s.L, s.n + 1⟩)
def StSrt (s : St) : Prop := ∀ q ∈ s.L, Srt q.2.H ∧ q.2.H.length ≤ 1000
theorem srt_of {Lc : List (Key × CI)} {s : St} (hL : erase Lc = s.L) (hf : StSrt s) {x : CI} {k : Key} (h : lookM eqKey k Lc = some x) : Srt x.H ∧ x.H.length ≤ 1000 := by
  obtain ⟨q, hq, rfl⟩ := look_mem h
  have : (q.1, q.2.pure) ∈ s.L := by
    rw [← hL]
    exact List.mem_map_of_mem hq
  exact hf _ this
set_option maxHeartbeats 4000000 in
set_option maxRecDepth 100000 in
theorem Hold.calls2 (w : World) (p b : Nat) (Lc : List (Key × CI)) (s : St) (kind : Int) (nm who : ByteArray) (hB : StoreB w p b Lc s.n) (hL : erase Lc = s.L) (hf : StSrt s) (hn0 : 0 ≤ s.n) (hn1 : s.n < 1000000000) :
    Calls Try.prog 13 #[ptrV p, .int .i64 kind, .string nm, .string who] w fun e w' => e = .returned (.int .i64 (holdV s kind nm who).1) ∧ StoreX w w' p b Lc (holdV s kind nm who).2 ∧ Chg w w' p b := by
  have HS := Aside0.mk hB
  have HL := Aside0.mk hL
  have c0 : w.cell? ⟨p, 0, none⟩ = some (.map (some b)) := hB.cell0
  have hlo : lookM eqKey (kind, nm) s.L = (lookM eqKey (kind, nm) Lc).map CI.pure := by rw [← hL, look_erase]
  have HB0 := Aside0.mk (Below.refl w.heap.size w)
  have HS0 := Aside0.mk hB
  unfold holdV
  rw [hlo]
  cases hl : lookM eqKey (kind, nm) Lc with
  | none =>
    have hlk := lookup_none hB hl
    obtain ⟨kb, pb, hP, hbs⟩ := bs_run [] who List.Pairwise.nil (by decide)
    have HX := Aside0.mk (RowOK.none w)
    have HBS := Aside0.mk hbs
    clear hB hL hl hlo hP hbs hf
    dsimp only [Option.map_none]
    go_enter Try.func13, Try.ntmps13
    go_wp2_with (first
      | ((with_reducible refine gate_dst (N := 9) rfl ?_); refine new_at rfl (t := 31) rfl noItem.cells (itemV noItem) (fun W => zero_item W) rfl ?_; intro g9 hg w1 hk hb
         have BK9 := Aside0.mk hk; have HB1 := Aside0.mk (below_then HB0.out HB0.out.size hb); have HS1 := Aside0.mk (HS0.out.below hb); have G9 : Aside0 (w.heap.size ≤ g9) := Aside0.mk (by have := HB0.out.size; omega); clear hk hb hg)
      | ((with_reducible refine gate_store (p := 9) rfl ?_); refine store_at rfl (t := 31) rfl rfl g9 0 _ 31 _ rfl rfl BK9.out noItem.cells rfl size_item (show (6 : Nat) ≤ 6 from Nat.le_refl 6) (cells_one _) ?_; intro w2 hk hg
         have BK9' : Aside0 (Blk w2 g9 noItem.cells 31) := Aside0.mk hk; have HB2 := Aside0.mk (pw_below_grown HB1.out (some g9) HB1.out.size hg (fun k e => by cases e; exact G9.out)); clear hk hg
         have HS2 := Aside0.mk (HS.out.below HB2.out)
         have c3 : w2.cell? ⟨g9, 3, none⟩ = some (.slice none 0 0) := BK9'.out.cell 3)
      | (go_at_call 30; refine (slices_BinarySearch_string_string.calls kb noItem.ha noItem.hc noItem.H who (pb : Int) (hasS who noItem.H) _ (HX.out.below HB2.out).hr HX.out.hc HBS.out).mono ?_; rintro e w3 ⟨rfl, hd⟩
         have hb3 := hd.below; have BK3 := Aside0.mk (BK9'.out.below hb3); have HB3 := Aside0.mk (below_then HB2.out HB2.out.size hb3); have HS3 := Aside0.mk (HS.out.below HB3.out); clear hd hb3))
    go_ret
    exact ⟨rfl, ⟨Lc, HS3.out, HL.out, fun Q h _ => h⟩, Chg.of_below p b HB3.out⟩
  | some x =>
    have hlk := lookup_some hB hl
    obtain ⟨hsrt, hlen⟩ := srt_of hL hf hl
    obtain ⟨kb, pb, hP, hbs⟩ := bs_run x.H who hsrt hlen
    have HX := Aside0.mk (row_of hB hl)
    have HXQ := Aside0.mk (look_mem hl)
    have HSR := Aside0.mk hsrt
    have HP := Aside0.mk hP
    have HBS := Aside0.mk hbs
    clear hB hL hl hlo hsrt hP hbs hf
    have e1 : x.pure.going = x.going := rfl
    have e2 : x.pure.H = x.H := rfl
    dsimp only [Option.map_some]
    rw [e1, e2]
    by_cases k3 : who.size = 0
    · rw [if_pos (.inl k3)]
      obtain rfl : who = ⟨#[]⟩ := ByteArray.ext (Array.eq_empty_of_size_eq_zero k3)
      go_enter Try.func13, Try.ntmps13
      go_wp2_with (first
        | ((with_reducible refine gate_dst (N := 9) rfl ?_); refine new_at rfl (t := 31) rfl noItem.cells (itemV noItem) (fun W => zero_item W) rfl ?_; intro g9 hg w1 hk hb
           have BK9 := Aside0.mk hk; have HB1 := Aside0.mk (below_then HB0.out HB0.out.size hb); have HS1 := Aside0.mk (HS0.out.below hb); have G9 : Aside0 (w.heap.size ≤ g9) := Aside0.mk (by have := HB0.out.size; omega); clear hk hb hg)
        | ((with_reducible refine gate_store (p := 9) rfl ?_); refine store_at rfl (t := 31) rfl rfl g9 0 _ 31 _ rfl rfl BK9.out x.cells rfl size_item (show (6 : Nat) ≤ 6 from Nat.le_refl 6) (cells_one _) ?_; intro w2 hk hg
           have BK9' : Aside0 (Blk w2 g9 x.cells 31) := Aside0.mk hk; have HB2 := Aside0.mk (pw_below_grown HB1.out (some g9) HB1.out.size hg (fun k e => by cases e; exact G9.out)); clear hk hg
           have HS2 := Aside0.mk (HS.out.below HB2.out)
           have c3 : w2.cell? ⟨g9, 3, none⟩ = some (.slice x.ha x.H.length x.hc) := BK9'.out.cell 3)
        | (go_at_call 30; refine (slices_BinarySearch_string_string.calls kb x.ha x.hc x.H ⟨#[]⟩ (pb : Int) (hasS ⟨#[]⟩ x.H) _ (HX.out.below HB2.out).hr HX.out.hc HBS.out).mono ?_; rintro e w3 ⟨rfl, hd⟩
           have hb3 := hd.below; have BK3 := Aside0.mk (BK9'.out.below hb3); have HB3 := Aside0.mk (below_then HB2.out HB2.out.size hb3); have HS3 := Aside0.mk (HS.out.below HB3.out); clear hd hb3))
      go_ret
      exact ⟨rfl, ⟨Lc, HS3.out, HL.out, fun Q h _ => h⟩, Chg.of_below p b HB3.out⟩
    · have ne1 : (who.toList == []) = false := beq_eq_false_iff_ne.2 (fun e => k3 (by have h2 := congrArg List.length e; rw [ByteArray.toList_eq] at h2; simpa using h2))
      have ne2 : who.toList.isEmpty = false := by cases hq : who.toList with | nil => rw [hq] at ne1; cases ne1 | cons => rfl
      have ne3 : ¬ who.toList = [] := fun e => by rw [e] at ne1; cases ne1
      have ne4 : ¬ who = ByteArray.empty := fun e => k3 (by rw [e]; rfl)
      
      by_cases k4 : who.size > 16
      · rw [if_pos (.inr k4)]
        have k4' : (16 : Int) < (who.size : Int) := by omega
        go_enter Try.func13, Try.ntmps13
        go_wp2_with (first
          | ((with_reducible refine gate_dst (N := 9) rfl ?_); refine new_at rfl (t := 31) rfl noItem.cells (itemV noItem) (fun W => zero_item W) rfl ?_; intro g9 hg w1 hk hb
             have BK9 := Aside0.mk hk; have HB1 := Aside0.mk (below_then HB0.out HB0.out.size hb); have HS1 := Aside0.mk (HS0.out.below hb); have G9 : Aside0 (w.heap.size ≤ g9) := Aside0.mk (by have := HB0.out.size; omega); clear hk hb hg)
          | ((with_reducible refine gate_store (p := 9) rfl ?_); refine store_at rfl (t := 31) rfl rfl g9 0 _ 31 _ rfl rfl BK9.out x.cells rfl size_item (show (6 : Nat) ≤ 6 from Nat.le_refl 6) (cells_one _) ?_; intro w2 hk hg
             have BK9' : Aside0 (Blk w2 g9 x.cells 31) := Aside0.mk hk; have HB2 := Aside0.mk (pw_below_grown HB1.out (some g9) HB1.out.size hg (fun k e => by cases e; exact G9.out)); clear hk hg
             have HS2 := Aside0.mk (HS.out.below HB2.out)
             have c3 : w2.cell? ⟨g9, 3, none⟩ = some (.slice x.ha x.H.length x.hc) := BK9'.out.cell 3)
          | (go_at_call 30; refine (slices_BinarySearch_string_string.calls kb x.ha x.hc x.H who (pb : Int) (hasS who x.H) _ (HX.out.below HB2.out).hr HX.out.hc HBS.out).mono ?_; rintro e w3 ⟨rfl, hd⟩
             have hb3 := hd.below; have BK3 := Aside0.mk (BK9'.out.below hb3); have HB3 := Aside0.mk (below_then HB2.out HB2.out.size hb3); have HS3 := Aside0.mk (HS.out.below HB3.out); clear hd hb3))
        go_ret
        exact ⟨rfl, ⟨Lc, HS3.out, HL.out, fun Q h _ => h⟩, Chg.of_below p b HB3.out⟩
      · have k4' : ¬ (16 : Int) < (who.size : Int) := by omega
        rw [if_neg (by omega)]
        cases hgo : x.going with
        | true =>
          rw [if_pos rfl]
          go_enter Try.func13, Try.ntmps13
          go_wp2_with (first
            | ((with_reducible refine gate_dst (N := 9) rfl ?_); refine new_at rfl (t := 31) rfl noItem.cells (itemV noItem) (fun W => zero_item W) rfl ?_; intro g9 hg w1 hk hb
               have BK9 := Aside0.mk hk; have HB1 := Aside0.mk (below_then HB0.out HB0.out.size hb); have HS1 := Aside0.mk (HS0.out.below hb); have G9 : Aside0 (w.heap.size ≤ g9) := Aside0.mk (by have := HB0.out.size; omega); clear hk hb hg)
            | ((with_reducible refine gate_store (p := 9) rfl ?_); refine store_at rfl (t := 31) rfl rfl g9 0 _ 31 _ rfl rfl BK9.out x.cells rfl size_item (show (6 : Nat) ≤ 6 from Nat.le_refl 6) (cells_one _) ?_; intro w2 hk hg
               have BK9' : Aside0 (Blk w2 g9 x.cells 31) := Aside0.mk hk; have HB2 := Aside0.mk (pw_below_grown HB1.out (some g9) HB1.out.size hg (fun k e => by cases e; exact G9.out)); clear hk hg
               have HS2 := Aside0.mk (HS.out.below HB2.out)
               have c3 : w2.cell? ⟨g9, 3, none⟩ = some (.slice x.ha x.H.length x.hc) := BK9'.out.cell 3)
            | (go_at_call 30; refine (slices_BinarySearch_string_string.calls kb x.ha x.hc x.H who (pb : Int) (hasS who x.H) _ (HX.out.below HB2.out).hr HX.out.hc HBS.out).mono ?_; rintro e w3 ⟨rfl, hd⟩
               have hb3 := hd.below; have BK3 := Aside0.mk (BK9'.out.below hb3); have HB3 := Aside0.mk (below_then HB2.out HB2.out.size hb3); have HS3 := Aside0.mk (HS.out.below HB3.out); clear hd hb3
               have c5 : w3.cell? ⟨g9, 5, none⟩ = some (.bool true) := (BK3.out.cell 5).trans (congrArg (fun z => some (Value.bool z)) hgo)))
          go_ret
          exact ⟨rfl, ⟨Lc, HS3.out, HL.out, fun Q h _ => h⟩, Chg.of_below p b HB3.out⟩
        | false =>
          rw [if_neg (by decide)]
          cases hh : hasS who x.H with
          | true =>
            rw [if_pos rfl]
            go_enter Try.func13, Try.ntmps13
            go_wp2_with (first
              | ((with_reducible refine gate_dst (N := 9) rfl ?_); refine new_at rfl (t := 31) rfl noItem.cells (itemV noItem) (fun W => zero_item W) rfl ?_; intro g9 hg w1 hk hb
                 have BK9 := Aside0.mk hk; have HB1 := Aside0.mk (below_then HB0.out HB0.out.size hb); have HS1 := Aside0.mk (HS0.out.below hb); have G9 : Aside0 (w.heap.size ≤ g9) := Aside0.mk (by have := HB0.out.size; omega); clear hk hb hg)
              | ((with_reducible refine gate_store (p := 9) rfl ?_); refine store_at rfl (t := 31) rfl rfl g9 0 _ 31 _ rfl rfl BK9.out x.cells rfl size_item (show (6 : Nat) ≤ 6 from Nat.le_refl 6) (cells_one _) ?_; intro w2 hk hg
                 have BK9' : Aside0 (Blk w2 g9 x.cells 31) := Aside0.mk hk; have HB2 := Aside0.mk (pw_below_grown HB1.out (some g9) HB1.out.size hg (fun k e => by cases e; exact G9.out)); clear hk hg
                 have HS2 := Aside0.mk (HS.out.below HB2.out)
                 have c3 : w2.cell? ⟨g9, 3, none⟩ = some (.slice x.ha x.H.length x.hc) := BK9'.out.cell 3)
              | (go_at_call 30; refine (slices_BinarySearch_string_string.calls kb x.ha x.hc x.H who (pb : Int) true _ (HX.out.below HB2.out).hr HX.out.hc (HBS.out.trans (by rw [hh]))).mono ?_; rintro e w3 ⟨rfl, hd⟩
                 have hb3 := hd.below; have BK3 := Aside0.mk (BK9'.out.below hb3); have HB3 := Aside0.mk (below_then HB2.out HB2.out.size hb3); have HS3 := Aside0.mk (HS.out.below HB3.out); clear hd hb3
                 have c5 : w3.cell? ⟨g9, 5, none⟩ = some (.bool false) := (BK3.out.cell 5).trans (congrArg (fun z => some (Value.bool z)) hgo)))
            go_ret
            exact ⟨rfl, ⟨Lc, HS3.out, HL.out, fun Q h _ => h⟩, Chg.of_below p b HB3.out⟩
          | false =>
            rw [if_neg (by decide)]
            by_cases k5 : x.H.length ≥ 4
            · rw [if_pos k5]
              have k5' : (4 : Int) ≤ (x.H.length : Int) := by omega
              go_enter Try.func13, Try.ntmps13
              go_wp2_with (first
                | ((with_reducible refine gate_dst (N := 9) rfl ?_); refine new_at rfl (t := 31) rfl noItem.cells (itemV noItem) (fun W => zero_item W) rfl ?_; intro g9 hg w1 hk hb
                   have BK9 := Aside0.mk hk; have HB1 := Aside0.mk (below_then HB0.out HB0.out.size hb); have HS1 := Aside0.mk (HS0.out.below hb); have G9 : Aside0 (w.heap.size ≤ g9) := Aside0.mk (by have := HB0.out.size; omega); clear hk hb hg)
                | ((with_reducible refine gate_store (p := 9) rfl ?_); refine store_at rfl (t := 31) rfl rfl g9 0 _ 31 _ rfl rfl BK9.out x.cells rfl size_item (show (6 : Nat) ≤ 6 from Nat.le_refl 6) (cells_one _) ?_; intro w2 hk hg
                   have BK9' : Aside0 (Blk w2 g9 x.cells 31) := Aside0.mk hk; have HB2 := Aside0.mk (pw_below_grown HB1.out (some g9) HB1.out.size hg (fun k e => by cases e; exact G9.out)); clear hk hg
                   have HS2 := Aside0.mk (HS.out.below HB2.out)
                   have c3 : w2.cell? ⟨g9, 3, none⟩ = some (.slice x.ha x.H.length x.hc) := BK9'.out.cell 3)
                | (go_at_call 30; refine (slices_BinarySearch_string_string.calls kb x.ha x.hc x.H who (pb : Int) false _ (HX.out.below HB2.out).hr HX.out.hc (HBS.out.trans (by rw [hh]))).mono ?_; rintro e w3 ⟨rfl, hd⟩
                   have hb3 := hd.below; have BK3 := Aside0.mk (BK9'.out.below hb3); have HB3 := Aside0.mk (below_then HB2.out HB2.out.size hb3); have HS3 := Aside0.mk (HS.out.below HB3.out); clear hd hb3
                   have c5 : w3.cell? ⟨g9, 5, none⟩ = some (.bool false) := (BK3.out.cell 5).trans (congrArg (fun z => some (Value.bool z)) hgo)
                   have c3' : w3.cell? ⟨g9, 3, none⟩ = some (.slice x.ha x.H.length x.hc) := BK3.out.cell 3))
              go_ret
              exact ⟨rfl, ⟨Lc, HS3.out, HL.out, fun Q h _ => h⟩, Chg.of_below p b HB3.out⟩
            · rw [if_neg k5]
              have k5' : ¬ (4 : Int) ≤ (x.H.length : Int) := by omega
              go_enter Try.func13, Try.ntmps13
              go_wp2_with (first
                | ((with_reducible refine gate_dst (N := 9) rfl ?_); refine new_at rfl (t := 31) rfl noItem.cells (itemV noItem) (fun W => zero_item W) rfl ?_; intro g9 hg w1 hk hb
                   have BK9 := Aside0.mk hk; have HB1 := Aside0.mk (below_then HB0.out HB0.out.size hb); have HS1 := Aside0.mk (HS0.out.below hb); have G9 : Aside0 (w.heap.size ≤ g9) := Aside0.mk (by have := HB0.out.size; omega); clear hk hb hg)
                | ((with_reducible refine gate_store (p := 9) rfl ?_); refine store_at rfl (t := 31) rfl rfl g9 0 _ 31 _ rfl rfl BK9.out x.cells rfl size_item (show (6 : Nat) ≤ 6 from Nat.le_refl 6) (cells_one _) ?_; intro w2 hk hg
                   have BK9' : Aside0 (Blk w2 g9 x.cells 31) := Aside0.mk hk; have HB2 := Aside0.mk (pw_below_grown HB1.out (some g9) HB1.out.size hg (fun k e => by cases e; exact G9.out)); clear hk hg
                   have HS2 := Aside0.mk (HS.out.below HB2.out)
                   have c3 : w2.cell? ⟨g9, 3, none⟩ = some (.slice x.ha x.H.length x.hc) := BK9'.out.cell 3)
                | (go_at_call 30; refine (slices_BinarySearch_string_string.calls kb x.ha x.hc x.H who (pb : Int) false _ (HX.out.below HB2.out).hr HX.out.hc (HBS.out.trans (by rw [hh]))).mono ?_; rintro e w3 ⟨rfl, hd⟩
                   have hb3 := hd.below; have BK3 := Aside0.mk (BK9'.out.below hb3); have HB3 := Aside0.mk (below_then HB2.out HB2.out.size hb3); have HS3 := Aside0.mk (HS.out.below HB3.out); clear hd hb3
                   have c5 : w3.cell? ⟨g9, 5, none⟩ = some (.bool false) := (BK3.out.cell 5).trans (congrArg (fun z => some (Value.bool z)) hgo)
                   have c3' : w3.cell? ⟨g9, 3, none⟩ = some (.slice x.ha x.H.length x.hc) := BK3.out.cell 3)
                | (go_at_call 32; refine (clone_strs.calls x.ha x.hc x.H _ (HX.out.below HB3.out).hr HX.out.hc (by omega)).mono ?_; rintro e w4 ⟨A', c', rfl, hv4, hb4⟩
                   have HV4 := Aside0.mk hv4; have HBW4 := Aside0.mk hb4; clear hv4 hb4)
                | ((with_reducible refine gate_dst (N := 57) rfl ?_); refine strs1_at rfl rfl who rfl ?_; intro g57 hg w5 hk hb
                   have BK57 := Aside0.mk hk; have HBW5 := Aside0.mk (below_then HBW4.out HBW4.out.size hb); have HV5 := Aside0.mk (Kd.R_mono (Kd.R_below (Kd.R_bound HV4.out) hb) (fun k (hk : True ∧ _) => hk.2.2.1)); have G57 : Aside0 (w4.heap.size ≤ g57) := Aside0.mk (by omega); clear hk hb hg)
                | (go_at_call 31; refine (insert_ins x.H who pb HP.out hlen A' c' g57 w3 w4 _ HBW5.out G57.out HV5.out BK57.out).mono ?_; rintro e w6 ⟨A6, c6, rfl, hv6, hb6⟩
                   have HV6 := Aside0.mk hv6; have BK6 := Aside0.mk (BK3.out.below hb6); have HB6 := Aside0.mk (below_then HB3.out HB3.out.size hb6); clear hv6 hb6)
                | ((with_reducible refine gate_store (p := 59) rfl ?_); refine store_at rfl (t := 29) rfl rfl g9 3 _ 31 _ rfl rfl BK6.out [.slice A6 (insS who x.H).length c6] rfl size_slice29 (show (4 : Nat) ≤ 6 by decide) (by intro u hu; rw [List.mem_singleton.1 hu]; rfl) ?_; intro w7 hk hg
                   have BK7 : Aside0 (Blk w7 g9 (CI.cells ⟨x.kind, x.name, x.ver, A6, c6, insS who x.H, x.ba, x.bc, x.B, false⟩) 31) := Aside0.mk (by have h : Blk w7 g9 (CI.cells ⟨x.kind, x.name, x.ver, A6, c6, insS who x.H, x.ba, x.bc, x.B, x.going⟩) 31 := hk; rw [hgo] at h; exact h); have HB7 := Aside0.mk (pw_below_grown HB6.out (some g9) HB6.out.size hg (fun k e => by cases e; exact G9.out)); have HV7 := Aside0.mk (Kd.R_grown HV6.out hg (fun k (hk : w3.heap.size ≤ k) e => by have h1 := Option.some.inj e; have h2 := BK3.out.lt; omega)); clear hk hg
                   have HS7 := Aside0.mk (HS.out.below HB7.out))
                | (refine load_at rfl (t := 31) rfl g9 _ 31 _ rfl BK7.out Try.underlying31 size_item ?_)
                | (go_at_call 27; refine (write.calls _ p b Lc s.n ⟨x.kind, x.name, x.ver, A6, c6, insS who x.H, x.ba, x.bc, x.B, false⟩ HS7.out ⟨(Kd.R_reads' HV7.out).2.2, (Kd.R_reads' HV7.out).2.1, (HX.out.below HB7.out).br, HX.out.bc⟩ hn0 hn1).mono ?_; rintro e w8 ⟨rfl, hs8, hc8⟩
                   have HS8 := Aside0.mk hs8; have HC8 := Aside0.mk hc8; clear hs8 hc8))
              go_ret
              refine ⟨rfl, ⟨_, HS8.out, ?_, ?_⟩, (Chg.of_below p b HB7.out).trans HC8.out⟩
              · rw [put_erase, HL.out]
                unfold CI.pure
                rw [hgo]
              · intro Q hQ hnew q hq
                rcases put_mem hq with rfl | hq
                · refine ⟨fun _ ad had => ?_, fun hne ad had => ?_⟩
                  · have had2 : A6 = some ad := had
                    exact hnew _ (Nat.le_trans HB3.out.size (HV6.out.1 ad.block (by rw [had2]; rfl)))
                  · obtain ⟨q0, h0, h1⟩ := HXQ.out
                    exact (hQ q0 h0).2 (by rw [h1]; exact hne) ad (by rw [h1]; exact had)
                · exact hQ q hq
theorem Hold.calls (w : World) (p b : Nat) (s : St) (kind : Int) (nm who : ByteArray) (h : StoreE w p b s) (hf : StSrt s) (hn0 : 0 ≤ s.n) (hn1 : s.n < 1000000000) :
    Calls Try.prog 13 #[ptrV p, .int .i64 kind, .string nm, .string who] w fun e w' => e = .returned (.int .i64 (holdV s kind nm who).1) ∧ StoreE w' p b (holdV s kind nm who).2 ∧ Chg w w' p b := by
  obtain ⟨Lc, hB, hL⟩ := h
  exact (Hold.calls2 w p b Lc s kind nm who hB hL hf hn0 hn1).mono fun e w' ⟨h1, ⟨Lc', h2, h3, _⟩, h4⟩ => ⟨h1, ⟨Lc', h2, h3⟩, h4⟩
set_option maxHeartbeats 4000000 in
set_option maxRecDepth 100000 in
theorem Release.calls2 (w : World) (p b : Nat) (Lc : List (Key × CI)) (s : St) (kind : Int) (nm who : ByteArray) (hB : StoreB w p b Lc s.n) (hL : erase Lc = s.L) (hf : StSrt s) (hn0 : 0 ≤ s.n) (hn1 : s.n < 1000000000) :
    Calls Try.prog 15 #[ptrV p, .int .i64 kind, .string nm, .string who] w fun e w' => e = .returned (.int .i64 (releaseV s kind nm who).1) ∧ StoreX w w' p b Lc (releaseV s kind nm who).2 ∧ Chg w w' p b := by
  have HS := Aside0.mk hB
  have HL := Aside0.mk hL
  have c0 : w.cell? ⟨p, 0, none⟩ = some (.map (some b)) := hB.cell0
  have hlo : lookM eqKey (kind, nm) s.L = (lookM eqKey (kind, nm) Lc).map CI.pure := by rw [← hL, look_erase]
  have HB0 := Aside0.mk (Below.refl w.heap.size w)
  have HS0 := Aside0.mk hB
  unfold releaseV
  rw [hlo]
  cases hl : lookM eqKey (kind, nm) Lc with
  | none =>
    have hlk := lookup_none hB hl
    clear hB hL hl hlo hf
    dsimp only [Option.map_none]
    go_enter Try.func15, Try.ntmps15
    go_wp2_with (first
      | ((with_reducible refine gate_dst (N := 9) rfl ?_); refine new_at rfl (t := 31) rfl noItem.cells (itemV noItem) (fun W => zero_item W) rfl ?_; intro g9 hg w1 hk hb
         have BK9 := Aside0.mk hk; have HB1 := Aside0.mk (below_then HB0.out HB0.out.size hb); have HS1 := Aside0.mk (HS0.out.below hb); have G9 : Aside0 (w.heap.size ≤ g9) := Aside0.mk (by have := HB0.out.size; omega); clear hk hb hg)
      | ((with_reducible refine gate_store (p := 9) rfl ?_); refine store_at rfl (t := 31) rfl rfl g9 0 _ 31 _ rfl rfl BK9.out noItem.cells rfl size_item (show (6 : Nat) ≤ 6 from Nat.le_refl 6) (cells_one _) ?_; intro w2 hk hg
         have BK9' : Aside0 (Blk w2 g9 noItem.cells 31) := Aside0.mk hk; have HB2 := Aside0.mk (pw_below_grown HB1.out (some g9) HB1.out.size hg (fun k e => by cases e; exact G9.out)); clear hk hg
         have HS2 := Aside0.mk (HS.out.below HB2.out)))
    go_ret
    exact ⟨rfl, ⟨Lc, HS2.out, HL.out, fun Q h _ => h⟩, Chg.of_below p b HB2.out⟩
  | some x =>
    have hlk := lookup_some hB hl
    obtain ⟨hsrt, hlen⟩ := srt_of hL hf hl
    obtain ⟨kb, pb, hP, hbs⟩ := bs_run x.H who hsrt hlen
    have HX := Aside0.mk (row_of hB hl)
    have HXQ := Aside0.mk (look_mem hl)
    have HSR := Aside0.mk hsrt
    have HP := Aside0.mk hP
    have HBS := Aside0.mk hbs
    clear hB hL hl hlo hsrt hP hbs hf
    have e1 : x.pure.going = x.going := rfl
    have e2 : x.pure.H = x.H := rfl
    dsimp only [Option.map_some]
    rw [e1, e2]
    cases hh : hasS who x.H with
    | false =>
      rw [if_pos rfl]
      go_enter Try.func15, Try.ntmps15
      go_wp2_with (first
        | ((with_reducible refine gate_dst (N := 9) rfl ?_); refine new_at rfl (t := 31) rfl noItem.cells (itemV noItem) (fun W => zero_item W) rfl ?_; intro g9 hg w1 hk hb
           have BK9 := Aside0.mk hk; have HB1 := Aside0.mk (below_then HB0.out HB0.out.size hb); have HS1 := Aside0.mk (HS0.out.below hb); have G9 : Aside0 (w.heap.size ≤ g9) := Aside0.mk (by have := HB0.out.size; omega); clear hk hb hg)
        | ((with_reducible refine gate_store (p := 9) rfl ?_); refine store_at rfl (t := 31) rfl rfl g9 0 _ 31 _ rfl rfl BK9.out x.cells rfl size_item (show (6 : Nat) ≤ 6 from Nat.le_refl 6) (cells_one _) ?_; intro w2 hk hg
           have BK9' : Aside0 (Blk w2 g9 x.cells 31) := Aside0.mk hk; have HB2 := Aside0.mk (pw_below_grown HB1.out (some g9) HB1.out.size hg (fun k e => by cases e; exact G9.out)); clear hk hg
           have HS2 := Aside0.mk (HS.out.below HB2.out)
           have c3 : w2.cell? ⟨g9, 3, none⟩ = some (.slice x.ha x.H.length x.hc) := BK9'.out.cell 3)
        | (go_at_call 30; refine (slices_BinarySearch_string_string.calls kb x.ha x.hc x.H who (pb : Int) false _ (HX.out.below HB2.out).hr HX.out.hc (HBS.out.trans (by rw [hh]))).mono ?_; rintro e w3 ⟨rfl, hd⟩
           have hb3 := hd.below; have BK3 := Aside0.mk (BK9'.out.below hb3); have HB3 := Aside0.mk (below_then HB2.out HB2.out.size hb3); have HS3 := Aside0.mk (HS.out.below HB3.out); clear hd hb3))
      go_ret
      exact ⟨rfl, ⟨Lc, HS3.out, HL.out, fun Q h _ => h⟩, Chg.of_below p b HB3.out⟩
    | true =>
      rw [if_neg (by decide)]
      have hpw : IntKind.i64.wrap ((pb : Int) + 1) = (pb : Int) + 1 := by
        have := HP.out.le
        rw [IntKind.wrap_i64]
        omega
      have hpw2 : wrap64 ((pb : Int) + 1) = (pb : Int) + 1 := by
        have := HP.out.le
        rw [Go.IntWalk.wrap64_in _ (by omega)]
      cases hgo : x.going with
      | false =>
        rw [if_neg (fun h => by cases h.1)]
        go_enter Try.func15, Try.ntmps15
        go_wp2_with (first
          | ((with_reducible refine gate_dst (N := 9) rfl ?_); refine new_at rfl (t := 31) rfl noItem.cells (itemV noItem) (fun W => zero_item W) rfl ?_; intro g9 hg w1 hk hb
             have BK9 := Aside0.mk hk; have HB1 := Aside0.mk (below_then HB0.out HB0.out.size hb); have HS1 := Aside0.mk (HS0.out.below hb); have G9 : Aside0 (w.heap.size ≤ g9) := Aside0.mk (by have := HB0.out.size; omega); clear hk hb hg)
          | ((with_reducible refine gate_store (p := 9) rfl ?_); refine store_at rfl (t := 31) rfl rfl g9 0 _ 31 _ rfl rfl BK9.out x.cells rfl size_item (show (6 : Nat) ≤ 6 from Nat.le_refl 6) (cells_one _) ?_; intro w2 hk hg
             have BK9' : Aside0 (Blk w2 g9 x.cells 31) := Aside0.mk hk; have HB2 := Aside0.mk (pw_below_grown HB1.out (some g9) HB1.out.size hg (fun k e => by cases e; exact G9.out)); clear hk hg
             have HS2 := Aside0.mk (HS.out.below HB2.out)
             have c3 : w2.cell? ⟨g9, 3, none⟩ = some (.slice x.ha x.H.length x.hc) := BK9'.out.cell 3)
          | (go_at_call 30; refine (slices_BinarySearch_string_string.calls kb x.ha x.hc x.H who (pb : Int) true _ (HX.out.below HB2.out).hr HX.out.hc (HBS.out.trans (by rw [hh]))).mono ?_; rintro e w3 ⟨rfl, hd⟩
             have hb3 := hd.below; have BK3 := Aside0.mk (BK9'.out.below hb3); have HB3 := Aside0.mk (below_then HB2.out HB2.out.size hb3); have HS3 := Aside0.mk (HS.out.below HB3.out); clear hd hb3
             have c3' : w3.cell? ⟨g9, 3, none⟩ = some (.slice x.ha x.H.length x.hc) := BK3.out.cell 3)
          | (go_at_call 32; refine (clone_strs.calls x.ha x.hc x.H _ (HX.out.below HB3.out).hr HX.out.hc (by omega)).mono ?_; rintro e w4 ⟨A', c', rfl, hv4, hb4⟩
             have HV4 := Aside0.mk (R_from hv4); have HBW4 := Aside0.mk hb4; clear hv4 hb4)
          | (go_at_call 34; refine (delete_rem x.H who pb HSR.out HP.out hh A' c' w3.heap.size _ HV4.out).mono ?_; rintro e w6 ⟨g6, c6, rfl, hv6, hg6, hw6⟩
             obtain ⟨A6, hA6⟩ : ∃ A6, A6 = some (⟨g6, 0, none⟩ : Addr) := ⟨_, rfl⟩; rw [← hA6] at hv6; rw [← hA6]
             have hb6 : Below w3.heap.size w3 w6 := pw_below_grown HBW4.out (some g6) HBW4.out.size hw6 (fun k e => by cases e; exact hg6)
             have HV6 := Aside0.mk hv6; have BK6 := Aside0.mk (BK3.out.below hb6); have HB6 := Aside0.mk (below_then HB3.out HB3.out.size hb6); clear hv6 hb6 hg6 hw6 hA6)
          | ((with_reducible refine gate_store (p := 42) rfl ?_); refine store_at rfl (t := 29) rfl rfl g9 3 _ 31 _ rfl rfl BK6.out [.slice A6 (remS who x.H).length c6] rfl size_slice29 (show (4 : Nat) ≤ 6 by decide) (by intro u hu; rw [List.mem_singleton.1 hu]; rfl) ?_; intro w7 hk hg
             have BK7 : Aside0 (Blk w7 g9 (CI.cells ⟨x.kind, x.name, x.ver, A6, c6, remS who x.H, x.ba, x.bc, x.B, false⟩) 31) := Aside0.mk (by have h : Blk w7 g9 (CI.cells ⟨x.kind, x.name, x.ver, A6, c6, remS who x.H, x.ba, x.bc, x.B, x.going⟩) 31 := hk; rw [hgo] at h; exact h); have HB7 := Aside0.mk (pw_below_grown HB6.out (some g9) HB6.out.size hg (fun k e => by cases e; exact G9.out)); have HV7 := Aside0.mk (Kd.R_grown HV6.out hg (fun k (hk : w3.heap.size ≤ k) e => by have h1 := Option.some.inj e; have h2 := BK3.out.lt; omega)); clear hk hg
             have HS7 := Aside0.mk (HS.out.below HB7.out)
             have c5 : w7.cell? ⟨g9, 5, none⟩ = some (.bool false) := BK7.out.cell 5
             have c3' : w7.cell? ⟨g9, 3, none⟩ = some (.slice A6 (remS who x.H).length c6) := BK7.out.cell 3)
          | (refine load_at rfl (t := 31) rfl g9 _ 31 _ rfl BK7.out Try.underlying31 size_item ?_)
          | (go_at_call 27; refine (write.calls _ p b Lc s.n ⟨x.kind, x.name, x.ver, A6, c6, remS who x.H, x.ba, x.bc, x.B, false⟩ HS7.out ⟨(Kd.R_reads' HV7.out).2.2, (Kd.R_reads' HV7.out).2.1, (HX.out.below HB7.out).br, HX.out.bc⟩ hn0 hn1).mono ?_; rintro e w8 ⟨rfl, hs8, hc8⟩
             have HS8 := Aside0.mk hs8; have HC8 := Aside0.mk hc8; clear hs8 hc8))
        go_ret
        refine ⟨rfl, ⟨_, HS8.out, ?_, fun Q hQ hnew => rowsin_put hQ (fun hne ad had => ?_) (fun hne ad had => ?_)⟩, (Chg.of_below p b HB7.out).trans HC8.out⟩
        · rw [put_erase, HL.out]
          unfold CI.pure
          rw [hgo]
        · have had2 : A6 = some ad := had
          subst had2
          exact hnew _ (Nat.le_trans HB3.out.size (own_ge HV6.out))
        · obtain ⟨q0, h0, h1⟩ := HXQ.out
          exact (hQ q0 h0).2 (by rw [h1]; exact hne) ad (by rw [h1]; exact had)
      | true =>
        by_cases k6 : (remS who x.H).length = 0
        · rw [if_pos ⟨rfl, k6⟩]
          have k6' : (((remS who x.H).length : Int) == 0) = true := beq_iff_eq.2 (by omega)
          clear k6
          go_enter Try.func15, Try.ntmps15
          go_wp2_with (first
            | ((with_reducible refine gate_dst (N := 9) rfl ?_); refine new_at rfl (t := 31) rfl noItem.cells (itemV noItem) (fun W => zero_item W) rfl ?_; intro g9 hg w1 hk hb
               have BK9 := Aside0.mk hk; have HB1 := Aside0.mk (below_then HB0.out HB0.out.size hb); have HS1 := Aside0.mk (HS0.out.below hb); have G9 : Aside0 (w.heap.size ≤ g9) := Aside0.mk (by have := HB0.out.size; omega); clear hk hb hg)
            | ((with_reducible refine gate_store (p := 9) rfl ?_); refine store_at rfl (t := 31) rfl rfl g9 0 _ 31 _ rfl rfl BK9.out x.cells rfl size_item (show (6 : Nat) ≤ 6 from Nat.le_refl 6) (cells_one _) ?_; intro w2 hk hg
               have BK9' : Aside0 (Blk w2 g9 x.cells 31) := Aside0.mk hk; have HB2 := Aside0.mk (pw_below_grown HB1.out (some g9) HB1.out.size hg (fun k e => by cases e; exact G9.out)); clear hk hg
               have HS2 := Aside0.mk (HS.out.below HB2.out)
               have c3 : w2.cell? ⟨g9, 3, none⟩ = some (.slice x.ha x.H.length x.hc) := BK9'.out.cell 3)
            | (go_at_call 30; refine (slices_BinarySearch_string_string.calls kb x.ha x.hc x.H who (pb : Int) true _ (HX.out.below HB2.out).hr HX.out.hc (HBS.out.trans (by rw [hh]))).mono ?_; rintro e w3 ⟨rfl, hd⟩
               have hb3 := hd.below; have BK3 := Aside0.mk (BK9'.out.below hb3); have HB3 := Aside0.mk (below_then HB2.out HB2.out.size hb3); have HS3 := Aside0.mk (HS.out.below HB3.out); clear hd hb3
               have c3' : w3.cell? ⟨g9, 3, none⟩ = some (.slice x.ha x.H.length x.hc) := BK3.out.cell 3)
            | (go_at_call 32; refine (clone_strs.calls x.ha x.hc x.H _ (HX.out.below HB3.out).hr HX.out.hc (by omega)).mono ?_; rintro e w4 ⟨A', c', rfl, hv4, hb4⟩
               have HV4 := Aside0.mk (R_from hv4); have HBW4 := Aside0.mk hb4; clear hv4 hb4)
            | (go_at_call 34; refine (delete_rem x.H who pb HSR.out HP.out hh A' c' w3.heap.size _ HV4.out).mono ?_; rintro e w6 ⟨g6, c6, rfl, hv6, hg6, hw6⟩
               obtain ⟨A6, hA6⟩ : ∃ A6, A6 = some (⟨g6, 0, none⟩ : Addr) := ⟨_, rfl⟩; rw [← hA6] at hv6; rw [← hA6]
               have hb6 : Below w3.heap.size w3 w6 := pw_below_grown HBW4.out (some g6) HBW4.out.size hw6 (fun k e => by cases e; exact hg6)
               have HV6 := Aside0.mk hv6; have BK6 := Aside0.mk (BK3.out.below hb6); have HB6 := Aside0.mk (below_then HB3.out HB3.out.size hb6); clear hv6 hb6 hg6 hw6 hA6)
            | ((with_reducible refine gate_store (p := 42) rfl ?_); refine store_at rfl (t := 29) rfl rfl g9 3 _ 31 _ rfl rfl BK6.out [.slice A6 (remS who x.H).length c6] rfl size_slice29 (show (4 : Nat) ≤ 6 by decide) (by intro u hu; rw [List.mem_singleton.1 hu]; rfl) ?_; intro w7 hk hg
               have BK7 : Aside0 (Blk w7 g9 (CI.cells ⟨x.kind, x.name, x.ver, A6, c6, remS who x.H, x.ba, x.bc, x.B, true⟩) 31) := Aside0.mk (by have h : Blk w7 g9 (CI.cells ⟨x.kind, x.name, x.ver, A6, c6, remS who x.H, x.ba, x.bc, x.B, x.going⟩) 31 := hk; rw [hgo] at h; exact h); have HB7 := Aside0.mk (pw_below_grown HB6.out (some g9) HB6.out.size hg (fun k e => by cases e; exact G9.out)); have HV7 := Aside0.mk (Kd.R_grown HV6.out hg (fun k (hk : w3.heap.size ≤ k) e => by have h1 := Option.some.inj e; have h2 := BK3.out.lt; omega)); clear hk hg
               have HS7 := Aside0.mk (HS.out.below HB7.out)
               have c5 : w7.cell? ⟨g9, 5, none⟩ = some (.bool true) := BK7.out.cell 5
               have c3' : w7.cell? ⟨g9, 3, none⟩ = some (.slice A6 (remS who x.H).length c6) := BK7.out.cell 3)
            | (refine load_at rfl (t := 31) rfl g9 _ 31 _ rfl BK7.out Try.underlying31 size_item ?_)
            | (go_at_call 33; refine (drop.calls _ p b Lc s.n ⟨x.kind, x.name, x.ver, A6, c6, remS who x.H, x.ba, x.bc, x.B, true⟩ HS7.out ⟨(Kd.R_reads' HV7.out).2.2, (Kd.R_reads' HV7.out).2.1, (HX.out.below HB7.out).br, HX.out.bc⟩ hn0 hn1).mono ?_; rintro e w8 ⟨rfl, hs8, hc8⟩
               have HS8 := Aside0.mk hs8; have HC8 := Aside0.mk hc8; clear hs8 hc8))
          go_ret
          refine ⟨rfl, ⟨_, HS8.out, ?_, fun Q hQ hnew => rowsin_del hQ⟩, (Chg.of_below p b HB7.out).trans HC8.out⟩
          rw [del_erase, HL.out]
          rfl
        · rw [if_neg (fun h => k6 h.2)]
          have k6' : (((remS who x.H).length : Int) == 0) = false := beq_eq_false_iff_ne.2 (by omega)
          go_enter Try.func15, Try.ntmps15
          go_wp2_with (first
            | ((with_reducible refine gate_dst (N := 9) rfl ?_); refine new_at rfl (t := 31) rfl noItem.cells (itemV noItem) (fun W => zero_item W) rfl ?_; intro g9 hg w1 hk hb
               have BK9 := Aside0.mk hk; have HB1 := Aside0.mk (below_then HB0.out HB0.out.size hb); have HS1 := Aside0.mk (HS0.out.below hb); have G9 : Aside0 (w.heap.size ≤ g9) := Aside0.mk (by have := HB0.out.size; omega); clear hk hb hg)
            | ((with_reducible refine gate_store (p := 9) rfl ?_); refine store_at rfl (t := 31) rfl rfl g9 0 _ 31 _ rfl rfl BK9.out x.cells rfl size_item (show (6 : Nat) ≤ 6 from Nat.le_refl 6) (cells_one _) ?_; intro w2 hk hg
               have BK9' : Aside0 (Blk w2 g9 x.cells 31) := Aside0.mk hk; have HB2 := Aside0.mk (pw_below_grown HB1.out (some g9) HB1.out.size hg (fun k e => by cases e; exact G9.out)); clear hk hg
               have HS2 := Aside0.mk (HS.out.below HB2.out)
               have c3 : w2.cell? ⟨g9, 3, none⟩ = some (.slice x.ha x.H.length x.hc) := BK9'.out.cell 3)
            | (go_at_call 30; refine (slices_BinarySearch_string_string.calls kb x.ha x.hc x.H who (pb : Int) true _ (HX.out.below HB2.out).hr HX.out.hc (HBS.out.trans (by rw [hh]))).mono ?_; rintro e w3 ⟨rfl, hd⟩
               have hb3 := hd.below; have BK3 := Aside0.mk (BK9'.out.below hb3); have HB3 := Aside0.mk (below_then HB2.out HB2.out.size hb3); have HS3 := Aside0.mk (HS.out.below HB3.out); clear hd hb3
               have c3' : w3.cell? ⟨g9, 3, none⟩ = some (.slice x.ha x.H.length x.hc) := BK3.out.cell 3)
            | (go_at_call 32; refine (clone_strs.calls x.ha x.hc x.H _ (HX.out.below HB3.out).hr HX.out.hc (by omega)).mono ?_; rintro e w4 ⟨A', c', rfl, hv4, hb4⟩
               have HV4 := Aside0.mk (R_from hv4); have HBW4 := Aside0.mk hb4; clear hv4 hb4)
            | (go_at_call 34; refine (delete_rem x.H who pb HSR.out HP.out hh A' c' w3.heap.size _ HV4.out).mono ?_; rintro e w6 ⟨g6, c6, rfl, hv6, hg6, hw6⟩
               obtain ⟨A6, hA6⟩ : ∃ A6, A6 = some (⟨g6, 0, none⟩ : Addr) := ⟨_, rfl⟩; rw [← hA6] at hv6; rw [← hA6]
               have hb6 : Below w3.heap.size w3 w6 := pw_below_grown HBW4.out (some g6) HBW4.out.size hw6 (fun k e => by cases e; exact hg6)
               have HV6 := Aside0.mk hv6; have BK6 := Aside0.mk (BK3.out.below hb6); have HB6 := Aside0.mk (below_then HB3.out HB3.out.size hb6); clear hv6 hb6 hg6 hw6 hA6)
            | ((with_reducible refine gate_store (p := 42) rfl ?_); refine store_at rfl (t := 29) rfl rfl g9 3 _ 31 _ rfl rfl BK6.out [.slice A6 (remS who x.H).length c6] rfl size_slice29 (show (4 : Nat) ≤ 6 by decide) (by intro u hu; rw [List.mem_singleton.1 hu]; rfl) ?_; intro w7 hk hg
               have BK7 : Aside0 (Blk w7 g9 (CI.cells ⟨x.kind, x.name, x.ver, A6, c6, remS who x.H, x.ba, x.bc, x.B, true⟩) 31) := Aside0.mk (by have h : Blk w7 g9 (CI.cells ⟨x.kind, x.name, x.ver, A6, c6, remS who x.H, x.ba, x.bc, x.B, x.going⟩) 31 := hk; rw [hgo] at h; exact h); have HB7 := Aside0.mk (pw_below_grown HB6.out (some g9) HB6.out.size hg (fun k e => by cases e; exact G9.out)); have HV7 := Aside0.mk (Kd.R_grown HV6.out hg (fun k (hk : w3.heap.size ≤ k) e => by have h1 := Option.some.inj e; have h2 := BK3.out.lt; omega)); clear hk hg
               have HS7 := Aside0.mk (HS.out.below HB7.out)
               have c5 : w7.cell? ⟨g9, 5, none⟩ = some (.bool true) := BK7.out.cell 5
               have c3' : w7.cell? ⟨g9, 3, none⟩ = some (.slice A6 (remS who x.H).length c6) := BK7.out.cell 3)
            | (refine load_at rfl (t := 31) rfl g9 _ 31 _ rfl BK7.out Try.underlying31 size_item ?_)
            | (go_at_call 27; refine (write.calls _ p b Lc s.n ⟨x.kind, x.name, x.ver, A6, c6, remS who x.H, x.ba, x.bc, x.B, true⟩ HS7.out ⟨(Kd.R_reads' HV7.out).2.2, (Kd.R_reads' HV7.out).2.1, (HX.out.below HB7.out).br, HX.out.bc⟩ hn0 hn1).mono ?_; rintro e w8 ⟨rfl, hs8, hc8⟩
               have HS8 := Aside0.mk hs8; have HC8 := Aside0.mk hc8; clear hs8 hc8))
          go_ret
          refine ⟨rfl, ⟨_, HS8.out, ?_, fun Q hQ hnew => rowsin_put hQ (fun hne ad had => ?_) (fun hne ad had => ?_)⟩, (Chg.of_below p b HB7.out).trans HC8.out⟩
          · rw [put_erase, HL.out]
            unfold CI.pure
            rw [hgo]
          · have had2 : A6 = some ad := had
            subst had2
            exact hnew _ (Nat.le_trans HB3.out.size (own_ge HV6.out))
          · obtain ⟨q0, h0, h1⟩ := HXQ.out
            exact (hQ q0 h0).2 (by rw [h1]; exact hne) ad (by rw [h1]; exact had)
theorem Release.calls (w : World) (p b : Nat) (s : St) (kind : Int) (nm who : ByteArray) (h : StoreE w p b s) (hf : StSrt s) (hn0 : 0 ≤ s.n) (hn1 : s.n < 1000000000) :
    Calls Try.prog 15 #[ptrV p, .int .i64 kind, .string nm, .string who] w fun e w' => e = .returned (.int .i64 (releaseV s kind nm who).1) ∧ StoreE w' p b (releaseV s kind nm who).2 ∧ Chg w w' p b := by
  obtain ⟨Lc, hB, hL⟩ := h
  exact (Release.calls2 w p b Lc s kind nm who hB hL hf hn0 hn1).mono fun e w' ⟨h1, h2, h3⟩ => ⟨h1, h2.e, h3⟩
end Go.Proofs.Ytmankbhlgjgnbaa.PAll
