import Derived.Test.YtmankbhlgjgnbaaEKsort
/-! The store: List. -/
namespace Go.Proofs.Ytmankbhlgjgnbaa.PAll
open Go.RowKit Go.Proofs.YtmankbhlgjgnbaaW.PrintWords Go.Proofs.YtmankbhlgjgnbaaW.PrintLast Go.Proofs.YtmankbhlgjgnbaaW.PrintMore Mem
set_option linter.unusedVariables false
set_option linter.unusedSimpArgs false
def pk (kind : Int) (L : List (Key × PI)) : List PI := (L.filter (fun q => decide (q.1.1 = kind))).map (·.2)
theorem pk_cons_pos {kind : Int} {q : Key × PI} (L : List (Key × PI)) (h : q.1.1 = kind) : pk kind (q :: L) = q.2 :: pk kind L := by unfold pk; rw [List.filter_cons_of_pos (by simpa using h)]; rfl
theorem pk_cons_neg {kind : Int} {q : Key × PI} (L : List (Key × PI)) (h : ¬ q.1.1 = kind) : pk kind (q :: L) = pk kind L := by unfold pk; rw [List.filter_cons_of_neg (by simpa using h)]
theorem pk_perm {kind : Int} {L L' : List (Key × PI)} (h : L.Perm L') : (pk kind L).Perm (pk kind L') := (h.filter _).map _
theorem pk_le (kind : Int) (L : List (Key × PI)) : (pk kind L).length ≤ L.length := by unfold pk; rw [List.length_map]; exact List.length_filter_le _ _
theorem sort_none.calls (A : Option Addr) (c : Nat) (w : World) : Calls Try.prog 45 #[.slice A 0 c, .func (.func 46) #[] #[]] w fun e w' => e = .returned (.tuple #[]) ∧ w' = w :=
  AnyF.slices_SortFunc_none Try.sortItems A c (.func (.func 46) #[] #[]) w
set_option maxHeartbeats 8000000 in
set_option maxRecDepth 100000 in
theorem slist.calls (w : World) (p b : Nat) (Lc : List (Key × CI)) (n : Int) (hB : StoreB w p b Lc n) (hf : ∀ q ∈ Lc, Fits q.2) (hl : Lc.length ≤ 1000) (kind : Int) :
    Calls Try.prog 38 #[ptrV p, .int .i64 kind] w fun e w' => ∃ (ys : List CI) (A : Option Addr) (c : Nat), e = .returned (.slice A ys.length c) ∧ Kd.C kCI w' A ys.length ys ∧ (∀ ad, A = some ad → ∃ cells, w'.heap[ad.block]? = some (.cells cells 31 (0, 0))) ∧ (∀ y ∈ ys, RowNew w' w.heap.size y) ∧ (ys.map CI.pure).Perm (pk kind (erase Lc)) ∧ ys.Pairwise (fun x y => ¬ tlt y.name x.name) ∧ Below w.heap.size w w' := by
  have HS := Aside0.mk hB
  have HF := Aside0.mk hf
  have HLEN := Aside0.mk hl
  obtain ⟨es, clock, hb, hl, hs⟩ := hB.map
  have HM : Aside0 (RangeM w b Lc es clock) := Aside0.mk ⟨hb, hl, hs⟩
  have HBL : Aside0 (b < w.heap.size) := Aside0.mk hB.map.lt
  have c0 : w.cell? ⟨p, 0, none⟩ = some (.map (some b)) := hB.cell0
  clear hB hf hb hl hs
  go_enter Try.func38, Try.ntmps38
  go_wp2_with (first
    | ((with_reducible refine gate_dst (N := 12) rfl ?_); refine range_at rfl rfl Try.underlying47 b Lc es clock rfl HM.out ?_; intro r hg w3 hi hb
       have HI3 := Aside0.mk hi; have X3 := Aside0.mk hb; have GR3 : Aside0 (w.heap.size ≤ r) := Aside0.mk (by omega); clear hg hi hb))
  simp only [Act.put, List.setIfInBounds_toArray, List.set_cons_zero, List.set_cons_succ]
  go_loopg [5] (Lc.length + 1) (fun kq v5 w' => ∃ (seen : Array Nat) (out : List CI) (Ao : Option Addr) (co : Nat), v5 = .slice Ao out.length co ∧ Aside0 (kq = (leftL es Lc seen).length + 1) ∧ Aside0 (w'.heap[r]? = some (.mapIter (some b) clock seen clock)) ∧ Aside0 ((out.map CI.pure ++ pk kind (erase (leftL es Lc seen))).Perm (pk kind (erase Lc))) ∧ Aside0 (Kd.R kCI 31 w' w.heap.size (fun k => w.heap.size ≤ k) (.slice Ao out.length co) out) ∧ Aside0 (∀ y ∈ out, RowNew w' w.heap.size y) ∧ Aside0 (Below w.heap.size w w'))
  case atStart => exact ⟨#[], [], none, 0, rfl, ⟨by rw [leftL_start es Lc HM.out.len]⟩, HI3, ⟨by rw [leftL_start es Lc HM.out.len]; exact List.Perm.refl _⟩, ⟨Kd.R_nil _ _ _ _ _⟩, ⟨fun y hy => by cases hy⟩, X3⟩
  case round =>
    clear c0
    obtain ⟨seen, out, Ao, co, rfl, HK, HIT, HPM, HRO, HNEW, HB⟩ := hrel
    have HMr := Aside0.mk (HM.out.kept (HB.out.block b HBL.out))
    have HOL : Aside0 (out.length ≤ 1000) := Aside0.mk (by
      have h1 := HPM.out.length_eq
      have h2 := pk_le kind (erase Lc)
      have h3 := HLEN.out
      rw [List.length_append, List.length_map] at h1
      rw [erase_len] at h2
      omega)
    rcases range_next (P := Try.prog) HMr.out HIT.out with ⟨hnil, hnx⟩ | ⟨x, hxm, nb, w2, hperm, hnx, hr2, hg2, hen⟩
    · have HPM2 : Aside0 ((out.map CI.pure).Perm (pk kind (erase Lc))) := Aside0.mk (by
        have h := HPM.out
        rw [hnil] at h
        rw [show pk kind (erase ([] : List (Key × CI))) = [] from rfl, List.append_nil] at h
        exact h)
      clear hnil
      by_cases ho : out = []
      · subst ho
        go_wp2_with (first
          | (go_at_call 45; refine (sort_none.calls Ao co wr).mono ?_; rintro e w9 ⟨rfl, rfl⟩))
        go_ret
        exact ⟨[], Ao, co, rfl, (Kd.R_reads' HRO.out).2.2, fun ad hA => Kd.R_typed HRO.out ad.block (by rw [hA]; simp [Value.ownBlock]), fun y hy => (by cases hy), HPM2.out, List.Pairwise.nil, HB.out⟩
      · have hpos : 0 < out.length := List.length_pos_iff.2 ho
        rcases own_form HRO.out with ⟨_, _, e⟩ | ⟨g, eA⟩
        · exact absurd e ho
        subst eA
        clear ho
        go_wp2_with (first
          | (go_at_call 45; refine (sort.calls wr w.heap.size g co _ out HRO.out HOL.out).mono ?_; rintro e w9 ⟨rfl, zs, hz1, hz2, hz3, hz4, hz5, hg⟩
             have HZ1 := Aside0.mk hz1; have HZ2 := Aside0.mk hz2; have HZ3 := Aside0.mk hz3; have HZ4 := Aside0.mk hz4; have HZ5 := Aside0.mk hz5; have HG := Aside0.mk hg; clear hz1 hz2 hz3 hz4 hz5 hg))
        go_ret
        have hgo : (Value.slice (some ⟨g, 0, none⟩) out.length co).ownBlock = some g := by simp [Value.ownBlock]
        refine ⟨zs, some ⟨g, 0, none⟩, co, (by rw [HZ2.out]; rfl), HZ4.out, fun ad hA => ?_, fun y hy => ?_, (HZ1.out.map _).trans HPM2.out, HZ3.out, ?_⟩
        · obtain rfl := Option.some.inj hA
          exact HZ5.out
        · exact (HNEW.out y (HZ1.out.mem_iff.1 hy)).grownL HRO.out (by rw [hgo]; exact HG.out)
        · exact pw_below_grown HB.out (some g) HB.out.size HG.out (fun k e => by cases e; exact HRO.out.1 g hgo)
    · obtain ⟨k1, hk1⟩ : ∃ k1, gk = k1 + 1 := ⟨gk - 1, by have h1 := HK.out; omega⟩
      subst hk1
      have HPERM := Aside0.mk hperm
      have HR2 := Aside0.mk hr2
      have HX := Aside0.mk hxm
      have HB2 : Aside0 (Below w.heap.size w w2) := Aside0.mk (pw_below_grown HB.out (some r) HB.out.size hg2 (fun k e => by cases e; exact GR3.out))
      have HKI : Aside0 (Kept wr w2 (fun k => k = r)) := Aside0.mk (Kept.of_grown1 hg2 (fun k e => (Option.some.inj e).symm))
      have HNR : Aside0 (∀ cells t, wr.heap[r]? ≠ some (.cells cells t (0, 0))) := Aside0.mk (fun cells t e => by rw [HIT.out] at e; cases e)
      have HRO2 : Aside0 (Kd.R kCI 31 w2 w.heap.size (fun k => w.heap.size ≤ k) (.slice Ao out.length co) out) := Aside0.mk (R_keptT HRO.out rfl HKI.out (fun k e _ cells => by subst e; exact HNR.out cells _))
      have HNEW2 : Aside0 (∀ y ∈ out, RowNew w2 w.heap.size y) := Aside0.mk (fun y hy => ⟨R_keptT (HNEW.out y hy).hr rfl HKI.out (fun k e _ cells => by subst e; exact HNR.out cells _), R_keptT (HNEW.out y hy).br rfl HKI.out (fun k e _ cells => by subst e; exact HNR.out cells _)⟩)
      clear hperm hr2 hg2 hxm
      by_cases kx : x.1.1 = kind
      · have KX := Aside0.mk kx
        have q1 : (x.1.1 == kind) = true := beq_iff_eq.2 kx
        clear kx
        go_wp2_with (first
          | ((with_reducible refine gate_dst (N := 6) rfl ?_); refine new_at rfl (t := 52) rfl (keyC (0, ⟨#[]⟩)) (keyV (0, ⟨#[]⟩)) (fun W => zero_key W) rfl ?_; intro g4 hg w3 hk hb
             have BZ4 := Aside0.mk hk; have X3 := Aside0.mk hb; have G4 : Aside0 (w2.heap.size ≤ g4) := Aside0.mk (by omega); clear hk hb hg)
          | ((with_reducible refine gate_dst (N := 7) rfl ?_); refine new_at rfl (t := 31) rfl noItem.cells (itemV noItem) (fun W => zero_item W) rfl ?_; intro g5 hg w4 hk hb
             have BZ5 := Aside0.mk hk; have BZ4' := Aside0.mk (BZ4.out.below hb); have X4 := Aside0.mk (below_then X3.out X3.out.size hb); have G5 : Aside0 (g4 < g5) := Aside0.mk (by have h1 := BZ4.out.lt; omega); clear hk hb hg)
          | ((with_reducible refine gate_store (p := 6) rfl ?_); refine store_at rfl (t := 52) rfl rfl g4 0 _ 52 _ rfl rfl BZ4'.out (keyC x.1) rfl size_key (show (2 : Nat) ≤ 2 from Nat.le_refl 2) (keyC_one _) ?_; intro w5 hk hg
             have BK5 : Aside0 (Blk w5 g4 (keyC x.1) 52) := Aside0.mk hk; have BZ5' := Aside0.mk (BZ5.out.grown hg (by have := G5.out; omega)); have X5 := Aside0.mk (pw_below_grown X4.out (some g4) X4.out.size hg (fun k e => by cases e; exact G4.out)); clear hk hg)
          | ((with_reducible refine gate_store (p := 7) rfl ?_); refine store_at rfl (t := 31) rfl rfl g5 0 _ 31 _ rfl rfl BZ5'.out x.2.cells rfl size_item (show (6 : Nat) ≤ 6 from Nat.le_refl 6) (cells_one _) ?_; intro w6 hk hg
             have BI6 : Aside0 (Blk w6 g5 x.2.cells 31) := Aside0.mk hk; have BK6 := Aside0.mk (BK5.out.grown hg (by have := G5.out; omega)); have X6 := Aside0.mk (pw_below_grown X5.out (some g5) X5.out.size hg (fun k e => by cases e; have := G4.out; have := G5.out; omega)); clear hk hg
             have HB6 := Aside0.mk (below_then HB2.out HB2.out.size X6.out); have HRO6 := Aside0.mk (Kd.R_below HRO2.out X6.out); have HNEW6 : Aside0 (∀ y ∈ out, RowNew w6 w.heap.size y) := Aside0.mk (fun y hy => (HNEW2.out y hy).below X6.out)
             have HIT6 : Aside0 (w6.heap[r]? = some (.mapIter (some b) clock (seen.push nb) clock)) := Aside0.mk ((X6.out.block r (Array.getElem?_eq_some_iff.1 HR2.out).1).trans HR2.out)
             have k0_ : w6.cell? ⟨g4, 0, none⟩ = some (.int .i64 x.1.1) := BK6.out.cell 0)
          | ((with_reducible refine gate_dst (N := 23) rfl ?_); refine load_at rfl (t := 31) rfl g5 _ 31 _ rfl BI6.out Try.underlying31 size_item ?_)
          | (go_at_call 26; refine (copied.calls x.2 w6 ((HS.out.rows _ HX.out).below HB6.out) (HF.out _ HX.out)).mono ?_; rintro e w7 ⟨y, rfl, hy, hyp, hb⟩
             have HY7 := Aside0.mk hy; have HYP := Aside0.mk hyp; have HRO7 := Aside0.mk (Kd.R_below HRO6.out hb); have HNEW7 : Aside0 (∀ z ∈ out, RowNew w7 w.heap.size z) := Aside0.mk (fun z hz => (HNEW6.out z hz).below hb); have HB7 := Aside0.mk (below_then HB6.out HB6.out.size hb); have HIT7 : Aside0 (w7.heap[r]? = some (.mapIter (some b) clock (seen.push nb) clock)) := Aside0.mk ((hb.block r (Array.getElem?_eq_some_iff.1 HIT6.out).1).trans HIT6.out); have Z6 : Aside0 (w.heap.size ≤ w6.heap.size) := Aside0.mk HB6.out.size; clear hy hyp hb)
          | ((with_reducible refine gate_dst (N := 25) rfl ?_); refine build1_at rfl rfl y rfl ?_)
          | ((with_reducible refine gate_builtin (b := .append) (xs := #[.tmp 22, .tmp 25]) rfl ?_); at_builtin; refine Kd.R_append kCI (w0 := w) (W := w7) w.heap.size rfl (.tmp 22) (.tmp 25) 63 31 (itemV noItem) 88 rfl Try.underlying63 infoItem_ rfl (by decide) (by decide) (.slice Ao out.length co) out y y.cells (fun k => w.heap.size ≤ k) (fun _ => False) rfl rfl rfl (fun _ hk => hk.elim) ?aF HRO7.out HB7.out HB7.out.size ?aL ?_; (case aF => exact fun k hk => Nat.le_trans HB7.out.size hk); (case aL => have := HOL.out; omega); intro v8 w8 ho hb hg hat
             have HPU : Aside0 ((out ++ [y]).map CI.pure = out.map CI.pure ++ [x.2.pure]) := Aside0.mk (by rw [List.map_append, ← HYP.out]; rfl)
             have HN8 : Aside0 (∀ z ∈ out ++ [y], RowNew w8 w.heap.size z) := Aside0.mk (fun z hz => (List.mem_append.1 hz).elim (fun hz => (HNEW7.out z hz).grownL HRO7.out hg) (fun hz => by obtain rfl := List.mem_singleton.1 hz; exact (HY7.out.grownL HRO7.out hg).lower Z6.out))
             obtain ⟨L8, hL⟩ : ∃ z, z = out ++ [y] := ⟨_, rfl⟩
             rw [← hL] at ho HPU HN8
             clear hL
             obtain ⟨A8, c8, rfl⟩ := Kd.R_slice ho
             have HO8 := Aside0.mk ho; have HB8 := Aside0.mk hb
             have HIT8 : Aside0 (w8.heap[r]? = some (.mapIter (some b) clock (seen.push nb) clock)) := Aside0.mk ((hg.block r (Array.getElem?_eq_some_iff.1 HIT7.out).1 (fun e => by obtain ⟨cells, hc⟩ := Kd.R_typed HRO7.out r e.symm; rw [HIT7.out] at hc; cases hc)).trans HIT7.out); clear ho hb hg hat))
        have HPM8 : Aside0 ((L8.map CI.pure ++ pk kind (erase (leftL es Lc (seen.push nb)))).Perm (pk kind (erase Lc))) := Aside0.mk (by
          refine List.Perm.trans ?_ HPM.out
          rw [HPU.out, List.append_assoc]
          refine List.Perm.append_left _ ?_
          have h := (pk_perm (kind := kind) (HPERM.out.map (fun q : Key × CI => (q.1, q.2.pure)))).symm
          rw [List.map_cons, pk_cons_pos _ KX.out] at h
          exact h)
        go_roundg k1
        case measure => have := HK.out; omega
        case rel => exact ⟨seen.push nb, L8, A8, c8, rfl, ⟨by have h1 := HK.out; have h2 := HPERM.out.length_eq; rw [List.length_cons] at h2; omega⟩, HIT8, HPM8, HO8, HN8, HB8⟩
      · have KX := Aside0.mk kx
        have q1 : (x.1.1 == kind) = false := beq_eq_false_iff_ne.2 kx
        clear kx
        go_wp2_with (first
          | ((with_reducible refine gate_dst (N := 6) rfl ?_); refine new_at rfl (t := 52) rfl (keyC (0, ⟨#[]⟩)) (keyV (0, ⟨#[]⟩)) (fun W => zero_key W) rfl ?_; intro g4 hg w3 hk hb
             have BZ4 := Aside0.mk hk; have X3 := Aside0.mk hb; have G4 : Aside0 (w2.heap.size ≤ g4) := Aside0.mk (by omega); clear hk hb hg)
          | ((with_reducible refine gate_dst (N := 7) rfl ?_); refine new_at rfl (t := 31) rfl noItem.cells (itemV noItem) (fun W => zero_item W) rfl ?_; intro g5 hg w4 hk hb
             have BZ5 := Aside0.mk hk; have BZ4' := Aside0.mk (BZ4.out.below hb); have X4 := Aside0.mk (below_then X3.out X3.out.size hb); have G5 : Aside0 (g4 < g5) := Aside0.mk (by have h1 := BZ4.out.lt; omega); clear hk hb hg)
          | ((with_reducible refine gate_store (p := 6) rfl ?_); refine store_at rfl (t := 52) rfl rfl g4 0 _ 52 _ rfl rfl BZ4'.out (keyC x.1) rfl size_key (show (2 : Nat) ≤ 2 from Nat.le_refl 2) (keyC_one _) ?_; intro w5 hk hg
             have BK5 : Aside0 (Blk w5 g4 (keyC x.1) 52) := Aside0.mk hk; have BZ5' := Aside0.mk (BZ5.out.grown hg (by have := G5.out; omega)); have X5 := Aside0.mk (pw_below_grown X4.out (some g4) X4.out.size hg (fun k e => by cases e; exact G4.out)); clear hk hg)
          | ((with_reducible refine gate_store (p := 7) rfl ?_); refine store_at rfl (t := 31) rfl rfl g5 0 _ 31 _ rfl rfl BZ5'.out x.2.cells rfl size_item (show (6 : Nat) ≤ 6 from Nat.le_refl 6) (cells_one _) ?_; intro w6 hk hg
             have BI6 : Aside0 (Blk w6 g5 x.2.cells 31) := Aside0.mk hk; have BK6 := Aside0.mk (BK5.out.grown hg (by have := G5.out; omega)); have X6 := Aside0.mk (pw_below_grown X5.out (some g5) X5.out.size hg (fun k e => by cases e; have := G4.out; have := G5.out; omega)); clear hk hg
             have HB6 := Aside0.mk (below_then HB2.out HB2.out.size X6.out); have HRO6 := Aside0.mk (Kd.R_below HRO2.out X6.out); have HNEW6 : Aside0 (∀ y ∈ out, RowNew w6 w.heap.size y) := Aside0.mk (fun y hy => (HNEW2.out y hy).below X6.out)
             have HIT6 : Aside0 (w6.heap[r]? = some (.mapIter (some b) clock (seen.push nb) clock)) := Aside0.mk ((X6.out.block r (Array.getElem?_eq_some_iff.1 HR2.out).1).trans HR2.out)
             have k0_ : w6.cell? ⟨g4, 0, none⟩ = some (.int .i64 x.1.1) := BK6.out.cell 0))
        have HPM8 : Aside0 ((out.map CI.pure ++ pk kind (erase (leftL es Lc (seen.push nb)))).Perm (pk kind (erase Lc))) := Aside0.mk (by
          refine List.Perm.trans ?_ HPM.out
          refine List.Perm.append_left _ ?_
          have h := (pk_perm (kind := kind) (HPERM.out.map (fun q : Key × CI => (q.1, q.2.pure)))).symm
          rw [List.map_cons, pk_cons_neg _ KX.out] at h
          exact h)
        go_roundg k1
        case measure => have := HK.out; omega
        case rel => exact ⟨seen.push nb, out, Ao, co, rfl, ⟨by have h1 := HK.out; have h2 := HPERM.out.length_eq; rw [List.length_cons] at h2; omega⟩, HIT6, HPM8, HRO6, HNEW6, HB6⟩
end Go.Proofs.Ytmankbhlgjgnbaa.PAll
