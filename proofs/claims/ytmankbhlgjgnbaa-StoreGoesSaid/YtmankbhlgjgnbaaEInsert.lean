import Derived.Test.YtmankbhlgjgnbaaMEa
import Derived.Deep.RegionLaw
namespace Go.Proofs.Ytmankbhlgjgnbaa.PAll
open Go.RowKit Go.Proofs.YtmankbhlgjgnbaaW.PrintWords Go.Proofs.YtmankbhlgjgnbaaW.PrintLast Go.Proofs.YtmankbhlgjgnbaaW.PrintMore Mem
set_option linter.unusedVariables false
set_option linter.unusedSimpArgs false

def insert_strs.f (l0 : List ByteArray) (a1 : Int) (l2 : List ByteArray) : Option (List ByteArray) :=
  if 0 ≤ a1 ∧ a1 ≤ l0.length ∧ l2.length = 1 ∧ (l0.length + 1) * 16 ≤ 140737488355328 then some (l0.take a1.toNat ++ l2 ++ l0.drop a1.toNat) else none

theorem str_one {w : World} {x : ByteArray} {cs : List Value} (h : Kd.string.K w x cs) : ∀ v ∈ cs, v.oneCell' = true := by
  have h' : cs = [.string x] := h
  subst h'
  intro v hv
  rw [List.mem_singleton.1 hv]
  rfl
theorem kept_grown {w w1 : World} {row : Option Nat} {S : Nat → Prop} (hg : w.grownBy w1 row) (hr : ∀ k, row = some k → S k) : Kept w w1 S :=
  ⟨hg.size, fun i hi hn => hg.block i hi (fun e => hn (hr i e.symm))⟩

/-- At the end: an append. -/
theorem insert_end (P0_ : Nat → Prop) (A c : _) (l0 : List ByteArray) (A2 : Option Addr) (c2 : Nat) (l2 : List ByteArray) (w0 w : World) (hB : Below w0.heap.size w0 w)
    (ho0 : Kd.R Kd.string 9 w w0.heap.size P0_ (.slice A l0.length c) l0) (hr2 : Kd.C Kd.string w A2 1 l2) (hb : (l0.length + 1) * 16 ≤ 140737488355328) :
    Calls Try.prog 31 #[.slice A l0.length c, .int .i64 l0.length, .slice A2 1 c2] w fun e w' => ∃ v0_ : Value, e = .returned (v0_) ∧ Kd.R Kd.string 9 w' w0.heap.size (fun k_ => (P0_ k_ ∨ w.heap.size ≤ k_)) v0_ (l0 ++ l2) ∧ Below w0.heap.size w0 w' ∧ Kept w w' (fun k_ => P0_ k_) := by
  have HO := Aside0.mk (Kd.R_mono ho0 (ok' := fun k_ => (P0_ k_ ∨ w.heap.size ≤ k_)) (fun k hk => .inl hk))
  have HR2 := Aside0.mk hr2
  have HB := Aside0.mk hB
  have HP := Aside0.mk ho0.1
  have hle := (Kd.R_reads' ho0).2.1
  clear ho0 hr2 hB
  have i0 : (0 : Int) ≤ l0.length := by omega
  go_enter Try.func31, Try.ntmps31
  go_wp2_with (at_builtin; refine Kd.R_append_rows Kd.string (w0 := w0) (W := w) (Rr := fun x cs => Kd.string.K w x cs) w0.heap.size rfl _ _ 29 9 _ 16 rfl Try.underlying29 info9_ rfl (by decide) (by decide) _ l0 l2 A2 1 c2 (fun k_ => (P0_ k_ ∨ w.heap.size ≤ k_)) (fun _ => False) rfl rfl HO.out HR2.out (fun _ _ h => h) (fun _ h => h.elim) (fun _ hk => .inr hk) HB.out HB.out.size hb ?_; intro v1 w1 hv hbl hg _; have HV := Aside0.mk hv; have HB1 := Aside0.mk hbl; have HG := Aside0.mk hg; clear hv hbl hg)
  all_goals
    go_ret
    exact ⟨_, rfl, HV.out, HB1.out, kept_grown HG.out (fun k hk => HP.out k hk)⟩
set_option maxRecDepth 20000 in
/-- In the middle, where there is no room: a new row. -/
theorem insert_grow (P0_ : Nat → Prop) (g i c : Nat) (l0 : List ByteArray) (cur : List Value) (A2 : Option Addr) (c2 : Nat) (l2 : List ByteArray) (w0 w : World) (hB : Below w0.heap.size w0 w)
    (hg0 : w0.heap.size ≤ g) (hb : Blk w g cur 9) (hcap : l0.length ≤ c) (hlen : cur.length = c) (hreps : Reps (fun x cs => Kd.string.K w x cs) 1 l0 (cur.take (l0.length))) (hin : i < l0.length) (hroom : c < l0.length + 1)
    (ad2 : Addr) (cs2 : List Value) (hA2 : A2 = some ad2) (hn2 : ad2.block ≠ g) (hc2l : cs2.length = 1) (hk2 : ∀ x, l2[0]? = some x → Kd.string.K w x cs2) (hcell2 : ∀ j u, cs2[j]? = some u → w.cell? (ad2.add j) = some u) (hl2 : l2.length = 1) (hbig : (l0.length + 1) * 16 ≤ 140737488355328) :
    Calls Try.prog 31 #[.slice (some ⟨g, 0, none⟩) l0.length c, .int .i64 i, .slice A2 1 c2] w fun e w' => ∃ v0_ : Value, e = .returned (v0_) ∧ Kd.R Kd.string 9 w' w0.heap.size (fun k_ => (P0_ k_ ∨ w.heap.size ≤ k_)) v0_ (l0.take i ++ l2 ++ l0.drop i) ∧ Below w0.heap.size w0 w' ∧ Kept w w' (fun k_ => P0_ k_) := by
  obtain ⟨i0, hi0, hz0, hzs, hzb⟩ := info_parts info9_
  have hsz : (Try.prog.info? 9).map (·.size) = some 1 := by rw [hi0]; simp [hzs]
  obtain ⟨n, hn⟩ : ∃ n, n = l0.length := ⟨_, rfl⟩
  rw [← hn] at hcap hin hroom hbig hreps ⊢
  obtain rfl : c = n := by omega
  have HRP := Aside0.mk hreps
  have HL0 := Aside0.mk hn
  clear hreps hn hroom hcap
  have hold : (Builtin.firstCells i0.size i (.slice (some ⟨g, 0, none⟩) i c)).run Try.prog w.drew = .ok (cur.take (i)).toArray w.drew := by
    rw [hzs]
    exact run_firstCells_some w.drew 1 i ⟨g, 0, none⟩ i c (cur.take (i)) (by rw [List.length_take]; omega) (fun j v hj => by
      rw [Addr.add_lit, Nat.zero_add]
      rw [List.getElem?_take] at hj
      split at hj
      · have := hb.drew.cell j
        rw [this]
        exact hj
      · cases hj)
  obtain ⟨G, hG⟩ : ∃ G, G = grownCap w (c + 1) c 9 := ⟨_, rfl⟩
  have hGn : c + 1 ≤ G := by rw [hG]; exact grownCap_ge w _ _ _
  have hGm : G ≤ 9223372036854775807 := by
    have := grownCap_le_maxLen w (c + 1) c 9 (by unfold maxLen; omega)
    rw [← hG] at this
    unfold maxLen at this
    omega
  obtain ⟨L0, hL0⟩ : ∃ L0 : List Value, L0 = ((cur.take (i)).toArray ++ Builtin.zeroCells (Value.string ⟨#[]⟩).cells (c + 1 - i) ++ Builtin.zeroCells (Value.string ⟨#[]⟩).cells (G - (c + 1))).toList := ⟨_, rfl⟩
  have hkk : (c : Int) + 1 - (i : Int) = ((c + 1 - i : Nat) : Int) := by omega
  have hrz : ∀ ty, (Builtin.append_ #[29, 3] ty #[.slice (some ⟨g, 0, none⟩) i c, .int .i64 ((c : Int) + 1 - (i : Int))]).run Try.prog w =
      .ok (.slice (some ⟨w.heap.size, 0, none⟩) (c + 1) G) (w.drew.alloc (.cells L0.toArray 9)) := fun ty => by
    have h := Lib.run_append_grow_zeros w 29 3 ty 9 i0 _ .i64 .i64 Try.underlying29 Try.underlying3 hi0 hz0 (some ⟨g, 0, none⟩) i c (cur.take (i)) hold (c + 1 - i) (by omega) (by omega) (by omega) (by omega) (by rw [hzb]; omega) (by rw [hzb, show i + (c + 1 - i) = c + 1 by omega]; exact growslice_fits (by omega) hbig)
    rw [show i + (c + 1 - i) = c + 1 by omega, ← hG] at h
    rw [hkk, hL0, Array.toArray_toList]
    exact h
  have hL0l : L0.length = G := by
    rw [hL0]
    simp [Builtin.zeroCells, Value.cells]
    omega
  have hL0t : L0.take (i) = cur.take (i) := by
    rw [hL0]
    simp only [Array.toList_append, List.append_assoc]
    rw [List.take_append_of_le_length (by rw [List.length_take]; omega), List.take_of_length_le (by rw [List.length_take]; omega)]
  have HL := Aside0.mk (And.intro hL0l hL0t)
  clear hL0 hL0l hL0t hG hold hkk hz0 hzs hzb hi0
  obtain ⟨L1, hL1⟩ : ∃ L1, L1 = L0.take (i) ++ cs2 ++ L0.drop (i + cs2.length) := ⟨_, rfl⟩
  obtain ⟨X, hX⟩ : ∃ X, X = (cur.take (c)).drop (i) := ⟨_, rfl⟩
  obtain ⟨L2, hL2⟩ : ∃ L2, L2 = L1.take ((i + 1)) ++ X ++ L1.drop ((i + 1) + X.length) := ⟨_, rfl⟩
  have hXl : X.length = (c - i) := by rw [hX, List.length_drop, List.length_take]; omega
  have hL1l : L1.length = G := by
    rw [hL1]
    have := HL.out.1
    simp only [List.length_append, List.length_take, List.length_drop]
    omega
  have hL1t : L1.take ((i + 1)) = cur.take (i) ++ cs2 := by
    rw [hL1, HL.out.2]
    rw [List.take_append_of_le_length (by rw [List.length_append, List.length_take]; omega), List.take_of_length_le (by rw [List.length_append, List.length_take]; omega)]
  have hL2l : L2.length = G := by
    rw [hL2]
    simp only [List.length_append, List.length_take, List.length_drop]
    omega
  have hL2t : L2.take ((c + 1)) = cur.take (i) ++ cs2 ++ X := by
    rw [hL2, hL1t]
    rw [List.take_append_of_le_length (by rw [List.length_append, List.length_append, List.length_take]; omega), List.take_of_length_le (by rw [List.length_append, List.length_append, List.length_take]; omega)]
  -- the copies
  have hcpA : ∀ (W : World), (∀ x, W.cell? x = (w.drew.alloc (.cells L0.toArray 9)).cell? x) → Blk W w.heap.size L0 9 → ∀ ty dc, (Builtin.copy_ #[29, 29] ty #[.slice (some ⟨w.heap.size, i, none⟩) (c + 1 - i) dc, .slice (some ad2) 1 c2]).run Try.prog W = .ok (goInt 1) (W.setRow w.heap.size L1.toArray) := fun W hWc hWb ty dc => by
    have h := run_copy_k W 29 29 ty 9 1 w.heap.size (i) (c + 1 - i) dc ad2 1 c2 L0 _ cs2 Try.underlying29 hsz hWb (by rw [hc2l]; simp only [Nat.min_def]; split <;> omega)
      (fun j v hj => by
        rw [hWc]
        have h := hcell2 j v hj
        rw [← h]
        exact World.cell?_alloc_lt _ _ _ (World.block_lt_of_cell? w _ h))
      (by have := HL.out.1; omega) (str_one (hk2 _ (List.getElem?_eq_getElem (by omega))))
    rw [← hL1, show Nat.min 1 (c + 1 - i) = 1 by simp only [Nat.min_def]; split <;> omega] at h
    exact h
  have hcpB : ∀ (W : World), Blk W w.heap.size L1 9 → Blk W g cur 9 → ∀ ty dc sc, (Builtin.copy_ #[29, 29] ty #[.slice (some ⟨w.heap.size, (i + 1), none⟩) (c - i) dc, .slice (some ⟨g, i, none⟩) (c - i) sc]).run Try.prog W = .ok (goInt (c - i : Nat)) (W.setRow w.heap.size L2.toArray) := fun W hN hG ty dc sc => by
    have h := run_copy_k W 29 29 ty 9 1 w.heap.size ((i + 1)) (c - i) dc ⟨g, i, none⟩ (c - i) sc L1 _ X Try.underlying29 hsz hN (by rw [hXl]; simp only [Nat.min_def]; split <;> omega)
      (fun j v hj => by
        rw [Addr.add_lit, hG.cell]
        rw [hX, List.getElem?_drop, List.getElem?_take] at hj
        split at hj
        · exact hj
        · cases hj)
      (by omega)
      (fun v hv => Kd.reps_one HRP.out (by decide) (fun p c hk => str_one hk) v (List.mem_of_mem_drop (hX ▸ hv)))
    rw [← hL2, show Nat.min (c - i) (c - i) = c - i by simp only [Nat.min_def]; split <;> omega] at h
    exact h
  have HX := Aside0.mk hX
  have HT := Aside0.mk (And.intro hL2l hL2t)
  clear hX hL1 hL2 hXl hL1l hL1t hL2l hL2t
  have hb1 : (0 : Int) ≤ (i : Int) + 1 := by omega
  have htn : ((i : Int) + 1).toNat = i + 1 := by omega
  have hw1 : IntKind.i64.wrap ((i : Int) + 1) = (i : Int) + 1 := by rw [IntKind.wrap_i64]; omega
  have hGim : ¬ (G = i + 1) := by omega
  have hci : ¬ (c = i) := by omega
  have hin2 : (i : Int) + 1 ≤ (c : Int) + 1 := by omega
  have hin3 : (i : Int) ≤ (c : Int) := by omega
  go_enter Try.func31, Try.ntmps31
  go_wp2_with (first
    | (at_builtin; refine Lib.wpList_append_run _ rfl _ _ _ _ rfl _ _ rfl rfl _ _ (hrz _) ?_)
    | ((with_reducible refine gate_builtin (b := .copy) rfl ?_); refine wpList_copy_run rfl _ _ 29 29 rfl _ _ rfl rfl (hcpA _ (fun _ => rfl) (show Blk _ _ _ _ from Blk.alloc_new w L0 _) _ _) ?_; have hb2 : Blk ((w.drew.alloc (.cells L0.toArray 9)).setRow w.heap.size L1.toArray) w.heap.size L1 9 := Blk.set (show Blk _ _ _ _ from Blk.alloc_new w L0 _) _; have hg2 : Blk ((w.drew.alloc (.cells L0.toArray 9)).setRow w.heap.size L1.toArray) g cur 9 := Blk.far (show Blk _ _ _ _ from hb.alloc _) _ (Nat.ne_of_lt hb.lt); have hB2 : Below w.heap.size w ((w.drew.alloc (.cells L0.toArray 9)).setRow w.heap.size L1.toArray) := below_setRow (below_drew (below_alloc (Below.refl _ _) _) : Below w.heap.size w (w.drew.alloc _)) (Nat.le_refl _) _; generalize (w.drew.alloc (.cells L0.toArray 9)).setRow w.heap.size L1.toArray = W2 at hb2 hg2 hB2 ⊢; have HB2 := Aside0.mk hb2; have HG2 := Aside0.mk hg2; have HBL := Aside0.mk hB2; clear hb2 hg2 hB2))
  go_region_law (refine step_copy_run rfl (.tmp 50) (.tmp 53) 29 29 rfl (.slice (some ⟨w.heap.size, (i + 1), none⟩) (c - i) (G - (i + 1))) (.slice (some ⟨g, i, none⟩) (c - i) (c - i)) (by simp [Act.eval, Act.put]) (by simp [Act.eval, Act.put]) (hcpB _ HB2.out.drew HG2.out.drew _ _ _) ?_)
  go_wp2
  go_ret
  have hfin : Below w.heap.size w (W2.drew.setRow w.heap.size L2.toArray) := below_setRow (below_drew HBL.out) (Nat.le_refl _) _
  refine ⟨_, rfl, ⟨fun k hk => .inr ?_, cur.take (i) ++ cs2 ++ X, ?_, ?_⟩, below_then hB hB.size hfin, Kept.of_below hfin _⟩
  · have : w.heap.size = k := by simpa [Value.ownBlock] using hk
    omega
  · have hlen3 : (l0.take i ++ l2 ++ l0.drop i).length = c + 1 := by
      have := HL0.out
      simp only [List.length_append, List.length_take, List.length_drop]
      omega
    rw [hlen3]
    exact blk_own hB.size (Blk.set HB2.out.drew _) hGn (by unfold maxLen; omega) (HT.out.1.trans (Nat.mul_one _).symm) (by rw [show (c + 1) * Kd.string.sz = c + 1 from Nat.mul_one _]; exact HT.out.2)
  · refine Reps.imp_ (R := fun x cs => Kd.string.K w x cs) (Kd.reps_append (Kd.reps_append ?_ ?_) ?_) (fun x cs hk => hk)
    · have h := Kd.reps_take (m := i) HRP.out (by have := HL0.out; omega)
      rw [Nat.mul_one, List.take_take, Nat.min_eq_left (by omega)] at h
      exact h
    · refine ⟨by rw [hc2l, hl2]; rfl, fun j p hj => ?_⟩
      have h0 : j = 0 := by
        have := (List.getElem?_eq_some_iff.1 hj).1
        omega
      subst h0
      rw [Nat.zero_mul, List.drop_zero, List.take_of_length_le (show cs2.length ≤ Kd.string.sz from Nat.le_of_eq hc2l)]
      exact hk2 p hj
    · rw [HX.out]
      have h := (Kd.reps_drop HRP.out : Reps _ 1 (l0.drop i) _)
      rw [Nat.mul_one] at h
      exact h

set_option maxRecDepth 20000 in
set_option maxHeartbeats 1000000 in
/-- In the middle, where there is room: in place. -/
theorem insert_room (P0_ : Nat → Prop) (g i n c : Nat) (l0 : List ByteArray) (cur : List Value) (A2 : Option Addr) (c2 : Nat) (l2 : List ByteArray) (w0 w : World) (hB : Below w0.heap.size w0 w)
    (hg0 : w0.heap.size ≤ g) (hP : P0_ g) (hb : Blk w g cur 9) (hn : n = l0.length) (hlen : cur.length = c) (hcm : c ≤ 9223372036854775807) (hreps : Reps (fun x cs => Kd.string.K w x cs) 1 l0 (cur.take (n))) (hin : i < n) (hroom : n + 1 ≤ c)
    (ad2 : Addr) (cs2 : List Value) (hA2 : A2 = some ad2) (hn2 : ad2.block ≠ g) (hc2l : cs2.length = 1) (hk2 : ∀ x, l2[0]? = some x → Kd.string.K w x cs2) (hcell2 : ∀ j u, cs2[j]? = some u → w.cell? (ad2.add j) = some u) (hl2 : l2.length = 1) :
    Calls Try.prog 31 #[.slice (some ⟨g, 0, none⟩) n c, .int .i64 i, .slice A2 1 c2] w fun e w' => ∃ v0_ : Value, e = .returned (v0_) ∧ Kd.R Kd.string 9 w' w0.heap.size (fun k_ => (P0_ k_ ∨ w.heap.size ≤ k_)) v0_ (l0.take i ++ l2 ++ l0.drop i) ∧ Below w0.heap.size w0 w' ∧ Kept w w' (fun k_ => P0_ k_) := by
  obtain ⟨i0, hi0, hz0, hzs, hzb⟩ := info_parts info9_
  have hsz : (Try.prog.info? 9).map (·.size) = some 1 := by rw [hi0]; simp [hzs]
  clear hi0 hz0 hzs hzb i0
  obtain ⟨X, hX⟩ : ∃ X, X = (cur.take (n)).drop (i) := ⟨_, rfl⟩
  obtain ⟨L1, hL1⟩ : ∃ L1, L1 = cur.take ((i + 1)) ++ X ++ cur.drop ((i + 1) + X.length) := ⟨_, rfl⟩
  obtain ⟨L2, hL2⟩ : ∃ L2, L2 = L1.take (i) ++ cs2 ++ L1.drop (i + cs2.length) := ⟨_, rfl⟩
  have hXl : X.length = (n - i) := by rw [hX, List.length_drop, List.length_take]; omega
  have hL1l : L1.length = c := by
    rw [hL1]
    simp only [List.length_append, List.length_take, List.length_drop]
    omega
  have hL2l : L2.length = c := by
    rw [hL2]
    simp only [List.length_append, List.length_take, List.length_drop]
    omega
  have hL2t : L2.take ((n + 1)) = cur.take (i) ++ cs2 ++ X := by
    have e1 : L1.take (i) = cur.take (i) := by
      rw [hL1, List.append_assoc, List.take_append_of_le_length (by rw [List.length_take]; omega), List.take_take, Nat.min_eq_left (by omega)]
    have e2 : L1.drop (i + cs2.length) = X ++ cur.drop ((i + 1) + X.length) := by
      have e3 : i + cs2.length = (cur.take ((i + 1))).length := by rw [List.length_take]; omega
      rw [hL1, List.append_assoc, e3, List.drop_left]
    rw [hL2, e1, e2, ← List.append_assoc]
    rw [List.take_append_of_le_length (by simp only [List.length_append, List.length_take]; omega), List.take_of_length_le (by simp only [List.length_append, List.length_take]; omega)]
  have h02 := hcell2 0 _ (List.getElem?_eq_getElem (by omega))
  have hadd0 : ad2.add 0 = ad2 := by unfold Addr.add; cases ad2 with | mk b o s => cases s <;> simp
  rw [hadd0] at h02
  have hbg : w.cell? ⟨g, (i + 1), none⟩ = some (cur[(i + 1)]'(by omega)) := by rw [hb.cell]; exact List.getElem?_eq_getElem _
  have hov : ∀ lb cb, (callFunc 43 #[.slice (some ad2) 1 c2, .slice (some ⟨g, (i + 1), none⟩) lb cb]).run Try.prog w = .ok (.value (.bool false)) w := fun lb cb => by
    rw [run_callFunc_extern Try.func43 (by kernel_rfl) (by kernel_rfl) (by kernel_rfl) (e := Extern.SlicesOverlaps.overlaps #[29, 29] #[4]) (by kernel_rfl),
      run_overlaps_apart2 w 29 4 9 Try.underlying29 1 (fun _ => by kernel_rfl) ad2 ⟨g, (i + 1), none⟩ 1 c2 lb cb hn2 _ _ h02 hbg (fun o => hb.frozen _ rfl) (hb.frozen _ rfl)]
    rfl
  have hcp1 : ∀ ty dc sc, (Builtin.copy_ #[29, 29] ty #[.slice (some ⟨g, (i + 1), none⟩) (n - i) dc, .slice (some ⟨g, i, none⟩) (n + 1 - i) sc]).run Try.prog w.drew = .ok (goInt (n - i : Nat)) (w.drew.setRow g L1.toArray) := fun ty dc sc => by
    have h := run_copy_k w.drew 29 29 ty 9 1 g ((i + 1)) (n - i) dc ⟨g, i, none⟩ (n + 1 - i) sc cur _ X Try.underlying29 hsz hb.drew (by rw [hXl]; simp only [Nat.min_def]; split <;> omega)
      (fun j v hj => by
        rw [Addr.add_lit, hb.drew.cell]
        rw [hX, List.getElem?_drop, List.getElem?_take] at hj
        split at hj
        · exact hj
        · cases hj)
      (by omega)
      (fun v hv => Kd.reps_one hreps (by decide) (fun p c hk => str_one hk) v (List.mem_of_mem_drop (hX ▸ hv)))
    rw [← hL1, show Nat.min (n + 1 - i) (n - i) = n - i by simp only [Nat.min_def]; split <;> omega] at h
    exact h
  have hcp2 : ∀ (W : World), Blk W g L1 9 → (∀ a, a.block ≠ g → W.cell? a = w.cell? a) → ∀ ty dc, (Builtin.copy_ #[29, 29] ty #[.slice (some ⟨g, i, none⟩) (n + 1 - i) dc, .slice (some ad2) 1 c2]).run Try.prog W = .ok (goInt 1) (W.setRow g L2.toArray) := fun W hW hWc ty dc => by
    have h := run_copy_k W 29 29 ty 9 1 g (i) (n + 1 - i) dc ad2 1 c2 L1 _ cs2 Try.underlying29 hsz hW (by rw [hc2l]; simp only [Nat.min_def]; split <;> omega)
      (fun j v hj => by
        rw [hWc _ (by rw [add_block]; exact hn2)]
        exact hcell2 j v hj)
      (by omega) (str_one (hk2 _ (List.getElem?_eq_getElem (by omega))))
    rw [← hL2, show Nat.min 1 (n + 1 - i) = 1 by simp only [Nat.min_def]; split <;> omega] at h
    exact h
  have HX := Aside0.mk hX
  have HT := Aside0.mk (And.intro hL2l hL2t)
  have HN := Aside0.mk hn
  have HRP := Aside0.mk hreps
  clear hX hL1 hL2 hXl hL1l hL2l hL2t hn hreps h02 hadd0 hbg
  have hb1 : (0 : Int) ≤ (i : Int) + 1 := by omega
  have htn : ((i : Int) + 1).toNat = i + 1 := by omega
  have htn2 : ((n : Int) + 1).toNat = n + 1 := by omega
  have hw1 : IntKind.i64.wrap ((i : Int) + 1) = (i : Int) + 1 := by rw [IntKind.wrap_i64]; omega
  have hgt : ¬ ((c : Int) < (n : Int) + 1) := by omega
  have hci1 : ¬ (c = i + 1) := by omega
  have hci : ¬ (c = i) := by omega
  have hin2 : (i : Int) + 1 ≤ (n : Int) + 1 := by omega
  have hin3 : (i : Int) ≤ (n : Int) := by omega
  have hin4 : (n : Int) + 1 ≤ (c : Int) := by omega
  have hin5 : (i : Int) ≤ (n : Int) + 1 := by omega
  have hnz : ¬ ((i : Int) = (n : Int)) := by omega
  have hm1 : n + 1 - (i + 1) = n - i := by omega
  go_enter Try.func31, Try.ntmps31
  go_wp2_with (simp only [hov])
  go_region_law (refine step_copy_run rfl (.tmp 73) (.tmp 76) 29 29 rfl (.slice (some ⟨g, (i + 1), none⟩) (n - i) (c - (i + 1))) (.slice (some ⟨g, i, none⟩) (n + 1 - i) (c - i)) (by simp [Act.eval, Act.put]) (by simp [Act.eval, Act.put]) (hcp1 _ _ _) ?_)
  have hb2 : Blk (w.drew.setRow g L1.toArray) g L1 9 := Blk.set hb.drew _
  have hc2 : ∀ a : Addr, a.block ≠ g → (w.drew.setRow g L1.toArray).cell? a = w.cell? a := fun a ha => World.cell?_of_block (w := w) (setRow_other _ _ _ _ ha)
  have hB2 : Below g w (w.drew.setRow g L1.toArray) := below_setRow (below_drew (Below.refl _ _) : Below g w w.drew) (Nat.le_refl _) _
  have hK2 : Kept w (w.drew.setRow g L1.toArray) (fun k => k = g) := ⟨hB2.size, fun k _ hk => setRow_other _ _ _ _ hk⟩
  generalize w.drew.setRow g L1.toArray = W2 at hb2 hc2 hB2 hK2 ⊢
  have HB2 := Aside0.mk hb2
  have HC2 := Aside0.mk hc2
  have HBL := Aside0.mk hB2
  have HK2 := Aside0.mk hK2
  clear hb2 hc2 hB2 hK2
  go_wp2_with ((with_reducible refine gate_builtin (b := .copy) rfl ?_); refine wpList_copy_run rfl _ _ 29 29 rfl _ _ rfl rfl (hcp2 _ HB2.out HC2.out _ _) ?_)
  go_ret
  have hfin : Below g w (W2.setRow g L2.toArray) := below_setRow HBL.out (Nat.le_refl _) _
  have hkept : Kept w (W2.setRow g L2.toArray) (fun k_ => P0_ k_) := ⟨hfin.size, fun k hk hne => by
    have hkg : k ≠ g := fun e => hne (e ▸ hP)
    exact (setRow_other _ _ _ _ hkg).trans (HK2.out.2 k hk hkg)⟩
  refine ⟨_, rfl, ⟨fun k hk => .inl ?_, cur.take (i) ++ cs2 ++ X, ?_, ?_⟩, ⟨hfin.os.trans hB.os, hfin.tape.trans hB.tape, hfin.output.trans hB.output, Nat.le_trans hB.size hfin.size, fun k hk => (hfin.block k (Nat.lt_of_lt_of_le hk hg0)).trans (hB.block k hk)⟩, hkept⟩
  · have : g = k := by simpa [Value.ownBlock] using hk
    exact this ▸ hP
  · have hlen3 : (l0.take i ++ l2 ++ l0.drop i).length = n + 1 := by
      have := HN.out
      simp only [List.length_append, List.length_take, List.length_drop]
      omega
    rw [hlen3]
    exact blk_own hg0 (Blk.set HB2.out _) hroom (by unfold maxLen; omega) (HT.out.1.trans (Nat.mul_one _).symm) (by rw [show (n + 1) * Kd.string.sz = n + 1 from Nat.mul_one _]; exact HT.out.2)
  · refine Reps.imp_ (R := fun x cs => Kd.string.K w x cs) (Kd.reps_append (Kd.reps_append ?_ ?_) ?_) (fun x cs hk => hk)
    · have h := Kd.reps_take (m := i) HRP.out (by have := HN.out; omega)
      rw [Nat.mul_one, List.take_take, Nat.min_eq_left (by omega)] at h
      exact h
    · refine ⟨by rw [hc2l, hl2]; rfl, fun j p hj => ?_⟩
      have h0 : j = 0 := by
        have := (List.getElem?_eq_some_iff.1 hj).1
        omega
      subst h0
      rw [Nat.zero_mul, List.drop_zero, List.take_of_length_le (show cs2.length ≤ Kd.string.sz from Nat.le_of_eq hc2l)]
      exact hk2 p hj
    · rw [HX.out]
      have h := (Kd.reps_drop HRP.out : Reps _ 1 (l0.drop i) _)
      rw [Nat.mul_one] at h
      exact h

theorem insert_strs.calls (P0_ : Nat → Prop) (u9000_ : Value) (l0 : List ByteArray) (a1 : Int) (A2 : Option Addr) (c2 : Nat) (l2 : List ByteArray) (r : List ByteArray) (w0 w : World) (hB : Below w0.heap.size w0 w) (ho0 : Kd.R Kd.string 9 w w0.heap.size P0_ u9000_ l0) (hr2 : ∀ W_, Kept w W_ (fun k_ => P0_ k_) → Kd.C Kd.string W_ A2 l2.length l2) (hc2 : l2.length ≤ c2) (h : insert_strs.f l0 a1 l2 = some r) :
    Calls Try.prog 31 #[u9000_, .int .i64 a1, .slice A2 l2.length c2] w fun e w' => ∃ v0_ : Value, e = .returned (v0_) ∧ Kd.R Kd.string 9 w' w0.heap.size (fun k_ => (P0_ k_ ∨ w.heap.size ≤ k_)) v0_ r ∧ Below w0.heap.size w0 w' ∧ Kept w w' (fun k_ => P0_ k_) := by
  unfold insert_strs.f at h
  split at h
  · rename_i hc
    obtain ⟨h1, h2, h3, h4⟩ := hc
    obtain rfl := Option.some.inj h
    obtain ⟨i, rfl⟩ := Int.eq_ofNat_of_zero_le h1
    rw [Int.toNat_natCast]
    by_cases hend : i = l0.length
    · subst hend
      obtain ⟨A, c, rfl⟩ := Kd.R_slice ho0
      rw [h3]
      have := insert_end P0_ A c l0 A2 c2 l2 w0 w hB ho0 (h3 ▸ hr2 w (Kept.refl w _)) h4
      simpa using this
    · obtain ⟨hown, inner, ho, hrep⟩ := ho0
      obtain ⟨g, cap, cur, rfl, hg, hblk, hl1, hl2, hl3, hl4⟩ := own_blk ho (by omega)
      have hP : P0_ g := hown g rfl
      obtain ⟨ad2, rfl, hn2, _⟩ := reads_apart hr2 (by decide) (by omega)
      obtain ⟨ad3, e3, hcc⟩ := (hr2 w (Kept.refl w _)).2.2 (by omega)
      injection e3 with e3
      subst e3
      obtain ⟨cs2, hcl, hk, hcell⟩ := hcc 0 _ (List.getElem?_eq_getElem (by omega))
      have hk2 : ∀ x, l2[0]? = some x → Kd.string.K w x cs2 := fun x hx => by
        rw [List.getElem?_eq_getElem (by omega)] at hx
        exact (Option.some.inj hx) ▸ hk
      have hcell2 : ∀ j u, cs2[j]? = some u → w.cell? (ad2.add j) = some u := fun j u hu => by
        have := hcell j u hu
        rwa [Nat.zero_mul, Nat.zero_add] at this
      have hrep2 : Reps (fun x cs => Kd.string.K w x cs) 1 l0 (cur.take (l0.length)) := by
        have : cur.take (l0.length) = inner := by rw [← hl4, show l0.length * Kd.string.sz = l0.length from Nat.mul_one _]
        rw [this]
        exact Reps.imp_ hrep (fun x cs hm => hm)
      have hn2' : ad2.block ≠ g := fun e => hn2 (e ▸ hP)
      rw [h3]
      by_cases hroom : l0.length + 1 ≤ cap
      · exact insert_room P0_ g i l0.length cap l0 cur _ c2 l2 w0 w hB hg hP hblk rfl (hl3.trans (Nat.mul_one _)) (by unfold maxLen at hl2; omega) hrep2 (by omega) hroom ad2 cs2 rfl hn2' hcl hk2 hcell2 h3
      · exact insert_grow P0_ g i cap l0 cur _ c2 l2 w0 w hB hg hblk hl1 (hl3.trans (Nat.mul_one _)) hrep2 (by omega) (by omega) ad2 cs2 rfl hn2' hcl hk2 hcell2 h3 h4
  · cases h
end Go.Proofs.Ytmankbhlgjgnbaa.PAll
