import Derived.Test.YtmankbhlgjgnbaaEKup
/-! The reference's store: drop. -/
namespace Go.Proofs.Ytmankbhlgjgnbaa.PAll
open Go.RowKit Go.Proofs.YtmankbhlgjgnbaaW.PrintWords Go.Proofs.YtmankbhlgjgnbaaW.PrintLast Go.Proofs.YtmankbhlgjgnbaaW.PrintMore Mem
set_option linter.unusedVariables false
set_option linter.unusedSimpArgs false
theorem C_rowsK {w : World} {A : Option Addr} {m : Nat} {ys : List CI} (h : Kd.C kCI w A m ys) : ReadsRow (fun x cs => kCI.K w x cs) kCI.sz w A m ys := h
theorem own_fresh {v' : Value} {N : Nat} (h : v'.ownBlock = (Value.slice none 0 0).ownBlock ∨ ∃ b, v'.ownBlock = some b ∧ N ≤ b) {k : Nat} (hk : v'.ownBlock = some k) : N ≤ k := by
  rcases h with h | ⟨b, h, hb⟩
  · rw [h] at hk
    simp [Value.ownBlock] at hk
  · rw [h] at hk
    obtain rfl := Option.some.inj hk
    exact hb
set_option maxHeartbeats 4000000 in
set_option maxRecDepth 100000 in
theorem rdrop1.calls (w : World) (q g : Nat) (c : Nat) (n : Int) (Lr : List CI) (ok : Nat → Prop) (h : RefB w q (some ⟨g, 0, none⟩) c n Lr ok) (hfr : ∀ k, w.heap.size ≤ k → ok k) (hl : Lr.length ≤ 1000) (i : Nat) (hi : i < Lr.length) (hcase : ¬ c = i + 1) :
    Calls Try.prog 37 #[.pointer (some ⟨q, 0, none⟩), .int .i64 i] w fun e w' => e = .returned (.tuple #[]) ∧ RefTo w w' q (some ⟨g, 0, none⟩) ok ((Lr.map CI.pure).eraseIdx i) n := by
  have HR := Aside0.mk h
  have HFR := Aside0.mk hfr
  have HC : Aside0 (Lr.length ≤ c) := Aside0.mk (Kd.R_reads' h.row).2.1
  have hcl : (Lr.length : Int) ≤ (c : Int) := by have := HC.out; omega
  have c0 : w.cell? ⟨q, 0, none⟩ = some (.slice (some ⟨g, 0, none⟩) Lr.length c) := h.blk.cell 0
  have i0 : (0 : Int) ≤ (i : Int) := by omega
  have i1 : (i : Int) ≤ (c : Int) := by omega
  have j0 : (0 : Int) ≤ (i : Int) + 1 := by omega
  have j1 : (i : Int) + 1 ≤ (Lr.length : Int) := by omega
  have j2 : ((i : Int) + 1).toNat = i + 1 := by omega
  have j3 : wrap64 ((i : Int) + 1) = (i : Int) + 1 := by unfold wrap64; omega
  clear h hfr
  go_enter Try.func37, Try.ntmps37
  go_wp2_with fail
  refine start_ (n := 19) (S := fun w' => w'.cell? ⟨q, 0, none⟩ = some (.slice (some ⟨g, 0, none⟩) Lr.length c)) (ds := [18]) #[false, false, false, false, false, false, false, false, false, false, false, false, false, false, false, false, false, false, false] (by kernel_rfl) rfl rfl (c0) (fun hHeld => ?_)
  refine pure_ (i := 0) (N := some 4) (v := ?_) (a' := ?_) #[true, false, false, false, false, false, false, false, false, false, false, false, false, false, false, false, false, false, false] rfl rfl (by kernel_rfl) (fun _ _ _ h => h) (Or.inl ⟨by rfl, ?_⟩) ?_ ?_
  rotate_left
  · intro w'
    go_simp
    with_reducible rfl
  rotate_left
  · simp only [Act.put, List.setIfInBounds_toArray, List.set_cons_zero, List.set_cons_succ, i64_w, i32_w]
    rfl
  refine pure_ (i := 1) (N := some 5) (v := ?_) (a' := ?_) #[true, true, false, false, false, false, false, false, false, false, false, false, false, false, false, false, false, false, false] rfl rfl (by kernel_rfl) (fun _ _ _ h => h) (Or.inl ⟨by rfl, ?_⟩) ?_ ?_
  rotate_left
  · intro w'
    go_simp
    with_reducible rfl
  rotate_left
  · simp only [Act.put, List.setIfInBounds_toArray, List.set_cons_zero, List.set_cons_succ, i64_w, i32_w]
    rfl
  refine pure_ (i := 2) (N := some 6) (v := ?_) (a' := ?_) #[true, true, true, false, false, false, false, false, false, false, false, false, false, false, false, false, false, false, false] rfl rfl (by kernel_rfl) (fun _ _ _ h => h) (Or.inl ⟨by rfl, ?_⟩) ?_ ?_
  rotate_left
  · intro w'
    go_simp
    with_reducible rfl
  rotate_left
  · simp only [Act.put, List.setIfInBounds_toArray, List.set_cons_zero, List.set_cons_succ, i64_w, i32_w]
    rfl
  refine pure_ (i := 3) (N := some 7) (v := ?_) (a' := ?_) #[true, true, true, true, false, false, false, false, false, false, false, false, false, false, false, false, false, false, false] rfl rfl (by kernel_rfl) (fun _ _ _ h => h) (Or.inl ⟨by rfl, ?_⟩) ?_ ?_
  rotate_left
  · intro w'
    go_simp
    with_reducible rfl
  rotate_left
  · simp only [Act.put, List.setIfInBounds_toArray, List.set_cons_zero, List.set_cons_succ, i64_w, i32_w]
    rfl
  refine pure_ (i := 5) (N := some 9) (v := ?_) (a' := ?_) #[true, true, true, true, false, true, false, false, false, false, false, false, false, false, false, false, false, false, false] rfl rfl (by kernel_rfl) (fun _ _ _ h => h) (Or.inl ⟨by rfl, ?_⟩) ?_ ?_
  rotate_left
  · intro w'
    go_simp
    with_reducible rfl
  rotate_left
  · simp only [Act.put, List.setIfInBounds_toArray, List.set_cons_zero, List.set_cons_succ, i64_w, i32_w]
    rfl
  refine pure_ (i := 8) (N := some 12) (v := ?_) (a' := ?_) #[true, true, true, true, false, true, false, false, true, false, false, false, false, false, false, false, false, false, false] rfl rfl (by kernel_rfl) (fun _ _ _ h => h) (Or.inl ⟨by rfl, ?_⟩) ?_ ?_
  rotate_left
  · intro w'
    go_simp
    with_reducible rfl
  rotate_left
  · simp only [Act.put, List.setIfInBounds_toArray, List.set_cons_zero, List.set_cons_succ, i64_w, i32_w]
    rfl
  refine pure_ (i := 9) (N := some 13) (v := ?_) (a' := ?_) #[true, true, true, true, false, true, false, false, true, true, false, false, false, false, false, false, false, false, false] rfl rfl (by kernel_rfl) (fun _ _ _ h => h) (Or.inl ⟨by rfl, ?_⟩) ?_ ?_
  rotate_left
  · intro w'
    go_simp
    with_reducible rfl
  rotate_left
  · simp only [Act.put, List.setIfInBounds_toArray, List.set_cons_zero, List.set_cons_succ, i64_w, i32_w]
    rfl
  refine pure_ (i := 10) (N := some 14) (v := ?_) (a' := ?_) #[true, true, true, true, false, true, false, false, true, true, true, false, false, false, false, false, false, false, false] rfl rfl (by kernel_rfl) (fun _ _ _ h => h) (Or.inl ⟨by rfl, ?_⟩) ?_ ?_
  rotate_left
  · intro w'
    go_simp
    with_reducible rfl
  rotate_left
  · simp only [Act.put, List.setIfInBounds_toArray, List.set_cons_zero, List.set_cons_succ, i64_w, i32_w]
    rfl
  refine pure_ (i := 12) (N := some 16) (v := ?_) (a' := ?_) #[true, true, true, true, false, true, false, false, true, true, true, false, true, false, false, false, false, false, false] rfl rfl (by kernel_rfl) (fun _ _ _ h => h) (Or.inl ⟨by rfl, ?_⟩) ?_ ?_
  rotate_left
  · intro w'
    go_simp
    with_reducible rfl
  rotate_left
  · simp only [Act.put, List.setIfInBounds_toArray, List.set_cons_zero, List.set_cons_succ, i64_w, i32_w]
    rfl
  refine pure_ (i := 13) (N := some 17) (v := ?_) (a' := ?_) #[true, true, true, true, false, true, false, false, true, true, true, false, true, true, false, false, false, false, false] rfl rfl (by kernel_rfl) (fun _ _ _ h => h) (Or.inl ⟨by rfl, ?_⟩) ?_ ?_
  rotate_left
  · intro w'
    go_simp
    with_reducible rfl
  rotate_left
  · simp only [Act.put, List.setIfInBounds_toArray, List.set_cons_zero, List.set_cons_succ, i64_w, i32_w]
    rfl
  refine take_ (i := 4) (N := some 8) (v := ?_) (a' := ?_) #[true, true, true, true, true, true, false, false, true, true, true, false, true, true, false, false, false, false, false] rfl rfl (by kernel_rfl) (fun _ _ _ h => h) (Or.inl ⟨by rfl, ?_⟩) hHeld ?_ ?_
  rotate_left
  · intro w' s0
    go_simp
    with_reducible rfl
  rotate_left
  · simp only [Act.put, List.setIfInBounds_toArray, List.set_cons_zero, List.set_cons_succ, i64_w, i32_w]
    rfl
  refine pure_ (i := 6) (N := some 10) (v := ?_) (a' := ?_) #[true, true, true, true, true, true, true, false, true, true, true, false, true, true, false, false, false, false, false] rfl rfl (by kernel_rfl) (fun _ _ _ h => h) (Or.inl ⟨by rfl, ?_⟩) ?_ ?_
  rotate_left
  · intro w'
    go_simp
    with_reducible rfl
  rotate_left
  · simp only [Act.put, List.setIfInBounds_toArray, List.set_cons_zero, List.set_cons_succ, i64_w, i32_w]
    rfl
  refine take_ (i := 11) (N := some 15) (v := ?_) (a' := ?_) #[true, true, true, true, true, true, true, false, true, true, true, true, true, true, false, false, false, false, false] rfl rfl (by kernel_rfl) (fun _ _ _ h => h) (Or.inl ⟨by rfl, ?_⟩) hHeld ?_ ?_
  rotate_left
  · intro w' s0
    go_simp
    with_reducible rfl
  rotate_left
  · simp only [Act.put, List.setIfInBounds_toArray, List.set_cons_zero, List.set_cons_succ, i64_w, i32_w]
    rfl
  refine pure_ (i := 14) (N := some 18) (v := ?_) (a' := ?_) #[true, true, true, true, true, true, true, false, true, true, true, true, true, true, true, false, false, false, false] rfl rfl (by kernel_rfl) (fun _ _ _ h => h) (Or.inl ⟨by rfl, ?_⟩) ?_ ?_
  rotate_left
  · intro w'
    go_simp
    with_reducible rfl
  rotate_left
  · simp only [Act.put, List.setIfInBounds_toArray, List.set_cons_zero, List.set_cons_succ, i64_w, i32_w]
    rfl
  refine one_ (i := 7) (N := some 11) #[true, true, true, true, true, true, true, true, true, true, true, true, true, true, true, false, false, false, false] rfl rfl (by kernel_rfl) (by decide) (fun K hK => ?_)
  refine Kd.R_append_rows_step kCI (w0 := w.drew) (W := w.drew) (Rr := fun x cs => kCI.K w.drew x cs) 0 (by rfl) _ _ 63 31 (itemV noItem) 88 rfl Try.underlying63 infoItem_ rfl (by decide) (by decide) (.slice none 0 0) ([]) (Lr.take i) (some ⟨g, 0, none⟩) (i) (c) ok (fun _ => False) rfl ?aX (Kd.R_nil _ _ _ _ _) ?aC (fun _ _ h => h) (fun _ h => h.elim) ?aF (Below.refl _ _) (Nat.zero_le _) ?aL ?_
  case aX => rfl
  case aC => have h := Kd.C_take (k := kCI) HR.out.drew.reads (m := i) (by omega); rw [List.length_take, Nat.min_eq_left (by omega)] at h; exact h
  case aF => exact fun k hk => HFR.out k hk
  case aL => simp; omega
  intro v3 w3 ho hb hg hat
  obtain ⟨A3, c3, rfl⟩ := Kd.R_slice ho
  have HO3 := Aside0.mk ho; have K3 := Aside0.mk (Keep.of_grown hg (Keep.drew (Keep.refl w (RefS q (some ⟨g, 0, none⟩)))) (fun k e => by cases e)); have HR3 := Aside0.mk (HR.out.drew.kept (S := fun _ => False) (Kept.of_grown1 hg (fun k e => by cases e)) (fun e => e) (fun k e => e.elim)); have HF3 : Aside0 (∀ k, (Value.slice A3 (Lr.take i).length c3).ownBlock = some k → w.heap.size ≤ k) := Aside0.mk (fun k hk => own_fresh hat hk); clear ho hb hg hat
  have c3_ : w3.cell? ⟨q, 0, none⟩ = some (.slice (some ⟨g, 0, none⟩) Lr.length c) := HR3.out.blk.cell 0
  refine hK.out _ _ (c3_) (fun hHeld => ?_)
  clear hK K
  refine norm_ (a' := ?_) ?_ ?_
  rotate_left
  · show Act.put _ (some 11) _ = _
    simp only [Act.put, List.setIfInBounds_toArray, List.set_cons_zero, List.set_cons_succ, i64_w, i32_w]
    rfl
  refine one_ (i := 15) (N := some 19) #[true, true, true, true, true, true, true, true, true, true, true, true, true, true, true, true, false, false, false] rfl rfl (by kernel_rfl) (by decide) (fun K hK => ?_)
  refine Kd.R_append_rows_step kCI (w0 := w3) (W := w3) (Rr := fun x cs => kCI.K w3 x cs) 0 (by rfl) _ _ 63 31 (itemV noItem) 88 rfl Try.underlying63 infoItem_ rfl (by decide) (by decide) (.slice A3 (Lr.take i).length c3) (Lr.take i) (Lr.drop (i + 1)) (some ⟨g, (i + 1) * 6, none⟩) (Lr.length - (i + 1)) (c - (i + 1)) ok (fun _ => False) rfl ?aX (HO3.out) ?aC (fun _ _ h => h) (fun _ h => h.elim) ?aF (Below.refl _ _) (Nat.zero_le _) ?aL ?_
  case aX => rfl
  case aC => have h := Kd.C_drop (k := kCI) (c := c) HR3.out.reads (m := i + 1) (by omega) HC.out; rw [List.length_drop, if_neg hcase, Option.map_some, show ((⟨g, 0, none⟩ : Addr).add ((i + 1) * kCI.sz)) = ⟨g, (i + 1) * 6, none⟩ from add_plain _ _] at h; exact h
  case aF => exact fun k hk => HFR.out k (Nat.le_trans K3.out.1 hk)
  case aL => simp only [List.length_take]; omega
  intro v4 w4 ho hb hg hat
  obtain ⟨A4, c4, rfl⟩ := Kd.R_slice ho
  have HO4 := Aside0.mk ho; have F4 : Aside0 (∀ k, (Value.slice A4 (Lr.take i ++ Lr.drop (i + 1)).length c4).ownBlock = some k → w.heap.size ≤ k) := Aside0.mk (fun k hk => own_next HF3.out K3.out.1 hat hk); have K4 := Aside0.mk (Keep.of_grown hg K3.out (fun k e => .inr (HF3.out k e))); have HROWS : Aside0 (∀ x ∈ Lr.take i ++ Lr.drop (i + 1), RowR w4 ok x) := Aside0.mk (fun x hx => (HR3.out.rows x ((List.mem_append.1 hx).elim List.mem_of_mem_take List.mem_of_mem_drop)).grownL HO3.out hg); have BQ4 : Aside0 (Blk w4 q [.slice (some ⟨g, 0, none⟩) Lr.length c, .int .i64 n] 65) := Aside0.mk ((hg.block q HR3.out.blk.lt (fun e => by have h1 := HF3.out q e.symm; have h2 := HR.out.blk.lt; omega)).trans HR3.out.blk); clear ho hb hg hat
  have c4_ : w4.cell? ⟨q, 0, none⟩ = some (.slice (some ⟨g, 0, none⟩) Lr.length c) := BQ4.out.cell 0
  refine hK.out _ _ (c4_) (fun hHeld => ?_)
  clear hK K
  refine norm_ (a' := ?_) ?_ ?_
  rotate_left
  · show Act.put _ (some 19) _ = _
    simp only [Act.put, List.setIfInBounds_toArray, List.set_cons_zero, List.set_cons_succ, i64_w, i32_w]
    rfl
  refine pure_ (i := 16) (N := some 20) (v := ?_) (a' := ?_) #[true, true, true, true, true, true, true, true, true, true, true, true, true, true, true, true, true, false, false] rfl rfl (by kernel_rfl) (fun _ _ _ h => h) (Or.inl ⟨by rfl, ?_⟩) ?_ ?_
  rotate_left
  · intro w'
    go_simp
    with_reducible rfl
  rotate_left
  · simp only [Act.put, List.setIfInBounds_toArray, List.set_cons_zero, List.set_cons_succ, i64_w, i32_w]
    rfl
  refine pure_ (i := 17) (N := some 21) (v := ?_) (a' := ?_) #[true, true, true, true, true, true, true, true, true, true, true, true, true, true, true, true, true, true, false] rfl rfl (by kernel_rfl) (fun _ _ _ h => h) (Or.inl ⟨by rfl, ?_⟩) ?_ ?_
  rotate_left
  · intro w'
    go_simp
    with_reducible rfl
  rotate_left
  · simp only [Act.put, List.setIfInBounds_toArray, List.set_cons_zero, List.set_cons_succ, i64_w, i32_w]
    rfl
  refine last_ (i := 18) (N := none) #[true, true, true, true, true, true, true, true, true, true, true, true, true, true, true, true, true, true, true] rfl rfl (by kernel_rfl) (by decide) (fun K hK => ?_)
  refine store_reg (by rfl) rfl (t := 63) rfl q 0 _ 65 _ rfl rfl BQ4.out [.slice A4 (Lr.take i ++ Lr.drop (i + 1)).length c4] ?aV size_slice63 (show (1 : Nat) ≤ 2 by decide) (by intro u hu; rw [List.mem_singleton.1 hu]; rfl) ?_
  case aV => rfl
  intro w5 hk hg
  have HR5 : Aside0 (RefB w5 q A4 c4 n (Lr.take i ++ Lr.drop (i + 1)) ok) := Aside0.mk (RefB.setL' BQ4.out hk hg HO4.out HROWS.out); have K5 := Aside0.mk (Keep.of_grown hg K4.out (fun k e => .inl (.inl (Option.some.inj e).symm))); clear hk hg
  refine hK.out _ _ ?_
  clear hK K
  refine done_ (by kernel_rfl) ?_
  go_end0
  refine ⟨rfl, A4, c4, Lr.take i ++ Lr.drop (i + 1), HR5.out, ?_, K5.out, fun ad e => .inr (F4.out ad.block (by rw [e]; simp [Value.ownBlock]))⟩
  rw [List.eraseIdx_eq_take_drop_succ, List.map_append, List.map_take, List.map_drop]
set_option maxHeartbeats 4000000 in
set_option maxRecDepth 100000 in
theorem rdrop2.calls (w : World) (q g : Nat) (c : Nat) (n : Int) (Lr : List CI) (ok : Nat → Prop) (h : RefB w q (some ⟨g, 0, none⟩) c n Lr ok) (hfr : ∀ k, w.heap.size ≤ k → ok k) (hl : Lr.length ≤ 1000) (i : Nat) (hi : i < Lr.length) (hcase : i + 1 = c) :
    Calls Try.prog 37 #[.pointer (some ⟨q, 0, none⟩), .int .i64 i] w fun e w' => e = .returned (.tuple #[]) ∧ RefTo w w' q (some ⟨g, 0, none⟩) ok ((Lr.map CI.pure).eraseIdx i) n := by
  have HR := Aside0.mk h
  have HFR := Aside0.mk hfr
  have HC : Aside0 (Lr.length ≤ c) := Aside0.mk (Kd.R_reads' h.row).2.1
  have hcl : (Lr.length : Int) ≤ (c : Int) := by have := HC.out; omega
  have c0 : w.cell? ⟨q, 0, none⟩ = some (.slice (some ⟨g, 0, none⟩) Lr.length c) := h.blk.cell 0
  have i0 : (0 : Int) ≤ (i : Int) := by omega
  have i1 : (i : Int) ≤ (c : Int) := by omega
  have j0 : (0 : Int) ≤ (i : Int) + 1 := by omega
  have j1 : (i : Int) + 1 ≤ (Lr.length : Int) := by omega
  have j2 : ((i : Int) + 1).toNat = i + 1 := by omega
  have j3 : wrap64 ((i : Int) + 1) = (i : Int) + 1 := by unfold wrap64; omega
  have j4 : (i : Int) ≤ (i : Int) + 1 := by omega
  have j5 : (Lr.length : Int) ≤ (i : Int) + 1 := by have := HC.out; omega
  clear h hfr
  go_enter Try.func37, Try.ntmps37
  go_wp2_with fail
  refine start_ (n := 19) (S := fun w' => w'.cell? ⟨q, 0, none⟩ = some (.slice (some ⟨g, 0, none⟩) Lr.length c)) (ds := [18]) #[false, false, false, false, false, false, false, false, false, false, false, false, false, false, false, false, false, false, false] (by kernel_rfl) rfl rfl (c0) (fun hHeld => ?_)
  refine pure_ (i := 0) (N := some 4) (v := ?_) (a' := ?_) #[true, false, false, false, false, false, false, false, false, false, false, false, false, false, false, false, false, false, false] rfl rfl (by kernel_rfl) (fun _ _ _ h => h) (Or.inl ⟨by rfl, ?_⟩) ?_ ?_
  rotate_left
  · intro w'
    go_simp
    with_reducible rfl
  rotate_left
  · simp only [Act.put, List.setIfInBounds_toArray, List.set_cons_zero, List.set_cons_succ, i64_w, i32_w]
    rfl
  refine pure_ (i := 1) (N := some 5) (v := ?_) (a' := ?_) #[true, true, false, false, false, false, false, false, false, false, false, false, false, false, false, false, false, false, false] rfl rfl (by kernel_rfl) (fun _ _ _ h => h) (Or.inl ⟨by rfl, ?_⟩) ?_ ?_
  rotate_left
  · intro w'
    go_simp
    with_reducible rfl
  rotate_left
  · simp only [Act.put, List.setIfInBounds_toArray, List.set_cons_zero, List.set_cons_succ, i64_w, i32_w]
    rfl
  refine pure_ (i := 2) (N := some 6) (v := ?_) (a' := ?_) #[true, true, true, false, false, false, false, false, false, false, false, false, false, false, false, false, false, false, false] rfl rfl (by kernel_rfl) (fun _ _ _ h => h) (Or.inl ⟨by rfl, ?_⟩) ?_ ?_
  rotate_left
  · intro w'
    go_simp
    with_reducible rfl
  rotate_left
  · simp only [Act.put, List.setIfInBounds_toArray, List.set_cons_zero, List.set_cons_succ, i64_w, i32_w]
    rfl
  refine pure_ (i := 3) (N := some 7) (v := ?_) (a' := ?_) #[true, true, true, true, false, false, false, false, false, false, false, false, false, false, false, false, false, false, false] rfl rfl (by kernel_rfl) (fun _ _ _ h => h) (Or.inl ⟨by rfl, ?_⟩) ?_ ?_
  rotate_left
  · intro w'
    go_simp
    with_reducible rfl
  rotate_left
  · simp only [Act.put, List.setIfInBounds_toArray, List.set_cons_zero, List.set_cons_succ, i64_w, i32_w]
    rfl
  refine pure_ (i := 5) (N := some 9) (v := ?_) (a' := ?_) #[true, true, true, true, false, true, false, false, false, false, false, false, false, false, false, false, false, false, false] rfl rfl (by kernel_rfl) (fun _ _ _ h => h) (Or.inl ⟨by rfl, ?_⟩) ?_ ?_
  rotate_left
  · intro w'
    go_simp
    with_reducible rfl
  rotate_left
  · simp only [Act.put, List.setIfInBounds_toArray, List.set_cons_zero, List.set_cons_succ, i64_w, i32_w]
    rfl
  refine pure_ (i := 8) (N := some 12) (v := ?_) (a' := ?_) #[true, true, true, true, false, true, false, false, true, false, false, false, false, false, false, false, false, false, false] rfl rfl (by kernel_rfl) (fun _ _ _ h => h) (Or.inl ⟨by rfl, ?_⟩) ?_ ?_
  rotate_left
  · intro w'
    go_simp
    with_reducible rfl
  rotate_left
  · simp only [Act.put, List.setIfInBounds_toArray, List.set_cons_zero, List.set_cons_succ, i64_w, i32_w]
    rfl
  refine pure_ (i := 9) (N := some 13) (v := ?_) (a' := ?_) #[true, true, true, true, false, true, false, false, true, true, false, false, false, false, false, false, false, false, false] rfl rfl (by kernel_rfl) (fun _ _ _ h => h) (Or.inl ⟨by rfl, ?_⟩) ?_ ?_
  rotate_left
  · intro w'
    go_simp
    with_reducible rfl
  rotate_left
  · simp only [Act.put, List.setIfInBounds_toArray, List.set_cons_zero, List.set_cons_succ, i64_w, i32_w]
    rfl
  refine pure_ (i := 10) (N := some 14) (v := ?_) (a' := ?_) #[true, true, true, true, false, true, false, false, true, true, true, false, false, false, false, false, false, false, false] rfl rfl (by kernel_rfl) (fun _ _ _ h => h) (Or.inl ⟨by rfl, ?_⟩) ?_ ?_
  rotate_left
  · intro w'
    go_simp
    with_reducible rfl
  rotate_left
  · simp only [Act.put, List.setIfInBounds_toArray, List.set_cons_zero, List.set_cons_succ, i64_w, i32_w]
    rfl
  refine pure_ (i := 12) (N := some 16) (v := ?_) (a' := ?_) #[true, true, true, true, false, true, false, false, true, true, true, false, true, false, false, false, false, false, false] rfl rfl (by kernel_rfl) (fun _ _ _ h => h) (Or.inl ⟨by rfl, ?_⟩) ?_ ?_
  rotate_left
  · intro w'
    go_simp
    with_reducible rfl
  rotate_left
  · simp only [Act.put, List.setIfInBounds_toArray, List.set_cons_zero, List.set_cons_succ, i64_w, i32_w]
    rfl
  refine pure_ (i := 13) (N := some 17) (v := ?_) (a' := ?_) #[true, true, true, true, false, true, false, false, true, true, true, false, true, true, false, false, false, false, false] rfl rfl (by kernel_rfl) (fun _ _ _ h => h) (Or.inl ⟨by rfl, ?_⟩) ?_ ?_
  rotate_left
  · intro w'
    go_simp
    with_reducible rfl
  rotate_left
  · simp only [Act.put, List.setIfInBounds_toArray, List.set_cons_zero, List.set_cons_succ, i64_w, i32_w]
    rfl
  refine take_ (i := 4) (N := some 8) (v := ?_) (a' := ?_) #[true, true, true, true, true, true, false, false, true, true, true, false, true, true, false, false, false, false, false] rfl rfl (by kernel_rfl) (fun _ _ _ h => h) (Or.inl ⟨by rfl, ?_⟩) hHeld ?_ ?_
  rotate_left
  · intro w' s0
    go_simp
    with_reducible rfl
  rotate_left
  · simp only [Act.put, List.setIfInBounds_toArray, List.set_cons_zero, List.set_cons_succ, i64_w, i32_w]
    rfl
  refine pure_ (i := 6) (N := some 10) (v := ?_) (a' := ?_) #[true, true, true, true, true, true, true, false, true, true, true, false, true, true, false, false, false, false, false] rfl rfl (by kernel_rfl) (fun _ _ _ h => h) (Or.inl ⟨by rfl, ?_⟩) ?_ ?_
  rotate_left
  · intro w'
    go_simp
    with_reducible rfl
  rotate_left
  · simp only [Act.put, List.setIfInBounds_toArray, List.set_cons_zero, List.set_cons_succ, i64_w, i32_w]
    rfl
  refine take_ (i := 11) (N := some 15) (v := ?_) (a' := ?_) #[true, true, true, true, true, true, true, false, true, true, true, true, true, true, false, false, false, false, false] rfl rfl (by kernel_rfl) (fun _ _ _ h => h) (Or.inl ⟨by rfl, ?_⟩) hHeld ?_ ?_
  rotate_left
  · intro w' s0
    go_simp
    with_reducible rfl
  rotate_left
  · simp only [Act.put, List.setIfInBounds_toArray, List.set_cons_zero, List.set_cons_succ, i64_w, i32_w]
    rfl
  refine pure_ (i := 14) (N := some 18) (v := ?_) (a' := ?_) #[true, true, true, true, true, true, true, false, true, true, true, true, true, true, true, false, false, false, false] rfl rfl (by kernel_rfl) (fun _ _ _ h => h) (Or.inl ⟨by rfl, ?_⟩) ?_ ?_
  rotate_left
  · intro w'
    go_simp
    with_reducible rfl
  rotate_left
  · simp only [Act.put, List.setIfInBounds_toArray, List.set_cons_zero, List.set_cons_succ, i64_w, i32_w]
    rfl
  refine one_ (i := 7) (N := some 11) #[true, true, true, true, true, true, true, true, true, true, true, true, true, true, true, false, false, false, false] rfl rfl (by kernel_rfl) (by decide) (fun K hK => ?_)
  refine Kd.R_append_rows_step kCI (w0 := w.drew) (W := w.drew) (Rr := fun x cs => kCI.K w.drew x cs) 0 (by rfl) _ _ 63 31 (itemV noItem) 88 rfl Try.underlying63 infoItem_ rfl (by decide) (by decide) (.slice none 0 0) ([]) (Lr.take i) (some ⟨g, 0, none⟩) (i) (c) ok (fun _ => False) rfl ?aX (Kd.R_nil _ _ _ _ _) ?aC (fun _ _ h => h) (fun _ h => h.elim) ?aF (Below.refl _ _) (Nat.zero_le _) ?aL ?_
  case aX => rfl
  case aC => have h := Kd.C_take (k := kCI) HR.out.drew.reads (m := i) (by omega); rw [List.length_take, Nat.min_eq_left (by omega)] at h; exact h
  case aF => exact fun k hk => HFR.out k hk
  case aL => simp; omega
  intro v3 w3 ho hb hg hat
  obtain ⟨A3, c3, rfl⟩ := Kd.R_slice ho
  have HO3 := Aside0.mk ho; have K3 := Aside0.mk (Keep.of_grown hg (Keep.drew (Keep.refl w (RefS q (some ⟨g, 0, none⟩)))) (fun k e => by cases e)); have HR3 := Aside0.mk (HR.out.drew.kept (S := fun _ => False) (Kept.of_grown1 hg (fun k e => by cases e)) (fun e => e) (fun k e => e.elim)); have HF3 : Aside0 (∀ k, (Value.slice A3 (Lr.take i).length c3).ownBlock = some k → w.heap.size ≤ k) := Aside0.mk (fun k hk => own_fresh hat hk); clear ho hb hg hat
  have c3_ : w3.cell? ⟨q, 0, none⟩ = some (.slice (some ⟨g, 0, none⟩) Lr.length c) := HR3.out.blk.cell 0
  refine hK.out _ _ (c3_) (fun hHeld => ?_)
  clear hK K
  refine norm_ (a' := ?_) ?_ ?_
  rotate_left
  · show Act.put _ (some 11) _ = _
    simp only [Act.put, List.setIfInBounds_toArray, List.set_cons_zero, List.set_cons_succ, i64_w, i32_w]
    rfl
  refine one_ (i := 15) (N := some 19) #[true, true, true, true, true, true, true, true, true, true, true, true, true, true, true, true, false, false, false] rfl rfl (by kernel_rfl) (by decide) (fun K hK => ?_)
  refine Kd.R_append_rows_step kCI (w0 := w3) (W := w3) (Rr := fun x cs => kCI.K w3 x cs) 0 (by rfl) _ _ 63 31 (itemV noItem) 88 rfl Try.underlying63 infoItem_ rfl (by decide) (by decide) (.slice A3 (Lr.take i).length c3) (Lr.take i) (Lr.drop (i + 1)) (some ⟨g, 0, none⟩) (Lr.length - c) (0) ok (fun _ => False) rfl ?aX (HO3.out) ?aC (fun _ _ h => h) (fun _ h => h.elim) ?aF (Below.refl _ _) (Nat.zero_le _) ?aL ?_
  case aX => rfl
  case aC => have h := Kd.C_drop (k := kCI) (c := c) HR3.out.reads (m := i + 1) (by omega) HC.out; rw [List.length_drop, if_pos hcase.symm, show Lr.length - (i + 1) = Lr.length - c by rw [hcase]] at h; exact h
  case aF => exact fun k hk => HFR.out k (Nat.le_trans K3.out.1 hk)
  case aL => simp only [List.length_take]; omega
  intro v4 w4 ho hb hg hat
  obtain ⟨A4, c4, rfl⟩ := Kd.R_slice ho
  have HO4 := Aside0.mk ho; have F4 : Aside0 (∀ k, (Value.slice A4 (Lr.take i ++ Lr.drop (i + 1)).length c4).ownBlock = some k → w.heap.size ≤ k) := Aside0.mk (fun k hk => own_next HF3.out K3.out.1 hat hk); have K4 := Aside0.mk (Keep.of_grown hg K3.out (fun k e => .inr (HF3.out k e))); have HROWS : Aside0 (∀ x ∈ Lr.take i ++ Lr.drop (i + 1), RowR w4 ok x) := Aside0.mk (fun x hx => (HR3.out.rows x ((List.mem_append.1 hx).elim List.mem_of_mem_take List.mem_of_mem_drop)).grownL HO3.out hg); have BQ4 : Aside0 (Blk w4 q [.slice (some ⟨g, 0, none⟩) Lr.length c, .int .i64 n] 65) := Aside0.mk ((hg.block q HR3.out.blk.lt (fun e => by have h1 := HF3.out q e.symm; have h2 := HR.out.blk.lt; omega)).trans HR3.out.blk); clear ho hb hg hat
  have c4_ : w4.cell? ⟨q, 0, none⟩ = some (.slice (some ⟨g, 0, none⟩) Lr.length c) := BQ4.out.cell 0
  refine hK.out _ _ (c4_) (fun hHeld => ?_)
  clear hK K
  refine norm_ (a' := ?_) ?_ ?_
  rotate_left
  · show Act.put _ (some 19) _ = _
    simp only [Act.put, List.setIfInBounds_toArray, List.set_cons_zero, List.set_cons_succ, i64_w, i32_w]
    rfl
  refine pure_ (i := 16) (N := some 20) (v := ?_) (a' := ?_) #[true, true, true, true, true, true, true, true, true, true, true, true, true, true, true, true, true, false, false] rfl rfl (by kernel_rfl) (fun _ _ _ h => h) (Or.inl ⟨by rfl, ?_⟩) ?_ ?_
  rotate_left
  · intro w'
    go_simp
    with_reducible rfl
  rotate_left
  · simp only [Act.put, List.setIfInBounds_toArray, List.set_cons_zero, List.set_cons_succ, i64_w, i32_w]
    rfl
  refine pure_ (i := 17) (N := some 21) (v := ?_) (a' := ?_) #[true, true, true, true, true, true, true, true, true, true, true, true, true, true, true, true, true, true, false] rfl rfl (by kernel_rfl) (fun _ _ _ h => h) (Or.inl ⟨by rfl, ?_⟩) ?_ ?_
  rotate_left
  · intro w'
    go_simp
    with_reducible rfl
  rotate_left
  · simp only [Act.put, List.setIfInBounds_toArray, List.set_cons_zero, List.set_cons_succ, i64_w, i32_w]
    rfl
  refine last_ (i := 18) (N := none) #[true, true, true, true, true, true, true, true, true, true, true, true, true, true, true, true, true, true, true] rfl rfl (by kernel_rfl) (by decide) (fun K hK => ?_)
  refine store_reg (by rfl) rfl (t := 63) rfl q 0 _ 65 _ rfl rfl BQ4.out [.slice A4 (Lr.take i ++ Lr.drop (i + 1)).length c4] ?aV size_slice63 (show (1 : Nat) ≤ 2 by decide) (by intro u hu; rw [List.mem_singleton.1 hu]; rfl) ?_
  case aV => rfl
  intro w5 hk hg
  have HR5 : Aside0 (RefB w5 q A4 c4 n (Lr.take i ++ Lr.drop (i + 1)) ok) := Aside0.mk (RefB.setL' BQ4.out hk hg HO4.out HROWS.out); have K5 := Aside0.mk (Keep.of_grown hg K4.out (fun k e => .inl (.inl (Option.some.inj e).symm))); clear hk hg
  refine hK.out _ _ ?_
  clear hK K
  refine done_ (by kernel_rfl) ?_
  go_end0
  refine ⟨rfl, A4, c4, Lr.take i ++ Lr.drop (i + 1), HR5.out, ?_, K5.out, fun ad e => .inr (F4.out ad.block (by rw [e]; simp [Value.ownBlock]))⟩
  rw [List.eraseIdx_eq_take_drop_succ, List.map_append, List.map_take, List.map_drop]
theorem rdrop.calls (w : World) (q g : Nat) (c : Nat) (n : Int) (Lr : List CI) (ok : Nat → Prop) (h : RefB w q (some ⟨g, 0, none⟩) c n Lr ok) (hfr : ∀ k, w.heap.size ≤ k → ok k) (hl : Lr.length ≤ 1000) (i : Nat) (hi : i < Lr.length) :
    Calls Try.prog 37 #[.pointer (some ⟨q, 0, none⟩), .int .i64 i] w fun e w' => e = .returned (.tuple #[]) ∧ RefTo w w' q (some ⟨g, 0, none⟩) ok ((Lr.map CI.pure).eraseIdx i) n := by
  by_cases hc : c = i + 1
  · exact rdrop2.calls w q g c n Lr ok h hfr hl i hi hc.symm
  · exact rdrop1.calls w q g c n Lr ok h hfr hl i hi hc
end Go.Proofs.Ytmankbhlgjgnbaa.PAll
