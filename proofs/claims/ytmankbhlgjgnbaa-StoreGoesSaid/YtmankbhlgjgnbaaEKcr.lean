import Derived.Test.YtmankbhlgjgnbaaMKa
/-! The reference's store: Create. -/
namespace Go.Proofs.Ytmankbhlgjgnbaa.PAll
open Go.RowKit Go.Proofs.YtmankbhlgjgnbaaW.PrintWords Go.Proofs.YtmankbhlgjgnbaaW.PrintLast Go.Proofs.YtmankbhlgjgnbaaW.PrintMore Mem
set_option linter.unusedVariables false
set_option linter.unusedSimpArgs false
def rcreateV (L : List PI) (n : Int) (kind : Int) (nm : ByteArray) (B : List Int) : (Int × Int) × (List PI × Int) :=
  if kind < 1 ∨ kind > 5 ∨ nm.size < 1 ∨ nm.size > 50 then ((0, 1), (L, n))
  else if B.length > 4096 then ((0, 2), (L, n))
  else if 0 ≤ rI kind nm L 0 then ((0, 6), (L, n))
  else if L.length ≥ 128 then ((0, 3), (L, n))
  else ((n + 1, 0), (L ++ [⟨kind, nm, n + 1, [], B, false⟩], n + 1))
set_option maxHeartbeats 4000000 in
set_option maxRecDepth 100000 in
theorem rcreate.calls (w : World) (q : Nat) (A : Option Addr) (c : Nat) (n : Int) (Lr : List CI) (ok : Nat → Prop) (h : RefB w q A c n Lr ok) (hfr : ∀ k, w.heap.size ≤ k → ok k) (hl : Lr.length ≤ 1000) (hn0 : 0 ≤ n) (hn1 : n < 1000000000) (kind : Int) (nm : ByteArray) (bA : Option Addr) (bc : Nat) (B : List Int) (hB : Kd.C (Kd.int .u8) w bA B.length B) (hbc : B.length ≤ bc) (hBq : B ≠ [] → ∀ ad, bA = some ad → ¬ RefS q A ad.block) :
    Calls Try.prog 19 #[.pointer (some ⟨q, 0, none⟩), .int .i64 kind, .string nm, .slice bA B.length bc] w fun e w' => e = .returned (.tuple #[.int .i64 (rcreateV (Lr.map CI.pure) n kind nm B).1.1, .int .i64 (rcreateV (Lr.map CI.pure) n kind nm B).1.2]) ∧ RefTo w w' q A ok (rcreateV (Lr.map CI.pure) n kind nm B).2.1 (rcreateV (Lr.map CI.pure) n kind nm B).2.2 := by
  have HR := Aside0.mk h
  have HFR := Aside0.mk hfr
  have HB := Aside0.mk hB
  have HBC := Aside0.mk hbc
  have HBQ := Aside0.mk hBq
  have hw1 : wrap64 (n + 1) = n + 1 := by unfold wrap64; omega
  generalize hV : rcreateV (Lr.map CI.pure) n kind nm B = r
  unfold rcreateV at hV
  rw [List.length_map] at hV
  clear h hfr hB hbc hBq hn0 hn1
  generalize hII : rI kind nm (Lr.map CI.pure) 0 = I at hV
  have HII := Aside0.mk hII
  clear hII
  have hlI : Lr.length ≤ 1000 := hl
  by_cases k1 : kind < 1
  · rw [if_pos (.inl k1)] at hV
    subst hV
    go_enter Try.func19, Try.ntmps19
    go_wp2
    go_ret2
    exact ⟨rfl, HR.out.to (Below.refl _ _)⟩
  by_cases k2 : kind > 5
  · rw [if_pos (.inr (.inl k2))] at hV
    subst hV
    go_enter Try.func19, Try.ntmps19
    go_wp2
    go_ret2
    exact ⟨rfl, HR.out.to (Below.refl _ _)⟩
  by_cases k3 : nm.size < 1
  · rw [if_pos (.inr (.inr (.inl k3)))] at hV
    subst hV
    have k3' : (nm.size : Int) < 1 := by omega
    go_enter Try.func19, Try.ntmps19
    go_wp2
    go_ret2
    exact ⟨rfl, HR.out.to (Below.refl _ _)⟩
  have k3' : ¬ (nm.size : Int) < 1 := by omega
  by_cases k4 : nm.size > 50
  · rw [if_pos (.inr (.inr (.inr k4)))] at hV
    subst hV
    have k4' : (50 : Int) < (nm.size : Int) := by omega
    go_enter Try.func19, Try.ntmps19
    go_wp2
    go_ret2
    exact ⟨rfl, HR.out.to (Below.refl _ _)⟩
  have k4' : ¬ (50 : Int) < (nm.size : Int) := by omega
  rw [if_neg (by omega)] at hV
  by_cases k5 : B.length > 4096
  · rw [if_pos k5] at hV
    subst hV
    have k5' : (4096 : Int) < (B.length : Int) := by omega
    go_enter Try.func19, Try.ntmps19
    go_wp2
    go_ret2
    exact ⟨rfl, HR.out.to (Below.refl _ _)⟩
  have k5' : ¬ (4096 : Int) < (B.length : Int) := by omega
  rw [if_neg k5] at hV
  by_cases k6 : 0 ≤ I
  · rw [if_pos k6] at hV
    subst hV
    go_enter Try.func19, Try.ntmps19
    go_wp2_with (first
      | (go_at_call 35; refine (show Calls Try.prog 35 #[.pointer (some ⟨q, 0, none⟩), .int .i64 kind, .string nm] w fun e w' => e = .returned (.int .i64 (I)) ∧ Below w.heap.size w w' from by have h := rfind.calls w q A c n Lr kind nm HR.out.blk HR.out.reads hl; rw [HII.out] at h; exact h).mono ?_; rintro e w1 ⟨rfl, hb⟩
         have X1 := Aside0.mk hb; have HR1 := Aside0.mk (HR.out.below hb); have K1 := Aside0.mk (Keep.of_below hb (RefS q A)); clear hb
         have c0 : w1.cell? ⟨q, 0, none⟩ = some (.slice A Lr.length c) := HR1.out.blk.cell 0
         have d0 : w1.cell? ⟨q, 1, none⟩ = some (.int .i64 n) := HR1.out.blk.cell 1))
    go_ret2
    exact ⟨rfl, HR.out.to X1.out⟩
  rw [if_neg k6] at hV
  by_cases k7 : Lr.length ≥ 128
  · rw [if_pos k7] at hV
    subst hV
    have k7' : (128 : Int) ≤ (Lr.length : Int) := by omega
    go_enter Try.func19, Try.ntmps19
    go_wp2_with (first
      | (go_at_call 35; refine (show Calls Try.prog 35 #[.pointer (some ⟨q, 0, none⟩), .int .i64 kind, .string nm] w fun e w' => e = .returned (.int .i64 (I)) ∧ Below w.heap.size w w' from by have h := rfind.calls w q A c n Lr kind nm HR.out.blk HR.out.reads hl; rw [HII.out] at h; exact h).mono ?_; rintro e w1 ⟨rfl, hb⟩
         have X1 := Aside0.mk hb; have HR1 := Aside0.mk (HR.out.below hb); have K1 := Aside0.mk (Keep.of_below hb (RefS q A)); clear hb
         have c0 : w1.cell? ⟨q, 0, none⟩ = some (.slice A Lr.length c) := HR1.out.blk.cell 0
         have d0 : w1.cell? ⟨q, 1, none⟩ = some (.int .i64 n) := HR1.out.blk.cell 1))
    go_ret2
    exact ⟨rfl, HR.out.to X1.out⟩
  have k7' : ¬ (128 : Int) ≤ (Lr.length : Int) := by omega
  rw [if_neg k7] at hV
  subst hV
  have HFX : Aside0 (Fits ⟨kind, nm, n + 1, none, 0, [], bA, bc, B, false⟩) := Aside0.mk ⟨Nat.zero_le _, by show B.length ≤ 100000; omega⟩
  go_enter Try.func19, Try.ntmps19
  go_wp2_with (first
    | (go_at_call 35; refine (show Calls Try.prog 35 #[.pointer (some ⟨q, 0, none⟩), .int .i64 kind, .string nm] w fun e w' => e = .returned (.int .i64 (I)) ∧ Below w.heap.size w w' from by have h := rfind.calls w q A c n Lr kind nm HR.out.blk HR.out.reads hl; rw [HII.out] at h; exact h).mono ?_; rintro e w1 ⟨rfl, hb⟩
       have X1 := Aside0.mk hb; have HR1 := Aside0.mk (HR.out.below hb); have K1 := Aside0.mk (Keep.of_below hb (RefS q A)); clear hb
       have c0 : w1.cell? ⟨q, 0, none⟩ = some (.slice A Lr.length c) := HR1.out.blk.cell 0
       have d0 : w1.cell? ⟨q, 1, none⟩ = some (.int .i64 n) := HR1.out.blk.cell 1)
    | ((with_reducible refine gate_store (p := 50) rfl ?_); refine store_at rfl (t := 2) rfl rfl q 1 _ 65 _ rfl rfl HR1.out.blk [.int .i64 (n + 1)] (by rw [hw1]; rfl) size_i64 (show (2 : Nat) ≤ 2 from Nat.le_refl 2) (by intro u hu; rw [List.mem_singleton.1 hu]; rfl) ?_; intro w2 hk hg
       have HR2 : Aside0 (RefB w2 q (A) (c) (n + 1) (Lr) ok) := Aside0.mk (HR1.out.setQ hk hg); have K2 := Aside0.mk (Keep.of_grown hg K1.out (fun k e => .inl (.inl (Option.some.inj e).symm))); have Z2 : Aside0 (w.heap.size ≤ w2.heap.size) := Aside0.mk K2.out.1; clear hk hg
       have c2 : w2.cell? ⟨q, 0, none⟩ = some (.slice (A) (Lr).length (c)) := HR2.out.blk.cell 0
       have d2 : w2.cell? ⟨q, 1, none⟩ = some (.int .i64 (n + 1)) := HR2.out.blk.cell 1))
  refine start_ (n := 19) (S := fun w' => w'.cell? ⟨q, 0, none⟩ = some (.slice A Lr.length c) ∧ w'.cell? ⟨q, 1, none⟩ = some (.int .i64 (n + 1))) (ds := [18]) #[false, false, false, false, false, false, false, false, false, false, false, false, false, false, false, false, false, false, false] (by kernel_rfl) rfl rfl ⟨c2, d2⟩ (fun hHeld => ?_)
  refine pure_ (i := 0) (N := some 51) (v := ?_) (a' := ?_) #[true, false, false, false, false, false, false, false, false, false, false, false, false, false, false, false, false, false, false] rfl rfl (by kernel_rfl) (fun _ _ _ h => h) (Or.inl ⟨by rfl, ?_⟩) ?_ ?_
  rotate_left
  · intro w'
    go_simp
    with_reducible rfl
  rotate_left
  · simp only [Act.put, List.setIfInBounds_toArray, List.set_cons_zero, List.set_cons_succ, i64_w, i32_w]
    rfl
  refine pure_ (i := 1) (N := some 52) (v := ?_) (a' := ?_) #[true, true, false, false, false, false, false, false, false, false, false, false, false, false, false, false, false, false, false] rfl rfl (by kernel_rfl) (fun _ _ _ h => h) (Or.inl ⟨by rfl, ?_⟩) ?_ ?_
  rotate_left
  · intro w'
    go_simp
    with_reducible rfl
  rotate_left
  · simp only [Act.put, List.setIfInBounds_toArray, List.set_cons_zero, List.set_cons_succ, i64_w, i32_w]
    rfl
  refine pure_ (i := 2) (N := some 53) (v := ?_) (a' := ?_) #[true, true, true, false, false, false, false, false, false, false, false, false, false, false, false, false, false, false, false] rfl rfl (by kernel_rfl) (fun _ _ _ h => h) (Or.inl ⟨by rfl, ?_⟩) ?_ ?_
  rotate_left
  · intro w'
    go_simp
    with_reducible rfl
  rotate_left
  · simp only [Act.put, List.setIfInBounds_toArray, List.set_cons_zero, List.set_cons_succ, i64_w, i32_w]
    rfl
  refine pure_ (i := 3) (N := some 54) (v := ?_) (a' := ?_) #[true, true, true, true, false, false, false, false, false, false, false, false, false, false, false, false, false, false, false] rfl rfl (by kernel_rfl) (fun _ _ _ h => h) (Or.inl ⟨by rfl, ?_⟩) ?_ ?_
  rotate_left
  · intro w'
    go_simp
    with_reducible rfl
  rotate_left
  · simp only [Act.put, List.setIfInBounds_toArray, List.set_cons_zero, List.set_cons_succ, i64_w, i32_w]
    rfl
  refine pure_ (i := 5) (N := some 56) (v := ?_) (a' := ?_) #[true, true, true, true, false, true, false, false, false, false, false, false, false, false, false, false, false, false, false] rfl rfl (by kernel_rfl) (fun _ _ _ h => h) (Or.inl ⟨by rfl, ?_⟩) ?_ ?_
  rotate_left
  · intro w'
    go_simp
    with_reducible rfl
  rotate_left
  · simp only [Act.put, List.setIfInBounds_toArray, List.set_cons_zero, List.set_cons_succ, i64_w, i32_w]
    rfl
  refine pure_ (i := 6) (N := some 57) (v := ?_) (a' := ?_) #[true, true, true, true, false, true, true, false, false, false, false, false, false, false, false, false, false, false, false] rfl rfl (by kernel_rfl) (fun _ _ _ h => h) (Or.inl ⟨by rfl, ?_⟩) ?_ ?_
  rotate_left
  · intro w'
    go_simp
    with_reducible rfl
  rotate_left
  · simp only [Act.put, List.setIfInBounds_toArray, List.set_cons_zero, List.set_cons_succ, i64_w, i32_w]
    rfl
  refine pure_ (i := 7) (N := some 58) (v := ?_) (a' := ?_) #[true, true, true, true, false, true, true, true, false, false, false, false, false, false, false, false, false, false, false] rfl rfl (by kernel_rfl) (fun _ _ _ h => h) (Or.inl ⟨by rfl, ?_⟩) ?_ ?_
  rotate_left
  · intro w'
    go_simp
    with_reducible rfl
  rotate_left
  · simp only [Act.put, List.setIfInBounds_toArray, List.set_cons_zero, List.set_cons_succ, i64_w, i32_w]
    rfl
  refine pure_ (i := 8) (N := some 59) (v := ?_) (a' := ?_) #[true, true, true, true, false, true, true, true, true, false, false, false, false, false, false, false, false, false, false] rfl rfl (by kernel_rfl) (fun _ _ _ h => h) (Or.inl ⟨by rfl, ?_⟩) ?_ ?_
  rotate_left
  · intro w'
    go_simp
    with_reducible rfl
  rotate_left
  · simp only [Act.put, List.setIfInBounds_toArray, List.set_cons_zero, List.set_cons_succ, i64_w, i32_w]
    rfl
  refine pure_ (i := 9) (N := some 60) (v := ?_) (a' := ?_) #[true, true, true, true, false, true, true, true, true, true, false, false, false, false, false, false, false, false, false] rfl rfl (by kernel_rfl) (fun _ _ _ h => h) (Or.inl ⟨by rfl, ?_⟩) ?_ ?_
  rotate_left
  · intro w'
    go_simp
    with_reducible rfl
  rotate_left
  · simp only [Act.put, List.setIfInBounds_toArray, List.set_cons_zero, List.set_cons_succ, i64_w, i32_w]
    rfl
  refine pure_ (i := 11) (N := some 62) (v := ?_) (a' := ?_) #[true, true, true, true, false, true, true, true, true, true, false, true, false, false, false, false, false, false, false] rfl rfl (by kernel_rfl) (fun _ _ _ h => h) (Or.inl ⟨by rfl, ?_⟩) ?_ ?_
  rotate_left
  · intro w'
    go_simp
    with_reducible rfl
  rotate_left
  · simp only [Act.put, List.setIfInBounds_toArray, List.set_cons_zero, List.set_cons_succ, i64_w, i32_w]
    rfl
  refine take_ (i := 4) (N := some 55) (v := ?_) (a' := ?_) #[true, true, true, true, true, true, true, true, true, true, false, true, false, false, false, false, false, false, false] rfl rfl (by kernel_rfl) (fun _ _ _ h => h) (Or.inl ⟨by rfl, ?_⟩) hHeld ?_ ?_
  rotate_left
  · rintro w' ⟨s0, s1⟩
    go_simp
    with_reducible rfl
  rotate_left
  · simp only [Act.put, List.setIfInBounds_toArray, List.set_cons_zero, List.set_cons_succ, i64_w, i32_w]
    rfl
  refine take_ (i := 10) (N := some 61) (v := ?_) (a' := ?_) #[true, true, true, true, true, true, true, true, true, true, true, true, false, false, false, false, false, false, false] rfl rfl (by kernel_rfl) (fun _ _ _ h => h) (Or.inl ⟨by rfl, ?_⟩) hHeld ?_ ?_
  rotate_left
  · rintro w' ⟨s0, s1⟩
    go_simp
    with_reducible rfl
  rotate_left
  · simp only [Act.put, List.setIfInBounds_toArray, List.set_cons_zero, List.set_cons_succ, i64_w, i32_w]
    rfl
  refine pure_ (i := 12) (N := some 63) (v := ?_) (a' := ?_) #[true, true, true, true, true, true, true, true, true, true, true, true, true, false, false, false, false, false, false] rfl rfl (by kernel_rfl) (fun _ _ _ h => h) (Or.inl ⟨by rfl, ?_⟩) ?_ ?_
  rotate_left
  · intro w'
    go_simp
    with_reducible rfl
  rotate_left
  · simp only [Act.put, List.setIfInBounds_toArray, List.set_cons_zero, List.set_cons_succ, i64_w, i32_w]
    rfl
  refine one_ (i := 13) (N := some 64) #[true, true, true, true, true, true, true, true, true, true, true, true, true, true, false, false, false, false, false] rfl rfl (by kernel_rfl) (by decide) (fun K hK => ?_)
  refine goes_ Try.func36 (by kernel_rfl) rfl #[itemV ⟨kind, nm, n + 1, none, 0, [], bA, bc, B, false⟩] (by rfl) rfl rfl (by simp only [List.map_toArray, List.map_cons, List.map_nil]; rfl) ?_
  with_reducible refine (rcopy.calls ⟨kind, nm, n + 1, none, 0, [], bA, bc, B, false⟩ _ ⟨Kd.C_nil _ _, Nat.le_refl _, C_keptB HB.out (Keep.drew K2.out).kept HBQ.out, HBC.out⟩ HFX.out).mono ?_
  rintro e w3 ⟨y, rfl, hy, hyp, hb⟩
  refine ⟨_, rfl, ?_⟩
  have HY3 := Aside0.mk hy; have HYP := Aside0.mk hyp; have HR3 := Aside0.mk (HR2.out.drew.below hb); have K3 := Aside0.mk ((Keep.drew K2.out).below hb); have Z3 : Aside0 (w2.heap.size ≤ w3.heap.size) := Aside0.mk hb.size; clear hy hyp hb
  have c3 : w3.cell? ⟨q, 0, none⟩ = some (.slice A Lr.length c) := HR3.out.blk.cell 0
  have d3 : w3.cell? ⟨q, 1, none⟩ = some (.int .i64 (n + 1)) := HR3.out.blk.cell 1
  refine hK.out _ _ ⟨c3, d3⟩ (fun hHeld => ?_)
  clear hK K
  refine norm_ (a' := ?_) ?_ ?_
  rotate_left
  · show Act.put _ (some 64) _ = _
    simp only [Act.put, List.setIfInBounds_toArray, List.set_cons_zero, List.set_cons_succ, i64_w, i32_w]
    rfl
  refine one_ (i := 14) (N := some 65) #[true, true, true, true, true, true, true, true, true, true, true, true, true, true, true, false, false, false, false] rfl rfl (by kernel_rfl) (by decide) (fun K hK => ?_)
  refine value_ (by rfl) rfl (run_build1 w3 y rfl rfl) ?_
  refine hK.out _ _ ⟨(cell_al c3), (cell_al d3)⟩ (fun hHeld => ?_)
  clear hK K
  refine norm_ (a' := ?_) ?_ ?_
  rotate_left
  · show Act.put _ (some 65) _ = _
    simp only [Act.put, List.setIfInBounds_toArray, List.set_cons_zero, List.set_cons_succ, i64_w, i32_w]
    rfl
  refine one_ (i := 15) (N := some 66) #[true, true, true, true, true, true, true, true, true, true, true, true, true, true, true, true, false, false, false] rfl rfl (by kernel_rfl) (by decide) (fun K hK => ?_)
  refine Kd.R_append_step kCI (w0 := w3) (W := w3) 0 (by rfl) _ _ 63 31 (itemV noItem) 88 rfl Try.underlying63 infoItem_ rfl (by decide) (by decide) (.slice A Lr.length c) Lr y y.cells ok (fun _ => False) rfl rfl rfl (fun _ hk => hk.elim) ?aF HR3.out.row (Below.refl _ _) (Nat.zero_le _) ?aL ?_
  case aF => exact fun k hk => HFR.out k (Nat.le_trans K3.out.1 hk)
  case aL => omega
  intro v4 w4 ho hb hg hat
  obtain ⟨A4, c4, rfl⟩ := Kd.R_slice ho
  have FA4 : Aside0 (∀ ad, A4 = some ad → RefS q A ad.block ∨ w.heap.size ≤ ad.block) := Aside0.mk (fun ad e => own_refs (A' := A4) (m := (Lr ++ [y]).length) (c2 := c4) (l := Lr.length) (c := c) K3.out.1 hat (by rw [e]; simp [Value.ownBlock]))
  have HO4 := Aside0.mk ho; have K4 := Aside0.mk (Keep.of_grown hg K3.out (fun k e => .inl (RefS.own e))); have HROWS : Aside0 (∀ x ∈ Lr ++ [y], RowR w4 ok x) := Aside0.mk (fun x hx => (List.mem_append.1 hx).elim (fun hx => (HR3.out.rows x hx).grownL HR3.out.row hg) (fun hx => by obtain rfl := List.mem_singleton.1 hx; exact (RefB.fresh HY3.out Z2.out HFR.out).grownL HR3.out.row hg))
  have BQ4 : Aside0 (Blk w4 q [.slice A Lr.length c, .int .i64 (n + 1)] 65) := Aside0.mk ((hg.block q HR3.out.blk.lt (fun e => HR3.out.rowq q e.symm rfl)).trans HR3.out.blk); clear ho hb hg hat
  have c4_ : w4.cell? ⟨q, 0, none⟩ = some (.slice A Lr.length c) := BQ4.out.cell 0
  have d4_ : w4.cell? ⟨q, 1, none⟩ = some (.int .i64 (n + 1)) := BQ4.out.cell 1
  refine hK.out _ _ ⟨c4_, d4_⟩ (fun hHeld => ?_)
  clear hK K
  refine norm_ (a' := ?_) ?_ ?_
  rotate_left
  · show Act.put _ (some 66) _ = _
    simp only [Act.put, List.setIfInBounds_toArray, List.set_cons_zero, List.set_cons_succ, i64_w, i32_w]
    rfl
  refine pure_ (i := 16) (N := some 67) (v := ?_) (a' := ?_) #[true, true, true, true, true, true, true, true, true, true, true, true, true, true, true, true, true, false, false] rfl rfl (by kernel_rfl) (fun _ _ _ h => h) (Or.inl ⟨by rfl, ?_⟩) ?_ ?_
  rotate_left
  · intro w'
    go_simp
    with_reducible rfl
  rotate_left
  · simp only [Act.put, List.setIfInBounds_toArray, List.set_cons_zero, List.set_cons_succ, i64_w, i32_w]
    rfl
  refine pure_ (i := 17) (N := some 68) (v := ?_) (a' := ?_) #[true, true, true, true, true, true, true, true, true, true, true, true, true, true, true, true, true, true, false] rfl rfl (by kernel_rfl) (fun _ _ _ h => h) (Or.inl ⟨by rfl, ?_⟩) ?_ ?_
  rotate_left
  · intro w'
    go_simp
    with_reducible rfl
  rotate_left
  · simp only [Act.put, List.setIfInBounds_toArray, List.set_cons_zero, List.set_cons_succ, i64_w, i32_w]
    rfl
  refine last_ (i := 18) (N := none) #[true, true, true, true, true, true, true, true, true, true, true, true, true, true, true, true, true, true, true] rfl rfl (by kernel_rfl) (by decide) (fun K hK => ?_)
  refine store_reg (by rfl) rfl (t := 63) rfl q 0 _ 65 _ rfl rfl BQ4.out [.slice A4 (Lr ++ [y]).length c4] rfl size_slice63 (show (1 : Nat) ≤ 2 by decide) (by intro u hu; rw [List.mem_singleton.1 hu]; rfl) ?_
  intro w5 hk hg
  have HR5 : Aside0 (RefB w5 q A4 c4 (n + 1) (Lr ++ [y]) ok) := Aside0.mk (RefB.setL' BQ4.out hk hg HO4.out HROWS.out); have K5 := Aside0.mk (Keep.of_grown hg K4.out (fun k e => .inl (.inl (Option.some.inj e).symm))); clear hk hg
  have d5 : w5.cell? ⟨q, 1, none⟩ = some (.int .i64 (n + 1)) := HR5.out.blk.cell 1
  refine hK.out _ _ ?_
  clear hK K
  refine done_ (by kernel_rfl) ?_
  go_wp2
  go_ret2
  exact ⟨rfl, A4, c4, Lr ++ [y], HR5.out, by rw [List.map_append, List.map_singleton, HYP.out]; rfl, K5.out, fun ad e => FA4.out ad e⟩
end Go.Proofs.Ytmankbhlgjgnbaa.PAll
