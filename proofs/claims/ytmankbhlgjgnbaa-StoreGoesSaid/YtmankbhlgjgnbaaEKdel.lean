import Derived.Test.YtmankbhlgjgnbaaEKdr
/-! The reference's store: Delete. -/
namespace Go.Proofs.Ytmankbhlgjgnbaa.PAll
open Go.RowKit Go.Proofs.YtmankbhlgjgnbaaW.PrintWords Go.Proofs.YtmankbhlgjgnbaaW.PrintLast Go.Proofs.YtmankbhlgjgnbaaW.PrintMore Mem
set_option linter.unusedVariables false
set_option linter.unusedSimpArgs false
set_option maxHeartbeats 4000000 in
set_option maxRecDepth 100000 in
theorem rdelete_none.calls (w : World) (q : Nat) (A : Option Addr) (c : Nat) (n : Int) (Lr : List CI) (ok : Nat → Prop) (h : RefB w q A c n Lr ok) (hfr : ∀ k, w.heap.size ≤ k → ok k) (hl : Lr.length ≤ 1000) (hn0 : 0 ≤ n) (hn1 : n < 1000000000) (kind : Int) (nm : ByteArray) (v : Int) (hI : rI kind nm (Lr.map CI.pure) 0 = -1) :
    Calls Try.prog 21 #[.pointer (some ⟨q, 0, none⟩), .int .i64 kind, .string nm, .int .i64 v] w fun e w' => e = .returned (.int .i64 5) ∧ RefTo w w' q A ok (Lr.map CI.pure) n := by
  have HR := Aside0.mk h
  have HII := Aside0.mk hI
  clear h hfr hn0 hn1 hI
  go_enter Try.func21, Try.ntmps21
  go_wp2_with (first
    | (go_at_call 35; refine (show Calls Try.prog 35 #[.pointer (some ⟨q, 0, none⟩), .int .i64 kind, .string nm] w fun e w' => e = .returned (.int .i64 (-1)) ∧ Below w.heap.size w w' from by have h := rfind.calls w q A c n Lr kind nm HR.out.blk HR.out.reads hl; rw [HII.out] at h; exact h).mono ?_; rintro e w1 ⟨rfl, hb⟩
       have X1 := Aside0.mk hb; have HR1 := Aside0.mk (HR.out.below hb); have K1 := Aside0.mk (Keep.of_below hb (RefS q A)); clear hb
       have c0 : w1.cell? ⟨q, 0, none⟩ = some (.slice A Lr.length c) := HR1.out.blk.cell 0
       have d0 : w1.cell? ⟨q, 1, none⟩ = some (.int .i64 n) := HR1.out.blk.cell 1))
  go_ret
  exact ⟨rfl, HR.out.to X1.out⟩
def rdeleteV (L : List PI) (n : Int) (i : Nat) (x : PI) (v : Int) : Int × (List PI × Int) :=
  if x.ver ≠ v then (100, (L, n))
  else if x.going = true then (101, (L, n))
  else if x.H.length = 0 then (0, (L.eraseIdx i, n + 1))
  else (0, (L.set i { x with ver := n + 1, going := true }, n + 1))
set_option maxHeartbeats 4000000 in
set_option maxRecDepth 100000 in
theorem rdelete_some.calls (w : World) (q : Nat) (A : Option Addr) (c : Nat) (n : Int) (Lr : List CI) (ok : Nat → Prop) (h : RefB w q A c n Lr ok) (hfr : ∀ k, w.heap.size ≤ k → ok k) (hl : Lr.length ≤ 1000) (hn0 : 0 ≤ n) (hn1 : n < 1000000000) (kind : Int) (nm : ByteArray) (i : Nat) (hi : i < Lr.length) (hI : rI kind nm (Lr.map CI.pure) 0 = (i : Int)) (v : Int) :
    Calls Try.prog 21 #[.pointer (some ⟨q, 0, none⟩), .int .i64 kind, .string nm, .int .i64 v] w fun e w' => e = .returned (.int .i64 (rdeleteV (Lr.map CI.pure) n i Lr[i].pure v).1) ∧ RefTo w w' q A ok (rdeleteV (Lr.map CI.pure) n i Lr[i].pure v).2.1 (rdeleteV (Lr.map CI.pure) n i Lr[i].pure v).2.2 := by
  have HR := Aside0.mk h
  have HFR := Aside0.mk hfr
  have HII := Aside0.mk hI
  have hw1 : wrap64 (n + 1) = n + 1 := by unfold wrap64; omega
  obtain ⟨g, rfl, _⟩ := own_ci h.row i hi
  have i0 : (0 : Int) ≤ (i : Int) := by omega
  have i1 : (i : Int) < (Lr.length : Int) := by omega
  have HGO : Aside0 ((Value.slice (some ⟨g, 0, none⟩) Lr.length c).ownBlock = some g) := Aside0.mk (by simp [Value.ownBlock])
  generalize hV : rdeleteV (Lr.map CI.pure) n i Lr[i].pure v = r
  unfold rdeleteV at hV
  clear h hfr hn0 hn1 hI
  obtain ⟨x, hLx⟩ : ∃ x, Lr[i] = x := ⟨_, rfl⟩
  have HLX := Aside0.mk hLx
  rw [hLx] at hV
  clear hLx
  have hv0 : x.pure.ver = x.ver := rfl
  have hg0 : x.pure.going = x.going := rfl
  have hh0 : x.pure.H.length = x.H.length := rfl
  rw [hv0, hg0, hh0] at hV
  clear hv0 hg0 hh0
  by_cases k1 : x.ver = v
  case neg =>
    rw [if_pos k1] at hV
    subst hV
    go_enter Try.func21, Try.ntmps21
    go_wp2_with (first
      | (go_at_call 35; refine (show Calls Try.prog 35 #[.pointer (some ⟨q, 0, none⟩), .int .i64 kind, .string nm] w fun e w' => e = .returned (.int .i64 ((i : Int))) ∧ Below w.heap.size w w' from by have h := rfind.calls w q (some ⟨g, 0, none⟩) c n Lr kind nm HR.out.blk HR.out.reads hl; rw [HII.out] at h; exact h).mono ?_; rintro e w1 ⟨rfl, hb⟩
         have X1 := Aside0.mk hb; have HR1 := Aside0.mk (HR.out.below hb); have K1 := Aside0.mk (Keep.of_below hb (RefS q (some ⟨g, 0, none⟩))); clear hb
         have c0 : w1.cell? ⟨q, 0, none⟩ = some (.slice (some ⟨g, 0, none⟩) Lr.length c) := HR1.out.blk.cell 0
         have d0 : w1.cell? ⟨q, 1, none⟩ = some (.int .i64 n) := HR1.out.blk.cell 1
         obtain ⟨z0, z1, z2, z3, z4, z5⟩ := elem_cells HR1.out.row i hi x HLX.out))
    go_ret
    exact ⟨rfl, HR.out.to X1.out⟩
  rw [if_neg (fun e => e k1)] at hV
  by_cases k6 : x.going = true
  · rw [if_pos k6] at hV
    subst hV
    go_enter Try.func21, Try.ntmps21
    go_wp2_with (first
      | (go_at_call 35; refine (show Calls Try.prog 35 #[.pointer (some ⟨q, 0, none⟩), .int .i64 kind, .string nm] w fun e w' => e = .returned (.int .i64 ((i : Int))) ∧ Below w.heap.size w w' from by have h := rfind.calls w q (some ⟨g, 0, none⟩) c n Lr kind nm HR.out.blk HR.out.reads hl; rw [HII.out] at h; exact h).mono ?_; rintro e w1 ⟨rfl, hb⟩
         have X1 := Aside0.mk hb; have HR1 := Aside0.mk (HR.out.below hb); have K1 := Aside0.mk (Keep.of_below hb (RefS q (some ⟨g, 0, none⟩))); clear hb
         have c0 : w1.cell? ⟨q, 0, none⟩ = some (.slice (some ⟨g, 0, none⟩) Lr.length c) := HR1.out.blk.cell 0
         have d0 : w1.cell? ⟨q, 1, none⟩ = some (.int .i64 n) := HR1.out.blk.cell 1
         obtain ⟨z0, z1, z2, z3, z4, z5⟩ := elem_cells HR1.out.row i hi x HLX.out))
    go_ret
    exact ⟨rfl, HR.out.to X1.out⟩
  rw [if_neg k6] at hV
  have k6' : x.going = false := by cases hg : x.going with | true => exact absurd hg k6 | false => rfl
  clear k6
  by_cases k7 : x.H.length = 0
  · rw [if_pos k7] at hV
    subst hV
    have k7' : ((x.H.length : Int) == 0) = true := by rw [k7]; rfl
    have K7 := Aside0.mk k7
    clear k7
    go_enter Try.func21, Try.ntmps21
    go_wp2_with (first
      | (go_at_call 35; refine (show Calls Try.prog 35 #[.pointer (some ⟨q, 0, none⟩), .int .i64 kind, .string nm] w fun e w' => e = .returned (.int .i64 ((i : Int))) ∧ Below w.heap.size w w' from by have h := rfind.calls w q (some ⟨g, 0, none⟩) c n Lr kind nm HR.out.blk HR.out.reads hl; rw [HII.out] at h; exact h).mono ?_; rintro e w1 ⟨rfl, hb⟩
         have X1 := Aside0.mk hb; have HR1 := Aside0.mk (HR.out.below hb); have K1 := Aside0.mk (Keep.of_below hb (RefS q (some ⟨g, 0, none⟩))); clear hb
         have c0 : w1.cell? ⟨q, 0, none⟩ = some (.slice (some ⟨g, 0, none⟩) Lr.length c) := HR1.out.blk.cell 0
         have d0 : w1.cell? ⟨q, 1, none⟩ = some (.int .i64 n) := HR1.out.blk.cell 1
         obtain ⟨z0, z1, z2, z3, z4, z5⟩ := elem_cells HR1.out.row i hi x HLX.out)
      | ((with_reducible refine gate_store (p := 43) rfl ?_); refine store_at rfl (t := 2) rfl rfl q 1 _ 65 _ rfl rfl HR1.out.blk [.int .i64 (n + 1)] (by rw [hw1]; rfl) size_i64 (show (2 : Nat) ≤ 2 from Nat.le_refl 2) (by intro u hu; rw [List.mem_singleton.1 hu]; rfl) ?_; intro w2 hk hg
         have HR2 : Aside0 (RefB w2 q (some ⟨g, 0, none⟩) (c) (n + 1) (Lr) ok) := Aside0.mk (HR1.out.setQ hk hg); have K2 := Aside0.mk (Keep.of_grown hg K1.out (fun k e => .inl (.inl (Option.some.inj e).symm))); have Z2 : Aside0 (w.heap.size ≤ w2.heap.size) := Aside0.mk K2.out.1; clear hk hg
         have c2 : w2.cell? ⟨q, 0, none⟩ = some (.slice (some ⟨g, 0, none⟩) (Lr).length (c)) := HR2.out.blk.cell 0
         have d2 : w2.cell? ⟨q, 1, none⟩ = some (.int .i64 (n + 1)) := HR2.out.blk.cell 1
         have y3 : w2.cell? ⟨g, i * 6 + 3, none⟩ = some (.slice x.ha x.H.length x.hc) := (elem_cells HR2.out.row i hi x HLX.out).2.2.2.1)
      | (go_at_call 37; refine (rdrop.calls w2 q g c (n + 1) Lr ok HR2.out ?aF hl i hi).mono ?_; (case aF => exact fun k hk => HFR.out k (Nat.le_trans Z2.out hk)); rintro e w3 ⟨rfl, A3, c3, L3, h3, e3, k3, f3⟩
         have H3 := Aside0.mk h3; have E3 := Aside0.mk e3; have K3 := Aside0.mk (K2.out.then_ k3 (fun k hk => .inl hk)); have F3 : Aside0 (∀ ad, A3 = some ad → RefS q (some ⟨g, 0, none⟩) ad.block ∨ w.heap.size ≤ ad.block) := Aside0.mk (fun ad e => (f3 ad e).imp (fun h => h) (fun h => Nat.le_trans Z2.out h)); clear h3 e3 k3 f3))
    go_ret
    exact ⟨rfl, A3, c3, L3, H3.out, E3.out, K3.out, F3.out⟩
  rw [if_neg k7] at hV
  subst hV
  have k7' : ((x.H.length : Int) == 0) = false := beq_eq_false_iff_ne.2 (by omega)
  have k7'' : ¬ x.H = [] := fun e => k7 (by rw [e]; rfl)
  have K7 := Aside0.mk k7
  clear k7
  go_enter Try.func21, Try.ntmps21
  go_wp2_with (first
    | (go_at_call 35; refine (show Calls Try.prog 35 #[.pointer (some ⟨q, 0, none⟩), .int .i64 kind, .string nm] w fun e w' => e = .returned (.int .i64 ((i : Int))) ∧ Below w.heap.size w w' from by have h := rfind.calls w q (some ⟨g, 0, none⟩) c n Lr kind nm HR.out.blk HR.out.reads hl; rw [HII.out] at h; exact h).mono ?_; rintro e w1 ⟨rfl, hb⟩
       have X1 := Aside0.mk hb; have HR1 := Aside0.mk (HR.out.below hb); have K1 := Aside0.mk (Keep.of_below hb (RefS q (some ⟨g, 0, none⟩))); clear hb
       have c0 : w1.cell? ⟨q, 0, none⟩ = some (.slice (some ⟨g, 0, none⟩) Lr.length c) := HR1.out.blk.cell 0
       have d0 : w1.cell? ⟨q, 1, none⟩ = some (.int .i64 n) := HR1.out.blk.cell 1
       obtain ⟨z0, z1, z2, z3, z4, z5⟩ := elem_cells HR1.out.row i hi x HLX.out)
    | ((with_reducible refine gate_store (p := 43) rfl ?_); refine store_at rfl (t := 2) rfl rfl q 1 _ 65 _ rfl rfl HR1.out.blk [.int .i64 (n + 1)] (by rw [hw1]; rfl) size_i64 (show (2 : Nat) ≤ 2 from Nat.le_refl 2) (by intro u hu; rw [List.mem_singleton.1 hu]; rfl) ?_; intro w2 hk hg
       have HR2 : Aside0 (RefB w2 q (some ⟨g, 0, none⟩) (c) (n + 1) (Lr) ok) := Aside0.mk (HR1.out.setQ hk hg); have K2 := Aside0.mk (Keep.of_grown hg K1.out (fun k e => .inl (.inl (Option.some.inj e).symm))); have Z2 : Aside0 (w.heap.size ≤ w2.heap.size) := Aside0.mk K2.out.1; clear hk hg
       have c2 : w2.cell? ⟨q, 0, none⟩ = some (.slice (some ⟨g, 0, none⟩) (Lr).length (c)) := HR2.out.blk.cell 0
       have d2 : w2.cell? ⟨q, 1, none⟩ = some (.int .i64 (n + 1)) := HR2.out.blk.cell 1
       have y3 : w2.cell? ⟨g, i * 6 + 3, none⟩ = some (.slice x.ha x.H.length x.hc) := (elem_cells HR2.out.row i hi x HLX.out).2.2.2.1))
  refine start_ (n := 12) (S := fun w' => w'.cell? ⟨q, 0, none⟩ = some (.slice (some ⟨g, 0, none⟩) Lr.length c) ∧ w'.cell? ⟨q, 1, none⟩ = some (.int .i64 (n + 1))) (ds := [11]) #[false, false, false, false, false, false, false, false, false, false, false, false] (by kernel_rfl) rfl rfl ⟨c2, d2⟩ (fun hHeld => ?_)
  refine pure_ (i := 0) (N := some 57) (v := ?_) (a' := ?_) #[true, false, false, false, false, false, false, false, false, false, false, false] rfl rfl (by kernel_rfl) (fun _ _ _ h => h) (Or.inl ⟨by rfl, ?_⟩) ?_ ?_
  rotate_left
  · intro w'
    go_simp
    with_reducible rfl
  rotate_left
  · simp only [Act.put, List.setIfInBounds_toArray, List.set_cons_zero, List.set_cons_succ, i64_w, i32_w]
    rfl
  refine pure_ (i := 1) (N := some 58) (v := ?_) (a' := ?_) #[true, true, false, false, false, false, false, false, false, false, false, false] rfl rfl (by kernel_rfl) (fun _ _ _ h => h) (Or.inl ⟨by rfl, ?_⟩) ?_ ?_
  rotate_left
  · intro w'
    go_simp
    with_reducible rfl
  rotate_left
  · simp only [Act.put, List.setIfInBounds_toArray, List.set_cons_zero, List.set_cons_succ, i64_w, i32_w]
    rfl
  refine pure_ (i := 2) (N := some 59) (v := ?_) (a' := ?_) #[true, true, true, false, false, false, false, false, false, false, false, false] rfl rfl (by kernel_rfl) (fun _ _ _ h => h) (Or.inl ⟨by rfl, ?_⟩) ?_ ?_
  rotate_left
  · intro w'
    go_simp
    with_reducible rfl
  rotate_left
  · simp only [Act.put, List.setIfInBounds_toArray, List.set_cons_zero, List.set_cons_succ, i64_w, i32_w]
    rfl
  refine pure_ (i := 4) (N := some 61) (v := ?_) (a' := ?_) #[true, true, true, false, true, false, false, false, false, false, false, false] rfl rfl (by kernel_rfl) (fun _ _ _ h => h) (Or.inl ⟨by rfl, ?_⟩) ?_ ?_
  rotate_left
  · intro w'
    go_simp
    with_reducible rfl
  rotate_left
  · simp only [Act.put, List.setIfInBounds_toArray, List.set_cons_zero, List.set_cons_succ, i64_w, i32_w]
    rfl
  refine pure_ (i := 5) (N := some 62) (v := ?_) (a' := ?_) #[true, true, true, false, true, true, false, false, false, false, false, false] rfl rfl (by kernel_rfl) (fun _ _ _ h => h) (Or.inl ⟨by rfl, ?_⟩) ?_ ?_
  rotate_left
  · intro w'
    go_simp
    with_reducible rfl
  rotate_left
  · simp only [Act.put, List.setIfInBounds_toArray, List.set_cons_zero, List.set_cons_succ, i64_w, i32_w]
    rfl
  refine pure_ (i := 6) (N := some 63) (v := ?_) (a' := ?_) #[true, true, true, false, true, true, true, false, false, false, false, false] rfl rfl (by kernel_rfl) (fun _ _ _ h => h) (Or.inl ⟨by rfl, ?_⟩) ?_ ?_
  rotate_left
  · intro w'
    go_simp
    with_reducible rfl
  rotate_left
  · simp only [Act.put, List.setIfInBounds_toArray, List.set_cons_zero, List.set_cons_succ, i64_w, i32_w]
    rfl
  refine pure_ (i := 7) (N := some 64) (v := ?_) (a' := ?_) #[true, true, true, false, true, true, true, true, false, false, false, false] rfl rfl (by kernel_rfl) (fun _ _ _ h => h) (Or.inl ⟨by rfl, ?_⟩) ?_ ?_
  rotate_left
  · intro w'
    go_simp
    with_reducible rfl
  rotate_left
  · simp only [Act.put, List.setIfInBounds_toArray, List.set_cons_zero, List.set_cons_succ, i64_w, i32_w]
    rfl
  refine take_ (i := 3) (N := some 60) (v := ?_) (a' := ?_) #[true, true, true, true, true, true, true, true, false, false, false, false] rfl rfl (by kernel_rfl) (fun _ _ _ h => h) (Or.inl ⟨by rfl, ?_⟩) hHeld ?_ ?_
  rotate_left
  · rintro w' ⟨s0, s1⟩
    go_simp
    with_reducible rfl
  rotate_left
  · simp only [Act.put, List.setIfInBounds_toArray, List.set_cons_zero, List.set_cons_succ, i64_w, i32_w]
    rfl
  refine take_ (i := 8) (N := some 65) (v := ?_) (a' := ?_) #[true, true, true, true, true, true, true, true, true, false, false, false] rfl rfl (by kernel_rfl) (fun _ _ _ h => h) (Or.inl ⟨by rfl, ?_⟩) hHeld ?_ ?_
  rotate_left
  · rintro w' ⟨s0, s1⟩
    go_simp
    with_reducible rfl
  rotate_left
  · simp only [Act.put, List.setIfInBounds_toArray, List.set_cons_zero, List.set_cons_succ, i64_w, i32_w]
    rfl
  refine pure_ (i := 9) (N := some 66) (v := ?_) (a' := ?_) #[true, true, true, true, true, true, true, true, true, true, false, false] rfl rfl (by kernel_rfl) (fun _ _ _ h => h) (Or.inl ⟨by rfl, ?_⟩) ?_ ?_
  rotate_left
  · intro w'
    go_simp
    with_reducible rfl
  rotate_left
  · simp only [Act.put, List.setIfInBounds_toArray, List.set_cons_zero, List.set_cons_succ, i64_w, i32_w]
    rfl
  refine pure_ (i := 10) (N := some 67) (v := ?_) (a' := ?_) #[true, true, true, true, true, true, true, true, true, true, true, false] rfl rfl (by kernel_rfl) (fun _ _ _ h => h) (Or.inl ⟨by rfl, ?_⟩) ?_ ?_
  rotate_left
  · intro w'
    go_simp
    with_reducible rfl
  rotate_left
  · simp only [Act.put, List.setIfInBounds_toArray, List.set_cons_zero, List.set_cons_succ, i64_w, i32_w]
    rfl
  refine last_ (i := 11) (N := none) #[true, true, true, true, true, true, true, true, true, true, true, true] rfl rfl (by kernel_rfl) (by decide) (fun K hK => ?_)
  refine elem_reg (by rfl) rfl (t := 2) rfl i 2 { x with ver := n + 1 } (.int .i64 (n + 1)) [.int .i64 (n + 1)] rfl ?aO rfl rfl size_i64 (by intro u hu; rw [List.mem_singleton.1 hu]; rfl) HR2.out.drew.row ?aH (show 2 + 1 ≤ 6 by decide) ?aM ?_
  case aO => simp only [Nat.zero_add]
  case aH => exact hi
  case aM => rw [HLX.out]; rfl
  intro w3 hk hg
  have HR3 : Aside0 (RefB w3 q (some ⟨g, 0, none⟩) c (n + 1) (Lr.set i { x with ver := n + 1 }) ok) := Aside0.mk (HR2.out.drew.setX hk hg ⟨(HR2.out.drew.rows x (HLX.out ▸ List.getElem_mem hi)).hr, (HR2.out.drew.rows x (HLX.out ▸ List.getElem_mem hi)).br⟩); have K3 := Aside0.mk (Keep.of_grown hg (Keep.drew K2.out) (fun k e => .inl (.inr ⟨_, rfl, (Option.some.inj e).symm⟩))); clear hk hg
  have c3 : w3.cell? ⟨q, 0, none⟩ = some (.slice (some ⟨g, 0, none⟩) Lr.length c) := by have h := HR3.out.blk.cell 0; rw [List.length_set] at h; exact h
  refine hK.out _ _ ?_
  clear hK K
  refine done_ (by kernel_rfl) ?_
  go_wp2_with (first
    | ((with_reducible refine gate_store (p := 74) rfl ?_); refine elem_at rfl rfl (t := 4) rfl i 5 { x with ver := n + 1, going := true } (.bool true) [.bool true] rfl ?aO rfl rfl size_bool (by intro u hu; rw [List.mem_singleton.1 hu]; rfl) HR3.out.row ?aH (show 5 + 1 ≤ 6 by decide) ?aM ?_; (case aO => simp only [Nat.zero_add]); (case aH => exact (by rw [List.length_set]; exact hi)); (case aM => rw [List.getElem_set_self]; rfl); intro w5 hk hg
       have hk2 : Kd.R kCI 31 w5 0 ok (.slice (some ⟨g, 0, none⟩) (Lr.set i { x with ver := n + 1 }).length c) ((Lr.set i { x with ver := n + 1 }).set i { x with ver := n + 1, going := true }) := hk
       have HR5 : Aside0 (RefB w5 q (some ⟨g, 0, none⟩) c (n + 1) ((Lr.set i { x with ver := n + 1 }).set i { x with ver := n + 1, going := true }) ok) := Aside0.mk (HR3.out.setX hk2 hg ⟨(HR3.out.rows { x with ver := n + 1 } (List.mem_set hi _)).hr, (HR3.out.rows { x with ver := n + 1 } (List.mem_set hi _)).br⟩); have K5 := Aside0.mk (Keep.of_grown hg K3.out (fun k e => .inl (.inr ⟨_, rfl, (Option.some.inj e).symm⟩))); clear hk hk2 hg))
  go_ret
  refine ⟨rfl, some ⟨g, 0, none⟩, c, (Lr.set i { x with ver := n + 1 }).set i { x with ver := n + 1, going := true }, HR5.out, ?_, K5.out, fun ad e => .inl (.inr ⟨ad, e, rfl⟩)⟩
  rw [List.set_set, List.map_set]
  rfl
end Go.Proofs.Ytmankbhlgjgnbaa.PAll
