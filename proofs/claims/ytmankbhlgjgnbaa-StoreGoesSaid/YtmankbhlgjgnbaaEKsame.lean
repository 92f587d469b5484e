import Derived.Test.YtmankbhlgjgnbaaEAgree
/-! same. -/
namespace Go.Proofs.Ytmankbhlgjgnbaa.PAll
open Go.RowKit Go.Proofs.YtmankbhlgjgnbaaW.PrintWords Go.Proofs.YtmankbhlgjgnbaaW.PrintLast Go.Proofs.YtmankbhlgjgnbaaW.PrintMore Mem
set_option linter.unusedVariables false
set_option linter.unusedSimpArgs false
theorem build1_at2 {ops : Array Oper} {rest : List Oper} {o : Oper} {a : Act} {Q : Exit → Act → World → Prop} {w : World} (hgd : o.guard = none) {x : Operand} (ho : o.op = .buildSlice 63 1 #[(0, x)]) (y : CI) (hx : a.eval x = itemV y)
    (h : ∀ g, g = w.heap.size → ∀ w', Blk w' g y.cells 31 → Below w.heap.size w w' → wpList Try.prog ops Q rest (a.put o.dst (.slice (some ⟨g, 0, none⟩) 1 1)) w') : wpList Try.prog ops Q (o :: rest) a w :=
  build1_at hgd ho y hx (h _ rfl _ (Blk.alloc_new w y.cells 31) (below_alloc (Below.refl _ _) _))
theorem reads_one {w : World} {g : Nat} {y : CI} (h : Blk w g y.cells 31) : Kd.C kCI w (some ⟨g, 0, none⟩) 1 [y] := by
  refine ⟨rfl, by decide, fun _ => ⟨_, rfl, fun j p hj => ?_⟩⟩
  cases j with
  | succ j => simp at hj
  | zero =>
    obtain rfl := Option.some.inj hj
    refine ⟨y.cells, rfl, rfl, fun i u hu => ?_⟩
    rw [add_plain, Nat.zero_mul, Nat.zero_add, h.cell i]
    exact hu
theorem RowNew.wr {w : World} {base : Nat} {y : CI} (h : RowNew w base y) : Wr w base 5 y.ba y.bc ∧ Wr w base 9 y.ha y.H.length :=
  ⟨(Wr.of_R h.br rfl).1, (Wr.of_R h.hr rfl).1.less (Wr.of_R h.hr rfl).2⟩
theorem Agree.get {s : St} {L : List PI} (h : Agree s L) {kind : Int} {x : PI} (hx : x ∈ pk kind s.L) : getV s (kind, x.name) = (x, 0) := by
  unfold pk at hx
  obtain ⟨q, hq, rfl⟩ := List.mem_map.1 hx
  have hq2 := List.mem_filter.1 hq
  have hk : q.1.1 = kind := of_decide_eq_true hq2.2
  have hkd := h.keyed q hq2.1
  have e : q.1 = (kind, q.2.name) := Prod.ext hk (show q.1.2 = q.2.name by rw [hkd])
  exact get_of (by rw [← e]; exact look_of_mem _ _ _ h.keys hq2.1)
theorem pk_mem {kind : Int} {M : List (Key × PI)} {x : PI} (h : x ∈ pk kind M) : ∃ k, (k, x) ∈ M := by
  unfold pk at h
  obtain ⟨q, hq, rfl⟩ := List.mem_map.1 h
  exact ⟨q.1, (List.mem_filter.1 hq).1⟩
set_option maxHeartbeats 8000000 in
set_option maxRecDepth 100000 in
theorem same.calls (w : World) (p b : Nat) (Lc : List (Key × CI)) (s : St) (q : Nat) (A : Option Addr) (c : Nat) (Lr : List CI) (ok : Nat → Prop) (hB : StoreB w p b Lc s.n) (hL : erase Lc = s.L) (hI : Inv s) (hR : RefB w q A c s.n Lr ok) (hA : Agree s (Lr.map CI.pure)) (hl : Lr.length ≤ 1000) :
    Calls Try.prog 24 #[ptrV p, .pointer (some ⟨q, 0, none⟩)] w fun e w' => e = .returned (.bool true) ∧ Below w.heap.size w w' := by
  have HS := Aside0.mk hB
  have HLL := Aside0.mk hL
  have HI := Aside0.mk hI
  have HR := Aside0.mk hR
  have HA := Aside0.mk hA
  have HLR := Aside0.mk hl
  have HLC : Aside0 (Lc.length ≤ 1000) := Aside0.mk (by have h := hA.perm.length_eq; rw [List.length_map, List.length_map, ← hL, erase_len] at h; omega)
  have HFC : Aside0 (∀ z ∈ Lc, Fits z.2) := Aside0.mk (fun z hz => by have h := hI.fits (z.1, z.2.pure) (by rw [← hL]; exact List.mem_map.2 ⟨z, hz, rfl⟩); exact h)
  have HFR : Aside0 (∀ z ∈ Lr, Fits z) := Aside0.mk (fun z hz => by have h := hI.fits _ (hA.mem.1 (List.mem_map_of_mem hz)); exact h)
  clear hB hL hI hR hA hl
  go_enter Try.func24, Try.ntmps24
  go_wp2
  go_loopg [5] 8 (fun kq v5 w' => ∃ (kd : Nat), v5 = .int .i64 (kd : Int) ∧ Aside0 (kq + kd = 8) ∧ Aside0 (kd ≤ 7) ∧ Aside0 (Below w.heap.size w w'))
  case atStart => exact ⟨0, rfl, ⟨rfl⟩, ⟨by decide⟩, ⟨Below.refl _ _⟩⟩
  case round =>
    obtain ⟨kd, rfl, HK, HKD, HB⟩ := hrel
    cases gk with
    | zero => exact absurd HK.out (by have := HKD.out; omega)
    | succ k1 =>
      by_cases c5 : kd < 7
      · have c5' : (kd : Int) ≤ 6 := by omega
        have hkw : wrap64 ((kd : Int) + 1) = ((kd + 1 : Nat) : Int) := w_succ (by omega)
        go_wp2_with (first
          | (go_at_call 38; refine (slist.calls wr p b Lc s.n (HS.out.below HB.out) HFC.out HLC.out (kd : Int)).mono ?_; rintro e w1 ⟨ys, A1, c1, rfl, hc, hty, hnew, hperm, hsort, hb⟩
             have HC1 := Aside0.mk hc; have HTY := Aside0.mk hty; have HN1 := Aside0.mk hnew; have HP1 := Aside0.mk hperm; have HSO := Aside0.mk hsort; have HB1 := Aside0.mk (below_then HB.out HB.out.size hb); have Z0 : Aside0 (w.heap.size ≤ wr.heap.size) := Aside0.mk HB.out.size; clear hc hty hnew hperm hsort hb)
          | (go_at_call 39; refine (rlist.calls w1 q A c s.n Lr ok (HR.out.below HB1.out) HLR.out HFR.out (kd : Int)).mono ?_; rintro e w2 ⟨os, A2, c2, rfl, hro, hnew, hpure, hlo, hb⟩
             have HRO := Aside0.mk hro; have HN2 := Aside0.mk hnew; have HP2 := Aside0.mk hpure; have X2 := Aside0.mk hb
             have HEQ : Aside0 (ys.map CI.pure = os.map CI.pure) := Aside0.mk ((HA.out.list (kd : Int) (by rw [← HLL.out]; exact HP1.out) (List.pairwise_map.2 HSO.out)).trans hpure.symm)
             have hlen : ((ys.length : Int) != (os.length : Int)) = false := by have h := congrArg List.length HEQ.out; rw [List.length_map, List.length_map] at h; rw [h]; simp
             have HYL : Aside0 (ys.length ≤ 1000) := Aside0.mk (by have h := congrArg List.length HEQ.out; rw [List.length_map, List.length_map] at h; omega)
             have HB2 := Aside0.mk (below_then HB1.out HB1.out.size hb); have HC2 := Aside0.mk (Kd.C_below HC1.out hb); have HYN : Aside0 (∀ y ∈ ys, RowNew w2 w.heap.size y) := Aside0.mk (fun y hy => ((HN1.out y hy).below hb).lower Z0.out); have HTY2 : Aside0 (∀ ad, A1 = some ad → ∃ cells, w2.heap[ad.block]? = some (.cells cells 31 (0, 0))) := Aside0.mk (fun ad hA => by obtain ⟨cells, hc⟩ := HTY.out ad hA; exact ⟨cells, (hb.block _ (Array.getElem?_eq_some_iff.1 hc).1).trans hc⟩); clear hro hnew hpure hlo hb))
        clear hlen
        go_loopg [28] (ys.length + 1) (fun kq2 v28 w' => ∃ (i : Nat), v28 = .int .i64 (i : Int) ∧ Aside0 (kq2 + i = ys.length + 1) ∧ Aside0 (i ≤ ys.length) ∧ Aside0 (Below w2.heap.size w2 w'))
        case atStart => exact ⟨0, rfl, ⟨rfl⟩, ⟨Nat.zero_le _⟩, ⟨Below.refl _ _⟩⟩
        case round =>
          obtain ⟨i, rfl, HK2, HI_, HBi⟩ := hrel
          have HBr := Aside0.mk (below_then HB2.out HB2.out.size HBi.out)
          cases gk with
          | zero => exact absurd HK2.out (by have := HI_.out; omega)
          | succ k2 =>
            by_cases c6 : i < ys.length
            · have c6' : (i : Int) < (ys.length : Int) := by omega
              have p0 : (0 : Int) ≤ (i : Int) := by omega
              have hlo : os.length = ys.length := by have h := congrArg List.length HEQ.out; rw [List.length_map, List.length_map] at h; exact h.symm
              have c7 : i < os.length := by omega
              have c7' : (i : Int) < (os.length : Int) := by omega
              clear hlo
              have hiw : wrap64 ((i : Int) + 1) = ((i + 1 : Nat) : Int) := w_succ (by have := HYL.out; omega)
              obtain ⟨ad, e1, hx0, hx1, hx2, hx3, hx4, hx5⟩ := at_ci HC2.out i c6
              cases e1
              obtain ⟨ad2, e2, hz0, hz1, hz2, hz3, hz4, hz5⟩ := at_ci (Kd.R_reads' HRO.out).2.2 i c7
              cases e2
              have HMY : Aside0 (ys[i] ∈ ys) := Aside0.mk (List.getElem_mem c6)
              have HMO : Aside0 (os[i] ∈ os) := Aside0.mk (List.getElem_mem c7)
              have HE : Aside0 (ys[i].pure = os[i].pure) := Aside0.mk (by
                have h : (ys.map CI.pure)[i]? = (os.map CI.pure)[i]? := by rw [HEQ.out]
                rw [List.getElem?_map, List.getElem?_map, List.getElem?_eq_getElem c6, List.getElem?_eq_getElem c7] at h
                exact Option.some.inj h)
              have HG : Aside0 (getV s ((kd : Int), ys[i].name) = (ys[i].pure, 0)) := Aside0.mk (HA.out.get (HP1.out.mem_iff.1 (List.mem_map_of_mem HMY.out) |> fun h => by rw [← HLL.out]; exact h))
              have HFX : Aside0 (ys[i].H.length ≤ 1000) := Aside0.mk (by
                have h := (HP1.out.mem_iff.1 (List.mem_map_of_mem HMY.out))
                rw [HLL.out] at h
                obtain ⟨k, hk⟩ := pk_mem h
                exact (HI.out.fits _ hk).1)
              generalize ys[i] = x at *
              generalize os[i] = u at *
              replace hx0 := pw_cell_below HBi.out hx0
              replace hx1 := pw_cell_below HBi.out hx1
              replace hx2 := pw_cell_below HBi.out hx2
              replace hx3 := pw_cell_below HBi.out hx3
              replace hx4 := pw_cell_below HBi.out hx4
              replace hx5 := pw_cell_below HBi.out hx5
              replace hz0 := pw_cell_below HBi.out hz0
              replace hz1 := pw_cell_below HBi.out hz1
              replace hz2 := pw_cell_below HBi.out hz2
              replace hz3 := pw_cell_below HBi.out hz3
              replace hz4 := pw_cell_below HBi.out hz4
              replace hz5 := pw_cell_below HBi.out hz5
              replace p0 := eq_true p0
              go_wp2_with (first
                | (go_at_call 9; refine (Get.to ⟨Lc, HS.out.below HBr.out, HLL.out⟩ HI.out.fits HG.out).mono ?_; rintro e w3 ⟨z, rfl, hz, hzy, hb⟩
                   have HZ3 := Aside0.mk hz; have HZP := Aside0.mk hzy; have X3 := Aside0.mk hb; clear hz hzy hb)
                | ((with_reducible refine gate_dst (N := 9) rfl ?_); refine new_at rfl (t := 31) rfl noItem.cells (itemV noItem) (fun W => zero_item W) rfl ?_; intro g9 hg w4 hk hb
                   have BZ9 := Aside0.mk hk; have X4 := Aside0.mk (below_then X3.out X3.out.size hb); have HZ4 := Aside0.mk (HZ3.out.below hb); have G9 : Aside0 (w3.heap.size ≤ g9) := Aside0.mk (by omega); clear hk hb hg)
                | ((with_reducible refine gate_store (p := 9) rfl ?_); refine store_at rfl (t := 31) rfl rfl g9 0 _ 31 _ rfl rfl BZ9.out z.cells rfl size_item (show (6 : Nat) ≤ 6 from Nat.le_refl 6) (cells_one _) ?_; intro w5 hk hg
                   have BI9 : Aside0 (Blk w5 g9 z.cells 31) := Aside0.mk hk
                   have X5 := Aside0.mk (pw_below_grown X4.out (some g9) X4.out.size hg (fun k e => by cases e; have := G9.out; have := X3.out.size; omega)); have HZ5 : Aside0 (RowNew w5 wr.heap.size z) := Aside0.mk ⟨R_keptT HZ4.out.hr rfl (Kept.of_grown1 (S := fun k => k = g9) hg (fun k e => (Option.some.inj e).symm)) (fun k e _ cells => by subst e; exact (Blk.noRow BZ9.out (by decide) (by decide) cells).1), R_keptT HZ4.out.br rfl (Kept.of_grown1 (S := fun k => k = g9) hg (fun k e => (Option.some.inj e).symm)) (fun k e _ cells => by subst e; exact (Blk.noRow BZ9.out (by decide) (by decide) cells).2)⟩; clear hk hg
                   have a0_ := pw_cell_below X5.out hx0; have b0_ := pw_cell_below X5.out hz0; have s0_ : w5.cell? ⟨g9, 0, none⟩ = some (.int .i64 z.kind) := BI9.out.cell 0; have a1_ := pw_cell_below X5.out hx1; have b1_ := pw_cell_below X5.out hz1; have s1_ : w5.cell? ⟨g9, 1, none⟩ = some (.string z.name) := BI9.out.cell 1; have a2_ := pw_cell_below X5.out hx2; have b2_ := pw_cell_below X5.out hz2; have s2_ : w5.cell? ⟨g9, 2, none⟩ = some (.int .i64 z.ver) := BI9.out.cell 2; have a3_ := pw_cell_below X5.out hx3; have b3_ := pw_cell_below X5.out hz3; have s3_ : w5.cell? ⟨g9, 3, none⟩ = some (.slice z.ha z.H.length z.hc) := BI9.out.cell 3; have a4_ := pw_cell_below X5.out hx4; have b4_ := pw_cell_below X5.out hz4; have s4_ : w5.cell? ⟨g9, 4, none⟩ = some (.slice z.ba z.B.length z.bc) := BI9.out.cell 4; have a5_ := pw_cell_below X5.out hx5; have b5_ := pw_cell_below X5.out hz5; have s5_ : w5.cell? ⟨g9, 5, none⟩ = some (.bool z.going) := BI9.out.cell 5))
              have HZL : Aside0 (z.H.length ≤ 1000) := Aside0.mk (by have h := congrArg (fun y => y.H.length) HZP.out; exact Nat.le_trans (Nat.le_of_eq h) HFX.out)
              refine start_ (n := 23) (S := fun w' => w'.cell? (ad.add (i * 6)) = some (.int .i64 x.kind) ∧ w'.cell? (⟨(ad.add (i * 6)).block, (ad.add (i * 6)).off + 1, none⟩) = some (.string x.name) ∧ w'.cell? (⟨(ad.add (i * 6)).block, (ad.add (i * 6)).off + 2, none⟩) = some (.int .i64 x.ver) ∧ w'.cell? (⟨(ad.add (i * 6)).block, (ad.add (i * 6)).off + 3, none⟩) = some (.slice x.ha x.H.length x.hc) ∧ w'.cell? (⟨(ad.add (i * 6)).block, (ad.add (i * 6)).off + 4, none⟩) = some (.slice x.ba x.B.length x.bc) ∧ w'.cell? (⟨(ad.add (i * 6)).block, (ad.add (i * 6)).off + 5, none⟩) = some (.bool x.going) ∧ w'.cell? (ad2.add (i * 6)) = some (.int .i64 u.kind) ∧ w'.cell? (⟨(ad2.add (i * 6)).block, (ad2.add (i * 6)).off + 1, none⟩) = some (.string u.name) ∧ w'.cell? (⟨(ad2.add (i * 6)).block, (ad2.add (i * 6)).off + 2, none⟩) = some (.int .i64 u.ver) ∧ w'.cell? (⟨(ad2.add (i * 6)).block, (ad2.add (i * 6)).off + 3, none⟩) = some (.slice u.ha u.H.length u.hc) ∧ w'.cell? (⟨(ad2.add (i * 6)).block, (ad2.add (i * 6)).off + 4, none⟩) = some (.slice u.ba u.B.length u.bc) ∧ w'.cell? (⟨(ad2.add (i * 6)).block, (ad2.add (i * 6)).off + 5, none⟩) = some (.bool u.going) ∧ w'.cell? (⟨g9, 0, none⟩) = some (.int .i64 z.kind) ∧ w'.cell? (⟨g9, 1, none⟩) = some (.string z.name) ∧ w'.cell? (⟨g9, 2, none⟩) = some (.int .i64 z.ver) ∧ w'.cell? (⟨g9, 3, none⟩) = some (.slice z.ha z.H.length z.hc) ∧ w'.cell? (⟨g9, 4, none⟩) = some (.slice z.ba z.B.length z.bc) ∧ w'.cell? (⟨g9, 5, none⟩) = some (.bool z.going)) (ds := []) #[false, false, false, false, false, false, false, false, false, false, false, false, false, false, false, false, false, false, false, false, false, false, false] (by kernel_rfl) rfl rfl ⟨a0_, a1_, a2_, a3_, a4_, a5_, b0_, b1_, b2_, b3_, b4_, b5_, s0_, s1_, s2_, s3_, s4_, s5_⟩ (fun hHeld => ?_)
              refine pure_ (i := 0) (N := some 42) (v := ?_) (a' := ?_) #[true, false, false, false, false, false, false, false, false, false, false, false, false, false, false, false, false, false, false, false, false, false, false] rfl rfl (by kernel_rfl) (fun _ _ _ h => h) (Or.inl ⟨by rfl, ?_⟩) ?_ ?_
              rotate_left
              · intro w'
                go_simp
                with_reducible rfl
              rotate_left
              · simp only [Act.put, List.setIfInBounds_toArray, List.set_cons_zero, List.set_cons_succ, i64_w, i32_w]
                rfl
              refine pure_ (i := 1) (N := some 43) (v := ?_) (a' := ?_) #[true, true, false, false, false, false, false, false, false, false, false, false, false, false, false, false, false, false, false, false, false, false, false] rfl rfl (by kernel_rfl) (fun _ _ _ h => h) (Or.inl ⟨by rfl, ?_⟩) ?_ ?_
              rotate_left
              · intro w'
                go_simp
                with_reducible rfl
              rotate_left
              · simp only [Act.put, List.setIfInBounds_toArray, List.set_cons_zero, List.set_cons_succ, i64_w, i32_w]
                rfl
              refine pure_ (i := 2) (N := some 44) (v := ?_) (a' := ?_) #[true, true, true, false, false, false, false, false, false, false, false, false, false, false, false, false, false, false, false, false, false, false, false] rfl rfl (by kernel_rfl) (fun _ _ _ h => h) (Or.inl ⟨by rfl, ?_⟩) ?_ ?_
              rotate_left
              · intro w'
                go_simp
                with_reducible rfl
              rotate_left
              · simp only [Act.put, List.setIfInBounds_toArray, List.set_cons_zero, List.set_cons_succ, i64_w, i32_w]
                rfl
              refine pure_ (i := 4) (N := some 46) (v := ?_) (a' := ?_) #[true, true, true, false, true, false, false, false, false, false, false, false, false, false, false, false, false, false, false, false, false, false, false] rfl rfl (by kernel_rfl) (fun _ _ _ h => h) (Or.inl ⟨by rfl, ?_⟩) ?_ ?_
              rotate_left
              · intro w'
                go_simp
                with_reducible rfl
              rotate_left
              · simp only [Act.put, List.setIfInBounds_toArray, List.set_cons_zero, List.set_cons_succ, i64_w, i32_w]
                rfl
              refine pure_ (i := 5) (N := some 47) (v := ?_) (a' := ?_) #[true, true, true, false, true, true, false, false, false, false, false, false, false, false, false, false, false, false, false, false, false, false, false] rfl rfl (by kernel_rfl) (fun _ _ _ h => h) (Or.inl ⟨by rfl, ?_⟩) ?_ ?_
              rotate_left
              · intro w'
                go_simp
                with_reducible rfl
              rotate_left
              · simp only [Act.put, List.setIfInBounds_toArray, List.set_cons_zero, List.set_cons_succ, i64_w, i32_w]
                rfl
              refine pure_ (i := 6) (N := some 48) (v := ?_) (a' := ?_) #[true, true, true, false, true, true, true, false, false, false, false, false, false, false, false, false, false, false, false, false, false, false, false] rfl rfl (by kernel_rfl) (fun _ _ _ h => h) (Or.inl ⟨by rfl, ?_⟩) ?_ ?_
              rotate_left
              · intro w'
                go_simp
                with_reducible rfl
              rotate_left
              · simp only [Act.put, List.setIfInBounds_toArray, List.set_cons_zero, List.set_cons_succ, i64_w, i32_w]
                rfl
              refine take_ (i := 3) (N := some 45) (v := ?_) (a' := ?_) #[true, true, true, true, true, true, true, false, false, false, false, false, false, false, false, false, false, false, false, false, false, false, false] rfl rfl (by kernel_rfl) (fun _ _ _ h => h) (Or.inl ⟨by rfl, ?_⟩) hHeld ?_ ?_
              rotate_left
              · rintro w' ⟨s0, s1, s2, s3, s4, s5, s6, s7, s8, s9, s10, s11, s12, s13, s14, s15, s16, s17⟩
                go_simp
                with_reducible rfl
              rotate_left
              · simp only [Act.put, List.setIfInBounds_toArray, List.set_cons_zero, List.set_cons_succ, i64_w, i32_w]
                rfl
              refine take_ (i := 7) (N := some 49) (v := ?_) (a' := ?_) #[true, true, true, true, true, true, true, true, false, false, false, false, false, false, false, false, false, false, false, false, false, false, false] rfl rfl (by kernel_rfl) (fun _ _ _ h => h) (Or.inl ⟨by rfl, ?_⟩) hHeld ?_ ?_
              rotate_left
              · rintro w' ⟨s0, s1, s2, s3, s4, s5, s6, s7, s8, s9, s10, s11, s12, s13, s14, s15, s16, s17⟩
                go_simp
                with_reducible rfl
              rotate_left
              · simp only [Act.put, List.setIfInBounds_toArray, List.set_cons_zero, List.set_cons_succ, i64_w, i32_w]
                rfl
              refine one_ (i := 8) (N := some 50) #[true, true, true, true, true, true, true, true, true, false, false, false, false, false, false, false, false, false, false, false, false, false, false] rfl rfl (by kernel_rfl) (by decide) (fun K hK => ?_)
              refine goes_ Try.func16 (by kernel_rfl) rfl #[itemV x, itemV u] (by rfl) rfl rfl (by simp only [List.map_toArray, List.map_cons, List.map_nil]; rfl) ?_
              with_reducible refine (Same.to (z := x) (z' := u) (((HYN.out x HMY.out).ok.below HBi.out).below (below_drew X5.out)) (((HN2.out u HMO.out).ok.below HBi.out).below (below_drew X5.out)) HE.out HFX.out).mono ?_
              rintro e w6 ⟨rfl, hb⟩
              refine ⟨_, rfl, ?_⟩
              have BI6 := Aside0.mk ((Blk.drew BI9.out).below hb); have X6 := Aside0.mk (below_then (below_drew X5.out) X5.out.size hb); have HZ6 := Aside0.mk ((HZ5.out.below (below_drew (Below.refl _ _))).below hb); clear hb
              have a06 := pw_cell_below X6.out hx0; have b06 := pw_cell_below X6.out hz0; have s06 : w6.cell? ⟨g9, 0, none⟩ = some (.int .i64 z.kind) := BI6.out.cell 0
              have a16 := pw_cell_below X6.out hx1; have b16 := pw_cell_below X6.out hz1; have s16 : w6.cell? ⟨g9, 1, none⟩ = some (.string z.name) := BI6.out.cell 1
              have a26 := pw_cell_below X6.out hx2; have b26 := pw_cell_below X6.out hz2; have s26 : w6.cell? ⟨g9, 2, none⟩ = some (.int .i64 z.ver) := BI6.out.cell 2
              have a36 := pw_cell_below X6.out hx3; have b36 := pw_cell_below X6.out hz3; have s36 : w6.cell? ⟨g9, 3, none⟩ = some (.slice z.ha z.H.length z.hc) := BI6.out.cell 3
              have a46 := pw_cell_below X6.out hx4; have b46 := pw_cell_below X6.out hz4; have s46 : w6.cell? ⟨g9, 4, none⟩ = some (.slice z.ba z.B.length z.bc) := BI6.out.cell 4
              have a56 := pw_cell_below X6.out hx5; have b56 := pw_cell_below X6.out hz5; have s56 : w6.cell? ⟨g9, 5, none⟩ = some (.bool z.going) := BI6.out.cell 5
              refine hK.out _ _ ⟨a06, a16, a26, a36, a46, a56, b06, b16, b26, b36, b46, b56, s06, s16, s26, s36, s46, s56⟩ (fun hHeld => ?_)
              clear hK K
              refine norm_ (a' := ?_) ?_ ?_
              rotate_left
              · show Act.put _ (some 50) _ = _
                simp only [Act.put, List.setIfInBounds_toArray, List.set_cons_zero, List.set_cons_succ, i64_w, i32_w]
                rfl
              refine pure_ (i := 9) (N := some 51) (v := ?_) (a' := ?_) #[true, true, true, true, true, true, true, true, true, true, false, false, false, false, false, false, false, false, false, false, false, false, false] rfl rfl (by kernel_rfl) (fun _ _ _ h => h) (Or.inl ⟨by rfl, ?_⟩) ?_ ?_
              rotate_left
              · intro w'
                go_simp
                with_reducible rfl
              rotate_left
              · simp only [Act.put, List.setIfInBounds_toArray, List.set_cons_zero, List.set_cons_succ, i64_w, i32_w]
                rfl
              refine pure_ (i := 10) (N := some 52) (v := ?_) (a' := ?_) #[true, true, true, true, true, true, true, true, true, true, true, false, false, false, false, false, false, false, false, false, false, false, false] rfl rfl (by kernel_rfl) (fun _ _ _ h => h) (Or.inl ⟨by rfl, ?_⟩) ?_ ?_
              rotate_left
              · intro w'
                go_simp
                with_reducible rfl
              rotate_left
              · simp only [Act.put, List.setIfInBounds_toArray, List.set_cons_zero, List.set_cons_succ, i64_w, i32_w]
                rfl
              refine pure_ (i := 11) (N := some 53) (v := ?_) (a' := ?_) #[true, true, true, true, true, true, true, true, true, true, true, true, false, false, false, false, false, false, false, false, false, false, false] rfl rfl (by kernel_rfl) (fun _ _ _ h => h) (Or.inl ⟨by rfl, ?_⟩) ?_ ?_
              rotate_left
              · intro w'
                go_simp
                with_reducible rfl
              rotate_left
              · simp only [Act.put, List.setIfInBounds_toArray, List.set_cons_zero, List.set_cons_succ, i64_w, i32_w]
                rfl
              refine pure_ (i := 12) (N := some 54) (v := ?_) (a' := ?_) #[true, true, true, true, true, true, true, true, true, true, true, true, true, false, false, false, false, false, false, false, false, false, false] rfl rfl (by kernel_rfl) (fun _ _ _ h => h) (Or.inl ⟨by rfl, ?_⟩) ?_ ?_
              rotate_left
              · intro w'
                go_simp
                with_reducible rfl
              rotate_left
              · simp only [Act.put, List.setIfInBounds_toArray, List.set_cons_zero, List.set_cons_succ, i64_w, i32_w]
                rfl
              refine pure_ (i := 13) (N := some 55) (v := ?_) (a' := ?_) #[true, true, true, true, true, true, true, true, true, true, true, true, true, true, false, false, false, false, false, false, false, false, false] rfl rfl (by kernel_rfl) (fun _ _ _ h => h) (Or.inl ⟨by rfl, ?_⟩) ?_ ?_
              rotate_left
              · intro w'
                go_simp
                with_reducible rfl
              rotate_left
              · simp only [Act.put, List.setIfInBounds_toArray, List.set_cons_zero, List.set_cons_succ, i64_w, i32_w]
                rfl
              refine pure_ (i := 14) (N := some 56) (v := ?_) (a' := ?_) #[true, true, true, true, true, true, true, true, true, true, true, true, true, true, true, false, false, false, false, false, false, false, false] rfl rfl (by kernel_rfl) (fun _ _ _ h => h) (Or.inl ⟨by rfl, ?_⟩) ?_ ?_
              rotate_left
              · intro w'
                go_simp
                with_reducible rfl
              rotate_left
              · simp only [Act.put, List.setIfInBounds_toArray, List.set_cons_zero, List.set_cons_succ, i64_w, i32_w]
                rfl
              refine pure_ (i := 16) (N := some 58) (v := ?_) (a' := ?_) #[true, true, true, true, true, true, true, true, true, true, true, true, true, true, true, false, true, false, false, false, false, false, false] rfl rfl (by kernel_rfl) (fun _ _ _ h => h) (Or.inl ⟨by rfl, ?_⟩) ?_ ?_
              rotate_left
              · intro w'
                go_simp
                with_reducible rfl
              rotate_left
              · simp only [Act.put, List.setIfInBounds_toArray, List.set_cons_zero, List.set_cons_succ, i64_w, i32_w]
                rfl
              refine pure_ (i := 17) (N := some 59) (v := ?_) (a' := ?_) #[true, true, true, true, true, true, true, true, true, true, true, true, true, true, true, false, true, true, false, false, false, false, false] rfl rfl (by kernel_rfl) (fun _ _ _ h => h) (Or.inl ⟨by rfl, ?_⟩) ?_ ?_
              rotate_left
              · intro w'
                go_simp
                with_reducible rfl
              rotate_left
              · simp only [Act.put, List.setIfInBounds_toArray, List.set_cons_zero, List.set_cons_succ, i64_w, i32_w]
                rfl
              refine pure_ (i := 18) (N := some 60) (v := ?_) (a' := ?_) #[true, true, true, true, true, true, true, true, true, true, true, true, true, true, true, false, true, true, true, false, false, false, false] rfl rfl (by kernel_rfl) (fun _ _ _ h => h) (Or.inl ⟨by rfl, ?_⟩) ?_ ?_
              rotate_left
              · intro w'
                go_simp
                with_reducible rfl
              rotate_left
              · simp only [Act.put, List.setIfInBounds_toArray, List.set_cons_zero, List.set_cons_succ, i64_w, i32_w]
                rfl
              refine take_ (i := 15) (N := some 57) (v := ?_) (a' := ?_) #[true, true, true, true, true, true, true, true, true, true, true, true, true, true, true, true, true, true, true, false, false, false, false] rfl rfl (by kernel_rfl) (fun _ _ _ h => h) (Or.inl ⟨by rfl, ?_⟩) hHeld ?_ ?_
              rotate_left
              · rintro w' ⟨s0, s1, s2, s3, s4, s5, s6, s7, s8, s9, s10, s11, s12, s13, s14, s15, s16, s17⟩
                go_simp
                with_reducible rfl
              rotate_left
              · simp only [Act.put, List.setIfInBounds_toArray, List.set_cons_zero, List.set_cons_succ, i64_w, i32_w]
                rfl
              refine take_ (i := 19) (N := some 61) (v := ?_) (a' := ?_) #[true, true, true, true, true, true, true, true, true, true, true, true, true, true, true, true, true, true, true, true, false, false, false] rfl rfl (by kernel_rfl) (fun _ _ _ h => h) (Or.inl ⟨by rfl, ?_⟩) hHeld ?_ ?_
              rotate_left
              · rintro w' ⟨s0, s1, s2, s3, s4, s5, s6, s7, s8, s9, s10, s11, s12, s13, s14, s15, s16, s17⟩
                go_simp
                with_reducible rfl
              rotate_left
              · simp only [Act.put, List.setIfInBounds_toArray, List.set_cons_zero, List.set_cons_succ, i64_w, i32_w]
                rfl
              refine one_ (i := 20) (N := some 62) #[true, true, true, true, true, true, true, true, true, true, true, true, true, true, true, true, true, true, true, true, true, false, false] rfl rfl (by kernel_rfl) (by decide) (fun K hK => ?_)
              refine goes_ Try.func16 (by kernel_rfl) rfl #[itemV z, itemV u] (by rfl) rfl rfl (by simp only [List.map_toArray, List.map_cons, List.map_nil]; rfl) ?_
              with_reducible refine (Same.to (z := z) (z' := u) HZ6.out.ok (((HN2.out u HMO.out).ok.below HBi.out).below X6.out) (HZP.out.trans HE.out) (HZL.out)).mono ?_
              rintro e w7 ⟨rfl, hb⟩
              refine ⟨_, rfl, ?_⟩
              have BI7 := Aside0.mk (BI6.out.below hb); have X7 := Aside0.mk (below_then X6.out X6.out.size hb); have HZ7 := Aside0.mk (HZ6.out.below hb); clear hb
              have a07 := pw_cell_below X7.out hx0; have b07 := pw_cell_below X7.out hz0; have s07 : w7.cell? ⟨g9, 0, none⟩ = some (.int .i64 z.kind) := BI7.out.cell 0
              have a17 := pw_cell_below X7.out hx1; have b17 := pw_cell_below X7.out hz1; have s17 : w7.cell? ⟨g9, 1, none⟩ = some (.string z.name) := BI7.out.cell 1
              have a27 := pw_cell_below X7.out hx2; have b27 := pw_cell_below X7.out hz2; have s27 : w7.cell? ⟨g9, 2, none⟩ = some (.int .i64 z.ver) := BI7.out.cell 2
              have a37 := pw_cell_below X7.out hx3; have b37 := pw_cell_below X7.out hz3; have s37 : w7.cell? ⟨g9, 3, none⟩ = some (.slice z.ha z.H.length z.hc) := BI7.out.cell 3
              have a47 := pw_cell_below X7.out hx4; have b47 := pw_cell_below X7.out hz4; have s47 : w7.cell? ⟨g9, 4, none⟩ = some (.slice z.ba z.B.length z.bc) := BI7.out.cell 4
              have a57 := pw_cell_below X7.out hx5; have b57 := pw_cell_below X7.out hz5; have s57 : w7.cell? ⟨g9, 5, none⟩ = some (.bool z.going) := BI7.out.cell 5
              refine hK.out _ _ ⟨a07, a17, a27, a37, a47, a57, b07, b17, b27, b37, b47, b57, s07, s17, s27, s37, s47, s57⟩ (fun hHeld => ?_)
              clear hK K
              refine norm_ (a' := ?_) ?_ ?_
              rotate_left
              · show Act.put _ (some 62) _ = _
                simp only [Act.put, List.setIfInBounds_toArray, List.set_cons_zero, List.set_cons_succ, i64_w, i32_w]
                rfl
              refine pure_ (i := 21) (N := some 63) (v := ?_) (a' := ?_) #[true, true, true, true, true, true, true, true, true, true, true, true, true, true, true, true, true, true, true, true, true, true, false] rfl rfl (by kernel_rfl) (fun _ _ _ h => h) (Or.inl ⟨by rfl, ?_⟩) ?_ ?_
              rotate_left
              · intro w'
                go_simp
                with_reducible rfl
              rotate_left
              · simp only [Act.put, List.setIfInBounds_toArray, List.set_cons_zero, List.set_cons_succ, i64_w, i32_w]
                rfl
              refine pure_ (i := 22) (N := some 64) (v := ?_) (a' := ?_) #[true, true, true, true, true, true, true, true, true, true, true, true, true, true, true, true, true, true, true, true, true, true, true] rfl rfl (by kernel_rfl) (fun _ _ _ h => h) (Or.inl ⟨by rfl, ?_⟩) ?_ ?_
              rotate_left
              · intro w'
                go_simp
                with_reducible rfl
              rotate_left
              · simp only [Act.put, List.setIfInBounds_toArray, List.set_cons_zero, List.set_cons_succ, i64_w, i32_w]
                rfl
              refine done_ (by kernel_rfl) ?_
              go_wp2_with (first
                | ((with_reducible refine gate_dst (N := 65) rfl ?_); refine load_at rfl (t := 31) rfl g9 _ 31 _ rfl BI7.out Try.underlying31 size_item ?_)
                | ((with_reducible refine gate_dst (N := 66) rfl ?_); refine build1_at2 rfl rfl z rfl ?_; intro g10 hg w8 hk hb
                   have BK8 := Aside0.mk hk; have X8 := Aside0.mk (below_then X7.out X7.out.size hb); have HZ8 := Aside0.mk (HZ7.out.below hb); clear hg hk hb)
                | (go_at_call 40; refine (spoil.calls w8 wr.heap.size (some ⟨g10, 0, none⟩) 1 [z] (reads_one BK8.out) ⟨X8.out.size, fun y hy => (by obtain rfl := List.mem_singleton.1 hy; exact HZ8.out.wr), Below.refl _ _, fun ad _ => rfl, fun ad hA => (by obtain rfl := Option.some.inj hA; exact ⟨_, BK8.out⟩)⟩ (show (1 : Nat) ≤ 1000 by decide)).mono ?_; rintro e w9 ⟨rfl, hb⟩
                   have X9 : Aside0 (Below wr.heap.size wr w9) := Aside0.mk (X8.out.trans hb); clear hb))
              have HB9 : Aside0 (Below w2.heap.size w2 w9) := Aside0.mk (below_then HBi.out HBi.out.size X9.out)
              go_roundg k2
              case measure => have := HK2.out; omega
              case rel => exact ⟨i + 1, (by first | rfl | (simp; done) | (simp [*]; done)), ⟨by have := HK2.out; omega⟩, ⟨by omega⟩, HB9⟩
            · have c6' : ¬ (i : Int) < (ys.length : Int) := by omega
              have HSP : Aside0 (SpI wr w.heap.size A1 ys wr) := Aside0.mk ⟨HBr.out.size, fun y hy => ((HYN.out y hy).below HBi.out).wr, Below.refl _ _, fun ad _ => rfl, fun ad hA => (by obtain ⟨cells, hc⟩ := HTY2.out ad hA; exact ⟨cells, (HBi.out.block _ (Array.getElem?_eq_some_iff.1 hc).1).trans hc⟩)⟩
              go_wp2_with (first
                | (go_at_call 40; refine (spoil.calls wr w.heap.size A1 c1 ys (Kd.C_below HC2.out HBi.out) HSP.out HYL.out).mono ?_; rintro e w9 ⟨rfl, hb⟩
                   have HB9 : Aside0 (Below w.heap.size w w9) := Aside0.mk (HBr.out.trans hb); clear hb))
              go_roundg k1
              case measure => have := HK.out; omega
              case rel => exact ⟨kd + 1, (by first | rfl | (simp; done) | (simp [*]; done)), ⟨by have := HK.out; omega⟩, ⟨by omega⟩, HB9⟩
      · have c5' : ¬ (kd : Int) ≤ 6 := by omega
        have HSA : Aside0 (StoreAt wr.drew p s) := Aside0.mk ⟨b, Lc, (HS.out.below HB.out).below (below_drew (Below.refl _ _)), HLL.out⟩
        have d1 : wr.cell? ⟨q, 1, none⟩ = some (.int .i64 s.n) := (HR.out.below HB.out).blk.cell 1
        go_wp2_with fail
        refine start_ (n := 8) (S := fun w' => w'.cell? ⟨q, 1, none⟩ = some (.int .i64 s.n)) (ds := []) #[false, false, false, false, false, false, false, false] (by kernel_rfl) rfl rfl (d1) (fun hHeld => ?_)
        refine pure_ (i := 0) (N := some 71) (v := ?_) (a' := ?_) #[true, false, false, false, false, false, false, false] rfl rfl (by kernel_rfl) (fun _ _ _ h => h) (Or.inl ⟨by rfl, ?_⟩) ?_ ?_
        rotate_left
        · intro w'
          go_simp
          with_reducible rfl
        rotate_left
        · simp only [Act.put, List.setIfInBounds_toArray, List.set_cons_zero, List.set_cons_succ, i64_w, i32_w]
          rfl
        refine pure_ (i := 2) (N := some 73) (v := ?_) (a' := ?_) #[true, false, true, false, false, false, false, false] rfl rfl (by kernel_rfl) (fun _ _ _ h => h) (Or.inl ⟨by rfl, ?_⟩) ?_ ?_
        rotate_left
        · intro w'
          go_simp
          with_reducible rfl
        rotate_left
        · simp only [Act.put, List.setIfInBounds_toArray, List.set_cons_zero, List.set_cons_succ, i64_w, i32_w]
          rfl
        refine pure_ (i := 3) (N := some 74) (v := ?_) (a' := ?_) #[true, false, true, true, false, false, false, false] rfl rfl (by kernel_rfl) (fun _ _ _ h => h) (Or.inl ⟨by rfl, ?_⟩) ?_ ?_
        rotate_left
        · intro w'
          go_simp
          with_reducible rfl
        rotate_left
        · simp only [Act.put, List.setIfInBounds_toArray, List.set_cons_zero, List.set_cons_succ, i64_w, i32_w]
          rfl
        refine pure_ (i := 4) (N := some 75) (v := ?_) (a' := ?_) #[true, false, true, true, true, false, false, false] rfl rfl (by kernel_rfl) (fun _ _ _ h => h) (Or.inl ⟨by rfl, ?_⟩) ?_ ?_
        rotate_left
        · intro w'
          go_simp
          with_reducible rfl
        rotate_left
        · simp only [Act.put, List.setIfInBounds_toArray, List.set_cons_zero, List.set_cons_succ, i64_w, i32_w]
          rfl
        refine take_ (i := 5) (N := some 76) (v := ?_) (a' := ?_) #[true, false, true, true, true, true, false, false] rfl rfl (by kernel_rfl) (fun _ _ _ h => h) (Or.inl ⟨by rfl, ?_⟩) hHeld ?_ ?_
        rotate_left
        · intro w' s0
          go_simp
          with_reducible rfl
        rotate_left
        · simp only [Act.put, List.setIfInBounds_toArray, List.set_cons_zero, List.set_cons_succ, i64_w, i32_w]
          rfl
        refine one_ (i := 1) (N := some 72) #[true, true, true, true, true, true, false, false] rfl rfl (by kernel_rfl) (by decide) (fun K hK => ?_)
        refine goes_ Try.func10 (by kernel_rfl) rfl #[ptrV p] (by rfl) rfl rfl (by simp only [List.map_toArray, List.map_cons, List.map_nil]; rfl) ?_
        with_reducible refine (Writes.calls wr.drew p s HSA.out).mono ?_
        rintro e w9 ⟨rfl, hw⟩
        refine ⟨_, rfl, ?_⟩
        have HW := Aside0.mk hw; clear hw
        refine hK.out _ _ ((by rw [HW.out]; exact d1)) (fun hHeld => ?_)
        clear hK K
        refine norm_ (a' := ?_) ?_ ?_
        rotate_left
        · show Act.put _ (some 72) _ = _
          simp only [Act.put, List.setIfInBounds_toArray, List.set_cons_zero, List.set_cons_succ, i64_w, i32_w]
          rfl
        refine pure_ (i := 6) (N := some 77) (v := ?_) (a' := ?_) #[true, true, true, true, true, true, true, false] rfl rfl (by kernel_rfl) (fun _ _ _ h => h) (Or.inl ⟨by rfl, ?_⟩) ?_ ?_
        rotate_left
        · intro w'
          go_simp
          with_reducible rfl
        rotate_left
        · simp only [Act.put, List.setIfInBounds_toArray, List.set_cons_zero, List.set_cons_succ, i64_w, i32_w]
          rfl
        refine pure_ (i := 7) (N := some 4) (v := ?_) (a' := ?_) #[true, true, true, true, true, true, true, true] rfl rfl (by kernel_rfl) (fun _ _ _ h => h) (Or.inl ⟨by rfl, ?_⟩) ?_ ?_
        rotate_left
        · intro w'
          go_simp
          with_reducible rfl
        rotate_left
        · simp only [Act.put, List.setIfInBounds_toArray, List.set_cons_zero, List.set_cons_succ, i64_w, i32_w]
          rfl
        refine done_ (by kernel_rfl) ?_
        go_wp2
        go_ret
        exact ⟨by simp, by rw [HW.out]; exact below_drew HB.out⟩
end Go.Proofs.Ytmankbhlgjgnbaa.PAll
