import Derived.Test.YtmankbhlgjgnbaaEKrel
/-! The reference's store: List. -/
namespace Go.Proofs.Ytmankbhlgjgnbaa.PAll
open Go.RowKit Go.Proofs.YtmankbhlgjgnbaaW.PrintWords Go.Proofs.YtmankbhlgjgnbaaW.PrintLast Go.Proofs.YtmankbhlgjgnbaaW.PrintMore Mem
set_option linter.unusedVariables false
set_option linter.unusedSimpArgs false
/-- An item, laid ahead of the first whose name is no lesser one. -/
def insN (x : PI) : List PI → List PI
  | [] => [x]
  | y :: r => if Op.bytesLess y.name.toList x.name.toList = true then y :: insN x r else x :: y :: r
def rlistV (kind : Int) (L : List PI) : List PI := L.foldl (fun out x => if x.kind = kind then insN x out else out) []
theorem rlistV_snoc (kind : Int) (L : List PI) (x : PI) : rlistV kind (L ++ [x]) = if x.kind = kind then insN x (rlistV kind L) else rlistV kind L := by unfold rlistV; rw [List.foldl_append]; rfl
theorem insN_at : ∀ (out : List CI) (x y : CI) (a : Nat), y.pure = x.pure → a ≤ out.length → (∀ m (hm : m < out.length), m < a → Op.bytesLess out[m].name.toList x.name.toList = true) → (∀ hm : a < out.length, Op.bytesLess out[a].name.toList x.name.toList = false) → (out.take a ++ [y] ++ out.drop a).map CI.pure = insN x.pure (out.map CI.pure)
  | [], x, y, a, hy, ha, _, _ => by
    have h0 : a = 0 := by simpa using ha
    subst h0
    show [y.pure] = _
    rw [hy]
    rfl
  | z :: r, x, y, 0, hy, ha, hlo, hhi => by
    have h1 : Op.bytesLess z.name.toList x.name.toList = false := hhi (by simp)
    show y.pure :: z.pure :: r.map CI.pure = insN x.pure (z.pure :: r.map CI.pure)
    unfold insN
    rw [if_neg (show ¬ Op.bytesLess z.pure.name.toList x.pure.name.toList = true by show ¬ Op.bytesLess z.name.toList x.name.toList = true; rw [h1]; decide), hy]
  | z :: r, x, y, a + 1, hy, ha, hlo, hhi => by
    have h1 : Op.bytesLess z.name.toList x.name.toList = true := hlo 0 (by simp) (by omega)
    show z.pure :: (r.take a ++ [y] ++ r.drop a).map CI.pure = insN x.pure (z.pure :: r.map CI.pure)
    unfold insN
    rw [if_pos (show Op.bytesLess z.pure.name.toList x.pure.name.toList = true from h1), insN_at r x y a hy (by simpa using ha) (fun m hm hma => hlo (m + 1) (by simpa using hm) (by omega)) (fun hm => hhi (by simpa using hm))]
set_option maxHeartbeats 8000000 in
set_option maxRecDepth 100000 in
theorem rlist.calls (w : World) (q : Nat) (A : Option Addr) (c : Nat) (n : Int) (Lr : List CI) (ok : Nat → Prop) (h : RefB w q A c n Lr ok) (hl : Lr.length ≤ 1000) (hf : ∀ x ∈ Lr, Fits x) (kind : Int) :
    Calls Try.prog 39 #[.pointer (some ⟨q, 0, none⟩), .int .i64 kind] w fun e w' => ∃ (out : List CI) (Ao : Option Addr) (co : Nat), e = .returned (.slice Ao out.length co) ∧ Kd.R kCI 31 w' w.heap.size (fun k => w.heap.size ≤ k) (.slice Ao out.length co) out ∧ (∀ y ∈ out, RowNew w' w.heap.size y) ∧ out.map CI.pure = rlistV kind (Lr.map CI.pure) ∧ out.length ≤ 1000 ∧ Below w.heap.size w w' := by
  have HR := Aside0.mk h
  have HF := Aside0.mk hf
  have c0 : w.cell? ⟨q, 0, none⟩ = some (.slice A Lr.length c) := h.blk.cell 0
  have HLEN := Aside0.mk hl
  clear h hf hl
  go_enter Try.func39, Try.ntmps39
  go_wp2
  go_loopg [5, 15] (Lr.length + 1) (fun kq v5 v15 w' => ∃ (i : Nat) (out : List CI) (Ao : Option Addr) (co : Nat), v5 = .slice Ao out.length co ∧ v15 = .int .i64 (i : Int) ∧ Aside0 (kq + i = Lr.length + 1) ∧ Aside0 (i ≤ Lr.length) ∧ Aside0 (out.map CI.pure = rlistV kind ((Lr.take i).map CI.pure)) ∧ Aside0 (out.length ≤ i) ∧ Aside0 (Kd.R kCI 31 w' w.heap.size (fun k => w.heap.size ≤ k) (.slice Ao out.length co) out) ∧ Aside0 (∀ y ∈ out, RowNew w' w.heap.size y) ∧ Aside0 (Below w.heap.size w w'))
  case atStart => exact ⟨0, [], none, 0, rfl, rfl, ⟨rfl⟩, ⟨Nat.zero_le _⟩, ⟨rfl⟩, ⟨Nat.zero_le _⟩, ⟨Kd.R_nil _ _ _ _ _⟩, ⟨fun y hy => by cases hy⟩, ⟨Below.refl _ _⟩⟩
  case round =>
    clear c0
    obtain ⟨i, out, Ao, co, rfl, rfl, HK, HI_, HOUT, HOL, HRO, HNEW, HB⟩ := hrel
    cases gk with
    | zero => exact absurd HK.out (by have := HI_.out; omega)
    | succ k1 =>
      by_cases c5 : i < Lr.length
      · have c5' : (i : Int) < (Lr.length : Int) := by omega
        have p0 : (0 : Int) ≤ (i : Int) := by omega
        obtain ⟨ad, e1, hx0, hx1, hx2, hx3, hx4, hx5⟩ := at_ci HR.out.reads i c5
        cases e1
        replace hx0 := pw_cell_below HB.out hx0
        replace hx1 := pw_cell_below HB.out hx1
        replace hx2 := pw_cell_below HB.out hx2
        replace hx3 := pw_cell_below HB.out hx3
        replace hx4 := pw_cell_below HB.out hx4
        replace hx5 := pw_cell_below HB.out hx5
        have HROW : Aside0 (RowOK w Lr[i]) := Aside0.mk (HR.out.rows _ (List.getElem_mem c5)).ok
        have HFX : Aside0 (Fits Lr[i]) := Aside0.mk (HF.out _ (List.getElem_mem c5))
        have HD := Aside0.mk (show (Lr.take (i + 1)).map CI.pure = (Lr.take i).map CI.pure ++ [Lr[i].pure] by rw [List.take_succ_eq_append_getElem c5, List.map_append]; rfl)
        generalize Lr[i] = x at *
        replace p0 := eq_true p0
        have HIL : Aside0 (i ≤ 1000) := Aside0.mk (by have := HLEN.out; omega)
        have hiw : wrap64 ((i : Int) + 1) = ((i + 1 : Nat) : Int) := w_succ (by have := HIL.out; omega)
        by_cases kx : x.kind = kind
        · have KX := Aside0.mk kx
          have q1 : (x.kind == kind) = true := beq_iff_eq.2 kx
          clear kx
          go_wp2_with (first
            | ((with_reducible refine gate_dst (N := 7) rfl ?_); refine new_at rfl (t := 31) rfl noItem.cells (itemV noItem) (fun W => zero_item W) rfl ?_; intro g7 hg w1 hk hb
               have BZ7 := Aside0.mk hk; have XA7 := Aside0.mk hb; have G7 : Aside0 (wr.heap.size ≤ g7) := Aside0.mk (by omega); clear hk hb hg)
            | ((with_reducible refine gate_store (p := 7) rfl ?_); refine store_at rfl (t := 31) rfl rfl g7 0 _ 31 _ rfl rfl BZ7.out x.cells rfl size_item (show (6 : Nat) ≤ 6 from Nat.le_refl 6) (cells_one _) ?_; intro w2 hk hg
               have BI7 : Aside0 (Blk w2 g7 x.cells 31) := Aside0.mk hk
               have XB7 := Aside0.mk (pw_below_grown XA7.out (some g7) XA7.out.size hg (fun k e => by cases e; exact G7.out))
               have y0 : w2.cell? ⟨g7, 0, none⟩ = some (.int .i64 x.kind) := BI7.out.cell 0
               have HB2 := Aside0.mk (below_then HB.out HB.out.size XB7.out); have HRO2 := Aside0.mk (Kd.R_below HRO.out XB7.out); have HNEW2 : Aside0 (∀ y ∈ out, RowNew w2 w.heap.size y) := Aside0.mk (fun y hy => (HNEW.out y hy).below XB7.out); clear hk hg))
          clear y0 hx0 hx1 hx2 hx3 hx4 hx5
          go_loopg [8] (out.length + 1) (fun kq2 v8 w' => ∃ (a : Nat), v8 = .int .i64 (a : Int) ∧ Aside0 (kq2 + a = out.length + 1) ∧ Aside0 (a ≤ out.length) ∧ Aside0 (∀ m (hm : m < out.length), m < a → Op.bytesLess out[m].name.toList x.name.toList = true) ∧ Aside0 (Below w2.heap.size w2 w'))
          case atStart => exact ⟨0, rfl, ⟨rfl⟩, ⟨Nat.zero_le _⟩, ⟨fun m _ h => absurd h (Nat.not_lt_zero _)⟩, ⟨Below.refl _ _⟩⟩
          case round =>
            obtain ⟨a, rfl, HK2, HA, HLO, HBa⟩ := hrel
            have HBr := Aside0.mk (below_then HB2.out HB2.out.size HBa.out)
            have HRO3 := Aside0.mk (Kd.R_below HRO2.out HBa.out)
            have BI8 := Aside0.mk (BI7.out.below HBa.out)
            have a0 : (0 : Int) ≤ (a : Int) := by omega
            have HAL : Aside0 (a ≤ 1000) := Aside0.mk (by have := HA.out; have := HOL.out; have := HIL.out; omega)
            cases gk with
            | zero => exact absurd HK2.out (by have := HA.out; omega)
            | succ k2 =>
              by_cases c6 : a < out.length
              · have c6' : (a : Int) < (out.length : Int) := by omega
                have haw : wrap64 ((a : Int) + 1) = ((a + 1 : Nat) : Int) := w_succ (by have := HAL.out; omega)
                obtain ⟨go, e2, _⟩ := own_ci HRO3.out a c6
                cases e2
                obtain ⟨o0, o1, o2, o3, o4, o5⟩ := elem_cells HRO3.out a c6 out[a] rfl
                clear o0 o2 o3 o4 o5
                have y1 : wr.cell? ⟨g7, 1, none⟩ = some (.string x.name) := BI8.out.cell 1
                have HOA : Aside0 (∀ b, Op.bytesLess out[a].name.toList x.name.toList = b → Op.bytesLess out[a].name.toList x.name.toList = b) := Aside0.mk (fun b h => h)
                generalize hoa : out[a] = oa at *
                cases hq : Op.bytesLess oa.name.toList x.name.toList with
                | true =>
                  go_wp2_with fail
                  refine start_ (n := 14) (S := fun w' => w'.cell? ⟨go, a * 6 + 1, none⟩ = some (.string oa.name) ∧ w'.cell? ⟨g7, 1, none⟩ = some (.string x.name)) (ds := []) #[false, false, false, false, false, false, false, false, false, false, false, false, false, false] (by kernel_rfl) rfl rfl ⟨o1, y1⟩ (fun hHeld => ?_)
                  refine pure_ (i := 0) (N := some 23) (v := ?_) (a' := ?_) #[true, false, false, false, false, false, false, false, false, false, false, false, false, false] rfl rfl (by kernel_rfl) (fun _ _ _ h => h) (Or.inl ⟨by rfl, ?_⟩) ?_ ?_
                  rotate_left
                  · intro w'
                    go_simp
                    with_reducible rfl
                  rotate_left
                  · simp only [Act.put, List.setIfInBounds_toArray, List.set_cons_zero, List.set_cons_succ, i64_w, i32_w]
                    rfl
                  refine pure_ (i := 1) (N := some 24) (v := ?_) (a' := ?_) #[true, true, false, false, false, false, false, false, false, false, false, false, false, false] rfl rfl (by kernel_rfl) (fun _ _ _ h => h) (Or.inl ⟨by rfl, ?_⟩) ?_ ?_
                  rotate_left
                  · intro w'
                    go_simp
                    with_reducible rfl
                  rotate_left
                  · simp only [Act.put, List.setIfInBounds_toArray, List.set_cons_zero, List.set_cons_succ, i64_w, i32_w]
                    rfl
                  refine pure_ (i := 2) (N := some 25) (v := ?_) (a' := ?_) #[true, true, true, false, false, false, false, false, false, false, false, false, false, false] rfl rfl (by kernel_rfl) (fun _ _ _ h => h) (Or.inl ⟨by rfl, ?_⟩) ?_ ?_
                  rotate_left
                  · intro w'
                    go_simp
                    with_reducible rfl
                  rotate_left
                  · simp only [Act.put, List.setIfInBounds_toArray, List.set_cons_zero, List.set_cons_succ, i64_w, i32_w]
                    rfl
                  refine pure_ (i := 3) (N := some 26) (v := ?_) (a' := ?_) #[true, true, true, true, false, false, false, false, false, false, false, false, false, false] rfl rfl (by kernel_rfl) (fun _ _ _ h => h) (Or.inl ⟨by rfl, ?_⟩) ?_ ?_
                  rotate_left
                  · intro w'
                    go_simp
                    with_reducible rfl
                  rotate_left
                  · simp only [Act.put, List.setIfInBounds_toArray, List.set_cons_zero, List.set_cons_succ, i64_w, i32_w]
                    rfl
                  refine pure_ (i := 4) (N := some 27) (v := ?_) (a' := ?_) #[true, true, true, true, true, false, false, false, false, false, false, false, false, false] rfl rfl (by kernel_rfl) (fun _ _ _ h => h) (Or.inl ⟨by rfl, ?_⟩) ?_ ?_
                  rotate_left
                  · intro w'
                    go_simp
                    with_reducible rfl
                  rotate_left
                  · simp only [Act.put, List.setIfInBounds_toArray, List.set_cons_zero, List.set_cons_succ, i64_w, i32_w]
                    rfl
                  refine pure_ (i := 5) (N := some 28) (v := ?_) (a' := ?_) #[true, true, true, true, true, true, false, false, false, false, false, false, false, false] rfl rfl (by kernel_rfl) (fun _ _ _ h => h) (Or.inl ⟨by rfl, ?_⟩) ?_ ?_
                  rotate_left
                  · intro w'
                    go_simp
                    with_reducible rfl
                  rotate_left
                  · simp only [Act.put, List.setIfInBounds_toArray, List.set_cons_zero, List.set_cons_succ, i64_w, i32_w]
                    rfl
                  refine pure_ (i := 6) (N := some 29) (v := ?_) (a' := ?_) #[true, true, true, true, true, true, true, false, false, false, false, false, false, false] rfl rfl (by kernel_rfl) (fun _ _ _ h => h) (Or.inl ⟨by rfl, ?_⟩) ?_ ?_
                  rotate_left
                  · intro w'
                    go_simp
                    with_reducible rfl
                  rotate_left
                  · simp only [Act.put, List.setIfInBounds_toArray, List.set_cons_zero, List.set_cons_succ, i64_w, i32_w]
                    rfl
                  refine pure_ (i := 7) (N := some 30) (v := ?_) (a' := ?_) #[true, true, true, true, true, true, true, true, false, false, false, false, false, false] rfl rfl (by kernel_rfl) (fun _ _ _ h => h) (Or.inl ⟨by rfl, ?_⟩) ?_ ?_
                  rotate_left
                  · intro w'
                    go_simp
                    with_reducible rfl
                  rotate_left
                  · simp only [Act.put, List.setIfInBounds_toArray, List.set_cons_zero, List.set_cons_succ, i64_w, i32_w]
                    rfl
                  refine pure_ (i := 8) (N := some 31) (v := ?_) (a' := ?_) #[true, true, true, true, true, true, true, true, true, false, false, false, false, false] rfl rfl (by kernel_rfl) (fun _ _ _ h => h) (Or.inl ⟨by rfl, ?_⟩) ?_ ?_
                  rotate_left
                  · intro w'
                    go_simp
                    with_reducible rfl
                  rotate_left
                  · simp only [Act.put, List.setIfInBounds_toArray, List.set_cons_zero, List.set_cons_succ, i64_w, i32_w]
                    rfl
                  refine pure_ (i := 10) (N := some 33) (v := ?_) (a' := ?_) #[true, true, true, true, true, true, true, true, true, false, true, false, false, false] rfl rfl (by kernel_rfl) (fun _ _ _ h => h) (Or.inl ⟨by rfl, ?_⟩) ?_ ?_
                  rotate_left
                  · intro w'
                    go_simp
                    with_reducible rfl
                  rotate_left
                  · simp only [Act.put, List.setIfInBounds_toArray, List.set_cons_zero, List.set_cons_succ, i64_w, i32_w]
                    rfl
                  refine take_ (i := 9) (N := some 32) (v := ?_) (a' := ?_) #[true, true, true, true, true, true, true, true, true, true, true, false, false, false] rfl rfl (by kernel_rfl) (fun _ _ _ h => h) (Or.inl ⟨by rfl, ?_⟩) hHeld ?_ ?_
                  rotate_left
                  · rintro w' ⟨s0, s1⟩
                    go_simp
                    with_reducible rfl
                  rotate_left
                  · simp only [Act.put, List.setIfInBounds_toArray, List.set_cons_zero, List.set_cons_succ, i64_w, i32_w]
                    rfl
                  refine take_ (i := 11) (N := some 34) (v := ?_) (a' := ?_) #[true, true, true, true, true, true, true, true, true, true, true, true, false, false] rfl rfl (by kernel_rfl) (fun _ _ _ h => h) (Or.inl ⟨by rfl, ?_⟩) hHeld ?_ ?_
                  rotate_left
                  · rintro w' ⟨s0, s1⟩
                    go_simp
                    with_reducible rfl
                  rotate_left
                  · simp only [Act.put, List.setIfInBounds_toArray, List.set_cons_zero, List.set_cons_succ, i64_w, i32_w]
                    rfl
                  refine pure_ (i := 12) (N := some 35) (v := ?_) (a' := ?_) #[true, true, true, true, true, true, true, true, true, true, true, true, true, false] rfl rfl (by kernel_rfl) (fun _ _ _ h => h) (Or.inl ⟨by rfl, ?_⟩) ?_ ?_
                  rotate_left
                  · intro w'
                    go_simp
                    with_reducible rfl
                  rotate_left
                  · simp only [Act.put, List.setIfInBounds_toArray, List.set_cons_zero, List.set_cons_succ, i64_w, i32_w]
                    rfl
                  refine pure_ (i := 13) (N := some 36) (v := ?_) (a' := ?_) #[true, true, true, true, true, true, true, true, true, true, true, true, true, true] rfl rfl (by kernel_rfl) (fun _ _ _ h => h) (Or.inl ⟨by rfl, ?_⟩) ?_ ?_
                  rotate_left
                  · intro w'
                    go_simp
                    with_reducible rfl
                  rotate_left
                  · simp only [Act.put, List.setIfInBounds_toArray, List.set_cons_zero, List.set_cons_succ, i64_w, i32_w]
                    rfl
                  refine done_ (by kernel_rfl) ?_
                  go_wp2
                  go_roundg k2
                  case measure => have := HK2.out; omega
                  case rel => exact ⟨a + 1, (by first | rfl | (simp; done) | (simp [*]; done)), ⟨by have := HK2.out; omega⟩, ⟨by omega⟩, ⟨fun m hm hlt => by
                    rcases Nat.lt_or_ge m a with h | h
                    · exact HLO.out m hm h
                    · obtain rfl : m = a := by omega
                      rw [hoa]; exact hq⟩, ⟨below_drew HBa.out⟩⟩
                | false =>
                  have HHI : Aside0 (∀ hm : a < out.length, Op.bytesLess out[a].name.toList x.name.toList = false) := Aside0.mk (fun hm => by rw [hoa]; exact hq)
                  have HBd : Aside0 (Below w.heap.size w wr.drew) := Aside0.mk (below_drew HBr.out)
                  have HROd : Aside0 (Kd.R kCI 31 wr.drew w.heap.size (fun k => w.heap.size ≤ k) (.slice (some ⟨go, 0, none⟩) out.length co) out) := Aside0.mk (Kd.R_below HRO2.out (below_drew HBa.out))
                  have BId : Aside0 (Blk wr.drew g7 x.cells 31) := Aside0.mk (BI7.out.below (below_drew HBa.out))
                  have HNd : Aside0 (∀ y ∈ out, RowNew wr.drew w.heap.size y) := Aside0.mk (fun y hy => (HNEW2.out y hy).below (below_drew HBa.out))
                  have HRd : Aside0 (RowOK wr.drew x) := Aside0.mk (HROW.out.below HBd.out)
                  have HCO : Aside0 (out.length ≤ co) := Aside0.mk (Kd.R_reads' HROd.out).2.1
                  have b1 : (a : Int) ≤ (co : Int) := by have := HCO.out; have := HA.out; omega
                  have b2 : (a : Int) ≤ (out.length : Int) := by have := HA.out; omega
                  have b3 : (out.length : Int) ≤ (co : Int) := by have := HCO.out; omega
                  have hca : ¬ co = a := by have := HCO.out; omega
                  go_wp2_with fail
                  refine start_ (n := 14) (S := fun w' => w'.cell? ⟨go, a * 6 + 1, none⟩ = some (.string oa.name) ∧ w'.cell? ⟨g7, 1, none⟩ = some (.string x.name)) (ds := []) #[false, false, false, false, false, false, false, false, false, false, false, false, false, false] (by kernel_rfl) rfl rfl ⟨o1, y1⟩ (fun hHeld => ?_)
                  refine pure_ (i := 0) (N := some 23) (v := ?_) (a' := ?_) #[true, false, false, false, false, false, false, false, false, false, false, false, false, false] rfl rfl (by kernel_rfl) (fun _ _ _ h => h) (Or.inl ⟨by rfl, ?_⟩) ?_ ?_
                  rotate_left
                  · intro w'
                    go_simp
                    with_reducible rfl
                  rotate_left
                  · simp only [Act.put, List.setIfInBounds_toArray, List.set_cons_zero, List.set_cons_succ, i64_w, i32_w]
                    rfl
                  refine pure_ (i := 1) (N := some 24) (v := ?_) (a' := ?_) #[true, true, false, false, false, false, false, false, false, false, false, false, false, false] rfl rfl (by kernel_rfl) (fun _ _ _ h => h) (Or.inl ⟨by rfl, ?_⟩) ?_ ?_
                  rotate_left
                  · intro w'
                    go_simp
                    with_reducible rfl
                  rotate_left
                  · simp only [Act.put, List.setIfInBounds_toArray, List.set_cons_zero, List.set_cons_succ, i64_w, i32_w]
                    rfl
                  refine pure_ (i := 2) (N := some 25) (v := ?_) (a' := ?_) #[true, true, true, false, false, false, false, false, false, false, false, false, false, false] rfl rfl (by kernel_rfl) (fun _ _ _ h => h) (Or.inl ⟨by rfl, ?_⟩) ?_ ?_
                  rotate_left
                  · intro w'
                    go_simp
                    with_reducible rfl
                  rotate_left
                  · simp only [Act.put, List.setIfInBounds_toArray, List.set_cons_zero, List.set_cons_succ, i64_w, i32_w]
                    rfl
                  refine pure_ (i := 3) (N := some 26) (v := ?_) (a' := ?_) #[true, true, true, true, false, false, false, false, false, false, false, false, false, false] rfl rfl (by kernel_rfl) (fun _ _ _ h => h) (Or.inl ⟨by rfl, ?_⟩) ?_ ?_
                  rotate_left
                  · intro w'
                    go_simp
                    with_reducible rfl
                  rotate_left
                  · simp only [Act.put, List.setIfInBounds_toArray, List.set_cons_zero, List.set_cons_succ, i64_w, i32_w]
                    rfl
                  refine pure_ (i := 4) (N := some 27) (v := ?_) (a' := ?_) #[true, true, true, true, true, false, false, false, false, false, false, false, false, false] rfl rfl (by kernel_rfl) (fun _ _ _ h => h) (Or.inl ⟨by rfl, ?_⟩) ?_ ?_
                  rotate_left
                  · intro w'
                    go_simp
                    with_reducible rfl
                  rotate_left
                  · simp only [Act.put, List.setIfInBounds_toArray, List.set_cons_zero, List.set_cons_succ, i64_w, i32_w]
                    rfl
                  refine pure_ (i := 5) (N := some 28) (v := ?_) (a' := ?_) #[true, true, true, true, true, true, false, false, false, false, false, false, false, false] rfl rfl (by kernel_rfl) (fun _ _ _ h => h) (Or.inl ⟨by rfl, ?_⟩) ?_ ?_
                  rotate_left
                  · intro w'
                    go_simp
                    with_reducible rfl
                  rotate_left
                  · simp only [Act.put, List.setIfInBounds_toArray, List.set_cons_zero, List.set_cons_succ, i64_w, i32_w]
                    rfl
                  refine pure_ (i := 6) (N := some 29) (v := ?_) (a' := ?_) #[true, true, true, true, true, true, true, false, false, false, false, false, false, false] rfl rfl (by kernel_rfl) (fun _ _ _ h => h) (Or.inl ⟨by rfl, ?_⟩) ?_ ?_
                  rotate_left
                  · intro w'
                    go_simp
                    with_reducible rfl
                  rotate_left
                  · simp only [Act.put, List.setIfInBounds_toArray, List.set_cons_zero, List.set_cons_succ, i64_w, i32_w]
                    rfl
                  refine pure_ (i := 7) (N := some 30) (v := ?_) (a' := ?_) #[true, true, true, true, true, true, true, true, false, false, false, false, false, false] rfl rfl (by kernel_rfl) (fun _ _ _ h => h) (Or.inl ⟨by rfl, ?_⟩) ?_ ?_
                  rotate_left
                  · intro w'
                    go_simp
                    with_reducible rfl
                  rotate_left
                  · simp only [Act.put, List.setIfInBounds_toArray, List.set_cons_zero, List.set_cons_succ, i64_w, i32_w]
                    rfl
                  refine pure_ (i := 8) (N := some 31) (v := ?_) (a' := ?_) #[true, true, true, true, true, true, true, true, true, false, false, false, false, false] rfl rfl (by kernel_rfl) (fun _ _ _ h => h) (Or.inl ⟨by rfl, ?_⟩) ?_ ?_
                  rotate_left
                  · intro w'
                    go_simp
                    with_reducible rfl
                  rotate_left
                  · simp only [Act.put, List.setIfInBounds_toArray, List.set_cons_zero, List.set_cons_succ, i64_w, i32_w]
                    rfl
                  refine pure_ (i := 10) (N := some 33) (v := ?_) (a' := ?_) #[true, true, true, true, true, true, true, true, true, false, true, false, false, false] rfl rfl (by kernel_rfl) (fun _ _ _ h => h) (Or.inl ⟨by rfl, ?_⟩) ?_ ?_
                  rotate_left
                  · intro w'
                    go_simp
                    with_reducible rfl
                  rotate_left
                  · simp only [Act.put, List.setIfInBounds_toArray, List.set_cons_zero, List.set_cons_succ, i64_w, i32_w]
                    rfl
                  refine take_ (i := 9) (N := some 32) (v := ?_) (a' := ?_) #[true, true, true, true, true, true, true, true, true, true, true, false, false, false] rfl rfl (by kernel_rfl) (fun _ _ _ h => h) (Or.inl ⟨by rfl, ?_⟩) hHeld ?_ ?_
                  rotate_left
                  · rintro w' ⟨s0, s1⟩
                    go_simp
                    with_reducible rfl
                  rotate_left
                  · simp only [Act.put, List.setIfInBounds_toArray, List.set_cons_zero, List.set_cons_succ, i64_w, i32_w]
                    rfl
                  refine take_ (i := 11) (N := some 34) (v := ?_) (a' := ?_) #[true, true, true, true, true, true, true, true, true, true, true, true, false, false] rfl rfl (by kernel_rfl) (fun _ _ _ h => h) (Or.inl ⟨by rfl, ?_⟩) hHeld ?_ ?_
                  rotate_left
                  · rintro w' ⟨s0, s1⟩
                    go_simp
                    with_reducible rfl
                  rotate_left
                  · simp only [Act.put, List.setIfInBounds_toArray, List.set_cons_zero, List.set_cons_succ, i64_w, i32_w]
                    rfl
                  refine pure_ (i := 12) (N := some 35) (v := ?_) (a' := ?_) #[true, true, true, true, true, true, true, true, true, true, true, true, true, false] rfl rfl (by kernel_rfl) (fun _ _ _ h => h) (Or.inl ⟨by rfl, ?_⟩) ?_ ?_
                  rotate_left
                  · intro w'
                    go_simp
                    with_reducible rfl
                  rotate_left
                  · simp only [Act.put, List.setIfInBounds_toArray, List.set_cons_zero, List.set_cons_succ, i64_w, i32_w]
                    rfl
                  refine pure_ (i := 13) (N := some 36) (v := ?_) (a' := ?_) #[true, true, true, true, true, true, true, true, true, true, true, true, true, true] rfl rfl (by kernel_rfl) (fun _ _ _ h => h) (Or.inl ⟨by rfl, ?_⟩) ?_ ?_
                  rotate_left
                  · intro w'
                    go_simp
                    with_reducible rfl
                  rotate_left
                  · simp only [Act.put, List.setIfInBounds_toArray, List.set_cons_zero, List.set_cons_succ, i64_w, i32_w]
                    rfl
                  refine done_ (by kernel_rfl) ?_
                  go_wp2_with (first
                    | ((with_reducible refine gate_builtin (b := .append) (xs := #[.tmp 43, .tmp 46]) rfl ?_); at_builtin; refine Kd.R_append kCI (w0 := w) (W := w4) w.heap.size rfl (.tmp 43) (.tmp 46) 63 31 (itemV noItem) 88 rfl Try.underlying63 infoItem_ rfl (by decide) (by decide) (.slice A3 L3.length c3) L3 y y.cells (fun k => w.heap.size ≤ k) (fun _ => False) rfl rfl rfl (fun _ hk => hk.elim) ?aF HO4.out HB4.out HB4.out.size ?aL ?_; (case aF => exact fun k hk => Nat.le_trans HB4.out.size hk); (case aL => have := HL3.out; have := HAL.out; omega); intro v5 w5 ho hb hg hat
                       obtain ⟨L5, hL⟩ : ∃ z, z = L3 ++ [y] := ⟨_, rfl⟩
                       rw [← hL] at ho
                       have LL5 := Aside0.mk hL; have HL5 : Aside0 (L5.length = a + 1) := Aside0.mk (by rw [hL, List.length_append, HL3.out]; rfl); clear hL
                       obtain ⟨A5, c5_, rfl⟩ := Kd.R_slice ho
                       have HO5 := Aside0.mk ho; have HB5 := Aside0.mk hb; have X5 := Aside0.mk (pw_below_grown X4.out _ X4.out.size hg (fun k e => F3.out k e)); have HY5 := Aside0.mk (RowNew.grownL HY4.out HO4.out hg); have F5 : Aside0 (∀ k, (Value.slice A5 L5.length c5_).ownBlock = some k → (wr.drew).heap.size ≤ k) := Aside0.mk (fun k hk => own_next F3.out X4.out.size hat hk); clear ho hb hg hat)
                    | ((with_reducible refine gate_builtin (b := .append) (xs := #[.tmp 48, .tmp 51]) rfl ?_); at_builtin; refine Kd.R_append_rows kCI (w0 := w) (W := w5) (Rr := fun x cs => kCI.K w5 x cs) w.heap.size rfl _ _ 63 31 (itemV noItem) 88 rfl Try.underlying63 infoItem_ rfl (by decide) (by decide) (.slice A5 L5.length c5_) L5 (out.drop a) (some ⟨go, a * 6, none⟩) (out.length - a) (co - a) (fun k => w.heap.size ≤ k) (fun _ => False) rfl rfl HO5.out ?aC (fun _ _ h => h) (fun _ h => h.elim) ?aF HB5.out HB5.out.size ?aL ?_; (case aC => have h := Kd.C_drop (k := kCI) (c := co) (Kd.R_reads' (Kd.R_below HROd.out X5.out)).2.2 (m := a) HA.out HCO.out; rw [List.length_drop, if_neg hca, Option.map_some, show ((⟨go, 0, none⟩ : Addr).add (a * kCI.sz)) = ⟨go, a * 6, none⟩ from add_plain _ _] at h; exact h); (case aF => exact fun k hk => Nat.le_trans HB5.out.size hk); (case aL => have := HL5.out; have := HAL.out; have := HOL.out; have := HIL.out; omega); intro v6 w6 ho hb hg hat
                       obtain ⟨L6, hL⟩ : ∃ z, z = L5 ++ out.drop a := ⟨_, rfl⟩
                       rw [← hL] at ho
                       have LL6 := Aside0.mk hL; clear hL
                       obtain ⟨A6, c6_, rfl⟩ := Kd.R_slice ho
                       have HO6 := Aside0.mk ho; have HB6 := Aside0.mk hb; have X6 := Aside0.mk (pw_below_grown X5.out _ X5.out.size hg (fun k e => F5.out k e)); have HY6 := Aside0.mk (RowNew.grownL HY5.out HO5.out hg); clear ho hb hg hat)
                    | ((with_reducible refine gate_dst (N := 44) rfl ?_); refine load_at rfl (t := 31) rfl g7 _ 31 _ rfl (BId.out.below X3.out) Try.underlying31 size_item ?_)
                    | (go_at_call 36; refine (rcopy.calls x w3 (HRd.out.below X3.out) HFX.out).mono ?_; rintro e w4 ⟨y, rfl, hy, hyp, hb⟩
                       have HY4 := Aside0.mk hy; have HYP := Aside0.mk hyp; have HO4 := Aside0.mk (Kd.R_below HO3.out hb); have HB4 := Aside0.mk (below_then HB3.out HB3.out.size hb); have X4 := Aside0.mk (below_then X3.out X3.out.size hb); have Z4 : Aside0 (w.heap.size ≤ w3.heap.size) := Aside0.mk HB3.out.size; clear hy hyp hb)
                    | ((with_reducible refine gate_dst (N := 46) rfl ?_); refine build1_at rfl rfl y rfl ?_)
                    | (at_builtin; refine Kd.R_append_rows kCI (w0 := w) (W := wr.drew) (Rr := fun x cs => kCI.K wr.drew x cs) w.heap.size rfl _ _ 63 31 (itemV noItem) 88 rfl Try.underlying63 infoItem_ rfl (by decide) (by decide) (.slice none 0 0) [] (out.take a) (some ⟨go, 0, none⟩) a co (fun k => w.heap.size ≤ k) (fun _ => False) rfl rfl (Kd.R_nil _ _ _ _ _) ?aC (fun _ _ h => h) (fun _ h => h.elim) ?aF HBd.out HBd.out.size ?aL ?_; (case aC => have h := Kd.C_take (k := kCI) (Kd.R_reads' HROd.out).2.2 (m := a) HA.out; rw [List.length_take, Nat.min_eq_left HA.out] at h; exact h); (case aF => exact fun k hk => Nat.le_trans HBd.out.size hk); (case aL => have := HAL.out; first | (simp; done) | (simp; omega)); intro v3 w3 ho hb hg hat
                       obtain ⟨L3, hL⟩ : ∃ z, z = out.take a := ⟨_, rfl⟩
                       rw [List.nil_append, ← hL] at ho
                       have LL3 := Aside0.mk hL; have HL3 : Aside0 (L3.length = a) := Aside0.mk (by rw [hL, List.length_take]; exact Nat.min_eq_left HA.out); clear hL
                       obtain ⟨A3, c3, rfl⟩ := Kd.R_slice ho
                       have HO3 := Aside0.mk ho; have HB3 := Aside0.mk hb; have X3 : Aside0 (Below (wr.drew).heap.size wr.drew w3) := Aside0.mk (pw_below_grown (Below.refl _ _) none (Nat.le_refl _) hg (fun k e => by cases e)); have F3 : Aside0 (∀ k, (Value.slice A3 L3.length c3).ownBlock = some k → (wr.drew).heap.size ≤ k) := Aside0.mk (fun k hk => own_fresh hat hk); clear ho hb hg hat))
                  have HALL : L6 = out.take a ++ [y] ++ out.drop a := by rw [LL6.out, LL5.out, LL3.out]
                  have HROWS : Aside0 (∀ z ∈ L6, RowNew w6 w.heap.size z) := Aside0.mk (fun z hz => by
                    rw [HALL] at hz
                    rcases List.mem_append.1 hz with hz | hz
                    · rcases List.mem_append.1 hz with hz | hz
                      · exact (HNd.out z (by first | exact List.mem_of_mem_take hz | exact hz)).below X6.out
                      · obtain rfl := List.mem_singleton.1 hz
                        exact HY6.out.lower Z4.out
                    · exact (HNd.out z (by first | exact List.mem_of_mem_drop hz | exact hz)).below X6.out)
                  have HPURE : Aside0 (L6.map CI.pure = rlistV kind ((Lr.take (i + 1)).map CI.pure)) := Aside0.mk (by rw [HD.out, rlistV_snoc, if_pos (show x.pure.kind = kind from KX.out), ← HOUT.out, HALL]; exact insN_at out x y a HYP.out HA.out HLO.out HHI.out)
                  have HLEN6 : Aside0 (L6.length ≤ i + 1) := Aside0.mk (by rw [HALL]; simp only [List.length_append, List.length_take, List.length_drop, List.length_singleton, List.length_nil]; have := HOL.out; have := HA.out; omega)
                  clear HALL
                  go_roundg k1
                  case measure => have := HK.out; omega
                  case rel => exact ⟨i + 1, L6, A6, c6_, rfl, (by first | rfl | (simp; done) | (simp [*]; done)), ⟨by have := HK.out; omega⟩, ⟨by omega⟩, ⟨HPURE.out⟩, ⟨HLEN6.out⟩, HO6, HROWS, HB6⟩
              · have c6' : ¬ (a : Int) < (out.length : Int) := by omega
                have HHI : Aside0 (∀ hm : a < out.length, Op.bytesLess out[a].name.toList x.name.toList = false) := Aside0.mk (fun hm => absurd hm c6)
                have HBd : Aside0 (Below w.heap.size w wr.drew) := Aside0.mk (below_drew HBr.out)
                have HROd : Aside0 (Kd.R kCI 31 wr.drew w.heap.size (fun k => w.heap.size ≤ k) (.slice (Ao) out.length co) out) := Aside0.mk (Kd.R_below HRO2.out (below_drew HBa.out))
                have BId : Aside0 (Blk wr.drew g7 x.cells 31) := Aside0.mk (BI7.out.below (below_drew HBa.out))
                have HNd : Aside0 (∀ y ∈ out, RowNew wr.drew w.heap.size y) := Aside0.mk (fun y hy => (HNEW2.out y hy).below (below_drew HBa.out))
                have HRd : Aside0 (RowOK wr.drew x) := Aside0.mk (HROW.out.below HBd.out)
                have HCO : Aside0 (out.length ≤ co) := Aside0.mk (Kd.R_reads' HROd.out).2.1
                rcases own_form HRO3.out with ⟨eA, ec, en⟩ | ⟨go, eA⟩
                · subst eA ec en
                  obtain rfl : a = 0 := by have := HA.out; simpa using this
                  go_wp2_with fail
                  refine start_ (n := 14) (S := fun w' => True) (ds := []) #[false, false, false, false, false, false, false, false, false, false, false, false, false, false] (by kernel_rfl) rfl rfl trivial (fun hHeld => ?_)
                  refine pure_ (i := 0) (N := some 23) (v := ?_) (a' := ?_) #[true, false, false, false, false, false, false, false, false, false, false, false, false, false] rfl rfl (by kernel_rfl) (fun _ _ _ h => h) (Or.inl ⟨by rfl, ?_⟩) ?_ ?_
                  rotate_left
                  · intro w'
                    go_simp
                    with_reducible rfl
                  rotate_left
                  · simp only [Act.put, List.setIfInBounds_toArray, List.set_cons_zero, List.set_cons_succ, i64_w, i32_w]
                    rfl
                  refine pure_ (i := 1) (N := some 24) (v := ?_) (a' := ?_) #[true, true, false, false, false, false, false, false, false, false, false, false, false, false] rfl rfl (by kernel_rfl) (fun _ _ _ h => h) (Or.inl ⟨by rfl, ?_⟩) ?_ ?_
                  rotate_left
                  · intro w'
                    go_simp
                    with_reducible rfl
                  rotate_left
                  · simp only [Act.put, List.setIfInBounds_toArray, List.set_cons_zero, List.set_cons_succ, i64_w, i32_w]
                    rfl
                  refine pure_ (i := 2) (N := some 25) (v := ?_) (a' := ?_) #[true, true, true, false, false, false, false, false, false, false, false, false, false, false] rfl rfl (by kernel_rfl) (fun _ _ _ h => h) (Or.inl ⟨by rfl, ?_⟩) ?_ ?_
                  rotate_left
                  · intro w'
                    go_simp
                    with_reducible rfl
                  rotate_left
                  · simp only [Act.put, List.setIfInBounds_toArray, List.set_cons_zero, List.set_cons_succ, i64_w, i32_w]
                    rfl
                  refine pure_ (i := 3) (N := some 26) (v := ?_) (a' := ?_) #[true, true, true, true, false, false, false, false, false, false, false, false, false, false] rfl rfl (by kernel_rfl) (fun _ _ _ h => h) (Or.inl ⟨by rfl, ?_⟩) ?_ ?_
                  rotate_left
                  · intro w'
                    go_simp
                    with_reducible rfl
                  rotate_left
                  · simp only [Act.put, List.setIfInBounds_toArray, List.set_cons_zero, List.set_cons_succ, i64_w, i32_w]
                    rfl
                  refine pure_ (i := 4) (N := some 27) (v := ?_) (a' := ?_) #[true, true, true, true, true, false, false, false, false, false, false, false, false, false] rfl rfl (by kernel_rfl) (fun _ _ _ h => h) (Or.inl ⟨by rfl, ?_⟩) ?_ ?_
                  rotate_left
                  · intro w'
                    go_simp
                    with_reducible rfl
                  rotate_left
                  · simp only [Act.put, List.setIfInBounds_toArray, List.set_cons_zero, List.set_cons_succ, i64_w, i32_w]
                    rfl
                  refine pure_ (i := 5) (N := some 28) (v := undef) (a' := ?_) #[true, true, true, true, true, true, false, false, false, false, false, false, false, false] rfl rfl (by kernel_rfl) (fun _ _ _ h => h) (Or.inr ⟨by rfl, rfl⟩) ?_ ?_
                  rotate_left
                  · simp only [Act.put, List.setIfInBounds_toArray, List.set_cons_zero, List.set_cons_succ, i64_w, i32_w]
                    rfl
                  refine pure_ (i := 6) (N := some 29) (v := undef) (a' := ?_) #[true, true, true, true, true, true, true, false, false, false, false, false, false, false] rfl rfl (by kernel_rfl) (fun _ _ _ h => h) (Or.inr ⟨by rfl, rfl⟩) ?_ ?_
                  rotate_left
                  · simp only [Act.put, List.setIfInBounds_toArray, List.set_cons_zero, List.set_cons_succ, i64_w, i32_w]
                    rfl
                  refine pure_ (i := 7) (N := some 30) (v := undef) (a' := ?_) #[true, true, true, true, true, true, true, true, false, false, false, false, false, false] rfl rfl (by kernel_rfl) (fun _ _ _ h => h) (Or.inr ⟨by rfl, rfl⟩) ?_ ?_
                  rotate_left
                  · simp only [Act.put, List.setIfInBounds_toArray, List.set_cons_zero, List.set_cons_succ, i64_w, i32_w]
                    rfl
                  refine pure_ (i := 8) (N := some 31) (v := undef) (a' := ?_) #[true, true, true, true, true, true, true, true, true, false, false, false, false, false] rfl rfl (by kernel_rfl) (fun _ _ _ h => h) (Or.inr ⟨by rfl, rfl⟩) ?_ ?_
                  rotate_left
                  · simp only [Act.put, List.setIfInBounds_toArray, List.set_cons_zero, List.set_cons_succ, i64_w, i32_w]
                    rfl
                  refine pure_ (i := 9) (N := some 32) (v := undef) (a' := ?_) #[true, true, true, true, true, true, true, true, true, true, false, false, false, false] rfl rfl (by kernel_rfl) (fun _ _ _ h => h) (Or.inr ⟨by rfl, rfl⟩) ?_ ?_
                  rotate_left
                  · simp only [Act.put, List.setIfInBounds_toArray, List.set_cons_zero, List.set_cons_succ, i64_w, i32_w]
                    rfl
                  refine pure_ (i := 10) (N := some 33) (v := undef) (a' := ?_) #[true, true, true, true, true, true, true, true, true, true, true, false, false, false] rfl rfl (by kernel_rfl) (fun _ _ _ h => h) (Or.inr ⟨by rfl, rfl⟩) ?_ ?_
                  rotate_left
                  · simp only [Act.put, List.setIfInBounds_toArray, List.set_cons_zero, List.set_cons_succ, i64_w, i32_w]
                    rfl
                  refine pure_ (i := 11) (N := some 34) (v := undef) (a' := ?_) #[true, true, true, true, true, true, true, true, true, true, true, true, false, false] rfl rfl (by kernel_rfl) (fun _ _ _ h => h) (Or.inr ⟨by rfl, rfl⟩) ?_ ?_
                  rotate_left
                  · simp only [Act.put, List.setIfInBounds_toArray, List.set_cons_zero, List.set_cons_succ, i64_w, i32_w]
                    rfl
                  refine pure_ (i := 12) (N := some 35) (v := undef) (a' := ?_) #[true, true, true, true, true, true, true, true, true, true, true, true, true, false] rfl rfl (by kernel_rfl) (fun _ _ _ h => h) (Or.inr ⟨by rfl, rfl⟩) ?_ ?_
                  rotate_left
                  · simp only [Act.put, List.setIfInBounds_toArray, List.set_cons_zero, List.set_cons_succ, i64_w, i32_w]
                    rfl
                  refine pure_ (i := 13) (N := some 36) (v := ?_) (a' := ?_) #[true, true, true, true, true, true, true, true, true, true, true, true, true, true] rfl rfl (by kernel_rfl) (fun _ _ _ h => h) (Or.inl ⟨by rfl, ?_⟩) ?_ ?_
                  rotate_left
                  · intro w'
                    go_simp
                    with_reducible rfl
                  rotate_left
                  · simp only [Act.put, List.setIfInBounds_toArray, List.set_cons_zero, List.set_cons_succ, i64_w, i32_w]
                    rfl
                  refine done_ (by kernel_rfl) ?_
                  go_wp2_with (first
                    | ((with_reducible refine gate_builtin (b := .append) (xs := #[.tmp 43, .tmp 46]) rfl ?_); at_builtin; refine Kd.R_append kCI (w0 := w) (W := w4) w.heap.size rfl (.tmp 43) (.tmp 46) 63 31 (itemV noItem) 88 rfl Try.underlying63 infoItem_ rfl (by decide) (by decide) (.slice A3 L3.length c3) L3 y y.cells (fun k => w.heap.size ≤ k) (fun _ => False) rfl rfl rfl (fun _ hk => hk.elim) ?aF HO4.out HB4.out HB4.out.size ?aL ?_; (case aF => exact fun k hk => Nat.le_trans HB4.out.size hk); (case aL => have := HL3.out; have := HAL.out; omega); intro v5 w5 ho hb hg hat
                       obtain ⟨L5, hL⟩ : ∃ z, z = L3 ++ [y] := ⟨_, rfl⟩
                       rw [← hL] at ho
                       have LL5 := Aside0.mk hL; have HL5 : Aside0 (L5.length = 0 + 1) := Aside0.mk (by rw [hL, List.length_append, HL3.out]; rfl); clear hL
                       obtain ⟨A5, c5_, rfl⟩ := Kd.R_slice ho
                       have HO5 := Aside0.mk ho; have HB5 := Aside0.mk hb; have X5 := Aside0.mk (pw_below_grown X4.out _ X4.out.size hg (fun k e => F3.out k e)); have HY5 := Aside0.mk (RowNew.grownL HY4.out HO4.out hg); have F5 : Aside0 (∀ k, (Value.slice A5 L5.length c5_).ownBlock = some k → (wr.drew).heap.size ≤ k) := Aside0.mk (fun k hk => own_next F3.out X4.out.size hat hk); clear ho hb hg hat)
                    | ((with_reducible refine gate_builtin (b := .append) (xs := #[.tmp 48, .tmp 51]) rfl ?_); at_builtin; refine Kd.R_append_rows kCI (w0 := w) (W := w5) (Rr := fun x cs => kCI.K w5 x cs) w.heap.size rfl _ _ 63 31 (itemV noItem) 88 rfl Try.underlying63 infoItem_ rfl (by decide) (by decide) (.slice A5 L5.length c5_) L5 (([] : List CI)) (none) (0) (0) (fun k => w.heap.size ≤ k) (fun _ => False) rfl rfl HO5.out ?aC (fun _ _ h => h) (fun _ h => h.elim) ?aF HB5.out HB5.out.size ?aL ?_; (case aC => exact Kd.C_nil _ _); (case aF => exact fun k hk => Nat.le_trans HB5.out.size hk); (case aL => have := HL5.out; have := HAL.out; have := HOL.out; have := HIL.out; omega); intro v6 w6 ho hb hg hat
                       obtain ⟨L6, hL⟩ : ∃ z, z = L5 ++ ([] : List CI) := ⟨_, rfl⟩
                       rw [← hL] at ho
                       have LL6 := Aside0.mk hL; clear hL
                       obtain ⟨A6, c6_, rfl⟩ := Kd.R_slice ho
                       have HO6 := Aside0.mk ho; have HB6 := Aside0.mk hb; have X6 := Aside0.mk (pw_below_grown X5.out _ X5.out.size hg (fun k e => F5.out k e)); have HY6 := Aside0.mk (RowNew.grownL HY5.out HO5.out hg); clear ho hb hg hat)
                    | ((with_reducible refine gate_dst (N := 44) rfl ?_); refine load_at rfl (t := 31) rfl g7 _ 31 _ rfl (BId.out.below X3.out) Try.underlying31 size_item ?_)
                    | (go_at_call 36; refine (rcopy.calls x w3 (HRd.out.below X3.out) HFX.out).mono ?_; rintro e w4 ⟨y, rfl, hy, hyp, hb⟩
                       have HY4 := Aside0.mk hy; have HYP := Aside0.mk hyp; have HO4 := Aside0.mk (Kd.R_below HO3.out hb); have HB4 := Aside0.mk (below_then HB3.out HB3.out.size hb); have X4 := Aside0.mk (below_then X3.out X3.out.size hb); have Z4 : Aside0 (w.heap.size ≤ w3.heap.size) := Aside0.mk HB3.out.size; clear hy hyp hb)
                    | ((with_reducible refine gate_dst (N := 46) rfl ?_); refine build1_at rfl rfl y rfl ?_)
                    | (at_builtin; refine Kd.R_append_rows kCI (w0 := w) (W := wr.drew) (Rr := fun x cs => kCI.K wr.drew x cs) w.heap.size rfl _ _ 63 31 (itemV noItem) 88 rfl Try.underlying63 infoItem_ rfl (by decide) (by decide) (.slice none 0 0) [] (([] : List CI)) (none) 0 0 (fun k => w.heap.size ≤ k) (fun _ => False) rfl rfl (Kd.R_nil _ _ _ _ _) ?aC (fun _ _ h => h) (fun _ h => h.elim) ?aF HBd.out HBd.out.size ?aL ?_; (case aC => exact Kd.C_nil _ _); (case aF => exact fun k hk => Nat.le_trans HBd.out.size hk); (case aL => have := HAL.out; first | (simp; done) | (simp; omega)); intro v3 w3 ho hb hg hat
                       obtain ⟨L3, hL⟩ : ∃ z, z = ([] : List CI) := ⟨_, rfl⟩
                       rw [List.nil_append, ← hL] at ho
                       have LL3 := Aside0.mk hL; have HL3 : Aside0 (L3.length = 0) := Aside0.mk (by rw [hL]; rfl); clear hL
                       obtain ⟨A3, c3, rfl⟩ := Kd.R_slice ho
                       have HO3 := Aside0.mk ho; have HB3 := Aside0.mk hb; have X3 : Aside0 (Below (wr.drew).heap.size wr.drew w3) := Aside0.mk (pw_below_grown (Below.refl _ _) none (Nat.le_refl _) hg (fun k e => by cases e)); have F3 : Aside0 (∀ k, (Value.slice A3 L3.length c3).ownBlock = some k → (wr.drew).heap.size ≤ k) := Aside0.mk (fun k hk => own_fresh hat hk); clear ho hb hg hat))
                  have HALL : L6 = ([] : List CI) ++ [y] ++ ([] : List CI) := by rw [LL6.out, LL5.out, LL3.out]
                  have HROWS : Aside0 (∀ z ∈ L6, RowNew w6 w.heap.size z) := Aside0.mk (fun z hz => by
                    rw [HALL] at hz
                    rcases List.mem_append.1 hz with hz | hz
                    · rcases List.mem_append.1 hz with hz | hz
                      · exact (HNd.out z (by first | exact List.mem_of_mem_take hz | exact hz)).below X6.out
                      · obtain rfl := List.mem_singleton.1 hz
                        exact HY6.out.lower Z4.out
                    · exact (HNd.out z (by first | exact List.mem_of_mem_drop hz | exact hz)).below X6.out)
                  have HPURE : Aside0 (L6.map CI.pure = rlistV kind ((Lr.take (i + 1)).map CI.pure)) := Aside0.mk (by rw [HD.out, rlistV_snoc, if_pos (show x.pure.kind = kind from KX.out), ← HOUT.out, HALL]; exact insN_at ([] : List CI) x y 0 HYP.out HA.out HLO.out HHI.out)
                  have HLEN6 : Aside0 (L6.length ≤ i + 1) := Aside0.mk (by rw [HALL]; simp only [List.length_append, List.length_take, List.length_drop, List.length_singleton, List.length_nil]; have := HOL.out; have := HA.out; omega)
                  clear HALL
                  go_roundg k1
                  case measure => have := HK.out; omega
                  case rel => exact ⟨i + 1, L6, A6, c6_, rfl, (by first | rfl | (simp; done) | (simp [*]; done)), ⟨by have := HK.out; omega⟩, ⟨by omega⟩, ⟨HPURE.out⟩, ⟨HLEN6.out⟩, HO6, HROWS, HB6⟩
                · subst eA
                  have b1 : (a : Int) ≤ (co : Int) := by have := HCO.out; have := HA.out; omega
                  have b2 : (a : Int) ≤ (out.length : Int) := by have := HA.out; omega
                  have b3 : (out.length : Int) ≤ (co : Int) := by have := HCO.out; omega
                  by_cases hca : co = a
                  · subst hca
                    go_wp2_with fail
                    refine start_ (n := 14) (S := fun w' => True) (ds := []) #[false, false, false, false, false, false, false, false, false, false, false, false, false, false] (by kernel_rfl) rfl rfl trivial (fun hHeld => ?_)
                    refine pure_ (i := 0) (N := some 23) (v := ?_) (a' := ?_) #[true, false, false, false, false, false, false, false, false, false, false, false, false, false] rfl rfl (by kernel_rfl) (fun _ _ _ h => h) (Or.inl ⟨by rfl, ?_⟩) ?_ ?_
                    rotate_left
                    · intro w'
                      go_simp
                      with_reducible rfl
                    rotate_left
                    · simp only [Act.put, List.setIfInBounds_toArray, List.set_cons_zero, List.set_cons_succ, i64_w, i32_w]
                      rfl
                    refine pure_ (i := 1) (N := some 24) (v := ?_) (a' := ?_) #[true, true, false, false, false, false, false, false, false, false, false, false, false, false] rfl rfl (by kernel_rfl) (fun _ _ _ h => h) (Or.inl ⟨by rfl, ?_⟩) ?_ ?_
                    rotate_left
                    · intro w'
                      go_simp
                      with_reducible rfl
                    rotate_left
                    · simp only [Act.put, List.setIfInBounds_toArray, List.set_cons_zero, List.set_cons_succ, i64_w, i32_w]
                      rfl
                    refine pure_ (i := 2) (N := some 25) (v := ?_) (a' := ?_) #[true, true, true, false, false, false, false, false, false, false, false, false, false, false] rfl rfl (by kernel_rfl) (fun _ _ _ h => h) (Or.inl ⟨by rfl, ?_⟩) ?_ ?_
                    rotate_left
                    · intro w'
                      go_simp
                      with_reducible rfl
                    rotate_left
                    · simp only [Act.put, List.setIfInBounds_toArray, List.set_cons_zero, List.set_cons_succ, i64_w, i32_w]
                      rfl
                    refine pure_ (i := 3) (N := some 26) (v := ?_) (a' := ?_) #[true, true, true, true, false, false, false, false, false, false, false, false, false, false] rfl rfl (by kernel_rfl) (fun _ _ _ h => h) (Or.inl ⟨by rfl, ?_⟩) ?_ ?_
                    rotate_left
                    · intro w'
                      go_simp
                      with_reducible rfl
                    rotate_left
                    · simp only [Act.put, List.setIfInBounds_toArray, List.set_cons_zero, List.set_cons_succ, i64_w, i32_w]
                      rfl
                    refine pure_ (i := 4) (N := some 27) (v := ?_) (a' := ?_) #[true, true, true, true, true, false, false, false, false, false, false, false, false, false] rfl rfl (by kernel_rfl) (fun _ _ _ h => h) (Or.inl ⟨by rfl, ?_⟩) ?_ ?_
                    rotate_left
                    · intro w'
                      go_simp
                      with_reducible rfl
                    rotate_left
                    · simp only [Act.put, List.setIfInBounds_toArray, List.set_cons_zero, List.set_cons_succ, i64_w, i32_w]
                      rfl
                    refine pure_ (i := 5) (N := some 28) (v := undef) (a' := ?_) #[true, true, true, true, true, true, false, false, false, false, false, false, false, false] rfl rfl (by kernel_rfl) (fun _ _ _ h => h) (Or.inr ⟨by rfl, rfl⟩) ?_ ?_
                    rotate_left
                    · simp only [Act.put, List.setIfInBounds_toArray, List.set_cons_zero, List.set_cons_succ, i64_w, i32_w]
                      rfl
                    refine pure_ (i := 6) (N := some 29) (v := undef) (a' := ?_) #[true, true, true, true, true, true, true, false, false, false, false, false, false, false] rfl rfl (by kernel_rfl) (fun _ _ _ h => h) (Or.inr ⟨by rfl, rfl⟩) ?_ ?_
                    rotate_left
                    · simp only [Act.put, List.setIfInBounds_toArray, List.set_cons_zero, List.set_cons_succ, i64_w, i32_w]
                      rfl
                    refine pure_ (i := 7) (N := some 30) (v := undef) (a' := ?_) #[true, true, true, true, true, true, true, true, false, false, false, false, false, false] rfl rfl (by kernel_rfl) (fun _ _ _ h => h) (Or.inr ⟨by rfl, rfl⟩) ?_ ?_
                    rotate_left
                    · simp only [Act.put, List.setIfInBounds_toArray, List.set_cons_zero, List.set_cons_succ, i64_w, i32_w]
                      rfl
                    refine pure_ (i := 8) (N := some 31) (v := undef) (a' := ?_) #[true, true, true, true, true, true, true, true, true, false, false, false, false, false] rfl rfl (by kernel_rfl) (fun _ _ _ h => h) (Or.inr ⟨by rfl, rfl⟩) ?_ ?_
                    rotate_left
                    · simp only [Act.put, List.setIfInBounds_toArray, List.set_cons_zero, List.set_cons_succ, i64_w, i32_w]
                      rfl
                    refine pure_ (i := 9) (N := some 32) (v := undef) (a' := ?_) #[true, true, true, true, true, true, true, true, true, true, false, false, false, false] rfl rfl (by kernel_rfl) (fun _ _ _ h => h) (Or.inr ⟨by rfl, rfl⟩) ?_ ?_
                    rotate_left
                    · simp only [Act.put, List.setIfInBounds_toArray, List.set_cons_zero, List.set_cons_succ, i64_w, i32_w]
                      rfl
                    refine pure_ (i := 10) (N := some 33) (v := undef) (a' := ?_) #[true, true, true, true, true, true, true, true, true, true, true, false, false, false] rfl rfl (by kernel_rfl) (fun _ _ _ h => h) (Or.inr ⟨by rfl, rfl⟩) ?_ ?_
                    rotate_left
                    · simp only [Act.put, List.setIfInBounds_toArray, List.set_cons_zero, List.set_cons_succ, i64_w, i32_w]
                      rfl
                    refine pure_ (i := 11) (N := some 34) (v := undef) (a' := ?_) #[true, true, true, true, true, true, true, true, true, true, true, true, false, false] rfl rfl (by kernel_rfl) (fun _ _ _ h => h) (Or.inr ⟨by rfl, rfl⟩) ?_ ?_
                    rotate_left
                    · simp only [Act.put, List.setIfInBounds_toArray, List.set_cons_zero, List.set_cons_succ, i64_w, i32_w]
                      rfl
                    refine pure_ (i := 12) (N := some 35) (v := undef) (a' := ?_) #[true, true, true, true, true, true, true, true, true, true, true, true, true, false] rfl rfl (by kernel_rfl) (fun _ _ _ h => h) (Or.inr ⟨by rfl, rfl⟩) ?_ ?_
                    rotate_left
                    · simp only [Act.put, List.setIfInBounds_toArray, List.set_cons_zero, List.set_cons_succ, i64_w, i32_w]
                      rfl
                    refine pure_ (i := 13) (N := some 36) (v := ?_) (a' := ?_) #[true, true, true, true, true, true, true, true, true, true, true, true, true, true] rfl rfl (by kernel_rfl) (fun _ _ _ h => h) (Or.inl ⟨by rfl, ?_⟩) ?_ ?_
                    rotate_left
                    · intro w'
                      go_simp
                      with_reducible rfl
                    rotate_left
                    · simp only [Act.put, List.setIfInBounds_toArray, List.set_cons_zero, List.set_cons_succ, i64_w, i32_w]
                      rfl
                    refine done_ (by kernel_rfl) ?_
                    go_wp2_with (first
                      | ((with_reducible refine gate_builtin (b := .append) (xs := #[.tmp 43, .tmp 46]) rfl ?_); at_builtin; refine Kd.R_append kCI (w0 := w) (W := w4) w.heap.size rfl (.tmp 43) (.tmp 46) 63 31 (itemV noItem) 88 rfl Try.underlying63 infoItem_ rfl (by decide) (by decide) (.slice A3 L3.length c3) L3 y y.cells (fun k => w.heap.size ≤ k) (fun _ => False) rfl rfl rfl (fun _ hk => hk.elim) ?aF HO4.out HB4.out HB4.out.size ?aL ?_; (case aF => exact fun k hk => Nat.le_trans HB4.out.size hk); (case aL => have := HL3.out; have := HAL.out; omega); intro v5 w5 ho hb hg hat
                         obtain ⟨L5, hL⟩ : ∃ z, z = L3 ++ [y] := ⟨_, rfl⟩
                         rw [← hL] at ho
                         have LL5 := Aside0.mk hL; have HL5 : Aside0 (L5.length = co + 1) := Aside0.mk (by rw [hL, List.length_append, HL3.out]; rfl); clear hL
                         obtain ⟨A5, c5_, rfl⟩ := Kd.R_slice ho
                         have HO5 := Aside0.mk ho; have HB5 := Aside0.mk hb; have X5 := Aside0.mk (pw_below_grown X4.out _ X4.out.size hg (fun k e => F3.out k e)); have HY5 := Aside0.mk (RowNew.grownL HY4.out HO4.out hg); have F5 : Aside0 (∀ k, (Value.slice A5 L5.length c5_).ownBlock = some k → (wr.drew).heap.size ≤ k) := Aside0.mk (fun k hk => own_next F3.out X4.out.size hat hk); clear ho hb hg hat)
                      | ((with_reducible refine gate_builtin (b := .append) (xs := #[.tmp 48, .tmp 51]) rfl ?_); at_builtin; refine Kd.R_append_rows kCI (w0 := w) (W := w5) (Rr := fun x cs => kCI.K w5 x cs) w.heap.size rfl _ _ 63 31 (itemV noItem) 88 rfl Try.underlying63 infoItem_ rfl (by decide) (by decide) (.slice A5 L5.length c5_) L5 (out.drop co) (some ⟨go, 0, none⟩) (out.length - co) (0) (fun k => w.heap.size ≤ k) (fun _ => False) rfl rfl HO5.out ?aC (fun _ _ h => h) (fun _ h => h.elim) ?aF HB5.out HB5.out.size ?aL ?_; (case aC => have h := Kd.C_drop (k := kCI) (c := co) (Kd.R_reads' (Kd.R_below HROd.out X5.out)).2.2 (m := co) HA.out HCO.out; rw [List.length_drop, if_pos rfl] at h; exact h); (case aF => exact fun k hk => Nat.le_trans HB5.out.size hk); (case aL => have := HL5.out; have := HAL.out; have := HOL.out; have := HIL.out; omega); intro v6 w6 ho hb hg hat
                         obtain ⟨L6, hL⟩ : ∃ z, z = L5 ++ out.drop co := ⟨_, rfl⟩
                         rw [← hL] at ho
                         have LL6 := Aside0.mk hL; clear hL
                         obtain ⟨A6, c6_, rfl⟩ := Kd.R_slice ho
                         have HO6 := Aside0.mk ho; have HB6 := Aside0.mk hb; have X6 := Aside0.mk (pw_below_grown X5.out _ X5.out.size hg (fun k e => F5.out k e)); have HY6 := Aside0.mk (RowNew.grownL HY5.out HO5.out hg); clear ho hb hg hat)
                      | ((with_reducible refine gate_dst (N := 44) rfl ?_); refine load_at rfl (t := 31) rfl g7 _ 31 _ rfl (BId.out.below X3.out) Try.underlying31 size_item ?_)
                      | (go_at_call 36; refine (rcopy.calls x w3 (HRd.out.below X3.out) HFX.out).mono ?_; rintro e w4 ⟨y, rfl, hy, hyp, hb⟩
                         have HY4 := Aside0.mk hy; have HYP := Aside0.mk hyp; have HO4 := Aside0.mk (Kd.R_below HO3.out hb); have HB4 := Aside0.mk (below_then HB3.out HB3.out.size hb); have X4 := Aside0.mk (below_then X3.out X3.out.size hb); have Z4 : Aside0 (w.heap.size ≤ w3.heap.size) := Aside0.mk HB3.out.size; clear hy hyp hb)
                      | ((with_reducible refine gate_dst (N := 46) rfl ?_); refine build1_at rfl rfl y rfl ?_)
                      | (at_builtin; refine Kd.R_append_rows kCI (w0 := w) (W := wr.drew) (Rr := fun x cs => kCI.K wr.drew x cs) w.heap.size rfl _ _ 63 31 (itemV noItem) 88 rfl Try.underlying63 infoItem_ rfl (by decide) (by decide) (.slice none 0 0) [] (out.take co) (some ⟨go, 0, none⟩) co co (fun k => w.heap.size ≤ k) (fun _ => False) rfl rfl (Kd.R_nil _ _ _ _ _) ?aC (fun _ _ h => h) (fun _ h => h.elim) ?aF HBd.out HBd.out.size ?aL ?_; (case aC => have h := Kd.C_take (k := kCI) (Kd.R_reads' HROd.out).2.2 (m := co) HA.out; rw [List.length_take, Nat.min_eq_left HA.out] at h; exact h); (case aF => exact fun k hk => Nat.le_trans HBd.out.size hk); (case aL => have := HAL.out; first | (simp; done) | (simp; omega)); intro v3 w3 ho hb hg hat
                         obtain ⟨L3, hL⟩ : ∃ z, z = out.take co := ⟨_, rfl⟩
                         rw [List.nil_append, ← hL] at ho
                         have LL3 := Aside0.mk hL; have HL3 : Aside0 (L3.length = co) := Aside0.mk (by rw [hL, List.length_take]; exact Nat.min_eq_left HA.out); clear hL
                         obtain ⟨A3, c3, rfl⟩ := Kd.R_slice ho
                         have HO3 := Aside0.mk ho; have HB3 := Aside0.mk hb; have X3 : Aside0 (Below (wr.drew).heap.size wr.drew w3) := Aside0.mk (pw_below_grown (Below.refl _ _) none (Nat.le_refl _) hg (fun k e => by cases e)); have F3 : Aside0 (∀ k, (Value.slice A3 L3.length c3).ownBlock = some k → (wr.drew).heap.size ≤ k) := Aside0.mk (fun k hk => own_fresh hat hk); clear ho hb hg hat))
                    have HALL : L6 = out.take co ++ [y] ++ out.drop co := by rw [LL6.out, LL5.out, LL3.out]
                    have HROWS : Aside0 (∀ z ∈ L6, RowNew w6 w.heap.size z) := Aside0.mk (fun z hz => by
                      rw [HALL] at hz
                      rcases List.mem_append.1 hz with hz | hz
                      · rcases List.mem_append.1 hz with hz | hz
                        · exact (HNd.out z (by first | exact List.mem_of_mem_take hz | exact hz)).below X6.out
                        · obtain rfl := List.mem_singleton.1 hz
                          exact HY6.out.lower Z4.out
                      · exact (HNd.out z (by first | exact List.mem_of_mem_drop hz | exact hz)).below X6.out)
                    have HPURE : Aside0 (L6.map CI.pure = rlistV kind ((Lr.take (i + 1)).map CI.pure)) := Aside0.mk (by rw [HD.out, rlistV_snoc, if_pos (show x.pure.kind = kind from KX.out), ← HOUT.out, HALL]; exact insN_at out x y co HYP.out HA.out HLO.out HHI.out)
                    have HLEN6 : Aside0 (L6.length ≤ i + 1) := Aside0.mk (by rw [HALL]; simp only [List.length_append, List.length_take, List.length_drop, List.length_singleton, List.length_nil]; have := HOL.out; have := HA.out; omega)
                    clear HALL
                    go_roundg k1
                    case measure => have := HK.out; omega
                    case rel => exact ⟨i + 1, L6, A6, c6_, rfl, (by first | rfl | (simp; done) | (simp [*]; done)), ⟨by have := HK.out; omega⟩, ⟨by omega⟩, ⟨HPURE.out⟩, ⟨HLEN6.out⟩, HO6, HROWS, HB6⟩
                  · go_wp2_with fail
                    refine start_ (n := 14) (S := fun w' => True) (ds := []) #[false, false, false, false, false, false, false, false, false, false, false, false, false, false] (by kernel_rfl) rfl rfl trivial (fun hHeld => ?_)
                    refine pure_ (i := 0) (N := some 23) (v := ?_) (a' := ?_) #[true, false, false, false, false, false, false, false, false, false, false, false, false, false] rfl rfl (by kernel_rfl) (fun _ _ _ h => h) (Or.inl ⟨by rfl, ?_⟩) ?_ ?_
                    rotate_left
                    · intro w'
                      go_simp
                      with_reducible rfl
                    rotate_left
                    · simp only [Act.put, List.setIfInBounds_toArray, List.set_cons_zero, List.set_cons_succ, i64_w, i32_w]
                      rfl
                    refine pure_ (i := 1) (N := some 24) (v := ?_) (a' := ?_) #[true, true, false, false, false, false, false, false, false, false, false, false, false, false] rfl rfl (by kernel_rfl) (fun _ _ _ h => h) (Or.inl ⟨by rfl, ?_⟩) ?_ ?_
                    rotate_left
                    · intro w'
                      go_simp
                      with_reducible rfl
                    rotate_left
                    · simp only [Act.put, List.setIfInBounds_toArray, List.set_cons_zero, List.set_cons_succ, i64_w, i32_w]
                      rfl
                    refine pure_ (i := 2) (N := some 25) (v := ?_) (a' := ?_) #[true, true, true, false, false, false, false, false, false, false, false, false, false, false] rfl rfl (by kernel_rfl) (fun _ _ _ h => h) (Or.inl ⟨by rfl, ?_⟩) ?_ ?_
                    rotate_left
                    · intro w'
                      go_simp
                      with_reducible rfl
                    rotate_left
                    · simp only [Act.put, List.setIfInBounds_toArray, List.set_cons_zero, List.set_cons_succ, i64_w, i32_w]
                      rfl
                    refine pure_ (i := 3) (N := some 26) (v := ?_) (a' := ?_) #[true, true, true, true, false, false, false, false, false, false, false, false, false, false] rfl rfl (by kernel_rfl) (fun _ _ _ h => h) (Or.inl ⟨by rfl, ?_⟩) ?_ ?_
                    rotate_left
                    · intro w'
                      go_simp
                      with_reducible rfl
                    rotate_left
                    · simp only [Act.put, List.setIfInBounds_toArray, List.set_cons_zero, List.set_cons_succ, i64_w, i32_w]
                      rfl
                    refine pure_ (i := 4) (N := some 27) (v := ?_) (a' := ?_) #[true, true, true, true, true, false, false, false, false, false, false, false, false, false] rfl rfl (by kernel_rfl) (fun _ _ _ h => h) (Or.inl ⟨by rfl, ?_⟩) ?_ ?_
                    rotate_left
                    · intro w'
                      go_simp
                      with_reducible rfl
                    rotate_left
                    · simp only [Act.put, List.setIfInBounds_toArray, List.set_cons_zero, List.set_cons_succ, i64_w, i32_w]
                      rfl
                    refine pure_ (i := 5) (N := some 28) (v := undef) (a' := ?_) #[true, true, true, true, true, true, false, false, false, false, false, false, false, false] rfl rfl (by kernel_rfl) (fun _ _ _ h => h) (Or.inr ⟨by rfl, rfl⟩) ?_ ?_
                    rotate_left
                    · simp only [Act.put, List.setIfInBounds_toArray, List.set_cons_zero, List.set_cons_succ, i64_w, i32_w]
                      rfl
                    refine pure_ (i := 6) (N := some 29) (v := undef) (a' := ?_) #[true, true, true, true, true, true, true, false, false, false, false, false, false, false] rfl rfl (by kernel_rfl) (fun _ _ _ h => h) (Or.inr ⟨by rfl, rfl⟩) ?_ ?_
                    rotate_left
                    · simp only [Act.put, List.setIfInBounds_toArray, List.set_cons_zero, List.set_cons_succ, i64_w, i32_w]
                      rfl
                    refine pure_ (i := 7) (N := some 30) (v := undef) (a' := ?_) #[true, true, true, true, true, true, true, true, false, false, false, false, false, false] rfl rfl (by kernel_rfl) (fun _ _ _ h => h) (Or.inr ⟨by rfl, rfl⟩) ?_ ?_
                    rotate_left
                    · simp only [Act.put, List.setIfInBounds_toArray, List.set_cons_zero, List.set_cons_succ, i64_w, i32_w]
                      rfl
                    refine pure_ (i := 8) (N := some 31) (v := undef) (a' := ?_) #[true, true, true, true, true, true, true, true, true, false, false, false, false, false] rfl rfl (by kernel_rfl) (fun _ _ _ h => h) (Or.inr ⟨by rfl, rfl⟩) ?_ ?_
                    rotate_left
                    · simp only [Act.put, List.setIfInBounds_toArray, List.set_cons_zero, List.set_cons_succ, i64_w, i32_w]
                      rfl
                    refine pure_ (i := 9) (N := some 32) (v := undef) (a' := ?_) #[true, true, true, true, true, true, true, true, true, true, false, false, false, false] rfl rfl (by kernel_rfl) (fun _ _ _ h => h) (Or.inr ⟨by rfl, rfl⟩) ?_ ?_
                    rotate_left
                    · simp only [Act.put, List.setIfInBounds_toArray, List.set_cons_zero, List.set_cons_succ, i64_w, i32_w]
                      rfl
                    refine pure_ (i := 10) (N := some 33) (v := undef) (a' := ?_) #[true, true, true, true, true, true, true, true, true, true, true, false, false, false] rfl rfl (by kernel_rfl) (fun _ _ _ h => h) (Or.inr ⟨by rfl, rfl⟩) ?_ ?_
                    rotate_left
                    · simp only [Act.put, List.setIfInBounds_toArray, List.set_cons_zero, List.set_cons_succ, i64_w, i32_w]
                      rfl
                    refine pure_ (i := 11) (N := some 34) (v := undef) (a' := ?_) #[true, true, true, true, true, true, true, true, true, true, true, true, false, false] rfl rfl (by kernel_rfl) (fun _ _ _ h => h) (Or.inr ⟨by rfl, rfl⟩) ?_ ?_
                    rotate_left
                    · simp only [Act.put, List.setIfInBounds_toArray, List.set_cons_zero, List.set_cons_succ, i64_w, i32_w]
                      rfl
                    refine pure_ (i := 12) (N := some 35) (v := undef) (a' := ?_) #[true, true, true, true, true, true, true, true, true, true, true, true, true, false] rfl rfl (by kernel_rfl) (fun _ _ _ h => h) (Or.inr ⟨by rfl, rfl⟩) ?_ ?_
                    rotate_left
                    · simp only [Act.put, List.setIfInBounds_toArray, List.set_cons_zero, List.set_cons_succ, i64_w, i32_w]
                      rfl
                    refine pure_ (i := 13) (N := some 36) (v := ?_) (a' := ?_) #[true, true, true, true, true, true, true, true, true, true, true, true, true, true] rfl rfl (by kernel_rfl) (fun _ _ _ h => h) (Or.inl ⟨by rfl, ?_⟩) ?_ ?_
                    rotate_left
                    · intro w'
                      go_simp
                      with_reducible rfl
                    rotate_left
                    · simp only [Act.put, List.setIfInBounds_toArray, List.set_cons_zero, List.set_cons_succ, i64_w, i32_w]
                      rfl
                    refine done_ (by kernel_rfl) ?_
                    go_wp2_with (first
                      | ((with_reducible refine gate_builtin (b := .append) (xs := #[.tmp 43, .tmp 46]) rfl ?_); at_builtin; refine Kd.R_append kCI (w0 := w) (W := w4) w.heap.size rfl (.tmp 43) (.tmp 46) 63 31 (itemV noItem) 88 rfl Try.underlying63 infoItem_ rfl (by decide) (by decide) (.slice A3 L3.length c3) L3 y y.cells (fun k => w.heap.size ≤ k) (fun _ => False) rfl rfl rfl (fun _ hk => hk.elim) ?aF HO4.out HB4.out HB4.out.size ?aL ?_; (case aF => exact fun k hk => Nat.le_trans HB4.out.size hk); (case aL => have := HL3.out; have := HAL.out; omega); intro v5 w5 ho hb hg hat
                         obtain ⟨L5, hL⟩ : ∃ z, z = L3 ++ [y] := ⟨_, rfl⟩
                         rw [← hL] at ho
                         have LL5 := Aside0.mk hL; have HL5 : Aside0 (L5.length = a + 1) := Aside0.mk (by rw [hL, List.length_append, HL3.out]; rfl); clear hL
                         obtain ⟨A5, c5_, rfl⟩ := Kd.R_slice ho
                         have HO5 := Aside0.mk ho; have HB5 := Aside0.mk hb; have X5 := Aside0.mk (pw_below_grown X4.out _ X4.out.size hg (fun k e => F3.out k e)); have HY5 := Aside0.mk (RowNew.grownL HY4.out HO4.out hg); have F5 : Aside0 (∀ k, (Value.slice A5 L5.length c5_).ownBlock = some k → (wr.drew).heap.size ≤ k) := Aside0.mk (fun k hk => own_next F3.out X4.out.size hat hk); clear ho hb hg hat)
                      | ((with_reducible refine gate_builtin (b := .append) (xs := #[.tmp 48, .tmp 51]) rfl ?_); at_builtin; refine Kd.R_append_rows kCI (w0 := w) (W := w5) (Rr := fun x cs => kCI.K w5 x cs) w.heap.size rfl _ _ 63 31 (itemV noItem) 88 rfl Try.underlying63 infoItem_ rfl (by decide) (by decide) (.slice A5 L5.length c5_) L5 (out.drop a) (some ⟨go, a * 6, none⟩) (out.length - a) (co - a) (fun k => w.heap.size ≤ k) (fun _ => False) rfl rfl HO5.out ?aC (fun _ _ h => h) (fun _ h => h.elim) ?aF HB5.out HB5.out.size ?aL ?_; (case aC => have h := Kd.C_drop (k := kCI) (c := co) (Kd.R_reads' (Kd.R_below HROd.out X5.out)).2.2 (m := a) HA.out HCO.out; rw [List.length_drop, if_neg hca, Option.map_some, show ((⟨go, 0, none⟩ : Addr).add (a * kCI.sz)) = ⟨go, a * 6, none⟩ from add_plain _ _] at h; exact h); (case aF => exact fun k hk => Nat.le_trans HB5.out.size hk); (case aL => have := HL5.out; have := HAL.out; have := HOL.out; have := HIL.out; omega); intro v6 w6 ho hb hg hat
                         obtain ⟨L6, hL⟩ : ∃ z, z = L5 ++ out.drop a := ⟨_, rfl⟩
                         rw [← hL] at ho
                         have LL6 := Aside0.mk hL; clear hL
                         obtain ⟨A6, c6_, rfl⟩ := Kd.R_slice ho
                         have HO6 := Aside0.mk ho; have HB6 := Aside0.mk hb; have X6 := Aside0.mk (pw_below_grown X5.out _ X5.out.size hg (fun k e => F5.out k e)); have HY6 := Aside0.mk (RowNew.grownL HY5.out HO5.out hg); clear ho hb hg hat)
                      | ((with_reducible refine gate_dst (N := 44) rfl ?_); refine load_at rfl (t := 31) rfl g7 _ 31 _ rfl (BId.out.below X3.out) Try.underlying31 size_item ?_)
                      | (go_at_call 36; refine (rcopy.calls x w3 (HRd.out.below X3.out) HFX.out).mono ?_; rintro e w4 ⟨y, rfl, hy, hyp, hb⟩
                         have HY4 := Aside0.mk hy; have HYP := Aside0.mk hyp; have HO4 := Aside0.mk (Kd.R_below HO3.out hb); have HB4 := Aside0.mk (below_then HB3.out HB3.out.size hb); have X4 := Aside0.mk (below_then X3.out X3.out.size hb); have Z4 : Aside0 (w.heap.size ≤ w3.heap.size) := Aside0.mk HB3.out.size; clear hy hyp hb)
                      | ((with_reducible refine gate_dst (N := 46) rfl ?_); refine build1_at rfl rfl y rfl ?_)
                      | (at_builtin; refine Kd.R_append_rows kCI (w0 := w) (W := wr.drew) (Rr := fun x cs => kCI.K wr.drew x cs) w.heap.size rfl _ _ 63 31 (itemV noItem) 88 rfl Try.underlying63 infoItem_ rfl (by decide) (by decide) (.slice none 0 0) [] (out.take a) (some ⟨go, 0, none⟩) a co (fun k => w.heap.size ≤ k) (fun _ => False) rfl rfl (Kd.R_nil _ _ _ _ _) ?aC (fun _ _ h => h) (fun _ h => h.elim) ?aF HBd.out HBd.out.size ?aL ?_; (case aC => have h := Kd.C_take (k := kCI) (Kd.R_reads' HROd.out).2.2 (m := a) HA.out; rw [List.length_take, Nat.min_eq_left HA.out] at h; exact h); (case aF => exact fun k hk => Nat.le_trans HBd.out.size hk); (case aL => have := HAL.out; first | (simp; done) | (simp; omega)); intro v3 w3 ho hb hg hat
                         obtain ⟨L3, hL⟩ : ∃ z, z = out.take a := ⟨_, rfl⟩
                         rw [List.nil_append, ← hL] at ho
                         have LL3 := Aside0.mk hL; have HL3 : Aside0 (L3.length = a) := Aside0.mk (by rw [hL, List.length_take]; exact Nat.min_eq_left HA.out); clear hL
                         obtain ⟨A3, c3, rfl⟩ := Kd.R_slice ho
                         have HO3 := Aside0.mk ho; have HB3 := Aside0.mk hb; have X3 : Aside0 (Below (wr.drew).heap.size wr.drew w3) := Aside0.mk (pw_below_grown (Below.refl _ _) none (Nat.le_refl _) hg (fun k e => by cases e)); have F3 : Aside0 (∀ k, (Value.slice A3 L3.length c3).ownBlock = some k → (wr.drew).heap.size ≤ k) := Aside0.mk (fun k hk => own_fresh hat hk); clear ho hb hg hat))
                    have HALL : L6 = out.take a ++ [y] ++ out.drop a := by rw [LL6.out, LL5.out, LL3.out]
                    have HROWS : Aside0 (∀ z ∈ L6, RowNew w6 w.heap.size z) := Aside0.mk (fun z hz => by
                      rw [HALL] at hz
                      rcases List.mem_append.1 hz with hz | hz
                      · rcases List.mem_append.1 hz with hz | hz
                        · exact (HNd.out z (by first | exact List.mem_of_mem_take hz | exact hz)).below X6.out
                        · obtain rfl := List.mem_singleton.1 hz
                          exact HY6.out.lower Z4.out
                      · exact (HNd.out z (by first | exact List.mem_of_mem_drop hz | exact hz)).below X6.out)
                    have HPURE : Aside0 (L6.map CI.pure = rlistV kind ((Lr.take (i + 1)).map CI.pure)) := Aside0.mk (by rw [HD.out, rlistV_snoc, if_pos (show x.pure.kind = kind from KX.out), ← HOUT.out, HALL]; exact insN_at out x y a HYP.out HA.out HLO.out HHI.out)
                    have HLEN6 : Aside0 (L6.length ≤ i + 1) := Aside0.mk (by rw [HALL]; simp only [List.length_append, List.length_take, List.length_drop, List.length_singleton, List.length_nil]; have := HOL.out; have := HA.out; omega)
                    clear HALL
                    go_roundg k1
                    case measure => have := HK.out; omega
                    case rel => exact ⟨i + 1, L6, A6, c6_, rfl, (by first | rfl | (simp; done) | (simp [*]; done)), ⟨by have := HK.out; omega⟩, ⟨by omega⟩, ⟨HPURE.out⟩, ⟨HLEN6.out⟩, HO6, HROWS, HB6⟩
        · have KX := Aside0.mk kx
          have q1 : (x.kind == kind) = false := beq_eq_false_iff_ne.2 kx
          have q2 : (x.kind != kind) = true := bne_iff_ne.2 kx
          clear kx
          go_wp2_with (first
            | ((with_reducible refine gate_dst (N := 7) rfl ?_); refine new_at rfl (t := 31) rfl noItem.cells (itemV noItem) (fun W => zero_item W) rfl ?_; intro g7 hg w1 hk hb
               have BZ7 := Aside0.mk hk; have XA7 := Aside0.mk hb; have G7 : Aside0 (wr.heap.size ≤ g7) := Aside0.mk (by omega); clear hk hb hg)
            | ((with_reducible refine gate_store (p := 7) rfl ?_); refine store_at rfl (t := 31) rfl rfl g7 0 _ 31 _ rfl rfl BZ7.out x.cells rfl size_item (show (6 : Nat) ≤ 6 from Nat.le_refl 6) (cells_one _) ?_; intro w2 hk hg
               have BI7 : Aside0 (Blk w2 g7 x.cells 31) := Aside0.mk hk
               have XB7 := Aside0.mk (pw_below_grown XA7.out (some g7) XA7.out.size hg (fun k e => by cases e; exact G7.out))
               have y0 : w2.cell? ⟨g7, 0, none⟩ = some (.int .i64 x.kind) := BI7.out.cell 0
               have HB2 := Aside0.mk (below_then HB.out HB.out.size XB7.out); have HRO2 := Aside0.mk (Kd.R_below HRO.out XB7.out); have HNEW2 : Aside0 (∀ y ∈ out, RowNew w2 w.heap.size y) := Aside0.mk (fun y hy => (HNEW.out y hy).below XB7.out); clear hk hg))
          go_roundg k1
          case measure => have := HK.out; omega
          case rel => exact ⟨i + 1, out, Ao, co, rfl, (by first | rfl | (simp; done) | (simp [*]; done)), ⟨by have := HK.out; omega⟩, ⟨by omega⟩, ⟨by rw [HD.out, rlistV_snoc, if_neg (show ¬ x.pure.kind = kind from KX.out)]; exact HOUT.out⟩, ⟨by have := HOL.out; omega⟩, HRO2, HNEW2, HB2⟩
      · have c5' : ¬ (i : Int) < (Lr.length : Int) := by omega
        go_wp2
        go_ret
        exact ⟨out, Ao, co, rfl, HRO.out, HNEW.out, by have h := HOUT.out; rw [List.take_of_length_le (by omega)] at h; exact h, by have := HOL.out; have := HI_.out; have := HLEN.out; omega, HB.out⟩
end Go.Proofs.Ytmankbhlgjgnbaa.PAll
