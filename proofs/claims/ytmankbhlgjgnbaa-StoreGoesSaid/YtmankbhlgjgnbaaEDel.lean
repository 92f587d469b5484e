import Derived.Test.YtmankbhlgjgnbaaEInsert
namespace Go.Proofs.Ytmankbhlgjgnbaa.PAll
open Go.RowKit Go.Proofs.YtmankbhlgjgnbaaW.PrintWords Go.Proofs.YtmankbhlgjgnbaaW.PrintLast Go.Proofs.YtmankbhlgjgnbaaW.PrintMore Mem
set_option linter.unusedVariables false
set_option linter.unusedSimpArgs false
theorem step_append_run {P : Program} {ops : Array Oper} {o : Oper} {a : Act} {w : World} {K : Act → World → Prop} {Q : Exit → Act → World → Prop} {E : Prop}
    (hg : o.guard = none) (d x : Operand) (dT sT : TypeId) (hop : o.op = Op.call { callee := Callee.builtin Builtin.append, args := #[d, x], argTypes := #[dT, sT] })
    (v u : Value) (hd : a.eval d = v) (hx : a.eval x = u) {v' : Value} {w' : World} (hr : (Builtin.append_ #[dT, sT] o.type #[v, u]).run P w = .ok v' w') (hK : K (a.put o.dst v') w') :
    if Region.wanted o (yielded ops a.tmps) = true then Oper.wp P o a w K Q else E := by
  have hw : Region.wanted o (yielded ops a.tmps) = true := by simp [Region.wanted, hg]
  rw [if_pos hw]
  unfold Oper.wp
  simp [execOp, hop, resolve, invoke, builtin, hd, hx, hr, Result.andThen]
  exact hK
set_option maxRecDepth 20000 in
set_option maxHeartbeats 1000000 in
theorem delete_room (g i m cap : Nat) (l0 : List ByteArray) (cur : List Value) (base : Nat) (w : World) (hg0 : base ≤ g) (hb : Blk w g cur 9) (hn : m + 1 = l0.length) (hin : i ≤ m) (hcap : m + 1 ≤ cap) (hcm : cap ≤ 9223372036854775807) (hlen : cur.length = cap)
    (hreps : Reps (fun x cs => Kd.string.K w x cs) 1 l0 (cur.take (m + 1))) (ad : Addr) (had : (cap = i + 1 ∧ ad = ⟨g, 0, none⟩) ∨ (¬ cap = i + 1 ∧ ad = ⟨g, i + 1, none⟩)) :
    Calls Try.prog 34 #[.slice (some ⟨g, 0, none⟩) (m + 1) cap, .int .i64 i, .int .i64 ((i : Int) + 1)] w fun e w' => e = .returned (.slice (some ⟨g, 0, none⟩) m cap) ∧ Kd.R Kd.string 9 w' base (fun k => base ≤ k) (.slice (some ⟨g, 0, none⟩) m cap) (l0.take i ++ l0.drop (i + 1)) ∧ w.grownBy w' (some g) := by
  obtain ⟨i0, hi0, hz0, hzs, hzb⟩ := info_parts info9_
  obtain ⟨X, hX⟩ : ∃ X, X = (cur.take (m + 1)).drop (i + 1) := ⟨_, rfl⟩
  have hXl : X.length = m - i := by rw [hX, List.length_drop, List.length_take]; omega
  obtain ⟨L1, hL1⟩ : ∃ L1, L1 = cur.take i ++ X ++ cur.drop (i + X.length) := ⟨_, rfl⟩
  have hL1l : L1.length = cap := by
    rw [hL1]
    simp only [List.length_append, List.length_take, List.length_drop]
    omega
  have hL1t : L1.take m = cur.take i ++ X := by
    rw [hL1, List.take_append_of_le_length (by rw [List.length_append, List.length_take]; omega), List.take_of_length_le (by rw [List.length_append, List.length_take]; omega)]
  obtain ⟨L2, hL2⟩ : ∃ L2 : List Value, L2 = L1.take m ++ [.string ⟨#[]⟩] ++ L1.drop (m + 1 * 1) := ⟨_, rfl⟩
  have hL2l : L2.length = cap := by
    rw [hL2]
    simp only [List.length_append, List.length_take, List.length_drop, List.length_singleton]
    omega
  have hL2t : L2.take m = cur.take i ++ X := by
    rw [hL2, hL1t, List.append_assoc, List.take_append_of_le_length (by rw [List.length_append, List.length_take]; omega), List.take_of_length_le (by rw [List.length_append, List.length_take]; omega)]
  have happ : ∀ ty, (Builtin.append_ #[29, 29] ty #[.slice (some ⟨g, 0, none⟩) i cap, .slice (some ad) (m - i) (cap - (i + 1))]).run Try.prog w.drew = .ok (.slice (some ⟨g, 0, none⟩) m cap) (w.drew.setRow g L1.toArray) := fun ty => by
    have h := run_append_room (P := Try.prog) w.drew 29 ty 9 i0 Try.underlying29 hi0 g i cap cur.toArray hb.drew ad (m - i) (cap - (i + 1)) X (by rw [hzs, hXl, Nat.mul_one])
      (fun j u hj => by
        have hjl := (List.getElem?_eq_some_iff.1 hj).1
        rcases had with ⟨hc, _⟩ | ⟨_, rfl⟩
        · omega
        · rw [Addr.add_lit, hb.drew.cell]
          rw [hX, List.getElem?_drop, List.getElem?_take] at hj
          split at hj
          · exact hj
          · cases hj)
      (fun v hv => Kd.reps_one hreps (by decide) (fun p c hk => str_one hk) v (List.mem_of_mem_drop (hX ▸ hv))) (by omega) (by rw [hzs, hXl]; simp; omega)
    rw [hzs, Nat.mul_one, show i + (m - i) = m by omega] at h
    rw [hL1]
    simpa using h
  have hclr : ∀ (W : World), Blk W g L1 9 → ∀ ty c, (Builtin.clear_ #[29] ty #[.slice (some ⟨g, m, none⟩) 1 c]).run Try.prog W = .ok (.tuple #[]) (W.setRow g L2.toArray) := fun W hW ty c => by
    have h := run_clear_k (P := Try.prog) W 29 ty 9 1 g m 1 c L1 9 (.string ⟨#[]⟩) Try.underlying29 (by kernel_rfl) rfl hW (by decide) (by omega) (by intro v hv; simp [Builtin.zeroCells, Value.cells] at hv; subst hv; rfl)
    have hz : (Builtin.zeroCells (Value.string ⟨#[]⟩).cells 1).toList = [.string ⟨#[]⟩] := by simp [Builtin.zeroCells, Value.cells, Array.range]
    rw [hz] at h
    rw [hL2]
    exact h
  have HX := Aside0.mk hX
  have HT := Aside0.mk (And.intro hL2l hL2t)
  have HN := Aside0.mk hn
  have HRP := Aside0.mk hreps
  have HBK := Aside0.mk hb
  have fin : ∀ W : World, Blk W g L2 9 → w.grownBy W (some g) → Kd.R Kd.string 9 W base (fun k => base ≤ k) (.slice (some ⟨g, 0, none⟩) m cap) (l0.take i ++ l0.drop (i + 1)) ∧ w.grownBy W (some g) := fun W hW hg => by
    have hlen3 : (l0.take i ++ l0.drop (i + 1)).length = m := by
      rw [List.length_append, List.length_take, List.length_drop]
      omega
    refine ⟨⟨fun k hk => ?_, cur.take i ++ X, ?_, ?_⟩, hg⟩
    · have : g = k := by simpa [Value.ownBlock] using hk
      omega
    · rw [hlen3]
      exact blk_own hg0 hW (by omega) (by unfold maxLen; omega) (hL2l.trans (Nat.mul_one _).symm) (by rw [show m * Kd.string.sz = m from Nat.mul_one _]; exact hL2t)
    · refine Reps.imp_ (R := fun x cs => Kd.string.K w x cs) (Kd.reps_append ?_ ?_) (fun x cs hk => hk)
      · have h := Kd.reps_take (m := i) hreps (by omega)
        rw [Nat.mul_one, List.take_take, Nat.min_eq_left (by omega)] at h
        exact h
      · rw [hX]
        have h := (Kd.reps_drop hreps : Reps _ 1 (l0.drop (i + 1)) _)
        rw [Nat.mul_one] at h
        exact h
  have HFIN := Aside0.mk fin
  clear hX hL1 hL2 hXl hL1t hL2l hL2t hn hreps hi0 hz0 hzs hzb hb fin
  have hb1 : (0 : Int) ≤ (i : Int) + 1 := by omega
  have htn : ((i : Int) + 1).toNat = i + 1 := by omega
  have hii : ¬ ((i : Int) = (i : Int) + 1) := by omega
  have hin2 : (i : Int) + 1 ≤ (m : Int) + 1 := by omega
  have hin3 : (i : Int) ≤ (i : Int) + 1 := by omega
  have hin4 : (m : Int) + 1 ≤ (cap : Int) := by omega
  have hin5 : (i : Int) ≤ (m : Int) + 1 := by omega
  have hin7 : (i : Int) ≤ (m : Int) := by omega
  have hin6 : (i : Int) ≤ (cap : Int) := by omega
  have hnc : ¬ (cap = m) := by omega
  rcases had with ⟨hc, rfl⟩ | ⟨hc, rfl⟩
  · obtain rfl : m = i := by omega
    subst hc
    have happ1 : ∀ ty, (Builtin.append_ #[29, 29] ty #[.slice (some ⟨g, 0, none⟩) m (m + 1), .slice (some ⟨g, 0, none⟩) 0 0]).run Try.prog w.drew = .ok (.slice (some ⟨g, 0, none⟩) m (m + 1)) (w.drew.setRow g L1.toArray) := fun ty => by
      have := happ ty
      rwa [Nat.sub_self, Nat.sub_self] at this
    clear happ
    go_enter Try.func34, Try.ntmps34
    go_wp2
    go_region_law (refine step_append_run rfl (.tmp 22) (.tmp 25) 29 29 rfl (.slice (some ⟨g, 0, none⟩) m (m + 1)) (.slice (some ⟨g, 0, none⟩) 0 0) (by simp [Act.eval, Act.put]) (by simp [Act.eval, Act.put]) (happ1 _) ?_)
    all_goals
      have hbL : Aside0 (Blk (w.drew.setRow g L1.toArray) g L1 9) := Aside0.mk (Blk.set HBK.out.drew _)
      go_wp2_with ((with_reducible refine gate_builtin (b := .clear) rfl ?_); refine wpList_clear_run rfl _ 29 rfl _ rfl (hclr _ hbL.out _ _) ?_)
      go_ret
      exact ⟨rfl, HFIN.out _ (Blk.set hbL.out _) ⟨rfl, rfl, rfl, by simp [World.setRow], fun k _ hk => (setRow_other _ g k _ (fun e => hk (by rw [e]))).trans (setRow_other _ g k _ (fun e => hk (by rw [e])))⟩⟩
  · go_enter Try.func34, Try.ntmps34
    go_wp2
    go_region_law (refine step_append_run rfl (.tmp 22) (.tmp 25) 29 29 rfl (.slice (some ⟨g, 0, none⟩) i cap) (.slice (some ⟨g, i + 1, none⟩) (m - i) (cap - (i + 1))) (by simp [Act.eval, Act.put]) (by simp [Act.eval, Act.put]) (happ _) ?_)
    all_goals
      have hbL : Aside0 (Blk (w.drew.setRow g L1.toArray) g L1 9) := Aside0.mk (Blk.set HBK.out.drew _)
      go_wp2_with ((with_reducible refine gate_builtin (b := .clear) rfl ?_); refine wpList_clear_run rfl _ 29 rfl _ rfl (hclr _ hbL.out _ _) ?_)
      go_ret
      exact ⟨rfl, HFIN.out _ (Blk.set hbL.out _) ⟨rfl, rfl, rfl, by simp [World.setRow], fun k _ hk => (setRow_other _ g k _ (fun e => hk (by rw [e]))).trans (setRow_other _ g k _ (fun e => hk (by rw [e])))⟩⟩
/-- slices.Delete of one of an own row. -/
theorem delete_strs.calls (l0 : List ByteArray) (i : Nat) (A : Option Addr) (c : Nat) (base : Nat) (w : World) (ho : Kd.R Kd.string 9 w base (fun k => base ≤ k) (.slice A l0.length c) l0) (hi : i < l0.length) :
    Calls Try.prog 34 #[.slice A l0.length c, .int .i64 i, .int .i64 ((i : Int) + 1)] w fun e w' => ∃ (g c' : Nat), e = .returned (.slice (some ⟨g, 0, none⟩) (l0.take i ++ l0.drop (i + 1)).length c') ∧ Kd.R Kd.string 9 w' base (fun k => base ≤ k) (.slice (some ⟨g, 0, none⟩) (l0.take i ++ l0.drop (i + 1)).length c') (l0.take i ++ l0.drop (i + 1)) ∧ base ≤ g ∧ w.grownBy w' (some g) := by
  obtain ⟨hown, inner, ho', hrep⟩ := ho
  obtain ⟨g, cap, cur, e, hg, hblk, hl1, hl2, hl3, hl4⟩ := own_blk ho' (by omega)
  obtain ⟨m, hm⟩ : ∃ m, m + 1 = l0.length := ⟨l0.length - 1, by omega⟩
  have hlen3 : (l0.take i ++ l0.drop (i + 1)).length = m := by
    rw [List.length_append, List.length_take, List.length_drop]
    omega
  have hc : c = cap := by injection e
  have hA : A = some ⟨g, 0, none⟩ := by injection e
  rw [hlen3, hA, hc, ← hm]
  have hrep2 : Reps (fun x cs => Kd.string.K w x cs) 1 l0 (cur.take (m + 1)) := by
    have : cur.take (m + 1) = inner := by rw [← hl4, show l0.length * Kd.string.sz = l0.length from Nat.mul_one _, hm]
    rw [this]
    exact Reps.imp_ hrep (fun x cs hm => hm)
  have hca : ∃ ad : Addr, (cap = i + 1 ∧ ad = ⟨g, 0, none⟩) ∨ (¬ cap = i + 1 ∧ ad = ⟨g, i + 1, none⟩) := by
    by_cases h : cap = i + 1
    · exact ⟨_, .inl ⟨h, rfl⟩⟩
    · exact ⟨_, .inr ⟨h, rfl⟩⟩
  obtain ⟨ad, had⟩ := hca
  refine (delete_room g i m cap l0 cur base w hg hblk hm (by omega) (by omega) (by unfold maxLen at hl2; omega) (hl3.trans (Nat.mul_one _)) hrep2 ad had).mono fun e w' ⟨he, hr, hgr⟩ => ⟨g, cap, he, hr, hg, hgr⟩
end Go.Proofs.Ytmankbhlgjgnbaa.PAll
