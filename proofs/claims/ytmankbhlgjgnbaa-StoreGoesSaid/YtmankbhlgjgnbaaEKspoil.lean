import Derived.Test.YtmankbhlgjgnbaaEKlist
/-! The reference's store: spoil. -/
namespace Go.Proofs.Ytmankbhlgjgnbaa.PAll
open Go.RowKit Go.Proofs.YtmankbhlgjgnbaaW.PrintWords Go.Proofs.YtmankbhlgjgnbaaW.PrintLast Go.Proofs.YtmankbhlgjgnbaaW.PrintMore Mem
set_option linter.unusedVariables false
set_option linter.unusedSimpArgs false
/-- So many cells of a block that may be written. -/
def Wr (w : World) (base : Nat) (t : TypeId) (A : Option Addr) (n : Nat) : Prop := n ≤ maxLen ∧ (0 < n → ∃ g cur, A = some ⟨g, 0, none⟩ ∧ base ≤ g ∧ Blk w g cur t ∧ n ≤ cur.length)
theorem Wr.of_R {α : Type} {d : Kd α} {e base n c : Nat} {ok : Nat → Prop} {w : World} {A : Option Addr} {xs : List α} (h : d.R e w base ok (.slice A n c) xs) (hs : d.sz = 1) : Wr w base e A c ∧ n ≤ c := by
  refine ⟨?_, (Kd.R_reads' h).2.1⟩
  obtain ⟨_, inner, hown, _⟩ := h
  rcases hown.2 with ⟨hv, hn⟩ | ⟨g, cap, cur, hv, hb, hh, h1, h2, h3, _⟩
  · injection hv with _ _ h3
    subst h3
    exact ⟨Nat.zero_le _, fun h => absurd h (Nat.lt_irrefl 0)⟩
  · injection hv with h4 _ h5
    subst h4 h5
    exact ⟨h2, fun _ => ⟨g, cur.toList, rfl, hb, by unfold Blk; simpa using hh, by rw [Array.length_toList, h3, hs, Nat.mul_one]; exact Nat.le_refl _⟩⟩
theorem Wr.less {w : World} {base t n m : Nat} {A : Option Addr} (h : Wr w base t A n) (hm : m ≤ n) : Wr w base t A m := ⟨Nat.le_trans hm h.1, fun h0 => by
  obtain ⟨g, cur, e, hb, hk, hl⟩ := h.2 (by omega)
  exact ⟨g, cur, e, hb, hk, Nat.le_trans hm hl⟩⟩
theorem Blk.same {w : World} {g : Nat} {cur cur' : List Value} {t t' : TypeId} (h : Blk w g cur t) (h' : Blk w g cur' t') : cur = cur' ∧ t = t' := by
  unfold Blk at h h'
  rw [h] at h'
  injection h' with h'
  injection h' with h1 h2 h3
  exact ⟨by have := congrArg Array.toList h1; simpa using this, h2⟩
theorem Blk.apart {w : World} {g g' : Nat} {cur cur' : List Value} {t t' : TypeId} (h : Blk w g cur t) (h' : Blk w g' cur' t') (hne : t ≠ t') : g ≠ g' := fun e => by
  subst e
  exact hne (Blk.same h h').2
theorem Wr.write {w w' : World} {base t n : Nat} {A : Option Addr} (h : Wr w base t A n) {g : Nat} {cur cur' : List Value} {t' : TypeId} (hb : Blk w g cur t') (hb' : Blk w' g cur' t') (hl : cur'.length = cur.length) (hg : w.grownBy w' (some g)) : Wr w' base t A n := ⟨h.1, fun h0 => by
  obtain ⟨g2, cur2, e, hb2, hk, hl2⟩ := h.2 h0
  by_cases hc : g2 = g
  · subst hc
    obtain ⟨rfl, rfl⟩ := Blk.same hk hb
    exact ⟨g2, cur', e, hb2, hb', by omega⟩
  · exact ⟨g2, cur2, e, hb2, hk.grown hg hc, hl2⟩⟩
theorem Wr.below {w w' : World} {base t n : Nat} {A : Option Addr} (h : Wr w base t A n) (hb : Below w.heap.size w w') : Wr w' base t A n := ⟨h.1, fun h0 => by
  obtain ⟨g2, cur2, e, hb2, hk, hl2⟩ := h.2 h0
  exact ⟨g2, cur2, e, hb2, hk.below hb, hl2⟩⟩
/-- What the spoiling keeps. -/
structure SpI (w0 : World) (base : Nat) (A : Option Addr) (ys : List CI) (w : World) : Prop where
  le : base ≤ w0.heap.size
  sp : ∀ y ∈ ys, Wr w base 5 y.ba y.bc ∧ Wr w base 9 y.ha y.H.length
  bl : Below base w0 w
  same : ∀ ad, A = some ad → w.heap[ad.block]? = w0.heap[ad.block]?
  ty : ∀ ad, A = some ad → ∃ cells, w0.heap[ad.block]? = some (.cells cells 31 (0, 0))
theorem SpI.write {w0 w w' : World} {base : Nat} {A : Option Addr} {ys : List CI} (h : SpI w0 base A ys w) {g : Nat} {cur cur' : List Value} {t : TypeId} (hb : Blk w g cur t) (hb' : Blk w' g cur' t) (hl : cur'.length = cur.length) (hg : w.grownBy w' (some g)) (hbase : base ≤ g) (ht : t ≠ 31) : SpI w0 base A ys w' where
  le := h.le
  sp := fun y hy => ⟨(h.sp y hy).1.write hb hb' hl hg, (h.sp y hy).2.write hb hb' hl hg⟩
  bl := pw_below_grown h.bl (some g) (Nat.le_trans h.le h.bl.size) hg (fun k e => by cases e; exact hbase)
  same := fun ad hA => by
    obtain ⟨cells, hc⟩ := h.ty ad hA
    have h2 := h.same ad hA
    have hne : ad.block ≠ g := fun e => by
      rw [hc, e] at h2
      unfold Blk at hb
      rw [hb] at h2
      injection h2 with h2
      injection h2 with _ h3 _
      exact ht h3
    have hlt : ad.block < w.heap.size := (Array.getElem?_eq_some_iff.1 (h2.trans hc)).1
    exact (hg.block _ hlt (fun e => hne (Option.some.inj e))).trans h2
  ty := h.ty
theorem SpI.below {w0 w w' : World} {base : Nat} {A : Option Addr} {ys : List CI} (h : SpI w0 base A ys w) (hb : Below w.heap.size w w') : SpI w0 base A ys w' where
  le := h.le
  sp := fun y hy => ⟨(h.sp y hy).1.below hb, (h.sp y hy).2.below hb⟩
  bl := below_then h.bl (Nat.le_trans h.le h.bl.size) hb
  same := fun ad hA => by
    obtain ⟨cells, hc⟩ := h.ty ad hA
    have h2 := h.same ad hA
    exact (hb.block _ (Array.getElem?_eq_some_iff.1 (h2.trans hc)).1).trans h2
  ty := h.ty
theorem cell_sb {w w' : World} {a : Addr} {v : Value} (h : w.cell? a = some v) (e : w'.heap[a.block]? = w.heap[a.block]?) : w'.cell? a = some v := (World.cell?_of_block e).trans h
theorem size_u8 : (Try.prog.info? 5).map (·.size) = some 1 := by kernel_rfl
set_option maxHeartbeats 8000000 in
set_option maxRecDepth 100000 in
theorem spoil.calls (w : World) (base : Nat) (A : Option Addr) (c : Nat) (ys : List CI) (hC : Kd.C kCI w A ys.length ys) (hS : SpI w base A ys w) (hl : ys.length ≤ 1000) :
    Calls Try.prog 40 #[.slice A ys.length c] w fun e w' => e = .returned (.tuple #[]) ∧ Below base w w' := by
  have HC := Aside0.mk hC
  have HS0 := Aside0.mk hS
  have HLEN := Aside0.mk hl
  clear hC hS hl
  go_enter Try.func40, Try.ntmps40
  go_wp2
  go_loopg [9] (ys.length + 1) (fun kq v9 w' => ∃ (i : Nat), v9 = .int .i64 (i : Int) ∧ Aside0 (kq + i = ys.length + 1) ∧ Aside0 (i ≤ ys.length) ∧ Aside0 (SpI w base A ys w'))
  case atStart => exact ⟨0, rfl, ⟨rfl⟩, ⟨Nat.zero_le _⟩, HS0⟩
  case round =>
    obtain ⟨i, rfl, HK, HI_, HS⟩ := hrel
    cases gk with
    | zero => exact absurd HK.out (by have := HI_.out; omega)
    | succ k1 =>
      by_cases c5 : i < ys.length
      · have c5' : (i : Int) < (ys.length : Int) := by omega
        have p0 : (0 : Int) ≤ (i : Int) := by omega
        obtain ⟨ad, e1, hx0, hx1, hx2, hx3, hx4, hx5⟩ := at_ci HC.out i c5
        cases e1
        have hsm := HS.out.same ad rfl
        replace hx0 := cell_sb (w' := wr) hx0 (by rw [add_block]; exact hsm)
        replace hx1 := cell_sb (w' := wr) hx1 (by show wr.heap[(ad.add (i * 6)).block]? = _; rw [add_block]; exact hsm)
        replace hx2 := cell_sb (w' := wr) hx2 (by show wr.heap[(ad.add (i * 6)).block]? = _; rw [add_block]; exact hsm)
        replace hx3 := cell_sb (w' := wr) hx3 (by show wr.heap[(ad.add (i * 6)).block]? = _; rw [add_block]; exact hsm)
        replace hx4 := cell_sb (w' := wr) hx4 (by show wr.heap[(ad.add (i * 6)).block]? = _; rw [add_block]; exact hsm)
        replace hx5 := cell_sb (w' := wr) hx5 (by show wr.heap[(ad.add (i * 6)).block]? = _; rw [add_block]; exact hsm)
        clear hsm
        have HM : Aside0 (ys[i] ∈ ys) := Aside0.mk (List.getElem_mem c5)
        generalize ys[i] = x at *
        obtain ⟨kd, nm, vr, ha, hc, H, ba, bc, B, gg⟩ := x
        dsimp only at hx0 hx1 hx2 hx3 hx4 hx5
        replace p0 := eq_true p0
        have hiw : wrap64 ((i : Int) + 1) = ((i + 1 : Nat) : Int) := w_succ (by have := HLEN.out; have := HI_.out; omega)
        go_wp2_with (first
          | ((with_reducible refine gate_dst (N := 3) rfl ?_); refine new_at rfl (t := 31) rfl noItem.cells (itemV noItem) (fun W => zero_item W) rfl ?_; intro g3 hg w1 hk hb
             have BZ3 := Aside0.mk hk; have XA3 := Aside0.mk hb; have G3 : Aside0 (wr.heap.size ≤ g3) := Aside0.mk (by omega); clear hk hb hg)
          | ((with_reducible refine gate_store (p := 3) rfl ?_); refine store_at rfl (t := 31) rfl rfl g3 0 _ 31 _ rfl rfl BZ3.out (CI.cells ⟨kd, nm, vr, ha, hc, H, ba, bc, B, gg⟩) rfl size_item (show (6 : Nat) ≤ 6 from Nat.le_refl 6) (cells_one _) ?_; intro w2 hk hg
             have BI3 : Aside0 (Blk w2 g3 (CI.cells ⟨kd, nm, vr, ha, hc, H, ba, bc, B, gg⟩) 31) := Aside0.mk hk
             have XB3 := Aside0.mk (pw_below_grown XA3.out (some g3) XA3.out.size hg (fun k e => by cases e; exact G3.out))
             have HS2 := Aside0.mk (HS.out.below XB3.out); clear hk hg
             have y3 : w2.cell? ⟨g3, 3, none⟩ = some (.slice ha H.length hc) := BI3.out.cell 3
             have y4 : w2.cell? ⟨g3, 4, none⟩ = some (.slice ba B.length bc) := BI3.out.cell 4))
        go_loopg [21] (bc + 1) (fun kq2 v21 w' => ∃ (j : Nat), v21 = .int .i64 (j : Int) ∧ Aside0 (kq2 + j = bc + 1) ∧ Aside0 (j ≤ bc) ∧ Aside0 (SpI w base (some ad) ys w') ∧ Aside0 (Blk w' g3 (CI.cells ⟨kd, nm, vr, ha, hc, H, ba, bc, B, gg⟩) 31))
        case atStart => exact ⟨0, rfl, ⟨rfl⟩, ⟨Nat.zero_le _⟩, HS2, BI3⟩
        case round =>
          clear y3 y4
          obtain ⟨j, rfl, HK2, HJ, HSj, BIj⟩ := hrel
          have y3 : wr.cell? ⟨g3, 3, none⟩ = some (.slice ha H.length hc) := BIj.out.cell 3
          have y4 : wr.cell? ⟨g3, 4, none⟩ = some (.slice ba B.length bc) := BIj.out.cell 4
          have HWR := Aside0.mk (HSj.out.sp _ HM.out).1
          cases gk with
          | zero => exact absurd HK2.out (by have := HJ.out; omega)
          | succ k2 =>
            by_cases c6 : j < bc
            · have c6' : (j : Int) < (bc : Int) := by omega
              have j0 : (0 : Int) ≤ (j : Int) := by omega
              have hjw : wrap64 ((j : Int) + 1) = ((j + 1 : Nat) : Int) := w_succ (by have h1 : bc ≤ maxLen := HWR.out.1; unfold maxLen at h1; omega)
              obtain ⟨gw, cur, e2, hbw, hkw, hlw⟩ := HWR.out.2 (show 0 < bc by omega)
              have e3 : ba = some ⟨gw, 0, none⟩ := e2
              subst e3
              clear e2
              have HKW := Aside0.mk hkw
              have HBW := Aside0.mk hbw
              have HLW : Aside0 (bc ≤ cur.length) := Aside0.mk hlw
              clear hkw hbw hlw
              go_wp2_with (first
                | ((with_reducible refine gate_store (p := 26) rfl ?_); refine store_at rfl (t := 5) rfl rfl gw j cur 5 _ rfl rfl HKW.out [.int .u8 255] rfl size_u8 ?aF (by intro u hu; rw [List.mem_singleton.1 hu]; rfl) ?_; (case aF => have := HLW.out; rw [List.length_singleton]; omega); intro w3 hk hg
                   have HS3 := Aside0.mk (HSj.out.write HKW.out hk (by have := HLW.out; simp only [List.length_append, List.length_take, List.length_drop, List.length_singleton]; omega) hg HBW.out (by decide)); have BI3j := Aside0.mk (BIj.out.grown hg (Blk.apart BIj.out HKW.out (by decide))); clear hk hg))
              go_roundg k2
              case measure => have := HK2.out; omega
              case rel => exact ⟨j + 1, (by first | rfl | (simp; done) | (simp [*]; done)), ⟨by have := HK2.out; omega⟩, ⟨by omega⟩, HS3, BI3j⟩
            · have c6' : ¬ (j : Int) < (bc : Int) := by omega
              have HSa := HSj
              have BIa := BIj
              go_wp2
              go_loopg [31] (H.length + 1) (fun kq2 v31 w' => ∃ (j : Nat), v31 = .int .i64 (j : Int) ∧ Aside0 (kq2 + j = H.length + 1) ∧ Aside0 (j ≤ H.length) ∧ Aside0 (SpI w base (some ad) ys w') ∧ Aside0 (Blk w' g3 (CI.cells ⟨kd, nm, vr, ha, hc, H, ba, bc, B, gg⟩) 31))
              case atStart => exact ⟨0, rfl, ⟨rfl⟩, ⟨Nat.zero_le _⟩, HSa, BIa⟩
              case round =>
                clear y3 y4
                obtain ⟨j, rfl, HK2, HJ, HSj, BIj⟩ := hrel
                have y3 : wr.cell? ⟨g3, 3, none⟩ = some (.slice ha H.length hc) := BIj.out.cell 3
                have y4 : wr.cell? ⟨g3, 4, none⟩ = some (.slice ba B.length bc) := BIj.out.cell 4
                have HWS := Aside0.mk (HSj.out.sp _ HM.out).2
                cases gk with
                | zero => exact absurd HK2.out (by have := HJ.out; omega)
                | succ k2 =>
                  by_cases c6 : j < H.length
                  · have c6' : (j : Int) < (H.length : Int) := by omega
                    have j0 : (0 : Int) ≤ (j : Int) := by omega
                    have hjw : wrap64 ((j : Int) + 1) = ((j + 1 : Nat) : Int) := w_succ (by have h1 : H.length ≤ maxLen := HWS.out.1; unfold maxLen at h1; omega)
                    obtain ⟨gw, cur, e2, hbw, hkw, hlw⟩ := HWS.out.2 (show 0 < H.length by omega)
                    have e3 : ha = some ⟨gw, 0, none⟩ := e2
                    subst e3
                    clear e2
                    have HKW := Aside0.mk hkw
                    have HBW := Aside0.mk hbw
                    have HLW : Aside0 (H.length ≤ cur.length) := Aside0.mk hlw
                    clear hkw hbw hlw
                    go_wp2_with (first
                      | ((with_reducible refine gate_store (p := 37) rfl ?_); refine store_at rfl (t := 9) rfl rfl gw j cur 9 _ rfl rfl HKW.out [.string ⟨#[122, 122]⟩] rfl size_string ?aF (by intro u hu; rw [List.mem_singleton.1 hu]; rfl) ?_; (case aF => have := HLW.out; rw [List.length_singleton]; omega); intro w3 hk hg
                         have HS3 := Aside0.mk (HSj.out.write HKW.out hk (by have := HLW.out; simp only [List.length_append, List.length_take, List.length_drop, List.length_singleton]; omega) hg HBW.out (by decide)); have BI3j := Aside0.mk (BIj.out.grown hg (Blk.apart BIj.out HKW.out (by decide))); clear hk hg))
                    go_roundg k2
                    case measure => have := HK2.out; omega
                    case rel => exact ⟨j + 1, (by first | rfl | (simp; done) | (simp [*]; done)), ⟨by have := HK2.out; omega⟩, ⟨by omega⟩, HS3, BI3j⟩
                  · have c6' : ¬ (j : Int) < (H.length : Int) := by omega
                    go_wp2
                    go_roundg k1
                    case measure => have := HK.out; omega
                    case rel => exact ⟨i + 1, (by first | rfl | (simp; done) | (simp [*]; done)), ⟨by have := HK.out; omega⟩, ⟨by omega⟩, HSj⟩
      · have c5' : ¬ (i : Int) < (ys.length : Int) := by omega
        go_wp2
        go_end0
        exact ⟨rfl, HS.out.bl⟩
end Go.Proofs.Ytmankbhlgjgnbaa.PAll
