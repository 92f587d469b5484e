import Derived.Test.YtiodidhbkgnicaaEClone
import Derived.Test.YtiodidhbkgnicaaEMem
namespace Go.Proofs.Ytiodidhbkgnicaa.PAll
open Go.RowKit Go.Proofs.YtiodidhbkgnicaaW.PrintWords Go.Proofs.YtiodidhbkgnicaaW.PrintLast Go.Proofs.YtiodidhbkgnicaaW.PrintMore Mem
set_option linter.unusedVariables false
set_option linter.unusedSimpArgs false

def cleanL (l : List S25) (a1 : Int) : List S25 := l.filter (fun c => decide (c.f1 > a1))
theorem cleanL_step (l : List S25) (a1 : Int) (i : Nat) (h : i < l.length) : cleanL (l.take (i + 1)) a1 = cleanL (l.take i) a1 ++ (if (rd_T25 l i).f1 > a1 then [rd_T25 l i] else []) := by
  unfold cleanL rd_T25
  rw [List.take_add_one, List.getElem?_eq_getElem h, Option.toList_some, List.filter_append, Int.toNat_natCast, List.getD_eq_getElem?_getD, List.getElem?_eq_getElem h, Option.getD_some]
  congr 1
  by_cases hc : l[i].f1 > a1 <;> simp [List.filter_cons, hc]
theorem cleanL_len (l : List S25) (a1 : Int) (i : Nat) : (cleanL (l.take i) a1).length ≤ i := by
  refine Nat.le_trans (List.length_filter_le _ _) ?_
  rw [List.length_take]
  exact Nat.min_le_left _ _
theorem set_at_end {α : Type} (a b : List α) (x : α) (h : a.length < b.length) : (a ++ b.drop a.length).set a.length x = a ++ [x] ++ b.drop (a.length + 1) := by
  rw [List.set_append_right _ _ (Nat.le_refl _), Nat.sub_self, List.drop_eq_getElem_cons h, List.set_cons_zero, List.append_assoc]
  rfl
def cool_Clean.f (l0 : List S25) (a1 : Int) : Option (List S25) := if l0.length * 56 ≤ 140737488355328 then some (cleanL l0 a1) else none
theorem zero_cells25 (n : Nat) : ∀ v ∈ (Builtin.zeroCells (Value.agg #[(.string ⟨#[]⟩), (.string ⟨#[]⟩), (.string ⟨#[]⟩), (.int .i64 0)]).cells n).toList, v.oneCell' = true := by
  intro v hv
  simp only [Builtin.zeroCells, Array.toList_map, List.mem_map] at hv
  obtain ⟨i, _, rfl⟩ := hv
  have h4 : i % 4 < 4 := Nat.mod_lt _ (by decide)
  have : ∀ j, j < 4 → ((Value.agg #[(.string ⟨#[]⟩), (.string ⟨#[]⟩), (.string ⟨#[]⟩), (.int .i64 0)]).cells[j]!).oneCell' = true := by
    intro j hj
    match j, hj with
    | 0, _ => rfl
    | 1, _ => rfl
    | 2, _ => rfl
    | 3, _ => rfl
  exact this _ h4
theorem zero25 (w : World) : (zeroValue 25).run Try.prog w = .ok (Value.agg #[(.string ⟨#[]⟩), (.string ⟨#[]⟩), (.string ⟨#[]⟩), (.int .i64 0)]) w := by kernel_rfl

theorem clean_Q (W W0 : World) (base g j : Nat) (cur : List Value) (L : List S25) (hb : base ≤ g) (hblk : Blk W g cur 25) (hle : j * 4 ≤ cur.length) (hj : j = L.length) (hm : j ≤ maxLen) (hrep : Reps (fun x cs => k25.K W0 x cs) 4 L (cur.take (j * 4))) :
    Kd.Q k25 25 W base (fun _ => True) (.slice (some ⟨g, 0, none⟩) j j) L := by
  subst hj
  exact ⟨fun _ _ => trivial, cur.take (L.length * 4), ⟨by rw [List.length_take]; exact Nat.min_eq_left hle, .inr ⟨g, 0, L.length, cur.toArray, by rw [Nat.zero_mul], hb, hblk, Nat.le_refl _, by rw [Nat.zero_add]; exact hm, (show (0 + L.length) * 4 ≤ cur.toArray.size by simpa using hle), by rw [Nat.zero_mul, List.drop_zero]; rfl⟩⟩, Reps.imp_ hrep (fun x cs hk => k25_flat hk)⟩
theorem clean_Q0 (W : World) (base : Nat) (ad : Addr) (cur : Array Value) (h : base ≤ ad.block) (hc : W.heap[ad.block]? = some (.cells cur 25 (0, 0))) : Kd.Q k25 25 W base (fun _ => True) (.slice (some ad) 0 0) [] :=
  ⟨fun _ _ => trivial, [], ⟨rfl, .inl ⟨rfl, some ad, rfl, fun a ha => by cases ha; exact ⟨h, cur, hc⟩⟩⟩, Reps.none _ _⟩

set_option maxHeartbeats 1000000 in
theorem cool_Clean.calls (A0 : Option Addr) (c0 : Nat) (l0 : List S25) (a1 : Int) (r : List S25) (w : World) (hr0 : Kd.C k25 w A0 l0.length l0) (hc0 : l0.length ≤ c0) (h : cool_Clean.f l0 a1 = some r) :
    Calls Try.prog 17 #[.slice A0 l0.length c0, .int .i64 a1] w fun e w' => ∃ v0_ : Value, e = .returned (v0_) ∧ Kd.Q k25 25 w' w.heap.size (fun _ => True) v0_ r ∧ Below w.heap.size w w' := by
  unfold cool_Clean.f at h
  split at h
  · rename_i hl
    obtain rfl := Option.some.inj h
    have hu25 := Try.underlying25
    have HR0 := Aside0.mk hr0
    clear hr0
    have HL := Aside0.mk hl
    have hcl : clone_cool.f l0 = some l0 := if_pos hl
    have hcells : ∀ i, i < l0.length → ∃ ad, A0 = some ad ∧ w.cell? (ad.add (i * 4)) = some (.string (rd_T25 l0 i).f0.f0) ∧ w.cell? ⟨(ad.add (i * 4)).block, (ad.add (i * 4)).off + 1, none⟩ = some (.string (rd_T25 l0 i).f0.f1) ∧ w.cell? ⟨(ad.add (i * 4)).block, (ad.add (i * 4)).off + 2, none⟩ = some (.string (rd_T25 l0 i).f0.f2) ∧ w.cell? ⟨(ad.add (i * 4)).block, (ad.add (i * 4)).off + 3, none⟩ = some (.int .i64 (rd_T25 l0 i).f1) := fun i hi => by
      have := at_T25 HR0.out i (by omega) (by omega)
      rwa [Int.toNat_natCast] at this
    have HC := Aside0.mk hcells
    have hlm : l0.length ≤ 9223372036854775806 := by omega
    clear hcells hl
    obtain ⟨L, hL⟩ : ∃ L, L = cleanL l0 a1 := ⟨_, rfl⟩
    rw [← hL]
    have HLL := Aside0.mk hL
    clear hL
    go_enter Try.func17, Try.ntmps17
    go_wp2_with (go_at_call 29; refine (clone_cool.calls A0 c0 l0 l0 _ HR0.out hc0 hcl).mono ?_; rintro e w2 ⟨v5, rfl, ho, hb⟩; have HO0 := Aside0.mk ho; have HB := Aside0.mk hb; clear ho hb)
    rcases Nat.eq_zero_or_pos l0.length with hz | hpos
    · have hnil : l0 = [] := List.eq_nil_of_length_eq_zero hz
      subst hnil
      have hL0 : L = [] := HLL.out
      clear HLL
      subst hL0
      obtain ⟨hok, inner, ho, hrep⟩ := HO0.out
      rcases ho.2 with ⟨rfl, _⟩ | ⟨g, cap, cur, rfl, hg, hh, h1, h2, h3, h4⟩
      · go_loopg [6, 13] 0 (fun k v6 v w' => v6 = .int .i64 0 ∧ v = .int .i64 0 ∧ w' = w2)
        case atStart => exact ⟨rfl, rfl, rfl⟩
        case round =>
          obtain ⟨rfl, rfl, rfl⟩ := hrel
          go_wp2_with ((with_reducible refine gate_builtin (b := .clear) rfl ?_); refine wpList_clear_run rfl _ 29 rfl _ rfl (run_clear_none _ _ _ _ _ _ Try.underlying29) ?_)
          go_ret
          exact ⟨_, rfl, Kd.Q_nil _ _ _ _ _, HB.out⟩
      · have HH := Aside0.mk (And.intro hg hh)
        clear ho hrep h1 h2 h3 h4 hg hh
        have hcap : cap = 0 ∨ ¬ (cap = 0) := by omega
        rcases hcap with rfl | hcap
        · go_loopg [6, 13] 0 (fun k v6 v w' => v6 = .int .i64 0 ∧ v = .int .i64 0 ∧ w' = w2)
          case atStart => exact ⟨rfl, rfl, rfl⟩
          case round =>
            obtain ⟨rfl, rfl, rfl⟩ := hrel
            go_wp2_with ((with_reducible refine gate_builtin (b := .clear) rfl ?_); refine wpList_clear_run rfl _ 29 rfl _ rfl (run_clear_none _ _ _ _ _ _ Try.underlying29) ?_)
            go_ret
            exact ⟨_, rfl, clean_Q0 _ _ _ _ HH.out.1 HH.out.2, HB.out⟩
        · go_loopg [6, 13] 0 (fun k v6 v w' => v6 = .int .i64 0 ∧ v = .int .i64 0 ∧ w' = w2)
          case atStart => exact ⟨rfl, rfl, rfl⟩
          case round =>
            obtain ⟨rfl, rfl, rfl⟩ := hrel
            go_wp2_with ((with_reducible refine gate_builtin (b := .clear) rfl ?_); refine wpList_clear_run rfl _ 29 rfl _ rfl (run_clear_none _ _ _ _ _ _ Try.underlying29) ?_)
            go_ret
            exact ⟨_, rfl, clean_Q0 _ _ _ _ HH.out.1 HH.out.2, HB.out⟩
    · obtain ⟨g, cap, rfl, hg⟩ : ∃ g cap, v5 = .slice (some ⟨g, 0, none⟩) l0.length cap ∧ w.heap.size ≤ g ∧ l0.length ≤ cap := by
        obtain ⟨hok, inner, ho, hrep⟩ := HO0.out
        obtain ⟨g, cap, cur, rfl, hg, hblk, hl1, hl2, hl3, hl4⟩ := own_blk ho hpos
        exact ⟨g, cap, rfl, hg, hl1⟩
      go_loopg [6, 13] l0.length (fun k v6 v w' => ∃ (i j : Nat), v = .int .i64 i ∧ v6 = .int .i64 j ∧ i + k = l0.length ∧ j ≤ i ∧ Aside0 (j = (cleanL (l0.take i) a1).length) ∧ Aside0 (Kd.R k25 25 w' w.heap.size (fun _ => True) (.slice (some ⟨g, 0, none⟩) l0.length cap) (cleanL (l0.take i) a1 ++ l0.drop (cleanL (l0.take i) a1).length)) ∧ Aside0 (Below w.heap.size w w'))
      case atStart => exact ⟨0, 0, rfl, rfl, by omega, by omega, ⟨rfl⟩, HO0, HB⟩
      case round =>
        clear HO0 HB
        obtain ⟨i, j, rfl, rfl, hik, hji, HJ, HO, HB⟩ := hrel
        by_cases hlt : i < l0.length
        · have hs := Aside0.mk (cleanL_step l0 a1 i hlt)
          obtain ⟨ad, rfl, h0, h1, h2, h3⟩ := HC.out i hlt
          have up : ∀ {a : Addr} {v : Value}, w.cell? a = some v → wr.cell? a = some v := fun {a v} h => (HB.out.cell (World.block_lt_of_cell? w _ h)).trans h
          replace h0 := up h0
          replace h1 := up h1
          replace h2 := up h2
          replace h3 := up h3
          clear up
          obtain ⟨x, hx⟩ : ∃ x, x = rd_T25 l0 i := ⟨_, rfl⟩
          rw [← hx] at h0 h1 h2 h3
          by_cases hc : x.f1 > a1
          · have HN : Aside0 (cleanL (l0.take (i + 1)) a1 = cleanL (l0.take i) a1 ++ [x]) := ⟨by rw [hs.out, ← hx, if_pos hc]⟩
            have hcb : decide (a1 < x.f1) = true := decide_eq_true hc
            clear hc hs hx
            have hj0 : (j : Int) < (l0.length : Int) := by omega
            have HO1 := Aside0.mk (Kd.R_alloc HO.out (.cells #[.string x.f0.f0, .string x.f0.f1, .string x.f0.f2, .int .i64 x.f1] 25))
            obtain ⟨c, hcl, hcM, hcc, hcf⟩ := Kd.R_elem HO1.out z25 (j : Int) (by omega) hj0
            have HCC := Aside0.mk hcc
            have HCL := Aside0.mk hcl
            have hM : ∀ W, k25.M W w.heap.size (fun _ => False) x (c.take 0 ++ [.string x.f0.f0, .string x.f0.f1, .string x.f0.f2, .int .i64 x.f1] ++ c.drop (0 + 4)) := fun W => by
              have e : c.drop (0 + 4) = [] := List.drop_eq_nil_of_le (by have h4 : c.length = 4 := hcl; omega)
              rw [e, List.take_zero, List.nil_append, List.append_nil]
              exact k25_mkM _ _ _ x
            have HMM := Aside0.mk hM
            clear hcc hcf hcM hcl hM
            go_wp2_with ((with_reducible refine gate_store (t := 25) (p := 24) rfl ?_); refine Kd.R_store k25 (w0 := w) w.heap.size rfl rfl 25 _ _ rfl 25 (j : Int) 0 _ x _ [.string x.f0.f0, .string x.f0.f1, .string x.f0.f2, .int .i64 x.f1] c (fun _ => True) (fun _ => False) rfl (show j * 4 = (j : Int).toNat * 4 + 0 by rw [Int.toNat_natCast, Nat.add_zero]) rfl rfl (by kernel_rfl) (fun q hq => by simp only [List.mem_cons, List.not_mem_nil, or_false] at hq; rcases hq with rfl | rfl | rfl | rfl <;> rfl) HO1.out (by omega) hj0 HCL.out HCC.out (show 4 ≤ 4 from by decide) (HMM.out _) (fun _ hk => hk.elim) (below_alloc HB.out _) ?_; intro w1 ho hb hg2; have HO2 := Aside0.mk ho; have HB2 := Aside0.mk hb; clear ho hb hg2)
            go_roundg (gk - 1)
            case measure => omega
            case rel => exact ⟨i + 1, j + 1, by go_num, by go_num, by omega, by omega, ⟨by rw [HN.out, HJ.out, List.length_append]; rfl⟩, ⟨by
              have h := HO2.out
              rw [Int.toNat_natCast, HJ.out, set_at_end _ _ _ (by have := HJ.out; omega)] at h
              rw [HN.out, List.length_append]
              exact h⟩, HB2⟩
          · have HN : Aside0 (cleanL (l0.take (i + 1)) a1 = cleanL (l0.take i) a1) := ⟨by rw [hs.out, ← hx, if_neg hc, List.append_nil]⟩
            have hcb : decide (a1 < x.f1) = false := decide_eq_false hc
            clear hc hs hx
            go_wp2
            go_roundg (gk - 1)
            case measure => omega
            case rel => exact ⟨i + 1, j, by go_num, rfl, by omega, by omega, ⟨by rw [HN.out]; exact HJ.out⟩, ⟨by rw [HN.out]; exact Kd.R_alloc HO.out _⟩, ⟨below_alloc HB.out _⟩⟩
        · have hil : i = l0.length := by omega
          subst hil
          have hL := HLL.out
          have hj := HJ.out
          have ho := HO.out
          rw [List.take_length, ← hL] at hj ho
          rw [← hj] at ho
          obtain ⟨_, inner, hown, hrep⟩ := ho
          have hlen : (L ++ l0.drop j).length = l0.length := by rw [List.length_append, List.length_drop, ← hj]; omega
          rw [hlen] at hown
          obtain ⟨g', cap', cur, he, hg', hblk, hl1, hl2, hl3, hl4⟩ := own_blk hown hpos
          injection he with ha _ hc
          injection ha with ha
          injection ha with hgg
          subst hgg
          subst hc
          have hrep2 : Reps (fun x cs => k25.K wr x cs) 4 L (cur.take (j * 4)) := by
            have h := Kd.reps_take (m := j) (Reps.imp_ (R' := fun x cs => k25.K wr x cs) hrep (fun x cs hm => k25.K_of_M hm)) (by rw [hlen]; omega)
            rw [← hl4, List.take_take] at h
            rw [show (L ++ l0.drop j).take j = L by rw [hj, List.take_left]] at h
            rwa [show min (j * k25.sz) (l0.length * k25.sz) = j * 4 from Nat.min_eq_left (Nat.mul_le_mul_right _ hji)] at h
          have hcl4 : cur.length = cap * 4 := hl3
          have hjm : j ≤ maxLen := by unfold maxLen at hl2 ⊢; omega
          have HF := Aside0.mk (And.intro hrep2 (And.intro hj hjm))
          have HG := Aside0.mk (And.intro hg' hcl4)
          have HBK := Aside0.mk hblk
          clear hrep hrep2 hown hlen hl2 hl3 hl4 hL hcl4 hg' hblk HJ HO hj hjm HLL
          have hjc : (j : Int) ≤ (cap : Int) := by omega
          have hjn : (j : Int) ≤ (l0.length : Int) := by omega
          rcases Nat.lt_or_ge j l0.length with hlt2 | hge
          · have hcj : ¬ (cap = j) := by omega
            obtain ⟨cur2, hcur2⟩ : ∃ cur2, cur2 = cur.take (j * 4) ++ (Builtin.zeroCells (Value.agg #[(.string ⟨#[]⟩), (.string ⟨#[]⟩), (.string ⟨#[]⟩), (.int .i64 0)]).cells (l0.length - j)).toList ++ cur.drop (j * 4 + (l0.length - j) * 4) := ⟨_, rfl⟩
            have hrc : ∀ ty c, (Builtin.clear_ #[29] ty #[.slice (some ⟨g, j * 4, none⟩) (l0.length - j) c]).run Try.prog wr = .ok (.tuple #[]) (wr.setRow g cur2.toArray) := fun ty c => by
              rw [hcur2]
              exact run_clear_k wr 29 ty 25 4 g (j * 4) (l0.length - j) c cur 25 _ Try.underlying29 (zero25 wr) rfl HBK.out (by omega) (by have := HG.out.2; omega) (zero_cells25 _)
            have ht : cur2.take (j * 4) = cur.take (j * 4) := by
              have hle : j * 4 ≤ cur.length := by have := HG.out.2; omega
              rw [hcur2, List.append_assoc, List.take_append_of_le_length (by rw [List.length_take]; omega), List.take_take, Nat.min_self]
            have hl2 : j * 4 ≤ cur2.length := by
              have hle : j * 4 ≤ cur.length := by have := HG.out.2; omega
              have := congrArg List.length ht
              rw [List.length_take, List.length_take] at this
              omega
            have HT := Aside0.mk (And.intro ht hl2)
            clear ht hl2 hcur2
            have hb2 := Blk.set HBK.out cur2
            have hbl : Below w.heap.size w (wr.setRow g cur2.toArray) := below_setRow HB.out HG.out.1 _
            have HB2 := Aside0.mk hb2
            have HBL := Aside0.mk hbl
            clear hb2 hbl
            go_wp2_with ((with_reducible refine gate_builtin (b := .clear) rfl ?_); refine wpList_clear_run rfl _ 29 rfl _ rfl (hrc _ _) ?_)
            go_ret
            exact ⟨_, rfl, clean_Q _ wr _ g j cur2 L HG.out.1 HB2.out HT.out.2 HF.out.2.1 HF.out.2.2 (by rw [HT.out.1]; exact HF.out.1), HBL.out⟩
          · have hjl : j = l0.length := by omega
            subst hjl
            have hcc : cap = l0.length ∨ ¬ (cap = l0.length) := by omega
            rcases hcc with hcc | hcc
            · go_wp2_with ((with_reducible refine gate_builtin (b := .clear) rfl ?_); refine wpList_clear_run rfl _ 29 rfl _ rfl (run_clear_none _ _ _ _ _ _ Try.underlying29) ?_)
              go_ret
              exact ⟨_, rfl, clean_Q _ wr _ g l0.length cur L HG.out.1 HBK.out (by have := HG.out.2; omega) HF.out.2.1 HF.out.2.2 HF.out.1, HB.out⟩
            · go_wp2_with ((with_reducible refine gate_builtin (b := .clear) rfl ?_); refine wpList_clear_run rfl _ 29 rfl _ rfl (run_clear_none _ _ _ _ _ _ Try.underlying29) ?_)
              go_ret
              exact ⟨_, rfl, clean_Q _ wr _ g l0.length cur L HG.out.1 HBK.out (by have := HG.out.2; omega) HF.out.2.1 HF.out.2.2 HF.out.1, HB.out⟩
  · cases h
end Go.Proofs.Ytiodidhbkgnicaa.PAll
