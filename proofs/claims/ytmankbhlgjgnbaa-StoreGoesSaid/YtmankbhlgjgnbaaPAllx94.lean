import Derived.Test.YtmankbhlgjgnbaaEKlink
import Derived.Deep.DeepCutAuto
import Derived.Deep.CutBlock
namespace Go.Proofs.Ytmankbhlgjgnbaa.PAll
open Go.RowKit Go.Proofs.YtmankbhlgjgnbaaW.PrintWords Go.Proofs.YtmankbhlgjgnbaaW.PrintLast Go.Proofs.YtmankbhlgjgnbaaW.PrintMore Mem
set_option linter.unusedVariables false
set_option linter.unusedSimpArgs false
theorem Blk.keep {w w' : World} {g : Nat} {cur : List Value} {t : TypeId} {S : Nat → Prop} (h : Blk w g cur t) (hk : Keep w w' S) (hS : ¬ S g) : Blk w' g cur t := (hk.blk g h.lt hS).trans h
theorem Lk.other {w W : World} {p b q : Nat} {A1 : Option Addr} {s : St} {Lc : List (Key × CI)} {A : Option Addr} {c : Nat} {Lr : List CI} (h : Lk w W p b q A1 s Lc A c Lr) {k : Nat} (hk : k = p ∨ k = b ∨ RefS q A k) {cells : Array Value} {t : TypeId} (hb : W.heap[k]? = some (.cells cells t (0, 0))) : t = 49 ∨ t = 65 ∨ t = 31 := by
  have hp := h.bs.blk
  have hq := h.ref.blk
  unfold Blk at hp hq
  obtain ⟨es, clock, hm, _⟩ := h.bs.map
  rcases hk with rfl | rfl | rfl | ⟨ad, e, rfl⟩
  · rw [hp] at hb
    injection hb with hb
    injection hb with _ h2 _
    exact .inl h2.symm
  · rw [hm] at hb
    cases hb
  · rw [hq] at hb
    injection hb with hb
    injection hb with _ h2 _
    exact .inr (.inl h2.symm)
  · obtain ⟨cs, hc⟩ := Kd.R_typed h.ref.row ad.block (by rw [e]; simp [Value.ownBlock])
    rw [hc] at hb
    injection hb with hb
    injection hb with _ h2 _
    exact .inr (.inr h2.symm)
theorem Lk.opKeep {w W W2 : World} {p b q : Nat} {A1 : Option Addr} {s : St} {Lc : List (Key × CI)} {A : Option Addr} {c : Nat} {Lr : List CI} (h : Lk w W p b q A1 s Lc A c Lr) {g : Nat} {cur : List Value} (hb : Blk W g cur 28) (hk : Keep W W2 (fun k => k = p ∨ k = b ∨ RefS q A k)) : Blk W2 g cur 28 :=
  Blk.keep hb hk (fun hs => by rcases h.other hs hb with e | e | e <;> exact absurd e (by decide))
theorem Lk.opChg {w W W2 : World} {p b q : Nat} {A1 : Option Addr} {s : St} {Lc : List (Key × CI)} {A : Option Addr} {c : Nat} {Lr : List CI} (h : Lk w W p b q A1 s Lc A c Lr) {g : Nat} {cur : List Value} (hb : Blk W g cur 28) (hc : Chg W W2 p b) : Blk W2 g cur 28 :=
  Blk.keep hb hc.keep (fun hs => by rcases h.other (hs.elim .inl (fun e => .inr (.inl e))) hb with e | e | e <;> exact absurd e (by decide))
theorem Lk.rowKeep {w W W2 : World} {p b q : Nat} {A1 : Option Addr} {s : St} {Lc : List (Key × CI)} {A : Option Addr} {c : Nat} {Lr : List CI} (h : Lk w W p b q A1 s Lc A c Lr) {base : Nat} {ok : Nat → Prop} {v : Value} {B : List Int} (hb : Kd.R (Kd.int .u8) 5 W base ok v B) (hk : Keep W W2 (fun k => k = p ∨ k = b ∨ RefS q A k)) : Kd.R (Kd.int .u8) 5 W2 base ok v B :=
  R_keptT hb rfl hk.kept (fun k hs _ cells e => by rcases h.other hs e with e | e | e <;> exact absurd e (by decide))
def sutlerlaw10_StoreGoes.f (l0 : List S28) : Option Bool := some true
set_option maxHeartbeats 40000000 in
set_option maxRecDepth 100000 in
theorem sutlerlaw10_StoreGoes.calls (A0 : Option Addr) (c0 : Nat) (l0 : List S28) (r : Bool) (w : World) (hr0 : Kd.C k28 w A0 l0.length l0) (hc0 : l0.length ≤ c0) (h : sutlerlaw10_StoreGoes.f l0 = some r) :
  Calls Try.prog 6 #[.slice A0 l0.length c0] w fun e w' => e = .returned (.bool r) ∧ Below w.heap.size w w' := by
  obtain rfl := Option.some.inj h
  have HR0 := Aside0.mk hr0
  clear hr0 h
  by_cases hlong : l0.length > 200
  · have hlong' : (200 : Int) < (l0.length : Int) := by omega
    go_enter Try.func6, Try.ntmps6
    go_wp2_with (first
      | (go_at_call 7; refine (live.calls _).mono ?_; rintro e wl ⟨rfl, hb⟩
         have HBL := Aside0.mk hb; clear hb)
      | (go_at_call 8; refine (New.calls _).mono ?_; rintro e wn ⟨p, b, rfl, hp, hb, hs, hbl⟩
         have HP : Aside0 (w.heap.size ≤ p) := Aside0.mk (Nat.le_trans HBL.out.size hp); have HQ : Aside0 (w.heap.size ≤ b) := Aside0.mk (Nat.le_trans HBL.out.size hb); have HS0 := Aside0.mk hs; have HBN := Aside0.mk (below_then HBL.out HBL.out.size hbl); clear hp hb hs hbl)
      | (go_at_call 17; refine (rnew.calls _).mono ?_; rintro e wq ⟨q, rfl, hq, hbk, hbl⟩
         have HQQ : Aside0 (w.heap.size ≤ q) := Aside0.mk (Nat.le_trans HBN.out.size hq); have HBQ := Aside0.mk (below_then HBN.out HBN.out.size hbl)
         have HL0 : Aside0 (Lk w wq p b q none PAll.s0 [] none 0 []) := Aside0.mk ⟨HS0.out.below hbl, rfl, Inv.s0, ⟨hbk, Kd.R_nil _ _ _ _ _, fun x hx => (by cases hx)⟩, Agree.s0, (fun q hq => by cases hq), HBQ.out, HP.out, HQ.out, HQQ.out, (fun ad e => by cases e)⟩; clear hq hbk hbl))
    go_ret
    exact ⟨rfl, HBQ.out⟩
  have hlong' : ¬ (200 : Int) < (l0.length : Int) := by omega
  have HLEN := Aside0.mk (Nat.not_lt.1 hlong)
  clear hlong
  go_enter Try.func6, Try.ntmps6
  go_wp2_with (first
    | (go_at_call 7; refine (live.calls _).mono ?_; rintro e wl ⟨rfl, hb⟩
       have HBL := Aside0.mk hb; clear hb)
    | (go_at_call 8; refine (New.calls _).mono ?_; rintro e wn ⟨p, b, rfl, hp, hb, hs, hbl⟩
       have HP : Aside0 (w.heap.size ≤ p) := Aside0.mk (Nat.le_trans HBL.out.size hp); have HQ : Aside0 (w.heap.size ≤ b) := Aside0.mk (Nat.le_trans HBL.out.size hb); have HS0 := Aside0.mk hs; have HBN := Aside0.mk (below_then HBL.out HBL.out.size hbl); clear hp hb hs hbl)
    | (go_at_call 17; refine (rnew.calls _).mono ?_; rintro e wq ⟨q, rfl, hq, hbk, hbl⟩
       have HQQ : Aside0 (w.heap.size ≤ q) := Aside0.mk (Nat.le_trans HBN.out.size hq); have HBQ := Aside0.mk (below_then HBN.out HBN.out.size hbl)
       have HL0 : Aside0 (Lk w wq p b q none PAll.s0 [] none 0 []) := Aside0.mk ⟨HS0.out.below hbl, rfl, Inv.s0, ⟨hbk, Kd.R_nil _ _ _ _ _, fun x hx => (by cases hx)⟩, Agree.s0, (fun q hq => by cases hq), HBQ.out, HP.out, HQ.out, HQQ.out, (fun ad e => by cases e)⟩; clear hq hbk hbl))
  go_loopg [35, 4] (l0.length + 1) (fun kq v35 v4 w' => ∃ (i p b : Nat) (s : St) (Lc : List (Key × CI)) (A : Option Addr) (c : Nat) (Lr : List CI), v35 = .int .i64 (i : Int) ∧ v4 = ptrV p ∧ Aside0 (kq + i = l0.length + 1) ∧ Aside0 (i ≤ l0.length) ∧ Aside0 (Lk w w' p b q none s Lc A c Lr) ∧ Aside0 (s.n ≤ i) ∧ Aside0 (Lr.length ≤ i))
  case atStart => exact ⟨0, p, b, PAll.s0, [], none, 0, [], rfl, rfl, ⟨rfl⟩, ⟨Nat.zero_le _⟩, HL0, ⟨Int.le_refl _⟩, ⟨Nat.le_refl _⟩⟩
  case round =>
    clear HS0 HP HQ HBN HBL HL0 HBQ
    obtain ⟨i, p, b, s, Lc, A, c, Lr, rfl, rfl, HK, HI_, HL, HSN, HLN⟩ := hrel
    cases gk with
    | zero => exact absurd HK.out (by have := HI_.out; omega)
    | succ k1 =>
      by_cases c5 : i < l0.length
      · have c5' : (i : Int) < (l0.length : Int) := by omega
        have p0 : (0 : Int) ≤ (i : Int) := by omega
        obtain ⟨ad, A6, c6, e1, hx0, hx1, hx2, hx3, hx4, hx5, hx6, hx7, hl6, hr6⟩ := at_T28 HR0.out (i : Int) p0 c5'
        cases e1
        replace hx0 := pw_cell_below HL.out.bl hx0
        replace hx1 := pw_cell_below HL.out.bl hx1
        replace hx2 := pw_cell_below HL.out.bl hx2
        replace hx3 := pw_cell_below HL.out.bl hx3
        replace hx4 := pw_cell_below HL.out.bl hx4
        replace hx5 := pw_cell_below HL.out.bl hx5
        replace hx6 := pw_cell_below HL.out.bl hx6
        replace hx7 := pw_cell_below HL.out.bl hx7
        simp only [Int.toNat_natCast] at hx0 hx1 hx2 hx3 hx4 hx5 hx6 hx7
        have HR6 := Aside0.mk hr6
        have HC6 := Aside0.mk hl6
        clear hr6 hl6
        generalize rd_T28 l0 (i : Int) = x at *
        replace p0 := eq_true p0
        have hiw : wrap64 ((i : Int) + 1) = ((i + 1 : Nat) : Int) := w_succ (by have := HLEN.out; omega)
        have HN : Aside0 (s.n < 1000000000) := Aside0.mk (by have := HSN.out; have := HLEN.out; omega)
        have HLL : Aside0 (Lr.length ≤ 1000) := Aside0.mk (by have := HLN.out; have := HLEN.out; omega)
        by_cases c6b : x.f6.length > 10000
        · have c6c : (10000 : Int) < (x.f6.length : Int) := by omega
          go_wp2_with (first
            | ((with_reducible refine gate_dst (N := 7) rfl ?_); refine new_at rfl (t := 28) rfl opZ (.agg opZ.toArray) (fun W => zero_op W) rfl ?_; intro g7 hg w1 hk hb
               have BZ7 := Aside0.mk hk; have X1 := Aside0.mk hb; have G7 : Aside0 (wr.heap.size ≤ g7) := Aside0.mk (by omega); clear hk hb hg)
            | ((with_reducible refine gate_store (p := 7) rfl ?_); refine store_at rfl (t := 28) rfl rfl g7 0 _ 28 _ rfl rfl BZ7.out (opC x A6 c6) rfl size_op (show (8 : Nat) ≤ 8 from Nat.le_refl 8) (op_one _ _ _) ?_; intro w2 hk hg
               have BK2 : Aside0 (Blk w2 g7 (opC x A6 c6) 28) := Aside0.mk hk; have X2 := Aside0.mk (pw_below_grown X1.out (some g7) X1.out.size hg (fun k e => by cases e; exact G7.out)); have HL2 := Aside0.mk (HL.out.below X2.out); clear hk hg
               have o1_w2 : w2.cell? ⟨g7, 1, none⟩ = some (.int .i64 x.f1) := BK2.out.cell 1; have o2_w2 : w2.cell? ⟨g7, 2, none⟩ = some (.string x.f2) := BK2.out.cell 2; have o3_w2 : w2.cell? ⟨g7, 3, none⟩ = some (.int .i64 x.f3) := BK2.out.cell 3; have o6_w2 : w2.cell? ⟨g7, 6, none⟩ = some (.slice A6 x.f6.length c6) := BK2.out.cell 6))
          go_roundg k1
          case measure => have := HK.out; omega
          case rel => exact ⟨i + 1, p, b, s, Lc, A, c, Lr, (by first | rfl | (simp; done) | (simp [*]; done)), rfl, ⟨by have := HK.out; omega⟩, ⟨by omega⟩, HL2, ⟨by have := HSN.out; omega⟩, ⟨by have := HLN.out; omega⟩⟩
        · have c6c : ¬ (10000 : Int) < (x.f6.length : Int) := by omega
          go_upto_region 12 with (first
            | ((with_reducible refine gate_dst (N := 7) rfl ?_); refine new_at rfl (t := 28) rfl opZ (.agg opZ.toArray) (fun W => zero_op W) rfl ?_; intro g7 hg w1 hk hb
               have BZ7 := Aside0.mk hk; have X1 := Aside0.mk hb; have G7 : Aside0 (wr.heap.size ≤ g7) := Aside0.mk (by omega); clear hk hb hg)
            | ((with_reducible refine gate_store (p := 7) rfl ?_); refine store_at rfl (t := 28) rfl rfl g7 0 _ 28 _ rfl rfl BZ7.out (opC x A6 c6) rfl size_op (show (8 : Nat) ≤ 8 from Nat.le_refl 8) (op_one _ _ _) ?_; intro w2 hk hg
               have BK2 : Aside0 (Blk w2 g7 (opC x A6 c6) 28) := Aside0.mk hk; have X2 := Aside0.mk (pw_below_grown X1.out (some g7) X1.out.size hg (fun k e => by cases e; exact G7.out)); have HL2 := Aside0.mk (HL.out.below X2.out); clear hk hg
               have o1_w2 : w2.cell? ⟨g7, 1, none⟩ = some (.int .i64 x.f1) := BK2.out.cell 1; have o2_w2 : w2.cell? ⟨g7, 2, none⟩ = some (.string x.f2) := BK2.out.cell 2; have o3_w2 : w2.cell? ⟨g7, 3, none⟩ = some (.int .i64 x.f3) := BK2.out.cell 3; have o6_w2 : w2.cell? ⟨g7, 6, none⟩ = some (.slice A6 x.f6.length c6) := BK2.out.cell 6)
            | (go_at_call 18; refine (rget_any HL2.out.ref (HL2.out.fresh (Nat.le_refl _)) HLL.out HN.out HL2.out.inv HL2.out.agree HL2.out.fits x.f1 x.f2).mono ?_; rintro e w3 ⟨y, er, rfl, hb⟩
               have BK3 := Aside0.mk (BK2.out.below hb); have X3 := Aside0.mk (below_then X2.out X2.out.size hb); clear hb)
            | ((with_reducible refine gate_dst (N := 9) rfl ?_); refine new_at rfl (t := 31) rfl noItem.cells (itemV noItem) (fun W => zero_item W) rfl ?_; intro g9 hg w4 hk hb
               have BZ9 := Aside0.mk hk; have BK4 := Aside0.mk (BK3.out.below hb); have X4 := Aside0.mk (below_then X3.out X3.out.size hb); have G9 : Aside0 (g7 < g9 ∧ wr.heap.size ≤ g9) := Aside0.mk (by have h1 := BK3.out.lt; have h2 := X3.out.size; omega); clear hk hb hg)
            | ((with_reducible refine gate_store (p := 9) rfl ?_); refine store_at rfl (t := 31) rfl rfl g9 0 _ 31 _ rfl rfl BZ9.out y.cells rfl size_item (show (6 : Nat) ≤ 6 from Nat.le_refl 6) (cells_one _) ?_; intro w5 hk hg
               have BI5 : Aside0 (Blk w5 g9 y.cells 31) := Aside0.mk hk; have BK5 := Aside0.mk (BK4.out.grown hg (by have := G9.out; omega)); have X5 := Aside0.mk (pw_below_grown X4.out (some g9) X4.out.size hg (fun k e => by cases e; exact G9.out.2)); have HL5 := Aside0.mk (HL.out.below X5.out); clear hk hg))
          go_cut [60] (fun s60 wx => ∃ qq : Bool, s60 = .bool qq ∧ wx = w5)
          case first =>
            have o4_w5 : w5.cell? ⟨g7, 4, none⟩ = some (.bool x.f4) := BK5.out.cell 4
            by_cases her : er = 0
            · have k1 : (er == 0) = true := beq_iff_eq.2 her
              clear her
              go_wp2
              go_meet
              exact ⟨_, rfl, rfl⟩
            · have k1 : (er == 0) = false := beq_eq_false_iff_ne.2 her
              clear her
              go_wp2
              go_meet
              exact ⟨_, rfl, rfl⟩
          case rest =>
            obtain ⟨qq, rfl, hwq⟩ := hcut
            replace hwq := hwq.symm
            subst hwq
            go_upto_if 60 with fail
            go_cut [8] (fun s8 wx => ∃ v : Int, s8 = .int .i64 v ∧ wx = w5)
            case first =>
              have v9_w5 : w5.cell? ⟨g9, 2, none⟩ = some (.int .i64 y.ver) := BI5.out.cell 2
              go_wp2
              all_goals
                go_meet
                exact ⟨_, rfl, rfl⟩
            case rest =>
              obtain ⟨v, rfl, hwq⟩ := hcut
              replace hwq := hwq.symm
              subst hwq
              have o6_w5 : w5.cell? ⟨g7, 6, none⟩ = some (.slice A6 x.f6.length c6) := BK5.out.cell 6
              go_upto_block 2 with (first
                | (at_builtin; refine Kd.R_append_rows (Kd.int .u8) (w0 := w5) (W := w5) (Rr := fun x cs => Kd.K (Kd.int .u8) w5 x cs) w5.heap.size rfl _ _ 26 5 (.int .u8 0) 1 rfl Try.underlying26 info5_ rfl (by decide) (by decide) (.slice none 0 0) [] x.f6 A6 x.f6.length c6 (fun k => w5.heap.size ≤ k) (fun _ => False) rfl rfl (Kd.R_nil _ _ _ _ _) ?aC (fun _ _ h => h) (fun _ h => h.elim) (fun _ h => h) (Below.refl _ _) (Nat.le_refl _) ?aL ?_; (case aC => exact Kd.C_below HR6.out HL5.out.bl); (case aL => simp; omega); intro v6 w6 ho hb hg hat
                   rw [List.nil_append] at ho
                   obtain ⟨A1, n1, rfl⟩ := Kd.R_slice ho
                   have HRB6 := Aside0.mk ho
                   have HL6 : Aside0 (Lk w w6 p b q A1 s Lc A c Lr) := Aside0.mk (HL5.out.row hb (fun ad e => by subst e; exact ⟨ho.1 ad.block (by simp [Value.ownBlock]), Kd.R_lt ho ad.block (by simp [Value.ownBlock])⟩))
                   have BK6 := Aside0.mk (BK5.out.below hb); clear ho hb hg hat
                   have o0_w6 : w6.cell? ⟨g7, 0, none⟩ = some (.int .i64 x.f0) := BK6.out.cell 0; have o1_w6 : w6.cell? ⟨g7, 1, none⟩ = some (.int .i64 x.f1) := BK6.out.cell 1; have o2_w6 : w6.cell? ⟨g7, 2, none⟩ = some (.string x.f2) := BK6.out.cell 2; have o5_w6 : w6.cell? ⟨g7, 5, none⟩ = some (.string x.f5) := BK6.out.cell 5; have o6_w6 : w6.cell? ⟨g7, 6, none⟩ = some (.slice A6 x.f6.length c6) := BK6.out.cell 6))
              go_cut [12, 13, 14, 15] (fun s12 s13 s14 s15 wx => ∃ (m e : Int) (s' : St) (Lc' : List (Key × CI)) (A' : Option Addr) (c' : Nat) (Lr' : List CI), s12 = .int .i64 m ∧ s13 = .int .i64 m ∧ s14 = .int .i64 e ∧ s15 = .int .i64 e ∧ Aside0 (Lk w wx p b q A1 s' Lc' A' c' Lr') ∧ Aside0 (s'.n ≤ s.n + 1) ∧ Aside0 (Lr'.length ≤ Lr.length + 1) ∧ Aside0 (Blk wx g7 (opC x A6 c6) 28) ∧ Aside0 (Kd.R (Kd.int .u8) 5 wx w5.heap.size (fun k => w5.heap.size ≤ k) (.slice A1 x.f6.length n1) x.f6))
              case first =>
                go_wp2_with fail
                · as_aux_lemma =>
                  obtain ⟨r, hv⟩ : ∃ r, createV s x.f1 x.f2 x.f6 = r := ⟨_, rfl⟩
                  obtain ⟨⟨m, f⟩, s'⟩ := r
                  have HV := Aside0.mk hv
                  clear hv
                  go_wp2_with (first
                    | (go_at_call 11; refine (Create.tx A1 n1 x.f6 HL6.out.bs HL6.out.ls HL6.out.inv.n0 HN.out (Kd.R_reads' HRB6.out).2.2 (Kd.R_reads' HRB6.out).2.1 HV.out).mono ?_; rintro e w7 ⟨rfl, hx, hc⟩
                       have HX7 := Aside0.mk hx; have HC7 := Aside0.mk hc; have BK7 := Aside0.mk (HL6.out.opChg BK6.out hc); have HB7 : Aside0 (Below w.heap.size w w7) := Aside0.mk (hc.below HL6.out.bl HL6.out.bl.size HL6.out.hp HL6.out.hb); clear hx hc
                       have o1_w7 : w7.cell? ⟨g7, 1, none⟩ = some (.int .i64 x.f1) := BK7.out.cell 1; have o2_w7 : w7.cell? ⟨g7, 2, none⟩ = some (.string x.f2) := BK7.out.cell 2; have o5_w7 : w7.cell? ⟨g7, 5, none⟩ = some (.string x.f5) := BK7.out.cell 5; have o6_w7 : w7.cell? ⟨g7, 6, none⟩ = some (.slice A6 x.f6.length c6) := BK7.out.cell 6)
                    | (go_at_call 19; refine (show Calls Try.prog 19 #[.pointer (some ⟨q, 0, none⟩), .int .i64 x.f1, .string x.f2, .slice A6 x.f6.length c6] w7 fun e w' => e = .returned (.tuple #[.int .i64 m, .int .i64 f]) ∧ ∃ L' n', RefTo w7 w' q A (fun k => w.heap.size ≤ k ∧ ∀ ad, A1 = some ad → k ≠ ad.block) L' n' ∧ Fin s (Lr.map CI.pure) s' L' n' from by have h := rcreate_agree (HL6.out.refChg HC7.out) (HL6.out.fresh HC7.out.size) HLL.out HN.out HL6.out.inv HL6.out.agree HL6.out.fits x.f1 x.f2 A6 c6 x.f6 (Kd.C_below HR6.out HB7.out) HC6.out (HL6.out.came HR6.out); rw [HV.out] at h; exact h).mono ?_; rintro e w8 ⟨rfl, L', n', hr, hf⟩
                       have HST := Aside0.mk (HL6.out.step HX7.out HC7.out hr hf); clear hr hf))
                  obtain ⟨Lc', A', c', Lr', hk', hl', hn', hkp⟩ := HST.out
                  go_meet
                  exact ⟨m, f, s', Lc', A', c', Lr', rfl, rfl, rfl, rfl, ⟨hk'⟩, ⟨hn'⟩, ⟨hl'⟩, ⟨HL6.out.opKeep BK6.out hkp⟩, ⟨HL6.out.rowKeep HRB6.out hkp⟩⟩
                · as_aux_lemma =>
                  obtain ⟨r, hv⟩ : ∃ r, updateV s x.f1 x.f2 v x.f6 = r := ⟨_, rfl⟩
                  obtain ⟨⟨m, f⟩, s'⟩ := r
                  have HV := Aside0.mk hv
                  clear hv
                  go_wp2_with (first
                    | (go_at_call 12; refine (Update.tx A1 n1 x.f6 HL6.out.bs HL6.out.ls HL6.out.inv.n0 HN.out (Kd.R_reads' HRB6.out).2.2 (Kd.R_reads' HRB6.out).2.1 HV.out).mono ?_; rintro e w7 ⟨rfl, hx, hc⟩
                       have HX7 := Aside0.mk hx; have HC7 := Aside0.mk hc; have BK7 := Aside0.mk (HL6.out.opChg BK6.out hc); have HB7 : Aside0 (Below w.heap.size w w7) := Aside0.mk (hc.below HL6.out.bl HL6.out.bl.size HL6.out.hp HL6.out.hb); clear hx hc
                       have o1_w7 : w7.cell? ⟨g7, 1, none⟩ = some (.int .i64 x.f1) := BK7.out.cell 1; have o2_w7 : w7.cell? ⟨g7, 2, none⟩ = some (.string x.f2) := BK7.out.cell 2; have o5_w7 : w7.cell? ⟨g7, 5, none⟩ = some (.string x.f5) := BK7.out.cell 5; have o6_w7 : w7.cell? ⟨g7, 6, none⟩ = some (.slice A6 x.f6.length c6) := BK7.out.cell 6)
                    | (go_at_call 20; refine (show Calls Try.prog 20 #[.pointer (some ⟨q, 0, none⟩), .int .i64 x.f1, .string x.f2, .int .i64 v, .slice A6 x.f6.length c6] w7 fun e w' => e = .returned (.tuple #[.int .i64 m, .int .i64 f]) ∧ ∃ L' n', RefTo w7 w' q A (fun k => w.heap.size ≤ k ∧ ∀ ad, A1 = some ad → k ≠ ad.block) L' n' ∧ Fin s (Lr.map CI.pure) s' L' n' from by have h := rupdate_agree (HL6.out.refChg HC7.out) (HL6.out.fresh HC7.out.size) HLL.out HN.out HL6.out.inv HL6.out.agree HL6.out.fits x.f1 x.f2 v A6 c6 x.f6 (Kd.C_below HR6.out HB7.out) HC6.out (HL6.out.came HR6.out); rw [HV.out] at h; exact h).mono ?_; rintro e w8 ⟨rfl, L', n', hr, hf⟩
                       have HST := Aside0.mk (HL6.out.step HX7.out HC7.out hr hf); clear hr hf))
                  obtain ⟨Lc', A', c', Lr', hk', hl', hn', hkp⟩ := HST.out
                  go_meet
                  exact ⟨m, f, s', Lc', A', c', Lr', rfl, rfl, rfl, rfl, ⟨hk'⟩, ⟨hn'⟩, ⟨hl'⟩, ⟨HL6.out.opKeep BK6.out hkp⟩, ⟨HL6.out.rowKeep HRB6.out hkp⟩⟩
                · as_aux_lemma =>
                  obtain ⟨r, hv⟩ : ∃ r, deleteV s x.f1 x.f2 v = r := ⟨_, rfl⟩
                  obtain ⟨f, s'⟩ := r
                  have HV := Aside0.mk hv
                  clear hv
                  go_wp2_with (first
                    | (go_at_call 14; refine (Delete.tx HL6.out.bs HL6.out.ls HL6.out.inv.n0 HN.out HV.out).mono ?_; rintro e w7 ⟨rfl, hx, hc⟩
                       have HX7 := Aside0.mk hx; have HC7 := Aside0.mk hc; have BK7 := Aside0.mk (HL6.out.opChg BK6.out hc); have HB7 : Aside0 (Below w.heap.size w w7) := Aside0.mk (hc.below HL6.out.bl HL6.out.bl.size HL6.out.hp HL6.out.hb); clear hx hc
                       have o1_w7 : w7.cell? ⟨g7, 1, none⟩ = some (.int .i64 x.f1) := BK7.out.cell 1; have o2_w7 : w7.cell? ⟨g7, 2, none⟩ = some (.string x.f2) := BK7.out.cell 2; have o5_w7 : w7.cell? ⟨g7, 5, none⟩ = some (.string x.f5) := BK7.out.cell 5; have o6_w7 : w7.cell? ⟨g7, 6, none⟩ = some (.slice A6 x.f6.length c6) := BK7.out.cell 6)
                    | (go_at_call 21; refine (show Calls Try.prog 21 #[.pointer (some ⟨q, 0, none⟩), .int .i64 x.f1, .string x.f2, .int .i64 v] w7 fun e w' => e = .returned (.int .i64 f) ∧ ∃ L' n', RefTo w7 w' q A (fun k => w.heap.size ≤ k ∧ ∀ ad, A1 = some ad → k ≠ ad.block) L' n' ∧ Fin s (Lr.map CI.pure) s' L' n' from by have h := rdelete_agree (HL6.out.refChg HC7.out) (HL6.out.fresh HC7.out.size) HLL.out HN.out HL6.out.inv HL6.out.agree HL6.out.fits x.f1 x.f2 v; rw [HV.out] at h; exact h).mono ?_; rintro e w8 ⟨rfl, L', n', hr, hf⟩
                       have HST := Aside0.mk (HL6.out.step HX7.out HC7.out hr hf); clear hr hf))
                  obtain ⟨Lc', A', c', Lr', hk', hl', hn', hkp⟩ := HST.out
                  go_meet
                  exact ⟨0, f, s', Lc', A', c', Lr', rfl, rfl, rfl, rfl, ⟨hk'⟩, ⟨hn'⟩, ⟨hl'⟩, ⟨HL6.out.opKeep BK6.out hkp⟩, ⟨HL6.out.rowKeep HRB6.out hkp⟩⟩
                · as_aux_lemma =>
                  obtain ⟨r, hv⟩ : ∃ r, holdV s x.f1 x.f2 x.f5 = r := ⟨_, rfl⟩
                  obtain ⟨f, s'⟩ := r
                  have HV := Aside0.mk hv
                  clear hv
                  go_wp2_with (first
                    | (go_at_call 13; refine (Hold.tx HL6.out.bs HL6.out.ls HL6.out.inv.srt HL6.out.inv.n0 HN.out HV.out).mono ?_; rintro e w7 ⟨rfl, hx, hc⟩
                       have HX7 := Aside0.mk hx; have HC7 := Aside0.mk hc; have BK7 := Aside0.mk (HL6.out.opChg BK6.out hc); have HB7 : Aside0 (Below w.heap.size w w7) := Aside0.mk (hc.below HL6.out.bl HL6.out.bl.size HL6.out.hp HL6.out.hb); clear hx hc
                       have o1_w7 : w7.cell? ⟨g7, 1, none⟩ = some (.int .i64 x.f1) := BK7.out.cell 1; have o2_w7 : w7.cell? ⟨g7, 2, none⟩ = some (.string x.f2) := BK7.out.cell 2; have o5_w7 : w7.cell? ⟨g7, 5, none⟩ = some (.string x.f5) := BK7.out.cell 5; have o6_w7 : w7.cell? ⟨g7, 6, none⟩ = some (.slice A6 x.f6.length c6) := BK7.out.cell 6)
                    | (go_at_call 22; refine (show Calls Try.prog 22 #[.pointer (some ⟨q, 0, none⟩), .int .i64 x.f1, .string x.f2, .string x.f5] w7 fun e w' => e = .returned (.int .i64 f) ∧ ∃ L' n', RefTo w7 w' q A (fun k => w.heap.size ≤ k ∧ ∀ ad, A1 = some ad → k ≠ ad.block) L' n' ∧ Fin s (Lr.map CI.pure) s' L' n' from by have h := rhold_agree (HL6.out.refChg HC7.out) (HL6.out.fresh HC7.out.size) HLL.out HN.out HL6.out.inv HL6.out.agree HL6.out.fits x.f1 x.f2 x.f5; rw [HV.out] at h; exact h).mono ?_; rintro e w8 ⟨rfl, L', n', hr, hf⟩
                       have HST := Aside0.mk (HL6.out.step HX7.out HC7.out hr hf); clear hr hf))
                  obtain ⟨Lc', A', c', Lr', hk', hl', hn', hkp⟩ := HST.out
                  go_meet
                  exact ⟨0, f, s', Lc', A', c', Lr', rfl, rfl, rfl, rfl, ⟨hk'⟩, ⟨hn'⟩, ⟨hl'⟩, ⟨HL6.out.opKeep BK6.out hkp⟩, ⟨HL6.out.rowKeep HRB6.out hkp⟩⟩
                · as_aux_lemma =>
                  obtain ⟨r, hv⟩ : ∃ r, releaseV s x.f1 x.f2 x.f5 = r := ⟨_, rfl⟩
                  obtain ⟨f, s'⟩ := r
                  have HV := Aside0.mk hv
                  clear hv
                  go_wp2_with (first
                    | (go_at_call 15; refine (Release.tx HL6.out.bs HL6.out.ls HL6.out.inv.srt HL6.out.inv.n0 HN.out HV.out).mono ?_; rintro e w7 ⟨rfl, hx, hc⟩
                       have HX7 := Aside0.mk hx; have HC7 := Aside0.mk hc; have BK7 := Aside0.mk (HL6.out.opChg BK6.out hc); have HB7 : Aside0 (Below w.heap.size w w7) := Aside0.mk (hc.below HL6.out.bl HL6.out.bl.size HL6.out.hp HL6.out.hb); clear hx hc
                       have o1_w7 : w7.cell? ⟨g7, 1, none⟩ = some (.int .i64 x.f1) := BK7.out.cell 1; have o2_w7 : w7.cell? ⟨g7, 2, none⟩ = some (.string x.f2) := BK7.out.cell 2; have o5_w7 : w7.cell? ⟨g7, 5, none⟩ = some (.string x.f5) := BK7.out.cell 5; have o6_w7 : w7.cell? ⟨g7, 6, none⟩ = some (.slice A6 x.f6.length c6) := BK7.out.cell 6)
                    | (go_at_call 23; refine (show Calls Try.prog 23 #[.pointer (some ⟨q, 0, none⟩), .int .i64 x.f1, .string x.f2, .string x.f5] w7 fun e w' => e = .returned (.int .i64 f) ∧ ∃ L' n', RefTo w7 w' q A (fun k => w.heap.size ≤ k ∧ ∀ ad, A1 = some ad → k ≠ ad.block) L' n' ∧ Fin s (Lr.map CI.pure) s' L' n' from by have h := rrelease_agree (HL6.out.refChg HC7.out) (HL6.out.fresh HC7.out.size) HLL.out HN.out HL6.out.inv HL6.out.agree HL6.out.fits x.f1 x.f2 x.f5; rw [HV.out] at h; exact h).mono ?_; rintro e w8 ⟨rfl, L', n', hr, hf⟩
                       have HST := Aside0.mk (HL6.out.step HX7.out HC7.out hr hf); clear hr hf))
                  obtain ⟨Lc', A', c', Lr', hk', hl', hn', hkp⟩ := HST.out
                  go_meet
                  exact ⟨0, f, s', Lc', A', c', Lr', rfl, rfl, rfl, rfl, ⟨hk'⟩, ⟨hn'⟩, ⟨hl'⟩, ⟨HL6.out.opKeep BK6.out hkp⟩, ⟨HL6.out.rowKeep HRB6.out hkp⟩⟩
                · go_meet
                  exact ⟨0, 0, s, Lc, A, c, Lr, rfl, rfl, rfl, rfl, HL6, ⟨by omega⟩, ⟨by omega⟩, BK6, HRB6⟩
              case rest =>
               as_aux_lemma =>
                obtain ⟨w8, hw8⟩ : ∃ w8, w8 = wc := ⟨_, rfl⟩
                subst hw8
                obtain ⟨m, f, s', Lc', A', c', Lr', rfl, rfl, rfl, rfl, HL8, HSN8, HLN8, BK8, HRB8⟩ := hcut
                have hm : (m != m) = false := bne_self_eq_false m
                have hf : (f != f) = false := bne_self_eq_false f
                have HFL : Aside0 (x.f6.length ≤ 10000) := Aside0.mk (by omega)
                go_wp2
                go_loopg [170] (x.f6.length + 1) (fun kq2 v170 w' => ∃ (j : Nat), v170 = .int .i64 (j : Int) ∧ Aside0 (kq2 + j = x.f6.length + 1) ∧ Aside0 (j ≤ x.f6.length) ∧ Aside0 (Keep w8 w' (fun k => ∃ ad, A1 = some ad ∧ k = ad.block)) ∧ Aside0 (Wr w' w5.heap.size 5 A1 x.f6.length) ∧ Aside0 (Blk w' g7 (opC x A6 c6) 28))
                case atStart => exact ⟨0, rfl, ⟨rfl⟩, ⟨Nat.zero_le _⟩, ⟨Keep.refl _ _⟩, ⟨(Wr.of_R HRB8.out rfl).1.less (Wr.of_R HRB8.out rfl).2⟩, BK8⟩
                case round =>
                  obtain ⟨j, rfl, HK2, HJ, HKE, HWR, BKj⟩ := hrel
                  cases gk with
                  | zero => exact absurd HK2.out (by have := HJ.out; omega)
                  | succ k2 =>
                    by_cases c8 : j < x.f6.length
                    · have c8' : (j : Int) < (x.f6.length : Int) := by omega
                      have j0 : (0 : Int) ≤ (j : Int) := by omega
                      have hjw : wrap64 ((j : Int) + 1) = ((j + 1 : Nat) : Int) := w_succ (by have := HFL.out; omega)
                      obtain ⟨gw, cur, e2, hbw, hkw, hlw⟩ := HWR.out.2 (show 0 < x.f6.length by omega)
                      subst e2
                      have HKW := Aside0.mk hkw
                      have HLW : Aside0 (x.f6.length ≤ cur.length) := Aside0.mk hlw
                      clear hkw hbw hlw
                      go_wp2_with (first
                        | ((with_reducible refine gate_store (p := 175) rfl ?_); refine store_at rfl (t := 5) rfl rfl gw j cur 5 _ rfl rfl HKW.out [.int .u8 255] rfl size_u8 ?aF (by intro u hu; rw [List.mem_singleton.1 hu]; rfl) ?_; (case aF => have := HLW.out; rw [List.length_singleton]; omega); intro w9 hk hg
                           have HKE9 := Aside0.mk (Keep.of_grown hg HKE.out (fun k e => .inl ⟨_, rfl, (Option.some.inj e).symm⟩)); have HWR9 := Aside0.mk (HWR.out.write HKW.out hk (by have := HLW.out; simp only [List.length_append, List.length_take, List.length_drop, List.length_singleton]; omega) hg); have BK9 := Aside0.mk (BKj.out.grown hg (Blk.apart BKj.out HKW.out (by decide))); clear hk hg))
                      go_roundg k2
                      case measure => have := HK2.out; omega
                      case rel => exact ⟨j + 1, (by first | rfl | (simp; done) | (simp [*]; done)), ⟨by have := HK2.out; omega⟩, ⟨by omega⟩, HKE9, HWR9, BK9⟩
                    · have c8' : ¬ (j : Int) < (x.f6.length : Int) := by omega
                      have HL9 : Aside0 (Lk w wr p b q none s' Lc' A' c' Lr') := Aside0.mk (HL8.out.spoilt HKE.out (fun ad e => by subst e; exact Kd.R_typed HRB8.out ad.block (by simp [Value.ownBlock])) (fun ad e => by subst e; exact Nat.le_trans HL5.out.bl.size (HRB8.out.1 ad.block (by simp [Value.ownBlock]))))
                      have HLL9 : Aside0 (Lr'.length ≤ 1000) := Aside0.mk (by have := HLN8.out; have := HLN.out; have := HLEN.out; omega)
                      have HN9 : Aside0 (s'.n < 1000000000) := Aside0.mk (by have := HSN8.out; have := HSN.out; have := HLEN.out; omega)
                      cases hcl : x.f7 with
                      | false =>
                        have HCL := Aside0.mk hcl
                        clear hcl
                        go_wp2_with (first
                          | (go_at_call 24; refine (same.calls wr p b Lc' s' q A' c' Lr' _ HL9.out.bs HL9.out.ls HL9.out.inv HL9.out.ref HL9.out.agree HLL9.out).mono ?_; rintro e w10 ⟨rfl, hb⟩
                             have HL10 := Aside0.mk (HL9.out.below hb); have BK10 := Aside0.mk (BKj.out.below hb); clear hb
                             have o7_w10 : w10.cell? ⟨g7, 7, none⟩ = some (.bool false) := (BK10.out.cell 7).trans (congrArg (fun q => some (Value.bool q)) HCL.out)))
                        go_roundg k1
                        case measure => have := HK.out; omega
                        case rel => exact ⟨i + 1, p, b, s', Lc', A', c', Lr', (by first | rfl | (simp; done) | (simp [*]; done)), rfl, ⟨by have := HK.out; omega⟩, ⟨by omega⟩, HL10, ⟨by have := HSN8.out; have := HSN.out; omega⟩, ⟨by have := HLN8.out; have := HLN.out; omega⟩⟩
                      | true =>
                        have HCL := Aside0.mk hcl
                        clear hcl
                        obtain ⟨r2, hv2⟩ : ∃ r2, createV s' 1 ⟨#[111, 116, 104, 101, 114]⟩ [] = r2 := ⟨_, rfl⟩
                        obtain ⟨⟨m2, e2⟩, s2⟩ := r2
                        have HV2 := Aside0.mk hv2
                        clear hv2
                        go_wp2_with (first
                          | (go_at_call 24; refine (same.calls wr p b Lc' s' q A' c' Lr' _ HL9.out.bs HL9.out.ls HL9.out.inv HL9.out.ref HL9.out.agree HLL9.out).mono ?_; rintro e w10 ⟨rfl, hb⟩
                             have HL10 := Aside0.mk (HL9.out.below hb); have BK10 := Aside0.mk (BKj.out.below hb); clear hb
                             have o7_w10 : w10.cell? ⟨g7, 7, none⟩ = some (.bool true) := (BK10.out.cell 7).trans (congrArg (fun q => some (Value.bool q)) HCL.out))
                          | (go_at_call 25; refine (Clone.calls w10 p b Lc' s'.n HL10.out.bs HL10.out.keys HL10.out.fitsC).mono ?_; rintro e w11 ⟨p2, b2, Ld, rfl, hp2, hb2, hB, hpm, hri, hb⟩
                             have HP2 := Aside0.mk hp2; have HB2 := Aside0.mk hb2; have HBD := Aside0.mk hB; have HPM := Aside0.mk hpm; have HRI := Aside0.mk hri; have X11 := Aside0.mk hb; clear hp2 hb2 hB hpm hri hb)
                          | (go_at_call 11; refine (Create.tx none 0 [] (HL10.out.bs.below X11.out) HL10.out.ls HL10.out.inv.n0 HN9.out (Kd.C_nil _ _) (Nat.le_refl 0) HV2.out).mono ?_; rintro e w12 ⟨rfl, _, hc⟩
                             have HL12 := Aside0.mk (HL10.out.clone X11.out HP2.out HB2.out HBD.out HPM.out HRI.out hc); clear hc))
                        go_roundg k1
                        case measure => have := HK.out; omega
                        case rel => exact ⟨i + 1, p2, b2, ⟨erase Ld, s'.n⟩, Ld, A', c', Lr', (by first | rfl | (simp; done) | (simp [*]; done)), rfl, ⟨by have := HK.out; omega⟩, ⟨by omega⟩, HL12, ⟨by show s'.n ≤ _; have := HSN8.out; have := HSN.out; omega⟩, ⟨by have := HLN8.out; have := HLN.out; omega⟩⟩
      · have c5' : ¬ (i : Int) < (l0.length : Int) := by omega
        go_wp2
        go_ret
        exact ⟨rfl, HL.out.bl⟩
end Go.Proofs.Ytmankbhlgjgnbaa.PAll
