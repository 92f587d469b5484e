import Derived.Test.YtmankbhlgjgnbaaEKdel
import Derived.Laws.Cover1
/-! The reference's store: Hold. -/
namespace Go.Proofs.Ytmankbhlgjgnbaa.PAll
open Go.RowKit Go.Proofs.YtmankbhlgjgnbaaW.PrintWords Go.Proofs.YtmankbhlgjgnbaaW.PrintLast Go.Proofs.YtmankbhlgjgnbaaW.PrintMore Mem
set_option linter.unusedVariables false
set_option linter.unusedSimpArgs false
theorem rd_str (l : List ByteArray) (i : Nat) (h : i < l.length) : rdOf ByteArray.empty l (i : Int) = l[i] := by
  unfold rdOf
  rw [Int.toNat_natCast, List.getD_eq_getElem?_getD, List.getElem?_eq_getElem h]
  rfl
theorem eq_of_toList {a b : ByteArray} (h : a.toList = b.toList) : a = b := toList_inj (beq_iff_eq.2 h)
def insStep (who : ByteArray) (s : List ByteArray × Bool) (h : ByteArray) : List ByteArray × Bool := if s.2 = false ∧ Op.bytesLess h.toList who.toList = false then (s.1 ++ [who] ++ [h], true) else (s.1 ++ [h], s.2)
def insD (who : ByteArray) (H : List ByteArray) : List ByteArray × Bool := H.foldl (insStep who) ([], false)
theorem insD_snoc (who : ByteArray) (H : List ByteArray) (h : ByteArray) : insD who (H ++ [h]) = insStep who (insD who H) h := by unfold insD; rw [List.foldl_append]; rfl
def insR (who : ByteArray) (H : List ByteArray) : List ByteArray := if (insD who H).2 = true then (insD who H).1 else (insD who H).1 ++ [who]
set_option maxHeartbeats 4000000 in
set_option maxRecDepth 100000 in
theorem rhold_none.calls (w : World) (q : Nat) (A : Option Addr) (c : Nat) (n : Int) (Lr : List CI) (ok : Nat → Prop) (h : RefB w q A c n Lr ok) (hfr : ∀ k, w.heap.size ≤ k → ok k) (hl : Lr.length ≤ 1000) (hn0 : 0 ≤ n) (hn1 : n < 1000000000) (kind : Int) (nm who : ByteArray) (hI : rI kind nm (Lr.map CI.pure) 0 = -1) :
    Calls Try.prog 22 #[.pointer (some ⟨q, 0, none⟩), .int .i64 kind, .string nm, .string who] w fun e w' => e = .returned (.int .i64 5) ∧ RefTo w w' q A ok (Lr.map CI.pure) n := by
  have HR := Aside0.mk h
  have HII := Aside0.mk hI
  clear h hfr hn0 hn1 hI
  go_enter Try.func22, Try.ntmps22
  go_wp2_with (first
    | (go_at_call 35; refine (show Calls Try.prog 35 #[.pointer (some ⟨q, 0, none⟩), .int .i64 kind, .string nm] w fun e w' => e = .returned (.int .i64 (-1)) ∧ Below w.heap.size w w' from by have h := rfind.calls w q A c n Lr kind nm HR.out.blk HR.out.reads hl; rw [HII.out] at h; exact h).mono ?_; rintro e w1 ⟨rfl, hb⟩
       have X1 := Aside0.mk hb; have HR1 := Aside0.mk (HR.out.below hb); have K1 := Aside0.mk (Keep.of_below hb (RefS q A)); clear hb
       have c0 : w1.cell? ⟨q, 0, none⟩ = some (.slice A Lr.length c) := HR1.out.blk.cell 0
       have d0 : w1.cell? ⟨q, 1, none⟩ = some (.int .i64 n) := HR1.out.blk.cell 1))
  go_ret
  exact ⟨rfl, HR.out.to X1.out⟩
def rholdV (L : List PI) (n : Int) (i : Nat) (x : PI) (who : ByteArray) : Int × (List PI × Int) :=
  if who.size < 1 ∨ who.size > 16 then (1, (L, n))
  else if x.going = true then (101, (L, n))
  else if hasS who x.H = true then (6, (L, n))
  else if x.H.length ≥ 4 then (3, (L, n))
  else (0, (L.set i { x with ver := n + 1, H := insR who x.H }, n + 1))
set_option maxHeartbeats 8000000 in
set_option maxRecDepth 100000 in
theorem rhold_some.calls (w : World) (q : Nat) (A : Option Addr) (c : Nat) (n : Int) (Lr : List CI) (ok : Nat → Prop) (h : RefB w q A c n Lr ok) (hfr : ∀ k, w.heap.size ≤ k → ok k) (hl : Lr.length ≤ 1000) (hn0 : 0 ≤ n) (hn1 : n < 1000000000) (kind : Int) (nm : ByteArray) (i : Nat) (hi : i < Lr.length) (hI : rI kind nm (Lr.map CI.pure) 0 = (i : Int)) (who : ByteArray) (hf : Fits Lr[i]) :
    Calls Try.prog 22 #[.pointer (some ⟨q, 0, none⟩), .int .i64 kind, .string nm, .string who] w fun e w' => e = .returned (.int .i64 (rholdV (Lr.map CI.pure) n i Lr[i].pure who).1) ∧ RefTo w w' q A ok (rholdV (Lr.map CI.pure) n i Lr[i].pure who).2.1 (rholdV (Lr.map CI.pure) n i Lr[i].pure who).2.2 := by
  have HR := Aside0.mk h
  have HFR := Aside0.mk hfr
  have HII := Aside0.mk hI
  have hw1 : wrap64 (n + 1) = n + 1 := by unfold wrap64; omega
  obtain ⟨g, rfl, _⟩ := own_ci h.row i hi
  have i0 : (0 : Int) ≤ (i : Int) := by omega
  have i1 : (i : Int) < (Lr.length : Int) := by omega
  have HGO : Aside0 ((Value.slice (some ⟨g, 0, none⟩) Lr.length c).ownBlock = some g) := Aside0.mk (by simp [Value.ownBlock])
  have HF := Aside0.mk hf
  generalize hV : rholdV (Lr.map CI.pure) n i Lr[i].pure who = r
  unfold rholdV at hV
  clear h hfr hn0 hn1 hI hf
  obtain ⟨x, hLx⟩ : ∃ x, Lr[i] = x := ⟨_, rfl⟩
  have HLX := Aside0.mk hLx
  rw [hLx] at hV HF
  clear hLx
  obtain ⟨HA, hHA⟩ : ∃ HA, x.ha = HA := ⟨_, rfl⟩
  have HHA := Aside0.mk hHA
  clear hHA
  have hg0 : x.pure.going = x.going := rfl
  have hh0 : x.pure.H = x.H := rfl
  rw [hg0, hh0] at hV
  clear hg0 hh0
  by_cases k3 : who.size < 1
  · rw [if_pos (.inl k3)] at hV
    subst hV
    have k3' : (who.size : Int) < 1 := by omega
    go_enter Try.func22, Try.ntmps22
    go_wp2_with (first
      | (go_at_call 35; refine (show Calls Try.prog 35 #[.pointer (some ⟨q, 0, none⟩), .int .i64 kind, .string nm] w fun e w' => e = .returned (.int .i64 ((i : Int))) ∧ Below w.heap.size w w' from by have h := rfind.calls w q (some ⟨g, 0, none⟩) c n Lr kind nm HR.out.blk HR.out.reads hl; rw [HII.out] at h; exact h).mono ?_; rintro e w1 ⟨rfl, hb⟩
         have X1 := Aside0.mk hb; have HR1 := Aside0.mk (HR.out.below hb); have K1 := Aside0.mk (Keep.of_below hb (RefS q (some ⟨g, 0, none⟩))); clear hb
         have c0 : w1.cell? ⟨q, 0, none⟩ = some (.slice (some ⟨g, 0, none⟩) Lr.length c) := HR1.out.blk.cell 0
         have d0 : w1.cell? ⟨q, 1, none⟩ = some (.int .i64 n) := HR1.out.blk.cell 1
         obtain ⟨z0, z1, z2, z3, z4, z5⟩ := elem_cells HR1.out.row i hi x HLX.out))
    go_ret
    exact ⟨rfl, HR.out.to X1.out⟩
  have k3' : ¬ (who.size : Int) < 1 := by omega
  by_cases k4 : who.size > 16
  · rw [if_pos (.inr k4)] at hV
    subst hV
    have k4' : (16 : Int) < (who.size : Int) := by omega
    go_enter Try.func22, Try.ntmps22
    go_wp2_with (first
      | (go_at_call 35; refine (show Calls Try.prog 35 #[.pointer (some ⟨q, 0, none⟩), .int .i64 kind, .string nm] w fun e w' => e = .returned (.int .i64 ((i : Int))) ∧ Below w.heap.size w w' from by have h := rfind.calls w q (some ⟨g, 0, none⟩) c n Lr kind nm HR.out.blk HR.out.reads hl; rw [HII.out] at h; exact h).mono ?_; rintro e w1 ⟨rfl, hb⟩
         have X1 := Aside0.mk hb; have HR1 := Aside0.mk (HR.out.below hb); have K1 := Aside0.mk (Keep.of_below hb (RefS q (some ⟨g, 0, none⟩))); clear hb
         have c0 : w1.cell? ⟨q, 0, none⟩ = some (.slice (some ⟨g, 0, none⟩) Lr.length c) := HR1.out.blk.cell 0
         have d0 : w1.cell? ⟨q, 1, none⟩ = some (.int .i64 n) := HR1.out.blk.cell 1
         obtain ⟨z0, z1, z2, z3, z4, z5⟩ := elem_cells HR1.out.row i hi x HLX.out))
    go_ret
    exact ⟨rfl, HR.out.to X1.out⟩
  have k4' : ¬ (16 : Int) < (who.size : Int) := by omega
  rw [if_neg (by omega)] at hV
  by_cases k6 : x.going = true
  · rw [if_pos k6] at hV
    subst hV
    go_enter Try.func22, Try.ntmps22
    go_wp2_with (first
      | (go_at_call 35; refine (show Calls Try.prog 35 #[.pointer (some ⟨q, 0, none⟩), .int .i64 kind, .string nm] w fun e w' => e = .returned (.int .i64 ((i : Int))) ∧ Below w.heap.size w w' from by have h := rfind.calls w q (some ⟨g, 0, none⟩) c n Lr kind nm HR.out.blk HR.out.reads hl; rw [HII.out] at h; exact h).mono ?_; rintro e w1 ⟨rfl, hb⟩
         have X1 := Aside0.mk hb; have HR1 := Aside0.mk (HR.out.below hb); have K1 := Aside0.mk (Keep.of_below hb (RefS q (some ⟨g, 0, none⟩))); clear hb
         have c0 : w1.cell? ⟨q, 0, none⟩ = some (.slice (some ⟨g, 0, none⟩) Lr.length c) := HR1.out.blk.cell 0
         have d0 : w1.cell? ⟨q, 1, none⟩ = some (.int .i64 n) := HR1.out.blk.cell 1
         obtain ⟨z0, z1, z2, z3, z4, z5⟩ := elem_cells HR1.out.row i hi x HLX.out))
    go_ret
    exact ⟨rfl, HR.out.to X1.out⟩
  rw [if_neg k6] at hV
  have k6' : x.going = false := by cases hg : x.going with | true => exact absurd hg k6 | false => rfl
  clear k6
  have K6_ := Aside0.mk k6'
  have HV := Aside0.mk hV
  clear hV
  go_enter Try.func22, Try.ntmps22
  go_wp2_with (first
    | (go_at_call 35; refine (show Calls Try.prog 35 #[.pointer (some ⟨q, 0, none⟩), .int .i64 kind, .string nm] w fun e w' => e = .returned (.int .i64 ((i : Int))) ∧ Below w.heap.size w w' from by have h := rfind.calls w q (some ⟨g, 0, none⟩) c n Lr kind nm HR.out.blk HR.out.reads hl; rw [HII.out] at h; exact h).mono ?_; rintro e w1 ⟨rfl, hb⟩
       have X1 := Aside0.mk hb; have HR1 := Aside0.mk (HR.out.below hb); have K1 := Aside0.mk (Keep.of_below hb (RefS q (some ⟨g, 0, none⟩))); clear hb
       have c0 : w1.cell? ⟨q, 0, none⟩ = some (.slice (some ⟨g, 0, none⟩) Lr.length c) := HR1.out.blk.cell 0
       have d0 : w1.cell? ⟨q, 1, none⟩ = some (.int .i64 n) := HR1.out.blk.cell 1
       obtain ⟨z0, z1, z2, z3, z4, z5⟩ := elem_cells HR1.out.row i hi x HLX.out
       rw [HHA.out] at z3
       have HROW1 : Aside0 (RowOK w1 x) := Aside0.mk (HR1.out.rows x (HLX.out ▸ List.getElem_mem hi)).ok))
  go_loopg [10, 11, 48] (x.H.length + 1) (fun kq v10 v11 v48 w' => ∃ (j : Nat) (l : List ByteArray) (d : Bool) (Al : Option Addr) (cl : Nat), v10 = .slice Al l.length cl ∧ v11 = .bool d ∧ v48 = .int .i64 (j : Int) ∧ Aside0 (kq + j = x.H.length + 1) ∧ Aside0 (j ≤ x.H.length) ∧ Aside0 (insD who (x.H.take j) = (l, d)) ∧ Aside0 (who ∉ x.H.take j) ∧ Aside0 (l.length ≤ 2 * j) ∧ Aside0 (Kd.R Kd.string 9 w' w1.heap.size (fun k => w1.heap.size ≤ k) (.slice Al l.length cl) l) ∧ Aside0 (Below w1.heap.size w1 w'))
  case atStart => exact ⟨0, [], false, none, 0, rfl, rfl, rfl, ⟨rfl⟩, ⟨Nat.zero_le _⟩, ⟨rfl⟩, ⟨by simp⟩, ⟨by simp⟩, ⟨Kd.R_nil _ _ _ _ _⟩, ⟨Below.refl _ _⟩⟩
  case round =>
    clear c0 d0 z0 z1 z2 z3 z4 z5
    obtain ⟨j, l, d, Al, cl, rfl, rfl, rfl, HK, HJ, HD0, HNI, HLL, HRWr, HBr⟩ := hrel
    have HRr := Aside0.mk (HR1.out.below HBr.out)
    have Kr := Aside0.mk (K1.out.below HBr.out)
    have c0 : wr.cell? ⟨q, 0, none⟩ = some (.slice (some ⟨g, 0, none⟩) Lr.length c) := HRr.out.blk.cell 0
    have d0 : wr.cell? ⟨q, 1, none⟩ = some (.int .i64 n) := HRr.out.blk.cell 1
    have z3 : wr.cell? ⟨g, i * 6 + 3, none⟩ = some (.slice HA x.H.length x.hc) := by rw [← HHA.out]; exact (elem_cells HRr.out.row i hi x HLX.out).2.2.2.1
    cases gk with
    | zero => exact absurd HK.out (by have := HJ.out; omega)
    | succ k1 =>
      by_cases c5 : j < x.H.length
      · have c5' : (j : Int) < (x.H.length : Int) := by omega
        have p0 : (0 : Int) ≤ (j : Int) := by omega
        obtain ⟨ad, e1, hx0⟩ := Kd.at_string HROW1.out.hr (j : Int) p0 c5'
        replace e1 := HHA.out.symm.trans e1
        cases e1
        replace hx0 := pw_cell_below HBr.out hx0
        simp only [Int.toNat_natCast] at hx0
        rw [rd_str _ j c5] at hx0
        have HD := Aside0.mk (show x.H.take (j + 1) = x.H.take j ++ [x.H[j]] from List.take_succ_eq_append_getElem c5)
        have HM : Aside0 (x.H[j] ∈ x.H) := Aside0.mk (List.getElem_mem c5)
        generalize x.H[j] = hh at *
        replace p0 := eq_true p0
        have HJL : Aside0 (j ≤ 1000) := Aside0.mk (by have := HF.out.1; omega)
        have hiw : wrap64 ((j : Int) + 1) = ((j + 1 : Nat) : Int) := w_succ (by have := HJL.out; omega)
        by_cases kh : hh = who
        · have q1 : (hh.toList == who.toList) = true := beq_iff_eq.2 (by rw [kh])
          have KH := Aside0.mk kh
          clear kh
          go_wp2
          go_ret
          have hv := HV.out
          rw [if_pos ((hasS_iff _ _).2 (KH.out ▸ HM.out))] at hv
          rw [← hv]
          exact ⟨rfl, HR.out.to (below_then X1.out X1.out.size HBr.out)⟩
        · have q1 : (hh.toList == who.toList) = false := beq_eq_false_iff_ne.2 (fun e => kh (eq_of_toList e))
          have KH := Aside0.mk kh
          clear kh
          cases d with
          | true =>
            go_wp2_with (first
              | ((with_reducible refine gate_builtin (b := .append) (xs := #[.tmp 66, .tmp 68]) rfl ?_); at_builtin; refine Kd.R_append Kd.string (w0 := w1) w1.heap.size rfl (.tmp 66) (.tmp 68) 29 9 (.string ⟨#[]⟩) 16 rfl Try.underlying29 info9_ rfl (by decide) (by decide) (.slice Al l.length cl) l hh [.string hh] (fun k => w1.heap.size ≤ k) (fun _ => False) rfl rfl rfl (fun _ hk => hk.elim) ?aF HRWr.out HBr.out HBr.out.size ?aL ?_; (case aF => exact fun k hk => Nat.le_trans HBr.out.size hk); (case aL => have := HLL.out; have := HJL.out; (try simp only [List.length_append, List.length_singleton]); omega); intro v2 w2 ho hb hg hat
                 obtain ⟨L2, hL⟩ : ∃ z, z = l ++ [hh] := ⟨_, rfl⟩
                 rw [← hL] at ho
                 have LL2 := Aside0.mk hL; have HLL2 : Aside0 (L2.length = l.length + 1) := Aside0.mk (by rw [hL, List.length_append, List.length_singleton]); clear hL
                 obtain ⟨A2, c2, rfl⟩ := Kd.R_slice ho
                 have HRW2 := Aside0.mk ho; have HB2 := Aside0.mk hb; clear ho hb hg hat))
            go_roundg k1
            case measure => have := HK.out; omega
            case rel => exact ⟨j + 1, L2, true, A2, c2, rfl, rfl, (by first | rfl | (simp; done) | (simp [*]; done)), ⟨by have := HK.out; omega⟩, ⟨by omega⟩, ⟨by rw [HD.out, insD_snoc, HD0.out, LL2.out]; rfl⟩, ⟨by rw [HD.out, List.mem_append, List.mem_singleton]; exact fun e => e.elim HNI.out (fun e => KH.out e.symm)⟩, ⟨by have := HLL.out; have := HLL2.out; omega⟩, HRW2, HB2⟩
          | false =>
            cases hq : Op.bytesLess hh.toList who.toList with
            | false =>
              go_wp2_with (first
                | ((with_reducible refine gate_builtin (b := .append) (xs := #[.tmp 62, .tmp 64]) rfl ?_); at_builtin; refine Kd.R_append Kd.string (w0 := w1) w1.heap.size rfl (.tmp 62) (.tmp 64) 29 9 (.string ⟨#[]⟩) 16 rfl Try.underlying29 info9_ rfl (by decide) (by decide) (.slice Al l.length cl) l who [.string who] (fun k => w1.heap.size ≤ k) (fun _ => False) rfl rfl rfl (fun _ hk => hk.elim) ?aF HRWr.out HBr.out HBr.out.size ?aL ?_; (case aF => exact fun k hk => Nat.le_trans HBr.out.size hk); (case aL => have := HLL.out; have := HJL.out; (try simp only [List.length_append, List.length_singleton]); omega); intro v2 w2 ho hb hg hat
                   obtain ⟨L2, hL⟩ : ∃ z, z = l ++ [who] := ⟨_, rfl⟩
                   rw [← hL] at ho
                   have LL2 := Aside0.mk hL; have HLL2 : Aside0 (L2.length = l.length + 1) := Aside0.mk (by rw [hL, List.length_append, List.length_singleton]); clear hL
                   obtain ⟨A2, c2, rfl⟩ := Kd.R_slice ho
                   have HRW2 := Aside0.mk ho; have HB2 := Aside0.mk hb; clear ho hb hg hat)
                | ((with_reducible refine gate_builtin (b := .append) (xs := #[.tmp 66, .tmp 68]) rfl ?_); at_builtin; refine Kd.R_append Kd.string (w0 := w1) w1.heap.size rfl (.tmp 66) (.tmp 68) 29 9 (.string ⟨#[]⟩) 16 rfl Try.underlying29 info9_ rfl (by decide) (by decide) (.slice A2 L2.length c2) L2 hh [.string hh] (fun k => w1.heap.size ≤ k) (fun _ => False) rfl rfl rfl (fun _ hk => hk.elim) ?aF HRW2.out HB2.out HB2.out.size ?aL ?_; (case aF => exact fun k hk => Nat.le_trans HB2.out.size hk); (case aL => have := HLL.out; have := HJL.out; have := HLL2.out; (try simp only [List.length_append, List.length_singleton]); omega); intro v3 w3 ho hb hg hat
                   obtain ⟨L3, hL⟩ : ∃ z, z = L2 ++ [hh] := ⟨_, rfl⟩
                   rw [← hL] at ho
                   have LL3 := Aside0.mk hL; have HLL3 : Aside0 (L3.length = L2.length + 1) := Aside0.mk (by rw [hL, List.length_append, List.length_singleton]); clear hL
                   obtain ⟨A3, c3, rfl⟩ := Kd.R_slice ho
                   have HRW3 := Aside0.mk ho; have HB3 := Aside0.mk hb; clear ho hb hg hat))
              go_roundg k1
              case measure => have := HK.out; omega
              case rel => exact ⟨j + 1, L3, true, A3, c3, rfl, rfl, (by first | rfl | (simp; done) | (simp [*]; done)), ⟨by have := HK.out; omega⟩, ⟨by omega⟩, ⟨by rw [HD.out, insD_snoc, HD0.out, LL3.out, LL2.out]; exact if_pos ⟨rfl, hq⟩⟩, ⟨by rw [HD.out, List.mem_append, List.mem_singleton]; exact fun e => e.elim HNI.out (fun e => KH.out e.symm)⟩, ⟨by have := HLL.out; have := HLL2.out; have := HLL3.out; omega⟩, HRW3, HB3⟩
            | true =>
              go_wp2_with (first
                | ((with_reducible refine gate_builtin (b := .append) (xs := #[.tmp 66, .tmp 68]) rfl ?_); at_builtin; refine Kd.R_append Kd.string (w0 := w1) w1.heap.size rfl (.tmp 66) (.tmp 68) 29 9 (.string ⟨#[]⟩) 16 rfl Try.underlying29 info9_ rfl (by decide) (by decide) (.slice Al l.length cl) l hh [.string hh] (fun k => w1.heap.size ≤ k) (fun _ => False) rfl rfl rfl (fun _ hk => hk.elim) ?aF HRWr.out HBr.out HBr.out.size ?aL ?_; (case aF => exact fun k hk => Nat.le_trans HBr.out.size hk); (case aL => have := HLL.out; have := HJL.out; (try simp only [List.length_append, List.length_singleton]); omega); intro v2 w2 ho hb hg hat
                   obtain ⟨L2, hL⟩ : ∃ z, z = l ++ [hh] := ⟨_, rfl⟩
                   rw [← hL] at ho
                   have LL2 := Aside0.mk hL; have HLL2 : Aside0 (L2.length = l.length + 1) := Aside0.mk (by rw [hL, List.length_append, List.length_singleton]); clear hL
                   obtain ⟨A2, c2, rfl⟩ := Kd.R_slice ho
                   have HRW2 := Aside0.mk ho; have HB2 := Aside0.mk hb; clear ho hb hg hat))
              go_roundg k1
              case measure => have := HK.out; omega
              case rel => exact ⟨j + 1, L2, false, A2, c2, rfl, rfl, (by first | rfl | (simp; done) | (simp [*]; done)), ⟨by have := HK.out; omega⟩, ⟨by omega⟩, ⟨by rw [HD.out, insD_snoc, HD0.out, LL2.out]; exact if_neg (fun e => by rw [hq] at e; exact absurd e.2 (by decide))⟩, ⟨by rw [HD.out, List.mem_append, List.mem_singleton]; exact fun e => e.elim HNI.out (fun e => KH.out e.symm)⟩, ⟨by have := HLL.out; have := HLL2.out; omega⟩, HRW2, HB2⟩
      · have c5' : ¬ (j : Int) < (x.H.length : Int) := by omega
        have HALL : Aside0 (x.H.take j = x.H) := Aside0.mk (List.take_of_length_le (by omega))
        have hv := HV.out
        rw [if_neg (fun e => HNI.out (HALL.out.symm ▸ (hasS_iff _ _).1 e))] at hv
        by_cases k7 : x.H.length ≥ 4
        · have k7' : (4 : Int) ≤ (x.H.length : Int) := by omega
          rw [if_pos k7] at hv
          subst hv
          go_wp2
          go_ret
          exact ⟨rfl, HR.out.to (below_then X1.out X1.out.size HBr.out)⟩
        have k7' : ¬ (4 : Int) ≤ (x.H.length : Int) := by omega
        rw [if_neg k7] at hv
        subst hv
        have HJ4 : Aside0 (j ≤ 3) := Aside0.mk (by have := HJ.out; omega)
        have HINS : Aside0 (insR who x.H = if d = true then l else l ++ [who]) := Aside0.mk (by unfold insR; rw [← HALL.out, HD0.out])
        cases d with
        | true =>
          go_wp2_with (first
            | ((with_reducible refine gate_store (p := 93) rfl ?_); refine store_at rfl (t := 2) rfl rfl q 1 _ 65 _ rfl rfl HRr.out.blk [.int .i64 (n + 1)] (by rw [hw1]; rfl) size_i64 (show (2 : Nat) ≤ 2 from Nat.le_refl 2) (by intro u hu; rw [List.mem_singleton.1 hu]; rfl) ?_; intro w3 hk hg
               have HR3 : Aside0 (RefB w3 q (some ⟨g, 0, none⟩) (c) (n + 1) (Lr) ok) := Aside0.mk (HRr.out.setQ hk hg); have K3 := Aside0.mk (Keep.of_grown hg Kr.out (fun k e => .inl (.inl (Option.some.inj e).symm))); have Z3 : Aside0 (w.heap.size ≤ w3.heap.size) := Aside0.mk K3.out.1; have GQ3 : Aside0 (Kept _ w3 (fun k => k = q)) := Aside0.mk (Kept.of_grown1 hg (fun k e => (Option.some.inj e).symm)); clear hk hg
               have c3 : w3.cell? ⟨q, 0, none⟩ = some (.slice (some ⟨g, 0, none⟩) (Lr).length (c)) := HR3.out.blk.cell 0
               have d3 : w3.cell? ⟨q, 1, none⟩ = some (.int .i64 (n + 1)) := HR3.out.blk.cell 1
               have HRW3 : Aside0 (Kd.R Kd.string 9 w3 0 ok (.slice Al (l).length cl) (l)) := Aside0.mk (R_keptT (Kd.R_mono (Kd.R_lower HRWr.out (Nat.zero_le _)) (fun k hk => HFR.out k (Nat.le_trans X1.out.size hk))) rfl GQ3.out (fun k e _ cells => by subst e; have h1 := HRr.out.blk; unfold Blk at h1; rw [h1]; exact fun e => by cases e)))
            | ((with_reducible refine gate_store (p := 101) rfl ?_); refine elem_at rfl rfl (t := 29) rfl i 3 { x with ha := Al, hc := cl, H := l } (.slice Al (l).length cl) [.slice Al (l).length cl] rfl ?aO rfl rfl size_slice29 (by intro u hu; rw [List.mem_singleton.1 hu]; rfl) HR3.out.row ?aH (show 3 + 1 ≤ 6 by decide) ?aM ?_; (case aO => simp only [Nat.zero_add]); (case aH => exact hi); (case aM => rw [HLX.out]; rfl); intro w4 hk hg
               have HR4 : Aside0 (RefB w4 q (some ⟨g, 0, none⟩) c (n + 1) (Lr.set i { x with ha := Al, hc := cl, H := l }) ok) := Aside0.mk (HR3.out.setX hk hg ⟨HRW3.out, (HR3.out.rows x (HLX.out ▸ List.getElem_mem hi)).br⟩); have K4 := Aside0.mk (Keep.of_grown hg K3.out (fun k e => .inl (.inr ⟨_, rfl, (Option.some.inj e).symm⟩))); clear hk hg
               have c4 : w4.cell? ⟨q, 0, none⟩ = some (.slice (some ⟨g, 0, none⟩) Lr.length c) := by have h := HR4.out.blk.cell 0; rw [List.length_set] at h; exact h
               have d4 : w4.cell? ⟨q, 1, none⟩ = some (.int .i64 (n + 1)) := HR4.out.blk.cell 1))
          refine start_ (n := 12) (S := fun w' => w'.cell? ⟨q, 0, none⟩ = some (.slice (some ⟨g, 0, none⟩) Lr.length c) ∧ w'.cell? ⟨q, 1, none⟩ = some (.int .i64 (n + 1))) (ds := [11]) #[false, false, false, false, false, false, false, false, false, false, false, false] (by kernel_rfl) rfl rfl ⟨c4, d4⟩ (fun hHeld => ?_)
          refine pure_ (i := 0) (N := some 102) (v := ?_) (a' := ?_) #[true, false, false, false, false, false, false, false, false, false, false, false] rfl rfl (by kernel_rfl) (fun _ _ _ h => h) (Or.inl ⟨by rfl, ?_⟩) ?_ ?_
          rotate_left
          · intro w'
            go_simp
            with_reducible rfl
          rotate_left
          · simp only [Act.put, List.setIfInBounds_toArray, List.set_cons_zero, List.set_cons_succ, i64_w, i32_w]
            rfl
          refine pure_ (i := 1) (N := some 103) (v := ?_) (a' := ?_) #[true, true, false, false, false, false, false, false, false, false, false, false] rfl rfl (by kernel_rfl) (fun _ _ _ h => h) (Or.inl ⟨by rfl, ?_⟩) ?_ ?_
          rotate_left
          · intro w'
            go_simp
            with_reducible rfl
          rotate_left
          · simp only [Act.put, List.setIfInBounds_toArray, List.set_cons_zero, List.set_cons_succ, i64_w, i32_w]
            rfl
          refine pure_ (i := 2) (N := some 104) (v := ?_) (a' := ?_) #[true, true, true, false, false, false, false, false, false, false, false, false] rfl rfl (by kernel_rfl) (fun _ _ _ h => h) (Or.inl ⟨by rfl, ?_⟩) ?_ ?_
          rotate_left
          · intro w'
            go_simp
            with_reducible rfl
          rotate_left
          · simp only [Act.put, List.setIfInBounds_toArray, List.set_cons_zero, List.set_cons_succ, i64_w, i32_w]
            rfl
          refine pure_ (i := 4) (N := some 106) (v := ?_) (a' := ?_) #[true, true, true, false, true, false, false, false, false, false, false, false] rfl rfl (by kernel_rfl) (fun _ _ _ h => h) (Or.inl ⟨by rfl, ?_⟩) ?_ ?_
          rotate_left
          · intro w'
            go_simp
            with_reducible rfl
          rotate_left
          · simp only [Act.put, List.setIfInBounds_toArray, List.set_cons_zero, List.set_cons_succ, i64_w, i32_w]
            rfl
          refine pure_ (i := 5) (N := some 107) (v := ?_) (a' := ?_) #[true, true, true, false, true, true, false, false, false, false, false, false] rfl rfl (by kernel_rfl) (fun _ _ _ h => h) (Or.inl ⟨by rfl, ?_⟩) ?_ ?_
          rotate_left
          · intro w'
            go_simp
            with_reducible rfl
          rotate_left
          · simp only [Act.put, List.setIfInBounds_toArray, List.set_cons_zero, List.set_cons_succ, i64_w, i32_w]
            rfl
          refine pure_ (i := 6) (N := some 108) (v := ?_) (a' := ?_) #[true, true, true, false, true, true, true, false, false, false, false, false] rfl rfl (by kernel_rfl) (fun _ _ _ h => h) (Or.inl ⟨by rfl, ?_⟩) ?_ ?_
          rotate_left
          · intro w'
            go_simp
            with_reducible rfl
          rotate_left
          · simp only [Act.put, List.setIfInBounds_toArray, List.set_cons_zero, List.set_cons_succ, i64_w, i32_w]
            rfl
          refine pure_ (i := 7) (N := some 109) (v := ?_) (a' := ?_) #[true, true, true, false, true, true, true, true, false, false, false, false] rfl rfl (by kernel_rfl) (fun _ _ _ h => h) (Or.inl ⟨by rfl, ?_⟩) ?_ ?_
          rotate_left
          · intro w'
            go_simp
            with_reducible rfl
          rotate_left
          · simp only [Act.put, List.setIfInBounds_toArray, List.set_cons_zero, List.set_cons_succ, i64_w, i32_w]
            rfl
          refine take_ (i := 3) (N := some 105) (v := ?_) (a' := ?_) #[true, true, true, true, true, true, true, true, false, false, false, false] rfl rfl (by kernel_rfl) (fun _ _ _ h => h) (Or.inl ⟨by rfl, ?_⟩) hHeld ?_ ?_
          rotate_left
          · rintro w' ⟨s0, s1⟩
            go_simp
            with_reducible rfl
          rotate_left
          · simp only [Act.put, List.setIfInBounds_toArray, List.set_cons_zero, List.set_cons_succ, i64_w, i32_w]
            rfl
          refine take_ (i := 8) (N := some 110) (v := ?_) (a' := ?_) #[true, true, true, true, true, true, true, true, true, false, false, false] rfl rfl (by kernel_rfl) (fun _ _ _ h => h) (Or.inl ⟨by rfl, ?_⟩) hHeld ?_ ?_
          rotate_left
          · rintro w' ⟨s0, s1⟩
            go_simp
            with_reducible rfl
          rotate_left
          · simp only [Act.put, List.setIfInBounds_toArray, List.set_cons_zero, List.set_cons_succ, i64_w, i32_w]
            rfl
          refine pure_ (i := 9) (N := some 111) (v := ?_) (a' := ?_) #[true, true, true, true, true, true, true, true, true, true, false, false] rfl rfl (by kernel_rfl) (fun _ _ _ h => h) (Or.inl ⟨by rfl, ?_⟩) ?_ ?_
          rotate_left
          · intro w'
            go_simp
            with_reducible rfl
          rotate_left
          · simp only [Act.put, List.setIfInBounds_toArray, List.set_cons_zero, List.set_cons_succ, i64_w, i32_w]
            rfl
          refine pure_ (i := 10) (N := some 112) (v := ?_) (a' := ?_) #[true, true, true, true, true, true, true, true, true, true, true, false] rfl rfl (by kernel_rfl) (fun _ _ _ h => h) (Or.inl ⟨by rfl, ?_⟩) ?_ ?_
          rotate_left
          · intro w'
            go_simp
            with_reducible rfl
          rotate_left
          · simp only [Act.put, List.setIfInBounds_toArray, List.set_cons_zero, List.set_cons_succ, i64_w, i32_w]
            rfl
          refine last_ (i := 11) (N := none) #[true, true, true, true, true, true, true, true, true, true, true, true] rfl rfl (by kernel_rfl) (by decide) (fun K hK => ?_)
          refine elem_reg (by rfl) rfl (t := 2) rfl i 2 { x with ver := n + 1, ha := Al, hc := cl, H := l } (.int .i64 (n + 1)) [.int .i64 (n + 1)] rfl ?aO rfl rfl size_i64 (by intro u hu; rw [List.mem_singleton.1 hu]; rfl) HR4.out.drew.row ?aH (show 2 + 1 ≤ 6 by decide) ?aM ?_
          case aO => simp only [Nat.zero_add]
          case aH => exact (by rw [List.length_set]; exact hi)
          case aM => rw [List.getElem_set_self]; rfl
          intro w5 hk hg
          have hk2 : Kd.R kCI 31 w5 0 ok (.slice (some ⟨g, 0, none⟩) (Lr.set i { x with ha := Al, hc := cl, H := l }).length c) ((Lr.set i { x with ha := Al, hc := cl, H := l }).set i { x with ver := n + 1, ha := Al, hc := cl, H := l }) := hk
          have HR5 : Aside0 (RefB w5 q (some ⟨g, 0, none⟩) c (n + 1) ((Lr.set i { x with ha := Al, hc := cl, H := l }).set i { x with ver := n + 1, ha := Al, hc := cl, H := l }) ok) := Aside0.mk (HR4.out.drew.setX hk2 hg ⟨(HR4.out.drew.rows { x with ha := Al, hc := cl, H := l } (List.mem_set hi _)).hr, (HR4.out.drew.rows { x with ha := Al, hc := cl, H := l } (List.mem_set hi _)).br⟩); have K5 := Aside0.mk (Keep.of_grown hg (Keep.drew K4.out) (fun k e => .inl (.inr ⟨_, rfl, (Option.some.inj e).symm⟩))); clear hk hk2 hg
          refine hK.out _ _ ?_
          clear hK K
          refine done_ (by kernel_rfl) ?_
          go_wp2
          go_ret
          refine ⟨rfl, some ⟨g, 0, none⟩, c, (Lr.set i { x with ha := Al, hc := cl, H := l }).set i { x with ver := n + 1, ha := Al, hc := cl, H := l }, HR5.out, ?_, K5.out, fun ad e => .inl (.inr ⟨ad, e, rfl⟩)⟩
          rw [List.set_set, List.map_set]
          show (Lr.map CI.pure).set i _ = _
          rw [show insR who x.H = l from HINS.out, ← K6_.out]
          rfl
        | false =>
          go_wp2_with (first
            | ((with_reducible refine gate_builtin (b := .append) (xs := #[.tmp 83, .tmp 85]) rfl ?_); at_builtin; refine Kd.R_append Kd.string (w0 := w1) w1.heap.size rfl (.tmp 83) (.tmp 85) 29 9 (.string ⟨#[]⟩) 16 rfl Try.underlying29 info9_ rfl (by decide) (by decide) (.slice Al l.length cl) l who [.string who] (fun k => w1.heap.size ≤ k) (fun _ => False) rfl rfl rfl (fun _ hk => hk.elim) ?aF HRWr.out HBr.out HBr.out.size ?aL ?_; (case aF => exact fun k hk => Nat.le_trans HBr.out.size hk); (case aL => have := HLL.out; have := HJ4.out; (try simp only [List.length_append, List.length_singleton]); omega); intro v2 w2 ho hb hg hat
               obtain ⟨L2, hL⟩ : ∃ z, z = l ++ [who] := ⟨_, rfl⟩
               rw [← hL] at ho
               have LL2 := Aside0.mk hL; have HLL2 : Aside0 (L2.length = l.length + 1) := Aside0.mk (by rw [hL, List.length_append, List.length_singleton]); clear hL
               obtain ⟨A2, c2, rfl⟩ := Kd.R_slice ho
               have HRW2 := Aside0.mk ho; have HB2 := Aside0.mk hb; clear ho hb hg hat
               have HR2 := Aside0.mk (HR1.out.below HB2.out); have K2 := Aside0.mk (K1.out.below HB2.out)
               have c2_ : w2.cell? ⟨q, 0, none⟩ = some (.slice (some ⟨g, 0, none⟩) Lr.length c) := HR2.out.blk.cell 0
               have d2_ : w2.cell? ⟨q, 1, none⟩ = some (.int .i64 n) := HR2.out.blk.cell 1)
            | ((with_reducible refine gate_store (p := 93) rfl ?_); refine store_at rfl (t := 2) rfl rfl q 1 _ 65 _ rfl rfl HR2.out.blk [.int .i64 (n + 1)] (by rw [hw1]; rfl) size_i64 (show (2 : Nat) ≤ 2 from Nat.le_refl 2) (by intro u hu; rw [List.mem_singleton.1 hu]; rfl) ?_; intro w3 hk hg
               have HR3 : Aside0 (RefB w3 q (some ⟨g, 0, none⟩) (c) (n + 1) (Lr) ok) := Aside0.mk (HR2.out.setQ hk hg); have K3 := Aside0.mk (Keep.of_grown hg K2.out (fun k e => .inl (.inl (Option.some.inj e).symm))); have Z3 : Aside0 (w.heap.size ≤ w3.heap.size) := Aside0.mk K3.out.1; have GQ3 : Aside0 (Kept _ w3 (fun k => k = q)) := Aside0.mk (Kept.of_grown1 hg (fun k e => (Option.some.inj e).symm)); clear hk hg
               have c3 : w3.cell? ⟨q, 0, none⟩ = some (.slice (some ⟨g, 0, none⟩) (Lr).length (c)) := HR3.out.blk.cell 0
               have d3 : w3.cell? ⟨q, 1, none⟩ = some (.int .i64 (n + 1)) := HR3.out.blk.cell 1
               have HRW3 : Aside0 (Kd.R Kd.string 9 w3 0 ok (.slice A2 (L2).length c2) (L2)) := Aside0.mk (R_keptT (Kd.R_mono (Kd.R_lower HRW2.out (Nat.zero_le _)) (fun k hk => HFR.out k (Nat.le_trans X1.out.size hk))) rfl GQ3.out (fun k e _ cells => by subst e; have h1 := HR2.out.blk; unfold Blk at h1; rw [h1]; exact fun e => by cases e)))
            | ((with_reducible refine gate_store (p := 101) rfl ?_); refine elem_at rfl rfl (t := 29) rfl i 3 { x with ha := A2, hc := c2, H := L2 } (.slice A2 (L2).length c2) [.slice A2 (L2).length c2] rfl ?aO rfl rfl size_slice29 (by intro u hu; rw [List.mem_singleton.1 hu]; rfl) HR3.out.row ?aH (show 3 + 1 ≤ 6 by decide) ?aM ?_; (case aO => simp only [Nat.zero_add]); (case aH => exact hi); (case aM => rw [HLX.out]; rfl); intro w4 hk hg
               have HR4 : Aside0 (RefB w4 q (some ⟨g, 0, none⟩) c (n + 1) (Lr.set i { x with ha := A2, hc := c2, H := L2 }) ok) := Aside0.mk (HR3.out.setX hk hg ⟨HRW3.out, (HR3.out.rows x (HLX.out ▸ List.getElem_mem hi)).br⟩); have K4 := Aside0.mk (Keep.of_grown hg K3.out (fun k e => .inl (.inr ⟨_, rfl, (Option.some.inj e).symm⟩))); clear hk hg
               have c4 : w4.cell? ⟨q, 0, none⟩ = some (.slice (some ⟨g, 0, none⟩) Lr.length c) := by have h := HR4.out.blk.cell 0; rw [List.length_set] at h; exact h
               have d4 : w4.cell? ⟨q, 1, none⟩ = some (.int .i64 (n + 1)) := HR4.out.blk.cell 1))
          refine start_ (n := 12) (S := fun w' => w'.cell? ⟨q, 0, none⟩ = some (.slice (some ⟨g, 0, none⟩) Lr.length c) ∧ w'.cell? ⟨q, 1, none⟩ = some (.int .i64 (n + 1))) (ds := [11]) #[false, false, false, false, false, false, false, false, false, false, false, false] (by kernel_rfl) rfl rfl ⟨c4, d4⟩ (fun hHeld => ?_)
          refine pure_ (i := 0) (N := some 102) (v := ?_) (a' := ?_) #[true, false, false, false, false, false, false, false, false, false, false, false] rfl rfl (by kernel_rfl) (fun _ _ _ h => h) (Or.inl ⟨by rfl, ?_⟩) ?_ ?_
          rotate_left
          · intro w'
            go_simp
            with_reducible rfl
          rotate_left
          · simp only [Act.put, List.setIfInBounds_toArray, List.set_cons_zero, List.set_cons_succ, i64_w, i32_w]
            rfl
          refine pure_ (i := 1) (N := some 103) (v := ?_) (a' := ?_) #[true, true, false, false, false, false, false, false, false, false, false, false] rfl rfl (by kernel_rfl) (fun _ _ _ h => h) (Or.inl ⟨by rfl, ?_⟩) ?_ ?_
          rotate_left
          · intro w'
            go_simp
            with_reducible rfl
          rotate_left
          · simp only [Act.put, List.setIfInBounds_toArray, List.set_cons_zero, List.set_cons_succ, i64_w, i32_w]
            rfl
          refine pure_ (i := 2) (N := some 104) (v := ?_) (a' := ?_) #[true, true, true, false, false, false, false, false, false, false, false, false] rfl rfl (by kernel_rfl) (fun _ _ _ h => h) (Or.inl ⟨by rfl, ?_⟩) ?_ ?_
          rotate_left
          · intro w'
            go_simp
            with_reducible rfl
          rotate_left
          · simp only [Act.put, List.setIfInBounds_toArray, List.set_cons_zero, List.set_cons_succ, i64_w, i32_w]
            rfl
          refine pure_ (i := 4) (N := some 106) (v := ?_) (a' := ?_) #[true, true, true, false, true, false, false, false, false, false, false, false] rfl rfl (by kernel_rfl) (fun _ _ _ h => h) (Or.inl ⟨by rfl, ?_⟩) ?_ ?_
          rotate_left
          · intro w'
            go_simp
            with_reducible rfl
          rotate_left
          · simp only [Act.put, List.setIfInBounds_toArray, List.set_cons_zero, List.set_cons_succ, i64_w, i32_w]
            rfl
          refine pure_ (i := 5) (N := some 107) (v := ?_) (a' := ?_) #[true, true, true, false, true, true, false, false, false, false, false, false] rfl rfl (by kernel_rfl) (fun _ _ _ h => h) (Or.inl ⟨by rfl, ?_⟩) ?_ ?_
          rotate_left
          · intro w'
            go_simp
            with_reducible rfl
          rotate_left
          · simp only [Act.put, List.setIfInBounds_toArray, List.set_cons_zero, List.set_cons_succ, i64_w, i32_w]
            rfl
          refine pure_ (i := 6) (N := some 108) (v := ?_) (a' := ?_) #[true, true, true, false, true, true, true, false, false, false, false, false] rfl rfl (by kernel_rfl) (fun _ _ _ h => h) (Or.inl ⟨by rfl, ?_⟩) ?_ ?_
          rotate_left
          · intro w'
            go_simp
            with_reducible rfl
          rotate_left
          · simp only [Act.put, List.setIfInBounds_toArray, List.set_cons_zero, List.set_cons_succ, i64_w, i32_w]
            rfl
          refine pure_ (i := 7) (N := some 109) (v := ?_) (a' := ?_) #[true, true, true, false, true, true, true, true, false, false, false, false] rfl rfl (by kernel_rfl) (fun _ _ _ h => h) (Or.inl ⟨by rfl, ?_⟩) ?_ ?_
          rotate_left
          · intro w'
            go_simp
            with_reducible rfl
          rotate_left
          · simp only [Act.put, List.setIfInBounds_toArray, List.set_cons_zero, List.set_cons_succ, i64_w, i32_w]
            rfl
          refine take_ (i := 3) (N := some 105) (v := ?_) (a' := ?_) #[true, true, true, true, true, true, true, true, false, false, false, false] rfl rfl (by kernel_rfl) (fun _ _ _ h => h) (Or.inl ⟨by rfl, ?_⟩) hHeld ?_ ?_
          rotate_left
          · rintro w' ⟨s0, s1⟩
            go_simp
            with_reducible rfl
          rotate_left
          · simp only [Act.put, List.setIfInBounds_toArray, List.set_cons_zero, List.set_cons_succ, i64_w, i32_w]
            rfl
          refine take_ (i := 8) (N := some 110) (v := ?_) (a' := ?_) #[true, true, true, true, true, true, true, true, true, false, false, false] rfl rfl (by kernel_rfl) (fun _ _ _ h => h) (Or.inl ⟨by rfl, ?_⟩) hHeld ?_ ?_
          rotate_left
          · rintro w' ⟨s0, s1⟩
            go_simp
            with_reducible rfl
          rotate_left
          · simp only [Act.put, List.setIfInBounds_toArray, List.set_cons_zero, List.set_cons_succ, i64_w, i32_w]
            rfl
          refine pure_ (i := 9) (N := some 111) (v := ?_) (a' := ?_) #[true, true, true, true, true, true, true, true, true, true, false, false] rfl rfl (by kernel_rfl) (fun _ _ _ h => h) (Or.inl ⟨by rfl, ?_⟩) ?_ ?_
          rotate_left
          · intro w'
            go_simp
            with_reducible rfl
          rotate_left
          · simp only [Act.put, List.setIfInBounds_toArray, List.set_cons_zero, List.set_cons_succ, i64_w, i32_w]
            rfl
          refine pure_ (i := 10) (N := some 112) (v := ?_) (a' := ?_) #[true, true, true, true, true, true, true, true, true, true, true, false] rfl rfl (by kernel_rfl) (fun _ _ _ h => h) (Or.inl ⟨by rfl, ?_⟩) ?_ ?_
          rotate_left
          · intro w'
            go_simp
            with_reducible rfl
          rotate_left
          · simp only [Act.put, List.setIfInBounds_toArray, List.set_cons_zero, List.set_cons_succ, i64_w, i32_w]
            rfl
          refine last_ (i := 11) (N := none) #[true, true, true, true, true, true, true, true, true, true, true, true] rfl rfl (by kernel_rfl) (by decide) (fun K hK => ?_)
          refine elem_reg (by rfl) rfl (t := 2) rfl i 2 { x with ver := n + 1, ha := A2, hc := c2, H := L2 } (.int .i64 (n + 1)) [.int .i64 (n + 1)] rfl ?aO rfl rfl size_i64 (by intro u hu; rw [List.mem_singleton.1 hu]; rfl) HR4.out.drew.row ?aH (show 2 + 1 ≤ 6 by decide) ?aM ?_
          case aO => simp only [Nat.zero_add]
          case aH => exact (by rw [List.length_set]; exact hi)
          case aM => rw [List.getElem_set_self]; rfl
          intro w5 hk hg
          have hk2 : Kd.R kCI 31 w5 0 ok (.slice (some ⟨g, 0, none⟩) (Lr.set i { x with ha := A2, hc := c2, H := L2 }).length c) ((Lr.set i { x with ha := A2, hc := c2, H := L2 }).set i { x with ver := n + 1, ha := A2, hc := c2, H := L2 }) := hk
          have HR5 : Aside0 (RefB w5 q (some ⟨g, 0, none⟩) c (n + 1) ((Lr.set i { x with ha := A2, hc := c2, H := L2 }).set i { x with ver := n + 1, ha := A2, hc := c2, H := L2 }) ok) := Aside0.mk (HR4.out.drew.setX hk2 hg ⟨(HR4.out.drew.rows { x with ha := A2, hc := c2, H := L2 } (List.mem_set hi _)).hr, (HR4.out.drew.rows { x with ha := A2, hc := c2, H := L2 } (List.mem_set hi _)).br⟩); have K5 := Aside0.mk (Keep.of_grown hg (Keep.drew K4.out) (fun k e => .inl (.inr ⟨_, rfl, (Option.some.inj e).symm⟩))); clear hk hk2 hg
          refine hK.out _ _ ?_
          clear hK K
          refine done_ (by kernel_rfl) ?_
          go_wp2
          go_ret
          refine ⟨rfl, some ⟨g, 0, none⟩, c, (Lr.set i { x with ha := A2, hc := c2, H := L2 }).set i { x with ver := n + 1, ha := A2, hc := c2, H := L2 }, HR5.out, ?_, K5.out, fun ad e => .inl (.inr ⟨ad, e, rfl⟩)⟩
          rw [List.set_set, List.map_set]
          show (Lr.map CI.pure).set i _ = _
          rw [show insR who x.H = L2 from HINS.out.trans LL2.out.symm, ← K6_.out]
          rfl
end Go.Proofs.Ytmankbhlgjgnbaa.PAll
