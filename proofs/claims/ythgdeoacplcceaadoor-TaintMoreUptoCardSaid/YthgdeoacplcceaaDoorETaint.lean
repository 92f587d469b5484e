import Derived.Test.YthgdeoacplcceaaDoorEFn
import Derived.Test.YthgdeoacplcceaaDoorEMem
import Derived.Test.YthgdeoacplcceaaDoorEValue
namespace Go.Proofs.YthgdeoacplcceaaDoor.PAll
open Go.RowKit Go.Proofs.YthgdeoacplcceaaDoorW.PrintWords Go.Proofs.YthgdeoacplcceaaDoorW.PrintLast Go.Proofs.YthgdeoacplcceaaDoorW.PrintMore Mem
set_option linter.unusedVariables false
set_option linter.unusedSimpArgs false

theorem Blk_below {W W' : World} {g : Nat} {cur : List Value} {t : TypeId} (h : Blk W g cur t) (hb : Below W.heap.size W W') : Blk W' g cur t := (hb.block g h.lt).trans h
def sameKey (t : S26) (x : S26) : Bool := x.f0.toList == t.f0.toList
theorem same_one (x t : S26) (g : Nat) (w : World) (h0 : w.cell? ⟨g, 0, none⟩ = some (.string t.f0)) :
    Calls Tryd.prog 19 #[.agg #[.string x.f0, .string x.f1], .pointer (some ⟨g, 0, none⟩)] w fun e w' => e = .returned (.bool (sameKey t x)) ∧ Below w.heap.size w w' := by
  have hu26 := Tryd.underlying26
  obtain ⟨a0, a1⟩ := x
  obtain ⟨b0, b1⟩ := t
  have hb := below_alloc (Below.refl w.heap.size w) (.cells #[.string a0, .string a1] 26)
  have k0 : (w.alloc (.cells #[.string a0, .string a1] 26)).cell? ⟨g, 0, none⟩ = some (.string b0) := (hb.cell (World.block_lt_of_cell? w _ h0)).trans h0
  have HB := Aside0.mk hb
  clear hb h0
  have hm : sameKey ⟨b0, b1⟩ ⟨a0, a1⟩ = (a0.toList == b0.toList) := rfl
  rw [hm]
  go_enter Tryd.func19, Tryd.ntmps19
  go_wp2
  go_ret
  exact ⟨rfl, HB.out⟩

def nameV (s : ByteArray) : Bool := nmAll s s.size && (decide (0 < s.size) && decide (s.size ≤ 16))
def tGo : List S26 → List S26 → Int
  | _, [] => 0
  | p, t :: r => if nameV t.f0 = false then 7 else if valueB t.f1 = false then 20 else if p.any (sameKey t) = true then 6 else tGo (p ++ [t]) r
def taintsV (l : List S26) : Int := if l.length > 4 then 3 else tGo [] l
def shortL (l : List S26) : Prop := ∀ t ∈ l, t.f0.size ≤ 281474976710656 ∧ t.f1.size ≤ 281474976710656
instance (l : List S26) : Decidable (shortL l) := by unfold shortL; infer_instance
def taint_Check.f (l0 : List S26) : Option Int := if shortL l0 then some (taintsV l0) else none
theorem take_succ_ {α : Type} (l : List α) (i : Nat) (h : i < l.length) : l.take (i + 1) = l.take i ++ [l[i]] := by
  rw [List.take_add_one, List.getElem?_eq_getElem h]
  rfl

set_option maxHeartbeats 2000000 in
theorem taint_Check.calls (A0 : Option Addr) (c0 : Nat) (l0 : List S26) (r : Int) (w : World) (hr0 : Kd.C k26 w A0 l0.length l0) (hc0 : l0.length ≤ c0) (hg : Vars w) (h : taint_Check.f l0 = some r) :
    Calls Tryd.prog 8 #[.slice A0 l0.length c0] w fun e w' => e = .returned (.int .i64 r) ∧ Below w.heap.size w w' := by
  unfold taint_Check.f at h
  split at h
  · rename_i hsm
    have hv := Option.some.inj h
    clear h
    have HS := Aside0.mk hsm
    have HV := Aside0.mk hg
    have HR := Aside0.mk hr0
    have hu26 := Tryd.underlying26
    clear hsm hg hr0
    unfold taintsV at hv
    by_cases h4 : l0.length > 4
    · rw [if_pos h4] at hv
      subst hv
      have h4i : (l0.length : Int) > 4 := by omega
      go_enter Tryd.func8, Tryd.ntmps8
      go_wp2
      go_ret
      exact ⟨rfl, Below.refl _ _⟩
    · rw [if_neg h4] at hv
      have h4i : ¬ (4 : Int) < (l0.length : Int) := by omega
      have HVR := Aside0.mk hv
      clear hv
      go_enter Tryd.func8, Tryd.ntmps8
      go_wp2
      go_loopg [10] l0.length (fun k v w' => ∃ i : Nat, v = .int .i64 i ∧ i + k = l0.length ∧ Aside0 (tGo [] l0 = tGo (l0.take i) (l0.drop i)) ∧ Aside0 (Below w.heap.size w w'))
      case atStart => exact ⟨0, rfl, by omega, ⟨rfl⟩, ⟨Below.refl _ _⟩⟩
      case round =>
        obtain ⟨i, rfl, hik, HG, HB⟩ := hrel
        by_cases hlt : i < l0.length
        · obtain ⟨ad, rfl, c0_, c1_⟩ := cells_label HR.out i hlt
          have up : ∀ {a : Addr} {v : Value}, w.cell? a = some v → wr.cell? a = some v := fun {a v} h => (HB.out.cell (World.block_lt_of_cell? w _ h)).trans h
          replace c0_ := up c0_
          replace c1_ := up c1_
          clear up
          have HSM := Aside0.mk (HS.out l0[i] (List.getElem_mem hlt))
          have hstep : tGo [] l0 = tGo (l0.take i) (l0[i] :: l0.drop (i + 1)) := by rw [HG.out, List.drop_eq_getElem_cons hlt]
          rw [tGo, ← take_succ_ l0 i hlt] at hstep
          obtain ⟨t, ht⟩ : ∃ t, t = l0[i] := ⟨_, rfl⟩
          rw [← ht] at c0_ c1_ hstep HSM
          have HST := Aside0.mk hstep
          clear hstep ht HG
          obtain ⟨W1, hW1⟩ : ∃ W1, W1 = wr.alloc (.cells #[.string t.f0, .string t.f1] 26) := ⟨_, rfl⟩
          have hB1 : Below w.heap.size w W1 := hW1 ▸ below_alloc HB.out _
          have hK1 : Blk W1 wr.heap.size [.string t.f0, .string t.f1] 26 := hW1 ▸ Blk.alloc_new wr _ _
          have HB1 := Aside0.mk hB1
          have HK1 := Aside0.mk hK1
          have HW1 := Aside0.mk hW1
          have HN1 := Aside0.mk (valset_Name.calls t.f0 (nameV t.f0) W1 (by unfold valset_Name.f; rw [if_pos (by have := HSM.out.1; omega)]; rfl))
          have HV1 : ∀ W, Vars W → Aside0 (Calls Tryd.prog 17 #[.string t.f1] W fun e w' => e = .returned (.bool (valueB t.f1)) ∧ Below W.heap.size W w') := fun W hW => ⟨valset_Value.calls t.f1 (valueB t.f1) W hW (by unfold valset_Value.f; rw [if_pos HSM.out.2])⟩
          have HV2 := Aside0.mk HV1
          have hD : ∀ W3, Below w.heap.size w W3 → Blk W3 wr.heap.size [.string t.f0, .string t.f1] 26 → Calls Tryd.prog 18 #[.slice (some ad) i c0, .func (.func 19) #[] #[.pointer (some ⟨wr.heap.size, 0, none⟩)]] W3 fun e w' => e = .returned (.bool ((l0.take i).any (sameKey t))) ∧ Below W3.heap.size W3 w' := fun W3 hb3 hk3 => by
            have k0 := hk3.cell 0
            have h := contains_label 19 _ Tryd.func19 (by kernel_rfl) rfl #[.pointer (some ⟨wr.heap.size, 0, none⟩)] (some ad) c0 (l0.take i) W3 (Kd.C_take (Kd.C_below HR.out hb3) (by omega)) (by rw [List.length_take]; omega) (sameKey t) (fun W hW x => same_one x t wr.heap.size W ((hW.cell (World.block_lt_of_cell? _ _ k0)).trans k0))
            rwa [show (l0.take i).length = i by rw [List.length_take]; omega] at h
          have HD := Aside0.mk hD
          clear hB1 hK1 hW1 HSM HV1 hD
          have hic : (i : Int) ≤ (c0 : Int) := by omega
          cases n0 : nameV t.f0 with
          | false =>
            rw [n0] at HN1
            have hres : r = 7 := by rw [← HVR.out, HST.out, n0]; rfl
            have HRES := Aside0.mk hres
            clear hres n0
            go_wp2_with fail
            rw [← HW1.out]
            clear HW1
            go_wp2_with (go_at_call 16; refine HN1.out.mono ?_; rintro e w2 ⟨rfl, hb2⟩; have HB2 := Aside0.mk (below_then HB1.out HB1.out.size hb2); have HK2 := Aside0.mk (Blk_below HK1.out hb2); have d1 := HK2.out.cell 1; clear hb2)
            go_ret
            exact ⟨by rw [HRES.out]; rfl, HB2.out⟩
          | true =>
            rw [n0] at HN1
            have h1 := HST.out
            rw [n0, if_neg (by decide)] at h1
            cases n1 : valueB t.f1 with
            | false =>
              rw [n1] at HV2
              have hres : r = 20 := by rw [← HVR.out, h1, n1]; rfl
              have HRES := Aside0.mk hres
              clear hres n0 n1 h1
              go_wp2_with fail
              rw [← HW1.out]
              clear HW1
              go_wp2_with (first | (go_at_call 16; refine HN1.out.mono ?_; rintro e w2 ⟨rfl, hb2⟩; have HB2 := Aside0.mk (below_then HB1.out HB1.out.size hb2); have HK2 := Aside0.mk (Blk_below HK1.out hb2); have d1 := HK2.out.cell 1; clear hb2) | (go_at_call 17; refine (HV2.out _ (Vars_below HV.out HB2.out)).out.mono ?_; rintro e w3 ⟨rfl, hb3⟩; have HB3 := Aside0.mk (below_then HB2.out HB2.out.size hb3); have HK3 := Aside0.mk (Blk_below HK2.out hb3); clear hb3))
              go_ret
              exact ⟨by rw [HRES.out]; rfl, HB3.out⟩
            | true =>
              rw [n1] at HV2
              rw [n1, if_neg (by decide)] at h1
              cases n2 : (l0.take i).any (sameKey t) with
              | true =>
                rw [n2] at HD
                have hres : r = 6 := by rw [← HVR.out, h1, n2]; rfl
                have HRES := Aside0.mk hres
                clear hres n0 n1 n2 h1
                go_wp2_with fail
                rw [← HW1.out]
                clear HW1
                go_wp2_with (first | (go_at_call 16; refine HN1.out.mono ?_; rintro e w2 ⟨rfl, hb2⟩; have HB2 := Aside0.mk (below_then HB1.out HB1.out.size hb2); have HK2 := Aside0.mk (Blk_below HK1.out hb2); have d1 := HK2.out.cell 1; clear hb2) | (go_at_call 17; refine (HV2.out _ (Vars_below HV.out HB2.out)).out.mono ?_; rintro e w3 ⟨rfl, hb3⟩; have HB3 := Aside0.mk (below_then HB2.out HB2.out.size hb3); have HK3 := Aside0.mk (Blk_below HK2.out hb3); clear hb3) | (go_at_call 18; refine (HD.out _ HB3.out HK3.out).mono ?_; rintro e w4 ⟨rfl, hb4⟩; have HB4 := Aside0.mk (below_then HB3.out HB3.out.size hb4); clear hb4))
                go_ret
                exact ⟨by rw [HRES.out]; rfl, HB4.out⟩
              | false =>
                rw [n2] at HD
                rw [n2, if_neg (by decide)] at h1
                have HG2 := Aside0.mk h1
                clear n0 n1 n2 h1
                go_wp2_with fail
                rw [← HW1.out]
                clear HW1
                go_wp2_with (first | (go_at_call 16; refine HN1.out.mono ?_; rintro e w2 ⟨rfl, hb2⟩; have HB2 := Aside0.mk (below_then HB1.out HB1.out.size hb2); have HK2 := Aside0.mk (Blk_below HK1.out hb2); have d1 := HK2.out.cell 1; clear hb2) | (go_at_call 17; refine (HV2.out _ (Vars_below HV.out HB2.out)).out.mono ?_; rintro e w3 ⟨rfl, hb3⟩; have HB3 := Aside0.mk (below_then HB2.out HB2.out.size hb3); have HK3 := Aside0.mk (Blk_below HK2.out hb3); clear hb3) | (go_at_call 18; refine (HD.out _ HB3.out HK3.out).mono ?_; rintro e w4 ⟨rfl, hb4⟩; have HB4 := Aside0.mk (below_then HB3.out HB3.out.size hb4); clear hb4))
                go_roundg (gk - 1)
                case measure => omega
                case rel => exact ⟨i + 1, by go_num, by omega, HG2, HB4⟩
        · have hil : i = l0.length := by omega
          have hres : r = 0 := by
            rw [← HVR.out, HG.out, hil, List.drop_length]
            cases l0.take l0.length <;> rfl
          have HRES := Aside0.mk hres
          clear hres
          go_wp2
          go_ret
          exact ⟨by rw [HRES.out]; rfl, HB.out⟩
  · cases h
end Go.Proofs.YthgdeoacplcceaaDoor.PAll
