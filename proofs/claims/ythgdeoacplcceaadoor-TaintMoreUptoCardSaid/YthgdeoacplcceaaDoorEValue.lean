import Derived.Test.YthgdeoacplcceaaDoorEName
import Derived.Test.YthgdeoacplcceaaDoorEVars
import Derived.Test.YthgdeoacplcceaaDoorEShelf
import Derived.Lib.ItoaNum
import Derived.Lib.ParseIntB
import Derived.Lib.AppendIntMem
namespace Go.Proofs.YthgdeoacplcceaaDoor.PAll
open Go.RowKit Go.Proofs.YthgdeoacplcceaaDoorW.PrintWords Go.Proofs.YthgdeoacplcceaaDoorW.PrintLast Go.Proofs.YthgdeoacplcceaaDoorW.PrintMore
set_option linter.unusedVariables false
set_option linter.unusedSimpArgs false
/-! ### what the library does -/
theorem parse_ok (s : ByteArray) (hs : s.size ≤ 281474976710656) (v : Int) (h : Lib.parseIntB 64 s.data.toList = .ok v) (w : World) :
    Calls Tryd.prog 31 #[.string s, .int .i64 10, .int .i64 64] w fun e w' => e = .returned (.tuple #[.int .i64 v, .nilIface]) ∧ Below w.heap.size w w' := by
  refine (Tryd.strconv_ParseInt_10_at64_ok s (by omega) v h w).mono fun e w' ⟨he, hw⟩ => ⟨he, ?_⟩
  rcases hw with rfl | ⟨t, rfl⟩
  · exact Below.refl _ _
  · exact bytes_below (Below.refl _ _) (Nat.le_refl _) _ t
theorem parse_bad (s : ByteArray) (hs : s.size ≤ 281474976710656) (h : ∀ v, Lib.parseIntB 64 s.data.toList ≠ .ok v) (w : World) (hg : Vars w) :
    Calls Tryd.prog 31 #[.string s, .int .i64 10, .int .i64 64] w fun e w' => (∃ v t p, e = .returned (.tuple #[.int .i64 v, .iface t p])) ∧ Below w.heap.size w w' := by
  obtain ⟨t1, p1, e1⟩ := hg.syn
  obtain ⟨t2, p2, e2⟩ := hg.ran
  cases hp : Lib.parseIntB 64 s.data.toList
  case ok v => exact absurd hp (h v)
  all_goals first
    | exact (Any.strconv_ParseInt_10_at64_syntax Tryd.laysC174 s hs hp _ w e1 (.inr ⟨_, _, rfl⟩)).mono fun e w' ⟨N, he, _, _, hb⟩ => ⟨⟨_, _, _, he⟩, hb⟩
    | exact (Any.strconv_ParseInt_10_at64_range Tryd.laysC174 s hs hp _ w e2 (.inr ⟨_, _, rfl⟩)).mono fun e w' ⟨N, he, _, _, hb⟩ => ⟨⟨_, _, _, he⟩, hb⟩
theorem format_ten (n : Int) (h0 : -9223372036854775808 ≤ n) (h1 : n ≤ 9223372036854775807) (w : World) (hg : Vars w) :
    Calls Tryd.prog 32 #[.int .i64 n, .int .i64 10] w fun e w' => e = .returned (.string ⟨(Lib.itoa n).toArray⟩) ∧ Below w.heap.size w w' := by
  refine (Any.strconv_FormatInt_10 Tryd.laysM173 n h0 h1 w hg.tab).mono fun e w' ⟨he, k, os, hw⟩ => ⟨he, ?_⟩
  subst hw
  exact Go.Lib.below_grow _ _ (Nat.le_refl _) _ _
/-! ### the functions -/
/-- The number that a text says. -/
def numberV (s : ByteArray) : Option Int := match Lib.parseIntB 64 s.data.toList with
  | .ok n => if -2147483648 ≤ n ∧ n ≤ 2147483648 ∧ Lib.itoa n = s.data.toList then some n else none
  | _ => none
def valueB (s : ByteArray) : Bool := (numberV s).isSome || (nmAll s s.size && (decide (0 < s.size) && decide (s.size ≤ 16)))
set_option maxHeartbeats 1000000 in
theorem valset_Number.calls (s : ByteArray) (hs : s.size ≤ 281474976710656) (w : World) (hg : Vars w) :
    Calls Tryd.prog 25 #[.string s] w fun e w' => e = .returned (.tuple #[.int .i64 ((numberV s).getD 0), .bool (numberV s).isSome]) ∧ Below w.heap.size w w' := by
  obtain ⟨o, ho⟩ : ∃ o, o = numberV s := ⟨_, rfl⟩
  rw [← ho]
  unfold numberV at ho
  have HV := Aside0.mk hg
  clear hg
  cases hp : Lib.parseIntB 64 s.data.toList with
  | ok n =>
    have HP := Aside0.mk (parse_ok s hs n hp w)
    rw [hp] at ho
    dsimp only at ho
    clear hp
    by_cases h1 : n < -2147483648
    · rw [if_neg (by omega)] at ho
      subst ho
      go_enter Tryd.func25, Tryd.ntmps25
      go_wp2_with (go_at_call 31; refine HP.out.mono ?_; rintro e w2 ⟨rfl, hb2⟩; have HB2 := Aside0.mk hb2; clear hb2)
      go_ret2
      exact ⟨rfl, HB2.out⟩
    · by_cases h2 : n > 2147483648
      · rw [if_neg (by omega)] at ho
        subst ho
        go_enter Tryd.func25, Tryd.ntmps25
        go_wp2_with (go_at_call 31; refine HP.out.mono ?_; rintro e w2 ⟨rfl, hb2⟩; have HB2 := Aside0.mk hb2; clear hb2)
        go_ret2
        exact ⟨rfl, HB2.out⟩
      · have HF := fun W (hW : Vars W) => Aside0.mk (format_ten n (by omega) (by omega) W hW)
        have HF' := Aside0.mk HF
        clear HF
        by_cases h3 : Lib.itoa n = s.data.toList
        · rw [if_pos ⟨by omega, by omega, h3⟩] at ho
          subst ho
          have h4 : (⟨(Lib.itoa n).toArray⟩ : ByteArray) = s := ByteArray.ext (Array.ext' h3)
          clear h3
          rw [h4] at HF'
          clear h4
          go_enter Tryd.func25, Tryd.ntmps25
          go_wp2_with (first | (go_at_call 31; refine HP.out.mono ?_; rintro e w2 ⟨rfl, hb2⟩; have HB2 := Aside0.mk hb2; clear hb2) | (go_at_call 32; refine (HF'.out _ (Vars_below HV.out HB2.out)).out.mono ?_; rintro e w3 ⟨rfl, hb3⟩; have HB3 := Aside0.mk (below_then HB2.out HB2.out.size hb3); clear hb3))
          go_ret2
          exact ⟨rfl, HB3.out⟩
        · rw [if_neg (fun h => h3 h.2.2)] at ho
          subst ho
          obtain ⟨z, hz⟩ : ∃ z : ByteArray, z = ⟨(Lib.itoa n).toArray⟩ := ⟨_, rfl⟩
          have h4 : ¬ z = s := fun h => h3 (by rw [← h, hz])
          have h5 : (z.toList == s.toList) = false := beq_eq_false_iff_ne.2 (fun h => h4 (ByteArray.ext (Array.ext' (by rw [← ByteArray.toList_eq, ← ByteArray.toList_eq]; exact h))))
          rw [← hz] at HF'
          clear hz h3
          go_enter Tryd.func25, Tryd.ntmps25
          go_wp2_with (first | (go_at_call 31; refine HP.out.mono ?_; rintro e w2 ⟨rfl, hb2⟩; have HB2 := Aside0.mk hb2; clear hb2) | (go_at_call 32; refine (HF'.out _ (Vars_below HV.out HB2.out)).out.mono ?_; rintro e w3 ⟨rfl, hb3⟩; have HB3 := Aside0.mk (below_then HB2.out HB2.out.size hb3); clear hb3))
          all_goals first
            | (go_ret2; exact ⟨rfl, HB3.out⟩)
            | (exfalso; rename_i h; rw [h5] at h; exact absurd h.2 (by decide))
  | _ =>
    have HP := Aside0.mk (parse_bad s hs (by rw [hp]; intro v h; cases h) w HV.out)
    rw [hp] at ho
    dsimp only at ho
    subst ho
    clear hp
    go_enter Tryd.func25, Tryd.ntmps25
    go_wp2_with (go_at_call 31; refine HP.out.mono ?_; rintro e w2 ⟨⟨v, t, p, rfl⟩, hb2⟩; have HB2 := Aside0.mk hb2; clear hb2)
    go_ret2
    exact ⟨rfl, HB2.out⟩
def valset_Value.f (a0 : ByteArray) : Option Bool := if a0.size ≤ 281474976710656 then some (valueB a0) else none
theorem valset_Value.calls (a0 : ByteArray) (r : Bool) (w : World) (hg : Vars w) (h : valset_Value.f a0 = some r) :
    Calls Tryd.prog 17 #[.string a0] w fun e w' => e = .returned (.bool r) ∧ Below w.heap.size w w' := by
  unfold valset_Value.f at h
  split at h
  · rename_i hs
    obtain rfl := Option.some.inj h
    have HN := Aside0.mk (valset_Number.calls a0 hs w hg)
    have HM := Aside0.mk (fun W => valset_Name.calls a0 (nmAll a0 a0.size && (decide (0 < a0.size) && decide (a0.size ≤ 16))) W (by unfold valset_Name.f; rw [if_pos (by omega)]))
    clear hg
    unfold valueB
    generalize (nmAll a0 a0.size && (decide (0 < a0.size) && decide (a0.size ≤ 16))) = nm at HM
    cases hn : numberV a0 with
    | some n =>
      rw [hn] at HN
      go_enter Tryd.func17, Tryd.ntmps17
      go_wp2_with (go_at_call 25; refine HN.out.mono ?_; rintro e w2 ⟨rfl, hb2⟩; have HB2 := Aside0.mk hb2; clear hb2)
      go_ret
      exact ⟨rfl, HB2.out⟩
    | none =>
      rw [hn] at HN
      go_enter Tryd.func17, Tryd.ntmps17
      go_wp2_with (first | (go_at_call 25; refine HN.out.mono ?_; rintro e w2 ⟨rfl, hb2⟩; have HB2 := Aside0.mk hb2; clear hb2) | (go_at_call 16; refine (HM.out _).mono ?_; rintro e w3 ⟨rfl, hb3⟩; have HB3 := Aside0.mk (below_then HB2.out HB2.out.size hb3); clear hb3))
      go_ret
      exact ⟨by rfl, HB3.out⟩
  · cases h
end Go.Proofs.YthgdeoacplcceaaDoor.PAll
