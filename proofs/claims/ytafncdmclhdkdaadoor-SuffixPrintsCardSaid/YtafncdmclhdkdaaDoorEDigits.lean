import Derived.Test.YtafncdmclhdkdaaDoorSDig
import Derived.Test.YtafncdmclhdkdaaDoorEVars
import Derived.Test.YtafncdmclhdkdaaDoorEShelf
import Derived.Lib.AppendIntMem
namespace Go.Proofs.YtafncdmclhdkdaaDoor.PAll
open Go.RowKit Go.Proofs.YtafncdmclhdkdaaDoorW.PrintWords Go.Proofs.YtafncdmclhdkdaaDoorW.PrintLast Go.Proofs.YtafncdmclhdkdaaDoorW.PrintMore
set_option linter.unusedVariables false
set_option linter.unusedSimpArgs false
/-! ### what the library does with numerals -/
theorem parse_ok (s : ByteArray) (hs : s.size ≤ 281474976710656) (v : Int) (h : Lib.parseIntB 64 s.data.toList = .ok v) (w : World) :
    Calls Tryd.prog 39 #[.string s, .int .i64 10, .int .i64 64] w fun e w' => e = .returned (.tuple #[.int .i64 v, .nilIface]) ∧ Below w.heap.size w w' := by
  refine (Tryd.strconv_ParseInt_10_at64_ok s (by omega) v h w).mono fun e w' ⟨he, hw⟩ => ⟨he, ?_⟩
  rcases hw with rfl | ⟨t, rfl⟩
  · exact Below.refl _ _
  · exact bytes_below (Below.refl _ _) (Nat.le_refl _) _ t
theorem parse_max {l : List UInt8} {v : Int} (h : Lib.parseIntB 64 l = .ok v) : v ≤ 9223372036854775807 := by
  unfold Lib.parseIntB at h
  have e : (2 : Nat) ^ (64 - 1) = 9223372036854775808 := by decide
  split at h
  · cases h
  · dsimp only at h
    split at h
    · cases h
    · cases h
    · rename_i u _
      rw [e] at h
      split at h
      · cases h
      · split at h
        · cases h
        · injection h with h
          subst h
          split <;> omega
/-- What comes with an error. -/
def parseE (l : List UInt8) : Int := match Lib.parseIntB 64 l with
  | .ok n => n
  | .range => Lib.intSat 64 l
  | _ => 0
theorem parse_bad (s : ByteArray) (hs : s.size ≤ 281474976710656) (h : ∀ v, Lib.parseIntB 64 s.data.toList ≠ .ok v) (w : World) (hg : Vars w) :
    Calls Tryd.prog 39 #[.string s, .int .i64 10, .int .i64 64] w fun e w' => (∃ t p, e = .returned (.tuple #[.int .i64 (parseE s.data.toList), .iface t p])) ∧ Below w.heap.size w w' := by
  obtain ⟨t1, p1, e1⟩ := hg.syn
  obtain ⟨t2, p2, e2⟩ := hg.ran
  unfold parseE
  cases hp : Lib.parseIntB 64 s.data.toList
  case ok v => exact absurd hp (h v)
  all_goals first
    | exact (Any.strconv_ParseInt_10_at64_syntax Tryd.laysC174 s hs hp _ w e1 (.inr ⟨_, _, rfl⟩)).mono fun e w' ⟨N, he, _, _, hb⟩ => ⟨⟨_, _, he⟩, hb⟩
    | exact (Any.strconv_ParseInt_10_at64_range Tryd.laysC174 s hs hp _ w e2 (.inr ⟨_, _, rfl⟩)).mono fun e w' ⟨N, he, _, _, hb⟩ => ⟨⟨_, _, he⟩, hb⟩
theorem uparse_ok (s : ByteArray) (hs : s.size ≤ 281474976710656) (v : Nat) (h : Lib.parseUintB 64 s.data.toList = .ok v) (w : World) :
    Calls Tryd.prog 26 #[.string s, .int .i64 10, .int .i64 64] w fun e w' => e = .returned (.tuple #[.int .u64 v, .nilIface]) ∧ Below w.heap.size w w' := by
  refine (Tryd.strconv_ParseUint_10_at64_ok s (by omega) v h w).mono fun e w' ⟨he, hw⟩ => ⟨he, ?_⟩
  rcases hw with rfl | rfl
  · exact Below.refl _ _
  · exact bytes_below (Below.refl _ _) (Nat.le_refl _) _ s
theorem uparse_bad (s : ByteArray) (hs : s.size ≤ 281474976710656) (h : ∀ v, Lib.parseUintB 64 s.data.toList ≠ .ok v) (w : World) (hg : Vars w) :
    Calls Tryd.prog 26 #[.string s, .int .i64 10, .int .i64 64] w fun e w' => (∃ v t p, e = .returned (.tuple #[.int .u64 v, .iface t p])) ∧ Below w.heap.size w w' := by
  obtain ⟨t1, p1, e1⟩ := hg.syn
  obtain ⟨t2, p2, e2⟩ := hg.ran
  cases hp : Lib.parseUintB 64 s.data.toList
  case ok v => exact absurd hp (h v)
  all_goals first
    | exact (Any.strconv_ParseUint_10_at64_syntax Tryd.laysPu14 s hs hp _ w e1 (.inr ⟨_, _, rfl⟩)).mono fun e w' ⟨N, he, _, _, hb⟩ => ⟨⟨_, _, _, he⟩, hb⟩
    | exact (Any.strconv_ParseUint_10_at64_range Tryd.laysPu14 s hs hp _ w e2 (.inr ⟨_, _, rfl⟩)).mono fun e w' ⟨N, he, _, _, hb⟩ => ⟨⟨_, _, _, he⟩, hb⟩
theorem format_ten (n : Int) (h0 : -9223372036854775808 ≤ n) (h1 : n ≤ 9223372036854775807) (w : World) (hg : Vars w) :
    Calls Tryd.prog 29 #[.int .i64 n, .int .i64 10] w fun e w' => e = .returned (.string ⟨(Lib.itoa n).toArray⟩) ∧ Below w.heap.size w w' := by
  refine (Any.strconv_FormatInt_10 Tryd.laysM173 n h0 h1 w hg.tab).mono fun e w' ⟨he, k, os, hw⟩ => ⟨he, ?_⟩
  subst hw
  exact Go.Lib.below_grow _ _ (Nat.le_refl _) _ _
/-! ### FormatInt, of what is not below nought -/
def strconv_FormatInt.f (a0 : Int) (a1 : Int) : Option ByteArray := if 0 ≤ a0 ∧ a0 ≤ 9223372036854775807 ∧ a1 = 10 then some ⟨(decF 20 a0.toNat).toArray⟩ else none
theorem strconv_FormatInt.calls (a0 : Int) (a1 : Int) (r : ByteArray) (w : World) (hg : Vars w) (h : strconv_FormatInt.f a0 a1 = some r) :
    Calls Tryd.prog 29 #[.int .i64 a0, .int .i64 a1] w fun e w' => e = .returned (.string r) ∧ Below w.heap.size w w' := by
  unfold strconv_FormatInt.f at h
  split at h
  · rename_i hc
    obtain ⟨h0, h1, rfl⟩ := hc
    obtain rfl := Option.some.inj h
    refine (format_ten a0 (by omega) h1 w hg).mono fun e w' ⟨he, hb⟩ => ⟨he.trans ?_, hb⟩
    obtain ⟨n, rfl⟩ : ∃ n : Nat, a0 = (n : Int) := ⟨a0.toNat, by omega⟩
    rw [itoa_nat, Int.toNat_natCast, decF_eq 20 n (by omega) (by decide)]
  · cases h
/-! ### the digits -/
/-- What digits say; and whether they are any. -/
def digitsV (l : List UInt8) : Int × Bool := if l.length > 18 then (0, false) else if lean_ l = true then (digF 0 l, true) else (parseE l, false)
theorem digitsV_dec {u : Nat} (h : u < 1000000000000000000) : digitsV (Lib.decDigits u) = ((u : Int), true) := by
  unfold digitsV
  have := decDigits_len 17 u (by omega)
  rw [if_neg (by omega), if_pos (lean_dec u), digF_dec]
theorem digitsV_true {l : List UInt8} (h : (digitsV l).2 = true) : l.length ≤ 18 ∧ lean_ l = true ∧ (digitsV l).1 = digF 0 l ∧ l = Lib.decDigits (digF 0 l) ∧ digF 0 l < 1000000000000000000 := by
  unfold digitsV at *
  split at h
  · cases h
  · rename_i h1
    split at h
    · rename_i h2
      rw [if_neg h1, if_pos h2]
      have e := decDigits_digF l.length l rfl h2
      exact ⟨by omega, h2, rfl, e.symm, lean_dec_len (by rw [e]; omega)⟩
    · cases h
def suffix_digits.f (a0 : ByteArray) : Option (Int × Bool) := if a0.size ≤ 281474976710656 then some (digitsV a0.data.toList) else none
set_option maxHeartbeats 1000000 in
theorem suffix_digits.calls (a0 : ByteArray) (r1 : Int) (r2 : Bool) (w : World) (hg : Vars w) (h : suffix_digits.f a0 = some (r1, r2)) :
    Calls Tryd.prog 23 #[.string a0] w fun e w' => e = .returned (.tuple #[.int .i64 r1, .bool r2]) ∧ Below w.heap.size w w' := by
  unfold suffix_digits.f at h
  split at h
  case isFalse => cases h
  rename_i hs
  have h := Option.some.inj h
  have HV := Aside0.mk hg
  clear hg
  have hsz : a0.size = a0.data.toList.length := Lib.size_eq a0
  obtain ⟨l, hl⟩ : ∃ l, l = a0.data.toList := ⟨_, rfl⟩
  rw [← hl] at h hsz
  by_cases h18 : l.length > 18
  · unfold digitsV at h
    rw [if_pos h18] at h
    obtain ⟨rfl, rfl⟩ := Prod.mk.inj h
    have hlt : (18 : Int) < (a0.size : Int) := by omega
    clear hl
    go_enter Tryd.func23, Tryd.ntmps23
    go_wp2
    go_ret2
    exact ⟨rfl, Below.refl _ _⟩
  · have hlt : ¬ (18 : Int) < (a0.size : Int) := by omega
    by_cases hn : lean_ l = true
    · have hp := parse_lean l hn (by omega)
      have e := decDigits_digF l.length l rfl hn
      have hu : digF 0 l < 1000000000000000000 := lean_dec_len (by rw [e]; omega)
      unfold digitsV at h
      rw [if_neg h18, if_pos hn] at h
      obtain ⟨rfl, rfl⟩ := Prod.mk.inj h
      generalize hgn : digF 0 l = n at hp e hu
      have HP := Aside0.mk (parse_ok a0 hs (n : Int) (by rw [← hl]; exact hp) w)
      have HF := Aside0.mk (fun W (hW : Vars W) => Aside0.mk (format_ten (n : Int) (by omega) (by omega) W hW))
      have e2 : (⟨(Lib.itoa (n : Int)).toArray⟩ : ByteArray) = a0 := by
        rw [itoa_nat, e, hl]
      rw [e2] at HF
      clear hp e hl e2 hgn hn
      have hn0 : ¬ (n : Int) < 0 := by omega
      go_enter Tryd.func23, Tryd.ntmps23
      go_wp2_with (first | (go_at_call 39; refine HP.out.mono ?_; rintro e w2 ⟨rfl, hb2⟩; have HB2 := Aside0.mk hb2; clear hb2) | (go_at_call 29; refine (HF.out _ (Vars_below HV.out HB2.out)).out.mono ?_; rintro e w3 ⟨rfl, hb3⟩; have HB3 := Aside0.mk (below_then HB2.out HB2.out.size hb3); clear hb3))
      go_ret2
      exact ⟨rfl, HB3.out⟩
    · unfold digitsV at h
      rw [if_neg h18, if_neg hn] at h
      obtain ⟨rfl, rfl⟩ := Prod.mk.inj h
      cases hp : Lib.parseIntB 64 l with
      | ok v =>
        have hE : parseE l = v := by unfold parseE; rw [hp]
        rw [hE]
        have HP := Aside0.mk (parse_ok a0 hs v (by rw [← hl]; exact hp) w)
        by_cases hv : v < 0
        · clear hp hl hE
          go_enter Tryd.func23, Tryd.ntmps23
          go_wp2_with (go_at_call 39; refine HP.out.mono ?_; rintro e w2 ⟨rfl, hb2⟩; have HB2 := Aside0.mk hb2; clear hb2)
          go_ret2
          exact ⟨rfl, HB2.out⟩
        · obtain ⟨n, rfl⟩ : ∃ n : Nat, v = (n : Int) := ⟨v.toNat, by omega⟩
          have hmax : (n : Int) ≤ 9223372036854775807 := parse_max hp
          have HF := Aside0.mk (fun W (hW : Vars W) => Aside0.mk (format_ten (n : Int) (by omega) hmax W hW))
          obtain ⟨z, hz⟩ : ∃ z : ByteArray, z = ⟨(Lib.itoa (n : Int)).toArray⟩ := ⟨_, rfl⟩
          have h4 : ¬ z = a0 := by
            intro h
            rw [hz, itoa_nat] at h
            refine hn ?_
            rw [hl, ← h]
            exact lean_dec n
          have h5 : (z.toList == a0.toList) = false := beq_eq_false_iff_ne.2 (fun h => h4 (ByteArray.ext (Array.ext' (by rw [← ByteArray.toList_eq, ← ByteArray.toList_eq]; exact h))))
          rw [← hz] at HF
          clear hz hp hl hE hn hmax
          go_enter Tryd.func23, Tryd.ntmps23
          go_wp2_with (first | (go_at_call 39; refine HP.out.mono ?_; rintro e w2 ⟨rfl, hb2⟩; have HB2 := Aside0.mk hb2; clear hb2) | (go_at_call 29; refine (HF.out _ (Vars_below HV.out HB2.out)).out.mono ?_; rintro e w3 ⟨rfl, hb3⟩; have HB3 := Aside0.mk (below_then HB2.out HB2.out.size hb3); clear hb3))
          go_ret2
          exact ⟨by simp [h5], HB3.out⟩
      | _ =>
        have HP := Aside0.mk (parse_bad a0 hs (by rw [← hl, hp]; intro v h; cases h) w HV.out)
        rw [← hl] at HP
        clear hp hl
        generalize parseE l = v at HP
        go_enter Tryd.func23, Tryd.ntmps23
        go_wp2_with (go_at_call 39; refine HP.out.mono ?_; rintro e w2 ⟨⟨t, p, rfl⟩, hb2⟩; have HB2 := Aside0.mk hb2; clear hb2)
        go_ret2
        exact ⟨rfl, HB2.out⟩
end Go.Proofs.YtafncdmclhdkdaaDoor.PAll
