import Derived.Test.YthgdeoacplcceaaDoorPAllx0
namespace Go.Proofs.YthgdeoacplcceaaDoor.PAll
open Go.RowKit Go.Proofs.YthgdeoacplcceaaDoorW.PrintWords Go.Proofs.YthgdeoacplcceaaDoorW.PrintLast Go.Proofs.YthgdeoacplcceaaDoorW.PrintMore
set_option linter.unusedVariables false
set_option linter.unusedSimpArgs false

/-- May the byte stand at this place of a name? -/
def nmOk (s : ByteArray) (i : Int) : Bool :=
  (decide (97 ≤ bt s i) && decide (bt s i ≤ 122)) || (!(i == 0) && (bt s i == 46 || bt s i == 45 || (decide (48 ≤ bt s i) && decide (bt s i ≤ 57))))
/-- Are the first bytes fine? -/
def nmAll (s : ByteArray) : Nat → Bool
  | 0 => true
  | n + 1 => nmAll s n && nmOk s n
theorem nmAll_false {s : ByteArray} {i : Nat} (h : nmOk s i = false) : ∀ n, i < n → nmAll s n = false
  | 0, hn => absurd hn (by omega)
  | n + 1, hn => by
    unfold nmAll
    by_cases e : i = n
    · subst e
      rw [h, Bool.and_false]
    · rw [nmAll_false h n (by omega), Bool.false_and]
def valset_Name.f (a0 : ByteArray) : Option Bool :=
  if a0.size ≤ 9223372036854775806 then some (nmAll a0 a0.size && (decide (0 < a0.size) && decide (a0.size ≤ 16))) else none
theorem toList_length (s : ByteArray) : s.toList.length = s.size := by
  rw [ByteArray.toList_eq, data_length]
theorem toList_nil {s : ByteArray} (h : s.size = 0) : s.toList = [] := List.eq_nil_of_length_eq_zero (by rw [toList_length]; exact h)
theorem toList_some {s : ByteArray} (h : ¬ s.size = 0) : (!s.toList.isEmpty) = true := by
  have := toList_length s
  cases e : s.toList with
  | nil => rw [e] at this; exact absurd this.symm h
  | cons x l => rfl
theorem nm_ret {a b : Bool} (h : a = b) : Ending.returned (.bool a) = .returned (.bool b) := by rw [h]

set_option maxHeartbeats 2000000 in
theorem valset_Name.calls (a0 : ByteArray) (r : Bool) (w : World) (h : valset_Name.f a0 = some r) :
    Calls Tryd.prog 16 #[.string a0] w fun e w' => e = .returned (.bool r) ∧ Below w.heap.size w w' := by
  unfold valset_Name.f at h
  by_cases hs : a0.size ≤ 9223372036854775806
  · rw [if_pos hs] at h
    have HR := Aside0.mk (Option.some.inj h)
    clear h
    have HB := Aside0.mk (bytes_below (Below.refl w.heap.size w) (Nat.le_refl _) 5 a0)
    have HC : ∀ j, j < a0.size → (Lib.bytesWorld w 5 a0).cell? ⟨w.heap.size, j, none⟩ = some (.int .u8 (bt a0 j)) := by
      intro j hj
      rw [Lib.bytesWorld_cell w _ a0 j hj]
      have h' : j < a0.data.toList.length := by rw [data_length]; exact hj
      simp [bt, List.getD_eq_getElem?_getD, List.getElem?_eq_getElem h', hj]
      rfl
    have HC' := Aside0.mk HC
    clear HC
    have kb := fun W => print_bytes (P := Tryd.prog) 9 24 5 Tryd.underlying9 Tryd.underlying24 Tryd.underlying5 a0 W
    go_enter Tryd.func16, Tryd.ntmps16
    go_wp2
    generalize Lib.bytesWorld w 5 a0 = W1 at HB HC' ⊢
    go_loopg [9] a0.size (fun k v w' => ∃ i : Nat, v = .int .i64 i ∧ i + k = a0.size ∧ Aside0 (nmAll a0 i = true) ∧ w' = W1)
    case atStart => exact ⟨0, rfl, by omega, ⟨rfl⟩, rfl⟩
    case round =>
      obtain ⟨i, rfl, hik, HA, rfl⟩ := hrel
      by_cases hlt : i < a0.size
      · have hc := HC'.out i hlt
        have hb := bt_range a0 i
        have hk : nmOk a0 i = ((decide (97 ≤ bt a0 i) && decide (bt a0 i ≤ 122)) || (!((i : Int) == 0) && (bt a0 i == 46 || bt a0 i == 45 || (decide (48 ≤ bt a0 i) && decide (bt a0 i ≤ 57))))) := rfl
        generalize bt a0 i = c at hc hb hk
        have HK := Aside0.mk hk
        clear hk
        by_cases hok : nmOk a0 i = true
        · have HN : Aside0 (nmAll a0 (i + 1) = true) := ⟨by unfold nmAll; rw [HA.out, hok]; rfl⟩
          have hok2 := HK.out.symm.trans hok
          clear hok HK HA
          by_cases h1 : 97 ≤ c ∧ c ≤ 122
          · obtain ⟨h1, h2⟩ := h1
            clear hok2
            go_wp2
            go_roundg (gk - 1)
            case measure => omega
            case rel => exact ⟨i + 1, by go_num, by omega, HN, rfl⟩
          · have hi : ((i : Int) == 0) = false := by
              rw [beq_eq_false_iff_ne]
              intro h0
              rw [h0] at hok2
              simp at hok2
              omega
            have hi0 : (0 : Int) < i := by
              have := beq_eq_false_iff_ne.1 hi
              omega
            have hcc : c = 46 ∨ c = 45 ∨ (48 ≤ c ∧ c ≤ 57) := by
              simp [hi] at hok2
              omega
            clear hok2
            rcases hcc with rfl | rfl | ⟨h3, h4⟩
            · go_wp2
              go_roundg (gk - 1)
              case measure => omega
              case rel => exact ⟨i + 1, by go_num, by omega, HN, rfl⟩
            · go_wp2
              go_roundg (gk - 1)
              case measure => omega
              case rel => exact ⟨i + 1, by go_num, by omega, HN, rfl⟩
            · have n1 : (c == 46) = false := by rw [beq_eq_false_iff_ne]; omega
              have n2 : (c == 45) = false := by rw [beq_eq_false_iff_ne]; omega
              have n3 : (c != 46) = true := by rw [bne_iff_ne]; omega
              have n4 : (c != 45) = true := by rw [bne_iff_ne]; omega
              go_wp2
              go_roundg (gk - 1)
              case measure => omega
              case rel => exact ⟨i + 1, by go_num, by omega, HN, rfl⟩
        · have hok1 : nmOk a0 i = false := by simpa using hok
          have HN : Aside0 (false = r) := ⟨by rw [← HR.out, nmAll_false hok1 a0.size hlt]; rfl⟩
          have hok2 := HK.out.symm.trans hok1
          clear hok hok1 HK HA HR
          have h1 : c < 97 ∨ 122 < c := by
            simp at hok2
            omega
          by_cases hi : i = 0
          · subst hi
            clear hok2
            rcases h1 with h1 | h1
            · go_wp2
              go_ret
              exact ⟨nm_ret HN.out, HB.out⟩
            · have d1 : decide (c ≤ 122) = false := decide_eq_false (by omega)
              have d2 : 97 ≤ c := by omega
              go_wp2
              go_ret
              exact ⟨nm_ret HN.out, HB.out⟩
          · have hi0 : ((i : Int) == 0) = false := by rw [beq_eq_false_iff_ne]; omega
            have hcc : c ≠ 46 ∧ c ≠ 45 ∧ (c < 48 ∨ 57 < c) := by
              simp [hi] at hok2
              omega
            obtain ⟨h5, h6, h7⟩ := hcc
            have n1 : (c == 46) = false := by rw [beq_eq_false_iff_ne]; omega
            have n2 : (c == 45) = false := by rw [beq_eq_false_iff_ne]; omega
            have n3 : (c != 46) = true := by rw [bne_iff_ne]; omega
            have n4 : (c != 45) = true := by rw [bne_iff_ne]; omega
            clear hok2 h5 h6
            have e7 : decide (c < 48) = true ∨ decide (c < 48) = false ∧ decide (57 < c) = true := by
              rcases h7 with h7 | h7
              · exact .inl (decide_eq_true h7)
              · exact .inr ⟨decide_eq_false (by omega), decide_eq_true h7⟩
            have e1 : decide (97 ≤ c) = false ∨ decide (97 ≤ c) = true ∧ decide (c ≤ 122) = false := by
              rcases h1 with h1 | h1
              · exact .inl (decide_eq_false (by omega))
              · exact .inr ⟨decide_eq_true (by omega), decide_eq_false (by omega)⟩
            clear h1 h7
            rcases e1 with e1 | ⟨e1, e2⟩ <;> rcases e7 with e7 | ⟨e7, e8⟩
            · go_wp2
              go_ret
              exact ⟨nm_ret HN.out, HB.out⟩
            · go_wp2
              go_ret
              exact ⟨nm_ret HN.out, HB.out⟩
            · go_wp2
              go_ret
              exact ⟨nm_ret HN.out, HB.out⟩
            · go_wp2
              go_ret
              exact ⟨nm_ret HN.out, HB.out⟩
      · have hge : i = a0.size := by omega
        have HN : Aside0 ((decide (0 < a0.size) && decide (a0.size ≤ 16)) = r) := ⟨by rw [← HR.out, ← hge, HA.out]; rfl⟩
        clear HA HR hge
        by_cases h0 : a0.size = 0
        · have e0 : a0.toList = [] := toList_nil h0
          have HN2 : Aside0 (false = r) := ⟨by rw [← HN.out, h0]; rfl⟩
          clear h0 HN
          go_wp2
          go_ret
          exact ⟨nm_ret HN2.out, HB.out⟩
        · have e0 : (!a0.toList.isEmpty) = true := toList_some h0
          have e1 : ¬ a0.toList = [] := fun e => by rw [e] at e0; cases e0
          have HN2 : Aside0 (decide (a0.size ≤ 16) = r) := ⟨by rw [← HN.out, decide_eq_true (show 0 < a0.size by omega)]; rfl⟩
          clear h0 HN
          go_wp2
          go_ret
          exact ⟨nm_ret (by rw [← HN2.out]; simp; omega), HB.out⟩
  · rw [if_neg hs] at h
    cases h
end Go.Proofs.YthgdeoacplcceaaDoor.PAll
