import Derived.Test.YtmankbhlgjgnbaaPAllx1
import Derived.Test.YtmankbhlgjgnbaaEEv
/-! What the binary search answers on a list of texts in their order. -/
set_option linter.unusedVariables false
set_option linter.unusedSimpArgs false
namespace Go.Proofs.Ytmankbhlgjgnbaa.PAll
open Go.RowKit Go.Proofs.YtmankbhlgjgnbaaW.PrintWords
def tlt (a b : ByteArray) : Prop := a.data.toList < b.data.toList
instance (a b : ByteArray) : Decidable (tlt a b) := inferInstanceAs (Decidable (a.data.toList < b.data.toList))
theorem tlt_trans {a b c : ByteArray} (h : tlt a b) (k : tlt b c) : tlt a c := List.lt_trans h k
theorem tlt_irrefl (a : ByteArray) : ¬ tlt a a := List.lt_irrefl _
theorem tlt_tri {a b : ByteArray} (h : ¬ tlt a b) (hne : a ≠ b) : tlt b a := ll_tri h (fun e => hne (bytes_ext e))
def Srt (l : List ByteArray) : Prop := l.Pairwise tlt
theorem srt_at {l : List ByteArray} (hS : Srt l) {i j : Nat} (hi : i < l.length) (hj : j < l.length) (hij : i < j) : tlt l[i] l[j] := List.pairwise_iff_getElem.1 hS i j hi hj hij
/-- Where the text belongs in a list that rises. -/
structure TPos (l : List ByteArray) (c : ByteArray) (p : Nat) : Prop where
  le : p ≤ l.length
  lo : ∀ j (h : j < l.length), j < p → tlt l[j] c
  hi : ∀ j (h : j < l.length), p ≤ j → ¬ tlt l[j] c
theorem tmid_eq {lo hi : Nat} (h : lo + hi ≤ 9223372036854775807) : wrap64 ((IntKind.u64.wrap (wrap64 ((lo : Int) + (hi : Int)))) / 2) = (((lo + hi) / 2 : Nat) : Int) := by
  have h0 : wrap64 ((lo : Int) + (hi : Int)) = (lo : Int) + (hi : Int) := Go.IntWalk.wrap64_in _ (by omega)
  have h1 : IntKind.u64.wrap ((lo : Int) + (hi : Int)) = (lo : Int) + (hi : Int) := by
    rw [IntKind.wrap_u64]
    omega
  rw [h0, h1, Go.IntWalk.wrap64_in _ (by omega)]
  omega
theorem trd_nat (l : List ByteArray) (i : Nat) (h : i < l.length) : rdOf ByteArray.empty l (i : Int) = l[i] := by
  unfold rdOf
  rw [Int.toNat_natCast]
  rw [List.getD_eq_getElem?_getD, List.getElem?_eq_getElem h]
  rfl
theorem less_f (a b : ByteArray) : cmp_Less_string.f a b = some (decide (tlt a b)) := by
  unfold cmp_Less_string.f cmp_isNaN_string.f
  have : (a.toList != a.toList) = false := bne_self_eq_false _
  rw [this, Option.bind_some, if_neg (by decide), ByteArray.toList_eq, ByteArray.toList_eq, bytesLess_eq]
  rfl
theorem nan_f (a : ByteArray) : slices_isNaN_string.f a = some false := by
  unfold slices_isNaN_string.f
  rw [bne_self_eq_false]
theorem bs_loop (l : List ByteArray) (c : ByteArray) (hS : Srt l) (hl : l.length ≤ 4611686018427387903) : ∀ d lo hi : Nat, hi - lo = d → lo ≤ hi → hi ≤ l.length → (∀ j (h : j < l.length), j < lo → tlt l[j] c) → (∀ j (h : j < l.length), hi ≤ j → ¬ tlt l[j] c) →
    ∃ p, TPos l c p ∧ ∃ f : Bool, (f = true ↔ ∃ h : p < l.length, l[p] = c) ∧ Ev (fun k => slices_BinarySearch_string_string.l0 k l c (l.length : Int) (lo : Int) (hi : Int)) ((p : Int), f) := by
  intro d
  induction d using Nat.strongRecOn with
  | _ d ih =>
    intro lo hi hd hlh hhn hlo hhi
    by_cases hlt : lo < hi
    · have hm : (lo + hi) / 2 < l.length := by omega
      by_cases hk : tlt l[(lo + hi) / 2] c
      · obtain ⟨p, hP, f, hf, hE⟩ := ih (hi - ((lo + hi) / 2 + 1)) (by omega) ((lo + hi) / 2 + 1) hi rfl (by omega) hhn (fun j h hj => by
          rcases Nat.lt_or_ge j ((lo + hi) / 2) with h1 | h1
          · exact tlt_trans (srt_at hS h hm h1) hk
          · obtain rfl : j = (lo + hi) / 2 := by omega
            exact hk) hhi
        refine ⟨p, hP, f, hf, Ev.succ ?_⟩
        simp only [slices_BinarySearch_string_string.l0, if_pos (show (lo : Int) < (hi : Int) by omega), tmid_eq (show lo + hi ≤ 9223372036854775807 by omega), if_pos (show (0 : Int) ≤ (((lo + hi) / 2 : Nat) : Int) by omega), if_pos (show (((lo + hi) / 2 : Nat) : Int) < (l.length : Int) by omega), trd_nat l ((lo + hi) / 2) hm, w_succ (show (lo + hi) / 2 + 1 ≤ 9223372036854775807 by omega), less_f, Option.bind_some, decide_eq_true hk, if_true]
        exact hE
      · obtain ⟨p, hP, f, hf, hE⟩ := ih ((lo + hi) / 2 - lo) (by omega) lo ((lo + hi) / 2) rfl (by omega) (by omega) hlo (fun j h hj => by
          rcases Nat.lt_or_ge ((lo + hi) / 2) j with h1 | h1
          · exact fun h2 => hk (tlt_trans (srt_at hS hm h h1) h2)
          · obtain rfl : j = (lo + hi) / 2 := by omega
            exact hk)
        refine ⟨p, hP, f, hf, Ev.succ ?_⟩
        simp only [slices_BinarySearch_string_string.l0, if_pos (show (lo : Int) < (hi : Int) by omega), tmid_eq (show lo + hi ≤ 9223372036854775807 by omega), if_pos (show (0 : Int) ≤ (((lo + hi) / 2 : Nat) : Int) by omega), if_pos (show (((lo + hi) / 2 : Nat) : Int) < (l.length : Int) by omega), trd_nat l ((lo + hi) / 2) hm, w_succ (show (lo + hi) / 2 + 1 ≤ 9223372036854775807 by omega), less_f, Option.bind_some, decide_eq_false hk, Bool.false_eq_true, if_false]
        exact hE
    · obtain rfl : lo = hi := by omega
      by_cases hn : lo < l.length
      · by_cases he : l[lo] = c
        · refine ⟨lo, ⟨hhn, hlo, hhi⟩, true, Iff.intro (fun _ => ⟨hn, he⟩) (fun _ => rfl), Ev.succ ?_⟩
          simp only [slices_BinarySearch_string_string.l0, if_neg (show ¬ (lo : Int) < (lo : Int) by omega), if_pos (show (lo : Int) < (l.length : Int) by omega), if_pos (show (0 : Int) ≤ (lo : Int) by omega), trd_nat l lo hn, he, if_true]
          exact Ev.const _
        · refine ⟨lo, ⟨hhn, hlo, hhi⟩, false, Iff.intro (fun h => by cases h) (fun ⟨_, h⟩ => absurd h he), Ev.succ ?_⟩
          have he2 : ¬ l[lo].toList = c.toList := fun e => he (by rw [ByteArray.toList_eq, ByteArray.toList_eq] at e; exact bytes_ext e)
          simp only [slices_BinarySearch_string_string.l0, if_neg (show ¬ (lo : Int) < (lo : Int) by omega), if_pos (show (lo : Int) < (l.length : Int) by omega), if_pos (show (0 : Int) ≤ (lo : Int) by omega), trd_nat l lo hn, if_neg he2, nan_f, Option.bind_some, Bool.false_eq_true, if_false]
          exact Ev.const _
      · refine ⟨lo, ⟨hhn, hlo, hhi⟩, false, ?_, Ev.succ ?_⟩
        · constructor
          · intro h
            cases h
          · rintro ⟨h, _⟩
            exact absurd h hn
        · simp only [slices_BinarySearch_string_string.l0, if_neg (show ¬ (lo : Int) < (lo : Int) by omega), if_neg (show ¬ (lo : Int) < (l.length : Int) by omega)]
          exact Ev.const _
theorem tpos_mem {l : List ByteArray} {c : ByteArray} {p : Nat} (hS : Srt l) (hP : TPos l c p) : (∃ h : p < l.length, l[p] = c) ↔ c ∈ l := by
  constructor
  · rintro ⟨h, rfl⟩
    exact List.getElem_mem h
  · intro hm
    obtain ⟨j, hj, rfl⟩ := List.getElem_of_mem hm
    have h1 : ¬ j < p := fun h => tlt_irrefl _ (hP.lo j hj h)
    have h2 : ¬ p < j := fun h => hP.hi p (by omega) (Nat.le_refl _) (srt_at hS (by omega) hj h)
    obtain rfl : p = j := by omega
    exact ⟨hj, rfl⟩
def hasS (c : ByteArray) (l : List ByteArray) : Bool := l.any fun x => decide (x = c)
theorem hasS_iff (c : ByteArray) (l : List ByteArray) : hasS c l = true ↔ c ∈ l := by
  simp [hasS]
theorem bs_run (l : List ByteArray) (c : ByteArray) (hS : Srt l) (hl : l.length ≤ 1000) : ∃ k p, TPos l c p ∧ slices_BinarySearch_string_string.f k l c = some ((p : Int), hasS c l) := by
  obtain ⟨p, hP, f, hf, hE⟩ := bs_loop l c hS (by omega) _ 0 l.length rfl (Nat.zero_le _) (Nat.le_refl _) (fun j _ h => absurd h (Nat.not_lt_zero _)) (fun j h h2 => absurd h2 (by omega))
  obtain ⟨k, hk⟩ := hE.get
  refine ⟨k, p, hP, ?_⟩
  have : f = hasS c l := by
    rw [tpos_mem hS hP] at hf
    rw [← hasS_iff] at hf
    exact Bool.eq_iff_iff.2 hf
  rw [← this]
  exact hk

/-- The text, laid among them; and taken from them. -/
def insS (c : ByteArray) : List ByteArray → List ByteArray
  | [] => [c]
  | x :: r => if tlt x c then x :: insS c r else c :: x :: r
def remS (c : ByteArray) : List ByteArray → List ByteArray
  | [] => []
  | x :: r => if x = c then r else x :: remS c r
theorem insS_at : ∀ (l : List ByteArray) (c : ByteArray) (p : Nat), TPos l c p → l.take p ++ [c] ++ l.drop p = insS c l
  | [], c, p, hP => by
    have h0 : p = 0 := by have := hP.le; simpa using this
    subst h0
    rfl
  | x :: r, c, 0, hP => by
    have h1 : ¬ tlt x c := hP.hi 0 (by simp) (Nat.le_refl _)
    unfold insS
    rw [if_neg h1]
    rfl
  | x :: r, c, p + 1, hP => by
    have h1 : tlt x c := hP.lo 0 (by simp) (by omega)
    have hP2 : TPos r c p := ⟨by have := hP.le; simp at this; omega, fun j h hj => hP.lo (j + 1) (by simp; omega) (by omega), fun j h hj => hP.hi (j + 1) (by simp; omega) (by omega)⟩
    unfold insS
    rw [if_pos h1, ← insS_at r c p hP2]
    rfl
theorem remS_at : ∀ (l : List ByteArray) (c : ByteArray) (p : Nat), TPos l c p → (∃ h : p < l.length, l[p] = c) → l.take p ++ l.drop (p + 1) = remS c l
  | [], c, p, hP, ⟨h, _⟩ => absurd h (Nat.not_lt_zero _)
  | x :: r, c, 0, hP, ⟨_, h⟩ => by
    have h1 : x = c := h
    unfold remS
    rw [if_pos h1]
    rfl
  | x :: r, c, p + 1, hP, ⟨h, e⟩ => by
    have h1 : tlt x c := hP.lo 0 (by simp) (by omega)
    have hne : ¬ x = c := fun e2 => tlt_irrefl c (by rw [e2] at h1; exact h1)
    have hP2 : TPos r c p := ⟨by have := hP.le; simp at this; omega, fun j h hj => hP.lo (j + 1) (by simp; omega) (by omega), fun j h hj => hP.hi (j + 1) (by simp; omega) (by omega)⟩
    unfold remS
    rw [if_neg hne, ← remS_at r c p hP2 ⟨by simp at h; omega, e⟩]
    rfl
theorem insS_mem (c x : ByteArray) : ∀ l : List ByteArray, x ∈ insS c l ↔ x = c ∨ x ∈ l
  | [] => by simp [insS]
  | y :: r => by
    unfold insS
    split
    · rw [List.mem_cons, insS_mem c x r, List.mem_cons]
      constructor
      · rintro (h | h | h)
        · exact .inr (.inl h)
        · exact .inl h
        · exact .inr (.inr h)
      · rintro (h | h | h)
        · exact .inr (.inl h)
        · exact .inl h
        · exact .inr (.inr h)
    · rw [List.mem_cons]
theorem insS_len (c : ByteArray) : ∀ l : List ByteArray, (insS c l).length = l.length + 1
  | [] => rfl
  | y :: r => by
    unfold insS
    split
    · rw [List.length_cons, insS_len c r, List.length_cons]
    · rfl
theorem insS_srt (c : ByteArray) : ∀ l : List ByteArray, Srt l → c ∉ l → Srt (insS c l)
  | [], _, _ => List.pairwise_singleton _ _
  | y :: r, hS, hn => by
    have h := List.pairwise_cons.1 hS
    unfold insS
    split
    · rename_i hy
      refine List.pairwise_cons.2 ⟨fun z hz => ?_, insS_srt c r h.2 (fun hm => hn (by simp [hm]))⟩
      rcases (insS_mem c z r).1 hz with rfl | hz
      · exact hy
      · exact h.1 z hz
    · rename_i hy
      have hcy : tlt c y := tlt_tri hy (fun e => hn (by simp [e]))
      refine List.pairwise_cons.2 ⟨fun z hz => ?_, hS⟩
      rcases List.mem_cons.1 hz with rfl | hz
      · exact hcy
      · exact tlt_trans hcy (h.1 z hz)
theorem remS_sub (c : ByteArray) : ∀ l : List ByteArray, (remS c l).Sublist l
  | [] => List.Sublist.refl _
  | y :: r => by
    unfold remS
    split
    · exact List.sublist_cons_self _ _
    · exact (remS_sub c r).cons_cons _
theorem remS_srt (c : ByteArray) {l : List ByteArray} (h : Srt l) : Srt (remS c l) := List.Pairwise.sublist (remS_sub c l) h
theorem remS_len (c : ByteArray) : ∀ l : List ByteArray, c ∈ l → (remS c l).length + 1 = l.length
  | [], h => by cases h
  | y :: r, h => by
    unfold remS
    split
    · rfl
    · rename_i hy
      rcases List.mem_cons.1 h with h | h
      · exact absurd h.symm hy
      · rw [List.length_cons, remS_len c r h, List.length_cons]
theorem remS_mem (c x : ByteArray) : ∀ l : List ByteArray, x ≠ c → x ∈ l → x ∈ remS c l
  | [], _, h => h
  | y :: r, hne, h => by
    unfold remS
    split
    · rename_i hy
      rcases List.mem_cons.1 h with h | h
      · exact absurd (h.trans hy) hne
      · exact h
    · rcases List.mem_cons.1 h with h | h
      · simp [h]
      · exact List.mem_cons.2 (.inr (remS_mem c x r hne h))
end Go.Proofs.Ytmankbhlgjgnbaa.PAll
