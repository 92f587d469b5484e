import Derived.Test.YtafncdmclhdkdaaDoorEDigits
import Derived.Test.YtafncdmclhdkdaaDoorETimes
import Derived.Lib.IndexLaws
import Derived.Shelf.RegionOpenPlain
namespace Go.Proofs.YtafncdmclhdkdaaDoor.PAll
open Go.RowKit Go.Proofs.YtafncdmclhdkdaaDoorW.PrintWords Go.Proofs.YtafncdmclhdkdaaDoorW.PrintLast Go.Proofs.YtafncdmclhdkdaaDoorW.PrintMore
set_option linter.unusedVariables false
set_option linter.unusedSimpArgs false
/-! ### the point -/
theorem index_dot (s : ByteArray) (w : World) :
    Calls Tryd.prog 56 #[.string s, .string ⟨#[46]⟩] w fun e w' => e = .returned (.int .i64 (Lib.indexByte s.data.toList 46)) ∧ w' = w := by
  go_enter Tryd.func56, Tryd.ntmps56
  go_wp2_with (go_at_call 75; refine (Tryd.stringslite_IndexByte _ _ _).mono ?_; rintro e w' ⟨rfl, rfl⟩)
  · have h : ([46] == s.toList) = true := by assumption
    go_ret
    refine ⟨?_, rfl⟩
    have e : s.data.toList = [46] := by rw [← Lib.toList_data]; exact (beq_iff_eq.1 h).symm
    rw [e]
    rfl
  · go_ret
    exact ⟨rfl, rfl⟩
/-- What stands ahead of the first point, what behind it; and whether there is one. -/
def dotL (l : List UInt8) : List UInt8 := l.takeWhile (fun c => c != 46)
def restL (l : List UInt8) : List UInt8 := (l.dropWhile (fun c => c != 46)).drop 1
def point (l : List UInt8) : Bool := l.any (fun c => c == 46)
theorem index_point : ∀ l : List UInt8, (point l = false ∧ Lib.indexByte l 46 = -1 ∧ dotL l = l) ∨ (point l = true ∧ Lib.indexByte l 46 = ((dotL l).length : Int) ∧ l = dotL l ++ 46 :: restL l)
  | [] => .inl ⟨rfl, rfl, rfl⟩
  | c :: r => by
    by_cases hc : c = 46
    · subst hc
      exact .inr ⟨rfl, rfl, rfl⟩
    · have h1 : (c == 46) = false := by simpa using hc
      have h2 : (c != 46) = true := by simpa using hc
      unfold point dotL restL Lib.indexByte
      have t1 : (c :: r).takeWhile (fun c => c != 46) = c :: r.takeWhile (fun c => c != 46) := List.takeWhile_cons_of_pos (p := fun c : UInt8 => c != 46) h2
      have t2 : (c :: r).dropWhile (fun c => c != 46) = r.dropWhile (fun c => c != 46) := List.dropWhile_cons_of_pos (p := fun c : UInt8 => c != 46) h2
      rw [List.any_cons, t1, t2, h1, Bool.false_or]
      rcases index_point r with ⟨e1, e2, e3⟩ | ⟨e1, e2, e3⟩
      · left
        refine ⟨e1, ?_, ?_⟩
        · rw [e2]; rfl
        · unfold dotL at e3; rw [e3]
      · right
        refine ⟨e1, ?_, ?_⟩
        · rw [e2]
          unfold dotL
          rw [if_neg (by simp), if_neg (by simp), List.length_cons]
          omega
        · unfold dotL restL at e3
          rw [List.cons_append, ← e3]
theorem cut_dot (s : ByteArray) (w : World) (hs : s.size ≤ 281474976710656) :
    Calls Tryd.prog 25 #[.string s, .string ⟨#[46]⟩] w fun e w' => e = .returned (.tuple #[.string ⟨(dotL s.data.toList).toArray⟩, .string ⟨(if point s.data.toList = true then restL s.data.toList else []).toArray⟩, .bool (point s.data.toList)]) ∧ Below w.heap.size w w' := by
  have inner : Calls Tryd.prog 40 #[.string s, .string ⟨#[46]⟩] w fun e w' => e = .returned (.tuple #[.string ⟨(dotL s.data.toList).toArray⟩, .string ⟨(if point s.data.toList = true then restL s.data.toList else []).toArray⟩, .bool (point s.data.toList)]) ∧ Below w.heap.size w w' := by
    have HI := Aside0.mk (index_dot s w)
    rcases index_point s.data.toList with ⟨e1, e2, e3⟩ | ⟨e1, e2, e3⟩
    · rw [e1, e3]
      rw [e2] at HI
      have es : (⟨s.data.toList.toArray⟩ : ByteArray) = s := rfl
      rw [es]
      clear e1 e2 e3 es
      go_enter Tryd.func40, Tryd.ntmps40
      go_wp2_with (go_at_call 56; refine HI.out.mono ?_; rintro e w' ⟨rfl, rfl⟩)
      go_ret3
      exact ⟨rfl, Below.refl _ _⟩
    · have hl := congrArg List.length e3
      rw [List.length_append, List.length_cons, ← Lib.size_eq] at hl
      have x1 : s.extract 0 (dotL s.data.toList).length = ⟨(dotL s.data.toList).toArray⟩ := by
        have h := Lib.extract_mk s.data.toList 0 (dotL s.data.toList).length
        refine h.trans ?_
        rw [List.drop_zero, Nat.sub_zero]
        refine congrArg (fun l : List UInt8 => (⟨l.toArray⟩ : ByteArray)) ?_
        refine (congrArg (List.take (dotL s.data.toList).length) e3).trans ?_
        exact List.take_left
      have x2 : s.extract ((dotL s.data.toList).length + 1) s.size = ⟨(restL s.data.toList).toArray⟩ := by
        have h := Lib.extract_mk s.data.toList ((dotL s.data.toList).length + 1) s.size
        refine h.trans ?_
        rw [List.take_of_length_le (by rw [List.length_drop, ← Lib.size_eq]; exact Nat.le_refl _)]
        refine congrArg (fun l : List UInt8 => (⟨l.toArray⟩ : ByteArray)) ?_
        refine (congrArg (List.drop ((dotL s.data.toList).length + 1)) e3).trans ?_
        rw [← List.drop_drop, List.drop_left]
        rfl
      rw [e1, if_pos rfl]
      rw [e2] at HI
      rw [← x1, ← x2]
      clear x1 x2 e1 e2 e3
      generalize (dotL s.data.toList).length = i at *
      have c1 : (0 : Int) ≤ ↑i := by omega
      have c2 : (↑i : Int) ≤ ↑s.size := by omega
      have c3 : (0 : Int) ≤ ↑i + 1 := by omega
      have c4 : (↑i + 1 : Int) ≤ ↑s.size := by omega
      have c5 : wrap64 ((i : Int) + 1) = (i : Int) + 1 := by unfold wrap64; omega
      have mixed : Tryd.prog.follows Departure.mixedOrders = true := by kernel_rfl
      clear hl
      go_enter Tryd.func40, Tryd.ntmps40
      go_wp2_with (go_at_call 56; refine HI.out.mono ?_; rintro e w' ⟨rfl, rfl⟩)
      go_region_o
      go_wp2
      go_ret3
      exact ⟨by first | rfl | simp [*], by repeat (first | exact Below.refl _ _ | apply below_drew1 | apply pw_below_drewN)⟩
  generalize (⟨(dotL s.data.toList).toArray⟩ : ByteArray) = x at *
  generalize (⟨(if point s.data.toList = true then restL s.data.toList else []).toArray⟩ : ByteArray) = y at *
  generalize point s.data.toList = b at *
  go_enter Tryd.func25, Tryd.ntmps25
  go_wp2_with (go_at_call 40; refine inner.mono ?_; rintro e w' ⟨rfl, hb⟩; have HB := Aside0.mk hb; clear hb)
  go_ret3
  exact ⟨rfl, HB.out⟩
/-! ### dollars -/
def totalV (n : Int) (part : Int) : Int × Int := if n > 1125899906842624 / 1000000 then (0, 10) else if n * 1000000 > 1125899906842624 - part then (0, 10) else (n * 1000000 + part, 0)
/-- What the digits behind the point say, in millionths. -/
def fracV (l : List UInt8) : Option Nat := match Lib.parseUintB 64 (l ++ List.replicate (6 - l.length) 48) with
  | .ok u => some u
  | _ => none
def moneyV (l : List UInt8) : Int × Int :=
  if (digitsV (dotL l)).2 = false then (0, 20) else if point l = true then (if restL l = [] ∨ 6 < (restL l).length then (0, 20) else match fracV (restL l) with
    | some u => totalV (digitsV (dotL l)).1 u
    | none => (0, 20)) else totalV (digitsV (dotL l)).1 0
theorem repeat_noughts : ∀ c : Nat, Lib.repeatL [48] c = List.replicate c 48
  | 0 => rfl
  | c + 1 => by rw [Lib.repeatL, repeat_noughts c]; rfl
theorem fracV_some {l : List UInt8} {u : Nat} (hl : l.length ≤ 6) (h : fracV l = some u) : (∀ c ∈ l, isDig c) ∧ u = digF 0 (l ++ List.replicate (6 - l.length) 48) ∧ u < 1000000 := by
  unfold fracV at h
  cases hp : Lib.parseUintB 64 (l ++ List.replicate (6 - l.length) 48) with
  | ok v =>
    rw [hp] at h
    obtain rfl := Option.some.inj h
    unfold Lib.parseUintB at hp
    split at hp
    · cases hp
    · obtain ⟨h1, h2⟩ := parseU_digs _ _ _ _ hp
      refine ⟨fun c hc => h1 c (by simp [hc]), h2, ?_⟩
      have h3 := digF_lt _ 0 h1
      rw [← h2, List.length_append, List.length_replicate, show l.length + (6 - l.length) = 6 by omega] at h3
      omega
  | _ => rw [hp] at h; cases h
theorem w_small {u : Nat} (hu : u < 1000000) : wrap64 (u : Int) = (u : Int) := by unfold wrap64; omega
theorem w_rest {u : Nat} (hu : u < 1000000) : wrap64 (1125899906842624 - (u : Int)) = 1125899906842624 - (u : Int) := by unfold wrap64; omega
theorem w_total {n : Int} {u : Nat} (h0 : 0 ≤ n) (h : n * 1000000 ≤ 1125899906842624) (hu : u < 1000000) : wrap64 (n * 1000000 + (u : Int)) = n * 1000000 + (u : Int) := by unfold wrap64; omega
def suffix_ParseMoney.f (a0 : ByteArray) : Option (Int × Int) := if a0.size ≤ 281474976710656 then some (moneyV a0.data.toList) else none
theorem digits_bound (l : List UInt8) (h : (digitsV l).2 = true) : 0 ≤ (digitsV l).1 ∧ (digitsV l).1 < 1000000000000000000 := by
  obtain ⟨_, _, e, _, hb⟩ := digitsV_true h
  omega
set_option maxHeartbeats 4000000 in
theorem suffix_ParseMoney.calls (a0 : ByteArray) (r1 : Int) (r2 : Int) (w : World) (hg : Vars w) (h : suffix_ParseMoney.f a0 = some (r1, r2)) :
    Calls Tryd.prog 10 #[.string a0] w fun e w' => e = .returned (.tuple #[.int .i64 r1, .int .i64 r2]) ∧ Below w.heap.size w w' := by
  unfold suffix_ParseMoney.f at h
  split at h
  case isFalse => cases h
  rename_i hs
  have h := Option.some.inj h
  have HV := Aside0.mk hg
  clear hg
  have hC := cut_dot a0 w hs
  have hlx : (dotL a0.data.toList).length ≤ a0.size ∧ (restL a0.data.toList).length ≤ a0.size := by
    rw [Lib.size_eq]
    rcases index_point a0.data.toList with ⟨_, _, e⟩ | ⟨_, _, e⟩
    · refine ⟨by rw [e]; exact Nat.le_refl _, ?_⟩
      unfold restL
      rw [List.length_drop]
      have := (List.dropWhile_sublist (l := a0.data.toList) (fun c => c != 46)).length_le
      omega
    · have := congrArg List.length e
      rw [List.length_append, List.length_cons] at this
      omega
  unfold moneyV at h
  generalize a0.data.toList = l at h hC hlx
  have hD : ∀ W, Vars W → Calls Tryd.prog 23 #[.string ⟨(dotL l).toArray⟩] W fun e w' => e = .returned (.tuple #[.int .i64 (digitsV (dotL l)).1, .bool (digitsV (dotL l)).2]) ∧ Below W.heap.size W w' := fun W hW =>
    suffix_digits.calls _ _ _ W hW (by unfold suffix_digits.f; rw [if_pos (by rw [Lib.size_mk]; omega)])
  have hB := digits_bound (dotL l)
  generalize digitsV (dotL l) = g at h hD hB
  obtain ⟨n, ok⟩ := g
  dsimp only at h hD hB
  generalize (⟨(dotL l).toArray⟩ : ByteArray) = x at hC hD
  have HC := Aside0.mk hC
  have HD := Aside0.mk hD
  clear hC hD
  cases ok with
  | false =>
    rw [if_pos rfl] at h
    obtain ⟨rfl, rfl⟩ := Prod.mk.inj h
    generalize (⟨(if point l = true then restL l else []).toArray⟩ : ByteArray) = y at HC
    generalize point l = b at HC
    clear hlx hB h
    go_enter Tryd.func10, Tryd.ntmps10
    go_wp2_with (first | (go_at_call 25; refine HC.out.mono ?_; rintro e w2 ⟨rfl, hb2⟩; have HB2 := Aside0.mk hb2; clear hb2) | (go_at_call 23; refine (HD.out _ (Vars_below HV.out HB2.out)).mono ?_; rintro e w3 ⟨rfl, hb3⟩; have HB3 := Aside0.mk (below_then HB2.out HB2.out.size hb3); clear hb3))
    all_goals (go_ret2; exact ⟨rfl, HB3.out⟩)
  | true =>
    rw [if_neg (by decide)] at h
    obtain ⟨hn0, hn1⟩ := hB rfl
    clear hB
    have hT : ∀ (part : Int), 0 ≤ part → part < 1000000 → ∃ t1 t2 : Int, suffix_times.f n 1000000 = some (t1, t2) ∧ ((t2 = 0 ∧ t1 = n * 1000000 ∧ n * 1000000 ≤ 1125899906842624 ∧ totalV n part = if n * 1000000 > 1125899906842624 - part then (0, 10) else (n * 1000000 + part, 0)) ∨ (t2 = 10 ∧ totalV n part = (0, 10))) := by
      intro part hp0 hp1
      unfold suffix_times.f timesF totalV
      rw [if_pos (by decide)]
      by_cases hq : n > 1125899906842624 / 1000000
      · rw [if_pos hq, if_pos hq]
        exact ⟨_, _, rfl, .inr ⟨rfl, rfl⟩⟩
      · rw [if_neg hq, if_neg hq]
        exact ⟨_, _, rfl, .inl ⟨rfl, by unfold wrap64; omega, by omega, rfl⟩⟩
    cases hpt : point l with
    | false =>
      rw [hpt, if_neg (by decide)] at h
      rw [hpt] at HC
      generalize (⟨(if false = true then restL l else []).toArray⟩ : ByteArray) = y at HC
      obtain ⟨t1, t2, ht, hcase⟩ := hT 0 (by decide) (by decide)
      have HT := Aside0.mk (fun W => suffix_times.calls n 1000000 t1 t2 W ht)
      clear ht hT hlx hpt
      rcases hcase with ⟨rfl, rfl, hle, ht⟩ | ⟨rfl, ht⟩
      · rw [ht] at h
        have hc : ¬ n * 1000000 > 1125899906842624 - 0 := by omega
        rw [if_neg hc] at h
        obtain ⟨rfl, rfl⟩ := Prod.mk.inj h
        have w1 : wrap64 (n * 1000000 + 0) = n * 1000000 + 0 := by unfold wrap64; omega
        have hc2 : ¬ 1125899906842624 < n * 1000000 := by omega
        clear hc ht hn0 hn1 h
        rw [Int.add_zero] at w1 ⊢
        generalize n * 1000000 = q at *
        go_enter Tryd.func10, Tryd.ntmps10
        go_wp2_with (first | (go_at_call 25; refine HC.out.mono ?_; rintro e w2 ⟨rfl, hb2⟩; have HB2 := Aside0.mk hb2; clear hb2) | (go_at_call 23; refine (HD.out _ (Vars_below HV.out HB2.out)).mono ?_; rintro e w3 ⟨rfl, hb3⟩; have HB3 := Aside0.mk (below_then HB2.out HB2.out.size hb3); clear hb3) | (go_at_call 24; refine (HT.out _).mono ?_; rintro e w4 ⟨rfl, hb4⟩; have HB4 := Aside0.mk (below_then HB3.out HB3.out.size hb4.below); clear hb4))
        all_goals first
          | (go_ret2; exact ⟨by first | rfl | simp [w1], HB4.out⟩)
          | (exfalso; omega)
      · rw [ht] at h
        obtain ⟨rfl, rfl⟩ := Prod.mk.inj h
        clear ht hn0 hn1 h
        go_enter Tryd.func10, Tryd.ntmps10
        go_wp2_with (first | (go_at_call 25; refine HC.out.mono ?_; rintro e w2 ⟨rfl, hb2⟩; have HB2 := Aside0.mk hb2; clear hb2) | (go_at_call 23; refine (HD.out _ (Vars_below HV.out HB2.out)).mono ?_; rintro e w3 ⟨rfl, hb3⟩; have HB3 := Aside0.mk (below_then HB2.out HB2.out.size hb3); clear hb3) | (go_at_call 24; refine (HT.out _).mono ?_; rintro e w4 ⟨rfl, hb4⟩; have HB4 := Aside0.mk (below_then HB3.out HB3.out.size hb4.below); clear hb4))
        all_goals (go_ret2; exact ⟨rfl, HB4.out⟩)
    | true =>
      rw [hpt, if_pos rfl] at h
      rw [hpt, if_pos rfl] at HC
      clear hpt
      generalize hR : restL l = R at h HC hlx
      clear hR
      by_cases hR0 : R = []
      · rw [if_pos (.inl hR0)] at h
        obtain ⟨rfl, rfl⟩ := Prod.mk.inj h
        subst hR0
        clear hT hlx hn0 hn1 h
        go_enter Tryd.func10, Tryd.ntmps10
        go_wp2_with (first | (go_at_call 25; refine HC.out.mono ?_; rintro e w2 ⟨rfl, hb2⟩; have HB2 := Aside0.mk hb2; clear hb2) | (go_at_call 23; refine (HD.out _ (Vars_below HV.out HB2.out)).mono ?_; rintro e w3 ⟨rfl, hb3⟩; have HB3 := Aside0.mk (below_then HB2.out HB2.out.size hb3); clear hb3))
        all_goals (go_ret2; exact ⟨rfl, HB3.out⟩)
      · obtain ⟨y, hy⟩ : ∃ y : ByteArray, y = ⟨R.toArray⟩ := ⟨_, rfl⟩
        rw [← hy] at HC
        have hys : y.size = R.length := by rw [hy, Lib.size_mk]
        have hyl : y.data.toList = R := by rw [hy]
        have he1 : (y.toList == []) = false := beq_eq_false_iff_ne.2 (by rw [Lib.toList_data, hyl]; exact hR0)
        have he2 : y.toList.isEmpty = false := by rw [Lib.toList_data, hyl]; cases R with | nil => exact absurd rfl hR0 | cons => rfl
        have he3 : ¬ y.toList = [] := by rw [Lib.toList_data, hyl]; exact hR0
        have he4 : ¬ y = ByteArray.empty := fun e => by rw [e] at hyl; exact hR0 hyl.symm
        by_cases h6 : 6 < R.length
        · rw [if_pos (.inr h6)] at h
          obtain ⟨rfl, rfl⟩ := Prod.mk.inj h
          have h6' : (6 : Int) < (y.size : Int) := by omega
          clear hT hlx hn0 hn1 h hy hys hyl
          go_enter Tryd.func10, Tryd.ntmps10
          go_wp2_with (first | (go_at_call 25; refine HC.out.mono ?_; rintro e w2 ⟨rfl, hb2⟩; have HB2 := Aside0.mk hb2; clear hb2) | (go_at_call 23; refine (HD.out _ (Vars_below HV.out HB2.out)).mono ?_; rintro e w3 ⟨rfl, hb3⟩; have HB3 := Aside0.mk (below_then HB2.out HB2.out.size hb3); clear hb3))
          all_goals (go_ret2; exact ⟨rfl, HB3.out⟩)
        · rw [if_neg (fun h => h.elim hR0 h6)] at h
          have h6' : ¬ (6 : Int) < (y.size : Int) := by omega
          obtain ⟨c, hc⟩ : ∃ c : Nat, c = 6 - R.length := ⟨_, rfl⟩
          have hcw : 6 - (y.size : Int) = (c : Int) := by omega
          have hR1 := fun (W : World) => Tryd.strings_Repeat ⟨#[48]⟩ c W (by omega) (by show 1 * c ≤ _; omega)
          rw [← hcw] at hR1
          have HR := Aside0.mk hR1
          clear hR1 hcw
          obtain ⟨z, hz⟩ : ∃ z : ByteArray, z = ⟨(Lib.repeatL (⟨#[48]⟩ : ByteArray).data.toList c).toArray⟩ := ⟨_, rfl⟩
          rw [← hz] at HR
          have hz2 : z = ⟨(List.replicate c 48).toArray⟩ := by rw [hz, ← repeat_noughts]
          have hzs : z.size = c := by rw [hz2, Lib.size_mk, List.length_replicate]
          have hyz : (y ++ z).data.toList = R ++ List.replicate (6 - R.length) 48 := by
            rw [hy, hz2, ByteArray.mk_append_mk, hc]
          have hyzs : (y ++ z).size ≤ 281474976710656 := by rw [ByteArray.size_append]; omega
          have hsum : y.size + z.size ≤ 9223372036854775807 := by omega
          have hsum2 : ¬ 9223372036854775807 < y.size + z.size := by omega
          cases hf : fracV R with
          | none =>
            rw [hf] at h
            obtain ⟨rfl, rfl⟩ := Prod.mk.inj h
            have HU := Aside0.mk (fun W (hW : Vars W) => uparse_bad (y ++ z) hyzs (by
              rw [hyz]
              intro v hv
              unfold fracV at hf
              rw [hv] at hf
              cases hf) W hW)
            clear hT hlx hn0 hn1 h hy hys hyl hz hz2 hzs hyz hyzs hf hc
            go_enter Tryd.func10, Tryd.ntmps10
            go_wp2_with (first | (go_at_call 25; refine HC.out.mono ?_; rintro e w2 ⟨rfl, hb2⟩; have HB2 := Aside0.mk hb2; clear hb2) | (go_at_call 23; refine (HD.out _ (Vars_below HV.out HB2.out)).mono ?_; rintro e w3 ⟨rfl, hb3⟩; have HB3 := Aside0.mk (below_then HB2.out HB2.out.size hb3); clear hb3) | (go_at_call 27; refine (HR.out _).mono ?_; rintro e w4 ⟨rfl, hb4⟩; have HB4 := Aside0.mk (below_then HB3.out HB3.out.size hb4); clear hb4) | (go_at_call 26; refine (HU.out _ (Vars_below HV.out HB4.out)).mono ?_; rintro e w5 ⟨⟨v, te, pe, rfl⟩, hb5⟩; have HB5 := Aside0.mk (below_then HB4.out HB4.out.size hb5); clear hb5))
            all_goals (go_ret2; exact ⟨rfl, HB5.out⟩)
          | some u =>
            rw [hf] at h
            dsimp only at h
            obtain ⟨-, -, hu⟩ := fracV_some (by omega) hf
            have HU := Aside0.mk (fun W => uparse_ok (y ++ z) hyzs u (by
              rw [hyz]
              unfold fracV at hf
              cases hp : Lib.parseUintB 64 (R ++ List.replicate (6 - R.length) 48) with
              | ok v => rw [hp] at hf; rw [Option.some.inj hf]
              | _ => rw [hp] at hf; cases hf) W)
            obtain ⟨t1, t2, ht, hcase⟩ := hT (u : Int) (by omega) (by omega)
            have HT := Aside0.mk (fun W => suffix_times.calls n 1000000 t1 t2 W ht)
            have hwu : wrap64 (u : Int) = (u : Int) := w_small hu
            have hwp : wrap64 (1125899906842624 - (u : Int)) = 1125899906842624 - (u : Int) := w_rest hu
            clear ht hT hlx hy hys hyl hz hz2 hzs hyz hyzs hf hc
            rcases hcase with ⟨rfl, rfl, hle, ht⟩ | ⟨rfl, ht⟩
            · rw [ht] at h
              have w1 : wrap64 (n * 1000000 + (u : Int)) = n * 1000000 + (u : Int) := w_total hn0 hle hu
              clear ht hn0 hn1
              generalize n * 1000000 = q at *
              by_cases hc : q > 1125899906842624 - (u : Int)
              · rw [if_pos hc] at h
                obtain ⟨rfl, rfl⟩ := Prod.mk.inj h
                have hc2 : decide (1125899906842624 - (u : Int) < q) = true := decide_eq_true hc
                clear h
                go_enter Tryd.func10, Tryd.ntmps10
                go_wp2_with (first | (go_at_call 25; refine HC.out.mono ?_; rintro e w2 ⟨rfl, hb2⟩; have HB2 := Aside0.mk hb2; clear hb2) | (go_at_call 23; refine (HD.out _ (Vars_below HV.out HB2.out)).mono ?_; rintro e w3 ⟨rfl, hb3⟩; have HB3 := Aside0.mk (below_then HB2.out HB2.out.size hb3); clear hb3) | (go_at_call 27; refine (HR.out _).mono ?_; rintro e w4 ⟨rfl, hb4⟩; have HB4 := Aside0.mk (below_then HB3.out HB3.out.size hb4); clear hb4) | (go_at_call 26; refine (HU.out _).mono ?_; rintro e w5 ⟨rfl, hb5⟩; have HB5 := Aside0.mk (below_then HB4.out HB4.out.size hb5); clear hb5) | (go_at_call 24; refine (HT.out _).mono ?_; rintro e w6 ⟨rfl, hb6⟩; have HB6 := Aside0.mk (below_then HB5.out HB5.out.size hb6.below); clear hb6))
                all_goals first
                  | (go_ret2; exact ⟨rfl, HB6.out⟩)
                  | (exfalso; omega)
              · rw [if_neg hc] at h
                obtain ⟨rfl, rfl⟩ := Prod.mk.inj h
                have hc2 : decide (1125899906842624 - (u : Int) < q) = false := decide_eq_false hc
                clear h
                go_enter Tryd.func10, Tryd.ntmps10
                go_wp2_with (first | (go_at_call 25; refine HC.out.mono ?_; rintro e w2 ⟨rfl, hb2⟩; have HB2 := Aside0.mk hb2; clear hb2) | (go_at_call 23; refine (HD.out _ (Vars_below HV.out HB2.out)).mono ?_; rintro e w3 ⟨rfl, hb3⟩; have HB3 := Aside0.mk (below_then HB2.out HB2.out.size hb3); clear hb3) | (go_at_call 27; refine (HR.out _).mono ?_; rintro e w4 ⟨rfl, hb4⟩; have HB4 := Aside0.mk (below_then HB3.out HB3.out.size hb4); clear hb4) | (go_at_call 26; refine (HU.out _).mono ?_; rintro e w5 ⟨rfl, hb5⟩; have HB5 := Aside0.mk (below_then HB4.out HB4.out.size hb5); clear hb5) | (go_at_call 24; refine (HT.out _).mono ?_; rintro e w6 ⟨rfl, hb6⟩; have HB6 := Aside0.mk (below_then HB5.out HB5.out.size hb6.below); clear hb6))
                all_goals first
                  | (go_ret2; exact ⟨by first | rfl | simp [w1], HB6.out⟩)
                  | (exfalso; omega)
            · rw [ht] at h
              obtain ⟨rfl, rfl⟩ := Prod.mk.inj h
              clear ht hn0 hn1 h
              go_enter Tryd.func10, Tryd.ntmps10
              go_wp2_with (first | (go_at_call 25; refine HC.out.mono ?_; rintro e w2 ⟨rfl, hb2⟩; have HB2 := Aside0.mk hb2; clear hb2) | (go_at_call 23; refine (HD.out _ (Vars_below HV.out HB2.out)).mono ?_; rintro e w3 ⟨rfl, hb3⟩; have HB3 := Aside0.mk (below_then HB2.out HB2.out.size hb3); clear hb3) | (go_at_call 27; refine (HR.out _).mono ?_; rintro e w4 ⟨rfl, hb4⟩; have HB4 := Aside0.mk (below_then HB3.out HB3.out.size hb4); clear hb4) | (go_at_call 26; refine (HU.out _).mono ?_; rintro e w5 ⟨rfl, hb5⟩; have HB5 := Aside0.mk (below_then HB4.out HB4.out.size hb5); clear hb5) | (go_at_call 24; refine (HT.out _).mono ?_; rintro e w6 ⟨rfl, hb6⟩; have HB6 := Aside0.mk (below_then HB5.out HB5.out.size hb6.below); clear hb6))
              all_goals (go_ret2; exact ⟨rfl, HB6.out⟩)
end Go.Proofs.YtafncdmclhdkdaaDoor.PAll
