import Derived.Test.YtafncdmclhdkdaaDoorSParse
/-! Bytes and dollars: what the program and the document make of a text. -/
set_option linter.unusedVariables false
set_option linter.unusedSimpArgs false
namespace Go.Proofs.YtafncdmclhdkdaaDoor.PAll
open Go.RowKit Go.Proofs.YtafncdmclhdkdaaDoorW.PrintWords Go.Proofs.YtafncdmclhdkdaaDoorW.PrintLast Go.Proofs.YtafncdmclhdkdaaDoorW.PrintMore
abbrev P1 : Int := 1024
abbrev P2 : Int := 1048576
abbrev P3 : Int := 1073741824
abbrev P4 : Int := 1099511627776
abbrev Ki : List UInt8 := [75, 105]
abbrev Mi : List UInt8 := [77, 105]
abbrev Gi : List UInt8 := [71, 105]
abbrev Ti : List UInt8 := [84, 105]
def goB (d : List UInt8) (p : Int) : Int × Int := if (digitsV d).2 = true then timesV (digitsV d).1 p else (0, 20)
def pickB (l e : List UInt8) (p : Int) (R : Int × Int) : Int × Int := if (cutL l e).2 = true then goB (cutL l e).1 p else R
def bytesV (l : List UInt8) : Int × Int := pickB l Ki P1 (pickB l Mi P2 (pickB l Gi P3 (pickB l Ti P4 (goB l 1))))
theorem ev_pb_j1 (sh p : Int) (h0 : 0 ≤ sh) (hs : shr .i64 1125899906842624 sh = 1125899906842624 / p) (hl : ∀ n, shl .i64 n sh = wrap64 (n * p)) (d : List UInt8) (hd : d.length ≤ TOP) :
    Ev (fun k => suffix_ParseBytes.j1 k (bs d) sh) (goB d p) := by
  refine Ev.succ ?_
  simp only [suffix_ParseBytes.j1]
  refine Ev.bindNow (digits_eq d hd) ?_
  unfold goB
  cases hk : (digitsV d).2
  · simp only [Bool.false_eq_true, if_false]
    exact Ev.const _
  · simp only [if_true, if_pos h0, hs, hl, timesV]
    split
    · exact Ev.const _
    · exact Ev.const _
theorem ev_pb_step (l : List UInt8) (hl : l.length ≤ TOP) (x5 : Int) (e : List UInt8) (sh p : Int) (R : Int × Int) (h1 : x5 < 8) (h2 : 0 ≤ x5) (h3 : wrap64 (x5 + 2) = x5 + 2) (h4 : x5 + 2 ≤ 8)
    (he : (⟨#[75, 105, 77, 105, 71, 105, 84, 105]⟩ : ByteArray).extract x5.toNat (x5 + 2).toNat = bs e) (hs : IntKind.u64.wrap (wrap64 (wrap64 (5 * x5) + 10)) = sh)
    (hj : ∀ d : List UInt8, d.length ≤ TOP → Ev (fun k => suffix_ParseBytes.j1 k (bs d) sh) (goB d p)) (hR : Ev (fun k => suffix_ParseBytes.l0 k (bs l) 0 (x5 + 2)) R) :
    Ev (fun k => suffix_ParseBytes.l0 k (bs l) 0 x5) (pickB l e p R) := by
  refine Ev.succ ?_
  simp only [suffix_ParseBytes.l0, if_pos h1, if_pos h2, h3, if_pos (show x5 ≤ x5 + 2 by omega), if_pos h4, he, hs]
  refine Ev.bindNow (cutsuffix_eq l e hl) ?_
  unfold pickB
  cases hk : (cutL l e).2
  · simp only [Bool.false_eq_true, if_false]
    exact hR
  · simp only [if_true]
    exact hj _ (Nat.le_trans (cutL_len _ _) hl)
theorem shl_at {sh p : Int} (h : (2 : Int) ^ min sh.toNat IntKind.i64.bits = p) (n : Int) : shl .i64 n sh = wrap64 (n * p) := by
  unfold shl
  rw [h, i64_w]
theorem ev_bytes (l : List UInt8) (hl : l.length ≤ TOP) : Ev (fun k => suffix_ParseBytes.f k (bs l)) (bytesV l) := by
  unfold suffix_ParseBytes.f bytesV
  refine ev_pb_step l hl 0 Ki 10 P1 _ (by decide) (by decide) (by kernel_rfl) (by decide) (by kernel_rfl) (by kernel_rfl) (ev_pb_j1 10 P1 (by decide) (by decide) (shl_at (by decide))) ?_
  refine ev_pb_step l hl 2 Mi 20 P2 _ (by decide) (by decide) (by kernel_rfl) (by decide) (by kernel_rfl) (by kernel_rfl) (ev_pb_j1 20 P2 (by decide) (by decide) (shl_at (by decide))) ?_
  refine ev_pb_step l hl 4 Gi 30 P3 _ (by decide) (by decide) (by kernel_rfl) (by decide) (by kernel_rfl) (by kernel_rfl) (ev_pb_j1 30 P3 (by decide) (by decide) (shl_at (by decide))) ?_
  refine ev_pb_step l hl 6 Ti 40 P4 _ (by decide) (by decide) (by kernel_rfl) (by decide) (by kernel_rfl) (by kernel_rfl) (ev_pb_j1 40 P4 (by decide) (by decide) (shl_at (by decide))) ?_
  refine Ev.succ ?_
  simp only [suffix_ParseBytes.l0, if_neg (show ¬ (6 + 2 : Int) < 8 by decide)]
  exact ev_pb_j1 0 1 (by decide) (by decide) (shl_at (by decide)) l hl
/-! the document's way -/
def stepB (l e : List UInt8) (p : Int) (R : Int × Int) : Int × Int := if (cutL l e).2 = true ∧ (digitsV (cutL l e).1).2 = true then timesV (digitsV (cutL l e).1).1 p else R
abbrev ENDS : List ByteArray := [(⟨#[]⟩ : ByteArray), (⟨#[75, 105]⟩ : ByteArray), (⟨#[77, 105]⟩ : ByteArray), (⟨#[71, 105]⟩ : ByteArray), (⟨#[84, 105]⟩ : ByteArray)]
theorem ev_power (n : Nat) (p : Int) (h : sutlerref02_power.f 6 (n : Int) = some p) : Ev (fun k => sutlerref02_power.f k (n : Int)) p := Ev.of_mono (fun k => sutlerref02_power.mono (n : Int) k) 6 h
theorem ev_rb_step (l : List UInt8) (hl : l.length ≤ TOP) (n : Nat) (e : List UInt8) (p : Int) (R : Int × Int) (hn : n < 5) (he : rdOf ByteArray.empty ENDS (n : Int) = bs e) (hel : e.length ≤ TOP) (hp : sutlerref02_power.f 6 (n : Int) = some p) (h0 : 0 < p) (m : Int) (hm : wrap64 ((n : Int) - 1) = m)
    (hR : Ev (fun k => sutlerref02_ParseBytes.l0 k (bs l) ENDS m) R) : Ev (fun k => sutlerref02_ParseBytes.l0 k (bs l) ENDS (n : Int)) (stepB l e p R) := by
  refine Ev.succ ?_
  have c : (n : Int) < (ENDS.length : Int) := by show (n : Int) < 5; omega
  simp only [sutlerref02_ParseBytes.l0, if_pos (show (n : Int) ≥ 0 by omega), if_pos (show (0 : Int) ≤ (n : Int) by omega), if_pos c, he]
  refine Ev.bindNow (without_eq l e hl hel) (Ev.bind (ev_refDigits _) ?_)
  rw [refD_ok]
  have hfalse : ∀ v : Int, Ev (fun k => sutlerref02_ParseBytes.j1 k (bs l) ENDS (n : Int) v false) R := fun v => by
    refine Ev.succ ?_
    simp only [sutlerref02_ParseBytes.j1, Bool.false_eq_true, if_false, hm]
    exact hR
  unfold stepB
  cases hk : (cutL l e).2
  · simp only [Bool.false_eq_true, if_false, false_and]
    exact hfalse _
  · simp only [if_true, true_and]
    cases hd : (digitsV (cutL l e).1).2
    · simp only [Bool.false_eq_true, if_false]
      exact hfalse _
    · simp only [if_true]
      refine Ev.succ ?_
      simp only [sutlerref02_ParseBytes.j1, if_true]
      refine Ev.bind (ev_power n p hp) ?_
      rw [refD_val _ hd]
      exact Ev.bindNow (rtimes_eq _ _ h0) (Ev.const _)
def refB (l : List UInt8) : Int × Int := stepB l Ti P4 (stepB l Gi P3 (stepB l Mi P2 (stepB l Ki P1 (stepB l [] 1 (0, 20)))))
theorem ev_refBytes0 (l : List UInt8) (hl : l.length ≤ TOP) : Ev (fun k => sutlerref02_ParseBytes.f k (bs l)) (refB l) := by
  unfold sutlerref02_ParseBytes.f refB
  refine Ev.bindNow (a := ENDS) rfl ?_
  refine ev_rb_step l hl 4 Ti P4 _ (by decide) rfl (by decide) (by kernel_rfl) (by decide) ((3 : Nat) : Int) (by kernel_rfl) ?_
  refine ev_rb_step l hl 3 Gi P3 _ (by decide) rfl (by decide) (by kernel_rfl) (by decide) ((2 : Nat) : Int) (by kernel_rfl) ?_
  refine ev_rb_step l hl 2 Mi P2 _ (by decide) rfl (by decide) (by kernel_rfl) (by decide) ((1 : Nat) : Int) (by kernel_rfl) ?_
  refine ev_rb_step l hl 1 Ki P1 _ (by decide) rfl (by decide) (by kernel_rfl) (by decide) ((0 : Nat) : Int) (by kernel_rfl) ?_
  refine ev_rb_step l hl 0 [] 1 _ (by decide) rfl (by decide) (by kernel_rfl) (by decide) (-1) (by kernel_rfl) ?_
  refine Ev.succ ?_
  simp only [sutlerref02_ParseBytes.l0, if_neg (show ¬ (-1 : Int) ≥ 0 by decide)]
  exact Ev.const _
theorem cutL_nil (l : List UInt8) : cutL l [] = (l, true) := by
  have := cutL_append l []
  rwa [List.append_nil] at this
theorem other_end {d e e' : List UInt8} (h : e.length = e'.length) (hne : e ≠ e') : cutL (d ++ e) e' = (d ++ e, false) :=
  cutL_false fun ⟨x, hx⟩ => hne (List.append_inj_right' hx h)
theorem not_digits {d : List UInt8} {c : UInt8} : (digitsV (d ++ [c, 105])).2 = false := by
  cases h : (digitsV (d ++ [c, 105])).2
  · rfl
  · obtain ⟨_, h2, _⟩ := digitsV_true h
    have := lean_all h2 105 (by simp)
    unfold isDig at this
    exact absurd this (by decide)
theorem stepB_goB (l : List UInt8) : stepB l [] 1 (0, 20) = goB l 1 := by
  unfold stepB goB
  rw [cutL_nil]
  simp only [true_and]
theorem stepB_miss {l e : List UInt8} {p : Int} {R : Int × Int} (h : cutL l e = (l, false)) : stepB l e p R = R := by
  unfold stepB
  rw [h, if_neg (by simp)]
theorem stepB_hit {d e : List UInt8} {p : Int} {R : Int × Int} (h : R = (0, 20)) : stepB (d ++ e) e p R = goB d p := by
  unfold stepB goB
  rw [cutL_append, h]
  simp only [true_and]
theorem pickB_miss {l e : List UInt8} {p : Int} {R : Int × Int} (h : cutL l e = (l, false)) : pickB l e p R = R := by
  unfold pickB
  rw [h, if_neg (by simp)]
theorem pickB_hit {d e : List UInt8} {p : Int} {R : Int × Int} : pickB (d ++ e) e p R = goB d p := by
  unfold pickB
  rw [cutL_append, if_pos rfl]
theorem goB_no {d : List UInt8} {c : UInt8} {p : Int} : goB (d ++ [c, 105]) p = (0, 20) := by
  unfold goB
  rw [not_digits, if_neg (by decide)]
theorem bytes_Ki (d : List UInt8) : bytesV (d ++ Ki) = goB d P1 := by
  unfold bytesV
  rw [pickB_hit]
theorem bytes_Mi (d : List UInt8) : bytesV (d ++ Mi) = goB d P2 := by
  unfold bytesV
  rw [pickB_miss (other_end (d := d) (e := Mi) (e' := Ki) rfl (by decide)), pickB_hit]
theorem bytes_Gi (d : List UInt8) : bytesV (d ++ Gi) = goB d P3 := by
  unfold bytesV
  rw [pickB_miss (other_end (d := d) (e := Gi) (e' := Ki) rfl (by decide)), pickB_miss (other_end (d := d) (e := Gi) (e' := Mi) rfl (by decide)), pickB_hit]
theorem bytes_Ti (d : List UInt8) : bytesV (d ++ Ti) = goB d P4 := by
  unfold bytesV
  rw [pickB_miss (other_end (d := d) (e := Ti) (e' := Ki) rfl (by decide)), pickB_miss (other_end (d := d) (e := Ti) (e' := Mi) rfl (by decide)), pickB_miss (other_end (d := d) (e := Ti) (e' := Gi) rfl (by decide)), pickB_hit]
theorem bytes_none {l : List UInt8} (h1 : ¬ ∃ x, l = x ++ Ki) (h2 : ¬ ∃ x, l = x ++ Mi) (h3 : ¬ ∃ x, l = x ++ Gi) (h4 : ¬ ∃ x, l = x ++ Ti) : bytesV l = goB l 1 := by
  unfold bytesV
  rw [pickB_miss (cutL_false h1), pickB_miss (cutL_false h2), pickB_miss (cutL_false h3), pickB_miss (cutL_false h4)]
theorem refB_eq (l : List UInt8) : refB l = bytesV l := by
  by_cases h1 : ∃ x, l = x ++ Ki
  · obtain ⟨d, rfl⟩ := h1
    rw [bytes_Ki]
    unfold refB
    rw [stepB_miss (other_end (d := d) (e := Ki) (e' := Ti) rfl (by decide)), stepB_miss (other_end (d := d) (e := Ki) (e' := Gi) rfl (by decide)), stepB_miss (other_end (d := d) (e := Ki) (e' := Mi) rfl (by decide)), stepB_hit (by rw [stepB_goB, goB_no])]
  · by_cases h2 : ∃ x, l = x ++ Mi
    · obtain ⟨d, rfl⟩ := h2
      rw [bytes_Mi]
      unfold refB
      rw [stepB_miss (other_end (d := d) (e := Mi) (e' := Ti) rfl (by decide)), stepB_miss (other_end (d := d) (e := Mi) (e' := Gi) rfl (by decide)), stepB_hit (by rw [stepB_miss (other_end (d := d) (e := Mi) (e' := Ki) rfl (by decide)), stepB_goB, goB_no])]
    · by_cases h3 : ∃ x, l = x ++ Gi
      · obtain ⟨d, rfl⟩ := h3
        rw [bytes_Gi]
        unfold refB
        rw [stepB_miss (other_end (d := d) (e := Gi) (e' := Ti) rfl (by decide)), stepB_hit (by rw [stepB_miss (other_end (d := d) (e := Gi) (e' := Mi) rfl (by decide)), stepB_miss (other_end (d := d) (e := Gi) (e' := Ki) rfl (by decide)), stepB_goB, goB_no])]
      · by_cases h4 : ∃ x, l = x ++ Ti
        · obtain ⟨d, rfl⟩ := h4
          rw [bytes_Ti]
          unfold refB
          rw [stepB_hit (by rw [stepB_miss (other_end (d := d) (e := Ti) (e' := Gi) rfl (by decide)), stepB_miss (other_end (d := d) (e := Ti) (e' := Mi) rfl (by decide)), stepB_miss (other_end (d := d) (e := Ti) (e' := Ki) rfl (by decide)), stepB_goB, goB_no])]
        · rw [bytes_none h1 h2 h3 h4]
          unfold refB
          rw [stepB_miss (cutL_false h4), stepB_miss (cutL_false h3), stepB_miss (cutL_false h2), stepB_miss (cutL_false h1), stepB_goB]
theorem ev_refBytes (l : List UInt8) (hl : l.length ≤ TOP) : Ev (fun k => sutlerref02_ParseBytes.f k (bs l)) (bytesV l) := refB_eq l ▸ ev_refBytes0 l hl
/-! ### dollars -/
theorem money_eq (l : List UInt8) (hl : l.length ≤ TOP) : suffix_ParseMoney.f (bs l) = some (moneyV l) := by
  unfold suffix_ParseMoney.f
  rw [if_pos (by rw [bs_size]; exact hl)]
theorem digF_noughts (a : Nat) : ∀ n, digF a (List.replicate n 48) = a * 10 ^ n
  | 0 => by rw [List.replicate_zero, digF_nil, Nat.pow_zero, Nat.mul_one]
  | n + 1 => by
    rw [List.replicate_succ, digF_cons, show a * 10 + ((48 : UInt8).toNat - 48) = a * 10 from rfl, digF_noughts (a * 10) n, Nat.pow_succ, Nat.mul_comm (10 ^ n) 10, ← Nat.mul_assoc]
theorem frac_digs {l : List UInt8} (hl : l.length ≤ 6) (hd : ∀ c ∈ l, isDig c) : fracV l = some (digF 0 (l ++ List.replicate (6 - l.length) 48)) := by
  have hlen : (l ++ List.replicate (6 - l.length) 48).length = 6 := by rw [List.length_append, List.length_replicate]; omega
  have ha : ∀ c ∈ l ++ List.replicate (6 - l.length) 48, isDig c := by
    intro c hc
    rcases List.mem_append.1 hc with hc | hc
    · exact hd c hc
    · rw [(List.mem_replicate.1 hc).2]
      unfold isDig
      decide
  unfold fracV Lib.parseUintB
  rw [if_neg (by intro e; rw [e] at hlen; cases hlen), parseU_ok _ 0 ha (by rw [hlen]; decide)]
theorem frac_none {l : List UInt8} (hl : l.length ≤ 6) (hd : ¬ ∀ c ∈ l, isDig c) : fracV l = none := by
  cases h : fracV l with
  | none => rfl
  | some u => exact absurd (fracV_some hl h).1 hd
/-- What the document's loop makes of the digits behind the point. -/
def tailV (n : Int) (l : List UInt8) : Int × Int := if l.all (fun c => decide (isDig c)) = true then totalV n ((digF 0 (l ++ List.replicate (6 - l.length) 48) : Nat) : Int) else (0, 20)
theorem ev_rm_end (n : Int) (hn0 : 0 ≤ n) (hn1 : n < 1000000000000000000) (l : List UInt8) (u : Nat) (hu : u < 1000000) : Ev (fun k => sutlerref02_ParseMoney.l1 k n (bs l) (u : Int) 6) (totalV n (u : Int)) := by
  refine Ev.succ ?_
  simp only [sutlerref02_ParseMoney.l1, if_neg (show ¬ (6 : Int) < 6 by decide)]
  refine Ev.bindNow (rtimes_eq n 1000000 (by decide)) ?_
  unfold timesV totalV
  by_cases hq : n > 1125899906842624 / 1000000
  · rw [if_pos hq, if_pos hq]
    exact Ev.const _
  · rw [if_neg hq, if_neg hq]
    have w1 : wrap64 (n * 1000000) = n * 1000000 := by unfold wrap64; omega
    have hle : n * 1000000 ≤ 1125899906842624 := by omega
    simp only [if_true, w1, w_rest hu]
    by_cases hc : n * 1000000 > 1125899906842624 - (u : Int)
    · simp only [if_pos hc]
      exact Ev.const _
    · simp only [if_neg hc, w_total hn0 hle hu]
      exact Ev.const _
theorem w_ten {a : Nat} (h : a < 1000000) : wrap64 ((a : Int) * 10) = ((a * 10 : Nat) : Int) := by
  have e : ((a * 10 : Nat) : Int) = (a : Int) * 10 := by omega
  rw [e]
  unfold wrap64
  omega
theorem ev_rm_l1 (n : Int) (hn0 : 0 ≤ n) (hn1 : n < 1000000000000000000) (l : List UInt8) (hl : l.length ≤ 6) : ∀ m i : Nat, i + m = 6 → (∀ c ∈ l.take i, isDig c) →
    Ev (fun k => sutlerref02_ParseMoney.l1 k n (bs l) ((digF 0 (l.take i ++ List.replicate (i - l.length) 48) : Nat) : Int) (i : Int)) (tailV n l)
  | 0, i, hm, hd => by
    obtain rfl : i = 6 := by omega
    have ht : l.take 6 = l := List.take_of_length_le hl
    rw [ht] at hd ⊢
    have hr := ev_rm_end n hn0 hn1 l _ (fracV_some hl (frac_digs hl hd)).2.2
    unfold tailV
    rw [if_pos (List.all_eq_true.2 fun c hc => decide_eq_true (hd c hc))]
    exact hr
  | m + 1, i, hm, hd => by
    have hlen : (l.take i ++ List.replicate (i - l.length) 48).length = i := by rw [List.length_append, List.length_take, List.length_replicate]; omega
    have hall : ∀ c ∈ l.take i ++ List.replicate (i - l.length) 48, isDig c := by
      intro c hc
      rcases List.mem_append.1 hc with hc | hc
      · exact hd c hc
      · rw [(List.mem_replicate.1 hc).2]
        unfold isDig
        decide
    have hb := digF_lt _ 0 hall
    rw [hlen, Nat.zero_add, Nat.one_mul] at hb
    have hp : 10 ^ i ≤ 10 ^ 5 := Nat.pow_le_pow_right (by decide) (by omega)
    have hb2 : digF 0 (l.take i ++ List.replicate (i - l.length) 48) < 1000000 := Nat.lt_of_lt_of_le hb (Nat.le_trans hp (by decide))
    refine Ev.succ ?_
    simp only [sutlerref02_ParseMoney.l1, bs_size, if_pos (show (i : Int) < 6 by omega)]
    by_cases hi : i < l.length
    · simp only [if_pos (show (i : Int) < (l.length : Int) by omega), if_pos (show (0 : Int) ≤ (i : Int) by omega), bs_bt l i hi]
      have hz : i - l.length = 0 := by omega
      have hz2 : i + 1 - l.length = 0 := by omega
      rw [hz, List.replicate_zero, List.append_nil] at hb2 ⊢
      have htk : l.take (i + 1) = l.take i ++ [l[i]] := by rw [List.take_add_one, List.getElem?_eq_getElem hi]; rfl
      by_cases hdig : isDig l[i]
      · have h1 : ¬ ((l[i].toNat : Int) < 48) := by unfold isDig at hdig; omega
        have h2 : ¬ ((l[i].toNat : Int) > 57) := by unfold isDig at hdig; omega
        have hd' : ∀ c ∈ l.take (i + 1), isDig c := by
          intro c hc
          rw [htk, List.mem_append, List.mem_singleton] at hc
          rcases hc with hc | rfl
          · exact hd c hc
          · exact hdig
        have ih := ev_rm_l1 n hn0 hn1 l hl m (i + 1) (by omega) hd'
        rw [hz2, List.replicate_zero, List.append_nil] at ih
        have e1 : wrap64 (wrap64 (((digF 0 (l.take i) : Nat) : Int) * 10) + ((l[i].toNat : Int) - 48) % 256) = ((digF 0 (l.take (i + 1)) : Nat) : Int) := by
          rw [htk, digF_append, digF_one]
          exact step_dig (Nat.lt_trans hb2 (by decide)) hdig.1 hdig.2
        simp only [if_neg h1, if_neg h2, e1, w_succ (show i + 1 ≤ 9223372036854775807 by omega)]
        exact ih
      · have hf : ¬ l.all (fun c => decide (isDig c)) = true := by
          intro h
          have := List.all_eq_true.1 h l[i] (List.getElem_mem hi)
          exact hdig (of_decide_eq_true this)
        unfold tailV
        rw [if_neg hf]
        by_cases h1 : (l[i].toNat : Int) < 48
        · simp only [if_pos h1]; exact Ev.const _
        · have h2 : (l[i].toNat : Int) > 57 := by unfold isDig at hdig; omega
          simp only [if_neg h1, if_pos h2]; exact Ev.const _
    · simp only [if_neg (show ¬ (i : Int) < (l.length : Int) by omega)]
      have ht : l.take i = l := List.take_of_length_le (by omega)
      have ht2 : l.take (i + 1) = l := List.take_of_length_le (by omega)
      have ih := ev_rm_l1 n hn0 hn1 l hl m (i + 1) (by omega) (by rw [ht2]; rw [ht] at hd; exact hd)
      rw [ht2, show i + 1 - l.length = (i - l.length) + 1 by omega, List.replicate_succ', ← List.append_assoc, digF_append, digF_one, show (48 : UInt8).toNat - 48 = 0 from rfl, Nat.add_zero] at ih
      rw [ht] at hb2 ⊢
      simp only [w_ten hb2, w_succ (show i + 1 ≤ 9223372036854775807 by omega)]
      exact ih
theorem ev_rm_j2 (d r : List UInt8) (hr : r.length ≤ 6) : Ev (fun k => sutlerref02_ParseMoney.j2 k (refD d).1 (refD d).2 (bs r)) (if (digitsV d).2 = true then tailV (digitsV d).1 r else (0, 20)) := by
  refine Ev.succ ?_
  rw [refD_ok]
  cases hk : (digitsV d).2
  · simp only [sutlerref02_ParseMoney.j2, Bool.false_eq_true, if_false]
    exact Ev.const _
  · simp only [sutlerref02_ParseMoney.j2, if_true]
    rw [refD_val d hk]
    obtain ⟨h0, h1⟩ := digits_bound d hk
    have := ev_rm_l1 (digitsV d).1 h0 h1 r hr 6 0 (by decide) (fun c hc => by simp at hc)
    rw [List.take_zero, Nat.zero_sub, List.replicate_zero, List.append_nil, digF_nil] at this
    exact this
theorem ev_rm_j1 (l : List UInt8) (hl : l.length ≤ TOP) : Ev (fun k => sutlerref02_ParseMoney.j1 k (bs l) ((dotL l).length : Int)) (moneyV l) := by
  refine Ev.succ ?_
  unfold moneyV
  rcases index_point l with ⟨e1, _, e3⟩ | ⟨e1, _, e3⟩
  · have c1 : ((dotL l).length : Int) ≤ (l.length : Int) := by rw [e3]; exact Int.le_refl _
    have c2 : ¬ ((dotL l).length : Int) < (l.length : Int) := by rw [e3]; exact Int.lt_irrefl _
    simp only [sutlerref02_ParseMoney.j1, bs_size, if_pos (show (0 : Int) ≤ ((dotL l).length : Int) by omega), if_pos c1, if_neg c2, Int.toNat_natCast, bs_cut, List.drop_zero, Nat.sub_zero]
    have ht : l.take (dotL l).length = dotL l := by rw [e3, List.take_length]
    rw [ht]
    refine Ev.bind (ev_refDigits _) ((ev_rm_j2 (dotL l) [] (by decide)).to ?_)
    rw [e1, if_neg (by decide : ¬ false = true)]
    have h0 : ∀ n : Int, tailV n [] = totalV n 0 := fun n => by
      unfold tailV
      have e0 : ([] : List UInt8).all (fun c => decide (isDig c)) = true := rfl
      rw [if_pos e0, List.nil_append, digF_noughts, Nat.zero_mul]
      rfl
    rw [h0]
    cases (digitsV (dotL l)).2 <;> rfl
  · have hlen := congrArg List.length e3
    rw [List.length_append, List.length_cons] at hlen
    have c1 : ((dotL l).length : Int) ≤ (l.length : Int) := by omega
    have c2 : ((dotL l).length : Int) < (l.length : Int) := by omega
    have c3 : (((dotL l).length + 1 : Nat) : Int) ≤ (l.length : Int) := by omega
    have w1 : wrap64 (((dotL l).length : Int) + 1) = (((dotL l).length + 1 : Nat) : Int) := w_succ (by unfold TOP at hl; omega)
    have ht : l.take (dotL l).length = dotL l := by
      refine (congrArg (List.take (dotL l).length) e3).trans ?_
      exact List.take_left
    have hd : (l.drop ((dotL l).length + 1)).take (l.length - ((dotL l).length + 1)) = restL l := by
      rw [drop_all]
      refine (congrArg (List.drop ((dotL l).length + 1)) e3).trans ?_
      rw [← List.drop_drop, List.drop_left]
      rfl
    simp only [sutlerref02_ParseMoney.j1, bs_size, if_pos (show (0 : Int) ≤ ((dotL l).length : Int) by omega), if_pos c1, if_pos c2, w1, if_pos (show (0 : Int) ≤ (((dotL l).length + 1 : Nat) : Int) by omega), if_pos c3, Int.toNat_natCast, bs_cut, List.drop_zero, Nat.sub_zero, ht, hd]
    refine Ev.bind (ev_refDigits _) ?_
    rw [e1, if_pos rfl]
    by_cases h1 : (restL l).length < 1
    · simp only [if_pos (show ((restL l).length : Int) < 1 by omega)]
      have hn : restL l = [] := List.eq_nil_of_length_eq_zero (by omega)
      refine (Ev.const _).to ?_
      rw [if_pos (Or.inl hn)]
      cases (digitsV (dotL l)).2 <;> rfl
    · have hn : ¬ restL l = [] := fun e => by rw [e] at h1; exact h1 (by decide)
      by_cases h6 : (restL l).length > 6
      · simp only [if_neg (show ¬ ((restL l).length : Int) < 1 by omega), if_pos (show ((restL l).length : Int) > 6 by omega)]
        refine (Ev.const _).to ?_
        rw [if_pos (Or.inr h6)]
        cases (digitsV (dotL l)).2 <;> rfl
      · simp only [if_neg (show ¬ ((restL l).length : Int) < 1 by omega), if_neg (show ¬ ((restL l).length : Int) > 6 by omega)]
        refine (ev_rm_j2 (dotL l) (restL l) (by omega)).to ?_
        have hno : ¬ (restL l = [] ∨ 6 < (restL l).length) := fun h => h.elim hn h6
        rw [if_neg hno]
        have ht : tailV (digitsV (dotL l)).1 (restL l) = match fracV (restL l) with
            | some u => totalV (digitsV (dotL l)).1 u
            | none => (0, 20) := by
          unfold tailV
          by_cases ha : (restL l).all (fun c => decide (isDig c)) = true
          · rw [if_pos ha, frac_digs (by omega) (fun c hc => of_decide_eq_true (List.all_eq_true.1 ha c hc))]
          · rw [if_neg ha, frac_none (by omega) (fun h => ha (List.all_eq_true.2 fun c hc => decide_eq_true (h c hc)))]
        rw [ht]
        cases (digitsV (dotL l)).2 <;> rfl
theorem ev_rm_l0 (l : List UInt8) (hl : l.length ≤ TOP) : ∀ n i : Nat, i + n = l.length → i ≤ (dotL l).length → Ev (fun k => sutlerref02_ParseMoney.l0 k (bs l) (l.length : Int) (i : Int)) (moneyV l)
  | 0, i, hn, hi => by
    refine Ev.succ ?_
    have hp : (dotL l).length = l.length := by
      rcases index_point l with ⟨_, _, e3⟩ | ⟨_, _, e3⟩
      · rw [e3]
      · have hlen := congrArg List.length e3
        rw [List.length_append, List.length_cons] at hlen
        omega
    simp only [sutlerref02_ParseMoney.l0, bs_size, if_neg (show ¬ ((i : Int) < (l.length : Int)) by omega)]
    have := ev_rm_j1 l hl
    rw [hp] at this
    exact this
  | n + 1, i, hn, hi => by
    have hil : i < l.length := by omega
    refine Ev.succ ?_
    simp only [sutlerref02_ParseMoney.l0, bs_size, if_pos (show ((i : Int) < (l.length : Int)) by omega), if_pos (show (0 : Int) ≤ (i : Int) by omega), bs_bt l i hil]
    by_cases hd : i < (dotL l).length
    · have hne : ¬ ((l[i].toNat : Int) = 46) := by
        intro h
        have h2 : l[i] = 46 := UInt8.toNat_inj.1 (by have : (46 : UInt8).toNat = 46 := rfl; omega)
        have h3 : (dotL l)[i]'hd = l[i] := by
          unfold dotL
          exact (List.takeWhile_prefix _).getElem _
        have h4 : ((dotL l)[i]'hd != 46) = true := by
          have hm : (dotL l)[i]'hd ∈ dotL l := List.getElem_mem hd
          exact List.all_eq_true.1 (List.all_takeWhile (l := l) (p := fun c => c != 46)) _ hm
        rw [h3, h2] at h4
        exact absurd h4 (by decide)
      simp only [if_neg hne, w_succ (show i + 1 ≤ 9223372036854775807 by unfold TOP at hl; omega)]
      exact ev_rm_l0 l hl n (i + 1) (by omega) hd
    · have he : i = (dotL l).length := by omega
      subst he
      have h2 : l[(dotL l).length]'hil = 46 := by
        rcases index_point l with ⟨_, _, e3⟩ | ⟨_, _, e3⟩
        · exact absurd hil (by rw [e3]; exact Nat.lt_irrefl _)
        · have h5 : l[(dotL l).length]? = some 46 := by
            refine (congrArg (fun x => x[(dotL l).length]?) e3).trans ?_
            rw [List.getElem?_append_right (Nat.le_refl _), Nat.sub_self]
            rfl
          rw [List.getElem?_eq_getElem hil] at h5
          exact Option.some.inj h5
      have h3 : ((l[(dotL l).length]'hil).toNat : Int) = 46 := by rw [h2]; rfl
      simp only [if_pos h3]
      exact ev_rm_j1 l hl
theorem ev_refMoney (l : List UInt8) (hl : l.length ≤ TOP) : Ev (fun k => sutlerref02_ParseMoney.f k (bs l)) (moneyV l) := by
  unfold sutlerref02_ParseMoney.f
  rw [bs_size]
  exact ev_rm_l0 l hl l.length 0 (by omega) (Nat.zero_le _)
end Go.Proofs.YtafncdmclhdkdaaDoor.PAll
