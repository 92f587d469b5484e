import Derived.Test.YtiodidhbkgnicaaPAllx0
import Derived.Test.YtiodidhbkgnicaaEMap
import Derived.Test.YtiodidhbkgnicaaEMem
import Derived.Deep.RegionWith
namespace Go.Proofs.Ytiodidhbkgnicaa.PAll
open Go.RowKit Go.Proofs.YtiodidhbkgnicaaW.PrintWords Go.Proofs.YtiodidhbkgnicaaW.PrintLast Go.Proofs.YtiodidhbkgnicaaW.PrintMore Mem
set_option linter.unusedVariables false
set_option linter.unusedSimpArgs false

/-- An offer as the map's key. -/
def keyV (x : S23) : Value := .agg #[.string x.f0, .string x.f1, .string x.f2]
def eqOffer (a b : S23) : Bool := (a.f0.toList == b.f0.toList && (a.f1.toList == b.f1.toList && a.f2.toList == b.f2.toList))
theorem toList_inj {a b : ByteArray} (h : (a.toList == b.toList) = true) : a = b := by
  have := beq_iff_eq.1 h
  rw [ByteArray.toList_eq, ByteArray.toList_eq] at this
  exact ByteArray.ext (Array.ext' this)
theorem eqOffer_eq {a b : S23} (h : eqOffer a b = true) : a = b := by
  unfold eqOffer at h
  rw [Bool.and_eq_true, Bool.and_eq_true] at h
  obtain ⟨h0, h1, h2⟩ := h
  cases a
  cases b
  simp only [S23.mk.injEq]
  exact ⟨toList_inj h0, toList_inj h1, toList_inj h2⟩
theorem eqOffer_self (a : S23) : eqOffer a a = true := by simp [eqOffer]
theorem offer_run : KeyRun Try.prog 23 keyV eqOffer where
  kind := ⟨_, Try.underlying23⟩
  check := fun w em x => by kernel_rfl
  equal := fun w x y => by
    refine eqA_of (d := 9999) Try.underlying23 (by kernel_rfl) ?_
    refine eqf_cons (by kernel_rfl) (by kernel_rfl) (by kernel_rfl) (run_equalIn_string w _ _ _ _ Try.underlying9) ?_
    refine eqf_cons (by kernel_rfl) (by kernel_rfl) (by kernel_rfl) (run_equalIn_string w _ _ _ _ Try.underlying9) ?_
    exact eqf_last (by kernel_rfl) (by kernel_rfl) (by kernel_rfl) (run_equalIn_string w _ _ _ _ Try.underlying9)
  stays := fun w x y h => by
    obtain rfl := eqOffer_eq h
    simp [Instr.keyThatStays, keyV, Instr.sameBits, beq_toListBytes]
def coolStep (a1 : Int) (m : List (S23 × Bool)) (c : S25) : List (S23 × Bool) := if c.f1 > a1 then putM eqOffer c.f0 true m else m
def coolM (l : List S25) (a1 : Int) : List (S23 × Bool) := l.foldl (coolStep a1) []
theorem coolM_step (l : List S25) (a1 : Int) (i : Nat) (h : i < l.length) : coolM (l.take (i + 1)) a1 = coolStep a1 (coolM (l.take i) a1) (rd_T25 l i) := by
  unfold coolM rd_T25
  rw [List.take_add_one, List.getElem?_eq_getElem h, Option.toList_some, List.foldl_append, Int.toNat_natCast, List.getD_eq_getElem?_getD, List.getElem?_eq_getElem h]
  rfl
theorem MapAt.below {w w' : World} {b base : Nat} {L : List (S23 × Bool)} (h : MapAt w b keyV Value.bool L) (hb : Below base w w') (hl : b < base) : MapAt w' b keyV Value.bool L := h.kept (fun i _ e => hb.block i (by omega))

attribute [local go_sem] run_makeMap
set_option maxHeartbeats 1000000 in
theorem cool_cool.calls (A0 : Option Addr) (c0 : Nat) (l0 : List S25) (a1 : Int) (w : World) (hr0 : Kd.C k25 w A0 l0.length l0) (hc0 : l0.length ≤ c0) (hl : l0.length ≤ 9223372036854775806) :
    Calls Try.prog 31 #[.slice A0 l0.length c0, .int .i64 a1] w fun e w' => e = .returned (.map (some w.heap.size)) ∧ MapAt w' w.heap.size keyV Value.bool (coolM l0 a1) ∧ Below w.heap.size w w' := by
  have hu25 := Try.underlying25
  have hu23 := Try.underlying23
  have HR0 := Aside0.mk hr0
  clear hr0
  have HB := Aside0.mk (below_alloc (Below.refl w.heap.size w) (.map #[] 0))
  have HM := Aside0.mk (MapAt.made w keyV Value.bool)
  go_enter Try.func31, Try.ntmps31
  go_wp2
  generalize w.alloc (.map #[] 0) = W1 at HB HM ⊢
  go_loopg [11] l0.length (fun k v w' => ∃ i : Nat, v = .int .i64 i ∧ i + k = l0.length ∧ Aside0 (MapAt w' w.heap.size keyV Value.bool (coolM (l0.take i) a1)) ∧ Aside0 (Below w.heap.size w w'))
  case atStart => exact ⟨0, rfl, by omega, HM, HB⟩
  case round =>
    clear HB HM
    obtain ⟨i, rfl, hik, HM, HB⟩ := hrel
    by_cases hlt : i < l0.length
    · have hs := Aside0.mk (coolM_step l0 a1 i hlt)
      obtain ⟨ad, rfl, h0, h1, h2, h3⟩ := at_T25 HR0.out i (by omega) (by omega)
      replace h0 := (HB.out.cell (World.block_lt_of_cell? w _ h0)).trans h0
      replace h1 := (HB.out.cell (World.block_lt_of_cell? w _ h1)).trans h1
      replace h2 := (HB.out.cell (World.block_lt_of_cell? w _ h2)).trans h2
      replace h3 := (HB.out.cell (World.block_lt_of_cell? w _ h3)).trans h3
      rw [Int.toNat_natCast] at h0 h1 h2 h3
      by_cases hc : (rd_T25 l0 i).f1 > a1
      · have e1 : coolStep a1 (coolM (l0.take i) a1) (rd_T25 l0 i) = putM eqOffer (rd_T25 l0 i).f0 true (coolM (l0.take i) a1) := if_pos hc
        have HN := Aside0.mk (hs.out.trans e1)
        clear e1 hs
        have hcb : decide (a1 < (rd_T25 l0 i).f1) = true := decide_eq_true hc
        clear hc
        go_wp2_with (at_mapUpdate; refine wpList_putM (eq := eqOffer) _ rfl _ _ _ 53 rfl 4 offer_run Try.underlying53 w.heap.size (coolM (l0.take i) a1) rfl ?sm (rd_T25 l0 i).f0 true rfl rfl ?_; (case sm => exact MapAt.kept HM.out (fun k hk _ => Below.heap_alloc _ _ _ hk)); intro w2 hm2 hg2; have HM2 := Aside0.mk hm2; have HG2 := Aside0.mk hg2; clear hm2 hg2)
        go_roundg (gk - 1)
        case measure => omega
        case rel => exact ⟨i + 1, by go_num, by omega, by rw [HN.out]; exact HM2, ⟨pw_below_grown (below_alloc HB.out _) (some w.heap.size) (below_alloc HB.out _).size HG2.out (fun k e => by cases e; exact Nat.le_refl _)⟩⟩
      · have e1 : coolStep a1 (coolM (l0.take i) a1) (rd_T25 l0 i) = coolM (l0.take i) a1 := if_neg hc
        have HN := Aside0.mk (hs.out.trans e1)
        clear e1 hs
        have hcb : decide (a1 < (rd_T25 l0 i).f1) = false := decide_eq_false hc
        clear hc
        go_wp2
        go_roundg (gk - 1)
        case measure => omega
        case rel => exact ⟨i + 1, by go_num, by omega, ⟨by rw [HN.out]; exact MapAt.kept HM.out (fun k hk _ => Below.heap_alloc _ _ _ hk)⟩, ⟨below_alloc HB.out _⟩⟩
    · have hil : i = l0.length := by omega
      have HM2 : Aside0 (MapAt wr w.heap.size keyV Value.bool (coolM l0 a1)) := ⟨by have := HM.out; rwa [hil, List.take_length] at this⟩
      clear HM
      go_wp2
      go_ret
      exact ⟨rfl, HM2.out, HB.out⟩

def lookB (m : List (S23 × Bool)) (x : S23) : Bool := (lookM eqOffer x m).getD false
theorem zero_bool (w : World) : (zeroValue 4).run Try.prog w = .ok (.bool false) w := by kernel_rfl
theorem run_lookB {w : World} {b : Nat} {m : List (S23 × Bool)} (h : MapAt w b keyV Value.bool m) (x : S23) :
    (Instr.lookup 53 (.map (some b)) (.agg #[.string x.f0, .string x.f1, .string x.f2]) false).run Try.prog w = .ok (.bool (lookB m x)) w := by
  have h1 := run_lookM offer_run Try.underlying53 h x (zero_bool w)
  unfold lookB
  rw [show (.agg #[.string x.f0, .string x.f1, .string x.f2] : Value) = keyV x from rfl, h1]
  cases lookM eqOffer x m <;> rfl

def cool_IsCool.f (l0 : List S25) (a1_0 a1_1 a1_2 : ByteArray) (a2 : Int) : Option Bool :=
  if l0.length ≤ 9223372036854775806 then some (lookB (coolM l0 a2) ⟨a1_0, a1_1, a1_2⟩) else none

theorem cool_IsCool.calls (A0 : Option Addr) (c0 : Nat) (l0 : List S25) (a1_0 : ByteArray) (a1_1 : ByteArray) (a1_2 : ByteArray) (a2 : Int) (r : Bool) (w : World) (hr0 : Kd.C k25 w A0 l0.length l0) (hc0 : l0.length ≤ c0) (h : cool_IsCool.f l0 a1_0 a1_1 a1_2 a2 = some r) :
    Calls Try.prog 21 #[.slice A0 l0.length c0, .agg #[.string a1_0, .string a1_1, .string a1_2], .int .i64 a2] w fun e w' => e = .returned (.bool r) ∧ Below w.heap.size w w' := by
  unfold cool_IsCool.f at h
  split at h
  · rename_i hl
    obtain rfl := Option.some.inj h
    have hu23 := Try.underlying23
    have HR0 := Aside0.mk (Kd.C_alloc hr0 (.cells #[.string a1_0, .string a1_1, .string a1_2] 23))
    have HB := Aside0.mk (below_alloc (Below.refl w.heap.size w) (.cells #[.string a1_0, .string a1_1, .string a1_2] 23))
    have HK := Aside0.mk (show Blk (w.alloc (.cells #[.string a1_0, .string a1_1, .string a1_2] 23)) w.heap.size [.string a1_0, .string a1_1, .string a1_2] 23 from Blk.alloc_new w _ _)
    clear hr0
    go_enter Try.func21, Try.ntmps21
    go_wp2
    generalize w.alloc (.cells #[.string a1_0, .string a1_1, .string a1_2] 23) = W1 at HR0 HB HK ⊢
    have b0 : W1.cell? ⟨w.heap.size, 0, none⟩ = some (.string a1_0) := HK.out.cell 0
    have b1 : W1.cell? ⟨w.heap.size, 1, none⟩ = some (.string a1_1) := HK.out.cell 1
    have b2 : W1.cell? ⟨w.heap.size, 2, none⟩ = some (.string a1_2) := HK.out.cell 2
    go_region_with (go_at_call 31; refine (cool_cool.calls A0 c0 l0 a2 _ ?sr hc0 hl).mono ?_; (case sr => exact Kd.C_drew HR0.out); rintro e w2 ⟨rfl, hm, hb⟩; have hlk : (Instr.lookup 53 (.map (some W1.heap.size)) (.agg #[.string a1_0, .string a1_1, .string a1_2]) false).run Try.prog w2 = .ok (.bool (lookB (coolM l0 a2) ⟨a1_0, a1_1, a1_2⟩)) w2 := run_lookB hm ⟨a1_0, a1_1, a1_2⟩; have k0 := (hb.cell (World.block_lt_of_cell? W1 _ b0)).trans b0; have k1 := (hb.cell (World.block_lt_of_cell? W1 _ b1)).trans b1; have k2 := (hb.cell (World.block_lt_of_cell? W1 _ b2)).trans b2; have HB2 := Aside0.mk (below_then (below_drew HB.out) HB.out.size hb); have HM := Aside0.mk hm; clear hm hb)
    all_goals
      go_wp2
      go_ret
      exact ⟨rfl, HB2.out⟩
  · cases h

def leftStep (m : List (S23 × Bool)) (out : List S23) (x : S23) : List S23 := if lookB m x = true then out else out ++ [x]
def leftL (m : List (S23 × Bool)) (l : List S23) : List S23 := l.foldl (leftStep m) []
theorem leftL_step (m : List (S23 × Bool)) (l : List S23) (i : Nat) (h : i < l.length) : leftL m (l.take (i + 1)) = leftStep m (leftL m (l.take i)) (rd_T23 l i) := by
  unfold leftL rd_T23
  rw [List.take_add_one, List.getElem?_eq_getElem h, Option.toList_some, List.foldl_append, Int.toNat_natCast, List.getD_eq_getElem?_getD, List.getElem?_eq_getElem h]
  rfl
theorem leftL_len (m : List (S23 × Bool)) : ∀ (l : List S23) (o : List S23), (l.foldl (leftStep m) o).length ≤ o.length + l.length
  | [], o => Nat.le_refl _
  | x :: r, o => by
    rw [List.foldl_cons, List.length_cons]
    refine Nat.le_trans (leftL_len m r _) ?_
    unfold leftStep
    split
    · omega
    · simp only [List.length_append, List.length_singleton]
      omega
def cool_Left.f (l0 : List S25) (l1 : List S23) (a2 : Int) : Option (List S23) :=
  if l0.length ≤ 9223372036854775806 ∧ l1.length ≤ 2932031007402 then some (leftL (coolM l0 a2) l1) else none
theorem k23_flat {w w1 : World} {base : Nat} {ok : Nat → Prop} {x : S23} {cs : List Value} (h : k23.K w x cs) : k23.M w1 base ok x cs := by
  obtain rfl := k23_open h
  exact k23_mkM _ _ _ _

set_option maxHeartbeats 1000000 in
theorem cool_Left.calls (A0 : Option Addr) (c0 : Nat) (l0 : List S25) (A1 : Option Addr) (c1 : Nat) (l1 : List S23) (a2 : Int) (r : List S23) (w : World) (hr0 : Kd.C k25 w A0 l0.length l0) (hc0 : l0.length ≤ c0) (hr1 : Kd.C k23 w A1 l1.length l1) (hc1 : l1.length ≤ c1) (h : cool_Left.f l0 l1 a2 = some r) :
    Calls Try.prog 15 #[.slice A0 l0.length c0, .slice A1 l1.length c1, .int .i64 a2] w fun e w' => ∃ v0_ : Value, e = .returned (v0_) ∧ Kd.R k23 23 w' w.heap.size (fun _ => True) v0_ r ∧ Below w.heap.size w w' := by
  unfold cool_Left.f at h
  split at h
  · rename_i hl
    obtain ⟨hl0, hl1⟩ := hl
    obtain rfl := Option.some.inj h
    have hu23 := Try.underlying23
    have HR0 := Aside0.mk hr0
    have HR1 := Aside0.mk hr1
    clear hr0 hr1
    obtain ⟨m, hm⟩ : ∃ m, m = coolM l0 a2 := ⟨_, rfl⟩
    rw [← hm]
    have hcells : ∀ i, i < l1.length → ∃ ad, A1 = some ad ∧ w.cell? (ad.add (i * 3)) = some (.string (rd_T23 l1 i).f0) ∧ w.cell? ⟨(ad.add (i * 3)).block, (ad.add (i * 3)).off + 1, none⟩ = some (.string (rd_T23 l1 i).f1) ∧ w.cell? ⟨(ad.add (i * 3)).block, (ad.add (i * 3)).off + 2, none⟩ = some (.string (rd_T23 l1 i).f2) := fun i hi => by
      have := at_T23 HR1.out i (by omega) (by omega)
      rwa [Int.toNat_natCast] at this
    have HC := Aside0.mk hcells
    clear hcells
    go_enter Try.func15, Try.ntmps15
    go_wp2_with (go_at_call 31; refine (cool_cool.calls A0 c0 l0 a2 _ HR0.out hc0 hl0).mono ?_; rintro e w2 ⟨rfl, hm2, hb2⟩; rw [← hm] at hm2; have HM := Aside0.mk hm2; have HB := Aside0.mk hb2; clear hm2 hb2)
    clear hm
    go_loopg [8, 16] l1.length (fun k v8 v w' => ∃ i : Nat, v = .int .i64 i ∧ i + k = l1.length ∧ Aside0 (Kd.R k23 23 w' (w.heap.size + 1) (fun _ => True) v8 (leftL m (l1.take i))) ∧ Aside0 (Below (w.heap.size + 1) w2 w') ∧ Aside0 (w.heap.size + 1 ≤ w'.heap.size))
    case atStart => exact ⟨0, rfl, by omega, ⟨Kd.R_nil _ _ _ _ _⟩, ⟨Below.refl _ _⟩, ⟨HM.out.lt⟩⟩
    case round =>
      obtain ⟨i, rfl, hik, HO, HW, HZ⟩ := hrel
      by_cases hlt : i < l1.length
      · have hs := Aside0.mk (leftL_step m l1 i hlt)
        have hlen : Aside0 ((leftL m (l1.take i)).length ≤ i) := ⟨Nat.le_trans (leftL_len m (l1.take i) []) (by simp; omega)⟩
        obtain ⟨ad, rfl, h0, h1, h2⟩ := HC.out i hlt
        have up : ∀ {a : Addr} {v : Value}, w.cell? a = some v → wr.cell? a = some v := fun {a v} h => by
          have hb := World.block_lt_of_cell? w _ h
          have h1 := (HB.out.cell hb).trans h
          exact (HW.out.cell (Nat.lt_succ_of_lt hb)).trans h1
        replace h0 := up h0
        replace h1 := up h1
        replace h2 := up h2
        clear up
        generalize rd_T23 l1 i = x at hs h0 h1 h2
        have hlk : ∀ o, (Instr.lookup 53 (.map (some w.heap.size)) (.agg #[.string x.f0, .string x.f1, .string x.f2]) false).run Try.prog (wr.alloc o) = .ok (.bool (lookB m x)) (wr.alloc o) := fun o => run_lookB (MapAt.kept (MapAt.below HM.out HW.out (Nat.lt_succ_self _)) (fun k hk _ => Below.heap_alloc _ _ _ hk)) x
        cases hc : lookB m x with
        | true =>
          have e1 : leftStep m (leftL m (l1.take i)) x = leftL m (l1.take i) := if_pos hc
          have HN := Aside0.mk (hs.out.trans e1)
          rw [hc] at hlk
          clear e1 hs hc
          go_wp2
          go_roundg (gk - 1)
          case measure => omega
          case rel => exact ⟨i + 1, by go_num, by omega, ⟨by rw [HN.out]; exact Kd.R_alloc HO.out _⟩, ⟨HW.out.alloc HZ.out _⟩, ⟨Nat.le_trans HZ.out (below_alloc (Below.refl _ _) _).size⟩⟩
        | false =>
          have e1 : leftStep m (leftL m (l1.take i)) x = leftL m (l1.take i) ++ [x] := if_neg (by rw [hc]; decide)
          have HN := Aside0.mk (hs.out.trans e1)
          rw [hc] at hlk
          clear e1 hs hc
          go_wp2_with (at_builtin; refine Kd.R_append k23 (w0 := w2) (w.heap.size + 1) rfl _ _ 35 23 _ 48 rfl Try.underlying35 info23 rfl (by decide) (by decide) _ (leftL m (l1.take i)) x [.string x.f0, .string x.f1, .string x.f2] (fun _ => True) (fun _ => False) rfl (by rw [show (wr.alloc (.cells #[.string x.f0, .string x.f1, .string x.f2] 23)).heap.size = wr.heap.size + 1 by simp]; rfl) (k23_mkM _ _ _ x) (fun _ hk => hk.elim) (fun _ _ => trivial) (Kd.R_alloc HO.out _) (HW.out.alloc HZ.out _) (Nat.le_trans HZ.out (below_alloc (Below.refl _ _) _).size) (by have := hlen.out; omega) ?_; intro v1 w1 ho hb hg hat; have HO2 := Aside0.mk ho; have HW2 := Aside0.mk hb; have HZ2 := Aside0.mk (Nat.le_trans (Nat.le_trans HZ.out (below_alloc (Below.refl _ _) _).size) hg.size); clear ho hb hg hat)
          go_roundg (gk - 1)
          case measure => omega
          case rel => exact ⟨i + 1, by go_num, by omega, ⟨by rw [HN.out]; exact HO2.out⟩, HW2, HZ2⟩
      · have hil : i = l1.length := by omega
        have HO2 := HO.out
        rw [hil, List.take_length] at HO2
        have HO3 := Aside0.mk HO2
        clear HO HO2
        go_wp2
        go_ret
        exact ⟨_, rfl, Kd.R_lower HO3.out (Nat.le_succ _), HB.out.trans ⟨HW.out.os, HW.out.tape, HW.out.output, HW.out.size, fun k hk => HW.out.block k (Nat.lt_succ_of_lt hk)⟩⟩
  · cases h
end Go.Proofs.Ytiodidhbkgnicaa.PAll
