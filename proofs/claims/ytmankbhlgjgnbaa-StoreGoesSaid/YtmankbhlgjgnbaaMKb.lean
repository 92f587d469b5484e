import Derived.Test.YtmankbhlgjgnbaaEKspoil
import Derived.Maps.RangeRun
section
/-! A range over a map of items: what 'next' and 'entry' answer, over the list of its entries. -/
namespace Go.Proofs.Ytmankbhlgjgnbaa.PAll
open Go.RowKit Go.Proofs.YtmankbhlgjgnbaaW.PrintWords Go.Proofs.YtmankbhlgjgnbaaW.PrintLast Go.Proofs.YtmankbhlgjgnbaaW.PrintMore Mem
set_option linter.unusedVariables false
set_option linter.unusedSimpArgs false
theorem filter_pick {α : Type} (f : α → Nat) (p : Nat → Bool) : ∀ (Z : List α) (z : α), (Z.map f).Nodup → z ∈ Z → p (f z) = true → (Z.filter (fun a => p (f a))).Perm (z :: Z.filter (fun a => p (f a) && !(f a == f z)))
  | [], z, _, hz, _ => by cases hz
  | a :: r, z, hn, hz, hp => by
    have hn2 : f a ∉ r.map f ∧ (r.map f).Nodup := List.nodup_cons.1 hn
    rcases List.mem_cons.1 hz with rfl | hz
    · rw [List.filter_cons_of_pos (by simpa using hp), List.filter_cons_of_neg (by simp)]
      refine List.Perm.cons _ (List.Perm.of_eq (List.filter_congr fun a ha => ?_))
      have hne : (f a == f z) = false := beq_eq_false_iff_ne.2 (fun e => hn2.1 (e ▸ List.mem_map_of_mem ha))
      rw [hne]
      simp
    · have ih := filter_pick f p r z hn2.2 hz hp
      have hne : (f a == f z) = false := beq_eq_false_iff_ne.2 (fun e => hn2.1 (e ▸ List.mem_map_of_mem hz))
      by_cases hq : p (f a) = true
      · rw [List.filter_cons_of_pos (by simpa using hq), List.filter_cons_of_pos (by simp [hq, hne])]
        exact (List.Perm.cons a ih).trans (List.Perm.swap _ _ _)
      · rw [List.filter_cons_of_neg (by simpa using hq), List.filter_cons_of_neg (by simp [hq])]
        exact ih
/-- The entries that the iterator has not handed out. -/
def leftL (es : Array MapEntry) (L : List (Key × CI)) (seen : Array Nat) : List (Key × CI) := ((es.toList.zip L).filter (fun q => !seen.contains q.1.born)).map (·.2)
theorem leftL_start (es : Array MapEntry) (L : List (Key × CI)) (h : es.toList.length = L.length) : leftL es L #[] = L := by
  unfold leftL
  rw [List.filter_eq_self.2 (fun q _ => by simp)]
  exact List.map_snd_zip (by omega)
theorem zip_born (es : List MapEntry) (L : List (Key × CI)) (h : es.length = L.length) : (es.zip L).map (fun q => q.1.born) = es.map (·.born) := by
  have : (es.zip L).map (·.1) = es := List.map_fst_zip (by omega)
  have h2 := congrArg (List.map (·.born)) this
  rw [List.map_map] at h2
  exact h2
theorem zip_same : ∀ (es : List MapEntry) (L : List (Key × CI)), es.map (fun e => (e.key, e.val)) = L.map (fun p => (keyV p.1, itemV p.2)) → ∀ q ∈ es.zip L, q.1.key = keyV q.2.1 ∧ q.1.val = itemV q.2.2
  | [], _, _, q, hq => by simp at hq
  | e :: es, [], h, q, hq => by simp at hq
  | e :: es, x :: L, h, q, hq => by
    rw [List.map_cons, List.map_cons] at h
    obtain ⟨h1, h2⟩ := List.cons.inj h
    rw [List.zip_cons_cons] at hq
    rcases List.mem_cons.1 hq with rfl | hq
    · obtain ⟨h3, h4⟩ := Prod.mk.inj h1
      exact ⟨h3, h4⟩
    · exact zip_same es L h2 q hq
theorem zip_has : ∀ (es : List MapEntry) (L : List (Key × CI)) (e : MapEntry), es.length = L.length → e ∈ es → ∃ x, (e, x) ∈ es.zip L
  | [], _, e, _, he => by cases he
  | _ :: _, [], e, hl, he => by simp at hl
  | a :: es, x :: L, e, hl, he => by
    rw [List.zip_cons_cons]
    rcases List.mem_cons.1 he with rfl | he
    · exact ⟨x, by simp⟩
    · obtain ⟨y, hy⟩ := zip_has es L e (by simpa using hl) he
      exact ⟨y, List.mem_cons_of_mem _ hy⟩
theorem leftL_step (es : Array MapEntry) (L : List (Key × CI)) (seen : Array Nat) (hl : es.toList.length = L.length) (hn : (es.toList.map (·.born)).Nodup) (e : MapEntry) (x : Key × CI) (hz : (e, x) ∈ es.toList.zip L) (he : seen.contains e.born = false) :
    (leftL es L seen).Perm (x :: leftL es L (seen.push e.born)) := by
  unfold leftL
  have h := filter_pick (fun q : MapEntry × (Key × CI) => q.1.born) (fun b => !seen.contains b) (es.toList.zip L) (e, x) (by rw [zip_born _ _ hl]; exact hn) hz (by simp only [he]; rfl)
  refine (h.map (·.2)).trans ?_
  rw [List.map_cons]
  refine List.Perm.cons _ (List.Perm.of_eq ?_)
  congr 1
  refine List.filter_congr fun q _ => ?_
  rw [Array.contains_push, Bool.not_or, Bool.and_comm]
theorem leftL_empty (es : Array MapEntry) (L : List (Key × CI)) (seen : Array Nat) (hl : es.toList.length = L.length) (h : (leftOf es seen).size = 0) : leftL es L seen = [] := by
  unfold leftL
  rw [List.map_eq_nil_iff, List.filter_eq_nil_iff]
  intro q hq
  have hm : q.1 ∈ es.toList := (List.of_mem_zip hq).1
  unfold leftOf at h
  have h2 : es.filter (fun e => !seen.contains e.born) = #[] := Array.eq_empty_of_size_eq_zero h
  rw [Array.filter_eq_empty_iff] at h2
  exact h2 q.1 (by simpa using hm)
/-- What a range is over. -/
structure RangeM (w : World) (b : Nat) (Lc : List (Key × CI)) (es : Array MapEntry) (clock : Nat) : Prop where
  hb : w.heap[b]? = some (.map es clock)
  hl : es.toList.map (fun e => (e.key, e.val)) = Lc.map (fun p => (keyV p.1, itemV p.2))
  hs : Born es clock
theorem RangeM.len {w : World} {b : Nat} {Lc : List (Key × CI)} {es : Array MapEntry} {clock : Nat} (h : RangeM w b Lc es clock) : es.toList.length = Lc.length := by
  have := congrArg List.length h.hl
  simpa using this
theorem RangeM.kept {w w' : World} {b : Nat} {Lc : List (Key × CI)} {es : Array MapEntry} {clock : Nat} (h : RangeM w b Lc es clock) (e : w'.heap[b]? = w.heap[b]?) : RangeM w' b Lc es clock := ⟨e.trans h.hb, h.hl, h.hs⟩
theorem range_next {P : Program} {w : World} {b r : Nat} {Lc : List (Key × CI)} {es : Array MapEntry} {clock : Nat} {seen : Array Nat} (h : RangeM w b Lc es clock) (hr : w.heap[r]? = some (.mapIter (some b) clock seen clock)) :
    (leftL es Lc seen = [] ∧ ∀ ty, (Instr.next (.pointer (some ⟨r, 0, none⟩)) false ty).run P w = .ok (.tuple #[.bool false]) w) ∨
    ∃ x ∈ Lc, ∃ nb w2, (leftL es Lc seen).Perm (x :: leftL es Lc (seen.push nb)) ∧ (∀ ty, (Instr.next (.pointer (some ⟨r, 0, none⟩)) false ty).run P w = .ok (.tuple #[.bool true, keyV x.1, itemV x.2]) w2) ∧
      w2.heap[r]? = some (.mapIter (some b) clock (seen.push nb) clock) ∧ w.grownBy w2 (some r) ∧ (Instr.entry (.pointer (some ⟨r, 0, none⟩))).run P w2 = .ok (.tuple #[keyV x.1, itemV x.2]) w2 := by
  have hrb : r ≠ b := fun e => by rw [e, h.hb] at hr; cases hr
  have hlt : r < w.heap.size := (Array.getElem?_eq_some_iff.1 hr).1
  have hlen := h.len
  by_cases h0 : (leftOf es seen).size = 0
  · refine .inl ⟨leftL_empty es Lc seen hlen h0, fun ty => ?_⟩
    rcases run_next_at (P := P) w ty r b clock clock seen es clock hr h.hb h.hs.1 (Nat.le_refl _) with ⟨_, hrun⟩ | ⟨e, he, _⟩
    · exact hrun
    · exfalso
      have : (leftOf es seen).toList.length = 0 := by simpa using h0
      rw [List.length_eq_zero_iff] at this
      rw [this] at he
      cases he
  · rcases run_next_at (P := P) w 0 r b clock clock seen es clock hr h.hb h.hs.1 (Nat.le_refl _) with ⟨h1, _⟩ | ⟨e, he, w1, hw1, hrun⟩
    · exact absurd h1 h0
    · have hm := mem_left he
      obtain ⟨x, hx⟩ := zip_has es.toList Lc e hlen hm.1
      obtain ⟨hk, hv⟩ := zip_same _ _ h.hl _ hx
      have hk' : e.key = keyV x.1 := hk
      have hv' : e.val = itemV x.2 := hv
      have hh1 : w1.heap = w.heap := by rcases hw1 with rfl | rfl <;> rfl
      have hr2 : (ChangeMaps.setBlock w1 r (.mapIter (some b) clock (seen.push e.born) clock)).heap[r]? = some (.mapIter (some b) clock (seen.push e.born) clock) := by
        unfold ChangeMaps.setBlock
        show (w1.heap.setIfInBounds r _)[r]? = _
        rw [hh1]
        simp [hlt]
      have hg : w.grownBy (ChangeMaps.setBlock w1 r (.mapIter (some b) clock (seen.push e.born) clock)) (some r) := by
        refine ⟨by rcases hw1 with rfl | rfl <;> rfl, by rcases hw1 with rfl | rfl <;> rfl, by rcases hw1 with rfl | rfl <;> rfl, ?_, fun i hi hne => ?_⟩
        · unfold ChangeMaps.setBlock
          show w.heap.size ≤ (w1.heap.setIfInBounds r _).size
          rw [hh1]
          simp
        · unfold ChangeMaps.setBlock
          show (w1.heap.setIfInBounds r _)[i]? = _
          rw [hh1]
          have : r ≠ i := fun e => hne (by rw [e])
          simp [this]
      have hb2 : (ChangeMaps.setBlock w1 r (.mapIter (some b) clock (seen.push e.born) clock)).heap[b]? = some (.map es clock) := (hg.block b (Array.getElem?_eq_some_iff.1 h.hb).1 (fun e => hrb (Option.some.inj e).symm)).trans h.hb
      have hen := run_entry_at (P := P) _ r b clock seen es clock e hr2 hb2 hm.1 h.hs.2
      rw [hk', hv'] at hrun hen
      have hnc : seen.contains e.born = false := by
        have h3 := hm.2
        simpa using h3
      refine .inr ⟨x, (List.of_mem_zip hx).2, e.born, _, leftL_step es Lc seen hlen h.hs.2 e x hx hnc, fun ty => ?_, hr2, hg, hen⟩
      exact hrun
end Go.Proofs.Ytmankbhlgjgnbaa.PAll
end
section
/-! The store: Clone. -/
namespace Go.Proofs.Ytmankbhlgjgnbaa.PAll
open Go.RowKit Go.Proofs.YtmankbhlgjgnbaaW.PrintWords Go.Proofs.YtmankbhlgjgnbaaW.PrintLast Go.Proofs.YtmankbhlgjgnbaaW.PrintMore Mem
set_option linter.unusedVariables false
set_option linter.unusedSimpArgs false
theorem size_key : (Try.prog.info? 52).map (·.size) = some 2 := by kernel_rfl
theorem zero_key (w : World) : (zeroValue 52).run Try.prog w = .ok (keyV (0, ⟨#[]⟩)) w := by kernel_rfl
def keyC (k : Key) : List Value := [.int .i64 k.1, .string k.2]
theorem keyC_one (k : Key) : ∀ u ∈ keyC k, u.oneCell' = true := by
  intro u hu
  unfold keyC at hu
  simp only [List.mem_cons, List.not_mem_nil, or_false] at hu
  rcases hu with rfl | rfl <;> rfl
theorem putM_new (k : Key) (y : CI) : ∀ Ld : List (Key × CI), (∀ q ∈ Ld, q.1 ≠ k) → putM eqKey k y Ld = Ld ++ [(k, y)]
  | [], _ => rfl
  | q :: r, h => by
    unfold putM
    rw [if_neg (fun e => h q (by simp) (eqKey_eq e).symm), putM_new k y r (fun q hq => h q (by simp [hq]))]
    rfl
section
variable {P : Program} {ops : Array Oper} {rest : List Oper} {o : Oper} {a : Act} {Q : Exit → Act → World → Prop} {K : Act → World → Prop} {w : World}
theorem makeMap_at (hgd : o.guard = none) {t : TypeId} (ho : o.op = .makeMap t none)
    (h : ∀ g, g = w.heap.size → ∀ w', MapAt w' g keyV itemV [] → Below w.heap.size w w' → wpList P ops Q rest (a.put o.dst (.map (some g))) w') : wpList P ops Q (o :: rest) a w := by
  refine Kd.event_run hgd (v := .map (some w.heap.size)) (w1 := w.alloc (.map #[] 0)) ?_ (h _ rfl _ (MapAt.made w keyV itemV) (below_alloc (Below.refl _ _) _))
  simp [execOp, ho, Instr.makeMap, Result.andThen]
theorem range_at (hgd : o.guard = none) {t k e : TypeId} {x : Operand} (ho : o.op = .range t x) (ht : P.underlying t = some (.map k e)) (b : Nat) (Lc : List (Key × CI)) (es : Array MapEntry) (clock : Nat) (hx : a.eval x = .map (some b)) (hM : RangeM w b Lc es clock)
    (h : ∀ r, r = w.heap.size → ∀ w', w'.heap[r]? = some (.mapIter (some b) clock #[] clock) → Below w.heap.size w w' → wpList P ops Q rest (a.put o.dst (.pointer (some ⟨r, 0, none⟩))) w') : wpList P ops Q (o :: rest) a w := by
  refine Kd.event_run hgd (v := .pointer (some ⟨w.heap.size, 0, none⟩)) (w1 := w.alloc (.mapIter (some b) clock #[] clock)) ?_ (h _ rfl _ (heap_alloc_new w _) (below_alloc (Below.refl _ _) _))
  simp [execOp, ho, hx, run_range_map w t k e b es clock ht hM.hb, Result.andThen]
theorem putM_reg (hw : Region.wanted o (yielded ops a.tmps) = true) (hN : o.dst = none) {t e : TypeId} {m x v : Operand} (ho : o.op = .mapUpdate t m x v) (ht : Try.prog.underlying t = some (.map 52 e)) (b : Nat) (L : List (Key × CI)) (hm : a.eval m = .map (some b)) (h : MapAt w b keyV itemV L) (x0 : Key) (v0 : CI) (hx : a.eval x = keyV x0) (hv : a.eval v = itemV v0)
    (hK : ∀ w', MapAt w' b keyV itemV (putM eqKey x0 v0 L) → w.grownBy w' (some b) → K a w') : if Region.wanted o (yielded ops a.tmps) = true then Oper.wp Try.prog o a w K Q else K (a.put none undef) w := by
  obtain ⟨w', hrun, r1, r2⟩ := run_putM key_run ht h x0 v0
  refine skip_ (w1 := w') hw hN ?_ (hK _ r1 r2)
  simp [execOp, ho, hm, hx, hv, hrun, Result.andThen]
end
theorem RowOK.grownIn {w w' : World} {x : CI} {row : Option Nat} (h : RowOK w x) (h1 : x.H ≠ [] → ∀ ad, x.ha = some ad → some ad.block ≠ row) (h2 : x.B ≠ [] → ∀ ad, x.ba = some ad → some ad.block ≠ row) (hg : w.grownBy w' row) : RowOK w' x :=
  ⟨C_grown h.hr h1 hg, h.hc, C_grown h.br h2 hg, h.bc⟩
theorem RowNew.at {w : World} {base : Nat} {x : CI} (h : RowNew w base x) : (x.H ≠ [] → ∀ ad, x.ha = some ad → base ≤ ad.block) ∧ (x.B ≠ [] → ∀ ad, x.ba = some ad → base ≤ ad.block) := by
  refine ⟨fun hne ad e => ?_, fun hne ad e => ?_⟩
  · exact h.hr.1 ad.block (by rw [e]; simp [Value.ownBlock])
  · exact h.br.1 ad.block (by rw [e]; simp [Value.ownBlock])
set_option maxHeartbeats 8000000 in
set_option maxRecDepth 100000 in
theorem Clone.calls (w : World) (p b : Nat) (Lc : List (Key × CI)) (n : Int) (hB : StoreB w p b Lc n) (hk : (Lc.map (·.1)).Nodup) (hf : ∀ q ∈ Lc, Fits q.2) :
    Calls Try.prog 25 #[ptrV p] w fun e w' => ∃ (p2 b2 : Nat) (Ld : List (Key × CI)), e = .returned (ptrV p2) ∧ w.heap.size ≤ p2 ∧ w.heap.size ≤ b2 ∧ StoreB w' p2 b2 Ld n ∧ (erase Ld).Perm (erase Lc) ∧ RowsIn Ld (fun k => w.heap.size ≤ k) ∧ Below w.heap.size w w' := by
  have HS := Aside0.mk hB
  have HKEY := Aside0.mk hk
  have HF := Aside0.mk hf
  obtain ⟨es, clock, hb, hl, hs⟩ := hB.map
  have HM : Aside0 (RangeM w b Lc es clock) := Aside0.mk ⟨hb, hl, hs⟩
  have HBL : Aside0 (b < w.heap.size) := Aside0.mk hB.map.lt
  clear hB hk hf hb hl hs
  go_enter Try.func25, Try.ntmps25
  go_wp2_with (first
    | ((with_reducible refine gate_dst (N := 6) rfl ?_); refine makeMap_at rfl rfl ?_; intro b2 hg w1 hm hb
       have HM1 := Aside0.mk hm; have X1 := Aside0.mk hb; have GB2 : Aside0 (w.heap.size ≤ b2) := Aside0.mk (by omega); clear hg hm hb
       have c1 : w1.cell? ⟨p, 1, none⟩ = some (.int .i64 n) := (HS.out.below X1.out).cell1)
    | ((with_reducible refine gate_dst (N := 12) rfl ?_); refine box_at rfl (t := 49) rfl (.agg #[.map (some b2), .int .i64 n]) [.map (some b2), .int .i64 n] rfl rfl ?_; intro p2 hg w2 hk hb
       have BP2 := Aside0.mk hk; have X2 := Aside0.mk (below_then X1.out X1.out.size hb); have HM2 := Aside0.mk (MapAt.kept HM1.out (fun i hi _ => hb.block i hi)); have GP2 : Aside0 (b2 < p2) := Aside0.mk (by have := HM1.out.lt; omega); clear hg hk hb
       have c0 : w2.cell? ⟨p, 0, none⟩ = some (.map (some b)) := (HS.out.below X2.out).cell0)
    | ((with_reducible refine gate_dst (N := 17) rfl ?_); refine range_at rfl rfl Try.underlying47 b Lc es clock rfl (HM.out.kept (X2.out.block b HBL.out)) ?_; intro r hg w3 hi hb
       have HI3 := Aside0.mk hi; have X3 := Aside0.mk (below_then X2.out X2.out.size hb); have HS3 : Aside0 (StoreB w3 p2 b2 [] n) := Aside0.mk ⟨BP2.out.below hb, MapAt.kept HM2.out (fun i hi _ => hb.block i hi), fun q hq => by cases hq⟩; have GR3 : Aside0 (p2 < r) := Aside0.mk (by have := BP2.out.lt; omega); clear hg hi hb))
  simp only [Act.put, List.setIfInBounds_toArray, List.set_cons_zero, List.set_cons_succ]
  go_loopg [4] (Lc.length + 1) (fun kq v4 w' => ∃ (seen : Array Nat) (Ld : List (Key × CI)), Aside0 (kq = (leftL es Lc seen).length + 1) ∧ Aside0 (w'.heap[r]? = some (.mapIter (some b) clock seen clock)) ∧ Aside0 (StoreB w' p2 b2 Ld n) ∧ Aside0 ((erase Ld ++ erase (leftL es Lc seen)).Perm (erase Lc)) ∧ Aside0 (RowsIn Ld (fun k => w.heap.size ≤ k ∧ k ≠ p2 ∧ k ≠ b2 ∧ k ≠ r)) ∧ Aside0 (Below w.heap.size w w'))
  case atStart => exact ⟨#[], [], ⟨by rw [leftL_start es Lc HM.out.len]⟩, HI3, HS3, ⟨by rw [leftL_start es Lc HM.out.len]; exact List.Perm.refl _⟩, ⟨fun q hq => by cases hq⟩, X3⟩
  case round =>
    clear c0 c1
    obtain ⟨seen, Ld, HK, HIT, HSD, HPM, HRI, HB⟩ := hrel
    have HMr := Aside0.mk (HM.out.kept (HB.out.block b HBL.out))
    rcases range_next (P := Try.prog) HMr.out HIT.out with ⟨hnil, hnx⟩ | ⟨x, hxm, nb, w2, hperm, hnx, hr2, hg2, hen⟩
    · have HNIL := Aside0.mk hnil
      clear hnil
      go_wp2
      go_ret
      refine ⟨p2, b2, Ld, rfl, by have := GB2.out; have := GP2.out; omega, GB2.out, HSD.out, ?_, fun q hq => ⟨fun hne ad e => ((HRI.out q hq).1 hne ad e).1, fun hne ad e => ((HRI.out q hq).2 hne ad e).1⟩, HB.out⟩
      have h := HPM.out
      rw [HNIL.out] at h
      rw [show erase ([] : List (Key × CI)) = [] from rfl, List.append_nil] at h
      exact h
    · have HPERM := Aside0.mk hperm
      obtain ⟨k1, hk1⟩ : ∃ k1, gk = k1 + 1 := ⟨gk - 1, by have h1 := HK.out; omega⟩
      subst hk1
      have HR2 := Aside0.mk hr2
      have HG2 := Aside0.mk hg2
      have HX := Aside0.mk hxm
      have HB2 : Aside0 (Below w.heap.size w w2) := Aside0.mk (pw_below_grown HB.out (some r) HB.out.size hg2 (fun k e => by cases e; have := GB2.out; have := GP2.out; have := GR3.out; omega))
      have HSD2 : Aside0 (StoreB w2 p2 b2 Ld n) := Aside0.mk (HSD.out.grownBy (fun q hq => ⟨fun hne ad e h => ((HRI.out q hq).1 hne ad e).2.2.2 (Option.some.inj h), fun hne ad e h => ((HRI.out q hq).2 hne ad e).2.2.2 (Option.some.inj h)⟩) (by have := GR3.out; intro e; have := Option.some.inj e; omega) (by have := GR3.out; have := GP2.out; intro e; have := Option.some.inj e; omega) hg2)
      clear hperm hr2 hg2 hxm
      go_wp2_with (first
        | ((with_reducible refine gate_dst (N := 4) rfl ?_); refine new_at rfl (t := 52) rfl (keyC (0, ⟨#[]⟩)) (keyV (0, ⟨#[]⟩)) (fun W => zero_key W) rfl ?_; intro g4 hg w3 hk hb
           have BZ4 := Aside0.mk hk; have X3 := Aside0.mk hb; have G4 : Aside0 (w2.heap.size ≤ g4) := Aside0.mk (by omega); clear hk hb hg)
        | ((with_reducible refine gate_dst (N := 5) rfl ?_); refine new_at rfl (t := 31) rfl noItem.cells (itemV noItem) (fun W => zero_item W) rfl ?_; intro g5 hg w4 hk hb
           have BZ5 := Aside0.mk hk; have BZ4' := Aside0.mk (BZ4.out.below hb); have X4 := Aside0.mk (below_then X3.out X3.out.size hb); have G5 : Aside0 (g4 < g5) := Aside0.mk (by have h1 := BZ4.out.lt; omega); clear hk hb hg)
        | ((with_reducible refine gate_store (p := 4) rfl ?_); refine store_at rfl (t := 52) rfl rfl g4 0 _ 52 _ rfl rfl BZ4'.out (keyC x.1) rfl size_key (show (2 : Nat) ≤ 2 from Nat.le_refl 2) (keyC_one _) ?_; intro w5 hk hg
           have BK5 : Aside0 (Blk w5 g4 (keyC x.1) 52) := Aside0.mk hk; have BZ5' := Aside0.mk (BZ5.out.grown hg (by have := G5.out; omega)); have X5 := Aside0.mk (pw_below_grown X4.out (some g4) X4.out.size hg (fun k e => by cases e; exact G4.out)); clear hk hg)
        | ((with_reducible refine gate_store (p := 5) rfl ?_); refine store_at rfl (t := 31) rfl rfl g5 0 _ 31 _ rfl rfl BZ5'.out x.2.cells rfl size_item (show (6 : Nat) ≤ 6 from Nat.le_refl 6) (cells_one _) ?_; intro w6 hk hg
           have BI6 : Aside0 (Blk w6 g5 x.2.cells 31) := Aside0.mk hk; have BK6 := Aside0.mk (BK5.out.grown hg (by have := G5.out; omega)); have X6 := Aside0.mk (pw_below_grown X5.out (some g5) X5.out.size hg (fun k e => by cases e; have := G4.out; have := G5.out; omega)); clear hk hg
           have HSD6 := Aside0.mk (HSD2.out.below X6.out); have HB6 := Aside0.mk (below_then HB2.out HB2.out.size X6.out)
           have k0_ : w6.cell? ⟨g4, 0, none⟩ = some (.int .i64 x.1.1) := BK6.out.cell 0; have k1_ : w6.cell? ⟨g4, 1, none⟩ = some (.string x.1.2) := BK6.out.cell 1; have x0_ : w6.cell? ⟨g5, 0, none⟩ = some (.int .i64 x.2.kind) := BI6.out.cell 0; have x1_ : w6.cell? ⟨g5, 1, none⟩ = some (.string x.2.name) := BI6.out.cell 1; have x2_ : w6.cell? ⟨g5, 2, none⟩ = some (.int .i64 x.2.ver) := BI6.out.cell 2; have x3_ : w6.cell? ⟨g5, 3, none⟩ = some (.slice x.2.ha x.2.H.length x.2.hc) := BI6.out.cell 3; have x4_ : w6.cell? ⟨g5, 4, none⟩ = some (.slice x.2.ba x.2.B.length x.2.bc) := BI6.out.cell 4; have x5_ : w6.cell? ⟨g5, 5, none⟩ = some (.bool x.2.going) := BI6.out.cell 5
           have m0_ : w6.cell? ⟨p2, 0, none⟩ = some (.map (some b2)) := HSD6.out.cell0))
      refine start_ (n := 8) (S := fun w' => w'.cell? ⟨p2, 0, none⟩ = some (.map (some b2)) ∧ w'.cell? ⟨g4, 0, none⟩ = some (.int .i64 x.1.1) ∧ w'.cell? ⟨g4, 1, none⟩ = some (.string x.1.2) ∧ w'.cell? ⟨g5, 0, none⟩ = some (.int .i64 x.2.kind) ∧ w'.cell? ⟨g5, 1, none⟩ = some (.string x.2.name) ∧ w'.cell? ⟨g5, 2, none⟩ = some (.int .i64 x.2.ver) ∧ w'.cell? ⟨g5, 3, none⟩ = some (.slice x.2.ha x.2.H.length x.2.hc) ∧ w'.cell? ⟨g5, 4, none⟩ = some (.slice x.2.ba x.2.B.length x.2.bc) ∧ w'.cell? ⟨g5, 5, none⟩ = some (.bool x.2.going)) (ds := [7]) #[false, false, false, false, false, false, false, false] (by kernel_rfl) rfl rfl ⟨m0_, k0_, k1_, x0_, x1_, x2_, x3_, x4_, x5_⟩ (fun hHeld => ?_)
      refine pure_ (i := 0) (N := some 23) (v := ?_) (a' := ?_) #[true, false, false, false, false, false, false, false] rfl rfl (by kernel_rfl) (fun _ _ _ h => h) (Or.inl ⟨by rfl, ?_⟩) ?_ ?_
      rotate_left
      · intro w'
        go_simp
        with_reducible rfl
      rotate_left
      · simp only [Act.put, List.setIfInBounds_toArray, List.set_cons_zero, List.set_cons_succ, i64_w, i32_w]
        rfl
      refine pure_ (i := 1) (N := some 24) (v := ?_) (a' := ?_) #[true, true, false, false, false, false, false, false] rfl rfl (by kernel_rfl) (fun _ _ _ h => h) (Or.inl ⟨by rfl, ?_⟩) ?_ ?_
      rotate_left
      · intro w'
        go_simp
        with_reducible rfl
      rotate_left
      · simp only [Act.put, List.setIfInBounds_toArray, List.set_cons_zero, List.set_cons_succ, i64_w, i32_w]
        rfl
      refine pure_ (i := 2) (N := some 25) (v := ?_) (a' := ?_) #[true, true, true, false, false, false, false, false] rfl rfl (by kernel_rfl) (fun _ _ _ h => h) (Or.inl ⟨by rfl, ?_⟩) ?_ ?_
      rotate_left
      · intro w'
        go_simp
        with_reducible rfl
      rotate_left
      · simp only [Act.put, List.setIfInBounds_toArray, List.set_cons_zero, List.set_cons_succ, i64_w, i32_w]
        rfl
      refine take_ (i := 3) (N := some 26) (v := ?_) (a' := ?_) #[true, true, true, true, false, false, false, false] rfl rfl (by kernel_rfl) (fun _ _ _ h => h) (Or.inl ⟨by rfl, ?_⟩) hHeld ?_ ?_
      rotate_left
      · rintro w' ⟨s0, s1, s2, s3, s4, s5, s6, s7, s8⟩
        go_simp
        with_reducible rfl
      rotate_left
      · simp only [Act.put, List.setIfInBounds_toArray, List.set_cons_zero, List.set_cons_succ, i64_w, i32_w]
        rfl
      refine take_ (i := 4) (N := some 27) (v := ?_) (a' := ?_) #[true, true, true, true, true, false, false, false] rfl rfl (by kernel_rfl) (fun _ _ _ h => h) (Or.inl ⟨by rfl, ?_⟩) hHeld ?_ ?_
      rotate_left
      · rintro w' ⟨s0, s1, s2, s3, s4, s5, s6, s7, s8⟩
        go_simp
        with_reducible rfl
      rotate_left
      · simp only [Act.put, List.setIfInBounds_toArray, List.set_cons_zero, List.set_cons_succ, i64_w, i32_w]
        rfl
      refine take_ (i := 5) (N := some 28) (v := ?_) (a' := ?_) #[true, true, true, true, true, true, false, false] rfl rfl (by kernel_rfl) (fun _ _ _ h => h) (Or.inl ⟨by rfl, ?_⟩) hHeld ?_ ?_
      rotate_left
      · rintro w' ⟨s0, s1, s2, s3, s4, s5, s6, s7, s8⟩
        go_simp
        with_reducible rfl
      rotate_left
      · simp only [Act.put, List.setIfInBounds_toArray, List.set_cons_zero, List.set_cons_succ, i64_w, i32_w]
        rfl
      refine one_ (i := 6) (N := some 29) #[true, true, true, true, true, true, true, false] rfl rfl (by kernel_rfl) (by decide) (fun K hK => ?_)
      refine goes_ Try.func26 (by kernel_rfl) rfl #[itemV x.2] (by rfl) rfl rfl (by simp only [List.map_toArray, List.map_cons, List.map_nil]; rfl) ?_
      with_reducible refine (copied.calls x.2 _ ((HS.out.rows _ HX.out).below (below_drew HB6.out)) (HF.out _ HX.out)).mono ?_
      rintro e w7 ⟨y, rfl, hy, hyp, hb⟩
      refine ⟨_, rfl, ?_⟩
      have HY7 := Aside0.mk hy; have HYP := Aside0.mk hyp; have HSD7 := Aside0.mk ((HSD6.out.below (below_drew (Below.refl _ _))).below hb); have HB7 := Aside0.mk (below_then (below_drew HB6.out) HB6.out.size hb); have BK7 := Aside0.mk ((Blk.drew BK6.out).below hb); have BI7 := Aside0.mk ((Blk.drew BI6.out).below hb); have Z7 : Aside0 (w6.heap.size ≤ w7.heap.size) := Aside0.mk hb.size
      have HIT7 : Aside0 (w7.heap[r]? = some (.mapIter (some b) clock (seen.push nb) clock)) := Aside0.mk ((hb.block r (Nat.lt_of_lt_of_le (Array.getElem?_eq_some_iff.1 HR2.out).1 X6.out.size)).trans ((X6.out.block r (Array.getElem?_eq_some_iff.1 HR2.out).1).trans HR2.out)); clear hy hyp hb
      have m0_7 : w7.cell? ⟨p2, 0, none⟩ = some (.map (some b2)) := HSD7.out.cell0
      have k0_7 : w7.cell? ⟨g4, 0, none⟩ = some (.int .i64 x.1.1) := BK7.out.cell 0
      have k1_7 : w7.cell? ⟨g4, 1, none⟩ = some (.string x.1.2) := BK7.out.cell 1
      have x0_7 : w7.cell? ⟨g5, 0, none⟩ = some (.int .i64 x.2.kind) := BI7.out.cell 0
      have x1_7 : w7.cell? ⟨g5, 1, none⟩ = some (.string x.2.name) := BI7.out.cell 1
      have x2_7 : w7.cell? ⟨g5, 2, none⟩ = some (.int .i64 x.2.ver) := BI7.out.cell 2
      have x3_7 : w7.cell? ⟨g5, 3, none⟩ = some (.slice x.2.ha x.2.H.length x.2.hc) := BI7.out.cell 3
      have x4_7 : w7.cell? ⟨g5, 4, none⟩ = some (.slice x.2.ba x.2.B.length x.2.bc) := BI7.out.cell 4
      have x5_7 : w7.cell? ⟨g5, 5, none⟩ = some (.bool x.2.going) := BI7.out.cell 5
      refine hK.out _ _ ⟨m0_7, k0_7, k1_7, x0_7, x1_7, x2_7, x3_7, x4_7, x5_7⟩ (fun hHeld => ?_)
      clear hK K
      refine norm_ (a' := ?_) ?_ ?_
      rotate_left
      · show Act.put _ (some 29) _ = _
        simp only [Act.put, List.setIfInBounds_toArray, List.set_cons_zero, List.set_cons_succ, i64_w, i32_w]
        rfl
      refine last_ (i := 7) (N := none) #[true, true, true, true, true, true, true, true] rfl rfl (by kernel_rfl) (by decide) (fun K hK => ?_)
      refine putM_reg (by rfl) rfl rfl Try.underlying47 b2 Ld rfl HSD7.out.map x.1 y rfl rfl ?_
      intro w8 hm hg
      have HM8 := Aside0.mk hm; have HG8 := Aside0.mk hg; clear hm hg
      refine hK.out _ _ ?_
      clear hK K
      refine done_ (by kernel_rfl) ?_
      go_wp2
      have HZ6 : Aside0 (r < w6.heap.size) := Aside0.mk (Nat.lt_of_lt_of_le (Array.getElem?_eq_some_iff.1 HR2.out).1 X6.out.size)
      have HNEW : Aside0 (∀ q ∈ Ld, q.1 ≠ x.1) := Aside0.mk (fun q hq e => by
        have h1 : (((erase Ld ++ erase (leftL es Lc seen)).map (·.1))).Nodup := (HPM.out.map (·.1)).nodup_iff.2 (by rw [show (erase Lc).map (·.1) = Lc.map (·.1) from by unfold erase; rw [List.map_map]; rfl]; exact HKEY.out)
        rw [List.map_append, List.nodup_append] at h1
        have hx : x ∈ leftL es Lc seen := HPERM.out.mem_iff.2 (by simp)
        exact h1.2.2 q.1 (List.mem_map.2 ⟨(q.1, q.2.pure), List.mem_map.2 ⟨q, hq, rfl⟩, rfl⟩) x.1 (List.mem_map.2 ⟨(x.1, x.2.pure), List.mem_map.2 ⟨x, hx, rfl⟩, rfl⟩) e)
      have HRI8 : Aside0 (RowsIn (Ld ++ [(x.1, y)]) (fun k => w.heap.size ≤ k ∧ k ≠ p2 ∧ k ≠ b2 ∧ k ≠ r)) := Aside0.mk (fun q hq => by
        rcases List.mem_append.1 hq with hq | hq
        · exact HRI.out q hq
        · obtain rfl := List.mem_singleton.1 hq
          have hz := HZ6.out
          have h1 := GB2.out; have h2 := GP2.out; have h3 := GR3.out; have h4 := HB6.out.size
          exact ⟨fun hne ad e => by have h := HY7.out.at.1 hne ad e; have h5 : w6.heap.size ≤ ad.block := h; exact ⟨by omega, by omega, by omega, by omega⟩, fun hne ad e => by have h := HY7.out.at.2 hne ad e; have h5 : w6.heap.size ≤ ad.block := h; exact ⟨by omega, by omega, by omega, by omega⟩⟩)
      have HS8 : Aside0 (StoreB w8 p2 b2 (Ld ++ [(x.1, y)]) n) := Aside0.mk ⟨(HG8.out.block p2 HSD7.out.blk.lt (fun e => by have := Option.some.inj e; have := GP2.out; omega)).trans HSD7.out.blk, by have h := HM8.out; rw [putM_new x.1 y Ld HNEW.out] at h; exact h, fun q hq => by
        have hin := HRI8.out q hq
        have hrow : RowOK w7 q.2 := by
          rcases List.mem_append.1 hq with hq | hq
          · exact HSD7.out.rows q hq
          · obtain rfl := List.mem_singleton.1 hq
            exact HY7.out.ok
        exact hrow.grownIn (fun hne ad e h => (hin.1 hne ad e).2.2.1 (Option.some.inj h)) (fun hne ad e h => (hin.2 hne ad e).2.2.1 (Option.some.inj h)) HG8.out⟩
      have HPM8 : Aside0 ((erase (Ld ++ [(x.1, y)]) ++ erase (leftL es Lc (seen.push nb))).Perm (erase Lc)) := Aside0.mk (by
        refine List.Perm.trans ?_ HPM.out
        rw [show erase (Ld ++ [(x.1, y)]) = erase Ld ++ [(x.1, x.2.pure)] from by unfold erase; rw [List.map_append, ← HYP.out]; rfl, List.append_assoc]
        refine List.Perm.append_left _ ?_
        have h := (HPERM.out.map (fun q : Key × CI => (q.1, q.2.pure))).symm
        exact h)
      have HIT8 : Aside0 (w8.heap[r]? = some (.mapIter (some b) clock (seen.push nb) clock)) := Aside0.mk ((HG8.out.block r (Array.getElem?_eq_some_iff.1 HIT7.out).1 (fun e => by have := Option.some.inj e; have := GP2.out; have := GR3.out; omega)).trans HIT7.out)
      have HB8 : Aside0 (Below w.heap.size w w8) := Aside0.mk (pw_below_grown HB7.out (some b2) HB7.out.size HG8.out (fun k e => by cases e; exact GB2.out))
      go_roundg k1
      case measure => have := HK.out; omega
      case rel => exact ⟨seen.push nb, Ld ++ [(x.1, y)], ⟨by have h1 := HK.out; have h2 := HPERM.out.length_eq; rw [List.length_cons] at h2; omega⟩, HIT8, HS8, HPM8, HRI8, HB8⟩
end Go.Proofs.Ytmankbhlgjgnbaa.PAll
end
