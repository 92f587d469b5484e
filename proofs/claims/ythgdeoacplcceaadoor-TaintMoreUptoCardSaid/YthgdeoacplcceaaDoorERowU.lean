import Derived.Test.YthgdeoacplcceaaDoorERow
import Derived.Test.YthgdeoacplcceaaDoorRows
/-! Readings, with what a bound on the bulk of what was read says of it. -/
set_option linter.unusedVariables false
set_option linter.unusedSimpArgs false
namespace Go.Proofs.YthgdeoacplcceaaDoor.Row
open Go.RowKit Go.Proofs.YthgdeoacplcceaaDoorW.PrintWords Go.ChangeShapes Go.WideShapes
variable {P : Program} {t e : TypeId} {α β : Type}

theorem bulk_one_le {H : Type} (d : DataW H) : 1 ≤ Rows.uptoBulk d := by
  cases d with
  | lit l => cases l <;> simp [Rows.uptoBulk]
  | nil => simp [Rows.uptoBulk]
  | ptr d => simp [Rows.uptoBulk]
  | slice elems spare => simp [Rows.uptoBulk]
  | agg parts => simp [Rows.uptoBulk]
  | iface t d => simp [Rows.uptoBulk]
  | map entries => simp [Rows.uptoBulk]
  | held h => simp [Rows.uptoBulk]
theorem bulk_part_le {H : Type} {d : DataW H} {l : List (DataW H)} (h : d ∈ l) : Rows.uptoBulk d ≤ Rows.uptoBulkAll l := by
  induction l with
  | nil => cases h
  | cons x r ih =>
    simp only [Rows.uptoBulkAll]
    cases List.mem_cons.1 h with
    | inl e => subst e; omega
    | inr e => have := ih e; omega
theorem bulk_length_le {H : Type} (l : List (DataW H)) : l.length ≤ Rows.uptoBulkAll l := by
  induction l with
  | nil => simp [Rows.uptoBulkAll]
  | cons x r ih => have := bulk_one_le x; simp only [Rows.uptoBulkAll, List.length_cons]; omega
theorem bulk_agg {H : Type} {l : List (DataW H)} {n : Nat} (h : Rows.uptoBulk (.agg l) ≤ n) : ∀ d ∈ l, Rows.uptoBulk d ≤ n := fun d hd => by
  have := bulk_part_le hd
  simp only [Rows.uptoBulk] at h
  omega

/-- As 'Opens'; and where the bulk of what was read is at most n, S n. -/
def OpensU (P : Program) (t : TypeId) {α : Type} (d : Kd α) (G : α → Prop) (S : Nat → α → Prop) : Prop :=
  ∀ {H : Type} (enc : TypeId × Value → H) (w : World) (base : Nat) (sp : Nat → Bool) (held : Bool) (fuel : Nat) (cs : List Value) (x : DataW H × List MemPlace),
    DataW.trod enc P w base sp held fuel t cs = some x → ∃ a, d.K w a cs ∧ ((∀ n ∈ DataW.weights P t x.1, n ≤ reachBytes) → G a) ∧ ∀ n, Rows.uptoBulk x.1 ≤ n → S n a
theorem Opens.u {d : Kd α} {G : α → Prop} (h : Opens P t d G) : OpensU P t d G (fun _ _ => True) := fun enc w base sp held fuel cs x hx => by
  obtain ⟨a, k, g⟩ := h enc w base sp held fuel cs x hx
  exact ⟨a, k, g, fun _ _ => trivial⟩
theorem opens_stringU (ht : P.underlying t = some .string) : OpensU P t Kd.string (fun s => s.size ≤ 140737488351232) (fun n s => s.size ≤ n) := fun enc w base sp held fuel cs x hx => by
  obtain ⟨s, rfl, rfl, hs⟩ := DataW.trod_string ht hx
  exact ⟨s, rfl, fun hw => by
    have := hw s.data.toList.length (by simp [DataW.weights])
    have h2 : reachBytes = 140737488351232 := rfl
    rw [h2] at this
    simpa using this, fun n hn => by
    simp only [Rows.uptoBulk] at hn
    have e : s.data.toList.length = s.size := by simp
    omega⟩
theorem opens_sliceU {d : Kd α} {G : α → Prop} {S : Nat → α → Prop} {B : Nat} (ht : P.underlying t = some (.slice e)) (hs : P.cellsOf e = d.sz) (hB : P.bytesOf e = B) (h : OpensU P e d G S) :
    OpensU P t (Kd.slice e d) (fun l => l.length * B ≤ 140737488351232 ∧ ∀ x ∈ l, G x) (fun n l => l.length ≤ n ∧ ∀ x ∈ l, S n x) := fun enc w base sp held fuel cs x hx => by
  rcases DataW.trod_slice ht hx with ⟨rfl, rfl⟩ | ⟨a, len, cap, elems, rest, n, _, rfl, rfl, hb, hl, hm, hlen, hel, _, _⟩
  · exact ⟨[], ⟨none, 0, rfl, Nat.le_refl _, rfl, by simp, fun h => absurd h (by simp)⟩, fun _ => ⟨by simp, fun x hx => by cases hx⟩, fun _ _ => ⟨Nat.zero_le _, fun x hx => by cases hx⟩⟩
  · have hev : ∀ i, i < len → ∃ (p : α), ∃ (y : DataW _ × List MemPlace) (c : List Value), elems[i]? = some y ∧ w.cells? base (a.add (i * P.cellsOf e)) (P.cellsOf e) = some c ∧ d.K w p c ∧ ((∀ n ∈ DataW.weights P e y.1, n ≤ reachBytes) → G p) ∧ ∀ n, Rows.uptoBulk y.1 ≤ n → S n p := by
      intro i hi
      have h1 := hel i hi
      have hy : elems[i]? = some (elems[i]'(by omega)) := List.getElem?_eq_getElem (by omega)
      rw [hy] at h1
      obtain ⟨c, hc, htr⟩ := Option.bind_eq_some_iff.1 h1
      obtain ⟨p, hk, hg, hu⟩ := h _ _ _ _ _ _ _ _ htr
      exact ⟨p, _, c, hy, hc, hk, hg, hu⟩
    obtain ⟨p, hp⟩ := Classical.axiomOfChoice (fun i : Fin len => hev i.1 i.2)
    have hlp : (List.ofFn p).length = len := List.length_ofFn
    refine ⟨List.ofFn p, ⟨some a, cap, by rw [hlp], by rw [hlp]; exact hl, rfl, ?_, fun _ => ⟨a, rfl, fun j q hj => ?_⟩⟩, fun hw => ⟨?_, fun q hq => ?_⟩, fun N hN => ⟨?_, fun q hq => ?_⟩⟩
    · rw [hlp]
      unfold maxLen at hm
      omega
    · have hjl : j < len := by rw [← hlp]; exact (List.getElem?_eq_some_iff.1 hj).1
      rw [List.getElem?_ofFn, dif_pos hjl] at hj
      obtain rfl := Option.some.inj hj
      obtain ⟨y, c, _, hc, hk, _⟩ := hp ⟨j, hjl⟩
      obtain ⟨_, hcl, hcc⟩ := World.cells?_some hc
      refine ⟨c, hcl.trans hs, hk, fun i u hu => ?_⟩
      have hil : i < P.cellsOf e := by rw [← hcl]; exact (List.getElem?_eq_some_iff.1 hu).1
      have := hcc i hil
      rw [hu] at this
      rw [hs] at this
      rw [Addr.add_add] at this
      exact this
    · have := hw ((elems.length + rest.length) * P.bytesOf e) (by simp [DataW.weights, ht])
      rw [hB] at this
      have h2 : reachBytes = 140737488351232 := rfl
      rw [hlp, ← hlen]
      rw [h2] at this
      exact Nat.le_trans (Nat.mul_le_mul_right _ (Nat.le_add_right _ _)) this
    · obtain ⟨j, rfl⟩ := List.mem_ofFn.1 hq
      obtain ⟨y, c, hy, _, _, hg, _⟩ := hp j
      refine hg (fun n hn => hw n ?_)
      have hmem : y.1 ∈ elems.map (·.1) := List.mem_map.2 ⟨y, List.mem_of_getElem? hy, rfl⟩
      have := weights_all (P := P) (e := e) hmem n hn
      simp only [DataW.weights, ht, List.mem_cons, List.mem_append]
      exact .inr (.inl this)
    · have h1 := bulk_length_le (elems.map (·.1))
      rw [List.length_map] at h1
      simp only [Rows.uptoBulk] at hN
      rw [hlp]
      omega
    · obtain ⟨j, rfl⟩ := List.mem_ofFn.1 hq
      obtain ⟨y, c, hy, _, _, _, hu⟩ := hp j
      have hmem : y.1 ∈ elems.map (·.1) := List.mem_map.2 ⟨y, List.mem_of_getElem? hy, rfl⟩
      have h1 := bulk_part_le hmem
      simp only [Rows.uptoBulk] at hN
      exact hu N (by omega)
/-- At a parameter. -/
theorem topU {H : Type} {enc : TypeId × Value → H} {d : Kd α} {G : α → Prop} {S : Nat → α → Prop} {W : World} {base : Nat} {sp : Nat → Bool} {held : Bool} {v : Value} {dd : DataW H} {ps : List MemPlace} {ts : List TypeId} {ds : List (DataW H)} {j : Nat}
    (h : OpensU P t d G S) (hd : DataW.Trod enc P W base sp held t v dd ps) (hsz : (DataW.weightsEach P ts ds).all (· ≤ reachBytes) = true) (hkk : Rows.uptoSmall H ds = true) (ht : ts[j]? = some t) (hj : ds[j]? = some dd) : ∃ a, d.K W a v.cells.toList ∧ G a ∧ S 1048576 a := by
  obtain ⟨fuel, hf⟩ := hd
  obtain ⟨a, k, g, u⟩ := h enc W base sp held fuel _ _ hf
  refine ⟨a, k, g (fun n hn => by simpa using List.all_eq_true.1 hsz n (DataW.weights_mem_each ht hj n hn)), u _ ?_⟩
  have hk : Rows.uptoBulkAll ds ≤ 1048576 := of_decide_eq_true hkk
  exact Nat.le_trans (bulk_part_le (List.mem_of_getElem? hj)) hk
end Go.Proofs.YthgdeoacplcceaaDoor.Row
