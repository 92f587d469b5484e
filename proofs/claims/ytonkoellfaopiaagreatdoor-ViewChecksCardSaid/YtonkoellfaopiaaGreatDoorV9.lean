import Derived.Test.YtonkoellfaopiaaGreatDoorV8
import Derived.Lib.QuoteBits
set_option linter.unusedSimpArgs false
set_option linter.unusedVariables false
namespace Go.Proofs.YtonkoellfaopiaaGreatDoor.H
open Go
def Ev {α : Type} (g : Nat → Option α) (v : α) : Prop := ∃ N, ∀ n, N ≤ n → g n = some v
theorem Ev.const {α : Type} (v : α) : Ev (fun _ => some v) v := ⟨0, fun _ _ => rfl⟩
theorem Ev.succ {α : Type} {g : Nat → Option α} {v : α} (h : Ev (fun n => g (n + 1)) v) : Ev g v := by
 obtain ⟨N, h⟩ := h
 refine ⟨N + 1, fun n hn => ?_⟩
 obtain ⟨m, rfl⟩ : ∃ m, n = m + 1 := ⟨n - 1, by omega⟩
 exact h m (by omega)
theorem Ev.get {α : Type} {g : Nat → Option α} {v : α} (h : Ev g v) : ∃ n, g n = some v := by
 obtain ⟨N, h⟩ := h
 exact ⟨N, h N (Nat.le_refl N)⟩
theorem Ev.of_eq {α : Type} {g g' : Nat → Option α} {v : α} (h : Ev g v) (e : ∀ n, g' n = g n) : Ev g' v := by
 obtain ⟨N, h⟩ := h
 exact ⟨N, fun n hn => (e n).trans (h n hn)⟩
theorem Ev.loop {ρ : Type} {X : Nat → Int → Option ρ} (n : Nat) (g : Nat → Option ρ) (r : ρ) (step : ∀ j, j < n → (∀ e, g j = some e → Ev (fun m => X m (j : Int)) e) ∧ (g j = none → ∀ v, Ev (fun m => X m ((j + 1 : Nat) : Int)) v → Ev (fun m => X m (j : Int)) v))
  (stop : Ev (fun m => X m (n : Int)) r) : ∀ k j, j + k = n → Ev (fun m => X m (j : Int)) (((List.range' j k).findSome? g).getD r)
 | 0, j, hj => by
  obtain rfl : j = n := by omega
  exact stop
 | k + 1, j, hj => by
  obtain ⟨h1, h2⟩ := step j (by omega)
  cases hg : g j with
  | some e =>
   have : ((List.range' j (k + 1)).findSome? g).getD r = e := by simp [List.range'_succ, hg]
   rw [this]
   exact h1 e hg
  | none =>
   have : ((List.range' j (k + 1)).findSome? g).getD r = ((List.range' (j + 1) k).findSome? g).getD r := by simp [List.range'_succ, hg]
   rw [this]
   exact h2 hg _ (Ev.loop n g r step stop k (j + 1) (by omega))
theorem Ev.loop0 {ρ : Type} {X : Nat → Int → Option ρ} (n : Nat) (g : Nat → Option ρ) (r : ρ) (step : ∀ j, j < n → (∀ e, g j = some e → Ev (fun m => X m (j : Int)) e) ∧ (g j = none → ∀ v, Ev (fun m => X m ((j + 1 : Nat) : Int)) v → Ev (fun m => X m (j : Int)) v))
  (stop : Ev (fun m => X m (n : Int)) r) : Ev (fun m => X m (Int.ofNat 0)) (((List.range n).findSome? g).getD r) := by
 rw [List.range_eq_range']
 exact Ev.loop n g r step stop n 0 (by omega)
theorem Ev.add {α : Type} {g : Nat → Option α} {v : α} (c : Nat) (h : Ev (fun n => g (n + c)) v) : Ev g v := by
 obtain ⟨N, h⟩ := h
 refine ⟨N + c, fun n hn => ?_⟩
 obtain ⟨m, rfl⟩ : ∃ m, n = m + c := ⟨n - c, by omega⟩
 exact h m (by omega)
theorem Ev.loopc {ρ : Type} {X : Nat → Int → Option ρ} (c n : Nat) (g : Nat → Option ρ) (r : ρ) (step : ∀ m j, j < n → X (m + c) (j : Int) = (match g j with | some e => some e | none => X m ((j + 1 : Nat) : Int)))
  (stop : ∀ m, X (m + c) (n : Int) = some r) : Ev (fun m => X m (0 : Int)) (((List.range n).findSome? g).getD r) :=
 Ev.loop0 n g r (fun j hj => ⟨fun e he => Ev.add c ⟨0, fun m _ => by show X (m + c) (j : Int) = some e; rw [step m j hj, he]⟩, fun hn v hv => Ev.add c (hv.of_eq fun m => by rw [step m j hj, hn])⟩) (Ev.add c ⟨0, fun m _ => stop m⟩)
theorem find_none {ρ : Type} {n : Nat} {g : Nat → Option ρ} {r : ρ} (h : ∀ j, j < n → g j = none) : ((List.range n).findSome? g).getD r = r := by
 have : (List.range n).findSome? g = none := List.findSome?_eq_none_iff.2 fun j hj => h j (List.mem_range.1 hj)
 rw [this]; rfl
theorem find_all {ρ : Type} {n : Nat} {g : Nat → Option ρ} {p : Nat → Bool} {e r : ρ} (h : ∀ j, g j = bif p j then none else some e) : ((List.range n).findSome? g).getD r = bif (List.range n).all p then r else e := by
 cases ha : (List.range n).all p with
 | true =>
  rw [find_none fun j hj => by rw [h, List.all_eq_true.1 ha j (List.mem_range.2 hj)]; rfl]
  rfl
 | false =>
  have : ∃ j ∈ List.range n, p j = false := by
   simpa using ha
  cases hf : (List.range n).findSome? g with
  | none =>
   obtain ⟨j, hj, hp⟩ := this
   have := List.findSome?_eq_none_iff.1 hf j hj
   rw [h, hp] at this
   cases this
  | some x =>
   obtain ⟨j, hj⟩ := List.exists_of_findSome?_eq_some hf
   rw [h] at hj
   cases hp : p j with
   | true => rw [hp] at hj; cases hj.2
   | false => rw [hp] at hj; obtain rfl := Option.some.inj hj.2; rfl
theorem elemO_pos {ρ : Type} {i : Int} {n : Nat} {K : i.toNat < n → Option ρ} (h0 : 0 ≤ i) (h : i.toNat < n) : elemO i n K = K h := by
 unfold elemO
 rw [dif_pos ⟨h0, h⟩]
theorem elemO_nat {ρ : Type} {j n : Nat} {K : (j : Int).toNat < n → Option ρ} (h : j < n) : elemO (j : Int) n K = K (by simpa using h) := elemO_pos (by omega) (by simpa using h)
theorem subO_pos {ρ : Type} {l m n : Nat} {K : l + m ≤ n → Option ρ} (h : l + m ≤ n) : subO l m n K = K h := by
 unfold subO
 rw [dif_pos h]
theorem addI_nat {j : Nat} (h : j < 2 ^ 62) : addI .i64 (j : Int) (Int.ofNat 1) = ((j + 1 : Nat) : Int) := by
 unfold addI
 have : ((j : Int) + Int.ofNat 1) = ((j + 1 : Nat) : Int) := by simp
 rw [this]
 exact Go.Lib.wrap_i64_small _ (by omega)
theorem byteAt_nat {a : ByteArray} {j : Nat} {h : (j : Int).toNat < sizeN a} : byteAt a (Fin.mk (j : Int).toNat h) = chr a j := by
 unfold chr
 rw [dif_pos (by simpa using h)]
 rfl
theorem byteO_nat {ρ : Type} {a : ByteArray} {j : Nat} {K : Int → Option ρ} (h : j < sizeN a) : byteO (j : Int) a K = K (chr a j) := by
 unfold byteO chr
 have h' : j < a.size := h
 rw [dif_pos ⟨by omega, by simpa using h'⟩, dif_pos h]
 rfl
theorem strEq_iff {a b : ByteArray} : strEq a b = true ↔ a = b := by
 unfold strEq
 rw [bytesEq_iff]
 exact ⟨fun h => by cases a; cases b; simpa using h, fun h => by rw [h]; simp⟩
theorem strEq_empty {a : ByteArray} : strEq a (bs []) = decide (sizeN a = 0) := by
 rw [Bool.eq_iff_iff, strEq_iff, decide_eq_true_eq]
 unfold sizeN bs
 constructor
 ·rintro rfl; rfl
 ·intro h
  cases a with
  | mk d =>
   have : d.size = 0 := h
   obtain rfl := Array.eq_empty_of_size_eq_zero this
   rfl
theorem ltI_nat {j n : Nat} : ltI (j : Int) (ofN n) = decide (j < n) := by
 unfold ltI ofN
 simp
abbrev Ret (f : FuncId) (args : List S) (r : S) : Prop := (W O).callT f args = some r
theorem yC_of {f : FuncId} {args : List S} {sh : Sh} {y0 : Y} (hs : shF O.P f = some sh) (h : Ret f args (build y0 sh)) : ∃ y, build y sh = build y0 sh ∧ ∀ (ρ : Type) (K : Y → Option ρ), yC (regs O) f args K = K y := by
 obtain ⟨y, h1, h2⟩ := regs_some hs h
 exact ⟨y, h2, fun ρ K => by unfold yC; rw [h1]; rfl⟩
def yI (x : Int) : Y := ⟨fun _ => x, fun _ => false, fun _ => ⟨#[]⟩, fun _ => ⟨0, fun i => i.elim0⟩, fun _ => []⟩
def yB (x : Bool) : Y := ⟨fun _ => 0, fun _ => x, fun _ => ⟨#[]⟩, fun _ => ⟨0, fun i => i.elim0⟩, fun _ => []⟩
theorem yC_int {f : FuncId} {args : List S} {k : IntKind} {x : Int} (hs : shF O.P f = some (.int k 0)) (h : Ret f args (.t (.v (.int k x)))) : ∃ y : Y, y.i 0 = x ∧ ∀ (ρ : Type) (K : Y → Option ρ), yC (regs O) f args K = K y := by
 obtain ⟨y, h1, h2⟩ := yC_of (y0 := yI x) hs h
 refine ⟨y, ?_, h2⟩
 simpa [build, yI] using h1
theorem yC_bool {f : FuncId} {args : List S} {x : Bool} (hs : shF O.P f = some (.bool 0)) (h : Ret f args (.t (.v (.bool x)))) : ∃ y : Y, y.b 0 = x ∧ ∀ (ρ : Type) (K : Y → Option ρ), yC (regs O) f args K = K y := by
 obtain ⟨y, h1, h2⟩ := yC_of (y0 := yB x) hs h
 refine ⟨y, ?_, h2⟩
 simpa [build, yB] using h1
theorem Ev.loopN {ρ : Type} {X : Nat → Nat → Option ρ} (n : Nat) (g : Nat → Option ρ) (r : ρ) (step : ∀ j, j < n → (∀ e, g j = some e → Ev (fun m => X m j) e) ∧ (g j = none → ∀ v, Ev (fun m => X m (j + 1)) v → Ev (fun m => X m j) v))
  (stop : Ev (fun m => X m n) r) : Ev (fun m => X m 0) (((List.range n).findSome? g).getD r) := by
 have := Ev.loop0 (X := fun m i => X m i.toNat) n g r (fun j hj => by simpa using step j hj) (by simpa using stop)
 simpa using this
def Rw.at {α : Type} [Inhabited α] (a : Rw α) (j : Nat) : α := if h : j < a.n then a.get ⟨j, h⟩ else default
theorem get_nat {α : Type} [Inhabited α] {a : Rw α} {j : Nat} {h : (j : Int).toNat < a.n} : a.get (Fin.mk (j : Int).toNat h) = a.at j := by
 unfold Rw.at
 rw [dif_pos (by simpa using h)]
 congr 1
def firstE (n : Nat) (g : Nat → Int) : Int := ((List.range n).findSome? fun j => bif !(eqI (g j) 0) then some (g j) else none).getD 0
theorem firstE_ii {n : Nat} {g : Nat → Int} : ((List.range n).findSome? fun j => bif !(eqI (g j) 0) then some (ii (g j)) else none).getD (ii 0) = ii (firstE n g) := by
 unfold firstE
 generalize List.range n = l
 induction l with
 | nil => rfl
 | cons j l ih =>
  simp only [List.findSome?_cons]
  cases eqI (g j) 0 with
  | false => rfl
  | true => exact ih
theorem Ev.errsN {X : Nat → Nat → Option S} (n : Nat) (g : Nat → Int) (step : ∀ j, j < n → (g j ≠ 0 → Ev (fun m => X m j) (ii (g j))) ∧ (g j = 0 → ∀ v, Ev (fun m => X m (j + 1)) v → Ev (fun m => X m j) v))
  (stop : Ev (fun m => X m n) (ii 0)) : Ev (fun m => X m 0) (ii (firstE n g)) := by
 have := Ev.loopN (X := X) n (fun j => bif !(eqI (g j) 0) then some (ii (g j)) else none) (ii 0) (fun j hj => by
  obtain ⟨h1, h2⟩ := step j hj
  cases h : eqI (g j) 0 with
  | true =>
   have hz : g j = 0 := by unfold eqI at h; simpa using h
   exact ⟨fun e he => (by cases he), fun _ v hv => h2 hz v hv⟩
  | false =>
   have hz : g j ≠ 0 := by unfold eqI at h; simpa using h
   exact ⟨fun e he => (by obtain rfl := Option.some.inj he; exact h1 hz), fun hn => (by cases hn)⟩) stop
 rw [firstE_ii] at this
 exact this
theorem Ev.errsC {X : Nat → Nat → Option S} (c n : Nat) (g : Nat → Int) (step : ∀ m j, j < n → X (m + c) j = bif !(eqI (g j) 0) then some (ii (g j)) else X m (j + 1)) (stop : ∀ m, X (m + c) n = some (ii 0)) : Ev (fun m => X m 0) (ii (firstE n g)) :=
 Ev.errsN n g (fun j hj => ⟨fun h => Ev.add c ⟨0, fun m _ => by
  have : eqI (g j) 0 = false := by unfold eqI; simpa using h
  show X (m + c) j = some (ii (g j))
  rw [step m j hj, this]; rfl⟩, fun h v hv => Ev.add c (hv.of_eq fun m => by
  have : eqI (g j) 0 = true := by unfold eqI; simpa using h
  rw [step m j hj, this]; rfl)⟩) (Ev.add c ⟨0, fun m _ => stop m⟩)
theorem lit1 {α : Type} (l : List α) (e : α → T) : (fun i : Fin l.length => List.take 1 (List.drop (i.1 * 1) (l.map e))) = fun i : Fin l.length => [e (l[i.1]'i.2)] := by
 funext i
 rw [Nat.mul_one, List.drop_eq_getElem_cons (by simp)]
 simp
def rwL {α : Type} (l : List α) : Rw α := ⟨l.length, fun i => l[i.1]'i.2⟩
theorem rwL_at {α : Type} [Inhabited α] {l : List α} {j : Nat} : (rwL l).at j = l.getD j default := by
 unfold Rw.at rwL
 by_cases h : j < l.length
 ·simp [h]
 ·simp [h]
theorem rwL_get {α : Type} [Inhabited α] {l : List α} {j : Nat} (h : j < l.length) : (rwL l).at j = l[j] := by
 unfold Rw.at
 have h' : j < (rwL l).n := h
 rw [dif_pos h']
 rfl
end Go.Proofs.YtonkoellfaopiaaGreatDoor.H
