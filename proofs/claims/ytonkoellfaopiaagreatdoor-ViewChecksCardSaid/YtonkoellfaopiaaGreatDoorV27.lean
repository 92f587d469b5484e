import Derived.Test.YtonkoellfaopiaaGreatDoorV26
import Derived.SizedLaws
import Derived.ChangeArms
import Derived.ChangeSlices
import Derived.OpenShut
import Derived.Test.YtonkoellfaopiaaGreatDoorV25
import Derived.Test.YtonkoellfaopiaaGreatDoorRows
import Derived.HandedShaped
import Derived.Shelf.Vars
import Derived.LaidLaws
import Derived.LaidHandle
import Derived.ChangeSame
import Derived.ChangeVars
import Derived.ProofKit
import Derived.RowKit
set_option linter.unusedSimpArgs false
set_option linter.unusedVariables false
namespace Go.Proofs.YtonkoellfaopiaaGreatDoor.H
open Go Go.Proofs Go.RowKit Go.ChangeShapes Go.WideShapes
inductive Lf where
 | int (k : IntKind)
 | str
 | bool
 | row (sz B : Nat) (l : List Lf)
def leavesF (F : TypeId → Option (List Lf)) (P : Program) (total : Nat) : Nat → List (Nat × TypeId) → Option (List Lf)
 | o,[] => bif o.beq total then some [] else none
 | o,p :: r => bif p.1.beq o then (F p.2).bind fun l => (leavesF F P total (o + P.cellsOf p.2) r).map (l ++ ·) else none
def leaves (P : Program) : Nat → TypeId → Option (List Lf)
 | 0,_ => none
 | d + 1,t => match P.underlying t with
  | some (.int k) => some [.int k]
  | some .bool => some [.bool]
  | some .string => some [.str]
  | some (.slice e) => bif (P.cellsOf e).beq 0 then none else (leaves P d e).map fun l => [.row (P.cellsOf e) (P.bytesOf e) l]
  | some (.array n e) => leavesF (leaves P d) P (P.cellsOf t) 0 ((List.range n).map fun i => (i * P.cellsOf e,e))
  | some (.struct fs) => leavesF (leaves P d) P (P.cellsOf t) 0 (fs.toList.map fun f => (f.offset,f.type))
  | _ => none
inductive All2 {α β : Type} (R : α → β → Prop) : List α → List β → Prop
 | nil : All2 R [] []
 | cons {a : α} {b : β} {l : List α} {m : List β} : R a b → All2 R l m → All2 R (a :: l) (b :: m)
inductive Ok : Lf → T → Prop
 | int {k : IntKind} (n : Int) (h : (Lit.int k n).wf = true) : Ok (.int k) (.v (.int k n))
 | str (s : ByteArray) (h : s.size ≤ 140737488351232) : Ok .str (.v (.string s))
 | bool (b : Bool) : Ok .bool (.v (.bool b))
 | row {sz B n : Nat} {l : List Lf} {g : Fin n → List T} (h : n * B ≤ 140737488351232) (hg : ∀ i,All2 Ok l (g i)) : Ok (.row sz B l) (.rows sz n g)
def mem (w : World) (q : Nat) : Prop := ∃ o,w.heap[q]? = some o ∧ isLD o = false
theorem mem_lt {w : World} (q : Nat) (h : mem w q) : q < w.heap.size := let ⟨_,h,_⟩ := h; (Array.getElem?_eq_some_iff.1 h).1
theorem mem_nold {w : World} : NoLd (mem w) w := fun r o ⟨o',h,hl⟩ ho => by rw [h] at ho; cases ho; exact hl
theorem mem_cell {w : World} {a : Addr} {v : Value} (h : w.cell? a = some v) : mem w a.block ∧ a.spot = none := by
 unfold World.cell? at h
 split at h
 ·rename_i c t f hb
  refine ⟨⟨_,hb,rfl⟩,?_⟩
  cases hs : a.spot with
  | none => rfl
  | some x => rw [hs] at h; simp at h
 ·cases h
theorem TL.app {w : World} {I : Nat → Prop} {ts ts' : List T} {vs vs' : List Value} (h : TL w I ts vs) (h' : TL w I ts' vs') : TL w I (ts ++ ts') (vs ++ vs') := by
 refine ⟨by simp [h.1,h'.1],fun k t v h1 h2 => ?_⟩
 by_cases hk : k < ts.length
 ·rw [List.getElem?_append_left hk] at h1
  rw [List.getElem?_append_left (by rw [← h.1]; exact hk)] at h2
  exact h.2 k t v h1 h2
 ·rw [List.getElem?_append_right (by omega)] at h1
  rw [List.getElem?_append_right (by rw [← h.1]; omega),← h.1] at h2
  exact h'.2 _ t v h1 h2
theorem all2_app {α β : Type} {R : α → β → Prop} : ∀ {a b : List α} {c d : List β},All2 R a c → All2 R b d → All2 R (a ++ b) (c ++ d)
 | _,_,_,_,.nil,h => h
 | _,_,_,_,.cons h1 h2,h => .cons h1 (all2_app h2 h)
theorem weights_all {P : Program} {H : Type} {e : TypeId} : ∀ {l : List (DataW H)} {d : DataW H},d ∈ l → ∀ n ∈ DataW.weights P e d,n ∈ DataW.weightsAll P e l
 | y :: r,d,hd,n,hn => by
  simp only [DataW.weightsAll,List.mem_append]
  rcases List.mem_cons.1 hd with rfl | hd
  ·exact .inl hn
  ·exact .inr (weights_all hd n hn)
section
variable {H : Type} {enc : TypeId × Value → H} {P : Program} {w : World} {base : Nat} {sp : Nat → Bool} {held : Bool}
def Says (enc : TypeId × Value → H) (P : Program) (w : World) (base : Nat) (sp : Nat → Bool) (held : Bool) (t : TypeId) (l : List Lf) : Prop :=
 ∀ (fuel : Nat) (cs : List Value) (x : DataW H × List MemPlace),DataW.trod enc P w base sp held fuel t cs = some x → (∀ n ∈ DataW.weights P t x.1,n ≤ reachBytes) → ∃ ts,All2 Ok l ts ∧ TL w (mem w) ts cs
theorem fields_says {F : TypeId → Option (List Lf)} (hF : ∀ t l,F t = some l → Says enc P w base sp held t l) {cs : List Value} {m : Nat} : ∀ (ps : List (Nat × TypeId)) (o : Nat) (l : List Lf) (xs : List (DataW H × List MemPlace)),
  leavesF F P cs.length o ps = some l → (∀ (i : Nat) (p : Nat × TypeId),ps[i]? = some p → ∃ x,xs[i]? = some x ∧ DataW.trod enc P w base sp held m p.2 ((cs.drop p.1).take (P.cellsOf p.2)) = some x ∧ ∀ n ∈ DataW.weights P p.2 x.1,n ≤ reachBytes) →
  ∃ ts,All2 Ok l ts ∧ TL w (mem w) ts (cs.drop o)
 | [],o,l,xs,h,_ => by
  unfold leavesF at h
  obtain ⟨h1,h⟩ := bif_some h
  obtain rfl := Option.some.inj h
  obtain rfl := Nat.eq_of_beq_eq_true h1
  refine ⟨[],.nil,?_⟩
  rw [List.drop_length]
  exact .nil
 | p :: r,o,l,xs,h,hx => by
  unfold leavesF at h
  obtain ⟨h1,h⟩ := bif_some h
  obtain ⟨l1,hl1,h⟩ := Option.bind_eq_some_iff.1 h
  obtain ⟨l2,hl2,rfl⟩ := Option.map_eq_some_iff.1 h
  obtain rfl := Nat.eq_of_beq_eq_true h1
  obtain ⟨x,_,htr,hw⟩ := hx 0 p rfl
  obtain ⟨ts1,q1,q2⟩ := hF _ _ hl1 m _ x htr hw
  obtain ⟨ts2,q3,q4⟩ := fields_says hF r (p.1 + P.cellsOf p.2) l2 xs.tail hl2 (fun i q hq => by
   obtain ⟨x,h1,h2⟩ := hx (i + 1) q (by simpa using hq)
   exact ⟨x,by rw [List.getElem?_tail]; exact h1,h2⟩)
  refine ⟨ts1 ++ ts2,all2_app q1 q3,?_⟩
  have := q2.app q4
  rwa [← List.drop_drop,List.take_append_drop] at this
theorem leaves_says : ∀ (d : Nat) (t : TypeId) (l : List Lf),leaves P d t = some l → Says enc P w base sp held t l
 | 0,t,l,h => by unfold leaves at h; cases h
 | d + 1,t,l,h => fun fuel cs x hx hw => by
  unfold leaves at h
  split at h
  ·rename_i k ht
   obtain rfl := Option.some.inj h
   obtain ⟨n,rfl,rfl,hwf⟩ := DataW.trod_int ht hx
   exact ⟨_,.cons (.int n hwf) .nil,TL.nil.cons (.v _ rfl)⟩
  ·rename_i ht
   obtain rfl := Option.some.inj h
   obtain ⟨n,rfl,rfl⟩ := DataW.trod_bool ht hx
   exact ⟨_,.cons (.bool n) .nil,TL.nil.cons (.v _ rfl)⟩
  ·rename_i ht
   obtain rfl := Option.some.inj h
   obtain ⟨s,rfl,rfl,hs⟩ := DataW.trod_string ht hx
   refine ⟨_,.cons (.str s ?_) .nil,TL.nil.cons (.v _ rfl)⟩
   have := hw s.data.toList.length (by simp [DataW.weights])
   have h2 : reachBytes = 140737488351232 := rfl
   rw [h2] at this
   simpa using this
  ·rename_i e ht
   cases hz : (P.cellsOf e).beq 0 with
   | true => rw [hz] at h; cases h
   | false =>
    rw [hz,cond_false] at h
    obtain ⟨le,hle,rfl⟩ := Option.map_eq_some_iff.1 h
    have hz0 : P.cellsOf e ≠ 0 := fun e0 => by rw [e0] at hz; cases hz
    rcases DataW.trod_slice ht hx with ⟨rfl,rfl⟩ | ⟨a,len,cap,elems,rest,n,_,rfl,rfl,hb,hl,hm,hlen,hel,_,_⟩
    ·exact ⟨[.rows (P.cellsOf e) 0 fun i => i.elim0],.cons (.row (by simp) (fun i => i.elim0)) .nil,TL.nil.cons (.rows _ 0 _ none 0 (fun i => i.elim0) (Nat.le_refl _) (fun i => i.elim0) (fun h => absurd rfl h) (fun i => i.elim0))⟩
    ·have hev : ∀ i,i < len → ∃ (ts : List T) (c : List Value),w.cells? base (a.add (i * P.cellsOf e)) (P.cellsOf e) = some c ∧ All2 Ok le ts ∧ TL w (mem w) ts c := by
      intro i hi
      have h1 := hel i hi
      have hy : elems[i]? = some (elems[i]'(by omega)) := List.getElem?_eq_getElem (by omega)
      rw [hy] at h1
      obtain ⟨c,hc,htr⟩ := Option.bind_eq_some_iff.1 h1
      obtain ⟨ts,q1,q2⟩ := leaves_says d e le hle _ _ _ htr (fun n hn => hw n (by
       have hmem : (elems[i]'(by omega)).1 ∈ elems.map (·.1) := List.mem_map.2 ⟨_,List.getElem_mem _,rfl⟩
       simp only [DataW.weights,ht,List.mem_cons,List.mem_append]
       exact .inr (.inl (weights_all hmem n hn))))
      exact ⟨ts,c,hc,q1,q2⟩
     obtain ⟨f,hf⟩ := Classical.axiomOfChoice (fun i : Fin len => hev i.1 i.2)
     obtain ⟨cs,hcs⟩ := Classical.axiomOfChoice hf
     have cell : ∀ (i : Fin len) (k : Nat) (t : T),(f i)[k]? = some t → ∃ v,(cs i)[k]? = some v ∧ w.cell? ((a.add (i.1 * P.cellsOf e)).add k) = some v ∧ TRep w (mem w) t v := by
      intro i k t hk
      obtain ⟨hc,_,hT⟩ := hcs i
      obtain ⟨_,hcl,hcc⟩ := World.cells?_some hc
      have hk1 : k < (cs i).length := by rw [← hT.1]; exact (List.getElem?_eq_some_iff.1 hk).1
      have hv := List.getElem?_eq_getElem hk1
      exact ⟨_,hv,by rw [hcc k (by rw [← hcl]; exact hk1)]; exact hv,hT.2 k t _ hk hv⟩
     have hlenf : ∀ i,(f i).length = P.cellsOf e := fun i => by
      obtain ⟨hc,_,hT⟩ := hcs i
      rw [hT.1]; exact (World.cells?_some hc).2.1
     have hwt : len * P.bytesOf e ≤ 140737488351232 := by
      have := hw ((elems.length + rest.length) * P.bytesOf e) (by simp [DataW.weights,ht])
      have h2 : reachBytes = 140737488351232 := rfl
      rw [h2] at this
      rw [← hlen]
      exact Nat.le_trans (Nat.mul_le_mul_right _ (Nat.le_add_right _ _)) this
     refine ⟨[.rows (P.cellsOf e) len f],.cons (.row hwt (fun i => (hcs i).2.1)) .nil,TL.nil.cons (.rows _ len f (some a) cap (fun i k => ((cs i)[k]?).getD undef) hl hlenf (fun hn => ?_) (fun i k t hk => ?_))⟩
     ·have hp : 0 < len := by omega
      have hl0 : 0 < (f ⟨0,hp⟩).length := by rw [hlenf]; omega
      obtain ⟨t0,h0⟩ : ∃ t0,(f ⟨0,hp⟩)[0]? = some t0 := ⟨_,List.getElem?_eq_getElem hl0⟩
      obtain ⟨v0,_,hc0,_⟩ := cell ⟨0,by omega⟩ 0 t0 h0
      have hm := mem_cell hc0
      obtain ⟨ab,ao,asp⟩ := a
      obtain rfl : asp = none := by simpa [Addr.add] using hm.2
      simp only [addr_add] at hm
      refine ⟨ab,ao,rfl,hm.1,fun i k t hk => ?_⟩
      obtain ⟨v,h1,h2,_⟩ := cell i k t hk
      rw [h1]
      rw [addr_add,addr_add] at h2
      exact h2
     ·obtain ⟨v,h1,_,h3⟩ := cell i k t hk
      rw [h1]; exact h3
  ·rename_i n e ht
   obtain ⟨xs,m,_,rfl,hl,hlen,hf⟩ := DataW.trod_array ht hx
   rw [← hl] at h
   have := fields_says (enc := enc) (w := w) (base := base) (sp := sp) (held := held) (m := m) (leaves_says d) _ 0 l xs h (fun i p hp => by
    rw [List.getElem?_map] at hp
    obtain ⟨j,hj,rfl⟩ := Option.map_eq_some_iff.1 hp
    obtain ⟨hi,rfl⟩ := List.getElem?_eq_some_iff.1 hj
    have hi : i < n := by simpa using hi
    rw [List.getElem_range]
    refine ⟨xs[i]'(by omega),List.getElem?_eq_getElem (by omega),by rw [hf i hi]; exact List.getElem?_eq_getElem (by omega),fun k hk => hw k ?_⟩
    simp only [DataW.weights,ht]
    exact weights_all (List.mem_map.2 ⟨_,List.getElem_mem _,rfl⟩) k hk)
   simpa using this
  ·rename_i fs ht
   obtain ⟨xs,m,_,rfl,hl,hlen,hf⟩ := DataW.trod_struct ht hx
   rw [← hl] at h
   have := fields_says (enc := enc) (w := w) (base := base) (sp := sp) (held := held) (m := m) (leaves_says d) _ 0 l xs h (fun i p hp => by
    rw [List.getElem?_map] at hp
    obtain ⟨fd,hj,rfl⟩ := Option.map_eq_some_iff.1 hp
    have hi : i < fs.size := by have := (List.getElem?_eq_some_iff.1 hj).1; simpa using this
    refine ⟨xs[i]'(by omega),List.getElem?_eq_getElem (by omega),by rw [hf i fd (by rw [← Array.getElem?_toList]; exact hj)]; exact List.getElem?_eq_getElem (by omega),fun k hk => hw k ?_⟩
    simp only [DataW.weights,ht]
    exact DataW.weights_mem_each (j := i) (by rw [List.getElem?_map,hj]; rfl) (by rw [List.getElem?_map,List.getElem?_eq_getElem (by omega)]; rfl) k hk)
   simpa using this
  ·cases h
end
end Go.Proofs.YtonkoellfaopiaaGreatDoor.H
namespace Go.Proofs.YtonkoellfaopiaaGreatDoor.H
open Go
theorem sm_of {s : ByteArray} (h : s.size ≤ 140737488351232) : sm (sizeN s) := by unfold sm sizeN; omega
theorem op_row {α : Type} [Inhabited α] {e : α → List T} {p : α → Prop} {l : List Lf} (H : ∀ ts,All2 Ok l ts → ∃ a,e a = ts ∧ p a) {sz B n : Nat} (hB : 1 ≤ B) {g : Fin n → List T} (hb : n * B ≤ 140737488351232) (hg : ∀ i,All2 Ok l (g i)) :
  ∃ r : Rw α,T.rows sz r.n (fun i => e (r.get i)) = T.rows sz n g ∧ smR p r := by
 obtain ⟨f,hf⟩ := Classical.axiomOfChoice (fun i => H _ (hg i))
 refine ⟨⟨n,f⟩,?_,?_,fun j hj => ?_⟩
 ·show T.rows sz n (fun i => e (f i)) = _
  rw [show (fun i => e (f i)) = g from funext fun i => (hf i).1]
 ·show n ≤ _
  have := Nat.mul_le_mul_left n hB
  omega
 ·have hj' : j < n := hj
  have : (⟨n,f⟩ : Rw α).at j = f ⟨j,hj'⟩ := by unfold Rw.at; rw [dif_pos hj]
  rw [this]; exact (hf _).2
def sh9 : List Lf := [.str]
theorem op9 (ts : List T) (h : All2 Ok sh9 ts) : ∃ a,e9 a = ts ∧ sm (sizeN a) := by
 cases h with | cons h1 h =>
 cases h with | nil =>
 cases h1 with | str s hs =>
 exact ⟨s,rfl,sm_of hs⟩
def sh88 : List Lf := [.str,.str]
theorem op88 (ts : List T) (h : All2 Ok sh88 ts) : ∃ a : D88,e88 a = ts ∧ sm88 a := by
 cases h with | cons h0 h =>
 cases h with | cons h1 h =>
 cases h with | nil =>
 cases h0 with | str s0 q0 =>
 cases h1 with | str s1 q1 =>
 refine ⟨⟨s0,s1⟩,?_,sm_of q0,sm_of q1⟩
 rfl
def sh109 : List Lf := [.str,.str,.int .i64,.bool]
theorem op109 (ts : List T) (h : All2 Ok sh109 ts) : ∃ a : D109,e109 a = ts ∧ sm109 a := by
 cases h with | cons h0 h =>
 cases h with | cons h1 h =>
 cases h with | cons h2 h =>
 cases h with | cons h3 h =>
 cases h with | nil =>
 cases h0 with | str s0 q0 =>
 cases h1 with | str s1 q1 =>
 cases h2 with | int s2 q2 =>
 cases h3 with | bool s3 =>
 refine ⟨⟨s0,s1,s2,s3⟩,?_,sm_of q0,sm_of q1⟩
 rfl
def sh112 : List Lf := [.str,.int .i64,.int .i64,.int .i64,.int .i64,.row 2 32 sh88,.row 4 48 sh109]
theorem op112 (ts : List T) (h : All2 Ok sh112 ts) : ∃ a : D112,e112 a = ts ∧ sm112 a := by
 cases h with | cons h0 h =>
 cases h with | cons h1 h =>
 cases h with | cons h2 h =>
 cases h with | cons h3 h =>
 cases h with | cons h4 h =>
 cases h with | cons h5 h =>
 cases h with | cons h6 h =>
 cases h with | nil =>
 cases h0 with | str s0 q0 =>
 cases h1 with | int s1 q1 =>
 cases h2 with | int s2 q2 =>
 cases h3 with | int s3 q3 =>
 cases h4 with | int s4 q4 =>
 cases h5 with | row b5 g5 =>
 obtain ⟨s5,e5,q5⟩ := op_row (sz := 2) (p := sm88) op88 (by decide) b5 g5
 cases h6 with | row b6 g6 =>
 obtain ⟨s6,e6,q6⟩ := op_row (sz := 4) (p := sm109) op109 (by decide) b6 g6
 refine ⟨⟨s0,s1,s2,s3,s4,s5,s6⟩,?_,sm_of q0,q5,q6⟩
 simp only [e112,e5,e6]
def sh68 : List Lf := [.str,.int .i64,.row 1 16 sh9,.int .i64]
theorem op68 (ts : List T) (h : All2 Ok sh68 ts) : ∃ a : D68,e68 a = ts ∧ sm68 a := by
 cases h with | cons h0 h =>
 cases h with | cons h1 h =>
 cases h with | cons h2 h =>
 cases h with | cons h3 h =>
 cases h with | nil =>
 cases h0 with | str s0 q0 =>
 cases h1 with | int s1 q1 =>
 cases h2 with | row b2 g2 =>
 obtain ⟨s2,e2,q2⟩ := op_row (sz := 1) (p := (fun x : ByteArray => sm (sizeN x))) op9 (by decide) b2 g2
 cases h3 with | int s3 q3 =>
 refine ⟨⟨s0,s1,s2,s3⟩,?_,sm_of q0,q2⟩
 simp only [e68,e2]
def sh160 : List Lf := [.str,.str,.bool]
theorem op160 (ts : List T) (h : All2 Ok sh160 ts) : ∃ a : D160,e160 a = ts ∧ sm160 a := by
 cases h with | cons h0 h =>
 cases h with | cons h1 h =>
 cases h with | cons h2 h =>
 cases h with | nil =>
 cases h0 with | str s0 q0 =>
 cases h1 with | str s1 q1 =>
 cases h2 with | bool s2 =>
 refine ⟨⟨s0,s1,s2⟩,?_,sm_of q0,sm_of q1⟩
 rfl
def sh70 : List Lf := [.str,.str,.int .i64]
theorem op70 (ts : List T) (h : All2 Ok sh70 ts) : ∃ a : D70,e70 a = ts ∧ sm70 a := by
 cases h with | cons h0 h =>
 cases h with | cons h1 h =>
 cases h with | cons h2 h =>
 cases h with | nil =>
 cases h0 with | str s0 q0 =>
 cases h1 with | str s1 q1 =>
 cases h2 with | int s2 q2 =>
 refine ⟨⟨s0,s1,s2⟩,?_,sm_of q0,sm_of q1⟩
 rfl
def sh138 : List Lf := [.str,.str]
theorem op138 (ts : List T) (h : All2 Ok sh138 ts) : ∃ a : D138,e138 a = ts ∧ sm138 a := by
 cases h with | cons h0 h =>
 cases h with | cons h1 h =>
 cases h with | nil =>
 cases h0 with | str s0 q0 =>
 cases h1 with | str s1 q1 =>
 refine ⟨⟨s0,s1⟩,?_,sm_of q0,sm_of q1⟩
 rfl
def sh61 : List Lf := [.str,.str,.int .i64,.int .i64,.int .i64,.row 4 56 sh68,.row 3 40 sh160,.row 3 40 sh70,.row 2 32 sh138,.row 2 32 sh138,.int .i64,.str]
theorem op61 (ts : List T) (h : All2 Ok sh61 ts) : ∃ a : D61,e61 a = ts ∧ sm61 a := by
 cases h with | cons h0 h =>
 cases h with | cons h1 h =>
 cases h with | cons h2 h =>
 cases h with | cons h3 h =>
 cases h with | cons h4 h =>
 cases h with | cons h5 h =>
 cases h with | cons h6 h =>
 cases h with | cons h7 h =>
 cases h with | cons h8 h =>
 cases h with | cons h9 h =>
 cases h with | cons h10 h =>
 cases h with | cons h11 h =>
 cases h with | nil =>
 cases h0 with | str s0 q0 =>
 cases h1 with | str s1 q1 =>
 cases h2 with | int s2 q2 =>
 cases h3 with | int s3 q3 =>
 cases h4 with | int s4 q4 =>
 cases h5 with | row b5 g5 =>
 obtain ⟨s5,e5,q5⟩ := op_row (sz := 4) (p := sm68) op68 (by decide) b5 g5
 cases h6 with | row b6 g6 =>
 obtain ⟨s6,e6,q6⟩ := op_row (sz := 3) (p := sm160) op160 (by decide) b6 g6
 cases h7 with | row b7 g7 =>
 obtain ⟨s7,e7,q7⟩ := op_row (sz := 3) (p := sm70) op70 (by decide) b7 g7
 cases h8 with | row b8 g8 =>
 obtain ⟨s8,e8,q8⟩ := op_row (sz := 2) (p := sm138) op138 (by decide) b8 g8
 cases h9 with | row b9 g9 =>
 obtain ⟨s9,e9,q9⟩ := op_row (sz := 2) (p := sm138) op138 (by decide) b9 g9
 cases h10 with | int s10 q10 =>
 cases h11 with | str s11 q11 =>
 refine ⟨⟨s0,s1,s2,s3,s4,s5,s6,s7,s8,s9,s10,s11⟩,?_,sm_of q0,sm_of q1,q5,q6,q7,q8,q9,sm_of q11⟩
 simp only [e61,e5,e6,e7,e8,e9]
def sh77 : List Lf := [.str,.int .i64,.int .i64,.int .i64,.row 4 56 sh68,.row 2 32 sh88,.int .i64,.int .i64,.int .i64,.int .i64]
theorem op77 (ts : List T) (h : All2 Ok sh77 ts) : ∃ a : D77,e77 a = ts ∧ sm77 a := by
 cases h with | cons h0 h =>
 cases h with | cons h1 h =>
 cases h with | cons h2 h =>
 cases h with | cons h3 h =>
 cases h with | cons h4 h =>
 cases h with | cons h5 h =>
 cases h with | cons h6 h =>
 cases h with | cons h7 h =>
 cases h with | cons h8 h =>
 cases h with | cons h9 h =>
 cases h with | nil =>
 cases h0 with | str s0 q0 =>
 cases h1 with | int s1 q1 =>
 cases h2 with | int s2 q2 =>
 cases h3 with | int s3 q3 =>
 cases h4 with | row b4 g4 =>
 obtain ⟨s4,e4,q4⟩ := op_row (sz := 4) (p := sm68) op68 (by decide) b4 g4
 cases h5 with | row b5 g5 =>
 obtain ⟨s5,e5,q5⟩ := op_row (sz := 2) (p := sm88) op88 (by decide) b5 g5
 cases h6 with | int s6 q6 =>
 cases h7 with | int s7 q7 =>
 cases h8 with | int s8 q8 =>
 cases h9 with | int s9 q9 =>
 refine ⟨⟨s0,s1,s2,s3,s4,s5,s6,s7,s8,s9⟩,?_,sm_of q0,q4,q5⟩
 simp only [e77,e4,e5]
def sh47 : List Lf := [.str,.str,.str]
theorem op47 (ts : List T) (h : All2 Ok sh47 ts) : ∃ a : D47,e47 a = ts ∧ sm47 a := by
 cases h with | cons h0 h =>
 cases h with | cons h1 h =>
 cases h with | cons h2 h =>
 cases h with | nil =>
 cases h0 with | str s0 q0 =>
 cases h1 with | str s1 q1 =>
 cases h2 with | str s2 q2 =>
 refine ⟨⟨s0,s1,s2⟩,?_,sm_of q0,sm_of q1,sm_of q2⟩
 rfl
def sh52 : List Lf := [.str,.str,.int .i64,.str,.str,.str,.int .i64,.int .i64,.int .i64,.row 3 48 sh47,.int .i64,.str,.int .i64,.int .i64,.bool]
theorem op52 (ts : List T) (h : All2 Ok sh52 ts) : ∃ a : D52,e52 a = ts ∧ sm52 a := by
 cases h with | cons h0 h =>
 cases h with | cons h1 h =>
 cases h with | cons h2 h =>
 cases h with | cons h3 h =>
 cases h with | cons h4 h =>
 cases h with | cons h5 h =>
 cases h with | cons h6 h =>
 cases h with | cons h7 h =>
 cases h with | cons h8 h =>
 cases h with | cons h9 h =>
 cases h with | cons h10 h =>
 cases h with | cons h11 h =>
 cases h with | cons h12 h =>
 cases h with | cons h13 h =>
 cases h with | cons h14 h =>
 cases h with | nil =>
 cases h0 with | str s0 q0 =>
 cases h1 with | str s1 q1 =>
 cases h2 with | int s2 q2 =>
 cases h3 with | str s3 q3 =>
 cases h4 with | str s4 q4 =>
 cases h5 with | str s5 q5 =>
 cases h6 with | int s6 q6 =>
 cases h7 with | int s7 q7 =>
 cases h8 with | int s8 q8 =>
 cases h9 with | row b9 g9 =>
 obtain ⟨s9,e9,q9⟩ := op_row (sz := 3) (p := sm47) op47 (by decide) b9 g9
 cases h10 with | int s10 q10 =>
 cases h11 with | str s11 q11 =>
 cases h12 with | int s12 q12 =>
 cases h13 with | int s13 q13 =>
 cases h14 with | bool s14 =>
 refine ⟨⟨s0,s1,s2,s3,s4,s5,s6,s7,s8,s9,s10,s11,s12,s13,s14⟩,?_,sm_of q0,sm_of q1,sm_of q3,sm_of q4,sm_of q5,q9⟩
 simp only [e52,e9]
def sh122 : List Lf := [.int .i64,.row 1 16 sh9,.int .i64,.int .i64,.str,.str,.row 3 48 sh47,.bool]
theorem op122 (ts : List T) (h : All2 Ok sh122 ts) : ∃ a : D122,e122 a = ts ∧ sm122 a := by
 cases h with | cons h0 h =>
 cases h with | cons h1 h =>
 cases h with | cons h2 h =>
 cases h with | cons h3 h =>
 cases h with | cons h4 h =>
 cases h with | cons h5 h =>
 cases h with | cons h6 h =>
 cases h with | cons h7 h =>
 cases h with | nil =>
 cases h0 with | int s0 q0 =>
 cases h1 with | row b1 g1 =>
 obtain ⟨s1,e1,q1⟩ := op_row (sz := 1) (p := (fun x : ByteArray => sm (sizeN x))) op9 (by decide) b1 g1
 cases h2 with | int s2 q2 =>
 cases h3 with | int s3 q3 =>
 cases h4 with | str s4 q4 =>
 cases h5 with | str s5 q5 =>
 cases h6 with | row b6 g6 =>
 obtain ⟨s6,e6,q6⟩ := op_row (sz := 3) (p := sm47) op47 (by decide) b6 g6
 cases h7 with | bool s7 =>
 refine ⟨⟨s0,s1,s2,s3,s4,s5,s6,s7⟩,?_,q1,sm_of q4,sm_of q5,q6⟩
 simp only [e122,e1,e6]
def sh125 : List Lf := [.str,.str,.str,.int .i64]
theorem op125 (ts : List T) (h : All2 Ok sh125 ts) : ∃ a : D125,e125 a = ts ∧ sm125 a := by
 cases h with | cons h0 h =>
 cases h with | cons h1 h =>
 cases h with | cons h2 h =>
 cases h with | cons h3 h =>
 cases h with | nil =>
 cases h0 with | str s0 q0 =>
 cases h1 with | str s1 q1 =>
 cases h2 with | str s2 q2 =>
 cases h3 with | int s3 q3 =>
 refine ⟨⟨s0,s1,s2,s3⟩,?_,sm_of q0,sm_of q1,sm_of q2⟩
 rfl
def sh91 : List Lf := [.str,.str,.str,.str,.str,.int .i64,.int .i64]
theorem op91 (ts : List T) (h : All2 Ok sh91 ts) : ∃ a : D91,e91 a = ts ∧ (fun c => sm47 (offI c)) a := by
 cases h with | cons h0 h =>
 cases h with | cons h1 h =>
 cases h with | cons h2 h =>
 cases h with | cons h3 h =>
 cases h with | cons h4 h =>
 cases h with | cons h5 h =>
 cases h with | cons h6 h =>
 cases h with | nil =>
 cases h0 with | str s0 q0 =>
 cases h1 with | str s1 q1 =>
 cases h2 with | str s2 q2 =>
 cases h3 with | str s3 q3 =>
 cases h4 with | str s4 q4 =>
 cases h5 with | int s5 q5 =>
 cases h6 with | int s6 q6 =>
 refine ⟨⟨s0,s1,s2,s3,s4,s5,s6⟩,?_,sm_of q2,sm_of q3,sm_of q4⟩
 rfl
def sh33 : List Lf := [.int .i64,.int .i64,.int .i64,.int .i64,.int .i64,.int .i64,.row 7 96 sh112,.row 12 200 sh61,.row 10 120 sh77,.row 15 184 sh52,.row 8 112 sh122,.row 4 56 sh125,.row 7 96 sh91,.row 1 16 sh9]
theorem op33 (ts : List T) (h : All2 Ok sh33 ts) : ∃ a : D33,e33 a = ts ∧ sm33 a := by
 cases h with | cons h0 h =>
 cases h with | cons h1 h =>
 cases h with | cons h2 h =>
 cases h with | cons h3 h =>
 cases h with | cons h4 h =>
 cases h with | cons h5 h =>
 cases h with | cons h6 h =>
 cases h with | cons h7 h =>
 cases h with | cons h8 h =>
 cases h with | cons h9 h =>
 cases h with | cons h10 h =>
 cases h with | cons h11 h =>
 cases h with | cons h12 h =>
 cases h with | cons h13 h =>
 cases h with | nil =>
 cases h0 with | int s0 q0 =>
 cases h1 with | int s1 q1 =>
 cases h2 with | int s2 q2 =>
 cases h3 with | int s3 q3 =>
 cases h4 with | int s4 q4 =>
 cases h5 with | int s5 q5 =>
 cases h6 with | row b6 g6 =>
 obtain ⟨s6,e6,q6⟩ := op_row (sz := 7) (p := sm112) op112 (by decide) b6 g6
 cases h7 with | row b7 g7 =>
 obtain ⟨s7,e7,q7⟩ := op_row (sz := 12) (p := sm61) op61 (by decide) b7 g7
 cases h8 with | row b8 g8 =>
 obtain ⟨s8,e8,q8⟩ := op_row (sz := 10) (p := sm77) op77 (by decide) b8 g8
 cases h9 with | row b9 g9 =>
 obtain ⟨s9,e9,q9⟩ := op_row (sz := 15) (p := sm52) op52 (by decide) b9 g9
 cases h10 with | row b10 g10 =>
 obtain ⟨s10,e10,q10⟩ := op_row (sz := 8) (p := sm122) op122 (by decide) b10 g10
 cases h11 with | row b11 g11 =>
 obtain ⟨s11,e11,q11⟩ := op_row (sz := 4) (p := sm125) op125 (by decide) b11 g11
 cases h12 with | row b12 g12 =>
 obtain ⟨s12,e12,q12⟩ := op_row (sz := 7) (p := (fun c => sm47 (offI c))) op91 (by decide) b12 g12
 cases h13 with | row b13 g13 =>
 obtain ⟨s13,e13,q13⟩ := op_row (sz := 1) (p := (fun x : ByteArray => sm (sizeN x))) op9 (by decide) b13 g13
 refine ⟨⟨s0,s1,s2,s3,s4,s5,s6,s7,s8,s9,s10,s11,s12,s13⟩,?_,q6,q7,q8,q9,q10,q11,q12⟩
 simp only [e33,e6,e7,e8,e9,e10,e11,e12,e13]
theorem leaves33 : leaves Tryz.prog 9 33 = some sh33 := by kernel_rfl
end Go.Proofs.YtonkoellfaopiaaGreatDoor.H
namespace Go.Proofs.YtonkoellfaopiaaGreatDoor.H
open Go Go.Proofs Go.RowKit
theorem laidH_iff {w : World} : laidMetH Tryz.prog Rows.viewChecksRow.laid w ↔ laidMet Tryz.prog Rows.viewChecksRow.laid w := by
 have e : (Rows.viewChecksRow.laid.filter fun x => x.2.handleName?.isSome) = [] := by kernel_rfl
 unfold laidMetH
 rw [e]
def textSyntax : ByteArray := { data := #[105,110,118,97,108,105,100,32,115,121,110,116,97,120] }
def textRange : ByteArray := { data := #[118,97,108,117,101,32,111,117,116,32,111,102,32,114,97,110,103,101] }
noncomputable def low : Nat := (World.holding Tryz.prog default ⟨#[],#[],[]⟩).heap.size
def layCells (c : Array Value) : Obj → Obj
 | .cells _ t frozen => .cells c t frozen
 | o => o
def tabCells : DataW Unit → Array Value
 | .agg l => (l.filterMap fun | .lit (.int k n) => some (.int k n) | _ => none).toArray
 | _ => #[]
noncomputable def laidWorld (os : Os) : World :=
 let w0 := World.holding Tryz.prog os ⟨#[.cells #[.string textSyntax] 271,.cells #[.string textRange] 271],#[],[]⟩
 { w0 with heap := ((((w0.heap.modify 1 (layCells #[.iface 269 (.pointer (some ⟨low,0,none⟩))])).modify 2 (layCells #[.iface 269 (.pointer (some ⟨low + 1,0,none⟩))])).modify 3
   (layCells (tabCells Rows.laid_internal_strconv_uint64pow10))).modify 4 (layCells (tabCells Rows.laid_math_bits_deBruijn32tab))).modify 5 (layCells (tabCells Rows.laid_math_bits_deBruijn64tab)) }
set_option maxRecDepth 100000 in
theorem laid_met (os : Os) (args : Array Value) : laidMet Tryz.prog Rows.viewChecksRow.laid ((laidWorld os).forCall (fun _ _ => 0) ⟨#[],args,[]⟩).memory :=
 laidMet_of_run' 8 (by kernel_rfl) (by kernel_rfl)
theorem laidH_met (os : Os) (args : Array Value) : laidMetH Tryz.prog Rows.viewChecksRow.laid ((laidWorld os).forCall (fun _ _ => 0) ⟨#[],args,[]⟩).memory :=
 laidH_iff.2 (laid_met os args)
theorem laidMet_tail {P : Program} {W : World} : ∀ {x : String × DataW Unit} {rest : List (String × DataW Unit)},laidMet P (x :: rest) W → laidMet P rest W
 | (n,d),rest,⟨ps,⟨g,t,cs,fuel,p,q,_,_,_,_,hr,hp⟩,hn,hc⟩ => by
  subst hp
  exact ⟨q,hr,(List.nodup_append.1 hn).2.1,fun b off hb => hc b off (List.mem_append_right _ hb)⟩
theorem iface_of_trod {H : Type} {enc : TypeId × Value → H} {P : Program} {w : World} {base : Nat} {sp : Nat → Bool} {held : Bool} {fuel : Nat} {t : TypeId} {m : _} {cs : List Value} {s : String} {d : DataW H} {p : List MemPlace}
  (ht : P.underlying t = some (.interface m)) (h : DataW.trod enc P w base sp held fuel t cs = some (.iface s d,p)) : ∃ u v,cs = [.iface u v] := by
 cases fuel with
 | zero => simp [DataW.trod] at h
 | succ fuel =>
  simp only [DataW.trod,ht] at h
  split at h <;> first
   | exact ⟨_,_,rfl⟩
   | (simp_all; done)
theorem cell_of_head {P : Program} {W : World} {n : String} {s : String} {d : DataW Unit} {rest : List (String × DataW Unit)} {g : Nat} {t : TypeId} {m : _}
  (hg : P.globalNamed n = some g) (hty : (P.globals[g]?).map (·.type) = some t) (ht : P.underlying t = some (.interface m)) (h : laidMet P ((n,.iface s d) :: rest) W) : ∃ u v,W.cell? ⟨g,0,none⟩ = some (.iface u v) := by
 obtain ⟨ps,⟨g',t',cs,fuel,p,q,hg',ht',hvar,hd,_,_⟩,_⟩ := h
 obtain rfl := Option.some.inj (hg.symm.trans hg')
 obtain rfl := Option.some.inj (hty.symm.trans ht')
 obtain ⟨u,v,e⟩ := iface_of_trod ht hd
 have e' : cs = #[.iface u v] := Array.ext' e
 subst e'
 exact ⟨u,v,by simpa using World.var?_cell hg hvar 0⟩
theorem Vars_of_laid {W : World} (h : laidMetH Tryz.prog Rows.viewChecksRow.laid W) (hs : W.ShapedOpen Tryz.prog) : Vars W := by
 have h0 := laidH_iff.1 h
 have h2 := laidMet_tail (laidMet_tail h0)
 have h3 := laidMet_tail h2
 have h4 := laidMet_tail h3
 exact ⟨Lib.tabIs_of_head (zs := Lib.pow10Tab) (t := 254) (e := 151) (n := 20) tab_named (by kernel_rfl) (by kernel_rfl) (by kernel_rfl) (by kernel_rfl) (by kernel_rfl) h2,
  cell_of_head (t := 153) (g := 1) (by kernel_rfl) (by kernel_rfl) Tryz.underlying153 h4,cell_of_head (t := 153) (g := 2) (by kernel_rfl) (by kernel_rfl) Tryz.underlying153 h3,
  Go.Proofs.cell_of_shapedOpen_int (P := Tryz.prog) (g := 0) (t := 3) (zero := #[.int .i64 0]) hs (of_decide_eq_true (by kernel_rfl)) (by kernel_rfl) (by kernel_rfl) (by kernel_rfl) (by kernel_rfl) Tryz.underlying3⟩
variable {H : Type} {enc : TypeId × Value → H}
theorem returns_shaped {a : Assume} {C : Checked} {os : Os} {f : FuncId} {fn : Func} {s : ChangeSpec} {conds : List PathCond} {apart fresh handsOn again : Bool} {X : World → Array Value → Prop}
  (hX : ∀ (w w' : World) (args : Array Value),w.heap = w'.heap → X w args → X w' args)
  (own : ownKnob C.prog.godebug = none) (started : os.Started) (noInit : C.prog.inits.idxOf? f = none) (hfn : C.prog.funcs[f]? = some fn)
  (witness : ∃ (w : World) (tape : Tape) (i : Input),w.os = os ∧ (w.forCall tape i).Shaped C.prog ∧ i.vars = [] ∧ Input.okWide C.prog (w.forCall tape i) .any w.heap.size f i ∧
   ((s.pre enc C.prog fn conds apart (w.forCall tape i).memory i.args ∧ X (w.forCall tape i).memory i.args) ∧ sizedMet enc C.prog fn (OpenSpec.ofChange s) apart (w.forCall tape i).memory i.args) ∧ a.holds C.prog (lone (Frame.enter C.prog f i.args .normal) [] (w.forCall tape i)))
  (contract : ∀ (W : World) (base : Nat) (args : Array Value) (ds gs : List (DataW H)) (before : List MemPlace),
   (∀ (j : Nat) t v,fn.params[j]? = some t → args[j]? = some v → Value.okWide C.prog W .any base t v) →
   DataW.Whole enc C.prog fn.params.toList s.vars apart W args.toList ds gs before →
   (DataW.weightsEach C.prog (fn.params.toList ++ s.plain.varTypes C.prog) (ds ++ gs)).all (· ≤ reachBytes) = true → X W args → W.ShapedOpen C.prog →
   Calls C.prog f args W fun e W' => ∃ v,e = .returned v ∧ s.post enc C.prog fn apart fresh handsOn again W args v W') :
  ReturnsInHanded a C os f .any (fun w args => (s.pre enc C.prog fn conds apart w args ∧ X w args) ∧ sizedMet enc C.prog fn (OpenSpec.ofChange s) apart w args) (s.post enc C.prog fn apart fresh handsOn again) := by
 refine returnsInHanded_of_calls own started noInit witness fun w tape i _ hsh _ hok hpre _ => ?_
 obtain ⟨_,_,_,fn',hfn',_,_,_,_,hval⟩ := hok
 obtain rfl : fn' = fn := Option.some.inj (hfn'.symm.trans hfn)
 obtain ⟨⟨⟨ds,gs,before,hw,_⟩,hx⟩,hz⟩ := hpre
 refine (contract (w.forCall tape i) w.heap.size i.args ds gs before hval (DataW.Whole.of_heap (w' := w.forCall tape i) (by rfl) hw) (hz.weights hw) (hX _ _ _ (by rfl) hx) hsh).mono fun e W' ⟨v,he,hp⟩ => ?_
 subst he
 exact ChangeSpec.post_blind hp
theorem open33 {W : World} {base : Nat} {sp : Nat → Bool} {held : Bool} {cs : Array Value} {d : DataW H} {p : List MemPlace} (h : DataW.Trod enc Tryz.prog W base sp held 33 (.agg cs) d p) (hw : ∀ n ∈ DataW.weights Tryz.prog 33 d,n ≤ reachBytes) :
  ∃ a : D33,sm33 a ∧ LRep (Gh.bare (mem W)) W [ag (e33 a)] (#[.agg cs] : Array Value).toList := by
 obtain ⟨fuel,hf⟩ := h
 obtain ⟨ts,h1,h2⟩ := leaves_says 9 33 sh33 leaves33 fuel _ _ hf hw
 obtain ⟨a,rfl,ha⟩ := op33 ts h1
 have hc : (Value.agg cs).cells = cs := rfl
 rw [hc] at h2
 refine ⟨a,ha,.cons (.agg (by rw [List.length_map,h2.1,Array.length_toList]) fun i s v hs hv => ?_) .nil⟩
 obtain ⟨t,ht,rfl⟩ := Option.map_eq_some_iff.1 (List.getElem?_map ▸ hs)
 exact .t (h2.2 i t v ht (by rw [← Array.getElem?_toList] at hv; exact hv))
end Go.Proofs.YtonkoellfaopiaaGreatDoor.H
