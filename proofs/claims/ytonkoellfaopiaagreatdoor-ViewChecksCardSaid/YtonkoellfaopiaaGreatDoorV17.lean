import Derived.Test.YtonkoellfaopiaaGreatDoorV8
set_option linter.unusedSimpArgs false
set_option linter.unusedVariables false
namespace Go.Proofs.YtonkoellfaopiaaGreatDoor.H
open Go
noncomputable section
abbrev P103 (q : YF) (kk : PK S) : PK S := PG q 103 Tryz.f103 kk
abbrev H103 (q : YF) : Nat → PK S := HG q 103 Tryz.f103
def s103_0 (a : D49) (b : D49) (v0 u1 : Bool) (u2 : Int) (u3 u4 u5 : S) (u6 : Bool) (u7 u8 : S) : St := mkSt [(0, ag (e49 a)), (8, bb u1), (4, bb false), (12, u3), (2, S.ptr 0 0), (10, u4), (6, ag (e49 b)), (14, u5), (1, ag (e49 b)), (9, bb u6), (5, ag (e49 a)), (13, u7), (3, S.ptr 1 0), (11, u8), (7, ii u2), (15, bb v0)] 15 [(0, B.box (List.map S.t (e49 a))), (1, B.box (List.map S.t (e49 b)))]
abbrev T103_0 : Type := Bool → Bool → Int → S → S → S → Bool → S → S → OS
def K103_0 (a : D49) (b : D49) (kk : PK S) : T103_0 := fun v0 u1 u2 u3 u4 u5 u6 u7 u8=> kk 1 12 3 (s103_0 a b v0 u1 u2 u3 u4 u5 u6 u7 u8)
def b103_0 (q : YF) (a : D49) (b : D49) (v0 u1 : Bool) (u2 : Int) (u3 u4 u5 : S) (u6 : Bool) (u7 u8 : S) : OS := some (bb v0)
def e103_in (q : YF) (a : D49) (b : D49) (k0 : T103_0) : OS := yC q 143 [ag (e49 a), ag (e49 b)] fun y => bif eqI (y.i 0) 0 then yC q 144 [ag (e49 a), ag (e49 b)] fun y_1 => k0 (eqI (y_1.i 0) a.fa_0 && (eqI (y_1.i 1) a.fa_1 && true)) (eqI (y.i 0) 0) (y.i 0) (S.agg [ii (y_1.i 0), ii (y_1.i 1)]) (ag (e49 a)) (bb (eqI (y_1.i 0) a.fa_0 && (eqI (y_1.i 1) a.fa_1 && true))) true (ag (e49 a)) (ag (e49 b)) else k0 false (eqI (y.i 0) 0) (y.i 0) S.ud S.ud S.ud false S.ud S.ud
structure X103 where
 x0 : Bool → OS
def D103_0 (X : X103) : T103_0 := fun v0 _ _ _ _ _ _ _ _ => X.x0 v0
def X103s (q : YF) (a : D49) (b : D49) (X : X103) : X103 := ⟨fun v0 => b103_0 q a b v0 dd dd dd dd dd dd dd dd⟩
def X103n (q : YF) (a : D49) (b : D49) : Nat → X103
 | 0 => ⟨fun _ => none⟩
 | n + 1 => X103s q a b (X103n q a b n)
theorem l103_0 (q : YF) (a : D49) (b : D49) (kk : PK S) : K103_0 a b (P103 q kk) = b103_0 q a b := by
 kernel_rfl
theorem l103_in (q : YF) (a : D49) (b : D49) (kk : PK S) : BG q kk 103 Tryz.f103 [ag (e49 a), ag (e49 b)] = e103_in q a b (K103_0 a b kk) := by
 kernel_rfl
theorem h103 (q : YF) (a : D49) (b : D49) : ∀ n, K103_0 a b (H103 q n) = D103_0 (X103n q a b n)
 | 0 => rfl
 | n + 1 => by
  have h0 := h103 q a b n
  exact (l103_0 q a b (H103 q n)).trans (by kernel_rfl)
theorem W103 (a : D49) (b : D49) (n : Nat) (x : S) (h : e103_in (regs O) a b (D103_0 (X103n (regs O) a b n)) = some x) : (W O).callT 103 [ag (e49 a), ag (e49 b)] = some x := by
 refine WG (fn := Tryz.f103) (by kernel_rfl) (by kernel_rfl) (n := n) ?_
 refine (l103_in (regs O) a b (H103 (regs O) n)).trans ?_
 have h0 := h103 (regs O) a b n
 rw [h0]
 exact h
abbrev P104 (q : YF) (kk : PK S) : PK S := PG q 104 Tryz.f104 kk
abbrev H104 (q : YF) : Nat → PK S := HG q 104 Tryz.f104
def s104_0 (a : Rw D88) (v0 : Int) : St := mkSt [(0, S.t (T.rows 2 a.n fun i => e88 (a.get i))), (8, S.t (T.rows 2 a.n fun i => e88 (a.get i))), (10, ii v0), (9, ii (ofN a.n))] 0 []
def K104_0 (a : Rw D88) (kk : PK S) : Int → OS := fun v0=> kk 4 0 0 (s104_0 a v0)
def b104_0 (q : YF) (a : Rw D88) (k0 : Int → OS) (v0 : Int) : OS := bif ltI v0 (ofN a.n) then elemO v0 a.n fun h => yC q 101 [ss (a.get (Fin.mk v0.toNat h)).fKey] fun y => bif !y.b 0 then some (ii 7) else yC q 145 [S.t (T.rows 1 5 fun i => List.take 1 (List.drop (↑i * 1) [ts (bs [122, 111, 110, 101]), ts (bs [116, 121, 112, 101]), ts (bs [107, 105, 110, 100]), ts (bs [112, 111, 111, 108]), ts (bs [104, 111, 115, 116])])), ss (a.get (Fin.mk v0.toNat h)).fKey] fun y => bif y.b 0 then some (ii 1) else yC q 146 [ss (a.get (Fin.mk v0.toNat h)).fVal] fun y => bif !y.b 0 then some (ii 20) else bif leI 0 v0 && leI v0 (ofN a.n) then subO 0 (toN v0) a.n fun h_1 => yC q 147 [S.t (T.rows 2 (toN v0) fun i => e88 (a.get (Fin.mk (0 + ↑i) (by first | omega | (have := i.2; omega) | (have := i_1.2; omega))))), S.fn (Go.Fn.func 148) [] [S.pt (e88 (a.get (Fin.mk v0.toNat h)))]] fun y => bif y.b 0 then some (ii 6) else k0 (addI .i64 v0 1) else none else some (ii 0)
def e104_in (q : YF) (a : Rw D88) (k0 : Int → OS) : OS := bif gtI (ofN a.n) 4 then some (ii 3) else k0 0
structure X104 where
 x0 : Int → OS
def D104_0 (X : X104) : Int → OS := fun v0 => X.x0 v0
def X104s (q : YF) (a : Rw D88) (X : X104) : X104 := ⟨fun v0 => b104_0 q a (D104_0 X) v0⟩
def X104n (q : YF) (a : Rw D88) : Nat → X104
 | 0 => ⟨fun _ => none⟩
 | n + 1 => X104s q a (X104n q a n)
theorem l104_0 (q : YF) (a : Rw D88) (kk : PK S) : K104_0 a (P104 q kk) = b104_0 q a (K104_0 a kk) := by
 kernel_rfl
theorem l104_in (q : YF) (a : Rw D88) (kk : PK S) : BG q kk 104 Tryz.f104 [S.t (T.rows 2 a.n fun i => e88 (a.get i))] = e104_in q a (K104_0 a kk) := by
 kernel_rfl
theorem h104 (q : YF) (a : Rw D88) : ∀ n, K104_0 a (H104 q n) = D104_0 (X104n q a n)
 | 0 => rfl
 | n + 1 => by
  have h0 := h104 q a n
  exact (l104_0 q a (H104 q n)).trans (by rw [h0]; kernel_rfl)
theorem W104 (a : Rw D88) (n : Nat) (x : S) (h : e104_in (regs O) a (D104_0 (X104n (regs O) a n)) = some x) : (W O).callT 104 [S.t (T.rows 2 a.n fun i => e88 (a.get i))] = some x := by
 refine WG (fn := Tryz.f104) (by kernel_rfl) (by kernel_rfl) (n := n) ?_
 refine (l104_in (regs O) a (H104 (regs O) n)).trans ?_
 have h0 := h104 (regs O) a n
 rw [h0]
 exact h
abbrev P105 (q : YF) (kk : PK S) : PK S := PG q 105 Tryz.f105 kk
abbrev H105 (q : YF) : Nat → PK S := HG q 105 Tryz.f105
def s105_0 (a : Rw D109) (v0 : Int) : St := mkSt [(0, S.t (T.rows 4 a.n fun i => e109 (a.get i))), (10, ii (ofN a.n)), (9, S.t (T.rows 4 a.n fun i => e109 (a.get i))), (11, ii v0)] 0 []
def K105_0 (a : Rw D109) (kk : PK S) : Int → OS := fun v0=> kk 4 0 0 (s105_0 a v0)
def b105_0 (q : YF) (a : Rw D109) (k0 : Int → OS) (v0 : Int) : OS := bif ltI v0 (ofN a.n) then elemO v0 a.n fun h => yC q 101 [ss (a.get (Fin.mk v0.toNat h)).fZone] fun y => bif !y.b 0 then some (ii 7) else yC q 101 [ss (a.get (Fin.mk v0.toNat h)).fKind] fun y => bif !y.b 0 then some (ii 7) else yC q 113 [ii (a.get (Fin.mk v0.toNat h)).fPrice] fun y => bif !eqI (y.i 0) 0 then some (ii (y.i 0)) else bif leI 0 v0 && leI v0 (ofN a.n) then subO 0 (toN v0) a.n fun h_1 => yC q 149 [S.t (T.rows 4 (toN v0) fun i => e109 (a.get (Fin.mk (0 + ↑i) (by first | omega | (have := i.2; omega) | (have := i_1.2; omega))))), S.fn (Go.Fn.func 150) [] [S.pt (e109 (a.get (Fin.mk v0.toNat h)))]] fun y => bif y.b 0 then some (ii 6) else k0 (addI .i64 v0 1) else none else some (ii 0)
def e105_in (q : YF) (a : Rw D109) (k0 : Int → OS) : OS := bif gtI (ofN a.n) 6 then some (ii 3) else k0 0
structure X105 where
 x0 : Int → OS
def D105_0 (X : X105) : Int → OS := fun v0 => X.x0 v0
def X105s (q : YF) (a : Rw D109) (X : X105) : X105 := ⟨fun v0 => b105_0 q a (D105_0 X) v0⟩
def X105n (q : YF) (a : Rw D109) : Nat → X105
 | 0 => ⟨fun _ => none⟩
 | n + 1 => X105s q a (X105n q a n)
theorem l105_0 (q : YF) (a : Rw D109) (kk : PK S) : K105_0 a (P105 q kk) = b105_0 q a (K105_0 a kk) := by
 kernel_rfl
theorem l105_in (q : YF) (a : Rw D109) (kk : PK S) : BG q kk 105 Tryz.f105 [S.t (T.rows 4 a.n fun i => e109 (a.get i))] = e105_in q a (K105_0 a kk) := by
 kernel_rfl
theorem h105 (q : YF) (a : Rw D109) : ∀ n, K105_0 a (H105 q n) = D105_0 (X105n q a n)
 | 0 => rfl
 | n + 1 => by
  have h0 := h105 q a n
  exact (l105_0 q a (H105 q n)).trans (by rw [h0]; kernel_rfl)
theorem W105 (a : Rw D109) (n : Nat) (x : S) (h : e105_in (regs O) a (D105_0 (X105n (regs O) a n)) = some x) : (W O).callT 105 [S.t (T.rows 4 a.n fun i => e109 (a.get i))] = some x := by
 refine WG (fn := Tryz.f105) (by kernel_rfl) (by kernel_rfl) (n := n) ?_
 refine (l105_in (regs O) a (H105 (regs O) n)).trans ?_
 have h0 := h105 (regs O) a n
 rw [h0]
 exact h
abbrev P106 (q : YF) (kk : PK S) : PK S := PG q 106 Tryz.f106 kk
abbrev H106 (q : YF) : Nat → PK S := HG q 106 Tryz.f106
def s106_0 (a : Rw D112) (b : D112) (v0 : Int) : St := mkSt [(0, S.t (T.rows 7 a.n fun i => e112 (a.get i))), (8, ii v0), (1, S.fn (Go.Fn.func 60) [] [S.pt (e112 b)]), (7, ii (ofN a.n))] 0 []
def K106_0 (a : Rw D112) (b : D112) (kk : PK S) : Int → OS := fun v0=> kk 2 0 0 (s106_0 a b v0)
def b106_0 (q : YF) (a : Rw D112) (b : D112) (k0 : Int → OS) (v0 : Int) : OS := bif ltI v0 (ofN a.n) then elemO v0 a.n fun h => yC q 60 [ag (e112 (a.get (Fin.mk v0.toNat h))), S.pt (e112 b)] fun y => bif y.b 0 then some (ii v0) else k0 (addI .i64 v0 1) else some (ii (Int.negSucc 0))
def e106_in (q : YF) (a : Rw D112) (b : D112) (k0 : Int → OS) : OS := k0 0
structure X106 where
 x0 : Int → OS
def D106_0 (X : X106) : Int → OS := fun v0 => X.x0 v0
def X106s (q : YF) (a : Rw D112) (b : D112) (X : X106) : X106 := ⟨fun v0 => b106_0 q a b (D106_0 X) v0⟩
def X106n (q : YF) (a : Rw D112) (b : D112) : Nat → X106
 | 0 => ⟨fun _ => none⟩
 | n + 1 => X106s q a b (X106n q a b n)
theorem l106_0 (q : YF) (a : Rw D112) (b : D112) (kk : PK S) : K106_0 a b (P106 q kk) = b106_0 q a b (K106_0 a b kk) := by
 kernel_rfl
theorem l106_in (q : YF) (a : Rw D112) (b : D112) (kk : PK S) : BG q kk 106 Tryz.f106 [S.t (T.rows 7 a.n fun i => e112 (a.get i)), S.fn (Go.Fn.func 60) [] [S.pt (e112 b)]] = e106_in q a b (K106_0 a b kk) := by
 kernel_rfl
theorem h106 (q : YF) (a : Rw D112) (b : D112) : ∀ n, K106_0 a b (H106 q n) = D106_0 (X106n q a b n)
 | 0 => rfl
 | n + 1 => by
  have h0 := h106 q a b n
  exact (l106_0 q a b (H106 q n)).trans (by rw [h0]; kernel_rfl)
theorem W106 (a : Rw D112) (b : D112) (n : Nat) (x : S) (h : e106_in (regs O) a b (D106_0 (X106n (regs O) a b n)) = some x) : (W O).callT 106 [S.t (T.rows 7 a.n fun i => e112 (a.get i)), S.fn (Go.Fn.func 60) [] [S.pt (e112 b)]] = some x := by
 refine WG (fn := Tryz.f106) (by kernel_rfl) (by kernel_rfl) (n := n) ?_
 refine (l106_in (regs O) a b (H106 (regs O) n)).trans ?_
 have h0 := h106 (regs O) a b n
 rw [h0]
 exact h
abbrev P107 (q : YF) (kk : PK S) : PK S := PG q 107 Tryz.f107 kk
abbrev H107 (q : YF) : Nat → PK S := HG q 107 Tryz.f107
def s107_0 (a : Rw Int) (v0 : Int) : St := mkSt [(6, ii (ofN a.n)), (5, S.t (T.rows 1 a.n fun i => [ti (a.get i)])), (7, ii v0)] 0 []
def K107_0 (a : Rw Int) (kk : PK S) : Int → OS := fun v0=> kk 2 0 0 (s107_0 a v0)
def b107_0 (q : YF) (a : Rw Int) (k0 : Int → OS) (v0 : Int) : OS := bif ltI v0 (ofN a.n) then elemO v0 a.n fun h => bif !eqI (a.get (Fin.mk v0.toNat h)) 0 then some (ii (a.get (Fin.mk v0.toNat h))) else k0 (addI .i64 v0 1) else some (ii 0)
def e107_in (q : YF) (a : Rw Int) (k0 : Int → OS) : OS := k0 0
structure X107 where
 x0 : Int → OS
def D107_0 (X : X107) : Int → OS := fun v0 => X.x0 v0
def X107s (q : YF) (a : Rw Int) (X : X107) : X107 := ⟨fun v0 => b107_0 q a (D107_0 X) v0⟩
def X107n (q : YF) (a : Rw Int) : Nat → X107
 | 0 => ⟨fun _ => none⟩
 | n + 1 => X107s q a (X107n q a n)
theorem l107_0 (q : YF) (a : Rw Int) (kk : PK S) : K107_0 a (P107 q kk) = b107_0 q a (K107_0 a kk) := by
 kernel_rfl
theorem l107_in (q : YF) (a : Rw Int) (kk : PK S) : BG q kk 107 Tryz.f107 [S.t (T.rows 1 a.n fun i => e3 (a.get i))] = e107_in q a (K107_0 a kk) := by
 kernel_rfl
theorem h107 (q : YF) (a : Rw Int) : ∀ n, K107_0 a (H107 q n) = D107_0 (X107n q a n)
 | 0 => rfl
 | n + 1 => by
  have h0 := h107 q a n
  exact (l107_0 q a (H107 q n)).trans (by rw [h0]; kernel_rfl)
theorem W107 (a : Rw Int) (n : Nat) (x : S) (h : e107_in (regs O) a (D107_0 (X107n (regs O) a n)) = some x) : (W O).callT 107 [S.t (T.rows 1 a.n fun i => e3 (a.get i))] = some x := by
 refine WG (fn := Tryz.f107) (by kernel_rfl) (by kernel_rfl) (n := n) ?_
 refine (l107_in (regs O) a (H107 (regs O) n)).trans ?_
 have h0 := h107 (regs O) a n
 rw [h0]
 exact h
abbrev H108 (q : YF) : Nat → PK S := HG q 108 Tryz.f108
def e108_in (q : YF) (a : Bool) (b : Int) : OS := bif a then some (ii 0) else some (ii b)
theorem l108_in (q : YF) (a : Bool) (b : Int) (kk : PK S) : BG q kk 108 Tryz.f108 [bb a, ii b] = e108_in q a b := by
 kernel_rfl
theorem W108 (a : Bool) (b : Int) (n : Nat) (x : S) (h : e108_in (regs O) a b = some x) : (W O).callT 108 [bb a, ii b] = some x := by
 refine WG (fn := Tryz.f108) (by kernel_rfl) (by kernel_rfl) (n := n) ?_
 refine (l108_in (regs O) a b (H108 (regs O) n)).trans ?_
 exact h
abbrev H109 (q : YF) : Nat → PK S := HG q 109 Tryz.f109
def e109_in (q : YF) (a : Rw BA) : OS := yC q 151 [S.t (T.rows 1 a.n fun i => [ts (a.get i)]), S.t (T.v (.func (Go.Fn.func 152) #[] #[]))] fun y => some (S.t (T.v (.bool !y.b 0)))
theorem l109_in (q : YF) (a : Rw BA) (kk : PK S) : BG q kk 109 Tryz.f109 [S.t (T.rows 1 a.n fun i => e9 (a.get i))] = e109_in q a := by
 kernel_rfl
theorem W109 (a : Rw BA) (n : Nat) (x : S) (h : e109_in (regs O) a = some x) : (W O).callT 109 [S.t (T.rows 1 a.n fun i => e9 (a.get i))] = some x := by
 refine WG (fn := Tryz.f109) (by kernel_rfl) (by kernel_rfl) (n := n) ?_
 refine (l109_in (regs O) a (H109 (regs O) n)).trans ?_
 exact h
abbrev H110 (q : YF) : Nat → PK S := HG q 110 Tryz.f110
def e110_in (q : YF) (a : Rw D68) : OS := yC q 153 [S.t (T.rows 4 a.n fun i => e68 (a.get i)), ii 8] fun y => some (ii (y.i 1))
theorem l110_in (q : YF) (a : Rw D68) (kk : PK S) : BG q kk 110 Tryz.f110 [S.t (T.rows 4 a.n fun i => e68 (a.get i))] = e110_in q a := by
 kernel_rfl
theorem W110 (a : Rw D68) (n : Nat) (x : S) (h : e110_in (regs O) a = some x) : (W O).callT 110 [S.t (T.rows 4 a.n fun i => e68 (a.get i))] = some x := by
 refine WG (fn := Tryz.f110) (by kernel_rfl) (by kernel_rfl) (n := n) ?_
 refine (l110_in (regs O) a (H110 (regs O) n)).trans ?_
 exact h
abbrev P111 (q : YF) (kk : PK S) : PK S := PG q 111 Tryz.f111 kk
abbrev H111 (q : YF) : Nat → PK S := HG q 111 Tryz.f111
def s111_0 (a : Rw D88) (v0 : Int) : St := mkSt [(0, S.t (T.rows 2 a.n fun i => e88 (a.get i))), (8, S.t (T.rows 2 a.n fun i => e88 (a.get i))), (10, ii v0), (9, ii (ofN a.n))] 0 []
def K111_0 (a : Rw D88) (kk : PK S) : Int → OS := fun v0=> kk 4 0 0 (s111_0 a v0)
def b111_0 (q : YF) (a : Rw D88) (k0 : Int → OS) (v0 : Int) : OS := bif ltI v0 (ofN a.n) then elemO v0 a.n fun h => yC q 101 [ss (a.get (Fin.mk v0.toNat h)).fKey] fun y => bif !y.b 0 then some (ii 7) else yC q 146 [ss (a.get (Fin.mk v0.toNat h)).fVal] fun y => bif !y.b 0 then some (ii 20) else bif leI 0 v0 && leI v0 (ofN a.n) then subO 0 (toN v0) a.n fun h_1 => yC q 147 [S.t (T.rows 2 (toN v0) fun i => e88 (a.get (Fin.mk (0 + ↑i) (by first | omega | (have := i.2; omega) | (have := i_1.2; omega))))), S.fn (Go.Fn.func 154) [] [S.pt (e88 (a.get (Fin.mk v0.toNat h)))]] fun y => bif y.b 0 then some (ii 6) else k0 (addI .i64 v0 1) else none else some (ii 0)
def e111_in (q : YF) (a : Rw D88) (k0 : Int → OS) : OS := bif gtI (ofN a.n) 4 then some (ii 3) else k0 0
structure X111 where
 x0 : Int → OS
def D111_0 (X : X111) : Int → OS := fun v0 => X.x0 v0
def X111s (q : YF) (a : Rw D88) (X : X111) : X111 := ⟨fun v0 => b111_0 q a (D111_0 X) v0⟩
def X111n (q : YF) (a : Rw D88) : Nat → X111
 | 0 => ⟨fun _ => none⟩
 | n + 1 => X111s q a (X111n q a n)
theorem l111_0 (q : YF) (a : Rw D88) (kk : PK S) : K111_0 a (P111 q kk) = b111_0 q a (K111_0 a kk) := by
 kernel_rfl
theorem l111_in (q : YF) (a : Rw D88) (kk : PK S) : BG q kk 111 Tryz.f111 [S.t (T.rows 2 a.n fun i => e88 (a.get i))] = e111_in q a (K111_0 a kk) := by
 kernel_rfl
theorem h111 (q : YF) (a : Rw D88) : ∀ n, K111_0 a (H111 q n) = D111_0 (X111n q a n)
 | 0 => rfl
 | n + 1 => by
  have h0 := h111 q a n
  exact (l111_0 q a (H111 q n)).trans (by rw [h0]; kernel_rfl)
theorem W111 (a : Rw D88) (n : Nat) (x : S) (h : e111_in (regs O) a (D111_0 (X111n (regs O) a n)) = some x) : (W O).callT 111 [S.t (T.rows 2 a.n fun i => e88 (a.get i))] = some x := by
 refine WG (fn := Tryz.f111) (by kernel_rfl) (by kernel_rfl) (n := n) ?_
 refine (l111_in (regs O) a (H111 (regs O) n)).trans ?_
 have h0 := h111 (regs O) a n
 rw [h0]
 exact h
abbrev P112 (q : YF) (kk : PK S) : PK S := PG q 112 Tryz.f112 kk
abbrev H112 (q : YF) : Nat → PK S := HG q 112 Tryz.f112
def s112_0 (a : Int) (b : Int) (c : Int) (v0 : Bool) (u1 : S) (u2 : Bool) (u3 u4 : S) : St := mkSt [(0, ii a), (8, ii b), (12, u1), (2, ii c), (10, bb u2), (6, bb false), (14, bb v0), (1, ii b), (9, bb (geI a b)), (13, u3), (11, u4), (7, ii a)] 10 []
abbrev T112_0 : Type := Bool → S → Bool → S → S → OS
def K112_0 (a : Int) (b : Int) (c : Int) (kk : PK S) : T112_0 := fun v0 u1 u2 u3 u4=> kk 1 9 1 (s112_0 a b c v0 u1 u2 u3 u4)
def b112_0 (q : YF) (a : Int) (b : Int) (c : Int) (v0 : Bool) (u1 : S) (u2 : Bool) (u3 u4 : S) : OS := some (bb v0)
def e112_in (q : YF) (a : Int) (b : Int) (c : Int) (k0 : T112_0) : OS := bif geI a b then k0 (leI a c) (ii c) true (bb (leI a c)) (ii a) else k0 false S.ud false S.ud S.ud
structure X112 where
 x0 : Bool → OS
def D112_0 (X : X112) : T112_0 := fun v0 _ _ _ _ => X.x0 v0
def X112s (q : YF) (a : Int) (b : Int) (c : Int) (X : X112) : X112 := ⟨fun v0 => b112_0 q a b c v0 dd dd dd dd⟩
def X112n (q : YF) (a : Int) (b : Int) (c : Int) : Nat → X112
 | 0 => ⟨fun _ => none⟩
 | n + 1 => X112s q a b c (X112n q a b c n)
theorem l112_0 (q : YF) (a : Int) (b : Int) (c : Int) (kk : PK S) : K112_0 a b c (P112 q kk) = b112_0 q a b c := by
 kernel_rfl
theorem l112_in (q : YF) (a : Int) (b : Int) (c : Int) (kk : PK S) : BG q kk 112 Tryz.f112 [ii a, ii b, ii c] = e112_in q a b c (K112_0 a b c kk) := by
 kernel_rfl
theorem h112 (q : YF) (a : Int) (b : Int) (c : Int) : ∀ n, K112_0 a b c (H112 q n) = D112_0 (X112n q a b c n)
 | 0 => rfl
 | n + 1 => by
  have h0 := h112 q a b c n
  exact (l112_0 q a b c (H112 q n)).trans (by kernel_rfl)
theorem W112 (a : Int) (b : Int) (c : Int) (n : Nat) (x : S) (h : e112_in (regs O) a b c (D112_0 (X112n (regs O) a b c n)) = some x) : (W O).callT 112 [ii a, ii b, ii c] = some x := by
 refine WG (fn := Tryz.f112) (by kernel_rfl) (by kernel_rfl) (n := n) ?_
 refine (l112_in (regs O) a b c (H112 (regs O) n)).trans ?_
 have h0 := h112 (regs O) a b c n
 rw [h0]
 exact h
abbrev H113 (q : YF) : Nat → PK S := HG q 113 Tryz.f113
def e113_in (q : YF) (a : Int) : OS := bif ltI a 0 then some (ii 11) else bif gtI a 1125899906842624 then some (ii 10) else some (ii 0)
theorem l113_in (q : YF) (a : Int) (kk : PK S) : BG q kk 113 Tryz.f113 [ii a] = e113_in q a := by
 kernel_rfl
theorem W113 (a : Int) (n : Nat) (x : S) (h : e113_in (regs O) a = some x) : (W O).callT 113 [ii a] = some x := by
 refine WG (fn := Tryz.f113) (by kernel_rfl) (by kernel_rfl) (n := n) ?_
 refine (l113_in (regs O) a (H113 (regs O) n)).trans ?_
 exact h
abbrev P114 (q : YF) (kk : PK S) : PK S := PG q 114 Tryz.f114 kk
abbrev H114 (q : YF) : Nat → PK S := HG q 114 Tryz.f114
def s114_0 (a : Rw D47) (v0 : Int) : St := mkSt [(0, S.t (T.rows 3 a.n fun i => e47 (a.get i))), (10, ii (ofN a.n)), (9, S.t (T.rows 3 a.n fun i => e47 (a.get i))), (11, ii v0)] 0 []
def K114_0 (a : Rw D47) (kk : PK S) : Int → OS := fun v0=> kk 4 0 0 (s114_0 a v0)
def b114_0 (q : YF) (a : Rw D47) (k0 : Int → OS) (v0 : Int) : OS := bif ltI v0 (ofN a.n) then elemO v0 a.n fun h => yC q 109 [S.t (T.rows 1 3 fun i => List.take 1 (List.drop (↑i * 1) (e47 (a.get (Fin.mk v0.toNat h)))))] fun y => yC q 108 [bb (y.b 0), ii 7] fun y => bif leI 0 v0 && leI v0 (ofN a.n) then subO 0 (toN v0) a.n fun h_1 => yC q 155 [S.t (T.rows 3 (toN v0) fun i => e47 (a.get (Fin.mk (0 + ↑i) (by first | omega | (have := i.2; omega) | (have := i_1.2; omega))))), ag (e47 (a.get (Fin.mk v0.toNat h)))] fun y_1 => yC q 108 [S.t (T.v (.bool !y_1.b 0)), ii 6] fun y_2 => yC q 107 [S.t (T.rows 1 2 fun i => List.take 1 (List.drop (↑i * 1) [ti (y.i 0), ti (y_2.i 0)]))] fun y => bif !eqI (y.i 0) 0 then some (ii (y.i 0)) else k0 (addI .i64 v0 1) else none else some (ii 0)
def e114_in (q : YF) (a : Rw D47) (k0 : Int → OS) : OS := bif gtI (ofN a.n) 72 then some (ii 3) else k0 0
structure X114 where
 x0 : Int → OS
def D114_0 (X : X114) : Int → OS := fun v0 => X.x0 v0
def X114s (q : YF) (a : Rw D47) (X : X114) : X114 := ⟨fun v0 => b114_0 q a (D114_0 X) v0⟩
def X114n (q : YF) (a : Rw D47) : Nat → X114
 | 0 => ⟨fun _ => none⟩
 | n + 1 => X114s q a (X114n q a n)
theorem l114_0 (q : YF) (a : Rw D47) (kk : PK S) : K114_0 a (P114 q kk) = b114_0 q a (K114_0 a kk) := by
 kernel_rfl
theorem l114_in (q : YF) (a : Rw D47) (kk : PK S) : BG q kk 114 Tryz.f114 [S.t (T.rows 3 a.n fun i => e47 (a.get i))] = e114_in q a (K114_0 a kk) := by
 kernel_rfl
theorem h114 (q : YF) (a : Rw D47) : ∀ n, K114_0 a (H114 q n) = D114_0 (X114n q a n)
 | 0 => rfl
 | n + 1 => by
  have h0 := h114 q a n
  exact (l114_0 q a (H114 q n)).trans (by rw [h0]; kernel_rfl)
theorem W114 (a : Rw D47) (n : Nat) (x : S) (h : e114_in (regs O) a (D114_0 (X114n (regs O) a n)) = some x) : (W O).callT 114 [S.t (T.rows 3 a.n fun i => e47 (a.get i))] = some x := by
 refine WG (fn := Tryz.f114) (by kernel_rfl) (by kernel_rfl) (n := n) ?_
 refine (l114_in (regs O) a (H114 (regs O) n)).trans ?_
 have h0 := h114 (regs O) a n
 rw [h0]
 exact h
abbrev P115 (q : YF) (kk : PK S) : PK S := PG q 115 Tryz.f115 kk
abbrev H115 (q : YF) : Nat → PK S := HG q 115 Tryz.f115
def s115_0 (a : D49) (b : D49) : St := mkSt [(4, S.ptr 2 0), (2, S.ptr 0 0), (21, ii 0), (3, S.ptr 1 0)] 3 [(0, B.box (List.map S.t (e49 a))), (2, B.box [ii 0, ii 0]), (1, B.box (List.map S.t (e49 b)))]
def K115_0 (a : D49) (b : D49) (kk : PK S) : OS := kk 7 0 0 (s115_0 a b)
def s115_1 (a : D49) (b : D49) : St := mkSt [(4, S.ptr 2 0), (2, S.ptr 0 0), (21, ii 1), (3, S.ptr 1 0)] 3 [(0, B.box [ii (subI .i64 a.fa_0 b.fa_0), ii a.fa_1]), (2, B.box [ii 0, ii 0]), (1, B.box (List.map S.t (e49 b)))]
def K115_1 (a : D49) (b : D49) (kk : PK S) : OS := kk 7 0 0 (s115_1 a b)
def s115_2 (a : D49) (b : D49) : St := mkSt [(4, S.ptr 2 0), (2, S.ptr 0 0), (21, ii 2), (3, S.ptr 1 0)] 3 [(0, B.box [ii (subI .i64 a.fa_0 b.fa_0), ii (subI .i64 a.fa_1 b.fa_1)]), (2, B.box [ii 0, ii 0]), (1, B.box (List.map S.t (e49 b)))]
def K115_2 (a : D49) (b : D49) (kk : PK S) : OS := kk 7 0 0 (s115_2 a b)
def b115_0 (q : YF) (a : D49) (b : D49) (k1 : OS) : OS := k1
def b115_1 (q : YF) (a : D49) (b : D49) (k2 : OS) : OS := k2
def b115_2 (q : YF) (a : D49) (b : D49) : OS := some (S.tup [S.agg [ii (subI .i64 a.fa_0 b.fa_0), ii (subI .i64 a.fa_1 b.fa_1)], ii 0])
def e115_in (q : YF) (a : D49) (b : D49) (k0 : OS) : OS := yC q 143 [ag (e49 a), ag (e49 b)] fun y => bif !eqI (y.i 0) 0 then some (S.tup [S.agg [ii 0, ii 0], ii (y.i 0)]) else yC q 144 [ag (e49 a), ag (e49 b)] fun y => bif !(eqI (y.i 0) b.fa_0 && (eqI (y.i 1) b.fa_1 && true)) then some (S.tup [S.agg [ii 0, ii 0], ii 11]) else k0
structure X115 where
 x0 : OS
 x1 : OS
 x2 : OS
def D115_0 (X : X115) : OS := X.x0
def D115_1 (X : X115) : OS := X.x1
def D115_2 (X : X115) : OS := X.x2
def X115s (q : YF) (a : D49) (b : D49) (X : X115) : X115 := ⟨b115_0 q a b (D115_1 X),
 b115_1 q a b (D115_2 X),
 b115_2 q a b⟩
def X115n (q : YF) (a : D49) (b : D49) : Nat → X115
 | 0 => ⟨none, none, none⟩
 | n + 1 => X115s q a b (X115n q a b n)
theorem l115_0 (q : YF) (a : D49) (b : D49) (kk : PK S) : K115_0 a b (P115 q kk) = b115_0 q a b (K115_1 a b kk) := by
 kernel_rfl
theorem l115_1 (q : YF) (a : D49) (b : D49) (kk : PK S) : K115_1 a b (P115 q kk) = b115_1 q a b (K115_2 a b kk) := by
 kernel_rfl
theorem l115_2 (q : YF) (a : D49) (b : D49) (kk : PK S) : K115_2 a b (P115 q kk) = b115_2 q a b := by
 kernel_rfl
theorem l115_in (q : YF) (a : D49) (b : D49) (kk : PK S) : BG q kk 115 Tryz.f115 [ag (e49 a), ag (e49 b)] = e115_in q a b (K115_0 a b kk) := by
 kernel_rfl
theorem h115 (q : YF) (a : D49) (b : D49) : ∀ n, K115_0 a b (H115 q n) = D115_0 (X115n q a b n) ∧ K115_1 a b (H115 q n) = D115_1 (X115n q a b n) ∧ K115_2 a b (H115 q n) = D115_2 (X115n q a b n)
 | 0 => ⟨rfl, rfl, rfl⟩
 | n + 1 => by
  obtain ⟨h0, h1, h2⟩ := h115 q a b n
  exact ⟨(l115_0 q a b (H115 q n)).trans (by rw [h1]; kernel_rfl), (l115_1 q a b (H115 q n)).trans (by rw [h2]; kernel_rfl), (l115_2 q a b (H115 q n)).trans (by kernel_rfl)⟩
theorem W115 (a : D49) (b : D49) (n : Nat) (x : S) (h : e115_in (regs O) a b (D115_0 (X115n (regs O) a b n)) = some x) : (W O).callT 115 [ag (e49 a), ag (e49 b)] = some x := by
 refine WG (fn := Tryz.f115) (by kernel_rfl) (by kernel_rfl) (n := n) ?_
 refine (l115_in (regs O) a b (H115 (regs O) n)).trans ?_
 obtain ⟨h0, h1, h2⟩ := h115 (regs O) a b n
 rw [h0]
 exact h
abbrev H116 (q : YF) : Nat → PK S := HG q 116 Tryz.f116
def e116_in (q : YF) (a : Rw D77) (b : BA) : OS := yC q 156 [S.t (T.rows 10 a.n fun i => e77 (a.get i)), S.fn (Go.Fn.func 117) [] [S.pt [ts b]]] fun y => some (bb (geI (y.i 0) 0))
theorem l116_in (q : YF) (a : Rw D77) (b : BA) (kk : PK S) : BG q kk 116 Tryz.f116 [S.t (T.rows 10 a.n fun i => e77 (a.get i)), S.fn (Go.Fn.func 117) [] [S.pt [ts b]]] = e116_in q a b := by
 kernel_rfl
theorem W116 (a : Rw D77) (b : BA) (n : Nat) (x : S) (h : e116_in (regs O) a b = some x) : (W O).callT 116 [S.t (T.rows 10 a.n fun i => e77 (a.get i)), S.fn (Go.Fn.func 117) [] [S.pt [ts b]]] = some x := by
 refine WG (fn := Tryz.f116) (by kernel_rfl) (by kernel_rfl) (n := n) ?_
 refine (l116_in (regs O) a b (H116 (regs O) n)).trans ?_
 exact h
abbrev H117 (q : YF) : Nat → PK S := HG q 117 Tryz.f117
def e117_in (q : YF) (a : D77) (b : BA) : OS := some (bb (strEq a.fName b))
theorem l117_in (q : YF) (a : D77) (b : BA) (kk : PK S) : BG q kk 117 Tryz.f117 [ag (e77 a), S.pt [ts b]] = e117_in q a b := by
 kernel_rfl
theorem W117 (a : D77) (b : BA) (n : Nat) (x : S) (h : e117_in (regs O) a b = some x) : (W O).callT 117 [ag (e77 a), S.pt [ts b]] = some x := by
 refine WG (fn := Tryz.f117) (by kernel_rfl) (by kernel_rfl) (n := n) ?_
 refine (l117_in (regs O) a b (H117 (regs O) n)).trans ?_
 exact h
abbrev H118 (q : YF) : Nat → PK S := HG q 118 Tryz.f118
def e118_in (q : YF) (a : Rw D47) (b : D33) : OS := yC q 157 [S.t (T.rows 3 a.n fun i => e47 (a.get i)), S.fn (Go.Fn.func 119) [] [S.pt (e33 b)]] fun y => some (bb (geI (y.i 0) 0))
theorem l118_in (q : YF) (a : Rw D47) (b : D33) (kk : PK S) : BG q kk 118 Tryz.f118 [S.t (T.rows 3 a.n fun i => e47 (a.get i)), S.fn (Go.Fn.func 119) [] [S.pt (e33 b)]] = e118_in q a b := by
 kernel_rfl
theorem W118 (a : Rw D47) (b : D33) (n : Nat) (x : S) (h : e118_in (regs O) a b = some x) : (W O).callT 118 [S.t (T.rows 3 a.n fun i => e47 (a.get i)), S.fn (Go.Fn.func 119) [] [S.pt (e33 b)]] = some x := by
 refine WG (fn := Tryz.f118) (by kernel_rfl) (by kernel_rfl) (n := n) ?_
 refine (l118_in (regs O) a b (H118 (regs O) n)).trans ?_
 exact h
abbrev H119 (q : YF) : Nat → PK S := HG q 119 Tryz.f119
def e119_in (q : YF) (a : D47) (b : D33) : OS := yC q 63 [S.t (T.rows 7 b.fTypes.n fun i => e112 (b.fTypes.get i)), ag (e47 a)] fun y => some (S.t (T.v (.bool !y.b 2)))
theorem l119_in (q : YF) (a : D47) (b : D33) (kk : PK S) : BG q kk 119 Tryz.f119 [ag (e47 a), S.pt (e33 b)] = e119_in q a b := by
 kernel_rfl
theorem W119 (a : D47) (b : D33) (n : Nat) (x : S) (h : e119_in (regs O) a b = some x) : (W O).callT 119 [ag (e47 a), S.pt (e33 b)] = some x := by
 refine WG (fn := Tryz.f119) (by kernel_rfl) (by kernel_rfl) (n := n) ?_
 refine (l119_in (regs O) a b (H119 (regs O) n)).trans ?_
 exact h
abbrev P120 (q : YF) (kk : PK S) : PK S := PG q 120 Tryz.f120 kk
abbrev H120 (q : YF) : Nat → PK S := HG q 120 Tryz.f120
def s120_0 (a : Rw D160) (v0 : Int) : St := mkSt [(0, S.t (T.rows 3 a.n fun i => e160 (a.get i))), (8, S.t (T.rows 3 a.n fun i => e160 (a.get i))), (10, ii v0), (9, ii (ofN a.n))] 0 []
def K120_0 (a : Rw D160) (kk : PK S) : Int → OS := fun v0=> kk 4 0 0 (s120_0 a v0)
def s120_1 (a : Rw D160) (v0 : D160) (v1 : Bool) (v2 v3 : Int) (u4 u5 : Bool) (u6 : D160) (u7 : BA) (u8 : D160) (u9 u10 : Bool) (u11 u12 u13 : S) (u14 : Bool) (u15 : Int) (u16 : Bool) : St := mkSt [(0, S.t (T.rows 3 a.n fun i => e160 (a.get i))), (16, S.ptr 4 0), (8, S.t (T.rows 3 a.n fun i => e160 (a.get i))), (24, u11), (4, S.ptr 4 0), (12, ii u15), (18, bb u4), (10, ii v2), (26, u12), (22, bb u5), (14, ag (e160 u6)), (17, ss u7), (9, ii (ofN a.n)), (25, u13), (21, S.ptr 4 2), (13, S.pt (e160 u8)), (3, ii v3), (19, bb u9), (11, bb u16), (27, bb v1), (23, bb u14), (15, bb u10)] 20 [(4, B.box (List.map S.t (e160 v0)))]
abbrev T120_1 : Type := D160 → Bool → Int → Int → Bool → Bool → D160 → BA → D160 → Bool → Bool → S → S → S → Bool → Int → Bool → OS
def K120_1 (a : Rw D160) (kk : PK S) : T120_1 := fun v0 v1 v2 v3 u4 u5 u6 u7 u8 u9 u10 u11 u12 u13 u14 u15 u16=> kk 8 8 12 (s120_1 a v0 v1 v2 v3 u4 u5 u6 u7 u8 u9 u10 u11 u12 u13 u14 u15 u16)
def s120_2 (a : Rw D160) (v0 : D160) (v1 : Bool) (v2 v3 : Int) (u4 : S) (u5 u6 : Bool) (u7 : S) (u8 : Bool) (u9 : D160) (u10 : Bool) (u11 : BA) (u12 : S) (u13 : D160) (u14 u15 u16 u17 u18 : Bool) (u19 u20 u21 u22 : S) (u23 : Bool) (u24 : Int) (u25 : Bool) : St := mkSt [(0, S.t (T.rows 3 a.n fun i => e160 (a.get i))), (32, u19), (16, S.ptr 4 0), (8, S.t (T.rows 3 a.n fun i => e160 (a.get i))), (24, u4), (4, S.ptr 4 0), (36, bb v1), (20, bb u5), (12, ii u24), (28, S.ptr 4 2), (34, u20), (18, bb u6), (10, ii v2), (26, u7), (22, bb u8), (14, ag (e160 u9)), (30, bb u10), (33, u21), (17, ss u11), (9, ii (ofN a.n)), (25, u12), (21, S.ptr 4 2), (13, S.pt (e160 u13)), (29, bb u14), (3, ii v3), (35, u22), (19, bb u15), (11, bb u25), (27, bb u16), (23, bb u17), (15, bb u18), (31, bb u23)] 30 [(4, B.box (List.map S.t (e160 v0)))]
abbrev T120_2 : Type := D160 → Bool → Int → Int → S → Bool → Bool → S → Bool → D160 → Bool → BA → S → D160 → Bool → Bool → Bool → Bool → Bool → S → S → S → S → Bool → Int → Bool → OS
def K120_2 (a : Rw D160) (kk : PK S) : T120_2 := fun v0 v1 v2 v3 u4 u5 u6 u7 u8 u9 u10 u11 u12 u13 u14 u15 u16 u17 u18 u19 u20 u21 u22 u23 u24 u25=> kk 9 10 20 (s120_2 a v0 v1 v2 v3 u4 u5 u6 u7 u8 u9 u10 u11 u12 u13 u14 u15 u16 u17 u18 u19 u20 u21 u22 u23 u24 u25)
def b120_0 (q : YF) (a : Rw D160) (k1 : T120_1) (v0 : Int) : OS := bif ltI v0 (ofN a.n) then elemO v0 a.n fun h => yC q 101 [ss (a.get (Fin.mk v0.toNat h)).fKey] fun y => bif !y.b 0 then some (ii 7) else bif (a.get (Fin.mk v0.toNat h)).fAny then k1 (a.get (Fin.mk v0.toNat h)) (!strEq (a.get (Fin.mk v0.toNat h)).fVal (bs [])) v0 v0 (y.b 0) (a.get (Fin.mk v0.toNat h)).fAny (a.get (Fin.mk v0.toNat h)) (a.get (Fin.mk v0.toNat h)).fKey (a.get (Fin.mk v0.toNat h)) (!y.b 0) (!y.b 0) (S.ptr 4 1) (S.t (T.v (.bool !strEq (a.get (Fin.mk v0.toNat h)).fVal (bs [])))) (ss (a.get (Fin.mk v0.toNat h)).fVal) true v0 (ltI v0 (ofN a.n)) else k1 (a.get (Fin.mk v0.toNat h)) false v0 v0 (y.b 0) (a.get (Fin.mk v0.toNat h)).fAny (a.get (Fin.mk v0.toNat h)) (a.get (Fin.mk v0.toNat h)).fKey (a.get (Fin.mk v0.toNat h)) (!y.b 0) (!y.b 0) S.ud S.ud S.ud false v0 (ltI v0 (ofN a.n)) else some (ii 0)
def b120_1 (q : YF) (a : Rw D160) (k0 : Int → OS) (k2 : T120_2) (v0 : D160) (v1 : Bool) (v2 v3 : Int) (u4 u5 : Bool) (u6 : D160) (u7 : BA) (u8 : D160) (u9 u10 : Bool) (u11 u12 u13 : S) (u14 : Bool) (u15 : Int) (u16 : Bool) : OS := bif v1 then bif v1 then some (ii 20) else bif leI 0 v3 && leI v3 (ofN a.n) then subO 0 (toN v3) a.n fun h => yC q 158 [S.t (T.rows 3 (toN v3) fun i => e160 (a.get (Fin.mk (0 + ↑i) (by first | omega | (have := i.2; omega) | (have := i_1.2; omega))))), ag (e160 v0)] fun y => bif y.b 0 then some (ii 6) else k0 (addI .i64 v2 1) else none else bif !v0.fAny then yC q 146 [ss v0.fVal] fun y => k2 v0 (!y.b 0) v2 v3 u11 v1 u4 u12 u5 u6 (!v0.fAny) u7 u13 u8 v0.fAny u9 v1 u14 u10 (S.ptr 4 1) (bb (y.b 0)) (ss v0.fVal) (S.t (T.v (.bool !y.b 0))) true u15 u16 else k2 v0 false v2 v3 u11 v1 u4 u12 u5 u6 (!v0.fAny) u7 u13 u8 v0.fAny u9 v1 u14 u10 S.ud S.ud S.ud S.ud false u15 u16
def b120_2 (q : YF) (a : Rw D160) (k0 : Int → OS) (v0 : D160) (v1 : Bool) (v2 v3 : Int) (u4 : S) (u5 u6 : Bool) (u7 : S) (u8 : Bool) (u9 : D160) (u10 : Bool) (u11 : BA) (u12 : S) (u13 : D160) (u14 u15 u16 u17 u18 : Bool) (u19 u20 u21 u22 : S) (u23 : Bool) (u24 : Int) (u25 : Bool) : OS := bif v1 then some (ii 20) else bif leI 0 v3 && leI v3 (ofN a.n) then subO 0 (toN v3) a.n fun h => yC q 158 [S.t (T.rows 3 (toN v3) fun i => e160 (a.get (Fin.mk (0 + ↑i) (by first | omega | (have := i.2; omega) | (have := i_1.2; omega))))), ag (e160 v0)] fun y => bif y.b 0 then some (ii 6) else k0 (addI .i64 v2 1) else none
def e120_in (q : YF) (a : Rw D160) (k0 : Int → OS) : OS := bif gtI (ofN a.n) 4 then some (ii 3) else k0 0
structure X120 where
 x0 : Int → OS
 x1 : D160 → Bool → Int → Int → OS
 x2 : D160 → Bool → Int → Int → OS
def D120_0 (X : X120) : Int → OS := fun v0 => X.x0 v0
def D120_1 (X : X120) : T120_1 := fun v0 v1 v2 v3 _ _ _ _ _ _ _ _ _ _ _ _ _ => X.x1 v0 v1 v2 v3
def D120_2 (X : X120) : T120_2 := fun v0 v1 v2 v3 _ _ _ _ _ _ _ _ _ _ _ _ _ _ _ _ _ _ _ _ _ _ => X.x2 v0 v1 v2 v3
def X120s (q : YF) (a : Rw D160) (X : X120) : X120 := ⟨fun v0 => b120_0 q a (D120_1 X) v0,
 fun v0 v1 v2 v3 => b120_1 q a (D120_0 X) (D120_2 X) v0 v1 v2 v3 dd dd dd dd dd dd dd dd dd dd dd dd dd,
 fun v0 v1 v2 v3 => b120_2 q a (D120_0 X) v0 v1 v2 v3 dd dd dd dd dd dd dd dd dd dd dd dd dd dd dd dd dd dd dd dd dd dd⟩
def X120n (q : YF) (a : Rw D160) : Nat → X120
 | 0 => ⟨fun _ => none, fun _ _ _ _ => none, fun _ _ _ _ => none⟩
 | n + 1 => X120s q a (X120n q a n)
theorem l120_0 (q : YF) (a : Rw D160) (kk : PK S) : K120_0 a (P120 q kk) = b120_0 q a (K120_1 a kk) := by
 kernel_rfl
theorem l120_1 (q : YF) (a : Rw D160) (kk : PK S) : K120_1 a (P120 q kk) = b120_1 q a (K120_0 a kk) (K120_2 a kk) := by
 kernel_rfl
theorem l120_2 (q : YF) (a : Rw D160) (kk : PK S) : K120_2 a (P120 q kk) = b120_2 q a (K120_0 a kk) := by
 kernel_rfl
theorem l120_in (q : YF) (a : Rw D160) (kk : PK S) : BG q kk 120 Tryz.f120 [S.t (T.rows 3 a.n fun i => e160 (a.get i))] = e120_in q a (K120_0 a kk) := by
 kernel_rfl
theorem h120 (q : YF) (a : Rw D160) : ∀ n, K120_0 a (H120 q n) = D120_0 (X120n q a n) ∧ K120_1 a (H120 q n) = D120_1 (X120n q a n) ∧ K120_2 a (H120 q n) = D120_2 (X120n q a n)
 | 0 => ⟨rfl, rfl, rfl⟩
 | n + 1 => by
  obtain ⟨h0, h1, h2⟩ := h120 q a n
  exact ⟨(l120_0 q a (H120 q n)).trans (by rw [h1]; kernel_rfl), (l120_1 q a (H120 q n)).trans (by rw [h0, h2]; kernel_rfl), (l120_2 q a (H120 q n)).trans (by rw [h0]; kernel_rfl)⟩
theorem W120 (a : Rw D160) (n : Nat) (x : S) (h : e120_in (regs O) a (D120_0 (X120n (regs O) a n)) = some x) : (W O).callT 120 [S.t (T.rows 3 a.n fun i => e160 (a.get i))] = some x := by
 refine WG (fn := Tryz.f120) (by kernel_rfl) (by kernel_rfl) (n := n) ?_
 refine (l120_in (regs O) a (H120 (regs O) n)).trans ?_
 obtain ⟨h0, h1, h2⟩ := h120 (regs O) a n
 rw [h0]
 exact h
end
end Go.Proofs.YtonkoellfaopiaaGreatDoor.H
