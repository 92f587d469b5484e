import Derived.Test.YtonkoellfaopiaaGreatDoorV8
set_option linter.unusedSimpArgs false
set_option linter.unusedVariables false
namespace Go.Proofs.YtonkoellfaopiaaGreatDoor.H
open Go
noncomputable section
abbrev P22 (q : YF) (kk : PK S) : PK S := PG q 22 Tryz.f22 kk
abbrev H22 (q : YF) : Nat → PK S := HG q 22 Tryz.f22
def s22_0 (a : Int) (v0 : Bool) (u1 : S) (u2 : Bool) (u3 : S) : St := mkSt [(0, ii a), (8, bb v0), (4, bb (geI a 0)), (2, bb false), (6, u1), (5, bb u2), (3, ii a), (7, u3)] 8 []
abbrev T22_0 : Type := Bool → S → Bool → S → OS
def K22_0 (a : Int) (kk : PK S) : T22_0 := fun v0 u1 u2 u3=> kk 1 7 1 (s22_0 a v0 u1 u2 u3)
def b22_0 (q : YF) (a : Int) (v0 : Bool) (u1 : S) (u2 : Bool) (u3 : S) : OS := some (bb v0)
def e22_in (q : YF) (a : Int) (k0 : T22_0) : OS := bif geI a 0 then k0 (leI a 1099511627776) (ii a) true (bb (leI a 1099511627776)) else k0 false S.ud false S.ud
structure X22 where
 x0 : Bool → OS
def D22_0 (X : X22) : T22_0 := fun v0 _ _ _ => X.x0 v0
def X22s (q : YF) (a : Int) (X : X22) : X22 := ⟨fun v0 => b22_0 q a v0 dd dd dd⟩
def X22n (q : YF) (a : Int) : Nat → X22
 | 0 => ⟨fun _ => none⟩
 | n + 1 => X22s q a (X22n q a n)
theorem l22_0 (q : YF) (a : Int) (kk : PK S) : K22_0 a (P22 q kk) = b22_0 q a := by
 kernel_rfl
theorem l22_in (q : YF) (a : Int) (kk : PK S) : BG q kk 22 Tryz.f22 [ii a] = e22_in q a (K22_0 a kk) := by
 kernel_rfl
theorem h22 (q : YF) (a : Int) : ∀ n, K22_0 a (H22 q n) = D22_0 (X22n q a n)
 | 0 => rfl
 | n + 1 => by
  have h0 := h22 q a n
  exact (l22_0 q a (H22 q n)).trans (by kernel_rfl)
theorem W22 (a : Int) (n : Nat) (x : S) (h : e22_in (regs O) a (D22_0 (X22n (regs O) a n)) = some x) : (W O).callT 22 [ii a] = some x := by
 refine WG (fn := Tryz.f22) (by kernel_rfl) (by kernel_rfl) (n := n) ?_
 refine (l22_in (regs O) a (H22 (regs O) n)).trans ?_
 have h0 := h22 (regs O) a n
 rw [h0]
 exact h
abbrev P23 (q : YF) (kk : PK S) : PK S := PG q 23 Tryz.f23 kk
abbrev H23 (q : YF) : Nat → PK S := HG q 23 Tryz.f23
def s23_0 (a : Int) (v0 : Bool) (u1 : S) (u2 : Bool) (u3 : S) : St := mkSt [(0, ii a), (8, bb v0), (4, bb (geI a 0)), (2, bb false), (6, u1), (5, bb u2), (3, ii a), (7, u3)] 8 []
def K23_0 (a : Int) (kk : PK S) : T22_0 := fun v0 u1 u2 u3=> kk 1 7 1 (s23_0 a v0 u1 u2 u3)
def b23_0 (q : YF) (a : Int) (v0 : Bool) (u1 : S) (u2 : Bool) (u3 : S) : OS := some (bb v0)
def e23_in (q : YF) (a : Int) (k0 : T22_0) : OS := bif geI a 0 then k0 (leI a 1073741824) (ii a) true (bb (leI a 1073741824)) else k0 false S.ud false S.ud
structure X23 where
 x0 : Bool → OS
def D23_0 (X : X23) : T22_0 := fun v0 _ _ _ => X.x0 v0
def X23s (q : YF) (a : Int) (X : X23) : X23 := ⟨fun v0 => b23_0 q a v0 dd dd dd⟩
def X23n (q : YF) (a : Int) : Nat → X23
 | 0 => ⟨fun _ => none⟩
 | n + 1 => X23s q a (X23n q a n)
theorem l23_0 (q : YF) (a : Int) (kk : PK S) : K23_0 a (P23 q kk) = b23_0 q a := by
 kernel_rfl
theorem l23_in (q : YF) (a : Int) (kk : PK S) : BG q kk 23 Tryz.f23 [ii a] = e23_in q a (K23_0 a kk) := by
 kernel_rfl
theorem h23 (q : YF) (a : Int) : ∀ n, K23_0 a (H23 q n) = D23_0 (X23n q a n)
 | 0 => rfl
 | n + 1 => by
  have h0 := h23 q a n
  exact (l23_0 q a (H23 q n)).trans (by kernel_rfl)
theorem W23 (a : Int) (n : Nat) (x : S) (h : e23_in (regs O) a (D23_0 (X23n (regs O) a n)) = some x) : (W O).callT 23 [ii a] = some x := by
 refine WG (fn := Tryz.f23) (by kernel_rfl) (by kernel_rfl) (n := n) ?_
 refine (l23_in (regs O) a (H23 (regs O) n)).trans ?_
 have h0 := h23 (regs O) a n
 rw [h0]
 exact h
abbrev P24 (q : YF) (kk : PK S) : PK S := PG q 24 Tryz.f24 kk
abbrev H24 (q : YF) : Nat → PK S := HG q 24 Tryz.f24
def s24_0 (a : Rw D112) (v0 : Int) : St := mkSt [(0, S.t (T.rows 7 a.n fun i => e112 (a.get i))), (10, ii (ofN a.n)), (9, S.t (T.rows 7 a.n fun i => e112 (a.get i))), (11, ii v0)] 0 []
def K24_0 (a : Rw D112) (kk : PK S) : Int → OS := fun v0=> kk 4 0 0 (s24_0 a v0)
def b24_0 (q : YF) (a : Rw D112) (k0 : Int → OS) (v0 : Int) : OS := bif ltI v0 (ofN a.n) then elemO v0 a.n fun h => yC q 58 [ag (e112 (a.get (Fin.mk v0.toNat h)))] fun y => bif !eqI (y.i 0) 0 then some (ii (y.i 0)) else bif leI 0 v0 && leI v0 (ofN a.n) then subO 0 (toN v0) a.n fun h_1 => yC q 59 [S.t (T.rows 7 (toN v0) fun i => e112 (a.get (Fin.mk (0 + ↑i) (by first | omega | (have := i.2; omega) | (have := i_1.2; omega))))), S.fn (Go.Fn.func 60) [] [S.pt (e112 (a.get (Fin.mk v0.toNat h)))]] fun y => bif y.b 0 then some (ii 6) else k0 (addI .i64 v0 1) else none else some (ii 0)
def e24_in (q : YF) (a : Rw D112) (k0 : Int → OS) : OS := bif gtI (ofN a.n) 12 then some (ii 3) else k0 0
structure X24 where
 x0 : Int → OS
def D24_0 (X : X24) : Int → OS := fun v0 => X.x0 v0
def X24s (q : YF) (a : Rw D112) (X : X24) : X24 := ⟨fun v0 => b24_0 q a (D24_0 X) v0⟩
def X24n (q : YF) (a : Rw D112) : Nat → X24
 | 0 => ⟨fun _ => none⟩
 | n + 1 => X24s q a (X24n q a n)
theorem l24_0 (q : YF) (a : Rw D112) (kk : PK S) : K24_0 a (P24 q kk) = b24_0 q a (K24_0 a kk) := by
 kernel_rfl
theorem l24_in (q : YF) (a : Rw D112) (kk : PK S) : BG q kk 24 Tryz.f24 [S.t (T.rows 7 a.n fun i => e112 (a.get i))] = e24_in q a (K24_0 a kk) := by
 kernel_rfl
theorem h24 (q : YF) (a : Rw D112) : ∀ n, K24_0 a (H24 q n) = D24_0 (X24n q a n)
 | 0 => rfl
 | n + 1 => by
  have h0 := h24 q a n
  exact (l24_0 q a (H24 q n)).trans (by rw [h0]; kernel_rfl)
theorem W24 (a : Rw D112) (n : Nat) (x : S) (h : e24_in (regs O) a (D24_0 (X24n (regs O) a n)) = some x) : (W O).callT 24 [S.t (T.rows 7 a.n fun i => e112 (a.get i))] = some x := by
 refine WG (fn := Tryz.f24) (by kernel_rfl) (by kernel_rfl) (n := n) ?_
 refine (l24_in (regs O) a (H24 (regs O) n)).trans ?_
 have h0 := h24 (regs O) a n
 rw [h0]
 exact h
abbrev P25 (q : YF) (kk : PK S) : PK S := PG q 25 Tryz.f25 kk
abbrev H25 (q : YF) : Nat → PK S := HG q 25 Tryz.f25
def s25_0 (a : D33) (v0 : Int) (v1 : BA) : St := mkSt [(8, S.t (T.rows 10 a.fPools.n fun i => e77 (a.fPools.get i))), (10, ii v0), (9, ii (ofN a.fPools.n)), (3, ss v1)] 0 []
abbrev T25_0 : Type := Int → BA → OS
def K25_0 (a : D33) (kk : PK S) : T25_0 := fun v0 v1=> kk 3 0 0 (s25_0 a v0 v1)
def b25_0 (q : YF) (a : D33) (k0 : T25_0) (v0 : Int) (v1 : BA) : OS := bif ltI v0 (ofN a.fPools.n) then elemO v0 a.fPools.n fun h => yC q 61 [ag (e77 (a.fPools.get (Fin.mk v0.toNat h)))] fun y => bif !eqI (y.i 0) 0 then some (ii (y.i 0)) else bif strLt (a.fPools.get (Fin.mk v0.toNat h)).fName v1 || strEq (a.fPools.get (Fin.mk v0.toNat h)).fName v1 then some (ii 6) else k0 (addI .i64 v0 1) (a.fPools.get (Fin.mk v0.toNat h)).fName else some (ii 0)
def e25_in (q : YF) (a : D33) (k0 : T25_0) : OS := k0 0 (bs [])
structure X25 where
 x0 : Int → BA → OS
def D25_0 (X : X25) : T25_0 := fun v0 v1 => X.x0 v0 v1
def X25s (q : YF) (a : D33) (X : X25) : X25 := ⟨fun v0 v1 => b25_0 q a (D25_0 X) v0 v1⟩
def X25n (q : YF) (a : D33) : Nat → X25
 | 0 => ⟨fun _ _ => none⟩
 | n + 1 => X25s q a (X25n q a n)
theorem l25_0 (q : YF) (a : D33) (kk : PK S) : K25_0 a (P25 q kk) = b25_0 q a (K25_0 a kk) := by
 kernel_rfl
theorem l25_in (q : YF) (a : D33) (kk : PK S) : BG q kk 25 Tryz.f25 [ag (e33 a)] = e25_in q a (K25_0 a kk) := by
 kernel_rfl
theorem h25 (q : YF) (a : D33) : ∀ n, K25_0 a (H25 q n) = D25_0 (X25n q a n)
 | 0 => rfl
 | n + 1 => by
  have h0 := h25 q a n
  exact (l25_0 q a (H25 q n)).trans (by rw [h0]; kernel_rfl)
theorem W25 (a : D33) (n : Nat) (x : S) (h : e25_in (regs O) a (D25_0 (X25n (regs O) a n)) = some x) : (W O).callT 25 [ag (e33 a)] = some x := by
 refine WG (fn := Tryz.f25) (by kernel_rfl) (by kernel_rfl) (n := n) ?_
 refine (l25_in (regs O) a (H25 (regs O) n)).trans ?_
 have h0 := h25 (regs O) a n
 rw [h0]
 exact h
abbrev P26 (q : YF) (kk : PK S) : PK S := PG q 26 Tryz.f26 kk
abbrev H26 (q : YF) : Nat → PK S := HG q 26 Tryz.f26
def s26_0 (a : D33) (v0 : Int) (v1 : BA) : St := mkSt [(12, ii v0), (10, S.t (T.rows 15 a.fClaims.n fun i => e52 (a.fClaims.get i))), (1, S.ptr 0 0), (3, ss v1), (11, ii (ofN a.fClaims.n))] 1 [(0, B.box (List.map S.t (e33 a)))]
def K26_0 (a : D33) (kk : PK S) : T25_0 := fun v0 v1=> kk 3 0 0 (s26_0 a v0 v1)
def s26_1 (a : D33) (v0 : Bool) (v1 : D52) (v2 v3 v4 : Int) (u5 : D52) (u6 u7 : Bool) (u8 u9 u10 : Int) (u11 : Bool) (u12 : Int) (u13 : Bool) (u14 : D52) (u15 u16 : Bool) (u17 : Int) (u18 u19 u20 u21 : BA) (u22 u23 : Int) (u24 u25 u26 u27 : Bool) (u28 u29 u30 : BA) (u31 u32 : Int) (u33 : Bool) (u34 : D52) (u35 u36 u37 u38 u39 : BA) (u40 : Bool) (u41 : BA) : St := mkSt [(32, ss u39), (16, ag (e52 u5)), (8, bb u6), (40, bb false), (24, S.ptr 4 3), (36, S.ptr 4 1), (12, ii v4), (44, S.sl 36 1), (28, bb u7), (18, ii u8), (10, S.t (T.rows 15 a.fClaims.n fun i => e52 (a.fClaims.get i))), (42, S.ptr 4 3), (26, S.tup [S.agg [ii u9, ii u10], bb u11]), (6, ii u12), (38, bb u13), (22, S.ptr 0 6), (14, S.pt (e52 u14)), (46, bb u15), (30, S.ptr 4 0), (1, S.ptr 0 0), (33, bb u16), (17, ii u17), (41, ag (e33 a)), (25, S.agg [ss u18, ss u19, ss u20]), (5, S.ptr 4 0), (37, ss u21), (21, S.tup [S.agg [ii u22, ii u23], bb u24]), (13, bb u40), (45, bb u25), (29, bb u26), (3, ss u41), (35, ag (e33 a)), (19, bb u27), (11, ii (ofN a.fClaims.n)), (43, S.agg [ss u28, ss u29, ss u30]), (27, S.agg [ii u31, ii u32]), (7, S.ptr 19 0), (39, bb u33), (23, S.t (T.rows 7 a.fTypes.n fun i => e112 (a.fTypes.get i))), (15, ag (e52 u34)), (47, bb v0), (31, ss u35)] 48 [(0, B.box (List.map S.t (e33 a))), (4, B.box (List.map S.t (e52 v1))), (36, B.lst false 3 1 [ss u36, ss u37, ss u38]), (19, B.box [ii v2, ii v3])]
abbrev T26_1 : Type := Bool → D52 → Int → Int → Int → D52 → Bool → Bool → Int → Int → Int → Bool → Int → Bool → D52 → Bool → Bool → Int → BA → BA → BA → BA → Int → Int → Bool → Bool → Bool → Bool → BA → BA → BA → Int → Int → Bool → D52 → BA → BA → BA → BA → BA → Bool → BA → OS
def K26_1 (a : D33) (kk : PK S) : T26_1 := fun v0 v1 v2 v3 v4 u5 u6 u7 u8 u9 u10 u11 u12 u13 u14 u15 u16 u17 u18 u19 u20 u21 u22 u23 u24 u25 u26 u27 u28 u29 u30 u31 u32 u33 u34 u35 u36 u37 u38 u39 u40 u41=> kk 11 14 27 (s26_1 a v0 v1 v2 v3 v4 u5 u6 u7 u8 u9 u10 u11 u12 u13 u14 u15 u16 u17 u18 u19 u20 u21 u22 u23 u24 u25 u26 u27 u28 u29 u30 u31 u32 u33 u34 u35 u36 u37 u38 u39 u40 u41)
def s26_2 (a : D33) (u0 : D52) (u1 u2 : Bool) (u3 u4 u5 : Int) (u6 : Bool) (u7 : Int) (u8 : Bool) (u9 : D52) (u10 : Bool) (u11 : Int) (u12 u13 u14 u15 : BA) (u16 u17 : Int) (u18 u19 u20 : Bool) (u21 u22 : Int) (u23 : Bool) (u24 : D52) (u25 : BA) (u26 : D52) (u27 u28 : Int) (u29 : BA) (u30 : Int) (u31 : Bool) (u32 : BA) : St := mkSt [(32, ss u29), (16, ag (e52 u0)), (8, bb u1), (40, bb true), (24, S.ptr 4 3), (36, S.ptr 4 1), (12, ii u30), (44, S.ud), (28, bb u2), (18, ii u3), (10, S.t (T.rows 15 a.fClaims.n fun i => e52 (a.fClaims.get i))), (42, S.ud), (26, S.tup [S.agg [ii u4, ii u5], bb u6]), (6, ii u7), (38, bb u8), (22, S.ptr 0 6), (14, S.pt (e52 u9)), (46, S.ud), (30, S.ptr 4 0), (1, S.ptr 0 0), (33, bb u10), (17, ii u11), (41, S.ud), (25, S.agg [ss u12, ss u13, ss u14]), (5, S.ptr 4 0), (37, ss u15), (21, S.tup [S.agg [ii u16, ii u17], bb u18]), (13, bb u31), (45, S.ud), (29, bb u19), (3, ss u32), (35, ag (e33 a)), (19, bb u20), (11, ii (ofN a.fClaims.n)), (43, S.ud), (27, S.agg [ii u21, ii u22]), (7, S.ptr 19 0), (39, bb u23), (23, S.t (T.rows 7 a.fTypes.n fun i => e112 (a.fTypes.get i))), (15, ag (e52 u24)), (47, bb true), (31, ss u25)] 48 [(0, B.box (List.map S.t (e33 a))), (4, B.box (List.map S.t (e52 u26))), (19, B.box [ii u27, ii u28])]
abbrev T26_2 : Type := D52 → Bool → Bool → Int → Int → Int → Bool → Int → Bool → D52 → Bool → Int → BA → BA → BA → BA → Int → Int → Bool → Bool → Bool → Int → Int → Bool → D52 → BA → D52 → Int → Int → BA → Int → Bool → BA → OS
def K26_2 (a : D33) (kk : PK S) : T26_2 := fun u0 u1 u2 u3 u4 u5 u6 u7 u8 u9 u10 u11 u12 u13 u14 u15 u16 u17 u18 u19 u20 u21 u22 u23 u24 u25 u26 u27 u28 u29 u30 u31 u32=> kk 11 14 27 (s26_2 a u0 u1 u2 u3 u4 u5 u6 u7 u8 u9 u10 u11 u12 u13 u14 u15 u16 u17 u18 u19 u20 u21 u22 u23 u24 u25 u26 u27 u28 u29 u30 u31 u32)
def s26_3 (a : D33) (v0 : Bool) (v1 : D52) (v2 v3 v4 : Int) (u5 : D52) (u6 u7 : Bool) (u8 u9 u10 : Int) (u11 : Bool) (u12 : Int) (u13 : Bool) (u14 : D52) (u15 u16 : Bool) (u17 : Int) (u18 u19 u20 u21 : BA) (u22 u23 : Int) (u24 u25 u26 u27 : Bool) (u28 u29 u30 : BA) (u31 u32 : Int) (u33 : Bool) (u34 : D52) (u35 : Bool) (u36 u37 u38 u39 : BA) (u40 : Bool) (u41 u42 u43 u44 u45 : S) (u46 : BA) (u47 : Bool) (u48 : BA) : St := mkSt [(32, ss u46), (16, ag (e52 u5)), (48, bb u40), (8, bb u6), (40, bb false), (24, S.ptr 4 3), (36, S.ptr 4 1), (52, u41), (12, ii v4), (44, S.sl 36 1), (28, bb u7), (18, ii u8), (50, u42), (10, S.t (T.rows 15 a.fClaims.n fun i => e52 (a.fClaims.get i))), (42, S.ptr 4 3), (26, S.tup [S.agg [ii u9, ii u10], bb u11]), (6, ii u12), (38, bb u13), (22, S.ptr 0 6), (54, bb v0), (14, S.pt (e52 u14)), (46, bb u15), (30, S.ptr 4 0), (1, S.ptr 0 0), (33, bb u16), (17, ii u17), (49, u43), (41, ag (e33 a)), (25, S.agg [ss u18, ss u19, ss u20]), (5, S.ptr 4 0), (37, ss u21), (21, S.tup [S.agg [ii u22, ii u23], bb u24]), (53, u44), (13, bb u47), (45, bb u25), (29, bb u26), (3, ss u48), (35, ag (e33 a)), (19, bb u27), (51, u45), (11, ii (ofN a.fClaims.n)), (43, S.agg [ss u28, ss u29, ss u30]), (27, S.agg [ii u31, ii u32]), (7, S.ptr 19 0), (39, bb u33), (23, S.t (T.rows 7 a.fTypes.n fun i => e112 (a.fTypes.get i))), (15, ag (e52 u34)), (47, bb u35), (31, ss u36)] 48 [(0, B.box (List.map S.t (e33 a))), (4, B.box (List.map S.t (e52 v1))), (36, B.lst false 3 1 [ss u37, ss u38, ss u39]), (19, B.box [ii v2, ii v3])]
abbrev T26_3 : Type := Bool → D52 → Int → Int → Int → D52 → Bool → Bool → Int → Int → Int → Bool → Int → Bool → D52 → Bool → Bool → Int → BA → BA → BA → BA → Int → Int → Bool → Bool → Bool → Bool → BA → BA → BA → Int → Int → Bool → D52 → Bool → BA → BA → BA → BA → Bool → S → S → S → S → S → BA → Bool → BA → OS
def K26_3 (a : D33) (kk : PK S) : T26_3 := fun v0 v1 v2 v3 v4 u5 u6 u7 u8 u9 u10 u11 u12 u13 u14 u15 u16 u17 u18 u19 u20 u21 u22 u23 u24 u25 u26 u27 u28 u29 u30 u31 u32 u33 u34 u35 u36 u37 u38 u39 u40 u41 u42 u43 u44 u45 u46 u47 u48=> kk 11 21 27 (s26_3 a v0 v1 v2 v3 v4 u5 u6 u7 u8 u9 u10 u11 u12 u13 u14 u15 u16 u17 u18 u19 u20 u21 u22 u23 u24 u25 u26 u27 u28 u29 u30 u31 u32 u33 u34 u35 u36 u37 u38 u39 u40 u41 u42 u43 u44 u45 u46 u47 u48)
def s26_4 (a : D33) (u0 : D52) (u1 u2 : Bool) (u3 u4 u5 : Int) (u6 : Bool) (u7 : Int) (u8 : Bool) (u9 : D52) (u10 : Bool) (u11 : Int) (u12 u13 u14 u15 : BA) (u16 u17 : Int) (u18 u19 u20 : Bool) (u21 u22 : Int) (u23 : Bool) (u24 : D52) (u25 : BA) (u26 : D52) (u27 u28 : Int) (u29 : BA) (u30 : Int) (u31 : Bool) (u32 : BA) : St := mkSt [(32, ss u29), (16, ag (e52 u0)), (48, bb true), (8, bb u1), (40, bb true), (24, S.ptr 4 3), (36, S.ptr 4 1), (52, S.ud), (12, ii u30), (44, S.ud), (28, bb u2), (18, ii u3), (50, S.ud), (10, S.t (T.rows 15 a.fClaims.n fun i => e52 (a.fClaims.get i))), (42, S.ud), (26, S.tup [S.agg [ii u4, ii u5], bb u6]), (6, ii u7), (38, bb u8), (22, S.ptr 0 6), (54, bb true), (14, S.pt (e52 u9)), (46, S.ud), (30, S.ptr 4 0), (1, S.ptr 0 0), (33, bb u10), (17, ii u11), (49, S.ud), (41, S.ud), (25, S.agg [ss u12, ss u13, ss u14]), (5, S.ptr 4 0), (37, ss u15), (21, S.tup [S.agg [ii u16, ii u17], bb u18]), (53, S.ud), (13, bb u31), (45, S.ud), (29, bb u19), (3, ss u32), (35, ag (e33 a)), (19, bb u20), (51, S.ud), (11, ii (ofN a.fClaims.n)), (43, S.ud), (27, S.agg [ii u21, ii u22]), (7, S.ptr 19 0), (39, bb u23), (23, S.t (T.rows 7 a.fTypes.n fun i => e112 (a.fTypes.get i))), (15, ag (e52 u24)), (47, bb true), (31, ss u25)] 48 [(0, B.box (List.map S.t (e33 a))), (4, B.box (List.map S.t (e52 u26))), (19, B.box [ii u27, ii u28])]
def K26_4 (a : D33) (kk : PK S) : T26_2 := fun u0 u1 u2 u3 u4 u5 u6 u7 u8 u9 u10 u11 u12 u13 u14 u15 u16 u17 u18 u19 u20 u21 u22 u23 u24 u25 u26 u27 u28 u29 u30 u31 u32=> kk 11 21 27 (s26_4 a u0 u1 u2 u3 u4 u5 u6 u7 u8 u9 u10 u11 u12 u13 u14 u15 u16 u17 u18 u19 u20 u21 u22 u23 u24 u25 u26 u27 u28 u29 u30 u31 u32)
def b26_0 (q : YF) (a : D33) (k1 : T26_1) (k2 : T26_2) (v0 : Int) (v1 : BA) : OS := bif ltI v0 (ofN a.fClaims.n) then elemO v0 a.fClaims.n fun h => yC q 62 [ag (e52 (a.fClaims.get (Fin.mk v0.toNat h)))] fun y => bif !eqI (y.i 0) 0 then some (ii (y.i 0)) else yC q 63 [S.t (T.rows 7 a.fTypes.n fun i => e112 (a.fTypes.get i)), S.agg [ss (a.fClaims.get (Fin.mk v0.toNat h)).fOffer_Type, ss (a.fClaims.get (Fin.mk v0.toNat h)).fOffer_Zone, ss (a.fClaims.get (Fin.mk v0.toNat h)).fOffer_Kind]] fun y_1 => bif strLt (a.fClaims.get (Fin.mk v0.toNat h)).fName v1 || strEq (a.fClaims.get (Fin.mk v0.toNat h)).fName v1 then some (ii 6) else yC q 64 [ag (e33 a), ss (a.fClaims.get (Fin.mk v0.toNat h)).fPool] fun y_2 => bif !y_2.b 0 then k2 (a.fClaims.get (Fin.mk v0.toNat h)) (y_1.b 2) (y_1.b 2) (y.i 0) (y_1.i 0) (y_1.i 1) (y_1.b 2) (y.i 0) (y_2.b 0) (a.fClaims.get (Fin.mk v0.toNat h)) (strLt (a.fClaims.get (Fin.mk v0.toNat h)).fName v1 || strEq (a.fClaims.get (Fin.mk v0.toNat h)).fName v1) (y.i 0) (a.fClaims.get (Fin.mk v0.toNat h)).fOffer_Type (a.fClaims.get (Fin.mk v0.toNat h)).fOffer_Zone (a.fClaims.get (Fin.mk v0.toNat h)).fOffer_Kind (a.fClaims.get (Fin.mk v0.toNat h)).fPool (y_1.i 0) (y_1.i 1) (y_1.b 2) (strLt (a.fClaims.get (Fin.mk v0.toNat h)).fName v1 || strEq (a.fClaims.get (Fin.mk v0.toNat h)).fName v1) (!eqI (y.i 0) 0) (y_1.i 0) (y_1.i 1) (!y_2.b 0) (a.fClaims.get (Fin.mk v0.toNat h)) (a.fClaims.get (Fin.mk v0.toNat h)).fName (a.fClaims.get (Fin.mk v0.toNat h)) (y_1.i 0) (y_1.i 1) v1 v0 (ltI v0 (ofN a.fClaims.n)) v1 else yC q 65 [ag (e33 a), S.t (T.rows 3 1 fun i => List.take 3 (List.drop (↑i * 3) [ts (a.fClaims.get (Fin.mk v0.toNat h)).fOffer_Type, ts (a.fClaims.get (Fin.mk v0.toNat h)).fOffer_Zone, ts (a.fClaims.get (Fin.mk v0.toNat h)).fOffer_Kind]))] fun y_3 => k1 (!y_3.b 0) (a.fClaims.get (Fin.mk v0.toNat h)) (y_1.i 0) (y_1.i 1) v0 (a.fClaims.get (Fin.mk v0.toNat h)) (y_1.b 2) (y_1.b 2) (y.i 0) (y_1.i 0) (y_1.i 1) (y_1.b 2) (y.i 0) (y_2.b 0) (a.fClaims.get (Fin.mk v0.toNat h)) (!y_3.b 0) (strLt (a.fClaims.get (Fin.mk v0.toNat h)).fName v1 || strEq (a.fClaims.get (Fin.mk v0.toNat h)).fName v1) (y.i 0) (a.fClaims.get (Fin.mk v0.toNat h)).fOffer_Type (a.fClaims.get (Fin.mk v0.toNat h)).fOffer_Zone (a.fClaims.get (Fin.mk v0.toNat h)).fOffer_Kind (a.fClaims.get (Fin.mk v0.toNat h)).fPool (y_1.i 0) (y_1.i 1) (y_1.b 2) (y_3.b 0) (strLt (a.fClaims.get (Fin.mk v0.toNat h)).fName v1 || strEq (a.fClaims.get (Fin.mk v0.toNat h)).fName v1) (!eqI (y.i 0) 0) (a.fClaims.get (Fin.mk v0.toNat h)).fOffer_Type (a.fClaims.get (Fin.mk v0.toNat h)).fOffer_Zone (a.fClaims.get (Fin.mk v0.toNat h)).fOffer_Kind (y_1.i 0) (y_1.i 1) (!y_2.b 0) (a.fClaims.get (Fin.mk v0.toNat h)) (a.fClaims.get (Fin.mk v0.toNat h)).fName (a.fClaims.get (Fin.mk v0.toNat h)).fOffer_Type (a.fClaims.get (Fin.mk v0.toNat h)).fOffer_Zone (a.fClaims.get (Fin.mk v0.toNat h)).fOffer_Kind v1 (ltI v0 (ofN a.fClaims.n)) v1 else some (ii 0)
def b26_1 (q : YF) (a : D33) (k3 : T26_3) (v0 : Bool) (v1 : D52) (v2 v3 v4 : Int) (u5 : D52) (u6 u7 : Bool) (u8 u9 u10 : Int) (u11 : Bool) (u12 : Int) (u13 : Bool) (u14 : D52) (u15 u16 : Bool) (u17 : Int) (u18 u19 u20 u21 : BA) (u22 u23 : Int) (u24 u25 u26 u27 : Bool) (u28 u29 u30 : BA) (u31 u32 : Int) (u33 : Bool) (u34 : D52) (u35 u36 u37 u38 u39 : BA) (u40 : Bool) (u41 : BA) : OS := bif v0 then k3 true v1 v2 v3 v4 u5 u6 u7 u8 u9 u10 u11 u12 u13 u14 u15 u16 u17 u18 u19 u20 u21 u22 u23 u24 u25 u26 u27 u28 u29 u30 u31 u32 u33 u34 v0 u35 u36 u37 u38 true S.ud S.ud S.ud S.ud S.ud u39 u40 u41 else yC q 65 [ag (e33 a), S.t (T.rows 3 v1.fOpts.n fun i => e47 (v1.fOpts.get i))] fun y => k3 (!y.b 0) v1 v2 v3 v4 u5 u6 u7 u8 u9 u10 u11 u12 u13 u14 u15 u16 u17 u18 u19 u20 u21 u22 u23 u24 u25 u26 u27 u28 u29 u30 u31 u32 u33 u34 v0 u35 u36 u37 u38 false (bb (y.b 0)) (S.ptr 4 9) (ag (e33 a)) (S.t (T.v (.bool !y.b 0))) (S.t (T.rows 3 v1.fOpts.n fun i => e47 (v1.fOpts.get i))) u39 u40 u41
def b26_2 (q : YF) (a : D33) (k4 : T26_2) (u0 : D52) (u1 u2 : Bool) (u3 u4 u5 : Int) (u6 : Bool) (u7 : Int) (u8 : Bool) (u9 : D52) (u10 : Bool) (u11 : Int) (u12 u13 u14 u15 : BA) (u16 u17 : Int) (u18 u19 u20 : Bool) (u21 u22 : Int) (u23 : Bool) (u24 : D52) (u25 : BA) (u26 : D52) (u27 u28 : Int) (u29 : BA) (u30 : Int) (u31 : Bool) (u32 : BA) : OS := k4 u0 u1 u2 u3 u4 u5 u6 u7 u8 u9 u10 u11 u12 u13 u14 u15 u16 u17 u18 u19 u20 u21 u22 u23 u24 u25 u26 u27 u28 u29 u30 u31 u32
def b26_3 (q : YF) (a : D33) (k0 : T25_0) (v0 : Bool) (v1 : D52) (v2 v3 v4 : Int) (u5 : D52) (u6 u7 : Bool) (u8 u9 u10 : Int) (u11 : Bool) (u12 : Int) (u13 : Bool) (u14 : D52) (u15 u16 : Bool) (u17 : Int) (u18 u19 u20 u21 : BA) (u22 u23 : Int) (u24 u25 u26 u27 : Bool) (u28 u29 u30 : BA) (u31 u32 : Int) (u33 : Bool) (u34 : D52) (u35 : Bool) (u36 u37 u38 u39 : BA) (u40 : Bool) (u41 u42 u43 u44 u45 : S) (u46 : BA) (u47 : Bool) (u48 : BA) : OS := bif v0 then some (ii 5) else bif !(eqI v1.fCap_0 v2 && (eqI v1.fCap_1 v3 && true)) then some (ii 1) else k0 (addI .i64 v4 1) v1.fName
def b26_4 (q : YF) (a : D33) (u0 : D52) (u1 u2 : Bool) (u3 u4 u5 : Int) (u6 : Bool) (u7 : Int) (u8 : Bool) (u9 : D52) (u10 : Bool) (u11 : Int) (u12 u13 u14 u15 : BA) (u16 u17 : Int) (u18 u19 u20 : Bool) (u21 u22 : Int) (u23 : Bool) (u24 : D52) (u25 : BA) (u26 : D52) (u27 u28 : Int) (u29 : BA) (u30 : Int) (u31 : Bool) (u32 : BA) : OS := some (ii 5)
def e26_in (q : YF) (a : D33) (k0 : T25_0) : OS := k0 0 (bs [])
structure X26 where
 x0 : Int → BA → OS
 x1 : Bool → D52 → Int → Int → Int → OS
 x2 : OS
 x3 : Bool → D52 → Int → Int → Int → OS
 x4 : OS
def D26_0 (X : X26) : T25_0 := fun v0 v1 => X.x0 v0 v1
def D26_1 (X : X26) : T26_1 := fun v0 v1 v2 v3 v4 _ _ _ _ _ _ _ _ _ _ _ _ _ _ _ _ _ _ _ _ _ _ _ _ _ _ _ _ _ _ _ _ _ _ _ _ _ => X.x1 v0 v1 v2 v3 v4
def D26_2 (X : X26) : T26_2 := fun _ _ _ _ _ _ _ _ _ _ _ _ _ _ _ _ _ _ _ _ _ _ _ _ _ _ _ _ _ _ _ _ _ => X.x2
def D26_3 (X : X26) : T26_3 := fun v0 v1 v2 v3 v4 _ _ _ _ _ _ _ _ _ _ _ _ _ _ _ _ _ _ _ _ _ _ _ _ _ _ _ _ _ _ _ _ _ _ _ _ _ _ _ _ _ _ _ _ => X.x3 v0 v1 v2 v3 v4
def D26_4 (X : X26) : T26_2 := fun _ _ _ _ _ _ _ _ _ _ _ _ _ _ _ _ _ _ _ _ _ _ _ _ _ _ _ _ _ _ _ _ _ => X.x4
def X26s (q : YF) (a : D33) (X : X26) : X26 := ⟨fun v0 v1 => b26_0 q a (D26_1 X) (D26_2 X) v0 v1,
 fun v0 v1 v2 v3 v4 => b26_1 q a (D26_3 X) v0 v1 v2 v3 v4 dd dd dd dd dd dd dd dd dd dd dd dd dd dd dd dd dd dd dd dd dd dd dd dd dd dd dd dd dd dd dd dd dd dd dd dd dd,
 b26_2 q a (D26_4 X) dd dd dd dd dd dd dd dd dd dd dd dd dd dd dd dd dd dd dd dd dd dd dd dd dd dd dd dd dd dd dd dd dd,
 fun v0 v1 v2 v3 v4 => b26_3 q a (D26_0 X) v0 v1 v2 v3 v4 dd dd dd dd dd dd dd dd dd dd dd dd dd dd dd dd dd dd dd dd dd dd dd dd dd dd dd dd dd dd dd dd dd dd dd dd dd dd dd dd dd dd dd dd,
 b26_4 q a dd dd dd dd dd dd dd dd dd dd dd dd dd dd dd dd dd dd dd dd dd dd dd dd dd dd dd dd dd dd dd dd dd⟩
def X26n (q : YF) (a : D33) : Nat → X26
 | 0 => ⟨fun _ _ => none, fun _ _ _ _ _ => none, none, fun _ _ _ _ _ => none, none⟩
 | n + 1 => X26s q a (X26n q a n)
theorem l26_0 (q : YF) (a : D33) (kk : PK S) : K26_0 a (P26 q kk) = b26_0 q a (K26_1 a kk) (K26_2 a kk) := by
 kernel_rfl
theorem l26_1 (q : YF) (a : D33) (kk : PK S) : K26_1 a (P26 q kk) = b26_1 q a (K26_3 a kk) := by
 kernel_rfl
theorem l26_2 (q : YF) (a : D33) (kk : PK S) : K26_2 a (P26 q kk) = b26_2 q a (K26_4 a kk) := by
 kernel_rfl
theorem l26_3 (q : YF) (a : D33) (kk : PK S) : K26_3 a (P26 q kk) = b26_3 q a (K26_0 a kk) := by
 kernel_rfl
theorem l26_4 (q : YF) (a : D33) (kk : PK S) : K26_4 a (P26 q kk) = b26_4 q a := by
 kernel_rfl
theorem l26_in (q : YF) (a : D33) (kk : PK S) : BG q kk 26 Tryz.f26 [ag (e33 a)] = e26_in q a (K26_0 a kk) := by
 kernel_rfl
theorem h26 (q : YF) (a : D33) : ∀ n, K26_0 a (H26 q n) = D26_0 (X26n q a n) ∧ K26_1 a (H26 q n) = D26_1 (X26n q a n) ∧ K26_2 a (H26 q n) = D26_2 (X26n q a n) ∧ K26_3 a (H26 q n) = D26_3 (X26n q a n) ∧ K26_4 a (H26 q n) = D26_4 (X26n q a n)
 | 0 => ⟨rfl, rfl, rfl, rfl, rfl⟩
 | n + 1 => by
  obtain ⟨h0, h1, h2, h3, h4⟩ := h26 q a n
  exact ⟨(l26_0 q a (H26 q n)).trans (by rw [h1, h2]; kernel_rfl), (l26_1 q a (H26 q n)).trans (by rw [h3]; kernel_rfl), (l26_2 q a (H26 q n)).trans (by rw [h4]; kernel_rfl), (l26_3 q a (H26 q n)).trans (by rw [h0]; kernel_rfl), (l26_4 q a (H26 q n)).trans (by kernel_rfl)⟩
theorem W26 (a : D33) (n : Nat) (x : S) (h : e26_in (regs O) a (D26_0 (X26n (regs O) a n)) = some x) : (W O).callT 26 [ag (e33 a)] = some x := by
 refine WG (fn := Tryz.f26) (by kernel_rfl) (by kernel_rfl) (n := n) ?_
 refine (l26_in (regs O) a (H26 (regs O) n)).trans ?_
 obtain ⟨h0, h1, h2, h3, h4⟩ := h26 (regs O) a n
 rw [h0]
 exact h
abbrev P27 (q : YF) (kk : PK S) : PK S := PG q 27 Tryz.f27 kk
abbrev H27 (q : YF) : Nat → PK S := HG q 27 Tryz.f27
def s27_0 (a : D33) (v0 : Int) (v1 : BA) : St := mkSt [(8, S.t (T.rows 12 a.fPods.n fun i => e61 (a.fPods.get i))), (10, ii v0), (1, S.ptr 0 0), (9, ii (ofN a.fPods.n)), (3, ss v1)] 1 [(0, B.box (List.map S.t (e33 a)))]
def K27_0 (a : D33) (kk : PK S) : T25_0 := fun v0 v1=> kk 3 0 0 (s27_0 a v0 v1)
def s27_1 (a : D33) (v0 : D61) (v1 : Bool) (v2 u3 : Int) (u4 : D61) (u5 : BA) (u6 : Int) (u7 : D61) (u8 : Bool) (u9 : BA) (u10 : D61) (u11 u12 u13 : Bool) (u14 : Int) (u15 : S) (u16 : Bool) (u17 u18 u19 u20 : S) (u21 u22 : BA) (u23 : Bool) : St := mkSt [(32, u15), (16, ii u3), (8, S.t (T.rows 12 a.fPods.n fun i => e61 (a.fPods.get i))), (20, S.ptr 4 0), (12, S.pt (e61 u4)), (28, bb u16), (34, bb v1), (10, ii v2), (26, ss u5), (6, ii u6), (22, ss u21), (14, ag (e61 u7)), (30, u17), (1, S.ptr 0 0), (33, u18), (17, bb u8), (9, ii (ofN a.fPods.n)), (25, S.ptr 4 11), (5, S.ptr 4 0), (21, ss u9), (13, ag (e61 u10)), (29, u19), (3, ss u22), (19, bb u11), (11, bb u23), (27, bb u12), (23, bb u13), (15, ii u14), (31, u20)] 27 [(0, B.box (List.map S.t (e33 a))), (4, B.box (List.map S.t (e61 v0)))]
abbrev T27_1 : Type := D61 → Bool → Int → Int → D61 → BA → Int → D61 → Bool → BA → D61 → Bool → Bool → Bool → Int → S → Bool → S → S → S → S → BA → BA → Bool → OS
def K27_1 (a : D33) (kk : PK S) : T27_1 := fun v0 v1 v2 u3 u4 u5 u6 u7 u8 u9 u10 u11 u12 u13 u14 u15 u16 u17 u18 u19 u20 u21 u22 u23=> kk 10 11 16 (s27_1 a v0 v1 v2 u3 u4 u5 u6 u7 u8 u9 u10 u11 u12 u13 u14 u15 u16 u17 u18 u19 u20 u21 u22 u23)
def b27_0 (q : YF) (a : D33) (k1 : T27_1) (v0 : Int) (v1 : BA) : OS := bif ltI v0 (ofN a.fPods.n) then elemO v0 a.fPods.n fun h => yC q 66 [ag (e61 (a.fPods.get (Fin.mk v0.toNat h)))] fun y => bif !eqI (y.i 0) 0 then some (ii (y.i 0)) else bif strLt (a.fPods.get (Fin.mk v0.toNat h)).fName v1 || strEq (a.fPods.get (Fin.mk v0.toNat h)).fName v1 then some (ii 6) else bif !strEq (a.fPods.get (Fin.mk v0.toNat h)).fOn (bs []) then yC q 67 [ag (e33 a), ss (a.fPods.get (Fin.mk v0.toNat h)).fOn] fun y_1 => k1 (a.fPods.get (Fin.mk v0.toNat h)) (!y_1.b 0) v0 (y.i 0) (a.fPods.get (Fin.mk v0.toNat h)) (a.fPods.get (Fin.mk v0.toNat h)).fOn (y.i 0) (a.fPods.get (Fin.mk v0.toNat h)) (!eqI (y.i 0) 0) (a.fPods.get (Fin.mk v0.toNat h)).fName (a.fPods.get (Fin.mk v0.toNat h)) (strLt (a.fPods.get (Fin.mk v0.toNat h)).fName v1 || strEq (a.fPods.get (Fin.mk v0.toNat h)).fName v1) (!strEq (a.fPods.get (Fin.mk v0.toNat h)).fOn (bs [])) (strLt (a.fPods.get (Fin.mk v0.toNat h)).fName v1 || strEq (a.fPods.get (Fin.mk v0.toNat h)).fName v1) (y.i 0) (bb (y_1.b 0)) true (S.ptr 4 11) (S.t (T.v (.bool !y_1.b 0))) (ag (e33 a)) (ss (a.fPods.get (Fin.mk v0.toNat h)).fOn) v1 v1 (ltI v0 (ofN a.fPods.n)) else k1 (a.fPods.get (Fin.mk v0.toNat h)) false v0 (y.i 0) (a.fPods.get (Fin.mk v0.toNat h)) (a.fPods.get (Fin.mk v0.toNat h)).fOn (y.i 0) (a.fPods.get (Fin.mk v0.toNat h)) (!eqI (y.i 0) 0) (a.fPods.get (Fin.mk v0.toNat h)).fName (a.fPods.get (Fin.mk v0.toNat h)) (strLt (a.fPods.get (Fin.mk v0.toNat h)).fName v1 || strEq (a.fPods.get (Fin.mk v0.toNat h)).fName v1) (!strEq (a.fPods.get (Fin.mk v0.toNat h)).fOn (bs [])) (strLt (a.fPods.get (Fin.mk v0.toNat h)).fName v1 || strEq (a.fPods.get (Fin.mk v0.toNat h)).fName v1) (y.i 0) S.ud false S.ud S.ud S.ud S.ud v1 v1 (ltI v0 (ofN a.fPods.n)) else some (ii 0)
def b27_1 (q : YF) (a : D33) (k0 : T25_0) (v0 : D61) (v1 : Bool) (v2 u3 : Int) (u4 : D61) (u5 : BA) (u6 : Int) (u7 : D61) (u8 : Bool) (u9 : BA) (u10 : D61) (u11 u12 u13 : Bool) (u14 : Int) (u15 : S) (u16 : Bool) (u17 u18 u19 u20 : S) (u21 u22 : BA) (u23 : Bool) : OS := bif v1 then some (ii 5) else bif gtI v0.fSince a.fNow then some (ii 1) else k0 (addI .i64 v2 1) v0.fName
def e27_in (q : YF) (a : D33) (k0 : T25_0) : OS := k0 0 (bs [])
structure X27 where
 x0 : Int → BA → OS
 x1 : D61 → Bool → Int → OS
def D27_0 (X : X27) : T25_0 := fun v0 v1 => X.x0 v0 v1
def D27_1 (X : X27) : T27_1 := fun v0 v1 v2 _ _ _ _ _ _ _ _ _ _ _ _ _ _ _ _ _ _ _ _ _ => X.x1 v0 v1 v2
def X27s (q : YF) (a : D33) (X : X27) : X27 := ⟨fun v0 v1 => b27_0 q a (D27_1 X) v0 v1,
 fun v0 v1 v2 => b27_1 q a (D27_0 X) v0 v1 v2 dd dd dd dd dd dd dd dd dd dd dd dd dd dd dd dd dd dd dd dd dd⟩
def X27n (q : YF) (a : D33) : Nat → X27
 | 0 => ⟨fun _ _ => none, fun _ _ _ => none⟩
 | n + 1 => X27s q a (X27n q a n)
theorem l27_0 (q : YF) (a : D33) (kk : PK S) : K27_0 a (P27 q kk) = b27_0 q a (K27_1 a kk) := by
 kernel_rfl
theorem l27_1 (q : YF) (a : D33) (kk : PK S) : K27_1 a (P27 q kk) = b27_1 q a (K27_0 a kk) := by
 kernel_rfl
theorem l27_in (q : YF) (a : D33) (kk : PK S) : BG q kk 27 Tryz.f27 [ag (e33 a)] = e27_in q a (K27_0 a kk) := by
 kernel_rfl
theorem h27 (q : YF) (a : D33) : ∀ n, K27_0 a (H27 q n) = D27_0 (X27n q a n) ∧ K27_1 a (H27 q n) = D27_1 (X27n q a n)
 | 0 => ⟨rfl, rfl⟩
 | n + 1 => by
  obtain ⟨h0, h1⟩ := h27 q a n
  exact ⟨(l27_0 q a (H27 q n)).trans (by rw [h1]; kernel_rfl), (l27_1 q a (H27 q n)).trans (by rw [h0]; kernel_rfl)⟩
theorem W27 (a : D33) (n : Nat) (x : S) (h : e27_in (regs O) a (D27_0 (X27n (regs O) a n)) = some x) : (W O).callT 27 [ag (e33 a)] = some x := by
 refine WG (fn := Tryz.f27) (by kernel_rfl) (by kernel_rfl) (n := n) ?_
 refine (l27_in (regs O) a (H27 (regs O) n)).trans ?_
 obtain ⟨h0, h1⟩ := h27 (regs O) a n
 rw [h0]
 exact h
abbrev P28 (q : YF) (kk : PK S) : PK S := PG q 28 Tryz.f28 kk
abbrev H28 (q : YF) : Nat → PK S := HG q 28 Tryz.f28
def s28_0 (a : D33) (v0 : Int) : St := mkSt [(8, ii (ofN a.fCommands.n)), (1, S.ptr 0 0), (9, ii v0), (7, S.t (T.rows 8 a.fCommands.n fun i => e122 (a.fCommands.get i)))] 1 [(0, B.box (List.map S.t (e33 a)))]
def K28_0 (a : D33) (kk : PK S) : Int → OS := fun v0=> kk 2 0 0 (s28_0 a v0)
def s28_1 (a : D33) (v0 : D122) (v1 : Bool) (v2 : Int) (u3 u4 : Bool) (u5 : D122) (u6 u7 : Int) (u8 : D122) (u9 : BA) (u10 : D122) (u11 : Int) (u12 u13 u14 u15 : S) (u16 : Bool) (u17 : S) (u18 : Bool) : St := mkSt [(16, bb u3), (8, ii (ofN a.fCommands.n)), (24, u12), (4, S.ptr 4 0), (20, bb u4), (12, ag (e122 u5)), (18, S.ptr 4 5), (10, bb u18), (26, u13), (22, u14), (14, ii u6), (1, S.ptr 0 0), (9, ii v2), (25, u15), (5, ii u7), (21, bb u16), (13, ag (e122 u8)), (19, ss u9), (11, S.pt (e122 u10)), (27, bb v1), (7, S.t (T.rows 8 a.fCommands.n fun i => e122 (a.fCommands.get i))), (23, u17), (15, ii u11)] 28 [(0, B.box (List.map S.t (e33 a))), (4, B.box (List.map S.t (e122 v0)))]
abbrev T28_1 : Type := D122 → Bool → Int → Bool → Bool → D122 → Int → Int → D122 → BA → D122 → Int → S → S → S → S → Bool → S → Bool → OS
def K28_1 (a : D33) (kk : PK S) : T28_1 := fun v0 v1 v2 u3 u4 u5 u6 u7 u8 u9 u10 u11 u12 u13 u14 u15 u16 u17 u18=> kk 7 11 11 (s28_1 a v0 v1 v2 u3 u4 u5 u6 u7 u8 u9 u10 u11 u12 u13 u14 u15 u16 u17 u18)
def b28_0 (q : YF) (a : D33) (k1 : T28_1) (v0 : Int) : OS := bif ltI v0 (ofN a.fCommands.n) then elemO v0 a.fCommands.n fun h => yC q 68 [ag (e122 (a.fCommands.get (Fin.mk v0.toNat h)))] fun y => bif !eqI (y.i 0) 0 then some (ii (y.i 0)) else bif !strEq (a.fCommands.get (Fin.mk v0.toNat h)).fPool (bs []) then yC q 64 [ag (e33 a), ss (a.fCommands.get (Fin.mk v0.toNat h)).fPool] fun y_1 => k1 (a.fCommands.get (Fin.mk v0.toNat h)) (!y_1.b 0) v0 (!eqI (y.i 0) 0) (!strEq (a.fCommands.get (Fin.mk v0.toNat h)).fPool (bs [])) (a.fCommands.get (Fin.mk v0.toNat h)) (y.i 0) (y.i 0) (a.fCommands.get (Fin.mk v0.toNat h)) (a.fCommands.get (Fin.mk v0.toNat h)).fPool (a.fCommands.get (Fin.mk v0.toNat h)) (y.i 0) (ss (a.fCommands.get (Fin.mk v0.toNat h)).fPool) (S.t (T.v (.bool !y_1.b 0))) (ag (e33 a)) (bb (y_1.b 0)) true (S.ptr 4 5) (ltI v0 (ofN a.fCommands.n)) else k1 (a.fCommands.get (Fin.mk v0.toNat h)) false v0 (!eqI (y.i 0) 0) (!strEq (a.fCommands.get (Fin.mk v0.toNat h)).fPool (bs [])) (a.fCommands.get (Fin.mk v0.toNat h)) (y.i 0) (y.i 0) (a.fCommands.get (Fin.mk v0.toNat h)) (a.fCommands.get (Fin.mk v0.toNat h)).fPool (a.fCommands.get (Fin.mk v0.toNat h)) (y.i 0) S.ud S.ud S.ud S.ud false S.ud (ltI v0 (ofN a.fCommands.n)) else some (ii 0)
def b28_1 (q : YF) (a : D33) (k0 : Int → OS) (v0 : D122) (v1 : Bool) (v2 : Int) (u3 u4 : Bool) (u5 : D122) (u6 u7 : Int) (u8 : D122) (u9 : BA) (u10 : D122) (u11 : Int) (u12 u13 u14 u15 : S) (u16 : Bool) (u17 : S) (u18 : Bool) : OS := bif v1 then some (ii 5) else yC q 65 [ag (e33 a), S.t (T.rows 3 v0.fOpts.n fun i => e47 (v0.fOpts.get i))] fun y => bif !y.b 0 then some (ii 5) else k0 (addI .i64 v2 1)
def e28_in (q : YF) (a : D33) (k0 : Int → OS) : OS := k0 0
structure X28 where
 x0 : Int → OS
 x1 : D122 → Bool → Int → OS
def D28_0 (X : X28) : Int → OS := fun v0 => X.x0 v0
def D28_1 (X : X28) : T28_1 := fun v0 v1 v2 _ _ _ _ _ _ _ _ _ _ _ _ _ _ _ _ => X.x1 v0 v1 v2
def X28s (q : YF) (a : D33) (X : X28) : X28 := ⟨fun v0 => b28_0 q a (D28_1 X) v0,
 fun v0 v1 v2 => b28_1 q a (D28_0 X) v0 v1 v2 dd dd dd dd dd dd dd dd dd dd dd dd dd dd dd dd⟩
def X28n (q : YF) (a : D33) : Nat → X28
 | 0 => ⟨fun _ => none, fun _ _ _ => none⟩
 | n + 1 => X28s q a (X28n q a n)
theorem l28_0 (q : YF) (a : D33) (kk : PK S) : K28_0 a (P28 q kk) = b28_0 q a (K28_1 a kk) := by
 kernel_rfl
theorem l28_1 (q : YF) (a : D33) (kk : PK S) : K28_1 a (P28 q kk) = b28_1 q a (K28_0 a kk) := by
 kernel_rfl
theorem l28_in (q : YF) (a : D33) (kk : PK S) : BG q kk 28 Tryz.f28 [ag (e33 a)] = e28_in q a (K28_0 a kk) := by
 kernel_rfl
theorem h28 (q : YF) (a : D33) : ∀ n, K28_0 a (H28 q n) = D28_0 (X28n q a n) ∧ K28_1 a (H28 q n) = D28_1 (X28n q a n)
 | 0 => ⟨rfl, rfl⟩
 | n + 1 => by
  obtain ⟨h0, h1⟩ := h28 q a n
  exact ⟨(l28_0 q a (H28 q n)).trans (by rw [h1]; kernel_rfl), (l28_1 q a (H28 q n)).trans (by rw [h0]; kernel_rfl)⟩
theorem W28 (a : D33) (n : Nat) (x : S) (h : e28_in (regs O) a (D28_0 (X28n (regs O) a n)) = some x) : (W O).callT 28 [ag (e33 a)] = some x := by
 refine WG (fn := Tryz.f28) (by kernel_rfl) (by kernel_rfl) (n := n) ?_
 refine (l28_in (regs O) a (H28 (regs O) n)).trans ?_
 obtain ⟨h0, h1⟩ := h28 (regs O) a n
 rw [h0]
 exact h
end
end Go.Proofs.YtonkoellfaopiaaGreatDoor.H
