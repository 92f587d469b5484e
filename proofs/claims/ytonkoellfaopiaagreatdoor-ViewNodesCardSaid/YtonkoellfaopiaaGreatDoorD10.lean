import Derived.Test.YtonkoellfaopiaaGreatDoorD9
set_option linter.unusedSimpArgs false
set_option linter.unusedVariables false
set_option linter.unusedSectionVars false
namespace Go.Proofs.YtonkoellfaopiaaGreatDoor.H
open Go
noncomputable section
abbrev P9 (q:YF) (kk:PK S):PK S:=PG q 9 Tryz.f9 kk
abbrev H9 (q:YF):Nat→PK S:=HG q 9 Tryz.f9
abbrev T9_0:Type:=Bool→Bool→Bool→S→S→Bool→S→S→OS
def abb (a:aP) (kk:PK S):T9_0:=fun v0 u1 u2 u3 u4 u5 u6 u7=> kk 2 11 6 (aJ [(0,ag (bI a)),(16,u3),(8,S.ptr 0 1),(12,bb u1),(2,ii 0),(18,u4),(10,S.ptr 0 0),(14,bb u5),(1,S.ptr 0 0),(17,u6),(9,S.agg [ii a.aX,ii a.aT,ii a.aQ,ii a.aO,ii a.aG]),(13,bb u2),(3,S.ptr 4 0),(19,bb v0),(11,ii a.fA),(15,u7)] 40 [(0,B.box (List.map S.t (bI a))),(4,B.box [ii a.aX,ii a.aT,ii a.aQ,ii a.aO,ii a.aG])])
abbrev T9_1:Type:=Bool→S→Bool→S→Bool→S→Bool→Bool→S→S→Bool→S→S→S→OS
def acg (a:aP) (kk:PK S):T9_1:=fun v0 u1 u2 u3 u4 u5 u6 u7 u8 u9 u10 u11 u12 u13=> kk 2 17 6 (aJ [(0,ag (bI a)),(16,u1),(8,S.ptr 0 1),(24,u9),(20,bb u10),(12,bb u2),(2,ii 0),(18,u3),(10,S.ptr 0 0),(22,u11),(14,bb u4),(1,S.ptr 0 0),(17,u5),(9,S.agg [ii a.aX,ii a.aT,ii a.aQ,ii a.aO,ii a.aG]),(25,bb v0),(21,u12),(13,bb u6),(3,S.ptr 4 0),(19,bb u7),(11,ii a.fA),(23,u13),(15,u8)] 40 [(0,B.box (List.map S.t (bI a))),(4,B.box [ii a.aX,ii a.aT,ii a.aQ,ii a.aO,ii a.aG])])
abbrev T9_2:Type:=Bool→S→S→Bool→Bool→S→S→Bool→S→Bool→S→Bool→Bool→S→S→S→Bool→S→S→S→OS
def Zk (a:aP) (kk:PK S):T9_2:=fun v0 u1 u2 u3 u4 u5 u6 u7 u8 u9 u10 u11 u12 u13 u14 u15 u16 u17 u18 u19=> kk 2 23 6 (aJ [(0,ag (bI a)),(16,u1),(8,S.ptr 0 1),(24,u2),(20,bb u3),(12,bb u4),(28,u15),(2,ii 0),(18,u5),(10,S.ptr 0 0),(26,bb u16),(22,u6),(14,bb u7),(30,u17),(1,S.ptr 0 0),(17,u8),(9,S.agg [ii a.aX,ii a.aT,ii a.aQ,ii a.aO,ii a.aG]),(25,bb u9),(21,u10),(13,bb u11),(29,u18),(3,S.ptr 4 0),(19,bb u12),(11,ii a.fA),(27,u19),(23,u13),(15,u14),(31,bb v0)] 40 [(0,B.box (List.map S.t (bI a))),(4,B.box [ii a.aX,ii a.aT,ii a.aQ,ii a.aO,ii a.aG])])
abbrev T9_3:Type:=Bool→S→S→Bool→Bool→S→S→Bool→S→Bool→S→S→Bool→S→Bool→S→Bool→S→S→S→Bool→Bool→S→S→S→S→OS
def abp (a:aP) (kk:PK S):T9_3:=fun v0 u1 u2 u3 u4 u5 u6 u7 u8 u9 u10 u11 u12 u13 u14 u15 u16 u17 u18 u19 u20 u21 u22 u23 u24 u25=> kk 2 29 6 (aJ [(0,ag (bI a)),(32,bb u21),(16,u1),(8,S.ptr 0 1),(24,u2),(36,u22),(20,bb u3),(12,bb u4),(28,u5),(2,ii 0),(34,u23),(18,u6),(10,S.ptr 0 0),(26,bb u7),(22,u8),(14,bb u9),(30,u10),(1,S.ptr 0 0),(33,u24),(17,u11),(9,S.agg [ii a.aX,ii a.aT,ii a.aQ,ii a.aO,ii a.aG]),(25,bb u12),(37,bb v0),(21,u13),(13,bb u14),(29,u15),(3,S.ptr 4 0),(35,u25),(19,bb u16),(11,ii a.fA),(27,u17),(23,u18),(15,u19),(31,bb u20)] 40 [(0,B.box (List.map S.t (bI a))),(4,B.box [ii a.aX,ii a.aT,ii a.aQ,ii a.aO,ii a.aG])])
abbrev T9_4:Type:=Bool→Bool→S→Bool→S→Int→S→Bool→Bool→S→S→S→Bool→Bool→S→Bool→Int→S→S→S→Bool→Bool→Bool→S→Bool→S→S→Bool→Bool→S→S→S→Int→Bool→S→S→Bool→S→S→OS
def abH (a:aP) (kk:PK S):T9_4:=fun v0 u1 u2 u3 u4 u5 u6 u7 u8 u9 u10 u11 u12 u13 u14 u15 u16 u17 u18 u19 u20 u21 u22 u23 u24 u25 u26 u27 u28 u29 u30 u31 u32 u33 u34 u35 u36 u37 u38=> kk 7 11 46 (aJ [(0,ag (bI a)),(32,bb u1),(16,u2),(48,bb u3),(8,S.ptr 0 1),(40,ii a.aG),(24,u4),(56,u34),(4,ii u5),(36,u6),(20,bb u7),(52,ii (ay a.an.n)),(12,bb u8),(44,S.ptr 0 6),(28,u9),(2,ii 0),(34,u10),(18,u11),(50,S.ptr 0 7),(10,S.ptr 0 0),(42,bb u12),(26,bb u13),(58,u35),(38,bb false),(22,u14),(54,bb u36),(14,bb u15),(46,ii u16),(30,u17),(1,S.ptr 0 0),(33,u18),(17,u19),(9,S.agg [ii a.aX,ii a.aT,ii a.aQ,ii a.aO,ii a.aG]),(41,bb u20),(25,bb u21),(57,u37),(37,bb u22),(21,u23),(53,bb (bl (ay a.an.n) 24)),(13,bb u24),(45,S.t (T.rows 7 a.aw.n fun i=>bk (a.aw.get i))),(29,u25),(3,S.ptr 4 0),(35,u26),(19,bb u27),(51,S.t (T.rows 12 a.an.n fun i=>jv (a.an.get i))),(11,ii a.fA),(43,bb u28),(27,u29),(59,bb v0),(39,S.ptr 4 4),(23,u30),(55,u38),(15,u31),(47,ii u32),(31,bb u33)] 86 [(0,B.box (List.map S.t (bI a))),(4,B.box [ii a.aX,ii a.aT,ii a.aQ,ii a.aO,ii a.aG])])
abbrev T9_5:Type:=Bool→Bool→S→Bool→S→S→Int→S→Bool→Bool→S→S→S→Bool→Bool→S→S→Bool→Bool→Int→S→S→S→Bool→Bool→S→Bool→S→Bool→S→S→Bool→Bool→S→Bool→S→S→S→Int→Bool→S→Bool→S→S→S→OS
def abF (a:aP) (kk:PK S):T9_5:=fun v0 u1 u2 u3 u4 u5 u6 u7 u8 u9 u10 u11 u12 u13 u14 u15 u16 u17 u18 u19 u20 u21 u22 u23 u24 u25 u26 u27 u28 u29 u30 u31 u32 u33 u34 u35 u36 u37 u38 u39 u40 u41 u42 u43 u44=> kk 7 17 46 (aJ [(0,ag (bI a)),(64,u40),(32,bb u1),(16,u2),(48,bb u3),(8,S.ptr 0 1),(40,ii a.aG),(24,u4),(56,u5),(4,ii u6),(36,u7),(20,bb u8),(52,ii (ay a.an.n)),(12,bb u9),(44,S.ptr 0 6),(28,u10),(60,bb u41),(2,ii 0),(34,u11),(18,u12),(50,S.ptr 0 7),(10,S.ptr 0 0),(42,bb u13),(26,bb u14),(58,u15),(38,bb false),(22,u16),(54,bb u17),(14,bb u18),(46,ii u19),(30,u20),(62,u42),(1,S.ptr 0 0),(65,bb v0),(33,u21),(17,u22),(9,S.agg [ii a.aX,ii a.aT,ii a.aQ,ii a.aO,ii a.aG]),(41,bb u23),(25,bb u24),(57,u25),(37,bb u26),(21,u27),(53,bb (bl (ay a.an.n) 24)),(13,bb u28),(45,S.t (T.rows 7 a.aw.n fun i=>bk (a.aw.get i))),(29,u29),(61,u43),(3,S.ptr 4 0),(35,u30),(19,bb u31),(51,S.t (T.rows 12 a.an.n fun i=>jv (a.an.get i))),(11,ii a.fA),(43,bb u32),(27,u33),(59,bb u34),(39,S.ptr 4 4),(23,u35),(55,u36),(15,u37),(47,ii u38),(31,bb u39),(63,u44)] 86 [(0,B.box (List.map S.t (bI a))),(4,B.box [ii a.aX,ii a.aT,ii a.aQ,ii a.aO,ii a.aG])])
abbrev T9_6:Type:=Bool→S→Bool→S→Bool→S→S→Int→S→Bool→Bool→S→Bool→S→S→Bool→Bool→S→S→Bool→Bool→Int→S→S→Bool→S→S→Bool→Bool→S→Bool→S→Bool→S→S→S→Bool→Bool→S→Bool→S→S→S→Int→Bool→S→S→Bool→S→S→S→OS
def acp (a:aP) (kk:PK S):T9_6:=fun v0 u1 u2 u3 u4 u5 u6 u7 u8 u9 u10 u11 u12 u13 u14 u15 u16 u17 u18 u19 u20 u21 u22 u23 u24 u25 u26 u27 u28 u29 u30 u31 u32 u33 u34 u35 u36 u37 u38 u39 u40 u41 u42 u43 u44 u45 u46 u47 u48 u49 u50=> kk 7 23 46 (aJ [(0,ag (bI a)),(64,u1),(32,bb u2),(16,u3),(48,bb u4),(8,S.ptr 0 1),(40,ii a.aG),(24,u5),(56,u6),(4,ii u7),(68,u46),(36,u8),(20,bb u9),(52,ii (ay a.an.n)),(12,bb u10),(44,S.ptr 0 6),(28,u11),(60,bb u12),(2,ii 0),(66,bb u47),(34,u13),(18,u14),(50,S.ptr 0 7),(10,S.ptr 0 0),(42,bb u15),(26,bb u16),(58,u17),(70,u48),(38,bb false),(22,u18),(54,bb u19),(14,bb u20),(46,ii u21),(30,u22),(62,u23),(1,S.ptr 0 0),(65,bb u24),(33,u25),(17,u26),(9,S.agg [ii a.aX,ii a.aT,ii a.aQ,ii a.aO,ii a.aG]),(41,bb u27),(25,bb u28),(57,u29),(69,u49),(37,bb u30),(21,u31),(53,bb (bl (ay a.an.n) 24)),(13,bb u32),(45,S.t (T.rows 7 a.aw.n fun i=>bk (a.aw.get i))),(29,u33),(61,u34),(3,S.ptr 4 0),(67,u50),(35,u35),(19,bb u36),(51,S.t (T.rows 12 a.an.n fun i=>jv (a.an.get i))),(11,ii a.fA),(43,bb u37),(27,u38),(59,bb u39),(71,bb v0),(39,S.ptr 4 4),(23,u40),(55,u41),(15,u42),(47,ii u43),(31,bb u44),(63,u45)] 86 [(0,B.box (List.map S.t (bI a))),(4,B.box [ii a.aX,ii a.aT,ii a.aQ,ii a.aO,ii a.aG])])
abbrev T9_7:Type:=Bool→S→Bool→S→Bool→S→S→Int→S→S→Bool→Bool→S→Bool→Bool→S→S→Bool→Bool→S→S→S→Bool→Bool→Int→S→S→Bool→S→S→Bool→Bool→S→S→Bool→S→Bool→S→S→S→S→Bool→Bool→S→Bool→Bool→S→S→S→Int→Bool→S→Bool→S→S→S→S→OS
def ZO (a:aP) (kk:PK S):T9_7:=fun v0 u1 u2 u3 u4 u5 u6 u7 u8 u9 u10 u11 u12 u13 u14 u15 u16 u17 u18 u19 u20 u21 u22 u23 u24 u25 u26 u27 u28 u29 u30 u31 u32 u33 u34 u35 u36 u37 u38 u39 u40 u41 u42 u43 u44 u45 u46 u47 u48 u49 u50 u51 u52 u53 u54 u55 u56=> kk 7 29 46 (aJ [(0,ag (bI a)),(64,u1),(32,bb u2),(16,u3),(48,bb u4),(8,S.ptr 0 1),(72,bb u52),(40,ii a.aG),(24,u5),(56,u6),(4,ii u7),(68,u8),(36,u9),(20,bb u10),(52,ii (ay a.an.n)),(12,bb u11),(76,u53),(44,S.ptr 0 6),(28,u12),(60,bb u13),(2,ii 0),(66,bb u14),(34,u15),(18,u16),(50,S.ptr 0 7),(10,S.ptr 0 0),(74,u54),(42,bb u17),(26,bb u18),(58,u19),(70,u20),(38,bb false),(22,u21),(54,bb u22),(14,bb u23),(46,ii u24),(30,u25),(62,u26),(1,S.ptr 0 0),(65,bb u27),(33,u28),(17,u29),(9,S.agg [ii a.aX,ii a.aT,ii a.aQ,ii a.aO,ii a.aG]),(73,u55),(41,bb u30),(25,bb u31),(57,u32),(69,u33),(37,bb u34),(21,u35),(53,bb (bl (ay a.an.n) 24)),(13,bb u36),(77,bb v0),(45,S.t (T.rows 7 a.aw.n fun i=>bk (a.aw.get i))),(29,u37),(61,u38),(3,S.ptr 4 0),(67,u39),(35,u40),(19,bb u41),(51,S.t (T.rows 12 a.an.n fun i=>jv (a.an.get i))),(11,ii a.fA),(75,u56),(43,bb u42),(27,u43),(59,bb u44),(71,bb u45),(39,S.ptr 4 4),(23,u46),(55,u47),(15,u48),(47,ii u49),(31,bb u50),(63,u51)] 86 [(0,B.box (List.map S.t (bI a))),(4,B.box [ii a.aX,ii a.aT,ii a.aQ,ii a.aO,ii a.aG])])
abbrev T9_8:Type:=Bool→S→Bool→S→Bool→Bool→S→S→Int→S→S→Bool→Bool→S→S→Bool→Bool→S→S→S→Bool→Bool→S→S→S→Bool→Bool→Int→S→S→Bool→S→S→S→Bool→Bool→S→S→Bool→S→Bool→Bool→S→S→S→S→Bool→S→Bool→S→Bool→Bool→S→S→S→Int→Bool→S→S→S→Bool→S→S→OS
def YN (a:aP) (kk:PK S):T9_8:=fun v0 u1 u2 u3 u4 u5 u6 u7 u8 u9 u10 u11 u12 u13 u14 u15 u16 u17 u18 u19 u20 u21 u22 u23 u24 u25 u26 u27 u28 u29 u30 u31 u32 u33 u34 u35 u36 u37 u38 u39 u40 u41 u42 u43 u44 u45 u46 u47 u48 u49 u50 u51 u52 u53 u54 u55 u56 u57 u58 u59 u60 u61 u62=> kk 7 35 46 (aJ [(0,ag (bI a)),(64,u1),(32,bb u2),(16,u3),(80,u58),(48,bb u4),(8,S.ptr 0 1),(72,bb u5),(40,ii a.aG),(24,u6),(56,u7),(4,ii u8),(68,u9),(36,u10),(20,bb u11),(52,ii (ay a.an.n)),(12,bb u12),(76,u13),(44,S.ptr 0 6),(28,u14),(60,bb u15),(2,ii 0),(66,bb u16),(34,u17),(18,u18),(82,u59),(50,S.ptr 0 7),(10,S.ptr 0 0),(74,u19),(42,bb u20),(26,bb u21),(58,u22),(70,u23),(38,bb false),(22,u24),(54,bb u25),(14,bb u26),(78,bb u60),(46,ii u27),(30,u28),(62,u29),(1,S.ptr 0 0),(65,bb u30),(33,u31),(17,u32),(81,u61),(9,S.agg [ii a.aX,ii a.aT,ii a.aQ,ii a.aO,ii a.aG]),(73,u33),(41,bb u34),(25,bb u35),(57,u36),(69,u37),(37,bb u38),(21,u39),(53,bb (bl (ay a.an.n) 24)),(13,bb u40),(77,bb u41),(45,S.t (T.rows 7 a.aw.n fun i=>bk (a.aw.get i))),(29,u42),(61,u43),(3,S.ptr 4 0),(67,u44),(35,u45),(19,bb u46),(83,bb v0),(51,S.t (T.rows 12 a.an.n fun i=>jv (a.an.get i))),(11,ii a.fA),(75,u47),(43,bb u48),(27,u49),(59,bb u50),(71,bb u51),(39,S.ptr 4 4),(23,u52),(55,u53),(15,u54),(79,u62),(47,ii u55),(31,bb u56),(63,u57)] 86 [(0,B.box (List.map S.t (bI a))),(4,B.box [ii a.aX,ii a.aT,ii a.aQ,ii a.aO,ii a.aG])])
def YH (a:aP) (kk:PK S):OS:=kk 10 0 0 (aJ [(92,ii 0),(90,S.sl 1 6),(1,S.ptr 0 0),(91,ii (ay 6))] 2 [(0,B.box (List.map S.t (bI a))),(1,B.fO false 1 6 [S.t (T.v (.func (Go.Fn.func 25) #[] #[])),S.t (T.v (.func (Go.Fn.func 26) #[] #[])),S.t (T.v (.func (Go.Fn.func 27) #[] #[])),S.t (T.v (.func (Go.Fn.func 28) #[] #[])),S.t (T.v (.func (Go.Fn.func 29) #[] #[])),S.t (T.v (.func (Go.Fn.func 30) #[] #[]))])])
def Qf (a:aP) (kk:PK S):OS:=kk 10 0 0 (aJ [(92,ii 1),(90,S.sl 1 6),(1,S.ptr 0 0),(91,ii (ay 6))] 2 [(0,B.box (List.map S.t (bI a))),(1,B.fO false 1 6 [S.t (T.v (.func (Go.Fn.func 25) #[] #[])),S.t (T.v (.func (Go.Fn.func 26) #[] #[])),S.t (T.v (.func (Go.Fn.func 27) #[] #[])),S.t (T.v (.func (Go.Fn.func 28) #[] #[])),S.t (T.v (.func (Go.Fn.func 29) #[] #[])),S.t (T.v (.func (Go.Fn.func 30) #[] #[]))])])
def Rp (a:aP) (kk:PK S):OS:=kk 10 0 0 (aJ [(92,ii 2),(90,S.sl 1 6),(1,S.ptr 0 0),(91,ii (ay 6))] 2 [(0,B.box (List.map S.t (bI a))),(1,B.fO false 1 6 [S.t (T.v (.func (Go.Fn.func 25) #[] #[])),S.t (T.v (.func (Go.Fn.func 26) #[] #[])),S.t (T.v (.func (Go.Fn.func 27) #[] #[])),S.t (T.v (.func (Go.Fn.func 28) #[] #[])),S.t (T.v (.func (Go.Fn.func 29) #[] #[])),S.t (T.v (.func (Go.Fn.func 30) #[] #[]))])])
def Tz (a:aP) (kk:PK S):OS:=kk 10 0 0 (aJ [(92,ii 3),(90,S.sl 1 6),(1,S.ptr 0 0),(91,ii (ay 6))] 2 [(0,B.box (List.map S.t (bI a))),(1,B.fO false 1 6 [S.t (T.v (.func (Go.Fn.func 25) #[] #[])),S.t (T.v (.func (Go.Fn.func 26) #[] #[])),S.t (T.v (.func (Go.Fn.func 27) #[] #[])),S.t (T.v (.func (Go.Fn.func 28) #[] #[])),S.t (T.v (.func (Go.Fn.func 29) #[] #[])),S.t (T.v (.func (Go.Fn.func 30) #[] #[]))])])
def S4 (a:aP) (kk:PK S):OS:=kk 10 0 0 (aJ [(92,ii 4),(90,S.sl 1 6),(1,S.ptr 0 0),(91,ii (ay 6))] 2 [(0,B.box (List.map S.t (bI a))),(1,B.fO false 1 6 [S.t (T.v (.func (Go.Fn.func 25) #[] #[])),S.t (T.v (.func (Go.Fn.func 26) #[] #[])),S.t (T.v (.func (Go.Fn.func 27) #[] #[])),S.t (T.v (.func (Go.Fn.func 28) #[] #[])),S.t (T.v (.func (Go.Fn.func 29) #[] #[])),S.t (T.v (.func (Go.Fn.func 30) #[] #[]))])])
def O_ (a:aP) (kk:PK S):OS:=kk 10 0 0 (aJ [(92,ii 5),(90,S.sl 1 6),(1,S.ptr 0 0),(91,ii (ay 6))] 2 [(0,B.box (List.map S.t (bI a))),(1,B.fO false 1 6 [S.t (T.v (.func (Go.Fn.func 25) #[] #[])),S.t (T.v (.func (Go.Fn.func 26) #[] #[])),S.t (T.v (.func (Go.Fn.func 27) #[] #[])),S.t (T.v (.func (Go.Fn.func 28) #[] #[])),S.t (T.v (.func (Go.Fn.func 29) #[] #[])),S.t (T.v (.func (Go.Fn.func 30) #[] #[]))])])
def S1 (a:aP) (kk:PK S):OS:=kk 10 0 0 (aJ [(92,ii 6),(90,S.sl 1 6),(1,S.ptr 0 0),(91,ii (ay 6))] 2 [(0,B.box (List.map S.t (bI a))),(1,B.fO false 1 6 [S.t (T.v (.func (Go.Fn.func 25) #[] #[])),S.t (T.v (.func (Go.Fn.func 26) #[] #[])),S.t (T.v (.func (Go.Fn.func 27) #[] #[])),S.t (T.v (.func (Go.Fn.func 28) #[] #[])),S.t (T.v (.func (Go.Fn.func 29) #[] #[])),S.t (T.v (.func (Go.Fn.func 30) #[] #[]))])])
def acb (q:YF) (a:aP) (k1:T9_1):T9_0:=fun v0 u1 u2 u3 u4 u5 u6 u7=>bif v0 then k1 true u3 u1 u4 u5 u6 u2 v0 u7 S.ud true S.ud S.ud S.ud else yC q 23 [ii a.aT] fun y=>k1 (!y.b 0) u3 u1 u4 u5 u6 u2 v0 u7 (S.t (T.v (.bool !y.b 0))) false (ii a.aT) (S.ptr 4 1) (bb (y.b 0))
def Zs (q:YF) (a:aP) (k2:T9_2):T9_1:=fun v0 u1 u2 u3 u4 u5 u6 u7 u8 u9 u10 u11 u12 u13=>bif v0 then k2 true u1 u9 u10 u2 u3 u11 u4 u5 v0 u12 u6 u7 u13 u8 S.ud true S.ud S.ud S.ud else yC q 23 [ii a.aQ] fun y=>k2 (!y.b 0) u1 u9 u10 u2 u3 u11 u4 u5 v0 u12 u6 u7 u13 u8 (ii a.aQ) false (S.t (T.v (.bool !y.b 0))) (bb (y.b 0)) (S.ptr 4 2)
def ab5 (q:YF) (a:aP) (k3:T9_3):T9_2:=fun v0 u1 u2 u3 u4 u5 u6 u7 u8 u9 u10 u11 u12 u13 u14 u15 u16 u17 u18 u19=>bif v0 then k3 true u1 u2 u3 u4 u15 u5 u16 u6 u7 u17 u8 u9 u10 u11 u18 u12 u19 u13 u14 v0 true S.ud S.ud S.ud S.ud else yC q 23 [ii a.aO] fun y=>k3 (!y.b 0) u1 u2 u3 u4 u15 u5 u16 u6 u7 u17 u8 u9 u10 u11 u18 u12 u19 u13 u14 v0 false (S.t (T.v (.bool !y.b 0))) (ii a.aO) (S.ptr 4 3) (bb (y.b 0))
def acu (q:YF) (a:aP) (k4:T9_4):T9_3:=fun v0 u1 u2 u3 u4 u5 u6 u7 u8 u9 u10 u11 u12 u13 u14 u15 u16 u17 u18 u19 u20 u21 u22 u23 u24 u25=>bif v0 then some (ii 1) else yC q 23 [ii a.aG] fun y=>bif !y.b 0 then some (ii 1) else yC q 24 [S.t (T.rows 7 a.aw.n fun i=>bk (a.aw.get i))] fun y_1=>bif !aR (y_1.i 0) 0 then some (ii (y_1.i 0)) else bif bl (ay a.an.n) 24 then k4 true u21 u1 (!aR (y_1.i 0) 0) u2 (y_1.i 0) u22 u3 u4 u5 u23 u6 (!y.b 0) u7 u8 u9 (y_1.i 0) u10 u24 u11 (y.b 0) u12 v0 u13 u14 u15 u25 u16 (!y.b 0) u17 u18 u19 (y_1.i 0) u20 S.ud S.ud true S.ud S.ud else k4 (bl (ay a.aW.n) 4) u21 u1 (!aR (y_1.i 0) 0) u2 (y_1.i 0) u22 u3 u4 u5 u23 u6 (!y.b 0) u7 u8 u9 (y_1.i 0) u10 u24 u11 (y.b 0) u12 v0 u13 u14 u15 u25 u16 (!y.b 0) u17 u18 u19 (y_1.i 0) u20 (S.t (T.rows 10 a.aW.n fun i=>jd (a.aW.get i))) (bb (bl (ay a.aW.n) 4)) false (ii (ay a.aW.n)) (S.ptr 0 8)
def Y5 (q:YF) (a:aP) (k5:T9_5):T9_4:=fun v0 u1 u2 u3 u4 u5 u6 u7 u8 u9 u10 u11 u12 u13 u14 u15 u16 u17 u18 u19 u20 u21 u22 u23 u24 u25 u26 u27 u28 u29 u30 u31 u32 u33 u34 u35 u36 u37 u38=>bif v0 then k5 true u1 u2 u3 u4 u34 u5 u6 u7 u8 u9 u10 u11 u12 u13 u35 u14 u36 u15 u16 u17 u18 u19 u20 u21 u37 u22 u23 u24 u25 u26 u27 u28 u29 v0 u30 u38 u31 u32 u33 S.ud true S.ud S.ud S.ud else k5 (bl (ay a.ae.n) 16) u1 u2 u3 u4 u34 u5 u6 u7 u8 u9 u10 u11 u12 u13 u35 u14 u36 u15 u16 u17 u18 u19 u20 u21 u37 u22 u23 u24 u25 u26 u27 u28 u29 v0 u30 u38 u31 u32 u33 (bb (bl (ay a.ae.n) 16)) false (S.t (T.rows 15 a.ae.n fun i=>dp (a.ae.get i))) (S.ptr 0 9) (ii (ay a.ae.n))
def aag (q:YF) (a:aP) (k6:T9_6):T9_5:=fun v0 u1 u2 u3 u4 u5 u6 u7 u8 u9 u10 u11 u12 u13 u14 u15 u16 u17 u18 u19 u20 u21 u22 u23 u24 u25 u26 u27 u28 u29 u30 u31 u32 u33 u34 u35 u36 u37 u38 u39 u40 u41 u42 u43 u44=>bif v0 then k6 true u40 u1 u2 u3 u4 u5 u6 u7 u8 u9 u10 u41 u11 u12 u13 u14 u15 u16 u17 u18 u19 u20 u42 v0 u21 u22 u23 u24 u25 u26 u27 u28 u29 u43 u30 u31 u32 u33 u34 u35 u36 u37 u38 u39 u44 S.ud true S.ud S.ud S.ud else k6 (bl (ay a.au.n) 1) u40 u1 u2 u3 u4 u5 u6 u7 u8 u9 u10 u41 u11 u12 u13 u14 u15 u16 u17 u18 u19 u20 u42 v0 u21 u22 u23 u24 u25 u26 u27 u28 u29 u43 u30 u31 u32 u33 u34 u35 u36 u37 u38 u39 u44 (S.t (T.rows 8 a.au.n fun i=>eN (a.au.get i))) false (bb (bl (ay a.au.n) 1)) (ii (ay a.au.n)) (S.ptr 0 10)
def aa7 (q:YF) (a:aP) (k7:T9_7):T9_6:=fun v0 u1 u2 u3 u4 u5 u6 u7 u8 u9 u10 u11 u12 u13 u14 u15 u16 u17 u18 u19 u20 u21 u22 u23 u24 u25 u26 u27 u28 u29 u30 u31 u32 u33 u34 u35 u36 u37 u38 u39 u40 u41 u42 u43 u44 u45 u46 u47 u48 u49 u50=>bif v0 then k7 true u1 u2 u3 u4 u5 u6 u7 u46 u8 u9 u10 u11 u12 u47 u13 u14 u15 u16 u17 u48 u18 u19 u20 u21 u22 u23 u24 u25 u26 u27 u28 u29 u49 u30 u31 u32 u33 u34 u50 u35 u36 u37 u38 u39 v0 u40 u41 u42 u43 u44 u45 true S.ud S.ud S.ud S.ud else k7 (bl (ay a.ax.n) 72) u1 u2 u3 u4 u5 u6 u7 u46 u8 u9 u10 u11 u12 u47 u13 u14 u15 u16 u17 u48 u18 u19 u20 u21 u22 u23 u24 u25 u26 u27 u28 u29 u49 u30 u31 u32 u33 u34 u50 u35 u36 u37 u38 u39 v0 u40 u41 u42 u43 u44 u45 false (bb (bl (ay a.ax.n) 72)) (S.t (T.rows 4 a.ax.n fun i=>qB (a.ax.get i))) (S.ptr 0 11) (ii (ay a.ax.n))
def Uu (q:YF) (a:aP) (k8:T9_8):T9_7:=fun v0 u1 u2 u3 u4 u5 u6 u7 u8 u9 u10 u11 u12 u13 u14 u15 u16 u17 u18 u19 u20 u21 u22 u23 u24 u25 u26 u27 u28 u29 u30 u31 u32 u33 u34 u35 u36 u37 u38 u39 u40 u41 u42 u43 u44 u45 u46 u47 u48 u49 u50 u51 u52 u53 u54 u55 u56=>bif v0 then k8 true u1 u2 u3 u4 u52 u5 u6 u7 u8 u9 u10 u11 u53 u12 u13 u14 u15 u16 u54 u17 u18 u19 u20 u21 u22 u23 u24 u25 u26 u27 u28 u29 u55 u30 u31 u32 u33 u34 u35 u36 v0 u37 u38 u39 u40 u41 u56 u42 u43 u44 u45 u46 u47 u48 u49 u50 u51 S.ud S.ud true S.ud S.ud else k8 (bl (ay a.ai.n) 64) u1 u2 u3 u4 u52 u5 u6 u7 u8 u9 u10 u11 u53 u12 u13 u14 u15 u16 u54 u17 u18 u19 u20 u21 u22 u23 u24 u25 u26 u27 u28 u29 u55 u30 u31 u32 u33 u34 u35 u36 v0 u37 u38 u39 u40 u41 u56 u42 u43 u44 u45 u46 u47 u48 u49 u50 u51 (S.t (T.rows 7 a.ai.n fun i=>kQ (a.ai.get i))) (bb (bl (ay a.ai.n) 64)) false (ii (ay a.ai.n)) (S.ptr 0 12)
def WR (q:YF) (a:aP) (k9:OS):T9_8:=fun v0 u1 u2 u3 u4 u5 u6 u7 u8 u9 u10 u11 u12 u13 u14 u15 u16 u17 u18 u19 u20 u21 u22 u23 u24 u25 u26 u27 u28 u29 u30 u31 u32 u33 u34 u35 u36 u37 u38 u39 u40 u41 u42 u43 u44 u45 u46 u47 u48 u49 u50 u51 u52 u53 u54 u55 u56 u57 u58 u59 u60 u61 u62=>bif v0 then some (ii 3) else bif bl (ay a.eo.n) 32 then some (ii 3) else k9
def aco (q:YF) (a:aP) (k10:OS):OS:=yC q 25 [ag (bI a)] fun y=>bif !aR (y.i 0) 0 then some (ii (y.i 0)) else k10
def QC (q:YF) (a:aP) (k11:OS):OS:=yC q 26 [ag (bI a)] fun y=>bif !aR (y.i 0) 0 then some (ii (y.i 0)) else k11
def S3 (q:YF) (a:aP) (k12:OS):OS:=yC q 27 [ag (bI a)] fun y=>bif !aR (y.i 0) 0 then some (ii (y.i 0)) else k12
def Sr (q:YF) (a:aP) (k13:OS):OS:=yC q 28 [ag (bI a)] fun y=>bif !aR (y.i 0) 0 then some (ii (y.i 0)) else k13
def T7 (q:YF) (a:aP) (k14:OS):OS:=yC q 29 [ag (bI a)] fun y=>bif !aR (y.i 0) 0 then some (ii (y.i 0)) else k14
def Pl (q:YF) (a:aP) (k15:OS):OS:=yC q 30 [ag (bI a)] fun y=>bif !aR (y.i 0) 0 then some (ii (y.i 0)) else k15
def M9 (q:YF) (a:aP):OS:=some (ii 0)
def RI (q:YF) (a:aP) (k0:T9_0):OS:=yC q 22 [ii a.fA] fun y=>bif !y.b 0 then k0 true (y.b 0) (!y.b 0) S.ud S.ud true S.ud S.ud else yC q 23 [ii a.aX] fun y_1=>k0 (!y_1.b 0) (y.b 0) (!y.b 0) (ii a.aX) (S.t (T.v (.bool !y_1.b 0))) false (bb (y_1.b 0)) (S.ptr 4 0)
structure X9 where
 x0:Bool→OS
 x1:Bool→OS
 x2:Bool→OS
 x3:Bool→OS
 x4:Bool→OS
 x5:Bool→OS
 x6:Bool→OS
 x7:Bool→OS
 x8:Bool→OS
 x9:OS
 M4:OS
 x11:OS
 x12:OS
 x13:OS
 x14:OS
 x15:OS
def abx (X:X9):T9_0:=fun v0 _ _ _ _ _ _ _=>X.x0 v0
def aaN (X:X9):T9_1:=fun v0 _ _ _ _ _ _ _ _ _ _ _ _ _=>X.x1 v0
def acj (X:X9):T9_2:=fun v0 _ _ _ _ _ _ _ _ _ _ _ _ _ _ _ _ _ _ _=>X.x2 v0
def YI (X:X9):T9_3:=fun v0 _ _ _ _ _ _ _ _ _ _ _ _ _ _ _ _ _ _ _ _ _ _ _ _ _=>X.x3 v0
def abd (X:X9):T9_4:=fun v0 _ _ _ _ _ _ _ _ _ _ _ _ _ _ _ _ _ _ _ _ _ _ _ _ _ _ _ _ _ _ _ _ _ _ _ _ _ _=>X.x4 v0
def abD (X:X9):T9_5:=fun v0 _ _ _ _ _ _ _ _ _ _ _ _ _ _ _ _ _ _ _ _ _ _ _ _ _ _ _ _ _ _ _ _ _ _ _ _ _ _ _ _ _ _ _ _=>X.x5 v0
def acq (X:X9):T9_6:=fun v0 _ _ _ _ _ _ _ _ _ _ _ _ _ _ _ _ _ _ _ _ _ _ _ _ _ _ _ _ _ _ _ _ _ _ _ _ _ _ _ _ _ _ _ _ _ _ _ _ _ _=>X.x6 v0
def acT (X:X9):T9_7:=fun v0 _ _ _ _ _ _ _ _ _ _ _ _ _ _ _ _ _ _ _ _ _ _ _ _ _ _ _ _ _ _ _ _ _ _ _ _ _ _ _ _ _ _ _ _ _ _ _ _ _ _ _ _ _ _ _ _=>X.x7 v0
def UR (X:X9):T9_8:=fun v0 _ _ _ _ _ _ _ _ _ _ _ _ _ _ _ _ _ _ _ _ _ _ _ _ _ _ _ _ _ _ _ _ _ _ _ _ _ _ _ _ _ _ _ _ _ _ _ _ _ _ _ _ _ _ _ _ _ _ _ _ _ _=>X.x8 v0
def aat (X:X9):OS:=X.x9
def Nt (X:X9):OS:=X.M4
def Sa (X:X9):OS:=X.x11
def Tm (X:X9):OS:=X.x12
def SZ (X:X9):OS:=X.x13
def OD (X:X9):OS:=X.x14
def N3 (X:X9):OS:=X.x15
def A8 (q:YF) (a:aP) (X:X9):X9:=⟨fun v0=>acb q a (aaN X) v0 dd dd dd dd dd dd dd,
 fun v0=>Zs q a (acj X) v0 dd dd dd dd dd dd dd dd dd dd dd dd dd,
 fun v0=>ab5 q a (YI X) v0 dd dd dd dd dd dd dd dd dd dd dd dd dd dd dd dd dd dd dd,
 fun v0=>acu q a (abd X) v0 dd dd dd dd dd dd dd dd dd dd dd dd dd dd dd dd dd dd dd dd dd dd dd dd dd,
 fun v0=>Y5 q a (abD X) v0 dd dd dd dd dd dd dd dd dd dd dd dd dd dd dd dd dd dd dd dd dd dd dd dd dd dd dd dd dd dd dd dd dd dd dd dd dd dd,
 fun v0=>aag q a (acq X) v0 dd dd dd dd dd dd dd dd dd dd dd dd dd dd dd dd dd dd dd dd dd dd dd dd dd dd dd dd dd dd dd dd dd dd dd dd dd dd dd dd dd dd dd dd,
 fun v0=>aa7 q a (acT X) v0 dd dd dd dd dd dd dd dd dd dd dd dd dd dd dd dd dd dd dd dd dd dd dd dd dd dd dd dd dd dd dd dd dd dd dd dd dd dd dd dd dd dd dd dd dd dd dd dd dd dd,
 fun v0=>Uu q a (UR X) v0 dd dd dd dd dd dd dd dd dd dd dd dd dd dd dd dd dd dd dd dd dd dd dd dd dd dd dd dd dd dd dd dd dd dd dd dd dd dd dd dd dd dd dd dd dd dd dd dd dd dd dd dd dd dd dd dd,
 fun v0=>WR q a (aat X) v0 dd dd dd dd dd dd dd dd dd dd dd dd dd dd dd dd dd dd dd dd dd dd dd dd dd dd dd dd dd dd dd dd dd dd dd dd dd dd dd dd dd dd dd dd dd dd dd dd dd dd dd dd dd dd dd dd dd dd dd dd dd dd,
 aco q a (Nt X),
 QC q a (Sa X),
 S3 q a (Tm X),
 Sr q a (SZ X),
 T7 q a (OD X),
 Pl q a (N3 X),
 M9 q a⟩
def fL (q:YF) (a:aP):Nat→X9
 | 0=>⟨fun _=>none,fun _=>none,fun _=>none,fun _=>none,fun _=>none,fun _=>none,fun _=>none,fun _=>none,fun _=>none,none,none,none,none,none,none,none⟩
 | n+1=>A8 q a (fL q a n)
theorem ajK (q:YF) (a:aP) (kk:PK S):abb a (P9 q kk)=acb q a (acg a kk):=by
 kernel_rfl
theorem aiU (q:YF) (a:aP) (kk:PK S):acg a (P9 q kk)=Zs q a (Zk a kk):=by
 kernel_rfl
theorem akx (q:YF) (a:aP) (kk:PK S):Zk a (P9 q kk)=ab5 q a (abp a kk):=by
 kernel_rfl
theorem ajJ (q:YF) (a:aP) (kk:PK S):abp a (P9 q kk)=acu q a (abH a kk):=by
 kernel_rfl
theorem ajw (q:YF) (a:aP) (kk:PK S):abH a (P9 q kk)=Y5 q a (abF a kk):=by
 kernel_rfl
theorem aiO (q:YF) (a:aP) (kk:PK S):abF a (P9 q kk)=aag q a (acp a kk):=by
 kernel_rfl
theorem aiH (q:YF) (a:aP) (kk:PK S):acp a (P9 q kk)=aa7 q a (ZO a kk):=by
 kernel_rfl
theorem aj5 (q:YF) (a:aP) (kk:PK S):ZO a (P9 q kk)=Uu q a (YN a kk):=by
 kernel_rfl
theorem aku (q:YF) (a:aP) (kk:PK S):YN a (P9 q kk)=WR q a (YH a kk):=by
 kernel_rfl
theorem ajX (q:YF) (a:aP) (kk:PK S):YH a (P9 q kk)=aco q a (Qf a kk):=by
 kernel_rfl
theorem ahz (q:YF) (a:aP) (kk:PK S):Qf a (P9 q kk)=QC q a (Rp a kk):=by
 kernel_rfl
theorem aeN (q:YF) (a:aP) (kk:PK S):Rp a (P9 q kk)=S3 q a (Tz a kk):=by
 kernel_rfl
theorem aeq (q:YF) (a:aP) (kk:PK S):Tz a (P9 q kk)=Sr q a (S4 a kk):=by
 kernel_rfl
theorem adD (q:YF) (a:aP) (kk:PK S):S4 a (P9 q kk)=T7 q a (O_ a kk):=by
 kernel_rfl
theorem ags (q:YF) (a:aP) (kk:PK S):O_ a (P9 q kk)=Pl q a (S1 a kk):=by
 kernel_rfl
theorem ago (q:YF) (a:aP) (kk:PK S):S1 a (P9 q kk)=M9 q a:=by
 kernel_rfl
theorem af6 (q:YF) (a:aP) (kk:PK S):BG q kk 9 Tryz.f9 [ag (bI a)]=RI q a (abb a kk):=by
 kernel_rfl
theorem h9 (q:YF) (a:aP):∀ n,abb a (H9 q n)=abx (fL q a n)∧acg a (H9 q n)=aaN (fL q a n)∧Zk a (H9 q n)=acj (fL q a n)∧abp a (H9 q n)=YI (fL q a n)∧abH a (H9 q n)=abd (fL q a n)∧abF a (H9 q n)=abD (fL q a n)∧acp a (H9 q n)=acq (fL q a n)∧ZO a (H9 q n)=acT (fL q a n)∧YN a (H9 q n)=UR (fL q a n)∧YH a (H9 q n)=aat (fL q a n)∧Qf a (H9 q n)=Nt (fL q a n)∧Rp a (H9 q n)=Sa (fL q a n)∧Tz a (H9 q n)=Tm (fL q a n)∧S4 a (H9 q n)=SZ (fL q a n)∧O_ a (H9 q n)=OD (fL q a n)∧S1 a (H9 q n)=N3 (fL q a n)
 | 0=>⟨rfl,rfl,rfl,rfl,rfl,rfl,rfl,rfl,rfl,rfl,rfl,rfl,rfl,rfl,rfl,rfl⟩
 | n+1=>by
  obtain ⟨h0,h1,h2,h3,h4,h5,h6,h7,h8,h9,vC,h11,M6,h13,h14,h15⟩:=h9 q a n
  exact ⟨(ajK q a (H9 q n)).trans (by rw [h1];kernel_rfl),(aiU q a (H9 q n)).trans (by rw [h2];kernel_rfl),(akx q a (H9 q n)).trans (by rw [h3];kernel_rfl),(ajJ q a (H9 q n)).trans (by rw [h4];kernel_rfl),(ajw q a (H9 q n)).trans (by rw [h5];kernel_rfl),(aiO q a (H9 q n)).trans (by rw [h6];kernel_rfl),(aiH q a (H9 q n)).trans (by rw [h7];kernel_rfl),(aj5 q a (H9 q n)).trans (by rw [h8];kernel_rfl),(aku q a (H9 q n)).trans (by rw [h9];kernel_rfl),(ajX q a (H9 q n)).trans (by rw [vC];kernel_rfl),(ahz q a (H9 q n)).trans (by rw [h11];kernel_rfl),(aeN q a (H9 q n)).trans (by rw [M6];kernel_rfl),(aeq q a (H9 q n)).trans (by rw [h13];kernel_rfl),(adD q a (H9 q n)).trans (by rw [h14];kernel_rfl),(ags q a (H9 q n)).trans (by rw [h15];kernel_rfl),(ago q a (H9 q n)).trans (by kernel_rfl)⟩
theorem W9 (a:aP) (n:Nat) (x:S) (h:RI (aa O) a (abx (fL (aa O) a n))=some x):(W O).aE 9 [ag (bI a)]=some x:=by
 refine WG (fn:=Tryz.f9) (by kernel_rfl) (by kernel_rfl) (n:=n) ?_
 refine (af6 (aa O) a (H9 (aa O) n)).trans ?_
 obtain ⟨h0,h1,h2,h3,h4,h5,h6,h7,h8,h9,vC,h11,M6,h13,h14,h15⟩:=h9 (aa O) a n
 rw [h0]
 exact h
abbrev P10 (q:YF) (kk:PK S):PK S:=PG q 10 Tryz.f10 kk
abbrev vB (q:YF):Nat→PK S:=HG q 10 Tryz.f10
abbrev T10_0:Type:=Bool→Bool→Bool→S→Bool→S→S→S→OS
def Pe (a:aP) (kk:PK S):T10_0:=fun v0 u1 u2 u3 u4 u5 u6 u7=> kk 2 11 6 (aJ [(0,ag (bI a)),(16,S.ptr 0 0),(24,u3),(20,bb u4),(2,ii 0),(18,bb u1),(22,u5),(14,S.ptr 0 1),(1,S.ptr 0 0),(17,ii a.fA),(25,bb v0),(21,u6),(3,S.ptr 4 0),(19,bb u2),(23,u7),(15,S.agg [ii a.aX,ii a.aT,ii a.aQ,ii a.aO,ii a.aG])] 40 [(0,B.box (List.map S.t (bI a))),(4,B.box [ii a.aX,ii a.aT,ii a.aQ,ii a.aO,ii a.aG])])
abbrev T10_1:Type:=Bool→S→Bool→Bool→S→Bool→S→Bool→S→S→Bool→S→S→S→OS
def Si (a:aP) (kk:PK S):T10_1:=fun v0 u1 u2 u3 u4 u5 u6 u7 u8 u9 u10 u11 u12 u13=> kk 2 17 6 (aJ [(0,ag (bI a)),(16,S.ptr 0 0),(24,u1),(20,bb u2),(28,u9),(2,ii 0),(18,bb u3),(26,bb u10),(22,u4),(14,S.ptr 0 1),(30,u11),(1,S.ptr 0 0),(17,ii a.fA),(25,bb u5),(21,u6),(29,u12),(3,S.ptr 4 0),(19,bb u7),(27,u13),(23,u8),(15,S.agg [ii a.aX,ii a.aT,ii a.aQ,ii a.aO,ii a.aG]),(31,bb v0)] 40 [(0,B.box (List.map S.t (bI a))),(4,B.box [ii a.aX,ii a.aT,ii a.aQ,ii a.aO,ii a.aG])])
abbrev T10_2:Type:=Bool→S→Bool→S→Bool→Bool→S→S→Bool→S→S→Bool→S→S→Bool→Bool→S→S→S→S→OS
def PH (a:aP) (kk:PK S):T10_2:=fun v0 u1 u2 u3 u4 u5 u6 u7 u8 u9 u10 u11 u12 u13 u14 u15 u16 u17 u18 u19=> kk 2 23 6 (aJ [(0,ag (bI a)),(32,bb u15),(16,S.ptr 0 0),(24,u1),(36,u16),(20,bb u2),(28,u3),(2,ii 0),(34,u17),(18,bb u4),(26,bb u5),(22,u6),(14,S.ptr 0 1),(30,u7),(1,S.ptr 0 0),(33,u18),(17,ii a.fA),(25,bb u8),(37,bb v0),(21,u9),(29,u10),(3,S.ptr 4 0),(35,u19),(19,bb u11),(27,u12),(23,u13),(15,S.agg [ii a.aX,ii a.aT,ii a.aQ,ii a.aO,ii a.aG]),(31,bb u14)] 40 [(0,B.box (List.map S.t (bI a))),(4,B.box [ii a.aX,ii a.aT,ii a.aQ,ii a.aO,ii a.aG])])
abbrev T10_3:Type:=Bool→Bool→S→S→Bool→S→S→Bool→Bool→S→S→S→Bool→Bool→S→S→S→Bool→S→S→Bool→S→S→Bool→S→S→OS
def NK (a:aP) (kk:PK S):T10_3:=fun v0 u1 u2 u3 u4 u5 u6 u7 u8 u9 u10 u11 u12 u13 u14 u15 u16 u17 u18 u19 u20 u21 u22 u23 u24 u25=> kk 2 29 6 (aJ [(0,ag (bI a)),(32,bb u1),(16,S.ptr 0 0),(40,u21),(24,u2),(36,u3),(20,bb u4),(28,u5),(2,ii 0),(34,u6),(18,bb u7),(42,u22),(26,bb u8),(38,bb u23),(22,u9),(14,S.ptr 0 1),(30,u10),(1,S.ptr 0 0),(33,u11),(17,ii a.fA),(41,u24),(25,bb u12),(37,bb u13),(21,u14),(29,u15),(3,S.ptr 4 0),(35,u16),(19,bb u17),(43,bb v0),(27,u18),(39,u25),(23,u19),(15,S.agg [ii a.aX,ii a.aT,ii a.aQ,ii a.aO,ii a.aG]),(31,bb u20)] 40 [(0,B.box (List.map S.t (bI a))),(4,B.box [ii a.aX,ii a.aT,ii a.aQ,ii a.aO,ii a.aG])])
abbrev T10_4:Type:=Bool→Bool→Bool→S→S→Int→S→Bool→Int→S→S→Bool→S→Bool→Bool→S→Bool→S→S→Bool→S→Bool→Bool→S→Int→S→S→Bool→Bool→S→S→S→Bool→Bool→S→Bool→S→S→S→OS
def Pg (a:aP) (kk:PK S):T10_4:=fun v0 u1 u2 u3 u4 u5 u6 u7 u8 u9 u10 u11 u12 u13 u14 u15 u16 u17 u18 u19 u20 u21 u22 u23 u24 u25 u26 u27 u28 u29 u30 u31 u32 u33 u34 u35 u36 u37 u38=> kk 7 11 46 (aJ [(0,ag (bI a)),(64,u34),(32,bb u1),(16,S.ptr 0 0),(48,bb u2),(40,u3),(24,u4),(56,S.ptr 0 7),(4,ii u5),(36,u6),(20,bb u7),(52,ii u8),(44,bb false),(28,u9),(60,bb u35),(2,ii 0),(34,u10),(18,bb u11),(50,S.ptr 0 6),(42,u12),(26,bb u13),(58,ii (ay a.an.n)),(38,bb u14),(22,u15),(54,bb u16),(14,S.ptr 0 1),(46,ii a.aG),(30,u17),(62,u36),(1,S.ptr 0 0),(65,bb v0),(33,u18),(17,ii a.fA),(49,bb u19),(41,u20),(25,bb u21),(57,S.t (T.rows 12 a.an.n fun i=>jv (a.an.get i))),(37,bb u22),(21,u23),(53,ii u24),(45,S.ptr 4 4),(29,u25),(61,u37),(3,S.ptr 4 0),(35,u26),(19,bb u27),(51,S.t (T.rows 7 a.aw.n fun i=>bk (a.aw.get i))),(43,bb u28),(27,u29),(59,bb (bl (ay a.an.n) 24)),(39,u30),(23,u31),(15,S.agg [ii a.aX,ii a.aT,ii a.aQ,ii a.aO,ii a.aG]),(47,bb u32),(31,bb u33),(63,u38)] 86 [(0,B.box (List.map S.t (bI a))),(4,B.box [ii a.aX,ii a.aT,ii a.aQ,ii a.aO,ii a.aG])])
abbrev T10_5:Type:=Bool→S→Bool→Bool→S→S→Int→S→Bool→Int→S→Bool→S→Bool→S→Bool→Bool→S→Bool→S→S→Bool→S→Bool→S→Bool→Bool→S→Int→S→S→S→Bool→Bool→S→S→S→Bool→Bool→S→S→Bool→S→S→S→OS
def SY (a:aP) (kk:PK S):T10_5:=fun v0 u1 u2 u3 u4 u5 u6 u7 u8 u9 u10 u11 u12 u13 u14 u15 u16 u17 u18 u19 u20 u21 u22 u23 u24 u25 u26 u27 u28 u29 u30 u31 u32 u33 u34 u35 u36 u37 u38 u39 u40 u41 u42 u43 u44=> kk 7 17 46 (aJ [(0,ag (bI a)),(64,u1),(32,bb u2),(16,S.ptr 0 0),(48,bb u3),(40,u4),(24,u5),(56,S.ptr 0 7),(4,ii u6),(68,u40),(36,u7),(20,bb u8),(52,ii u9),(44,bb false),(28,u10),(60,bb u11),(2,ii 0),(66,bb u41),(34,u12),(18,bb u13),(50,S.ptr 0 6),(42,u14),(26,bb u15),(58,ii (ay a.an.n)),(70,u42),(38,bb u16),(22,u17),(54,bb u18),(14,S.ptr 0 1),(46,ii a.aG),(30,u19),(62,u20),(1,S.ptr 0 0),(65,bb u21),(33,u22),(17,ii a.fA),(49,bb u23),(41,u24),(25,bb u25),(57,S.t (T.rows 12 a.an.n fun i=>jv (a.an.get i))),(69,u43),(37,bb u26),(21,u27),(53,ii u28),(45,S.ptr 4 4),(29,u29),(61,u30),(3,S.ptr 4 0),(67,u44),(35,u31),(19,bb u32),(51,S.t (T.rows 7 a.aw.n fun i=>bk (a.aw.get i))),(43,bb u33),(27,u34),(59,bb (bl (ay a.an.n) 24)),(71,bb v0),(39,u35),(23,u36),(15,S.agg [ii a.aX,ii a.aT,ii a.aQ,ii a.aO,ii a.aG]),(47,bb u37),(31,bb u38),(63,u39)] 86 [(0,B.box (List.map S.t (bI a))),(4,B.box [ii a.aX,ii a.aT,ii a.aQ,ii a.aO,ii a.aG])])
abbrev T10_6:Type:=Bool→S→Bool→Bool→S→S→Int→S→S→Bool→Int→S→Bool→Bool→S→Bool→S→Bool→S→Bool→S→Bool→S→S→Bool→S→Bool→S→Bool→S→Bool→S→Int→S→S→S→S→Bool→Bool→S→Bool→S→S→Bool→Bool→S→Bool→S→S→S→S→OS
def Pq (a:aP) (kk:PK S):T10_6:=fun v0 u1 u2 u3 u4 u5 u6 u7 u8 u9 u10 u11 u12 u13 u14 u15 u16 u17 u18 u19 u20 u21 u22 u23 u24 u25 u26 u27 u28 u29 u30 u31 u32 u33 u34 u35 u36 u37 u38 u39 u40 u41 u42 u43 u44 u45 u46 u47 u48 u49 u50=> kk 7 23 46 (aJ [(0,ag (bI a)),(64,u1),(32,bb u2),(16,S.ptr 0 0),(48,bb u3),(72,bb u46),(40,u4),(24,u5),(56,S.ptr 0 7),(4,ii u6),(68,u7),(36,u8),(20,bb u9),(52,ii u10),(76,u47),(44,bb false),(28,u11),(60,bb u12),(2,ii 0),(66,bb u13),(34,u14),(18,bb u15),(50,S.ptr 0 6),(74,u48),(42,u16),(26,bb u17),(58,ii (ay a.an.n)),(70,u18),(38,bb u19),(22,u20),(54,bb u21),(14,S.ptr 0 1),(46,ii a.aG),(30,u22),(62,u23),(1,S.ptr 0 0),(65,bb u24),(33,u25),(17,ii a.fA),(49,bb u26),(73,u49),(41,u27),(25,bb u28),(57,S.t (T.rows 12 a.an.n fun i=>jv (a.an.get i))),(69,u29),(37,bb u30),(21,u31),(53,ii u32),(77,bb v0),(45,S.ptr 4 4),(29,u33),(61,u34),(3,S.ptr 4 0),(67,u35),(35,u36),(19,bb u37),(51,S.t (T.rows 7 a.aw.n fun i=>bk (a.aw.get i))),(75,u50),(43,bb u38),(27,u39),(59,bb (bl (ay a.an.n) 24)),(71,bb u40),(39,u41),(23,u42),(15,S.agg [ii a.aX,ii a.aT,ii a.aQ,ii a.aO,ii a.aG]),(47,bb u43),(31,bb u44),(63,u45)] 86 [(0,B.box (List.map S.t (bI a))),(4,B.box [ii a.aX,ii a.aT,ii a.aQ,ii a.aO,ii a.aG])])
abbrev T10_7:Type:=Bool→S→Bool→Bool→Bool→S→S→Int→S→S→Bool→Int→S→S→Bool→Bool→S→Bool→S→S→Bool→S→Bool→S→Bool→S→S→Bool→S→Bool→S→S→Bool→S→Bool→S→Int→Bool→S→S→S→S→Bool→S→Bool→S→Bool→S→S→Bool→Bool→S→S→S→Bool→S→S→OS
def O3 (a:aP) (kk:PK S):T10_7:=fun v0 u1 u2 u3 u4 u5 u6 u7 u8 u9 u10 u11 u12 u13 u14 u15 u16 u17 u18 u19 u20 u21 u22 u23 u24 u25 u26 u27 u28 u29 u30 u31 u32 u33 u34 u35 u36 u37 u38 u39 u40 u41 u42 u43 u44 u45 u46 u47 u48 u49 u50 u51 u52 u53 u54 u55 u56=> kk 7 29 46 (aJ [(0,ag (bI a)),(64,u1),(32,bb u2),(16,S.ptr 0 0),(80,u52),(48,bb u3),(72,bb u4),(40,u5),(24,u6),(56,S.ptr 0 7),(4,ii u7),(68,u8),(36,u9),(20,bb u10),(52,ii u11),(76,u12),(44,bb false),(28,u13),(60,bb u14),(2,ii 0),(66,bb u15),(34,u16),(18,bb u17),(82,u53),(50,S.ptr 0 6),(74,u18),(42,u19),(26,bb u20),(58,ii (ay a.an.n)),(70,u21),(38,bb u22),(22,u23),(54,bb u24),(14,S.ptr 0 1),(78,bb u54),(46,ii a.aG),(30,u25),(62,u26),(1,S.ptr 0 0),(65,bb u27),(33,u28),(17,ii a.fA),(81,u55),(49,bb u29),(73,u30),(41,u31),(25,bb u32),(57,S.t (T.rows 12 a.an.n fun i=>jv (a.an.get i))),(69,u33),(37,bb u34),(21,u35),(53,ii u36),(77,bb u37),(45,S.ptr 4 4),(29,u38),(61,u39),(3,S.ptr 4 0),(67,u40),(35,u41),(19,bb u42),(83,bb v0),(51,S.t (T.rows 7 a.aw.n fun i=>bk (a.aw.get i))),(75,u43),(43,bb u44),(27,u45),(59,bb (bl (ay a.an.n) 24)),(71,bb u46),(39,u47),(23,u48),(15,S.agg [ii a.aX,ii a.aT,ii a.aQ,ii a.aO,ii a.aG]),(79,u56),(47,bb u49),(31,bb u50),(63,u51)] 86 [(0,B.box (List.map S.t (bI a))),(4,B.box [ii a.aX,ii a.aT,ii a.aQ,ii a.aO,ii a.aG])])
abbrev T10_8:Type:=Bool→S→Bool→S→Bool→Bool→S→S→Int→S→S→Bool→Int→S→S→Bool→Bool→S→Bool→S→S→S→Bool→S→Bool→S→Bool→Bool→S→S→Bool→S→S→Bool→S→S→Bool→S→Bool→S→Int→Bool→S→S→S→S→Bool→Bool→S→Bool→S→Bool→S→S→S→Bool→Bool→S→S→Bool→S→S→S→OS
def PV (a:aP) (kk:PK S):T10_8:=fun v0 u1 u2 u3 u4 u5 u6 u7 u8 u9 u10 u11 u12 u13 u14 u15 u16 u17 u18 u19 u20 u21 u22 u23 u24 u25 u26 u27 u28 u29 u30 u31 u32 u33 u34 u35 u36 u37 u38 u39 u40 u41 u42 u43 u44 u45 u46 u47 u48 u49 u50 u51 u52 u53 u54 u55 u56 u57 u58 u59 u60 u61 u62=> kk 7 35 46 (aJ [(0,ag (bI a)),(64,u1),(32,bb u2),(16,S.ptr 0 0),(80,u3),(48,bb u4),(72,bb u5),(40,u6),(24,u7),(88,u58),(56,S.ptr 0 7),(4,ii u8),(68,u9),(36,u10),(20,bb u11),(84,bb u59),(52,ii u12),(76,u13),(44,bb false),(28,u14),(60,bb u15),(2,ii 0),(66,bb u16),(34,u17),(18,bb u18),(82,u19),(50,S.ptr 0 6),(74,u20),(42,u21),(26,bb u22),(58,ii (ay a.an.n)),(70,u23),(38,bb u24),(22,u25),(86,u60),(54,bb u26),(14,S.ptr 0 1),(78,bb u27),(46,ii a.aG),(30,u28),(62,u29),(1,S.ptr 0 0),(65,bb u30),(33,u31),(17,ii a.fA),(81,u32),(49,bb u33),(73,u34),(41,u35),(25,bb u36),(89,bb v0),(57,S.t (T.rows 12 a.an.n fun i=>jv (a.an.get i))),(69,u37),(37,bb u38),(21,u39),(85,u61),(53,ii u40),(77,bb u41),(45,S.ptr 4 4),(29,u42),(61,u43),(3,S.ptr 4 0),(67,u44),(35,u45),(19,bb u46),(83,bb u47),(51,S.t (T.rows 7 a.aw.n fun i=>bk (a.aw.get i))),(75,u48),(43,bb u49),(27,u50),(59,bb (bl (ay a.an.n) 24)),(71,bb u51),(39,u52),(23,u53),(87,u62),(15,S.agg [ii a.aX,ii a.aT,ii a.aQ,ii a.aO,ii a.aG]),(79,u54),(47,bb u55),(31,bb u56),(63,u57)] 86 [(0,B.box (List.map S.t (bI a))),(4,B.box [ii a.aX,ii a.aT,ii a.aQ,ii a.aO,ii a.aG])])
def JK (a:aP) (kk:PK S):Int→OS:=fun v0=> kk 10 0 0 (aJ [(98,ii (ay a.aW.n)),(1,S.ptr 0 0),(97,S.t (T.rows 10 a.aW.n fun i=>jd (a.aW.get i))),(99,ii v0)] 1 [(0,B.box (List.map S.t (bI a)))])
def yP (a:aP) (kk:PK S):Int→OS:=fun v0=> kk 22 0 0 (aJ [(132,ii v0),(130,S.t (T.rows 12 a.an.n fun i=>jv (a.an.get i))),(1,S.ptr 0 0),(131,ii (ay a.an.n))] 1 [(0,B.box (List.map S.t (bI a)))])
def Qw (q:YF) (a:aP) (k1:T10_1):T10_0:=fun v0 u1 u2 u3 u4 u5 u6 u7=>bif v0 then k1 true u3 u4 u1 u5 v0 u6 u2 u7 S.ud true S.ud S.ud S.ud else yC q 32 [ii a.aT] fun y=>k1 (!y.b 0) u3 u4 u1 u5 v0 u6 u2 u7 (ii a.aT) false (S.t (T.v (.bool !y.b 0))) (bb (y.b 0)) (S.ptr 4 1)
def Q8 (q:YF) (a:aP) (k2:T10_2):T10_1:=fun v0 u1 u2 u3 u4 u5 u6 u7 u8 u9 u10 u11 u12 u13=>bif v0 then k2 true u1 u2 u9 u3 u10 u4 u11 u5 u6 u12 u7 u13 u8 v0 true S.ud S.ud S.ud S.ud else yC q 32 [ii a.aQ] fun y=>k2 (!y.b 0) u1 u2 u9 u3 u10 u4 u11 u5 u6 u12 u7 u13 u8 v0 false (S.t (T.v (.bool !y.b 0))) (ii a.aQ) (S.ptr 4 2) (bb (y.b 0))
def Pd (q:YF) (a:aP) (k3:T10_3):T10_2:=fun v0 u1 u2 u3 u4 u5 u6 u7 u8 u9 u10 u11 u12 u13 u14 u15 u16 u17 u18 u19=>bif v0 then k3 true u15 u1 u16 u2 u3 u17 u4 u5 u6 u7 u18 u8 v0 u9 u10 u19 u11 u12 u13 u14 S.ud S.ud true S.ud S.ud else yC q 32 [ii a.aO] fun y=>k3 (!y.b 0) u15 u1 u16 u2 u3 u17 u4 u5 u6 u7 u18 u8 v0 u9 u10 u19 u11 u12 u13 u14 (ii a.aO) (S.t (T.v (.bool !y.b 0))) false (bb (y.b 0)) (S.ptr 4 3)
def T1 (q:YF) (a:aP) (k4:T10_4):T10_3:=fun v0 u1 u2 u3 u4 u5 u6 u7 u8 u9 u10 u11 u12 u13 u14 u15 u16 u17 u18 u19 u20 u21 u22 u23 u24 u25=>bif v0 then some (ii 1) else yC q 32 [ii a.aG] fun y=>bif !y.b 0 then some (ii 1) else yC q 33 [S.t (T.rows 7 a.aw.n fun i=>bk (a.aw.get i))] fun y_1=>bif !aR (y_1.i 0) 0 then some (ii (y_1.i 0)) else bif bl (ay a.an.n) 24 then k4 true u1 (!y.b 0) u21 u2 (y_1.i 0) u3 u4 (y_1.i 0) u5 u6 u7 u22 u8 u23 u9 (!aR (y_1.i 0) 0) u10 u11 (!y.b 0) u24 u12 u13 u14 (y_1.i 0) u15 u16 u17 v0 u18 u25 u19 (y.b 0) u20 S.ud true S.ud S.ud S.ud else k4 (bl (ay a.aW.n) 4) u1 (!y.b 0) u21 u2 (y_1.i 0) u3 u4 (y_1.i 0) u5 u6 u7 u22 u8 u23 u9 (!aR (y_1.i 0) 0) u10 u11 (!y.b 0) u24 u12 u13 u14 (y_1.i 0) u15 u16 u17 v0 u18 u25 u19 (y.b 0) u20 (bb (bl (ay a.aW.n) 4)) false (S.t (T.rows 10 a.aW.n fun i=>jd (a.aW.get i))) (S.ptr 0 8) (ii (ay a.aW.n))
def QV (q:YF) (a:aP) (k5:T10_5):T10_4:=fun v0 u1 u2 u3 u4 u5 u6 u7 u8 u9 u10 u11 u12 u13 u14 u15 u16 u17 u18 u19 u20 u21 u22 u23 u24 u25 u26 u27 u28 u29 u30 u31 u32 u33 u34 u35 u36 u37 u38=>bif v0 then k5 true u34 u1 u2 u3 u4 u5 u6 u7 u8 u9 u35 u10 u11 u12 u13 u14 u15 u16 u17 u36 v0 u18 u19 u20 u21 u22 u23 u24 u25 u37 u26 u27 u28 u29 u30 u31 u32 u33 u38 S.ud true S.ud S.ud S.ud else k5 (bl (ay a.ae.n) 16) u34 u1 u2 u3 u4 u5 u6 u7 u8 u9 u35 u10 u11 u12 u13 u14 u15 u16 u17 u36 v0 u18 u19 u20 u21 u22 u23 u24 u25 u37 u26 u27 u28 u29 u30 u31 u32 u33 u38 (S.t (T.rows 15 a.ae.n fun i=>dp (a.ae.get i))) false (bb (bl (ay a.ae.n) 16)) (ii (ay a.ae.n)) (S.ptr 0 9)
def Ou (q:YF) (a:aP) (k6:T10_6):T10_5:=fun v0 u1 u2 u3 u4 u5 u6 u7 u8 u9 u10 u11 u12 u13 u14 u15 u16 u17 u18 u19 u20 u21 u22 u23 u24 u25 u26 u27 u28 u29 u30 u31 u32 u33 u34 u35 u36 u37 u38 u39 u40 u41 u42 u43 u44=>bif v0 then k6 true u1 u2 u3 u4 u5 u6 u40 u7 u8 u9 u10 u11 u41 u12 u13 u14 u15 u42 u16 u17 u18 u19 u20 u21 u22 u23 u24 u25 u43 u26 u27 u28 u29 u30 u44 u31 u32 u33 u34 v0 u35 u36 u37 u38 u39 true S.ud S.ud S.ud S.ud else k6 (bl (ay a.au.n) 1) u1 u2 u3 u4 u5 u6 u40 u7 u8 u9 u10 u11 u41 u12 u13 u14 u15 u42 u16 u17 u18 u19 u20 u21 u22 u23 u24 u25 u43 u26 u27 u28 u29 u30 u44 u31 u32 u33 u34 v0 u35 u36 u37 u38 u39 false (bb (bl (ay a.au.n) 1)) (S.t (T.rows 8 a.au.n fun i=>eN (a.au.get i))) (S.ptr 0 10) (ii (ay a.au.n))
def RE (q:YF) (a:aP) (k7:T10_7):T10_6:=fun v0 u1 u2 u3 u4 u5 u6 u7 u8 u9 u10 u11 u12 u13 u14 u15 u16 u17 u18 u19 u20 u21 u22 u23 u24 u25 u26 u27 u28 u29 u30 u31 u32 u33 u34 u35 u36 u37 u38 u39 u40 u41 u42 u43 u44 u45 u46 u47 u48 u49 u50=>bif v0 then k7 true u1 u2 u3 u46 u4 u5 u6 u7 u8 u9 u10 u47 u11 u12 u13 u14 u15 u48 u16 u17 u18 u19 u20 u21 u22 u23 u24 u25 u26 u49 u27 u28 u29 u30 u31 u32 v0 u33 u34 u35 u36 u37 u50 u38 u39 u40 u41 u42 u43 u44 u45 S.ud S.ud true S.ud S.ud else k7 (bl (ay a.ax.n) 72) u1 u2 u3 u46 u4 u5 u6 u7 u8 u9 u10 u47 u11 u12 u13 u14 u15 u48 u16 u17 u18 u19 u20 u21 u22 u23 u24 u25 u26 u49 u27 u28 u29 u30 u31 u32 v0 u33 u34 u35 u36 u37 u50 u38 u39 u40 u41 u42 u43 u44 u45 (S.t (T.rows 4 a.ax.n fun i=>qB (a.ax.get i))) (bb (bl (ay a.ax.n) 72)) false (ii (ay a.ax.n)) (S.ptr 0 11)
def NT (q:YF) (a:aP) (k8:T10_8):T10_7:=fun v0 u1 u2 u3 u4 u5 u6 u7 u8 u9 u10 u11 u12 u13 u14 u15 u16 u17 u18 u19 u20 u21 u22 u23 u24 u25 u26 u27 u28 u29 u30 u31 u32 u33 u34 u35 u36 u37 u38 u39 u40 u41 u42 u43 u44 u45 u46 u47 u48 u49 u50 u51 u52 u53 u54 u55 u56=>bif v0 then k8 true u1 u2 u52 u3 u4 u5 u6 u7 u8 u9 u10 u11 u12 u13 u14 u15 u16 u17 u53 u18 u19 u20 u21 u22 u23 u24 u54 u25 u26 u27 u28 u55 u29 u30 u31 u32 u33 u34 u35 u36 u37 u38 u39 u40 u41 u42 v0 u43 u44 u45 u46 u47 u48 u56 u49 u50 u51 S.ud true S.ud S.ud S.ud else k8 (bl (ay a.ai.n) 64) u1 u2 u52 u3 u4 u5 u6 u7 u8 u9 u10 u11 u12 u13 u14 u15 u16 u17 u53 u18 u19 u20 u21 u22 u23 u24 u54 u25 u26 u27 u28 u55 u29 u30 u31 u32 u33 u34 u35 u36 u37 u38 u39 u40 u41 u42 v0 u43 u44 u45 u46 u47 u48 u56 u49 u50 u51 (bb (bl (ay a.ai.n) 64)) false (S.t (T.rows 7 a.ai.n fun i=>kQ (a.ai.get i))) (S.ptr 0 12) (ii (ay a.ai.n))
def Qx (q:YF) (a:aP) (k9:Int→OS):T10_8:=fun v0 u1 u2 u3 u4 u5 u6 u7 u8 u9 u10 u11 u12 u13 u14 u15 u16 u17 u18 u19 u20 u21 u22 u23 u24 u25 u26 u27 u28 u29 u30 u31 u32 u33 u34 u35 u36 u37 u38 u39 u40 u41 u42 u43 u44 u45 u46 u47 u48 u49 u50 u51 u52 u53 u54 u55 u56 u57 u58 u59 u60 u61 u62=>bif v0 then some (ii 3) else bif bl (ay a.eo.n) 32 then some (ii 3) else k9 0
def KQ (q:YF) (a:aP) (k9:Int→OS) (k10:Int→OS) (v0:Int):OS:=bif bm v0 (ay a.aW.n) then aU v0 a.aW.n fun h=>yC q 34 [ag (jd (a.aW.get (Fin.mk v0.toNat h)))] fun y=>bif !aR (y.i 0) 0 then some (ii (y.i 0)) else bif bl v0 0 then aU (bF .i64 v0 1) a.aW.n fun h_1=>bif !strLt (a.aW.get (Fin.mk (bF .i64 v0 1).toNat h_1)).af (a.aW.get (Fin.mk v0.toNat h)).af then some (ii 6) else k9 (a7 .i64 v0 1) else k9 (a7 .i64 v0 1) else yC q 35 [ag (bI a)] fun y=>bif !aR (y.i 0) 0 then some (ii (y.i 0)) else k10 0
def yA (q:YF) (a:aP) (k10:Int→OS) (v0:Int):OS:=bif bm v0 (ay a.an.n) then aU v0 a.an.n fun h=>yC q 36 [ag (jv (a.an.get (Fin.mk v0.toNat h)))] fun y=>bif !aR (y.i 0) 0 then some (ii (y.i 0)) else bif bl v0 0 then aU (bF .i64 v0 1) a.an.n fun h_1=>bif !strLt (a.an.get (Fin.mk (bF .i64 v0 1).toNat h_1)).af (a.an.get (Fin.mk v0.toNat h)).af then some (ii 6) else yC q 37 [ag (bI a),ss (a.an.get (Fin.mk v0.toNat h)).jI] fun y=>bif !ah (a.an.get (Fin.mk v0.toNat h)).jI (bs []) then bif !y.b 15 then some (ii 5) else bif bl (a.an.get (Fin.mk v0.toNat h)).df a.fA then some (ii 1) else k10 (a7 .i64 v0 1) else bif bl (a.an.get (Fin.mk v0.toNat h)).df a.fA then some (ii 1) else k10 (a7 .i64 v0 1) else yC q 37 [ag (bI a),ss (a.an.get (Fin.mk v0.toNat h)).jI] fun y=>bif !ah (a.an.get (Fin.mk v0.toNat h)).jI (bs []) then bif !y.b 15 then some (ii 5) else bif bl (a.an.get (Fin.mk v0.toNat h)).df a.fA then some (ii 1) else k10 (a7 .i64 v0 1) else bif bl (a.an.get (Fin.mk v0.toNat h)).df a.fA then some (ii 1) else k10 (a7 .i64 v0 1) else yC q 38 [ag (bI a)] fun y=>some (ii (y.i 0))
def EX (q:YF) (a:aP) (k0:T10_0):OS:=yC q 31 [ii a.fA] fun y=>bif !y.b 0 then k0 true (y.b 0) (!y.b 0) S.ud true S.ud S.ud S.ud else yC q 32 [ii a.aX] fun y_1=>k0 (!y_1.b 0) (y.b 0) (!y.b 0) (S.t (T.v (.bool !y_1.b 0))) false (ii a.aX) (S.ptr 4 0) (bb (y_1.b 0))
structure Lv where
 x0:Bool→OS
 x1:Bool→OS
 x2:Bool→OS
 x3:Bool→OS
 x4:Bool→OS
 x5:Bool→OS
 x6:Bool→OS
 x7:Bool→OS
 x8:Bool→OS
 x9:Int→OS
 M4:Int→OS
def RH (X:Lv):T10_0:=fun v0 _ _ _ _ _ _ _=>X.x0 v0
def Ph (X:Lv):T10_1:=fun v0 _ _ _ _ _ _ _ _ _ _ _ _ _=>X.x1 v0
def N6 (X:Lv):T10_2:=fun v0 _ _ _ _ _ _ _ _ _ _ _ _ _ _ _ _ _ _ _=>X.x2 v0
def RG (X:Lv):T10_3:=fun v0 _ _ _ _ _ _ _ _ _ _ _ _ _ _ _ _ _ _ _ _ _ _ _ _ _=>X.x3 v0
def SL (X:Lv):T10_4:=fun v0 _ _ _ _ _ _ _ _ _ _ _ _ _ _ _ _ _ _ _ _ _ _ _ _ _ _ _ _ _ _ _ _ _ _ _ _ _ _=>X.x4 v0
def TB (X:Lv):T10_5:=fun v0 _ _ _ _ _ _ _ _ _ _ _ _ _ _ _ _ _ _ _ _ _ _ _ _ _ _ _ _ _ _ _ _ _ _ _ _ _ _ _ _ _ _ _ _=>X.x5 v0
def P_ (X:Lv):T10_6:=fun v0 _ _ _ _ _ _ _ _ _ _ _ _ _ _ _ _ _ _ _ _ _ _ _ _ _ _ _ _ _ _ _ _ _ _ _ _ _ _ _ _ _ _ _ _ _ _ _ _ _ _=>X.x6 v0
def PM (X:Lv):T10_7:=fun v0 _ _ _ _ _ _ _ _ _ _ _ _ _ _ _ _ _ _ _ _ _ _ _ _ _ _ _ _ _ _ _ _ _ _ _ _ _ _ _ _ _ _ _ _ _ _ _ _ _ _ _ _ _ _ _ _=>X.x7 v0
def Pr (X:Lv):T10_8:=fun v0 _ _ _ _ _ _ _ _ _ _ _ _ _ _ _ _ _ _ _ _ _ _ _ _ _ _ _ _ _ _ _ _ _ _ _ _ _ _ _ _ _ _ _ _ _ _ _ _ _ _ _ _ _ _ _ _ _ _ _ _ _ _=>X.x8 v0
def Cq (X:Lv):Int→OS:=fun v0=>X.x9 v0
def sY (X:Lv):Int→OS:=fun v0=>X.M4 v0
def pX (q:YF) (a:aP) (X:Lv):Lv:=⟨fun v0=>Qw q a (Ph X) v0 dd dd dd dd dd dd dd,
 fun v0=>Q8 q a (N6 X) v0 dd dd dd dd dd dd dd dd dd dd dd dd dd,
 fun v0=>Pd q a (RG X) v0 dd dd dd dd dd dd dd dd dd dd dd dd dd dd dd dd dd dd dd,
 fun v0=>T1 q a (SL X) v0 dd dd dd dd dd dd dd dd dd dd dd dd dd dd dd dd dd dd dd dd dd dd dd dd dd,
 fun v0=>QV q a (TB X) v0 dd dd dd dd dd dd dd dd dd dd dd dd dd dd dd dd dd dd dd dd dd dd dd dd dd dd dd dd dd dd dd dd dd dd dd dd dd dd,
 fun v0=>Ou q a (P_ X) v0 dd dd dd dd dd dd dd dd dd dd dd dd dd dd dd dd dd dd dd dd dd dd dd dd dd dd dd dd dd dd dd dd dd dd dd dd dd dd dd dd dd dd dd dd,
 fun v0=>RE q a (PM X) v0 dd dd dd dd dd dd dd dd dd dd dd dd dd dd dd dd dd dd dd dd dd dd dd dd dd dd dd dd dd dd dd dd dd dd dd dd dd dd dd dd dd dd dd dd dd dd dd dd dd dd,
 fun v0=>NT q a (Pr X) v0 dd dd dd dd dd dd dd dd dd dd dd dd dd dd dd dd dd dd dd dd dd dd dd dd dd dd dd dd dd dd dd dd dd dd dd dd dd dd dd dd dd dd dd dd dd dd dd dd dd dd dd dd dd dd dd dd,
 fun v0=>Qx q a (Cq X) v0 dd dd dd dd dd dd dd dd dd dd dd dd dd dd dd dd dd dd dd dd dd dd dd dd dd dd dd dd dd dd dd dd dd dd dd dd dd dd dd dd dd dd dd dd dd dd dd dd dd dd dd dd dd dd dd dd dd dd dd dd dd dd,
 fun v0=>KQ q a (Cq X) (sY X) v0,
 fun v0=>yA q a (sY X) v0⟩
def cW (q:YF) (a:aP):Nat→Lv
 | 0=>⟨fun _=>none,fun _=>none,fun _=>none,fun _=>none,fun _=>none,fun _=>none,fun _=>none,fun _=>none,fun _=>none,fun _=>none,fun _=>none⟩
 | n+1=>pX q a (cW q a n)
theorem afh (q:YF) (a:aP) (kk:PK S):Pe a (P10 q kk)=Qw q a (Si a kk):=by
 kernel_rfl
theorem aex (q:YF) (a:aP) (kk:PK S):Si a (P10 q kk)=Q8 q a (PH a kk):=by
 kernel_rfl
theorem afZ (q:YF) (a:aP) (kk:PK S):PH a (P10 q kk)=Pd q a (NK a kk):=by
 kernel_rfl
theorem ahe (q:YF) (a:aP) (kk:PK S):NK a (P10 q kk)=T1 q a (Pg a kk):=by
 kernel_rfl
theorem afE (q:YF) (a:aP) (kk:PK S):Pg a (P10 q kk)=QV q a (SY a kk):=by
 kernel_rfl
theorem adG (q:YF) (a:aP) (kk:PK S):SY a (P10 q kk)=Ou q a (Pq a kk):=by
 kernel_rfl
theorem afj (q:YF) (a:aP) (kk:PK S):Pq a (P10 q kk)=RE q a (O3 a kk):=by
 kernel_rfl
theorem adC (q:YF) (a:aP) (kk:PK S):O3 a (P10 q kk)=NT q a (PV a kk):=by
 kernel_rfl
theorem ad2 (q:YF) (a:aP) (kk:PK S):PV a (P10 q kk)=Qx q a (JK a kk):=by
 kernel_rfl
theorem aeD (q:YF) (a:aP) (kk:PK S):JK a (P10 q kk)=KQ q a (JK a kk) (yP a kk):=by
 kernel_rfl
theorem abu (q:YF) (a:aP) (kk:PK S):yP a (P10 q kk)=yA q a (yP a kk):=by
 kernel_rfl
theorem ab7 (q:YF) (a:aP) (kk:PK S):BG q kk 10 Tryz.f10 [ag (bI a)]=EX q a (Pe a kk):=by
 kernel_rfl
theorem vC (q:YF) (a:aP):∀ n,Pe a (vB q n)=RH (cW q a n)∧Si a (vB q n)=Ph (cW q a n)∧PH a (vB q n)=N6 (cW q a n)∧NK a (vB q n)=RG (cW q a n)∧Pg a (vB q n)=SL (cW q a n)∧SY a (vB q n)=TB (cW q a n)∧Pq a (vB q n)=P_ (cW q a n)∧O3 a (vB q n)=PM (cW q a n)∧PV a (vB q n)=Pr (cW q a n)∧JK a (vB q n)=Cq (cW q a n)∧yP a (vB q n)=sY (cW q a n)
 | 0=>⟨rfl,rfl,rfl,rfl,rfl,rfl,rfl,rfl,rfl,rfl,rfl⟩
 | n+1=>by
  obtain ⟨h0,h1,h2,h3,h4,h5,h6,h7,h8,h9,vC⟩:=vC q a n
  exact ⟨(afh q a (vB q n)).trans (by rw [h1];kernel_rfl),(aex q a (vB q n)).trans (by rw [h2];kernel_rfl),(afZ q a (vB q n)).trans (by rw [h3];kernel_rfl),(ahe q a (vB q n)).trans (by rw [h4];kernel_rfl),(afE q a (vB q n)).trans (by rw [h5];kernel_rfl),(adG q a (vB q n)).trans (by rw [h6];kernel_rfl),(afj q a (vB q n)).trans (by rw [h7];kernel_rfl),(adC q a (vB q n)).trans (by rw [h8];kernel_rfl),(ad2 q a (vB q n)).trans (by rw [h9];kernel_rfl),(aeD q a (vB q n)).trans (by rw [h9,vC];kernel_rfl),(abu q a (vB q n)).trans (by rw [vC];kernel_rfl)⟩
theorem W10 (a:aP) (n:Nat) (x:S) (h:EX (aa O) a (RH (cW (aa O) a n))=some x):(W O).aE 10 [ag (bI a)]=some x:=by
 refine WG (fn:=Tryz.f10) (by kernel_rfl) (by kernel_rfl) (n:=n) ?_
 refine (ab7 (aa O) a (vB (aa O) n)).trans ?_
 obtain ⟨h0,h1,h2,h3,h4,h5,h6,h7,h8,h9,vC⟩:=vC (aa O) a n
 rw [h0]
 exact h
end
end Go.Proofs.YtonkoellfaopiaaGreatDoor.H
