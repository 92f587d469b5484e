import Derived.Test.YtonkoellfaopiaaGreatDoorX8
set_option linter.unusedSimpArgs false
set_option linter.unusedVariables false
namespace Go.Proofs.YtonkoellfaopiaaGreatDoor.H
open Go
noncomputable section
abbrev P9 (q:YF) (kk:PK S):PK S:=PG q 9 Tryz.f9 kk
abbrev H9 (q:YF):Nat→PK S:=HG q 9 Tryz.f9
abbrev T9_0:Type:=Bool→Bool→Bool→S→S→Bool→S→S→OS
def K9_0 (a:D33) (kk:PK S):T9_0:=fun v0 u1 u2 u3 u4 u5 u6 u7=> kk 2 11 6 (mkSt [(0,ag (e33 a)),(16,u3),(8,S.ptr 0 1),(12,bb u1),(2,ii 0),(18,u4),(10,S.ptr 0 0),(14,bb u5),(1,S.ptr 0 0),(17,u6),(9,S.agg [ii a.fConf_Idle,ii a.fConf_Most,ii a.fConf_Hold,ii a.fConf_Late,ii a.fConf_Cool]),(13,bb u2),(3,S.ptr 4 0),(19,bb v0),(11,ii a.fNow),(15,u7)] 40 [(0,B.box (List.map S.t (e33 a))),(4,B.box [ii a.fConf_Idle,ii a.fConf_Most,ii a.fConf_Hold,ii a.fConf_Late,ii a.fConf_Cool])])
abbrev T9_1:Type:=Bool→S→Bool→S→Bool→S→Bool→Bool→S→S→Bool→S→S→S→OS
def K9_1 (a:D33) (kk:PK S):T9_1:=fun v0 u1 u2 u3 u4 u5 u6 u7 u8 u9 u10 u11 u12 u13=> kk 2 17 6 (mkSt [(0,ag (e33 a)),(16,u1),(8,S.ptr 0 1),(24,u9),(20,bb u10),(12,bb u2),(2,ii 0),(18,u3),(10,S.ptr 0 0),(22,u11),(14,bb u4),(1,S.ptr 0 0),(17,u5),(9,S.agg [ii a.fConf_Idle,ii a.fConf_Most,ii a.fConf_Hold,ii a.fConf_Late,ii a.fConf_Cool]),(25,bb v0),(21,u12),(13,bb u6),(3,S.ptr 4 0),(19,bb u7),(11,ii a.fNow),(23,u13),(15,u8)] 40 [(0,B.box (List.map S.t (e33 a))),(4,B.box [ii a.fConf_Idle,ii a.fConf_Most,ii a.fConf_Hold,ii a.fConf_Late,ii a.fConf_Cool])])
abbrev T9_2:Type:=Bool→S→S→Bool→Bool→S→S→Bool→S→Bool→S→Bool→Bool→S→S→S→Bool→S→S→S→OS
def K9_2 (a:D33) (kk:PK S):T9_2:=fun v0 u1 u2 u3 u4 u5 u6 u7 u8 u9 u10 u11 u12 u13 u14 u15 u16 u17 u18 u19=> kk 2 23 6 (mkSt [(0,ag (e33 a)),(16,u1),(8,S.ptr 0 1),(24,u2),(20,bb u3),(12,bb u4),(28,u15),(2,ii 0),(18,u5),(10,S.ptr 0 0),(26,bb u16),(22,u6),(14,bb u7),(30,u17),(1,S.ptr 0 0),(17,u8),(9,S.agg [ii a.fConf_Idle,ii a.fConf_Most,ii a.fConf_Hold,ii a.fConf_Late,ii a.fConf_Cool]),(25,bb u9),(21,u10),(13,bb u11),(29,u18),(3,S.ptr 4 0),(19,bb u12),(11,ii a.fNow),(27,u19),(23,u13),(15,u14),(31,bb v0)] 40 [(0,B.box (List.map S.t (e33 a))),(4,B.box [ii a.fConf_Idle,ii a.fConf_Most,ii a.fConf_Hold,ii a.fConf_Late,ii a.fConf_Cool])])
abbrev T9_3:Type:=Bool→S→S→Bool→Bool→S→S→Bool→S→Bool→S→S→Bool→S→Bool→S→Bool→S→S→S→Bool→Bool→S→S→S→S→OS
def K9_3 (a:D33) (kk:PK S):T9_3:=fun v0 u1 u2 u3 u4 u5 u6 u7 u8 u9 u10 u11 u12 u13 u14 u15 u16 u17 u18 u19 u20 u21 u22 u23 u24 u25=> kk 2 29 6 (mkSt [(0,ag (e33 a)),(32,bb u21),(16,u1),(8,S.ptr 0 1),(24,u2),(36,u22),(20,bb u3),(12,bb u4),(28,u5),(2,ii 0),(34,u23),(18,u6),(10,S.ptr 0 0),(26,bb u7),(22,u8),(14,bb u9),(30,u10),(1,S.ptr 0 0),(33,u24),(17,u11),(9,S.agg [ii a.fConf_Idle,ii a.fConf_Most,ii a.fConf_Hold,ii a.fConf_Late,ii a.fConf_Cool]),(25,bb u12),(37,bb v0),(21,u13),(13,bb u14),(29,u15),(3,S.ptr 4 0),(35,u25),(19,bb u16),(11,ii a.fNow),(27,u17),(23,u18),(15,u19),(31,bb u20)] 40 [(0,B.box (List.map S.t (e33 a))),(4,B.box [ii a.fConf_Idle,ii a.fConf_Most,ii a.fConf_Hold,ii a.fConf_Late,ii a.fConf_Cool])])
abbrev T9_4:Type:=Bool→Bool→S→Bool→S→Int→S→Bool→Bool→S→S→S→Bool→Bool→S→Bool→Int→S→S→S→Bool→Bool→Bool→S→Bool→S→S→Bool→Bool→S→S→S→Int→Bool→S→S→Bool→S→S→OS
def K9_4 (a:D33) (kk:PK S):T9_4:=fun v0 u1 u2 u3 u4 u5 u6 u7 u8 u9 u10 u11 u12 u13 u14 u15 u16 u17 u18 u19 u20 u21 u22 u23 u24 u25 u26 u27 u28 u29 u30 u31 u32 u33 u34 u35 u36 u37 u38=> kk 7 11 46 (mkSt [(0,ag (e33 a)),(32,bb u1),(16,u2),(48,bb u3),(8,S.ptr 0 1),(40,ii a.fConf_Cool),(24,u4),(56,u34),(4,ii u5),(36,u6),(20,bb u7),(52,ii (ofN a.fPods.n)),(12,bb u8),(44,S.ptr 0 6),(28,u9),(2,ii 0),(34,u10),(18,u11),(50,S.ptr 0 7),(10,S.ptr 0 0),(42,bb u12),(26,bb u13),(58,u35),(38,bb false),(22,u14),(54,bb u36),(14,bb u15),(46,ii u16),(30,u17),(1,S.ptr 0 0),(33,u18),(17,u19),(9,S.agg [ii a.fConf_Idle,ii a.fConf_Most,ii a.fConf_Hold,ii a.fConf_Late,ii a.fConf_Cool]),(41,bb u20),(25,bb u21),(57,u37),(37,bb u22),(21,u23),(53,bb (gtI (ofN a.fPods.n) 24)),(13,bb u24),(45,S.t (T.rows 7 a.fTypes.n fun i=>e112 (a.fTypes.get i))),(29,u25),(3,S.ptr 4 0),(35,u26),(19,bb u27),(51,S.t (T.rows 12 a.fPods.n fun i=>e61 (a.fPods.get i))),(11,ii a.fNow),(43,bb u28),(27,u29),(59,bb v0),(39,S.ptr 4 4),(23,u30),(55,u38),(15,u31),(47,ii u32),(31,bb u33)] 86 [(0,B.box (List.map S.t (e33 a))),(4,B.box [ii a.fConf_Idle,ii a.fConf_Most,ii a.fConf_Hold,ii a.fConf_Late,ii a.fConf_Cool])])
abbrev T9_5:Type:=Bool→Bool→S→Bool→S→S→Int→S→Bool→Bool→S→S→S→Bool→Bool→S→S→Bool→Bool→Int→S→S→S→Bool→Bool→S→Bool→S→Bool→S→S→Bool→Bool→S→Bool→S→S→S→Int→Bool→S→Bool→S→S→S→OS
def K9_5 (a:D33) (kk:PK S):T9_5:=fun v0 u1 u2 u3 u4 u5 u6 u7 u8 u9 u10 u11 u12 u13 u14 u15 u16 u17 u18 u19 u20 u21 u22 u23 u24 u25 u26 u27 u28 u29 u30 u31 u32 u33 u34 u35 u36 u37 u38 u39 u40 u41 u42 u43 u44=> kk 7 17 46 (mkSt [(0,ag (e33 a)),(64,u40),(32,bb u1),(16,u2),(48,bb u3),(8,S.ptr 0 1),(40,ii a.fConf_Cool),(24,u4),(56,u5),(4,ii u6),(36,u7),(20,bb u8),(52,ii (ofN a.fPods.n)),(12,bb u9),(44,S.ptr 0 6),(28,u10),(60,bb u41),(2,ii 0),(34,u11),(18,u12),(50,S.ptr 0 7),(10,S.ptr 0 0),(42,bb u13),(26,bb u14),(58,u15),(38,bb false),(22,u16),(54,bb u17),(14,bb u18),(46,ii u19),(30,u20),(62,u42),(1,S.ptr 0 0),(65,bb v0),(33,u21),(17,u22),(9,S.agg [ii a.fConf_Idle,ii a.fConf_Most,ii a.fConf_Hold,ii a.fConf_Late,ii a.fConf_Cool]),(41,bb u23),(25,bb u24),(57,u25),(37,bb u26),(21,u27),(53,bb (gtI (ofN a.fPods.n) 24)),(13,bb u28),(45,S.t (T.rows 7 a.fTypes.n fun i=>e112 (a.fTypes.get i))),(29,u29),(61,u43),(3,S.ptr 4 0),(35,u30),(19,bb u31),(51,S.t (T.rows 12 a.fPods.n fun i=>e61 (a.fPods.get i))),(11,ii a.fNow),(43,bb u32),(27,u33),(59,bb u34),(39,S.ptr 4 4),(23,u35),(55,u36),(15,u37),(47,ii u38),(31,bb u39),(63,u44)] 86 [(0,B.box (List.map S.t (e33 a))),(4,B.box [ii a.fConf_Idle,ii a.fConf_Most,ii a.fConf_Hold,ii a.fConf_Late,ii a.fConf_Cool])])
abbrev T9_6:Type:=Bool→S→Bool→S→Bool→S→S→Int→S→Bool→Bool→S→Bool→S→S→Bool→Bool→S→S→Bool→Bool→Int→S→S→Bool→S→S→Bool→Bool→S→Bool→S→Bool→S→S→S→Bool→Bool→S→Bool→S→S→S→Int→Bool→S→S→Bool→S→S→S→OS
def K9_6 (a:D33) (kk:PK S):T9_6:=fun v0 u1 u2 u3 u4 u5 u6 u7 u8 u9 u10 u11 u12 u13 u14 u15 u16 u17 u18 u19 u20 u21 u22 u23 u24 u25 u26 u27 u28 u29 u30 u31 u32 u33 u34 u35 u36 u37 u38 u39 u40 u41 u42 u43 u44 u45 u46 u47 u48 u49 u50=> kk 7 23 46 (mkSt [(0,ag (e33 a)),(64,u1),(32,bb u2),(16,u3),(48,bb u4),(8,S.ptr 0 1),(40,ii a.fConf_Cool),(24,u5),(56,u6),(4,ii u7),(68,u46),(36,u8),(20,bb u9),(52,ii (ofN a.fPods.n)),(12,bb u10),(44,S.ptr 0 6),(28,u11),(60,bb u12),(2,ii 0),(66,bb u47),(34,u13),(18,u14),(50,S.ptr 0 7),(10,S.ptr 0 0),(42,bb u15),(26,bb u16),(58,u17),(70,u48),(38,bb false),(22,u18),(54,bb u19),(14,bb u20),(46,ii u21),(30,u22),(62,u23),(1,S.ptr 0 0),(65,bb u24),(33,u25),(17,u26),(9,S.agg [ii a.fConf_Idle,ii a.fConf_Most,ii a.fConf_Hold,ii a.fConf_Late,ii a.fConf_Cool]),(41,bb u27),(25,bb u28),(57,u29),(69,u49),(37,bb u30),(21,u31),(53,bb (gtI (ofN a.fPods.n) 24)),(13,bb u32),(45,S.t (T.rows 7 a.fTypes.n fun i=>e112 (a.fTypes.get i))),(29,u33),(61,u34),(3,S.ptr 4 0),(67,u50),(35,u35),(19,bb u36),(51,S.t (T.rows 12 a.fPods.n fun i=>e61 (a.fPods.get i))),(11,ii a.fNow),(43,bb u37),(27,u38),(59,bb u39),(71,bb v0),(39,S.ptr 4 4),(23,u40),(55,u41),(15,u42),(47,ii u43),(31,bb u44),(63,u45)] 86 [(0,B.box (List.map S.t (e33 a))),(4,B.box [ii a.fConf_Idle,ii a.fConf_Most,ii a.fConf_Hold,ii a.fConf_Late,ii a.fConf_Cool])])
abbrev T9_7:Type:=Bool→S→Bool→S→Bool→S→S→Int→S→S→Bool→Bool→S→Bool→Bool→S→S→Bool→Bool→S→S→S→Bool→Bool→Int→S→S→Bool→S→S→Bool→Bool→S→S→Bool→S→Bool→S→S→S→S→Bool→Bool→S→Bool→Bool→S→S→S→Int→Bool→S→Bool→S→S→S→S→OS
def K9_7 (a:D33) (kk:PK S):T9_7:=fun v0 u1 u2 u3 u4 u5 u6 u7 u8 u9 u10 u11 u12 u13 u14 u15 u16 u17 u18 u19 u20 u21 u22 u23 u24 u25 u26 u27 u28 u29 u30 u31 u32 u33 u34 u35 u36 u37 u38 u39 u40 u41 u42 u43 u44 u45 u46 u47 u48 u49 u50 u51 u52 u53 u54 u55 u56=> kk 7 29 46 (mkSt [(0,ag (e33 a)),(64,u1),(32,bb u2),(16,u3),(48,bb u4),(8,S.ptr 0 1),(72,bb u52),(40,ii a.fConf_Cool),(24,u5),(56,u6),(4,ii u7),(68,u8),(36,u9),(20,bb u10),(52,ii (ofN a.fPods.n)),(12,bb u11),(76,u53),(44,S.ptr 0 6),(28,u12),(60,bb u13),(2,ii 0),(66,bb u14),(34,u15),(18,u16),(50,S.ptr 0 7),(10,S.ptr 0 0),(74,u54),(42,bb u17),(26,bb u18),(58,u19),(70,u20),(38,bb false),(22,u21),(54,bb u22),(14,bb u23),(46,ii u24),(30,u25),(62,u26),(1,S.ptr 0 0),(65,bb u27),(33,u28),(17,u29),(9,S.agg [ii a.fConf_Idle,ii a.fConf_Most,ii a.fConf_Hold,ii a.fConf_Late,ii a.fConf_Cool]),(73,u55),(41,bb u30),(25,bb u31),(57,u32),(69,u33),(37,bb u34),(21,u35),(53,bb (gtI (ofN a.fPods.n) 24)),(13,bb u36),(77,bb v0),(45,S.t (T.rows 7 a.fTypes.n fun i=>e112 (a.fTypes.get i))),(29,u37),(61,u38),(3,S.ptr 4 0),(67,u39),(35,u40),(19,bb u41),(51,S.t (T.rows 12 a.fPods.n fun i=>e61 (a.fPods.get i))),(11,ii a.fNow),(75,u56),(43,bb u42),(27,u43),(59,bb u44),(71,bb u45),(39,S.ptr 4 4),(23,u46),(55,u47),(15,u48),(47,ii u49),(31,bb u50),(63,u51)] 86 [(0,B.box (List.map S.t (e33 a))),(4,B.box [ii a.fConf_Idle,ii a.fConf_Most,ii a.fConf_Hold,ii a.fConf_Late,ii a.fConf_Cool])])
abbrev T9_8:Type:=Bool→S→Bool→S→Bool→Bool→S→S→Int→S→S→Bool→Bool→S→S→Bool→Bool→S→S→S→Bool→Bool→S→S→S→Bool→Bool→Int→S→S→Bool→S→S→S→Bool→Bool→S→S→Bool→S→Bool→Bool→S→S→S→S→Bool→S→Bool→S→Bool→Bool→S→S→S→Int→Bool→S→S→S→Bool→S→S→OS
def K9_8 (a:D33) (kk:PK S):T9_8:=fun v0 u1 u2 u3 u4 u5 u6 u7 u8 u9 u10 u11 u12 u13 u14 u15 u16 u17 u18 u19 u20 u21 u22 u23 u24 u25 u26 u27 u28 u29 u30 u31 u32 u33 u34 u35 u36 u37 u38 u39 u40 u41 u42 u43 u44 u45 u46 u47 u48 u49 u50 u51 u52 u53 u54 u55 u56 u57 u58 u59 u60 u61 u62=> kk 7 35 46 (mkSt [(0,ag (e33 a)),(64,u1),(32,bb u2),(16,u3),(80,u58),(48,bb u4),(8,S.ptr 0 1),(72,bb u5),(40,ii a.fConf_Cool),(24,u6),(56,u7),(4,ii u8),(68,u9),(36,u10),(20,bb u11),(52,ii (ofN a.fPods.n)),(12,bb u12),(76,u13),(44,S.ptr 0 6),(28,u14),(60,bb u15),(2,ii 0),(66,bb u16),(34,u17),(18,u18),(82,u59),(50,S.ptr 0 7),(10,S.ptr 0 0),(74,u19),(42,bb u20),(26,bb u21),(58,u22),(70,u23),(38,bb false),(22,u24),(54,bb u25),(14,bb u26),(78,bb u60),(46,ii u27),(30,u28),(62,u29),(1,S.ptr 0 0),(65,bb u30),(33,u31),(17,u32),(81,u61),(9,S.agg [ii a.fConf_Idle,ii a.fConf_Most,ii a.fConf_Hold,ii a.fConf_Late,ii a.fConf_Cool]),(73,u33),(41,bb u34),(25,bb u35),(57,u36),(69,u37),(37,bb u38),(21,u39),(53,bb (gtI (ofN a.fPods.n) 24)),(13,bb u40),(77,bb u41),(45,S.t (T.rows 7 a.fTypes.n fun i=>e112 (a.fTypes.get i))),(29,u42),(61,u43),(3,S.ptr 4 0),(67,u44),(35,u45),(19,bb u46),(83,bb v0),(51,S.t (T.rows 12 a.fPods.n fun i=>e61 (a.fPods.get i))),(11,ii a.fNow),(75,u47),(43,bb u48),(27,u49),(59,bb u50),(71,bb u51),(39,S.ptr 4 4),(23,u52),(55,u53),(15,u54),(79,u62),(47,ii u55),(31,bb u56),(63,u57)] 86 [(0,B.box (List.map S.t (e33 a))),(4,B.box [ii a.fConf_Idle,ii a.fConf_Most,ii a.fConf_Hold,ii a.fConf_Late,ii a.fConf_Cool])])
def K9_9 (a:D33) (kk:PK S):OS:=kk 10 0 0 (mkSt [(92,ii 0),(90,S.sl 1 6),(1,S.ptr 0 0),(91,ii (ofN 6))] 2 [(0,B.box (List.map S.t (e33 a))),(1,B.lst false 1 6 [S.t (T.v (.func (Go.Fn.func 25) #[] #[])),S.t (T.v (.func (Go.Fn.func 26) #[] #[])),S.t (T.v (.func (Go.Fn.func 27) #[] #[])),S.t (T.v (.func (Go.Fn.func 28) #[] #[])),S.t (T.v (.func (Go.Fn.func 29) #[] #[])),S.t (T.v (.func (Go.Fn.func 30) #[] #[]))])])
def K9_10 (a:D33) (kk:PK S):OS:=kk 10 0 0 (mkSt [(92,ii 1),(90,S.sl 1 6),(1,S.ptr 0 0),(91,ii (ofN 6))] 2 [(0,B.box (List.map S.t (e33 a))),(1,B.lst false 1 6 [S.t (T.v (.func (Go.Fn.func 25) #[] #[])),S.t (T.v (.func (Go.Fn.func 26) #[] #[])),S.t (T.v (.func (Go.Fn.func 27) #[] #[])),S.t (T.v (.func (Go.Fn.func 28) #[] #[])),S.t (T.v (.func (Go.Fn.func 29) #[] #[])),S.t (T.v (.func (Go.Fn.func 30) #[] #[]))])])
def K9_11 (a:D33) (kk:PK S):OS:=kk 10 0 0 (mkSt [(92,ii 2),(90,S.sl 1 6),(1,S.ptr 0 0),(91,ii (ofN 6))] 2 [(0,B.box (List.map S.t (e33 a))),(1,B.lst false 1 6 [S.t (T.v (.func (Go.Fn.func 25) #[] #[])),S.t (T.v (.func (Go.Fn.func 26) #[] #[])),S.t (T.v (.func (Go.Fn.func 27) #[] #[])),S.t (T.v (.func (Go.Fn.func 28) #[] #[])),S.t (T.v (.func (Go.Fn.func 29) #[] #[])),S.t (T.v (.func (Go.Fn.func 30) #[] #[]))])])
def K9_12 (a:D33) (kk:PK S):OS:=kk 10 0 0 (mkSt [(92,ii 3),(90,S.sl 1 6),(1,S.ptr 0 0),(91,ii (ofN 6))] 2 [(0,B.box (List.map S.t (e33 a))),(1,B.lst false 1 6 [S.t (T.v (.func (Go.Fn.func 25) #[] #[])),S.t (T.v (.func (Go.Fn.func 26) #[] #[])),S.t (T.v (.func (Go.Fn.func 27) #[] #[])),S.t (T.v (.func (Go.Fn.func 28) #[] #[])),S.t (T.v (.func (Go.Fn.func 29) #[] #[])),S.t (T.v (.func (Go.Fn.func 30) #[] #[]))])])
def K9_13 (a:D33) (kk:PK S):OS:=kk 10 0 0 (mkSt [(92,ii 4),(90,S.sl 1 6),(1,S.ptr 0 0),(91,ii (ofN 6))] 2 [(0,B.box (List.map S.t (e33 a))),(1,B.lst false 1 6 [S.t (T.v (.func (Go.Fn.func 25) #[] #[])),S.t (T.v (.func (Go.Fn.func 26) #[] #[])),S.t (T.v (.func (Go.Fn.func 27) #[] #[])),S.t (T.v (.func (Go.Fn.func 28) #[] #[])),S.t (T.v (.func (Go.Fn.func 29) #[] #[])),S.t (T.v (.func (Go.Fn.func 30) #[] #[]))])])
def K9_14 (a:D33) (kk:PK S):OS:=kk 10 0 0 (mkSt [(92,ii 5),(90,S.sl 1 6),(1,S.ptr 0 0),(91,ii (ofN 6))] 2 [(0,B.box (List.map S.t (e33 a))),(1,B.lst false 1 6 [S.t (T.v (.func (Go.Fn.func 25) #[] #[])),S.t (T.v (.func (Go.Fn.func 26) #[] #[])),S.t (T.v (.func (Go.Fn.func 27) #[] #[])),S.t (T.v (.func (Go.Fn.func 28) #[] #[])),S.t (T.v (.func (Go.Fn.func 29) #[] #[])),S.t (T.v (.func (Go.Fn.func 30) #[] #[]))])])
def K9_15 (a:D33) (kk:PK S):OS:=kk 10 0 0 (mkSt [(92,ii 6),(90,S.sl 1 6),(1,S.ptr 0 0),(91,ii (ofN 6))] 2 [(0,B.box (List.map S.t (e33 a))),(1,B.lst false 1 6 [S.t (T.v (.func (Go.Fn.func 25) #[] #[])),S.t (T.v (.func (Go.Fn.func 26) #[] #[])),S.t (T.v (.func (Go.Fn.func 27) #[] #[])),S.t (T.v (.func (Go.Fn.func 28) #[] #[])),S.t (T.v (.func (Go.Fn.func 29) #[] #[])),S.t (T.v (.func (Go.Fn.func 30) #[] #[]))])])
def b9_0 (q:YF) (a:D33) (k1:T9_1):T9_0:=fun v0 u1 u2 u3 u4 u5 u6 u7=>bif v0 then k1 true u3 u1 u4 u5 u6 u2 v0 u7 S.ud true S.ud S.ud S.ud else yC q 23 [ii a.fConf_Most] fun y=>k1 (!y.b 0) u3 u1 u4 u5 u6 u2 v0 u7 (S.t (T.v (.bool !y.b 0))) false (ii a.fConf_Most) (S.ptr 4 1) (bb (y.b 0))
def b9_1 (q:YF) (a:D33) (k2:T9_2):T9_1:=fun v0 u1 u2 u3 u4 u5 u6 u7 u8 u9 u10 u11 u12 u13=>bif v0 then k2 true u1 u9 u10 u2 u3 u11 u4 u5 v0 u12 u6 u7 u13 u8 S.ud true S.ud S.ud S.ud else yC q 23 [ii a.fConf_Hold] fun y=>k2 (!y.b 0) u1 u9 u10 u2 u3 u11 u4 u5 v0 u12 u6 u7 u13 u8 (ii a.fConf_Hold) false (S.t (T.v (.bool !y.b 0))) (bb (y.b 0)) (S.ptr 4 2)
def b9_2 (q:YF) (a:D33) (k3:T9_3):T9_2:=fun v0 u1 u2 u3 u4 u5 u6 u7 u8 u9 u10 u11 u12 u13 u14 u15 u16 u17 u18 u19=>bif v0 then k3 true u1 u2 u3 u4 u15 u5 u16 u6 u7 u17 u8 u9 u10 u11 u18 u12 u19 u13 u14 v0 true S.ud S.ud S.ud S.ud else yC q 23 [ii a.fConf_Late] fun y=>k3 (!y.b 0) u1 u2 u3 u4 u15 u5 u16 u6 u7 u17 u8 u9 u10 u11 u18 u12 u19 u13 u14 v0 false (S.t (T.v (.bool !y.b 0))) (ii a.fConf_Late) (S.ptr 4 3) (bb (y.b 0))
def b9_3 (q:YF) (a:D33) (k4:T9_4):T9_3:=fun v0 u1 u2 u3 u4 u5 u6 u7 u8 u9 u10 u11 u12 u13 u14 u15 u16 u17 u18 u19 u20 u21 u22 u23 u24 u25=>bif v0 then some (ii 1) else yC q 23 [ii a.fConf_Cool] fun y=>bif !y.b 0 then some (ii 1) else yC q 24 [S.t (T.rows 7 a.fTypes.n fun i=>e112 (a.fTypes.get i))] fun y_1=>bif !eqI (y_1.i 0) 0 then some (ii (y_1.i 0)) else bif gtI (ofN a.fPods.n) 24 then k4 true u21 u1 (!eqI (y_1.i 0) 0) u2 (y_1.i 0) u22 u3 u4 u5 u23 u6 (!y.b 0) u7 u8 u9 (y_1.i 0) u10 u24 u11 (y.b 0) u12 v0 u13 u14 u15 u25 u16 (!y.b 0) u17 u18 u19 (y_1.i 0) u20 S.ud S.ud true S.ud S.ud else k4 (gtI (ofN a.fPools.n) 4) u21 u1 (!eqI (y_1.i 0) 0) u2 (y_1.i 0) u22 u3 u4 u5 u23 u6 (!y.b 0) u7 u8 u9 (y_1.i 0) u10 u24 u11 (y.b 0) u12 v0 u13 u14 u15 u25 u16 (!y.b 0) u17 u18 u19 (y_1.i 0) u20 (S.t (T.rows 10 a.fPools.n fun i=>e77 (a.fPools.get i))) (bb (gtI (ofN a.fPools.n) 4)) false (ii (ofN a.fPools.n)) (S.ptr 0 8)
def b9_4 (q:YF) (a:D33) (k5:T9_5):T9_4:=fun v0 u1 u2 u3 u4 u5 u6 u7 u8 u9 u10 u11 u12 u13 u14 u15 u16 u17 u18 u19 u20 u21 u22 u23 u24 u25 u26 u27 u28 u29 u30 u31 u32 u33 u34 u35 u36 u37 u38=>bif v0 then k5 true u1 u2 u3 u4 u34 u5 u6 u7 u8 u9 u10 u11 u12 u13 u35 u14 u36 u15 u16 u17 u18 u19 u20 u21 u37 u22 u23 u24 u25 u26 u27 u28 u29 v0 u30 u38 u31 u32 u33 S.ud true S.ud S.ud S.ud else k5 (gtI (ofN a.fClaims.n) 16) u1 u2 u3 u4 u34 u5 u6 u7 u8 u9 u10 u11 u12 u13 u35 u14 u36 u15 u16 u17 u18 u19 u20 u21 u37 u22 u23 u24 u25 u26 u27 u28 u29 v0 u30 u38 u31 u32 u33 (bb (gtI (ofN a.fClaims.n) 16)) false (S.t (T.rows 15 a.fClaims.n fun i=>e52 (a.fClaims.get i))) (S.ptr 0 9) (ii (ofN a.fClaims.n))
def b9_5 (q:YF) (a:D33) (k6:T9_6):T9_5:=fun v0 u1 u2 u3 u4 u5 u6 u7 u8 u9 u10 u11 u12 u13 u14 u15 u16 u17 u18 u19 u20 u21 u22 u23 u24 u25 u26 u27 u28 u29 u30 u31 u32 u33 u34 u35 u36 u37 u38 u39 u40 u41 u42 u43 u44=>bif v0 then k6 true u40 u1 u2 u3 u4 u5 u6 u7 u8 u9 u10 u41 u11 u12 u13 u14 u15 u16 u17 u18 u19 u20 u42 v0 u21 u22 u23 u24 u25 u26 u27 u28 u29 u43 u30 u31 u32 u33 u34 u35 u36 u37 u38 u39 u44 S.ud true S.ud S.ud S.ud else k6 (gtI (ofN a.fCommands.n) 1) u40 u1 u2 u3 u4 u5 u6 u7 u8 u9 u10 u41 u11 u12 u13 u14 u15 u16 u17 u18 u19 u20 u42 v0 u21 u22 u23 u24 u25 u26 u27 u28 u29 u43 u30 u31 u32 u33 u34 u35 u36 u37 u38 u39 u44 (S.t (T.rows 8 a.fCommands.n fun i=>e122 (a.fCommands.get i))) false (bb (gtI (ofN a.fCommands.n) 1)) (ii (ofN a.fCommands.n)) (S.ptr 0 10)
def b9_6 (q:YF) (a:D33) (k7:T9_7):T9_6:=fun v0 u1 u2 u3 u4 u5 u6 u7 u8 u9 u10 u11 u12 u13 u14 u15 u16 u17 u18 u19 u20 u21 u22 u23 u24 u25 u26 u27 u28 u29 u30 u31 u32 u33 u34 u35 u36 u37 u38 u39 u40 u41 u42 u43 u44 u45 u46 u47 u48 u49 u50=>bif v0 then k7 true u1 u2 u3 u4 u5 u6 u7 u46 u8 u9 u10 u11 u12 u47 u13 u14 u15 u16 u17 u48 u18 u19 u20 u21 u22 u23 u24 u25 u26 u27 u28 u29 u49 u30 u31 u32 u33 u34 u50 u35 u36 u37 u38 u39 v0 u40 u41 u42 u43 u44 u45 true S.ud S.ud S.ud S.ud else k7 (gtI (ofN a.fCools.n) 72) u1 u2 u3 u4 u5 u6 u7 u46 u8 u9 u10 u11 u12 u47 u13 u14 u15 u16 u17 u48 u18 u19 u20 u21 u22 u23 u24 u25 u26 u27 u28 u29 u49 u30 u31 u32 u33 u34 u50 u35 u36 u37 u38 u39 v0 u40 u41 u42 u43 u44 u45 false (bb (gtI (ofN a.fCools.n) 72)) (S.t (T.rows 4 a.fCools.n fun i=>e125 (a.fCools.get i))) (S.ptr 0 11) (ii (ofN a.fCools.n))
def b9_7 (q:YF) (a:D33) (k8:T9_8):T9_7:=fun v0 u1 u2 u3 u4 u5 u6 u7 u8 u9 u10 u11 u12 u13 u14 u15 u16 u17 u18 u19 u20 u21 u22 u23 u24 u25 u26 u27 u28 u29 u30 u31 u32 u33 u34 u35 u36 u37 u38 u39 u40 u41 u42 u43 u44 u45 u46 u47 u48 u49 u50 u51 u52 u53 u54 u55 u56=>bif v0 then k8 true u1 u2 u3 u4 u52 u5 u6 u7 u8 u9 u10 u11 u53 u12 u13 u14 u15 u16 u54 u17 u18 u19 u20 u21 u22 u23 u24 u25 u26 u27 u28 u29 u55 u30 u31 u32 u33 u34 u35 u36 v0 u37 u38 u39 u40 u41 u56 u42 u43 u44 u45 u46 u47 u48 u49 u50 u51 S.ud S.ud true S.ud S.ud else k8 (gtI (ofN a.fInsts.n) 64) u1 u2 u3 u4 u52 u5 u6 u7 u8 u9 u10 u11 u53 u12 u13 u14 u15 u16 u54 u17 u18 u19 u20 u21 u22 u23 u24 u25 u26 u27 u28 u29 u55 u30 u31 u32 u33 u34 u35 u36 v0 u37 u38 u39 u40 u41 u56 u42 u43 u44 u45 u46 u47 u48 u49 u50 u51 (S.t (T.rows 7 a.fInsts.n fun i=>e91 (a.fInsts.get i))) (bb (gtI (ofN a.fInsts.n) 64)) false (ii (ofN a.fInsts.n)) (S.ptr 0 12)
def b9_8 (q:YF) (a:D33) (k9:OS):T9_8:=fun v0 u1 u2 u3 u4 u5 u6 u7 u8 u9 u10 u11 u12 u13 u14 u15 u16 u17 u18 u19 u20 u21 u22 u23 u24 u25 u26 u27 u28 u29 u30 u31 u32 u33 u34 u35 u36 u37 u38 u39 u40 u41 u42 u43 u44 u45 u46 u47 u48 u49 u50 u51 u52 u53 u54 u55 u56 u57 u58 u59 u60 u61 u62=>bif v0 then some (ii 3) else bif gtI (ofN a.fNotes.n) 32 then some (ii 3) else k9
def b9_9 (q:YF) (a:D33) (k10:OS):OS:=yC q 25 [ag (e33 a)] fun y=>bif !eqI (y.i 0) 0 then some (ii (y.i 0)) else k10
def b9_10 (q:YF) (a:D33) (k11:OS):OS:=yC q 26 [ag (e33 a)] fun y=>bif !eqI (y.i 0) 0 then some (ii (y.i 0)) else k11
def b9_11 (q:YF) (a:D33) (k12:OS):OS:=yC q 27 [ag (e33 a)] fun y=>bif !eqI (y.i 0) 0 then some (ii (y.i 0)) else k12
def b9_12 (q:YF) (a:D33) (k13:OS):OS:=yC q 28 [ag (e33 a)] fun y=>bif !eqI (y.i 0) 0 then some (ii (y.i 0)) else k13
def b9_13 (q:YF) (a:D33) (k14:OS):OS:=yC q 29 [ag (e33 a)] fun y=>bif !eqI (y.i 0) 0 then some (ii (y.i 0)) else k14
def b9_14 (q:YF) (a:D33) (k15:OS):OS:=yC q 30 [ag (e33 a)] fun y=>bif !eqI (y.i 0) 0 then some (ii (y.i 0)) else k15
def b9_15 (q:YF) (a:D33):OS:=some (ii 0)
def e9_in (q:YF) (a:D33) (k0:T9_0):OS:=yC q 22 [ii a.fNow] fun y=>bif !y.b 0 then k0 true (y.b 0) (!y.b 0) S.ud S.ud true S.ud S.ud else yC q 23 [ii a.fConf_Idle] fun y_1=>k0 (!y_1.b 0) (y.b 0) (!y.b 0) (ii a.fConf_Idle) (S.t (T.v (.bool !y_1.b 0))) false (bb (y_1.b 0)) (S.ptr 4 0)
structure X9 where
 x0:Bool→OS
 x1:Bool→OS
 x2:Bool→OS
 x3:Bool→OS
 x4:Bool→OS
 x5:Bool→OS
 x6:Bool→OS
 x7:Bool→OS
 x8:Bool→OS
 x9:OS
 x10:OS
 x11:OS
 x12:OS
 x13:OS
 x14:OS
 x15:OS
def D9_0 (X:X9):T9_0:=fun v0 _ _ _ _ _ _ _=>X.x0 v0
def D9_1 (X:X9):T9_1:=fun v0 _ _ _ _ _ _ _ _ _ _ _ _ _=>X.x1 v0
def D9_2 (X:X9):T9_2:=fun v0 _ _ _ _ _ _ _ _ _ _ _ _ _ _ _ _ _ _ _=>X.x2 v0
def D9_3 (X:X9):T9_3:=fun v0 _ _ _ _ _ _ _ _ _ _ _ _ _ _ _ _ _ _ _ _ _ _ _ _ _=>X.x3 v0
def D9_4 (X:X9):T9_4:=fun v0 _ _ _ _ _ _ _ _ _ _ _ _ _ _ _ _ _ _ _ _ _ _ _ _ _ _ _ _ _ _ _ _ _ _ _ _ _ _=>X.x4 v0
def D9_5 (X:X9):T9_5:=fun v0 _ _ _ _ _ _ _ _ _ _ _ _ _ _ _ _ _ _ _ _ _ _ _ _ _ _ _ _ _ _ _ _ _ _ _ _ _ _ _ _ _ _ _ _=>X.x5 v0
def D9_6 (X:X9):T9_6:=fun v0 _ _ _ _ _ _ _ _ _ _ _ _ _ _ _ _ _ _ _ _ _ _ _ _ _ _ _ _ _ _ _ _ _ _ _ _ _ _ _ _ _ _ _ _ _ _ _ _ _ _=>X.x6 v0
def D9_7 (X:X9):T9_7:=fun v0 _ _ _ _ _ _ _ _ _ _ _ _ _ _ _ _ _ _ _ _ _ _ _ _ _ _ _ _ _ _ _ _ _ _ _ _ _ _ _ _ _ _ _ _ _ _ _ _ _ _ _ _ _ _ _ _=>X.x7 v0
def D9_8 (X:X9):T9_8:=fun v0 _ _ _ _ _ _ _ _ _ _ _ _ _ _ _ _ _ _ _ _ _ _ _ _ _ _ _ _ _ _ _ _ _ _ _ _ _ _ _ _ _ _ _ _ _ _ _ _ _ _ _ _ _ _ _ _ _ _ _ _ _ _=>X.x8 v0
def D9_9 (X:X9):OS:=X.x9
def D9_10 (X:X9):OS:=X.x10
def D9_11 (X:X9):OS:=X.x11
def D9_12 (X:X9):OS:=X.x12
def D9_13 (X:X9):OS:=X.x13
def D9_14 (X:X9):OS:=X.x14
def D9_15 (X:X9):OS:=X.x15
def X9s (q:YF) (a:D33) (X:X9):X9:=⟨fun v0=>b9_0 q a (D9_1 X) v0 dd dd dd dd dd dd dd,
 fun v0=>b9_1 q a (D9_2 X) v0 dd dd dd dd dd dd dd dd dd dd dd dd dd,
 fun v0=>b9_2 q a (D9_3 X) v0 dd dd dd dd dd dd dd dd dd dd dd dd dd dd dd dd dd dd dd,
 fun v0=>b9_3 q a (D9_4 X) v0 dd dd dd dd dd dd dd dd dd dd dd dd dd dd dd dd dd dd dd dd dd dd dd dd dd,
 fun v0=>b9_4 q a (D9_5 X) v0 dd dd dd dd dd dd dd dd dd dd dd dd dd dd dd dd dd dd dd dd dd dd dd dd dd dd dd dd dd dd dd dd dd dd dd dd dd dd,
 fun v0=>b9_5 q a (D9_6 X) v0 dd dd dd dd dd dd dd dd dd dd dd dd dd dd dd dd dd dd dd dd dd dd dd dd dd dd dd dd dd dd dd dd dd dd dd dd dd dd dd dd dd dd dd dd,
 fun v0=>b9_6 q a (D9_7 X) v0 dd dd dd dd dd dd dd dd dd dd dd dd dd dd dd dd dd dd dd dd dd dd dd dd dd dd dd dd dd dd dd dd dd dd dd dd dd dd dd dd dd dd dd dd dd dd dd dd dd dd,
 fun v0=>b9_7 q a (D9_8 X) v0 dd dd dd dd dd dd dd dd dd dd dd dd dd dd dd dd dd dd dd dd dd dd dd dd dd dd dd dd dd dd dd dd dd dd dd dd dd dd dd dd dd dd dd dd dd dd dd dd dd dd dd dd dd dd dd dd,
 fun v0=>b9_8 q a (D9_9 X) v0 dd dd dd dd dd dd dd dd dd dd dd dd dd dd dd dd dd dd dd dd dd dd dd dd dd dd dd dd dd dd dd dd dd dd dd dd dd dd dd dd dd dd dd dd dd dd dd dd dd dd dd dd dd dd dd dd dd dd dd dd dd dd,
 b9_9 q a (D9_10 X),
 b9_10 q a (D9_11 X),
 b9_11 q a (D9_12 X),
 b9_12 q a (D9_13 X),
 b9_13 q a (D9_14 X),
 b9_14 q a (D9_15 X),
 b9_15 q a⟩
def X9n (q:YF) (a:D33):Nat→X9
 | 0=>⟨fun _=>none,fun _=>none,fun _=>none,fun _=>none,fun _=>none,fun _=>none,fun _=>none,fun _=>none,fun _=>none,none,none,none,none,none,none,none⟩
 | n+1=>X9s q a (X9n q a n)
theorem l9_0 (q:YF) (a:D33) (kk:PK S):K9_0 a (P9 q kk)=b9_0 q a (K9_1 a kk):=by
 kernel_rfl
theorem l9_1 (q:YF) (a:D33) (kk:PK S):K9_1 a (P9 q kk)=b9_1 q a (K9_2 a kk):=by
 kernel_rfl
theorem l9_2 (q:YF) (a:D33) (kk:PK S):K9_2 a (P9 q kk)=b9_2 q a (K9_3 a kk):=by
 kernel_rfl
theorem l9_3 (q:YF) (a:D33) (kk:PK S):K9_3 a (P9 q kk)=b9_3 q a (K9_4 a kk):=by
 kernel_rfl
theorem l9_4 (q:YF) (a:D33) (kk:PK S):K9_4 a (P9 q kk)=b9_4 q a (K9_5 a kk):=by
 kernel_rfl
theorem l9_5 (q:YF) (a:D33) (kk:PK S):K9_5 a (P9 q kk)=b9_5 q a (K9_6 a kk):=by
 kernel_rfl
theorem l9_6 (q:YF) (a:D33) (kk:PK S):K9_6 a (P9 q kk)=b9_6 q a (K9_7 a kk):=by
 kernel_rfl
theorem l9_7 (q:YF) (a:D33) (kk:PK S):K9_7 a (P9 q kk)=b9_7 q a (K9_8 a kk):=by
 kernel_rfl
theorem l9_8 (q:YF) (a:D33) (kk:PK S):K9_8 a (P9 q kk)=b9_8 q a (K9_9 a kk):=by
 kernel_rfl
theorem l9_9 (q:YF) (a:D33) (kk:PK S):K9_9 a (P9 q kk)=b9_9 q a (K9_10 a kk):=by
 kernel_rfl
theorem l9_10 (q:YF) (a:D33) (kk:PK S):K9_10 a (P9 q kk)=b9_10 q a (K9_11 a kk):=by
 kernel_rfl
theorem l9_11 (q:YF) (a:D33) (kk:PK S):K9_11 a (P9 q kk)=b9_11 q a (K9_12 a kk):=by
 kernel_rfl
theorem l9_12 (q:YF) (a:D33) (kk:PK S):K9_12 a (P9 q kk)=b9_12 q a (K9_13 a kk):=by
 kernel_rfl
theorem l9_13 (q:YF) (a:D33) (kk:PK S):K9_13 a (P9 q kk)=b9_13 q a (K9_14 a kk):=by
 kernel_rfl
theorem l9_14 (q:YF) (a:D33) (kk:PK S):K9_14 a (P9 q kk)=b9_14 q a (K9_15 a kk):=by
 kernel_rfl
theorem l9_15 (q:YF) (a:D33) (kk:PK S):K9_15 a (P9 q kk)=b9_15 q a:=by
 kernel_rfl
theorem l9_in (q:YF) (a:D33) (kk:PK S):BG q kk 9 Tryz.f9 [ag (e33 a)]=e9_in q a (K9_0 a kk):=by
 kernel_rfl
theorem h9 (q:YF) (a:D33):∀ n,K9_0 a (H9 q n)=D9_0 (X9n q a n)∧K9_1 a (H9 q n)=D9_1 (X9n q a n)∧K9_2 a (H9 q n)=D9_2 (X9n q a n)∧K9_3 a (H9 q n)=D9_3 (X9n q a n)∧K9_4 a (H9 q n)=D9_4 (X9n q a n)∧K9_5 a (H9 q n)=D9_5 (X9n q a n)∧K9_6 a (H9 q n)=D9_6 (X9n q a n)∧K9_7 a (H9 q n)=D9_7 (X9n q a n)∧K9_8 a (H9 q n)=D9_8 (X9n q a n)∧K9_9 a (H9 q n)=D9_9 (X9n q a n)∧K9_10 a (H9 q n)=D9_10 (X9n q a n)∧K9_11 a (H9 q n)=D9_11 (X9n q a n)∧K9_12 a (H9 q n)=D9_12 (X9n q a n)∧K9_13 a (H9 q n)=D9_13 (X9n q a n)∧K9_14 a (H9 q n)=D9_14 (X9n q a n)∧K9_15 a (H9 q n)=D9_15 (X9n q a n)
 | 0=>⟨rfl,rfl,rfl,rfl,rfl,rfl,rfl,rfl,rfl,rfl,rfl,rfl,rfl,rfl,rfl,rfl⟩
 | n+1=>by
  obtain ⟨h0,h1,h2,h3,h4,h5,h6,h7,h8,h9,h10,h11,h12,h13,h14,h15⟩:=h9 q a n
  exact ⟨(l9_0 q a (H9 q n)).trans (by rw [h1];kernel_rfl),(l9_1 q a (H9 q n)).trans (by rw [h2];kernel_rfl),(l9_2 q a (H9 q n)).trans (by rw [h3];kernel_rfl),(l9_3 q a (H9 q n)).trans (by rw [h4];kernel_rfl),(l9_4 q a (H9 q n)).trans (by rw [h5];kernel_rfl),(l9_5 q a (H9 q n)).trans (by rw [h6];kernel_rfl),(l9_6 q a (H9 q n)).trans (by rw [h7];kernel_rfl),(l9_7 q a (H9 q n)).trans (by rw [h8];kernel_rfl),(l9_8 q a (H9 q n)).trans (by rw [h9];kernel_rfl),(l9_9 q a (H9 q n)).trans (by rw [h10];kernel_rfl),(l9_10 q a (H9 q n)).trans (by rw [h11];kernel_rfl),(l9_11 q a (H9 q n)).trans (by rw [h12];kernel_rfl),(l9_12 q a (H9 q n)).trans (by rw [h13];kernel_rfl),(l9_13 q a (H9 q n)).trans (by rw [h14];kernel_rfl),(l9_14 q a (H9 q n)).trans (by rw [h15];kernel_rfl),(l9_15 q a (H9 q n)).trans (by kernel_rfl)⟩
theorem W9 (a:D33) (n:Nat) (x:S) (h:e9_in (regs O) a (D9_0 (X9n (regs O) a n))=some x):(W O).callT 9 [ag (e33 a)]=some x:=by
 refine WG (fn:=Tryz.f9) (by kernel_rfl) (by kernel_rfl) (n:=n) ?_
 refine (l9_in (regs O) a (H9 (regs O) n)).trans ?_
 obtain ⟨h0,h1,h2,h3,h4,h5,h6,h7,h8,h9,h10,h11,h12,h13,h14,h15⟩:=h9 (regs O) a n
 rw [h0]
 exact h
abbrev P11 (q:YF) (kk:PK S):PK S:=PG q 11 Tryz.f11 kk
abbrev H11 (q:YF):Nat→PK S:=HG q 11 Tryz.f11
abbrev T11_0:Type:=Int→Rw0→Nat→OS
def K11_0 (a:D33) (kk:PK S):T11_0:=fun v0 v1 u2=> kk 6 0 0 (mkSt [(20,ii v0),(18,S.t (T.rows 15 a.fClaims.n fun i=>e52 (a.fClaims.get i))),(1,S.ptr 0 0),(5,S.sl 1 u2),(19,ii (ofN a.fClaims.n))] 2 [(0,B.box (List.map S.t (e33 a))),(1,B.row false 21 v1.n v1.g)])
abbrev T11_1:Type:=D52→BA→BA→BA→Int→BA→BA→BA→Int→Int→Int→Rw0→Int→BA→Int→Int→Bool→Rw0→Int→Rw0→Nat→OS
def K11_1 (a:D33) (kk:PK S):T11_1:=fun v0 v1 v2 v3 v4 v5 v6 v7 v8 v9 v10 v11 v12 v13 v14 v15 v16 v17 v18 v19 u20=> kk 11 0 0 (mkSt [(8,S.ptr 3 0),(20,ii v18),(92,S.sl 0 0),(18,S.t (T.rows 15 a.fClaims.n fun i=>e52 (a.fClaims.get i))),(1,S.ptr 0 0),(5,S.sl 1 u20),(93,S.t (T.rows 0 a.fPods.n fun i=>e61 (a.fPods.get i))),(19,ii (ofN a.fClaims.n)),(43,S.fn (Go.Fn.func 85) [] [S.ptr 4 0,S.ptr 5 0]),(7,S.ptr 2 0)] 7 [(0,B.box (List.map S.t (e33 a))),(4,B.box (List.map S.t (e33 a))),(2,B.box (List.map S.t (e52 v0))),(6,B.row false 1 0 nil0),(1,B.row false 21 v19.n v19.g),(5,B.box [ss v1]),(3,B.box [ss v2,ss v3,ii v4,ss v5,ss v6,ss v7,ii v8,ii v9,ii v10,S.t (T.rows 3 v11.n v11.g),ii v12,ss v13,ii v14,ii v15,bb v16,S.t (T.rows 2 v17.n v17.g),ii 0,ii 0,ii 0,ii 0,S.sl 6 0])])
abbrev T11_2:Type:=D52→BA→BA→Int→BA→BA→BA→Int→Int→Int→Rw0→Int→BA→Int→Int→Bool→Rw0→Rw0→Int→Int→Int→Rw0→Nat→Nat→OS
def K11_2 (a:D33) (kk:PK S):T11_2:=fun v0 v1 v2 v3 v4 v5 v6 v7 v8 v9 v10 v11 v12 v13 v14 v15 v16 v17 v18 v19 v20 v21 u22 u23=> kk 19 0 0 (mkSt [(8,S.ptr 3 0),(20,ii v20),(18,S.t (T.rows 15 a.fClaims.n fun i=>e52 (a.fClaims.get i))),(1,S.ptr 0 0),(5,S.sl 1 u23),(69,ii 0),(19,ii (ofN a.fClaims.n)),(7,S.ptr 2 0)] 5 [(0,B.box (List.map S.t (e33 a))),(4,B.row false 1 v17.n v17.g),(2,B.box (List.map S.t (e52 v0))),(1,B.row false 21 v21.n v21.g),(3,B.box [ss v1,ss v2,ii v3,ss v4,ss v5,ss v6,ii v7,ii v8,ii v9,S.t (T.rows 3 v10.n v10.g),ii v11,ss v12,ii v13,ii v14,bb v15,S.t (T.rows 2 v16.n v16.g),ii v18,ii v19,ii 0,ii 0,S.sl 4 u22])])
abbrev T11_3:Type:=D52→BA→BA→BA→Int→BA→BA→BA→Int→Int→Int→Rw0→Int→BA→Int→Int→Bool→Rw0→Rw0→Int→Int→Nat→Int→Rw0→Nat→Nat→OS
def K11_3 (a:D33) (kk:PK S):T11_3:=fun v0 v1 v2 v3 v4 v5 v6 v7 v8 v9 v10 v11 v12 v13 v14 v15 v16 v17 v18 v19 v20 v21 v22 v23 u24 u25=> kk 11 0 0 (mkSt [(8,S.ptr 3 0),(20,ii v22),(92,S.sl 0 v21),(18,S.t (T.rows 15 a.fClaims.n fun i=>e52 (a.fClaims.get i))),(1,S.ptr 0 0),(5,S.sl 1 u25),(93,S.t (T.rows 0 a.fPods.n fun i=>e61 (a.fPods.get i))),(19,ii (ofN a.fClaims.n)),(43,S.fn (Go.Fn.func 85) [] [S.ptr 5 0,S.ptr 6 0]),(7,S.ptr 2 0)] 7 [(0,B.box (List.map S.t (e33 a))),(4,B.row false 1 v18.n v18.g),(2,B.box (List.map S.t (e52 v0))),(6,B.box [ss v1]),(1,B.row false 21 v23.n v23.g),(5,B.box (List.map S.t (e33 a))),(3,B.box [ss v2,ss v3,ii v4,ss v5,ss v6,ss v7,ii v8,ii v9,ii v10,S.t (T.rows 3 v11.n v11.g),ii v12,ss v13,ii v14,ii v15,bb v16,S.t (T.rows 2 v17.n v17.g),ii v19,ii v20,ii 0,ii 0,S.sl 4 u24])])
abbrev T11_4:Type:=D52→BA→BA→Int→BA→BA→BA→Int→Int→Int→Rw0→Int→BA→Int→Int→Bool→Rw0→Int→Rw0→Int→Int→Int→Rw0→Nat→Nat→OS
def K11_4 (a:D33) (kk:PK S):T11_4:=fun v0 v1 v2 v3 v4 v5 v6 v7 v8 v9 v10 v11 v12 v13 v14 v15 v16 v17 v18 v19 v20 v21 v22 u23 u24=> kk 19 0 0 (mkSt [(8,S.ptr 3 0),(20,ii v21),(18,S.t (T.rows 15 a.fClaims.n fun i=>e52 (a.fClaims.get i))),(1,S.ptr 0 0),(5,S.sl 1 u24),(69,ii 1),(19,ii (ofN a.fClaims.n)),(7,S.ptr 2 0)] 5 [(0,B.box (List.map S.t (e33 a))),(4,B.row false 1 v18.n v18.g),(2,B.box (List.map S.t (e52 v0))),(1,B.row false 21 v22.n v22.g),(3,B.box [ss v1,ss v2,ii v3,ss v4,ss v5,ss v6,ii v7,ii v8,ii v9,S.t (T.rows 3 v10.n v10.g),ii v11,ss v12,ii v13,ii v14,bb v15,S.t (T.rows 2 v16.n v16.g),ii v19,ii v20,ii v17,ii 0,S.sl 4 u23])])
abbrev T11_5:Type:=Rw0→BA→BA→Int→BA→BA→BA→Int→Int→Int→Rw0→Int→BA→Int→Int→Bool→Rw0→Int→Int→Int→Int→Int→Rw0→D52→Nat→Nat→OS
def K11_5 (a:D33) (kk:PK S):T11_5:=fun v0 v1 v2 v3 v4 v5 v6 v7 v8 v9 v10 v11 v12 v13 v14 v15 v16 v17 v18 v19 v20 v21 v22 u23 u24 u25=> kk 19 0 0 (mkSt [(8,S.ptr 3 0),(20,ii v21),(18,S.t (T.rows 15 a.fClaims.n fun i=>e52 (a.fClaims.get i))),(1,S.ptr 0 0),(5,S.sl 1 u25),(69,ii 2),(19,ii (ofN a.fClaims.n)),(7,S.ptr 2 0)] 5 [(0,B.box (List.map S.t (e33 a))),(4,B.row false 1 v0.n v0.g),(2,B.box (List.map S.t (e52 u23))),(1,B.row false 21 v22.n v22.g),(3,B.box [ss v1,ss v2,ii v3,ss v4,ss v5,ss v6,ii v7,ii v8,ii v9,S.t (T.rows 3 v10.n v10.g),ii v11,ss v12,ii v13,ii v14,bb v15,S.t (T.rows 2 v16.n v16.g),ii v17,ii v18,ii v19,ii v20,S.sl 4 u24])])
def b11_0 (q:YF) (a:D33) (k1:T11_1):T11_0:=fun v0 v1 u2=>bif ltI v0 (ofN a.fClaims.n) then elemO v0 a.fClaims.n fun h=>yC q 39 [S.t (T.rows 7 a.fTypes.n fun i=>e112 (a.fTypes.get i)),S.agg [ss (a.fClaims.get (Fin.mk v0.toNat h)).fOffer_Type,ss (a.fClaims.get (Fin.mk v0.toNat h)).fOffer_Zone,ss (a.fClaims.get (Fin.mk v0.toNat h)).fOffer_Kind],ss (a.fClaims.get (Fin.mk v0.toNat h)).fPool,ss (a.fClaims.get (Fin.mk v0.toNat h)).fName] fun y=>yC q 40 [S.t (T.rows 3 (a.fClaims.get (Fin.mk v0.toNat h)).fOpts.n fun i=>e47 ((a.fClaims.get (Fin.mk v0.toNat h)).fOpts.get i))] fun y_1=>bif fitsR a.fPods.n 1 then k1 (a.fClaims.get (Fin.mk v0.toNat h)) (a.fClaims.get (Fin.mk v0.toNat h)).fName (a.fClaims.get (Fin.mk v0.toNat h)).fName (a.fClaims.get (Fin.mk v0.toNat h)).fPool (a.fClaims.get (Fin.mk v0.toNat h)).fGen (a.fClaims.get (Fin.mk v0.toNat h)).fOffer_Type (a.fClaims.get (Fin.mk v0.toNat h)).fOffer_Zone (a.fClaims.get (Fin.mk v0.toNat h)).fOffer_Kind (a.fClaims.get (Fin.mk v0.toNat h)).fPrice (a.fClaims.get (Fin.mk v0.toNat h)).fCap_0 (a.fClaims.get (Fin.mk v0.toNat h)).fCap_1 (y_1.r 0) (a.fClaims.get (Fin.mk v0.toNat h)).fTry (a.fClaims.get (Fin.mk v0.toNat h)).fId (a.fClaims.get (Fin.mk v0.toNat h)).fPhase (a.fClaims.get (Fin.mk v0.toNat h)).fBorn (a.fClaims.get (Fin.mk v0.toNat h)).fMarked (y.r 0) v0 v1 u2 else none else some (S.tup [S.t (T.rows 21 v1.n v1.g),ii 0])
def b11_1 (q:YF) (a:D33) (k2:T11_2) (k3:T11_3):T11_1:=fun v0 v1 v2 v3 v4 v5 v6 v7 v8 v9 v10 v11 v12 v13 v14 v15 v16 v17 v18 v19 u20=>bif ltI (ofN 0) (ofN a.fPods.n) then elemO (ofN 0) a.fPods.n fun h=>bif strEq (a.fPods.get (Fin.mk (ofN 0).toNat h)).fOn v1 then bif fitsR 1 16 then k3 v0 v1 v2 v3 v4 v5 v6 v7 v8 v9 v10 v11 v12 v13 v14 v15 v16 v17 (Rw0.mk (addN 0 1) (appGet nil0 fun i=>List.take 1 (List.drop (↑i*1) [ts (a.fPods.get (Fin.mk (ofN 0).toNat h)).fName]))) (Bool.rec ((fun _=>1125899906842624) ()) ((fun _=>addI .i64 0 (a.fPods.get (Fin.mk (ofN 0).toNat h)).fNeed_0) ()) (decide (addI .i64 0 (a.fPods.get (Fin.mk (ofN 0).toNat h)).fNeed_0 < 1125899906842624))) (Bool.rec ((fun _=>1125899906842624) ()) ((fun _=>addI .i64 0 (a.fPods.get (Fin.mk (ofN 0).toNat h)).fNeed_1) ()) (decide (addI .i64 0 (a.fPods.get (Fin.mk (ofN 0).toNat h)).fNeed_1 < 1125899906842624))) 1 v18 v19 1 u20 else none else k3 v0 v1 v2 v3 v4 v5 v6 v7 v8 v9 v10 v11 v12 v13 v14 v15 v16 v17 (Rw0.mk 0 nil0) 0 0 1 v18 v19 0 u20 else k2 v0 v2 v3 v4 v5 v6 v7 v8 v9 v10 v11 v12 v13 v14 v15 v16 v17 (Rw0.mk 0 nil0) 0 0 v18 v19 0 u20
def b11_2 (q:YF) (a:D33) (k4:T11_4):T11_2:=fun v0 v1 v2 v3 v4 v5 v6 v7 v8 v9 v10 v11 v12 v13 v14 v15 v16 v17 v18 v19 v20 v21 u22 u23=>k4 v0 v1 v2 v3 v4 v5 v6 v7 v8 v9 v10 v11 v12 v13 v14 v15 v16 (Bool.rec ((fun _=>0) ()) ((fun _=>subI .i64 v0.fCap_0 v18) ()) (decide (subI .i64 v0.fCap_0 v18 > 0))) v17 v18 v19 v20 v21 u22 u23
def b11_3 (q:YF) (a:D33) (k2:T11_2) (k3:T11_3):T11_3:=fun v0 v1 v2 v3 v4 v5 v6 v7 v8 v9 v10 v11 v12 v13 v14 v15 v16 v17 v18 v19 v20 v21 v22 v23 u24 u25=>bif ltI (ofN v21) (ofN a.fPods.n) then elemO (ofN v21) a.fPods.n fun h=>bif strEq (a.fPods.get (Fin.mk (ofN v21).toNat h)).fOn v1 then bif fitsR (addN v18.n 1) 16 then k3 v0 v1 v2 v3 v4 v5 v6 v7 v8 v9 v10 v11 v12 v13 v14 v15 v16 v17 (Rw0.mk (addN v18.n 1) (appGet v18.g fun i=>List.take 1 (List.drop (↑i*1) [ts (a.fPods.get (Fin.mk (ofN v21).toNat h)).fName]))) (Bool.rec ((fun _=>1125899906842624) ()) ((fun _=>addI .i64 v19 (a.fPods.get (Fin.mk (ofN v21).toNat h)).fNeed_0) ()) (decide (addI .i64 v19 (a.fPods.get (Fin.mk (ofN v21).toNat h)).fNeed_0 < 1125899906842624))) (Bool.rec ((fun _=>1125899906842624) ()) ((fun _=>addI .i64 v20 (a.fPods.get (Fin.mk (ofN v21).toNat h)).fNeed_1) ()) (decide (addI .i64 v20 (a.fPods.get (Fin.mk (ofN v21).toNat h)).fNeed_1 < 1125899906842624))) (addN v21 1) v22 v23 (addN v18.n 1) u25 else none else k3 v0 v1 v2 v3 v4 v5 v6 v7 v8 v9 v10 v11 v12 v13 v14 v15 v16 v17 v18 v19 v20 (addN v21 1) v22 v23 u24 u25 else k2 v0 v2 v3 v4 v5 v6 v7 v8 v9 v10 v11 v12 v13 v14 v15 v16 v17 v18 v19 v20 v22 v23 u24 u25
def b11_4 (q:YF) (a:D33) (k5:T11_5):T11_4:=fun v0 v1 v2 v3 v4 v5 v6 v7 v8 v9 v10 v11 v12 v13 v14 v15 v16 v17 v18 v19 v20 v21 v22 u23 u24=>k5 v18 v1 v2 v3 v4 v5 v6 v7 v8 v9 v10 v11 v12 v13 v14 v15 v16 v19 v20 v17 (Bool.rec ((fun _=>0) ()) ((fun _=>subI .i64 v0.fCap_1 v20) ()) (decide (subI .i64 v0.fCap_1 v20 > 0))) v21 v22 v0 u23 u24
def b11_5 (q:YF) (a:D33) (k0:T11_0):T11_5:=fun v0 v1 v2 v3 v4 v5 v6 v7 v8 v9 v10 v11 v12 v13 v14 v15 v16 v17 v18 v19 v20 v21 v22 u23 u24 u25=>bif fitsR (addN v22.n 1) 264 then k0 (addI .i64 v21 1) (Rw0.mk (addN v22.n 1) (appGet v22.g fun i=>List.take 21 (List.drop (↑i*21) [ts v1,ts v2,ti v3,ts v4,ts v5,ts v6,ti v7,ti v8,ti v9,T.rows 3 v10.n v10.g,ti v11,ts v12,ti v13,ti v14,tb v15,T.rows 2 v16.n v16.g,ti v17,ti v18,ti v19,ti v20,T.rows 1 v0.n v0.g]))) (addN v22.n 1) else none
def e11_in (q:YF) (a:D33) (k0:T11_0):OS:=yC q 9 [ag (e33 a)] fun y=>bif !eqI (y.i 0) 0 then some (S.tup [S.t (T.rows 21 0 nil0),ii (y.i 0)]) else k0 0 (Rw0.mk 0 nil0) 0
structure X11 where
 x0:Int→Rw0→OS
 x1:D52→BA→BA→BA→Int→BA→BA→BA→Int→Int→Int→Rw0→Int→BA→Int→Int→Bool→Rw0→Int→Rw0→OS
 x2:D52→BA→BA→Int→BA→BA→BA→Int→Int→Int→Rw0→Int→BA→Int→Int→Bool→Rw0→Rw0→Int→Int→Int→Rw0→OS
 x3:D52→BA→BA→BA→Int→BA→BA→BA→Int→Int→Int→Rw0→Int→BA→Int→Int→Bool→Rw0→Rw0→Int→Int→Nat→Int→Rw0→OS
 x4:D52→BA→BA→Int→BA→BA→BA→Int→Int→Int→Rw0→Int→BA→Int→Int→Bool→Rw0→Int→Rw0→Int→Int→Int→Rw0→OS
 x5:Rw0→BA→BA→Int→BA→BA→BA→Int→Int→Int→Rw0→Int→BA→Int→Int→Bool→Rw0→Int→Int→Int→Int→Int→Rw0→OS
def D11_0 (X:X11):T11_0:=fun v0 v1 _=>X.x0 v0 v1
def D11_1 (X:X11):T11_1:=fun v0 v1 v2 v3 v4 v5 v6 v7 v8 v9 v10 v11 v12 v13 v14 v15 v16 v17 v18 v19 _=>X.x1 v0 v1 v2 v3 v4 v5 v6 v7 v8 v9 v10 v11 v12 v13 v14 v15 v16 v17 v18 v19
def D11_2 (X:X11):T11_2:=fun v0 v1 v2 v3 v4 v5 v6 v7 v8 v9 v10 v11 v12 v13 v14 v15 v16 v17 v18 v19 v20 v21 _ _=>X.x2 v0 v1 v2 v3 v4 v5 v6 v7 v8 v9 v10 v11 v12 v13 v14 v15 v16 v17 v18 v19 v20 v21
def D11_3 (X:X11):T11_3:=fun v0 v1 v2 v3 v4 v5 v6 v7 v8 v9 v10 v11 v12 v13 v14 v15 v16 v17 v18 v19 v20 v21 v22 v23 _ _=>X.x3 v0 v1 v2 v3 v4 v5 v6 v7 v8 v9 v10 v11 v12 v13 v14 v15 v16 v17 v18 v19 v20 v21 v22 v23
def D11_4 (X:X11):T11_4:=fun v0 v1 v2 v3 v4 v5 v6 v7 v8 v9 v10 v11 v12 v13 v14 v15 v16 v17 v18 v19 v20 v21 v22 _ _=>X.x4 v0 v1 v2 v3 v4 v5 v6 v7 v8 v9 v10 v11 v12 v13 v14 v15 v16 v17 v18 v19 v20 v21 v22
def D11_5 (X:X11):T11_5:=fun v0 v1 v2 v3 v4 v5 v6 v7 v8 v9 v10 v11 v12 v13 v14 v15 v16 v17 v18 v19 v20 v21 v22 _ _ _=>X.x5 v0 v1 v2 v3 v4 v5 v6 v7 v8 v9 v10 v11 v12 v13 v14 v15 v16 v17 v18 v19 v20 v21 v22
def X11s (q:YF) (a:D33) (X:X11):X11:=⟨fun v0 v1=>b11_0 q a (D11_1 X) v0 v1 dd,
 fun v0 v1 v2 v3 v4 v5 v6 v7 v8 v9 v10 v11 v12 v13 v14 v15 v16 v17 v18 v19=>b11_1 q a (D11_2 X) (D11_3 X) v0 v1 v2 v3 v4 v5 v6 v7 v8 v9 v10 v11 v12 v13 v14 v15 v16 v17 v18 v19 dd,
 fun v0 v1 v2 v3 v4 v5 v6 v7 v8 v9 v10 v11 v12 v13 v14 v15 v16 v17 v18 v19 v20 v21=>b11_2 q a (D11_4 X) v0 v1 v2 v3 v4 v5 v6 v7 v8 v9 v10 v11 v12 v13 v14 v15 v16 v17 v18 v19 v20 v21 dd dd,
 fun v0 v1 v2 v3 v4 v5 v6 v7 v8 v9 v10 v11 v12 v13 v14 v15 v16 v17 v18 v19 v20 v21 v22 v23=>b11_3 q a (D11_2 X) (D11_3 X) v0 v1 v2 v3 v4 v5 v6 v7 v8 v9 v10 v11 v12 v13 v14 v15 v16 v17 v18 v19 v20 v21 v22 v23 dd dd,
 fun v0 v1 v2 v3 v4 v5 v6 v7 v8 v9 v10 v11 v12 v13 v14 v15 v16 v17 v18 v19 v20 v21 v22=>b11_4 q a (D11_5 X) v0 v1 v2 v3 v4 v5 v6 v7 v8 v9 v10 v11 v12 v13 v14 v15 v16 v17 v18 v19 v20 v21 v22 dd dd,
 fun v0 v1 v2 v3 v4 v5 v6 v7 v8 v9 v10 v11 v12 v13 v14 v15 v16 v17 v18 v19 v20 v21 v22=>b11_5 q a (D11_0 X) v0 v1 v2 v3 v4 v5 v6 v7 v8 v9 v10 v11 v12 v13 v14 v15 v16 v17 v18 v19 v20 v21 v22 dd dd dd⟩
def X11n (q:YF) (a:D33):Nat→X11
 | 0=>⟨fun _ _=>none,fun _ _ _ _ _ _ _ _ _ _ _ _ _ _ _ _ _ _ _ _=>none,fun _ _ _ _ _ _ _ _ _ _ _ _ _ _ _ _ _ _ _ _ _ _=>none,fun _ _ _ _ _ _ _ _ _ _ _ _ _ _ _ _ _ _ _ _ _ _ _ _=>none,fun _ _ _ _ _ _ _ _ _ _ _ _ _ _ _ _ _ _ _ _ _ _ _=>none,fun _ _ _ _ _ _ _ _ _ _ _ _ _ _ _ _ _ _ _ _ _ _ _=>none⟩
 | n+1=>X11s q a (X11n q a n)
theorem l11_0 (q:YF) (a:D33) (kk:PK S):K11_0 a (P11 q kk)=b11_0 q a (K11_1 a kk):=by
 kernel_rfl
theorem l11_1 (q:YF) (a:D33) (kk:PK S):K11_1 a (P11 q kk)=b11_1 q a (K11_2 a kk) (K11_3 a kk):=by
 kernel_rfl
theorem l11_2 (q:YF) (a:D33) (kk:PK S):K11_2 a (P11 q kk)=b11_2 q a (K11_4 a kk):=by
 kernel_rfl
theorem l11_3 (q:YF) (a:D33) (kk:PK S):K11_3 a (P11 q kk)=b11_3 q a (K11_2 a kk) (K11_3 a kk):=by
 kernel_rfl
theorem l11_4 (q:YF) (a:D33) (kk:PK S):K11_4 a (P11 q kk)=b11_4 q a (K11_5 a kk):=by
 kernel_rfl
theorem l11_5 (q:YF) (a:D33) (kk:PK S):K11_5 a (P11 q kk)=b11_5 q a (K11_0 a kk):=by
 kernel_rfl
theorem l11_in (q:YF) (a:D33) (kk:PK S):BG q kk 11 Tryz.f11 [ag (e33 a)]=e11_in q a (K11_0 a kk):=by
 kernel_rfl
theorem h11 (q:YF) (a:D33):∀ n,K11_0 a (H11 q n)=D11_0 (X11n q a n)∧K11_1 a (H11 q n)=D11_1 (X11n q a n)∧K11_2 a (H11 q n)=D11_2 (X11n q a n)∧K11_3 a (H11 q n)=D11_3 (X11n q a n)∧K11_4 a (H11 q n)=D11_4 (X11n q a n)∧K11_5 a (H11 q n)=D11_5 (X11n q a n)
 | 0=>⟨rfl,rfl,rfl,rfl,rfl,rfl⟩
 | n+1=>by
  obtain ⟨h0,h1,h2,h3,h4,h5⟩:=h11 q a n
  exact ⟨(l11_0 q a (H11 q n)).trans (by rw [h1];kernel_rfl),(l11_1 q a (H11 q n)).trans (by rw [h2,h3];kernel_rfl),(l11_2 q a (H11 q n)).trans (by rw [h4];kernel_rfl),(l11_3 q a (H11 q n)).trans (by rw [h2,h3];kernel_rfl),(l11_4 q a (H11 q n)).trans (by rw [h5];kernel_rfl),(l11_5 q a (H11 q n)).trans (by rw [h0];kernel_rfl)⟩
theorem W11 (a:D33) (n:Nat) (x:S) (h:e11_in (regs O) a (D11_0 (X11n (regs O) a n))=some x):(W O).callT 11 [ag (e33 a)]=some x:=by
 refine WG (fn:=Tryz.f11) (by kernel_rfl) (by kernel_rfl) (n:=n) ?_
 refine (l11_in (regs O) a (H11 (regs O) n)).trans ?_
 obtain ⟨h0,h1,h2,h3,h4,h5⟩:=h11 (regs O) a n
 rw [h0]
 exact h
abbrev P17 (q:YF) (kk:PK S):PK S:=PG q 17 Tryz.f17 kk
abbrev H17 (q:YF):Nat→PK S:=HG q 17 Tryz.f17
def K17_0 (a:D33) (b:BA) (kk:PK S):Int→OS:=fun v0=> kk 2 0 0 (mkSt [(4,S.ptr 0 0),(10,ii (ofN a.fPods.n)),(1,ss b),(9,S.t (T.rows 12 a.fPods.n fun i=>e61 (a.fPods.get i))),(11,ii v0)] 1 [(0,B.box [ss (bs []),ss (bs []),ii 0,ii 0,ii 0,S.t (T.v (.slice none 0 0)),S.t (T.v (.slice none 0 0)),S.t (T.v (.slice none 0 0)),S.t (T.v (.slice none 0 0)),S.t (T.v (.slice none 0 0)),ii 0,ss (bs [])])])
def b17_0 (q:YF) (a:D33) (b:BA) (k0:Int→OS) (v0:Int):OS:=bif ltI v0 (ofN a.fPods.n) then elemO v0 a.fPods.n fun h=>bif strEq (a.fPods.get (Fin.mk v0.toNat h)).fName b then some (S.tup [ag (e61 (a.fPods.get (Fin.mk v0.toNat h))),bb true]) else k0 (addI .i64 v0 1) else some (S.tup [S.agg [ss (bs []),ss (bs []),ii 0,ii 0,ii 0,S.t (T.rows 4 0 nil0),S.t (T.rows 3 0 nil0),S.t (T.rows 3 0 nil0),S.t (T.rows 2 0 nil0),S.t (T.rows 2 0 nil0),ii 0,ss (bs [])],bb false])
def e17_in (q:YF) (a:D33) (b:BA) (k0:Int→OS):OS:=k0 0
structure X17 where
 x0:Int→OS
def D17_0 (X:X17):Int→OS:=fun v0=>X.x0 v0
def X17s (q:YF) (a:D33) (b:BA) (X:X17):X17:=⟨fun v0=>b17_0 q a b (D17_0 X) v0⟩
def X17n (q:YF) (a:D33) (b:BA):Nat→X17
 | 0=>⟨fun _=>none⟩
 | n+1=>X17s q a b (X17n q a b n)
theorem l17_0 (q:YF) (a:D33) (b:BA) (kk:PK S):K17_0 a b (P17 q kk)=b17_0 q a b (K17_0 a b kk):=by
 kernel_rfl
theorem l17_in (q:YF) (a:D33) (b:BA) (kk:PK S):BG q kk 17 Tryz.f17 [ag (e33 a),ss b]=e17_in q a b (K17_0 a b kk):=by
 kernel_rfl
theorem h17 (q:YF) (a:D33) (b:BA):∀ n,K17_0 a b (H17 q n)=D17_0 (X17n q a b n)
 | 0=>rfl
 | n+1=>by
  have h0:=h17 q a b n
  exact (l17_0 q a b (H17 q n)).trans (by rw [h0];kernel_rfl)
theorem W17 (a:D33) (b:BA) (n:Nat) (x:S) (h:e17_in (regs O) a b (D17_0 (X17n (regs O) a b n))=some x):(W O).callT 17 [ag (e33 a),ss b]=some x:=by
 refine WG (fn:=Tryz.f17) (by kernel_rfl) (by kernel_rfl) (n:=n) ?_
 refine (l17_in (regs O) a b (H17 (regs O) n)).trans ?_
 have h0:=h17 (regs O) a b n
 rw [h0]
 exact h
abbrev H18 (q:YF):Nat→PK S:=HG q 18 Tryz.f18
def e18_in (q:YF) (a:D49) (b:D49):OS:=yC q 48 [ag (e49 a),ag (e49 b)] fun y=>bif !eqI (y.i 0) 0 then some (S.tup [S.agg [ii 0,ii 0],ii (y.i 0)]) else yC q 49 [S.agg [ii (addI .i64 a.fa_0 b.fa_0),ii (addI .i64 a.fa_1 b.fa_1)]] fun y=>bif !eqI (y.i 0) 0 then some (S.tup [S.agg [ii 0,ii 0],ii (y.i 0)]) else some (S.tup [S.agg [ii (addI .i64 a.fa_0 b.fa_0),ii (addI .i64 a.fa_1 b.fa_1)],ii 0])
theorem l18_in (q:YF) (a:D49) (b:D49) (kk:PK S):BG q kk 18 Tryz.f18 [ag (e49 a),ag (e49 b)]=e18_in q a b:=by
 kernel_rfl
theorem W18 (a:D49) (b:D49) (n:Nat) (x:S) (h:e18_in (regs O) a b=some x):(W O).callT 18 [ag (e49 a),ag (e49 b)]=some x:=by
 refine WG (fn:=Tryz.f18) (by kernel_rfl) (by kernel_rfl) (n:=n) ?_
 refine (l18_in (regs O) a b (H18 (regs O) n)).trans ?_
 exact h
abbrev P22 (q:YF) (kk:PK S):PK S:=PG q 22 Tryz.f22 kk
abbrev H22 (q:YF):Nat→PK S:=HG q 22 Tryz.f22
abbrev T22_0:Type:=Bool→S→Bool→S→OS
def K22_0 (a:Int) (kk:PK S):T22_0:=fun v0 u1 u2 u3=> kk 1 7 1 (mkSt [(0,ii a),(8,bb v0),(4,bb (geI a 0)),(2,bb false),(6,u1),(5,bb u2),(3,ii a),(7,u3)] 8 [])
def b22_0 (q:YF) (a:Int):T22_0:=fun v0 u1 u2 u3=>some (bb v0)
def e22_in (q:YF) (a:Int) (k0:T22_0):OS:=bif geI a 0 then k0 (leI a 1099511627776) (ii a) true (bb (leI a 1099511627776)) else k0 false S.ud false S.ud
structure X22 where
 x0:Bool→OS
def D22_0 (X:X22):T22_0:=fun v0 _ _ _=>X.x0 v0
def X22s (q:YF) (a:Int) (X:X22):X22:=⟨fun v0=>b22_0 q a v0 dd dd dd⟩
def X22n (q:YF) (a:Int):Nat→X22
 | 0=>⟨fun _=>none⟩
 | n+1=>X22s q a (X22n q a n)
theorem l22_0 (q:YF) (a:Int) (kk:PK S):K22_0 a (P22 q kk)=b22_0 q a:=by
 kernel_rfl
theorem l22_in (q:YF) (a:Int) (kk:PK S):BG q kk 22 Tryz.f22 [ii a]=e22_in q a (K22_0 a kk):=by
 kernel_rfl
theorem h22 (q:YF) (a:Int):∀ n,K22_0 a (H22 q n)=D22_0 (X22n q a n)
 | 0=>rfl
 | n+1=>by
  have h0:=h22 q a n
  exact (l22_0 q a (H22 q n)).trans (by kernel_rfl)
theorem W22 (a:Int) (n:Nat) (x:S) (h:e22_in (regs O) a (D22_0 (X22n (regs O) a n))=some x):(W O).callT 22 [ii a]=some x:=by
 refine WG (fn:=Tryz.f22) (by kernel_rfl) (by kernel_rfl) (n:=n) ?_
 refine (l22_in (regs O) a (H22 (regs O) n)).trans ?_
 have h0:=h22 (regs O) a n
 rw [h0]
 exact h
abbrev P23 (q:YF) (kk:PK S):PK S:=PG q 23 Tryz.f23 kk
abbrev H23 (q:YF):Nat→PK S:=HG q 23 Tryz.f23
def K23_0 (a:Int) (kk:PK S):T22_0:=fun v0 u1 u2 u3=> kk 1 7 1 (mkSt [(0,ii a),(8,bb v0),(4,bb (geI a 0)),(2,bb false),(6,u1),(5,bb u2),(3,ii a),(7,u3)] 8 [])
def b23_0 (q:YF) (a:Int) (v0:Bool) (u1:S) (u2:Bool) (u3:S):OS:=some (bb v0)
def e23_in (q:YF) (a:Int) (k0:T22_0):OS:=bif geI a 0 then k0 (leI a 1073741824) (ii a) true (bb (leI a 1073741824)) else k0 false S.ud false S.ud
structure X23 where
 x0:Bool→OS
def D23_0 (X:X23):T22_0:=fun v0 _ _ _=>X.x0 v0
def X23s (q:YF) (a:Int) (X:X23):X23:=⟨fun v0=>b23_0 q a v0 dd dd dd⟩
def X23n (q:YF) (a:Int):Nat→X23
 | 0=>⟨fun _=>none⟩
 | n+1=>X23s q a (X23n q a n)
theorem l23_0 (q:YF) (a:Int) (kk:PK S):K23_0 a (P23 q kk)=b23_0 q a:=by
 kernel_rfl
theorem l23_in (q:YF) (a:Int) (kk:PK S):BG q kk 23 Tryz.f23 [ii a]=e23_in q a (K23_0 a kk):=by
 kernel_rfl
theorem h23 (q:YF) (a:Int):∀ n,K23_0 a (H23 q n)=D23_0 (X23n q a n)
 | 0=>rfl
 | n+1=>by
  have h0:=h23 q a n
  exact (l23_0 q a (H23 q n)).trans (by kernel_rfl)
theorem W23 (a:Int) (n:Nat) (x:S) (h:e23_in (regs O) a (D23_0 (X23n (regs O) a n))=some x):(W O).callT 23 [ii a]=some x:=by
 refine WG (fn:=Tryz.f23) (by kernel_rfl) (by kernel_rfl) (n:=n) ?_
 refine (l23_in (regs O) a (H23 (regs O) n)).trans ?_
 have h0:=h23 (regs O) a n
 rw [h0]
 exact h
abbrev P24 (q:YF) (kk:PK S):PK S:=PG q 24 Tryz.f24 kk
abbrev H24 (q:YF):Nat→PK S:=HG q 24 Tryz.f24
def K24_0 (a:Rw D112) (kk:PK S):Int→OS:=fun v0=> kk 4 0 0 (mkSt [(0,S.t (T.rows 7 a.n fun i=>e112 (a.get i))),(10,ii (ofN a.n)),(9,S.t (T.rows 7 a.n fun i=>e112 (a.get i))),(11,ii v0)] 0 [])
def b24_0 (q:YF) (a:Rw D112) (k0:Int→OS) (v0:Int):OS:=bif ltI v0 (ofN a.n) then elemO v0 a.n fun h=>yC q 58 [ag (e112 (a.get (Fin.mk v0.toNat h)))] fun y=>bif !eqI (y.i 0) 0 then some (ii (y.i 0)) else bif leI 0 v0 && leI v0 (ofN a.n) then subO 0 (toN v0) a.n fun h_1=>yC q 59 [S.t (T.rows 7 (toN v0) fun i=>e112 (a.get (Fin.mk (0+↑i) (by first | omega | (have:=i.2;omega) | (have:=i_1.2;omega))))),S.fn (Go.Fn.func 60) [] [S.pt (e112 (a.get (Fin.mk v0.toNat h)))]] fun y=>bif y.b 0 then some (ii 6) else k0 (addI .i64 v0 1) else none else some (ii 0)
def e24_in (q:YF) (a:Rw D112) (k0:Int→OS):OS:=bif gtI (ofN a.n) 12 then some (ii 3) else k0 0
structure X24 where
 x0:Int→OS
def D24_0 (X:X24):Int→OS:=fun v0=>X.x0 v0
def X24s (q:YF) (a:Rw D112) (X:X24):X24:=⟨fun v0=>b24_0 q a (D24_0 X) v0⟩
def X24n (q:YF) (a:Rw D112):Nat→X24
 | 0=>⟨fun _=>none⟩
 | n+1=>X24s q a (X24n q a n)
theorem l24_0 (q:YF) (a:Rw D112) (kk:PK S):K24_0 a (P24 q kk)=b24_0 q a (K24_0 a kk):=by
 kernel_rfl
theorem l24_in (q:YF) (a:Rw D112) (kk:PK S):BG q kk 24 Tryz.f24 [S.t (T.rows 7 a.n fun i=>e112 (a.get i))]=e24_in q a (K24_0 a kk):=by
 kernel_rfl
theorem h24 (q:YF) (a:Rw D112):∀ n,K24_0 a (H24 q n)=D24_0 (X24n q a n)
 | 0=>rfl
 | n+1=>by
  have h0:=h24 q a n
  exact (l24_0 q a (H24 q n)).trans (by rw [h0];kernel_rfl)
theorem W24 (a:Rw D112) (n:Nat) (x:S) (h:e24_in (regs O) a (D24_0 (X24n (regs O) a n))=some x):(W O).callT 24 [S.t (T.rows 7 a.n fun i=>e112 (a.get i))]=some x:=by
 refine WG (fn:=Tryz.f24) (by kernel_rfl) (by kernel_rfl) (n:=n) ?_
 refine (l24_in (regs O) a (H24 (regs O) n)).trans ?_
 have h0:=h24 (regs O) a n
 rw [h0]
 exact h
abbrev P25 (q:YF) (kk:PK S):PK S:=PG q 25 Tryz.f25 kk
abbrev H25 (q:YF):Nat→PK S:=HG q 25 Tryz.f25
abbrev T25_0:Type:=Int→BA→OS
def K25_0 (a:D33) (kk:PK S):T25_0:=fun v0 v1=> kk 3 0 0 (mkSt [(8,S.t (T.rows 10 a.fPools.n fun i=>e77 (a.fPools.get i))),(10,ii v0),(9,ii (ofN a.fPools.n)),(3,ss v1)] 0 [])
def b25_0 (q:YF) (a:D33) (k0:T25_0):T25_0:=fun v0 v1=>bif ltI v0 (ofN a.fPools.n) then elemO v0 a.fPools.n fun h=>yC q 61 [ag (e77 (a.fPools.get (Fin.mk v0.toNat h)))] fun y=>bif !eqI (y.i 0) 0 then some (ii (y.i 0)) else bif strLt (a.fPools.get (Fin.mk v0.toNat h)).fName v1 || strEq (a.fPools.get (Fin.mk v0.toNat h)).fName v1 then some (ii 6) else k0 (addI .i64 v0 1) (a.fPools.get (Fin.mk v0.toNat h)).fName else some (ii 0)
def e25_in (q:YF) (a:D33) (k0:T25_0):OS:=k0 0 (bs [])
structure X25 where
 x0:Int→BA→OS
def D25_0 (X:X25):T25_0:=fun v0 v1=>X.x0 v0 v1
def X25s (q:YF) (a:D33) (X:X25):X25:=⟨fun v0 v1=>b25_0 q a (D25_0 X) v0 v1⟩
def X25n (q:YF) (a:D33):Nat→X25
 | 0=>⟨fun _ _=>none⟩
 | n+1=>X25s q a (X25n q a n)
theorem l25_0 (q:YF) (a:D33) (kk:PK S):K25_0 a (P25 q kk)=b25_0 q a (K25_0 a kk):=by
 kernel_rfl
theorem l25_in (q:YF) (a:D33) (kk:PK S):BG q kk 25 Tryz.f25 [ag (e33 a)]=e25_in q a (K25_0 a kk):=by
 kernel_rfl
theorem h25 (q:YF) (a:D33):∀ n,K25_0 a (H25 q n)=D25_0 (X25n q a n)
 | 0=>rfl
 | n+1=>by
  have h0:=h25 q a n
  exact (l25_0 q a (H25 q n)).trans (by rw [h0];kernel_rfl)
theorem W25 (a:D33) (n:Nat) (x:S) (h:e25_in (regs O) a (D25_0 (X25n (regs O) a n))=some x):(W O).callT 25 [ag (e33 a)]=some x:=by
 refine WG (fn:=Tryz.f25) (by kernel_rfl) (by kernel_rfl) (n:=n) ?_
 refine (l25_in (regs O) a (H25 (regs O) n)).trans ?_
 have h0:=h25 (regs O) a n
 rw [h0]
 exact h
abbrev P26 (q:YF) (kk:PK S):PK S:=PG q 26 Tryz.f26 kk
abbrev H26 (q:YF):Nat→PK S:=HG q 26 Tryz.f26
def K26_0 (a:D33) (kk:PK S):T25_0:=fun v0 v1=> kk 3 0 0 (mkSt [(12,ii v0),(10,S.t (T.rows 15 a.fClaims.n fun i=>e52 (a.fClaims.get i))),(1,S.ptr 0 0),(3,ss v1),(11,ii (ofN a.fClaims.n))] 1 [(0,B.box (List.map S.t (e33 a)))])
abbrev T26_1:Type:=Bool→D52→Int→Int→Int→D52→Bool→Bool→Int→Int→Int→Bool→Int→Bool→D52→Bool→Bool→Int→BA→BA→BA→BA→Int→Int→Bool→Bool→Bool→Bool→BA→BA→BA→Int→Int→Bool→D52→BA→BA→BA→BA→BA→Bool→BA→OS
def K26_1 (a:D33) (kk:PK S):T26_1:=fun v0 v1 v2 v3 v4 u5 u6 u7 u8 u9 u10 u11 u12 u13 u14 u15 u16 u17 u18 u19 u20 u21 u22 u23 u24 u25 u26 u27 u28 u29 u30 u31 u32 u33 u34 u35 u36 u37 u38 u39 u40 u41=> kk 11 14 27 (mkSt [(32,ss u39),(16,ag (e52 u5)),(8,bb u6),(40,bb false),(24,S.ptr 4 3),(36,S.ptr 4 1),(12,ii v4),(44,S.sl 36 1),(28,bb u7),(18,ii u8),(10,S.t (T.rows 15 a.fClaims.n fun i=>e52 (a.fClaims.get i))),(42,S.ptr 4 3),(26,S.tup [S.agg [ii u9,ii u10],bb u11]),(6,ii u12),(38,bb u13),(22,S.ptr 0 6),(14,S.pt (e52 u14)),(46,bb u15),(30,S.ptr 4 0),(1,S.ptr 0 0),(33,bb u16),(17,ii u17),(41,ag (e33 a)),(25,S.agg [ss u18,ss u19,ss u20]),(5,S.ptr 4 0),(37,ss u21),(21,S.tup [S.agg [ii u22,ii u23],bb u24]),(13,bb u40),(45,bb u25),(29,bb u26),(3,ss u41),(35,ag (e33 a)),(19,bb u27),(11,ii (ofN a.fClaims.n)),(43,S.agg [ss u28,ss u29,ss u30]),(27,S.agg [ii u31,ii u32]),(7,S.ptr 19 0),(39,bb u33),(23,S.t (T.rows 7 a.fTypes.n fun i=>e112 (a.fTypes.get i))),(15,ag (e52 u34)),(47,bb v0),(31,ss u35)] 48 [(0,B.box (List.map S.t (e33 a))),(4,B.box (List.map S.t (e52 v1))),(36,B.lst false 3 1 [ss u36,ss u37,ss u38]),(19,B.box [ii v2,ii v3])])
abbrev T26_2:Type:=D52→Bool→Bool→Int→Int→Int→Bool→Int→Bool→D52→Bool→Int→BA→BA→BA→BA→Int→Int→Bool→Bool→Bool→Int→Int→Bool→D52→BA→D52→Int→Int→BA→Int→Bool→BA→OS
def K26_2 (a:D33) (kk:PK S):T26_2:=fun u0 u1 u2 u3 u4 u5 u6 u7 u8 u9 u10 u11 u12 u13 u14 u15 u16 u17 u18 u19 u20 u21 u22 u23 u24 u25 u26 u27 u28 u29 u30 u31 u32=> kk 11 14 27 (mkSt [(32,ss u29),(16,ag (e52 u0)),(8,bb u1),(40,bb true),(24,S.ptr 4 3),(36,S.ptr 4 1),(12,ii u30),(44,S.ud),(28,bb u2),(18,ii u3),(10,S.t (T.rows 15 a.fClaims.n fun i=>e52 (a.fClaims.get i))),(42,S.ud),(26,S.tup [S.agg [ii u4,ii u5],bb u6]),(6,ii u7),(38,bb u8),(22,S.ptr 0 6),(14,S.pt (e52 u9)),(46,S.ud),(30,S.ptr 4 0),(1,S.ptr 0 0),(33,bb u10),(17,ii u11),(41,S.ud),(25,S.agg [ss u12,ss u13,ss u14]),(5,S.ptr 4 0),(37,ss u15),(21,S.tup [S.agg [ii u16,ii u17],bb u18]),(13,bb u31),(45,S.ud),(29,bb u19),(3,ss u32),(35,ag (e33 a)),(19,bb u20),(11,ii (ofN a.fClaims.n)),(43,S.ud),(27,S.agg [ii u21,ii u22]),(7,S.ptr 19 0),(39,bb u23),(23,S.t (T.rows 7 a.fTypes.n fun i=>e112 (a.fTypes.get i))),(15,ag (e52 u24)),(47,bb true),(31,ss u25)] 48 [(0,B.box (List.map S.t (e33 a))),(4,B.box (List.map S.t (e52 u26))),(19,B.box [ii u27,ii u28])])
abbrev T26_3:Type:=Bool→D52→Int→Int→Int→D52→Bool→Bool→Int→Int→Int→Bool→Int→Bool→D52→Bool→Bool→Int→BA→BA→BA→BA→Int→Int→Bool→Bool→Bool→Bool→BA→BA→BA→Int→Int→Bool→D52→Bool→BA→BA→BA→BA→Bool→S→S→S→S→S→BA→Bool→BA→OS
def K26_3 (a:D33) (kk:PK S):T26_3:=fun v0 v1 v2 v3 v4 u5 u6 u7 u8 u9 u10 u11 u12 u13 u14 u15 u16 u17 u18 u19 u20 u21 u22 u23 u24 u25 u26 u27 u28 u29 u30 u31 u32 u33 u34 u35 u36 u37 u38 u39 u40 u41 u42 u43 u44 u45 u46 u47 u48=> kk 11 21 27 (mkSt [(32,ss u46),(16,ag (e52 u5)),(48,bb u40),(8,bb u6),(40,bb false),(24,S.ptr 4 3),(36,S.ptr 4 1),(52,u41),(12,ii v4),(44,S.sl 36 1),(28,bb u7),(18,ii u8),(50,u42),(10,S.t (T.rows 15 a.fClaims.n fun i=>e52 (a.fClaims.get i))),(42,S.ptr 4 3),(26,S.tup [S.agg [ii u9,ii u10],bb u11]),(6,ii u12),(38,bb u13),(22,S.ptr 0 6),(54,bb v0),(14,S.pt (e52 u14)),(46,bb u15),(30,S.ptr 4 0),(1,S.ptr 0 0),(33,bb u16),(17,ii u17),(49,u43),(41,ag (e33 a)),(25,S.agg [ss u18,ss u19,ss u20]),(5,S.ptr 4 0),(37,ss u21),(21,S.tup [S.agg [ii u22,ii u23],bb u24]),(53,u44),(13,bb u47),(45,bb u25),(29,bb u26),(3,ss u48),(35,ag (e33 a)),(19,bb u27),(51,u45),(11,ii (ofN a.fClaims.n)),(43,S.agg [ss u28,ss u29,ss u30]),(27,S.agg [ii u31,ii u32]),(7,S.ptr 19 0),(39,bb u33),(23,S.t (T.rows 7 a.fTypes.n fun i=>e112 (a.fTypes.get i))),(15,ag (e52 u34)),(47,bb u35),(31,ss u36)] 48 [(0,B.box (List.map S.t (e33 a))),(4,B.box (List.map S.t (e52 v1))),(36,B.lst false 3 1 [ss u37,ss u38,ss u39]),(19,B.box [ii v2,ii v3])])
def K26_4 (a:D33) (kk:PK S):T26_2:=fun u0 u1 u2 u3 u4 u5 u6 u7 u8 u9 u10 u11 u12 u13 u14 u15 u16 u17 u18 u19 u20 u21 u22 u23 u24 u25 u26 u27 u28 u29 u30 u31 u32=> kk 11 21 27 (mkSt [(32,ss u29),(16,ag (e52 u0)),(48,bb true),(8,bb u1),(40,bb true),(24,S.ptr 4 3),(36,S.ptr 4 1),(52,S.ud),(12,ii u30),(44,S.ud),(28,bb u2),(18,ii u3),(50,S.ud),(10,S.t (T.rows 15 a.fClaims.n fun i=>e52 (a.fClaims.get i))),(42,S.ud),(26,S.tup [S.agg [ii u4,ii u5],bb u6]),(6,ii u7),(38,bb u8),(22,S.ptr 0 6),(54,bb true),(14,S.pt (e52 u9)),(46,S.ud),(30,S.ptr 4 0),(1,S.ptr 0 0),(33,bb u10),(17,ii u11),(49,S.ud),(41,S.ud),(25,S.agg [ss u12,ss u13,ss u14]),(5,S.ptr 4 0),(37,ss u15),(21,S.tup [S.agg [ii u16,ii u17],bb u18]),(53,S.ud),(13,bb u31),(45,S.ud),(29,bb u19),(3,ss u32),(35,ag (e33 a)),(19,bb u20),(51,S.ud),(11,ii (ofN a.fClaims.n)),(43,S.ud),(27,S.agg [ii u21,ii u22]),(7,S.ptr 19 0),(39,bb u23),(23,S.t (T.rows 7 a.fTypes.n fun i=>e112 (a.fTypes.get i))),(15,ag (e52 u24)),(47,bb true),(31,ss u25)] 48 [(0,B.box (List.map S.t (e33 a))),(4,B.box (List.map S.t (e52 u26))),(19,B.box [ii u27,ii u28])])
def b26_0 (q:YF) (a:D33) (k1:T26_1) (k2:T26_2) (v0:Int) (v1:BA):OS:=bif ltI v0 (ofN a.fClaims.n) then elemO v0 a.fClaims.n fun h=>yC q 62 [ag (e52 (a.fClaims.get (Fin.mk v0.toNat h)))] fun y=>bif !eqI (y.i 0) 0 then some (ii (y.i 0)) else yC q 63 [S.t (T.rows 7 a.fTypes.n fun i=>e112 (a.fTypes.get i)),S.agg [ss (a.fClaims.get (Fin.mk v0.toNat h)).fOffer_Type,ss (a.fClaims.get (Fin.mk v0.toNat h)).fOffer_Zone,ss (a.fClaims.get (Fin.mk v0.toNat h)).fOffer_Kind]] fun y_1=>bif strLt (a.fClaims.get (Fin.mk v0.toNat h)).fName v1 || strEq (a.fClaims.get (Fin.mk v0.toNat h)).fName v1 then some (ii 6) else yC q 64 [ag (e33 a),ss (a.fClaims.get (Fin.mk v0.toNat h)).fPool] fun y_2=>bif !y_2.b 0 then k2 (a.fClaims.get (Fin.mk v0.toNat h)) (y_1.b 2) (y_1.b 2) (y.i 0) (y_1.i 0) (y_1.i 1) (y_1.b 2) (y.i 0) (y_2.b 0) (a.fClaims.get (Fin.mk v0.toNat h)) (strLt (a.fClaims.get (Fin.mk v0.toNat h)).fName v1 || strEq (a.fClaims.get (Fin.mk v0.toNat h)).fName v1) (y.i 0) (a.fClaims.get (Fin.mk v0.toNat h)).fOffer_Type (a.fClaims.get (Fin.mk v0.toNat h)).fOffer_Zone (a.fClaims.get (Fin.mk v0.toNat h)).fOffer_Kind (a.fClaims.get (Fin.mk v0.toNat h)).fPool (y_1.i 0) (y_1.i 1) (y_1.b 2) (strLt (a.fClaims.get (Fin.mk v0.toNat h)).fName v1 || strEq (a.fClaims.get (Fin.mk v0.toNat h)).fName v1) (!eqI (y.i 0) 0) (y_1.i 0) (y_1.i 1) (!y_2.b 0) (a.fClaims.get (Fin.mk v0.toNat h)) (a.fClaims.get (Fin.mk v0.toNat h)).fName (a.fClaims.get (Fin.mk v0.toNat h)) (y_1.i 0) (y_1.i 1) v1 v0 (ltI v0 (ofN a.fClaims.n)) v1 else yC q 65 [ag (e33 a),S.t (T.rows 3 1 fun i=>List.take 3 (List.drop (↑i*3) [ts (a.fClaims.get (Fin.mk v0.toNat h)).fOffer_Type,ts (a.fClaims.get (Fin.mk v0.toNat h)).fOffer_Zone,ts (a.fClaims.get (Fin.mk v0.toNat h)).fOffer_Kind]))] fun y_3=>k1 (!y_3.b 0) (a.fClaims.get (Fin.mk v0.toNat h)) (y_1.i 0) (y_1.i 1) v0 (a.fClaims.get (Fin.mk v0.toNat h)) (y_1.b 2) (y_1.b 2) (y.i 0) (y_1.i 0) (y_1.i 1) (y_1.b 2) (y.i 0) (y_2.b 0) (a.fClaims.get (Fin.mk v0.toNat h)) (!y_3.b 0) (strLt (a.fClaims.get (Fin.mk v0.toNat h)).fName v1 || strEq (a.fClaims.get (Fin.mk v0.toNat h)).fName v1) (y.i 0) (a.fClaims.get (Fin.mk v0.toNat h)).fOffer_Type (a.fClaims.get (Fin.mk v0.toNat h)).fOffer_Zone (a.fClaims.get (Fin.mk v0.toNat h)).fOffer_Kind (a.fClaims.get (Fin.mk v0.toNat h)).fPool (y_1.i 0) (y_1.i 1) (y_1.b 2) (y_3.b 0) (strLt (a.fClaims.get (Fin.mk v0.toNat h)).fName v1 || strEq (a.fClaims.get (Fin.mk v0.toNat h)).fName v1) (!eqI (y.i 0) 0) (a.fClaims.get (Fin.mk v0.toNat h)).fOffer_Type (a.fClaims.get (Fin.mk v0.toNat h)).fOffer_Zone (a.fClaims.get (Fin.mk v0.toNat h)).fOffer_Kind (y_1.i 0) (y_1.i 1) (!y_2.b 0) (a.fClaims.get (Fin.mk v0.toNat h)) (a.fClaims.get (Fin.mk v0.toNat h)).fName (a.fClaims.get (Fin.mk v0.toNat h)).fOffer_Type (a.fClaims.get (Fin.mk v0.toNat h)).fOffer_Zone (a.fClaims.get (Fin.mk v0.toNat h)).fOffer_Kind v1 (ltI v0 (ofN a.fClaims.n)) v1 else some (ii 0)
def b26_1 (q:YF) (a:D33) (k3:T26_3):T26_1:=fun v0 v1 v2 v3 v4 u5 u6 u7 u8 u9 u10 u11 u12 u13 u14 u15 u16 u17 u18 u19 u20 u21 u22 u23 u24 u25 u26 u27 u28 u29 u30 u31 u32 u33 u34 u35 u36 u37 u38 u39 u40 u41=>bif v0 then k3 true v1 v2 v3 v4 u5 u6 u7 u8 u9 u10 u11 u12 u13 u14 u15 u16 u17 u18 u19 u20 u21 u22 u23 u24 u25 u26 u27 u28 u29 u30 u31 u32 u33 u34 v0 u35 u36 u37 u38 true S.ud S.ud S.ud S.ud S.ud u39 u40 u41 else yC q 65 [ag (e33 a),S.t (T.rows 3 v1.fOpts.n fun i=>e47 (v1.fOpts.get i))] fun y=>k3 (!y.b 0) v1 v2 v3 v4 u5 u6 u7 u8 u9 u10 u11 u12 u13 u14 u15 u16 u17 u18 u19 u20 u21 u22 u23 u24 u25 u26 u27 u28 u29 u30 u31 u32 u33 u34 v0 u35 u36 u37 u38 false (bb (y.b 0)) (S.ptr 4 9) (ag (e33 a)) (S.t (T.v (.bool !y.b 0))) (S.t (T.rows 3 v1.fOpts.n fun i=>e47 (v1.fOpts.get i))) u39 u40 u41
def b26_2 (q:YF) (a:D33) (k4:T26_2):T26_2:=fun u0 u1 u2 u3 u4 u5 u6 u7 u8 u9 u10 u11 u12 u13 u14 u15 u16 u17 u18 u19 u20 u21 u22 u23 u24 u25 u26 u27 u28 u29 u30 u31 u32=>k4 u0 u1 u2 u3 u4 u5 u6 u7 u8 u9 u10 u11 u12 u13 u14 u15 u16 u17 u18 u19 u20 u21 u22 u23 u24 u25 u26 u27 u28 u29 u30 u31 u32
def b26_3 (q:YF) (a:D33) (k0:T25_0):T26_3:=fun v0 v1 v2 v3 v4 u5 u6 u7 u8 u9 u10 u11 u12 u13 u14 u15 u16 u17 u18 u19 u20 u21 u22 u23 u24 u25 u26 u27 u28 u29 u30 u31 u32 u33 u34 u35 u36 u37 u38 u39 u40 u41 u42 u43 u44 u45 u46 u47 u48=>bif v0 then some (ii 5) else bif !(eqI v1.fCap_0 v2 && (eqI v1.fCap_1 v3 && true)) then some (ii 1) else k0 (addI .i64 v4 1) v1.fName
def b26_4 (q:YF) (a:D33) (u0:D52) (u1 u2:Bool) (u3 u4 u5:Int) (u6:Bool) (u7:Int) (u8:Bool) (u9:D52) (u10:Bool) (u11:Int) (u12 u13 u14 u15:BA) (u16 u17:Int) (u18 u19 u20:Bool) (u21 u22:Int) (u23:Bool) (u24:D52) (u25:BA) (u26:D52) (u27 u28:Int) (u29:BA) (u30:Int) (u31:Bool) (u32:BA):OS:=some (ii 5)
def e26_in (q:YF) (a:D33) (k0:T25_0):OS:=k0 0 (bs [])
structure X26 where
 x0:Int→BA→OS
 x1:Bool→D52→Int→Int→Int→OS
 x2:OS
 x3:Bool→D52→Int→Int→Int→OS
 x4:OS
def D26_0 (X:X26):T25_0:=fun v0 v1=>X.x0 v0 v1
def D26_1 (X:X26):T26_1:=fun v0 v1 v2 v3 v4 _ _ _ _ _ _ _ _ _ _ _ _ _ _ _ _ _ _ _ _ _ _ _ _ _ _ _ _ _ _ _ _ _ _ _ _ _=>X.x1 v0 v1 v2 v3 v4
def D26_2 (X:X26):T26_2:=fun _ _ _ _ _ _ _ _ _ _ _ _ _ _ _ _ _ _ _ _ _ _ _ _ _ _ _ _ _ _ _ _ _=>X.x2
def D26_3 (X:X26):T26_3:=fun v0 v1 v2 v3 v4 _ _ _ _ _ _ _ _ _ _ _ _ _ _ _ _ _ _ _ _ _ _ _ _ _ _ _ _ _ _ _ _ _ _ _ _ _ _ _ _ _ _ _ _=>X.x3 v0 v1 v2 v3 v4
def D26_4 (X:X26):T26_2:=fun _ _ _ _ _ _ _ _ _ _ _ _ _ _ _ _ _ _ _ _ _ _ _ _ _ _ _ _ _ _ _ _ _=>X.x4
def X26s (q:YF) (a:D33) (X:X26):X26:=⟨fun v0 v1=>b26_0 q a (D26_1 X) (D26_2 X) v0 v1,
 fun v0 v1 v2 v3 v4=>b26_1 q a (D26_3 X) v0 v1 v2 v3 v4 dd dd dd dd dd dd dd dd dd dd dd dd dd dd dd dd dd dd dd dd dd dd dd dd dd dd dd dd dd dd dd dd dd dd dd dd dd,
 b26_2 q a (D26_4 X) dd dd dd dd dd dd dd dd dd dd dd dd dd dd dd dd dd dd dd dd dd dd dd dd dd dd dd dd dd dd dd dd dd,
 fun v0 v1 v2 v3 v4=>b26_3 q a (D26_0 X) v0 v1 v2 v3 v4 dd dd dd dd dd dd dd dd dd dd dd dd dd dd dd dd dd dd dd dd dd dd dd dd dd dd dd dd dd dd dd dd dd dd dd dd dd dd dd dd dd dd dd dd,
 b26_4 q a dd dd dd dd dd dd dd dd dd dd dd dd dd dd dd dd dd dd dd dd dd dd dd dd dd dd dd dd dd dd dd dd dd⟩
def X26n (q:YF) (a:D33):Nat→X26
 | 0=>⟨fun _ _=>none,fun _ _ _ _ _=>none,none,fun _ _ _ _ _=>none,none⟩
 | n+1=>X26s q a (X26n q a n)
theorem l26_0 (q:YF) (a:D33) (kk:PK S):K26_0 a (P26 q kk)=b26_0 q a (K26_1 a kk) (K26_2 a kk):=by
 kernel_rfl
theorem l26_1 (q:YF) (a:D33) (kk:PK S):K26_1 a (P26 q kk)=b26_1 q a (K26_3 a kk):=by
 kernel_rfl
theorem l26_2 (q:YF) (a:D33) (kk:PK S):K26_2 a (P26 q kk)=b26_2 q a (K26_4 a kk):=by
 kernel_rfl
theorem l26_3 (q:YF) (a:D33) (kk:PK S):K26_3 a (P26 q kk)=b26_3 q a (K26_0 a kk):=by
 kernel_rfl
theorem l26_4 (q:YF) (a:D33) (kk:PK S):K26_4 a (P26 q kk)=b26_4 q a:=by
 kernel_rfl
theorem l26_in (q:YF) (a:D33) (kk:PK S):BG q kk 26 Tryz.f26 [ag (e33 a)]=e26_in q a (K26_0 a kk):=by
 kernel_rfl
theorem h26 (q:YF) (a:D33):∀ n,K26_0 a (H26 q n)=D26_0 (X26n q a n)∧K26_1 a (H26 q n)=D26_1 (X26n q a n)∧K26_2 a (H26 q n)=D26_2 (X26n q a n)∧K26_3 a (H26 q n)=D26_3 (X26n q a n)∧K26_4 a (H26 q n)=D26_4 (X26n q a n)
 | 0=>⟨rfl,rfl,rfl,rfl,rfl⟩
 | n+1=>by
  obtain ⟨h0,h1,h2,h3,h4⟩:=h26 q a n
  exact ⟨(l26_0 q a (H26 q n)).trans (by rw [h1,h2];kernel_rfl),(l26_1 q a (H26 q n)).trans (by rw [h3];kernel_rfl),(l26_2 q a (H26 q n)).trans (by rw [h4];kernel_rfl),(l26_3 q a (H26 q n)).trans (by rw [h0];kernel_rfl),(l26_4 q a (H26 q n)).trans (by kernel_rfl)⟩
theorem W26 (a:D33) (n:Nat) (x:S) (h:e26_in (regs O) a (D26_0 (X26n (regs O) a n))=some x):(W O).callT 26 [ag (e33 a)]=some x:=by
 refine WG (fn:=Tryz.f26) (by kernel_rfl) (by kernel_rfl) (n:=n) ?_
 refine (l26_in (regs O) a (H26 (regs O) n)).trans ?_
 obtain ⟨h0,h1,h2,h3,h4⟩:=h26 (regs O) a n
 rw [h0]
 exact h
end
end Go.Proofs.YtonkoellfaopiaaGreatDoor.H
