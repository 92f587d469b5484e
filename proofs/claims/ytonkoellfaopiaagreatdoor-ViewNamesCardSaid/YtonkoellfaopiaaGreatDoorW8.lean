import Derived.Test.YtonkoellfaopiaaGreatDoorW7
set_option linter.unusedSimpArgs false
set_option linter.unusedVariables false
namespace Go.Proofs.YtonkoellfaopiaaGreatDoor.H
open Go
noncomputable section
abbrev P9 (q:YF) (kk:PK S):PK S:=PG q 9 Tryz.f9 kk
abbrev H9 (q:YF):Nat→PK S:=HG q 9 Tryz.f9
def s9_0 (a:D33) (v0 u1 u2:Bool) (u3 u4:S) (u5:Bool) (u6 u7:S):St:=mkSt [(0,ag (e33 a)),(16,u3),(8,S.ptr 0 1),(12,bb u1),(2,ii 0),(18,u4),(10,S.ptr 0 0),(14,bb u5),(1,S.ptr 0 0),(17,u6),(9,S.agg [ii a.fConf_Idle,ii a.fConf_Most,ii a.fConf_Hold,ii a.fConf_Late,ii a.fConf_Cool]),(13,bb u2),(3,S.ptr 4 0),(19,bb v0),(11,ii a.fNow),(15,u7)] 40 [(0,B.box (List.map S.t (e33 a))),(4,B.box [ii a.fConf_Idle,ii a.fConf_Most,ii a.fConf_Hold,ii a.fConf_Late,ii a.fConf_Cool])]
abbrev T9_0:Type:=Bool→Bool→Bool→S→S→Bool→S→S→OS
def K9_0 (a:D33) (kk:PK S):T9_0:=fun v0 u1 u2 u3 u4 u5 u6 u7=> kk 2 11 6 (s9_0 a v0 u1 u2 u3 u4 u5 u6 u7)
def s9_1 (a:D33) (v0:Bool) (u1:S) (u2:Bool) (u3:S) (u4:Bool) (u5:S) (u6 u7:Bool) (u8 u9:S) (u10:Bool) (u11 u12 u13:S):St:=mkSt [(0,ag (e33 a)),(16,u1),(8,S.ptr 0 1),(24,u9),(20,bb u10),(12,bb u2),(2,ii 0),(18,u3),(10,S.ptr 0 0),(22,u11),(14,bb u4),(1,S.ptr 0 0),(17,u5),(9,S.agg [ii a.fConf_Idle,ii a.fConf_Most,ii a.fConf_Hold,ii a.fConf_Late,ii a.fConf_Cool]),(25,bb v0),(21,u12),(13,bb u6),(3,S.ptr 4 0),(19,bb u7),(11,ii a.fNow),(23,u13),(15,u8)] 40 [(0,B.box (List.map S.t (e33 a))),(4,B.box [ii a.fConf_Idle,ii a.fConf_Most,ii a.fConf_Hold,ii a.fConf_Late,ii a.fConf_Cool])]
abbrev T9_1:Type:=Bool→S→Bool→S→Bool→S→Bool→Bool→S→S→Bool→S→S→S→OS
def K9_1 (a:D33) (kk:PK S):T9_1:=fun v0 u1 u2 u3 u4 u5 u6 u7 u8 u9 u10 u11 u12 u13=> kk 2 17 6 (s9_1 a v0 u1 u2 u3 u4 u5 u6 u7 u8 u9 u10 u11 u12 u13)
def s9_2 (a:D33) (v0:Bool) (u1 u2:S) (u3 u4:Bool) (u5 u6:S) (u7:Bool) (u8:S) (u9:Bool) (u10:S) (u11 u12:Bool) (u13 u14 u15:S) (u16:Bool) (u17 u18 u19:S):St:=mkSt [(0,ag (e33 a)),(16,u1),(8,S.ptr 0 1),(24,u2),(20,bb u3),(12,bb u4),(28,u15),(2,ii 0),(18,u5),(10,S.ptr 0 0),(26,bb u16),(22,u6),(14,bb u7),(30,u17),(1,S.ptr 0 0),(17,u8),(9,S.agg [ii a.fConf_Idle,ii a.fConf_Most,ii a.fConf_Hold,ii a.fConf_Late,ii a.fConf_Cool]),(25,bb u9),(21,u10),(13,bb u11),(29,u18),(3,S.ptr 4 0),(19,bb u12),(11,ii a.fNow),(27,u19),(23,u13),(15,u14),(31,bb v0)] 40 [(0,B.box (List.map S.t (e33 a))),(4,B.box [ii a.fConf_Idle,ii a.fConf_Most,ii a.fConf_Hold,ii a.fConf_Late,ii a.fConf_Cool])]
abbrev T9_2:Type:=Bool→S→S→Bool→Bool→S→S→Bool→S→Bool→S→Bool→Bool→S→S→S→Bool→S→S→S→OS
def K9_2 (a:D33) (kk:PK S):T9_2:=fun v0 u1 u2 u3 u4 u5 u6 u7 u8 u9 u10 u11 u12 u13 u14 u15 u16 u17 u18 u19=> kk 2 23 6 (s9_2 a v0 u1 u2 u3 u4 u5 u6 u7 u8 u9 u10 u11 u12 u13 u14 u15 u16 u17 u18 u19)
def s9_3 (a:D33) (v0:Bool) (u1 u2:S) (u3 u4:Bool) (u5 u6:S) (u7:Bool) (u8:S) (u9:Bool) (u10 u11:S) (u12:Bool) (u13:S) (u14:Bool) (u15:S) (u16:Bool) (u17 u18 u19:S) (u20 u21:Bool) (u22 u23 u24 u25:S):St:=mkSt [(0,ag (e33 a)),(32,bb u21),(16,u1),(8,S.ptr 0 1),(24,u2),(36,u22),(20,bb u3),(12,bb u4),(28,u5),(2,ii 0),(34,u23),(18,u6),(10,S.ptr 0 0),(26,bb u7),(22,u8),(14,bb u9),(30,u10),(1,S.ptr 0 0),(33,u24),(17,u11),(9,S.agg [ii a.fConf_Idle,ii a.fConf_Most,ii a.fConf_Hold,ii a.fConf_Late,ii a.fConf_Cool]),(25,bb u12),(37,bb v0),(21,u13),(13,bb u14),(29,u15),(3,S.ptr 4 0),(35,u25),(19,bb u16),(11,ii a.fNow),(27,u17),(23,u18),(15,u19),(31,bb u20)] 40 [(0,B.box (List.map S.t (e33 a))),(4,B.box [ii a.fConf_Idle,ii a.fConf_Most,ii a.fConf_Hold,ii a.fConf_Late,ii a.fConf_Cool])]
abbrev T9_3:Type:=Bool→S→S→Bool→Bool→S→S→Bool→S→Bool→S→S→Bool→S→Bool→S→Bool→S→S→S→Bool→Bool→S→S→S→S→OS
def K9_3 (a:D33) (kk:PK S):T9_3:=fun v0 u1 u2 u3 u4 u5 u6 u7 u8 u9 u10 u11 u12 u13 u14 u15 u16 u17 u18 u19 u20 u21 u22 u23 u24 u25=> kk 2 29 6 (s9_3 a v0 u1 u2 u3 u4 u5 u6 u7 u8 u9 u10 u11 u12 u13 u14 u15 u16 u17 u18 u19 u20 u21 u22 u23 u24 u25)
def s9_4 (a:D33) (v0 u1:Bool) (u2:S) (u3:Bool) (u4:S) (u5:Int) (u6:S) (u7 u8:Bool) (u9 u10 u11:S) (u12 u13:Bool) (u14:S) (u15:Bool) (u16:Int) (u17 u18 u19:S) (u20 u21 u22:Bool) (u23:S) (u24:Bool) (u25 u26:S) (u27 u28:Bool) (u29 u30 u31:S) (u32:Int) (u33:Bool) (u34 u35:S) (u36:Bool) (u37 u38:S):St:=mkSt [(0,ag (e33 a)),(32,bb u1),(16,u2),(48,bb u3),(8,S.ptr 0 1),(40,ii a.fConf_Cool),(24,u4),(56,u34),(4,ii u5),(36,u6),(20,bb u7),(52,ii (ofN a.fPods.n)),(12,bb u8),(44,S.ptr 0 6),(28,u9),(2,ii 0),(34,u10),(18,u11),(50,S.ptr 0 7),(10,S.ptr 0 0),(42,bb u12),(26,bb u13),(58,u35),(38,bb false),(22,u14),(54,bb u36),(14,bb u15),(46,ii u16),(30,u17),(1,S.ptr 0 0),(33,u18),(17,u19),(9,S.agg [ii a.fConf_Idle,ii a.fConf_Most,ii a.fConf_Hold,ii a.fConf_Late,ii a.fConf_Cool]),(41,bb u20),(25,bb u21),(57,u37),(37,bb u22),(21,u23),(53,bb (gtI (ofN a.fPods.n) 24)),(13,bb u24),(45,S.t (T.rows 7 a.fTypes.n fun i=>e112 (a.fTypes.get i))),(29,u25),(3,S.ptr 4 0),(35,u26),(19,bb u27),(51,S.t (T.rows 12 a.fPods.n fun i=>e61 (a.fPods.get i))),(11,ii a.fNow),(43,bb u28),(27,u29),(59,bb v0),(39,S.ptr 4 4),(23,u30),(55,u38),(15,u31),(47,ii u32),(31,bb u33)] 86 [(0,B.box (List.map S.t (e33 a))),(4,B.box [ii a.fConf_Idle,ii a.fConf_Most,ii a.fConf_Hold,ii a.fConf_Late,ii a.fConf_Cool])]
abbrev T9_4:Type:=Bool→Bool→S→Bool→S→Int→S→Bool→Bool→S→S→S→Bool→Bool→S→Bool→Int→S→S→S→Bool→Bool→Bool→S→Bool→S→S→Bool→Bool→S→S→S→Int→Bool→S→S→Bool→S→S→OS
def K9_4 (a:D33) (kk:PK S):T9_4:=fun v0 u1 u2 u3 u4 u5 u6 u7 u8 u9 u10 u11 u12 u13 u14 u15 u16 u17 u18 u19 u20 u21 u22 u23 u24 u25 u26 u27 u28 u29 u30 u31 u32 u33 u34 u35 u36 u37 u38=> kk 7 11 46 (s9_4 a v0 u1 u2 u3 u4 u5 u6 u7 u8 u9 u10 u11 u12 u13 u14 u15 u16 u17 u18 u19 u20 u21 u22 u23 u24 u25 u26 u27 u28 u29 u30 u31 u32 u33 u34 u35 u36 u37 u38)
def s9_5 (a:D33) (v0 u1:Bool) (u2:S) (u3:Bool) (u4 u5:S) (u6:Int) (u7:S) (u8 u9:Bool) (u10 u11 u12:S) (u13 u14:Bool) (u15 u16:S) (u17 u18:Bool) (u19:Int) (u20 u21 u22:S) (u23 u24:Bool) (u25:S) (u26:Bool) (u27:S) (u28:Bool) (u29 u30:S) (u31 u32:Bool) (u33:S) (u34:Bool) (u35 u36 u37:S) (u38:Int) (u39:Bool) (u40:S) (u41:Bool) (u42 u43 u44:S):St:=mkSt [(0,ag (e33 a)),(64,u40),(32,bb u1),(16,u2),(48,bb u3),(8,S.ptr 0 1),(40,ii a.fConf_Cool),(24,u4),(56,u5),(4,ii u6),(36,u7),(20,bb u8),(52,ii (ofN a.fPods.n)),(12,bb u9),(44,S.ptr 0 6),(28,u10),(60,bb u41),(2,ii 0),(34,u11),(18,u12),(50,S.ptr 0 7),(10,S.ptr 0 0),(42,bb u13),(26,bb u14),(58,u15),(38,bb false),(22,u16),(54,bb u17),(14,bb u18),(46,ii u19),(30,u20),(62,u42),(1,S.ptr 0 0),(65,bb v0),(33,u21),(17,u22),(9,S.agg [ii a.fConf_Idle,ii a.fConf_Most,ii a.fConf_Hold,ii a.fConf_Late,ii a.fConf_Cool]),(41,bb u23),(25,bb u24),(57,u25),(37,bb u26),(21,u27),(53,bb (gtI (ofN a.fPods.n) 24)),(13,bb u28),(45,S.t (T.rows 7 a.fTypes.n fun i=>e112 (a.fTypes.get i))),(29,u29),(61,u43),(3,S.ptr 4 0),(35,u30),(19,bb u31),(51,S.t (T.rows 12 a.fPods.n fun i=>e61 (a.fPods.get i))),(11,ii a.fNow),(43,bb u32),(27,u33),(59,bb u34),(39,S.ptr 4 4),(23,u35),(55,u36),(15,u37),(47,ii u38),(31,bb u39),(63,u44)] 86 [(0,B.box (List.map S.t (e33 a))),(4,B.box [ii a.fConf_Idle,ii a.fConf_Most,ii a.fConf_Hold,ii a.fConf_Late,ii a.fConf_Cool])]
abbrev T9_5:Type:=Bool→Bool→S→Bool→S→S→Int→S→Bool→Bool→S→S→S→Bool→Bool→S→S→Bool→Bool→Int→S→S→S→Bool→Bool→S→Bool→S→Bool→S→S→Bool→Bool→S→Bool→S→S→S→Int→Bool→S→Bool→S→S→S→OS
def K9_5 (a:D33) (kk:PK S):T9_5:=fun v0 u1 u2 u3 u4 u5 u6 u7 u8 u9 u10 u11 u12 u13 u14 u15 u16 u17 u18 u19 u20 u21 u22 u23 u24 u25 u26 u27 u28 u29 u30 u31 u32 u33 u34 u35 u36 u37 u38 u39 u40 u41 u42 u43 u44=> kk 7 17 46 (s9_5 a v0 u1 u2 u3 u4 u5 u6 u7 u8 u9 u10 u11 u12 u13 u14 u15 u16 u17 u18 u19 u20 u21 u22 u23 u24 u25 u26 u27 u28 u29 u30 u31 u32 u33 u34 u35 u36 u37 u38 u39 u40 u41 u42 u43 u44)
def s9_6 (a:D33) (v0:Bool) (u1:S) (u2:Bool) (u3:S) (u4:Bool) (u5 u6:S) (u7:Int) (u8:S) (u9 u10:Bool) (u11:S) (u12:Bool) (u13 u14:S) (u15 u16:Bool) (u17 u18:S) (u19 u20:Bool) (u21:Int) (u22 u23:S) (u24:Bool) (u25 u26:S) (u27 u28:Bool) (u29:S) (u30:Bool) (u31:S) (u32:Bool) (u33 u34 u35:S) (u36 u37:Bool) (u38:S) (u39:Bool) (u40 u41 u42:S) (u43:Int) (u44:Bool) (u45 u46:S) (u47:Bool) (u48 u49 u50:S):St:=mkSt [(0,ag (e33 a)),(64,u1),(32,bb u2),(16,u3),(48,bb u4),(8,S.ptr 0 1),(40,ii a.fConf_Cool),(24,u5),(56,u6),(4,ii u7),(68,u46),(36,u8),(20,bb u9),(52,ii (ofN a.fPods.n)),(12,bb u10),(44,S.ptr 0 6),(28,u11),(60,bb u12),(2,ii 0),(66,bb u47),(34,u13),(18,u14),(50,S.ptr 0 7),(10,S.ptr 0 0),(42,bb u15),(26,bb u16),(58,u17),(70,u48),(38,bb false),(22,u18),(54,bb u19),(14,bb u20),(46,ii u21),(30,u22),(62,u23),(1,S.ptr 0 0),(65,bb u24),(33,u25),(17,u26),(9,S.agg [ii a.fConf_Idle,ii a.fConf_Most,ii a.fConf_Hold,ii a.fConf_Late,ii a.fConf_Cool]),(41,bb u27),(25,bb u28),(57,u29),(69,u49),(37,bb u30),(21,u31),(53,bb (gtI (ofN a.fPods.n) 24)),(13,bb u32),(45,S.t (T.rows 7 a.fTypes.n fun i=>e112 (a.fTypes.get i))),(29,u33),(61,u34),(3,S.ptr 4 0),(67,u50),(35,u35),(19,bb u36),(51,S.t (T.rows 12 a.fPods.n fun i=>e61 (a.fPods.get i))),(11,ii a.fNow),(43,bb u37),(27,u38),(59,bb u39),(71,bb v0),(39,S.ptr 4 4),(23,u40),(55,u41),(15,u42),(47,ii u43),(31,bb u44),(63,u45)] 86 [(0,B.box (List.map S.t (e33 a))),(4,B.box [ii a.fConf_Idle,ii a.fConf_Most,ii a.fConf_Hold,ii a.fConf_Late,ii a.fConf_Cool])]
abbrev T9_6:Type:=Bool→S→Bool→S→Bool→S→S→Int→S→Bool→Bool→S→Bool→S→S→Bool→Bool→S→S→Bool→Bool→Int→S→S→Bool→S→S→Bool→Bool→S→Bool→S→Bool→S→S→S→Bool→Bool→S→Bool→S→S→S→Int→Bool→S→S→Bool→S→S→S→OS
def K9_6 (a:D33) (kk:PK S):T9_6:=fun v0 u1 u2 u3 u4 u5 u6 u7 u8 u9 u10 u11 u12 u13 u14 u15 u16 u17 u18 u19 u20 u21 u22 u23 u24 u25 u26 u27 u28 u29 u30 u31 u32 u33 u34 u35 u36 u37 u38 u39 u40 u41 u42 u43 u44 u45 u46 u47 u48 u49 u50=> kk 7 23 46 (s9_6 a v0 u1 u2 u3 u4 u5 u6 u7 u8 u9 u10 u11 u12 u13 u14 u15 u16 u17 u18 u19 u20 u21 u22 u23 u24 u25 u26 u27 u28 u29 u30 u31 u32 u33 u34 u35 u36 u37 u38 u39 u40 u41 u42 u43 u44 u45 u46 u47 u48 u49 u50)
def s9_7 (a:D33) (v0:Bool) (u1:S) (u2:Bool) (u3:S) (u4:Bool) (u5 u6:S) (u7:Int) (u8 u9:S) (u10 u11:Bool) (u12:S) (u13 u14:Bool) (u15 u16:S) (u17 u18:Bool) (u19 u20 u21:S) (u22 u23:Bool) (u24:Int) (u25 u26:S) (u27:Bool) (u28 u29:S) (u30 u31:Bool) (u32 u33:S) (u34:Bool) (u35:S) (u36:Bool) (u37 u38 u39 u40:S) (u41 u42:Bool) (u43:S) (u44 u45:Bool) (u46 u47 u48:S) (u49:Int) (u50:Bool) (u51:S) (u52:Bool) (u53 u54 u55 u56:S):St:=mkSt [(0,ag (e33 a)),(64,u1),(32,bb u2),(16,u3),(48,bb u4),(8,S.ptr 0 1),(72,bb u52),(40,ii a.fConf_Cool),(24,u5),(56,u6),(4,ii u7),(68,u8),(36,u9),(20,bb u10),(52,ii (ofN a.fPods.n)),(12,bb u11),(76,u53),(44,S.ptr 0 6),(28,u12),(60,bb u13),(2,ii 0),(66,bb u14),(34,u15),(18,u16),(50,S.ptr 0 7),(10,S.ptr 0 0),(74,u54),(42,bb u17),(26,bb u18),(58,u19),(70,u20),(38,bb false),(22,u21),(54,bb u22),(14,bb u23),(46,ii u24),(30,u25),(62,u26),(1,S.ptr 0 0),(65,bb u27),(33,u28),(17,u29),(9,S.agg [ii a.fConf_Idle,ii a.fConf_Most,ii a.fConf_Hold,ii a.fConf_Late,ii a.fConf_Cool]),(73,u55),(41,bb u30),(25,bb u31),(57,u32),(69,u33),(37,bb u34),(21,u35),(53,bb (gtI (ofN a.fPods.n) 24)),(13,bb u36),(77,bb v0),(45,S.t (T.rows 7 a.fTypes.n fun i=>e112 (a.fTypes.get i))),(29,u37),(61,u38),(3,S.ptr 4 0),(67,u39),(35,u40),(19,bb u41),(51,S.t (T.rows 12 a.fPods.n fun i=>e61 (a.fPods.get i))),(11,ii a.fNow),(75,u56),(43,bb u42),(27,u43),(59,bb u44),(71,bb u45),(39,S.ptr 4 4),(23,u46),(55,u47),(15,u48),(47,ii u49),(31,bb u50),(63,u51)] 86 [(0,B.box (List.map S.t (e33 a))),(4,B.box [ii a.fConf_Idle,ii a.fConf_Most,ii a.fConf_Hold,ii a.fConf_Late,ii a.fConf_Cool])]
abbrev T9_7:Type:=Bool→S→Bool→S→Bool→S→S→Int→S→S→Bool→Bool→S→Bool→Bool→S→S→Bool→Bool→S→S→S→Bool→Bool→Int→S→S→Bool→S→S→Bool→Bool→S→S→Bool→S→Bool→S→S→S→S→Bool→Bool→S→Bool→Bool→S→S→S→Int→Bool→S→Bool→S→S→S→S→OS
def K9_7 (a:D33) (kk:PK S):T9_7:=fun v0 u1 u2 u3 u4 u5 u6 u7 u8 u9 u10 u11 u12 u13 u14 u15 u16 u17 u18 u19 u20 u21 u22 u23 u24 u25 u26 u27 u28 u29 u30 u31 u32 u33 u34 u35 u36 u37 u38 u39 u40 u41 u42 u43 u44 u45 u46 u47 u48 u49 u50 u51 u52 u53 u54 u55 u56=> kk 7 29 46 (s9_7 a v0 u1 u2 u3 u4 u5 u6 u7 u8 u9 u10 u11 u12 u13 u14 u15 u16 u17 u18 u19 u20 u21 u22 u23 u24 u25 u26 u27 u28 u29 u30 u31 u32 u33 u34 u35 u36 u37 u38 u39 u40 u41 u42 u43 u44 u45 u46 u47 u48 u49 u50 u51 u52 u53 u54 u55 u56)
def s9_8 (a:D33) (v0:Bool) (u1:S) (u2:Bool) (u3:S) (u4 u5:Bool) (u6 u7:S) (u8:Int) (u9 u10:S) (u11 u12:Bool) (u13 u14:S) (u15 u16:Bool) (u17 u18 u19:S) (u20 u21:Bool) (u22 u23 u24:S) (u25 u26:Bool) (u27:Int) (u28 u29:S) (u30:Bool) (u31 u32 u33:S) (u34 u35:Bool) (u36 u37:S) (u38:Bool) (u39:S) (u40 u41:Bool) (u42 u43 u44 u45:S) (u46:Bool) (u47:S) (u48:Bool) (u49:S) (u50 u51:Bool) (u52 u53 u54:S) (u55:Int) (u56:Bool) (u57 u58 u59:S) (u60:Bool) (u61 u62:S):St:=mkSt [(0,ag (e33 a)),(64,u1),(32,bb u2),(16,u3),(80,u58),(48,bb u4),(8,S.ptr 0 1),(72,bb u5),(40,ii a.fConf_Cool),(24,u6),(56,u7),(4,ii u8),(68,u9),(36,u10),(20,bb u11),(52,ii (ofN a.fPods.n)),(12,bb u12),(76,u13),(44,S.ptr 0 6),(28,u14),(60,bb u15),(2,ii 0),(66,bb u16),(34,u17),(18,u18),(82,u59),(50,S.ptr 0 7),(10,S.ptr 0 0),(74,u19),(42,bb u20),(26,bb u21),(58,u22),(70,u23),(38,bb false),(22,u24),(54,bb u25),(14,bb u26),(78,bb u60),(46,ii u27),(30,u28),(62,u29),(1,S.ptr 0 0),(65,bb u30),(33,u31),(17,u32),(81,u61),(9,S.agg [ii a.fConf_Idle,ii a.fConf_Most,ii a.fConf_Hold,ii a.fConf_Late,ii a.fConf_Cool]),(73,u33),(41,bb u34),(25,bb u35),(57,u36),(69,u37),(37,bb u38),(21,u39),(53,bb (gtI (ofN a.fPods.n) 24)),(13,bb u40),(77,bb u41),(45,S.t (T.rows 7 a.fTypes.n fun i=>e112 (a.fTypes.get i))),(29,u42),(61,u43),(3,S.ptr 4 0),(67,u44),(35,u45),(19,bb u46),(83,bb v0),(51,S.t (T.rows 12 a.fPods.n fun i=>e61 (a.fPods.get i))),(11,ii a.fNow),(75,u47),(43,bb u48),(27,u49),(59,bb u50),(71,bb u51),(39,S.ptr 4 4),(23,u52),(55,u53),(15,u54),(79,u62),(47,ii u55),(31,bb u56),(63,u57)] 86 [(0,B.box (List.map S.t (e33 a))),(4,B.box [ii a.fConf_Idle,ii a.fConf_Most,ii a.fConf_Hold,ii a.fConf_Late,ii a.fConf_Cool])]
abbrev T9_8:Type:=Bool→S→Bool→S→Bool→Bool→S→S→Int→S→S→Bool→Bool→S→S→Bool→Bool→S→S→S→Bool→Bool→S→S→S→Bool→Bool→Int→S→S→Bool→S→S→S→Bool→Bool→S→S→Bool→S→Bool→Bool→S→S→S→S→Bool→S→Bool→S→Bool→Bool→S→S→S→Int→Bool→S→S→S→Bool→S→S→OS
def K9_8 (a:D33) (kk:PK S):T9_8:=fun v0 u1 u2 u3 u4 u5 u6 u7 u8 u9 u10 u11 u12 u13 u14 u15 u16 u17 u18 u19 u20 u21 u22 u23 u24 u25 u26 u27 u28 u29 u30 u31 u32 u33 u34 u35 u36 u37 u38 u39 u40 u41 u42 u43 u44 u45 u46 u47 u48 u49 u50 u51 u52 u53 u54 u55 u56 u57 u58 u59 u60 u61 u62=> kk 7 35 46 (s9_8 a v0 u1 u2 u3 u4 u5 u6 u7 u8 u9 u10 u11 u12 u13 u14 u15 u16 u17 u18 u19 u20 u21 u22 u23 u24 u25 u26 u27 u28 u29 u30 u31 u32 u33 u34 u35 u36 u37 u38 u39 u40 u41 u42 u43 u44 u45 u46 u47 u48 u49 u50 u51 u52 u53 u54 u55 u56 u57 u58 u59 u60 u61 u62)
def s9_9 (a:D33):St:=mkSt [(92,ii 0),(90,S.sl 1 6),(1,S.ptr 0 0),(91,ii (ofN 6))] 2 [(0,B.box (List.map S.t (e33 a))),(1,B.lst false 1 6 [S.t (T.v (.func (Go.Fn.func 25) #[] #[])),S.t (T.v (.func (Go.Fn.func 26) #[] #[])),S.t (T.v (.func (Go.Fn.func 27) #[] #[])),S.t (T.v (.func (Go.Fn.func 28) #[] #[])),S.t (T.v (.func (Go.Fn.func 29) #[] #[])),S.t (T.v (.func (Go.Fn.func 30) #[] #[]))])]
def K9_9 (a:D33) (kk:PK S):OS:=kk 10 0 0 (s9_9 a)
def s9_10 (a:D33):St:=mkSt [(92,ii 1),(90,S.sl 1 6),(1,S.ptr 0 0),(91,ii (ofN 6))] 2 [(0,B.box (List.map S.t (e33 a))),(1,B.lst false 1 6 [S.t (T.v (.func (Go.Fn.func 25) #[] #[])),S.t (T.v (.func (Go.Fn.func 26) #[] #[])),S.t (T.v (.func (Go.Fn.func 27) #[] #[])),S.t (T.v (.func (Go.Fn.func 28) #[] #[])),S.t (T.v (.func (Go.Fn.func 29) #[] #[])),S.t (T.v (.func (Go.Fn.func 30) #[] #[]))])]
def K9_10 (a:D33) (kk:PK S):OS:=kk 10 0 0 (s9_10 a)
def s9_11 (a:D33):St:=mkSt [(92,ii 2),(90,S.sl 1 6),(1,S.ptr 0 0),(91,ii (ofN 6))] 2 [(0,B.box (List.map S.t (e33 a))),(1,B.lst false 1 6 [S.t (T.v (.func (Go.Fn.func 25) #[] #[])),S.t (T.v (.func (Go.Fn.func 26) #[] #[])),S.t (T.v (.func (Go.Fn.func 27) #[] #[])),S.t (T.v (.func (Go.Fn.func 28) #[] #[])),S.t (T.v (.func (Go.Fn.func 29) #[] #[])),S.t (T.v (.func (Go.Fn.func 30) #[] #[]))])]
def K9_11 (a:D33) (kk:PK S):OS:=kk 10 0 0 (s9_11 a)
def s9_12 (a:D33):St:=mkSt [(92,ii 3),(90,S.sl 1 6),(1,S.ptr 0 0),(91,ii (ofN 6))] 2 [(0,B.box (List.map S.t (e33 a))),(1,B.lst false 1 6 [S.t (T.v (.func (Go.Fn.func 25) #[] #[])),S.t (T.v (.func (Go.Fn.func 26) #[] #[])),S.t (T.v (.func (Go.Fn.func 27) #[] #[])),S.t (T.v (.func (Go.Fn.func 28) #[] #[])),S.t (T.v (.func (Go.Fn.func 29) #[] #[])),S.t (T.v (.func (Go.Fn.func 30) #[] #[]))])]
def K9_12 (a:D33) (kk:PK S):OS:=kk 10 0 0 (s9_12 a)
def s9_13 (a:D33):St:=mkSt [(92,ii 4),(90,S.sl 1 6),(1,S.ptr 0 0),(91,ii (ofN 6))] 2 [(0,B.box (List.map S.t (e33 a))),(1,B.lst false 1 6 [S.t (T.v (.func (Go.Fn.func 25) #[] #[])),S.t (T.v (.func (Go.Fn.func 26) #[] #[])),S.t (T.v (.func (Go.Fn.func 27) #[] #[])),S.t (T.v (.func (Go.Fn.func 28) #[] #[])),S.t (T.v (.func (Go.Fn.func 29) #[] #[])),S.t (T.v (.func (Go.Fn.func 30) #[] #[]))])]
def K9_13 (a:D33) (kk:PK S):OS:=kk 10 0 0 (s9_13 a)
def s9_14 (a:D33):St:=mkSt [(92,ii 5),(90,S.sl 1 6),(1,S.ptr 0 0),(91,ii (ofN 6))] 2 [(0,B.box (List.map S.t (e33 a))),(1,B.lst false 1 6 [S.t (T.v (.func (Go.Fn.func 25) #[] #[])),S.t (T.v (.func (Go.Fn.func 26) #[] #[])),S.t (T.v (.func (Go.Fn.func 27) #[] #[])),S.t (T.v (.func (Go.Fn.func 28) #[] #[])),S.t (T.v (.func (Go.Fn.func 29) #[] #[])),S.t (T.v (.func (Go.Fn.func 30) #[] #[]))])]
def K9_14 (a:D33) (kk:PK S):OS:=kk 10 0 0 (s9_14 a)
def s9_15 (a:D33):St:=mkSt [(92,ii 6),(90,S.sl 1 6),(1,S.ptr 0 0),(91,ii (ofN 6))] 2 [(0,B.box (List.map S.t (e33 a))),(1,B.lst false 1 6 [S.t (T.v (.func (Go.Fn.func 25) #[] #[])),S.t (T.v (.func (Go.Fn.func 26) #[] #[])),S.t (T.v (.func (Go.Fn.func 27) #[] #[])),S.t (T.v (.func (Go.Fn.func 28) #[] #[])),S.t (T.v (.func (Go.Fn.func 29) #[] #[])),S.t (T.v (.func (Go.Fn.func 30) #[] #[]))])]
def K9_15 (a:D33) (kk:PK S):OS:=kk 10 0 0 (s9_15 a)
def b9_0 (q:YF) (a:D33) (k1:T9_1) (v0 u1 u2:Bool) (u3 u4:S) (u5:Bool) (u6 u7:S):OS:=bif v0 then k1 true u3 u1 u4 u5 u6 u2 v0 u7 S.ud true S.ud S.ud S.ud else yC q 23 [ii a.fConf_Most] fun y=>k1 (!y.b 0) u3 u1 u4 u5 u6 u2 v0 u7 (S.t (T.v (.bool !y.b 0))) false (ii a.fConf_Most) (S.ptr 4 1) (bb (y.b 0))
def b9_1 (q:YF) (a:D33) (k2:T9_2) (v0:Bool) (u1:S) (u2:Bool) (u3:S) (u4:Bool) (u5:S) (u6 u7:Bool) (u8 u9:S) (u10:Bool) (u11 u12 u13:S):OS:=bif v0 then k2 true u1 u9 u10 u2 u3 u11 u4 u5 v0 u12 u6 u7 u13 u8 S.ud true S.ud S.ud S.ud else yC q 23 [ii a.fConf_Hold] fun y=>k2 (!y.b 0) u1 u9 u10 u2 u3 u11 u4 u5 v0 u12 u6 u7 u13 u8 (ii a.fConf_Hold) false (S.t (T.v (.bool !y.b 0))) (bb (y.b 0)) (S.ptr 4 2)
def b9_2 (q:YF) (a:D33) (k3:T9_3) (v0:Bool) (u1 u2:S) (u3 u4:Bool) (u5 u6:S) (u7:Bool) (u8:S) (u9:Bool) (u10:S) (u11 u12:Bool) (u13 u14 u15:S) (u16:Bool) (u17 u18 u19:S):OS:=bif v0 then k3 true u1 u2 u3 u4 u15 u5 u16 u6 u7 u17 u8 u9 u10 u11 u18 u12 u19 u13 u14 v0 true S.ud S.ud S.ud S.ud else yC q 23 [ii a.fConf_Late] fun y=>k3 (!y.b 0) u1 u2 u3 u4 u15 u5 u16 u6 u7 u17 u8 u9 u10 u11 u18 u12 u19 u13 u14 v0 false (S.t (T.v (.bool !y.b 0))) (ii a.fConf_Late) (S.ptr 4 3) (bb (y.b 0))
def b9_3 (q:YF) (a:D33) (k4:T9_4) (v0:Bool) (u1 u2:S) (u3 u4:Bool) (u5 u6:S) (u7:Bool) (u8:S) (u9:Bool) (u10 u11:S) (u12:Bool) (u13:S) (u14:Bool) (u15:S) (u16:Bool) (u17 u18 u19:S) (u20 u21:Bool) (u22 u23 u24 u25:S):OS:=bif v0 then some (ii 1) else yC q 23 [ii a.fConf_Cool] fun y=>bif !y.b 0 then some (ii 1) else yC q 24 [S.t (T.rows 7 a.fTypes.n fun i=>e112 (a.fTypes.get i))] fun y_1=>bif !eqI (y_1.i 0) 0 then some (ii (y_1.i 0)) else bif gtI (ofN a.fPods.n) 24 then k4 true u21 u1 (!eqI (y_1.i 0) 0) u2 (y_1.i 0) u22 u3 u4 u5 u23 u6 (!y.b 0) u7 u8 u9 (y_1.i 0) u10 u24 u11 (y.b 0) u12 v0 u13 u14 u15 u25 u16 (!y.b 0) u17 u18 u19 (y_1.i 0) u20 S.ud S.ud true S.ud S.ud else k4 (gtI (ofN a.fPools.n) 4) u21 u1 (!eqI (y_1.i 0) 0) u2 (y_1.i 0) u22 u3 u4 u5 u23 u6 (!y.b 0) u7 u8 u9 (y_1.i 0) u10 u24 u11 (y.b 0) u12 v0 u13 u14 u15 u25 u16 (!y.b 0) u17 u18 u19 (y_1.i 0) u20 (S.t (T.rows 10 a.fPools.n fun i=>e77 (a.fPools.get i))) (bb (gtI (ofN a.fPools.n) 4)) false (ii (ofN a.fPools.n)) (S.ptr 0 8)
def b9_4 (q:YF) (a:D33) (k5:T9_5) (v0 u1:Bool) (u2:S) (u3:Bool) (u4:S) (u5:Int) (u6:S) (u7 u8:Bool) (u9 u10 u11:S) (u12 u13:Bool) (u14:S) (u15:Bool) (u16:Int) (u17 u18 u19:S) (u20 u21 u22:Bool) (u23:S) (u24:Bool) (u25 u26:S) (u27 u28:Bool) (u29 u30 u31:S) (u32:Int) (u33:Bool) (u34 u35:S) (u36:Bool) (u37 u38:S):OS:=bif v0 then k5 true u1 u2 u3 u4 u34 u5 u6 u7 u8 u9 u10 u11 u12 u13 u35 u14 u36 u15 u16 u17 u18 u19 u20 u21 u37 u22 u23 u24 u25 u26 u27 u28 u29 v0 u30 u38 u31 u32 u33 S.ud true S.ud S.ud S.ud else k5 (gtI (ofN a.fClaims.n) 16) u1 u2 u3 u4 u34 u5 u6 u7 u8 u9 u10 u11 u12 u13 u35 u14 u36 u15 u16 u17 u18 u19 u20 u21 u37 u22 u23 u24 u25 u26 u27 u28 u29 v0 u30 u38 u31 u32 u33 (bb (gtI (ofN a.fClaims.n) 16)) false (S.t (T.rows 15 a.fClaims.n fun i=>e52 (a.fClaims.get i))) (S.ptr 0 9) (ii (ofN a.fClaims.n))
def b9_5 (q:YF) (a:D33) (k6:T9_6) (v0 u1:Bool) (u2:S) (u3:Bool) (u4 u5:S) (u6:Int) (u7:S) (u8 u9:Bool) (u10 u11 u12:S) (u13 u14:Bool) (u15 u16:S) (u17 u18:Bool) (u19:Int) (u20 u21 u22:S) (u23 u24:Bool) (u25:S) (u26:Bool) (u27:S) (u28:Bool) (u29 u30:S) (u31 u32:Bool) (u33:S) (u34:Bool) (u35 u36 u37:S) (u38:Int) (u39:Bool) (u40:S) (u41:Bool) (u42 u43 u44:S):OS:=bif v0 then k6 true u40 u1 u2 u3 u4 u5 u6 u7 u8 u9 u10 u41 u11 u12 u13 u14 u15 u16 u17 u18 u19 u20 u42 v0 u21 u22 u23 u24 u25 u26 u27 u28 u29 u43 u30 u31 u32 u33 u34 u35 u36 u37 u38 u39 u44 S.ud true S.ud S.ud S.ud else k6 (gtI (ofN a.fCommands.n) 1) u40 u1 u2 u3 u4 u5 u6 u7 u8 u9 u10 u41 u11 u12 u13 u14 u15 u16 u17 u18 u19 u20 u42 v0 u21 u22 u23 u24 u25 u26 u27 u28 u29 u43 u30 u31 u32 u33 u34 u35 u36 u37 u38 u39 u44 (S.t (T.rows 8 a.fCommands.n fun i=>e122 (a.fCommands.get i))) false (bb (gtI (ofN a.fCommands.n) 1)) (ii (ofN a.fCommands.n)) (S.ptr 0 10)
def b9_6 (q:YF) (a:D33) (k7:T9_7) (v0:Bool) (u1:S) (u2:Bool) (u3:S) (u4:Bool) (u5 u6:S) (u7:Int) (u8:S) (u9 u10:Bool) (u11:S) (u12:Bool) (u13 u14:S) (u15 u16:Bool) (u17 u18:S) (u19 u20:Bool) (u21:Int) (u22 u23:S) (u24:Bool) (u25 u26:S) (u27 u28:Bool) (u29:S) (u30:Bool) (u31:S) (u32:Bool) (u33 u34 u35:S) (u36 u37:Bool) (u38:S) (u39:Bool) (u40 u41 u42:S) (u43:Int) (u44:Bool) (u45 u46:S) (u47:Bool) (u48 u49 u50:S):OS:=bif v0 then k7 true u1 u2 u3 u4 u5 u6 u7 u46 u8 u9 u10 u11 u12 u47 u13 u14 u15 u16 u17 u48 u18 u19 u20 u21 u22 u23 u24 u25 u26 u27 u28 u29 u49 u30 u31 u32 u33 u34 u50 u35 u36 u37 u38 u39 v0 u40 u41 u42 u43 u44 u45 true S.ud S.ud S.ud S.ud else k7 (gtI (ofN a.fCools.n) 72) u1 u2 u3 u4 u5 u6 u7 u46 u8 u9 u10 u11 u12 u47 u13 u14 u15 u16 u17 u48 u18 u19 u20 u21 u22 u23 u24 u25 u26 u27 u28 u29 u49 u30 u31 u32 u33 u34 u50 u35 u36 u37 u38 u39 v0 u40 u41 u42 u43 u44 u45 false (bb (gtI (ofN a.fCools.n) 72)) (S.t (T.rows 4 a.fCools.n fun i=>e125 (a.fCools.get i))) (S.ptr 0 11) (ii (ofN a.fCools.n))
def b9_7 (q:YF) (a:D33) (k8:T9_8) (v0:Bool) (u1:S) (u2:Bool) (u3:S) (u4:Bool) (u5 u6:S) (u7:Int) (u8 u9:S) (u10 u11:Bool) (u12:S) (u13 u14:Bool) (u15 u16:S) (u17 u18:Bool) (u19 u20 u21:S) (u22 u23:Bool) (u24:Int) (u25 u26:S) (u27:Bool) (u28 u29:S) (u30 u31:Bool) (u32 u33:S) (u34:Bool) (u35:S) (u36:Bool) (u37 u38 u39 u40:S) (u41 u42:Bool) (u43:S) (u44 u45:Bool) (u46 u47 u48:S) (u49:Int) (u50:Bool) (u51:S) (u52:Bool) (u53 u54 u55 u56:S):OS:=bif v0 then k8 true u1 u2 u3 u4 u52 u5 u6 u7 u8 u9 u10 u11 u53 u12 u13 u14 u15 u16 u54 u17 u18 u19 u20 u21 u22 u23 u24 u25 u26 u27 u28 u29 u55 u30 u31 u32 u33 u34 u35 u36 v0 u37 u38 u39 u40 u41 u56 u42 u43 u44 u45 u46 u47 u48 u49 u50 u51 S.ud S.ud true S.ud S.ud else k8 (gtI (ofN a.fInsts.n) 64) u1 u2 u3 u4 u52 u5 u6 u7 u8 u9 u10 u11 u53 u12 u13 u14 u15 u16 u54 u17 u18 u19 u20 u21 u22 u23 u24 u25 u26 u27 u28 u29 u55 u30 u31 u32 u33 u34 u35 u36 v0 u37 u38 u39 u40 u41 u56 u42 u43 u44 u45 u46 u47 u48 u49 u50 u51 (S.t (T.rows 7 a.fInsts.n fun i=>e91 (a.fInsts.get i))) (bb (gtI (ofN a.fInsts.n) 64)) false (ii (ofN a.fInsts.n)) (S.ptr 0 12)
def b9_8 (q:YF) (a:D33) (k9:OS) (v0:Bool) (u1:S) (u2:Bool) (u3:S) (u4 u5:Bool) (u6 u7:S) (u8:Int) (u9 u10:S) (u11 u12:Bool) (u13 u14:S) (u15 u16:Bool) (u17 u18 u19:S) (u20 u21:Bool) (u22 u23 u24:S) (u25 u26:Bool) (u27:Int) (u28 u29:S) (u30:Bool) (u31 u32 u33:S) (u34 u35:Bool) (u36 u37:S) (u38:Bool) (u39:S) (u40 u41:Bool) (u42 u43 u44 u45:S) (u46:Bool) (u47:S) (u48:Bool) (u49:S) (u50 u51:Bool) (u52 u53 u54:S) (u55:Int) (u56:Bool) (u57 u58 u59:S) (u60:Bool) (u61 u62:S):OS:=bif v0 then some (ii 3) else bif gtI (ofN a.fNotes.n) 32 then some (ii 3) else k9
def b9_9 (q:YF) (a:D33) (k10:OS):OS:=yC q 25 [ag (e33 a)] fun y=>bif !eqI (y.i 0) 0 then some (ii (y.i 0)) else k10
def b9_10 (q:YF) (a:D33) (k11:OS):OS:=yC q 26 [ag (e33 a)] fun y=>bif !eqI (y.i 0) 0 then some (ii (y.i 0)) else k11
def b9_11 (q:YF) (a:D33) (k12:OS):OS:=yC q 27 [ag (e33 a)] fun y=>bif !eqI (y.i 0) 0 then some (ii (y.i 0)) else k12
def b9_12 (q:YF) (a:D33) (k13:OS):OS:=yC q 28 [ag (e33 a)] fun y=>bif !eqI (y.i 0) 0 then some (ii (y.i 0)) else k13
def b9_13 (q:YF) (a:D33) (k14:OS):OS:=yC q 29 [ag (e33 a)] fun y=>bif !eqI (y.i 0) 0 then some (ii (y.i 0)) else k14
def b9_14 (q:YF) (a:D33) (k15:OS):OS:=yC q 30 [ag (e33 a)] fun y=>bif !eqI (y.i 0) 0 then some (ii (y.i 0)) else k15
def b9_15 (q:YF) (a:D33):OS:=some (ii 0)
def e9_in (q:YF) (a:D33) (k0:T9_0):OS:=yC q 22 [ii a.fNow] fun y=>bif !y.b 0 then k0 true (y.b 0) (!y.b 0) S.ud S.ud true S.ud S.ud else yC q 23 [ii a.fConf_Idle] fun y_1=>k0 (!y_1.b 0) (y.b 0) (!y.b 0) (ii a.fConf_Idle) (S.t (T.v (.bool !y_1.b 0))) false (bb (y_1.b 0)) (S.ptr 4 0)
structure X9 where
 x0:Bool→OS
 x1:Bool→OS
 x2:Bool→OS
 x3:Bool→OS
 x4:Bool→OS
 x5:Bool→OS
 x6:Bool→OS
 x7:Bool→OS
 x8:Bool→OS
 x9:OS
 x10:OS
 x11:OS
 x12:OS
 x13:OS
 x14:OS
 x15:OS
def D9_0 (X:X9):T9_0:=fun v0 _ _ _ _ _ _ _=>X.x0 v0
def D9_1 (X:X9):T9_1:=fun v0 _ _ _ _ _ _ _ _ _ _ _ _ _=>X.x1 v0
def D9_2 (X:X9):T9_2:=fun v0 _ _ _ _ _ _ _ _ _ _ _ _ _ _ _ _ _ _ _=>X.x2 v0
def D9_3 (X:X9):T9_3:=fun v0 _ _ _ _ _ _ _ _ _ _ _ _ _ _ _ _ _ _ _ _ _ _ _ _ _=>X.x3 v0
def D9_4 (X:X9):T9_4:=fun v0 _ _ _ _ _ _ _ _ _ _ _ _ _ _ _ _ _ _ _ _ _ _ _ _ _ _ _ _ _ _ _ _ _ _ _ _ _ _=>X.x4 v0
def D9_5 (X:X9):T9_5:=fun v0 _ _ _ _ _ _ _ _ _ _ _ _ _ _ _ _ _ _ _ _ _ _ _ _ _ _ _ _ _ _ _ _ _ _ _ _ _ _ _ _ _ _ _ _=>X.x5 v0
def D9_6 (X:X9):T9_6:=fun v0 _ _ _ _ _ _ _ _ _ _ _ _ _ _ _ _ _ _ _ _ _ _ _ _ _ _ _ _ _ _ _ _ _ _ _ _ _ _ _ _ _ _ _ _ _ _ _ _ _ _=>X.x6 v0
def D9_7 (X:X9):T9_7:=fun v0 _ _ _ _ _ _ _ _ _ _ _ _ _ _ _ _ _ _ _ _ _ _ _ _ _ _ _ _ _ _ _ _ _ _ _ _ _ _ _ _ _ _ _ _ _ _ _ _ _ _ _ _ _ _ _ _=>X.x7 v0
def D9_8 (X:X9):T9_8:=fun v0 _ _ _ _ _ _ _ _ _ _ _ _ _ _ _ _ _ _ _ _ _ _ _ _ _ _ _ _ _ _ _ _ _ _ _ _ _ _ _ _ _ _ _ _ _ _ _ _ _ _ _ _ _ _ _ _ _ _ _ _ _ _=>X.x8 v0
def D9_9 (X:X9):OS:=X.x9
def D9_10 (X:X9):OS:=X.x10
def D9_11 (X:X9):OS:=X.x11
def D9_12 (X:X9):OS:=X.x12
def D9_13 (X:X9):OS:=X.x13
def D9_14 (X:X9):OS:=X.x14
def D9_15 (X:X9):OS:=X.x15
def X9s (q:YF) (a:D33) (X:X9):X9:=⟨fun v0=>b9_0 q a (D9_1 X) v0 dd dd dd dd dd dd dd,
 fun v0=>b9_1 q a (D9_2 X) v0 dd dd dd dd dd dd dd dd dd dd dd dd dd,
 fun v0=>b9_2 q a (D9_3 X) v0 dd dd dd dd dd dd dd dd dd dd dd dd dd dd dd dd dd dd dd,
 fun v0=>b9_3 q a (D9_4 X) v0 dd dd dd dd dd dd dd dd dd dd dd dd dd dd dd dd dd dd dd dd dd dd dd dd dd,
 fun v0=>b9_4 q a (D9_5 X) v0 dd dd dd dd dd dd dd dd dd dd dd dd dd dd dd dd dd dd dd dd dd dd dd dd dd dd dd dd dd dd dd dd dd dd dd dd dd dd,
 fun v0=>b9_5 q a (D9_6 X) v0 dd dd dd dd dd dd dd dd dd dd dd dd dd dd dd dd dd dd dd dd dd dd dd dd dd dd dd dd dd dd dd dd dd dd dd dd dd dd dd dd dd dd dd dd,
 fun v0=>b9_6 q a (D9_7 X) v0 dd dd dd dd dd dd dd dd dd dd dd dd dd dd dd dd dd dd dd dd dd dd dd dd dd dd dd dd dd dd dd dd dd dd dd dd dd dd dd dd dd dd dd dd dd dd dd dd dd dd,
 fun v0=>b9_7 q a (D9_8 X) v0 dd dd dd dd dd dd dd dd dd dd dd dd dd dd dd dd dd dd dd dd dd dd dd dd dd dd dd dd dd dd dd dd dd dd dd dd dd dd dd dd dd dd dd dd dd dd dd dd dd dd dd dd dd dd dd dd,
 fun v0=>b9_8 q a (D9_9 X) v0 dd dd dd dd dd dd dd dd dd dd dd dd dd dd dd dd dd dd dd dd dd dd dd dd dd dd dd dd dd dd dd dd dd dd dd dd dd dd dd dd dd dd dd dd dd dd dd dd dd dd dd dd dd dd dd dd dd dd dd dd dd dd,
 b9_9 q a (D9_10 X),
 b9_10 q a (D9_11 X),
 b9_11 q a (D9_12 X),
 b9_12 q a (D9_13 X),
 b9_13 q a (D9_14 X),
 b9_14 q a (D9_15 X),
 b9_15 q a⟩
def X9n (q:YF) (a:D33):Nat→X9
 | 0=>⟨fun _=>none,fun _=>none,fun _=>none,fun _=>none,fun _=>none,fun _=>none,fun _=>none,fun _=>none,fun _=>none,none,none,none,none,none,none,none⟩
 | n+1=>X9s q a (X9n q a n)
theorem l9_0 (q:YF) (a:D33) (kk:PK S):K9_0 a (P9 q kk)=b9_0 q a (K9_1 a kk):=by
 kernel_rfl
theorem l9_1 (q:YF) (a:D33) (kk:PK S):K9_1 a (P9 q kk)=b9_1 q a (K9_2 a kk):=by
 kernel_rfl
theorem l9_2 (q:YF) (a:D33) (kk:PK S):K9_2 a (P9 q kk)=b9_2 q a (K9_3 a kk):=by
 kernel_rfl
theorem l9_3 (q:YF) (a:D33) (kk:PK S):K9_3 a (P9 q kk)=b9_3 q a (K9_4 a kk):=by
 kernel_rfl
theorem l9_4 (q:YF) (a:D33) (kk:PK S):K9_4 a (P9 q kk)=b9_4 q a (K9_5 a kk):=by
 kernel_rfl
theorem l9_5 (q:YF) (a:D33) (kk:PK S):K9_5 a (P9 q kk)=b9_5 q a (K9_6 a kk):=by
 kernel_rfl
theorem l9_6 (q:YF) (a:D33) (kk:PK S):K9_6 a (P9 q kk)=b9_6 q a (K9_7 a kk):=by
 kernel_rfl
theorem l9_7 (q:YF) (a:D33) (kk:PK S):K9_7 a (P9 q kk)=b9_7 q a (K9_8 a kk):=by
 kernel_rfl
theorem l9_8 (q:YF) (a:D33) (kk:PK S):K9_8 a (P9 q kk)=b9_8 q a (K9_9 a kk):=by
 kernel_rfl
theorem l9_9 (q:YF) (a:D33) (kk:PK S):K9_9 a (P9 q kk)=b9_9 q a (K9_10 a kk):=by
 kernel_rfl
theorem l9_10 (q:YF) (a:D33) (kk:PK S):K9_10 a (P9 q kk)=b9_10 q a (K9_11 a kk):=by
 kernel_rfl
theorem l9_11 (q:YF) (a:D33) (kk:PK S):K9_11 a (P9 q kk)=b9_11 q a (K9_12 a kk):=by
 kernel_rfl
theorem l9_12 (q:YF) (a:D33) (kk:PK S):K9_12 a (P9 q kk)=b9_12 q a (K9_13 a kk):=by
 kernel_rfl
theorem l9_13 (q:YF) (a:D33) (kk:PK S):K9_13 a (P9 q kk)=b9_13 q a (K9_14 a kk):=by
 kernel_rfl
theorem l9_14 (q:YF) (a:D33) (kk:PK S):K9_14 a (P9 q kk)=b9_14 q a (K9_15 a kk):=by
 kernel_rfl
theorem l9_15 (q:YF) (a:D33) (kk:PK S):K9_15 a (P9 q kk)=b9_15 q a:=by
 kernel_rfl
theorem l9_in (q:YF) (a:D33) (kk:PK S):BG q kk 9 Tryz.f9 [ag (e33 a)]=e9_in q a (K9_0 a kk):=by
 kernel_rfl
theorem h9 (q:YF) (a:D33):∀ n,K9_0 a (H9 q n)=D9_0 (X9n q a n)∧K9_1 a (H9 q n)=D9_1 (X9n q a n)∧K9_2 a (H9 q n)=D9_2 (X9n q a n)∧K9_3 a (H9 q n)=D9_3 (X9n q a n)∧K9_4 a (H9 q n)=D9_4 (X9n q a n)∧K9_5 a (H9 q n)=D9_5 (X9n q a n)∧K9_6 a (H9 q n)=D9_6 (X9n q a n)∧K9_7 a (H9 q n)=D9_7 (X9n q a n)∧K9_8 a (H9 q n)=D9_8 (X9n q a n)∧K9_9 a (H9 q n)=D9_9 (X9n q a n)∧K9_10 a (H9 q n)=D9_10 (X9n q a n)∧K9_11 a (H9 q n)=D9_11 (X9n q a n)∧K9_12 a (H9 q n)=D9_12 (X9n q a n)∧K9_13 a (H9 q n)=D9_13 (X9n q a n)∧K9_14 a (H9 q n)=D9_14 (X9n q a n)∧K9_15 a (H9 q n)=D9_15 (X9n q a n)
 | 0=>⟨rfl,rfl,rfl,rfl,rfl,rfl,rfl,rfl,rfl,rfl,rfl,rfl,rfl,rfl,rfl,rfl⟩
 | n+1=>by
  obtain ⟨h0,h1,h2,h3,h4,h5,h6,h7,h8,h9,h10,h11,h12,h13,h14,h15⟩:=h9 q a n
  exact ⟨(l9_0 q a (H9 q n)).trans (by rw [h1];kernel_rfl),(l9_1 q a (H9 q n)).trans (by rw [h2];kernel_rfl),(l9_2 q a (H9 q n)).trans (by rw [h3];kernel_rfl),(l9_3 q a (H9 q n)).trans (by rw [h4];kernel_rfl),(l9_4 q a (H9 q n)).trans (by rw [h5];kernel_rfl),(l9_5 q a (H9 q n)).trans (by rw [h6];kernel_rfl),(l9_6 q a (H9 q n)).trans (by rw [h7];kernel_rfl),(l9_7 q a (H9 q n)).trans (by rw [h8];kernel_rfl),(l9_8 q a (H9 q n)).trans (by rw [h9];kernel_rfl),(l9_9 q a (H9 q n)).trans (by rw [h10];kernel_rfl),(l9_10 q a (H9 q n)).trans (by rw [h11];kernel_rfl),(l9_11 q a (H9 q n)).trans (by rw [h12];kernel_rfl),(l9_12 q a (H9 q n)).trans (by rw [h13];kernel_rfl),(l9_13 q a (H9 q n)).trans (by rw [h14];kernel_rfl),(l9_14 q a (H9 q n)).trans (by rw [h15];kernel_rfl),(l9_15 q a (H9 q n)).trans (by kernel_rfl)⟩
theorem W9 (a:D33) (n:Nat) (x:S) (h:e9_in (regs O) a (D9_0 (X9n (regs O) a n))=some x):(W O).callT 9 [ag (e33 a)]=some x:=by
 refine WG (fn:=Tryz.f9) (by kernel_rfl) (by kernel_rfl) (n:=n) ?_
 refine (l9_in (regs O) a (H9 (regs O) n)).trans ?_
 obtain ⟨h0,h1,h2,h3,h4,h5,h6,h7,h8,h9,h10,h11,h12,h13,h14,h15⟩:=h9 (regs O) a n
 rw [h0]
 exact h
abbrev P10 (q:YF) (kk:PK S):PK S:=PG q 10 Tryz.f10 kk
abbrev H10 (q:YF):Nat→PK S:=HG q 10 Tryz.f10
def s10_0 (a:D33) (v0 u1 u2:Bool) (u3:S) (u4:Bool) (u5 u6 u7:S):St:=mkSt [(0,ag (e33 a)),(16,S.ptr 0 0),(24,u3),(20,bb u4),(2,ii 0),(18,bb u1),(22,u5),(14,S.ptr 0 1),(1,S.ptr 0 0),(17,ii a.fNow),(25,bb v0),(21,u6),(3,S.ptr 4 0),(19,bb u2),(23,u7),(15,S.agg [ii a.fConf_Idle,ii a.fConf_Most,ii a.fConf_Hold,ii a.fConf_Late,ii a.fConf_Cool])] 40 [(0,B.box (List.map S.t (e33 a))),(4,B.box [ii a.fConf_Idle,ii a.fConf_Most,ii a.fConf_Hold,ii a.fConf_Late,ii a.fConf_Cool])]
abbrev T10_0:Type:=Bool→Bool→Bool→S→Bool→S→S→S→OS
def K10_0 (a:D33) (kk:PK S):T10_0:=fun v0 u1 u2 u3 u4 u5 u6 u7=> kk 2 11 6 (s10_0 a v0 u1 u2 u3 u4 u5 u6 u7)
def s10_1 (a:D33) (v0:Bool) (u1:S) (u2 u3:Bool) (u4:S) (u5:Bool) (u6:S) (u7:Bool) (u8 u9:S) (u10:Bool) (u11 u12 u13:S):St:=mkSt [(0,ag (e33 a)),(16,S.ptr 0 0),(24,u1),(20,bb u2),(28,u9),(2,ii 0),(18,bb u3),(26,bb u10),(22,u4),(14,S.ptr 0 1),(30,u11),(1,S.ptr 0 0),(17,ii a.fNow),(25,bb u5),(21,u6),(29,u12),(3,S.ptr 4 0),(19,bb u7),(27,u13),(23,u8),(15,S.agg [ii a.fConf_Idle,ii a.fConf_Most,ii a.fConf_Hold,ii a.fConf_Late,ii a.fConf_Cool]),(31,bb v0)] 40 [(0,B.box (List.map S.t (e33 a))),(4,B.box [ii a.fConf_Idle,ii a.fConf_Most,ii a.fConf_Hold,ii a.fConf_Late,ii a.fConf_Cool])]
abbrev T10_1:Type:=Bool→S→Bool→Bool→S→Bool→S→Bool→S→S→Bool→S→S→S→OS
def K10_1 (a:D33) (kk:PK S):T10_1:=fun v0 u1 u2 u3 u4 u5 u6 u7 u8 u9 u10 u11 u12 u13=> kk 2 17 6 (s10_1 a v0 u1 u2 u3 u4 u5 u6 u7 u8 u9 u10 u11 u12 u13)
def s10_2 (a:D33) (v0:Bool) (u1:S) (u2:Bool) (u3:S) (u4 u5:Bool) (u6 u7:S) (u8:Bool) (u9 u10:S) (u11:Bool) (u12 u13:S) (u14 u15:Bool) (u16 u17 u18 u19:S):St:=mkSt [(0,ag (e33 a)),(32,bb u15),(16,S.ptr 0 0),(24,u1),(36,u16),(20,bb u2),(28,u3),(2,ii 0),(34,u17),(18,bb u4),(26,bb u5),(22,u6),(14,S.ptr 0 1),(30,u7),(1,S.ptr 0 0),(33,u18),(17,ii a.fNow),(25,bb u8),(37,bb v0),(21,u9),(29,u10),(3,S.ptr 4 0),(35,u19),(19,bb u11),(27,u12),(23,u13),(15,S.agg [ii a.fConf_Idle,ii a.fConf_Most,ii a.fConf_Hold,ii a.fConf_Late,ii a.fConf_Cool]),(31,bb u14)] 40 [(0,B.box (List.map S.t (e33 a))),(4,B.box [ii a.fConf_Idle,ii a.fConf_Most,ii a.fConf_Hold,ii a.fConf_Late,ii a.fConf_Cool])]
abbrev T10_2:Type:=Bool→S→Bool→S→Bool→Bool→S→S→Bool→S→S→Bool→S→S→Bool→Bool→S→S→S→S→OS
def K10_2 (a:D33) (kk:PK S):T10_2:=fun v0 u1 u2 u3 u4 u5 u6 u7 u8 u9 u10 u11 u12 u13 u14 u15 u16 u17 u18 u19=> kk 2 23 6 (s10_2 a v0 u1 u2 u3 u4 u5 u6 u7 u8 u9 u10 u11 u12 u13 u14 u15 u16 u17 u18 u19)
def s10_3 (a:D33) (v0 u1:Bool) (u2 u3:S) (u4:Bool) (u5 u6:S) (u7 u8:Bool) (u9 u10 u11:S) (u12 u13:Bool) (u14 u15 u16:S) (u17:Bool) (u18 u19:S) (u20:Bool) (u21 u22:S) (u23:Bool) (u24 u25:S):St:=mkSt [(0,ag (e33 a)),(32,bb u1),(16,S.ptr 0 0),(40,u21),(24,u2),(36,u3),(20,bb u4),(28,u5),(2,ii 0),(34,u6),(18,bb u7),(42,u22),(26,bb u8),(38,bb u23),(22,u9),(14,S.ptr 0 1),(30,u10),(1,S.ptr 0 0),(33,u11),(17,ii a.fNow),(41,u24),(25,bb u12),(37,bb u13),(21,u14),(29,u15),(3,S.ptr 4 0),(35,u16),(19,bb u17),(43,bb v0),(27,u18),(39,u25),(23,u19),(15,S.agg [ii a.fConf_Idle,ii a.fConf_Most,ii a.fConf_Hold,ii a.fConf_Late,ii a.fConf_Cool]),(31,bb u20)] 40 [(0,B.box (List.map S.t (e33 a))),(4,B.box [ii a.fConf_Idle,ii a.fConf_Most,ii a.fConf_Hold,ii a.fConf_Late,ii a.fConf_Cool])]
abbrev T10_3:Type:=Bool→Bool→S→S→Bool→S→S→Bool→Bool→S→S→S→Bool→Bool→S→S→S→Bool→S→S→Bool→S→S→Bool→S→S→OS
def K10_3 (a:D33) (kk:PK S):T10_3:=fun v0 u1 u2 u3 u4 u5 u6 u7 u8 u9 u10 u11 u12 u13 u14 u15 u16 u17 u18 u19 u20 u21 u22 u23 u24 u25=> kk 2 29 6 (s10_3 a v0 u1 u2 u3 u4 u5 u6 u7 u8 u9 u10 u11 u12 u13 u14 u15 u16 u17 u18 u19 u20 u21 u22 u23 u24 u25)
def s10_4 (a:D33) (v0 u1 u2:Bool) (u3 u4:S) (u5:Int) (u6:S) (u7:Bool) (u8:Int) (u9 u10:S) (u11:Bool) (u12:S) (u13 u14:Bool) (u15:S) (u16:Bool) (u17 u18:S) (u19:Bool) (u20:S) (u21 u22:Bool) (u23:S) (u24:Int) (u25 u26:S) (u27 u28:Bool) (u29 u30 u31:S) (u32 u33:Bool) (u34:S) (u35:Bool) (u36 u37 u38:S):St:=mkSt [(0,ag (e33 a)),(64,u34),(32,bb u1),(16,S.ptr 0 0),(48,bb u2),(40,u3),(24,u4),(56,S.ptr 0 7),(4,ii u5),(36,u6),(20,bb u7),(52,ii u8),(44,bb false),(28,u9),(60,bb u35),(2,ii 0),(34,u10),(18,bb u11),(50,S.ptr 0 6),(42,u12),(26,bb u13),(58,ii (ofN a.fPods.n)),(38,bb u14),(22,u15),(54,bb u16),(14,S.ptr 0 1),(46,ii a.fConf_Cool),(30,u17),(62,u36),(1,S.ptr 0 0),(65,bb v0),(33,u18),(17,ii a.fNow),(49,bb u19),(41,u20),(25,bb u21),(57,S.t (T.rows 12 a.fPods.n fun i=>e61 (a.fPods.get i))),(37,bb u22),(21,u23),(53,ii u24),(45,S.ptr 4 4),(29,u25),(61,u37),(3,S.ptr 4 0),(35,u26),(19,bb u27),(51,S.t (T.rows 7 a.fTypes.n fun i=>e112 (a.fTypes.get i))),(43,bb u28),(27,u29),(59,bb (gtI (ofN a.fPods.n) 24)),(39,u30),(23,u31),(15,S.agg [ii a.fConf_Idle,ii a.fConf_Most,ii a.fConf_Hold,ii a.fConf_Late,ii a.fConf_Cool]),(47,bb u32),(31,bb u33),(63,u38)] 86 [(0,B.box (List.map S.t (e33 a))),(4,B.box [ii a.fConf_Idle,ii a.fConf_Most,ii a.fConf_Hold,ii a.fConf_Late,ii a.fConf_Cool])]
abbrev T10_4:Type:=Bool→Bool→Bool→S→S→Int→S→Bool→Int→S→S→Bool→S→Bool→Bool→S→Bool→S→S→Bool→S→Bool→Bool→S→Int→S→S→Bool→Bool→S→S→S→Bool→Bool→S→Bool→S→S→S→OS
def K10_4 (a:D33) (kk:PK S):T10_4:=fun v0 u1 u2 u3 u4 u5 u6 u7 u8 u9 u10 u11 u12 u13 u14 u15 u16 u17 u18 u19 u20 u21 u22 u23 u24 u25 u26 u27 u28 u29 u30 u31 u32 u33 u34 u35 u36 u37 u38=> kk 7 11 46 (s10_4 a v0 u1 u2 u3 u4 u5 u6 u7 u8 u9 u10 u11 u12 u13 u14 u15 u16 u17 u18 u19 u20 u21 u22 u23 u24 u25 u26 u27 u28 u29 u30 u31 u32 u33 u34 u35 u36 u37 u38)
def s10_5 (a:D33) (v0:Bool) (u1:S) (u2 u3:Bool) (u4 u5:S) (u6:Int) (u7:S) (u8:Bool) (u9:Int) (u10:S) (u11:Bool) (u12:S) (u13:Bool) (u14:S) (u15 u16:Bool) (u17:S) (u18:Bool) (u19 u20:S) (u21:Bool) (u22:S) (u23:Bool) (u24:S) (u25 u26:Bool) (u27:S) (u28:Int) (u29 u30 u31:S) (u32 u33:Bool) (u34 u35 u36:S) (u37 u38:Bool) (u39 u40:S) (u41:Bool) (u42 u43 u44:S):St:=mkSt [(0,ag (e33 a)),(64,u1),(32,bb u2),(16,S.ptr 0 0),(48,bb u3),(40,u4),(24,u5),(56,S.ptr 0 7),(4,ii u6),(68,u40),(36,u7),(20,bb u8),(52,ii u9),(44,bb false),(28,u10),(60,bb u11),(2,ii 0),(66,bb u41),(34,u12),(18,bb u13),(50,S.ptr 0 6),(42,u14),(26,bb u15),(58,ii (ofN a.fPods.n)),(70,u42),(38,bb u16),(22,u17),(54,bb u18),(14,S.ptr 0 1),(46,ii a.fConf_Cool),(30,u19),(62,u20),(1,S.ptr 0 0),(65,bb u21),(33,u22),(17,ii a.fNow),(49,bb u23),(41,u24),(25,bb u25),(57,S.t (T.rows 12 a.fPods.n fun i=>e61 (a.fPods.get i))),(69,u43),(37,bb u26),(21,u27),(53,ii u28),(45,S.ptr 4 4),(29,u29),(61,u30),(3,S.ptr 4 0),(67,u44),(35,u31),(19,bb u32),(51,S.t (T.rows 7 a.fTypes.n fun i=>e112 (a.fTypes.get i))),(43,bb u33),(27,u34),(59,bb (gtI (ofN a.fPods.n) 24)),(71,bb v0),(39,u35),(23,u36),(15,S.agg [ii a.fConf_Idle,ii a.fConf_Most,ii a.fConf_Hold,ii a.fConf_Late,ii a.fConf_Cool]),(47,bb u37),(31,bb u38),(63,u39)] 86 [(0,B.box (List.map S.t (e33 a))),(4,B.box [ii a.fConf_Idle,ii a.fConf_Most,ii a.fConf_Hold,ii a.fConf_Late,ii a.fConf_Cool])]
abbrev T10_5:Type:=Bool→S→Bool→Bool→S→S→Int→S→Bool→Int→S→Bool→S→Bool→S→Bool→Bool→S→Bool→S→S→Bool→S→Bool→S→Bool→Bool→S→Int→S→S→S→Bool→Bool→S→S→S→Bool→Bool→S→S→Bool→S→S→S→OS
def K10_5 (a:D33) (kk:PK S):T10_5:=fun v0 u1 u2 u3 u4 u5 u6 u7 u8 u9 u10 u11 u12 u13 u14 u15 u16 u17 u18 u19 u20 u21 u22 u23 u24 u25 u26 u27 u28 u29 u30 u31 u32 u33 u34 u35 u36 u37 u38 u39 u40 u41 u42 u43 u44=> kk 7 17 46 (s10_5 a v0 u1 u2 u3 u4 u5 u6 u7 u8 u9 u10 u11 u12 u13 u14 u15 u16 u17 u18 u19 u20 u21 u22 u23 u24 u25 u26 u27 u28 u29 u30 u31 u32 u33 u34 u35 u36 u37 u38 u39 u40 u41 u42 u43 u44)
def s10_6 (a:D33) (v0:Bool) (u1:S) (u2 u3:Bool) (u4 u5:S) (u6:Int) (u7 u8:S) (u9:Bool) (u10:Int) (u11:S) (u12 u13:Bool) (u14:S) (u15:Bool) (u16:S) (u17:Bool) (u18:S) (u19:Bool) (u20:S) (u21:Bool) (u22 u23:S) (u24:Bool) (u25:S) (u26:Bool) (u27:S) (u28:Bool) (u29:S) (u30:Bool) (u31:S) (u32:Int) (u33 u34 u35 u36:S) (u37 u38:Bool) (u39:S) (u40:Bool) (u41 u42:S) (u43 u44:Bool) (u45:S) (u46:Bool) (u47 u48 u49 u50:S):St:=mkSt [(0,ag (e33 a)),(64,u1),(32,bb u2),(16,S.ptr 0 0),(48,bb u3),(72,bb u46),(40,u4),(24,u5),(56,S.ptr 0 7),(4,ii u6),(68,u7),(36,u8),(20,bb u9),(52,ii u10),(76,u47),(44,bb false),(28,u11),(60,bb u12),(2,ii 0),(66,bb u13),(34,u14),(18,bb u15),(50,S.ptr 0 6),(74,u48),(42,u16),(26,bb u17),(58,ii (ofN a.fPods.n)),(70,u18),(38,bb u19),(22,u20),(54,bb u21),(14,S.ptr 0 1),(46,ii a.fConf_Cool),(30,u22),(62,u23),(1,S.ptr 0 0),(65,bb u24),(33,u25),(17,ii a.fNow),(49,bb u26),(73,u49),(41,u27),(25,bb u28),(57,S.t (T.rows 12 a.fPods.n fun i=>e61 (a.fPods.get i))),(69,u29),(37,bb u30),(21,u31),(53,ii u32),(77,bb v0),(45,S.ptr 4 4),(29,u33),(61,u34),(3,S.ptr 4 0),(67,u35),(35,u36),(19,bb u37),(51,S.t (T.rows 7 a.fTypes.n fun i=>e112 (a.fTypes.get i))),(75,u50),(43,bb u38),(27,u39),(59,bb (gtI (ofN a.fPods.n) 24)),(71,bb u40),(39,u41),(23,u42),(15,S.agg [ii a.fConf_Idle,ii a.fConf_Most,ii a.fConf_Hold,ii a.fConf_Late,ii a.fConf_Cool]),(47,bb u43),(31,bb u44),(63,u45)] 86 [(0,B.box (List.map S.t (e33 a))),(4,B.box [ii a.fConf_Idle,ii a.fConf_Most,ii a.fConf_Hold,ii a.fConf_Late,ii a.fConf_Cool])]
abbrev T10_6:Type:=Bool→S→Bool→Bool→S→S→Int→S→S→Bool→Int→S→Bool→Bool→S→Bool→S→Bool→S→Bool→S→Bool→S→S→Bool→S→Bool→S→Bool→S→Bool→S→Int→S→S→S→S→Bool→Bool→S→Bool→S→S→Bool→Bool→S→Bool→S→S→S→S→OS
def K10_6 (a:D33) (kk:PK S):T10_6:=fun v0 u1 u2 u3 u4 u5 u6 u7 u8 u9 u10 u11 u12 u13 u14 u15 u16 u17 u18 u19 u20 u21 u22 u23 u24 u25 u26 u27 u28 u29 u30 u31 u32 u33 u34 u35 u36 u37 u38 u39 u40 u41 u42 u43 u44 u45 u46 u47 u48 u49 u50=> kk 7 23 46 (s10_6 a v0 u1 u2 u3 u4 u5 u6 u7 u8 u9 u10 u11 u12 u13 u14 u15 u16 u17 u18 u19 u20 u21 u22 u23 u24 u25 u26 u27 u28 u29 u30 u31 u32 u33 u34 u35 u36 u37 u38 u39 u40 u41 u42 u43 u44 u45 u46 u47 u48 u49 u50)
def s10_7 (a:D33) (v0:Bool) (u1:S) (u2 u3 u4:Bool) (u5 u6:S) (u7:Int) (u8 u9:S) (u10:Bool) (u11:Int) (u12 u13:S) (u14 u15:Bool) (u16:S) (u17:Bool) (u18 u19:S) (u20:Bool) (u21:S) (u22:Bool) (u23:S) (u24:Bool) (u25 u26:S) (u27:Bool) (u28:S) (u29:Bool) (u30 u31:S) (u32:Bool) (u33:S) (u34:Bool) (u35:S) (u36:Int) (u37:Bool) (u38 u39 u40 u41:S) (u42:Bool) (u43:S) (u44:Bool) (u45:S) (u46:Bool) (u47 u48:S) (u49 u50:Bool) (u51 u52 u53:S) (u54:Bool) (u55 u56:S):St:=mkSt [(0,ag (e33 a)),(64,u1),(32,bb u2),(16,S.ptr 0 0),(80,u52),(48,bb u3),(72,bb u4),(40,u5),(24,u6),(56,S.ptr 0 7),(4,ii u7),(68,u8),(36,u9),(20,bb u10),(52,ii u11),(76,u12),(44,bb false),(28,u13),(60,bb u14),(2,ii 0),(66,bb u15),(34,u16),(18,bb u17),(82,u53),(50,S.ptr 0 6),(74,u18),(42,u19),(26,bb u20),(58,ii (ofN a.fPods.n)),(70,u21),(38,bb u22),(22,u23),(54,bb u24),(14,S.ptr 0 1),(78,bb u54),(46,ii a.fConf_Cool),(30,u25),(62,u26),(1,S.ptr 0 0),(65,bb u27),(33,u28),(17,ii a.fNow),(81,u55),(49,bb u29),(73,u30),(41,u31),(25,bb u32),(57,S.t (T.rows 12 a.fPods.n fun i=>e61 (a.fPods.get i))),(69,u33),(37,bb u34),(21,u35),(53,ii u36),(77,bb u37),(45,S.ptr 4 4),(29,u38),(61,u39),(3,S.ptr 4 0),(67,u40),(35,u41),(19,bb u42),(83,bb v0),(51,S.t (T.rows 7 a.fTypes.n fun i=>e112 (a.fTypes.get i))),(75,u43),(43,bb u44),(27,u45),(59,bb (gtI (ofN a.fPods.n) 24)),(71,bb u46),(39,u47),(23,u48),(15,S.agg [ii a.fConf_Idle,ii a.fConf_Most,ii a.fConf_Hold,ii a.fConf_Late,ii a.fConf_Cool]),(79,u56),(47,bb u49),(31,bb u50),(63,u51)] 86 [(0,B.box (List.map S.t (e33 a))),(4,B.box [ii a.fConf_Idle,ii a.fConf_Most,ii a.fConf_Hold,ii a.fConf_Late,ii a.fConf_Cool])]
abbrev T10_7:Type:=Bool→S→Bool→Bool→Bool→S→S→Int→S→S→Bool→Int→S→S→Bool→Bool→S→Bool→S→S→Bool→S→Bool→S→Bool→S→S→Bool→S→Bool→S→S→Bool→S→Bool→S→Int→Bool→S→S→S→S→Bool→S→Bool→S→Bool→S→S→Bool→Bool→S→S→S→Bool→S→S→OS
def K10_7 (a:D33) (kk:PK S):T10_7:=fun v0 u1 u2 u3 u4 u5 u6 u7 u8 u9 u10 u11 u12 u13 u14 u15 u16 u17 u18 u19 u20 u21 u22 u23 u24 u25 u26 u27 u28 u29 u30 u31 u32 u33 u34 u35 u36 u37 u38 u39 u40 u41 u42 u43 u44 u45 u46 u47 u48 u49 u50 u51 u52 u53 u54 u55 u56=> kk 7 29 46 (s10_7 a v0 u1 u2 u3 u4 u5 u6 u7 u8 u9 u10 u11 u12 u13 u14 u15 u16 u17 u18 u19 u20 u21 u22 u23 u24 u25 u26 u27 u28 u29 u30 u31 u32 u33 u34 u35 u36 u37 u38 u39 u40 u41 u42 u43 u44 u45 u46 u47 u48 u49 u50 u51 u52 u53 u54 u55 u56)
def s10_8 (a:D33) (v0:Bool) (u1:S) (u2:Bool) (u3:S) (u4 u5:Bool) (u6 u7:S) (u8:Int) (u9 u10:S) (u11:Bool) (u12:Int) (u13 u14:S) (u15 u16:Bool) (u17:S) (u18:Bool) (u19 u20 u21:S) (u22:Bool) (u23:S) (u24:Bool) (u25:S) (u26 u27:Bool) (u28 u29:S) (u30:Bool) (u31 u32:S) (u33:Bool) (u34 u35:S) (u36:Bool) (u37:S) (u38:Bool) (u39:S) (u40:Int) (u41:Bool) (u42 u43 u44 u45:S) (u46 u47:Bool) (u48:S) (u49:Bool) (u50:S) (u51:Bool) (u52 u53 u54:S) (u55 u56:Bool) (u57 u58:S) (u59:Bool) (u60 u61 u62:S):St:=mkSt [(0,ag (e33 a)),(64,u1),(32,bb u2),(16,S.ptr 0 0),(80,u3),(48,bb u4),(72,bb u5),(40,u6),(24,u7),(88,u58),(56,S.ptr 0 7),(4,ii u8),(68,u9),(36,u10),(20,bb u11),(84,bb u59),(52,ii u12),(76,u13),(44,bb false),(28,u14),(60,bb u15),(2,ii 0),(66,bb u16),(34,u17),(18,bb u18),(82,u19),(50,S.ptr 0 6),(74,u20),(42,u21),(26,bb u22),(58,ii (ofN a.fPods.n)),(70,u23),(38,bb u24),(22,u25),(86,u60),(54,bb u26),(14,S.ptr 0 1),(78,bb u27),(46,ii a.fConf_Cool),(30,u28),(62,u29),(1,S.ptr 0 0),(65,bb u30),(33,u31),(17,ii a.fNow),(81,u32),(49,bb u33),(73,u34),(41,u35),(25,bb u36),(89,bb v0),(57,S.t (T.rows 12 a.fPods.n fun i=>e61 (a.fPods.get i))),(69,u37),(37,bb u38),(21,u39),(85,u61),(53,ii u40),(77,bb u41),(45,S.ptr 4 4),(29,u42),(61,u43),(3,S.ptr 4 0),(67,u44),(35,u45),(19,bb u46),(83,bb u47),(51,S.t (T.rows 7 a.fTypes.n fun i=>e112 (a.fTypes.get i))),(75,u48),(43,bb u49),(27,u50),(59,bb (gtI (ofN a.fPods.n) 24)),(71,bb u51),(39,u52),(23,u53),(87,u62),(15,S.agg [ii a.fConf_Idle,ii a.fConf_Most,ii a.fConf_Hold,ii a.fConf_Late,ii a.fConf_Cool]),(79,u54),(47,bb u55),(31,bb u56),(63,u57)] 86 [(0,B.box (List.map S.t (e33 a))),(4,B.box [ii a.fConf_Idle,ii a.fConf_Most,ii a.fConf_Hold,ii a.fConf_Late,ii a.fConf_Cool])]
abbrev T10_8:Type:=Bool→S→Bool→S→Bool→Bool→S→S→Int→S→S→Bool→Int→S→S→Bool→Bool→S→Bool→S→S→S→Bool→S→Bool→S→Bool→Bool→S→S→Bool→S→S→Bool→S→S→Bool→S→Bool→S→Int→Bool→S→S→S→S→Bool→Bool→S→Bool→S→Bool→S→S→S→Bool→Bool→S→S→Bool→S→S→S→OS
def K10_8 (a:D33) (kk:PK S):T10_8:=fun v0 u1 u2 u3 u4 u5 u6 u7 u8 u9 u10 u11 u12 u13 u14 u15 u16 u17 u18 u19 u20 u21 u22 u23 u24 u25 u26 u27 u28 u29 u30 u31 u32 u33 u34 u35 u36 u37 u38 u39 u40 u41 u42 u43 u44 u45 u46 u47 u48 u49 u50 u51 u52 u53 u54 u55 u56 u57 u58 u59 u60 u61 u62=> kk 7 35 46 (s10_8 a v0 u1 u2 u3 u4 u5 u6 u7 u8 u9 u10 u11 u12 u13 u14 u15 u16 u17 u18 u19 u20 u21 u22 u23 u24 u25 u26 u27 u28 u29 u30 u31 u32 u33 u34 u35 u36 u37 u38 u39 u40 u41 u42 u43 u44 u45 u46 u47 u48 u49 u50 u51 u52 u53 u54 u55 u56 u57 u58 u59 u60 u61 u62)
def s10_9 (a:D33) (v0:Int):St:=mkSt [(98,ii (ofN a.fPools.n)),(1,S.ptr 0 0),(97,S.t (T.rows 10 a.fPools.n fun i=>e77 (a.fPools.get i))),(99,ii v0)] 1 [(0,B.box (List.map S.t (e33 a)))]
def K10_9 (a:D33) (kk:PK S):Int→OS:=fun v0=> kk 10 0 0 (s10_9 a v0)
def s10_10 (a:D33) (v0:Int):St:=mkSt [(132,ii v0),(130,S.t (T.rows 12 a.fPods.n fun i=>e61 (a.fPods.get i))),(1,S.ptr 0 0),(131,ii (ofN a.fPods.n))] 1 [(0,B.box (List.map S.t (e33 a)))]
def K10_10 (a:D33) (kk:PK S):Int→OS:=fun v0=> kk 22 0 0 (s10_10 a v0)
def b10_0 (q:YF) (a:D33) (k1:T10_1) (v0 u1 u2:Bool) (u3:S) (u4:Bool) (u5 u6 u7:S):OS:=bif v0 then k1 true u3 u4 u1 u5 v0 u6 u2 u7 S.ud true S.ud S.ud S.ud else yC q 32 [ii a.fConf_Most] fun y=>k1 (!y.b 0) u3 u4 u1 u5 v0 u6 u2 u7 (ii a.fConf_Most) false (S.t (T.v (.bool !y.b 0))) (bb (y.b 0)) (S.ptr 4 1)
def b10_1 (q:YF) (a:D33) (k2:T10_2) (v0:Bool) (u1:S) (u2 u3:Bool) (u4:S) (u5:Bool) (u6:S) (u7:Bool) (u8 u9:S) (u10:Bool) (u11 u12 u13:S):OS:=bif v0 then k2 true u1 u2 u9 u3 u10 u4 u11 u5 u6 u12 u7 u13 u8 v0 true S.ud S.ud S.ud S.ud else yC q 32 [ii a.fConf_Hold] fun y=>k2 (!y.b 0) u1 u2 u9 u3 u10 u4 u11 u5 u6 u12 u7 u13 u8 v0 false (S.t (T.v (.bool !y.b 0))) (ii a.fConf_Hold) (S.ptr 4 2) (bb (y.b 0))
def b10_2 (q:YF) (a:D33) (k3:T10_3) (v0:Bool) (u1:S) (u2:Bool) (u3:S) (u4 u5:Bool) (u6 u7:S) (u8:Bool) (u9 u10:S) (u11:Bool) (u12 u13:S) (u14 u15:Bool) (u16 u17 u18 u19:S):OS:=bif v0 then k3 true u15 u1 u16 u2 u3 u17 u4 u5 u6 u7 u18 u8 v0 u9 u10 u19 u11 u12 u13 u14 S.ud S.ud true S.ud S.ud else yC q 32 [ii a.fConf_Late] fun y=>k3 (!y.b 0) u15 u1 u16 u2 u3 u17 u4 u5 u6 u7 u18 u8 v0 u9 u10 u19 u11 u12 u13 u14 (ii a.fConf_Late) (S.t (T.v (.bool !y.b 0))) false (bb (y.b 0)) (S.ptr 4 3)
def b10_3 (q:YF) (a:D33) (k4:T10_4) (v0 u1:Bool) (u2 u3:S) (u4:Bool) (u5 u6:S) (u7 u8:Bool) (u9 u10 u11:S) (u12 u13:Bool) (u14 u15 u16:S) (u17:Bool) (u18 u19:S) (u20:Bool) (u21 u22:S) (u23:Bool) (u24 u25:S):OS:=bif v0 then some (ii 1) else yC q 32 [ii a.fConf_Cool] fun y=>bif !y.b 0 then some (ii 1) else yC q 33 [S.t (T.rows 7 a.fTypes.n fun i=>e112 (a.fTypes.get i))] fun y_1=>bif !eqI (y_1.i 0) 0 then some (ii (y_1.i 0)) else bif gtI (ofN a.fPods.n) 24 then k4 true u1 (!y.b 0) u21 u2 (y_1.i 0) u3 u4 (y_1.i 0) u5 u6 u7 u22 u8 u23 u9 (!eqI (y_1.i 0) 0) u10 u11 (!y.b 0) u24 u12 u13 u14 (y_1.i 0) u15 u16 u17 v0 u18 u25 u19 (y.b 0) u20 S.ud true S.ud S.ud S.ud else k4 (gtI (ofN a.fPools.n) 4) u1 (!y.b 0) u21 u2 (y_1.i 0) u3 u4 (y_1.i 0) u5 u6 u7 u22 u8 u23 u9 (!eqI (y_1.i 0) 0) u10 u11 (!y.b 0) u24 u12 u13 u14 (y_1.i 0) u15 u16 u17 v0 u18 u25 u19 (y.b 0) u20 (bb (gtI (ofN a.fPools.n) 4)) false (S.t (T.rows 10 a.fPools.n fun i=>e77 (a.fPools.get i))) (S.ptr 0 8) (ii (ofN a.fPools.n))
def b10_4 (q:YF) (a:D33) (k5:T10_5) (v0 u1 u2:Bool) (u3 u4:S) (u5:Int) (u6:S) (u7:Bool) (u8:Int) (u9 u10:S) (u11:Bool) (u12:S) (u13 u14:Bool) (u15:S) (u16:Bool) (u17 u18:S) (u19:Bool) (u20:S) (u21 u22:Bool) (u23:S) (u24:Int) (u25 u26:S) (u27 u28:Bool) (u29 u30 u31:S) (u32 u33:Bool) (u34:S) (u35:Bool) (u36 u37 u38:S):OS:=bif v0 then k5 true u34 u1 u2 u3 u4 u5 u6 u7 u8 u9 u35 u10 u11 u12 u13 u14 u15 u16 u17 u36 v0 u18 u19 u20 u21 u22 u23 u24 u25 u37 u26 u27 u28 u29 u30 u31 u32 u33 u38 S.ud true S.ud S.ud S.ud else k5 (gtI (ofN a.fClaims.n) 16) u34 u1 u2 u3 u4 u5 u6 u7 u8 u9 u35 u10 u11 u12 u13 u14 u15 u16 u17 u36 v0 u18 u19 u20 u21 u22 u23 u24 u25 u37 u26 u27 u28 u29 u30 u31 u32 u33 u38 (S.t (T.rows 15 a.fClaims.n fun i=>e52 (a.fClaims.get i))) false (bb (gtI (ofN a.fClaims.n) 16)) (ii (ofN a.fClaims.n)) (S.ptr 0 9)
def b10_5 (q:YF) (a:D33) (k6:T10_6) (v0:Bool) (u1:S) (u2 u3:Bool) (u4 u5:S) (u6:Int) (u7:S) (u8:Bool) (u9:Int) (u10:S) (u11:Bool) (u12:S) (u13:Bool) (u14:S) (u15 u16:Bool) (u17:S) (u18:Bool) (u19 u20:S) (u21:Bool) (u22:S) (u23:Bool) (u24:S) (u25 u26:Bool) (u27:S) (u28:Int) (u29 u30 u31:S) (u32 u33:Bool) (u34 u35 u36:S) (u37 u38:Bool) (u39 u40:S) (u41:Bool) (u42 u43 u44:S):OS:=bif v0 then k6 true u1 u2 u3 u4 u5 u6 u40 u7 u8 u9 u10 u11 u41 u12 u13 u14 u15 u42 u16 u17 u18 u19 u20 u21 u22 u23 u24 u25 u43 u26 u27 u28 u29 u30 u44 u31 u32 u33 u34 v0 u35 u36 u37 u38 u39 true S.ud S.ud S.ud S.ud else k6 (gtI (ofN a.fCommands.n) 1) u1 u2 u3 u4 u5 u6 u40 u7 u8 u9 u10 u11 u41 u12 u13 u14 u15 u42 u16 u17 u18 u19 u20 u21 u22 u23 u24 u25 u43 u26 u27 u28 u29 u30 u44 u31 u32 u33 u34 v0 u35 u36 u37 u38 u39 false (bb (gtI (ofN a.fCommands.n) 1)) (S.t (T.rows 8 a.fCommands.n fun i=>e122 (a.fCommands.get i))) (S.ptr 0 10) (ii (ofN a.fCommands.n))
def b10_6 (q:YF) (a:D33) (k7:T10_7) (v0:Bool) (u1:S) (u2 u3:Bool) (u4 u5:S) (u6:Int) (u7 u8:S) (u9:Bool) (u10:Int) (u11:S) (u12 u13:Bool) (u14:S) (u15:Bool) (u16:S) (u17:Bool) (u18:S) (u19:Bool) (u20:S) (u21:Bool) (u22 u23:S) (u24:Bool) (u25:S) (u26:Bool) (u27:S) (u28:Bool) (u29:S) (u30:Bool) (u31:S) (u32:Int) (u33 u34 u35 u36:S) (u37 u38:Bool) (u39:S) (u40:Bool) (u41 u42:S) (u43 u44:Bool) (u45:S) (u46:Bool) (u47 u48 u49 u50:S):OS:=bif v0 then k7 true u1 u2 u3 u46 u4 u5 u6 u7 u8 u9 u10 u47 u11 u12 u13 u14 u15 u48 u16 u17 u18 u19 u20 u21 u22 u23 u24 u25 u26 u49 u27 u28 u29 u30 u31 u32 v0 u33 u34 u35 u36 u37 u50 u38 u39 u40 u41 u42 u43 u44 u45 S.ud S.ud true S.ud S.ud else k7 (gtI (ofN a.fCools.n) 72) u1 u2 u3 u46 u4 u5 u6 u7 u8 u9 u10 u47 u11 u12 u13 u14 u15 u48 u16 u17 u18 u19 u20 u21 u22 u23 u24 u25 u26 u49 u27 u28 u29 u30 u31 u32 v0 u33 u34 u35 u36 u37 u50 u38 u39 u40 u41 u42 u43 u44 u45 (S.t (T.rows 4 a.fCools.n fun i=>e125 (a.fCools.get i))) (bb (gtI (ofN a.fCools.n) 72)) false (ii (ofN a.fCools.n)) (S.ptr 0 11)
def b10_7 (q:YF) (a:D33) (k8:T10_8) (v0:Bool) (u1:S) (u2 u3 u4:Bool) (u5 u6:S) (u7:Int) (u8 u9:S) (u10:Bool) (u11:Int) (u12 u13:S) (u14 u15:Bool) (u16:S) (u17:Bool) (u18 u19:S) (u20:Bool) (u21:S) (u22:Bool) (u23:S) (u24:Bool) (u25 u26:S) (u27:Bool) (u28:S) (u29:Bool) (u30 u31:S) (u32:Bool) (u33:S) (u34:Bool) (u35:S) (u36:Int) (u37:Bool) (u38 u39 u40 u41:S) (u42:Bool) (u43:S) (u44:Bool) (u45:S) (u46:Bool) (u47 u48:S) (u49 u50:Bool) (u51 u52 u53:S) (u54:Bool) (u55 u56:S):OS:=bif v0 then k8 true u1 u2 u52 u3 u4 u5 u6 u7 u8 u9 u10 u11 u12 u13 u14 u15 u16 u17 u53 u18 u19 u20 u21 u22 u23 u24 u54 u25 u26 u27 u28 u55 u29 u30 u31 u32 u33 u34 u35 u36 u37 u38 u39 u40 u41 u42 v0 u43 u44 u45 u46 u47 u48 u56 u49 u50 u51 S.ud true S.ud S.ud S.ud else k8 (gtI (ofN a.fInsts.n) 64) u1 u2 u52 u3 u4 u5 u6 u7 u8 u9 u10 u11 u12 u13 u14 u15 u16 u17 u53 u18 u19 u20 u21 u22 u23 u24 u54 u25 u26 u27 u28 u55 u29 u30 u31 u32 u33 u34 u35 u36 u37 u38 u39 u40 u41 u42 v0 u43 u44 u45 u46 u47 u48 u56 u49 u50 u51 (bb (gtI (ofN a.fInsts.n) 64)) false (S.t (T.rows 7 a.fInsts.n fun i=>e91 (a.fInsts.get i))) (S.ptr 0 12) (ii (ofN a.fInsts.n))
def b10_8 (q:YF) (a:D33) (k9:Int→OS) (v0:Bool) (u1:S) (u2:Bool) (u3:S) (u4 u5:Bool) (u6 u7:S) (u8:Int) (u9 u10:S) (u11:Bool) (u12:Int) (u13 u14:S) (u15 u16:Bool) (u17:S) (u18:Bool) (u19 u20 u21:S) (u22:Bool) (u23:S) (u24:Bool) (u25:S) (u26 u27:Bool) (u28 u29:S) (u30:Bool) (u31 u32:S) (u33:Bool) (u34 u35:S) (u36:Bool) (u37:S) (u38:Bool) (u39:S) (u40:Int) (u41:Bool) (u42 u43 u44 u45:S) (u46 u47:Bool) (u48:S) (u49:Bool) (u50:S) (u51:Bool) (u52 u53 u54:S) (u55 u56:Bool) (u57 u58:S) (u59:Bool) (u60 u61 u62:S):OS:=bif v0 then some (ii 3) else bif gtI (ofN a.fNotes.n) 32 then some (ii 3) else k9 0
def b10_9 (q:YF) (a:D33) (k9:Int→OS) (k10:Int→OS) (v0:Int):OS:=bif ltI v0 (ofN a.fPools.n) then elemO v0 a.fPools.n fun h=>yC q 34 [ag (e77 (a.fPools.get (Fin.mk v0.toNat h)))] fun y=>bif !eqI (y.i 0) 0 then some (ii (y.i 0)) else bif gtI v0 0 then elemO (subI .i64 v0 1) a.fPools.n fun h_1=>bif !strLt (a.fPools.get (Fin.mk (subI .i64 v0 1).toNat h_1)).fName (a.fPools.get (Fin.mk v0.toNat h)).fName then some (ii 6) else k9 (addI .i64 v0 1) else k9 (addI .i64 v0 1) else yC q 35 [ag (e33 a)] fun y=>bif !eqI (y.i 0) 0 then some (ii (y.i 0)) else k10 0
def b10_10 (q:YF) (a:D33) (k10:Int→OS) (v0:Int):OS:=bif ltI v0 (ofN a.fPods.n) then elemO v0 a.fPods.n fun h=>yC q 36 [ag (e61 (a.fPods.get (Fin.mk v0.toNat h)))] fun y=>bif !eqI (y.i 0) 0 then some (ii (y.i 0)) else bif gtI v0 0 then elemO (subI .i64 v0 1) a.fPods.n fun h_1=>bif !strLt (a.fPods.get (Fin.mk (subI .i64 v0 1).toNat h_1)).fName (a.fPods.get (Fin.mk v0.toNat h)).fName then some (ii 6) else yC q 37 [ag (e33 a),ss (a.fPods.get (Fin.mk v0.toNat h)).fOn] fun y=>bif !strEq (a.fPods.get (Fin.mk v0.toNat h)).fOn (bs []) then bif !y.b 15 then some (ii 5) else bif gtI (a.fPods.get (Fin.mk v0.toNat h)).fSince a.fNow then some (ii 1) else k10 (addI .i64 v0 1) else bif gtI (a.fPods.get (Fin.mk v0.toNat h)).fSince a.fNow then some (ii 1) else k10 (addI .i64 v0 1) else yC q 37 [ag (e33 a),ss (a.fPods.get (Fin.mk v0.toNat h)).fOn] fun y=>bif !strEq (a.fPods.get (Fin.mk v0.toNat h)).fOn (bs []) then bif !y.b 15 then some (ii 5) else bif gtI (a.fPods.get (Fin.mk v0.toNat h)).fSince a.fNow then some (ii 1) else k10 (addI .i64 v0 1) else bif gtI (a.fPods.get (Fin.mk v0.toNat h)).fSince a.fNow then some (ii 1) else k10 (addI .i64 v0 1) else yC q 38 [ag (e33 a)] fun y=>some (ii (y.i 0))
def e10_in (q:YF) (a:D33) (k0:T10_0):OS:=yC q 31 [ii a.fNow] fun y=>bif !y.b 0 then k0 true (y.b 0) (!y.b 0) S.ud true S.ud S.ud S.ud else yC q 32 [ii a.fConf_Idle] fun y_1=>k0 (!y_1.b 0) (y.b 0) (!y.b 0) (S.t (T.v (.bool !y_1.b 0))) false (ii a.fConf_Idle) (S.ptr 4 0) (bb (y_1.b 0))
structure X10 where
 x0:Bool→OS
 x1:Bool→OS
 x2:Bool→OS
 x3:Bool→OS
 x4:Bool→OS
 x5:Bool→OS
 x6:Bool→OS
 x7:Bool→OS
 x8:Bool→OS
 x9:Int→OS
 x10:Int→OS
def D10_0 (X:X10):T10_0:=fun v0 _ _ _ _ _ _ _=>X.x0 v0
def D10_1 (X:X10):T10_1:=fun v0 _ _ _ _ _ _ _ _ _ _ _ _ _=>X.x1 v0
def D10_2 (X:X10):T10_2:=fun v0 _ _ _ _ _ _ _ _ _ _ _ _ _ _ _ _ _ _ _=>X.x2 v0
def D10_3 (X:X10):T10_3:=fun v0 _ _ _ _ _ _ _ _ _ _ _ _ _ _ _ _ _ _ _ _ _ _ _ _ _=>X.x3 v0
def D10_4 (X:X10):T10_4:=fun v0 _ _ _ _ _ _ _ _ _ _ _ _ _ _ _ _ _ _ _ _ _ _ _ _ _ _ _ _ _ _ _ _ _ _ _ _ _ _=>X.x4 v0
def D10_5 (X:X10):T10_5:=fun v0 _ _ _ _ _ _ _ _ _ _ _ _ _ _ _ _ _ _ _ _ _ _ _ _ _ _ _ _ _ _ _ _ _ _ _ _ _ _ _ _ _ _ _ _=>X.x5 v0
def D10_6 (X:X10):T10_6:=fun v0 _ _ _ _ _ _ _ _ _ _ _ _ _ _ _ _ _ _ _ _ _ _ _ _ _ _ _ _ _ _ _ _ _ _ _ _ _ _ _ _ _ _ _ _ _ _ _ _ _ _=>X.x6 v0
def D10_7 (X:X10):T10_7:=fun v0 _ _ _ _ _ _ _ _ _ _ _ _ _ _ _ _ _ _ _ _ _ _ _ _ _ _ _ _ _ _ _ _ _ _ _ _ _ _ _ _ _ _ _ _ _ _ _ _ _ _ _ _ _ _ _ _=>X.x7 v0
def D10_8 (X:X10):T10_8:=fun v0 _ _ _ _ _ _ _ _ _ _ _ _ _ _ _ _ _ _ _ _ _ _ _ _ _ _ _ _ _ _ _ _ _ _ _ _ _ _ _ _ _ _ _ _ _ _ _ _ _ _ _ _ _ _ _ _ _ _ _ _ _ _=>X.x8 v0
def D10_9 (X:X10):Int→OS:=fun v0=>X.x9 v0
def D10_10 (X:X10):Int→OS:=fun v0=>X.x10 v0
def X10s (q:YF) (a:D33) (X:X10):X10:=⟨fun v0=>b10_0 q a (D10_1 X) v0 dd dd dd dd dd dd dd,
 fun v0=>b10_1 q a (D10_2 X) v0 dd dd dd dd dd dd dd dd dd dd dd dd dd,
 fun v0=>b10_2 q a (D10_3 X) v0 dd dd dd dd dd dd dd dd dd dd dd dd dd dd dd dd dd dd dd,
 fun v0=>b10_3 q a (D10_4 X) v0 dd dd dd dd dd dd dd dd dd dd dd dd dd dd dd dd dd dd dd dd dd dd dd dd dd,
 fun v0=>b10_4 q a (D10_5 X) v0 dd dd dd dd dd dd dd dd dd dd dd dd dd dd dd dd dd dd dd dd dd dd dd dd dd dd dd dd dd dd dd dd dd dd dd dd dd dd,
 fun v0=>b10_5 q a (D10_6 X) v0 dd dd dd dd dd dd dd dd dd dd dd dd dd dd dd dd dd dd dd dd dd dd dd dd dd dd dd dd dd dd dd dd dd dd dd dd dd dd dd dd dd dd dd dd,
 fun v0=>b10_6 q a (D10_7 X) v0 dd dd dd dd dd dd dd dd dd dd dd dd dd dd dd dd dd dd dd dd dd dd dd dd dd dd dd dd dd dd dd dd dd dd dd dd dd dd dd dd dd dd dd dd dd dd dd dd dd dd,
 fun v0=>b10_7 q a (D10_8 X) v0 dd dd dd dd dd dd dd dd dd dd dd dd dd dd dd dd dd dd dd dd dd dd dd dd dd dd dd dd dd dd dd dd dd dd dd dd dd dd dd dd dd dd dd dd dd dd dd dd dd dd dd dd dd dd dd dd,
 fun v0=>b10_8 q a (D10_9 X) v0 dd dd dd dd dd dd dd dd dd dd dd dd dd dd dd dd dd dd dd dd dd dd dd dd dd dd dd dd dd dd dd dd dd dd dd dd dd dd dd dd dd dd dd dd dd dd dd dd dd dd dd dd dd dd dd dd dd dd dd dd dd dd,
 fun v0=>b10_9 q a (D10_9 X) (D10_10 X) v0,
 fun v0=>b10_10 q a (D10_10 X) v0⟩
def X10n (q:YF) (a:D33):Nat→X10
 | 0=>⟨fun _=>none,fun _=>none,fun _=>none,fun _=>none,fun _=>none,fun _=>none,fun _=>none,fun _=>none,fun _=>none,fun _=>none,fun _=>none⟩
 | n+1=>X10s q a (X10n q a n)
theorem l10_0 (q:YF) (a:D33) (kk:PK S):K10_0 a (P10 q kk)=b10_0 q a (K10_1 a kk):=by
 kernel_rfl
theorem l10_1 (q:YF) (a:D33) (kk:PK S):K10_1 a (P10 q kk)=b10_1 q a (K10_2 a kk):=by
 kernel_rfl
theorem l10_2 (q:YF) (a:D33) (kk:PK S):K10_2 a (P10 q kk)=b10_2 q a (K10_3 a kk):=by
 kernel_rfl
theorem l10_3 (q:YF) (a:D33) (kk:PK S):K10_3 a (P10 q kk)=b10_3 q a (K10_4 a kk):=by
 kernel_rfl
theorem l10_4 (q:YF) (a:D33) (kk:PK S):K10_4 a (P10 q kk)=b10_4 q a (K10_5 a kk):=by
 kernel_rfl
theorem l10_5 (q:YF) (a:D33) (kk:PK S):K10_5 a (P10 q kk)=b10_5 q a (K10_6 a kk):=by
 kernel_rfl
theorem l10_6 (q:YF) (a:D33) (kk:PK S):K10_6 a (P10 q kk)=b10_6 q a (K10_7 a kk):=by
 kernel_rfl
theorem l10_7 (q:YF) (a:D33) (kk:PK S):K10_7 a (P10 q kk)=b10_7 q a (K10_8 a kk):=by
 kernel_rfl
theorem l10_8 (q:YF) (a:D33) (kk:PK S):K10_8 a (P10 q kk)=b10_8 q a (K10_9 a kk):=by
 kernel_rfl
theorem l10_9 (q:YF) (a:D33) (kk:PK S):K10_9 a (P10 q kk)=b10_9 q a (K10_9 a kk) (K10_10 a kk):=by
 kernel_rfl
theorem l10_10 (q:YF) (a:D33) (kk:PK S):K10_10 a (P10 q kk)=b10_10 q a (K10_10 a kk):=by
 kernel_rfl
theorem l10_in (q:YF) (a:D33) (kk:PK S):BG q kk 10 Tryz.f10 [ag (e33 a)]=e10_in q a (K10_0 a kk):=by
 kernel_rfl
theorem h10 (q:YF) (a:D33):∀ n,K10_0 a (H10 q n)=D10_0 (X10n q a n)∧K10_1 a (H10 q n)=D10_1 (X10n q a n)∧K10_2 a (H10 q n)=D10_2 (X10n q a n)∧K10_3 a (H10 q n)=D10_3 (X10n q a n)∧K10_4 a (H10 q n)=D10_4 (X10n q a n)∧K10_5 a (H10 q n)=D10_5 (X10n q a n)∧K10_6 a (H10 q n)=D10_6 (X10n q a n)∧K10_7 a (H10 q n)=D10_7 (X10n q a n)∧K10_8 a (H10 q n)=D10_8 (X10n q a n)∧K10_9 a (H10 q n)=D10_9 (X10n q a n)∧K10_10 a (H10 q n)=D10_10 (X10n q a n)
 | 0=>⟨rfl,rfl,rfl,rfl,rfl,rfl,rfl,rfl,rfl,rfl,rfl⟩
 | n+1=>by
  obtain ⟨h0,h1,h2,h3,h4,h5,h6,h7,h8,h9,h10⟩:=h10 q a n
  exact ⟨(l10_0 q a (H10 q n)).trans (by rw [h1];kernel_rfl),(l10_1 q a (H10 q n)).trans (by rw [h2];kernel_rfl),(l10_2 q a (H10 q n)).trans (by rw [h3];kernel_rfl),(l10_3 q a (H10 q n)).trans (by rw [h4];kernel_rfl),(l10_4 q a (H10 q n)).trans (by rw [h5];kernel_rfl),(l10_5 q a (H10 q n)).trans (by rw [h6];kernel_rfl),(l10_6 q a (H10 q n)).trans (by rw [h7];kernel_rfl),(l10_7 q a (H10 q n)).trans (by rw [h8];kernel_rfl),(l10_8 q a (H10 q n)).trans (by rw [h9];kernel_rfl),(l10_9 q a (H10 q n)).trans (by rw [h9,h10];kernel_rfl),(l10_10 q a (H10 q n)).trans (by rw [h10];kernel_rfl)⟩
theorem W10 (a:D33) (n:Nat) (x:S) (h:e10_in (regs O) a (D10_0 (X10n (regs O) a n))=some x):(W O).callT 10 [ag (e33 a)]=some x:=by
 refine WG (fn:=Tryz.f10) (by kernel_rfl) (by kernel_rfl) (n:=n) ?_
 refine (l10_in (regs O) a (H10 (regs O) n)).trans ?_
 obtain ⟨h0,h1,h2,h3,h4,h5,h6,h7,h8,h9,h10⟩:=h10 (regs O) a n
 rw [h0]
 exact h
abbrev P15 (q:YF) (kk:PK S):PK S:=PG q 15 Tryz.f15 kk
abbrev H15 (q:YF):Nat→PK S:=HG q 15 Tryz.f15
def s15_0 (a:D33) (b:Int) (v0 v1:Int):St:=mkSt [(28,ii (ofN a.fClaims.n)),(2,S.ptr 0 0),(1,ii b),(29,ii v0),(27,S.t (T.rows 15 a.fClaims.n fun i=>e52 (a.fClaims.get i))),(7,ii v1)] 1 [(0,B.box (List.map S.t (e33 a)))]
def K15_0 (a:D33) (b:Int) (kk:PK S):Int→Int→OS:=fun v0 v1=> kk 8 0 0 (s15_0 a b v0 v1)
def s15_1 (a:D33) (b:Int) (v0 v1:Int):St:=mkSt [(40,S.t (T.rows 7 a.fInsts.n fun i=>e91 (a.fInsts.get i))),(42,ii v1),(1,ii b),(41,ii (ofN a.fInsts.n)),(7,ii v0)] 0 []
def K15_1 (a:D33) (b:Int) (kk:PK S):Int→Int→OS:=fun v0 v1=> kk 13 0 0 (s15_1 a b v0 v1)
def b15_0 (q:YF) (a:D33) (b:Int) (k0:Int→Int→OS) (k1:Int→Int→OS) (v0 v1:Int):OS:=bif ltI v0 (ofN a.fClaims.n) then elemO v0 a.fClaims.n fun h=>yC q 43 [ss (a.fClaims.get (Fin.mk v0.toNat h)).fName] fun y=>k0 (addI .i64 v0 1) (Bool.rec ((fun _=>v1) ()) ((fun _=>y.i 0) ()) (decide (y.i 0 > v1))) else k1 v1 0
def b15_1 (q:YF) (a:D33) (b:Int) (k1:Int→Int→OS) (v0 v1:Int):OS:=bif ltI v1 (ofN a.fInsts.n) then elemO v1 a.fInsts.n fun h=>yC q 44 [ss (a.fInsts.get (Fin.mk v1.toNat h)).fToken,ss (bs [47])] fun y=>bif y.b 2 then yC q 43 [ss (y.s 0)] fun y=>k1 (Bool.rec ((fun _=>v0) ()) ((fun _=>y.i 0) ()) (decide (y.i 0 > v0))) (addI .i64 v1 1) else k1 v0 (addI .i64 v1 1) else bif gtI (addI .i64 v0 b) 9999 then some (S.tup [ss (bs []),ii 3]) else yC q 45 [ii (addI .i64 10000 (addI .i64 v0 b))] fun y=>bif leI 1 (sizeS (y.s 0)) && leI (sizeS (y.s 0)) (sizeS (y.s 0)) then bif fitS (bs [99]) (extS (y.s 0) 1 (toN (sizeS (y.s 0)))) then some (S.tup [ss (catS (bs [99]) (extS (y.s 0) 1 (toN (sizeS (y.s 0))))),ii 0]) else none else none
def e15_in (q:YF) (a:D33) (b:Int) (k0:Int→Int→OS):OS:=yC q 9 [ag (e33 a)] fun y=>bif !eqI (y.i 0) 0 then some (S.tup [ss (bs []),ii (y.i 0)]) else bif ltI b 1 then some (S.tup [ss (bs []),ii 1]) else bif gtI b 16 then some (S.tup [ss (bs []),ii 1]) else k0 0 0
structure X15 where
 x0:Int→Int→OS
 x1:Int→Int→OS
def D15_0 (X:X15):Int→Int→OS:=fun v0 v1=>X.x0 v0 v1
def D15_1 (X:X15):Int→Int→OS:=fun v0 v1=>X.x1 v0 v1
def X15s (q:YF) (a:D33) (b:Int) (X:X15):X15:=⟨fun v0 v1=>b15_0 q a b (D15_0 X) (D15_1 X) v0 v1,
 fun v0 v1=>b15_1 q a b (D15_1 X) v0 v1⟩
def X15n (q:YF) (a:D33) (b:Int):Nat→X15
 | 0=>⟨fun _ _=>none,fun _ _=>none⟩
 | n+1=>X15s q a b (X15n q a b n)
theorem l15_0 (q:YF) (a:D33) (b:Int) (kk:PK S):K15_0 a b (P15 q kk)=b15_0 q a b (K15_0 a b kk) (K15_1 a b kk):=by
 kernel_rfl
theorem l15_1 (q:YF) (a:D33) (b:Int) (kk:PK S):K15_1 a b (P15 q kk)=b15_1 q a b (K15_1 a b kk):=by
 kernel_rfl
theorem l15_in (q:YF) (a:D33) (b:Int) (kk:PK S):BG q kk 15 Tryz.f15 [ag (e33 a),ii b]=e15_in q a b (K15_0 a b kk):=by
 kernel_rfl
theorem h15 (q:YF) (a:D33) (b:Int):∀ n,K15_0 a b (H15 q n)=D15_0 (X15n q a b n)∧K15_1 a b (H15 q n)=D15_1 (X15n q a b n)
 | 0=>⟨rfl,rfl⟩
 | n+1=>by
  obtain ⟨h0,h1⟩:=h15 q a b n
  exact ⟨(l15_0 q a b (H15 q n)).trans (by rw [h0,h1];kernel_rfl),(l15_1 q a b (H15 q n)).trans (by rw [h1];kernel_rfl)⟩
theorem W15 (a:D33) (b:Int) (n:Nat) (x:S) (h:e15_in (regs O) a b (D15_0 (X15n (regs O) a b n))=some x):(W O).callT 15 [ag (e33 a),ii b]=some x:=by
 refine WG (fn:=Tryz.f15) (by kernel_rfl) (by kernel_rfl) (n:=n) ?_
 refine (l15_in (regs O) a b (H15 (regs O) n)).trans ?_
 obtain ⟨h0,h1⟩:=h15 (regs O) a b n
 rw [h0]
 exact h
abbrev P16 (q:YF) (kk:PK S):PK S:=PG q 16 Tryz.f16 kk
abbrev H16 (q:YF):Nat→PK S:=HG q 16 Tryz.f16
def s16_0 (a:D33) (b:Int) (v0 v1:Int):St:=mkSt [(28,S.t (T.rows 15 a.fClaims.n fun i=>e52 (a.fClaims.get i))),(2,S.ptr 0 0),(30,ii v0),(1,ii b),(29,ii (ofN a.fClaims.n)),(7,ii v1)] 1 [(0,B.box (List.map S.t (e33 a)))]
def K16_0 (a:D33) (b:Int) (kk:PK S):Int→Int→OS:=fun v0 v1=> kk 8 0 0 (s16_0 a b v0 v1)
def s16_1 (a:D33) (b:Int) (v0 v1:Int):St:=mkSt [(48,ii (ofN a.fInsts.n)),(1,ii b),(49,ii v1),(7,ii v0),(47,S.t (T.rows 7 a.fInsts.n fun i=>e91 (a.fInsts.get i)))] 0 []
def K16_1 (a:D33) (b:Int) (kk:PK S):Int→Int→OS:=fun v0 v1=> kk 15 0 0 (s16_1 a b v0 v1)
def b16_0 (q:YF) (a:D33) (b:Int) (k0:Int→Int→OS) (k1:Int→Int→OS) (v0 v1:Int):OS:=bif ltI v0 (ofN a.fClaims.n) then elemO v0 a.fClaims.n fun h=>yC q 46 [ss (a.fClaims.get (Fin.mk v0.toNat h)).fName] fun y=>bif strEq (y.s 1) (bs []) then k0 (addI .i64 v0 1) (Bool.rec ((fun _=>v1) ()) ((fun _=>y.i 0) ()) (decide (y.i 0 > v1))) else k0 (addI .i64 v0 1) v1 else k1 v1 0
def b16_1 (q:YF) (a:D33) (b:Int) (k1:Int→Int→OS) (v0 v1:Int):OS:=bif ltI v1 (ofN a.fInsts.n) then elemO v1 a.fInsts.n fun h=>yC q 46 [ss (a.fInsts.get (Fin.mk v1.toNat h)).fToken] fun y=>bif gtI (sizeS (y.s 1)) 0 then byteO 0 (y.s 1) fun c=>bif eqI c 47 then k1 (Bool.rec ((fun _=>v0) ()) ((fun _=>y.i 0) ()) (decide (y.i 0 > v0))) (addI .i64 v1 1) else k1 v0 (addI .i64 v1 1) else k1 v0 (addI .i64 v1 1) else bif gtI (addI .i64 v0 b) 9999 then some (S.tup [ss (bs []),ii 3]) else yC q 47 [ii (addI .i64 10000 (addI .i64 v0 b))] fun y=>bif leI 1 (sizeS (y.s 0)) && leI (sizeS (y.s 0)) (sizeS (y.s 0)) then bif fitS (bs [99]) (extS (y.s 0) 1 (toN (sizeS (y.s 0)))) then some (S.tup [ss (catS (bs [99]) (extS (y.s 0) 1 (toN (sizeS (y.s 0))))),ii 0]) else none else none
def e16_in (q:YF) (a:D33) (b:Int) (k0:Int→Int→OS):OS:=yC q 10 [ag (e33 a)] fun y=>bif !eqI (y.i 0) 0 then some (S.tup [ss (bs []),ii (y.i 0)]) else bif ltI b 1 then some (S.tup [ss (bs []),ii 1]) else bif gtI b 16 then some (S.tup [ss (bs []),ii 1]) else k0 0 0
structure X16 where
 x0:Int→Int→OS
 x1:Int→Int→OS
def D16_0 (X:X16):Int→Int→OS:=fun v0 v1=>X.x0 v0 v1
def D16_1 (X:X16):Int→Int→OS:=fun v0 v1=>X.x1 v0 v1
def X16s (q:YF) (a:D33) (b:Int) (X:X16):X16:=⟨fun v0 v1=>b16_0 q a b (D16_0 X) (D16_1 X) v0 v1,
 fun v0 v1=>b16_1 q a b (D16_1 X) v0 v1⟩
def X16n (q:YF) (a:D33) (b:Int):Nat→X16
 | 0=>⟨fun _ _=>none,fun _ _=>none⟩
 | n+1=>X16s q a b (X16n q a b n)
theorem l16_0 (q:YF) (a:D33) (b:Int) (kk:PK S):K16_0 a b (P16 q kk)=b16_0 q a b (K16_0 a b kk) (K16_1 a b kk):=by
 kernel_rfl
theorem l16_1 (q:YF) (a:D33) (b:Int) (kk:PK S):K16_1 a b (P16 q kk)=b16_1 q a b (K16_1 a b kk):=by
 kernel_rfl
theorem l16_in (q:YF) (a:D33) (b:Int) (kk:PK S):BG q kk 16 Tryz.f16 [ag (e33 a),ii b]=e16_in q a b (K16_0 a b kk):=by
 kernel_rfl
theorem h16 (q:YF) (a:D33) (b:Int):∀ n,K16_0 a b (H16 q n)=D16_0 (X16n q a b n)∧K16_1 a b (H16 q n)=D16_1 (X16n q a b n)
 | 0=>⟨rfl,rfl⟩
 | n+1=>by
  obtain ⟨h0,h1⟩:=h16 q a b n
  exact ⟨(l16_0 q a b (H16 q n)).trans (by rw [h0,h1];kernel_rfl),(l16_1 q a b (H16 q n)).trans (by rw [h1];kernel_rfl)⟩
theorem W16 (a:D33) (b:Int) (n:Nat) (x:S) (h:e16_in (regs O) a b (D16_0 (X16n (regs O) a b n))=some x):(W O).callT 16 [ag (e33 a),ii b]=some x:=by
 refine WG (fn:=Tryz.f16) (by kernel_rfl) (by kernel_rfl) (n:=n) ?_
 refine (l16_in (regs O) a b (H16 (regs O) n)).trans ?_
 obtain ⟨h0,h1⟩:=h16 (regs O) a b n
 rw [h0]
 exact h
end
end Go.Proofs.YtonkoellfaopiaaGreatDoor.H
