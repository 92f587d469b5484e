import Derived.Test.YtonkoellfaopiaaGreatDoorD8
import Derived.Test.YtonkoellfaopiaaGreatDoorProg
import Derived.Lib.ParseIntB
import Derived.Lib.ItoaNum
import Derived.Lib.Bytealg
import Derived.Lib.IndexMore
import Derived.Lib.QuoteBits
set_option linter.unusedSimpArgs false
set_option linter.unusedVariables false
set_option linter.unusedSectionVars false
namespace Go.Proofs.YtonkoellfaopiaaGreatDoor.H
open Go
abbrev dd {α:Type} [Inhabited α]:α:=default
abbrev BA:=ByteArray
abbrev OS:=Option S
abbrev ii (x:Int):S:=.t (.v (.int .i64 x))
abbrev bb (x:Bool):S:=.t (.v (.bool x))
abbrev ss (x:ByteArray):S:=.t (.v (.string x))
abbrev ti (x:Int):T:=.v (.int .i64 x)
abbrev tb (x:Bool):T:=.v (.bool x)
abbrev ts (x:ByteArray):T:=.v (.string x)
abbrev ag (l:List T):S:=.agg (l.map .t)
abbrev aJ (l:List (Nat × S)) (n:Nat) (h:List (Nat × B)):St:=⟨Tr.ofList l,⟨n,Tr.ofList h⟩⟩
instance:Inhabited S:=⟨.ud⟩
instance:Inhabited bN:=⟨⟨0,fun i=>i.elim0⟩⟩
structure Rw (α:Type) where
 n:Nat
 get:Fin n→α
instance {α:Type}:Inhabited (Rw α):=⟨⟨0,fun i=>i.elim0⟩⟩
structure ch where
 aZ:ByteArray
 cP:ByteArray
instance:Inhabited ch:=⟨⟨dd,dd⟩⟩
def dv (x:ch):List T:=[.v (.string x.aZ),.v (.string x.cP)]
structure bK where
 bj:ByteArray
 bn:ByteArray
 bG:Int
 CB:Bool
instance:Inhabited bK:=⟨⟨dd,dd,dd,dd⟩⟩
def cL (x:bK):List T:=[.v (.string x.bj),.v (.string x.bn),.v (.int .i64 x.bG),.v (.bool x.CB)]
structure aV where
 af:ByteArray
 a6:Int
 a8:Int
 cx:Int
 cv:Int
 aS:Rw ch
 aF:Rw bK
instance:Inhabited aV:=⟨⟨dd,dd,dd,dd,dd,dd,dd⟩⟩
def bk (x:aV):List T:=[.v (.string x.af),.v (.int .i64 x.a6),.v (.int .i64 x.a8),.v (.int .i64 x.cx),.v (.int .i64 x.cv),.rows 2 x.aS.n (fun i=>dv (x.aS.get i)),.rows 4 x.aF.n (fun i=>cL (x.aF.get i))]
def e9 (x:ByteArray):List T:=[.v (.string x)]
structure dC where
 aZ:ByteArray
 cz:Int
 aL:Rw ByteArray
 fN:Int
instance:Inhabited dC:=⟨⟨dd,dd,dd,dd⟩⟩
def eL (x:dC):List T:=[.v (.string x.aZ),.v (.int .i64 x.cz),.rows 1 x.aL.n (fun i=>e9 (x.aL.get i)),.v (.int .i64 x.fN)]
structure bT where
 aZ:ByteArray
 cP:ByteArray
 gL:Bool
instance:Inhabited bT:=⟨⟨dd,dd,dd⟩⟩
def cZ (x:bT):List T:=[.v (.string x.aZ),.v (.string x.cP),.v (.bool x.gL)]
structure D70 where
 aZ:ByteArray
 ef:ByteArray
 f_:Int
instance:Inhabited D70:=⟨⟨dd,dd,dd⟩⟩
def e70 (x:D70):List T:=[.v (.string x.aZ),.v (.string x.ef),.v (.int .i64 x.f_)]
structure ma where
 aZ:ByteArray
 ef:ByteArray
instance:Inhabited ma:=⟨⟨dd,dd⟩⟩
def iA (x:ma):List T:=[.v (.string x.aZ),.v (.string x.ef)]
structure fB where
 af:ByteArray
 ef:ByteArray
 dj:Int
 dk:Int
 iS:Int
 cg:Rw dC
 jN:Rw bT
 aD:Rw D70
 bR:Rw ma
 bA:Rw ma
 df:Int
 jI:ByteArray
instance:Inhabited fB:=⟨⟨dd,dd,dd,dd,dd,dd,dd,dd,dd,dd,dd,dd⟩⟩
def jv (x:fB):List T:=[.v (.string x.af),.v (.string x.ef),.v (.int .i64 x.dj),.v (.int .i64 x.dk),.v (.int .i64 x.iS),.rows 4 x.cg.n (fun i=>eL (x.cg.get i)),.rows 3 x.jN.n (fun i=>cZ (x.jN.get i)),.rows 3 x.aD.n (fun i=>e70 (x.aD.get i)),.rows 2 x.bR.n (fun i=>iA (x.bR.get i)),.rows 2 x.bA.n (fun i=>iA (x.bA.get i)),.v (.int .i64 x.df),.v (.string x.jI)]
structure fU where
 af:ByteArray
 bt:Int
 cY:Int
 c_:Int
 cg:Rw dC
 bW:Rw ch
 dB:Int
 iM:Int
 cC:Int
 cH:Int
instance:Inhabited fU:=⟨⟨dd,dd,dd,dd,dd,dd,dd,dd,dd,dd⟩⟩
def jd (x:fU):List T:=[.v (.string x.af),.v (.int .i64 x.bt),.v (.int .i64 x.cY),.v (.int .i64 x.c_),.rows 4 x.cg.n (fun i=>eL (x.cg.get i)),.rows 2 x.bW.n (fun i=>dv (x.bW.get i)),.v (.int .i64 x.dB),.v (.int .i64 x.iM),.v (.int .i64 x.cC),.v (.int .i64 x.cH)]
structure bu where
 fType:ByteArray
 bj:ByteArray
 bn:ByteArray
instance:Inhabited bu:=⟨⟨dd,dd,dd⟩⟩
def bS (x:bu):List T:=[.v (.string x.fType),.v (.string x.bj),.v (.string x.bn)]
structure cQ where
 af:ByteArray
 bc:ByteArray
 dB:Int
 al:ByteArray
 aj:ByteArray
 ak:ByteArray
 bG:Int
 a6:Int
 a8:Int
 bh:Rw bu
 dQ:Int
 eG:ByteArray
 bM:Int
 dD:Int
 dE:Bool
instance:Inhabited cQ:=⟨⟨dd,dd,dd,dd,dd,dd,dd,dd,dd,dd,dd,dd,dd,dd,dd⟩⟩
def dp (x:cQ):List T:=[.v (.string x.af),.v (.string x.bc),.v (.int .i64 x.dB),.v (.string x.al),.v (.string x.aj),.v (.string x.ak),.v (.int .i64 x.bG),.v (.int .i64 x.a6),.v (.int .i64 x.a8),.rows 3 x.bh.n (fun i=>bS (x.bh.get i)),.v (.int .i64 x.dQ),.v (.string x.eG),.v (.int .i64 x.bM),.v (.int .i64 x.dD),.v (.bool x.dE)]
structure cO where
 dI:Int
 aH:Rw ByteArray
 gn:Int
 dT:Int
 gA:ByteArray
 bc:ByteArray
 bh:Rw bu
 afp:Bool
instance:Inhabited cO:=⟨⟨dd,dd,dd,dd,dd,dd,dd,dd⟩⟩
def eN (x:cO):List T:=[.v (.int .i64 x.dI),.rows 1 x.aH.n (fun i=>e9 (x.aH.get i)),.v (.int .i64 x.gn),.v (.int .i64 x.dT),.v (.string x.gA),.v (.string x.bc),.rows 3 x.bh.n (fun i=>bS (x.bh.get i)),.v (.bool x.afp)]
structure vR where
 al:ByteArray
 aj:ByteArray
 ak:ByteArray
 dT:Int
instance:Inhabited vR:=⟨⟨dd,dd,dd,dd⟩⟩
def qB (x:vR):List T:=[.v (.string x.al),.v (.string x.aj),.v (.string x.ak),.v (.int .i64 x.dT)]
structure gO where
 eG:ByteArray
 cu:ByteArray
 al:ByteArray
 aj:ByteArray
 ak:ByteArray
 cX:Int
 fu:Int
instance:Inhabited gO:=⟨⟨dd,dd,dd,dd,dd,dd,dd⟩⟩
def kQ (x:gO):List T:=[.v (.string x.eG),.v (.string x.cu),.v (.string x.al),.v (.string x.aj),.v (.string x.ak),.v (.int .i64 x.cX),.v (.int .i64 x.fu)]
structure aP where
 fA:Int
 aX:Int
 aT:Int
 aQ:Int
 aO:Int
 aG:Int
 aw:Rw aV
 an:Rw fB
 aW:Rw fU
 ae:Rw cQ
 au:Rw cO
 ax:Rw vR
 ai:Rw gO
 eo:Rw ByteArray
instance:Inhabited aP:=⟨⟨dd,dd,dd,dd,dd,dd,dd,dd,dd,dd,dd,dd,dd,dd⟩⟩
def bI (x:aP):List T:=[.v (.int .i64 x.fA),.v (.int .i64 x.aX),.v (.int .i64 x.aT),.v (.int .i64 x.aQ),.v (.int .i64 x.aO),.v (.int .i64 x.aG),.rows 7 x.aw.n (fun i=>bk (x.aw.get i)),.rows 12 x.an.n (fun i=>jv (x.an.get i)),.rows 10 x.aW.n (fun i=>jd (x.aW.get i)),.rows 15 x.ae.n (fun i=>dp (x.ae.get i)),.rows 8 x.au.n (fun i=>eN (x.au.get i)),.rows 4 x.ax.n (fun i=>qB (x.ax.get i)),.rows 7 x.ai.n (fun i=>kQ (x.ai.get i)),.rows 1 x.eo.n (fun i=>e9 (x.eo.get i))]
structure gM where
 iO:ByteArray
 iP:ByteArray
 jF:Int
 eh:ByteArray
 d_:ByteArray
 ea:ByteArray
 gS:Int
 gY:Int
 gW:Int
 bw:Rw bu
 jM:Int
 kH:ByteArray
 gZ:Int
 iY:Int
 gl:Bool
 aS:Rw ch
 pZ:Int
 p6:Int
 pk:Int
 pd:Int
 an:Rw ByteArray
instance:Inhabited gM:=⟨⟨dd,dd,dd,dd,dd,dd,dd,dd,dd,dd,dd,dd,dd,dd,dd,dd,dd,dd,dd,dd,dd⟩⟩
def ql (x:gM):List T:=[.v (.string x.iO),.v (.string x.iP),.v (.int .i64 x.jF),.v (.string x.eh),.v (.string x.d_),.v (.string x.ea),.v (.int .i64 x.gS),.v (.int .i64 x.gY),.v (.int .i64 x.gW),.rows 3 x.bw.n (fun i=>bS (x.bw.get i)),.v (.int .i64 x.jM),.v (.string x.kH),.v (.int .i64 x.gZ),.v (.int .i64 x.iY),.v (.bool x.gl),.rows 2 x.aS.n (fun i=>dv (x.aS.get i)),.v (.int .i64 x.pZ),.v (.int .i64 x.p6),.v (.int .i64 x.pk),.v (.int .i64 x.pd),.rows 1 x.an.n (fun i=>e9 (x.an.get i))]
structure cr where
 fW:Int
 gK:Int
instance:Inhabited cr:=⟨⟨dd,dd⟩⟩
def ew (x:cr):List T:=[.v (.int .i64 x.fW),.v (.int .i64 x.gK)]
def e3 (x:Int):List T:=[.v (.int .i64 x)]
structure Mi where
 Wl:ByteArray
 Qs:Int
 Oo:Int
 MN:Int
 MC:Int
 ll:Rw ch
 xg:Rw bK
 Vp:ByteArray
 U_:ByteArray
 PT:Int
 Vq:Bool
instance:Inhabited Mi:=⟨⟨dd,dd,dd,dd,dd,dd,dd,dd,dd,dd,dd⟩⟩
def agn (x:Mi):List T:=[.v (.string x.Wl),.v (.int .i64 x.Qs),.v (.int .i64 x.Oo),.v (.int .i64 x.MN),.v (.int .i64 x.MC),.rows 2 x.ll.n (fun i=>dv (x.ll.get i)),.rows 4 x.xg.n (fun i=>cL (x.xg.get i)),.v (.string x.Vp),.v (.string x.U_),.v (.int .i64 x.PT),.v (.bool x.Vq)]
def e31 (x:Rw ByteArray):List T:=[.rows 1 x.n (fun i=>e9 (x.get i))]
def aaB:List (Nat × List Nat):=[(7,[1,1,0,1]),(8,[1,1,0,1]),(22,[1,1,1,1,1]),(23,[1,1,1,1,1]),(46,[2,2,2]),(47,[2,2,2]),
 (48,[1,1]),(49,[1,1]),(69,[2,2,1]),(70,[2,2,1]),(87,[2,2]),(88,[2,2]),(90,[2,2,2,2,2,1,1]),
 (91,[2,2,2,2,2,1,1]),(108,[2,2,1,0]),(109,[2,2,1,0]),(124,[2,2,2,1]),(125,[2,2,2,1]),
 (137,[2,2]),(138,[2,2]),(159,[2,2,0]),(160,[2,2,0])]
def look {α:Type}:List (Nat × α)→Nat→Option α
 | [],_=>none
 | (i,x)::r,t=>bif i.beq t then some x else look r t
def Yx:List (Nat × List (Nat × List Nat)):=[(4,[(9,[1,3,9]),(10,[3]),(11,[2])]),
 (6,[(4000008,[]),(4000013,[]),(3000004,[]),(3000015,[]),(3000018,[]),(3000026,[]),(3000036,[]),(21,[1,3,4,6,34,35,36]),(22,[1,3,4,6]),(23,[2]),(36,[1,3,4,6,8,9,10,34,35,36,42,43,44]),(37,[1,3,4,6,8,9,10,34,35,36]),(38,[2]),(72,[1,3,4,6,8,9,34,35,36,81]),(73,[1,3,4,6,34,35,36]),(74,[2]),(93,[1,3,4,6,112,113,114]),(94,[1,3,4,6]),(95,[2])]),
 (9,[(30,[1,90,91,92]),(31,[]),(32,[2])]),
 (10,[(30,[1,97,98,99]),(31,[1]),(32,[2]),(66,[1,130,131,132]),(67,[1]),(68,[2])]),
 (11,[(1000011,[85,33,3,61,10]),(2000018,[5,0,21]),(2000033,[8,21,1]),(33,[1,5,7,8,18,19,20,43]),(18,[1,5,18,19,20]),(19,[5]),(20,[2,3]),(57,[1,5,7,8,18,19,20,69]),(58,[1,5,8,18,19,20]),(59,[2,3])]),
 (14,[(3,[7,8,9]),(4,[]),(5,[]),(12,[3,7,8,9,15,16]),(13,[3,7,8,9]),(14,[]),(27,[3,7,8,9,26,27]),(28,[3,7,8,9]),(29,[]),(42,[3,7,8,9,39,40]),(43,[7,8,9]),(44,[])]),
 (15,[(24,[1,2,7,27,28,29]),(25,[1,2,7]),(26,[4,5]),(39,[1,7,40,41,42]),(40,[1,7]),(41,[4,5])]),
 (16,[(24,[1,2,7,28,29,30]),(25,[1,2,7]),(26,[4,5]),(45,[1,7,47,48,49]),(46,[1,7]),(47,[4,5])]),
 (17,[(6,[1,4,9,10,11]),(7,[4]),(8,[4,5])]),
 (19,[(9,[3,6,7,8]),(10,[3]),(11,[2])]),
 (20,[(9,[3,8,9,10]),(10,[3]),(11,[2]),(18,[3,5,6,8,9,10]),(19,[3,5,6,8,9,10]),(20,[2])]),
 (24,[(12,[0,9,10,11]),(13,[]),(14,[2])])]
def abK:List (Nat × List (Nat × List Nat)):=[(25,[(9,[3,8,9,10]),(10,[]),(11,[2])]),
 (26,[(9,[1,3,10,11,12]),(10,[]),(11,[2])]),
 (27,[(9,[1,3,8,9,10]),(10,[]),(11,[2])]),
 (28,[(6,[1,7,8,9]),(7,[]),(8,[2])]),
 (29,[(6,[1,6,7,8]),(7,[]),(8,[2])]),
 (30,[(9,[1,3,4,10,11,12]),(10,[]),(11,[2])]),
 (33,[(12,[0,3]),(13,[]),(14,[2]),(30,[0,3,5]),(31,[0,3]),(32,[2])]),
 (35,[(6,[1,11,12,13]),(7,[]),(8,[2])]),
 (36,[(51,[1,64,65,66]),(52,[1]),(53,[2])]),
 (37,[(6,[1,4,9,10,11]),(7,[4]),(8,[4,5])]),
 (38,[(6,[1,15,16,17]),(7,[1]),(8,[2]),(36,[1,50,51,52]),(37,[1]),(38,[2]),(66,[1,85,86,87]),(67,[]),(68,[2]),(81,[1,11,85,86,87,119,120,121]),(82,[1,11,85,86,87]),(83,[2])]),
 (42,[(4000010,[]),(4000014,[]),(5000031,[12]),(21,[9,12,13]),(22,[12]),(23,[8]),(30,[9,12,13,14]),(31,[9,12,13,14]),(32,[8])])]
def ace:List (Nat × List (Nat × List Nat)):=[(46,[(15,[0,4,5]),(16,[0,4]),(17,[2,3])]),
 (50,[(15,[1,2,26,27,28]),(16,[1,2]),(17,[2])]),
 (53,[(9,[3,6,7,8]),(10,[3]),(11,[2])]),
 (58,[(12,[1,15,16,17]),(13,[1]),(14,[2])]),
 (68,[(9,[1,3,38,39,40]),(10,[1,3]),(11,[2])]),
 (71,[(12,[0,3]),(13,[]),(14,[2])]),
 (73,[(12,[0,3]),(13,[]),(14,[2]),(39,[0,3,6]),(40,[0,3]),(41,[2])]),
 (76,[(6,[1,4,9,10,11]),(7,[4]),(8,[4,5])]),
 (77,[(6,[0,9,10,11]),(7,[]),(8,[4])]),
 (79,[(12,[0,3]),(13,[]),(14,[2]),(39,[0,3,6]),(40,[0,3]),(41,[2])]),
 (80,[(6,[5,6,7]),(7,[]),(8,[2])]),
 (81,[(24,[1,32,33,34]),(25,[1]),(26,[2])])]
def YJ:List (Nat × List (Nat × List Nat)):=[(83,[(15,[3,13,14,15]),(16,[3]),(17,[2]),(24,[3,5,13,14,15,20,21,22]),(25,[3,13,14,15]),(26,[2])]),
 (85,[(3,[0,2,7,8,9]),(4,[]),(5,[])]),
 (86,[(15,[0,3,4,5,8]),(16,[4,5]),(17,[4,5,6]),(24,[0,3,4,5,8,9]),(25,[0,3,4,5,8]),(26,[4,5,6])]),
 (97,[(6,[0,1,2,6,7,8]),(7,[0,1,2,6,7]),(8,[]),(21,[0,1,2,6]),(22,[]),(23,[]),(27,[0,1,2,6,7,8]),(28,[0,1,2,6,7]),(29,[])]),
 (101,[(6,[0,7,8,9]),(7,[0]),(8,[2])]),
 (102,[(6,[6,7]),(7,[]),(8,[2])]),
 (104,[(12,[0,8,9,10]),(13,[]),(14,[2])]),
 (105,[(12,[0,9,10,11]),(13,[]),(14,[2])]),
 (106,[(6,[0,1,7,8]),(7,[]),(8,[4])]),
 (107,[(6,[5,6,7]),(7,[]),(8,[2])]),
 (111,[(12,[0,8,9,10]),(13,[]),(14,[2])]),
 (114,[(12,[0,9,10,11]),(13,[]),(14,[2])])]
def aaa:List (Nat × List (Nat × List Nat)):=[(115,[(21,[2,3,4,21]),(22,[2,4]),(23,[4,5])]),
 (120,[(12,[0,8,9,10]),(13,[]),(14,[2])]),
 (121,[(12,[1,23,24,25]),(13,[1]),(14,[2]),(33,[53,54,55]),(34,[]),(35,[2]),(42,[53,54,55,59,60,61]),(43,[53,54,55]),(44,[2])]),
 (126,[(12,[0,3]),(13,[]),(14,[2]),(48,[0,3,7]),(49,[0,3]),(50,[2])]),
 (127,[(12,[0,3]),(13,[]),(14,[2]),(42,[0,3,7]),(43,[0,3]),(44,[2])]),
 (128,[(6,[0,3]),(7,[]),(8,[2])]),
 (131,[(12,[0,10,11,12]),(13,[]),(14,[2]),(27,[0,4,10,11,12,22,23,24]),(28,[0,10,11,12]),(29,[2])]),
 (136,[(108,[1,8,9,10,11,12,13,99,100,101]),(109,[9,12,13]),(110,[6,7])]),
 (138,[(45,[0,1,5,6,7,8,9,10]),(46,[]),(47,[4])]),
 (140,[(3,[0,1,2,3,8]),(4,[]),(5,[]),(12,[0,1,2,3,8,9]),(13,[0,1,2,3,8]),(14,[])]),
 (141,[(9,[0,1,4,10,11]),(10,[0,1,10]),(11,[]),(27,[0,10,13]),(28,[]),(29,[]),(45,[0,2,4,14,15]),(46,[0,2,14]),(47,[]),(63,[0,14,17]),(64,[]),(65,[]),(99,[0,1,2,3,4,18,19,20,21,22]),(100,[0,1,2,3,4,18,19,20]),(101,[])]),
 (144,[(6,[2,3,4,6]),(7,[2,4]),(8,[4])])]
def Zm:List (Nat × List (Nat × List Nat)):=[(153,[(15,[6,15,16,17]),(16,[6]),(17,[4,5])]),
 (156,[(6,[0,1,7,8]),(7,[]),(8,[4])]),
 (157,[(6,[0,1,7,8]),(7,[]),(8,[4])]),
 (160,[(6,[0,1,7,8]),(7,[]),(8,[4])]),
 (163,[(15,[0,4,5]),(16,[0,4]),(17,[2,3])]),
 (164,[(6,[0,1,2,3,4,10,11]),(7,[]),(8,[])]),
 (168,[(30,[0,3,4,5]),(31,[3]),(32,[2])]),
 (176,[(15,[0,1,5,6,7,8,9]),(16,[0,1,5,6,7,8]),(17,[4]),(33,[0,1,5,6,7,8,10]),(34,[]),(35,[4])]),
 (179,[(3,[0,1,4]),(4,[0,1,4]),(5,[])]),
 (180,[(33,[0,1,3,4,10,11,12,13,14,15,16]),(34,[0,1,3,4,10,11,12,13]),(35,[10,11]),(54,[0,1,3,4,10,11,12,13,17]),(55,[0,1,3,4,10,11,12,13]),(56,[10,11])]),
 (181,[(6,[0,2,4,10,11]),(7,[0,2,4,10]),(8,[])]),
 (182,[(6,[0,1,7,8]),(7,[]),(8,[4])])]
def Z5:List (Nat × List (Nat × List Nat)):=[(184,[(6,[0,1,7,8]),(7,[]),(8,[4])]),
 (185,[(6,[0,1,7,8]),(7,[]),(8,[4])]),
 (186,[(6,[0,1,7,8]),(7,[]),(8,[4])]),
 (188,[(6,[0,3,7,8]),(7,[]),(8,[4])]),
 (189,[(6,[0,3,7,8]),(7,[]),(8,[4])]),
 (190,[(33,[1,6]),(34,[1]),(35,[2]),(51,[1,8]),(52,[]),(53,[2])]),
 (191,[(9,[0,3,4]),(10,[3]),(11,[2])]),
 (192,[(3,[0,1,2,6]),(4,[0,1,2,6]),(5,[6,7]),(18,[0,1,2,6]),(19,[0,1,2,6]),(20,[6,7]),(39,[0,1,2,6,12,13]),(40,[0,1,6,12]),(41,[6,7]),(63,[1,6,12,16,17]),(64,[6,16]),(65,[6,7])]),
 (193,[(9,[0,3,4]),(10,[0,3]),(11,[2])]),
 (194,[(3,[0,1,2,3,8]),(4,[]),(5,[]),(12,[0,1,2,3,8,9]),(13,[0,1,2,3,8]),(14,[])]),
 (195,[(12,[0,3,8,9,10,11]),(13,[0,3,8,9,10]),(14,[]),(24,[0,3,8,9,12]),(25,[]),(26,[])]),
 (196,[(15,[0,1,8,9,10,11]),(16,[]),(17,[])])]
def ZP:List (Nat × List (Nat × List Nat)):=[(198,[(6,[0,8,9]),(7,[]),(8,[])]),
 (199,[(9,[0,1,2,3,9,10]),(10,[]),(11,[8]),(15,[0,1,2,3,9,10]),(16,[0,1,2,3,9,10]),(17,[8]),(42,[0,1,2,3,9,10,11]),(43,[0,1,2,3,9,10]),(44,[8]),(60,[0,1,2,3,9,10,12]),(61,[0,1,2,3,9,10]),(62,[8])]),
 (200,[(9,[0,1,4,11,12]),(10,[11]),(11,[10]),(9,[0,1,4,11,12]),(10,[0,1,4,11,12]),(11,[10]),(15,[0,1,4,11,12]),(16,[0,1,4,11,12]),(17,[10])]),
 (201,[(9,[0,1,4,12,13]),(10,[0,1,4,12,13]),(11,[10,11]),(15,[0,1,4,12,13]),(16,[0,1,4,12,13]),(17,[10,11]),(39,[0,1,4,12,13]),(40,[0,1,13]),(41,[10,11]),(39,[0,1,4,12,13]),(40,[0,1,4,12,13]),(41,[10,11]),(45,[0,1,4,12,13]),(46,[0,1,4,12,13]),(47,[10,11])]),
 (207,[(9,[0,4,5]),(10,[0,4]),(11,[2,3]),(24,[4,6,7,8]),(25,[4,6]),(26,[2,3])]),
 (212,[(3,[0,1,2,3,10]),(4,[]),(5,[])]),
 (217,[(9,[3,9,10,11]),(10,[3]),(11,[2]),(18,[3,9,10,11,15,16,17]),(19,[3,9,10,11]),(20,[2])]),
 (218,[(3,[0,1,2,6]),(4,[0,1,2,6]),(5,[6,7]),(9,[0,1,2,6]),(10,[0,1,2,6]),(11,[6,7]),(18,[0,1,2,6,37]),(19,[0,1,2,6]),(20,[6,7]),(45,[1,2,6,11,12]),(46,[6,11]),(47,[6,7])]),
 (219,[(6,[0,1,5]),(7,[]),(8,[4])]),
 (220,[(6,[0,1,5]),(7,[0,1,5]),(8,[4])]),
 (221,[(3,[0,2,3,4,10]),(4,[]),(5,[])]),
 (235,[(3,[0,5]),(4,[]),(5,[])])]
def ZV:List (Nat × List (Nat × List Nat)):=[(237,[(6,[0,1,2,3,8,9]),(7,[]),(8,[])]),
 (238,[(3,[0,1,2,6]),(4,[]),(5,[]),(12,[0,1,2,6,7]),(13,[0,1,2,6]),(14,[])]),
 (239,[(12,[0,6,7,8,9]),(13,[0,6,7,8]),(14,[]),(24,[0,6,7,10]),(25,[]),(26,[])]),
 (240,[(15,[0,1,6,7,8,9]),(16,[]),(17,[])]),
 (242,[(6,[0,6,7]),(7,[]),(8,[])]),
 (243,[(9,[0,1,2,7,8]),(10,[]),(11,[6]),(15,[0,1,2,7,8]),(16,[0,1,2,7,8]),(17,[6]),(42,[0,1,2,7,8,9]),(43,[0,1,2,7,8]),(44,[6]),(60,[0,1,2,7,8,10]),(61,[0,1,2,7,8]),(62,[6])]),
 (245,[(9,[0,1,9,10]),(10,[9]),(11,[8]),(9,[0,1,9,10]),(10,[0,1,9,10]),(11,[8]),(15,[0,1,9,10]),(16,[0,1,9,10]),(17,[8])]),
 (246,[(9,[0,1,10,11]),(10,[0,1,10,11]),(11,[8,9]),(15,[0,1,10,11]),(16,[0,1,10,11]),(17,[8,9]),(39,[0,1,10,11]),(40,[0,1,11]),(41,[8,9]),(39,[0,1,10,11]),(40,[0,1,10,11]),(41,[8,9]),(45,[0,1,10,11]),(46,[0,1,10,11]),(47,[8,9])]),
 (247,[(3,[0,2,3,8]),(4,[]),(5,[])])]
def acD:List (Nat × List (Nat × List Nat)):=[(2000133,[(0,[])]),(12,[(2000018,[5,0,21]),(2000030,[8,21,1]),(18,[1,5,19,20,21]),(19,[5]),(20,[2,3]),(30,[1,5,7,8,19,20,21,37,38,39]),(31,[1,5,7,8,19,20,21]),(32,[2,3]),(45,[1,5,7,8,10,19,20,21,37,38,39,55]),(46,[1,5,7,8,19,20,21,37,38,39]),(47,[2,3]),(63,[1,5,7,8,19,20,21,73]),(64,[1,5,8,19,20,21]),(65,[2,3])]),
 (13,[(3000008,[]),(12,[0,1,17,18]),(13,[]),(14,[4]),(33,[0,1,6,7,17,18,171,172]),(34,[0,1,6,7,17,18]),(35,[4]),(51,[0,1,6,7,17,18,189,190]),(52,[0,1,6,7,17,18]),(53,[4]),(69,[0,1,6,7,17,18,208,209]),(70,[0,1,17,18]),(71,[4])]),
 (7,[(24,[0,3,4,5,6,44,45]),(25,[0,3,4,5]),(26,[2]),(42,[0,3,4,5,126,127]),(43,[0,3,5]),(44,[2]),(51,[0,3,4,5,8,126,127,135,136]),(52,[0,3,4,5,8,126,127]),(53,[2]),(60,[0,3,4,5,8,9,126,127,135,136,148,149]),(61,[0,3,4,5,8,126,127,135,136]),(62,[2]),(78,[0,3,4,5,8,126,127,173,174]),(79,[0,3,4,5,126,127]),(80,[2]),(99,[3,5,12,194,195]),(100,[3]),(101,[2]),(108,[3,5,12,13,194,195,203,204]),(109,[3,5,12,13,194,195]),(110,[2]),(126,[3,5,12,13,194,195,230,231]),(127,[3,5,12,194,195]),(128,[2]),(135,[3,5,12,13,15,194,195,230,231,243,244]),(136,[3,5,12,13,194,195,230,231]),(137,[2])])]
def DH:List (Nat × List (Nat × List Nat)):=Yx++abK++ace++YJ++aaa++Zm++Z5++ZP++ZV++acD
abbrev fT:Fin 0→List T:=fun i=>i.elim0
def uh (l:List Nat) (f:Nat):Bool:=l.any fun x=>x.beq f
def rY (a:ByteArray) (j:Nat):Int:=if h:j < aM a then fq a ⟨j,h⟩ else 0
def Ea (c:Int) (first:Bool):Bool:=(cT c 97 && bp c 122) || (!first && (aR c 46 || aR c 45 || (cT c 48 && bp c 57)))
def ba (a:ByteArray):Bool:=!decide (aM a=0) && (decide (aM a≤16) && (List.range (aM a)).all fun j=>Ea (rY a j) (decide (j=0)))
def kW (s:ByteArray):Option Int:=match Lib.parseIntB 64 s.data.toList with
 | .ok n=>if -2147483648≤n∧n≤2147483648∧Lib.itoa n=s.data.toList then some n else none
 | _=>none
def jr (s:ByteArray):Bool:=(kW s).isSome || ba s
def vV (a b:ByteArray):Int:=Lib.compareBytes a.data.toList b.data.toList
def lI (n:Int):ByteArray:=⟨(Lib.itoa n).toArray⟩
def F56:List S→Option S
 | [.t (.v (.string a)),.t (.v (.string b))]=>some (ii (vV a b))
 | _=>none
def V7:List S→Option S
 | [.t (.v (.string s))]=>bif s.size.ble 281474976710656 then some (.bJ [ii ((kW s).getD 0),bb (kW s).isSome]) else none
 | _=>none
def W0:List S→Option S
 | [.t (.v (.int .i64 n)),.t (.v (.int .i64 10))]=>bif decide (-9223372036854775808≤n) && decide (n≤9223372036854775807) then some (ss (lI n)) else none
 | _=>none
def ru:List (S × S)→Option (List ByteArray)
 | []=>some []
 | (.t (.v (.string k)),.t (.v (.bool _)))::r=>(ru r).map (k::·)
 | _=>none
def dG:List ByteArray→Bool
 | []=>true
 | k::r=>!r.any (ah k) && dG r
def gu (ks:List ByteArray):List (List UInt8):=(ks.map fun k=>k.data.toList).mergeSort fun x y=>decide (x≤y)
def qh (l:List (List UInt8)):S:=.t (.rows 1 l.length fun i=>[.v (.string ⟨(l[i.1]'i.2).toArray⟩)])
def UG:List S→Option S
 | [.mt es]=>match ru es with
  | some ks=>bif dG ks && ks.all (fun k=>k.size.ble 281474976710656) && es.length.ble 1048576 then some (qh (gu ks)) else none
  | none=>none
 | _=>none
def F44:List S→Option S
 | [.t (.v (.string s)),.t (.v (.string p))]=>match p.data.toList with
  | [_]=>bif s.size.ble 281474976710656 then some (.bJ [ss ⟨(Lib.cut s.data.toList p.data.toList).1.toArray⟩,ss ⟨(Lib.cut s.data.toList p.data.toList).2.1.toArray⟩,bb (Lib.cut s.data.toList p.data.toList).2.2]) else none
  | _=>none
 | _=>none
def F45:List S→Option S
 | [.t (.v (.int .i64 n))]=>bif decide (-9223372036854775808≤n) && decide (n≤9223372036854775807) then some (ss (lI n)) else none
 | _=>none
def Wo (s:ByteArray):Int:=bif Lib.hasPrefix s.data.toList [99] && (Lib.trimPrefix s.data.toList [99]).length.beq 4 then (match Lib.parseUintM 65535 0 (Lib.trimPrefix s.data.toList [99]) with | .ok n=>IntKind.i64.wrap (n:Int) | _=>0) else 0
def F43:List S→Option S
 | [.t (.v (.string s))]=>bif s.size.ble 281474976710656 then some (ii (Wo s)) else none
 | _=>none
def Bx:List T→Option (ByteArray × ByteArray)
 | [.v (.string k),.v (.string v)]=>some (k,v)
 | _=>none
def yY:List (List T)→Option (List (ByteArray × ByteArray))
 | []=>some []
 | c::r=>match Bx c,yY r with
  | some x,some l=>some (x::l)
  | _,_=>none
def fp (x:ByteArray × ByteArray):List (ByteArray × ByteArray)→List (ByteArray × ByteArray)
 | []=>[x]
 | y::r=>bif strLt x.1 y.1 then x::y::r else y::fp x r
def fG:List (ByteArray × ByteArray)→List (ByteArray × ByteArray)
 | []=>[]
 | x::r=>fp x (fG r)
def qM (l:List (ByteArray × ByteArray)):S:=.t (.rows 2 l.length fun i=>[.v (.string (l[i.1]'i.2).1),.v (.string (l[i.1]'i.2).2)])
def WH:List S→Option S
 | [.t (.rows 2 n g),.t (.v (.func (.func f) a b))]=>bif f.beq 134 && (a.size.beq 0 && b.size.beq 0) && n.ble 1048576 then (match yY (kf n g) with
  | some l=>bif dG (l.map (·.1)) then some (qM (fG l)) else none
  | none=>none) else none
 | _=>none
def A3 (sz bz:Nat):List S→Option S
 | [.t (.rows z n g)]=>bif z.beq sz && (n*bz).ble 140737488355328 then some (.top z n g) else none
 | _=>none
def MH (f:Nat):Option (List S→Option S):=bif f.beq 56 then some F56 else bif f.beq 183 then some V7 else bif f.beq 214 then some W0 else bif f.beq 216 then some UG else bif f.beq 44 then some F44 else bif f.beq 45 then some F45 else bif f.beq 43 then some F43 else bif f.beq 40 then some (A3 3 48) else bif f.beq 2000133 then some WH else none
noncomputable def O:jl:=⟨Tryz.prog,look aaB,fun f=>f.blt 252 && !uh [0,1,142,174,206] f,fun f=>f.blt 252 && !uh [0,1,142,174,206] f,fun f=>f.beq 14 || f.beq 21 || f.beq 41 || f.beq 133,fun f key=>(look DH f).bind fun l=>look l key,(fun _=>none),MH⟩
def qG (f:Func):Code:=match f.body with | some c=>c | none=>.skip
theorem mK {α:Type}:∀ (l:List (Nat × α)) (t:Nat) (x:α),look l t=some x→(t,x)∈l
 | [],t,x,h=>by unfold look at h;cases h
 | (i,y)::r,t,x,h=>by
  unfold look at h
  cases e:i.beq t with
  | true=>
   rw [e,cond_true] at h
   obtain rfl:=Nat.eq_of_beq_eq_true e
   obtain rfl:=Option.some.inj h
   exact List.mem_cons_self
  | false=>rw [e,cond_false] at h;exact List.mem_cons_of_mem _ (mK r t x h)
theorem UT:(DH.all fun p=>!Nat.ble 2000000 p.1 || (MH p.1).isSome)=true:=by kernel_rfl
theorem agw:∀ g,(O.live (2000000+g) 0).isSome=true→(O.ext (2000000+g)).isSome=true:=fun g h=>by
 obtain ⟨x,hx⟩:=Option.isSome_iff_exists.1 h
 obtain ⟨l,h1,_⟩:=Option.bind_eq_some_iff.1 (show (look DH (2000000+g)).bind (fun l=>look l 0)=some x from hx)
 have:=List.all_eq_true.1 UT _ (mK _ _ _ h1)
 rw [Bool.or_eq_true,Bool.not_eq_true'] at this
 rcases this with h2 | h2
 ·have:Nat.ble 2000000 (2000000+g)=true:=by rw [Nat.ble_eq];omega
  rw [this] at h2;cases h2
 ·exact h2
theorem af1 {f:FuncId} {fn:Func} {c:Code} (hf:(W O).fn f=some fn) (hb:fn.body=some c) (hfns:O.fns f=true) (hext:O.ext f=none) (hn:ki ((jX c []).map (·.1))=true) {n:Nat} {args:List S} {x:S}
  (h:BJ (EY O (aa O)) (orc O.P (aa O)) (M7 (EY O (aa O)) (orc O.P (aa O)) f fn.ntmps true (jX c []) (AQ (EY O (aa O)) fn (Ad O.P f)) n) true f fn c args .empty (Ad O.P f)=some x):(W O).aE f args=some x:=YD agw hf hb hfns hext hn h
noncomputable abbrev PG (q:YF) (n:Nat) (f:Func) (kk:PK S):PK S:=ptP (EY O q) (orc O.P q) n f.ntmps true (jX (qG f) []) (AQ (EY O q) f (Ad O.P n)) kk
noncomputable abbrev HG (q:YF) (n:Nat) (f:Func):Nat→PK S:=M7 (EY O q) (orc O.P q) n f.ntmps true (jX (qG f) []) (AQ (EY O q) f (Ad O.P n))
noncomputable abbrev BG (q:YF) (kk:PK S) (n:Nat) (f:Func) (l:List S):Option S:=BJ (EY O q) (orc O.P q) kk true n f (qG f) l .empty (Ad O.P n)
theorem WG {f:Nat} {fn:Func} {n:Nat} {args:List S} {x:S} (hf:(W O).fn f=some fn) (hb:(fn.body.isSome && (O.fns f && ((O.ext f).isNone && ki ((jX (qG fn) []).map (·.1)))))=true) (h:BG (aa O) (HG (aa O) f fn n) f fn args=some x):(W O).aE f args=some x:=by
 rw [Bool.and_eq_true,Bool.and_eq_true,Bool.and_eq_true] at hb
 obtain ⟨h1,h2,h3,h4⟩:=hb
 refine af1 (c:=qG fn) hf ?_ h2 (Option.isNone_iff_eq_none.1 h3) h4 h
 unfold qG
 cases e:fn.body with
 | none=>rw [e] at h1;cases h1
 | some c=>rfl
def Ev {α:Type} (g:Nat→Option α) (v:α):Prop:=∃ N,∀ n,N≤n→g n=some v
theorem Ev.const {α:Type} (v:α):Ev (fun _=>some v) v:=⟨0,fun _ _=>rfl⟩
theorem Ev.succ {α:Type} {g:Nat→Option α} {v:α} (h:Ev (fun n=>g (n+1)) v):Ev g v:=by
 obtain ⟨N,h⟩:=h
 refine ⟨N+1,fun n hn=>?_⟩
 obtain ⟨m,rfl⟩:∃ m,n=m+1:=⟨n - 1,by omega⟩
 exact h m (by omega)
theorem Ev.get {α:Type} {g:Nat→Option α} {v:α} (h:Ev g v):∃ n,g n=some v:=by
 obtain ⟨N,h⟩:=h
 exact ⟨N,h N (Nat.le_refl N)⟩
theorem Ev.of_eq {α:Type} {g g':Nat→Option α} {v:α} (h:Ev g v) (e:∀ n,g' n=g n):Ev g' v:=by
 obtain ⟨N,h⟩:=h
 exact ⟨N,fun n hn=>(e n).trans (h n hn)⟩
theorem Ev.loop {ρ:Type} {X:Nat→Int→Option ρ} (n:Nat) (g:Nat→Option ρ) (r:ρ) (step:∀ j,j < n→(∀ e,g j=some e→Ev (fun m=>X m (j:Int)) e)∧(g j=none→∀ v,Ev (fun m=>X m ((j+1:Nat):Int)) v→Ev (fun m=>X m (j:Int)) v))
  (stop:Ev (fun m=>X m (n:Int)) r):∀ k j,j+k=n→Ev (fun m=>X m (j:Int)) (((List.range' j k).findSome? g).getD r)
 | 0,j,hj=>by
  obtain rfl:j=n:=by omega
  exact stop
 | k+1,j,hj=>by
  obtain ⟨h1,h2⟩:=step j (by omega)
  cases hg:g j with
  | some e=>
   have:((List.range' j (k+1)).findSome? g).getD r=e:=by simp [List.range'_succ,hg]
   rw [this]
   exact h1 e hg
  | none=>
   have:((List.range' j (k+1)).findSome? g).getD r=((List.range' (j+1) k).findSome? g).getD r:=by simp [List.range'_succ,hg]
   rw [this]
   exact h2 hg _ (Ev.loop n g r step stop k (j+1) (by omega))
theorem Ev.XU {ρ:Type} {X:Nat→Int→Option ρ} (n:Nat) (g:Nat→Option ρ) (r:ρ) (step:∀ j,j < n→(∀ e,g j=some e→Ev (fun m=>X m (j:Int)) e)∧(g j=none→∀ v,Ev (fun m=>X m ((j+1:Nat):Int)) v→Ev (fun m=>X m (j:Int)) v))
  (stop:Ev (fun m=>X m (n:Int)) r):Ev (fun m=>X m (Int.ofNat 0)) (((List.range n).findSome? g).getD r):=by
 rw [List.range_eq_range']
 exact Ev.loop n g r step stop n 0 (by omega)
theorem Ev.add {α:Type} {g:Nat→Option α} {v:α} (c:Nat) (h:Ev (fun n=>g (n+c)) v):Ev g v:=by
 obtain ⟨N,h⟩:=h
 refine ⟨N+c,fun n hn=>?_⟩
 obtain ⟨m,rfl⟩:∃ m,n=m+c:=⟨n - c,by omega⟩
 exact h m (by omega)
theorem Ev.X6 {ρ:Type} {X:Nat→Int→Option ρ} (c n:Nat) (g:Nat→Option ρ) (r:ρ) (step:∀ m j,j < n→X (m+c) (j:Int)=(match g j with | some e=>some e | none=>X m ((j+1:Nat):Int)))
  (stop:∀ m,X (m+c) (n:Int)=some r):Ev (fun m=>X m (0:Int)) (((List.range n).findSome? g).getD r):=
 Ev.XU n g r (fun j hj=>⟨fun e he=>Ev.add c ⟨0,fun m _=>by show X (m+c) (j:Int)=some e;rw [step m j hj,he]⟩,fun hn v hv=>Ev.add c (hv.of_eq fun m=>by rw [step m j hj,hn])⟩) (Ev.add c ⟨0,fun m _=>stop m⟩)
theorem LK {ρ:Type} {n:Nat} {g:Nat→Option ρ} {r:ρ} (h:∀ j,j < n→g j=none):((List.range n).findSome? g).getD r=r:=by
 have:(List.range n).findSome? g=none:=List.findSome?_eq_none_iff.2 fun j hj=>h j (List.mem_range.1 hj)
 rw [this];rfl
theorem ua {ρ:Type} {n:Nat} {g:Nat→Option ρ} {p:Nat→Bool} {e r:ρ} (h:∀ j,g j=bif p j then none else some e):((List.range n).findSome? g).getD r=bif (List.range n).all p then r else e:=by
 cases ha:(List.range n).all p with
 | true=>
  rw [LK fun j hj=>by rw [h,List.all_eq_true.1 ha j (List.mem_range.2 hj)];rfl]
  rfl
 | false=>
  have:∃ j∈List.range n,p j=false:=by
   simpa using ha
  cases hf:(List.range n).findSome? g with
  | none=>
   obtain ⟨j,hj,hp⟩:=this
   have:=List.findSome?_eq_none_iff.1 hf j hj
   rw [h,hp] at this
   cases this
  | some x=>
   obtain ⟨j,hj⟩:=List.exists_of_findSome?_eq_some hf
   rw [h] at hj
   cases hp:p j with
   | true=>rw [hp] at hj;cases hj.2
   | false=>rw [hp] at hj;obtain rfl:=Option.some.inj hj.2;rfl
theorem wO {ρ:Type} {i:Int} {n:Nat} {K:i.toNat < n→Option ρ} (h0:0≤i) (h:i.toNat < n):aU i n K=K h:=by
 unfold aU
 rw [dif_pos ⟨h0,h⟩]
theorem av {ρ:Type} {j n:Nat} {K:(j:Int).toNat < n→Option ρ} (h:j < n):aU (j:Int) n K=K (by simpa using h):=wO (by omega) (by simpa using h)
theorem iQ {ρ:Type} {l m n:Nat} {K:l+m≤n→Option ρ} (h:l+m≤n):iE l m n K=K h:=by
 unfold iE
 rw [dif_pos h]
theorem Sz {j:Nat} (h:j < 2 ^ 62):a7 .i64 (j:Int) (Int.ofNat 1)=((j+1:Nat):Int):=by
 unfold a7
 have:((j:Int)+Int.ofNat 1)=((j+1:Nat):Int):=by simp
 rw [this]
 exact Go.Lib.wrap_i64_small _ (by omega)
theorem F5 {a:ByteArray} {j:Nat} {h:(j:Int).toNat < aM a}:fq a (Fin.mk (j:Int).toNat h)=rY a j:=by
 unfold rY
 rw [dif_pos (by simpa using h)]
 rfl
theorem nh {ρ:Type} {a:ByteArray} {j:Nat} {K:Int→Option ρ} (h:j < aM a):mP (j:Int) a K=K (rY a j):=by
 unfold mP rY
 have h':j < a.size:=h
 rw [dif_pos ⟨by omega,by simpa using h'⟩,dif_pos h]
 rfl
theorem dc {a b:ByteArray}:ah a b=true↔a=b:=by
 unfold ah
 rw [eU]
 exact ⟨fun h=>by cases a;cases b;simpa using h,fun h=>by rw [h];simp⟩
theorem Cf {a b:ByteArray}:ah a b=false↔a≠b:=by
 rw [← Bool.not_eq_true,dc]
theorem dz {a:ByteArray}:ah a (bs [])=decide (aM a=0):=by
 rw [Bool.eq_iff_iff,dc,decide_eq_true_eq]
 unfold aM bs
 constructor
 ·rintro rfl;rfl
 ·intro h
  cases a with
  | mk d=>
   have:d.size=0:=h
   obtain rfl:=Array.eq_empty_of_size_eq_zero this
   rfl
theorem aq {j n:Nat}:bm (j:Int) (ay n)=decide (j < n):=by
 unfold bm ay
 simp
abbrev ca (f:FuncId) (args:List S) (r:S):Prop:=(W O).aE f args=some r
theorem iR {f:FuncId} {args:List S} {sh:Sh} {y0:Y} (hs:wh O.P f=some sh) (h:ca f args (build y0 sh)):∃ y,build y sh=build y0 sh∧∀ (ρ:Type) (K:Y→Option ρ),yC (aa O) f args K=K y:=by
 obtain ⟨y,h1,h2⟩:=Mo hs h
 exact ⟨y,h2,fun ρ K=>by unfold yC;rw [h1];rfl⟩
def yI (x:Int):Y:=⟨fun _=>x,fun _=>false,fun _=>⟨#[]⟩,fun _=>⟨0,fun i=>i.elim0⟩,fun _=>[]⟩
def yB (x:Bool):Y:=⟨fun _=>0,fun _=>x,fun _=>⟨#[]⟩,fun _=>⟨0,fun i=>i.elim0⟩,fun _=>[]⟩
theorem aN {f:FuncId} {args:List S} {k:IntKind} {x:Int} (hs:wh O.P f=some (.int k 0)) (h:ca f args (.t (.v (.int k x)))):∃ y:Y,y.i 0=x∧∀ (ρ:Type) (K:Y→Option ρ),yC (aa O) f args K=K y:=by
 obtain ⟨y,h1,h2⟩:=iR (y0:=yI x) hs h
 refine ⟨y,?_,h2⟩
 simpa [build,yI] using h1
theorem aB {f:FuncId} {args:List S} {x:Bool} (hs:wh O.P f=some (.bool 0)) (h:ca f args (.t (.v (.bool x)))):∃ y:Y,y.b 0=x∧∀ (ρ:Type) (K:Y→Option ρ),yC (aa O) f args K=K y:=by
 obtain ⟨y,h1,h2⟩:=iR (y0:=yB x) hs h
 refine ⟨y,?_,h2⟩
 simpa [build,yB] using h1
theorem Ev.tR {ρ:Type} {X:Nat→Nat→Option ρ} (n:Nat) (g:Nat→Option ρ) (r:ρ) (step:∀ j,j < n→(∀ e,g j=some e→Ev (fun m=>X m j) e)∧(g j=none→∀ v,Ev (fun m=>X m (j+1)) v→Ev (fun m=>X m j) v))
  (stop:Ev (fun m=>X m n) r):Ev (fun m=>X m 0) (((List.range n).findSome? g).getD r):=by
 have:=Ev.XU (X:=fun m i=>X m i.toNat) n g r (fun j hj=>by simpa using step j hj) (by simpa using stop)
 simpa using this
def Rw.at {α:Type} [Inhabited α] (a:Rw α) (j:Nat):α:=if h:j < a.n then a.get ⟨j,h⟩ else default
theorem aK {α:Type} [Inhabited α] {a:Rw α} {j:Nat} {h:(j:Int).toNat < a.n}:a.get (Fin.mk (j:Int).toNat h)=a.at j:=by
 unfold Rw.at
 rw [dif_pos (by simpa using h)]
 congr 1
theorem get_at {α:Type} [Inhabited α] {a:Rw α} (i:Fin a.n):a.get i=a.at i.1:=by
 unfold Rw.at
 rw [dif_pos i.2]
def bg (n:Nat) (g:Nat→Int):Int:=((List.range n).findSome? fun j=>bif !(aR (g j) 0) then some (g j) else none).getD 0
theorem Mw {n:Nat} {g:Nat→Int}:((List.range n).findSome? fun j=>bif !(aR (g j) 0) then some (ii (g j)) else none).getD (ii 0)=ii (bg n g):=by
 unfold bg
 generalize List.range n=l
 induction l with
 | nil=>rfl
 | cons j l ih=>
  simp only [List.findSome?_cons]
  cases aR (g j) 0 with
  | false=>rfl
  | true=>exact ih
theorem Ev.rq {X:Nat→Nat→Option S} (n:Nat) (g:Nat→Int) (step:∀ j,j < n→(g j≠0→Ev (fun m=>X m j) (ii (g j)))∧(g j=0→∀ v,Ev (fun m=>X m (j+1)) v→Ev (fun m=>X m j) v))
  (stop:Ev (fun m=>X m n) (ii 0)):Ev (fun m=>X m 0) (ii (bg n g)):=by
 have:=Ev.tR (X:=X) n (fun j=>bif !(aR (g j) 0) then some (ii (g j)) else none) (ii 0) (fun j hj=>by
  obtain ⟨h1,h2⟩:=step j hj
  cases h:aR (g j) 0 with
  | true=>
   have hz:g j=0:=by unfold aR at h;simpa using h
   exact ⟨fun e he=>(by cases he),fun _ v hv=>h2 hz v hv⟩
  | false=>
   have hz:g j≠0:=by unfold aR at h;simpa using h
   exact ⟨fun e he=>(by obtain rfl:=Option.some.inj he;exact h1 hz),fun hn=>(by cases hn)⟩) stop
 rw [Mw] at this
 exact this
theorem Ev.jc {X:Nat→Nat→Option S} (c n:Nat) (g:Nat→Int) (step:∀ m j,j < n→X (m+c) j=bif !(aR (g j) 0) then some (ii (g j)) else X m (j+1)) (stop:∀ m,X (m+c) n=some (ii 0)):Ev (fun m=>X m 0) (ii (bg n g)):=
 Ev.rq n g (fun j hj=>⟨fun h=>Ev.add c ⟨0,fun m _=>by
  have:aR (g j) 0=false:=by unfold aR;simpa using h
  show X (m+c) j=some (ii (g j))
  rw [step m j hj,this];rfl⟩,fun h v hv=>Ev.add c (hv.of_eq fun m=>by
  have:aR (g j) 0=true:=by unfold aR;simpa using h
  rw [step m j hj,this];rfl)⟩) (Ev.add c ⟨0,fun m _=>stop m⟩)
theorem Uf {α:Type} (l:List α) (e:α→T):(fun i:Fin l.length=>List.take 1 (List.drop (i.1*1) (l.map e)))=fun i:Fin l.length=>[e (l[i.1]'i.2)]:=by
 funext i
 rw [Nat.mul_one,List.drop_eq_getElem_cons (by simp)]
 simp
def nK {α:Type} (l:List α):Rw α:=⟨l.length,fun i=>l[i.1]'i.2⟩
theorem acK {α:Type} [Inhabited α] {l:List α} {j:Nat}:(nK l).at j=l.getD j default:=by
 unfold Rw.at nK
 by_cases h:j < l.length
 ·simp [h]
 ·simp [h]
theorem pr {α:Type} [Inhabited α] {l:List α} {j:Nat} (h:j < l.length):(nK l).at j=l[j]:=by
 unfold Rw.at
 have h':j < (nK l).n:=h
 rw [dif_pos h']
 rfl
end Go.Proofs.YtonkoellfaopiaaGreatDoor.H
