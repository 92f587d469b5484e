import Derived.Test.YtonkoellfaopiaaGreatDoorX7
import Derived.Test.YtonkoellfaopiaaGreatDoorProg
import Derived.Lib.ParseIntB
import Derived.Lib.ItoaNum
import Derived.Lib.Bytealg
import Derived.Lib.IndexMore
import Derived.Lib.QuoteBits
set_option linter.unusedSimpArgs false
set_option linter.unusedVariables false
namespace Go.Proofs.YtonkoellfaopiaaGreatDoor.H
open Go
abbrev dd {α:Type} [Inhabited α]:α:=default
abbrev BA:=ByteArray
abbrev OS:=Option S
abbrev ii (x:Int):S:=.t (.v (.int .i64 x))
abbrev bb (x:Bool):S:=.t (.v (.bool x))
abbrev ss (x:ByteArray):S:=.t (.v (.string x))
abbrev ti (x:Int):T:=.v (.int .i64 x)
abbrev tb (x:Bool):T:=.v (.bool x)
abbrev ts (x:ByteArray):T:=.v (.string x)
abbrev ag (l:List T):S:=.agg (l.map .t)
abbrev mkSt (l:List (Nat × S)) (n:Nat) (h:List (Nat × B)):St:=⟨Tr.ofList l,⟨n,Tr.ofList h⟩⟩
instance:Inhabited S:=⟨.ud⟩
instance:Inhabited Rw0:=⟨⟨0,fun i=>i.elim0⟩⟩
structure Rw (α:Type) where
 n:Nat
 get:Fin n→α
instance {α:Type}:Inhabited (Rw α):=⟨⟨0,fun i=>i.elim0⟩⟩
structure D88 where
 fKey:ByteArray
 fVal:ByteArray
instance:Inhabited D88:=⟨⟨dd,dd⟩⟩
def e88 (x:D88):List T:=[.v (.string x.fKey),.v (.string x.fVal)]
structure D109 where
 fZone:ByteArray
 fKind:ByteArray
 fPrice:Int
 fOpen:Bool
instance:Inhabited D109:=⟨⟨dd,dd,dd,dd⟩⟩
def e109 (x:D109):List T:=[.v (.string x.fZone),.v (.string x.fKind),.v (.int .i64 x.fPrice),.v (.bool x.fOpen)]
structure D112 where
 fName:ByteArray
 fCap_0:Int
 fCap_1:Int
 fOver_0:Int
 fOver_1:Int
 fLabels:Rw D88
 fOffers:Rw D109
instance:Inhabited D112:=⟨⟨dd,dd,dd,dd,dd,dd,dd⟩⟩
def e112 (x:D112):List T:=[.v (.string x.fName),.v (.int .i64 x.fCap_0),.v (.int .i64 x.fCap_1),.v (.int .i64 x.fOver_0),.v (.int .i64 x.fOver_1),.rows 2 x.fLabels.n (fun i=>e88 (x.fLabels.get i)),.rows 4 x.fOffers.n (fun i=>e109 (x.fOffers.get i))]
def e9 (x:ByteArray):List T:=[.v (.string x)]
structure D68 where
 fKey:ByteArray
 fOp:Int
 fVals:Rw ByteArray
 fN:Int
instance:Inhabited D68:=⟨⟨dd,dd,dd,dd⟩⟩
def e68 (x:D68):List T:=[.v (.string x.fKey),.v (.int .i64 x.fOp),.rows 1 x.fVals.n (fun i=>e9 (x.fVals.get i)),.v (.int .i64 x.fN)]
structure D160 where
 fKey:ByteArray
 fVal:ByteArray
 fAny:Bool
instance:Inhabited D160:=⟨⟨dd,dd,dd⟩⟩
def e160 (x:D160):List T:=[.v (.string x.fKey),.v (.string x.fVal),.v (.bool x.fAny)]
structure D70 where
 fKey:ByteArray
 fApp:ByteArray
 fSkew:Int
instance:Inhabited D70:=⟨⟨dd,dd,dd⟩⟩
def e70 (x:D70):List T:=[.v (.string x.fKey),.v (.string x.fApp),.v (.int .i64 x.fSkew)]
structure D138 where
 fKey:ByteArray
 fApp:ByteArray
instance:Inhabited D138:=⟨⟨dd,dd⟩⟩
def e138 (x:D138):List T:=[.v (.string x.fKey),.v (.string x.fApp)]
structure D61 where
 fName:ByteArray
 fApp:ByteArray
 fNeed_0:Int
 fNeed_1:Int
 fPrio:Int
 fReqs:Rw D68
 fTols:Rw D160
 fSpread:Rw D70
 fNear:Rw D138
 fApart:Rw D138
 fSince:Int
 fOn:ByteArray
instance:Inhabited D61:=⟨⟨dd,dd,dd,dd,dd,dd,dd,dd,dd,dd,dd,dd⟩⟩
def e61 (x:D61):List T:=[.v (.string x.fName),.v (.string x.fApp),.v (.int .i64 x.fNeed_0),.v (.int .i64 x.fNeed_1),.v (.int .i64 x.fPrio),.rows 4 x.fReqs.n (fun i=>e68 (x.fReqs.get i)),.rows 3 x.fTols.n (fun i=>e160 (x.fTols.get i)),.rows 3 x.fSpread.n (fun i=>e70 (x.fSpread.get i)),.rows 2 x.fNear.n (fun i=>e138 (x.fNear.get i)),.rows 2 x.fApart.n (fun i=>e138 (x.fApart.get i)),.v (.int .i64 x.fSince),.v (.string x.fOn)]
structure D77 where
 fName:ByteArray
 fWeight:Int
 fLimit_0:Int
 fLimit_1:Int
 fReqs:Rw D68
 fTaints:Rw D88
 fGen:Int
 fExpire:Int
 fBudget:Int
 fMerge:Int
instance:Inhabited D77:=⟨⟨dd,dd,dd,dd,dd,dd,dd,dd,dd,dd⟩⟩
def e77 (x:D77):List T:=[.v (.string x.fName),.v (.int .i64 x.fWeight),.v (.int .i64 x.fLimit_0),.v (.int .i64 x.fLimit_1),.rows 4 x.fReqs.n (fun i=>e68 (x.fReqs.get i)),.rows 2 x.fTaints.n (fun i=>e88 (x.fTaints.get i)),.v (.int .i64 x.fGen),.v (.int .i64 x.fExpire),.v (.int .i64 x.fBudget),.v (.int .i64 x.fMerge)]
structure D47 where
 fType:ByteArray
 fZone:ByteArray
 fKind:ByteArray
instance:Inhabited D47:=⟨⟨dd,dd,dd⟩⟩
def e47 (x:D47):List T:=[.v (.string x.fType),.v (.string x.fZone),.v (.string x.fKind)]
structure D52 where
 fName:ByteArray
 fPool:ByteArray
 fGen:Int
 fOffer_Type:ByteArray
 fOffer_Zone:ByteArray
 fOffer_Kind:ByteArray
 fPrice:Int
 fCap_0:Int
 fCap_1:Int
 fOpts:Rw D47
 fTry:Int
 fId:ByteArray
 fPhase:Int
 fBorn:Int
 fMarked:Bool
instance:Inhabited D52:=⟨⟨dd,dd,dd,dd,dd,dd,dd,dd,dd,dd,dd,dd,dd,dd,dd⟩⟩
def e52 (x:D52):List T:=[.v (.string x.fName),.v (.string x.fPool),.v (.int .i64 x.fGen),.v (.string x.fOffer_Type),.v (.string x.fOffer_Zone),.v (.string x.fOffer_Kind),.v (.int .i64 x.fPrice),.v (.int .i64 x.fCap_0),.v (.int .i64 x.fCap_1),.rows 3 x.fOpts.n (fun i=>e47 (x.fOpts.get i)),.v (.int .i64 x.fTry),.v (.string x.fId),.v (.int .i64 x.fPhase),.v (.int .i64 x.fBorn),.v (.bool x.fMarked)]
structure D122 where
 fCause:Int
 fNodes:Rw ByteArray
 fStep:Int
 fUntil:Int
 fFresh:ByteArray
 fPool:ByteArray
 fOpts:Rw D47
 fMade:Bool
instance:Inhabited D122:=⟨⟨dd,dd,dd,dd,dd,dd,dd,dd⟩⟩
def e122 (x:D122):List T:=[.v (.int .i64 x.fCause),.rows 1 x.fNodes.n (fun i=>e9 (x.fNodes.get i)),.v (.int .i64 x.fStep),.v (.int .i64 x.fUntil),.v (.string x.fFresh),.v (.string x.fPool),.rows 3 x.fOpts.n (fun i=>e47 (x.fOpts.get i)),.v (.bool x.fMade)]
structure D125 where
 fOffer_Type:ByteArray
 fOffer_Zone:ByteArray
 fOffer_Kind:ByteArray
 fUntil:Int
instance:Inhabited D125:=⟨⟨dd,dd,dd,dd⟩⟩
def e125 (x:D125):List T:=[.v (.string x.fOffer_Type),.v (.string x.fOffer_Zone),.v (.string x.fOffer_Kind),.v (.int .i64 x.fUntil)]
structure D91 where
 fId:ByteArray
 fToken:ByteArray
 fOffer_Type:ByteArray
 fOffer_Zone:ByteArray
 fOffer_Kind:ByteArray
 fState:Int
 fReady:Int
instance:Inhabited D91:=⟨⟨dd,dd,dd,dd,dd,dd,dd⟩⟩
def e91 (x:D91):List T:=[.v (.string x.fId),.v (.string x.fToken),.v (.string x.fOffer_Type),.v (.string x.fOffer_Zone),.v (.string x.fOffer_Kind),.v (.int .i64 x.fState),.v (.int .i64 x.fReady)]
structure D33 where
 fNow:Int
 fConf_Idle:Int
 fConf_Most:Int
 fConf_Hold:Int
 fConf_Late:Int
 fConf_Cool:Int
 fTypes:Rw D112
 fPods:Rw D61
 fPools:Rw D77
 fClaims:Rw D52
 fCommands:Rw D122
 fCools:Rw D125
 fInsts:Rw D91
 fNotes:Rw ByteArray
instance:Inhabited D33:=⟨⟨dd,dd,dd,dd,dd,dd,dd,dd,dd,dd,dd,dd,dd,dd⟩⟩
def e33 (x:D33):List T:=[.v (.int .i64 x.fNow),.v (.int .i64 x.fConf_Idle),.v (.int .i64 x.fConf_Most),.v (.int .i64 x.fConf_Hold),.v (.int .i64 x.fConf_Late),.v (.int .i64 x.fConf_Cool),.rows 7 x.fTypes.n (fun i=>e112 (x.fTypes.get i)),.rows 12 x.fPods.n (fun i=>e61 (x.fPods.get i)),.rows 10 x.fPools.n (fun i=>e77 (x.fPools.get i)),.rows 15 x.fClaims.n (fun i=>e52 (x.fClaims.get i)),.rows 8 x.fCommands.n (fun i=>e122 (x.fCommands.get i)),.rows 4 x.fCools.n (fun i=>e125 (x.fCools.get i)),.rows 7 x.fInsts.n (fun i=>e91 (x.fInsts.get i)),.rows 1 x.fNotes.n (fun i=>e9 (x.fNotes.get i))]
structure D55 where
 fClaim_Name:ByteArray
 fClaim_Pool:ByteArray
 fClaim_Gen:Int
 fClaim_Offer_Type:ByteArray
 fClaim_Offer_Zone:ByteArray
 fClaim_Offer_Kind:ByteArray
 fClaim_Price:Int
 fClaim_Cap_0:Int
 fClaim_Cap_1:Int
 fClaim_Opts:Rw D47
 fClaim_Try:Int
 fClaim_Id:ByteArray
 fClaim_Phase:Int
 fClaim_Born:Int
 fClaim_Marked:Bool
 fLabels:Rw D88
 fUsed_0:Int
 fUsed_1:Int
 fFree_0:Int
 fFree_1:Int
 fPods:Rw ByteArray
instance:Inhabited D55:=⟨⟨dd,dd,dd,dd,dd,dd,dd,dd,dd,dd,dd,dd,dd,dd,dd,dd,dd,dd,dd,dd,dd⟩⟩
def e55 (x:D55):List T:=[.v (.string x.fClaim_Name),.v (.string x.fClaim_Pool),.v (.int .i64 x.fClaim_Gen),.v (.string x.fClaim_Offer_Type),.v (.string x.fClaim_Offer_Zone),.v (.string x.fClaim_Offer_Kind),.v (.int .i64 x.fClaim_Price),.v (.int .i64 x.fClaim_Cap_0),.v (.int .i64 x.fClaim_Cap_1),.rows 3 x.fClaim_Opts.n (fun i=>e47 (x.fClaim_Opts.get i)),.v (.int .i64 x.fClaim_Try),.v (.string x.fClaim_Id),.v (.int .i64 x.fClaim_Phase),.v (.int .i64 x.fClaim_Born),.v (.bool x.fClaim_Marked),.rows 2 x.fLabels.n (fun i=>e88 (x.fLabels.get i)),.v (.int .i64 x.fUsed_0),.v (.int .i64 x.fUsed_1),.v (.int .i64 x.fFree_0),.v (.int .i64 x.fFree_1),.rows 1 x.fPods.n (fun i=>e9 (x.fPods.get i))]
structure D49 where
 fa_0:Int
 fa_1:Int
instance:Inhabited D49:=⟨⟨dd,dd⟩⟩
def e49 (x:D49):List T:=[.v (.int .i64 x.fa_0),.v (.int .i64 x.fa_1)]
def e3 (x:Int):List T:=[.v (.int .i64 x)]
structure D141 where
 ft_Name:ByteArray
 ft_Cap_0:Int
 ft_Cap_1:Int
 ft_Over_0:Int
 ft_Over_1:Int
 ft_Labels:Rw D88
 ft_Offers:Rw D109
 fx_Zone:ByteArray
 fx_Kind:ByteArray
 fx_Price:Int
 fx_Open:Bool
instance:Inhabited D141:=⟨⟨dd,dd,dd,dd,dd,dd,dd,dd,dd,dd,dd⟩⟩
def e141 (x:D141):List T:=[.v (.string x.ft_Name),.v (.int .i64 x.ft_Cap_0),.v (.int .i64 x.ft_Cap_1),.v (.int .i64 x.ft_Over_0),.v (.int .i64 x.ft_Over_1),.rows 2 x.ft_Labels.n (fun i=>e88 (x.ft_Labels.get i)),.rows 4 x.ft_Offers.n (fun i=>e109 (x.ft_Offers.get i)),.v (.string x.fx_Zone),.v (.string x.fx_Kind),.v (.int .i64 x.fx_Price),.v (.bool x.fx_Open)]
def e31 (x:Rw ByteArray):List T:=[.rows 1 x.n (fun i=>e9 (x.get i))]
def kTab:List (Nat × List Nat):=[(7,[1,1,0,1]),(8,[1,1,0,1]),(22,[1,1,1,1,1]),(23,[1,1,1,1,1]),(46,[2,2,2]),(47,[2,2,2]),
 (48,[1,1]),(49,[1,1]),(69,[2,2,1]),(70,[2,2,1]),(87,[2,2]),(88,[2,2]),(90,[2,2,2,2,2,1,1]),
 (91,[2,2,2,2,2,1,1]),(108,[2,2,1,0]),(109,[2,2,1,0]),(124,[2,2,2,1]),(125,[2,2,2,1]),
 (137,[2,2]),(138,[2,2]),(159,[2,2,0]),(160,[2,2,0])]
def look {α:Type}:List (Nat × α)→Nat→Option α
 | [],_=>none
 | (i,x)::r,t=>bif i.beq t then some x else look r t
def liveT0:List (Nat × List (Nat × List Nat)):=[(4,[(9,[1,3,9]),(10,[3]),(11,[2])]),
 (6,[(4000008,[]),(4000013,[]),(3000004,[]),(3000015,[]),(3000018,[]),(3000026,[]),(3000036,[]),(21,[1,3,4,6,34,35,36]),(22,[1,3,4,6]),(23,[2]),(36,[1,3,4,6,8,9,10,34,35,36,42,43,44]),(37,[1,3,4,6,8,9,10,34,35,36]),(38,[2]),(72,[1,3,4,6,8,9,34,35,36,81]),(73,[1,3,4,6,34,35,36]),(74,[2]),(93,[1,3,4,6,112,113,114]),(94,[1,3,4,6]),(95,[2])]),
 (9,[(30,[1,90,91,92]),(31,[]),(32,[2])]),
 (10,[(30,[1,97,98,99]),(31,[1]),(32,[2]),(66,[1,130,131,132]),(67,[1]),(68,[2])]),
 (11,[(1000011,[85,33,3,61,10]),(2000018,[5,0,21]),(2000033,[8,21,1]),(33,[1,5,7,8,18,19,20,43]),(18,[1,5,18,19,20]),(19,[5]),(20,[2,3]),(57,[1,5,7,8,18,19,20,69]),(58,[1,5,8,18,19,20]),(59,[2,3])]),
 (14,[(3,[7,8,9]),(4,[]),(5,[]),(12,[3,7,8,9,15,16]),(13,[3,7,8,9]),(14,[]),(27,[3,7,8,9,26,27]),(28,[3,7,8,9]),(29,[]),(42,[3,7,8,9,39,40]),(43,[7,8,9]),(44,[])]),
 (15,[(24,[1,2,7,27,28,29]),(25,[1,2,7]),(26,[4,5]),(39,[1,7,40,41,42]),(40,[1,7]),(41,[4,5])]),
 (16,[(24,[1,2,7,28,29,30]),(25,[1,2,7]),(26,[4,5]),(45,[1,7,47,48,49]),(46,[1,7]),(47,[4,5])]),
 (17,[(6,[1,4,9,10,11]),(7,[4]),(8,[4,5])]),
 (19,[(9,[3,6,7,8]),(10,[3]),(11,[2])]),
 (20,[(9,[3,8,9,10]),(10,[3]),(11,[2]),(18,[3,5,6,8,9,10]),(19,[3,5,6,8,9,10]),(20,[2])]),
 (24,[(12,[0,9,10,11]),(13,[]),(14,[2])])]
def liveT1:List (Nat × List (Nat × List Nat)):=[(25,[(9,[3,8,9,10]),(10,[]),(11,[2])]),
 (26,[(9,[1,3,10,11,12]),(10,[]),(11,[2])]),
 (27,[(9,[1,3,8,9,10]),(10,[]),(11,[2])]),
 (28,[(6,[1,7,8,9]),(7,[]),(8,[2])]),
 (29,[(6,[1,6,7,8]),(7,[]),(8,[2])]),
 (30,[(9,[1,3,4,10,11,12]),(10,[]),(11,[2])]),
 (33,[(12,[0,3]),(13,[]),(14,[2]),(30,[0,3,5]),(31,[0,3]),(32,[2])]),
 (35,[(6,[1,11,12,13]),(7,[]),(8,[2])]),
 (36,[(51,[1,64,65,66]),(52,[1]),(53,[2])]),
 (37,[(6,[1,4,9,10,11]),(7,[4]),(8,[4,5])]),
 (38,[(6,[1,15,16,17]),(7,[1]),(8,[2]),(36,[1,50,51,52]),(37,[1]),(38,[2]),(66,[1,85,86,87]),(67,[]),(68,[2]),(81,[1,11,85,86,87,119,120,121]),(82,[1,11,85,86,87]),(83,[2])]),
 (42,[(21,[9,12,13]),(22,[12]),(23,[8]),(30,[9,12,13,14]),(31,[9,12,13,14]),(32,[8])])]
def liveT2:List (Nat × List (Nat × List Nat)):=[(46,[(15,[0,4,5]),(16,[0,4]),(17,[2,3])]),
 (50,[(15,[1,2,26,27,28]),(16,[1,2]),(17,[2])]),
 (53,[(9,[3,6,7,8]),(10,[3]),(11,[2])]),
 (58,[(12,[1,15,16,17]),(13,[1]),(14,[2])]),
 (68,[(9,[1,3,38,39,40]),(10,[1,3]),(11,[2])]),
 (71,[(12,[0,3]),(13,[]),(14,[2])]),
 (73,[(12,[0,3]),(13,[]),(14,[2]),(39,[0,3,6]),(40,[0,3]),(41,[2])]),
 (76,[(6,[1,4,9,10,11]),(7,[4]),(8,[4,5])]),
 (77,[(6,[0,9,10,11]),(7,[]),(8,[4])]),
 (79,[(12,[0,3]),(13,[]),(14,[2]),(39,[0,3,6]),(40,[0,3]),(41,[2])]),
 (80,[(6,[5,6,7]),(7,[]),(8,[2])]),
 (81,[(24,[1,32,33,34]),(25,[1]),(26,[2])])]
def liveT3:List (Nat × List (Nat × List Nat)):=[(83,[(15,[3,13,14,15]),(16,[3]),(17,[2]),(24,[3,5,13,14,15,20,21,22]),(25,[3,13,14,15]),(26,[2])]),
 (85,[(3,[0,2,7,8,9]),(4,[]),(5,[])]),
 (86,[(15,[0,3,4,5,8]),(16,[4,5]),(17,[4,5,6]),(24,[0,3,4,5,8,9]),(25,[0,3,4,5,8]),(26,[4,5,6])]),
 (97,[(6,[0,1,2,6,7,8]),(7,[0,1,2,6,7]),(8,[]),(21,[0,1,2,6]),(22,[]),(23,[]),(27,[0,1,2,6,7,8]),(28,[0,1,2,6,7]),(29,[])]),
 (101,[(6,[0,7,8,9]),(7,[0]),(8,[2])]),
 (102,[(6,[6,7]),(7,[]),(8,[2])]),
 (104,[(12,[0,8,9,10]),(13,[]),(14,[2])]),
 (105,[(12,[0,9,10,11]),(13,[]),(14,[2])]),
 (106,[(6,[0,1,7,8]),(7,[]),(8,[4])]),
 (107,[(6,[5,6,7]),(7,[]),(8,[2])]),
 (111,[(12,[0,8,9,10]),(13,[]),(14,[2])]),
 (114,[(12,[0,9,10,11]),(13,[]),(14,[2])])]
def liveT4:List (Nat × List (Nat × List Nat)):=[(115,[(21,[2,3,4,21]),(22,[2,4]),(23,[4,5])]),
 (120,[(12,[0,8,9,10]),(13,[]),(14,[2])]),
 (121,[(12,[1,23,24,25]),(13,[1]),(14,[2]),(33,[53,54,55]),(34,[]),(35,[2]),(42,[53,54,55,59,60,61]),(43,[53,54,55]),(44,[2])]),
 (126,[(12,[0,3]),(13,[]),(14,[2]),(48,[0,3,7]),(49,[0,3]),(50,[2])]),
 (127,[(12,[0,3]),(13,[]),(14,[2]),(42,[0,3,7]),(43,[0,3]),(44,[2])]),
 (128,[(6,[0,3]),(7,[]),(8,[2])]),
 (131,[(12,[0,10,11,12]),(13,[]),(14,[2]),(27,[0,4,10,11,12,22,23,24]),(28,[0,10,11,12]),(29,[2])]),
 (136,[(108,[1,8,9,10,11,12,13,99,100,101]),(109,[9,12,13]),(110,[6,7])]),
 (138,[(45,[0,1,5,6,7,8,9,10]),(46,[]),(47,[4])]),
 (140,[(3,[0,1,2,3,8]),(4,[]),(5,[]),(12,[0,1,2,3,8,9]),(13,[0,1,2,3,8]),(14,[])]),
 (141,[(9,[0,1,4,10,11]),(10,[0,1,10]),(11,[]),(27,[0,10,13]),(28,[]),(29,[]),(45,[0,2,4,14,15]),(46,[0,2,14]),(47,[]),(63,[0,14,17]),(64,[]),(65,[]),(99,[0,1,2,3,4,18,19,20,21,22]),(100,[0,1,2,3,4,18,19,20]),(101,[])]),
 (144,[(6,[2,3,4,6]),(7,[2,4]),(8,[4])])]
def liveT5:List (Nat × List (Nat × List Nat)):=[(153,[(15,[6,15,16,17]),(16,[6]),(17,[4,5])]),
 (156,[(6,[0,1,7,8]),(7,[]),(8,[4])]),
 (157,[(6,[0,1,7,8]),(7,[]),(8,[4])]),
 (160,[(6,[0,1,7,8]),(7,[]),(8,[4])]),
 (163,[(15,[0,4,5]),(16,[0,4]),(17,[2,3])]),
 (164,[(6,[0,1,2,3,4,10,11]),(7,[]),(8,[])]),
 (168,[(30,[0,3,4,5]),(31,[3]),(32,[2])]),
 (176,[(15,[0,1,5,6,7,8,9]),(16,[0,1,5,6,7,8]),(17,[4]),(33,[0,1,5,6,7,8,10]),(34,[]),(35,[4])]),
 (179,[(3,[0,1,4]),(4,[0,1,4]),(5,[])]),
 (180,[(33,[0,1,3,4,10,11,12,13,14,15,16]),(34,[0,1,3,4,10,11,12,13]),(35,[10,11]),(54,[0,1,3,4,10,11,12,13,17]),(55,[0,1,3,4,10,11,12,13]),(56,[10,11])]),
 (181,[(6,[0,2,4,10,11]),(7,[0,2,4,10]),(8,[])]),
 (182,[(6,[0,1,7,8]),(7,[]),(8,[4])])]
def liveT6:List (Nat × List (Nat × List Nat)):=[(184,[(6,[0,1,7,8]),(7,[]),(8,[4])]),
 (185,[(6,[0,1,7,8]),(7,[]),(8,[4])]),
 (186,[(6,[0,1,7,8]),(7,[]),(8,[4])]),
 (188,[(6,[0,3,7,8]),(7,[]),(8,[4])]),
 (189,[(6,[0,3,7,8]),(7,[]),(8,[4])]),
 (190,[(33,[1,6]),(34,[1]),(35,[2]),(51,[1,8]),(52,[]),(53,[2])]),
 (191,[(9,[0,3,4]),(10,[3]),(11,[2])]),
 (192,[(3,[0,1,2,6]),(4,[0,1,2,6]),(5,[6,7]),(18,[0,1,2,6]),(19,[0,1,2,6]),(20,[6,7]),(39,[0,1,2,6,12,13]),(40,[0,1,6,12]),(41,[6,7]),(63,[1,6,12,16,17]),(64,[6,16]),(65,[6,7])]),
 (193,[(9,[0,3,4]),(10,[0,3]),(11,[2])]),
 (194,[(3,[0,1,2,3,8]),(4,[]),(5,[]),(12,[0,1,2,3,8,9]),(13,[0,1,2,3,8]),(14,[])]),
 (195,[(12,[0,3,8,9,10,11]),(13,[0,3,8,9,10]),(14,[]),(24,[0,3,8,9,12]),(25,[]),(26,[])]),
 (196,[(15,[0,1,8,9,10,11]),(16,[]),(17,[])])]
def liveT7:List (Nat × List (Nat × List Nat)):=[(198,[(6,[0,8,9]),(7,[]),(8,[])]),
 (199,[(9,[0,1,2,3,9,10]),(10,[]),(11,[8]),(15,[0,1,2,3,9,10]),(16,[0,1,2,3,9,10]),(17,[8]),(42,[0,1,2,3,9,10,11]),(43,[0,1,2,3,9,10]),(44,[8]),(60,[0,1,2,3,9,10,12]),(61,[0,1,2,3,9,10]),(62,[8])]),
 (200,[(9,[0,1,4,11,12]),(10,[11]),(11,[10]),(9,[0,1,4,11,12]),(10,[0,1,4,11,12]),(11,[10]),(15,[0,1,4,11,12]),(16,[0,1,4,11,12]),(17,[10])]),
 (201,[(9,[0,1,4,12,13]),(10,[0,1,4,12,13]),(11,[10,11]),(15,[0,1,4,12,13]),(16,[0,1,4,12,13]),(17,[10,11]),(39,[0,1,4,12,13]),(40,[0,1,13]),(41,[10,11]),(39,[0,1,4,12,13]),(40,[0,1,4,12,13]),(41,[10,11]),(45,[0,1,4,12,13]),(46,[0,1,4,12,13]),(47,[10,11])]),
 (207,[(9,[0,4,5]),(10,[0,4]),(11,[2,3]),(24,[4,6,7,8]),(25,[4,6]),(26,[2,3])]),
 (212,[(3,[0,1,2,3,10]),(4,[]),(5,[])]),
 (217,[(9,[3,9,10,11]),(10,[3]),(11,[2]),(18,[3,9,10,11,15,16,17]),(19,[3,9,10,11]),(20,[2])]),
 (218,[(3,[0,1,2,6]),(4,[0,1,2,6]),(5,[6,7]),(9,[0,1,2,6]),(10,[0,1,2,6]),(11,[6,7]),(18,[0,1,2,6,37]),(19,[0,1,2,6]),(20,[6,7]),(45,[1,2,6,11,12]),(46,[6,11]),(47,[6,7])]),
 (219,[(6,[0,1,5]),(7,[]),(8,[4])]),
 (220,[(6,[0,1,5]),(7,[0,1,5]),(8,[4])]),
 (221,[(3,[0,2,3,4,10]),(4,[]),(5,[])]),
 (235,[(3,[0,5]),(4,[]),(5,[])])]
def liveT8:List (Nat × List (Nat × List Nat)):=[(237,[(6,[0,1,2,3,8,9]),(7,[]),(8,[])]),
 (238,[(3,[0,1,2,6]),(4,[]),(5,[]),(12,[0,1,2,6,7]),(13,[0,1,2,6]),(14,[])]),
 (239,[(12,[0,6,7,8,9]),(13,[0,6,7,8]),(14,[]),(24,[0,6,7,10]),(25,[]),(26,[])]),
 (240,[(15,[0,1,6,7,8,9]),(16,[]),(17,[])]),
 (242,[(6,[0,6,7]),(7,[]),(8,[])]),
 (243,[(9,[0,1,2,7,8]),(10,[]),(11,[6]),(15,[0,1,2,7,8]),(16,[0,1,2,7,8]),(17,[6]),(42,[0,1,2,7,8,9]),(43,[0,1,2,7,8]),(44,[6]),(60,[0,1,2,7,8,10]),(61,[0,1,2,7,8]),(62,[6])]),
 (245,[(9,[0,1,9,10]),(10,[9]),(11,[8]),(9,[0,1,9,10]),(10,[0,1,9,10]),(11,[8]),(15,[0,1,9,10]),(16,[0,1,9,10]),(17,[8])]),
 (246,[(9,[0,1,10,11]),(10,[0,1,10,11]),(11,[8,9]),(15,[0,1,10,11]),(16,[0,1,10,11]),(17,[8,9]),(39,[0,1,10,11]),(40,[0,1,11]),(41,[8,9]),(39,[0,1,10,11]),(40,[0,1,10,11]),(41,[8,9]),(45,[0,1,10,11]),(46,[0,1,10,11]),(47,[8,9])]),
 (247,[(3,[0,2,3,8]),(4,[]),(5,[])])]
def liveT9:List (Nat × List (Nat × List Nat)):=[(2000133,[(0,[])]),(12,[(2000018,[5,0,21]),(2000030,[8,21,1]),(18,[1,5,19,20,21]),(19,[5]),(20,[2,3]),(30,[1,5,7,8,19,20,21,37,38,39]),(31,[1,5,7,8,19,20,21]),(32,[2,3]),(45,[1,5,7,8,10,19,20,21,37,38,39,55]),(46,[1,5,7,8,19,20,21,37,38,39]),(47,[2,3]),(63,[1,5,7,8,19,20,21,73]),(64,[1,5,8,19,20,21]),(65,[2,3])]),
 (13,[(3000008,[]),(12,[0,1,17,18]),(13,[]),(14,[4]),(33,[0,1,6,7,17,18,171,172]),(34,[0,1,6,7,17,18]),(35,[4]),(51,[0,1,6,7,17,18,189,190]),(52,[0,1,6,7,17,18]),(53,[4]),(69,[0,1,6,7,17,18,208,209]),(70,[0,1,17,18]),(71,[4])]),
 (7,[(24,[0,3,4,5,6,44,45]),(25,[0,3,4,5]),(26,[2]),(42,[0,3,4,5,126,127]),(43,[0,3,5]),(44,[2]),(51,[0,3,4,5,8,126,127,135,136]),(52,[0,3,4,5,8,126,127]),(53,[2]),(60,[0,3,4,5,8,9,126,127,135,136,148,149]),(61,[0,3,4,5,8,126,127,135,136]),(62,[2]),(78,[0,3,4,5,8,126,127,173,174]),(79,[0,3,4,5,126,127]),(80,[2]),(99,[3,5,12,194,195]),(100,[3]),(101,[2]),(108,[3,5,12,13,194,195,203,204]),(109,[3,5,12,13,194,195]),(110,[2]),(126,[3,5,12,13,194,195,230,231]),(127,[3,5,12,194,195]),(128,[2]),(135,[3,5,12,13,15,194,195,230,231,243,244]),(136,[3,5,12,13,194,195,230,231]),(137,[2])])]
def liveT:List (Nat × List (Nat × List Nat)):=liveT0++liveT1++liveT2++liveT3++liveT4++liveT5++liveT6++liveT7++liveT8++liveT9
abbrev nil0:Fin 0→List T:=fun i=>i.elim0
def inList (l:List Nat) (f:Nat):Bool:=l.any fun x=>x.beq f
def chr (a:ByteArray) (j:Nat):Int:=if h:j < sizeN a then byteAt a ⟨j,h⟩ else 0
def okc (c:Int) (first:Bool):Bool:=(geI c 97 && leI c 122) || (!first && (eqI c 46 || eqI c 45 || (geI c 48 && leI c 57)))
def nameB (a:ByteArray):Bool:=!decide (sizeN a=0) && (decide (sizeN a≤16) && (List.range (sizeN a)).all fun j=>okc (chr a j) (decide (j=0)))
def numV (s:ByteArray):Option Int:=match Lib.parseIntB 64 s.data.toList with
 | .ok n=>if -2147483648≤n∧n≤2147483648∧Lib.itoa n=s.data.toList then some n else none
 | _=>none
def valB (s:ByteArray):Bool:=(numV s).isSome || nameB s
def cmpS (a b:ByteArray):Int:=Lib.compareBytes a.data.toList b.data.toList
def decS (n:Int):ByteArray:=⟨(Lib.itoa n).toArray⟩
def F56:List S→Option S
 | [.t (.v (.string a)),.t (.v (.string b))]=>some (ii (cmpS a b))
 | _=>none
def F183:List S→Option S
 | [.t (.v (.string s))]=>bif s.size.ble 281474976710656 then some (.tup [ii ((numV s).getD 0),bb (numV s).isSome]) else none
 | _=>none
def F214:List S→Option S
 | [.t (.v (.int .i64 n)),.t (.v (.int .i64 10))]=>bif decide (-9223372036854775808≤n) && decide (n≤9223372036854775807) then some (ss (decS n)) else none
 | _=>none
def keysE:List (S × S)→Option (List ByteArray)
 | []=>some []
 | (.t (.v (.string k)),.t (.v (.bool _)))::r=>(keysE r).map (k::·)
 | _=>none
def noTwice:List ByteArray→Bool
 | []=>true
 | k::r=>!r.any (strEq k) && noTwice r
def risingL (ks:List ByteArray):List (List UInt8):=(ks.map fun k=>k.data.toList).mergeSort fun x y=>decide (x≤y)
def rowTexts (l:List (List UInt8)):S:=.t (.rows 1 l.length fun i=>[.v (.string ⟨(l[i.1]'i.2).toArray⟩)])
def F216:List S→Option S
 | [.mt es]=>match keysE es with
  | some ks=>bif noTwice ks && ks.all (fun k=>k.size.ble 281474976710656) && es.length.ble 1048576 then some (rowTexts (risingL ks)) else none
  | none=>none
 | _=>none
def F44:List S→Option S
 | [.t (.v (.string s)),.t (.v (.string p))]=>match p.data.toList with
  | [_]=>bif s.size.ble 281474976710656 then some (.tup [ss ⟨(Lib.cut s.data.toList p.data.toList).1.toArray⟩,ss ⟨(Lib.cut s.data.toList p.data.toList).2.1.toArray⟩,bb (Lib.cut s.data.toList p.data.toList).2.2]) else none
  | _=>none
 | _=>none
def F45:List S→Option S
 | [.t (.v (.int .i64 n))]=>bif decide (-9223372036854775808≤n) && decide (n≤9223372036854775807) then some (ss (decS n)) else none
 | _=>none
def numC (s:ByteArray):Int:=bif Lib.hasPrefix s.data.toList [99] && (Lib.trimPrefix s.data.toList [99]).length.beq 4 then (match Lib.parseUintM 65535 0 (Lib.trimPrefix s.data.toList [99]) with | .ok n=>IntKind.i64.wrap (n:Int) | _=>0) else 0
def F43:List S→Option S
 | [.t (.v (.string s))]=>bif s.size.ble 281474976710656 then some (ii (numC s)) else none
 | _=>none
def labT:List T→Option (ByteArray × ByteArray)
 | [.v (.string k),.v (.string v)]=>some (k,v)
 | _=>none
def labL:List (List T)→Option (List (ByteArray × ByteArray))
 | []=>some []
 | c::r=>match labT c,labL r with
  | some x,some l=>some (x::l)
  | _,_=>none
def insL (x:ByteArray × ByteArray):List (ByteArray × ByteArray)→List (ByteArray × ByteArray)
 | []=>[x]
 | y::r=>bif strLt x.1 y.1 then x::y::r else y::insL x r
def sortL:List (ByteArray × ByteArray)→List (ByteArray × ByteArray)
 | []=>[]
 | x::r=>insL x (sortL r)
def rowLab (l:List (ByteArray × ByteArray)):S:=.t (.rows 2 l.length fun i=>[.v (.string (l[i.1]'i.2).1),.v (.string (l[i.1]'i.2).2)])
def F133:List S→Option S
 | [.t (.rows 2 n g),.t (.v (.func (.func f) a b))]=>bif f.beq 134 && (a.size.beq 0 && b.size.beq 0) && n.ble 1048576 then (match labL (listF n g) with
  | some l=>bif noTwice (l.map (·.1)) then some (rowLab (sortL l)) else none
  | none=>none) else none
 | _=>none
def cloneF (sz bz:Nat):List S→Option S
 | [.t (.rows z n g)]=>bif z.beq sz && (n*bz).ble 140737488355328 then some (.t (.rows z n g)) else none
 | _=>none
def extF (f:Nat):Option (List S→Option S):=bif f.beq 56 then some F56 else bif f.beq 183 then some F183 else bif f.beq 214 then some F214 else bif f.beq 216 then some F216 else bif f.beq 44 then some F44 else bif f.beq 45 then some F45 else bif f.beq 43 then some F43 else bif f.beq 40 then some (cloneF 3 48) else bif f.beq 2000133 then some F133 else none
noncomputable def O:Opts:=⟨Tryz.prog,look kTab,fun f=>f.blt 252 && !inList [0,1,142,174,206] f,fun f=>f.blt 252 && !inList [0,1,142,174,206] f,fun f=>f.beq 14 || f.beq 21 || f.beq 41 || f.beq 133,fun f key=>(look liveT f).bind fun l=>look l key,(fun _=>none),extF⟩
def codeOf (f:Func):Code:=match f.body with | some c=>c | none=>.skip
theorem look_mem {α:Type}:∀ (l:List (Nat × α)) (t:Nat) (x:α),look l t=some x→(t,x)∈l
 | [],t,x,h=>by unfold look at h;cases h
 | (i,y)::r,t,x,h=>by
  unfold look at h
  cases e:i.beq t with
  | true=>
   rw [e,cond_true] at h
   obtain rfl:=Nat.eq_of_beq_eq_true e
   obtain rfl:=Option.some.inj h
   exact List.mem_cons_self
  | false=>rw [e,cond_false] at h;exact List.mem_cons_of_mem _ (look_mem r t x h)
theorem inp_all:(liveT.all fun p=>!Nat.ble 2000000 p.1 || (extF p.1).isSome)=true:=by kernel_rfl
theorem O_inp:∀ g,(O.live (2000000+g) 0).isSome=true→(O.ext (2000000+g)).isSome=true:=fun g h=>by
 obtain ⟨x,hx⟩:=Option.isSome_iff_exists.1 h
 obtain ⟨l,h1,_⟩:=Option.bind_eq_some_iff.1 (show (look liveT (2000000+g)).bind (fun l=>look l 0)=some x from hx)
 have:=List.all_eq_true.1 inp_all _ (look_mem _ _ _ h1)
 rw [Bool.or_eq_true,Bool.not_eq_true'] at this
 rcases this with h2 | h2
 ·have:Nat.ble 2000000 (2000000+g)=true:=by rw [Nat.ble_eq];omega
  rw [this] at h2;cases h2
 ·exact h2
theorem W_pts {f:FuncId} {fn:Func} {c:Code} (hf:(W O).fn f=some fn) (hb:fn.body=some c) (hfns:O.fns f=true) (hext:O.ext f=none) (hn:namesOk ((pts c []).map (·.1))=true) {n:Nat} {args:List S} {x:S}
  (h:bodyP (EY O (regs O)) (orc O.P (regs O)) (ptH (EY O (regs O)) (orc O.P (regs O)) f fn.ntmps true (pts c []) (endK (EY O (regs O)) fn (topX O.P f)) n) true f fn c args .empty (topX O.P f)=some x):(W O).callT f args=some x:=W_ptsG O_inp hf hb hfns hext hn h
noncomputable abbrev PG (q:YF) (n:Nat) (f:Func) (kk:PK S):PK S:=ptP (EY O q) (orc O.P q) n f.ntmps true (pts (codeOf f) []) (endK (EY O q) f (topX O.P n)) kk
noncomputable abbrev HG (q:YF) (n:Nat) (f:Func):Nat→PK S:=ptH (EY O q) (orc O.P q) n f.ntmps true (pts (codeOf f) []) (endK (EY O q) f (topX O.P n))
noncomputable abbrev BG (q:YF) (kk:PK S) (n:Nat) (f:Func) (l:List S):Option S:=bodyP (EY O q) (orc O.P q) kk true n f (codeOf f) l .empty (topX O.P n)
theorem WG {f:Nat} {fn:Func} {n:Nat} {args:List S} {x:S} (hf:(W O).fn f=some fn) (hb:(fn.body.isSome && (O.fns f && ((O.ext f).isNone && namesOk ((pts (codeOf fn) []).map (·.1)))))=true) (h:BG (regs O) (HG (regs O) f fn n) f fn args=some x):(W O).callT f args=some x:=by
 rw [Bool.and_eq_true,Bool.and_eq_true,Bool.and_eq_true] at hb
 obtain ⟨h1,h2,h3,h4⟩:=hb
 refine W_pts (c:=codeOf fn) hf ?_ h2 (Option.isNone_iff_eq_none.1 h3) h4 h
 unfold codeOf
 cases e:fn.body with
 | none=>rw [e] at h1;cases h1
 | some c=>rfl
def Ev {α:Type} (g:Nat→Option α) (v:α):Prop:=∃ N,∀ n,N≤n→g n=some v
theorem Ev.const {α:Type} (v:α):Ev (fun _=>some v) v:=⟨0,fun _ _=>rfl⟩
theorem Ev.succ {α:Type} {g:Nat→Option α} {v:α} (h:Ev (fun n=>g (n+1)) v):Ev g v:=by
 obtain ⟨N,h⟩:=h
 refine ⟨N+1,fun n hn=>?_⟩
 obtain ⟨m,rfl⟩:∃ m,n=m+1:=⟨n - 1,by omega⟩
 exact h m (by omega)
theorem Ev.get {α:Type} {g:Nat→Option α} {v:α} (h:Ev g v):∃ n,g n=some v:=by
 obtain ⟨N,h⟩:=h
 exact ⟨N,h N (Nat.le_refl N)⟩
theorem Ev.of_eq {α:Type} {g g':Nat→Option α} {v:α} (h:Ev g v) (e:∀ n,g' n=g n):Ev g' v:=by
 obtain ⟨N,h⟩:=h
 exact ⟨N,fun n hn=>(e n).trans (h n hn)⟩
theorem Ev.loop {ρ:Type} {X:Nat→Int→Option ρ} (n:Nat) (g:Nat→Option ρ) (r:ρ) (step:∀ j,j < n→(∀ e,g j=some e→Ev (fun m=>X m (j:Int)) e)∧(g j=none→∀ v,Ev (fun m=>X m ((j+1:Nat):Int)) v→Ev (fun m=>X m (j:Int)) v))
  (stop:Ev (fun m=>X m (n:Int)) r):∀ k j,j+k=n→Ev (fun m=>X m (j:Int)) (((List.range' j k).findSome? g).getD r)
 | 0,j,hj=>by
  obtain rfl:j=n:=by omega
  exact stop
 | k+1,j,hj=>by
  obtain ⟨h1,h2⟩:=step j (by omega)
  cases hg:g j with
  | some e=>
   have:((List.range' j (k+1)).findSome? g).getD r=e:=by simp [List.range'_succ,hg]
   rw [this]
   exact h1 e hg
  | none=>
   have:((List.range' j (k+1)).findSome? g).getD r=((List.range' (j+1) k).findSome? g).getD r:=by simp [List.range'_succ,hg]
   rw [this]
   exact h2 hg _ (Ev.loop n g r step stop k (j+1) (by omega))
theorem Ev.loop0 {ρ:Type} {X:Nat→Int→Option ρ} (n:Nat) (g:Nat→Option ρ) (r:ρ) (step:∀ j,j < n→(∀ e,g j=some e→Ev (fun m=>X m (j:Int)) e)∧(g j=none→∀ v,Ev (fun m=>X m ((j+1:Nat):Int)) v→Ev (fun m=>X m (j:Int)) v))
  (stop:Ev (fun m=>X m (n:Int)) r):Ev (fun m=>X m (Int.ofNat 0)) (((List.range n).findSome? g).getD r):=by
 rw [List.range_eq_range']
 exact Ev.loop n g r step stop n 0 (by omega)
theorem Ev.add {α:Type} {g:Nat→Option α} {v:α} (c:Nat) (h:Ev (fun n=>g (n+c)) v):Ev g v:=by
 obtain ⟨N,h⟩:=h
 refine ⟨N+c,fun n hn=>?_⟩
 obtain ⟨m,rfl⟩:∃ m,n=m+c:=⟨n - c,by omega⟩
 exact h m (by omega)
theorem Ev.loopc {ρ:Type} {X:Nat→Int→Option ρ} (c n:Nat) (g:Nat→Option ρ) (r:ρ) (step:∀ m j,j < n→X (m+c) (j:Int)=(match g j with | some e=>some e | none=>X m ((j+1:Nat):Int)))
  (stop:∀ m,X (m+c) (n:Int)=some r):Ev (fun m=>X m (0:Int)) (((List.range n).findSome? g).getD r):=
 Ev.loop0 n g r (fun j hj=>⟨fun e he=>Ev.add c ⟨0,fun m _=>by show X (m+c) (j:Int)=some e;rw [step m j hj,he]⟩,fun hn v hv=>Ev.add c (hv.of_eq fun m=>by rw [step m j hj,hn])⟩) (Ev.add c ⟨0,fun m _=>stop m⟩)
theorem find_none {ρ:Type} {n:Nat} {g:Nat→Option ρ} {r:ρ} (h:∀ j,j < n→g j=none):((List.range n).findSome? g).getD r=r:=by
 have:(List.range n).findSome? g=none:=List.findSome?_eq_none_iff.2 fun j hj=>h j (List.mem_range.1 hj)
 rw [this];rfl
theorem find_all {ρ:Type} {n:Nat} {g:Nat→Option ρ} {p:Nat→Bool} {e r:ρ} (h:∀ j,g j=bif p j then none else some e):((List.range n).findSome? g).getD r=bif (List.range n).all p then r else e:=by
 cases ha:(List.range n).all p with
 | true=>
  rw [find_none fun j hj=>by rw [h,List.all_eq_true.1 ha j (List.mem_range.2 hj)];rfl]
  rfl
 | false=>
  have:∃ j∈List.range n,p j=false:=by
   simpa using ha
  cases hf:(List.range n).findSome? g with
  | none=>
   obtain ⟨j,hj,hp⟩:=this
   have:=List.findSome?_eq_none_iff.1 hf j hj
   rw [h,hp] at this
   cases this
  | some x=>
   obtain ⟨j,hj⟩:=List.exists_of_findSome?_eq_some hf
   rw [h] at hj
   cases hp:p j with
   | true=>rw [hp] at hj;cases hj.2
   | false=>rw [hp] at hj;obtain rfl:=Option.some.inj hj.2;rfl
theorem elemO_pos {ρ:Type} {i:Int} {n:Nat} {K:i.toNat < n→Option ρ} (h0:0≤i) (h:i.toNat < n):elemO i n K=K h:=by
 unfold elemO
 rw [dif_pos ⟨h0,h⟩]
theorem elemO_nat {ρ:Type} {j n:Nat} {K:(j:Int).toNat < n→Option ρ} (h:j < n):elemO (j:Int) n K=K (by simpa using h):=elemO_pos (by omega) (by simpa using h)
theorem subO_pos {ρ:Type} {l m n:Nat} {K:l+m≤n→Option ρ} (h:l+m≤n):subO l m n K=K h:=by
 unfold subO
 rw [dif_pos h]
theorem addI_nat {j:Nat} (h:j < 2 ^ 62):addI .i64 (j:Int) (Int.ofNat 1)=((j+1:Nat):Int):=by
 unfold addI
 have:((j:Int)+Int.ofNat 1)=((j+1:Nat):Int):=by simp
 rw [this]
 exact Go.Lib.wrap_i64_small _ (by omega)
theorem byteAt_nat {a:ByteArray} {j:Nat} {h:(j:Int).toNat < sizeN a}:byteAt a (Fin.mk (j:Int).toNat h)=chr a j:=by
 unfold chr
 rw [dif_pos (by simpa using h)]
 rfl
theorem strEq_iff {a b:ByteArray}:strEq a b=true↔a=b:=by
 unfold strEq
 rw [bytesEq_iff]
 exact ⟨fun h=>by cases a;cases b;simpa using h,fun h=>by rw [h];simp⟩
theorem strEq_false {a b:ByteArray}:strEq a b=false↔a≠b:=by
 rw [← Bool.not_eq_true,strEq_iff]
theorem strEq_empty {a:ByteArray}:strEq a (bs [])=decide (sizeN a=0):=by
 rw [Bool.eq_iff_iff,strEq_iff,decide_eq_true_eq]
 unfold sizeN bs
 constructor
 ·rintro rfl;rfl
 ·intro h
  cases a with
  | mk d=>
   have:d.size=0:=h
   obtain rfl:=Array.eq_empty_of_size_eq_zero this
   rfl
theorem ltI_nat {j n:Nat}:ltI (j:Int) (ofN n)=decide (j < n):=by
 unfold ltI ofN
 simp
abbrev Ret (f:FuncId) (args:List S) (r:S):Prop:=(W O).callT f args=some r
theorem yC_of {f:FuncId} {args:List S} {sh:Sh} {y0:Y} (hs:shF O.P f=some sh) (h:Ret f args (build y0 sh)):∃ y,build y sh=build y0 sh∧∀ (ρ:Type) (K:Y→Option ρ),yC (regs O) f args K=K y:=by
 obtain ⟨y,h1,h2⟩:=regs_some hs h
 exact ⟨y,h2,fun ρ K=>by unfold yC;rw [h1];rfl⟩
def yI (x:Int):Y:=⟨fun _=>x,fun _=>false,fun _=>⟨#[]⟩,fun _=>⟨0,fun i=>i.elim0⟩,fun _=>[]⟩
def yB (x:Bool):Y:=⟨fun _=>0,fun _=>x,fun _=>⟨#[]⟩,fun _=>⟨0,fun i=>i.elim0⟩,fun _=>[]⟩
theorem yC_int {f:FuncId} {args:List S} {k:IntKind} {x:Int} (hs:shF O.P f=some (.int k 0)) (h:Ret f args (.t (.v (.int k x)))):∃ y:Y,y.i 0=x∧∀ (ρ:Type) (K:Y→Option ρ),yC (regs O) f args K=K y:=by
 obtain ⟨y,h1,h2⟩:=yC_of (y0:=yI x) hs h
 refine ⟨y,?_,h2⟩
 simpa [build,yI] using h1
theorem yC_bool {f:FuncId} {args:List S} {x:Bool} (hs:shF O.P f=some (.bool 0)) (h:Ret f args (.t (.v (.bool x)))):∃ y:Y,y.b 0=x∧∀ (ρ:Type) (K:Y→Option ρ),yC (regs O) f args K=K y:=by
 obtain ⟨y,h1,h2⟩:=yC_of (y0:=yB x) hs h
 refine ⟨y,?_,h2⟩
 simpa [build,yB] using h1
theorem Ev.loopN {ρ:Type} {X:Nat→Nat→Option ρ} (n:Nat) (g:Nat→Option ρ) (r:ρ) (step:∀ j,j < n→(∀ e,g j=some e→Ev (fun m=>X m j) e)∧(g j=none→∀ v,Ev (fun m=>X m (j+1)) v→Ev (fun m=>X m j) v))
  (stop:Ev (fun m=>X m n) r):Ev (fun m=>X m 0) (((List.range n).findSome? g).getD r):=by
 have:=Ev.loop0 (X:=fun m i=>X m i.toNat) n g r (fun j hj=>by simpa using step j hj) (by simpa using stop)
 simpa using this
def Rw.at {α:Type} [Inhabited α] (a:Rw α) (j:Nat):α:=if h:j < a.n then a.get ⟨j,h⟩ else default
theorem get_nat {α:Type} [Inhabited α] {a:Rw α} {j:Nat} {h:(j:Int).toNat < a.n}:a.get (Fin.mk (j:Int).toNat h)=a.at j:=by
 unfold Rw.at
 rw [dif_pos (by simpa using h)]
 congr 1
theorem get_at {α:Type} [Inhabited α] {a:Rw α} (i:Fin a.n):a.get i=a.at i.1:=by
 unfold Rw.at
 rw [dif_pos i.2]
def firstE (n:Nat) (g:Nat→Int):Int:=((List.range n).findSome? fun j=>bif !(eqI (g j) 0) then some (g j) else none).getD 0
theorem firstE_ii {n:Nat} {g:Nat→Int}:((List.range n).findSome? fun j=>bif !(eqI (g j) 0) then some (ii (g j)) else none).getD (ii 0)=ii (firstE n g):=by
 unfold firstE
 generalize List.range n=l
 induction l with
 | nil=>rfl
 | cons j l ih=>
  simp only [List.findSome?_cons]
  cases eqI (g j) 0 with
  | false=>rfl
  | true=>exact ih
theorem Ev.errsN {X:Nat→Nat→Option S} (n:Nat) (g:Nat→Int) (step:∀ j,j < n→(g j≠0→Ev (fun m=>X m j) (ii (g j)))∧(g j=0→∀ v,Ev (fun m=>X m (j+1)) v→Ev (fun m=>X m j) v))
  (stop:Ev (fun m=>X m n) (ii 0)):Ev (fun m=>X m 0) (ii (firstE n g)):=by
 have:=Ev.loopN (X:=X) n (fun j=>bif !(eqI (g j) 0) then some (ii (g j)) else none) (ii 0) (fun j hj=>by
  obtain ⟨h1,h2⟩:=step j hj
  cases h:eqI (g j) 0 with
  | true=>
   have hz:g j=0:=by unfold eqI at h;simpa using h
   exact ⟨fun e he=>(by cases he),fun _ v hv=>h2 hz v hv⟩
  | false=>
   have hz:g j≠0:=by unfold eqI at h;simpa using h
   exact ⟨fun e he=>(by obtain rfl:=Option.some.inj he;exact h1 hz),fun hn=>(by cases hn)⟩) stop
 rw [firstE_ii] at this
 exact this
theorem Ev.errsC {X:Nat→Nat→Option S} (c n:Nat) (g:Nat→Int) (step:∀ m j,j < n→X (m+c) j=bif !(eqI (g j) 0) then some (ii (g j)) else X m (j+1)) (stop:∀ m,X (m+c) n=some (ii 0)):Ev (fun m=>X m 0) (ii (firstE n g)):=
 Ev.errsN n g (fun j hj=>⟨fun h=>Ev.add c ⟨0,fun m _=>by
  have:eqI (g j) 0=false:=by unfold eqI;simpa using h
  show X (m+c) j=some (ii (g j))
  rw [step m j hj,this];rfl⟩,fun h v hv=>Ev.add c (hv.of_eq fun m=>by
  have:eqI (g j) 0=true:=by unfold eqI;simpa using h
  rw [step m j hj,this];rfl)⟩) (Ev.add c ⟨0,fun m _=>stop m⟩)
theorem lit1 {α:Type} (l:List α) (e:α→T):(fun i:Fin l.length=>List.take 1 (List.drop (i.1*1) (l.map e)))=fun i:Fin l.length=>[e (l[i.1]'i.2)]:=by
 funext i
 rw [Nat.mul_one,List.drop_eq_getElem_cons (by simp)]
 simp
def rwL {α:Type} (l:List α):Rw α:=⟨l.length,fun i=>l[i.1]'i.2⟩
theorem rwL_at {α:Type} [Inhabited α] {l:List α} {j:Nat}:(rwL l).at j=l.getD j default:=by
 unfold Rw.at rwL
 by_cases h:j < l.length
 ·simp [h]
 ·simp [h]
theorem rwL_get {α:Type} [Inhabited α] {l:List α} {j:Nat} (h:j < l.length):(rwL l).at j=l[j]:=by
 unfold Rw.at
 have h':j < (rwL l).n:=h
 rw [dif_pos h']
 rfl
end Go.Proofs.YtonkoellfaopiaaGreatDoor.H
