/-
  The law of the claim returns true at every input, and its argument reads as it did: the tied card. No condition.
-/
import Derived.Test.YtkknafmijabgaaaGreatDoorFN1
import Derived.Test.YtkknafmijabgaaaGreatDoorFN2
import Derived.Test.YtkknafmijabgaaaGreatDoorFN3
import Derived.Test.YtkknafmijabgaaaGreatDoorFN4
import Derived.Test.YtkknafmijabgaaaGreatDoorFN5
import Derived.Test.YtkknafmijabgaaaGreatDoorFN6
import Derived.Test.YtkknafmijabgaaaGreatDoorTie
import Derived.Test.YtkknafmijabgaaaGreatDoorCards
set_option linter.unusedSimpArgs false
set_option linter.unusedVariables false
open List renaming all_eq_true → aUH
open Option renaming some → aVU
namespace Go.Proofs.YtkknafmijabgaaaGreatDoor
open Go Go.PM
theorem q:bG C 316 PM.NK:=bH (T U6) Tryz.func3
theorem aIX:cD C:={
 r0:=bH (T aoH) Tryz.func22,
 r1:=bH (T awJ) Tryz.func78,
 r2:=bH (T aEW) Tryz.func48,
 r4:=bH (T awV) Tryz.func26,
 r5:=bH (T aFA) Tryz.func52,
 r7:=bH (T awK) Tryz.func51,
 r27:=bH (T aoE) Tryz.func10,
 r28:=bH (T aEY) Tryz.func21,
 r29:=bH (T awS) Tryz.func49,
 r30:=bH (T aGX) Tryz.func155,
 r31:=bH (T azI) Tryz.func163,
 r32:=bH (T aGZ) Tryz.func141,
 r33:=bH (T aHB) Tryz.func114,
 r34:=bH (T aHD) Tryz.func113,
 r35:=bH (T azQ) Tryz.func81,
 r36:=bH (T aHF) Tryz.func158,
 r37:=bH (T aHJ) Tryz.func157,
 r38:=bH (T aAB) Tryz.func103,
 r39:=bH (T akM) Tryz.func144,
 r40:=bH (T azN) Tryz.func167,
 r41:=bH (T arE) Tryz.func143,
 r42:=bH (T arG) Tryz.func166,
 r43:=bH (T azX) Tryz.func171,
 r44:=bH (T arI) Tryz.func165,
 r45:=bH (T aKC) Tryz.func164,
 r46:=bH (T aHL) Tryz.func139,
 r47:=bH (T aHM) Tryz.func50,
 r48:=bH (T arW) Tryz.func172,
 r49:=bH (T aAJ) Tryz.func108,
 r50:=bH (T aAL) Tryz.func53,
 r51:=bH (T arY) Tryz.func104,
 r52:=bH (T alE) Tryz.func105,
 r53:=bH (T aAN) Tryz.func102,
 r54:=bH (T aAP) Tryz.func68,
 r55:=bH (T aHP) Tryz.func101,
 r56:=bH (T asC) Tryz.func67,
 r57:=bH (T aAF) Tryz.func156,
 r58:=bH (T alC) Tryz.func80,
 r59:=bH (T aAR) Tryz.func82,
 r60:=bH (T asA) Tryz.func140,
 r61:=bH (T ayN) Tryz.func106,
 r62:=bH (T alL) Tryz.func98,
 r63:=bH (T asE) Tryz.func154,
 r64:=bH (T alJ) Tryz.func138,
 r65:=bH (T alN) Tryz.func137,
 r66:=bH (T aHW) Tryz.func107,
 r67:=bH (T asW) Tryz.func36,
 r68:=bH (T aHU) Tryz.func66,
 r69:=bH (T aHS) Tryz.func71,
 r70:=bH (T asL) Tryz.func65,
 r71:=bH (T asN) Tryz.func99,
 r72:=bH (T U8) Tryz.func70,
 r73:=bH (T asQ) Tryz.func64,
 r74:=bH (T asS) Tryz.func69,
 r75:=bH (T alT) Tryz.func100,
 r76:=bH (T alV) Tryz.func63,
 r77:=bH (T Us) Tryz.func39,
 r82:=bH (T ayT) Tryz.func57,
 r85:=bH (T ayX) Tryz.func40,
 r88:=bH (T aqN) Tryz.func145,
 r95:=bH (T aDQ) Tryz.func60,
 r96:=bH (T aEB) Tryz.func31,
 r97:=bH (T anL) Tryz.func89,
 r98:=bH (T auP) Tryz.func129,
 r99:=bH (T auR) Tryz.func90,
 r100:=bH (T auT) Tryz.func131,
 r101:=bH (T aDW) Tryz.func134,
 r102:=bH (T auW) Tryz.func94,
 r103:=bH (T anN) Tryz.func130,
 r104:=bH (T aJC) Tryz.func58,
 r105:=bH (T aDS) Tryz.func88,
 r106:=bH (T aDU) Tryz.func95,
 r107:=bH (T avB) Tryz.func132,
 r108:=bH (T avE) Tryz.func96,
 r109:=bH (T anQ) Tryz.func133,
 r110:=bH (T avH) Tryz.func62,
 r111:=bH (T aDO) Tryz.func59,
 r112:=bH (T aDY) Tryz.func61,
 r113:=bH (T aCW) Tryz.func122,
 r114:=bH (T aDA) Tryz.func93,
 r115:=bH (T auH) Tryz.func92,
 r116:=bH (T agZ) Tryz.func119,
 r117:=bH (T aDK) Tryz.func91,
 r118:=bH (T anH) Tryz.func125,
 r119:=bH (T aCU) Tryz.func124,
 r120:=bH (T agV) Tryz.func123,
 r121:=bH (T anF) Tryz.func127,
 r122:=bH (T auN) Tryz.func128,
 r123:=bH (T avW) Tryz.func97,
 r124:=bH (T anX) Tryz.func153,
 r125:=bH (T aoC) Tryz.func136,
 r126:=bH (T aiF) Tryz.func135,
 r127:=bH (T aFD) Tryz.func147,
 r128:=bH (T axC) Tryz.func120,
 r129:=bH (T aFI) Tryz.func126,
 r130:=bH (T aFK) Tryz.func150,
 r131:=bH (T aFS) Tryz.func149,
 r132:=bH (T axL) Tryz.func121,
 r133:=bH (T aFU) Tryz.func152,
 r134:=bH (T aFW) Tryz.func148,
 r135:=bH (T axQ) Tryz.func151,
 r136:=bH (T aiW) Tryz.func170,
 r137:=bH (T aoX) Tryz.func168,
 r138:=bH (T ajF) Tryz.func146,
 r139:=bH (T Um) Tryz.func181,
 r140:=bH (T apA) Tryz.func178,
 r141:=bH (T apC) Tryz.func169,
 r142:=bH (T Oa) Tryz.func180,
 r143:=bH (T aJM) Tryz.func179,
 r152:=bH (T azF) Tryz.func25,
 r156:=bH (T azB) Tryz.func115,
 r161:=bH (T arA) Tryz.func54,
 r282:=bH (T aFZ) Tryz.func34,
 r283:=bH (T aFM) Tryz.func35,
 r284:=bH (T aFO) Tryz.func32,
 r285:=bH (T aFG) Tryz.func33,
 r286:=bH (T aDG) Tryz.func12,
 r287:=bH (T aDC) Tryz.func42,
 r288:=bH (T anC) Tryz.func15,
 r289:=bH (T aDM) Tryz.func17,
 r290:=bH (T aCY) Tryz.func19,
 r291:=bH (T awX) Tryz.func109,
 r292:=bH (T aoT) Tryz.func72,
 r293:=bH (T aEU) Tryz.func46,
 r294:=bH (T awE) Tryz.func110,
 r295:=bH (T awB) Tryz.func111,
 r296:=bH (T aoM) Tryz.func73,
 r297:=bH (T aEQ) Tryz.func74,
 r298:=bH (T aoP) Tryz.func41,
 r304:=bH (T ayE) Tryz.func38,
 r305:=bH (T aGG) Tryz.func37,
 r306:=bH (T aqC) Tryz.func44,
 r307:=bH (T aGI) Tryz.func13,
 r312:=bH (T asJ) Tryz.func11,
 r313:=bH (T aBF) Tryz.func14 }
end Go.Proofs.YtkknafmijabgaaaGreatDoor
namespace Go.Proofs.YtkknafmijabgaaaGreatDoor
open Go Go.PM Go.RowKit Go.ChangeShapes Go.WideShapes
def argKinds:List AT:=[.one (.sl [.int .u8]),.one (.sl [.int .i64])]
theorem aBZ:GI Tryz.prog 8 Tryz.f3.params.toList=some argKinds:=by kernel_rfl
theorem aEL (e:List PV) (h:AT.TyL argKinds e):aG C 316 e .nil (aI (.bool true)):=by
 match e,h with
 | [A,B],h =>
  obtain⟨j,l,-⟩:=h;cases j with | one j =>
  obtain⟨x,rfl,u,w⟩:=amG j;cases l with | one l =>
  obtain⟨y,rfl,-,-⟩:=Ty.Km l;exact T9 aIX itoa q x u w y
theorem Fo (os:Os) (args:Array Value):laidMetH Tryz.prog Rows.feasibleNetworkRow.laid ((World.doorLaid Tryz.prog 400 os).forCall (fun _ _=>0) ⟨#[],args,[]⟩).memory :=
 laidMetH_of_parts3 (fuel:=8) (laidMet_of_run' 8 (by kernel_rfl) (by kernel_rfl)) (by kernel_rfl) (by kernel_rfl)
set_option maxRecDepth 100000 in
theorem aiD (os:Os) (e:os.Started) (H:Type) (enc:TypeId × Value→H) :
  ReturnsInHanded {} Tryz.checked os 3 .any (fun w args=>(Rows.feasibleNetworkSpec.pre enc Tryz.prog Tryz.f3 [] false w args∧laidMetH Tryz.prog Rows.feasibleNetworkRow.laid w)∧sizedMet enc Tryz.prog Tryz.f3 (OpenSpec.ofChange Rows.feasibleNetworkSpec) false w args)
   (Rows.feasibleNetworkSpec.post enc Tryz.prog Tryz.f3 false true false false):=by
 refine returnsInHanded_of_change_and (C:=Tryz.checked) (X:=fun w _=>laidMetH Tryz.prog Rows.feasibleNetworkRow.laid w) (fun _ _ _ x h=>h.of_heap x) Tryz.own e (by kernel_rfl) Tryz.func3
  (ChangeSpec.witness_shaped (enc:=enc) (C:=Tryz.checked) (os:=os) (X:=fun w _=>laidMetH Tryz.prog Rows.feasibleNetworkRow.laid w) false (World.doorLaid Tryz.prog 400 os) #[.slice none 0 0,.slice none 0 0] 8 rfl (World.shaped_of_RefB (by kernel_rfl) (by kernel_rfl)) (by kernel_rfl) (by kernel_rfl) (by kernel_rfl) (Fo os _)) ?_
 intro W base args ds B l j hW _ _ _ _;exact Fb (P:=Tryz.prog) (num:=num) (name:=316) (n:=8) (ats:=argKinds) (bt:=4) Tryz.laidOut (by kernel_rfl) (by kernel_rfl) (by kernel_rfl) rfl
  (fun ds u=>by
   match ds,u with
   | [y,A],_=>exact⟨rfl,rfl,rfl⟩)
  (by kernel_rfl) aBZ aEL j hW
theorem IA:Rows.FeasibleNetworkSaid :=
 OpenClaim.holds_of_wide 3 Tryz.f3 rfl rfl rfl rfl rfl rfl rfl ⟨rfl,rfl,rfl,rfl,rfl⟩ rfl rfl rfl rfl rfl (by kernel_rfl) Tryz.func3 (by kernel_rfl)
  (of_decide_eq_true (by kernel_rfl)) (by unfold Func.isWrapper; first | (rw[if_pos (by decide +kernel)]; kernel_rfl) | (rw[if_neg (by decide +kernel)]; exact⟨rfl,rfl⟩))
  (fun os e H enc _=>aiD os e H enc)
theorem feasibleNetwork_card:Rows.FeasibleNetworkCardSaid :=
 Claim7.holds_tied_plain_at .later [] [.data,.data,.data] true (true,"1abc24bc01dfb624e2255950c5e5bd558c8c8f8e9041aaebe6d78b793c91b757") false
  IA (fun _ h=>by cases h) (by kernel_rfl) (fun _ h=>by cases h) feasibleNetwork_row_tie rfl ⟨rfl,rfl⟩ (by kernel_rfl) rfl
  (fun f fn w l=>by
   obtain rfl:f=3:=aVU.inj ((show Tryz.prog.funcNamed Rows.feasibleNetworkRow.func=some 3 by kernel_rfl).symm.trans w) |>.symm
   obtain rfl:fn=Tryz.f3:=(aVU.inj (Tryz.func3.symm.trans l)).symm;exact⟨by kernel_rfl,fun j t y=>by
    have x:t∈Tryz.f3.params.toList:=by rw[Array.mem_toList_iff];exact Array.mem_of_getElem? y
    have e:(Tryz.f3.params.toList.all fun u=>!Tryz.prog.wantsStandIn u)=true:=by kernel_rfl
    exact (show Tryz.prog.wantsStandIn t=false by simpa using aUH.1 e t x)⟩)
  (by kernel_rfl)
#print axioms feasibleNetwork_card
end Go.Proofs.YtkknafmijabgaaaGreatDoor
