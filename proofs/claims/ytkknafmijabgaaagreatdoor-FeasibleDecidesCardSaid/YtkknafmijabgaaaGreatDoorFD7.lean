/-
  The law of the claim returns true at every input, and its argument reads as it did: the tied card. No condition.
-/
import Derived.Test.YtkknafmijabgaaaGreatDoorFD1
import Derived.Test.YtkknafmijabgaaaGreatDoorFD2
import Derived.Test.YtkknafmijabgaaaGreatDoorFD3
import Derived.Test.YtkknafmijabgaaaGreatDoorFD4
import Derived.Test.YtkknafmijabgaaaGreatDoorFD5
import Derived.Test.YtkknafmijabgaaaGreatDoorFD6
import Derived.Test.YtkknafmijabgaaaGreatDoorTie
import Derived.Test.YtkknafmijabgaaaGreatDoorCards
set_option linter.unusedSimpArgs false
set_option linter.unusedVariables false
open List renaming all_eq_true→bgY
open Option renaming some→biQ
set_option maxRecDepth 100000
set_option maxHeartbeats 800000
noncomputable section
namespace Go.Proofs.YtkknafmijabgaaaGreatDoor
open Go Go.PM
theorem q:bL C 321 PM.XY:=bP (T []) Tryz.func8
theorem a5G:cH C:={
 r0:=bP (T [40,67,148,154,176]) Tryz.func22,
 r1:=bP (T []) Tryz.func78,
 r2:=bP (T [45,63,90,95]) Tryz.func48,
 r4:=bP (T []) Tryz.func26,
 r5:=bP (T [16]) Tryz.func52,
 r6:=bP (T [3,21]) Tryz.func23,
 r7:=bP (T [60,81,113]) Tryz.func51,
 r27:=bP (T []) Tryz.func10,
 r28:=bP (T []) Tryz.func21,
 r29:=bP (T []) Tryz.func49,
 r30:=bP (T []) Tryz.func155,
 r31:=bP (T []) Tryz.func163,
 r32:=bP (T []) Tryz.func141,
 r33:=bP (T []) Tryz.func114,
 r34:=bP (T []) Tryz.func113,
 r35:=bP (T [8]) Tryz.func81,
 r36:=bP (T []) Tryz.func158,
 r37:=bP (T []) Tryz.func157,
 r38:=bP (T []) Tryz.func103,
 r39:=bP (T [76]) Tryz.func144,
 r40:=bP (T [47]) Tryz.func167,
 r41:=bP (T []) Tryz.func143,
 r42:=bP (T [43]) Tryz.func166,
 r43:=bP (T [51]) Tryz.func171,
 r44:=bP (T []) Tryz.func165,
 r45:=bP (T [35,42]) Tryz.func164,
 r46:=bP (T [2,3]) Tryz.func139,
 r47:=bP (T []) Tryz.func50,
 r48:=bP (T [1]) Tryz.func172,
 r49:=bP (T [2,3]) Tryz.func108,
 r50:=bP (T []) Tryz.func53,
 r51:=bP (T [2,3]) Tryz.func104,
 r52:=bP (T [1]) Tryz.func105,
 r53:=bP (T [2,3]) Tryz.func102,
 r54:=bP (T [1]) Tryz.func68,
 r55:=bP (T []) Tryz.func101,
 r56:=bP (T [1]) Tryz.func67,
 r57:=bP (T [1]) Tryz.func156,
 r58:=bP (T [16]) Tryz.func80,
 r59:=bP (T []) Tryz.func82,
 r60:=bP (T []) Tryz.func140,
 r61:=bP (T []) Tryz.func106,
 r62:=bP (T []) Tryz.func98,
 r63:=bP (T []) Tryz.func154,
 r64:=bP (T []) Tryz.func138,
 r65:=bP (T []) Tryz.func137,
 r66:=bP (T []) Tryz.func107,
 r67:=bP (T [1]) Tryz.func36,
 r68:=bP (T [1]) Tryz.func66,
 r69:=bP (T [6,7]) Tryz.func71,
 r70:=bP (T [8]) Tryz.func65,
 r71:=bP (T []) Tryz.func99,
 r72:=bP (T [7]) Tryz.func70,
 r73:=bP (T []) Tryz.func64,
 r74:=bP (T [1]) Tryz.func69,
 r75:=bP (T []) Tryz.func100,
 r76:=bP (T []) Tryz.func63,
 r77:=bP (T [3,4]) Tryz.func39,
 r80:=bP (T [3]) Tryz.func118,
 r82:=bP (T [2]) Tryz.func57,
 r83:=bP (T [3]) Tryz.func29,
 r84:=bP (T [2]) Tryz.func87,
 r85:=bP (T [2,44]) Tryz.func40,
 r87:=bP (T [3,24,64]) Tryz.func56,
 r88:=bP (T [3]) Tryz.func145,
 r89:=bP (T [2]) Tryz.func117,
 r90:=bP (T [3,27,36,52,81,118,150]) Tryz.func86,
 r95:=bP (T [1]) Tryz.func60,
 r96:=bP (T [1,76,94,128,141,183,204]) Tryz.func31,
 r97:=bP (T [1]) Tryz.func89,
 r98:=bP (T []) Tryz.func129,
 r99:=bP (T []) Tryz.func90,
 r100:=bP (T []) Tryz.func131,
 r101:=bP (T [1]) Tryz.func134,
 r102:=bP (T [1]) Tryz.func94,
 r103:=bP (T []) Tryz.func130,
 r104:=bP (T []) Tryz.func58,
 r105:=bP (T [1]) Tryz.func88,
 r106:=bP (T [7]) Tryz.func95,
 r107:=bP (T []) Tryz.func132,
 r108:=bP (T [6,7]) Tryz.func96,
 r109:=bP (T [1]) Tryz.func133,
 r110:=bP (T []) Tryz.func62,
 r111:=bP (T [1]) Tryz.func59,
 r112:=bP (T [2]) Tryz.func61,
 r113:=bP (T [2,3]) Tryz.func122,
 r114:=bP (T [2,3]) Tryz.func93,
 r115:=bP (T []) Tryz.func92,
 r116:=bP (T [1]) Tryz.func119,
 r117:=bP (T []) Tryz.func91,
 r118:=bP (T [1]) Tryz.func125,
 r119:=bP (T []) Tryz.func124,
 r120:=bP (T []) Tryz.func123,
 r121:=bP (T []) Tryz.func127,
 r122:=bP (T [1]) Tryz.func128,
 r123:=bP (T []) Tryz.func97,
 r124:=bP (T []) Tryz.func153,
 r125:=bP (T []) Tryz.func136,
 r126:=bP (T []) Tryz.func135,
 r127:=bP (T []) Tryz.func147,
 r128:=bP (T []) Tryz.func120,
 r129:=bP (T []) Tryz.func126,
 r130:=bP (T []) Tryz.func150,
 r131:=bP (T []) Tryz.func149,
 r132:=bP (T [9]) Tryz.func121,
 r133:=bP (T []) Tryz.func152,
 r134:=bP (T []) Tryz.func148,
 r135:=bP (T []) Tryz.func151,
 r136:=bP (T []) Tryz.func170,
 r137:=bP (T []) Tryz.func168,
 r138:=bP (T []) Tryz.func146,
 r139:=bP (T []) Tryz.func181,
 r140:=bP (T []) Tryz.func178,
 r141:=bP (T []) Tryz.func169,
 r142:=bP (T []) Tryz.func180,
 r143:=bP (T []) Tryz.func179,
 r150:=bP (T [3]) Tryz.func28,
 r152:=bP (T [2]) Tryz.func25,
 r154:=bP (T [3,28,44,74]) Tryz.func55,
 r156:=bP (T [2]) Tryz.func115,
 r157:=bP (T [2]) Tryz.func85,
 r158:=bP (T [3,75,91,134,167]) Tryz.func84,
 r159:=bP (T []) Tryz.func116,
 r160:=bP (T [3]) Tryz.func83,
 r161:=bP (T [1]) Tryz.func54,
 r282:=bP (T [2]) Tryz.func34,
 r283:=bP (T [3]) Tryz.func35,
 r284:=bP (T [2]) Tryz.func32,
 r285:=bP (T [13]) Tryz.func33,
 r286:=bP (T [2]) Tryz.func12,
 r287:=bP (T [1]) Tryz.func42,
 r288:=bP (T [2,89]) Tryz.func15,
 r289:=bP (T [2,60,82,87,105]) Tryz.func17,
 r290:=bP (T [3,5]) Tryz.func19,
 r291:=bP (T []) Tryz.func109,
 r292:=bP (T []) Tryz.func72,
 r293:=bP (T [2]) Tryz.func46,
 r294:=bP (T []) Tryz.func110,
 r295:=bP (T []) Tryz.func111,
 r296:=bP (T [79]) Tryz.func73,
 r297:=bP (T []) Tryz.func74,
 r298:=bP (T [1,48,67]) Tryz.func41,
 r299:=bP (T [1]) Tryz.func75,
 r300:=bP (T [2]) Tryz.func77,
 r301:=bP (T [2]) Tryz.func47,
 r302:=bP (T [2,78,115]) Tryz.func76,
 r303:=bP (T [1]) Tryz.func43,
 r304:=bP (T [3]) Tryz.func38,
 r305:=bP (T [2]) Tryz.func37,
 r306:=bP (T [1]) Tryz.func44,
 r307:=bP (T [2,52,95,124,147]) Tryz.func13,
 r308:=bP (T [3,4,70]) Tryz.func45,
 r309:=bP (T [2]) Tryz.func16,
 r311:=bP (T [3,5]) Tryz.func20,
 r312:=bP (T [10,19,25,60]) Tryz.func11 }
end Go.Proofs.YtkknafmijabgaaaGreatDoor
namespace Go.Proofs.YtkknafmijabgaaaGreatDoor
open Go Go.PM Go.RowKit Go.ChangeShapes Go.WideShapes
def argKinds:List AT:=[.one (.sl [.int .u8])]
theorem aZU:QL Tryz.prog 8 Tryz.f8.params.toList=some argKinds:=by kernel_rfl
theorem a1P(e:List PV)(h:AT.TyL argKinds e):aI C 321 e .nil (aK (.bool true)):=by
 match e,h with
 |[x],h=>
  obtain⟨j,-⟩:=h;cases j with|one j=>
  obtain⟨w,rfl,l,u⟩:=aLW j;exact aqE a5G itoa q w l u
theorem Wc(os:Os)(args:Array Value):laidMetH Tryz.prog Rows.feasibleDecidesRow.laid ((World.doorLaid Tryz.prog 400 os).forCall (λ_ _=>0) ⟨#[],args,[]⟩).memory:=
 laidMetH_of_parts3 (fuel:=8) (laidMet_of_run' 8 (by kernel_rfl) (by kernel_rfl)) (by kernel_rfl) (by kernel_rfl)
set_option maxRecDepth 100000 in
theorem aHW(os:Os)(e:os.Started)(H:Type)(enc:TypeId × Value→H) :
  ReturnsInHanded {} Tryz.checked os 8 .any (λw args=>(Rows.feasibleDecidesSpec.pre enc Tryz.prog Tryz.f8 [] false w args∧laidMetH Tryz.prog Rows.feasibleDecidesRow.laid w)∧sizedMet enc Tryz.prog Tryz.f8 (OpenSpec.ofChange Rows.feasibleDecidesSpec) false w args)
   (Rows.feasibleDecidesSpec.post enc Tryz.prog Tryz.f8 false true false false):=by
 refine returnsInHanded_of_change_and (C:=Tryz.checked) (X:=λw _=>laidMetH Tryz.prog Rows.feasibleDecidesRow.laid w) (λ_ _ _ x h=>h.of_heap x) Tryz.own e (by kernel_rfl) Tryz.func8
  (ChangeSpec.witness_shaped (enc:=enc) (C:=Tryz.checked) (os:=os) (X:=λw _=>laidMetH Tryz.prog Rows.feasibleDecidesRow.laid w) false (World.doorLaid Tryz.prog 400 os) #[.slice none 0 0] 8 rfl (World.shaped_of_RefB (by kernel_rfl) (by kernel_rfl)) (by kernel_rfl) (by kernel_rfl) (by kernel_rfl) (Wc os _)) ?_
 intro W base args ds A l j hW _ _ _ _;exact V0 (P:=Tryz.prog) (num:=num) (name:=321) (n:=8) (ats:=argKinds) (bt:=4) Tryz.laidOut (by kernel_rfl) (by kernel_rfl) (by kernel_rfl) rfl
  (λds u=>by
   match ds,u with
   |[y],_=>exact⟨rfl,rfl,rfl⟩)
  (by kernel_rfl) aZU a1P j hW
theorem SF:Rows.FeasibleDecidesSaid:=
 OpenClaim.holds_of_wide 8 Tryz.f8 rfl rfl rfl rfl rfl rfl rfl ⟨rfl,rfl,rfl,rfl,rfl⟩ rfl rfl rfl rfl rfl (by kernel_rfl) Tryz.func8 (by kernel_rfl)
  (of_decide_eq_true (by kernel_rfl)) (by unfold Func.isWrapper;first|(rw[if_pos (by decide +kernel)];kernel_rfl)|(rw[if_neg (by decide +kernel)];exact⟨rfl,rfl⟩))
  (λos e H enc _=>aHW os e H enc)
theorem feasibleDecides_card:Rows.FeasibleDecidesCardSaid:=
 Claim7.holds_tied_plain_at .later [] [.data,.data,.data] true (true,"1abc24bc01dfb624e2255950c5e5bd558c8c8f8e9041aaebe6d78b793c91b757") false
  SF (λ_ h=>by cases h) (by kernel_rfl) (λ_ h=>by cases h) feasibleDecides_row_tie rfl ⟨rfl,rfl⟩ (by kernel_rfl) rfl
  (λf fn w l=>by
   obtain rfl:f=8:=biQ.inj ((show Tryz.prog.funcNamed Rows.feasibleDecidesRow.func=some 8 by kernel_rfl).symm.trans w) |>.symm
   obtain rfl:fn=Tryz.f8:=(biQ.inj (Tryz.func8.symm.trans l)).symm;exact⟨by kernel_rfl,λj t y=>by
    have x:t∈Tryz.f8.params.toList:=by rw[Array.mem_toList_iff];exact Array.mem_of_getElem? y
    have e:(Tryz.f8.params.toList.all λu=>!Tryz.prog.wantsStandIn u)=true:=by kernel_rfl
    exact(show Tryz.prog.wantsStandIn t=false by simpa using bgY.1 e t x)⟩)
  (by kernel_rfl)
#print axioms feasibleDecides_card
end Go.Proofs.YtkknafmijabgaaaGreatDoor
