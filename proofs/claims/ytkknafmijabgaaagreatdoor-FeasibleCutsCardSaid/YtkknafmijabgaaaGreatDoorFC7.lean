/-
  The law of the claim returns true at every input, and its argument reads as it did: the tied card. No condition.
-/
import Derived.Test.YtkknafmijabgaaaGreatDoorFC1
import Derived.Test.YtkknafmijabgaaaGreatDoorFC2
import Derived.Test.YtkknafmijabgaaaGreatDoorFC3
import Derived.Test.YtkknafmijabgaaaGreatDoorFC4
import Derived.Test.YtkknafmijabgaaaGreatDoorFC5
import Derived.Test.YtkknafmijabgaaaGreatDoorFC6
import Derived.Test.YtkknafmijabgaaaGreatDoorTie
import Derived.Test.YtkknafmijabgaaaGreatDoorCards
set_option linter.unusedSimpArgs false
set_option linter.unusedVariables false
open List renaming all_eq_true→a4T
open Option renaming some→a6H
set_option maxRecDepth 100000
set_option maxHeartbeats 800000
noncomputable section
namespace Go.Proofs.YtkknafmijabgaaaGreatDoor
open Go Go.PM
theorem q:bN C 318 PM.N8:=bQ (T []) Tryz.func5
theorem aTF:cQ C:={
 r0:=bQ (T [40,67,148,154,176]) Tryz.func22,
 r1:=bQ (T []) Tryz.func78,
 r2:=bQ (T [45,63,90,95]) Tryz.func48,
 r4:=bQ (T []) Tryz.func26,
 r5:=bQ (T [16]) Tryz.func52,
 r6:=bQ (T [3,21]) Tryz.func23,
 r7:=bQ (T [60,81,113]) Tryz.func51,
 r27:=bQ (T []) Tryz.func10,
 r28:=bQ (T []) Tryz.func21,
 r29:=bQ (T []) Tryz.func49,
 r30:=bQ (T []) Tryz.func155,
 r31:=bQ (T []) Tryz.func163,
 r32:=bQ (T []) Tryz.func141,
 r33:=bQ (T []) Tryz.func114,
 r34:=bQ (T []) Tryz.func113,
 r35:=bQ (T [8]) Tryz.func81,
 r36:=bQ (T []) Tryz.func158,
 r37:=bQ (T []) Tryz.func157,
 r38:=bQ (T []) Tryz.func103,
 r39:=bQ (T [76]) Tryz.func144,
 r40:=bQ (T [47]) Tryz.func167,
 r41:=bQ (T []) Tryz.func143,
 r42:=bQ (T [43]) Tryz.func166,
 r43:=bQ (T [51]) Tryz.func171,
 r44:=bQ (T []) Tryz.func165,
 r45:=bQ (T [35,42]) Tryz.func164,
 r46:=bQ (T [2,3]) Tryz.func139,
 r47:=bQ (T []) Tryz.func50,
 r48:=bQ (T [1]) Tryz.func172,
 r49:=bQ (T [2,3]) Tryz.func108,
 r50:=bQ (T []) Tryz.func53,
 r51:=bQ (T [2,3]) Tryz.func104,
 r52:=bQ (T [1]) Tryz.func105,
 r53:=bQ (T [2,3]) Tryz.func102,
 r54:=bQ (T [1]) Tryz.func68,
 r55:=bQ (T []) Tryz.func101,
 r56:=bQ (T [1]) Tryz.func67,
 r57:=bQ (T [1]) Tryz.func156,
 r58:=bQ (T [16]) Tryz.func80,
 r59:=bQ (T []) Tryz.func82,
 r60:=bQ (T []) Tryz.func140,
 r61:=bQ (T []) Tryz.func106,
 r62:=bQ (T []) Tryz.func98,
 r63:=bQ (T []) Tryz.func154,
 r64:=bQ (T []) Tryz.func138,
 r65:=bQ (T []) Tryz.func137,
 r66:=bQ (T []) Tryz.func107,
 r67:=bQ (T [1]) Tryz.func36,
 r68:=bQ (T [1]) Tryz.func66,
 r69:=bQ (T [6,7]) Tryz.func71,
 r70:=bQ (T [8]) Tryz.func65,
 r71:=bQ (T []) Tryz.func99,
 r72:=bQ (T [7]) Tryz.func70,
 r73:=bQ (T []) Tryz.func64,
 r74:=bQ (T [1]) Tryz.func69,
 r75:=bQ (T []) Tryz.func100,
 r76:=bQ (T []) Tryz.func63,
 r77:=bQ (T [3,4]) Tryz.func39,
 r82:=bQ (T [2]) Tryz.func57,
 r85:=bQ (T [2,44]) Tryz.func40,
 r88:=bQ (T [3]) Tryz.func145,
 r95:=bQ (T [1]) Tryz.func60,
 r96:=bQ (T [1,76,94,128,141,183,204]) Tryz.func31,
 r97:=bQ (T [1]) Tryz.func89,
 r98:=bQ (T []) Tryz.func129,
 r99:=bQ (T []) Tryz.func90,
 r100:=bQ (T []) Tryz.func131,
 r101:=bQ (T [1]) Tryz.func134,
 r102:=bQ (T [1]) Tryz.func94,
 r103:=bQ (T []) Tryz.func130,
 r104:=bQ (T []) Tryz.func58,
 r105:=bQ (T [1]) Tryz.func88,
 r106:=bQ (T [7]) Tryz.func95,
 r107:=bQ (T []) Tryz.func132,
 r108:=bQ (T [6,7]) Tryz.func96,
 r109:=bQ (T [1]) Tryz.func133,
 r110:=bQ (T []) Tryz.func62,
 r111:=bQ (T [1]) Tryz.func59,
 r112:=bQ (T [2]) Tryz.func61,
 r113:=bQ (T [2,3]) Tryz.func122,
 r114:=bQ (T [2,3]) Tryz.func93,
 r115:=bQ (T []) Tryz.func92,
 r116:=bQ (T [1]) Tryz.func119,
 r117:=bQ (T []) Tryz.func91,
 r118:=bQ (T [1]) Tryz.func125,
 r119:=bQ (T []) Tryz.func124,
 r120:=bQ (T []) Tryz.func123,
 r121:=bQ (T []) Tryz.func127,
 r122:=bQ (T [1]) Tryz.func128,
 r123:=bQ (T []) Tryz.func97,
 r124:=bQ (T []) Tryz.func153,
 r125:=bQ (T []) Tryz.func136,
 r126:=bQ (T []) Tryz.func135,
 r127:=bQ (T []) Tryz.func147,
 r128:=bQ (T []) Tryz.func120,
 r129:=bQ (T []) Tryz.func126,
 r130:=bQ (T []) Tryz.func150,
 r131:=bQ (T []) Tryz.func149,
 r132:=bQ (T [9]) Tryz.func121,
 r133:=bQ (T []) Tryz.func152,
 r134:=bQ (T []) Tryz.func148,
 r135:=bQ (T []) Tryz.func151,
 r136:=bQ (T []) Tryz.func170,
 r137:=bQ (T []) Tryz.func168,
 r138:=bQ (T []) Tryz.func146,
 r139:=bQ (T []) Tryz.func181,
 r140:=bQ (T []) Tryz.func178,
 r141:=bQ (T []) Tryz.func169,
 r142:=bQ (T []) Tryz.func180,
 r143:=bQ (T []) Tryz.func179,
 r152:=bQ (T [2]) Tryz.func25,
 r156:=bQ (T [2]) Tryz.func115,
 r161:=bQ (T [1]) Tryz.func54,
 r282:=bQ (T [2]) Tryz.func34,
 r283:=bQ (T [3]) Tryz.func35,
 r284:=bQ (T [2]) Tryz.func32,
 r285:=bQ (T [13]) Tryz.func33,
 r286:=bQ (T [2]) Tryz.func12,
 r287:=bQ (T [1]) Tryz.func42,
 r288:=bQ (T [2,89]) Tryz.func15,
 r289:=bQ (T [2,60,82,87,105]) Tryz.func17,
 r290:=bQ (T [3,5]) Tryz.func19,
 r291:=bQ (T []) Tryz.func109,
 r292:=bQ (T []) Tryz.func72,
 r293:=bQ (T [2]) Tryz.func46,
 r294:=bQ (T []) Tryz.func110,
 r295:=bQ (T []) Tryz.func111,
 r296:=bQ (T [79]) Tryz.func73,
 r297:=bQ (T []) Tryz.func74,
 r298:=bQ (T [1,48,67]) Tryz.func41,
 r299:=bQ (T [1]) Tryz.func75,
 r300:=bQ (T [2]) Tryz.func77,
 r301:=bQ (T [2]) Tryz.func47,
 r302:=bQ (T [2,78,115]) Tryz.func76,
 r303:=bQ (T [1]) Tryz.func43,
 r304:=bQ (T [3]) Tryz.func38,
 r305:=bQ (T [2]) Tryz.func37,
 r306:=bQ (T [1]) Tryz.func44,
 r307:=bQ (T [2,52,95,124,147]) Tryz.func13,
 r308:=bQ (T [3,4,70]) Tryz.func45,
 r311:=bQ (T [3,5]) Tryz.func20,
 r312:=bQ (T [10,19,25,60]) Tryz.func11,
 r314:=bQ (T [3,22,36,41,56]) Tryz.func24 }
end Go.Proofs.YtkknafmijabgaaaGreatDoor
namespace Go.Proofs.YtkknafmijabgaaaGreatDoor
open Go Go.PM Go.RowKit Go.ChangeShapes Go.WideShapes
def argKinds:List AT:=[.one (.sl [.int .u8]),.one (.sl [.int .u8])]
theorem aNU:ND Tryz.prog 8 Tryz.f5.params.toList=some argKinds:=by kernel_rfl
theorem aPN(e:List PV)(h:AT.TyL argKinds e):aJ C 318 e .nil (aK (.bool true)):=by
 match e,h with
 |[E,F],h=>
  obtain⟨j,l,-⟩:=h;cases j with|one j=>
  obtain⟨A,rfl,u,x⟩:=Eh j;cases l with|one l=>
  obtain⟨B,rfl,w,y⟩:=Eh l;exact aHI aTF itoa q A B u x w y
theorem Ph(os:Os)(args:Array Value):laidMetH Tryz.prog Rows.feasibleCutsRow.laid ((World.doorLaid Tryz.prog 400 os).forCall (λ_ _=>0) ⟨#[],args,[]⟩).memory:=
 laidMetH_of_parts3 (fuel:=8) (laidMet_of_run' 8 (by kernel_rfl) (by kernel_rfl)) (by kernel_rfl) (by kernel_rfl)
set_option maxRecDepth 100000 in
theorem axB(os:Os)(e:os.Started)(H:Type)(enc:TypeId × Value→H) :
  ReturnsInHanded {} Tryz.checked os 5 .any (λw args=>(Rows.feasibleCutsSpec.pre enc Tryz.prog Tryz.f5 [] false w args∧laidMetH Tryz.prog Rows.feasibleCutsRow.laid w)∧sizedMet enc Tryz.prog Tryz.f5 (OpenSpec.ofChange Rows.feasibleCutsSpec) false w args)
   (Rows.feasibleCutsSpec.post enc Tryz.prog Tryz.f5 false true false false):=by
 refine returnsInHanded_of_change_and (C:=Tryz.checked) (X:=λw _=>laidMetH Tryz.prog Rows.feasibleCutsRow.laid w) (λ_ _ _ x h=>h.of_heap x) Tryz.own e (by kernel_rfl) Tryz.func5
  (ChangeSpec.witness_shaped (enc:=enc) (C:=Tryz.checked) (os:=os) (X:=λw _=>laidMetH Tryz.prog Rows.feasibleCutsRow.laid w) false (World.doorLaid Tryz.prog 400 os) #[.slice none 0 0,.slice none 0 0] 8 rfl (World.shaped_of_RefB (by kernel_rfl) (by kernel_rfl)) (by kernel_rfl) (by kernel_rfl) (by kernel_rfl) (Ph os _)) ?_
 intro W base args ds B l j hW _ _ _ _;exact O4 (P:=Tryz.prog) (num:=num) (name:=318) (n:=8) (ats:=argKinds) (bt:=4) Tryz.laidOut (by kernel_rfl) (by kernel_rfl) (by kernel_rfl) rfl
  (λds u=>by
   match ds,u with
   |[y,A],_=>exact⟨rfl,rfl,rfl⟩)
  (by kernel_rfl) aNU aPN j hW
theorem d6:Rows.FeasibleCutsSaid:=
 OpenClaim.holds_of_wide 5 Tryz.f5 rfl rfl rfl rfl rfl rfl rfl ⟨rfl,rfl,rfl,rfl,rfl⟩ rfl rfl rfl rfl rfl (by kernel_rfl) Tryz.func5 (by kernel_rfl)
  (of_decide_eq_true (by kernel_rfl)) (by unfold Func.isWrapper;first|(rw[if_pos (by decide +kernel)];kernel_rfl)|(rw[if_neg (by decide +kernel)];exact⟨rfl,rfl⟩))
  (λos e H enc _=>axB os e H enc)
theorem feasibleCuts_card:Rows.FeasibleCutsCardSaid:=
 Claim7.holds_tied_plain_at .later [] [.data,.data,.data] true (true,"1abc24bc01dfb624e2255950c5e5bd558c8c8f8e9041aaebe6d78b793c91b757") false
  d6 (λ_ h=>by cases h) (by kernel_rfl) (λ_ h=>by cases h) feasibleCuts_row_tie rfl ⟨rfl,rfl⟩ (by kernel_rfl) rfl
  (λf fn w l=>by
   obtain rfl:f=5:=a6H.inj ((show Tryz.prog.funcNamed Rows.feasibleCutsRow.func=some 5 by kernel_rfl).symm.trans w) |>.symm
   obtain rfl:fn=Tryz.f5:=(a6H.inj (Tryz.func5.symm.trans l)).symm;exact⟨by kernel_rfl,λj t y=>by
    have x:t∈Tryz.f5.params.toList:=by rw[Array.mem_toList_iff];exact Array.mem_of_getElem? y
    have e:(Tryz.f5.params.toList.all λu=>!Tryz.prog.wantsStandIn u)=true:=by kernel_rfl
    exact(show Tryz.prog.wantsStandIn t=false by simpa using a4T.1 e t x)⟩)
  (by kernel_rfl)
#print axioms feasibleCuts_card
end Go.Proofs.YtkknafmijabgaaaGreatDoor
