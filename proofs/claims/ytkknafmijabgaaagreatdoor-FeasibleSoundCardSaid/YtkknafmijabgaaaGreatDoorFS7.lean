/-
  The law of the claim returns true at every input, and its argument reads as it did: the tied card. No condition.
-/
import Derived.Test.YtkknafmijabgaaaGreatDoorFS1
import Derived.Test.YtkknafmijabgaaaGreatDoorFS2
import Derived.Test.YtkknafmijabgaaaGreatDoorFS3
import Derived.Test.YtkknafmijabgaaaGreatDoorFS4
import Derived.Test.YtkknafmijabgaaaGreatDoorFS5
import Derived.Test.YtkknafmijabgaaaGreatDoorFS6
import Derived.Test.YtkknafmijabgaaaGreatDoorTie
import Derived.Test.YtkknafmijabgaaaGreatDoorCards
set_option linter.unusedSimpArgs false
set_option linter.unusedVariables false
open List renaming all_eq_true → aIA
open Option renaming some → aIU
namespace Go.Proofs.YtkknafmijabgaaaGreatDoor
open Go Go.PM
theorem q:bO C 322 PM.jt:=bR (T agR) Tryz.func9
theorem avQ:cP C:={
 r0:=bR (T acV) Tryz.func22,
 r1:=bR (T akF) Tryz.func78,
 r2:=bR (T asI) Tryz.func48,
 r3:=bR (T Ya) Tryz.func30,
 r4:=bR (T akT) Tryz.func26,
 r5:=bR (T asO) Tryz.func52,
 r6:=bR (T akY) Tryz.func23,
 r7:=bR (T akG) Tryz.func51,
 r27:=bR (T acT) Tryz.func10,
 r28:=bR (T asM) Tryz.func21,
 r29:=bR (T akQ) Tryz.func49,
 r31:=bR (T anG) Tryz.func163,
 r32:=bR (T auG) Tryz.func141,
 r33:=bR (T auI) Tryz.func114,
 r34:=bR (T auK) Tryz.func113,
 r35:=bR (T anO) Tryz.func81,
 r38:=bR (T anX) Tryz.func103,
 r39:=bR (T Zt) Tryz.func144,
 r40:=bR (T anL) Tryz.func167,
 r41:=bR (T afT) Tryz.func143,
 r42:=bR (T afV) Tryz.func166,
 r43:=bR (T anU) Tryz.func171,
 r44:=bR (T afX) Tryz.func165,
 r45:=bR (T awV) Tryz.func164,
 r47:=bR (T auO) Tryz.func50,
 r50:=bR (T aoE) Tryz.func53,
 r58:=bR (T Z8) Tryz.func80,
 r59:=bR (T aoG) Tryz.func82,
 r82:=bR (T amM) Tryz.func57,
 r95:=bR (T arA) Tryz.func60,
 r96:=bR (T arL) Tryz.func31,
 r97:=bR (T abZ) Tryz.func89,
 r98:=bR (T aiI) Tryz.func129,
 r99:=bR (T aiK) Tryz.func90,
 r100:=bR (T aiM) Tryz.func131,
 r101:=bR (T arG) Tryz.func134,
 r102:=bR (T aiP) Tryz.func94,
 r103:=bR (T acB) Tryz.func130,
 r104:=bR (T avU) Tryz.func58,
 r105:=bR (T arC) Tryz.func88,
 r106:=bR (T arE) Tryz.func95,
 r107:=bR (T aiU) Tryz.func132,
 r108:=bR (T aiX) Tryz.func96,
 r109:=bR (T acE) Tryz.func133,
 r110:=bR (T ajA) Tryz.func62,
 r111:=bR (T aqY) Tryz.func59,
 r112:=bR (T arI) Tryz.func61,
 r113:=bR (T aqH) Tryz.func122,
 r114:=bR (T aqL) Tryz.func93,
 r115:=bR (T ahZ) Tryz.func92,
 r116:=bR (T W8) Tryz.func119,
 r117:=bR (T aqU) Tryz.func91,
 r118:=bR (T abV) Tryz.func125,
 r119:=bR (T aqF) Tryz.func124,
 r120:=bR (T W3) Tryz.func123,
 r121:=bR (T abT) Tryz.func127,
 r122:=bR (T aiG) Tryz.func128,
 r123:=bR (T ajR) Tryz.func97,
 r124:=bR (T acL) Tryz.func153,
 r125:=bR (T acQ) Tryz.func136,
 r126:=bR (T X2) Tryz.func135,
 r127:=bR (T asR) Tryz.func147,
 r128:=bR (T alC) Tryz.func120,
 r129:=bR (T asW) Tryz.func126,
 r130:=bR (T asY) Tryz.func150,
 r131:=bR (T atH) Tryz.func149,
 r132:=bR (T alL) Tryz.func121,
 r133:=bR (T atJ) Tryz.func152,
 r134:=bR (T atL) Tryz.func148,
 r135:=bR (T alR) Tryz.func151,
 r136:=bR (T Ym) Tryz.func170,
 r137:=bR (T adM) Tryz.func168,
 r138:=bR (T Yu) Tryz.func146,
 r139:=bR (T Od) Tryz.func181,
 r140:=bR (T adP) Tryz.func178,
 r141:=bR (T adR) Tryz.func169,
 r142:=bR (T Je) Tryz.func180,
 r143:=bR (T awF) Tryz.func179,
 r150:=bR (T afG) Tryz.func28,
 r152:=bR (T amY) Tryz.func25,
 r154:=bR (T anC) Tryz.func55,
 r156:=bR (T amT) Tryz.func115,
 r157:=bR (T afI) Tryz.func85,
 r158:=bR (T anE) Tryz.func84,
 r159:=bR (T afP) Tryz.func116,
 r160:=bR (T afL) Tryz.func83,
 r161:=bR (T afN) Tryz.func54,
 r282:=bR (T atN) Tryz.func34,
 r283:=bR (T atA) Tryz.func35,
 r284:=bR (T atC) Tryz.func32,
 r285:=bR (T asU) Tryz.func33,
 r286:=bR (T aqQ) Tryz.func12,
 r287:=bR (T aqN) Tryz.func42,
 r288:=bR (T abP) Tryz.func15,
 r289:=bR (T aqW) Tryz.func17,
 r290:=bR (T aqJ) Tryz.func19,
 r291:=bR (T akV) Tryz.func109,
 r292:=bR (T adI) Tryz.func72,
 r293:=bR (T asF) Tryz.func46,
 r294:=bR (T akA) Tryz.func110,
 r295:=bR (T ajX) Tryz.func111,
 r296:=bR (T adB) Tryz.func73,
 r297:=bR (T asC) Tryz.func74,
 r298:=bR (T adE) Tryz.func41,
 r312:=bR (T agO) Tryz.func11 }
end Go.Proofs.YtkknafmijabgaaaGreatDoor
namespace Go.Proofs.YtkknafmijabgaaaGreatDoor
open Go Go.PM Go.RowKit Go.ChangeShapes Go.WideShapes
def argKinds:List AT:=[.one (.sl [.int .u8])]
theorem apJ:FW Tryz.prog 8 Tryz.f9.params.toList=some argKinds:=by kernel_rfl
theorem arW (e:List PV) (h:AT.TyL argKinds e):aG C 322 e .nil (aM (.bool true)):=by
 match e,h with
 | [x],h =>
  obtain⟨j,-⟩:=h;cases j with | one j =>
  obtain⟨w,rfl,l,u⟩:=aaQ j;exact abI avQ itoa q w l u
theorem Ar (os:Os) (args:Array Value):laidMetH Tryz.prog Rows.feasibleSoundRow.laid ((World.doorLaid Tryz.prog 400 os).forCall (fun _ _=>0) ⟨#[],args,[]⟩).memory :=
 laidMetH_of_parts3 (fuel:=8) (laidMet_of_run' 8 (by kernel_rfl) (by kernel_rfl)) (by kernel_rfl) (by kernel_rfl)
set_option maxRecDepth 100000 in
theorem X0 (os:Os) (e:os.Started) (H:Type) (enc:TypeId × Value→H) :
  ReturnsInHanded {} Tryz.checked os 9 .any (fun w args=>(Rows.feasibleSoundSpec.pre enc Tryz.prog Tryz.f9 [] false w args∧laidMetH Tryz.prog Rows.feasibleSoundRow.laid w)∧sizedMet enc Tryz.prog Tryz.f9 (OpenSpec.ofChange Rows.feasibleSoundSpec) false w args)
   (Rows.feasibleSoundSpec.post enc Tryz.prog Tryz.f9 false true false false):=by
 refine returnsInHanded_of_change_and (C:=Tryz.checked) (X:=fun w _=>laidMetH Tryz.prog Rows.feasibleSoundRow.laid w) (fun _ _ _ x h=>h.of_heap x) Tryz.own e (by kernel_rfl) Tryz.func9
  (ChangeSpec.witness_shaped (enc:=enc) (C:=Tryz.checked) (os:=os) (X:=fun w _=>laidMetH Tryz.prog Rows.feasibleSoundRow.laid w) false (World.doorLaid Tryz.prog 400 os) #[.slice none 0 0] 8 rfl (World.shaped_of_RefB (by kernel_rfl) (by kernel_rfl)) (by kernel_rfl) (by kernel_rfl) (by kernel_rfl) (Ar os _)) ?_
 intro W base args ds A l j hW _ _ _ _;exact Ah (P:=Tryz.prog) (num:=num) (name:=322) (n:=8) (ats:=argKinds) (bt:=4) Tryz.laidOut (by kernel_rfl) (by kernel_rfl) (by kernel_rfl) rfl
  (fun ds u=>by
   match ds,u with
   | [y],_=>exact⟨rfl,rfl,rfl⟩)
  (by kernel_rfl) apJ arW j hW
theorem NM:Rows.FeasibleSoundSaid :=
 OpenClaim.holds_of_wide 9 Tryz.f9 rfl rfl rfl rfl rfl rfl rfl ⟨rfl,rfl,rfl,rfl,rfl⟩ rfl rfl rfl rfl rfl (by kernel_rfl) Tryz.func9 (by kernel_rfl)
  (of_decide_eq_true (by kernel_rfl)) (by unfold Func.isWrapper; first | (rw[if_pos (by decide +kernel)]; kernel_rfl) | (rw[if_neg (by decide +kernel)]; exact⟨rfl,rfl⟩))
  (fun os e H enc _=>X0 os e H enc)
theorem feasibleSound_card:Rows.FeasibleSoundCardSaid :=
 Claim7.holds_tied_plain_at .later [] [.data,.data,.data] true (true,"1abc24bc01dfb624e2255950c5e5bd558c8c8f8e9041aaebe6d78b793c91b757") false
  NM (fun _ h=>by cases h) (by kernel_rfl) (fun _ h=>by cases h) feasibleSound_row_tie rfl ⟨rfl,rfl⟩ (by kernel_rfl) rfl
  (fun f fn w l=>by
   obtain rfl:f=9:=aIU.inj ((show Tryz.prog.funcNamed Rows.feasibleSoundRow.func=some 9 by kernel_rfl).symm.trans w) |>.symm
   obtain rfl:fn=Tryz.f9:=(aIU.inj (Tryz.func9.symm.trans l)).symm;exact⟨by kernel_rfl,fun j t y=>by
    have x:t∈Tryz.f9.params.toList:=by rw[Array.mem_toList_iff];exact Array.mem_of_getElem? y
    have e:(Tryz.f9.params.toList.all fun u=>!Tryz.prog.wantsStandIn u)=true:=by kernel_rfl
    exact (show Tryz.prog.wantsStandIn t=false by simpa using aIA.1 e t x)⟩)
  (by kernel_rfl)
#print axioms feasibleSound_card
end Go.Proofs.YtkknafmijabgaaaGreatDoor
