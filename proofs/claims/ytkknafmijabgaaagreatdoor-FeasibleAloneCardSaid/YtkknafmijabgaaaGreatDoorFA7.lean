/-
  The law of the claim returns true at every input, and its argument reads as it did: the tied card. No condition.
-/
import Derived.Test.YtkknafmijabgaaaGreatDoorFA1
import Derived.Test.YtkknafmijabgaaaGreatDoorFA2
import Derived.Test.YtkknafmijabgaaaGreatDoorFA3
import Derived.Test.YtkknafmijabgaaaGreatDoorFA4
import Derived.Test.YtkknafmijabgaaaGreatDoorFA5
import Derived.Test.YtkknafmijabgaaaGreatDoorFA6
import Derived.Test.YtkknafmijabgaaaGreatDoorTie
import Derived.Test.YtkknafmijabgaaaGreatDoorCards
set_option linter.unusedSimpArgs false
set_option linter.unusedVariables false
open List renaming all_eq_true → aBI
open Option renaming some → aCD
namespace Go.Proofs.YtkknafmijabgaaaGreatDoor
open Go Go.PM
theorem q:bQ C 320 PM.fm:=bV (T aaK) Tryz.func7
theorem apA:cT C:={
 r0:=bV (T X3) Tryz.func22,
 r1:=bV (T aeA) Tryz.func78,
 r2:=bV (T alP) Tryz.func48,
 r4:=bV (T aeK) Tryz.func26,
 r5:=bV (T alT) Tryz.func52,
 r6:=bV (T aeP) Tryz.func23,
 r7:=bV (T aeB) Tryz.func51,
 r27:=bV (T X0) Tryz.func10,
 r28:=bV (T alR) Tryz.func21,
 r29:=bV (T aeI) Tryz.func49,
 r31:=bV (T agP) Tryz.func163,
 r32:=bV (T anN) Tryz.func141,
 r33:=bV (T anP) Tryz.func114,
 r34:=bV (T anR) Tryz.func113,
 r35:=bV (T agX) Tryz.func81,
 r38:=bV (T ahG) Tryz.func103,
 r39:=bV (T Vj) Tryz.func144,
 r40:=bV (T agU) Tryz.func167,
 r41:=bV (T Zx) Tryz.func143,
 r42:=bV (T Zz) Tryz.func166,
 r43:=bV (T ahD) Tryz.func171,
 r44:=bV (T Z3) Tryz.func165,
 r45:=bV (T aqF) Tryz.func164,
 r47:=bV (T anV) Tryz.func50,
 r50:=bV (T ahM) Tryz.func53,
 r58:=bV (T Vy) Tryz.func80,
 r59:=bV (T ahO) Tryz.func82,
 r77:=bV (T J5) Tryz.func39,
 r95:=bV (T akI) Tryz.func60,
 r96:=bV (T akT) Tryz.func31,
 r97:=bV (T Xf) Tryz.func89,
 r98:=bV (T acF) Tryz.func129,
 r99:=bV (T acH) Tryz.func90,
 r100:=bV (T acJ) Tryz.func131,
 r101:=bV (T akO) Tryz.func134,
 r102:=bV (T acM) Tryz.func94,
 r103:=bV (T Xh) Tryz.func130,
 r104:=bV (T apF) Tryz.func58,
 r105:=bV (T akK) Tryz.func88,
 r106:=bV (T akM) Tryz.func95,
 r107:=bV (T acR) Tryz.func132,
 r108:=bV (T acU) Tryz.func96,
 r109:=bV (T Xk) Tryz.func133,
 r110:=bV (T acX) Tryz.func62,
 r111:=bV (T akG) Tryz.func59,
 r112:=bV (T akQ) Tryz.func61,
 r113:=bV (T ajP) Tryz.func122,
 r114:=bV (T ajT) Tryz.func93,
 r115:=bV (T abX) Tryz.func92,
 r116:=bV (T S0) Tryz.func119,
 r117:=bV (T akC) Tryz.func91,
 r118:=bV (T Xb) Tryz.func125,
 r119:=bV (T ajN) Tryz.func124,
 r120:=bV (T Sv) Tryz.func123,
 r121:=bV (T W9) Tryz.func127,
 r122:=bV (T acD) Tryz.func128,
 r123:=bV (T adM) Tryz.func97,
 r124:=bV (T Xs) Tryz.func153,
 r125:=bV (T Xx) Tryz.func136,
 r126:=bV (T Tw) Tryz.func135,
 r127:=bV (T alW) Tryz.func147,
 r128:=bV (T aeT) Tryz.func120,
 r129:=bV (T amB) Tryz.func126,
 r130:=bV (T amD) Tryz.func150,
 r131:=bV (T amM) Tryz.func149,
 r132:=bV (T afC) Tryz.func121,
 r133:=bV (T amO) Tryz.func152,
 r134:=bV (T amQ) Tryz.func148,
 r135:=bV (T afI) Tryz.func151,
 r136:=bV (T Uf) Tryz.func170,
 r137:=bV (T Yk) Tryz.func168,
 r138:=bV (T Un) Tryz.func146,
 r139:=bV (T J1) Tryz.func181,
 r140:=bV (T Yn) Tryz.func178,
 r141:=bV (T Yp) Tryz.func169,
 r142:=bV (T Fm) Tryz.func180,
 r143:=bV (T apQ) Tryz.func179,
 r152:=bV (T agM) Tryz.func25,
 r156:=bV (T agJ) Tryz.func115,
 r161:=bV (T Zt) Tryz.func54,
 r282:=bV (T amS) Tryz.func34,
 r283:=bV (T amF) Tryz.func35,
 r284:=bV (T amH) Tryz.func32,
 r285:=bV (T alZ) Tryz.func33,
 r286:=bV (T ajY) Tryz.func12,
 r287:=bV (T ajV) Tryz.func42,
 r288:=bV (T W5) Tryz.func15,
 r289:=bV (T akE) Tryz.func17,
 r290:=bV (T ajR) Tryz.func19,
 r291:=bV (T aeM) Tryz.func109,
 r292:=bV (T Yg) Tryz.func72,
 r293:=bV (T alM) Tryz.func46,
 r294:=bV (T adV) Tryz.func110,
 r295:=bV (T adS) Tryz.func111,
 r296:=bV (T X9) Tryz.func73,
 r297:=bV (T alJ) Tryz.func74,
 r298:=bV (T Yc) Tryz.func41,
 r312:=bV (T aaM) Tryz.func11,
 r315:=bV (T aaO) Tryz.func27 }
end Go.Proofs.YtkknafmijabgaaaGreatDoor
namespace Go.Proofs.YtkknafmijabgaaaGreatDoor
open Go Go.PM Go.RowKit Go.ChangeShapes Go.WideShapes
def argKinds:List AT:=[.one (.sl [.int .u8])]
theorem aiR:DN Tryz.prog 8 Tryz.f7.params.toList=some argKinds:=by kernel_rfl
theorem alE (e:List PV) (h:AT.TyL argKinds e):aG C 320 e .nil (aM (.bool true)):=by
 match e,h with
 | [x],h =>
  obtain⟨j,-⟩:=h;cases j with | one j =>
  obtain⟨w,rfl,l,u⟩:=Wg j;exact Ww apA itoa q w l u
theorem wj (os:Os) (args:Array Value):laidMetH Tryz.prog Rows.feasibleAloneRow.laid ((World.doorLaid Tryz.prog 400 os).forCall (fun _ _=>0) ⟨#[],args,[]⟩).memory :=
 laidMetH_of_parts3 (fuel:=8) (laidMet_of_run' 8 (by kernel_rfl) (by kernel_rfl)) (by kernel_rfl) (by kernel_rfl)
set_option maxRecDepth 100000 in
theorem Tu (os:Os) (e:os.Started) (H:Type) (enc:TypeId × Value→H) :
  ReturnsInHanded {} Tryz.checked os 7 .any (fun w args=>(Rows.feasibleAloneSpec.pre enc Tryz.prog Tryz.f7 [] false w args∧laidMetH Tryz.prog Rows.feasibleAloneRow.laid w)∧sizedMet enc Tryz.prog Tryz.f7 (OpenSpec.ofChange Rows.feasibleAloneSpec) false w args)
   (Rows.feasibleAloneSpec.post enc Tryz.prog Tryz.f7 false true false false):=by
 refine returnsInHanded_of_change_and (C:=Tryz.checked) (X:=fun w _=>laidMetH Tryz.prog Rows.feasibleAloneRow.laid w) (fun _ _ _ x h=>h.of_heap x) Tryz.own e (by kernel_rfl) Tryz.func7
  (ChangeSpec.witness_shaped (enc:=enc) (C:=Tryz.checked) (os:=os) (X:=fun w _=>laidMetH Tryz.prog Rows.feasibleAloneRow.laid w) false (World.doorLaid Tryz.prog 400 os) #[.slice none 0 0] 8 rfl (World.shaped_of_RefB (by kernel_rfl) (by kernel_rfl)) (by kernel_rfl) (by kernel_rfl) (by kernel_rfl) (wj os _)) ?_
 intro W base args ds A l j hW _ _ _ _;exact v6 (P:=Tryz.prog) (num:=num) (name:=320) (n:=8) (ats:=argKinds) (bt:=4) Tryz.laidOut (by kernel_rfl) (by kernel_rfl) (by kernel_rfl) rfl
  (fun ds u=>by
   match ds,u with
   | [y],_=>exact⟨rfl,rfl,rfl⟩)
  (by kernel_rfl) aiR alE j hW
theorem KT:Rows.FeasibleAloneSaid :=
 OpenClaim.holds_of_wide 7 Tryz.f7 rfl rfl rfl rfl rfl rfl rfl ⟨rfl,rfl,rfl,rfl,rfl⟩ rfl rfl rfl rfl rfl (by kernel_rfl) Tryz.func7 (by kernel_rfl)
  (of_decide_eq_true (by kernel_rfl)) (by unfold Func.isWrapper; first | (rw[if_pos (by decide +kernel)]; kernel_rfl) | (rw[if_neg (by decide +kernel)]; exact⟨rfl,rfl⟩))
  (fun os e H enc _=>Tu os e H enc)
theorem feasibleAlone_card:Rows.FeasibleAloneCardSaid :=
 Claim7.holds_tied_plain_at .later [] [.data,.data,.data] true (true,"1abc24bc01dfb624e2255950c5e5bd558c8c8f8e9041aaebe6d78b793c91b757") false
  KT (fun _ h=>by cases h) (by kernel_rfl) (fun _ h=>by cases h) feasibleAlone_row_tie rfl ⟨rfl,rfl⟩ (by kernel_rfl) rfl
  (fun f fn w l=>by
   obtain rfl:f=7:=aCD.inj ((show Tryz.prog.funcNamed Rows.feasibleAloneRow.func=some 7 by kernel_rfl).symm.trans w) |>.symm
   obtain rfl:fn=Tryz.f7:=(aCD.inj (Tryz.func7.symm.trans l)).symm;exact⟨by kernel_rfl,fun j t y=>by
    have x:t∈Tryz.f7.params.toList:=by rw[Array.mem_toList_iff];exact Array.mem_of_getElem? y
    have e:(Tryz.f7.params.toList.all fun u=>!Tryz.prog.wantsStandIn u)=true:=by kernel_rfl
    exact (show Tryz.prog.wantsStandIn t=false by simpa using aBI.1 e t x)⟩)
  (by kernel_rfl)
#print axioms feasibleAlone_card
end Go.Proofs.YtkknafmijabgaaaGreatDoor
