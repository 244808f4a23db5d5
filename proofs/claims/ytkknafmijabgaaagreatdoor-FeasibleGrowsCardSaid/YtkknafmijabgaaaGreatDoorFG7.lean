/-
  The law of the claim returns true at every input, and its argument reads as it did: the tied card. No condition.
-/
import Derived.Test.YtkknafmijabgaaaGreatDoorFG1
import Derived.Test.YtkknafmijabgaaaGreatDoorFG2
import Derived.Test.YtkknafmijabgaaaGreatDoorFG3
import Derived.Test.YtkknafmijabgaaaGreatDoorFG4
import Derived.Test.YtkknafmijabgaaaGreatDoorFG5
import Derived.Test.YtkknafmijabgaaaGreatDoorFG6
import Derived.Test.YtkknafmijabgaaaGreatDoorTie
import Derived.Test.YtkknafmijabgaaaGreatDoorCards
set_option linter.unusedSimpArgs false
set_option linter.unusedVariables false
open List renaming all_eq_true → aBK
open Option renaming some → aCI
namespace Go.Proofs.YtkknafmijabgaaaGreatDoor
open Go Go.PM
theorem q:bR C 319 PM.fz:=bW (T aaS) Tryz.func6
theorem apE:cS C:={
 r0:=bW (T Yd) Tryz.func22,
 r1:=bW (T aeG) Tryz.func78,
 r2:=bW (T alY) Tryz.func48,
 r4:=bW (T aeR) Tryz.func26,
 r5:=bW (T amC) Tryz.func52,
 r6:=bW (T aeW) Tryz.func23,
 r7:=bW (T aeH) Tryz.func51,
 r27:=bW (T X9) Tryz.func10,
 r28:=bW (T amA) Tryz.func21,
 r29:=bW (T aeO) Tryz.func49,
 r31:=bW (T agV) Tryz.func163,
 r32:=bW (T anT) Tryz.func141,
 r33:=bW (T anV) Tryz.func114,
 r34:=bW (T anX) Tryz.func113,
 r35:=bW (T ahD) Tryz.func81,
 r38:=bW (T ahM) Tryz.func103,
 r39:=bW (T Vs) Tryz.func144,
 r40:=bW (T ahA) Tryz.func167,
 r41:=bW (T Z6) Tryz.func143,
 r42:=bW (T Z8) Tryz.func166,
 r43:=bW (T ahJ) Tryz.func171,
 r44:=bW (T aaA) Tryz.func165,
 r45:=bW (T aqM) Tryz.func164,
 r47:=bW (T aoB) Tryz.func50,
 r50:=bW (T ahS) Tryz.func53,
 r58:=bW (T V5) Tryz.func80,
 r59:=bW (T ahU) Tryz.func82,
 r95:=bW (T akQ) Tryz.func60,
 r96:=bW (T alB) Tryz.func31,
 r97:=bW (T Xq) Tryz.func89,
 r98:=bW (T acL) Tryz.func129,
 r99:=bW (T acN) Tryz.func90,
 r100:=bW (T acP) Tryz.func131,
 r101:=bW (T akW) Tryz.func134,
 r102:=bW (T acS) Tryz.func94,
 r103:=bW (T Xs) Tryz.func130,
 r104:=bW (T apJ) Tryz.func58,
 r105:=bW (T akS) Tryz.func88,
 r106:=bW (T akU) Tryz.func95,
 r107:=bW (T acX) Tryz.func132,
 r108:=bW (T adA) Tryz.func96,
 r109:=bW (T Xv) Tryz.func133,
 r110:=bW (T adD) Tryz.func62,
 r111:=bW (T akO) Tryz.func59,
 r112:=bW (T akY) Tryz.func61,
 r113:=bW (T ajV) Tryz.func122,
 r114:=bW (T ajZ) Tryz.func93,
 r115:=bW (T acB) Tryz.func92,
 r116:=bW (T S6) Tryz.func119,
 r117:=bW (T akK) Tryz.func91,
 r118:=bW (T Xm) Tryz.func125,
 r119:=bW (T ajT) Tryz.func124,
 r120:=bW (T S0) Tryz.func123,
 r121:=bW (T Xk) Tryz.func127,
 r122:=bW (T acJ) Tryz.func128,
 r123:=bW (T adS) Tryz.func97,
 r124:=bW (T X2) Tryz.func153,
 r125:=bW (T X7) Tryz.func136,
 r126:=bW (T T3) Tryz.func135,
 r127:=bW (T amF) Tryz.func147,
 r128:=bW (T afA) Tryz.func120,
 r129:=bW (T amK) Tryz.func126,
 r130:=bW (T amM) Tryz.func150,
 r131:=bW (T amV) Tryz.func149,
 r132:=bW (T afI) Tryz.func121,
 r133:=bW (T amX) Tryz.func152,
 r134:=bW (T amZ) Tryz.func148,
 r135:=bW (T afO) Tryz.func151,
 r136:=bW (T Ul) Tryz.func170,
 r137:=bW (T Yu) Tryz.func168,
 r138:=bW (T Uv) Tryz.func146,
 r139:=bW (T J2) Tryz.func181,
 r140:=bW (T Yx) Tryz.func178,
 r141:=bW (T Yz) Tryz.func169,
 r142:=bW (T Fj) Tryz.func180,
 r143:=bW (T apV) Tryz.func179,
 r152:=bW (T agT) Tryz.func25,
 r156:=bW (T agP) Tryz.func115,
 r161:=bW (T Z2) Tryz.func54,
 r282:=bW (T anB) Tryz.func34,
 r283:=bW (T amO) Tryz.func35,
 r284:=bW (T amQ) Tryz.func32,
 r285:=bW (T amI) Tryz.func33,
 r286:=bW (T akE) Tryz.func12,
 r287:=bW (T akB) Tryz.func42,
 r288:=bW (T Xf) Tryz.func15,
 r289:=bW (T akM) Tryz.func17,
 r290:=bW (T ajX) Tryz.func19,
 r291:=bW (T aeT) Tryz.func109,
 r292:=bW (T Yq) Tryz.func72,
 r293:=bW (T alV) Tryz.func46,
 r294:=bW (T aeB) Tryz.func110,
 r295:=bW (T adY) Tryz.func111,
 r296:=bW (T Yj) Tryz.func73,
 r297:=bW (T alS) Tryz.func74,
 r298:=bW (T Ym) Tryz.func41,
 r312:=bW (T aaQ) Tryz.func11 }
end Go.Proofs.YtkknafmijabgaaaGreatDoor
namespace Go.Proofs.YtkknafmijabgaaaGreatDoor
open Go Go.PM Go.RowKit Go.ChangeShapes Go.WideShapes
def argKinds:List AT:=[.one (.sl [.int .u8]),.one (.sl [.int .u8]),.one (.int .u8)]
theorem aiZ:DL Tryz.prog 8 Tryz.f6.params.toList=some argKinds:=by kernel_rfl
theorem alM (e:List PV) (h:AT.TyL argKinds e):aG C 319 e .nil (aM (.bool true)):=by
 match e,h with
 | [J,K,M],h =>
  obtain⟨j,l,u,-⟩:=h;cases j with | one j =>
  obtain⟨E,rfl,w,A⟩:=kq j;cases l with | one l =>
  obtain⟨F,rfl,x,B⟩:=kq l;cases u with | one u =>
  obtain⟨I,rfl,y⟩:=aqJ u;exact W3 apE itoa q E F w A x B I y
theorem we (os:Os) (args:Array Value):laidMetH Tryz.prog Rows.feasibleGrowsRow.laid ((World.doorLaid Tryz.prog 400 os).forCall (fun _ _=>0) ⟨#[],args,[]⟩).memory :=
 laidMetH_of_parts3 (fuel:=8) (laidMet_of_run' 8 (by kernel_rfl) (by kernel_rfl)) (by kernel_rfl) (by kernel_rfl)
set_option maxRecDepth 100000 in
theorem T1 (os:Os) (e:os.Started) (H:Type) (enc:TypeId × Value→H) :
  ReturnsInHanded {} Tryz.checked os 6 .any (fun w args=>(Rows.feasibleGrowsSpec.pre enc Tryz.prog Tryz.f6 [] false w args∧laidMetH Tryz.prog Rows.feasibleGrowsRow.laid w)∧sizedMet enc Tryz.prog Tryz.f6 (OpenSpec.ofChange Rows.feasibleGrowsSpec) false w args)
   (Rows.feasibleGrowsSpec.post enc Tryz.prog Tryz.f6 false true false false):=by
 refine returnsInHanded_of_change_and (C:=Tryz.checked) (X:=fun w _=>laidMetH Tryz.prog Rows.feasibleGrowsRow.laid w) (fun _ _ _ x h=>h.of_heap x) Tryz.own e (by kernel_rfl) Tryz.func6
  (ChangeSpec.witness_shaped (enc:=enc) (C:=Tryz.checked) (os:=os) (X:=fun w _=>laidMetH Tryz.prog Rows.feasibleGrowsRow.laid w) false (World.doorLaid Tryz.prog 400 os) #[.slice none 0 0,.slice none 0 0,.int .u8 0] 8 rfl (World.shaped_of_RefB (by kernel_rfl) (by kernel_rfl)) (by kernel_rfl) (by kernel_rfl) (by kernel_rfl) (we os _)) ?_
 intro W base args ds E l j hW _ _ _ _;exact vw (P:=Tryz.prog) (num:=num) (name:=319) (n:=8) (ats:=argKinds) (bt:=4) Tryz.laidOut (by kernel_rfl) (by kernel_rfl) (by kernel_rfl) rfl
  (fun ds u=>by
   match ds,u with
   | [y,A,B],_=>exact⟨rfl,rfl,rfl⟩)
  (by kernel_rfl) aiZ alM j hW
theorem KY:Rows.FeasibleGrowsSaid :=
 OpenClaim.holds_of_wide 6 Tryz.f6 rfl rfl rfl rfl rfl rfl rfl ⟨rfl,rfl,rfl,rfl,rfl⟩ rfl rfl rfl rfl rfl (by kernel_rfl) Tryz.func6 (by kernel_rfl)
  (of_decide_eq_true (by kernel_rfl)) (by unfold Func.isWrapper; first | (rw[if_pos (by decide +kernel)]; kernel_rfl) | (rw[if_neg (by decide +kernel)]; exact⟨rfl,rfl⟩))
  (fun os e H enc _=>T1 os e H enc)
theorem feasibleGrows_card:Rows.FeasibleGrowsCardSaid :=
 Claim7.holds_tied_plain_at .later [] [.data,.data,.data] true (true,"1abc24bc01dfb624e2255950c5e5bd558c8c8f8e9041aaebe6d78b793c91b757") false
  KY (fun _ h=>by cases h) (by kernel_rfl) (fun _ h=>by cases h) feasibleGrows_row_tie rfl ⟨rfl,rfl⟩ (by kernel_rfl) rfl
  (fun f fn w l=>by
   obtain rfl:f=6:=aCI.inj ((show Tryz.prog.funcNamed Rows.feasibleGrowsRow.func=some 6 by kernel_rfl).symm.trans w) |>.symm
   obtain rfl:fn=Tryz.f6:=(aCI.inj (Tryz.func6.symm.trans l)).symm;exact⟨by kernel_rfl,fun j t y=>by
    have x:t∈Tryz.f6.params.toList:=by rw[Array.mem_toList_iff];exact Array.mem_of_getElem? y
    have e:(Tryz.f6.params.toList.all fun u=>!Tryz.prog.wantsStandIn u)=true:=by kernel_rfl
    exact (show Tryz.prog.wantsStandIn t=false by simpa using aBK.1 e t x)⟩)
  (by kernel_rfl)
#print axioms feasibleGrows_card
end Go.Proofs.YtkknafmijabgaaaGreatDoor
