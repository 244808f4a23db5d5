/-
  The law of the claim returns true at every input, and its argument reads as it did: the tied card. No condition.
-/
import Derived.Test.YtmjecabkffiabaaGreatDoorRM7
import Derived.Test.YtmjecabkffiabaaGreatDoorTie
import Derived.Test.YtmjecabkffiabaaGreatDoorCards
set_option linter.unusedSimpArgs false
set_option linter.unusedVariables false
open List renaming all_eq_true->auX
open Nat renaming beq->awK
open Option renaming some->awN
set_option maxRecDepth 100000
set_option maxHeartbeats 800000
noncomputable section
namespace Go.Proofs.YtmjecabkffiabaaGreatDoor
open Go Go.PM
theorem q:bJ C 383 PM.iH:=bS Tryz.func3
theorem S6:MI C:={
 r0:=bS Tryz.func13,
 r1:=bS Tryz.func66,
 r2:=bS Tryz.func31,
 r4:=bS Tryz.func12,
 r5:=bS Tryz.func34,
 r6:=bS Tryz.func14,
 r7:=bS Tryz.func33,
 r27:=bS Tryz.func25,
 r28:=bS Tryz.func11,
 r29:=bS Tryz.func32,
 r30:=bS Tryz.func136,
 r31:=bS Tryz.func157,
 r32:=bS Tryz.func65,
 r33:=bS Tryz.func107,
 r34:=bS Tryz.func106,
 r35:=bS Tryz.func69,
 r36:=bS Tryz.func104,
 r37:=bS Tryz.func138,
 r38:=bS Tryz.func29,
 r39:=bS Tryz.func134,
 r40:=bS Tryz.func160,
 r41:=bS Tryz.func131,
 r42:=bS Tryz.func159,
 r43:=bS Tryz.func161,
 r44:=bS Tryz.func132,
 r45:=bS Tryz.func158,
 r46:=bS Tryz.func110,
 r47:=bS Tryz.func27,
 r48:=bS Tryz.func162,
 r49:=bS Tryz.func9,
 r50:=bS Tryz.func35,
 r51:=bS Tryz.func30,
 r52:=bS Tryz.func75,
 r53:=bS Tryz.func26,
 r54:=bS Tryz.func10,
 r55:=bS Tryz.func74,
 r56:=bS Tryz.func8,
 r57:=bS Tryz.func137,
 r58:=bS Tryz.func68,
 r59:=bS Tryz.func70,
 r60:=bS Tryz.func64,
 r61:=bS Tryz.func76,
 r62:=bS Tryz.func71,
 r63:=bS Tryz.func135,
 r64:=bS Tryz.func109,
 r65:=bS Tryz.func108,
 r66:=bS Tryz.func77,
 r67:=bS Tryz.func15,
 r68:=bS Tryz.func39,
 r69:=bS Tryz.func42,
 r70:=bS Tryz.func38,
 r71:=bS Tryz.func72,
 r72:=bS Tryz.func41,
 r73:=bS Tryz.func37,
 r74:=bS Tryz.func40,
 r75:=bS Tryz.func73,
 r76:=bS Tryz.func36,
 r85:=bS Tryz.func5,
 r95:=bS Tryz.func80,
 r96:=bS Tryz.func43,
 r97:=bS Tryz.func112,
 r98:=bS Tryz.func139,
 r99:=bS Tryz.func113,
 r100:=bS Tryz.func141,
 r101:=bS Tryz.func144,
 r102:=bS Tryz.func115,
 r103:=bS Tryz.func140,
 r104:=bS Tryz.func78,
 r105:=bS Tryz.func111,
 r106:=bS Tryz.func116,
 r107:=bS Tryz.func142,
 r108:=bS Tryz.func117,
 r109:=bS Tryz.func143,
 r110:=bS Tryz.func82,
 r111:=bS Tryz.func79,
 r112:=bS Tryz.func81,
 r113:=bS Tryz.func97,
 r114:=bS Tryz.func63,
 r115:=bS Tryz.func21,
 r116:=bS Tryz.func123,
 r117:=bS Tryz.func114,
 r118:=bS Tryz.func62,
 r119:=bS Tryz.func56,
 r120:=bS Tryz.func55,
 r121:=bS Tryz.func102,
 r122:=bS Tryz.func103,
 r123:=bS Tryz.func118,
 r124:=bS Tryz.func163,
 r125:=bS Tryz.func146,
 r126:=bS Tryz.func145,
 r127:=bS Tryz.func124,
 r128:=bS Tryz.func91,
 r129:=bS Tryz.func101,
 r130:=bS Tryz.func92,
 r131:=bS Tryz.func90,
 r132:=bS Tryz.func94,
 r133:=bS Tryz.func130,
 r134:=bS Tryz.func125,
 r135:=bS Tryz.func93,
 r136:=bS Tryz.func121,
 r137:=bS Tryz.func120,
 r138:=bS Tryz.func122,
 r139:=bS Tryz.func150,
 r140:=bS Tryz.func147,
 r141:=bS Tryz.func151,
 r142:=bS Tryz.func149,
 r143:=bS Tryz.func148,
 r152:=bS Tryz.func48,
 r161:=bS Tryz.func84,
 r201:=bS Tryz.func119,
 r202:=bS Tryz.func129,
 r203:=bS Tryz.func85,
 r205:=bS Tryz.func49,
 r206:=bS Tryz.func44,
 r207:=bS Tryz.func45,
 r210:=bS Tryz.func46,
 r211:=bS Tryz.func83,
 r326:=bS Tryz.func4,
 r328:=bS Tryz.func24,
 r333:=bS Tryz.func6,
 r335:=bS Tryz.func58,
 r336:=bS Tryz.func23,
 r337:=bS Tryz.func47,
 r338:=bS Tryz.func59,
 r342:=bS Tryz.func17,
 r343:=bS Tryz.func18,
 r344:=bS Tryz.func19,
 r345:=bS Tryz.func20,
 r346:=bS Tryz.func22,
 r348:=bS Tryz.func95,
 r349:=bS Tryz.func96,
 r351:=bS Tryz.func50,
 r352:=bS Tryz.func51,
 r353:=bS Tryz.func52,
 r354:=bS Tryz.func53,
 r355:=bS Tryz.func54,
 r356:=bS Tryz.func57,
 r358:=bS Tryz.func87,
 r359:=bS Tryz.func88,
 r360:=bS Tryz.func89,
 r229:=⟨adK Tryz.f86.body,adL Tryz.f86.body,adN (T Yh) Tryz.func86 (by kernel_rfl)⟩,
 r230:=⟨adK Tryz.f16.body,adL Tryz.f16.body,adN (T Yf) Tryz.func16 (by kernel_rfl)⟩ }
end Go.Proofs.YtmjecabkffiabaaGreatDoor
namespace Go.Proofs.YtmjecabkffiabaaGreatDoor
open Go Go.PM
def roL:List (Nat × N_):=[(32,[]),(34,[]),(35,[8]),(36,[]),(38,[]),(39,[76]),(41,[]),(44,[]),(47,[]),(50,[]),(51,[2,3]),(53,[2,3]),(56,[1]),(58,[16]),(59,[]),(60,[]),(152,[2]),(161,[1]),(201,[3,4]),(202,[]),(203,[2]),(204,[3]),(208,[]),(231,[4,6]),(232,[1]),(278,[2,3]),(279,[]),(328,[4]),(330,[4,5]),(332,[9,21]),(333,[3,4,112,145,179]),(334,[4,5,7]),(335,[]),(336,[]),(337,[1]),(338,[4]),(342,[3,4,37,53,119,142,144,167,191,206]),(343,[]),(344,[]),(345,[]),(346,[]),(347,[4,5]),(348,[1]),(349,[2,3]),(351,[]),(352,[3,20,39]),(353,[3]),(354,[]),(355,[]),(356,[]),(358,[]),(359,[]),(360,[])]
def akP:List (Nat × N_)->Nat->Option N_
 |[],_=>none
 |(n,l)::t,k=>if awK n k then some l else akP t k
noncomputable def tab(k:Nat):Option lF:=match akP roL k with
 |some l=>match Tryz.prog.funcs[num k]? with
  |some fn=>if fn.name=="runtime.NumGoroutine" then none else(T l).func fn
  |none=>none
 |none=>none
theorem alA(k:Nat)(pf:lF)(h:tab k=some pf):jx C k pf:=by
 unfold tab at h;split at h;rename_i l _;split at h;rename_i fn i;split at h;cases h;rename_i w;exact λargs H R u y=>yz (T:=T l) rfl rfl i (by simpa using w) h u y;cases h;cases h
theorem Sv:j6 (JL tab Ii (λ_=>true) XJ 300 30) 332 []=some (.bool true):=by kernel_rfl
theorem ML:aG C 332 [] .nil (aJ (.bool true)):=V1 (L.anT S6 itoa) alA 300 30 Sv
end Go.Proofs.YtmjecabkffiabaaGreatDoor
namespace Go.Proofs.YtmjecabkffiabaaGreatDoor
open Go Go.PM Go.RowKit Go.ChangeShapes Go.WideShapes
def argKinds:List AT:=[.one (.sl [.int .u8]),.one (.sl [.int .u8])]
theorem adS:KL Tryz.prog 8 Tryz.f3.params.toList=some argKinds:=by kernel_rfl
theorem afW(i:V_)(h:AT.TyL argKinds i):aG C 383 i .nil (aJ (.bool true)):=by
 match i,h with
 |[H,J],h=>
  obtain⟨l,u,-⟩:=h;cases l with|one l=>
  obtain⟨E,rfl,w,y⟩:=ye l;cases u with|one u=>
  obtain⟨F,rfl,b1,A⟩:=ye u;exact Uc S6 itoa ML q E F w y b1 A
theorem Fj(os:Os)(args:Array Value):laidMetH Tryz.prog Rows.columnsRoomsRow.laid ((World.doorLaid Tryz.prog 400 os).forCall (λ_ _=>0) ⟨#[],args,[]⟩).memory:=
 laidMetH_of_parts3 (fuel:=8) (laidMet_of_run' 8 (by kernel_rfl) (by kernel_rfl)) (by kernel_rfl) (by kernel_rfl)
set_option maxRecDepth 100000 in
theorem Pz(os:Os)(i:os.Started)(H:Type)(enc:TypeId × Value->H) :
  ReturnsInHanded {} Tryz.checked os 3 .any (λw args=>(Rows.columnsRoomsSpec.pre enc Tryz.prog Tryz.f3 [] false w args/\laidMetH Tryz.prog Rows.columnsRoomsRow.laid w)/\sizedMet enc Tryz.prog Tryz.f3 (OpenSpec.ofChange Rows.columnsRoomsSpec) false w args)
   (Rows.columnsRoomsSpec.post enc Tryz.prog Tryz.f3 false true false false):=by
 refine returnsInHanded_of_change_and (C:=Tryz.checked) (X:=λw _=>laidMetH Tryz.prog Rows.columnsRoomsRow.laid w) (λ_ _ _ A h=>h.of_heap A) Tryz.own i (by kernel_rfl) Tryz.func3
  (ChangeSpec.witness_shaped (enc:=enc) (C:=Tryz.checked) (os:=os) (X:=λw _=>laidMetH Tryz.prog Rows.columnsRoomsRow.laid w) false (World.doorLaid Tryz.prog 400 os) #[.slice none 0 0,.slice none 0 0] 8 rfl (World.shaped_of_RefB (by kernel_rfl) (by kernel_rfl)) (by kernel_rfl) (by kernel_rfl) (by kernel_rfl) (Fj os _)) ?_
 intro W base args ds J u l hW _ _ _ _;exact Ez (P:=Tryz.prog) (num:=num) (name:=383) (n:=8) (ats:=argKinds) (bt:=4) Tryz.laidOut (by kernel_rfl) (by kernel_rfl) (by kernel_rfl) rfl
  (λds y=>by
   match ds,y with
   |[E,F],_=>exact⟨rfl,rfl,rfl⟩)
  (by kernel_rfl) adS afW l hW
theorem YP:Rows.ColumnsRoomsSaid:=
 OpenClaim.holds_of_wide 3 Tryz.f3 rfl rfl rfl rfl rfl rfl rfl ⟨rfl,rfl,rfl,rfl,rfl⟩ rfl rfl rfl rfl rfl (by kernel_rfl) Tryz.func3 (by kernel_rfl)
  (of_decide_eq_true (by kernel_rfl)) (by unfold Func.isWrapper;first|(rw[aD (by decide +kernel)];kernel_rfl)|(rw[aB (by decide +kernel)];exact⟨rfl,rfl⟩))
  (λos i H enc _=>Pz os i H enc)
theorem columnsRooms_card:Rows.ColumnsRoomsCardSaid:=
 Claim7.holds_tied_plain_at .later [] [.data,.data,.data] true (true,"007a8146c2475cec8ec3a8f689b452f7664328dc4c395bddcdc9b9da7490e59d") false
  YP (λ_ h=>by cases h) (by kernel_rfl) (λ_ h=>by cases h) columnsRooms_row_tie rfl ⟨rfl,rfl⟩ (by kernel_rfl) rfl
  (λf fn w l=>by
   obtain rfl:f=3:=awN.inj ((show Tryz.prog.funcNamed Rows.columnsRoomsRow.func=some 3 by kernel_rfl).symm.trans w) |>.symm
   obtain rfl:fn=Tryz.f3:=(awN.inj (Tryz.func3.symm.trans l)).symm;exact⟨by kernel_rfl,λj t A=>by
    have y:t∈Tryz.f3.params.toList:=by rw[Array.mem_toList_iff];exact Array.mem_of_getElem? A
    have i:(Tryz.f3.params.toList.all λu=>!Tryz.prog.wantsStandIn u)=true:=by kernel_rfl
    exact(show Tryz.prog.wantsStandIn t=false by simpa using auX.1 i t y)⟩)
  (by kernel_rfl)
#print axioms columnsRooms_card
end Go.Proofs.YtmjecabkffiabaaGreatDoor
