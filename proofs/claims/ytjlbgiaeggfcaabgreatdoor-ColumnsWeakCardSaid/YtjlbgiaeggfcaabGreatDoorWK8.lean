/-
  The law of the claim returns true at every input, and its argument reads as it did: the tied card. No condition.
-/
import Derived.Test.YtjlbgiaeggfcaabGreatDoorWK7
import Derived.Test.YtjlbgiaeggfcaabGreatDoorTie
import Derived.Test.YtjlbgiaeggfcaabGreatDoorCards
set_option linter.unusedSimpArgs false
set_option linter.unusedVariables false
open List renaming all_eq_true->biB
open Nat renaming beq->bjT
open Option renaming some->bjV
set_option maxRecDepth 100000
set_option maxHeartbeats 800000
noncomputable section
namespace Go.Proofs.YtjlbgiaeggfcaabGreatDoor
open Go Go.PM
theorem q:bR C 325 PM.W3:=bU (T [94]) Tryz.func3
theorem aLW:bv C:={
 r0:=bU (T [40,67,148,154,176]) Tryz.func16,
 r1:=bU (T []) Tryz.func89,
 r2:=bU (T [45,63,90,95]) Tryz.func39,
 r3:=bU (T [3,62,66]) Tryz.func6,
 r4:=bU (T []) Tryz.func15,
 r5:=bU (T [16]) Tryz.func42,
 r6:=bU (T [3,21]) Tryz.func17,
 r7:=bU (T [60,81,113]) Tryz.func41,
 r27:=bU (T []) Tryz.func28,
 r28:=bU (T []) Tryz.func14,
 r29:=bU (T []) Tryz.func40,
 r30:=bU (T []) Tryz.func162,
 r31:=bU (T []) Tryz.func156,
 r32:=bU (T []) Tryz.func88,
 r33:=bU (T []) Tryz.func92,
 r34:=bU (T []) Tryz.func91,
 r35:=bU (T [8]) Tryz.func44,
 r36:=bU (T []) Tryz.func129,
 r37:=bU (T []) Tryz.func164,
 r38:=bU (T []) Tryz.func74,
 r39:=bU (T [76]) Tryz.func132,
 r40:=bU (T [47]) Tryz.func159,
 r41:=bU (T []) Tryz.func131,
 r42:=bU (T [43]) Tryz.func158,
 r43:=bU (T [51]) Tryz.func174,
 r44:=bU (T []) Tryz.func154,
 r45:=bU (T [35,42]) Tryz.func157,
 r46:=bU (T [2,3]) Tryz.func141,
 r47:=bU (T []) Tryz.func13,
 r48:=bU (T [1]) Tryz.func175,
 r49:=bU (T [2,3]) Tryz.func12,
 r50:=bU (T []) Tryz.func18,
 r51:=bU (T [2,3]) Tryz.func38,
 r52:=bU (T [1]) Tryz.func105,
 r53:=bU (T [2,3]) Tryz.func31,
 r54:=bU (T [1]) Tryz.func62,
 r55:=bU (T []) Tryz.func104,
 r56:=bU (T [1]) Tryz.func30,
 r57:=bU (T [1]) Tryz.func163,
 r58:=bU (T [16]) Tryz.func43,
 r59:=bU (T []) Tryz.func45,
 r60:=bU (T []) Tryz.func87,
 r61:=bU (T []) Tryz.func106,
 r62:=bU (T []) Tryz.func101,
 r63:=bU (T []) Tryz.func161,
 r64:=bU (T []) Tryz.func140,
 r65:=bU (T []) Tryz.func139,
 r66:=bU (T []) Tryz.func107,
 r67:=bU (T [1]) Tryz.func26,
 r68:=bU (T [1]) Tryz.func61,
 r69:=bU (T [6,7]) Tryz.func65,
 r70:=bU (T [8]) Tryz.func60,
 r71:=bU (T []) Tryz.func102,
 r72:=bU (T [7]) Tryz.func64,
 r73:=bU (T []) Tryz.func59,
 r74:=bU (T [1]) Tryz.func63,
 r75:=bU (T []) Tryz.func103,
 r76:=bU (T []) Tryz.func58,
 r77:=bU (T [3,4]) Tryz.func109,
 r80:=bU (T [3]) Tryz.func110,
 r82:=bU (T [2]) Tryz.func19,
 r83:=bU (T [3]) Tryz.func8,
 r84:=bU (T [2]) Tryz.func68,
 r85:=bU (T [2,44]) Tryz.func67,
 r87:=bU (T [3,24,64]) Tryz.func27,
 r88:=bU (T [3]) Tryz.func142,
 r89:=bU (T [2]) Tryz.func108,
 r90:=bU (T [3,27,36,52,81,118,150]) Tryz.func66,
 r95:=bU (T [1]) Tryz.func78,
 r96:=bU (T [1,76,94,128,141,183,204]) Tryz.func33,
 r97:=bU (T [1]) Tryz.func120,
 r98:=bU (T []) Tryz.func146,
 r99:=bU (T []) Tryz.func121,
 r100:=bU (T []) Tryz.func148,
 r101:=bU (T [1]) Tryz.func151,
 r102:=bU (T [1]) Tryz.func123,
 r103:=bU (T []) Tryz.func147,
 r104:=bU (T []) Tryz.func76,
 r105:=bU (T [1]) Tryz.func119,
 r106:=bU (T [7]) Tryz.func124,
 r107:=bU (T []) Tryz.func149,
 r108:=bU (T [6,7]) Tryz.func125,
 r109:=bU (T [1]) Tryz.func150,
 r110:=bU (T []) Tryz.func80,
 r111:=bU (T [1]) Tryz.func77,
 r112:=bU (T [2]) Tryz.func79,
 r113:=bU (T [2,3]) Tryz.func82,
 r114:=bU (T [2,3]) Tryz.func22,
 r115:=bU (T []) Tryz.func54,
 r116:=bU (T [1]) Tryz.func94,
 r117:=bU (T []) Tryz.func122,
 r118:=bU (T [1]) Tryz.func50,
 r119:=bU (T []) Tryz.func99,
 r120:=bU (T []) Tryz.func98,
 r121:=bU (T []) Tryz.func52,
 r122:=bU (T [1]) Tryz.func53,
 r123:=bU (T []) Tryz.func126,
 r124:=bU (T []) Tryz.func165,
 r125:=bU (T []) Tryz.func153,
 r126:=bU (T []) Tryz.func152,
 r127:=bU (T []) Tryz.func127,
 r128:=bU (T []) Tryz.func95,
 r129:=bU (T []) Tryz.func51,
 r130:=bU (T []) Tryz.func136,
 r131:=bU (T []) Tryz.func135,
 r132:=bU (T [9]) Tryz.func138,
 r133:=bU (T []) Tryz.func97,
 r134:=bU (T []) Tryz.func128,
 r135:=bU (T []) Tryz.func137,
 r136:=bU (T []) Tryz.func160,
 r137:=bU (T []) Tryz.func133,
 r138:=bU (T []) Tryz.func96,
 r139:=bU (T []) Tryz.func173,
 r140:=bU (T []) Tryz.func170,
 r141:=bU (T []) Tryz.func134,
 r142:=bU (T []) Tryz.func172,
 r143:=bU (T []) Tryz.func171,
 r152:=bU (T [2]) Tryz.func35,
 r161:=bU (T [1]) Tryz.func83,
 r201:=bU (T [3,4]) Tryz.func86,
 r202:=bU (T []) Tryz.func85,
 r203:=bU (T [2]) Tryz.func84,
 r204:=bU (T [3]) Tryz.func36,
 r205:=bU (T [2]) Tryz.func111,
 r206:=bU (T [2,23,24,50,90]) Tryz.func46,
 r207:=bU (T []) Tryz.func47,
 r208:=bU (T []) Tryz.func37,
 r209:=bU (T [4,7]) Tryz.func11,
 r210:=bU (T []) Tryz.func48,
 r211:=bU (T []) Tryz.func93,
 r231:=bU (T [4,6]) Tryz.func25,
 r232:=bU (T [1]) Tryz.func55,
 r278:=bU (T [2,3]) Tryz.func57,
 r279:=bU (T []) Tryz.func100,
 r326:=bU (T []) Tryz.func4,
 r327:=bU (T [29]) Tryz.func5,
 r328:=bU (T [4]) Tryz.func10,
 r330:=bU (T [4,5]) Tryz.func7,
 r335:=bU (T []) Tryz.func21,
 r336:=bU (T []) Tryz.func23,
 r337:=bU (T [1]) Tryz.func24,
 r338:=bU (T [4]) Tryz.func34,
 r348:=bU (T [1]) Tryz.func49,
 r349:=bU (T [2,3]) Tryz.func81,
 r229:=⟨a0A Tryz.f56.body,a0B Tryz.f56.body,a0D (T aTC) Tryz.func56 (by kernel_rfl)⟩,
 r230:=⟨a0A Tryz.f20.body,a0B Tryz.f20.body,a0D (T aTA) Tryz.func20 (by kernel_rfl)⟩ }
end Go.Proofs.YtjlbgiaeggfcaabGreatDoor
namespace Go.Proofs.YtjlbgiaeggfcaabGreatDoor
open Go Go.PM
def roL:List (Nat × List Nat):=[(32,[]),(34,[]),(35,[8]),(36,[]),(38,[]),(39,[76]),(41,[]),(44,[]),(47,[]),(50,[]),(51,[2,3]),(53,[2,3]),(56,[1]),(58,[16]),(59,[]),(60,[]),(152,[2]),(161,[1]),(201,[3,4]),(202,[]),(203,[2]),(204,[3]),(208,[]),(231,[4,6]),(232,[1]),(278,[2,3]),(279,[]),(328,[4]),(330,[4,5]),(332,[9,21]),(333,[3,4,112,145,179]),(334,[4,5,7]),(335,[]),(336,[]),(337,[1]),(338,[4]),(342,[3,4,37,53,119,142,144,167,191,206]),(343,[]),(344,[]),(345,[]),(346,[]),(347,[4,5]),(348,[1]),(349,[2,3]),(351,[]),(352,[3,20,39]),(353,[3]),(354,[]),(355,[]),(356,[]),(358,[]),(359,[]),(360,[])]
def a7L:List (Nat × List Nat)->Nat->Option (List Nat)
 |[],_=>none
 |(n,l)::t,k=>if bjT n k then some l else a7L t k
noncomputable def tab(k:Nat):Option bD:=match a7L roL k with
 |some l=>match Tryz.prog.funcs[num k]? with
  |some fn=>if fn.name=="runtime.NumGoroutine" then none else(T l).func fn
  |none=>none
 |none=>none
theorem a7X(k:Nat)(pf:bD)(h:tab k=some pf):Af C k pf:=by
 unfold tab at h;split at h
 ·rename_i l _;split at h
  ·rename_i fn d;split at h
   ·cases h
   ·rename_i i;exact λargs H R e p=>Pu (T:=T l) rfl rfl d (by simpa using i) h e p
  ·cases h
 ·cases h
theorem aLL:Al (PX tab ajH (λ_=>true) ln 300 30) 332 []=some (.bool true):=by kernel_rfl
theorem lh:aH C 332 [] .nil (aI (.bool true)):=aPR (L.baL aLW itoa) a7X 300 30 aLL
end Go.Proofs.YtjlbgiaeggfcaabGreatDoor
namespace Go.Proofs.YtjlbgiaeggfcaabGreatDoor
open Go Go.PM Go.RowKit Go.ChangeShapes Go.WideShapes
def argKinds:List AT:=[.one (.sl [.int .u8])]
theorem a0J:RQ Tryz.prog 8 Tryz.f3.params.toList=some argKinds:=by kernel_rfl
theorem a2M(d:List PV)(h:AT.TyL argKinds d):aH C 325 d .nil (aI (.bool true)):=by
 match d,h with
 |[u],h=>
  obtain⟨e,-⟩:=h;cases e with|one e=>
  obtain⟨p,rfl,i,l⟩:=aLN e;exact aUX aLW itoa lh q p i l
theorem Z5(os:Os)(args:Array Value):laidMetH Tryz.prog Rows.columnsWeakRow.laid ((World.doorLaid Tryz.prog 400 os).forCall (λ_ _=>0) ⟨#[],args,[]⟩).memory:=
 laidMetH_of_parts3 (fuel:=8) (laidMet_of_run' 8 (by kernel_rfl) (by kernel_rfl)) (by kernel_rfl) (by kernel_rfl)
set_option maxRecDepth 100000 in
theorem aHL(os:Os)(d:os.Started)(H:Type)(enc:TypeId × Value->H) :
  ReturnsInHanded {} Tryz.checked os 3 .any (λw args=>(Rows.columnsWeakSpec.pre enc Tryz.prog Tryz.f3 [] false w args/\laidMetH Tryz.prog Rows.columnsWeakRow.laid w)/\sizedMet enc Tryz.prog Tryz.f3 (OpenSpec.ofChange Rows.columnsWeakSpec) false w args)
   (Rows.columnsWeakSpec.post enc Tryz.prog Tryz.f3 false true false false):=by
 refine returnsInHanded_of_change_and (C:=Tryz.checked) (X:=λw _=>laidMetH Tryz.prog Rows.columnsWeakRow.laid w) (λ_ _ _ p h=>h.of_heap p) Tryz.own d (by kernel_rfl) Tryz.func3
  (ChangeSpec.witness_shaped (enc:=enc) (C:=Tryz.checked) (os:=os) (X:=λw _=>laidMetH Tryz.prog Rows.columnsWeakRow.laid w) false (World.doorLaid Tryz.prog 400 os) #[.slice none 0 0] 8 rfl (World.shaped_of_RefB (by kernel_rfl) (by kernel_rfl)) (by kernel_rfl) (by kernel_rfl) (by kernel_rfl) (Z5 os _)) ?_
 intro W base args ds x i e hW _ _ _ _;exact Yl (P:=Tryz.prog) (num:=num) (name:=325) (n:=8) (ats:=argKinds) (bt:=4) Tryz.laidOut (by kernel_rfl) (by kernel_rfl) (by kernel_rfl) rfl
  (λds l=>by
   match ds,l with
   |[u],_=>exact⟨rfl,rfl,rfl⟩)
  (by kernel_rfl) a0J a2M e hW
theorem uw:Rows.ColumnsWeakSaid:=
 OpenClaim.holds_of_wide 3 Tryz.f3 rfl rfl rfl rfl rfl rfl rfl ⟨rfl,rfl,rfl,rfl,rfl⟩ rfl rfl rfl rfl rfl (by kernel_rfl) Tryz.func3 (by kernel_rfl)
  (of_decide_eq_true (by kernel_rfl)) (by unfold Func.isWrapper;first|(rw[aG (by decide +kernel)];kernel_rfl)|(rw[aE (by decide +kernel)];exact⟨rfl,rfl⟩))
  (λos d H enc _=>aHL os d H enc)
theorem columnsWeak_card:Rows.ColumnsWeakCardSaid:=
 Claim7.holds_tied_plain_at .later [] [.data,.data,.data] true (true,"a30bb0aba867d982c65637b6b683cdad6f0c4f2fffe0bff89e0a57034266c3ec") false
  uw (λ_ h=>by cases h) (by kernel_rfl) (λ_ h=>by cases h) columnsWeak_row_tie rfl ⟨rfl,rfl⟩ (by kernel_rfl) rfl
  (λf fn i e=>by
   obtain rfl:f=3:=bjV.inj ((show Tryz.prog.funcNamed Rows.columnsWeakRow.func=some 3 by kernel_rfl).symm.trans i) |>.symm
   obtain rfl:fn=Tryz.f3:=(bjV.inj (Tryz.func3.symm.trans e)).symm;exact⟨by kernel_rfl,λj t p=>by
    have l:t∈Tryz.f3.params.toList:=by rw[Array.mem_toList_iff];exact Array.mem_of_getElem? p
    have d:(Tryz.f3.params.toList.all λu=>!Tryz.prog.wantsStandIn u)=true:=by kernel_rfl
    exact(show Tryz.prog.wantsStandIn t=false by simpa using biB.1 d t l)⟩)
  (by kernel_rfl)
#print axioms columnsWeak_card
end Go.Proofs.YtjlbgiaeggfcaabGreatDoor
