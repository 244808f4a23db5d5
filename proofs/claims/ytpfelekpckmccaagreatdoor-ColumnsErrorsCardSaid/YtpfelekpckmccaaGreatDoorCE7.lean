/-
  The law of the claim returns true at every input, and its argument reads as it did: the tied card. No condition.
-/
import Derived.Test.YtpfelekpckmccaaGreatDoorCE1
import Derived.Test.YtpfelekpckmccaaGreatDoorCE2
import Derived.Test.YtpfelekpckmccaaGreatDoorCE3
import Derived.Test.YtpfelekpckmccaaGreatDoorCE4
import Derived.Test.YtpfelekpckmccaaGreatDoorCE5
import Derived.Test.YtpfelekpckmccaaGreatDoorCE6
import Derived.Test.YtpfelekpckmccaaGreatDoorTie
import Derived.Test.YtpfelekpckmccaaGreatDoorCards
set_option linter.unusedSimpArgs false
set_option linter.unusedVariables false
open List renaming all_eq_true→axK
open Nat renaming beq→ayG
open Option renaming some→axZ
set_option maxRecDepth 100000
set_option maxHeartbeats 800000
noncomputable section
namespace Go.Proofs.YtpfelekpckmccaaGreatDoor
open Go Go.PM
theorem q:cK C 324 PM.TC:=cQ (T []) Tryz.func4
theorem Xm:bJ C:={
 r0:=cQ (T [40,67,148,154,176]) Tryz.func25,
 r1:=cQ (T []) Tryz.func121,
 r2:=cQ (T [45,63,90,95]) Tryz.func63,
 r4:=cQ (T []) Tryz.func24,
 r5:=cQ (T [16]) Tryz.func66,
 r7:=cQ (T [60,81,113]) Tryz.func65,
 r27:=cQ (T []) Tryz.func14,
 r28:=cQ (T []) Tryz.func23,
 r29:=cQ (T []) Tryz.func64,
 r31:=cQ (T []) Tryz.func185,
 r32:=cQ (T []) Tryz.func120,
 r33:=cQ (T []) Tryz.func124,
 r34:=cQ (T []) Tryz.func123,
 r35:=cQ (T [8]) Tryz.func68,
 r38:=cQ (T []) Tryz.func94,
 r39:=cQ (T [76]) Tryz.func165,
 r40:=cQ (T [47]) Tryz.func187,
 r41:=cQ (T []) Tryz.func164,
 r42:=cQ (T [43]) Tryz.func178,
 r43:=cQ (T [51]) Tryz.func177,
 r44:=cQ (T []) Tryz.func183,
 r45:=cQ (T [35,42]) Tryz.func186,
 r47:=cQ (T []) Tryz.func22,
 r50:=cQ (T []) Tryz.func27,
 r58:=cQ (T [16]) Tryz.func67,
 r59:=cQ (T []) Tryz.func69,
 r95:=cQ (T [1]) Tryz.func72,
 r96:=cQ (T [1,76,94,128,141,183,204]) Tryz.func28,
 r97:=cQ (T [1]) Tryz.func126,
 r98:=cQ (T []) Tryz.func166,
 r99:=cQ (T []) Tryz.func127,
 r100:=cQ (T []) Tryz.func168,
 r101:=cQ (T [1]) Tryz.func171,
 r102:=cQ (T [1]) Tryz.func129,
 r103:=cQ (T []) Tryz.func167,
 r104:=cQ (T []) Tryz.func70,
 r105:=cQ (T [1]) Tryz.func125,
 r106:=cQ (T [7]) Tryz.func130,
 r107:=cQ (T []) Tryz.func169,
 r108:=cQ (T [6,7]) Tryz.func131,
 r109:=cQ (T [1]) Tryz.func170,
 r110:=cQ (T []) Tryz.func74,
 r111:=cQ (T [1]) Tryz.func71,
 r112:=cQ (T [2]) Tryz.func73,
 r113:=cQ (T [2,3]) Tryz.func77,
 r114:=cQ (T [2,3]) Tryz.func39,
 r115:=cQ (T []) Tryz.func53,
 r116:=cQ (T [1]) Tryz.func133,
 r117:=cQ (T []) Tryz.func128,
 r118:=cQ (T [1]) Tryz.func56,
 r119:=cQ (T []) Tryz.func103,
 r120:=cQ (T []) Tryz.func102,
 r121:=cQ (T []) Tryz.func83,
 r122:=cQ (T [1]) Tryz.func84,
 r123:=cQ (T []) Tryz.func132,
 r124:=cQ (T []) Tryz.func188,
 r125:=cQ (T []) Tryz.func173,
 r126:=cQ (T []) Tryz.func172,
 r127:=cQ (T []) Tryz.func134,
 r128:=cQ (T []) Tryz.func106,
 r129:=cQ (T []) Tryz.func82,
 r130:=cQ (T []) Tryz.func150,
 r131:=cQ (T []) Tryz.func149,
 r132:=cQ (T [9]) Tryz.func152,
 r133:=cQ (T []) Tryz.func141,
 r134:=cQ (T []) Tryz.func135,
 r135:=cQ (T []) Tryz.func151,
 r136:=cQ (T []) Tryz.func180,
 r137:=cQ (T []) Tryz.func174,
 r138:=cQ (T []) Tryz.func140,
 r139:=cQ (T []) Tryz.func192,
 r140:=cQ (T []) Tryz.func189,
 r141:=cQ (T []) Tryz.func175,
 r142:=cQ (T []) Tryz.func191,
 r143:=cQ (T []) Tryz.func190,
 r201:=cQ (T [3,4]) Tryz.func118,
 r202:=cQ (T []) Tryz.func117,
 r203:=cQ (T [2]) Tryz.func116,
 r205:=cQ (T [2]) Tryz.func96,
 r206:=cQ (T [2,23,24,50,90]) Tryz.func46,
 r207:=cQ (T []) Tryz.func47,
 r210:=cQ (T []) Tryz.func48,
 r211:=cQ (T []) Tryz.func95,
 r330:=cQ (T [4,5]) Tryz.func11,
 r333:=cQ (T [3,4,112,145,179]) Tryz.func16,
 r334:=cQ (T [4,5,7]) Tryz.func17,
 r229:=⟨agZ Tryz.f86.body,ahA Tryz.f86.body,ahC (T abV) Tryz.func86 (by kernel_rfl)⟩,
 r230:=⟨agZ Tryz.f15.body,ahA Tryz.f15.body,ahC (T abT) Tryz.func15 (by kernel_rfl)⟩ }
end Go.Proofs.YtpfelekpckmccaaGreatDoor
namespace Go.Proofs.YtpfelekpckmccaaGreatDoor
open Go Go.PM
def roL:List (Nat × List Nat):=[(32,[]),(34,[]),(35,[8]),(36,[]),(38,[]),(39,[76]),(41,[]),(44,[]),(47,[]),(50,[]),(51,[2,3]),(53,[2,3]),(56,[1]),(58,[16]),(59,[]),(60,[]),(152,[2]),(161,[1]),(201,[3,4]),(202,[]),(203,[2]),(204,[3]),(208,[]),(231,[4,6]),(232,[1]),(278,[2,3]),(279,[]),(328,[4]),(330,[4,5]),(332,[9,21]),(333,[3,4,112,145,179]),(334,[4,5,7]),(335,[]),(336,[]),(337,[1]),(338,[4]),(342,[3,4,37,53,119,142,144,167,191,206]),(343,[]),(344,[]),(345,[]),(346,[]),(347,[4,5]),(348,[1]),(349,[2,3]),(351,[]),(352,[3,20,39]),(353,[3]),(354,[]),(355,[]),(356,[]),(358,[]),(359,[]),(360,[])]
def amK:List (Nat × List Nat)→Nat→Option (List Nat)
 |[],_=>none
 |(n,l)::t,k=>if ayG n k then some l else amK t k
noncomputable def tab(k:Nat):Option bH:=match amK roL k with
 |some l=>match Tryz.prog.funcs[num k]? with
  |some fn=>if fn.name=="runtime.NumGoroutine" then none else(T l).func fn
  |none=>none
 |none=>none
theorem amU(k:Nat)(pf:bH)(h:tab k=some pf):bj C k pf:=by
 unfold tab at h;split at h
 ·rename_i l _;split at h
  ·rename_i fn d;split at h
   ·cases h
   ·rename_i i;exact λargs H R e p=>rg (T:=T l) rfl rfl d (by simpa using i) h e p
  ·cases h
 ·cases h
theorem W7:bv (FD tab G2 (λ_=>true) SM 300 30) 332 []=some (.bool true):=by kernel_rfl
theorem bo:aJ C 332 [] .nil (aQ (.bool true)):=Z1 (L.agU Xm itoa) amU 300 30 W7
end Go.Proofs.YtpfelekpckmccaaGreatDoor
namespace Go.Proofs.YtpfelekpckmccaaGreatDoor
open Go Go.PM Go.RowKit Go.ChangeShapes Go.WideShapes
def argKinds:List AT:=[.one (.sl [.int .u8]),.one (.int .i64),.one (.int .i64)]
theorem ahF:GG Tryz.prog 8 Tryz.f4.params.toList=some argKinds:=by kernel_rfl
theorem ajA(d:List PV)(h:AT.TyL argKinds d):aJ C 324 d .nil (aQ (.bool true)):=by
 match d,h with
 |[A,B,E],h=>
  obtain⟨e,i,l,-⟩:=h;cases e with|one e=>
  obtain⟨w,rfl,p,u⟩:=W9 e;cases i with|one i=>
  obtain⟨x,rfl,-⟩:=Ty.TA i;cases l with|one l=>
  obtain⟨y,rfl,-⟩:=Ty.TA l;exact Uu Xm itoa bo q w p u x y
theorem Ae(os:Os)(args:Array Value):laidMetH Tryz.prog Rows.columnsErrorsRow.laid ((World.doorLaid Tryz.prog 400 os).forCall (λ_ _=>0) ⟨#[],args,[]⟩).memory:=
 laidMetH_of_parts3 (fuel:=8) (laidMet_of_run' 8 (by kernel_rfl) (by kernel_rfl)) (by kernel_rfl) (by kernel_rfl)
set_option maxRecDepth 100000 in
theorem Uw(os:Os)(d:os.Started)(H:Type)(enc:TypeId × Value→H) :
  ReturnsInHanded {} Tryz.checked os 4 .any (λw args=>(Rows.columnsErrorsSpec.pre enc Tryz.prog Tryz.f4 [] false w args∧laidMetH Tryz.prog Rows.columnsErrorsRow.laid w)∧sizedMet enc Tryz.prog Tryz.f4 (OpenSpec.ofChange Rows.columnsErrorsSpec) false w args)
   (Rows.columnsErrorsSpec.post enc Tryz.prog Tryz.f4 false true false false):=by
 refine returnsInHanded_of_change_and (C:=Tryz.checked) (X:=λw _=>laidMetH Tryz.prog Rows.columnsErrorsRow.laid w) (λ_ _ _ u h=>h.of_heap u) Tryz.own d (by kernel_rfl) Tryz.func4
  (ChangeSpec.witness_shaped (enc:=enc) (C:=Tryz.checked) (os:=os) (X:=λw _=>laidMetH Tryz.prog Rows.columnsErrorsRow.laid w) false (World.doorLaid Tryz.prog 400 os) #[.slice none 0 0,.int .i64 0,.int .i64 0] 8 rfl (World.shaped_of_RefB (by kernel_rfl) (by kernel_rfl)) (by kernel_rfl) (by kernel_rfl) (by kernel_rfl) (Ae os _)) ?_
 intro W l args ds B i e hW _ _ _ _;exact y8 (P:=Tryz.prog) (num:=num) (name:=324) (n:=8) (ats:=argKinds) (bt:=4) Tryz.laidOut (by kernel_rfl) (by kernel_rfl) (by kernel_rfl) rfl
  (λds p=>by
   match ds,p with
   |[x,y,A],_=>exact⟨rfl,rfl,rfl⟩)
  (by kernel_rfl) ahF ajA e hW
theorem NU:Rows.ColumnsErrorsSaid:=
 OpenClaim.holds_of_wide 4 Tryz.f4 rfl rfl rfl rfl rfl rfl rfl ⟨rfl,rfl,rfl,rfl,rfl⟩ rfl rfl rfl rfl rfl (by kernel_rfl) Tryz.func4 (by kernel_rfl)
  (of_decide_eq_true (by kernel_rfl)) (by unfold Func.isWrapper;first|(rw[aF (by decide +kernel)];kernel_rfl)|(rw[aC (by decide +kernel)];exact⟨rfl,rfl⟩))
  (λos d H enc _=>Uw os d H enc)
theorem columnsErrors_card:Rows.ColumnsErrorsCardSaid:=
 Claim7.holds_tied_plain_at .later [] [.data,.data,.data] true (true,"ea4d910669e37e3add3af5d619e7cf55a99f4c9cc76cff31aefd131fd3cddbda") false
  NU (λ_ h=>by cases h) (by kernel_rfl) (λ_ h=>by cases h) columnsErrors_row_tie rfl ⟨rfl,rfl⟩ (by kernel_rfl) rfl
  (λf fn i e=>by
   obtain rfl:f=4:=axZ.inj ((show Tryz.prog.funcNamed Rows.columnsErrorsRow.func=some 4 by kernel_rfl).symm.trans i) |>.symm
   obtain rfl:fn=Tryz.f4:=(axZ.inj (Tryz.func4.symm.trans e)).symm;exact⟨by kernel_rfl,λj t p=>by
    have l:t∈Tryz.f4.params.toList:=by rw[Array.mem_toList_iff];exact Array.mem_of_getElem? p
    have d:(Tryz.f4.params.toList.all λu=>!Tryz.prog.wantsStandIn u)=true:=by kernel_rfl
    exact(show Tryz.prog.wantsStandIn t=false by simpa using axK.1 d t l)⟩)
  (by kernel_rfl)
#print axioms columnsErrors_card
end Go.Proofs.YtpfelekpckmccaaGreatDoor
