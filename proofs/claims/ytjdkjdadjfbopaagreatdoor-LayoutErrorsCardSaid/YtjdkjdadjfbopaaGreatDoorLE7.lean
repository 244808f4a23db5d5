/-
  The law of the claim returns true at every input, and its argument reads as it did: the tied card. No condition.
-/
import Derived.Test.YtjdkjdadjfbopaaGreatDoorLE1
import Derived.Test.YtjdkjdadjfbopaaGreatDoorLE2
import Derived.Test.YtjdkjdadjfbopaaGreatDoorLE3
import Derived.Test.YtjdkjdadjfbopaaGreatDoorLE4
import Derived.Test.YtjdkjdadjfbopaaGreatDoorLE5
import Derived.Test.YtjdkjdadjfbopaaGreatDoorLE6
import Derived.Test.YtjdkjdadjfbopaaGreatDoorTie
import Derived.Test.YtjdkjdadjfbopaaGreatDoorCards
set_option linter.unusedSimpArgs false
set_option linter.unusedVariables false
open List renaming all_eq_true→a8U
open Nat renaming beq→a9U
open Option renaming some→a9V
set_option maxRecDepth 100000
set_option maxHeartbeats 800000
noncomputable section
namespace Go.Proofs.YtjdkjdadjfbopaaGreatDoor
open Go Go.PM
theorem q:bS C 361 PM.xv:=bV (T []) Tryz.func3
theorem CI:bH C:={
 r0:=bV (T [40,67,148,154,176]) Tryz.func12,
 r1:=bV (T []) Tryz.func73,
 r2:=bV (T [45,63,90,95]) Tryz.func32,
 r4:=bV (T []) Tryz.func31,
 r5:=bV (T [16]) Tryz.func36,
 r7:=bV (T [60,81,113]) Tryz.func35,
 r27:=bV (T []) Tryz.func4,
 r28:=bV (T []) Tryz.func11,
 r29:=bV (T []) Tryz.func33,
 r30:=bV (T []) Tryz.func167,
 r31:=bV (T []) Tryz.func197,
 r32:=bV (T []) Tryz.func132,
 r33:=bV (T []) Tryz.func127,
 r34:=bV (T []) Tryz.func126,
 r35:=bV (T [8]) Tryz.func76,
 r36:=bV (T []) Tryz.func170,
 r37:=bV (T []) Tryz.func169,
 r38:=bV (T []) Tryz.func83,
 r39:=bV (T [76]) Tryz.func165,
 r40:=bV (T [47]) Tryz.func201,
 r41:=bV (T []) Tryz.func164,
 r42:=bV (T [43]) Tryz.func200,
 r43:=bV (T [51]) Tryz.func202,
 r44:=bV (T []) Tryz.func199,
 r45:=bV (T [35,42]) Tryz.func198,
 r46:=bV (T [2,3]) Tryz.func130,
 r47:=bV (T []) Tryz.func34,
 r48:=bV (T [1]) Tryz.func203,
 r49:=bV (T [2,3]) Tryz.func88,
 r50:=bV (T []) Tryz.func37,
 r51:=bV (T [2,3]) Tryz.func84,
 r52:=bV (T [1]) Tryz.func85,
 r53:=bV (T [2,3]) Tryz.func82,
 r54:=bV (T [1]) Tryz.func43,
 r55:=bV (T []) Tryz.func81,
 r56:=bV (T [1]) Tryz.func42,
 r57:=bV (T [1]) Tryz.func168,
 r58:=bV (T [16]) Tryz.func75,
 r59:=bV (T []) Tryz.func77,
 r60:=bV (T []) Tryz.func131,
 r61:=bV (T []) Tryz.func86,
 r62:=bV (T []) Tryz.func78,
 r63:=bV (T []) Tryz.func166,
 r64:=bV (T []) Tryz.func129,
 r65:=bV (T []) Tryz.func128,
 r66:=bV (T []) Tryz.func87,
 r67:=bV (T [1]) Tryz.func13,
 r68:=bV (T [1]) Tryz.func41,
 r69:=bV (T [6,7]) Tryz.func46,
 r70:=bV (T [8]) Tryz.func40,
 r71:=bV (T []) Tryz.func79,
 r72:=bV (T [7]) Tryz.func45,
 r73:=bV (T []) Tryz.func39,
 r74:=bV (T [1]) Tryz.func44,
 r75:=bV (T []) Tryz.func80,
 r76:=bV (T []) Tryz.func38,
 r81:=bV (T [2,41]) Tryz.func47,
 r88:=bV (T [3]) Tryz.func89,
 r95:=bV (T [1]) Tryz.func106,
 r96:=bV (T [1,76,94,128,141,183,204]) Tryz.func59,
 r97:=bV (T [1]) Tryz.func145,
 r98:=bV (T []) Tryz.func173,
 r99:=bV (T []) Tryz.func146,
 r100:=bV (T []) Tryz.func175,
 r101:=bV (T [1]) Tryz.func178,
 r102:=bV (T [1]) Tryz.func148,
 r103:=bV (T []) Tryz.func174,
 r104:=bV (T []) Tryz.func104,
 r105:=bV (T [1]) Tryz.func144,
 r106:=bV (T [7]) Tryz.func149,
 r107:=bV (T []) Tryz.func176,
 r108:=bV (T [6,7]) Tryz.func150,
 r109:=bV (T [1]) Tryz.func177,
 r110:=bV (T []) Tryz.func108,
 r111:=bV (T [1]) Tryz.func105,
 r112:=bV (T [2]) Tryz.func107,
 r113:=bV (T [2,3]) Tryz.func124,
 r114:=bV (T [2,3]) Tryz.func69,
 r115:=bV (T []) Tryz.func52,
 r116:=bV (T [1]) Tryz.func157,
 r117:=bV (T []) Tryz.func147,
 r118:=bV (T [1]) Tryz.func116,
 r119:=bV (T []) Tryz.func96,
 r120:=bV (T []) Tryz.func95,
 r121:=bV (T []) Tryz.func118,
 r122:=bV (T [1]) Tryz.func119,
 r123:=bV (T []) Tryz.func151,
 r124:=bV (T []) Tryz.func208,
 r125:=bV (T []) Tryz.func180,
 r126:=bV (T []) Tryz.func179,
 r127:=bV (T []) Tryz.func161,
 r128:=bV (T []) Tryz.func137,
 r129:=bV (T []) Tryz.func117,
 r130:=bV (T []) Tryz.func138,
 r131:=bV (T []) Tryz.func136,
 r132:=bV (T [9]) Tryz.func140,
 r133:=bV (T []) Tryz.func159,
 r134:=bV (T []) Tryz.func162,
 r135:=bV (T []) Tryz.func139,
 r136:=bV (T []) Tryz.func172,
 r137:=bV (T []) Tryz.func171,
 r138:=bV (T []) Tryz.func158,
 r139:=bV (T []) Tryz.func207,
 r140:=bV (T []) Tryz.func204,
 r141:=bV (T []) Tryz.func192,
 r142:=bV (T []) Tryz.func206,
 r143:=bV (T []) Tryz.func205,
 r150:=bV (T [3]) Tryz.func20,
 r152:=bV (T [2]) Tryz.func24,
 r154:=bV (T [3,28,44,74]) Tryz.func64,
 r156:=bV (T [2]) Tryz.func152,
 r157:=bV (T [2]) Tryz.func67,
 r158:=bV (T [3,75,91,134,167]) Tryz.func111,
 r159:=bV (T []) Tryz.func153,
 r160:=bV (T [3]) Tryz.func110,
 r161:=bV (T [1]) Tryz.func63,
 r201:=bV (T [3,4]) Tryz.func156,
 r203:=bV (T [2]) Tryz.func113,
 r205:=bV (T [2]) Tryz.func66,
 r206:=bV (T [2,23,24,50,90]) Tryz.func60,
 r207:=bV (T []) Tryz.func61,
 r210:=bV (T []) Tryz.func62,
 r211:=bV (T []) Tryz.func109,
 r215:=bV (T [13,42]) Tryz.func15,
 r217:=bV (T [2,19,20,42]) Tryz.func14,
 r218:=bV (T []) Tryz.func16,
 r219:=bV (T [2,3,109,113]) Tryz.func5,
 r330:=bV (T [4,5]) Tryz.func28,
 r333:=bV (T [3,4,112,145,179]) Tryz.func17,
 r363:=bV (T [3,4]) Tryz.func7,
 r364:=bV (T [4,5]) Tryz.func8,
 r365:=bV (T [3,4]) Tryz.func9,
 r366:=bV (T [4,5,7]) Tryz.func10,
 r229:=⟨aRP Tryz.f114.body,aRQ Tryz.f114.body,aRS (T aKU) Tryz.func114 (by kernel_rfl)⟩,
 r230:=⟨aRP Tryz.f19.body,aRQ Tryz.f19.body,aRS (T aKS) Tryz.func19 (by kernel_rfl)⟩ }
end Go.Proofs.YtjdkjdadjfbopaaGreatDoor
namespace Go.Proofs.YtjdkjdadjfbopaaGreatDoor
open Go Go.PM
def roL:List (Nat × List Nat):=[(150,[3]),(151,[2]),(152,[2]),(154,[3,28,44,74]),(156,[2]),(157,[2]),(158,[3,75,91,134,167]),(160,[3]),(161,[1]),(171,[]),(173,[]),(180,[]),(184,[]),(192,[]),(208,[]),(231,[4,6]),(232,[1]),(278,[2,3]),(279,[]),(282,[2]),(283,[3]),(284,[2]),(285,[13]),(286,[2]),(287,[1]),(288,[2,89]),(291,[]),(292,[]),(294,[]),(295,[]),(296,[79]),(297,[]),(298,[1,48,67]),(328,[4]),(330,[4,5]),(333,[3,4,112,145,179]),(335,[]),(336,[]),(337,[1]),(338,[4]),(342,[3,4,37,53,119,142,144,167,191,206]),(343,[]),(344,[]),(345,[]),(346,[]),(348,[1]),(349,[2,3]),(351,[]),(352,[3,20,39]),(353,[3]),(354,[]),(355,[]),(356,[]),(358,[]),(359,[]),(360,[]),(362,[11,23,30,31]),(363,[3,4]),(364,[4,5]),(365,[3,4]),(366,[4,5,7]),(367,[]),(368,[]),(369,[2,62]),(372,[2,3]),(373,[])]
def aXV:List (Nat × List Nat)→Nat→Option (List Nat)
 |[],_=>none
 |(n,l)::t,k=>if a9U n k then some l else aXV t k
noncomputable def tab(k:Nat):Option bC:=match aXV roL k with
 |some l=>match Tryz.prog.funcs[num k]? with
  |some fn=>if fn.name=="runtime.NumGoroutine" then none else(T l).func fn
  |none=>none
 |none=>none
theorem II(k:Nat)(pf:bC)(h:tab k=some pf):t7 C k pf:=by
 unfold tab at h;split at h
 ·rename_i l _;split at h
  ·rename_i fn d;split at h
   ·cases h
   ·rename_i i;exact λargs H R e p=>Hz (T:=T l) rfl rfl d (by simpa using i) h e p
  ·cases h
 ·cases h
noncomputable def L0:OrL:=[]
theorem ok0:rU C L0:=.nil
theorem a3Y:yS (vX tab (wJ DO L0) (λ_=>true) wP 300 30) 333 [.agg fV.cells,.agg [.int .i64 5,.int .i64 1],.aF]=some (.tup [.agg [.sl 5 [[.int .i64 0,.sl 1 [[.int .i64 0]],.bool false,.sl 1 [[.int .u32 1]],.sl 1 [[.int .u32 1]]]],.sl 3 [[.bool false,.sl 1 [[.int .u32 1]],.sl 1 [[.int .u32 1]]]],.sl 3 [[.bool false,.sl 1 [],.sl 1 [[.int .u32 1]]]],.bool false,.sl 1 [[.int .u32 1]],.sl 1 [[.int .u32 1]]],.int .i64 0]):=by kernel_rfl
noncomputable def L1:OrL:=(333,[.agg fV.cells,.agg [.int .i64 5,.int .i64 1],.aF],.tup [.agg [.sl 5 [[.int .i64 0,.sl 1 [[.int .i64 0]],.bool false,.sl 1 [[.int .u32 1]],.sl 1 [[.int .u32 1]]]],.sl 3 [[.bool false,.sl 1 [[.int .u32 1]],.sl 1 [[.int .u32 1]]]],.sl 3 [[.bool false,.sl 1 [],.sl 1 [[.int .u32 1]]]],.bool false,.sl 1 [[.int .u32 1]],.sl 1 [[.int .u32 1]]],.int .i64 0])::L0
theorem ok1:rU C L1:=ok0.cons (uD (L.JN CI itoa) ok0 II 300 30 a3Y)
theorem a3Z:yS (vX tab (wJ DO L1) (λ_=>true) wP 300 30) 333 [.agg fV.cells,.agg [.int .i64 5,.int .i64 1],.sl 1 [[.int .i64 0]]]=some (.tup [.agg [.aF,.aF,.aF,.bool false,.aF,.aF],.int .i64 12]):=by kernel_rfl
noncomputable def L2:OrL:=(333,[.agg fV.cells,.agg [.int .i64 5,.int .i64 1],.sl 1 [[.int .i64 0]]],.tup [.agg [.aF,.aF,.aF,.bool false,.aF,.aF],.int .i64 12])::L1
theorem ok2:rU C L2:=ok1.cons (uD (L.JN CI itoa) ok1 II 300 30 a3Z)
theorem a4A:yS (vX tab (wJ DO L2) (λ_=>true) wP 300 30) 288 [.agg fV.cells,.aF]=some (.tup [.sl 1 [[.sl 1 [[.int .i64 0]]]],.int .i64 0]):=by kernel_rfl
noncomputable def L3:OrL:=(288,[.agg fV.cells,.aF],.tup [.sl 1 [[.sl 1 [[.int .i64 0]]]],.int .i64 0])::L2
theorem ok3:rU C L3:=ok2.cons (uD (L.JN CI itoa) ok2 II 300 30 a4A)
theorem a4B:yS (vX tab (wJ DO L3) (λ_=>true) wP 300 30) 150 [.agg fV.cells,.sl 1 [[.sl 1 [[.int .i64 0]]]],.aF]=some (.bool true):=by kernel_rfl
noncomputable def L4:OrL:=(150,[.agg fV.cells,.sl 1 [[.sl 1 [[.int .i64 0]]]],.aF],.bool true)::L3
theorem ok4:rU C L4:=ok3.cons (uD (L.JN CI itoa) ok3 II 300 30 a4B)
theorem a4C:yS (vX tab (wJ DO L4) (λ_=>true) wP 300 30) 330 [.agg fV.cells,.agg [.int .i64 5,.int .i64 1],.sl 3 [[.bool false,.sl 1 [[.int .u32 1]],.sl 1 [[.int .u32 1]]]],.sl 3 [[.bool false,.sl 1 [],.sl 1 [[.int .u32 1]]]]]=some (.bool true):=by kernel_rfl
noncomputable def L5:OrL:=(330,[.agg fV.cells,.agg [.int .i64 5,.int .i64 1],.sl 3 [[.bool false,.sl 1 [[.int .u32 1]],.sl 1 [[.int .u32 1]]]],.sl 3 [[.bool false,.sl 1 [],.sl 1 [[.int .u32 1]]]]],.bool true)::L4
theorem ok5:rU C L5:=ok4.cons (uD (L.JN CI itoa) ok4 II 300 30 a4C)
theorem a4D:yS (vX tab (wJ DO L5) (λ_=>true) wP 300 30) 328 [.agg fV.cells,.aF,.sl 3 [[.bool false,.sl 1 [[.int .u32 1]],.sl 1 [[.int .u32 1]]]],.sl 3 [[.bool false,.sl 1 [],.sl 1 [[.int .u32 1]]]]]=some (.tup [.agg [.bool false,.sl 1 [[.int .u32 1]],.sl 1 [[.int .u32 1]]],.int .i64 0]):=by kernel_rfl
noncomputable def L6:OrL:=(328,[.agg fV.cells,.aF,.sl 3 [[.bool false,.sl 1 [[.int .u32 1]],.sl 1 [[.int .u32 1]]]],.sl 3 [[.bool false,.sl 1 [],.sl 1 [[.int .u32 1]]]]],.tup [.agg [.bool false,.sl 1 [[.int .u32 1]],.sl 1 [[.int .u32 1]]],.int .i64 0])::L5
theorem ok6:rU C L6:=ok5.cons (uD (L.JN CI itoa) ok5 II 300 30 a4D)
theorem aDG:yS (vX tab (wJ DO L6) (λ_=>true) wP 300 30) 362 []=some (.bool true):=by kernel_rfl
theorem uc:aH C 362 [] .nil (aK (.bool true)):=uD (L.JN CI itoa) ok6 II 300 30 aDG
end Go.Proofs.YtjdkjdadjfbopaaGreatDoor
namespace Go.Proofs.YtjdkjdadjfbopaaGreatDoor
open Go Go.PM Go.RowKit Go.ChangeShapes Go.WideShapes
def argKinds:List AT:=[.one (.sl [.int .u8]),.one (.int .i64),.one (.int .i64)]
theorem aRW:OO Tryz.prog 8 Tryz.f3.params.toList=some argKinds:=by kernel_rfl
theorem aTR(d:List PV)(h:AT.TyL argKinds d):aH C 361 d .nil (aK (.bool true)):=by
 match d,h with
 |[A,B,E],h=>
  obtain⟨e,i,l,-⟩:=h;cases e with|one e=>
  obtain⟨w,rfl,p,u⟩:=aDI e;cases i with|one i=>
  obtain⟨x,rfl,-⟩:=Ty.gt i;cases l with|one l=>
  obtain⟨y,rfl,-⟩:=Ty.gt l;exact aES CI itoa uc q w p u x y
theorem Tc(os:Os)(args:Array Value):laidMetH Tryz.prog Rows.layoutErrorsRow.laid ((World.doorLaid Tryz.prog 400 os).forCall (λ_ _=>0) ⟨#[],args,[]⟩).memory:=
 laidMetH_of_parts3 (fuel:=8) (laidMet_of_run' 8 (by kernel_rfl) (by kernel_rfl)) (by kernel_rfl) (by kernel_rfl)
set_option maxRecDepth 100000 in
theorem azF(os:Os)(d:os.Started)(H:Type)(enc:TypeId × Value→H) :
  ReturnsInHanded {} Tryz.checked os 3 .any (λw args=>(Rows.layoutErrorsSpec.pre enc Tryz.prog Tryz.f3 [] false w args∧laidMetH Tryz.prog Rows.layoutErrorsRow.laid w)∧sizedMet enc Tryz.prog Tryz.f3 (OpenSpec.ofChange Rows.layoutErrorsSpec) false w args)
   (Rows.layoutErrorsSpec.post enc Tryz.prog Tryz.f3 false true false false):=by
 refine returnsInHanded_of_change_and (C:=Tryz.checked) (X:=λw _=>laidMetH Tryz.prog Rows.layoutErrorsRow.laid w) (λ_ _ _ p h=>h.of_heap p) Tryz.own d (by kernel_rfl) Tryz.func3
  (ChangeSpec.witness_shaped (enc:=enc) (C:=Tryz.checked) (os:=os) (X:=λw _=>laidMetH Tryz.prog Rows.layoutErrorsRow.laid w) false (World.doorLaid Tryz.prog 400 os) #[.slice none 0 0,.int .i64 0,.int .i64 0] 8 rfl (World.shaped_of_RefB (by kernel_rfl) (by kernel_rfl)) (by kernel_rfl) (by kernel_rfl) (by kernel_rfl) (Tc os _)) ?_
 intro W base args ds A i e hW _ _ _ _;exact Sd (P:=Tryz.prog) (num:=num) (name:=361) (n:=8) (ats:=argKinds) (bt:=4) Tryz.laidOut (by kernel_rfl) (by kernel_rfl) (by kernel_rfl) rfl
  (λds l=>by
   match ds,l with
   |[u,x,y],_=>exact⟨rfl,rfl,rfl⟩)
  (by kernel_rfl) aRW aTR e hW
theorem iy:Rows.LayoutErrorsSaid:=
 OpenClaim.holds_of_wide 3 Tryz.f3 rfl rfl rfl rfl rfl rfl rfl ⟨rfl,rfl,rfl,rfl,rfl⟩ rfl rfl rfl rfl rfl (by kernel_rfl) Tryz.func3 (by kernel_rfl)
  (of_decide_eq_true (by kernel_rfl)) (by unfold Func.isWrapper;first|(rw[aG (by decide +kernel)];kernel_rfl)|(rw[aD (by decide +kernel)];exact⟨rfl,rfl⟩))
  (λos d H enc _=>azF os d H enc)
theorem layoutErrors_card:Rows.LayoutErrorsCardSaid:=
 Claim7.holds_tied_plain_at .later [] [.data,.data,.data] true (true,"2939f8dbabd8f8e02214429668bcc184e0f0ae7825bfe86fa06a30bb34aa1a14") false
  iy (λ_ h=>by cases h) (by kernel_rfl) (λ_ h=>by cases h) layoutErrors_row_tie rfl ⟨rfl,rfl⟩ (by kernel_rfl) rfl
  (λf fn i e=>by
   obtain rfl:f=3:=a9V.inj ((show Tryz.prog.funcNamed Rows.layoutErrorsRow.func=some 3 by kernel_rfl).symm.trans i) |>.symm
   obtain rfl:fn=Tryz.f3:=(a9V.inj (Tryz.func3.symm.trans e)).symm;exact⟨by kernel_rfl,λj t p=>by
    have l:t∈Tryz.f3.params.toList:=by rw[Array.mem_toList_iff];exact Array.mem_of_getElem? p
    have d:(Tryz.f3.params.toList.all λu=>!Tryz.prog.wantsStandIn u)=true:=by kernel_rfl
    exact(show Tryz.prog.wantsStandIn t=false by simpa using a8U.1 d t l)⟩)
  (by kernel_rfl)
#print axioms layoutErrors_card
end Go.Proofs.YtjdkjdadjfbopaaGreatDoor
