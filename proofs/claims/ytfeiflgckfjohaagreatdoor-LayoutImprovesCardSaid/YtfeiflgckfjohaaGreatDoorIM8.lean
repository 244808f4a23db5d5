/-
  The law of the claim returns true at every input, and its argument reads as it did: the tied card. No condition.
-/
import Derived.Test.YtfeiflgckfjohaaGreatDoorIM7
import Derived.Test.YtfeiflgckfjohaaGreatDoorTie
import Derived.Test.YtfeiflgckfjohaaGreatDoorCards
set_option linter.unusedSimpArgs false
set_option linter.unusedVariables false
open List renaming all_eq_true->atI
open Option renaming some->auY
set_option maxRecDepth 100000
set_option maxHeartbeats 800000
noncomputable section
namespace Go.Proofs.YtfeiflgckfjohaaGreatDoor
open Go Go.PM
theorem q:bQ C 381 PM.uL:=bW Tryz.func3
theorem kz:NK C:={
 fz:=fz,
 r0:=bW Tryz.func13,
 r1:=bW Tryz.func74,
 r2:=bW Tryz.func42,
 r3:=bW Tryz.func5,
 r4:=bW Tryz.func7,
 r5:=bW Tryz.func46,
 r6:=bW Tryz.func14,
 r7:=bW Tryz.func45,
 r27:=bW Tryz.func38,
 r28:=bW Tryz.func12,
 r29:=bW Tryz.func43,
 r30:=bW Tryz.func225,
 r31:=bW Tryz.func219,
 r32:=bW Tryz.func178,
 r33:=bW Tryz.func121,
 r34:=bW Tryz.func120,
 r35:=bW Tryz.func77,
 r36:=bW Tryz.func228,
 r37:=bW Tryz.func227,
 r38:=bW Tryz.func119,
 r39:=bW Tryz.func173,
 r40:=bW Tryz.func223,
 r41:=bW Tryz.func172,
 r42:=bW Tryz.func222,
 r43:=bW Tryz.func243,
 r44:=bW Tryz.func221,
 r45:=bW Tryz.func220,
 r46:=bW Tryz.func176,
 r47:=bW Tryz.func44,
 r48:=bW Tryz.func244,
 r49:=bW Tryz.func131,
 r50:=bW Tryz.func47,
 r51:=bW Tryz.func127,
 r52:=bW Tryz.func128,
 r53:=bW Tryz.func126,
 r54:=bW Tryz.func84,
 r55:=bW Tryz.func125,
 r56:=bW Tryz.func83,
 r57:=bW Tryz.func226,
 r58:=bW Tryz.func76,
 r59:=bW Tryz.func78,
 r60:=bW Tryz.func177,
 r61:=bW Tryz.func129,
 r62:=bW Tryz.func122,
 r63:=bW Tryz.func224,
 r64:=bW Tryz.func175,
 r65:=bW Tryz.func174,
 r66:=bW Tryz.func130,
 r67:=bW Tryz.func48,
 r68:=bW Tryz.func82,
 r69:=bW Tryz.func87,
 r70:=bW Tryz.func81,
 r71:=bW Tryz.func123,
 r72:=bW Tryz.func86,
 r73:=bW Tryz.func80,
 r74:=bW Tryz.func85,
 r75:=bW Tryz.func124,
 r76:=bW Tryz.func79,
 r77:=bW Tryz.func51,
 r80:=bW Tryz.func101,
 r81:=bW Tryz.func99,
 r82:=bW Tryz.func15,
 r83:=bW Tryz.func30,
 r84:=bW Tryz.func32,
 r85:=bW Tryz.func31,
 r87:=bW Tryz.func67,
 r88:=bW Tryz.func145,
 r89:=bW Tryz.func146,
 r90:=bW Tryz.func100,
 r94:=bW Tryz.func37,
 r95:=bW Tryz.func90,
 r96:=bW Tryz.func55,
 r98:=bW Tryz.func182,
 r99:=bW Tryz.func134,
 r100:=bW Tryz.func184,
 r102:=bW Tryz.func136,
 r103:=bW Tryz.func183,
 r104:=bW Tryz.func88,
 r106:=bW Tryz.func137,
 r107:=bW Tryz.func185,
 r108:=bW Tryz.func138,
 r109:=bW Tryz.func186,
 r110:=bW Tryz.func92,
 r111:=bW Tryz.func89,
 r112:=bW Tryz.func91,
 r123:=bW Tryz.func139,
 r124:=bW Tryz.func229,
 r125:=bW Tryz.func189,
 r126:=bW Tryz.func188,
 r150:=bW Tryz.func21,
 r151:=bW Tryz.func26,
 r152:=bW Tryz.func25,
 r154:=bW Tryz.func60,
 r156:=bW Tryz.func140,
 r157:=bW Tryz.func63,
 r158:=bW Tryz.func95,
 r159:=bW Tryz.func141,
 r160:=bW Tryz.func94,
 r161:=bW Tryz.func59,
 r201:=bW Tryz.func144,
 r203:=bW Tryz.func97,
 r205:=bW Tryz.func62,
 r206:=bW Tryz.func56,
 r207:=bW Tryz.func57,
 r210:=bW Tryz.func58,
 r211:=bW Tryz.func93,
 r212:=bW Tryz.func10,
 r213:=bW Tryz.func68,
 r215:=bW Tryz.func65,
 r216:=bW Tryz.func33,
 r217:=bW Tryz.func64,
 r218:=apM (T []) Tryz.func66,
 r219:=bW Tryz.func29,
 r220:=bW Tryz.func34,
 r299:=bW Tryz.func52,
 r300:=bW Tryz.func54,
 r302:=bW Tryz.func53,
 r303:=bW Tryz.func17,
 r304:=bW Tryz.func50,
 r305:=bW Tryz.func49,
 r306:=bW Tryz.func18,
 r307:=bW Tryz.func16,
 r308:=bW Tryz.func19,
 r309:=bW Tryz.func6,
 r364:=bW Tryz.func8,
 r367:=bW Tryz.func22,
 r368:=bW Tryz.func23,
 r369:=bW Tryz.func24,
 r370:=bW Tryz.func27,
 r371:=bW Tryz.func28,
 r375:=bW Tryz.func4,
 r378:=bW Tryz.func35,
 r379:=bW Tryz.func36,
 r380:=bW Tryz.func9,
 r229:=⟨aaJ Tryz.f98.body,aaK Tryz.f98.body,aaN (T Vk) Tryz.func98 (by kernel_rfl)⟩,
 r230:=⟨aaJ Tryz.f20.body,aaK Tryz.f20.body,aaN (T Vj) Tryz.func20 (by kernel_rfl)⟩ }
end Go.Proofs.YtfeiflgckfjohaaGreatDoor
namespace Go.Proofs.YtfeiflgckfjohaaGreatDoor
open Go Go.PM
theorem ahV:sS (sD tab (yF As) (λ_=>true) rH 300 30) 201 [.agg fF.cells,.agg (mF fF 0).cells,ints [0]]=some (.bool true):=by kernel_rfl
noncomputable def La:OrL:=(229,[.agg fF.cells,.agg (mF fF 0).cells],lay [[0]])::As
theorem oka:oF C La:=(L.Jg kz itoa).cons (L.abU kz (mC (L.Jg kz itoa) tU 300 30 ahV))
theorem ahW:sS (sD tab (yF La) (λ_=>true) rH 300 30) 205 [.agg fF.cells,.int .i64 0]=some (.tup [lay [[0]],.int .i64 0]):=by kernel_rfl
noncomputable def L0:OrL:=(205,[.agg fF.cells,.int .i64 0],.tup [lay [[0]],.int .i64 0])::La
theorem ok0:oF C L0:=oka.cons (mC oka tU 300 30 ahW)
theorem apG:sS (sD tab (yF L0) (λ_=>true) rH 300 30) 333 [.agg fF.cells,.agg [.int .i64 5,.int .i64 1],.aG]=some (.tup [.agg [.sl 5 [[.int .i64 0,.sl 1 [[.int .i64 0]],.bool false,.sl 1 [[.int .u32 1]],.sl 1 [[.int .u32 1]]]],.sl 3 [[.bool false,.sl 1 [[.int .u32 1]],.sl 1 [[.int .u32 1]]]],.sl 3 [[.bool false,.aG,.sl 1 [[.int .u32 1]]]],.bool false,.sl 1 [[.int .u32 1]],.sl 1 [[.int .u32 1]]],.int .i64 0]):=by kernel_rfl
noncomputable def L1:OrL:=(333,[.agg fF.cells,.agg [.int .i64 5,.int .i64 1],.aG],.tup [.agg [.sl 5 [[.int .i64 0,.sl 1 [[.int .i64 0]],.bool false,.sl 1 [[.int .u32 1]],.sl 1 [[.int .u32 1]]]],.sl 3 [[.bool false,.sl 1 [[.int .u32 1]],.sl 1 [[.int .u32 1]]]],.sl 3 [[.bool false,.aG,.sl 1 [[.int .u32 1]]]],.bool false,.sl 1 [[.int .u32 1]],.sl 1 [[.int .u32 1]]],.int .i64 0])::L0
theorem ok1:oF C L1:=ok0.cons (mC ok0 tU 300 30 apG)
theorem apH:sS (sD tab (yF L1) (λ_=>true) rH 300 30) 333 [.agg fF.cells,.agg [.int .i64 5,.int .i64 1],.sl 1 [[.int .i64 0]]]=some (.tup [.agg [.aG,.aG,.aG,.bool false,.aG,.aG],.int .i64 12]):=by kernel_rfl
noncomputable def L2:OrL:=(333,[.agg fF.cells,.agg [.int .i64 5,.int .i64 1],.sl 1 [[.int .i64 0]]],.tup [.agg [.aG,.aG,.aG,.bool false,.aG,.aG],.int .i64 12])::L1
theorem ok2:oF C L2:=ok1.cons (mC ok1 tU 300 30 apH)
theorem apI:sS (sD tab (yF L2) (λ_=>true) rH 300 30) 288 [.agg fF.cells,.aG]=some (.tup [.sl 1 [[.sl 1 [[.int .i64 0]]]],.int .i64 0]):=by kernel_rfl
noncomputable def L3:OrL:=(288,[.agg fF.cells,.aG],.tup [.sl 1 [[.sl 1 [[.int .i64 0]]]],.int .i64 0])::L2
theorem ok3:oF C L3:=ok2.cons (mC ok2 tU 300 30 apI)
theorem apJ:sS (sD tab (yF L3) (λ_=>true) rH 300 30) 150 [.agg fF.cells,.sl 1 [[.sl 1 [[.int .i64 0]]]],.aG]=some (.bool true):=by kernel_rfl
noncomputable def L4:OrL:=(150,[.agg fF.cells,.sl 1 [[.sl 1 [[.int .i64 0]]]],.aG],.bool true)::L3
theorem ok4:oF C L4:=ok3.cons (mC ok3 tU 300 30 apJ)
theorem apK:sS (sD tab (yF L4) (λ_=>true) rH 300 30) 330 [.agg fF.cells,.agg [.int .i64 5,.int .i64 1],.sl 3 [[.bool false,.sl 1 [[.int .u32 1]],.sl 1 [[.int .u32 1]]]],.sl 3 [[.bool false,.aG,.sl 1 [[.int .u32 1]]]]]=some (.bool true):=by kernel_rfl
noncomputable def L5:OrL:=(330,[.agg fF.cells,.agg [.int .i64 5,.int .i64 1],.sl 3 [[.bool false,.sl 1 [[.int .u32 1]],.sl 1 [[.int .u32 1]]]],.sl 3 [[.bool false,.aG,.sl 1 [[.int .u32 1]]]]],.bool true)::L4
theorem ok5:oF C L5:=ok4.cons (mC ok4 tU 300 30 apK)
theorem apL:sS (sD tab (yF L5) (λ_=>true) rH 300 30) 328 [.agg fF.cells,.aG,.sl 3 [[.bool false,.sl 1 [[.int .u32 1]],.sl 1 [[.int .u32 1]]]],.sl 3 [[.bool false,.aG,.sl 1 [[.int .u32 1]]]]]=some (.tup [.agg [.bool false,.sl 1 [[.int .u32 1]],.sl 1 [[.int .u32 1]]],.int .i64 0]):=by kernel_rfl
noncomputable def L6:OrL:=(328,[.agg fF.cells,.aG,.sl 3 [[.bool false,.sl 1 [[.int .u32 1]],.sl 1 [[.int .u32 1]]]],.sl 3 [[.bool false,.aG,.sl 1 [[.int .u32 1]]]]],.tup [.agg [.bool false,.sl 1 [[.int .u32 1]],.sl 1 [[.int .u32 1]]],.int .i64 0])::L5
theorem ok6:oF C L6:=ok5.cons (mC ok5 tU 300 30 apL)
theorem P2:sS (sD tab (yF L6) (λ_=>true) rH 300 30) 362 []=some (.bool true):=by kernel_rfl
theorem zn:aH C 362 [] .nil (aK (.bool true)):=mC ok6 tU 300 30 P2
end Go.Proofs.YtfeiflgckfjohaaGreatDoor
namespace Go.Proofs.YtfeiflgckfjohaaGreatDoor
open Go Go.PM Go.RowKit Go.ChangeShapes Go.WideShapes
def argKinds:List AT:=[.one (.sl [.int .u8])]
theorem aaU:MD Tryz.prog 8 Tryz.f3.params.toList=some argKinds:=by kernel_rfl
theorem acN(e:V_)(h:AT.TyL argKinds e):aH C 381 e .nil (aK (.bool true)):=by
 match e,h with
 |[x],h=>
  obtain⟨i,-⟩:=h;cases i with|one i=>
  obtain⟨w,rfl,l,u⟩:=P6 i;exact Rb kz itoa alK zn q w l u
theorem Cg(os:Os)(args:Array Value):laidMetH Tryz.prog Rows.layoutImprovesRow.laid ((World.doorLaid Tryz.prog 400 os).forCall (λ_ _=>0) ⟨#[],args,[]⟩).memory:=
 laidMetH_of_parts3 (fuel:=8) (laidMet_of_run' 8 (by kernel_rfl) (by kernel_rfl)) (by kernel_rfl) (by kernel_rfl)
set_option maxRecDepth 100000 in
theorem M2(os:Os)(e:os.Started)(H:Type)(enc:TypeId × Value->H) :
  ReturnsInHanded {} Tryz.checked os 3 .any (λw args=>(Rows.layoutImprovesSpec.pre enc Tryz.prog Tryz.f3 [] false w args/\laidMetH Tryz.prog Rows.layoutImprovesRow.laid w)/\sizedMet enc Tryz.prog Tryz.f3 (OpenSpec.ofChange Rows.layoutImprovesSpec) false w args)
   (Rows.layoutImprovesSpec.post enc Tryz.prog Tryz.f3 false true false false):=by
 refine returnsInHanded_of_change_and (C:=Tryz.checked) (X:=λw _=>laidMetH Tryz.prog Rows.layoutImprovesRow.laid w) (λ_ _ _ x h=>h.of_heap x) Tryz.own e (by kernel_rfl) Tryz.func3
  (ChangeSpec.witness_shaped (enc:=enc) (C:=Tryz.checked) (os:=os) (X:=λw _=>laidMetH Tryz.prog Rows.layoutImprovesRow.laid w) false (World.doorLaid Tryz.prog 400 os) #[.slice none 0 0] 8 rfl (World.shaped_of_RefB (by kernel_rfl) (by kernel_rfl)) (by kernel_rfl) (by kernel_rfl) (by kernel_rfl) (Cg os _)) ?_
 intro W base args ds A l i hW _ _ _ _;exact B0 (P:=Tryz.prog) (num:=num) (name:=381) (n:=8) (ats:=argKinds) (bt:=4) Tryz.laidOut (by kernel_rfl) (by kernel_rfl) (by kernel_rfl) rfl
  (λds u=>by
   match ds,u with
   |[y],_=>exact⟨rfl,rfl,rfl⟩)
  (by kernel_rfl) aaU acN i hW
theorem TF:Rows.LayoutImprovesSaid:=
 OpenClaim.holds_of_wide 3 Tryz.f3 rfl rfl rfl rfl rfl rfl rfl ⟨rfl,rfl,rfl,rfl,rfl⟩ rfl rfl rfl rfl rfl (by kernel_rfl) Tryz.func3 (by kernel_rfl)
  (of_decide_eq_true (by kernel_rfl)) (by unfold Func.isWrapper;first|(rw[aF (by decide +kernel)];kernel_rfl)|(rw[aC (by decide +kernel)];exact⟨rfl,rfl⟩))
  (λos e H enc _=>M2 os e H enc)
theorem layoutImproves_card:Rows.LayoutImprovesCardSaid:=
 Claim7.holds_tied_plain_at .later [] [.data,.data,.data] true (true,"489430d7be9b7078a40985b362aebd053f869201fe136c58db0b0912bce1f7c3") false
  TF (λ_ h=>by cases h) (by kernel_rfl) (λ_ h=>by cases h) layoutImproves_row_tie rfl ⟨rfl,rfl⟩ (by kernel_rfl) rfl
  (λf fn l i=>by
   obtain rfl:f=3:=auY.inj ((show Tryz.prog.funcNamed Rows.layoutImprovesRow.func=some 3 by kernel_rfl).symm.trans l) |>.symm
   obtain rfl:fn=Tryz.f3:=(auY.inj (Tryz.func3.symm.trans i)).symm;exact⟨by kernel_rfl,λj t x=>by
    have w:t∈Tryz.f3.params.toList:=by rw[Array.mem_toList_iff];exact Array.mem_of_getElem? x
    have e:(Tryz.f3.params.toList.all λu=>!Tryz.prog.wantsStandIn u)=true:=by kernel_rfl
    exact(show Tryz.prog.wantsStandIn t=false by simpa using atI.1 e t w)⟩)
  (by kernel_rfl)
#print axioms layoutImproves_card
end Go.Proofs.YtfeiflgckfjohaaGreatDoor
