/-
  The law of the claim returns true at every input, and its argument reads as it did: the tied card. No condition.
-/
import Derived.Test.YtfeiflgckfjohabGreatDoorIR7
import Derived.Test.YtfeiflgckfjohabGreatDoorTie
import Derived.Test.YtfeiflgckfjohabGreatDoorCards
set_option linter.unusedSimpArgs false
set_option linter.unusedVariables false
open List renaming all_eq_true->aqM
open Option renaming some->asB
set_option maxRecDepth 100000
set_option maxHeartbeats 800000
noncomputable section
namespace Go.Proofs.YtfeiflgckfjohabGreatDoor
open Go Go.PM
theorem q:bU C 382 PM.k8:=bX Tryz.func3
theorem ji:JT C:={
 fz:=fz,
 r0:=bX Tryz.func13,
 r1:=bX Tryz.func73,
 r2:=bX Tryz.func34,
 r4:=bX Tryz.func12,
 r5:=bX Tryz.func38,
 r6:=bX Tryz.func14,
 r7:=bX Tryz.func37,
 r27:=bX Tryz.func19,
 r28:=bX Tryz.func11,
 r29:=bX Tryz.func35,
 r30:=bX Tryz.func204,
 r31:=bX Tryz.func212,
 r32:=bX Tryz.func162,
 r33:=bX Tryz.func120,
 r34:=bX Tryz.func119,
 r35:=bX Tryz.func76,
 r36:=bX Tryz.func207,
 r37:=bX Tryz.func206,
 r38:=bX Tryz.func110,
 r39:=bX Tryz.func166,
 r40:=bX Tryz.func216,
 r41:=bX Tryz.func165,
 r42:=bX Tryz.func215,
 r43:=bX Tryz.func227,
 r44:=bX Tryz.func214,
 r45:=bX Tryz.func213,
 r46:=bX Tryz.func160,
 r47:=bX Tryz.func36,
 r48:=bX Tryz.func228,
 r49:=bX Tryz.func115,
 r50:=bX Tryz.func39,
 r51:=bX Tryz.func111,
 r52:=bX Tryz.func112,
 r53:=bX Tryz.func109,
 r54:=bX Tryz.func67,
 r55:=bX Tryz.func108,
 r56:=bX Tryz.func66,
 r57:=bX Tryz.func205,
 r58:=bX Tryz.func75,
 r59:=bX Tryz.func77,
 r60:=bX Tryz.func161,
 r61:=bX Tryz.func113,
 r62:=bX Tryz.func105,
 r63:=bX Tryz.func203,
 r64:=bX Tryz.func159,
 r65:=bX Tryz.func158,
 r66:=bX Tryz.func114,
 r67:=bX Tryz.func31,
 r68:=bX Tryz.func65,
 r69:=bX Tryz.func70,
 r70:=bX Tryz.func64,
 r71:=bX Tryz.func106,
 r72:=bX Tryz.func69,
 r73:=bX Tryz.func63,
 r74:=bX Tryz.func68,
 r75:=bX Tryz.func107,
 r76:=bX Tryz.func62,
 r77:=bX Tryz.func42,
 r80:=bX Tryz.func117,
 r82:=bX Tryz.func47,
 r83:=bX Tryz.func9,
 r84:=bX Tryz.func72,
 r85:=bX Tryz.func43,
 r87:=bX Tryz.func32,
 r88:=bX Tryz.func163,
 r89:=bX Tryz.func116,
 r90:=bX Tryz.func71,
 r94:=bX Tryz.func33,
 r95:=bX Tryz.func96,
 r96:=bX Tryz.func53,
 r98:=bX Tryz.func184,
 r99:=bX Tryz.func147,
 r100:=bX Tryz.func186,
 r102:=bX Tryz.func149,
 r103:=bX Tryz.func185,
 r104:=bX Tryz.func94,
 r106:=bX Tryz.func150,
 r107:=bX Tryz.func187,
 r108:=bX Tryz.func151,
 r109:=bX Tryz.func188,
 r110:=bX Tryz.func98,
 r111:=bX Tryz.func95,
 r112:=bX Tryz.func97,
 r123:=bX Tryz.func152,
 r124:=bX Tryz.func220,
 r125:=bX Tryz.func191,
 r126:=bX Tryz.func190,
 r150:=bX Tryz.func23,
 r151:=bX Tryz.func28,
 r152:=bX Tryz.func27,
 r154:=bX Tryz.func58,
 r156:=bX Tryz.func153,
 r157:=bX Tryz.func61,
 r158:=bX Tryz.func101,
 r159:=bX Tryz.func154,
 r160:=bX Tryz.func100,
 r161:=bX Tryz.func57,
 r201:=bX Tryz.func157,
 r203:=bX Tryz.func103,
 r205:=bX Tryz.func60,
 r206:=bX Tryz.func54,
 r207:=bX Tryz.func55,
 r210:=bX Tryz.func56,
 r211:=bX Tryz.func99,
 r212:=bX Tryz.func10,
 r299:=bX Tryz.func44,
 r300:=bX Tryz.func46,
 r302:=bX Tryz.func45,
 r303:=bX Tryz.func16,
 r304:=bX Tryz.func41,
 r305:=bX Tryz.func40,
 r306:=bX Tryz.func17,
 r307:=bX Tryz.func15,
 r308:=bX Tryz.func18,
 r309:=bX Tryz.func5,
 r364:=bX Tryz.func7,
 r365:=bX Tryz.func8,
 r367:=bX Tryz.func24,
 r368:=bX Tryz.func25,
 r369:=bX Tryz.func26,
 r370:=bX Tryz.func29,
 r371:=bX Tryz.func30,
 r375:=bX Tryz.func4,
 r229:=⟨Yo Tryz.f104.body,Yp Tryz.f104.body,Ys (T Tk) Tryz.func104 (by kernel_rfl)⟩,
 r230:=⟨Yo Tryz.f22.body,Yp Tryz.f22.body,Ys (T Tj) Tryz.func22 (by kernel_rfl)⟩ }
end Go.Proofs.YtfeiflgckfjohabGreatDoor
namespace Go.Proofs.YtfeiflgckfjohabGreatDoor
open Go Go.PM
theorem afE:sC (rM tab (xQ yl) (λ_=>true) qT 300 30) 201 [.agg eX.cells,.agg (nJ eX 0).cells,ints [0]]=some (.bool true):=by kernel_rfl
noncomputable def La:OrL:=(229,[.agg eX.cells,.agg (nJ eX 0).cells],lay [[0]])::yl
theorem oka:nS C La:=(L.G8 ji itoa).cons (L.Zs ji (lT (L.G8 ji itoa) tA 300 30 afE))
theorem afF:sC (rM tab (xQ La) (λ_=>true) qT 300 30) 205 [.agg eX.cells,.int .i64 0]=some (.tup [lay [[0]],.int .i64 0]):=by kernel_rfl
noncomputable def L0:OrL:=(205,[.agg eX.cells,.int .i64 0],.tup [lay [[0]],.int .i64 0])::La
theorem ok0:nS C L0:=oka.cons (lT oka tA 300 30 afF)
theorem amJ:sC (rM tab (xQ L0) (λ_=>true) qT 300 30) 333 [.agg eX.cells,.agg [.int .i64 5,.int .i64 1],.aG]=some (.tup [.agg [.sl 5 [[.int .i64 0,.sl 1 [[.int .i64 0]],.bool false,.sl 1 [[.int .u32 1]],.sl 1 [[.int .u32 1]]]],.sl 3 [[.bool false,.sl 1 [[.int .u32 1]],.sl 1 [[.int .u32 1]]]],.sl 3 [[.bool false,.aG,.sl 1 [[.int .u32 1]]]],.bool false,.sl 1 [[.int .u32 1]],.sl 1 [[.int .u32 1]]],.int .i64 0]):=by kernel_rfl
noncomputable def L1:OrL:=(333,[.agg eX.cells,.agg [.int .i64 5,.int .i64 1],.aG],.tup [.agg [.sl 5 [[.int .i64 0,.sl 1 [[.int .i64 0]],.bool false,.sl 1 [[.int .u32 1]],.sl 1 [[.int .u32 1]]]],.sl 3 [[.bool false,.sl 1 [[.int .u32 1]],.sl 1 [[.int .u32 1]]]],.sl 3 [[.bool false,.aG,.sl 1 [[.int .u32 1]]]],.bool false,.sl 1 [[.int .u32 1]],.sl 1 [[.int .u32 1]]],.int .i64 0])::L0
theorem ok1:nS C L1:=ok0.cons (lT ok0 tA 300 30 amJ)
theorem amK:sC (rM tab (xQ L1) (λ_=>true) qT 300 30) 333 [.agg eX.cells,.agg [.int .i64 5,.int .i64 1],.sl 1 [[.int .i64 0]]]=some (.tup [.agg [.aG,.aG,.aG,.bool false,.aG,.aG],.int .i64 12]):=by kernel_rfl
noncomputable def L2:OrL:=(333,[.agg eX.cells,.agg [.int .i64 5,.int .i64 1],.sl 1 [[.int .i64 0]]],.tup [.agg [.aG,.aG,.aG,.bool false,.aG,.aG],.int .i64 12])::L1
theorem ok2:nS C L2:=ok1.cons (lT ok1 tA 300 30 amK)
theorem amL:sC (rM tab (xQ L2) (λ_=>true) qT 300 30) 288 [.agg eX.cells,.aG]=some (.tup [.sl 1 [[.sl 1 [[.int .i64 0]]]],.int .i64 0]):=by kernel_rfl
noncomputable def L3:OrL:=(288,[.agg eX.cells,.aG],.tup [.sl 1 [[.sl 1 [[.int .i64 0]]]],.int .i64 0])::L2
theorem ok3:nS C L3:=ok2.cons (lT ok2 tA 300 30 amL)
theorem amM:sC (rM tab (xQ L3) (λ_=>true) qT 300 30) 150 [.agg eX.cells,.sl 1 [[.sl 1 [[.int .i64 0]]]],.aG]=some (.bool true):=by kernel_rfl
noncomputable def L4:OrL:=(150,[.agg eX.cells,.sl 1 [[.sl 1 [[.int .i64 0]]]],.aG],.bool true)::L3
theorem ok4:nS C L4:=ok3.cons (lT ok3 tA 300 30 amM)
theorem amN:sC (rM tab (xQ L4) (λ_=>true) qT 300 30) 330 [.agg eX.cells,.agg [.int .i64 5,.int .i64 1],.sl 3 [[.bool false,.sl 1 [[.int .u32 1]],.sl 1 [[.int .u32 1]]]],.sl 3 [[.bool false,.aG,.sl 1 [[.int .u32 1]]]]]=some (.bool true):=by kernel_rfl
noncomputable def L5:OrL:=(330,[.agg eX.cells,.agg [.int .i64 5,.int .i64 1],.sl 3 [[.bool false,.sl 1 [[.int .u32 1]],.sl 1 [[.int .u32 1]]]],.sl 3 [[.bool false,.aG,.sl 1 [[.int .u32 1]]]]],.bool true)::L4
theorem ok5:nS C L5:=ok4.cons (lT ok4 tA 300 30 amN)
theorem amO:sC (rM tab (xQ L5) (λ_=>true) qT 300 30) 328 [.agg eX.cells,.aG,.sl 3 [[.bool false,.sl 1 [[.int .u32 1]],.sl 1 [[.int .u32 1]]]],.sl 3 [[.bool false,.aG,.sl 1 [[.int .u32 1]]]]]=some (.tup [.agg [.bool false,.sl 1 [[.int .u32 1]],.sl 1 [[.int .u32 1]]],.int .i64 0]):=by kernel_rfl
noncomputable def L6:OrL:=(328,[.agg eX.cells,.aG,.sl 3 [[.bool false,.sl 1 [[.int .u32 1]],.sl 1 [[.int .u32 1]]]],.sl 3 [[.bool false,.aG,.sl 1 [[.int .u32 1]]]]],.tup [.agg [.bool false,.sl 1 [[.int .u32 1]],.sl 1 [[.int .u32 1]]],.int .i64 0])::L5
theorem ok6:nS C L6:=ok5.cons (lT ok5 tA 300 30 amO)
theorem Ny:sC (rM tab (xQ L6) (λ_=>true) qT 300 30) 362 []=some (.bool true):=by kernel_rfl
theorem i0:aJ C 362 [] .nil (aL (.bool true)):=lT ok6 tA 300 30 Ny
end Go.Proofs.YtfeiflgckfjohabGreatDoor
namespace Go.Proofs.YtfeiflgckfjohabGreatDoor
open Go Go.PM Go.RowKit Go.ChangeShapes Go.WideShapes
def argKinds:List AT:=[.one (.sl [.int .u8])]
theorem Y0:LD Tryz.prog 8 Tryz.f3.params.toList=some argKinds:=by kernel_rfl
theorem aaC(e:V_)(h:AT.TyL argKinds e):aJ C 382 e .nil (aL (.bool true)):=by
 match e,h with
 |[x],h=>
  obtain⟨i,-⟩:=h;cases i with|one i=>
  obtain⟨w,rfl,l,u⟩:=N2 i;exact Kw ji itoa aiP i0 q w l u
theorem An(os:Os)(args:Array Value):laidMetH Tryz.prog Rows.layoutRestsRow.laid ((World.doorLaid Tryz.prog 400 os).forCall (λ_ _=>0) ⟨#[],args,[]⟩).memory:=
 laidMetH_of_parts3 (fuel:=8) (laidMet_of_run' 8 (by kernel_rfl) (by kernel_rfl)) (by kernel_rfl) (by kernel_rfl)
set_option maxRecDepth 100000 in
theorem Ky(os:Os)(e:os.Started)(H:Type)(enc:TypeId × Value->H) :
  ReturnsInHanded {} Tryz.checked os 3 .any (λw args=>(Rows.layoutRestsSpec.pre enc Tryz.prog Tryz.f3 [] false w args/\laidMetH Tryz.prog Rows.layoutRestsRow.laid w)/\sizedMet enc Tryz.prog Tryz.f3 (OpenSpec.ofChange Rows.layoutRestsSpec) false w args)
   (Rows.layoutRestsSpec.post enc Tryz.prog Tryz.f3 false true false false):=by
 refine returnsInHanded_of_change_and (C:=Tryz.checked) (X:=λw _=>laidMetH Tryz.prog Rows.layoutRestsRow.laid w) (λ_ _ _ x h=>h.of_heap x) Tryz.own e (by kernel_rfl) Tryz.func3
  (ChangeSpec.witness_shaped (enc:=enc) (C:=Tryz.checked) (os:=os) (X:=λw _=>laidMetH Tryz.prog Rows.layoutRestsRow.laid w) false (World.doorLaid Tryz.prog 400 os) #[.slice none 0 0] 8 rfl (World.shaped_of_RefB (by kernel_rfl) (by kernel_rfl)) (by kernel_rfl) (by kernel_rfl) (by kernel_rfl) (An os _)) ?_
 intro W base args ds A l i hW _ _ _ _;exact Aa (P:=Tryz.prog) (num:=num) (name:=382) (n:=8) (ats:=argKinds) (bt:=4) Tryz.laidOut (by kernel_rfl) (by kernel_rfl) (by kernel_rfl) rfl
  (λds u=>by
   match ds,u with
   |[y],_=>exact⟨rfl,rfl,rfl⟩)
  (by kernel_rfl) Y0 aaC i hW
theorem cq:Rows.LayoutRestsSaid:=
 OpenClaim.holds_of_wide 3 Tryz.f3 rfl rfl rfl rfl rfl rfl rfl ⟨rfl,rfl,rfl,rfl,rfl⟩ rfl rfl rfl rfl rfl (by kernel_rfl) Tryz.func3 (by kernel_rfl)
  (of_decide_eq_true (by kernel_rfl)) (by unfold Func.isWrapper;first|(rw[aE (by decide +kernel)];kernel_rfl)|(rw[aC (by decide +kernel)];exact⟨rfl,rfl⟩))
  (λos e H enc _=>Ky os e H enc)
theorem layoutRests_card:Rows.LayoutRestsCardSaid:=
 Claim7.holds_tied_plain_at .later [] [.data,.data,.data] true (true,"a091f7145225163e08695ce661df37abed95068a3106ea6bac01af64a8469654") false
  cq (λ_ h=>by cases h) (by kernel_rfl) (λ_ h=>by cases h) layoutRests_row_tie rfl ⟨rfl,rfl⟩ (by kernel_rfl) rfl
  (λf fn l i=>by
   obtain rfl:f=3:=asB.inj ((show Tryz.prog.funcNamed Rows.layoutRestsRow.func=some 3 by kernel_rfl).symm.trans l) |>.symm
   obtain rfl:fn=Tryz.f3:=(asB.inj (Tryz.func3.symm.trans i)).symm;exact⟨by kernel_rfl,λj t x=>by
    have w:t∈Tryz.f3.params.toList:=by rw[Array.mem_toList_iff];exact Array.mem_of_getElem? x
    have e:(Tryz.f3.params.toList.all λu=>!Tryz.prog.wantsStandIn u)=true:=by kernel_rfl
    exact(show Tryz.prog.wantsStandIn t=false by simpa using aqM.1 e t w)⟩)
  (by kernel_rfl)
#print axioms layoutRests_card
end Go.Proofs.YtfeiflgckfjohabGreatDoor
