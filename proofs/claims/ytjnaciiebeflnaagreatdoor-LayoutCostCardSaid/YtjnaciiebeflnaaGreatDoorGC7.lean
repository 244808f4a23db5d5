/-Lemmas for the law. No condition.-/
import Derived.Test.YtjnaciiebeflnaaGreatDoorGC6

set_option linter.unusedSimpArgs false
set_option linter.unusedVariables false
open List renaming getElem?_eq_getElem->avF,mem_cons->avL,getElem_of_mem->awR,mem_cons_of_mem->ayT
open Nat renaming beq->awX
open List renaming length->Z'
set_option maxRecDepth 100000
set_option maxHeartbeats 800000
noncomputable section
namespace Go.Proofs.YtjnaciiebeflnaaGreatDoor
open Go Go.PM
theorem q:bO C 374 PM.jA:=bR Tryz.func3
theorem rG:NF C:={
 r0:=bR Tryz.func12,
 r1:=bR Tryz.func61,
 r2:=bR Tryz.func29,
 r3:=bR Tryz.func6,
 r4:=bR Tryz.func8,
 r5:=bR Tryz.func33,
 r6:=bR Tryz.func13,
 r7:=bR Tryz.func32,
 r27:=bR Tryz.func14,
 r28:=bR Tryz.func11,
 r29:=bR Tryz.func30,
 r30:=bR Tryz.func223,
 r31:=bR Tryz.func214,
 r32:=bR Tryz.func190,
 r33:=bR Tryz.func112,
 r34:=bR Tryz.func111,
 r35:=bR Tryz.func64,
 r36:=bR Tryz.func226,
 r37:=bR Tryz.func225,
 r38:=bR Tryz.func110,
 r39:=bR Tryz.func166,
 r40:=bR Tryz.func218,
 r41:=bR Tryz.func165,
 r42:=bR Tryz.func217,
 r43:=bR Tryz.func242,
 r44:=bR Tryz.func216,
 r45:=bR Tryz.func215,
 r46:=bR Tryz.func188,
 r47:=bR Tryz.func31,
 r48:=bR Tryz.func243,
 r49:=bR Tryz.func148,
 r50:=bR Tryz.func34,
 r51:=bR Tryz.func144,
 r52:=bR Tryz.func145,
 r53:=bR Tryz.func143,
 r54:=bR Tryz.func92,
 r55:=bR Tryz.func142,
 r56:=bR Tryz.func91,
 r57:=bR Tryz.func224,
 r58:=bR Tryz.func63,
 r59:=bR Tryz.func65,
 r60:=bR Tryz.func189,
 r61:=bR Tryz.func146,
 r62:=bR Tryz.func139,
 r63:=bR Tryz.func222,
 r64:=bR Tryz.func187,
 r65:=bR Tryz.func186,
 r66:=bR Tryz.func147,
 r67:=bR Tryz.func41,
 r68:=bR Tryz.func90,
 r69:=bR Tryz.func95,
 r70:=bR Tryz.func89,
 r71:=bR Tryz.func140,
 r72:=bR Tryz.func94,
 r73:=bR Tryz.func88,
 r74:=bR Tryz.func93,
 r75:=bR Tryz.func141,
 r76:=bR Tryz.func87,
 r77:=bR Tryz.func44,
 r80:=bR Tryz.func163,
 r81:=bR Tryz.func106,
 r82:=bR Tryz.func17,
 r83:=bR Tryz.func27,
 r84:=bR Tryz.func108,
 r85:=bR Tryz.func45,
 r87:=bR Tryz.func59,
 r88:=bR Tryz.func161,
 r89:=bR Tryz.func162,
 r90:=bR Tryz.func107,
 r95:=bR Tryz.func98,
 r96:=bR Tryz.func49,
 r97:=bR Tryz.func150,
 r98:=bR Tryz.func191,
 r99:=bR Tryz.func151,
 r100:=bR Tryz.func193,
 r101:=bR Tryz.func196,
 r102:=bR Tryz.func153,
 r103:=bR Tryz.func192,
 r104:=bR Tryz.func96,
 r105:=bR Tryz.func149,
 r106:=bR Tryz.func154,
 r107:=bR Tryz.func194,
 r108:=bR Tryz.func155,
 r109:=bR Tryz.func195,
 r110:=bR Tryz.func100,
 r111:=bR Tryz.func97,
 r112:=bR Tryz.func99,
 r113:=bR Tryz.func138,
 r114:=bR Tryz.func83,
 r115:=bR Tryz.func70,
 r116:=bR Tryz.func179,
 r117:=bR Tryz.func152,
 r118:=bR Tryz.func129,
 r119:=bR Tryz.func120,
 r120:=bR Tryz.func119,
 r121:=bR Tryz.func131,
 r122:=bR Tryz.func132,
 r123:=bR Tryz.func156,
 r124:=bR Tryz.func227,
 r125:=bR Tryz.func198,
 r126:=bR Tryz.func197,
 r127:=bR Tryz.func184,
 r128:=bR Tryz.func172,
 r129:=bR Tryz.func130,
 r130:=bR Tryz.func173,
 r131:=bR Tryz.func171,
 r132:=bR Tryz.func175,
 r133:=bR Tryz.func181,
 r134:=bR Tryz.func185,
 r135:=bR Tryz.func174,
 r136:=bR Tryz.func220,
 r137:=bR Tryz.func219,
 r138:=bR Tryz.func180,
 r139:=bR Tryz.func241,
 r140:=bR Tryz.func238,
 r141:=bR Tryz.func221,
 r142:=bR Tryz.func240,
 r143:=bR Tryz.func239,
 r150:=bR Tryz.func23,
 r152:=bR Tryz.func78,
 r154:=bR Tryz.func54,
 r156:=bR Tryz.func157,
 r157:=bR Tryz.func104,
 r158:=bR Tryz.func103,
 r159:=bR Tryz.func158,
 r160:=bR Tryz.func102,
 r161:=bR Tryz.func53,
 r206:=bR Tryz.func50,
 r207:=bR Tryz.func51,
 r210:=bR Tryz.func52,
 r211:=bR Tryz.func101,
 r215:=bR Tryz.func57,
 r217:=bR Tryz.func56,
 r218:=bR Tryz.func58,
 r219:=bR Tryz.func26,
 r220:=bR Tryz.func60,
 r299:=bR Tryz.func46,
 r300:=bR Tryz.func48,
 r302:=bR Tryz.func47,
 r303:=bR Tryz.func19,
 r304:=bR Tryz.func43,
 r305:=bR Tryz.func42,
 r306:=bR Tryz.func20,
 r307:=bR Tryz.func18,
 r308:=bR Tryz.func21,
 r309:=bR Tryz.func7,
 r365:=bR Tryz.func9,
 r367:=bR Tryz.func24,
 r368:=bR Tryz.func25,
 r375:=bR Tryz.func4,
 r376:=bR Tryz.func10,
 r377:=bR Tryz.func28,
 r229:=⟨adJ Tryz.f134.body,adK Tryz.f134.body,adM (T Xt) Tryz.func134 (by kernel_rfl)⟩,
 r230:=⟨adJ Tryz.f22.body,adK Tryz.f22.body,adM (T Xr) Tryz.func22 (by kernel_rfl)⟩ }
end Go.Proofs.YtjnaciiebeflnaaGreatDoor
namespace Go.Proofs.YtjnaciiebeflnaaGreatDoor
open Go Go.PM
def roL:List (Nat × N_):=[(201,[3,4]),(203,[2]),(205,[2]),(150,[3]),(151,[2]),(152,[2]),(154,[3,28,44,74]),(156,[2]),(157,[2]),(158,[3,75,91,134,167]),(160,[3]),(161,[1]),(171,[]),(173,[]),(180,[]),(184,[]),(192,[]),(208,[]),(231,[4,6]),(232,[1]),(278,[2,3]),(279,[]),(282,[2]),(283,[3]),(284,[2]),(285,[13]),(286,[2]),(287,[1]),(288,[2,89]),(291,[]),(292,[]),(294,[]),(295,[]),(296,[79]),(297,[]),(298,[1,48,67]),(328,[4]),(330,[4,5]),(333,[3,4,112,145,179]),(335,[]),(336,[]),(337,[1]),(338,[4]),(342,[3,4,37,53,119,142,144,167,191,206]),(343,[]),(344,[]),(345,[]),(346,[]),(348,[1]),(349,[2,3]),(351,[]),(352,[3,20,39]),(353,[3]),(354,[]),(355,[]),(356,[]),(358,[]),(359,[]),(360,[]),(362,[11,23,30,31]),(363,[3,4]),(364,[4,5]),(365,[3,4]),(366,[4,5,7]),(367,[]),(368,[]),(369,[2,62]),(372,[2,3]),(373,[])]
def akX:List (Nat × N_)->Nat->Option N_
 |[],_=>none
 |(n,l)::t,k=>if awX n k then some l else akX t k
noncomputable def tab(k:Nat):Option lH:=match akX roL k with
 |some l=>match Tryz.prog.funcs[num k]? with
  |some fn=>if fn.name=="runtime.NumGoroutine" then none else(T l).func fn
  |none=>none
 |none=>none
theorem AA(k:Nat)(pf:lH)(h:tab k=some pf):l9 C k pf:=by
 unfold tab at h;split at h;rename_i l _;split at h;rename_i fn e;split at h;cases h;rename_i u;exact λargs H R i w=>xv (T:=T l) rfl rfl e (by simpa using u) h i w;cases h;cases h
theorem alA:vI (tQ tab (sY zR Cm) (λ_=>true) tR 300 30) 201 [.agg fD.cells,.agg (mR fD 0).cells,ints [0]]=some (.bool true):=by kernel_rfl
noncomputable def La:OrL:=(229,[.agg fD.cells,.agg (mR fD 0).cells],lay [[0]])::Cm
theorem oka:oI C La:=(L.K6 rG itoa).cons (L.aeW rG (qK (L.vL rG) (L.K6 rG itoa) AA 300 30 alA))
theorem alB:vI (tQ tab (sY zR La) (λ_=>true) tR 300 30) 205 [.agg fD.cells,.j 0]=some (.tup [lay [[0]],.j 0]):=by kernel_rfl
noncomputable def L0:OrL:=(205,[.agg fD.cells,.int .i64 0],.tup [lay [[0]],.int .i64 0])::La
theorem ok0:oI C L0:=oka.cons (qK (L.vL rG) oka AA 300 30 alB)
theorem arT:vI (tQ tab (sY zR L0) (λ_=>true) tR 300 30) 333 [.agg fD.cells,.agg [.j 5,.j 1],.aJ]=some (.tup [.agg [.sl 5 [[.j 0,.sl 1 [[.j 0]],.bool false,.sl 1 [[.int .u32 1]],.sl 1 [[.int .u32 1]]]],.sl 3 [[.bool false,.sl 1 [[.int .u32 1]],.sl 1 [[.int .u32 1]]]],.sl 3 [[.bool false,.sl 1 [],.sl 1 [[.int .u32 1]]]],.bool false,.sl 1 [[.int .u32 1]],.sl 1 [[.int .u32 1]]],.j 0]):=by kernel_rfl
noncomputable def L1:OrL:=(333,[.agg fD.cells,.agg [.int .i64 5,.int .i64 1],.aJ],.tup [.agg [.sl 5 [[.int .i64 0,.sl 1 [[.int .i64 0]],.bool false,.sl 1 [[.int .u32 1]],.sl 1 [[.int .u32 1]]]],.sl 3 [[.bool false,.sl 1 [[.int .u32 1]],.sl 1 [[.int .u32 1]]]],.sl 3 [[.bool false,.sl 1 [],.sl 1 [[.int .u32 1]]]],.bool false,.sl 1 [[.int .u32 1]],.sl 1 [[.int .u32 1]]],.int .i64 0])::L0
theorem ok1:oI C L1:=ok0.cons (qK (L.vL rG) ok0 AA 300 30 arT)
theorem arU:vI (tQ tab (sY zR L1) (λ_=>true) tR 300 30) 333 [.agg fD.cells,.agg [.j 5,.j 1],.sl 1 [[.j 0]]]=some (.tup [.agg [.aJ,.aJ,.aJ,.bool false,.aJ,.aJ],.j 12]):=by kernel_rfl
noncomputable def L2:OrL:=(333,[.agg fD.cells,.agg [.int .i64 5,.int .i64 1],.sl 1 [[.int .i64 0]]],.tup [.agg [.aJ,.aJ,.aJ,.bool false,.aJ,.aJ],.int .i64 12])::L1
theorem ok2:oI C L2:=ok1.cons (qK (L.vL rG) ok1 AA 300 30 arU)
theorem arV:vI (tQ tab (sY zR L2) (λ_=>true) tR 300 30) 288 [.agg fD.cells,.aJ]=some (.tup [.sl 1 [[.sl 1 [[.j 0]]]],.j 0]):=by kernel_rfl
noncomputable def L3:OrL:=(288,[.agg fD.cells,.aJ],.tup [.sl 1 [[.sl 1 [[.int .i64 0]]]],.int .i64 0])::L2
theorem ok3:oI C L3:=ok2.cons (qK (L.vL rG) ok2 AA 300 30 arV)
theorem arW:vI (tQ tab (sY zR L3) (λ_=>true) tR 300 30) 150 [.agg fD.cells,.sl 1 [[.sl 1 [[.j 0]]]],.aJ]=some (.bool true):=by kernel_rfl
noncomputable def L4:OrL:=(150,[.agg fD.cells,.sl 1 [[.sl 1 [[.int .i64 0]]]],.aJ],.bool true)::L3
theorem ok4:oI C L4:=ok3.cons (qK (L.vL rG) ok3 AA 300 30 arW)
theorem arX:vI (tQ tab (sY zR L4) (λ_=>true) tR 300 30) 330 [.agg fD.cells,.agg [.j 5,.j 1],.sl 3 [[.bool false,.sl 1 [[.int .u32 1]],.sl 1 [[.int .u32 1]]]],.sl 3 [[.bool false,.sl 1 [],.sl 1 [[.int .u32 1]]]]]=some (.bool true):=by kernel_rfl
noncomputable def L5:OrL:=(330,[.agg fD.cells,.agg [.int .i64 5,.int .i64 1],.sl 3 [[.bool false,.sl 1 [[.int .u32 1]],.sl 1 [[.int .u32 1]]]],.sl 3 [[.bool false,.sl 1 [],.sl 1 [[.int .u32 1]]]]],.bool true)::L4
theorem ok5:oI C L5:=ok4.cons (qK (L.vL rG) ok4 AA 300 30 arX)
theorem arY:vI (tQ tab (sY zR L5) (λ_=>true) tR 300 30) 328 [.agg fD.cells,.aJ,.sl 3 [[.bool false,.sl 1 [[.int .u32 1]],.sl 1 [[.int .u32 1]]]],.sl 3 [[.bool false,.sl 1 [],.sl 1 [[.int .u32 1]]]]]=some (.tup [.agg [.bool false,.sl 1 [[.int .u32 1]],.sl 1 [[.int .u32 1]]],.j 0]):=by kernel_rfl
noncomputable def L6:OrL:=(328,[.agg fD.cells,.aJ,.sl 3 [[.bool false,.sl 1 [[.int .u32 1]],.sl 1 [[.int .u32 1]]]],.sl 3 [[.bool false,.sl 1 [],.sl 1 [[.int .u32 1]]]]],.tup [.agg [.bool false,.sl 1 [[.int .u32 1]],.sl 1 [[.int .u32 1]]],.int .i64 0])::L5
theorem ok6:oI C L6:=ok5.cons (qK (L.vL rG) ok5 AA 300 30 arY)
theorem R4:vI (tQ tab (sY zR L6) (λ_=>true) tR 300 30) 362 []=some (.bool true):=by kernel_rfl
theorem YE:aH C 362 [] .nil (aL (.bool true)):=qK (L.vL rG) ok6 AA 300 30 R4
end Go.Proofs.YtjnaciiebeflnaaGreatDoor
namespace Go.PM
open Go Go.RowKit Go.ChangeShapes Go.WideShapes
open Go Go.Na
def Bp(N:Nat):List CT->V_->Prop
 |[],[]=>True
 |e::i,v::r=>(PV.Ty e v/\PV.Len N v)/\Bp N i r
 |_,_=>False
theorem Bp.of{N:Nat}:∀{l:List CT}{r:V_},Z' r=Z' l->(∀(j:Nat) pv ct,r[j]?=some pv->l[j]?=some ct->PV.Ty ct pv)->(∀v∈r,PV.Len N v)->Bp N l r
 |[],[],_,_,_=>trivial
 |e::l,v::r,i,h,w=>⟨⟨h 0 v e rfl rfl,w v aZ⟩,Bp.of (by simpa using i) (λj pv ct a b=>h (j+1) pv ct (by simpa using a) (by simpa using b)) λu x=>w u (ayT _ x)⟩
 |[],_::_,i,_,_=>by simp at i
 |_::_,[],i,_,_=>by simp at i
theorem Fg{α:Type}{Q:V_->Prop}{cells:α->V_}{P:α->Prop}(i:∀r,Q r->∃x,r=cells x/\P x):∀{rows:P2_},(∀r∈rows,Q r)->∃l:List α,rows=l.map cells/\∀x∈l,P x
 |[],_=>⟨[],rfl,λx h=>by cases h⟩
 |r::rs,h=>by obtain⟨x,rfl,B⟩:=i r (h r aZ);obtain⟨l,rfl,w⟩:=Fg i (rows:=rs) λu A=>h u (ayT _ A);exact⟨x::l,rfl,λy E=>(avL.1 E).elim (λe=>e ▸ B) (w y)⟩
theorem afT{pv:PV}(h:PV.Ty (.sl [.sl [.int .i64]]) pv):∃L:L2_,pv=lay L:=by
 cases h with
 |sl A B h=>
 rename_i rows;obtain⟨L,e,-⟩:=Fg (Q:=λr=>r∈rows) (cells:=λw:I_=>[ints w]) (P:=λ_=>True) (λr l=>by
  have u:=A r l;obtain⟨i,hi,e⟩:=awR l
  match r,u,e with
  |[x],_,e =>have y:=h i 0 x (.sl [.int .i64]) (by unfold at2;rw[avF hi,e];rfl) rfl;obtain⟨xs,rfl,-,-⟩:=Ty.E5 y;exact⟨xs,rfl,trivial⟩) (rows:=rows) (λr l=>l)
 exact⟨L,by rw[e];rfl⟩
end Go.PM
