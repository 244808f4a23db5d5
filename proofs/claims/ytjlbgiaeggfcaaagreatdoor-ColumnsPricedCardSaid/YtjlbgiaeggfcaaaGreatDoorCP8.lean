/-Lemmas for the law. No condition.-/
import Derived.Test.YtjlbgiaeggfcaaaGreatDoorCP7

set_option linter.unusedSimpArgs false
set_option linter.unusedVariables false
open List renaming all_eq_true->bkS,getElem?_eq_getElem->bkT,mem_cons->bkX,getElem?_eq_some_iff->blQ,getElem_of_mem->blZ,length_cons->bmB,all_append->bnX,all_cons->bnY
open Bool renaming and_eq_true->bkI
open Nat renaming le_trans->blH,beq->bmL,mul_le_mul->bnV
open Option renaming map_eq_some_iff->bkU,some->bmH,bind_some->bnW
open Array renaming length_toList->bnL
open List renaming length->Z'
set_option maxRecDepth 100000
set_option maxHeartbeats 800000
noncomputable section
namespace Go.Proofs.YtjlbgiaeggfcaaaGreatDoor
open Go Go.PM
theorem q:bQ C 323 PM.mo:=bS (T []) Tryz.func3
theorem aPG:NV C:={
 r0:=bS (T [40,67,148,154,176]) Tryz.func14,
 r1:=bS (T []) Tryz.func87,
 r2:=bS (T [45,63,90,95]) Tryz.func41,
 r4:=bS (T []) Tryz.func13,
 r5:=bS (T [16]) Tryz.func44,
 r6:=bS (T [3,21]) Tryz.func15,
 r7:=bS (T [60,81,113]) Tryz.func43,
 r27:=bS (T []) Tryz.func36,
 r28:=bS (T []) Tryz.func12,
 r29:=bS (T []) Tryz.func42,
 r30:=bS (T []) Tryz.func115,
 r31:=bS (T []) Tryz.func171,
 r32:=bS (T []) Tryz.func116,
 r33:=bS (T []) Tryz.func90,
 r34:=bS (T []) Tryz.func89,
 r35:=bS (T [8]) Tryz.func46,
 r36:=bS (T []) Tryz.func159,
 r37:=bS (T []) Tryz.func117,
 r38:=bS (T []) Tryz.func85,
 r39:=bS (T [76]) Tryz.func137,
 r40:=bS (T [47]) Tryz.func174,
 r41:=bS (T []) Tryz.func136,
 r42:=bS (T [43]) Tryz.func161,
 r43:=bS (T [51]) Tryz.func160,
 r44:=bS (T []) Tryz.func173,
 r45:=bS (T [35,42]) Tryz.func172,
 r46:=bS (T [2,3]) Tryz.func61,
 r47:=bS (T []) Tryz.func24,
 r48:=bS (T [1]) Tryz.func158,
 r49:=bS (T [2,3]) Tryz.func35,
 r50:=bS (T []) Tryz.func16,
 r51:=bS (T [2,3]) Tryz.func76,
 r52:=bS (T [1]) Tryz.func112,
 r53:=bS (T [2,3]) Tryz.func39,
 r54:=bS (T [1]) Tryz.func33,
 r55:=bS (T []) Tryz.func155,
 r56:=bS (T [1]) Tryz.func38,
 r57:=bS (T [1]) Tryz.func113,
 r58:=bS (T [16]) Tryz.func45,
 r59:=bS (T []) Tryz.func47,
 r60:=bS (T []) Tryz.func114,
 r61:=bS (T []) Tryz.func156,
 r62:=bS (T []) Tryz.func152,
 r63:=bS (T []) Tryz.func187,
 r64:=bS (T []) Tryz.func178,
 r65:=bS (T []) Tryz.func177,
 r66:=bS (T []) Tryz.func157,
 r67:=bS (T [1]) Tryz.func58,
 r68:=bS (T [1]) Tryz.func108,
 r69:=bS (T [6,7]) Tryz.func111,
 r70:=bS (T [8]) Tryz.func107,
 r71:=bS (T []) Tryz.func153,
 r72:=bS (T [7]) Tryz.func110,
 r73:=bS (T []) Tryz.func106,
 r74:=bS (T [1]) Tryz.func109,
 r75:=bS (T []) Tryz.func154,
 r76:=bS (T []) Tryz.func105,
 r77:=bS (T [3,4]) Tryz.func163,
 r80:=bS (T [3]) Tryz.func164,
 r81:=bS (T [2,41]) Tryz.func123,
 r85:=bS (T [2,44]) Tryz.func26,
 r88:=bS (T [3]) Tryz.func162,
 r95:=bS (T [1]) Tryz.func50,
 r96:=bS (T [1,76,94,128,141,183,204]) Tryz.func17,
 r97:=bS (T [1]) Tryz.func92,
 r98:=bS (T []) Tryz.func139,
 r99:=bS (T []) Tryz.func93,
 r100:=bS (T []) Tryz.func141,
 r101:=bS (T [1]) Tryz.func144,
 r102:=bS (T [1]) Tryz.func95,
 r103:=bS (T []) Tryz.func140,
 r104:=bS (T []) Tryz.func48,
 r105:=bS (T [1]) Tryz.func91,
 r106:=bS (T [7]) Tryz.func96,
 r107:=bS (T []) Tryz.func142,
 r108:=bS (T [6,7]) Tryz.func97,
 r109:=bS (T [1]) Tryz.func143,
 r110:=bS (T []) Tryz.func52,
 r111:=bS (T [1]) Tryz.func49,
 r112:=bS (T [2]) Tryz.func51,
 r113:=bS (T [2,3]) Tryz.func56,
 r114:=bS (T [2,3]) Tryz.func30,
 r115:=bS (T []) Tryz.func54,
 r116:=bS (T [1]) Tryz.func99,
 r117:=bS (T []) Tryz.func94,
 r118:=bS (T [1]) Tryz.func65,
 r119:=bS (T []) Tryz.func102,
 r120:=bS (T []) Tryz.func101,
 r121:=bS (T []) Tryz.func67,
 r122:=bS (T [1]) Tryz.func68,
 r123:=bS (T []) Tryz.func98,
 r124:=bS (T []) Tryz.func175,
 r125:=bS (T []) Tryz.func146,
 r126:=bS (T []) Tryz.func145,
 r127:=bS (T []) Tryz.func103,
 r128:=bS (T []) Tryz.func100,
 r129:=bS (T []) Tryz.func66,
 r130:=bS (T []) Tryz.func148,
 r131:=bS (T []) Tryz.func147,
 r132:=bS (T [9]) Tryz.func138,
 r133:=bS (T []) Tryz.func120,
 r134:=bS (T []) Tryz.func104,
 r135:=bS (T []) Tryz.func149,
 r136:=bS (T []) Tryz.func176,
 r137:=bS (T []) Tryz.func150,
 r138:=bS (T []) Tryz.func119,
 r139:=bS (T []) Tryz.func186,
 r140:=bS (T []) Tryz.func183,
 r141:=bS (T []) Tryz.func151,
 r142:=bS (T []) Tryz.func185,
 r143:=bS (T []) Tryz.func184,
 r152:=bS (T [2]) Tryz.func22,
 r161:=bS (T [1]) Tryz.func57,
 r201:=bS (T [3,4]) Tryz.func121,
 r203:=bS (T [2]) Tryz.func165,
 r205:=bS (T [2]) Tryz.func126,
 r206:=bS (T [2,23,24,50,90]) Tryz.func62,
 r207:=bS (T []) Tryz.func63,
 r208:=bS (T []) Tryz.func71,
 r210:=bS (T []) Tryz.func64,
 r211:=bS (T []) Tryz.func118,
 r213:=bS (T [3,4]) Tryz.func124,
 r215:=bS (T [13,42]) Tryz.func74,
 r216:=bS (T [2,60]) Tryz.func77,
 r217:=bS (T [2,19,20,42]) Tryz.func73,
 r218:=bS (T []) Tryz.func75,
 r219:=bS (T [2,3,109,113]) Tryz.func32,
 r220:=bS (T []) Tryz.func78,
 r231:=bS (T [4,6]) Tryz.func31,
 r232:=bS (T [1]) Tryz.func69,
 r233:=bS (T [4,6]) Tryz.func34,
 r234:=bS (T []) Tryz.func59,
 r235:=bS (T [2,3]) Tryz.func8,
 r236:=bS (T []) Tryz.func28,
 r278:=bS (T [2,3]) Tryz.func72,
 r279:=bS (T []) Tryz.func122,
 r280:=bS (T [2,3]) Tryz.func79,
 r281:=bS (T [1]) Tryz.func125,
 r326:=bS (T []) Tryz.func4,
 r327:=bS (T [29]) Tryz.func5,
 r328:=bS (T [4]) Tryz.func6,
 r329:=bS (T [4]) Tryz.func7,
 r330:=bS (T [4,5]) Tryz.func9,
 r331:=bS (T [4,5]) Tryz.func10,
 r335:=bS (T []) Tryz.func18,
 r336:=bS (T []) Tryz.func19,
 r337:=bS (T [1]) Tryz.func20,
 r338:=bS (T [4]) Tryz.func21,
 r339:=bS (T [3]) Tryz.func23,
 r340:=bS (T [1]) Tryz.func25,
 r341:=bS (T [3,5]) Tryz.func27,
 r348:=bS (T [1]) Tryz.func53,
 r349:=bS (T [2,3]) Tryz.func55,
 r350:=bS (T [2,3]) Tryz.func60,
 r229:=⟨a2X Tryz.f70.body,a2Y Tryz.f70.body,a3A (T aWH) Tryz.func70 (by kernel_rfl)⟩,
 r230:=⟨a2X Tryz.f29.body,a2Y Tryz.f29.body,a3A (T aWF) Tryz.func29 (by kernel_rfl)⟩ }
end Go.Proofs.YtjlbgiaeggfcaaaGreatDoor
namespace Go.Proofs.YtjlbgiaeggfcaaaGreatDoor
open Go Go.PM
def roL:List (Nat × List Nat):=[(32,[]),(34,[]),(35,[8]),(36,[]),(38,[]),(39,[76]),(41,[]),(44,[]),(47,[]),(50,[]),(51,[2,3]),(53,[2,3]),(56,[1]),(58,[16]),(59,[]),(60,[]),(152,[2]),(161,[1]),(201,[3,4]),(202,[]),(203,[2]),(204,[3]),(208,[]),(231,[4,6]),(232,[1]),(278,[2,3]),(279,[]),(328,[4]),(330,[4,5]),(332,[9,21]),(333,[3,4,112,145,179]),(334,[4,5,7]),(335,[]),(336,[]),(337,[1]),(338,[4]),(342,[3,4,37,53,119,142,144,167,191,206]),(343,[]),(344,[]),(345,[]),(346,[]),(347,[4,5]),(348,[1]),(349,[2,3]),(351,[]),(352,[3,20,39]),(353,[3]),(354,[]),(355,[]),(356,[]),(358,[]),(359,[]),(360,[])]
def baD:List (Nat × List Nat)->Nat->Option (List Nat)
 |[],_=>none
 |(n,l)::t,k=>if bmL n k then some l else baD t k
noncomputable def tab(k:Nat):Option bB:=match baD roL k with
 |some l=>match Tryz.prog.funcs[num k]? with
  |some fn=>if fn.name=="runtime.NumGoroutine" then none else(T l).func fn
  |none=>none
 |none=>none
theorem baM(k:Nat)(pf:bB)(h:tab k=some pf):Az C k pf:=by
 unfold tab at h;split at h
 ·rename_i l _;split at h
  ·rename_i fn d;split at h
   ·cases h
   ·rename_i i;exact λargs H R e p=>Rm (T:=T l) rfl rfl d (by simpa using i) h e p
  ·cases h
 ·cases h
theorem aOU:A4 (PU tab alW (λ_=>true) l8 300 30) 332 []=some (.bool true):=by kernel_rfl
theorem DM:aH C 332 [] .nil (aF (.bool true)):=aSZ (L.bdD aPG itoa) baM 300 30 aOU
end Go.Proofs.YtjlbgiaeggfcaaaGreatDoor
namespace Go.PM
open Go Go.RowKit Go.ChangeShapes Go.WideShapes
theorem atJ{H:Type}{enc:TypeId × Value->H}{P:Program}{W:World}{r:Reach}{base:Nat}{sp:Nat->Bool}{held:Bool}(num:Nat->FuncId){t:TypeId}{v:Value}{d:DataW H}{ps:List MemPlace}{y:Array Field}{n:Nat}{cts:List CT}
  (w:P.underlying t=some (.struct y)) (p:Value.okWide P W r base t v) (F:DataW.Trod enc P W 0 sp held t v d ps) (E:lL P n t=some cts) :
  ∃e,bM (Env.of W num) (.agg e) v/\Z' e=Z' cts/\(∀(j:Nat) pv ct,e[j]?=some pv->cts[j]?=some ct->PV.Ty ct pv)/\∀N S,FH P N S->S t d->PV.Len N (.agg e):=by
 obtain⟨cs,rfl,-⟩:=okWide_struct w p;obtain⟨fuel,h⟩:=F;obtain⟨e,i,l⟩:=apD num fuel n t _ _ cts h E;have J:cs.size=Z' e:=by have:=i.lc;rw[i.lp,<-this];simp[Value.cells]
 refine⟨e,.agg cs J (λu w=>?_) (λj pv u a b=>(i.rep j pv u a (by simpa[Value.cells]using b)).1),i.lp,i.ty,λN S A B=>.agg (l N S A B)⟩;obtain⟨j,x,rfl⟩:=blZ w;simp only[bnL]at x;exact(i.rep j _ _ (bkT Om) (by simp[Value.cells,x])).2
theorem yG{H:Type}{enc:TypeId × Value->H}{P:Program}{W:World}{sp:Nat->Bool}{held:Bool}(num:Nat->FuncId){t:TypeId}{v:Value}{d:DataW H}{ps:List MemPlace}{n:Nat}{ct:CT}
  (A:v.cells=#[v]) (x:DataW.Trod enc P W 0 sp held t v d ps) (w:lL P n t=some [ct]):∃pv,bM (Env.of W num) pv v/\PV.Ty ct pv/\∀N S,FH P N S->S t d->PV.Len N pv:=by
 obtain⟨fuel,h⟩:=x;obtain⟨l,i,e⟩:=apD num fuel n t _ _ [ct] h w;rw[A]at i;have y:=i.lp;cases l with
 |nil=>simp at y
 |cons pv rest=>exact⟨pv,(i.rep 0 pv v rfl rfl).1,i.ty 0 pv ct rfl rfl,λN S p u=>e N S p u pv bH⟩
section
variable {H:Type} {enc:TypeId × Value->H} {P:Program} {W:World} {sp:Nat->Bool} {held:Bool}
theorem a3E{r:Reach}{base:Nat}(num:Nat->FuncId){t:TypeId}{v:Value}{d:DataW H}{ps:List MemPlace}{n:Nat}{a:AT}
  (i:Value.okWide P W r base t v) (A:DataW.Trod enc P W 0 sp held t v d ps) (p:aIC P n t=some a):∃pv,bM (Env.of W num) pv v/\AT.Ty a pv/\∀N S,FH P N S->S t d->PV.Len N pv:=by
 unfold aIC at p;cases n with
 |zero=>
  split at p
  ·rename_i l;cases p;obtain⟨b,rfl⟩:=okWide_bool l i;obtain⟨pv,u,w,y⟩:=yG (n:=1) (ct:=.bool) num (by simp[Value.cells]) A (by simp[lL,l]);exact⟨pv,u,.one w,y⟩
  ·rename_i k l;cases p;obtain⟨b,rfl⟩:=okWide_int l i;obtain⟨pv,u,w,y⟩:=yG (n:=1) (ct:=.int k) num (by simp[Value.cells]) A (by simp[lL,l]);exact⟨pv,u,.one w,y⟩
  ·rename_i l;cases p;obtain⟨b,rfl⟩:=okWide_string l i;obtain⟨pv,u,w,y⟩:=yG (n:=1) (ct:=.str) num (by simp[Value.cells]) A (by simp[lL,l]);exact⟨pv,u,.one w,y⟩
  ·simp[lL]at p
  ·simp[lL]at p
  ·cases p
 |succ n=>
  split at p
  ·rename_i l;cases p;obtain⟨b,rfl⟩:=okWide_bool l i;obtain⟨pv,u,w,y⟩:=yG (n:=n+1) (ct:=.bool) num (by simp[Value.cells]) A (by simp[lL,l]);exact⟨pv,u,.one w,y⟩
  ·rename_i k l;cases p;obtain⟨b,rfl⟩:=okWide_int l i;obtain⟨pv,u,w,y⟩:=yG (n:=n+1) (ct:=.int k) num (by simp[Value.cells]) A (by simp[lL,l]);exact⟨pv,u,.one w,y⟩
  ·rename_i l;cases p;obtain⟨b,rfl⟩:=okWide_string l i;obtain⟨pv,u,w,y⟩:=yG (n:=n+1) (ct:=.str) num (by simp[Value.cells]) A (by simp[lL,l]);exact⟨pv,u,.one w,y⟩
  ·rename_i e l;split at p
   ·rename_i ct B;cases p;obtain⟨x,len,cap,rfl⟩:=okWide_slice l i;obtain⟨pv,u,w,y⟩:=yG num (by simp[Value.cells]) A B;exact⟨pv,u,.one w,y⟩
   ·cases p
  ·rename_i J l;rw[bkU]at p;obtain⟨cts,B,rfl⟩:=p;obtain⟨F,u,w,E,y⟩:=atJ num l i A B;exact⟨_,u,.struct w E,y⟩
  ·cases p
theorem aaH{r:Reach}{base:Nat}(num:Nat->FuncId){n:Nat}:∀{ts:List TypeId}{vs:List Value}{ds:List (DataW H)}{ps:List MemPlace}{l:List AT},DataW.TrodAll enc P W 0 sp held ts vs ds ps ->
  (∀(j:Nat) t v,ts[j]?=some t->vs[j]?=some v->Value.okWide P W r base t v)->RM P n ts=some l->∃e,fY (Env.of W num) e vs/\AT.TyL l e/\Z' e=Z' ts/\∀N S,FH P N S->∀(j:Nat) t d v,ts[j]?=some t->ds[j]?=some d->S t d->e[j]?=some v->PV.Len N v
 |[],[],_,_,l,_,_,h=>by simp[RM]at h;subst h;exact⟨[],.nil,trivial,rfl,λ_ _ _ _ _ _ _ _ _ _ i=>by simp at i⟩
 |[],_::_,_,_,_,h,_,_=>h.elim
 |_::_,[],[],_,_,h,_,_=>h.elim
 |_::_,[],_::_,_,_,h,_,_=>h.elim
 |_::_,_::_,[],_,_,h,_,_=>h.elim
 |t::ts,v::vs,d::ds,ps,l,h,i,u=>by
  obtain⟨p,q,E,F,rfl⟩:=h;simp only[RM]at u;split at u
  ·rename_i a y B e2;cases u;obtain⟨pv,r1,Q,J⟩:=a3E num (i 0 t v rfl rfl) E B;obtain⟨e,r2,R,M,K⟩:=aaH num F (λj t v a b=>i (j+1) t v (by simpa using a) (by simpa using b)) e2;exact⟨pv::e,.cons r1 r2,⟨Q,R⟩,by rw[bmB,bmB,M],λN S w j O A v' a b x i=>by
    cases j with
    |zero =>simp only[List.getElem?_cons_zero,bmH.injEq]at a b i;subst a;subst b;subst i;exact J N S w x
    |succ j=>exact K N S w j O A v' (by simpa using a) (by simpa using b) x (by simpa using i)⟩
  ·cases u
end
def AF(P:Program)(w:Nat):Nat->TypeId->Bool
 |0,_=>false
 |n+1,t=>match P.underlying t with
  |some (.slice e)=>decide (w<=P.bytesOf e)&&AF P w n e
  |some (.struct d)=>d.toList.all λg=>AF P w n g.type
  |some (.array _ e)=>AF P w n e
  |_=>true
def wtS{H:Type}(P:Program)(w:Nat)(t:TypeId)(d:DataW H):Prop:=(d.weights P t).all (·<=reachBytes)=true/\∃n,AF P w n t=true
theorem FT{H:Type}{P:Program}{e:TypeId}:∀{l:List (DataW H)},(DataW.weightsAll P e l).all (·<=reachBytes)=true->∀d∈l,(d.weights P e).all (·<=reachBytes)=true
 |[],_,_,hd=>by cases hd
 |x::r,h,d,hd=>by
  rw[DataW.weightsAll,bnX,bkI]at h;rcases bkX.1 hd with rfl|hd
  ·exact h.1
  ·exact FT h.2 d hd
theorem DK{H:Type}{P:Program}:∀{ts:List TypeId}{l:List (DataW H)},(DataW.weightsEach P ts l).all (·<=reachBytes)=true->∀(j:Nat) t d,ts[j]?=some t->l[j]?=some d->(d.weights P t).all (·<=reachBytes)=true
 |[],_,_,j,t,d,a,_=>by simp at a
 |_::_,[],_,j,t,d,_,b=>by simp at b
 |t0::ts,x::r,h,j,t,d,a,b=>by
  rw[DataW.weightsEach,bnX,bkI]at h;cases j with
  |zero=>simp at a b;subst a;subst b;exact h.1
  |succ j=>exact DK h.2 j t d (by simpa using a) (by simpa using b)
theorem a7Y{H:Type}(P:Program){w:Nat}(A:0<w):FH (H:=H) P (reachBytes/w) (wtS P w) where
 sl:=λt e y B u ⟨p,n,l⟩=>by
  cases n with
  |zero=>cases l
  |succ n =>rw[AF,u]at l;simp only[bkI,dT_]at l;rw[DataW.weights,u]at p;simp only[bnY,bnX,bkI,dT_]at p;refine⟨(Nat.le_div_iff_mul_le A).2 (blH ?_ p.1),λd x=>⟨FT p.2.1 d x,n,l.2⟩⟩;exact bnV (Nat.le_add_right _ _) l.1
 st:=λt F parts u ⟨p,n,l⟩ i g d E x=>by
  cases n with
  |zero=>cases l
  |succ n=>
   rw[AF,u]at l;rw[DataW.weights,u]at p;refine⟨DK p i g.type d ?_ x,n,bkS.1 l g ?_⟩
   ·simp[E]
   ·rw[Array.mem_toList_iff];exact Array.mem_of_getElem? E
 ar:=λt k e parts u ⟨p,n,l⟩ d x=>by
  cases n with
  |zero=>cases l
  |succ n =>rw[AF,u]at l;rw[DataW.weights,u]at p;exact⟨FT p d x,n,l⟩
theorem Yk{H:Type}{enc:TypeId × Value->H}{P:Program}{f:FuncId}{fn:Func}{s:ChangeSpec}{apart fresh x:Bool}{bt:TypeId}{num:Nat->FuncId}{name n:Nat}{ats:List AT}
  (hl:laidOutB P=true) (U:fn.params.toList.all (λt=>P.readableRec t&&decide (t<P.types.size))=true) (S:fn.resultTypes=#[bt]) (Q:P.underlying bt=some .bool) (K:s.vars=[])
  (hs:∀ds:List (DataW H),Z' ds=Z' fn.params.toList->(s.fn H ds).results=[.lit (.bool true)]/\(s.fn H ds).args=ds/\(s.fn H ds).vars=[])
  (F:num name=f) (ha:RM P n fn.params.toList=some ats) (X:List Nat) (V:∀(j:Nat) t w,fn.params.toList[j]?=some t->X[j]?=some w->0<w/\AF P w 8 t=true) (h:∀u,AT.TyL ats u->(∀(j:Nat) v w,u[j]?=some v->X[j]?=some w->PV.Len (reachBytes/w) v)->aH ⟨P,num⟩ name u PH.nil (aF (.bool true)))
  {W:World} {base:Nat} {args:Array Value} {ds gs:List (DataW H)} {y:List MemPlace}
  (M:∀(j:Nat) t v,fn.params[j]?=some t->args[j]?=some v->Value.okWide P W .any base t v) (hW:DataW.Whole enc P fn.params.toList s.vars apart W args.toList ds gs y) (hS:∀(j:Nat) t d,fn.params.toList[j]?=some t->ds[j]?=some d->(d.weights P t).all (·<=reachBytes)=true) :
  Calls P f args W λe Y=>∃v,e=.returned v/\s.post enc P fn apart fresh x false W args v Y:=by
 have J:∀t∈fn.params.toList,P.readableRec t=true/\t<P.types.size:=λt B=>by have:=bkS.1 U t B;simpa using this
 have O:=hW;obtain⟨p,q,N,hV,rfl,hz,hn⟩:=hW;rw[K]at hV;obtain⟨rfl,rfl⟩:=trodVars_none hV;obtain⟨u,hr,B,α,A⟩:=aaH num N (λj t v a b=>M j t v (by simpa using a) (by simpa using b)) ha;have E:=TrodAll.length N;subst F;obtain⟨r1,r2,r3⟩:=hs (ds++[]) (by simpa using E);have R:∀(j:Nat) v w,u[j]?=some v->X[j]?=some w->PV.Len (reachBytes/w) v:=λj v w K hw=>by have hj:=(blQ.1 K).1;have e2:=TrodAll.length N;have B:=bkT (l:=fn.params.toList) (i:=j) Om;have Z:=bkT (l:=ds) (i:=j) Om;obtain⟨w0,wb⟩:=V j _ w B hw;exact A _ _ (a7Y P w0) j _ _ v B Z ⟨hS j _ _ B Z,8,wb⟩ K
 refine(aQM (C:=⟨P,num⟩) (h u B R) hr).mono λe Y he=>?_;obtain⟨rfl,hb⟩:=he;exact⟨_,rfl,aSI hl O hb J S Q K r1 (by rw[r2];simp) r3⟩
open Go Go.Na
def SU(N:Nat):List CT->List PV->Prop
 |[],[]=>True
 |e::d,v::r=>(PV.Ty e v/\PV.Len N v)/\SU N d r
 |_,_=>False
theorem SU.of{N:Nat}:∀{i:List CT}{r:List PV},Z' r=Z' i->(∀(j:Nat) pv ct,r[j]?=some pv->i[j]?=some ct->PV.Ty ct pv)->(∀v∈r,PV.Len N v)->SU N i r
 |[],[],_,_,_=>trivial
 |e::i,v::r,d,h,l=>⟨⟨h 0 v e rfl rfl,l v bH⟩,SU.of (by simpa using d) (λj pv ct a b=>h (j+1) pv ct (by simpa using a) (by simpa using b)) λu p=>l u (List.mem_cons_of_mem _ p)⟩
 |[],_::_,d,_,_=>by simp at d
 |_::_,[],d,_,_=>by simp at d
theorem ahI{α:Type}{Q:List PV->Prop}{cells:α->List PV}{P:α->Prop}(d:∀r,Q r->∃x,r=cells x/\P x):∀{rows:List (List PV)},(∀r∈rows,Q r)->∃l:List α,rows=l.map cells/\∀x∈l,P x
 |[],_=>⟨[],rfl,λx h=>by cases h⟩
 |r::rs,h=>by obtain⟨x,rfl,w⟩:=d r (h r bH);obtain⟨l,rfl,i⟩:=ahI d (rows:=rs) λu p=>h u (List.mem_cons_of_mem _ p);exact⟨x::l,rfl,λy A=>(bkX.1 A).elim (λe=>e ▸ w) (i y)⟩
theorem aoI{α:Type}{N:Nat}{d:List CT}{pv:PV}{cells:α->List PV}{P:α->Prop}(p:∀r,SU N d r->∃x,r=cells x/\P x)(h:PV.Ty (.sl d) pv/\PV.Len N pv):∃l:List α,pv=.sl d.length (l.map cells)/\Z' l<=N/\∀x∈l,P x:=by
 obtain⟨h,u⟩:=h;cases h with
 |@sl d rows w e h=>
 obtain⟨A,B⟩:=u.rows;obtain⟨l,rfl,y⟩:=ahI p (rows:=rows) λr e=>.of (w r e) (λj pv ct a b=>by obtain⟨i,hi,rfl⟩:=blZ e;exact h i j pv ct (by unfold at2;rw[bkT hi,bnW];exact a) b) (B r e);exact⟨l,rfl,by simpa using A,y⟩
abbrev NB:Nat:=35184372087808
abbrev Ut:CT:=.sl [.int .u32]
abbrev Ft:CT:=.sl [.bool,Ut,Ut]
theorem aBC{N:Nat}(r:List PV)(h:SU N [.int .u32] r):∃n:Nat,r=[.int .u32 (n:Int)]/\n<4294967296:=by
 match r,h with
 |[v],⟨⟨h,_⟩,_⟩ =>obtain⟨m,rfl,e⟩:=Ty.M4 h;have d:=e.1;have i:=e.2;rw[show IntKind.u32.min=0 by decide]at d;rw[show IntKind.u32.max=4294967295 by decide]at i;exact⟨m.toNat,by rw[Int.toNat_of_nonneg d],by omega⟩
theorem a4H{a b c:PV}(d:PV.Ty .bool a)(e:PV.Ty Ut b/\PV.Len NB b)(i:PV.Ty Ut c/\PV.Len NB c):∃x:RF,a=.bool x.neg/\b=aN x.num/\c=aN x.den/\x.Ok:=by
 obtain⟨n,rfl⟩:=Ty.aVN d;obtain⟨xs,rfl,l,u⟩:=aoI aBC e;obtain⟨ys,rfl,p,w⟩:=aoI aBC i;exact⟨⟨n,xs,ys⟩,rfl,rfl,rfl,u,w,l,p⟩
theorem aXF(r:List PV)(h:SU NB [.bool,Ut,Ut] r):∃x:RF,r=x.cells/\x.Ok:=by
 match r,h with
 |[a,b,c],⟨d,e,i,_⟩ =>obtain⟨x,rfl,rfl,rfl,l⟩:=a4H d.1 e i;exact⟨x,rfl,l⟩
theorem a4D{α:Type}{l:List α}(h:Z' l<=NB):Fits l:=blH h aU
theorem axV{v:PV}(h:PV.Ty Ft v/\PV.Len NB v):∃l:List RF,v=frs l/\nI l:=by
 obtain⟨l,rfl,d,e⟩:=aoI aXF h;exact⟨l,rfl,a4D d,e⟩
end Go.PM
