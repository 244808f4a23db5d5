/-
  Texts of ours, joined. No condition.
-/
import Derived.Test.YtnagfjehjbbckaaGreatDoorPr1
import Derived.Test.YtnagfjehjbbckaaGreatDoorPr2
import Derived.Test.YtnagfjehjbbckaaGreatDoorPr3
import Derived.Test.YtnagfjehjbbckaaGreatDoorPr4
import Derived.Test.YtnagfjehjbbckaaGreatDoorPr5
import Derived.Test.YtnagfjehjbbckaaGreatDoorPr6

set_option linter.unusedSimpArgs false
set_option linter.unusedVariables false
open List renaming mem_cons → aYY, getElem?_eq_getElem → aZA, all_eq_true → aZC, getElem?_eq_some_iff → aZU, getElem_of_mem → a0C, length_cons → a0F, all_append → a1X
open Nat renaming le_trans → aZS, mul_le_mul → a1U
open Bool renaming and_eq_true → aZD
open Option renaming map_eq_some_iff → aYX, some → a0Y, bind_some → a2C
open Array renaming length_toList → a1W
namespace Go.Proofs.YtnagfjehjbbckaaGreatDoor
open Go Go.PM
theorem q:bG C 237 PM.n9:=bJ (T atV) Tryz.func3
theorem aNT:bB C:={
 r0:=bJ (T atH) Tryz.func22,
 r1:=bJ (T aCF) Tryz.func87,
 r2:=bJ (T aJU) Tryz.func51,
 r4:=bJ (T aCP) Tryz.func50,
 r5:=bJ (T aJZ) Tryz.func54,
 r7:=bJ (T aCG) Tryz.func53,
 r27:=bJ (T atE) Tryz.func6,
 r28:=bJ (T aJW) Tryz.func21,
 r29:=bJ (T aCM) Tryz.func52,
 r30:=bJ (T aLS) Tryz.func83,
 r31:=bJ (T aEP) Tryz.func132,
 r32:=bJ (T aLU) Tryz.func85,
 r33:=bJ (T aLW) Tryz.func62,
 r34:=bJ (T aLY) Tryz.func61,
 r35:=bJ (T aEX) Tryz.func30,
 r36:=bJ (T aMA) Tryz.func119,
 r37:=bJ (T aME) Tryz.func86,
 r38:=bJ (T aFJ) Tryz.func48,
 r39:=bJ (T apI) Tryz.func101,
 r40:=bJ (T aEU) Tryz.func135,
 r41:=bJ (T awC) Tryz.func100,
 r42:=bJ (T awE) Tryz.func122,
 r43:=bJ (T aFF) Tryz.func120,
 r44:=bJ (T awI) Tryz.func134,
 r45:=bJ (T aPG) Tryz.func133,
 r46:=bJ (T aMG) Tryz.func46,
 r47:=bJ (T aMH) Tryz.func8,
 r48:=bJ (T awW) Tryz.func121,
 r49:=bJ (T aFQ) Tryz.func19,
 r50:=bJ (T aFR) Tryz.func9,
 r51:=bJ (T awY) Tryz.func49,
 r52:=bJ (T aqA) Tryz.func80,
 r53:=bJ (T aFU) Tryz.func20,
 r54:=bJ (T aFW) Tryz.func93,
 r55:=bJ (T aMO) Tryz.func127,
 r56:=bJ (T axC) Tryz.func18,
 r57:=bJ (T aFM) Tryz.func84,
 r58:=bJ (T apY) Tryz.func29,
 r59:=bJ (T aFY) Tryz.func31,
 r60:=bJ (T axA) Tryz.func82,
 r61:=bJ (T aEG) Tryz.func128,
 r62:=bJ (T aqH) Tryz.func124,
 r63:=bJ (T axE) Tryz.func167,
 r64:=bJ (T aqF) Tryz.func150,
 r65:=bJ (T aqJ) Tryz.func149,
 r66:=bJ (T aMZ) Tryz.func129,
 r67:=bJ (T ayB) Tryz.func57,
 r68:=bJ (T aMX) Tryz.func92,
 r69:=bJ (T aMU) Tryz.func96,
 r70:=bJ (T axQ) Tryz.func91,
 r71:=bJ (T axS) Tryz.func125,
 r72:=bJ (T Y3) Tryz.func95,
 r73:=bJ (T axV) Tryz.func90,
 r74:=bJ (T axX) Tryz.func94,
 r75:=bJ (T aqO) Tryz.func126,
 r76:=bJ (T aqQ) Tryz.func89,
 r77:=bJ (T Ym) Tryz.func117,
 r80:=bJ (T avN) Tryz.func118,
 r81:=bJ (T aoY) Tryz.func116,
 r88:=bJ (T avL) Tryz.func147,
 r94:=bJ (T azY) Tryz.func12,
 r95:=bJ (T aIT) Tryz.func104,
 r96:=bJ (T aJE) Tryz.func63,
 r97:=bJ (T asM) Tryz.func137,
 r98:=bJ (T aAS) Tryz.func151,
 r99:=bJ (T aAU) Tryz.func138,
 r100:=bJ (T aAW) Tryz.func153,
 r101:=bJ (T aIZ) Tryz.func156,
 r102:=bJ (T aAZ) Tryz.func140,
 r103:=bJ (T asO) Tryz.func152,
 r104:=bJ (T aNZ) Tryz.func102,
 r105:=bJ (T aIV) Tryz.func136,
 r106:=bJ (T aIX) Tryz.func141,
 r107:=bJ (T aBE) Tryz.func154,
 r108:=bJ (T aBH) Tryz.func142,
 r109:=bJ (T asR) Tryz.func155,
 r110:=bJ (T aBK) Tryz.func106,
 r111:=bJ (T aIR) Tryz.func103,
 r112:=bJ (T aJB) Tryz.func105,
 r113:=bJ (T aIC) Tryz.func71,
 r114:=bJ (T aIE) Tryz.func38,
 r115:=bJ (T aAM) Tryz.func35,
 r116:=bJ (T alY) Tryz.func67,
 r117:=bJ (T aIP) Tryz.func139,
 r118:=bJ (T asK) Tryz.func73,
 r119:=bJ (T aIA) Tryz.func70,
 r120:=bJ (T alV) Tryz.func69,
 r121:=bJ (T asI) Tryz.func75,
 r122:=bJ (T aAQ) Tryz.func76,
 r123:=bJ (T aBX) Tryz.func143,
 r124:=bJ (T asV) Tryz.func168,
 r125:=bJ (T atA) Tryz.func158,
 r126:=bJ (T anE) Tryz.func157,
 r127:=bJ (T aKC) Tryz.func113,
 r128:=bJ (T aCT) Tryz.func68,
 r129:=bJ (T aKF) Tryz.func74,
 r130:=bJ (T aKH) Tryz.func110,
 r131:=bJ (T aKL) Tryz.func109,
 r132:=bJ (T aCY) Tryz.func112,
 r133:=bJ (T aKN) Tryz.func115,
 r134:=bJ (T aKP) Tryz.func114,
 r135:=bJ (T aDD) Tryz.func111,
 r136:=bJ (T anU) Tryz.func145,
 r137:=bJ (T atS) Tryz.func144,
 r138:=bJ (T anZ) Tryz.func108,
 r139:=bJ (T Ya) Tryz.func162,
 r140:=bJ (T atX) Tryz.func159,
 r141:=bJ (T atZ) Tryz.func146,
 r142:=bJ (T Sp) Tryz.func161,
 r143:=bJ (T aOM) Tryz.func160,
 r201:=bJ (T aHF) Tryz.func59,
 r202:=bJ (T aHJ) Tryz.func58,
 r203:=bJ (T arE) Tryz.func45,
 r204:=bJ (T aqZ) Tryz.func27,
 r205:=bJ (T arB) Tryz.func15,
 r206:=bJ (T arL) Tryz.func64,
 r207:=bJ (T akV) Tryz.func65,
 r208:=bJ (T ayY) Tryz.func36,
 r209:=bJ (T akZ) Tryz.func16,
 r210:=bJ (T azJ) Tryz.func66,
 r211:=bJ (T arO) Tryz.func107,
 r212:=bJ (T aAG) Tryz.func44,
 r213:=bJ (T aLB) Tryz.func81,
 r215:=bJ (T aoM) Tryz.func78,
 r216:=bJ (T aLD) Tryz.func41,
 r217:=bJ (T avJ) Tryz.func77,
 r218:=bJ (T aLG) Tryz.func79,
 r219:=bJ (T aEC) Tryz.func39,
 r220:=bJ (T aDW) Tryz.func42,
 r222:=bJ (T atL) Tryz.func14,
 r223:=bJ (T atO) Tryz.func7,
 r231:=bJ (T arI) Tryz.func10,
 r232:=bJ (T alE) Tryz.func33,
 r233:=bJ (T avD) Tryz.func11,
 r234:=bJ (T aoS) Tryz.func40,
 r235:=bJ (T azU) Tryz.func13,
 r236:=bJ (T aHX) Tryz.func43,
 r278:=bJ (T aIN) Tryz.func37,
 r279:=bJ (T asG) Tryz.func72,
 r280:=bJ (T aMM) Tryz.func17,
 r281:=bJ (T aMK) Tryz.func47,
 r229:=⟨aGT Tryz.f34.body,aGU Tryz.f34.body,aGV (T azH) Tryz.func34 (by kernel_rfl)⟩,
 r230:=⟨aGT Tryz.f32.body,aGU Tryz.f32.body,aGV (T azF) Tryz.func32 (by kernel_rfl)⟩ }
end Go.Proofs.YtnagfjehjbbckaaGreatDoor
namespace Go.PM
open Go Go.RowKit Go.ChangeShapes Go.WideShapes
theorem Xn {H:Type} {enc:TypeId × Value→H} {P:Program} {W:World} {r:Reach} {base:Nat} {sp:Nat→Bool} {held:Bool} (num:Nat→FuncId) {t:TypeId} {v:Value} {d:DataW H} {ps:List MemPlace} {x:Array Field} {n:Nat} {cts:List CT}
  (p:P.underlying t=some (.struct x)) (l:Value.okWide P W r base t v) (E:DataW.Trod enc P W 0 sp held t v d ps) (B:hM P n t=some cts) :
  ∃ c,bA (Env.of W num) (.agg c) v∧c.length=cts.length∧(∀ (j:Nat) pv ct,c[j]?=some pv→cts[j]?=some ct→PV.Ty ct pv)∧∀ N S,wV P N S→S t d→PV.Len N (.agg c):=by
 obtain⟨cs,rfl,-⟩:=okWide_struct p l;obtain⟨fuel,h⟩:=E;obtain⟨c,e,i⟩:=Uu num fuel n t _ _ cts h B;have F:cs.size=c.length:=by have:=e.lc; rw[e.lp,← this]; simp[Value.cells]
 refine⟨c,.agg cs F (fun u p=>?_) (fun j pv u a b=>(e.rep j pv u a (by simpa [Value.cells] using b)).1),e.lp,e.ty,fun N S y A=>.agg (i N S y A)⟩;obtain⟨j,w,rfl⟩:=a0C p;simp only[a1W] at w;exact (e.rep j _ _ (aZA Om) (by simp[Value.cells,w])).2
theorem rP {H:Type} {enc:TypeId × Value→H} {P:Program} {W:World} {sp:Nat→Bool} {held:Bool} (num:Nat→FuncId) {t:TypeId} {v:Value} {d:DataW H} {ps:List MemPlace} {n:Nat} {ct:CT}
  (y:v.cells=#[v]) (w:DataW.Trod enc P W 0 sp held t v d ps) (u:hM P n t=some [ct]):∃ pv,bA (Env.of W num) pv v∧PV.Ty ct pv∧∀ N S,wV P N S→S t d→PV.Len N pv:=by
 obtain⟨fuel,h⟩:=w;obtain⟨i,e,c⟩:=Uu num fuel n t _ _ [ct] h u;rw[y] at e;have x:=e.lp;cases i with
 | nil=>simp at x
 | cons pv rest=>exact⟨pv,(e.rep 0 pv v rfl rfl).1,e.ty 0 pv ct rfl rfl,fun N S l p=>c N S l p pv (by simp)⟩
section
variable {H:Type} {enc:TypeId × Value→H} {P:Program} {W:World} {sp:Nat→Bool} {held:Bool}
theorem aGY {r:Reach} {base:Nat} (num:Nat→FuncId) {t:TypeId} {v:Value} {d:DataW H} {ps:List MemPlace} {n:Nat} {a:AT}
  (c:Value.okWide P W r base t v) (y:DataW.Trod enc P W 0 sp held t v d ps) (l:akK P n t=some a):∃ pv,bA (Env.of W num) pv v∧AT.Ty a pv∧∀ N S,wV P N S→S t d→PV.Len N pv:=by
 unfold akK at l;cases n with
 | zero =>
  split at l
  ·rename_i i;cases l;obtain⟨b,rfl⟩:=okWide_bool i c;obtain⟨pv,p,u,w⟩:=rP (n:=1) (ct:=.bool) num (by simp[Value.cells]) y (by simp[hM,i]);exact⟨pv,p,.one u,w⟩
  ·rename_i k i;cases l;obtain⟨b,rfl⟩:=okWide_int i c;obtain⟨pv,p,u,w⟩:=rP (n:=1) (ct:=.int k) num (by simp[Value.cells]) y (by simp[hM,i]);exact⟨pv,p,.one u,w⟩
  ·rename_i i;cases l;obtain⟨b,rfl⟩:=okWide_string i c;obtain⟨pv,p,u,w⟩:=rP (n:=1) (ct:=.str) num (by simp[Value.cells]) y (by simp[hM,i]);exact⟨pv,p,.one u,w⟩
  ·simp[hM] at l
  ·simp[hM] at l
  ·cases l
 | succ n =>
  split at l
  ·rename_i i;cases l;obtain⟨b,rfl⟩:=okWide_bool i c;obtain⟨pv,p,u,w⟩:=rP (n:=n+1) (ct:=.bool) num (by simp[Value.cells]) y (by simp[hM,i]);exact⟨pv,p,.one u,w⟩
  ·rename_i k i;cases l;obtain⟨b,rfl⟩:=okWide_int i c;obtain⟨pv,p,u,w⟩:=rP (n:=n+1) (ct:=.int k) num (by simp[Value.cells]) y (by simp[hM,i]);exact⟨pv,p,.one u,w⟩
  ·rename_i i;cases l;obtain⟨b,rfl⟩:=okWide_string i c;obtain⟨pv,p,u,w⟩:=rP (n:=n+1) (ct:=.str) num (by simp[Value.cells]) y (by simp[hM,i]);exact⟨pv,p,.one u,w⟩
  ·rename_i e i;split at l
   ·rename_i ct A;cases l;obtain⟨x,len,cap,rfl⟩:=okWide_slice i c;obtain⟨pv,p,u,w⟩:=rP num (by simp[Value.cells]) y A;exact⟨pv,p,.one u,w⟩
   ·cases l
  ·rename_i F i;rw[aYX] at l;obtain⟨cts,A,rfl⟩:=l;obtain⟨E,p,u,B,w⟩:=Xn num i c y A;exact⟨_,p,.struct u B,w⟩
  ·cases l
theorem Kc {r:Reach} {base:Nat} (num:Nat→FuncId) {n:Nat}:∀ {ts:List TypeId} {vs:List Value} {ds:List (DataW H)} {ps:List MemPlace} {i:List AT},DataW.TrodAll enc P W 0 sp held ts vs ds ps →
  (∀ (j:Nat) t v,ts[j]?=some t→vs[j]?=some v→Value.okWide P W r base t v)→GH P n ts=some i→∃ c,eQ (Env.of W num) c vs∧AT.TyL i c∧c.length=ts.length∧∀ N S,wV P N S→∀ (j:Nat) t d v,ts[j]?=some t→ds[j]?=some d→S t d→c[j]?=some v→PV.Len N v
 | [],[],_,_,i,_,_,h=>by simp[GH] at h;subst h;exact⟨[],.nil,trivial,rfl,fun _ _ _ _ _ _ _ _ _ _ e=>by simp at e⟩
 | [],_::_,_,_,_,h,_,_=>h.elim
 | _::_,[],[],_,_,h,_,_=>h.elim
 | _::_,[],_::_,_,_,h,_,_=>h.elim
 | _::_,_::_,[],_,_,h,_,_=>h.elim
 | t::ts,v::vs,d::ds,ps,i,h,e,l=>by
  obtain⟨p,q,E,F,rfl⟩:=h;simp only[GH] at l;split at l
  ·rename_i a x A B;cases l;obtain⟨pv,r1,Q,J⟩:=aGY num (e 0 t v rfl rfl) E A;obtain⟨c,r2,R,M,K⟩:=Kc num F (fun j t v a b=>e (j+1) t v (by simpa using a) (by simpa using b)) B;exact⟨pv::c,.cons r1 r2,⟨Q,R⟩,by rw[a0F,a0F,M],fun N S u j O y v' a b w e=>by
    cases j with
    | zero =>simp only[List.getElem?_cons_zero,a0Y.injEq] at a b e;subst a; subst b; subst e;exact J N S u w
    | succ j=>exact K N S u j O y v' (by simpa using a) (by simpa using b) w (by simpa using e)⟩
  ·cases l
end
def sX (P:Program) (w:Nat):Nat→TypeId→Bool
 | 0,_=>false
 | n+1,t=>match P.underlying t with
  | some (.slice e)=>decide (w≤P.bytesOf e)&&sX P w n e
  | some (.struct c)=>c.toList.all fun g=>sX P w n g.type
  | some (.array _ e)=>sX P w n e
  | _=>true
def wtS {H:Type} (P:Program) (w:Nat) (t:TypeId) (d:DataW H):Prop:=(d.weights P t).all (·≤reachBytes)=true∧∃ n,sX P w n t=true
theorem xC {H:Type} {P:Program} {e:TypeId}:∀ {l:List (DataW H)},(DataW.weightsAll P e l).all (·≤reachBytes)=true→∀ d∈l,(d.weights P e).all (·≤reachBytes)=true
 | [],_,_,hd=>by cases hd
 | x::r,h,d,hd=>by
  rw[DataW.weightsAll,a1X,aZD] at h;rcases aYY.1 hd with rfl | hd
  ·exact h.1
  ·exact xC h.2 d hd
theorem vJ {H:Type} {P:Program}:∀ {ts:List TypeId} {l:List (DataW H)},(DataW.weightsEach P ts l).all (·≤reachBytes)=true→∀ (j:Nat) t d,ts[j]?=some t→l[j]?=some d→(d.weights P t).all (·≤reachBytes)=true
 | [],_,_,j,t,d,a,_=>by simp at a
 | _::_,[],_,j,t,d,_,b=>by simp at b
 | t0::ts,x::r,h,j,t,d,a,b=>by
  rw[DataW.weightsEach,a1X,aZD] at h;cases j with
  | zero=>simp at a b; subst a; subst b; exact h.1
  | succ j=>exact vJ h.2 j t d (by simpa using a) (by simpa using b)
theorem aMQ {H:Type} (P:Program) {w:Nat} (y:0<w):wV (H:=H) P (reachBytes/w) (wtS P w) where
 sl:=fun t e x A p ⟨l,n,c⟩=>by
  cases n with
  | zero=>cases c
  | succ n =>rw[sX,p] at c;simp only[aZD,decide_eq_true_eq] at c;rw[DataW.weights,p] at l;simp only[List.all_cons,a1X,aZD,decide_eq_true_eq] at l;refine⟨(Nat.le_div_iff_mul_le y).2 (aZS ?_ l.1),fun d u=>⟨xC l.2.1 d u,n,c.2⟩⟩;exact a1U (Nat.le_add_right _ _) c.1
 st:=fun t E parts p ⟨l,n,c⟩ i g d B u=>by
  cases n with
  | zero=>cases c
  | succ n =>
   rw[sX,p] at c;rw[DataW.weights,p] at l;refine⟨vJ l i g.type d ?_ u,n,aZC.1 c g ?_⟩
   ·simp[B]
   ·rw[Array.mem_toList_iff]; exact Array.mem_of_getElem? B
 ar:=fun t k e parts p ⟨l,n,c⟩ d u=>by
  cases n with
  | zero=>cases c
  | succ n =>rw[sX,p] at c;rw[DataW.weights,p] at l;exact⟨xC l d u,n,c⟩
theorem Is {H:Type} {enc:TypeId × Value→H} {P:Program} {f:FuncId} {fn:Func} {s:ChangeSpec} {apart fresh u:Bool} {bt:TypeId} {num:Nat→FuncId} {name n:Nat} {ats:List AT}
  (hl:laidOutB P=true) (S:fn.params.toList.all (fun t=>P.readableRec t&&decide (t<P.types.size))=true) (R:fn.resultTypes=#[bt]) (O:P.underlying bt=some .bool) (J:s.vars=[])
  (hs:∀ ds:List (DataW H),ds.length=fn.params.toList.length→(s.fn H ds).results=[.lit (.bool true)]∧(s.fn H ds).args=ds∧(s.fn H ds).vars=[])
  (E:num name=f) (ha:GH P n fn.params.toList=some ats) (V:List Nat) (U:∀ (j:Nat) t w,fn.params.toList[j]?=some t→V[j]?=some w→0<w∧sX P w 8 t=true) (h:∀ c,AT.TyL ats c→(∀ (j:Nat) v w,c[j]?=some v→V[j]?=some w→PV.Len (reachBytes/w) v)→aH ⟨P,num⟩ name c PH.nil (aF (.bool true)))
  {W:World} {base:Nat} {args:Array Value} {ds Z:List (DataW H)} {x:List MemPlace}
  (K:∀ (j:Nat) t v,fn.params[j]?=some t→args[j]?=some v→Value.okWide P W .any base t v) (hW:DataW.Whole enc P fn.params.toList s.vars apart W args.toList ds Z x) (hS:∀ (j:Nat) t d,fn.params.toList[j]?=some t→ds[j]?=some d→(d.weights P t).all (·≤reachBytes)=true) :
  Calls P f args W fun e X=>∃ v,e=.returned v∧s.post enc P fn apart fresh u false W args v X:=by
 have F:∀ t∈fn.params.toList,P.readableRec t=true∧t<P.types.size:=fun t A=>by have:=aZC.1 S t A;simpa using this
 have N:=hW;obtain⟨p,q,M,hV,rfl,hz,hn⟩:=hW;rw[J] at hV;obtain⟨rfl,rfl⟩:=trodVars_none hV;obtain⟨c,hr,A,α,y⟩:=Kc num M (fun j t v a b=>K j t v (by simpa using a) (by simpa using b)) ha;have B:=TrodAll.length M;subst E;obtain⟨r1,r2,r3⟩:=hs (ds++[]) (by simpa using B);have Q:∀ (j:Nat) v w,c[j]?=some v→V[j]?=some w→PV.Len (reachBytes/w) v:=fun j v w J hw=>by have hj:=(aZU.1 J).1;have e2:=TrodAll.length M;have A:=aZA (l:=fn.params.toList) (i:=j) Om;have Y:=aZA (l:=ds) (i:=j) Om;obtain⟨w0,wb⟩:=U j _ w A hw;exact y _ _ (aMQ P w0) j _ _ v A Y ⟨hS j _ _ A Y,8,wb⟩ J
 refine (asT (C:=⟨P,num⟩) (h c A Q) hr).mono fun e X he=>?_;obtain⟨rfl,hb⟩:=he;exact⟨_,rfl,auV hl N hb F R O J r1 (by rw[r2]; simp) r3⟩
open Go Go.Na
def HJ (N:Nat):List CT→List PV→Prop
 | [],[]=>True
 | e::c,v::r=>(PV.Ty e v∧PV.Len N v)∧HJ N c r
 | _,_=>False
theorem HJ.of {N:Nat}:∀ {d:List CT} {r:List PV},r.length=d.length→(∀ (j:Nat) pv ct,r[j]?=some pv→d[j]?=some ct→PV.Ty ct pv)→(∀ v∈r,PV.Len N v)→HJ N d r
 | [],[],_,_,_=>trivial
 | e::d,v::r,c,h,i=>⟨⟨h 0 v e rfl rfl,i v (by simp)⟩,HJ.of (by simpa using c) (fun j pv ct a b=>h (j+1) pv ct (by simpa using a) (by simpa using b)) fun u l=>i u (List.mem_cons_of_mem _ l)⟩
 | [],_::_,c,_,_=>by simp at c
 | _::_,[],c,_,_=>by simp at c
theorem Pv {α:Type} {Q:List PV→Prop} {cells:α→List PV} {P:α→Prop} (c:∀ r,Q r→∃ x,r=cells x∧P x):∀ {rows:List (List PV)},(∀ r∈rows,Q r)→∃ l:List α,rows=l.map cells∧∀ x∈l,P x
 | [],_=>⟨[],rfl,fun x h=>by cases h⟩
 | r::rs,h=>by obtain⟨x,rfl,p⟩:=c r (h r (by simp));obtain⟨l,rfl,d⟩:=Pv c (rows:=rs) fun u i=>h u (List.mem_cons_of_mem _ i);exact⟨x::l,rfl,fun y w=>(aYY.1 w).elim (fun e=>e ▸ p) (d y)⟩
theorem Ui {α:Type} {N:Nat} {c:List CT} {pv:PV} {cells:α→List PV} {P:α→Prop} (e:∀ r,HJ N c r→∃ x,r=cells x∧P x) (h:PV.Ty (.sl c) pv∧PV.Len N pv):∃ l:List α,pv=.sl c.length (l.map cells)∧l.length≤N∧∀ x∈l,P x:=by
 obtain⟨h,p⟩:=h;cases h with
 | @sl c rows u d h =>
 obtain⟨y,A⟩:=p.rows;obtain⟨l,rfl,w⟩:=Pv e (rows:=rows) fun r d=>.of (u r d) (fun j pv ct a b=>by obtain⟨i,hi,rfl⟩:=a0C d;exact h i j pv ct (by unfold at2; rw[aZA hi,a2C]; exact a) b) (A r d);exact⟨l,rfl,by simpa using y,w⟩
abbrev NB:Nat:=35184372087808
abbrev Ut:CT:=.sl [.int .u32]
abbrev Ft:CT:=.sl [.bool,Ut,Ut]
theorem adO {N:Nat} (r:List PV) (h:HJ N [.int .u32] r):∃ n:Nat,r=[.int .u32 (n:Int)]∧n<4294967296:=by
 match r,h with
 | [v],⟨⟨h,_⟩,_⟩ =>obtain⟨m,rfl,d⟩:=Ty.WI h;have c:=d.1;have e:=d.2;rw[show IntKind.u32.min=0 by decide] at c;rw[show IntKind.u32.max=4294967295 by decide] at e;exact⟨m.toNat,by rw[Int.toNat_of_nonneg c],by omega⟩
theorem aIJ {a b c:PV} (d:PV.Ty .bool a) (e:PV.Ty Ut b∧PV.Len NB b) (i:PV.Ty Ut c∧PV.Len NB c):∃ x:RF,a=.bool x.neg∧b=aJ x.num∧c=aJ x.den∧x.Ok:=by
 obtain⟨n,rfl⟩:=Ty.ayM d;obtain⟨xs,rfl,l,u⟩:=Ui adO e;obtain⟨ys,rfl,p,w⟩:=Ui adO i;exact⟨⟨n,xs,ys⟩,rfl,rfl,rfl,u,w,l,p⟩
theorem aAO (r:List PV) (h:HJ NB [.bool,Ut,Ut] r):∃ x:RF,r=x.cells∧x.Ok:=by
 match r,h with
 | [a,b,c],⟨d,e,i,_⟩ =>obtain⟨x,rfl,rfl,rfl,l⟩:=aIJ d.1 e i;exact⟨x,rfl,l⟩
theorem aIG {α:Type} {l:List α} (h:l.length≤NB):Fits l:=aZS h (by decide)
theorem aIK {v:PV} (h:PV.Ty Ft v∧PV.Len NB v):∃ l:List RF,v=frs l∧jR l:=by
 obtain⟨l,rfl,c,d⟩:=Ui aAO h;exact⟨l,rfl,aIG c,d⟩
end Go.PM
