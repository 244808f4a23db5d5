/-
  Texts of ours, joined. No condition.
-/
import Derived.Test.YtkknafmijabgaaaGreatDoorFR1
import Derived.Test.YtkknafmijabgaaaGreatDoorFR2
import Derived.Test.YtkknafmijabgaaaGreatDoorFR3
import Derived.Test.YtkknafmijabgaaaGreatDoorFR4
import Derived.Test.YtkknafmijabgaaaGreatDoorFR5
import Derived.Test.YtkknafmijabgaaaGreatDoorFR6

set_option linter.unusedSimpArgs false
set_option linter.unusedVariables false
open List renaming getElem?_eq_getElem→a8L,mem_cons→a8S,getElem?_eq_some_iff→a9F,all_eq_true→a9I,length_cons→a9Y,mem_cons_of_mem→bbB,getElem_of_mem→bbJ
open Nat renaming le_trans→baK,mul_le_mul→bbT
open Bool renaming and_eq_true→a9A
open Option renaming map_eq_some_iff→a8P,some→baP,bind_some→bbU
open Array renaming length_toList→bbE
set_option maxRecDepth 100000
set_option maxHeartbeats 800000
noncomputable section
namespace Go.Proofs.YtkknafmijabgaaaGreatDoor
open Go Go.PM
theorem q:bH C 317 PM.aFA:=bL (T ayU) Tryz.func4
theorem aXZ:cL C:={
 r0:=bL (T G6) Tryz.func22,
 r1:=bL (T Wy) Tryz.func78,
 r2:=bL (T apS) Tryz.func48,
 r4:=bL (T Xq) Tryz.func26,
 r5:=bL (T aqF) Tryz.func52,
 r7:=bL (T W8) Tryz.func51,
 r27:=bL (T Gs) Tryz.func10,
 r28:=bL (T apW) Tryz.func21,
 r29:=bL (T Xn) Tryz.func49,
 r30:=bL (T avQ) Tryz.func155,
 r31:=bL (T aeH) Tryz.func163,
 r32:=bL (T awB) Tryz.func141,
 r33:=bL (T awI) Tryz.func114,
 r34:=bL (T awR) Tryz.func113,
 r35:=bL (T afA) Tryz.func81,
 r36:=bL (T awY) Tryz.func158,
 r37:=bL (T axE) Tryz.func157,
 r38:=bL (T afP) Tryz.func103,
 r39:=bL (T yk) Tryz.func144,
 r40:=bL (T aeW) Tryz.func167,
 r41:=bL (T L5) Tryz.func143,
 r42:=bL (T Me) Tryz.func166,
 r43:=bL (T afI) Tryz.func171,
 r44:=bL (T Mo) Tryz.func165,
 r45:=bL (T aKR) Tryz.func164,
 r46:=bL (T axR) Tryz.func139,
 r47:=bL (T axW) Tryz.func50,
 r48:=bL (T Mt) Tryz.func172,
 r49:=bL (T agD) Tryz.func108,
 r50:=bL (T agI) Tryz.func53,
 r51:=bL (T M4) Tryz.func104,
 r52:=bL (T zg) Tryz.func105,
 r53:=bL (T agO) Tryz.func102,
 r54:=bL (T agR) Tryz.func68,
 r55:=bL (T ayG) Tryz.func101,
 r56:=bL (T Nc) Tryz.func67,
 r57:=bL (T afY) Tryz.func156,
 r58:=bL (T za) Tryz.func80,
 r59:=bL (T agW) Tryz.func82,
 r60:=bL (T M8) Tryz.func140,
 r61:=bL (T acB) Tryz.func106,
 r62:=bL (T zx) Tryz.func98,
 r63:=bL (T Ng) Tryz.func154,
 r64:=bL (T zl) Tryz.func138,
 r65:=bL (T z8) Tryz.func137,
 r66:=bL (T azF) Tryz.func107,
 r67:=bL (T Oh) Tryz.func36,
 r68:=bL (T ayT) Tryz.func66,
 r69:=bL (T ayK) Tryz.func71,
 r70:=bL (T Nv) Tryz.func65,
 r71:=bL (T N3) Tryz.func99,
 r72:=bL (T iv) Tryz.func70,
 r73:=bL (T N6) Tryz.func64,
 r74:=bL (T N9) Tryz.func69,
 r75:=bL (T Am) Tryz.func100,
 r76:=bL (T A9) Tryz.func63,
 r77:=bL (T gd) Tryz.func39,
 r82:=bL (T acJ) Tryz.func57,
 r85:=bL (T acY) Tryz.func40,
 r88:=bL (T Lm) Tryz.func145,
 r95:=bL (T anK) Tryz.func60,
 r96:=bL (T aoM) Tryz.func31,
 r97:=bL (T Fu) Tryz.func89,
 r98:=bL (T Ta) Tryz.func129,
 r99:=bL (T Tk) Tryz.func90,
 r100:=bL (T Tw) Tryz.func131,
 r101:=bL (T anV) Tryz.func134,
 r102:=bL (T T9) Tryz.func94,
 r103:=bL (T Fy) Tryz.func130,
 r104:=bL (T aGO) Tryz.func58,
 r105:=bL (T anN) Tryz.func88,
 r106:=bL (T anR) Tryz.func95,
 r107:=bL (T Ue) Tryz.func132,
 r108:=bL (T Ul) Tryz.func96,
 r109:=bL (T Gb) Tryz.func133,
 r110:=bL (T Uy) Tryz.func62,
 r111:=bL (T anB) Tryz.func59,
 r112:=bL (T aoE) Tryz.func61,
 r113:=bL (T akS) Tryz.func122,
 r114:=bL (T alG) Tryz.func93,
 r115:=bL (T Rf) Tryz.func92,
 r116:=bL (T tf) Tryz.func119,
 r117:=bL (T amK) Tryz.func91,
 r118:=bL (T Fp) Tryz.func125,
 r119:=bL (T akI) Tryz.func124,
 r120:=bL (T su) Tryz.func123,
 r121:=bL (T Fl) Tryz.func127,
 r122:=bL (T Sy) Tryz.func128,
 r123:=bL (T V0) Tryz.func97,
 r124:=bL (T Gj) Tryz.func153,
 r125:=bL (T Gm) Tryz.func136,
 r126:=bL (T t6) Tryz.func135,
 r127:=bL (T aqO) Tryz.func147,
 r128:=bL (T Yd) Tryz.func120,
 r129:=bL (T arC) Tryz.func126,
 r130:=bL (T arJ) Tryz.func150,
 r131:=bL (T asA) Tryz.func149,
 r132:=bL (T Yt) Tryz.func121,
 r133:=bL (T asF) Tryz.func152,
 r134:=bL (T asM) Tryz.func148,
 r135:=bL (T Zd) Tryz.func151,
 r136:=bL (T wi) Tryz.func170,
 r137:=bL (T Ir) Tryz.func168,
 r138:=bL (T wk) Tryz.func146,
 r139:=bL (T ft) Tryz.func181,
 r140:=bL (T I4) Tryz.func178,
 r141:=bL (T Ja) Tryz.func169,
 r142:=bL (T XU) Tryz.func180,
 r143:=bL (T aID) Tryz.func179,
 r152:=bL (T adU) Tryz.func25,
 r156:=bL (T adH) Tryz.func115,
 r161:=bL (T Lw) Tryz.func54,
 r282:=bL (T asS) Tryz.func34,
 r283:=bL (T arM) Tryz.func35,
 r284:=bL (T arP) Tryz.func32,
 r285:=bL (T aqQ) Tryz.func33,
 r286:=bL (T amA) Tryz.func12,
 r287:=bL (T alP) Tryz.func42,
 r288:=bL (T Fe) Tryz.func15,
 r289:=bL (T amU) Tryz.func17,
 r290:=bL (T alB) Tryz.func19,
 r291:=bL (T Xt) Tryz.func109,
 r292:=bL (T Ih) Tryz.func72,
 r293:=bL (T apI) Tryz.func46,
 r294:=bL (T Ws) Tryz.func110,
 r295:=bL (T Wm) Tryz.func111,
 r296:=bL (T Hm) Tryz.func73,
 r297:=bL (T aoZ) Tryz.func74,
 r298:=bL (T Hx) Tryz.func41,
 r299:=bL (T J6) Tryz.func75,
 r300:=bL (T Kf) Tryz.func77,
 r301:=bL (T atB) Tryz.func47,
 r302:=bL (T Jo) Tryz.func76,
 r303:=bL (T Jx) Tryz.func43,
 r304:=bL (T aaW) Tryz.func38,
 r305:=bL (T atX) Tryz.func37,
 r306:=bL (T K5) Tryz.func44,
 r307:=bL (T auS) Tryz.func13,
 r308:=bL (T auH) Tryz.func45,
 r309:=bL (T Ku) Tryz.func16,
 r310:=bL (T avC) Tryz.func18,
 r311:=bL (T atU) Tryz.func20,
 r312:=bL (T Nq) Tryz.func11,
 r313:=bL (T aRS) Tryz.func14 }
end Go.Proofs.YtkknafmijabgaaaGreatDoor
namespace Go.PM
open Go Go.RowKit Go.ChangeShapes Go.WideShapes
theorem aiH {H:Type} {enc:TypeId × Value→H} {P:Program} {W:World} {r:Reach} {base:Nat} {sp:Nat→Bool} {held:Bool} (num:Nat→FuncId) {t:TypeId} {v:Value} {d:DataW H} {ps:List MemPlace} {B:Array Field} {n:Nat} {cts:List CT}
  (y:P.underlying t=some (.struct B)) (x:Value.okWide P W r base t v) (J:DataW.Trod enc P W 0 sp held t v d ps) (I:kN P n t=some cts) :
  ∃ e,bB (Env.of W num) (.agg e) v∧e.length=cts.length∧(∀ (j:Nat) pv ct,e[j]?=some pv→cts[j]?=some ct→PV.Ty ct pv)∧∀ N S,CM P N S→S t d→PV.Len N (.agg e):=by
 obtain⟨cs,rfl,-⟩:=okWide_struct y x;obtain⟨fuel,h⟩:=J;obtain⟨e,l,w⟩:=adJ num fuel n t _ _ cts h I;have K:cs.size=e.length:=by have:=l.lc; rw[l.lp,← this]; simp[Value.cells]
 refine⟨e,.agg cs K (fun u y=>?_) (fun j pv u a b=>(l.rep j pv u a (by simpa [Value.cells] using b)).1),l.lp,l.ty,fun N S E F=>.agg (w N S E F)⟩;obtain⟨j,A,rfl⟩:=bbJ y;simp only[bbE] at A;exact (l.rep j _ _ (a8L Om) (by simp[Value.cells,A])).2
theorem wQ {H:Type} {enc:TypeId × Value→H} {P:Program} {W:World} {sp:Nat→Bool} {held:Bool} (num:Nat→FuncId) {t:TypeId} {v:Value} {d:DataW H} {ps:List MemPlace} {n:Nat} {ct:CT}
  (E:v.cells=#[v]) (A:DataW.Trod enc P W 0 sp held t v d ps) (y:kN P n t=some [ct]):∃ pv,bB (Env.of W num) pv v∧PV.Ty ct pv∧∀ N S,CM P N S→S t d→PV.Len N pv:=by
 obtain⟨fuel,h⟩:=A;obtain⟨l,j,e⟩:=adJ num fuel n t _ _ [ct] h y;rw[E] at j;have B:=j.lp;cases l with
 | nil=>simp at B
 | cons pv u=>exact⟨pv,(j.rep 0 pv v rfl rfl).1,j.ty 0 pv ct rfl rfl,fun N S w x=>e N S w x pv (by simp)⟩
section
variable {H:Type} {enc:TypeId × Value→H} {P:Program} {W:World} {sp:Nat→Bool} {held:Bool}
theorem aSN {r:Reach} {base:Nat} (num:Nat→FuncId) {t:TypeId} {v:Value} {d:DataW H} {ps:List MemPlace} {n:Nat} {a:AT}
  (j:Value.okWide P W r base t v) (B:DataW.Trod enc P W 0 sp held t v d ps) (u:azR P n t=some a):∃ pv,bB (Env.of W num) pv v∧AT.Ty a pv∧∀ N S,CM P N S→S t d→PV.Len N pv:=by
 unfold azR at u;cases n with
 | zero =>
  split at u
  ·rename_i l;cases u;obtain⟨b,rfl⟩:=okWide_bool l j;obtain⟨pv,w,y,A⟩:=wQ (n:=1) (ct:=.bool) num (by simp[Value.cells]) B (by simp[kN,l]);exact⟨pv,w,.one y,A⟩
  ·rename_i k l;cases u;obtain⟨b,rfl⟩:=okWide_int l j;obtain⟨pv,w,y,A⟩:=wQ (n:=1) (ct:=.int k) num (by simp[Value.cells]) B (by simp[kN,l]);exact⟨pv,w,.one y,A⟩
  ·rename_i l;cases u;obtain⟨b,rfl⟩:=okWide_string l j;obtain⟨pv,w,y,A⟩:=wQ (n:=1) (ct:=.str) num (by simp[Value.cells]) B (by simp[kN,l]);exact⟨pv,w,.one y,A⟩
  ·simp[kN] at u
  ·simp[kN] at u
  ·cases u
 | succ n =>
  split at u
  ·rename_i l;cases u;obtain⟨b,rfl⟩:=okWide_bool l j;obtain⟨pv,w,y,A⟩:=wQ (n:=n+1) (ct:=.bool) num (by simp[Value.cells]) B (by simp[kN,l]);exact⟨pv,w,.one y,A⟩
  ·rename_i k l;cases u;obtain⟨b,rfl⟩:=okWide_int l j;obtain⟨pv,w,y,A⟩:=wQ (n:=n+1) (ct:=.int k) num (by simp[Value.cells]) B (by simp[kN,l]);exact⟨pv,w,.one y,A⟩
  ·rename_i l;cases u;obtain⟨b,rfl⟩:=okWide_string l j;obtain⟨pv,w,y,A⟩:=wQ (n:=n+1) (ct:=.str) num (by simp[Value.cells]) B (by simp[kN,l]);exact⟨pv,w,.one y,A⟩
  ·rename_i e l;split at u
   ·rename_i ct E;cases u;obtain⟨x,len,cap,rfl⟩:=okWide_slice l j;obtain⟨pv,w,y,A⟩:=wQ num (by simp[Value.cells]) B E;exact⟨pv,w,.one y,A⟩
   ·cases u
  ·rename_i J l;rw[a8P] at u;obtain⟨cts,E,rfl⟩:=u;obtain⟨I,w,y,F,A⟩:=aiH num l j B E;exact⟨_,w,.struct y F,A⟩
  ·cases u
theorem P7 {r:Reach} {base:Nat} (num:Nat→FuncId) {n:Nat}:∀ {ts:List TypeId} {vs:List Value} {ds:List (DataW H)} {ps:List MemPlace} {u:List AT},DataW.TrodAll enc P W 0 sp held ts vs ds ps →
  (∀ (j:Nat) t v,ts[j]?=some t→vs[j]?=some v→Value.okWide P W r base t v)→MP P n ts=some u→∃ e,fT (Env.of W num) e vs∧AT.TyL u e∧e.length=ts.length∧∀ N S,CM P N S→∀ (j:Nat) t d v,ts[j]?=some t→ds[j]?=some d→S t d→e[j]?=some v→PV.Len N v
 | [],[],_,_,u,_,_,h=>by simp[MP] at h;subst h;exact⟨[],.nil,trivial,rfl,fun _ _ _ _ _ _ _ _ _ _ l=>by simp at l⟩
 | [],_::_,_,_,_,h,_,_=>h.elim
 | _::_,[],[],_,_,h,_,_=>h.elim
 | _::_,[],_::_,_,_,h,_,_=>h.elim
 | _::_,_::_,[],_,_,h,_,_=>h.elim
 | t::ts,v::vs,d::ds,ps,u,h,l,w=>by
  obtain⟨p,q,I,J,rfl⟩:=h;simp only[MP] at w;split at w
  ·rename_i a A E F;cases w;obtain⟨pv,r1,U,K⟩:=aSN num (l 0 t v rfl rfl) I E;obtain⟨e,r2,V,O,M⟩:=P7 num J (fun j t v a b=>l (j+1) t v (by simpa using a) (by simpa using b)) F;exact⟨pv::e,.cons r1 r2,⟨U,V⟩,by rw[a9Y,a9Y,O],fun N S x j R B v' a b y l=>by
    cases j with
    | zero =>simp only[List.getElem?_cons_zero,baP.injEq] at a b l;subst a; subst b; subst l;exact K N S x y
    | succ j=>exact M N S x j R B v' (by simpa using a) (by simpa using b) y (by simpa using l)⟩
  ·cases w
end
def yH (P:Program) (w:Nat):Nat→TypeId→Bool
 | 0,_=>false
 | n+1,t=>match P.underlying t with
  | some (.slice e)=>decide (w≤P.bytesOf e)&&yH P w n e
  | some (.struct j)=>j.toList.all fun g=>yH P w n g.type
  | some (.array _ e)=>yH P w n e
  | _=>true
def wtS {H:Type} (P:Program) (w:Nat) (t:TypeId) (d:DataW H):Prop:=(d.weights P t).all (·≤reachBytes)=true∧∃ n,yH P w n t=true
theorem CX {H:Type} {P:Program} {e:TypeId}:∀ {l:List (DataW H)},(DataW.weightsAll P e l).all (·≤reachBytes)=true→∀ d∈l,(d.weights P e).all (·≤reachBytes)=true
 | [],_,_,hd=>by cases hd
 | x::r,h,d,hd=>by
  rw[DataW.weightsAll,List.all_append,a9A] at h;rcases a8S.1 hd with rfl | hd
  ·exact h.1
  ·exact CX h.2 d hd
theorem AV {H:Type} {P:Program}:∀ {ts:List TypeId} {l:List (DataW H)},(DataW.weightsEach P ts l).all (·≤reachBytes)=true→∀ (j:Nat) t d,ts[j]?=some t→l[j]?=some d→(d.weights P t).all (·≤reachBytes)=true
 | [],_,_,j,t,d,a,_=>by simp at a
 | _::_,[],_,j,t,d,_,b=>by simp at b
 | t0::ts,x::r,h,j,t,d,a,b=>by
  rw[DataW.weightsEach,List.all_append,a9A] at h;cases j with
  | zero=>simp at a b; subst a; subst b; exact h.1
  | succ j=>exact AV h.2 j t d (by simpa using a) (by simpa using b)
theorem aWX {H:Type} (P:Program) {w:Nat} (A:0<w):CM (H:=H) P (reachBytes/w) (wtS P w) where
 sl:=fun t e y B u ⟨l,n,j⟩=>by
  cases n with
  | zero=>cases j
  | succ n =>rw[yH,u] at j;simp only[a9A,decide_eq_true_eq] at j;rw[DataW.weights,u] at l;simp only[List.all_cons,List.all_append,a9A,decide_eq_true_eq] at l;refine⟨(Nat.le_div_iff_mul_le A).2 (baK ?_ l.1),fun d x=>⟨CX l.2.1 d x,n,j.2⟩⟩;exact bbT (Nat.le_add_right _ _) j.1
 st:=fun t F parts u ⟨l,n,j⟩ i g d E x=>by
  cases n with
  | zero=>cases j
  | succ n =>
   rw[yH,u] at j;rw[DataW.weights,u] at l;refine⟨AV l i g.type d ?_ x,n,a9I.1 j g ?_⟩
   ·simp[E]
   ·rw[Array.mem_toList_iff]; exact Array.mem_of_getElem? E
 ar:=fun t k e parts u ⟨l,n,j⟩ d x=>by
  cases n with
  | zero=>cases j
  | succ n =>rw[yH,u] at j;rw[DataW.weights,u] at l;exact⟨CX l d x,n,j⟩
theorem Oi {H:Type} {enc:TypeId × Value→H} {P:Program} {f:FuncId} {fn:Func} {s:ChangeSpec} {apart fresh x:Bool} {bt:TypeId} {num:Nat→FuncId} {name n:Nat} {ats:List AT}
  (hl:laidOutB P=true) (U:fn.params.toList.all (fun t=>P.readableRec t&&decide (t<P.types.size))=true) (S:fn.resultTypes=#[bt]) (O:P.underlying bt=some .bool) (J:s.vars=[])
  (hs:∀ ds:List (DataW H),ds.length=fn.params.toList.length→(s.fn H ds).results=[.lit (.bool true)]∧(s.fn H ds).args=ds∧(s.fn H ds).vars=[])
  (F:num name=f) (ha:MP P n fn.params.toList=some ats) (ws:List Nat) (V:∀ (j:Nat) t w,fn.params.toList[j]?=some t→ws[j]?=some w→0<w∧yH P w 8 t=true) (h:∀ u,AT.TyL ats u→(∀ (j:Nat) v w,u[j]?=some v→ws[j]?=some w→PV.Len (reachBytes/w) v)→aH ⟨P,num⟩ name u PH.nil (aI (.bool true)))
  {W:World} {base:Nat} {args:Array Value} {ds Z:List (DataW H)} {y:List MemPlace}
  (K:∀ (j:Nat) t v,fn.params[j]?=some t→args[j]?=some v→Value.okWide P W .any base t v) (hW:DataW.Whole enc P fn.params.toList s.vars apart W args.toList ds Z y) (hS:∀ (j:Nat) t d,fn.params.toList[j]?=some t→ds[j]?=some d→(d.weights P t).all (·≤reachBytes)=true) :
  Calls P f args W fun e X=>∃ v,e=.returned v∧s.post enc P fn apart fresh x false W args v X:=by
 have I:∀ t∈fn.params.toList,P.readableRec t=true∧t<P.types.size:=fun t B=>by have:=a9I.1 U t B;simpa using this
 have N:=hW;obtain⟨p,q,M,hV,rfl,hz,hn⟩:=hW;rw[J] at hV;obtain⟨rfl,rfl⟩:=trodVars_none hV;obtain⟨u,hr,B,α,A⟩:=P7 num M (fun j t v a b=>K j t v (by simpa using a) (by simpa using b)) ha;have E:=TrodAll.length M;subst F;obtain⟨r1,r2,r3⟩:=hs (ds++[]) (by simpa using E);have R:∀ (j:Nat) v w,u[j]?=some v→ws[j]?=some w→PV.Len (reachBytes/w) v:=fun j v w J hw=>by have hj:=(a9F.1 J).1;have e2:=TrodAll.length M;have B:=a8L (l:=fn.params.toList) (i:=j) Om;have Y:=a8L (l:=ds) (i:=j) Om;obtain⟨w0,wb⟩:=V j _ w B hw;exact A _ _ (aWX P w0) j _ _ v B Y ⟨hS j _ _ B Y,8,wb⟩ J
 refine (aGT (C:=⟨P,num⟩) (h u B R) hr).mono fun e X he=>?_;obtain⟨rfl,hb⟩:=he;exact⟨_,rfl,aIW hl N hb I S O J r1 (by rw[r2]; simp) r3⟩
open Go Go.Na
def oM (N:Nat):List CT→List PV→Prop
 | [],[]=>True
 | e::j,v::r=>(PV.Ty e v∧PV.Len N v)∧oM N j r
 | _,_=>False
theorem oM.of {N:Nat}:∀ {w:List CT} {r:List PV},r.length=w.length→(∀ (j:Nat) pv ct,r[j]?=some pv→w[j]?=some ct→PV.Ty ct pv)→(∀ v∈r,PV.Len N v)→oM N w r
 | [],[],_,_,_=>trivial
 | e::w,v::r,l,h,x=>⟨⟨h 0 v e rfl rfl,x v (by simp)⟩,oM.of (by simpa using l) (fun j pv ct a b=>h (j+1) pv ct (by simpa using a) (by simpa using b)) fun u y=>x u (bbB _ y)⟩
 | [],_::_,l,_,_=>by simp at l
 | _::_,[],l,_,_=>by simp at l
theorem Vq {α:Type} {Q:List PV→Prop} {cells:α→List PV} {P:α→Prop} (j:∀ r,Q r→∃ x,r=cells x∧P x):∀ {rows:List (List PV)},(∀ r∈rows,Q r)→∃ l:List α,rows=l.map cells∧∀ x∈l,P x
 | [],_=>⟨[],rfl,fun x h=>by cases h⟩
 | r::rs,h=>by obtain⟨x,rfl,B⟩:=j r (h r (by simp));obtain⟨l,rfl,w⟩:=Vq j (rows:=rs) fun u A=>h u (bbB _ A);exact⟨x::l,rfl,fun y E=>(a8S.1 E).elim (fun e=>e ▸ B) (w y)⟩
theorem rR {α:Type} {N:Nat} {e:List CT} {pv:PV} {cells:α→List PV} {P:α→Prop} (w:∀ r,oM N e r→∃ x,r=cells x∧P x) (h:PV.Ty (.sl e) pv∧PV.Len N pv):∃ l:List α,pv=.sl e.length (l.map cells)∧l.length≤N∧∀ x∈l,P x:=by
 obtain⟨h,y⟩:=h;cases h with
 | @sl e rows A u h =>
 obtain⟨E,F⟩:=y.rows;obtain⟨l,rfl,B⟩:=Vq w (rows:=rows) fun r u=>.of (A r u) (fun j pv ct a b=>by obtain⟨i,hi,rfl⟩:=bbJ u;exact h i j pv ct (by unfold at2; rw[a8L hi,bbU]; exact a) b) (F r u);exact⟨l,rfl,by simpa using E,B⟩
abbrev NB:Nat:=35184372087808
abbrev It:CT:=.int .i64
abbrev Ut:CT:=.sl [.int .u32]
abbrev Ft:CT:=.sl [.bool,Ut,Ut]
theorem aqR {N:Nat} (r:List PV) (h:oM N [.int .u32] r):∃ n:Nat,r=[.int .u32 (n:Int)]∧n<4294967296:=by
 match r,h with
 | [v],⟨⟨h,_⟩,_⟩ =>obtain⟨m,rfl,j⟩:=Ty.bw h;have e:=j.1;have l:=j.2;rw[show IntKind.u32.min=0 by decide] at e;rw[show IntKind.u32.max=4294967295 by decide] at l;exact⟨m.toNat,by rw[Int.toNat_of_nonneg e],by omega⟩
theorem mH {v:PV} (h:PV.Ty It v):∃ n:Int,v=.int .i64 n∧eJ n:=by
 obtain⟨m,rfl,l⟩:=Ty.bw h;have e:=l.1;have j:=l.2;rw[show IntKind.i64.min=-9223372036854775808 by decide] at e;rw[show IntKind.i64.max=9223372036854775807 by decide] at j;exact⟨m,rfl,e,j⟩
theorem aUF {N:Nat} (r:List PV) (h:oM N [It] r):∃ n:Int,r=[.int .i64 n]∧eJ n:=by
 match r,h with
 | [v],⟨⟨h,_⟩,_⟩ =>obtain⟨n,rfl,e⟩:=mH h;exact⟨n,rfl,e⟩
theorem bj {a b c:PV} (e:PV.Ty .bool a) (j:PV.Ty Ut b∧PV.Len NB b) (l:PV.Ty Ut c∧PV.Len NB c):∃ x:RF,a=.bool x.neg∧b=aK x.num∧c=aK x.den∧x.Ok:=by
 obtain⟨n,rfl⟩:=Ty.Qb e;obtain⟨xs,rfl,u,y⟩:=rR aqR j;obtain⟨B,rfl,w,A⟩:=rR aqR l;exact⟨⟨n,xs,B⟩,rfl,rfl,rfl,y,A,u,w⟩
theorem aMN (r:List PV) (h:oM NB [.bool,Ut,Ut] r):∃ x:RF,r=x.cells∧x.Ok:=by
 match r,h with
 | [a,b,c],⟨e,j,l,_⟩ =>obtain⟨x,rfl,rfl,rfl,u⟩:=bj e.1 j l;exact⟨x,rfl,u⟩
theorem uS {α:Type} {l:List α} (h:l.length≤NB):Fits l:=baK h (by decide)
theorem bn {v:PV} (h:PV.Ty Ft v∧PV.Len NB v):∃ l:List RF,v=frs l∧lI l:=by
 obtain⟨l,rfl,e,j⟩:=rR aMN h;exact⟨l,rfl,uS e,j⟩
theorem aTN (r:List PV) (h:oM NB [Ft] r):∃ l:List RF,r=[frs l]∧lI l:=by
 match r,h with
 | [v],⟨h,_⟩ =>obtain⟨l,rfl,e⟩:=bn h;exact⟨l,rfl,e⟩
theorem aUJ (r:List PV) (h:oM NB [.str,Ft,.sl [Ft],Ft] r):∃ x:dC,r=x.cells∧x.Ok:=by
 match r,h with
 | [_,_,_,_],⟨e,j,l,u,_⟩ =>obtain⟨s,rfl,-⟩:=Ty.FQ e.1;obtain⟨a,rfl,w⟩:=bn j;obtain⟨b,rfl,A,hb⟩:=rR aTN l;obtain⟨c,rfl,y⟩:=bn u;exact⟨⟨s,a,b,c⟩,rfl,w,y,uS A,hb⟩
theorem aHE (r:List PV) (h:oM NB [.str,It,It,It] r):∃ x:dN,r=x.cells∧True:=by
 match r,h with
 | [_,_,_,_],⟨e,j,l,u,_⟩ =>obtain⟨s,rfl,-⟩:=Ty.FQ e.1;obtain⟨a,rfl,-⟩:=mH j.1;obtain⟨b,rfl,-⟩:=mH l.1;obtain⟨c,rfl,-⟩:=mH u.1;exact⟨⟨s,a,b,c⟩,rfl,trivial⟩
theorem aTB (r:List PV) (h:oM NB [.str,It,It,It,.bool,Ut,Ut] r):∃ x:dB,r=x.cells∧x.a7F.Ok∧eJ x.level∧eJ x.parent:=by
 match r,h with
 | [_,_,_,_,_,_,_],⟨e,j,l,u,h5,w,h7,_⟩ =>obtain⟨s,rfl,-⟩:=Ty.FQ e.1;obtain⟨a,rfl,A⟩:=mH j.1;obtain⟨b,rfl,B⟩:=mH l.1;obtain⟨c,rfl,-⟩:=mH u.1;obtain⟨x,rfl,rfl,rfl,y⟩:=bj h5.1 w h7;exact⟨⟨s,a,b,c,x⟩,rfl,y,A,B⟩
theorem aFV (r:List PV) (h:oM NB [.str,It,It] r):∃ x:eT,r=x.cells∧eJ x.model∧eJ x.machine:=by
 match r,h with
 | [_,_,_],⟨e,j,l,_⟩ =>obtain⟨s,rfl,-⟩:=Ty.FQ e.1;obtain⟨a,rfl,u⟩:=mH j.1;obtain⟨b,rfl,w⟩:=mH l.1;exact⟨⟨s,a,b⟩,rfl,u,w⟩
theorem aVQ (r:List PV) (h:oM NB [.str,It,It,It,It,It,It,It,It,.sl [It],Ft,.bool,Ut,Ut,.bool,Ut,Ut] r):∃ x:dX,r=x.cells∧x.Ok:=by
 match r,h with
 | [_,_,_,_,_,_,_,_,_,_,_,_,_,_,_,_,_],⟨u,w,y,A,s0,s1,s2,s3,s4,B,E,O,R,S,U,V,W,_⟩ =>obtain⟨s,rfl,-⟩:=Ty.FQ u.1;obtain⟨k,rfl,J⟩:=mH w.1;obtain⟨m,rfl,K⟩:=mH y.1;obtain⟨q,rfl,M⟩:=mH A.1;obtain⟨l,rfl,-⟩:=mH s0.1;obtain⟨a1,rfl,-⟩:=mH s1.1;obtain⟨a2,rfl,-⟩:=mH s2.1;obtain⟨a3,rfl,-⟩:=mH s3.1;obtain⟨a4,rfl,-⟩:=mH s4.1;obtain⟨ms,rfl,N,e⟩:=rR aUF B;obtain⟨rs,rfl,j⟩:=bn E;obtain⟨t,rfl,rfl,rfl,F⟩:=bj O.1 R S;obtain⟨z,rfl,rfl,rfl,I⟩:=bj U.1 V W;exact⟨⟨s,k,m,q,l,a1,a2,a3,a4,ms,rs,t,z⟩,rfl,J,K,M,uS N,e,j,F,I⟩
theorem aWS (r:List PV) (h:oM NB [.str,It] r):∃ x:fZ,r=x.cells∧eJ x.a7C:=by
 match r,h with
 | [_,_],⟨e,j,_⟩ =>obtain⟨s,rfl,-⟩:=Ty.FQ e.1;obtain⟨a,rfl,l⟩:=mH j.1;exact⟨⟨s,a⟩,rfl,l⟩
def Bv:List CT:=[It,.sl [.str,Ft,.sl [Ft],Ft],.sl [.str,It,It,It],.sl [.str,It,It,It,.bool,Ut,Ut],.sl [.str,It,It],.sl [.str,It,It,It,It,It,It,It,It,.sl [It],Ft,.bool,Ut,Ut,.bool,Ut,Ut],.sl [.str,It]]
structure aE.a0D (f:aE):Prop where
 a6X:f.a6X.length≤NB
 a6Q:f.a6Q.length≤NB
 a6T:f.a6T.length≤NB
theorem aGD {pv:PV} (h:AT.Ty (.struct Bv) pv) (J:PV.Len NB pv):∃ f:aE,pv=.agg f.cells∧f.Ok∧f.a0D:=by
 cases h with
 | @struct cts j K h =>
 have N:oM NB Bv j:=.of K h J.parts
 match j,N with
 | [_,_,_,_,_,_,_],⟨w,x,y,A,h5,B,h7,_⟩ =>obtain⟨e,rfl,-⟩:=mH w.1;obtain⟨a,rfl,l,E⟩:=rR aUJ x;obtain⟨b,rfl,u,-⟩:=rR aHE y;obtain⟨c,rfl,lc,F⟩:=rR aTB A;obtain⟨d,rfl,R,I⟩:=rR aFV h5;obtain⟨p,rfl,lp,M⟩:=rR aVQ B;obtain⟨v,rfl,S,O⟩:=rR aWS h7;exact⟨⟨e,a,b,c,d,p,v⟩,rfl,⟨uS l,uS u,uS lc,uS R,uS lp,uS S,E,F,I,M,O⟩,l,u,lp⟩
def aAD:List CT:=[.sl [.bool],.sl [.sl [.bool]],.sl [.bool]]
theorem aLQ {N:Nat} (r:List PV) (h:oM N [.bool] r):∃ b:Bool,r=[.bool b]∧True:=by
 match r,h with
 | [v],⟨⟨h,_⟩,_⟩ =>obtain⟨b,rfl⟩:=Ty.Qb h;exact⟨b,rfl,trivial⟩
theorem VH {N:Nat} {v:PV} (h:PV.Ty (.sl [.bool]) v∧PV.Len N v):∃ l:List Bool,v=iJ l∧l.length≤N:=by
 obtain⟨l,rfl,e,-⟩:=rR (cells:=fun b:Bool=>[PV.bool b]) aLQ h;exact⟨l,rfl,e⟩
theorem aFN {N:Nat} (r:List PV) (h:oM N [.sl [.bool]] r):∃ l:List Bool,r=[iJ l]∧True:=by
 match r,h with
 | [v],⟨h,_⟩ =>obtain⟨l,rfl,-⟩:=VH h;exact⟨l,rfl,trivial⟩
theorem aSV {N:Nat} (j:N≤1000000000000000) {pv:PV} (h:AT.Ty (.struct aAD) pv) (y:PV.Len N pv):∃ c:eO,pv=.agg c.cells∧(c.vols.length≤1000000000000000∧c.a6Z.length≤1000000000000000∧c.a7J.length≤1000000000000000):=by
 cases h with
 | @struct cts e A h =>
 have B:oM N aAD e:=.of A h y.parts
 match e,B with
 | [_,_,_],⟨l,u,x,_⟩ =>obtain⟨a,rfl,E⟩:=VH l;obtain⟨b,rfl,F,-⟩:=rR (cells:=fun w:List Bool=>[iJ w]) aFN u;obtain⟨c,rfl,lc⟩:=VH x;exact⟨⟨a,b,c⟩,rfl,baK E j,baK F j,baK lc j⟩
end Go.PM
