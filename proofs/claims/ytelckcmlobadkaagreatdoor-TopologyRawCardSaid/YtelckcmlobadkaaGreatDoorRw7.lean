/-
  Texts of ours, joined: ZdCodesE Pm38 FlIn L11W16. No condition.
-/
import Derived.Test.YtelckcmlobadkaaGreatDoorRw1
import Derived.Test.YtelckcmlobadkaaGreatDoorRw2
import Derived.Test.YtelckcmlobadkaaGreatDoorRw3
import Derived.Test.YtelckcmlobadkaaGreatDoorRw4
import Derived.Test.YtelckcmlobadkaaGreatDoorRw5
import Derived.Test.YtelckcmlobadkaaGreatDoorRw6

set_option linter.unusedSimpArgs false
set_option linter.unusedVariables false
open Nat renaming reduceEqDiff → γ, reduceAdd → δ, reduceSub → ε, reduceMul → ζ, reduceLT → η, reduceLeDiff → θ, reduceBEq → τ
open Int renaming reduceLT → ι, reduceLE → κ, reduceEq → μ, reduceToNat → ν, reduceAdd → ξ, reduceNeg → ο, reduceBEq → ρ, reduceBNe → σ
open List renaming reduceReplicate → υ
open List renaming length_map → bIM, range → bIN, replicate → bIP, length_append → bIQ, getElem_mem → bIS, length_singleton → bIX, getElem?_eq_getElem → bIZ, mem_cons → bJB, take_of_length_le → bJD, getD_eq_getElem?_getD → bJE, length_take → bJF, not_mem_nil → bJI, all_eq_true → bJL, take_length → bJN, append_assoc → bJO, drop_zero → bJR, getElem?_map → bJU, mem_map → bJV, getElem?_eq_none → bJY, append_nil → bJZ, getElem?_eq_some_iff → bKA, map_cons → bKD, drop_eq_getElem_cons → bKE, Sublist → bKH, getElem_map → bKI, mem_append → bKL, take_succ_eq_append_getElem → bKM, length_drop → bKQ, mem_range → bKR, length_set → bKU, map_append → bKV, map_nil → bKW, mem_of_getElem? → bKX, length_nil → bLA, take_append_drop → bLB, getElem?_append_left → bLF, length_cons → bLG, nodup_append → bLH, ext_getElem → bLI, getElem?_append_right → bLJ, getElem?_take → bLK, getElem_of_mem → bLL, set_append_right → bLM, drop_of_length_le → bLT
open Bool renaming not_true → bIO, false_and → bIV, not_false → bIY, true_and → bJC, and_eq_true → bJK, and_false → bJW, and_true → bKZ, and_assoc → bLE, false_eq_true → bLS
open Nat renaming gcd → bIR, zero_le → bIT, le_refl → bIU, mul_add → bJA, lt_or_ge → bJG, mul_assoc → bJH, zero_add → bJJ, mul_comm → bJM, add_mul → bJP, mul_le_mul_right → bJQ, mod_eq_of_lt → bJT, mod_lt → bJX, pow_succ → bKB, add_zero → bKF, le_trans → bKG, min_eq_left → bKJ, eq_zero_or_pos → bKN, mul_le_mul_left → bKO, pos_of_ne_zero → bKP, add_assoc → bKS, pow_pos → bKY, div_lt_iff_lt_mul → bLC, div_add_mod → bLN, div_eq_of_lt → bLO
open Option renaming map_eq_some_iff → bIW, map_some → bJS, getD_some → bKK, some → bKT, bind_eq_some_iff → bLP, bind_some → bLQ
open Array renaming replicate → bKC, length_toList → bLD, getElem?_eq_getElem → bLR, getElem?_eq_some_iff → bLU
namespace Go.Proofs.YtelckcmlobadkaaGreatDoor
open Go Go.PM
theorem q19:aL C 19 PM.RD:=bD (T a4P) rfl rfl Tryz.func24 (by kernel_rfl) (by kernel_rfl)
theorem q21:aL C 21 PM.abP:=bD (T bcF) rfl rfl Tryz.func23 (by kernel_rfl) (by kernel_rfl)
theorem q22:aL C 22 PM.axT:=bD (T bkO) rfl rfl Tryz.func48 (by kernel_rfl) (by kernel_rfl)
theorem q46:aL C 46 PM.aNO:=bD (T buF) rfl rfl Tryz.func136 (by kernel_rfl) (by kernel_rfl)
theorem q48:aL C 48 PM.agQ:=bD (T bhO) rfl rfl Tryz.func162 (by kernel_rfl) (by kernel_rfl)
theorem q49:aL C 49 PM.ayR:=bD (T boP) rfl rfl Tryz.func105 (by kernel_rfl) (by kernel_rfl)
theorem q51:aL C 51 PM.agZ:=bD (T bhQ) rfl rfl Tryz.func101 (by kernel_rfl) (by kernel_rfl)
theorem q52:aL C 52 PM.RW:=bD (T a9J) rfl rfl Tryz.func102 (by kernel_rfl) (by kernel_rfl)
theorem q53:aL C 53 PM.ayT:=bD (T boT) rfl rfl Tryz.func100 (by kernel_rfl) (by kernel_rfl)
theorem q54:aL C 54 PM.ayU:=bD (T boV) rfl rfl Tryz.func77 (by kernel_rfl) (by kernel_rfl)
theorem q55:aL C 55 PM.a9K:=bD (T buK) rfl rfl Tryz.func99 (by kernel_rfl) (by kernel_rfl)
theorem q56:aL C 56 PM.ahF:=bD (T bhU) rfl rfl Tryz.func76 (by kernel_rfl) (by kernel_rfl)
theorem q57:aL C 57 PM.ayQ:=bD (T boM) rfl rfl Tryz.func153 (by kernel_rfl) (by kernel_rfl)
theorem q60:aL C 60 PM.ahE:=bD (T bhS) rfl rfl Tryz.func137 (by kernel_rfl) (by kernel_rfl)
theorem q61:aL C 61 PM.zN:=bD (T bmW) rfl rfl Tryz.func103 (by kernel_rfl) (by kernel_rfl)
theorem q62:aL C 62 PM.RY:=bD (T a9O) rfl rfl Tryz.func96 (by kernel_rfl) (by kernel_rfl)
theorem q63:aL C 63 PM.ahG:=bD (T bhW) rfl rfl Tryz.func151 (by kernel_rfl) (by kernel_rfl)
theorem q64:aL C 64 PM.RX:=bD (T a9M) rfl rfl Tryz.func135 (by kernel_rfl) (by kernel_rfl)
theorem q65:aL C 65 PM.RZ:=bD (T a9Q) rfl rfl Tryz.func134 (by kernel_rfl) (by kernel_rfl)
theorem q66:aL C 66 PM.a9W:=bD (T buS) rfl rfl Tryz.func104 (by kernel_rfl) (by kernel_rfl)
theorem q67:aL C 67 PM.aiK:=bD (T biL) rfl rfl Tryz.func59 (by kernel_rfl) (by kernel_rfl)
theorem q68:aL C 68 PM.a9V:=bD (T buQ) rfl rfl Tryz.func75 (by kernel_rfl) (by kernel_rfl)
theorem q69:aL C 69 PM.a9T:=bD (T buO) rfl rfl Tryz.func80 (by kernel_rfl) (by kernel_rfl)
theorem q70:aL C 70 PM.ahW:=bD (T biA) rfl rfl Tryz.func74 (by kernel_rfl) (by kernel_rfl)
theorem q71:aL C 71 PM.ahX:=bD (T biC) rfl rfl Tryz.func97 (by kernel_rfl) (by kernel_rfl)
theorem q72:aL C 72 PM.JS:=bD (T aSL) rfl rfl Tryz.func79 (by kernel_rfl) (by kernel_rfl)
theorem q73:aL C 73 PM.ahY:=bD (T biF) rfl rfl Tryz.func73 (by kernel_rfl) (by kernel_rfl)
theorem q74:aL C 74 PM.ahZ:=bD (T biH) rfl rfl Tryz.func78 (by kernel_rfl) (by kernel_rfl)
theorem q75:aL C 75 PM.SA:=bD (T a9Y) rfl rfl Tryz.func98 (by kernel_rfl) (by kernel_rfl)
theorem q76:aL C 76 PM.EH:=bD (T baA) rfl rfl Tryz.func72 (by kernel_rfl) (by kernel_rfl)
theorem q77:aL C 77 PM.HR:=bD (T aSA) rfl rfl Tryz.func81 (by kernel_rfl) (by kernel_rfl)
theorem q78:aL C 78 PM.sat:=bD (T bwO) rfl rfl Tryz.func40 (by kernel_rfl) (by kernel_rfl)
theorem q79:aL C 79 PM.adU:=bD (T bfE) rfl rfl Tryz.func43 (by kernel_rfl) (by kernel_rfl)
theorem q80:aL C 80 PM.adW:=bD (T bfG) rfl rfl Tryz.func82 (by kernel_rfl) (by kernel_rfl)
theorem q81:aL C 81 PM.RN:=bD (T a8B) rfl rfl Tryz.func42 (by kernel_rfl) (by kernel_rfl)
theorem q83:aL C 83 PM.aeG:=bD (T bfN) rfl rfl Tryz.func50 (by kernel_rfl) (by kernel_rfl)
theorem q84:aL C 84 PM.aeH:=bD (T bfR) rfl rfl Tryz.func45 (by kernel_rfl) (by kernel_rfl)
theorem q85:aL C 85 PM.ayB:=bD (T bnC) rfl rfl Tryz.func46 (by kernel_rfl) (by kernel_rfl)
theorem q86:aL C 86 PM.RP:=bD (T a8I) rfl rfl Tryz.func47 (by kernel_rfl) (by kernel_rfl)
theorem q87:aL C 87 PM.ayC:=bD (T bnG) rfl rfl Tryz.func49 (by kernel_rfl) (by kernel_rfl)
theorem q88:aL C 88 PM.adT:=bD (T beZ) rfl rfl Tryz.func60 (by kernel_rfl) (by kernel_rfl)
theorem q89:aL C 89 PM.a7Z:=bD (T btH) rfl rfl Tryz.func61 (by kernel_rfl) (by kernel_rfl)
theorem q90:aL C 90 PM.a8G:=bD (T btO) rfl rfl Tryz.func62 (by kernel_rfl) (by kernel_rfl)
theorem q94:aL C 94 PM.axK:=bD (T bjE) rfl rfl Tryz.func41 (by kernel_rfl) (by kernel_rfl)
theorem q13:aL C 13 PM.bzD:=bD (T bkV) rfl rfl Tryz.func9 (by kernel_rfl) (by kernel_rfl)
theorem q12:aL C 12 PM.bvU:=bD (T bcD) rfl rfl Tryz.func7 (by kernel_rfl) (by kernel_rfl)
theorem q15:aL C 15 PM.a5V:=bD (T brY) rfl rfl Tryz.func8 (by kernel_rfl) (by kernel_rfl)
theorem bvG:fT C:={ bvH with r19:=q19,r21:=q21,r22:=q22,r46:=q46,r48:=q48,r49:=q49,r51:=q51,r52:=q52,r53:=q53,r54:=q54,r55:=q55,r56:=q56,r57:=q57,r60:=q60,r61:=q61,r62:=q62,r63:=q63,r64:=q64,r65:=q65,r66:=q66,r67:=q67,r68:=q68,r69:=q69,r70:=q70,r71:=q71,r72:=q72,r73:=q73,r74:=q74,r75:=q75,r76:=q76,r77:=q77,r78:=q78,r79:=q79,r80:=q80,r81:=q81,r83:=q83,r84:=q84,r85:=q85,r86:=q86,r87:=q87,r88:=q88,r89:=q89,r90:=q90,r94:=q94 }
end Go.Proofs.YtelckcmlobadkaaGreatDoor
namespace Go.PM
open Go Go.RowKit Go.ChangeShapes Go.WideShapes
theorem aPC {H:Type} {enc:TypeId × Value→H} {P:Program} {W:World} {r:Reach} {base:Nat} {sp:Nat→Bool} {held:Bool} (num:Nat→FuncId) {t:TypeId} {v:Value} {d:DataW H} {ps:List MemPlace} {fs:Array Field} {n:Nat} {cts:List CT}
  (hu:P.underlying t=some (.struct fs)) (bHB:Value.okWide P W r base t v) (hd:DataW.Trod enc P W 0 sp held t v d ps) (hc:fY P n t=some cts) :
  ∃ pvs,aW (Env.of W num) (.agg pvs) v∧pvs.length=cts.length∧(∀ (j:Nat) pv ct,pvs[j]?=some pv→cts[j]?=some ct→PV.Ty ct pv)∧∀ N S,sL P N S→S t d→PV.Len N (.agg pvs):=by
 obtain⟨cs,rfl,-⟩:=okWide_struct hu bHB
 obtain⟨fuel,h⟩:=hd
 obtain⟨pvs,hr,hlen⟩:=aKY num fuel n t _ _ cts h hc
 have hl:cs.size=pvs.length:=by have:=hr.lc; rw[hr.lp,← this]; simp[Value.cells]
 refine⟨pvs,.agg cs hl (fun u hu=>?_) (fun j pv u a b=>(hr.rep j pv u a (by simpa [Value.cells] using b)).1),hr.lp,hr.ty,fun N S hM hS=>.agg (hlen N S hM hS)⟩
 obtain⟨j,hj,rfl⟩:=bLL hu
 simp only[bLD] at hj
 exact (hr.rep j _ _ (bIZ Om) (by simp[Value.cells,hj])).2
theorem pX {H:Type} {enc:TypeId × Value→H} {P:Program} {W:World} {sp:Nat→Bool} {held:Bool} (num:Nat→FuncId) {t:TypeId} {v:Value} {d:DataW H} {ps:List MemPlace} {n:Nat} {ct:CT}
  (hv:v.cells=#[v]) (hd:DataW.Trod enc P W 0 sp held t v d ps) (hc:fY P n t=some [ct]):∃ pv,aW (Env.of W num) pv v∧PV.Ty ct pv∧∀ N S,sL P N S→S t d→PV.Len N pv:=by
 obtain⟨fuel,h⟩:=hd
 obtain⟨pvs,hr,hlen⟩:=aKY num fuel n t _ _ [ct] h hc
 rw[hv] at hr
 have hl:=hr.lp
 cases pvs with
 | nil=>simp at hl
 | cons pv rest=>exact⟨pv,(hr.rep 0 pv v rfl rfl).1,hr.ty 0 pv ct rfl rfl,fun N S hM hS=>hlen N S hM hS pv (by simp)⟩
section
variable {H:Type} {enc:TypeId × Value→H} {P:Program} {W:World} {sp:Nat→Bool} {held:Bool}
theorem bpR {r:Reach} {base:Nat} (num:Nat→FuncId) {t:TypeId} {v:Value} {d:DataW H} {ps:List MemPlace} {n:Nat} {a:AT}
  (bHB:Value.okWide P W r base t v) (hd:DataW.Trod enc P W 0 sp held t v d ps) (ha:a2S P n t=some a):∃ pv,aW (Env.of W num) pv v∧AT.Ty a pv∧∀ N S,sL P N S→S t d→PV.Len N pv:=by
 unfold a2S at ha
 cases n with
 | zero =>
  split at ha
  ·rename_i hu
   cases ha
   obtain⟨b,rfl⟩:=okWide_bool hu bHB
   obtain⟨pv,h1,h2,h9⟩:=pX (n:=1) (ct:=.bool) num (by simp[Value.cells]) hd (by simp[fY,hu])
   exact⟨pv,h1,.one h2,h9⟩
  ·rename_i k hu
   cases ha
   obtain⟨b,rfl⟩:=okWide_int hu bHB
   obtain⟨pv,h1,h2,h9⟩:=pX (n:=1) (ct:=.int k) num (by simp[Value.cells]) hd (by simp[fY,hu])
   exact⟨pv,h1,.one h2,h9⟩
  ·rename_i hu
   cases ha
   obtain⟨b,rfl⟩:=okWide_string hu bHB
   obtain⟨pv,h1,h2,h9⟩:=pX (n:=1) (ct:=.str) num (by simp[Value.cells]) hd (by simp[fY,hu])
   exact⟨pv,h1,.one h2,h9⟩
  ·simp[fY] at ha
  ·simp[fY] at ha
  ·cases ha
 | succ n =>
  split at ha
  ·rename_i hu
   cases ha
   obtain⟨b,rfl⟩:=okWide_bool hu bHB
   obtain⟨pv,h1,h2,h9⟩:=pX (n:=n+1) (ct:=.bool) num (by simp[Value.cells]) hd (by simp[fY,hu])
   exact⟨pv,h1,.one h2,h9⟩
  ·rename_i k hu
   cases ha
   obtain⟨b,rfl⟩:=okWide_int hu bHB
   obtain⟨pv,h1,h2,h9⟩:=pX (n:=n+1) (ct:=.int k) num (by simp[Value.cells]) hd (by simp[fY,hu])
   exact⟨pv,h1,.one h2,h9⟩
  ·rename_i hu
   cases ha
   obtain⟨b,rfl⟩:=okWide_string hu bHB
   obtain⟨pv,h1,h2,h9⟩:=pX (n:=n+1) (ct:=.str) num (by simp[Value.cells]) hd (by simp[fY,hu])
   exact⟨pv,h1,.one h2,h9⟩
  ·rename_i e hu
   split at ha
   ·rename_i ct hc
    cases ha
    obtain⟨x,len,cap,rfl⟩:=okWide_slice hu bHB
    obtain⟨pv,h1,h2,h9⟩:=pX num (by simp[Value.cells]) hd hc
    exact⟨pv,h1,.one h2,h9⟩
   ·cases ha
  ·rename_i fs hu
   rw[bIW] at ha
   obtain⟨cts,hc,rfl⟩:=ha
   obtain⟨pvs,h1,h2,h3,h9⟩:=aPC num hu bHB hd hc
   exact⟨_,h1,.struct h2 h3,h9⟩
  ·cases ha
theorem azP {r:Reach} {base:Nat} (num:Nat→FuncId) {n:Nat}:∀ {ts:List TypeId} {vs:List Value} {ds:List (DataW H)} {ps:List MemPlace} {az:List AT},DataW.TrodAll enc P W 0 sp held ts vs ds ps →
  (∀ (j:Nat) t v,ts[j]?=some t→vs[j]?=some v→Value.okWide P W r base t v)→DL P n ts=some az→∃ pvs,eP (Env.of W num) pvs vs∧AT.TyL az pvs∧∀ N S,sL P N S→(∀ (j:Nat) t d,ts[j]?=some t→ds[j]?=some d→S t d)→∀ v∈pvs,PV.Len N v
 | [],[],_,_,az,_,_,h=>by
  simp[DL] at h
  subst h
  exact⟨[],.nil,trivial,fun _ _ _ _ v hv=>by cases hv⟩
 | [],_::_,_,_,_,h,_,_=>h.elim
 | _::_,[],[],_,_,h,_,_=>h.elim
 | _::_,[],_::_,_,_,h,_,_=>h.elim
 | _::_,_::_,[],_,_,h,_,_=>h.elim
 | t::ts,v::vs,d::ds,ps,az,h,hv,ha=>by
  obtain⟨p,q,h1,h2,rfl⟩:=h
  simp only[DL] at ha
  split at ha
  ·rename_i a as' e1 e2
   cases ha
   obtain⟨pv,r1,t1,l1⟩:=bpR num (hv 0 t v rfl rfl) h1 e1
   obtain⟨pvs,r2,t2,l2⟩:=azP num h2 (fun j t v a b=>hv (j+1) t v (by simpa using a) (by simpa using b)) e2
   exact⟨pv::pvs,.cons r1 r2,⟨t1,t2⟩,fun N S hM hS v hv=>by
    rcases bJB.1 hv with rfl | hv
    ·exact l1 N S hM (hS 0 t d rfl rfl)
    ·exact l2 N S hM (fun j t' d' a b=>hS (j+1) t' d' (by simpa using a) (by simpa using b)) v hv⟩
  ·cases ha
end
theorem awV {H:Type} {enc:TypeId × Value→H} {P:Program} {f:FuncId} {fn:Func} {s:ChangeSpec} {apart fresh handsOn:Bool} {bt:TypeId} {num:Nat→FuncId} {name n:Nat} {ats:List AT}
  (hl:laidOutB P=true) (hts:fn.params.toList.all (fun t=>P.readableRec t&&decide (t<P.types.size))=true) (hrt:fn.resultTypes=#[bt]) (hbt:P.underlying bt=some .bool) (hv:s.vars=[])
  (hs:∀ ds:List (DataW H),ds.length=fn.params.toList.length→(s.fn H ds).results=[.lit (.bool true)]∧(s.fn H ds).args=ds∧(s.fn H ds).vars=[])
  (hnum:num name=f) (ha:DL P n fn.params.toList=some ats) {N:Nat} {S:TypeId→DataW H→Prop} (hM:sL P N S) (h:∀ pvs,AT.TyL ats pvs→(∀ v∈pvs,PV.Len N v)→aH ⟨P,num⟩ name pvs PH.nil (aD (.bool true)))
  {W:World} {base:Nat} {args:Array Value} {ds gs:List (DataW H)} {before:List MemPlace}
  (bHB:∀ (j:Nat) t v,fn.params[j]?=some t→args[j]?=some v→Value.okWide P W .any base t v) (hW:DataW.Whole enc P fn.params.toList s.vars apart W args.toList ds gs before) (hS:∀ (j:Nat) t d,fn.params.toList[j]?=some t→ds[j]?=some d→S t d) :
  Calls P f args W fun e W'=>∃ v,e=.returned v∧s.post enc P fn apart fresh handsOn false W args v W':=by
 have hts':∀ t∈fn.params.toList,P.readableRec t=true∧t<P.types.size:=fun t ht=>by
  have:=bJL.1 hts t ht
  simpa using this
 have hW':=hW
 obtain⟨p,q,hA,hV,rfl,hz,hn⟩:=hW
 rw[hv] at hV
 obtain⟨rfl,rfl⟩:=trodVars_none hV
 obtain⟨pvs,hr,ht,hlen9⟩:=azP num hA (fun j t v a b=>bHB j t v (by simpa using a) (by simpa using b)) ha
 have hlen:=TrodAll.length hA
 subst hnum
 obtain⟨r1,r2,r3⟩:=hs (ds++[]) (by simpa using hlen)
 refine (bbS (C:=⟨P,num⟩) (h pvs ht (hlen9 N S hM hS)) hr).mono fun e W' he=>?_
 obtain⟨rfl,hb⟩:=he
 exact⟨_,rfl,beL hl hW' hb hts' hrt hbt hv r1 (by rw[r2]; simp) r3⟩
def uB (P:Program) (w:Nat):Nat→TypeId→Bool
 | 0,_=>false
 | n+1,t=>match P.underlying t with
  | some (.slice e)=>decide (w≤P.bytesOf e)&&uB P w n e
  | some (.struct fs)=>fs.toList.all fun g=>uB P w n g.type
  | some (.array _ e)=>uB P w n e
  | _=>true
def wtS {H:Type} (P:Program) (w:Nat) (t:TypeId) (d:DataW H):Prop:=(d.weights P t).all (·≤reachBytes)=true∧∃ n,uB P w n t=true
theorem vF {H:Type} {P:Program} {e:TypeId}:∀ {l:List (DataW H)},(DataW.weightsAll P e l).all (·≤reachBytes)=true→∀ d∈l,(d.weights P e).all (·≤reachBytes)=true
 | [],_,_,hd=>by cases hd
 | x::r,h,d,hd=>by
  rw[DataW.weightsAll,List.all_append,bJK] at h
  rcases bJB.1 hd with rfl | hd
  ·exact h.1
  ·exact vF h.2 d hd
theorem tJ {H:Type} {P:Program}:∀ {ts:List TypeId} {l:List (DataW H)},(DataW.weightsEach P ts l).all (·≤reachBytes)=true→∀ (j:Nat) t d,ts[j]?=some t→l[j]?=some d→(d.weights P t).all (·≤reachBytes)=true
 | [],_,_,j,t,d,a,_=>by simp at a
 | _::_,[],_,j,t,d,_,b=>by simp at b
 | t0::ts,x::r,h,j,t,d,a,b=>by
  rw[DataW.weightsEach,List.all_append,bJK] at h
  cases j with
  | zero=>simp at a b; subst a; subst b; exact h.1
  | succ j=>exact tJ h.2 j t d (by simpa using a) (by simpa using b)
theorem buM {H:Type} (P:Program) {w:Nat} (hw0:0<w):sL (H:=H) P (reachBytes/w) (wtS P w) where
 sl:=fun t e elems spare hu ⟨hw,n,hn⟩=>by
  cases n with
  | zero=>cases hn
  | succ n =>
   rw[uB,hu] at hn
   simp only[bJK,decide_eq_true_eq] at hn
   rw[DataW.weights,hu] at hw
   simp only[List.all_cons,List.all_append,bJK,decide_eq_true_eq] at hw
   refine⟨(Nat.le_div_iff_mul_le hw0).2 (bKG ?_ hw.1),fun d hd=>⟨vF hw.2.1 d hd,n,hn.2⟩⟩
   exact Nat.mul_le_mul (Nat.le_add_right _ _) hn.1
 st:=fun t fs parts hu ⟨hw,n,hn⟩ i g d hg hd=>by
  cases n with
  | zero=>cases hn
  | succ n =>
   rw[uB,hu] at hn
   rw[DataW.weights,hu] at hw
   refine⟨tJ hw i g.type d ?_ hd,n,bJL.1 hn g ?_⟩
   ·simp[hg]
   ·rw[Array.mem_toList_iff]; exact Array.mem_of_getElem? hg
 ar:=fun t k e parts hu ⟨hw,n,hn⟩ d hd=>by
  cases n with
  | zero=>cases hn
  | succ n =>
   rw[uB,hu] at hn
   rw[DataW.weights,hu] at hw
   exact⟨vF hw d hd,n,hn⟩
open Go Go.Na
def lS (N:Nat):List CT→List PV→Prop
 | [],[]=>True
 | e::es,v::r=>(PV.Ty e v∧PV.Len N v)∧lS N es r
 | _,_=>False
theorem lS.of {N:Nat}:∀ {es:List CT} {r:List PV},r.length=es.length→(∀ (j:Nat) pv ct,r[j]?=some pv→es[j]?=some ct→PV.Ty ct pv)→(∀ v∈r,PV.Len N v)→lS N es r
 | [],[],_,_,_=>trivial
 | e::es,v::r,hl,h,hm=>⟨⟨h 0 v e rfl rfl,hm v (by simp)⟩,lS.of (by simpa using hl) (fun j pv ct a b=>h (j+1) pv ct (by simpa using a) (by simpa using b)) fun u hu=>hm u (List.mem_cons_of_mem _ hu)⟩
 | [],_::_,hl,_,_=>by simp at hl
 | _::_,[],hl,_,_=>by simp at hl
theorem aEE {α:Type} {Q:List PV→Prop} {cells:α→List PV} {P:α→Prop} (hd:∀ r,Q r→∃ x,r=cells x∧P x):∀ {rows:List (List PV)},(∀ r∈rows,Q r)→∃ l:List α,rows=l.map cells∧∀ x∈l,P x
 | [],_=>⟨[],rfl,fun x h=>by cases h⟩
 | r::rs,h=>by
  obtain⟨x,rfl,hx⟩:=hd r (h r (by simp))
  obtain⟨l,rfl,hl⟩:=aEE hd (rows:=rs) fun u hu=>h u (List.mem_cons_of_mem _ hu)
  exact⟨x::l,rfl,fun y hy=>(bJB.1 hy).elim (fun e=>e ▸ hx) (hl y)⟩
theorem oM {α:Type} {N:Nat} {es:List CT} {pv:PV} {cells:α→List PV} {P:α→Prop} (hd:∀ r,lS N es r→∃ x,r=cells x∧P x) (h:PV.Ty (.sl es) pv∧PV.Len N pv):∃ l:List α,pv=.sl es.length (l.map cells)∧l.length≤N∧∀ x∈l,P x:=by
 obtain⟨h,hl⟩:=h
 cases h with
 | @sl es rows hr hm h =>
 obtain⟨l1,l2⟩:=hl.rows
 obtain⟨l,rfl,hx⟩:=aEE hd (rows:=rows) fun r hm=>.of (hr r hm) (fun j pv ct a b=>by
  obtain⟨i,hi,rfl⟩:=bLL hm
  exact h i j pv ct (by unfold at2; rw[bIZ hi,bLQ]; exact a) b) (l2 r hm)
 exact⟨l,rfl,by simpa using l1,hx⟩
abbrev NB:Nat:=35184372087808
abbrev It:CT:=.int .i64
abbrev Ut:CT:=.sl [.int .u32]
abbrev Ft:CT:=.sl [.bool,Ut,Ut]
theorem aWP {N:Nat} (r:List PV) (h:lS N [.int .u32] r):∃ n:Nat,r=[.int .u32 (n:Int)]∧n<4294967296:=by
 match r,h with
 | [v],⟨⟨h,_⟩,_⟩ =>
  obtain⟨m,rfl,hk⟩:=Ty.sV h
  have h1:=hk.1
  have h2:=hk.2
  rw[show IntKind.u32.min=0 by decide] at h1
  rw[show IntKind.u32.max=4294967295 by decide] at h2
  exact⟨m.toNat,by rw[Int.toNat_of_nonneg h1],by omega⟩
theorem iU {v:PV} (h:PV.Ty It v):∃ n:Int,v=.int .i64 n∧dA n:=by
 obtain⟨m,rfl,hk⟩:=Ty.sV h
 have h1:=hk.1
 have h2:=hk.2
 rw[show IntKind.i64.min=-9223372036854775808 by decide] at h1
 rw[show IntKind.i64.max=9223372036854775807 by decide] at h2
 exact⟨m,rfl,h1,h2⟩
theorem brN {N:Nat} (r:List PV) (h:lS N [It] r):∃ n:Int,r=[.int .i64 n]∧dA n:=by
 match r,h with
 | [v],⟨⟨h,_⟩,_⟩ =>
  obtain⟨n,rfl,hn⟩:=iU h
  exact⟨n,rfl,hn⟩
theorem QW {a b c:PV} (h1:PV.Ty .bool a) (h2:PV.Ty Ut b∧PV.Len NB b) (h3:PV.Ty Ut c∧PV.Len NB c):∃ x:RF,a=.bool x.neg∧b=aI x.num∧c=aI x.den∧x.Ok:=by
 obtain⟨n,rfl⟩:=Ty.biO h1
 obtain⟨xs,rfl,l2,m2⟩:=oM aWP h2
 obtain⟨ys,rfl,l3,m3⟩:=oM aWP h3
 exact⟨⟨n,xs,ys⟩,rfl,rfl,rfl,m2,m3,l2,l3⟩
theorem bjI (r:List PV) (h:lS NB [.bool,Ut,Ut] r):∃ x:RF,r=x.cells∧x.Ok:=by
 match r,h with
 | [a,b,c],⟨h1,h2,h3,_⟩ =>
  obtain⟨x,rfl,rfl,rfl,hx⟩:=QW h1.1 h2 h3
  exact⟨x,rfl,hx⟩
theorem oS {α:Type} {l:List α} (h:l.length≤NB):Fits l:=bKG h (by decide)
theorem QX {v:PV} (h:PV.Ty Ft v∧PV.Len NB v):∃ l:List RF,v=frs l∧gS l:=by
 obtain⟨l,rfl,hl,hx⟩:=oM bjI h
 exact⟨l,rfl,oS hl,hx⟩
theorem bqO (r:List PV) (h:lS NB [Ft] r):∃ l:List RF,r=[frs l]∧gS l:=by
 match r,h with
 | [v],⟨h,_⟩ =>
  obtain⟨l,rfl,hl⟩:=QX h
  exact⟨l,rfl,hl⟩
theorem brR (r:List PV) (h:lS NB [.str,Ft,.sl [Ft],Ft] r):∃ x:bZ,r=x.cells∧x.Ok:=by
 match r,h with
 | [_,_,_,_],⟨h1,h2,h3,h4,_⟩ =>
  obtain⟨s,rfl,-⟩:=Ty.xF h1.1
  obtain⟨a,rfl,ha⟩:=QX h2
  obtain⟨b,rfl,lb,hb⟩:=oM bqO h3
  obtain⟨c,rfl,hc⟩:=QX h4
  exact⟨⟨s,a,b,c⟩,rfl,ha,hc,oS lb,hb⟩
theorem bdI (r:List PV) (h:lS NB [.str,It,It,It] r):∃ x:cH,r=x.cells∧True:=by
 match r,h with
 | [_,_,_,_],⟨h1,h2,h3,h4,_⟩ =>
  obtain⟨s,rfl,-⟩:=Ty.xF h1.1
  obtain⟨a,rfl,-⟩:=iU h2.1
  obtain⟨b,rfl,-⟩:=iU h3.1
  obtain⟨c,rfl,-⟩:=iU h4.1
  exact⟨⟨s,a,b,c⟩,rfl,trivial⟩
theorem bqC (r:List PV) (h:lS NB [.str,It,It,It,.bool,Ut,Ut] r):∃ x:cG,r=x.cells∧x.bHA.Ok∧dA x.level∧dA x.parent:=by
 match r,h with
 | [_,_,_,_,_,_,_],⟨h1,h2,h3,h4,h5,h6,h7,_⟩ =>
  obtain⟨s,rfl,-⟩:=Ty.xF h1.1
  obtain⟨a,rfl,ia⟩:=iU h2.1
  obtain⟨b,rfl,ib⟩:=iU h3.1
  obtain⟨c,rfl,-⟩:=iU h4.1
  obtain⟨x,rfl,rfl,rfl,hx⟩:=QW h5.1 h6 h7
  exact⟨⟨s,a,b,c,x⟩,rfl,hx,ia,ib⟩
theorem baM (r:List PV) (h:lS NB [.str,It,It] r):∃ x:dD,r=x.cells∧dA x.model∧dA x.machine:=by
 match r,h with
 | [_,_,_],⟨h1,h2,h3,_⟩ =>
  obtain⟨s,rfl,-⟩:=Ty.xF h1.1
  obtain⟨a,rfl,ia⟩:=iU h2.1
  obtain⟨b,rfl,ib⟩:=iU h3.1
  exact⟨⟨s,a,b⟩,rfl,ia,ib⟩
theorem bsZ (r:List PV) (h:lS NB [.str,It,It,It,It,It,It,It,It,.sl [It],Ft,.bool,Ut,Ut,.bool,Ut,Ut] r):∃ x:cF,r=x.cells∧x.Ok:=by
 match r,h with
 | [_,_,_,_,_,_,_,_,_,_,_,_,_,_,_,_,_],⟨h1,h2,h3,h4,s0,s1,s2,s3,s4,hm,hr,t1,t2,t3,z1,z2,z3,_⟩ =>
  obtain⟨s,rfl,-⟩:=Ty.xF h1.1
  obtain⟨k,rfl,ik⟩:=iU h2.1
  obtain⟨m,rfl,im⟩:=iU h3.1
  obtain⟨q,rfl,iq⟩:=iU h4.1
  obtain⟨a0,rfl,-⟩:=iU s0.1
  obtain⟨a1,rfl,-⟩:=iU s1.1
  obtain⟨a2,rfl,-⟩:=iU s2.1
  obtain⟨a3,rfl,-⟩:=iU s3.1
  obtain⟨a4,rfl,-⟩:=iU s4.1
  obtain⟨ms,rfl,lm,hms⟩:=oM brN hm
  obtain⟨rs,rfl,hrs⟩:=QX hr
  obtain⟨t,rfl,rfl,rfl,ht⟩:=QW t1.1 t2 t3
  obtain⟨z,rfl,rfl,rfl,hz⟩:=QW z1.1 z2 z3
  exact⟨⟨s,k,m,q,a0,a1,a2,a3,a4,ms,rs,t,z⟩,rfl,ik,im,iq,oS lm,hms,hrs,ht,hz⟩
theorem buI (r:List PV) (h:lS NB [.str,It] r):∃ x:eF,r=x.cells∧dA x.bGW:=by
 match r,h with
 | [_,_],⟨h1,h2,_⟩ =>
  obtain⟨s,rfl,-⟩:=Ty.xF h1.1
  obtain⟨a,rfl,ia⟩:=iU h2.1
  exact⟨⟨s,a⟩,rfl,ia⟩
def ajX:List CT:=[It,.sl [.str,Ft,.sl [Ft],Ft],.sl [.str,It,It,It],.sl [.str,It,It,It,.bool,Ut,Ut],.sl [.str,It,It],.sl [.str,It,It,It,It,It,It,It,It,.sl [It],Ft,.bool,Ut,Ut,.bool,Ut,Ut],.sl [.str,It]]
structure aE.a2N (f:aE):Prop where
 bGR:f.bGR.length≤NB
 bGH:f.bGH.length≤NB
 bGL:f.bGL.length≤NB
theorem baY {pv:PV} (h:AT.Ty (.struct ajX) pv) (hl:PV.Len NB pv):∃ f:aE,pv=.agg f.cells∧f.Ok∧f.a2N:=by
 cases h with
 | @struct cts pvs hn h =>
 have hr:lS NB ajX pvs:=.of hn h hl.parts
 match pvs,hr with
 | [_,_,_,_,_,_,_],⟨h1,h2,h3,h4,h5,h6,h7,_⟩ =>
  obtain⟨e,rfl,-⟩:=iU h1.1
  obtain⟨a,rfl,la,ha⟩:=oM brR h2
  obtain⟨b,rfl,lb,-⟩:=oM bdI h3
  obtain⟨c,rfl,lc,hc⟩:=oM bqC h4
  obtain⟨d,rfl,ld,hd⟩:=oM baM h5
  obtain⟨p,rfl,lp,hp⟩:=oM bsZ h6
  obtain⟨v,rfl,lv,hv⟩:=oM buI h7
  exact⟨⟨e,a,b,c,d,p,v⟩,rfl,⟨oS la,oS lb,oS lc,oS ld,oS lp,oS lv,ha,hc,hd,hp,hv⟩,la,lb,lp⟩
structure baC (C:Ctx):Prop where
 awake:aH C 20 [] .nil (aD (.bool true))
 agrees:∀ (f:aE) (l:List (List Int)) (room:List Int) (d level dom:Int),f.Ok→eQ l→aH C 19 [.agg f.cells,lay l,ints room,.int .i64 d,.int .i64 level,.int .i64 dom] .nil (aD (.bool true))
 heavy:∀ l:List (List Int),l.length≤1000000000000000→(∀ r∈l,r.length≤1000000000000000)→aH C 21 [lay l] .nil (aD (.bool (MH l)))
theorem brX {C:Ctx} (Lb:baC C) (f:aE) (hf:f.Ok) (hs:f.a2N) (la:List (List Int)) (h1:la.length≤1000000000000000) (h2:∀ r∈la,r.length≤1000000000000000) (room:List Int) (d level dom:Int) :
  MN.wp C (aR a5V.res (aD (.bool true))) (PF.args [.agg f.cells,lay la,ints room,.int .i64 d,.int .i64 level,.int .i64 dom]) .nil:=by
 have s1:f.bGR.length≤35184372087808:=hs.bGR
 have s2:f.bGH.length≤35184372087808:=hs.bGH
 have s3:f.bGL.length≤35184372087808:=hs.bGL
 have w1:IntKind.i64.wrap (((f.bGR.length:Nat):Int)+(f.bGH.length:Nat))=((f.bGR.length+f.bGH.length:Nat):Int):=by exact yX Om
 have w2:IntKind.i64.wrap (((f.bGR.length+f.bGH.length:Nat):Int)+(f.bGL.length:Nat))=((f.bGR.length+f.bGH.length+f.bGL.length:Nat):Int):=by exact yX Om
 simp only[go_sem,γ,MN,aVK,a5V,aVL]
 refine aA (Lb.heavy la h1 h2) rfl ?_
 cases hh:MH la with
 | true =>
  simp only[go_sem,γ,bIM,sX]
  refine aA Lb.awake rfl ?_
  simp only[go_sem,γ]
  refine aM (.inr rfl) rfl ?_
  rfl
 | false =>
  have hOk:=bkC hh
  by_cases c1:((room.length:Nat):Int)>60
  ·simp only[go_sem,γ,reduceCtorEq,bIM,c1,sX]
   refine aA Lb.awake rfl ?_
   simp only[go_sem,γ]
   refine aM (.inr rfl) rfl ?_
   rfl
  by_cases c2:((f.bGR.length+f.bGH.length+f.bGL.length:Nat):Int)>12
  ·simp only[go_sem,δ,γ,θ,reduceCtorEq,bIM,c1,w1,w2,c2,sX]
   refine aA Lb.awake rfl ?_
   simp only[go_sem,γ]
   refine aM (.inr rfl) rfl ?_
   rfl
  by_cases c3:((f.bGK.length:Nat):Int)>40
  ·simp only[go_sem,δ,γ,θ,reduceCtorEq,bIM,c1,w1,w2,c2,c3,sX]
   refine aA Lb.awake rfl ?_
   simp only[go_sem,γ]
   refine aM (.inr rfl) rfl ?_
   rfl
  by_cases c4:((f.bGG.length:Nat):Int)>30
  ·simp only[go_sem,δ,γ,θ,reduceCtorEq,bIM,c1,w1,w2,c2,c3,c4,sX]
   refine aA Lb.awake rfl ?_
   simp only[go_sem,γ]
   refine aM (.inr rfl) rfl ?_
   rfl
  by_cases c5:((f.bGJ.length:Nat):Int)>20
  ·simp only[go_sem,δ,γ,θ,reduceCtorEq,bIM,c1,w1,w2,c2,c3,c4,c5,sX]
   refine aA Lb.awake rfl ?_
   simp only[go_sem,γ]
   refine aM (.inr rfl) rfl ?_
   rfl
  simp only[go_sem,δ,γ,θ,reduceCtorEq,bIM,c1,w1,w2,c2,c3,c4,c5,aVM]
  refine aA (Lb.agrees _ la room d level dom hf hOk) rfl ?_
  simp only[go_sem,γ]
  refine aA Lb.awake rfl ?_
  simp only[go_sem,γ]
  refine aM (.inr rfl) rfl ?_
  rfl
theorem bzC {C:Ctx} (c:fT C) (hi:uV C):baC C :=
 {awake:=bkG c.todY hi
  agrees:=fun f l room d level dom hf hl=>c.r19.go (a4O (bzB c hi) f hf l hl room d level dom) rfl
  heavy:=fun l hl hr=>c.r21.go (bcE l hl hr) rfl }
theorem bvP {C:Ctx} (c:fT C) (hi:uV C) (r:aL C 15 a5V) (f:aE) (hf:f.Ok) (hs:f.a2N) (la:List (List Int)) (h1:la.length≤1000000000000000) (h2:∀ r∈la,r.length≤1000000000000000) (room:List Int) (d level dom:Int) :
  aH C 15 [.agg f.cells,lay la,ints room,.int .i64 d,.int .i64 level,.int .i64 dom] .nil (aD (.bool true)) :=
 r.go (brX (bzC c hi) f hf hs la h1 h2 room d level dom) rfl
end Go.PM
