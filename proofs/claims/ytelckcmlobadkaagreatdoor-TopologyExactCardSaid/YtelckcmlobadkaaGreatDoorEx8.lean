/-
  Texts of ours, joined: ZdCodesE Pm38. No condition.
-/
import Derived.Test.YtelckcmlobadkaaGreatDoorEx1
import Derived.Test.YtelckcmlobadkaaGreatDoorEx2
import Derived.Test.YtelckcmlobadkaaGreatDoorEx3
import Derived.Test.YtelckcmlobadkaaGreatDoorEx4
import Derived.Test.YtelckcmlobadkaaGreatDoorEx5
import Derived.Test.YtelckcmlobadkaaGreatDoorEx6
import Derived.Test.YtelckcmlobadkaaGreatDoorEx7

set_option linter.unusedSimpArgs false
set_option linter.unusedVariables false
open Nat renaming reduceEqDiff → γ, reduceAdd → δ, reduceSub → ε, reduceMul → ζ, reduceLT → η, reduceLeDiff → θ, reduceBEq → τ
open Int renaming reduceLT → ι, reduceLE → κ, reduceEq → μ, reduceToNat → ν, reduceAdd → ξ, reduceNeg → ο, reduceBEq → ρ, reduceBNe → σ
open List renaming reduceReplicate → υ
open List renaming length_map → bJT, range → bJU, length_append → bJX, replicate → bJY, getElem_mem → bJZ, length_singleton → bKD, getElem?_eq_getElem → bKG, mem_cons → bKI, getD_eq_getElem?_getD → bKK, take_of_length_le → bKL, length_take → bKN, all_eq_true → bKP, not_mem_nil → bKR, take_length → bKU, append_assoc → bKV, drop_zero → bKY, mem_map → bLA, getElem?_map → bLC, getElem?_eq_some_iff → bLD, map_cons → bLF, getElem?_eq_none → bLH, getElem_map → bLI, getElem_of_mem → bLJ, append_nil → bLK, mem_range → bLN, drop_eq_getElem_cons → bLO, mem_append → bLQ, Sublist → bLR, length_drop → bLS, map_append → bLT, take_succ_eq_append_getElem → bLY, length_nil → bMD, map_nil → bME, length_set → bMG, length_cons → bMH, mem_of_getElem? → bMI, getElem?_append_left → bMK, take_append_drop → bML, nodup_append → bMM, ext_getElem → bMR, getElem?_append_right → bMS, getElem?_take → bMU, set_append_right → bMV, drop_of_length_le → bNB
open Nat renaming gcd → bJV, zero_le → bKA, le_refl → bKB, mul_add → bKH, lt_or_ge → bKO, mul_assoc → bKQ, zero_add → bKS, mul_comm → bKT, add_mul → bKW, mul_le_mul_right → bKX, mod_eq_of_lt → bLB, mod_lt → bLG, pow_succ → bLL, add_zero → bLP, eq_zero_or_pos → bLU, le_trans → bLV, min_eq_left → bLW, add_assoc → bLZ, mul_le_mul_left → bMA, pos_of_ne_zero → bMB, pow_pos → bMJ, div_lt_iff_lt_mul → bMN, div_le_self → bMT, div_add_mod → bMW, div_eq_of_lt → bMX
open Bool renaming not_true → bJW, false_and → bKC, not_false → bKF, true_and → bKJ, and_eq_true → bKM, and_false → bLE, and_true → bMF, and_assoc → bMP, false_eq_true → bNA
open Option renaming map_eq_some_iff → bKE, map_some → bKZ, getD_some → bLX, some → bMC, bind_eq_some_iff → bMY, bind_some → bNC
open Array renaming replicate → bLM, length_toList → bMO, getElem?_eq_getElem → bMZ, getElem?_eq_some_iff → bND
open Int renaming toNat_natCast → bMQ
namespace Go.Proofs.YtelckcmlobadkaaGreatDoor
open Go Go.PM
theorem q19:aL C 19 PM.RP:=bD (T a5S) rfl rfl Tryz.func24 (by kernel_rfl) (by kernel_rfl)
theorem q21:aL C 21 PM.acH:=bD (T bdD) rfl rfl Tryz.func23 (by kernel_rfl) (by kernel_rfl)
theorem q22:aL C 22 PM.ayT:=bD (T blR) rfl rfl Tryz.func48 (by kernel_rfl) (by kernel_rfl)
theorem q46:aL C 46 PM.aOS:=bD (T bvK) rfl rfl Tryz.func136 (by kernel_rfl) (by kernel_rfl)
theorem q48:aL C 48 PM.ahK:=bD (T biM) rfl rfl Tryz.func162 (by kernel_rfl) (by kernel_rfl)
theorem q49:aL C 49 PM.azR:=bD (T bpT) rfl rfl Tryz.func105 (by kernel_rfl) (by kernel_rfl)
theorem q51:aL C 51 PM.ahS:=bD (T biO) rfl rfl Tryz.func101 (by kernel_rfl) (by kernel_rfl)
theorem q52:aL C 52 PM.SK:=bD (T baM) rfl rfl Tryz.func102 (by kernel_rfl) (by kernel_rfl)
theorem q53:aL C 53 PM.azT:=bD (T bpX) rfl rfl Tryz.func100 (by kernel_rfl) (by kernel_rfl)
theorem q54:aL C 54 PM.azU:=bD (T bpZ) rfl rfl Tryz.func77 (by kernel_rfl) (by kernel_rfl)
theorem q55:aL C 55 PM.baN:=bD (T bvO) rfl rfl Tryz.func99 (by kernel_rfl) (by kernel_rfl)
theorem q56:aL C 56 PM.ahY:=bD (T biS) rfl rfl Tryz.func76 (by kernel_rfl) (by kernel_rfl)
theorem q57:aL C 57 PM.azQ:=bD (T bpQ) rfl rfl Tryz.func153 (by kernel_rfl) (by kernel_rfl)
theorem q60:aL C 60 PM.ahX:=bD (T biQ) rfl rfl Tryz.func137 (by kernel_rfl) (by kernel_rfl)
theorem q61:aL C 61 PM.zT:=bD (T boA) rfl rfl Tryz.func103 (by kernel_rfl) (by kernel_rfl)
theorem q62:aL C 62 PM.SM:=bD (T baR) rfl rfl Tryz.func96 (by kernel_rfl) (by kernel_rfl)
theorem q63:aL C 63 PM.ahZ:=bD (T biU) rfl rfl Tryz.func151 (by kernel_rfl) (by kernel_rfl)
theorem q64:aL C 64 PM.SL:=bD (T baP) rfl rfl Tryz.func135 (by kernel_rfl) (by kernel_rfl)
theorem q65:aL C 65 PM.SN:=bD (T baT) rfl rfl Tryz.func134 (by kernel_rfl) (by kernel_rfl)
theorem q66:aL C 66 PM.baY:=bD (T bvW) rfl rfl Tryz.func104 (by kernel_rfl) (by kernel_rfl)
theorem q67:aL C 67 PM.ajE:=bD (T bjJ) rfl rfl Tryz.func59 (by kernel_rfl) (by kernel_rfl)
theorem q68:aL C 68 PM.baX:=bD (T bvU) rfl rfl Tryz.func75 (by kernel_rfl) (by kernel_rfl)
theorem q69:aL C 69 PM.baV:=bD (T bvS) rfl rfl Tryz.func80 (by kernel_rfl) (by kernel_rfl)
theorem q70:aL C 70 PM.aiQ:=bD (T biY) rfl rfl Tryz.func74 (by kernel_rfl) (by kernel_rfl)
theorem q71:aL C 71 PM.aiR:=bD (T bjA) rfl rfl Tryz.func97 (by kernel_rfl) (by kernel_rfl)
theorem q72:aL C 72 PM.KD:=bD (T aTP) rfl rfl Tryz.func79 (by kernel_rfl) (by kernel_rfl)
theorem q73:aL C 73 PM.aiS:=bD (T bjD) rfl rfl Tryz.func73 (by kernel_rfl) (by kernel_rfl)
theorem q74:aL C 74 PM.aiT:=bD (T bjF) rfl rfl Tryz.func78 (by kernel_rfl) (by kernel_rfl)
theorem q75:aL C 75 PM.SO:=bD (T bbA) rfl rfl Tryz.func98 (by kernel_rfl) (by kernel_rfl)
theorem q76:aL C 76 PM.ER:=bD (T bbC) rfl rfl Tryz.func72 (by kernel_rfl) (by kernel_rfl)
theorem q77:aL C 77 PM.IB:=bD (T aTE) rfl rfl Tryz.func81 (by kernel_rfl) (by kernel_rfl)
theorem q78:aL C 78 PM.sat:=bD (T bxU) rfl rfl Tryz.func40 (by kernel_rfl) (by kernel_rfl)
theorem q79:aL C 79 PM.aeM:=bD (T bgC) rfl rfl Tryz.func43 (by kernel_rfl) (by kernel_rfl)
theorem q80:aL C 80 PM.aeO:=bD (T bgE) rfl rfl Tryz.func82 (by kernel_rfl) (by kernel_rfl)
theorem q81:aL C 81 PM.SA:=bD (T a9E) rfl rfl Tryz.func42 (by kernel_rfl) (by kernel_rfl)
theorem q83:aL C 83 PM.aeY:=bD (T bgL) rfl rfl Tryz.func50 (by kernel_rfl) (by kernel_rfl)
theorem q84:aL C 84 PM.aeZ:=bD (T bgP) rfl rfl Tryz.func45 (by kernel_rfl) (by kernel_rfl)
theorem q85:aL C 85 PM.azB:=bD (T boG) rfl rfl Tryz.func46 (by kernel_rfl) (by kernel_rfl)
theorem q86:aL C 86 PM.SC:=bD (T a9L) rfl rfl Tryz.func47 (by kernel_rfl) (by kernel_rfl)
theorem q87:aL C 87 PM.azC:=bD (T boK) rfl rfl Tryz.func49 (by kernel_rfl) (by kernel_rfl)
theorem q88:aL C 88 PM.aeL:=bD (T bfX) rfl rfl Tryz.func60 (by kernel_rfl) (by kernel_rfl)
theorem q89:aL C 89 PM.a9C:=bD (T buL) rfl rfl Tryz.func61 (by kernel_rfl) (by kernel_rfl)
theorem q90:aL C 90 PM.a9J:=bD (T buS) rfl rfl Tryz.func62 (by kernel_rfl) (by kernel_rfl)
theorem q94:aL C 94 PM.ayK:=bD (T bkD) rfl rfl Tryz.func41 (by kernel_rfl) (by kernel_rfl)
theorem q13:aL C 13 PM.bAJ:=bD (T blY) rfl rfl Tryz.func9 (by kernel_rfl) (by kernel_rfl)
theorem q12:aL C 12 PM.acG:=bD (T bdB) rfl rfl Tryz.func7 (by kernel_rfl) (by kernel_rfl)
theorem q15:aL C 15 PM.bCY:=bD (T btD) rfl rfl Tryz.func8 (by kernel_rfl) (by kernel_rfl)
theorem bwM:gG C:={ bwN with r19:=q19,r21:=q21,r22:=q22,r46:=q46,r48:=q48,r49:=q49,r51:=q51,r52:=q52,r53:=q53,r54:=q54,r55:=q55,r56:=q56,r57:=q57,r60:=q60,r61:=q61,r62:=q62,r63:=q63,r64:=q64,r65:=q65,r66:=q66,r67:=q67,r68:=q68,r69:=q69,r70:=q70,r71:=q71,r72:=q72,r73:=q73,r74:=q74,r75:=q75,r76:=q76,r77:=q77,r78:=q78,r79:=q79,r80:=q80,r81:=q81,r83:=q83,r84:=q84,r85:=q85,r86:=q86,r87:=q87,r88:=q88,r89:=q89,r90:=q90,r94:=q94 }
end Go.Proofs.YtelckcmlobadkaaGreatDoor
namespace Go.PM
open Go Go.RowKit Go.ChangeShapes Go.WideShapes
theorem aQG {H:Type} {enc:TypeId × Value→H} {P:Program} {W:World} {r:Reach} {base:Nat} {sp:Nat→Bool} {held:Bool} (num:Nat→FuncId) {t:TypeId} {v:Value} {d:DataW H} {ps:List MemPlace} {fs:Array Field} {n:Nat} {cts:List CT}
  (hu:P.underlying t=some (.struct fs)) (bII:Value.okWide P W r base t v) (hd:DataW.Trod enc P W 0 sp held t v d ps) (hc:gS P n t=some cts) :
  ∃ pvs,aW (Env.of W num) (.agg pvs) v∧pvs.length=cts.length∧(∀ (j:Nat) pv ct,pvs[j]?=some pv→cts[j]?=some ct→PV.Ty ct pv)∧∀ N S,sW P N S→S t d→PV.Len N (.agg pvs):=by
 obtain⟨cs,rfl,-⟩:=okWide_struct hu bII
 obtain⟨fuel,h⟩:=hd
 obtain⟨pvs,hr,hlen⟩:=aMC num fuel n t _ _ cts h hc
 have hl:cs.size=pvs.length:=by have:=hr.lc; rw[hr.lp,← this]; simp[Value.cells]
 refine⟨pvs,.agg cs hl (fun u hu=>?_) (fun j pv u a b=>(hr.rep j pv u a (by simpa [Value.cells] using b)).1),hr.lp,hr.ty,fun N S hM hS=>.agg (hlen N S hM hS)⟩
 obtain⟨j,hj,rfl⟩:=bLJ hu
 simp only[bMO] at hj
 exact (hr.rep j _ _ (bKG Om) (by simp[Value.cells,hj])).2
theorem qF {H:Type} {enc:TypeId × Value→H} {P:Program} {W:World} {sp:Nat→Bool} {held:Bool} (num:Nat→FuncId) {t:TypeId} {v:Value} {d:DataW H} {ps:List MemPlace} {n:Nat} {ct:CT}
  (hv:v.cells=#[v]) (hd:DataW.Trod enc P W 0 sp held t v d ps) (hc:gS P n t=some [ct]):∃ pv,aW (Env.of W num) pv v∧PV.Ty ct pv∧∀ N S,sW P N S→S t d→PV.Len N pv:=by
 obtain⟨fuel,h⟩:=hd
 obtain⟨pvs,hr,hlen⟩:=aMC num fuel n t _ _ [ct] h hc
 rw[hv] at hr
 have hl:=hr.lp
 cases pvs with
 | nil=>simp at hl
 | cons pv rest=>exact⟨pv,(hr.rep 0 pv v rfl rfl).1,hr.ty 0 pv ct rfl rfl,fun N S hM hS=>hlen N S hM hS pv (by simp)⟩
section
variable {H:Type} {enc:TypeId × Value→H} {P:Program} {W:World} {sp:Nat→Bool} {held:Bool}
theorem bqU {r:Reach} {base:Nat} (num:Nat→FuncId) {t:TypeId} {v:Value} {d:DataW H} {ps:List MemPlace} {n:Nat} {a:AT}
  (bII:Value.okWide P W r base t v) (hd:DataW.Trod enc P W 0 sp held t v d ps) (ha:a3U P n t=some a):∃ pv,aW (Env.of W num) pv v∧AT.Ty a pv∧∀ N S,sW P N S→S t d→PV.Len N pv:=by
 unfold a3U at ha
 cases n with
 | zero =>
  split at ha
  ·rename_i hu
   cases ha
   obtain⟨b,rfl⟩:=okWide_bool hu bII
   obtain⟨pv,h1,h2,h9⟩:=qF (n:=1) (ct:=.bool) num (by simp[Value.cells]) hd (by simp[gS,hu])
   exact⟨pv,h1,.one h2,h9⟩
  ·rename_i k hu
   cases ha
   obtain⟨b,rfl⟩:=okWide_int hu bII
   obtain⟨pv,h1,h2,h9⟩:=qF (n:=1) (ct:=.int k) num (by simp[Value.cells]) hd (by simp[gS,hu])
   exact⟨pv,h1,.one h2,h9⟩
  ·rename_i hu
   cases ha
   obtain⟨b,rfl⟩:=okWide_string hu bII
   obtain⟨pv,h1,h2,h9⟩:=qF (n:=1) (ct:=.str) num (by simp[Value.cells]) hd (by simp[gS,hu])
   exact⟨pv,h1,.one h2,h9⟩
  ·simp[gS] at ha
  ·simp[gS] at ha
  ·cases ha
 | succ n =>
  split at ha
  ·rename_i hu
   cases ha
   obtain⟨b,rfl⟩:=okWide_bool hu bII
   obtain⟨pv,h1,h2,h9⟩:=qF (n:=n+1) (ct:=.bool) num (by simp[Value.cells]) hd (by simp[gS,hu])
   exact⟨pv,h1,.one h2,h9⟩
  ·rename_i k hu
   cases ha
   obtain⟨b,rfl⟩:=okWide_int hu bII
   obtain⟨pv,h1,h2,h9⟩:=qF (n:=n+1) (ct:=.int k) num (by simp[Value.cells]) hd (by simp[gS,hu])
   exact⟨pv,h1,.one h2,h9⟩
  ·rename_i hu
   cases ha
   obtain⟨b,rfl⟩:=okWide_string hu bII
   obtain⟨pv,h1,h2,h9⟩:=qF (n:=n+1) (ct:=.str) num (by simp[Value.cells]) hd (by simp[gS,hu])
   exact⟨pv,h1,.one h2,h9⟩
  ·rename_i e hu
   split at ha
   ·rename_i ct hc
    cases ha
    obtain⟨x,len,cap,rfl⟩:=okWide_slice hu bII
    obtain⟨pv,h1,h2,h9⟩:=qF num (by simp[Value.cells]) hd hc
    exact⟨pv,h1,.one h2,h9⟩
   ·cases ha
  ·rename_i fs hu
   rw[bKE] at ha
   obtain⟨cts,hc,rfl⟩:=ha
   obtain⟨pvs,h1,h2,h3,h9⟩:=aQG num hu bII hd hc
   exact⟨_,h1,.struct h2 h3,h9⟩
  ·cases ha
theorem aAQ {r:Reach} {base:Nat} (num:Nat→FuncId) {n:Nat}:∀ {ts:List TypeId} {vs:List Value} {ds:List (DataW H)} {ps:List MemPlace} {az:List AT},DataW.TrodAll enc P W 0 sp held ts vs ds ps →
  (∀ (j:Nat) t v,ts[j]?=some t→vs[j]?=some v→Value.okWide P W r base t v)→DT P n ts=some az→∃ pvs,eX (Env.of W num) pvs vs∧AT.TyL az pvs∧∀ N S,sW P N S→(∀ (j:Nat) t d,ts[j]?=some t→ds[j]?=some d→S t d)→∀ v∈pvs,PV.Len N v
 | [],[],_,_,az,_,_,h=>by
  simp[DT] at h
  subst h
  exact⟨[],.nil,trivial,fun _ _ _ _ v hv=>by cases hv⟩
 | [],_::_,_,_,_,h,_,_=>h.elim
 | _::_,[],[],_,_,h,_,_=>h.elim
 | _::_,[],_::_,_,_,h,_,_=>h.elim
 | _::_,_::_,[],_,_,h,_,_=>h.elim
 | t::ts,v::vs,d::ds,ps,az,h,hv,ha=>by
  obtain⟨p,q,h1,h2,rfl⟩:=h
  simp only[DT] at ha
  split at ha
  ·rename_i a as' e1 e2
   cases ha
   obtain⟨pv,r1,t1,l1⟩:=bqU num (hv 0 t v rfl rfl) h1 e1
   obtain⟨pvs,r2,t2,l2⟩:=aAQ num h2 (fun j t v a b=>hv (j+1) t v (by simpa using a) (by simpa using b)) e2
   exact⟨pv::pvs,.cons r1 r2,⟨t1,t2⟩,fun N S hM hS v hv=>by
    rcases bKI.1 hv with rfl | hv
    ·exact l1 N S hM (hS 0 t d rfl rfl)
    ·exact l2 N S hM (fun j t' d' a b=>hS (j+1) t' d' (by simpa using a) (by simpa using b)) v hv⟩
  ·cases ha
end
theorem axU {H:Type} {enc:TypeId × Value→H} {P:Program} {f:FuncId} {fn:Func} {s:ChangeSpec} {apart fresh handsOn:Bool} {bt:TypeId} {num:Nat→FuncId} {name n:Nat} {ats:List AT}
  (hl:laidOutB P=true) (hts:fn.params.toList.all (fun t=>P.readableRec t&&decide (t<P.types.size))=true) (hrt:fn.resultTypes=#[bt]) (hbt:P.underlying bt=some .bool) (hv:s.vars=[])
  (hs:∀ ds:List (DataW H),ds.length=fn.params.toList.length→(s.fn H ds).results=[.lit (.bool true)]∧(s.fn H ds).args=ds∧(s.fn H ds).vars=[])
  (hnum:num name=f) (ha:DT P n fn.params.toList=some ats) {N:Nat} {S:TypeId→DataW H→Prop} (hM:sW P N S) (h:∀ pvs,AT.TyL ats pvs→(∀ v∈pvs,PV.Len N v)→aI ⟨P,num⟩ name pvs PH.nil (aD (.bool true)))
  {W:World} {base:Nat} {args:Array Value} {ds gs:List (DataW H)} {before:List MemPlace}
  (bII:∀ (j:Nat) t v,fn.params[j]?=some t→args[j]?=some v→Value.okWide P W .any base t v) (hW:DataW.Whole enc P fn.params.toList s.vars apart W args.toList ds gs before) (hS:∀ (j:Nat) t d,fn.params.toList[j]?=some t→ds[j]?=some d→S t d) :
  Calls P f args W fun e W'=>∃ v,e=.returned v∧s.post enc P fn apart fresh handsOn false W args v W':=by
 have hts':∀ t∈fn.params.toList,P.readableRec t=true∧t<P.types.size:=fun t ht=>by
  have:=bKP.1 hts t ht
  simpa using this
 have hW':=hW
 obtain⟨p,q,hA,hV,rfl,hz,hn⟩:=hW
 rw[hv] at hV
 obtain⟨rfl,rfl⟩:=trodVars_none hV
 obtain⟨pvs,hr,ht,hlen9⟩:=aAQ num hA (fun j t v a b=>bII j t v (by simpa using a) (by simpa using b)) ha
 have hlen:=TrodAll.length hA
 subst hnum
 obtain⟨r1,r2,r3⟩:=hs (ds++[]) (by simpa using hlen)
 refine (bcT (C:=⟨P,num⟩) (h pvs ht (hlen9 N S hM hS)) hr).mono fun e W' he=>?_
 obtain⟨rfl,hb⟩:=he
 exact⟨_,rfl,bfJ hl hW' hb hts' hrt hbt hv r1 (by rw[r2]; simp) r3⟩
def uI (P:Program) (w:Nat):Nat→TypeId→Bool
 | 0,_=>false
 | n+1,t=>match P.underlying t with
  | some (.slice e)=>decide (w≤P.bytesOf e)&&uI P w n e
  | some (.struct fs)=>fs.toList.all fun g=>uI P w n g.type
  | some (.array _ e)=>uI P w n e
  | _=>true
def wtS {H:Type} (P:Program) (w:Nat) (t:TypeId) (d:DataW H):Prop:=(d.weights P t).all (·≤reachBytes)=true∧∃ n,uI P w n t=true
theorem vM {H:Type} {P:Program} {e:TypeId}:∀ {l:List (DataW H)},(DataW.weightsAll P e l).all (·≤reachBytes)=true→∀ d∈l,(d.weights P e).all (·≤reachBytes)=true
 | [],_,_,hd=>by cases hd
 | x::r,h,d,hd=>by
  rw[DataW.weightsAll,List.all_append,bKM] at h
  rcases bKI.1 hd with rfl | hd
  ·exact h.1
  ·exact vM h.2 d hd
theorem tQ {H:Type} {P:Program}:∀ {ts:List TypeId} {l:List (DataW H)},(DataW.weightsEach P ts l).all (·≤reachBytes)=true→∀ (j:Nat) t d,ts[j]?=some t→l[j]?=some d→(d.weights P t).all (·≤reachBytes)=true
 | [],_,_,j,t,d,a,_=>by simp at a
 | _::_,[],_,j,t,d,_,b=>by simp at b
 | t0::ts,x::r,h,j,t,d,a,b=>by
  rw[DataW.weightsEach,List.all_append,bKM] at h
  cases j with
  | zero=>simp at a b; subst a; subst b; exact h.1
  | succ j=>exact tQ h.2 j t d (by simpa using a) (by simpa using b)
theorem bvQ {H:Type} (P:Program) {w:Nat} (hw0:0<w):sW (H:=H) P (reachBytes/w) (wtS P w) where
 sl:=fun t e elems spare hu ⟨hw,n,hn⟩=>by
  cases n with
  | zero=>cases hn
  | succ n =>
   rw[uI,hu] at hn
   simp only[bKM,decide_eq_true_eq] at hn
   rw[DataW.weights,hu] at hw
   simp only[List.all_cons,List.all_append,bKM,decide_eq_true_eq] at hw
   refine⟨(Nat.le_div_iff_mul_le hw0).2 (bLV ?_ hw.1),fun d hd=>⟨vM hw.2.1 d hd,n,hn.2⟩⟩
   exact Nat.mul_le_mul (Nat.le_add_right _ _) hn.1
 st:=fun t fs parts hu ⟨hw,n,hn⟩ i g d hg hd=>by
  cases n with
  | zero=>cases hn
  | succ n =>
   rw[uI,hu] at hn
   rw[DataW.weights,hu] at hw
   refine⟨tQ hw i g.type d ?_ hd,n,bKP.1 hn g ?_⟩
   ·simp[hg]
   ·rw[Array.mem_toList_iff]; exact Array.mem_of_getElem? hg
 ar:=fun t k e parts hu ⟨hw,n,hn⟩ d hd=>by
  cases n with
  | zero=>cases hn
  | succ n =>
   rw[uI,hu] at hn
   rw[DataW.weights,hu] at hw
   exact⟨vM hw d hd,n,hn⟩
end Go.PM
