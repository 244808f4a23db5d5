/-
  Texts of ours, joined. No condition.
-/
import Derived.Test.YtkknafmijabgaaaGreatDoorFS1
import Derived.ProofKit
import Derived.OpenShut
set_option linter.unusedSimpArgs false
set_option linter.unusedVariables false
open Nat renaming reduceEqDiff → γ, reduceAdd → δ, reduceSub → ε, reduceMul → ζ, reduceLT → η, reduceLeDiff → θ, reduceBEq → τ
open Int renaming reduceLT → ι, reduceLE → κ, reduceEq → μ, reduceToNat → ν, reduceAdd → ξ, reduceNeg → ο, reduceBEq → ρ, reduceBNe → σ
open List renaming reduceReplicate → υ
open List renaming length_map → aGK, range → aGL, replicate → aGM, length_append → aGO, getElem_mem → aGP, length_singleton → aGR, getElem?_eq_getElem → aGS, mem_cons → aGV, length_take → aGY, take_of_length_le → aGZ, getElem?_map → aHF, mem_range → aHG, mem_map → aHJ, append_assoc → aHN, getElem?_eq_some_iff → aHP, mem_append → aHQ, map_cons → aHR, mem_singleton → aHU, take_length → aHV, drop_zero → aHW, append_nil → aHY, getElem?_eq_none → aHZ, all_eq_true → aIA, length_drop → aIE, length_cons → aIF, getElem_of_mem → aIH, mem_of_getElem? → aII, getElem?_append_right → aIJ, getElem?_append_left → aIK, getElem_map → aIN, length_set → aIO, take_succ_eq_append_getElem → aIR, length_nil → aIV, map_nil → aIW, drop_eq_getElem_cons → aIZ, take_append_drop → aJH, map_map → aJQ, ext_getElem → aJV, nil_append → aJX, getElem?_drop → aJZ, set_append_right → aKB, drop_of_length_le → aKG, length_replicate → aKK, getElem_append_right → aKL
open Nat renaming gcd → aGN, le_refl → aGQ, zero_le → aGW, mul_add → aGX, lt_or_ge → aHD, zero_add → aHE, mul_assoc → aHI, mul_comm → aHL, mul_le_mul_right → aHO, add_mul → aHT, mod_eq_of_lt → aIB, add_zero → aIC, mod_lt → aIG, pow_succ → aIL, eq_zero_or_pos → aIS, min_eq_left → aIT, succ_mul → aIX, add_assoc → aJB, le_trans → aJC, mul_le_mul_left → aJD, pos_of_ne_zero → aJE, pow_pos → aJL, div_eq_of_lt → aJR, div_le_self → aJS, div_lt_iff_lt_mul → aJT, mul_le_mul → aJU, div_add_mod → aKC
open Option renaming map_eq_some_iff → aGT, map_some → aHS, some → aIU, getD_some → aJF, bind_eq_some_iff → aKD, bind_some → aKE
open Bool renaming false_and → aHA, not_true → aHB, and_eq_true → aHC, true_and → aHK, not_false → aHM, and_false → aID, and_true → aIY
open Array renaming length_toList → aJM
open Int renaming toNat_natCast → aJN
namespace Go.PM
open Go
attribute [go_sem] List.getElem?_cons_succ List.getElem?_cons_zero and_self and_true true_and or_true true_or or_false false_or aHB aHM aHS aKE if_true if_false aIF aIV List.drop_succ_cons aHW List.take_succ_cons List.take_zero aHR aIW aIU.injEq PV.bool.injEq PV.int.injEq aO PV.bin
@[go_sem] theorem ayB (k:IntKind) (a b:Int):mF .add k a b=some (.int k (k.wrap (a+b))):=(rfl)
@[go_sem] theorem ayL (k:IntKind) (a b:Int):mF .sub k a b=some (.int k (k.wrap (a-b))):=(rfl)
@[go_sem] theorem ayH (k:IntKind) (a b:Int):mF .mul k a b=some (.int k (k.wrap (a*b))):=(rfl)
@[go_sem] theorem ayJ (k:IntKind) (a b:Int):mF .quo k a b=if b=0 then none else some (.int k (k.wrap (a.tdiv b))):=(rfl)
@[go_sem] theorem ayK (k:IntKind) (a b:Int):mF .rem k a b=if b=0 then none else some (.int k (a.tmod b)):=(rfl)
@[go_sem] theorem ayC (k:IntKind) (a b:Int):mF .eql k a b=some (.bool (a==b)):=(rfl)
@[go_sem] theorem ayI (k:IntKind) (a b:Int):mF .neq k a b=some (.bool (a != b)):=(rfl)
@[go_sem] theorem ayG (k:IntKind) (a b:Int):mF .lss k a b=some (.bool (decide (a<b))):=(rfl)
@[go_sem] theorem ayF (k:IntKind) (a b:Int):mF .leq k a b=some (.bool (decide (a≤b))):=(rfl)
@[go_sem] theorem ayE (k:IntKind) (a b:Int):mF .gtr k a b=some (.bool (decide (a>b))):=(rfl)
@[go_sem] theorem ayD (k:IntKind) (a b:Int):mF .geq k a b=some (.bool (decide (a≥b))):=(rfl)
section
variable {C:Ctx} {K:cG} {F:PF} {H:PH}
@[go_sem] theorem aCZ:aE.wp C .skip K F H=K .normal F H:=(rfl)
@[go_sem] theorem azY (ops:List aW):aE.wp C (.region ops) K F H=wpOps C ops (K .normal) F H:=(rfl)
@[go_sem] theorem nv (a b:aE):aE.wp C (.seq a b) K F H=a.wp C (kL C (b.wp C) K) F H:=(rfl)
@[go_sem] theorem aBH (id:Nat) (c:aE):aE.wp C (.block id c) K F H=c.wp C (fF id K) F H:=(rfl)
@[go_sem] theorem aCY (id:Nat):aE.wp C (.exit id) K F H=K (.exit id) F H:=(rfl)
@[go_sem] theorem aDK:aE.wp C .ret K F H=K .ret F H:=(rfl)
def RY (C:Ctx) (v:Option PV) (a b:aE) (K:cG) (F:PF) (H:PH):Prop :=
 match v with
 | some (.bool t)=>if t then a.wp C K F H else b.wp C K F H
 | _=>False
@[go_sem] theorem aoJ (c:aN) (a b:aE):aE.wp C (.cond c a b) K F H=RY C (c.ev F) a b K F H:=(rfl)
@[go_sem] theorem ayQ (a b:aE):RY C (some (.bool true)) a b K F H=a.wp C K F H:=(rfl)
@[go_sem] theorem axB (a b:aE):RY C (some (.bool false)) a b K F H=b.wp C K F H:=(rfl)
theorem ahG {t:Bool} {a b:aE} (e:t=true→a.wp C K F H) (j:t=false→b.wp C K F H):RY C (some (.bool t)) a b K F H:=by
 cases t
 ·exact j rfl
 ·exact e rfl
@[go_sem] theorem axJ (w:cG→PF→PH→Prop):kL C w K .normal F H=w K F H:=(rfl)
@[go_sem] theorem awO (w:cG→PF→PH→Prop):kL C w K .normal=w K:=(rfl)
@[go_sem] theorem aAU (w:cG→PF→PH→Prop) (id:Nat):kL C w K (.exit id)=K (.exit id):=(rfl)
@[go_sem] theorem aCN (w:cG→PF→PH→Prop):kL C w K .ret=K .ret:=(rfl)
@[go_sem] theorem auR (id:Nat):fF id K .normal=K .normal:=(rfl)
@[go_sem] theorem ayO (id:Nat):fF id K .ret=K .ret:=(rfl)
@[go_sem] theorem CZ (id e:Nat):fF id K (.exit e) F H=if e=id then K .normal F H else K (.exit e) F H:=(rfl)
@[go_sem] theorem azW (K:PF→PH→Prop):wpOps C [] K F H=K F H:=(rfl)
@[go_sem] theorem azX (d:Option Nat) (op:POp) (e:List aW) (K:PF→PH→Prop):wpOps C (⟨d,op,none⟩::e) K F H=wpOp C op d (wpOps C e K) F H:=(rfl)
def xE (C:Ctx) (v:Option PV) (j:Bool) (op:POp) (d:Option Nat) (e:List aW) (K:PF→PH→Prop) (F:PF) (H:PH):Prop :=
 match v with
 | some (.bool b)=>if b=j then wpOp C op d (wpOps C e K) F H else wpOps C e K (F.put d (.tup [])) H
 | some (.tup [])=>wpOps C e K (F.put d (.tup [])) H
 | _=>False
@[go_sem] theorem Oo (d:Option Nat) (op:POp) (t:Nat) (j:Bool) (e:List aW) (K:PF→PH→Prop) :
  wpOps C (⟨d,op,some (t,j)⟩::e) K F H=xE C (F t) j op d e K F H:=(rfl)
@[go_sem] theorem aAQ (op:POp) (d:Option Nat) (e:List aW) (K:PF→PH→Prop):xE C (some (.bool true)) true op d e K F H=wpOp C op d (wpOps C e K) F H:=(rfl)
@[go_sem] theorem aAN (op:POp) (d:Option Nat) (e:List aW) (K:PF→PH→Prop):xE C (some (.bool false)) false op d e K F H=wpOp C op d (wpOps C e K) F H:=(rfl)
@[go_sem] theorem aAP (op:POp) (d:Option Nat) (e:List aW) (K:PF→PH→Prop):xE C (some (.bool true)) false op d e K F H=wpOps C e K (F.put d (.tup [])) H:=(rfl)
@[go_sem] theorem aAO (op:POp) (d:Option Nat) (e:List aW) (K:PF→PH→Prop):xE C (some (.bool false)) true op d e K F H=wpOps C e K (F.put d (.tup [])) H:=(rfl)
@[go_sem] theorem axG (j:Bool) (op:POp) (d:Option Nat) (e:List aW) (K:PF→PH→Prop):xE C (some (.tup [])) j op d e K F H=wpOps C e K (F.put d (.tup [])) H:=(rfl)
@[go_sem] theorem aCJ (d:Nat) (v:PV):F.put (some d) v=F.set d v:=(rfl)
@[go_sem] theorem aCI (v:PV):F.put none v=F:=(rfl)
@[go_sem] theorem mR (i j:Nat) (v:PV):(F.set i v) j=if j=i then some v else F j:=(rfl)
@[go_sem] theorem args_at (vs:List PV) (i:Nat):PF.args vs i=vs[i]?:=(rfl)
@[go_sem] theorem aDP (i:Nat):PF.nil i=none:=(rfl)
@[go_sem] theorem bw (t:Nat):(aN.tmp t).ev F=F t:=(rfl)
@[go_sem] theorem aBW (v:PV):(aN.const v).ev F=some v:=(rfl)
@[go_sem] theorem aP (i j:Nat) (x:bG):(H.set i x) j=if j=i then some x else H j:=(rfl)
@[go_sem] theorem ku (i:Nat):PH.nil i=none:=(rfl)
@[go_sem] theorem SC:aN.evs F []=some []:=(rfl)
@[go_sem] theorem AG (x:aN) (xs:List aN):aN.evs F (x::xs)=(match x.ev F,aN.evs F xs with | some v,some vs=>some (v::vs) | _,_=>none):=(rfl)
theorem jH {i j:Nat} {x:bG}:(H.set i x) j=none↔j≠i∧H j=none:=by
 rw[aP];split<;>simp_all
@[go_sem] theorem axK (v:PV) (d:Option Nat) (K:PF→PH→Prop):bS (some v) d K F H=K (F.put d v) H:=by
 simp[bS]
theorem aQ {e:Nat→PV} {x:bG} {d:Option Nat} {K:PF→PH→Prop} (h:∀ o,H o=none→K (F.put d (e o)) (H.set o x)):nM (some (e,x)) d K F H:=⟨e,x,rfl,h⟩
@[go_sem] theorem aDI (x:aN) (d:Option Nat) (K:PF→PH→Prop):wpOp C (.mv x) d K F H=bS (aO (.mv x) F H) d K F H:=(rfl)
@[go_sem] theorem aBG (x:aN) (d:Option Nat) (K:PF→PH→Prop):wpOp C (.same x) d K F H=bS (aO (.same x) F H) d K F H:=(rfl)
@[go_sem] theorem aBF (c a b:aN) (d:Option Nat) (K:PF→PH→Prop):wpOp C (.pick c a b) d K F H=bS (aO (.pick c a b) F H) d K F H:=(rfl)
@[go_sem] theorem aCT (o:BinOp) (x y:aN) (d:Option Nat) (K:PF→PH→Prop):wpOp C (.bin o x y) d K F H=bS (aO (.bin o x y) F H) d K F H:=(rfl)
@[go_sem] theorem aCV (n:Bool) (x y:aN) (d:Option Nat) (K:PF→PH→Prop):wpOp C (.eqb n x y) d K F H=bS (aO (.eqb n x y) F H) d K F H:=(rfl)
@[go_sem] theorem aCW (n:Bool) (e:List Sc) (x y:aN) (d:Option Nat) (K:PF→PH→Prop):wpOp C (.eqs n e x y) d K F H=bS (aO (.eqs n e x y) F H) d K F H:=(rfl)
@[go_sem] theorem aDJ (o:UnOp) (x:aN) (d:Option Nat) (K:PF→PH→Prop):wpOp C (.un o x) d K F H=bS (aO (.un o x) F H) d K F H:=(rfl)
@[go_sem] theorem aAY (k:IntKind) (x:aN) (d:Option Nat) (K:PF→PH→Prop):wpOp C (.conv k x) d K F H=bS (aO (.conv k x) F H) d K F H:=(rfl)
@[go_sem] theorem azP (z:List PV) (ps:List (Nat × Nat × aN)) (d:Option Nat) (K:PF→PH→Prop):wpOp C (.build z ps) d K F H=bS (aO (.build z ps) F H) d K F H:=(rfl)
@[go_sem] theorem aBD (n:Option Nat) (p:aN) (d:Option Nat) (K:PF→PH→Prop):wpOp C (.load n p) d K F H=bS (aO (.load n p) F H) d K F H:=(rfl)
@[go_sem] theorem axV (x:aN) (d:Option Nat) (K:PF→PH→Prop):wpOp C (.aFK x) d K F H=bS (aO (.aFK x) F H) d K F H:=(rfl)
@[go_sem] theorem axO (e:Nat) (x:aN) (d:Option Nat) (K:PF→PH→Prop):wpOp C (.aGB e x) d K F H=bS (aO (.aGB e x) F H) d K F H:=(rfl)
@[go_sem] theorem azR (e:Nat) (n:Option Nat) (x:aN) (d:Option Nat) (K:PF→PH→Prop):wpOp C (.field e n x) d K F H=bS (aO (.field e n x) F H) d K F H:=(rfl)
@[go_sem] theorem aBA (s:Nat) (x i:aN) (d:Option Nat) (K:PF→PH→Prop):wpOp C (.aFO s x i) d K F H=bS (aO (.aFO s x i) F H) d K F H:=(rfl)
@[go_sem] theorem aAZ (n s:Nat) (x i:aN) (d:Option Nat) (K:PF→PH→Prop):wpOp C (.idxA n s x i) d K F H=bS (aO (.idxA n s x i) F H) d K F H:=(rfl)
@[go_sem] theorem aBB (n s:Nat) (g:Bool) (x i:aN) (d:Option Nat) (K:PF→PH→Prop):wpOp C (.idxV n s g x i) d K F H=bS (aO (.idxV n s g x i) F H) d K F H:=(rfl)
@[go_sem] theorem axP (x i:aN) (d:Option Nat) (K:PF→PH→Prop):wpOp C (.aFZ x i) d K F H=bS (aO (.aFZ x i) F H) d K F H:=(rfl)
@[go_sem] theorem azU (s:Nat) (x:aN) (lo hi mx:Option aN) (d:Option Nat) (K:PF→PH→Prop):wpOp C (.slice s x lo hi mx) d K F H=bS (aO (.slice s x lo hi mx) F H) d K F H:=(rfl)
@[go_sem] theorem axW (n s:Nat) (x:aN) (lo hi mx:Option aN) (d:Option Nat) (K:PF→PH→Prop):wpOp C (.sliceA n s x lo hi mx) d K F H=bS (aO (.sliceA n s x lo hi mx) F H) d K F H:=(rfl)
@[go_sem] theorem auU (x:aN) (lo hi:Option aN) (d:Option Nat) (K:PF→PH→Prop):wpOp C (.aFU x lo hi) d K F H=bS (aO (.aFU x lo hi) F H) d K F H:=(rfl)
@[go_sem] theorem aAR:PV.uD .aA=some (.int .i64 0):=(rfl)
@[go_sem] theorem aDH (s:Nat) (rows:List (List PV)):PV.uD (.sl s rows)=some (.int .i64 rows.length):=(rfl)
@[go_sem] theorem aCE (o s e n:Nat):PV.uD (.osl o s e n)=some (.int .i64 n):=(rfl)
@[go_sem] theorem aCX (x:aN) (d:Option Nat) (K:PF→PH→Prop):wpOp C (.len x) d K F H=bS (aO (.len x) F H) d K F H:=(rfl)
@[go_sem] theorem axR (x:aN) (d:Option Nat) (K:PF→PH→Prop):wpOp C (.aFY x) d K F H=bS (aO (.aFY x) F H) d K F H:=(rfl)
@[go_sem] theorem aBC (x:aN) (d:Option Nat) (K:PF→PH→Prop):wpOp C (.lenM x) d K F H=bS (aO (.lenM x) F H) d K F H:=(rfl)
@[go_sem] theorem azS (n:Bool) (x:aN) (d:Option Nat) (K:PF→PH→Prop):wpOp C (.isNil n x) d K F H=bS (aO (.isNil n x) F H) d K F H:=(rfl)
@[go_sem] theorem axI:PV.GG .aA=some true:=(rfl)
@[go_sem] theorem azD (o s e len:Nat):PV.GG (.osl o s e len)=some false:=(rfl)
@[go_sem] theorem axH (s:Nat) (r:List PV) (rs:List (List PV)):PV.GG (.sl s (r::rs))=some false:=(rfl)
@[go_sem] theorem axN (x:aN) (d:Option Nat) (K:PF→PH→Prop):wpOp C (.aGJ x) d K F H=bS (aO (.aGJ x) F H) d K F H:=(rfl)
@[go_sem] theorem awY (x:aN) (i:Nat) (d:Option Nat) (K:PF→PH→Prop):wpOp C (.extract x i) d K F H=bS (aO (.extract x i) F H) d K F H:=(rfl)
@[go_sem] theorem axU (m:Bool) (x y:aN) (d:Option Nat) (K:PF→PH→Prop):wpOp C (.aFS m x y) d K F H=bS (aO (.aFS m x y) F H) d K F H:=(rfl)
@[go_sem] theorem aBE (n:Nat) (cs:List aN) (d:Option Nat) (K:PF→PH→Prop):wpOp C (.mkfn n cs) d K F H=bS (aO (.mkfn n cs) F H) d K F H:=(rfl)
@[go_sem] theorem axS (sh:MSh) (z:PV) (x k:aN) (ok:Bool) (d:Option Nat) (K:PF→PH→Prop):wpOp C (.lookup sh z x k ok) d K F H=bS (aO (.lookup sh z x k ok) F H) d K F H:=(rfl)
@[go_sem] theorem auQ (x:aN) (d:Option Nat) (K:PF→PH→Prop):wpOp C (.aFL x) d K F H=bS (aO (.aFL x) F H) d K F H:=(rfl)
@[go_sem] theorem aAW (x:aN) (d:Option Nat) (K:PF→PH→Prop):wpOp C (.box true x) d K F H=bS (aO (.box true x) F H) d K F H:=(rfl)
@[go_sem] theorem awX (s l:Nat) (z:List PV) (ps:List (Nat × aN)) (d:Option Nat) (K:PF→PH→Prop):wpOp C (.aFC true s l z ps) d K F H=bS (aO (.aFC true s l z ps) F H) d K F H:=(rfl)
@[go_sem] theorem azO (cs:List PV) (d:Option Nat) (K:PF→PH→Prop):wpOp C (.alloc cs) d K F H=nM (cX (.alloc cs) F) d K F H:=(rfl)
@[go_sem] theorem awZ (s b:Nat) (z:List PV) (l c:aN) (d:Option Nat) (K:PF→PH→Prop):wpOp C (.aFF s b z l c) d K F H=nM (cX (.aFF s b z l c) F) d K F H:=(rfl)
@[go_sem] theorem azT (sh:MSh) (d:Option Nat) (K:PF→PH→Prop):wpOp C (.aGF sh) d K F H=nM (cX (.aGF sh) F) d K F H:=(rfl)
@[go_sem] theorem aCU (x:aN) (d:Option Nat) (K:PF→PH→Prop):wpOp C (.box false x) d K F H=nM (cX (.box false x) F) d K F H:=(rfl)
@[go_sem] theorem axM (s l:Nat) (z:List PV) (ps:List (Nat × aN)) (d:Option Nat) (K:PF→PH→Prop):wpOp C (.aFC false s l z ps) d K F H=nM (cX (.aFC false s l z ps) F) d K F H:=(rfl)
@[go_sem] theorem azV (n:Nat) (p x:aN) (d:Option Nat) (K:PF→PH→Prop):wpOp C (.store n p x) d K F H=bZ (.store n p x) F H (fun r H'=>K (F.put d r) H'):=(rfl)
@[go_sem] theorem axL (s b:Nat) (x y:aN) (d:Option Nat) (K:PF→PH→Prop):wpOp C (.append s b x y) d K F H=bZ (.append s b x y) F H (fun r H'=>K (F.put d r) H'):=(rfl)
@[go_sem] theorem axT (sh:MSh) (x k v:aN) (d:Option Nat) (K:PF→PH→Prop):wpOp C (.aFP sh x k v) d K F H=bZ (.aFP sh x k v) F H (fun r H'=>K (F.put d r) H'):=(rfl)
@[go_sem] theorem axQ (sh:MSh) (x k v:aN) (d:Option Nat) (K:PF→PH→Prop):wpOp C (.insert sh x k v) d K F H=bZ (.insert sh x k v) F H (fun r H'=>K (F.put d r) H'):=(rfl)
@[go_sem] theorem aAX (n:Nat) (e:List aN) (d:Option Nat) (K:PF→PH→Prop):wpOp C (.call n e) d K F H=gA C n e [] d K F H:=(rfl)
@[go_sem] theorem azQ (x:aN) (e:List aN) (d:Option Nat) (K:PF→PH→Prop):wpOp C (.aGA x e) d K F H=wB C (x.ev F) e d K F H:=(rfl)
@[go_sem] theorem azN (n:Nat) (cs:List PV) (e:List aN) (d:Option Nat) (K:PF→PH→Prop):wB C (some (.fn n cs)) e d K F H=gA C n e cs d K F H:=(rfl)
theorem PF.nil_le:PF.nil.le F:=fun _ _ h=>(by cases h)
abbrev d_:=@PF.nil_le
theorem PF.aF {i:Nat} {v:PV} {G:PF} (w:F.le G) (x:G i=some v):(F.set i v).le G:=by
 intro j u l;rw[mR] at l;split at l
 ·rename_i e; subst e; cases l; exact x
 ·exact w _ _ l
abbrev c_:=@PF.aF
theorem PF.le_refl:F.le F:=fun _ _ h=>h
theorem PH.nil_le:PH.nil.le H:=fun _ _ h=>(by cases h)
abbrev a_:=@PH.nil_le
theorem PH.aF {i:Nat} {x:bG} {G:PH} (w:H.le G) (y:G i=some x):(H.set i x).le G:=by
 intro j u l;rw[aP] at l;split at l
 ·rename_i e; subst e; cases l; exact y
 ·exact w _ _ l
abbrev e_:=@PH.aF
theorem PH.le_refl:H.le H:=fun _ _ h=>h
abbrev b_:=@PH.le_refl
theorem wp_loop {c:aE} {α:Type} (e:α→PF) (Hs:α→PH) (j:α→Prop) (m:α→Nat) (l:α) (u:j l) (w:(e l).le F) (x:(Hs l).le H)
  (hb:∀ a,j a→c.wp C (jE e Hs j m (m a) K) (e a) (Hs a)):aE.wp C (.loop c) K F H :=
 ⟨α,e,Hs,j,m,l,F,H,.refl F H,u,w,x,hb⟩
theorem aH {α:Type} {e:α→PF} {Hs:α→PH} {j:α→Prop} {m:α→Nat} {n:Nat} (a:α) (l:j a) (x:m a<n) (u:(e a).le F) (w:(Hs a).le H):jE e Hs j m n K .normal F H :=
 ⟨a,F,H,.refl F H,l,x,u,w⟩
@[go_sem] theorem azG {α:Type} {e:α→PF} {Hs:α→PH} {j:α→Prop} {m:α→Nat} {n:Nat} (id:Nat):jE e Hs j m n K (.exit id)=K (.exit id):=(rfl)
@[go_sem] theorem aAS {α:Type} {e:α→PF} {Hs:α→PH} {j:α→Prop} {m:α→Nat} {n:Nat}:jE e Hs j m n K .ret=K .ret:=(rfl)
def aM (v:PV) (r:PV) (H:PH):Prop:=r=v∧H=PH.nil
theorem PH.kW:H.over .nil .nil=H:=PH.ext fun o=>rfl
theorem On {name:Nat} {vs cs:List PV} {v:PV} {args:List aN} {d:Option Nat} {K:PF→PH→Prop} (h:aG C name (vs++cs) .nil (aM v)) (e:aN.evs F args=some vs)
  (j:K (F.put d v) H):gA C name args cs d K F H:=by
 refine .inl ⟨vs++cs,.nil,_,by rw[e]; rfl,a_,h,?_⟩;rintro r H' ⟨rfl,rfl⟩ _;rw[PH.kW];exact j
theorem aB {name:Nat} {vs:List PV} {v:PV} {args:List aN} {d:Option Nat} {K:PF→PH→Prop} (h:aG C name vs .nil (aM v)) (e:aN.evs F args=some vs)
  (j:K (F.put d v) H):gA C name args [] d K F H:=On (cs:=[]) (by rw[aHY]; exact h) e j
theorem cE {res:List dW} {vs:List PV} {v:PV} {e:kE} (he:e=.normal∨e=.ret) (h:dW.evs F H res=some vs) (x:cZ vs=v):aT res (aM v) e F H:=by
 have j:∃ vs,dW.evs F H res=some vs∧∃ l w H2,jF (PF.nil.set 0 (cZ vs)) H l w∧H2.le w∧∃ u,l 0=some u∧aM v u H2 :=
  ⟨vs,h,_,H,.nil,.refl _ _,a_,v,by rw[mR,if_pos rfl,x],rfl,rfl⟩
 rcases he with rfl | rfl<;>exact j
@[go_sem] theorem pH:dW.evs F H []=some []:=(rfl)
@[go_sem] theorem kY (x:dW) (xs:List dW):dW.evs F H (x::xs)=(match x.ev F H,dW.evs F H xs with | some v,some vs=>some (v::vs) | _,_=>none):=(rfl)
@[go_sem] theorem oJ (t:Nat):dW.ev F H (.tmp t)=F t:=(rfl)
@[go_sem] theorem aCL (t:Nat):dW.ev F H (.cell t none)=(match F t with | some p=>(match loadCells H p 1 with | some [v]=>some v | _=>none) | none=>none):=(rfl)
@[go_sem] theorem aAT (t k:Nat):dW.ev F H (.cell t (some k))=(match F t with | some p=>(loadCells H p k).map .agg | none=>none):=(rfl)
end
section
variable {C:Ctx} {K:cG} {F:PF} {H Hs:PH} {S:Spec}
theorem bP {ops:List (aW × Bool)} (Hs:PH) (S:Spec) (e:Hs.le H) (h:wpD C Hs S ops (K .normal) F H):aE.wp C (.draw ops) K F H:=⟨Hs,S,e,h⟩
def dD:Spec:=fun _ _=>none
def dOp (C:Ctx) (Hs:PH) (S:Spec) (st:Bool) (op:POp) (d:Option Nat) (K:PF→PH→Prop) (F:PF) (H:PH):Prop:=(op.kind F).run C Hs S st (fun v H'=>K (F.put d v) H') H
@[go_sem] theorem aCR (K:PF→PH→Prop):wpD C Hs S [] K F H=K F H:=(rfl)
@[go_sem] theorem aCS (d:Option Nat) (op:POp) (st:Bool) (e:List (aW × Bool)) (K:PF→PH→Prop):wpD C Hs S ((⟨d,op,none⟩,st)::e) K F H=dOp C Hs S st op d (wpD C Hs S e K) F H:=(rfl)
def AN (C:Ctx) (Hs:PH) (S:Spec) (v:Option PV) (j st:Bool) (op:POp) (d:Option Nat) (e:List (aW × Bool)) (K:PF→PH→Prop) (F:PF) (H:PH):Prop :=
 match v with
 | some (.bool b)=>if b=j then dOp C Hs S st op d (wpD C Hs S e K) F H else wpD C Hs S e K (F.put d (.tup [])) H
 | some (.tup [])=>wpD C Hs S e K (F.put d (.tup [])) H
 | _=>False
@[go_sem] theorem aAV (d:Option Nat) (op:POp) (t:Nat) (e st:Bool) (j:List (aW × Bool)) (K:PF→PH→Prop) :
  wpD C Hs S ((⟨d,op,some (t,e)⟩,st)::j) K F H=AN C Hs S (F t) e st op d j K F H:=by
 have l:wpD C Hs S ((⟨d,op,some (t,e)⟩,st)::j) K F H=((⟨d,op,some (t,e)⟩:aW).kind F).run C Hs S st (fun v H'=>wpD C Hs S j K (F.put d v) H') H:=(rfl);rw[l];unfold aW.kind AN;simp only;cases F t with
 | none=>rfl
 | some v =>
  cases v
  case bool b =>
   simp only;by_cases hb:b=e
   ·rw[if_pos hb,if_pos hb]; rfl
   ·rw[if_neg hb,if_neg hb]; simp[Kind.run]
  case tup vs=>cases vs<;>simp[Kind.run]
  all_goals rfl
@[go_sem] theorem aAM (op:POp) (st:Bool) (d:Option Nat) (e:List (aW × Bool)) (K:PF→PH→Prop):AN C Hs S (some (.bool true)) true st op d e K F H=dOp C Hs S st op d (wpD C Hs S e K) F H:=(rfl)
@[go_sem] theorem aAJ (op:POp) (st:Bool) (d:Option Nat) (e:List (aW × Bool)) (K:PF→PH→Prop):AN C Hs S (some (.bool false)) false st op d e K F H=dOp C Hs S st op d (wpD C Hs S e K) F H:=(rfl)
@[go_sem] theorem aAL (op:POp) (st:Bool) (d:Option Nat) (e:List (aW × Bool)) (K:PF→PH→Prop):AN C Hs S (some (.bool true)) false st op d e K F H=wpD C Hs S e K (F.put d (.tup [])) H:=(rfl)
@[go_sem] theorem aAK (op:POp) (st:Bool) (d:Option Nat) (e:List (aW × Bool)) (K:PF→PH→Prop):AN C Hs S (some (.bool false)) true st op d e K F H=wpD C Hs S e K (F.put d (.tup [])) H:=(rfl)
@[go_sem] theorem axF (j:Bool) (op:POp) (st:Bool) (d:Option Nat) (e:List (aW × Bool)) (K:PF→PH→Prop):AN C Hs S (some (.tup [])) j st op d e K F H=wpD C Hs S e K (F.put d (.tup [])) H:=(rfl)
@[go_sem] theorem aDL (x:aN) (st:Bool) (d:Option Nat) (K:PF→PH→Prop):dOp C Hs S st (.mv x) d K F H=bS (aO (.mv x) F (if st then Hs else H)) d K F H:=(rfl)
@[go_sem] theorem aBV (x:aN) (st:Bool) (d:Option Nat) (K:PF→PH→Prop):dOp C Hs S st (.same x) d K F H=bS (aO (.same x) F (if st then Hs else H)) d K F H:=(rfl)
@[go_sem] theorem aBU (c a b:aN) (st:Bool) (d:Option Nat) (K:PF→PH→Prop):dOp C Hs S st (.pick c a b) d K F H=bS (aO (.pick c a b) F (if st then Hs else H)) d K F H:=(rfl)
@[go_sem] theorem aDA (o:BinOp) (x y:aN) (st:Bool) (d:Option Nat) (K:PF→PH→Prop):dOp C Hs S st (.bin o x y) d K F H=bS (aO (.bin o x y) F (if st then Hs else H)) d K F H:=(rfl)
@[go_sem] theorem aDC (n:Bool) (x y:aN) (st:Bool) (d:Option Nat) (K:PF→PH→Prop):dOp C Hs S st (.eqb n x y) d K F H=bS (aO (.eqb n x y) F (if st then Hs else H)) d K F H:=(rfl)
@[go_sem] theorem aDD (n:Bool) (e:List Sc) (x y:aN) (st:Bool) (d:Option Nat) (K:PF→PH→Prop):dOp C Hs S st (.eqs n e x y) d K F H=bS (aO (.eqs n e x y) F (if st then Hs else H)) d K F H:=(rfl)
@[go_sem] theorem aDM (o:UnOp) (x:aN) (st:Bool) (d:Option Nat) (K:PF→PH→Prop):dOp C Hs S st (.un o x) d K F H=bS (aO (.un o x) F (if st then Hs else H)) d K F H:=(rfl)
@[go_sem] theorem aBN (k:IntKind) (x:aN) (st:Bool) (d:Option Nat) (K:PF→PH→Prop):dOp C Hs S st (.conv k x) d K F H=bS (aO (.conv k x) F (if st then Hs else H)) d K F H:=(rfl)
@[go_sem] theorem aAA (z:List PV) (ps:List (Nat × Nat × aN)) (st:Bool) (d:Option Nat) (K:PF→PH→Prop):dOp C Hs S st (.build z ps) d K F H=bS (aO (.build z ps) F (if st then Hs else H)) d K F H:=(rfl)
@[go_sem] theorem aBS (n:Option Nat) (p:aN) (st:Bool) (d:Option Nat) (K:PF→PH→Prop):dOp C Hs S st (.load n p) d K F H=bS (aO (.load n p) F (if st then Hs else H)) d K F H:=(rfl)
@[go_sem] theorem azA (x:aN) (st:Bool) (d:Option Nat) (K:PF→PH→Prop):dOp C Hs S st (.aFK x) d K F H=bS (aO (.aFK x) F (if st then Hs else H)) d K F H:=(rfl)
@[go_sem] theorem ayU (e:Nat) (x:aN) (st:Bool) (d:Option Nat) (K:PF→PH→Prop):dOp C Hs S st (.aGB e x) d K F H=bS (aO (.aGB e x) F (if st then Hs else H)) d K F H:=(rfl)
@[go_sem] theorem aAB (e:Nat) (n:Option Nat) (x:aN) (st:Bool) (d:Option Nat) (K:PF→PH→Prop):dOp C Hs S st (.field e n x) d K F H=bS (aO (.field e n x) F (if st then Hs else H)) d K F H:=(rfl)
@[go_sem] theorem aBP (s:Nat) (x i:aN) (st:Bool) (d:Option Nat) (K:PF→PH→Prop):dOp C Hs S st (.aFO s x i) d K F H=bS (aO (.aFO s x i) F (if st then Hs else H)) d K F H:=(rfl)
@[go_sem] theorem aBO (n s:Nat) (x i:aN) (st:Bool) (d:Option Nat) (K:PF→PH→Prop):dOp C Hs S st (.idxA n s x i) d K F H=bS (aO (.idxA n s x i) F (if st then Hs else H)) d K F H:=(rfl)
@[go_sem] theorem aBQ (n s:Nat) (g:Bool) (x i:aN) (st:Bool) (d:Option Nat) (K:PF→PH→Prop):dOp C Hs S st (.idxV n s g x i) d K F H=bS (aO (.idxV n s g x i) F (if st then Hs else H)) d K F H:=(rfl)
@[go_sem] theorem ayV (x i:aN) (st:Bool) (d:Option Nat) (K:PF→PH→Prop):dOp C Hs S st (.aFZ x i) d K F H=bS (aO (.aFZ x i) F (if st then Hs else H)) d K F H:=(rfl)
@[go_sem] theorem aAE (s:Nat) (x:aN) (lo hi mx:Option aN) (st:Bool) (d:Option Nat) (K:PF→PH→Prop):dOp C Hs S st (.slice s x lo hi mx) d K F H=bS (aO (.slice s x lo hi mx) F (if st then Hs else H)) d K F H:=(rfl)
@[go_sem] theorem avR (x:aN) (lo hi:Option aN) (st:Bool) (d:Option Nat) (K:PF→PH→Prop):dOp C Hs S st (.aFU x lo hi) d K F H=bS (aO (.aFU x lo hi) F (if st then Hs else H)) d K F H:=(rfl)
@[go_sem] theorem aDE (x:aN) (st:Bool) (d:Option Nat) (K:PF→PH→Prop):dOp C Hs S st (.len x) d K F H=bS (aO (.len x) F (if st then Hs else H)) d K F H:=(rfl)
@[go_sem] theorem ayW (x:aN) (st:Bool) (d:Option Nat) (K:PF→PH→Prop):dOp C Hs S st (.aFY x) d K F H=bS (aO (.aFY x) F (if st then Hs else H)) d K F H:=(rfl)
@[go_sem] theorem aBR (x:aN) (st:Bool) (d:Option Nat) (K:PF→PH→Prop):dOp C Hs S st (.lenM x) d K F H=bS (aO (.lenM x) F (if st then Hs else H)) d K F H:=(rfl)
@[go_sem] theorem aAC (n:Bool) (x:aN) (st:Bool) (d:Option Nat) (K:PF→PH→Prop):dOp C Hs S st (.isNil n x) d K F H=bS (aO (.isNil n x) F (if st then Hs else H)) d K F H:=(rfl)
@[go_sem] theorem ayT (x:aN) (st:Bool) (d:Option Nat) (K:PF→PH→Prop):dOp C Hs S st (.aGJ x) d K F H=bS (aO (.aGJ x) F (if st then Hs else H)) d K F H:=(rfl)
@[go_sem] theorem axD (x:aN) (i:Nat) (st:Bool) (d:Option Nat) (K:PF→PH→Prop):dOp C Hs S st (.extract x i) d K F H=bS (aO (.extract x i) F (if st then Hs else H)) d K F H:=(rfl)
@[go_sem] theorem ayZ (m:Bool) (x y:aN) (st:Bool) (d:Option Nat) (K:PF→PH→Prop):dOp C Hs S st (.aFS m x y) d K F H=bS (aO (.aFS m x y) F (if st then Hs else H)) d K F H:=(rfl)
@[go_sem] theorem aBT (n:Nat) (cs:List aN) (st:Bool) (d:Option Nat) (K:PF→PH→Prop):dOp C Hs S st (.mkfn n cs) d K F H=bS (aO (.mkfn n cs) F (if st then Hs else H)) d K F H:=(rfl)
@[go_sem] theorem ayX (sh:MSh) (z:PV) (x k:aN) (ok:Bool) (st:Bool) (d:Option Nat) (K:PF→PH→Prop):dOp C Hs S st (.lookup sh z x k ok) d K F H=bS (aO (.lookup sh z x k ok) F (if st then Hs else H)) d K F H:=(rfl)
@[go_sem] theorem auT (x:aN) (st:Bool) (d:Option Nat) (K:PF→PH→Prop):dOp C Hs S st (.aFL x) d K F H=bS (aO (.aFL x) F (if st then Hs else H)) d K F H:=(rfl)
@[go_sem] theorem aBM (x:aN) (st:Bool) (d:Option Nat) (K:PF→PH→Prop):dOp C Hs S st (.box true x) d K F H=bS (aO (.box true x) F (if st then Hs else H)) d K F H:=(rfl)
@[go_sem] theorem axC (s l:Nat) (z:List PV) (ps:List (Nat × aN)) (st:Bool) (d:Option Nat) (K:PF→PH→Prop):dOp C Hs S st (.aFC true s l z ps) d K F H=bS (aO (.aFC true s l z ps) F (if st then Hs else H)) d K F H:=(rfl)
@[go_sem] theorem azZ (cs:List PV) (st:Bool) (d:Option Nat) (K:PF→PH→Prop):dOp C Hs S st (.alloc cs) d K F H=nM (cX (.alloc cs) F) d K F H:=(rfl)
@[go_sem] theorem axE (s b:Nat) (z:List PV) (l c:aN) (st:Bool) (d:Option Nat) (K:PF→PH→Prop):dOp C Hs S st (.aFF s b z l c) d K F H=nM (cX (.aFF s b z l c) F) d K F H:=(rfl)
@[go_sem] theorem aAD (sh:MSh) (st:Bool) (d:Option Nat) (K:PF→PH→Prop):dOp C Hs S st (.aGF sh) d K F H=nM (cX (.aGF sh) F) d K F H:=(rfl)
@[go_sem] theorem aDB (x:aN) (st:Bool) (d:Option Nat) (K:PF→PH→Prop):dOp C Hs S st (.box false x) d K F H=nM (cX (.box false x) F) d K F H:=(rfl)
@[go_sem] theorem ayS (s l:Nat) (z:List PV) (ps:List (Nat × aN)) (st:Bool) (d:Option Nat) (K:PF→PH→Prop):dOp C Hs S st (.aFC false s l z ps) d K F H=nM (cX (.aFC false s l z ps) F) d K F H:=(rfl)
@[go_sem] theorem aAF (n:Nat) (p x:aN) (st:Bool) (d:Option Nat) (K:PF→PH→Prop):dOp C Hs S st (.store n p x) d K F H=bZ (.store n p x) F H (fun r H'=>Hs.le H'∧K (F.put d r) H'):=(rfl)
@[go_sem] theorem ayR (s b:Nat) (x y:aN) (st:Bool) (d:Option Nat) (K:PF→PH→Prop):dOp C Hs S st (.append s b x y) d K F H=bZ (.append s b x y) F H (fun r H'=>Hs.le H'∧K (F.put d r) H'):=(rfl)
@[go_sem] theorem ayY (sh:MSh) (x k v:aN) (st:Bool) (d:Option Nat) (K:PF→PH→Prop):dOp C Hs S st (.aFP sh x k v) d K F H=bZ (.aFP sh x k v) F H (fun r H'=>Hs.le H'∧K (F.put d r) H'):=(rfl)
theorem KC:H.only []=PH.nil:=PH.ext fun o=>by simp[PH.only,PH.nil]
theorem dP {name:Nat} {vs:List PV} {v:PV} {args:List aN} {st:Bool} {d:Option Nat} {K:PF→PH→Prop} (j:S name vs=some ([],fun _=>aM v)) (h:aG C name vs .nil (aM v)) (l:aN.evs F args=some vs)
  (e:Hs.le H) (u:K (F.put d v) H):dOp C Hs S st (.call name args) d K F H:=by
 refine⟨vs,[],fun _=>aM v,l,j,fun o w=>by simp at w,by rw[KC]; exact h,fun G=>⟨v,.nil,⟨rfl,rfl⟩,fun o x y=>by simp[PH.nil] at y⟩,?_⟩;rintro r H' ⟨rfl,rfl⟩ -;rw[KC,PH.kW];exact⟨e,u⟩
end
theorem wrap_i64 {n:Int} (j:-9223372036854775808≤n) (l:n≤9223372036854775807):IntKind.i64.wrap n=n:=by
 have e:IntKind.i64.wrap n=if decide (n%18446744073709551616≥9223372036854775808)=true then n%18446744073709551616-18446744073709551616 else n%18446744073709551616:=by simp[IntKind.wrap,IntKind.bits,IntKind.signed]
 rw[e];split
 ·rename_i h; simp only[decide_eq_true_eq] at h; omega
 ·rename_i h; simp only[decide_eq_true_eq] at h; omega
theorem al {k:Nat} (h:k≤9223372036854775807):IntKind.i64.wrap (k:Int)=k:=wrap_i64 Om Om
theorem dJ {k:Nat} (h:k<9223372036854775807):IntKind.i64.wrap ((k:Int)+1)=((k+1:Nat):Int):=by
 rw[wrap_i64 Om Om]; omega
theorem wZz (k:Nat) (h:k<9223372036854775807:=by omega):IntKind.i64.wrap ((k:Int)+1)=((k+1:Nat):Int):=dJ h
theorem wrap_u64 {n:Int} (j:0≤n) (l:n<18446744073709551616):IntKind.u64.wrap n=n:=by
 have e:IntKind.u64.wrap n=n%18446744073709551616:=by simp[IntKind.wrap,IntKind.bits,IntKind.signed]
 rw[e]; omega
abbrev ints (xs:List Int):PV:=.sl 1 (xs.map fun n=>[.int .i64 n])
open Go Go.RowKit
inductive CT where
 | int (k:IntKind)
 | bool
 | str
 | sl (es:List CT)
 deriving Inhabited
def rJ (P:Program) (rec:TypeId→Option (List CT)):Nat→List Field→Option (List CT)
 | _,[]=>some []
 | k,f::e=>match rec f.type with
  | some cts=>if f.offset=k∧P.cellsOf f.type=cts.length then (rJ P rec (k+cts.length) e).map (cts++·) else none
  | none=>none
def iD (P:Program):Nat→TypeId→Option (List CT)
 | 0,_=>none
 | n+1,t=>match P.underlying t with
  | some .bool=>some [.bool]
  | some (.int k)=>some [.int k]
  | some .string=>some [.str]
  | some (.slice e)=>match iD P n e with
   | some cts=>if P.cellsOf e=cts.length∧0<cts.length then some [.sl cts] else none
   | none=>none
  | some (.struct j)=>match rJ P (iD P n) 0 j.toList with
   | some cts=>if P.cellsOf t=cts.length then some cts else none
   | none=>none
  | some (.array k e)=>match iD P n e with
   | some cts=>if P.cellsOf e=cts.length∧P.cellsOf t=k*cts.length then some (aGM k cts).flatten else none
   | none=>none
  | _=>none
inductive PV.Ty:CT→PV→Prop
 | int {k:IntKind} {n:Int} (h:(Lit.int k n).wf=true):PV.Ty (.int k) (.int k n)
 | bool (b:Bool):PV.Ty .bool (.bool b)
 | str {s:List UInt8} (h:s.length≤maxLen):PV.Ty .str (.str s)
 | sl {es:List CT} {rows:List (List PV)} (hr:∀ r∈rows,r.length=es.length) (hl:rows.length≤maxLen) (h:∀ (i j:Nat) pv ct,at2 rows i j=some pv→es[j]?=some ct→PV.Ty ct pv):PV.Ty (.sl es) (.sl es.length rows)
def Env.of (W:World) (num:Nat→FuncId):Env:=⟨fun b=>match W.heap[b]? with | some (.cells cs _ _)=>some cs | _=>none,fun _=>none,num⟩
theorem bL.start (W:World) (num:Nat→FuncId):bL (Env.of W num) PH.nil W:=by
 refine⟨fun b cs hb=>⟨fun x e=>(by cases e),?_⟩,fun o x e=>(by cases e),fun o n h=>(by cases h)⟩;simp only[Env.of] at hb;split at hb
 ·rename_i c ty j h;cases hb;exact⟨ty,j,h⟩
 ·cases hb
structure Reads (E:Env) (cts:List CT) (pvs:List PV) (cs:List Value):Prop where
 lp:pvs.length=cts.length
 lc:cs.length=cts.length
 rep:∀ (j:Nat) pv c,pvs[j]?=some pv→cs[j]?=some c→aS E pv c∧c.oneCell'=true
 ty:∀ (j:Nat) pv ct,pvs[j]?=some pv→cts[j]?=some ct→PV.Ty ct pv
theorem Reads.one {E:Env} {ct:CT} {pv:PV} {c:Value} (h:aS E pv c) (e:c.oneCell'=true) (l:PV.Ty ct pv):Reads E [ct] [pv] [c]:=by
 refine⟨rfl,rfl,fun j p u a b=>?_,fun j p u a b=>?_⟩
 ·cases j with
  | zero=>simp at a b; subst a; subst b; exact⟨h,e⟩
  | succ j=>simp at a
 ·cases j with
  | zero=>simp at a b; subst a; subst b; exact l
  | succ j=>simp at a
theorem Reads.append {E:Env} {e w:List CT} {l A:List PV} {x y:List Value} (h:Reads E e l x) (k:Reads E w A y):Reads E (e++w) (l++A) (x++y):=by
 refine⟨by simp[h.lp,k.lp],by simp[h.lc,k.lc],fun j p u a b=>?_,fun j p u a b=>?_⟩
 ·rcases aHD j l.length with hj | hj
  ·rw[aIK hj] at a;rw[aIK (by rw[h.lc,← h.lp]; exact hj)] at b;exact h.rep j p u a b
  ·rw[aIJ hj] at a;rw[aIJ (by rw[h.lc,← h.lp]; exact hj)] at b;rw[show j-x.length=j-l.length by rw[h.lc,h.lp]] at b;exact k.rep _ p u a b
 ·rcases aHD j l.length with hj | hj
  ·rw[aIK hj] at a;rw[aIK (by rw[← h.lp]; exact hj)] at b;exact h.ty j p u a b
  ·rw[aIJ hj] at a;rw[aIJ (by rw[← h.lp]; exact hj)] at b;rw[show j-e.length=j-l.length by rw[h.lp]] at b;exact k.ty _ p u a b
theorem bk {W:World} {num:Nat→FuncId} {a:Addr} {v:Value} (h:W.cell? a=some v):a.spot=none∧(Env.of W num).cell a.block a.off=some v:=by
 unfold World.cell? at h;split at h
 ·rename_i c ty j hb;split at h
  ·cases h
  ·rename_i e;refine⟨by simpa using e,?_⟩;simp only[Env.cell,Env.of,hb];exact h
 ·cases h
inductive PV.Len (N:Nat):PV→Prop
 | flat {pv:PV} (h1:∀ n rows,pv≠.sl n rows) (h2:∀ vs,pv≠.agg vs):PV.Len N pv
 | sl {n:Nat} {rows:List (List PV)} (h:rows.length≤N) (hr:∀ r∈rows,∀ v∈r,PV.Len N v):PV.Len N (.sl n rows)
 | agg {vs:List PV} (h:∀ v∈vs,PV.Len N v):PV.Len N (.agg vs)
theorem PV.Len.int {N:Nat} (k:IntKind) (n:Int):PV.Len N (.int k n):=.flat (fun _ _ h=>by cases h) fun _ h=>by cases h
theorem PV.Len.bool {N:Nat} (b:Bool):PV.Len N (.bool b):=.flat (fun _ _ h=>by cases h) fun _ h=>by cases h
theorem PV.Len.str {N:Nat} (s:List UInt8):PV.Len N (.str s):=.flat (fun _ _ h=>by cases h) fun _ h=>by cases h
theorem PV.Len.rows {N n:Nat} {rows:List (List PV)} (h:PV.Len N (.sl n rows)):rows.length≤N∧∀ r∈rows,∀ v∈r,PV.Len N v:=by
 cases h with
 | flat e _=>exact absurd rfl (e n rows)
 | sl e j=>exact⟨e,j⟩
theorem PV.Len.parts {N:Nat} {vs:List PV} (h:PV.Len N (.agg vs)):∀ v∈vs,PV.Len N v:=by
 cases h with
 | flat _ e=>exact absurd rfl (e vs)
 | agg h=>exact h
structure VP {H:Type} (P:Program) (N:Nat) (S:TypeId→DataW H→Prop):Prop where
 sl:∀ t e elems spare,P.underlying t=some (.slice e)→S t (.slice elems spare)→elems.length≤N∧∀ d∈elems,S e d
 st:∀ t fs parts,P.underlying t=some (.struct fs)→S t (.agg parts)→∀ (i:Nat) g d,fs[i]?=some g→parts[i]?=some d→S g.type d
 ar:∀ t n e parts,P.underlying t=some (.array n e)→S t (.agg parts)→∀ d∈parts,S e d
theorem RX {H:Type} {P:Program} {A:(TypeId→DataW H→Prop)→Prop} {pv:PV} (h:∀ {N},PV.Len N pv):∀ N S,VP P N S→A S→∀ v∈[pv],PV.Len N v:=fun N S _ _ v e=>by
 obtain rfl:=aHU.1 e;exact h
theorem bz {P:Program} {E:Env} {rec:TypeId→Option (List CT)} {H:Type} {f:TypeId→List Value→Option (DataW H × List MemPlace)}
  (J:∀ t cs x cts,f t cs=some x→rec t=some cts→∃ e,Reads E cts e cs∧∀ N S,VP P N S→S t x.1→∀ v∈e,PV.Len N v) (cs:List Value) :
  ∀ (u:List Field) (k:Nat) (cts:List CT),(∀ g∈u,∃ x,f g.type ((cs.drop g.offset).take (P.cellsOf g.type))=some x)→rJ P rec k u=some cts →
   ∃ e,Reads E cts e ((cs.drop k).take cts.length)∧∀ N S,VP P N S→(∀ g∈u,∀ x,f g.type ((cs.drop g.offset).take (P.cellsOf g.type))=some x→S g.type x.1)→∀ v∈e,PV.Len N v
 | [],k,cts,_,h=>by simp[rJ] at h; subst h;exact⟨[],⟨rfl,by simp,fun j p c a=>by simp at a,fun j p c a=>by simp at a⟩,fun _ _ _ _ v hv=>by cases hv⟩
 | g::u,k,cts,F,h=>by
  simp only[rJ] at h;split at h
  ·rename_i K O;split at h
   ·rename_i B;simp only[aGT] at h;obtain⟨M,R,rfl⟩:=h;obtain⟨x,I⟩:=F g (by simp);obtain⟨W,r1,U⟩:=J _ _ _ _ I O;rw[B.1,B.2] at r1;obtain⟨X,r2,V⟩:=bz J cs u (k+K.length) M (fun w l=>F w (by simp[l])) R;refine⟨W++X,?_,fun N S y A v hv=>?_⟩
    ·have:=r1.append r2;rw[aGO,List.take_add,List.drop_drop];exact this
    ·rcases aHQ.1 hv with hv | hv
     ·exact U N S y (A g (by simp) x I) v hv
     ·exact V N S y (fun w l=>A w (by simp[l])) v hv
   ·cases h
  ·cases h
theorem n0 {E:Env} {cts:List CT} {R:List PV→Prop} (l:R []) (u:∀ a b,R a→R b→R (a++b)) (cs:List Value) :
  ∀ n:Nat,(∀ i,i<n→∃ e,Reads E cts e ((cs.drop (i*cts.length)).take cts.length)∧R e)→∃ e,Reads E (aGM n cts).flatten e (cs.take (n*cts.length))∧R e
 | 0,_=>⟨[],⟨rfl,by simp,fun j p c a=>by simp at a,fun j p c a=>by simp at a⟩,l⟩
 | n+1,h=>by obtain⟨w,r1,y⟩:=n0 l u cs n fun i hi=>h i Om;obtain⟨x,r2,A⟩:=h n Om;refine⟨w++x,?_,u _ _ y A⟩;rw[List.replicate_succ',List.flatten_append,List.flatten_singleton,aIX,List.take_add];exact r1.append r2
theorem amX {H:Type} {enc:TypeId × Value→H} {P:Program} {W:World} {base:Nat} {sp:Nat→Bool} {β:Bool} (num:Nat→FuncId) :
  ∀ (fuel m:Nat) (t:TypeId) (cs:List Value) (x:DataW H × List MemPlace) (cts:List CT),DataW.trod enc P W base sp β fuel t cs=some x→iD P m t=some cts→∃ l,Reads (Env.of W num) cts l cs∧∀ N S,VP P N S→S t x.1→∀ v∈l,PV.Len N v:=by
 intro fuel
 induction fuel with
 | zero=>intro m t cs x cts h; simp[DataW.trod] at h
 | succ fuel ih =>
  intro m t cs x cts h A;cases m with
  | zero=>simp[iD] at A
  | succ m =>
   simp only[iD] at A;split at A
   ·rename_i O;cases A;obtain⟨b,rfl,-⟩:=DataW.trod_bool O h;exact⟨[.bool b],.one (.bool b) rfl (.bool b),RX (.bool b)⟩
   ·rename_i k O;cases A;obtain⟨n,rfl,-,hw⟩:=DataW.trod_int O h;exact⟨[.int k n],.one (.int k n) rfl (.int hw),RX (.int k n)⟩
   ·rename_i O;cases A;obtain⟨s,rfl,-,hs⟩:=DataW.trod_string O h;exact⟨[.str s.data.toList],.one (.str s) rfl (.str (by rw[aJM]; exact hs)),RX (.str _)⟩
   ·rename_i e O;split at A
    ·rename_i u he;split at A
     ·rename_i B;cases A;rcases DataW.trod_slice O h with ⟨rfl,-⟩ | ⟨a,len,cap,elems,rest,n,hn,rfl,Y,-,γ,hcap,hel,helem,-⟩
      ·refine⟨[.sl u.length []],.one ?_ rfl (.sl (by simp) (by simp) (by simp[at2])),RX (.sl (aGW _) (fun r V=>by cases V))⟩;exact .sl (fun _ _=>.bool false) (by simp) (by decide) (by simp) (by simp) (fun _ _=>rfl) (by simp[at2])
      ·cases hn;have each:∀ i,i<len→∃ l Z,(Reads (Env.of W num) u l Z∧∀ N S,VP P N S→(∀ d∈elems.map (·.1),S e d)→∀ v∈l,PV.Len N v)∧W.cells? base (a.add (i*u.length)) u.length=some Z:=by intro i hi;have h1:=helem i hi;rw[aGS Om,aKD] at h1;obtain⟨Z,h2,h3⟩:=h1;obtain⟨l,r,rl⟩:=ih m e Z _ u h3 he;rw[B.1] at h2;exact⟨l,Z,⟨r,fun N S J K=>rl N S J (K _ (aHJ.2 ⟨_,aGP _,rfl⟩))⟩,h2⟩
       have δ:∀ i,∃ l,∃ Z,i<len→(Reads (Env.of W num) u l Z∧∀ N S,VP P N S→(∀ d∈elems.map (·.1),S e d)→∀ v∈l,PV.Len N v)∧W.cells? base (a.add (i*u.length)) u.length=some Z:=by
        intro i;by_cases hi:i<len
        ·obtain⟨l,Z,h1⟩:=each i hi;exact⟨l,Z,fun _=>h1⟩
        ·exact⟨[],[],fun h=>(hi h).elim⟩
       obtain⟨pf,ξ⟩:=Classical.axiomOfChoice δ;obtain⟨uf,M⟩:=Classical.axiomOfChoice ξ;have ε:∀ i j pv,at2 ((aGL len).map pf) i j=some pv→i<len∧(pf i)[j]?=some pv:=by
        intro i j pv F;unfold at2 at F;rw[aHF,aKD] at F;obtain⟨r,V,F⟩:=F;rw[aGT] at V;obtain⟨i',U,rfl⟩:=V;have hi:i<len:=by simpa using (aHP.1 U).1
        have:i'=i:=by simp[hi] at U; exact U.symm
        subst this;exact⟨hi,F⟩
       have hu2:∀ i j pv,at2 ((aGL len).map pf) i j=some pv→∃ v,(uf i)[j]?=some v∧j<u.length∧aS (Env.of W num) pv v∧v.oneCell'=true:=by
        intro i j pv F;obtain⟨hi,X⟩:=ε i j pv F;obtain⟨⟨r,-⟩,-⟩:=M i hi;have hj:j<u.length:=by rw[← r.lp]; exact (aHP.1 X).1
        have I:(uf i)[j]?=some ((uf i)[j]'(by rw[r.lc]; exact hj)):=aGS _;exact⟨_,I,hj,(r.rep j pv _ X I).1,(r.rep j pv _ X I).2⟩
       have α:((aGL len).map pf).length=len:=by simp
       refine⟨[.sl u.length ((aGL len).map pf)],.one ?_ rfl (.sl (fun r V=>?_) (by rw[α]; omega) fun i j pv ct F κ=>?_),fun N S J K v I=>?_⟩
       ·have η:=aS.sl (E:=Env.of W num) (size:=u.length) (rows:=(aGL len).map pf) (a:=some a) (cap:=cap)
         (fun i j=>match at2 ((aGL len).map pf) i j with | some _=>((uf i)[j]?).getD (.bool false) | none=>.bool false) (by rw[α]; exact γ) hcap
         (fun r V=>by simp only[aHJ,aHG] at V;obtain⟨i,hi,rfl⟩:=V;exact (M i hi).1.1.lp)
         (fun ν=>by
          have μ:0<len:=by
           rcases aIS len with h | h
           ·subst h; exact (ν rfl).elim
           ·exact h
          have ζ:a.spot=none:=by obtain⟨⟨r,-⟩,A⟩:=M 0 μ;have h3:=(World.cells?_some A).2.2 0 B.2;rw[Nat.zero_mul,Addr.add_zero',Addr.add_zero',aGS (by rw[r.lc]; exact B.2)] at h3;exact (bk (num:=num) h3).1
          refine⟨a,rfl,ζ,fun i j pv F=>?_⟩;obtain⟨hi,-⟩:=ε i j pv F;obtain⟨v,I,hj,-⟩:=hu2 i j pv F;have h3:=(World.cells?_some (M i hi).2).2.2 j hj;rw[oQ ζ,add_plain,add_plain,I] at h3;have h4:=(bk (num:=num) h3).2;simp only[F,I,aJF];exact h4)
         (fun i j=>by
          split
          ·rename_i pv F;obtain⟨v,I,-,-,h1⟩:=hu2 i j pv F;simp[I,h1]
          ·rfl)
         (fun i j pv F=>by obtain⟨v,I,-,h1,-⟩:=hu2 i j pv F;simp only[F,I,aJF];exact h1)
        rw[α] at η;exact η
       ·simp only[aHJ,aHG] at V;obtain⟨i,hi,rfl⟩:=V;exact (M i hi).1.1.lp
       ·obtain⟨hi,X⟩:=ε i j pv F;exact (M i hi).1.1.ty j pv ct X κ
       ·rw[Y] at K;obtain⟨m1,m2⟩:=J.sl t e _ _ O K;obtain rfl:=aHU.1 I;refine .sl (by rw[α]; simpa [hel] using m1) fun r V w hw=>?_;simp only[aHJ,aHG] at V;obtain⟨i,hi,rfl⟩:=V;exact (M i hi).1.2 N S J m2 w hw
     ·cases A
    ·cases A
   ·rename_i fs O;split at A
    ·rename_i ρ θ;split at A
     ·rename_i γ;cases A;obtain⟨xs,n,hn,Y,ι,ο,hx⟩:=DataW.trod_struct O h;cases hn;have:=bz (f:=DataW.trod enc P W base sp β fuel) (fun t cs x cts a b=>ih m t cs x cts a b) cs fs.toList 0 cts (fun g hg=>by obtain⟨i,hi,rfl⟩:=aIH hg;have:=hx i fs.toList[i] (by simp at hi; simp[hi]);rw[this];exact⟨_,aGS (by simp at hi; omega)⟩) θ
      rw[aHW,aGZ Om] at this;obtain⟨l,r,rl⟩:=this;refine⟨l,r,fun N S J K=>rl N S J fun g hg y hy=>?_⟩;rw[Y] at K;obtain⟨i,hi,rfl⟩:=aIH hg;have U:i<fs.size:=by simpa using hi
      have:=hx i fs.toList[i] (by simp[U]);rw[hy,aGS Om] at this;refine J.st t fs _ O K i fs.toList[i] y.1 (by simp[U]) ?_;rw[aHF,aGS Om,← this]; rfl
     ·cases A
    ·cases A
   ·rename_i k e O;split at A
    ·rename_i u he;split at A
     ·rename_i B;cases A;obtain⟨xs,n,hn,Y,ι,ο,hx⟩:=DataW.trod_array O h;cases hn;obtain⟨l,r,hq⟩:=n0 (E:=Env.of W num) (cts:=u) (R:=fun l=>∀ N S,VP P N S→(∀ d:DataW H,d∈xs.map (fun y:DataW H × List MemPlace=>y.1)→S e d)→∀ v∈l,PV.Len N v) (fun _ _ _ _ v I=>by cases I)
       (fun a b ha hb N S J K v I=>(aHQ.1 I).elim (ha N S J K v) (hb N S J K v)) cs k fun i hi=>by have h2:=hx i hi;rw[aGS Om,B.1] at h2;obtain⟨l,r,rl⟩:=ih m e _ _ u h2 he;exact⟨l,r,fun N S J K=>rl N S J (K _ (aHJ.2 ⟨_,aGP _,rfl⟩))⟩
      rw[aGZ Om] at r;exact⟨l,r,fun N S J K=>hq N S J (J.ar t k e _ O (by rw[Y] at K; exact K))⟩
     ·cases A
    ·cases A
   ·cases A
theorem iw {H:Type} {enc:TypeId × Value→H} {P:Program} {W:World} {base:Nat} {u:Nat→Bool} {e:Bool} (num:Nat→FuncId)
  (fuel m:Nat) (t:TypeId) (cs:List Value) (x:DataW H × List MemPlace) (cts:List CT) (h:DataW.trod enc P W base u e fuel t cs=some x) (l:iD P m t=some cts):∃ j,Reads (Env.of W num) cts j cs :=
 (amX num fuel m t cs x cts h l).imp fun _ r=>r.1
open Go Go.RowKit Go.ChangeShapes Go.WideShapes
theorem Ext.below {E j:Env} {H':PH} {w e:World} (h:Ext E PH.nil w j H' e):Below w.heap.size w e :=
 ⟨h.os,h.tape,h.output,h.size,fun k l=>h.block k l rfl⟩
theorem Below.trodAll {H:Type} {enc:TypeId × Value→H} {P:Program} (w:laidOutB P=true) {W j:World} (hb:Below W.heap.size W j) :
  ∀ {ts:List TypeId} {vs:List Value} {ds:List (DataW H)} {ps:List MemPlace},(∀ t∈ts,P.readableRec t=true∧t<P.types.size)→DataW.TrodAll enc P W 0 (fun _=>true) true ts vs ds ps →
   DataW.TrodAll enc P j 0 (fun b=>decide (b<W.heap.size)) true ts vs ds ps
 | [],[],[],ps,_,h=>h
 | [],_::_,_,_,_,h=>h.elim
 | [],[],_::_,_,_,h=>h.elim
 | _::_,[],_,_,_,h=>h.elim
 | _::_,_::_,[],_,_,h=>h.elim
 | t::ts,v::vs,d::ds,ps,e,h=>by obtain⟨p,q,l,y,rfl⟩:=h;have hlt:∀ x∈p,x.block<W.heap.size:=fun x B=>DataW.TrodAll.lt (ts:=[t]) (vs:=[v]) (ds:=[d]) ⟨p,[],l,rfl,(aHY p).symm⟩ x B;exact⟨p,q,Below.trod w (e t (by simp)).1 (e t (by simp)).2 l hb hlt,Below.trodAll w hb (fun u A=>e u (by simp[A])) y,rfl⟩
theorem aeK {H:Type} {enc:TypeId × Value→H} {P:Program} {f:Func} {s:ChangeSpec} {e apart fresh:Bool} {W B:World} {args:Array Value} {ds l:List (DataW H)} {j:List MemPlace} {bt:TypeId}
  (I:laidOutB P=true) (hW:DataW.Whole enc P f.params.toList s.vars apart W args.toList ds l j) (hb:Below W.heap.size W B) (x:∀ t∈f.params.toList,P.readableRec t=true∧t<P.types.size)
  (w:f.resultTypes=#[bt]) (u:P.underlying bt=some .bool) (y:s.vars=[]) (K:(s.fn H (ds++l)).results=[.lit (.bool true)]) (F:(s.fn H (ds++l)).args=ds) (A:(s.fn H (ds++l)).vars=[]) :
  s.post enc P f apart fresh e false W args (.bool true) B:=by
 obtain⟨p,q,E,hV,rfl,M,J⟩:=hW;rw[y] at hV;obtain⟨rfl,rfl⟩:=trodVars_none hV;refine⟨ds,[],p++[],[],p,[],⟨p,[],E,by rw[y]; exact hV,rfl,M,J⟩,?_,?_,?_,hb.frame _,fun h=>by cases h⟩
 ·rw[K,w];refine⟨[],[],⟨1,?_⟩,rfl,rfl⟩;simp[DataW.trod,u,Value.cells,Value.resultList]
 ·rw[F];exact Below.trodAll I hb x E
 ·rw[y,A];exact rfl
theorem acH {C:Ctx} {name:Nat} {W:World} {args:Array Value} {l:List PV} (h:aG C name l PH.nil (aM (.bool true))) (x:eR (Env.of W C.num) l args.toList) :
  Calls C.P (C.num name) args W fun e u=>e=.returned (.bool true)∧Below W.heap.size W u :=
 (h.2 (Env.of W C.num) W args rfl (bL.start W C.num) x).mono fun e u he=>by obtain⟨v,pv,y,H',rfl,-,j,w,rfl,-⟩:=he;cases j;exact⟨rfl,w.below⟩
theorem Wj {H:Type} {enc:TypeId × Value→H} {P:Program} {W:World} {r:Reach} {base:Nat} {J:Nat→Bool} {w:Bool} (num:Nat→FuncId) {t:TypeId} {v:Value} {d:DataW H} {ps:List MemPlace} {B:Array Field} {n:Nat} {cts:List CT}
  (y:P.underlying t=some (.struct B)) (x:Value.okWide P W r base t v) (F:DataW.Trod enc P W 0 J w t v d ps) (E:iD P n t=some cts) :
  ∃ e,aS (Env.of W num) (.agg e) v∧e.length=cts.length∧∀ (j:Nat) pv ct,e[j]?=some pv→cts[j]?=some ct→PV.Ty ct pv:=by
 obtain⟨cs,rfl,-⟩:=okWide_struct y x;obtain⟨fuel,h⟩:=F;obtain⟨e,l⟩:=iw num fuel n t _ _ cts h E;have I:cs.size=e.length:=by have:=l.lc; rw[l.lp,← this]; simp[Value.cells]
 refine⟨e,.agg cs I (fun u y=>?_) (fun j pv u a b=>(l.rep j pv u a (by simpa [Value.cells] using b)).1),l.lp,l.ty⟩;obtain⟨j,A,rfl⟩:=aIH y;simp only[aJM] at A;exact (l.rep j _ _ (aGS Om) (by simp[Value.cells,A])).2
theorem vD {H:Type} {enc:TypeId × Value→H} {P:Program} {W:World} {B:Nat→Bool} {e:Bool} (num:Nat→FuncId) {t:TypeId} {v:Value} {d:DataW H} {ps:List MemPlace} {n:Nat} {ct:CT}
  (A:v.cells=#[v]) (x:DataW.Trod enc P W 0 B e t v d ps) (w:iD P n t=some [ct]):∃ pv,aS (Env.of W num) pv v∧PV.Ty ct pv:=by
 obtain⟨fuel,h⟩:=x;obtain⟨l,j⟩:=iw num fuel n t _ _ [ct] h w;rw[A] at j;have y:=j.lp;cases l with
 | nil=>simp at y
 | cons pv u=>exact⟨pv,(j.rep 0 pv v rfl rfl).1,j.ty 0 pv ct rfl rfl⟩
def InK (k:IntKind) (n:Int):Prop:=k.min≤n∧n≤k.max
def Xx (k:IntKind) (xs:List Int):PV:=.sl 1 (xs.map fun n=>[.int k n])
theorem Ty.R5 {k:IntKind} {pv:PV} (h:PV.Ty (.int k) pv):∃ n,pv=.int k n∧InK k n:=by
 cases h with
 | int h=>simp only[Lit.wf,aHC,decide_eq_true_eq] at h; exact⟨_,rfl,h⟩
theorem Ty.atZ {ct:CT} {pv:PV} (h:PV.Ty (.sl [ct]) pv):∃ vs:List PV,pv=.sl 1 (vs.map fun v=>[v])∧vs.length≤maxLen∧∀ v∈vs,PV.Ty ct v:=by
 cases h with
 | @sl B rows A y h =>
 have j:∀ r∈rows,r=[r.headD .junk]:=fun r l=>by
  have:=A r l
  match r,this with
  | [x],_=>rfl
 have e:rows=(rows.map fun r=>r.headD .junk).map fun v=>[v]:=by rw[aJQ];apply aJV (by simp);intro n w E;simp only[aIN,Function.comp];exact j _ (aGP w)
 refine⟨rows.map fun r=>r.headD .junk,by rw[← e]; rfl,by simpa using y,fun v u=>?_⟩;rw[aHJ] at u;obtain⟨r,l,rfl⟩:=u;obtain⟨i,hi,rfl⟩:=aIH l;refine h i 0 _ ct ?_ rfl;have:=j rows[i] l;unfold at2;rw[aGS hi,aKE,this];rfl
theorem Ty.ajI {k:IntKind} {pv:PV} (h:PV.Ty (.sl [.int k]) pv):∃ xs:List Int,pv=Xx k xs∧xs.length≤maxLen∧∀ x∈xs,InK k x:=by
 obtain⟨vs,rfl,A,l⟩:=Ty.atZ h;have e:vs=(vs.map fun v=>match v with | .int _ n=>n | _=>0).map fun n=>PV.int k n:=by rw[aJQ];apply aJV (by simp);intro n w B;simp only[aIN,Function.comp];obtain⟨m,j,-⟩:=Ty.R5 (l _ (aGP w));rw[j]
 refine⟨vs.map fun v=>match v with | .int _ n=>n | _=>0,?_,by simpa using A,fun x u=>?_⟩
 ·unfold Xx
  conv=>lhs; rw[e]
  rw[aJQ];rfl
 ·rw[aHJ] at u;obtain⟨v,j,rfl⟩:=u;obtain⟨m,rfl,y⟩:=Ty.R5 (l v j);exact y
abbrev Rg:=List aW
abbrev Rd:=List (aW×Bool)
def iM (d s:Nat):aW:=⟨some d,.mv (.tmp s),none⟩
def iI (d:Nat) (n:Int):aW:=⟨some d,.mv (.const (.int .i64 n)),none⟩
def iB (d:Nat) (o:BinOp) (x y:Nat):aW:=⟨some d,.bin o (.tmp x) (.tmp y),none⟩
def iC (d:Nat) (o:BinOp) (x:Nat) (n:Int):aW:=⟨some d,.bin o (.tmp x) (.const (.int .i64 n)),none⟩
def iL (d s:Nat):aW:=⟨some d,.load none (.tmp s),none⟩
def iX (d n x y:Nat):aW:=⟨some d,.aFO n (.tmp x) (.tmp y),none⟩
def iN (d x:Nat):aW:=⟨some d,.len (.tmp x),none⟩
def iF (d n x:Nat):aW:=⟨some d,.aGB n (.tmp x),none⟩
def iS (n p x:Nat):aW:=⟨none,.store n (.tmp p) (.tmp x),none⟩
def iA (d:Nat) (o:POp):aW:=⟨some d,o,none⟩
def iG (d:Nat) (o:POp) (g:Nat) (b:Bool):aW:=⟨some d,o,some (g,b)⟩
def iP (d a b:Nat):aW:=⟨some d,.pick (.tmp a) (.tmp b) (.const (.bool false)),none⟩
def iQ (d a b:Nat):aW:=⟨some d,.pick (.tmp a) (.const (.bool true)) (.tmp b),none⟩
def iO (d s a:Nat):aW:=⟨some d,.load (some s) (.tmp a),none⟩
def iE (d a n:Nat):aW:=⟨some d,.extract (.tmp a) n,none⟩
def iK (d f a:Nat):aW:=⟨some d,.call f [.tmp a],none⟩
def iK2 (d f a b:Nat):aW:=⟨some d,.call f [.tmp a,.tmp b],none⟩
def iT (d:Nat) (b:Bool):aW:=⟨some d,.mv (.const (.bool b)),none⟩
def iZ (d:Nat):aW:=⟨some d,.mv (.const .aA),none⟩
def gM (d s g:Nat) (b:Bool):aW:=⟨some d,.mv (.tmp s),some (g,b)⟩
def gL (d s g:Nat) (b:Bool):aW:=⟨some d,.load none (.tmp s),some (g,b)⟩
def gF (d n s g:Nat) (b:Bool):aW:=⟨some d,.aGB n (.tmp s),some (g,b)⟩
def gN (d s g:Nat) (b:Bool):aW:=⟨some d,.len (.tmp s),some (g,b)⟩
def gO (d n s g:Nat) (b:Bool):aW:=⟨some d,.load (some n) (.tmp s),some (g,b)⟩
def gK (d f a g:Nat) (b:Bool):aW:=⟨some d,.call f [.tmp a],some (g,b)⟩
def gK2 (d f a c g:Nat) (b:Bool):aW:=⟨some d,.call f [.tmp a,.tmp c],some (g,b)⟩
def gC (d:Nat) (o:BinOp) (x:Nat) (n:Int) (g:Nat) (b:Bool):aW:=⟨some d,.bin o (.tmp x) (.const (.int .i64 n)),some (g,b)⟩
def gB (d:Nat) (o:BinOp) (x y g:Nat) (b:Bool):aW:=⟨some d,.bin o (.tmp x) (.tmp y),some (g,b)⟩
def zI:PV:=.int .i64 0
def zB:PV:=.bool false
def sq (r:Rg) (c:aE):aE:=.seq (.region r) c
def dq (r:Rd) (c:aE):aE:=.seq (.draw r) c
def Tm (n:Nat):aN:=.tmp n
def Ci (n:Int):aN:=.const (.int .i64 n)
@[go_sem] theorem aEK (d s:Nat):iM d s=⟨some d,.mv (.tmp s),none⟩:=(rfl)
@[go_sem] theorem aEH (d:Nat) (n:Int):iI d n=⟨some d,.mv (.const (.int .i64 n)),none⟩:=(rfl)
@[go_sem] theorem aEC (d:Nat) (o:BinOp) (x y:Nat):iB d o x y=⟨some d,.bin o (.tmp x) (.tmp y),none⟩:=(rfl)
@[go_sem] theorem aED (d:Nat) (o:BinOp) (x:Nat) (n:Int):iC d o x n=⟨some d,.bin o (.tmp x) (.const (.int .i64 n)),none⟩:=(rfl)
@[go_sem] theorem aEJ (d s:Nat):iL d s=⟨some d,.load none (.tmp s),none⟩:=(rfl)
@[go_sem] theorem aER (d n x y:Nat):iX d n x y=⟨some d,.aFO n (.tmp x) (.tmp y),none⟩:=(rfl)
@[go_sem] theorem aEL (d x:Nat):iN d x=⟨some d,.len (.tmp x),none⟩:=(rfl)
@[go_sem] theorem aEF (d n x:Nat):iF d n x=⟨some d,.aGB n (.tmp x),none⟩:=(rfl)
@[go_sem] theorem aEP (n p x:Nat):iS n p x=⟨none,.store n (.tmp p) (.tmp x),none⟩:=(rfl)
@[go_sem] theorem aEB (d:Nat) (o:POp):iA d o=⟨some d,o,none⟩:=(rfl)
@[go_sem] theorem aEG (d:Nat) (o:POp) (g:Nat) (b:Bool):iG d o g b=⟨some d,o,some (g,b)⟩:=(rfl)
@[go_sem] theorem aEN (d a b:Nat):iP d a b=⟨some d,.pick (.tmp a) (.tmp b) (.const (.bool false)),none⟩:=(rfl)
@[go_sem] theorem aEO (d a b:Nat):iQ d a b=⟨some d,.pick (.tmp a) (.const (.bool true)) (.tmp b),none⟩:=(rfl)
@[go_sem] theorem aEM (d s a:Nat):iO d s a=⟨some d,.load (some s) (.tmp a),none⟩:=(rfl)
@[go_sem] theorem aEE (d a n:Nat):iE d a n=⟨some d,.extract (.tmp a) n,none⟩:=(rfl)
@[go_sem] theorem aEI (d f a:Nat):iK d f a=⟨some d,.call f [.tmp a],none⟩:=(rfl)
@[go_sem] theorem aDO (d f a b:Nat):iK2 d f a b=⟨some d,.call f [.tmp a,.tmp b],none⟩:=(rfl)
@[go_sem] theorem aEQ (d:Nat) (b:Bool):iT d b=⟨some d,.mv (.const (.bool b)),none⟩:=(rfl)
@[go_sem] theorem aES (d:Nat):iZ d=⟨some d,.mv (.const .aA),none⟩:=(rfl)
@[go_sem] theorem aDY (d s g:Nat) (b:Bool):gM d s g b=⟨some d,.mv (.tmp s),some (g,b)⟩:=(rfl)
@[go_sem] theorem aDX (d s g:Nat) (b:Bool):gL d s g b=⟨some d,.load none (.tmp s),some (g,b)⟩:=(rfl)
@[go_sem] theorem aDV (d n s g:Nat) (b:Bool):gF d n s g b=⟨some d,.aGB n (.tmp s),some (g,b)⟩:=(rfl)
@[go_sem] theorem aDZ (d s g:Nat) (b:Bool):gN d s g b=⟨some d,.len (.tmp s),some (g,b)⟩:=(rfl)
@[go_sem] theorem aEA (d n s g:Nat) (b:Bool):gO d n s g b=⟨some d,.load (some n) (.tmp s),some (g,b)⟩:=(rfl)
@[go_sem] theorem aDW (d f a g:Nat) (b:Bool):gK d f a g b=⟨some d,.call f [.tmp a],some (g,b)⟩:=(rfl)
@[go_sem] theorem aDN (d f a c g:Nat) (b:Bool):gK2 d f a c g b=⟨some d,.call f [.tmp a,.tmp c],some (g,b)⟩:=(rfl)
@[go_sem] theorem aDU (d:Nat) (o:BinOp) (x:Nat) (n:Int) (g:Nat) (b:Bool):gC d o x n g b=⟨some d,.bin o (.tmp x) (.const (.int .i64 n)),some (g,b)⟩:=(rfl)
@[go_sem] theorem aDT (d:Nat) (o:BinOp) (x y g:Nat) (b:Bool):gB d o x y g b=⟨some d,.bin o (.tmp x) (.tmp y),some (g,b)⟩:=(rfl)
@[go_sem] theorem aEV:zI=.int .i64 0:=(rfl)
@[go_sem] theorem aEU:zB=.bool false:=(rfl)
@[go_sem] theorem aET (r:Rg) (c:aE):sq r c=.seq (.region r) c:=(rfl)
@[go_sem] theorem aDS (r:Rd) (c:aE):dq r c=.seq (.draw r) c:=(rfl)
@[go_sem] theorem aDR (n:Nat):Tm n=.tmp n:=(rfl)
@[go_sem] theorem aDQ (n:Int):Ci n=.const (.int .i64 n):=(rfl)
end Go.PM
namespace Go.PM
open Go
def JV:Rg:=[iI 2 0]
def JW:Rg:=[iM 4 0,iN 5 4,iM 3 5]
def JX:Rg:=[iM 6 3,iC 7 .gtr 6 0,iM 8 7,gM 9 0 8 true,gM 10 3 8 true,gC 11 .sub 10 1 8 true,iG 12 (.aFO 1 (Tm 9) (Tm 11)) 8 true,gL 13 12 8 true,iG 14 (.bin .eql (Tm 13) (.const (.int .u32 0))) 8 true,iP 15 8 14]
def JY:Rg:=[iM 16 3,iC 17 .sub 16 1,iM 3 17]
def JU:aE:=(.seq (sq JX (.cond (Tm 15) .skip (.exit 0))) (.block 1 (.region JY)))
def uJ:Rg:=[iM 18 3,iM 2 18]
def qD:aE:=(sq JV (sq JW (.seq (.block 0 (.loop JU)) (sq uJ .ret))))
def Yu:List Nat:=[]
def GJ:bC:=⟨1,19,qD,[.tmp 2]⟩
def tb:Rg:=[iT 2 false]
def tc:Rg:=[iM 3 0,iK 4 138 3,iC 5 .gtr 4 512,iM 2 5]
def EK:aE:=(sq tb (sq tc .ret))
def adM:List Nat:=[]
def Iu:bC:=⟨1,6,EK,[.tmp 2]⟩
def tt:Rg:=[iZ 2,iI 3 0]
def tu:Rg:=[iM 5 0,iK 6 138 5,iM 4 6]
def tv:Rg:=[iM 7 4,iC 8 .gtr 7 512]
def tw:Rg:=[iZ 2,iI 3 2]
def tx:Rg:=[iM 9 0,iM 10 4,iM 11 4,iA 12 (.slice 1 (Tm 9) none (some (Tm 10)) (some (Tm 11))),iM 2 12,iI 3 0]
def EM:aE:=(sq tt (sq tu (.seq (sq tv (.cond (Tm 8) (sq tw .ret) .skip)) (sq tx .ret))))
def adR:List Nat:=[]
def I7:bC:=⟨1,13,EM,[.tmp 2,.tmp 3]⟩
def Iv:Rg:=[iZ 2]
def Iw:Rg:=[iM 4 0,iA 5 (.conv .u32 (Tm 4)),iM 6 0,iA 7 (.bin .shr (Tm 6) (.const (.int .u64 32))),iA 8 (.conv .u32 (Tm 7)),iA 9 (.aFC true 1 2 [(.int .u32 0)] [(0,(Tm 5)),(1,(Tm 8))]),iM 3 9]
def Ix:Rg:=[iM 10 3,iM 11 3,iK 12 138 11,iA 13 (.slice 1 (Tm 10) none (some (Tm 12)) none),iM 2 13]
def JZ:aE:=(sq Iv (sq Iw (sq Ix .ret)))
def alL:List Nat:=[9]
def Yv:bC:=⟨1,14,JZ,[.tmp 2]⟩
def Jf:Rg:=[iZ 2]
def Jg:Rg:=[iM 3 0,iM 4 0,iK 5 138 4,iA 6 (.slice 1 (Tm 3) none (some (Tm 5)) none),iA 7 (.append 1 4 (.const .aA) (Tm 6)),iM 2 7]
def KB:aE:=(sq Jf (sq Jg .ret))
def alR:List Nat:=[]
def Yx:bC:=⟨1,8,KB,[.tmp 2]⟩
def Tl:Rg:=[iI 4 0]
def Tn:Rg:=[iM 8 0,iK 9 138 8,iM 10 1,iK 11 138 10,iM 5 9,iM 6 11]
def To:Rg:=[iM 13 5,iM 14 6,iB 15 .lss 13 14,iM 12 15]
def Tq:Rg:=[iI 4 (-1)]
def Tr:Rg:=[iM 17 5,iM 18 6,iB 19 .gtr 17 18,iM 16 19]
def Ts:Rg:=[iI 4 1]
def Tt:Rg:=[iM 20 5,iC 21 .sub 20 1,iM 7 21]
def Tu:Rg:=[iM 22 7,iC 23 .geq 22 0]
def Tv:Rd:=[(iM 27 0,false),(iM 28 7,false),(iX 29 1 27 28,false),(iL 30 29,false),(iM 31 1,false),(iM 32 7,false),(iX 33 1 31 32,false),(iL 34 33,false),(iB 35 .lss 30 34,false),(iM 26 35,false)]
def Tw:Rg:=[iI 4 (-1)]
def Il:Rd:=[(iM 37 0,false),(iM 38 7,false),(iX 39 1 37 38,false),(iL 40 39,false),(iM 41 1,false),(iM 42 7,false),(iX 43 1 41 42,false),(iL 44 43,false),(iB 45 .gtr 40 44,false),(iM 36 45,false)]
def Im:Rg:=[iI 4 1]
def In:Rg:=[iM 24 7,iC 25 .sub 24 1,iM 7 25]
def Ik:aE:=(.seq (sq Tu (.cond (Tm 23) .skip (.exit 1))) (.seq (.block 2 (.block 3 (dq Tv (.cond (Tm 26) (sq Tw .ret) (dq Il (.cond (Tm 36) (sq Im .ret) .skip)))))) (.region In)))
def Io:Rg:=[iI 4 0]
def OV:aE:=(sq Tl (sq Tn (.seq (.block 0 (sq To (.cond (Tm 12) (sq Tq .ret) (sq Tr (.cond (Tm 16) (sq Ts .ret) .skip))))) (.seq (sq Tt (.block 1 (.loop Ik))) (sq Io .ret)))))
def asW:List Nat:=[]
def alD:bC:=⟨2,46,OV,[.tmp 4]⟩
def Te:Rg:=[iZ 4,iI 5 0]
def Tf:Rg:=[iM 9 0,iK 10 137 9,iM 11 10,gM 12 1 11 false,gK 13 137 12 11 false,iQ 14 11 13]
def lm:Rg:=[iZ 4,iI 5 2]
def Tg:Rd:=[(iM 15 0,true),(iM 16 0,false),(iK 17 138 16,true),(iA 18 (.slice 1 (Tm 15) none (some (Tm 17)) none),true),(iM 19 1,true),(iM 20 1,true),(iK 21 138 20,true),(iA 22 (.slice 1 (Tm 19) none (some (Tm 21)) none),false),(iM 0 18,false),(iM 1 22,false)]
def Th:Rg:=[iM 23 0,iN 24 23,iM 25 1,iN 26 25,iB 27 .lss 24 26]
def Ti:Rg:=[iM 28 1,iM 29 0,iM 0 28,iM 1 29]
def ln:Rg:=[iM 30 0,iN 31 30,iC 32 .add 31 1,iA 33 (.aFF 1 4 [(.int .u32 0)] (Tm 32) (Tm 32)),iM 6 33]
def lz:Rg:=[iA 7 (.mv (.const (.int .u64 0)))]
def l5:Rg:=[iM 34 0,iN 35 34,iI 36 0]
def Tj:Rg:=[iB 37 .lss 36 35]
def Hu:Rg:=[iM 38 36,iM 8 38]
def Hv:Rg:=[iM 39 7,iM 40 0,iM 41 8,iX 42 1 40 41,iL 43 42,iA 44 (.conv .u64 (Tm 43)),iB 45 .add 39 44,iM 7 45]
def Hw:Rg:=[iM 46 8,iM 47 1,iN 48 47,iB 49 .lss 46 48]
def Hx:Rg:=[iM 50 7,iM 51 1,iM 52 8,iX 53 1 51 52,iL 54 53,iA 55 (.conv .u64 (Tm 54)),iB 56 .add 50 55,iM 7 56]
def YM:Rg:=[iM 57 6,iM 58 8,iM 59 7,iA 60 (.conv .u32 (Tm 59)),iX 61 1 57 58,iS 1 61 60]
def YN:Rg:=[iM 62 7,iA 63 (.bin .shr (Tm 62) (.const (.int .u64 32))),iM 7 63]
def YO:Rg:=[iC 64 .add 36 1,iM 36 64]
def YL:aE:=(sq Tj (.seq (.cond (Tm 37) .skip (.exit 0)) (.seq (.block 1 (sq Hu (sq Hv (.seq (sq Hw (.cond (Tm 49) (.region Hx) .skip)) (sq YM (.region YN)))))) (.region YO))))
def YP:Rg:=[iM 65 6,iM 66 0,iN 67 66,iM 68 7,iA 69 (.conv .u32 (Tm 68)),iX 70 1 65 67,iS 1 70 69]
def YQ:Rg:=[iM 71 6,iK 72 141 71,iE 73 72 0,iE 74 72 1,iM 4 73,iM 5 74]
def OT:aE:=(sq Te (.seq (sq Tf (.cond (Tm 14) (sq lm .ret) .skip)) (dq Tg (.seq (sq Th (.cond (Tm 27) (.region Ti) .skip)) (sq ln (sq lz (.seq (sq l5 (.block 0 (.loop YL))) (sq YP (sq YQ .ret)))))))))
def asR:List Nat:=[]
def akZ:bC:=⟨2,75,OT,[.tmp 4,.tmp 5]⟩
def Um:Rg:=[iZ 4,iI 5 0]
def Un:Rg:=[iM 11 0,iK 12 137 11,iM 13 12,gM 14 1 13 false,gK 15 137 14 13 false,iQ 16 13 15,iM 10 16]
def mp:Rg:=[iZ 4,iI 5 2]
def Uo:Rg:=[iM 18 0,iM 19 1,iK2 20 129 18 19,iC 21 .lss 20 0,iM 17 21]
def Uq:Rg:=[iZ 4,iI 5 4]
def Ur:Rd:=[(iM 22 0,true),(iM 23 0,false),(iK 24 138 23,true),(iA 25 (.slice 1 (Tm 22) none (some (Tm 24)) none),true),(iM 26 1,true),(iM 27 1,true),(iK 28 138 27,true),(iA 29 (.slice 1 (Tm 26) none (some (Tm 28)) none),false),(iM 0 25,false),(iM 1 29,false)]
def mq:Rg:=[iM 30 0,iN 31 30,iA 32 (.aFF 1 4 [(.int .u32 0)] (Tm 31) (Tm 31)),iM 6 32]
def mr:Rg:=[iA 7 (.mv (.const (.int .u64 0)))]
def mu:Rg:=[iM 33 0,iN 34 33,iI 35 0]
def Us:Rg:=[iB 36 .lss 35 34]
def I8:Rg:=[iM 37 35,iM 8 37]
def I9:Rg:=[iM 38 0,iM 39 8,iX 40 1 38 39,iL 41 40,iA 42 (.conv .u64 (Tm 41)),iM 43 7,iB 44 .sub 42 43,iM 9 44]
def Ja:Rg:=[iM 45 8,iM 46 1,iN 47 46,iB 48 .lss 45 47]
def Jb:Rg:=[iM 49 9,iM 50 1,iM 51 8,iX 52 1 50 51,iL 53 52,iA 54 (.conv .u64 (Tm 53)),iB 55 .sub 49 54,iM 9 55]
def ZC:Rg:=[iM 56 6,iM 57 8,iM 58 9,iA 59 (.conv .u32 (Tm 58)),iX 60 1 56 57,iS 1 60 59]
def ZD:Rg:=[iM 61 9,iA 62 (.bin .shr (Tm 61) (.const (.int .u64 63))),iM 7 62]
def ZE:Rg:=[iC 63 .add 35 1,iM 35 63]
def ZB:aE:=(sq Us (.seq (.cond (Tm 36) .skip (.exit 1)) (.seq (.block 2 (sq I8 (sq I9 (.seq (sq Ja (.cond (Tm 48) (.region Jb) .skip)) (sq ZC (.region ZD)))))) (.region ZE))))
def ZF:Rg:=[iM 64 6,iK 65 141 64,iE 66 65 0,iE 67 65 1,iM 4 66,iM 5 67]
def PG:aE:=(sq Um (.seq (.block 0 (sq Un (.cond (Tm 10) (sq mp .ret) (sq Uo (.cond (Tm 17) (sq Uq .ret) .skip))))) (dq Ur (sq mq (sq mr (.seq (sq mu (.block 1 (.loop ZB))) (sq ZF .ret)))))))
def atL:List Nat:=[]
def alP:bC:=⟨2,68,PG,[.tmp 4,.tmp 5]⟩
def Ui:Rg:=[iZ 4,iI 5 0]
def Uj:Rg:=[iM 12 0,iK 13 137 12,iM 14 13,gM 15 1 14 false,gK 16 137 15 14 false,iQ 17 14 16]
def mg:Rg:=[iZ 4,iI 5 2]
def Uk:Rd:=[(iM 18 0,true),(iM 19 0,false),(iK 20 138 19,true),(iA 21 (.slice 1 (Tm 18) none (some (Tm 20)) none),true),(iM 22 1,true),(iM 23 1,true),(iK 24 138 23,true),(iA 25 (.slice 1 (Tm 22) none (some (Tm 24)) none),false),(iM 0 21,false),(iM 1 25,false)]
def mh:Rg:=[iM 26 0,iN 27 26,iM 28 1,iN 29 28,iB 30 .add 27 29,iA 31 (.aFF 1 4 [(.int .u32 0)] (Tm 30) (Tm 30)),iM 6 31]
def mi:Rg:=[iM 32 0,iN 33 32,iI 34 0]
def Ul:Rg:=[iB 35 .lss 34 33]
def mj:Rg:=[iM 36 34,iX 37 1 32 34,iL 38 37,iM 7 36,iM 8 38]
def ml:Rg:=[iA 9 (.mv (.const (.int .u64 0)))]
def mm:Rg:=[iM 39 1,iN 40 39,iI 41 0]
def Iy:Rg:=[iB 42 .lss 41 40]
def Iz:Rg:=[iM 43 41,iX 44 1 39 41,iL 45 44,iM 10 43,iM 11 45]
def I0:Rg:=[iM 46 9,iM 47 8,iA 48 (.conv .u64 (Tm 47)),iM 49 11,iA 50 (.conv .u64 (Tm 49)),iB 51 .mul 48 50,iM 52 6,iM 53 7,iM 54 10,iB 55 .add 53 54,iX 56 1 52 55,iL 57 56,iA 58 (.conv .u64 (Tm 57)),iB 59 .add 51 58,iB 60 .add 46 59,iM 9 60]
def I1:Rg:=[iM 61 6,iM 62 7,iM 63 10,iB 64 .add 62 63,iM 65 9,iA 66 (.conv .u32 (Tm 65)),iX 67 1 61 64,iS 1 67 66]
def I2:Rg:=[iM 68 9,iA 69 (.bin .shr (Tm 68) (.const (.int .u64 32))),iM 9 69]
def I3:Rg:=[iC 70 .add 41 1,iM 41 70]
def YV:aE:=(sq Iy (.seq (.cond (Tm 42) .skip (.exit 2)) (.seq (.block 3 (sq Iz (sq I0 (sq I1 (.region I2))))) (.region I3))))
def YX:Rg:=[iM 71 6,iM 72 7,iM 73 1,iN 74 73,iB 75 .add 72 74,iM 76 9,iA 77 (.conv .u32 (Tm 76)),iX 78 1 71 75,iS 1 78 77]
def I4:Rg:=[iC 79 .add 34 1,iM 34 79]
def YW:aE:=(sq Ul (.seq (.cond (Tm 35) .skip (.exit 0)) (.seq (.block 1 (sq mj (sq ml (.seq (sq mm (.block 2 (.loop YV))) (.region YX))))) (.region I4))))
def YY:Rg:=[iM 80 6,iK 81 141 80,iE 82 81 0,iE 83 81 1,iM 4 82,iM 5 83]
def PC:aE:=(sq Ui (.seq (sq Uj (.cond (Tm 17) (sq mg .ret) .skip)) (dq Uk (sq mh (.seq (sq mi (.block 0 (.loop YW))) (sq YY .ret))))))
def atJ:List Nat:=[]
def alM:bC:=⟨2,84,PC,[.tmp 4,.tmp 5]⟩
def Ib:Rg:=[iI 2 0]
def Ic:Rg:=[iM 6 0,iK 7 138 6,iM 3 7]
def Id:Rg:=[iM 8 3,iC 9 .eql 8 0]
def Ie:Rg:=[iI 2 0]
def If:Rg:=[iM 10 3,iC 11 .sub 10 1,iC 12 .mul 11 32,iM 4 12]
def Ig:Rg:=[iM 13 0,iM 14 3,iC 15 .sub 14 1,iX 16 1 13 15,iL 17 16,iM 5 17]
def Ih:Rg:=[iM 18 5,iA 19 (.bin .gtr (Tm 18) (.const (.int .u32 0)))]
def Ii:Rg:=[iM 22 4,iC 23 .add 22 1,iM 4 23]
def Ij:Rg:=[iM 20 5,iA 21 (.bin .shr (Tm 20) (.const (.int .u64 1))),iM 5 21]
def Ia:aE:=(.seq (sq Ih (.cond (Tm 19) .skip (.exit 0))) (.seq (.block 1 (.region Ii)) (.region Ij)))
def s9:Rg:=[iM 24 4,iM 2 24]
def JS:aE:=(sq Ib (sq Ic (.seq (sq Id (.cond (Tm 9) (sq Ie .ret) .skip)) (sq If (.seq (sq Ig (.block 0 (.loop Ia))) (sq s9 .ret))))))
def alC:List Nat:=[]
def Yh:bC:=⟨1,25,JS,[.tmp 2]⟩
def Ub:Rg:=[iZ 4,iI 5 0]
def Uc:Rg:=[iM 8 0,iK 9 137 8,iM 10 9,gM 11 1 10 false,gK 12 137 11 10 false,iQ 13 10 12]
def mf:Rg:=[iZ 4,iI 5 2]
def Ud:Rg:=[iM 14 0,iK 15 135 14,iM 16 1,iK 17 135 16,iM 0 15,iM 1 17]
def Ue:Rg:=[iM 18 1,iN 19 18,iC 20 .gtr 19 0]
def Uf:Rg:=[iM 22 0,iM 23 1,iK2 24 136 22 23,iM 21 24,iE 25 21 0,iE 26 21 1,iM 6 25,iM 7 26]
def Ug:Rg:=[iM 27 1,iM 28 7,iM 0 27,iM 1 28]
def Ua:aE:=(.seq (sq Ue (.cond (Tm 20) .skip (.exit 0))) (.block 1 (sq Uf (.region Ug))))
def Uh:Rg:=[iM 29 0,iM 4 29,iI 5 0]
def PB:aE:=(sq Ub (.seq (sq Uc (.cond (Tm 13) (sq mf .ret) .skip)) (sq Ud (.seq (.block 0 (.loop Ua)) (sq Uh .ret)))))
def atH:List Nat:=[]
def alI:bC:=⟨2,30,PB,[.tmp 4,.tmp 5]⟩
def Tx:Rg:=[iZ 4,iZ 5,iI 6 0]
def Tz:Rg:=[iM 10 0,iK 11 137 10,iM 12 11,gM 13 1 12 false,gK 14 137 13 12 false,iQ 15 12 14,iM 9 15]
def l7:Rg:=[iZ 4,iZ 5,iI 6 2]
def T0:Rg:=[iM 17 1,iK 18 138 17,iC 19 .eql 18 0,iM 16 19]
def T1:Rg:=[iZ 4,iZ 5,iI 6 3]
def T2:Rd:=[(iM 21 0,true),(iM 22 0,false),(iK 23 138 22,true),(iA 24 (.slice 1 (Tm 21) none (some (Tm 23)) none),true),(iM 25 1,true),(iM 26 1,true),(iK 27 138 26,true),(iA 28 (.slice 1 (Tm 25) none (some (Tm 27)) none),false),(iK2 29 136 24 28,true),(iM 20 29,false),(iE 30 20 0,false),(iE 31 20 1,false),(iM 7 30,false),(iM 8 31,false)]
def T3:Rg:=[iM 32 7,iM 33 8,iM 4 32,iM 5 33,iI 6 0]
def OX:aE:=(sq Tx (.seq (.block 0 (sq Tz (.cond (Tm 9) (sq l7 .ret) (sq T0 (.cond (Tm 16) (sq T1 .ret) .skip))))) (dq T2 (sq T3 .ret))))
def asY:List Nat:=[]
def alE:bC:=⟨2,34,OX,[.tmp 4,.tmp 5,.tmp 6]⟩
def tf:Rg:=[iZ 4,iA 5 (.mv (.const (.int .u32 0)))]
def tg:Rg:=[iM 9 0,iN 10 9,iA 11 (.aFF 1 4 [(.int .u32 0)] (Tm 10) (Tm 10)),iM 6 11]
def th:Rg:=[iA 7 (.mv (.const (.int .u64 0)))]
def ti:Rg:=[iM 12 0,iN 13 12,iC 14 .sub 13 1,iM 8 14]
def tj:Rg:=[iM 15 8,iC 16 .geq 15 0]
def tk:Rg:=[iM 19 7,iA 20 (.bin .shl (Tm 19) (.const (.int .u64 32))),iM 21 0,iM 22 8,iX 23 1 21 22,iL 24 23,iA 25 (.conv .u64 (Tm 24)),iB 26 .or 20 25,iM 7 26]
def tp:Rg:=[iM 27 6,iM 28 8,iM 29 7,iM 30 1,iA 31 (.conv .u64 (Tm 30)),iB 32 .quo 29 31,iA 33 (.conv .u32 (Tm 32)),iX 34 1 27 28,iS 1 34 33]
def tq:Rg:=[iM 35 7,iM 36 1,iA 37 (.conv .u64 (Tm 36)),iB 38 .rem 35 37,iM 7 38]
def tr:Rg:=[iM 17 8,iC 18 .sub 17 1,iM 8 18]
def te:aE:=(.seq (sq tj (.cond (Tm 16) .skip (.exit 0))) (.seq (.block 1 (sq tk (sq tp (.region tq)))) (.region tr)))
def ia:Rg:=[iM 39 6,iM 40 6,iK 41 138 40,iA 42 (.slice 1 (Tm 39) none (some (Tm 41)) none),iM 43 7,iA 44 (.conv .u32 (Tm 43)),iM 4 42,iM 5 44]
def EL:aE:=(sq tf (sq tg (sq th (.seq (sq ti (.block 0 (.loop te))) (sq ia .ret)))))
def adP:List Nat:=[]
def I6:bC:=⟨2,45,EL,[.tmp 4,.tmp 5]⟩
def adT:Rg:=[iZ 4]
def adU:Rg:=[iM 9 0,iN 10 9,iC 11 .add 10 1,iA 12 (.aFF 1 4 [(.int .u32 0)] (Tm 11) (Tm 11)),iM 5 12]
def adV:Rg:=[iA 6 (.mv (.const (.int .u64 0)))]
def adW:Rg:=[iM 13 0,iN 14 13,iI 15 0]
def adX:Rg:=[iB 16 .lss 15 14]
def adY:Rg:=[iM 17 15,iX 18 1 13 15,iL 19 18,iM 7 17,iM 8 19]
def adZ:Rg:=[iM 20 6,iM 21 8,iA 22 (.conv .u64 (Tm 21)),iM 23 1,iB 24 .shl 22 23,iB 25 .or 20 24,iM 6 25]
def aeA:Rg:=[iM 26 5,iM 27 7,iM 28 6,iA 29 (.conv .u32 (Tm 28)),iX 30 1 26 27,iS 1 30 29]
def aeB:Rg:=[iM 31 6,iA 32 (.bin .shr (Tm 31) (.const (.int .u64 32))),iM 6 32]
def aeC:Rg:=[iC 33 .add 15 1,iM 15 33]
def Ut:aE:=(sq adX (.seq (.cond (Tm 16) .skip (.exit 0)) (.seq (.block 1 (sq adY (sq adZ (sq aeA (.region aeB))))) (.region aeC))))
def Uu:Rg:=[iM 34 5,iM 35 0,iN 36 35,iM 37 6,iA 38 (.conv .u32 (Tm 37)),iX 39 1 34 36,iS 1 39 38]
def Uv:Rg:=[iM 40 5,iM 4 40]
def ZH:aE:=(sq adT (sq adU (sq adV (.seq (sq adW (.block 0 (.loop Ut))) (sq Uu (sq Uv .ret))))))
def awF:List Nat:=[]
def nup:bC:=⟨2,41,ZH,[.tmp 4]⟩
def gp:Rg:=[iZ 4,iZ 5]
def gq:Rg:=[iM 21 0,iM 22 1,iK2 23 129 21 22,iC 24 .lss 23 0]
def gr:Rg:=[iM 25 0,iK 26 135 25,iZ 4,iM 5 26]
def gs:Rg:=[iM 27 1,iN 28 27,iC 29 .eql 28 1]
def gt:Rg:=[iM 31 0,iM 32 1,iA 33 (.aFO 1 (Tm 32) (Ci 0)),iL 34 33,iK2 35 140 31 34,iM 30 35,iE 36 30 0,iE 37 30 1,iM 6 36,iM 7 37]
def gv:Rg:=[iM 38 6,iM 39 7,iA 40 (.conv .u64 (Tm 39)),iK 41 132 40,iM 4 38,iM 5 41]
def gw:Rg:=[iA 8 (.mv (.const (.int .u64 0)))]
def gx:Rg:=[iM 42 1,iM 43 1,iN 44 43,iC 45 .sub 44 1,iX 46 1 42 45,iL 47 46,iM 48 8,iB 49 .shl 47 48,iA 50 (.bin .lss (Tm 49) (.const (.int .u32 2147483648)))]
def gy:Rg:=[iM 51 8,iA 52 (.bin .add (Tm 51) (.const (.int .u64 1))),iM 8 52]
def gn:aE:=(.seq (sq gx (.cond (Tm 50) .skip (.exit 0))) (.block 1 (.region gy)))
def TY:Rd:=[(iM 53 0,false),(iM 54 8,false),(iK2 55 143 53 54,true),(iM 56 1,true),(iM 57 8,true),(iK2 58 143 56 57,true),(iM 59 1,true),(iN 60 59,true),(iA 61 (.slice 1 (Tm 58) none (some (Tm 60)) none),false),(iM 9 55,false),(iM 10 61,false)]
def TZ:Rg:=[iM 62 10,iN 63 62,iM 11 63]
def UA:Rg:=[iM 64 9,iN 65 64,iM 66 11,iB 67 .sub 65 66,iA 68 (.aFF 1 4 [(.int .u32 0)] (Tm 67) (Tm 67)),iM 12 68]
def UB:Rd:=[(iM 69 10,false),(iM 70 11,false),(iC 71 .sub 70 1,false),(iX 72 1 69 71,false),(iL 73 72,false),(iA 74 (.conv .u64 (Tm 73)),false),(iM 75 10,false),(iM 76 11,false),(iC 77 .sub 76 2,false),(iX 78 1 75 77,false),(iL 79 78,false),(iA 80 (.conv .u64 (Tm 79)),false),(iM 13 74,false),(iM 14 80,false)]
def UC:Rg:=[iM 81 12,iN 82 81,iC 83 .sub 82 1,iM 15 83]
def UD:Rg:=[iM 84 15,iC 85 .geq 84 0]
def DZ:Rd:=[(iM 88 9,false),(iM 89 15,false),(iM 90 11,false),(iB 91 .add 89 90,false),(iX 92 1 88 91,false),(iL 93 92,false),(iA 94 (.conv .u64 (Tm 93)),false),(iA 95 (.bin .shl (Tm 94) (.const (.int .u64 32))),false),(iM 96 9,false),(iM 97 15,false),(iM 98 11,false),(iB 99 .add 97 98,false),(iC 100 .sub 99 1,false),(iX 101 1 96 100,false),(iL 102 101,false),(iA 103 (.conv .u64 (Tm 102)),false),(iB 104 .or 95 103,false),(iM 16 104,false)]
def EA:Rd:=[(iM 105 16,false),(iM 106 13,false),(iB 107 .quo 105 106,false),(iM 108 16,false),(iM 109 13,false),(iB 110 .rem 108 109,false),(iM 17 107,false),(iM 18 110,false)]
def UE:Rg:=[iM 111 17,iA 112 (.bin .geq (Tm 111) (.const (.int .u64 4294967296))),iM 113 112,gM 114 17 113 false,gM 115 14 113 false,gB 116 .mul 114 115 113 false,gM 117 18 113 false,iG 118 (.bin .shl (Tm 117) (.const (.int .u64 32))) 113 false,gM 119 9 113 false,gM 120 15 113 false,gM 121 11 113 false,gB 122 .add 120 121 113 false,gC 123 .sub 122 2 113 false,iG 124 (.aFO 1 (Tm 119) (Tm 123)) 113 false,gL 125 124 113 false,iG 126 (.conv .u64 (Tm 125)) 113 false,gB 127 .or 118 126 113 false,gB 128 .gtr 116 127 113 false,iQ 129 113 128]
def EB:Rg:=[iM 130 17,iA 131 (.bin .sub (Tm 130) (.const (.int .u64 1))),iM 17 131]
def EC:Rg:=[iM 132 18,iM 133 13,iB 134 .add 132 133,iM 18 134]
def ED:Rg:=[iM 135 18,iA 136 (.bin .geq (Tm 135) (.const (.int .u64 4294967296)))]
def wM:aE:=(.seq (sq UE (.cond (Tm 129) .skip (.exit 4))) (.block 5 (sq EB (sq EC (sq ED (.cond (Tm 136) (.exit 4) .skip))))))
def EE:Rg:=[iM 137 9,iM 138 15,iM 139 15,iM 140 11,iB 141 .add 139 140,iC 142 .add 141 1,iA 143 (.slice 1 (Tm 137) (some (Tm 138)) (some (Tm 142)) none),iM 144 10,iM 145 17,iA 146 (.call 142 [(Tm 143),(Tm 144),(Tm 145)])]
def EF:Rg:=[iM 147 17,iA 148 (.bin .sub (Tm 147) (.const (.int .u64 1))),iM 17 148]
def EG:Rg:=[iM 149 9,iM 150 15,iM 151 15,iM 152 11,iB 153 .add 151 152,iC 154 .add 153 1,iA 155 (.slice 1 (Tm 149) (some (Tm 150)) (some (Tm 154)) none),iM 156 10,iK2 157 139 155 156]
def wN:Rg:=[iM 158 12,iM 159 15,iM 160 17,iA 161 (.conv .u32 (Tm 160)),iX 162 1 158 159,iS 1 162 161]
def UF:Rg:=[iM 86 15,iC 87 .sub 86 1,iM 15 87]
def DX:aE:=(.seq (sq UD (.cond (Tm 85) .skip (.exit 2))) (.seq (.block 3 (dq DZ (dq EA (.seq (.block 4 (.loop wM)) (.seq (sq EE (.cond (Tm 146) (sq EF (.region EG)) .skip)) (.region wN)))))) (.region UF)))
def EH:Rg:=[iM 163 11,iA 164 (.aFF 1 4 [(.int .u32 0)] (Tm 163) (Tm 163)),iM 19 164]
def EI:Rg:=[iM 165 19,iN 166 165,iI 167 0]
def UG:Rg:=[iB 168 .lss 167 166]
def UH:Rg:=[iM 169 167,iM 20 169]
def UI:Rd:=[(iM 170 19,false),(iM 171 20,false),(iM 172 9,false),(iM 173 20,false),(iC 174 .add 173 1,false),(iX 175 1 172 174,false),(iL 176 175,false),(iA 177 (.conv .u64 (Tm 176)),false),(iA 178 (.bin .shl (Tm 177) (.const (.int .u64 32))),false),(iM 179 9,false),(iM 180 20,false),(iX 181 1 179 180,false),(iL 182 181,false),(iA 183 (.conv .u64 (Tm 182)),false),(iB 184 .or 178 183,false),(iM 185 8,false),(iB 186 .shr 184 185,false),(iA 187 (.conv .u32 (Tm 186)),false),(iX 188 1 170 171,false),(iS 1 188 187,true)]
def UJ:Rg:=[iC 189 .add 167 1,iM 167 189]
def DY:aE:=(sq UG (.seq (.cond (Tm 168) .skip (.exit 6)) (.seq (.block 7 (sq UH (.draw UI))) (.region UJ))))
def UK:Rd:=[(iM 190 12,true),(iM 191 12,false),(iK 192 138 191,true),(iA 193 (.slice 1 (Tm 190) none (some (Tm 192)) none),true),(iM 194 19,true),(iM 195 19,true),(iK 196 138 195,true),(iA 197 (.slice 1 (Tm 194) none (some (Tm 196)) none),false),(iM 4 193,false),(iM 5 197,false)]
def AU:aE:=(sq gp (.seq (sq gq (.cond (Tm 24) (sq gr .ret) .skip)) (.seq (sq gs (.cond (Tm 29) (sq gt (sq gv .ret)) .skip)) (sq gw (.seq (.block 0 (.loop gn)) (dq TY (sq TZ (sq UA (dq UB (.seq (sq UC (.block 2 (.loop DX))) (sq EH (.seq (sq EI (.block 6 (.loop DY))) (dq UK .ret)))))))))))))
def Ym:List Nat:=[]
def l8:bC:=⟨2,198,AU,[.tmp 4,.tmp 5]⟩
def PJ:Rg:=[iT 6 false]
def PK:Rg:=[iA 7 (.mv (.const (.int .u64 0))),iA 8 (.mv (.const (.int .u64 0)))]
def PL:Rg:=[iM 13 1,iN 14 13,iI 15 0]
def PN:Rg:=[iB 16 .lss 15 14]
def PO:Rg:=[iM 17 15,iX 18 1 13 15,iL 19 18,iM 9 17,iM 10 19]
def PP:Rg:=[iM 20 7,iM 21 2,iM 22 10,iA 23 (.conv .u64 (Tm 22)),iB 24 .mul 21 23,iB 25 .add 20 24,iM 7 25]
def PQ:Rg:=[iM 26 0,iM 27 9,iX 28 1 26 27,iL 29 28,iA 30 (.conv .u64 (Tm 29)),iM 31 7,iA 32 (.bin .and (Tm 31) (.const (.int .u64 4294967295))),iB 33 .sub 30 32,iM 34 8,iB 35 .sub 33 34,iM 11 35]
def PR:Rg:=[iM 36 0,iM 37 9,iM 38 11,iA 39 (.conv .u32 (Tm 38)),iX 40 1 36 37,iS 1 40 39]
def PS:Rg:=[iM 41 11,iA 42 (.bin .shr (Tm 41) (.const (.int .u64 63))),iM 8 42]
def PT:Rg:=[iM 43 7,iA 44 (.bin .shr (Tm 43) (.const (.int .u64 32))),iM 7 44]
def MM:Rg:=[iC 45 .add 15 1,iM 15 45]
def ML:aE:=(sq PN (.seq (.cond (Tm 16) .skip (.exit 0)) (.seq (.block 1 (sq PO (sq PP (sq PQ (sq PR (sq PS (.region PT))))))) (.region MM))))
def MN:Rg:=[iM 46 0,iM 47 1,iN 48 47,iX 49 1 46 48,iL 50 49,iA 51 (.conv .u64 (Tm 50)),iM 52 7,iB 53 .sub 51 52,iM 54 8,iB 55 .sub 53 54,iM 12 55]
def MO:Rg:=[iM 56 0,iM 57 1,iN 58 57,iM 59 12,iA 60 (.conv .u32 (Tm 59)),iX 61 1 56 58,iS 1 61 60]
def MP:Rg:=[iM 62 12,iA 63 (.bin .shr (Tm 62) (.const (.int .u64 63))),iA 64 (.bin .eql (Tm 63) (.const (.int .u64 1))),iM 6 64]
def vO:aE:=(sq PJ (sq PK (.seq (sq PL (.block 0 (.loop ML))) (sq MN (sq MO (sq MP .ret))))))
def Je:List Nat:=[]
def PI:bC:=⟨3,65,vO,[.tmp 6]⟩
def UM:Rg:=[iA 4 (.mv (.const (.int .u64 0)))]
def UN:Rg:=[iM 7 1,iN 8 7,iI 9 0]
def UO:Rg:=[iB 10 .lss 9 8]
def UP:Rg:=[iM 11 9,iX 12 1 7 9,iL 13 12,iM 5 11,iM 6 13]
def UQ:Rg:=[iM 14 4,iM 15 0,iM 16 5,iX 17 1 15 16,iL 18 17,iA 19 (.conv .u64 (Tm 18)),iM 20 6,iA 21 (.conv .u64 (Tm 20)),iB 22 .add 19 21,iB 23 .add 14 22,iM 4 23]
def UR:Rg:=[iM 24 0,iM 25 5,iM 26 4,iA 27 (.conv .u32 (Tm 26)),iX 28 1 24 25,iS 1 28 27]
def US:Rg:=[iM 29 4,iA 30 (.bin .shr (Tm 29) (.const (.int .u64 32))),iM 4 30]
def UT:Rg:=[iC 31 .add 9 1,iM 9 31]
def UL:aE:=(sq UO (.seq (.cond (Tm 10) .skip (.exit 0)) (.seq (.block 1 (sq UP (sq UQ (sq UR (.region US))))) (.region UT))))
def UU:Rg:=[iM 32 0,iM 33 1,iN 34 33,iX 35 1 32 34,iL 36 35,iM 37 4,iA 38 (.conv .u32 (Tm 37)),iB 39 .add 36 38,iX 40 1 32 34,iS 1 40 39]
def xU:aE:=(sq UM (.seq (sq UN (.block 0 (.loop UL))) (.region UU)))
def Od:List Nat:=[]
def ZA:bC:=⟨2,41,xU,[]⟩
open Go Go.RowKit Go.ChangeShapes Go.WideShapes
inductive AT where
 | one (ct:CT)
 | struct (cts:List CT)
 deriving Inhabited
def Wi (P:Program) (n:Nat) (t:TypeId):Option AT :=
 match P.underlying t with
 | some .bool=>some (.one .bool)
 | some (.int k)=>some (.one (.int k))
 | some .string=>some (.one .str)
 | some (.slice _)=>match iD P n t with
  | some [ct]=>some (.one ct)
  | _=>none
 | some (.struct _)=>(iD P n t).map .struct
 | _=>none
def FW (P:Program) (n:Nat):List TypeId→Option (List AT)
 | []=>some []
 | t::ts=>match Wi P n t,FW P n ts with
  | some a,some e=>some (a::e)
  | _,_=>none
inductive AT.Ty:AT→PV→Prop
 | one {ct:CT} {pv:PV} (h:PV.Ty ct pv):AT.Ty (.one ct) pv
 | struct {cts:List CT} {pvs:List PV} (hl:pvs.length=cts.length) (h:∀ (j:Nat) pv ct,pvs[j]?=some pv→cts[j]?=some ct→PV.Ty ct pv):AT.Ty (.struct cts) (.agg pvs)
def AT.TyL:List AT→List PV→Prop
 | [],[]=>True
 | a::e,p::ps=>AT.Ty a p∧AT.TyL e ps
 | _,_=>False
section
variable {H:Type} {enc:TypeId × Value→H} {P:Program} {W:World} {sp:Nat→Bool} {held:Bool}
theorem avK {r:Reach} {base:Nat} (num:Nat→FuncId) {t:TypeId} {v:Value} {d:DataW H} {ps:List MemPlace} {n:Nat} {a:AT}
  (j:Value.okWide P W r base t v) (A:DataW.Trod enc P W 0 sp held t v d ps) (u:Wi P n t=some a):∃ pv,aS (Env.of W num) pv v∧AT.Ty a pv:=by
 unfold Wi at u;cases n with
 | zero =>
  split at u
  ·rename_i l;cases u;obtain⟨b,rfl⟩:=okWide_bool l j;obtain⟨pv,w,y⟩:=vD (n:=1) (ct:=.bool) num (by simp[Value.cells]) A (by simp[iD,l]);exact⟨pv,w,.one y⟩
  ·rename_i k l;cases u;obtain⟨b,rfl⟩:=okWide_int l j;obtain⟨pv,w,y⟩:=vD (n:=1) (ct:=.int k) num (by simp[Value.cells]) A (by simp[iD,l]);exact⟨pv,w,.one y⟩
  ·rename_i l;cases u;obtain⟨b,rfl⟩:=okWide_string l j;obtain⟨pv,w,y⟩:=vD (n:=1) (ct:=.str) num (by simp[Value.cells]) A (by simp[iD,l]);exact⟨pv,w,.one y⟩
  ·simp[iD] at u
  ·simp[iD] at u
  ·cases u
 | succ n =>
  split at u
  ·rename_i l;cases u;obtain⟨b,rfl⟩:=okWide_bool l j;obtain⟨pv,w,y⟩:=vD (n:=n+1) (ct:=.bool) num (by simp[Value.cells]) A (by simp[iD,l]);exact⟨pv,w,.one y⟩
  ·rename_i k l;cases u;obtain⟨b,rfl⟩:=okWide_int l j;obtain⟨pv,w,y⟩:=vD (n:=n+1) (ct:=.int k) num (by simp[Value.cells]) A (by simp[iD,l]);exact⟨pv,w,.one y⟩
  ·rename_i l;cases u;obtain⟨b,rfl⟩:=okWide_string l j;obtain⟨pv,w,y⟩:=vD (n:=n+1) (ct:=.str) num (by simp[Value.cells]) A (by simp[iD,l]);exact⟨pv,w,.one y⟩
  ·rename_i e l;split at u
   ·rename_i ct B;cases u;obtain⟨x,len,cap,rfl⟩:=okWide_slice l j;obtain⟨pv,w,y⟩:=vD num (by simp[Value.cells]) A B;exact⟨pv,w,.one y⟩
   ·cases u
  ·rename_i I l;rw[aGT] at u;obtain⟨cts,B,rfl⟩:=u;obtain⟨F,w,y,E⟩:=Wj num l j A B;exact⟨_,w,.struct y E⟩
  ·cases u
theorem Ow {r:Reach} {base:Nat} (num:Nat→FuncId) {n:Nat}:∀ {ts:List TypeId} {vs:List Value} {ds:List (DataW H)} {ps:List MemPlace} {l:List AT},DataW.TrodAll enc P W 0 sp held ts vs ds ps →
  (∀ (j:Nat) t v,ts[j]?=some t→vs[j]?=some v→Value.okWide P W r base t v)→FW P n ts=some l→∃ e,eR (Env.of W num) e vs∧AT.TyL l e
 | [],[],_,_,l,_,_,h=>by simp[FW] at h;subst h;exact⟨[],.nil,trivial⟩
 | [],_::_,_,_,_,h,_,_=>h.elim
 | _::_,[],[],_,_,h,_,_=>h.elim
 | _::_,[],_::_,_,_,h,_,_=>h.elim
 | _::_,_::_,[],_,_,h,_,_=>h.elim
 | t::ts,v::vs,d::ds,ps,l,h,w,u=>by
  obtain⟨p,q,B,E,rfl⟩:=h;simp only[FW] at u;split at u
  ·rename_i a x y A;cases u;obtain⟨pv,r1,F⟩:=avK num (w 0 t v rfl rfl) B y;obtain⟨e,r2,I⟩:=Ow num E (fun j t v a b=>w (j+1) t v (by simpa using a) (by simpa using b)) A;exact⟨pv::e,.cons r1 r2,F,I⟩
  ·cases u
theorem TrodAll.length:∀ {ts:List TypeId} {vs:List Value} {ds:List (DataW H)} {ps:List MemPlace},DataW.TrodAll enc P W 0 sp held ts vs ds ps→ds.length=ts.length
 | [],[],[],_,_=>rfl
 | [],[],_::_,_,h=>h.elim
 | [],_::_,_,_,h=>h.elim
 | _::_,[],[],_,h=>h.elim
 | _::_,[],_::_,_,h=>h.elim
 | _::_,_::_,[],_,h=>h.elim
 | t::ts,v::vs,d::ds,ps,h=>by obtain⟨p,q,j,e,rfl⟩:=h;simp[TrodAll.length e]
end
theorem Ah {H:Type} {enc:TypeId × Value→H} {P:Program} {f:FuncId} {fn:Func} {s:ChangeSpec} {apart fresh l:Bool} {bt:TypeId} {num:Nat→FuncId} {name n:Nat} {ats:List AT}
  (U:laidOutB P=true) (K:fn.params.toList.all (fun t=>P.readableRec t&&decide (t<P.types.size))=true) (I:fn.resultTypes=#[bt]) (F:P.underlying bt=some .bool) (O:s.vars=[])
  (X:∀ ds:List (DataW H),ds.length=fn.params.toList.length→(s.fn H ds).results=[.lit (.bool true)]∧(s.fn H ds).args=ds∧(s.fn H ds).vars=[])
  (y:num name=f) (S:FW P n fn.params.toList=some ats) (h:∀ w,AT.TyL ats w→aG ⟨P,num⟩ name w PH.nil (aM (.bool true)))
  {W:World} {base:Nat} {args:Array Value} {ds R:List (DataW H)} {u:List MemPlace}
  (B:∀ (j:Nat) t v,fn.params[j]?=some t→args[j]?=some v→Value.okWide P W .any base t v) (hW:DataW.Whole enc P fn.params.toList s.vars apart W args.toList ds R u) :
  Calls P f args W fun e M=>∃ v,e=.returned v∧s.post enc P fn apart fresh l false W args v M:=by
 have A:∀ t∈fn.params.toList,P.readableRec t=true∧t<P.types.size:=fun t J=>by have:=aIA.1 K t J;simpa using this
 have E:=hW;obtain⟨p,q,N,hV,rfl,Z,Y⟩:=hW;rw[O] at hV;obtain⟨rfl,rfl⟩:=trodVars_none hV;obtain⟨w,V,J⟩:=Ow num N (fun j t v a b=>B j t v (by simpa using a) (by simpa using b)) S;have x:=TrodAll.length N;subst y;obtain⟨r1,r2,r3⟩:=X (ds++[]) (by simpa using x);refine (acH (C:=⟨P,num⟩) (h w J) V).mono fun e M he=>?_;obtain⟨rfl,hb⟩:=he;exact⟨_,rfl,aeK U E hb A I F O r1 (by rw[r2]; simp) r3⟩
attribute [go_sem] qO jA setCells PV.cells PV.one bZ storeAt cX loadCells dH bnd PV.slice PV.intOf PV.eqs PV.eq1 PV.un keyOf KS.of KS.ofs KS.sh List.all_cons List.all_nil List.set_cons_zero List.set_cons_succ aHK aIY aHA aID aIA Bool.and_self
attribute [go_sem] Bool.bne_false Bool.bne_true Int.le_refl Int.lt_irrefl decide_true decide_false exists_eq_left exists_eq_left' aGK aKK aJN Int.natCast_nonneg Option.isSome_some Option.isSome_none aJF Option.getD_none decide_eq_true_eq decide_eq_false_iff_not aHE aIC aGQ Nat.sub_zero
def bY (xs:List Int):List (List PV):=xs.map fun n=>[.int .i64 n]
theorem bB {a b:Int} (h:a≠b):(a==b)=false:=by simp[h]
theorem bM {a b:Int} (h:a=b):(a==b)=true:=by simp[h]
theorem dN {a b:Int} (h:a≠b):(a != b)=true:=by simp[h]
theorem cK {a b:Int} (h:a=b):(a != b)=false:=by simp[h]
section
variable {H:PH}
@[go_sem] theorem PH.set_set (o:Nat) (x y:bG):(H.set o x).set o y=H.set o y:=PH.ext fun q=>by
 simp only[aP]; split<;>rfl
@[go_sem] theorem cM (o:Nat) (x:bG):(H.set o x) o=some x:=by simp only[aP,if_true]
end
section
variable {C:Ctx} {K:cG} {F:PF} {H:PH}
theorem PH.oH (o:Nat) (x:bG):H.over .nil (PH.nil.set o x)=H.set o x:=PH.ext fun q=>by
 rw[pF]; simp only[aP,ku]; split<;>simp_all
theorem PH.qE (o:Nat) (x y:bG):H.over (PH.nil.set o x) (PH.nil.set o y)=H.set o y:=PH.ext fun q=>by
 rw[pF]; simp only[aP,ku]; split<;>simp_all
theorem dU {name:Nat} {vs:List PV} {e:PH} {R:PV→PH→Prop} {args:List aN} {d:Option Nat} {K:PF→PH→Prop} (h:aG C name vs e R) (l:aN.evs F args=some vs) (j:e.le H)
  (u:∀ r H',R r H'→lI H e H'→K (F.put d r) (H.over e H')):gA C name args [] d K F H :=
 .inl ⟨vs,e,R,by rw[l]; simp,j,h,u⟩
theorem aU {res:List dW} {R:PV→PH→Prop} {vs:List PV} {e:kE} (he:e=.normal∨e=.ret) (j:PH) (h:dW.evs F H res=some vs) (l:j.le H) (A:R (cZ vs) j):aT res R e F H:=by
 have w:∃ vs,dW.evs F H res=some vs∧∃ x y H2,jF (PF.nil.set 0 (cZ vs)) H x y∧H2.le y∧∃ u,x 0=some u∧R u H2 :=
  ⟨vs,h,_,H,j,.refl _ _,l,cZ vs,by rw[mR,if_pos rfl],A⟩
 rcases he with rfl | rfl<;>exact w
theorem J4 {t o s k:Nat} {rs:List (List PV)} {R:PV→PH→Prop} {e:kE} (he:e=.normal∨e=.ret) (h:F t=some (.osl o s 0 k)) (y:H o=some (.rows s rs)) (A:k≤rs.length) (x:R (.sl s (rs.take k)) .nil) :
  aT [.tmp t] R e F H:=by
 have j:∃ vs,dW.evs F H [.tmp t]=some vs∧∃ l w H2,jF (PF.nil.set 0 (cZ vs)) H l w∧H2.le w∧∃ u,l 0=some u∧R u H2:=by refine⟨[.osl o s 0 k],by rw[kY,oJ,h,pH],_,_,.nil,.step o y (.refl _ _),a_,.sl s (rs.take k),?_,x⟩;have:0+k≤rs.length:=Om;simp only[PF.frz,mR,if_true,cZ,aHS,PV.frz,PV.pZ,PV.bV,true_and,if_pos this,aHW]
 rcases he with rfl | rfl<;>exact j
def cD (v:PV) (r:PV) (H:PH):Prop:=Co r v∧H=PH.nil
theorem aG.awN {name:Nat} {args:List PV} {H:PH} {v:PV} (h:aG C name args H (cD v)):aG C name args H (aM v) :=
 h.post fun r H' ⟨e,j⟩=>⟨v,e,rfl,j⟩
theorem aM.awN {v r:PV} {H:PH} (h:aM v r H):cD v r H:=by
 obtain⟨rfl,rfl⟩:=h;exact⟨.refl _,rfl⟩
theorem BF {s b:Nat} {y:PV} {src:List (List PV)} {K:PV→PH→Prop} (u:dH H s y=some src) (l:roomFor 0 src.length b) (e:src=[]→K .aA H)
  (j:src≠[]→∀ o,H o=none→K (.osl o s 0 src.length) (H.set o (.rows s src))):mS H s b .aA y K:=⟨src,u,l,e,j⟩
theorem No {o s b len:Nat} {rs:List (List PV)} {y:PV} {src:List (List PV)} {K:PV→PH→Prop} (A:dH H s y=some src) (x:roomFor len src.length b) (w:H o=some (.rows s rs)) (u:len≤rs.length)
  (j:K (.osl o s 0 (len+src.length)) (H.set o (.rows s (rs.take len++src))))
  (l:∀ e,H e=none→K (.osl e s 0 (len+src.length)) (H.set e (.rows s (rs.take len++src)))):mS H s b (.osl o s 0 len) y K :=
 ⟨src,A,rfl,rfl,x,rs,w,u,j,l⟩
end
def bA (H:PH) (s:Nat) (v:PV) (rows:List (List PV)):Prop :=
 (rows=[]∧v=.aA)∨∃ q rs,v=.osl q s 0 rows.length∧H q=some (.rows s rs)∧rows.length≤rs.length∧rs.take rows.length=rows
def Seen (s:Nat) (v:PV) (rows:List (List PV)):Prop:=(rows=[]∧v=.aA)∨v=.sl s rows
section
variable {C:Ctx} {K:cG} {F:PF} {H:PH} {s b:Nat} {v y:PV} {rows src:List (List PV)}
theorem bA.nil:bA H s .aA []:=.inl ⟨rfl,rfl⟩
theorem bA.aoA (h:bA H s v rows):dH H s v=some rows:=by
 rcases h with ⟨rfl,rfl⟩ | ⟨q,rs,rfl,h1,h2,h3⟩
 ·rfl
 ·have:0+rows.length≤rs.length:=Om;simp only[dH,if_true,h1,true_and,if_pos this,aHW,h3]
theorem Seen.aoA (h:Seen s v rows):dH H s v=some rows:=by
 rcases h with ⟨rfl,rfl⟩ | rfl
 ·rfl
 ·simp[dH]
theorem bA.ext {H':PH} (h:bA H s v rows) (e:∀ o x,H o=some x→H' o=some x):bA H' s v rows:=by
 rcases h with h | ⟨q,rs,h0,h1,h2,h3⟩
 ·exact .inl h
 ·exact .inr ⟨q,rs,h0,e q _ h1,h2,h3⟩
theorem jP {K:PV→PH→Prop} (h:bA H s v rows) (J:dH H s y=some src) (I:roomFor rows.length src.length b)
  (E:∀ v' H',bA H' s v' (rows++src)→(∀ o x,H o=some x→(∀ l,v≠.osl o s 0 l)→H' o=some x)→K v' H'):mS H s b v y K:=by
 rcases h with ⟨rfl,rfl⟩ | ⟨q,rs,rfl,h1,h2,h3⟩
 ·refine⟨src,J,I,fun e=>?_,fun e o A=>?_⟩
  ·subst e;exact E _ _ (.inl ⟨rfl,rfl⟩) fun o x A _=>A
  ·refine E _ _ (.inr ⟨o,src,rfl,by simp only[aP,if_true],aGQ _,by simp⟩) fun B x j _=>?_;have:B≠o:=by rintro rfl; rw[A] at j; cases j
   simp only[aP,if_neg this,j]
 ·have u:(rows++src).length=rows.length+src.length:=aGO;refine⟨src,J,rfl,rfl,I,rs,h1,h2,?_,fun o A=>?_⟩
  ·rw[h3];refine E _ _ (.inr ⟨q,rows++src,by rw[u],by simp only[aP,if_true],aGQ _,aHV⟩) fun B x j w=>?_;have:B≠q:=by rintro rfl; exact w _ rfl
   simp only[aP,if_neg this,j]
  ·rw[h3];refine E _ _ (.inr ⟨o,rows++src,by rw[u],by simp only[aP,if_true],aGQ _,aHV⟩) fun B x j w=>?_;have M:B≠o:=by rintro rfl; rw[A] at j; cases j
   simp only[aP,if_neg M,j]
def Pure (u:PV):Prop:=∀ q s rs,PV.frz q s rs u=u
theorem bA.frz (h:bA H s v rows):∃ j,Seen s j rows∧∀ F:PF,∃ e l,jF F H e l∧(∀ t,F t=some v→e t=some j)∧∀ i u,F i=some u→Pure u→e i=some u:=by
 rcases h with ⟨rfl,rfl⟩ | ⟨q,rs,rfl,h1,h2,h3⟩
 ·exact⟨.aA,.inl ⟨rfl,rfl⟩,fun F=>⟨F,H,.refl _ _,fun t h=>h,fun i u h _=>h⟩⟩
 ·refine⟨.sl s rows,.inr rfl,fun F=>⟨_,_,.step q h1 (.refl _ _),fun t x=>?_,fun i u hi w=>?_⟩⟩
  ·have:0+rows.length≤rs.length:=Om;simp only[PF.frz,x,aHS,PV.frz,PV.pZ,PV.bV,if_true,true_and,if_pos this,aHW,h3]
  ·simp only[PF.frz,hi,aHS];rw[w]
theorem yU {t:Nat} {e:kE} (he:e=.normal∨e=.ret) (h:bA H s v rows) (j:F t=some v):aT [.tmp t] (cD (.sl s rows)) e F H:=by
 rcases h with ⟨rfl,rfl⟩ | ⟨q,rs,rfl,h1,h2,h3⟩
 ·exact aU (vs:=[.aA]) he .nil (by rw[kY,oJ,j,pH]) a_ ⟨.nil s,rfl⟩
 ·exact J4 he j h1 h2 ⟨by rw[h3]; exact .refl _,rfl⟩
end
end Go.PM
namespace Go.PM
open Go
section
variable {C:Ctx} {F:PF} {H:PH}
@[go_sem] theorem oF (o s:Nat) (rs:List (List PV)) (i:Nat):(F.frz o s rs) i=(F i).map (PV.frz o s rs):=(rfl)
theorem rB {name t o s k:Nat} {rs:List (List PV)} {v:PV} {d:Option Nat} {K:PF→PH→Prop} (h:aG C name [.sl s (rs.take k)] .nil (aM v)) (l:F t=some (.osl o s 0 k)) (j:H o=some (.rows s rs)) (u:k≤rs.length)
  (e:K ((F.frz o s rs).put d v) (H.frz o s rs)):gA C name [.tmp t] [] d K F H:=by
 refine .inr ⟨_,_,.step o j (.refl _ _),[.sl s (rs.take k)],.nil,aM v,?_,a_,h,?_⟩
 ·have:0+k≤rs.length:=Om;simp only[AG,SC,bw,oF,l,aHS,PV.frz,PV.pZ,PV.bV,if_true,true_and,if_pos this,aHW,aHY]
 ·rintro r H' ⟨rfl,rfl⟩ -;rw[PH.kW];exact e
end
end Go.PM
namespace Go.Na
def val:List Nat→Nat
 | []=>0
 | x::xs=>x+4294967296*val xs
def Lim (xs:List Nat):Prop:=∀ x∈xs,x<4294967296
def aK (n:Nat):List Nat:=if h:n=0 then [] else (n%4294967296)::aK (n/4294967296)
termination_by n
decreasing_by exact Nat.div_lt_self (aJE h) (by decide)
def nl (n:Nat):Nat:=(aK n).length
theorem gV:aK 0=[]:=by rw[aK]; simp
theorem sW {n:Nat} (h:n≠0):aK n=(n%4294967296)::aK (n/4294967296):=by rw[aK]; simp[h]
theorem pD {n:Nat} (h:n≠0) (hb:n<4294967296):aK n=[n]:=by
 rw[sW h,aIB hb,aJR hb,gV]
theorem aY (n:Nat):val (aK n)=n:=by
 induction n using Nat.strongRecOn with
 | _ n e =>
  by_cases h:n=0
  ·subst h; rw[gV]; rfl
  ·rw[sW h,val,e _ (Nat.div_lt_self (aJE h) (by decide))];exact Nat.mod_add_div n 4294967296
theorem bE (n:Nat):Lim (aK n):=by
 induction n using Nat.strongRecOn with
 | _ n e =>
  by_cases h:n=0
  ·subst h; rw[gV]; intro x hx; cases hx
  ·rw[sW h];intro x hx;rw[aGV] at hx;rcases hx with rfl | hx
   ·exact aIG _ (by decide)
   ·exact e _ (Nat.div_lt_self (aJE h) (by decide)) x hx
theorem zX:nl 0=0:=by rw[nl,gV]; rfl
theorem adK {n:Nat} (h:n≠0):nl n=nl (n/4294967296)+1:=by rw[nl,sW h]; rfl
theorem jM (n k:Nat):nl n≤k↔n<4294967296 ^ k:=by
 induction k generalizing n with
 | zero =>
  by_cases h:n=0
  ·subst h; simp[zX]
  ·rw[adK h]; simp; omega
 | succ k e =>
  by_cases h:n=0
  ·subst h; simp[zX,aJL]
  ·rw[adK h,Nat.succ_le_succ_iff,e,aIL,aJT (by decide)]
theorem lM {n:Nat}:nl n=0↔n=0:=by
 have:=jM n 0;simp at this;exact this
theorem gW (xs e:List Nat):val (xs++e)=val xs+4294967296 ^ xs.length*val e:=by
 induction xs with
 | nil=>simp[val]
 | cons x xs j =>simp only[List.cons_append,val,aIF,j,aIL];rw[aGX,aJB,← aHI,aHL 4294967296 (4294967296 ^ xs.length)]
theorem fL {xs:List Nat} (h:Lim xs):val xs<4294967296 ^ xs.length:=by
 induction xs with
 | nil=>simp[val]
 | cons x xs l =>have u:=h x (by simp);have e:=l fun y j=>h y (by simp[j]);simp only[val,aIF,aIL];have:4294967296*(val xs+1)≤4294967296*4294967296 ^ xs.length:=aJD _ e;rw[aGX,Nat.mul_one] at this;rw[aHL (4294967296 ^ xs.length)];omega
theorem Lim.app {xs j:List Nat} (h:Lim xs) (k:Lim j):Lim (xs++j):=fun x e=>by
 rw[aHQ] at e;exact e.elim (h x) (k x)
theorem Lim.take {xs:List Nat} (h:Lim xs) (n:Nat):Lim (xs.take n):=fun x e=>h x (List.mem_of_mem_take e)
theorem Lim.drop {xs:List Nat} (h:Lim xs) (n:Nat):Lim (xs.drop n):=fun x e=>h x (List.mem_of_mem_drop e)
theorem Lim.set {xs:List Nat} (h:Lim xs) (i:Nat) {v:Nat} (e:v<4294967296):Lim (xs.set i v):=fun x j=>by
 rcases List.mem_or_eq_of_mem_set j with h1 | h1
 ·exact h x h1
 ·subst h1; exact e
theorem xF (n:Nat):Lim (aGM n 0):=fun x e=>by
 rw[List.mem_replicate] at e; rw[e.2]; decide
theorem tF (n:Nat):val (aGM n 0)=0:=by
 induction n with
 | zero=>rfl
 | succ n e=>simp[List.replicate_succ,val,e]
theorem acO {xs:List Nat} (h:Lim xs) (B:∀ x,xs.getLast?=some x→x≠0):aK (val xs)=xs:=by
 induction xs with
 | nil=>simp[val,gV]
 | cons x xs M =>
  have w:=h x (by simp);have A:Lim xs:=fun y J=>h y (by simp[J]);cases xs with
  | nil =>have:=B x (by simp);simp only[val,Nat.mul_zero,aIC];exact pD this w
  | cons y l =>
   have j:=M A fun z K=>B z (by rw[List.getLast?_cons_cons]; exact K);have I:val (y::l)≠0:=fun e=>by rw[e,gV] at j; cases j
   have u:x+4294967296*val (y::l)≠0:=by have:0<4294967296*val (y::l):=Nat.mul_pos (by decide) (aJE I);omega
   show aK (x+4294967296*val (y::l))=_;rw[sW u];have E:(x+4294967296*val (y::l))%4294967296=x:=by rw[Nat.add_mul_mod_self_left,aIB w]
   have F:(x+4294967296*val (y::l))/4294967296=val (y::l):=by rw[Nat.add_mul_div_left _ _ (by decide),aJR w,aHE]
   rw[E,F,j]
theorem Nb {xs:List Nat} {n:Nat} (h:∀ j x,n≤j→xs[j]?=some x→x=0):val (xs.take n)=val xs:=by
 have e:xs.drop n=aGM (xs.drop n).length 0:=by apply aJV (by simp);intro i l u;rw[List.getElem_replicate,List.getElem_drop];exact h (n+i) _ Om (aGS _)
 conv=>rhs; rw[← aJH n xs,gW,e,tF]
 simp
theorem KV {xs:List Nat} (y:Lim xs) {n:Nat} (w:n≤xs.length) (h:∀ j x,n≤j→xs[j]?=some x→x=0) (u:∀ x,0<n→xs[n-1]?=some x→x≠0):xs.take n=aK (val xs):=by
 rw[← Nb h,acO (y.take n)];intro x l;rw[List.getLast?_eq_getElem?,aGY,aIT w] at l;rcases aIS n with e | e
 ·subst e; simp at l
 ·rw[List.getElem?_take_of_lt Om] at l;exact u x e l
theorem Vd {xs:List Nat} (u:Lim xs) {n:Nat} (l:n≤xs.length) (h:∀ j x,n≤j→xs[j]?=some x→x=0) (e:∀ x,0<n→xs[n-1]?=some x→x≠0):nl (val xs)=n:=by
 rw[nl,← KV u l h e,aGY]; omega
theorem fY {xs:List Nat} (h:Lim xs):nl (val xs)≤xs.length:=(jM _ _).2 (fL h)
theorem kZ {xs : List Nat} (h : Lim xs) : xs.take (nl (val xs)) = aK (val xs) := by
  have hl := fY h;have e : val (xs.take (nl (val xs)) ++ xs.drop (nl (val xs))) = val xs := by rw [aJH]
  rw [gW, aGY, aIT hl] at e;have h1 := fL (h.take (nl (val xs)));rw [aGY, aIT hl] at h1;have h2 := (jM (val xs) (nl (val xs))).1 (aGQ _);have hd : val (xs.drop (nl (val xs))) = 0 := by
    rcases aIS (val (xs.drop (nl (val xs)))) with h | h
    · exact h
    · have := aJD (4294967296 ^ nl (val xs)) h
      omega
  have hz : ∀ j x, nl (val xs) ≤ j → xs[j]? = some x → x = 0 := by
    have zero : ∀ ys : List Nat, val ys = 0 → ∀ y ∈ ys, y = 0 := by
      intro ys
      induction ys with
      | nil => intro _ y hy; cases hy
      | cons z zs ih =>
        intro hv y hy;simp only [val] at hv;rw [aGV] at hy;rcases hy with rfl | hy
        · omega
        · exact ih (by have : 4294967296 * val zs = 0 := Om
                       rcases Nat.mul_eq_zero.1 this with h | h
                       · cases h
                       · exact h) y hy
    intro j x hj hx;refine zero _ hd x ?_;rw [List.mem_iff_getElem?];exact ⟨j - nl (val xs), by rw [aJZ, Nat.add_sub_cancel' hj]; exact hx⟩
  refine KV h hl hz fun x hpos hx e => ?_;subst e;have hz2 : ∀ j x, nl (val xs) - 1 ≤ j → xs[j]? = some x → x = 0 := fun j y hj hy => by
    rcases aHD j (nl (val xs)) with h3 | h3
    · have : j = nl (val xs) - 1 := Om
      subst this; rw [hx] at hy; cases hy; rfl
    · exact hz j y h3 hy
  have h3 := Nb hz2;have h4 := fL (h.take (nl (val xs) - 1));rw [h3, aGY, aIT Om] at h4;have := (jM (val xs) (nl (val xs) - 1)).2 h4;omega
theorem K0 {xs:List Nat} (h:Lim xs) {n:Nat} (w:nl (val xs)=n+1):∃ x,xs[n]?=some x∧x≠0:=by
 have y:=fY h;refine⟨xs[n]'Om,aGS _,fun e=>?_⟩;have u:=kZ h;have j:=aY (val xs);rw[← u,w,aIR Om,e,gW] at j;simp only[val,Nat.mul_zero,aIC] at j;have l:=fL (h.take n);rw[j,aGY,aIT Om] at l;have:=(jM (val xs) n).2 l;omega
theorem tC (xs:List Nat) {k:Nat} (h:k<xs.length):val xs=val (xs.take k)+4294967296 ^ k*(xs[k]+4294967296*val (xs.drop (k+1))):=by
 conv=>lhs; rw[← aJH k xs,gW,aGY,aIT Om,aIZ h]
 rfl
theorem br {xs e:List Nat} (y:Lim xs) {k:Nat} (j:k<xs.length) (l:k<e.length) (x:xs.drop (k+1)=e.drop (k+1)) (h:xs[k]<e[k]):val xs<val e:=by
 rw[tC xs j,tC e l,x];have u:=fL (y.take k);rw[aGY,aIT Om] at u;have w:4294967296 ^ k*(xs[k]+4294967296*val (e.drop (k+1))+1)≤4294967296 ^ k*(e[k]+4294967296*val (e.drop (k+1))):=aJD _ Om;rw[aGX _ _ 1,Nat.mul_one] at w;omega
def eP (a b:Nat):Int:=if a<b then -1 else if b<a then 1 else 0
theorem nz {xs e:List Nat} {k:Nat} (j:k<xs.length) (l:k<e.length) (u:xs.drop (k+1)=e.drop (k+1)) (h:xs[k]=e[k]):xs.drop k=e.drop k:=by
 rw[aIZ j,aIZ l,u,h]
theorem jW {a b:Nat} (h:a≤b):nl a≤nl b:=(jM a _).2 (Nat.lt_of_le_of_lt h ((jM b _).1 (aGQ _)))
theorem Ae {xs:List Nat} (h:Lim xs) {j:Nat} (l:j<nl (val xs)):∃ (u:j<xs.length) (w:j<(aK (val xs)).length),xs[j]=(aK (val xs))[j]:=by
 have x:=fY h;refine⟨by omega,l,?_⟩;have e:=kZ h;have:(xs.take (nl (val xs)))[j]?=(aK (val xs))[j]?:=by rw[e]
 rw[List.getElem?_take_of_lt l,aGS Om,aGS l] at this;exact aIU.inj this
def cN (n:Nat):Nat:=if h:n=0 then 0 else cN (n/2)+1
termination_by n
decreasing_by exact Nat.div_lt_self (aJE h) (by decide)
theorem lS:cN 0=0:=by rw[cN]; simp
theorem sB {n:Nat} (h:n≠0):cN n=cN (n/2)+1:=by rw[cN]; simp[h]
theorem mX (n k:Nat):cN n≤k↔n<2 ^ k:=by
 induction k generalizing n with
 | zero =>
  by_cases h:n=0
  ·subst h; simp[lS]
  ·rw[sB h]; simp; omega
 | succ k e =>
  by_cases h:n=0
  ·subst h; simp[lS,aJL]
  ·rw[sB h,Nat.succ_le_succ_iff,e,aIL,aJT (by decide)]
theorem kG {n:Nat}:cN n=0↔n=0:=by
 have:=mX n 0;simp at this;exact this
theorem Af {hi lo k:Nat} (u:lo<2 ^ k) (j:hi≠0):cN (lo+2 ^ k*hi)=k+cN hi:=by
 apply Nat.le_antisymm
 ·rw[mX,Nat.pow_add];have e:=(mX hi _).1 (aGQ _);have:2 ^ k*(hi+1)≤2 ^ k*2 ^ cN hi:=aJD _ e;rw[aGX,Nat.mul_one] at this;omega
 ·obtain⟨b,hb⟩:∃ b,cN hi=b+1:=⟨cN hi-1,by have:=mt kG.1 j; omega⟩;rw[hb];rcases aHD (cN (lo+2 ^ k*hi)) (k+(b+1)) with h | h
  ·have e:=(mX (lo+2 ^ k*hi) (k+b)).1 Om;rw[Nat.pow_add] at e;have l:¬ hi<2 ^ b:=fun h=>by have:=(mX hi b).2 h; omega
   have:2 ^ k*2 ^ b≤2 ^ k*hi:=aJD _ Om;omega
  ·exact h
theorem sT (n k:Nat):cN n≤32*k↔nl n≤k:=by
 rw[mX,jM,Nat.pow_mul]
end Go.Na
namespace Go.PM
theorem Lq {F e:PF} (h:F.le e:=by (repeat' (first|exact d_|refine c_ ?_ ?_))<;>first|(simp only[go_sem]<;>rfl)|rfl|assumption):F.le e:=h
end Go.PM
namespace Go.PM
open Go Go.Na
abbrev aI (xs:List Nat):List (List PV):=xs.map fun (n:Nat)=>[PV.int .u32 (n:Int)]
abbrev aJ (xs:List Nat):PV:=.sl 1 (xs.map fun (n:Nat)=>[PV.int .u32 (n:Int)])
theorem bX (xs:List Nat):(aI xs).length=xs.length:=by simp
theorem bN (xs:List Nat) {i:Nat} (h:i<xs.length):(aI xs)[i]?=some [.int .u32 (xs[i]:Nat)]:=by simp[h]
theorem s8 (xs:List Nat) (k:Nat):aJ (xs.take k)=.sl 1 ((xs.map fun (n:Nat)=>[PV.int .u32 (n:Int)]).take k):=by rw[aJ,List.map_take]
theorem cI (n:Nat):IntKind.u32.wrap (n:Int)=((n%4294967296:Nat):Int):=by
 have e:IntKind.u32.wrap (n:Int)=(n:Int)%4294967296:=by simp[IntKind.wrap,IntKind.bits,IntKind.signed]
 rw[e]; rfl
theorem xP {k:Nat} (h:k≤9223372036854775807) (e:0<k):IntKind.i64.wrap ((k:Int)-1)=((k-1:Nat):Int):=by
 rw[wrap_i64 Om Om]; omega
def Yr (xs:List Nat) (n:Nat):PF:=((PF.nil.set 0 (aJ xs)).set 3 (.int .i64 n))
theorem Yt {C:Ctx} (xs:List Nat) (B:Lim xs) (F:xs.length≤35184372087808):qD.wp C (aT GJ.res (aM (.int .i64 (nl (val xs):Nat)))) (PF.args [aJ xs]) .nil:=by
 simp only[go_sem,qD,JV,JW,GJ];refine wp_loop (α:=Nat) (Yr xs) (fun _=>.nil) (fun n=>n≤xs.length∧∀ j x,n≤j→xs[j]?=some x→x=0) (fun n=>n) xs.length ⟨aGQ _,fun j x h e=>by rw[aHZ h] at e; cases e⟩ ?_ a_ ?_
 ·unfold Yr;exact Lq
 rintro n ⟨A,y⟩;have out:(∀ x,0<n→xs[n-1]?=some x→x≠0)→nl (val xs)=n:=fun h=>Vd B A y h;simp only[go_sem,JU,JX,Yr];by_cases u:(n:Int)>0
 ·have w:0<n:=Om;have hi:=bN xs (Om:n-1<xs.length);simp only[go_sem,u,xP (Om:n≤9223372036854775807) w,hi];by_cases l:xs[n-1]=0
  ·simp only[go_sem,bM (Om:((xs[n-1]:Nat):Int)=0),JY,xP (Om:n≤9223372036854775807) w];refine aH (n-1) ⟨by omega,fun j x E he=>?_⟩ Om ?_ a_
   ·rcases aHD j n with h | h
    ·have:j=n-1:=Om;subst this;rw[aGS Om] at he;cases he; exact l
    ·exact y j x h he
   ·exact Lq
  ·simp only[go_sem,bB (Om:((xs[n-1]:Nat):Int)≠0),uJ];refine cE (.inr rfl) rfl ?_;rw[out fun x _ he=>by rw[aGS Om] at he; cases he; exact l];rfl
 ·simp only[go_sem,u,uJ];refine cE (.inr rfl) rfl ?_;rw[out fun x h=>by omega];rfl
theorem adL {C:Ctx} (xs:List Nat) (e:aG C 138 [aJ xs] .nil (aM (.int .i64 (nl (val xs):Nat)))):EK.wp C (aT Iu.res (aM (.bool (decide (nl (val xs)>512))))) (PF.args [aJ xs]) .nil:=by
 simp only[go_sem,EK,tb,tc,Iu];refine aB e rfl ?_;simp only[go_sem];refine cE (.inr rfl) rfl ?_;simp only[cZ,PV.bool.injEq,decide_eq_decide];omega
def szL (n:Nat):List Nat:=if nl n>512 then [] else aK n
def szE (n:Nat):Int:=if nl n>512 then 2 else 0
def szV (n:Nat):PV:=.tup [aJ (szL n),.int .i64 (szE n)]
theorem adQ {C:Ctx} (xs:List Nat) (w:Lim xs) (e:aG C 138 [aJ xs] .nil (aM (.int .i64 (nl (val xs):Nat)))):EM.wp C (aT I7.res (cD (szV (val xs)))) (PF.args [aJ xs]) .nil:=by
 simp only[go_sem,EM,tt,tu,I7];refine aB e rfl ?_;simp only[go_sem,tv];by_cases h:nl (val xs)>512
 ·have u:((nl (val xs):Nat):Int)>512:=Om;simp only[go_sem,u,tw];refine aU (vs:=[.aA,.int .i64 2]) (.inr rfl) .nil rfl a_ ⟨?_,rfl⟩;rw[szV,szL,szE,if_pos h,if_pos h];refine .tup rfl fun j p q l hq=>?_
  match j with
  | 0=>simp at l hq; subst l; subst hq; exact .nil 1
  | 1=>simp at l hq; subst l; subst hq; exact .refl _
  | j+2=>simp at l
 ·have u:¬ ((nl (val xs):Nat):Int)>512:=Om;have y:=fY w;have x:((nl (val xs):Nat):Int)≤(xs.length:Nat):=Om;simp only[go_sem,u,tx,x,or_true,aHW];refine aU (.inr rfl) .nil rfl a_ ⟨?_,rfl⟩;rw[szV,szL,szE,if_neg h,if_neg h,← kZ w,s8];exact .refl _
theorem alK {C:Ctx} (v:Nat) (K:v<18446744073709551616) (j:∀ xs,Lim xs→xs.length≤35184372087808→aG C 138 [aJ xs] .nil (aM (.int .i64 (nl (val xs):Nat)))) :
  JZ.wp C (aT Yv.res (aM (aJ (aK v)))) (PF.args [.int .u64 v]) .nil:=by
 have B:IntKind.u32.wrap ((v:Nat):Int)=((v%4294967296:Nat):Int):=cI v;have E:Int.fdiv ((v:Nat):Int) 4294967296=((v/4294967296:Nat):Int):=by rw[Int.fdiv_eq_ediv_of_nonneg _ (by decide)]; rfl
 have w:v/4294967296<4294967296:=Om;have F:IntKind.u32.wrap ((v/4294967296:Nat):Int)=((v/4294967296:Nat):Int):=by rw[cI,aIB w]
 have l:Lim [v%4294967296,v/4294967296]:=by
  intro x A;simp only[aGV,List.mem_nil_iff,or_false] at A;rcases A with rfl | rfl
  ·exact aIG _ (by decide)
  ·exact w
 have e:val [v%4294967296,v/4294967296]=v:=by simp only[val,Nat.mul_zero,aIC]; exact Nat.mod_add_div v 4294967296
 have J:∀ a b:Int,PV.bin .shr (.int .u64 a) (.int .u64 b)=shift .shr .u64 a b:=fun _ _=>rfl;have u:shift .shr .u64 (v:Int) 32=some (.int .u64 ((v/4294967296:Nat):Int)):=by
  unfold shift;rw[if_neg (by decide)];simp only;have:min (Int.toNat 32) IntKind.u64.bits=32:=by decide
  rw[this];rw[show (2:Int) ^ 32=4294967296 by decide,E]
 simp only[go_sem,JZ,Iv,Iw,Yv,B,u,F];have hb:(2:Nat)*1≤16777216:=by decide
 simp only[go_sem,Ix];refine aB (j [v%4294967296,v/4294967296] l (by simp)) rfl ?_;have y:=fY l;rw[e] at y ⊢;have I:((nl v:Nat):Int)≤((2:Nat):Int):=by simp at y; omega
 simp only[go_sem,I,or_true,aHW];refine cE (.inr rfl) rfl ?_;have:=kZ l;rw[e] at this;rw[← this,s8];rfl
theorem alQ {C:Ctx} (xs:List Nat) (j:Lim xs) (w:xs.length≤35184372087808) (e:aG C 138 [aJ xs] .nil (aM (.int .i64 (nl (val xs):Nat)))) :
  KB.wp C (aT Yx.res (cD (aJ (aK (val xs))))) (PF.args [aJ xs]) .nil:=by
 simp only[go_sem,KB,Jf,Jg,Yx];refine aB e rfl ?_;have x:=fY j;have l:((nl (val xs):Nat):Int)≤(xs.length:Nat):=Om;simp only[go_sem,l,or_true,aHW];refine jP (rows:=[]) (src:=aI (aK (val xs))) .nil ?_ ?_ fun v H' u _=>?_
 ·simp only[go_sem];rw[← kZ j,← List.map_take]
 ·unfold roomFor;rw[bX];have:(aK (val xs)).length=nl (val xs):=rfl;simp only[aIV,maxLen];omega
 ·exact yU (.inr rfl) (by simpa using u) rfl
end Go.PM
theorem Sq {p:Prop} (h:p:=by simp only[go_sem]):p:=h
theorem Ev {p:Prop} (h:p:=by simp only[go_sem]<;>rfl):p:=h
namespace Go.PM
open Go Go.Na
def Yi (xs e:List Nat) (i:Int):PF:=(((PF.nil.set 0 (aJ xs)).set 1 (aJ e)).set 7 (.int .i64 i))
theorem asV {C:Ctx} (xs e:List Nat) (M:Lim xs) (N:Lim e) (lx:xs.length≤35184372087808) (ly:e.length≤35184372087808) (A:aG C 138 [aJ xs] .nil (aM (.int .i64 (nl (val xs):Nat)))) (B:aG C 138 [aJ e] .nil (aM (.int .i64 (nl (val e):Nat)))) :
  OV.wp C (aT alD.res (aM (.int .i64 (eP (val xs) (val e))))) (PF.args [aJ xs,aJ e]) .nil:=by
 simp only[go_sem,OV,Tl,Tn,alD];refine aB A Ev ?_;simp only[go_sem];refine aB B Ev ?_;simp only[go_sem,To];have Z:=fY M;have V:=fY N;by_cases c1:nl (val xs)<nl (val e)
 ·have j:((nl (val xs):Nat):Int)<(nl (val e):Nat):=Om;simp only[go_sem,j,Tq];refine cE (.inr rfl) Ev ?_;have:val xs<val e:=by
   rcases aHD (val xs) (val e) with h | h
   ·exact h
   ·have:=jW h; omega
  simp[cZ,eP,this]
 have j:¬ ((nl (val xs):Nat):Int)<(nl (val e):Nat):=Om;simp only[go_sem,j,Tr];by_cases c2:nl (val xs)>nl (val e)
 ·have l:((nl (val xs):Nat):Int)>(nl (val e):Nat):=Om;simp only[go_sem,l,Ts];refine cE (.inr rfl) Ev ?_;have:val e<val xs:=by
   rcases aHD (val e) (val xs) with h | h
   ·exact h
   ·have:=jW h; omega
  have x:¬ val xs<val e:=Om;simp[cZ,eP,this,x]
 have l:¬ ((nl (val xs):Nat):Int)>(nl (val e):Nat):=Om;have Y:nl (val xs)=nl (val e):=Om;simp only[go_sem,l,Tt];have ex:=aY (val xs);have w:=aY (val e);have S:=bE (val xs);have U:=bE (val e);refine wp_loop (α:=Nat) (fun k=>Yi xs e ((k:Int)-1)) (fun _=>.nil) (fun k=>k≤nl (val xs)∧(aK (val xs)).drop k=(aK (val e)).drop k) (fun k=>k) (nl (val xs)) ⟨aGQ _,?_⟩ ?_ a_ ?_
 ·rw[aKG (by rw[nl]; exact aGQ _),aKG (by rw[Y,nl]; exact aGQ _)]
 ·unfold Yi
  (repeat' (first|exact d_|refine c_ ?_ ?_))<;>first|(simp only[go_sem,wrap_i64 (show -9223372036854775808≤((nl (val xs):Nat):Int)-1 by omega) (show ((nl (val xs):Nat):Int)-1≤9223372036854775807 by omega)]<;>rfl)|rfl
 rintro k ⟨hk,u⟩;simp only[go_sem,Ik,Tu,Yi];by_cases h0:0<k
 ·obtain⟨m,rfl⟩:∃ m,k=m+1:=⟨k-1,by omega⟩;have E:((m+1:Nat):Int)-1=(m:Int):=Om;have y:(m:Int)≥0:=Om;obtain⟨O,F,I⟩:=Ae M (Om:m<nl (val xs));obtain⟨R,J,K⟩:=Ae N (Om:m<nl (val e));simp only[go_sem,E,y];refine bP .nil dD a_ ?_;simp only[go_sem,Tv,bN xs O,bN e R];by_cases W:xs[m]<e[m]
  ·simp only[go_sem,show ((xs[m]:Nat):Int)<(e[m]:Nat) by omega,Tw];refine cE (.inr rfl) Ev ?_;have:=br S F J u (by rw[← I,← K]; exact W);rw[ex,w] at this;simp[cZ,eP,this]
  ·simp only[go_sem,show ¬ ((xs[m]:Nat):Int)<(e[m]:Nat) by omega];refine bP .nil dD a_ ?_;simp only[go_sem,Il,bN xs O,bN e R];by_cases X:xs[m]>e[m]
   ·simp only[go_sem,show ((xs[m]:Nat):Int)>(e[m]:Nat) by omega,Im];refine cE (.inr rfl) Ev ?_;have:=br U J F u.symm (by rw[← I,← K]; exact X);rw[ex,w] at this;have x:¬ val xs<val e:=Om;simp[cZ,eP,this,x]
   ·simp only[go_sem,show ¬ ((xs[m]:Nat):Int)>(e[m]:Nat) by omega,In];refine aH m ⟨by omega,nz F J u (by rw[← I,← K]; omega)⟩ Om ?_ a_
    (repeat' (first|exact d_|refine c_ ?_ ?_))<;>first|(simp only[go_sem,wrap_i64 (Om:-9223372036854775808≤(m:Int)-1) (Om:(m:Int)-1≤9223372036854775807)]<;>rfl)|rfl
 ·have:k=0:=Om;subst this;have E:¬ ((0:Nat):Int)-1≥0:=by decide
  simp only[go_sem,E,Io];refine cE (.inr rfl) Ev ?_;rw[aHW,aHW] at u;have:val xs=val e:=by rw[← ex,← w,u]
  simp[cZ,eP,this]
def Hz (k:Nat) (v:Nat):PF:=((PF.nil.set 4 (.int .i64 k)).set 5 (.int .u32 v))
theorem alB {C:Ctx} (xs:List Nat) (A:Lim xs) (X:xs.length≤35184372087808) (B:aG C 138 [aJ xs] .nil (aM (.int .i64 (nl (val xs):Nat)))) :
  JS.wp C (aT Yh.res (aM (.int .i64 (cN (val xs):Nat)))) (PF.args [aJ xs]) .nil:=by
 simp only[go_sem,JS,Ib,Ic,Yh];refine aB B Ev ?_;simp only[go_sem,Id];have W:=fY A;by_cases O:nl (val xs)=0
 ·simp only[go_sem,bM (show ((nl (val xs):Nat):Int)=0 by omega),Ie];refine cE (.inr rfl) Ev ?_;have:val xs=0:=lM.1 O;simp[cZ,this,lS]
 obtain⟨n,N⟩:∃ n,nl (val xs)=n+1:=⟨nl (val xs)-1,by omega⟩;obtain⟨t,x,E⟩:=K0 A N;have y:t<4294967296:=A t (aII x);have j:n<xs.length:=Om;have V:val xs=val (xs.take n)+4294967296 ^ n*t:=by
  have e:=kZ A;have:=aY (val xs);have U:xs[n]=t:=by rw[aGS j] at x; exact aIU.inj x
  rw[← e,N,aIR j,U,gW,aGY,aIT Om] at this;simp only[val,Nat.mul_zero,aIC] at this;exact this.symm
 have hb:cN (val xs)=32*n+cN t:=by
  have J:=fL (A.take n);rw[aGY,aIT Om] at J;rw[V,show (4294967296:Nat) ^ n=2 ^ (32*n) by rw[Nat.pow_mul]] at *
  exact Af J E
 have l:(aI xs)[n]?=some [.int .u32 (t:Nat)]:=by rw[bN xs j];rw[aGS j] at x;rw[aIU.inj x]
 have R:IntKind.i64.wrap (((nl (val xs):Nat):Int)-1)=(n:Int):=by rw[wrap_i64 Om Om]; omega
 have S:IntKind.i64.wrap ((n:Int)*32)=((32*n:Nat):Int):=by rw[wrap_i64 Om Om]; omega
 simp only[go_sem,bB (show ((nl (val xs):Nat):Int)≠0 by omega),If,Ig,R,S,l];refine wp_loop (α:=Nat × Nat) (fun a=>Hz a.1 a.2) (fun _=>.nil) (fun a=>a.1+cN a.2=32*n+cN t∧a.2<4294967296) (fun a=>a.2) (32*n,t) ⟨rfl,y⟩ ?_ a_ ?_
 ·unfold Hz;exact Lq
 rintro⟨k,v⟩ ⟨K,hlt⟩;simp only at K hlt;have M:cN t≤32:=(mX t 32).2 y;simp only[go_sem,Ia,Ih,Hz];by_cases I:(v:Int)>0
 ·have F:v≠0:=Om;have u:PV.bin .shr (.int .u32 (v:Int)) (.int .u64 1)=some (.int .u32 ((v/2:Nat):Int)):=by
   show shift .shr .u32 (v:Int) 1=_;unfold shift;rw[if_neg (by decide)];simp only;have:min (Int.toNat 1) IntKind.u32.bits=1:=by decide
   rw[this,show (2:Int) ^ 1=2 by decide,Int.fdiv_eq_ediv_of_nonneg _ (by decide)];rfl
  have w:shift .shr .u32 (v:Int) 1=some (.int .u32 ((v/2:Nat):Int)):=u;simp only[go_sem,I,Ii,Ij,u,w,wZz k];refine aH (k+1,v/2) ⟨?_,?_⟩ (Nat.div_lt_self Om (by decide)) ?_ a_
  ·have:=sB F;simp only; omega
  ·simp only; omega
  ·exact Lq
 ·have:v=0:=Om;subst this;simp only[go_sem,I,s9];refine cE (.inr rfl) Ev ?_;rw[lS] at K;simp only[cZ,PV.int.injEq,true_and];omega
structure rS (C:Ctx):Prop where
 length:∀ xs,Lim xs→xs.length≤35184372087808→aG C 138 [aJ xs] .nil (aM (.int .i64 (nl (val xs):Nat)))
 large:∀ xs,Lim xs→xs.length≤35184372087808→aG C 137 [aJ xs] .nil (aM (.bool (decide (nl (val xs)>512))))
 sized:∀ xs,Lim xs→xs.length≤35184372087808→aG C 141 [aJ xs] .nil (aM (szV (val xs)))
 trim:∀ xs,Lim xs→xs.length≤35184372087808→aG C 135 [aJ xs] .nil (aM (aJ (aK (val xs))))
 make:∀ v:Nat,v<18446744073709551616→aG C 132 [.int .u64 v] .nil (aM (aJ (aK v)))
 cmp:∀ xs ys,Lim xs→Lim ys→xs.length≤35184372087808→ys.length≤35184372087808→aG C 129 [aJ xs,aJ ys] .nil (aM (.int .i64 (eP (val xs) (val ys))))
def mI:PV→List Nat
 | .sl _ rows=>rows.map fun r=>match r with | [.int _ n]=>n.toNat | _=>0
 | _=>[]
theorem fS (xs:List Nat):mI (aJ xs)=xs:=by
 simp[mI,aJQ,Function.comp_def]
def Yg:Spec:=fun name vs=>match name,vs with
 | 138,[x]=>some ([],fun _=>aM (.int .i64 (nl (val (mI x)):Nat)))
 | _,_=>none
theorem pE (xs:List Nat):Yg 138 [aJ xs]=some ([],fun _=>aM (.int .i64 (nl (val xs):Nat))):=by
 show some _=_; rw[fS]
theorem zZ (P:List Nat) (k v:Nat):(P++aGM (k+1) 0).set P.length v=(P++[v])++aGM k 0:=by
 rw[aKB _ _ (aGQ _),Nat.sub_self,List.replicate_succ,List.set_cons_zero,aHN];rfl
theorem fZ (L:List Nat) (i v:Nat):(aI L).set i [.int .u32 (v:Int)]=aI (L.set i v):=by
 unfold aI; rw[List.map_set]
theorem jU (P:List Nat) (v:Nat):val (P++[v])=val P+4294967296 ^ P.length*v:=by
 rw[gW]; simp[val]
theorem cA (xs:List Nat) {i:Nat} (h:i<xs.length):val (xs.take (i+1))=val (xs.take i)+4294967296 ^ i*xs[i]:=by
 rw[aIR h,jU,aGY,aIT Om]
theorem yX {v:Nat}:shift .shr .u64 (v:Int) 32=some (.int .u64 ((v/4294967296:Nat):Int)):=by
 unfold shift;rw[if_neg (by decide)];simp only;have:min (Int.toNat 32) IntKind.u64.bits=32:=by decide
 rw[this,show (2:Int) ^ 32=4294967296 by decide,Int.fdiv_eq_ediv_of_nonneg _ (by decide)];rfl
theorem fM {a b:Nat} (h:a+b<18446744073709551616):IntKind.u64.wrap ((a:Int)+(b:Int))=((a+b:Nat):Int):=by
 rw[wrap_u64 Om Om]; omega
theorem aZ {a:Nat} (h:a<18446744073709551616):IntKind.u64.wrap (a:Int)=(a:Int):=wrap_u64 Om Om
def gm (a b:List Nat) (o i c:Nat):PF:=(((((((PF.nil.set 0 (aJ a)).set 1 (aJ b)).set 6 (.osl o 1 0 (a.length+1))).set 7 (.int .u64 c)).set 35 (.int .i64 (a.length:Nat))).set 34 (aJ a)).set 36 (.int .i64 i))
theorem s7 {C:Ctx} (L:rS C) (a b:List Nat) (ha:Lim a) (hb:Lim b) (hl:b.length≤a.length) (h1:a.length≤1000) (F:PF) (f0:F 0=some (aJ a)) (f1:F 1=some (aJ b)) :
  aE.wp C (.seq (.region ln) (.seq (.region lz) (.seq (.seq (.region l5) (.block 0 (.loop YL))) (.seq (.region YP) (.seq (.region YQ) .ret))))) (aT [.tmp 4,.tmp 5] (cD (szV (val a+val b)))) F .nil:=by
 have S:IntKind.i64.wrap ((a.length:Int)+1)=((a.length+1:Nat):Int):=dJ Om;have η:((a.length+1:Nat):Int)*((4:Nat):Int)≤140737488355328:=Om;have θ:((a.length+1:Nat):Int)≤9223372036854775807:=Om;have hz:aGM (a.length+1) [PV.int .u32 0]=aI ([]++aGM (a.length+1) 0):=by simp[aI]
 simp only[go_sem,ln,f0,S,η,θ,hz];refine aQ fun o ho=>?_;simp only[go_sem,lz,l5,f0];refine wp_loop (α:=List Nat × Nat × Nat) (fun s=>gm a b s.2.2 s.1.length s.2.1) (fun s=>PH.nil.set s.2.2 (.rows 1 (aI (s.1++aGM (a.length+1-s.1.length) 0))))
  (fun s=>s.1.length≤a.length∧Lim s.1∧s.2.1≤1∧val s.1+4294967296 ^ s.1.length*s.2.1=val (a.take s.1.length)+val (b.take s.1.length)) (fun s=>a.length-s.1.length) ([],0,o) ⟨by simp,by simp[Lim],by simp,by simp[val]⟩ ?_ ?_ ?_
 ·unfold gm;exact Lq
 ·exact e_ a_ (by simp only[go_sem,aIV])
 rintro⟨P,c,q⟩ ⟨hP,j,hc,A⟩;simp only at hP j hc A;simp only[go_sem,YL,Tj,gm];by_cases Y:P.length<a.length
 ·have E:(P.length:Int)<(a.length:Nat):=Om;have ι:=ha _ (aGP Y);obtain⟨k,W⟩:∃ k,a.length+1-P.length=k+1:=⟨a.length-P.length,by omega⟩;have M:(aI (P++aGM (k+1) 0))[P.length]?=some [.int .u32 ((0:Nat):Int)]:=by rw[bN _ (by simp)]; simp
  have l:a.length+1-(P.length+1)=k:=Om;have I:(P.length:Int)<((a.length+1:Nat):Int):=Om;have fin:∀ (t:Nat) (w:PF) (H':PH),t<2*4294967296→val P+4294967296 ^ P.length*t=val (a.take (P.length+1))+val (b.take (P.length+1)) →
    w 0=some (aJ a)→w 1=some (aJ b)→w 6=some (.osl q 1 0 (a.length+1))→w 7=some (.int .u64 (t:Nat))→w 8=some (.int .i64 P.length)→w 34=some (aJ a)→w 35=some (.int .i64 (a.length:Nat))→w 36=some (.int .i64 P.length) →
    H' q=some (.rows 1 (aI (P++aGM (k+1) 0)))→∀ K:cG,(∀ y B V H2,y.length=P.length+1→Lim y→B≤1→val y+4294967296 ^ y.length*B=val (a.take (P.length+1))+val (b.take (P.length+1))→(gm a b q y.length B).le V→H2 q=some (.rows 1 (aI (y++aGM k 0)))→K .normal V H2) →
    aE.wp C (.seq (.region YM) (.region YN)) (fF 1 (kL C (aE.wp C (.region YO)) K)) w H':=by
   intro t w H' ht hv g0 g1 g6 g7 g8 γ δ ε gH K hK;have u:(aI (P++aGM (k+1) 0)).set P.length [.int .u32 ((t%4294967296:Nat):Int)]=aI ((P++[t%4294967296])++aGM k 0):=by rw[fZ,zZ]
   simp only[go_sem,YM,g6,g8,g7,cI,I,gH,M,u,YN,yX,YO,ε,dJ (Om:P.length<9223372036854775807)];refine hK (P++[t%4294967296]) (t/4294967296) _ _ (by simp) (j.app fun x X=>by simp at X; subst X; exact aIG _ (by decide)) Om ?_ ?_ Sq
   ·rw[jU,aGO,aGR,aIL,aHI,aJB,← aGX,Nat.mod_add_div];exact hv
   ·unfold gm;rw[aGO,aGR];refine c_ (c_ (c_ (c_ (c_ (c_ (c_ d_ ?_) ?_) ?_) ?_) ?_) ?_) ?_<;>simp only[go_sem,g0,g1,g6,γ,δ]
  have U:=cA a Y;have ea:IntKind.u64.wrap ((a[P.length]:Nat):Int)=((a[P.length]:Nat):Int):=aZ Om;have es:IntKind.u64.wrap ((c:Nat)+((a[P.length]:Nat):Int))=((c+a[P.length]:Nat):Int):=fM Om;simp only[go_sem,E,Hu,Hv,bN a Y,ea,es,Hw];by_cases Z:P.length<b.length
  ·have J:(P.length:Int)<(b.length:Nat):=Om;have κ:=hb _ (aGP Z);have N:=cA b Z;have eb:IntKind.u64.wrap ((b[P.length]:Nat):Int)=((b[P.length]:Nat):Int):=aZ Om;have β:IntKind.u64.wrap (((c+a[P.length]:Nat):Int)+((b[P.length]:Nat):Int))=((c+a[P.length]+b[P.length]:Nat):Int):=fM Om;simp only[go_sem,J,Hx,bN b Z,eb,β];refine fin (c+a[P.length]+b[P.length]) _ _ Om ?_ ?_ ?_ ?_ ?_ ?_ ?_ ?_ ?_ ?_ _ ?_
   ·rw[U,N,aGX,aGX]; omega
   any_goals simp only[go_sem,W]
   intro y B V H2 O e2 e3 R e5 e6;rw[← O] at R;refine aH (y,B,q) ⟨by simp only; omega,e2,e3,R⟩ (by simp only; omega) e5 (e_ a_ ?_);simp only;rw[O,l]; exact e6
  ·have J:¬ (P.length:Int)<(b.length:Nat):=Om;have N:val (b.take (P.length+1))=val (b.take P.length):=by rw[aGZ Om,aGZ Om]
   simp only[go_sem,J];refine fin (c+a[P.length]) _ _ Om ?_ ?_ ?_ ?_ ?_ ?_ ?_ ?_ ?_ ?_ _ ?_
   ·rw[U,N,aGX]; omega
   any_goals simp only[go_sem,W]
   intro y B V H2 O e2 e3 R e5 e6;rw[← O] at R;refine aH (y,B,q) ⟨by simp only; omega,e2,e3,R⟩ (by simp only; omega) e5 (e_ a_ ?_);simp only;rw[O,l]; exact e6
 ·have e:P.length=a.length:=Om;have E:¬ (P.length:Int)<(a.length:Nat):=Om;have W:aGM (a.length+1-P.length) 0=[0]:=by rw[show a.length+1-P.length=1 by omega]; rfl
  have M:(aI (P++[0]))[a.length]?=some [.int .u32 ((0:Nat):Int)]:=by rw[bN _ (by simp; omega)];simp[e]
  have u:(aI (P++[0])).set a.length [.int .u32 ((c%4294967296:Nat):Int)]=aI (P++[c]):=by have:=zZ P 0 (c%4294967296);simp only[List.replicate_zero,aHY,aHE,List.replicate_one] at this;rw[← e,fZ,this,aIB Om]
  have I:(a.length:Int)<((a.length+1:Nat):Int):=Om;have hV:val (P++[c])=val a+val b:=by rw[jU,A,e,aHV,aGZ hl]
  have ζ:Lim (P++[c]):=j.app fun x X=>by simp at X; omega
  simp only[go_sem,E,YP,cI,W,M,I,u,YQ];have hs:=L.sized _ ζ (by simp; omega);rw[hV] at hs;refine rB (o:=q) (s:=1) (k:=a.length+1) (rs:=aI (P++[c])) (v:=szV (val a+val b)) ?_ rfl Sq (by rw[bX]; simp; omega) ?_
  ·rw[aGZ (by rw[bX]; simp; omega)]; exact hs
  ·simp only[go_sem,szV];exact aU (.inr rfl) .nil rfl a_ ⟨.refl _,rfl⟩
def opV (big:Bool) (n:Nat):PV:=if big then .tup [aJ [],.int .i64 2] else szV n
def fO (a b:Nat):Bool:=decide (nl a>512)||decide (nl b>512)
theorem kJ {res:List dW} {F:PF} {H:PH} {e:Int} (h:dW.evs F H res=some [.aA,.int .i64 e]):aT res (cD (.tup [aJ [],.int .i64 e])) .ret F H:=by
 refine aU (.inr rfl) .nil h a_ ⟨?_,rfl⟩;refine .tup rfl fun j p q l hq=>?_
 match j with
 | 0=>simp at l hq; subst l; subst hq; exact .nil 1
 | 1=>simp at l hq; subst l; subst hq; exact .refl _
 | j+2=>simp at l
theorem bJ (n:Nat):(aK n).length=nl n:=rfl
theorem jQ {xs:List Nat} (h:Lim xs):(xs.map fun (n:Nat)=>[PV.int .u32 (n:Int)]).take (nl (val xs))=(aK (val xs)).map fun (n:Nat)=>[PV.int .u32 (n:Int)]:=by
 rw[← List.map_take,kZ h]
theorem asQ {C:Ctx} (L:rS C) (a b:List Nat) (w:Lim a) (hb:Lim b) (A:a.length≤35184372087808) (B:b.length≤35184372087808) :
  OT.wp C (aT akZ.res (cD (opV (fO (val a) (val b)) (val a+val b)))) (PF.args [aJ a,aJ b]) .nil:=by
 simp only[go_sem,OT,Te,Tf,akZ];refine aB (L.large a w A) rfl ?_;by_cases l:nl (val a)>512
 ·simp only[go_sem,l,lm];rw[show opV (fO (val a) (val b)) (val a+val b)=.tup [aJ [],.int .i64 2] by simp[opV,fO,l]];exact kJ rfl
 simp only[go_sem,l];refine aB (L.large b hb B) rfl ?_;by_cases u:nl (val b)>512
 ·simp only[go_sem,u,lm];rw[show opV (fO (val a) (val b)) (val a+val b)=.tup [aJ [],.int .i64 2] by simp[opV,fO,u]];exact kJ rfl
 have e:opV (fO (val a) (val b)) (val a+val b)=szV (val a+val b):=by simp[opV,fO,l,u]
 rw[e];simp only[go_sem,u];refine bP .nil Yg a_ ?_;simp only[go_sem,Tg];have J:=fY w;have K:=fY hb;have x:((nl (val a):Nat):Int)≤(a.length:Nat):=Om;have y:((nl (val b):Nat):Int)≤(b.length:Nat):=Om;refine dP (pE a) (L.length a w A) rfl a_ ?_;simp only[go_sem,x,or_true,aHW,jQ w];refine dP (pE b) (L.length b hb B) rfl a_ ?_;simp only[go_sem,y,or_true,aHW,jQ hb,Th,bJ];have E:=aY (val a);have F:=aY (val b);by_cases I:nl (val a)<nl (val b)
 ·have j:((nl (val a):Nat):Int)<(nl (val b):Nat):=Om;simp only[go_sem,j,Ti];have:=s7 L (aK (val b)) (aK (val a)) (bE _) (bE _) (by rw[bJ,bJ]; omega) (by rw[bJ]; omega);rw[E,F,Nat.add_comm] at this;exact this _ rfl rfl
 ·have j:¬ ((nl (val a):Nat):Int)<(nl (val b):Nat):=Om;simp only[go_sem,j];have:=s7 L (aK (val a)) (aK (val b)) (bE _) (bE _) (by rw[bJ,bJ]; omega) (by rw[bJ]; omega);rw[E,F] at this;exact this _ rfl rfl
theorem gQ (n:Int):IntKind.u64.wrap n=n%18446744073709551616:=by simp[IntKind.wrap,IntKind.bits,IntKind.signed]
theorem VO (n:Int):IntKind.u32.wrap n=n%4294967296:=by simp[IntKind.wrap,IntKind.bits,IntKind.signed]
theorem Zf {v:Int}:shift .shr .u64 v 63=some (.int .u64 (v/9223372036854775808)):=by
 unfold shift;rw[if_neg (by decide)];simp only;have:min (Int.toNat 63) IntKind.u64.bits=63:=by decide
 rw[this,show (2:Int) ^ 63=9223372036854775808 by decide,Int.fdiv_eq_ediv_of_nonneg _ (by decide)]
def QM (a bor b:Nat):Nat:=(a+4294967296-bor-b)%4294967296
def ZS (a bor b:Nat):Nat:=if a<bor+b then 1 else 0
theorem Km {a bor b:Nat} (e:a<4294967296) (hb:b<4294967296) (j:bor≤1) (v:Int) (l:v=((a:Int)-bor-b)%18446744073709551616) :
  IntKind.u32.wrap v=((QM a bor b:Nat):Int)∧v/9223372036854775808=((ZS a bor b:Nat):Int)∧a+4294967296*ZS a bor b=QM a bor b+b+bor∧QM a bor b<4294967296:=by
 rw[VO];unfold QM ZS;split<;>omega
def ib (a b:List Nat) (o i c:Nat):PF:=(((((((PF.nil.set 0 (aJ a)).set 1 (aJ b)).set 6 (.osl o 1 0 a.length)).set 7 (.int .u64 c)).set 33 (aJ a)).set 34 (.int .i64 (a.length:Nat))).set 35 (.int .i64 i))
theorem adS {C:Ctx} (L:rS C) (a b:List Nat) (ha:Lim a) (hb:Lim b) (κ:val b≤val a) (hl:b.length≤a.length) (h1:a.length≤1000) (F:PF) (f0:F 0=some (aJ a)) (f1:F 1=some (aJ b)) :
  aE.wp C (.seq (.region mq) (.seq (.region mr) (.seq (.seq (.region mu) (.block 1 (.loop ZB))) (.seq (.region ZF) .ret)))) (aT [.tmp 4,.tmp 5] (cD (szV (val a-val b)))) F .nil:=by
 have η:(a.length:Int)*((4:Nat):Int)≤140737488355328:=Om;have θ:(a.length:Int)≤9223372036854775807:=Om;have hz:aGM a.length [PV.int .u32 0]=aI ([]++aGM a.length 0):=by simp[aI]
 simp only[go_sem,mq,f0,η,θ,hz];refine aQ fun o ho=>?_;simp only[go_sem,mr,mu,f0];refine wp_loop (α:=List Nat × Nat × Nat) (fun s=>ib a b s.2.2 s.1.length s.2.1) (fun s=>PH.nil.set s.2.2 (.rows 1 (aI (s.1++aGM (a.length-s.1.length) 0))))
  (fun s=>s.1.length≤a.length∧Lim s.1∧s.2.1≤1∧val (a.take s.1.length)+4294967296 ^ s.1.length*s.2.1=val s.1+val (b.take s.1.length)) (fun s=>a.length-s.1.length) ([],0,o) ⟨by simp,by simp[Lim],by simp,by simp[val]⟩ ?_ ?_ ?_
 ·unfold ib;exact Lq
 ·exact e_ a_ (by simp only[go_sem,aIV])
 rintro⟨P,c,q⟩ ⟨hP,j,hc,B⟩;simp only at hP j hc B;simp only[go_sem,ZB,Us,ib];by_cases V:P.length<a.length
 ·have A:(P.length:Int)<(a.length:Nat):=Om;have δ:=ha _ (aGP V);obtain⟨k,U⟩:∃ k,a.length-P.length=k+1:=⟨a.length-P.length-1,by omega⟩;have ζ:(aI (P++aGM (k+1) 0))[P.length]?=some [.int .u32 ((0:Nat):Int)]:=by rw[bN _ (by simp)]; simp
  have l:a.length-(P.length+1)=k:=Om;have ι:=cA a V;have fin:∀ (t:Nat) (v:Int) (w:PF) (H':PH),t<4294967296→v=((a[P.length]:Int)-c-t)%18446744073709551616→val (b.take (P.length+1))=val (b.take P.length)+4294967296 ^ P.length*t →
    w 0=some (aJ a)→w 1=some (aJ b)→w 6=some (.osl q 1 0 a.length)→w 9=some (.int .u64 v)→w 8=some (.int .i64 P.length)→w 33=some (aJ a)→w 34=some (.int .i64 (a.length:Nat))→w 35=some (.int .i64 P.length) →
    H' q=some (.rows 1 (aI (P++aGM (k+1) 0)))→∀ K:cG,(∀ y E S H2,y.length=P.length+1→Lim y→E≤1→val (a.take (P.length+1))+4294967296 ^ y.length*E=val y+val (b.take (P.length+1))→(ib a b q y.length E).le S→H2 q=some (.rows 1 (aI (y++aGM k 0)))→K .normal S H2) →
    aE.wp C (.seq (.region ZC) (.region ZD)) (fF 2 (kL C (aE.wp C (.region ZE)) K)) w H':=by
   intro t v w H' ht hv u g0 g1 g6 g9 g8 Z β γ gH K hK;obtain⟨J,N,O,M⟩:=Km δ ht hc v hv;have R:(aI (P++aGM (k+1) 0)).set P.length [.int .u32 ((QM a[P.length] c t:Nat):Int)]=aI ((P++[QM a[P.length] c t])++aGM k 0):=by rw[fZ,zZ]
   simp only[go_sem,ZC,g6,g8,g9,J,A,gH,ζ,R,ZD,Zf,N,ZE,γ,dJ (Om:P.length<9223372036854775807)];refine hK (P++[QM a[P.length] c t]) (ZS a[P.length] c t) _ _ (by simp) (j.app fun x hx=>by simp at hx; subst hx; exact M) (by unfold ZS; split<;>omega) ?_ ?_ Sq
   ·rw[jU,aGO,aGR,aIL,aHI,ι,u,aJB,← aGX,O,aGX,aGX];omega
   ·unfold ib;rw[aGO,aGR];refine c_ (c_ (c_ (c_ (c_ (c_ (c_ d_ ?_) ?_) ?_) ?_) ?_) ?_) ?_<;>simp only[go_sem,g0,g1,g6,Z,β]
  have ea:IntKind.u64.wrap ((a[P.length]:Nat):Int)=((a[P.length]:Nat):Int):=aZ Om;simp only[go_sem,A,I8,I9,bN a V,ea,Ja];by_cases W:P.length<b.length
  ·have I:(P.length:Int)<(b.length:Nat):=Om;have ε:=hb _ (aGP W);have u:=cA b W;have eb:IntKind.u64.wrap ((b[P.length]:Nat):Int)=((b[P.length]:Nat):Int):=aZ Om;simp only[go_sem,I,Jb,bN b W,eb];refine fin b[P.length] (IntKind.u64.wrap (IntKind.u64.wrap ((a[P.length]:Int)-(c:Int))-(b[P.length]:Int))) _ _ ε (by rw[gQ,gQ]; omega) u ?_ ?_ ?_ ?_ ?_ ?_ ?_ ?_ ?_ _ ?_
   any_goals simp only[go_sem,U]
   intro y E S H2 J N O M X Y;rw[← J] at M;refine aH (y,E,q) ⟨by simp only; omega,N,O,M⟩ (by simp only; omega) X (e_ a_ ?_);simp only;rw[J,l]; exact Y
  ·have I:¬ (P.length:Int)<(b.length:Nat):=Om;have u:val (b.take (P.length+1))=val (b.take P.length)+4294967296 ^ P.length*0:=by rw[aGZ Om,aGZ Om]; simp
   simp only[go_sem,I];refine fin 0 (IntKind.u64.wrap ((a[P.length]:Int)-(c:Int))) _ _ (by decide) (by rw[gQ]; omega) u ?_ ?_ ?_ ?_ ?_ ?_ ?_ ?_ ?_ _ ?_
   any_goals simp only[go_sem,U]
   intro y E S H2 J N O M X Y;rw[← J] at M;refine aH (y,E,q) ⟨by simp only; omega,N,O,M⟩ (by simp only; omega) X (e_ a_ ?_);simp only;rw[J,l]; exact Y
 ·have e:P.length=a.length:=Om;have A:¬ (P.length:Int)<(a.length:Nat):=Om;have U:aGM (a.length-P.length) 0=[]:=by rw[show a.length-P.length=0 by omega]; rfl
  have hV:val P=val a-val b:=by
   rw[e,aHV,aGZ hl] at B;have hlt:=fL j;rw[e] at hlt;rcases aIS c with h | h
   ·subst h; omega
   ·have:c=1:=Om;subst this; omega
  simp only[go_sem,A,U,aHY,ZF];have hs:=L.sized _ j Om;rw[hV] at hs;refine rB (o:=q) (s:=1) (k:=a.length) (rs:=aI P) (v:=szV (val a-val b)) ?_ rfl Sq (by rw[bX]; omega) ?_
  ·rw[aGZ (by rw[bX]; omega)]; exact hs
  ·simp only[go_sem,szV];exact aU (.inr rfl) .nil rfl a_ ⟨.refl _,rfl⟩
def xY (a b:Nat):PV:=if fO a b then .tup [aJ [],.int .i64 2] else if a<b then .tup [aJ [],.int .i64 4] else szV (a-b)
theorem atK {C:Ctx} (L:rS C) (a b:List Nat) (l:Lim a) (hb:Lim b) (A:a.length≤35184372087808) (B:b.length≤35184372087808) :
  PG.wp C (aT alP.res (cD (xY (val a) (val b)))) (PF.args [aJ a,aJ b]) .nil:=by
 simp only[go_sem,PG,Um,Un,alP];refine aB (L.large a l A) rfl ?_;by_cases e:nl (val a)>512
 ·simp only[go_sem,e,mp];rw[show xY (val a) (val b)=.tup [aJ [],.int .i64 2] by simp[xY,fO,e]];exact kJ rfl
 simp only[go_sem,e];refine aB (L.large b hb B) rfl ?_;by_cases j:nl (val b)>512
 ·simp only[go_sem,j,mp];rw[show xY (val a) (val b)=.tup [aJ [],.int .i64 2] by simp[xY,fO,j]];exact kJ rfl
 simp only[go_sem,j,Uo];refine aB (L.cmp a b l hb A B) rfl ?_;by_cases u:val a<val b
 ·have y:eP (val a) (val b)<0:=by simp[eP,u]
  simp only[go_sem,y,Uq];rw[show xY (val a) (val b)=.tup [aJ [],.int .i64 4] by simp[xY,fO,e,j,u]];exact kJ rfl
 have y:¬ eP (val a) (val b)<0:=by unfold eP;rw[if_neg u];split<;>decide
 rw[show xY (val a) (val b)=szV (val a-val b) by simp[xY,fO,e,j,u]];simp only[go_sem,y];refine bP .nil Yg a_ ?_;simp only[go_sem,Ur];have I:=fY l;have J:=fY hb;have w:((nl (val a):Nat):Int)≤(a.length:Nat):=Om;have x:((nl (val b):Nat):Int)≤(b.length:Nat):=Om;refine dP (pE a) (L.length a l A) rfl a_ ?_;simp only[go_sem,w,or_true,aHW,jQ l];refine dP (pE b) (L.length b hb B) rfl a_ ?_;simp only[go_sem,x,or_true,aHW,jQ hb];have E:=aY (val a);have F:=aY (val b);have K:=jW (Om:val b≤val a);have:=adS L (aK (val a)) (aK (val b)) (bE _) (bE _) Om (by rw[bJ,bJ]; omega) (by rw[bJ]; omega);rw[E,F] at this;exact this _ rfl rfl
end Go.PM
namespace Go.Na
def eE:Nat→Nat→List Nat
 | 0,_=>[]
 | k+1,n=>(n%4294967296)::eE k (n/4294967296)
theorem mJ:∀ k n,(eE k n).length=k
 | 0,_=>rfl
 | k+1,n=>by simp[eE,mJ k]
theorem HF {xs:List Nat} (h:Lim xs):eE xs.length (val xs)=xs:=by
 induction xs with
 | nil=>rfl
 | cons x xs u =>have w:=h x (by simp);have e:(x+4294967296*val xs)%4294967296=x:=Om;have j:(x+4294967296*val xs)/4294967296=val xs:=Om;simp only[aIF,eE,val];rw[e,j,u fun y l=>h y (by simp[l])]
theorem nN:∀ k n,Lim (eE k n)
 | 0,_=>fun x hx=>by cases hx
 | k+1,n=>fun x hx=>by
  simp only[eE,aGV] at hx;rcases hx with rfl | hx
  ·exact aIG _ (by decide)
  ·exact nN k _ x hx
theorem BD:∀ k n,val (eE k n)=n%4294967296 ^ k
 | 0,n=>by simp[eE,val,Nat.mod_one]
 | k+1,n=>by simp only[eE,val,BD k];rw[aIL,aHL (4294967296 ^ k) 4294967296,Nat.mod_mul]
theorem pJ {k n:Nat} (h:n<4294967296 ^ k):val (eE k n)=n:=by rw[BD,aIB h]
end Go.Na
namespace Go.PM
open Go Go.Na
theorem ayP {a b:Nat} (e:a<18446744073709551616) (hb:b<18446744073709551616):(BitVec.ofInt 64 (a:Int) ||| BitVec.ofInt 64 (b:Int)).toNat=a ||| b:=by
 rw[BitVec.ofInt_natCast,BitVec.ofInt_natCast,BitVec.toNat_or,BitVec.toNat_ofNat,BitVec.toNat_ofNat,aIB (by simpa using e),aIB (by simpa using hb)]
theorem Jn {c x s:Nat} (e:c<2 ^ s) (h:c+2 ^ s*x<18446744073709551616):c ||| (2 ^ s*x)=c+2 ^ s*x:=by
 rw[Nat.or_comm,← Nat.two_pow_add_eq_or_of_lt e,Nat.add_comm]
theorem orI {a b n:Nat} (e:a<18446744073709551616) (hb:b<18446744073709551616) (h:a ||| b=n) (j:n<18446744073709551616):mF .or .u64 (a:Int) (b:Int)=some (.int .u64 (n:Int)):=by
 show some (PV.int .u64 (IntKind.u64.wrap (((BitVec.ofInt 64 (a:Int) ||| BitVec.ofInt 64 (b:Int)).toNat:Nat):Int)))=_;rw[ayP e hb,h,aZ j]
theorem KP {x s:Nat} (e:s≤64) (h:x*2 ^ s<18446744073709551616):shift .shl .u64 (x:Int) (s:Int)=some (.int .u64 ((2 ^ s*x:Nat):Int)):=by
 unfold shift;rw[if_neg Om];simp only;have:min (Int.toNat (s:Int)) IntKind.u64.bits=s:=by rw[show IntKind.u64.bits=64 from rfl]; omega
 rw[this,show (x:Int)*2 ^ s=((x*2 ^ s:Nat):Int) by simp,aZ h,aHL]
def alS (a:List Nat) (s o i c:Nat):PF:=(((((((PF.nil.set 0 (aJ a)).set 1 (.int .u64 s)).set 5 (.osl o 1 0 (a.length+1))).set 6 (.int .u64 c)).set 13 (aJ a)).set 14 (.int .i64 (a.length:Nat))).set 15 (.int .i64 i))
def upR (a:List Nat) (s:Nat) (r:PV) (H:PH):Prop:=∃ o,r=.osl o 1 0 (a.length+1)∧H=PH.nil.set o (.rows 1 (aI (eE (a.length+1) (val a*2 ^ s))))
theorem awE {C:Ctx} (a:List Nat) (s:Nat) (ha:Lim a) (hs:s<32) (h1:a.length≤1000):ZH.wp C (aT nup.res (upR a s)) (PF.args [aJ a,.int .u64 s]) .nil:=by
 have J:IntKind.i64.wrap ((a.length:Int)+1)=((a.length+1:Nat):Int):=dJ Om;have W:((a.length+1:Nat):Int)*((4:Nat):Int)≤140737488355328:=Om;have X:((a.length+1:Nat):Int)≤9223372036854775807:=Om;have hz:aGM (a.length+1) [PV.int .u32 0]=aI ([]++aGM (a.length+1) 0):=by simp[aI]
 have R:2 ^ s≤2147483648:=Nat.pow_le_pow_right (show 0<2 by decide) (Om:s≤31);have F:0<2 ^ s:=aJL (by decide);simp only[go_sem,ZH,adT,adU,nup,J,W,X,hz];refine aQ fun o ho=>?_;simp only[go_sem,adV,adW];refine wp_loop (α:=List Nat × Nat × Nat) (fun t=>alS a s t.2.2 t.1.length t.2.1) (fun t=>PH.nil.set t.2.2 (.rows 1 (aI (t.1++aGM (a.length+1-t.1.length) 0))))
  (fun t=>t.1.length≤a.length∧Lim t.1∧t.2.1<2 ^ s∧val t.1+4294967296 ^ t.1.length*t.2.1=val (a.take t.1.length)*2 ^ s) (fun t=>a.length-t.1.length) ([],0,o) ⟨by simp,by simp[Lim],F,by simp[val]⟩ ?_ ?_ ?_
 ·unfold alS;exact Lq
 ·exact e_ a_ (by simp only[go_sem,aIV])
 rintro⟨P,c,q⟩ ⟨hP,j,hc,u⟩;simp only at hP j hc u;simp only[go_sem,Ut,adX,alS];by_cases M:P.length<a.length
 ·have w:(P.length:Int)<(a.length:Nat):=Om;have β:=ha _ (aGP M);obtain⟨k,V⟩:∃ k,a.length+1-P.length=k+1:=⟨a.length-P.length,by omega⟩;have B:(aI (P++aGM (k+1) 0))[P.length]?=some [.int .u32 ((0:Nat):Int)]:=by rw[bN _ (by simp)]; simp
  have E:a.length+1-(P.length+1)=k:=Om;have A:(P.length:Int)<((a.length+1:Nat):Int):=Om;have Y:=cA a M;generalize Z:a[P.length]=x at *
  have γ:x*2 ^ s≤4294967295*2147483648:=aJU Om R;have ex:IntKind.u64.wrap ((x:Nat):Int)=((x:Nat):Int):=aZ Om;have K:2 ^ s*x=x*2 ^ s:=aHL _ _;have O:shift .shl .u64 (x:Int) (s:Int)=some (.int .u64 ((2 ^ s*x:Nat):Int)):=KP Om Om;have N:=orI (a:=c) (b:=2 ^ s*x) (n:=c+2 ^ s*x) Om Om (Jn hc Om) Om;have I:(c+2 ^ s*x)/4294967296<2 ^ s:=by rw[aJT (by decide)];have:2 ^ s*(x+1)≤2 ^ s*4294967296:=aJD _ Om;rw[aGX,Nat.mul_one] at this;omega
  have l:(aI (P++aGM (k+1) 0)).set P.length [.int .u32 (((c+2 ^ s*x)%4294967296:Nat):Int)]=aI ((P++[(c+2 ^ s*x)%4294967296])++aGM k 0):=by rw[fZ,zZ]
  have U:(aI a)[P.length]?=some [.int .u32 ((x:Nat):Int)]:=by rw[bN a M,Z]
  simp only[go_sem,w,adY,adZ,U,ex,O,N,aeA,cI,V,A,B,l,aeB,yX,aeC,dJ (Om:P.length<9223372036854775807)];refine aH (P++[(c+2 ^ s*x)%4294967296],(c+2 ^ s*x)/4294967296,q) ⟨by simp; omega,j.app fun y hy=>by simp at hy; subst hy; exact aIG _ (by decide),I,?_⟩ (by simp; omega) ?_ (e_ a_ ?_)
  ·simp only;rw[jU,aGO,aGR,aIL,aHI,aJB,← aGX,Nat.mod_add_div,Y,aGX,aHT,← aJB,u,K,aHI]
  ·simp only;rw[aGO,aGR];exact Lq
  ·simp only;rw[aGO,aGR,E];simp only[go_sem]
 ·have e:P.length=a.length:=Om;have w:¬ (P.length:Int)<(a.length:Nat):=Om;have V:aGM (a.length+1-P.length) 0=[0]:=by rw[show a.length+1-P.length=1 by omega]; rfl
  have B:(aI (P++[0]))[a.length]?=some [.int .u32 ((0:Nat):Int)]:=by rw[bN _ (by simp; omega)];simp[e]
  have l:(aI (P++[0])).set a.length [.int .u32 ((c%4294967296:Nat):Int)]=aI (P++[c]):=by have:=zZ P 0 (c%4294967296);simp only[List.replicate_zero,aHY,aHE,List.replicate_one] at this;rw[← e,fZ,this,aIB Om]
  have A:(a.length:Int)<((a.length+1:Nat):Int):=Om;have hV:val (P++[c])=val a*2 ^ s:=by rw[jU,u,e,aHV]
  have S:Lim (P++[c]):=j.app fun x Z=>by simp at Z; omega
  have hD:eE (a.length+1) (val a*2 ^ s)=P++[c]:=by have:=HF S;rw[hV,aGO,aGR,e] at this;exact this
  simp only[go_sem,w,Uu,cI,V,B,A,l,Uv];exact aU (vs:=[.osl q 1 0 (a.length+1)]) (.inr rfl) (PH.nil.set q (.rows 1 (aI (P++[c])))) Ev (e_ a_ Sq) ⟨q,rfl,by rw[hD]⟩
def mo (a:List Nat) (d o k r:Nat):PF:=(((((PF.nil.set 0 (aJ a)).set 1 (.int .u32 d)).set 6 (.osl o 1 0 a.length)).set 7 (.int .u64 r)).set 8 (.int .i64 ((k:Int)-1)))
theorem adO {C:Ctx} (L:rS C) (a:List Nat) (d:Nat) (ha:Lim a) (l:0<d) (hd:d<4294967296) (h1:a.length≤1000) :
  EL.wp C (aT I6.res (aM (.tup [aJ (aK (val a/d)),.int .u32 ((val a%d:Nat):Int)]))) (PF.args [aJ a,.int .u32 d]) .nil:=by
 have Y:(a.length:Int)*((4:Nat):Int)≤140737488355328:=Om;have Z:(a.length:Int)≤9223372036854775807:=Om;have hz:aGM a.length [PV.int .u32 0]=aI (aGM a.length 0++[]):=by simp[aI]
 simp only[go_sem,EL,tf,tg,I6,Y,Z,hz];refine aQ fun o ho=>?_;simp only[go_sem,th,ti];refine wp_loop (α:=Nat × List Nat × Nat × Nat) (fun t=>mo a d t.2.2.2 t.1 t.2.2.1) (fun t=>PH.nil.set t.2.2.2 (.rows 1 (aI (aGM t.1 0++t.2.1))))
  (fun t=>t.1+t.2.1.length=a.length∧Lim t.2.1∧t.2.2.1<d∧val t.2.1*d+t.2.2.1=val (a.drop t.1)) (fun t=>t.1) (a.length,[],0,o) ⟨by simp,by simp[Lim],l,by simp[val]⟩ ?_ ?_ ?_
 ·unfold mo
  (repeat' (first|exact d_|refine c_ ?_ ?_))<;>first|(simp only[go_sem,wrap_i64 (Om:-9223372036854775808≤(a.length:Int)-1) (Om:(a.length:Int)-1≤9223372036854775807)]<;>rfl)|rfl
 ·exact e_ a_ Sq
 rintro⟨k,S,r,q⟩ ⟨hk,e,M,j⟩;simp only at hk e M j;simp only[go_sem,te,tj,mo];by_cases h0:0<k
 ·obtain⟨m,rfl⟩:∃ m,k=m+1:=⟨k-1,by omega⟩;have A:((m+1:Nat):Int)-1=(m:Int):=Om;have W:(m:Int)≥0:=Om;have w:m<a.length:=Om;have hlt:(m:Int)<(a.length:Nat):=Om;have γ:=ha _ (aGP w);have u:val (a.drop m)=a[m]+4294967296*val (a.drop (m+1)):=by rw[aIZ w]; rfl
  generalize hx:a[m]=x at *
  have O:(aI a)[m]?=some [.int .u32 ((x:Nat):Int)]:=by rw[bN a w,hx]
  have ex:IntKind.u64.wrap ((x:Nat):Int)=((x:Nat):Int):=aZ Om;have ed:IntKind.u64.wrap ((d:Nat):Int)=((d:Nat):Int):=aZ Om;have I:shift .shl .u64 (r:Int) 32=some (.int .u64 ((2 ^ 32*r:Nat):Int)):=KP (s:=32) Om Om;have N:(2:Nat) ^ 32=4294967296:=by decide
  have B:=orI (a:=2 ^ 32*r) (b:=x) (n:=2 ^ 32*r+x) Om Om (Nat.two_pow_add_eq_or_of_lt Om r).symm Om;rw[N] at I B;have hq:(4294967296*r+x)/d<4294967296:=by rw[aJT l];have:4294967296*(r+1)≤4294967296*d:=aJD _ M;omega
  have R:¬ ((d:Nat):Int)=0:=Om;have E:IntKind.u64.wrap (Int.tdiv ((4294967296*r+x:Nat):Int) ((d:Nat):Int))=(((4294967296*r+x)/d:Nat):Int):=by rw[show Int.tdiv ((4294967296*r+x:Nat):Int) ((d:Nat):Int)=(((4294967296*r+x)/d:Nat):Int) from rfl];exact aZ Om
  have F:Int.tmod ((4294967296*r+x:Nat):Int) ((d:Nat):Int)=(((4294967296*r+x)%d:Nat):Int):=rfl;have ec:IntKind.u32.wrap (((4294967296*r+x)/d:Nat):Int)=(((4294967296*r+x)/d:Nat):Int):=by rw[cI,aIB hq]
  have J:aGM (m+1) 0++S=aGM m 0++(0::S):=by rw[List.replicate_succ',aHN]; rfl
  have X:(aI (aGM m 0++(0::S)))[m]?=some [.int .u32 ((0:Nat):Int)]:=by rw[bN _ (by simp)]; simp
  have K:(aI (aGM m 0++(0::S))).set m [.int .u32 (((4294967296*r+x)/d:Nat):Int)]=aI (aGM m 0++(((4294967296*r+x)/d)::S)):=by rw[fZ,aKB _ _ (by simp)]; simp
  simp only[go_sem,A,W,tk,I,O,ex,B,tp,ed,R,E,ec,hlt,J,X,K,tq,F,tr];refine aH (m,((4294967296*r+x)/d)::S,(4294967296*r+x)%d,q) ⟨by simp only[aIF]; omega,fun y hy=>?_,aIG _ l,?_⟩ (by simp only; omega) ?_ (e_ a_ Sq)
  ·rw[aGV] at hy;rcases hy with rfl | hy
   ·exact hq
   ·exact e y hy
  ·simp only[val];rw[u,← j,aHT,aGX,aHI];have:=aKC (4294967296*r+x) d;rw[aHL d] at this;omega
  ·(repeat' (first|exact d_|refine c_ ?_ ?_))<;>first|(simp only[go_sem,wrap_i64 (Om:-9223372036854775808≤(m:Int)-1) (Om:(m:Int)-1≤9223372036854775807)]<;>rfl)|rfl
 ·have:k=0:=Om;subst this;have A:¬ ((0:Nat):Int)-1≥0:=by decide
  rw[aHW] at j;have hS:S.length=a.length:=Om;have hq:val S=val a/d:=by rw[← j,aHL,Nat.mul_add_div l,aJR M,aIC]
  have β:r=val a%d:=by rw[← j,aHL,Nat.mul_add_mod,aIB M]
  have δ:aGM 0 0++S=S:=by simp
  simp only[go_sem,A,ia,aJX];have hl:=L.length S e Om;have ε:=fY e;have hc:((nl (val S):Nat):Int)≤(S.length:Nat):=Om;refine rB (o:=q) (s:=1) (k:=a.length) (rs:=aI S) (v:=.int .i64 (nl (val S):Nat)) ?_ Sq Sq (by rw[bX]; omega) ?_
  ·rw[aGZ (by rw[bX]; omega)]; exact hl
  ·have V:PV.frz q 1 (aI S) (.osl q 1 0 a.length)=aJ S:=by
    have:0+a.length≤(aI S).length:=by rw[bX]; omega
    simp only[PV.frz,PV.pZ,PV.bV,if_true,true_and,if_pos this,aHW];rw[aGZ (by rw[bX]; omega)]
   have U:∀ n:Int,∀ k,PV.frz q 1 (aI S) (.int k n)=.int k n:=fun _ _=>rfl;have er:IntKind.u32.wrap ((r:Nat):Int)=((r:Nat):Int):=by rw[cI,aIB Om]
   simp only[go_sem,V,U,hc,or_true,aHW,jQ e,er];refine aU (vs:=[aJ (aK (val S)),.int .u32 ((r:Nat):Int)]) (.inr rfl) .nil Ev a_ ⟨?_,rfl⟩;simp only[cZ,← hq,← β]
end Go.PM
namespace Go.Na
theorem GQ {L:List Nat} {i:Nat} (h:i<L.length) (v:Nat):val (L.set i v)+4294967296 ^ i*L[i]=val L+4294967296 ^ i*v:=by
 have e:i<(L.set i v).length:=by rw[aIO]; exact h
 rw[tC L h,tC (L.set i v) e,List.getElem_set_self,List.take_set_of_le (aGQ _),List.drop_set_of_lt Om,aGX,aGX];omega
theorem js {L:List Nat} {i:Nat} (h:∀ (j x:Nat),i≤j→L[j]?=some x→x=0) (k v:Nat) (u:k<i):∀ (j x:Nat),i≤j→(L.set k v)[j]?=some x→x=0:=fun j x l e=>by
 rw[List.getElem?_set_ne Om] at e;exact h j x l e
end Go.Na
namespace Go.PM
open Go Go.Na
def lN (a b:List Nat) (o i:Nat):PF:=((((((PF.nil.set 0 (aJ a)).set 1 (aJ b)).set 6 (.osl o 1 0 (a.length+b.length))).set 32 (aJ a)).set 33 (.int .i64 (a.length:Nat))).set 34 (.int .i64 i))
def Yw (a b:List Nat) (o i x c j:Nat):PF:=((((((((((((PF.nil.set 0 (aJ a)).set 1 (aJ b)).set 6 (.osl o 1 0 (a.length+b.length))).set 32 (aJ a)).set 33 (.int .i64 (a.length:Nat))).set 34 (.int .i64 i)).set 7 (.int .i64 i)).set 8 (.int .u32 x)).set 9 (.int .u64 c)).set 39 (aJ b)).set 40 (.int .i64 (b.length:Nat))).set 41 (.int .i64 j))
structure FT (a b L:List Nat) (i:Nat):Prop where
 len:L.length=a.length+b.length
 lim:Lim L
 v:val L=val (a.take i)*val b
 z:∀ j x,i+b.length≤j→L[j]?=some x→x=0
theorem Tc {x y:Nat} (e:x<4294967296) (j:y<4294967296):IntKind.u64.wrap ((x:Int)*(y:Int))=((x*y:Nat):Int):=by
 have:x*y≤4294967295*4294967295:=aJU Om Om;rw[show (x:Int)*(y:Int)=((x*y:Nat):Int) by simp];exact aZ Om
theorem hY {a b:Nat} (h:a+b≤9223372036854775807):IntKind.i64.wrap ((a:Int)+(b:Int))=((a+b:Nat):Int):=by
 rw[wrap_i64 Om Om]; omega
theorem alN {C:Ctx} (a b:List Nat) (ha:Lim a) (hb:Lim b) (h1:a.length≤1000) (h2:b.length≤1000) (L:List Nat) (i:Nat) (hi:i<a.length) (O:FT a b L i) (q:Nat) (K:cG) (F:PF) (H:PH) (N:(lN a b q i).le F) (hH:H q=some (.rows 1 (aI L)))
  (hK:∀ L' F' H',FT a b L' (i+1)→(lN a b q i).le F'→H' q=some (.rows 1 (aI L'))→K .normal F' H') :
  aE.wp C (.block 1 (.seq (.region mj) (.seq (.region ml) (.seq (.seq (.region mm) (.block 2 (.loop YV))) (.region YX))))) K F H:=by
 have f0:=N 0 _ (by unfold lN; simp only[go_sem]; rfl);have f1:=N 1 _ (by unfold lN; simp only[go_sem]; rfl);have f6:=N 6 _ (by unfold lN; simp only[go_sem]; rfl);have V:=N 32 _ (by unfold lN; simp only[go_sem]; rfl);have θ:=N 33 _ (by unfold lN; simp only[go_sem]; rfl);have W:=N 34 _ (by unfold lN; simp only[go_sem]; rfl);have hx:=ha _ (aGP hi);have γ:=cA a hi;generalize ε:a[i]=x at *
 have Z:(aI a)[i]?=some [.int .u32 ((x:Nat):Int)]:=by rw[bN a hi,ε]
 simp only[go_sem,mj,ml,mm,V,W,f1,Z];refine wp_loop (α:=List Nat × Nat × Nat) (fun t=>Yw a b q i x t.2.1 t.2.2) (fun t=>PH.nil.set q (.rows 1 (aI t.1)))
  (fun t=>t.2.2≤b.length∧t.1.length=a.length+b.length∧Lim t.1∧t.2.1<4294967296∧val t.1+4294967296 ^ (i+t.2.2)*t.2.1=val (a.take i)*val b+4294967296 ^ i*(x*val (b.take t.2.2))∧∀ j y,i+b.length≤j→t.1[j]?=some y→y=0) (fun t=>b.length-t.2.2) (L,0,0)
  ⟨by simp,O.len,O.lim,by simp,by simp[val,O.v],O.z⟩ ?_ (e_ a_ hH) ?_
 ·unfold Yw;exact Lq
 rintro⟨M,c,j⟩ ⟨hj,Y,l,hc,A,S⟩;simp only at hj Y l hc A S;simp only[go_sem,YV,Iy,Yw];by_cases U:j<b.length
 ·have B:(j:Int)<(b.length:Nat):=Om;have R:=hb _ (aGP U);have δ:=cA b U;generalize ζ:b[j]=y at *
  have β:(aI b)[j]?=some [.int .u32 ((y:Nat):Int)]:=by rw[bN b U,ζ]
  have e:i+j<M.length:=Om;have J:=l _ (aGP e);have w:=GQ e;generalize η:M[i+j]=z at *
  have I:(aI M)[i+j]?=some [.int .u32 ((z:Nat):Int)]:=by rw[bN M e,η]
  have ex:IntKind.u64.wrap ((x:Nat):Int)=((x:Nat):Int):=aZ Om;have ey:IntKind.u64.wrap ((y:Nat):Int)=((y:Nat):Int):=aZ Om;have ez:IntKind.u64.wrap ((z:Nat):Int)=((z:Nat):Int):=aZ Om;have em:=Tc hx R;have κ:x*y≤4294967295*4294967295:=aJU Om Om;have e1:IntKind.u64.wrap (((x*y:Nat):Int)+(z:Int))=((x*y+z:Nat):Int):=fM Om;have e2:IntKind.u64.wrap ((c:Int)+((x*y+z:Nat):Int))=((c+(x*y+z):Nat):Int):=fM Om;have E:IntKind.i64.wrap ((i:Int)+(j:Int))=((i+j:Nat):Int):=hY Om;have hlt:((i+j:Nat):Int)<((a.length+b.length:Nat):Int):=Om;generalize ht:c+(x*y+z)=t at *
  have ι:t<4294967296*4294967296:=Om;have u:(aI M).set (i+j) [.int .u32 ((t%4294967296:Nat):Int)]=aI (M.set (i+j) (t%4294967296)):=fZ M (i+j) _;simp only[go_sem,B,Iz,β,I0,ex,ey,em,E,hlt,I,ez,e1,e2,I1,cI,u,I2,yX,I3,wZz j];refine aH (M.set (i+j) (t%4294967296),t/4294967296,j+1) ⟨by simp only; omega,by simp only[aIO]; exact Y,l.set _ (aIG _ (by decide)),by simp only; omega,?_,js S _ _ Om⟩ (by simp only; omega) ?_ (e_ a_ Sq)
  ·simp only;have X:=w (t%4294967296);have h4:4294967296 ^ (i+(j+1))*(t/4294967296)+4294967296 ^ (i+j)*(t%4294967296)=4294967296 ^ (i+j)*t:=by rw[← aJB,aIL,aHI,← aGX,aKC]
   have h5:4294967296 ^ (i+j)*t=4294967296 ^ (i+j)*c+(4294967296 ^ (i+j)*(x*y)+4294967296 ^ (i+j)*z):=by rw[← ht,aGX,aGX]
   have h6:4294967296 ^ i*(x*val (b.take (j+1)))=4294967296 ^ i*(x*val (b.take j))+4294967296 ^ (i+j)*(x*y):=by rw[δ,aGX,aGX,Nat.pow_add];congr 1;rw[Nat.mul_left_comm x,aHI]
   omega
  ·exact Lq
 ·have he:j=b.length:=Om;have B:¬ (j:Int)<(b.length:Nat):=Om;subst he;have e:i+b.length<M.length:=Om;have J:M[i+b.length]=0:=S _ _ (aGQ _) (aGS e);have w:=GQ e;have I:(aI M)[i+b.length]?=some [.int .u32 ((0:Nat):Int)]:=by rw[bN M e,J]
  have E:IntKind.i64.wrap ((i:Int)+(b.length:Int))=((i+b.length:Nat):Int):=hY Om;have hlt:((i+b.length:Nat):Int)<((a.length+b.length:Nat):Int):=Om;have u:(aI M).set (i+b.length) [.int .u32 ((c%4294967296:Nat):Int)]=aI (M.set (i+b.length) c):=by rw[aIB hc]; exact fZ M _ _
  simp only[go_sem,B,YX,E,cI,hlt,I,u];refine hK (M.set (i+b.length) c) _ _ ⟨by rw[aIO]; exact Y,l.set _ hc,?_,fun j y hj R=>?_⟩ (by unfold lN; exact Lq) Sq
  ·have X:=w c;rw[J,Nat.mul_zero,aIC] at X;rw[X,A,aHV,γ,aHT,aHI]
  ·rw[List.getElem?_set_ne Om] at R;exact S j y Om R
theorem adN {C:Ctx} (L:rS C) (a b:List Nat) (W:Lim a) (hb:Lim b) (U:a.length≤1000) (V:b.length≤1000) (F:PF) (f0:F 0=some (aJ a)) (f1:F 1=some (aJ b)) :
  aE.wp C (.seq (.region mh) (.seq (.seq (.region mi) (.block 0 (.loop YW))) (.seq (.region YY) .ret))) (aT [.tmp 4,.tmp 5] (cD (szV (val a*val b)))) F .nil:=by
 have w:IntKind.i64.wrap ((a.length:Int)+(b.length:Int))=((a.length+b.length:Nat):Int):=hY Om;have I:((a.length+b.length:Nat):Int)*((4:Nat):Int)≤140737488355328:=Om;have J:((a.length+b.length:Nat):Int)≤9223372036854775807:=Om;have X:aGM (a.length+b.length) [PV.int .u32 0]=aI (aGM (a.length+b.length) 0):=by simp[aI]
 simp only[go_sem,mh,f0,f1,w,I,J,X];refine aQ fun o ho=>?_;simp only[go_sem,mi,f0];refine wp_loop (α:=List Nat × Nat) (fun t=>lN a b o t.2) (fun t=>PH.nil.set o (.rows 1 (aI t.1))) (fun t=>t.2≤a.length∧FT a b t.1 t.2) (fun t=>a.length-t.2) (aGM (a.length+b.length) 0,0)
  ⟨by simp,by simp,xF _,by simp[val,tF],fun j x _ N=>by rw[List.getElem?_replicate] at N; split at N<;>simp_all⟩ ?_ (e_ a_ Sq) ?_
 ·unfold lN;exact Lq
 rintro⟨M,i⟩ ⟨hi,l⟩;simp only at hi l;simp only[go_sem,YW,Ul,lN];by_cases O:i<a.length
 ·have u:(i:Int)<(a.length:Nat):=Om;have y:=alN (C:=C) a b W hb U V M i O l o;simp only[go_sem] at y;simp only[go_sem,u];refine y _ _ _ (by unfold lN; exact Lq) Sq ?_;intro L' Y H' E e B;have A:=e 34 _ (by unfold lN; simp only[go_sem]; rfl);have g0:=e 0 _ (by unfold lN; simp only[go_sem]; rfl);have g1:=e 1 _ (by unfold lN; simp only[go_sem]; rfl);have Z:=e 6 _ (by unfold lN; simp only[go_sem]; rfl);have R:=e 32 _ (by unfold lN; simp only[go_sem]; rfl);have S:=e 33 _ (by unfold lN; simp only[go_sem]; rfl);simp only[go_sem,I4,A,wZz i];refine aH (L',i+1) ⟨by simp only; omega,E⟩ (by simp only; omega) ?_ (e_ a_ B);exact Lq
 ·have he:i=a.length:=Om;subst he;have u:¬ (a.length:Int)<(a.length:Nat):=Om;have hV:val M=val a*val b:=by rw[l.v,aHV]
  simp only[go_sem,YY];have K:=L.sized _ l.lim (by rw[l.len]; omega);rw[hV] at K;refine rB (o:=o) (s:=1) (k:=a.length+b.length) (rs:=aI M) (v:=szV (val a*val b)) ?_ rfl Sq (by rw[bX,l.len]; exact aGQ _) ?_
  ·rw[aGZ (by rw[bX,l.len]; exact aGQ _)]; exact K
  ·simp only[go_sem,szV];exact aU (.inr rfl) .nil rfl a_ ⟨.refl _,rfl⟩
theorem atI {C:Ctx} (L:rS C) (a b:List Nat) (u:Lim a) (hb:Lim b) (y:a.length≤35184372087808) (A:b.length≤35184372087808) :
  PC.wp C (aT alM.res (cD (opV (fO (val a) (val b)) (val a*val b)))) (PF.args [aJ a,aJ b]) .nil:=by
 simp only[go_sem,PC,Ui,Uj,alM];refine aB (L.large a u y) rfl ?_;by_cases j:nl (val a)>512
 ·simp only[go_sem,j,mg];rw[show opV (fO (val a) (val b)) (val a*val b)=.tup [aJ [],.int .i64 2] by simp[opV,fO,j]];exact kJ rfl
 simp only[go_sem,j];refine aB (L.large b hb A) rfl ?_;by_cases l:nl (val b)>512
 ·simp only[go_sem,l,mg];rw[show opV (fO (val a) (val b)) (val a*val b)=.tup [aJ [],.int .i64 2] by simp[opV,fO,l]];exact kJ rfl
 have e:opV (fO (val a) (val b)) (val a*val b)=szV (val a*val b):=by simp[opV,fO,j,l]
 rw[e];simp only[go_sem,l];refine bP .nil Yg a_ ?_;simp only[go_sem,Uk];have I:=fY u;have J:=fY hb;have w:((nl (val a):Nat):Int)≤(a.length:Nat):=Om;have x:((nl (val b):Nat):Int)≤(b.length:Nat):=Om;refine dP (pE a) (L.length a u y) rfl a_ ?_;simp only[go_sem,w,or_true,aHW,jQ u];refine dP (pE b) (L.length b hb A) rfl a_ ?_;simp only[go_sem,x,or_true,aHW,jQ hb];have B:=aY (val a);have E:=aY (val b);have:=adN L (aK (val a)) (aK (val b)) (bE _) (bE _) (by rw[bJ]; omega) (by rw[bJ]; omega);rw[B,E] at this;have:=fun F f0 f1=>this F f0 f1;simp only[go_sem] at this;exact this _ rfl rfl
open Go Go.Na
theorem ij {A P W Z:List Nat} {i:Nat} (j:P.length=i) (hi:i<W.length):(aI (A++(P++W.drop i)++Z))[A.length+i]?=some [.int .u32 ((W[i]:Nat):Int)]:=by
 have e:A.length+i<(A++(P++W.drop i)++Z).length:=by simp; omega
 rw[bN _ e];congr 4;rw[List.getElem_append_left (by simp; omega),aKL Om,aKL Om,List.getElem_drop];congr 1;omega
theorem GN {A P W Z:List Nat} {i:Nat} (e:P.length=i) (hi:i<W.length) (v:Nat):(aI (A++(P++W.drop i)++Z)).set (A.length+i) [.int .u32 (v:Int)]=aI (A++((P++[v])++W.drop (i+1))++Z):=by
 rw[fZ];congr 1;rw[List.set_append_left _ _ (by simp; omega),aKB _ _ Om,aKB _ _ Om,aIZ hi];rw[show A.length+i-A.length-P.length=0 by omega,List.set_cons_zero];simp
theorem agV {t:Nat} (h:t<18446744073709551616):mF .and .u64 (t:Int) 4294967295=some (.int .u64 ((t%4294967296:Nat):Int)):=by
 show some (PV.int .u64 (IntKind.u64.wrap (((BitVec.ofInt 64 (t:Int) &&& BitVec.ofInt 64 (4294967295:Int)).toNat:Nat):Int)))=_;have e:BitVec.ofInt 64 (4294967295:Int)=BitVec.ofNat 64 4294967295:=by rfl
 rw[e,BitVec.ofInt_natCast,BitVec.toNat_and,BitVec.toNat_ofNat,BitVec.toNat_ofNat,aIB (by simpa using h)];have j:(4294967295:Nat)%2 ^ 64=2 ^ 32-1:=by decide
 rw[j,Nat.and_two_pow_sub_one_eq_mod];rw[aZ (Nat.lt_of_lt_of_le (aIG _ (by decide)) (by decide))]
theorem ahA {c f x:Nat} (j:c<4294967296) (e:f≤4294967296) (l:x<4294967296):c+f*x<18446744073709551616∧(c+f*x)/4294967296<4294967296∧f*x≤4294967296*4294967295:=by
 have:f*x≤4294967296*4294967295:=aJU e Om;refine⟨by omega,?_,this⟩;omega
def Jc (v:List Nat) (j o i c b:Nat) (f:Nat):PF:=((((((((PF.nil.set 0 (.osl o 1 j (v.length+1))).set 1 (aJ v)).set 2 (.int .u64 f)).set 7 (.int .u64 c)).set 8 (.int .u64 b)).set 13 (aJ v)).set 14 (.int .i64 (v.length:Nat))).set 15 (.int .i64 i))
def KR (n w m:Nat):Nat:=if w<m then w+4294967296 ^ n-m else w-m
theorem Jd {C:Ctx} (A W Z v:List Nat) (f:Nat) (hW:Lim W) (hv:Lim v) (hl:W.length=v.length+1) (h1:A.length+v.length≤100000) (hf:f≤4294967296) (ν:val v*f≤val W+4294967296 ^ (v.length+1)) (o:Nat) :
  vO.wp C (aT PI.res (fun r H'=>r=.bool (decide (val W<val v*f))∧H'=PH.nil.set o (.rows 1 (aI (A++eE (v.length+1) (KR (v.length+1) (val W) (val v*f))++Z)))))
   (PF.args [.osl o 1 A.length (v.length+1),aJ v,.int .u64 f]) (PH.nil.set o (.rows 1 (aI (A++W++Z)))):=by
 simp only[go_sem,vO,PJ,PK,PL,PI];refine wp_loop (α:=List Nat × Nat × Nat) (fun t=>Jc v A.length o t.1.length t.2.1 t.2.2 f) (fun t=>PH.nil.set o (.rows 1 (aI (A++(t.1++W.drop t.1.length)++Z))))
  (fun t=>t.1.length≤v.length∧Lim t.1∧t.2.1<4294967296∧t.2.2≤1∧val (W.take t.1.length)+4294967296 ^ t.1.length*t.2.2+4294967296 ^ t.1.length*t.2.1=val t.1+val (v.take t.1.length)*f) (fun t=>v.length-t.1.length) ([],0,0)
  ⟨by simp,by simp[Lim],by simp,by simp,by simp[val]⟩ ?_ (e_ a_ (by simp only[go_sem,aIV,aHW,aJX])) ?_
 ·unfold Jc;exact Lq
 rintro⟨P,c,b⟩ ⟨hP,j,hc,hb,w⟩;simp only at hP j hc hb w;simp only[go_sem,ML,PN,Jc];by_cases c1:P.length<v.length
 ·have I:(P.length:Int)<(v.length:Nat):=Om;have E:P.length<W.length:=Om;have J:(P.length:Int)<((v.length+1:Nat):Int):=Om;have hx:=hv _ (aGP c1);have hw:=hW _ (aGP E);have η:=cA v c1;have F:=cA W E;have M:=ij (A:=A) (Z:=Z) (P:=P) rfl E;have u:=GN (A:=A) (Z:=Z) (P:=P) rfl E;generalize μ:v[P.length]=x at *
  generalize κ:W[P.length]=y at *
  have ι:(aI v)[P.length]?=some [.int .u32 ((x:Nat):Int)]:=by rw[bN v c1,μ]
  obtain⟨k1,k2,k3⟩:=ahA hc hf hx;have ex:IntKind.u64.wrap ((x:Nat):Int)=((x:Nat):Int):=aZ Om;have ey:IntKind.u64.wrap ((y:Nat):Int)=((y:Nat):Int):=aZ Om;have em:IntKind.u64.wrap ((f:Int)*(x:Int))=((f*x:Nat):Int):=by rw[show (f:Int)*(x:Int)=((f*x:Nat):Int) by simp];exact aZ Om
  have l:c+f*x<18446744073709551616:=k1;have ea:IntKind.u64.wrap ((c:Int)+((f*x:Nat):Int))=((c+f*x:Nat):Int):=fM l;have S:=agV l;have θ:val (v.take (P.length+1))*f=val (v.take P.length)*f+4294967296 ^ P.length*(f*x):=by rw[η,aHT,aHI,aHL x f]
  generalize f*x=B at *
  have V:(c+B)%4294967296<4294967296:=aIG _ (by decide);obtain⟨s1,s2,s3,s4⟩:=Km (a:=y) (bor:=b) (b:=(c+B)%4294967296) hw V hb (IntKind.u64.wrap (IntKind.u64.wrap ((y:Int)-(((c+B)%4294967296:Nat):Int))-(b:Int))) (by rw[gQ,gQ]; omega);generalize hd:QM y b ((c+B)%4294967296)=d at *
  generalize δ:ZS y b ((c+B)%4294967296)=Y at *
  have γ:Y≤1:=by rw[← δ]; unfold ZS; split<;>omega
  have hs:=u d;simp only[go_sem,I,PO,ι,PP,ex,em,ea,PQ,J,M,ey,S,PR,s1,hs,PS,Zf,s2,PT,yX,MM,dJ (Om:P.length<9223372036854775807)];refine aH (P++[d],(c+B)/4294967296,Y) ⟨by simp; omega,j.app fun z hz=>by simp at hz; omega,k2,γ,?_⟩ (by simp; omega) ?_ (e_ a_ ?_)
  ·simp only;rw[aGO,aGR,jU,F,θ,aIL,aHI,aHI];have h4:4294967296 ^ P.length*y+4294967296 ^ P.length*(4294967296*Y)=4294967296 ^ P.length*d+4294967296 ^ P.length*((c+B)%4294967296)+4294967296 ^ P.length*b:=by rw[← aGX,s3,aGX,aGX]
   have h5:4294967296 ^ P.length*(4294967296*((c+B)/4294967296))+4294967296 ^ P.length*((c+B)%4294967296)=4294967296 ^ P.length*c+4294967296 ^ P.length*B:=by rw[← aGX,aKC,aGX]
   omega
  ·simp only;rw[aGO,aGR];exact Lq
  ·simp only;rw[aGO,aGR];simp only[go_sem]
 ·have e:P.length=v.length:=Om;have I:¬ (P.length:Int)<(v.length:Nat):=Om;have E:v.length<W.length:=Om;have J:(v.length:Int)<((v.length+1:Nat):Int):=Om;have hw:=hW _ (aGP E);have F:=cA W E;have M:=ij (A:=A) (Z:=Z) (P:=P) e E;have u:=GN (A:=A) (Z:=Z) (P:=P) e E;have K:val (W.take (v.length+1))=val W:=by rw[aGZ Om]
  generalize κ:W[v.length]=y at *
  have ey:IntKind.u64.wrap ((y:Nat):Int)=((y:Nat):Int):=aZ Om;have β:=fL j;rw[e] at w β;rw[aHV] at w;rw[K] at F;have X:4294967296 ^ (v.length+1)=4294967296 ^ v.length*4294967296:=aIL _ _;have ο:val W+4294967296 ^ v.length*(b+c)=val P+val v*f+4294967296 ^ v.length*y:=by rw[F,aGX]; omega
  have ξ:b+c≤y+4294967296:=by
   rcases aHD (y+4294967296) (b+c) with h | h
   ·exfalso;have:4294967296 ^ v.length*(y+4294967296+1)≤4294967296 ^ v.length*(b+c):=aJD _ h;rw[aGX,aGX,Nat.mul_one] at this;omega
   ·exact h
  have O:∃ d k:Nat,d<4294967296∧k≤1∧y+4294967296*k=d+(b+c)∧IntKind.u32.wrap (IntKind.u64.wrap (IntKind.u64.wrap ((y:Int)-(c:Int))-(b:Int)))=(d:Int)∧((IntKind.u64.wrap (IntKind.u64.wrap ((y:Int)-(c:Int))-(b:Int))/9223372036854775808==1)=decide (k=1)):=by
   rw[VO,gQ,gQ];by_cases h:y<b+c
   ·refine⟨y+4294967296-(b+c),1,by omega,by omega,by omega,by omega,?_⟩;simp only[decide_true];exact bM Om
   ·refine⟨y-(b+c),0,by omega,by omega,by omega,by omega,?_⟩;exact bB Om
  obtain⟨d,k,hd,hk,hy,w1,w2⟩:=O;have hs:=u d;have hN:val (P++[d])+val v*f=val W+4294967296 ^ (v.length+1)*k:=by
   have:4294967296 ^ v.length*y+4294967296 ^ v.length*(4294967296*k)=4294967296 ^ v.length*d+4294967296 ^ v.length*(b+c):=by rw[← aGX,hy,aGX]
   rw[jU,e,X,aHI];omega
  have U:Lim (P++[d]):=j.app fun z hz=>by simp at hz; omega
  have ε:=fL U;rw[aGO,aGR,e] at ε;have N:decide (k=1)=decide (val W<val v*f):=by
   congr 1;apply propext;constructor
   ·intro h; subst h; omega
   ·intro h;rcases aIS k with h0 | h0
    ·subst h0; omega
    ·omega
  have R:KR (v.length+1) (val W) (val v*f)=val (P++[d]):=by
   unfold KR;split
   ·rename_i h;have:k=1:=by simpa [h] using N
    subst this; omega
   ·rename_i h;have:k=0:=by
     have:¬ k=1:=by simpa [h] using N
     omega
    subst this; omega
  have hD:eE (v.length+1) (KR (v.length+1) (val W) (val v*f))=P++[d]:=by have:=HF U;rw[aGO,aGR,e] at this;rw[R,this]
  have ζ:W.drop (v.length+1)=[]:=aKG Om;simp only[go_sem,I,MN,e,J,M,ey,MO,w1,hs,MP,Zf,w2,N];refine aU (vs:=[.bool (decide (val W<val v*f))]) (.inr rfl) (PH.nil.set o (.rows 1 (aI (A++(P++[d]++W.drop (v.length+1))++Z)))) rfl (e_ a_ Sq) ⟨rfl,?_⟩;rw[hD,ζ,aHY]
end Go.PM
namespace Go.Na
theorem R7 {xs e:List Nat} (u:Lim xs) (w:Lim e) (j:xs.length=e.length) (l:val xs=val e):xs=e:=by
 rw[← HF u,← HF w,j,l]
theorem apX {k n:Nat} {xs:List Nat} (l:Lim xs) (e:xs.length=k) (j:val xs=n%4294967296 ^ k):eE k n=xs :=
 R7 (nN k n) l (by rw[mJ,e]) (by rw[BD,j])
end Go.Na
namespace Go.PM
open Go Go.Na
def I5 (v:List Nat) (j o i c:Nat):PF:=((((((PF.nil.set 0 (.osl o 1 j (v.length+1))).set 1 (aJ v)).set 4 (.int .u64 c)).set 7 (aJ v)).set 8 (.int .i64 (v.length:Nat))).set 9 (.int .i64 i))
theorem Oc {C:Ctx} (A W Z v:List Nat) (hW:Lim W) (hv:Lim v) (hl:W.length=v.length+1) (h1:A.length+v.length≤100000) (o:Nat) :
  xU.wp C (aT ZA.res (fun r H'=>r=.tup []∧H'=PH.nil.set o (.rows 1 (aI (A++eE (v.length+1) (val W+val v)++Z)))))
   (PF.args [.osl o 1 A.length (v.length+1),aJ v]) (PH.nil.set o (.rows 1 (aI (A++W++Z)))):=by
 simp only[go_sem,xU,UM,UN,ZA];refine wp_loop (α:=List Nat × Nat) (fun t=>I5 v A.length o t.1.length t.2) (fun t=>PH.nil.set o (.rows 1 (aI (A++(t.1++W.drop t.1.length)++Z))))
  (fun t=>t.1.length≤v.length∧Lim t.1∧t.2≤1∧val (W.take t.1.length)+val (v.take t.1.length)=val t.1+4294967296 ^ t.1.length*t.2) (fun t=>v.length-t.1.length) ([],0)
  ⟨by simp,by simp[Lim],by simp,by simp[val]⟩ ?_ (e_ a_ (by simp only[go_sem,aIV,aHW,aJX])) ?_
 ·unfold I5;exact Lq
 rintro⟨P,c⟩ ⟨hP,j,hc,u⟩;simp only at hP j hc u;simp only[go_sem,UL,UO,I5];by_cases O:P.length<v.length
 ·have B:(P.length:Int)<(v.length:Nat):=Om;have w:P.length<W.length:=Om;have E:(P.length:Int)<((v.length+1:Nat):Int):=Om;have hx:=hv _ (aGP O);have hw:=hW _ (aGP w);have X:=cA v O;have J:=cA W w;have I:=ij (A:=A) (Z:=Z) (P:=P) rfl w;have l:=GN (A:=A) (Z:=Z) (P:=P) rfl w;generalize γ:v[P.length]=x at *
  generalize β:W[P.length]=y at *
  have Y:(aI v)[P.length]?=some [.int .u32 ((x:Nat):Int)]:=by rw[bN v O,γ]
  have ex:IntKind.u64.wrap ((x:Nat):Int)=((x:Nat):Int):=aZ Om;have R:IntKind.u64.wrap ((y:Nat):Int)=((y:Nat):Int):=aZ Om;have e1:IntKind.u64.wrap ((y:Int)+(x:Int))=((y+x:Nat):Int):=fM Om;have e2:IntKind.u64.wrap ((c:Int)+((y+x:Nat):Int))=((c+(y+x):Nat):Int):=fM Om;have V:=l ((c+(y+x))%4294967296);simp only[go_sem,B,UP,Y,UQ,E,I,ex,R,e1,e2,UR,cI,V,US,yX,UT,dJ (Om:P.length<9223372036854775807)];refine aH (P++[(c+(y+x))%4294967296],(c+(y+x))/4294967296) ⟨by simp; omega,j.app fun z N=>by simp at N; subst N; exact aIG _ (by decide),by simp only; omega,?_⟩ (by simp; omega) ?_ (e_ a_ ?_)
  ·simp only;rw[aGO,aGR,jU,J,X,aIL,aHI];have h5:4294967296 ^ P.length*(4294967296*((c+(y+x))/4294967296))+4294967296 ^ P.length*((c+(y+x))%4294967296)=4294967296 ^ P.length*c+(4294967296 ^ P.length*y+4294967296 ^ P.length*x):=by rw[← aGX,aKC,aGX,aGX]
   omega
  ·simp only;rw[aGO,aGR];exact Lq
  ·simp only;rw[aGO,aGR];simp only[go_sem]
 ·have e:P.length=v.length:=Om;have B:¬ (P.length:Int)<(v.length:Nat):=Om;have w:v.length<W.length:=Om;have E:(v.length:Int)<((v.length+1:Nat):Int):=Om;have hw:=hW _ (aGP w);have J:=cA W w;have I:=ij (A:=A) (Z:=Z) (P:=P) e w;have l:=GN (A:=A) (Z:=Z) (P:=P) e w;have F:val (W.take (v.length+1))=val W:=by rw[aGZ Om]
  generalize β:W[v.length]=y at *
  have S:=fL j;rw[e] at u S;rw[aHV] at u;rw[F] at J;have ec:IntKind.u32.wrap ((c:Nat):Int)=((c:Nat):Int):=by rw[cI,aIB Om]
  have R:IntKind.u32.wrap ((y:Int)+(c:Int))=(((y+c)%4294967296:Nat):Int):=by rw[show (y:Int)+(c:Int)=((y+c:Nat):Int) by omega,cI]
  have V:=l ((y+c)%4294967296);have K:Lim (P++[(y+c)%4294967296]):=j.app fun z N=>by simp at N; subst N; exact aIG _ (by decide)
  have M:=fL K;rw[aGO,aGR,e] at M;have hD:eE (v.length+1) (val W+val v)=P++[(y+c)%4294967296]:=by
   refine apX K (by rw[aGO,aGR,e]) ?_;have:val W+val v=val (P++[(y+c)%4294967296])+4294967296 ^ (v.length+1)*((y+c)/4294967296):=by rw[jU,e,aIL,aHI,aJB,← aGX,Nat.mod_add_div,aGX];omega
   rw[this,Nat.add_mul_mod_self_left,aIB M]
  have U:W.drop (v.length+1)=[]:=aKG Om;simp only[go_sem,B,UU,e,E,I,ec,R,V];refine aU (vs:=[]) (.inl rfl) (PH.nil.set o (.rows 1 (aI (A++(P++[(y+c)%4294967296]++W.drop (v.length+1))++Z)))) rfl (e_ a_ Sq) ⟨rfl,?_⟩;rw[hD,U,aHY]
def Ys (o n:Nat) (len:Nat):PF:=((PF.nil.set 0 (.osl o 1 0 len)).set 3 (.int .i64 n))
theorem Ob {C:Ctx} (xs:List Nat) (B:Lim xs) (F:xs.length≤35184372087808) (o:Nat):qD.wp C (aT GJ.res (fun r H'=>r=.int .i64 (nl (val xs):Nat)∧H'=PH.nil.set o (.rows 1 (aI xs)))) (PF.args [.osl o 1 0 xs.length]) (PH.nil.set o (.rows 1 (aI xs))):=by
 simp only[go_sem,qD,JV,JW,GJ];refine wp_loop (α:=Nat) (fun n=>Ys o n xs.length) (fun _=>PH.nil.set o (.rows 1 (aI xs))) (fun n=>n≤xs.length∧∀ j x,n≤j→xs[j]?=some x→x=0) (fun n=>n) xs.length ⟨aGQ _,fun j x h e=>by rw[aHZ h] at e; cases e⟩ ?_ b_ ?_
 ·unfold Ys;exact Lq
 rintro n ⟨A,y⟩;have out:(∀ x,0<n→xs[n-1]?=some x→x≠0)→nl (val xs)=n:=fun h=>Vd B A y h;simp only[go_sem,JU,JX,Ys];by_cases u:(n:Int)>0
 ·have w:0<n:=Om;have hi:=bN xs (Om:n-1<xs.length);have hlt:((n-1:Nat):Int)<(xs.length:Nat):=Om;simp only[go_sem,u,xP (Om:n≤9223372036854775807) w,hi,hlt];by_cases l:xs[n-1]=0
  ·simp only[go_sem,bM (Om:((xs[n-1]:Nat):Int)=0),JY,xP (Om:n≤9223372036854775807) w];refine aH (n-1) ⟨by omega,fun j x E he=>?_⟩ Om ?_ b_
   ·rcases aHD j n with h | h
    ·have:j=n-1:=Om;subst this;rw[aGS Om] at he;cases he; exact l
    ·exact y j x h he
   ·exact Lq
  ·simp only[go_sem,bB (Om:((xs[n-1]:Nat):Int)≠0),uJ];refine aU (.inr rfl) _ rfl b_ ⟨?_,rfl⟩;rw[out fun x _ he=>by rw[aGS Om] at he; cases he; exact l];rfl
 ·simp only[go_sem,u,uJ];refine aU (.inr rfl) _ rfl b_ ⟨?_,rfl⟩;rw[out fun x h=>by omega];rfl
end Go.PM
namespace Go.Na
structure Kn (V W top next Vr head u2 Wr p:Nat):Prop where
 hV:V=top*(4294967296*p)+next*p+Vr
 hW:W=head*(4294967296*p)+u2*p+Wr
 hVr:Vr<p
 hWr:Wr<p
 htop:2147483648≤top
 aFT:next<4294967296
 hu2:u2<4294967296
 hlt:W<V*4294967296
section
variable {V W top next Vr head u2 Wr p:Nat}
theorem Kn.low (K:Kn V W top next Vr head u2 Wr p):next*p+Vr<4294967296*p∧u2*p+Wr<4294967296*p:=by
 have e:(next+1)*p≤4294967296*p:=aHO _ K.aFT;have j:(u2+1)*p≤4294967296*p:=aHO _ K.hu2;rw[aHT,Nat.one_mul] at e j;have:=K.hVr;have:=K.hWr;omega
theorem Kn.zx (K:Kn V W top next Vr head u2 Wr p):0<V∧4294967296*p≤V∧0<p:=by
 have:=K.hVr;have h:1*(4294967296*p)≤top*(4294967296*p):=aHO _ (by have:=K.htop; omega);have:=K.hV;omega
theorem Kn.awK (K:Kn V W top next Vr head u2 Wr p):W/V<4294967296:=by
 rw[aJT K.zx.1,aHL]; exact K.hlt
theorem Kn.g0 (K:Kn V W top next Vr head u2 Wr p):W/V≤head/top:=by
 have e:0<top:=by have:=K.htop; omega
 rw[Nat.le_div_iff_mul_le e];have j:W/V*V≤W:=Nat.div_mul_le_self W V;have l:W/V*(top*(4294967296*p))≤W/V*V:=aJD _ (by have:=K.hV; omega);have u:=K.low.2;have w:=K.hW;have h5:(W/V*top)*(4294967296*p)<(head+1)*(4294967296*p):=by rw[aHI,aHT,Nat.one_mul]; omega
 have:=Nat.lt_of_mul_lt_mul_right h5;omega
theorem Kn.g1 (K:Kn V W top next Vr head u2 Wr p) {g r:Nat} (u:g*top+r=head) (hq:W/V≤g) (h:g≥4294967296∨g*next>r*4294967296+u2):1≤g∧W/V≤g-1:=by
 have x:=K.awK;have j:=Nat.div_mul_le_self W V;generalize W/V=Q at *
 rcases h with h | h
 ·omega
 ·have w:Q≠g:=by
   intro e;have y:g*V≤W:=by rw[← e]; exact j
   have A:g*V=g*top*(4294967296*p)+g*next*p+g*Vr:=by rw[K.hV,aGX,aGX,aHI,aHI]
   have l:(r*4294967296+u2+1)*p≤g*next*p:=aHO _ h
   rw[aHT,aHT,Nat.one_mul,aHI r] at l;have B:g*top*(4294967296*p)+r*(4294967296*p)=head*(4294967296*p):=by rw[← aHT,u]
   have:=K.hW;have:=K.hWr;omega
  omega
theorem Kn.g2 (K:Kn V W top next Vr head u2 Wr p) {g r:Nat} (w:g*top+r=head) (x:g≤4294967296) (h:g*next≤r*4294967296+u2):g≤W/V+1:=by
 rcases aIS g with e | e
 ·rw[e]; exact aGW _
 have l:g*V=g*top*(4294967296*p)+g*next*p+g*Vr:=by rw[K.hV,aGX,aGX,aHI,aHI]
 have j:g*next*p≤(r*4294967296+u2)*p:=aHO _ h
 rw[aHT,aHI r] at j;have u:g*top*(4294967296*p)+r*(4294967296*p)=head*(4294967296*p):=by rw[← aHT,w]
 have h5:g*Vr≤4294967296*Vr:=aHO _ x;have y:4294967296*(Vr+1)≤4294967296*p:=aJD _ K.hVr;have hV:=K.zx;have hW:=K.hW;have h7:(g-1)*V≤W:=by
  have:g*V=(g-1)*V+V:=by obtain⟨k,rfl⟩:∃ k,g=k+1:=⟨g-1,by omega⟩;rw[aHT,Nat.one_mul]; rfl
  omega
 have:=(Nat.le_div_iff_mul_le hV.1).2 h7;generalize W/V=Q at *
 clear l j u h5 h7;omega
theorem Kn.g3 (K:Kn V W top next Vr head u2 Wr p) {g r:Nat} (w:g*top+r=head) (x:g≤4294967296) (y:4294967296≤r):g≤W/V+1:=by
 have e:=K.low.1;have hV:=K.zx;have j:g*V=g*top*(4294967296*p)+g*(next*p+Vr):=by rw[K.hV,aJB,aGX,aHI]
 have l:g*(next*p+Vr)≤4294967296*(4294967296*p):=aJU x Om;have u:g*top*(4294967296*p)+r*(4294967296*p)=head*(4294967296*p):=by rw[← aHT,w]
 have h5:4294967296*(4294967296*p)≤r*(4294967296*p):=aHO _ y;have hW:=K.hW;have h7:g*V≤W:=Om;have:=(Nat.le_div_iff_mul_le hV.1).2 h7;generalize W/V=Q at *
 clear j l u h5 h7;omega
theorem Kn.g4 (K:Kn V W top next Vr head u2 Wr p):head/top≤4294967296+1:=by
 have e:=K.low.1;have hV:=K.zx;have hW:=K.hW;have hlt:=K.hlt;have x:=K.htop;have u:head<(top+1)*4294967296:=by
  have j:V<(top+1)*(4294967296*p):=by rw[K.hV,aHT,Nat.one_mul]; omega
  have w:V*4294967296≤(top+1)*(4294967296*p)*4294967296:=aHO _ (Nat.le_of_lt j);have l:head*(4294967296*p)<(top+1)*4294967296*(4294967296*p):=by
   have:(top+1)*(4294967296*p)*4294967296=(top+1)*4294967296*(4294967296*p):=by rw[aHI,aHL (4294967296*p) 4294967296,← aHI]
   omega
  exact Nat.lt_of_mul_lt_mul_right l
 have h5:head/top<4294967296+2:=by rw[aJT Om];omega
 omega
end
theorem wZ:∀ (k n:Nat),eE (k+1) n=eE k n++[n/4294967296 ^ k%4294967296]
 | 0,n=>by simp[eE]
 | k+1,n=>by show (n%4294967296)::eE (k+1) (n/4294967296)=(n%4294967296)::eE k (n/4294967296)++[n/4294967296 ^ (k+1)%4294967296];rw[wZ k (n/4294967296),Nat.div_div_eq_div_mul,aIL,aHL 4294967296];rfl
theorem vZ {xs:List Nat} (h:Lim xs):∀ {k:Nat},k≤xs.length→val (xs.drop k)=val xs/4294967296 ^ k:=by
 intro k j;have e:val xs=val (xs.take k)+4294967296 ^ k*val (xs.drop k):=by
  conv=>lhs; rw[← aJH k xs,gW,aGY,aIT j]
 have l:=fL (h.take k);rw[aGY,aIT j] at l;rw[e,Nat.add_mul_div_left _ _ (aJL (by decide)),aJR l,aHE]
theorem UW {R s i j l X:Nat} (w:s<32) (h:R/4294967296 ^ i=j+4294967296*(l+4294967296*X)):(R/2 ^ s)/4294967296 ^ i%4294967296=(4294967296*l+j)/2 ^ s%4294967296:=by
 rw[Nat.div_div_eq_div_mul,aHL (2 ^ s),← Nat.div_div_eq_div_mul,h];have u:4294967296*4294967296=2 ^ s*(2 ^ (32-s)*4294967296):=by rw[← aHI,← Nat.pow_add,show s+(32-s)=32 by omega]
 have e:j+4294967296*(l+4294967296*X)=(4294967296*l+j)+2 ^ s*(2 ^ (32-s)*X*4294967296):=by
  have:4294967296*(4294967296*X)=2 ^ s*(2 ^ (32-s)*X*4294967296):=by rw[← aHI,u,aHI,aHI,aHI,aHL 4294967296 X]
  rw[aGX,this]; omega
 rw[e,Nat.add_mul_div_left _ _ (aJL (by decide)),Nat.add_mul_mod_self_right]
end Go.Na
namespace Go.PM
open Go Go.Na
theorem atV {A W Z:List Nat} {i:Nat} (hi:i<W.length):(aI (A++W++Z))[A.length+i]?=some [.int .u32 ((W[i]:Nat):Int)]:=by
 have e:A.length+i<(A++W++Z).length:=by simp; omega
 rw[bN _ e];congr 4;rw[List.getElem_append_left (by simp; omega),aKL Om];congr 1;omega
def dF (u v:PV) (n:Nat) (q:PV) (e next j s:Nat):PF:=((((((((PF.nil.set 8 (.int .u64 s)).set 9 (u)).set 10 (v)).set 11 (.int .i64 n)).set 12 (q)).set 13 (.int .u64 e)).set 14 (.int .u64 next)).set 15 (.int .i64 j))
def dG (u v:PV) (n:Nat) (q:PV) (e next j s g r:Nat):PF:=((((((((((PF.nil.set 8 (.int .u64 s)).set 9 (u)).set 10 (v)).set 11 (.int .i64 n)).set 12 (q)).set 13 (.int .u64 e)).set 14 (.int .u64 next)).set 15 (.int .i64 j)).set 17 (.int .u64 g)).set 18 (.int .u64 r))
theorem yd {C:Ctx} {V J e next Vr l w Wr p:Nat} (x:Kn V J e next Vr l w Wr p) (htop:e<4294967296) (o y m j s:Nat) (v q:PV) (θ:j+m+2<y) (ι:y≤100000) (U:List Nat) (hU:(aI U)[j+m]?=some [.int .u32 (w:Nat)]) (K:cG) (F:PF) (H:PH)
  (hF:(dG (.osl o 1 0 y) v (m+2) q e next j s (l/e) (l%e)).le F) (hH:H o=some (.rows 1 (aI U)))
  (hK:∀ g r I,J/V≤g→g≤J/V+1→g≤4294967296→(dG (.osl o 1 0 y) v (m+2) q e next j s g r).le I→K .normal I H) :
  aE.wp C (.block 4 (.loop wM)) K F H:=by
 have γ:0<e:=by have:=x.htop; omega
 have hn:=x.aFT;have hu2:=x.hu2;simp only[go_sem];refine wp_loop (α:=Nat × Nat) (fun t=>dG (.osl o 1 0 y) v (m+2) q e next j s t.1 t.2) (fun _=>H) (fun t=>t.1*e+t.2=l∧J/V≤t.1∧t.1≤4294967296+1∧t.2<4294967296) (fun t=>t.1) (l/e,l%e)
  ⟨by simp only; rw[aHL]; exact aKC l e,x.g0,x.g4,Nat.lt_trans (aIG _ γ) htop⟩ hF b_ ?_
 rintro⟨g,r⟩ ⟨R,hq,β,hr⟩;simp only at R hq β hr;have e1:IntKind.i64.wrap ((j:Int)+((m+2:Nat):Int))=((j+(m+2):Nat):Int):=hY Om;have e2:IntKind.i64.wrap (((j+(m+2):Nat):Int)-2)=((j+m:Nat):Int):=by rw[wrap_i64 Om Om]; omega
 have hlt:((j+m:Nat):Int)<(y:Nat):=Om;have X:IntKind.u64.wrap ((w:Nat):Int)=((w:Nat):Int):=aZ Om;have N:shift .shl .u64 (r:Int) 32=some (.int .u64 ((2 ^ 32*r:Nat):Int)):=KP (s:=32) Om Om;have W:(2:Nat) ^ 32=4294967296:=by decide
 have M:=orI (a:=2 ^ 32*r) (b:=w) (n:=2 ^ 32*r+w) Om Om (Nat.two_pow_add_eq_or_of_lt Om r).symm Om;rw[W] at N M;have A:(g≥4294967296∨g*next>r*4294967296+w)→∀ I:PF,(dG (.osl o 1 0 y) v (m+2) q e next j s g r).le I→aE.wp C (.block 5 (.seq (.region EB) (.seq (.region EC) (.seq (.region ED) (.cond (.tmp 136) (.exit 4) .skip)))))
   (jE (fun t:Nat × Nat=>dG (.osl o 1 0 y) v (m+2) q e next j s t.1 t.2) (fun _=>H) (fun t=>t.1*e+t.2=l∧J/V≤t.1∧t.1≤4294967296+1∧t.2<4294967296) (fun t=>t.1) g (fF 4 K)) I H:=by
  intro hc I u;obtain⟨g1,g2⟩:=x.g1 R hq hc;have f8:=u 8 _ (by unfold dG; simp only[go_sem]; rfl);have f9:=u 9 _ (by unfold dG; simp only[go_sem]; rfl);have δ:=u 10 _ (by unfold dG; simp only[go_sem]; rfl);have f11:=u 11 _ (by unfold dG; simp only[go_sem]; rfl);have ε:=u 12 _ (by unfold dG; simp only[go_sem]; rfl);have f13:=u 13 _ (by unfold dG; simp only[go_sem]; rfl);have f14:=u 14 _ (by unfold dG; simp only[go_sem]; rfl);have ζ:=u 15 _ (by unfold dG; simp only[go_sem]; rfl);have Y:=u 17 _ (by unfold dG; simp only[go_sem]; rfl);have Z:=u 18 _ (by unfold dG; simp only[go_sem]; rfl);have w1:IntKind.u64.wrap ((g:Int)-1)=((g-1:Nat):Int):=by rw[wrap_u64 Om Om]; omega
  have w2:IntKind.u64.wrap ((r:Int)+(e:Int))=((r+e:Nat):Int):=fM Om;have O:(g-1)*e+(r+e)=l:=by obtain⟨k,rfl⟩:∃ k,g=k+1:=⟨g-1,by omega⟩;rw[aHT,Nat.one_mul] at R;simp only[Nat.add_sub_cancel];omega
  simp only[go_sem,EB,EC,ED,Y,Z,f13,w1,w2];by_cases c:r+e≥4294967296
  ·have S:((r+e:Nat):Int)≥4294967296:=Om;simp only[go_sem,S];refine hK (g-1) (r+e) _ g2 (x.g3 O Om c) Om ?_;unfold dG;exact Lq
  ·have S:¬ ((r+e:Nat):Int)≥4294967296:=Om;simp only[go_sem,S];refine aH (g-1,r+e) ⟨O,g2,by simp only; omega,by simp only; omega⟩ (by simp only; omega) ?_ b_;unfold dG;exact Lq
 simp only[go_sem,wM,UE,dG];by_cases c1:g≥4294967296
 ·have B:(g:Int)≥4294967296:=Om;simp only[go_sem,B];have:=A (.inl c1);simp only[go_sem,dG] at this;refine this _ ?_;exact Lq
 ·have B:¬ (g:Int)≥4294967296:=Om;have η:g*next≤4294967295*4294967295:=aJU Om Om
  have em:IntKind.u64.wrap ((g:Int)*(next:Int))=((g*next:Nat):Int):=by rw[show (g:Int)*(next:Int)=((g*next:Nat):Int) by simp];exact aZ Om
  simp only[go_sem,B,em,N,e1,e2,hlt,hH,hU,X,M];by_cases c2:g*next>r*4294967296+w
  ·have E:((g*next:Nat):Int)>((4294967296*r+w:Nat):Int):=Om;simp only[go_sem,E];have:=A (.inr c2);simp only[go_sem,dG] at this;refine this _ ?_;exact Lq
  ·have E:¬ ((g*next:Nat):Int)>((4294967296*r+w:Nat):Int):=Om;simp only[go_sem,E];refine hK g r _ hq (x.g2 R Om Om) Om ?_;unfold dG;exact Lq
end Go.PM
namespace Go.Na
theorem azE {W v:List Nat} {m:Nat} (hW:Lim W) (e:Lim v) (y:v.length=m+2) (x:W.length=m+3) (A:2147483648≤v[m+1]) (hlt:val W<val v*4294967296) :
  Kn (val v) (val W) (v[m+1]) (v[m]) (val (v.take m)) (W[m+2]*4294967296+W[m+1]) (W[m]) (val (W.take m)) (4294967296 ^ m):=by
 have u:val v=val (v.take m)+4294967296 ^ m*(v[m]+4294967296*v[m+1]):=by
  rw[tC v (Om:m<v.length)];congr 4;have:v.drop (m+1)=[v[m+1]]:=by rw[aIZ Om,aKG Om]
  rw[this]; simp[val]
 have w:val W=val (W.take m)+4294967296 ^ m*(W[m]+4294967296*(W[m+1]+4294967296*W[m+2])):=by
  rw[tC W (Om:m<W.length)];congr 4;have:W.drop (m+1)=[W[m+1],W[m+2]]:=by rw[aIZ Om,aIZ Om,aKG Om]
  rw[this]; simp[val]
 have j:=fL (e.take m);have l:=fL (hW.take m);rw[aGY,aIT Om] at j l;refine⟨?_,?_,j,l,A,e _ (aGP _),hW _ (aGP _),hlt⟩
 ·rw[u,aGX,aHL (4294967296 ^ m) (v[m]),← aHI (4294967296 ^ m),aHL (4294967296 ^ m*4294967296),aHL (4294967296 ^ m) 4294967296];omega
 ·rw[w,aGX,aHL (4294967296 ^ m) (W[m]),← aHI (4294967296 ^ m),aHL (4294967296 ^ m*4294967296),aHL (4294967296 ^ m) 4294967296,aHL (W[m+2]),Nat.add_comm (4294967296*W[m+2])];omega
end Go.Na
namespace Go.PM
open Go Go.Na
structure yq (C:Ctx):Prop where
 subtract:∀ (A W Z v:List Nat) (f o:Nat),Lim W→Lim v→W.length=v.length+1→A.length+v.length≤100000→f≤4294967296→val v*f≤val W+4294967296 ^ (v.length+1) →
  aG C 142 [.osl o 1 A.length (v.length+1),aJ v,.int .u64 f] (PH.nil.set o (.rows 1 (aI (A++W++Z)))) (fun r H'=>r=.bool (decide (val W<val v*f))∧H'=PH.nil.set o (.rows 1 (aI (A++eE (v.length+1) (KR (v.length+1) (val W) (val v*f))++Z))))
 restore:∀ (A W Z v:List Nat) (o:Nat),Lim W→Lim v→W.length=v.length+1→A.length+v.length≤100000 →
  aG C 139 [.osl o 1 A.length (v.length+1),aJ v] (PH.nil.set o (.rows 1 (aI (A++W++Z)))) (fun r H'=>r=.tup []∧H'=PH.nil.set o (.rows 1 (aI (A++eE (v.length+1) (val W+val v)++Z))))
theorem Ao (k n:Nat):eE k (n%4294967296 ^ k)=eE k n :=
 R7 (nN _ _) (nN _ _) (by rw[mJ,mJ]) (by rw[BD,BD,Nat.mod_mod])
theorem yc {C:Ctx} (D:yq C) (A W Z v Q:List Nat) (m o S R s:Nat) (β:S≠o) (hW:Lim W) (hv:Lim v) (ο:v.length=m+2) (ξ:W.length=m+3) (ht:2147483648≤v[m+1]) (hlt:val W<val v*4294967296)
  (p':R=A.length+(m+3)+Z.length) (k':R≤10000) (a':A.length<Q.length) (K:cG) (F:PF) (H:PH) (U:(dF (.osl o 1 0 R) (aJ v) (m+2) (.osl S 1 0 Q.length) (v[m+1]) (v[m]) A.length s).le F)
  (hH:H o=some (.rows 1 (aI (A++W++Z)))) (κ:H S=some (.rows 1 (aI Q)))
  (hK:∀ F' H',(dF (.osl o 1 0 R) (aJ v) (m+2) (.osl S 1 0 Q.length) (v[m+1]) (v[m]) A.length s).le F'→H' o=some (.rows 1 (aI (A++eE (m+3) (val W%val v)++Z)))→H' S=some (.rows 1 (aI (Q.set A.length (val W/val v))))→K .normal F' H') :
  aE.wp C (.block 3 (.seq (.draw DZ) (.seq (.draw EA) (.seq (.block 4 (.loop wM)) (.seq (.seq (.region EE) (.cond (.tmp 146) (.seq (.region EF) (.region EG)) .skip)) (.region wN)))))) K F H:=by
 have Kk:=azE hW hv ο ξ ht hlt;have x:∀ i (h:i<W.length),(aI (A++W++Z))[A.length+i]?=some [.int .u32 ((W[i]:Nat):Int)]:=fun i h=>atV h;have g0:=x (m+2) Om;have g1:=x (m+1) Om;have g2:=x m Om;have hq:=Kk.awK;have htop:v[m+1]<4294967296:=hv _ (aGP _);have t':=hW _ (aGP (Om:m+2<W.length));have u':=hW _ (aGP (Om:m+1<W.length));have α:=Kk.zx.1;generalize s':v[m+1]=l at *
 generalize q':v[m]=next at *
 generalize v':W[m+2]=I at *
 generalize w':W[m+1]=u1 at *
 generalize x':W[m]=u2 at *
 have f8:=U 8 _ (by unfold dF; simp only[go_sem]; rfl);have f9:=U 9 _ (by unfold dF; simp only[go_sem]; rfl);have Θ:=U 10 _ (by unfold dF; simp only[go_sem]; rfl);have f11:=U 11 _ (by unfold dF; simp only[go_sem]; rfl);have Λ:=U 12 _ (by unfold dF; simp only[go_sem]; rfl);have f13:=U 13 _ (by unfold dF; simp only[go_sem]; rfl);have f14:=U 14 _ (by unfold dF; simp only[go_sem]; rfl);have ζ:=U 15 _ (by unfold dF; simp only[go_sem]; rfl);have e1:IntKind.i64.wrap ((A.length:Int)+((m+2:Nat):Int))=((A.length+(m+2):Nat):Int):=hY Om;have e2:IntKind.i64.wrap (((A.length+(m+2):Nat):Int)-1)=((A.length+(m+1):Nat):Int):=by rw[wrap_i64 Om Om]; omega
 have c0:((A.length+(m+2):Nat):Int)<(R:Nat):=Om;have c1:((A.length+(m+1):Nat):Int)<(R:Nat):=Om;have Γ:IntKind.u64.wrap ((I:Nat):Int)=((I:Nat):Int):=aZ Om;have Δ:IntKind.u64.wrap ((u1:Nat):Int)=((u1:Nat):Int):=aZ Om;have ε:shift .shl .u64 (I:Int) 32=some (.int .u64 ((2 ^ 32*I:Nat):Int)):=KP (s:=32) Om Om;have ω:(2:Nat) ^ 32=4294967296:=by decide
 have X:=orI (a:=2 ^ 32*I) (b:=u1) (n:=2 ^ 32*I+u1) Om Om (Nat.two_pow_add_eq_or_of_lt Om I).symm Om;rw[ω] at ε X;have Φ:4294967296*I+u1=I*4294967296+u1:=Om;rw[Φ] at X;simp only[go_sem];refine bP H dD b_ ?_;simp only[go_sem,DZ,f9,ζ,f11,e1,e2,c0,c1,hH,g0,g1,Γ,Δ,ε,X];refine bP H dD b_ ?_;have r':0<l:=Om;have e':¬ ((l:Nat):Int)=0:=Om;generalize o':I*4294967296+u1=e at *
 have γ:IntKind.u64.wrap (Int.tdiv ((e:Nat):Int) ((l:Nat):Int))=((e/l:Nat):Int):=by rw[show Int.tdiv ((e:Nat):Int) ((l:Nat):Int)=((e/l:Nat):Int) from rfl];exact aZ (by have:=Kk.g4; omega)
 have δ:Int.tmod ((e:Nat):Int) ((l:Nat):Int)=((e%l:Nat):Int):=rfl;simp only[go_sem,EA,f13,e',γ,δ];have w:=yd (C:=C) Kk htop o R m A.length s (aJ v) (.osl S 1 0 Q.length) Om Om (A++W++Z) g2;simp only[go_sem] at w;refine w _ _ H ?_ hH ?_
 ·unfold dG;refine c_ (c_ (c_ (c_ (c_ (c_ (c_ (c_ (c_ (c_ d_ ?_) ?_) ?_) ?_) ?_) ?_) ?_) ?_) ?_) ?_<;>simp only[go_sem,f8,f9,Θ,f11,Λ,f13,f14,ζ]
 clear w;intro g r F' q1 q2 q3 j;have h8:=j 8 _ (by unfold dG; simp only[go_sem]; rfl);have h9:=j 9 _ (by unfold dG; simp only[go_sem]; rfl);have J:=j 10 _ (by unfold dG; simp only[go_sem]; rfl);have M:=j 11 _ (by unfold dG; simp only[go_sem]; rfl);have η:=j 12 _ (by unfold dG; simp only[go_sem]; rfl);have θ:=j 13 _ (by unfold dG; simp only[go_sem]; rfl);have ι:=j 14 _ (by unfold dG; simp only[go_sem]; rfl);have N:=j 15 _ (by unfold dG; simp only[go_sem]; rfl);have Y:=j 17 _ (by unfold dG; simp only[go_sem]; rfl);have e3:IntKind.i64.wrap (((A.length+(m+2):Nat):Int)+1)=((A.length+(m+3):Nat):Int):=by rw[wrap_i64 Om Om]; omega
 have c3:(A.length:Int)≤((A.length+(m+3):Nat):Int):=Om;have c4:((A.length+(m+3):Nat):Int)≤(R:Nat):=Om;have e4:A.length+(m+3)-A.length=v.length+1:=Om;have B:v.length+1=m+3:=Om;have n':val v*(val W/val v)+val W%val v=val W:=aKC _ _;have μ:=fL hW;rw[ξ] at μ;have ψ:val W%val v<val v:=aIG _ α;have υ:=fL hv;rw[ο] at υ;have σ:4294967296 ^ (m+3)=4294967296 ^ (m+2)*4294967296:=aIL _ _;generalize l':val W/val v=E at *
 generalize m':val W%val v=rd at *
 have V:∀ (y:PF) (H2:PH),y 8=some (.int .u64 s)→y 9=some (.osl o 1 0 R)→y 10=some (aJ v)→y 11=some (.int .i64 ((m+2:Nat):Int))→y 12=some (.osl S 1 0 Q.length)→y 13=some (.int .u64 l)→y 14=some (.int .u64 next)→y 15=some (.int .i64 A.length)→y 17=some (.int .u64 E) →
   H2 o=some (.rows 1 (aI (A++eE (m+3) rd++Z)))→H2 S=some (.rows 1 (aI Q))→aE.wp C (.region wN) (fF 3 K) y H2:=by
  intro y H2 k8 k9 f' g' φ h' i' χ j' kH kQ;have d':(aI Q)[A.length]?=some [.int .u32 ((Q[A.length]:Nat):Int)]:=bN Q a';have c':(A.length:Int)<(Q.length:Nat):=Om;have eq:IntKind.u32.wrap ((E:Nat):Int)=((E:Nat):Int):=by rw[cI,aIB hq]
  have τ:=fZ Q A.length E;have ρ:¬ o=S:=fun h=>β h.symm;simp only[go_sem,wN,φ,χ,j',eq,c',kQ,d',τ];refine hK _ _ ?_ (by simp only[go_sem,ρ,kH]) Sq;unfold dF;refine c_ (c_ (c_ (c_ (c_ (c_ (c_ (c_ d_ ?_) ?_) ?_) ?_) ?_) ?_) ?_) ?_<;>simp only[go_sem,k8,k9,f',g',φ,h',i',χ]
 have b':(PH.nil.set o (.rows 1 (aI (A++W++Z)))).le H:=e_ a_ hH;have ν:val v*g≤val W+4294967296 ^ (v.length+1):=by have:val v*g≤val v*(E+1):=aJD _ q2;rw[aGX,Nat.mul_one] at this;rw[B,σ]; omega
 simp only[go_sem,EE,h9,N,M,e1,e3,c3,c4,e4,J,Y];refine dU (D.subtract A W Z v g o hW hv Om Om q3 ν) rfl b' ?_;rintro rr H' ⟨rfl,rfl⟩ -;rw[PH.qE];by_cases Ω:g=E
 ·subst Ω;have u:¬ val W<val v*g:=Om;have hN:KR (v.length+1) (val W) (val v*g)=rd:=by unfold KR; rw[if_neg u]; omega
  rw[hN,B];simp only[go_sem,u];have:=V;simp only[go_sem] at this;refine this _ _ ?_ ?_ ?_ ?_ ?_ ?_ ?_ ?_ ?_ ?_ ?_<;>simp only[go_sem,h8,h9,J,M,η,θ,ι,N,Y,β,κ]
 ·have Ψ:g=E+1:=Om;subst Ψ;rw[aGX,Nat.mul_one];have u:val W<val v*E+val v:=Om;have hN:KR (v.length+1) (val W) (val v*E+val v)=rd+4294967296 ^ (m+3)-val v:=by unfold KR; rw[if_pos u,B]; omega
  rw[hN];have w1:IntKind.u64.wrap (((E+1:Nat):Int)-1)=((E:Nat):Int):=by rw[wrap_u64 Om Om]; omega
  simp only[go_sem,u,EF,Y,w1,EG,h9,N,M,e1,e3,c3,c4,e4,J];have Ξ:val (eE (v.length+1) (rd+4294967296 ^ (m+3)-val v))=rd+4294967296 ^ (m+3)-val v:=pJ (by rw[B]; omega);refine dU (D.restore A (eE (v.length+1) (rd+4294967296 ^ (m+3)-val v)) Z v o (nN _ _) hv (mJ _ _) Om) rfl (e_ a_ Sq) ?_;rintro rr H' ⟨rfl,rfl⟩ -;rw[PH.qE,PH.set_set,Ξ];have O:eE (v.length+1) (rd+4294967296 ^ (m+3)-val v+val v)=eE (m+3) rd:=by rw[B,← Ao (m+3) (rd+4294967296 ^ (m+3)-val v+val v)];rw[show rd+4294967296 ^ (m+3)-val v+val v=rd+4294967296 ^ (m+3) by omega,Nat.add_mod_right,Ao]
  rw[O];simp only[go_sem];have:=V;simp only[go_sem] at this;refine this _ _ ?_ ?_ ?_ ?_ ?_ ?_ ?_ ?_ ?_ ?_ ?_<;>simp only[go_sem,h8,h9,J,M,η,θ,ι,N,β,κ]
open Go
section
variable {C:Ctx} {K:cG} {F:PF} {H Hs:PH} {S:Spec}
theorem O4 {name:Nat} {vs:List PV} {R:PV→PH→Prop} {args:List aN} {st:Bool} {d:Option Nat} {K:PF→PH→Prop} (w:S name vs=some ([],fun _=>R)) (h:aG C name vs .nil R) (e:aN.evs F args=some vs)
  (j:∀ G:PH,∃ r H',R r H'∧lI G .nil H') (y:∀ r H',R r H'→lI H .nil H'→Hs.le (H.over .nil H')∧K (F.put d r) (H.over .nil H')):dOp C Hs S st (.call name args) d K F H:=by
 refine⟨vs,[],fun _=>R,e,w,fun o A=>by simp at A,by rw[KC]; exact h,fun G=>?_,fun r H' B e=>?_⟩
 ·obtain⟨r,H',l,u⟩:=j G;exact⟨r,H',l,fun o x E I=>u o x E (by simp[PH.nil])⟩
 ·rw[KC] at e ⊢;exact y r H' B e
theorem PH.over_self (j:PH) (h:j.le H):H.over j j=H:=PH.ext fun q=>by
 rw[pF];cases e:j q with
 | none=>rfl
 | some x=>exact (h q x e).symm
theorem Jm {o:Nat} {x:bG} (h:H o=some x):H.only [o]=PH.nil.set o x:=PH.ext fun q=>by
 rw[qX,aP];by_cases e:q=o
 ·subst e; simp[h]
 ·simp[e,ku]
theorem HE {name o:Nat} {x:bG} {vs:List PV} {v:PV} {R:PH→PV→PH→Prop} {args:List aN} {st:Bool} {d:Option Nat} {K:PF→PH→Prop} (E:S name vs=some ([o],R)) (B:H o=some x)
  (h:aG C name vs (PH.nil.set o x) (fun r H'=>r=v∧H'=PH.nil.set o x)) (j:R (PH.nil.set o x) v (PH.nil.set o x)) (u:∀ r H',R (PH.nil.set o x) r H'→r=v∧H'=PH.nil.set o x) (I:aN.evs F args=some vs) (w:Hs.le H) (J:K (F.put d v) H) :
  dOp C Hs S st (.call name args) d K F H:=by
 have e:=Jm B;refine⟨vs,[o],_,I,E,fun q hq=>?_,?_,fun G=>⟨v,_,by rw[e]; exact j,fun q y M A=>?_⟩,fun r H' l _=>?_⟩
 ·simp at hq; subst hq; exact⟨x,B⟩
 ·rw[e];exact h.post fun r H' l=>⟨r,.refl _,by rw[l.1,l.2]; exact j⟩
 ·rw[e] at A; rw[M] at A; cases A
 ·rw[e] at l;obtain⟨rfl,rfl⟩:=u r H' l;rw[e,PH.over_self _ (by rw[← e]; exact SW H [o])];exact⟨w,J⟩
theorem Oq {c:aE} {α:Type} (e:α→PF) (Hs:α→PH) (j:α→Prop) (m:α→Nat) (l:α) (o:Nat) {s:Nat} {rs:List (List PV)} (y:H o=some (.rows s rs)) (u:j l) (w:(e l).le (F.frz o s rs)) (x:(Hs l).le (H.frz o s rs))
  (hb:∀ a,j a→c.wp C (jE e Hs j m (m a) K) (e a) (Hs a)):aE.wp C (.loop c) K F H :=
 ⟨α,e,Hs,j,m,l,_,_,.step o y (.refl _ _),u,w,x,hb⟩
@[go_sem] theorem zU (o s:Nat) (rs:List (List PV)) (q:Nat):(H.frz o s rs) q=if q=o then none else (H q).map (bG.frz o s rs):=(rfl)
theorem aeN {t u o1 o2 s1 s2 k1 k2:Nat} {rs1 rs2:List (List PV)} {R:PV→PH→Prop} {e:kE} (he:e=.normal∨e=.ret) (l:o1≠o2) (M:F t=some (.osl o1 s1 0 k1)) (N:F u=some (.osl o2 s2 0 k2)) (x:H o1=some (.rows s1 rs1)) (y:H o2=some (.rows s2 rs2))
  (U:k1≤rs1.length) (V:k2≤rs2.length) (A:rs2.map (fun r=>r.map (PV.bV o1 s1 rs1))=rs2) (W:(rs1.take k1)=rs1.take k1) (O:R (.tup [.sl s1 (rs1.take k1),.sl s2 (rs2.take k2)]) .nil):aT [.tmp t,.tmp u] R e F H:=by
 have B:∃ vs,dW.evs F H [.tmp t,.tmp u]=some vs∧∃ E I H2,jF (PF.nil.set 0 (cZ vs)) H E I∧H2.le I∧∃ w,E 0=some w∧R w H2:=by
  have j:o2≠o1:=fun h=>l h.symm;have J:(H.frz o1 s1 rs1) o2=some (.rows s2 rs2):=by rw[zU,if_neg j,y]; simp only[aHS,bG.frz,A]
  refine⟨[.osl o1 s1 0 k1,.osl o2 s2 0 k2],by rw[kY,oJ,M,kY,oJ,N,pH],_,_,.nil,.step o1 x (.step o2 J (.refl _ _)),a_,_,?_,O⟩;have a1:0+k1≤rs1.length:=Om;have a2:0+k2≤rs2.length:=Om;simp only[PF.frz,mR,if_true,cZ,aHS,PV.frz,PV.pZ,PV.bV,aHR,aIW,true_and,if_pos a1,if_pos a2,aHW,if_neg j]
 rcases he with rfl | rfl<;>exact B
end
end Go.PM
namespace Go.Na
structure pS (U0 V n lu lq:Nat) (k:Nat) (U Q:List Nat):Prop where
 lu':U.length=lu
 lq':Q.length=lq
 limU:Lim U
 limQ:Lim Q
 v:val U+val Q*V=U0
 r:val (U.drop k)<V
 z:∀ i x,i<k→Q[i]?=some x→x=0
theorem Ap {N V n M A j:Nat} {U Q:List Nat} (h:pS N V n M A (j+1) U Q) (hV:V<4294967296 ^ n) (hj:j<A) (hl:M=A+n) :
  val ((U.drop j).take (n+1))<V*4294967296∧pS N V n M A j (U.take j++eE (n+1) (val ((U.drop j).take (n+1))%V)++U.drop (j+(n+1))) (Q.set j (val ((U.drop j).take (n+1))/V)):=by
 have Z:=h.lu';have J:=h.lq';have e:0<V:=by have:=h.r; omega
 have u:j<U.length:=Om;have e1:val (U.drop j)=U[j]+4294967296*val (U.drop (j+1)):=by rw[aIZ u]; rfl
 have X:=h.limU _ (aGP u);have hlt:val (U.drop j)<V*4294967296:=by have:=h.r; omega
 have I:((U.drop j).take (n+1)).length=n+1:=by rw[aGY,aIE]; omega
 have O:val (U.drop j)=val ((U.drop j).take (n+1))+4294967296 ^ (n+1)*val (U.drop (j+(n+1))):=by
  conv=>lhs; rw[← aJH (n+1) (U.drop j),gW,I,List.drop_drop]
 have R:4294967296 ^ (n+1)=4294967296 ^ n*4294967296:=aIL _ _;have Y:V*4294967296≤4294967296 ^ n*4294967296:=aHO _ (Nat.le_of_lt hV);have E:val (U.drop (j+(n+1)))=0:=by
  rcases aIS (val (U.drop (j+(n+1)))) with h0 | h0
  ·exact h0
  ·have:=aJD (4294967296 ^ (n+1)) h0;omega
 rw[E,Nat.mul_zero,aIC] at O;generalize hW:val ((U.drop j).take (n+1))=W at *
 have e3:val U=val (U.take j)+4294967296 ^ j*W:=by
  conv=>lhs; rw[← aJH j U,gW,aGY,aIT Om,O]
 have y:W%V<V:=aIG _ e;have F:V*(W/V)+W%V=W:=aKC _ _;have K:W/V<4294967296:=by rw[aJT e,aHL]; omega
 have hD:val (eE (n+1) (W%V))=W%V:=pJ Om;have B:Q[j]=0:=h.z j _ Om (aGS Om);have l:=GQ (Om:j<Q.length) (W/V);rw[B,Nat.mul_zero,aIC] at l;have w:(U.take j).length=j:=by rw[aGY]; omega
 refine⟨by omega,?_,?_,?_,?_,?_,?_,?_⟩
 ·simp only[aGO,mJ,aIE,aGY]; omega
 ·rw[aIO]; exact J
 ·exact ((h.limU.take j).app (nN _ _)).app (h.limU.drop _)
 ·exact h.limQ.set _ K
 ·rw[aHN,gW,gW,w,hD,mJ,E,Nat.mul_zero,aIC,l];have:=h.v;have h5:(val Q+4294967296 ^ j*(W/V))*V=val Q*V+4294967296 ^ j*(V*(W/V)):=by rw[aHT,aHI,aHL (W/V) V]
  have h6:4294967296 ^ j*W=4294967296 ^ j*(V*(W/V))+4294967296 ^ j*(W%V):=by rw[← aGX,F]
  omega
 ·rw[aHN,List.drop_append_of_le_length Om,aKG Om,aJX,gW,hD,E,Nat.mul_zero,aIC];exact y
 ·intro i x hi S;rw[List.getElem?_set_ne Om] at S;exact h.z i x Om S
end Go.Na
namespace Go.PM
open Go Go.Na
def dI (u v:PV) (n:Nat) (q:PV) (e next s:Nat) (j:Int):PF:=((((((((PF.nil.set 8 (.int .u64 s)).set 9 (u)).set 10 (v)).set 11 (.int .i64 n)).set 12 (q)).set 13 (.int .u64 e)).set 14 (.int .u64 next)).set 15 (.int .i64 j))
theorem sV (o s:Nat) (rs:List (List PV)) (L:List Nat):(aI L).map (fun r=>r.map (PV.bV o s rs))=aI L:=by
 unfold aI;rw[aJQ];rfl
theorem Iq {C:Ctx} (D:yq C) (X m y w o o2 x s:Nat) (v e:List Nat) (h2:o2≠o) (h3:x≠o) (h4:x≠o2) (hv:Lim v) (R:v.length=m+2) (Δ:(aI e).take (m+2)=aI v) (Θ:m+2≤e.length) (ht:2147483648≤v[m+1])
  (Γ:y=w+(m+2)) (S:y≤10000) (U:List Nat) (E:pS X (val v) (m+2) y w w U (aGM w 0)) (K:cG) (F:PF) (H:PH)
  (B:(dI (.osl o 1 0 y) (.osl o2 1 0 (m+2)) (m+2) (.osl x 1 0 w) (v[m+1]) (v[m]) s ((w:Int)-1)).le F) (hH:H o=some (.rows 1 (aI U))) (ν:H o2=some (.rows 1 (aI e))) (μ:H x=some (.rows 1 (aI (aGM w 0))))
  (hK:∀ U' Q' W,pS X (val v) (m+2) y w 0 U' Q'→(dI (.osl o 1 0 y) (aJ v) (m+2) (.osl x 1 0 w) (v[m+1]) (v[m]) s (-1)).le W→K .normal W ((PH.nil.set o (.rows 1 (aI U'))).set x (.rows 1 (aI Q')))) :
  aE.wp C (.block 2 (.loop DX)) K F H:=by
 have f8:=B 8 _ (by unfold dI; simp only[go_sem]; rfl);have f9:=B 9 _ (by unfold dI; simp only[go_sem]; rfl);have Z:=B 10 _ (by unfold dI; simp only[go_sem]; rfl);have f11:=B 11 _ (by unfold dI; simp only[go_sem]; rfl);have β:=B 12 _ (by unfold dI; simp only[go_sem]; rfl);have f13:=B 13 _ (by unfold dI; simp only[go_sem]; rfl);have f14:=B 14 _ (by unfold dI; simp only[go_sem]; rfl);have γ:=B 15 _ (by unfold dI; simp only[go_sem]; rfl);have I:¬ o=o2:=fun h=>h2 h.symm;have J:¬ x=o2:=h4;have V:¬ o=x:=fun h=>h3 h.symm;have υ:∀ (k:IntKind) (n:Int),PV.frz o2 1 (aI e) (.int k n)=.int k n:=fun _ _=>rfl;have χ:∀ l,PV.frz o2 1 (aI e) (.osl o 1 0 l)=.osl o 1 0 l:=fun l=>by simp only[PV.frz,PV.pZ,PV.bV,if_neg I]
 have φ:∀ l,PV.frz o2 1 (aI e) (.osl x 1 0 l)=.osl x 1 0 l:=fun l=>by simp only[PV.frz,PV.pZ,PV.bV,if_neg J]
 have ψ:PV.frz o2 1 (aI e) (.osl o2 1 0 (m+2))=aJ v:=by
  have:0+(m+2)≤(aI e).length:=by rw[bX]; omega
  simp only[PV.frz,PV.pZ,PV.bV,if_true,true_and,if_pos this,aHW,Δ]
 simp only[go_sem];refine Oq (α:=Nat × List Nat × List Nat) (fun t=>dI (.osl o 1 0 y) (aJ v) (m+2) (.osl x 1 0 w) (v[m+1]) (v[m]) s ((t.1:Int)-1)) (fun t=>(PH.nil.set o (.rows 1 (aI t.2.1))).set x (.rows 1 (aI t.2.2)))
  (fun t=>t.1≤w∧pS X (val v) (m+2) y w t.1 t.2.1 t.2.2) (fun t=>t.1) (w,U,aGM w 0) o2 ν ⟨aGQ _,E⟩ ?_ ?_ ?_
 ·unfold dI;refine c_ (c_ (c_ (c_ (c_ (c_ (c_ (c_ d_ ?_) ?_) ?_) ?_) ?_) ?_) ?_) ?_<;>simp only[go_sem,f8,f9,Z,f11,β,f13,f14,γ,υ,χ,φ,ψ]
 ·refine e_ (e_ a_ ?_) ?_
  ·simp only[go_sem,I,hH,bG.frz,sV]
  ·simp only[go_sem,J,μ,bG.frz,sV]
 rintro⟨k,U,Q⟩ ⟨hk,E⟩;simp only at hk E;simp only[go_sem,DX,UD,dI];by_cases h0:0<k
 ·obtain⟨j,rfl⟩:∃ j,k=j+1:=⟨k-1,by omega⟩;have hz:((j+1:Nat):Int)-1=(j:Int):=Om;have ω:(j:Int)≥0:=Om;have O:val v<4294967296 ^ (m+2):=by have:=fL hv; rw[R] at this; exact this
  obtain⟨hlt,ξ⟩:=Ap E O Om Γ;have ρ:=E.lu';have ο:=E.lq';have hA:(U.take j).length=j:=by rw[aGY]; omega
  have σ:((U.drop j).take (m+3)).length=m+3:=by rw[aGY,aIE]; omega
  have A:U.take j++(U.drop j).take (m+3)++U.drop (j+(m+3))=U:=by rw[aHN,← List.drop_drop,aJH,aJH]
  have τ:(U.drop (j+(m+3))).length=y-(j+(m+3)):=by rw[aIE,ρ]
  have M:=yc (C:=C) D (U.take j) ((U.drop j).take (m+3)) (U.drop (j+(m+3))) v Q m o x y s h3 ((E.limU.drop _).take _) hv R σ ht hlt (by rw[hA,τ]; omega) S (by rw[hA]; omega);rw[hA,A,ο] at M;have Y:IntKind.i64.wrap ((j:Int)-1)=(j:Int)-1:=wrap_i64 Om Om;simp only[go_sem,hz,ω];simp only[go_sem] at M;refine M _ _ _ ?_ (by simp only[go_sem,V]) Sq ?_
  ·unfold dF;exact Lq
  ·intro W H' u κ N;have g8:=u 8 _ (by unfold dF; simp only[go_sem]; rfl);have g9:=u 9 _ (by unfold dF; simp only[go_sem]; rfl);have δ:=u 10 _ (by unfold dF; simp only[go_sem]; rfl);have ε:=u 11 _ (by unfold dF; simp only[go_sem]; rfl);have ζ:=u 12 _ (by unfold dF; simp only[go_sem]; rfl);have η:=u 13 _ (by unfold dF; simp only[go_sem]; rfl);have θ:=u 14 _ (by unfold dF; simp only[go_sem]; rfl);have ι:=u 15 _ (by unfold dF; simp only[go_sem]; rfl);simp only[go_sem,UF,ι,Y];refine aH (j,_,_) ⟨by simp only; omega,ξ⟩ (by simp only; omega) ?_ (e_ (e_ a_ κ) N);refine c_ (c_ (c_ (c_ (c_ (c_ (c_ (c_ d_ ?_) ?_) ?_) ?_) ?_) ?_) ?_) ?_<;>simp only[go_sem,g8,g9,δ,ε,ζ,η,θ]
 ·have:k=0:=Om;subst this;have hz:¬ ((0:Nat):Int)-1≥0:=by decide
  simp only[go_sem,hz];refine hK U Q _ E ?_;unfold dI
  (repeat' (first|exact d_|refine c_ ?_ ?_))<;>first|(simp only[go_sem,show ((0:Nat):Int)-1=-1 from rfl]<;>rfl)|rfl
open Go Go.Na
def rFr (o j l e or n s i:Nat):PF:=((((((PF.nil.set 8 (.int .u64 s)).set 9 (.osl o 1 0 j)).set 12 (.osl l 1 0 e)).set 19 (.osl or 1 0 n)).set 166 (.int .i64 n)).set 167 (.int .i64 i))
theorem awQ {x s:Nat} (e:s≤64):shift .shr .u64 (x:Int) (s:Int)=some (.int .u64 ((x/2 ^ s:Nat):Int)):=by
 unfold shift;rw[if_neg Om];simp only;have:min (Int.toNat (s:Int)) IntKind.u64.bits=s:=by rw[show IntKind.u64.bits=64 from rfl]; omega
 rw[this,Int.fdiv_eq_ediv_of_nonneg _ (by exact_mod_cast aGW _)]
 norm_cast
theorem Ir {C:Ctx} (o w j lq n s:Nat) (U Q:List Nat) (hs:s<32) (h3:j≠o) (Z:Lim U) (hl:U.length=w) (hn:n<w) (ε:w≤10000) (K:cG) (F:PF)
  (f8:F 8=some (.int .u64 s)) (f9:F 9=some (.osl o 1 0 w)) (f11:F 11=some (.int .i64 n)) (ζ:F 12=some (.osl j 1 0 lq))
  (hK:∀ or F' H',or≠o→or≠j→(rFr o w j lq or n s n).le F'→H' j=some (.rows 1 (aI Q))→H' or=some (.rows 1 (aI (eE n (val U/2 ^ s))))→K .normal F' H') :
  aE.wp C (.seq (.region EH) (.seq (.region EI) (.block 6 (.loop DY)))) K F ((PH.nil.set o (.rows 1 (aI U))).set j (.rows 1 (aI Q))):=by
 have γ:((n:Nat):Int)*((4:Nat):Int)≤140737488355328:=Om;have δ:((n:Nat):Int)≤9223372036854775807:=Om;have hz:aGM n [PV.int .u32 0]=aI ([]++aGM n 0):=by simp[aI]
 simp only[go_sem,EH,f11,γ,δ,hz];refine aQ fun or O=>?_;have n1:¬ or=j:=(jH.1 O).1;have n2:¬ or=o:=(jH.1 (jH.1 O).2).1;have A:¬ j=or:=fun h=>n1 h.symm;have B:¬ o=or:=fun h=>n2 h.symm;have n3:¬ j=o:=h3;have E:¬ o=j:=fun h=>n3 h.symm;simp only[go_sem,EI];refine wp_loop (α:=List Nat) (fun P=>rFr o w j lq or n s P.length) (fun P=>((PH.nil.set o (.rows 1 (aI U))).set j (.rows 1 (aI Q))).set or (.rows 1 (aI (P++aGM (n-P.length) 0)))) (fun P=>P.length≤n∧P=eE P.length (val U/2 ^ s)) (fun P=>n-P.length) []
  ⟨by simp,rfl⟩ ?_ ?_ ?_
 ·unfold rFr;exact Lq
 ·refine e_ (e_ (e_ a_ ?_) ?_) ?_<;>simp only[go_sem,n1,A,n2,B,n3,E,aIV]
 rintro P ⟨hP,hD⟩;simp only[go_sem,DY,UG,rFr];by_cases c1:P.length<n
 ·have u:(P.length:Int)<(n:Nat):=Om;obtain⟨k,hk⟩:∃ k,n-P.length=k+1:=⟨n-P.length-1,by omega⟩;have β:(aI (P++aGM (k+1) 0))[P.length]?=some [.int .u32 ((0:Nat):Int)]:=by rw[bN _ (by simp)]; simp
  have V:P.length<U.length:=Om;have a1:P.length+1<U.length:=Om;have b0:(P.length:Int)<(w:Nat):=Om;have b1:((P.length+1:Nat):Int)<(w:Nat):=Om;have η:=Z _ (aGP V);have θ:=Z _ (aGP a1);have e:val U/4294967296 ^ P.length=U[P.length]+4294967296*(U[P.length+1]+4294967296*val (U.drop (P.length+2))):=by rw[← vZ Z Om,aIZ V,aIZ a1];rfl
  have N:=UW hs e;have g0:=bN U V;have g1:=bN U a1;generalize ι:U[P.length]=y at *
  generalize κ:U[P.length+1]=l at *
  have e1:IntKind.i64.wrap ((P.length:Int)+1)=((P.length+1:Nat):Int):=dJ Om;have X:IntKind.u64.wrap ((y:Nat):Int)=((y:Nat):Int):=aZ Om;have Y:IntKind.u64.wrap ((l:Nat):Int)=((l:Nat):Int):=aZ Om;have J:shift .shl .u64 (l:Int) 32=some (.int .u64 ((2 ^ 32*l:Nat):Int)):=KP (s:=32) Om Om;have W:(2:Nat) ^ 32=4294967296:=by decide
  have I:=orI (a:=2 ^ 32*l) (b:=y) (n:=2 ^ 32*l+y) Om Om (Nat.two_pow_add_eq_or_of_lt Om l).symm Om;rw[W] at J I;have M:=awQ (x:=4294967296*l+y) (s:=s) Om;have S:(aI (P++aGM (k+1) 0)).set P.length [.int .u32 (((4294967296*l+y)/2 ^ s%4294967296:Nat):Int)]=aI ((P++[(4294967296*l+y)/2 ^ s%4294967296])++aGM k 0):=by rw[fZ,zZ]
  simp only[go_sem,u,UH];refine bP .nil dD a_ ?_;simp only[go_sem,UI,u,e1,b0,b1,B,E,g0,g1,X,Y,J,I,M,cI,hk,β,S];refine⟨a_,?_⟩;simp only[go_sem,UJ,e1];refine aH (P++[(4294967296*l+y)/2 ^ s%4294967296]) ⟨by simp; omega,?_⟩ (by simp; omega) ?_ (e_ (e_ (e_ a_ ?_) ?_) ?_)
  ·rw[aGO,aGR,wZ,← hD,N]
  ·rw[aGO,aGR];exact Lq
  ·simp only[go_sem,B,E]
  ·simp only[go_sem,A]
  ·rw[aGO,aGR,show n-(P.length+1)=k by omega];simp only[go_sem]
 ·have e:P.length=n:=Om;have u:¬ (P.length:Int)<(n:Nat):=Om;have R:aGM (n-P.length) 0=[]:=by rw[show n-P.length=0 by omega]; rfl
  rw[e] at hD;simp only[go_sem,u,R,aHY];refine hK or _ _ n2 n1 ?_ (by simp only[go_sem,A]) (by simp only[go_sem]; rw[← hD]);unfold rFr;rw[e];exact Lq
structure zm (C:Ctx):Prop where
 L:rS C
 D:yq C
 up:∀ (a:List Nat) (s:Nat),Lim a→s<32→a.length≤1000→aG C 143 [aJ a,.int .u64 s] .nil (upR a s)
 short:∀ (a:List Nat) (d:Nat),Lim a→0<d→d<4294967296→a.length≤1000→aG C 140 [aJ a,.int .u32 d] .nil (aM (.tup [aJ (aK (val a/d)),.int .u32 ((val a%d:Nat):Int)]))
 lengthO:∀ (xs:List Nat) (o:Nat),Lim xs→xs.length≤35184372087808→aG C 138 [.osl o 1 0 xs.length] (PH.nil.set o (.rows 1 (aI xs))) (fun r H'=>r=.int .i64 (nl (val xs):Nat)∧H'=PH.nil.set o (.rows 1 (aI xs)))
def ahM:Spec:=fun name vs=>match name,vs with
 | 143,[x,.int _ s]=>some ([],fun _=>upR (mI x) s.toNat)
 | 138,[.osl q _ _ _]=>some ([q],fun e r H'=>H'=e∧∀ xs,Lim xs→e q=some (.rows 1 (aI xs))→r=.int .i64 (nl (val xs):Nat))
 | _,_=>none
theorem O5 (a:List Nat) (s:Nat):ahM 143 [aJ a,.int .u64 s]=some ([],fun _=>upR a s):=by
 show some _=_; rw[fS,aJN]
theorem My (a:List Nat) (s:Nat):∀ G:PH,∃ r H',upR a s r H'∧lI G .nil H':=fun G=>by
 obtain⟨o,l⟩:=G.fresh;refine⟨_,_,⟨o,rfl,rfl⟩,fun q x j _=>?_⟩;rw[aP] at j;split at j
 ·rename_i e; subst e; exact l
 ·cases j
theorem PE {xs e:List Nat} (h:aI xs=aI e):xs=e:=by
 have:=congrArg mI (show aJ xs=aJ e by show PV.sl 1 (aI xs)=PV.sl 1 (aI e); rw[h])
 rwa [fS,fS] at this
theorem ug (q:Nat) (L:List Nat):(PH.nil.set q (.rows 1 (aI L)))=(PH.nil.set q (.rows 1 (aI L)))∧∀ xs,Lim xs→(PH.nil.set q (.rows 1 (aI L))) q=some (.rows 1 (aI xs))→(PV.int .i64 (nl (val L):Nat))=.int .i64 (nl (val xs):Nat):=by
 refine⟨rfl,fun xs j e=>?_⟩;rw[cM] at e;have:aI L=aI xs:=(bG.rows.inj (aIU.inj e)).2;rw[PE this]
def rE (A B:Nat):PV:=.tup [aJ (aK (A/B)),aJ (aK (A%B))]
def Yj (a b:List Nat) (s:Nat):PF:=(((PF.nil.set 0 (aJ a)).set 1 (aJ b)).set 8 (.int .u64 s))
theorem atY {x s:Nat} (e:s≤31) (h:x*2 ^ s<4294967296):shift .shl .u32 (x:Int) (s:Int)=some (.int .u32 ((x*2 ^ s:Nat):Int)):=by
 unfold shift;rw[if_neg Om];simp only;have:min (Int.toNat (s:Int)) IntKind.u32.bits=s:=by rw[show IntKind.u32.bits=32 from rfl]; omega
 rw[this,show (x:Int)*2 ^ s=((x*2 ^ s:Nat):Int) by simp,cI,aIB h]
theorem Nu {n i x:Nat} (e:(aGM n 0)[i]?=some x):x=0:=by
 have:=aII e;rw[List.mem_replicate] at this;exact this.2
theorem Yl {C:Ctx} (K:zm C) (A B:Nat) (hB:B≠0) (hA:nl A≤900) (k':nl B≤900) :
  AU.wp C (aT l8.res (cD (rE A B))) (PF.args [aJ (aK A),aJ (aK B)]) .nil:=by
 have LA:=bE A;have LB:=bE B;have vA:=aY A;have vB:=aY B;have lA:(aK A).length=nl A:=rfl;have lB:(aK B).length=nl B:=rfl;simp only[go_sem,AU,gp,gq,l8];refine aB (K.L.cmp _ _ LA LB Om Om) rfl ?_;rw[vA,vB];by_cases c1:A<B
 ·have hc:eP A B<0:=by simp[eP,c1]
  simp only[go_sem,hc,gr];refine aB (K.L.trim _ LA Om) rfl ?_;rw[vA];simp only[go_sem];refine aU (vs:=[.aA,aJ (aK A)]) (.inr rfl) .nil rfl a_ ⟨?_,rfl⟩;rw[rE,aJR c1,aIB c1,gV];refine .tup rfl fun j p q hp hq=>?_
  match j with
  | 0=>simp at hp hq; subst hp; subst hq; exact .nil 1
  | 1=>simp at hp hq; subst hp; subst hq; exact .refl _
  | j+2=>simp at hp
 have hc:¬ eP A B<0:=by unfold eP;rw[if_neg c1];split<;>decide
 have W:0<B:=aJE hB;have n':nl B≠0:=fun h=>hB (lM.1 h);simp only[go_sem,hc,gs];by_cases c2:nl B=1
 ·have ε:B<4294967296:=by have:=(jM B 1).1 Om; simpa using this
  have Ψ:aK B=[B]:=pD hB ε;have hr:A%B<B:=aIG _ W;have ew:IntKind.u64.wrap ((A%B:Nat):Int)=((A%B:Nat):Int):=aZ Om;rw[Ψ];have ρ:=K.short (aK A) B LA W ε Om;rw[vA] at ρ;simp only[go_sem,show (((1:Nat):Int)==1)=true from rfl,gt];refine aB ρ rfl ?_;simp only[go_sem,gv,ew];refine aB (K.L.make (A%B) Om) rfl ?_;simp only[go_sem];exact aU (vs:=[aJ (aK (A/B)),aJ (aK (A%B))]) (.inr rfl) .nil rfl a_ ⟨.refl _,rfl⟩
 obtain⟨m,hm⟩:∃ m,nl B=m+2:=⟨nl B-2,by omega⟩;have j':nl B≤nl A:=jW Om;obtain⟨bt,y,g'⟩:=K0 LB (n:=m+1) (by rw[vB]; exact hm);have O:m+1<(aK B).length:=Om;have μ:bt<4294967296:=LB bt (aII y);have l':B=val ((aK B).take (m+1))+4294967296 ^ (m+1)*bt:=by have u:=cA (aK B) O;rw[aGZ Om,vB] at u;rw[aGS O] at y;rw[aIU.inj y] at u;exact u
 have X:=fL (LB.take (m+1));rw[aGY,aIT Om] at X;have ο:(aI (aK B))[m+1]?=some [.int .u32 ((bt:Nat):Int)]:=by rw[bN _ O];rw[aGS O] at y;rw[aIU.inj y]
 have i1:IntKind.i64.wrap ((((aK B).length:Nat):Int)-1)=((m+1:Nat):Int):=by rw[wrap_i64 Om Om]; omega
 have ν:¬ (((aK B).length:Nat):Int)=1:=Om;simp only[go_sem,bB ν,gw];refine wp_loop (α:=Nat) (fun s=>Yj (aK A) (aK B) s) (fun _=>.nil) (fun s=>s≤31∧bt*2 ^ s<4294967296) (fun s=>32-s) 0 ⟨by omega,by simpa using μ⟩ ?_ a_ ?_
 ·unfold Yj;exact Lq
 rintro s ⟨hs,Ξ⟩;have χ:=atY hs Ξ;simp only[go_sem,gn,gx,Yj,i1,ο,χ];refine ahG ?_ ?_
 ·intro c3;have φ:=of_decide_eq_true c3;have h':s<31:=by
   rcases aHD s 31 with h | h
   ·exact h
   ·exfalso;have u:2147483648≤2 ^ s:=Nat.pow_le_pow_right (show 0<2 by decide) h;have M:1*2 ^ s≤bt*2 ^ s:=aHO _ Om;omega
  have es:IntKind.u64.wrap ((s:Int)+1)=((s+1:Nat):Int):=by rw[wrap_u64 Om Om]; omega
  simp only[go_sem,gy,es];refine aH (s+1) ⟨by omega,by rw[aIL,← aHI]; omega⟩ Om ?_ a_;exact Lq
 intro c3;have φ:=of_decide_eq_false c3;have F:s<32:=Om;have E:0<2 ^ s:=aJL (by decide);have V:2147483648*4294967296 ^ (m+1)≤B*2 ^ s:=by
  have u:2147483648*4294967296 ^ (m+1)≤(bt*2 ^ s)*4294967296 ^ (m+1):=aHO _ Om;have M:(4294967296 ^ (m+1)*bt)*2 ^ s≤B*2 ^ s:=aHO _ Om;have h3:(4294967296 ^ (m+1)*bt)*2 ^ s=(bt*2 ^ s)*4294967296 ^ (m+1):=by rw[aHI,aHL]
  omega
 have κ:B*2 ^ s<4294967296 ^ (m+2):=by
  have h0:(bt+1)*2 ^ s≤4294967296:=by
   have i':(4294967296:Nat)=2 ^ (32-s)*2 ^ s:=by rw[← Nat.pow_add,show 32-s+s=32 by omega]
   have:bt<2 ^ (32-s):=by
    rcases aHD bt (2 ^ (32-s)) with h | h
    ·exact h
    ·have:=aHO (2 ^ s) h;omega
   have:=aHO (2 ^ s) (show bt+1≤2 ^ (32-s) from this);omega
  have u:B<(bt+1)*4294967296 ^ (m+1):=by rw[aHT,Nat.one_mul,aHL bt]; omega
  have M:B*2 ^ s<(bt+1)*4294967296 ^ (m+1)*2 ^ s:=Nat.mul_lt_mul_of_pos_right u E;have h3:(bt+1)*4294967296 ^ (m+1)*2 ^ s=(bt+1)*2 ^ s*4294967296 ^ (m+1):=Nat.mul_right_comm _ _ _;have h4:(bt+1)*2 ^ s*4294967296 ^ (m+1)≤4294967296*4294967296 ^ (m+1):=aHO _ h0;have h5:4294967296 ^ (m+2)=4294967296*4294967296 ^ (m+1):=by rw[aIL,aHL]
  omega
 have U:A<4294967296 ^ nl A:=(jM A _).1 (aGQ _);simp only[go_sem];refine bP .nil ahM a_ ?_;simp only[go_sem,TY];have ua:=K.up (aK A) s LA F Om;have ub:=K.up (aK B) s LB F Om;refine O4 (O5 (aK A) s) ua rfl (My _ _) ?_;rintro r H' ⟨o,rfl,rfl⟩ -;rw[PH.oH,lA,vA];refine⟨a_,?_⟩;simp only[go_sem];refine O4 (O5 (aK B) s) ub rfl (My _ _) ?_;rintro r H' ⟨o2,rfl,rfl⟩ Λ;rw[PH.oH,lB,vB,hm];refine⟨a_,?_⟩;have Φ:=Λ o2 _ (by rw[aP,if_pos rfl]) (by rfl);have τ:¬ o2=o:=(jH.1 Φ).1;have e':¬ o=o2:=fun h=>τ h.symm;have k1:((m+2:Nat):Int)≤((m+2+1:Nat):Int):=Om;have k2:IntKind.i64.wrap (((nl A+1:Nat):Int)-((m+2:Nat):Int))=((nl A+1-(m+2):Nat):Int):=by rw[wrap_i64 Om Om]; omega
 obtain⟨e,Ω⟩:∃ e,nl A+1-(m+2)=e:=⟨_,rfl⟩;have a':nl A+1=e+(m+2):=Om;rw[Ω] at k2;have k3:((e:Nat):Int)*((4:Nat):Int)≤140737488355328:=Om;have k4:((e:Nat):Int)≤9223372036854775807:=Om;have hz:aGM e [PV.int .u32 0]=aI (aGM e 0):=by simp[aI]
 have k5:m+2-0=m+2:=Om;simp only[go_sem,lB,hm,k1,k5,TZ,UA,k2,k3,k4,hz];refine aQ fun J ξ=>?_;have q2:¬ J=o2:=(jH.1 ξ).1;have q1:¬ J=o:=(jH.1 (jH.1 ξ).2).1;have υ:¬ o2=J:=fun h=>q2 h.symm;have f':¬ o=J:=fun h=>q1 h.symm;have b':eE (m+2+1) (B*2 ^ s)=eE (m+2) (B*2 ^ s)++[B*2 ^ s/4294967296 ^ (m+2)%4294967296]:=wZ _ _;have Lv:=nN (m+2) (B*2 ^ s);have lv:=mJ (m+2) (B*2 ^ s);have vv:val (eE (m+2) (B*2 ^ s))=B*2 ^ s:=pJ κ;have σ:(aI (eE (m+2+1) (B*2 ^ s))).take (m+2)=aI (eE (m+2) (B*2 ^ s)):=by unfold aI;rw[← List.map_take,b',List.take_append_of_le_length Om,aGZ Om]
 generalize q':eE (m+2) (B*2 ^ s)=v at *
 have r':(eE (m+2+1) (B*2 ^ s)).length=m+2+1:=mJ _ _;have S:∀ i (h:i<v.length),(aI (eE (m+2+1) (B*2 ^ s)))[i]?=some [.int .u32 ((v[i]:Nat):Int)]:=by intro i h;have u:(aI v)[i]?=some [.int .u32 ((v[i]:Nat):Int)]:=bN v h;rw[← σ,List.getElem?_take_of_lt Om] at u;exact u
 have g1:=S (m+1) Om;have g0:=S m Om;have htop:2147483648≤v[m+1]:=by
  have u:=cA v (Om:m+1<v.length);rw[aGZ Om,vv] at u;have M:=fL (Lv.take (m+1));rw[aGY,aIT Om] at M;rcases aHD v[m+1] 2147483648 with h | h
  ·exfalso;have h3:4294967296 ^ (m+1)*(v[m+1]+1)≤4294967296 ^ (m+1)*2147483648:=aJD _ h;rw[aGX,Nat.mul_one] at h3;rw[aHL 2147483648] at V;omega
  ·exact h
 have p':=Lv _ (aGP (Om:m+1<v.length));have o':=Lv _ (aGP (Om:m<v.length));have w1:IntKind.u64.wrap ((v[m+1]:Nat):Int)=((v[m+1]:Nat):Int):=aZ Om;have w0:IntKind.u64.wrap ((v[m]:Nat):Int)=((v[m]:Nat):Int):=aZ Om;have j1:IntKind.i64.wrap (((m+2:Nat):Int)-1)=((m+1:Nat):Int):=by rw[wrap_i64 Om Om]; omega
 have j0:IntKind.i64.wrap (((m+2:Nat):Int)-2)=((m:Nat):Int):=by rw[wrap_i64 Om Om]; omega
 have d1:((m+1:Nat):Int)<((m+2:Nat):Int):=Om;have d0:((m:Nat):Int)<((m+2:Nat):Int):=Om;have jq:IntKind.i64.wrap ((e:Int)-1)=(e:Int)-1:=wrap_i64 Om Om;simp only[go_sem];refine bP .nil dD a_ ?_;simp only[go_sem,UB,j1,j0,d1,d0,υ,g1,g0,w1,w0,UC,jq];have ι:A*2 ^ s<4294967296 ^ (nl A+1):=by
  have h0:2 ^ s≤4294967296:=by have:(2:Nat) ^ s≤2 ^ 32:=Nat.pow_le_pow_right (by decide) Om;simpa using this
  have u:A*2 ^ s<4294967296 ^ nl A*2 ^ s:=Nat.mul_lt_mul_of_pos_right U E;have M:4294967296 ^ nl A*2 ^ s≤4294967296 ^ nl A*4294967296:=aJD _ h0;rw[aIL]; omega
 have LU:=nN (nl A+1) (A*2 ^ s);have lU:=mJ (nl A+1) (A*2 ^ s);have vU:val (eE (nl A+1) (A*2 ^ s))=A*2 ^ s:=pJ ι;have hI:pS (A*2 ^ s) (val v) (m+2) (nl A+1) e e (eE (nl A+1) (A*2 ^ s)) (aGM e 0):=by
  refine⟨lU,aKK,LU,xF _,by rw[vU,tF]; omega,?_,fun i x _ hx=>Nu hx⟩
  ·rw[vZ LU Om,vU,vv,aJT (aJL (by decide))];have u:A*2 ^ s<4294967296 ^ nl A*2 ^ s:=Nat.mul_lt_mul_of_pos_right U E;have hx:nl A=m+1+e:=Om;have M:4294967296 ^ nl A=4294967296 ^ (m+1)*4294967296 ^ e:=by rw[hx,Nat.pow_add]
   have h3:2 ^ s≤2147483648:=by have:(2:Nat) ^ s≤2 ^ 31:=Nat.pow_le_pow_right (by decide) hs;simpa using this
   have h4:4294967296 ^ nl A*2 ^ s≤(2147483648*4294967296 ^ (m+1))*4294967296 ^ e:=by rw[M,aHL (4294967296 ^ (m+1)*4294967296 ^ e),← aHI];exact aHO _ (aHO _ h3)
   have h5:(2147483648*4294967296 ^ (m+1))*4294967296 ^ e≤B*2 ^ s*4294967296 ^ e:=aHO _ V;omega
 have β:=Iq (C:=C) K.D (A*2 ^ s) m (nl A+1) e o o2 J s v (eE (m+2+1) (B*2 ^ s)) τ q1 q2 Lv lv σ Om htop a' Om _ hI;simp only[go_sem] at β;refine β _ _ _ ?_ (by simp only[go_sem,e',f']) (by simp only[go_sem,υ]) Sq ?_
 ·unfold dI;exact Lq
 clear β;intro U' w F' l N;have hu:val U'<val v:=by have:=l.r; rwa [aHW] at this
 have Z:=l.v;rw[vv] at hu Z;have Θ:0<B*2 ^ s:=Om;have Γ:val w=A/B:=by
  have:A*2 ^ s/(B*2 ^ s)=val w:=by rw[← Z,Nat.add_mul_div_right _ _ Θ,aJR hu,aHE]
  rw[← this,Nat.mul_div_mul_right _ _ E]
 have Δ:val U'/2 ^ s=A%B:=by
  have:A*2 ^ s%(B*2 ^ s)=val U':=by rw[← Z,Nat.add_mul_mod_self_right,aIB hu]
  rw[← this,Nat.mul_mod_mul_right,Nat.mul_div_cancel _ E]
 have g8:=N 8 _ (by unfold dI; simp only[go_sem]; rfl);have g9:=N 9 _ (by unfold dI; simp only[go_sem]; rfl);have ψ:=N 11 _ (by unfold dI; simp only[go_sem]; rfl);have ω:=N 12 _ (by unfold dI; simp only[go_sem]; rfl);have I:=Ir (C:=C) o (nl A+1) J e (m+2) s U' w F q1 l.limU l.lu' Om Om;simp only[go_sem] at I;simp only[go_sem];refine I _ _ g8 g9 ψ ω ?_;clear I;intro or F2 H2 r1 r2 ζ η Y;rw[Δ] at Y;have c':=ζ 12 _ (by unfold rFr; simp only[go_sem]; rfl);have d':=ζ 19 _ (by unfold rFr; simp only[go_sem]; rfl);have θ:A%B<4294967296 ^ (m+2):=by have u:A%B<B:=aIG _ W;have M:B<4294967296 ^ nl B:=(jM B _).1 (aGQ _);rw[hm] at M; omega
 have LR:=nN (m+2) (A%B);have lR:=mJ (m+2) (A%B);have vR:val (eE (m+2) (A%B))=A%B:=pJ θ;have nQ:=fY l.limQ;have nR:=fY LR;have e1:=l.lq';generalize m':eE (m+2) (A%B)=R at *
 simp only[go_sem];refine bP .nil ahM a_ ?_;simp only[go_sem,UK,c'];have γ:=K.lengthO w J l.limQ Om;rw[e1] at γ;have δ:=K.lengthO R or LR Om;rw[lR] at δ;refine HE (o:=J) (x:=.rows 1 (aI w)) (v:=.int .i64 (nl (val w):Nat)) rfl η γ (ug J w) (fun r H' hr=>⟨hr.2 w l.limQ (by rw[cM]),hr.1⟩) rfl a_ ?_;have c4:((nl (val w):Nat):Int)≤(e:Nat):=Om;simp only[go_sem,c4,d',Nat.sub_zero];refine HE (o:=or) (x:=.rows 1 (aI R)) (v:=.int .i64 (nl (val R):Nat)) rfl Y δ (ug or R) (fun r H' hr=>⟨hr.2 R LR (by rw[cM]),hr.1⟩) rfl a_ ?_;have c5:((nl (val R):Nat):Int)≤((m+2:Nat):Int):=Om;simp only[go_sem,c5];refine aeN (o1:=J) (o2:=or) (s1:=1) (s2:=1) (k1:=nl (val w)) (k2:=nl (val R)) (rs1:=aI w) (rs2:=aI R) (.inr rfl) (fun h=>r2 h.symm) rfl rfl η Y (by rw[bX]; exact nQ) (by rw[bX]; exact nR) (sV _ _ _ _) rfl ⟨?_,rfl⟩;have t1:(aI w).take (nl (val w))=aI (aK (A/B)):=by have:=jQ l.limQ;rw[Γ] at this ⊢;exact this
 have t2:(aI R).take (nl (val R))=aI (aK (A%B)):=by have:=jQ LR;rw[vR] at this ⊢;exact this
 rw[t1,t2];exact .refl _
def aiN (a b:Nat):PF:=((PF.nil.set 0 (aJ (aK a))).set 1 (aJ (aK b)))
theorem atG {C:Ctx} (L:rS C) (e:∀ A B:Nat,B≠0→nl A≤900→nl B≤900→aG C 136 [aJ (aK A),aJ (aK B)] .nil (aM (rE A B))) (a b:List Nat) (E:Lim a) (hb:Lim b) (I:a.length≤35184372087808) (J:b.length≤35184372087808) :
  PB.wp C (aT alI.res (cD (if fO (val a) (val b) then .tup [aJ [],.int .i64 2] else .tup [aJ (aK (aGN (val a) (val b))),.int .i64 0]))) (PF.args [aJ a,aJ b]) .nil:=by
 simp only[go_sem,PB,Ub,Uc,alI];refine aB (L.large a E I) rfl ?_;by_cases j:nl (val a)>512
 ·simp only[go_sem,j,mf];rw[if_pos (by simp[fO,j])];exact kJ rfl
 simp only[go_sem,j];refine aB (L.large b hb J) rfl ?_;by_cases l:nl (val b)>512
 ·simp only[go_sem,l,mf];rw[if_pos (by simp[fO,l])];exact kJ rfl
 rw[if_neg (by simp[fO,j,l])];simp only[go_sem,l,Ud];refine aB (L.trim a E I) rfl ?_;simp only[go_sem];refine aB (L.trim b hb J) rfl ?_;simp only[go_sem];refine wp_loop (α:=Nat × Nat) (fun t=>aiN t.1 t.2) (fun _=>.nil) (fun t=>aGN t.1 t.2=aGN (val a) (val b)∧nl t.1≤512∧nl t.2≤512) (fun t=>t.2) (val a,val b) ⟨rfl,by simp only; omega,by simp only; omega⟩ ?_ a_ ?_
 ·unfold aiN;exact Lq
 rintro⟨x,y⟩ ⟨w,K,F⟩;simp only at w K F;simp only[go_sem,Ua,Ue,aiN,bJ];by_cases u:y=0
 ·subst u;have:¬ ((nl 0:Nat):Int)>0:=by rw[zX]; decide
  simp only[go_sem,this,Uh];refine aU (vs:=[aJ (aK x),.int .i64 0]) (.inr rfl) .nil rfl a_ ⟨?_,rfl⟩;rw[← w,Nat.gcd_zero_right];exact .refl _
 ·have M:nl y≠0:=fun h=>u (lM.1 h);have:((nl y:Nat):Int)>0:=Om;simp only[go_sem,this,Uf];refine aB (e x y u Om Om) rfl ?_;simp only[go_sem,rE,Ug];have hlt:x%y<y:=aIG _ (aJE u);refine aH (y,x%y) ⟨?_,F,?_⟩ hlt ?_ a_
  ·simp only;rw[← w,Nat.gcd_comm y,← Nat.gcd_rec y x,Nat.gcd_comm]
  ·have:=jW (Nat.le_of_lt hlt);simp only; omega
  ·exact Lq
def nS (A B:Nat):PV:=if fO A B then .tup [aJ [],aJ [],.int .i64 2] else if B=0 then .tup [aJ [],aJ [],.int .i64 3] else .tup [aJ (aK (A/B)),aJ (aK (A%B)),.int .i64 0]
def Yk:Spec:=fun name vs=>match name,vs with
 | 138,[x]=>some ([],fun _=>aM (.int .i64 (nl (val (mI x)):Nat)))
 | 136,[x,y]=>some ([],fun _=>aM (rE (val (mI x)) (val (mI y))))
 | _,_=>none
theorem OW (xs:List Nat):Yk 138 [aJ xs]=some ([],fun _=>aM (.int .i64 (nl (val xs):Nat))):=by
 show some _=_; rw[fS]
theorem Ip (A B:Nat):Yk 136 [aJ (aK A),aJ (aK B)]=some ([],fun _=>aM (rE A B)):=by
 show some _=_; rw[fS,fS,aY,aY]
theorem sX {res:List dW} {F:PF} {H:PH} {e:Int} (h:dW.evs F H res=some [.aA,.aA,.int .i64 e]):aT res (cD (.tup [aJ [],aJ [],.int .i64 e])) .ret F H:=by
 refine aU (.inr rfl) .nil h a_ ⟨?_,rfl⟩;refine .tup rfl fun j p q l hq=>?_
 match j with
 | 0=>simp at l hq; subst l; subst hq; exact .nil 1
 | 1=>simp at l hq; subst l; subst hq; exact .nil 1
 | 2=>simp at l hq; subst l; subst hq; exact .refl _
 | j+3=>simp at l
theorem asX {C:Ctx} (L:rS C) (l:∀ A B:Nat,B≠0→nl A≤900→nl B≤900→aG C 136 [aJ (aK A),aJ (aK B)] .nil (aM (rE A B))) (a b:List Nat) (w:Lim a) (hb:Lim b) (F:a.length≤35184372087808) (E:b.length≤35184372087808) :
  OX.wp C (aT alE.res (cD (nS (val a) (val b)))) (PF.args [aJ a,aJ b]) .nil:=by
 simp only[go_sem,OX,Tx,Tz,alE];refine aB (L.large a w F) rfl ?_;by_cases e:nl (val a)>512
 ·simp only[go_sem,e,l7];rw[show nS (val a) (val b)=.tup [aJ [],aJ [],.int .i64 2] by simp[nS,fO,e]];exact sX rfl
 simp only[go_sem,e];refine aB (L.large b hb E) rfl ?_;by_cases u:nl (val b)>512
 ·simp only[go_sem,u,l7];rw[show nS (val a) (val b)=.tup [aJ [],aJ [],.int .i64 2] by simp[nS,fO,u]];exact sX rfl
 simp only[go_sem,u,T0];refine aB (L.length b hb E) rfl ?_;by_cases j:val b=0
 ·have:((nl (val b):Nat):Int)=0:=by rw[j,zX]; rfl
  simp only[go_sem,bM this,T1];rw[show nS (val a) (val b)=.tup [aJ [],aJ [],.int .i64 3] by simp[nS,fO,e,j,zX]];exact sX rfl
 have I:nl (val b)≠0:=fun h=>j (lM.1 h);rw[show nS (val a) (val b)=.tup [aJ (aK (val a/val b)),aJ (aK (val a%val b)),.int .i64 0] by simp[nS,fO,e,u,j]];simp only[go_sem,bB (show ((nl (val b):Nat):Int)≠0 by omega)];refine bP .nil Yk a_ ?_;simp only[go_sem,T2];have J:=fY w;have K:=fY hb;have x:((nl (val a):Nat):Int)≤(a.length:Nat):=Om;have y:((nl (val b):Nat):Int)≤(b.length:Nat):=Om;refine dP (OW a) (L.length a w F) rfl a_ ?_;simp only[go_sem,x,or_true,aHW,jQ w];refine dP (OW b) (L.length b hb E) rfl a_ ?_;simp only[go_sem,y,or_true,aHW,jQ hb];refine dP (Ip (val a) (val b)) (l _ _ j Om Om) rfl a_ ?_;simp only[go_sem,rE,T3];exact aU (.inr rfl) .nil rfl a_ ⟨.refl _,rfl⟩
def cb:Rg:=[iA 6 (.alloc [zB,.aA,.aA]),iI 7 0]
def cc:Rg:=[iM 11 1,iM 12 2,iK2 13 131 11 12,iM 10 13,iE 14 10 0,iE 15 10 1,iM 8 14,iM 9 15]
def ce:Rg:=[iM 16 8,iK 17 128 16,iC 18 .gtr 17 1]
def cf:Rg:=[iM 20 1,iM 21 8,iK2 22 130 20 21,iM 19 22,iE 23 19 0,iE 24 19 1,iE 25 19 2,iM 1 23]
def cg:Rg:=[iM 27 2,iM 28 8,iK2 29 130 27 28,iM 26 29,iE 30 26 0,iE 31 26 1,iE 32 26 2,iM 2 30]
def HL:Rg:=[iM 33 1,iK 34 128 33,iC 35 .gtr 34 4096,iM 36 35,gM 37 2 36 false,gK 38 128 37 36 false,gC 39 .gtr 38 4096 36 false,iQ 40 36 39]
def yB:Rg:=[iA 41 (.build [zB,.aA,.aA] []),iS 3 6 41,iI 7 2]
def HM:Rg:=[iM 42 0,iM 43 42,gM 44 1 43 true,gK 45 128 44 43 true,gC 46 .gtr 45 0 43 true,iP 47 43 46,iM 48 1,iK 49 135 48,iM 50 2,iK 51 135 50,iA 52 (.build [zB,.aA,.aA] [(0,1,(Tm 47)),(1,1,(Tm 49)),(2,1,(Tm 51))]),iS 3 6 52,iI 7 0]
def AH:aE:=(sq cb (.seq (sq cc (sq ce (.cond (Tm 18) (sq cf (.region cg)) .skip))) (.seq (sq HL (.cond (Tm 40) (sq yB .ret) .skip)) (sq HM .ret))))
def W3:List Nat:=[]
def vF:bC:=⟨3,53,AH,[.cell 6 (some 3),.tmp 7]⟩
def pd:Rg:=[iZ 4]
def pe:Rg:=[iM 8 0,iM 9 1,iK2 10 133 8 9,iM 7 10,iE 11 7 0,iE 12 7 1,iM 5 11,iM 6 12]
def pg:Rg:=[iM 13 5,iM 4 13]
def DE:aE:=(sq pd (sq pe (sq pg .ret)))
def abT:List Nat:=[]
def B9:bC:=⟨2,14,DE,[.tmp 4]⟩
def Cv:Rg:=[iA 1 (.box true (Tm 0)),iT 2 false]
def Cw:Rg:=[iF 3 1 1,iL 4 3,iK 5 128 4,iC 6 .eql 5 0,iM 2 6]
def HT:aE:=(sq Cv (sq Cw .ret))
def aiG:List Nat:=[1]
def Xa:bC:=⟨1,7,HT,[.tmp 2]⟩
def A9:Rg:=[iA 4 (.alloc [zB,.aA,.aA]),iI 5 0]
def Ba:Rg:=[iM 6 1,iC 7 .eql 6 0]
def Bb:Rg:=[iA 8 (.build [zB,.aA,.aA] []),iS 3 4 8,iI 5 3]
def Bc:Rg:=[iM 9 0,iC 10 .lss 9 0,iM 11 1,iC 12 .lss 11 0,iA 13 (.eqb true (Tm 10) (Tm 12)),iM 14 0,iK 15 119 14,iM 16 1,iK 17 119 16,iA 18 (.call 120 [(Tm 13),(Tm 15),(Tm 17)]),iE 19 18 0,iE 20 18 1,iS 3 4 19,iM 5 20]
def HN:aE:=(sq A9 (.seq (sq Ba (.cond (Tm 7) (sq Bb .ret) .skip)) (sq Bc .ret)))
def ahZ:List Nat:=[]
def yw:bC:=⟨2,21,HN,[.cell 4 (some 3),.tmp 5]⟩
def Pa:Rg:=[iZ 2]
def Pb:Rg:=[iM 3 0,iC 4 .lss 3 0]
def Pc:Rg:=[iM 5 0,iA 6 (.conv .u64 (Tm 5)),iA 7 (.un .neg (Tm 6)),iK 8 132 7,iM 2 8]
def Pd:Rg:=[iM 9 0,iA 10 (.conv .u64 (Tm 9)),iK 11 132 10,iM 2 11]
def NH:aE:=(sq Pa (.seq (sq Pb (.cond (Tm 4) (sq Pc .ret) .skip)) (sq Pd .ret)))
def aqF:List Nat:=[]
def ahT:bC:=⟨1,12,NH,[.tmp 2]⟩
def pi:Rg:=[iA 1 (.box true (Tm 0)),iT 2 false]
def pj:Rg:=[iF 4 2 1,iL 5 4,iK 6 128 5,iM 3 6]
def BM:Rg:=[iM 7 3,iC 8 .gtr 7 0,iM 9 8,gM 10 3 9 true,gC 11 .leq 10 4096 9 true,iP 12 9 11,iM 13 12,gF 14 1 1 13 true,gL 15 14 13 true,gK 16 128 15 13 true,gC 17 .leq 16 4096 13 true,iP 18 13 17,iM 2 18]
def DF:aE:=(sq pi (sq pj (sq BM .ret)))
def abV:List Nat:=[1]
def Ca:bC:=⟨1,19,DF,[.tmp 2]⟩
def cq:Rg:=[iA 1 (.box true (Tm 0)),iA 2 (.alloc [zB,.aA,.aA]),iI 3 0]
def cu:Rg:=[iO 4 3 1,iK 5 118 4,iA 6 (.un .not (Tm 5))]
def cv:Rg:=[iA 7 (.build [zB,.aA,.aA] []),iS 3 2 7,iI 3 1]
def cw:Rg:=[iF 8 0 1,iL 9 8,iF 10 1 1,iL 11 10,iF 12 2 1,iL 13 12,iA 14 (.call 120 [(Tm 9),(Tm 11),(Tm 13)]),iE 15 14 0,iE 16 14 1,iS 3 2 15,iM 3 16]
def AI:aE:=(sq cq (.seq (sq cu (.cond (Tm 6) (sq cv .ret) .skip)) (sq cw .ret)))
def W8:List Nat:=[1]
def SF:bC:=⟨1,17,AI,[.cell 2 (some 3),.tmp 3]⟩
def Pw:Rg:=[iA 2 (.box true (Tm 0)),iA 3 (.box true (Tm 1)),iI 4 0,iI 5 0]
def Px:Rg:=[iO 9 3 2,iK 10 118 9,iA 11 (.un .not (Tm 10)),iM 12 11,gO 13 3 3 12 false,gK 14 118 13 12 false,iG 15 (.un .not (Tm 14)) 12 false,iQ 16 12 15]
def kb:Rg:=[iI 4 0,iI 5 1]
def Py:Rd:=[(iF 17 1 2,false),(iL 18 17,false),(iF 19 2 3,false),(iL 20 19,false),(iK2 21 121 18 20,true),(iF 22 1 3,true),(iL 23 22,true),(iF 24 2 2,true),(iL 25 24,true),(iK2 26 121 23 25,true),(iK2 27 129 21 26,true),(iM 6 27,false)]
def Pz:Rd:=[(iF 28 0 2,false),(iL 29 28,false),(iM 30 29,false),(gO 31 3 2 30 true,false),(gK 32 122 31 30 true,true),(iG 33 (.un .not (Tm 32)) 30 true,true),(iP 34 30 33,true),(iF 35 0 3,true),(iL 36 35,true),(iM 37 36,false),(gO 38 3 3 37 true,false),(gK 39 122 38 37 true,true),(iG 40 (.un .not (Tm 39)) 37 true,false),(iP 41 37 40,false),(iM 7 34,false),(iM 8 41,false)]
def zN:Rg:=[iM 43 7,iM 44 43,gM 45 8 44 true,iP 46 44 45,iM 42 46]
def kc:Rg:=[iM 47 6,iA 48 (.un .neg (Tm 47)),iM 4 48,iI 5 0]
def GB:Rg:=[iM 50 7,iM 49 50]
def kd:Rg:=[iI 4 (-1),iI 5 0]
def SD:Rg:=[iM 52 8,iM 51 52]
def VW:Rg:=[iI 4 1,iI 5 0]
def VX:Rg:=[iM 53 6,iM 4 53,iI 5 0]
def NK:aE:=(sq Pw (.seq (sq Px (.cond (Tm 16) (sq kb .ret) .skip)) (dq Py (dq Pz (.seq (.block 0 (sq zN (.cond (Tm 42) (sq kc .ret) (sq GB (.cond (Tm 49) (sq kd .ret) (sq SD (.cond (Tm 51) (sq VW .ret) .skip))))))) (sq VX .ret))))))
def aqL:List Nat:=[2,3]
def ahV:bC:=⟨2,54,NK,[.tmp 4,.tmp 5]⟩
def Pe:Rg:=[iA 2 (.box true (Tm 0)),iA 3 (.box true (Tm 1)),iA 4 (.alloc [zB,.aA,.aA]),iI 5 0]
def Pf:Rg:=[iO 15 3 2,iK 16 118 15,iA 17 (.un .not (Tm 16)),iM 18 17,gO 19 3 3 18 false,gK 20 118 19 18 false,iG 21 (.un .not (Tm 20)) 18 false,iQ 22 18 21]
def ka:Rg:=[iA 23 (.build [zB,.aA,.aA] []),iS 3 4 23,iI 5 1]
def Pg:Rd:=[(iF 24 1 2,false),(iL 25 24,false),(iF 26 2 3,false),(iL 27 26,false),(iK2 28 121 25 27,true),(iF 29 1 3,true),(iL 30 29,true),(iF 31 2 2,true),(iL 32 31,true),(iK2 33 121 30 32,true),(iF 34 2 2,true),(iL 35 34,true),(iF 36 2 3,true),(iL 37 36,true),(iK2 38 121 35 37,true),(iM 6 28,false),(iM 7 33,false),(iM 8 38,false)]
def Ph:Rg:=[iF 39 0 2,iL 40 39,iF 41 0 3,iL 42 41,iA 43 (.eqb false (Tm 40) (Tm 42))]
def Pi:Rg:=[iM 45 6,iM 46 7,iK2 47 127 45 46,iM 44 47,iE 48 44 0,iE 49 44 1,iM 9 48,iM 10 49]
def Pj:Rg:=[iF 50 0 2,iL 51 50,iM 52 9,iM 53 8,iA 54 (.call 120 [(Tm 51),(Tm 52),(Tm 53)]),iE 55 54 0,iE 56 54 1,iS 3 4 55,iM 5 56]
def Pk:Rg:=[iM 57 6,iM 58 7,iK2 59 129 57 58,iC 60 .geq 59 0]
def Pl:Rg:=[iM 62 6,iM 63 7,iK2 64 134 62 63,iM 61 64,iE 65 61 0,iE 66 61 1,iM 11 65,iM 12 66]
def Pm:Rg:=[iF 67 0 2,iL 68 67,iM 69 11,iM 70 8,iA 71 (.call 120 [(Tm 68),(Tm 69),(Tm 70)]),iE 72 71 0,iE 73 71 1,iS 3 4 72,iM 5 73]
def Au:Rg:=[iM 75 7,iM 76 6,iK2 77 134 75 76,iM 74 77,iE 78 74 0,iE 79 74 1,iM 13 78,iM 14 79]
def Av:Rg:=[iF 80 0 3,iL 81 80,iM 82 13,iM 83 8,iA 84 (.call 120 [(Tm 81),(Tm 82),(Tm 83)]),iE 85 84 0,iE 86 84 1,iS 3 4 85,iM 5 86]
def NI:aE:=(sq Pe (.seq (sq Pf (.cond (Tm 22) (sq ka .ret) .skip)) (dq Pg (.seq (sq Ph (.cond (Tm 43) (sq Pi (sq Pj .ret)) .skip)) (.seq (sq Pk (.cond (Tm 60) (sq Pl (sq Pm .ret)) .skip)) (sq Au (sq Av .ret)))))))
def aqH:List Nat:=[2,3]
def j9:bC:=⟨2,87,NI,[.cell 4 (some 3),.tmp 5]⟩
def Qj:Rg:=[iA 2 (.alloc [zB,.aA,.aA]),iI 3 0]
def Qk:Rg:=[iA 9 (.call 132 [(.const (.int .u64 1))]),iA 10 (.build [zB,.aA,.aA] [(2,1,(Tm 9))]),iA 4 (.alloc [zB,.aA,.aA]),iS 3 4 10]
def Ql:Rg:=[iM 11 0,iN 12 11,iI 13 0]
def Qm:Rg:=[iB 14 .lss 13 12]
def Qn:Rg:=[iX 15 3 11 13,iO 16 3 15,iA 6 (.alloc [zB,.aA,.aA]),iS 3 6 16]
def Qo:Rg:=[iO 18 3 4,iO 19 3 6,iK2 20 113 18 19,iM 17 20,iE 21 17 0,iE 22 17 1,iA 7 (.alloc [zB,.aA,.aA]),iS 3 7 21,iM 8 22]
def ki:Rg:=[iM 23 8,iC 24 .neq 23 0]
def Qp:Rg:=[iA 25 (.build [zB,.aA,.aA] []),iM 26 8,iS 3 2 25,iM 3 26]
def Qq:Rg:=[iO 27 3 7,iS 3 4 27]
def Qr:Rg:=[iC 28 .add 13 1,iM 13 28]
def B8:aE:=(sq Qm (.seq (.cond (Tm 14) .skip (.exit 0)) (.seq (.block 1 (sq Qn (sq Qo (.seq (sq ki (.cond (Tm 24) (sq Qp .ret) .skip)) (.region Qq))))) (.region Qr))))
def WL:Rg:=[iO 29 3 4,iS 3 2 29,iI 3 0]
def NV:aE:=(sq Qj (sq Qk (.seq (sq Ql (.block 0 (.loop B8))) (sq WL .ret))))
def aqU:List Nat:=[]
def B7:bC:=⟨1,30,NV,[.cell 2 (some 3),.tmp 3]⟩
theorem CoL.nil:CoL [] []:=.refl _
theorem CoL.cons {p q:PV} {ps u:List PV} (h:Co p q) (l:CoL ps u):CoL (p::ps) (q::u) :=
 ⟨by simp[l.len],fun j a b e hb=>by
  cases j with
  | zero=>simp at e hb; subst e; subst hb; exact h
  | succ j=>exact l.at_ j a b (by simpa using e) (by simpa using hb)⟩
theorem CoL.agg {ps e:List PV} (h:CoL ps e):Co (.agg ps) (.agg e):=.agg h.len h.at_
theorem CoL.tup {ps e:List PV} (h:CoL ps e):Co (.tup ps) (.tup e):=.tup h.len h.at_
structure tQ (C:Ctx):Prop extends rS C where
 bits:∀ xs,Lim xs→xs.length≤35184372087808→aG C 128 [aJ xs] .nil (aM (.int .i64 (cN (val xs):Nat)))
 add:∀ xs ys,Lim xs→Lim ys→xs.length≤35184372087808→ys.length≤35184372087808→aG C 127 [aJ xs,aJ ys] .nil (aM (opV (fO (val xs) (val ys)) (val xs+val ys)))
 sub:∀ xs ys,Lim xs→Lim ys→xs.length≤35184372087808→ys.length≤35184372087808→aG C 134 [aJ xs,aJ ys] .nil (aM (xY (val xs) (val ys)))
 mul:∀ xs ys,Lim xs→Lim ys→xs.length≤35184372087808→ys.length≤35184372087808→aG C 133 [aJ xs,aJ ys] .nil (aM (opV (fO (val xs) (val ys)) (val xs*val ys)))
 gcd:∀ xs ys,Lim xs→Lim ys→xs.length≤35184372087808→ys.length≤35184372087808→aG C 131 [aJ xs,aJ ys] .nil (aM (if fO (val xs) (val ys) then .tup [aJ [],.int .i64 2] else .tup [aJ (aK (aGN (val xs) (val ys))),.int .i64 0]))
 div:∀ xs ys,Lim xs→Lim ys→xs.length≤35184372087808→ys.length≤35184372087808→aG C 130 [aJ xs,aJ ys] .nil (aM (nS (val xs) (val ys)))
theorem lK {a b:Nat} (e:nl a≤512) (hb:nl b≤512):fO a b=false:=by
 simp[fO]; omega
theorem xI {a b m n:Nat} (e:nl a≤m) (hb:nl b≤n):nl (a*b)≤m+n:=by
 rw[jM] at e hb ⊢;rw[Nat.pow_add];by_cases h:b=0
 ·subst h; exact Nat.mul_pos (aJL (by decide)) (aJL (by decide))
 ·calc a*b<4294967296 ^ m*b:=Nat.mul_lt_mul_of_pos_right e (aJE h)
   _≤4294967296 ^ m*4294967296 ^ n:=aJD _ (Nat.le_of_lt hb)
theorem Kr {n:Nat} (h:nl n≤512):szV n=.tup [aJ (aK n),.int .i64 0]:=by
 have:¬ nl n>512:=Om;simp[szV,szL,szE,this]
theorem abS {C:Ctx} (L:tQ C) (a b:List Nat) (e:Lim a) (hb:Lim b) (j:a.length≤35184372087808) (l:b.length≤35184372087808) (u:nl (val a)≤256) (w:nl (val b)≤256) :
  DE.wp C (aT B9.res (aM (aJ (aK (val a*val b))))) (PF.args [aJ a,aJ b]) .nil:=by
 simp only[go_sem,DE,pd,pe,B9];refine aB (L.mul a b e hb j l) rfl ?_;have:=xI u w;rw[lK Om Om,opV,Kr Om];simp only[go_sem,pg];refine cE (.inr rfl) rfl ?_;rfl
abbrev gT (neg:Bool) (a b:List Nat):List PV:=[.bool neg,aJ a,aJ b]
theorem aiF {C:Ctx} (L:tQ C) (neg:Bool) (a b:List Nat) (e:Lim a) (j:a.length≤35184372087808) :
  HT.wp C (aT Xa.res (aM (.bool (decide (val a=0))))) (PF.args [.agg (gT neg a b)]) .nil:=by
 simp only[go_sem,HT,Cv,Cw,Xa];refine aB (L.bits a e j) rfl ?_;simp only[go_sem];refine cE (.inr rfl) rfl ?_;have:=@kG (val a);by_cases c:val a=0
 ·rw[bM Om,decide_eq_true c]; rfl
 ·rw[bB Om,decide_eq_false c]; rfl
def dZ (a b:Nat):Bool:=decide (0<cN b)&&decide (cN b≤4096)&&decide (cN a≤4096)
theorem abU {C:Ctx} (L:tQ C) (neg:Bool) (a b:List Nat) (w:Lim a) (hb:Lim b) (x:a.length≤35184372087808) (y:b.length≤35184372087808) :
  DF.wp C (aT Ca.res (aM (.bool (dZ (val a) (val b))))) (PF.args [.agg (gT neg a b)]) .nil:=by
 simp only[go_sem,DF,pi,pj,Ca];refine aB (L.bits b hb y) rfl ?_;by_cases l:0<cN (val b)
 ·have e:((cN (val b):Nat):Int)>0:=Om;by_cases u:cN (val b)≤4096
  ·have j:((cN (val b):Nat):Int)≤4096:=Om;simp only[go_sem,BM,e,j];refine aB (L.bits a w x) rfl ?_;simp only[go_sem];refine cE (.inr rfl) rfl ?_;show PV.bool (decide _)=_;rw[dZ,decide_eq_true l,decide_eq_true u,aHK,aHK];congr 1;rw[decide_eq_decide];omega
  ·have j:¬ ((cN (val b):Nat):Int)≤4096:=Om;simp only[go_sem,BM,e,j];refine cE (.inr rfl) rfl ?_;show PV.bool _=_;simp[dZ,l,u]
 ·have e:¬ ((cN (val b):Nat):Int)>0:=Om;simp only[go_sem,BM,e];refine cE (.inr rfl) rfl ?_;show PV.bool _=_;simp[dZ,l]
theorem aqE {C:Ctx} (L:tQ C) (v:Int) (j:-9223372036854775808≤v) (l:v≤9223372036854775807) :
  NH.wp C (aT ahT.res (aM (aJ (aK v.natAbs)))) (PF.args [.int .i64 v]) .nil:=by
 simp only[go_sem,NH,Pa,Pb,ahT];by_cases c:v<0
 ·have e:IntKind.u64.wrap (0-IntKind.u64.wrap v)=(v.natAbs:Int):=by rw[gQ,gQ]; omega
  simp only[go_sem,c,Pc,e];refine aB (L.make v.natAbs Om) rfl ?_;simp only[go_sem];refine cE (.inr rfl) rfl ?_;rfl
 ·have e:IntKind.u64.wrap v=(v.natAbs:Int):=by rw[gQ]; omega
  simp only[go_sem,c,Pd,e];refine aB (L.make v.natAbs Om) rfl ?_;simp only[go_sem];refine cE (.inr rfl) rfl ?_;rfl
abbrev BL (e:Int):PV:=.tup [.agg (gT false [] []),.int .i64 e]
abbrev W9 (neg:Bool) (a b:Nat):PV:=.tup [.agg (gT neg (aK a) (aK b)),.int .i64 0]
def IV (neg:Bool) (a b:Nat):PV :=
 if cN (a/aGN a b)>4096∨cN (b/aGN a b)>4096 then BL 2 else W9 (neg&&decide (a/aGN a b≠0)) (a/aGN a b) (b/aGN a b)
theorem oT {res:List dW} {F:PF} {H:PH} {e:Int} (h:dW.evs F H res=some [.agg [.bool false,.aA,.aA],.int .i64 e]):aT res (cD (BL e)) .ret F H :=
 aU (.inr rfl) .nil h a_ ⟨CoL.tup (.cons (CoL.agg (.cons (.refl _) (.cons (.nil 1) (.cons (.nil 1) .nil)))) (.cons (.refl _) .nil)),rfl⟩
theorem Ag {n:Nat}:cN n>1↔n>1:=by
 have:=mX n 1;omega
theorem gz {a n:Nat} (g:Nat) (h:nl a≤n):nl (a/g)≤n:=aJC (jW (aJS _ _)) h
theorem NS {C:Ctx} (L:tQ C) (neg:Bool) (a b:List Nat) (w:Lim a) (hb:Lim b) (x:a.length≤35184372087808) (y:b.length≤35184372087808) (o:Nat) (F:PF) (H:PH)
  (f0:F 0=some (.bool neg)) (f1:F 1=some (aJ a)) (f2:F 2=some (aJ b)) (f6:F 6=some (.ptr o 3 0 0)) (f7:F 7=some (.int .i64 0)) (j:H o=some (.rows 3 [[.bool false,.aA,.aA]])) :
  aE.wp C (.seq (.seq (.region HL) (.cond (.tmp 40) (.seq (.region yB) .ret) .skip)) (.seq (.region HM) .ret)) (aT vF.res (cD (if cN (val a)>4096∨cN (val b)>4096 then BL 2 else W9 (neg&&decide (val a≠0)) (val a) (val b)))) F H:=by
 have fin:∀ (r:List (List PV)) F H,F 6=some (.ptr o 3 0 0)→F 7=some (.int .i64 2)→H o=some (.rows 3 [[.bool false,.aA,.aA]])→aT vF.res (cD (BL 2)) .ret F H:=by intro r F H E h7 h;refine oT ?_;simp only[go_sem,vF,E,h7,h]
 simp only[go_sem,HL,f1];refine aB (L.bits a w x) rfl ?_;by_cases A:cN (val a)>4096
 ·have l:((cN (val a):Nat):Int)>4096:=Om;rw[if_pos (.inl A)];simp only[go_sem,l,yB,f6,j];exact fin [] _ _ (by simp only[go_sem,f6]) rfl Sq
 ·have l:¬ ((cN (val a):Nat):Int)>4096:=Om;simp only[go_sem,l,f2];refine aB (L.bits b hb y) rfl ?_;by_cases B:cN (val b)>4096
  ·have u:((cN (val b):Nat):Int)>4096:=Om;rw[if_pos (.inr B)];simp only[go_sem,u,yB,f6,j];exact fin [] _ _ (by simp only[go_sem,f6]) rfl Sq
  ·have u:¬ ((cN (val b):Nat):Int)>4096:=Om;rw[if_neg Om];have last:∀ F:PF,F 1=some (aJ a)→F 2=some (aJ b)→F 6=some (.ptr o 3 0 0)→∀ (q:Bool),q=(neg&&decide (val a≠0))→F 47=some (.bool q) →
     True:=fun _ _ _ _ _ _ _=>trivial
   simp only[go_sem,u,HM,f0,f1,f2,f6,j];cases neg with
   | false =>simp only[go_sem,f0,f1,f2,f6,j];refine aB (L.trim a w x) rfl ?_;simp only[go_sem,f0,f1,f2,f6,j];refine aB (L.trim b hb y) rfl ?_;simp only[go_sem,f0,f1,f2,f6,j,aHA];refine aU (.inr rfl) .nil (vs:=[.agg (gT false (aK (val a)) (aK (val b))),.int .i64 0]) ?_ a_ ⟨.refl _,rfl⟩;simp only[go_sem,vF,f6,j]
   | true =>
    simp only[go_sem,f0,f1,f2,f6,j];refine aB (L.bits a w x) rfl ?_;have e:decide (((cN (val a):Nat):Int)>0)=decide (val a≠0):=by have:=@kG (val a);rw[decide_eq_decide]; omega
    simp only[go_sem,f0,f1,f2,f6,j,e];refine aB (L.trim a w x) rfl ?_;simp only[go_sem,f0,f1,f2,f6,j];refine aB (L.trim b hb y) rfl ?_;simp only[go_sem,f0,f1,f2,f6,j,aHK];refine aU (.inr rfl) .nil (vs:=[.agg (gT (decide (val a≠0)) (aK (val a)) (aK (val b))),.int .i64 0]) ?_ a_ ⟨.refl _,rfl⟩;simp only[go_sem,vF,f6,j]
theorem W2 {C:Ctx} (L:tQ C) (neg:Bool) (a b:List Nat) (x:Lim a) (hb:Lim b) (y:a.length≤35184372087808) (A:b.length≤35184372087808) (B:nl (val a)≤512) (u:nl (val b)≤512) (E:val b≠0) :
  AH.wp C (aT vF.res (cD (IV neg (val a) (val b)))) (PF.args [.bool neg,aJ a,aJ b]) .nil:=by
 simp only[go_sem,AH,cb,cc];refine aQ fun o J=>?_;simp only[go_sem];refine aB (L.gcd a b x hb y A) rfl ?_;rw[lK B u];simp only[go_sem,ce];have j:aGN (val a) (val b)≠0:=by intro h; exact E (Nat.gcd_eq_zero_iff.1 h).2
 have l:nl (aGN (val a) (val b))≤512:=aJC (jW (Nat.gcd_le_right _ (aJE E))) u;have e:(aK (aGN (val a) (val b))).length≤35184372087808:=by rw[bJ]; omega
 refine aB (L.bits _ (bE _) e) rfl ?_;rw[aY];by_cases c:aGN (val a) (val b)>1
 ·have w:((cN (aGN (val a) (val b)):Nat):Int)>1:=by have:=Ag.2 c; omega
  simp only[go_sem,w,cf];refine aB (L.div a _ x (bE _) y e) rfl ?_;rw[aY,nS,lK B l,if_neg (by decide),if_neg j];simp only[go_sem,cg];refine aB (L.div b _ hb (bE _) A e) rfl ?_;rw[aY,nS,lK u l,if_neg (by decide),if_neg j];simp only[go_sem];have:=NS L neg (aK (val a/aGN (val a) (val b))) (aK (val b/aGN (val a) (val b))) (bE _) (bE _) (by rw[bJ]; have:=gz (aGN (val a) (val b)) B; omega) (by rw[bJ]; have:=gz (aGN (val a) (val b)) u; omega) o;rw[aY,aY] at this;have:=fun F H=>this F H;simp only[aE.wp,go_sem] at this;exact this _ _ rfl rfl rfl rfl rfl Sq
 ·have w:¬ ((cN (aGN (val a) (val b)):Nat):Int)>1:=by have:=(@Ag (aGN (val a) (val b))); omega
  have I:aGN (val a) (val b)=1:=Om;simp only[go_sem,w];rw[IV,I,Nat.div_one,Nat.div_one];have:=NS L neg a b x hb y A o;simp only[aE.wp,go_sem] at this;exact this _ _ rfl rfl rfl rfl rfl Sq
structure GW (C:Ctx):Prop extends tQ C where
 times:∀ a b,Lim a→Lim b→a.length≤35184372087808→b.length≤35184372087808→nl (val a)≤256→nl (val b)≤256→aG C 121 [aJ a,aJ b] .nil (aM (aJ (aK (val a*val b))))
 zero:∀ neg a b,Lim a→a.length≤35184372087808→aG C 122 [.agg (gT neg a b)] .nil (aM (.bool (decide (val a=0))))
 valid:∀ neg a b,Lim a→Lim b→a.length≤35184372087808→b.length≤35184372087808→aG C 118 [.agg (gT neg a b)] .nil (aM (.bool (dZ (val a) (val b))))
 abs:∀ v:Int,-9223372036854775808≤v→v≤9223372036854775807→aG C 119 [.int .i64 v] .nil (aM (aJ (aK v.natAbs)))
 lowest:∀ neg a b,Lim a→Lim b→a.length≤35184372087808→b.length≤35184372087808→nl (val a)≤512→nl (val b)≤512→val b≠0→aG C 120 [.bool neg,aJ a,aJ b] .nil (aM (IV neg (val a) (val b)))
def dh (n d:Int):PV:=if d=0 then BL 3 else IV (decide (n<0) != decide (d<0)) n.natAbs d.natAbs
theorem qC {n k:Nat} (h:n<4294967296 ^ k):nl n≤k:=(jM _ _).2 h
theorem Fr (neg:Bool) (a b:Nat):∃ j x y e,IV neg a b=.tup [.agg (gT j x y),.int .i64 e]:=by
 unfold IV;split
 ·exact⟨_,_,_,_,rfl⟩
 ·exact⟨_,_,_,_,rfl⟩
theorem ahY {C:Ctx} (L:GW C) (n d:Int) (l:-9223372036854775808≤n) (u:n≤9223372036854775807) (w:-9223372036854775808≤d) (A:d≤9223372036854775807) :
  HN.wp C (aT yw.res (cD (dh n d))) (PF.args [.int .i64 n,.int .i64 d]) .nil:=by
 simp only[go_sem,HN,A9,Ba];refine aQ fun o E=>?_;unfold dh;by_cases c:d=0
 ·subst c;simp only[go_sem,Bb];refine oT ?_;simp only[go_sem,yw]
 ·rw[if_neg c];simp only[go_sem,bB c,Bc];refine aB (L.abs n l u) rfl ?_;simp only[go_sem];refine aB (L.abs d w A) rfl ?_;simp only[go_sem];have F:nl n.natAbs≤2:=qC Om;have I:nl d.natAbs≤2:=qC Om;have low:=L.lowest (decide (n<0) != decide (d<0)) (aK n.natAbs) (aK d.natAbs) (bE _) (bE _) (by rw[bJ]; omega) (by rw[bJ]; omega);rw[aY,aY] at low;have low:=low Om Om Om;refine aB low rfl ?_;obtain⟨j,x,y,e,B⟩:=Fr (decide (n<0) != decide (d<0)) n.natAbs d.natAbs;rw[B];simp only[go_sem];exact aU (.inr rfl) .nil (vs:=[.agg (gT j x y),.int .i64 e]) (by simp only[go_sem,yw]) a_ ⟨.refl _,rfl⟩
theorem nK {a b:Nat}:dZ a b=true↔b≠0∧nl b≤128∧nl a≤128:=by
 have e:=sT b 128;have j:=sT a 128;have l:=@kG b;simp only[dZ,aHC,decide_eq_true_eq];omega
def SY (neg:Bool) (a b:Nat):PV:=if dZ a b then IV neg a b else BL 1
theorem W7 {C:Ctx} (L:GW C) (neg:Bool) (a b:List Nat) (l:Lim a) (hb:Lim b) (u:a.length≤35184372087808) (w:b.length≤35184372087808) :
  AI.wp C (aT SF.res (cD (SY neg (val a) (val b)))) (PF.args [.agg (gT neg a b)]) .nil:=by
 simp only[go_sem,AI,cq,cu];refine aQ fun o F=>?_;simp only[go_sem];refine aB (L.valid neg a b l hb u w) rfl ?_;unfold SY;cases B:dZ (val a) (val b) with
 | false =>simp only[go_sem,cv,aHM];refine oT ?_;simp only[go_sem,SF]
 | true =>obtain⟨E,I,J⟩:=nK.1 B;simp only[go_sem,cw,aHB];refine aB (L.lowest neg a b l hb u w Om Om E) rfl ?_;obtain⟨j,x,y,e,A⟩:=Fr neg (val a) (val b);rw[A];simp only[go_sem];exact aU (.inr rfl) .nil (vs:=[.agg (gT j x y),.int .i64 e]) (by simp only[go_sem,SF]) a_ ⟨.refl _,rfl⟩
def xV (l:Bool) (a1 e:Nat) (u:Bool) (a2 j:Nat):Int :=
 match l&&decide (a1≠0),u&&decide (a2≠0) with
 | true,true=>- eP (a1*j) (a2*e)
 | true,false=>-1
 | false,true=>1
 | false,false=>eP (a1*j) (a2*e)
def BJ (l:Bool) (a1 e:Nat) (u:Bool) (a2 j:Nat):PV :=
 if dZ a1 e&&dZ a2 j then .tup [.int .i64 (xV l a1 e u a2 j),.int .i64 0] else .tup [.int .i64 0,.int .i64 1]
def fr1:PV→List Nat
 | .agg [_,a,_]=>mI a
 | _=>[]
def frS:Spec:=fun name vs=>match name,vs with
 | 121,[x,y]=>some ([],fun _=>aM (aJ (aK (val (mI x)*val (mI y)))))
 | 129,[x,y]=>some ([],fun _=>aM (.int .i64 (eP (val (mI x)) (val (mI y)))))
 | 122,[x]=>some ([],fun _=>aM (.bool (decide (val (fr1 x)=0))))
 | _,_=>none
theorem xD (a b:List Nat):frS 121 [aJ a,aJ b]=some ([],fun _=>aM (aJ (aK (val a*val b)))):=by
 show some _=_; rw[fS,fS]
theorem aqR (a b:List Nat):frS 129 [aJ a,aJ b]=some ([],fun _=>aM (.int .i64 (eP (val a) (val b)))):=by
 show some _=_; rw[fS,fS]
theorem WJ (neg:Bool) (a b:List Nat):frS 122 [.agg (gT neg a b)]=some ([],fun _=>aM (.bool (decide (val a=0)))):=by
 show some _=_; rw[fr1,fS]
theorem ahE (a b:Nat):IntKind.i64.wrap (0-eP a b)=- eP a b:=by
 unfold eP; split
 ·rfl
 ·split<;>rfl
theorem aqK {C:Ctx} (L:GW C) (E y:Bool) (a1 j a2 e:List Nat) (w:Lim a1) (I:Lim j) (l:Lim a2) (J:Lim e)
  (x:a1.length≤35184372087808) (K:j.length≤35184372087808) (u:a2.length≤35184372087808) (M:e.length≤35184372087808) :
  NK.wp C (aT ahV.res (cD (BJ E (val a1) (val j) y (val a2) (val e)))) (PF.args [.agg (gT E a1 j),.agg (gT y a2 e)]) .nil:=by
 simp only[go_sem,NK,Pw,Px];refine aB (L.valid E a1 j w I x K) rfl ?_;unfold BJ;cases V:dZ (val a1) (val j) with
 | false =>simp only[go_sem,aHM,kb,aHA];exact aU (.inr rfl) .nil (vs:=[.int .i64 0,.int .i64 1]) rfl a_ ⟨.refl _,rfl⟩
 | true =>
  obtain⟨v1,X,Y⟩:=nK.1 V;simp only[go_sem,aHB];refine aB (L.valid y a2 e l J u M) rfl ?_;cases W:dZ (val a2) (val e) with
  | false =>simp only[go_sem,aHM,kb,aID];exact aU (.inr rfl) .nil (vs:=[.int .i64 0,.int .i64 1]) rfl a_ ⟨.refl _,rfl⟩
  | true =>
   obtain⟨w1,Z,w3⟩:=nK.1 W;simp only[go_sem,aHB,aIY];refine bP .nil frS a_ ?_;simp only[go_sem,Py];refine dP (xD a1 e) (L.times a1 e w J x M Om Om) rfl a_ ?_;simp only[go_sem];refine dP (xD a2 j) (L.times a2 j l I u K Om Om) rfl a_ ?_;simp only[go_sem];have m1:=xI Y Z;have m2:=xI w3 X;have O:=L.cmp (aK (val a1*val e)) (aK (val a2*val j)) (bE _) (bE _) (by rw[bJ]; omega) (by rw[bJ]; omega);have R:=aqR (aK (val a1*val e)) (aK (val a2*val j));rw[aY,aY] at O R;refine dP R O rfl a_ ?_;simp only[go_sem];refine bP .nil frS a_ ?_;have z1:(!decide (val a1=0))=decide (val a1≠0):=by by_cases h:val a1=0<;>simp[h]
   have S:(!decide (val a2=0))=decide (val a2≠0):=by by_cases h:val a2=0<;>simp[h]
   have fin:∀ (F:PF) (A B:Bool),F 6=some (.int .i64 (eP (val a1*val e) (val a2*val j)))→F 7=some (.bool A)→F 8=some (.bool B)→A=(E&&decide (val a1≠0))→B=(y&&decide (val a2≠0)) →
     aE.wp C (.seq (.block 0 (.seq (.region zN) (.cond (.tmp 42) (.seq (.region kc) .ret) (.seq (.region GB) (.cond (.tmp 49) (.seq (.region kd) .ret) (.seq (.region SD) (.cond (.tmp 51) (.seq (.region VW) .ret) .skip))))))) (.seq (.region VX) .ret)) (aT ahV.res (cD (.tup [.int .i64 (xV E (val a1) (val j) y (val a2) (val e)),.int .i64 0]))) F .nil:=by
    intro F A B f6 f7 N U hB;rw[xV,← U,← hB];cases A<;>cases B
    ·simp only[go_sem,zN,GB,SD,VX,f6,f7,N];exact aU (.inr rfl) .nil rfl a_ ⟨.refl _,rfl⟩
    ·simp only[go_sem,zN,GB,SD,VW,f6,f7,N];exact aU (.inr rfl) .nil rfl a_ ⟨.refl _,rfl⟩
    ·simp only[go_sem,zN,GB,kd,f6,f7,N];exact aU (.inr rfl) .nil rfl a_ ⟨.refl _,rfl⟩
    ·simp only[go_sem,zN,kc,f6,f7,N,ahE];exact aU (.inr rfl) .nil rfl a_ ⟨.refl _,rfl⟩
   simp only[aE.wp,go_sem] at fin;simp only[go_sem,Pz];cases E with
   | false =>
    simp only[go_sem];cases y with
    | false =>simp only[go_sem];exact fin _ false false rfl rfl rfl rfl rfl
    | true =>simp only[go_sem];refine dP (WJ true a2 e) (L.zero true a2 e l u) rfl a_ ?_;simp only[go_sem,S];exact fin _ false (decide (val a2≠0)) rfl rfl rfl rfl (by rw[aHK])
   | true =>
    simp only[go_sem];refine dP (WJ true a1 j) (L.zero true a1 j w x) rfl a_ ?_;simp only[go_sem,z1];cases y with
    | false =>simp only[go_sem];exact fin _ (decide (val a1≠0)) false rfl rfl rfl (by rw[aHK]) rfl
    | true =>simp only[go_sem];refine dP (WJ true a2 e) (L.zero true a2 e l u) rfl a_ ?_;simp only[go_sem,S];exact fin _ (decide (val a1≠0)) (decide (val a2≠0)) rfl rfl rfl (by rw[aHK]) (by rw[aHK])
abbrev FV:=Bool × Nat × Nat
abbrev FR:=Except Int FV
def lL (neg:Bool) (a b:Nat):FR :=
 if cN (a/aGN a b)>4096∨cN (b/aGN a b)>4096 then .error 2 else .ok (neg&&decide (a/aGN a b≠0),a/aGN a b,b/aGN a b)
def frV:FR→PV
 | .ok (n,a,b)=>W9 n a b
 | .error e=>BL e
theorem k6 (neg:Bool) (a b:Nat):IV neg a b=frV (lL neg a b):=by
 unfold IV lL;split<;>rfl
def kS:FV→FV→FR
 | (l,a1,e),(u,a2,j)=>if dZ a1 e&&dZ a2 j then
   (if l=u then lL l (a1*j+a2*e) (e*j) else if a2*e≤a1*j then lL l (a1*j-a2*e) (e*j) else lL u (a2*e-a1*j) (e*j))
  else .error 1
theorem awB {a b m:Nat} (e:nl a≤m) (hb:nl b≤m):nl (a+b)≤m+1:=by
 rw[jM] at e hb ⊢;rw[aIL]; omega
theorem O1 (a b:Nat):(eP a b≥0)↔b≤a:=by
 unfold eP;split
 ·constructor
  ·intro h; exact absurd h (by decide)
  ·intro h; omega
 ·split
  ·constructor
   ·intro h; omega
   ·intro h; decide
  ·constructor
   ·intro h; omega
   ·intro h; decide
theorem SE (r:FR):∃ j x y e,frV r=.tup [.agg (gT j x y),.int .i64 e]:=by
 rcases r with e | ⟨n,a,b⟩
 ·exact⟨_,_,_,_,rfl⟩
 ·exact⟨_,_,_,_,rfl⟩
theorem aqG {C:Ctx} (L:GW C) (w I:Bool) (a1 l a2 u:List Nat) (S:Lim a1) (M:Lim l) (U:Lim a2) (N:Lim u)
  (V:a1.length≤35184372087808) (O:l.length≤35184372087808) (W:a2.length≤35184372087808) (R:u.length≤35184372087808) :
  NI.wp C (aT j9.res (cD (frV (kS (w,val a1,val l) (I,val a2,val u))))) (PF.args [.agg (gT w a1 l),.agg (gT I a2 u)]) .nil:=by
 simp only[go_sem,NI,Pe];refine aQ fun o ho=>?_;simp only[go_sem,Pf];refine aB (L.valid w a1 l S M V O) rfl ?_;simp only[kS];cases hv:dZ (val a1) (val l) with
 | false =>simp only[go_sem,aHM,ka,aHA];refine oT ?_;simp only[go_sem,j9]
 | true =>
  obtain⟨v1,v2,v3⟩:=nK.1 hv;simp only[go_sem,aHB];refine aB (L.valid I a2 u U N W R) rfl ?_;cases hw:dZ (val a2) (val u) with
  | false =>simp only[go_sem,aHM,ka,aID];refine oT ?_;simp only[go_sem,j9]
  | true =>
   obtain⟨w1,w2,w3⟩:=nK.1 hw;simp only[go_sem,aHB,aIY];refine bP .nil frS a_ ?_;simp only[go_sem,Pg];refine dP (xD a1 u) (L.times a1 u S N V R Om Om) rfl a_ ?_;simp only[go_sem];refine dP (xD a2 l) (L.times a2 l U M W O Om Om) rfl a_ ?_;simp only[go_sem];refine dP (xD l u) (L.times l u M N O R Om Om) rfl a_ ?_;simp only[go_sem];have m1:=xI v3 w2;have m2:=xI w3 v2;have m3:=xI v2 w2;have d0:val l*val u≠0:=Nat.mul_ne_zero v1 w1;generalize hA:val a1*val u=A at *
   generalize hB:val a2*val l=B at *
   generalize hD:val l*val u=D at *
   have fin:∀ (F:PF) (H:PH) (r:FR),(∃ j x y e,frV r=.tup [.agg (gT j x y),.int .i64 e]∧F 4=some (.ptr o 3 0 0)∧F 5=some (.int .i64 e)∧H o=some (.rows 3 [gT j x y]))→aT j9.res (cD (frV r)) .ret F H:=by rintro F H r ⟨j,x,y,e,he,f4,f5,hH⟩;rw[he];exact aU (.inr rfl) .nil (vs:=[.agg (gT j x y),.int .i64 e]) (by simp only[go_sem,j9,f4,f5,hH]) a_ ⟨.refl _,rfl⟩
   have eb:(w==I)=decide (w=I):=by cases w<;>cases I<;>rfl
   have low:∀ neg x,nl x≤257→aG C 120 [.bool neg,aJ (aK x),aJ (aK D)] .nil (aM (frV (lL neg x D))):=by
    intro neg x hx;have h1:(aK x).length≤35184372087808:=by rw[bJ]; omega
    have h2:(aK D).length≤35184372087808:=by rw[bJ]; omega
    have:=L.lowest neg (aK x) (aK D) (bE _) (bE _) h1 h2;rw[aY,aY,k6] at this;exact this Om Om d0
   have lA:(aK A).length≤35184372087808:=by rw[bJ]; omega
   have lB:(aK B).length≤35184372087808:=by rw[bJ]; omega
   simp only[go_sem,Ph];by_cases c:w=I
   ·rw[if_pos c];have Z:(w==I)=true:=by rw[eb,decide_eq_true c]
    simp only[go_sem,Z,Pi];have J:=L.add (aK A) (aK B) (bE _) (bE _) lA lB;have α:=awB m1 m2;rw[aY,aY,lK Om Om,opV,Kr Om] at J;refine aB J rfl ?_;simp only[go_sem,Pj];refine aB (low w _ Om) rfl ?_;obtain⟨j,x,y,e,E⟩:=SE (lL w (A+B) D);rw[E];simp only[go_sem];rw[← E];exact fin _ _ _ ⟨j,x,y,e,E,by simp only[go_sem],by simp only[go_sem],by simp only[go_sem]⟩
   ·rw[if_neg c];have Z:(w==I)=false:=by rw[eb,decide_eq_false c]
    simp only[go_sem,Z,Pk];have hc:=L.cmp (aK A) (aK B) (bE _) (bE _) lA lB;rw[aY,aY] at hc;refine aB hc rfl ?_;have K:∀ X Y:Nat,nl X≤256→nl Y≤256→Y≤X→aG C 134 [aJ (aK X),aJ (aK Y)] .nil (aM (.tup [aJ (aK (X-Y)),.int .i64 0])):=by intro X Y h1 h2 h;have:=L.sub (aK X) (aK Y) (bE _) (bE _) (by rw[bJ]; omega) (by rw[bJ]; omega);have h3:=jW (Om:X-Y≤X);rw[aY,aY,xY,lK Om Om,if_neg (by decide),if_neg Om,Kr Om] at this;exact this
    by_cases g:B≤A
    ·have g':eP A B≥0:=(O1 A B).2 g;rw[if_pos g];simp only[go_sem,g',Pl];refine aB (K A B Om Om g) rfl ?_;simp only[go_sem,Pm];have h3:=jW (Om:A-B≤A);refine aB (low w (A-B) Om) rfl ?_;obtain⟨j,x,y,e,E⟩:=SE (lL w (A-B) D);rw[E];simp only[go_sem];rw[← E];exact fin _ _ _ ⟨j,x,y,e,E,by simp only[go_sem],by simp only[go_sem],by simp only[go_sem]⟩
    ·have g':¬ eP A B≥0:=fun h=>g ((O1 A B).1 h);rw[if_neg g];simp only[go_sem,g',Au];refine aB (K B A Om Om Om) rfl ?_;simp only[go_sem,Av];have h3:=jW (Om:B-A≤B);refine aB (low I (B-A) Om) rfl ?_;obtain⟨j,x,y,e,E⟩:=SE (lL I (B-A) D);rw[E];simp only[go_sem];rw[← E];exact fin _ _ _ ⟨j,x,y,e,E,by simp only[go_sem],by simp only[go_sem],by simp only[go_sem]⟩
structure RF where
 neg:Bool
 num:List Nat
 den:List Nat
abbrev RF.cells (x:RF):List PV:=gT x.neg x.num x.den
def RF.Ok (x:RF):Prop:=Lim x.num∧Lim x.den∧x.num.length≤35184372087808∧x.den.length≤35184372087808
def RF.v (x:RF):FV:=(x.neg,val x.num,val x.den)
abbrev frs (l:List RF):PV:=.sl 3 (l.map RF.cells)
def FV.rf:FV→RF
 | (n,a,b)=>⟨n,aK a,aK b⟩
def FV.Small:FV→Prop
 | (_,a,b)=>nl a≤900000∧nl b≤900000
theorem FV.aCM (x:FV):x.rf.v=x:=by
 obtain⟨n,a,b⟩:=x;show (n,val (aK a),val (aK b))=_;rw[aY,aY]
def rI (l:List FV):FR:=l.foldlM kS (false,0,1)
theorem uF {neg:Bool} {a b:Nat} {r:FV} (h:lL neg a b=.ok r):r.Small∧r.rf.Ok:=by
 unfold lL at h;split at h
 ·cases h
 ·rename_i l;have e:=(sT (a/aGN a b) 128).1 Om;have j:=(sT (b/aGN a b) 128).1 Om;injection h with h
  subst h;refine⟨⟨by omega,by omega⟩,bE _,bE _,?_,?_⟩
  ·show (aK _).length≤_;rw[bJ]; omega
  ·show (aK _).length≤_;rw[bJ]; omega
theorem Ov {x y r:FV} (h:kS x y=.ok r):r.rf.Ok:=by
 obtain⟨l,a1,e⟩:=x;obtain⟨u,a2,j⟩:=y;simp only[kS] at h;split at h
 ·split at h
  ·exact (uF h).2
  ·split at h
   ·exact (uF h).2
   ·exact (uF h).2
 ·cases h
theorem N2 {α β:Type} {f:β→α→Except Int β} (l:List α) (b:β) {k:Nat} (h:k<l.length):(l.take (k+1)).foldlM f b=((l.take k).foldlM f b).bind fun x=>f x l[k]:=by
 rw[aIR h,List.foldlM_append];cases (l.take k).foldlM f b with
 | error e=>rfl
 | ok x =>show ([l[k]]:List α).foldlM f x=f x l[k];rw[List.foldlM_cons];cases f x l[k]<;>rfl
theorem W6 {α β:Type} {f:β→α→Except Int β} (l:List α) (b:β) {k:Nat} {e:Int} (h:(l.take k).foldlM f b=.error e):l.foldlM f b=.error e:=by
 conv=>lhs; rw[← aJH k l,List.foldlM_append,h]
 rfl
def amQ (l:List RF) (o2 o4:Nat) (k:Nat):PF:=((((((PF.nil.set 2 (.ptr o2 3 0 0)).set 3 (.int .i64 0)).set 4 (.ptr o4 3 0 0)).set 11 (frs l)).set 12 (.int .i64 (l.length:Nat))).set 13 (.int .i64 k))
def ZT (o2 o4:Nat) (c:List PV):PH:=(PH.nil.set o2 (.rows 3 [[.bool false,.aA,.aA]])).set o4 (.rows 3 [c])
theorem aqT {C:Ctx} (L:GW C) (V:∀ x y:RF,x.Ok→y.Ok→aG C 113 [.agg x.cells,.agg y.cells] .nil (aM (frV (kS x.v y.v)))) (l:List RF) (hl:∀ x∈l,x.Ok) (β:l.length≤9223372036854775807) :
  NV.wp C (aT B7.res (cD (frV (rI (l.map RF.v))))) (PF.args [frs l]) .nil:=by
 simp only[go_sem,NV,Qj];refine aQ fun o2 γ=>?_;simp only[go_sem,Qk];refine aB (L.make 1 (by decide)) rfl ?_;simp only[go_sem];refine aQ fun o4 W=>?_;have w:o4≠o2:=by rintro rfl; simp only[aP,if_true] at W; cases W
 have j:o2≠o4:=Ne.symm w;simp only[go_sem,Ql];refine wp_loop (α:=Nat × FV × PV) (fun t=>amQ l o2 o4 t.1) (fun t=>ZT o2 o4 [.bool t.2.1.1,t.2.2,aJ (aK t.2.1.2.2)]) (fun t=>t.1≤l.length∧((l.map RF.v).take t.1).foldlM kS (false,0,1)=.ok t.2.1∧(t.2.2=.aA∧t.2.1.2.1=0∨t.2.2=aJ (aK t.2.1.2.1))∧(FV.rf t.2.1).Ok) (fun t=>l.length-t.1)
  (0,(false,0,1),.aA) ⟨aGW _,rfl,.inl ⟨rfl,rfl⟩,⟨bE _,bE _,?_,?_⟩⟩ ?_ ?_ ?_
 ·show (aK 0).length≤_;rw[gV]; simp
 ·show (aK 1).length≤_;rw[pD (by decide) (by decide)]; simp
 ·unfold amQ
  (repeat' (first|exact d_|refine c_ ?_ ?_))<;>first|(simp only[go_sem,aGK]<;>rfl)|rfl
 ·unfold ZT;exact e_ (e_ a_ (by simp only[go_sem,j,w])) (by simp only[go_sem,j,w])
 rintro⟨k,⟨U,X,S⟩,cy⟩ ⟨hk,Y,R,M⟩;simp only at hk Y R M ⊢;have N:CoL [.bool U,cy,aJ (aK S)] (FV.rf (U,X,S)).cells:=by
  refine .cons (.refl _) (.cons ?_ (.cons (.refl _) .nil));rcases R with ⟨rfl,rfl⟩ | rfl
  ·show Co .aA (aJ (aK 0));rw[gV]; exact .nil 1
  ·exact .refl _
 simp only[go_sem,B8,Qm,amQ];by_cases hlt:k<l.length
 ·have E:(k:Int)<(l.length:Nat):=Om;have hr:(l.map RF.cells)[k]?=some (l[k]).cells:=by simp[hlt]
  simp only[go_sem,E,Qn,hr];refine aQ fun o6 J=>?_;have F:o4≠o6:=by rintro rfl; simp only[ZT,aP,if_true] at J; cases J
  have B:o2≠o6:=by rintro rfl; simp only[ZT,aP,if_true,if_neg j] at J; cases J
  simp only[go_sem,Qo,ZT,F,B,w,j];refine aB ((V (FV.rf (U,X,S)) l[k] M (hl _ (aGP hlt))).args (.cons (CoL.agg N) (.cons (.refl _) .nil))) rfl ?_;rw[FV.aCM];have u:=N2 (f:=kS) (l.map RF.v) (false,0,1) (k:=k) (by simpa using hlt);rw[Y] at u;simp only[Except.bind,aIN] at u;cases he:kS (U,X,S) (l[k]).v with
  | error e =>
   simp only[go_sem,frV];refine aQ fun o7 A=>?_;have Z:e≠0:=by
    revert he;obtain⟨n2,a2,b2⟩:=(l[k]).v;simp only[kS,lL]
    repeat' split
    all_goals (intro h; first | (injection h with h; subst h; decide) | cases h)
   have I:o2≠o7:=by rintro rfl; simp only[aP,B,j,if_true,if_false] at A; cases A
   simp only[go_sem,ki,dN Z,Qp,I,B,j];rw[he] at u;rw[rI,W6 _ _ u];refine oT ?_;simp only[go_sem,B7]
  | ok r =>
   obtain⟨rn,ra,rb⟩:=r;simp only[go_sem,frV];refine aQ fun o7 A=>?_;have K:o4≠o7:=by rintro rfl; simp only[aP,F,if_true,if_false] at A; cases A
   have I:o2≠o7:=by rintro rfl; simp only[aP,B,j,if_true,if_false] at A; cases A
   simp only[go_sem,ki,Qq,K,I,F,B,w,j,Ne.symm K,Qr,wZz k];rw[he] at u;refine aH (k+1,(rn,ra,rb),aJ (aK ra)) ⟨hlt,u,.inr rfl,Ov he⟩ (by simp only; omega) ?_ ?_
   ·exact Lq
   ·refine e_ (e_ a_ ?_) ?_
    ·simp only[go_sem,j,w,K,I,F,B]
    ·simp only[go_sem,j,w,K,I,F,B]
 ·have E:¬ (k:Int)<(l.length:Nat):=Om;have:k=l.length:=Om;subst this;rw[aGZ (by simp)] at Y;rw[rI,Y];have O:cD (frV (.ok (U,X,S))) (cZ [.agg [.bool U,cy,aJ (aK S)],.int .i64 0]) .nil:=⟨CoL.tup (.cons (CoL.agg N) (.cons (.refl _) .nil)),rfl⟩;rcases R with ⟨rfl,rfl⟩ | rfl
  ·simp only[go_sem,E,WL,ZT,w,j];refine aU (.inr rfl) .nil ?_ a_ O;simp only[go_sem,B7,w,j]
  ·simp only[go_sem,E,WL,ZT,w,j];refine aU (.inr rfl) .nil ?_ a_ O;simp only[go_sem,B7,w,j]
def qR:Rg:=[iT 2 false]
def qS:Rg:=[iM 3 0,iA 4 (.bin .geq (Tm 3) (.const (.int .u8 97))),iM 5 4,gM 6 0 5 true,iG 7 (.bin .leq (Tm 6) (.const (.int .u8 122))) 5 true,iP 8 5 7,iM 9 8,gM 10 0 9 false,iG 11 (.bin .geq (Tm 10) (.const (.int .u8 65))) 9 false,gM 12 11 9 false,gM 13 0 12 true,iG 14 (.bin .leq (Tm 13) (.const (.int .u8 90))) 12 true,iG 15 (.pick (Tm 12) (Tm 14) (.const zB)) 9 false,iQ 16 9 15,iM 2 16]
def mM:aE:=(sq qR (sq qS .ret))
def X2:List Nat:=[]
def SL:bC:=⟨1,17,mM,[.tmp 2]⟩
def BR:Rg:=[iT 2 false]
def BS:Rg:=[iM 3 0,iA 4 (.bin .geq (Tm 3) (.const (.int .u8 48))),iM 5 4,gM 6 0 5 true,iG 7 (.bin .leq (Tm 6) (.const (.int .u8 57))) 5 true,iP 8 5 7,iM 2 8]
def rL:aE:=(sq BR (sq BS .ret))
def acL:List Nat:=[]
def dc:bC:=⟨1,9,rL,[.tmp 2]⟩
def qh:Rg:=[iT 2 false]
def qi:Rg:=[iM 3 0,iK 4 126 3,iM 5 4,gM 6 0 5 false,gK 7 124 6 5 false,iQ 8 5 7,iM 9 8,gM 10 0 9 false,iG 11 (.bin .eql (Tm 10) (.const (.int .u8 45))) 9 false,iQ 12 9 11,iM 13 12,gM 14 0 13 false,iG 15 (.bin .eql (Tm 14) (.const (.int .u8 46))) 13 false,iQ 16 13 15,iM 2 16]
def DJ:aE:=(sq qh (sq qi .ret))
def acQ:List Nat:=[]
def df:bC:=⟨1,17,DJ,[.tmp 2]⟩
def IQ:Rg:=[iT 2 false]
def IR:Rg:=[iM 4 0,iA 5 (.bin .eql (Tm 4) (.const (.str []))),iM 6 5,gM 7 0 6 false,iG 8 (.aFY (Tm 7)) 6 false,gC 9 .gtr 8 16 6 false,iQ 10 6 9,iM 11 10,gM 12 0 11 false,iG 13 (.aFZ (Tm 12) (Ci 0)) 11 false,gK 14 126 13 11 false,iG 15 (.un .not (Tm 14)) 11 false,iQ 16 11 15]
def IS:Rg:=[iT 2 false]
def Fi:Rg:=[iI 3 0]
def Fj:Rg:=[iM 17 3,iM 18 0,iA 19 (.aFY (Tm 18)),iB 20 .lss 17 19]
def Fk:Rg:=[iM 23 0,iM 24 3,iA 25 (.aFZ (Tm 23) (Tm 24)),iK 26 125 25,iA 27 (.un .not (Tm 26))]
def Fl:Rg:=[iT 2 false]
def Fm:Rg:=[iM 21 3,iC 22 .add 21 1,iM 3 22]
def Fh:aE:=(.seq (sq Fj (.cond (Tm 20) .skip (.exit 0))) (.seq (.block 1 (sq Fk (.cond (Tm 27) (sq Fl .ret) .skip))) (.region Fm)))
def Fn:Rg:=[iT 2 true]
def uE:aE:=(sq IQ (.seq (sq IR (.cond (Tm 16) (sq IS .ret) .skip)) (.seq (sq Fi (.block 0 (.loop Fh))) (sq Fn .ret))))
def ajR:List Nat:=[]
def yx:bC:=⟨1,28,uE,[.tmp 2]⟩
def cz:Rg:=[iT 6 false]
def c7:Rg:=[iM 7 0,iM 8 1,iB 9 .geq 7 8,iM 10 9,gM 11 0 10 true,gM 12 2 10 true,gB 13 .leq 11 12 10 true,iP 14 10 13,iM 6 14]
def AL:aE:=(sq cz (sq c7 .ret))
def avU:List Nat:=[]
def gin:bC:=⟨3,15,AL,[.tmp 6]⟩
def pn:Rg:=[iA 1 (.box true (Tm 0)),iT 2 false]
def po:Rg:=[iF 3 1 1,iL 4 3,iK 5 128 4,iC 6 .gtr 5 0,iM 2 6]
def DG:aE:=(sq pn (sq po .ret))
def abZ:List Nat:=[1]
def Cx:bC:=⟨1,7,DG,[.tmp 2]⟩
def Ri:Rg:=[iA 1 (.box true (Tm 0)),iT 2 false]
def Rj:Rg:=[iO 6 3 1,iK 7 116 6,iM 5 7,iE 8 5 0,iE 9 5 1,iA 3 (.alloc [zB,.aA,.aA]),iS 3 3 8,iM 4 9]
def SH:Rg:=[iM 10 4,iC 11 .eql 10 0,iM 12 11,gF 13 0 3 12 true,gL 14 13 12 true,iG 15 (.un .not (Tm 14)) 12 true,iP 16 12 15,iM 17 16,gF 18 1 3 17 true,gL 19 18 17 true,gK 20 128 19 17 true,gC 21 .leq 20 32 17 true,iP 22 17 21,iM 23 22,gF 24 2 3 23 true,gL 25 24 23 true,gK 26 128 25 23 true,gC 27 .leq 26 32 23 true,iP 28 23 27,iM 2 28]
def OA:aE:=(sq Ri (sq Rj (sq SH .ret)))
def arC:List Nat:=[1]
def aiR:bC:=⟨1,29,OA,[.tmp 2]⟩
def Rn:Rg:=[iA 1 (.box true (Tm 0)),iT 2 false]
def Ro:Rg:=[iA 8 (.call 115 [(Ci 1),(Ci 1)]),iM 7 8,iE 9 7 0,iE 10 7 1,iA 3 (.alloc [zB,.aA,.aA]),iS 3 3 9,iM 4 10]
def Rp:Rg:=[iO 12 3 1,iO 13 3 3,iK2 14 114 12 13,iM 11 14,iE 15 11 0,iE 16 11 1,iM 5 15,iM 6 16]
def ko:Rg:=[iM 17 6,iC 18 .eql 17 0,iM 19 18,gM 20 5 19 true,gC 21 .leq 20 0 19 true,iP 22 19 21,iM 2 22]
def OC:aE:=(sq Rn (sq Ro (sq Rp (sq ko .ret))))
def arG:List Nat:=[1]
def gone:bC:=⟨1,23,OC,[.tmp 2]⟩
def C8:Rg:=[iT 4 false]
def C9:Rg:=[iM 7 0,iN 8 7,iI 9 0]
def Da:Rg:=[iB 10 .lss 9 8]
def Db:Rg:=[iX 11 3 7 9,iO 12 3 11,iA 6 (.alloc [zB,.aA,.aA]),iS 3 6 12]
def Dc:Rg:=[iM 13 1,iO 14 3 6,iA 15 (.aGA (Tm 13) [(Tm 14)]),iA 16 (.un .not (Tm 15))]
def Dd:Rg:=[iT 4 false]
def De:Rg:=[iC 17 .add 9 1,iM 9 17]
def C7:aE:=(sq Da (.seq (.cond (Tm 10) .skip (.exit 0)) (.seq (.block 1 (sq Db (sq Dc (.cond (Tm 16) (sq Dd .ret) .skip)))) (.region De))))
def Df:Rg:=[iT 4 true]
def HV:aE:=(sq C8 (.seq (sq C9 (.block 0 (.loop C7))) (sq Df .ret)))
def aiK:List Nat:=[]
def Xd:bC:=⟨2,18,HV,[.tmp 4]⟩
def Dh:Rg:=[iT 4 false]
def Di:Rg:=[iM 7 0,iN 8 7,iI 9 0]
def Dj:Rg:=[iB 10 .lss 9 8]
def Dk:Rg:=[iX 11 1 7 9,iL 12 11,iM 6 12]
def Dl:Rg:=[iM 13 1,iM 14 6,iA 15 (.aGA (Tm 13) [(Tm 14)]),iA 16 (.un .not (Tm 15))]
def Dm:Rg:=[iT 4 false]
def Dn:Rg:=[iC 17 .add 9 1,iM 9 17]
def Dg:aE:=(sq Dj (.seq (.cond (Tm 10) .skip (.exit 0)) (.seq (.block 1 (sq Dk (sq Dl (.cond (Tm 16) (sq Dm .ret) .skip)))) (.region Dn))))
def Do:Rg:=[iT 4 true]
def HW:aE:=(sq Dh (.seq (sq Di (.block 0 (.loop Dg))) (sq Do .ret)))
def aiM:List Nat:=[]
def Xe:bC:=⟨2,18,HW,[.tmp 4]⟩
def Cz:Rg:=[iT 4 false]
def C0:Rg:=[iM 7 0,iN 8 7,iI 9 0]
def C1:Rg:=[iB 10 .lss 9 8]
def C2:Rg:=[iX 11 1 7 9,iL 12 11,iM 6 12]
def C3:Rg:=[iM 13 1,iM 14 6,iA 15 (.aGA (Tm 13) [(Tm 14)]),iA 16 (.un .not (Tm 15))]
def C4:Rg:=[iT 4 false]
def C5:Rg:=[iC 17 .add 9 1,iM 9 17]
def Cy:aE:=(sq C1 (.seq (.cond (Tm 10) .skip (.exit 0)) (.seq (.block 1 (sq C2 (sq C3 (.cond (Tm 16) (sq C4 .ret) .skip)))) (.region C5))))
def C6:Rg:=[iT 4 true]
def HU:aE:=(sq Cz (.seq (sq C0 (.block 0 (.loop Cy))) (sq C6 .ret)))
def aiI:List Nat:=[]
def Xc:bC:=⟨2,18,HU,[.tmp 4]⟩
def pq:Rg:=[iT 2 false]
def pt:Rg:=[iM 3 0,iM 2 3]
def DH:aE:=(sq pq (sq pt .ret))
def acB:List Nat:=[]
def Ds:bC:=⟨1,4,DH,[.tmp 2]⟩
def Dt:Rg:=[iA 1 (.box true (Tm 0)),iT 2 false]
def Du:Rg:=[iF 8 3 1,iL 9 8,iN 10 9,iA 11 (.aFF 1 1 [zB] (Tm 10) (Tm 10)),iM 3 11]
def Dv:Rg:=[iI 4 0]
def Dw:Rg:=[iM 12 4,iM 13 3,iN 14 13,iB 15 .leq 12 14]
def Dx:Rg:=[iM 18 3,iN 19 18,iI 20 0]
def WQ:Rg:=[iB 21 .lss 20 19]
def Dy:Rg:=[iM 22 20,iM 5 22]
def WR:Rg:=[iM 23 3,iM 24 5,iM 25 3,iM 26 5,iX 27 1 25 26,iL 28 27,iM 29 28,gF 30 3 1 29 false,gL 31 30 29 false,gM 32 5 29 false,iG 33 (.aFO 3 (Tm 31) (Tm 32)) 29 false,gO 34 3 33 29 false,gK 35 97 34 29 false,iQ 36 29 35,iX 37 1 23 24,iS 1 37 36]
def WS:Rg:=[iF 38 2 1,iL 39 38,iM 40 5,iX 41 1 39 40,iL 42 41,iN 43 42,iI 44 0]
def Dz:Rg:=[iB 45 .lss 44 43]
def pw:Rg:=[iM 46 44,iX 47 3 42 44,iO 48 3 47,iA 7 (.alloc [zB,.aA,.aA]),iM 6 46,iS 3 7 48]
def NX:Rg:=[iM 49 3,iM 50 5,iM 51 3,iM 52 5,iX 53 1 51 52,iL 54 53,iM 55 54,gO 56 3 7 55 false,gK 57 97 56 55 false,gM 58 57 55 false,gM 59 3 58 true,gM 60 6 58 true,iG 61 (.aFO 1 (Tm 59) (Tm 60)) 58 true,gL 62 61 58 true,iG 63 (.pick (Tm 58) (Tm 62) (.const zB)) 55 false,iQ 64 55 63,iX 65 1 49 50,iS 1 65 64]
def BQ:Rg:=[iC 66 .add 44 1,iM 44 66]
def BO:aE:=(sq Dz (.seq (.cond (Tm 45) .skip (.exit 4)) (.seq (.block 5 (sq pw (.region NX))) (.region BQ))))
def NY:Rg:=[iC 67 .add 20 1,iM 20 67]
def BP:aE:=(sq WQ (.seq (.cond (Tm 21) .skip (.exit 2)) (.seq (.block 3 (sq Dy (sq WR (sq WS (.block 4 (.loop BO)))))) (.region NY))))
def p4:Rg:=[iM 16 4,iC 17 .add 16 1,iM 4 17]
def pu:aE:=(.seq (sq Dw (.cond (Tm 15) .skip (.exit 0))) (.seq (.block 1 (sq Dx (.block 2 (.loop BP)))) (.region p4)))
def p5:Rg:=[iM 68 3,iA 69 (.call 98 [(Tm 68),(.const (.fn 103 []))]),iM 2 69]
def HX:aE:=(sq Dt (sq Du (.seq (sq Dv (.block 0 (.loop pu))) (sq p5 .ret))))
def aiP:List Nat:=[1]
def Xi:bC:=⟨1,70,HX,[.tmp 2]⟩
def Q8:Rg:=[iA 1 (.box true (Tm 0)),iT 2 false]
def Q9:Rg:=[iF 12 1 1,iL 13 12,iN 14 13,iM 3 14]
def Ra:Rg:=[iM 15 3,iA 16 (.call 104 [(Tm 15),(Ci 1),(Ci 4)]),iA 17 (.un .not (Tm 16)),iM 18 17,gF 19 3 1 18 false,gL 20 19 18 false,gN 21 20 18 false,gM 22 3 18 false,gB 23 .neq 21 22 18 false,iQ 24 18 23,iM 25 24,gF 26 2 1 25 false,gL 27 26 25 false,gN 28 27 25 false,gM 29 3 25 false,gB 30 .neq 28 29 25 false,iQ 31 25 30,iM 32 31,gF 33 1 1 32 false,gL 34 33 32 false,iG 35 (.call 99 [(Tm 34),(.const (.fn 105 []))]) 32 false,iG 36 (.un .not (Tm 35)) 32 false,iQ 37 32 36,iM 38 37,gF 39 3 1 38 false,gL 40 39 38 false,iG 41 (.call 99 [(Tm 40),(.const (.fn 105 []))]) 38 false,iG 42 (.un .not (Tm 41)) 38 false,iQ 43 38 42]
def zS:Rg:=[iT 2 false]
def Rb:Rg:=[iF 44 2 1,iL 45 44,iN 46 45,iI 47 0]
def Rc:Rg:=[iB 48 .lss 47 46]
def Re:Rg:=[iM 49 47,iX 50 1 45 47,iL 51 50,iM 4 49,iM 5 51]
def Rf:Rg:=[iM 52 5,iN 53 52,iM 54 3,iB 55 .neq 53 54,iM 56 55,gM 57 5 56 false,iG 58 (.call 99 [(Tm 57),(.const (.fn 105 []))]) 56 false,iG 59 (.un .not (Tm 58)) 56 false,iQ 60 56 59,iM 61 60,gM 62 5 61 false,gM 63 4 61 false,iG 64 (.aFO 3 (Tm 62) (Tm 63)) 61 false,gO 65 3 64 61 false,gK 66 97 65 61 false,iQ 67 61 66]
def SG:Rg:=[iT 2 false]
def Rh:Rg:=[iC 68 .add 47 1,iM 47 68]
def D0:aE:=(sq Rc (.seq (.cond (Tm 48) .skip (.exit 0)) (.seq (.block 1 (sq Re (sq Rf (.cond (Tm 67) (sq SG .ret) .skip)))) (.region Rh))))
def WT:Rg:=[iF 70 1 1,iL 71 70,iK 72 117 71,iM 69 72,iE 73 69 0,iE 74 69 1,iA 6 (.alloc [zB,.aA,.aA]),iS 3 6 73,iM 7 74]
def HY:Rg:=[iA 76 (.call 115 [(Ci 1),(Ci 1)]),iM 75 76,iE 77 75 0,iE 78 75 1,iA 8 (.alloc [zB,.aA,.aA]),iS 3 8 77,iM 9 78]
def HZ:Rg:=[iO 80 3 6,iO 81 3 8,iK2 82 114 80 81,iM 79 82,iE 83 79 0,iE 84 79 1,iM 10 83,iM 11 84]
def vJ:Rg:=[iM 85 7,iC 86 .eql 85 0,iM 87 86,gM 88 10 87 true,gC 89 .eql 88 0 87 true,iP 90 87 89,iM 91 90,gO 92 4 1 91 true,gK 93 102 92 91 true,iP 94 91 93,iM 2 94]
def NZ:aE:=(sq Q8 (sq Q9 (.seq (sq Ra (.cond (Tm 43) (sq zS .ret) .skip)) (.seq (sq Rb (.block 0 (.loop D0))) (sq WT (sq HY (sq HZ (sq vJ .ret))))))))
def arA:List Nat:=[1]
def aiQ:bC:=⟨1,95,NZ,[.tmp 2]⟩
def Ee:Rg:=[iT 2 false]
def Ef:Rg:=[iA 6 (.aGF (false,[.str])),iM 3 6]
def Eg:Rg:=[iM 7 0,iN 8 7,iI 9 0]
def Eh:Rg:=[iB 10 .lss 9 8]
def Ei:Rg:=[iX 11 1 7 9,iL 12 11,iM 5 12]
def Ej:Rg:=[iM 13 5,iK 14 123 13,iA 15 (.un .not (Tm 14)),iM 16 15,gM 17 3 16 false,gM 18 5 16 false,iG 19 (.lookup (false,[.str]) zB (Tm 17) (Tm 18) false) 16 false,iQ 20 16 19]
def WW:Rg:=[iT 2 false]
def Ek:Rg:=[iM 21 3,iM 22 5,⟨none,.aFP (false,[.str]) (Tm 21) (Tm 22) (.const (.bool true)),none⟩]
def El:Rg:=[iC 23 .add 9 1,iM 9 23]
def Ed:aE:=(sq Eh (.seq (.cond (Tm 10) .skip (.exit 0)) (.seq (.block 1 (sq Ei (.seq (sq Ej (.cond (Tm 20) (sq WW .ret) .skip)) (.region Ek)))) (.region El))))
def p8:Rg:=[iT 2 true]
def ID:aE:=(sq Ee (sq Ef (.seq (sq Eg (.block 0 (.loop Ed))) (sq p8 .ret))))
def ajA:List Nat:=[]
def Xo:bC:=⟨1,24,ID,[.tmp 2]⟩
def kk:Rg:=[iA 1 (.box true (Tm 0)),iT 2 false]
def kn:Rg:=[iF 6 3 1,iL 7 6,iN 8 7,iC 9 .eql 8 0]
def Q1:Rg:=[iT 2 false]
def Q3:Rg:=[iF 10 3 1,iL 11 10,iA 12 (.aFO 7 (Tm 11) (Ci 0)),iO 13 7 12,iA 3 (.alloc [(.str []),zI,zI,zI,zB,.aA,.aA]),iS 7 3 13]
def zR:Rg:=[iF 14 0 3,iL 15 14,iA 16 (.bin .neq (Tm 15) (.const (.str []))),iM 17 16,gF 18 1 3 17 false,gL 19 18 17 false,gC 20 .neq 19 0 17 false,iQ 21 17 20,iM 22 21,gF 23 2 3 22 false,gL 24 23 22 false,gC 25 .neq 24 (-1) 22 false,iQ 26 22 25,iM 27 26,gF 28 3 3 27 false,gL 29 28 27 false,gC 30 .neq 29 0 27 false,iQ 31 27 30,iM 32 31,gF 33 4 3 32 false,gO 34 3 33 32 false,gK 35 105 34 32 false,iG 36 (.un .not (Tm 35)) 32 false,iQ 37 32 36,iM 38 37,gF 39 4 3 38 false,gO 40 3 39 38 false,gK 41 97 40 38 false,iQ 42 38 41]
def vI:Rg:=[iT 2 false]
def Q4:Rg:=[iF 43 3 1,iL 44 43,iA 45 (.slice 7 (Tm 44) (some (Ci 1)) none none),iN 46 45,iI 47 0]
def Q5:Rg:=[iB 48 .lss 47 46]
def Q6:Rg:=[iM 49 47,iX 50 7 45 47,iO 51 7 50,iA 5 (.alloc [(.str []),zI,zI,zI,zB,.aA,.aA]),iM 4 49,iS 7 5 51]
def Q7:Rd:=[(iF 52 2 5,false),(iL 53 52,false),(iM 54 4,false),(iA 55 (.call 104 [(Tm 53),(Ci 0),(Tm 54)]),true),(iA 56 (.un .not (Tm 55)),false),(iM 57 56,false),(gF 58 3 1 57 false,false),(gL 59 58 57 false,false),(gF 60 2 5 57 false,false),(gL 61 60 57 false,false),(iG 62 (.aFO 7 (Tm 59) (Tm 61)) 57 false,false),(gF 63 1 62 57 false,false),(gL 64 63 57 false,false),(gF 65 1 5 57 false,false),(gL 66 65 57 false,false),(gC 67 .sub 66 1 57 false,false),(gB 68 .neq 64 67 57 false,false),(iQ 69 57 68,false),(iM 70 69,false),(gF 71 1 5 70 false,false),(gL 72 71 70 false,false),(iG 73 (.call 104 [(Tm 72),(Ci 1),(Ci 4)]) 70 false,true),(iG 74 (.un .not (Tm 73)) 70 false,false),(iQ 75 70 74,false),(iM 76 75,false),(gF 77 3 5 76 false,false),(gL 78 77 76 false,false),(iG 79 (.call 104 [(Tm 78),(Ci 1),(Ci 64)]) 76 false,true),(iG 80 (.un .not (Tm 79)) 76 false,false),(iQ 81 76 80,false),(iM 82 81,false),(gF 83 4 5 82 false,false),(gO 84 3 83 82 false,false),(gK 85 105 84 82 false,true),(iG 86 (.un .not (Tm 85)) 82 false,false),(iQ 87 82 86,false)]
def vH:Rg:=[iT 2 false]
def Dq:Rg:=[iC 88 .add 47 1,iM 47 88]
def Dp:aE:=(sq Q5 (.seq (.cond (Tm 48) .skip (.exit 0)) (.seq (.block 1 (sq Q6 (dq Q7 (.cond (Tm 87) (sq vH .ret) .skip)))) (.region Dq))))
def Dr:Rg:=[iT 2 true]
def BN:aE:=(sq kk (.seq (sq kn (.cond (Tm 9) (sq Q1 .ret) .skip)) (sq Q3 (.seq (sq zR (.cond (Tm 42) (sq vI .ret) .skip)) (.seq (sq Q4 (.block 0 (.loop Dp))) (sq Dr .ret))))))
def aqY:List Nat:=[1]
def Xg:bC:=⟨1,89,BN,[.tmp 2]⟩
def D1:Rg:=[iT 2 false]
def D2:Rg:=[iM 3 0,iA 4 (.call 104 [(Tm 3),(Ci 0),(Ci 8)]),iM 2 4]
def IA:aE:=(sq D1 (sq D2 .ret))
def aiU:List Nat:=[]
def Xk:bC:=⟨1,5,IA,[.tmp 2]⟩
def Rk:Rg:=[iA 7 (.box true (Tm 3)),iT 8 false]
def Rl:Rg:=[iM 9 0,iA 10 (.call 104 [(Tm 9),(Ci 1),(Ci 6)]),iA 11 (.un .not (Tm 10)),iM 12 11,gM 13 1 12 false,iG 14 (.call 104 [(Tm 13),(Ci 0),(Ci 4)]) 12 false,iG 15 (.un .not (Tm 14)) 12 false,iQ 16 12 15,iM 17 16,gM 18 0 17 false,gM 19 1 17 false,gB 20 .add 18 19 17 false,gC 21 .gtr 20 8 17 false,iQ 22 17 21,iM 23 22,gM 24 2 23 false,gM 25 0 23 false,gM 26 0 23 false,gM 27 1 23 false,gB 28 .add 26 27 23 false,iG 29 (.call 104 [(Tm 24),(Tm 25),(Tm 28)]) 23 false,iG 30 (.un .not (Tm 29)) 23 false,iQ 31 23 30,iM 32 31,iG 33 (.idxA 5 1 (Tm 7) (Ci 0)) 32 false,gL 34 33 32 false,gC 35 .neq 34 0 32 false,iQ 36 32 35]
def zT:Rg:=[iT 8 false]
def Rm:Rg:=[iA 37 (.sliceA 5 1 (Tm 7) none none none),iA 38 (.call 100 [(Tm 37),(.const (.fn 107 []))]),iM 8 38]
def OB:aE:=(sq Rk (.seq (sq Rl (.cond (Tm 36) (sq zT .ret) .skip)) (sq Rm .ret)))
def arE:List Nat:=[7]
def aiS:bC:=⟨4,39,OB,[.tmp 8]⟩
def p6:Rg:=[iA 1 (.box true (Tm 0)),iT 2 false]
def p7:Rg:=[iO 3 3 1,iK 4 105 3,iM 5 4,gO 6 3 1 5 true,gK 7 97 6 5 true,iP 8 5 7,iM 2 8]
def DI:aE:=(sq p6 (sq p7 .ret))
def acE:List Nat:=[1]
def D6:bC:=⟨1,9,DI,[.tmp 2]⟩
def D7:Rg:=[iA 6 (.box true (Tm 2)),iA 7 (.box true (Tm 3)),iT 8 false]
def D8:Rg:=[iM 9 1,iN 10 9,iM 11 0,iA 12 (.aFS true (Tm 11) (Ci 1)),iB 13 .eql 10 12,iM 14 13,gM 15 1 14 true,iG 16 (.call 99 [(Tm 15),(.const (.fn 109 []))]) 14 true,iP 17 14 16,iM 18 17,gO 19 3 6 18 true,gK 20 105 19 18 true,iP 21 18 20,iM 22 21,gO 23 3 6 22 true,gK 24 101 23 22 true,iP 25 22 24,iM 26 25,gO 27 3 7 26 true,gK 28 105 27 26 true,iP 29 26 28,iM 8 29]
def IB:aE:=(sq D7 (sq D8 .ret))
def aiX:List Nat:=[6,7]
def Xl:bC:=⟨4,30,IB,[.tmp 8]⟩
def Rq:Rg:=[iA 2 (.box true (Tm 0)),iT 4 false]
def Rr:Rg:=[iF 8 1 2,iL 9 8,iF 10 2 2,iL 11 10,iF 12 3 2,iL 13 12,iF 14 4 2,iO 15 5 14,iA 16 (.call 106 [(Tm 9),(Tm 11),(Tm 13),(Tm 15)]),iA 17 (.un .not (Tm 16)),iM 18 17,gF 19 9 2 18 false,gL 20 19 18 false,gN 21 20 18 false,gC 22 .eql 21 0 18 false,iQ 23 18 22,iM 24 23,gF 25 2 2 24 false,gL 26 25 24 false,gF 27 10 2 24 false,gL 28 27 24 false,gF 29 11 2 24 false,gO 30 3 29 24 false,gF 31 14 2 24 false,gO 32 3 31 24 false,iG 33 (.call 108 [(Tm 26),(Tm 28),(Tm 30),(Tm 32)]) 24 false,iG 34 (.un .not (Tm 33)) 24 false,iQ 35 24 34]
def SI:Rg:=[iT 4 false]
def Rs:Rg:=[iM 36 1,iA 37 (.aFF 1 1 [zB] (Tm 36) (Tm 36)),iM 5 37]
def Rt:Rg:=[iF 38 9 2,iL 39 38,iN 40 39,iI 41 0]
def Ru:Rg:=[iB 42 .lss 41 40]
def Rv:Rg:=[iX 43 1 39 41,iL 44 43,iM 7 44]
def Rw:Rg:=[iM 45 7,iM 46 1,iC 47 .sub 46 1,iA 48 (.call 104 [(Tm 45),(Ci 0),(Tm 47)]),iA 49 (.un .not (Tm 48)),iM 50 49,gM 51 5 50 false,gM 52 7 50 false,iG 53 (.aFO 1 (Tm 51) (Tm 52)) 50 false,gL 54 53 50 false,iQ 55 50 54]
def kp:Rg:=[iT 4 false]
def Rx:Rg:=[iM 56 5,iM 57 7,iX 58 1 56 57,⟨none,.store 1 (Tm 58) (.const (.bool true)),none⟩]
def D4:Rg:=[iC 59 .add 41 1,iM 41 59]
def D3:aE:=(sq Ru (.seq (.cond (Tm 42) .skip (.exit 0)) (.seq (.block 1 (sq Rv (.seq (sq Rw (.cond (Tm 55) (sq kp .ret) .skip)) (.region Rx)))) (.region D4))))
def D5:Rg:=[iT 4 true]
def OD:aE:=(sq Rq (.seq (sq Rr (.cond (Tm 35) (sq SI .ret) .skip)) (sq Rs (.seq (sq Rt (.block 0 (.loop D3))) (sq D5 .ret)))))
def arI:List Nat:=[2]
def aiV:bC:=⟨2,60,OD,[.tmp 4]⟩
def Ry:Rg:=[iA 1 (.box true (Tm 0)),iI 2 0]
def Rz:Rg:=[iF 21 0 1,iL 22 21,iA 23 (.call 104 [(Tm 22),(Ci 1),(Ci 4)]),iA 24 (.un .not (Tm 23)),iM 25 24,gF 26 1 1 25 false,gL 27 26 25 false,gN 28 27 25 false,gC 29 .gtr 28 4 25 false,iQ 30 25 29,iM 31 30,gF 32 2 1 31 false,gL 33 32 31 false,gN 34 33 31 false,gC 35 .gtr 34 4 31 false,iQ 36 31 35,iM 37 36,gF 38 3 1 37 false,gL 39 38 37 false,gN 40 39 37 false,gC 41 .gtr 40 40 37 false,iQ 42 37 41,iM 43 42,gF 44 4 1 43 false,gL 45 44 43 false,gN 46 45 43 false,gC 47 .gtr 46 24 43 false,iQ 48 43 47,iM 49 48,gF 50 5 1 49 false,gL 51 50 49 false,gN 52 51 49 false,gC 53 .gtr 52 4 49 false,iQ 54 49 53,iM 55 54,gF 56 6 1 55 false,gL 57 56 55 false,gN 58 57 55 false,gC 59 .gtr 58 12 55 false,iQ 60 55 59,iM 61 60,gO 62 7 1 61 false,gK 63 111 62 61 false,iG 64 (.un .not (Tm 63)) 61 false,iQ 65 61 64]
def qQ:Rg:=[iI 2 1]
def R0:Rg:=[iZ 3,iZ 4,iZ 5,iZ 6,iZ 7]
def R1:Rg:=[iT 8 true]
def kq:Rg:=[iF 66 1 1,iL 67 66,iN 68 67,iI 69 0]
def R2:Rg:=[iB 70 .lss 69 68]
def R3:Rg:=[iX 71 4 67 69,iO 72 4 71,iA 10 (.alloc [(.str []),.aA,.aA,.aA]),iS 4 10 72]
def R4:Rg:=[iM 73 3,iF 74 0 10,iL 75 74,iA 76 (.aFC true 1 1 [(.str [])] [(0,(Tm 75))]),iA 77 (.append 1 16 (Tm 73) (Tm 76)),iM 3 77]
def kr:Rg:=[iM 78 8,iM 79 78,gO 80 4 10 79 true,gK 81 95 80 79 true,iP 82 79 81,iM 8 82]
def WX:Rg:=[iC 83 .add 69 1,iM 69 83]
def IE:aE:=(sq R2 (.seq (.cond (Tm 70) .skip (.exit 0)) (.seq (.block 1 (sq R3 (sq R4 (.region kr)))) (.region WX))))
def WY:Rg:=[iF 84 2 1,iL 85 84,iN 86 85,iI 87 0]
def Em:Rg:=[iB 88 .lss 87 86]
def En:Rg:=[iX 89 4 85 87,iO 90 4 89,iA 12 (.alloc [(.str []),zI,zI,zI]),iS 4 12 90]
def Eo:Rg:=[iM 91 4,iF 92 0 12,iL 93 92,iA 94 (.aFC true 1 1 [(.str [])] [(0,(Tm 93))]),iA 95 (.append 1 16 (Tm 91) (Tm 94)),iM 4 95]
def WZ:Rg:=[iM 96 8,iM 97 96,gF 98 1 12 97 true,gL 99 98 97 true,iG 100 (.call 104 [(Tm 99),(Ci 1),(Ci 16)]) 97 true,iP 101 97 100,iM 102 101,gF 103 2 12 102 true,gL 104 103 102 true,iG 105 (.call 104 [(Tm 104),(Ci 1),(Ci 64)]) 102 true,iP 106 102 105,iM 107 106,gF 108 3 12 107 true,gL 109 108 107 true,gF 110 1 1 107 true,gL 111 110 107 true,gN 112 111 107 true,gC 113 .sub 112 1 107 true,iG 114 (.call 104 [(Tm 109),(Ci 0),(Tm 113)]) 107 true,iP 115 107 114,iM 8 115]
def AO:Rg:=[iC 116 .add 87 1,iM 87 116]
def IF:aE:=(sq Em (.seq (.cond (Tm 88) .skip (.exit 2)) (.seq (.block 3 (sq En (sq Eo (.region WZ)))) (.region AO))))
def XA:Rg:=[iF 117 3 1,iL 118 117,iA 119 (.slice 7 (Tm 118) (some (Ci 1)) none none),iN 120 119,iI 121 0]
def Ep:Rg:=[iB 122 .lss 121 120]
def Eq:Rg:=[iX 123 7 119 121,iO 124 7 123,iA 14 (.alloc [(.str []),zI,zI,zI,zB,.aA,.aA]),iS 7 14 124]
def Er:Rg:=[iM 125 5,iF 126 0 14,iL 127 126,iA 128 (.aFC true 1 1 [(.str [])] [(0,(Tm 127))]),iA 129 (.append 1 16 (Tm 125) (Tm 128)),iM 5 129]
def Es:Rg:=[iC 130 .add 121 1,iM 121 130]
def IG:aE:=(sq Ep (.seq (.cond (Tm 122) .skip (.exit 4)) (.seq (.block 5 (sq Eq (.region Er))) (.region Es))))
def XB:Rg:=[iF 131 4 1,iL 132 131,iN 133 132,iI 134 0]
def Et:Rg:=[iB 135 .lss 134 133]
def Eu:Rg:=[iX 136 3 132 134,iO 137 3 136,iA 16 (.alloc [(.str []),zI,zI]),iS 3 16 137]
def Ew:Rg:=[iM 138 5,iF 139 0 16,iL 140 139,iA 141 (.aFC true 1 1 [(.str [])] [(0,(Tm 140))]),iA 142 (.append 1 16 (Tm 138) (Tm 141)),iM 5 142]
def XC:Rg:=[iM 143 8,iM 144 143,gF 145 1 16 144 true,gL 146 145 144 true,gF 147 2 1 144 true,gL 148 147 144 true,gN 149 148 144 true,gC 150 .sub 149 1 144 true,iG 151 (.call 104 [(Tm 146),(Ci 0),(Tm 150)]) 144 true,iP 152 144 151,iM 153 152,gF 154 2 16 153 true,gL 155 154 153 true,gF 156 3 1 153 true,gL 157 156 153 true,gN 158 157 153 true,gC 159 .sub 158 1 153 true,iG 160 (.call 104 [(Tm 155),(Ci 0),(Tm 159)]) 153 true,iP 161 153 160,iM 162 161,gF 163 3 1 162 true,gL 164 163 162 true,gF 165 2 16 162 true,gL 166 165 162 true,iG 167 (.aFO 7 (Tm 164) (Tm 166)) 162 true,gF 168 1 167 162 true,gL 169 168 162 true,gC 170 .eql 169 4 162 true,iP 171 162 170,iM 8 171]
def vK:Rg:=[iC 172 .add 134 1,iM 134 172]
def IH:aE:=(sq Et (.seq (.cond (Tm 135) .skip (.exit 6)) (.seq (.block 7 (sq Eu (sq Ew (.region XC)))) (.region vK))))
def XD:Rg:=[iF 173 5 1,iL 174 173,iN 175 174,iI 176 0]
def Ex:Rg:=[iB 177 .lss 176 175]
def Ey:Rg:=[iX 178 17 174 176,iO 179 17 178,iA 18 (.alloc [(.str []),zI,zI,zI,zI,zI,zI,zI,zI,.aA,.aA,zB,.aA,.aA,zB,.aA,.aA]),iS 17 18 179]
def Ez:Rg:=[iM 180 6,iF 181 0 18,iL 182 181,iA 183 (.aFC true 1 1 [(.str [])] [(0,(Tm 182))]),iA 184 (.append 1 16 (Tm 180) (Tm 183)),iM 6 184]
def XE:Rg:=[iM 185 8,iM 186 185,gO 187 17 18 186 true,gF 188 2 1 186 true,gL 189 188 186 true,gN 190 189 186 true,gK2 191 112 187 190 186 true,iP 192 186 191,iM 8 192]
def XF:Rg:=[iC 193 .add 176 1,iM 176 193]
def II:aE:=(sq Ex (.seq (.cond (Tm 177) .skip (.exit 8)) (.seq (.block 9 (sq Ey (sq Ez (.region XE)))) (.region XF))))
def XG:Rg:=[iF 194 6 1,iL 195 194,iN 196 195,iI 197 0]
def E0:Rg:=[iB 198 .lss 197 196]
def E4:Rg:=[iX 199 2 195 197,iO 200 2 199,iA 20 (.alloc [(.str []),zI]),iS 2 20 200]
def E5:Rg:=[iM 201 7,iF 202 0 20,iL 203 202,iA 204 (.aFC true 1 1 [(.str [])] [(0,(Tm 203))]),iA 205 (.append 1 16 (Tm 201) (Tm 204)),iM 7 205]
def XH:Rg:=[iM 206 8,iM 207 206,gF 208 1 20 207 true,gL 209 208 207 true,gF 210 5 1 207 true,gL 211 210 207 true,gN 212 211 207 true,gC 213 .sub 212 1 207 true,iG 214 (.call 104 [(Tm 209),(Ci 0),(Tm 213)]) 207 true,iP 215 207 214,iM 8 215]
def XI:Rg:=[iC 216 .add 197 1,iM 197 216]
def IJ:aE:=(sq E0 (.seq (.cond (Tm 198) .skip (.exit 10)) (.seq (.block 11 (sq E4 (sq E5 (.region XH)))) (.region XI))))
def AP:Rg:=[iM 217 8,iA 218 (.un .not (Tm 217)),iM 219 218,gM 220 3 219 false,gK 221 110 220 219 false,iG 222 (.un .not (Tm 221)) 219 false,iQ 223 219 222,iM 224 223,gM 225 4 224 false,gK 226 110 225 224 false,iG 227 (.un .not (Tm 226)) 224 false,iQ 228 224 227,iM 229 228,gM 230 5 229 false,gK 231 110 230 229 false,iG 232 (.un .not (Tm 231)) 229 false,iQ 233 229 232,iM 234 233,gM 235 6 234 false,gK 236 110 235 234 false,iG 237 (.un .not (Tm 236)) 234 false,iQ 238 234 237,iM 239 238,gM 240 7 239 false,gK 241 110 240 239 false,iG 242 (.un .not (Tm 241)) 239 false,iQ 243 239 242]
def oU:Rg:=[iI 2 1]
def IK:Rg:=[iI 2 0]
def OE:aE:=(sq Ry (.seq (sq Rz (.cond (Tm 65) (sq qQ .ret) .skip)) (sq R0 (sq R1 (.seq (sq kq (.block 0 (.loop IE))) (.seq (sq WY (.block 2 (.loop IF))) (.seq (sq XA (.block 4 (.loop IG))) (.seq (sq XB (.block 6 (.loop IH))) (.seq (sq XD (.block 8 (.loop II))) (.seq (sq XG (.block 10 (.loop IJ))) (.seq (sq AP (.cond (Tm 243) (sq oU .ret) .skip)) (sq IK .ret))))))))))))
def arL:List Nat:=[1,76,94,128,141,183,204]
def ajB:bC:=⟨1,244,OE,[.tmp 2]⟩
@[go_sem] theorem ayM (a b:List UInt8):MV .eql a b=some (.bool (a==b)):=(rfl)
@[go_sem] theorem ayN (a b:List UInt8):MV .neq a b=some (.bool !(a==b)):=(rfl)
@[go_sem] theorem Wm (a b:List UInt8):MV .add a b=if ((a.length+b.length:Nat):Int)>9223372036854775807 then none else some (.str (a++b)):=(rfl)
@[go_sem] theorem auS:(([]:List UInt8)==[])=true:=(rfl)
@[go_sem] theorem apO (c:UInt8) (t:List UInt8):((c::t)==[])=false:=(rfl)
theorem qN {a b:List UInt8} (h:a=b):(a==b)=true:=by simp[h]
theorem bg {a b:List UInt8} (h:a≠b):(a==b)=false:=by simp[h]
section
variable {C:Ctx} {F:PF} {H:PH}
theorem rP {name o s:Nat} {rs:List (List PV)} {vs:List PV} {v:PV} {args:List aN} {d:Option Nat} {K:PF→PH→Prop} (h:aG C name vs .nil (aM v)) (l:H o=some (.rows s rs))
  (j:aN.evs (F.frz o s rs) args=some vs) (e:K ((F.frz o s rs).put d v) (H.frz o s rs)):gA C name args [] d K F H:=by
 refine .inr ⟨_,_,.step o l (.refl _ _),vs,.nil,aM v,?_,a_,h,?_⟩
 ·rw[j]; simp
 ·rintro r H' ⟨rfl,rfl⟩ -;rw[PH.kW];exact e
theorem jF.trans {e j l:PF} {u H2 w:PH} (h:jF e u j H2) (k:jF j H2 l w):jF e u l w:=by
 induction h with
 | refl=>exact k
 | step o x h y=>exact .step o x (y k)
theorem rC {c:aE} {K:cG} {s:Nat} {v:PV} {rows:List (List PV)} (N:bA H s v rows)
  (h:∀ l,Seen s l rows→∀ e w,(∀ t,F t=some v→e t=some l)→(∀ i u,F i=some u→Pure u→e i=some u)→aE.wp C (.loop c) K e w):aE.wp C (.loop c) K F H:=by
 obtain⟨l,O,M⟩:=N.frz;obtain⟨e,w,R,I,J⟩:=M F;obtain⟨α,A,Hs,B,m,E,y,H2,x,j⟩:=h l O e w I J;exact⟨α,A,Hs,B,m,E,y,H2,R.trans x,j⟩
theorem aG.Zc {name s:Nat} {v:PV} {rows:List (List PV)} {l:PH} {R:PV→PH→Prop} (h:aG C name [.sl s rows] l R) (u:Seen s v rows):aG C name [v] l R:=by
 rcases u with ⟨rfl,rfl⟩ | rfl
 ·refine h.args ⟨rfl,fun j p q e hq=>?_⟩;cases j with
  | zero=>simp at e hq; subst e; subst hq; exact .nil s
  | succ j=>simp at e
 ·exact h
theorem bA.fresh {s:Nat} {v:PV} {rows:List (List PV)} {o:Nat} (h:bA H s v rows) (u:H o=none) (x:bG):bA (H.set o x) s v rows∧∀ l,v≠.osl o s 0 l:=by
 refine⟨h.ext fun q y hq=>?_,fun l e=>?_⟩
 ·have:q≠o:=by rintro rfl; rw[u] at hq; cases hq
  simp only[aP,if_neg this,hq]
 ·rcases h with ⟨_,j⟩ | ⟨q,rs,h1,j,_⟩
  ·rw[j] at e; cases e
  ·rw[h1] at e;injection e with w
   subst w;rw[u] at j; cases j
theorem nZ {s b:Nat} {v:PV} {rows:List (List PV)} {r:List PV} {o:Nat} {x:bG} {K:PV→PH→Prop} (h:bA H s v rows) (w:H o=none) (A:roomFor rows.length 1 b)
  (u:∀ v' H',bA H' s v' (rows++[r])→H' o=some x→K v' H'):mS (H.set o x) s b v (.sl s [r]) K:=by
 obtain⟨e,j⟩:=h.fresh w x;refine jP (src:=[r]) e (by simp[dH]) A fun v' H' l y=>u v' H' l (y o x (by simp only[aP,if_true]) j)
theorem zQ {o s k:Nat} {rs:List (List PV)} (e:k≤rs.length):PV.frz o s rs (.osl o s 0 k)=.sl s (rs.take k):=by
 have:0+k≤rs.length:=Om;simp only[PV.frz,PV.pZ,PV.bV,if_true,true_and,if_pos this,aHW]
end
def jJ (n:Nat):Bool:=decide (97≤n)&&decide (n≤122)||decide (65≤n)&&decide (n≤90)
def tX (n:Nat):Bool:=decide (48≤n)&&decide (n≤57)
def jI (n:Nat):Bool:=jJ n||tX n||decide (n=45)||decide (n=46)
theorem X1 {C:Ctx} (n:Nat):mM.wp C (aT SL.res (aM (.bool (jJ n)))) (PF.args [.int .u8 n]) .nil:=by
 have fin:∀ (F:PF) (b:Bool),F 2=some (.bool b)→b=jJ n→aT SL.res (aM (.bool (jJ n))) .ret F .nil:=by intro F b h e;subst e;refine cE (.inr rfl) (vs:=[.bool (jJ n)]) (by simp only[go_sem,SL,h]) rfl
 unfold jJ at *
 by_cases a:97≤n
 ·have j:(n:Int)≥97:=Om;by_cases b:n≤122
  ·have u:(n:Int)≤122:=Om;simp only[go_sem,mM,qR,qS,j,u];exact fin _ _ rfl (by simp[a,b])
  ·have u:¬ (n:Int)≤122:=Om;by_cases c:65≤n
   ·have l:(n:Int)≥65:=Om;have d:¬ (n:Int)≤90:=Om;simp only[go_sem,mM,qR,qS,j,u,l,d];exact fin _ _ rfl (by simp[a,b,c]; omega)
   ·omega
 ·have j:¬ (n:Int)≥97:=Om;by_cases c:65≤n
  ·have l:(n:Int)≥65:=Om;by_cases d:n≤90
   ·have w:(n:Int)≤90:=Om;simp only[go_sem,mM,qR,qS,j,l,w];exact fin _ _ rfl (by simp[a,c,d])
   ·have w:¬ (n:Int)≤90:=Om;simp only[go_sem,mM,qR,qS,j,l,w];exact fin _ _ rfl (by simp[a,c,d])
  ·have l:¬ (n:Int)≥65:=Om;simp only[go_sem,mM,qR,qS,j,l];exact fin _ _ rfl (by simp[a,c])
theorem acK {C:Ctx} (n:Nat):rL.wp C (aT dc.res (aM (.bool (tX n)))) (PF.args [.int .u8 n]) .nil:=by
 have fin:∀ (F:PF) (b:Bool),F 2=some (.bool b)→b=tX n→aT dc.res (aM (.bool (tX n))) .ret F .nil:=by intro F b h e;subst e;refine cE (.inr rfl) (vs:=[.bool (tX n)]) (by simp only[go_sem,dc,h]) rfl
 unfold tX at *
 by_cases a:48≤n
 ·have j:(n:Int)≥48:=Om;by_cases b:n≤57
  ·have l:(n:Int)≤57:=Om;simp only[go_sem,rL,BR,BS,j,l];exact fin _ _ rfl (by simp[a,b])
  ·have l:¬ (n:Int)≤57:=Om;simp only[go_sem,rL,BR,BS,j,l];exact fin _ _ rfl (by simp[a,b])
 ·have j:¬ (n:Int)≥48:=Om;simp only[go_sem,rL,BR,BS,j];exact fin _ _ rfl (by simp[a])
theorem acP {C:Ctx} (u:∀ n:Nat,aG C 126 [.int .u8 n] .nil (aM (.bool (jJ n)))) (w:∀ n:Nat,aG C 124 [.int .u8 n] .nil (aM (.bool (tX n)))) (n:Nat) :
  DJ.wp C (aT df.res (aM (.bool (jI n)))) (PF.args [.int .u8 n]) .nil:=by
 have fin:∀ (F:PF) (b:Bool),F 2=some (.bool b)→b=jI n→aT df.res (aM (.bool (jI n))) .ret F .nil:=by intro F b h e;subst e;refine cE (.inr rfl) (vs:=[.bool (jI n)]) (by simp only[go_sem,df,h]) rfl
 simp only[go_sem,DJ,qh,qi];refine aB (u n) rfl ?_;cases l:jJ n with
 | true =>simp only[go_sem];exact fin _ _ rfl (by simp[jI,l])
 | false =>
  simp only[go_sem];refine aB (w n) rfl ?_;cases j:tX n with
  | true =>simp only[go_sem];exact fin _ _ rfl (by simp[jI,j])
  | false =>
   by_cases c:n=45
   ·simp only[go_sem,bM (Om:(n:Int)=45)];exact fin _ _ rfl (by simp[jI,c])
   ·by_cases d:n=46
    ·simp only[go_sem,bB (Om:(n:Int)≠45),bM (Om:(n:Int)=46)];exact fin _ _ rfl (by simp[jI,d])
    ·simp only[go_sem,bB (Om:(n:Int)≠45),bB (Om:(n:Int)≠46)];exact fin _ _ rfl (by simp[jI,c,d,l,j])
def isName (s:List UInt8):Bool:=match s with
 | []=>false
 | c::_=>decide (s.length≤16)&&jJ c.toNat&&s.all fun c=>jI c.toNat
theorem GX {α:Type} {p:α→Bool} {l:List α} {k:Nat} (e:k<l.length) (h:(l.take k).all p=true) (j:p l[k]=true):(l.take (k+1)).all p=true:=by
 rw[aIR e,List.all_append,h]; simp[j]
theorem GY {α:Type} {p:α→Bool} {l:List α} {k:Nat} (e:k<l.length) (j:p l[k]=false):l.all p=false:=by
 rw[List.all_eq_false];exact⟨l[k],aGP e,by simp[j]⟩
def Fg (s:List UInt8) (k:Nat):PF:=((PF.nil.set 0 (.str s)).set 3 (.int .i64 k))
theorem ajQ {C:Ctx} (B:∀ n:Nat,aG C 126 [.int .u8 n] .nil (aM (.bool (jJ n)))) (E:∀ n:Nat,aG C 125 [.int .u8 n] .nil (aM (.bool (jI n)))) (s:List UInt8) :
  uE.wp C (aT yx.res (aM (.bool (isName s)))) (PF.args [.str s]) .nil:=by
 have fin:∀ (F:PF) (b:Bool),F 2=some (.bool b)→b=isName s→aT yx.res (aM (.bool (isName s))) .ret F .nil:=by intro F b h e;subst e;refine cE (.inr rfl) (vs:=[.bool (isName s)]) (by simp only[go_sem,yx,h]) rfl
 cases s with
 | nil =>simp only[go_sem,uE,IQ,IR,IS];exact fin _ _ rfl rfl
 | cons c t =>
  have J:(c::t)[0]?=some c:=rfl;have w:(c::t==[])=false:=rfl;have u:isName (c::t)=(decide ((c::t).length≤16)&&jJ c.toNat&&(c::t).all fun c=>jI c.toNat):=rfl;generalize c::t=s at *
  by_cases A:s.length≤16
  ·have l:¬ (s.length:Int)>16:=Om;rw[decide_eq_true A,aHK] at u;simp only[go_sem,uE,IQ,IR,w,l,J,aHS];refine aB (B c.toNat) rfl ?_;cases y:jJ c.toNat with
   | false =>simp only[go_sem,aHM,IS];exact fin _ _ rfl (by rw[u,y]; rfl)
   | true =>
    rw[y,aHK] at u;simp only[go_sem,aHB,Fi];refine wp_loop (α:=Nat) (fun k=>Fg s k) (fun _=>.nil) (fun k=>k≤s.length∧(s.take k).all (fun c=>jI c.toNat)=true) (fun k=>s.length-k) 0 ⟨aGW _,rfl⟩ ?_ a_ ?_
    ·unfold Fg;exact Lq
    rintro k ⟨K,x⟩;simp only[go_sem,Fh,Fj,Fg];by_cases hlt:k<s.length
    ·have j:(k:Int)<(s.length:Nat):=Om;have I:s[k]?=some s[k]:=aGS hlt;simp only[go_sem,j,Fk,I,aHS];refine aB (E (s[k]).toNat) rfl ?_;cases hi:jI (s[k]).toNat with
     | false =>simp only[go_sem,aHM,Fl];refine fin _ false rfl ?_;rw[u,GY hlt hi]
     | true =>simp only[go_sem,aHB,Fm,wZz k];refine aH (k+1) ⟨hlt,aIA.1 (GX hlt x hi)⟩ Om ?_ a_;exact Lq
    ·have j:¬ (k:Int)<(s.length:Nat):=Om;simp only[go_sem,j,Fn];have:k=s.length:=Om;subst this;rw[aGZ (aGQ _)] at x;exact fin _ true rfl (by rw[u,x])
  ·have l:(s.length:Int)>16:=Om;simp only[go_sem,uE,IQ,IR,IS,w,l];exact fin _ _ rfl (by rw[u,decide_eq_false A]; rfl)
abbrev dV (x:Int):Prop:=-9223372036854775808≤x∧x≤9223372036854775807
structure dA where
 name:List UInt8
 start:List RF
 aFB:List (List RF)
 exit:List RF
structure dX where
 name:List UInt8
 aFN:Int
 port:Int
 law:Int
structure cU where
 name:List UInt8
 level:Int
 parent:Int
 aFR:Int
 aFM:RF
structure dQ where
 name:List UInt8
 model:Int
 machine:Int
structure cW where
 name:List UInt8
 k:Int
 m:Int
 aFV:Int
 s0:Int
 s1:Int
 s2:Int
 s3:Int
 s4:Int
 aEX:List Int
 repair:List RF
 target:RF
 aFH:RF
structure iY where
 name:List UInt8
 aFJ:Int
structure aC where
 aGC:Int
 aFE:List dA
 aEX:List dX
 aEZ:List cU
 aEW:List dQ
 aFA:List cW
 aEY:List iY
abbrev Zb (l:List (List RF)):PV:=.sl 1 (l.map fun r=>[frs r])
abbrev dA.cells (x:dA):List PV:=[.str x.name,frs x.start,Zb x.aFB,frs x.exit]
abbrev dX.cells (x:dX):List PV:=[.str x.name,.int .i64 x.aFN,.int .i64 x.port,.int .i64 x.law]
abbrev cU.cells (x:cU):List PV:=[.str x.name,.int .i64 x.level,.int .i64 x.parent,.int .i64 x.aFR,.bool x.aFM.neg,aJ x.aFM.num,aJ x.aFM.den]
abbrev dQ.cells (x:dQ):List PV:=[.str x.name,.int .i64 x.model,.int .i64 x.machine]
abbrev cW.cells (x:cW):List PV:=[.str x.name,.int .i64 x.k,.int .i64 x.m,.int .i64 x.aFV,.int .i64 x.s0,.int .i64 x.s1,.int .i64 x.s2,.int .i64 x.s3,.int .i64 x.s4,ints x.aEX,frs x.repair,
 .bool x.target.neg,aJ x.target.num,aJ x.target.den,.bool x.aFH.neg,aJ x.aFH.num,aJ x.aFH.den]
abbrev iY.cells (x:iY):List PV:=[.str x.name,.int .i64 x.aFJ]
abbrev aC.cells (f:aC):List PV:=[.int .i64 f.aGC,.sl 4 (f.aFE.map dA.cells),.sl 4 (f.aEX.map dX.cells),.sl 7 (f.aEZ.map cU.cells),.sl 3 (f.aEW.map dQ.cells),.sl 17 (f.aFA.map cW.cells),.sl 2 (f.aEY.map iY.cells)]
def cW.spread (p:cW) (level:Nat):Int:=match level with
 | 0=>p.s0
 | 1=>p.s1
 | 2=>p.s2
 | 3=>p.s3
 | _=>p.s4
abbrev Fits {α:Type} (l:List α):Prop:=l.length≤9223372036854775807
structure pB (l:List RF):Prop where
 fits:Fits l
 all:∀ x∈l,x.Ok
structure dA.Ok (x:dA):Prop where
 start:pB x.start
 exit:pB x.exit
 aFB:Fits x.aFB
 row:∀ r∈x.aFB,pB r
structure cW.Ok (x:cW):Prop where
 k:dV x.k
 m:dV x.m
 aFV:dV x.aFV
 aEX:Fits x.aEX
 each:∀ m∈x.aEX,dV m
 repair:pB x.repair
 target:x.target.Ok
 aFH:x.aFH.Ok
structure aC.Ok (f:aC):Prop where
 aFE:Fits f.aFE
 aEX:Fits f.aEX
 aEZ:Fits f.aEZ
 aEW:Fits f.aEW
 aFA:Fits f.aFA
 aEY:Fits f.aEY
 law:∀ x∈f.aFE,x.Ok
 dom:∀ x∈f.aEZ,x.aFM.Ok∧dV x.level∧dV x.parent
 drive:∀ x∈f.aEW,dV x.model∧dV x.machine
 aFJ:∀ x∈f.aFA,x.Ok
 volume:∀ x∈f.aEY,dV x.aFJ
def vQ (x:RF):FR:=if dZ (val x.num) (val x.den) then lL x.neg (val x.num) (val x.den) else .error 1
theorem Y5 (x:RF):SY x.neg (val x.num) (val x.den)=frV (vQ x):=by
 unfold SY vQ;split
 ·exact k6 _ _ _
 ·rfl
def fP (x:RF):Bool:=match vQ x with
 | .ok (n,a,b)=>!n&&(decide (cN a≤32)&&decide (cN b≤32))
 | .error _=>false
def bT (x:RF):Bool:=decide (val x.num≠0)
def ZI (x:RF):Bool:=dZ (val x.num) (val x.den)&&decide (xV x.neg (val x.num) (val x.den) false 1 1≤0)
def within (n lo hi:Int):Bool:=decide (lo≤n)&&decide (n≤hi)
def eH (R:List Bool) (i:Nat) (row:List RF):Nat→List Bool
 | 0=>R
 | k+1=>let e:=eH R i row k
  e.set i (e.getD i false||(row.map bT).getD k false&&e.getD k false)
def mQ (l:dA) (R:List Bool) (i:Nat):List Bool :=
 eH (R.set i (R.getD i false||(l.exit.map bT).getD i false)) i (l.aFB.getD i []) (l.aFB.getD i []).length
def fJ (l:dA) (R:List Bool):Nat→List Bool
 | 0=>R
 | i+1=>mQ l (fJ l R i) i
def iW (l:dA):Nat→List Bool
 | 0=>aGM l.exit.length false
 | r+1=>fJ l (iW l r) l.exit.length
def uB (l:dA):Bool:=(iW l (l.exit.length+1)).all id
def sJ (l:dA):Bool :=
 within l.start.length 1 4&&decide (l.exit.length=l.start.length)&&decide (l.aFB.length=l.start.length)&&l.start.all fP&&l.exit.all fP
 && (aGL l.aFB.length).all (fun i=>decide ((l.aFB.getD i []).length=l.start.length)&&(l.aFB.getD i []).all fP&&!((l.aFB.getD i []).map bT).getD i false)
 && (match rI (l.start.map RF.v) with
  | .ok (n,a,b)=>decide (xV n a b false 1 1=0)
  | .error _=>false)&&uB l
def distinct (l:List (List UInt8)):Bool:=(aGL l.length).all fun i=>isName (l.getD i [])&&!(l.take i).contains (l.getD i [])
def VV (f:aC) (i:Nat) (d:cU):Bool :=
 within d.parent 0 i&&decide ((f.aEZ.map cU.level).getD d.parent.toNat 0=IntKind.i64.wrap (d.level-1))&&within d.level 1 4&&within d.aFR 1 64&&fP d.aFM
def SA (f:aC) (r:cU) (t:List cU):Bool :=
 decide (r.name=[])&&decide (r.level=0)&&decide (r.parent=-1)&&decide (r.aFR=0)&&fP r.aFM&&!bT r.aFM
  && (aGL t.length).all fun i=>match t[i]? with
   | some d=>VV f i d
   | none=>false
def pL (f:aC):Bool:=match f.aEZ with
 | []=>false
 | r::t=>SA f r t
def ZG (p:cW):Bool :=
 within p.k 1 6&&within p.m 0 4&&decide (p.k+p.m≤8)&&within p.aFV p.k (p.k+p.m)&&decide (p.s0=0)&&([p.s0,p.s1,p.s2,p.s3,p.s4].all fun n=>within n 0 8)
def SX (p:cW):Bool :=
 decide ((p.repair.length:Int)=max p.m 1)&&(p.repair.all fun x=>fP x&&bT x)&&fP p.target&&ZI p.target&&fP p.aFH
def kX (aEX:Nat) (p:cW):Bool :=
 ZG p&&decide (p.aEX.length≠0)&&SX p&&(aGL p.aEX.length).all fun j=>within (p.aEX.getD j 0) 0 ((aEX:Int)-1)&&!(p.aEX.take j).contains (p.aEX.getD j 0)
def nG (f:aC) (m:dX):Bool:=within m.aFN 1 16&&within m.port 1 64&&within m.law 0 ((f.aFE.length:Int)-1)
def lF (f:aC) (d:dQ):Bool:=within d.model 0 ((f.aEX.length:Int)-1)&&within d.machine 0 ((f.aEZ.length:Int)-1)&&decide ((f.aEZ.map cU.level).getD d.machine.toNat 0=4)
def qI (f:aC) (v:iY):Bool:=within v.aFJ 0 ((f.aFA.length:Int)-1)
def rN (f:aC):Bool:=within f.aGC 1 4&&decide (f.aFE.length≤4)&&decide (f.aEX.length≤4)&&decide (f.aEZ.length≤40)&&decide (f.aEW.length≤24)&&decide (f.aFA.length≤4)&&decide (f.aEY.length≤12)
def dE (f:aC):Bool :=
 rN f&&pL f&&(f.aFE.all sJ&&f.aEX.all (nG f)&&f.aEW.all (lF f)&&f.aFA.all (kX f.aEX.length)&&f.aEY.all (qI f))
 && (distinct (f.aFE.map dA.name)&&distinct (f.aEX.map dX.name)&&distinct ((f.aEZ.drop 1).map cU.name++f.aEW.map dQ.name)&&distinct (f.aFA.map cW.name)&&distinct (f.aEY.map iY.name))
end Go.PM
