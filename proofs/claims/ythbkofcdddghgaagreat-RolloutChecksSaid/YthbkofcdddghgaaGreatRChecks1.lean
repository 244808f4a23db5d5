/-
  Texts of ours, joined: RwShelf Pm1 Pm2 Pm3 Pm4 Pm5 Pm6 Pm7 Pm8 Pm9 Pm10 Pm11 Pm11m Pm12 Pm13 Pm14 Pm15 Pm16 Pm17 Pm17f Pm15m Pm18 Pm18a Pm18b Pm18c Pm18d Pm18e Pm19. No condition.
-/
import Derived.Shelf.Sort.Plain
import Derived.Ground.Names2Prog
import Derived.Ground.NamesProg
import Derived.Shelf.Slices.CompactI
import Derived.Shelf.Slices.In.SortNone
import Derived.Test.YthbkofcdddghgaaGreatProg
import Derived.WalkKit
import Derived.Laws.Cover3
import Derived.Deep.MidRow
import Derived.Great.BuildSlice
import Derived.Lib.Strings
import Derived.Laws.BytesArg
import GoSem.Instr.MapUpdate
import Derived.Laws.MakeOwn
import Derived.Laws.CopyRow
import Derived.MapKept
import Derived.Orders
import Derived.Deep.LoopGhost
import Derived.Scope
set_option linter.unusedSimpArgs false
set_option linter.unusedVariables false
open Nat renaming reduceEqDiff → γ, reduceAdd → δ, reduceSub → ε, reduceMul → ζ, reduceLT → η, reduceLeDiff → θ, reduceBEq → τ
open Int renaming reduceLT → ι, reduceLE → κ, reduceEq → μ, reduceToNat → ν, reduceAdd → ξ, reduceNeg → ο, reduceBEq → ρ, reduceBNe → σ
open List renaming reduceReplicate → υ
open List renaming length_map → bJT, range → bJU, replicate → bJW, getElem_mem → bJX, length_append → bKA, getElem?_eq_getElem → bKD, length_singleton → bKH, mem_cons → bKJ, take_of_length_le → bKK, length_take → bKL, getD_eq_getElem?_getD → bKO, all_eq_true → bKQ, take_length → bKS, append_assoc → bKU, getElem?_eq_some_iff → bKV, drop_zero → bKW, mem_map → bKX, getElem?_map → bKZ, not_mem_nil → bLB, mem_singleton → bLD, getElem?_eq_none → bLG, mem_append → bLH, mem_range → bLI, take_succ_eq_append_getElem → bLK, append_nil → bLM, drop_eq_getElem_cons → bLP, length_set → bLQ, Sublist → bLR, getElem?_append_right → bLS, length_cons → bLU, length_drop → bLV, map_append → bLW, map_cons → bLX, getElem_of_mem → bMA, getElem_map → bMC, length_nil → bMD, nodup_append → bME, take_append_drop → bMF, getElem?_append_left → bMH, mem_of_getElem? → bMK, nil_append → bML, getElem?_take_of_lt → bMO, getElem?_take → bMY, set_append_right → bMZ, contains_iff_mem → bNE, drop_of_length_le → bNF, flatten_cons → bNG, getElem?_drop → bNH, length_replicate → bNI, eq_nil_of_length_eq_zero → bNJ
open Nat renaming le_refl → bJV, gcd → bJY, zero_le → bKF, mul_add → bKG, lt_or_ge → bKM, zero_add → bKN, mul_assoc → bKP, mul_comm → bKT, add_mul → bKY, mul_le_mul_right → bLA, mod_eq_of_lt → bLE, mod_lt → bLJ, add_zero → bLL, pow_succ → bLN, min_eq_left → bLY, mul_le_mul_left → bLZ, pos_of_ne_zero → bMB, add_assoc → bMG, sub_self → bMI, pow_pos → bMM, div_lt_iff_lt_mul → bMP, le_trans → bMQ, eq_zero_or_pos → bMT, div_add_mod → bNA, div_eq_of_lt → bNB
open Bool renaming false_and → bJZ, not_true → bKC, true_and → bKE, not_false → bKI, and_eq_true → bKR, and_false → bLC, and_true → bLT, and_assoc → bMS, false_eq_true → bMU
open Option renaming map_eq_some_iff → bKB, map_some → bLF, getD_some → bMJ, some → bMN, bind_eq_some_iff → bMV, bind_some → bNC
open Array renaming replicate → bLO, length_toList → bMR, getElem?_eq_getElem → bMW, getElem?_eq_some_iff → bND
open Int renaming toNat_natCast → bMX
namespace Go.Proofs
open Go.Shelf
def Tryz.aDB:Go.Shelf.Ren:=⟨fun | 189=>38 | 125=>54 | 257=>53 | 128=>75 | 129=>76 | 294=>66 | 295=>67 | 296=>68 | 297=>69 | 298=>70 | 299=>71 | 216=>72 | 300=>73 | 301=>74 | 328=>100 | 329=>101 | 330=>102 | 331=>103 | 332=>104 | 215=>105 | 343=>138 | n=>n,fun | 28=>22 | 3=>3 | 46=>108 | 0=>0 | 51=>131 | 53=>133 | 4=>4 | 183=>125 | 182=>124 | 131=>73 | 5=>5 | 9=>9 | 218=>150 | 222=>154 | 228=>178 | 229=>179 | n=>n,fun | n=>n⟩
theorem Tryz.aDA:Go.Proofs.Lays.n189 Tryz.prog Tryz.aDB:={
 mixed:=by kernel_rfl
 f125:=Tryz.func54.trans (congrArg some (by kernel_rfl))
 f128:=Tryz.func75.trans (congrArg some (by kernel_rfl))
 f129:=Tryz.func76.trans (congrArg some (by kernel_rfl))
 f189:=Tryz.func38.trans (congrArg some (by kernel_rfl))
 f215:=Tryz.func105.trans (congrArg some (by kernel_rfl))
 f216:=Tryz.func72.trans (congrArg some (by kernel_rfl))
 f257:=Tryz.func53.trans (congrArg some (by kernel_rfl))
 f294:=Tryz.func66.trans (congrArg some (by kernel_rfl))
 f295:=Tryz.func67.trans (congrArg some (by kernel_rfl))
 f296:=Tryz.func68.trans (congrArg some (by kernel_rfl))
 f297:=Tryz.func69.trans (congrArg some (by kernel_rfl))
 f298:=Tryz.func70.trans (congrArg some (by kernel_rfl))
 f299:=Tryz.func71.trans (congrArg some (by kernel_rfl))
 f300:=Tryz.func73.trans (congrArg some (by kernel_rfl))
 f301:=Tryz.func74.trans (congrArg some (by kernel_rfl))
 f328:=Tryz.func100.trans (congrArg some (by kernel_rfl))
 f329:=Tryz.func101.trans (congrArg some (by kernel_rfl))
 f330:=Tryz.func102.trans (congrArg some (by kernel_rfl))
 f331:=Tryz.func103.trans (congrArg some (by kernel_rfl))
 f332:=Tryz.func104.trans (congrArg some (by kernel_rfl))
 f343:=Tryz.func138.trans (congrArg some (by kernel_rfl))
 t0:=Tryz.underlying0
 a0:=Tryz.isAgg0
 z0:=Tryz.sizeOf0
 v0:=Tryz.zeroValue0
 t3:=Tryz.underlying3
 a3:=Tryz.isAgg3
 z3:=Tryz.sizeOf3
 v3:=Tryz.zeroValue3
 t4:=Tryz.underlying4
 a4:=Tryz.isAgg4
 z4:=Tryz.sizeOf4
 v4:=Tryz.zeroValue4
 t5:=Tryz.underlying5
 a5:=Tryz.isAgg5
 z5:=Tryz.sizeOf5
 v5:=Tryz.zeroValue5
 t9:=Tryz.underlying9
 a9:=Tryz.isAgg9
 z9:=Tryz.sizeOf9
 v9:=Tryz.zeroValue9
 t28:=Tryz.underlying22
 a28:=Tryz.isAgg22
 z28:=Tryz.sizeOf22
 v28:=Tryz.zeroValue22
 t46:=Tryz.underlying108
 a46:=Tryz.isAgg108
 z46:=Tryz.sizeOf108
 v46:=Tryz.zeroValue108
 t51:=Tryz.underlying131
 a51:=Tryz.isAgg131
 z51:=Tryz.sizeOf131
 v51:=Tryz.zeroValue131
 t53:=Tryz.underlying133
 a53:=Tryz.isAgg133
 z53:=Tryz.sizeOf133
 v53:=Tryz.zeroValue133
 t131:=Tryz.underlying73
 a131:=Tryz.isAgg73
 z131:=Tryz.sizeOf73
 v131:=Tryz.zeroValue73
 t182:=Tryz.underlying124
 a182:=Tryz.isAgg124
 z182:=Tryz.sizeOf124
 v182:=Tryz.zeroValue124
 t183:=Tryz.underlying125
 a183:=Tryz.isAgg125
 z183:=Tryz.sizeOf125
 v183:=Tryz.zeroValue125
 t218:=Tryz.underlying150
 a218:=Tryz.isAgg150
 z218:=Tryz.sizeOf150
 v218:=Tryz.zeroValue150
 t222:=Tryz.underlying154
 a222:=Tryz.isAgg154
 z222:=Tryz.sizeOf154
 v222:=Tryz.zeroValue154
 t228:=Tryz.underlying178
 a228:=Tryz.isAgg178
 z228:=Tryz.sizeOf178
 v228:=Tryz.zeroValue178
 t229:=Tryz.underlying179
 a229:=Tryz.isAgg179
 z229:=Tryz.sizeOf179
 v229:=Tryz.zeroValue179 }
def Tryz.adL:Go.Shelf.Ren:=⟨fun | 20=>39 | n=>n,fun | 22=>22 | 3=>3 | 4=>4 | 0=>0 | n=>n,fun | n=>n⟩
theorem Tryz.TR:Go.Proofs.Lays2.n20 Tryz.prog Tryz.adL:={
 mixed:=by kernel_rfl
 f20:=Tryz.func39.trans (congrArg some (by kernel_rfl))
 t0:=Tryz.underlying0
 a0:=Tryz.isAgg0
 z0:=Tryz.sizeOf0
 v0:=Tryz.zeroValue0
 t3:=Tryz.underlying3
 a3:=Tryz.isAgg3
 z3:=Tryz.sizeOf3
 v3:=Tryz.zeroValue3
 t4:=Tryz.underlying4
 a4:=Tryz.isAgg4
 z4:=Tryz.sizeOf4
 v4:=Tryz.zeroValue4
 t22:=Tryz.underlying22
 a22:=Tryz.isAgg22
 z22:=Tryz.sizeOf22
 v22:=Tryz.zeroValue22
 i3:=by kernel_rfl }
end Go.Proofs
theorem Om {p:Prop} (h:p:=by omega):p:=h
namespace Go.PM
open Go
inductive PV where
 | int (k:IntKind) (n:Int)
 | bool (b:Bool)
 | str (s:List UInt8)
 | aB
 | sl (size:Nat) (rows:List (List PV))
 | osl (o size off len:Nat)
 | ptr (o size i c:Nat)
 | bH (cells:List PV)
 | map (o:Nat)
 | fn (name:Nat) (captured:List PV)
 | agg (cells:List PV)
 | tup (vs:List PV)
 | lit (v:Value)
 | junk
 deriving Inhabited
inductive KSh where
 | int (k:IntKind)
 | bool
 | str
 deriving DecidableEq,Inhabited
inductive KS where
 | int (k:IntKind) (n:Int)
 | bool (b:Bool)
 | str (s:List UInt8)
 deriving DecidableEq,Inhabited
def KS.sh:KS→KSh
 | .int k _=>.int k
 | .bool _=>.bool
 | .str _=>.str
def KS.val:KS→Value
 | .int k n=>.int k n
 | .bool b=>.bool b
 | .str s=>.string ⟨s.toArray⟩
abbrev MSh:=Bool × List KSh
def fO (sh:MSh) (k:List KS):Value:=if sh.1 then .agg (k.map KS.val).toArray else (k.map KS.val).headD undef
abbrev fG:=List KS→Option PV
def fG.upd (g:fG) (k:List KS) (v:PV):fG:=fun j=>if j=k then some v else g j
def lN (k:List KS):List (List KS × PV)→Nat→Option (Nat × PV)
 | [],_=>none
 | e::es,i=>if e.1=k then some (i,e.2) else lN k es (i+1)
def mapOf (L:List (List KS × PV)):fG:=fun k=>(lN k L 0).map (·.2)
open Classical in
noncomputable def fG.aZO (g:fG):Nat:=if h:∃ ks:List (List KS),ks.Nodup∧∀ k,k∈ks↔(g k).isSome=true then h.choose.length else 0
theorem fG.blE {g:fG} {ks:List (List KS)} (h1:ks.Nodup) (h2:∀ k,k∈ks↔(g k).isSome=true):g.aZO=ks.length:=by
 have h:∃ ks:List (List KS),ks.Nodup∧∀ k,k∈ks↔(g k).isSome=true:=⟨ks,h1,h2⟩
 unfold fG.aZO
 rw[dif_pos h]
 exact ((List.perm_ext_iff_of_nodup h.choose_spec.1 h1).2 fun k=>(h.choose_spec.2 k).trans (h2 k).symm).length_eq
theorem FY (k:List KS):∀ (L:List (List KS × PV)) (i:Nat),(lN k L i).isSome=true↔k∈L.map (·.1)
 | [],i=>by simp[lN]
 | e::es,i=>by
  unfold lN
  by_cases h:e.1=k
  ·simp[h]
  ·rw[if_neg h,FY k es,bLX,bKJ]
   exact⟨.inr,fun h2=>h2.resolve_left fun e2=>h e2.symm⟩
theorem a1M {L:List (List KS × PV)} (h:(L.map (·.1)).Nodup):(mapOf L).aZO=L.length:=by
 rw[fG.blE h fun k=>?_,bJT]
 rw[← FY k L 0]
 unfold mapOf
 simp
inductive cP where
 | rows (size:Nat) (rs:List (List PV))
 | map (sh:MSh) (g:fG)
 | dead
def upd {α:Type} (f:Nat→Option α) (i:Nat) (v:Option α):Nat→Option α:=fun j=>if j=i then v else f j
theorem QH {α:Type} (f:Nat→Option α) {i j:Nat} (v:Option α) (h:j≠i):upd f i v j=f j:=by simp[upd,h]
theorem bjA {α:Type} (f:Nat→Option α) {i j:Nat} (v u:Option α) (h:i≠j):upd (upd f i v) j u=upd (upd f j u) i v:=by
 funext k
 simp only[upd]
 by_cases h1:k=j
 ·by_cases h2:k=i
  ·omega
  ·simp[h1]
   intro h3; omega
 ·simp[h1]
abbrev PF:=Nat→Option PV
def PF.nil:PF:=fun _=>none
def PF.set (F:PF) (i:Nat) (v:PV):PF:=upd F i (some v)
def PF.le (F G:PF):Prop:=∀ i v,F i=some v→G i=some v
structure PH where
 f:Nat→Option cP
 fin:∃ n,∀ o,n≤o→f o=none
instance:CoeFun PH (fun _=>Nat→Option cP):=⟨PH.f⟩
theorem PH.ext {H K:PH} (h:∀ o,H.f o=K.f o):H=K:=by
 cases H; cases K
 have:‹Nat→Option cP›=‹Nat→Option cP›:=rfl
 congr
 exact funext h
def PH.nil:PH:=⟨fun _=>none,0,fun _ _=>rfl⟩
def PH.upd (H:PH) (o:Nat) (x:Option cP):PH :=
 ⟨PM.upd H.f o x,by
  obtain⟨n,hn⟩:=H.fin
  refine⟨max n (o+1),fun q hq=>?_⟩
  rw[QH _ _ Om]
  exact hn q Om⟩
def PH.set (H:PH) (o:Nat) (x:cP):PH:=H.upd o (some x)
def PH.le (H K:PH):Prop:=∀ o x,H o=some x→K o=some x
def PH.eJ (H H0 H1:PH):PH :=
 ⟨fun o=>match H1 o with
  | some x=>some x
  | none=>match H0 o with
   | some _=>some .dead
   | none=>H o,by
  obtain⟨n,hn⟩:=H.fin
  obtain⟨n0,h0⟩:=H0.fin
  obtain⟨n1,h1⟩:=H1.fin
  refine⟨max n (max n0 n1),fun o ho=>?_⟩
  simp only[h1 o Om,h0 o Om,hn o Om]⟩
theorem PH.fresh (H:PH):∃ o,H o=none:=by
 obtain⟨n,hn⟩:=H.fin
 exact⟨n,hn n (bJV _)⟩
def at2 (rows:List (List PV)) (i j:Nat):Option PV:=rows[i]?.bind (·[j]?)
structure Env where
 G:Nat→Option (Array Value)
 sz:Nat→Option Nat
 num:Nat→FuncId
def Env.cell (E:Env) (b off:Nat):Option Value:=(E.G b).bind (·[off]?)
structure Env.le (E E':Env):Prop where
 g:∀ b cs,E.G b=some cs→E'.G b=some cs
 s:∀ b n,E.sz b=some n→E'.sz b=some n
 num:E'.num=E.num
theorem Env.le.refl (E:Env):E.le E:=⟨fun _ _ h=>h,fun _ _ h=>h,rfl⟩
theorem Env.le.trans {A B C:Env} (h:A.le B) (k:B.le C):A.le C :=
 ⟨fun b cs e=>k.g _ _ (h.g _ _ e),fun b n e=>k.s _ _ (h.s _ _ e),k.num.trans h.num⟩
theorem Env.le.cell {E E':Env} (h:E.le E') {b off:Nat} {u:Value} (hc:E.cell b off=some u):E'.cell b off=some u:=by
 unfold Env.cell at *
 cases hg:E.G b with
 | none=>simp[hg] at hc
 | some cs=>rw[hg] at hc; rw[h.g _ _ hg]; exact hc
inductive aY (E:Env):PV→Value→Prop
 | int (k:IntKind) (n:Int):aY E (.int k n) (.int k n)
 | bool (b:Bool):aY E (.bool b) (.bool b)
 | str (s:ByteArray):aY E (.str s.data.toList) (.string s)
 | aB:aY E .aB (.slice none 0 0)
 | sl {size:Nat} {rows:List (List PV)} {a:Option Addr} {cap:Nat} (u:Nat→Nat→Value) (hcap:rows.length≤cap) (bJK:cap≤maxLen)
   (hs:∀ r∈rows,r.length=size)
   (ha:rows≠[]→∃ ad,a=some ad∧ad.spot=none∧∀ i j pv,at2 rows i j=some pv→E.cell ad.block (ad.off+i*size+j)=some (u i j))
   (h1:∀ i j,(u i j).oneCell'=true) (hr:∀ i j pv,at2 rows i j=some pv→aY E pv (u i j)):aY E (.sl size rows) (.slice a rows.length cap)
 | osl {o size off len cap n:Nat} {a:Addr} (hb:a.block=o) (hsp:a.spot=none) (bJP:cap=0∨a.off=off*size) (hlen:len≤cap) (bJK:cap≤maxLen)
   (hn:E.sz o=some n) (bIV:off*size+cap*size≤n):aY E (.osl o size off len) (.slice (some a) len cap)
 | ptr (o size i c:Nat):aY E (.ptr o size i c) (.pointer (some ⟨o,i*size+c,none⟩))
 | bH {cells:List PV} {ad:Addr} (u:Nat→Value) (hsp:ad.spot=none) (hc:∀ (j:Nat) pv,cells[j]?=some pv→E.cell ad.block (ad.off+j)=some (u j))
   (h1:∀ (j:Nat),(u j).oneCell'=true) (hr:∀ (j:Nat) pv,cells[j]?=some pv→aY E pv (u j)):aY E (.bH cells) (.pointer (some ad))
 | map (o:Nat):aY E (.map o) (.map (some o))
 | fn {name:Nat} {captured:List PV} (vc:Array Value) (hl:vc.size=captured.length)
   (hr:∀ (j:Nat) pv v,captured[j]?=some pv→vc[j]?=some v→aY E pv v):aY E (.fn name captured) (.func (.func (E.num name)) #[] vc)
 | agg {cells:List PV} (vs:Array Value) (hl:vs.size=cells.length) (h1:∀ v∈vs.toList,v.oneCell'=true)
   (hr:∀ (j:Nat) pv v,cells[j]?=some pv→vs[j]?=some v→aY E pv v):aY E (.agg cells) (.agg vs)
 | tup {ps:List PV} (vs:Array Value) (hl:vs.size=ps.length)
   (hr:∀ (j:Nat) pv v,ps[j]?=some pv→vs[j]?=some v→aY E pv v):aY E (.tup ps) (.tuple vs)
 | lit (v:Value):aY E (.lit v) v
 | junk (v:Value):aY E .junk v
theorem aY.mono {E E':Env} (h:E.le E') {pv:PV} {v:Value} (r:aY E pv v):aY E' pv v:=by
 induction r with
 | int=>exact .int _ _
 | bool=>exact .bool _
 | str=>exact .str _
 | aB=>exact .aB
 | sl u hcap bJK hs ha h1 _ ih =>
  refine .sl u hcap bJK hs (fun hne=>?_) h1 ih
  obtain⟨ad,e,sp,hc⟩:=ha hne
  exact⟨ad,e,sp,fun i j pv hp=>h.cell (hc i j pv hp)⟩
 | osl hb hsp bJP hlen bJK hn bIV=>exact .osl hb hsp bJP hlen bJK (h.s _ _ hn) bIV
 | ptr=>exact .ptr _ _ _ _
 | bH u hsp hc h1 _ ih=>exact .bH u hsp (fun j pv hp=>h.cell (hc j pv hp)) h1 ih
 | map=>exact .map _
 | fn vc hl _ ih=>rw[← h.num]; exact .fn vc hl ih
 | agg vs hl h1 _ ih=>exact .agg vs hl h1 ih
 | tup vs hl _ ih=>exact .tup vs hl ih
 | lit=>exact .lit _
 | junk=>exact .junk _
def akN (E:Env) (w:World) (o:Nat):cP→Prop
 | .rows size rs=>∃ cur ty,w.heap[o]?=some (.cells cur ty (0,0))∧E.sz o=some cur.size∧(∀ r∈rs,r.length=size)∧rs.length*size≤cur.size ∧
   ∀ i j pv,at2 rs i j=some pv→∃ u,cur[i*size+j]?=some u∧u.oneCell'=true∧aY E pv u
 | .map sh g=>∃ es' clock L,w.heap[o]?=some (.map es' clock)∧(es'.size=L.length∧(L.map (·.1)).Nodup)∧g=mapOf L ∧
   ∀ (i:Nat) e e',L[i]?=some e→es'[i]?=some e'→e.1.map KS.sh=sh.2∧e'.key=fO sh e.1∧aY E e.2 e'.val
 | .dead=>True
theorem akN.mono {E E':Env} (h:E.le E') {w w':World} {o:Nat} (hw:w'.heap[o]?=w.heap[o]?) {x:cP} (r:akN E w o x):akN E' w' o x:=by
 cases x with
 | rows size rs =>
  obtain⟨cur,ty,h1,h2,h3,h4,h5⟩:=r
  refine⟨cur,ty,hw.trans h1,h.s _ _ h2,h3,h4,fun i j pv hp=>?_⟩
  obtain⟨u,a,b,c⟩:=h5 i j pv hp
  exact⟨u,a,b,c.mono h⟩
 | map sh g =>
  obtain⟨es',clock,L,h1,h2,h3,h4⟩:=r
  exact⟨es',clock,L,hw.trans h1,h2,h3,fun i e e' a b=>⟨(h4 i e e' a b).1,(h4 i e e' a b).2.1,(h4 i e e' a b).2.2.mono h⟩⟩
 | dead=>trivial
structure bM (E:Env) (H:PH) (w:World):Prop where
 g:∀ b cs,E.G b=some cs→(∀ x,H b=some x→x=.dead)∧∃ ty fr,w.heap[b]?=some (.cells cs ty fr)
 h:∀ o x,H o=some x→o<w.heap.size∧akN E w o x
 s:∀ o n,E.sz o=some n→∃ cur ty fr,w.heap[o]?=some (.cells cur ty fr)∧cur.size=n
theorem bM.weaken {E:Env} {H H0:PH} {w:World} (h:bM E H w) (hle:H0.le H):bM E H0 w:=by
 exact⟨fun b cs hb=>⟨fun x hx=>(h.g b cs hb).1 x (hle b x hx),(h.g b cs hb).2⟩,fun o x ho=>h.h o x (hle o x ho),h.s⟩
structure Ext (E:Env) (H:PH) (w:World) (E':Env) (H':PH) (w':World):Prop where
 env:E.le E'
 os:w'.os=w.os
 tape:w'.tape=w.tape
 output:w'.output=w.output
 size:w.heap.size≤w'.heap.size
 block:∀ b,b<w.heap.size→H b=none→w'.heap[b]?=w.heap[b]?
 new:∀ o x,H' o=some x→(∃ y,H o=some y)∨w.heap.size≤o
 newG:∀ b cs,E'.G b=some cs→E.G b=some cs∨(∃ y,H b=some y)∨w.heap.size≤b
theorem Ext.refl (E:Env) (H:PH) (w:World):Ext E H w E H w :=
 ⟨.refl E,rfl,rfl,rfl,bJV _,fun _ _ _=>rfl,fun _ x h=>.inl ⟨x,h⟩,fun _ _ h=>.inl h⟩
theorem Ext.trans {E1 E2 E3:Env} {H1 H2 H3:PH} {w1 w2 w3:World} (h:Ext E1 H1 w1 E2 H2 w2) (k:Ext E2 H2 w2 E3 H3 w3):Ext E1 H1 w1 E3 H3 w3:=by
 refine⟨h.env.trans k.env,k.os.trans h.os,k.tape.trans h.tape,k.output.trans h.output,bMQ h.size k.size,fun b hb hn=>?_,fun o x ho=>?_,fun b cs hb=>?_⟩
 ·have h2:H2 b=none:=by
   cases e:H2 b with
   | none=>rfl
   | some x =>
    rcases h.new b x e with ⟨y,hy⟩ | hl
    ·rw[hn] at hy; cases hy
    ·omega
  rw[k.block b (by have:=h.size; omega) h2,h.block b hb hn]
 ·rcases k.new o x ho with ⟨y,hy⟩ | hl
  ·exact h.new o y hy
  ·exact .inr (bMQ h.size hl)
 ·rcases k.newG b cs hb with h1 | ⟨y,hy⟩ | hl
  ·exact h.newG b cs h1
  ·exact .inr (h.new b y hy)
  ·exact .inr (.inr (bMQ h.size hl))
theorem Ext.drop {E E':Env} {H H' H0:PH} {w w':World} (h:Ext E H w E' H' w') (hle:H0.le H'):Ext E H w E' H0 w' :=
 ⟨h.env,h.os,h.tape,h.output,h.size,h.block,fun o x ho=>h.new o x (hle o x ho),h.newG⟩
theorem Ext.narrow {E E':Env} {H H' H0:PH} {w w':World} (h:Ext E H0 w E' H' w') (hle:H0.le H):Ext E H w E' (H.eJ H0 H') w':=by
 refine⟨h.env,h.os,h.tape,h.output,h.size,fun b hb hn=>h.block b hb ?_,fun o x ho=>?_,fun b cs hb=>?_⟩
 ·cases e:H0 b with
  | none=>rfl
  | some x=>have:=hle b x e; rw[hn] at this; cases this
 ·unfold PH.eJ at ho
  simp only at ho
  split at ho
  ·rename_i y hy
   rcases h.new o y hy with ⟨z,hz⟩ | hl
   ·exact .inl ⟨z,hle o z hz⟩
   ·exact .inr hl
  ·split at ho
   ·rename_i y hy
    exact .inl ⟨y,hle o y hy⟩
   ·exact .inl ⟨x,ho⟩
 ·rcases h.newG b cs hb with h1 | ⟨y,hy⟩ | hl
  ·exact .inl h1
  ·exact .inr (.inl ⟨y,hle b y hy⟩)
  ·exact .inr (.inr hl)
theorem bM.eJ {E E':Env} {H H' H0:PH} {w w':World} (hW:bM E H w) (h:Ext E H0 w E' H' w') (hle:H0.le H) (hW':bM E' H' w'):bM E' (H.eJ H0 H') w':=by
 have keep:∀ o x,H o=some x→H0 o=none→o<w'.heap.size∧akN E' w' o x:=by
  intro o x ho h0
  obtain⟨hlt,bJO⟩:=hW.h o x ho
  exact⟨Nat.lt_of_lt_of_le hlt h.size,bJO.mono h.env (h.block o hlt h0)⟩
 refine⟨fun b cs hb=>⟨?_,(hW'.g b cs hb).2⟩,fun o x ho=>?_,hW'.s⟩
 ·intro x hx
  unfold PH.eJ at hx
  simp only at hx
  split at hx
  ·rename_i y hy
   cases hx
   exact (hW'.g b cs hb).1 _ hy
  ·split at hx
   ·cases hx; rfl
   ·rename_i h0
    rcases h.newG b cs hb with hE | ⟨y,hy⟩ | hl
    ·exact (hW.g b cs hE).1 x hx
    ·rw[h0] at hy; cases hy
    ·have:=(hW.h b x hx).1; omega
 ·unfold PH.eJ at ho
  simp only at ho
  split at ho
  ·rename_i y hy
   cases ho
   exact hW'.h o _ hy
  ·split at ho
   ·rename_i y hy
    cases ho
    exact⟨Nat.lt_of_lt_of_le (hW.h o y (hle o y hy)).1 h.size,trivial⟩
   ·rename_i h0
    exact keep o x ho h0
inductive aP where
 | tmp (t:Nat)
 | const (v:PV)
 deriving Inhabited
def aP.ev (F:PF):aP→Option PV
 | .tmp t=>F t
 | .const v=>some v
def aP.evs (F:PF):List aP→Option (List PV)
 | []=>some []
 | x::xs=>match x.ev F,aP.evs F xs with
  | some v,some vs=>some (v::vs)
  | _,_=>none
inductive Sc where
 | int | bool | str
 deriving Inhabited,DecidableEq
inductive POp where
 | mv (x:aP)
 | pick (c a b:aP)
 | bin (op:BinOp) (x y:aP)
 | eqb (neg:Bool) (x y:aP)
 | eqs (neg:Bool) (ks:List Sc) (x y:aP)
 | un (op:UnOp) (x:aP)
 | conv (k:IntKind) (x:aP)
 | same (x:aP)
 | alloc (cells:List PV)
 | box (ro:Bool) (x:aP)
 | build (zero:List PV) (parts:List (Nat × Nat × aP))
 | bHV (ro:Bool) (size len:Nat) (zero:List PV) (parts:List (Nat × aP))
 | load (n:Option Nat) (p:aP)
 | store (n:Nat) (p x:aP)
 | bIE (x:aP)
 | bJB (off:Nat) (x:aP)
 | field (off:Nat) (n:Option Nat) (x:aP)
 | bIK (size:Nat) (x i:aP)
 | idxA (n size:Nat) (x i:aP)
 | idxV (n size:Nat) (ag:Bool) (x i:aP)
 | bIY (x i:aP)
 | slice (size:Nat) (x:aP) (lo hi mx:Option aP)
 | bIS (x:aP) (lo hi:Option aP)
 | sliceA (n size:Nat) (x:aP) (lo hi mx:Option aP)
 | len (x:aP)
 | bIX (x:aP)
 | bJR (x:aP)
 | lenM (x:aP)
 | isNil (n:Bool) (x:aP)
 | extract (x:aP) (i:Nat)
 | bHZ (size bytes:Nat) (zero:List PV) (l c:aP)
 | append (size bytes:Nat) (x y:aP)
 | bIQ (mx:Bool) (x y:aP)
 | mkfn (name:Nat) (captured:List aP)
 | bJL (sh:MSh)
 | lookup (sh:MSh) (zero:PV) (x k:aP) (ok:Bool)
 | bIN (sh:MSh) (x k v:aP)
 | insert (sh:MSh) (x k v:aP)
 | stuck
 | bIF (x:aP)
 | str2bytes (x:aP)
 | call (name:Nat) (args:List aP)
 | bJA (x:aP) (args:List aP)
 deriving Inhabited
structure bC where
 dst:Option Nat
 op:POp
 guard:Option (Nat × Bool)
 deriving Inhabited
inductive aC where
 | skip
 | region (ops:List bC)
 | draw (ops:List (bC × Bool))
 | seq (a b:aC)
 | cond (c:aP) (a b:aC)
 | block (id:Nat) (c:aC)
 | loop (c:aC)
 | exit (id:Nat)
 | ret
 deriving Inhabited
inductive dQ where
 | tmp (t:Nat)
 | cell (t:Nat) (n:Option Nat)
 deriving Inhabited
structure aW where
 nparams:Nat
 ntmps:Nat
 body:aC
 res:List dQ
 deriving Inhabited
def PV.cells:PV→List PV
 | .agg cs=>cs
 | v=>[v]
def PV.one:PV→Bool
 | .agg _ | .tup _ | .junk | .lit (.agg _) | .lit (.tuple _)=>false
 | _=>true
def setCells (r:List PV) (c:Nat):List PV→List PV
 | []=>r
 | v::vs=>setCells (r.set c v) (c+1) vs
def loadCells (H:PH) (p:PV) (n:Nat):Option (List PV) :=
 match p with
 | .ptr o size i c=>match H o with
  | some (.rows s rs)=>if s=size then match rs[i]? with
    | some r=>if c+n≤r.length then some ((r.drop c).take n) else none
    | none=>none
   else none
  | _=>none
 | .bH cells=>if n≤cells.length then some (cells.take n) else none
 | _=>none
def jT (op:BinOp) (k:IntKind) (a b:Int):Option PV :=
 match op with
 | .add=>some (.int k (k.wrap (a+b)))
 | .sub=>some (.int k (k.wrap (a-b)))
 | .mul=>some (.int k (k.wrap (a*b)))
 | .quo=>if b=0 then none else some (.int k (k.wrap (a.tdiv b)))
 | .rem=>if b=0 then none else some (.int k (a.tmod b))
 | .and=>some (.int k (k.wrap (BitVec.ofInt k.bits a &&& BitVec.ofInt k.bits b).toNat))
 | .or=>some (.int k (k.wrap (BitVec.ofInt k.bits a ||| BitVec.ofInt k.bits b).toNat))
 | .xor=>some (.int k (k.wrap (BitVec.ofInt k.bits a ^^^ BitVec.ofInt k.bits b).toNat))
 | .andNot=>some (.int k (k.wrap (BitVec.ofInt k.bits a &&& ~~~ BitVec.ofInt k.bits b).toNat))
 | .eql=>some (.bool (a==b))
 | .neq=>some (.bool (a != b))
 | .lss=>some (.bool (decide (a<b)))
 | .leq=>some (.bool (decide (a≤b)))
 | .gtr=>some (.bool (decide (a>b)))
 | .geq=>some (.bool (decide (a≥b)))
 | .shl | .shr=>none
def LH (op:BinOp) (a b:List UInt8):Option PV :=
 match op with
 | .add=>if ((a.length+b.length:Nat):Int)>IntKind.i64.max then none else some (.str (a++b))
 | .eql=>some (.bool (a==b))
 | .neq=>some (.bool !(a==b))
 | .lss=>some (.bool (Op.bytesLess a b))
 | .leq=>some (.bool (Op.bytesLess a b||a==b))
 | .gtr=>some (.bool !(Op.bytesLess a b||a==b))
 | .geq=>some (.bool !(Op.bytesLess a b))
 | _=>none
def shift (op:BinOp) (k:IntKind) (a b:Int):Option PV :=
 if b<0 then none else
 match op with
 | .shl=>some (.int k (k.wrap (a*2 ^ (min b.toNat k.bits))))
 | .shr=>some (.int k (a.fdiv (2 ^ (min b.toNat k.bits))))
 | _=>none
def PV.bin (op:BinOp) (x y:PV):Option PV :=
 match op,x,y with
 | .shl,.int k a,.int _ b=>shift .shl k a b
 | .shr,.int k a,.int _ b=>shift .shr k a b
 | op,.int k a,.int k' b=>if k=k' then jT op k a b else none
 | op,.str a,.str b=>LH op a b
 | _,_,_=>none
def PV.eq1:Sc→PV→PV→Option Bool
 | .int,.int k a,.int k' b=>if k=k' then some (a==b) else none
 | .bool,.bool a,.bool b=>some (a==b)
 | .str,.str a,.str b=>some (a==b)
 | _,_,_=>none
def PV.eqs:List Sc→List PV→List PV→Option Bool
 | [],[],[]=>some true
 | k::ks,x::xs,y::ys=>match PV.eq1 k x y with
  | some true=>PV.eqs ks xs ys
  | some false=>if xs.length=ks.length∧ys.length=ks.length then some false else none
  | none=>none
 | _,_,_=>none
def PV.un (op:UnOp):PV→Option PV
 | .int k n=>match op with
  | .neg=>some (.int k (k.wrap (0-n)))
  | .xor=>some (.int k (k.wrap (BitVec.ofInt k.bits (if k.signed then -1 else k.max) ^^^ BitVec.ofInt k.bits n).toNat))
  | _=>none
 | .bool b=>match op with
  | .not=>some (.bool !b)
  | _=>none
 | _=>none
def PV.intOf:PV→Option Int
 | .int _ n=>some n
 | _=>none
def nH (cells:List PV) (F:PF):List (Nat × Nat × aP)→Option (List PV)
 | []=>some cells
 | (off,size,x)::rest=>match x.ev F with
  | some v=>if v.cells.length=size∧off+size≤cells.length∧v.cells.all PV.one then nH (setCells cells off v.cells) F rest else none
  | none=>none
def fU (size:Nat) (rows:List (List PV)) (F:PF):List (Nat × aP)→Option (List (List PV))
 | []=>some rows
 | (i,x)::rest=>match x.ev F with
  | some v=>if v.cells.length=size∧i<rows.length∧v.cells.all PV.one then fU size (rows.set i v.cells) F rest else none
  | none=>none
def dU (H:PH) (size:Nat):PV→Option (List (List PV))
 | .aB=>some []
 | .sl s rows=>if s=size then some rows else none
 | .osl o s off len=>if s=size then match H o with
   | some (.rows s' rs)=>if s'=s∧off+len≤rs.length then some ((rs.drop off).take len) else none
   | _=>none
  else none
 | _=>none
def bnd (F:PF) (d:Int):Option aP→Option Int
 | none=>some d
 | some x=>(x.ev F).bind PV.intOf
def PV.slice (size:Nat) (x:PV) (l h:Int) (mx:Option Int):Option PV :=
 match x with
 | .aB=>if l=0∧h=0∧(mx=none∨mx=some 0) then some .aB else none
 | .sl s rows=>if s=size∧0≤l∧l≤h∧h≤rows.length∧(mx=none∨mx=some h) then some (.sl s ((rows.take h.toNat).drop l.toNat)) else none
 | .osl o s off len=>if s=size∧0≤l∧l≤h∧h≤len∧(mx=none∨mx=some h) then some (.osl o s (off+l.toNat) (h.toNat-l.toNat)) else none
 | _=>none
def PV.DC:PV→Option Bool
 | .aB=>some true
 | .osl _ _ _ _=>some false
 | .sl _ (_::_)=>some false
 | _=>none
def KS.of:PV→Option KS
 | .int k n=>some (.int k n)
 | .bool b=>some (.bool b)
 | .str s=>some (.str s)
 | _=>none
def KS.ofs:List PV→Option (List KS)
 | []=>some []
 | v::vs=>match KS.of v,KS.ofs vs with
  | some k,some ks=>some (k::ks)
  | _,_=>none
def keyOf (sh:MSh) (v:PV):Option (List KS) :=
 match sh.1,v with
 | true,.agg cs=>(KS.ofs cs).bind fun k=>if k.map KS.sh=sh.2 then some k else none
 | false,v=>(KS.of v).bind fun k=>if [k.sh]=sh.2 then some [k] else none
 | _,_=>none
def chunks (size:Nat):Nat→List PV→List (List PV)
 | 0,_=>[]
 | n+1,cs=>cs.take size::chunks size n (cs.drop size)
def pB:List (List PV)→Option (List UInt8)
 | []=>some []
 | [.int .u8 n]::rest=>(pB rest).map (UInt8.ofNat n.toNat::·)
 | _=>none
def PV.uA:PV→Option PV
 | .aB=>some (.int .i64 0)
 | .sl _ rows=>some (.int .i64 rows.length)
 | .osl _ _ _ n=>some (.int .i64 n)
 | _=>none
noncomputable def aO (op:POp) (F:PF) (H:PH):Option PV :=
 match op with
 | .mv x=>x.ev F
 | .same x=>match x.ev F with
  | some (.str s)=>some (.str s)
  | _=>none
 | .pick c a b=>match c.ev F,a.ev F,b.ev F with
  | some (.bool t),x,y=>if t then x else y
  | _,_,_=>none
 | .bin op x y=>match x.ev F,y.ev F with
  | some a,some b=>PV.bin op a b
  | _,_=>none
 | .eqb neg x y=>match x.ev F,y.ev F with
  | some (.bool a),some (.bool b)=>some (.bool ((a==b) != neg))
  | _,_=>none
 | .eqs neg ks x y=>match x.ev F,y.ev F with
  | some (.agg xs),some (.agg ys)=>(PV.eqs ks xs ys).map fun b=>.bool (b != neg)
  | _,_=>none
 | .un op x=>match x.ev F with
  | some a=>PV.un op a
  | none=>none
 | .conv k x=>match x.ev F with
  | some (.int _ n)=>some (.int k (k.wrap n))
  | _=>none
 | .box true x=>match x.ev F with
  | some v=>if v.cells.all PV.one then some (.bH v.cells) else none
  | none=>none
 | .build zero parts=>(nH zero F parts).map .agg
 | .bHV true size len zero parts=>if zero.length=size∧len*size≤16777216 then (fU size (bJW len zero) F parts).map (.sl size) else none
 | .load none p=>match p.ev F with
  | some a=>match loadCells H a 1 with
   | some [v]=>some v
   | _=>none
  | none=>none
 | .load (some n) p=>match p.ev F with
  | some a=>(loadCells H a n).map .agg
  | none=>none
 | .bIE x=>match x.ev F with
  | some (.ptr o s i c)=>some (.ptr o s i c)
  | some (.bH cs)=>some (.bH cs)
  | _=>none
 | .bJB off x=>match x.ev F with
  | some (.ptr o s i c)=>some (.ptr o s i (c+off))
  | some (.bH cs)=>some (.bH (cs.drop off))
  | _=>none
 | .field off n x=>match x.ev F with
  | some (.agg cs)=>match n with
   | none=>cs[off]?
   | some n=>if off+n≤cs.length then some (.agg ((cs.drop off).take n)) else none
  | _=>none
 | .bIK size x i=>match x.ev F,i.ev F with
  | some (.sl s rows),some (.int _ n)=>if s=size∧0≤n then match rows[n.toNat]? with
    | some r=>some (.bH r)
    | none=>none
   else none
  | some (.osl o s off len),some (.int _ n)=>if s=size∧0≤n∧n<len then some (.ptr o s (off+n.toNat) 0) else none
  | _,_=>none
 | .idxA n size x i=>match x.ev F,i.ev F with
  | some (.ptr o s r c),some (.int _ k)=>if 0≤k∧k<n then some (.ptr o s r (c+k.toNat*size)) else none
  | some (.bH cs),some (.int _ k)=>if 0≤k∧k<n then some (.bH (cs.drop (k.toNat*size))) else none
  | _,_=>none
 | .idxV n size ag x i=>match x.ev F,i.ev F with
  | some (.agg cs),some (.int _ k)=>if 0≤k∧k<n then
    (if ag then (if k.toNat*size+size≤cs.length then some (.agg ((cs.drop (k.toNat*size)).take size)) else none) else cs[k.toNat*size]?)
   else none
  | _,_=>none
 | .bIY x i=>match x.ev F,i.ev F with
  | some (.str s),some (.int _ k)=>if 0≤k then (s[k.toNat]?).map fun b=>PV.int .u8 b.toNat else none
  | _,_=>none
 | .slice size x lo hi mx=>match x.ev F with
  | some v=>match v with
   | .aB=>match bnd F 0 lo,bnd F 0 hi with
    | some l,some h=>match mx with
     | none=>PV.slice size v l h none
     | some m=>(bnd F 0 (some m)).bind fun m=>PV.slice size v l h (some m)
    | _,_=>none
   | .sl s rows=>match bnd F 0 lo,bnd F rows.length hi with
    | some l,some h=>match mx with
     | none=>PV.slice size (.sl s rows) l h none
     | some m=>(bnd F 0 (some m)).bind fun m=>PV.slice size (.sl s rows) l h (some m)
    | _,_=>none
   | .osl o s off len=>match bnd F 0 lo,bnd F len hi with
    | some l,some h=>match mx with
     | none=>PV.slice size (.osl o s off len) l h none
     | some m=>(bnd F 0 (some m)).bind fun m=>PV.slice size (.osl o s off len) l h (some m)
    | _,_=>none
   | _=>none
  | none=>none
 | .bIS x lo hi=>match x.ev F with
  | some (.str s)=>match bnd F 0 lo,bnd F s.length hi with
   | some l,some h=>if 0≤l∧l≤h∧h≤s.length then some (.str ((s.take h.toNat).drop l.toNat)) else none
   | _,_=>none
  | _=>none
 | .sliceA n size x lo hi mx=>match lo,hi,mx with
  | none,none,none=>match x.ev F with
   | some (.bH cs)=>if n*size≤cs.length∧0<size∧n≤maxLen then some (.sl size (chunks size n cs)) else none
   | _=>none
  | _,_,_=>none
 | .len x=>(x.ev F).bind PV.uA
 | .bIX x=>match x.ev F with
  | some (.str s)=>some (.int .i64 s.length)
  | _=>none
 | .lenM x=>match x.ev F with
  | some (.map o)=>match H o with
   | some (.map _ g)=>some (.int .i64 (g.aZO:Nat))
   | _=>none
  | _=>none
 | .bJR x=>match x.ev F with
  | some .aB=>some (.int .i64 0)
  | _=>none
 | .isNil n x=>(x.ev F).bind fun v=>v.DC.map fun b=>.bool (b != n)
 | .extract x i=>match x.ev F with
  | some (.tup vs)=>vs[i]?
  | _=>none
 | .bIQ mx x y=>match x.ev F,y.ev F with
  | some (.int k a),some (.int k' b)=>if k=k' then some (.int k (if mx then (if a<b then b else a) else (if b<a then b else a))) else none
  | _,_=>none
 | .mkfn name captured=>(aP.evs F captured).map fun cs=>.fn name cs
 | .lookup sh zero x k ok=>match x.ev F,k.ev F with
  | some (.map o),some kv=>match H o,keyOf sh kv with
   | some (.map sh' g),some key=>if sh'=sh then some (if ok then .tup [(g key).getD zero,.bool (g key).isSome] else (g key).getD zero) else none
   | _,_=>none
  | _,_=>none
 | .bIF x=>match x.ev F with
  | some v=>match dU H 1 v with
   | some rows=>(pB rows).map PV.str
   | none=>none
  | none=>none
 | _=>none
def cQ (op:POp) (F:PF):Option ((Nat→PV) × cP) :=
 match op with
 | .alloc cells=>some (fun o=>.ptr o cells.length 0 0,.rows cells.length [cells])
 | .box false x=>match x.ev F with
  | some v=>if v.cells.all PV.one then some (fun o=>.ptr o v.cells.length 0 0,.rows v.cells.length [v.cells]) else none
  | none=>none
 | .bHV false size len zero parts=>if zero.length=size∧len*size≤16777216 then
   (fU size (bJW len zero) F parts).map fun rows=>(fun o=>.osl o size 0 len,.rows size rows)
  else none
 | .bHZ size bytes zero l c=>match l.ev F,c.ev F with
  | some (.int _ n),some (.int _ m)=>if 0≤n∧n≤m∧m*bytes≤140737488355328∧m≤9223372036854775807∧zero.length=size then
    some (fun o=>.osl o size 0 n.toNat,.rows size (bJW n.toNat zero))
   else none
  | _,_=>none
 | .bJL sh=>some (fun o=>.map o,.map sh (fun _=>none))
 | _=>none
def storeAt (H:PH) (p:PV) (cells:List PV):Option PH :=
 match p with
 | .ptr o size i c=>match H o with
  | some (.rows s rs)=>if s=size∧c+cells.length≤size∧cells.all PV.one then match rs[i]? with
    | some r=>some (H.set o (.rows s (rs.set i (setCells r c cells))))
    | none=>none
   else none
  | _=>none
 | _=>none
def roomFor (n m bytes:Nat):Prop:=n+m≤maxLen∧(n+m)*bytes≤140737488355328
def kY (H:PH) (size bytes:Nat) (x y:PV) (K:PV→PH→Prop):Prop :=
 ∃ src,dU H size y=some src ∧
  match x with
  | .aB=>roomFor 0 src.length bytes∧(src=[]→K .aB H)∧(src≠[]→∀ o,H o=none→K (.osl o size 0 src.length) (H.set o (.rows size src)))
  | .osl o s off len=>s=size∧off=0∧roomFor len src.length bytes∧∃ rs,H o=some (.rows size rs)∧len≤rs.length ∧
    K (.osl o size 0 (len+src.length)) (H.set o (.rows size (rs.take len++src))) ∧
    ∀ o',H o'=none→K (.osl o' size 0 (len+src.length)) (H.set o' (.rows size (rs.take len++src)))
  | _=>False
def bU (op:POp) (F:PF) (H:PH) (K:PV→PH→Prop):Prop :=
 match op with
 | .store n p x=>match p.ev F,x.ev F with
  | some a,some v=>v.cells.length=n∧∃ H',storeAt H a v.cells=some H'∧K .junk H'
  | _,_=>False
 | .append size bytes x y=>match x.ev F,y.ev F with
  | some a,some b=>kY H size bytes a b K
  | _,_=>False
 | .bIN sh x k v=>match x.ev F,k.ev F,v.ev F with
  | some (.map o),some kv,some vv=>match H o,keyOf sh kv with
   | some (.map sh' g),some key=>sh'=sh∧K .junk (H.set o (.map sh (g.upd key vv)))
   | _,_=>False
  | _,_,_=>False
 | .insert sh x k v=>match x.ev F,k.ev F,v.ev F with
  | some (.map o),some kv,some vv=>match H o,keyOf sh kv with
   | some (.map sh' g),some key=>sh'=sh∧g key=none∧K .junk (H.set o (.map sh (g.upd key vv)))
   | _,_=>False
  | _,_,_=>False
 | _=>False
def PV.dC (o s:Nat) (rs:List (List PV)):PV→PV
 | .osl q s' off len=>if q=o then (if s'=s∧off+len≤rs.length then .sl s ((rs.drop off).take len) else .junk) else .osl q s' off len
 | v=>v
def PV.rO (o s:Nat) (rs:List (List PV)):PV→PV
 | .agg cs=>.agg (cs.map (PV.dC o s rs))
 | v=>v.dC o s rs
def PV.frz (o s:Nat) (rs:List (List PV)):PV→PV
 | .tup vs=>.tup (vs.map (PV.rO o s rs))
 | v=>v.rO o s rs
def cP.frz (o s:Nat) (rs:List (List PV)):cP→cP
 | .rows s' rs'=>.rows s' (rs'.map fun r=>r.map (PV.dC o s rs))
 | x=>x
def PF.frz (F:PF) (o s:Nat) (rs:List (List PV)):PF:=fun i=>(F i).map (PV.frz o s rs)
def PH.frz (H:PH) (o s:Nat) (rs:List (List PV)):PH :=
 ⟨fun q=>if q=o then none else (H q).map (cP.frz o s rs),by
  obtain⟨n,hn⟩:=H.fin
  exact⟨n,fun q hq=>by simp[hn q hq]⟩⟩
inductive iW:PF→PH→PF→PH→Prop
 | refl (F:PF) (H:PH):iW F H F H
 | step {F F':PF} {H H':PH} (o:Nat) {s:Nat} {rs:List (List PV)} (ho:H o=some (.rows s rs)) (h:iW (F.frz o s rs) (H.frz o s rs) F' H'):iW F H F' H'
structure Ctx where
 P:Program
 num:Nat→FuncId
inductive eI (E:Env):List PV→List Value→Prop
 | nil:eI E [] []
 | cons {p:PV} {v:Value} {ps:List PV} {vs:List Value} (h:aY E p v) (t:eI E ps vs):eI E (p::ps) (v::vs)
def aE (C:Ctx) (name:Nat) (args:List PV) (H:PH) (R:PV→PH→Prop):Prop :=
 (∃ fn,C.P.funcs[C.num name]?=some fn∧fn.body.isSome=true∧(fn.name=="runtime.NumGoroutine")=false) ∧
 ∀ (E:Env) (w:World) (vs:Array Value),E.num=C.num→bM E H w→eI E args vs.toList →
  Calls C.P (C.num name) vs w fun e w'=>∃ v pv E' H',e=.returned v∧bM E' H' w'∧aY E' pv v∧Ext E H w E' H' w'∧R pv H'
inductive lJ where
 | normal
 | exit (id:Nat)
 | ret
abbrev cN:=lJ→PF→PH→Prop
def PF.put (F:PF) (d:Option Nat) (v:PV):PF :=
 match d with
 | some d=>F.set d v
 | none=>F
def bP (r:Option PV) (d:Option Nat) (K:PF→PH→Prop) (F:PF) (H:PH):Prop:=∃ v,r=some v∧K (F.put d v) H
def lD (r:Option ((Nat→PV) × cP)) (d:Option Nat) (K:PF→PH→Prop) (F:PF) (H:PH):Prop :=
 ∃ mk x,r=some (mk,x)∧∀ o,H o=none→K (F.put d (mk o)) (H.set o x)
def kJ (H H0 H':PH):Prop:=∀ o x,H' o=some x→H0 o=none→H o=none
def qG (C:Ctx) (name:Nat) (args:Option (List PV)) (d:Option Nat) (K:PF→PH→Prop) (F:PF) (H:PH):Prop :=
 ∃ vs H0 R,args=some vs∧H0.le H∧aE C name vs H0 R∧∀ r H',R r H'→kJ H H0 H'→K (F.put d r) (H.eJ H0 H')
def fP (C:Ctx) (name:Nat) (args:List aP) (cs:List PV) (d:Option Nat) (K:PF→PH→Prop) (F:PF) (H:PH):Prop :=
 qG C name ((aP.evs F args).map (·++cs)) d K F H ∨
 ∃ F1 H1,iW F H F1 H1∧qG C name ((aP.evs F1 args).map (·++cs)) d K F1 H1
def POp.fX:POp→Bool
 | .alloc _ | .box false _ | .bHV false .. | .bHZ .. | .bJL _=>true
 | _=>false
def POp.dT:POp→Bool
 | .store .. | .append .. | .bIN .. | .insert ..=>true
 | _=>false
def wpOp (C:Ctx) (op:POp) (d:Option Nat) (K:PF→PH→Prop) (F:PF) (H:PH):Prop :=
 match op with
 | .call name args=>fP C name args [] d K F H
 | .bJA x args=>∃ name cs,x.ev F=some (.fn name cs)∧fP C name args cs d K F H
 | op=>if op.fX then lD (cQ op F) d K F H else if op.dT then bU op F H (fun r H'=>K (F.put d r) H') else bP (aO op F H) d K F H
def wpOps (C:Ctx):List bC→(PF→PH→Prop)→PF→PH→Prop
 | [],K,F,H=>K F H
 | i::rest,K,F,H=>match i.guard with
  | none=>wpOp C i.op i.dst (wpOps C rest K) F H
  | some (t,want)=>match F t with
   | some (.bool b)=>if b=want then wpOp C i.op i.dst (wpOps C rest K) F H else wpOps C rest K (F.put i.dst (.tup [])) H
   | some (.tup [])=>wpOps C rest K (F.put i.dst (.tup [])) H
   | _=>False
def PH.only (H:PH) (D:List Nat):PH :=
 ⟨fun o=>if o∈D then H o else none,by
  obtain⟨n,hn⟩:=H.fin
  exact⟨n,fun o ho=>by simp[hn o ho]⟩⟩
abbrev Spec:=Nat→List PV→Option (List Nat × (PH→PV→PH→Prop))
inductive Kind where
 | fail
 | calm (f:PH→Option PV)
 | new (r:Option ((Nat→PV) × cP))
 | write (w:PH→(PV→PH→Prop)→Prop)
 | call (name:Nat) (args:Option (List PV))
 | ins (r:Option (Nat × MSh × List KS × PV))
noncomputable def POp.kind (op:POp) (F:PF):Kind :=
 match op with
 | .call name args=>.call name (aP.evs F args)
 | .bJA x args=>match x.ev F with
  | some (.fn name cs)=>.call name ((aP.evs F args).map (·++cs))
  | _=>.fail
 | .insert sh x k v=>.ins (match x.ev F,k.ev F,v.ev F with
  | some (.map o),some kv,some vv=>(keyOf sh kv).map fun key=>(o,sh,key,vv)
  | _,_,_=>none)
 | op=>if op.fX then .new (cQ op F) else if op.dT then .write (fun H K=>bU op F H K) else .calm (aO op F)
noncomputable def bC.kind (i:bC) (F:PF):Kind :=
 match i.guard with
 | none=>i.op.kind F
 | some (t,want)=>match F t with
  | some (.bool b)=>if b=want then i.op.kind F else .calm (fun _=>some (.tup []))
  | some (.tup [])=>.calm (fun _=>some (.tup []))
  | _=>.fail
def Kind.run (C:Ctx) (Hs:PH) (S:Spec) (st:Bool) (k:Kind) (K:PV→PH→Prop) (H:PH):Prop :=
 match k with
 | .fail=>False
 | .calm f=>∃ v,f (if st then Hs else H)=some v∧K v H
 | .new r=>∃ mk x,r=some (mk,x)∧∀ o,H o=none→K (mk o) (H.set o x)
 | .write w=>w H fun r H'=>Hs.le H'∧K r H'
 | .ins r=>∃ o sh key v g,r=some (o,sh,key,v)∧H o=some (.map sh g)∧g key=none∧Hs o=none∧K .junk (H.set o (.map sh (g.upd key v)))
 | .call name args=>∃ vs D R,args=some vs∧S name vs=some (D,R)∧(∀ o∈D,∃ x,H o=some x)∧aE C name vs (H.only D) (R (H.only D)) ∧
   (∀ G:PH,∃ r H',R (H.only D) r H'∧kJ G (H.only D) H') ∧
   ∀ r H',R (H.only D) r H'→kJ H (H.only D) H'→Hs.le (H.eJ (H.only D) H')∧K r (H.eJ (H.only D) H')
def wpD (C:Ctx) (Hs:PH) (S:Spec):List (bC × Bool)→(PF→PH→Prop)→PF→PH→Prop
 | [],K,F,H=>K F H
 | i::rest,K,F,H=>(i.1.kind F).run C Hs S i.2 (fun v H'=>wpD C Hs S rest K (F.put i.1.dst v) H') H
def iD (C:Ctx) (w:cN→PF→PH→Prop) (K:cN):cN
 | .normal,F,H=>w K F H
 | e,F,H=>K e F H
def dW (id:Nat) (K:cN):cN
 | .exit id',F,H=>if id'=id then K .normal F H else K (.exit id') F H
 | e,F,H=>K e F H
def eE {α:Type} (Fs:α→PF) (Hs:α→PH) (Pr:α→Prop) (m:α→Nat) (n:Nat) (K:cN):cN
 | .normal,F,H=>∃ a F1 H1,iW F H F1 H1∧Pr a∧m a<n∧(Fs a).le F1∧(Hs a).le H1
 | e,F,H=>K e F H
def aC.wp (C:Ctx):aC→cN→PF→PH→Prop
 | .skip,K,F,H=>K .normal F H
 | .region ops,K,F,H=>wpOps C ops (K .normal) F H
 | .draw ops,K,F,H=>∃ Hs S,PH.le Hs H∧wpD C Hs S ops (K .normal) F H
 | .seq a b,K,F,H=>a.wp C (iD C (b.wp C) K) F H
 | .cond c a b,K,F,H=>match c.ev F with
  | some (.bool t)=>if t then a.wp C K F H else b.wp C K F H
  | _=>False
 | .block id c,K,F,H=>c.wp C (dW id K) F H
 | .loop c,K,F,H=>∃ (α:Type) (Fs:α→PF) (Hs:α→PH) (Pr:α→Prop) (m:α→Nat) (a0:α) (F1:PF) (H1:PH),iW F H F1 H1∧Pr a0∧(Fs a0).le F1∧(Hs a0).le H1 ∧
   ∀ a,Pr a→c.wp C (eE Fs Hs Pr m (m a) K) (Fs a) (Hs a)
 | .exit id,K,F,H=>K (.exit id) F H
 | .ret,K,F,H=>K .ret F H
def dQ.ev (F:PF) (H:PH):dQ→Option PV
 | .tmp t=>F t
 | .cell t none=>match F t with
  | some p=>match loadCells H p 1 with
   | some [v]=>some v
   | _=>none
  | none=>none
 | .cell t (some k)=>match F t with
  | some p=>(loadCells H p k).map .agg
  | none=>none
def dQ.evs (F:PF) (H:PH):List dQ→Option (List PV)
 | []=>some []
 | r::rs=>match r.ev F H,dQ.evs F H rs with
  | some v,some vs=>some (v::vs)
  | _,_=>none
def aV:List PV→PV
 | [v]=>v
 | vs=>.tup vs
def aT (res:List dQ) (R:PV→PH→Prop):cN
 | .exit _,_,_=>False
 | _,F,H=>∃ vs,dQ.evs F H res=some vs∧∃ F1 H1 H2,iW (PF.nil.set 0 (aV vs)) H F1 H1∧H2.le H1∧∃ v,F1 0=some v∧R v H2
def PF.args (vs:List PV):PF:=fun i=>vs[i]?
structure Tbl where
 P:Program
 num:Nat→FuncId
 name:FuncId→Option Nat
 ro:List Nat:=[]
def ofValue:Value→Option PV
 | .int k n=>some (.int k n)
 | .bool b=>some (.bool b)
 | .string s=>some (.str s.data.toList)
 | .slice none 0 0=>some .aB
 | .pointer none=>some (.lit (.pointer none))
 | .map none=>some (.lit (.map none))
 | .nilIface=>some (.lit .nilIface)
 | .nilFunc=>some (.lit .nilFunc)
 | _=>none
theorem sQ {E:Env} {v:Value} {pv:PV} (h:ofValue v=some pv):aY E pv v:=by
 unfold ofValue at h
 split at h<;>cases h
 ·exact .int _ _
 ·exact .bool _
 ·exact .str _
 ·exact .aB
 all_goals exact .lit _
def ofValues:List Value→Option (List PV)
 | []=>some []
 | v::vs=>match ofValue v,ofValues vs with
  | some p,some ps=>some (p::ps)
  | _,_=>none
namespace Tbl
variable (T:Tbl)
def opd:Operand→Option aP
 | .tmp t=>some (.tmp t)
 | .const v=>(ofValue v).map .const
 | .func f=>match T.name f with
  | some n=>if T.num n=f then some (.const (.fn n [])) else none
  | none=>none
 | .global _=>none
def YQ:List Operand→Option (List aP)
 | []=>some []
 | x::xs=>match T.opd x,YQ xs with
  | some p,some ps=>some (p::ps)
  | _,_=>none
def size (t:TypeId):Option Nat:=(T.P.info? t).map (·.size)
def isAgg (t:TypeId):Option Bool :=
 match T.P.underlying t with
 | some (.struct _) | some (.array _ _)=>some true
 | some _=>some false
 | none=>none
def zero (t:TypeId):Option (List PV):=((T.P.info? t).bind (·.zero)).bind fun z=>ofValues z.cells.toList
def scalar (t:TypeId):Option Sc :=
 match T.P.underlying t with
 | some (.int _)=>some .int
 | some .bool=>some .bool
 | some .string=>some .str
 | _=>none
def pC:Nat→List Field→Option (List Sc)
 | _,[]=>some []
 | k,f::fs=>match T.scalar f.type,pC (k+1) fs with
  | some c,some cs=>if f.name≠"_"∧f.offset=k then some (c::cs) else none
  | _,_=>none
def flat (t:TypeId):Option (List Sc) :=
 match T.P.underlying t with
 | some (.struct fs)=>if T.P.stoodInHeld t=false∧T.P.eqGuardType T.P.depth t=false then T.pC 0 fs.toList else none
 | _=>none
def vY (t:TypeId):Option KSh :=
 match T.P.underlying t with
 | some (.int k)=>some (.int k)
 | some .bool=>some .bool
 | some .string=>some .str
 | _=>none
def jR:Nat→List Field→Option (List KSh)
 | _,[]=>some []
 | k,f::fs=>match T.vY f.type,jR (k+1) fs with
  | some c,some cs=>if f.name≠"_"∧f.offset=k then some (c::cs) else none
  | _,_=>none
def jY (t:TypeId):Option MSh :=
 match T.P.underlying t with
 | some (.struct fs)=>if T.P.stoodInHeld t=false then (T.jR 0 fs.toList).map fun l=>(true,l) else none
 | _=>(T.vY t).map fun c=>(false,[c])
def opt (x:Option Operand):Option (Option aP) :=
 match x with
 | none=>some none
 | some x=>(T.opd x).map some
def place (fs:Array Field) (i:Nat):Option (Nat × Nat) :=
 match fs[i]? with
 | some f=>(T.size f.type).map (f.offset,·)
 | none=>none
def partsOf (place:Nat→Option (Nat × Nat)):List (Nat × Operand)→Option (List (Nat × Nat × aP))
 | []=>some []
 | (i,x)::rest=>match place i,T.opd x,partsOf place rest with
  | some (off,size),some p,some ps=>some ((off,size,p)::ps)
  | _,_,_=>none
def pN:List (Nat × Operand)→Option (List (Nat × aP))
 | []=>some []
 | (i,x)::rest=>match T.opd x,pN rest with
  | some p,some ps=>some ((i,p)::ps)
  | _,_=>none
def alQ (d:Option Tmp):Bool :=
 match d with
 | some d=>T.ro.contains d
 | none=>false
def call (o:Oper) (c:Call):Option POp :=
 match c.callee with
 | .builtin b=>match b,c.args.toList,c.argTypes.toList with
  | .len,[x],[t]=>match T.P.underlying t with
   | some (.array n _)=>some (.mv (.const (.int .i64 n)))
   | some .string=>(T.opd x).map .bIX
   | some (.slice _)=>(T.opd x).map .len
   | some (.map _ _)=>(T.opd x).map .lenM
   | _=>none
  | .append,[x,y],[t,u]=>match T.P.underlying t,T.P.underlying u with
   | some (.slice e),some (.slice _)=>match T.P.info? e,T.opd x,T.opd y with
    | some i,some a,some b=>if t=u∧i.zero.isSome∧(i.zero.map (·.cells.size))=some i.size∧0<i.size then some (.append i.size i.bytes a b) else none
    | _,_,_=>none
   | _,_=>none
  | .cap,[x],[t]=>match T.P.underlying t with
   | some (.slice _)=>(T.opd x).map .bJR
   | _=>none
  | .max,[x,y],_=>match T.opd x,T.opd y with
   | some a,some b=>some (.bIQ true a b)
   | _,_=>none
  | .min,[x,y],_=>match T.opd x,T.opd y with
   | some a,some b=>some (.bIQ false a b)
   | _,_=>none
  | _,_,_=>none
 | .value (.func f)=>match T.name f,T.YQ c.args.toList with
  | some n,some xs=>if T.num n=f then some (.call n xs) else none
  | _,_=>none
 | .value (.tmp t)=>(T.YQ c.args.toList).map (.bJA (.tmp t))
 | _=>none
def op (o:Oper):Option POp :=
 match o.op with
 | .move x | .assign x=>(T.opd x).map .mv
 | .pick c a b=>match T.opd c,T.opd a,T.opd b with
  | some c,some a,some b=>some (.pick c a b)
  | _,_,_=>none
 | .alloc e=>(T.zero e).map .alloc
 | .box _ x=>(T.opd x).map (.box (T.alQ o.dst))
 | .build t parts=>match T.zero t,T.P.underlying t with
  | some z,some (.struct fs)=>if (fs.toList.mapM (fun f=>(T.P.info? f.type).map fun i=>(f.offset,i.size))).isSome then
    (T.partsOf (T.place fs) parts.toList).map (.build z)
   else none
  | some z,some (.array _ e)=>match T.size e with
   | some s=>(T.partsOf (fun i=>some (i*s,s)) parts.toList).map (.build z)
   | none=>none
  | _,_=>none
 | .buildSlice t len parts=>match T.P.underlying t with
  | some (.slice e)=>match T.size e,T.zero e,T.pN parts.toList with
   | some s,some z,some ps=>if z.length=s∧0<s then some (.bHV (T.alQ o.dst) s len z ps) else none
   | _,_,_=>none
  | _=>none
 | .load t a=>match T.isAgg t,T.size t,T.opd a with
  | some true,some n,some p=>some (.load (some n) p)
  | some false,_,some p=>some (.load none p)
  | _,_,_=>none
 | .store t a x=>match T.size t,T.opd a,T.opd x with
  | some n,some p,some v=>some (.store n p v)
  | _,_,_=>none
 | .nilCheck x=>(T.opd x).map .bIE
 | .binOp b t x y _=>match T.opd x,T.opd y with
  | some p,some q=>match b with
   | .eql=>match T.P.underlying t with
    | some (.int _) | some .string=>some (.bin .eql p q)
    | some .bool=>some (.eqb false p q)
    | some (.struct _)=>(T.flat t).map fun ks=>.eqs false ks p q
    | some (.slice _)=>match q with
     | .const .aB=>some (.isNil false p)
     | _=>none
    | _=>none
   | .neq=>match T.P.underlying t with
    | some (.int _) | some .string=>some (.bin .neq p q)
    | some .bool=>some (.eqb true p q)
    | some (.struct _)=>(T.flat t).map fun ks=>.eqs true ks p q
    | some (.slice _)=>match q with
     | .const .aB=>some (.isNil true p)
     | _=>none
    | _=>none
   | b=>some (.bin b p q)
  | _,_=>none
 | .unOp u _ x=>(T.opd x).map (.un u)
 | .convert s d x=>match T.P.underlying s,T.P.underlying d,T.opd x with
  | some (.int _),some (.int k),some p=>some (.conv k p)
  | some .string,some .string,some p=>some (.same p)
  | some (.slice e),some .string,some p=>match T.P.underlying e with
   | some (.int .u8)=>some (.bIF p)
   | _=>none
  | _,_,_=>none
 | .makeFunc (.func f) first captured=>match T.name f,T.YQ captured.toList with
  | some n,some cs=>if T.num n=f∧first.size=0 then some (.mkfn n cs) else none
  | _,_=>none
 | .makeMap t none=>match T.P.underlying t with
  | some (.map k _)=>(T.jY k).map .bJL
  | _=>none
 | .lookup t x k ok=>match T.P.underlying t with
  | some (.map kt et)=>match T.jY kt,(T.P.info? et).bind (·.zero),T.opd x,T.opd k with
   | some sh,some z,some p,some q=>(ofValue z).map fun z=>.lookup sh z p q ok
   | _,_,_,_=>none
  | _=>none
 | .mapUpdate t x k v=>match T.P.underlying t with
  | some (.map kt _)=>match T.jY kt,T.opd x,T.opd k,T.opd v with
   | some sh,some p,some q,some r=>some (.bIN sh p q r)
   | _,_,_,_=>none
  | _=>none
 | .insert t x k v=>match T.P.underlying t with
  | some (.map kt _)=>match T.jY kt,T.opd x,T.opd k,T.opd v with
   | some sh,some p,some q,some r=>some (.insert sh p q r)
   | _,_,_,_=>none
  | _=>none
 | .makeSlice t l c=>match T.P.underlying t with
  | some (.slice e)=>match T.P.info? e,T.zero e,T.opd l,T.opd c with
   | some i,some z,some a,some b=>if z.length=i.size∧0<i.size then some (.bHZ i.size i.bytes z a b) else none
   | _,_,_,_=>none
  | _=>none
 | .slice t x lo hi mx=>match T.P.underlying t,T.opd x,T.opt lo,T.opt hi,T.opt mx with
  | some (.slice e),some p,some l,some h,some m=>if mx.isSome=true∧hi.isNone=true then none else (T.size e).map fun s=>.slice s p l h m
  | some .string,some p,some l,some h,some none=>some (.bIS p l h)
  | some (.array n e),some p,some none,some none,some none=>(T.size e).map fun s=>.sliceA n s p none none none
  | _,_,_,_,_=>none
 | .fieldAddr t x f=>match T.P.underlying t,T.opd x with
  | some (.struct fs),some p=>match fs[f]? with
   | some fd=>match T.size fd.type with
    | some (_+1)=>some (.bJB fd.offset p)
    | _=>none
   | none=>none
  | _,_=>none
 | .field t x f=>match T.P.underlying t,T.opd x with
  | some (.struct fs),some p=>match fs[f]? with
   | some fd=>match T.isAgg fd.type,T.size fd.type with
    | some true,some n=>some (.field fd.offset (some n) p)
    | some false,_=>some (.field fd.offset none p)
    | _,_=>none
   | none=>none
  | _,_=>none
 | .indexAddr t x i=>match T.P.underlying t,T.opd x,T.opd i with
  | some (.slice e),some p,some q=>(T.size e).map fun s=>.bIK s p q
  | some (.array n e),some p,some q=>(T.size e).map fun s=>.idxA n s p q
  | _,_,_=>none
 | .index t x i=>match T.P.underlying t,T.opd x,T.opd i with
  | some (.array n e),some p,some q=>match T.size e,T.isAgg e with
   | some s,some g=>some (.idxV n s g p q)
   | _,_=>none
  | some .string,some p,some q=>some (.bIY p q)
  | _,_,_=>none
 | .extract x i=>(T.opd x).map (.extract · i)
 | .call c=>T.call o c
 | _=>none
def SL (n:Nat) (ops:Array Oper) (o:Oper):Option bC :=
 let p:=(T.op o).getD .stuck
 if o.dst.all (·<n) then
  match o.guard with
  | none=>some ⟨o.dst,p,none⟩
  | some (j,want)=>match (ops[j]?).bind (·.dst) with
   | some t=>some ⟨o.dst,p,some (t,want)⟩
   | none=>none
 else none
def oM (n:Nat) (ops:Array Oper):List Oper→Option (List bC)
 | []=>some []
 | o::os=>match T.SL n ops o,oM n ops os with
  | some i,some is=>some (i::is)
  | _,_=>none
end Tbl
end Go.PM
namespace Go.PM
open Go
structure dV (n:Nat) (E:Env) (F:PF) (a:Act):Prop where
 size:a.tmps.size=n
 defers:a.defers=[]
 t:∀ i pv,F i=some pv→aY E pv (a.tmps.getD i undef)
theorem dV.mono {n:Nat} {E E':Env} (h:E.le E') {F:PF} {a:Act} (r:dV n E F a):dV n E' F a:=⟨r.size,r.defers,fun i pv hi=>(r.t i pv hi).mono h⟩
theorem dV.weaken {n:Nat} {E:Env} {F F0:PF} {a:Act} (r:dV n E F a) (h:F0.le F):dV n E F0 a:=⟨r.size,r.defers,fun i pv hi=>r.t i pv (h i pv hi)⟩
theorem dV.put {n:Nat} {E:Env} {F:PF} {a:Act} (r:dV n E F a) {d:Option Tmp} (hd:d.all (·<n)=true) {pv:PV} {v:Value} (h:aY E pv v):dV n E (F.put d pv) (a.put d v):=by
 cases d with
 | none=>exact r
 | some d =>
  have hd':d<n:=by simpa using hd
  refine⟨by simp[Act.put,r.size],by simp[Act.put,r.defers],fun i qv hi=>?_⟩
  simp only[PF.put,PF.set,upd] at hi
  split at hi
  ·rename_i e
   subst e
   cases hi
   simp only[Act.put,Array.getD_eq_getD_getElem?]
   rw[Array.getElem?_setIfInBounds]
   simp[r.size,hd',h]
  ·rename_i e
   have:=r.t i qv hi
   simp only[Act.put,Array.getD_eq_getD_getElem?] at this ⊢
   rw[Array.getElem?_setIfInBounds,if_neg Om]
   exact this
section
variable {T:Tbl} {n:Nat} {E:Env} {F:PF} {H:PH} {a:Act} {w:World}
theorem bE {x:Operand} {p:aP} {pv:PV} (hx:T.opd x=some p) (hv:p.ev F=some pv) (hA:dV n E F a) (hN:E.num=T.num):aY E pv (a.eval x):=by
 cases x with
 | tmp t =>
  simp[Tbl.opd] at hx
  subst hx
  exact hA.t t pv hv
 | const v =>
  simp only[Tbl.opd,bKB] at hx
  obtain⟨q,hq,rfl⟩:=hx
  simp[aP.ev] at hv
  subst hv
  exact sQ hq
 | global g=>simp[Tbl.opd] at hx
 | func f =>
  simp only[Tbl.opd] at hx
  split at hx
  ·rename_i m hm
   split at hx
   ·rename_i hf
    cases hx
    simp[aP.ev] at hv
    subst hv
    have:=aY.fn (E:=E) (name:=m) (captured:=[]) #[] rfl (by intro j pv v h; simp at h)
    rw[hN,hf] at this
    exact this
   ·cases hx
  ·cases hx
theorem HR {xs:List Operand}:∀ {ps:List aP} {pvs:List PV},T.YQ xs=some ps→aP.evs F ps=some pvs→dV n E F a→E.num=T.num→eI E pvs (xs.map a.eval):=by
 induction xs with
 | nil =>
  intro ps pvs h1 h2 _ _
  simp[Tbl.YQ] at h1; subst h1
  simp[aP.evs] at h2; subst h2
  exact .nil
 | cons x xs ih =>
  intro ps pvs h1 h2 hA hN
  simp only[Tbl.YQ] at h1
  split at h1
  ·rename_i p ps' hp hps
   cases h1
   simp only[aP.evs] at h2
   split at h2
   ·rename_i v vs hv hvs
    cases h2
    exact .cons (bE hp hv hA hN) (ih hps hvs hA hN)
   ·cases h2
  ·cases h1
theorem bM.aOZ (hW:bM E H w) {b off:Nat} {u:Value} (h:E.cell b off=some u):w.cell? ⟨b,off,none⟩=some u:=by
 unfold Env.cell at h
 cases hg:E.G b with
 | none=>simp[hg] at h
 | some cs =>
  obtain⟨-,ty,fr,hh⟩:=hW.g b cs hg
  rw[cell_of_row w b off cs ty fr hh]
  simpa [hg] using h
theorem add_plain (b off i:Nat):(⟨b,off,none⟩:Addr).add i=⟨b,off+i,none⟩:=by unfold Addr.add; split<;>simp_all
theorem lL {ad:Addr} (h:ad.spot=none):ad=⟨ad.block,ad.off,none⟩:=by cases ad; simp_all
theorem mM {pv:PV} {v:Value} (hW:bM E H w) (hv:aY E pv v) {k:Nat} {cs:List PV} (h:loadCells H pv k=some cs) :
  ∃ b off,v=.pointer (some ⟨b,off,none⟩)∧cs.length=k∧∃ us:List Value,us.length=k∧(∀ u∈us,u.oneCell'=true) ∧
   (∀ (j:Nat) u,us[j]?=some u→w.cell? ⟨b,off+j,none⟩=some u)∧∀ (j:Nat) q u,cs[j]?=some q→us[j]?=some u→aY E q u:=by
 unfold loadCells at h
 split at h
 ·rename_i o size i c
  cases hv
  split at h
  ·rename_i s rs ho
   split at h
   ·rename_i hs
    subst hs
    split at h
    ·rename_i r hr
     split at h
     ·rename_i hck
      cases h
      obtain⟨-,cur,ty,hh,hsz,bIC,hlen,hc⟩:=hW.h o _ ho
      have hat:∀ j,j<k→∃ u,cur[i*s+(c+j)]?=some u∧u.oneCell'=true∧aY E (r.getD (c+j) .junk) u:=by
       intro j hj
       refine hc i (c+j) _ ?_
       simp only[at2,hr,bNC,bKO]
       rw[bKD Om]
       rfl
      refine⟨o,i*s+c,rfl,by simp; omega,?_⟩
      refine⟨(bJU k).map fun j=>(cur[i*s+(c+j)]?).getD undef,by simp,?_,?_,?_⟩
      ·intro u hu
       simp only[bKX,bLI] at hu
       obtain⟨j,hj,rfl⟩:=hu
       obtain⟨u,h1,h2,-⟩:=hat j hj
       simp[h1,h2]
      ·intro j u hu
       simp only[bKZ,bKB] at hu
       obtain⟨j',hj',rfl⟩:=hu
       have hjk:j<k:=by
        rcases bKM j k with h | h
        ·exact h
        ·rw[bLG (by simpa using h)] at hj'; cases hj'
       rw[List.getElem?_range hjk] at hj'
       cases hj'
       obtain⟨u,h1,-,-⟩:=hat j hjk
       rw[cell_of_row w o _ cur ty (0,0) hh,bMG,h1]
       rfl
      ·intro j q u hq hu
       simp only[bKZ,bKB] at hu
       obtain⟨j',hj',rfl⟩:=hu
       have hjk:j<k:=by
        rcases bKM j k with h | h
        ·exact h
        ·rw[bLG (by simpa using h)] at hj'; cases hj'
       rw[List.getElem?_range hjk] at hj'
       cases hj'
       obtain⟨u,h1,-,h3⟩:=hat j hjk
       have hqq:r.getD (c+j) .junk=q:=by
        rw[bMY,if_pos hjk,bNH] at hq
        simp[hq]
       rw[← hqq,h1]
       exact h3
     ·cases h
    ·cases h
   ·cases h
  ·cases h
 ·rename_i cells
  cases hv with
  | bH u hsp hc h1 hr =>
  rename_i ad
  split at h
  ·rename_i hle
   cases h
   refine⟨ad.block,ad.off,by rw[← lL hsp],by simp; omega,(bJU k).map u,by simp,?_,?_,?_⟩
   ·intro x hx
    simp only[bKX] at hx
    obtain⟨j,-,rfl⟩:=hx
    exact h1 j
   ·intro j x hx
    simp only[bKZ,bKB] at hx
    obtain⟨j',hj',rfl⟩:=hx
    have hjk:j<k:=by
     rcases bKM j k with h | h
     ·exact h
     ·rw[bLG (by simpa using h)] at hj'; cases hj'
    rw[List.getElem?_range hjk] at hj'
    cases hj'
    exact hW.aOZ (hc j _ (bKD Om))
   ·intro j q x hq hx
    simp only[bKZ,bKB] at hx
    obtain⟨j',hj',rfl⟩:=hx
    have hjk:j<k:=by
     rcases bKM j k with h | h
     ·exact h
     ·rw[bLG (by simpa using h)] at hj'; cases hj'
    rw[List.getElem?_range hjk] at hj'
    cases hj'
    rw[bMY,if_pos hjk] at hq
    exact hr j q hq
  ·cases h
 ·cases h
theorem a5Y {op : BinOp} {px py pv : PV} {x y : Value} (hx : aY E px x) (hy : aY E py y) (h : PV.bin op px py = some pv) (t : TypeId) (ox oy : Operand) :
    ∃ v, (do eqGuard op t ox oy x y; binOp op t x y : Sem Value).run T.P w = .ok v w ∧ aY E pv v := by
  unfold PV.bin at h
  split at h
  · cases hx; cases hy
    unfold shift at h
    split at h
    · cases h
    · rename_i hb
      cases h
      exact ⟨_, by simp [eqGuard, binOp, Op.shift, hb], .int _ _⟩
  · cases hx; cases hy
    unfold shift at h
    split at h
    · cases h
    · rename_i hb
      cases h
      exact ⟨_, by simp [eqGuard, binOp, Op.shift, hb], .int _ _⟩
  · rename_i op' k a k' b n1 n2
    cases hx; cases hy
    split at h
    · rename_i hk
      subst hk
      cases op <;> simp only [jT] at h <;>
        first
          | (cases h; refine ⟨_, ?_, aY.int _ _⟩; simp [eqGuard, binOp, Op.intArith, Op.intBits]; done)
          | (cases h; refine ⟨_, ?_, aY.bool _⟩; simp [eqGuard, binOp, Op.intCmp]; done)
          | (split at h
             · cases h
             · rename_i hb
               cases h
               refine ⟨_, ?_, aY.int _ _⟩
               simp [eqGuard, binOp, Op.intDiv, hb])
          | cases h
    · cases h
  · rename_i op' a b
    cases hx with
    | str s =>
    cases hy with
    | str s' =>
    cases op <;> simp only [LH] at h <;>
      first
        | (cases h; refine ⟨_, ?_, aY.bool _⟩; simp [eqGuard, binOp, Op.stringOp, ByteArray.toList_eq]; done)
        | (split at h
           · cases h
           · rename_i hb
             cases h
             refine ⟨.string (s ++ s'), ?_, ?_⟩
             · have hb' : ¬ (((s.size + s'.size : Nat) : Int) > IntKind.i64.max) := by
                 intro hh
                 apply hb
                 have e1 : s.data.toList.length = s.size := by rw [bMR]; rfl
                 have e2 : s'.data.toList.length = s'.size := by rw [bMR]; rfl
                 rw [e1, e2]
                 exact hh
               have e1 : Op.stringOp .add s s' = pure (.string (s ++ s')) := by unfold Op.stringOp; exact if_neg hb'
               have e2 : binOp .add t (.string s) (.string s') = pure (.string (s ++ s')) := by unfold binOp; exact e1
               simp [eqGuard, e2]
             · have e : s.data.toList ++ s'.data.toList = (s ++ s').data.toList := by rw [ByteArray.data_append, Array.toList_append]
               rw [e]
               exact .str _)
        | cases h
  · cases h
theorem biX {u:UnOp} {px pv:PV} {x:Value} (hx:aY E px x) (h:PV.un u px=some pv):∃ v,(Op.unary u x).run T.P w=.ok v w∧aY E pv v:=by
 unfold PV.un at h
 split at h
 ·cases hx
  split at h
  ·cases h; exact⟨_,by simp[Op.unary,Op.intArith],.int _ _⟩
  ·cases h; exact⟨_,by simp[Op.unary,Op.intBits],.int _ _⟩
  ·cases h
 ·cases hx
  split at h
  ·cases h; exact⟨_,by simp[Op.unary],.bool _⟩
  ·cases h
 ·cases h
end
open Go Go.RowKit
def Yields (P:Program) (E:Env) (H:PH) (w:World) (s:Sem Value) (pv:PV):Prop :=
 ∃ v w' E',s.run P w=.ok v w'∧aY E' pv v∧bM E' H w'∧Ext E H w E' H w'
theorem Yields.same {P:Program} {E:Env} {H:PH} {w:World} {s:Sem Value} {pv:PV} {v:Value} (hW:bM E H w) (h:s.run P w=.ok v w) (r:aY E pv v):Yields P E H w s pv :=
 ⟨v,w,E,h,r,hW,.refl E H w⟩
def Env.add (E:Env) (b:Nat) (cs:Array Value):Env:=⟨upd E.G b (some cs),upd E.sz b (some cs.size),E.num⟩
section
variable {T:Tbl} {n:Nat} {E:Env} {F:PF} {H:PH} {a:Act} {w:World}
theorem bM.a0M (hW:bM E H w) {b:Nat} {cs:Array Value} (h:E.G b=some cs):b<w.heap.size:=by
 obtain⟨-,ty,fr,hh⟩:=hW.g b cs h
 exact (bND.1 hh).1
theorem bM.aHV (hW:bM E H w) {b n:Nat} (h:E.sz b=some n):b<w.heap.size:=by
 obtain⟨cur,ty,fr,hh,-⟩:=hW.s b n h
 exact (bND.1 hh).1
theorem bM.a0X (hW:bM E H w):H w.heap.size=none:=by
 cases h:H w.heap.size with
 | none=>rfl
 | some x=>have:=(hW.h _ x h).1; omega
theorem Env.brS (hW:bM E H w) (cs:Array Value):E.le (E.add w.heap.size cs):=by
 refine⟨fun b ds h=>?_,fun b m h=>?_,rfl⟩
 ·have:=hW.a0M h
  simp only[Env.add]
  rw[QH _ _ Om]
  exact h
 ·have:=hW.aHV h
  simp only[Env.add]
  rw[QH _ _ Om]
  exact h
theorem bM.bkD (hW:bM E H w) (cs:Array Value) (ty:TypeId):bM (E.add w.heap.size cs) H (w.alloc (.cells cs ty))∧Ext E H w (E.add w.heap.size cs) H (w.alloc (.cells cs ty)):=by
 have hle:=Env.brS hW cs
 refine⟨⟨fun b ds h=>?_,fun o x h=>?_,fun o m h=>?_⟩,⟨hle,rfl,rfl,rfl,by simp,fun b hb _=>Below.heap_alloc w _ b hb,fun o x h=>.inl ⟨x,h⟩,fun b ds h=>?_⟩⟩
 ·simp only[Env.add,upd] at h
  split at h
  ·rename_i e
   cases h
   subst e
   exact⟨fun x hx=>by (rw[hW.a0X] at hx; cases hx),ty,(0,0),heap_alloc_new w _⟩
  ·obtain⟨h1,ty',fr,h2⟩:=hW.g b ds h
   exact⟨h1,ty',fr,(Below.heap_alloc w _ b (hW.a0M h)).trans h2⟩
 ·obtain⟨h1,h2⟩:=hW.h o x h
  exact⟨by simp; omega,h2.mono hle (Below.heap_alloc w _ o h1)⟩
 ·simp only[Env.add,upd] at h
  split at h
  ·rename_i e
   cases h
   subst e
   exact⟨cs,ty,(0,0),heap_alloc_new w _,rfl⟩
  ·obtain⟨cur,ty',fr,h1,h2⟩:=hW.s o m h
   exact⟨cur,ty',fr,(Below.heap_alloc w _ o (hW.aHV h)).trans h1,h2⟩
 ·simp only[Env.add,upd] at h
  split at h
  ·rename_i e; exact .inr (.inr Om)
  ·exact .inl h
theorem a1Z {pv:PV} {v:Value} (h:aY E pv v) (h1:pv.one=true):v.oneCell'=true:=by
 cases h with
 | lit v=>cases v<;>first | rfl | (simp[PV.one] at h1)
 | junk v=>simp[PV.one] at h1
 | agg vs=>simp[PV.one] at h1
 | tup vs=>simp[PV.one] at h1
 | _=>rfl
theorem tB {pv:PV} {v:Value} (h:aY E pv v) (h1:pv.cells.all PV.one=true) :
  v.cells.size=pv.cells.length∧(∀ u∈v.cells.toList,u.oneCell'=true)∧∀ (j:Nat) q u,pv.cells[j]?=some q→v.cells[j]?=some u→aY E q u:=by
 by_cases hag:∃ cs,pv=.agg cs
 ·obtain⟨cs,rfl⟩:=hag
  cases h with
  | agg vs hl ho hr=>exact⟨hl,ho,hr⟩
 ·have hc:pv.cells=[pv]:=by
   cases pv<;>first | rfl | (exact absurd ⟨_,rfl⟩ hag)
  rw[hc] at h1 ⊢
  have ho:v.oneCell'=true:=a1Z h (by simpa using h1)
  have hv:v.cells=#[v]:=by
   cases v<;>first | rfl | (simp[Value.oneCell'] at ho)
  rw[hv]
  refine⟨rfl,by simpa using ho,fun j q u hq hu=>?_⟩
  cases j with
  | zero=>simp at hq hu; subst hq; subst hu; exact h
  | succ j=>simp at hq
theorem aoT {c:Sc} {p q:PV} {x y:Value} (hx:aY E p x) (hy:aY E q y) {b:Bool} (h:PV.eq1 c p q=some b) {t:TypeId} (ht:T.scalar t=some c) (d:Nat) :
  (Op.equalIn (d+1) t x y).run T.P w=.ok b w:=by
 unfold Tbl.scalar at ht
 unfold PV.eq1 at h
 split at h
 ·cases hx; cases hy
  split at h
  ·rename_i e
   subst e
   cases h
   split at ht<;>cases ht
   rename_i k2 hu
   exact run_equalIn_int w d t _ k2 _ _ hu
  ·cases h
 ·cases hx; cases hy; cases h
  split at ht<;>cases ht
  rename_i hu
  exact run_equalIn_bool w d t _ _ hu
 ·cases hx with
  | str s =>
  cases hy with
  | str s' =>
  cases h
  split at ht<;>cases ht
  rename_i hu
  rw[run_equalIn_string w d t s s' hu,ByteArray.toList_eq,ByteArray.toList_eq]
 ·cases h
theorem HS {t:TypeId} {c:Sc} (ht:T.scalar t=some c) (cs:Array Value) (k:Nat) (v:Value) (hk:cs[k]?=some v):(part t cs k).run T.P w=.ok v w:=by
 have hag:(isAgg t).run T.P w=.ok false w:=by
  unfold Tbl.scalar at ht
  split at ht<;>cases ht<;>(rename_i hu; simp[isAgg,run_underlying hu])
 simp[part,hag,hk]
theorem MG (d:Nat) (vs us:Array Value):∀ (fs:List Field) (ks:List Sc) (k:Nat) (xs ys:List PV) (b:Bool),T.pC k fs=some ks→PV.eqs ks xs ys=some b →
  (∀ (j:Nat) q u,xs[j]?=some q→vs[k+j]?=some u→aY E q u)→(∀ (j:Nat) q u,ys[j]?=some q→us[k+j]?=some u→aY E q u) →
  vs.size=k+xs.length→us.size=k+ys.length→(Op.eqFields (d+1) vs us fs).run T.P w=.ok b w
 | [],ks,k,xs,ys,b,hf,he,hx,hy,hl,hm=>by
  simp[Tbl.pC] at hf
  subst hf
  cases xs<;>cases ys<;>simp[PV.eqs] at he
  subst he
  simp[Op.eqFields]
 | f::fs,ks,k,xs,ys,b,hf,he,hx,hy,hl,hm=>by
  simp only[Tbl.pC] at hf
  split at hf
  ·rename_i c cs hc hcs
   split at hf
   ·rename_i hn
    cases hf
    cases xs with
    | nil=>simp[PV.eqs] at he
    | cons x xs =>
    cases ys with
    | nil=>simp[PV.eqs] at he
    | cons y ys =>
    simp only[PV.eqs] at he
    simp only[bLU] at hl hm
    have hv:vs[k]?=some vs[k]:=bMW Om
    have hu:us[k]?=some us[k]:=bMW Om
    have rx:aY E x vs[k]:=hx 0 x _ rfl (by simp)
    have ry:aY E y us[k]:=hy 0 y _ rfl (by simp)
    simp only[Op.eqFields]
    rw[if_pos hn.1]
    simp only[Sem.run_bind,hn.2,HS hc vs k _ hv,HS hc us k _ hu,Result.andThen_ok]
    split at he
    ·rename_i h1
     rw[aoT rx ry h1 hc d]
     simp only[Result.andThen_ok,bKC,bMU,if_false]
     refine MG d vs us fs cs (k+1) xs ys b hcs he (fun j q u a c=>hx (j+1) q u (by simpa using a) (by rw[← c]; congr 1; omega)) (fun j q u a c=>hy (j+1) q u (by simpa using a) (by rw[← c]; congr 1; omega)) Om Om
    ·rename_i h1
     rw[aoT rx ry h1 hc d]
     simp only[Result.andThen_ok,bKI,if_true,Sem.run_pure]
     split at he
     ·cases he; rfl
     ·cases he
    ·cases he
   ·cases hf
  ·cases hf
theorem a6P (neg:Bool) (a b:Bool) {t:TypeId} (ox oy:Operand) (ht:T.P.underlying t=some .bool) :
  (do eqGuard (if neg then .neq else .eql) t ox oy (.bool a) (.bool b); binOp (if neg then .neq else .eql) t (.bool a) (.bool b):Sem Value).run T.P w=.ok (.bool ((a==b) != neg)) w:=by
 cases neg
 ·simp[eqGuard,run_eql_bool w t a b ht]
 ·simp[eqGuard,run_neq_bool w t a b ht]
theorem aNP (neg:Bool) {pv:PV} {v:Value} (hx:aY E pv v) {b:Bool} (hb:pv.DC=some b) {t e:TypeId} (ox oy:Operand) (ht:T.P.underlying t=some (.slice e)) :
  (do eqGuard (if neg then .neq else .eql) t ox oy v (.slice none 0 0); binOp (if neg then .neq else .eql) t v (.slice none 0 0):Sem Value).run T.P w=.ok (.bool (b != neg)) w:=by
 have key:∀ (a:Option Addr) (l c:Nat),b=a.isNone→v=.slice a l c→(do eqGuard (if neg then .neq else .eql) t ox oy v (.slice none 0 0); binOp (if neg then .neq else .eql) t v (.slice none 0 0):Sem Value).run T.P w=.ok (.bool (b != neg)) w:=by
  intro a l c h1 h2
  subst h1 h2
  cases neg
  ·simp only[bMU,if_false,binOp]
   simp[eqGuard,run_equal_slice_nil w t e a l c ht]
  ·simp only[if_true,binOp]
   simp[eqGuard,run_equal_slice_nil w t e a l c ht]
 cases hx<;>simp only[PV.DC] at hb<;>try cases hb
 ·exact key _ _ _ rfl rfl
 ·rename_i rows _ _ _ _ _ _ ha _ _
  cases rows with
  | nil=>cases hb
  | cons r rs =>
   cases hb
   obtain⟨ad,rfl,-⟩:=ha (by simp)
   exact key _ _ _ rfl rfl
 ·exact key _ _ _ rfl rfl
theorem a0D (neg:Bool) {ks:List Sc} {xs ys:List PV} {x y:Value} (hx:aY E (.agg xs) x) (hy:aY E (.agg ys) y) {b:Bool} (hb:PV.eqs ks xs ys=some b) {t:TypeId} (ox oy:Operand)
  (ht:T.flat t=some ks):(do eqGuard (if neg then .neq else .eql) t ox oy x y; binOp (if neg then .neq else .eql) t x y:Sem Value).run T.P w=.ok (.bool (b != neg)) w:=by
 cases hx with
 | agg vs hl ho hr =>
 cases hy with
 | agg us hl' ho' hr' =>
 unfold Tbl.flat at ht
 split at ht
 ·rename_i fs hu
  split at ht
  ·rename_i hg
   have hfo:T.P.fieldsOf t=fs:=by simp[Program.fieldsOf,hu]
   have he:=MG (w:=w) 9998 vs us fs.toList ks 0 xs ys b ht hb (fun j q u a c=>hr j q u a (by simpa using c)) (fun j q u a c=>hr' j q u a (by simpa using c)) (by simpa using hl) (by simpa using hl')
   have h1:=run_equalIn_struct w 9999 t vs us (by rw[hfo]; exact hu) hg.1
   rw[hfo,he] at h1
   cases neg
   ·simp[run_eqGuard_agg w .eql t ox oy vs us hg.2,run_eql_struct,h1]
   ·simp[run_eqGuard_agg w .neq t ox oy vs us hg.2,run_neq_struct,h1]
  ·cases ht
 ·cases ht
end
open Go Go.RowKit
def lE (E:Env) (cs:List PV) (vs:Array Value):Prop :=
 vs.size=cs.length∧(∀ v∈vs.toList,v.oneCell'=true)∧∀ (j:Nat) pv v,cs[j]?=some pv→vs[j]?=some v→aY E pv v
def YW (vs:Array Value) (c:Nat):List Value→Array Value
 | []=>vs
 | u::us=>YW (vs.setIfInBounds c u) (c+1) us
theorem IB (off:Nat):∀ (us:List Value) (k:Nat) (vs:Array Value),(us.zipIdx k).foldl (fun cs (x:Value × Nat)=>cs.setIfInBounds (off+x.2) x.1) vs=YW vs (off+k) us
 | [],_,_=>rfl
 | u::us,k,vs=>by
  simp only[List.zipIdx_cons,List.foldl_cons,YW]
  rw[IB off us (k+1)]
  rfl
theorem yZ:∀ (ps:List PV) (c:Nat) (r:List PV),(setCells r c ps).length=r.length
 | [],_,_=>rfl
 | p::ps,c,r=>by simp[setCells,yZ ps]
theorem lE.bFL {E:Env} {cs:List PV} {vs:Array Value} (h:lE E cs vs) {c:Nat} {p:PV} {u:Value} (r:aY E p u) (h1:u.oneCell'=true):lE E (cs.set c p) (vs.setIfInBounds c u):=by
 obtain⟨hl,ho,hr⟩:=h
 refine⟨by simp[hl],fun v hv=>?_,fun j pv v hp hv=>?_⟩
 ·simp only[Array.toList_setIfInBounds] at hv
  rcases List.mem_or_eq_of_mem_set hv with hv | rfl
  ·exact ho v hv
  ·exact h1
 ·rw[List.getElem?_set] at hp
  rw[Array.getElem?_setIfInBounds] at hv
  split at hp
  ·rename_i e
   subst e
   rw[if_pos rfl] at hv
   split at hp
   ·rename_i hc
    rw[if_pos Om] at hv
    cases hp; cases hv
    exact r
   ·cases hp
  ·rename_i e
   rw[if_neg e] at hv
   exact hr j pv v hp hv
theorem lE.setCells {E:Env}:∀ (ps:List PV) (us:List Value) (c:Nat) (cs:List PV) (vs:Array Value),lE E cs vs→us.length=ps.length→(∀ u∈us,u.oneCell'=true) →
  (∀ (j:Nat) p u,ps[j]?=some p→us[j]?=some u→aY E p u)→lE E (setCells cs c ps) (YW vs c us)
 | [],[],_,_,_,h,_,_,_=>h
 | p::ps,u::us,c,cs,vs,h,hl,ho,hr=>by
  simp only[PM.setCells,YW]
  exact lE.setCells ps us (c+1) _ _ (h.bFL (hr 0 p u rfl rfl) (ho u (by simp))) (by simpa using hl) (fun x hx=>ho x (by simp[hx])) (fun j q x a b=>hr (j+1) q x (by simpa using a) (by simpa using b))
 | [],u::us,_,_,_,_,hl,_,_=>by simp at hl
 | p::ps,[],_,_,_,_,hl,_,_=>by simp at hl
theorem OJ {E:Env}:∀ {vs:List Value} {ps:List PV},ofValues vs=some ps→ps.length=vs.length∧∀ (j:Nat) p v,ps[j]?=some p→vs[j]?=some v→aY E p v
 | [],ps,h=>by simp[ofValues] at h; subst h; simp
 | v::vs,ps,h=>by
  simp only[ofValues] at h
  split at h
  ·rename_i p qs hp hq
   cases h
   obtain⟨h1,h2⟩:=OJ (E:=E) hq
   refine⟨by simp[h1],fun j q u a b=>?_⟩
   cases j with
   | zero=>simp at a b; subst a; subst b; exact sQ hp
   | succ j=>exact h2 j q u (by simpa using a) (by simpa using b)
  ·cases h
theorem OI:∀ {vs:List Value} {ps:List PV},ofValues vs=some ps→∀ v∈vs,v.oneCell'=true
 | [],_,_,v,hv=>by simp at hv
 | u::vs,ps,h,v,hv=>by
  simp only[ofValues] at h
  split at h
  ·rename_i p qs hp hq
   rcases bKJ.1 hv with rfl | hv
   ·unfold ofValue at hp
    split at hp<;>first | rfl | cases hp
   ·exact OI hq v hv
  ·cases h
section
variable {T:Tbl} {n:Nat} {E:Env} {F:PF} {H:PH} {a:Act} {w:World}
theorem JU {t:TypeId} {z:List PV} (h:T.zero t=some z):∃ i zv,T.P.info? t=some i∧i.zero=some zv∧lE E z zv.cells:=by
 unfold Tbl.zero at h
 cases hi:T.P.info? t with
 | none=>simp[hi] at h
 | some i =>
  cases hz:i.zero with
  | none=>simp[hi,hz] at h
  | some zv =>
   simp only[hi,hz,bNC] at h
   obtain⟨h1,h2⟩:=OJ (E:=E) h
   exact⟨i,zv,rfl,hz,by simpa using h1.symm,OI h,fun j p v a b=>h2 j p v a (by simpa using b)⟩
theorem FX {place:Nat→Option (Nat × Nat)} (hA:dV n E F a) (hN:E.num=T.num):∀ (parts:List (Nat × Operand)) (pl:List (Nat × Nat × aP)) (cs out:List PV) (vs:Array Value),
  T.partsOf place parts=some pl→nH cs F pl=some out→lE E cs vs→∃ us,Instr.fill place vs (parts.map fun (i,x)=>(i,a.eval x))=some us∧lE E out us
 | [],pl,cs,out,vs,h1,h2,h3=>by
  simp[Tbl.partsOf] at h1; subst h1
  simp[nH] at h2; subst h2
  exact⟨vs,rfl,h3⟩
 | (i,x)::rest,pl,cs,out,vs,h1,h2,h3=>by
  simp only[Tbl.partsOf] at h1
  split at h1
  ·rename_i off size p ps hp hx hps
   cases h1
   simp only[nH] at h2
   split at h2
   ·rename_i v hv
    split at h2
    ·rename_i hc
     obtain⟨c1,c2,c3⟩:=tB (bE hx hv hA hN) hc.2.2
     obtain⟨us,g1,g2⟩:=FX hA hN rest ps _ out _ hps h2 (lE.setCells v.cells (a.eval x).cells.toList off cs vs h3 (by simpa using c1) c2 (fun j q u hq hu=>c3 j q u hq (by simpa using hu)))
     refine⟨us,?_,g2⟩
     simp only[bLX,Instr.fill,hp]
     rw[if_neg (by simp; rw[c1,h3.1]; omega)]
     have hz:Array.foldl (fun (cs:Array Value) (x:Value × Nat)=>cs.setIfInBounds (off+x.2) x.1) vs (a.eval x).cells.zipIdx=YW vs off (a.eval x).cells.toList:=by
      rw[← Array.foldl_toList,Array.toList_zipIdx]
      exact IB off _ 0 vs
     exact hz ▸ g1
    ·cases h2
   ·cases h2
  ·cases h1
theorem aGR (fs:Array Field) (places:List (Nat × Nat)) (h:fs.toList.mapM (fun f=>(T.P.info? f.type).map fun i=>(f.offset,i.size))=some places) (i:Nat) :
  places[i]?=T.place fs i:=by
 have key:∀ (l:List Field) (ps:List (Nat × Nat)) (i:Nat),l.mapM (fun f=>(T.P.info? f.type).map fun i=>(f.offset,i.size))=some ps →
   ps[i]?=match l[i]? with | some f=>(T.size f.type).map (f.offset,·) | none=>none:=by
  intro l
  induction l with
  | nil=>intro ps i h; simp at h; subst h; simp
  | cons f l ih =>
   intro ps i h
   simp only[List.mapM_cons,Option.bind_eq_bind,Option.pure_def,bMV] at h
   obtain⟨p,hp,qs,hq,h⟩:=h
   cases h
   cases i with
   | zero =>
    simp only[List.getElem?_cons_zero,Tbl.size]
    rw[← hp]
    cases T.P.info? f.type<;>rfl
   | succ i=>simpa using ih qs i hq
 have:=key fs.toList places i h
 rw[this,Array.getElem?_toList]
 unfold Tbl.place
 cases fs[i]?<;>rfl
end
open Go Go.RowKit
section
variable {T:Tbl} {n:Nat} {E:Env} {F:PF} {H:PH} {a:Act} {w:World}
theorem TB {t:TypeId} {parts:Array (Nat × Operand)} {z:List PV} {pl:List (Nat × Nat × aP)} {out:List PV} (hz:T.zero t=some z)
  (hp:(∃ fs:Array Field,T.P.underlying t=some (.struct fs)∧(fs.toList.mapM (fun f=>(T.P.info? f.type).map fun i=>(f.offset,i.size))).isSome=true∧T.partsOf (T.place fs) parts.toList=some pl) ∨
   (∃ k e s,T.P.underlying t=some (.array k e)∧T.size e=some s∧T.partsOf (fun i=>some (i*s,s)) parts.toList=some pl))
  (ho:nH z F pl=some out) (hA:dV n E F a) (hN:E.num=T.num) :
  ∃ v,(Instr.build t (parts.map fun (i,x)=>(i,a.eval x))).run T.P w=.ok v w∧aY E (.agg out) v:=by
 obtain⟨it,zv,hit,hiz,hzr⟩:=JU (E:=E) hz
 rcases hp with ⟨fs,hu,hm,hpl⟩ | ⟨k,e,s,hu,hs,hpl⟩
 ·obtain⟨places,hpm⟩:=Option.isSome_iff_exists.1 hm
  obtain⟨us,h1,h2⟩:=FX hA hN _ _ _ _ _ hpl ho hzr
  refine⟨.agg us,run_build w t _ us ?_,.agg us h2.1 h2.2.1 h2.2.2⟩
  simp only[Program.built,hit,hu,hiz,hpm]
  have hpf:(fun (x:Nat)=>places.toArray[x]?)=T.place fs:=by
   funext i
   rw[List.getElem?_toArray]
   exact aGR fs places hpm i
  simp only[Array.toList_map]
  rw[hpf]
  exact h1
 ·obtain⟨us,h1,h2⟩:=FX hA hN _ _ _ _ _ hpl ho hzr
  refine⟨.agg us,run_build w t _ us ?_,.agg us h2.1 h2.2.1 h2.2.2⟩
  unfold Tbl.size at hs
  cases hie:T.P.info? e with
  | none=>simp[hie] at hs
  | some ie =>
   simp[hie] at hs
   subst hs
   simp only[Program.built,hit,hu,hiz,hie,Array.toList_map]
   exact h1
theorem arV {t:TypeId} {s:Nat} (h:T.size t=some s):∃ i,T.P.info? t=some i∧i.size=s:=by
 unfold Tbl.size at h
 cases hi:T.P.info? t with
 | none=>simp[hi] at h
 | some i=>exact⟨i,rfl,by simpa [hi] using h⟩
theorem hJ {t:TypeId} {s:Nat} (h:T.size t=some s):(sizeOf t).run T.P w=.ok s w:=by
 obtain⟨i,hi,rfl⟩:=arV h
 simp[sizeOf,typeInfo,hi]
theorem uU {t:TypeId} {b:Bool} (h:T.isAgg t=some b):(isAgg t).run T.P w=.ok b w:=by
 unfold Tbl.isAgg at h
 split at h
 ·rename_i hu; cases h; simp[isAgg,run_underlying hu]
 ·rename_i hu; cases h; simp[isAgg,run_underlying hu]
 ·rename_i d h1 h2 hu
  cases h
  cases d<;>first
   | exact (h1 _ rfl).elim
   | exact (h2 _ _ rfl).elim
   | (simp[isAgg,run_underlying hu]; done)
 ·cases h
theorem adX {t:TypeId} {pv pq:PV} {v:Value} (ht:T.isAgg t=some false) (hW:bM E H w) (hv:aY E pv v) (h:loadCells H pv 1=some [pq]) :
  ∃ u,(Instr.loadAt t v).run T.P w=.ok u w∧aY E pq u:=by
 obtain⟨b,off,rfl,-,us,hl,h1,hc,hr⟩:=mM hW hv h
 match us,hl with
 | [u],_ =>
  refine⟨u,?_,hr 0 pq u rfl rfl⟩
  have:=hc 0 u rfl
  simp only[bLL] at this
  simp[Instr.loadAt,Instr.sureAddr,loadVar,uU ht,this]
theorem TY {t:TypeId} {k:Nat} {pv:PV} {cs:List PV} {v:Value} (ht:T.isAgg t=some true) (hs:T.size t=some k) (hW:bM E H w) (hv:aY E pv v) (h:loadCells H pv k=some cs) :
  ∃ u,(Instr.loadAt t v).run T.P w=.ok u w∧aY E (.agg cs) u:=by
 obtain⟨b,off,rfl,hlen,us,hl,h1,hc,hr⟩:=mM hW hv h
 have hload:=run_loadCells_list (P:=T.P) w ⟨b,off,none⟩ us (fun j u hu=>by rw[add_plain]; exact hc j u hu)
 refine⟨.agg us.toArray,?_,.agg us.toArray (by simp[hl,hlen]) (by simpa using h1) (fun j q u hq hu=>hr j q u hq (by simpa using hu))⟩
 rw[hl] at hload
 simp[Instr.loadAt,Instr.sureAddr,loadVar,uU ht,hJ hs,hload]
end
open Go Go.RowKit
section
variable {T:Tbl} {n:Nat} {E:Env} {F:PF} {H:PH} {a:Act} {w:World}
theorem acA {t e:TypeId} (h:T.P.underlying t=some (.slice e)):T.P.elem t=e∧T.P.underlying t=some (.slice (T.P.elem t)):=by
 have:T.P.elem t=e:=by simp[Program.elem,h]
 exact⟨this,by rw[this]; exact h⟩
theorem a0C {t e:TypeId} {k:Nat} (h:T.P.underlying t=some (.array k e)):T.P.elem t=e∧T.P.arrayLen t=k∧T.P.underlying t=some (.array (T.P.arrayLen t) (T.P.elem t)):=by
 have h1:T.P.elem t=e:=by simp[Program.elem,h]
 have h2:T.P.arrayLen t=k:=by simp[Program.arrayLen,h]
 exact⟨h1,h2,by rw[h1,h2]; exact h⟩
theorem arU {cs:List PV} {b off:Nat} (h:aY E (.bH cs) (.pointer (some ⟨b,off,none⟩))) (d:Nat):aY E (.bH (cs.drop d)) (.pointer (some ⟨b,off+d,none⟩)):=by
 cases h with
 | bH u hsp hc h1 hr =>
  refine .bH (fun j=>u (d+j)) rfl (fun j pv hp=>?_) (fun j=>h1 _) (fun j pv hp=>hr (d+j) pv (by rw[← hp,bNH]))
  have:=hc (d+j) pv (by rw[← hp,bNH])
  simp only at this ⊢
  rw[← this]
  congr 1
  omega
theorem PB {cs:List PV} {v:Value} (h:aY E (.bH cs) v):∃ b off,v=.pointer (some ⟨b,off,none⟩):=by
 cases h with
 | bH u hsp hc h1 hr=>rename_i ad; exact⟨ad.block,ad.off,by rw[← lL hsp]⟩
theorem bmY {t e:TypeId} {s:Nat} {rows:List (List PV)} {v:Value} {k:IntKind} {i:Int} {r:List PV} (ht:T.P.underlying t=some (.slice e)) (hs:T.size e=some s)
  (hv:aY E (.sl s rows) v) (h0:0≤i) (hr:rows[i.toNat]?=some r):∃ u,(Instr.indexAt t v (.int k i)).run T.P w=.ok u w∧aY E (.bH r) u:=by
 obtain⟨h1,h2⟩:=acA ht
 cases hv with
 | sl u hcap bJK bIC ha ho bJO =>
 rename_i a0 cap
 have hlt:i.toNat<rows.length:=by
  rcases bKM i.toNat rows.length with h | h
  ·exact h
  ·rw[bLG h] at hr; cases hr
 obtain⟨ad,rfl,hsp,hc⟩:=ha (by intro h; subst h; simp at hlt)
 rw[lL hsp]
 refine⟨.pointer (some ⟨ad.block,ad.off+i.toNat*s,none⟩),?_,?_⟩
 ·rw[run_indexAt_slice w t _ _ _ _ _ h2,if_pos ⟨h0,by omega⟩,h1,hJ hs,Result.andThen_ok,add_plain]
 ·refine .bH (u i.toNat) rfl (fun j pv hp=>?_) (fun j=>ho _ _) (fun j pv hp=>bJO i.toNat j pv (by simp[at2,hr,hp]))
  simpa using hc i.toNat j pv (by simp[at2,hr,hp])
theorem bfZ {t e:TypeId} {o s off len:Nat} {v:Value} {k:IntKind} {i:Int} (ht:T.P.underlying t=some (.slice e)) (hs:T.size e=some s)
  (hv:aY E (.osl o s off len) v) (h0:0≤i) (hi:i<len):∃ u,(Instr.indexAt t v (.int k i)).run T.P w=.ok u w∧aY E (.ptr o s (off+i.toNat) 0) u:=by
 obtain⟨h1,h2⟩:=acA ht
 cases hv with
 | osl hb hsp bJP hlen bJK hn bIV =>
 rename_i cap m ad
 have hoff':ad.off=off*s:=by
  rcases bJP with h | h
  ·omega
  ·exact h
 have had:ad=⟨o,off*s,none⟩:=by cases ad; simp_all
 subst had
 refine⟨_,?_,.ptr o s _ 0⟩
 rw[run_indexAt_slice w t _ _ _ _ _ h2,if_pos ⟨h0,hi⟩,h1,hJ hs,Result.andThen_ok,add_plain,← bKY,bLL]
theorem adG {t e:TypeId} {k s:Nat} {v:Value} {kk:IntKind} {i:Int} {px pv:PV} (ht:T.P.underlying t=some (.array k e)) (hs:T.size e=some s)
  (hv:aY E px v) (h0:0≤i) (hi:i<k) (hpx:(∃ o s0 r c,px=.ptr o s0 r c∧pv=.ptr o s0 r (c+i.toNat*s))∨(∃ cs,px=.bH cs∧pv=.bH (cs.drop (i.toNat*s)))) :
  ∃ u,(Instr.indexAt t v (.int kk i)).run T.P w=.ok u w∧aY E pv u:=by
 obtain⟨h1,h2,h3⟩:=a0C ht
 rcases hpx with ⟨o,s0,r,c,rfl,rfl⟩ | ⟨cs,rfl,rfl⟩
 ·cases hv
  refine⟨_,?_,.ptr o s0 r _⟩
  rw[run_indexAt_array w t _ _ _ h3,h2,if_pos ⟨h0,hi⟩,h1,hJ hs,Result.andThen_ok,add_plain,bMG]
 ·obtain⟨b,off,rfl⟩:=PB hv
  refine⟨_,?_,arU hv _⟩
  rw[run_indexAt_array w t _ _ _ h3,h2,if_pos ⟨h0,hi⟩,h1,hJ hs,Result.andThen_ok,add_plain]
theorem MM {t:TypeId} {fs:Array Field} {f:Nat} {fd:Field} {s:Nat} {v:Value} {px pv:PV} (ht:T.P.underlying t=some (.struct fs)) (hf:fs[f]?=some fd) (hs:T.size fd.type=some (s+1))
  (hv:aY E px v) (hpx:(∃ o s0 r c,px=.ptr o s0 r c∧pv=.ptr o s0 r (c+fd.offset))∨(∃ cs,px=.bH cs∧pv=.bH (cs.drop fd.offset))) :
  ∃ u,(Instr.fieldAt t v f).run T.P w=.ok u w∧aY E pv u:=by
 rcases hpx with ⟨o,s0,r,c,rfl,rfl⟩ | ⟨cs,rfl,rfl⟩
 ·cases hv
  refine⟨_,?_,.ptr o s0 r _⟩
  simp[Instr.fieldAt,run_underlying ht,hf,Instr.sureAddr,fieldPlace,hJ hs,add_plain,bMG]
 ·obtain⟨b,off,rfl⟩:=PB hv
  refine⟨_,?_,arU hv _⟩
  simp[Instr.fieldAt,run_underlying ht,hf,Instr.sureAddr,fieldPlace,hJ hs,add_plain]
theorem aGE {t:TypeId} {cs:Array Value} {k:Nat} {u:Value} (ht:T.isAgg t=some false) (h:cs[k]?=some u):(part t cs k).run T.P w=.ok u w:=by
 simp[part,uU ht,h]
theorem aqY {t:TypeId} {cs:Array Value} {k s:Nat} (ht:T.isAgg t=some true) (hs:T.size t=some s):(part t cs k).run T.P w=.ok (.agg (cs.extract k (k+s))) w:=by
 simp[part,uU ht,hJ hs]
theorem axK {cs:List PV} {vs:Array Value} {k:Nat} {pv:PV} (hl:vs.size=cs.length) (hr:∀ (j:Nat) pv v,cs[j]?=some pv→vs[j]?=some v→aY E pv v) (h:cs[k]?=some pv) :
  ∃ u,vs[k]?=some u∧aY E pv u:=by
 have hlt:k<cs.length:=by
  rcases bKM k cs.length with h' | h'
  ·exact h'
  ·rw[bLG h'] at h; cases h
 exact⟨vs[k]'Om,bMW Om,hr k pv _ h (bMW Om)⟩
theorem axL {cs:List PV} {vs:Array Value} {k s:Nat} (hl:vs.size=cs.length) (h1:∀ v∈vs.toList,v.oneCell'=true) (hr:∀ (j:Nat) pv v,cs[j]?=some pv→vs[j]?=some v→aY E pv v) (h:k+s≤cs.length) :
  aY E (.agg ((cs.drop k).take s)) (.agg (vs.extract k (k+s))):=by
 refine .agg _ (by simp; omega) (fun v hv=>h1 v ?_) (fun j pv v hp hv=>?_)
 ·simp only[Array.toList_extract] at hv
  exact List.mem_of_mem_drop (List.mem_of_mem_take hv)
 ·rw[bMY] at hp
  split at hp
  ·rename_i hj
   rw[bNH] at hp
   refine hr (k+j) pv v hp ?_
   rw[Array.getElem?_extract] at hv
   split at hv
   ·exact hv
   ·cases hv
  ·cases hp
theorem a6T {t:TypeId} {fs:Array Field} {f:Nat} {fd:Field} {cs:List PV} {v:Value} {pv:PV} (ht:T.P.underlying t=some (.struct fs)) (hf:fs[f]?=some fd) (hg:T.isAgg fd.type=some false)
  (hv:aY E (.agg cs) v) (h:cs[fd.offset]?=some pv):∃ u,(Instr.field t v f).run T.P w=.ok u w∧aY E pv u:=by
 cases hv with
 | agg vs hl h1 hr =>
 obtain⟨u,hu,hru⟩:=axK hl hr h
 exact⟨u,by simp[Instr.field,run_underlying ht,hf,asAgg,aGE hg hu],hru⟩
theorem a0E {t:TypeId} {fs:Array Field} {f:Nat} {fd:Field} {cs:List PV} {s:Nat} {v:Value} (ht:T.P.underlying t=some (.struct fs)) (hf:fs[f]?=some fd) (hg:T.isAgg fd.type=some true) (hs:T.size fd.type=some s)
  (hv:aY E (.agg cs) v) (h:fd.offset+s≤cs.length):∃ u,(Instr.field t v f).run T.P w=.ok u w∧aY E (.agg ((cs.drop fd.offset).take s)) u:=by
 cases hv with
 | agg vs hl h1 hr=>exact⟨_,by simp[Instr.field,run_underlying ht,hf,asAgg,aqY hg hs],axL hl h1 hr h⟩
theorem a0Y {t e:TypeId} {k s:Nat} {g:Bool} {cs:List PV} {v:Value} {kk:IntKind} {i:Int} {pv:PV} (ht:T.P.underlying t=some (.array k e)) (hs:T.size e=some s) (hg:T.isAgg e=some g)
  (hv:aY E (.agg cs) v) (h0:0≤i) (hi:i<k) (h:(if g then (if i.toNat*s+s≤cs.length then some (.agg ((cs.drop (i.toNat*s)).take s)) else none) else cs[i.toNat*s]?)=some pv) :
  ∃ u,(Instr.index t v (.int kk i)).run T.P w=.ok u w∧aY E pv u:=by
 cases hv with
 | agg vs hl h1 hr =>
 cases g with
 | true =>
  simp only[if_true] at h
  split at h
  ·rename_i hle
   cases h
   exact⟨_,by simp[Instr.index,asIntOf,run_underlying ht,h0,hi,hJ hs,aqY hg hs],axL hl h1 hr hle⟩
  ·cases h
 | false =>
  simp only[bMU,if_false] at h
  obtain⟨u,hu,hru⟩:=axK hl hr h
  exact⟨u,by simp[Instr.index,asIntOf,run_underlying ht,h0,hi,hJ hs,aGE hg hu],hru⟩
theorem aCX {t:TypeId} {l:List UInt8} {v:Value} {kk:IntKind} {i:Int} {pv:PV} (ht:T.P.underlying t=some .string) (hv:aY E (.str l) v) (h0:0≤i) (h:(l[i.toNat]?).map (fun b=>PV.int .u8 b.toNat)=some pv) :
  ∃ u,(Instr.index t v (.int kk i)).run T.P w=.ok u w∧aY E pv u:=by
 cases hv with
 | str s =>
 simp only[bKB] at h
 obtain⟨b,hb,rfl⟩:=h
 have hb':s[i.toNat]?=some b:=by
  have hlt:i.toNat<s.data.toList.length:=by
   rcases bKM i.toNat s.data.toList.length with h' | h'
   ·exact h'
   ·rw[bLG h'] at hb; cases hb
  have hsz:i.toNat<s.size:=by
   have e1:s.data.toList.length=s.size:=by rw[bMR]; rfl
   omega
  rw[getElem?_pos s i.toNat hsz]
  rw[bKD hlt] at hb
  cases hb
  rfl
 exact⟨_,by simp[Instr.index,asIntOf,run_underlying ht,h0,hb'],.int _ _⟩
theorem LJ {x:Option Operand} {p:Option aP} {d m:Int} (hx:T.opt x=some p) (h:bnd F d p=some m) (hA:dV n E F a) (hN:E.num=T.num) :
  (x=none∧m=d)∨∃ o k,x=some o∧a.eval o=.int k m:=by
 cases x with
 | none =>
  simp[Tbl.opt] at hx
  subst hx
  simp[bnd] at h
  exact .inl ⟨rfl,h.symm⟩
 | some o =>
  simp only[Tbl.opt,bKB] at hx
  obtain⟨q,hq,rfl⟩:=hx
  simp only[bnd,bMV] at h
  obtain⟨pv,hp,hi⟩:=h
  have r:=bE hq hp hA hN
  unfold PV.intOf at hi
  split at hi
  ·cases hi
   generalize hev:a.eval o=ev at r
   cases r
   exact .inr ⟨o,_,rfl,hev⟩
  ·cases hi
theorem jK {isS:Bool} {lo hi mx:Option Operand} {pl ph pm:Option aP} {len cap:Nat} {l h:Int} (hl:T.opt lo=some pl) (hh:T.opt hi=some ph) (hm:T.opt mx=some pm)
  (bl:bnd F 0 pl=some l) (bh:bnd F len ph=some h) (hlen:len≤cap) (h0:0≤l) (h1:l≤h) (h2:h≤len) (hm':pm=none∨(hi≠none∧bnd F 0 pm=some h)) (hA:dV n E F a) (hN:E.num=T.num) :
  ∃ m,(Instr.sliceBounds isS len cap (lo.map a.eval) (hi.map a.eval) (mx.map a.eval)).run T.P w=.ok (l.toNat,h.toNat,m) w∧h.toNat≤m∧m≤cap:=by
 have kl:=LJ hl bl hA hN
 have kh:=LJ hh bh hA hN
 rcases hm' with rfl | ⟨hne,bm⟩
 ·have hmx:mx=none:=by
   cases mx with
   | none=>rfl
   | some x =>
    simp only[Tbl.opt,bKB] at hm
    obtain⟨q,-,hq⟩:=hm
    cases hq
  subst hmx
  refine⟨cap,?_,by omega,bJV _⟩
  rcases kl with ⟨rfl,rfl⟩ | ⟨ol,k1,rfl,e1⟩<;>rcases kh with ⟨rfl,rfl⟩ | ⟨oh,k2,rfl,e2⟩
  ·simp[Instr.sliceBounds]
  ·simp only[Instr.sliceBounds,Option.map_none,bLF,e2,Sem.run_bind,Sem.run_pure,Result.andThen_ok,run_sliceBound w k2 h cap _ Om Om]
   rfl
  ·simp only[Instr.sliceBounds,Option.map_none,bLF,e1,Sem.run_bind,Sem.run_pure,Result.andThen_ok,run_sliceBound w k1 l len _ Om Om]
   simp
  ·simp only[Instr.sliceBounds,Option.map_none,bLF,e1,e2,Sem.run_bind,Sem.run_pure,Result.andThen_ok,run_sliceBound w k2 h cap _ Om Om,run_sliceBound w k1 l h.toNat _ Om Om]
 ·have km:=LJ hm bm hA hN
  rcases km with ⟨rfl,h00⟩ | ⟨om,k3,rfl,e3⟩
  ·simp[Tbl.opt] at hm
   subst hm
   refine⟨cap,?_,by omega,bJV _⟩
   rcases kh with ⟨rfl,rfl⟩ | ⟨oh,k2,rfl,e2⟩
   ·exact absurd rfl hne
   ·rcases kl with ⟨rfl,rfl⟩ | ⟨ol,k1,rfl,e1⟩
    ·simp only[Instr.sliceBounds,Option.map_none,bLF,e2,Sem.run_bind,Sem.run_pure,Result.andThen_ok,run_sliceBound w k2 h cap _ Om Om]
     rfl
    ·simp only[Instr.sliceBounds,Option.map_none,bLF,e1,e2,Sem.run_bind,Sem.run_pure,Result.andThen_ok,run_sliceBound w k2 h cap _ Om Om,run_sliceBound w k1 l h.toNat _ Om Om]
  ·rcases kh with ⟨rfl,rfl⟩ | ⟨oh,k2,rfl,e2⟩
   ·exact absurd rfl hne
   ·refine⟨h.toNat,?_,bJV _,by omega⟩
    rcases kl with ⟨rfl,rfl⟩ | ⟨ol,k1,rfl,e1⟩
    ·simp only[Instr.sliceBounds,Option.map_none,bLF,e2,e3,Sem.run_bind,Sem.run_pure,Result.andThen_ok,run_sliceBound w k3 h cap _ Om Om,run_sliceBound w k2 h h.toNat _ Om Om]
     rfl
    ·simp only[Instr.sliceBounds,Option.map_none,bLF,e1,e2,e3,Sem.run_bind,Sem.run_pure,Result.andThen_ok,run_sliceBound w k3 h cap _ Om Om,run_sliceBound w k2 h h.toNat _ Om Om,run_sliceBound w k1 l h.toNat _ Om Om]
end
open Go Go.RowKit
section
variable {T:Tbl} {n:Nat} {E:Env} {F:PF} {H:PH} {a:Act} {w:World}
theorem aOX {rows:List (List PV)} {l h i j:Nat} {pv:PV} (e:at2 ((rows.take h).drop l) i j=some pv):at2 rows (l+i) j=some pv:=by
 unfold at2 at *
 rw[bNH,bMY] at e
 split at e
 ·exact e
 ·simp at e
theorem sC {t e:TypeId} {s l h m len cap:Nat} {a0:Option Addr} {lo hi mx:Option Value} (ht:T.P.underlying t=some (.slice e)) (hs:T.size e=some s)
  (hb:(Instr.sliceBounds true len cap lo hi mx).run T.P w=.ok (l,h,m) w) :
  (Instr.sliceAt t (.slice a0 len cap) lo hi mx).run T.P w=.ok (.slice (if m=l then a0 else a0.map (·.add (l*s))) (h-l) (m-l)) w:=by
 simp[Instr.sliceAt,Instr.slice,run_underlying ht,hb,hJ hs]
theorem BD {t e : TypeId} {s : Nat} {x : Value} {lo hi mx : Option Operand} {pl ph pm : Option aP} {len : Nat} {l h : Int} {px pv : PV} (ht : T.P.underlying t = some (.slice e)) (hs : T.size e = some s)
    (hl : T.opt lo = some pl) (hh : T.opt hi = some ph) (hm : T.opt mx = some pm) (hx : aY E px x) (bl : bnd F 0 pl = some l) (bh : bnd F len ph = some h)
    (hlen : (px = .aB ∧ len = 0) ∨ (∃ s0 rows, px = .sl s0 rows ∧ len = rows.length) ∨ (∃ o s0 off, px = .osl o s0 off len))
    (hpv : (pm = none ∧ PV.slice s px l h none = some pv) ∨ (hi ≠ none ∧ ∃ m, bnd F 0 pm = some m ∧ PV.slice s px l h (some m) = some pv)) (hA : dV n E F a) (hN : E.num = T.num) :
    ∃ v, (Instr.sliceAt t x (lo.map a.eval) (hi.map a.eval) (mx.map a.eval)).run T.P w = .ok v w ∧ aY E pv v := by
  have hP : ∃ m0, PV.slice s px l h m0 = some pv ∧ (m0 = none → pm = none) ∧ ∀ m, m0 = some m → hi ≠ none ∧ bnd F 0 pm = some m := by
    rcases hpv with ⟨h1, h2⟩ | ⟨h1, m, h2, h3⟩
    · exact ⟨none, h2, fun _ => h1, fun m hm => by cases hm⟩
    · exact ⟨some m, h3, fun h => (by cases h), fun m' hm' => by cases hm'; exact ⟨h1, h2⟩⟩
  obtain ⟨m0, hP, hn, hsm⟩ := hP
  rcases hlen with ⟨rfl, rfl⟩ | ⟨s0, rows, rfl, rfl⟩ | ⟨o, s0, off, rfl⟩
  · simp only [PV.slice] at hP
    split at hP
    · rename_i hc
      cases hP
      obtain ⟨rfl, rfl, hm0⟩ := hc
      cases hx
      obtain ⟨m, hb, hm1, hm2⟩ := jK (T := T) (E := E) (w := w) (isS := true) (len := 0) (cap := 0) hl hh hm bl bh (bJV _) Om Om Om
        (by rcases hm0 with rfl | rfl
            · exact .inl (hn rfl)
            · exact .inr (hsm 0 rfl)) hA hN
      have hmz : m = 0 := by omega
      subst hmz
      refine ⟨_, sC ht hs hb, ?_⟩
      simp
      exact .aB
    · cases hP
  · simp only [PV.slice] at hP
    split at hP
    · rename_i hc
      cases hP
      obtain ⟨rfl, h0, h1, h2, hm0⟩ := hc
      cases hx with
      | sl u hcap bJK bIC ha ho bJO =>
      rename_i a0 cap
      obtain ⟨m, hb, hm1, hm2⟩ := jK (T := T) (E := E) (w := w) (isS := true) (len := rows.length) (cap := cap) hl hh hm bl bh hcap h0 h1 h2
        (by rcases hm0 with rfl | rfl
            · exact .inl (hn rfl)
            · exact .inr (hsm h rfl)) hA hN
      refine ⟨_, sC ht hs hb, ?_⟩
      have hlen : ((rows.take h.toNat).drop l.toNat).length = h.toNat - l.toNat := by
        rw [bLV, bKL]; omega
      rw [← hlen]
      refine .sl (fun i j => u (l.toNat + i) j) (by rw [hlen]; omega) Om (fun r hr => bIC r (List.mem_of_mem_take (List.mem_of_mem_drop hr))) (fun hne => ?_) (fun i j => ho _ _) (fun i j pv hp => bJO _ _ pv (aOX hp))
      have hpos : 0 < ((rows.take h.toNat).drop l.toNat).length := List.length_pos_iff.2 hne
      rw [hlen] at hpos
      obtain ⟨ad, rfl, hsp, hc⟩ := ha (by intro e; subst e; simp at h2; omega)
      rw [if_neg Om]
      refine ⟨⟨ad.block, ad.off + l.toNat * s0, none⟩, ?_, rfl, fun i j pv hp => ?_⟩
      · rw [bLF, lL hsp, add_plain]
      · have := hc (l.toNat + i) j pv (aOX hp)
        show E.cell ad.block (ad.off + l.toNat * s0 + i * s0 + j) = _
        rw [← this]
        congr 1
        rw [bKY]; omega
    · cases hP
  · simp only [PV.slice] at hP
    split at hP
    · rename_i hc
      cases hP
      obtain ⟨rfl, h0, h1, h2, hm0⟩ := hc
      cases hx with
      | osl hb0 hsp bJP hlen bJK hnn bIV =>
      rename_i cap N ad
      obtain ⟨m, hb, hm1, hm2⟩ := jK (T := T) (E := E) (w := w) (isS := true) (len := len) (cap := cap) hl hh hm bl bh hlen h0 h1 h2
        (by rcases hm0 with rfl | rfl
            · exact .inl (hn rfl)
            · exact .inr (hsm h rfl)) hA hN
      refine ⟨_, sC ht hs hb, ?_⟩
      by_cases hml : m = l.toNat
      · rw [if_pos hml]
        have e1 : h.toNat - l.toNat = 0 := by omega
        have e2 : m - l.toNat = 0 := by omega
        rw [e1, e2]
        refine .osl hb0 hsp (.inl rfl) (bJV _) (by simp [maxLen]) hnn ?_
        have : (off + l.toNat) * s0 ≤ off * s0 + cap * s0 := by rw [bKY]; exact Nat.add_le_add_left (bLA _ Om) _
        omega
      · rw [if_neg hml, bLF, lL hsp, add_plain]
        refine .osl hb0 rfl ?_ Om Om hnn ?_
        · rcases bJP with h | h
          · exact .inl Om
          · exact .inr (by simp only [h, bKY])
        · have : (off + l.toNat) * s0 + (m - l.toNat) * s0 ≤ off * s0 + cap * s0 := by
            rw [← bKY, ← bKY]
            exact bLA _ Om
          omega
    · cases hP
theorem amW {t:TypeId} {x:Value} {lo hi:Option Operand} {pl ph:Option aP} {str:List UInt8} {l h:Int} (ht:T.P.underlying t=some .string)
  (hl:T.opt lo=some pl) (hh:T.opt hi=some ph) (hx:aY E (.str str) x) (bl:bnd F 0 pl=some l) (bh:bnd F str.length ph=some h) (h0:0≤l) (h1:l≤h) (h2:h≤str.length)
  (hA:dV n E F a) (hN:E.num=T.num) :
  ∃ v,(Instr.sliceAt t x (lo.map a.eval) (hi.map a.eval) none).run T.P w=.ok v w∧aY E (.str ((str.take h.toNat).drop l.toNat)) v:=by
 cases hx with
 | str s =>
 have hsz:s.data.toList.length=s.size:=by rw[bMR]; rfl
 rw[hsz] at bh h2
 obtain⟨m,hb,hm1,hm2⟩:=jK (T:=T) (E:=E) (w:=w) (isS:=false) (len:=s.size) (cap:=s.size) (mx:=none) (pm:=none) hl hh rfl bl bh (bJV _) h0 h1 h2 (.inl rfl) hA hN
 simp only[Option.map_none] at hb
 refine⟨.string (s.extract l.toNat h.toNat),?_,?_⟩
 ·simp[Instr.sliceAt,Instr.slice,run_underlying ht,hb]
 ·have e:(s.data.toList.take h.toNat).drop l.toNat=(s.extract l.toNat h.toNat).data.toList:=by
   rw[Lib.extract_data,List.drop_take]
  rw[e]
  exact .str _
theorem aaL (s:Nat):∀ (n:Nat) (cs:List PV),(chunks s n cs).length=n
 | 0,_=>rfl
 | n+1,cs=>by simp[chunks,aaL s n]
theorem aaM {s:Nat}:∀ {n:Nat} {cs:List PV},n*s≤cs.length→∀ r∈chunks s n cs,r.length=s
 | 0,_,_,r,hr=>by simp[chunks] at hr
 | n+1,cs,h,r,hr=>by
  rw[bKY,Nat.one_mul] at h
  simp only[chunks,bKJ] at hr
  rcases hr with rfl | hr
  ·rw[bKL]; omega
  ·exact aaM (by rw[bLV]; omega) r hr
theorem LO {s:Nat}:∀ {n:Nat} {cs:List PV} {i j:Nat} {pv:PV},at2 (chunks s n cs) i j=some pv→cs[i*s+j]?=some pv
 | 0,_,i,j,pv,h=>by simp[chunks,at2] at h
 | n+1,cs,0,j,pv,h=>by
  simp only[chunks,at2,List.getElem?_cons_zero,bNC,bMY] at h
  split at h
  ·rw[Nat.zero_mul,bKN]; exact h
  ·cases h
 | n+1,cs,i+1,j,pv,h=>by
  have:=LO (n:=n) (cs:=cs.drop s) (i:=i) (j:=j) (pv:=pv) (by simpa [chunks,at2] using h)
  rw[bNH] at this
  rw[← this]; congr 1; rw[bKY]; omega
theorem aID {t e:TypeId} {k s:Nat} {v:Value} {cs:List PV} (ht:T.P.underlying t=some (.array k e)) (hs:T.size e=some s) (hv:aY E (.bH cs) v) (hc:k*s≤cs.length) (hk:k≤maxLen) (hA:dV n E F a) (hN:E.num=T.num) :
  ∃ u,(Instr.sliceAt t v none none none).run T.P w=.ok u w∧aY E (.sl s (chunks s k cs)) u:=by
 obtain⟨m,hb,hm1,hm2⟩:=jK (T:=T) (E:=E) (w:=w) (F:=F) (a:=a) (n:=n) (isS:=false) (len:=k) (cap:=k) (lo:=none) (hi:=none) (mx:=none) (pl:=none) (ph:=none) (pm:=none) (l:=0) (h:=(k:Int)) rfl rfl rfl rfl rfl (bJV _) Om Om Om (.inl rfl) hA hN
 simp only[Option.map_none,bMX,Int.toNat_zero] at hb
 have hmk:m=k:=by omega
 subst hmk
 cases hv with
 | bH u hsp bJF h1 hr =>
 rename_i ad
 refine⟨.slice (some ad) m m,?_,?_⟩
 ·have hz:(if m=0 then ad else ad.add (0*s))=ad:=by
   split
   ·rfl
   ·rw[lL hsp,add_plain]; simp
  simp[Instr.sliceAt,run_underlying ht,Instr.sureAddr,hb,hJ hs]
  intro _
  rw[lL hsp,add_plain]; simp
 ·have hl:=aaL s m cs
  have key:aY E (.sl s (chunks s m cs)) (.slice (some ad) (chunks s m cs).length m):=by
   refine .sl (fun i j=>u (i*s+j)) (by rw[hl]; exact bJV _) hk (aaM hc) (fun _=>⟨ad,rfl,hsp,fun i j pv hp=>?_⟩) (fun i j=>h1 _) (fun i j pv hp=>hr _ pv (LO hp))
   have:=bJF (i*s+j) pv (LO hp)
   rw[← this]; congr 1; omega
  rw[hl] at key
  exact key
theorem aNH {e:TypeId} {x:Value} {px:PV} (hW:bM E H w) (hx:aY E px x) (h1:px.cells.all PV.one=true):Yields T.P E H w (Instr.box e x) (.bH px.cells):=by
 obtain⟨c1,c2,c3⟩:=tB hx h1
 obtain⟨hW',hE⟩:=hW.bkD x.cells e
 refine⟨.pointer (some ⟨w.heap.size,0,none⟩),_,_,by simp[Instr.box,newVar,newRow],?_,hW',hE⟩
 refine .bH (fun j=>if h:j<x.cells.size then x.cells[j] else .int .i64 0) rfl (fun j pv hp=>?_) (fun j=>?_) (fun j pv hp=>?_)
 ·have hj:j<x.cells.size:=by
   rw[c1]
   rcases bKM j px.cells.length with h' | h'
   ·exact h'
   ·rw[bLG h'] at hp; cases hp
  simp[Env.cell,Env.add,upd,hj]
 ·split
  ·rename_i hj
   exact c2 _ (Array.getElem_mem_toList hj)
  ·rfl
 ·have hj:j<x.cells.size:=by
   rw[c1]
   rcases bKM j px.cells.length with h' | h'
   ·exact h'
   ·rw[bLG h'] at hp; cases hp
  rw[dif_pos hj]
  exact (c3 j pv _ hp (bMW hj)).mono hE.env
end
open Go Go.RowKit
theorem sK {s:Nat}:∀ (rows:List (List PV)) (i j:Nat),(∀ r∈rows,r.length=s)→j<s→rows.flatten[i*s+j]?=at2 rows i j
 | [],i,j,_,_=>by simp[at2]
 | r::rows,i,j,h,hj=>by
  have hr:r.length=s:=h r (by simp)
  rw[bNG]
  cases i with
  | zero =>
   rw[bMH Om]
   simp[at2]
  | succ i =>
   rw[bLS (by rw[hr,Nat.succ_mul]; omega)]
   have e:(i+1)*s+j-r.length=i*s+j:=by rw[hr,Nat.succ_mul]; omega
   rw[e,sK rows i j (fun r hr=>h r (by simp[hr])) hj]
   simp[at2]
theorem mA {s:Nat}:∀ (rows:List (List PV)),(∀ r∈rows,r.length=s)→rows.flatten.length=rows.length*s
 | [],_=>by simp
 | r::rows,h=>by
  rw[bNG,bKA,mA rows (fun r hr=>h r (by simp[hr])),h r (by simp),bLU,Nat.succ_mul]
  omega
theorem pW:∀ (ps:List PV) (x y:List PV) (c:Nat),setCells (x++y) (x.length+c) ps=x++setCells y c ps
 | [],x,y,c=>rfl
 | p::ps,x,y,c=>by
  simp only[setCells]
  rw[bMZ _ _ Om,Nat.add_sub_cancel_left]
  exact pW ps x _ (c+1)
theorem rC:∀ (ps:List PV) (x y:List PV) (c:Nat),c+ps.length≤x.length→setCells (x++y) c ps=setCells x c ps++y
 | [],x,y,c,_=>rfl
 | p::ps,x,y,c,h=>by
  simp only[bLU] at h
  simp only[setCells]
  rw[List.set_append_left _ _ Om]
  exact rC ps _ y (c+1) (by rw[bLQ]; omega)
theorem DR:∀ (ps x:List PV) (z:List PV),x.length=ps.length→setCells (z++x) z.length ps=z++ps
 | [],x,z,h=>by
  have:x=[]:=bNJ (by simpa using h)
  subst this; rfl
 | p::ps,[],z,h=>by simp at h
 | p::ps,y::x,z,h=>by
  simp only[setCells]
  rw[bMZ _ _ (bJV _),bMI,List.set_cons_zero]
  have:=DR ps x (z++[p]) (by simpa using h)
  simp only[bKA,bLU,bMD,bKU,List.cons_append,bML] at this
  simpa using this
theorem TP {s:Nat} (ps:List PV) (hps:ps.length=s):∀ (rows:List (List PV)) (i:Nat),(∀ r∈rows,r.length=s)→i<rows.length→(rows.set i ps).flatten=setCells rows.flatten (i*s) ps
 | [],i,_,h=>by simp at h
 | r::rows,i,h,hi=>by
  have hr:r.length=s:=h r (by simp)
  cases i with
  | zero =>
   rw[List.set_cons_zero,bNG,bNG,Nat.zero_mul,rC _ _ _ _ Om]
   have:=DR ps r [] Om
   simp only[bML,bMD] at this
   rw[this]
  | succ i =>
   rw[List.set_cons_succ,bNG,bNG,TP ps hps rows i (fun r hr=>h r (by simp[hr])) (by simpa using hi)]
   have:=pW ps r rows.flatten (i*s)
   rw[← this,hr,Nat.succ_mul,Nat.add_comm]
section
variable {T:Tbl} {n:Nat} {E:Env} {F:PF} {H:PH} {a:Act} {w:World}
theorem DA {s:Nat} (hA:dV n E F a) (hN:E.num=T.num):∀ (parts:List (Nat × Operand)) (pl:List (Nat × aP)) (rows out:List (List PV)) (vs:Array Value),
  T.pN parts=some pl→fU s rows F pl=some out→(∀ r∈rows,r.length=s)→lE E rows.flatten vs →
  ∃ us,Instr.fill (fun i=>some (i*s,s)) vs (parts.map fun (i,x)=>(i,a.eval x))=some us∧lE E out.flatten us∧(∀ r∈out,r.length=s)∧out.length=rows.length
 | [],pl,rows,out,vs,h1,h2,h3,h4=>by
  simp[Tbl.pN] at h1; subst h1
  simp[fU] at h2; subst h2
  exact⟨vs,rfl,h4,h3,rfl⟩
 | (i,x)::rest,pl,rows,out,vs,h1,h2,h3,h4=>by
  simp only[Tbl.pN] at h1
  split at h1
  ·rename_i p ps hx hps
   cases h1
   simp only[fU] at h2
   split at h2
   ·rename_i v hv
    split at h2
    ·rename_i hc
     obtain⟨c1,c2,c3⟩:=tB (bE hx hv hA hN) hc.2.2
     have hfs:=TP v.cells hc.1 rows i h3 hc.2.1
     have h4':=lE.setCells v.cells (a.eval x).cells.toList (i*s) _ vs h4 (by simpa using c1) c2 (fun j q u hq hu=>c3 j q u hq (by simpa using hu))
     rw[← hfs] at h4'
     obtain⟨us,g1,g2,g3,g4⟩:=DA hA hN rest ps _ out _ hps h2 (fun r hr=>by
      rcases List.mem_or_eq_of_mem_set hr with hr | rfl
      ·exact h3 r hr
      ·exact hc.1) h4'
     refine⟨us,?_,g2,g3,by simpa using g4⟩
     simp only[bLX,Instr.fill]
     have hsz:vs.size=rows.length*s:=by rw[h4.1,mA rows h3]
     have hle:i*s+s≤rows.length*s:=by
      have:(i+1)*s≤rows.length*s:=bLA _ hc.2.1
      rw[Nat.succ_mul] at this
      exact this
     rw[if_neg (by simp; rw[c1,hsz]; omega)]
     have hz:Array.foldl (fun (cs:Array Value) (x:Value × Nat)=>cs.setIfInBounds (i*s+x.2) x.1) vs (a.eval x).cells.zipIdx=YW vs (i*s) (a.eval x).cells.toList:=by
      rw[← Array.foldl_toList,Array.toList_zipIdx]
      exact IB (i*s) _ 0 vs
     exact hz ▸ g1
    ·cases h2
   ·cases h2
  ·cases h1
theorem lE.bkU {z:List PV} {zv:Array Value} {s len:Nat} (h:lE E z zv) (hs:z.length=s) (h0:0<s) :
  lE E (bJW len z).flatten ((Array.range (len*s)).map (zv[·%zv.size]!)):=by
 have bJG:∀ r∈bJW len z,r.length=s:=fun r hr=>by rw[(List.mem_replicate.1 hr).2]; exact hs
 have hzs:zv.size=s:=by rw[h.1,hs]
 refine⟨by rw[mA _ bJG]; simp,fun v hv=>?_,fun k pv v hp hv=>?_⟩
 ·simp only[Array.toList_map,bKX] at hv
  obtain⟨k,-,rfl⟩:=hv
  have hk:k%zv.size<zv.size:=bLJ _ Om
  rw[getElem!_pos zv _ hk]
  exact h.2.1 _ (Array.getElem_mem_toList hk)
 ·have hkl:k<len*s:=by
   rcases bKM k (len*s) with h' | h'
   ·exact h'
   ·rw[Array.getElem?_eq_none (by simpa using h')] at hv; cases hv
  have hmod:k%s<s:=bLJ _ h0
  have hdiv:k/s<len:=(bMP h0).2 hkl
  have hk:k/s*s+k%s=k:=by rw[bKT]; exact bNA k s
  have e:=sK (bJW len z) (k/s) (k%s) bJG hmod
  rw[hk] at e
  rw[e] at hp
  simp only[at2,List.getElem?_replicate,hdiv,if_true,bNC] at hp
  simp only[Array.getElem?_map,Array.getElem?_range,hkl,if_true,bLF] at hv
  rw[getElem!_pos zv _ (by rw[hzs]; exact hmod)] at hv
  cases hv
  refine h.2.2 (k%s) pv _ (by simpa only [hzs] using hp) ?_
  simp only[hzs]
  exact bMW (by rw[hzs]; exact hmod)
theorem LM {t e:TypeId} {s len:Nat} {z:List PV} {parts:Array (Nat × Operand)} {pl:List (Nat × aP)} {out:List (List PV)} (ht:T.P.underlying t=some (.slice e)) (hs:T.size e=some s) (hz:T.zero e=some z)
  (hzl:z.length=s) (h0:0<s) (hpl:T.pN parts.toList=some pl) (hle:len*s≤16777216) (ho:fU s (bJW len z) F pl=some out) (hA:dV n E F a) (hN:E.num=T.num) :
  ∃ us,(Instr.buildSlice t len (parts.map fun (i,x)=>(i,a.eval x))).run T.P w=.ok (.slice (some ⟨w.heap.size,0,none⟩) len len) (w.alloc (.cells us e))∧lE E out.flatten us∧(∀ r∈out,r.length=s)∧out.length=len:=by
 obtain⟨i,zv,hi,hiz,hzr⟩:=JU (E:=E) hz
 obtain⟨i',hi',hsz⟩:=arV hs
 rw[hi] at hi'
 cases hi'
 have bJG:∀ r∈bJW len z,r.length=s:=fun r hr=>by rw[(List.mem_replicate.1 hr).2]; exact hzl
 obtain⟨us,g1,g2,g3,g4⟩:=DA hA hN parts.toList pl _ out _ hpl ho bJG (hzr.bkU (len:=len) hzl h0)
 rw[bNI] at g4
 refine⟨us,?_,g2,g3,g4⟩
 by_cases hl0:len=0
 ·subst hl0
  have hpe:parts.toList=[]:=by
   cases hpp:parts.toList with
   | nil=>rfl
   | cons x rest =>
    rw[hpp] at hpl
    obtain⟨i,y⟩:=x
    simp only[Tbl.pN] at hpl
    split at hpl
    ·cases hpl
     simp only[fU] at ho
     split at ho
     ·split at ho
      ·rename_i hc; simp at hc
      ·cases ho
     ·cases ho
    ·cases hpl
  rw[hpe] at g1
  simp only[List.map_nil,Instr.fill,Nat.zero_mul] at g1
  have:us=#[]:=by
   have h1:=g2.1
   rw[mA out g3,g4,Nat.zero_mul] at h1
   exact Array.eq_empty_of_size_eq_zero h1
  subst this
  have hpa:parts=#[]:=by
   apply Array.ext'
   simpa using hpe
  subst hpa
  have hr0:Array.range 0=#[]:=by apply Array.ext'; simp
  simp[Instr.buildSlice,run_underlying ht,hJ hs,Instr.fill,newRow,hr0]
 ·refine run_buildSlice w t e len _ us i zv ht hi hiz (by rw[hsz]; omega) (by rw[hsz]; exact Nat.ne_of_gt (Nat.mul_pos Om h0)) ?_
  rw[hsz,Array.toList_map]
  exact g1
theorem akW {t e:TypeId} {s len:Nat} {z:List PV} {parts:Array (Nat × Operand)} {pl:List (Nat × aP)} {out:List (List PV)} (ht:T.P.underlying t=some (.slice e)) (hs:T.size e=some s) (hz:T.zero e=some z)
  (hzl:z.length=s) (h0:0<s) (hpl:T.pN parts.toList=some pl) (hle:len*s≤16777216) (ho:fU s (bJW len z) F pl=some out) (hA:dV n E F a) (hN:E.num=T.num) (hW:bM E H w) :
  Yields T.P E H w (Instr.buildSlice t len (parts.map fun (i,x)=>(i,a.eval x))) (.sl s out):=by
 obtain⟨us,bJN,hc,bIC,hlen⟩:=LM (w:=w) ht hs hz hzl h0 hpl hle ho hA hN
 obtain⟨hW',hE⟩:=hW.bkD us e
 refine⟨_,_,_,bJN,?_,hW',hE⟩
 rw[← hlen]
 have hj:∀ i j pv,at2 out i j=some pv→j<s:=fun i j pv hp=>by
  unfold at2 at hp
  cases hr:out[i]? with
  | none=>simp[hr] at hp
  | some r =>
   rw[hr,bNC] at hp
   have:=bIC r (bMK hr)
   rcases bKM j r.length with h' | h'
   ·omega
   ·rw[bLG h'] at hp; cases hp
 have bJF:∀ i j pv,at2 out i j=some pv→∃ h:i*s+j<us.size,aY E pv us[i*s+j]:=fun i j pv hp=>by
  have e1:=sK out i j bIC (hj i j pv hp)
  rw[hp] at e1
  have hlt:i*s+j<us.size:=by
   rw[hc.1]
   rcases bKM (i*s+j) out.flatten.length with h' | h'
   ·exact h'
   ·rw[bLG h'] at e1; cases e1
  exact⟨hlt,hc.2.2 _ pv _ e1 (bMW hlt)⟩
 refine .sl (fun i j=>if h:i*s+j<us.size then us[i*s+j] else .int .i64 0) (bJV _) ?_ bIC (fun _=>⟨_,rfl,rfl,fun i j pv hp=>?_⟩) (fun i j=>?_) (fun i j pv hp=>?_)
 ·have:out.length*1≤out.length*s:=bLZ _ h0
  simp only[maxLen]
  rw[hlen] at this ⊢
  omega
 ·obtain⟨hlt,-⟩:=bJF i j pv hp
  simp[Env.cell,Env.add,upd,hlt]
 ·split
  ·rename_i hlt
   exact hc.2.1 _ (Array.getElem_mem_toList hlt)
  ·rfl
 ·obtain⟨hlt,hr⟩:=bJF i j pv hp
  rw[dif_pos hlt]
  exact hr.mono hE.env
end
open Go Go.RowKit
section
variable {T:Tbl} {n:Nat} {E:Env} {F:PF} {H:PH} {a:Act} {w:World}
theorem ahH {s:Nat} {pv:PV} {v:Value} {rows:List (List PV)} (hW:bM E H w) (hv:aY E pv v) (h:dU H s pv=some rows) :
  ∃ ad cap,v=.slice ad rows.length cap∧rows.length≤cap∧(∀ r∈rows,r.length=s)∧(rows≠[]→∃ b off,ad=some ⟨b,off,none⟩ ∧
   ∀ i j q,at2 rows i j=some q→∃ u,w.cell? ⟨b,off+(i*s+j),none⟩=some u∧u.oneCell'=true∧aY E q u):=by
 unfold dU at h
 split at h
 ·cases h; cases hv
  exact⟨none,0,rfl,bJV _,by simp,fun h=>absurd rfl h⟩
 ·rename_i s0 rs
  split at h
  ·rename_i e
   subst e
   cases h
   cases hv with
   | sl u hcap bJK bIC ha ho hr =>
   rename_i a0 cap
   refine⟨a0,cap,rfl,hcap,bIC,fun hne=>?_⟩
   obtain⟨ad,rfl,hsp,hc⟩:=ha hne
   refine⟨ad.block,ad.off,by rw[← lL hsp],fun i j q hq=>⟨u i j,?_,ho i j,hr i j q hq⟩⟩
   have:=hW.aOZ (hc i j q hq)
   rw[← this]
   congr 2
   omega
  ·cases h
 ·rename_i o s0 off len
  split at h
  ·rename_i e
   subst e
   split at h
   ·rename_i s' rs ho
    split at h
    ·rename_i hc
     cases h
     obtain⟨rfl,hle⟩:=hc
     obtain⟨hlt,cur,ty,hh,hsz,bIC,hlen,bJF⟩:=hW.h o _ ho
     cases hv with
     | osl hb hsp bJP hlen' bJK hn bIV =>
     rename_i cap N ad
     have hl:((rs.drop off).take len).length=len:=by rw[bKL,bLV]; omega
     refine⟨some ad,cap,by rw[hl],by omega,fun r hr=>bIC r (List.mem_of_mem_drop (List.mem_of_mem_take hr)),fun hne=>?_⟩
     have hpos:0<((rs.drop off).take len).length:=List.length_pos_iff.2 hne
     have hoff':ad.off=off*s':=by
      rcases bJP with h | h
      ·omega
      ·exact h
     have had:ad=⟨o,off*s',none⟩:=by cases ad; simp_all
     subst had
     refine⟨o,off*s',rfl,fun i j q hq=>?_⟩
     have hq':at2 rs (off+i) j=some q:=by
      unfold at2 at hq ⊢
      rw[bMY] at hq
      split at hq
      ·rw[bNH] at hq; exact hq
      ·simp at hq
     obtain⟨u,h1,h2,h3⟩:=bJF (off+i) j q hq'
     refine⟨u,?_,h2,h3⟩
     rw[cell_of_row w o _ cur ty (0,0) hh,← h1]
     congr 1
     rw[bKY]; omega
    ·cases h
   ·cases h
  ·cases h
 ·cases h
theorem KT:∀ {rows:List (List PV)} {l:List UInt8},pB rows=some l→∃ ns:List Int,rows=ns.map (fun n=>[PV.int .u8 n])∧l=ns.map fun n=>UInt8.ofNat n.toNat
 | [],l,h=>by simp[pB] at h; exact⟨[],by simp[h]⟩
 | r::rows,l,h=>by
  unfold pB at h
  split at h
  ·exact⟨[],by simp at *⟩
  ·rename_i m rest heq
   cases heq
   simp only[bKB] at h
   obtain⟨l',hl',rfl⟩:=h
   obtain⟨ns,h1,h2⟩:=KT hl'
   exact⟨m::ns,by simp[h1],by simp[h2]⟩
  ·cases h
theorem aaH {src dst e:TypeId} {pv:PV} {v:Value} {rows:List (List PV)} {l:List UInt8} (hs:T.P.underlying src=some (.slice e)) (he:T.P.underlying e=some (.int .u8)) (hd:T.P.underlying dst=some .string)
  (hW:bM E H w) (hv:aY E pv v) (hr:dU H 1 pv=some rows) (hb:pB rows=some l):∃ u,(convert src dst v).run T.P w=.ok u w∧aY E (.str l) u:=by
 obtain⟨ad,cap,rfl,hcap,bIC,bJF⟩:=ahH hW hv hr
 obtain⟨ns,rfl,rfl⟩:=KT hb
 by_cases hne:ns=[]
 ·subst hne
  refine⟨.string ByteArray.empty,?_,aY.str ByteArray.empty⟩
  cases ad with
  | none=>exact run_convert_bytes_nil w src e hs he _ _ dst hd
  | some x =>
   rw[run_convert_bytes_string w src dst e _ _ _ hs he hd]
   have:=run_bytesToString (P:=T.P) w x 0 cap [] (by simp[Go.loadCells,Go.loadCellsFrom])
   simpa using this
 ·obtain⟨b,off,rfl,hc⟩:=bJF (by simpa using hne)
  have hl:(ns.map fun n=>[PV.int .u8 n]).length=ns.length:=by simp
  refine⟨.string (strOfNums ns),?_,?_⟩
  ·rw[hl]
   refine run_convert_bytes_arg w src e hs he b off ns.length cap ns rfl (fun i hi=>?_) dst hd
   obtain⟨u,h1,h2,h3⟩:=hc i 0 (.int .u8 ns[i]) (by simp[at2,hi])
   cases h3
   simp only[Nat.mul_one,bLL] at h1
   rw[h1]
   simp[List.getD,hi]
  ·have:=aY.str (E:=E) (strOfNums ns)
   rw[strOfNums_data] at this
   exact this
theorem eI.len {ps:List PV} {vs:List Value} (h:eI E ps vs):vs.length=ps.length:=by
 induction h with
 | nil=>rfl
 | cons _ _ ih=>simp[ih]
theorem eI.at_ {ps:List PV} {vs:List Value} (h:eI E ps vs):∀ (j:Nat) p v,ps[j]?=some p→vs[j]?=some v→aY E p v:=by
 induction h with
 | nil=>intro j p v hp; simp at hp
 | cons h _ ih =>
  intro j p v hp hv
  cases j with
  | zero=>simp at hp hv; subst hp; subst hv; exact h
  | succ j=>exact ih j p v (by simpa using hp) (by simpa using hv)
theorem eI.mono {E':Env} (hE:E.le E') {ps:List PV} {vs:List Value} (h:eI E ps vs):eI E' ps vs:=by
 induction h with
 | nil=>exact .nil
 | cons h _ ih=>exact .cons (h.mono hE) ih
def POp.lY:POp→Bool
 | .call .. | .bJA ..=>true
 | _=>false
theorem qF {P:Program} {o:Oper} {s:Sem Value} {v:Value} {w w':World} (h:execOp a.eval o=(do pure (.value (← s)):Sem Next)) (hr:s.run P w=.ok v w'):(execOp a.eval o).run P w=.ok (.value v) w':=by
 rw[h]; simp[hr]
end
open Go Go.RowKit
def KSh.desc:KSh→TypeDesc
 | .int k=>.int k
 | .bool=>.bool
 | .str=>.string
def KSh.sc:KSh→Sc
 | .int _=>.int
 | .bool=>.bool
 | .str=>.str
def KS.pv:KS→PV
 | .int k n=>.int k n
 | .bool b=>.bool b
 | .str s=>.str s
section
variable {T:Tbl} {n:Nat} {E:Env} {F:PF} {H:PH} {a:Act} {w:World}
theorem akV {α:Type} [BEq α] [LawfulBEq α] [DecidableEq α] (a b:α):(a==b)=decide (a=b):=by
 by_cases h:a=b<;>simp[h]
theorem KS.a8S {pv:PV} {v:Value} {k:KS} (h:aY E pv v) (hk:KS.of pv=some k):v=k.val:=by
 unfold KS.of at hk
 split at hk<;>cases hk<;>cases h
 ·rfl
 ·rfl
 ·simp[KS.val]
theorem KS.bsF (k:KS):aY E k.pv k.val:=by
 cases k with
 | int k n=>exact .int k n
 | bool b=>exact .bool b
 | str s =>
  have:=aY.str (E:=E) ⟨s.toArray⟩
  simpa [KS.pv,KS.val] using this
theorem KS.aTY:∀ {ps:List PV} {ks:List KS} {vs:List Value},KS.ofs ps=some ks→vs.length=ps.length→(∀ (j:Nat) p v,ps[j]?=some p→vs[j]?=some v→aY E p v)→vs=ks.map KS.val
 | [],ks,vs,h,hl,_=>by
  simp[KS.ofs] at h; subst h
  simp at hl; subst hl; rfl
 | p::ps,ks,vs,h,hl,hr=>by
  simp only[KS.ofs] at h
  split at h
  ·rename_i k ks' h1 h2
   cases h
   cases vs with
   | nil=>simp at hl
   | cons v vs =>
    have e2:=KS.aTY (vs:=vs) h2 (by simpa using hl) fun j q u x y=>hr (j+1) q u (by simpa using x) (by simpa using y)
    rw[KS.a8S (hr 0 p v rfl rfl) h1,e2]
    rfl
  ·cases h
theorem apQ {sh:MSh} {pv:PV} {v:Value} {k:List KS} (h:aY E pv v) (hk:keyOf sh pv=some k):v=fO sh k∧k.map KS.sh=sh.2∧(sh.1=false→∃ s,k=[s]):=by
 obtain⟨b,l⟩:=sh
 unfold keyOf at hk
 split at hk
 ·rename_i cs hb
  simp only at hb
  subst hb
  simp only[bMV] at hk
  obtain⟨k',h1,h2⟩:=hk
  split at h2
  ·rename_i he
   cases h2
   cases h with
   | agg vs hl h1' hr =>
   refine⟨?_,he,by simp⟩
   have:=KS.aTY (vs:=vs.toList) h1 (by simpa using hl) fun j p u x y=>hr j p u x (by simpa using y)
   simp only[fO,if_true,Value.agg.injEq]
   rw[← this]
  ·cases h2
 ·rename_i v' hb
  simp only at hb
  subst hb
  simp only[bMV] at hk
  obtain⟨s,h1,h2⟩:=hk
  split at h2
  ·rename_i he
   cases h2
   exact⟨by simp[fO,KS.a8S h h1],by simpa using he,fun _=>⟨s,rfl⟩⟩
  ·cases h2
 ·cases hk
theorem qQ {t:TypeId} {s:KSh} (h:T.vY t=some s):T.P.underlying t=some s.desc∧T.scalar t=some s.sc:=by
 unfold Tbl.vY at h
 unfold Tbl.scalar
 split at h<;>cases h<;>(rename_i hu; rw[hu]; exact⟨rfl,rfl⟩)
theorem aOC {s:KSh} {x y:KS} (hx:x.sh=s) (hy:y.sh=s):Instr.sameNow s.desc x.val y.val=some (decide (x=y)):=by
 subst hx
 cases x<;>cases y<;>simp[KS.sh] at hy
 ·subst hy
  simp[KSh.desc,KS.sh,KS.val,Instr.sameNow]
  exact akV _ _
 ·simp[KSh.desc,KS.sh,KS.val,Instr.sameNow]
  exact akV _ _
 ·rename_i a b
  simp only[KSh.desc,KS.sh,KS.val,Instr.sameNow,bMN.injEq,KS.str.injEq]
  rw[beq_toListBytes,ByteArray.toList_eq,ByteArray.toList_eq]
  simp
  exact akV _ _
theorem adK:∀ {fs:List Field} {k:Nat} {l:List KSh},T.jR k fs=some l→T.pC k fs=some (l.map KSh.sc)
 | [],k,l,h=>by simp[Tbl.jR] at h; subst h; rfl
 | f::fs,k,l,h=>by
  simp only[Tbl.jR] at h
  split at h
  ·rename_i c cs h1 h2
   split at h
   ·rename_i hc
    cases h
    simp only[Tbl.pC,(qQ h1).2,adK h2]
    rw[if_pos hc]
    rfl
   ·cases h
  ·cases h
theorem a6Q:∀ {l:List KSh} {xs ys:List KS},xs.map KS.sh=l→ys.map KS.sh=l→PV.eqs (l.map KSh.sc) (xs.map KS.pv) (ys.map KS.pv)=some (decide (xs=ys))
 | [],xs,ys,hx,hy=>by
  simp at hx hy; subst hx; subst hy; simp[PV.eqs]
 | s::l,xs,ys,hx,hy=>by
  cases xs with
  | nil=>simp at hx
  | cons x xs =>
  cases ys with
  | nil=>simp at hy
  | cons y ys =>
  simp only[bLX,List.cons.injEq] at hx hy
  have h1:PV.eq1 s.sc x.pv y.pv=some (decide (x=y)):=by
   obtain⟨hx1,-⟩:=hx
   obtain⟨hy1,-⟩:=hy
   subst hx1
   cases x<;>cases y<;>simp[KS.sh] at hy1
   ·subst hy1
    simp[KSh.sc,KS.sh,KS.pv,PV.eq1]
    exact akV _ _
   ·simp[KSh.sc,KS.sh,KS.pv,PV.eq1]
    exact akV _ _
   ·simp[KSh.sc,KS.sh,KS.pv,PV.eq1]
    exact akV _ _
  simp only[bLX,PV.eqs,h1]
  by_cases e:x=y
  ·subst e
   simp only[decide_true,a6Q hx.2 hy.2]
   simp
  ·simp only[e,decide_false,bJT]
   have l1:xs.length=l.length:=by rw[← hx.2]; simp
   have l2:ys.length=l.length:=by rw[← hy.2]; simp
   rw[if_pos ⟨l1,l2⟩]
   simp[e]
theorem a6R {t:TypeId} {fs:Array Field} {l:List KSh} (hu:T.P.underlying t=some (.struct fs)) (hp:T.P.stoodInHeld t=false) (hl:T.jR 0 fs.toList=some l) {x y:List KS} (hx:x.map KS.sh=l) (hy:y.map KS.sh=l) :
  (Op.equal t (fO (true,l) x) (fO (true,l) y)).run T.P w=.ok (decide (x=y)) w:=by
 have hfo:T.P.fieldsOf t=fs:=by simp[Program.fieldsOf,hu]
 have rr:∀ (z:List KS) (j:Nat) q u,(z.map KS.pv)[j]?=some q→(z.map KS.val).toArray[0+j]?=some u→aY (E:=⟨fun _=>none,fun _=>none,fun _=>0⟩) q u:=by
  intro z j q u h1 h2
  simp only[bKZ,bKB,bKN,List.getElem?_toArray] at h1 h2
  obtain⟨k,hk,rfl⟩:=h1
  obtain⟨k',hk',rfl⟩:=h2
  rw[hk] at hk'; cases hk'
  exact KS.bsF k
 have he:=MG (w:=w) 9998 (x.map KS.val).toArray (y.map KS.val).toArray fs.toList (l.map KSh.sc) 0 (x.map KS.pv) (y.map KS.pv) _ (adK hl) (a6Q hx hy) (rr x) (rr y) (by simp) (by simp)
 have h1:=run_equalIn_struct w 9999 t (x.map KS.val).toArray (y.map KS.val).toArray (by rw[hfo]; exact hu) hp
 rw[hfo,he] at h1
 simpa [Op.equal,Op.maxDepth,fO] using h1
def Found (L:List (List KS × PV)) (es:List MapEntry) (k:List KS) (i:Nat) (r:Option (Nat × Value)):Prop :=
 match lN k L i with
 | none=>r=none
 | some (j,pv)=>∃ e':MapEntry,i≤j∧es[j-i]?=some e'∧L[j-i]?=some (k,pv)∧r=some (j,e'.val)
theorem Found.next {L:List (List KS × PV)} {es:List MapEntry} {k:List KS} {i:Nat} {r:Option (Nat × Value)} {e:List KS × PV} {e':MapEntry} (h:Found L es k (i+1) r) (hne:e.1≠k):Found (e::L) (e'::es) k i r:=by
 unfold Found at h ⊢
 simp only[lN,if_neg hne]
 split at h
 ·exact h
 ·rename_i j pv hj
  obtain⟨x,h1,h2,h3,h4⟩:=h
  refine⟨x,by omega,?_,?_,h4⟩
  ·rw[show j-i=(j-(i+1))+1 by omega]; exact h2
  ·rw[show j-i=(j-(i+1))+1 by omega]; exact h3
theorem Found.here {L:List (List KS × PV)} {es:List MapEntry} {k:List KS} {i:Nat} {e:List KS × PV} {e':MapEntry} (he:e.1=k):Found (e::L) (e'::es) k i (some (i,e'.val)):=by
 unfold Found
 simp only[lN,if_pos he]
 refine⟨e',bJV _,by simp,?_,rfl⟩
 subst he
 simp
def pK (sh:MSh) (L:List (List KS × PV)) (es:List MapEntry):Prop :=
 es.length=L.length∧∀ (i:Nat) e e',L[i]?=some e→es[i]?=some e'→e.1.map KS.sh=sh.2∧e'.key=fO sh e.1
theorem pK.tail {sh:MSh} {e:List KS × PV} {L:List (List KS × PV)} {e':MapEntry} {es:List MapEntry} (h:pK sh (e::L) (e'::es)):pK sh L es :=
 ⟨by simpa using h.1,fun i x y a b=>h.2 (i+1) x y (by simpa using a) (by simpa using b)⟩
theorem TN {s:KSh} {x:KS} (hx:x.sh=s):∀ {L:List (List KS × PV)} {es:List MapEntry} {i:Nat},pK (false,[s]) L es→∃ r,Instr.findNow s.desc x.val es i=some r∧Found L es [x] i r
 | [],es,i,h=>by
  have:es=[]:=by simpa using h.1
  subst this
  exact⟨none,rfl,rfl⟩
 | e::L,es,i,h=>by
  cases es with
  | nil=>have:=h.1; simp at this
  | cons e' es =>
  obtain⟨h1,h2⟩:=h.2 0 e e' rfl rfl
  obtain⟨ek,ep⟩:=e
  cases ek with
  | nil=>simp at h1
  | cons y ys =>
   simp only[bLX,List.cons.injEq,List.map_eq_nil_iff] at h1
   obtain⟨hy,rfl⟩:=h1
   have hk:e'.key=y.val:=by rw[h2]; rfl
   simp only[Instr.findNow,hk,aOC hx hy]
   by_cases e0:x=y
   ·subst e0
    simp only[decide_true]
    exact⟨_,rfl,Found.here rfl⟩
   ·simp only[e0,decide_false]
    obtain⟨r,g1,g2⟩:=TN hx (i:=i+1) h.tail
    exact⟨r,g1,g2.next (by simp; exact fun e=>e0 e.symm)⟩
theorem DB {t:TypeId} {fs:Array Field} {l:List KSh} (hu:T.P.underlying t=some (.struct fs)) (hp:T.P.stoodInHeld t=false) (hl:T.jR 0 fs.toList=some l) {x:List KS} (hx:x.map KS.sh=l) :
  ∀ {L:List (List KS × PV)} {es:List MapEntry} {i:Nat},pK (true,l) L es→∃ r,(Instr.findAsking t (fO (true,l) x) es i).run T.P w=.ok r w∧Found L es x i r
 | [],es,i,h=>by
  have:es=[]:=by simpa using h.1
  subst this
  exact⟨none,rfl,rfl⟩
 | e::L,es,i,h=>by
  cases es with
  | nil=>have:=h.1; simp at this
  | cons e' es =>
  obtain⟨h1,h2⟩:=h.2 0 e e' rfl rfl
  simp only[Instr.findAsking,Sem.run_bind,h2,a6R hu hp hl hx h1,Result.andThen_ok]
  by_cases e0:x=e.1
  ·subst e0
   simp only[decide_true,if_true,Sem.run_pure]
   exact⟨_,rfl,Found.here rfl⟩
  ·simp only[e0,decide_false,bMU,if_false]
   obtain⟨r,g1,g2⟩:=DB hu hp hl hx (i:=i+1) h.tail
   exact⟨r,g1,g2.next (fun e=>e0 e.symm)⟩
theorem DD {t:TypeId} {sh:MSh} (h:T.jY t=some sh):(∃ s,sh=(false,[s])∧T.vY t=some s)∨(∃ fs l,sh=(true,l)∧T.P.underlying t=some (.struct fs)∧T.P.stoodInHeld t=false∧T.jR 0 fs.toList=some l):=by
 unfold Tbl.jY at h
 split at h
 ·rename_i fs hu
  split at h
  ·rename_i hp
   simp only[bKB] at h
   obtain⟨l,hl,rfl⟩:=h
   exact .inr ⟨fs,l,rfl,hu,hp,hl⟩
  ·cases h
 ·simp only[bKB] at h
  obtain⟨s,hs,rfl⟩:=h
  exact .inl ⟨s,rfl,hs⟩
theorem KV {t:TypeId} {sh:MSh} (hsh:T.jY t=some sh) {k:List KS} (hk:k.map KS.sh=sh.2) {L:List (List KS × PV)} {es:List MapEntry} (h:pK sh L es) :
  ∃ r,(Instr.findKey t (fO sh k) es).run T.P w=.ok r w∧Found L es k 0 r:=by
 rcases DD hsh with ⟨s,rfl,hs⟩ | ⟨fs,l,rfl,hu,hp,hl⟩
 ·have hd:=(qQ hs).1
  cases k with
  | nil=>simp at hk
  | cons x xs =>
   simp only[bLX,List.cons.injEq,List.map_eq_nil_iff] at hk
   obtain⟨hx,rfl⟩:=hk
   obtain⟨r,g1,g2⟩:=TN hx (i:=0) h
   refine⟨r,?_,g2⟩
   have hv:fO (false,[s]) [x]=x.val:=rfl
   simp only[Instr.findKey,Sem.run_bind,run_underlying hd,Result.andThen_ok,hv,g1,Sem.run_pure]
 ·obtain⟨r,g1,g2⟩:=DB (w:=w) hu hp hl hk (i:=0) h
  cases es with
  | nil =>
   have:L=[]:=by simpa using h.1.symm
   subst this
   refine⟨none,?_,rfl⟩
   simp[Instr.findKey,run_underlying hu,Instr.findNow]
  | cons e es =>
   refine⟨r,?_,g2⟩
   have hno:Instr.findNow (.struct fs) (fO (true,l) k) (e::es) 0=none:=by
    simp[Instr.findNow,Instr.sameNow,fO]
   simp only[Instr.findKey,Sem.run_bind,run_underlying hu,Result.andThen_ok,hno]
   exact g1
theorem TD {t:TypeId} {s:KSh} (hs:T.vY t=some s) (em:Bool) (d:Nat) (x:KS):(Instr.checkKey em (d+1) t x.val).run T.P w=.ok () w:=by
 have hu:=(qQ hs).1
 simp only[Instr.checkKey,Sem.run_bind,run_underlying hu,Result.andThen_ok]
 cases s<;>cases x<;>rfl
theorem CX {t:TypeId} {sh:MSh} (hsh:T.jY t=some sh) {k:List KS} (hk:k.map KS.sh=sh.2) (em:Bool):(Instr.checkKey em 10000 t (fO sh k)).run T.P w=.ok () w:=by
 rcases DD hsh with ⟨s,rfl,hs⟩ | ⟨fs,l,rfl,hu,hp,hl⟩
 ·cases k with
  | nil=>simp at hk
  | cons x xs =>
   simp only[bLX,List.cons.injEq,List.map_eq_nil_iff] at hk
   obtain⟨hx,rfl⟩:=hk
   exact TD hs em 9999 x
 ·simp only[fO,if_true]
  obtain⟨m,hm⟩:∃ m:Nat,m=9999:=⟨_,rfl⟩
  rw[show (10000:Nat)=m+1 by omega]
  simp only[Instr.checkKey,Sem.run_bind,run_underlying hu,Result.andThen_ok]
  rw[← Array.forIn_toList]
  have key:∀ (fs:List Field) (l:List KSh) (j:Nat),T.jR j fs=some l→(∀ (i:Nat) s,l[i]?=some s→∃ x:KS,(k.map KS.val).toArray[j+i]?=some x.val) →
    (forIn fs PUnit.unit (fun f (_:PUnit)=>(do
     if f.name≠"_" then
      Instr.checkKey em m f.type (← part f.type (k.map KS.val).toArray f.offset)
      pure (ForInStep.yield PUnit.unit)
     else pure (ForInStep.yield PUnit.unit):Sem (ForInStep PUnit)))).run T.P w=.ok PUnit.unit w:=by
   intro fs
   induction fs with
   | nil=>intro l j _ _; simp
   | cons f fs ih =>
    intro l j h hv
    simp only[Tbl.jR] at h
    split at h
    ·rename_i c cs h1 h2
     split at h
     ·rename_i hc
      cases h
      obtain⟨x,hx⟩:=hv 0 c rfl
      simp only[List.forIn_cons,Sem.run_bind,Sem.run_ite]
      rw[if_pos hc.1]
      have hp1:=HS (w:=w) (qQ h1).2 (k.map KS.val).toArray f.offset x.val (by rw[hc.2]; simpa using hx)
      simp only[Sem.run_bind,hp1,Result.andThen_ok]
      rw[show m=9998+1 by omega,TD h1 em 9998 x,← show m=9998+1 by omega]
      simp only[Result.andThen_ok,Sem.run_pure]
      exact ih cs (j+1) h2 fun i s hs=>by
       obtain⟨y,hy⟩:=hv (i+1) s (by simpa using hs)
       exact⟨y,by rw[show j+1+i=j+(i+1) by omega]; exact hy⟩
     ·cases h
    ·cases h
  have:=key fs.toList l 0 hl fun i s hs=>by
   have hlen:k.length=l.length:=by rw[show l=k.map KS.sh from hk.symm]; simp
   have hi:i<l.length:=(bKV.1 hs).1
   exact⟨k[i],by simp[show i<k.length by omega]⟩
  simp at this ⊢
  rw[this]
  rfl
theorem aNS {L:List (List KS × PV)} {es:List MapEntry} {k:List KS} {r:Option (Nat × Value)} (h:Found L es k 0 r) (hv:∀ (i:Nat) (e:List KS × PV) (e':MapEntry),L[i]?=some e→es[i]?=some e'→aY E e.2 e'.val) :
  (mapOf L k=none∧r=none)∨∃ j pv v,mapOf L k=some pv∧r=some (j,v)∧aY E pv v:=by
 unfold Found at h
 unfold mapOf
 split at h
 ·rename_i hn
  exact .inl ⟨by rw[hn]; rfl,h⟩
 ·rename_i j pv hj
  obtain⟨e',-,h2,h3,h4⟩:=h
  exact .inr ⟨j,pv,e'.val,by rw[hj]; rfl,h4,hv _ _ e' h3 h2⟩
theorem aDL {t kt et:TypeId} {sh:MSh} {info:TypeInfo} {z:Value} {pz pk:PV} {x k:Value} {o:Nat} {g:fG} {key:List KS} {ok:Bool} (ht:T.P.underlying t=some (.map kt et)) (hsh:T.jY kt=some sh)
  (hi:T.P.info? et=some info) (hz:info.zero=some z) (hpz:ofValue z=some pz) (hx:aY E (.map o) x) (hk:aY E pk k) (ho:H o=some (.map sh g)) (hkey:keyOf sh pk=some key) (hW:bM E H w) :
  ∃ v,(Instr.lookup t x k ok).run T.P w=.ok v w∧aY E (if ok then .tup [(g key).getD pz,.bool (g key).isSome] else (g key).getD pz) v:=by
 cases hx
 obtain⟨hlt,es,clock,L,hh,⟨hsz,-⟩,rfl,hes⟩:=hW.h o _ ho
 obtain⟨hkv,hks,-⟩:=apQ hk hkey
 have hKA:pK sh L es.toList:=⟨by simpa using hsz,fun i e e' a b=>by have:=hes i e e' a (by simpa using b); exact⟨this.1,this.2.1⟩⟩
 obtain⟨r,g1,g2⟩:=KV (w:=w) hsh hks hKA
 have g3:=aNS (E:=E) g2 fun i e e' a b=>(hes i e e' a (by simpa using b)).2.2
 subst hkv
 have hget:(getObj o).run T.P w=.ok (.map es clock) w:=by simp[getObj,Sem.run,hh]
 have hzv:(zeroValue et).run T.P w=.ok z w:=by simp[zeroValue,typeInfo,run_program,hi,hz]
 simp only[Instr.lookup,Sem.run_bind,run_underlying ht,Result.andThen_ok,hget,Sem.run_pure,CX hsh hks,g1]
 rcases g3 with ⟨g4,rfl⟩ | ⟨j,pv,v,g4,rfl,hr⟩
 ·simp only[hzv,Sem.run_bind,Result.andThen_ok,Sem.run_pure,g4,Option.getD_none,Option.isSome_none]
  cases ok
  ·exact⟨z,rfl,sQ hpz⟩
  ·refine⟨_,rfl,.tup #[z,.bool false] rfl fun j p u a b=>?_⟩
   match j with
   | 0=>simp at a b; subst a; subst b; exact sQ hpz
   | 1=>simp at a b; subst a; subst b; exact .bool _
   | j+2=>simp at a
 ·simp only[Sem.run_pure,Result.andThen_ok,g4,bMJ,Option.isSome_some]
  cases ok
  ·exact⟨v,rfl,hr⟩
  ·refine⟨_,rfl,.tup #[v,.bool true] rfl fun j p u a b=>?_⟩
   match j with
   | 0=>simp at a b; subst a; subst b; exact hr
   | 1=>simp at a b; subst a; subst b; exact .bool _
   | j+2=>simp at a
end
open Go Go.RowKit
section
variable {T:Tbl} {n:Nat} {E:Env} {F:PF} {H:PH} {a:Act} {w:World}
def Good (P:Program) (E:Env) (H:PH) (w:World) (o:Oper) (a:Act) (pv:PV):Prop :=
 ∃ v w' E',(execOp a.eval o).run P w=.ok (.value v) w'∧aY E' pv v∧bM E' H w'∧Ext E H w E' H w'
theorem Good.mk' {P:Program} {o:Oper} {pv:PV} {v:Value} (hW:bM E H w) (h:(execOp a.eval o).run P w=.ok (.value v) w) (r:aY E pv v):Good P E H w o a pv:=⟨v,w,E,h,r,hW,.refl E H w⟩
theorem Good.of {P:Program} {o:Oper} {pv:PV} {s:Sem Value} (he:execOp a.eval o=(do pure (.value (← s)):Sem Next)) (h:Yields P E H w s pv):Good P E H w o a pv:=by
 obtain⟨v,w',E',h1,h2,h3,h4⟩:=h
 exact⟨v,w',E',qF he h1,h2,h3,h4⟩
theorem Good.val {P:Program} {o:Oper} {pv:PV} {s:Sem Value} (hW:bM E H w) (he:execOp a.eval o=(do pure (.value (← s)):Sem Next)) (h:∃ v,s.run P w=.ok v w∧aY E pv v):Good P E H w o a pv:=by
 obtain⟨v,h1,h2⟩:=h
 exact .of he (Yields.same hW h1 h2)
theorem aZM {t:TypeId} {o:Oper} {x:Operand} {lo hi mx:Option Operand} {p:aP} {pl ph pm:Option aP} {e:TypeId} {s:Nat} {pv:PV} (ho:o.op=.slice t x lo hi mx) (ht:T.P.underlying t=some (.slice e)) (hs:T.size e=some s)
  (hx:T.opd x=some p) (hl:T.opt lo=some pl) (hh:T.opt hi=some ph) (hm:T.opt mx=some pm) (hmh:¬ (mx.isSome=true∧hi.isNone=true)) (hv:aO (.slice s p pl ph pm) F H=some pv)
  (hA:dV n E F a) (hW:bM E H w) (hN:E.num=T.num):Good T.P E H w o a pv:=by
 refine Good.val hW (s:=Instr.sliceAt t (a.eval x) (lo.map a.eval) (hi.map a.eval) (mx.map a.eval)) (by unfold execOp; rw[ho]) ?_
 have hne:pm≠none→hi≠none:=fun h e=>by
  subst e
  cases mx with
  | none=>simp[Tbl.opt] at hm; exact h hm.symm
  | some y=>exact hmh ⟨rfl,rfl⟩
 simp only[aO] at hv
 split at hv
 ·rename_i v hv0
  have r:=bE hx hv0 hA hN
  split at hv
  ·split at hv
   ·rename_i l h bl bh
    refine BD (len:=0) ht hs hl hh hm r bl bh (.inl ⟨rfl,rfl⟩) ?_ hA hN
    split at hv
    ·exact .inl ⟨rfl,hv⟩
    ·simp only[bMV] at hv
     obtain⟨m,h1,h2⟩:=hv
     exact .inr ⟨hne (by simp),m,h1,h2⟩
   ·cases hv
  ·split at hv
   ·rename_i l h bl bh
    refine BD ht hs hl hh hm r bl bh (.inr (.inl ⟨_,_,rfl,rfl⟩)) ?_ hA hN
    split at hv
    ·exact .inl ⟨rfl,hv⟩
    ·simp only[bMV] at hv
     obtain⟨m,h1,h2⟩:=hv
     exact .inr ⟨hne (by simp),m,h1,h2⟩
   ·cases hv
  ·split at hv
   ·rename_i l h bl bh
    refine BD ht hs hl hh hm r bl bh (.inr (.inr ⟨_,_,_,rfl⟩)) ?_ hA hN
    split at hv
    ·exact .inl ⟨rfl,hv⟩
    ·simp only[bMV] at hv
     obtain⟨m,h1,h2⟩:=hv
     exact .inr ⟨hne (by simp),m,h1,h2⟩
   ·cases hv
  ·cases hv
 ·cases hv
theorem jU {o:Oper} {c:Call} {b:Builtin} {s:Sem Value} {pv:PV} (ho:o.op=.call c) (hcc:c.callee=.builtin b) (hb:∀ cs,builtin b c.argTypes o.type cs (c.args.map a.eval)=(do pure (.value (← s)):Sem Next))
  (hW:bM E H w) (h:∃ v,s.run T.P w=.ok v w∧aY E pv v):Good T.P E H w o a pv:=by
 obtain⟨v,h1,h2⟩:=h
 refine .mk' hW ?_ h2
 unfold execOp
 rw[ho]
 simp[resolve,hcc,invoke,hb,h1]
theorem bkE {xs:Array Operand} {x:Operand} (h:xs.toList=[x]) (f:Operand→Value):xs.map f=#[f x]:=by
 apply Array.ext'; simp[h]
theorem aZI {xs:Array Operand} {x y:Operand} (h:xs.toList=[x,y]) (f:Operand→Value):xs.map f=#[f x,f y]:=by
 apply Array.ext'; simp[h]
theorem bqX {α:Type} {xs:Array α} {x:α} (h:xs.toList=[x]):xs=#[x]:=by apply Array.ext'; simp[h]
theorem size_data (s:ByteArray):s.data.toList.length=s.size:=by rw[bMR]; rfl
theorem a6B {o:Oper} {c:Call} {p:POp} {pv:PV} (ho:o.op=.call c) (hc:T.call o c=some p) (hw:p.dT=false) (hk:p.lY=false) (hv:aO p F H=some pv)
  (hA:dV n E F a) (hW:bM E H w) (hN:E.num=T.num):Good T.P E H w o a pv:=by
 unfold Tbl.call at hc
 split at hc
 ·rename_i b hcc
  split at hc
  ·
   rename_i x t hca hct
   have e1:=bkE hca a.eval
   have e2:=bqX hct
   split at hc
   ·rename_i k e ht
    cases hc
    simp[aO,aP.ev] at hv
    subst hv
    refine jU (s:=Builtin.len_ c.argTypes o.type (c.args.map a.eval)) ho hcc (fun cs=>rfl) hW ⟨goInt k,?_,.int _ _⟩
    rw[e1,e2]
    simp[Builtin.len_,run_underlying ht]
   ·rename_i ht
    simp only[bKB] at hc
    obtain⟨q,hq,rfl⟩:=hc
    simp only[aO] at hv
    split at hv
    ·rename_i s0 hs0
     cases hv
     have r:=bE hq hs0 hA hN
     generalize hx:a.eval x=ex at r
     cases r with
     | str s =>
     refine jU (s:=Builtin.len_ c.argTypes o.type (c.args.map a.eval)) ho hcc (fun cs=>rfl) hW ⟨goInt s.size,?_,?_⟩
     ·rw[e1,e2,hx]
      simp[Builtin.len_,run_underlying ht]
     ·rw[size_data]; exact .int _ _
    ·cases hv
   ·rename_i e ht
    simp only[bKB] at hc
    obtain⟨q,hq,rfl⟩:=hc
    have key:∀ (ad:Option Addr) (m cap:Nat),a.eval x=.slice ad m cap→Good T.P E H w o a (.int .i64 m):=by
     intro ad m cap hx
     refine jU (s:=Builtin.len_ c.argTypes o.type (c.args.map a.eval)) ho hcc (fun cs=>rfl) hW ⟨goInt m,?_,.int _ _⟩
     rw[e1,e2,hx]
     simp[Builtin.len_,run_underlying ht]
    simp only[aO,bMV] at hv
    obtain⟨u,hs0,hv⟩:=hv
    have r:=bE hq hs0 hA hN
    generalize hx:a.eval x=ex at r
    cases u<;>simp only[PV.uA] at hv<;>cases hv
    all_goals
     cases r
     exact key _ _ _ hx
   ·rename_i kt et ht
    simp only[bKB] at hc
    obtain⟨q,hq,rfl⟩:=hc
    simp only[aO] at hv
    split at hv
    ·rename_i m hs0
     split at hv
     ·rename_i sh g hg
      cases hv
      have r:=bE hq hs0 hA hN
      generalize hx:a.eval x=ex at r
      cases r
      obtain⟨hlt,es,clock,L,hh,⟨hsz,hnd⟩,rfl,-⟩:=hW.h m _ hg
      have hget:(getObj m).run T.P w=.ok (.map es clock) w:=by simp[getObj,Sem.run,hh]
      refine jU (s:=Builtin.len_ c.argTypes o.type (c.args.map a.eval)) ho hcc (fun cs=>rfl) hW ⟨goInt es.size,?_,?_⟩
      ·rw[e1,e2,hx]
       simp[Builtin.len_,run_underlying ht,hget]
      ·rw[a1M hnd,← hsz]; exact .int _ _
     ·cases hv
    ·cases hv
   ·cases hc
  ·
   split at hc<;>try cases hc
   split at hc<;>try cases hc
   split at hc<;>cases hc
   simp[POp.dT] at hw
  ·
   rename_i x t hca hct
   split at hc
   ·rename_i e ht
    simp only[bKB] at hc
    obtain⟨q,hq,rfl⟩:=hc
    simp only[aO] at hv
    split at hv
    ·rename_i hs0
     cases hv
     have r:=bE hq hs0 hA hN
     generalize hx:a.eval x=ex at r
     cases r
     refine jU (s:=Builtin.cap_ c.argTypes o.type (c.args.map a.eval)) ho hcc (fun cs=>rfl) hW ⟨goInt 0,?_,.int _ _⟩
     rw[bkE hca a.eval,bqX hct,hx]
     simp[Builtin.cap_,run_underlying ht]
    ·cases hv
   ·cases hc
  ·
   rename_i x y hca
   split at hc<;>cases hc
   rename_i p q hp hq
   simp only[aO] at hv
   split at hv
   ·rename_i k m k' m' h1 h2
    have r1:=bE hp h1 hA hN
    have r2:=bE hq h2 hA hN
    split at hv
    ·cases hv
     generalize hx:a.eval x=ex at r1
     generalize hy:a.eval y=ey at r2
     cases r1; cases r2
     refine jU (s:=Builtin.max_ c.argTypes o.type (c.args.map a.eval)) ho hcc (fun cs=>rfl) hW ⟨_,?_,.int _ _⟩
     rw[aZI hca a.eval,hx,hy,run_max_int2]
     simp
    ·cases hv
   ·cases hv
  ·
   rename_i x y hca
   split at hc<;>cases hc
   rename_i p q hp hq
   simp only[aO] at hv
   split at hv
   ·rename_i k m k' m' h1 h2
    have r1:=bE hp h1 hA hN
    have r2:=bE hq h2 hA hN
    split at hv
    ·cases hv
     generalize hx:a.eval x=ex at r1
     generalize hy:a.eval y=ey at r2
     cases r1; cases r2
     refine jU (s:=Builtin.min_ c.argTypes o.type (c.args.map a.eval)) ho hcc (fun cs=>rfl) hW ⟨_,?_,.int _ _⟩
     rw[aZI hca a.eval,hx,hy,run_min_int2]
     simp
    ·cases hv
   ·cases hv
  ·cases hc
 ·split at hc
  ·split at hc<;>cases hc
   simp[POp.lY] at hk
  ·cases hc
 ·simp only[bKB] at hc
  obtain⟨q,-,rfl⟩:=hc
  simp[POp.lY] at hk
 ·cases hc
end
open Go Go.RowKit
section
variable {T:Tbl} {n:Nat} {E:Env} {F:PF} {H:PH} {a:Act} {w:World}
set_option maxHeartbeats 8000000 in
theorem aZN {o:Oper} {p:POp} {pv:PV} (hc:T.op o=some p) (hn:p.fX=false) (hw:p.dT=false) (hk:p.lY=false) (hv:aO p F H=some pv)
  (hA:dV n E F a) (hW:bM E H w) (hN:E.num=T.num):Good T.P E H w o a pv:=by
 unfold Tbl.op at hc
 split at hc
 ·
  rename_i x ho
  simp only[bKB] at hc
  obtain⟨q,hq,rfl⟩:=hc
  exact .mk' hW (v:=a.eval x) (by unfold execOp; rw[ho]; simp) (bE hq hv hA hN)
 ·
  rename_i x ho
  simp only[bKB] at hc
  obtain⟨q,hq,rfl⟩:=hc
  exact .mk' hW (v:=a.eval x) (by unfold execOp; rw[ho]; simp) (bE hq hv hA hN)
 ·
  rename_i c x y ho
  split at hc<;>cases hc
  rename_i p1 p2 p3 h1 h2 h3
  simp only[aO] at hv
  split at hv
  ·rename_i t hv1
   have r:=bE h1 hv1 hA hN
   generalize hx:a.eval c=ec at r
   cases r
   refine .mk' hW (v:=if t then a.eval x else a.eval y) (by unfold execOp; rw[ho]; simp[hx,asBool]) ?_
   cases t
   ·exact bE h3 (by simpa using hv) hA hN
   ·exact bE h2 (by simpa using hv) hA hN
  ·cases hv
 ·
  simp only[bKB] at hc
  obtain⟨z,-,rfl⟩:=hc
  simp[POp.fX] at hn
 ·
  rename_i e x ho
  simp only[bKB] at hc
  obtain⟨q,hq,rfl⟩:=hc
  generalize hro:T.alQ o.dst=ro at *
  cases ro with
  | false=>simp[POp.fX] at hn
  | true =>
   simp only[aO] at hv
   split at hv
   ·rename_i v hv1
    split at hv
    ·rename_i h1
     cases hv
     exact .of (s:=Instr.box e (a.eval x)) (by unfold execOp; rw[ho]) (aNH hW (bE hq hv1 hA hN) h1)
    ·cases hv
   ·cases hv
 ·
  rename_i t parts ho
  split at hc
  ·rename_i z fs hz hu
   split at hc
   ·rename_i hm
    simp only[bKB] at hc
    obtain⟨pl,hpl,rfl⟩:=hc
    simp only[aO,bKB] at hv
    obtain⟨out,hout,rfl⟩:=hv
    have hy:=TB (T:=T) (w:=w) hz (.inl ⟨fs,hu,hm,hpl⟩) hout hA hN
    refine Good.val hW ?_ hy
    unfold execOp; rw[ho]
   ·cases hc
  ·rename_i z k e hz hu
   split at hc
   ·rename_i s hs
    simp only[bKB] at hc
    obtain⟨pl,hpl,rfl⟩:=hc
    simp only[aO,bKB] at hv
    obtain⟨out,hout,rfl⟩:=hv
    have hy:=TB (T:=T) (w:=w) hz (.inr ⟨k,e,s,hu,hs,hpl⟩) hout hA hN
    refine Good.val hW ?_ hy
    unfold execOp; rw[ho]
   ·cases hc
  ·cases hc
 ·
  rename_i t len parts ho
  split at hc
  ·rename_i e hu
   split at hc
   ·rename_i s z pl hs hz hpl
    split at hc
    ·rename_i hzl
     cases hc
     generalize hro:T.alQ o.dst=ro at *
     cases ro with
     | false=>simp[POp.fX] at hn
     | true =>
      simp only[aO] at hv
      split at hv
      ·rename_i hle
       simp only[bKB] at hv
       obtain⟨out,hout,rfl⟩:=hv
       have hy:=akW (T:=T) hu hs hz hzl.1 hzl.2 hpl hle.2 hout hA hN hW
       refine Good.of ?_ hy
       unfold execOp; rw[ho]
      ·cases hv
    ·cases hc
   ·cases hc
  ·cases hc
 ·
  rename_i t x ho
  split at hc
  ·rename_i k q hg hs hq
   cases hc
   simp only[aO] at hv
   split at hv
   ·rename_i v hv1
    simp only[bKB] at hv
    obtain⟨cs,hcs,rfl⟩:=hv
    have hx:=bE hq hv1 hA hN
    have hy:=TY (T:=T) hg hs hW hx hcs
    refine Good.val hW (s:=Instr.loadAt t (a.eval x)) ?_ hy
    unfold execOp; rw[ho]
   ·cases hv
  ·rename_i k q hg hq
   cases hc
   simp only[aO] at hv
   split at hv
   ·rename_i v hv1
    split at hv
    ·rename_i v' hcs
     cases hv
     have hx:=bE hq hv1 hA hN
     have hy:=adX (T:=T) hg hW hx hcs
     refine Good.val hW (s:=Instr.loadAt t (a.eval x)) ?_ hy
     unfold execOp; rw[ho]
    ·cases hv
   ·cases hv
  ·cases hc
 ·
  split at hc<;>cases hc
  simp[POp.dT] at hw
 ·
  rename_i x ho
  simp only[bKB] at hc
  obtain⟨q,hq,rfl⟩:=hc
  simp only[aO] at hv
  split at hv
  ·rename_i hv1
   cases hv
   have r:=bE hq hv1 hA hN
   refine .mk' hW (v:=a.eval x) ?_ r
   generalize hx:a.eval x=ex at r
   cases r
   unfold execOp; rw[ho]; simp[hx]
  ·rename_i hv1
   cases hv
   have r:=bE hq hv1 hA hN
   refine .mk' hW (v:=a.eval x) ?_ r
   obtain⟨b,off,hx⟩:=PB r
   unfold execOp; rw[ho]; simp[hx]
  ·cases hv
 ·
  rename_i b t x y yt ho
  split at hc
  ·rename_i p q hp hq
   have hbin:∀ b',b=b'→aO (.bin b' p q) F H=some pv→Good T.P E H w o a pv:=by
    intro b' hb hv
    subst hb
    simp only[aO] at hv
    split at hv
    ·rename_i v1 v2 h1 h2
     exact .val hW (s:=do eqGuard b t x y (a.eval x) (a.eval y); binOp b t (a.eval x) (a.eval y)) (by unfold execOp; rw[ho]) (a5Y (bE hp h1 hA hN) (bE hq h2 hA hN) hv t x y)
    ·cases hv
   have hbool:∀ neg,b=(if neg then .neq else .eql)→T.P.underlying t=some .bool→aO (.eqb neg p q) F H=some pv→Good T.P E H w o a pv:=by
    intro neg hb ht hv
    simp only[aO] at hv
    split at hv
    ·rename_i v1 v2 h1 h2
     cases hv
     have r1:=bE hp h1 hA hN
     have r2:=bE hq h2 hA hN
     generalize hx:a.eval x=ex at r1
     generalize hy:a.eval y=ey at r2
     cases r1; cases r2
     refine .val hW (s:=do eqGuard b t x y (a.eval x) (a.eval y); binOp b t (a.eval x) (a.eval y)) (by unfold execOp; rw[ho]) ⟨_,?_,.bool _⟩
     rw[hx,hy,hb]
     exact a6P neg v1 v2 x y ht
    ·cases hv
   have hnil:∀ neg {e},b=(if neg then .neq else .eql)→T.P.underlying t=some (.slice e)→q=.const .aB→aO (.isNil neg p) F H=some pv→Good T.P E H w o a pv:=by
    intro neg e hb ht hqn hv
    subst hqn
    simp only[aO] at hv
    cases h1:p.ev F with
    | none=>rw[h1] at hv; cases hv
    | some v1 =>
     rw[h1,bNC,bKB] at hv
     obtain⟨c,hcc,rfl⟩:=hv
     have r1:=bE hp h1 hA hN
     have r2:=bE (F:=F) hq rfl hA hN
     generalize hx:a.eval x=ex at r1
     generalize hy:a.eval y=ey at r2
     cases r2
     refine .val hW (s:=do eqGuard b t x y (a.eval x) (a.eval y); binOp b t (a.eval x) (a.eval y)) (by unfold execOp; rw[ho]) ⟨_,?_,.bool _⟩
     rw[hx,hy,hb]
     exact aNP neg r1 hcc x y ht
   have hst:∀ neg ks,b=(if neg then .neq else .eql)→T.flat t=some ks→aO (.eqs neg ks p q) F H=some pv→Good T.P E H w o a pv:=by
    intro neg ks hb ht hv
    simp only[aO] at hv
    split at hv
    ·rename_i v1 v2 h1 h2
     simp only[bKB] at hv
     obtain⟨c,hcc,rfl⟩:=hv
     refine .val hW (s:=do eqGuard b t x y (a.eval x) (a.eval y); binOp b t (a.eval x) (a.eval y)) (by unfold execOp; rw[ho]) ⟨_,?_,.bool _⟩
     rw[hb]
     exact a0D neg (bE hp h1 hA hN) (bE hq h2 hA hN) hcc x y ht
    ·cases hv
   split at hc
   ·split at hc
    ·cases hc; exact hbin _ rfl hv
    ·cases hc; exact hbin _ rfl hv
    ·rename_i ht; cases hc; exact hbool false rfl ht hv
    ·simp only[bKB] at hc
     obtain⟨ks,hks,rfl⟩:=hc
     exact hst false ks rfl hks hv
    ·rename_i ht
     split at hc
     ·cases hc; exact hnil false rfl ht rfl hv
     ·cases hc
    ·cases hc
   ·split at hc
    ·cases hc; exact hbin _ rfl hv
    ·cases hc; exact hbin _ rfl hv
    ·rename_i ht; cases hc; exact hbool true rfl ht hv
    ·simp only[bKB] at hc
     obtain⟨ks,hks,rfl⟩:=hc
     exact hst true ks rfl hks hv
    ·rename_i ht
     split at hc
     ·cases hc; exact hnil true rfl ht rfl hv
     ·cases hc
    ·cases hc
   ·cases hc; exact hbin _ rfl hv
  ·cases hc
 ·
  rename_i u t x ho
  simp only[bKB] at hc
  obtain⟨q,hq,rfl⟩:=hc
  simp only[aO] at hv
  split at hv
  ·rename_i v hv1
   exact .val hW (s:=Op.unary u (a.eval x)) (by unfold execOp; rw[ho]) (biX (bE hq hv1 hA hN) hv)
  ·cases hv
 ·
  rename_i s d x ho
  split at hc
  ·rename_i k k' q hs hd hq
   cases hc
   simp only[aO] at hv
   split at hv
   ·rename_i m hv1
    cases hv
    have r:=bE hq hv1 hA hN
    generalize hx:a.eval x=ex at r
    cases r
    refine .val hW (s:=convert s d (a.eval x)) (by unfold execOp; rw[ho]) ⟨_,?_,.int _ _⟩
    rw[hx]
    simp[convert,run_underlying hs,run_underlying hd,Conv.intToInt]
   ·cases hv
  ·rename_i q hs hd hq
   cases hc
   simp only[aO] at hv
   split at hv
   ·rename_i l hv1
    cases hv
    have r:=bE hq hv1 hA hN
    refine .val hW (s:=convert s d (a.eval x)) (by unfold execOp; rw[ho]) ⟨a.eval x,?_,r⟩
    generalize hx:a.eval x=ex at r
    cases r
    simp[convert,run_underlying hs,run_underlying hd]
   ·cases hv
  ·rename_i e q hs hd hq
   split at hc
   ·rename_i he
    cases hc
    simp only[aO] at hv
    split at hv
    ·rename_i v hv1
     split at hv
     ·rename_i rows hr
      simp only[bKB] at hv
      obtain⟨l,hl,rfl⟩:=hv
      exact .val hW (s:=convert s d (a.eval x)) (by unfold execOp; rw[ho]) (aaH hs he hd hW (bE hq hv1 hA hN) hr hl)
     ·cases hv
    ·cases hv
   ·cases hc
  ·cases hc
 ·
  rename_i f first captured ho
  split at hc
  ·rename_i m cs hm hcs
   split at hc
   ·rename_i hf
    cases hc
    simp only[aO,bKB] at hv
    obtain⟨vs,hvs,rfl⟩:=hv
    have r:=HR hcs hvs hA hN
    refine .val hW (s:=Instr.makeFunc (.func f) (first.map a.eval) (captured.map a.eval)) (by unfold execOp; rw[ho]) ⟨.func (.func f) #[] (captured.map a.eval),?_,?_⟩
    ·have:first=#[]:=Array.eq_empty_of_size_eq_zero hf.2
     subst this
     simp[Instr.makeFunc]
    ·have hl:=r.len
     have:=aY.fn (E:=E) (name:=m) (captured:=vs) (captured.map a.eval) (by simpa using hl) (fun j p v a b=>r.at_ j p v a (by simpa using b))
     rw[hN,hf.1] at this
     exact this
   ·cases hc
  ·cases hc
 ·
  split at hc
  ·simp only[bKB] at hc
   obtain⟨z,-,rfl⟩:=hc
   simp[POp.fX] at hn
  ·cases hc
 ·
  rename_i t x k ok ho
  split at hc
  ·rename_i kt et hu
   split at hc
   ·rename_i sh z p1 q1 hsh hz hp hq
    simp only[bKB] at hc
    obtain⟨pz,hpz,rfl⟩:=hc
    simp only[bMV] at hz
    obtain⟨info,hi,hz⟩:=hz
    simp only[aO] at hv
    split at hv
    ·rename_i m kv h1 h2
     split at hv
     ·rename_i sh' g key h3 h4
      split at hv
      ·rename_i he
       subst he
       cases hv
       exact .val hW (s:=Instr.lookup t (a.eval x) (a.eval k) ok) (by unfold execOp; rw[ho]) (aDL hu hsh hi hz hpz (bE hp h1 hA hN) (bE hq h2 hA hN) h3 h4 hW)
      ·cases hv
     ·cases hv
    ·cases hv
   ·cases hc
  ·cases hc
 ·
  split at hc
  ·split at hc<;>cases hc
   simp[POp.dT] at hw
  ·cases hc
 ·
  split at hc
  ·split at hc<;>cases hc
   simp[POp.dT] at hw
  ·cases hc
 ·
  split at hc
  ·split at hc
   ·split at hc<;>cases hc
    simp[POp.fX] at hn
   ·cases hc
  ·cases hc
 ·
  rename_i t x lo hi mx ho
  split at hc
  ·rename_i e p l h m hu hx hl hh hm
   split at hc
   ·cases hc
   ·rename_i hmh
    simp only[bKB] at hc
    obtain⟨s,hs,rfl⟩:=hc
    exact aZM ho hu hs hx hl hh hm hmh hv hA hW hN
  ·rename_i p l h hu hx hl hh hm
   cases hc
   have hmx:mx=none:=by
    cases mx with
    | none=>rfl
    | some y=>simp only[Tbl.opt,bKB] at hm; obtain⟨_,-,hq⟩:=hm; cases hq
   subst hmx
   simp only[aO] at hv
   split at hv
   ·rename_i str hv1
    split at hv
    ·rename_i li hi' bl bh
     split at hv
     ·rename_i hb
      cases hv
      exact .val hW (s:=Instr.sliceAt t (a.eval x) (lo.map a.eval) (hi.map a.eval) (Option.map a.eval none)) (by unfold execOp; rw[ho]) (amW hu hl hh (bE hx hv1 hA hN) bl bh hb.1 hb.2.1 hb.2.2 hA hN)
     ·cases hv
    ·cases hv
   ·cases hv
  ·rename_i n' e p hu hx hl hh hm
   have hno:∀ {y:Option Operand},T.opt y=some none→y=none:=by
    intro y hy
    cases y with
    | none=>rfl
    | some y=>simp only[Tbl.opt,bKB] at hy; obtain⟨_,-,hq⟩:=hy; cases hq
   have h1:=hno hl
   have h2:=hno hh
   have h3:=hno hm
   subst h1 h2 h3
   simp only[bKB] at hc
   obtain⟨s,hs,rfl⟩:=hc
   simp only[aO] at hv
   split at hv
   ·rename_i cs hv1
    split at hv
    ·rename_i hb
     cases hv
     exact .val hW (s:=Instr.sliceAt t (a.eval x) (Option.map a.eval none) (Option.map a.eval none) (Option.map a.eval none)) (by unfold execOp; rw[ho]) (aID hu hs (bE hx hv1 hA hN) hb.1 hb.2.2 hA hN)
    ·cases hv
   ·cases hv
  ·cases hc
 ·
  rename_i t x f ho
  split at hc
  ·rename_i fs q hu hq
   split at hc
   ·rename_i fd hf
    split at hc
    ·rename_i s hs
     cases hc
     simp only[aO] at hv
     split at hv
     ·rename_i hv1
      cases hv
      exact .val hW (s:=Instr.fieldAt t (a.eval x) f) (by unfold execOp; rw[ho]) (MM hu hf hs (bE hq hv1 hA hN) (.inl ⟨_,_,_,_,rfl,rfl⟩))
     ·rename_i hv1
      cases hv
      exact .val hW (s:=Instr.fieldAt t (a.eval x) f) (by unfold execOp; rw[ho]) (MM hu hf hs (bE hq hv1 hA hN) (.inr ⟨_,rfl,rfl⟩))
     ·cases hv
    ·cases hc
   ·cases hc
  ·cases hc
 ·
  rename_i t x f ho
  split at hc
  ·rename_i fs q hu hq
   split at hc
   ·rename_i fd hf
    split at hc
    ·rename_i k hg hs
     cases hc
     simp only[aO] at hv
     split at hv
     ·rename_i cs hv1
      split at hv
      ·rename_i hle
       cases hv
       exact .val hW (s:=Instr.field t (a.eval x) f) (by unfold execOp; rw[ho]) (a0E hu hf hg hs (bE hq hv1 hA hN) hle)
      ·cases hv
     ·cases hv
    ·rename_i k hg
     cases hc
     simp only[aO] at hv
     split at hv
     ·rename_i cs hv1
      exact .val hW (s:=Instr.field t (a.eval x) f) (by unfold execOp; rw[ho]) (a6T hu hf hg (bE hq hv1 hA hN) hv)
     ·cases hv
    ·cases hc
   ·cases hc
  ·cases hc
 ·
  rename_i t x i ho
  split at hc
  ·rename_i e p q hu hp hq
   simp only[bKB] at hc
   obtain⟨s,hs,rfl⟩:=hc
   simp only[aO] at hv
   split at hv
   ·rename_i s0 rows k m h1 h2
    have r1:=bE hp h1 hA hN
    have r2:=bE hq h2 hA hN
    generalize hy:a.eval i=ey at r2
    cases r2
    split at hv
    ·rename_i hc
     obtain⟨rfl,h0⟩:=hc
     split at hv
     ·rename_i r hr
      cases hv
      refine .val hW (s:=Instr.indexAt t (a.eval x) (a.eval i)) (by unfold execOp; rw[ho]) ?_
      rw[hy]
      exact bmY hu hs r1 h0 hr
     ·cases hv
    ·cases hv
   ·rename_i o' s0 off len k m h1 h2
    have r1:=bE hp h1 hA hN
    have r2:=bE hq h2 hA hN
    generalize hy:a.eval i=ey at r2
    cases r2
    split at hv
    ·rename_i hc
     obtain⟨rfl,h0,hi⟩:=hc
     cases hv
     refine .val hW (s:=Instr.indexAt t (a.eval x) (a.eval i)) (by unfold execOp; rw[ho]) ?_
     rw[hy]
     exact bfZ hu hs r1 h0 hi
    ·cases hv
   ·cases hv
  ·rename_i e p q k hu hp hq
   simp only[bKB] at hc
   obtain⟨s,hs,rfl⟩:=hc
   simp only[aO] at hv
   split at hv
   ·rename_i h1 h2
    have r1:=bE hp h1 hA hN
    have r2:=bE hq h2 hA hN
    generalize hy:a.eval i=ey at r2
    cases r2
    split at hv
    ·rename_i hc
     cases hv
     refine .val hW (s:=Instr.indexAt t (a.eval x) (a.eval i)) (by unfold execOp; rw[ho]) ?_
     rw[hy]
     exact adG hu hs r1 hc.1 hc.2 (.inl ⟨_,_,_,_,rfl,rfl⟩)
    ·cases hv
   ·rename_i h1 h2
    have r1:=bE hp h1 hA hN
    have r2:=bE hq h2 hA hN
    generalize hy:a.eval i=ey at r2
    cases r2
    split at hv
    ·rename_i hc
     cases hv
     refine .val hW (s:=Instr.indexAt t (a.eval x) (a.eval i)) (by unfold execOp; rw[ho]) ?_
     rw[hy]
     exact adG hu hs r1 hc.1 hc.2 (.inr ⟨_,rfl,rfl⟩)
    ·cases hv
   ·cases hv
  ·cases hc
 ·
  rename_i t x i ho
  split at hc
  ·rename_i e p q k hu hp hq
   split at hc
   ·rename_i s g hs hg
    cases hc
    simp only[aO] at hv
    split at hv
    ·rename_i h1 h2
     have r1:=bE hp h1 hA hN
     have r2:=bE hq h2 hA hN
     generalize hy:a.eval i=ey at r2
     cases r2
     split at hv
     ·rename_i hc
      refine .val hW (s:=Instr.index t (a.eval x) (a.eval i)) (by unfold execOp; rw[ho]) ?_
      rw[hy]
      exact a0Y hu hs hg r1 hc.1 hc.2 hv
     ·cases hv
    ·cases hv
   ·cases hc
  ·rename_i p q hu hp hq
   cases hc
   simp only[aO] at hv
   split at hv
   ·rename_i h1 h2
    have r1:=bE hp h1 hA hN
    have r2:=bE hq h2 hA hN
    generalize hy:a.eval i=ey at r2
    cases r2
    split at hv
    ·rename_i hc
     refine .val hW (s:=Instr.index t (a.eval x) (a.eval i)) (by unfold execOp; rw[ho]) ?_
     rw[hy]
     exact aCX hu r1 hc hv
    ·cases hv
   ·cases hv
  ·cases hc
 ·
  rename_i x i ho
  simp only[bKB] at hc
  obtain⟨q,hq,rfl⟩:=hc
  simp only[aO] at hv
  split at hv
  ·rename_i vs hv1
   have r:=bE hq hv1 hA hN
   generalize hx:a.eval x=ex at r
   cases r with
   | tup us hl hr =>
   obtain⟨u,hu,hru⟩:=axK hl hr hv
   refine .val hW (s:=Instr.extract (a.eval x) i) (by unfold execOp; rw[ho]) ⟨u,?_,hru⟩
   rw[hx]
   simp[Instr.extract,hu]
  ·cases hv
 ·rename_i c ho
  exact a6B ho hc hw hk hv hA hW hN
 ·cases hc
end
open Go Go.RowKit
def Env.own (E:Env) (b n:Nat):Env:=⟨E.G,upd E.sz b (some n),E.num⟩
section
variable {T:Tbl} {n:Nat} {E:Env} {F:PF} {H:PH} {a:Act} {w:World}
theorem Env.brU (hW:bM E H w) (m:Nat):E.le (E.own w.heap.size m):=by
 refine⟨fun b ds h=>h,fun b k h=>?_,rfl⟩
 have:=hW.aHV h
 simp only[Env.own]
 rw[QH _ _ Om]
 exact h
theorem wL {s:Nat} {rs:List (List PV)} (h:∀ r∈rs,r.length=s) {i j:Nat} {pv:PV} (hp:at2 rs i j=some pv):i<rs.length∧j<s:=by
 unfold at2 at hp
 cases hr:rs[i]? with
 | none=>simp[hr] at hp
 | some r =>
  rw[hr,bNC] at hp
  have hl:=h r (bMK hr)
  refine⟨?_,?_⟩
  ·rcases bKM i rs.length with h' | h'
   ·exact h'
   ·rw[bLG h'] at hr; cases hr
  ·rcases bKM j r.length with h' | h'
   ·omega
   ·rw[bLG h'] at hp; cases hp
def jD (E:Env) (s:Nat) (rs:List (List PV)) (cs:Array Value):Prop :=
 (∀ r∈rs,r.length=s)∧rs.length*s≤cs.size∧∀ i j pv,at2 rs i j=some pv→∃ u,cs[i*s+j]?=some u∧u.oneCell'=true∧aY E pv u
theorem jD.of_flat {s:Nat} {rs:List (List PV)} {cs:Array Value} (h:lE E rs.flatten cs) (hs:∀ r∈rs,r.length=s):jD E s rs cs:=by
 refine⟨hs,by rw[h.1,mA rs hs]; exact bJV _,fun i j pv hp=>?_⟩
 obtain⟨-,hj⟩:=wL hs hp
 have e:=sK rs i j hs hj
 rw[hp] at e
 have hlt:i*s+j<cs.size:=by
  rw[h.1]
  rcases bKM (i*s+j) rs.flatten.length with h' | h'
  ·exact h'
  ·rw[bLG h'] at e; cases e
 exact⟨cs[i*s+j],bMW hlt,h.2.1 _ (Array.getElem_mem_toList hlt),h.2.2 _ pv _ e (bMW hlt)⟩
theorem jD.mono {E':Env} (hE:E.le E') {s:Nat} {rs:List (List PV)} {cs:Array Value} (h:jD E s rs cs):jD E' s rs cs :=
 ⟨h.1,h.2.1,fun i j pv hp=>by obtain⟨u,h1,h2,h3⟩:=h.2.2 i j pv hp; exact⟨u,h1,h2,h3.mono hE⟩⟩
theorem bV (H:PH) (o q:Nat) (x:cP):(H.set o x).f q=if q=o then some x else H.f q:=rfl
theorem bM.CS (hW:bM E H w) {s:Nat} {rs:List (List PV)} {cs:Array Value} (ty:TypeId) (h:jD E s rs cs) :
  bM (E.own w.heap.size cs.size) (H.set w.heap.size (.rows s rs)) (w.alloc (.cells cs ty))∧Ext E H w (E.own w.heap.size cs.size) (H.set w.heap.size (.rows s rs)) (w.alloc (.cells cs ty)):=by
 have hle:=Env.brU hW cs.size
 refine⟨⟨fun b ds hb=>?_,fun o x ho=>?_,fun o m hs=>?_⟩,⟨hle,rfl,rfl,rfl,by simp,fun b hb _=>Below.heap_alloc w _ b hb,fun o x ho=>?_,fun b ds hb=>.inl hb⟩⟩
 ·obtain⟨h1,ty',fr,h2⟩:=hW.g b ds hb
  have hlt:=hW.a0M hb
  refine⟨fun x hx=>h1 x ?_,ty',fr,(Below.heap_alloc w _ b hlt).trans h2⟩
  rw[bV,if_neg Om] at hx
  exact hx
 ·rw[bV] at ho
  split at ho
  ·rename_i e
   subst e
   cases ho
   refine⟨by simp,cs,ty,heap_alloc_new w _,by simp[Env.own,upd],h.1,h.2.1,fun i j pv hp=>?_⟩
   obtain⟨u,h1,h2,h3⟩:=h.2.2 i j pv hp
   exact⟨u,h1,h2,h3.mono hle⟩
  ·obtain⟨h1,h2⟩:=hW.h o x ho
   exact⟨by simp; omega,h2.mono hle (Below.heap_alloc w _ o h1)⟩
 ·simp only[Env.own,upd] at hs
  split at hs
  ·rename_i e
   cases hs
   subst e
   exact⟨cs,ty,(0,0),heap_alloc_new w _,rfl⟩
  ·obtain⟨cur,ty',fr,h1,h2⟩:=hW.s o m hs
   exact⟨cur,ty',fr,(Below.heap_alloc w _ o (hW.aHV hs)).trans h1,h2⟩
 ·rw[bV] at ho
  split at ho
  ·rename_i e; exact .inr Om
  ·exact .inl ⟨x,ho⟩
theorem bM.bqV (hW:bM E H w) (sh:MSh):bM E (H.set w.heap.size (.map sh (fun _=>none))) (w.alloc (.map #[] 0))∧Ext E H w E (H.set w.heap.size (.map sh (fun _=>none))) (w.alloc (.map #[] 0)):=by
 refine⟨⟨fun b ds hb=>?_,fun o x ho=>?_,fun o m hs=>?_⟩,⟨.refl E,rfl,rfl,rfl,by simp,fun b hb _=>Below.heap_alloc w _ b hb,fun o x ho=>?_,fun b ds hb=>.inl hb⟩⟩
 ·obtain⟨h1,ty',fr,h2⟩:=hW.g b ds hb
  have hlt:=hW.a0M hb
  refine⟨fun x hx=>h1 x ?_,ty',fr,(Below.heap_alloc w _ b hlt).trans h2⟩
  rw[bV,if_neg Om] at hx
  exact hx
 ·rw[bV] at ho
  split at ho
  ·rename_i e
   subst e
   cases ho
   exact⟨by simp,#[],0,[],heap_alloc_new w _,⟨rfl,List.nodup_nil⟩,rfl,fun i e e' h=>by simp at h⟩
  ·obtain⟨h1,h2⟩:=hW.h o x ho
   exact⟨by simp; omega,h2.mono (.refl E) (Below.heap_alloc w _ o h1)⟩
 ·obtain⟨cur,ty',fr,h1,h2⟩:=hW.s o m hs
  exact⟨cur,ty',fr,(Below.heap_alloc w _ o (hW.aHV hs)).trans h1,h2⟩
 ·rw[bV] at ho
  split at ho
  ·rename_i e; exact .inr Om
  ·exact .inl ⟨x,ho⟩
def btY (P:Program) (E:Env) (H:PH) (w:World) (o:Oper) (a:Act) (mk:Nat→PV) (x:cP):Prop :=
 ∃ v w' E' q,(execOp a.eval o).run P w=.ok (.value v) w'∧H q=none∧aY E' (mk q) v∧bM E' (H.set q x) w'∧Ext E H w E' (H.set q x) w'
theorem afP {cs:List PV} {vs:Array Value} (h:lE E cs vs):jD E cs.length [cs] vs:=by
 refine .of_flat (by simpa using h) (by simp)
theorem afA (E:Env) (b m:Nat):(E.own b m).sz b=some m:=by simp[Env.own,upd]
theorem aNI {o:Oper} {c:Call} {p:POp} (hc:T.call o c=some p):p.fX=false:=by
 unfold Tbl.call at hc
 repeat' (first | (split at hc) | (simp only[bKB] at hc; obtain⟨_,-,rfl⟩:=hc; rfl) | (cases hc; rfl) | (cases hc; done))
theorem a7Y {o:Oper} {p:POp} {mk:Nat→PV} {x:cP} (hc:T.op o=some p) (hn:p.fX=true) (hv:cQ p F=some (mk,x)) (hA:dV n E F a) (hW:bM E H w) (hN:E.num=T.num):btY T.P E H w o a mk x:=by
 have hnew:=hW.a0X
 unfold Tbl.op at hc
 split at hc
 case h_4 =>
  rename_i e ho
  simp only[bKB] at hc
  obtain⟨z,hz,rfl⟩:=hc
  simp only[cQ,bMN.injEq,Prod.mk.injEq] at hv
  obtain⟨rfl,rfl⟩:=hv
  obtain⟨i,zv,hi,hiz,hzr⟩:=JU (E:=E) hz
  obtain⟨h1,h2⟩:=hW.CS e (afP hzr)
  have bJN:(Instr.alloc e true (.tuple #[])).run T.P w=.ok (.pointer (some ⟨w.heap.size,0,none⟩)) (w.alloc (.cells zv.cells e)):=by
   simp[Instr.alloc,zeroValue,typeInfo,hi,hiz,newVar,newRow]
  refine⟨_,_,_,w.heap.size,qF ?_ bJN,hnew,?_,h1,h2⟩
  ·unfold execOp; rw[ho]
  ·have:=aY.ptr (E:=E.own w.heap.size zv.cells.size) w.heap.size z.length 0 0
   simpa using this
 case h_5 =>
  rename_i e y ho
  simp only[bKB] at hc
  obtain⟨q,hq,rfl⟩:=hc
  generalize hro:T.alQ o.dst=ro at *
  cases ro with
  | true=>simp[POp.fX] at hn
  | false =>
   simp only[cQ] at hv
   split at hv
   ·rename_i v hv1
    split at hv
    ·rename_i h1
     simp only[bMN.injEq,Prod.mk.injEq] at hv
     obtain⟨rfl,rfl⟩:=hv
     obtain⟨c1,c2,c3⟩:=tB (bE hq hv1 hA hN) h1
     obtain⟨g1,g2⟩:=hW.CS e (afP (E:=E) (cs:=v.cells) (vs:=(a.eval y).cells) ⟨c1,c2,c3⟩)
     have bJN:(Instr.box e (a.eval y)).run T.P w=.ok (.pointer (some ⟨w.heap.size,0,none⟩)) (w.alloc (.cells (a.eval y).cells e)):=by
      simp[Instr.box,newVar,newRow]
     refine⟨_,_,_,w.heap.size,qF ?_ bJN,hnew,?_,g1,g2⟩
     ·unfold execOp; rw[ho]
     ·have:=aY.ptr (E:=E.own w.heap.size (a.eval y).cells.size) w.heap.size v.cells.length 0 0
      simpa using this
    ·cases hv
   ·cases hv
 case h_7 =>
  rename_i t len parts ho
  split at hc
  ·rename_i e hu
   split at hc
   ·rename_i s z pl hs hz hpl
    split at hc
    ·rename_i hzl
     cases hc
     generalize hro:T.alQ o.dst=ro at *
     cases ro with
     | true=>simp[POp.fX] at hn
     | false =>
      simp only[cQ] at hv
      split at hv
      ·rename_i hle
       simp only[bKB,Prod.mk.injEq] at hv
       obtain⟨out,hout,rfl,rfl⟩:=hv
       obtain⟨us,bJN,hcr,bIC,hlen⟩:=LM (w:=w) hu hs hz hzl.1 hzl.2 hpl hle.2 hout hA hN
       obtain⟨g1,g2⟩:=hW.CS e (jD.of_flat hcr bIC)
       refine⟨_,_,_,w.heap.size,qF ?_ bJN,hnew,?_,g1,g2⟩
       ·unfold execOp; rw[ho]
       ·have hsz:us.size=len*s:=by rw[hcr.1,mA out bIC,hlen]
        refine .osl (n:=us.size) rfl rfl (.inr (by simp)) (bJV _) ?_ (afA _ _ _) (by rw[hsz]; omega)
        have:len*1≤len*s:=bLZ _ hzl.2
        simp only[maxLen]
        omega
      ·cases hv
    ·cases hc
   ·cases hc
  ·cases hc
 case h_15 =>
  rename_i t ho
  split at hc
  case h_2=>cases hc
  simp only[bKB] at hc
  obtain⟨sh,-,rfl⟩:=hc
  simp only[cQ,bMN.injEq,Prod.mk.injEq] at hv
  obtain⟨rfl,rfl⟩:=hv
  obtain⟨g1,g2⟩:=hW.bqV sh
  have bJN:(Instr.makeMap t (Option.map a.eval none)).run T.P w=.ok (.map (some w.heap.size)) (w.alloc (.map #[] 0)):=by
   simp[Instr.makeMap]
  refine⟨_,_,_,w.heap.size,qF ?_ bJN,hnew,.map _,g1,g2⟩
  unfold execOp; rw[ho]
 case h_19 =>
  rename_i t l c ho
  split at hc
  ·rename_i e hu
   split at hc
   ·rename_i i z p q hi hz hp hq
    split at hc
    ·rename_i hzl
     cases hc
     simp only[cQ] at hv
     split at hv
     ·rename_i k1 m1 k2 m2 hv1 hv2
      split at hv
      ·rename_i bJC
       simp only[bMN.injEq,Prod.mk.injEq] at hv
       obtain⟨rfl,rfl⟩:=hv
       obtain⟨h0,h1,h2,h3,-⟩:=bJC
       have r1:=bE hp hv1 hA hN
       have r2:=bE hq hv2 hA hN
       generalize hx:a.eval l=ex at r1
       generalize hy:a.eval c=ey at r2
       cases r1; cases r2
       obtain⟨i',zv,hi',hiz,hzr⟩:=JU (E:=E) hz
       rw[hi] at hi'
       cases hi'
       have bJN:=run_make w t e i zv hu hi hiz k1 k2 m1 m2 h0 h1 (by rw[Int.mul_comm]; omega) h3
       have hcr:=hzr.bkU (len:=m2.toNat) hzl.1 hzl.2
       have hbig:jD E i.size (bJW m2.toNat z) (madeCells zv.cells (m2.toNat*i.size)) :=
        jD.of_flat hcr (fun r hr=>by rw[(List.mem_replicate.1 hr).2]; exact hzl.1)
       have hsm:jD E i.size (bJW m1.toNat z) (madeCells zv.cells (m2.toNat*i.size)):=by
        refine⟨fun r hr=>by rw[(List.mem_replicate.1 hr).2]; exact hzl.1,?_,fun a b pv hpv=>hbig.2.2 a b pv ?_⟩
        ·have:=hbig.2.1
         simp only[bNI] at this ⊢
         have h5:m1.toNat*i.size≤m2.toNat*i.size:=bLA _ Om
         omega
        ·unfold at2 at hpv ⊢
         rw[List.getElem?_replicate] at hpv ⊢
         split at hpv
         ·rw[if_pos Om]; exact hpv
         ·simp at hpv
       obtain⟨g1,g2⟩:=hW.CS e hsm
       refine⟨_,_,_,w.heap.size,qF (s:=Instr.makeSlice t (.int k1 m1) (.int k2 m2)) ?_ bJN,hnew,?_,g1,g2⟩
       ·unfold execOp; rw[ho]; simp only[hx,hy]
       ·refine .osl (n:=(madeCells zv.cells (m2.toNat*i.size)).size) rfl rfl (.inr (by simp)) Om (by simp only[maxLen]; omega) (afA _ _ _) (by rw[size_madeCells]; omega)
      ·cases hv
     ·cases hv
    ·cases hc
   ·cases hc
  ·cases hc
 all_goals (first
  | (simp only[bKB] at hc; obtain⟨_,-,rfl⟩:=hc; simp[POp.fX] at hn; done)
  | skip)
 all_goals (repeat' (first | (split at hc) | (simp only[bKB] at hc; obtain⟨_,-,rfl⟩:=hc; simp[POp.fX] at hn; done) | (cases hc; simp[POp.fX] at hn; done) | (cases hc; done)))
 all_goals (rw[aNI hc] at hn; cases hn)
end
open Go Go.RowKit
section
variable {T:Tbl} {n:Nat} {E:Env} {F:PF} {H:PH} {a:Act} {w:World}
theorem bM.amV (hW:bM E H w) {o s:Nat} {rs rs':List (List PV)} {cur cs:Array Value} {ty:TypeId} (ho:H o=some (.rows s rs)) (hh:w.heap[o]?=some (.cells cur ty (0,0))) (hsz:cs.size=cur.size)
  (h:jD E s rs' cs):bM E (H.set o (.rows s rs')) (w.setRow o cs)∧Ext E H w E (H.set o (.rows s rs')) (w.setRow o cs):=by
 have hself:=setRow_heap w o cur cs ty (0,0) hh
 have bJJ:∀ b,b≠o→(w.setRow o cs).heap[b]?=w.heap[b]?:=fun b hb=>setRow_other w o b cs hb
 have hGne:∀ b ds,E.G b=some ds→b≠o:=fun b ds hb e=>by
  subst e
  have:=(hW.g b ds hb).1 _ ho
  cases this
 have hSz:E.sz o=some cur.size:=by
  obtain⟨-,cur',ty',h1,h2,-⟩:=hW.h o _ ho
  rw[hh] at h1
  cases h1
  exact h2
 refine⟨⟨fun b ds hb=>?_,fun q x hq=>?_,fun q m hs=>?_⟩,⟨.refl E,rfl,rfl,rfl,by simp,fun b _ hn=>bJJ b (fun e=>by subst e; rw[ho] at hn; cases hn),fun q x hq=>?_,fun b ds hb=>.inl hb⟩⟩
 ·obtain⟨h1,ty',fr,h2⟩:=hW.g b ds hb
  have hne:=hGne b ds hb
  refine⟨fun x hx=>h1 x ?_,ty',fr,(bJJ b hne).trans h2⟩
  rw[bV,if_neg hne] at hx
  exact hx
 ·rw[bV] at hq
  split at hq
  ·rename_i e
   subst e
   cases hq
   refine⟨by simpa using (hW.h q _ ho).1,cs,ty,hself,by rw[hsz]; exact hSz,h.1,h.2.1,h.2.2⟩
  ·rename_i e
   obtain⟨h1,h2⟩:=hW.h q x hq
   exact⟨by simpa using h1,h2.mono (.refl E) (bJJ q e)⟩
 ·by_cases e:q=o
  ·subst e
   rw[hSz] at hs
   cases hs
   exact⟨cs,ty,(0,0),hself,hsz⟩
  ·obtain⟨cur',ty',fr,h1,h2⟩:=hW.s q m hs
   exact⟨cur',ty',fr,(bJJ q e).trans h1,h2⟩
 ·rw[bV] at hq
  split at hq
  ·rename_i e; subst e; exact .inl ⟨_,ho⟩
  ·exact .inl ⟨x,hq⟩
def axI (P:Program) (E:Env) (H:PH) (w:World) (o:Oper) (a:Act) (K:PV→PH→Prop):Prop :=
 ∃ v nx w' E' H' pv,(execOp a.eval o).run P w=.ok nx w'∧(nx=.value v∨(nx=.skip∧v=undef))∧aY E' pv v∧bM E' H' w'∧Ext E H w E' H' w'∧K pv H'
theorem PG:∀ (ps:List PV) (r:List PV) (c j:Nat),c+ps.length≤r.length→(setCells r c ps)[j]?=if c≤j∧j<c+ps.length then ps[j-c]? else r[j]?
 | [],r,c,j,_=>by
  rw[if_neg (by intro h; simp at h; omega)]
  rfl
 | p::ps,r,c,j,h=>by
  simp only[bLU] at h ⊢
  simp only[setCells]
  rw[PG ps _ (c+1) j (by rw[bLQ]; omega),List.getElem?_set]
  by_cases h1:c=j
  ·subst h1
   rw[if_neg Om,if_pos rfl,if_pos Om,if_pos Om]
   simp
  ·by_cases h2:c+1≤j∧j<c+1+ps.length
   ·rw[if_pos h2,if_pos Om]
    have:j-c=(j-(c+1))+1:=by omega
    rw[this,List.getElem?_cons_succ]
   ·rw[if_neg h2,if_neg h1,if_neg Om]
theorem a2Z (L cs:List Value) (off k:Nat) (h:off+cs.length≤L.length):(L.take off++cs++L.drop (off+cs.length))[k]?=if off≤k∧k<off+cs.length then cs[k-off]? else L[k]?:=by
 have h1:(L.take off).length=off:=by rw[bKL]; omega
 by_cases ha:k<off
 ·rw[if_neg Om,bKU,bMH Om,bMY,if_pos ha]
 ·by_cases hb:k<off+cs.length
  ·rw[if_pos ⟨by omega,hb⟩,bKU,bLS Om,h1,bMH Om]
  ·rw[if_neg Om,bKU,bLS Om,h1,bLS Om,bNH]
   congr 1
   omega
theorem jD.store {s:Nat} {rs:List (List PV)} {cur:Array Value} (h:jD E s rs cur) {i c:Nat} {r ps:List PV} {us:List Value} (hr:rs[i]?=some r) (hc:c+ps.length≤s) (hl:us.length=ps.length)
  (h1:∀ u∈us,u.oneCell'=true) (bJO:∀ (j:Nat) p u,ps[j]?=some p→us[j]?=some u→aY E p u) :
  jD E s (rs.set i (setCells r c ps)) (cur.toList.take (i*s+c)++us++cur.toList.drop (i*s+c+us.length)).toArray:=by
 have hi:i<rs.length:=by
  rcases bKM i rs.length with h' | h'
  ·exact h'
  ·rw[bLG h'] at hr; cases hr
 have hrl:r.length=s:=h.1 r (bMK hr)
 have hle:(i+1)*s≤rs.length*s:=bLA _ hi
 rw[Nat.succ_mul] at hle
 have hcur:=h.2.1
 have bJE:i*s+c+us.length≤cur.toList.length:=by (have e:cur.toList.length=cur.size:=bMR; omega)
 refine⟨fun q hq=>?_,?_,fun i' j pv hp=>?_⟩
 ·rcases List.mem_or_eq_of_mem_set hq with hq | rfl
  ·exact h.1 q hq
  ·rw[yZ]; exact hrl
 ·rw[bLQ,List.size_toArray]
  simp only[bKA,bKL,bLV]
  have e:cur.toList.length=cur.size:=bMR
  omega
 ·rw[List.getElem?_toArray,a2Z _ _ _ _ bJE]
  by_cases e:i'=i
  ·subst e
   simp only[at2,List.getElem?_set,if_true,hi,bNC] at hp
   rw[PG ps r c j Om] at hp
   split at hp
   ·rename_i hj
    rw[if_pos Om]
    have e2:i'*s+j-(i'*s+c)=j-c:=by omega
    rw[e2]
    have hlt:j-c<us.length:=by omega
    exact⟨us[j-c],bKD hlt,h1 _ (bJX hlt),bJO _ pv _ hp (bKD hlt)⟩
   ·rename_i hj
    have hp':at2 rs i' j=some pv:=by simp[at2,hr,hp]
    have hj2:=(wL h.1 hp').2
    rw[if_neg Om,Array.getElem?_toList]
    exact h.2.2 i' j pv hp'
  ·have hp':at2 rs i' j=some pv:=by
    simp only[at2] at hp ⊢
    rw[List.getElem?_set,if_neg (fun x=>e x.symm)] at hp
    exact hp
   have hj2:=(wL h.1 hp').2
   have hne:¬ (i*s+c≤i'*s+j∧i'*s+j<i*s+c+us.length):=by
    rcases bKM i' i with h' | h'
    ·have:(i'+1)*s≤i*s:=bLA _ h'
     rw[Nat.succ_mul] at this
     omega
    ·have:(i+1)*s≤i'*s:=bLA _ Om
     rw[Nat.succ_mul] at this
     omega
   rw[if_neg hne,Array.getElem?_toList]
   exact h.2.2 i' j pv hp'
theorem aOG {o:Oper} {t:TypeId} {ax x:Operand} {pp px:aP} {k:Nat} {pa pv:PV} {H':PH} (ho:o.op=.store t ax x) (hs:T.size t=some k) (hp:T.opd ax=some pp) (hx:T.opd x=some px)
  (hpa:pp.ev F=some pa) (hpv:px.ev F=some pv) (hlen:pv.cells.length=k) (hst:storeAt H pa pv.cells=some H') (hA:dV n E F a) (hW:bM E H w) (hN:E.num=T.num) :
  ∃ w',(execOp a.eval o).run T.P w=.ok .skip w'∧bM E H' w'∧Ext E H w E H' w':=by
 unfold storeAt at hst
 split at hst
 ·rename_i q size i c
  split at hst
  ·rename_i s rs hq
   split at hst
   ·rename_i bJC
    obtain⟨rfl,hcl,bJH⟩:=bJC
    split at hst
    ·rename_i r hr
     cases hst
     have ra:=bE hp hpa hA hN
     generalize hea:a.eval ax=ea at ra
     cases ra
     obtain⟨c1,c2,c3⟩:=tB (bE hx hpv hA hN) bJH
     obtain⟨-,cur,ty,hh,hsz,bIC,hlen',bJF⟩:=hW.h q _ hq
     have hR:jD E s rs cur:=⟨bIC,hlen',bJF⟩
     have hi:i<rs.length:=by
      rcases bKM i rs.length with h' | h'
      ·exact h'
      ·rw[bLG h'] at hr; cases hr
     have hle:(i+1)*s≤rs.length*s:=bLA _ hi
     rw[Nat.succ_mul] at hle
     have hul:(a.eval x).cells.toList.length=pv.cells.length:=by simpa using c1
     have bJE:i*s+c+0+(a.eval x).cells.toList.length≤cur.size:=by omega
     have bJN:=run_storeCells_at T.P q (i*s+c) ty (a.eval x).cells.toList 0 cur w hh bJE c2
     simp only[bLL] at bJN
     obtain⟨g1,g2⟩:=hW.amV hq hh (cs:=(cur.toList.take (i*s+c)++(a.eval x).cells.toList++cur.toList.drop (i*s+c+(a.eval x).cells.toList.length)).toArray)
      (by rw[List.size_toArray]; simp only[bKA,bKL,bLV]; have e:cur.toList.length=cur.size:=bMR; omega)
      (hR.store hr hcl hul c2 (fun j p u hp hu=>c3 j p u hp (by simpa using hu)))
     refine⟨_,?_,g1,g2⟩
     unfold execOp
     rw[ho]
     have hne:¬ ((a.eval x).cells.size≠k):=by rw[c1,hlen]; simp
     simp[hea,Instr.storeAt,Instr.sureAddr,storeVar,hJ hs,hne,bJN]
    ·cases hst
   ·cases hst
  ·cases hst
 ·cases hst
end
open Go Go.RowKit
section
variable {T:Tbl} {n:Nat} {E:Env} {F:PF} {H:PH} {a:Act} {w:World}
theorem baD {s:Nat} {pv:PV} {v:Value} {rows:List (List PV)} (P:Program) (hW:bM E H w) (hv:aY E pv v) (h:dU H s pv=some rows) :
  ∃ ad cap,∃ news:List Value,v=.slice ad rows.length cap∧news.length=rows.length*s∧(∀ u∈news,u.oneCell'=true)∧(∀ r∈rows,r.length=s) ∧
   (∀ i j q,at2 rows i j=some q→∃ u,news[i*s+j]?=some u∧aY E q u) ∧
   ∀ wx:World,wx.heap=w.heap→(Builtin.firstCells s rows.length v).run P wx=.ok news.toArray wx:=by
 obtain⟨ad,cap,rfl,hcap,bIC,hc⟩:=ahH hW hv h
 by_cases hne:rows=[]
 ·subst hne
  refine⟨ad,cap,[],rfl,by simp,by simp,by simp,fun i j q hq=>by simp[at2] at hq,fun wx _=>?_⟩
  cases ad with
  | none=>simp[Builtin.firstCells]
  | some x=>simp[Builtin.firstCells,Go.loadCells,Go.loadCellsFrom]
 ·obtain⟨b,off,rfl,bJF⟩:=hc hne
  have hat:∀ k,k<rows.length*s→∃ u q,at2 rows (k/s) (k%s)=some q∧w.cell? ⟨b,off+k,none⟩=some u∧u.oneCell'=true∧aY E q u:=by
   intro k hk
   have hs:0<s:=by
    rcases bMT s with h | h
    ·subst h; simp at hk
    ·exact h
   have h1:k/s<rows.length:=(bMP hs).2 hk
   have h2:k%s<s:=bLJ _ hs
   have h3:k/s*s+k%s=k:=by rw[bKT]; exact bNA k s
   have hq:∃ q,at2 rows (k/s) (k%s)=some q:=by
    have hl:=bIC rows[k/s] (bJX h1)
    exact⟨rows[k/s][k%s]'Om,by simp[at2,h1,bKD (Om:k%s<rows[k/s].length)]⟩
   obtain⟨q,hq⟩:=hq
   obtain⟨u,g1,g2,g3⟩:=bJF _ _ q hq
   rw[h3] at g1
   exact⟨u,q,hq,g1,g2,g3⟩
  refine⟨_,cap,(bJU (rows.length*s)).map fun k=>(w.cell? ⟨b,off+k,none⟩).getD undef,rfl,by simp,?_,bIC,?_,?_⟩
  ·intro u hu
   simp only[bKX,bLI] at hu
   obtain⟨k,hk,rfl⟩:=hu
   obtain⟨u,q,-,g1,g2,-⟩:=hat k hk
   simp[g1,g2]
  ·intro i j q hq
   obtain⟨hi,hj⟩:=wL bIC hq
   have hlt:i*s+j<rows.length*s:=by
    have:(i+1)*s≤rows.length*s:=bLA _ hi
    rw[Nat.succ_mul] at this
    omega
   obtain⟨u,g1,g2,g3⟩:=bJF i j q hq
   refine⟨u,?_,g3⟩
   rw[bKZ,List.getElem?_range hlt]
   simp[g1]
  ·intro wx hwx
   refine run_firstCells_some wx s rows.length _ _ cap _ (by simp) (fun j u hu=>?_)
   rw[add_plain]
   simp only[bKZ,bKB] at hu
   obtain⟨k,hk,rfl⟩:=hu
   have hjk:j<rows.length*s:=by
    rcases bKM j (rows.length*s) with h' | h'
    ·exact h'
    ·rw[bLG (by simpa using h')] at hk; cases hk
   rw[List.getElem?_range hjk] at hk
   cases hk
   obtain⟨u,q,-,g1,-,-⟩:=hat j hjk
   have:wx.cell? ⟨b,off+j,none⟩=w.cell? ⟨b,off+j,none⟩:=by simp[World.cell?,hwx]
   rw[this,g1]
   rfl
theorem PC {t ty e:TypeId} {i:TypeInfo} (ht:T.P.underlying t=some (.slice e)) (hi:T.P.info? e=some i) (base:Option Addr) (bIG bJS c:Nat) (ad:Option Addr) (hle:bIG≤bJS)
  (hf:(Builtin.firstCells i.size 0 (.slice ad 0 c)).run T.P w=.ok #[] w):(Builtin.append_ #[t,t] ty #[.slice base bIG bJS,.slice ad 0 c]).run T.P w=.ok (.slice base bIG bJS) w:=by
 cases base with
 | none=>simp[Builtin.append_,run_underlying ht,sizeOf,typeInfo,hi,Builtin.lenOf,hle,hf]
 | some b=>simp[Builtin.append_,run_underlying ht,sizeOf,typeInfo,hi,Builtin.lenOf,hle,hf,storeCells]
theorem aHT {t ty e bt:TypeId} {i:TypeInfo} (ht:T.P.underlying t=some (.slice e)) (hi:T.P.info? e=some i) (g bIG bJS m c:Nat) (ad:Option Addr) (cur:Array Value) (hg:w.heap[g]?=some (.cells cur bt (0,0)))
  (news:List Value) (hl:news.length=m*i.size) (hf:(Builtin.firstCells i.size m (.slice ad m c)).run T.P w=.ok news.toArray w) (h1:∀ u∈news,u.oneCell'=true) (bIV:bIG+m≤bJS) (bJE:bIG*i.size+news.length≤cur.size) :
  (Builtin.append_ #[t,t] ty #[.slice (some ⟨g,0,none⟩) bIG bJS,.slice ad m c]).run T.P w =
   .ok (.slice (some ⟨g,0,none⟩) (bIG+m) bJS) (w.setRow g (cur.toList.take (bIG*i.size)++news++cur.toList.drop (bIG*i.size+news.length)).toArray):=by
 have hst:=run_storeCells_at T.P g (bIG*i.size) bt news 0 cur w hg (by simpa using bJE) h1
 simp only[bLL] at hst
 simp[Builtin.append_,run_underlying ht,sizeOf,typeInfo,hi,Builtin.lenOf,bIV,hf,Addr.add_lit,hst]
theorem aHS {t ty e:TypeId} {i:TypeInfo} {z:Value} (ht:T.P.underlying t=some (.slice e)) (hi:T.P.info? e=some i) (hz:i.zero=some z) (base:Option Addr) (bIG bJS m c:Nat) (ad:Option Addr) (bJQ news:List Value)
  (ho:(Builtin.firstCells i.size bIG (.slice base bIG bJS)).run T.P w.drew=.ok bJQ.toArray w.drew) (hf:(Builtin.firstCells i.size m (.slice ad m c)).run T.P w.drew=.ok news.toArray w.drew)
  (hg:bJS<bIG+m) (h63:bIG+m≤maxLen) (hb:(bIG+m)*i.bytes≤140737488355328) :
  (Builtin.append_ #[t,t] ty #[.slice base bIG bJS,.slice ad m c]).run T.P w =
   .ok (.slice (some ⟨w.heap.size,0,none⟩) (bIG+m) (grownCap w (bIG+m) bJS e))
    (w.drew.alloc (.cells (bJQ.toArray++news.toArray++Builtin.zeroCells z.cells (grownCap w (bIG+m) bJS e-(bIG+m))) e)):=by
 have hn:¬ (bIG+m≤bJS):=by omega
 simp only[maxLen] at h63
 have h63':¬ (9223372036854775807<((bIG:Int)+(m:Int))):=by omega
 have bJE:=growslice_fits hg hb
 have h48':¬ (281474976710656<Builtin.nextslicecap (bIG+m) bJS*i.bytes):=by omega
 simp[Builtin.append_,run_underlying ht,sizeOf,typeInfo,zeroValue,hi,hz,Builtin.lenOf,hn,h63',h48',Question.forced,hf,ho,newRow,grownCap]
 congr 2
 apply Array.ext'
 simp[bKU]
theorem bM.drew (hW:bM E H w):bM E H w.drew:=⟨hW.g,fun o x ho=>⟨(hW.h o x ho).1,(hW.h o x ho).2.mono (.refl E) rfl⟩,hW.s⟩
theorem Ext.amM {E':Env} {H':PH} {w':World} (h:Ext E H w.drew E' H' w'):Ext E H w E' H' w':=⟨h.env,h.os,h.tape,h.output,h.size,h.block,h.new,h.newG⟩
theorem aZJ {rs src:List (List PV)} (i j:Nat):at2 (rs++src) i j=if i<rs.length then at2 rs i j else at2 src (i-rs.length) j:=by
 unfold at2
 rw[List.getElem?_append]
 split<;>rfl
theorem jD.join {s:Nat} {rs src:List (List PV)} {bJQ news:List Value} {tail:List Value} (h1:∀ r∈rs,r.length=s) (h2:∀ r∈src,r.length=s) (hlo:bJQ.length=rs.length*s) (hln:news.length=src.length*s)
  (ho:∀ i j q,at2 rs i j=some q→∃ u,bJQ[i*s+j]?=some u∧u.oneCell'=true∧aY E q u) (hn:∀ i j q,at2 src i j=some q→∃ u,news[i*s+j]?=some u∧u.oneCell'=true∧aY E q u) :
  jD E s (rs++src) (bJQ++news++tail).toArray:=by
 refine⟨fun r hr=>?_,?_,fun i j q hq=>?_⟩
 ·rcases bLH.1 hr with h | h
  ·exact h1 r h
  ·exact h2 r h
 ·rw[List.size_toArray,bKA,bKA,bKA,hlo,hln,bKY]
  omega
 ·rw[aZJ] at hq
  rw[List.getElem?_toArray]
  split at hq
  ·rename_i hi
   obtain⟨u,g1,g2,g3⟩:=ho i j q hq
   refine⟨u,?_,g2,g3⟩
   have hlt:i*s+j<bJQ.length:=by
    rcases bKM (i*s+j) bJQ.length with h' | h'
    ·exact h'
    ·rw[bLG h'] at g1; cases g1
   rw[bKU,bMH hlt]
   exact g1
  ·rename_i hi
   obtain⟨u,g1,g2,g3⟩:=hn _ j q hq
   refine⟨u,?_,g2,g3⟩
   have hlt:(i-rs.length)*s+j<news.length:=by
    rcases bKM ((i-rs.length)*s+j) news.length with h' | h'
    ·exact h'
    ·rw[bLG h'] at g1; cases g1
   have e:i*s+j=bJQ.length+((i-rs.length)*s+j):=by
    rw[hlo,← bMG,← bKY]
    congr 2
    omega
   rw[e,bKU,bLS Om,Nat.add_sub_cancel_left,bMH hlt]
   exact g1
theorem bM.dead (hW:bM E H w) {o:Nat} {x:cP} (ho:H o=some x):bM E (H.set o .dead) w∧Ext E H w E (H.set o .dead) w:=by
 refine⟨⟨fun b ds hb=>⟨fun y hy=>?_,(hW.g b ds hb).2⟩,fun q y hq=>?_,hW.s⟩,⟨.refl E,rfl,rfl,rfl,bJV _,fun _ _ _=>rfl,fun q y hq=>?_,fun b ds hb=>.inl hb⟩⟩
 ·rw[bV] at hy
  split at hy
  ·cases hy; rfl
  ·exact (hW.g b ds hb).1 y hy
 ·rw[bV] at hq
  split at hq
  ·rename_i e
   subst e
   cases hq
   exact⟨(hW.h q x ho).1,trivial⟩
  ·exact hW.h q y hq
 ·rw[bV] at hq
  split at hq
  ·rename_i e; subst e; exact .inl ⟨x,ho⟩
  ·exact .inl ⟨y,hq⟩
end
open Go Go.RowKit
section
variable {T:Tbl} {n:Nat} {E:Env} {F:PF} {H:PH} {a:Act} {w:World}
theorem a0Q (w:World) (need old:Nat) (e:TypeId):need≤grownCap w need old e:=grownCap_ge w need old e
theorem mN {o:Oper} {c:Call} {x y:Operand} {t:TypeId} {v:Value} {w':World} (ho:o.op=.call c) (hcc:c.callee=.builtin .append) (hca:c.args.toList=[x,y]) (hct:c.argTypes.toList=[t,t])
  (h:(Builtin.append_ #[t,t] o.type #[a.eval x,a.eval y]).run T.P w=.ok v w'):(execOp a.eval o).run T.P w=.ok (.value v) w':=by
 unfold execOp
 rw[ho]
 have e1:c.argTypes=#[t,t]:=by apply Array.ext'; simp[hct]
 have e2:=aZI hca a.eval
 simp[resolve,hcc,invoke,builtin,e1,e2,h]
theorem bM.trim (hW:bM E H w) {o s k:Nat} {rs:List (List PV)} (ho:H o=some (.rows s rs)):bM E (H.set o (.rows s (rs.take k))) w∧Ext E H w E (H.set o (.rows s (rs.take k))) w:=by
 refine⟨⟨fun b ds hb=>⟨fun y hy=>?_,(hW.g b ds hb).2⟩,fun q y hq=>?_,hW.s⟩,⟨.refl E,rfl,rfl,rfl,bJV _,fun _ _ _=>rfl,fun q y hq=>?_,fun b ds hb=>.inl hb⟩⟩
 ·rw[bV] at hy
  split at hy
  ·rename_i e; subst e
   have:=(hW.g b ds hb).1 _ ho
   cases this
  ·exact (hW.g b ds hb).1 y hy
 ·rw[bV] at hq
  split at hq
  ·rename_i e
   subst e
   cases hq
   obtain⟨h1,cur,ty,hh,hsz,bIC,hlen,bJF⟩:=hW.h q _ ho
   refine⟨h1,cur,ty,hh,hsz,fun r hr=>bIC r (List.mem_of_mem_take hr),?_,fun i j p hp=>bJF i j p ?_⟩
   ·have:(rs.take k).length*s≤rs.length*s:=bLA _ (by rw[bKL]; omega)
    omega
   ·unfold at2 at hp ⊢
    rw[bMY] at hp
    split at hp
    ·exact hp
    ·simp at hp
  ·exact hW.h q y hq
 ·rw[bV] at hq
  split at hq
  ·rename_i e; subst e; exact .inl ⟨_,ho⟩
  ·exact .inl ⟨y,hq⟩
theorem axN {o:Oper} {c:Call} {x y:Operand} {t e:TypeId} {i:TypeInfo} {px py:PV} {K:PV→PH→Prop} (ho:o.op=.call c) (hcc:c.callee=.builtin .append) (hca:c.args.toList=[x,y]) (hct:c.argTypes.toList=[t,t])
  (ht:T.P.underlying t=some (.slice e)) (hi:T.P.info? e=some i) (hz:i.zero.isSome=true) (hzs:(i.zero.map (·.cells.size))=some i.size) (h0:0<i.size)
  (hx:aY E px (a.eval x)) (hy:aY E py (a.eval y)) (hK:kY H i.size i.bytes px py K) (hW:bM E H w):axI T.P E H w o a K:=by
 obtain⟨z,hz⟩:=Option.isSome_iff_exists.1 hz
 have hzz:z.cells.size=i.size:=by simpa [hz] using hzs
 obtain⟨src,hsrc,hK⟩:=hK
 obtain⟨ad,cap,news,hyv,hnl,hn1,hsrow,hncell,hfirst⟩:=baD T.P hW hy hsrc
 have grow:∀ (base:Option Addr) (bIG bJS:Nat) (rs:List (List PV)) (bJQ:List Value),(Builtin.firstCells i.size bIG (.slice base bIG bJS)).run T.P w.drew=.ok bJQ.toArray w.drew→bJQ.length=bIG*i.size→rs.length=bIG →
   (∀ r∈rs,r.length=i.size)→(∀ i' j q,at2 rs i' j=some q→∃ u,bJQ[i'*i.size+j]?=some u∧u.oneCell'=true∧aY E q u)→bJS<bIG+src.length→roomFor bIG src.length i.bytes→a.eval x=.slice base bIG bJS →
   ∀ (H1:PH),bM E H1 w→Ext E H w E H1 w→∃ v w' E' q,(execOp a.eval o).run T.P w=.ok (.value v) w'∧H1 q=none∧aY E' (.osl q i.size 0 (bIG+src.length)) v∧bM E' (H1.set q (.rows i.size (rs++src))) w'∧Ext E H w E' (H1.set q (.rows i.size (rs++src))) w':=by
  intro base bIG bJS rs bJQ hfo hol hrl hrr hrc hlt bIV hxv H1 hW1 hE1
  have bJN:=aHS (w:=w) (ty:=o.type) ht hi hz base bIG bJS src.length cap ad bJQ news hfo (by rw[← hyv]; exact hfirst w.drew rfl) hlt bIV.1 bIV.2
  have hge:=a0Q w (bIG+src.length) bJS e
  have hcm:=grownCap_le_maxLen w (bIG+src.length) bJS e bIV.1
  generalize hgc:grownCap w (bIG+src.length) bJS e=gc at *
  have hnc:∀ i' j q,at2 src i' j=some q→∃ u,news[i'*i.size+j]?=some u∧u.oneCell'=true∧aY E q u:=fun i' j q hq=>by
   obtain⟨u,g1,g2⟩:=hncell i' j q hq
   exact⟨u,g1,hn1 u (bMK g1),g2⟩
  have hR:=jD.join (E:=E) (tail:=(Builtin.zeroCells z.cells (gc-(bIG+src.length))).toList) hrr hsrow (by rw[hol,hrl]) hnl hrc hnc
  have hcells:(bJQ.toArray++news.toArray++Builtin.zeroCells z.cells (gc-(bIG+src.length)))=(bJQ++news++(Builtin.zeroCells z.cells (gc-(bIG+src.length))).toList).toArray:=by
   apply Array.ext'; simp
  rw[hcells] at bJN
  have hsz:(bJQ++news++(Builtin.zeroCells z.cells (gc-(bIG+src.length))).toList).toArray.size=gc*i.size:=by
   have ez:(Builtin.zeroCells z.cells (gc-(bIG+src.length))).toList.length=(gc-(bIG+src.length))*i.size:=by
    rw[bMR,size_zeroCells,hzz]
   rw[List.size_toArray,bKA,bKA,ez,hol,hnl,← bKY,← bKY]
   congr 1
   omega
  obtain⟨g1,g2⟩:=hW1.drew.CS e hR
  refine⟨_,_,_,w.heap.size,mN ho hcc hca hct (by rw[hxv,hyv]; exact bJN),hW1.a0X,?_,g1,hE1.trans g2.amM⟩
  refine .osl rfl rfl (.inr (by simp)) hge hcm (afA _ _ _) ?_
  rw[hsz]
  omega
 split at hK
 ·
  have hx':a.eval x=.slice none 0 0:=by
   generalize a.eval x=v at hx
   cases hx
   rfl
  obtain⟨bIV,hnil,hsome⟩:=hK
  by_cases hs0:src=[]
  ·subst hs0
   have hf0:=hfirst w rfl
   have hn0:news=[]:=bNJ (by rw[hnl]; simp)
   subst hn0
   rw[hyv] at hf0
   have bJN:=PC (w:=w) (ty:=o.type) ht hi none 0 0 cap ad (bJV _) hf0
   exact⟨_,_,w,E,H,.aB,mN ho hcc hca hct (by rw[hx',hyv]; exact bJN),.inl rfl,.aB,hW,.refl E H w,hnil rfl⟩
  ·have hpos:0<src.length:=List.length_pos_iff.2 hs0
   obtain⟨v,w',E',q,g1,g2,g3,g4,g5⟩:=grow none 0 0 [] [] (by simp[Builtin.firstCells]) (by simp) rfl (by simp) (fun i' j q hq=>by simp[at2] at hq) Om bIV hx' H hW (.refl E H w)
   refine⟨v,_,w',E',_,_,g1,.inl rfl,g3,g4,g5,?_⟩
   have:=hsome hs0 q g2
   simpa using this
 ·
  rename_i q s off len
  obtain⟨rfl,rfl,bIV,rs,hq,hrlle,hKin,hKnew⟩:=hK
  have hform:∃ b bJS,a.eval x=.slice (some b) len bJS:=by
   generalize a.eval x=v at hx
   cases hx
   exact⟨_,_,rfl⟩
  obtain⟨b,bJS,hxv⟩:=hform
  obtain⟨bIG,rfl⟩:∃ bIG,bIG=len:=⟨_,rfl⟩
  ·rw[hxv] at hx
   cases hx with
   | osl hb hsp bJP hlen bJK hnn hsroom =>
   rename_i N
   obtain⟨hqlt,cur,ty,hh,hsz,hrow0,hrlen0,hcell0⟩:=hW.h q _ hq
   obtain⟨hWt,hEt⟩:=hW.trim (k:=bIG) hq
   obtain⟨-,cur',ty',hh',hsz',bIC,hrlen,bJF⟩:=hWt.h q (.rows i.size (rs.take bIG)) (by rw[bV,if_pos rfl])
   rw[hh] at hh'
   cases hh'
   have hrl:(rs.take bIG).length=bIG:=by rw[bKL]; omega
   generalize hrs0:rs.take bIG=rs0 at *
   have hNc:N=cur.size:=by rw[hsz] at hnn; cases hnn; rfl
   subst hNc
   simp only[Nat.zero_mul,bKN] at hsroom bJP
   by_cases hs0:src=[]
   ·subst hs0
    have hf0:=hfirst w rfl
    have hn0:news=[]:=bNJ (by rw[hnl]; simp)
    subst hn0
    rw[hyv] at hf0
    have bJN:=PC (w:=w) (ty:=o.type) ht hi (some b) bIG bJS cap ad hlen hf0
    simp only[bLM,bMD,bLL] at hKin
    exact⟨_,_,w,E,_,.osl q i.size 0 bIG,mN ho hcc hca hct (by rw[hxv,hyv]; exact bJN),.inl rfl,.osl hb hsp (by simpa using bJP) hlen bJK hsz Om,hWt,hEt,hKin⟩
   ·have hpos:0<src.length:=List.length_pos_iff.2 hs0
    by_cases bJE:bIG+src.length≤bJS
    ·have hb0:b=⟨q,0,none⟩:=by
      have:b.off=0:=by
       rcases bJP with h | h
       ·omega
       ·exact h
      cases b; simp_all
     subst hb0
     have hle2:(bIG+src.length)*i.size≤bJS*i.size:=bLA _ bJE
     rw[bKY] at hle2
     have bJN:=aHT (w:=w) (ty:=o.type) ht hi q bIG bJS src.length cap ad cur hh news hnl (by rw[← hyv]; exact hfirst w rfl) hn1 bJE Om
     have hlo:(cur.toList.take (bIG*i.size)).length=rs0.length*i.size:=by
      rw[bKL,bMR,hrl]; omega
     have hRn:=jD.join (E:=E) (s:=i.size) (rs:=rs0) (src:=src) (bJQ:=cur.toList.take (bIG*i.size)) (news:=news) (tail:=cur.toList.drop (bIG*i.size+news.length)) bIC hsrow hlo hnl
      (fun i' j p hp=>by
       obtain⟨u,g1,g2,g3⟩:=bJF i' j p hp
       obtain⟨hi',hj'⟩:=wL bIC hp
       refine⟨u,?_,g2,g3⟩
       have:(i'+1)*i.size≤rs0.length*i.size:=bLA _ hi'
       rw[Nat.succ_mul,hrl] at this
       rw[bMY,if_pos Om,Array.getElem?_toList]
       exact g1)
      (fun i' j p hp=>by
       obtain⟨u,g1,g2⟩:=hncell i' j p hp
       exact⟨u,g1,hn1 u (bMK g1),g2⟩)
     obtain⟨g1,g2⟩:=hW.amV hq hh (rs':=rs0++src) (cs:=(cur.toList.take (bIG*i.size)++news++cur.toList.drop (bIG*i.size+news.length)).toArray)
      (by rw[List.size_toArray]; simp only[bKA,bKL,bLV]; have e:cur.toList.length=cur.size:=bMR; omega) hRn
     exact⟨_,_,_,E,_,.osl q i.size 0 (bIG+src.length),mN ho hcc hca hct (by rw[hxv,hyv]; exact bJN),.inl rfl,.osl rfl rfl (.inr (by simp)) bJE bJK hsz Om,g1,g2,hKin⟩
    ·have hfo:∃ bJQ:List Value,(Builtin.firstCells i.size bIG (.slice (some b) bIG bJS)).run T.P w.drew=.ok bJQ.toArray w.drew∧bJQ.length=bIG*i.size ∧
       (∀ i' j p,at2 rs0 i' j=some p→∃ u,bJQ[i'*i.size+j]?=some u∧u.oneCell'=true∧aY E p u):=by
      by_cases hl0:bIG=0
      ·subst hl0
       refine⟨[],run_firstCells_some w.drew i.size 0 b 0 bJS [] (by simp) (by simp),by simp,fun i' j p hp=>?_⟩
       have:=(wL bIC hp).1
       omega
      ·have hb0:b=⟨q,0,none⟩:=by
        have:b.off=0:=by
         rcases bJP with h | h
         ·omega
         ·exact h
        cases b; simp_all
       subst hb0
       have hll:(cur.toList.take (bIG*i.size)).length=bIG*i.size:=by
        rw[bKL,bMR]
        rw[hrl] at hrlen
        omega
       refine⟨cur.toList.take (bIG*i.size),run_firstCells_some w.drew i.size bIG _ bIG bJS _ hll (fun j u hu=>?_),hll,fun i' j p hp=>?_⟩
       ·rw[add_plain,bKN]
        rw[bMY] at hu
        split at hu
        ·rw[Array.getElem?_toList] at hu
         show w.cell? ⟨q,j,none⟩=some u
         rw[cell_of_row w q j cur ty (0,0) hh]
         exact hu
        ·cases hu
       ·obtain⟨u,g1,g2,g3⟩:=bJF i' j p hp
        obtain⟨hi',hj'⟩:=wL bIC hp
        refine⟨u,?_,g2,g3⟩
        have:(i'+1)*i.size≤rs0.length*i.size:=bLA _ hi'
        rw[Nat.succ_mul,hrl] at this
        rw[bMY,if_pos Om,Array.getElem?_toList]
        exact g1
     obtain⟨bJQ,hfo,hol,hoc⟩:=hfo
     obtain⟨v,w',E',q',g1,g2,g3,g4,g5⟩:=grow (some b) bIG bJS rs0 bJQ hfo hol hrl bIC hoc Om bIV hxv H hW (.refl E H w)
     exact⟨v,_,w',E',_,_,g1,.inl rfl,g3,g4,g5,hKnew q' g2⟩
 ·cases hK
end
open Go Go.RowKit
section
variable {T:Tbl} {n:Nat} {E:Env} {F:PF} {H:PH} {a:Act} {w:World}
def oneOf (cur:Array Value) (k:Nat):Value:=if ((cur[k]?).getD (.int .i64 0)).oneCell' then (cur[k]?).getD (.int .i64 0) else .int .i64 0
theorem a8U (cur:Array Value) (k:Nat):(oneOf cur k).oneCell'=true:=by
 unfold oneOf
 split
 ·assumption
 ·rfl
theorem WZ {o s:Nat} {rs:List (List PV)} {cur:Array Value} {E':Env} (hle:E.le E') (hG:E'.G o=some cur) (hsz:E.sz o=some cur.size) (hR:jD E s rs cur) {pv:PV} {v:Value} (h:aY E pv v) :
  aY E' (pv.dC o s rs) v:=by
 unfold PV.dC
 split
 ·rename_i q s' off len
  split
  ·rename_i e
   subst e
   split
   ·rename_i hc
    obtain⟨rfl,bJE⟩:=hc
    cases h with
    | osl hb hsp bJP hlen bJK hn bIV =>
    rename_i cap N ad
    have hl:((rs.drop off).take len).length=len:=by rw[bKL,bLV]; omega
    have hat:∀ i j p,at2 ((rs.drop off).take len) i j=some p→at2 rs (off+i) j=some p:=by
     intro i j p hp
     unfold at2 at hp ⊢
     rw[bMY] at hp
     split at hp
     ·rw[bNH] at hp; exact hp
     ·simp at hp
    have key:aY E' (.sl s' ((rs.drop off).take len)) (.slice (some ad) ((rs.drop off).take len).length cap):=by
     have hu:∀ i j p,at2 ((rs.drop off).take len) i j=some p→∃ u,cur[(off+i)*s'+j]?=some u∧aY E p u∧oneOf cur ((off+i)*s'+j)=u:=by
      intro i j p hp
      obtain⟨u,g1,g2,g3⟩:=hR.2.2 _ _ _ (hat i j p hp)
      exact⟨u,g1,g3,by simp[oneOf,g1,g2]⟩
     refine .sl (fun i j=>oneOf cur ((off+i)*s'+j)) (by rw[hl]; exact hlen) bJK (fun r hr=>hR.1 r (List.mem_of_mem_drop (List.mem_of_mem_take hr))) (fun hne=>?_) (fun i j=>a8U _ _) (fun i j p hp=>?_)
     ·have hpos:0<((rs.drop off).take len).length:=List.length_pos_iff.2 hne
      have hoff':ad.off=off*s':=by
       rcases bJP with h | h
       ·omega
       ·exact h
      refine⟨ad,rfl,hsp,fun i j p hp=>?_⟩
      obtain⟨u,g1,-,g3⟩:=hu i j p hp
      rw[g3]
      unfold Env.cell
      rw[hb,hG,bNC,hoff']
      have e:off*s'+i*s'+j=(off+i)*s'+j:=by rw[bKY]
      rw[e]
      exact g1
     ·obtain⟨u,-,g2,g3⟩:=hu i j p hp
      rw[g3]
      exact g2.mono hle
    rw[hl] at key
    exact key
   ·exact .junk _
  ·exact h.mono hle
 ·exact h.mono hle
theorem azS {o s:Nat} {rs:List (List PV)} {cur:Array Value} {E':Env} (hle:E.le E') (hG:E'.G o=some cur) (hsz:E.sz o=some cur.size) (hR:jD E s rs cur) {pv:PV} {v:Value} (h:aY E pv v) :
  aY E' (pv.rO o s rs) v:=by
 unfold PV.rO
 split
 ·cases h with
  | agg vs hl h1 hr =>
  refine .agg vs (by simpa using hl) h1 (fun j p u hp hu=>?_)
  rw[bKZ,bKB] at hp
  obtain⟨q,hq,rfl⟩:=hp
  exact WZ hle hG hsz hR (hr j q u hq hu)
 ·exact WZ hle hG hsz hR h
theorem blY {o s:Nat} {rs:List (List PV)} {cur:Array Value} {E':Env} (hle:E.le E') (hG:E'.G o=some cur) (hsz:E.sz o=some cur.size) (hR:jD E s rs cur) {pv:PV} {v:Value} (h:aY E pv v) :
  aY E' (pv.frz o s rs) v:=by
 unfold PV.frz
 split
 ·cases h with
  | tup vs hl hr =>
  refine .tup vs (by simpa using hl) (fun j p u hp hu=>?_)
  rw[bKZ,bKB] at hp
  obtain⟨q,hq,rfl⟩:=hp
  exact azS hle hG hsz hR (hr j q u hq hu)
 ·exact azS hle hG hsz hR h
theorem bM.frz (hW:bM E H w) {o s:Nat} {rs:List (List PV)} (ho:H o=some (.rows s rs)):∃ E',bM E' (H.frz o s rs) w∧Ext E H w E' (H.frz o s rs) w∧∀ {pv:PV} {v:Value},aY E pv v→aY E' (pv.frz o s rs) v:=by
 obtain⟨hlt,cur,ty,hh,hsz,h1,h2,h3⟩:=hW.h o _ ho
 have hR:jD E s rs cur:=⟨h1,h2,h3⟩
 have hGo:E.G o=none:=by
  cases h:E.G o with
  | none=>rfl
  | some ds=>have:=(hW.g o ds h).1 _ ho; cases this
 have hle:E.le ⟨upd E.G o (some cur),E.sz,E.num⟩:=by
  refine⟨fun b ds hb=>?_,fun b m h=>h,rfl⟩
  have hne:b≠o:=fun e=>by subst e; rw[hGo] at hb; cases hb
  simp only
  rw[QH _ _ hne]
  exact hb
 have hG':(⟨upd E.G o (some cur),E.sz,E.num⟩:Env).G o=some cur:=by simp[upd]
 have happ:∀ q,(H.frz o s rs).f q=if q=o then none else (H q).map (cP.frz o s rs):=fun q=>rfl
 refine⟨⟨upd E.G o (some cur),E.sz,E.num⟩,⟨fun b ds hb=>?_,fun q x hq=>?_,hW.s⟩,⟨hle,rfl,rfl,rfl,bJV _,fun _ _ _=>rfl,fun q x hq=>?_,fun b ds hb=>?_⟩,fun h=>blY hle hG' hsz hR h⟩
 ·simp only[upd] at hb
  split at hb
  ·rename_i e
   subst e
   cases hb
   refine⟨fun x hx=>?_,ty,(0,0),hh⟩
   rw[happ,if_pos rfl] at hx
   cases hx
  ·rename_i e
   obtain⟨g1,g2⟩:=hW.g b ds hb
   refine⟨fun x hx=>?_,g2⟩
   rw[happ,if_neg e,bKB] at hx
   obtain⟨y,hy,rfl⟩:=hx
   have:=g1 y hy
   subst this
   rfl
 ·rw[happ] at hq
  split at hq
  ·cases hq
  ·rw[bKB] at hq
   obtain⟨y,hy,rfl⟩:=hq
   obtain⟨g1,g2⟩:=hW.h q y hy
   refine⟨g1,?_⟩
   cases y with
   | rows s' rs' =>
    obtain⟨cur',ty',k1,k2,k3,k4,k5⟩:=g2
    refine⟨cur',ty',k1,k2,?_,by simpa using k4,fun i j p hp=>?_⟩
    ·intro r hr
     simp only[bKX] at hr
     obtain⟨r',hr',rfl⟩:=hr
     simpa using k3 r' hr'
    ·simp only[at2,bKZ,Option.bind_map] at hp
     have hp':∃ p',at2 rs' i j=some p'∧p=p'.dC o s rs:=by
      unfold at2
      cases hr:rs'[i]? with
      | none=>simp[hr] at hp
      | some r =>
       simp only[hr,bNC,Function.comp,bKZ,bKB] at hp ⊢
       obtain⟨p',h1,h2⟩:=hp
       exact⟨p',h1,h2.symm⟩
     obtain⟨p',hp1,rfl⟩:=hp'
     obtain⟨u,m1,m2,m3⟩:=k5 i j p' hp1
     exact⟨u,m1,m2,WZ hle hG' hsz hR m3⟩
   | map es=>exact akN.mono hle rfl g2
   | dead=>trivial
 ·rw[happ] at hq
  split at hq
  ·cases hq
  ·rw[bKB] at hq
   obtain⟨y,hy,-⟩:=hq
   exact .inl ⟨y,hy⟩
 ·simp only[upd] at hb
  split at hb
  ·rename_i e; subst e; exact .inr (.inl ⟨_,ho⟩)
  ·exact .inl hb
theorem iW.sound {F F':PF} {H H':PH} (h:iW F H F' H'):∀ {E:Env},bM E H w→∃ E',bM E' H' w∧Ext E H w E' H' w∧∀ (f:Nat→Value),(∀ i pv,F i=some pv→aY E pv (f i))→∀ i pv,F' i=some pv→aY E' pv (f i):=by
 induction h with
 | refl F H=>intro E hW; exact⟨E,hW,.refl E H w,fun f h=>h⟩
 | step o ho _ ih =>
  intro E hW
  obtain⟨E1,h1,h2,h3⟩:=hW.frz ho
  obtain⟨E2,k1,k2,k3⟩:=ih h1
  refine⟨E2,k1,h2.trans k2,fun f hf=>k3 f fun i pv hi=>?_⟩
  simp only[PF.frz,bKB] at hi
  obtain⟨q,hq,rfl⟩:=hi
  exact h3 (hf i q hq)
theorem dV.frz {F':PF} {H':PH} (hA:dV n E F a) (hW:bM E H w) (h:iW F H F' H'):∃ E',dV n E' F' a∧bM E' H' w∧Ext E H w E' H' w:=by
 obtain⟨E',h1,h2,h3⟩:=h.sound hW
 exact⟨E',⟨hA.size,hA.defers,h3 (fun i=>a.tmps.getD i undef) hA.t⟩,h1,h2⟩
end
open Go Go.RowKit
section
variable {T:Tbl} {n:Nat} {E:Env} {F:PF} {H:PH} {a:Act} {w:World}
theorem TM (k:List KS):∀ (L:List (List KS × PV)) (i j:Nat),(lN k L i).map (·.2)=(lN k L j).map (·.2)
 | [],_,_=>rfl
 | e::L,i,j=>by
  simp only[lN]
  split
  ·rfl
  ·exact TM k L _ _
theorem kN (e:List KS × PV) (L:List (List KS × PV)) (k:List KS):mapOf (e::L) k=if e.1=k then some e.2 else mapOf L k:=by
 unfold mapOf
 simp only[lN]
 split
 ·rfl
 ·exact TM k L _ _
theorem aeH {key:List KS} {pv:PV}:∀ {L:List (List KS × PV)},mapOf L key=none→mapOf (L++[(key,pv)])=fG.upd (mapOf L) key pv
 | [],_=>by
  funext k
  simp only[bML,kN,fG.upd]
  by_cases h:key=k
  ·rw[if_pos h,if_pos h.symm]
  ·rw[if_neg h,if_neg (fun e=>h e.symm)]
 | e::L,h=>by
  rw[kN] at h
  split at h
  ·cases h
  ·rename_i hne
   funext k
   rw[List.cons_append,kN,aeH h]
   simp only[fG.upd,kN]
   by_cases h1:e.1=k
   ·have:k≠key:=fun e2=>hne (h1.trans e2)
    simp[h1,this]
   ·simp[h1]
theorem apX {key:List KS} {pv:PV}:∀ {L:List (List KS × PV)} {i j:Nat} {p:PV},lN key L i=some (j,p)→i≤j∧mapOf (L.set (j-i) (key,pv))=fG.upd (mapOf L) key pv
 | [],i,j,p,h=>by simp[lN] at h
 | e::L,i,j,p,h=>by
  simp only[lN] at h
  split at h
  ·rename_i he
   cases h
   refine⟨bJV _,?_⟩
   funext k
   rw[bMI,List.set_cons_zero,kN]
   simp only[fG.upd,kN]
   by_cases h1:key=k
   ·subst h1; simp
   ·have h2:k≠key:=fun e2=>h1 e2.symm
    have h3:e.1≠k:=fun e2=>h1 (he.symm.trans e2)
    simp[h1,h2,h3]
  ·rename_i he
   obtain⟨h1,h2⟩:=apX (pv:=pv) h
   refine⟨by omega,?_⟩
   funext k
   rw[show j-i=(j-(i+1))+1 by omega,List.set_cons_succ,kN,h2]
   simp only[fG.upd,kN]
   by_cases h3:e.1=k
   ·have:k≠key:=fun e2=>he (h3.trans e2)
    simp[h3,this]
   ·simp[h3]
theorem bM.baA (hW:bM E H w) {o:Nat} {sh:MSh} {g:fG} {es es':Array MapEntry} {clock clock':Nat} {L:List (List KS × PV)} (ho:H o=some (.map sh g)) (hh:w.heap[o]?=some (.map es clock)) (hsz:es'.size=L.length∧(L.map (·.1)).Nodup)
  (hL:∀ (i:Nat) e e',L[i]?=some e→es'[i]?=some e'→e.1.map KS.sh=sh.2∧e'.key=fO sh e.1∧aY E e.2 e'.val) :
  bM E (H.set o (.map sh (mapOf L))) { w with heap:=w.heap.setIfInBounds o (.map es' clock') }∧Ext E H w E (H.set o (.map sh (mapOf L))) { w with heap:=w.heap.setIfInBounds o (.map es' clock') }:=by
 have hlt:=(hW.h o _ ho).1
 have bJJ:∀ b,b≠o→(w.heap.setIfInBounds o (.map es' clock'))[b]?=w.heap[b]?:=fun b hb=>Array.getElem?_setIfInBounds_ne (Ne.symm hb)
 have hself:(w.heap.setIfInBounds o (.map es' clock'))[o]?=some (.map es' clock'):=by simp[hlt]
 have hGne:∀ b ds,E.G b=some ds→b≠o:=fun b ds hb e=>by
  subst e
  have:=(hW.g b ds hb).1 _ ho
  cases this
 refine⟨⟨fun b ds hb=>?_,fun q x hq=>?_,fun q m hs=>?_⟩,⟨.refl E,rfl,rfl,rfl,by simp,fun b _ hn=>bJJ b (fun e=>by subst e; rw[ho] at hn; cases hn),fun q x hq=>?_,fun b ds hb=>.inl hb⟩⟩
 ·obtain⟨h1,ty',fr,h2⟩:=hW.g b ds hb
  have hne:=hGne b ds hb
  refine⟨fun x hx=>h1 x ?_,ty',fr,(bJJ b hne).trans h2⟩
  rw[bV,if_neg hne] at hx
  exact hx
 ·rw[bV] at hq
  split at hq
  ·rename_i e
   subst e
   cases hq
   exact⟨by simpa using hlt,es',clock',L,hself,hsz,rfl,hL⟩
  ·rename_i e
   obtain⟨h1,h2⟩:=hW.h q x hq
   exact⟨by simpa using h1,h2.mono (.refl E) (bJJ q e)⟩
 ·obtain⟨cur',ty',fr,h1,h2⟩:=hW.s q m hs
  have hne:q≠o:=fun e=>by subst e; rw[hh] at h1; cases h1
  exact⟨cur',ty',fr,(bJJ q hne).trans h1,h2⟩
 ·rw[bV] at hq
  split at hq
  ·rename_i e; subst e; exact .inl ⟨_,ho⟩
  ·exact .inl ⟨x,hq⟩
theorem VH (k:KS) (d:Nat):Instr.sameBits d k.val k.val=true:=by
 cases k<;>cases d<;>simp[KS.val,Instr.sameBits,beq_toListBytes]
theorem aHW (sh:MSh) (k:List KS) (hk:sh.1=false→∃ s,k=[s]):Instr.sameBits 10000 (fO sh k) (fO sh k)=true:=by
 obtain⟨b,l⟩:=sh
 cases b with
 | false =>
  obtain⟨s,rfl⟩:=hk rfl
  exact VH s 10000
 | true =>
  simp only[fO,if_true]
  obtain⟨m,hm⟩:∃ m:Nat,m=9999:=⟨_,rfl⟩
  rw[show (10000:Nat)=m+1 by omega]
  simp only[Instr.sameBits,beq_self_eq_true,bKE,bKQ]
  rintro⟨x,y⟩ hxy
  have:∀ (l:List Value),(x,y)∈l.zip l→x=y∧x∈l:=by
   intro l
   induction l with
   | nil=>intro h; simp at h
   | cons z zs ih =>
    intro h
    simp only[List.zip_cons_cons,bKJ,Prod.mk.injEq] at h
    rcases h with ⟨rfl,rfl⟩ | h
    ·exact⟨rfl,by simp⟩
    ·exact⟨(ih h).1,by simp[(ih h).2]⟩
  obtain⟨rfl,hmem⟩:=this _ hxy
  simp only[bKX] at hmem
  obtain⟨s,-,rfl⟩:=hmem
  exact VH s m
theorem aDT {t kt et:TypeId} {sh:MSh} {pk pv:PV} {x k v:Value} {o:Nat} {g:fG} {key:List KS} (ht:T.P.underlying t=some (.map kt et)) (hsh:T.jY kt=some sh)
  (hx:aY E (.map o) x) (hk:aY E pk k) (hv:aY E pv v) (ho:H o=some (.map sh g)) (hkey:keyOf sh pk=some key) (hW:bM E H w) :
  ∃ w',(Instr.mapUpdate t x k v).run T.P w=.ok () w'∧bM E (H.set o (.map sh (g.upd key pv))) w'∧Ext E H w E (H.set o (.map sh (g.upd key pv))) w':=by
 cases hx
 obtain⟨hlt,es,clock,L,hh,⟨hsz,hnd⟩,rfl,hes⟩:=hW.h o _ ho
 obtain⟨hkv,hks,hk1⟩:=apQ hk hkey
 have hKA:pK sh L es.toList:=⟨by simpa using hsz,fun i e e' a b=>by have:=hes i e e' a (by simpa using b); exact⟨this.1,this.2.1⟩⟩
 obtain⟨r,g1,g2⟩:=KV (w:=w) hsh hks hKA
 subst hkv
 have hget:(getObj o).run T.P w=.ok (.map es clock) w:=by simp[getObj,Sem.run,hh]
 have bJM:∀ x,(setObj o x).run T.P w=.ok () { w with heap:=w.heap.setIfInBounds o x }:=fun x=>MapKept.run_setObj_map x hh
 simp only[Instr.mapUpdate,Sem.run_bind,run_underlying ht,Result.andThen_ok,hget,CX hsh hks,g1]
 unfold Found at g2
 split at g2
 ·rename_i hn
  subst g2
  have hm:mapOf L key=none:=by unfold mapOf; rw[hn]; rfl
  have hp:fG.upd (mapOf L) key pv=mapOf (L++[(key,pv)]):=(aeH hm).symm
  rw[hp]
  simp only[bJM]
  have hkn:key ∉ L.map (·.1):=fun hm=>by
   have:=(FY key L 0).2 hm
   rw[hn] at this; cases this
  have hnd':((L++[(key,pv)]).map (·.1)).Nodup:=by
   rw[bLW,bME]
   refine⟨hnd,by simp,fun x hx y hy=>?_⟩
   simp only[bLX,List.map_nil,bLD] at hy
   subst hy
   rintro rfl
   exact hkn hx
  refine⟨_,rfl,hW.baA ho hh ⟨by simp[hsz],hnd'⟩ fun i e e' h1 h2=>?_⟩
  rcases Nat.lt_trichotomy i L.length with h3 | h3 | h3
  ·rw[bMH h3] at h1
   rw[Array.getElem?_push_lt Om] at h2
   exact hes i e e' h1 (by rw[bMW Om]; exact h2)
  ·subst h3
   rw[bLS (bJV _)] at h1
   rw[← hsz,Array.getElem?_push_size] at h2
   simp at h1 h2
   subst h1; subst h2
   exact⟨hks,rfl,hv⟩
  ·rw[bLG (by simp; omega)] at h1
   cases h1
 ·rename_i j p hj
  obtain⟨e0,-,h2,h3,rfl⟩:=g2
  have hp:fG.upd (mapOf L) key pv=mapOf (L.set j (key,pv)):=by
   have:=(apX (pv:=pv) hj).2
   simpa using this.symm
  rw[hp]
  simp only[Nat.sub_zero] at h2 h3
  have h2':es[j]?=some e0:=by simpa using h2
  have hek:e0.key=fO sh key:=(hes j _ e0 h3 h2').2.1
  have hstay:(Instr.keyThatStays (((es[j]?).map (·.key)).getD (fO sh key)) (fO sh key)).run T.P w=.ok (fO sh key) w:=by
   rw[h2']
   simp only[bLF,bMJ,hek,Instr.keyThatStays,aHW sh key hk1,if_true,Sem.run_pure]
  simp only[Sem.run_bind,hstay,Result.andThen_ok,bJM]
  have hnd':((L.set j (key,pv)).map (·.1)).Nodup:=by
   have e9:(L.set j (key,pv)).map (·.1)=L.map (·.1):=by
    rw[List.map_set]
    refine List.ext_getElem? fun i=>?_
    rw[List.getElem?_set]
    split
    ·rename_i e; subst e
     rw[bKZ,h3]
     have:=(bKV.1 h3).1
     simp[this]
    ·rfl
   rw[e9]; exact hnd
  refine⟨_,rfl,hW.baA ho hh ⟨by simp[hsz],hnd'⟩ fun i e e' h4 h5=>?_⟩
  rw[Array.getElem?_modify] at h5
  rw[List.getElem?_set] at h4
  have hjl:j<L.length:=(bKV.1 h3).1
  by_cases hij:j=i
  ·subst hij
   rw[if_pos rfl,if_pos hjl] at h4
   rw[if_pos rfl,h2'] at h5
   simp at h4 h5
   subst h4; subst h5
   exact⟨hks,rfl,hv⟩
  ·rw[if_neg hij] at h4 h5
   exact hes i e e' h4 h5
end
open Go Go.RowKit
section
variable {T:Tbl} {n:Nat} {E:Env} {F:PF} {H:PH} {a:Act} {w:World}
def lK (n:Nat) (E:Env) (H:PH) (w:World) (K:PF→PH→Prop) (next:Act→World→Prop):Prop :=
 ∀ E' F' H' a' w',dV n E' F' a'→bM E' H' w'→Ext E H w E' H' w'→K F' H'→next a' w'
theorem eI.append {ps qs:List PV} {vs us:List Value} (h:eI E ps vs) (k:eI E qs us):eI E (ps++qs) (vs++us):=by
 induction h with
 | nil=>exact k
 | cons h _ ih=>exact .cons h ih
theorem eI.bvT {ps:List PV}:∀ {vs:List Value},vs.length=ps.length→(∀ (j:Nat) p v,ps[j]?=some p→vs[j]?=some v→aY E p v)→eI E ps vs:=by
 induction ps with
 | nil=>intro vs hl _; simp at hl; subst hl; exact .nil
 | cons p ps ih =>
  intro vs hl h
  cases vs with
  | nil=>simp at hl
  | cons v vs=>exact .cons (h 0 p v rfl rfl) (ih (by simpa using hl) fun j q u a b=>h (j+1) q u (by simpa using a) (by simpa using b))
theorem beE {o:Oper} {c:Call} {f:FuncId} {vc:Array Value} {x:Operand} {P:Program} {fn:Func} (ho:o.op=.call c) (hcc:c.callee=.value x) (hx:a.eval x=.func (.func f) #[] vc)
  (hf:P.funcs[f]?=some fn) (hb:fn.body.isSome=true) (hnm:(fn.name=="runtime.NumGoroutine")=false) :
  (execOp a.eval o).run P w=.ok (.enter f (c.args.map a.eval++vc)) w:=by
 have hb':fn.body.isNone=false:=by cases h:fn.body<;>simp_all
 unfold execOp
 rw[ho]
 simp only[resolve,hcc,hx,Deferred.ofValue,Sem.run_bind,Sem.run_pure,Result.andThen_ok,invoke,callFunc,run_program,hf,hnm,hb',bMU,if_false,Array.empty_append]
theorem TC {C:Ctx} {name:Nat} {ps:Option (List PV)} {d:Option Nat} {K:PF→PH→Prop} {o:Oper} {c:Call} {x:Operand} {vc:Array Value} {Q:Exit→Act→World→Prop} {next:Act→World→Prop}
  (h:qG C name ps d K F H) (hd:o.dst=d) (hlt:o.dst.all (·<n)=true) (ho:o.op=.call c) (hcc:c.callee=.value x) (hx:a.eval x=.func (.func (C.num name)) #[] vc)
  (bJI:∀ vs,ps=some vs→eI E vs (c.args.map a.eval++vc).toList) (hA:dV n E F a) (hW:bM E H w) (hN:E.num=C.num) (bIR:lK n E H w K next):o.wp C.P a w next Q:=by
 obtain⟨vs,H0,R,rfl,hle,⟨⟨fn,hf,hb,hnm⟩,bIW⟩,hK⟩:=h
 have bJN:=beE (w:=w) (a:=a) ho hcc hx hf hb hnm
 unfold Oper.wp
 rw[bJN,Oper.upon_enter]
 refine (bIW E w _ hN (hW.weaken hle) (bJI vs rfl)).mono fun e w' he=>?_
 obtain⟨v,pv,E',H',rfl,hW',hr,hE,hR⟩:=he
 have hap:kJ H H0 H':=by
  intro q y hq h0
  rcases hE.new q y hq with ⟨z,hz⟩ | hge
  ·rw[h0] at hz; cases hz
  ·cases hh:H q with
   | none=>rfl
   | some z=>have:=(hW.h q z hh).1; omega
 have hA':dV n E' (F.put d pv) (a.put o.dst v):=by
  rw[← hd]
  exact (hA.mono hE.env).put hlt hr
 exact bIR E' _ _ _ w' hA' (hW.eJ hE hle hW') (hE.narrow hle) (hK pv H' hR hap)
theorem LN {C:Ctx} {name:Nat} {args:List aP} {cs:List PV} {d:Option Nat} {K:PF→PH→Prop} {o:Oper} {c:Call} {x:Operand} {vc:Array Value} {Q:Exit→Act→World→Prop} {next:Act→World→Prop}
  (h:fP C name args cs d K F H) (hd:o.dst=d) (hlt:o.dst.all (·<n)=true) (ho:o.op=.call c) (hcc:c.callee=.value x) (hx:a.eval x=.func (.func (C.num name)) #[] vc)
  (bJI:∀ (E':Env) (F':PF) vs,E.le E'→dV n E' F' a→E'.num=C.num→aP.evs F' args=some vs→eI E' (vs++cs) (c.args.map a.eval++vc).toList) (hA:dV n E F a) (hW:bM E H w) (hN:E.num=C.num) (bIR:lK n E H w K next):o.wp C.P a w next Q:=by
 rcases h with h | ⟨F1,H1,hf,h⟩
 ·refine TC h hd hlt ho hcc hx (fun vs hvs=>?_) hA hW hN bIR
  rw[bKB] at hvs
  obtain⟨ws,hws,rfl⟩:=hvs
  exact bJI E F ws (.refl E) hA hN hws
 ·obtain⟨E',hA',hW',hE⟩:=hA.frz hW hf
  refine TC h hd hlt ho hcc hx (fun vs hvs=>?_) hA' hW' (hE.env.num.trans hN) (fun E2 F2 H2 a2 w2 g1 g2 g3 g4=>bIR E2 F2 H2 a2 w2 g1 g2 (hE.trans g3) g4)
  rw[bKB] at hvs
  obtain⟨ws,hws,rfl⟩:=hvs
  exact bJI E' F1 ws hE.env hA' (hE.env.num.trans hN) hws
theorem aCZ {o:Oper} {p:POp} (hc:T.op o=some p) (hk:p.lY=true):∃ c,o.op=.call c∧T.call o c=some p:=by
 unfold Tbl.op at hc
 split at hc
 case h_26=>rename_i c ho; exact⟨c,ho,hc⟩
 all_goals (repeat' (first | (split at hc) | (simp only[bKB] at hc; obtain⟨_,-,rfl⟩:=hc; simp[POp.lY] at hk; done) | (cases hc; simp[POp.lY] at hk; done) | (cases hc; done)))
theorem avZ {o:Oper} {p:POp} (hc:T.op o=some p) (hk:p.dT=true) :
  (∃ t ax x k pp px,o.op=.store t ax x∧T.size t=some k∧T.opd ax=some pp∧T.opd x=some px∧p=.store k pp px) ∨
  (∃ c x y t e i px py,o.op=.call c∧c.callee=.builtin .append∧c.args.toList=[x,y]∧c.argTypes.toList=[t,t]∧T.P.underlying t=some (.slice e)∧T.P.info? e=some i∧i.zero.isSome=true ∧
   (i.zero.map (·.cells.size))=some i.size∧0<i.size∧T.opd x=some px∧T.opd y=some py∧p=.append i.size i.bytes px py) ∨
  (∃ t kt et sh x k v px pk pv,(o.op=.mapUpdate t x k v∨o.op=.insert t x k v)∧T.P.underlying t=some (.map kt et)∧T.jY kt=some sh∧T.opd x=some px∧T.opd k=some pk∧T.opd v=some pv ∧
   (p=.bIN sh px pk pv∨p=.insert sh px pk pv)):=by
 unfold Tbl.op at hc
 split at hc
 case h_17 =>
  rename_i t x k v ho
  split at hc
  ·rename_i kt et hu
   split at hc<;>cases hc
   rename_i sh p q r h1 h2 h3 h4
   exact .inr (.inr ⟨t,kt,et,sh,x,k,v,p,q,r,.inl ho,hu,h1,h2,h3,h4,.inl rfl⟩)
  ·cases hc
 case h_18 =>
  rename_i t x k v ho
  split at hc
  ·rename_i kt et hu
   split at hc<;>cases hc
   rename_i sh p q r h1 h2 h3 h4
   exact .inr (.inr ⟨t,kt,et,sh,x,k,v,p,q,r,.inr ho,hu,h1,h2,h3,h4,.inr rfl⟩)
  ·cases hc
 case h_9 =>
  rename_i t ax x ho
  split at hc<;>cases hc
  rename_i k pp px h1 h2 h3
  exact .inl ⟨t,ax,x,k,pp,px,ho,h1,h2,h3,rfl⟩
 case h_26 =>
  rename_i c ho
  unfold Tbl.call at hc
  split at hc
  ·rename_i b hcc
   split at hc
   ·split at hc<;>(first | (simp only[bKB] at hc; obtain⟨_,-,rfl⟩:=hc; simp[POp.dT] at hk; done) | (cases hc; simp[POp.dT] at hk; done) | (cases hc; done))
   ·rename_i x y t u hca hct
    split at hc<;>try cases hc
    rename_i e e' ht hu
    split at hc<;>try cases hc
    rename_i i px py hi hx hy
    split at hc
    ·rename_i bJC
     cases hc
     obtain⟨rfl,h1,h2,h3⟩:=bJC
     exact .inr (.inl ⟨c,x,y,t,e,i,px,py,ho,hcc,hca,hct,ht,hi,h1,h2,h3,hx,hy,rfl⟩)
    ·cases hc
   ·split at hc<;>(first | (simp only[bKB] at hc; obtain⟨_,-,rfl⟩:=hc; simp[POp.dT] at hk; done) | (cases hc; done))
   ·split at hc<;>(first | (cases hc; simp[POp.dT] at hk; done) | (cases hc; done))
   ·split at hc<;>(first | (cases hc; simp[POp.dT] at hk; done) | (cases hc; done))
   ·cases hc
  ·split at hc
   ·split at hc
    ·cases hc; simp[POp.dT] at hk
    ·cases hc
   ·cases hc
  ·simp only[bKB] at hc
   obtain⟨_,-,rfl⟩:=hc
   simp[POp.dT] at hk
  ·cases hc
 all_goals (repeat' (first | (split at hc) | (simp only[bKB] at hc; obtain⟨_,-,rfl⟩:=hc; simp[POp.dT] at hk; done) | (cases hc; simp[POp.dT] at hk; done) | (cases hc; done)))
theorem aOO {o:Oper} {p:POp} {K:PV→PH→Prop} (hc:T.op o=some p) (hk:p.dT=true) (h:bU p F H K) (hA:dV n E F a) (hW:bM E H w) (hN:E.num=T.num):axI T.P E H w o a K:=by
 rcases avZ hc hk with ⟨t,ax,x,k,pp,px,ho,h1,h2,h3,rfl⟩ | ⟨c,x,y,t,e,i,px,py,ho,hcc,hca,hct,ht,hi,g1,g2,g3,hx,hy,rfl⟩ | ⟨t,kt,et,sh,x,k,v,px,pk,pv,ho,hu,hsh,hx,hkk,hv,hp⟩
 ·simp only[bU] at h
  split at h
  ·rename_i pa pv hpa hpv
   obtain⟨hl,H',hst,hK⟩:=h
   obtain⟨w',hr,hW',hE⟩:=aOG ho h1 h2 h3 hpa hpv hl hst hA hW hN
   exact⟨undef,_,w',E,H',.junk,hr,.inr ⟨rfl,rfl⟩,.junk _,hW',hE,hK⟩
  ·exact h.elim
 ·simp only[bU] at h
  split at h
  ·rename_i pa pb hpa hpb
   exact axN ho hcc hca hct ht hi g1 g2 g3 (bE hx hpa hA hN) (bE hy hpb hA hN) h hW
  ·exact h.elim
 ·have key:∀ q kv vv g key,px.ev F=some (.map q)→pk.ev F=some kv→pv.ev F=some vv→H q=some (.map sh g)→keyOf sh kv=some key→K .junk (H.set q (.map sh (g.upd key vv)))→axI T.P E H w o a K:=by
   intro q kv vv g key e1 e2 e3 e4 e5 hK
   obtain⟨w',g1,g2,g3⟩:=aDT hu hsh (bE hx e1 hA hN) (bE hkk e2 hA hN) (bE hv e3 hA hN) e4 e5 hW
   refine⟨undef,.skip,w',E,_,.junk,?_,.inr ⟨rfl,rfl⟩,.junk _,g2,g3,hK⟩
   rcases ho with ho | ho<;>(unfold execOp; rw[ho]; simp[g1])
  rcases hp with rfl | rfl
  ·simp only[bU] at h
   split at h
   ·rename_i q kv vv e1 e2 e3
    split at h
    ·rename_i sh' g ky e4 e5
     obtain⟨rfl,hK⟩:=h
     exact key q kv vv g ky e1 e2 e3 e4 e5 hK
    ·exact h.elim
   ·exact h.elim
  ·simp only[bU] at h
   split at h
   ·rename_i q kv vv e1 e2 e3
    split at h
    ·rename_i sh' g ky e4 e5
     obtain⟨rfl,-,hK⟩:=h
     exact key q kv vv g ky e1 e2 e3 e4 e5 hK
    ·exact h.elim
   ·exact h.elim
theorem bgZ {C:Ctx} (hCP:C.P=T.P) (hCN:C.num=T.num) {o:Oper} {p:POp} {d:Option Nat} {K:PF→PH→Prop} {Q:Exit→Act→World→Prop} {next:Act→World→Prop} (hc:T.op o=some p) (hd:o.dst=d) (hlt:o.dst.all (·<n)=true)
  (h:wpOp C p d K F H) (hA:dV n E F a) (hW:bM E H w) (hN:E.num=T.num) (bIR:lK n E H w K next):o.wp T.P a w next Q:=by
 by_cases hk:p.lY=true
 ·obtain⟨c,ho,bIW⟩:=aCZ hc hk
  unfold Tbl.call at bIW
  split at bIW
  ·rename_i b hcc
   exfalso
   repeat' (first | (split at bIW) | (simp only[bKB] at bIW; obtain⟨_,-,rfl⟩:=bIW; simp[POp.lY] at hk; done) | (cases bIW; simp[POp.lY] at hk; done) | (cases bIW; done))
  ·rename_i f hcc
   split at bIW
   ·rename_i m xs hm hxs
    split at bIW
    ·rename_i hf
     cases bIW
     rw[← hCP]
     refine LN h hd hlt ho hcc (vc:=#[]) (by rw[hCN,hf]; rfl) (fun E' F' vs _ hA' hN' hvs=>?_) hA hW (hN.trans hCN.symm) bIR
     simpa using HR hxs hvs hA' (hN'.trans hCN)
    ·cases bIW
   ·cases bIW
  ·rename_i t hcc
   simp only[bKB] at bIW
   obtain⟨xs,hxs,rfl⟩:=bIW
   obtain⟨name,cs,hfn,hcl⟩:=h
   have r:=hA.t t _ hfn
   have hx0:a.eval (.tmp t)=a.tmps.getD t undef:=rfl
   generalize hv:a.tmps.getD t undef=v at r
   cases r with
   | fn vc hl hr =>
   rw[← hCP]
   refine LN hcl hd hlt ho hcc (vc:=vc) (by rw[hx0,hv,hN,hCN]) (fun E' F' ws hle hA' hN' hws=>?_) hA hW (hN.trans hCN.symm) bIR
   rw[Array.toList_append]
   refine eI.append (by simpa using HR hxs hws hA' (hN'.trans hCN)) (eI.bvT (by simpa using hl) fun j p u hp hu=>(hr j p u hp (by simpa using hu)).mono hle)
  ·cases bIW
 ·have hk':p.lY=false:=by simpa using hk
  have hgen:(if p.fX then lD (cQ p F) d K F H else if p.dT then bU p F H (fun r H'=>K (F.put d r) H') else bP (aO p F H) d K F H):=by
   cases p<;>first | exact h | (simp[POp.lY] at hk')
  by_cases hn:p.fX=true
  ·rw[if_pos hn] at hgen
   obtain⟨mk,x,hal,hK⟩:=hgen
   obtain⟨v,w',E',q,hr,hq,bJO,hW',hE⟩:=a7Y hc hn hal hA hW hN
   unfold Oper.wp
   rw[hr,Oper.upon_value]
   exact bIR E' _ _ _ w' (by rw[← hd]; exact (hA.mono hE.env).put hlt bJO) hW' hE (hK q hq)
  ·rw[if_neg hn] at hgen
   by_cases hw:p.dT=true
   ·rw[if_pos hw] at hgen
    obtain⟨v,nx,w',E',H',pv,hr,hnx,bJO,hW',hE,hK⟩:=aOO hc hw hgen hA hW hN
    unfold Oper.wp
    have hA':dV n E' (F.put d pv) (a.put o.dst v):=by rw[← hd]; exact (hA.mono hE.env).put hlt bJO
    rcases hnx with rfl | ⟨rfl,rfl⟩
    ·rw[hr,Oper.upon_value]
     exact bIR E' _ _ _ w' hA' hW' hE hK
    ·rw[hr,Oper.upon_skip]
     exact bIR E' _ _ _ w' hA' hW' hE hK
   ·rw[if_neg hw] at hgen
    obtain⟨pv,hpv,hK⟩:=hgen
    obtain⟨v,w',E',hr,bJO,hW',hE⟩:=aZN hc (by simpa using hn) (by simpa using hw) hk' hpv hA hW hN
    unfold Oper.wp
    rw[hr,Oper.upon_value]
    exact bIR E' _ _ _ w' (by rw[← hd]; exact (hA.mono hE.env).put hlt bJO) hW' hE hK
end
def aP.bX:aP→List Nat
 | .tmp t=>[t]
 | .const _=>[]
def rD:Option aP→List Nat
 | none=>[]
 | some x=>x.bX
def PL:List aP→List Nat
 | []=>[]
 | x::xs=>x.bX++PL xs
def aIF:List (Nat × Nat × aP)→List Nat
 | []=>[]
 | x::xs=>x.2.2.bX++aIF xs
def aIE:List (Nat × aP)→List Nat
 | []=>[]
 | x::xs=>x.2.bX++aIE xs
def POp.bX:POp→List Nat
 | .mv x=>x.bX
 | .pick c a b=>c.bX++(a.bX++b.bX)
 | .bin _ x y=>x.bX++y.bX
 | .eqb _ x y=>x.bX++y.bX
 | .eqs _ _ x y=>x.bX++y.bX
 | .un _ x=>x.bX
 | .conv _ x=>x.bX
 | .same x=>x.bX
 | .alloc _=>[]
 | .box _ x=>x.bX
 | .build _ ps=>aIF ps
 | .bHV _ _ _ _ ps=>aIE ps
 | .load _ p=>p.bX
 | .store _ p x=>p.bX++x.bX
 | .bIE x=>x.bX
 | .bJB _ x=>x.bX
 | .field _ _ x=>x.bX
 | .bIK _ x i=>x.bX++i.bX
 | .idxA _ _ x i=>x.bX++i.bX
 | .idxV _ _ _ x i=>x.bX++i.bX
 | .bIY x i=>x.bX++i.bX
 | .slice _ x lo hi mx=>x.bX++(rD lo++(rD hi++rD mx))
 | .bIS x lo hi=>x.bX++(rD lo++rD hi)
 | .sliceA _ _ x lo hi mx=>x.bX++(rD lo++(rD hi++rD mx))
 | .len x=>x.bX
 | .bIX x=>x.bX
 | .bJR x=>x.bX
 | .lenM x=>x.bX
 | .isNil _ x=>x.bX
 | .extract x _=>x.bX
 | .bHZ _ _ _ l c=>l.bX++c.bX
 | .append _ _ x y=>x.bX++y.bX
 | .bIQ _ x y=>x.bX++y.bX
 | .mkfn _ cs=>PL cs
 | .bJL _=>[]
 | .lookup _ _ x k _=>x.bX++k.bX
 | .bIN _ x k v=>x.bX++(k.bX++v.bX)
 | .insert _ x k v=>x.bX++(k.bX++v.bX)
 | .stuck=>[]
 | .bIF x=>x.bX
 | .str2bytes x=>x.bX
 | .call _ az=>PL az
 | .bJA x az=>x.bX++PL az
def mS (l:List Nat) (F F':PF):Prop:=∀ t∈l,F t=F' t
theorem mS.left {a b:List Nat} {F F':PF} (h:mS (a++b) F F'):mS a F F':=fun t ht=>h t (by simp[ht])
theorem mS.right {a b:List Nat} {F F':PF} (h:mS (a++b) F F'):mS b F F':=fun t ht=>h t (by simp[ht])
section
variable {F F':PF} {H H':PH}
theorem bN {x:aP} (h:mS x.bX F F'):x.ev F=x.ev F':=by
 cases x with
 | tmp t=>exact h t (by simp[aP.bX])
 | const v=>rfl
theorem FW:∀ {xs:List aP},mS (PL xs) F F'→aP.evs F xs=aP.evs F' xs
 | [],_=>rfl
 | x::xs,h=>by
  simp only[aP.evs,bN h.left,FW h.right]
theorem acE:∀ {ps:List (Nat × Nat × aP)} {cs:List PV},mS (aIF ps) F F'→nH cs F ps=nH cs F' ps
 | [],_,_=>rfl
 | (o,s,x)::ps,cs,h=>by
  simp only[nH]
  rw[bN (x:=x) h.left]
  split
  ·rw[acE (ps:=ps) h.right]
  ·rfl
theorem tY {s:Nat}:∀ {ps:List (Nat × aP)} {rs:List (List PV)},mS (aIE ps) F F'→fU s rs F ps=fU s rs F' ps
 | [],_,_=>rfl
 | (i,x)::ps,rs,h=>by
  simp only[fU]
  rw[bN (x:=x) h.left]
  split
  ·rw[tY (ps:=ps) h.right]
  ·rfl
theorem wM {d:Int} {x:Option aP} (h:mS (rD x) F F'):bnd F d x=bnd F' d x:=by
 cases x with
 | none=>rfl
 | some x=>simp only[bnd,bN (x:=x) h]
theorem a2D {op:POp} (h:mS op.bX F F'):aO op F H=aO op F' H:=by
 cases op
 case mv x=>simp only[aO,bN (x:=x) h]
 case same x=>simp only[aO,bN (x:=x) h]
 case pick c a b=>simp only[aO,bN (x:=c) h.left,bN (x:=a) h.right.left,bN (x:=b) h.right.right]
 case bin x y=>simp only[aO,bN (x:=x) h.left,bN (x:=y) h.right]
 case eqb x y=>simp only[aO,bN (x:=x) h.left,bN (x:=y) h.right]
 case eqs x y=>simp only[aO,bN (x:=x) h.left,bN (x:=y) h.right]
 case un x=>simp only[aO,bN (x:=x) h]
 case conv x=>simp only[aO,bN (x:=x) h]
 case box r x=>cases r<;>simp only[aO,bN (x:=x) h]
 case build ps=>simp only[aO,acE (ps:=ps) h]
 case bHV r _ _ _ ps=>cases r<;>simp only[aO,tY (ps:=ps) h]
 case load n p=>cases n<;>simp only[aO,bN (x:=p) h]
 case bIE x=>simp only[aO,bN (x:=x) h]
 case bJB x=>simp only[aO,bN (x:=x) h]
 case field x=>simp only[aO,bN (x:=x) h]
 case bIK x i=>simp only[aO,bN (x:=x) h.left,bN (x:=i) h.right]
 case idxA x i=>simp only[aO,bN (x:=x) h.left,bN (x:=i) h.right]
 case idxV x i=>simp only[aO,bN (x:=x) h.left,bN (x:=i) h.right]
 case bIY x i=>simp only[aO,bN (x:=x) h.left,bN (x:=i) h.right]
 case slice s x lo hi mx =>
  have h1:x.ev F=x.ev F':=bN h.left
  have h2:∀ d,bnd F d lo=bnd F' d lo:=fun d=>wM h.right.left
  have h3:∀ d,bnd F d hi=bnd F' d hi:=fun d=>wM h.right.right.left
  cases mx with
  | none=>simp only[aO,h1,h2,h3]
  | some m =>
   have h4:∀ d,bnd F d (some m)=bnd F' d (some m):=fun d=>wM (x:=some m) h.right.right.right
   simp only[aO,h1,h2,h3,h4]
 case sliceA n size x lo hi mx =>
  have h1:x.ev F=x.ev F':=bN h.left
  cases lo<;>cases hi<;>cases mx<;>simp only[aO,h1]
 case bIS x lo hi =>
  have h1:x.ev F=x.ev F':=bN h.left
  have h2:∀ d,bnd F d lo=bnd F' d lo:=fun d=>wM h.right.left
  have h3:∀ d,bnd F d hi=bnd F' d hi:=fun d=>wM h.right.right
  simp only[aO,h1,h2,h3]
 case len x=>simp only[aO,bN (x:=x) h]
 case bIX x=>simp only[aO,bN (x:=x) h]
 case bJR x=>simp only[aO,bN (x:=x) h]
 case lenM x=>simp only[aO,bN (x:=x) h]
 case isNil x=>simp only[aO,bN (x:=x) h]
 case extract x i=>simp only[aO,bN (x:=x) h]
 case bIQ x y=>simp only[aO,bN (x:=x) h.left,bN (x:=y) h.right]
 case mkfn cs=>simp only[aO,FW (xs:=cs) h]
 case lookup sh z x k ok=>simp only[aO,bN (x:=x) h.left,bN (x:=k) h.right]
 case bIF x=>simp only[aO,bN (x:=x) h]
 all_goals rfl
theorem aZD {op:POp} (h:mS op.bX F F'):cQ op F=cQ op F':=by
 cases op
 case box r x=>cases r<;>simp only[cQ,bN (x:=x) h]
 case bHV r _ _ _ ps=>cases r<;>simp only[cQ,tY (ps:=ps) h]
 case bHZ l c=>simp only[cQ,bN (x:=l) h.left,bN (x:=c) h.right]
 all_goals rfl
theorem a5D {op:POp} {K:PV→PH→Prop} (h:mS op.bX F F'):bU op F H K=bU op F' H K:=by
 cases op
 case store n p x=>simp only[bU,bN (x:=p) h.left,bN (x:=x) h.right]
 case append s b x y=>simp only[bU,bN (x:=x) h.left,bN (x:=y) h.right]
 case bIN sh x k v=>simp only[bU,bN (x:=x) h.left,bN (x:=k) h.right.left,bN (x:=v) h.right.right]
 case insert sh x k v=>simp only[bU,bN (x:=x) h.left,bN (x:=k) h.right.left,bN (x:=v) h.right.right]
 all_goals rfl
theorem apR {op:POp} (h:mS op.bX F F'):op.kind F=op.kind F':=by
 have hgen:(if op.fX then Kind.new (cQ op F) else if op.dT then .write (fun H K=>bU op F H K) else .calm (aO op F)) =
   (if op.fX then Kind.new (cQ op F') else if op.dT then .write (fun H K=>bU op F' H K) else .calm (aO op F')):=by
  rw[aZD h]
  have h1:(fun H K=>bU op F H K)=fun H K=>bU op F' H K:=by
   funext H K
   exact a5D h
  have h2:aO op F=aO op F':=by
   funext H
   exact a2D h
  rw[h1,h2]
 cases op
 case call n az=>simp only[POp.kind,FW (xs:=az) h]
 case bJA x az=>simp only[POp.kind,bN (x:=x) h.left,FW (xs:=az) h.right]
 case insert sh x k v=>simp only[POp.kind,bN (x:=x) h.left,bN (x:=k) h.right.left,bN (x:=v) h.right.right]
 all_goals exact hgen
def bC.bX (i:bC):List Nat :=
 match i.guard with
 | none=>i.op.bX
 | some (t,_)=>t::i.op.bX
theorem adH {i:bC} (h:mS i.bX F F'):i.kind F=i.kind F':=by
 unfold bC.kind
 unfold bC.bX at h
 cases hg:i.guard with
 | none=>rw[hg] at h; exact apR h
 | some p =>
  obtain⟨t,want⟩:=p
  rw[hg] at h
  simp only
  rw[h t (by simp),apR (fun u hu=>h u (by simp[hu]))]
theorem bgL (p:PV):∃ q:Nat,∀ (H H':PH) n,H q=H' q→loadCells H p n=loadCells H' p n:=by
 cases p
 case ptr o s i c=>exact⟨o,fun H H' n h=>by simp only[loadCells,h]⟩
 all_goals exact⟨0,fun H H' n h=>rfl⟩
theorem bjK (s:Nat) (p:PV):∃ q:Nat,∀ (H H':PH),H q=H' q→dU H s p=dU H' s p:=by
 cases p
 case osl o s' off len=>exact⟨o,fun H H' h=>by simp only[dU,h]⟩
 all_goals exact⟨0,fun H H' h=>rfl⟩
theorem a9C (op:POp) (F:PF):∃ q:Nat,∀ (H H':PH),H q=H' q→aO op F H=aO op F H':=by
 cases op
 case load n p =>
  cases hp:p.ev F with
  | none=>exact⟨0,fun H H' _=>by cases n<;>simp only[aO,hp]⟩
  | some a =>
   obtain⟨q,hq⟩:=bgL a
   exact⟨q,fun H H' h=>by cases n<;>simp only[aO,hp,hq H H' _ h]⟩
 case lenM x =>
  cases hp:x.ev F with
  | none=>exact⟨0,fun H H' _=>by simp only[aO,hp]⟩
  | some a =>
   cases a
   case map o=>exact⟨o,fun H H' h=>by simp only[aO,hp,h]⟩
   all_goals exact⟨0,fun H H' _=>by simp only[aO,hp]⟩
 case lookup sh z x k ok =>
  cases hp:x.ev F with
  | none=>exact⟨0,fun H H' _=>by simp only[aO,hp]⟩
  | some a =>
   cases a
   case map o=>exact⟨o,fun H H' h=>by cases hk:k.ev F<;>simp only[aO,hp,hk,h]⟩
   all_goals exact⟨0,fun H H' _=>by simp only[aO,hp]⟩
 case bIF x =>
  cases hp:x.ev F with
  | none=>exact⟨0,fun H H' _=>by simp only[aO,hp]⟩
  | some a =>
   obtain⟨q,hq⟩:=bjK 1 a
   exact⟨q,fun H H' h=>by simp only[aO,hp,hq H H' h]⟩
 case sliceA n s x lo hi mx=>cases lo<;>cases hi<;>cases mx<;>exact⟨0,fun H H' _=>rfl⟩
 case box r x=>cases r<;>exact⟨0,fun H H' _=>rfl⟩
 case bHV r _ _ _ _=>cases r<;>exact⟨0,fun H H' _=>rfl⟩
 all_goals exact⟨0,fun H H' _=>rfl⟩
theorem apV {p:PV} {n:Nat} {cs:List PV} (hle:H.le H') (h:loadCells H p n=some cs):loadCells H' p n=some cs:=by
 cases p
 case ptr o s i c =>
  simp only[loadCells] at h ⊢
  cases ho:H o with
  | none=>rw[ho] at h; cases h
  | some x=>rw[hle o x ho]; rw[ho] at h; exact h
 all_goals exact h
theorem bbN {s:Nat} {p:PV} {rs:List (List PV)} (hle:H.le H') (h:dU H s p=some rs):dU H' s p=some rs:=by
 cases p
 case osl o s' off len =>
  simp only[dU] at h ⊢
  cases ho:H o with
  | none=>rw[ho] at h; simp at h
  | some x=>rw[hle o x ho]; rw[ho] at h; exact h
 all_goals exact h
theorem afB {op:POp} {v:PV} (hle:H.le H') (h:aO op F H=some v):aO op F H'=some v:=by
 cases op
 case load n p =>
  cases hp:p.ev F with
  | none=>cases n<;>simp only[aO,hp] at h<;>cases h
  | some a =>
   cases n with
   | none =>
    simp only[aO,hp] at h ⊢
    cases hl:loadCells H a 1 with
    | none=>rw[hl] at h; cases h
    | some cs=>rw[apV hle hl]; rw[hl] at h; exact h
   | some n =>
    simp only[aO,hp] at h ⊢
    cases hl:loadCells H a n with
    | none=>rw[hl] at h; cases h
    | some cs=>rw[apV hle hl]; rw[hl] at h; exact h
 case lenM x =>
  simp only[aO] at h ⊢
  split at h
  ·rename_i o ho
   cases hh:H o with
   | none=>rw[hh] at h; cases h
   | some y=>rw[hle o y hh]; rw[hh] at h; exact h
  ·cases h
 case lookup sh z x k ok =>
  simp only[aO] at h ⊢
  split at h
  ·rename_i o kv ho hk
   cases hh:H o with
   | none=>rw[hh] at h; cases h
   | some y=>rw[hle o y hh]; rw[hh] at h; exact h
  ·cases h
 case bIF x =>
  simp only[aO] at h ⊢
  split at h
  ·rename_i a ha
   cases hl:dU H 1 a with
   | none=>rw[hl] at h; cases h
   | some rs=>rw[bbN hle hl]; rw[hl] at h; exact h
  ·cases h
 case sliceA n s x lo hi mx=>cases lo<;>cases hi<;>cases mx<;>exact h
 case box r x=>cases r<;>exact h
 case bHV r _ _ _ _=>cases r<;>exact h
 all_goals exact h
end
theorem PH.aoW (H:PH) (l:List Nat):∃ o,H o=none∧o ∉ l:=by
 obtain⟨n,hn⟩:=H.fin
 refine⟨n+l.sum+1,hn _ Om,fun h=>?_⟩
 have:n+l.sum+1≤l.sum:=by
  have key:∀ (l:List Nat) (x:Nat),x∈l→x≤l.sum:=by
   intro l
   induction l with
   | nil=>intro x hx; cases hx
   | cons y ys ih =>
    intro x hx
    rcases bKJ.1 hx with rfl | hx
    ·simp
    ·have:=ih x hx; simp; omega
  exact key l _ h
 omega
theorem PH.set_comm (H:PH) {o q:Nat} (x y:cP) (h:o≠q):(H.set o x).set q y=(H.set q y).set o x:=by
 refine PH.ext fun p=>?_
 simp only[bV]
 by_cases h1:p=q<;>by_cases h2:p=o<;>simp_all
theorem PH.adW {H:PH} {o:Nat} (x:cP) (h:H o=none):H.le (H.set o x):=by
 intro p y hp
 rw[bV]
 split
 ·rename_i e; subst e; rw[h] at hp; cases hp
 ·exact hp
theorem PH.aHZ {H:PH} {o q:Nat} {x:cP}:(H.set o x) q=none↔q≠o∧H q=none:=by
 rw[bV]
 split<;>simp_all
theorem PH.le_trans {A B D:PH} (h:A.le B) (k:B.le D):A.le D:=fun o x ho=>k o x (h o x ho)
theorem PH.le_none {A B:PH} (h:A.le B) {o:Nat} (hb:B o=none):A o=none:=by
 cases ha:A o with
 | none=>rfl
 | some x=>have:=h o x ha; rw[hb] at this; cases this
theorem PH.brT {A B:PH} (h:A.le B) {o:Nat} {x:cP} (ho:A o=none):A.le (B.set o x):=by
 intro p y hp
 rw[bV]
 split
 ·rename_i e; subst e; rw[ho] at hp; cases hp
 ·exact h p y hp
structure awW (f:PH→Option PV):Prop where
 dep:∃ q:Nat,∀ (H H':PH),H q=H' q→f H=f H'
 mono:∀ (H H':PH) v,H.le H'→f H=some v→f H'=some v
structure bkZ (w:PH→(PV→PH→Prop)→Prop):Prop where
 mono:∀ H (K K':PV→PH→Prop),(∀ v H',K v H'→K' v H')→w H K→w H K'
 some:∀ H (K:PV→PH→Prop),w H K→∃ v H',K v H'
inductive Kind.Ok:Kind→Prop
 | fail:Kind.Ok .fail
 | calm {f:PH→Option PV} (h:awW f):Kind.Ok (.calm f)
 | new (r:Option ((Nat→PV) × cP)):Kind.Ok (.new r)
 | write {w:PH→(PV→PH→Prop)→Prop} (h:bkZ w):Kind.Ok (.write w)
 | call (name:Nat) (args:Option (List PV)):Kind.Ok (.call name args)
 | ins (r:Option (Nat × MSh × List KS × PV)):Kind.Ok (.ins r)
section
variable {C:Ctx} {Hs:PH} {S:Spec} {H:PH}
theorem xZ {op:POp} {F:PF} {K K':PV→PH→Prop} (h:∀ v H',K v H'→K' v H') (hw:bU op F H K):bU op F H K':=by
 cases op
 case store n p x =>
  simp only[bU] at hw ⊢
  split at hw
  ·obtain⟨h1,H',h2,h3⟩:=hw; exact⟨h1,H',h2,h _ _ h3⟩
  ·exact hw.elim
 case append s b x y =>
  simp only[bU] at hw ⊢
  split at hw
  ·rename_i a c ha hc
   obtain⟨src,h1,h2⟩:=hw
   refine⟨src,h1,?_⟩
   split at h2
   ·exact⟨h2.1,fun e=>h _ _ (h2.2.1 e),fun e o ho=>h _ _ (h2.2.2 e o ho)⟩
   ·obtain⟨g1,g2,g3,rs,g4,g5,g6,g7⟩:=h2
    exact⟨g1,g2,g3,rs,g4,g5,h _ _ g6,fun o ho=>h _ _ (g7 o ho)⟩
   ·exact h2.elim
  ·exact hw.elim
 case bIN sh x k v =>
  simp only[bU] at hw ⊢
  split at hw
  ·split at hw
   ·exact⟨hw.1,h _ _ hw.2⟩
   ·exact hw.elim
  ·exact hw.elim
 case insert sh x k v =>
  simp only[bU] at hw ⊢
  split at hw
  ·split at hw
   ·exact⟨hw.1,hw.2.1,h _ _ hw.2.2⟩
   ·exact hw.elim
  ·exact hw.elim
 all_goals exact hw.elim
theorem aMK {op:POp} {F:PF} {K:PV→PH→Prop} (hw:bU op F H K):∃ v H',K v H':=by
 cases op
 case store n p x =>
  simp only[bU] at hw
  split at hw
  ·obtain⟨h1,H',h2,h3⟩:=hw; exact⟨_,_,h3⟩
  ·exact hw.elim
 case append s b x y =>
  simp only[bU] at hw
  split at hw
  ·rename_i a c ha hc
   obtain⟨src,h1,h2⟩:=hw
   split at h2
   ·by_cases e:src=[]
    ·exact⟨_,_,h2.2.1 e⟩
    ·obtain⟨o,ho⟩:=H.fresh
     exact⟨_,_,h2.2.2 e o ho⟩
   ·obtain⟨g1,g2,g3,rs,g4,g5,g6,g7⟩:=h2
    exact⟨_,_,g6⟩
   ·exact h2.elim
  ·exact hw.elim
 case bIN sh x k v =>
  simp only[bU] at hw
  split at hw
  ·split at hw
   ·exact⟨_,_,hw.2⟩
   ·exact hw.elim
  ·exact hw.elim
 case insert sh x k v =>
  simp only[bU] at hw
  split at hw
  ·split at hw
   ·exact⟨_,_,hw.2.2⟩
   ·exact hw.elim
  ·exact hw.elim
 all_goals exact hw.elim
theorem aFZ (op:POp) (F:PF):(op.kind F).Ok:=by
 have hgen:(if op.fX then Kind.new (cQ op F) else if op.dT then .write (fun H K=>bU op F H K) else .calm (aO op F)).Ok:=by
  split
  ·exact .new _
  ·split
   ·exact .write ⟨fun H K K' h hw=>xZ h hw,fun H K hw=>aMK hw⟩
   ·exact .calm ⟨a9C op F,fun H H' v h hv=>afB h hv⟩
 cases op
 case call n az=>exact .call _ _
 case bJA x az =>
  simp only[POp.kind]
  split
  ·exact .call _ _
  ·exact .fail
 case insert sh x k v=>exact .ins _
 all_goals exact hgen
theorem pD (i:bC) (F:PF):(i.kind F).Ok:=by
 unfold bC.kind
 split
 ·exact aFZ _ _
 ·split
  ·split
   ·exact aFZ _ _
   ·exact .calm ⟨⟨0,fun _ _ _=>rfl⟩,fun _ _ _ _ h=>h⟩
  ·exact .calm ⟨⟨0,fun _ _ _=>rfl⟩,fun _ _ _ _ h=>h⟩
  ·exact .fail
theorem Kind.pG {k:Kind} (hk:k.Ok) {st:Bool} {K K':PV→PH→Prop} (h:∀ v H',Hs.le H'→K v H'→K' v H') (hle:Hs.le H) (hr:k.run C Hs S st K H):k.run C Hs S st K' H:=by
 cases hk with
 | fail=>exact hr
 | calm _=>obtain⟨v,h1,h2⟩:=hr; exact⟨v,h1,h _ _ hle h2⟩
 | new r=>obtain⟨mk,x,h1,h2⟩:=hr; exact⟨mk,x,h1,fun o ho=>h _ _ (PH.le_trans hle (PH.adW x ho)) (h2 o ho)⟩
 | write hw=>exact hw.mono _ _ _ (fun v H' hh=>⟨hh.1,h _ _ hh.1 hh.2⟩) hr
 | call name args =>
  obtain⟨vs,D,R,h1,h2,h3,h4,h5,h6⟩:=hr
  exact⟨vs,D,R,h1,h2,h3,h4,h5,fun r H' a b=>⟨(h6 r H' a b).1,h _ _ (h6 r H' a b).1 (h6 r H' a b).2⟩⟩
 | ins r =>
  obtain⟨o,sh,key,v,g,h1,h2,h3,h4,h5⟩:=hr
  exact⟨o,sh,key,v,g,h1,h2,h3,h4,h _ _ (PH.brT hle h4) h5⟩
def Kind.cls:Kind→Nat
 | .fail | .calm _=>0
 | .new _=>1
 | .write _=>2
 | .call ..=>3
 | .ins _=>4
theorem HQ {H:PH} {D:List Nat} {o:Nat} (x:cP) (h:o ∉ D):(H.set o x).only D=H.only D:=by
 refine PH.ext fun q=>?_
 simp only[PH.only,bV]
 split
 ·rename_i hq
  rw[if_neg (by rintro rfl; exact h hq)]
 ·rfl
theorem mD (H H0 H':PH) (o:Nat):(H.eJ H0 H') o=(match H' o with | some x=>some x | none=>match H0 o with | some _=>some .dead | none=>H o):=rfl
theorem pR (H:PH) (D:List Nat) (o:Nat):(H.only D) o=if o∈D then H o else none:=rfl
theorem aGC {H H':PH} {D:List Nat} {o:Nat} (x:cP) (ho:o ∉ D) (h':H' o=none):(H.set o x).eJ (H.only D) H'=(H.eJ (H.only D) H').set o x:=by
 refine PH.ext fun q=>?_
 rw[mD,bV,bV,mD]
 by_cases e:q=o
 ·subst e
  simp only[h',pR,if_neg ho,if_true]
 ·simp only[if_neg e]
theorem aqX {H H':PH} {D:List Nat} {o:Nat} (h:(H.eJ (H.only D) H') o=none):H o=none∧H' o=none:=by
 rw[mD] at h
 cases h1:H' o with
 | some x=>rw[h1] at h; cases h
 | none =>
  rw[h1] at h
  simp only at h
  cases h2:(H.only D) o with
  | some x=>rw[h2] at h; cases h
  | none=>rw[h2] at h; exact⟨h,rfl⟩
theorem awD {name:Nat} {args:Option (List PV)} {r:Option ((Nat→PV) × cP)} {K:PV→PV→PH→Prop} {si sj:Bool}
  (h:(Kind.call name args).run C Hs S si (fun v H'=>(Kind.new r).run C Hs S sj (fun u H''=>K v u H'') H') H) :
  (Kind.new r).run C Hs S sj (fun u H'=>(Kind.call name args).run C Hs S si (fun v H''=>K v u H'') H') H:=by
 obtain⟨vs,D,R,h1,h2,h3,h4,h5,h6⟩:=h
 obtain⟨r0,H0,h5a,h5b⟩:=h5 H
 obtain⟨-,mk,x,hr,-⟩:=h6 r0 H0 h5a h5b
 refine⟨mk,x,hr,fun o ho=>?_⟩
 have hoD:o ∉ D:=fun hD=>by obtain⟨y,hy⟩:=h3 o hD; rw[ho] at hy; cases hy
 refine⟨vs,D,R,h1,h2,fun q hq=>?_,?_,?_,?_⟩
 ·rw[bV]
  split
  ·exact⟨_,rfl⟩
  ·exact h3 q hq
 ·rw[HQ x hoD]; exact h4
 ·rw[HQ x hoD]; exact h5
 ·intro v H' hR hap
  rw[HQ x hoD] at hR hap ⊢
  have h':H' o=none:=by
   cases e:H' o with
   | none=>rfl
   | some y =>
    have:=hap o y e (by rw[pR,if_neg hoD])
    rw[bV,if_pos rfl] at this; cases this
  have hap':kJ H (H.only D) H':=fun q y hq h0=>by
   have:=hap q y hq h0
   rw[bV] at this
   split at this
   ·cases this
   ·exact this
  obtain⟨g1,mk',x',g2,g3⟩:=h6 v H' hR hap'
  rw[hr] at g2
  cases g2
  have hon:(H.eJ (H.only D) H') o=none:=by rw[mD,h',pR,if_neg hoD]; exact ho
  rw[aGC x hoD h']
  exact⟨PH.le_trans g1 (PH.adW x hon),g3 o hon⟩
theorem awF {name:Nat} {args:Option (List PV)} {r:Option ((Nat→PV) × cP)} {K:PV→PV→PH→Prop} {si sj:Bool} (hle:Hs.le H)
  (h:(Kind.new r).run C Hs S si (fun v H'=>(Kind.call name args).run C Hs S sj (fun u H''=>K v u H'') H') H) :
  (Kind.call name args).run C Hs S sj (fun u H'=>(Kind.new r).run C Hs S si (fun v H''=>K v u H'') H') H:=by
 obtain⟨mk,x,hr,h⟩:=h
 obtain⟨o0,ho0⟩:=H.fresh
 obtain⟨vs,D,R,h1,h2,-⟩:=h o0 ho0
 obtain⟨o,ho,hoD⟩:=H.aoW D
 have all:∀ q,H q=none→q ∉ D→(∀ p∈D,∃ y,(H.set q x) p=some y)∧aE C name vs (H.only D) (R (H.only D))∧(∀ G:PH,∃ r H',R (H.only D) r H'∧kJ G (H.only D) H') ∧
   ∀ r H',R (H.only D) r H'→kJ (H.set q x) (H.only D) H'→Hs.le ((H.set q x).eJ (H.only D) H')∧K (mk q) r ((H.set q x).eJ (H.only D) H'):=by
  intro q hq hqD
  obtain⟨vs',D',R',g1,g2,g3,g4,g5,g6⟩:=h q hq
  rw[h1] at g1; cases g1
  rw[h2] at g2; cases g2
  rw[HQ x hqD] at g4 g5 g6
  exact⟨g3,g4,g5,g6⟩
 obtain⟨a3,a4,a5,-⟩:=all o ho hoD
 have hD:∀ q∈D,∃ y,H q=some y:=fun q hq=>by
  obtain⟨y,hy⟩:=a3 q hq
  rw[bV,if_neg (by rintro rfl; exact hoD hq)] at hy
  exact⟨y,hy⟩
 have bJP:∀ q,H q=none→q ∉ D:=fun q hq hD'=>by obtain⟨y,hy⟩:=hD q hD'; rw[hq] at hy; cases hy
 refine⟨vs,D,R,h1,h2,hD,a4,a5,fun u H' hR hap=>?_⟩
 have step:∀ q,(H.eJ (H.only D) H') q=none→Hs.le ((H.eJ (H.only D) H').set q x)∧K (mk q) u ((H.eJ (H.only D) H').set q x):=by
  intro q hq
  obtain⟨hq1,hq2⟩:=aqX hq
  have hqD:=bJP q hq1
  obtain⟨-,-,-,a6⟩:=all q hq1 hqD
  have:=a6 u H' hR fun p y hp h0=>by
   rw[bV]
   split
   ·rename_i e; subst e; rw[hq2] at hp; cases hp
   ·exact hap p y hp h0
  rw[aGC x hqD hq2] at this
  exact this
 refine⟨?_,mk,x,hr,fun q hq=>(step q hq).2⟩
 obtain⟨q,hq⟩:=(H.eJ (H.only D) H').fresh
 have hq1:=(step q hq).1
 intro p y hp
 have:=hq1 p y hp
 rw[bV] at this
 split at this
 ·rename_i e
  subst e
  have:=PH.le_none hle (aqX hq).1
  rw[hp] at this; cases this
 ·exact this
theorem aIU {r r':Option ((Nat→PV) × cP)} {K:PV→PV→PH→Prop} {si sj:Bool}
  (h:(Kind.new r).run C Hs S si (fun v H'=>(Kind.new r').run C Hs S sj (fun u H''=>K v u H'') H') H) :
  (Kind.new r').run C Hs S sj (fun u H'=>(Kind.new r).run C Hs S si (fun v H''=>K v u H'') H') H:=by
 obtain⟨mk,x,hr,h⟩:=h
 obtain⟨o0,ho0⟩:=H.fresh
 obtain⟨mk',x',hr',-⟩:=h o0 ho0
 refine⟨mk',x',hr',fun q hq=>⟨mk,x,hr,fun o ho=>?_⟩⟩
 rw[PH.aHZ] at ho
 obtain⟨mk2,x2,hr2,g⟩:=h o ho.2
 rw[hr'] at hr2
 cases hr2
 have:=g q (PH.aHZ.2 ⟨Ne.symm ho.1,hq⟩)
 rwa [PH.set_comm H x x' ho.1] at this
theorem awE {f:PH→Option PV} {k:Kind} {K:PV→PV→PH→Prop} {si sj:Bool} (hf:awW f) (hk:k.Ok) (hst:k.cls=2∨k.cls=3∨k.cls=4→si=true) (hle:Hs.le H)
  (h:(Kind.calm f).run C Hs S si (fun v H'=>k.run C Hs S sj (fun u H''=>K v u H'') H') H) :
  k.run C Hs S sj (fun u H'=>(Kind.calm f).run C Hs S si (fun v H''=>K v u H'') H') H:=by
 obtain⟨v,hv,h⟩:=h
 cases hk with
 | fail=>exact h
 | @calm g hg=>obtain⟨u,hu,h⟩:=h; exact⟨u,hu,v,hv,h⟩
 | new r =>
  obtain⟨mk,x,hr,h⟩:=h
  refine⟨mk,x,hr,fun o ho=>⟨v,?_,h o ho⟩⟩
  cases si
  ·exact hf.mono _ _ _ (PH.adW x ho) hv
  ·exact hv
 | write hw =>
  have:si=true:=hst (.inl rfl)
  subst this
  exact Kind.pG (.write hw) (fun u H' _ hh=>⟨v,hv,hh⟩) hle h
 | call name args =>
  have:si=true:=hst (.inr (.inl rfl))
  subst this
  exact Kind.pG (.call name args) (fun u H' _ hh=>⟨v,hv,hh⟩) hle h
 | ins r =>
  have:si=true:=hst (.inr (.inr rfl))
  subst this
  exact Kind.pG (.ins r) (fun u H' _ hh=>⟨v,hv,hh⟩) hle h
theorem awC {f:PH→Option PV} {k:Kind} {K:PV→PV→PH→Prop} {si sj:Bool} (hf:awW f) (hk:k.Ok) (hst:k.cls=2∨k.cls=3∨k.cls=4→sj=true) (hle:Hs.le H)
  (h:k.run C Hs S si (fun v H'=>(Kind.calm f).run C Hs S sj (fun u H''=>K v u H'') H') H) :
  (Kind.calm f).run C Hs S sj (fun u H'=>k.run C Hs S si (fun v H''=>K v u H'') H') H:=by
 cases hk with
 | fail=>exact h.elim
 | @calm g hg=>obtain⟨u,hu,v,hv,h⟩:=h; exact⟨v,hv,u,hu,h⟩
 | new r =>
  obtain⟨mk,x,hr,h⟩:=h
  cases sj with
  | true =>
   obtain⟨o0,ho0⟩:=H.fresh
   obtain⟨u,hu,-⟩:=h o0 ho0
   refine⟨u,hu,mk,x,hr,fun o ho=>?_⟩
   obtain⟨u',hu',hK⟩:=h o ho
   simp only[if_true] at hu hu'
   rw[hu] at hu'; cases hu'
   exact hK
  | false =>
   obtain⟨q,hq⟩:=hf.dep
   obtain⟨o0,ho0,hne⟩:=H.aoW [q]
   obtain⟨u,hu,-⟩:=h o0 ho0
   simp only[bMU,if_false] at hu
   have hu':f H=some u:=by
    rw[← hu]
    exact hq _ _ (by rw[bV,if_neg (by simpa using Ne.symm (fun e=>hne (by simp[e])))])
   refine⟨u,hu',mk,x,hr,fun o ho=>?_⟩
   obtain⟨u2,hu2,hK⟩:=h o ho
   simp only[bMU,if_false] at hu2
   rw[hf.mono _ _ _ (PH.adW x ho) hu'] at hu2
   cases hu2
   exact hK
 | @write w hw =>
  have:sj=true:=hst (.inl rfl)
  subst this
  obtain⟨_,_,_,u,hu,_⟩:=hw.some _ _ h
  refine⟨u,hu,hw.mono _ _ _ (fun v H' hh=>⟨hh.1,?_⟩) h⟩
  obtain⟨-,u',hu',hK⟩:=hh
  simp only[if_true] at hu hu'
  rw[hu] at hu'; cases hu'
  exact hK
 | call name args =>
  have:sj=true:=hst (.inr (.inl rfl))
  subst this
  obtain⟨vs,D,R,h1,h2,h3,h4,h5,h6⟩:=h
  obtain⟨r0,H0,h5a,h5b⟩:=h5 H
  obtain⟨-,u,hu,-⟩:=h6 r0 H0 h5a h5b
  refine⟨u,hu,vs,D,R,h1,h2,h3,h4,h5,fun r H' hR hap=>?_⟩
  obtain⟨g1,u',hu',hK⟩:=h6 r H' hR hap
  simp only[if_true] at hu hu'
  rw[hu] at hu'; cases hu'
  exact⟨g1,hK⟩
 | ins r =>
  have:sj=true:=hst (.inr (.inr rfl))
  subst this
  obtain⟨o,sh,key,v,g,h1,h2,h3,h4,u,hu,hK⟩:=h
  exact⟨u,hu,o,sh,key,v,g,h1,h2,h3,h4,hK⟩
theorem aIT {r r':Option (Nat × MSh × List KS × PV)} {K:PV→PV→PH→Prop} {si sj:Bool}
  (h:(Kind.ins r).run C Hs S si (fun v H'=>(Kind.ins r').run C Hs S sj (fun u H''=>K v u H'') H') H) :
  (Kind.ins r').run C Hs S sj (fun u H'=>(Kind.ins r).run C Hs S si (fun v H''=>K v u H'') H') H:=by
 obtain⟨o,sh,key,v,g,h1,h2,h3,h4,o',sh',key',v',g',k1,k2,k3,k4,hK⟩:=h
 by_cases e:o'=o
 ·subst e
  rw[bV,if_pos rfl] at k2
  cases k2
  have hne:key'≠key:=by
   rintro rfl
   simp[fG.upd] at k3
  have k3':g key'=none:=by simpa [fG.upd,hne] using k3
  refine⟨o',sh,key',v',g,k1,h2,k3',h4,o',sh,key,v,g.upd key' v',h1,by rw[bV,if_pos rfl],by simp[fG.upd,Ne.symm hne,h3],h4,?_⟩
  have:((H.set o' (.map sh (g.upd key' v'))).set o' (.map sh ((g.upd key' v').upd key v)))=((H.set o' (.map sh (g.upd key v))).set o' (.map sh ((g.upd key v).upd key' v'))):=by
   refine PH.ext fun q=>?_
   simp only[bV]
   split
   ·congr 2
    funext k
    simp only[fG.upd]
    by_cases h5:k=key<;>by_cases h6:k=key'<;>simp_all
   ·rfl
  rw[this]
  exact hK
 ·rw[bV,if_neg e] at k2
  refine⟨o',sh',key',v',g',k1,k2,k3,k4,o,sh,key,v,g,h1,by rw[bV,if_neg (Ne.symm e)]; exact h2,h3,h4,?_⟩
  rw[PH.set_comm H _ _ e]
  exact hK
def qV (a b:Nat) (sa sb:Bool):Bool :=
 match a,b with
 | 0,0 | 0,1 | 1,0 | 1,1 | 1,3 | 3,1 | 4,4=>true
 | 0,_=>sa
 | _,0=>sb
 | _,_=>false
theorem a3C {ki kj:Kind} {K:PV→PV→PH→Prop} {si sj:Bool} (hi:ki.Ok) (hj:kj.Ok) (hm:qV ki.cls kj.cls si sj=true) (hle:Hs.le H)
  (h:ki.run C Hs S si (fun v H'=>kj.run C Hs S sj (fun u H''=>K v u H'') H') H) :
  kj.run C Hs S sj (fun u H'=>ki.run C Hs S si (fun v H''=>K v u H'') H') H:=by
 by_cases hci:ki.cls=0
 ·cases hi with
  | fail=>exact h.elim
  | calm hf =>
   refine awE hf hj (fun hc=>?_) hle h
   rcases hc with hc | hc | hc<;>(rw[hc] at hm; simpa [qV,Kind.cls] using hm)
  | new | write | call | ins=>simp[Kind.cls] at hci
 ·by_cases hcj:kj.cls=0
  ·cases hj with
   | fail =>
    cases hi with
    | fail=>exact h
    | calm _=>simp[Kind.cls] at hci
    | new r =>
     obtain⟨mk,x,-,h⟩:=h
     obtain⟨o,ho⟩:=H.fresh
     exact h o ho
    | write hw=>obtain⟨_,_,_,hh⟩:=hw.some _ _ h; exact hh
    | call name args =>
     obtain⟨vs,D,R,h1,h2,h3,h4,h5,h6⟩:=h
     obtain⟨r0,H0,h5a,h5b⟩:=h5 H
     exact (h6 r0 H0 h5a h5b).2
    | ins r =>
     obtain⟨o,sh,key,v,g,h1,h2,h3,h4,h5⟩:=h
     exact h5
   | calm hf =>
    refine awC hf hi (fun hc=>?_) hle h
    rcases hc with hc | hc | hc<;>(rw[hc] at hm; simpa [qV,Kind.cls] using hm)
   | new | write | call | ins=>simp[Kind.cls] at hcj
  ·cases hi with
   | fail | calm=>simp[Kind.cls] at hci
   | new r =>
    cases hj with
    | fail | calm=>simp[Kind.cls] at hcj
    | new r'=>exact aIU h
    | write=>simp[Kind.cls,qV] at hm
    | call=>exact awF hle h
    | ins=>simp[Kind.cls,qV] at hm
   | write=>cases hj<;>simp[Kind.cls,qV] at hm hcj
   | call =>
    cases hj with
    | fail | calm=>simp[Kind.cls] at hcj
    | new r'=>exact awD h
    | write=>simp[Kind.cls,qV] at hm
    | call=>simp[Kind.cls,qV] at hm
    | ins=>simp[Kind.cls,qV] at hm
   | ins =>
    cases hj with
    | fail | calm=>simp[Kind.cls] at hcj
    | new r'=>simp[Kind.cls,qV] at hm
    | write=>simp[Kind.cls,qV] at hm
    | call=>simp[Kind.cls,qV] at hm
    | ins=>exact aIT h
end
open Go Go.RowKit
def bC.apart (x y:bC):Bool :=
 (match x.dst with
  | some d=>!(y.bX).contains d&&y.dst != some d
  | none=>true) &&
 (match y.dst with
  | some d=>!(x.bX).contains d
  | none=>true)
theorem aGV {F:PF} {l:List Nat} {d:Option Nat} (v:PV) (h:∀ t,d=some t→t ∉ l):mS l (F.put d v) F:=by
 intro t ht
 cases d with
 | none=>rfl
 | some d =>
  have:t≠d:=by rintro rfl; exact h t rfl ht
  simp only[PF.put,PF.set,upd,if_neg this]
theorem bhK {F:PF} {d e:Option Nat} (v u:PV) (h:∀ t,d=some t→e≠some t):(F.put d v).put e u=(F.put e u).put d v:=by
 cases d with
 | none=>rfl
 | some d =>
  cases e with
  | none=>rfl
  | some e =>
   have hne:d≠e:=by rintro rfl; exact h d rfl rfl
   exact bjA F (some v) (some u) hne
theorem apart_spec {x y:bC} (h:x.apart y=true):(∀ d,x.dst=some d→d ∉ y.bX)∧(∀ d,x.dst=some d→y.dst≠some d)∧(∀ d,y.dst=some d→d ∉ x.bX):=by
 refine⟨fun d hd=>?_,fun d hd=>?_,fun d hd=>?_⟩<;>simp[bC.apart,hd] at h
 ·exact h.1.1
 ·exact h.1.2
 ·exact h.2
def POp.cls:POp→Nat
 | .call .. | .bJA ..=>3
 | .insert ..=>4
 | op=>if op.fX then 1 else if op.dT then 2 else 0
def bgN (a b:Nat) (sa sb:Bool):Bool :=
 match a,b with
 | 0,0 | 0,1 | 1,0 | 1,1=>true
 | 4,4=>sa&&sb
 | 0,_=>sa
 | _,0=>sb
 | 1,3=>sa
 | 3,1=>sb
 | _,_=>false
def acT (x y:bC × Bool):Bool:=x.1.apart y.1&&bgN x.1.op.cls y.1.op.cls x.2 y.2
section
variable {C:Ctx} {Hs:PH} {S:Spec} {H:PH} {F:PF}
theorem aqV (op:POp) (F:PF):(op.kind F).cls=op.cls∨(op.kind F).cls=0:=by
 have hgen:(if op.fX then Kind.new (cQ op F) else if op.dT then .write (fun H K=>bU op F H K) else .calm (aO op F)).cls=(if op.fX then 1 else if op.dT then 2 else 0):=by
  split
  ·rfl
  ·split<;>rfl
 cases op
 case call n az=>exact .inl rfl
 case bJA x az =>
  simp only[POp.kind]
  split
  ·exact .inl rfl
  ·exact .inr rfl
 case insert sh x k v=>exact .inl rfl
 all_goals exact .inl hgen
theorem apP (i:bC) (F:PF):(i.kind F).cls=i.op.cls∨(i.kind F).cls=0:=by
 unfold bC.kind
 split
 ·exact aqV _ _
 ·split
  ·split
   ·exact aqV _ _
   ·exact .inr rfl
  ·exact .inr rfl
  ·exact .inr rfl
theorem brW {a b a' b':Nat} {sa sb:Bool} (h:bgN a b sa sb=true) (ha:a'=a∨a'=0) (hb:b'=b∨b'=0):qV a' b' sa sb=true:=by
 unfold bgN at h
 split at h
 all_goals (rcases ha with rfl | rfl<;>rcases hb with rfl | rfl<;>simp_all [qV])
theorem Kind.bhQ {k:Kind} (hk:k.Ok) {st:Bool} {K:PV→PH→Prop} (hr:k.run C Hs S st K H):∃ v H',K v H':=by
 cases hk with
 | fail=>exact hr.elim
 | calm _=>obtain⟨v,h1,h2⟩:=hr; exact⟨v,_,h2⟩
 | new r=>obtain⟨mk,x,h1,h2⟩:=hr; obtain⟨o,ho⟩:=H.fresh; exact⟨_,_,h2 o ho⟩
 | write hw=>obtain⟨v,H',h⟩:=hw.some _ _ hr; exact⟨v,H',h.2⟩
 | call name args =>
  obtain⟨vs,D,R,h1,h2,h3,h4,h5,h6⟩:=hr
  obtain⟨r,H',a,b⟩:=h5 H
  exact⟨_,_,(h6 r H' a b).2⟩
 | ins r =>
  obtain⟨o,sh,key,v,g,h1,h2,h3,h4,h5⟩:=hr
  exact⟨_,_,h5⟩
def qY (C:Ctx) (Hs:PH) (S:Spec) (i:bC × Bool) (K:PF→PH→Prop) (F:PF) (H:PH):Prop:=(i.1.kind F).run C Hs S i.2 (fun v H'=>K (F.put i.1.dst v) H') H
theorem tL {i:bC × Bool} {K K':PF→PH→Prop} (h:∀ F' H',Hs.le H'→K F' H'→K' F' H') (hle:Hs.le H) (hr:qY C Hs S i K F H):qY C Hs S i K' F H :=
 Kind.pG (pD _ _) (fun v H' a b=>h _ _ a b) hle hr
theorem a8T {i j:bC × Bool} {K:PF→PH→Prop} (hf:acT i j=true) (hle:Hs.le H) (h:qY C Hs S i (qY C Hs S j K) F H):qY C Hs S j (qY C Hs S i K) F H:=by
 simp only[acT,bKR] at hf
 obtain⟨h1,h2,h3⟩:=apart_spec hf.1
 unfold qY at h ⊢
 have e1:∀ v,j.1.kind (F.put i.1.dst v)=j.1.kind F:=fun v=>adH (aGV v h1)
 have e2:∀ v,i.1.kind (F.put j.1.dst v)=i.1.kind F:=fun v=>adH (aGV v h3)
 simp only[e1] at h
 simp only[e2]
 have:=a3C (K:=fun v u H''=>K ((F.put i.1.dst v).put j.1.dst u) H'') (pD i.1 F) (pD j.1 F) (brW hf.2 (apP _ _) (apP _ _)) hle h
 refine Kind.pG (pD j.1 F) (fun u H' a b=>?_) hle this
 refine Kind.pG (pD i.1 F) (fun v H'' _ c=>?_) a b
 rw[bhK v u h2] at c
 exact c
inductive sY (ops:Array Oper):Nat→Nat→Prop
 | one {i j:Nat} {o:Oper} {e} (ho:ops[j]?=some o) (he:e∈o.after) (hb:Region.binds .any e=true) (hi:e.on=i):sY ops i j
 | step {i m j:Nat} {o:Oper} {e} (h:sY ops i m) (ho:ops[j]?=some o) (he:e∈o.after) (hb:Region.binds .any e=true) (hm:e.on=m):sY ops i j
def mQ (ops:Array Oper) (listed:Array Bool):Prop:=∀ j o,ops[j]?=some o→listed.getD j false=true→∀ e∈o.after,Region.binds .any e=true→listed.getD e.on false=true
theorem mQ.biZ {ops:Array Oper} {listed:Array Bool} (hc:mQ ops listed) {i j:Nat} (h:sY ops i j) (hj:listed.getD j false=true):listed.getD i false=true:=by
 induction h with
 | one ho he hb hi=>subst hi; exact hc _ _ ho hj _ he hb
 | step h ho he hb hm ih=>subst hm; exact ih (hc _ _ ho hj _ he hb)
theorem mQ.aqE {ops:Array Oper} {listed:Array Bool} (hc:mQ ops listed) {i j:Nat} (h:sY ops i j) (hi:listed.getD i false=false):j ∉ Region.ready .any ops listed:=by
 intro hj
 rw[mem_ready] at hj
 obtain⟨-,o,ho,bJG⟩:=hj
 cases h with
 | one ho' he hb hi' =>
  rw[ho] at ho'; cases ho'
  subst hi'
  rw[bJG _ he hb] at hi; cases hi
 | step h ho' he hb hm =>
  rw[ho] at ho'; cases ho'
  subst hm
  rw[hc.biZ h (bJG _ he hb)] at hi; cases hi
theorem mQ.set {ops:Array Oper} {listed:Array Bool} (hc:mQ ops listed) {i:Nat} (hi:i∈Region.ready .any ops listed):mQ ops (listed.setIfInBounds i true):=by
 intro j o ho hj e he hb
 by_cases hji:j=i
 ·subst hji
  rw[mem_ready] at hi
  obtain⟨-,o',ho',bJG⟩:=hi
  rw[ho] at ho'; cases ho'
  exact getD_set_true (bJG e he hb)
 ·rw[getD_set_ne false (Ne.symm hji)] at hj
  exact getD_set_true (hc j o ho hj e he hb)
def wK (C:Ctx) (Hs:PH) (S:Spec) (ops:Array Oper) (il:List (bC × Bool)) (K:PF→PH→Prop):Nat→Array Bool→PF→PH→Prop
 | 0,listed,F,H=>Region.ready .any ops listed=[]∧K F H
 | fuel+1,listed,F,H=>(Region.ready .any ops listed=[]→K F H) ∧
  ∀ i∈Region.ready .any ops listed,∀ p,il[i]?=some p→qY C Hs S p (wK C Hs S ops il K fuel (listed.setIfInBounds i true)) F H
theorem aZE {ops:Array Oper} {il:List (bC × Bool)} {K:PF→PH→Prop} {i:Nat} {p:bC × Bool} (hp:il[i]?=some p) :
  ∀ (fuel:Nat) (listed:Array Bool) (F:PF) (H:PH),Hs.le H→mQ ops listed →
   (∀ j q,il[j]?=some q→j≠i→listed.getD j true=false→¬ sY ops i j→acT p q=true) →
   i∈Region.ready .any ops listed→qY C Hs S p (wK C Hs S ops il K fuel (listed.setIfInBounds i true)) F H→wK C Hs S ops il K (fuel+1) listed F H:=by
 intro fuel
 induction fuel with
 | zero =>
  intro listed F H hle hc hfree hr h
  refine⟨fun e=>(by rw[e] at hr; cases hr),fun j hj q hq=>?_⟩
  by_cases hji:j=i
  ·subst hji; rw[hp] at hq; cases hq; exact h
  ·obtain⟨v,H',hh⟩:=Kind.bhQ (pD _ _) h
   have:=ready_mono hj hji
   rw[hh.1] at this; cases this
 | succ fuel ih =>
  intro listed F H hle hc hfree hr h
  refine⟨fun e=>(by rw[e] at hr; cases hr),fun j hj q hq=>?_⟩
  by_cases hji:j=i
  ·subst hji; rw[hp] at hq; cases hq; exact h
  ·have hi0:=(mem_ready.1 hr).1
   have hj0:=(mem_ready.1 hj).1
   have hi0':listed.getD i false=false:=by
    rcases bKM i listed.size with h' | h'
    ·simp[h'] at hi0 ⊢; exact hi0
    ·simp[Array.getElem?_eq_none h'] at hi0
   have hnb:¬ sY ops i j:=fun hb=>hc.aqE hb hi0' hj
   have h1:qY C Hs S p (qY C Hs S q (wK C Hs S ops il K fuel ((listed.setIfInBounds i true).setIfInBounds j true))) F H :=
    tL (fun F' H' _ hh=>hh.2 j (ready_mono hj hji) q hq) hle h
   have h2:=a8T (hfree j q hq hji hj0 hnb) hle h1
   refine tL (fun F' H' hle' hh=>?_) hle h2
   refine ih (listed.setIfInBounds j true) F' H' hle' (hc.set hj) (fun k r hk hki hun hno=>hfree k r hk hki ?_ hno) (ready_mono hr (Ne.symm hji)) ?_
   ·by_cases hjk:j=k
    ·subst hjk; exact hj0
    ·rw[getD_set_ne true hjk] at hun; exact hun
   ·rw[Array.setIfInBounds_comm _ _ hji]; exact hh
def qL (o:Oper):List Nat:=(o.after.toList.filter fun e=>Region.binds .any e).map (·.on)
def aDW (ms:List Nat) (ds:List Nat):Nat:=ds.foldl (fun s d=>s ||| (2 ^ d ||| ms.getD d 0)) 0
def uS:List Oper→List Nat→List Nat
 | [],acc=>acc
 | o::os,acc=>uS os (acc++[aDW acc (qL o)])
def iJ (ms:List Nat):Nat→List Oper→Bool
 | _,[]=>true
 | k,o::os=>(qL o).all (·<k)&&ms.getD k 0==aDW ms (qL o)&&iJ ms (k+1) os
def yU (ms:List Nat) (i:Nat) (p:bC × Bool):Nat→List (bC × Bool)→Bool
 | _,[]=>true
 | j,q::qs=>((ms.getD j 0).testBit i||acT p q)&&yU ms i p (j+1) qs
def wC (ms:List Nat):Nat→List (bC × Bool)→Bool
 | _,[]=>true
 | i,p::ps=>yU ms i p (i+1) ps&&wC ms (i+1) ps
def a6K (ops:Array Oper) (il:List (bC × Bool)):Bool :=
 let ms:=uS ops.toList []
 iJ ms 0 ops.toList&&wC ms 0 il
theorem aDX {ms:List Nat} {i:Nat}:∀ {ds:List Nat} {s:Nat},(ds.foldl (fun s d=>s ||| (2 ^ d ||| ms.getD d 0)) s).testBit i=true→s.testBit i=true∨∃ d∈ds,d=i∨(ms.getD d 0).testBit i=true
 | [],s,h=>.inl h
 | d::ds,s,h=>by
  rw[List.foldl_cons] at h
  rcases aDX h with h | ⟨e,he,h⟩
  ·rw[Nat.testBit_or,Nat.testBit_or,Nat.testBit_two_pow] at h
   simp only[Bool.or_eq_true,decide_eq_true_eq] at h
   rcases h with h | h | h
   ·exact .inl h
   ·exact .inr ⟨d,by simp,.inl h⟩
   ·exact .inr ⟨d,by simp,.inr h⟩
  ·exact .inr ⟨e,by simp[he],h⟩
theorem qU {ms:List Nat}:∀ {l:List Oper} {k j:Nat} {o:Oper},iJ ms k l=true→l[j]?=some o→(∀ d∈qL o,d<k+j)∧ms.getD (k+j) 0=aDW ms (qL o)
 | [],_,_,_,_,h=>by simp at h
 | o::os,k,j,o',h,ho=>by
  simp only[iJ,bKR,bKQ,decide_eq_true_eq,beq_iff_eq] at h
  cases j with
  | zero=>simp only[List.getElem?_cons_zero,bMN.injEq] at ho; subst ho; exact⟨h.1.1,h.1.2⟩
  | succ j =>
   have:=qU h.2 (by simpa using ho)
   rw[bMG,Nat.add_comm 1 j] at this
   exact this
theorem UG {ms:List Nat} {ops:Array Oper} (h:iJ ms 0 ops.toList=true) (i:Nat):∀ (n j:Nat),j<n→j<ops.size→(ms.getD j 0).testBit i=true→sY ops i j:=by
 intro n
 induction n with
 | zero=>intro j hj; omega
 | succ n ih =>
  intro j hj hlt hb
  have ho:ops.toList[j]?=some ops[j]:=by simp[hlt]
  have ho':ops[j]?=some ops[j]:=by simp[hlt]
  obtain⟨h1,h2⟩:=qU h ho
  rw[bKN] at h1 h2
  rw[h2] at hb
  rcases aDX hb with hb | ⟨d,hd,hb⟩
  ·simp at hb
  ·have hdj:=h1 d hd
   simp only[qL,bKX,List.mem_filter] at hd
   obtain⟨e,⟨he,hbd⟩,rfl⟩:=hd
   rcases hb with rfl | hb
   ·exact .one ho' (by simpa using he) hbd rfl
   ·exact .step (ih e.on Om Om hb) ho' (by simpa using he) hbd rfl
theorem OM {ms:List Nat} {i:Nat} {p:bC × Bool}:∀ {l:List (bC × Bool)} {k j:Nat} {q:bC × Bool},yU ms i p k l=true→l[j]?=some q→(ms.getD (k+j) 0).testBit i=true∨acT p q=true
 | [],_,_,_,_,h=>by simp at h
 | x::xs,k,j,q,h,hq=>by
  simp only[yU,bKR,Bool.or_eq_true] at h
  cases j with
  | zero=>simp only[List.getElem?_cons_zero,bMN.injEq] at hq; subst hq; exact h.1
  | succ j =>
   have:=OM h.2 (by simpa using hq)
   rw[bMG,Nat.add_comm 1 j] at this
   exact this
theorem EG {ops:Array Oper} {il:List (bC × Bool)} {K:PF→PH→Prop} {ms:List Nat} (hlen:il.length=ops.size) (hms:iJ ms 0 ops.toList=true) :
  ∀ (l:List (bC × Bool)) (k:Nat) (listed:Array Bool) (F:PF) (H:PH),(∀ j,l[j]?=il[k+j]?)→k+l.length=ops.size→listed.size=ops.size→(∀ j,j<ops.size→(listed.getD j true=true↔j<k))→wC ms k l=true→Hs.le H →
   wpD C Hs S l K F H→wK C Hs S ops il K l.length listed F H
 | [],k,listed,F,H,hl,hk,hls,hlk,_,hle,h=>by
  refine⟨?_,h⟩
  cases hr:Region.ready .any ops listed with
  | nil=>rfl
  | cons x xs =>
   have hx:x∈Region.ready .any ops listed:=by rw[hr]; simp
   obtain⟨h0,o,ho,-⟩:=mem_ready.1 hx
   have hlt:x<ops.size:=(bND.1 ho).1
   have:=(hlk x hlt).2 (by simp at hk; omega)
   rw[h0] at this; cases this
 | p::l,k,listed,F,H,hl,hk,hls,hlk,hB,hle,h=>by
  have hp:il[k]?=some p:=by simpa using (hl 0).symm
  have hks:k<ops.size:=by simp at hk; omega
  simp only[wC,bKR] at hB
  have ho:ops[k]?=some ops[k]:=by simp[hks]
  have hgt:∀ j,j<ops.size→(listed.getD j false=listed.getD j true):=fun j hj=>by
   simp[show j<listed.size by omega]
  have hcl:∀ j,j<ops.size→∀ e∈ops[j]!.after,True:=fun _ _ _ _=>trivial
  have deps:∀ j o,ops[j]?=some o→∀ e∈o.after,Region.binds .any e=true→e.on<j:=by
   intro j o hj e he hb
   have hlt:j<ops.size:=(bND.1 hj).1
   have:=(qU hms (j:=j) (o:=o) (by simpa using hj)).1 e.on (by
    simp only[qL,bKX,List.mem_filter]
    exact⟨e,⟨by simpa using he,hb⟩,rfl⟩)
   omega
  have hready:k∈Region.ready .any ops listed:=by
   rw[mem_ready]
   refine⟨?_,_,ho,fun e he hb=>?_⟩
   ·cases hh:listed.getD k true with
    | false=>rfl
    | true=>have:=(hlk k hks).1 hh; omega
   ·have hd:=deps k _ ho e he hb
    rw[hgt e.on Om]
    exact (hlk e.on Om).2 hd
  have hclosed:mQ ops listed:=by
   intro j o hj hlj e he hb
   have hlt:j<ops.size:=(bND.1 hj).1
   have hd:=deps j o hj e he hb
   rw[hgt j hlt] at hlj
   have:=(hlk j hlt).1 hlj
   rw[hgt e.on Om]
   exact (hlk e.on Om).2 Om
  refine aZE hp l.length listed F H hle hclosed (fun j q hq hne hun hnb=>?_) hready ?_
  ·have hjs:j<ops.size:=by
    have:=(bKV.1 hq).1
    omega
   have hjk:k<j:=by
    rcases Nat.lt_trichotomy j k with h' | h' | h'
    ·have:=(hlk j hjs).2 h'
     rw[hun] at this; cases this
    ·exact (hne h').elim
    ·exact h'
   have hq':l[j-(k+1)]?=some q:=by
    have:=hl (j-k)
    rw[show k+(j-k)=j by omega,hq,show j-k=(j-(k+1))+1 by omega] at this
    simpa using this
   rcases OM hB.1 hq' with hb | hb
   ·rw[show k+1+(j-(k+1))=j by omega] at hb
    exact (hnb (UG hms k (j+1) j Om hjs hb)).elim
   ·exact hb
  ·have h':qY C Hs S p (wpD C Hs S l K) F H:=h
   refine tL (fun F' H' hle' hh=>?_) hle h'
   refine EG hlen hms l (k+1) _ F' H' (fun j=>?_) (by simp at hk; omega) (by simpa using hls) (fun j hj=>?_) hB.2 hle' hh
   ·have:=hl (j+1)
    rw[show k+(j+1)=k+1+j by omega] at this
    simpa using this
   ·by_cases hjk:k=j
    ·subst hjk
     simp[show k<listed.size by omega]
    ·rw[getD_set_ne true hjk,hlk j hj]
     omega
end
open Go Go.RowKit
def azL (ms cls:List Nat) (i:Nat):Bool :=
 cls.getD i 0 != 0||(bJU cls.length).any fun j=>(cls.getD j 0==2||cls.getD j 0==3||cls.getD j 0==4)&&!(ms.getD j 0).testBit i&&!(ms.getD i 0).testBit j
def tQ (ops:Array Oper) (is:List bC):List (bC × Bool) :=
 let ms:=uS ops.toList []
 let cls:=is.map fun i=>i.op.cls
 is.zip ((bJU is.length).map (azL ms cls))
namespace Tbl
variable (T:Tbl)
def drawn (n:Nat) (ops:Array Oper):Option (List (bC × Bool)) :=
 match T.oM n ops ops.toList with
 | some is=>if T.P.follows .mixedOrders&&a6K ops (tQ ops is) then some (tQ ops is) else none
 | none=>none
end Tbl
section
variable {C:Ctx} {Hs:PH} {S:Spec} {T:Tbl} {n:Nat}
section
variable {E:Env} {F:PF} {H:PH} {a:Act} {w:World}
theorem lK.after {E':Env} {H':PH} {w':World} {K:PF→PH→Prop} {next:Act→World→Prop} (h:lK n E H w K next) (hE:Ext E H w E' H' w'):lK n E' H' w' K next :=
 fun E2 F2 H2 a2 w2 hA hW hX hK=>h E2 F2 H2 a2 w2 hA hW (hE.trans hX) hK
theorem LL {t:Nat} {b:Bool} (hA:dV n E F a) (h:F t=some (.bool b)):a.tmps[t]?=some (.bool b):=by
 have r:=hA.t t _ h
 rw[Array.getD_eq_getD_getElem?] at r
 cases hg:a.tmps[t]? with
 | none=>rw[hg] at r; simp[undef] at r; cases r
 | some v=>rw[hg] at r; simp at r; cases r; rfl
theorem GX {ops:Array Oper} {o:Oper} {i:bC} (h:T.SL n ops o=some i):(T.op o=some i.op∨i.op=.stuck)∧o.dst=i.dst∧o.dst.all (·<n)=true ∧
  ((o.guard=none∧i.guard=none)∨∃ j want t,o.guard=some (j,want)∧i.guard=some (t,want)∧(ops[j]?).bind (·.dst)=some t):=by
 unfold Tbl.SL at h
 have hp:T.op o=some ((T.op o).getD .stuck)∨(T.op o).getD .stuck=.stuck:=by
  cases T.op o
  ·exact .inr rfl
  ·exact .inl rfl
 ·generalize (T.op o).getD .stuck=p at *
  split at h
  ·rename_i hd
   split at h
   ·rename_i hg
    cases h
    exact⟨hp,rfl,hd,.inl ⟨hg,rfl⟩⟩
   ·rename_i j want hg
    split at h
    ·rename_i t ht
     cases h
     exact⟨hp,rfl,hd,.inr ⟨j,want,t,hg,rfl,ht⟩⟩
    ·cases h
  ·cases h
theorem CD {ops:Array Oper} {o:Oper} {j t:Nat} {want b:Bool} (hg:o.guard=some (j,want)) (ht:(ops[j]?).bind (·.dst)=some t) (hb:a.tmps[t]?=some (.bool b)):Region.wanted o (yielded ops a.tmps)=(b==want):=by
 simp[Region.wanted,hg,yielded,ht,hb]
end
theorem sB {E:Env}:aY E (.tup []) undef:=.tup #[] rfl (by simp)
theorem PK {n:Nat} {E:Env} {F:PF} {a:Act} {t:Nat} (hA:dV n E F a) (h:F t=some (.tup [])):a.tmps.getD t undef=undef:=by
 have:=hA.t t _ h
 generalize a.tmps.getD t undef=v at this
 cases this with
 | tup vs hl hr =>
  have:vs=#[]:=by simpa using hl
  subst this; rfl
theorem xL {ops:Array Oper} {a:Act} {o:Oper} {j t:Nat} {want:Bool} (hg:o.guard=some (j,want)) (ht:(ops[j]?).bind (·.dst)=some t) (hb:a.tmps.getD t undef=undef):Region.wanted o (yielded ops a.tmps)=false:=by
 simp only[Region.wanted,hg,yielded,ht]
 rw[Array.getD_eq_getD_getElem?] at hb
 cases h:a.tmps[t]? with
 | none=>simp[h]
 | some v =>
  rw[h] at hb
  simp only[bMJ] at hb
  subst hb
  simp[h,undef]
theorem pS {C:Ctx} {E:Env} {F:PF} {H:PH} {a:Act} {w:World} (hCP:C.P=T.P) (hCN:C.num=T.num) {o:Oper} {p:POp} {d:Option Nat} {K:PF→PH→Prop} {Q:Exit→Act→World→Prop} {next:Act→World→Prop} (hc:T.op o=some p∨p=.stuck) (hd:o.dst=d) (hlt:o.dst.all (·<n)=true)
  (h:wpOp C p d K F H) (hA:dV n E F a) (hW:bM E H w) (hN:E.num=T.num) (bIR:lK n E H w K next):o.wp T.P a w next Q:=by
 rcases hc with hc | rfl
 ·exact bgZ hCP hCN hc hd hlt h hA hW hN bIR
 ·obtain⟨v,hv,-⟩:=h
  cases hv
theorem SO (H:PH) (D:List Nat):(H.only D).le H:=by
 intro o x ho
 rw[pR] at ho
 split at ho
 ·exact ho
 ·cases ho
theorem IA {op:POp} {F:PF} {H:PH} {st:Bool} {d:Option Nat} {K:PF→PH→Prop} (hle:Hs.le H) (h:(op.kind F).run C Hs S st (fun v H'=>K (F.put d v) H') H):wpOp C op d K F H:=by
 have hgen:(if op.fX then Kind.new (cQ op F) else if op.dT then .write (fun H K=>bU op F H K) else .calm (aO op F)).run C Hs S st (fun v H'=>K (F.put d v) H') H →
   (if op.fX then lD (cQ op F) d K F H else if op.dT then bU op F H (fun r H'=>K (F.put d r) H') else bP (aO op F H) d K F H):=by
  intro h
  by_cases h1:op.fX=true
  ·rw[if_pos h1] at h ⊢; exact h
  ·rw[if_neg h1] at h ⊢
   by_cases h2:op.dT=true
   ·rw[if_pos h2] at h ⊢
    have h':bU op F H fun r H'=>Hs.le H'∧K (F.put d r) H':=h
    exact xZ (fun v H' hh=>hh.2) h'
   ·rw[if_neg h2] at h ⊢
    obtain⟨v,hv,hK⟩:=h
    refine⟨v,?_,hK⟩
    cases st
    ·exact hv
    ·exact afB hle hv
 have bIW:∀ name vs0,(Kind.call name vs0).run C Hs S st (fun v H'=>K (F.put d v) H') H→qG C name vs0 d K F H:=by
  intro name vs0 h
  obtain⟨vs,D,R,h1,h2,h3,h4,h5,h6⟩:=h
  exact⟨vs,H.only D,R (H.only D),h1,SO H D,h4,fun r H' a b=>(h6 r H' a b).2⟩
 cases op
 case call name az=>exact .inl (by simpa using bIW _ _ h)
 case bJA x az =>
  simp only[POp.kind] at h
  split at h
  ·rename_i name cs hx
   exact⟨name,cs,hx,.inl (bIW _ _ h)⟩
  ·exact h.elim
 case insert sh x k v =>
  obtain⟨o,sh',key,vv,g,h1,h2,h3,-,h5⟩:=h
  show bU (.insert sh x k v) F H (fun r H'=>K (F.put d r) H')
  split at h1
  ·rename_i o' kv vv' e1 e2 e3
   simp only[bKB,Prod.mk.injEq] at h1
   obtain⟨key',e4,rfl,rfl,rfl,rfl⟩:=h1
   simp only[bU,e1,e2,e3,h2,e4]
   exact⟨trivial,h3,h5⟩
  ·cases h1
 all_goals exact hgen h
theorem anL (hCP:C.P=T.P) (hCN:C.num=T.num) {ops:Array Oper} {is:List bC} {fl:List Bool} (hfl:fl.length=is.length) (his:∀ (i:Nat) o,ops[i]?=some o→∃ p,is[i]?=some p∧T.SL n ops o=some p)
  {K:PF→PH→Prop} {Q:Exit→Act→World→Prop} :
  ∀ (fuel:Nat) (listed:Array Bool) (E:Env) (F:PF) (H:PH) (a:Act) (w:World),wK C Hs S ops (is.zip fl) K fuel listed F H→Hs.le H→dV n E F a→bM E H w→E.num=T.num→lK n E H w K (Q .normal) →
   wpAny T.P .any ops Q fuel listed a w:=by
 intro fuel
 induction fuel with
 | zero=>intro listed E F H a w h hle hA hW hN hT; exact⟨h.1,hT E F H a w hA hW (.refl E H w) h.2⟩
 | succ fuel ih =>
  intro listed E F H a w h hle hA hW hN hT
  refine⟨fun e=>hT E F H a w hA hW (.refl E H w) (h.1 e),fun i hi=>?_⟩
  obtain⟨-,o,ho,-⟩:=mem_ready.1 hi
  obtain⟨p,hp,hin⟩:=his i o ho
  have hlt:i<is.length:=(bKV.1 hp).1
  have hz:(is.zip fl)[i]?=some (p,fl[i]'Om):=by
   rw[List.getElem?_zip_eq_some]
   exact⟨hp,by simp⟩
  have bJH:=h.2 i hi _ hz
  obtain⟨hop,hd,hdn,hg⟩:=GX hin
  have hTk:lK n E H w (fun F' H'=>Hs.le H'∧wK C Hs S ops (is.zip fl) K fuel (listed.setIfInBounds i true) F' H') (wpAny T.P .any ops Q fuel (listed.setIfInBounds i true)) :=
   fun E' F' H' a' w' hA' hW' hE hK=>ih _ E' F' H' a' w' hK.2 hK.1 hA' hW' (hE.env.num.trans hN) (hT.after hE)
  have bIZ:=tL (K':=fun F' H'=>Hs.le H'∧wK C Hs S ops (is.zip fl) K fuel (listed.setIfInBounds i true) F' H') (fun F' H' x y=>⟨x,y⟩) hle bJH
  unfold qY bC.kind at bIZ
  unfold Go.wpOp
  simp only[ho]
  rcases hg with ⟨hg1,hg2⟩ | ⟨j,want,t,hg1,hg2,ht⟩
  ·rw[if_pos (by simp[Region.wanted,hg1])]
   simp only[hg2] at bIZ
   exact .inl (pS hCP hCN hop hd hdn (IA hle bIZ) hA hW hN hTk)
  ·simp only[hg2] at bIZ
   split at bIZ
   ·rename_i b hb
    rw[CD hg1 ht (LL hA hb)]
    split at bIZ
    ·rename_i hbw
     rw[if_pos (by simp[hbw])]
     exact .inl (pS hCP hCN hop hd hdn (IA hle bIZ) hA hW hN hTk)
    ·rename_i hbw
     rw[if_neg (by simpa using hbw)]
     obtain⟨v,hv,hK⟩:=bIZ
     cases hv
     exact hTk E _ H _ w (by rw[← hd]; exact hA.put hdn sB) hW (.refl E H w) hK
   ·rename_i hb
    rw[xL hg1 ht (PK hA hb),if_neg (by simp)]
    obtain⟨v,hv,hK⟩:=bIZ
    cases hv
    exact hTk E _ H _ w (by rw[← hd]; exact hA.put hdn sB) hW (.refl E H w) hK
   ·exact bIZ.elim
theorem NH {ops:Array Oper}:∀ {l:List Oper} {is:List bC},T.oM n ops l=some is→is.length=l.length∧∀ (i:Nat) o,l[i]?=some o→∃ p,is[i]?=some p∧T.SL n ops o=some p
 | [],is,h=>by
  simp[Tbl.oM] at h; subst h
  exact⟨rfl,fun i o h=>by simp at h⟩
 | o::l,is,h=>by
  simp only[Tbl.oM] at h
  split at h
  ·rename_i p ps hp hps
   cases h
   obtain⟨h1,h2⟩:=NH hps
   refine⟨by simp[h1],fun i o' ho'=>?_⟩
   cases i with
   | zero=>simp at ho'; subst ho'; exact⟨p,rfl,hp⟩
   | succ i=>obtain⟨q,a,b⟩:=h2 i o' (by simpa using ho'); exact⟨q,by simpa using a,b⟩
  ·cases h
theorem a0A (hCP:C.P=T.P) (hCN:C.num=T.num) {id:Nat} {ops:Array Oper} {il:List (bC × Bool)} (hil:T.drawn n ops=some il) {K:PF→PH→Prop} {Q:Exit→Act→World→Prop} {E:Env} {F:PF} {H:PH} {a:Act} {w:World}
  (h:∃ Hs S,PH.le Hs H∧wpD C Hs S il K F H) (hA:dV n E F a) (hW:bM E H w) (hN:E.num=T.num) (hT:lK n E H w K (Q .normal)):(Code.region id ops true).wp T.P Q a w:=by
 obtain⟨Hs,S,hle,h⟩:=h
 unfold Tbl.drawn at hil
 split at hil
 ·rename_i is his
  split at hil
  ·rename_i bJC
   cases hil
   simp only[bKR,a6K] at bJC
   obtain⟨hm,hms,hps⟩:=bJC
   obtain⟨hlen,hat⟩:=NH his
   have hlen':is.length=ops.size:=by simpa using hlen
   refine wp_region_any hm ?_
   have hzl:(tQ ops is).length=ops.size:=by simp[tQ,hlen']
   have h':=EG (C:=C) (Hs:=Hs) (S:=S) (K:=K) hzl hms (tQ ops is) 0 (bLO ops.size false) F H (by simp) (by simp[hzl]) (by simp) (fun j hj=>by simp[hj]) hps hle h
   rw[hzl] at h'
   exact anL hCP hCN (by simp) (fun i o ho=>hat i o (by simpa using ho)) ops.size _ E F H a _ h' hle hA hW.drew hN (fun E' F' H' a' w' g1 g2 g3 g4=>hT E' F' H' a' w' g1 g2 g3.amM g4)
  ·cases hil
 ·cases hil
end
end Go.PM
namespace Go.PM
open Go Go.RowKit
def POp.brF:POp→Bool
 | .load .. | .lookup .. | .bIF ..=>true
 | _=>false
def POp.bmZ:POp→Bool
 | .store ..=>true
 | _=>false
def agK (ms:List Nat) (m n:Nat):Bool:=(bJU n).all fun j=>decide (j<m)||(bJU m).all fun i=>(ms.getD j 0).testBit i
def cutAt (ms:List Nat) (is:List bC):Option Nat :=
 let cls:=is.map fun i=>i.op.cls
 (bJU is.length).find? fun m=>(match is[m]? with | some i=>i.op.bmZ&&i.guard.isNone | none=>false)&&agK ms m is.length&&(bJU m).any fun i=>match is[i]? with | some x=>x.op.brF&&azL ms cls i | none=>false
def jW (ms:List Nat) (k:Nat) (is:List bC):List (bC × Bool) :=
 let cls:=is.map fun i=>i.op.cls
 is.zip ((bJU is.length).map (azL (ms.drop k |>.map (· >>> k)) cls))
namespace Tbl
variable (T:Tbl)
def azB (n:Nat) (ops:Array Oper):Option aC :=
 match T.oM n ops ops.toList with
 | some is =>
  let ms:=uS ops.toList []
  match cutAt ms is with
  | none=>(T.drawn n ops).map .draw
  | some m =>
   let A:=jW ms 0 (is.take m)
   let B:=jW ms m (is.drop m)
   if T.P.follows .mixedOrders&&iJ ms 0 ops.toList&&agK ms m is.length&&wC ms 0 A&&wC ms m B then some (.seq (.draw A) (.draw B)) else none
 | none=>none
def code (n:Nat):Code→Option aC
 | .skip=>some .skip
 | .region _ ops d=>if d then T.azB n ops else (T.oM n ops ops.toList).map .region
 | .seq a b=>match code n a,code n b with
  | some a,some b=>some (.seq a b)
  | _,_=>none
 | .cond c a b=>match T.opd c,code n a,code n b with
  | some c,some a,some b=>some (.cond c a b)
  | _,_,_=>none
 | .block id c=>(code n c).map (.block id)
 | .loop c=>(code n c).map .loop
 | .exit id=>some (.exit id)
 | .ret=>some .ret
 | .scope c=>code n c
 | .label _=>some .skip
 | _=>none
end Tbl
theorem NI {ms:List Nat}:∀ {l:List Oper} {k m:Nat},iJ ms k l=true→iJ ms k (l.take m)=true
 | [],_,_,_=>by simp[iJ]
 | o::l,k,0,_=>by simp[iJ]
 | o::l,k,m+1,h=>by
  simp only[iJ,bKR,List.take_succ_cons] at h ⊢
  exact⟨h.1,NI h.2⟩
theorem sN {listed:Array Bool} {m f i:Nat} {d:Bool} (hs:listed.size=m) (h:i<m):(listed++bLO f false).getD i d=listed.getD i d:=by
 simp only[Array.getD_eq_getD_getElem?]
 rw[Array.getElem?_append_left Om]
section
variable {C:Ctx} {Hs:PH} {S:Spec} {T:Tbl} {n:Nat}
theorem boI {ops:Array Oper} {m i:Nat} (hm:m≤ops.size):(ops.extract 0 m)[i]?=if i<m then ops[i]? else none:=by
 rw[Array.getElem?_extract]
 split
 ·rename_i h; rw[if_pos Om]; simp
 ·rename_i h; rw[if_neg Om]
theorem a2K {ops:Array Oper} {ms:List Nat} {m:Nat} (hm:m≤ops.size) (hms:iJ ms 0 ops.toList=true) (ht:agK ms m ops.size=true) {listed:Array Bool} {f:Nat} (hs:listed.size=m) (hf:m+f=ops.size) (hc:mQ ops (listed++bLO f false))
  (hun:∃ i,i<m∧listed.getD i true=false) {i:Nat} (hi:i∈Region.ready .any ops (listed++bLO f false)):i<m∧i∈Region.ready .any (ops.extract 0 m) listed:=by
 obtain⟨h0,o,ho,bJG⟩:=mem_ready.1 hi
 have hio:i<ops.size:=(bND.1 ho).1
 have him:i<m:=by
  rcases bKM i m with h | h
  ·exact h
  ·exfalso
   obtain⟨u,hu,hul⟩:=hun
   have hb:(ms.getD i 0).testBit u=true:=by
    have:=bKQ.1 ht i (bLI.2 hio)
    rw[decide_eq_false Om,Bool.false_or] at this
    exact bKQ.1 this u (bLI.2 hu)
   have hbef:=UG hms u (i+1) i Om hio hb
   refine hc.aqE hbef ?_ hi
   rw[sN hs hu]
   have:u<listed.size:=by omega
   simp[this] at hul ⊢
   exact hul
 refine⟨him,mem_ready.2 ⟨?_,o,by rw[boI hm,if_pos him]; exact ho,fun e he hb=>?_⟩⟩
 ·rw[sN hs him] at h0; exact h0
 ·have hd:=(qU hms (j:=i) (o:=o) (by simpa using ho)).1 e.on (by
   simp only[qL,bKX,List.mem_filter]
   exact⟨e,⟨by simpa using he,hb⟩,rfl⟩)
  have:=bJG e he hb
  rw[sN hs Om] at this
  exact this
theorem aOA {ops:Array Oper} {ms:List Nat} (hms:iJ ms 0 ops.toList=true) {listed:Array Bool} (hs:listed.size=ops.size):∀ (u:Nat),u<ops.size→listed.getD u true=false→∃ i,i∈Region.ready .any ops listed:=by
 intro u
 induction u using Nat.strongRecOn with
 | ind u ih =>
  intro hu hl
  by_cases h:∃ w,w<u∧listed.getD w true=false
  ·obtain⟨w,hw,hwl⟩:=h
   exact ih w hw Om hwl
  ·refine⟨u,mem_ready.2 ⟨hl,ops[u],by simp[hu],fun e he hb=>?_⟩⟩
   have hd:=(qU hms (j:=u) (o:=ops[u]) (by simp[hu])).1 e.on (by
    simp only[qL,bKX,List.mem_filter]
    exact⟨e,⟨by simpa using he,hb⟩,rfl⟩)
   have hlt:e.on<u:=by omega
   cases hh:listed.getD e.on true with
   | false=>exact (h ⟨e.on,hlt,hh⟩).elim
   | true =>
    have:e.on<listed.size:=by omega
    simp[this] at hh ⊢
    exact hh
def unl (listed:Array Bool):Nat:=listed.toList.countP fun b=>!b
theorem biY {listed:Array Bool} {m:Nat} (hs:listed.size=m) (h:unl listed=0):listed=bLO m true:=by
 apply Array.ext
 ·simp[hs]
 ·intro i h1 h2
  have:listed[i]∈listed.toList:=by simp
  have h3:=List.countP_eq_zero.1 h _ this
  simpa using h3
theorem bpQ {listed:Array Bool} {i:Nat} (h:listed.getD i true=false):unl (listed.setIfInBounds i true)+1=unl listed:=by
 have hi:i<listed.size:=by
  rcases bKM i listed.size with h' | h'
  ·exact h'
  ·simp[Array.getElem?_eq_none h'] at h
 have hv:listed[i]=false:=by simpa [hi] using h
 unfold unl
 rw[Array.toList_setIfInBounds]
 have hi':i<listed.toList.length:=by simpa using hi
 have hv':listed.toList[i]=false:=by simpa using hv
 conv=>rhs; rw[← bMF i listed.toList,bLP hi',hv']
 rw[List.set_eq_take_append_cons_drop,if_pos hi',List.countP_append,List.countP_append,List.countP_cons,List.countP_cons]
 simp only[bKC,bKI,if_true,bMU,if_false]
 omega
theorem bpP {listed:Array Bool} {k:Nat} (h:unl listed=k+1):∃ u,u<listed.size∧listed.getD u true=false:=by
 have h1:0<listed.toList.countP fun b=>!b:=by unfold unl at h; omega
 obtain⟨b,hb,hf⟩:=List.countP_pos_iff.1 h1
 obtain⟨u,hu,rfl⟩:=bMA hb
 have hu':u<listed.size:=by simpa using hu
 exact⟨u,hu',by simpa [hu'] using hf⟩
theorem aNY (hCP:C.P=T.P) (hCN:C.num=T.num) {ops:Array Oper} {ms:List Nat} {m f:Nat} {A:List (bC × Bool)} (hm:m≤ops.size) (hf:m+f=ops.size) (hms:iJ ms 0 ops.toList=true) (ht:agK ms m ops.size=true)
  (his:∀ (i:Nat) o,i<m→ops[i]?=some o→∃ p b,A[i]?=some (p,b)∧T.SL n ops o=some p) {KA:PF→PH→Prop} {Q:Exit→Act→World→Prop} :
  ∀ (fuel:Nat) (listed:Array Bool) (E:Env) (F:PF) (H:PH) (a:Act) (w:World),wK C Hs S (ops.extract 0 m) A KA fuel listed F H→listed.size=m→mQ ops (listed++bLO f false)→unl listed=fuel→Hs.le H→dV n E F a→bM E H w→E.num=T.num →
   lK n E H w KA (wpAny T.P .any ops Q f (bLO m true++bLO f false))→wpAny T.P .any ops Q (fuel+f) (listed++bLO f false) a w:=by
 intro fuel
 induction fuel with
 | zero =>
  intro listed E F H a w h hs hc hu hle hA hW hN hT
  rw[biY hs hu,bKN]
  exact hT E F H a w hA hW (.refl E H w) h.2
 | succ fuel ih =>
  intro listed E F H a w h hs hc hu hle hA hW hN hT
  obtain⟨u,hu1,hu2⟩:=bpP hu
  have hun:∃ i,i<m∧listed.getD i true=false:=⟨u,by omega,hu2⟩
  rw[show fuel+1+f=(fuel+f)+1 by omega]
  refine⟨fun e=>?_,fun i hi=>?_⟩
  ·obtain⟨i,hi⟩:=aOA hms (listed:=listed++bLO f false) (by simp; omega) u Om (by rw[sN hs Om]; exact hu2)
   rw[e] at hi; cases hi
  obtain⟨him,hi'⟩:=a2K hm hms ht hs hf hc hun hi
  obtain⟨-,o,ho,-⟩:=mem_ready.1 hi
  have hl0:=(mem_ready.1 hi').1
  obtain⟨p,b,hz,hin⟩:=his i o him ho
  have bJH:=h.2 i hi' _ hz
  obtain⟨hop,hd,hdn,hg⟩:=GX hin
  have bJM:(listed++bLO f false).setIfInBounds i true=listed.setIfInBounds i true++bLO f false:=by
   apply Array.ext
   ·simp
   ·intro j h1 h2
    rw[Array.getElem_setIfInBounds (by simpa using h1)]
    by_cases hji:i=j
    ·subst hji
     rw[if_pos rfl,Array.getElem_append_left (by simp; omega),Array.getElem_setIfInBounds Om,if_pos rfl]
    ·rw[if_neg hji]
     rcases bKM j listed.size with hj | hj
     ·rw[Array.getElem_append_left hj,Array.getElem_append_left (by simpa using hj),Array.getElem_setIfInBounds Om,if_neg hji]
     ·rw[Array.getElem_append_right hj,Array.getElem_append_right (by simpa using hj)]
      simp
  have hcs:=hc.set hi
  rw[bJM] at hcs ⊢
  have hus:=bpQ hl0
  have hTk:lK n E H w (fun F' H'=>Hs.le H'∧wK C Hs S (ops.extract 0 m) A KA fuel (listed.setIfInBounds i true) F' H') (wpAny T.P .any ops Q (fuel+f) (listed.setIfInBounds i true++bLO f false)) :=
   fun E' F' H' a' w' hA' hW' hE hK=>ih _ E' F' H' a' w' hK.2 (by simpa using hs) hcs Om hK.1 hA' hW' (hE.env.num.trans hN) (hT.after hE)
  have bIZ:=tL (K':=fun F' H'=>Hs.le H'∧wK C Hs S (ops.extract 0 m) A KA fuel (listed.setIfInBounds i true) F' H') (fun F' H' x y=>⟨x,y⟩) hle bJH
  unfold qY bC.kind at bIZ
  unfold Go.wpOp
  simp only[ho]
  rcases hg with ⟨hg1,hg2⟩ | ⟨j,want,t,hg1,hg2,ht⟩
  ·rw[if_pos (by simp[Region.wanted,hg1])]
   simp only[hg2] at bIZ
   exact .inl (pS hCP hCN hop hd hdn (IA hle bIZ) hA hW hN hTk)
  ·simp only[hg2] at bIZ
   split at bIZ
   ·rename_i b hb
    rw[CD hg1 ht (LL hA hb)]
    split at bIZ
    ·rename_i hbw
     rw[if_pos (by simp[hbw])]
     exact .inl (pS hCP hCN hop hd hdn (IA hle bIZ) hA hW hN hTk)
    ·rename_i hbw
     rw[if_neg (by simpa using hbw)]
     obtain⟨v,hv,hK⟩:=bIZ
     cases hv
     exact hTk E _ H _ w (by rw[← hd]; exact hA.put hdn sB) hW (.refl E H w) hK
   ·rename_i hb
    rw[xL hg1 ht (PK hA hb),if_neg (by simp)]
    obtain⟨v,hv,hK⟩:=bIZ
    cases hv
    exact hTk E _ H _ w (by rw[← hd]; exact hA.put hdn sB) hW (.refl E H w) hK
   ·exact bIZ.elim
theorem aNL (hCP:C.P=T.P) (hCN:C.num=T.num) {id:Nat} {ops:Array Oper} {pc:aC} (hpc:T.azB n ops=some pc) {K:cN} {Q:Exit→Act→World→Prop} {E:Env} {F:PF} {H:PH} {a:Act} {w:World}
  (h:pc.wp C K F H) (hA:dV n E F a) (hW:bM E H w) (hN:E.num=T.num) (hT:lK n E H w (K .normal) (Q .normal)):(Code.region id ops true).wp T.P Q a w:=by
 unfold Tbl.azB at hpc
 split at hpc
 ·rename_i is his
  simp only at hpc
  split at hpc
  ·rw[bKB] at hpc
   obtain⟨il,hil,rfl⟩:=hpc
   exact a0A hCP hCN hil h hA hW hN hT
  ·rename_i m hcut
   split at hpc
   ·rename_i bJC
    cases hpc
    simp only[bKR] at bJC
    obtain⟨⟨⟨⟨hmo,hms⟩,htl⟩,hpA⟩,hpB⟩:=bJC
    obtain⟨hlen,hat⟩:=NH his
    have hlen':is.length=ops.size:=by simpa using hlen
    rw[hlen'] at htl
    obtain⟨Hs,S,hle,h⟩:=h
    have hmlt:m<ops.size:=by
     have:=List.mem_of_find?_eq_some hcut
     rw[bLI] at this; omega
    have lA:(jW (uS ops.toList []) 0 (is.take m)).length=m:=by simp[jW]; omega
    have lB:(jW (uS ops.toList []) m (is.drop m)).length=ops.size-m:=by simp[jW]; omega
    generalize hAA:jW (uS ops.toList []) 0 (is.take m)=A at *
    generalize hBB:jW (uS ops.toList []) m (is.drop m)=B at *
    generalize hmm:uS ops.toList []=ms at *
    refine wp_region_any hmo ?_
    have hsz:(ops.extract 0 m).size=m:=by simp; omega
    have hms':iJ ms 0 (ops.extract 0 m).toList=true:=by
     rw[show (ops.extract 0 m).toList=ops.toList.take m by simp]
     exact NI hms
    have h1:=EG (C:=C) (Hs:=Hs) (S:=S) (K:=iD C ((aC.draw B).wp C) K .normal) (ops:=ops.extract 0 m) (il:=A) (ms:=ms) (by rw[lA,hsz]) hms' A 0 (bLO m false) F H (by simp) (by rw[hsz]; omega) (by simp; omega) (fun j hj=>by
     rw[hsz] at hj; simp[hj]) hpA hle h
    rw[lA] at h1
    have key:=aNY (n:=n) hCP hCN (f:=ops.size-m) Om Om hms htl (fun i o him ho=>?_) (Q:=Q) m (bLO m false) E F H a _ h1 (by simp) ?_ ?_ hle hA hW.drew hN ?_
    ·rw[show m+(ops.size-m)=ops.size by omega] at key
     have e:bLO m false++bLO (ops.size-m) false=bLO ops.size false:=by
      rw[Array.replicate_append_replicate,show m+(ops.size-m)=ops.size by omega]
     rw[e] at key
     exact key
    ·obtain⟨p,hp,hin⟩:=hat i o (by simpa using ho)
     have hpl:=(bKV.1 hp).1
     have hiA:i<A.length:=by omega
     refine⟨p,A[i].2,?_,hin⟩
     rw[bKD hiA]
     congr 1
     refine Prod.ext ?_ rfl
     subst hAA
     have hpi:is[i]=p:=(bKV.1 hp).2
     simp[jW,hpi]
    ·intro j o hj hl
     exfalso
     have hjs:j<ops.size:=(bND.1 hj).1
     have e:bLO m false++bLO (ops.size-m) false=bLO ops.size false:=by
      rw[Array.replicate_append_replicate,show m+(ops.size-m)=ops.size by omega]
     rw[e] at hl
     simp[hjs] at hl
    ·unfold unl
     simp[List.countP_replicate]
    ·intro E' F' H' a' w' hA' hW' hE hK
     obtain⟨Hs2,S2,hle2,h2⟩:=hK
     have hz:(A++B).length=ops.size:=by rw[bKA]; omega
     have h3:=EG (C:=C) (Hs:=Hs2) (S:=S2) (K:=K .normal) (ops:=ops) (il:=A++B) (ms:=ms) hz hms B m (bLO m true++bLO (ops.size-m) false) F' H' (fun j=>by rw[bLS Om]; congr 1; omega) Om (by simp; omega) (fun j hj=>by
      simp only[Array.getD_eq_getD_getElem?,Array.getElem?_append,Array.size_replicate,Array.getElem?_replicate]
      by_cases hjm:j<m
      ·simp[hjm]
      ·simp[hjm,show j-m<ops.size-m by omega]) hpB hle2 h2
     rw[lB] at h3
     have hABz:A++B=is.zip ((A++B).map (·.2)):=by
      refine List.ext_getElem? fun j=>?_
      rcases bKM j ops.size with hj | hj
      ·have hjAB:j<(A++B).length:=by omega
       have hji:j<is.length:=by omega
       rw[bKD hjAB,bKD (by simp; omega),List.getElem_zip,bMC]
       congr 1
       refine Prod.ext ?_ rfl
       simp only
       rcases bKM j m with hjm | hjm
       ·rw[List.getElem_append_left Om]
        subst hAA
        simp[jW]
       ·rw[List.getElem_append_right Om]
        subst hBB
        have:m+(j-A.length)=j:=by omega
        simp[jW,this]
      ·rw[bLG Om,bLG (by simp; omega)]
     rw[hABz] at h3
     exact anL hCP hCN (by simp; omega) (fun i o ho=>hat i o (by simpa using ho)) (ops.size-m) _ E' F' H' a' w' h3 hle2 hA' hW' (hE.env.num.trans hN) (fun E3 F3 H3 a3 w3 g1 g2 g3 g4=>hT E3 F3 H3 a3 w3 g1 g2 (hE.trans g3).amM g4)
   ·cases hpc
 ·cases hpc
end
end Go.PM
namespace Go.PM
open Go Go.RowKit
def lJ.out:lJ→Exit
 | .normal=>.normal
 | .exit id=>.exit id
 | .ret=>.ret
section
variable {T:Tbl} {n:Nat} {E:Env} {F:PF} {H:PH} {a:Act} {w:World}
theorem aqW {C:Ctx} (hCP:C.P=T.P) (hCN:C.num=T.num) {ops:Array Oper} {K:PF→PH→Prop} {Q:Exit→Act→World→Prop}:∀ (l:List Oper) (il:List bC) (E:Env) (F:PF) (H:PH) (a:Act) (w:World),
  T.oM n ops l=some il→wpOps C il K F H→dV n E F a→bM E H w→E.num=T.num→lK n E H w K (Q .normal)→wpList T.P ops Q l a w
 | [],il,E,F,H,a,w,h1,h2,hA,hW,_,hT=>by
  simp[Tbl.oM] at h1
  subst h1
  exact hT E F H a w hA hW (.refl E H w) h2
 | o::l,il,E,F,H,a,w,h1,h2,hA,hW,hN,hT=>by
  simp only[Tbl.oM] at h1
  split at h1
  ·rename_i i is hi his
   cases h1
   obtain⟨hop,hd,hlt,hg⟩:=GX hi
   have bIR:∀ (E':Env) (F':PF) (H':PH) (a':Act) (w':World),E'.num=T.num→dV n E' F' a'→bM E' H' w'→Ext E H w E' H' w'→wpOps C is K F' H'→wpList T.P ops Q l a' w' :=
    fun E' F' H' a' w' hN' hA' hW' hE hK=>aqW hCP hCN l is E' F' H' a' w' his hK hA' hW' hN' (hT.after hE)
   have hTk:lK n E H w (wpOps C is K) (wpList T.P ops Q l):=fun E' F' H' a' w' hA' hW' hE hK=>bIR E' F' H' a' w' (hE.env.num.trans hN) hA' hW' hE hK
   unfold wpList
   simp only[wpOps] at h2
   rcases hg with ⟨hg1,hg2⟩ | ⟨j,want,t,hg1,hg2,ht⟩
   ·rw[hg2] at h2
    rw[if_pos (by simp[Region.wanted,hg1])]
    exact .inl (pS hCP hCN hop hd hlt h2 hA hW hN hTk)
   ·rw[hg2] at h2
    simp only at h2
    split at h2
    ·rename_i b hb
     rw[CD hg1 ht (LL hA hb)]
     split at h2
     ·rename_i hbw
      rw[if_pos (by simp[hbw])]
      exact .inl (pS hCP hCN hop hd hlt h2 hA hW hN hTk)
     ·rename_i hbw
      rw[if_neg (by simpa using hbw)]
      exact bIR E _ H _ w hN (by rw[← hd]; exact hA.put hlt sB) hW (.refl E H w) h2
    ·rename_i hb
     rw[xL hg1 ht (PK hA hb),if_neg (by simp)]
     exact bIR E _ H _ w hN (by rw[← hd]; exact hA.put hlt sB) hW (.refl E H w) h2
    ·exact h2.elim
  ·cases h1
def aaE (n:Nat) (E:Env) (H:PH) (w:World) (K:cN) (Q:Exit→Act→World→Prop):Prop :=
 ∀ e E' F' H' a' w',dV n E' F' a'→bM E' H' w'→Ext E H w E' H' w'→K e F' H'→Q e.out a' w'
theorem aaE.after {E':Env} {H':PH} {w':World} {K:cN} {Q:Exit→Act→World→Prop} (h:aaE n E H w K Q) (hE:Ext E H w E' H' w'):aaE n E' H' w' K Q :=
 fun e E2 F2 H2 a2 w2 hA hW hX hK=>h e E2 F2 H2 a2 w2 hA hW (hE.trans hX) hK
theorem aZS {C:Ctx} (hCP:C.P=T.P) (hCN:C.num=T.num):∀ (c:Code) (pc:aC) (K:cN) (Q:Exit→Act→World→Prop) (E:Env) (F:PF) (H:PH) (a:Act) (w:World),
  T.code n c=some pc→pc.wp C K F H→dV n E F a→bM E H w→E.num=T.num→aaE n E H w K Q→c.wp T.P Q a w:=by
 intro c
 induction c with
 | skip =>
  intro pc K Q E F H a w hc hK hA hW hN hT
  simp[Tbl.code] at hc; subst hc
  exact wp_skip (hT .normal E F H a w hA hW (.refl E H w) hK)
 | region id ops d =>
  intro pc K Q E F H a w hc hK hA hW hN hT
  simp only[Tbl.code] at hc
  split at hc
  ·rename_i hd
   subst hd
   exact aNL hCP hCN hc hK hA hW hN fun E' F' H' a' w' h1 h2 h3 h4=>hT .normal E' F' H' a' w' h1 h2 h3 h4
  ·rename_i hd
   simp only[bKB] at hc
   obtain⟨il,hil,rfl⟩:=hc
   have:d=false:=by simpa using hd
   subst this
   exact wp_region_list (aqW hCP hCN ops.toList il E F H a w hil hK hA hW hN fun E' F' H' a' w' h1 h2 h3 h4=>hT .normal E' F' H' a' w' h1 h2 h3 h4)
 | seq x y ihx ihy =>
  intro pc K Q E F H a w hc hK hA hW hN hT
  simp only[Tbl.code] at hc
  split at hc
  ·rename_i px py hx hy
   cases hc
   refine wp_seq (ihx px (iD C (py.wp C) K) _ E F H a w hx hK hA hW hN fun e E' F' H' a' w' h1 h2 h3 h4=>?_)
   cases e with
   | normal=>exact ihy py K Q E' F' H' a' w' hy h4 h1 h2 (h3.env.num.trans hN) (hT.after h3)
   | exit id=>exact hT (.exit id) E' F' H' a' w' h1 h2 h3 h4
   | ret=>exact hT .ret E' F' H' a' w' h1 h2 h3 h4
  ·cases hc
 | cond c x y ihx ihy =>
  intro pc K Q E F H a w hc hK hA hW hN hT
  simp only[Tbl.code] at hc
  split at hc
  ·rename_i pcnd px py hcnd hx hy
   cases hc
   simp only[aC.wp] at hK
   split at hK
   ·rename_i t hev
    have r:=bE hcnd hev hA hN
    have hb:a.eval c=.bool t:=by
     generalize a.eval c=v at r
     cases r
     rfl
    refine wp_cond hb ?_
    cases t with
    | true=>exact ihx px K Q E F H a w hx (by simpa using hK) hA hW hN hT
    | false=>exact ihy py K Q E F H a w hy (by simpa using hK) hA hW hN hT
   ·exact hK.elim
  ·cases hc
 | block id c ih =>
  intro pc K Q E F H a w hc hK hA hW hN hT
  simp only[Tbl.code,bKB] at hc
  obtain⟨px,hx,rfl⟩:=hc
  refine wp_block (ih px (dW id K) _ E F H a w hx hK hA hW hN fun e E' F' H' a' w' h1 h2 h3 h4=>?_)
  cases e with
  | normal=>exact hT .normal E' F' H' a' w' h1 h2 h3 h4
  | exit id' =>
   simp only[dW] at h4
   simp only[lJ.out,Exit.inBlock]
   split at h4
   ·rename_i e
    rw[if_pos e]
    exact hT .normal E' F' H' a' w' h1 h2 h3 h4
   ·rename_i e
    rw[if_neg e]
    exact hT (.exit id') E' F' H' a' w' h1 h2 h3 h4
  | ret=>exact hT .ret E' F' H' a' w' h1 h2 h3 h4
 | loop c ih =>
  intro pc K Q E F H a w hc hK hA hW hN hT
  simp only[Tbl.code,bKB] at hc
  obtain⟨px,hx,rfl⟩:=hc
  obtain⟨α,Fs,Hs,Pr,m,a0,F1,H1,hfz,hp0,hF0,hH0,hround⟩:=hK
  obtain⟨E1,hA1,hW1,hE1⟩:=hA.frz hW hfz
  refine wp_loop_ghost (fun k a' w'=>∃ (E':Env) (s:α),Pr s∧m s=k∧dV n E' (Fs s) a'∧bM E' (Hs s) w'∧Ext E H w E' (Hs s) w') (m a0) ⟨E1,a0,hp0,rfl,hA1.weaken hF0,hW1.weaken hH0,hE1.drop hH0⟩ ?_
  rintro k a' w' ⟨E',s,hp,rfl,hA',hW',hE'⟩
  refine ih px (eE Fs Hs Pr m (m s) K) _ E' (Fs s) (Hs s) a' w' hx (hround s hp) hA' hW' (hE'.env.num.trans hN) fun e E2 F2 H2 a2 w2 h1 h2 h3 h4=>?_
  cases e with
  | normal =>
   obtain⟨s',F3,H3,hfz',hp',hlt,hF',hH'⟩:=h4
   obtain⟨E3,hA3,hW3,hE3⟩:=h1.frz h2 hfz'
   exact⟨m s',hlt,E3,s',hp',rfl,hA3.weaken hF',hW3.weaken hH',((hE'.trans h3).trans hE3).drop hH'⟩
  | exit id=>exact hT (.exit id) E2 F2 H2 a2 w2 h1 h2 (hE'.trans h3) h4
  | ret=>exact hT .ret E2 F2 H2 a2 w2 h1 h2 (hE'.trans h3) h4
 | exit id =>
  intro pc K Q E F H a w hc hK hA hW hN hT
  simp[Tbl.code] at hc; subst hc
  exact wp_exit (hT (.exit id) E F H a w hA hW (.refl E H w) hK)
 | ret =>
  intro pc K Q E F H a w hc hK hA hW hN hT
  simp[Tbl.code] at hc; subst hc
  exact wp_ret (hT .ret E F H a w hA hW (.refl E H w) hK)
 | rangeFunc=>intro pc K Q E F H a w hc; simp[Tbl.code] at hc
 | scope c ih =>
  intro pc K Q E F H a w hc hK hA hW hN hT
  simp only[Tbl.code] at hc
  refine wp_scope_straight (ih pc K _ E F H a w hc hK hA hW hN fun e E' F' H' a' w' h1 h2 h3 h4=>?_)
  have:=hT e E' F' H' a' w' h1 h2 h3 h4
  cases e<;>exact this
 | label =>
  intro pc K Q E F H a w hc hK hA hW hN hT
  simp[Tbl.code] at hc; subst hc
  exact wp_label (hT .normal E F H a w hA hW (.refl E H w) hK)
 | goto=>intro pc K Q E F H a w hc; simp[Tbl.code] at hc
 | refuse=>intro pc K Q E F H a w hc; simp[Tbl.code] at hc
end
end Go.PM
