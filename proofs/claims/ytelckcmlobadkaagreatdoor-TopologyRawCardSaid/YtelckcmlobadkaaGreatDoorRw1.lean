/-
  Texts of ours, joined: Shelf Pm1 Pm2 Pm3 Pm4 Pm5 Pm6 Pm7 Pm8 Pm9 Pm10 Pm11 Pm11m Pm12 Pm13 Pm14 Pm15 Pm16 Pm17 Pm17f Pm15m Pm18 Pm18a Pm18b Pm18c Pm18d Pm18e Pm19 Pm20 Pm20c. No condition.
-/
import Derived.Shelf.Strconv.Itoa3
import Derived.Test.YtelckcmlobadkaaGreatDoorProg
import Derived.WalkKit
import Derived.Deep.MidRow
import Derived.Great.BuildSlice
import Derived.Lib.Strings
import Derived.Laws.BytesArg
import GoSem.Instr.MapUpdate
import Derived.Laws.MakeOwn
import Derived.Laws.CopyRow
import Derived.MapKept
import Derived.Orders
import Derived.Deep.LoopGhost
set_option linter.unusedSimpArgs false
set_option linter.unusedVariables false
open Nat renaming reduceEqDiff → γ, reduceAdd → δ, reduceSub → ε, reduceMul → ζ, reduceLT → η, reduceLeDiff → θ, reduceBEq → τ
open Int renaming reduceLT → ι, reduceLE → κ, reduceEq → μ, reduceToNat → ν, reduceAdd → ξ, reduceNeg → ο, reduceBEq → ρ, reduceBNe → σ
open List renaming reduceReplicate → υ
open List renaming length_map → bIM, range → bIN, replicate → bIP, length_append → bIQ, getElem_mem → bIS, length_singleton → bIX, getElem?_eq_getElem → bIZ, mem_cons → bJB, take_of_length_le → bJD, getD_eq_getElem?_getD → bJE, length_take → bJF, not_mem_nil → bJI, all_eq_true → bJL, take_length → bJN, append_assoc → bJO, drop_zero → bJR, getElem?_map → bJU, mem_map → bJV, getElem?_eq_none → bJY, append_nil → bJZ, getElem?_eq_some_iff → bKA, map_cons → bKD, drop_eq_getElem_cons → bKE, Sublist → bKH, getElem_map → bKI, mem_append → bKL, take_succ_eq_append_getElem → bKM, length_drop → bKQ, mem_range → bKR, length_set → bKU, map_append → bKV, map_nil → bKW, mem_of_getElem? → bKX, length_nil → bLA, take_append_drop → bLB, getElem?_append_left → bLF, length_cons → bLG, nodup_append → bLH, ext_getElem → bLI, getElem?_append_right → bLJ, getElem?_take → bLK, getElem_of_mem → bLL, set_append_right → bLM, drop_of_length_le → bLT
open Bool renaming not_true → bIO, false_and → bIV, not_false → bIY, true_and → bJC, and_eq_true → bJK, and_false → bJW, and_true → bKZ, and_assoc → bLE, false_eq_true → bLS
open Nat renaming gcd → bIR, zero_le → bIT, le_refl → bIU, mul_add → bJA, lt_or_ge → bJG, mul_assoc → bJH, zero_add → bJJ, mul_comm → bJM, add_mul → bJP, mul_le_mul_right → bJQ, mod_eq_of_lt → bJT, mod_lt → bJX, pow_succ → bKB, add_zero → bKF, le_trans → bKG, min_eq_left → bKJ, eq_zero_or_pos → bKN, mul_le_mul_left → bKO, pos_of_ne_zero → bKP, add_assoc → bKS, pow_pos → bKY, div_lt_iff_lt_mul → bLC, div_add_mod → bLN, div_eq_of_lt → bLO
open Option renaming map_eq_some_iff → bIW, map_some → bJS, getD_some → bKK, some → bKT, bind_eq_some_iff → bLP, bind_some → bLQ
open Array renaming replicate → bKC, length_toList → bLD, getElem?_eq_getElem → bLR, getElem?_eq_some_iff → bLU
namespace Go.Proofs
open Go.Shelf
def Tryz.aPM:Go.Shelf.Ren:=⟨fun | 171=>52 | 243=>63 | 246=>83 | 283=>106 | 284=>107 | 285=>108 | 286=>109 | 129=>139 | 317=>138 | 318=>140 | 319=>141 | 320=>142 | 337=>156 | 338=>157 | n=>n,fun | 3=>3 | 9=>9 | 2=>2 | 4=>4 | 171=>145 | 0=>0 | 53=>101 | 37=>22 | 5=>5 | 173=>148 | 212=>163 | 51=>109 | 20=>20 | 213=>164 | 46=>114 | 232=>168 | 233=>169 | n=>n,fun | 17=>0 | 18=>1 | 19=>2 | n=>n⟩
theorem Tryz.brT:Go.Proofs.Lays.n171 Tryz.prog Tryz.aPM:={
 mixed:=by kernel_rfl
 f129:=Tryz.func139.trans (congrArg some (by kernel_rfl))
 f171:=Tryz.func52.trans (congrArg some (by kernel_rfl))
 f243:=Tryz.func63.trans (congrArg some (by kernel_rfl))
 f246:=Tryz.func83.trans (congrArg some (by kernel_rfl))
 f283:=Tryz.func106.trans (congrArg some (by kernel_rfl))
 f284:=Tryz.func107.trans (congrArg some (by kernel_rfl))
 f285:=Tryz.func108.trans (congrArg some (by kernel_rfl))
 f286:=Tryz.func109.trans (congrArg some (by kernel_rfl))
 f317:=Tryz.func138.trans (congrArg some (by kernel_rfl))
 f318:=Tryz.func140.trans (congrArg some (by kernel_rfl))
 f319:=Tryz.func141.trans (congrArg some (by kernel_rfl))
 f320:=Tryz.func142.trans (congrArg some (by kernel_rfl))
 f337:=Tryz.func156.trans (congrArg some (by kernel_rfl))
 f338:=Tryz.func157.trans (congrArg some (by kernel_rfl))
 t0:=Tryz.underlying0
 a0:=Tryz.isAgg0
 z0:=Tryz.sizeOf0
 v0:=Tryz.zeroValue0
 t2:=Tryz.underlying2
 a2:=Tryz.isAgg2
 z2:=Tryz.sizeOf2
 v2:=Tryz.zeroValue2
 t3:=Tryz.underlying3
 a3:=Tryz.isAgg3
 z3:=Tryz.sizeOf3
 v3:=Tryz.zeroValue3
 t4:=Tryz.underlying4
 a4:=Tryz.isAgg4
 z4:=Tryz.sizeOf4
 v4:=Tryz.zeroValue4
 t5:=Tryz.underlying5
 a5:=Tryz.isAgg5
 z5:=Tryz.sizeOf5
 v5:=Tryz.zeroValue5
 t9:=Tryz.underlying9
 a9:=Tryz.isAgg9
 z9:=Tryz.sizeOf9
 v9:=Tryz.zeroValue9
 t20:=Tryz.underlying20
 a20:=Tryz.isAgg20
 z20:=Tryz.sizeOf20
 v20:=Tryz.zeroValue20
 t37:=Tryz.underlying22
 a37:=Tryz.isAgg22
 z37:=Tryz.sizeOf22
 v37:=Tryz.zeroValue22
 t46:=Tryz.underlying114
 a46:=Tryz.isAgg114
 z46:=Tryz.sizeOf114
 v46:=Tryz.zeroValue114
 t51:=Tryz.underlying109
 a51:=Tryz.isAgg109
 z51:=Tryz.sizeOf109
 v51:=Tryz.zeroValue109
 t53:=Tryz.underlying101
 a53:=Tryz.isAgg101
 z53:=Tryz.sizeOf101
 v53:=Tryz.zeroValue101
 t171:=Tryz.underlying145
 a171:=Tryz.isAgg145
 z171:=Tryz.sizeOf145
 v171:=Tryz.zeroValue145
 t173:=Tryz.underlying148
 a173:=Tryz.isAgg148
 z173:=Tryz.sizeOf148
 v173:=Tryz.zeroValue148
 t212:=Tryz.underlying163
 a212:=Tryz.isAgg163
 z212:=Tryz.sizeOf163
 v212:=Tryz.zeroValue163
 t213:=Tryz.underlying164
 a213:=Tryz.isAgg164
 z213:=Tryz.sizeOf164
 t232:=Tryz.underlying168
 a232:=Tryz.isAgg168
 z232:=Tryz.sizeOf168
 v232:=Tryz.zeroValue168
 t233:=Tryz.underlying169
 a233:=Tryz.isAgg169
 z233:=Tryz.sizeOf169
 v233:=Tryz.zeroValue169
 g17:=by kernel_rfl
 g18:=by kernel_rfl
 g19:=by kernel_rfl }
end Go.Proofs
theorem Om {p:Prop} (h:p:=by omega):p:=h
namespace Go.PM
open Go
inductive PV where
 | int (k:IntKind) (n:Int)
 | bool (b:Bool)
 | str (s:List UInt8)
 | bGI
 | sl (size:Nat) (rows:List (List PV))
 | osl (o size off len:Nat)
 | ptr (o size i c:Nat)
 | bGQ (cells:List PV)
 | map (o:Nat)
 | fn (name:Nat) (captured:List PV)
 | agg (cells:List PV)
 | tup (vs:List PV)
 | lit (v:Value)
 | junk
 deriving Inhabited
inductive KSh where
 | int (k:IntKind)
 | bool
 | str
 deriving DecidableEq,Inhabited
inductive KS where
 | int (k:IntKind) (n:Int)
 | bool (b:Bool)
 | str (s:List UInt8)
 deriving DecidableEq,Inhabited
def KS.sh:KS→KSh
 | .int k _=>.int k
 | .bool _=>.bool
 | .str _=>.str
def KS.val:KS→Value
 | .int k n=>.int k n
 | .bool b=>.bool b
 | .str s=>.string ⟨s.toArray⟩
abbrev MSh:=Bool × List KSh
def fO (sh:MSh) (k:List KS):Value:=if sh.1 then .agg (k.map KS.val).toArray else (k.map KS.val).headD undef
abbrev kW:=List KS→Option PV
def kW.upd (g:kW) (k:List KS) (v:PV):kW:=fun j=>if j=k then some v else g j
def pS (k:List KS):List (List KS × PV)→Nat→Option (Nat × PV)
 | [],_=>none
 | e::es,i=>if e.1=k then some (i,e.2) else pS k es (i+1)
def mapOf (L:List (List KS × PV)):kW:=fun k=>(pS k L 0).map (·.2)
inductive cE where
 | rows (size:Nat) (rs:List (List PV))
 | map (sh:MSh) (g:kW)
 | dead
def upd {α:Type} (f:Nat→Option α) (i:Nat) (v:Option α):Nat→Option α:=fun j=>if j=i then v else f j
theorem PT {α:Type} (f:Nat→Option α) {i j:Nat} (v:Option α) (h:j≠i):upd f i v j=f j:=by simp[upd,h]
theorem boE {α:Type} (f:Nat→Option α) {i j:Nat} (v u:Option α) (h:i≠j):upd (upd f i v) j u=upd (upd f j u) i v:=by
 funext k
 simp only[upd]
 by_cases h1:k=j
 ·by_cases h2:k=i
  ·omega
  ·simp[h1]
   intro h3; omega
 ·simp[h1]
abbrev PF:=Nat→Option PV
def PF.nil:PF:=fun _=>none
def PF.set (F:PF) (i:Nat) (v:PV):PF:=upd F i (some v)
def PF.le (F G:PF):Prop:=∀ i v,F i=some v→G i=some v
structure PH where
 f:Nat→Option cE
 fin:∃ n,∀ o,n≤o→f o=none
instance:CoeFun PH (fun _=>Nat→Option cE):=⟨PH.f⟩
theorem PH.ext {H K:PH} (h:∀ o,H.f o=K.f o):H=K:=by
 cases H; cases K
 have:‹Nat→Option cE›=‹Nat→Option cE›:=rfl
 congr
 exact funext h
def PH.nil:PH:=⟨fun _=>none,0,fun _ _=>rfl⟩
def PH.upd (H:PH) (o:Nat) (x:Option cE):PH :=
 ⟨PM.upd H.f o x,by
  obtain⟨n,hn⟩:=H.fin
  refine⟨max n (o+1),fun q hq=>?_⟩
  rw[PT _ _ Om]
  exact hn q Om⟩
def PH.set (H:PH) (o:Nat) (x:cE):PH:=H.upd o (some x)
def PH.le (H K:PH):Prop:=∀ o x,H o=some x→K o=some x
def PH.over (H H0 H1:PH):PH :=
 ⟨fun o=>match H1 o with
  | some x=>some x
  | none=>match H0 o with
   | some _=>some .dead
   | none=>H o,by
  obtain⟨n,hn⟩:=H.fin
  obtain⟨n0,h0⟩:=H0.fin
  obtain⟨n1,h1⟩:=H1.fin
  refine⟨max n (max n0 n1),fun o ho=>?_⟩
  simp only[h1 o Om,h0 o Om,hn o Om]⟩
theorem PH.fresh (H:PH):∃ o,H o=none:=by
 obtain⟨n,hn⟩:=H.fin
 exact⟨n,hn n (bIU _)⟩
def at2 (rows:List (List PV)) (i j:Nat):Option PV:=rows[i]?.bind (·[j]?)
structure Env where
 G:Nat→Option (Array Value)
 sz:Nat→Option Nat
 num:Nat→FuncId
def Env.cell (E:Env) (b off:Nat):Option Value:=(E.G b).bind (·[off]?)
structure Env.le (E E':Env):Prop where
 g:∀ b cs,E.G b=some cs→E'.G b=some cs
 s:∀ b n,E.sz b=some n→E'.sz b=some n
 num:E'.num=E.num
theorem Env.le.refl (E:Env):E.le E:=⟨fun _ _ h=>h,fun _ _ h=>h,rfl⟩
theorem Env.le.trans {A B C:Env} (h:A.le B) (k:B.le C):A.le C :=
 ⟨fun b cs e=>k.g _ _ (h.g _ _ e),fun b n e=>k.s _ _ (h.s _ _ e),k.num.trans h.num⟩
theorem Env.le.cell {E E':Env} (h:E.le E') {b off:Nat} {u:Value} (hc:E.cell b off=some u):E'.cell b off=some u:=by
 unfold Env.cell at *
 cases hg:E.G b with
 | none=>simp[hg] at hc
 | some cs=>rw[hg] at hc; rw[h.g _ _ hg]; exact hc
inductive aW (E:Env):PV→Value→Prop
 | int (k:IntKind) (n:Int):aW E (.int k n) (.int k n)
 | bool (b:Bool):aW E (.bool b) (.bool b)
 | str (s:ByteArray):aW E (.str s.data.toList) (.string s)
 | bGI:aW E .bGI (.slice none 0 0)
 | sl {size:Nat} {rows:List (List PV)} {a:Option Addr} {cap:Nat} (u:Nat→Nat→Value) (hcap:rows.length≤cap) (bID:cap≤maxLen)
   (hs:∀ r∈rows,r.length=size)
   (ha:rows≠[]→∃ ad,a=some ad∧ad.spot=none∧∀ i j pv,at2 rows i j=some pv→E.cell ad.block (ad.off+i*size+j)=some (u i j))
   (h1:∀ i j,(u i j).oneCell'=true) (hr:∀ i j pv,at2 rows i j=some pv→aW E pv (u i j)):aW E (.sl size rows) (.slice a rows.length cap)
 | osl {o size off len cap n:Nat} {a:Addr} (hb:a.block=o) (hsp:a.spot=none) (bII:cap=0∨a.off=off*size) (hlen:len≤cap) (bID:cap≤maxLen)
   (hn:E.sz o=some n) (bHO:off*size+cap*size≤n):aW E (.osl o size off len) (.slice (some a) len cap)
 | ptr (o size i c:Nat):aW E (.ptr o size i c) (.pointer (some ⟨o,i*size+c,none⟩))
 | bGQ {cells:List PV} {ad:Addr} (u:Nat→Value) (hsp:ad.spot=none) (hc:∀ (j:Nat) pv,cells[j]?=some pv→E.cell ad.block (ad.off+j)=some (u j))
   (h1:∀ (j:Nat),(u j).oneCell'=true) (hr:∀ (j:Nat) pv,cells[j]?=some pv→aW E pv (u j)):aW E (.bGQ cells) (.pointer (some ad))
 | map (o:Nat):aW E (.map o) (.map (some o))
 | fn {name:Nat} {captured:List PV} (vc:Array Value) (hl:vc.size=captured.length)
   (hr:∀ (j:Nat) pv v,captured[j]?=some pv→vc[j]?=some v→aW E pv v):aW E (.fn name captured) (.func (.func (E.num name)) #[] vc)
 | agg {cells:List PV} (vs:Array Value) (hl:vs.size=cells.length) (h1:∀ v∈vs.toList,v.oneCell'=true)
   (hr:∀ (j:Nat) pv v,cells[j]?=some pv→vs[j]?=some v→aW E pv v):aW E (.agg cells) (.agg vs)
 | tup {ps:List PV} (vs:Array Value) (hl:vs.size=ps.length)
   (hr:∀ (j:Nat) pv v,ps[j]?=some pv→vs[j]?=some v→aW E pv v):aW E (.tup ps) (.tuple vs)
 | lit (v:Value):aW E (.lit v) v
 | junk (v:Value):aW E .junk v
theorem aW.mono {E E':Env} (h:E.le E') {pv:PV} {v:Value} (r:aW E pv v):aW E' pv v:=by
 induction r with
 | int=>exact .int _ _
 | bool=>exact .bool _
 | str=>exact .str _
 | bGI=>exact .bGI
 | sl u hcap bID hs ha h1 _ ih =>
  refine .sl u hcap bID hs (fun hne=>?_) h1 ih
  obtain⟨ad,e,sp,hc⟩:=ha hne
  exact⟨ad,e,sp,fun i j pv hp=>h.cell (hc i j pv hp)⟩
 | osl hb hsp bII hlen bID hn bHO=>exact .osl hb hsp bII hlen bID (h.s _ _ hn) bHO
 | ptr=>exact .ptr _ _ _ _
 | bGQ u hsp hc h1 _ ih=>exact .bGQ u hsp (fun j pv hp=>h.cell (hc j pv hp)) h1 ih
 | map=>exact .map _
 | fn vc hl _ ih=>rw[← h.num]; exact .fn vc hl ih
 | agg vs hl h1 _ ih=>exact .agg vs hl h1 ih
 | tup vs hl _ ih=>exact .tup vs hl ih
 | lit=>exact .lit _
 | junk=>exact .junk _
def ajG (E:Env) (w:World) (o:Nat):cE→Prop
 | .rows size rs=>∃ cur ty,w.heap[o]?=some (.cells cur ty (0,0))∧E.sz o=some cur.size∧(∀ r∈rs,r.length=size)∧rs.length*size≤cur.size ∧
   ∀ i j pv,at2 rs i j=some pv→∃ u,cur[i*size+j]?=some u∧u.oneCell'=true∧aW E pv u
 | .map sh g=>∃ es' clock L,w.heap[o]?=some (.map es' clock)∧es'.size=L.length∧g=mapOf L ∧
   ∀ (i:Nat) e e',L[i]?=some e→es'[i]?=some e'→e.1.map KS.sh=sh.2∧e'.key=fO sh e.1∧aW E e.2 e'.val
 | .dead=>True
theorem ajG.mono {E E':Env} (h:E.le E') {w w':World} {o:Nat} (hw:w'.heap[o]?=w.heap[o]?) {x:cE} (r:ajG E w o x):ajG E' w' o x:=by
 cases x with
 | rows size rs =>
  obtain⟨cur,ty,h1,h2,h3,h4,h5⟩:=r
  refine⟨cur,ty,hw.trans h1,h.s _ _ h2,h3,h4,fun i j pv hp=>?_⟩
  obtain⟨u,a,b,c⟩:=h5 i j pv hp
  exact⟨u,a,b,c.mono h⟩
 | map sh g =>
  obtain⟨es',clock,L,h1,h2,h3,h4⟩:=r
  exact⟨es',clock,L,hw.trans h1,h2,h3,fun i e e' a b=>⟨(h4 i e e' a b).1,(h4 i e e' a b).2.1,(h4 i e e' a b).2.2.mono h⟩⟩
 | dead=>trivial
structure bR (E:Env) (H:PH) (w:World):Prop where
 g:∀ b cs,E.G b=some cs→(∀ x,H b=some x→x=.dead)∧∃ ty fr,w.heap[b]?=some (.cells cs ty fr)
 h:∀ o x,H o=some x→o<w.heap.size∧ajG E w o x
 s:∀ o n,E.sz o=some n→∃ cur ty fr,w.heap[o]?=some (.cells cur ty fr)∧cur.size=n
theorem bR.weaken {E:Env} {H H0:PH} {w:World} (h:bR E H w) (hle:H0.le H):bR E H0 w:=by
 exact⟨fun b cs hb=>⟨fun x hx=>(h.g b cs hb).1 x (hle b x hx),(h.g b cs hb).2⟩,fun o x ho=>h.h o x (hle o x ho),h.s⟩
structure Ext (E:Env) (H:PH) (w:World) (E':Env) (H':PH) (w':World):Prop where
 env:E.le E'
 os:w'.os=w.os
 tape:w'.tape=w.tape
 output:w'.output=w.output
 size:w.heap.size≤w'.heap.size
 block:∀ b,b<w.heap.size→H b=none→w'.heap[b]?=w.heap[b]?
 new:∀ o x,H' o=some x→(∃ y,H o=some y)∨w.heap.size≤o
 newG:∀ b cs,E'.G b=some cs→E.G b=some cs∨(∃ y,H b=some y)∨w.heap.size≤b
theorem Ext.refl (E:Env) (H:PH) (w:World):Ext E H w E H w :=
 ⟨.refl E,rfl,rfl,rfl,bIU _,fun _ _ _=>rfl,fun _ x h=>.inl ⟨x,h⟩,fun _ _ h=>.inl h⟩
theorem Ext.trans {E1 E2 E3:Env} {H1 H2 H3:PH} {w1 w2 w3:World} (h:Ext E1 H1 w1 E2 H2 w2) (k:Ext E2 H2 w2 E3 H3 w3):Ext E1 H1 w1 E3 H3 w3:=by
 refine⟨h.env.trans k.env,k.os.trans h.os,k.tape.trans h.tape,k.output.trans h.output,bKG h.size k.size,fun b hb hn=>?_,fun o x ho=>?_,fun b cs hb=>?_⟩
 ·have h2:H2 b=none:=by
   cases e:H2 b with
   | none=>rfl
   | some x =>
    rcases h.new b x e with ⟨y,hy⟩ | hl
    ·rw[hn] at hy; cases hy
    ·omega
  rw[k.block b (by have:=h.size; omega) h2,h.block b hb hn]
 ·rcases k.new o x ho with ⟨y,hy⟩ | hl
  ·exact h.new o y hy
  ·exact .inr (bKG h.size hl)
 ·rcases k.newG b cs hb with h1 | ⟨y,hy⟩ | hl
  ·exact h.newG b cs h1
  ·exact .inr (h.new b y hy)
  ·exact .inr (.inr (bKG h.size hl))
theorem Ext.drop {E E':Env} {H H' H0:PH} {w w':World} (h:Ext E H w E' H' w') (hle:H0.le H'):Ext E H w E' H0 w' :=
 ⟨h.env,h.os,h.tape,h.output,h.size,h.block,fun o x ho=>h.new o x (hle o x ho),h.newG⟩
theorem Ext.narrow {E E':Env} {H H' H0:PH} {w w':World} (h:Ext E H0 w E' H' w') (hle:H0.le H):Ext E H w E' (H.over H0 H') w':=by
 refine⟨h.env,h.os,h.tape,h.output,h.size,fun b hb hn=>h.block b hb ?_,fun o x ho=>?_,fun b cs hb=>?_⟩
 ·cases e:H0 b with
  | none=>rfl
  | some x=>have:=hle b x e; rw[hn] at this; cases this
 ·unfold PH.over at ho
  simp only at ho
  split at ho
  ·rename_i y hy
   rcases h.new o y hy with ⟨z,hz⟩ | hl
   ·exact .inl ⟨z,hle o z hz⟩
   ·exact .inr hl
  ·split at ho
   ·rename_i y hy
    exact .inl ⟨y,hle o y hy⟩
   ·exact .inl ⟨x,ho⟩
 ·rcases h.newG b cs hb with h1 | ⟨y,hy⟩ | hl
  ·exact .inl h1
  ·exact .inr (.inl ⟨y,hle b y hy⟩)
  ·exact .inr (.inr hl)
theorem bR.over {E E':Env} {H H' H0:PH} {w w':World} (hW:bR E H w) (h:Ext E H0 w E' H' w') (hle:H0.le H) (hW':bR E' H' w'):bR E' (H.over H0 H') w':=by
 have keep:∀ o x,H o=some x→H0 o=none→o<w'.heap.size∧ajG E' w' o x:=by
  intro o x ho h0
  obtain⟨hlt,bIH⟩:=hW.h o x ho
  exact⟨Nat.lt_of_lt_of_le hlt h.size,bIH.mono h.env (h.block o hlt h0)⟩
 refine⟨fun b cs hb=>⟨?_,(hW'.g b cs hb).2⟩,fun o x ho=>?_,hW'.s⟩
 ·intro x hx
  unfold PH.over at hx
  simp only at hx
  split at hx
  ·rename_i y hy
   cases hx
   exact (hW'.g b cs hb).1 _ hy
  ·split at hx
   ·cases hx; rfl
   ·rename_i h0
    rcases h.newG b cs hb with hE | ⟨y,hy⟩ | hl
    ·exact (hW.g b cs hE).1 x hx
    ·rw[h0] at hy; cases hy
    ·have:=(hW.h b x hx).1; omega
 ·unfold PH.over at ho
  simp only at ho
  split at ho
  ·rename_i y hy
   cases ho
   exact hW'.h o _ hy
  ·split at ho
   ·rename_i y hy
    cases ho
    exact⟨Nat.lt_of_lt_of_le (hW.h o y (hle o y hy)).1 h.size,trivial⟩
   ·rename_i h0
    exact keep o x ho h0
inductive aP where
 | tmp (t:Nat)
 | const (v:PV)
 deriving Inhabited
def aP.ev (F:PF):aP→Option PV
 | .tmp t=>F t
 | .const v=>some v
def aP.evs (F:PF):List aP→Option (List PV)
 | []=>some []
 | x::xs=>match x.ev F,aP.evs F xs with
  | some v,some vs=>some (v::vs)
  | _,_=>none
inductive Sc where
 | int | bool | str
 deriving Inhabited,DecidableEq
inductive POp where
 | mv (x:aP)
 | pick (c a b:aP)
 | bin (op:BinOp) (x y:aP)
 | eqb (neg:Bool) (x y:aP)
 | eqs (neg:Bool) (ks:List Sc) (x y:aP)
 | un (op:UnOp) (x:aP)
 | conv (k:IntKind) (x:aP)
 | same (x:aP)
 | alloc (cells:List PV)
 | box (ro:Bool) (x:aP)
 | build (zero:List PV) (parts:List (Nat × Nat × aP))
 | bGN (ro:Bool) (size len:Nat) (zero:List PV) (parts:List (Nat × aP))
 | load (n:Option Nat) (p:aP)
 | store (n:Nat) (p x:aP)
 | bGX (x:aP)
 | bHU (off:Nat) (x:aP)
 | field (off:Nat) (n:Option Nat) (x:aP)
 | bHD (size:Nat) (x i:aP)
 | idxA (n size:Nat) (x i:aP)
 | idxV (n size:Nat) (ag:Bool) (x i:aP)
 | bHR (x i:aP)
 | slice (size:Nat) (x:aP) (lo hi mx:Option aP)
 | bHL (x:aP) (lo hi:Option aP)
 | sliceA (n size:Nat) (x:aP) (lo hi mx:Option aP)
 | len (x:aP)
 | bHQ (x:aP)
 | bIK (x:aP)
 | extract (x:aP) (i:Nat)
 | bGS (size bytes:Nat) (zero:List PV) (l c:aP)
 | append (size bytes:Nat) (x y:aP)
 | bHJ (mx:Bool) (x y:aP)
 | mkfn (name:Nat) (captured:List aP)
 | bIE (sh:MSh)
 | lookup (sh:MSh) (zero:PV) (x k:aP) (ok:Bool)
 | bHG (sh:MSh) (x k v:aP)
 | insert (sh:MSh) (x k v:aP)
 | stuck
 | bGY (x:aP)
 | str2bytes (x:aP)
 | call (name:Nat) (args:List aP)
 | bHT (x:aP) (args:List aP)
 deriving Inhabited
structure bB where
 dst:Option Nat
 op:POp
 guard:Option (Nat × Bool)
 deriving Inhabited
inductive aB where
 | skip
 | region (ops:List bB)
 | draw (ops:List (bB × Bool))
 | seq (a b:aB)
 | cond (c:aP) (a b:aB)
 | block (id:Nat) (c:aB)
 | loop (c:aB)
 | exit (id:Nat)
 | ret
 deriving Inhabited
inductive dW where
 | tmp (t:Nat)
 | cell (t:Nat) (n:Option Nat)
 deriving Inhabited
structure aS where
 nparams:Nat
 ntmps:Nat
 body:aB
 res:List dW
 deriving Inhabited
def PV.cells:PV→List PV
 | .agg cs=>cs
 | v=>[v]
def PV.one:PV→Bool
 | .agg _ | .tup _ | .junk | .lit (.agg _) | .lit (.tuple _)=>false
 | _=>true
def setCells (r:List PV) (c:Nat):List PV→List PV
 | []=>r
 | v::vs=>setCells (r.set c v) (c+1) vs
def loadCells (H:PH) (p:PV) (n:Nat):Option (List PV) :=
 match p with
 | .ptr o size i c=>match H o with
  | some (.rows s rs)=>if s=size then match rs[i]? with
    | some r=>if c+n≤r.length then some ((r.drop c).take n) else none
    | none=>none
   else none
  | _=>none
 | .bGQ cells=>if n≤cells.length then some (cells.take n) else none
 | _=>none
def kG (op:BinOp) (k:IntKind) (a b:Int):Option PV :=
 match op with
 | .add=>some (.int k (k.wrap (a+b)))
 | .sub=>some (.int k (k.wrap (a-b)))
 | .mul=>some (.int k (k.wrap (a*b)))
 | .quo=>if b=0 then none else some (.int k (k.wrap (a.tdiv b)))
 | .rem=>if b=0 then none else some (.int k (a.tmod b))
 | .and=>some (.int k (k.wrap (BitVec.ofInt k.bits a &&& BitVec.ofInt k.bits b).toNat))
 | .or=>some (.int k (k.wrap (BitVec.ofInt k.bits a ||| BitVec.ofInt k.bits b).toNat))
 | .xor=>some (.int k (k.wrap (BitVec.ofInt k.bits a ^^^ BitVec.ofInt k.bits b).toNat))
 | .andNot=>some (.int k (k.wrap (BitVec.ofInt k.bits a &&& ~~~ BitVec.ofInt k.bits b).toNat))
 | .eql=>some (.bool (a==b))
 | .neq=>some (.bool (a != b))
 | .lss=>some (.bool (decide (a<b)))
 | .leq=>some (.bool (decide (a≤b)))
 | .gtr=>some (.bool (decide (a>b)))
 | .geq=>some (.bool (decide (a≥b)))
 | .shl | .shr=>none
def LD (op:BinOp) (a b:List UInt8):Option PV :=
 match op with
 | .add=>if ((a.length+b.length:Nat):Int)>IntKind.i64.max then none else some (.str (a++b))
 | .eql=>some (.bool (a==b))
 | .neq=>some (.bool !(a==b))
 | .lss=>some (.bool (Op.bytesLess a b))
 | .leq=>some (.bool (Op.bytesLess a b||a==b))
 | .gtr=>some (.bool !(Op.bytesLess a b||a==b))
 | .geq=>some (.bool !(Op.bytesLess a b))
 | _=>none
def shift (op:BinOp) (k:IntKind) (a b:Int):Option PV :=
 if b<0 then none else
 match op with
 | .shl=>some (.int k (k.wrap (a*2 ^ (min b.toNat k.bits))))
 | .shr=>some (.int k (a.fdiv (2 ^ (min b.toNat k.bits))))
 | _=>none
def PV.bin (op:BinOp) (x y:PV):Option PV :=
 match op,x,y with
 | .shl,.int k a,.int _ b=>shift .shl k a b
 | .shr,.int k a,.int _ b=>shift .shr k a b
 | op,.int k a,.int k' b=>if k=k' then kG op k a b else none
 | op,.str a,.str b=>LD op a b
 | _,_,_=>none
def PV.eq1:Sc→PV→PV→Option Bool
 | .int,.int k a,.int k' b=>if k=k' then some (a==b) else none
 | .bool,.bool a,.bool b=>some (a==b)
 | .str,.str a,.str b=>some (a==b)
 | _,_,_=>none
def PV.eqs:List Sc→List PV→List PV→Option Bool
 | [],[],[]=>some true
 | k::ks,x::xs,y::ys=>match PV.eq1 k x y with
  | some true=>PV.eqs ks xs ys
  | some false=>if xs.length=ks.length∧ys.length=ks.length then some false else none
  | none=>none
 | _,_,_=>none
def PV.un (op:UnOp):PV→Option PV
 | .int k n=>match op with
  | .neg=>some (.int k (k.wrap (0-n)))
  | .xor=>some (.int k (k.wrap (BitVec.ofInt k.bits (if k.signed then -1 else k.max) ^^^ BitVec.ofInt k.bits n).toNat))
  | _=>none
 | .bool b=>match op with
  | .not=>some (.bool !b)
  | _=>none
 | _=>none
def PV.intOf:PV→Option Int
 | .int _ n=>some n
 | _=>none
def oR (cells:List PV) (F:PF):List (Nat × Nat × aP)→Option (List PV)
 | []=>some cells
 | (off,size,x)::rest=>match x.ev F with
  | some v=>if v.cells.length=size∧off+size≤cells.length∧v.cells.all PV.one then oR (setCells cells off v.cells) F rest else none
  | none=>none
def fW (size:Nat) (rows:List (List PV)) (F:PF):List (Nat × aP)→Option (List (List PV))
 | []=>some rows
 | (i,x)::rest=>match x.ev F with
  | some v=>if v.cells.length=size∧i<rows.length∧v.cells.all PV.one then fW size (rows.set i v.cells) F rest else none
  | none=>none
def dT (H:PH) (size:Nat):PV→Option (List (List PV))
 | .bGI=>some []
 | .sl s rows=>if s=size then some rows else none
 | .osl o s off len=>if s=size then match H o with
   | some (.rows s' rs)=>if s'=s∧off+len≤rs.length then some ((rs.drop off).take len) else none
   | _=>none
  else none
 | _=>none
def bnd (F:PF) (d:Int):Option aP→Option Int
 | none=>some d
 | some x=>(x.ev F).bind PV.intOf
def PV.slice (size:Nat) (x:PV) (l h:Int) (mx:Option Int):Option PV :=
 match x with
 | .bGI=>if l=0∧h=0∧(mx=none∨mx=some 0) then some .bGI else none
 | .sl s rows=>if s=size∧0≤l∧l≤h∧h≤rows.length∧(mx=none∨mx=some h) then some (.sl s ((rows.take h.toNat).drop l.toNat)) else none
 | .osl o s off len=>if s=size∧0≤l∧l≤h∧h≤len∧(mx=none∨mx=some h) then some (.osl o s (off+l.toNat) (h.toNat-l.toNat)) else none
 | _=>none
def KS.of:PV→Option KS
 | .int k n=>some (.int k n)
 | .bool b=>some (.bool b)
 | .str s=>some (.str s)
 | _=>none
def KS.ofs:List PV→Option (List KS)
 | []=>some []
 | v::vs=>match KS.of v,KS.ofs vs with
  | some k,some ks=>some (k::ks)
  | _,_=>none
def keyOf (sh:MSh) (v:PV):Option (List KS) :=
 match sh.1,v with
 | true,.agg cs=>(KS.ofs cs).bind fun k=>if k.map KS.sh=sh.2 then some k else none
 | false,v=>(KS.of v).bind fun k=>if [k.sh]=sh.2 then some [k] else none
 | _,_=>none
def chunks (size:Nat):Nat→List PV→List (List PV)
 | 0,_=>[]
 | n+1,cs=>cs.take size::chunks size n (cs.drop size)
def oC:List (List PV)→Option (List UInt8)
 | []=>some []
 | [.int .u8 n]::rest=>(oC rest).map (UInt8.ofNat n.toNat::·)
 | _=>none
def PV.uY:PV→Option PV
 | .bGI=>some (.int .i64 0)
 | .sl _ rows=>some (.int .i64 rows.length)
 | .osl _ _ _ n=>some (.int .i64 n)
 | _=>none
def aN (op:POp) (F:PF) (H:PH):Option PV :=
 match op with
 | .mv x=>x.ev F
 | .same x=>match x.ev F with
  | some (.str s)=>some (.str s)
  | _=>none
 | .pick c a b=>match c.ev F,a.ev F,b.ev F with
  | some (.bool t),x,y=>if t then x else y
  | _,_,_=>none
 | .bin op x y=>match x.ev F,y.ev F with
  | some a,some b=>PV.bin op a b
  | _,_=>none
 | .eqb neg x y=>match x.ev F,y.ev F with
  | some (.bool a),some (.bool b)=>some (.bool ((a==b) != neg))
  | _,_=>none
 | .eqs neg ks x y=>match x.ev F,y.ev F with
  | some (.agg xs),some (.agg ys)=>(PV.eqs ks xs ys).map fun b=>.bool (b != neg)
  | _,_=>none
 | .un op x=>match x.ev F with
  | some a=>PV.un op a
  | none=>none
 | .conv k x=>match x.ev F with
  | some (.int _ n)=>some (.int k (k.wrap n))
  | _=>none
 | .box true x=>match x.ev F with
  | some v=>if v.cells.all PV.one then some (.bGQ v.cells) else none
  | none=>none
 | .build zero parts=>(oR zero F parts).map .agg
 | .bGN true size len zero parts=>if zero.length=size∧len*size≤16777216 then (fW size (bIP len zero) F parts).map (.sl size) else none
 | .load none p=>match p.ev F with
  | some a=>match loadCells H a 1 with
   | some [v]=>some v
   | _=>none
  | none=>none
 | .load (some n) p=>match p.ev F with
  | some a=>(loadCells H a n).map .agg
  | none=>none
 | .bGX x=>match x.ev F with
  | some (.ptr o s i c)=>some (.ptr o s i c)
  | some (.bGQ cs)=>some (.bGQ cs)
  | _=>none
 | .bHU off x=>match x.ev F with
  | some (.ptr o s i c)=>some (.ptr o s i (c+off))
  | some (.bGQ cs)=>some (.bGQ (cs.drop off))
  | _=>none
 | .field off n x=>match x.ev F with
  | some (.agg cs)=>match n with
   | none=>cs[off]?
   | some n=>if off+n≤cs.length then some (.agg ((cs.drop off).take n)) else none
  | _=>none
 | .bHD size x i=>match x.ev F,i.ev F with
  | some (.sl s rows),some (.int _ n)=>if s=size∧0≤n then match rows[n.toNat]? with
    | some r=>some (.bGQ r)
    | none=>none
   else none
  | some (.osl o s off len),some (.int _ n)=>if s=size∧0≤n∧n<len then some (.ptr o s (off+n.toNat) 0) else none
  | _,_=>none
 | .idxA n size x i=>match x.ev F,i.ev F with
  | some (.ptr o s r c),some (.int _ k)=>if 0≤k∧k<n then some (.ptr o s r (c+k.toNat*size)) else none
  | some (.bGQ cs),some (.int _ k)=>if 0≤k∧k<n then some (.bGQ (cs.drop (k.toNat*size))) else none
  | _,_=>none
 | .idxV n size ag x i=>match x.ev F,i.ev F with
  | some (.agg cs),some (.int _ k)=>if 0≤k∧k<n then
    (if ag then (if k.toNat*size+size≤cs.length then some (.agg ((cs.drop (k.toNat*size)).take size)) else none) else cs[k.toNat*size]?)
   else none
  | _,_=>none
 | .bHR x i=>match x.ev F,i.ev F with
  | some (.str s),some (.int _ k)=>if 0≤k then (s[k.toNat]?).map fun b=>PV.int .u8 b.toNat else none
  | _,_=>none
 | .slice size x lo hi mx=>match x.ev F with
  | some v=>match v with
   | .bGI=>match bnd F 0 lo,bnd F 0 hi with
    | some l,some h=>match mx with
     | none=>PV.slice size v l h none
     | some m=>(bnd F 0 (some m)).bind fun m=>PV.slice size v l h (some m)
    | _,_=>none
   | .sl s rows=>match bnd F 0 lo,bnd F rows.length hi with
    | some l,some h=>match mx with
     | none=>PV.slice size (.sl s rows) l h none
     | some m=>(bnd F 0 (some m)).bind fun m=>PV.slice size (.sl s rows) l h (some m)
    | _,_=>none
   | .osl o s off len=>match bnd F 0 lo,bnd F len hi with
    | some l,some h=>match mx with
     | none=>PV.slice size (.osl o s off len) l h none
     | some m=>(bnd F 0 (some m)).bind fun m=>PV.slice size (.osl o s off len) l h (some m)
    | _,_=>none
   | _=>none
  | none=>none
 | .bHL x lo hi=>match x.ev F with
  | some (.str s)=>match bnd F 0 lo,bnd F s.length hi with
   | some l,some h=>if 0≤l∧l≤h∧h≤s.length then some (.str ((s.take h.toNat).drop l.toNat)) else none
   | _,_=>none
  | _=>none
 | .sliceA n size x lo hi mx=>match lo,hi,mx with
  | none,none,none=>match x.ev F with
   | some (.bGQ cs)=>if n*size≤cs.length∧0<size∧n≤maxLen then some (.sl size (chunks size n cs)) else none
   | _=>none
  | _,_,_=>none
 | .len x=>(x.ev F).bind PV.uY
 | .bHQ x=>match x.ev F with
  | some (.str s)=>some (.int .i64 s.length)
  | _=>none
 | .bIK x=>match x.ev F with
  | some .bGI=>some (.int .i64 0)
  | _=>none
 | .extract x i=>match x.ev F with
  | some (.tup vs)=>vs[i]?
  | _=>none
 | .bHJ mx x y=>match x.ev F,y.ev F with
  | some (.int k a),some (.int k' b)=>if k=k' then some (.int k (if mx then (if a<b then b else a) else (if b<a then b else a))) else none
  | _,_=>none
 | .mkfn name captured=>(aP.evs F captured).map fun cs=>.fn name cs
 | .lookup sh zero x k ok=>match x.ev F,k.ev F with
  | some (.map o),some kv=>match H o,keyOf sh kv with
   | some (.map sh' g),some key=>if sh'=sh then some (if ok then .tup [(g key).getD zero,.bool (g key).isSome] else (g key).getD zero) else none
   | _,_=>none
  | _,_=>none
 | .bGY x=>match x.ev F with
  | some v=>match dT H 1 v with
   | some rows=>(oC rows).map PV.str
   | none=>none
  | none=>none
 | _=>none
def cR (op:POp) (F:PF):Option ((Nat→PV) × cE) :=
 match op with
 | .alloc cells=>some (fun o=>.ptr o cells.length 0 0,.rows cells.length [cells])
 | .box false x=>match x.ev F with
  | some v=>if v.cells.all PV.one then some (fun o=>.ptr o v.cells.length 0 0,.rows v.cells.length [v.cells]) else none
  | none=>none
 | .bGN false size len zero parts=>if zero.length=size∧len*size≤16777216 then
   (fW size (bIP len zero) F parts).map fun rows=>(fun o=>.osl o size 0 len,.rows size rows)
  else none
 | .bGS size bytes zero l c=>match l.ev F,c.ev F with
  | some (.int _ n),some (.int _ m)=>if 0≤n∧n≤m∧m*bytes≤140737488355328∧m≤9223372036854775807∧zero.length=size then
    some (fun o=>.osl o size 0 n.toNat,.rows size (bIP n.toNat zero))
   else none
  | _,_=>none
 | .bIE sh=>some (fun o=>.map o,.map sh (fun _=>none))
 | _=>none
def storeAt (H:PH) (p:PV) (cells:List PV):Option PH :=
 match p with
 | .ptr o size i c=>match H o with
  | some (.rows s rs)=>if s=size∧c+cells.length≤size∧cells.all PV.one then match rs[i]? with
    | some r=>some (H.set o (.rows s (rs.set i (setCells r c cells))))
    | none=>none
   else none
  | _=>none
 | _=>none
def roomFor (n m bytes:Nat):Prop:=n+m≤maxLen∧(n+m)*bytes≤140737488355328
def mW (H:PH) (size bytes:Nat) (x y:PV) (K:PV→PH→Prop):Prop :=
 ∃ src,dT H size y=some src ∧
  match x with
  | .bGI=>roomFor 0 src.length bytes∧(src=[]→K .bGI H)∧(src≠[]→∀ o,H o=none→K (.osl o size 0 src.length) (H.set o (.rows size src)))
  | .osl o s off len=>s=size∧off=0∧roomFor len src.length bytes∧∃ rs,H o=some (.rows size rs)∧len≤rs.length ∧
    K (.osl o size 0 (len+src.length)) (H.set o (.rows size (rs.take len++src))) ∧
    ∀ o',H o'=none→K (.osl o' size 0 (len+src.length)) (H.set o' (.rows size (rs.take len++src)))
  | _=>False
def bU (op:POp) (F:PF) (H:PH) (K:PV→PH→Prop):Prop :=
 match op with
 | .store n p x=>match p.ev F,x.ev F with
  | some a,some v=>v.cells.length=n∧∃ H',storeAt H a v.cells=some H'∧K .junk H'
  | _,_=>False
 | .append size bytes x y=>match x.ev F,y.ev F with
  | some a,some b=>mW H size bytes a b K
  | _,_=>False
 | .bHG sh x k v=>match x.ev F,k.ev F,v.ev F with
  | some (.map o),some kv,some vv=>match H o,keyOf sh kv with
   | some (.map sh' g),some key=>sh'=sh∧K .junk (H.set o (.map sh (g.upd key vv)))
   | _,_=>False
  | _,_,_=>False
 | .insert sh x k v=>match x.ev F,k.ev F,v.ev F with
  | some (.map o),some kv,some vv=>match H o,keyOf sh kv with
   | some (.map sh' g),some key=>sh'=sh∧g key=none∧K .junk (H.set o (.map sh (g.upd key vv)))
   | _,_=>False
  | _,_,_=>False
 | _=>False
def PV.dP (o s:Nat) (rs:List (List PV)):PV→PV
 | .osl q s' off len=>if q=o then (if s'=s∧off+len≤rs.length then .sl s ((rs.drop off).take len) else .junk) else .osl q s' off len
 | v=>v
def PV.rK (o s:Nat) (rs:List (List PV)):PV→PV
 | .agg cs=>.agg (cs.map (PV.dP o s rs))
 | v=>v.dP o s rs
def PV.frz (o s:Nat) (rs:List (List PV)):PV→PV
 | .tup vs=>.tup (vs.map (PV.rK o s rs))
 | v=>v.rK o s rs
def cE.frz (o s:Nat) (rs:List (List PV)):cE→cE
 | .rows s' rs'=>.rows s' (rs'.map fun r=>r.map (PV.dP o s rs))
 | x=>x
def PF.frz (F:PF) (o s:Nat) (rs:List (List PV)):PF:=fun i=>(F i).map (PV.frz o s rs)
def PH.frz (H:PH) (o s:Nat) (rs:List (List PV)):PH :=
 ⟨fun q=>if q=o then none else (H q).map (cE.frz o s rs),by
  obtain⟨n,hn⟩:=H.fin
  exact⟨n,fun q hq=>by simp[hn q hq]⟩⟩
inductive jI:PF→PH→PF→PH→Prop
 | refl (F:PF) (H:PH):jI F H F H
 | step {F F':PF} {H H':PH} (o:Nat) {s:Nat} {rs:List (List PV)} (ho:H o=some (.rows s rs)) (h:jI (F.frz o s rs) (H.frz o s rs) F' H'):jI F H F' H'
structure Ctx where
 P:Program
 num:Nat→FuncId
inductive eP (E:Env):List PV→List Value→Prop
 | nil:eP E [] []
 | cons {p:PV} {v:Value} {ps:List PV} {vs:List Value} (h:aW E p v) (t:eP E ps vs):eP E (p::ps) (v::vs)
def aH (C:Ctx) (name:Nat) (args:List PV) (H:PH) (R:PV→PH→Prop):Prop :=
 (∃ fn,C.P.funcs[C.num name]?=some fn∧fn.body.isSome=true∧(fn.name=="runtime.NumGoroutine")=false) ∧
 ∀ (E:Env) (w:World) (vs:Array Value),E.num=C.num→bR E H w→eP E args vs.toList →
  Calls C.P (C.num name) vs w fun e w'=>∃ v pv E' H',e=.returned v∧bR E' H' w'∧aW E' pv v∧Ext E H w E' H' w'∧R pv H'
inductive lP where
 | normal
 | exit (id:Nat)
 | ret
abbrev bX:=lP→PF→PH→Prop
def PF.put (F:PF) (d:Option Nat) (v:PV):PF :=
 match d with
 | some d=>F.set d v
 | none=>F
def bS (r:Option PV) (d:Option Nat) (K:PF→PH→Prop) (F:PF) (H:PH):Prop:=∃ v,r=some v∧K (F.put d v) H
def lZ (r:Option ((Nat→PV) × cE)) (d:Option Nat) (K:PF→PH→Prop) (F:PF) (H:PH):Prop :=
 ∃ mk x,r=some (mk,x)∧∀ o,H o=none→K (F.put d (mk o)) (H.set o x)
def mM (H H0 H':PH):Prop:=∀ o x,H' o=some x→H0 o=none→H o=none
def rA (C:Ctx) (name:Nat) (args:Option (List PV)) (d:Option Nat) (K:PF→PH→Prop) (F:PF) (H:PH):Prop :=
 ∃ vs H0 R,args=some vs∧H0.le H∧aH C name vs H0 R∧∀ r H',R r H'→mM H H0 H'→K (F.put d r) (H.over H0 H')
def gW (C:Ctx) (name:Nat) (args:List aP) (cs:List PV) (d:Option Nat) (K:PF→PH→Prop) (F:PF) (H:PH):Prop :=
 rA C name ((aP.evs F args).map (·++cs)) d K F H ∨
 ∃ F1 H1,jI F H F1 H1∧rA C name ((aP.evs F1 args).map (·++cs)) d K F1 H1
def POp.fX:POp→Bool
 | .alloc _ | .box false _ | .bGN false .. | .bGS .. | .bIE _=>true
 | _=>false
def POp.dM:POp→Bool
 | .store .. | .append .. | .bHG .. | .insert ..=>true
 | _=>false
def wpOp (C:Ctx) (op:POp) (d:Option Nat) (K:PF→PH→Prop) (F:PF) (H:PH):Prop :=
 match op with
 | .call name args=>gW C name args [] d K F H
 | .bHT x args=>∃ name cs,x.ev F=some (.fn name cs)∧gW C name args cs d K F H
 | op=>if op.fX then lZ (cR op F) d K F H else if op.dM then bU op F H (fun r H'=>K (F.put d r) H') else bS (aN op F H) d K F H
def wpOps (C:Ctx):List bB→(PF→PH→Prop)→PF→PH→Prop
 | [],K,F,H=>K F H
 | i::rest,K,F,H=>match i.guard with
  | none=>wpOp C i.op i.dst (wpOps C rest K) F H
  | some (t,want)=>match F t with
   | some (.bool b)=>if b=want then wpOp C i.op i.dst (wpOps C rest K) F H else wpOps C rest K (F.put i.dst (.tup [])) H
   | some (.tup [])=>wpOps C rest K (F.put i.dst (.tup [])) H
   | _=>False
def PH.only (H:PH) (D:List Nat):PH :=
 ⟨fun o=>if o∈D then H o else none,by
  obtain⟨n,hn⟩:=H.fin
  exact⟨n,fun o ho=>by simp[hn o ho]⟩⟩
abbrev Spec:=Nat→List PV→Option (List Nat × (PH→PV→PH→Prop))
inductive Kind where
 | fail
 | calm (f:PH→Option PV)
 | new (r:Option ((Nat→PV) × cE))
 | write (w:PH→(PV→PH→Prop)→Prop)
 | call (name:Nat) (args:Option (List PV))
 | ins (r:Option (Nat × MSh × List KS × PV))
def POp.kind (op:POp) (F:PF):Kind :=
 match op with
 | .call name args=>.call name (aP.evs F args)
 | .bHT x args=>match x.ev F with
  | some (.fn name cs)=>.call name ((aP.evs F args).map (·++cs))
  | _=>.fail
 | .insert sh x k v=>.ins (match x.ev F,k.ev F,v.ev F with
  | some (.map o),some kv,some vv=>(keyOf sh kv).map fun key=>(o,sh,key,vv)
  | _,_,_=>none)
 | op=>if op.fX then .new (cR op F) else if op.dM then .write (fun H K=>bU op F H K) else .calm (aN op F)
def bB.kind (i:bB) (F:PF):Kind :=
 match i.guard with
 | none=>i.op.kind F
 | some (t,want)=>match F t with
  | some (.bool b)=>if b=want then i.op.kind F else .calm (fun _=>some (.tup []))
  | some (.tup [])=>.calm (fun _=>some (.tup []))
  | _=>.fail
def Kind.run (C:Ctx) (Hs:PH) (S:Spec) (st:Bool) (k:Kind) (K:PV→PH→Prop) (H:PH):Prop :=
 match k with
 | .fail=>False
 | .calm f=>∃ v,f (if st then Hs else H)=some v∧K v H
 | .new r=>∃ mk x,r=some (mk,x)∧∀ o,H o=none→K (mk o) (H.set o x)
 | .write w=>w H fun r H'=>Hs.le H'∧K r H'
 | .ins r=>∃ o sh key v g,r=some (o,sh,key,v)∧H o=some (.map sh g)∧g key=none∧Hs o=none∧K .junk (H.set o (.map sh (g.upd key v)))
 | .call name args=>∃ vs D R,args=some vs∧S name vs=some (D,R)∧(∀ o∈D,∃ x,H o=some x)∧aH C name vs (H.only D) (R (H.only D)) ∧
   (∀ G:PH,∃ r H',R (H.only D) r H'∧mM G (H.only D) H') ∧
   ∀ r H',R (H.only D) r H'→mM H (H.only D) H'→Hs.le (H.over (H.only D) H')∧K r (H.over (H.only D) H')
def wpD (C:Ctx) (Hs:PH) (S:Spec):List (bB × Bool)→(PF→PH→Prop)→PF→PH→Prop
 | [],K,F,H=>K F H
 | i::rest,K,F,H=>(i.1.kind F).run C Hs S i.2 (fun v H'=>wpD C Hs S rest K (F.put i.1.dst v) H') H
def hC (C:Ctx) (w:bX→PF→PH→Prop) (K:bX):bX
 | .normal,F,H=>w K F H
 | e,F,H=>K e F H
def dJ (id:Nat) (K:bX):bX
 | .exit id',F,H=>if id'=id then K .normal F H else K (.exit id') F H
 | e,F,H=>K e F H
def dQ {α:Type} (Fs:α→PF) (Hs:α→PH) (Pr:α→Prop) (m:α→Nat) (n:Nat) (K:bX):bX
 | .normal,F,H=>∃ a F1 H1,jI F H F1 H1∧Pr a∧m a<n∧(Fs a).le F1∧(Hs a).le H1
 | e,F,H=>K e F H
def aB.wp (C:Ctx):aB→bX→PF→PH→Prop
 | .skip,K,F,H=>K .normal F H
 | .region ops,K,F,H=>wpOps C ops (K .normal) F H
 | .draw ops,K,F,H=>∃ Hs S,PH.le Hs H∧wpD C Hs S ops (K .normal) F H
 | .seq a b,K,F,H=>a.wp C (hC C (b.wp C) K) F H
 | .cond c a b,K,F,H=>match c.ev F with
  | some (.bool t)=>if t then a.wp C K F H else b.wp C K F H
  | _=>False
 | .block id c,K,F,H=>c.wp C (dJ id K) F H
 | .loop c,K,F,H=>∃ (α:Type) (Fs:α→PF) (Hs:α→PH) (Pr:α→Prop) (m:α→Nat) (a0:α) (F1:PF) (H1:PH),jI F H F1 H1∧Pr a0∧(Fs a0).le F1∧(Hs a0).le H1 ∧
   ∀ a,Pr a→c.wp C (dQ Fs Hs Pr m (m a) K) (Fs a) (Hs a)
 | .exit id,K,F,H=>K (.exit id) F H
 | .ret,K,F,H=>K .ret F H
def dW.ev (F:PF) (H:PH):dW→Option PV
 | .tmp t=>F t
 | .cell t none=>match F t with
  | some p=>match loadCells H p 1 with
   | some [v]=>some v
   | _=>none
  | none=>none
 | .cell t (some k)=>match F t with
  | some p=>(loadCells H p k).map .agg
  | none=>none
def dW.evs (F:PF) (H:PH):List dW→Option (List PV)
 | []=>some []
 | r::rs=>match r.ev F H,dW.evs F H rs with
  | some v,some vs=>some (v::vs)
  | _,_=>none
def bH:List PV→PV
 | [v]=>v
 | vs=>.tup vs
def aR (res:List dW) (R:PV→PH→Prop):bX
 | .exit _,_,_=>False
 | _,F,H=>∃ vs,dW.evs F H res=some vs∧∃ F1 H1 H2,jI (PF.nil.set 0 (bH vs)) H F1 H1∧H2.le H1∧∃ v,F1 0=some v∧R v H2
def PF.args (vs:List PV):PF:=fun i=>vs[i]?
structure Tbl where
 P:Program
 num:Nat→FuncId
 name:FuncId→Option Nat
 ro:List Nat:=[]
def ofValue:Value→Option PV
 | .int k n=>some (.int k n)
 | .bool b=>some (.bool b)
 | .string s=>some (.str s.data.toList)
 | .slice none 0 0=>some .bGI
 | .pointer none=>some (.lit (.pointer none))
 | .map none=>some (.lit (.map none))
 | .nilIface=>some (.lit .nilIface)
 | .nilFunc=>some (.lit .nilFunc)
 | _=>none
theorem tR {E:Env} {v:Value} {pv:PV} (h:ofValue v=some pv):aW E pv v:=by
 unfold ofValue at h
 split at h<;>cases h
 ·exact .int _ _
 ·exact .bool _
 ·exact .str _
 ·exact .bGI
 all_goals exact .lit _
def ofValues:List Value→Option (List PV)
 | []=>some []
 | v::vs=>match ofValue v,ofValues vs with
  | some p,some ps=>some (p::ps)
  | _,_=>none
namespace Tbl
variable (T:Tbl)
def opd:Operand→Option aP
 | .tmp t=>some (.tmp t)
 | .const v=>(ofValue v).map .const
 | .func f=>match T.name f with
  | some n=>if T.num n=f then some (.const (.fn n [])) else none
  | none=>none
 | .global _=>none
def XR:List Operand→Option (List aP)
 | []=>some []
 | x::xs=>match T.opd x,XR xs with
  | some p,some ps=>some (p::ps)
  | _,_=>none
def size (t:TypeId):Option Nat:=(T.P.info? t).map (·.size)
def isAgg (t:TypeId):Option Bool :=
 match T.P.underlying t with
 | some (.struct _) | some (.array _ _)=>some true
 | some _=>some false
 | none=>none
def zero (t:TypeId):Option (List PV):=((T.P.info? t).bind (·.zero)).bind fun z=>ofValues z.cells.toList
def scalar (t:TypeId):Option Sc :=
 match T.P.underlying t with
 | some (.int _)=>some .int
 | some .bool=>some .bool
 | some .string=>some .str
 | _=>none
def qB:Nat→List Field→Option (List Sc)
 | _,[]=>some []
 | k,f::fs=>match T.scalar f.type,qB (k+1) fs with
  | some c,some cs=>if f.name≠"_"∧f.offset=k then some (c::cs) else none
  | _,_=>none
def flat (t:TypeId):Option (List Sc) :=
 match T.P.underlying t with
 | some (.struct fs)=>if T.P.stoodInHeld t=false∧T.P.eqGuardType T.P.depth t=false then T.qB 0 fs.toList else none
 | _=>none
def wZ (t:TypeId):Option KSh :=
 match T.P.underlying t with
 | some (.int k)=>some (.int k)
 | some .bool=>some .bool
 | some .string=>some .str
 | _=>none
def kE:Nat→List Field→Option (List KSh)
 | _,[]=>some []
 | k,f::fs=>match T.wZ f.type,kE (k+1) fs with
  | some c,some cs=>if f.name≠"_"∧f.offset=k then some (c::cs) else none
  | _,_=>none
def kL (t:TypeId):Option MSh :=
 match T.P.underlying t with
 | some (.struct fs)=>if T.P.stoodInHeld t=false then (T.kE 0 fs.toList).map fun l=>(true,l) else none
 | _=>(T.wZ t).map fun c=>(false,[c])
def opt (x:Option Operand):Option (Option aP) :=
 match x with
 | none=>some none
 | some x=>(T.opd x).map some
def place (fs:Array Field) (i:Nat):Option (Nat × Nat) :=
 match fs[i]? with
 | some f=>(T.size f.type).map (f.offset,·)
 | none=>none
def partsOf (place:Nat→Option (Nat × Nat)):List (Nat × Operand)→Option (List (Nat × Nat × aP))
 | []=>some []
 | (i,x)::rest=>match place i,T.opd x,partsOf place rest with
  | some (off,size),some p,some ps=>some ((off,size,p)::ps)
  | _,_,_=>none
def qL:List (Nat × Operand)→Option (List (Nat × aP))
 | []=>some []
 | (i,x)::rest=>match T.opd x,qL rest with
  | some p,some ps=>some ((i,p)::ps)
  | _,_=>none
def akH (d:Option Tmp):Bool :=
 match d with
 | some d=>T.ro.contains d
 | none=>false
def call (o:Oper) (c:Call):Option POp :=
 match c.callee with
 | .builtin b=>match b,c.args.toList,c.argTypes.toList with
  | .len,[x],[t]=>match T.P.underlying t with
   | some (.array n _)=>some (.mv (.const (.int .i64 n)))
   | some .string=>(T.opd x).map .bHQ
   | some (.slice _)=>(T.opd x).map .len
   | _=>none
  | .append,[x,y],[t,u]=>match T.P.underlying t,T.P.underlying u with
   | some (.slice e),some (.slice _)=>match T.P.info? e,T.opd x,T.opd y with
    | some i,some a,some b=>if t=u∧i.zero.isSome∧(i.zero.map (·.cells.size))=some i.size∧0<i.size then some (.append i.size i.bytes a b) else none
    | _,_,_=>none
   | _,_=>none
  | .cap,[x],[t]=>match T.P.underlying t with
   | some (.slice _)=>(T.opd x).map .bIK
   | _=>none
  | .max,[x,y],_=>match T.opd x,T.opd y with
   | some a,some b=>some (.bHJ true a b)
   | _,_=>none
  | .min,[x,y],_=>match T.opd x,T.opd y with
   | some a,some b=>some (.bHJ false a b)
   | _,_=>none
  | _,_,_=>none
 | .value (.func f)=>match T.name f,T.XR c.args.toList with
  | some n,some xs=>if T.num n=f then some (.call n xs) else none
  | _,_=>none
 | .value (.tmp t)=>(T.XR c.args.toList).map (.bHT (.tmp t))
 | _=>none
def op (o:Oper):Option POp :=
 match o.op with
 | .move x | .assign x=>(T.opd x).map .mv
 | .pick c a b=>match T.opd c,T.opd a,T.opd b with
  | some c,some a,some b=>some (.pick c a b)
  | _,_,_=>none
 | .alloc e=>(T.zero e).map .alloc
 | .box _ x=>(T.opd x).map (.box (T.akH o.dst))
 | .build t parts=>match T.zero t,T.P.underlying t with
  | some z,some (.struct fs)=>if (fs.toList.mapM (fun f=>(T.P.info? f.type).map fun i=>(f.offset,i.size))).isSome then
    (T.partsOf (T.place fs) parts.toList).map (.build z)
   else none
  | some z,some (.array _ e)=>match T.size e with
   | some s=>(T.partsOf (fun i=>some (i*s,s)) parts.toList).map (.build z)
   | none=>none
  | _,_=>none
 | .buildSlice t len parts=>match T.P.underlying t with
  | some (.slice e)=>match T.size e,T.zero e,T.qL parts.toList with
   | some s,some z,some ps=>if z.length=s∧0<s then some (.bGN (T.akH o.dst) s len z ps) else none
   | _,_,_=>none
  | _=>none
 | .load t a=>match T.isAgg t,T.size t,T.opd a with
  | some true,some n,some p=>some (.load (some n) p)
  | some false,_,some p=>some (.load none p)
  | _,_,_=>none
 | .store t a x=>match T.size t,T.opd a,T.opd x with
  | some n,some p,some v=>some (.store n p v)
  | _,_,_=>none
 | .nilCheck x=>(T.opd x).map .bGX
 | .binOp b t x y _=>match T.opd x,T.opd y with
  | some p,some q=>match b with
   | .eql=>match T.P.underlying t with
    | some (.int _) | some .string=>some (.bin .eql p q)
    | some .bool=>some (.eqb false p q)
    | some (.struct _)=>(T.flat t).map fun ks=>.eqs false ks p q
    | _=>none
   | .neq=>match T.P.underlying t with
    | some (.int _) | some .string=>some (.bin .neq p q)
    | some .bool=>some (.eqb true p q)
    | some (.struct _)=>(T.flat t).map fun ks=>.eqs true ks p q
    | _=>none
   | b=>some (.bin b p q)
  | _,_=>none
 | .unOp u _ x=>(T.opd x).map (.un u)
 | .convert s d x=>match T.P.underlying s,T.P.underlying d,T.opd x with
  | some (.int _),some (.int k),some p=>some (.conv k p)
  | some .string,some .string,some p=>some (.same p)
  | some (.slice e),some .string,some p=>match T.P.underlying e with
   | some (.int .u8)=>some (.bGY p)
   | _=>none
  | _,_,_=>none
 | .makeFunc (.func f) first captured=>match T.name f,T.XR captured.toList with
  | some n,some cs=>if T.num n=f∧first.size=0 then some (.mkfn n cs) else none
  | _,_=>none
 | .makeMap t none=>match T.P.underlying t with
  | some (.map k _)=>(T.kL k).map .bIE
  | _=>none
 | .lookup t x k ok=>match T.P.underlying t with
  | some (.map kt et)=>match T.kL kt,(T.P.info? et).bind (·.zero),T.opd x,T.opd k with
   | some sh,some z,some p,some q=>(ofValue z).map fun z=>.lookup sh z p q ok
   | _,_,_,_=>none
  | _=>none
 | .mapUpdate t x k v=>match T.P.underlying t with
  | some (.map kt _)=>match T.kL kt,T.opd x,T.opd k,T.opd v with
   | some sh,some p,some q,some r=>some (.bHG sh p q r)
   | _,_,_,_=>none
  | _=>none
 | .insert t x k v=>match T.P.underlying t with
  | some (.map kt _)=>match T.kL kt,T.opd x,T.opd k,T.opd v with
   | some sh,some p,some q,some r=>some (.insert sh p q r)
   | _,_,_,_=>none
  | _=>none
 | .makeSlice t l c=>match T.P.underlying t with
  | some (.slice e)=>match T.P.info? e,T.zero e,T.opd l,T.opd c with
   | some i,some z,some a,some b=>if z.length=i.size∧0<i.size then some (.bGS i.size i.bytes z a b) else none
   | _,_,_,_=>none
  | _=>none
 | .slice t x lo hi mx=>match T.P.underlying t,T.opd x,T.opt lo,T.opt hi,T.opt mx with
  | some (.slice e),some p,some l,some h,some m=>if mx.isSome=true∧hi.isNone=true then none else (T.size e).map fun s=>.slice s p l h m
  | some .string,some p,some l,some h,some none=>some (.bHL p l h)
  | some (.array n e),some p,some none,some none,some none=>(T.size e).map fun s=>.sliceA n s p none none none
  | _,_,_,_,_=>none
 | .fieldAddr t x f=>match T.P.underlying t,T.opd x with
  | some (.struct fs),some p=>match fs[f]? with
   | some fd=>match T.size fd.type with
    | some (_+1)=>some (.bHU fd.offset p)
    | _=>none
   | none=>none
  | _,_=>none
 | .field t x f=>match T.P.underlying t,T.opd x with
  | some (.struct fs),some p=>match fs[f]? with
   | some fd=>match T.isAgg fd.type,T.size fd.type with
    | some true,some n=>some (.field fd.offset (some n) p)
    | some false,_=>some (.field fd.offset none p)
    | _,_=>none
   | none=>none
  | _,_=>none
 | .indexAddr t x i=>match T.P.underlying t,T.opd x,T.opd i with
  | some (.slice e),some p,some q=>(T.size e).map fun s=>.bHD s p q
  | some (.array n e),some p,some q=>(T.size e).map fun s=>.idxA n s p q
  | _,_,_=>none
 | .index t x i=>match T.P.underlying t,T.opd x,T.opd i with
  | some (.array n e),some p,some q=>match T.size e,T.isAgg e with
   | some s,some g=>some (.idxV n s g p q)
   | _,_=>none
  | some .string,some p,some q=>some (.bHR p q)
  | _,_,_=>none
 | .extract x i=>(T.opd x).map (.extract · i)
 | .call c=>T.call o c
 | _=>none
def RC (n:Nat) (ops:Array Oper) (o:Oper):Option bB :=
 let p:=(T.op o).getD .stuck
 if o.dst.all (·<n) then
  match o.guard with
  | none=>some ⟨o.dst,p,none⟩
  | some (j,want)=>match (ops[j]?).bind (·.dst) with
   | some t=>some ⟨o.dst,p,some (t,want)⟩
   | none=>none
 else none
def pL (n:Nat) (ops:Array Oper):List Oper→Option (List bB)
 | []=>some []
 | o::os=>match T.RC n ops o,pL n ops os with
  | some i,some is=>some (i::is)
  | _,_=>none
end Tbl
end Go.PM
namespace Go.PM
open Go
structure dN (n:Nat) (E:Env) (F:PF) (a:Act):Prop where
 size:a.tmps.size=n
 defers:a.defers=[]
 t:∀ i pv,F i=some pv→aW E pv (a.tmps.getD i undef)
theorem dN.mono {n:Nat} {E E':Env} (h:E.le E') {F:PF} {a:Act} (r:dN n E F a):dN n E' F a:=⟨r.size,r.defers,fun i pv hi=>(r.t i pv hi).mono h⟩
theorem dN.weaken {n:Nat} {E:Env} {F F0:PF} {a:Act} (r:dN n E F a) (h:F0.le F):dN n E F0 a:=⟨r.size,r.defers,fun i pv hi=>r.t i pv (h i pv hi)⟩
theorem dN.put {n:Nat} {E:Env} {F:PF} {a:Act} (r:dN n E F a) {d:Option Tmp} (hd:d.all (·<n)=true) {pv:PV} {v:Value} (h:aW E pv v):dN n E (F.put d pv) (a.put d v):=by
 cases d with
 | none=>exact r
 | some d =>
  have hd':d<n:=by simpa using hd
  refine⟨by simp[Act.put,r.size],by simp[Act.put,r.defers],fun i qv hi=>?_⟩
  simp only[PF.put,PF.set,upd] at hi
  split at hi
  ·rename_i e
   subst e
   cases hi
   simp only[Act.put,Array.getD_eq_getD_getElem?]
   rw[Array.getElem?_setIfInBounds]
   simp[r.size,hd',h]
  ·rename_i e
   have:=r.t i qv hi
   simp only[Act.put,Array.getD_eq_getD_getElem?] at this ⊢
   rw[Array.getElem?_setIfInBounds,if_neg Om]
   exact this
section
variable {T:Tbl} {n:Nat} {E:Env} {F:PF} {H:PH} {a:Act} {w:World}
theorem bG {x:Operand} {p:aP} {pv:PV} (hx:T.opd x=some p) (hv:p.ev F=some pv) (hA:dN n E F a) (hN:E.num=T.num):aW E pv (a.eval x):=by
 cases x with
 | tmp t =>
  simp[Tbl.opd] at hx
  subst hx
  exact hA.t t pv hv
 | const v =>
  simp only[Tbl.opd,bIW] at hx
  obtain⟨q,hq,rfl⟩:=hx
  simp[aP.ev] at hv
  subst hv
  exact tR hq
 | global g=>simp[Tbl.opd] at hx
 | func f =>
  simp only[Tbl.opd] at hx
  split at hx
  ·rename_i m hm
   split at hx
   ·rename_i hf
    cases hx
    simp[aP.ev] at hv
    subst hv
    have:=aW.fn (E:=E) (name:=m) (captured:=[]) #[] rfl (by intro j pv v h; simp at h)
    rw[hN,hf] at this
    exact this
   ·cases hx
  ·cases hx
theorem HI {xs:List Operand}:∀ {ps:List aP} {pvs:List PV},T.XR xs=some ps→aP.evs F ps=some pvs→dN n E F a→E.num=T.num→eP E pvs (xs.map a.eval):=by
 induction xs with
 | nil =>
  intro ps pvs h1 h2 _ _
  simp[Tbl.XR] at h1; subst h1
  simp[aP.evs] at h2; subst h2
  exact .nil
 | cons x xs ih =>
  intro ps pvs h1 h2 hA hN
  simp only[Tbl.XR] at h1
  split at h1
  ·rename_i p ps' hp hps
   cases h1
   simp only[aP.evs] at h2
   split at h2
   ·rename_i v vs hv hvs
    cases h2
    exact .cons (bG hp hv hA hN) (ih hps hvs hA hN)
   ·cases h2
  ·cases h1
theorem bR.aSQ (hW:bR E H w) {b off:Nat} {u:Value} (h:E.cell b off=some u):w.cell? ⟨b,off,none⟩=some u:=by
 unfold Env.cell at h
 cases hg:E.G b with
 | none=>simp[hg] at h
 | some cs =>
  obtain⟨-,ty,fr,hh⟩:=hW.g b cs hg
  rw[cell_of_row w b off cs ty fr hh]
  simpa [hg] using h
theorem add_plain (b off i:Nat):(⟨b,off,none⟩:Addr).add i=⟨b,off+i,none⟩:=by unfold Addr.add; split<;>simp_all
theorem mP {ad:Addr} (h:ad.spot=none):ad=⟨ad.block,ad.off,none⟩:=by cases ad; simp_all
theorem nN {pv:PV} {v:Value} (hW:bR E H w) (hv:aW E pv v) {k:Nat} {cs:List PV} (h:loadCells H pv k=some cs) :
  ∃ b off,v=.pointer (some ⟨b,off,none⟩)∧cs.length=k∧∃ us:List Value,us.length=k∧(∀ u∈us,u.oneCell'=true) ∧
   (∀ (j:Nat) u,us[j]?=some u→w.cell? ⟨b,off+j,none⟩=some u)∧∀ (j:Nat) q u,cs[j]?=some q→us[j]?=some u→aW E q u:=by
 unfold loadCells at h
 split at h
 ·rename_i o size i c
  cases hv
  split at h
  ·rename_i s rs ho
   split at h
   ·rename_i hs
    subst hs
    split at h
    ·rename_i r hr
     split at h
     ·rename_i hck
      cases h
      obtain⟨-,cur,ty,hh,hsz,bGV,hlen,hc⟩:=hW.h o _ ho
      have hat:∀ j,j<k→∃ u,cur[i*s+(c+j)]?=some u∧u.oneCell'=true∧aW E (r.getD (c+j) .junk) u:=by
       intro j hj
       refine hc i (c+j) _ ?_
       simp only[at2,hr,bLQ,bJE]
       rw[bIZ Om]
       rfl
      refine⟨o,i*s+c,rfl,by simp; omega,?_⟩
      refine⟨(bIN k).map fun j=>(cur[i*s+(c+j)]?).getD undef,by simp,?_,?_,?_⟩
      ·intro u hu
       simp only[bJV,bKR] at hu
       obtain⟨j,hj,rfl⟩:=hu
       obtain⟨u,h1,h2,-⟩:=hat j hj
       simp[h1,h2]
      ·intro j u hu
       simp only[bJU,bIW] at hu
       obtain⟨j',hj',rfl⟩:=hu
       have hjk:j<k:=by
        rcases bJG j k with h | h
        ·exact h
        ·rw[bJY (by simpa using h)] at hj'; cases hj'
       rw[List.getElem?_range hjk] at hj'
       cases hj'
       obtain⟨u,h1,-,-⟩:=hat j hjk
       rw[cell_of_row w o _ cur ty (0,0) hh,bKS,h1]
       rfl
      ·intro j q u hq hu
       simp only[bJU,bIW] at hu
       obtain⟨j',hj',rfl⟩:=hu
       have hjk:j<k:=by
        rcases bJG j k with h | h
        ·exact h
        ·rw[bJY (by simpa using h)] at hj'; cases hj'
       rw[List.getElem?_range hjk] at hj'
       cases hj'
       obtain⟨u,h1,-,h3⟩:=hat j hjk
       have hqq:r.getD (c+j) .junk=q:=by
        rw[bLK,if_pos hjk,List.getElem?_drop] at hq
        simp[hq]
       rw[← hqq,h1]
       exact h3
     ·cases h
    ·cases h
   ·cases h
  ·cases h
 ·rename_i cells
  cases hv with
  | bGQ u hsp hc h1 hr =>
  rename_i ad
  split at h
  ·rename_i hle
   cases h
   refine⟨ad.block,ad.off,by rw[← mP hsp],by simp; omega,(bIN k).map u,by simp,?_,?_,?_⟩
   ·intro x hx
    simp only[bJV] at hx
    obtain⟨j,-,rfl⟩:=hx
    exact h1 j
   ·intro j x hx
    simp only[bJU,bIW] at hx
    obtain⟨j',hj',rfl⟩:=hx
    have hjk:j<k:=by
     rcases bJG j k with h | h
     ·exact h
     ·rw[bJY (by simpa using h)] at hj'; cases hj'
    rw[List.getElem?_range hjk] at hj'
    cases hj'
    exact hW.aSQ (hc j _ (bIZ Om))
   ·intro j q x hq hx
    simp only[bJU,bIW] at hx
    obtain⟨j',hj',rfl⟩:=hx
    have hjk:j<k:=by
     rcases bJG j k with h | h
     ·exact h
     ·rw[bJY (by simpa using h)] at hj'; cases hj'
    rw[List.getElem?_range hjk] at hj'
    cases hj'
    rw[bLK,if_pos hjk] at hq
    exact hr j q hq
  ·cases h
 ·cases h
theorem baF {op : BinOp} {px py pv : PV} {x y : Value} (hx : aW E px x) (hy : aW E py y) (h : PV.bin op px py = some pv) (t : TypeId) (ox oy : Operand) :
    ∃ v, (do eqGuard op t ox oy x y; binOp op t x y : Sem Value).run T.P w = .ok v w ∧ aW E pv v := by
  unfold PV.bin at h
  split at h
  · cases hx; cases hy
    unfold shift at h
    split at h
    · cases h
    · rename_i hb
      cases h
      exact ⟨_, by simp [eqGuard, binOp, Op.shift, hb], .int _ _⟩
  · cases hx; cases hy
    unfold shift at h
    split at h
    · cases h
    · rename_i hb
      cases h
      exact ⟨_, by simp [eqGuard, binOp, Op.shift, hb], .int _ _⟩
  · rename_i op' k a k' b n1 n2
    cases hx; cases hy
    split at h
    · rename_i hk
      subst hk
      cases op <;> simp only [kG] at h <;>
        first
          | (cases h; refine ⟨_, ?_, aW.int _ _⟩; simp [eqGuard, binOp, Op.intArith, Op.intBits]; done)
          | (cases h; refine ⟨_, ?_, aW.bool _⟩; simp [eqGuard, binOp, Op.intCmp]; done)
          | (split at h
             · cases h
             · rename_i hb
               cases h
               refine ⟨_, ?_, aW.int _ _⟩
               simp [eqGuard, binOp, Op.intDiv, hb])
          | cases h
    · cases h
  · rename_i op' a b
    cases hx with
    | str s =>
    cases hy with
    | str s' =>
    cases op <;> simp only [LD] at h <;>
      first
        | (cases h; refine ⟨_, ?_, aW.bool _⟩; simp [eqGuard, binOp, Op.stringOp, ByteArray.toList_eq]; done)
        | (split at h
           · cases h
           · rename_i hb
             cases h
             refine ⟨.string (s ++ s'), ?_, ?_⟩
             · have hb' : ¬ (((s.size + s'.size : Nat) : Int) > IntKind.i64.max) := by
                 intro hh
                 apply hb
                 have e1 : s.data.toList.length = s.size := by rw [bLD]; rfl
                 have e2 : s'.data.toList.length = s'.size := by rw [bLD]; rfl
                 rw [e1, e2]
                 exact hh
               have e1 : Op.stringOp .add s s' = pure (.string (s ++ s')) := by unfold Op.stringOp; exact if_neg hb'
               have e2 : binOp .add t (.string s) (.string s') = pure (.string (s ++ s')) := by unfold binOp; exact e1
               simp [eqGuard, e2]
             · have e : s.data.toList ++ s'.data.toList = (s ++ s').data.toList := by rw [ByteArray.data_append, Array.toList_append]
               rw [e]
               exact .str _)
        | cases h
  · cases h
theorem boB {u:UnOp} {px pv:PV} {x:Value} (hx:aW E px x) (h:PV.un u px=some pv):∃ v,(Op.unary u x).run T.P w=.ok v w∧aW E pv v:=by
 unfold PV.un at h
 split at h
 ·cases hx
  split at h
  ·cases h; exact⟨_,by simp[Op.unary,Op.intArith],.int _ _⟩
  ·cases h; exact⟨_,by simp[Op.unary,Op.intBits],.int _ _⟩
  ·cases h
 ·cases hx
  split at h
  ·cases h; exact⟨_,by simp[Op.unary],.bool _⟩
  ·cases h
 ·cases h
end
open Go Go.RowKit
def Yields (P:Program) (E:Env) (H:PH) (w:World) (s:Sem Value) (pv:PV):Prop :=
 ∃ v w' E',s.run P w=.ok v w'∧aW E' pv v∧bR E' H w'∧Ext E H w E' H w'
theorem Yields.same {P:Program} {E:Env} {H:PH} {w:World} {s:Sem Value} {pv:PV} {v:Value} (hW:bR E H w) (h:s.run P w=.ok v w) (r:aW E pv v):Yields P E H w s pv :=
 ⟨v,w,E,h,r,hW,.refl E H w⟩
def Env.add (E:Env) (b:Nat) (cs:Array Value):Env:=⟨upd E.G b (some cs),upd E.sz b (some cs.size),E.num⟩
section
variable {T:Tbl} {n:Nat} {E:Env} {F:PF} {H:PH} {a:Act} {w:World}
theorem bR.a3U (hW:bR E H w) {b:Nat} {cs:Array Value} (h:E.G b=some cs):b<w.heap.size:=by
 obtain⟨-,ty,fr,hh⟩:=hW.g b cs h
 exact (bLU.1 hh).1
theorem bR.aIY (hW:bR E H w) {b n:Nat} (h:E.sz b=some n):b<w.heap.size:=by
 obtain⟨cur,ty,fr,hh,-⟩:=hW.s b n h
 exact (bLU.1 hh).1
theorem bR.a4K (hW:bR E H w):H w.heap.size=none:=by
 cases h:H w.heap.size with
 | none=>rfl
 | some x=>have:=(hW.h _ x h).1; omega
theorem Env.bvQ (hW:bR E H w) (cs:Array Value):E.le (E.add w.heap.size cs):=by
 refine⟨fun b ds h=>?_,fun b m h=>?_,rfl⟩
 ·have:=hW.a3U h
  simp only[Env.add]
  rw[PT _ _ Om]
  exact h
 ·have:=hW.aIY h
  simp only[Env.add]
  rw[PT _ _ Om]
  exact h
theorem bR.bpG (hW:bR E H w) (cs:Array Value) (ty:TypeId):bR (E.add w.heap.size cs) H (w.alloc (.cells cs ty))∧Ext E H w (E.add w.heap.size cs) H (w.alloc (.cells cs ty)):=by
 have hle:=Env.bvQ hW cs
 refine⟨⟨fun b ds h=>?_,fun o x h=>?_,fun o m h=>?_⟩,⟨hle,rfl,rfl,rfl,by simp,fun b hb _=>Below.heap_alloc w _ b hb,fun o x h=>.inl ⟨x,h⟩,fun b ds h=>?_⟩⟩
 ·simp only[Env.add,upd] at h
  split at h
  ·rename_i e
   cases h
   subst e
   exact⟨fun x hx=>by (rw[hW.a4K] at hx; cases hx),ty,(0,0),heap_alloc_new w _⟩
  ·obtain⟨h1,ty',fr,h2⟩:=hW.g b ds h
   exact⟨h1,ty',fr,(Below.heap_alloc w _ b (hW.a3U h)).trans h2⟩
 ·obtain⟨h1,h2⟩:=hW.h o x h
  exact⟨by simp; omega,h2.mono hle (Below.heap_alloc w _ o h1)⟩
 ·simp only[Env.add,upd] at h
  split at h
  ·rename_i e
   cases h
   subst e
   exact⟨cs,ty,(0,0),heap_alloc_new w _,rfl⟩
  ·obtain⟨cur,ty',fr,h1,h2⟩:=hW.s o m h
   exact⟨cur,ty',fr,(Below.heap_alloc w _ o (hW.aIY h)).trans h1,h2⟩
 ·simp only[Env.add,upd] at h
  split at h
  ·rename_i e; exact .inr (.inr Om)
  ·exact .inl h
theorem a7L {pv:PV} {v:Value} (h:aW E pv v) (h1:pv.one=true):v.oneCell'=true:=by
 cases h with
 | lit v=>cases v<;>first | rfl | (simp[PV.one] at h1)
 | junk v=>simp[PV.one] at h1
 | agg vs=>simp[PV.one] at h1
 | tup vs=>simp[PV.one] at h1
 | _=>rfl
theorem uC {pv:PV} {v:Value} (h:aW E pv v) (h1:pv.cells.all PV.one=true) :
  v.cells.size=pv.cells.length∧(∀ u∈v.cells.toList,u.oneCell'=true)∧∀ (j:Nat) q u,pv.cells[j]?=some q→v.cells[j]?=some u→aW E q u:=by
 by_cases hag:∃ cs,pv=.agg cs
 ·obtain⟨cs,rfl⟩:=hag
  cases h with
  | agg vs hl ho hr=>exact⟨hl,ho,hr⟩
 ·have hc:pv.cells=[pv]:=by
   cases pv<;>first | rfl | (exact absurd ⟨_,rfl⟩ hag)
  rw[hc] at h1 ⊢
  have ho:v.oneCell'=true:=a7L h (by simpa using h1)
  have hv:v.cells=#[v]:=by
   cases v<;>first | rfl | (simp[Value.oneCell'] at ho)
  rw[hv]
  refine⟨rfl,by simpa using ho,fun j q u hq hu=>?_⟩
  cases j with
  | zero=>simp at hq hu; subst hq; subst hu; exact h
  | succ j=>simp at hq
theorem amO {c:Sc} {p q:PV} {x y:Value} (hx:aW E p x) (hy:aW E q y) {b:Bool} (h:PV.eq1 c p q=some b) {t:TypeId} (ht:T.scalar t=some c) (d:Nat) :
  (Op.equalIn (d+1) t x y).run T.P w=.ok b w:=by
 unfold Tbl.scalar at ht
 unfold PV.eq1 at h
 split at h
 ·cases hx; cases hy
  split at h
  ·rename_i e
   subst e
   cases h
   split at ht<;>cases ht
   rename_i k2 hu
   exact run_equalIn_int w d t _ k2 _ _ hu
  ·cases h
 ·cases hx; cases hy; cases h
  split at ht<;>cases ht
  rename_i hu
  exact run_equalIn_bool w d t _ _ hu
 ·cases hx with
  | str s =>
  cases hy with
  | str s' =>
  cases h
  split at ht<;>cases ht
  rename_i hu
  rw[run_equalIn_string w d t s s' hu,ByteArray.toList_eq,ByteArray.toList_eq]
 ·cases h
theorem HJ {t:TypeId} {c:Sc} (ht:T.scalar t=some c) (cs:Array Value) (k:Nat) (v:Value) (hk:cs[k]?=some v):(part t cs k).run T.P w=.ok v w:=by
 have hag:(isAgg t).run T.P w=.ok false w:=by
  unfold Tbl.scalar at ht
  split at ht<;>cases ht<;>(rename_i hu; simp[isAgg,run_underlying hu])
 simp[part,hag,hk]
theorem LN (d:Nat) (vs us:Array Value):∀ (fs:List Field) (ks:List Sc) (k:Nat) (xs ys:List PV) (b:Bool),T.qB k fs=some ks→PV.eqs ks xs ys=some b →
  (∀ (j:Nat) q u,xs[j]?=some q→vs[k+j]?=some u→aW E q u)→(∀ (j:Nat) q u,ys[j]?=some q→us[k+j]?=some u→aW E q u) →
  vs.size=k+xs.length→us.size=k+ys.length→(Op.eqFields (d+1) vs us fs).run T.P w=.ok b w
 | [],ks,k,xs,ys,b,hf,he,hx,hy,hl,hm=>by
  simp[Tbl.qB] at hf
  subst hf
  cases xs<;>cases ys<;>simp[PV.eqs] at he
  subst he
  simp[Op.eqFields]
 | f::fs,ks,k,xs,ys,b,hf,he,hx,hy,hl,hm=>by
  simp only[Tbl.qB] at hf
  split at hf
  ·rename_i c cs hc hcs
   split at hf
   ·rename_i hn
    cases hf
    cases xs with
    | nil=>simp[PV.eqs] at he
    | cons x xs =>
    cases ys with
    | nil=>simp[PV.eqs] at he
    | cons y ys =>
    simp only[PV.eqs] at he
    simp only[bLG] at hl hm
    have hv:vs[k]?=some vs[k]:=bLR Om
    have hu:us[k]?=some us[k]:=bLR Om
    have rx:aW E x vs[k]:=hx 0 x _ rfl (by simp)
    have ry:aW E y us[k]:=hy 0 y _ rfl (by simp)
    simp only[Op.eqFields]
    rw[if_pos hn.1]
    simp only[Sem.run_bind,hn.2,HJ hc vs k _ hv,HJ hc us k _ hu,Result.andThen_ok]
    split at he
    ·rename_i h1
     rw[amO rx ry h1 hc d]
     simp only[Result.andThen_ok,bIO,bLS,if_false]
     refine LN d vs us fs cs (k+1) xs ys b hcs he (fun j q u a c=>hx (j+1) q u (by simpa using a) (by rw[← c]; congr 1; omega)) (fun j q u a c=>hy (j+1) q u (by simpa using a) (by rw[← c]; congr 1; omega)) Om Om
    ·rename_i h1
     rw[amO rx ry h1 hc d]
     simp only[Result.andThen_ok,bIY,if_true,Sem.run_pure]
     split at he
     ·cases he; rfl
     ·cases he
    ·cases he
   ·cases hf
  ·cases hf
theorem baP (neg:Bool) (a b:Bool) {t:TypeId} (ox oy:Operand) (ht:T.P.underlying t=some .bool) :
  (do eqGuard (if neg then .neq else .eql) t ox oy (.bool a) (.bool b); binOp (if neg then .neq else .eql) t (.bool a) (.bool b):Sem Value).run T.P w=.ok (.bool ((a==b) != neg)) w:=by
 cases neg
 ·simp[eqGuard,run_eql_bool w t a b ht]
 ·simp[eqGuard,run_neq_bool w t a b ht]
theorem a3G (neg:Bool) {ks:List Sc} {xs ys:List PV} {x y:Value} (hx:aW E (.agg xs) x) (hy:aW E (.agg ys) y) {b:Bool} (hb:PV.eqs ks xs ys=some b) {t:TypeId} (ox oy:Operand)
  (ht:T.flat t=some ks):(do eqGuard (if neg then .neq else .eql) t ox oy x y; binOp (if neg then .neq else .eql) t x y:Sem Value).run T.P w=.ok (.bool (b != neg)) w:=by
 cases hx with
 | agg vs hl ho hr =>
 cases hy with
 | agg us hl' ho' hr' =>
 unfold Tbl.flat at ht
 split at ht
 ·rename_i fs hu
  split at ht
  ·rename_i hg
   have hfo:T.P.fieldsOf t=fs:=by simp[Program.fieldsOf,hu]
   have he:=LN (w:=w) 9998 vs us fs.toList ks 0 xs ys b ht hb (fun j q u a c=>hr j q u a (by simpa using c)) (fun j q u a c=>hr' j q u a (by simpa using c)) (by simpa using hl) (by simpa using hl')
   have h1:=run_equalIn_struct w 9999 t vs us (by rw[hfo]; exact hu) hg.1
   rw[hfo,he] at h1
   cases neg
   ·simp[run_eqGuard_agg w .eql t ox oy vs us hg.2,run_eql_struct,h1]
   ·simp[run_eqGuard_agg w .neq t ox oy vs us hg.2,run_neq_struct,h1]
  ·cases ht
 ·cases ht
end
open Go Go.RowKit
def mB (E:Env) (cs:List PV) (vs:Array Value):Prop :=
 vs.size=cs.length∧(∀ v∈vs.toList,v.oneCell'=true)∧∀ (j:Nat) pv v,cs[j]?=some pv→vs[j]?=some v→aW E pv v
def YA (vs:Array Value) (c:Nat):List Value→Array Value
 | []=>vs
 | u::us=>YA (vs.setIfInBounds c u) (c+1) us
theorem HT (off:Nat):∀ (us:List Value) (k:Nat) (vs:Array Value),(us.zipIdx k).foldl (fun cs (x:Value × Nat)=>cs.setIfInBounds (off+x.2) x.1) vs=YA vs (off+k) us
 | [],_,_=>rfl
 | u::us,k,vs=>by
  simp only[List.zipIdx_cons,List.foldl_cons,YA]
  rw[HT off us (k+1)]
  rfl
theorem zQ:∀ (ps:List PV) (c:Nat) (r:List PV),(setCells r c ps).length=r.length
 | [],_,_=>rfl
 | p::ps,c,r=>by simp[setCells,zQ ps]
theorem mB.bEA {E:Env} {cs:List PV} {vs:Array Value} (h:mB E cs vs) {c:Nat} {p:PV} {u:Value} (r:aW E p u) (h1:u.oneCell'=true):mB E (cs.set c p) (vs.setIfInBounds c u):=by
 obtain⟨hl,ho,hr⟩:=h
 refine⟨by simp[hl],fun v hv=>?_,fun j pv v hp hv=>?_⟩
 ·simp only[Array.toList_setIfInBounds] at hv
  rcases List.mem_or_eq_of_mem_set hv with hv | rfl
  ·exact ho v hv
  ·exact h1
 ·rw[List.getElem?_set] at hp
  rw[Array.getElem?_setIfInBounds] at hv
  split at hp
  ·rename_i e
   subst e
   rw[if_pos rfl] at hv
   split at hp
   ·rename_i hc
    rw[if_pos Om] at hv
    cases hp; cases hv
    exact r
   ·cases hp
  ·rename_i e
   rw[if_neg e] at hv
   exact hr j pv v hp hv
theorem mB.setCells {E:Env}:∀ (ps:List PV) (us:List Value) (c:Nat) (cs:List PV) (vs:Array Value),mB E cs vs→us.length=ps.length→(∀ u∈us,u.oneCell'=true) →
  (∀ (j:Nat) p u,ps[j]?=some p→us[j]?=some u→aW E p u)→mB E (setCells cs c ps) (YA vs c us)
 | [],[],_,_,_,h,_,_,_=>h
 | p::ps,u::us,c,cs,vs,h,hl,ho,hr=>by
  simp only[PM.setCells,YA]
  exact mB.setCells ps us (c+1) _ _ (h.bEA (hr 0 p u rfl rfl) (ho u (by simp))) (by simpa using hl) (fun x hx=>ho x (by simp[hx])) (fun j q x a b=>hr (j+1) q x (by simpa using a) (by simpa using b))
 | [],u::us,_,_,_,_,hl,_,_=>by simp at hl
 | p::ps,[],_,_,_,_,hl,_,_=>by simp at hl
theorem NR {E:Env}:∀ {vs:List Value} {ps:List PV},ofValues vs=some ps→ps.length=vs.length∧∀ (j:Nat) p v,ps[j]?=some p→vs[j]?=some v→aW E p v
 | [],ps,h=>by simp[ofValues] at h; subst h; simp
 | v::vs,ps,h=>by
  simp only[ofValues] at h
  split at h
  ·rename_i p qs hp hq
   cases h
   obtain⟨h1,h2⟩:=NR (E:=E) hq
   refine⟨by simp[h1],fun j q u a b=>?_⟩
   cases j with
   | zero=>simp at a b; subst a; subst b; exact tR hp
   | succ j=>exact h2 j q u (by simpa using a) (by simpa using b)
  ·cases h
theorem NQ:∀ {vs:List Value} {ps:List PV},ofValues vs=some ps→∀ v∈vs,v.oneCell'=true
 | [],_,_,v,hv=>by simp at hv
 | u::vs,ps,h,v,hv=>by
  simp only[ofValues] at h
  split at h
  ·rename_i p qs hp hq
   rcases bJB.1 hv with rfl | hv
   ·unfold ofValue at hp
    split at hp<;>first | rfl | cases hp
   ·exact NQ hq v hv
  ·cases h
section
variable {T:Tbl} {n:Nat} {E:Env} {F:PF} {H:PH} {a:Act} {w:World}
theorem JP {t:TypeId} {z:List PV} (h:T.zero t=some z):∃ i zv,T.P.info? t=some i∧i.zero=some zv∧mB E z zv.cells:=by
 unfold Tbl.zero at h
 cases hi:T.P.info? t with
 | none=>simp[hi] at h
 | some i =>
  cases hz:i.zero with
  | none=>simp[hi,hz] at h
  | some zv =>
   simp only[hi,hz,bLQ] at h
   obtain⟨h1,h2⟩:=NR (E:=E) h
   exact⟨i,zv,rfl,hz,by simpa using h1.symm,NQ h,fun j p v a b=>h2 j p v a (by simpa using b)⟩
theorem ET {place:Nat→Option (Nat × Nat)} (hA:dN n E F a) (hN:E.num=T.num):∀ (parts:List (Nat × Operand)) (pl:List (Nat × Nat × aP)) (cs out:List PV) (vs:Array Value),
  T.partsOf place parts=some pl→oR cs F pl=some out→mB E cs vs→∃ us,Instr.fill place vs (parts.map fun (i,x)=>(i,a.eval x))=some us∧mB E out us
 | [],pl,cs,out,vs,h1,h2,h3=>by
  simp[Tbl.partsOf] at h1; subst h1
  simp[oR] at h2; subst h2
  exact⟨vs,rfl,h3⟩
 | (i,x)::rest,pl,cs,out,vs,h1,h2,h3=>by
  simp only[Tbl.partsOf] at h1
  split at h1
  ·rename_i off size p ps hp hx hps
   cases h1
   simp only[oR] at h2
   split at h2
   ·rename_i v hv
    split at h2
    ·rename_i hc
     obtain⟨c1,c2,c3⟩:=uC (bG hx hv hA hN) hc.2.2
     obtain⟨us,g1,g2⟩:=ET hA hN rest ps _ out _ hps h2 (mB.setCells v.cells (a.eval x).cells.toList off cs vs h3 (by simpa using c1) c2 (fun j q u hq hu=>c3 j q u hq (by simpa using hu)))
     refine⟨us,?_,g2⟩
     simp only[bKD,Instr.fill,hp]
     rw[if_neg (by simp; rw[c1,h3.1]; omega)]
     have hz:Array.foldl (fun (cs:Array Value) (x:Value × Nat)=>cs.setIfInBounds (off+x.2) x.1) vs (a.eval x).cells.zipIdx=YA vs off (a.eval x).cells.toList:=by
      rw[← Array.foldl_toList,Array.toList_zipIdx]
      exact HT off _ 0 vs
     exact hz ▸ g1
    ·cases h2
   ·cases h2
  ·cases h1
theorem aIH (fs:Array Field) (places:List (Nat × Nat)) (h:fs.toList.mapM (fun f=>(T.P.info? f.type).map fun i=>(f.offset,i.size))=some places) (i:Nat) :
  places[i]?=T.place fs i:=by
 have key:∀ (l:List Field) (ps:List (Nat × Nat)) (i:Nat),l.mapM (fun f=>(T.P.info? f.type).map fun i=>(f.offset,i.size))=some ps →
   ps[i]?=match l[i]? with | some f=>(T.size f.type).map (f.offset,·) | none=>none:=by
  intro l
  induction l with
  | nil=>intro ps i h; simp at h; subst h; simp
  | cons f l ih =>
   intro ps i h
   simp only[List.mapM_cons,Option.bind_eq_bind,Option.pure_def,bLP] at h
   obtain⟨p,hp,qs,hq,h⟩:=h
   cases h
   cases i with
   | zero =>
    simp only[List.getElem?_cons_zero,Tbl.size]
    rw[← hp]
    cases T.P.info? f.type<;>rfl
   | succ i=>simpa using ih qs i hq
 have:=key fs.toList places i h
 rw[this,Array.getElem?_toList]
 unfold Tbl.place
 cases fs[i]?<;>rfl
end
open Go Go.RowKit
section
variable {T:Tbl} {n:Nat} {E:Env} {F:PF} {H:PH} {a:Act} {w:World}
theorem SB {t:TypeId} {parts:Array (Nat × Operand)} {z:List PV} {pl:List (Nat × Nat × aP)} {out:List PV} (hz:T.zero t=some z)
  (hp:(∃ fs:Array Field,T.P.underlying t=some (.struct fs)∧(fs.toList.mapM (fun f=>(T.P.info? f.type).map fun i=>(f.offset,i.size))).isSome=true∧T.partsOf (T.place fs) parts.toList=some pl) ∨
   (∃ k e s,T.P.underlying t=some (.array k e)∧T.size e=some s∧T.partsOf (fun i=>some (i*s,s)) parts.toList=some pl))
  (ho:oR z F pl=some out) (hA:dN n E F a) (hN:E.num=T.num) :
  ∃ v,(Instr.build t (parts.map fun (i,x)=>(i,a.eval x))).run T.P w=.ok v w∧aW E (.agg out) v:=by
 obtain⟨it,zv,hit,hiz,hzr⟩:=JP (E:=E) hz
 rcases hp with ⟨fs,hu,hm,hpl⟩ | ⟨k,e,s,hu,hs,hpl⟩
 ·obtain⟨places,hpm⟩:=Option.isSome_iff_exists.1 hm
  obtain⟨us,h1,h2⟩:=ET hA hN _ _ _ _ _ hpl ho hzr
  refine⟨.agg us,run_build w t _ us ?_,.agg us h2.1 h2.2.1 h2.2.2⟩
  simp only[Program.built,hit,hu,hiz,hpm]
  have hpf:(fun (x:Nat)=>places.toArray[x]?)=T.place fs:=by
   funext i
   rw[List.getElem?_toArray]
   exact aIH fs places hpm i
  simp only[Array.toList_map]
  rw[hpf]
  exact h1
 ·obtain⟨us,h1,h2⟩:=ET hA hN _ _ _ _ _ hpl ho hzr
  refine⟨.agg us,run_build w t _ us ?_,.agg us h2.1 h2.2.1 h2.2.2⟩
  unfold Tbl.size at hs
  cases hie:T.P.info? e with
  | none=>simp[hie] at hs
  | some ie =>
   simp[hie] at hs
   subst hs
   simp only[Program.built,hit,hu,hiz,hie,Array.toList_map]
   exact h1
theorem aqW {t:TypeId} {s:Nat} (h:T.size t=some s):∃ i,T.P.info? t=some i∧i.size=s:=by
 unfold Tbl.size at h
 cases hi:T.P.info? t with
 | none=>simp[hi] at h
 | some i=>exact⟨i,rfl,by simpa [hi] using h⟩
theorem iW {t:TypeId} {s:Nat} (h:T.size t=some s):(sizeOf t).run T.P w=.ok s w:=by
 obtain⟨i,hi,rfl⟩:=aqW h
 simp[sizeOf,typeInfo,hi]
theorem wB {t:TypeId} {b:Bool} (h:T.isAgg t=some b):(isAgg t).run T.P w=.ok b w:=by
 unfold Tbl.isAgg at h
 split at h
 ·rename_i hu; cases h; simp[isAgg,run_underlying hu]
 ·rename_i hu; cases h; simp[isAgg,run_underlying hu]
 ·rename_i d h1 h2 hu
  cases h
  cases d<;>first
   | exact (h1 _ rfl).elim
   | exact (h2 _ _ rfl).elim
   | (simp[isAgg,run_underlying hu]; done)
 ·cases h
theorem abR {t:TypeId} {pv pq:PV} {v:Value} (ht:T.isAgg t=some false) (hW:bR E H w) (hv:aW E pv v) (h:loadCells H pv 1=some [pq]) :
  ∃ u,(Instr.loadAt t v).run T.P w=.ok u w∧aW E pq u:=by
 obtain⟨b,off,rfl,-,us,hl,h1,hc,hr⟩:=nN hW hv h
 match us,hl with
 | [u],_ =>
  refine⟨u,?_,hr 0 pq u rfl rfl⟩
  have:=hc 0 u rfl
  simp only[bKF] at this
  simp[Instr.loadAt,Instr.sureAddr,loadVar,wB ht,this]
theorem SM {t:TypeId} {k:Nat} {pv:PV} {cs:List PV} {v:Value} (ht:T.isAgg t=some true) (hs:T.size t=some k) (hW:bR E H w) (hv:aW E pv v) (h:loadCells H pv k=some cs) :
  ∃ u,(Instr.loadAt t v).run T.P w=.ok u w∧aW E (.agg cs) u:=by
 obtain⟨b,off,rfl,hlen,us,hl,h1,hc,hr⟩:=nN hW hv h
 have hload:=run_loadCells_list (P:=T.P) w ⟨b,off,none⟩ us (fun j u hu=>by rw[add_plain]; exact hc j u hu)
 refine⟨.agg us.toArray,?_,.agg us.toArray (by simp[hl,hlen]) (by simpa using h1) (fun j q u hq hu=>hr j q u hq (by simpa using hu))⟩
 rw[hl] at hload
 simp[Instr.loadAt,Instr.sureAddr,loadVar,wB ht,iW hs,hload]
end
open Go Go.RowKit
section
variable {T:Tbl} {n:Nat} {E:Env} {F:PF} {H:PH} {a:Act} {w:World}
theorem aaG {t e:TypeId} (h:T.P.underlying t=some (.slice e)):T.P.elem t=e∧T.P.underlying t=some (.slice (T.P.elem t)):=by
 have:T.P.elem t=e:=by simp[Program.elem,h]
 exact⟨this,by rw[this]; exact h⟩
theorem a3F {t e:TypeId} {k:Nat} (h:T.P.underlying t=some (.array k e)):T.P.elem t=e∧T.P.arrayLen t=k∧T.P.underlying t=some (.array (T.P.arrayLen t) (T.P.elem t)):=by
 have h1:T.P.elem t=e:=by simp[Program.elem,h]
 have h2:T.P.arrayLen t=k:=by simp[Program.arrayLen,h]
 exact⟨h1,h2,by rw[h1,h2]; exact h⟩
theorem apY {cs:List PV} {b off:Nat} (h:aW E (.bGQ cs) (.pointer (some ⟨b,off,none⟩))) (d:Nat):aW E (.bGQ (cs.drop d)) (.pointer (some ⟨b,off+d,none⟩)):=by
 cases h with
 | bGQ u hsp hc h1 hr =>
  refine .bGQ (fun j=>u (d+j)) rfl (fun j pv hp=>?_) (fun j=>h1 _) (fun j pv hp=>hr (d+j) pv (by rw[← hp,List.getElem?_drop]))
  have:=hc (d+j) pv (by rw[← hp,List.getElem?_drop])
  simp only at this ⊢
  rw[← this]
  congr 1
  omega
theorem NX {cs:List PV} {v:Value} (h:aW E (.bGQ cs) v):∃ b off,v=.pointer (some ⟨b,off,none⟩):=by
 cases h with
 | bGQ u hsp hc h1 hr=>rename_i ad; exact⟨ad.block,ad.off,by rw[← mP hsp]⟩
theorem brM {t e:TypeId} {s:Nat} {rows:List (List PV)} {v:Value} {k:IntKind} {i:Int} {r:List PV} (ht:T.P.underlying t=some (.slice e)) (hs:T.size e=some s)
  (hv:aW E (.sl s rows) v) (h0:0≤i) (hr:rows[i.toNat]?=some r):∃ u,(Instr.indexAt t v (.int k i)).run T.P w=.ok u w∧aW E (.bGQ r) u:=by
 obtain⟨h1,h2⟩:=aaG ht
 cases hv with
 | sl u hcap bID bGV ha ho bIH =>
 rename_i a0 cap
 have hlt:i.toNat<rows.length:=by
  rcases bJG i.toNat rows.length with h | h
  ·exact h
  ·rw[bJY h] at hr; cases hr
 obtain⟨ad,rfl,hsp,hc⟩:=ha (by intro h; subst h; simp at hlt)
 rw[mP hsp]
 refine⟨.pointer (some ⟨ad.block,ad.off+i.toNat*s,none⟩),?_,?_⟩
 ·rw[run_indexAt_slice w t _ _ _ _ _ h2,if_pos ⟨h0,by omega⟩,h1,iW hs,Result.andThen_ok,add_plain]
 ·refine .bGQ (u i.toNat) rfl (fun j pv hp=>?_) (fun j=>ho _ _) (fun j pv hp=>bIH i.toNat j pv (by simp[at2,hr,hp]))
  simpa using hc i.toNat j pv (by simp[at2,hr,hp])
theorem bkE {t e:TypeId} {o s off len:Nat} {v:Value} {k:IntKind} {i:Int} (ht:T.P.underlying t=some (.slice e)) (hs:T.size e=some s)
  (hv:aW E (.osl o s off len) v) (h0:0≤i) (hi:i<len):∃ u,(Instr.indexAt t v (.int k i)).run T.P w=.ok u w∧aW E (.ptr o s (off+i.toNat) 0) u:=by
 obtain⟨h1,h2⟩:=aaG ht
 cases hv with
 | osl hb hsp bII hlen bID hn bHO =>
 rename_i cap m ad
 have hoff':ad.off=off*s:=by
  rcases bII with h | h
  ·omega
  ·exact h
 have had:ad=⟨o,off*s,none⟩:=by cases ad; simp_all
 subst had
 refine⟨_,?_,.ptr o s _ 0⟩
 rw[run_indexAt_slice w t _ _ _ _ _ h2,if_pos ⟨h0,hi⟩,h1,iW hs,Result.andThen_ok,add_plain,← bJP,bKF]
theorem abI {t e:TypeId} {k s:Nat} {v:Value} {kk:IntKind} {i:Int} {px pv:PV} (ht:T.P.underlying t=some (.array k e)) (hs:T.size e=some s)
  (hv:aW E px v) (h0:0≤i) (hi:i<k) (hpx:(∃ o s0 r c,px=.ptr o s0 r c∧pv=.ptr o s0 r (c+i.toNat*s))∨(∃ cs,px=.bGQ cs∧pv=.bGQ (cs.drop (i.toNat*s)))) :
  ∃ u,(Instr.indexAt t v (.int kk i)).run T.P w=.ok u w∧aW E pv u:=by
 obtain⟨h1,h2,h3⟩:=a3F ht
 rcases hpx with ⟨o,s0,r,c,rfl,rfl⟩ | ⟨cs,rfl,rfl⟩
 ·cases hv
  refine⟨_,?_,.ptr o s0 r _⟩
  rw[run_indexAt_array w t _ _ _ h3,h2,if_pos ⟨h0,hi⟩,h1,iW hs,Result.andThen_ok,add_plain,bKS]
 ·obtain⟨b,off,rfl⟩:=NX hv
  refine⟨_,?_,apY hv _⟩
  rw[run_indexAt_array w t _ _ _ h3,h2,if_pos ⟨h0,hi⟩,h1,iW hs,Result.andThen_ok,add_plain]
theorem LS {t:TypeId} {fs:Array Field} {f:Nat} {fd:Field} {s:Nat} {v:Value} {px pv:PV} (ht:T.P.underlying t=some (.struct fs)) (hf:fs[f]?=some fd) (hs:T.size fd.type=some (s+1))
  (hv:aW E px v) (hpx:(∃ o s0 r c,px=.ptr o s0 r c∧pv=.ptr o s0 r (c+fd.offset))∨(∃ cs,px=.bGQ cs∧pv=.bGQ (cs.drop fd.offset))) :
  ∃ u,(Instr.fieldAt t v f).run T.P w=.ok u w∧aW E pv u:=by
 rcases hpx with ⟨o,s0,r,c,rfl,rfl⟩ | ⟨cs,rfl,rfl⟩
 ·cases hv
  refine⟨_,?_,.ptr o s0 r _⟩
  simp[Instr.fieldAt,run_underlying ht,hf,Instr.sureAddr,fieldPlace,iW hs,add_plain,bKS]
 ·obtain⟨b,off,rfl⟩:=NX hv
  refine⟨_,?_,apY hv _⟩
  simp[Instr.fieldAt,run_underlying ht,hf,Instr.sureAddr,fieldPlace,iW hs,add_plain]
theorem aIF {t:TypeId} {cs:Array Value} {k:Nat} {u:Value} (ht:T.isAgg t=some false) (h:cs[k]?=some u):(part t cs k).run T.P w=.ok u w:=by
 simp[part,wB ht,h]
theorem apV {t:TypeId} {cs:Array Value} {k s:Nat} (ht:T.isAgg t=some true) (hs:T.size t=some s):(part t cs k).run T.P w=.ok (.agg (cs.extract k (k+s))) w:=by
 simp[part,wB ht,iW hs]
theorem azL {cs:List PV} {vs:Array Value} {k:Nat} {pv:PV} (hl:vs.size=cs.length) (hr:∀ (j:Nat) pv v,cs[j]?=some pv→vs[j]?=some v→aW E pv v) (h:cs[k]?=some pv) :
  ∃ u,vs[k]?=some u∧aW E pv u:=by
 have hlt:k<cs.length:=by
  rcases bJG k cs.length with h' | h'
  ·exact h'
  ·rw[bJY h'] at h; cases h
 exact⟨vs[k]'Om,bLR Om,hr k pv _ h (bLR Om)⟩
theorem azM {cs:List PV} {vs:Array Value} {k s:Nat} (hl:vs.size=cs.length) (h1:∀ v∈vs.toList,v.oneCell'=true) (hr:∀ (j:Nat) pv v,cs[j]?=some pv→vs[j]?=some v→aW E pv v) (h:k+s≤cs.length) :
  aW E (.agg ((cs.drop k).take s)) (.agg (vs.extract k (k+s))):=by
 refine .agg _ (by simp; omega) (fun v hv=>h1 v ?_) (fun j pv v hp hv=>?_)
 ·simp only[Array.toList_extract] at hv
  exact List.mem_of_mem_drop (List.mem_of_mem_take hv)
 ·rw[bLK] at hp
  split at hp
  ·rename_i hj
   rw[List.getElem?_drop] at hp
   refine hr (k+j) pv v hp ?_
   rw[Array.getElem?_extract] at hv
   split at hv
   ·exact hv
   ·cases hv
  ·cases hp
theorem baT {t:TypeId} {fs:Array Field} {f:Nat} {fd:Field} {cs:List PV} {v:Value} {pv:PV} (ht:T.P.underlying t=some (.struct fs)) (hf:fs[f]?=some fd) (hg:T.isAgg fd.type=some false)
  (hv:aW E (.agg cs) v) (h:cs[fd.offset]?=some pv):∃ u,(Instr.field t v f).run T.P w=.ok u w∧aW E pv u:=by
 cases hv with
 | agg vs hl h1 hr =>
 obtain⟨u,hu,hru⟩:=azL hl hr h
 exact⟨u,by simp[Instr.field,run_underlying ht,hf,asAgg,aIF hg hu],hru⟩
theorem a3J {t:TypeId} {fs:Array Field} {f:Nat} {fd:Field} {cs:List PV} {s:Nat} {v:Value} (ht:T.P.underlying t=some (.struct fs)) (hf:fs[f]?=some fd) (hg:T.isAgg fd.type=some true) (hs:T.size fd.type=some s)
  (hv:aW E (.agg cs) v) (h:fd.offset+s≤cs.length):∃ u,(Instr.field t v f).run T.P w=.ok u w∧aW E (.agg ((cs.drop fd.offset).take s)) u:=by
 cases hv with
 | agg vs hl h1 hr=>exact⟨_,by simp[Instr.field,run_underlying ht,hf,asAgg,apV hg hs],azM hl h1 hr h⟩
theorem a4L {t e:TypeId} {k s:Nat} {g:Bool} {cs:List PV} {v:Value} {kk:IntKind} {i:Int} {pv:PV} (ht:T.P.underlying t=some (.array k e)) (hs:T.size e=some s) (hg:T.isAgg e=some g)
  (hv:aW E (.agg cs) v) (h0:0≤i) (hi:i<k) (h:(if g then (if i.toNat*s+s≤cs.length then some (.agg ((cs.drop (i.toNat*s)).take s)) else none) else cs[i.toNat*s]?)=some pv) :
  ∃ u,(Instr.index t v (.int kk i)).run T.P w=.ok u w∧aW E pv u:=by
 cases hv with
 | agg vs hl h1 hr =>
 cases g with
 | true =>
  simp only[if_true] at h
  split at h
  ·rename_i hle
   cases h
   exact⟨_,by simp[Instr.index,asIntOf,run_underlying ht,h0,hi,iW hs,apV hg hs],azM hl h1 hr hle⟩
  ·cases h
 | false =>
  simp only[bLS,if_false] at h
  obtain⟨u,hu,hru⟩:=azL hl hr h
  exact⟨u,by simp[Instr.index,asIntOf,run_underlying ht,h0,hi,iW hs,aIF hg hu],hru⟩
theorem aDW {t:TypeId} {l:List UInt8} {v:Value} {kk:IntKind} {i:Int} {pv:PV} (ht:T.P.underlying t=some .string) (hv:aW E (.str l) v) (h0:0≤i) (h:(l[i.toNat]?).map (fun b=>PV.int .u8 b.toNat)=some pv) :
  ∃ u,(Instr.index t v (.int kk i)).run T.P w=.ok u w∧aW E pv u:=by
 cases hv with
 | str s =>
 simp only[bIW] at h
 obtain⟨b,hb,rfl⟩:=h
 have hb':s[i.toNat]?=some b:=by
  have hlt:i.toNat<s.data.toList.length:=by
   rcases bJG i.toNat s.data.toList.length with h' | h'
   ·exact h'
   ·rw[bJY h'] at hb; cases hb
  have hsz:i.toNat<s.size:=by
   have e1:s.data.toList.length=s.size:=by rw[bLD]; rfl
   omega
  rw[getElem?_pos s i.toNat hsz]
  rw[bIZ hlt] at hb
  cases hb
  rfl
 exact⟨_,by simp[Instr.index,asIntOf,run_underlying ht,h0,hb'],.int _ _⟩
theorem LE {x:Option Operand} {p:Option aP} {d m:Int} (hx:T.opt x=some p) (h:bnd F d p=some m) (hA:dN n E F a) (hN:E.num=T.num) :
  (x=none∧m=d)∨∃ o k,x=some o∧a.eval o=.int k m:=by
 cases x with
 | none =>
  simp[Tbl.opt] at hx
  subst hx
  simp[bnd] at h
  exact .inl ⟨rfl,h.symm⟩
 | some o =>
  simp only[Tbl.opt,bIW] at hx
  obtain⟨q,hq,rfl⟩:=hx
  simp only[bnd,bLP] at h
  obtain⟨pv,hp,hi⟩:=h
  have r:=bG hq hp hA hN
  unfold PV.intOf at hi
  split at hi
  ·cases hi
   generalize hev:a.eval o=ev at r
   cases r
   exact .inr ⟨o,_,rfl,hev⟩
  ·cases hi
theorem jR {isS:Bool} {lo hi mx:Option Operand} {pl ph pm:Option aP} {len cap:Nat} {l h:Int} (hl:T.opt lo=some pl) (hh:T.opt hi=some ph) (hm:T.opt mx=some pm)
  (bl:bnd F 0 pl=some l) (bh:bnd F len ph=some h) (hlen:len≤cap) (h0:0≤l) (h1:l≤h) (h2:h≤len) (hm':pm=none∨(hi≠none∧bnd F 0 pm=some h)) (hA:dN n E F a) (hN:E.num=T.num) :
  ∃ m,(Instr.sliceBounds isS len cap (lo.map a.eval) (hi.map a.eval) (mx.map a.eval)).run T.P w=.ok (l.toNat,h.toNat,m) w∧h.toNat≤m∧m≤cap:=by
 have kl:=LE hl bl hA hN
 have kh:=LE hh bh hA hN
 rcases hm' with rfl | ⟨hne,bm⟩
 ·have hmx:mx=none:=by
   cases mx with
   | none=>rfl
   | some x =>
    simp only[Tbl.opt,bIW] at hm
    obtain⟨q,-,hq⟩:=hm
    cases hq
  subst hmx
  refine⟨cap,?_,by omega,bIU _⟩
  rcases kl with ⟨rfl,rfl⟩ | ⟨ol,k1,rfl,e1⟩<;>rcases kh with ⟨rfl,rfl⟩ | ⟨oh,k2,rfl,e2⟩
  ·simp[Instr.sliceBounds]
  ·simp only[Instr.sliceBounds,Option.map_none,bJS,e2,Sem.run_bind,Sem.run_pure,Result.andThen_ok,run_sliceBound w k2 h cap _ Om Om]
   rfl
  ·simp only[Instr.sliceBounds,Option.map_none,bJS,e1,Sem.run_bind,Sem.run_pure,Result.andThen_ok,run_sliceBound w k1 l len _ Om Om]
   simp
  ·simp only[Instr.sliceBounds,Option.map_none,bJS,e1,e2,Sem.run_bind,Sem.run_pure,Result.andThen_ok,run_sliceBound w k2 h cap _ Om Om,run_sliceBound w k1 l h.toNat _ Om Om]
 ·have km:=LE hm bm hA hN
  rcases km with ⟨rfl,h00⟩ | ⟨om,k3,rfl,e3⟩
  ·simp[Tbl.opt] at hm
   subst hm
   refine⟨cap,?_,by omega,bIU _⟩
   rcases kh with ⟨rfl,rfl⟩ | ⟨oh,k2,rfl,e2⟩
   ·exact absurd rfl hne
   ·rcases kl with ⟨rfl,rfl⟩ | ⟨ol,k1,rfl,e1⟩
    ·simp only[Instr.sliceBounds,Option.map_none,bJS,e2,Sem.run_bind,Sem.run_pure,Result.andThen_ok,run_sliceBound w k2 h cap _ Om Om]
     rfl
    ·simp only[Instr.sliceBounds,Option.map_none,bJS,e1,e2,Sem.run_bind,Sem.run_pure,Result.andThen_ok,run_sliceBound w k2 h cap _ Om Om,run_sliceBound w k1 l h.toNat _ Om Om]
  ·rcases kh with ⟨rfl,rfl⟩ | ⟨oh,k2,rfl,e2⟩
   ·exact absurd rfl hne
   ·refine⟨h.toNat,?_,bIU _,by omega⟩
    rcases kl with ⟨rfl,rfl⟩ | ⟨ol,k1,rfl,e1⟩
    ·simp only[Instr.sliceBounds,Option.map_none,bJS,e2,e3,Sem.run_bind,Sem.run_pure,Result.andThen_ok,run_sliceBound w k3 h cap _ Om Om,run_sliceBound w k2 h h.toNat _ Om Om]
     rfl
    ·simp only[Instr.sliceBounds,Option.map_none,bJS,e1,e2,e3,Sem.run_bind,Sem.run_pure,Result.andThen_ok,run_sliceBound w k3 h cap _ Om Om,run_sliceBound w k2 h h.toNat _ Om Om,run_sliceBound w k1 l h.toNat _ Om Om]
end
open Go Go.RowKit
section
variable {T:Tbl} {n:Nat} {E:Env} {F:PF} {H:PH} {a:Act} {w:World}
theorem aSN {rows:List (List PV)} {l h i j:Nat} {pv:PV} (e:at2 ((rows.take h).drop l) i j=some pv):at2 rows (l+i) j=some pv:=by
 unfold at2 at *
 rw[List.getElem?_drop,bLK] at e
 split at e
 ·exact e
 ·simp at e
theorem tE {t e:TypeId} {s l h m len cap:Nat} {a0:Option Addr} {lo hi mx:Option Value} (ht:T.P.underlying t=some (.slice e)) (hs:T.size e=some s)
  (hb:(Instr.sliceBounds true len cap lo hi mx).run T.P w=.ok (l,h,m) w) :
  (Instr.sliceAt t (.slice a0 len cap) lo hi mx).run T.P w=.ok (.slice (if m=l then a0 else a0.map (·.add (l*s))) (h-l) (m-l)) w:=by
 simp[Instr.sliceAt,Instr.slice,run_underlying ht,hb,iW hs]
theorem BV {t e : TypeId} {s : Nat} {x : Value} {lo hi mx : Option Operand} {pl ph pm : Option aP} {len : Nat} {l h : Int} {px pv : PV} (ht : T.P.underlying t = some (.slice e)) (hs : T.size e = some s)
    (hl : T.opt lo = some pl) (hh : T.opt hi = some ph) (hm : T.opt mx = some pm) (hx : aW E px x) (bl : bnd F 0 pl = some l) (bh : bnd F len ph = some h)
    (hlen : (px = .bGI ∧ len = 0) ∨ (∃ s0 rows, px = .sl s0 rows ∧ len = rows.length) ∨ (∃ o s0 off, px = .osl o s0 off len))
    (hpv : (pm = none ∧ PV.slice s px l h none = some pv) ∨ (hi ≠ none ∧ ∃ m, bnd F 0 pm = some m ∧ PV.slice s px l h (some m) = some pv)) (hA : dN n E F a) (hN : E.num = T.num) :
    ∃ v, (Instr.sliceAt t x (lo.map a.eval) (hi.map a.eval) (mx.map a.eval)).run T.P w = .ok v w ∧ aW E pv v := by
  have hP : ∃ m0, PV.slice s px l h m0 = some pv ∧ (m0 = none → pm = none) ∧ ∀ m, m0 = some m → hi ≠ none ∧ bnd F 0 pm = some m := by
    rcases hpv with ⟨h1, h2⟩ | ⟨h1, m, h2, h3⟩
    · exact ⟨none, h2, fun _ => h1, fun m hm => by cases hm⟩
    · exact ⟨some m, h3, fun h => (by cases h), fun m' hm' => by cases hm'; exact ⟨h1, h2⟩⟩
  obtain ⟨m0, hP, hn, hsm⟩ := hP
  rcases hlen with ⟨rfl, rfl⟩ | ⟨s0, rows, rfl, rfl⟩ | ⟨o, s0, off, rfl⟩
  · simp only [PV.slice] at hP
    split at hP
    · rename_i hc
      cases hP
      obtain ⟨rfl, rfl, hm0⟩ := hc
      cases hx
      obtain ⟨m, hb, hm1, hm2⟩ := jR (T := T) (E := E) (w := w) (isS := true) (len := 0) (cap := 0) hl hh hm bl bh (bIU _) Om Om Om
        (by rcases hm0 with rfl | rfl
            · exact .inl (hn rfl)
            · exact .inr (hsm 0 rfl)) hA hN
      have hmz : m = 0 := by omega
      subst hmz
      refine ⟨_, tE ht hs hb, ?_⟩
      simp
      exact .bGI
    · cases hP
  · simp only [PV.slice] at hP
    split at hP
    · rename_i hc
      cases hP
      obtain ⟨rfl, h0, h1, h2, hm0⟩ := hc
      cases hx with
      | sl u hcap bID bGV ha ho bIH =>
      rename_i a0 cap
      obtain ⟨m, hb, hm1, hm2⟩ := jR (T := T) (E := E) (w := w) (isS := true) (len := rows.length) (cap := cap) hl hh hm bl bh hcap h0 h1 h2
        (by rcases hm0 with rfl | rfl
            · exact .inl (hn rfl)
            · exact .inr (hsm h rfl)) hA hN
      refine ⟨_, tE ht hs hb, ?_⟩
      have hlen : ((rows.take h.toNat).drop l.toNat).length = h.toNat - l.toNat := by
        rw [bKQ, bJF]; omega
      rw [← hlen]
      refine .sl (fun i j => u (l.toNat + i) j) (by rw [hlen]; omega) Om (fun r hr => bGV r (List.mem_of_mem_take (List.mem_of_mem_drop hr))) (fun hne => ?_) (fun i j => ho _ _) (fun i j pv hp => bIH _ _ pv (aSN hp))
      have hpos : 0 < ((rows.take h.toNat).drop l.toNat).length := List.length_pos_iff.2 hne
      rw [hlen] at hpos
      obtain ⟨ad, rfl, hsp, hc⟩ := ha (by intro e; subst e; simp at h2; omega)
      rw [if_neg Om]
      refine ⟨⟨ad.block, ad.off + l.toNat * s0, none⟩, ?_, rfl, fun i j pv hp => ?_⟩
      · rw [bJS, mP hsp, add_plain]
      · have := hc (l.toNat + i) j pv (aSN hp)
        show E.cell ad.block (ad.off + l.toNat * s0 + i * s0 + j) = _
        rw [← this]
        congr 1
        rw [bJP]; omega
    · cases hP
  · simp only [PV.slice] at hP
    split at hP
    · rename_i hc
      cases hP
      obtain ⟨rfl, h0, h1, h2, hm0⟩ := hc
      cases hx with
      | osl hb0 hsp bII hlen bID hnn bHO =>
      rename_i cap N ad
      obtain ⟨m, hb, hm1, hm2⟩ := jR (T := T) (E := E) (w := w) (isS := true) (len := len) (cap := cap) hl hh hm bl bh hlen h0 h1 h2
        (by rcases hm0 with rfl | rfl
            · exact .inl (hn rfl)
            · exact .inr (hsm h rfl)) hA hN
      refine ⟨_, tE ht hs hb, ?_⟩
      by_cases hml : m = l.toNat
      · rw [if_pos hml]
        have e1 : h.toNat - l.toNat = 0 := by omega
        have e2 : m - l.toNat = 0 := by omega
        rw [e1, e2]
        refine .osl hb0 hsp (.inl rfl) (bIU _) (by simp [maxLen]) hnn ?_
        have : (off + l.toNat) * s0 ≤ off * s0 + cap * s0 := by rw [bJP]; exact Nat.add_le_add_left (bJQ _ Om) _
        omega
      · rw [if_neg hml, bJS, mP hsp, add_plain]
        refine .osl hb0 rfl ?_ Om Om hnn ?_
        · rcases bII with h | h
          · exact .inl Om
          · exact .inr (by simp only [h, bJP])
        · have : (off + l.toNat) * s0 + (m - l.toNat) * s0 ≤ off * s0 + cap * s0 := by
            rw [← bJP, ← bJP]
            exact bJQ _ Om
          omega
    · cases hP
theorem alT {t:TypeId} {x:Value} {lo hi:Option Operand} {pl ph:Option aP} {str:List UInt8} {l h:Int} (ht:T.P.underlying t=some .string)
  (hl:T.opt lo=some pl) (hh:T.opt hi=some ph) (hx:aW E (.str str) x) (bl:bnd F 0 pl=some l) (bh:bnd F str.length ph=some h) (h0:0≤l) (h1:l≤h) (h2:h≤str.length)
  (hA:dN n E F a) (hN:E.num=T.num) :
  ∃ v,(Instr.sliceAt t x (lo.map a.eval) (hi.map a.eval) none).run T.P w=.ok v w∧aW E (.str ((str.take h.toNat).drop l.toNat)) v:=by
 cases hx with
 | str s =>
 have hsz:s.data.toList.length=s.size:=by rw[bLD]; rfl
 rw[hsz] at bh h2
 obtain⟨m,hb,hm1,hm2⟩:=jR (T:=T) (E:=E) (w:=w) (isS:=false) (len:=s.size) (cap:=s.size) (mx:=none) (pm:=none) hl hh rfl bl bh (bIU _) h0 h1 h2 (.inl rfl) hA hN
 simp only[Option.map_none] at hb
 refine⟨.string (s.extract l.toNat h.toNat),?_,?_⟩
 ·simp[Instr.sliceAt,Instr.slice,run_underlying ht,hb]
 ·have e:(s.data.toList.take h.toNat).drop l.toNat=(s.extract l.toNat h.toNat).data.toList:=by
   rw[Lib.extract_data,List.drop_take]
  rw[e]
  exact .str _
theorem aaC (s:Nat):∀ (n:Nat) (cs:List PV),(chunks s n cs).length=n
 | 0,_=>rfl
 | n+1,cs=>by simp[chunks,aaC s n]
theorem aaD {s:Nat}:∀ {n:Nat} {cs:List PV},n*s≤cs.length→∀ r∈chunks s n cs,r.length=s
 | 0,_,_,r,hr=>by simp[chunks] at hr
 | n+1,cs,h,r,hr=>by
  rw[bJP,Nat.one_mul] at h
  simp only[chunks,bJB] at hr
  rcases hr with rfl | hr
  ·rw[bJF]; omega
  ·exact aaD (by rw[bKQ]; omega) r hr
theorem LK {s:Nat}:∀ {n:Nat} {cs:List PV} {i j:Nat} {pv:PV},at2 (chunks s n cs) i j=some pv→cs[i*s+j]?=some pv
 | 0,_,i,j,pv,h=>by simp[chunks,at2] at h
 | n+1,cs,0,j,pv,h=>by
  simp only[chunks,at2,List.getElem?_cons_zero,bLQ,bLK] at h
  split at h
  ·rw[Nat.zero_mul,bJJ]; exact h
  ·cases h
 | n+1,cs,i+1,j,pv,h=>by
  have:=LK (n:=n) (cs:=cs.drop s) (i:=i) (j:=j) (pv:=pv) (by simpa [chunks,at2] using h)
  rw[List.getElem?_drop] at this
  rw[← this]; congr 1; rw[bJP]; omega
theorem aJF {t e:TypeId} {k s:Nat} {v:Value} {cs:List PV} (ht:T.P.underlying t=some (.array k e)) (hs:T.size e=some s) (hv:aW E (.bGQ cs) v) (hc:k*s≤cs.length) (hk:k≤maxLen) (hA:dN n E F a) (hN:E.num=T.num) :
  ∃ u,(Instr.sliceAt t v none none none).run T.P w=.ok u w∧aW E (.sl s (chunks s k cs)) u:=by
 obtain⟨m,hb,hm1,hm2⟩:=jR (T:=T) (E:=E) (w:=w) (F:=F) (a:=a) (n:=n) (isS:=false) (len:=k) (cap:=k) (lo:=none) (hi:=none) (mx:=none) (pl:=none) (ph:=none) (pm:=none) (l:=0) (h:=(k:Int)) rfl rfl rfl rfl rfl (bIU _) Om Om Om (.inl rfl) hA hN
 simp only[Option.map_none,Int.toNat_natCast,Int.toNat_zero] at hb
 have hmk:m=k:=by omega
 subst hmk
 cases hv with
 | bGQ u hsp bHY h1 hr =>
 rename_i ad
 refine⟨.slice (some ad) m m,?_,?_⟩
 ·have hz:(if m=0 then ad else ad.add (0*s))=ad:=by
   split
   ·rfl
   ·rw[mP hsp,add_plain]; simp
  simp[Instr.sliceAt,run_underlying ht,Instr.sureAddr,hb,iW hs]
  intro _
  rw[mP hsp,add_plain]; simp
 ·have hl:=aaC s m cs
  have key:aW E (.sl s (chunks s m cs)) (.slice (some ad) (chunks s m cs).length m):=by
   refine .sl (fun i j=>u (i*s+j)) (by rw[hl]; exact bIU _) hk (aaD hc) (fun _=>⟨ad,rfl,hsp,fun i j pv hp=>?_⟩) (fun i j=>h1 _) (fun i j pv hp=>hr _ pv (LK hp))
   have:=bHY (i*s+j) pv (LK hp)
   rw[← this]; congr 1; omega
  rw[hl] at key
  exact key
theorem aPE {e:TypeId} {x:Value} {px:PV} (hW:bR E H w) (hx:aW E px x) (h1:px.cells.all PV.one=true):Yields T.P E H w (Instr.box e x) (.bGQ px.cells):=by
 obtain⟨c1,c2,c3⟩:=uC hx h1
 obtain⟨hW',hE⟩:=hW.bpG x.cells e
 refine⟨.pointer (some ⟨w.heap.size,0,none⟩),_,_,by simp[Instr.box,newVar,newRow],?_,hW',hE⟩
 refine .bGQ (fun j=>if h:j<x.cells.size then x.cells[j] else .int .i64 0) rfl (fun j pv hp=>?_) (fun j=>?_) (fun j pv hp=>?_)
 ·have hj:j<x.cells.size:=by
   rw[c1]
   rcases bJG j px.cells.length with h' | h'
   ·exact h'
   ·rw[bJY h'] at hp; cases hp
  simp[Env.cell,Env.add,upd,hj]
 ·split
  ·rename_i hj
   exact c2 _ (Array.getElem_mem_toList hj)
  ·rfl
 ·have hj:j<x.cells.size:=by
   rw[c1]
   rcases bJG j px.cells.length with h' | h'
   ·exact h'
   ·rw[bJY h'] at hp; cases hp
  rw[dif_pos hj]
  exact (c3 j pv _ hp (bLR hj)).mono hE.env
end
open Go Go.RowKit
theorem tM {s:Nat}:∀ (rows:List (List PV)) (i j:Nat),(∀ r∈rows,r.length=s)→j<s→rows.flatten[i*s+j]?=at2 rows i j
 | [],i,j,_,_=>by simp[at2]
 | r::rows,i,j,h,hj=>by
  have hr:r.length=s:=h r (by simp)
  rw[List.flatten_cons]
  cases i with
  | zero =>
   rw[bLF Om]
   simp[at2]
  | succ i =>
   rw[bLJ (by rw[hr,Nat.succ_mul]; omega)]
   have e:(i+1)*s+j-r.length=i*s+j:=by rw[hr,Nat.succ_mul]; omega
   rw[e,tM rows i j (fun r hr=>h r (by simp[hr])) hj]
   simp[at2]
theorem nC {s:Nat}:∀ (rows:List (List PV)),(∀ r∈rows,r.length=s)→rows.flatten.length=rows.length*s
 | [],_=>by simp
 | r::rows,h=>by
  rw[List.flatten_cons,bIQ,nC rows (fun r hr=>h r (by simp[hr])),h r (by simp),bLG,Nat.succ_mul]
  omega
theorem qT:∀ (ps:List PV) (x y:List PV) (c:Nat),setCells (x++y) (x.length+c) ps=x++setCells y c ps
 | [],x,y,c=>rfl
 | p::ps,x,y,c=>by
  simp only[setCells]
  rw[bLM _ _ Om,Nat.add_sub_cancel_left]
  exact qT ps x _ (c+1)
theorem rZ:∀ (ps:List PV) (x y:List PV) (c:Nat),c+ps.length≤x.length→setCells (x++y) c ps=setCells x c ps++y
 | [],x,y,c,_=>rfl
 | p::ps,x,y,c,h=>by
  simp only[bLG] at h
  simp only[setCells]
  rw[List.set_append_left _ _ Om]
  exact rZ ps _ y (c+1) (by rw[bKU]; omega)
theorem ED:∀ (ps x:List PV) (z:List PV),x.length=ps.length→setCells (z++x) z.length ps=z++ps
 | [],x,z,h=>by
  have:x=[]:=List.eq_nil_of_length_eq_zero (by simpa using h)
  subst this; rfl
 | p::ps,[],z,h=>by simp at h
 | p::ps,y::x,z,h=>by
  simp only[setCells]
  rw[bLM _ _ (bIU _),Nat.sub_self,List.set_cons_zero]
  have:=ED ps x (z++[p]) (by simpa using h)
  simp only[bIQ,bLG,bLA,bJO,List.cons_append,List.nil_append] at this
  simpa using this
theorem SI {s:Nat} (ps:List PV) (hps:ps.length=s):∀ (rows:List (List PV)) (i:Nat),(∀ r∈rows,r.length=s)→i<rows.length→(rows.set i ps).flatten=setCells rows.flatten (i*s) ps
 | [],i,_,h=>by simp at h
 | r::rows,i,h,hi=>by
  have hr:r.length=s:=h r (by simp)
  cases i with
  | zero =>
   rw[List.set_cons_zero,List.flatten_cons,List.flatten_cons,Nat.zero_mul,rZ _ _ _ _ Om]
   have:=ED ps r [] Om
   simp only[List.nil_append,bLA] at this
   rw[this]
  | succ i =>
   rw[List.set_cons_succ,List.flatten_cons,List.flatten_cons,SI ps hps rows i (fun r hr=>h r (by simp[hr])) (by simpa using hi)]
   have:=qT ps r rows.flatten (i*s)
   rw[← this,hr,Nat.succ_mul,Nat.add_comm]
section
variable {T:Tbl} {n:Nat} {E:Env} {F:PF} {H:PH} {a:Act} {w:World}
theorem DO {s:Nat} (hA:dN n E F a) (hN:E.num=T.num):∀ (parts:List (Nat × Operand)) (pl:List (Nat × aP)) (rows out:List (List PV)) (vs:Array Value),
  T.qL parts=some pl→fW s rows F pl=some out→(∀ r∈rows,r.length=s)→mB E rows.flatten vs →
  ∃ us,Instr.fill (fun i=>some (i*s,s)) vs (parts.map fun (i,x)=>(i,a.eval x))=some us∧mB E out.flatten us∧(∀ r∈out,r.length=s)∧out.length=rows.length
 | [],pl,rows,out,vs,h1,h2,h3,h4=>by
  simp[Tbl.qL] at h1; subst h1
  simp[fW] at h2; subst h2
  exact⟨vs,rfl,h4,h3,rfl⟩
 | (i,x)::rest,pl,rows,out,vs,h1,h2,h3,h4=>by
  simp only[Tbl.qL] at h1
  split at h1
  ·rename_i p ps hx hps
   cases h1
   simp only[fW] at h2
   split at h2
   ·rename_i v hv
    split at h2
    ·rename_i hc
     obtain⟨c1,c2,c3⟩:=uC (bG hx hv hA hN) hc.2.2
     have hfs:=SI v.cells hc.1 rows i h3 hc.2.1
     have h4':=mB.setCells v.cells (a.eval x).cells.toList (i*s) _ vs h4 (by simpa using c1) c2 (fun j q u hq hu=>c3 j q u hq (by simpa using hu))
     rw[← hfs] at h4'
     obtain⟨us,g1,g2,g3,g4⟩:=DO hA hN rest ps _ out _ hps h2 (fun r hr=>by
      rcases List.mem_or_eq_of_mem_set hr with hr | rfl
      ·exact h3 r hr
      ·exact hc.1) h4'
     refine⟨us,?_,g2,g3,by simpa using g4⟩
     simp only[bKD,Instr.fill]
     have hsz:vs.size=rows.length*s:=by rw[h4.1,nC rows h3]
     have hle:i*s+s≤rows.length*s:=by
      have:(i+1)*s≤rows.length*s:=bJQ _ hc.2.1
      rw[Nat.succ_mul] at this
      exact this
     rw[if_neg (by simp; rw[c1,hsz]; omega)]
     have hz:Array.foldl (fun (cs:Array Value) (x:Value × Nat)=>cs.setIfInBounds (i*s+x.2) x.1) vs (a.eval x).cells.zipIdx=YA vs (i*s) (a.eval x).cells.toList:=by
      rw[← Array.foldl_toList,Array.toList_zipIdx]
      exact HT (i*s) _ 0 vs
     exact hz ▸ g1
    ·cases h2
   ·cases h2
  ·cases h1
theorem mB.bpP {z:List PV} {zv:Array Value} {s len:Nat} (h:mB E z zv) (hs:z.length=s) (h0:0<s) :
  mB E (bIP len z).flatten ((Array.range (len*s)).map (zv[·%zv.size]!)):=by
 have bHZ:∀ r∈bIP len z,r.length=s:=fun r hr=>by rw[(List.mem_replicate.1 hr).2]; exact hs
 have hzs:zv.size=s:=by rw[h.1,hs]
 refine⟨by rw[nC _ bHZ]; simp,fun v hv=>?_,fun k pv v hp hv=>?_⟩
 ·simp only[Array.toList_map,bJV] at hv
  obtain⟨k,-,rfl⟩:=hv
  have hk:k%zv.size<zv.size:=bJX _ Om
  rw[getElem!_pos zv _ hk]
  exact h.2.1 _ (Array.getElem_mem_toList hk)
 ·have hkl:k<len*s:=by
   rcases bJG k (len*s) with h' | h'
   ·exact h'
   ·rw[Array.getElem?_eq_none (by simpa using h')] at hv; cases hv
  have hmod:k%s<s:=bJX _ h0
  have hdiv:k/s<len:=(bLC h0).2 hkl
  have hk:k/s*s+k%s=k:=by rw[bJM]; exact bLN k s
  have e:=tM (bIP len z) (k/s) (k%s) bHZ hmod
  rw[hk] at e
  rw[e] at hp
  simp only[at2,List.getElem?_replicate,hdiv,if_true,bLQ] at hp
  simp only[Array.getElem?_map,Array.getElem?_range,hkl,if_true,bJS] at hv
  rw[getElem!_pos zv _ (by rw[hzs]; exact hmod)] at hv
  cases hv
  refine h.2.2 (k%s) pv _ (by simpa only [hzs] using hp) ?_
  simp only[hzs]
  exact bLR (by rw[hzs]; exact hmod)
theorem LH {t e:TypeId} {s len:Nat} {z:List PV} {parts:Array (Nat × Operand)} {pl:List (Nat × aP)} {out:List (List PV)} (ht:T.P.underlying t=some (.slice e)) (hs:T.size e=some s) (hz:T.zero e=some z)
  (hzl:z.length=s) (h0:0<s) (hpl:T.qL parts.toList=some pl) (hle:len*s≤16777216) (ho:fW s (bIP len z) F pl=some out) (hA:dN n E F a) (hN:E.num=T.num) :
  ∃ us,(Instr.buildSlice t len (parts.map fun (i,x)=>(i,a.eval x))).run T.P w=.ok (.slice (some ⟨w.heap.size,0,none⟩) len len) (w.alloc (.cells us e))∧mB E out.flatten us∧(∀ r∈out,r.length=s)∧out.length=len:=by
 obtain⟨i,zv,hi,hiz,hzr⟩:=JP (E:=E) hz
 obtain⟨i',hi',hsz⟩:=aqW hs
 rw[hi] at hi'
 cases hi'
 have bHZ:∀ r∈bIP len z,r.length=s:=fun r hr=>by rw[(List.mem_replicate.1 hr).2]; exact hzl
 obtain⟨us,g1,g2,g3,g4⟩:=DO hA hN parts.toList pl _ out _ hpl ho bHZ (hzr.bpP (len:=len) hzl h0)
 rw[List.length_replicate] at g4
 refine⟨us,?_,g2,g3,g4⟩
 by_cases hl0:len=0
 ·subst hl0
  have hpe:parts.toList=[]:=by
   cases hpp:parts.toList with
   | nil=>rfl
   | cons x rest =>
    rw[hpp] at hpl
    obtain⟨i,y⟩:=x
    simp only[Tbl.qL] at hpl
    split at hpl
    ·cases hpl
     simp only[fW] at ho
     split at ho
     ·split at ho
      ·rename_i hc; simp at hc
      ·cases ho
     ·cases ho
    ·cases hpl
  rw[hpe] at g1
  simp only[bKW,Instr.fill,Nat.zero_mul] at g1
  have:us=#[]:=by
   have h1:=g2.1
   rw[nC out g3,g4,Nat.zero_mul] at h1
   exact Array.eq_empty_of_size_eq_zero h1
  subst this
  have hpa:parts=#[]:=by
   apply Array.ext'
   simpa using hpe
  subst hpa
  have hr0:Array.range 0=#[]:=by apply Array.ext'; simp
  simp[Instr.buildSlice,run_underlying ht,iW hs,Instr.fill,newRow,hr0]
 ·refine run_buildSlice w t e len _ us i zv ht hi hiz (by rw[hsz]; omega) (by rw[hsz]; exact Nat.ne_of_gt (Nat.mul_pos Om h0)) ?_
  rw[hsz,Array.toList_map]
  exact g1
theorem ajQ {t e:TypeId} {s len:Nat} {z:List PV} {parts:Array (Nat × Operand)} {pl:List (Nat × aP)} {out:List (List PV)} (ht:T.P.underlying t=some (.slice e)) (hs:T.size e=some s) (hz:T.zero e=some z)
  (hzl:z.length=s) (h0:0<s) (hpl:T.qL parts.toList=some pl) (hle:len*s≤16777216) (ho:fW s (bIP len z) F pl=some out) (hA:dN n E F a) (hN:E.num=T.num) (hW:bR E H w) :
  Yields T.P E H w (Instr.buildSlice t len (parts.map fun (i,x)=>(i,a.eval x))) (.sl s out):=by
 obtain⟨us,bIG,hc,bGV,hlen⟩:=LH (w:=w) ht hs hz hzl h0 hpl hle ho hA hN
 obtain⟨hW',hE⟩:=hW.bpG us e
 refine⟨_,_,_,bIG,?_,hW',hE⟩
 rw[← hlen]
 have hj:∀ i j pv,at2 out i j=some pv→j<s:=fun i j pv hp=>by
  unfold at2 at hp
  cases hr:out[i]? with
  | none=>simp[hr] at hp
  | some r =>
   rw[hr,bLQ] at hp
   have:=bGV r (bKX hr)
   rcases bJG j r.length with h' | h'
   ·omega
   ·rw[bJY h'] at hp; cases hp
 have bHY:∀ i j pv,at2 out i j=some pv→∃ h:i*s+j<us.size,aW E pv us[i*s+j]:=fun i j pv hp=>by
  have e1:=tM out i j bGV (hj i j pv hp)
  rw[hp] at e1
  have hlt:i*s+j<us.size:=by
   rw[hc.1]
   rcases bJG (i*s+j) out.flatten.length with h' | h'
   ·exact h'
   ·rw[bJY h'] at e1; cases e1
  exact⟨hlt,hc.2.2 _ pv _ e1 (bLR hlt)⟩
 refine .sl (fun i j=>if h:i*s+j<us.size then us[i*s+j] else .int .i64 0) (bIU _) ?_ bGV (fun _=>⟨_,rfl,rfl,fun i j pv hp=>?_⟩) (fun i j=>?_) (fun i j pv hp=>?_)
 ·have:out.length*1≤out.length*s:=bKO _ h0
  simp only[maxLen]
  rw[hlen] at this ⊢
  omega
 ·obtain⟨hlt,-⟩:=bHY i j pv hp
  simp[Env.cell,Env.add,upd,hlt]
 ·split
  ·rename_i hlt
   exact hc.2.1 _ (Array.getElem_mem_toList hlt)
  ·rfl
 ·obtain⟨hlt,hr⟩:=bHY i j pv hp
  rw[dif_pos hlt]
  exact hr.mono hE.env
end
open Go Go.RowKit
section
variable {T:Tbl} {n:Nat} {E:Env} {F:PF} {H:PH} {a:Act} {w:World}
theorem agP {s:Nat} {pv:PV} {v:Value} {rows:List (List PV)} (hW:bR E H w) (hv:aW E pv v) (h:dT H s pv=some rows) :
  ∃ ad cap,v=.slice ad rows.length cap∧rows.length≤cap∧(∀ r∈rows,r.length=s)∧(rows≠[]→∃ b off,ad=some ⟨b,off,none⟩ ∧
   ∀ i j q,at2 rows i j=some q→∃ u,w.cell? ⟨b,off+(i*s+j),none⟩=some u∧u.oneCell'=true∧aW E q u):=by
 unfold dT at h
 split at h
 ·cases h; cases hv
  exact⟨none,0,rfl,bIU _,by simp,fun h=>absurd rfl h⟩
 ·rename_i s0 rs
  split at h
  ·rename_i e
   subst e
   cases h
   cases hv with
   | sl u hcap bID bGV ha ho hr =>
   rename_i a0 cap
   refine⟨a0,cap,rfl,hcap,bGV,fun hne=>?_⟩
   obtain⟨ad,rfl,hsp,hc⟩:=ha hne
   refine⟨ad.block,ad.off,by rw[← mP hsp],fun i j q hq=>⟨u i j,?_,ho i j,hr i j q hq⟩⟩
   have:=hW.aSQ (hc i j q hq)
   rw[← this]
   congr 2
   omega
  ·cases h
 ·rename_i o s0 off len
  split at h
  ·rename_i e
   subst e
   split at h
   ·rename_i s' rs ho
    split at h
    ·rename_i hc
     cases h
     obtain⟨rfl,hle⟩:=hc
     obtain⟨hlt,cur,ty,hh,hsz,bGV,hlen,bHY⟩:=hW.h o _ ho
     cases hv with
     | osl hb hsp bII hlen' bID hn bHO =>
     rename_i cap N ad
     have hl:((rs.drop off).take len).length=len:=by rw[bJF,bKQ]; omega
     refine⟨some ad,cap,by rw[hl],by omega,fun r hr=>bGV r (List.mem_of_mem_drop (List.mem_of_mem_take hr)),fun hne=>?_⟩
     have hpos:0<((rs.drop off).take len).length:=List.length_pos_iff.2 hne
     have hoff':ad.off=off*s':=by
      rcases bII with h | h
      ·omega
      ·exact h
     have had:ad=⟨o,off*s',none⟩:=by cases ad; simp_all
     subst had
     refine⟨o,off*s',rfl,fun i j q hq=>?_⟩
     have hq':at2 rs (off+i) j=some q:=by
      unfold at2 at hq ⊢
      rw[bLK] at hq
      split at hq
      ·rw[List.getElem?_drop] at hq; exact hq
      ·simp at hq
     obtain⟨u,h1,h2,h3⟩:=bHY (off+i) j q hq'
     refine⟨u,?_,h2,h3⟩
     rw[cell_of_row w o _ cur ty (0,0) hh,← h1]
     congr 1
     rw[bJP]; omega
    ·cases h
   ·cases h
  ·cases h
 ·cases h
theorem KO:∀ {rows:List (List PV)} {l:List UInt8},oC rows=some l→∃ ns:List Int,rows=ns.map (fun n=>[PV.int .u8 n])∧l=ns.map fun n=>UInt8.ofNat n.toNat
 | [],l,h=>by simp[oC] at h; exact⟨[],by simp[h]⟩
 | r::rows,l,h=>by
  unfold oC at h
  split at h
  ·exact⟨[],by simp at *⟩
  ·rename_i m rest heq
   cases heq
   simp only[bIW] at h
   obtain⟨l',hl',rfl⟩:=h
   obtain⟨ns,h1,h2⟩:=KO hl'
   exact⟨m::ns,by simp[h1],by simp[h2]⟩
  ·cases h
theorem ZY {src dst e:TypeId} {pv:PV} {v:Value} {rows:List (List PV)} {l:List UInt8} (hs:T.P.underlying src=some (.slice e)) (he:T.P.underlying e=some (.int .u8)) (hd:T.P.underlying dst=some .string)
  (hW:bR E H w) (hv:aW E pv v) (hr:dT H 1 pv=some rows) (hb:oC rows=some l):∃ u,(convert src dst v).run T.P w=.ok u w∧aW E (.str l) u:=by
 obtain⟨ad,cap,rfl,hcap,bGV,bHY⟩:=agP hW hv hr
 obtain⟨ns,rfl,rfl⟩:=KO hb
 by_cases hne:ns=[]
 ·subst hne
  refine⟨.string ByteArray.empty,?_,aW.str ByteArray.empty⟩
  cases ad with
  | none=>exact run_convert_bytes_nil w src e hs he _ _ dst hd
  | some x =>
   rw[run_convert_bytes_string w src dst e _ _ _ hs he hd]
   have:=run_bytesToString (P:=T.P) w x 0 cap [] (by simp[Go.loadCells,Go.loadCellsFrom])
   simpa using this
 ·obtain⟨b,off,rfl,hc⟩:=bHY (by simpa using hne)
  have hl:(ns.map fun n=>[PV.int .u8 n]).length=ns.length:=by simp
  refine⟨.string (strOfNums ns),?_,?_⟩
  ·rw[hl]
   refine run_convert_bytes_arg w src e hs he b off ns.length cap ns rfl (fun i hi=>?_) dst hd
   obtain⟨u,h1,h2,h3⟩:=hc i 0 (.int .u8 ns[i]) (by simp[at2,hi])
   cases h3
   simp only[Nat.mul_one,bKF] at h1
   rw[h1]
   simp[List.getD,hi]
  ·have:=aW.str (E:=E) (strOfNums ns)
   rw[strOfNums_data] at this
   exact this
theorem eP.len {ps:List PV} {vs:List Value} (h:eP E ps vs):vs.length=ps.length:=by
 induction h with
 | nil=>rfl
 | cons _ _ ih=>simp[ih]
theorem eP.at_ {ps:List PV} {vs:List Value} (h:eP E ps vs):∀ (j:Nat) p v,ps[j]?=some p→vs[j]?=some v→aW E p v:=by
 induction h with
 | nil=>intro j p v hp; simp at hp
 | cons h _ ih =>
  intro j p v hp hv
  cases j with
  | zero=>simp at hp hv; subst hp; subst hv; exact h
  | succ j=>exact ih j p v (by simpa using hp) (by simpa using hv)
theorem eP.mono {E':Env} (hE:E.le E') {ps:List PV} {vs:List Value} (h:eP E ps vs):eP E' ps vs:=by
 induction h with
 | nil=>exact .nil
 | cons h _ ih=>exact .cons (h.mono hE) ih
def POp.mZ:POp→Bool
 | .call .. | .bHT ..=>true
 | _=>false
theorem qZ {P:Program} {o:Oper} {s:Sem Value} {v:Value} {w w':World} (h:execOp a.eval o=(do pure (.value (← s)):Sem Next)) (hr:s.run P w=.ok v w'):(execOp a.eval o).run P w=.ok (.value v) w':=by
 rw[h]; simp[hr]
end
open Go Go.RowKit
def KSh.desc:KSh→TypeDesc
 | .int k=>.int k
 | .bool=>.bool
 | .str=>.string
def KSh.sc:KSh→Sc
 | .int _=>.int
 | .bool=>.bool
 | .str=>.str
def KS.pv:KS→PV
 | .int k n=>.int k n
 | .bool b=>.bool b
 | .str s=>.str s
section
variable {T:Tbl} {n:Nat} {E:Env} {F:PF} {H:PH} {a:Act} {w:World}
theorem ajP {α:Type} [BEq α] [LawfulBEq α] [DecidableEq α] (a b:α):(a==b)=decide (a=b):=by
 by_cases h:a=b<;>simp[h]
theorem KS.beD {pv:PV} {v:Value} {k:KS} (h:aW E pv v) (hk:KS.of pv=some k):v=k.val:=by
 unfold KS.of at hk
 split at hk<;>cases hk<;>cases h
 ·rfl
 ·rfl
 ·simp[KS.val]
theorem KS.bwE (k:KS):aW E k.pv k.val:=by
 cases k with
 | int k n=>exact .int k n
 | bool b=>exact .bool b
 | str s =>
  have:=aW.str (E:=E) ⟨s.toArray⟩
  simpa [KS.pv,KS.val] using this
theorem KS.aYB:∀ {ps:List PV} {ks:List KS} {vs:List Value},KS.ofs ps=some ks→vs.length=ps.length→(∀ (j:Nat) p v,ps[j]?=some p→vs[j]?=some v→aW E p v)→vs=ks.map KS.val
 | [],ks,vs,h,hl,_=>by
  simp[KS.ofs] at h; subst h
  simp at hl; subst hl; rfl
 | p::ps,ks,vs,h,hl,hr=>by
  simp only[KS.ofs] at h
  split at h
  ·rename_i k ks' h1 h2
   cases h
   cases vs with
   | nil=>simp at hl
   | cons v vs =>
    have e2:=KS.aYB (vs:=vs) h2 (by simpa using hl) fun j q u x y=>hr (j+1) q u (by simpa using x) (by simpa using y)
    rw[KS.beD (hr 0 p v rfl rfl) h1,e2]
    rfl
  ·cases h
theorem anI {sh:MSh} {pv:PV} {v:Value} {k:List KS} (h:aW E pv v) (hk:keyOf sh pv=some k):v=fO sh k∧k.map KS.sh=sh.2∧(sh.1=false→∃ s,k=[s]):=by
 obtain⟨b,l⟩:=sh
 unfold keyOf at hk
 split at hk
 ·rename_i cs hb
  simp only at hb
  subst hb
  simp only[bLP] at hk
  obtain⟨k',h1,h2⟩:=hk
  split at h2
  ·rename_i he
   cases h2
   cases h with
   | agg vs hl h1' hr =>
   refine⟨?_,he,by simp⟩
   have:=KS.aYB (vs:=vs.toList) h1 (by simpa using hl) fun j p u x y=>hr j p u x (by simpa using y)
   simp only[fO,if_true,Value.agg.injEq]
   rw[← this]
  ·cases h2
 ·rename_i v' hb
  simp only at hb
  subst hb
  simp only[bLP] at hk
  obtain⟨s,h1,h2⟩:=hk
  split at h2
  ·rename_i he
   cases h2
   exact⟨by simp[fO,KS.beD h h1],by simpa using he,fun _=>⟨s,rfl⟩⟩
  ·cases h2
 ·cases hk
theorem rO {t:TypeId} {s:KSh} (h:T.wZ t=some s):T.P.underlying t=some s.desc∧T.scalar t=some s.sc:=by
 unfold Tbl.wZ at h
 unfold Tbl.scalar
 split at h<;>cases h<;>(rename_i hu; rw[hu]; exact⟨rfl,rfl⟩)
theorem aSB {s:KSh} {x y:KS} (hx:x.sh=s) (hy:y.sh=s):Instr.sameNow s.desc x.val y.val=some (decide (x=y)):=by
 subst hx
 cases x<;>cases y<;>simp[KS.sh] at hy
 ·subst hy
  simp[KSh.desc,KS.sh,KS.val,Instr.sameNow]
  exact ajP _ _
 ·simp[KSh.desc,KS.sh,KS.val,Instr.sameNow]
  exact ajP _ _
 ·rename_i a b
  simp only[KSh.desc,KS.sh,KS.val,Instr.sameNow,bKT.injEq,KS.str.injEq]
  rw[beq_toListBytes,ByteArray.toList_eq,ByteArray.toList_eq]
  simp
  exact ajP _ _
theorem abL:∀ {fs:List Field} {k:Nat} {l:List KSh},T.kE k fs=some l→T.qB k fs=some (l.map KSh.sc)
 | [],k,l,h=>by simp[Tbl.kE] at h; subst h; rfl
 | f::fs,k,l,h=>by
  simp only[Tbl.kE] at h
  split at h
  ·rename_i c cs h1 h2
   split at h
   ·rename_i hc
    cases h
    simp only[Tbl.qB,(rO h1).2,abL h2]
    rw[if_pos hc]
    rfl
   ·cases h
  ·cases h
theorem baQ:∀ {l:List KSh} {xs ys:List KS},xs.map KS.sh=l→ys.map KS.sh=l→PV.eqs (l.map KSh.sc) (xs.map KS.pv) (ys.map KS.pv)=some (decide (xs=ys))
 | [],xs,ys,hx,hy=>by
  simp at hx hy; subst hx; subst hy; simp[PV.eqs]
 | s::l,xs,ys,hx,hy=>by
  cases xs with
  | nil=>simp at hx
  | cons x xs =>
  cases ys with
  | nil=>simp at hy
  | cons y ys =>
  simp only[bKD,List.cons.injEq] at hx hy
  have h1:PV.eq1 s.sc x.pv y.pv=some (decide (x=y)):=by
   obtain⟨hx1,-⟩:=hx
   obtain⟨hy1,-⟩:=hy
   subst hx1
   cases x<;>cases y<;>simp[KS.sh] at hy1
   ·subst hy1
    simp[KSh.sc,KS.sh,KS.pv,PV.eq1]
    exact ajP _ _
   ·simp[KSh.sc,KS.sh,KS.pv,PV.eq1]
    exact ajP _ _
   ·simp[KSh.sc,KS.sh,KS.pv,PV.eq1]
    exact ajP _ _
  simp only[bKD,PV.eqs,h1]
  by_cases e:x=y
  ·subst e
   simp only[decide_true,baQ hx.2 hy.2]
   simp
  ·simp only[e,decide_false,bIM]
   have l1:xs.length=l.length:=by rw[← hx.2]; simp
   have l2:ys.length=l.length:=by rw[← hy.2]; simp
   rw[if_pos ⟨l1,l2⟩]
   simp[e]
theorem baR {t:TypeId} {fs:Array Field} {l:List KSh} (hu:T.P.underlying t=some (.struct fs)) (hp:T.P.stoodInHeld t=false) (hl:T.kE 0 fs.toList=some l) {x y:List KS} (hx:x.map KS.sh=l) (hy:y.map KS.sh=l) :
  (Op.equal t (fO (true,l) x) (fO (true,l) y)).run T.P w=.ok (decide (x=y)) w:=by
 have hfo:T.P.fieldsOf t=fs:=by simp[Program.fieldsOf,hu]
 have rr:∀ (z:List KS) (j:Nat) q u,(z.map KS.pv)[j]?=some q→(z.map KS.val).toArray[0+j]?=some u→aW (E:=⟨fun _=>none,fun _=>none,fun _=>0⟩) q u:=by
  intro z j q u h1 h2
  simp only[bJU,bIW,bJJ,List.getElem?_toArray] at h1 h2
  obtain⟨k,hk,rfl⟩:=h1
  obtain⟨k',hk',rfl⟩:=h2
  rw[hk] at hk'; cases hk'
  exact KS.bwE k
 have he:=LN (w:=w) 9998 (x.map KS.val).toArray (y.map KS.val).toArray fs.toList (l.map KSh.sc) 0 (x.map KS.pv) (y.map KS.pv) _ (abL hl) (baQ hx hy) (rr x) (rr y) (by simp) (by simp)
 have h1:=run_equalIn_struct w 9999 t (x.map KS.val).toArray (y.map KS.val).toArray (by rw[hfo]; exact hu) hp
 rw[hfo,he] at h1
 simpa [Op.equal,Op.maxDepth,fO] using h1
def Found (L:List (List KS × PV)) (es:List MapEntry) (k:List KS) (i:Nat) (r:Option (Nat × Value)):Prop :=
 match pS k L i with
 | none=>r=none
 | some (j,pv)=>∃ e':MapEntry,i≤j∧es[j-i]?=some e'∧L[j-i]?=some (k,pv)∧r=some (j,e'.val)
theorem Found.next {L:List (List KS × PV)} {es:List MapEntry} {k:List KS} {i:Nat} {r:Option (Nat × Value)} {e:List KS × PV} {e':MapEntry} (h:Found L es k (i+1) r) (hne:e.1≠k):Found (e::L) (e'::es) k i r:=by
 unfold Found at h ⊢
 simp only[pS,if_neg hne]
 split at h
 ·exact h
 ·rename_i j pv hj
  obtain⟨x,h1,h2,h3,h4⟩:=h
  refine⟨x,by omega,?_,?_,h4⟩
  ·rw[show j-i=(j-(i+1))+1 by omega]; exact h2
  ·rw[show j-i=(j-(i+1))+1 by omega]; exact h3
theorem Found.here {L:List (List KS × PV)} {es:List MapEntry} {k:List KS} {i:Nat} {e:List KS × PV} {e':MapEntry} (he:e.1=k):Found (e::L) (e'::es) k i (some (i,e'.val)):=by
 unfold Found
 simp only[pS,if_pos he]
 refine⟨e',bIU _,by simp,?_,rfl⟩
 subst he
 simp
def qJ (sh:MSh) (L:List (List KS × PV)) (es:List MapEntry):Prop :=
 es.length=L.length∧∀ (i:Nat) e e',L[i]?=some e→es[i]?=some e'→e.1.map KS.sh=sh.2∧e'.key=fO sh e.1
theorem qJ.tail {sh:MSh} {e:List KS × PV} {L:List (List KS × PV)} {e':MapEntry} {es:List MapEntry} (h:qJ sh (e::L) (e'::es)):qJ sh L es :=
 ⟨by simpa using h.1,fun i x y a b=>h.2 (i+1) x y (by simpa using a) (by simpa using b)⟩
theorem SG {s:KSh} {x:KS} (hx:x.sh=s):∀ {L:List (List KS × PV)} {es:List MapEntry} {i:Nat},qJ (false,[s]) L es→∃ r,Instr.findNow s.desc x.val es i=some r∧Found L es [x] i r
 | [],es,i,h=>by
  have:es=[]:=by simpa using h.1
  subst this
  exact⟨none,rfl,rfl⟩
 | e::L,es,i,h=>by
  cases es with
  | nil=>have:=h.1; simp at this
  | cons e' es =>
  obtain⟨h1,h2⟩:=h.2 0 e e' rfl rfl
  obtain⟨ek,ep⟩:=e
  cases ek with
  | nil=>simp at h1
  | cons y ys =>
   simp only[bKD,List.cons.injEq,List.map_eq_nil_iff] at h1
   obtain⟨hy,rfl⟩:=h1
   have hk:e'.key=y.val:=by rw[h2]; rfl
   simp only[Instr.findNow,hk,aSB hx hy]
   by_cases e0:x=y
   ·subst e0
    simp only[decide_true]
    exact⟨_,rfl,Found.here rfl⟩
   ·simp only[e0,decide_false]
    obtain⟨r,g1,g2⟩:=SG hx (i:=i+1) h.tail
    exact⟨r,g1,g2.next (by simp; exact fun e=>e0 e.symm)⟩
theorem DP {t:TypeId} {fs:Array Field} {l:List KSh} (hu:T.P.underlying t=some (.struct fs)) (hp:T.P.stoodInHeld t=false) (hl:T.kE 0 fs.toList=some l) {x:List KS} (hx:x.map KS.sh=l) :
  ∀ {L:List (List KS × PV)} {es:List MapEntry} {i:Nat},qJ (true,l) L es→∃ r,(Instr.findAsking t (fO (true,l) x) es i).run T.P w=.ok r w∧Found L es x i r
 | [],es,i,h=>by
  have:es=[]:=by simpa using h.1
  subst this
  exact⟨none,rfl,rfl⟩
 | e::L,es,i,h=>by
  cases es with
  | nil=>have:=h.1; simp at this
  | cons e' es =>
  obtain⟨h1,h2⟩:=h.2 0 e e' rfl rfl
  simp only[Instr.findAsking,Sem.run_bind,h2,baR hu hp hl hx h1,Result.andThen_ok]
  by_cases e0:x=e.1
  ·subst e0
   simp only[decide_true,if_true,Sem.run_pure]
   exact⟨_,rfl,Found.here rfl⟩
  ·simp only[e0,decide_false,bLS,if_false]
   obtain⟨r,g1,g2⟩:=DP hu hp hl hx (i:=i+1) h.tail
   exact⟨r,g1,g2.next (fun e=>e0 e.symm)⟩
theorem DR {t:TypeId} {sh:MSh} (h:T.kL t=some sh):(∃ s,sh=(false,[s])∧T.wZ t=some s)∨(∃ fs l,sh=(true,l)∧T.P.underlying t=some (.struct fs)∧T.P.stoodInHeld t=false∧T.kE 0 fs.toList=some l):=by
 unfold Tbl.kL at h
 split at h
 ·rename_i fs hu
  split at h
  ·rename_i hp
   simp only[bIW] at h
   obtain⟨l,hl,rfl⟩:=h
   exact .inr ⟨fs,l,rfl,hu,hp,hl⟩
  ·cases h
 ·simp only[bIW] at h
  obtain⟨s,hs,rfl⟩:=h
  exact .inl ⟨s,rfl,hs⟩
theorem KP {t:TypeId} {sh:MSh} (hsh:T.kL t=some sh) {k:List KS} (hk:k.map KS.sh=sh.2) {L:List (List KS × PV)} {es:List MapEntry} (h:qJ sh L es) :
  ∃ r,(Instr.findKey t (fO sh k) es).run T.P w=.ok r w∧Found L es k 0 r:=by
 rcases DR hsh with ⟨s,rfl,hs⟩ | ⟨fs,l,rfl,hu,hp,hl⟩
 ·have hd:=(rO hs).1
  cases k with
  | nil=>simp at hk
  | cons x xs =>
   simp only[bKD,List.cons.injEq,List.map_eq_nil_iff] at hk
   obtain⟨hx,rfl⟩:=hk
   obtain⟨r,g1,g2⟩:=SG hx (i:=0) h
   refine⟨r,?_,g2⟩
   have hv:fO (false,[s]) [x]=x.val:=rfl
   simp only[Instr.findKey,Sem.run_bind,run_underlying hd,Result.andThen_ok,hv,g1,Sem.run_pure]
 ·obtain⟨r,g1,g2⟩:=DP (w:=w) hu hp hl hk (i:=0) h
  cases es with
  | nil =>
   have:L=[]:=by simpa using h.1.symm
   subst this
   refine⟨none,?_,rfl⟩
   simp[Instr.findKey,run_underlying hu,Instr.findNow]
  | cons e es =>
   refine⟨r,?_,g2⟩
   have hno:Instr.findNow (.struct fs) (fO (true,l) k) (e::es) 0=none:=by
    simp[Instr.findNow,Instr.sameNow,fO]
   simp only[Instr.findKey,Sem.run_bind,run_underlying hu,Result.andThen_ok,hno]
   exact g1
theorem SD {t:TypeId} {s:KSh} (hs:T.wZ t=some s) (em:Bool) (d:Nat) (x:KS):(Instr.checkKey em (d+1) t x.val).run T.P w=.ok () w:=by
 have hu:=(rO hs).1
 simp only[Instr.checkKey,Sem.run_bind,run_underlying hu,Result.andThen_ok]
 cases s<;>cases x<;>rfl
theorem DM {t:TypeId} {sh:MSh} (hsh:T.kL t=some sh) {k:List KS} (hk:k.map KS.sh=sh.2) (em:Bool):(Instr.checkKey em 10000 t (fO sh k)).run T.P w=.ok () w:=by
 rcases DR hsh with ⟨s,rfl,hs⟩ | ⟨fs,l,rfl,hu,hp,hl⟩
 ·cases k with
  | nil=>simp at hk
  | cons x xs =>
   simp only[bKD,List.cons.injEq,List.map_eq_nil_iff] at hk
   obtain⟨hx,rfl⟩:=hk
   exact SD hs em 9999 x
 ·simp only[fO,if_true]
  obtain⟨m,hm⟩:∃ m:Nat,m=9999:=⟨_,rfl⟩
  rw[show (10000:Nat)=m+1 by omega]
  simp only[Instr.checkKey,Sem.run_bind,run_underlying hu,Result.andThen_ok]
  rw[← Array.forIn_toList]
  have key:∀ (fs:List Field) (l:List KSh) (j:Nat),T.kE j fs=some l→(∀ (i:Nat) s,l[i]?=some s→∃ x:KS,(k.map KS.val).toArray[j+i]?=some x.val) →
    (forIn fs PUnit.unit (fun f (_:PUnit)=>(do
     if f.name≠"_" then
      Instr.checkKey em m f.type (← part f.type (k.map KS.val).toArray f.offset)
      pure (ForInStep.yield PUnit.unit)
     else pure (ForInStep.yield PUnit.unit):Sem (ForInStep PUnit)))).run T.P w=.ok PUnit.unit w:=by
   intro fs
   induction fs with
   | nil=>intro l j _ _; simp
   | cons f fs ih =>
    intro l j h hv
    simp only[Tbl.kE] at h
    split at h
    ·rename_i c cs h1 h2
     split at h
     ·rename_i hc
      cases h
      obtain⟨x,hx⟩:=hv 0 c rfl
      simp only[List.forIn_cons,Sem.run_bind,Sem.run_ite]
      rw[if_pos hc.1]
      have hp1:=HJ (w:=w) (rO h1).2 (k.map KS.val).toArray f.offset x.val (by rw[hc.2]; simpa using hx)
      simp only[Sem.run_bind,hp1,Result.andThen_ok]
      rw[show m=9998+1 by omega,SD h1 em 9998 x,← show m=9998+1 by omega]
      simp only[Result.andThen_ok,Sem.run_pure]
      exact ih cs (j+1) h2 fun i s hs=>by
       obtain⟨y,hy⟩:=hv (i+1) s (by simpa using hs)
       exact⟨y,by rw[show j+1+i=j+(i+1) by omega]; exact hy⟩
     ·cases h
    ·cases h
  have:=key fs.toList l 0 hl fun i s hs=>by
   have hlen:k.length=l.length:=by rw[show l=k.map KS.sh from hk.symm]; simp
   have hi:i<l.length:=(bKA.1 hs).1
   exact⟨k[i],by simp[show i<k.length by omega]⟩
  simp at this ⊢
  rw[this]
  rfl
theorem aRF {L:List (List KS × PV)} {es:List MapEntry} {k:List KS} {r:Option (Nat × Value)} (h:Found L es k 0 r) (hv:∀ (i:Nat) (e:List KS × PV) (e':MapEntry),L[i]?=some e→es[i]?=some e'→aW E e.2 e'.val) :
  (mapOf L k=none∧r=none)∨∃ j pv v,mapOf L k=some pv∧r=some (j,v)∧aW E pv v:=by
 unfold Found at h
 unfold mapOf
 split at h
 ·rename_i hn
  exact .inl ⟨by rw[hn]; rfl,h⟩
 ·rename_i j pv hj
  obtain⟨e',-,h2,h3,h4⟩:=h
  exact .inr ⟨j,pv,e'.val,by rw[hj]; rfl,h4,hv _ _ e' h3 h2⟩
theorem aEW {t kt et:TypeId} {sh:MSh} {info:TypeInfo} {z:Value} {pz pk:PV} {x k:Value} {o:Nat} {g:kW} {key:List KS} {ok:Bool} (ht:T.P.underlying t=some (.map kt et)) (hsh:T.kL kt=some sh)
  (hi:T.P.info? et=some info) (hz:info.zero=some z) (hpz:ofValue z=some pz) (hx:aW E (.map o) x) (hk:aW E pk k) (ho:H o=some (.map sh g)) (hkey:keyOf sh pk=some key) (hW:bR E H w) :
  ∃ v,(Instr.lookup t x k ok).run T.P w=.ok v w∧aW E (if ok then .tup [(g key).getD pz,.bool (g key).isSome] else (g key).getD pz) v:=by
 cases hx
 obtain⟨hlt,es,clock,L,hh,hsz,rfl,hes⟩:=hW.h o _ ho
 obtain⟨hkv,hks,-⟩:=anI hk hkey
 have hKA:qJ sh L es.toList:=⟨by simpa using hsz,fun i e e' a b=>by have:=hes i e e' a (by simpa using b); exact⟨this.1,this.2.1⟩⟩
 obtain⟨r,g1,g2⟩:=KP (w:=w) hsh hks hKA
 have g3:=aRF (E:=E) g2 fun i e e' a b=>(hes i e e' a (by simpa using b)).2.2
 subst hkv
 have hget:(getObj o).run T.P w=.ok (.map es clock) w:=by simp[getObj,Sem.run,hh]
 have hzv:(zeroValue et).run T.P w=.ok z w:=by simp[zeroValue,typeInfo,run_program,hi,hz]
 simp only[Instr.lookup,Sem.run_bind,run_underlying ht,Result.andThen_ok,hget,Sem.run_pure,DM hsh hks,g1]
 rcases g3 with ⟨g4,rfl⟩ | ⟨j,pv,v,g4,rfl,hr⟩
 ·simp only[hzv,Sem.run_bind,Result.andThen_ok,Sem.run_pure,g4,Option.getD_none,Option.isSome_none]
  cases ok
  ·exact⟨z,rfl,tR hpz⟩
  ·refine⟨_,rfl,.tup #[z,.bool false] rfl fun j p u a b=>?_⟩
   match j with
   | 0=>simp at a b; subst a; subst b; exact tR hpz
   | 1=>simp at a b; subst a; subst b; exact .bool _
   | j+2=>simp at a
 ·simp only[Sem.run_pure,Result.andThen_ok,g4,bKK,Option.isSome_some]
  cases ok
  ·exact⟨v,rfl,hr⟩
  ·refine⟨_,rfl,.tup #[v,.bool true] rfl fun j p u a b=>?_⟩
   match j with
   | 0=>simp at a b; subst a; subst b; exact hr
   | 1=>simp at a b; subst a; subst b; exact .bool _
   | j+2=>simp at a
end
open Go Go.RowKit
section
variable {T:Tbl} {n:Nat} {E:Env} {F:PF} {H:PH} {a:Act} {w:World}
def Good (P:Program) (E:Env) (H:PH) (w:World) (o:Oper) (a:Act) (pv:PV):Prop :=
 ∃ v w' E',(execOp a.eval o).run P w=.ok (.value v) w'∧aW E' pv v∧bR E' H w'∧Ext E H w E' H w'
theorem Good.mk' {P:Program} {o:Oper} {pv:PV} {v:Value} (hW:bR E H w) (h:(execOp a.eval o).run P w=.ok (.value v) w) (r:aW E pv v):Good P E H w o a pv:=⟨v,w,E,h,r,hW,.refl E H w⟩
theorem Good.of {P:Program} {o:Oper} {pv:PV} {s:Sem Value} (he:execOp a.eval o=(do pure (.value (← s)):Sem Next)) (h:Yields P E H w s pv):Good P E H w o a pv:=by
 obtain⟨v,w',E',h1,h2,h3,h4⟩:=h
 exact⟨v,w',E',qZ he h1,h2,h3,h4⟩
theorem Good.val {P:Program} {o:Oper} {pv:PV} {s:Sem Value} (hW:bR E H w) (he:execOp a.eval o=(do pure (.value (← s)):Sem Next)) (h:∃ v,s.run P w=.ok v w∧aW E pv v):Good P E H w o a pv:=by
 obtain⟨v,h1,h2⟩:=h
 exact .of he (Yields.same hW h1 h2)
theorem a2Y {t:TypeId} {o:Oper} {x:Operand} {lo hi mx:Option Operand} {p:aP} {pl ph pm:Option aP} {e:TypeId} {s:Nat} {pv:PV} (ho:o.op=.slice t x lo hi mx) (ht:T.P.underlying t=some (.slice e)) (hs:T.size e=some s)
  (hx:T.opd x=some p) (hl:T.opt lo=some pl) (hh:T.opt hi=some ph) (hm:T.opt mx=some pm) (hmh:¬ (mx.isSome=true∧hi.isNone=true)) (hv:aN (.slice s p pl ph pm) F H=some pv)
  (hA:dN n E F a) (hW:bR E H w) (hN:E.num=T.num):Good T.P E H w o a pv:=by
 refine Good.val hW (s:=Instr.sliceAt t (a.eval x) (lo.map a.eval) (hi.map a.eval) (mx.map a.eval)) (by unfold execOp; rw[ho]) ?_
 have hne:pm≠none→hi≠none:=fun h e=>by
  subst e
  cases mx with
  | none=>simp[Tbl.opt] at hm; exact h hm.symm
  | some y=>exact hmh ⟨rfl,rfl⟩
 simp only[aN] at hv
 split at hv
 ·rename_i v hv0
  have r:=bG hx hv0 hA hN
  split at hv
  ·split at hv
   ·rename_i l h bl bh
    refine BV (len:=0) ht hs hl hh hm r bl bh (.inl ⟨rfl,rfl⟩) ?_ hA hN
    split at hv
    ·exact .inl ⟨rfl,hv⟩
    ·simp only[bLP] at hv
     obtain⟨m,h1,h2⟩:=hv
     exact .inr ⟨hne (by simp),m,h1,h2⟩
   ·cases hv
  ·split at hv
   ·rename_i l h bl bh
    refine BV ht hs hl hh hm r bl bh (.inr (.inl ⟨_,_,rfl,rfl⟩)) ?_ hA hN
    split at hv
    ·exact .inl ⟨rfl,hv⟩
    ·simp only[bLP] at hv
     obtain⟨m,h1,h2⟩:=hv
     exact .inr ⟨hne (by simp),m,h1,h2⟩
   ·cases hv
  ·split at hv
   ·rename_i l h bl bh
    refine BV ht hs hl hh hm r bl bh (.inr (.inr ⟨_,_,_,rfl⟩)) ?_ hA hN
    split at hv
    ·exact .inl ⟨rfl,hv⟩
    ·simp only[bLP] at hv
     obtain⟨m,h1,h2⟩:=hv
     exact .inr ⟨hne (by simp),m,h1,h2⟩
   ·cases hv
  ·cases hv
 ·cases hv
theorem mE {o:Oper} {c:Call} {b:Builtin} {s:Sem Value} {pv:PV} (ho:o.op=.call c) (hcc:c.callee=.builtin b) (hb:∀ cs,builtin b c.argTypes o.type cs (c.args.map a.eval)=(do pure (.value (← s)):Sem Next))
  (hW:bR E H w) (h:∃ v,s.run T.P w=.ok v w∧aW E pv v):Good T.P E H w o a pv:=by
 obtain⟨v,h1,h2⟩:=h
 refine .mk' hW ?_ h2
 unfold execOp
 rw[ho]
 simp[resolve,hcc,invoke,hb,h1]
theorem bpH {xs:Array Operand} {x:Operand} (h:xs.toList=[x]) (f:Operand→Value):xs.map f=#[f x]:=by
 apply Array.ext'; simp[h]
theorem a2T {xs:Array Operand} {x y:Operand} (h:xs.toList=[x,y]) (f:Operand→Value):xs.map f=#[f x,f y]:=by
 apply Array.ext'; simp[h]
theorem bvE {α:Type} {xs:Array α} {x:α} (h:xs.toList=[x]):xs=#[x]:=by apply Array.ext'; simp[h]
theorem size_data (s:ByteArray):s.data.toList.length=s.size:=by rw[bLD]; rfl
theorem baG {o:Oper} {c:Call} {p:POp} {pv:PV} (ho:o.op=.call c) (hc:T.call o c=some p) (hw:p.dM=false) (hk:p.mZ=false) (hv:aN p F H=some pv)
  (hA:dN n E F a) (hW:bR E H w) (hN:E.num=T.num):Good T.P E H w o a pv:=by
 unfold Tbl.call at hc
 split at hc
 ·rename_i b hcc
  split at hc
  ·
   rename_i x t hca hct
   have e1:=bpH hca a.eval
   have e2:=bvE hct
   split at hc
   ·rename_i k e ht
    cases hc
    simp[aN,aP.ev] at hv
    subst hv
    refine mE (s:=Builtin.len_ c.argTypes o.type (c.args.map a.eval)) ho hcc (fun cs=>rfl) hW ⟨goInt k,?_,.int _ _⟩
    rw[e1,e2]
    simp[Builtin.len_,run_underlying ht]
   ·rename_i ht
    simp only[bIW] at hc
    obtain⟨q,hq,rfl⟩:=hc
    simp only[aN] at hv
    split at hv
    ·rename_i s0 hs0
     cases hv
     have r:=bG hq hs0 hA hN
     generalize hx:a.eval x=ex at r
     cases r with
     | str s =>
     refine mE (s:=Builtin.len_ c.argTypes o.type (c.args.map a.eval)) ho hcc (fun cs=>rfl) hW ⟨goInt s.size,?_,?_⟩
     ·rw[e1,e2,hx]
      simp[Builtin.len_,run_underlying ht]
     ·rw[size_data]; exact .int _ _
    ·cases hv
   ·rename_i e ht
    simp only[bIW] at hc
    obtain⟨q,hq,rfl⟩:=hc
    have key:∀ (ad:Option Addr) (m cap:Nat),a.eval x=.slice ad m cap→Good T.P E H w o a (.int .i64 m):=by
     intro ad m cap hx
     refine mE (s:=Builtin.len_ c.argTypes o.type (c.args.map a.eval)) ho hcc (fun cs=>rfl) hW ⟨goInt m,?_,.int _ _⟩
     rw[e1,e2,hx]
     simp[Builtin.len_,run_underlying ht]
    simp only[aN,bLP] at hv
    obtain⟨u,hs0,hv⟩:=hv
    have r:=bG hq hs0 hA hN
    generalize hx:a.eval x=ex at r
    cases u<;>simp only[PV.uY] at hv<;>cases hv
    all_goals
     cases r
     exact key _ _ _ hx
   ·cases hc
  ·
   split at hc<;>try cases hc
   split at hc<;>try cases hc
   split at hc<;>cases hc
   simp[POp.dM] at hw
  ·
   rename_i x t hca hct
   split at hc
   ·rename_i e ht
    simp only[bIW] at hc
    obtain⟨q,hq,rfl⟩:=hc
    simp only[aN] at hv
    split at hv
    ·rename_i hs0
     cases hv
     have r:=bG hq hs0 hA hN
     generalize hx:a.eval x=ex at r
     cases r
     refine mE (s:=Builtin.cap_ c.argTypes o.type (c.args.map a.eval)) ho hcc (fun cs=>rfl) hW ⟨goInt 0,?_,.int _ _⟩
     rw[bpH hca a.eval,bvE hct,hx]
     simp[Builtin.cap_,run_underlying ht]
    ·cases hv
   ·cases hc
  ·
   rename_i x y hca
   split at hc<;>cases hc
   rename_i p q hp hq
   simp only[aN] at hv
   split at hv
   ·rename_i k m k' m' h1 h2
    have r1:=bG hp h1 hA hN
    have r2:=bG hq h2 hA hN
    split at hv
    ·cases hv
     generalize hx:a.eval x=ex at r1
     generalize hy:a.eval y=ey at r2
     cases r1; cases r2
     refine mE (s:=Builtin.max_ c.argTypes o.type (c.args.map a.eval)) ho hcc (fun cs=>rfl) hW ⟨_,?_,.int _ _⟩
     rw[a2T hca a.eval,hx,hy,run_max_int2]
     simp
    ·cases hv
   ·cases hv
  ·
   rename_i x y hca
   split at hc<;>cases hc
   rename_i p q hp hq
   simp only[aN] at hv
   split at hv
   ·rename_i k m k' m' h1 h2
    have r1:=bG hp h1 hA hN
    have r2:=bG hq h2 hA hN
    split at hv
    ·cases hv
     generalize hx:a.eval x=ex at r1
     generalize hy:a.eval y=ey at r2
     cases r1; cases r2
     refine mE (s:=Builtin.min_ c.argTypes o.type (c.args.map a.eval)) ho hcc (fun cs=>rfl) hW ⟨_,?_,.int _ _⟩
     rw[a2T hca a.eval,hx,hy,run_min_int2]
     simp
    ·cases hv
   ·cases hv
  ·cases hc
 ·split at hc
  ·split at hc<;>cases hc
   simp[POp.mZ] at hk
  ·cases hc
 ·simp only[bIW] at hc
  obtain⟨q,-,rfl⟩:=hc
  simp[POp.mZ] at hk
 ·cases hc
end
open Go Go.RowKit
section
variable {T:Tbl} {n:Nat} {E:Env} {F:PF} {H:PH} {a:Act} {w:World}
set_option maxHeartbeats 8000000 in
theorem a2Z {o:Oper} {p:POp} {pv:PV} (hc:T.op o=some p) (hn:p.fX=false) (hw:p.dM=false) (hk:p.mZ=false) (hv:aN p F H=some pv)
  (hA:dN n E F a) (hW:bR E H w) (hN:E.num=T.num):Good T.P E H w o a pv:=by
 unfold Tbl.op at hc
 split at hc
 ·
  rename_i x ho
  simp only[bIW] at hc
  obtain⟨q,hq,rfl⟩:=hc
  exact .mk' hW (v:=a.eval x) (by unfold execOp; rw[ho]; simp) (bG hq hv hA hN)
 ·
  rename_i x ho
  simp only[bIW] at hc
  obtain⟨q,hq,rfl⟩:=hc
  exact .mk' hW (v:=a.eval x) (by unfold execOp; rw[ho]; simp) (bG hq hv hA hN)
 ·
  rename_i c x y ho
  split at hc<;>cases hc
  rename_i p1 p2 p3 h1 h2 h3
  simp only[aN] at hv
  split at hv
  ·rename_i t hv1
   have r:=bG h1 hv1 hA hN
   generalize hx:a.eval c=ec at r
   cases r
   refine .mk' hW (v:=if t then a.eval x else a.eval y) (by unfold execOp; rw[ho]; simp[hx,asBool]) ?_
   cases t
   ·exact bG h3 (by simpa using hv) hA hN
   ·exact bG h2 (by simpa using hv) hA hN
  ·cases hv
 ·
  simp only[bIW] at hc
  obtain⟨z,-,rfl⟩:=hc
  simp[POp.fX] at hn
 ·
  rename_i e x ho
  simp only[bIW] at hc
  obtain⟨q,hq,rfl⟩:=hc
  generalize hro:T.akH o.dst=ro at *
  cases ro with
  | false=>simp[POp.fX] at hn
  | true =>
   simp only[aN] at hv
   split at hv
   ·rename_i v hv1
    split at hv
    ·rename_i h1
     cases hv
     exact .of (s:=Instr.box e (a.eval x)) (by unfold execOp; rw[ho]) (aPE hW (bG hq hv1 hA hN) h1)
    ·cases hv
   ·cases hv
 ·
  rename_i t parts ho
  split at hc
  ·rename_i z fs hz hu
   split at hc
   ·rename_i hm
    simp only[bIW] at hc
    obtain⟨pl,hpl,rfl⟩:=hc
    simp only[aN,bIW] at hv
    obtain⟨out,hout,rfl⟩:=hv
    have hy:=SB (T:=T) (w:=w) hz (.inl ⟨fs,hu,hm,hpl⟩) hout hA hN
    refine Good.val hW ?_ hy
    unfold execOp; rw[ho]
   ·cases hc
  ·rename_i z k e hz hu
   split at hc
   ·rename_i s hs
    simp only[bIW] at hc
    obtain⟨pl,hpl,rfl⟩:=hc
    simp only[aN,bIW] at hv
    obtain⟨out,hout,rfl⟩:=hv
    have hy:=SB (T:=T) (w:=w) hz (.inr ⟨k,e,s,hu,hs,hpl⟩) hout hA hN
    refine Good.val hW ?_ hy
    unfold execOp; rw[ho]
   ·cases hc
  ·cases hc
 ·
  rename_i t len parts ho
  split at hc
  ·rename_i e hu
   split at hc
   ·rename_i s z pl hs hz hpl
    split at hc
    ·rename_i hzl
     cases hc
     generalize hro:T.akH o.dst=ro at *
     cases ro with
     | false=>simp[POp.fX] at hn
     | true =>
      simp only[aN] at hv
      split at hv
      ·rename_i hle
       simp only[bIW] at hv
       obtain⟨out,hout,rfl⟩:=hv
       have hy:=ajQ (T:=T) hu hs hz hzl.1 hzl.2 hpl hle.2 hout hA hN hW
       refine Good.of ?_ hy
       unfold execOp; rw[ho]
      ·cases hv
    ·cases hc
   ·cases hc
  ·cases hc
 ·
  rename_i t x ho
  split at hc
  ·rename_i k q hg hs hq
   cases hc
   simp only[aN] at hv
   split at hv
   ·rename_i v hv1
    simp only[bIW] at hv
    obtain⟨cs,hcs,rfl⟩:=hv
    have hx:=bG hq hv1 hA hN
    have hy:=SM (T:=T) hg hs hW hx hcs
    refine Good.val hW (s:=Instr.loadAt t (a.eval x)) ?_ hy
    unfold execOp; rw[ho]
   ·cases hv
  ·rename_i k q hg hq
   cases hc
   simp only[aN] at hv
   split at hv
   ·rename_i v hv1
    split at hv
    ·rename_i v' hcs
     cases hv
     have hx:=bG hq hv1 hA hN
     have hy:=abR (T:=T) hg hW hx hcs
     refine Good.val hW (s:=Instr.loadAt t (a.eval x)) ?_ hy
     unfold execOp; rw[ho]
    ·cases hv
   ·cases hv
  ·cases hc
 ·
  split at hc<;>cases hc
  simp[POp.dM] at hw
 ·
  rename_i x ho
  simp only[bIW] at hc
  obtain⟨q,hq,rfl⟩:=hc
  simp only[aN] at hv
  split at hv
  ·rename_i hv1
   cases hv
   have r:=bG hq hv1 hA hN
   refine .mk' hW (v:=a.eval x) ?_ r
   generalize hx:a.eval x=ex at r
   cases r
   unfold execOp; rw[ho]; simp[hx]
  ·rename_i hv1
   cases hv
   have r:=bG hq hv1 hA hN
   refine .mk' hW (v:=a.eval x) ?_ r
   obtain⟨b,off,hx⟩:=NX r
   unfold execOp; rw[ho]; simp[hx]
  ·cases hv
 ·
  rename_i b t x y yt ho
  split at hc
  ·rename_i p q hp hq
   have hbin:∀ b',b=b'→aN (.bin b' p q) F H=some pv→Good T.P E H w o a pv:=by
    intro b' hb hv
    subst hb
    simp only[aN] at hv
    split at hv
    ·rename_i v1 v2 h1 h2
     exact .val hW (s:=do eqGuard b t x y (a.eval x) (a.eval y); binOp b t (a.eval x) (a.eval y)) (by unfold execOp; rw[ho]) (baF (bG hp h1 hA hN) (bG hq h2 hA hN) hv t x y)
    ·cases hv
   have hbool:∀ neg,b=(if neg then .neq else .eql)→T.P.underlying t=some .bool→aN (.eqb neg p q) F H=some pv→Good T.P E H w o a pv:=by
    intro neg hb ht hv
    simp only[aN] at hv
    split at hv
    ·rename_i v1 v2 h1 h2
     cases hv
     have r1:=bG hp h1 hA hN
     have r2:=bG hq h2 hA hN
     generalize hx:a.eval x=ex at r1
     generalize hy:a.eval y=ey at r2
     cases r1; cases r2
     refine .val hW (s:=do eqGuard b t x y (a.eval x) (a.eval y); binOp b t (a.eval x) (a.eval y)) (by unfold execOp; rw[ho]) ⟨_,?_,.bool _⟩
     rw[hx,hy,hb]
     exact baP neg v1 v2 x y ht
    ·cases hv
   have hst:∀ neg ks,b=(if neg then .neq else .eql)→T.flat t=some ks→aN (.eqs neg ks p q) F H=some pv→Good T.P E H w o a pv:=by
    intro neg ks hb ht hv
    simp only[aN] at hv
    split at hv
    ·rename_i v1 v2 h1 h2
     simp only[bIW] at hv
     obtain⟨c,hcc,rfl⟩:=hv
     refine .val hW (s:=do eqGuard b t x y (a.eval x) (a.eval y); binOp b t (a.eval x) (a.eval y)) (by unfold execOp; rw[ho]) ⟨_,?_,.bool _⟩
     rw[hb]
     exact a3G neg (bG hp h1 hA hN) (bG hq h2 hA hN) hcc x y ht
    ·cases hv
   split at hc
   ·split at hc
    ·cases hc; exact hbin _ rfl hv
    ·cases hc; exact hbin _ rfl hv
    ·rename_i ht; cases hc; exact hbool false rfl ht hv
    ·simp only[bIW] at hc
     obtain⟨ks,hks,rfl⟩:=hc
     exact hst false ks rfl hks hv
    ·cases hc
   ·split at hc
    ·cases hc; exact hbin _ rfl hv
    ·cases hc; exact hbin _ rfl hv
    ·rename_i ht; cases hc; exact hbool true rfl ht hv
    ·simp only[bIW] at hc
     obtain⟨ks,hks,rfl⟩:=hc
     exact hst true ks rfl hks hv
    ·cases hc
   ·cases hc; exact hbin _ rfl hv
  ·cases hc
 ·
  rename_i u t x ho
  simp only[bIW] at hc
  obtain⟨q,hq,rfl⟩:=hc
  simp only[aN] at hv
  split at hv
  ·rename_i v hv1
   exact .val hW (s:=Op.unary u (a.eval x)) (by unfold execOp; rw[ho]) (boB (bG hq hv1 hA hN) hv)
  ·cases hv
 ·
  rename_i s d x ho
  split at hc
  ·rename_i k k' q hs hd hq
   cases hc
   simp only[aN] at hv
   split at hv
   ·rename_i m hv1
    cases hv
    have r:=bG hq hv1 hA hN
    generalize hx:a.eval x=ex at r
    cases r
    refine .val hW (s:=convert s d (a.eval x)) (by unfold execOp; rw[ho]) ⟨_,?_,.int _ _⟩
    rw[hx]
    simp[convert,run_underlying hs,run_underlying hd,Conv.intToInt]
   ·cases hv
  ·rename_i q hs hd hq
   cases hc
   simp only[aN] at hv
   split at hv
   ·rename_i l hv1
    cases hv
    have r:=bG hq hv1 hA hN
    refine .val hW (s:=convert s d (a.eval x)) (by unfold execOp; rw[ho]) ⟨a.eval x,?_,r⟩
    generalize hx:a.eval x=ex at r
    cases r
    simp[convert,run_underlying hs,run_underlying hd]
   ·cases hv
  ·rename_i e q hs hd hq
   split at hc
   ·rename_i he
    cases hc
    simp only[aN] at hv
    split at hv
    ·rename_i v hv1
     split at hv
     ·rename_i rows hr
      simp only[bIW] at hv
      obtain⟨l,hl,rfl⟩:=hv
      exact .val hW (s:=convert s d (a.eval x)) (by unfold execOp; rw[ho]) (ZY hs he hd hW (bG hq hv1 hA hN) hr hl)
     ·cases hv
    ·cases hv
   ·cases hc
  ·cases hc
 ·
  rename_i f first captured ho
  split at hc
  ·rename_i m cs hm hcs
   split at hc
   ·rename_i hf
    cases hc
    simp only[aN,bIW] at hv
    obtain⟨vs,hvs,rfl⟩:=hv
    have r:=HI hcs hvs hA hN
    refine .val hW (s:=Instr.makeFunc (.func f) (first.map a.eval) (captured.map a.eval)) (by unfold execOp; rw[ho]) ⟨.func (.func f) #[] (captured.map a.eval),?_,?_⟩
    ·have:first=#[]:=Array.eq_empty_of_size_eq_zero hf.2
     subst this
     simp[Instr.makeFunc]
    ·have hl:=r.len
     have:=aW.fn (E:=E) (name:=m) (captured:=vs) (captured.map a.eval) (by simpa using hl) (fun j p v a b=>r.at_ j p v a (by simpa using b))
     rw[hN,hf.1] at this
     exact this
   ·cases hc
  ·cases hc
 ·
  split at hc
  ·simp only[bIW] at hc
   obtain⟨z,-,rfl⟩:=hc
   simp[POp.fX] at hn
  ·cases hc
 ·
  rename_i t x k ok ho
  split at hc
  ·rename_i kt et hu
   split at hc
   ·rename_i sh z p1 q1 hsh hz hp hq
    simp only[bIW] at hc
    obtain⟨pz,hpz,rfl⟩:=hc
    simp only[bLP] at hz
    obtain⟨info,hi,hz⟩:=hz
    simp only[aN] at hv
    split at hv
    ·rename_i m kv h1 h2
     split at hv
     ·rename_i sh' g key h3 h4
      split at hv
      ·rename_i he
       subst he
       cases hv
       exact .val hW (s:=Instr.lookup t (a.eval x) (a.eval k) ok) (by unfold execOp; rw[ho]) (aEW hu hsh hi hz hpz (bG hp h1 hA hN) (bG hq h2 hA hN) h3 h4 hW)
      ·cases hv
     ·cases hv
    ·cases hv
   ·cases hc
  ·cases hc
 ·
  split at hc
  ·split at hc<;>cases hc
   simp[POp.dM] at hw
  ·cases hc
 ·
  split at hc
  ·split at hc<;>cases hc
   simp[POp.dM] at hw
  ·cases hc
 ·
  split at hc
  ·split at hc
   ·split at hc<;>cases hc
    simp[POp.fX] at hn
   ·cases hc
  ·cases hc
 ·
  rename_i t x lo hi mx ho
  split at hc
  ·rename_i e p l h m hu hx hl hh hm
   split at hc
   ·cases hc
   ·rename_i hmh
    simp only[bIW] at hc
    obtain⟨s,hs,rfl⟩:=hc
    exact a2Y ho hu hs hx hl hh hm hmh hv hA hW hN
  ·rename_i p l h hu hx hl hh hm
   cases hc
   have hmx:mx=none:=by
    cases mx with
    | none=>rfl
    | some y=>simp only[Tbl.opt,bIW] at hm; obtain⟨_,-,hq⟩:=hm; cases hq
   subst hmx
   simp only[aN] at hv
   split at hv
   ·rename_i str hv1
    split at hv
    ·rename_i li hi' bl bh
     split at hv
     ·rename_i hb
      cases hv
      exact .val hW (s:=Instr.sliceAt t (a.eval x) (lo.map a.eval) (hi.map a.eval) (Option.map a.eval none)) (by unfold execOp; rw[ho]) (alT hu hl hh (bG hx hv1 hA hN) bl bh hb.1 hb.2.1 hb.2.2 hA hN)
     ·cases hv
    ·cases hv
   ·cases hv
  ·rename_i n' e p hu hx hl hh hm
   have hno:∀ {y:Option Operand},T.opt y=some none→y=none:=by
    intro y hy
    cases y with
    | none=>rfl
    | some y=>simp only[Tbl.opt,bIW] at hy; obtain⟨_,-,hq⟩:=hy; cases hq
   have h1:=hno hl
   have h2:=hno hh
   have h3:=hno hm
   subst h1 h2 h3
   simp only[bIW] at hc
   obtain⟨s,hs,rfl⟩:=hc
   simp only[aN] at hv
   split at hv
   ·rename_i cs hv1
    split at hv
    ·rename_i hb
     cases hv
     exact .val hW (s:=Instr.sliceAt t (a.eval x) (Option.map a.eval none) (Option.map a.eval none) (Option.map a.eval none)) (by unfold execOp; rw[ho]) (aJF hu hs (bG hx hv1 hA hN) hb.1 hb.2.2 hA hN)
    ·cases hv
   ·cases hv
  ·cases hc
 ·
  rename_i t x f ho
  split at hc
  ·rename_i fs q hu hq
   split at hc
   ·rename_i fd hf
    split at hc
    ·rename_i s hs
     cases hc
     simp only[aN] at hv
     split at hv
     ·rename_i hv1
      cases hv
      exact .val hW (s:=Instr.fieldAt t (a.eval x) f) (by unfold execOp; rw[ho]) (LS hu hf hs (bG hq hv1 hA hN) (.inl ⟨_,_,_,_,rfl,rfl⟩))
     ·rename_i hv1
      cases hv
      exact .val hW (s:=Instr.fieldAt t (a.eval x) f) (by unfold execOp; rw[ho]) (LS hu hf hs (bG hq hv1 hA hN) (.inr ⟨_,rfl,rfl⟩))
     ·cases hv
    ·cases hc
   ·cases hc
  ·cases hc
 ·
  rename_i t x f ho
  split at hc
  ·rename_i fs q hu hq
   split at hc
   ·rename_i fd hf
    split at hc
    ·rename_i k hg hs
     cases hc
     simp only[aN] at hv
     split at hv
     ·rename_i cs hv1
      split at hv
      ·rename_i hle
       cases hv
       exact .val hW (s:=Instr.field t (a.eval x) f) (by unfold execOp; rw[ho]) (a3J hu hf hg hs (bG hq hv1 hA hN) hle)
      ·cases hv
     ·cases hv
    ·rename_i k hg
     cases hc
     simp only[aN] at hv
     split at hv
     ·rename_i cs hv1
      exact .val hW (s:=Instr.field t (a.eval x) f) (by unfold execOp; rw[ho]) (baT hu hf hg (bG hq hv1 hA hN) hv)
     ·cases hv
    ·cases hc
   ·cases hc
  ·cases hc
 ·
  rename_i t x i ho
  split at hc
  ·rename_i e p q hu hp hq
   simp only[bIW] at hc
   obtain⟨s,hs,rfl⟩:=hc
   simp only[aN] at hv
   split at hv
   ·rename_i s0 rows k m h1 h2
    have r1:=bG hp h1 hA hN
    have r2:=bG hq h2 hA hN
    generalize hy:a.eval i=ey at r2
    cases r2
    split at hv
    ·rename_i hc
     obtain⟨rfl,h0⟩:=hc
     split at hv
     ·rename_i r hr
      cases hv
      refine .val hW (s:=Instr.indexAt t (a.eval x) (a.eval i)) (by unfold execOp; rw[ho]) ?_
      rw[hy]
      exact brM hu hs r1 h0 hr
     ·cases hv
    ·cases hv
   ·rename_i o' s0 off len k m h1 h2
    have r1:=bG hp h1 hA hN
    have r2:=bG hq h2 hA hN
    generalize hy:a.eval i=ey at r2
    cases r2
    split at hv
    ·rename_i hc
     obtain⟨rfl,h0,hi⟩:=hc
     cases hv
     refine .val hW (s:=Instr.indexAt t (a.eval x) (a.eval i)) (by unfold execOp; rw[ho]) ?_
     rw[hy]
     exact bkE hu hs r1 h0 hi
    ·cases hv
   ·cases hv
  ·rename_i e p q k hu hp hq
   simp only[bIW] at hc
   obtain⟨s,hs,rfl⟩:=hc
   simp only[aN] at hv
   split at hv
   ·rename_i h1 h2
    have r1:=bG hp h1 hA hN
    have r2:=bG hq h2 hA hN
    generalize hy:a.eval i=ey at r2
    cases r2
    split at hv
    ·rename_i hc
     cases hv
     refine .val hW (s:=Instr.indexAt t (a.eval x) (a.eval i)) (by unfold execOp; rw[ho]) ?_
     rw[hy]
     exact abI hu hs r1 hc.1 hc.2 (.inl ⟨_,_,_,_,rfl,rfl⟩)
    ·cases hv
   ·rename_i h1 h2
    have r1:=bG hp h1 hA hN
    have r2:=bG hq h2 hA hN
    generalize hy:a.eval i=ey at r2
    cases r2
    split at hv
    ·rename_i hc
     cases hv
     refine .val hW (s:=Instr.indexAt t (a.eval x) (a.eval i)) (by unfold execOp; rw[ho]) ?_
     rw[hy]
     exact abI hu hs r1 hc.1 hc.2 (.inr ⟨_,rfl,rfl⟩)
    ·cases hv
   ·cases hv
  ·cases hc
 ·
  rename_i t x i ho
  split at hc
  ·rename_i e p q k hu hp hq
   split at hc
   ·rename_i s g hs hg
    cases hc
    simp only[aN] at hv
    split at hv
    ·rename_i h1 h2
     have r1:=bG hp h1 hA hN
     have r2:=bG hq h2 hA hN
     generalize hy:a.eval i=ey at r2
     cases r2
     split at hv
     ·rename_i hc
      refine .val hW (s:=Instr.index t (a.eval x) (a.eval i)) (by unfold execOp; rw[ho]) ?_
      rw[hy]
      exact a4L hu hs hg r1 hc.1 hc.2 hv
     ·cases hv
    ·cases hv
   ·cases hc
  ·rename_i p q hu hp hq
   cases hc
   simp only[aN] at hv
   split at hv
   ·rename_i h1 h2
    have r1:=bG hp h1 hA hN
    have r2:=bG hq h2 hA hN
    generalize hy:a.eval i=ey at r2
    cases r2
    split at hv
    ·rename_i hc
     refine .val hW (s:=Instr.index t (a.eval x) (a.eval i)) (by unfold execOp; rw[ho]) ?_
     rw[hy]
     exact aDW hu r1 hc hv
    ·cases hv
   ·cases hv
  ·cases hc
 ·
  rename_i x i ho
  simp only[bIW] at hc
  obtain⟨q,hq,rfl⟩:=hc
  simp only[aN] at hv
  split at hv
  ·rename_i vs hv1
   have r:=bG hq hv1 hA hN
   generalize hx:a.eval x=ex at r
   cases r with
   | tup us hl hr =>
   obtain⟨u,hu,hru⟩:=azL hl hr hv
   refine .val hW (s:=Instr.extract (a.eval x) i) (by unfold execOp; rw[ho]) ⟨u,?_,hru⟩
   rw[hx]
   simp[Instr.extract,hu]
  ·cases hv
 ·rename_i c ho
  exact baG ho hc hw hk hv hA hW hN
 ·cases hc
end
open Go Go.RowKit
def Env.own (E:Env) (b n:Nat):Env:=⟨E.G,upd E.sz b (some n),E.num⟩
section
variable {T:Tbl} {n:Nat} {E:Env} {F:PF} {H:PH} {a:Act} {w:World}
theorem Env.bvS (hW:bR E H w) (m:Nat):E.le (E.own w.heap.size m):=by
 refine⟨fun b ds h=>h,fun b k h=>?_,rfl⟩
 have:=hW.aIY h
 simp only[Env.own]
 rw[PT _ _ Om]
 exact h
theorem xK {s:Nat} {rs:List (List PV)} (h:∀ r∈rs,r.length=s) {i j:Nat} {pv:PV} (hp:at2 rs i j=some pv):i<rs.length∧j<s:=by
 unfold at2 at hp
 cases hr:rs[i]? with
 | none=>simp[hr] at hp
 | some r =>
  rw[hr,bLQ] at hp
  have hl:=h r (bKX hr)
  refine⟨?_,?_⟩
  ·rcases bJG i rs.length with h' | h'
   ·exact h'
   ·rw[bJY h'] at hr; cases hr
  ·rcases bJG j r.length with h' | h'
   ·omega
   ·rw[bJY h'] at hp; cases hp
def jS (E:Env) (s:Nat) (rs:List (List PV)) (cs:Array Value):Prop :=
 (∀ r∈rs,r.length=s)∧rs.length*s≤cs.size∧∀ i j pv,at2 rs i j=some pv→∃ u,cs[i*s+j]?=some u∧u.oneCell'=true∧aW E pv u
theorem jS.of_flat {s:Nat} {rs:List (List PV)} {cs:Array Value} (h:mB E rs.flatten cs) (hs:∀ r∈rs,r.length=s):jS E s rs cs:=by
 refine⟨hs,by rw[h.1,nC rs hs]; exact bIU _,fun i j pv hp=>?_⟩
 obtain⟨-,hj⟩:=xK hs hp
 have e:=tM rs i j hs hj
 rw[hp] at e
 have hlt:i*s+j<cs.size:=by
  rw[h.1]
  rcases bJG (i*s+j) rs.flatten.length with h' | h'
  ·exact h'
  ·rw[bJY h'] at e; cases e
 exact⟨cs[i*s+j],bLR hlt,h.2.1 _ (Array.getElem_mem_toList hlt),h.2.2 _ pv _ e (bLR hlt)⟩
theorem jS.mono {E':Env} (hE:E.le E') {s:Nat} {rs:List (List PV)} {cs:Array Value} (h:jS E s rs cs):jS E' s rs cs :=
 ⟨h.1,h.2.1,fun i j pv hp=>by obtain⟨u,h1,h2,h3⟩:=h.2.2 i j pv hp; exact⟨u,h1,h2,h3.mono hE⟩⟩
theorem cD (H:PH) (o q:Nat) (x:cE):(H.set o x).f q=if q=o then some x else H.f q:=rfl
theorem bR.KZ (hW:bR E H w) {s:Nat} {rs:List (List PV)} {cs:Array Value} (ty:TypeId) (h:jS E s rs cs) :
  bR (E.own w.heap.size cs.size) (H.set w.heap.size (.rows s rs)) (w.alloc (.cells cs ty))∧Ext E H w (E.own w.heap.size cs.size) (H.set w.heap.size (.rows s rs)) (w.alloc (.cells cs ty)):=by
 have hle:=Env.bvS hW cs.size
 refine⟨⟨fun b ds hb=>?_,fun o x ho=>?_,fun o m hs=>?_⟩,⟨hle,rfl,rfl,rfl,by simp,fun b hb _=>Below.heap_alloc w _ b hb,fun o x ho=>?_,fun b ds hb=>.inl hb⟩⟩
 ·obtain⟨h1,ty',fr,h2⟩:=hW.g b ds hb
  have hlt:=hW.a3U hb
  refine⟨fun x hx=>h1 x ?_,ty',fr,(Below.heap_alloc w _ b hlt).trans h2⟩
  rw[cD,if_neg Om] at hx
  exact hx
 ·rw[cD] at ho
  split at ho
  ·rename_i e
   subst e
   cases ho
   refine⟨by simp,cs,ty,heap_alloc_new w _,by simp[Env.own,upd],h.1,h.2.1,fun i j pv hp=>?_⟩
   obtain⟨u,h1,h2,h3⟩:=h.2.2 i j pv hp
   exact⟨u,h1,h2,h3.mono hle⟩
  ·obtain⟨h1,h2⟩:=hW.h o x ho
   exact⟨by simp; omega,h2.mono hle (Below.heap_alloc w _ o h1)⟩
 ·simp only[Env.own,upd] at hs
  split at hs
  ·rename_i e
   cases hs
   subst e
   exact⟨cs,ty,(0,0),heap_alloc_new w _,rfl⟩
  ·obtain⟨cur,ty',fr,h1,h2⟩:=hW.s o m hs
   exact⟨cur,ty',fr,(Below.heap_alloc w _ o (hW.aIY hs)).trans h1,h2⟩
 ·rw[cD] at ho
  split at ho
  ·rename_i e; exact .inr Om
  ·exact .inl ⟨x,ho⟩
theorem bR.bvD (hW:bR E H w) (sh:MSh):bR E (H.set w.heap.size (.map sh (fun _=>none))) (w.alloc (.map #[] 0))∧Ext E H w E (H.set w.heap.size (.map sh (fun _=>none))) (w.alloc (.map #[] 0)):=by
 refine⟨⟨fun b ds hb=>?_,fun o x ho=>?_,fun o m hs=>?_⟩,⟨.refl E,rfl,rfl,rfl,by simp,fun b hb _=>Below.heap_alloc w _ b hb,fun o x ho=>?_,fun b ds hb=>.inl hb⟩⟩
 ·obtain⟨h1,ty',fr,h2⟩:=hW.g b ds hb
  have hlt:=hW.a3U hb
  refine⟨fun x hx=>h1 x ?_,ty',fr,(Below.heap_alloc w _ b hlt).trans h2⟩
  rw[cD,if_neg Om] at hx
  exact hx
 ·rw[cD] at ho
  split at ho
  ·rename_i e
   subst e
   cases ho
   exact⟨by simp,#[],0,[],heap_alloc_new w _,rfl,rfl,fun i e e' h=>by simp at h⟩
  ·obtain⟨h1,h2⟩:=hW.h o x ho
   exact⟨by simp; omega,h2.mono (.refl E) (Below.heap_alloc w _ o h1)⟩
 ·obtain⟨cur,ty',fr,h1,h2⟩:=hW.s o m hs
  exact⟨cur,ty',fr,(Below.heap_alloc w _ o (hW.aIY hs)).trans h1,h2⟩
 ·rw[cD] at ho
  split at ho
  ·rename_i e; exact .inr Om
  ·exact .inl ⟨x,ho⟩
def bxV (P:Program) (E:Env) (H:PH) (w:World) (o:Oper) (a:Act) (mk:Nat→PV) (x:cE):Prop :=
 ∃ v w' E' q,(execOp a.eval o).run P w=.ok (.value v) w'∧H q=none∧aW E' (mk q) v∧bR E' (H.set q x) w'∧Ext E H w E' (H.set q x) w'
theorem adS {cs:List PV} {vs:Array Value} (h:mB E cs vs):jS E cs.length [cs] vs:=by
 refine .of_flat (by simpa using h) (by simp)
theorem aIE (E:Env) (b m:Nat):(E.own b m).sz b=some m:=by simp[Env.own,upd]
theorem aPF {o:Oper} {c:Call} {p:POp} (hc:T.call o c=some p):p.fX=false:=by
 unfold Tbl.call at hc
 repeat' (first | (split at hc) | (simp only[bIW] at hc; obtain⟨_,-,rfl⟩:=hc; rfl) | (cases hc; rfl) | (cases hc; done))
theorem bdJ {o:Oper} {p:POp} {mk:Nat→PV} {x:cE} (hc:T.op o=some p) (hn:p.fX=true) (hv:cR p F=some (mk,x)) (hA:dN n E F a) (hW:bR E H w) (hN:E.num=T.num):bxV T.P E H w o a mk x:=by
 have hnew:=hW.a4K
 unfold Tbl.op at hc
 split at hc
 case h_4 =>
  rename_i e ho
  simp only[bIW] at hc
  obtain⟨z,hz,rfl⟩:=hc
  simp only[cR,bKT.injEq,Prod.mk.injEq] at hv
  obtain⟨rfl,rfl⟩:=hv
  obtain⟨i,zv,hi,hiz,hzr⟩:=JP (E:=E) hz
  obtain⟨h1,h2⟩:=hW.KZ e (adS hzr)
  have bIG:(Instr.alloc e true (.tuple #[])).run T.P w=.ok (.pointer (some ⟨w.heap.size,0,none⟩)) (w.alloc (.cells zv.cells e)):=by
   simp[Instr.alloc,zeroValue,typeInfo,hi,hiz,newVar,newRow]
  refine⟨_,_,_,w.heap.size,qZ ?_ bIG,hnew,?_,h1,h2⟩
  ·unfold execOp; rw[ho]
  ·have:=aW.ptr (E:=E.own w.heap.size zv.cells.size) w.heap.size z.length 0 0
   simpa using this
 case h_5 =>
  rename_i e y ho
  simp only[bIW] at hc
  obtain⟨q,hq,rfl⟩:=hc
  generalize hro:T.akH o.dst=ro at *
  cases ro with
  | true=>simp[POp.fX] at hn
  | false =>
   simp only[cR] at hv
   split at hv
   ·rename_i v hv1
    split at hv
    ·rename_i h1
     simp only[bKT.injEq,Prod.mk.injEq] at hv
     obtain⟨rfl,rfl⟩:=hv
     obtain⟨c1,c2,c3⟩:=uC (bG hq hv1 hA hN) h1
     obtain⟨g1,g2⟩:=hW.KZ e (adS (E:=E) (cs:=v.cells) (vs:=(a.eval y).cells) ⟨c1,c2,c3⟩)
     have bIG:(Instr.box e (a.eval y)).run T.P w=.ok (.pointer (some ⟨w.heap.size,0,none⟩)) (w.alloc (.cells (a.eval y).cells e)):=by
      simp[Instr.box,newVar,newRow]
     refine⟨_,_,_,w.heap.size,qZ ?_ bIG,hnew,?_,g1,g2⟩
     ·unfold execOp; rw[ho]
     ·have:=aW.ptr (E:=E.own w.heap.size (a.eval y).cells.size) w.heap.size v.cells.length 0 0
      simpa using this
    ·cases hv
   ·cases hv
 case h_7 =>
  rename_i t len parts ho
  split at hc
  ·rename_i e hu
   split at hc
   ·rename_i s z pl hs hz hpl
    split at hc
    ·rename_i hzl
     cases hc
     generalize hro:T.akH o.dst=ro at *
     cases ro with
     | true=>simp[POp.fX] at hn
     | false =>
      simp only[cR] at hv
      split at hv
      ·rename_i hle
       simp only[bIW,Prod.mk.injEq] at hv
       obtain⟨out,hout,rfl,rfl⟩:=hv
       obtain⟨us,bIG,hcr,bGV,hlen⟩:=LH (w:=w) hu hs hz hzl.1 hzl.2 hpl hle.2 hout hA hN
       obtain⟨g1,g2⟩:=hW.KZ e (jS.of_flat hcr bGV)
       refine⟨_,_,_,w.heap.size,qZ ?_ bIG,hnew,?_,g1,g2⟩
       ·unfold execOp; rw[ho]
       ·have hsz:us.size=len*s:=by rw[hcr.1,nC out bGV,hlen]
        refine .osl (n:=us.size) rfl rfl (.inr (by simp)) (bIU _) ?_ (aIE _ _ _) (by rw[hsz]; omega)
        have:len*1≤len*s:=bKO _ hzl.2
        simp only[maxLen]
        omega
      ·cases hv
    ·cases hc
   ·cases hc
  ·cases hc
 case h_15 =>
  rename_i t ho
  split at hc
  case h_2=>cases hc
  simp only[bIW] at hc
  obtain⟨sh,-,rfl⟩:=hc
  simp only[cR,bKT.injEq,Prod.mk.injEq] at hv
  obtain⟨rfl,rfl⟩:=hv
  obtain⟨g1,g2⟩:=hW.bvD sh
  have bIG:(Instr.makeMap t (Option.map a.eval none)).run T.P w=.ok (.map (some w.heap.size)) (w.alloc (.map #[] 0)):=by
   simp[Instr.makeMap]
  refine⟨_,_,_,w.heap.size,qZ ?_ bIG,hnew,.map _,g1,g2⟩
  unfold execOp; rw[ho]
 case h_19 =>
  rename_i t l c ho
  split at hc
  ·rename_i e hu
   split at hc
   ·rename_i i z p q hi hz hp hq
    split at hc
    ·rename_i hzl
     cases hc
     simp only[cR] at hv
     split at hv
     ·rename_i k1 m1 k2 m2 hv1 hv2
      split at hv
      ·rename_i bHV
       simp only[bKT.injEq,Prod.mk.injEq] at hv
       obtain⟨rfl,rfl⟩:=hv
       obtain⟨h0,h1,h2,h3,-⟩:=bHV
       have r1:=bG hp hv1 hA hN
       have r2:=bG hq hv2 hA hN
       generalize hx:a.eval l=ex at r1
       generalize hy:a.eval c=ey at r2
       cases r1; cases r2
       obtain⟨i',zv,hi',hiz,hzr⟩:=JP (E:=E) hz
       rw[hi] at hi'
       cases hi'
       have bIG:=run_make w t e i zv hu hi hiz k1 k2 m1 m2 h0 h1 (by rw[Int.mul_comm]; omega) h3
       have hcr:=hzr.bpP (len:=m2.toNat) hzl.1 hzl.2
       have hbig:jS E i.size (bIP m2.toNat z) (madeCells zv.cells (m2.toNat*i.size)) :=
        jS.of_flat hcr (fun r hr=>by rw[(List.mem_replicate.1 hr).2]; exact hzl.1)
       have hsm:jS E i.size (bIP m1.toNat z) (madeCells zv.cells (m2.toNat*i.size)):=by
        refine⟨fun r hr=>by rw[(List.mem_replicate.1 hr).2]; exact hzl.1,?_,fun a b pv hpv=>hbig.2.2 a b pv ?_⟩
        ·have:=hbig.2.1
         simp only[List.length_replicate] at this ⊢
         have h5:m1.toNat*i.size≤m2.toNat*i.size:=bJQ _ Om
         omega
        ·unfold at2 at hpv ⊢
         rw[List.getElem?_replicate] at hpv ⊢
         split at hpv
         ·rw[if_pos Om]; exact hpv
         ·simp at hpv
       obtain⟨g1,g2⟩:=hW.KZ e hsm
       refine⟨_,_,_,w.heap.size,qZ (s:=Instr.makeSlice t (.int k1 m1) (.int k2 m2)) ?_ bIG,hnew,?_,g1,g2⟩
       ·unfold execOp; rw[ho]; simp only[hx,hy]
       ·refine .osl (n:=(madeCells zv.cells (m2.toNat*i.size)).size) rfl rfl (.inr (by simp)) Om (by simp only[maxLen]; omega) (aIE _ _ _) (by rw[size_madeCells]; omega)
      ·cases hv
     ·cases hv
    ·cases hc
   ·cases hc
  ·cases hc
 all_goals (first
  | (simp only[bIW] at hc; obtain⟨_,-,rfl⟩:=hc; simp[POp.fX] at hn; done)
  | skip)
 all_goals (repeat' (first | (split at hc) | (simp only[bIW] at hc; obtain⟨_,-,rfl⟩:=hc; simp[POp.fX] at hn; done) | (cases hc; simp[POp.fX] at hn; done) | (cases hc; done)))
 all_goals (rw[aPF hc] at hn; cases hn)
end
open Go Go.RowKit
section
variable {T:Tbl} {n:Nat} {E:Env} {F:PF} {H:PH} {a:Act} {w:World}
theorem bR.aYP (hW:bR E H w) {o s:Nat} {rs rs':List (List PV)} {cur cs:Array Value} {ty:TypeId} (ho:H o=some (.rows s rs)) (hh:w.heap[o]?=some (.cells cur ty (0,0))) (hsz:cs.size=cur.size)
  (h:jS E s rs' cs):bR E (H.set o (.rows s rs')) (w.setRow o cs)∧Ext E H w E (H.set o (.rows s rs')) (w.setRow o cs):=by
 have hself:=setRow_heap w o cur cs ty (0,0) hh
 have bIC:∀ b,b≠o→(w.setRow o cs).heap[b]?=w.heap[b]?:=fun b hb=>setRow_other w o b cs hb
 have hGne:∀ b ds,E.G b=some ds→b≠o:=fun b ds hb e=>by
  subst e
  have:=(hW.g b ds hb).1 _ ho
  cases this
 have hSz:E.sz o=some cur.size:=by
  obtain⟨-,cur',ty',h1,h2,-⟩:=hW.h o _ ho
  rw[hh] at h1
  cases h1
  exact h2
 refine⟨⟨fun b ds hb=>?_,fun q x hq=>?_,fun q m hs=>?_⟩,⟨.refl E,rfl,rfl,rfl,by simp,fun b _ hn=>bIC b (fun e=>by subst e; rw[ho] at hn; cases hn),fun q x hq=>?_,fun b ds hb=>.inl hb⟩⟩
 ·obtain⟨h1,ty',fr,h2⟩:=hW.g b ds hb
  have hne:=hGne b ds hb
  refine⟨fun x hx=>h1 x ?_,ty',fr,(bIC b hne).trans h2⟩
  rw[cD,if_neg hne] at hx
  exact hx
 ·rw[cD] at hq
  split at hq
  ·rename_i e
   subst e
   cases hq
   refine⟨by simpa using (hW.h q _ ho).1,cs,ty,hself,by rw[hsz]; exact hSz,h.1,h.2.1,h.2.2⟩
  ·rename_i e
   obtain⟨h1,h2⟩:=hW.h q x hq
   exact⟨by simpa using h1,h2.mono (.refl E) (bIC q e)⟩
 ·by_cases e:q=o
  ·subst e
   rw[hSz] at hs
   cases hs
   exact⟨cs,ty,(0,0),hself,hsz⟩
  ·obtain⟨cur',ty',fr,h1,h2⟩:=hW.s q m hs
   exact⟨cur',ty',fr,(bIC q e).trans h1,h2⟩
 ·rw[cD] at hq
  split at hq
  ·rename_i e; subst e; exact .inl ⟨_,ho⟩
  ·exact .inl ⟨x,hq⟩
def azK (P:Program) (E:Env) (H:PH) (w:World) (o:Oper) (a:Act) (K:PV→PH→Prop):Prop :=
 ∃ v nx w' E' H' pv,(execOp a.eval o).run P w=.ok nx w'∧(nx=.value v∨(nx=.skip∧v=undef))∧aW E' pv v∧bR E' H' w'∧Ext E H w E' H' w'∧K pv H'
theorem OF:∀ (ps:List PV) (r:List PV) (c j:Nat),c+ps.length≤r.length→(setCells r c ps)[j]?=if c≤j∧j<c+ps.length then ps[j-c]? else r[j]?
 | [],r,c,j,_=>by
  rw[if_neg (by intro h; simp at h; omega)]
  rfl
 | p::ps,r,c,j,h=>by
  simp only[bLG] at h ⊢
  simp only[setCells]
  rw[OF ps _ (c+1) j (by rw[bKU]; omega),List.getElem?_set]
  by_cases h1:c=j
  ·subst h1
   rw[if_neg Om,if_pos rfl,if_pos Om,if_pos Om]
   simp
  ·by_cases h2:c+1≤j∧j<c+1+ps.length
   ·rw[if_pos h2,if_pos Om]
    have:j-c=(j-(c+1))+1:=by omega
    rw[this,List.getElem?_cons_succ]
   ·rw[if_neg h2,if_neg h1,if_neg Om]
theorem a8F (L cs:List Value) (off k:Nat) (h:off+cs.length≤L.length):(L.take off++cs++L.drop (off+cs.length))[k]?=if off≤k∧k<off+cs.length then cs[k-off]? else L[k]?:=by
 have h1:(L.take off).length=off:=by rw[bJF]; omega
 by_cases ha:k<off
 ·rw[if_neg Om,bJO,bLF Om,bLK,if_pos ha]
 ·by_cases hb:k<off+cs.length
  ·rw[if_pos ⟨by omega,hb⟩,bJO,bLJ Om,h1,bLF Om]
  ·rw[if_neg Om,bJO,bLJ Om,h1,bLJ Om,List.getElem?_drop]
   congr 1
   omega
theorem jS.store {s:Nat} {rs:List (List PV)} {cur:Array Value} (h:jS E s rs cur) {i c:Nat} {r ps:List PV} {us:List Value} (hr:rs[i]?=some r) (hc:c+ps.length≤s) (hl:us.length=ps.length)
  (h1:∀ u∈us,u.oneCell'=true) (bIH:∀ (j:Nat) p u,ps[j]?=some p→us[j]?=some u→aW E p u) :
  jS E s (rs.set i (setCells r c ps)) (cur.toList.take (i*s+c)++us++cur.toList.drop (i*s+c+us.length)).toArray:=by
 have hi:i<rs.length:=by
  rcases bJG i rs.length with h' | h'
  ·exact h'
  ·rw[bJY h'] at hr; cases hr
 have hrl:r.length=s:=h.1 r (bKX hr)
 have hle:(i+1)*s≤rs.length*s:=bJQ _ hi
 rw[Nat.succ_mul] at hle
 have hcur:=h.2.1
 have bHX:i*s+c+us.length≤cur.toList.length:=by (have e:cur.toList.length=cur.size:=bLD; omega)
 refine⟨fun q hq=>?_,?_,fun i' j pv hp=>?_⟩
 ·rcases List.mem_or_eq_of_mem_set hq with hq | rfl
  ·exact h.1 q hq
  ·rw[zQ]; exact hrl
 ·rw[bKU,List.size_toArray]
  simp only[bIQ,bJF,bKQ]
  have e:cur.toList.length=cur.size:=bLD
  omega
 ·rw[List.getElem?_toArray,a8F _ _ _ _ bHX]
  by_cases e:i'=i
  ·subst e
   simp only[at2,List.getElem?_set,if_true,hi,bLQ] at hp
   rw[OF ps r c j Om] at hp
   split at hp
   ·rename_i hj
    rw[if_pos Om]
    have e2:i'*s+j-(i'*s+c)=j-c:=by omega
    rw[e2]
    have hlt:j-c<us.length:=by omega
    exact⟨us[j-c],bIZ hlt,h1 _ (bIS hlt),bIH _ pv _ hp (bIZ hlt)⟩
   ·rename_i hj
    have hp':at2 rs i' j=some pv:=by simp[at2,hr,hp]
    have hj2:=(xK h.1 hp').2
    rw[if_neg Om,Array.getElem?_toList]
    exact h.2.2 i' j pv hp'
  ·have hp':at2 rs i' j=some pv:=by
    simp only[at2] at hp ⊢
    rw[List.getElem?_set,if_neg (fun x=>e x.symm)] at hp
    exact hp
   have hj2:=(xK h.1 hp').2
   have hne:¬ (i*s+c≤i'*s+j∧i'*s+j<i*s+c+us.length):=by
    rcases bJG i' i with h' | h'
    ·have:(i'+1)*s≤i*s:=bJQ _ h'
     rw[Nat.succ_mul] at this
     omega
    ·have:(i+1)*s≤i'*s:=bJQ _ Om
     rw[Nat.succ_mul] at this
     omega
   rw[if_neg hne,Array.getElem?_toList]
   exact h.2.2 i' j pv hp'
theorem aSE {o:Oper} {t:TypeId} {ax x:Operand} {pp px:aP} {k:Nat} {pa pv:PV} {H':PH} (ho:o.op=.store t ax x) (hs:T.size t=some k) (hp:T.opd ax=some pp) (hx:T.opd x=some px)
  (hpa:pp.ev F=some pa) (hpv:px.ev F=some pv) (hlen:pv.cells.length=k) (hst:storeAt H pa pv.cells=some H') (hA:dN n E F a) (hW:bR E H w) (hN:E.num=T.num) :
  ∃ w',(execOp a.eval o).run T.P w=.ok .skip w'∧bR E H' w'∧Ext E H w E H' w':=by
 unfold storeAt at hst
 split at hst
 ·rename_i q size i c
  split at hst
  ·rename_i s rs hq
   split at hst
   ·rename_i bHV
    obtain⟨rfl,hcl,bIA⟩:=bHV
    split at hst
    ·rename_i r hr
     cases hst
     have ra:=bG hp hpa hA hN
     generalize hea:a.eval ax=ea at ra
     cases ra
     obtain⟨c1,c2,c3⟩:=uC (bG hx hpv hA hN) bIA
     obtain⟨-,cur,ty,hh,hsz,bGV,hlen',bHY⟩:=hW.h q _ hq
     have hR:jS E s rs cur:=⟨bGV,hlen',bHY⟩
     have hi:i<rs.length:=by
      rcases bJG i rs.length with h' | h'
      ·exact h'
      ·rw[bJY h'] at hr; cases hr
     have hle:(i+1)*s≤rs.length*s:=bJQ _ hi
     rw[Nat.succ_mul] at hle
     have hul:(a.eval x).cells.toList.length=pv.cells.length:=by simpa using c1
     have bHX:i*s+c+0+(a.eval x).cells.toList.length≤cur.size:=by omega
     have bIG:=run_storeCells_at T.P q (i*s+c) ty (a.eval x).cells.toList 0 cur w hh bHX c2
     simp only[bKF] at bIG
     obtain⟨g1,g2⟩:=hW.aYP hq hh (cs:=(cur.toList.take (i*s+c)++(a.eval x).cells.toList++cur.toList.drop (i*s+c+(a.eval x).cells.toList.length)).toArray)
      (by rw[List.size_toArray]; simp only[bIQ,bJF,bKQ]; have e:cur.toList.length=cur.size:=bLD; omega)
      (hR.store hr hcl hul c2 (fun j p u hp hu=>c3 j p u hp (by simpa using hu)))
     refine⟨_,?_,g1,g2⟩
     unfold execOp
     rw[ho]
     have hne:¬ ((a.eval x).cells.size≠k):=by rw[c1,hlen]; simp
     simp[hea,Instr.storeAt,Instr.sureAddr,storeVar,iW hs,hne,bIG]
    ·cases hst
   ·cases hst
  ·cases hst
 ·cases hst
end
open Go Go.RowKit
section
variable {T:Tbl} {n:Nat} {E:Env} {F:PF} {H:PH} {a:Act} {w:World}
theorem bfS {s:Nat} {pv:PV} {v:Value} {rows:List (List PV)} (P:Program) (hW:bR E H w) (hv:aW E pv v) (h:dT H s pv=some rows) :
  ∃ ad cap,∃ news:List Value,v=.slice ad rows.length cap∧news.length=rows.length*s∧(∀ u∈news,u.oneCell'=true)∧(∀ r∈rows,r.length=s) ∧
   (∀ i j q,at2 rows i j=some q→∃ u,news[i*s+j]?=some u∧aW E q u) ∧
   ∀ wx:World,wx.heap=w.heap→(Builtin.firstCells s rows.length v).run P wx=.ok news.toArray wx:=by
 obtain⟨ad,cap,rfl,hcap,bGV,hc⟩:=agP hW hv h
 by_cases hne:rows=[]
 ·subst hne
  refine⟨ad,cap,[],rfl,by simp,by simp,by simp,fun i j q hq=>by simp[at2] at hq,fun wx _=>?_⟩
  cases ad with
  | none=>simp[Builtin.firstCells]
  | some x=>simp[Builtin.firstCells,Go.loadCells,Go.loadCellsFrom]
 ·obtain⟨b,off,rfl,bHY⟩:=hc hne
  have hat:∀ k,k<rows.length*s→∃ u q,at2 rows (k/s) (k%s)=some q∧w.cell? ⟨b,off+k,none⟩=some u∧u.oneCell'=true∧aW E q u:=by
   intro k hk
   have hs:0<s:=by
    rcases bKN s with h | h
    ·subst h; simp at hk
    ·exact h
   have h1:k/s<rows.length:=(bLC hs).2 hk
   have h2:k%s<s:=bJX _ hs
   have h3:k/s*s+k%s=k:=by rw[bJM]; exact bLN k s
   have hq:∃ q,at2 rows (k/s) (k%s)=some q:=by
    have hl:=bGV rows[k/s] (bIS h1)
    exact⟨rows[k/s][k%s]'Om,by simp[at2,h1,bIZ (Om:k%s<rows[k/s].length)]⟩
   obtain⟨q,hq⟩:=hq
   obtain⟨u,g1,g2,g3⟩:=bHY _ _ q hq
   rw[h3] at g1
   exact⟨u,q,hq,g1,g2,g3⟩
  refine⟨_,cap,(bIN (rows.length*s)).map fun k=>(w.cell? ⟨b,off+k,none⟩).getD undef,rfl,by simp,?_,bGV,?_,?_⟩
  ·intro u hu
   simp only[bJV,bKR] at hu
   obtain⟨k,hk,rfl⟩:=hu
   obtain⟨u,q,-,g1,g2,-⟩:=hat k hk
   simp[g1,g2]
  ·intro i j q hq
   obtain⟨hi,hj⟩:=xK bGV hq
   have hlt:i*s+j<rows.length*s:=by
    have:(i+1)*s≤rows.length*s:=bJQ _ hi
    rw[Nat.succ_mul] at this
    omega
   obtain⟨u,g1,g2,g3⟩:=bHY i j q hq
   refine⟨u,?_,g3⟩
   rw[bJU,List.getElem?_range hlt]
   simp[g1]
  ·intro wx hwx
   refine run_firstCells_some wx s rows.length _ _ cap _ (by simp) (fun j u hu=>?_)
   rw[add_plain]
   simp only[bJU,bIW] at hu
   obtain⟨k,hk,rfl⟩:=hu
   have hjk:j<rows.length*s:=by
    rcases bJG j (rows.length*s) with h' | h'
    ·exact h'
    ·rw[bJY (by simpa using h')] at hk; cases hk
   rw[List.getElem?_range hjk] at hk
   cases hk
   obtain⟨u,q,-,g1,-,-⟩:=hat j hjk
   have:wx.cell? ⟨b,off+j,none⟩=w.cell? ⟨b,off+j,none⟩:=by simp[World.cell?,hwx]
   rw[this,g1]
   rfl
theorem NY {t ty e:TypeId} {i:TypeInfo} (ht:T.P.underlying t=some (.slice e)) (hi:T.P.info? e=some i) (base:Option Addr) (bGZ bIL c:Nat) (ad:Option Addr) (hle:bGZ≤bIL)
  (hf:(Builtin.firstCells i.size 0 (.slice ad 0 c)).run T.P w=.ok #[] w):(Builtin.append_ #[t,t] ty #[.slice base bGZ bIL,.slice ad 0 c]).run T.P w=.ok (.slice base bGZ bIL) w:=by
 cases base with
 | none=>simp[Builtin.append_,run_underlying ht,sizeOf,typeInfo,hi,Builtin.lenOf,hle,hf]
 | some b=>simp[Builtin.append_,run_underlying ht,sizeOf,typeInfo,hi,Builtin.lenOf,hle,hf,storeCells]
theorem aIX {t ty e bt:TypeId} {i:TypeInfo} (ht:T.P.underlying t=some (.slice e)) (hi:T.P.info? e=some i) (g bGZ bIL m c:Nat) (ad:Option Addr) (cur:Array Value) (hg:w.heap[g]?=some (.cells cur bt (0,0)))
  (news:List Value) (hl:news.length=m*i.size) (hf:(Builtin.firstCells i.size m (.slice ad m c)).run T.P w=.ok news.toArray w) (h1:∀ u∈news,u.oneCell'=true) (bHO:bGZ+m≤bIL) (bHX:bGZ*i.size+news.length≤cur.size) :
  (Builtin.append_ #[t,t] ty #[.slice (some ⟨g,0,none⟩) bGZ bIL,.slice ad m c]).run T.P w =
   .ok (.slice (some ⟨g,0,none⟩) (bGZ+m) bIL) (w.setRow g (cur.toList.take (bGZ*i.size)++news++cur.toList.drop (bGZ*i.size+news.length)).toArray):=by
 have hst:=run_storeCells_at T.P g (bGZ*i.size) bt news 0 cur w hg (by simpa using bHX) h1
 simp only[bKF] at hst
 simp[Builtin.append_,run_underlying ht,sizeOf,typeInfo,hi,Builtin.lenOf,bHO,hf,Addr.add_lit,hst]
theorem aIW {t ty e:TypeId} {i:TypeInfo} {z:Value} (ht:T.P.underlying t=some (.slice e)) (hi:T.P.info? e=some i) (hz:i.zero=some z) (base:Option Addr) (bGZ bIL m c:Nat) (ad:Option Addr) (bIJ news:List Value)
  (ho:(Builtin.firstCells i.size bGZ (.slice base bGZ bIL)).run T.P w.drew=.ok bIJ.toArray w.drew) (hf:(Builtin.firstCells i.size m (.slice ad m c)).run T.P w.drew=.ok news.toArray w.drew)
  (hg:bIL<bGZ+m) (h63:bGZ+m≤maxLen) (hb:(bGZ+m)*i.bytes≤140737488355328) :
  (Builtin.append_ #[t,t] ty #[.slice base bGZ bIL,.slice ad m c]).run T.P w =
   .ok (.slice (some ⟨w.heap.size,0,none⟩) (bGZ+m) (grownCap w (bGZ+m) bIL e))
    (w.drew.alloc (.cells (bIJ.toArray++news.toArray++Builtin.zeroCells z.cells (grownCap w (bGZ+m) bIL e-(bGZ+m))) e)):=by
 have hn:¬ (bGZ+m≤bIL):=by omega
 simp only[maxLen] at h63
 have h63':¬ (9223372036854775807<((bGZ:Int)+(m:Int))):=by omega
 have bHX:=growslice_fits hg hb
 have h48':¬ (281474976710656<Builtin.nextslicecap (bGZ+m) bIL*i.bytes):=by omega
 simp[Builtin.append_,run_underlying ht,sizeOf,typeInfo,zeroValue,hi,hz,Builtin.lenOf,hn,h63',h48',Question.forced,hf,ho,newRow,grownCap]
 congr 2
 apply Array.ext'
 simp[bJO]
theorem bR.drew (hW:bR E H w):bR E H w.drew:=⟨hW.g,fun o x ho=>⟨(hW.h o x ho).1,(hW.h o x ho).2.mono (.refl E) rfl⟩,hW.s⟩
theorem Ext.alJ {E':Env} {H':PH} {w':World} (h:Ext E H w.drew E' H' w'):Ext E H w E' H' w':=⟨h.env,h.os,h.tape,h.output,h.size,h.block,h.new,h.newG⟩
theorem a2U {rs src:List (List PV)} (i j:Nat):at2 (rs++src) i j=if i<rs.length then at2 rs i j else at2 src (i-rs.length) j:=by
 unfold at2
 rw[List.getElem?_append]
 split<;>rfl
theorem jS.join {s:Nat} {rs src:List (List PV)} {bIJ news:List Value} {tail:List Value} (h1:∀ r∈rs,r.length=s) (h2:∀ r∈src,r.length=s) (hlo:bIJ.length=rs.length*s) (hln:news.length=src.length*s)
  (ho:∀ i j q,at2 rs i j=some q→∃ u,bIJ[i*s+j]?=some u∧u.oneCell'=true∧aW E q u) (hn:∀ i j q,at2 src i j=some q→∃ u,news[i*s+j]?=some u∧u.oneCell'=true∧aW E q u) :
  jS E s (rs++src) (bIJ++news++tail).toArray:=by
 refine⟨fun r hr=>?_,?_,fun i j q hq=>?_⟩
 ·rcases bKL.1 hr with h | h
  ·exact h1 r h
  ·exact h2 r h
 ·rw[List.size_toArray,bIQ,bIQ,bIQ,hlo,hln,bJP]
  omega
 ·rw[a2U] at hq
  rw[List.getElem?_toArray]
  split at hq
  ·rename_i hi
   obtain⟨u,g1,g2,g3⟩:=ho i j q hq
   refine⟨u,?_,g2,g3⟩
   have hlt:i*s+j<bIJ.length:=by
    rcases bJG (i*s+j) bIJ.length with h' | h'
    ·exact h'
    ·rw[bJY h'] at g1; cases g1
   rw[bJO,bLF hlt]
   exact g1
  ·rename_i hi
   obtain⟨u,g1,g2,g3⟩:=hn _ j q hq
   refine⟨u,?_,g2,g3⟩
   have hlt:(i-rs.length)*s+j<news.length:=by
    rcases bJG ((i-rs.length)*s+j) news.length with h' | h'
    ·exact h'
    ·rw[bJY h'] at g1; cases g1
   have e:i*s+j=bIJ.length+((i-rs.length)*s+j):=by
    rw[hlo,← bKS,← bJP]
    congr 2
    omega
   rw[e,bJO,bLJ Om,Nat.add_sub_cancel_left,bLF hlt]
   exact g1
theorem bR.dead (hW:bR E H w) {o:Nat} {x:cE} (ho:H o=some x):bR E (H.set o .dead) w∧Ext E H w E (H.set o .dead) w:=by
 refine⟨⟨fun b ds hb=>⟨fun y hy=>?_,(hW.g b ds hb).2⟩,fun q y hq=>?_,hW.s⟩,⟨.refl E,rfl,rfl,rfl,bIU _,fun _ _ _=>rfl,fun q y hq=>?_,fun b ds hb=>.inl hb⟩⟩
 ·rw[cD] at hy
  split at hy
  ·cases hy; rfl
  ·exact (hW.g b ds hb).1 y hy
 ·rw[cD] at hq
  split at hq
  ·rename_i e
   subst e
   cases hq
   exact⟨(hW.h q x ho).1,trivial⟩
  ·exact hW.h q y hq
 ·rw[cD] at hq
  split at hq
  ·rename_i e; subst e; exact .inl ⟨x,ho⟩
  ·exact .inl ⟨y,hq⟩
end
open Go Go.RowKit
section
variable {T:Tbl} {n:Nat} {E:Env} {F:PF} {H:PH} {a:Act} {w:World}
theorem a4C (w:World) (need old:Nat) (e:TypeId):need≤grownCap w need old e:=grownCap_ge w need old e
theorem nO {o:Oper} {c:Call} {x y:Operand} {t:TypeId} {v:Value} {w':World} (ho:o.op=.call c) (hcc:c.callee=.builtin .append) (hca:c.args.toList=[x,y]) (hct:c.argTypes.toList=[t,t])
  (h:(Builtin.append_ #[t,t] o.type #[a.eval x,a.eval y]).run T.P w=.ok v w'):(execOp a.eval o).run T.P w=.ok (.value v) w':=by
 unfold execOp
 rw[ho]
 have e1:c.argTypes=#[t,t]:=by apply Array.ext'; simp[hct]
 have e2:=a2T hca a.eval
 simp[resolve,hcc,invoke,builtin,e1,e2,h]
theorem bR.trim (hW:bR E H w) {o s k:Nat} {rs:List (List PV)} (ho:H o=some (.rows s rs)):bR E (H.set o (.rows s (rs.take k))) w∧Ext E H w E (H.set o (.rows s (rs.take k))) w:=by
 refine⟨⟨fun b ds hb=>⟨fun y hy=>?_,(hW.g b ds hb).2⟩,fun q y hq=>?_,hW.s⟩,⟨.refl E,rfl,rfl,rfl,bIU _,fun _ _ _=>rfl,fun q y hq=>?_,fun b ds hb=>.inl hb⟩⟩
 ·rw[cD] at hy
  split at hy
  ·rename_i e; subst e
   have:=(hW.g b ds hb).1 _ ho
   cases this
  ·exact (hW.g b ds hb).1 y hy
 ·rw[cD] at hq
  split at hq
  ·rename_i e
   subst e
   cases hq
   obtain⟨h1,cur,ty,hh,hsz,bGV,hlen,bHY⟩:=hW.h q _ ho
   refine⟨h1,cur,ty,hh,hsz,fun r hr=>bGV r (List.mem_of_mem_take hr),?_,fun i j p hp=>bHY i j p ?_⟩
   ·have:(rs.take k).length*s≤rs.length*s:=bJQ _ (by rw[bJF]; omega)
    omega
   ·unfold at2 at hp ⊢
    rw[bLK] at hp
    split at hp
    ·exact hp
    ·simp at hp
  ·exact hW.h q y hq
 ·rw[cD] at hq
  split at hq
  ·rename_i e; subst e; exact .inl ⟨_,ho⟩
  ·exact .inl ⟨y,hq⟩
theorem azO {o:Oper} {c:Call} {x y:Operand} {t e:TypeId} {i:TypeInfo} {px py:PV} {K:PV→PH→Prop} (ho:o.op=.call c) (hcc:c.callee=.builtin .append) (hca:c.args.toList=[x,y]) (hct:c.argTypes.toList=[t,t])
  (ht:T.P.underlying t=some (.slice e)) (hi:T.P.info? e=some i) (hz:i.zero.isSome=true) (hzs:(i.zero.map (·.cells.size))=some i.size) (h0:0<i.size)
  (hx:aW E px (a.eval x)) (hy:aW E py (a.eval y)) (hK:mW H i.size i.bytes px py K) (hW:bR E H w):azK T.P E H w o a K:=by
 obtain⟨z,hz⟩:=Option.isSome_iff_exists.1 hz
 have hzz:z.cells.size=i.size:=by simpa [hz] using hzs
 obtain⟨src,hsrc,hK⟩:=hK
 obtain⟨ad,cap,news,hyv,hnl,hn1,hsrow,hncell,hfirst⟩:=bfS T.P hW hy hsrc
 have grow:∀ (base:Option Addr) (bGZ bIL:Nat) (rs:List (List PV)) (bIJ:List Value),(Builtin.firstCells i.size bGZ (.slice base bGZ bIL)).run T.P w.drew=.ok bIJ.toArray w.drew→bIJ.length=bGZ*i.size→rs.length=bGZ →
   (∀ r∈rs,r.length=i.size)→(∀ i' j q,at2 rs i' j=some q→∃ u,bIJ[i'*i.size+j]?=some u∧u.oneCell'=true∧aW E q u)→bIL<bGZ+src.length→roomFor bGZ src.length i.bytes→a.eval x=.slice base bGZ bIL →
   ∀ (H1:PH),bR E H1 w→Ext E H w E H1 w→∃ v w' E' q,(execOp a.eval o).run T.P w=.ok (.value v) w'∧H1 q=none∧aW E' (.osl q i.size 0 (bGZ+src.length)) v∧bR E' (H1.set q (.rows i.size (rs++src))) w'∧Ext E H w E' (H1.set q (.rows i.size (rs++src))) w':=by
  intro base bGZ bIL rs bIJ hfo hol hrl hrr hrc hlt bHO hxv H1 hW1 hE1
  have bIG:=aIW (w:=w) (ty:=o.type) ht hi hz base bGZ bIL src.length cap ad bIJ news hfo (by rw[← hyv]; exact hfirst w.drew rfl) hlt bHO.1 bHO.2
  have hge:=a4C w (bGZ+src.length) bIL e
  have hcm:=grownCap_le_maxLen w (bGZ+src.length) bIL e bHO.1
  generalize hgc:grownCap w (bGZ+src.length) bIL e=gc at *
  have hnc:∀ i' j q,at2 src i' j=some q→∃ u,news[i'*i.size+j]?=some u∧u.oneCell'=true∧aW E q u:=fun i' j q hq=>by
   obtain⟨u,g1,g2⟩:=hncell i' j q hq
   exact⟨u,g1,hn1 u (bKX g1),g2⟩
  have hR:=jS.join (E:=E) (tail:=(Builtin.zeroCells z.cells (gc-(bGZ+src.length))).toList) hrr hsrow (by rw[hol,hrl]) hnl hrc hnc
  have hcells:(bIJ.toArray++news.toArray++Builtin.zeroCells z.cells (gc-(bGZ+src.length)))=(bIJ++news++(Builtin.zeroCells z.cells (gc-(bGZ+src.length))).toList).toArray:=by
   apply Array.ext'; simp
  rw[hcells] at bIG
  have hsz:(bIJ++news++(Builtin.zeroCells z.cells (gc-(bGZ+src.length))).toList).toArray.size=gc*i.size:=by
   have ez:(Builtin.zeroCells z.cells (gc-(bGZ+src.length))).toList.length=(gc-(bGZ+src.length))*i.size:=by
    rw[bLD,size_zeroCells,hzz]
   rw[List.size_toArray,bIQ,bIQ,ez,hol,hnl,← bJP,← bJP]
   congr 1
   omega
  obtain⟨g1,g2⟩:=hW1.drew.KZ e hR
  refine⟨_,_,_,w.heap.size,nO ho hcc hca hct (by rw[hxv,hyv]; exact bIG),hW1.a4K,?_,g1,hE1.trans g2.alJ⟩
  refine .osl rfl rfl (.inr (by simp)) hge hcm (aIE _ _ _) ?_
  rw[hsz]
  omega
 split at hK
 ·
  have hx':a.eval x=.slice none 0 0:=by
   generalize a.eval x=v at hx
   cases hx
   rfl
  obtain⟨bHO,hnil,hsome⟩:=hK
  by_cases hs0:src=[]
  ·subst hs0
   have hf0:=hfirst w rfl
   have hn0:news=[]:=List.eq_nil_of_length_eq_zero (by rw[hnl]; simp)
   subst hn0
   rw[hyv] at hf0
   have bIG:=NY (w:=w) (ty:=o.type) ht hi none 0 0 cap ad (bIU _) hf0
   exact⟨_,_,w,E,H,.bGI,nO ho hcc hca hct (by rw[hx',hyv]; exact bIG),.inl rfl,.bGI,hW,.refl E H w,hnil rfl⟩
  ·have hpos:0<src.length:=List.length_pos_iff.2 hs0
   obtain⟨v,w',E',q,g1,g2,g3,g4,g5⟩:=grow none 0 0 [] [] (by simp[Builtin.firstCells]) (by simp) rfl (by simp) (fun i' j q hq=>by simp[at2] at hq) Om bHO hx' H hW (.refl E H w)
   refine⟨v,_,w',E',_,_,g1,.inl rfl,g3,g4,g5,?_⟩
   have:=hsome hs0 q g2
   simpa using this
 ·
  rename_i q s off len
  obtain⟨rfl,rfl,bHO,rs,hq,hrlle,hKin,hKnew⟩:=hK
  have hform:∃ b bIL,a.eval x=.slice (some b) len bIL:=by
   generalize a.eval x=v at hx
   cases hx
   exact⟨_,_,rfl⟩
  obtain⟨b,bIL,hxv⟩:=hform
  obtain⟨bGZ,rfl⟩:∃ bGZ,bGZ=len:=⟨_,rfl⟩
  ·rw[hxv] at hx
   cases hx with
   | osl hb hsp bII hlen bID hnn hsroom =>
   rename_i N
   obtain⟨hqlt,cur,ty,hh,hsz,hrow0,hrlen0,hcell0⟩:=hW.h q _ hq
   obtain⟨hWt,hEt⟩:=hW.trim (k:=bGZ) hq
   obtain⟨-,cur',ty',hh',hsz',bGV,hrlen,bHY⟩:=hWt.h q (.rows i.size (rs.take bGZ)) (by rw[cD,if_pos rfl])
   rw[hh] at hh'
   cases hh'
   have hrl:(rs.take bGZ).length=bGZ:=by rw[bJF]; omega
   generalize hrs0:rs.take bGZ=rs0 at *
   have hNc:N=cur.size:=by rw[hsz] at hnn; cases hnn; rfl
   subst hNc
   simp only[Nat.zero_mul,bJJ] at hsroom bII
   by_cases hs0:src=[]
   ·subst hs0
    have hf0:=hfirst w rfl
    have hn0:news=[]:=List.eq_nil_of_length_eq_zero (by rw[hnl]; simp)
    subst hn0
    rw[hyv] at hf0
    have bIG:=NY (w:=w) (ty:=o.type) ht hi (some b) bGZ bIL cap ad hlen hf0
    simp only[bJZ,bLA,bKF] at hKin
    exact⟨_,_,w,E,_,.osl q i.size 0 bGZ,nO ho hcc hca hct (by rw[hxv,hyv]; exact bIG),.inl rfl,.osl hb hsp (by simpa using bII) hlen bID hsz Om,hWt,hEt,hKin⟩
   ·have hpos:0<src.length:=List.length_pos_iff.2 hs0
    by_cases bHX:bGZ+src.length≤bIL
    ·have hb0:b=⟨q,0,none⟩:=by
      have:b.off=0:=by
       rcases bII with h | h
       ·omega
       ·exact h
      cases b; simp_all
     subst hb0
     have hle2:(bGZ+src.length)*i.size≤bIL*i.size:=bJQ _ bHX
     rw[bJP] at hle2
     have bIG:=aIX (w:=w) (ty:=o.type) ht hi q bGZ bIL src.length cap ad cur hh news hnl (by rw[← hyv]; exact hfirst w rfl) hn1 bHX Om
     have hlo:(cur.toList.take (bGZ*i.size)).length=rs0.length*i.size:=by
      rw[bJF,bLD,hrl]; omega
     have hRn:=jS.join (E:=E) (s:=i.size) (rs:=rs0) (src:=src) (bIJ:=cur.toList.take (bGZ*i.size)) (news:=news) (tail:=cur.toList.drop (bGZ*i.size+news.length)) bGV hsrow hlo hnl
      (fun i' j p hp=>by
       obtain⟨u,g1,g2,g3⟩:=bHY i' j p hp
       obtain⟨hi',hj'⟩:=xK bGV hp
       refine⟨u,?_,g2,g3⟩
       have:(i'+1)*i.size≤rs0.length*i.size:=bJQ _ hi'
       rw[Nat.succ_mul,hrl] at this
       rw[bLK,if_pos Om,Array.getElem?_toList]
       exact g1)
      (fun i' j p hp=>by
       obtain⟨u,g1,g2⟩:=hncell i' j p hp
       exact⟨u,g1,hn1 u (bKX g1),g2⟩)
     obtain⟨g1,g2⟩:=hW.aYP hq hh (rs':=rs0++src) (cs:=(cur.toList.take (bGZ*i.size)++news++cur.toList.drop (bGZ*i.size+news.length)).toArray)
      (by rw[List.size_toArray]; simp only[bIQ,bJF,bKQ]; have e:cur.toList.length=cur.size:=bLD; omega) hRn
     exact⟨_,_,_,E,_,.osl q i.size 0 (bGZ+src.length),nO ho hcc hca hct (by rw[hxv,hyv]; exact bIG),.inl rfl,.osl rfl rfl (.inr (by simp)) bHX bID hsz Om,g1,g2,hKin⟩
    ·have hfo:∃ bIJ:List Value,(Builtin.firstCells i.size bGZ (.slice (some b) bGZ bIL)).run T.P w.drew=.ok bIJ.toArray w.drew∧bIJ.length=bGZ*i.size ∧
       (∀ i' j p,at2 rs0 i' j=some p→∃ u,bIJ[i'*i.size+j]?=some u∧u.oneCell'=true∧aW E p u):=by
      by_cases hl0:bGZ=0
      ·subst hl0
       refine⟨[],run_firstCells_some w.drew i.size 0 b 0 bIL [] (by simp) (by simp),by simp,fun i' j p hp=>?_⟩
       have:=(xK bGV hp).1
       omega
      ·have hb0:b=⟨q,0,none⟩:=by
        have:b.off=0:=by
         rcases bII with h | h
         ·omega
         ·exact h
        cases b; simp_all
       subst hb0
       have hll:(cur.toList.take (bGZ*i.size)).length=bGZ*i.size:=by
        rw[bJF,bLD]
        rw[hrl] at hrlen
        omega
       refine⟨cur.toList.take (bGZ*i.size),run_firstCells_some w.drew i.size bGZ _ bGZ bIL _ hll (fun j u hu=>?_),hll,fun i' j p hp=>?_⟩
       ·rw[add_plain,bJJ]
        rw[bLK] at hu
        split at hu
        ·rw[Array.getElem?_toList] at hu
         show w.cell? ⟨q,j,none⟩=some u
         rw[cell_of_row w q j cur ty (0,0) hh]
         exact hu
        ·cases hu
       ·obtain⟨u,g1,g2,g3⟩:=bHY i' j p hp
        obtain⟨hi',hj'⟩:=xK bGV hp
        refine⟨u,?_,g2,g3⟩
        have:(i'+1)*i.size≤rs0.length*i.size:=bJQ _ hi'
        rw[Nat.succ_mul,hrl] at this
        rw[bLK,if_pos Om,Array.getElem?_toList]
        exact g1
     obtain⟨bIJ,hfo,hol,hoc⟩:=hfo
     obtain⟨v,w',E',q',g1,g2,g3,g4,g5⟩:=grow (some b) bGZ bIL rs0 bIJ hfo hol hrl bGV hoc Om bHO hxv H hW (.refl E H w)
     exact⟨v,_,w',E',_,_,g1,.inl rfl,g3,g4,g5,hKnew q' g2⟩
 ·cases hK
end
open Go Go.RowKit
section
variable {T:Tbl} {n:Nat} {E:Env} {F:PF} {H:PH} {a:Act} {w:World}
def oneOf (cur:Array Value) (k:Nat):Value:=if ((cur[k]?).getD (.int .i64 0)).oneCell' then (cur[k]?).getD (.int .i64 0) else .int .i64 0
theorem beF (cur:Array Value) (k:Nat):(oneOf cur k).oneCell'=true:=by
 unfold oneOf
 split
 ·assumption
 ·rfl
theorem VI {o s:Nat} {rs:List (List PV)} {cur:Array Value} {E':Env} (hle:E.le E') (hG:E'.G o=some cur) (hsz:E.sz o=some cur.size) (hR:jS E s rs cur) {pv:PV} {v:Value} (h:aW E pv v) :
  aW E' (pv.dP o s rs) v:=by
 unfold PV.dP
 split
 ·rename_i q s' off len
  split
  ·rename_i e
   subst e
   split
   ·rename_i hc
    obtain⟨rfl,bHX⟩:=hc
    cases h with
    | osl hb hsp bII hlen bID hn bHO =>
    rename_i cap N ad
    have hl:((rs.drop off).take len).length=len:=by rw[bJF,bKQ]; omega
    have hat:∀ i j p,at2 ((rs.drop off).take len) i j=some p→at2 rs (off+i) j=some p:=by
     intro i j p hp
     unfold at2 at hp ⊢
     rw[bLK] at hp
     split at hp
     ·rw[List.getElem?_drop] at hp; exact hp
     ·simp at hp
    have key:aW E' (.sl s' ((rs.drop off).take len)) (.slice (some ad) ((rs.drop off).take len).length cap):=by
     have hu:∀ i j p,at2 ((rs.drop off).take len) i j=some p→∃ u,cur[(off+i)*s'+j]?=some u∧aW E p u∧oneOf cur ((off+i)*s'+j)=u:=by
      intro i j p hp
      obtain⟨u,g1,g2,g3⟩:=hR.2.2 _ _ _ (hat i j p hp)
      exact⟨u,g1,g3,by simp[oneOf,g1,g2]⟩
     refine .sl (fun i j=>oneOf cur ((off+i)*s'+j)) (by rw[hl]; exact hlen) bID (fun r hr=>hR.1 r (List.mem_of_mem_drop (List.mem_of_mem_take hr))) (fun hne=>?_) (fun i j=>beF _ _) (fun i j p hp=>?_)
     ·have hpos:0<((rs.drop off).take len).length:=List.length_pos_iff.2 hne
      have hoff':ad.off=off*s':=by
       rcases bII with h | h
       ·omega
       ·exact h
      refine⟨ad,rfl,hsp,fun i j p hp=>?_⟩
      obtain⟨u,g1,-,g3⟩:=hu i j p hp
      rw[g3]
      unfold Env.cell
      rw[hb,hG,bLQ,hoff']
      have e:off*s'+i*s'+j=(off+i)*s'+j:=by rw[bJP]
      rw[e]
      exact g1
     ·obtain⟨u,-,g2,g3⟩:=hu i j p hp
      rw[g3]
      exact g2.mono hle
    rw[hl] at key
    exact key
   ·exact .junk _
  ·exact h.mono hle
 ·exact h.mono hle
theorem aAW {o s:Nat} {rs:List (List PV)} {cur:Array Value} {E':Env} (hle:E.le E') (hG:E'.G o=some cur) (hsz:E.sz o=some cur.size) (hR:jS E s rs cur) {pv:PV} {v:Value} (h:aW E pv v) :
  aW E' (pv.rK o s rs) v:=by
 unfold PV.rK
 split
 ·cases h with
  | agg vs hl h1 hr =>
  refine .agg vs (by simpa using hl) h1 (fun j p u hp hu=>?_)
  rw[bJU,bIW] at hp
  obtain⟨q,hq,rfl⟩:=hp
  exact VI hle hG hsz hR (hr j q u hq hu)
 ·exact VI hle hG hsz hR h
theorem bqP {o s:Nat} {rs:List (List PV)} {cur:Array Value} {E':Env} (hle:E.le E') (hG:E'.G o=some cur) (hsz:E.sz o=some cur.size) (hR:jS E s rs cur) {pv:PV} {v:Value} (h:aW E pv v) :
  aW E' (pv.frz o s rs) v:=by
 unfold PV.frz
 split
 ·cases h with
  | tup vs hl hr =>
  refine .tup vs (by simpa using hl) (fun j p u hp hu=>?_)
  rw[bJU,bIW] at hp
  obtain⟨q,hq,rfl⟩:=hp
  exact aAW hle hG hsz hR (hr j q u hq hu)
 ·exact aAW hle hG hsz hR h
theorem bR.frz (hW:bR E H w) {o s:Nat} {rs:List (List PV)} (ho:H o=some (.rows s rs)):∃ E',bR E' (H.frz o s rs) w∧Ext E H w E' (H.frz o s rs) w∧∀ {pv:PV} {v:Value},aW E pv v→aW E' (pv.frz o s rs) v:=by
 obtain⟨hlt,cur,ty,hh,hsz,h1,h2,h3⟩:=hW.h o _ ho
 have hR:jS E s rs cur:=⟨h1,h2,h3⟩
 have hGo:E.G o=none:=by
  cases h:E.G o with
  | none=>rfl
  | some ds=>have:=(hW.g o ds h).1 _ ho; cases this
 have hle:E.le ⟨upd E.G o (some cur),E.sz,E.num⟩:=by
  refine⟨fun b ds hb=>?_,fun b m h=>h,rfl⟩
  have hne:b≠o:=fun e=>by subst e; rw[hGo] at hb; cases hb
  simp only
  rw[PT _ _ hne]
  exact hb
 have hG':(⟨upd E.G o (some cur),E.sz,E.num⟩:Env).G o=some cur:=by simp[upd]
 have happ:∀ q,(H.frz o s rs).f q=if q=o then none else (H q).map (cE.frz o s rs):=fun q=>rfl
 refine⟨⟨upd E.G o (some cur),E.sz,E.num⟩,⟨fun b ds hb=>?_,fun q x hq=>?_,hW.s⟩,⟨hle,rfl,rfl,rfl,bIU _,fun _ _ _=>rfl,fun q x hq=>?_,fun b ds hb=>?_⟩,fun h=>bqP hle hG' hsz hR h⟩
 ·simp only[upd] at hb
  split at hb
  ·rename_i e
   subst e
   cases hb
   refine⟨fun x hx=>?_,ty,(0,0),hh⟩
   rw[happ,if_pos rfl] at hx
   cases hx
  ·rename_i e
   obtain⟨g1,g2⟩:=hW.g b ds hb
   refine⟨fun x hx=>?_,g2⟩
   rw[happ,if_neg e,bIW] at hx
   obtain⟨y,hy,rfl⟩:=hx
   have:=g1 y hy
   subst this
   rfl
 ·rw[happ] at hq
  split at hq
  ·cases hq
  ·rw[bIW] at hq
   obtain⟨y,hy,rfl⟩:=hq
   obtain⟨g1,g2⟩:=hW.h q y hy
   refine⟨g1,?_⟩
   cases y with
   | rows s' rs' =>
    obtain⟨cur',ty',k1,k2,k3,k4,k5⟩:=g2
    refine⟨cur',ty',k1,k2,?_,by simpa using k4,fun i j p hp=>?_⟩
    ·intro r hr
     simp only[bJV] at hr
     obtain⟨r',hr',rfl⟩:=hr
     simpa using k3 r' hr'
    ·simp only[at2,bJU,Option.bind_map] at hp
     have hp':∃ p',at2 rs' i j=some p'∧p=p'.dP o s rs:=by
      unfold at2
      cases hr:rs'[i]? with
      | none=>simp[hr] at hp
      | some r =>
       simp only[hr,bLQ,Function.comp,bJU,bIW] at hp ⊢
       obtain⟨p',h1,h2⟩:=hp
       exact⟨p',h1,h2.symm⟩
     obtain⟨p',hp1,rfl⟩:=hp'
     obtain⟨u,m1,m2,m3⟩:=k5 i j p' hp1
     exact⟨u,m1,m2,VI hle hG' hsz hR m3⟩
   | map es=>exact ajG.mono hle rfl g2
   | dead=>trivial
 ·rw[happ] at hq
  split at hq
  ·cases hq
  ·rw[bIW] at hq
   obtain⟨y,hy,-⟩:=hq
   exact .inl ⟨y,hy⟩
 ·simp only[upd] at hb
  split at hb
  ·rename_i e; subst e; exact .inr (.inl ⟨_,ho⟩)
  ·exact .inl hb
theorem jI.sound {F F':PF} {H H':PH} (h:jI F H F' H'):∀ {E:Env},bR E H w→∃ E',bR E' H' w∧Ext E H w E' H' w∧∀ (f:Nat→Value),(∀ i pv,F i=some pv→aW E pv (f i))→∀ i pv,F' i=some pv→aW E' pv (f i):=by
 induction h with
 | refl F H=>intro E hW; exact⟨E,hW,.refl E H w,fun f h=>h⟩
 | step o ho _ ih =>
  intro E hW
  obtain⟨E1,h1,h2,h3⟩:=hW.frz ho
  obtain⟨E2,k1,k2,k3⟩:=ih h1
  refine⟨E2,k1,h2.trans k2,fun f hf=>k3 f fun i pv hi=>?_⟩
  simp only[PF.frz,bIW] at hi
  obtain⟨q,hq,rfl⟩:=hi
  exact h3 (hf i q hq)
theorem dN.frz {F':PF} {H':PH} (hA:dN n E F a) (hW:bR E H w) (h:jI F H F' H'):∃ E',dN n E' F' a∧bR E' H' w∧Ext E H w E' H' w:=by
 obtain⟨E',h1,h2,h3⟩:=h.sound hW
 exact⟨E',⟨hA.size,hA.defers,h3 (fun i=>a.tmps.getD i undef) hA.t⟩,h1,h2⟩
end
open Go Go.RowKit
section
variable {T:Tbl} {n:Nat} {E:Env} {F:PF} {H:PH} {a:Act} {w:World}
theorem SF (k:List KS):∀ (L:List (List KS × PV)) (i j:Nat),(pS k L i).map (·.2)=(pS k L j).map (·.2)
 | [],_,_=>rfl
 | e::L,i,j=>by
  simp only[pS]
  split
  ·rfl
  ·exact SF k L _ _
theorem lI (e:List KS × PV) (L:List (List KS × PV)) (k:List KS):mapOf (e::L) k=if e.1=k then some e.2 else mapOf L k:=by
 unfold mapOf
 simp only[pS]
 split
 ·rfl
 ·exact SF k L _ _
theorem abV {key:List KS} {pv:PV}:∀ {L:List (List KS × PV)},mapOf L key=none→mapOf (L++[(key,pv)])=kW.upd (mapOf L) key pv
 | [],_=>by
  funext k
  simp only[List.nil_append,lI,kW.upd]
  by_cases h:key=k
  ·rw[if_pos h,if_pos h.symm]
  ·rw[if_neg h,if_neg (fun e=>h e.symm)]
 | e::L,h=>by
  rw[lI] at h
  split at h
  ·cases h
  ·rename_i hne
   funext k
   rw[List.cons_append,lI,abV h]
   simp only[kW.upd,lI]
   by_cases h1:e.1=k
   ·have:k≠key:=fun e2=>hne (h1.trans e2)
    simp[h1,this]
   ·simp[h1]
theorem aoF {key:List KS} {pv:PV}:∀ {L:List (List KS × PV)} {i j:Nat} {p:PV},pS key L i=some (j,p)→i≤j∧mapOf (L.set (j-i) (key,pv))=kW.upd (mapOf L) key pv
 | [],i,j,p,h=>by simp[pS] at h
 | e::L,i,j,p,h=>by
  simp only[pS] at h
  split at h
  ·rename_i he
   cases h
   refine⟨bIU _,?_⟩
   funext k
   rw[Nat.sub_self,List.set_cons_zero,lI]
   simp only[kW.upd,lI]
   by_cases h1:key=k
   ·subst h1; simp
   ·have h2:k≠key:=fun e2=>h1 e2.symm
    have h3:e.1≠k:=fun e2=>h1 (he.symm.trans e2)
    simp[h1,h2,h3]
  ·rename_i he
   obtain⟨h1,h2⟩:=aoF (pv:=pv) h
   refine⟨by omega,?_⟩
   funext k
   rw[show j-i=(j-(i+1))+1 by omega,List.set_cons_succ,lI,h2]
   simp only[kW.upd,lI]
   by_cases h3:e.1=k
   ·have:k≠key:=fun e2=>he (h3.trans e2)
    simp[h3,this]
   ·simp[h3]
theorem bR.bfK (hW:bR E H w) {o:Nat} {sh:MSh} {g:kW} {es es':Array MapEntry} {clock clock':Nat} {L:List (List KS × PV)} (ho:H o=some (.map sh g)) (hh:w.heap[o]?=some (.map es clock)) (hsz:es'.size=L.length)
  (hL:∀ (i:Nat) e e',L[i]?=some e→es'[i]?=some e'→e.1.map KS.sh=sh.2∧e'.key=fO sh e.1∧aW E e.2 e'.val) :
  bR E (H.set o (.map sh (mapOf L))) { w with heap:=w.heap.setIfInBounds o (.map es' clock') }∧Ext E H w E (H.set o (.map sh (mapOf L))) { w with heap:=w.heap.setIfInBounds o (.map es' clock') }:=by
 have hlt:=(hW.h o _ ho).1
 have bIC:∀ b,b≠o→(w.heap.setIfInBounds o (.map es' clock'))[b]?=w.heap[b]?:=fun b hb=>Array.getElem?_setIfInBounds_ne (Ne.symm hb)
 have hself:(w.heap.setIfInBounds o (.map es' clock'))[o]?=some (.map es' clock'):=by simp[hlt]
 have hGne:∀ b ds,E.G b=some ds→b≠o:=fun b ds hb e=>by
  subst e
  have:=(hW.g b ds hb).1 _ ho
  cases this
 refine⟨⟨fun b ds hb=>?_,fun q x hq=>?_,fun q m hs=>?_⟩,⟨.refl E,rfl,rfl,rfl,by simp,fun b _ hn=>bIC b (fun e=>by subst e; rw[ho] at hn; cases hn),fun q x hq=>?_,fun b ds hb=>.inl hb⟩⟩
 ·obtain⟨h1,ty',fr,h2⟩:=hW.g b ds hb
  have hne:=hGne b ds hb
  refine⟨fun x hx=>h1 x ?_,ty',fr,(bIC b hne).trans h2⟩
  rw[cD,if_neg hne] at hx
  exact hx
 ·rw[cD] at hq
  split at hq
  ·rename_i e
   subst e
   cases hq
   exact⟨by simpa using hlt,es',clock',L,hself,hsz,rfl,hL⟩
  ·rename_i e
   obtain⟨h1,h2⟩:=hW.h q x hq
   exact⟨by simpa using h1,h2.mono (.refl E) (bIC q e)⟩
 ·obtain⟨cur',ty',fr,h1,h2⟩:=hW.s q m hs
  have hne:q≠o:=fun e=>by subst e; rw[hh] at h1; cases h1
  exact⟨cur',ty',fr,(bIC q hne).trans h1,h2⟩
 ·rw[cD] at hq
  split at hq
  ·rename_i e; subst e; exact .inl ⟨_,ho⟩
  ·exact .inl ⟨x,hq⟩
theorem TT (k:KS) (d:Nat):Instr.sameBits d k.val k.val=true:=by
 cases k<;>cases d<;>simp[KS.val,Instr.sameBits,beq_toListBytes]
theorem aIZ (sh:MSh) (k:List KS) (hk:sh.1=false→∃ s,k=[s]):Instr.sameBits 10000 (fO sh k) (fO sh k)=true:=by
 obtain⟨b,l⟩:=sh
 cases b with
 | false =>
  obtain⟨s,rfl⟩:=hk rfl
  exact TT s 10000
 | true =>
  simp only[fO,if_true]
  obtain⟨m,hm⟩:∃ m:Nat,m=9999:=⟨_,rfl⟩
  rw[show (10000:Nat)=m+1 by omega]
  simp only[Instr.sameBits,beq_self_eq_true,bJC,bJL]
  rintro⟨x,y⟩ hxy
  have:∀ (l:List Value),(x,y)∈l.zip l→x=y∧x∈l:=by
   intro l
   induction l with
   | nil=>intro h; simp at h
   | cons z zs ih =>
    intro h
    simp only[List.zip_cons_cons,bJB,Prod.mk.injEq] at h
    rcases h with ⟨rfl,rfl⟩ | h
    ·exact⟨rfl,by simp⟩
    ·exact⟨(ih h).1,by simp[(ih h).2]⟩
  obtain⟨rfl,hmem⟩:=this _ hxy
  simp only[bJV] at hmem
  obtain⟨s,-,rfl⟩:=hmem
  exact TT s m
theorem aFB {t kt et:TypeId} {sh:MSh} {pk pv:PV} {x k v:Value} {o:Nat} {g:kW} {key:List KS} (ht:T.P.underlying t=some (.map kt et)) (hsh:T.kL kt=some sh)
  (hx:aW E (.map o) x) (hk:aW E pk k) (hv:aW E pv v) (ho:H o=some (.map sh g)) (hkey:keyOf sh pk=some key) (hW:bR E H w) :
  ∃ w',(Instr.mapUpdate t x k v).run T.P w=.ok () w'∧bR E (H.set o (.map sh (g.upd key pv))) w'∧Ext E H w E (H.set o (.map sh (g.upd key pv))) w':=by
 cases hx
 obtain⟨hlt,es,clock,L,hh,hsz,rfl,hes⟩:=hW.h o _ ho
 obtain⟨hkv,hks,hk1⟩:=anI hk hkey
 have hKA:qJ sh L es.toList:=⟨by simpa using hsz,fun i e e' a b=>by have:=hes i e e' a (by simpa using b); exact⟨this.1,this.2.1⟩⟩
 obtain⟨r,g1,g2⟩:=KP (w:=w) hsh hks hKA
 subst hkv
 have hget:(getObj o).run T.P w=.ok (.map es clock) w:=by simp[getObj,Sem.run,hh]
 have bIF:∀ x,(setObj o x).run T.P w=.ok () { w with heap:=w.heap.setIfInBounds o x }:=fun x=>MapKept.run_setObj_map x hh
 simp only[Instr.mapUpdate,Sem.run_bind,run_underlying ht,Result.andThen_ok,hget,DM hsh hks,g1]
 unfold Found at g2
 split at g2
 ·rename_i hn
  subst g2
  have hm:mapOf L key=none:=by unfold mapOf; rw[hn]; rfl
  have hp:kW.upd (mapOf L) key pv=mapOf (L++[(key,pv)]):=(abV hm).symm
  rw[hp]
  simp only[bIF]
  refine⟨_,rfl,hW.bfK ho hh (by simp[hsz]) fun i e e' h1 h2=>?_⟩
  rcases Nat.lt_trichotomy i L.length with h3 | h3 | h3
  ·rw[bLF h3] at h1
   rw[Array.getElem?_push_lt Om] at h2
   exact hes i e e' h1 (by rw[bLR Om]; exact h2)
  ·subst h3
   rw[bLJ (bIU _)] at h1
   rw[← hsz,Array.getElem?_push_size] at h2
   simp at h1 h2
   subst h1; subst h2
   exact⟨hks,rfl,hv⟩
  ·rw[bJY (by simp; omega)] at h1
   cases h1
 ·rename_i j p hj
  obtain⟨e0,-,h2,h3,rfl⟩:=g2
  have hp:kW.upd (mapOf L) key pv=mapOf (L.set j (key,pv)):=by
   have:=(aoF (pv:=pv) hj).2
   simpa using this.symm
  rw[hp]
  simp only[Nat.sub_zero] at h2 h3
  have h2':es[j]?=some e0:=by simpa using h2
  have hek:e0.key=fO sh key:=(hes j _ e0 h3 h2').2.1
  have hstay:(Instr.keyThatStays (((es[j]?).map (·.key)).getD (fO sh key)) (fO sh key)).run T.P w=.ok (fO sh key) w:=by
   rw[h2']
   simp only[bJS,bKK,hek,Instr.keyThatStays,aIZ sh key hk1,if_true,Sem.run_pure]
  simp only[Sem.run_bind,hstay,Result.andThen_ok,bIF]
  refine⟨_,rfl,hW.bfK ho hh (by simp[hsz]) fun i e e' h4 h5=>?_⟩
  rw[Array.getElem?_modify] at h5
  rw[List.getElem?_set] at h4
  have hjl:j<L.length:=(bKA.1 h3).1
  by_cases hij:j=i
  ·subst hij
   rw[if_pos rfl,if_pos hjl] at h4
   rw[if_pos rfl,h2'] at h5
   simp at h4 h5
   subst h4; subst h5
   exact⟨hks,rfl,hv⟩
  ·rw[if_neg hij] at h4 h5
   exact hes i e e' h4 h5
end
open Go Go.RowKit
section
variable {T:Tbl} {n:Nat} {E:Env} {F:PF} {H:PH} {a:Act} {w:World}
def mO (n:Nat) (E:Env) (H:PH) (w:World) (K:PF→PH→Prop) (next:Act→World→Prop):Prop :=
 ∀ E' F' H' a' w',dN n E' F' a'→bR E' H' w'→Ext E H w E' H' w'→K F' H'→next a' w'
theorem eP.append {ps qs:List PV} {vs us:List Value} (h:eP E ps vs) (k:eP E qs us):eP E (ps++qs) (vs++us):=by
 induction h with
 | nil=>exact k
 | cons h _ ih=>exact .cons h ih
theorem eP.bzH {ps:List PV}:∀ {vs:List Value},vs.length=ps.length→(∀ (j:Nat) p v,ps[j]?=some p→vs[j]?=some v→aW E p v)→eP E ps vs:=by
 induction ps with
 | nil=>intro vs hl _; simp at hl; subst hl; exact .nil
 | cons p ps ih =>
  intro vs hl h
  cases vs with
  | nil=>simp at hl
  | cons v vs=>exact .cons (h 0 p v rfl rfl) (ih (by simpa using hl) fun j q u a b=>h (j+1) q u (by simpa using a) (by simpa using b))
theorem biP {o:Oper} {c:Call} {f:FuncId} {vc:Array Value} {x:Operand} {P:Program} {fn:Func} (ho:o.op=.call c) (hcc:c.callee=.value x) (hx:a.eval x=.func (.func f) #[] vc)
  (hf:P.funcs[f]?=some fn) (hb:fn.body.isSome=true) (hnm:(fn.name=="runtime.NumGoroutine")=false) :
  (execOp a.eval o).run P w=.ok (.enter f (c.args.map a.eval++vc)) w:=by
 have hb':fn.body.isNone=false:=by cases h:fn.body<;>simp_all
 unfold execOp
 rw[ho]
 simp only[resolve,hcc,hx,Deferred.ofValue,Sem.run_bind,Sem.run_pure,Result.andThen_ok,invoke,callFunc,run_program,hf,hnm,hb',bLS,if_false,Array.empty_append]
theorem SC {C:Ctx} {name:Nat} {ps:Option (List PV)} {d:Option Nat} {K:PF→PH→Prop} {o:Oper} {c:Call} {x:Operand} {vc:Array Value} {Q:Exit→Act→World→Prop} {next:Act→World→Prop}
  (h:rA C name ps d K F H) (hd:o.dst=d) (hlt:o.dst.all (·<n)=true) (ho:o.op=.call c) (hcc:c.callee=.value x) (hx:a.eval x=.func (.func (C.num name)) #[] vc)
  (bIB:∀ vs,ps=some vs→eP E vs (c.args.map a.eval++vc).toList) (hA:dN n E F a) (hW:bR E H w) (hN:E.num=C.num) (bHK:mO n E H w K next):o.wp C.P a w next Q:=by
 obtain⟨vs,H0,R,rfl,hle,⟨⟨fn,hf,hb,hnm⟩,bHP⟩,hK⟩:=h
 have bIG:=biP (w:=w) (a:=a) ho hcc hx hf hb hnm
 unfold Oper.wp
 rw[bIG,Oper.upon_enter]
 refine (bHP E w _ hN (hW.weaken hle) (bIB vs rfl)).mono fun e w' he=>?_
 obtain⟨v,pv,E',H',rfl,hW',hr,hE,hR⟩:=he
 have hap:mM H H0 H':=by
  intro q y hq h0
  rcases hE.new q y hq with ⟨z,hz⟩ | hge
  ·rw[h0] at hz; cases hz
  ·cases hh:H q with
   | none=>rfl
   | some z=>have:=(hW.h q z hh).1; omega
 have hA':dN n E' (F.put d pv) (a.put o.dst v):=by
  rw[← hd]
  exact (hA.mono hE.env).put hlt hr
 exact bHK E' _ _ _ w' hA' (hW.over hE hle hW') (hE.narrow hle) (hK pv H' hR hap)
theorem LJ {C:Ctx} {name:Nat} {args:List aP} {cs:List PV} {d:Option Nat} {K:PF→PH→Prop} {o:Oper} {c:Call} {x:Operand} {vc:Array Value} {Q:Exit→Act→World→Prop} {next:Act→World→Prop}
  (h:gW C name args cs d K F H) (hd:o.dst=d) (hlt:o.dst.all (·<n)=true) (ho:o.op=.call c) (hcc:c.callee=.value x) (hx:a.eval x=.func (.func (C.num name)) #[] vc)
  (bIB:∀ (E':Env) (F':PF) vs,E.le E'→dN n E' F' a→E'.num=C.num→aP.evs F' args=some vs→eP E' (vs++cs) (c.args.map a.eval++vc).toList) (hA:dN n E F a) (hW:bR E H w) (hN:E.num=C.num) (bHK:mO n E H w K next):o.wp C.P a w next Q:=by
 rcases h with h | ⟨F1,H1,hf,h⟩
 ·refine SC h hd hlt ho hcc hx (fun vs hvs=>?_) hA hW hN bHK
  rw[bIW] at hvs
  obtain⟨ws,hws,rfl⟩:=hvs
  exact bIB E F ws (.refl E) hA hN hws
 ·obtain⟨E',hA',hW',hE⟩:=hA.frz hW hf
  refine SC h hd hlt ho hcc hx (fun vs hvs=>?_) hA' hW' (hE.env.num.trans hN) (fun E2 F2 H2 a2 w2 g1 g2 g3 g4=>bHK E2 F2 H2 a2 w2 g1 g2 (hE.trans g3) g4)
  rw[bIW] at hvs
  obtain⟨ws,hws,rfl⟩:=hvs
  exact bIB E' F1 ws hE.env hA' (hE.env.num.trans hN) hws
theorem aDY {o:Oper} {p:POp} (hc:T.op o=some p) (hk:p.mZ=true):∃ c,o.op=.call c∧T.call o c=some p:=by
 unfold Tbl.op at hc
 split at hc
 case h_26=>rename_i c ho; exact⟨c,ho,hc⟩
 all_goals (repeat' (first | (split at hc) | (simp only[bIW] at hc; obtain⟨_,-,rfl⟩:=hc; simp[POp.mZ] at hk; done) | (cases hc; simp[POp.mZ] at hk; done) | (cases hc; done)))
theorem awX {o:Oper} {p:POp} (hc:T.op o=some p) (hk:p.dM=true) :
  (∃ t ax x k pp px,o.op=.store t ax x∧T.size t=some k∧T.opd ax=some pp∧T.opd x=some px∧p=.store k pp px) ∨
  (∃ c x y t e i px py,o.op=.call c∧c.callee=.builtin .append∧c.args.toList=[x,y]∧c.argTypes.toList=[t,t]∧T.P.underlying t=some (.slice e)∧T.P.info? e=some i∧i.zero.isSome=true ∧
   (i.zero.map (·.cells.size))=some i.size∧0<i.size∧T.opd x=some px∧T.opd y=some py∧p=.append i.size i.bytes px py) ∨
  (∃ t kt et sh x k v px pk pv,(o.op=.mapUpdate t x k v∨o.op=.insert t x k v)∧T.P.underlying t=some (.map kt et)∧T.kL kt=some sh∧T.opd x=some px∧T.opd k=some pk∧T.opd v=some pv ∧
   (p=.bHG sh px pk pv∨p=.insert sh px pk pv)):=by
 unfold Tbl.op at hc
 split at hc
 case h_17 =>
  rename_i t x k v ho
  split at hc
  ·rename_i kt et hu
   split at hc<;>cases hc
   rename_i sh p q r h1 h2 h3 h4
   exact .inr (.inr ⟨t,kt,et,sh,x,k,v,p,q,r,.inl ho,hu,h1,h2,h3,h4,.inl rfl⟩)
  ·cases hc
 case h_18 =>
  rename_i t x k v ho
  split at hc
  ·rename_i kt et hu
   split at hc<;>cases hc
   rename_i sh p q r h1 h2 h3 h4
   exact .inr (.inr ⟨t,kt,et,sh,x,k,v,p,q,r,.inr ho,hu,h1,h2,h3,h4,.inr rfl⟩)
  ·cases hc
 case h_9 =>
  rename_i t ax x ho
  split at hc<;>cases hc
  rename_i k pp px h1 h2 h3
  exact .inl ⟨t,ax,x,k,pp,px,ho,h1,h2,h3,rfl⟩
 case h_26 =>
  rename_i c ho
  unfold Tbl.call at hc
  split at hc
  ·rename_i b hcc
   split at hc
   ·split at hc<;>(first | (simp only[bIW] at hc; obtain⟨_,-,rfl⟩:=hc; simp[POp.dM] at hk; done) | (cases hc; simp[POp.dM] at hk; done) | (cases hc; done))
   ·rename_i x y t u hca hct
    split at hc<;>try cases hc
    rename_i e e' ht hu
    split at hc<;>try cases hc
    rename_i i px py hi hx hy
    split at hc
    ·rename_i bHV
     cases hc
     obtain⟨rfl,h1,h2,h3⟩:=bHV
     exact .inr (.inl ⟨c,x,y,t,e,i,px,py,ho,hcc,hca,hct,ht,hi,h1,h2,h3,hx,hy,rfl⟩)
    ·cases hc
   ·split at hc<;>(first | (simp only[bIW] at hc; obtain⟨_,-,rfl⟩:=hc; simp[POp.dM] at hk; done) | (cases hc; done))
   ·split at hc<;>(first | (cases hc; simp[POp.dM] at hk; done) | (cases hc; done))
   ·split at hc<;>(first | (cases hc; simp[POp.dM] at hk; done) | (cases hc; done))
   ·cases hc
  ·split at hc
   ·split at hc
    ·cases hc; simp[POp.dM] at hk
    ·cases hc
   ·cases hc
  ·simp only[bIW] at hc
   obtain⟨_,-,rfl⟩:=hc
   simp[POp.dM] at hk
  ·cases hc
 all_goals (repeat' (first | (split at hc) | (simp only[bIW] at hc; obtain⟨_,-,rfl⟩:=hc; simp[POp.dM] at hk; done) | (cases hc; simp[POp.dM] at hk; done) | (cases hc; done)))
theorem aSJ {o:Oper} {p:POp} {K:PV→PH→Prop} (hc:T.op o=some p) (hk:p.dM=true) (h:bU p F H K) (hA:dN n E F a) (hW:bR E H w) (hN:E.num=T.num):azK T.P E H w o a K:=by
 rcases awX hc hk with ⟨t,ax,x,k,pp,px,ho,h1,h2,h3,rfl⟩ | ⟨c,x,y,t,e,i,px,py,ho,hcc,hca,hct,ht,hi,g1,g2,g3,hx,hy,rfl⟩ | ⟨t,kt,et,sh,x,k,v,px,pk,pv,ho,hu,hsh,hx,hkk,hv,hp⟩
 ·simp only[bU] at h
  split at h
  ·rename_i pa pv hpa hpv
   obtain⟨hl,H',hst,hK⟩:=h
   obtain⟨w',hr,hW',hE⟩:=aSE ho h1 h2 h3 hpa hpv hl hst hA hW hN
   exact⟨undef,_,w',E,H',.junk,hr,.inr ⟨rfl,rfl⟩,.junk _,hW',hE,hK⟩
  ·exact h.elim
 ·simp only[bU] at h
  split at h
  ·rename_i pa pb hpa hpb
   exact azO ho hcc hca hct ht hi g1 g2 g3 (bG hx hpa hA hN) (bG hy hpb hA hN) h hW
  ·exact h.elim
 ·have key:∀ q kv vv g key,px.ev F=some (.map q)→pk.ev F=some kv→pv.ev F=some vv→H q=some (.map sh g)→keyOf sh kv=some key→K .junk (H.set q (.map sh (g.upd key vv)))→azK T.P E H w o a K:=by
   intro q kv vv g key e1 e2 e3 e4 e5 hK
   obtain⟨w',g1,g2,g3⟩:=aFB hu hsh (bG hx e1 hA hN) (bG hkk e2 hA hN) (bG hv e3 hA hN) e4 e5 hW
   refine⟨undef,.skip,w',E,_,.junk,?_,.inr ⟨rfl,rfl⟩,.junk _,g2,g3,hK⟩
   rcases ho with ho | ho<;>(unfold execOp; rw[ho]; simp[g1])
  rcases hp with rfl | rfl
  ·simp only[bU] at h
   split at h
   ·rename_i q kv vv e1 e2 e3
    split at h
    ·rename_i sh' g ky e4 e5
     obtain⟨rfl,hK⟩:=h
     exact key q kv vv g ky e1 e2 e3 e4 e5 hK
    ·exact h.elim
   ·exact h.elim
  ·simp only[bU] at h
   split at h
   ·rename_i q kv vv e1 e2 e3
    split at h
    ·rename_i sh' g ky e4 e5
     obtain⟨rfl,-,hK⟩:=h
     exact key q kv vv g ky e1 e2 e3 e4 e5 hK
    ·exact h.elim
   ·exact h.elim
theorem bmH {C:Ctx} (hCP:C.P=T.P) (hCN:C.num=T.num) {o:Oper} {p:POp} {d:Option Nat} {K:PF→PH→Prop} {Q:Exit→Act→World→Prop} {next:Act→World→Prop} (hc:T.op o=some p) (hd:o.dst=d) (hlt:o.dst.all (·<n)=true)
  (h:wpOp C p d K F H) (hA:dN n E F a) (hW:bR E H w) (hN:E.num=T.num) (bHK:mO n E H w K next):o.wp T.P a w next Q:=by
 by_cases hk:p.mZ=true
 ·obtain⟨c,ho,bHP⟩:=aDY hc hk
  unfold Tbl.call at bHP
  split at bHP
  ·rename_i b hcc
   exfalso
   repeat' (first | (split at bHP) | (simp only[bIW] at bHP; obtain⟨_,-,rfl⟩:=bHP; simp[POp.mZ] at hk; done) | (cases bHP; simp[POp.mZ] at hk; done) | (cases bHP; done))
  ·rename_i f hcc
   split at bHP
   ·rename_i m xs hm hxs
    split at bHP
    ·rename_i hf
     cases bHP
     rw[← hCP]
     refine LJ h hd hlt ho hcc (vc:=#[]) (by rw[hCN,hf]; rfl) (fun E' F' vs _ hA' hN' hvs=>?_) hA hW (hN.trans hCN.symm) bHK
     simpa using HI hxs hvs hA' (hN'.trans hCN)
    ·cases bHP
   ·cases bHP
  ·rename_i t hcc
   simp only[bIW] at bHP
   obtain⟨xs,hxs,rfl⟩:=bHP
   obtain⟨name,cs,hfn,hcl⟩:=h
   have r:=hA.t t _ hfn
   have hx0:a.eval (.tmp t)=a.tmps.getD t undef:=rfl
   generalize hv:a.tmps.getD t undef=v at r
   cases r with
   | fn vc hl hr =>
   rw[← hCP]
   refine LJ hcl hd hlt ho hcc (vc:=vc) (by rw[hx0,hv,hN,hCN]) (fun E' F' ws hle hA' hN' hws=>?_) hA hW (hN.trans hCN.symm) bHK
   rw[Array.toList_append]
   refine eP.append (by simpa using HI hxs hws hA' (hN'.trans hCN)) (eP.bzH (by simpa using hl) fun j p u hp hu=>(hr j p u hp (by simpa using hu)).mono hle)
  ·cases bHP
 ·have hk':p.mZ=false:=by simpa using hk
  have hgen:(if p.fX then lZ (cR p F) d K F H else if p.dM then bU p F H (fun r H'=>K (F.put d r) H') else bS (aN p F H) d K F H):=by
   cases p<;>first | exact h | (simp[POp.mZ] at hk')
  by_cases hn:p.fX=true
  ·rw[if_pos hn] at hgen
   obtain⟨mk,x,hal,hK⟩:=hgen
   obtain⟨v,w',E',q,hr,hq,bIH,hW',hE⟩:=bdJ hc hn hal hA hW hN
   unfold Oper.wp
   rw[hr,Oper.upon_value]
   exact bHK E' _ _ _ w' (by rw[← hd]; exact (hA.mono hE.env).put hlt bIH) hW' hE (hK q hq)
  ·rw[if_neg hn] at hgen
   by_cases hw:p.dM=true
   ·rw[if_pos hw] at hgen
    obtain⟨v,nx,w',E',H',pv,hr,hnx,bIH,hW',hE,hK⟩:=aSJ hc hw hgen hA hW hN
    unfold Oper.wp
    have hA':dN n E' (F.put d pv) (a.put o.dst v):=by rw[← hd]; exact (hA.mono hE.env).put hlt bIH
    rcases hnx with rfl | ⟨rfl,rfl⟩
    ·rw[hr,Oper.upon_value]
     exact bHK E' _ _ _ w' hA' hW' hE hK
    ·rw[hr,Oper.upon_skip]
     exact bHK E' _ _ _ w' hA' hW' hE hK
   ·rw[if_neg hw] at hgen
    obtain⟨pv,hpv,hK⟩:=hgen
    obtain⟨v,w',E',hr,bIH,hW',hE⟩:=a2Z hc (by simpa using hn) (by simpa using hw) hk' hpv hA hW hN
    unfold Oper.wp
    rw[hr,Oper.upon_value]
    exact bHK E' _ _ _ w' (by rw[← hd]; exact (hA.mono hE.env).put hlt bIH) hW' hE hK
end
def aP.bY:aP→List Nat
 | .tmp t=>[t]
 | .const _=>[]
def sA:Option aP→List Nat
 | none=>[]
 | some x=>x.bY
def OI:List aP→List Nat
 | []=>[]
 | x::xs=>x.bY++OI xs
def aJH:List (Nat × Nat × aP)→List Nat
 | []=>[]
 | x::xs=>x.2.2.bY++aJH xs
def aJG:List (Nat × aP)→List Nat
 | []=>[]
 | x::xs=>x.2.bY++aJG xs
def POp.bY:POp→List Nat
 | .mv x=>x.bY
 | .pick c a b=>c.bY++(a.bY++b.bY)
 | .bin _ x y=>x.bY++y.bY
 | .eqb _ x y=>x.bY++y.bY
 | .eqs _ _ x y=>x.bY++y.bY
 | .un _ x=>x.bY
 | .conv _ x=>x.bY
 | .same x=>x.bY
 | .alloc _=>[]
 | .box _ x=>x.bY
 | .build _ ps=>aJH ps
 | .bGN _ _ _ _ ps=>aJG ps
 | .load _ p=>p.bY
 | .store _ p x=>p.bY++x.bY
 | .bGX x=>x.bY
 | .bHU _ x=>x.bY
 | .field _ _ x=>x.bY
 | .bHD _ x i=>x.bY++i.bY
 | .idxA _ _ x i=>x.bY++i.bY
 | .idxV _ _ _ x i=>x.bY++i.bY
 | .bHR x i=>x.bY++i.bY
 | .slice _ x lo hi mx=>x.bY++(sA lo++(sA hi++sA mx))
 | .bHL x lo hi=>x.bY++(sA lo++sA hi)
 | .sliceA _ _ x lo hi mx=>x.bY++(sA lo++(sA hi++sA mx))
 | .len x=>x.bY
 | .bHQ x=>x.bY
 | .bIK x=>x.bY
 | .extract x _=>x.bY
 | .bGS _ _ _ l c=>l.bY++c.bY
 | .append _ _ x y=>x.bY++y.bY
 | .bHJ _ x y=>x.bY++y.bY
 | .mkfn _ cs=>OI cs
 | .bIE _=>[]
 | .lookup _ _ x k _=>x.bY++k.bY
 | .bHG _ x k v=>x.bY++(k.bY++v.bY)
 | .insert _ x k v=>x.bY++(k.bY++v.bY)
 | .stuck=>[]
 | .bGY x=>x.bY
 | .str2bytes x=>x.bY
 | .call _ az=>OI az
 | .bHT x az=>x.bY++OI az
def nT (l:List Nat) (F F':PF):Prop:=∀ t∈l,F t=F' t
theorem nT.left {a b:List Nat} {F F':PF} (h:nT (a++b) F F'):nT a F F':=fun t ht=>h t (by simp[ht])
theorem nT.right {a b:List Nat} {F F':PF} (h:nT (a++b) F F'):nT b F F':=fun t ht=>h t (by simp[ht])
section
variable {F F':PF} {H H':PH}
theorem bQ {x:aP} (h:nT x.bY F F'):x.ev F=x.ev F':=by
 cases x with
 | tmp t=>exact h t (by simp[aP.bY])
 | const v=>rfl
theorem ES:∀ {xs:List aP},nT (OI xs) F F'→aP.evs F xs=aP.evs F' xs
 | [],_=>rfl
 | x::xs,h=>by
  simp only[aP.evs,bQ h.left,ES h.right]
theorem aaK:∀ {ps:List (Nat × Nat × aP)} {cs:List PV},nT (aJH ps) F F'→oR cs F ps=oR cs F' ps
 | [],_,_=>rfl
 | (o,s,x)::ps,cs,h=>by
  simp only[oR]
  rw[bQ (x:=x) h.left]
  split
  ·rw[aaK (ps:=ps) h.right]
  ·rfl
theorem uW {s:Nat}:∀ {ps:List (Nat × aP)} {rs:List (List PV)},nT (aJG ps) F F'→fW s rs F ps=fW s rs F' ps
 | [],_,_=>rfl
 | (i,x)::ps,rs,h=>by
  simp only[fW]
  rw[bQ (x:=x) h.left]
  split
  ·rw[uW (ps:=ps) h.right]
  ·rfl
theorem xL {d:Int} {x:Option aP} (h:nT (sA x) F F'):bnd F d x=bnd F' d x:=by
 cases x with
 | none=>rfl
 | some x=>simp only[bnd,bQ (x:=x) h]
theorem a7N {op:POp} (h:nT op.bY F F'):aN op F H=aN op F' H:=by
 cases op
 case mv x=>simp only[aN,bQ (x:=x) h]
 case same x=>simp only[aN,bQ (x:=x) h]
 case pick c a b=>simp only[aN,bQ (x:=c) h.left,bQ (x:=a) h.right.left,bQ (x:=b) h.right.right]
 case bin x y=>simp only[aN,bQ (x:=x) h.left,bQ (x:=y) h.right]
 case eqb x y=>simp only[aN,bQ (x:=x) h.left,bQ (x:=y) h.right]
 case eqs x y=>simp only[aN,bQ (x:=x) h.left,bQ (x:=y) h.right]
 case un x=>simp only[aN,bQ (x:=x) h]
 case conv x=>simp only[aN,bQ (x:=x) h]
 case box r x=>cases r<;>simp only[aN,bQ (x:=x) h]
 case build ps=>simp only[aN,aaK (ps:=ps) h]
 case bGN r _ _ _ ps=>cases r<;>simp only[aN,uW (ps:=ps) h]
 case load n p=>cases n<;>simp only[aN,bQ (x:=p) h]
 case bGX x=>simp only[aN,bQ (x:=x) h]
 case bHU x=>simp only[aN,bQ (x:=x) h]
 case field x=>simp only[aN,bQ (x:=x) h]
 case bHD x i=>simp only[aN,bQ (x:=x) h.left,bQ (x:=i) h.right]
 case idxA x i=>simp only[aN,bQ (x:=x) h.left,bQ (x:=i) h.right]
 case idxV x i=>simp only[aN,bQ (x:=x) h.left,bQ (x:=i) h.right]
 case bHR x i=>simp only[aN,bQ (x:=x) h.left,bQ (x:=i) h.right]
 case slice s x lo hi mx =>
  have h1:x.ev F=x.ev F':=bQ h.left
  have h2:∀ d,bnd F d lo=bnd F' d lo:=fun d=>xL h.right.left
  have h3:∀ d,bnd F d hi=bnd F' d hi:=fun d=>xL h.right.right.left
  cases mx with
  | none=>simp only[aN,h1,h2,h3]
  | some m =>
   have h4:∀ d,bnd F d (some m)=bnd F' d (some m):=fun d=>xL (x:=some m) h.right.right.right
   simp only[aN,h1,h2,h3,h4]
 case sliceA n size x lo hi mx =>
  have h1:x.ev F=x.ev F':=bQ h.left
  cases lo<;>cases hi<;>cases mx<;>simp only[aN,h1]
 case bHL x lo hi =>
  have h1:x.ev F=x.ev F':=bQ h.left
  have h2:∀ d,bnd F d lo=bnd F' d lo:=fun d=>xL h.right.left
  have h3:∀ d,bnd F d hi=bnd F' d hi:=fun d=>xL h.right.right
  simp only[aN,h1,h2,h3]
 case len x=>simp only[aN,bQ (x:=x) h]
 case bHQ x=>simp only[aN,bQ (x:=x) h]
 case bIK x=>simp only[aN,bQ (x:=x) h]
 case extract x i=>simp only[aN,bQ (x:=x) h]
 case bHJ x y=>simp only[aN,bQ (x:=x) h.left,bQ (x:=y) h.right]
 case mkfn cs=>simp only[aN,ES (xs:=cs) h]
 case lookup sh z x k ok=>simp only[aN,bQ (x:=x) h.left,bQ (x:=k) h.right]
 case bGY x=>simp only[aN,bQ (x:=x) h]
 all_goals rfl
theorem a2P {op:POp} (h:nT op.bY F F'):cR op F=cR op F':=by
 cases op
 case box r x=>cases r<;>simp only[cR,bQ (x:=x) h]
 case bGN r _ _ _ ps=>cases r<;>simp only[cR,uW (ps:=ps) h]
 case bGS l c=>simp only[cR,bQ (x:=l) h.left,bQ (x:=c) h.right]
 all_goals rfl
theorem a9S {op:POp} {K:PV→PH→Prop} (h:nT op.bY F F'):bU op F H K=bU op F' H K:=by
 cases op
 case store n p x=>simp only[bU,bQ (x:=p) h.left,bQ (x:=x) h.right]
 case append s b x y=>simp only[bU,bQ (x:=x) h.left,bQ (x:=y) h.right]
 case bHG sh x k v=>simp only[bU,bQ (x:=x) h.left,bQ (x:=k) h.right.left,bQ (x:=v) h.right.right]
 case insert sh x k v=>simp only[bU,bQ (x:=x) h.left,bQ (x:=k) h.right.left,bQ (x:=v) h.right.right]
 all_goals rfl
theorem anJ {op:POp} (h:nT op.bY F F'):op.kind F=op.kind F':=by
 have hgen:(if op.fX then Kind.new (cR op F) else if op.dM then .write (fun H K=>bU op F H K) else .calm (aN op F)) =
   (if op.fX then Kind.new (cR op F') else if op.dM then .write (fun H K=>bU op F' H K) else .calm (aN op F')):=by
  rw[a2P h]
  have h1:(fun H K=>bU op F H K)=fun H K=>bU op F' H K:=by
   funext H K
   exact a9S h
  have h2:aN op F=aN op F':=by
   funext H
   exact a7N h
  rw[h1,h2]
 cases op
 case call n az=>simp only[POp.kind,ES (xs:=az) h]
 case bHT x az=>simp only[POp.kind,bQ (x:=x) h.left,ES (xs:=az) h.right]
 case insert sh x k v=>simp only[POp.kind,bQ (x:=x) h.left,bQ (x:=k) h.right.left,bQ (x:=v) h.right.right]
 all_goals exact hgen
def bB.bY (i:bB):List Nat :=
 match i.guard with
 | none=>i.op.bY
 | some (t,_)=>t::i.op.bY
theorem abJ {i:bB} (h:nT i.bY F F'):i.kind F=i.kind F':=by
 unfold bB.kind
 unfold bB.bY at h
 cases hg:i.guard with
 | none=>rw[hg] at h; exact anJ h
 | some p =>
  obtain⟨t,want⟩:=p
  rw[hg] at h
  simp only
  rw[h t (by simp),anJ (fun u hu=>h u (by simp[hu]))]
theorem bkY (p:PV):∃ q:Nat,∀ (H H':PH) n,H q=H' q→loadCells H p n=loadCells H' p n:=by
 cases p
 case ptr o s i c=>exact⟨o,fun H H' n h=>by simp only[loadCells,h]⟩
 all_goals exact⟨0,fun H H' n h=>rfl⟩
theorem boN (s:Nat) (p:PV):∃ q:Nat,∀ (H H':PH),H q=H' q→dT H s p=dT H' s p:=by
 cases p
 case osl o s' off len=>exact⟨o,fun H H' h=>by simp only[dT,h]⟩
 all_goals exact⟨0,fun H H' h=>rfl⟩
theorem beI (op:POp) (F:PF):∃ q:Nat,∀ (H H':PH),H q=H' q→aN op F H=aN op F H':=by
 cases op
 case load n p =>
  cases hp:p.ev F with
  | none=>exact⟨0,fun H H' _=>by cases n<;>simp only[aN,hp]⟩
  | some a =>
   obtain⟨q,hq⟩:=bkY a
   exact⟨q,fun H H' h=>by cases n<;>simp only[aN,hp,hq H H' _ h]⟩
 case lookup sh z x k ok =>
  cases hp:x.ev F with
  | none=>exact⟨0,fun H H' _=>by simp only[aN,hp]⟩
  | some a =>
   cases a
   case map o=>exact⟨o,fun H H' h=>by cases hk:k.ev F<;>simp only[aN,hp,hk,h]⟩
   all_goals exact⟨0,fun H H' _=>by simp only[aN,hp]⟩
 case bGY x =>
  cases hp:x.ev F with
  | none=>exact⟨0,fun H H' _=>by simp only[aN,hp]⟩
  | some a =>
   obtain⟨q,hq⟩:=boN 1 a
   exact⟨q,fun H H' h=>by simp only[aN,hp,hq H H' h]⟩
 case sliceA n s x lo hi mx=>cases lo<;>cases hi<;>cases mx<;>exact⟨0,fun H H' _=>rfl⟩
 case box r x=>cases r<;>exact⟨0,fun H H' _=>rfl⟩
 case bGN r _ _ _ _=>cases r<;>exact⟨0,fun H H' _=>rfl⟩
 all_goals exact⟨0,fun H H' _=>rfl⟩
theorem anX {p:PV} {n:Nat} {cs:List PV} (hle:H.le H') (h:loadCells H p n=some cs):loadCells H' p n=some cs:=by
 cases p
 case ptr o s i c =>
  simp only[loadCells] at h ⊢
  cases ho:H o with
  | none=>rw[ho] at h; cases h
  | some x=>rw[hle o x ho]; rw[ho] at h; exact h
 all_goals exact h
theorem bhL {s:Nat} {p:PV} {rs:List (List PV)} (hle:H.le H') (h:dT H s p=some rs):dT H' s p=some rs:=by
 cases p
 case osl o s' off len =>
  simp only[dT] at h ⊢
  cases ho:H o with
  | none=>rw[ho] at h; simp at h
  | some x=>rw[hle o x ho]; rw[ho] at h; exact h
 all_goals exact h
theorem adM {op:POp} {v:PV} (hle:H.le H') (h:aN op F H=some v):aN op F H'=some v:=by
 cases op
 case load n p =>
  cases hp:p.ev F with
  | none=>cases n<;>simp only[aN,hp] at h<;>cases h
  | some a =>
   cases n with
   | none =>
    simp only[aN,hp] at h ⊢
    cases hl:loadCells H a 1 with
    | none=>rw[hl] at h; cases h
    | some cs=>rw[anX hle hl]; rw[hl] at h; exact h
   | some n =>
    simp only[aN,hp] at h ⊢
    cases hl:loadCells H a n with
    | none=>rw[hl] at h; cases h
    | some cs=>rw[anX hle hl]; rw[hl] at h; exact h
 case lookup sh z x k ok =>
  simp only[aN] at h ⊢
  split at h
  ·rename_i o kv ho hk
   cases hh:H o with
   | none=>rw[hh] at h; cases h
   | some y=>rw[hle o y hh]; rw[hh] at h; exact h
  ·cases h
 case bGY x =>
  simp only[aN] at h ⊢
  split at h
  ·rename_i a ha
   cases hl:dT H 1 a with
   | none=>rw[hl] at h; cases h
   | some rs=>rw[bhL hle hl]; rw[hl] at h; exact h
  ·cases h
 case sliceA n s x lo hi mx=>cases lo<;>cases hi<;>cases mx<;>exact h
 case box r x=>cases r<;>exact h
 case bGN r _ _ _ _=>cases r<;>exact h
 all_goals exact h
end
theorem PH.amQ (H:PH) (l:List Nat):∃ o,H o=none∧o ∉ l:=by
 obtain⟨n,hn⟩:=H.fin
 refine⟨n+l.sum+1,hn _ Om,fun h=>?_⟩
 have:n+l.sum+1≤l.sum:=by
  have key:∀ (l:List Nat) (x:Nat),x∈l→x≤l.sum:=by
   intro l
   induction l with
   | nil=>intro x hx; cases hx
   | cons y ys ih =>
    intro x hx
    rcases bJB.1 hx with rfl | hx
    ·simp
    ·have:=ih x hx; simp; omega
  exact key l _ h
 omega
theorem PH.set_comm (H:PH) {o q:Nat} (x y:cE) (h:o≠q):(H.set o x).set q y=(H.set q y).set o x:=by
 refine PH.ext fun p=>?_
 simp only[cD]
 by_cases h1:p=q<;>by_cases h2:p=o<;>simp_all
theorem PH.MK {H:PH} {o:Nat} (x:cE) (h:H o=none):H.le (H.set o x):=by
 intro p y hp
 rw[cD]
 split
 ·rename_i e; subst e; rw[h] at hp; cases hp
 ·exact hp
theorem PH.aJB {H:PH} {o q:Nat} {x:cE}:(H.set o x) q=none↔q≠o∧H q=none:=by
 rw[cD]
 split<;>simp_all
theorem PH.le_trans {A B D:PH} (h:A.le B) (k:B.le D):A.le D:=fun o x ho=>k o x (h o x ho)
theorem PH.le_none {A B:PH} (h:A.le B) {o:Nat} (hb:B o=none):A o=none:=by
 cases ha:A o with
 | none=>rfl
 | some x=>have:=h o x ha; rw[hb] at this; cases this
theorem PH.bvR {A B:PH} (h:A.le B) {o:Nat} {x:cE} (ho:A o=none):A.le (B.set o x):=by
 intro p y hp
 rw[cD]
 split
 ·rename_i e; subst e; rw[ho] at hp; cases hp
 ·exact h p y hp
structure ayX (f:PH→Option PV):Prop where
 dep:∃ q:Nat,∀ (H H':PH),H q=H' q→f H=f H'
 mono:∀ (H H':PH) v,H.le H'→f H=some v→f H'=some v
structure bpQ (w:PH→(PV→PH→Prop)→Prop):Prop where
 mono:∀ H (K K':PV→PH→Prop),(∀ v H',K v H'→K' v H')→w H K→w H K'
 some:∀ H (K:PV→PH→Prop),w H K→∃ v H',K v H'
inductive Kind.Ok:Kind→Prop
 | fail:Kind.Ok .fail
 | calm {f:PH→Option PV} (h:ayX f):Kind.Ok (.calm f)
 | new (r:Option ((Nat→PV) × cE)):Kind.Ok (.new r)
 | write {w:PH→(PV→PH→Prop)→Prop} (h:bpQ w):Kind.Ok (.write w)
 | call (name:Nat) (args:Option (List PV)):Kind.Ok (.call name args)
 | ins (r:Option (Nat × MSh × List KS × PV)):Kind.Ok (.ins r)
section
variable {C:Ctx} {Hs:PH} {S:Spec} {H:PH}
theorem yW {op:POp} {F:PF} {K K':PV→PH→Prop} (h:∀ v H',K v H'→K' v H') (hw:bU op F H K):bU op F H K':=by
 cases op
 case store n p x =>
  simp only[bU] at hw ⊢
  split at hw
  ·obtain⟨h1,H',h2,h3⟩:=hw; exact⟨h1,H',h2,h _ _ h3⟩
  ·exact hw.elim
 case append s b x y =>
  simp only[bU] at hw ⊢
  split at hw
  ·rename_i a c ha hc
   obtain⟨src,h1,h2⟩:=hw
   refine⟨src,h1,?_⟩
   split at h2
   ·exact⟨h2.1,fun e=>h _ _ (h2.2.1 e),fun e o ho=>h _ _ (h2.2.2 e o ho)⟩
   ·obtain⟨g1,g2,g3,rs,g4,g5,g6,g7⟩:=h2
    exact⟨g1,g2,g3,rs,g4,g5,h _ _ g6,fun o ho=>h _ _ (g7 o ho)⟩
   ·exact h2.elim
  ·exact hw.elim
 case bHG sh x k v =>
  simp only[bU] at hw ⊢
  split at hw
  ·split at hw
   ·exact⟨hw.1,h _ _ hw.2⟩
   ·exact hw.elim
  ·exact hw.elim
 case insert sh x k v =>
  simp only[bU] at hw ⊢
  split at hw
  ·split at hw
   ·exact⟨hw.1,hw.2.1,h _ _ hw.2.2⟩
   ·exact hw.elim
  ·exact hw.elim
 all_goals exact hw.elim
theorem aON {op:POp} {F:PF} {K:PV→PH→Prop} (hw:bU op F H K):∃ v H',K v H':=by
 cases op
 case store n p x =>
  simp only[bU] at hw
  split at hw
  ·obtain⟨h1,H',h2,h3⟩:=hw; exact⟨_,_,h3⟩
  ·exact hw.elim
 case append s b x y =>
  simp only[bU] at hw
  split at hw
  ·rename_i a c ha hc
   obtain⟨src,h1,h2⟩:=hw
   split at h2
   ·by_cases e:src=[]
    ·exact⟨_,_,h2.2.1 e⟩
    ·obtain⟨o,ho⟩:=H.fresh
     exact⟨_,_,h2.2.2 e o ho⟩
   ·obtain⟨g1,g2,g3,rs,g4,g5,g6,g7⟩:=h2
    exact⟨_,_,g6⟩
   ·exact h2.elim
  ·exact hw.elim
 case bHG sh x k v =>
  simp only[bU] at hw
  split at hw
  ·split at hw
   ·exact⟨_,_,hw.2⟩
   ·exact hw.elim
  ·exact hw.elim
 case insert sh x k v =>
  simp only[bU] at hw
  split at hw
  ·split at hw
   ·exact⟨_,_,hw.2.2⟩
   ·exact hw.elim
  ·exact hw.elim
 all_goals exact hw.elim
theorem aHY (op:POp) (F:PF):(op.kind F).Ok:=by
 have hgen:(if op.fX then Kind.new (cR op F) else if op.dM then .write (fun H K=>bU op F H K) else .calm (aN op F)).Ok:=by
  split
  ·exact .new _
  ·split
   ·exact .write ⟨fun H K K' h hw=>yW h hw,fun H K hw=>aON hw⟩
   ·exact .calm ⟨beI op F,fun H H' v h hv=>adM h hv⟩
 cases op
 case call n az=>exact .call _ _
 case bHT x az =>
  simp only[POp.kind]
  split
  ·exact .call _ _
  ·exact .fail
 case insert sh x k v=>exact .ins _
 all_goals exact hgen
theorem qC (i:bB) (F:PF):(i.kind F).Ok:=by
 unfold bB.kind
 split
 ·exact aHY _ _
 ·split
  ·split
   ·exact aHY _ _
   ·exact .calm ⟨⟨0,fun _ _ _=>rfl⟩,fun _ _ _ _ h=>h⟩
  ·exact .calm ⟨⟨0,fun _ _ _=>rfl⟩,fun _ _ _ _ h=>h⟩
  ·exact .fail
theorem Kind.qG {k:Kind} (hk:k.Ok) {st:Bool} {K K':PV→PH→Prop} (h:∀ v H',Hs.le H'→K v H'→K' v H') (hle:Hs.le H) (hr:k.run C Hs S st K H):k.run C Hs S st K' H:=by
 cases hk with
 | fail=>exact hr
 | calm _=>obtain⟨v,h1,h2⟩:=hr; exact⟨v,h1,h _ _ hle h2⟩
 | new r=>obtain⟨mk,x,h1,h2⟩:=hr; exact⟨mk,x,h1,fun o ho=>h _ _ (PH.le_trans hle (PH.MK x ho)) (h2 o ho)⟩
 | write hw=>exact hw.mono _ _ _ (fun v H' hh=>⟨hh.1,h _ _ hh.1 hh.2⟩) hr
 | call name args =>
  obtain⟨vs,D,R,h1,h2,h3,h4,h5,h6⟩:=hr
  exact⟨vs,D,R,h1,h2,h3,h4,h5,fun r H' a b=>⟨(h6 r H' a b).1,h _ _ (h6 r H' a b).1 (h6 r H' a b).2⟩⟩
 | ins r =>
  obtain⟨o,sh,key,v,g,h1,h2,h3,h4,h5⟩:=hr
  exact⟨o,sh,key,v,g,h1,h2,h3,h4,h _ _ (PH.bvR hle h4) h5⟩
def Kind.cls:Kind→Nat
 | .fail | .calm _=>0
 | .new _=>1
 | .write _=>2
 | .call ..=>3
 | .ins _=>4
theorem HH {H:PH} {D:List Nat} {o:Nat} (x:cE) (h:o ∉ D):(H.set o x).only D=H.only D:=by
 refine PH.ext fun q=>?_
 simp only[PH.only,cD]
 split
 ·rename_i hq
  rw[if_neg (by rintro rfl; exact h hq)]
 ·rfl
theorem nG (H H0 H':PH) (o:Nat):(H.over H0 H') o=(match H' o with | some x=>some x | none=>match H0 o with | some _=>some .dead | none=>H o):=rfl
theorem qR (H:PH) (D:List Nat) (o:Nat):(H.only D) o=if o∈D then H o else none:=rfl
theorem aID {H H':PH} {D:List Nat} {o:Nat} (x:cE) (ho:o ∉ D) (h':H' o=none):(H.set o x).over (H.only D) H'=(H.over (H.only D) H').set o x:=by
 refine PH.ext fun q=>?_
 rw[nG,cD,cD,nG]
 by_cases e:q=o
 ·subst e
  simp only[h',qR,if_neg ho,if_true]
 ·simp only[if_neg e]
theorem apU {H H':PH} {D:List Nat} {o:Nat} (h:(H.over (H.only D) H') o=none):H o=none∧H' o=none:=by
 rw[nG] at h
 cases h1:H' o with
 | some x=>rw[h1] at h; cases h
 | none =>
  rw[h1] at h
  simp only at h
  cases h2:(H.only D) o with
  | some x=>rw[h2] at h; cases h
  | none=>rw[h2] at h; exact⟨h,rfl⟩
theorem axD {name:Nat} {args:Option (List PV)} {r:Option ((Nat→PV) × cE)} {K:PV→PV→PH→Prop} {si sj:Bool}
  (h:(Kind.call name args).run C Hs S si (fun v H'=>(Kind.new r).run C Hs S sj (fun u H''=>K v u H'') H') H) :
  (Kind.new r).run C Hs S sj (fun u H'=>(Kind.call name args).run C Hs S si (fun v H''=>K v u H'') H') H:=by
 obtain⟨vs,D,R,h1,h2,h3,h4,h5,h6⟩:=h
 obtain⟨r0,H0,h5a,h5b⟩:=h5 H
 obtain⟨-,mk,x,hr,-⟩:=h6 r0 H0 h5a h5b
 refine⟨mk,x,hr,fun o ho=>?_⟩
 have hoD:o ∉ D:=fun hD=>by obtain⟨y,hy⟩:=h3 o hD; rw[ho] at hy; cases hy
 refine⟨vs,D,R,h1,h2,fun q hq=>?_,?_,?_,?_⟩
 ·rw[cD]
  split
  ·exact⟨_,rfl⟩
  ·exact h3 q hq
 ·rw[HH x hoD]; exact h4
 ·rw[HH x hoD]; exact h5
 ·intro v H' hR hap
  rw[HH x hoD] at hR hap ⊢
  have h':H' o=none:=by
   cases e:H' o with
   | none=>rfl
   | some y =>
    have:=hap o y e (by rw[qR,if_neg hoD])
    rw[cD,if_pos rfl] at this; cases this
  have hap':mM H (H.only D) H':=fun q y hq h0=>by
   have:=hap q y hq h0
   rw[cD] at this
   split at this
   ·cases this
   ·exact this
  obtain⟨g1,mk',x',g2,g3⟩:=h6 v H' hR hap'
  rw[hr] at g2
  cases g2
  have hon:(H.over (H.only D) H') o=none:=by rw[nG,h',qR,if_neg hoD]; exact ho
  rw[aID x hoD h']
  exact⟨PH.le_trans g1 (PH.MK x hon),g3 o hon⟩
theorem axF {name:Nat} {args:Option (List PV)} {r:Option ((Nat→PV) × cE)} {K:PV→PV→PH→Prop} {si sj:Bool} (hle:Hs.le H)
  (h:(Kind.new r).run C Hs S si (fun v H'=>(Kind.call name args).run C Hs S sj (fun u H''=>K v u H'') H') H) :
  (Kind.call name args).run C Hs S sj (fun u H'=>(Kind.new r).run C Hs S si (fun v H''=>K v u H'') H') H:=by
 obtain⟨mk,x,hr,h⟩:=h
 obtain⟨o0,ho0⟩:=H.fresh
 obtain⟨vs,D,R,h1,h2,-⟩:=h o0 ho0
 obtain⟨o,ho,hoD⟩:=H.amQ D
 have all:∀ q,H q=none→q ∉ D→(∀ p∈D,∃ y,(H.set q x) p=some y)∧aH C name vs (H.only D) (R (H.only D))∧(∀ G:PH,∃ r H',R (H.only D) r H'∧mM G (H.only D) H') ∧
   ∀ r H',R (H.only D) r H'→mM (H.set q x) (H.only D) H'→Hs.le ((H.set q x).over (H.only D) H')∧K (mk q) r ((H.set q x).over (H.only D) H'):=by
  intro q hq hqD
  obtain⟨vs',D',R',g1,g2,g3,g4,g5,g6⟩:=h q hq
  rw[h1] at g1; cases g1
  rw[h2] at g2; cases g2
  rw[HH x hqD] at g4 g5 g6
  exact⟨g3,g4,g5,g6⟩
 obtain⟨a3,a4,a5,-⟩:=all o ho hoD
 have hD:∀ q∈D,∃ y,H q=some y:=fun q hq=>by
  obtain⟨y,hy⟩:=a3 q hq
  rw[cD,if_neg (by rintro rfl; exact hoD hq)] at hy
  exact⟨y,hy⟩
 have bII:∀ q,H q=none→q ∉ D:=fun q hq hD'=>by obtain⟨y,hy⟩:=hD q hD'; rw[hq] at hy; cases hy
 refine⟨vs,D,R,h1,h2,hD,a4,a5,fun u H' hR hap=>?_⟩
 have step:∀ q,(H.over (H.only D) H') q=none→Hs.le ((H.over (H.only D) H').set q x)∧K (mk q) u ((H.over (H.only D) H').set q x):=by
  intro q hq
  obtain⟨hq1,hq2⟩:=apU hq
  have hqD:=bII q hq1
  obtain⟨-,-,-,a6⟩:=all q hq1 hqD
  have:=a6 u H' hR fun p y hp h0=>by
   rw[cD]
   split
   ·rename_i e; subst e; rw[hq2] at hp; cases hp
   ·exact hap p y hp h0
  rw[aID x hqD hq2] at this
  exact this
 refine⟨?_,mk,x,hr,fun q hq=>(step q hq).2⟩
 obtain⟨q,hq⟩:=(H.over (H.only D) H').fresh
 have hq1:=(step q hq).1
 intro p y hp
 have:=hq1 p y hp
 rw[cD] at this
 split at this
 ·rename_i e
  subst e
  have:=PH.le_none hle (apU hq).1
  rw[hp] at this; cases this
 ·exact this
theorem aKT {r r':Option ((Nat→PV) × cE)} {K:PV→PV→PH→Prop} {si sj:Bool}
  (h:(Kind.new r).run C Hs S si (fun v H'=>(Kind.new r').run C Hs S sj (fun u H''=>K v u H'') H') H) :
  (Kind.new r').run C Hs S sj (fun u H'=>(Kind.new r).run C Hs S si (fun v H''=>K v u H'') H') H:=by
 obtain⟨mk,x,hr,h⟩:=h
 obtain⟨o0,ho0⟩:=H.fresh
 obtain⟨mk',x',hr',-⟩:=h o0 ho0
 refine⟨mk',x',hr',fun q hq=>⟨mk,x,hr,fun o ho=>?_⟩⟩
 rw[PH.aJB] at ho
 obtain⟨mk2,x2,hr2,g⟩:=h o ho.2
 rw[hr'] at hr2
 cases hr2
 have:=g q (PH.aJB.2 ⟨Ne.symm ho.1,hq⟩)
 rwa [PH.set_comm H x x' ho.1] at this
theorem axE {f:PH→Option PV} {k:Kind} {K:PV→PV→PH→Prop} {si sj:Bool} (hf:ayX f) (hk:k.Ok) (hst:k.cls=2∨k.cls=3∨k.cls=4→si=true) (hle:Hs.le H)
  (h:(Kind.calm f).run C Hs S si (fun v H'=>k.run C Hs S sj (fun u H''=>K v u H'') H') H) :
  k.run C Hs S sj (fun u H'=>(Kind.calm f).run C Hs S si (fun v H''=>K v u H'') H') H:=by
 obtain⟨v,hv,h⟩:=h
 cases hk with
 | fail=>exact h
 | @calm g hg=>obtain⟨u,hu,h⟩:=h; exact⟨u,hu,v,hv,h⟩
 | new r =>
  obtain⟨mk,x,hr,h⟩:=h
  refine⟨mk,x,hr,fun o ho=>⟨v,?_,h o ho⟩⟩
  cases si
  ·exact hf.mono _ _ _ (PH.MK x ho) hv
  ·exact hv
 | write hw =>
  have:si=true:=hst (.inl rfl)
  subst this
  exact Kind.qG (.write hw) (fun u H' _ hh=>⟨v,hv,hh⟩) hle h
 | call name args =>
  have:si=true:=hst (.inr (.inl rfl))
  subst this
  exact Kind.qG (.call name args) (fun u H' _ hh=>⟨v,hv,hh⟩) hle h
 | ins r =>
  have:si=true:=hst (.inr (.inr rfl))
  subst this
  exact Kind.qG (.ins r) (fun u H' _ hh=>⟨v,hv,hh⟩) hle h
theorem axC {f:PH→Option PV} {k:Kind} {K:PV→PV→PH→Prop} {si sj:Bool} (hf:ayX f) (hk:k.Ok) (hst:k.cls=2∨k.cls=3∨k.cls=4→sj=true) (hle:Hs.le H)
  (h:k.run C Hs S si (fun v H'=>(Kind.calm f).run C Hs S sj (fun u H''=>K v u H'') H') H) :
  (Kind.calm f).run C Hs S sj (fun u H'=>k.run C Hs S si (fun v H''=>K v u H'') H') H:=by
 cases hk with
 | fail=>exact h.elim
 | @calm g hg=>obtain⟨u,hu,v,hv,h⟩:=h; exact⟨v,hv,u,hu,h⟩
 | new r =>
  obtain⟨mk,x,hr,h⟩:=h
  cases sj with
  | true =>
   obtain⟨o0,ho0⟩:=H.fresh
   obtain⟨u,hu,-⟩:=h o0 ho0
   refine⟨u,hu,mk,x,hr,fun o ho=>?_⟩
   obtain⟨u',hu',hK⟩:=h o ho
   simp only[if_true] at hu hu'
   rw[hu] at hu'; cases hu'
   exact hK
  | false =>
   obtain⟨q,hq⟩:=hf.dep
   obtain⟨o0,ho0,hne⟩:=H.amQ [q]
   obtain⟨u,hu,-⟩:=h o0 ho0
   simp only[bLS,if_false] at hu
   have hu':f H=some u:=by
    rw[← hu]
    exact hq _ _ (by rw[cD,if_neg (by simpa using Ne.symm (fun e=>hne (by simp[e])))])
   refine⟨u,hu',mk,x,hr,fun o ho=>?_⟩
   obtain⟨u2,hu2,hK⟩:=h o ho
   simp only[bLS,if_false] at hu2
   rw[hf.mono _ _ _ (PH.MK x ho) hu'] at hu2
   cases hu2
   exact hK
 | @write w hw =>
  have:sj=true:=hst (.inl rfl)
  subst this
  obtain⟨_,_,_,u,hu,_⟩:=hw.some _ _ h
  refine⟨u,hu,hw.mono _ _ _ (fun v H' hh=>⟨hh.1,?_⟩) h⟩
  obtain⟨-,u',hu',hK⟩:=hh
  simp only[if_true] at hu hu'
  rw[hu] at hu'; cases hu'
  exact hK
 | call name args =>
  have:sj=true:=hst (.inr (.inl rfl))
  subst this
  obtain⟨vs,D,R,h1,h2,h3,h4,h5,h6⟩:=h
  obtain⟨r0,H0,h5a,h5b⟩:=h5 H
  obtain⟨-,u,hu,-⟩:=h6 r0 H0 h5a h5b
  refine⟨u,hu,vs,D,R,h1,h2,h3,h4,h5,fun r H' hR hap=>?_⟩
  obtain⟨g1,u',hu',hK⟩:=h6 r H' hR hap
  simp only[if_true] at hu hu'
  rw[hu] at hu'; cases hu'
  exact⟨g1,hK⟩
 | ins r =>
  have:sj=true:=hst (.inr (.inr rfl))
  subst this
  obtain⟨o,sh,key,v,g,h1,h2,h3,h4,u,hu,hK⟩:=h
  exact⟨u,hu,o,sh,key,v,g,h1,h2,h3,h4,hK⟩
theorem aKS {r r':Option (Nat × MSh × List KS × PV)} {K:PV→PV→PH→Prop} {si sj:Bool}
  (h:(Kind.ins r).run C Hs S si (fun v H'=>(Kind.ins r').run C Hs S sj (fun u H''=>K v u H'') H') H) :
  (Kind.ins r').run C Hs S sj (fun u H'=>(Kind.ins r).run C Hs S si (fun v H''=>K v u H'') H') H:=by
 obtain⟨o,sh,key,v,g,h1,h2,h3,h4,o',sh',key',v',g',k1,k2,k3,k4,hK⟩:=h
 by_cases e:o'=o
 ·subst e
  rw[cD,if_pos rfl] at k2
  cases k2
  have hne:key'≠key:=by
   rintro rfl
   simp[kW.upd] at k3
  have k3':g key'=none:=by simpa [kW.upd,hne] using k3
  refine⟨o',sh,key',v',g,k1,h2,k3',h4,o',sh,key,v,g.upd key' v',h1,by rw[cD,if_pos rfl],by simp[kW.upd,Ne.symm hne,h3],h4,?_⟩
  have:((H.set o' (.map sh (g.upd key' v'))).set o' (.map sh ((g.upd key' v').upd key v)))=((H.set o' (.map sh (g.upd key v))).set o' (.map sh ((g.upd key v).upd key' v'))):=by
   refine PH.ext fun q=>?_
   simp only[cD]
   split
   ·congr 2
    funext k
    simp only[kW.upd]
    by_cases h5:k=key<;>by_cases h6:k=key'<;>simp_all
   ·rfl
  rw[this]
  exact hK
 ·rw[cD,if_neg e] at k2
  refine⟨o',sh',key',v',g',k1,k2,k3,k4,o,sh,key,v,g,h1,by rw[cD,if_neg (Ne.symm e)]; exact h2,h3,h4,?_⟩
  rw[PH.set_comm H _ _ e]
  exact hK
def rS (a b:Nat) (sa sb:Bool):Bool :=
 match a,b with
 | 0,0 | 0,1 | 1,0 | 1,1 | 1,3 | 3,1 | 4,4=>true
 | 0,_=>sa
 | _,0=>sb
 | _,_=>false
theorem a8J {ki kj:Kind} {K:PV→PV→PH→Prop} {si sj:Bool} (hi:ki.Ok) (hj:kj.Ok) (hm:rS ki.cls kj.cls si sj=true) (hle:Hs.le H)
  (h:ki.run C Hs S si (fun v H'=>kj.run C Hs S sj (fun u H''=>K v u H'') H') H) :
  kj.run C Hs S sj (fun u H'=>ki.run C Hs S si (fun v H''=>K v u H'') H') H:=by
 by_cases hci:ki.cls=0
 ·cases hi with
  | fail=>exact h.elim
  | calm hf =>
   refine axE hf hj (fun hc=>?_) hle h
   rcases hc with hc | hc | hc<;>(rw[hc] at hm; simpa [rS,Kind.cls] using hm)
  | new | write | call | ins=>simp[Kind.cls] at hci
 ·by_cases hcj:kj.cls=0
  ·cases hj with
   | fail =>
    cases hi with
    | fail=>exact h
    | calm _=>simp[Kind.cls] at hci
    | new r =>
     obtain⟨mk,x,-,h⟩:=h
     obtain⟨o,ho⟩:=H.fresh
     exact h o ho
    | write hw=>obtain⟨_,_,_,hh⟩:=hw.some _ _ h; exact hh
    | call name args =>
     obtain⟨vs,D,R,h1,h2,h3,h4,h5,h6⟩:=h
     obtain⟨r0,H0,h5a,h5b⟩:=h5 H
     exact (h6 r0 H0 h5a h5b).2
    | ins r =>
     obtain⟨o,sh,key,v,g,h1,h2,h3,h4,h5⟩:=h
     exact h5
   | calm hf =>
    refine axC hf hi (fun hc=>?_) hle h
    rcases hc with hc | hc | hc<;>(rw[hc] at hm; simpa [rS,Kind.cls] using hm)
   | new | write | call | ins=>simp[Kind.cls] at hcj
  ·cases hi with
   | fail | calm=>simp[Kind.cls] at hci
   | new r =>
    cases hj with
    | fail | calm=>simp[Kind.cls] at hcj
    | new r'=>exact aKT h
    | write=>simp[Kind.cls,rS] at hm
    | call=>exact axF hle h
    | ins=>simp[Kind.cls,rS] at hm
   | write=>cases hj<;>simp[Kind.cls,rS] at hm hcj
   | call =>
    cases hj with
    | fail | calm=>simp[Kind.cls] at hcj
    | new r'=>exact axD h
    | write=>simp[Kind.cls,rS] at hm
    | call=>simp[Kind.cls,rS] at hm
    | ins=>simp[Kind.cls,rS] at hm
   | ins =>
    cases hj with
    | fail | calm=>simp[Kind.cls] at hcj
    | new r'=>simp[Kind.cls,rS] at hm
    | write=>simp[Kind.cls,rS] at hm
    | call=>simp[Kind.cls,rS] at hm
    | ins=>exact aKS h
end
open Go Go.RowKit
def bB.apart (x y:bB):Bool :=
 (match x.dst with
  | some d=>!(y.bY).contains d&&y.dst != some d
  | none=>true) &&
 (match y.dst with
  | some d=>!(x.bY).contains d
  | none=>true)
theorem aIK {F:PF} {l:List Nat} {d:Option Nat} (v:PV) (h:∀ t,d=some t→t ∉ l):nT l (F.put d v) F:=by
 intro t ht
 cases d with
 | none=>rfl
 | some d =>
  have:t≠d:=by rintro rfl; exact h t rfl ht
  simp only[PF.put,PF.set,upd,if_neg this]
theorem bmK {F:PF} {d e:Option Nat} (v u:PV) (h:∀ t,d=some t→e≠some t):(F.put d v).put e u=(F.put e u).put d v:=by
 cases d with
 | none=>rfl
 | some d =>
  cases e with
  | none=>rfl
  | some e =>
   have hne:d≠e:=by rintro rfl; exact h d rfl rfl
   exact boE F (some v) (some u) hne
theorem apart_spec {x y:bB} (h:x.apart y=true):(∀ d,x.dst=some d→d ∉ y.bY)∧(∀ d,x.dst=some d→y.dst≠some d)∧(∀ d,y.dst=some d→d ∉ x.bY):=by
 refine⟨fun d hd=>?_,fun d hd=>?_,fun d hd=>?_⟩<;>simp[bB.apart,hd] at h
 ·exact h.1.1
 ·exact h.1.2
 ·exact h.2
def POp.cls:POp→Nat
 | .call .. | .bHT ..=>3
 | .insert ..=>4
 | op=>if op.fX then 1 else if op.dM then 2 else 0
def bkZ (a b:Nat) (sa sb:Bool):Bool :=
 match a,b with
 | 0,0 | 0,1 | 1,0 | 1,1=>true
 | 4,4=>sa&&sb
 | 0,_=>sa
 | _,0=>sb
 | 1,3=>sa
 | 3,1=>sb
 | _,_=>false
def aaX (x y:bB × Bool):Bool:=x.1.apart y.1&&bkZ x.1.op.cls y.1.op.cls x.2 y.2
section
variable {C:Ctx} {Hs:PH} {S:Spec} {H:PH} {F:PF}
theorem apS (op:POp) (F:PF):(op.kind F).cls=op.cls∨(op.kind F).cls=0:=by
 have hgen:(if op.fX then Kind.new (cR op F) else if op.dM then .write (fun H K=>bU op F H K) else .calm (aN op F)).cls=(if op.fX then 1 else if op.dM then 2 else 0):=by
  split
  ·rfl
  ·split<;>rfl
 cases op
 case call n az=>exact .inl rfl
 case bHT x az =>
  simp only[POp.kind]
  split
  ·exact .inl rfl
  ·exact .inr rfl
 case insert sh x k v=>exact .inl rfl
 all_goals exact .inl hgen
theorem anH (i:bB) (F:PF):(i.kind F).cls=i.op.cls∨(i.kind F).cls=0:=by
 unfold bB.kind
 split
 ·exact apS _ _
 ·split
  ·split
   ·exact apS _ _
   ·exact .inr rfl
  ·exact .inr rfl
  ·exact .inr rfl
theorem bvW {a b a' b':Nat} {sa sb:Bool} (h:bkZ a b sa sb=true) (ha:a'=a∨a'=0) (hb:b'=b∨b'=0):rS a' b' sa sb=true:=by
 unfold bkZ at h
 split at h
 all_goals (rcases ha with rfl | rfl<;>rcases hb with rfl | rfl<;>simp_all [rS])
theorem Kind.bmU {k:Kind} (hk:k.Ok) {st:Bool} {K:PV→PH→Prop} (hr:k.run C Hs S st K H):∃ v H',K v H':=by
 cases hk with
 | fail=>exact hr.elim
 | calm _=>obtain⟨v,h1,h2⟩:=hr; exact⟨v,_,h2⟩
 | new r=>obtain⟨mk,x,h1,h2⟩:=hr; obtain⟨o,ho⟩:=H.fresh; exact⟨_,_,h2 o ho⟩
 | write hw=>obtain⟨v,H',h⟩:=hw.some _ _ hr; exact⟨v,H',h.2⟩
 | call name args =>
  obtain⟨vs,D,R,h1,h2,h3,h4,h5,h6⟩:=hr
  obtain⟨r,H',a,b⟩:=h5 H
  exact⟨_,_,(h6 r H' a b).2⟩
 | ins r =>
  obtain⟨o,sh,key,v,g,h1,h2,h3,h4,h5⟩:=hr
  exact⟨_,_,h5⟩
def rV (C:Ctx) (Hs:PH) (S:Spec) (i:bB × Bool) (K:PF→PH→Prop) (F:PF) (H:PH):Prop:=(i.1.kind F).run C Hs S i.2 (fun v H'=>K (F.put i.1.dst v) H') H
theorem uL {i:bB × Bool} {K K':PF→PH→Prop} (h:∀ F' H',Hs.le H'→K F' H'→K' F' H') (hle:Hs.le H) (hr:rV C Hs S i K F H):rV C Hs S i K' F H :=
 Kind.qG (qC _ _) (fun v H' a b=>h _ _ a b) hle hr
theorem beE {i j:bB × Bool} {K:PF→PH→Prop} (hf:aaX i j=true) (hle:Hs.le H) (h:rV C Hs S i (rV C Hs S j K) F H):rV C Hs S j (rV C Hs S i K) F H:=by
 simp only[aaX,bJK] at hf
 obtain⟨h1,h2,h3⟩:=apart_spec hf.1
 unfold rV at h ⊢
 have e1:∀ v,j.1.kind (F.put i.1.dst v)=j.1.kind F:=fun v=>abJ (aIK v h1)
 have e2:∀ v,i.1.kind (F.put j.1.dst v)=i.1.kind F:=fun v=>abJ (aIK v h3)
 simp only[e1] at h
 simp only[e2]
 have:=a8J (K:=fun v u H''=>K ((F.put i.1.dst v).put j.1.dst u) H'') (qC i.1 F) (qC j.1 F) (bvW hf.2 (anH _ _) (anH _ _)) hle h
 refine Kind.qG (qC j.1 F) (fun u H' a b=>?_) hle this
 refine Kind.qG (qC i.1 F) (fun v H'' _ c=>?_) a b
 rw[bmK v u h2] at c
 exact c
inductive tZ (ops:Array Oper):Nat→Nat→Prop
 | one {i j:Nat} {o:Oper} {e} (ho:ops[j]?=some o) (he:e∈o.after) (hb:Region.binds .any e=true) (hi:e.on=i):tZ ops i j
 | step {i m j:Nat} {o:Oper} {e} (h:tZ ops i m) (ho:ops[j]?=some o) (he:e∈o.after) (hb:Region.binds .any e=true) (hm:e.on=m):tZ ops i j
def nP (ops:Array Oper) (listed:Array Bool):Prop:=∀ j o,ops[j]?=some o→listed.getD j false=true→∀ e∈o.after,Region.binds .any e=true→listed.getD e.on false=true
theorem nP.boD {ops:Array Oper} {listed:Array Bool} (hc:nP ops listed) {i j:Nat} (h:tZ ops i j) (hj:listed.getD j false=true):listed.getD i false=true:=by
 induction h with
 | one ho he hb hi=>subst hi; exact hc _ _ ho hj _ he hb
 | step h ho he hb hm ih=>subst hm; exact ih (hc _ _ ho hj _ he hb)
theorem nP.apC {ops:Array Oper} {listed:Array Bool} (hc:nP ops listed) {i j:Nat} (h:tZ ops i j) (hi:listed.getD i false=false):j ∉ Region.ready .any ops listed:=by
 intro hj
 rw[mem_ready] at hj
 obtain⟨-,o,ho,bHZ⟩:=hj
 cases h with
 | one ho' he hb hi' =>
  rw[ho] at ho'; cases ho'
  subst hi'
  rw[bHZ _ he hb] at hi; cases hi
 | step h ho' he hb hm =>
  rw[ho] at ho'; cases ho'
  subst hm
  rw[hc.boD h (bHZ _ he hb)] at hi; cases hi
theorem nP.set {ops:Array Oper} {listed:Array Bool} (hc:nP ops listed) {i:Nat} (hi:i∈Region.ready .any ops listed):nP ops (listed.setIfInBounds i true):=by
 intro j o ho hj e he hb
 by_cases hji:j=i
 ·subst hji
  rw[mem_ready] at hi
  obtain⟨-,o',ho',bHZ⟩:=hi
  rw[ho] at ho'; cases ho'
  exact getD_set_true (bHZ e he hb)
 ·rw[getD_set_ne false (Ne.symm hji)] at hj
  exact getD_set_true (hc j o ho hj e he hb)
def xJ (C:Ctx) (Hs:PH) (S:Spec) (ops:Array Oper) (il:List (bB × Bool)) (K:PF→PH→Prop):Nat→Array Bool→PF→PH→Prop
 | 0,listed,F,H=>Region.ready .any ops listed=[]∧K F H
 | fuel+1,listed,F,H=>(Region.ready .any ops listed=[]→K F H) ∧
  ∀ i∈Region.ready .any ops listed,∀ p,il[i]?=some p→rV C Hs S p (xJ C Hs S ops il K fuel (listed.setIfInBounds i true)) F H
theorem a2Q {ops:Array Oper} {il:List (bB × Bool)} {K:PF→PH→Prop} {i:Nat} {p:bB × Bool} (hp:il[i]?=some p) :
  ∀ (fuel:Nat) (listed:Array Bool) (F:PF) (H:PH),Hs.le H→nP ops listed →
   (∀ j q,il[j]?=some q→j≠i→listed.getD j true=false→¬ tZ ops i j→aaX p q=true) →
   i∈Region.ready .any ops listed→rV C Hs S p (xJ C Hs S ops il K fuel (listed.setIfInBounds i true)) F H→xJ C Hs S ops il K (fuel+1) listed F H:=by
 intro fuel
 induction fuel with
 | zero =>
  intro listed F H hle hc hfree hr h
  refine⟨fun e=>(by rw[e] at hr; cases hr),fun j hj q hq=>?_⟩
  by_cases hji:j=i
  ·subst hji; rw[hp] at hq; cases hq; exact h
  ·obtain⟨v,H',hh⟩:=Kind.bmU (qC _ _) h
   have:=ready_mono hj hji
   rw[hh.1] at this; cases this
 | succ fuel ih =>
  intro listed F H hle hc hfree hr h
  refine⟨fun e=>(by rw[e] at hr; cases hr),fun j hj q hq=>?_⟩
  by_cases hji:j=i
  ·subst hji; rw[hp] at hq; cases hq; exact h
  ·have hi0:=(mem_ready.1 hr).1
   have hj0:=(mem_ready.1 hj).1
   have hi0':listed.getD i false=false:=by
    rcases bJG i listed.size with h' | h'
    ·simp[h'] at hi0 ⊢; exact hi0
    ·simp[Array.getElem?_eq_none h'] at hi0
   have hnb:¬ tZ ops i j:=fun hb=>hc.apC hb hi0' hj
   have h1:rV C Hs S p (rV C Hs S q (xJ C Hs S ops il K fuel ((listed.setIfInBounds i true).setIfInBounds j true))) F H :=
    uL (fun F' H' _ hh=>hh.2 j (ready_mono hj hji) q hq) hle h
   have h2:=beE (hfree j q hq hji hj0 hnb) hle h1
   refine uL (fun F' H' hle' hh=>?_) hle h2
   refine ih (listed.setIfInBounds j true) F' H' hle' (hc.set hj) (fun k r hk hki hun hno=>hfree k r hk hki ?_ hno) (ready_mono hr (Ne.symm hji)) ?_
   ·by_cases hjk:j=k
    ·subst hjk; exact hj0
    ·rw[getD_set_ne true hjk] at hun; exact hun
   ·rw[Array.setIfInBounds_comm _ _ hji]; exact hh
def rI (o:Oper):List Nat:=(o.after.toList.filter fun e=>Region.binds .any e).map (·.on)
def aFE (ms:List Nat) (ds:List Nat):Nat:=ds.foldl (fun s d=>s ||| (2 ^ d ||| ms.getD d 0)) 0
def vN:List Oper→List Nat→List Nat
 | [],acc=>acc
 | o::os,acc=>vN os (acc++[aFE acc (rI o)])
def jB (ms:List Nat):Nat→List Oper→Bool
 | _,[]=>true
 | k,o::os=>(rI o).all (·<k)&&ms.getD k 0==aFE ms (rI o)&&jB ms (k+1) os
def zL (ms:List Nat) (i:Nat) (p:bB × Bool):Nat→List (bB × Bool)→Bool
 | _,[]=>true
 | j,q::qs=>((ms.getD j 0).testBit i||aaX p q)&&zL ms i p (j+1) qs
def xD (ms:List Nat):Nat→List (bB × Bool)→Bool
 | _,[]=>true
 | i,p::ps=>zL ms i p (i+1) ps&&xD ms (i+1) ps
def baL (ops:Array Oper) (il:List (bB × Bool)):Bool :=
 let ms:=vN ops.toList []
 jB ms 0 ops.toList&&xD ms 0 il
theorem aFF {ms:List Nat} {i:Nat}:∀ {ds:List Nat} {s:Nat},(ds.foldl (fun s d=>s ||| (2 ^ d ||| ms.getD d 0)) s).testBit i=true→s.testBit i=true∨∃ d∈ds,d=i∨(ms.getD d 0).testBit i=true
 | [],s,h=>.inl h
 | d::ds,s,h=>by
  rw[List.foldl_cons] at h
  rcases aFF h with h | ⟨e,he,h⟩
  ·rw[Nat.testBit_or,Nat.testBit_or,Nat.testBit_two_pow] at h
   simp only[Bool.or_eq_true,decide_eq_true_eq] at h
   rcases h with h | h | h
   ·exact .inl h
   ·exact .inr ⟨d,by simp,.inl h⟩
   ·exact .inr ⟨d,by simp,.inr h⟩
  ·exact .inr ⟨e,by simp[he],h⟩
theorem rR {ms:List Nat}:∀ {l:List Oper} {k j:Nat} {o:Oper},jB ms k l=true→l[j]?=some o→(∀ d∈rI o,d<k+j)∧ms.getD (k+j) 0=aFE ms (rI o)
 | [],_,_,_,_,h=>by simp at h
 | o::os,k,j,o',h,ho=>by
  simp only[jB,bJK,bJL,decide_eq_true_eq,beq_iff_eq] at h
  cases j with
  | zero=>simp only[List.getElem?_cons_zero,bKT.injEq] at ho; subst ho; exact⟨h.1.1,h.1.2⟩
  | succ j =>
   have:=rR h.2 (by simpa using ho)
   rw[bKS,Nat.add_comm 1 j] at this
   exact this
theorem SN {ms:List Nat} {ops:Array Oper} (h:jB ms 0 ops.toList=true) (i:Nat):∀ (n j:Nat),j<n→j<ops.size→(ms.getD j 0).testBit i=true→tZ ops i j:=by
 intro n
 induction n with
 | zero=>intro j hj; omega
 | succ n ih =>
  intro j hj hlt hb
  have ho:ops.toList[j]?=some ops[j]:=by simp[hlt]
  have ho':ops[j]?=some ops[j]:=by simp[hlt]
  obtain⟨h1,h2⟩:=rR h ho
  rw[bJJ] at h1 h2
  rw[h2] at hb
  rcases aFF hb with hb | ⟨d,hd,hb⟩
  ·simp at hb
  ·have hdj:=h1 d hd
   simp only[rI,bJV,List.mem_filter] at hd
   obtain⟨e,⟨he,hbd⟩,rfl⟩:=hd
   rcases hb with rfl | hb
   ·exact .one ho' (by simpa using he) hbd rfl
   ·exact .step (ih e.on Om Om hb) ho' (by simpa using he) hbd rfl
theorem NT {ms:List Nat} {i:Nat} {p:bB × Bool}:∀ {l:List (bB × Bool)} {k j:Nat} {q:bB × Bool},zL ms i p k l=true→l[j]?=some q→(ms.getD (k+j) 0).testBit i=true∨aaX p q=true
 | [],_,_,_,_,h=>by simp at h
 | x::xs,k,j,q,h,hq=>by
  simp only[zL,bJK,Bool.or_eq_true] at h
  cases j with
  | zero=>simp only[List.getElem?_cons_zero,bKT.injEq] at hq; subst hq; exact h.1
  | succ j =>
   have:=NT h.2 (by simpa using hq)
   rw[bKS,Nat.add_comm 1 j] at this
   exact this
theorem EM {ops:Array Oper} {il:List (bB × Bool)} {K:PF→PH→Prop} {ms:List Nat} (hlen:il.length=ops.size) (hms:jB ms 0 ops.toList=true) :
  ∀ (l:List (bB × Bool)) (k:Nat) (listed:Array Bool) (F:PF) (H:PH),(∀ j,l[j]?=il[k+j]?)→k+l.length=ops.size→listed.size=ops.size→(∀ j,j<ops.size→(listed.getD j true=true↔j<k))→xD ms k l=true→Hs.le H →
   wpD C Hs S l K F H→xJ C Hs S ops il K l.length listed F H
 | [],k,listed,F,H,hl,hk,hls,hlk,_,hle,h=>by
  refine⟨?_,h⟩
  cases hr:Region.ready .any ops listed with
  | nil=>rfl
  | cons x xs =>
   have hx:x∈Region.ready .any ops listed:=by rw[hr]; simp
   obtain⟨h0,o,ho,-⟩:=mem_ready.1 hx
   have hlt:x<ops.size:=(bLU.1 ho).1
   have:=(hlk x hlt).2 (by simp at hk; omega)
   rw[h0] at this; cases this
 | p::l,k,listed,F,H,hl,hk,hls,hlk,hB,hle,h=>by
  have hp:il[k]?=some p:=by simpa using (hl 0).symm
  have hks:k<ops.size:=by simp at hk; omega
  simp only[xD,bJK] at hB
  have ho:ops[k]?=some ops[k]:=by simp[hks]
  have hgt:∀ j,j<ops.size→(listed.getD j false=listed.getD j true):=fun j hj=>by
   simp[show j<listed.size by omega]
  have hcl:∀ j,j<ops.size→∀ e∈ops[j]!.after,True:=fun _ _ _ _=>trivial
  have deps:∀ j o,ops[j]?=some o→∀ e∈o.after,Region.binds .any e=true→e.on<j:=by
   intro j o hj e he hb
   have hlt:j<ops.size:=(bLU.1 hj).1
   have:=(rR hms (j:=j) (o:=o) (by simpa using hj)).1 e.on (by
    simp only[rI,bJV,List.mem_filter]
    exact⟨e,⟨by simpa using he,hb⟩,rfl⟩)
   omega
  have hready:k∈Region.ready .any ops listed:=by
   rw[mem_ready]
   refine⟨?_,_,ho,fun e he hb=>?_⟩
   ·cases hh:listed.getD k true with
    | false=>rfl
    | true=>have:=(hlk k hks).1 hh; omega
   ·have hd:=deps k _ ho e he hb
    rw[hgt e.on Om]
    exact (hlk e.on Om).2 hd
  have hclosed:nP ops listed:=by
   intro j o hj hlj e he hb
   have hlt:j<ops.size:=(bLU.1 hj).1
   have hd:=deps j o hj e he hb
   rw[hgt j hlt] at hlj
   have:=(hlk j hlt).1 hlj
   rw[hgt e.on Om]
   exact (hlk e.on Om).2 Om
  refine a2Q hp l.length listed F H hle hclosed (fun j q hq hne hun hnb=>?_) hready ?_
  ·have hjs:j<ops.size:=by
    have:=(bKA.1 hq).1
    omega
   have hjk:k<j:=by
    rcases Nat.lt_trichotomy j k with h' | h' | h'
    ·have:=(hlk j hjs).2 h'
     rw[hun] at this; cases this
    ·exact (hne h').elim
    ·exact h'
   have hq':l[j-(k+1)]?=some q:=by
    have:=hl (j-k)
    rw[show k+(j-k)=j by omega,hq,show j-k=(j-(k+1))+1 by omega] at this
    simpa using this
   rcases NT hB.1 hq' with hb | hb
   ·rw[show k+1+(j-(k+1))=j by omega] at hb
    exact (hnb (SN hms k (j+1) j Om hjs hb)).elim
   ·exact hb
  ·have h':rV C Hs S p (wpD C Hs S l K) F H:=h
   refine uL (fun F' H' hle' hh=>?_) hle h'
   refine EM hlen hms l (k+1) _ F' H' (fun j=>?_) (by simp at hk; omega) (by simpa using hls) (fun j hj=>?_) hB.2 hle' hh
   ·have:=hl (j+1)
    rw[show k+(j+1)=k+1+j by omega] at this
    simpa using this
   ·by_cases hjk:k=j
    ·subst hjk
     simp[show k<listed.size by omega]
    ·rw[getD_set_ne true hjk,hlk j hj]
     omega
end
open Go Go.RowKit
def aAR (ms cls:List Nat) (i:Nat):Bool :=
 cls.getD i 0 != 0||(bIN cls.length).any fun j=>(cls.getD j 0==2||cls.getD j 0==3||cls.getD j 0==4)&&!(ms.getD j 0).testBit i&&!(ms.getD i 0).testBit j
def uT (ops:Array Oper) (is:List bB):List (bB × Bool) :=
 let ms:=vN ops.toList []
 let cls:=is.map fun i=>i.op.cls
 is.zip ((bIN is.length).map (aAR ms cls))
namespace Tbl
variable (T:Tbl)
def drawn (n:Nat) (ops:Array Oper):Option (List (bB × Bool)) :=
 match T.pL n ops ops.toList with
 | some is=>if T.P.follows .mixedOrders&&baL ops (uT ops is) then some (uT ops is) else none
 | none=>none
end Tbl
section
variable {C:Ctx} {Hs:PH} {S:Spec} {T:Tbl} {n:Nat}
section
variable {E:Env} {F:PF} {H:PH} {a:Act} {w:World}
theorem mO.after {E':Env} {H':PH} {w':World} {K:PF→PH→Prop} {next:Act→World→Prop} (h:mO n E H w K next) (hE:Ext E H w E' H' w'):mO n E' H' w' K next :=
 fun E2 F2 H2 a2 w2 hA hW hX hK=>h E2 F2 H2 a2 w2 hA hW (hE.trans hX) hK
theorem LG {t:Nat} {b:Bool} (hA:dN n E F a) (h:F t=some (.bool b)):a.tmps[t]?=some (.bool b):=by
 have r:=hA.t t _ h
 rw[Array.getD_eq_getD_getElem?] at r
 cases hg:a.tmps[t]? with
 | none=>rw[hg] at r; simp[undef] at r; cases r
 | some v=>rw[hg] at r; simp at r; cases r; rfl
theorem FS {ops:Array Oper} {o:Oper} {i:bB} (h:T.RC n ops o=some i):(T.op o=some i.op∨i.op=.stuck)∧o.dst=i.dst∧o.dst.all (·<n)=true ∧
  ((o.guard=none∧i.guard=none)∨∃ j want t,o.guard=some (j,want)∧i.guard=some (t,want)∧(ops[j]?).bind (·.dst)=some t):=by
 unfold Tbl.RC at h
 have hp:T.op o=some ((T.op o).getD .stuck)∨(T.op o).getD .stuck=.stuck:=by
  cases T.op o
  ·exact .inr rfl
  ·exact .inl rfl
 ·generalize (T.op o).getD .stuck=p at *
  split at h
  ·rename_i hd
   split at h
   ·rename_i hg
    cases h
    exact⟨hp,rfl,hd,.inl ⟨hg,rfl⟩⟩
   ·rename_i j want hg
    split at h
    ·rename_i t ht
     cases h
     exact⟨hp,rfl,hd,.inr ⟨j,want,t,hg,rfl,ht⟩⟩
    ·cases h
  ·cases h
theorem DA {ops:Array Oper} {o:Oper} {j t:Nat} {want b:Bool} (hg:o.guard=some (j,want)) (ht:(ops[j]?).bind (·.dst)=some t) (hb:a.tmps[t]?=some (.bool b)):Region.wanted o (yielded ops a.tmps)=(b==want):=by
 simp[Region.wanted,hg,yielded,ht,hb]
end
theorem tC {E:Env}:aW E (.tup []) undef:=.tup #[] rfl (by simp)
theorem OH {n:Nat} {E:Env} {F:PF} {a:Act} {t:Nat} (hA:dN n E F a) (h:F t=some (.tup [])):a.tmps.getD t undef=undef:=by
 have:=hA.t t _ h
 generalize a.tmps.getD t undef=v at this
 cases this with
 | tup vs hl hr =>
  have:vs=#[]:=by simpa using hl
  subst this; rfl
theorem yI {ops:Array Oper} {a:Act} {o:Oper} {j t:Nat} {want:Bool} (hg:o.guard=some (j,want)) (ht:(ops[j]?).bind (·.dst)=some t) (hb:a.tmps.getD t undef=undef):Region.wanted o (yielded ops a.tmps)=false:=by
 simp only[Region.wanted,hg,yielded,ht]
 rw[Array.getD_eq_getD_getElem?] at hb
 cases h:a.tmps[t]? with
 | none=>simp[h]
 | some v =>
  rw[h] at hb
  simp only[bKK] at hb
  subst hb
  simp[h,undef]
theorem qS {C:Ctx} {E:Env} {F:PF} {H:PH} {a:Act} {w:World} (hCP:C.P=T.P) (hCN:C.num=T.num) {o:Oper} {p:POp} {d:Option Nat} {K:PF→PH→Prop} {Q:Exit→Act→World→Prop} {next:Act→World→Prop} (hc:T.op o=some p∨p=.stuck) (hd:o.dst=d) (hlt:o.dst.all (·<n)=true)
  (h:wpOp C p d K F H) (hA:dN n E F a) (hW:bR E H w) (hN:E.num=T.num) (bHK:mO n E H w K next):o.wp T.P a w next Q:=by
 rcases hc with hc | rfl
 ·exact bmH hCP hCN hc hd hlt h hA hW hN bHK
 ·obtain⟨v,hv,-⟩:=h
  cases hv
theorem alK (H:PH) (D:List Nat):(H.only D).le H:=by
 intro o x ho
 rw[qR] at ho
 split at ho
 ·exact ho
 ·cases ho
theorem HQ {op:POp} {F:PF} {H:PH} {st:Bool} {d:Option Nat} {K:PF→PH→Prop} (hle:Hs.le H) (h:(op.kind F).run C Hs S st (fun v H'=>K (F.put d v) H') H):wpOp C op d K F H:=by
 have hgen:(if op.fX then Kind.new (cR op F) else if op.dM then .write (fun H K=>bU op F H K) else .calm (aN op F)).run C Hs S st (fun v H'=>K (F.put d v) H') H →
   (if op.fX then lZ (cR op F) d K F H else if op.dM then bU op F H (fun r H'=>K (F.put d r) H') else bS (aN op F H) d K F H):=by
  intro h
  by_cases h1:op.fX=true
  ·rw[if_pos h1] at h ⊢; exact h
  ·rw[if_neg h1] at h ⊢
   by_cases h2:op.dM=true
   ·rw[if_pos h2] at h ⊢
    have h':bU op F H fun r H'=>Hs.le H'∧K (F.put d r) H':=h
    exact yW (fun v H' hh=>hh.2) h'
   ·rw[if_neg h2] at h ⊢
    obtain⟨v,hv,hK⟩:=h
    refine⟨v,?_,hK⟩
    cases st
    ·exact hv
    ·exact adM hle hv
 have bHP:∀ name vs0,(Kind.call name vs0).run C Hs S st (fun v H'=>K (F.put d v) H') H→rA C name vs0 d K F H:=by
  intro name vs0 h
  obtain⟨vs,D,R,h1,h2,h3,h4,h5,h6⟩:=h
  exact⟨vs,H.only D,R (H.only D),h1,alK H D,h4,fun r H' a b=>(h6 r H' a b).2⟩
 cases op
 case call name az=>exact .inl (by simpa using bHP _ _ h)
 case bHT x az =>
  simp only[POp.kind] at h
  split at h
  ·rename_i name cs hx
   exact⟨name,cs,hx,.inl (bHP _ _ h)⟩
  ·exact h.elim
 case insert sh x k v =>
  obtain⟨o,sh',key,vv,g,h1,h2,h3,-,h5⟩:=h
  show bU (.insert sh x k v) F H (fun r H'=>K (F.put d r) H')
  split at h1
  ·rename_i o' kv vv' e1 e2 e3
   simp only[bIW,Prod.mk.injEq] at h1
   obtain⟨key',e4,rfl,rfl,rfl,rfl⟩:=h1
   simp only[bU,e1,e2,e3,h2,e4]
   exact⟨trivial,h3,h5⟩
  ·cases h1
 all_goals exact hgen h
theorem amI (hCP:C.P=T.P) (hCN:C.num=T.num) {ops:Array Oper} {is:List bB} {fl:List Bool} (hfl:fl.length=is.length) (his:∀ (i:Nat) o,ops[i]?=some o→∃ p,is[i]?=some p∧T.RC n ops o=some p)
  {K:PF→PH→Prop} {Q:Exit→Act→World→Prop} :
  ∀ (fuel:Nat) (listed:Array Bool) (E:Env) (F:PF) (H:PH) (a:Act) (w:World),xJ C Hs S ops (is.zip fl) K fuel listed F H→Hs.le H→dN n E F a→bR E H w→E.num=T.num→mO n E H w K (Q .normal) →
   wpAny T.P .any ops Q fuel listed a w:=by
 intro fuel
 induction fuel with
 | zero=>intro listed E F H a w h hle hA hW hN hT; exact⟨h.1,hT E F H a w hA hW (.refl E H w) h.2⟩
 | succ fuel ih =>
  intro listed E F H a w h hle hA hW hN hT
  refine⟨fun e=>hT E F H a w hA hW (.refl E H w) (h.1 e),fun i hi=>?_⟩
  obtain⟨-,o,ho,-⟩:=mem_ready.1 hi
  obtain⟨p,hp,hin⟩:=his i o ho
  have hlt:i<is.length:=(bKA.1 hp).1
  have hz:(is.zip fl)[i]?=some (p,fl[i]'Om):=by
   rw[List.getElem?_zip_eq_some]
   exact⟨hp,by simp⟩
  have bIA:=h.2 i hi _ hz
  obtain⟨hop,hd,hdn,hg⟩:=FS hin
  have hTk:mO n E H w (fun F' H'=>Hs.le H'∧xJ C Hs S ops (is.zip fl) K fuel (listed.setIfInBounds i true) F' H') (wpAny T.P .any ops Q fuel (listed.setIfInBounds i true)) :=
   fun E' F' H' a' w' hA' hW' hE hK=>ih _ E' F' H' a' w' hK.2 hK.1 hA' hW' (hE.env.num.trans hN) (hT.after hE)
  have bHS:=uL (K':=fun F' H'=>Hs.le H'∧xJ C Hs S ops (is.zip fl) K fuel (listed.setIfInBounds i true) F' H') (fun F' H' x y=>⟨x,y⟩) hle bIA
  unfold rV bB.kind at bHS
  unfold Go.wpOp
  simp only[ho]
  rcases hg with ⟨hg1,hg2⟩ | ⟨j,want,t,hg1,hg2,ht⟩
  ·rw[if_pos (by simp[Region.wanted,hg1])]
   simp only[hg2] at bHS
   exact .inl (qS hCP hCN hop hd hdn (HQ hle bHS) hA hW hN hTk)
  ·simp only[hg2] at bHS
   split at bHS
   ·rename_i b hb
    rw[DA hg1 ht (LG hA hb)]
    split at bHS
    ·rename_i hbw
     rw[if_pos (by simp[hbw])]
     exact .inl (qS hCP hCN hop hd hdn (HQ hle bHS) hA hW hN hTk)
    ·rename_i hbw
     rw[if_neg (by simpa using hbw)]
     obtain⟨v,hv,hK⟩:=bHS
     cases hv
     exact hTk E _ H _ w (by rw[← hd]; exact hA.put hdn tC) hW (.refl E H w) hK
   ·rename_i hb
    rw[yI hg1 ht (OH hA hb),if_neg (by simp)]
    obtain⟨v,hv,hK⟩:=bHS
    cases hv
    exact hTk E _ H _ w (by rw[← hd]; exact hA.put hdn tC) hW (.refl E H w) hK
   ·exact bHS.elim
theorem MI {ops:Array Oper}:∀ {l:List Oper} {is:List bB},T.pL n ops l=some is→is.length=l.length∧∀ (i:Nat) o,l[i]?=some o→∃ p,is[i]?=some p∧T.RC n ops o=some p
 | [],is,h=>by
  simp[Tbl.pL] at h; subst h
  exact⟨rfl,fun i o h=>by simp at h⟩
 | o::l,is,h=>by
  simp only[Tbl.pL] at h
  split at h
  ·rename_i p ps hp hps
   cases h
   obtain⟨h1,h2⟩:=MI hps
   refine⟨by simp[h1],fun i o' ho'=>?_⟩
   cases i with
   | zero=>simp at ho'; subst ho'; exact⟨p,rfl,hp⟩
   | succ i=>obtain⟨q,a,b⟩:=h2 i o' (by simpa using ho'); exact⟨q,by simpa using a,b⟩
  ·cases h
theorem a3E (hCP:C.P=T.P) (hCN:C.num=T.num) {id:Nat} {ops:Array Oper} {il:List (bB × Bool)} (hil:T.drawn n ops=some il) {K:PF→PH→Prop} {Q:Exit→Act→World→Prop} {E:Env} {F:PF} {H:PH} {a:Act} {w:World}
  (h:∃ Hs S,PH.le Hs H∧wpD C Hs S il K F H) (hA:dN n E F a) (hW:bR E H w) (hN:E.num=T.num) (hT:mO n E H w K (Q .normal)):(Code.region id ops true).wp T.P Q a w:=by
 obtain⟨Hs,S,hle,h⟩:=h
 unfold Tbl.drawn at hil
 split at hil
 ·rename_i is his
  split at hil
  ·rename_i bHV
   cases hil
   simp only[bJK,baL] at bHV
   obtain⟨hm,hms,hps⟩:=bHV
   obtain⟨hlen,hat⟩:=MI his
   have hlen':is.length=ops.size:=by simpa using hlen
   refine wp_region_any hm ?_
   have hzl:(uT ops is).length=ops.size:=by simp[uT,hlen']
   have h':=EM (C:=C) (Hs:=Hs) (S:=S) (K:=K) hzl hms (uT ops is) 0 (bKC ops.size false) F H (by simp) (by simp[hzl]) (by simp) (fun j hj=>by simp[hj]) hps hle h
   rw[hzl] at h'
   exact amI hCP hCN (by simp) (fun i o ho=>hat i o (by simpa using ho)) ops.size _ E F H a _ h' hle hA hW.drew hN (fun E' F' H' a' w' g1 g2 g3 g4=>hT E' F' H' a' w' g1 g2 g3.alJ g4)
  ·cases hil
 ·cases hil
end
end Go.PM
namespace Go.PM
open Go Go.RowKit
def POp.bvO:POp→Bool
 | .load .. | .lookup .. | .bGY ..=>true
 | _=>false
def POp.brO:POp→Bool
 | .store ..=>true
 | _=>false
def afE (ms:List Nat) (m n:Nat):Bool:=(bIN n).all fun j=>decide (j<m)||(bIN m).all fun i=>(ms.getD j 0).testBit i
def cutAt (ms:List Nat) (is:List bB):Option Nat :=
 let cls:=is.map fun i=>i.op.cls
 (bIN is.length).find? fun m=>(match is[m]? with | some i=>i.op.brO&&i.guard.isNone | none=>false)&&afE ms m is.length&&(bIN m).any fun i=>match is[i]? with | some x=>x.op.bvO&&aAR ms cls i | none=>false
def kJ (ms:List Nat) (k:Nat) (is:List bB):List (bB × Bool) :=
 let cls:=is.map fun i=>i.op.cls
 is.zip ((bIN is.length).map (aAR (ms.drop k |>.map (· >>> k)) cls))
namespace Tbl
variable (T:Tbl)
def aAB (n:Nat) (ops:Array Oper):Option aB :=
 match T.pL n ops ops.toList with
 | some is =>
  let ms:=vN ops.toList []
  match cutAt ms is with
  | none=>(T.drawn n ops).map .draw
  | some m =>
   let A:=kJ ms 0 (is.take m)
   let B:=kJ ms m (is.drop m)
   if T.P.follows .mixedOrders&&jB ms 0 ops.toList&&afE ms m is.length&&xD ms 0 A&&xD ms m B then some (.seq (.draw A) (.draw B)) else none
 | none=>none
def code (n:Nat):Code→Option aB
 | .skip=>some .skip
 | .region _ ops d=>if d then T.aAB n ops else (T.pL n ops ops.toList).map .region
 | .seq a b=>match code n a,code n b with
  | some a,some b=>some (.seq a b)
  | _,_=>none
 | .cond c a b=>match T.opd c,code n a,code n b with
  | some c,some a,some b=>some (.cond c a b)
  | _,_,_=>none
 | .block id c=>(code n c).map (.block id)
 | .loop c=>(code n c).map .loop
 | .exit id=>some (.exit id)
 | .ret=>some .ret
 | _=>none
end Tbl
theorem MO {ms:List Nat}:∀ {l:List Oper} {k m:Nat},jB ms k l=true→jB ms k (l.take m)=true
 | [],_,_,_=>by simp[jB]
 | o::l,k,0,_=>by simp[jB]
 | o::l,k,m+1,h=>by
  simp only[jB,bJK,List.take_succ_cons] at h ⊢
  exact⟨h.1,MO h.2⟩
theorem tO {listed:Array Bool} {m f i:Nat} {d:Bool} (hs:listed.size=m) (h:i<m):(listed++bKC f false).getD i d=listed.getD i d:=by
 simp only[Array.getD_eq_getD_getElem?]
 rw[Array.getElem?_append_left Om]
section
variable {C:Ctx} {Hs:PH} {S:Spec} {T:Tbl} {n:Nat}
theorem bsW {ops:Array Oper} {m i:Nat} (hm:m≤ops.size):(ops.extract 0 m)[i]?=if i<m then ops[i]? else none:=by
 rw[Array.getElem?_extract]
 split
 ·rename_i h; rw[if_pos Om]; simp
 ·rename_i h; rw[if_neg Om]
theorem a7Q {ops:Array Oper} {ms:List Nat} {m:Nat} (hm:m≤ops.size) (hms:jB ms 0 ops.toList=true) (ht:afE ms m ops.size=true) {listed:Array Bool} {f:Nat} (hs:listed.size=m) (hf:m+f=ops.size) (hc:nP ops (listed++bKC f false))
  (hun:∃ i,i<m∧listed.getD i true=false) {i:Nat} (hi:i∈Region.ready .any ops (listed++bKC f false)):i<m∧i∈Region.ready .any (ops.extract 0 m) listed:=by
 obtain⟨h0,o,ho,bHZ⟩:=mem_ready.1 hi
 have hio:i<ops.size:=(bLU.1 ho).1
 have him:i<m:=by
  rcases bJG i m with h | h
  ·exact h
  ·exfalso
   obtain⟨u,hu,hul⟩:=hun
   have hb:(ms.getD i 0).testBit u=true:=by
    have:=bJL.1 ht i (bKR.2 hio)
    rw[decide_eq_false Om,Bool.false_or] at this
    exact bJL.1 this u (bKR.2 hu)
   have hbef:=SN hms u (i+1) i Om hio hb
   refine hc.apC hbef ?_ hi
   rw[tO hs hu]
   have:u<listed.size:=by omega
   simp[this] at hul ⊢
   exact hul
 refine⟨him,mem_ready.2 ⟨?_,o,by rw[bsW hm,if_pos him]; exact ho,fun e he hb=>?_⟩⟩
 ·rw[tO hs him] at h0; exact h0
 ·have hd:=(rR hms (j:=i) (o:=o) (by simpa using ho)).1 e.on (by
   simp only[rI,bJV,List.mem_filter]
   exact⟨e,⟨by simpa using he,hb⟩,rfl⟩)
  have:=bHZ e he hb
  rw[tO hs Om] at this
  exact this
theorem aRY {ops:Array Oper} {ms:List Nat} (hms:jB ms 0 ops.toList=true) {listed:Array Bool} (hs:listed.size=ops.size):∀ (u:Nat),u<ops.size→listed.getD u true=false→∃ i,i∈Region.ready .any ops listed:=by
 intro u
 induction u using Nat.strongRecOn with
 | ind u ih =>
  intro hu hl
  by_cases h:∃ w,w<u∧listed.getD w true=false
  ·obtain⟨w,hw,hwl⟩:=h
   exact ih w hw Om hwl
  ·refine⟨u,mem_ready.2 ⟨hl,ops[u],by simp[hu],fun e he hb=>?_⟩⟩
   have hd:=(rR hms (j:=u) (o:=ops[u]) (by simp[hu])).1 e.on (by
    simp only[rI,bJV,List.mem_filter]
    exact⟨e,⟨by simpa using he,hb⟩,rfl⟩)
   have hlt:e.on<u:=by omega
   cases hh:listed.getD e.on true with
   | false=>exact (h ⟨e.on,hlt,hh⟩).elim
   | true =>
    have:e.on<listed.size:=by omega
    simp[this] at hh ⊢
    exact hh
def unl (listed:Array Bool):Nat:=listed.toList.countP fun b=>!b
theorem boC {listed:Array Bool} {m:Nat} (hs:listed.size=m) (h:unl listed=0):listed=bKC m true:=by
 apply Array.ext
 ·simp[hs]
 ·intro i h1 h2
  have:listed[i]∈listed.toList:=by simp
  have h3:=List.countP_eq_zero.1 h _ this
  simpa using h3
theorem buB {listed:Array Bool} {i:Nat} (h:listed.getD i true=false):unl (listed.setIfInBounds i true)+1=unl listed:=by
 have hi:i<listed.size:=by
  rcases bJG i listed.size with h' | h'
  ·exact h'
  ·simp[Array.getElem?_eq_none h'] at h
 have hv:listed[i]=false:=by simpa [hi] using h
 unfold unl
 rw[Array.toList_setIfInBounds]
 have hi':i<listed.toList.length:=by simpa using hi
 have hv':listed.toList[i]=false:=by simpa using hv
 conv=>rhs; rw[← bLB i listed.toList,bKE hi',hv']
 rw[List.set_eq_take_append_cons_drop,if_pos hi',List.countP_append,List.countP_append,List.countP_cons,List.countP_cons]
 simp only[bIO,bIY,if_true,bLS,if_false]
 omega
theorem buA {listed:Array Bool} {k:Nat} (h:unl listed=k+1):∃ u,u<listed.size∧listed.getD u true=false:=by
 have h1:0<listed.toList.countP fun b=>!b:=by unfold unl at h; omega
 obtain⟨b,hb,hf⟩:=List.countP_pos_iff.1 h1
 obtain⟨u,hu,rfl⟩:=bLL hb
 have hu':u<listed.size:=by simpa using hu
 exact⟨u,hu',by simpa [hu'] using hf⟩
theorem aRX (hCP:C.P=T.P) (hCN:C.num=T.num) {ops:Array Oper} {ms:List Nat} {m f:Nat} {A:List (bB × Bool)} (hm:m≤ops.size) (hf:m+f=ops.size) (hms:jB ms 0 ops.toList=true) (ht:afE ms m ops.size=true)
  (his:∀ (i:Nat) o,i<m→ops[i]?=some o→∃ p b,A[i]?=some (p,b)∧T.RC n ops o=some p) {KA:PF→PH→Prop} {Q:Exit→Act→World→Prop} :
  ∀ (fuel:Nat) (listed:Array Bool) (E:Env) (F:PF) (H:PH) (a:Act) (w:World),xJ C Hs S (ops.extract 0 m) A KA fuel listed F H→listed.size=m→nP ops (listed++bKC f false)→unl listed=fuel→Hs.le H→dN n E F a→bR E H w→E.num=T.num →
   mO n E H w KA (wpAny T.P .any ops Q f (bKC m true++bKC f false))→wpAny T.P .any ops Q (fuel+f) (listed++bKC f false) a w:=by
 intro fuel
 induction fuel with
 | zero =>
  intro listed E F H a w h hs hc hu hle hA hW hN hT
  rw[boC hs hu,bJJ]
  exact hT E F H a w hA hW (.refl E H w) h.2
 | succ fuel ih =>
  intro listed E F H a w h hs hc hu hle hA hW hN hT
  obtain⟨u,hu1,hu2⟩:=buA hu
  have hun:∃ i,i<m∧listed.getD i true=false:=⟨u,by omega,hu2⟩
  rw[show fuel+1+f=(fuel+f)+1 by omega]
  refine⟨fun e=>?_,fun i hi=>?_⟩
  ·obtain⟨i,hi⟩:=aRY hms (listed:=listed++bKC f false) (by simp; omega) u Om (by rw[tO hs Om]; exact hu2)
   rw[e] at hi; cases hi
  obtain⟨him,hi'⟩:=a7Q hm hms ht hs hf hc hun hi
  obtain⟨-,o,ho,-⟩:=mem_ready.1 hi
  have hl0:=(mem_ready.1 hi').1
  obtain⟨p,b,hz,hin⟩:=his i o him ho
  have bIA:=h.2 i hi' _ hz
  obtain⟨hop,hd,hdn,hg⟩:=FS hin
  have bIF:(listed++bKC f false).setIfInBounds i true=listed.setIfInBounds i true++bKC f false:=by
   apply Array.ext
   ·simp
   ·intro j h1 h2
    rw[Array.getElem_setIfInBounds (by simpa using h1)]
    by_cases hji:i=j
    ·subst hji
     rw[if_pos rfl,Array.getElem_append_left (by simp; omega),Array.getElem_setIfInBounds Om,if_pos rfl]
    ·rw[if_neg hji]
     rcases bJG j listed.size with hj | hj
     ·rw[Array.getElem_append_left hj,Array.getElem_append_left (by simpa using hj),Array.getElem_setIfInBounds Om,if_neg hji]
     ·rw[Array.getElem_append_right hj,Array.getElem_append_right (by simpa using hj)]
      simp
  have hcs:=hc.set hi
  rw[bIF] at hcs ⊢
  have hus:=buB hl0
  have hTk:mO n E H w (fun F' H'=>Hs.le H'∧xJ C Hs S (ops.extract 0 m) A KA fuel (listed.setIfInBounds i true) F' H') (wpAny T.P .any ops Q (fuel+f) (listed.setIfInBounds i true++bKC f false)) :=
   fun E' F' H' a' w' hA' hW' hE hK=>ih _ E' F' H' a' w' hK.2 (by simpa using hs) hcs Om hK.1 hA' hW' (hE.env.num.trans hN) (hT.after hE)
  have bHS:=uL (K':=fun F' H'=>Hs.le H'∧xJ C Hs S (ops.extract 0 m) A KA fuel (listed.setIfInBounds i true) F' H') (fun F' H' x y=>⟨x,y⟩) hle bIA
  unfold rV bB.kind at bHS
  unfold Go.wpOp
  simp only[ho]
  rcases hg with ⟨hg1,hg2⟩ | ⟨j,want,t,hg1,hg2,ht⟩
  ·rw[if_pos (by simp[Region.wanted,hg1])]
   simp only[hg2] at bHS
   exact .inl (qS hCP hCN hop hd hdn (HQ hle bHS) hA hW hN hTk)
  ·simp only[hg2] at bHS
   split at bHS
   ·rename_i b hb
    rw[DA hg1 ht (LG hA hb)]
    split at bHS
    ·rename_i hbw
     rw[if_pos (by simp[hbw])]
     exact .inl (qS hCP hCN hop hd hdn (HQ hle bHS) hA hW hN hTk)
    ·rename_i hbw
     rw[if_neg (by simpa using hbw)]
     obtain⟨v,hv,hK⟩:=bHS
     cases hv
     exact hTk E _ H _ w (by rw[← hd]; exact hA.put hdn tC) hW (.refl E H w) hK
   ·rename_i hb
    rw[yI hg1 ht (OH hA hb),if_neg (by simp)]
    obtain⟨v,hv,hK⟩:=bHS
    cases hv
    exact hTk E _ H _ w (by rw[← hd]; exact hA.put hdn tC) hW (.refl E H w) hK
   ·exact bHS.elim
theorem aPG (hCP:C.P=T.P) (hCN:C.num=T.num) {id:Nat} {ops:Array Oper} {pc:aB} (hpc:T.aAB n ops=some pc) {K:bX} {Q:Exit→Act→World→Prop} {E:Env} {F:PF} {H:PH} {a:Act} {w:World}
  (h:pc.wp C K F H) (hA:dN n E F a) (hW:bR E H w) (hN:E.num=T.num) (hT:mO n E H w (K .normal) (Q .normal)):(Code.region id ops true).wp T.P Q a w:=by
 unfold Tbl.aAB at hpc
 split at hpc
 ·rename_i is his
  simp only at hpc
  split at hpc
  ·rw[bIW] at hpc
   obtain⟨il,hil,rfl⟩:=hpc
   exact a3E hCP hCN hil h hA hW hN hT
  ·rename_i m hcut
   split at hpc
   ·rename_i bHV
    cases hpc
    simp only[bJK] at bHV
    obtain⟨⟨⟨⟨hmo,hms⟩,htl⟩,hpA⟩,hpB⟩:=bHV
    obtain⟨hlen,hat⟩:=MI his
    have hlen':is.length=ops.size:=by simpa using hlen
    rw[hlen'] at htl
    obtain⟨Hs,S,hle,h⟩:=h
    have hmlt:m<ops.size:=by
     have:=List.mem_of_find?_eq_some hcut
     rw[bKR] at this; omega
    have lA:(kJ (vN ops.toList []) 0 (is.take m)).length=m:=by simp[kJ]; omega
    have lB:(kJ (vN ops.toList []) m (is.drop m)).length=ops.size-m:=by simp[kJ]; omega
    generalize hAA:kJ (vN ops.toList []) 0 (is.take m)=A at *
    generalize hBB:kJ (vN ops.toList []) m (is.drop m)=B at *
    generalize hmm:vN ops.toList []=ms at *
    refine wp_region_any hmo ?_
    have hsz:(ops.extract 0 m).size=m:=by simp; omega
    have hms':jB ms 0 (ops.extract 0 m).toList=true:=by
     rw[show (ops.extract 0 m).toList=ops.toList.take m by simp]
     exact MO hms
    have h1:=EM (C:=C) (Hs:=Hs) (S:=S) (K:=hC C ((aB.draw B).wp C) K .normal) (ops:=ops.extract 0 m) (il:=A) (ms:=ms) (by rw[lA,hsz]) hms' A 0 (bKC m false) F H (by simp) (by rw[hsz]; omega) (by simp; omega) (fun j hj=>by
     rw[hsz] at hj; simp[hj]) hpA hle h
    rw[lA] at h1
    have key:=aRX (n:=n) hCP hCN (f:=ops.size-m) Om Om hms htl (fun i o him ho=>?_) (Q:=Q) m (bKC m false) E F H a _ h1 (by simp) ?_ ?_ hle hA hW.drew hN ?_
    ·rw[show m+(ops.size-m)=ops.size by omega] at key
     have e:bKC m false++bKC (ops.size-m) false=bKC ops.size false:=by
      rw[Array.replicate_append_replicate,show m+(ops.size-m)=ops.size by omega]
     rw[e] at key
     exact key
    ·obtain⟨p,hp,hin⟩:=hat i o (by simpa using ho)
     have hpl:=(bKA.1 hp).1
     have hiA:i<A.length:=by omega
     refine⟨p,A[i].2,?_,hin⟩
     rw[bIZ hiA]
     congr 1
     refine Prod.ext ?_ rfl
     subst hAA
     have hpi:is[i]=p:=(bKA.1 hp).2
     simp[kJ,hpi]
    ·intro j o hj hl
     exfalso
     have hjs:j<ops.size:=(bLU.1 hj).1
     have e:bKC m false++bKC (ops.size-m) false=bKC ops.size false:=by
      rw[Array.replicate_append_replicate,show m+(ops.size-m)=ops.size by omega]
     rw[e] at hl
     simp[hjs] at hl
    ·unfold unl
     simp[List.countP_replicate]
    ·intro E' F' H' a' w' hA' hW' hE hK
     obtain⟨Hs2,S2,hle2,h2⟩:=hK
     have hz:(A++B).length=ops.size:=by rw[bIQ]; omega
     have h3:=EM (C:=C) (Hs:=Hs2) (S:=S2) (K:=K .normal) (ops:=ops) (il:=A++B) (ms:=ms) hz hms B m (bKC m true++bKC (ops.size-m) false) F' H' (fun j=>by rw[bLJ Om]; congr 1; omega) Om (by simp; omega) (fun j hj=>by
      simp only[Array.getD_eq_getD_getElem?,Array.getElem?_append,Array.size_replicate,Array.getElem?_replicate]
      by_cases hjm:j<m
      ·simp[hjm]
      ·simp[hjm,show j-m<ops.size-m by omega]) hpB hle2 h2
     rw[lB] at h3
     have hABz:A++B=is.zip ((A++B).map (·.2)):=by
      refine List.ext_getElem? fun j=>?_
      rcases bJG j ops.size with hj | hj
      ·have hjAB:j<(A++B).length:=by omega
       have hji:j<is.length:=by omega
       rw[bIZ hjAB,bIZ (by simp; omega),List.getElem_zip,bKI]
       congr 1
       refine Prod.ext ?_ rfl
       simp only
       rcases bJG j m with hjm | hjm
       ·rw[List.getElem_append_left Om]
        subst hAA
        simp[kJ]
       ·rw[List.getElem_append_right Om]
        subst hBB
        have:m+(j-A.length)=j:=by omega
        simp[kJ,this]
      ·rw[bJY Om,bJY (by simp; omega)]
     rw[hABz] at h3
     exact amI hCP hCN (by simp; omega) (fun i o ho=>hat i o (by simpa using ho)) (ops.size-m) _ E' F' H' a' w' h3 hle2 hA' hW' (hE.env.num.trans hN) (fun E3 F3 H3 a3 w3 g1 g2 g3 g4=>hT E3 F3 H3 a3 w3 g1 g2 (hE.trans g3).alJ g4)
   ·cases hpc
 ·cases hpc
end
end Go.PM
namespace Go.PM
open Go Go.RowKit
def lP.out:lP→Exit
 | .normal=>.normal
 | .exit id=>.exit id
 | .ret=>.ret
section
variable {T:Tbl} {n:Nat} {E:Env} {F:PF} {H:PH} {a:Act} {w:World}
theorem apT {C:Ctx} (hCP:C.P=T.P) (hCN:C.num=T.num) {ops:Array Oper} {K:PF→PH→Prop} {Q:Exit→Act→World→Prop}:∀ (l:List Oper) (il:List bB) (E:Env) (F:PF) (H:PH) (a:Act) (w:World),
  T.pL n ops l=some il→wpOps C il K F H→dN n E F a→bR E H w→E.num=T.num→mO n E H w K (Q .normal)→wpList T.P ops Q l a w
 | [],il,E,F,H,a,w,h1,h2,hA,hW,_,hT=>by
  simp[Tbl.pL] at h1
  subst h1
  exact hT E F H a w hA hW (.refl E H w) h2
 | o::l,il,E,F,H,a,w,h1,h2,hA,hW,hN,hT=>by
  simp only[Tbl.pL] at h1
  split at h1
  ·rename_i i is hi his
   cases h1
   obtain⟨hop,hd,hlt,hg⟩:=FS hi
   have bHK:∀ (E':Env) (F':PF) (H':PH) (a':Act) (w':World),E'.num=T.num→dN n E' F' a'→bR E' H' w'→Ext E H w E' H' w'→wpOps C is K F' H'→wpList T.P ops Q l a' w' :=
    fun E' F' H' a' w' hN' hA' hW' hE hK=>apT hCP hCN l is E' F' H' a' w' his hK hA' hW' hN' (hT.after hE)
   have hTk:mO n E H w (wpOps C is K) (wpList T.P ops Q l):=fun E' F' H' a' w' hA' hW' hE hK=>bHK E' F' H' a' w' (hE.env.num.trans hN) hA' hW' hE hK
   unfold wpList
   simp only[wpOps] at h2
   rcases hg with ⟨hg1,hg2⟩ | ⟨j,want,t,hg1,hg2,ht⟩
   ·rw[hg2] at h2
    rw[if_pos (by simp[Region.wanted,hg1])]
    exact .inl (qS hCP hCN hop hd hlt h2 hA hW hN hTk)
   ·rw[hg2] at h2
    simp only at h2
    split at h2
    ·rename_i b hb
     rw[DA hg1 ht (LG hA hb)]
     split at h2
     ·rename_i hbw
      rw[if_pos (by simp[hbw])]
      exact .inl (qS hCP hCN hop hd hlt h2 hA hW hN hTk)
     ·rename_i hbw
      rw[if_neg (by simpa using hbw)]
      exact bHK E _ H _ w hN (by rw[← hd]; exact hA.put hlt tC) hW (.refl E H w) h2
    ·rename_i hb
     rw[yI hg1 ht (OH hA hb),if_neg (by simp)]
     exact bHK E _ H _ w hN (by rw[← hd]; exact hA.put hlt tC) hW (.refl E H w) h2
    ·exact h2.elim
  ·cases h1
def ZW (n:Nat) (E:Env) (H:PH) (w:World) (K:bX) (Q:Exit→Act→World→Prop):Prop :=
 ∀ e E' F' H' a' w',dN n E' F' a'→bR E' H' w'→Ext E H w E' H' w'→K e F' H'→Q e.out a' w'
theorem ZW.after {E':Env} {H':PH} {w':World} {K:bX} {Q:Exit→Act→World→Prop} (h:ZW n E H w K Q) (hE:Ext E H w E' H' w'):ZW n E' H' w' K Q :=
 fun e E2 F2 H2 a2 w2 hA hW hX hK=>h e E2 F2 H2 a2 w2 hA hW (hE.trans hX) hK
theorem a3C {C:Ctx} (hCP:C.P=T.P) (hCN:C.num=T.num):∀ (c:Code) (pc:aB) (K:bX) (Q:Exit→Act→World→Prop) (E:Env) (F:PF) (H:PH) (a:Act) (w:World),
  T.code n c=some pc→pc.wp C K F H→dN n E F a→bR E H w→E.num=T.num→ZW n E H w K Q→c.wp T.P Q a w:=by
 intro c
 induction c with
 | skip =>
  intro pc K Q E F H a w hc hK hA hW hN hT
  simp[Tbl.code] at hc; subst hc
  exact wp_skip (hT .normal E F H a w hA hW (.refl E H w) hK)
 | region id ops d =>
  intro pc K Q E F H a w hc hK hA hW hN hT
  simp only[Tbl.code] at hc
  split at hc
  ·rename_i hd
   subst hd
   exact aPG hCP hCN hc hK hA hW hN fun E' F' H' a' w' h1 h2 h3 h4=>hT .normal E' F' H' a' w' h1 h2 h3 h4
  ·rename_i hd
   simp only[bIW] at hc
   obtain⟨il,hil,rfl⟩:=hc
   have:d=false:=by simpa using hd
   subst this
   exact wp_region_list (apT hCP hCN ops.toList il E F H a w hil hK hA hW hN fun E' F' H' a' w' h1 h2 h3 h4=>hT .normal E' F' H' a' w' h1 h2 h3 h4)
 | seq x y ihx ihy =>
  intro pc K Q E F H a w hc hK hA hW hN hT
  simp only[Tbl.code] at hc
  split at hc
  ·rename_i px py hx hy
   cases hc
   refine wp_seq (ihx px (hC C (py.wp C) K) _ E F H a w hx hK hA hW hN fun e E' F' H' a' w' h1 h2 h3 h4=>?_)
   cases e with
   | normal=>exact ihy py K Q E' F' H' a' w' hy h4 h1 h2 (h3.env.num.trans hN) (hT.after h3)
   | exit id=>exact hT (.exit id) E' F' H' a' w' h1 h2 h3 h4
   | ret=>exact hT .ret E' F' H' a' w' h1 h2 h3 h4
  ·cases hc
 | cond c x y ihx ihy =>
  intro pc K Q E F H a w hc hK hA hW hN hT
  simp only[Tbl.code] at hc
  split at hc
  ·rename_i pcnd px py hcnd hx hy
   cases hc
   simp only[aB.wp] at hK
   split at hK
   ·rename_i t hev
    have r:=bG hcnd hev hA hN
    have hb:a.eval c=.bool t:=by
     generalize a.eval c=v at r
     cases r
     rfl
    refine wp_cond hb ?_
    cases t with
    | true=>exact ihx px K Q E F H a w hx (by simpa using hK) hA hW hN hT
    | false=>exact ihy py K Q E F H a w hy (by simpa using hK) hA hW hN hT
   ·exact hK.elim
  ·cases hc
 | block id c ih =>
  intro pc K Q E F H a w hc hK hA hW hN hT
  simp only[Tbl.code,bIW] at hc
  obtain⟨px,hx,rfl⟩:=hc
  refine wp_block (ih px (dJ id K) _ E F H a w hx hK hA hW hN fun e E' F' H' a' w' h1 h2 h3 h4=>?_)
  cases e with
  | normal=>exact hT .normal E' F' H' a' w' h1 h2 h3 h4
  | exit id' =>
   simp only[dJ] at h4
   simp only[lP.out,Exit.inBlock]
   split at h4
   ·rename_i e
    rw[if_pos e]
    exact hT .normal E' F' H' a' w' h1 h2 h3 h4
   ·rename_i e
    rw[if_neg e]
    exact hT (.exit id') E' F' H' a' w' h1 h2 h3 h4
  | ret=>exact hT .ret E' F' H' a' w' h1 h2 h3 h4
 | loop c ih =>
  intro pc K Q E F H a w hc hK hA hW hN hT
  simp only[Tbl.code,bIW] at hc
  obtain⟨px,hx,rfl⟩:=hc
  obtain⟨α,Fs,Hs,Pr,m,a0,F1,H1,hfz,hp0,hF0,hH0,hround⟩:=hK
  obtain⟨E1,hA1,hW1,hE1⟩:=hA.frz hW hfz
  refine wp_loop_ghost (fun k a' w'=>∃ (E':Env) (s:α),Pr s∧m s=k∧dN n E' (Fs s) a'∧bR E' (Hs s) w'∧Ext E H w E' (Hs s) w') (m a0) ⟨E1,a0,hp0,rfl,hA1.weaken hF0,hW1.weaken hH0,hE1.drop hH0⟩ ?_
  rintro k a' w' ⟨E',s,hp,rfl,hA',hW',hE'⟩
  refine ih px (dQ Fs Hs Pr m (m s) K) _ E' (Fs s) (Hs s) a' w' hx (hround s hp) hA' hW' (hE'.env.num.trans hN) fun e E2 F2 H2 a2 w2 h1 h2 h3 h4=>?_
  cases e with
  | normal =>
   obtain⟨s',F3,H3,hfz',hp',hlt,hF',hH'⟩:=h4
   obtain⟨E3,hA3,hW3,hE3⟩:=h1.frz h2 hfz'
   exact⟨m s',hlt,E3,s',hp',rfl,hA3.weaken hF',hW3.weaken hH',((hE'.trans h3).trans hE3).drop hH'⟩
  | exit id=>exact hT (.exit id) E2 F2 H2 a2 w2 h1 h2 (hE'.trans h3) h4
  | ret=>exact hT .ret E2 F2 H2 a2 w2 h1 h2 (hE'.trans h3) h4
 | exit id =>
  intro pc K Q E F H a w hc hK hA hW hN hT
  simp[Tbl.code] at hc; subst hc
  exact wp_exit (hT (.exit id) E F H a w hA hW (.refl E H w) hK)
 | ret =>
  intro pc K Q E F H a w hc hK hA hW hN hT
  simp[Tbl.code] at hc; subst hc
  exact wp_ret (hT .ret E F H a w hA hW (.refl E H w) hK)
 | rangeFunc=>intro pc K Q E F H a w hc; simp[Tbl.code] at hc
 | scope=>intro pc K Q E F H a w hc; simp[Tbl.code] at hc
 | label=>intro pc K Q E F H a w hc; simp[Tbl.code] at hc
 | goto=>intro pc K Q E F H a w hc; simp[Tbl.code] at hc
 | refuse=>intro pc K Q E F H a w hc; simp[Tbl.code] at hc
end
open Go Go.RowKit
namespace Tbl
variable (T:Tbl)
def res:ResultVar→Option dW
 | .tmp t=>some (.tmp t)
 | .cell t ty=>match T.isAgg ty,T.size ty with
  | some true,some k=>some (.cell t (some k))
  | some false,_=>some (.cell t none)
  | _,_=>none
def aIS:List ResultVar→Option (List dW)
 | []=>some []
 | r::rs=>match T.res r,aIS rs with
  | some p,some ps=>some (p::ps)
  | _,_=>none
def func (fn:Func):Option aS :=
 match fn.body with
 | some c=>match T.code fn.ntmps c,T.aIS fn.results.toList with
  | some b,some rs=>some ⟨fn.params.size,fn.ntmps,b,rs⟩
  | _,_=>none
 | none=>none
end Tbl
section
variable {T:Tbl} {n:Nat} {E:Env} {F:PF} {H:PH} {a:Act} {w:World}
def NW (tmps:Array Value):ResultVar→Sem Value
 | .tmp t=>pure (tmps.getD t undef)
 | .cell a t=>do loadVar t (← asAddr (tmps.getD a undef))
theorem beR {r:ResultVar} {p:dW} {pv:PV} (hr:T.res r=some p) (hv:p.ev F H=some pv) (hA:dN n E F a) (hW:bR E H w):∃ v,(NW a.tmps r).run T.P w=.ok v w∧aW E pv v:=by
 cases r with
 | tmp t =>
  simp[Tbl.res] at hr
  subst hr
  exact⟨_,rfl,hA.t t pv hv⟩
 | cell t ty =>
  simp only[Tbl.res] at hr
  split at hr
  ·rename_i k hg hs
   cases hr
   simp only[dW.ev] at hv
   split at hv
   ·rename_i q hq
    rw[bIW] at hv
    obtain⟨cs,hcs,rfl⟩:=hv
    obtain⟨b,off,hb,-⟩:=nN hW (hA.t t q hq) hcs
    obtain⟨u,h1,h2⟩:=SM (T:=T) hg hs hW (hA.t t q hq) hcs
    refine⟨u,?_,h2⟩
    rw[hb] at h1
    simpa [NW,hb,asAddr,Instr.loadAt,Instr.sureAddr] using h1
   ·cases hv
  ·rename_i hg
   cases hr
   simp only[dW.ev] at hv
   split at hv
   ·rename_i q hq
    split at hv
    ·rename_i v' hcs
     cases hv
     obtain⟨b,off,hb,-⟩:=nN hW (hA.t t q hq) hcs
     obtain⟨u,h1,h2⟩:=abR (T:=T) hg hW (hA.t t q hq) hcs
     refine⟨u,?_,h2⟩
     rw[hb] at h1
     simpa [NW,hb,asAddr,Instr.loadAt,Instr.sureAddr] using h1
    ·cases hv
   ·cases hv
  ·cases hr
theorem adR (hA:dN n E F a) (hW:bR E H w):∀ (rs:List ResultVar) (ps:List dW) (pvs:List PV),T.aIS rs=some ps→dW.evs F H ps=some pvs →
  ∃ vs,(rs.mapM (NW a.tmps)).run T.P w=.ok vs w∧eP E pvs vs
 | [],ps,pvs,h1,h2=>by
  simp[Tbl.aIS] at h1; subst h1
  simp[dW.evs] at h2; subst h2
  exact⟨[],by simp,.nil⟩
 | r::rs,ps,pvs,h1,h2=>by
  simp only[Tbl.aIS] at h1
  split at h1
  ·rename_i p ps' hp hps
   cases h1
   simp only[dW.evs] at h2
   split at h2
   ·rename_i v vs hv hvs
    cases h2
    obtain⟨u,g1,g2⟩:=beR hp hv hA hW
    obtain⟨us,k1,k2⟩:=adR hA hW rs ps' vs hps hvs
    exact⟨u::us,by simp[List.mapM_cons,g1,k1],.cons g2 k2⟩
   ·cases h2
  ·cases h1
theorem a7M {pvs:List PV} {vs:List Value} (h:eP E pvs vs):aW E (bH pvs) (if h:vs.toArray.size=1 then vs.toArray[0] else .tuple vs.toArray):=by
 cases h with
 | nil=>exact .tup #[] rfl (by simp)
 | cons h t =>
  cases t with
  | nil=>exact h
  | cons h2 t2 =>
   rename_i p v q u ps us
   have bHZ:eP E (p::q::ps) (v::u::us):=.cons h (.cons h2 t2)
   rw[dif_neg (by simp)]
   exact .tup _ (by simpa using bHZ.len) (fun j pv w hp hw=>bHZ.at_ j pv w hp (by simpa using hw))
theorem a7S (fn:Func) (tmps:Array Value):results fn tmps=(do
  let vs ← fn.results.mapM (NW tmps)
  pure (if h:vs.size=1 then vs[0] else .tuple vs)):=by
 unfold results
 congr 1
theorem baO {C:Ctx} (hCP:C.P=T.P) (hCN:C.num=T.num) {name:Nat} {args:List PV} {R:PV→PH→Prop} {fn:Func} {pf:aS} (hf:C.P.funcs[C.num name]?=some fn) (hnm:(fn.name=="runtime.NumGoroutine")=false)
  (hpf:T.func fn=some pf) (hlen:args.length≤pf.ntmps) (h:pf.body.wp C (aR pf.res R) (PF.args args) H):aH C name args H R:=by
 unfold Tbl.func at hpf
 split at hpf
 ·rename_i c hb
  split at hpf
  ·rename_i b rs hcode hress
   cases hpf
   refine⟨⟨fn,hf,by simp[hb],hnm⟩,fun E w vs hN hW hvs=>?_⟩
   have hvl:vs.size=args.length:=by simpa using hvs.len
   refine calls_of_wp hf hb ?_
   rw[hCP]
   have hA:dN fn.ntmps E (PF.args args) { tmps:=vs++bKC (fn.ntmps-vs.size) undef,defers:=[] }:=by
    refine⟨by simp only at hlen; simp; omega,rfl,fun i pv hi=>?_⟩
    have hil:i<vs.size:=by
     rw[hvl]
     rcases bJG i args.length with h' | h'
     ·exact h'
     ·simp[PF.args,bJY h'] at hi
    simp only[Array.getD_eq_getD_getElem?]
    rw[Array.getElem?_append_left hil,bLR hil]
    exact hvs.at_ i pv _ hi (by simp[hil])
   refine a3C hCP hCN c b (aR rs R) _ E (PF.args args) H _ w hcode h hA hW (hN.trans hCN) fun e E' F' H' a' w' hA' hW' hE hK=>?_
   have key:aR rs R .ret F' H'→bodyPost T.P fn (fun e w'=>∃ v pv E' H',e=.returned v∧bR E' H' w'∧aW E' pv v∧Ext E H w E' H' w'∧R pv H') .ret a' w':=by
    rintro⟨pvs,hpvs,F1,H1,H2,hfz,hle,v0,hv0,hR⟩
    obtain⟨us,g1,g2⟩:=adR hA' hW' fn.results.toList rs pvs hress hpvs
    have hpk:=a7M g2
    obtain⟨E2,k1,k2,k3⟩:=hfz.sound hW'
    have bIH:=k3 (fun _=>if h:us.toArray.size=1 then us.toArray[0] else .tuple us.toArray) (fun i pv hi=>by
     simp only[PF.set,upd] at hi
     split at hi
     ·cases hi; exact hpk
     ·cases hi) 0 v0 hv0
    refine⟨hA'.defers,_,?_,_,v0,E2,H2,rfl,k1.weaken hle,bIH,(hE.trans k2).drop hle,hR⟩
    rw[a7S,Array.mapM_eq_mapM_toList]
    simp[g1]
   cases e with
   | normal=>exact key hK
   | exit id=>exact hK.elim
   | ret=>exact key hK
  ·cases hpf
 ·cases hpf
end
end Go.PM
namespace Go.PM
open Go
inductive Co:PV→PV→Prop
 | refl (v:PV):Co v v
 | junk (v:PV):Co v .junk
 | nil (s:Nat):Co .bGI (.sl s [])
 | osl0 (o s off s':Nat):Co (.osl o s off 0) (.sl s' [])
 | agg {cs ds:List PV} (hl:ds.length=cs.length) (h:∀ (j:Nat) p q,cs[j]?=some p→ds[j]?=some q→Co p q):Co (.agg cs) (.agg ds)
 | tup {cs ds:List PV} (hl:ds.length=cs.length) (h:∀ (j:Nat) p q,cs[j]?=some p→ds[j]?=some q→Co p q):Co (.tup cs) (.tup ds)
 | bGQ {cs ds:List PV} (hl:ds.length=cs.length) (h:∀ (j:Nat) p q,cs[j]?=some p→ds[j]?=some q→Co p q):Co (.bGQ cs) (.bGQ ds)
 | sl {s:Nat} {rs ts:List (List PV)} (hl:ts.length=rs.length) (hr:∀ (i:Nat) r t,rs[i]?=some r→ts[i]?=some t→t.length=r.length)
   (h:∀ (i j:Nat) p q,at2 rs i j=some p→at2 ts i j=some q→Co p q):Co (.sl s rs) (.sl s ts)
structure CoL (ps qs:List PV):Prop where
 len:qs.length=ps.length
 at_:∀ (j:Nat) p q,ps[j]?=some p→qs[j]?=some q→Co p q
theorem CoL.refl (ps:List PV):CoL ps ps:=⟨rfl,fun j p q h k=>by rw[h] at k; cases k; exact .refl p⟩
theorem Co.sound {E:Env} {p q:PV} (h:Co p q):∀ {v:Value},aW E p v→aW E q v:=by
 induction h with
 | refl=>intro v r; exact r
 | junk=>intro v _; exact .junk v
 | nil s =>
  intro v r
  cases r
  exact .sl (fun _ _=>.bool false) (by simp) (by decide) (by simp) (by simp) (fun _ _=>rfl) (by simp[at2])
 | osl0 o s off s' =>
  intro v r
  cases r with
  | osl hb hsp bII hlen bID hn bHO=>exact .sl (fun _ _=>.bool false) (by simp) bID (by simp) (by simp) (fun _ _=>rfl) (by simp[at2])
 | agg hl h ih =>
  intro v r
  cases r with
  | agg vs hl' h1 hr =>
  refine .agg vs (hl'.trans hl.symm) h1 fun j q u hq hu=>?_
  have hj:=(bKA.1 hq).1
  have hp:=bIZ (show j<_ by rw[hl] at hj; exact hj)
  exact ih j _ q hp hq (hr j _ u hp hu)
 | tup hl h ih =>
  intro v r
  cases r with
  | tup vs hl' hr =>
  refine .tup vs (hl'.trans hl.symm) fun j q u hq hu=>?_
  have hj:=(bKA.1 hq).1
  have hp:=bIZ (show j<_ by rw[hl] at hj; exact hj)
  exact ih j _ q hp hq (hr j _ u hp hu)
 | bGQ hl h ih =>
  intro v r
  cases r with
  | bGQ u hsp hc h1 hr =>
  refine .bGQ u hsp (fun j q hq=>?_) h1 fun j q hq=>?_
  ·have hj:=(bKA.1 hq).1
   exact hc j _ (bIZ (show j<_ by rw[hl] at hj; exact hj))
  ·have hj:=(bKA.1 hq).1
   have hp:=bIZ (show j<_ by rw[hl] at hj; exact hj)
   exact ih j _ q hp hq (hr j _ hp)
 | @sl s rs ts hl hrr h ih =>
  intro v r
  have key:∀ (i j:Nat) q,at2 ts i j=some q→∃ p,at2 rs i j=some p:=by
   intro i j q hq
   unfold at2 at hq ⊢
   rw[bLP] at hq
   obtain⟨t,ht,hq⟩:=hq
   have hi:=(bKA.1 ht).1
   have hr:=bIZ (Om:i<rs.length)
   have:=hrr i _ t hr ht
   have hj:=(bKA.1 hq).1
   rw[hr]
   exact⟨(rs[i])[j]'Om,by simp⟩
  cases r with
  | sl u hcap bID hs ha h1 hr =>
  rw[← hl]
  refine .sl u Om bID (fun t ht=>?_) (fun hne=>?_) h1 fun i j q hq=>?_
  ·obtain⟨i,hi,rfl⟩:=bLL ht
   have:=hrr i rs[i] ts[i] (by simp) (by simp)
   rw[this]
   exact hs _ (by simp)
  ·obtain⟨ad,e,sp,hc⟩:=ha (by rintro rfl; exact hne (List.eq_nil_of_length_eq_zero (by simpa using hl)))
   refine⟨ad,e,sp,fun i j q hq=>?_⟩
   obtain⟨p,hp⟩:=key i j q hq
   exact hc i j p hp
  ·obtain⟨p,hp⟩:=key i j q hq
   exact ih i j p q hp hq (hr i j p hp)
theorem CoL.sound {E:Env}:∀ {ps qs:List PV} {vs:List Value},CoL ps qs→eP E ps vs→eP E qs vs
 | [],qs,vs,h,r=>by
  cases r
  have:qs=[]:=List.eq_nil_of_length_eq_zero h.len
  subst this
  exact .nil
 | p::ps,qs,vs,h,r=>by
  cases r with
  | cons r1 r2 =>
  cases qs with
  | nil=>have:=h.len; simp at this
  | cons q qs =>
   refine .cons ((h.at_ 0 p q rfl rfl).sound r1) (CoL.sound ⟨by simpa using h.len,fun j x y a b=>h.at_ (j+1) x y (by simpa using a) (by simpa using b)⟩ r2)
theorem aH.args {C:Ctx} {name:Nat} {args args':List PV} {H:PH} {R:PV→PH→Prop} (h:aH C name args' H R) (hc:CoL args args'):aH C name args H R :=
 ⟨h.1,fun E w vs hN hW hvs=>h.2 E w vs hN hW (hc.sound hvs)⟩
theorem aH.post {C:Ctx} {name:Nat} {args:List PV} {H:PH} {R R':PV→PH→Prop} (h:aH C name args H R) (hR:∀ r H',R r H'→∃ r',Co r r'∧R' r' H'):aH C name args H R' :=
 ⟨h.1,fun E w vs hN hW hvs=>(h.2 E w vs hN hW hvs).mono fun e w' he=>by
  obtain⟨v,pv,E',H',rfl,hW',hr,hE,hp⟩:=he
  obtain⟨pv',hco,hp'⟩:=hR pv H' hp
  exact⟨v,pv',E',H',rfl,hW',hco.sound hr,hE,hp'⟩⟩
end Go.PM
