/-
  Texts of ours, joined: YsShelf Pm1 Pm2 Pm3 Pm4 Pm5 Pm6 Pm7 Pm8 Pm9 Pm10 Pm11 Pm11m Pm12 Pm13 Pm14 Pm15 Pm16 Pm17 Pm17f Pm15m Pm18 Pm18a Pm18b Pm18c Pm18d Pm18e Pm19 Pm20 Pm20c. No condition.
-/
import Derived.Shelf.Strconv.Itoa3
import Derived.Test.YtgfeljaimmnmmaaGreatDoorProg
import Derived.WalkKit
import Derived.CallsIn
import Derived.Laws.Cover3
import Derived.Deep.MidRow
import Derived.Great.BuildSlice
import Derived.Lib.Strings
import Derived.Laws.BytesArg
import GoSem.Instr.MapUpdate
import Derived.Laws.MakeOwn
import Derived.Laws.CopyRow
import Derived.MapKept
import Derived.Orders
import Derived.OrdersIn
import Derived.Sort.LoopGhostIn
import Derived.TacticsIn
import Derived.Scope
set_option linter.unusedSimpArgs false
set_option linter.unusedVariables false
open Nat renaming reduceEqDiff → γ, reduceAdd → δ, reduceSub → ε, reduceMul → ζ, reduceLT → η, reduceLeDiff → θ, reduceBEq → τ
open Int renaming reduceLT → ι, reduceLE → κ, reduceEq → μ, reduceToNat → ν, reduceAdd → ξ, reduceNeg → ο, reduceBEq → ρ, reduceBNe → σ
open List renaming reduceReplicate → υ
open List renaming length_map → aXI, replicate → aXK, getElem_mem → aXM, length_append → aXN, mem_cons → aXP, range → aXQ, length_singleton → aXR, getElem?_eq_getElem → aXT, not_mem_nil → aXX, take_of_length_le → aXY, length_take → aYA, all_eq_true → aYF, getElem?_map → aYG, mem_map → aYH, getD_eq_getElem?_getD → aYK, map_append → aYN, drop_zero → aYO, getElem?_eq_some_iff → aYP, append_assoc → aYQ, take_length → aYS, getElem?_eq_none → aYT, map_cons → aYU, mem_range → aYV, getElem_of_mem → aYZ, length_cons → aZA, mem_append → aZC, range' → aZF, drop_eq_getElem_cons → aZG, getElem_map → aZH, length_drop → aZI, Sublist → aZJ, append_nil → aZK, length_set → aZM, map_nil → aZN, take_succ_eq_append_getElem → aZT, length_nil → aZV, mem_singleton → aZW, getElem?_append_right → aZY, nodup_append → aZZ, getElem?_append_left → a0C, mem_of_getElem? → a0D, take_append_drop → a0E, ext_getElem → a0K, set_append_right → a0L, getElem?_take → a0Q, drop_of_length_le → a0W, map_congr_left → a0X, set_cons_zero → a0Y, getElem_append_right → a1A
open Nat renaming gcd → aXJ, le_refl → aXL, mul_add → aXS, zero_le → aXU, lt_or_ge → aXZ, mul_assoc → aYC, zero_add → aYD, mul_comm → aYI, mul_le_mul_right → aYL, add_mul → aYM, mod_eq_of_lt → aYR, mod_lt → aYW, pow_succ → aZB, le_trans → aZD, add_assoc → aZO, add_zero → aZP, min_eq_left → aZQ, mul_le_mul_left → aZR, pos_of_ne_zero → aZU, eq_zero_or_pos → aZX, pow_pos → a0A, div_le_self → a0F, succ_mul → a0G, div_lt_iff_lt_mul → a0H, mul_le_mul → a0O, div_add_mod → a0R, div_eq_of_lt → a0S, pow_le_pow_right → a0Z
open Option renaming map_eq_some_iff → aXO, map_some → aYX, some → aZS, getD_some → a0I, bind_eq_some_iff → a0T, bind_some → a0U
open Bool renaming false_and → aXV, not_true → aXW, and_eq_true → aYB, true_and → aYE, not_false → aYJ, and_false → aYY, and_true → a0B, false_eq_true → a0N
open Array renaming replicate → aZE, length_toList → a0J, getElem?_eq_some_iff → a0M, getElem?_eq_getElem → a0P, getD_eq_getD_getElem? → a0V
open Int renaming toNat_natCast → aZL
attribute [go_sem] Nat.reduceEqDiff Nat.reduceAdd Nat.reduceSub Nat.reduceMul Nat.reduceLT Nat.reduceLeDiff Int.reduceLT Int.reduceLE Int.reduceEq Int.reduceToNat Int.reduceAdd Int.reduceNeg Int.reduceBEq Int.reduceBNe Nat.reduceBEq List.reduceReplicate reduceIte reduceCtorEq
namespace Go.Proofs
open Go.Shelf
def Tryz.Jq:Go.Shelf.Ren:=⟨fun | 171=>64 | 243=>90 | 246=>116 | 283=>132 | 284=>133 | 285=>134 | 286=>135 | 129=>147 | 317=>146 | 318=>148 | 319=>149 | 320=>150 | 337=>155 | 338=>156 | n=>n,fun | 3=>3 | 9=>9 | 2=>2 | 4=>4 | 171=>155 | 0=>0 | 53=>119 | 37=>22 | 5=>5 | 173=>158 | 212=>163 | 51=>134 | 20=>20 | 213=>164 | 46=>139 | 232=>172 | 233=>173 | n=>n,fun | 17=>0 | 18=>1 | 19=>2 | n=>n⟩
theorem Tryz.aBQ:Go.Proofs.Lays.n171 Tryz.prog Tryz.Jq:={
 mixed:=by kernel_rfl
 f129:=Tryz.func147.trans (congrArg some (by kernel_rfl))
 f171:=Tryz.func64.trans (congrArg some (by kernel_rfl))
 f243:=Tryz.func90.trans (congrArg some (by kernel_rfl))
 f246:=Tryz.func116.trans (congrArg some (by kernel_rfl))
 f283:=Tryz.func132.trans (congrArg some (by kernel_rfl))
 f284:=Tryz.func133.trans (congrArg some (by kernel_rfl))
 f285:=Tryz.func134.trans (congrArg some (by kernel_rfl))
 f286:=Tryz.func135.trans (congrArg some (by kernel_rfl))
 f317:=Tryz.func146.trans (congrArg some (by kernel_rfl))
 f318:=Tryz.func148.trans (congrArg some (by kernel_rfl))
 f319:=Tryz.func149.trans (congrArg some (by kernel_rfl))
 f320:=Tryz.func150.trans (congrArg some (by kernel_rfl))
 f337:=Tryz.func155.trans (congrArg some (by kernel_rfl))
 f338:=Tryz.func156.trans (congrArg some (by kernel_rfl))
 t0:=Tryz.underlying0
 a0:=Tryz.isAgg0
 z0:=Tryz.sizeOf0
 v0:=Tryz.zeroValue0
 t2:=Tryz.underlying2
 a2:=Tryz.isAgg2
 z2:=Tryz.sizeOf2
 v2:=Tryz.zeroValue2
 t3:=Tryz.underlying3
 a3:=Tryz.isAgg3
 z3:=Tryz.sizeOf3
 v3:=Tryz.zeroValue3
 t4:=Tryz.underlying4
 a4:=Tryz.isAgg4
 z4:=Tryz.sizeOf4
 v4:=Tryz.zeroValue4
 t5:=Tryz.underlying5
 a5:=Tryz.isAgg5
 z5:=Tryz.sizeOf5
 v5:=Tryz.zeroValue5
 t9:=Tryz.underlying9
 a9:=Tryz.isAgg9
 z9:=Tryz.sizeOf9
 v9:=Tryz.zeroValue9
 t20:=Tryz.underlying20
 a20:=Tryz.isAgg20
 z20:=Tryz.sizeOf20
 v20:=Tryz.zeroValue20
 t37:=Tryz.underlying22
 a37:=Tryz.isAgg22
 z37:=Tryz.sizeOf22
 v37:=Tryz.zeroValue22
 t46:=Tryz.underlying139
 a46:=Tryz.isAgg139
 z46:=Tryz.sizeOf139
 v46:=Tryz.zeroValue139
 t51:=Tryz.underlying134
 a51:=Tryz.isAgg134
 z51:=Tryz.sizeOf134
 v51:=Tryz.zeroValue134
 t53:=Tryz.underlying119
 a53:=Tryz.isAgg119
 z53:=Tryz.sizeOf119
 v53:=Tryz.zeroValue119
 t171:=Tryz.underlying155
 a171:=Tryz.isAgg155
 z171:=Tryz.sizeOf155
 v171:=Tryz.zeroValue155
 t173:=Tryz.underlying158
 a173:=Tryz.isAgg158
 z173:=Tryz.sizeOf158
 v173:=Tryz.zeroValue158
 t212:=Tryz.underlying163
 a212:=Tryz.isAgg163
 z212:=Tryz.sizeOf163
 v212:=Tryz.zeroValue163
 t213:=Tryz.underlying164
 a213:=Tryz.isAgg164
 z213:=Tryz.sizeOf164
 t232:=Tryz.underlying172
 a232:=Tryz.isAgg172
 z232:=Tryz.sizeOf172
 v232:=Tryz.zeroValue172
 t233:=Tryz.underlying173
 a233:=Tryz.isAgg173
 z233:=Tryz.sizeOf173
 v233:=Tryz.zeroValue173
 g17:=by kernel_rfl
 g18:=by kernel_rfl
 g19:=by kernel_rfl }
end Go.Proofs
theorem Om {p:Prop} (h:p:=by omega):p:=h
namespace Go.PM
open Go
inductive PV where
 | int (k:IntKind) (n:Int)
 | bool (b:Bool)
 | str (s:List UInt8)
 | aB
 | sl (size:Nat) (rows:List (List PV))
 | osl (o size off len:Nat)
 | ptr (o size i c:Nat)
 | cO (cells:List PV)
 | map (o:Nat)
 | fn (name:Nat) (captured:List PV)
 | agg (cells:List PV)
 | tup (vs:List PV)
 | lit (v:Value)
 | junk
 deriving Inhabited
inductive KSh where
 | int (k:IntKind)
 | bool
 | str
 deriving DecidableEq,Inhabited
inductive KS where
 | int (k:IntKind) (n:Int)
 | bool (b:Bool)
 | str (s:List UInt8)
 deriving DecidableEq,Inhabited
def KS.sh:KS→KSh
 | .int k _=>.int k
 | .bool _=>.bool
 | .str _=>.str
def KS.val:KS→Value
 | .int k n=>.int k n
 | .bool b=>.bool b
 | .str s=>.string ⟨s.toArray⟩
abbrev MSh:=Bool × List KSh
def fM (sh:MSh) (k:List KS):Value:=if sh.1 then .agg (k.map KS.val).toArray else (k.map KS.val).headD undef
abbrev iD:=List KS→Option PV
def iD.upd (g:iD) (k:List KS) (v:PV):iD:=fun j=>if j=k then some v else g j
def mC (k:List KS):List (List KS × PV)→Nat→Option (Nat × PV)
 | [],_=>none
 | e::l,i=>if e.1=k then some (i,e.2) else mC k l (i+1)
def mapOf (L:List (List KS × PV)):iD:=fun k=>(mC k L 0).map (·.2)
open Classical in
noncomputable def iD.Tc (g:iD):Nat:=if h:∃ i:List (List KS),i.Nodup∧∀ k,k∈i↔(g k).isSome=true then h.choose.length else 0
theorem iD.azX {g:iD} {i:List (List KS)} (l:i.Nodup) (p:∀ k,k∈i↔(g k).isSome=true):g.Tc=i.length:=by
 have h:∃ i:List (List KS),i.Nodup∧∀ k,k∈i↔(g k).isSome=true:=⟨i,l,p⟩;unfold iD.Tc;rw[dif_pos h];exact ((List.perm_ext_iff_of_nodup h.choose_spec.1 l).2 fun k=>(h.choose_spec.2 k).trans (p k).symm).length_eq
theorem CW (k:List KS):∀ (L:List (List KS × PV)) (i:Nat),(mC k L i).isSome=true↔k∈L.map (·.1)
 | [],i=>by simp[mC]
 | e::p,i=>by
  unfold mC;by_cases h:e.1=k
  ·simp[h]
  ·rw[if_neg h,CW k p,aYU,aXP];exact⟨.inr,fun J=>J.resolve_left fun l=>h l.symm⟩
theorem Ui {L:List (List KS × PV)} (h:(L.map (·.1)).Nodup):(mapOf L).Tc=L.length:=by
 rw[iD.azX h fun k=>?_,aXI];rw[← CW k L 0];unfold mapOf;simp
inductive bX where
 | rows (size:Nat) (rs:List (List PV))
 | map (sh:MSh) (g:iD)
 | loop (F:Nat→Option PV) (n t:Nat) (asg bdy:Code)
 | dead
def upd {α:Type} (f:Nat→Option α) (i:Nat) (v:Option α):Nat→Option α:=fun j=>if j=i then v else f j
theorem NO {α:Type} (f:Nat→Option α) {i j:Nat} (v:Option α) (h:j≠i):upd f i v j=f j:=by simp[upd,h]
theorem awM {α:Type} (f:Nat→Option α) {i j:Nat} (v u:Option α) (h:i≠j):upd (upd f i v) j u=upd (upd f j u) i v:=by
 funext k;simp only[upd];by_cases l:k=j
 ·by_cases p:k=i
  ·omega
  ·simp[l];intro J; omega
 ·simp[l]
abbrev PF:=Nat→Option PV
def PF.nil:PF:=fun _=>none
def PF.set (F:PF) (i:Nat) (v:PV):PF:=upd F i (some v)
def PF.le (F G:PF):Prop:=∀ i v,F i=some v→G i=some v
structure PH where
 f:Nat→Option bX
 fin:∃ n,∀ o,n≤o→f o=none
instance:CoeFun PH (fun _=>Nat→Option bX):=⟨PH.f⟩
theorem PH.ext {H K:PH} (h:∀ o,H.f o=K.f o):H=K:=by
 cases H; cases K;have:‹Nat→Option bX›=‹Nat→Option bX›:=rfl;congr;exact funext h
def PH.nil:PH:=⟨fun _=>none,0,fun _ _=>rfl⟩
def PH.upd (H:PH) (o:Nat) (x:Option bX):PH :=
 ⟨PM.upd H.f o x,by
  obtain⟨n,i⟩:=H.fin;refine⟨max n (o+1),fun q l=>?_⟩;rw[NO _ _ Om];exact i q Om⟩
def PH.set (H:PH) (o:Nat) (x:bX):PH:=H.upd o (some x)
def PH.le (H K:PH):Prop:=∀ o x,H o=some x→K o=some x
def PH.over (H i l:PH):PH :=
 ⟨fun o=>match l o with
  | some x=>some x
  | none=>match i o with
   | some _=>some .dead
   | none=>H o,by
  obtain⟨n,R⟩:=H.fin;obtain⟨U,p⟩:=i.fin;obtain⟨n1,J⟩:=l.fin;refine⟨max n (max U n1),fun o ho=>?_⟩;simp only[J o Om,p o Om,R o Om]⟩
theorem PH.fresh (H:PH):∃ o,H o=none:=by
 obtain⟨n,i⟩:=H.fin;exact⟨n,i n (aXL _)⟩
def at2 (rows:List (List PV)) (i j:Nat):Option PV:=rows[i]?.bind (·[j]?)
structure Env where
 G:Nat→Option (Array Value)
 sz:Nat→Option Nat
 num:Nat→FuncId
def Env.cell (E:Env) (b off:Nat):Option Value:=(E.G b).bind (·[off]?)
structure Env.le (E E':Env):Prop where
 g:∀ b cs,E.G b=some cs→E'.G b=some cs
 s:∀ b n,E.sz b=some n→E'.sz b=some n
 num:E'.num=E.num
theorem Env.le.refl (E:Env):E.le E:=⟨fun _ _ h=>h,fun _ _ h=>h,rfl⟩
theorem Env.le.trans {A B C:Env} (h:A.le B) (k:B.le C):A.le C :=
 ⟨fun b cs e=>k.g _ _ (h.g _ _ e),fun b n e=>k.s _ _ (h.s _ _ e),k.num.trans h.num⟩
theorem Env.le.cell {E p:Env} (h:E.le p) {b off:Nat} {u:Value} (i:E.cell b off=some u):p.cell b off=some u:=by
 unfold Env.cell at *
 cases l:E.G b with
 | none=>simp[l] at i
 | some cs=>rw[l] at i; rw[h.g _ _ l]; exact i
inductive aU (E:Env):PV→Value→Prop
 | int (k:IntKind) (n:Int):aU E (.int k n) (.int k n)
 | bool (b:Bool):aU E (.bool b) (.bool b)
 | str (s:ByteArray):aU E (.str s.data.toList) (.string s)
 | aB:aU E .aB (.slice none 0 0)
 | sl {size:Nat} {rows:List (List PV)} {a:Option Addr} {cap:Nat} (u:Nat→Nat→Value) (hcap:rows.length≤cap) (aXD:cap≤maxLen)
   (hs:∀ r∈rows,r.length=size)
   (ha:rows≠[]→∃ ad,a=some ad∧ad.spot=none∧∀ i j pv,at2 rows i j=some pv→E.cell ad.block (ad.off+i*size+j)=some (u i j))
   (h1:∀ i j,(u i j).oneCell'=true) (hr:∀ i j pv,at2 rows i j=some pv→aU E pv (u i j)):aU E (.sl size rows) (.slice a rows.length cap)
 | osl {o size off len cap n:Nat} {a:Addr} (hb:a.block=o) (hsp:a.spot=none) (aXF:cap=0∨a.off=off*size) (hlen:len≤cap) (aXD:cap≤maxLen)
   (hn:E.sz o=some n) (aWX:off*size+cap*size≤n):aU E (.osl o size off len) (.slice (some a) len cap)
 | ptr (o size i c:Nat):aU E (.ptr o size i c) (.pointer (some ⟨o,i*size+c,none⟩))
 | cO {cells:List PV} {ad:Addr} (u:Nat→Value) (hsp:ad.spot=none) (hc:∀ (j:Nat) pv,cells[j]?=some pv→E.cell ad.block (ad.off+j)=some (u j))
   (h1:∀ (j:Nat),(u j).oneCell'=true) (hr:∀ (j:Nat) pv,cells[j]?=some pv→aU E pv (u j)):aU E (.cO cells) (.pointer (some ad))
 | map (o:Nat):aU E (.map o) (.map (some o))
 | fn {name:Nat} {captured:List PV} (vc:Array Value) (hl:vc.size=captured.length)
   (hr:∀ (j:Nat) pv v,captured[j]?=some pv→vc[j]?=some v→aU E pv v):aU E (.fn name captured) (.func (.func (E.num name)) #[] vc)
 | agg {cells:List PV} (vs:Array Value) (hl:vs.size=cells.length) (h1:∀ v∈vs.toList,v.oneCell'=true)
   (hr:∀ (j:Nat) pv v,cells[j]?=some pv→vs[j]?=some v→aU E pv v):aU E (.agg cells) (.agg vs)
 | tup {ps:List PV} (vs:Array Value) (hl:vs.size=ps.length)
   (hr:∀ (j:Nat) pv v,ps[j]?=some pv→vs[j]?=some v→aU E pv v):aU E (.tup ps) (.tuple vs)
 | lit (v:Value):aU E (.lit v) v
 | junk (v:Value):aU E .junk v
theorem aU.mono {E E':Env} (h:E.le E') {pv:PV} {v:Value} (r:aU E pv v):aU E' pv v:=by
 induction r with
 | int=>exact .int _ _
 | bool=>exact .bool _
 | str=>exact .str _
 | aB=>exact .aB
 | sl u α l hs ha U _ p =>refine .sl u α l hs (fun δ=>?_) U p;obtain⟨ad,e,sp,hc⟩:=ha δ;exact⟨ad,e,sp,fun i j pv hp=>h.cell (hc i j pv hp)⟩
 | osl hb R γ β l hn J=>exact .osl hb R γ β l (h.s _ _ hn) J
 | ptr=>exact .ptr _ _ _ _
 | cO u R hc U _ p=>exact .cO u R (fun j pv hp=>h.cell (hc j pv hp)) U p
 | map=>exact .map _
 | fn vc hl _ p=>rw[← h.num]; exact .fn vc hl p
 | agg vs hl U _ p=>exact .agg vs hl U p
 | tup vs hl _ p=>exact .tup vs hl p
 | lit=>exact .lit _
 | junk=>exact .junk _
def HV (E:Env) (w:World) (o:Nat):bX→Prop
 | .rows size rs=>∃ l ty,w.heap[o]?=some (.cells l ty (0,0))∧E.sz o=some l.size∧(∀ r∈rs,r.length=size)∧rs.length*size≤l.size ∧
   ∀ i j pv,at2 rs i j=some pv→∃ u,l[i*size+j]?=some u∧u.oneCell'=true∧aU E pv u
 | .map sh g=>∃ p clock L,w.heap[o]?=some (.map p clock)∧(p.size=L.length∧(L.map (·.1)).Nodup)∧g=mapOf L ∧
   ∀ (i:Nat) e U,L[i]?=some e→p[i]?=some U→e.1.map KS.sh=sh.2∧U.key=fM sh e.1∧aU E e.2 U.val
 | .loop F n t J R=>∃ rec:Loop,w.heap[o]?=some (.loop rec)∧rec.state=.ready∧rec.pending=none∧rec.params=#[t]∧rec.assign=J∧rec.body=R∧rec.tmps.size=n∧∀ i pv,F i=some pv→aU E pv (rec.tmps.getD i undef)
 | .dead=>True
theorem HV.mono {E E':Env} (h:E.le E') {w w':World} {o:Nat} (hw:w'.heap[o]?=w.heap[o]?) {x:bX} (r:HV E w o x):HV E' w' o x:=by
 cases x with
 | rows size rs =>obtain⟨U,ty,p,J,R,l,h5⟩:=r;refine⟨U,ty,hw.trans p,h.s _ _ J,R,l,fun i j pv hp=>?_⟩;obtain⟨u,a,b,c⟩:=h5 i j pv hp;exact⟨u,a,b,c.mono h⟩
 | map sh g =>obtain⟨α,clock,L,p,J,R,l⟩:=r;exact⟨α,clock,L,hw.trans p,J,R,fun i e e' a b=>⟨(l i e e' a b).1,(l i e e' a b).2.1,(l i e e' a b).2.2.mono h⟩⟩
 | loop F n t β γ =>obtain⟨rec,p,J,R,l,h5,h6,h7,h8⟩:=r;exact⟨rec,hw.trans p,J,R,l,h5,h6,h7,fun i pv hi=>(h8 i pv hi).mono h⟩
 | dead=>trivial
structure bE (E:Env) (H:PH) (w:World):Prop where
 g:∀ b cs,E.G b=some cs→(∀ x,H b=some x→x=.dead)∧∃ ty fr,w.heap[b]?=some (.cells cs ty fr)
 h:∀ o x,H o=some x→o<w.heap.size∧HV E w o x
 s:∀ o n,E.sz o=some n→∃ cur ty fr,w.heap[o]?=some (.cells cur ty fr)∧cur.size=n
theorem bE.weaken {E:Env} {H l:PH} {w:World} (h:bE E H w) (i:l.le H):bE E l w:=by
 exact⟨fun b cs p=>⟨fun x R=>(h.g b cs p).1 x (i b x R),(h.g b cs p).2⟩,fun o x J=>h.h o x (i o x J),h.s⟩
structure Ext (E:Env) (H:PH) (w:World) (E':Env) (H':PH) (w':World):Prop where
 env:E.le E'
 os:w'.os=w.os
 tape:w'.tape=w.tape
 output:w'.output=w.output
 size:w.heap.size≤w'.heap.size
 block:∀ b,b<w.heap.size→H b=none→w'.heap[b]?=w.heap[b]?
 new:∀ o x,H' o=some x→(∃ y,H o=some y)∨w.heap.size≤o
 newG:∀ b cs,E'.G b=some cs→E.G b=some cs∨(∃ y,H b=some y)∨w.heap.size≤b
theorem Ext.refl (E:Env) (H:PH) (w:World):Ext E H w E H w :=
 ⟨.refl E,rfl,rfl,rfl,aXL _,fun _ _ _=>rfl,fun _ x h=>.inl ⟨x,h⟩,fun _ _ h=>.inl h⟩
theorem Ext.trans {p J R:Env} {U H2 H3:PH} {w1 w2 w3:World} (h:Ext p U w1 J H2 w2) (k:Ext J H2 w2 R H3 w3):Ext p U w1 R H3 w3:=by
 refine⟨h.env.trans k.env,k.os.trans h.os,k.tape.trans h.tape,k.output.trans h.output,aZD h.size k.size,fun b l hn=>?_,fun o x ho=>?_,fun b cs l=>?_⟩
 ·have h2:H2 b=none:=by
   cases e:H2 b with
   | none=>rfl
   | some x =>
    rcases h.new b x e with ⟨y,i⟩ | hl
    ·rw[hn] at i; cases i
    ·omega
  rw[k.block b (by have:=h.size; omega) h2,h.block b l hn]
 ·rcases k.new o x ho with ⟨y,i⟩ | hl
  ·exact h.new o y i
  ·exact .inr (aZD h.size hl)
 ·rcases k.newG b cs l with h1 | ⟨y,i⟩ | hl
  ·exact h.newG b cs h1
  ·exact .inr (h.new b y i)
  ·exact .inr (.inr (aZD h.size hl))
theorem Ext.drop {E l:Env} {H H' p:PH} {w J:World} (h:Ext E H w l H' J) (i:p.le H'):Ext E H w l p J :=
 ⟨h.env,h.os,h.tape,h.output,h.size,h.block,fun o x R=>h.new o x (i o x R),h.newG⟩
theorem Ext.narrow {E U:Env} {H H' J:PH} {w w':World} (h:Ext E J w U H' w') (i:J.le H):Ext E H w U (H.over J H') w':=by
 refine⟨h.env,h.os,h.tape,h.output,h.size,fun b R hn=>h.block b R ?_,fun o x l=>?_,fun b cs R=>?_⟩
 ·cases e:J b with
  | none=>rfl
  | some x=>have:=i b x e; rw[hn] at this; cases this
 ·unfold PH.over at l;simp only at l;split at l
  ·rename_i y p;rcases h.new o y p with ⟨z,hz⟩ | hl
   ·exact .inl ⟨z,i o z hz⟩
   ·exact .inr hl
  ·split at l
   ·rename_i y p;exact .inl ⟨y,i o y p⟩
   ·exact .inl ⟨x,l⟩
 ·rcases h.newG b cs R with h1 | ⟨y,p⟩ | hl
  ·exact .inl h1
  ·exact .inr (.inl ⟨y,i b y p⟩)
  ·exact .inr (.inr hl)
theorem bE.over {E E':Env} {H H' H0:PH} {w w':World} (hW:bE E H w) (h:Ext E H0 w E' H' w') (α:H0.le H) (i:bE E' H' w'):bE E' (H.over H0 H') w':=by
 have keep:∀ o x,H o=some x→H0 o=none→o<w'.heap.size∧HV E' w' o x:=by intro o x l R;obtain⟨hlt,U⟩:=hW.h o x l;exact⟨Nat.lt_of_lt_of_le hlt h.size,U.mono h.env (h.block o hlt R)⟩
 refine⟨fun b cs hb=>⟨?_,(i.g b cs hb).2⟩,fun o x l=>?_,i.s⟩
 ·intro x p;unfold PH.over at p;simp only at p;split at p
  ·rename_i y J;cases p;exact (i.g b cs hb).1 _ J
  ·split at p
   ·cases p; rfl
   ·rename_i R;rcases h.newG b cs hb with hE | ⟨y,J⟩ | hl
    ·exact (hW.g b cs hE).1 x p
    ·rw[R] at J; cases J
    ·have:=(hW.h b x p).1; omega
 ·unfold PH.over at l;simp only at l;split at l
  ·rename_i y J;cases l;exact i.h o _ J
  ·split at l
   ·rename_i y J;cases l;exact⟨Nat.lt_of_lt_of_le (hW.h o y (α o y J)).1 h.size,trivial⟩
   ·rename_i R;exact keep o x l R
inductive aO where
 | tmp (t:Nat)
 | const (v:PV)
 deriving Inhabited
def aO.ev (F:PF):aO→Option PV
 | .tmp t=>F t
 | .const v=>some v
def aO.evs (F:PF):List aO→Option (List PV)
 | []=>some []
 | x::xs=>match x.ev F,aO.evs F xs with
  | some v,some vs=>some (v::vs)
  | _,_=>none
inductive Sc where
 | int | bool | str
 deriving Inhabited,DecidableEq
inductive POp where
 | mv (x:aO)
 | pick (c a b:aO)
 | bin (op:BinOp) (x y:aO)
 | eqb (neg:Bool) (x y:aO)
 | eqs (neg:Bool) (ks:List Sc) (x y:aO)
 | un (op:UnOp) (x:aO)
 | conv (k:IntKind) (x:aO)
 | same (x:aO)
 | alloc (cells:List PV)
 | box (ro:Bool) (x:aO)
 | build (zero:List PV) (parts:List (Nat × Nat × aO))
 | aWF (ro:Bool) (size len:Nat) (zero:List PV) (parts:List (Nat × aO))
 | load (n:Option Nat) (p:aO)
 | store (n:Nat) (p x:aO)
 | aWL (x:aO)
 | aXB (off:Nat) (x:aO)
 | field (off:Nat) (n:Option Nat) (x:aO)
 | aWP (size:Nat) (x i:aO)
 | idxA (n size:Nat) (x i:aO)
 | idxV (n size:Nat) (ag:Bool) (x i:aO)
 | aWZ (x i:aO)
 | slice (size:Nat) (x:aO) (lo hi mx:Option aO)
 | aWV (x:aO) (lo hi:Option aO)
 | sliceA (n size:Nat) (x:aO) (lo hi mx:Option aO)
 | len (x:aO)
 | aWY (x:aO)
 | aXH (x:aO)
 | lenM (x:aO)
 | isNil (n:Bool) (x:aO)
 | extract (x:aO) (i:Nat)
 | aWH (size bytes:Nat) (zero:List PV) (l c:aO)
 | append (size bytes:Nat) (x y:aO)
 | aWT (mx:Bool) (x y:aO)
 | mkfn (name:Nat) (captured:List aO)
 | aXE (sh:MSh)
 | lookup (sh:MSh) (zero:PV) (x k:aO) (ok:Bool)
 | aWQ (sh:MSh) (x k v:aO)
 | insert (sh:MSh) (x k v:aO)
 | stuck
 | aWM (x:aO)
 | str2bytes (x:aO)
 | call (name:Nat) (args:List aO)
 | aXA (x:aO) (args:List aO)
 deriving Inhabited
structure aR where
 dst:Option Nat
 op:POp
 guard:Option (Nat × Bool)
 deriving Inhabited
inductive aA where
 | skip
 | region (ops:List aR)
 | draw (ops:List (aR × Bool))
 | seq (a b:aA)
 | cond (c:aO) (a b:aA)
 | block (id:Nat) (c:aA)
 | loop (c:aA)
 | exit (id:Nat)
 | ret
 deriving Inhabited
inductive dN where
 | tmp (t:Nat)
 | cell (t:Nat) (n:Option Nat)
 deriving Inhabited
structure aS where
 nparams:Nat
 ntmps:Nat
 body:aA
 res:List dN
 deriving Inhabited
def PV.cells:PV→List PV
 | .agg cs=>cs
 | v=>[v]
def PV.one:PV→Bool
 | .agg _ | .tup _ | .junk | .lit (.agg _) | .lit (.tuple _)=>false
 | _=>true
def setCells (r:List PV) (c:Nat):List PV→List PV
 | []=>r
 | v::vs=>setCells (r.set c v) (c+1) vs
def loadCells (H:PH) (p:PV) (n:Nat):Option (List PV) :=
 match p with
 | .ptr o size i c=>match H o with
  | some (.rows s rs)=>if s=size then match rs[i]? with
    | some r=>if c+n≤r.length then some ((r.drop c).take n) else none
    | none=>none
   else none
  | _=>none
 | .cO cells=>if n≤cells.length then some (cells.take n) else none
 | _=>none
def kA (op:BinOp) (k:IntKind) (a b:Int):Option PV :=
 match op with
 | .add=>some (.int k (k.wrap (a+b)))
 | .sub=>some (.int k (k.wrap (a-b)))
 | .mul=>some (.int k (k.wrap (a*b)))
 | .quo=>if b=0 then none else some (.int k (k.wrap (a.tdiv b)))
 | .rem=>if b=0 then none else some (.int k (a.tmod b))
 | .and=>some (.int k (k.wrap (BitVec.ofInt k.bits a &&& BitVec.ofInt k.bits b).toNat))
 | .or=>some (.int k (k.wrap (BitVec.ofInt k.bits a ||| BitVec.ofInt k.bits b).toNat))
 | .xor=>some (.int k (k.wrap (BitVec.ofInt k.bits a ^^^ BitVec.ofInt k.bits b).toNat))
 | .andNot=>some (.int k (k.wrap (BitVec.ofInt k.bits a &&& ~~~ BitVec.ofInt k.bits b).toNat))
 | .eql=>some (.bool (a==b))
 | .neq=>some (.bool (a != b))
 | .lss=>some (.bool (decide (a<b)))
 | .leq=>some (.bool (decide (a≤b)))
 | .gtr=>some (.bool (decide (a>b)))
 | .geq=>some (.bool (decide (a≥b)))
 | .shl | .shr=>none
def IB (op:BinOp) (a b:List UInt8):Option PV :=
 match op with
 | .add=>if ((a.length+b.length:Nat):Int)>IntKind.i64.max then none else some (.str (a++b))
 | .eql=>some (.bool (a==b))
 | .neq=>some (.bool !(a==b))
 | .lss=>some (.bool (Op.bytesLess a b))
 | .leq=>some (.bool (Op.bytesLess a b||a==b))
 | .gtr=>some (.bool !(Op.bytesLess a b||a==b))
 | .geq=>some (.bool !(Op.bytesLess a b))
 | _=>none
def shift (op:BinOp) (k:IntKind) (a b:Int):Option PV :=
 if b<0 then none else
 match op with
 | .shl=>some (.int k (k.wrap (a*2 ^ (min b.toNat k.bits))))
 | .shr=>some (.int k (a.fdiv (2 ^ (min b.toNat k.bits))))
 | _=>none
def PV.bin (op:BinOp) (x y:PV):Option PV :=
 match op,x,y with
 | .shl,.int k a,.int _ b=>shift .shl k a b
 | .shr,.int k a,.int _ b=>shift .shr k a b
 | op,.int k a,.int i b=>if k=i then kA op k a b else none
 | op,.str a,.str b=>IB op a b
 | _,_,_=>none
def PV.eq1:Sc→PV→PV→Option Bool
 | .int,.int k a,.int i b=>if k=i then some (a==b) else none
 | .bool,.bool a,.bool b=>some (a==b)
 | .str,.str a,.str b=>some (a==b)
 | _,_,_=>none
def PV.eqs:List Sc→List PV→List PV→Option Bool
 | [],[],[]=>some true
 | k::i,x::xs,y::ys=>match PV.eq1 k x y with
  | some true=>PV.eqs i xs ys
  | some false=>if xs.length=i.length∧ys.length=i.length then some false else none
  | none=>none
 | _,_,_=>none
def PV.un (op:UnOp):PV→Option PV
 | .int k n=>match op with
  | .neg=>some (.int k (k.wrap (0-n)))
  | .xor=>some (.int k (k.wrap (BitVec.ofInt k.bits (if k.signed then -1 else k.max) ^^^ BitVec.ofInt k.bits n).toNat))
  | _=>none
 | .bool b=>match op with
  | .not=>some (.bool !b)
  | _=>none
 | _=>none
def PV.intOf:PV→Option Int
 | .int _ n=>some n
 | _=>none
def nY (cells:List PV) (F:PF):List (Nat × Nat × aO)→Option (List PV)
 | []=>some cells
 | (off,size,x)::rest=>match x.ev F with
  | some v=>if v.cells.length=size∧off+size≤cells.length∧v.cells.all PV.one then nY (setCells cells off v.cells) F rest else none
  | none=>none
def fS (size:Nat) (rows:List (List PV)) (F:PF):List (Nat × aO)→Option (List (List PV))
 | []=>some rows
 | (i,x)::rest=>match x.ev F with
  | some v=>if v.cells.length=size∧i<rows.length∧v.cells.all PV.one then fS size (rows.set i v.cells) F rest else none
  | none=>none
def dS (H:PH) (size:Nat):PV→Option (List (List PV))
 | .aB=>some []
 | .sl s rows=>if s=size then some rows else none
 | .osl o s off len=>if s=size then match H o with
   | some (.rows s' rs)=>if s'=s∧off+len≤rs.length then some ((rs.drop off).take len) else none
   | _=>none
  else none
 | _=>none
def bnd (F:PF) (d:Int):Option aO→Option Int
 | none=>some d
 | some x=>(x.ev F).bind PV.intOf
def PV.slice (size:Nat) (x:PV) (l h:Int) (mx:Option Int):Option PV :=
 match x with
 | .aB=>if l=0∧h=0∧(mx=none∨mx=some 0) then some .aB else none
 | .sl s rows=>if s=size∧0≤l∧l≤h∧h≤rows.length∧(mx=none∨mx=some h) then some (.sl s ((rows.take h.toNat).drop l.toNat)) else none
 | .osl o s off len=>if s=size∧0≤l∧l≤h∧h≤len∧(mx=none∨mx=some h) then some (.osl o s (off+l.toNat) (h.toNat-l.toNat)) else none
 | _=>none
def PV.BA:PV→Option Bool
 | .aB=>some true
 | .osl _ _ _ _=>some false
 | .sl _ (_::_)=>some false
 | _=>none
def KS.of:PV→Option KS
 | .int k n=>some (.int k n)
 | .bool b=>some (.bool b)
 | .str s=>some (.str s)
 | _=>none
def KS.ofs:List PV→Option (List KS)
 | []=>some []
 | v::vs=>match KS.of v,KS.ofs vs with
  | some k,some i=>some (k::i)
  | _,_=>none
def keyOf (sh:MSh) (v:PV):Option (List KS) :=
 match sh.1,v with
 | true,.agg cs=>(KS.ofs cs).bind fun k=>if k.map KS.sh=sh.2 then some k else none
 | false,v=>(KS.of v).bind fun k=>if [k.sh]=sh.2 then some [k] else none
 | _,_=>none
def chunks (size:Nat):Nat→List PV→List (List PV)
 | 0,_=>[]
 | n+1,cs=>cs.take size::chunks size n (cs.drop size)
def nF:List (List PV)→Option (List UInt8)
 | []=>some []
 | [.int .u8 n]::rest=>(nF rest).map (UInt8.ofNat n.toNat::·)
 | _=>none
def PV.qX:PV→Option PV
 | .aB=>some (.int .i64 0)
 | .sl _ rows=>some (.int .i64 rows.length)
 | .osl _ _ _ n=>some (.int .i64 n)
 | _=>none
noncomputable def aN (op:POp) (F:PF) (H:PH):Option PV :=
 match op with
 | .mv x=>x.ev F
 | .same x=>match x.ev F with
  | some (.str s)=>some (.str s)
  | _=>none
 | .pick c a b=>match c.ev F,a.ev F,b.ev F with
  | some (.bool t),x,y=>if t then x else y
  | _,_,_=>none
 | .bin op x y=>match x.ev F,y.ev F with
  | some a,some b=>PV.bin op a b
  | _,_=>none
 | .eqb neg x y=>match x.ev F,y.ev F with
  | some (.bool a),some (.bool b)=>some (.bool ((a==b) != neg))
  | _,_=>none
 | .eqs neg ks x y=>match x.ev F,y.ev F with
  | some (.agg xs),some (.agg ys)=>(PV.eqs ks xs ys).map fun b=>.bool (b != neg)
  | _,_=>none
 | .un op x=>match x.ev F with
  | some a=>PV.un op a
  | none=>none
 | .conv k x=>match x.ev F with
  | some (.int _ n)=>some (.int k (k.wrap n))
  | _=>none
 | .box true x=>match x.ev F with
  | some v=>if v.cells.all PV.one then some (.cO v.cells) else none
  | none=>none
 | .build zero parts=>(nY zero F parts).map .agg
 | .aWF true size len zero parts=>if zero.length=size∧len*size≤16777216 then (fS size (aXK len zero) F parts).map (.sl size) else none
 | .load none p=>match p.ev F with
  | some a=>match loadCells H a 1 with
   | some [v]=>some v
   | _=>none
  | none=>none
 | .load (some n) p=>match p.ev F with
  | some a=>(loadCells H a n).map .agg
  | none=>none
 | .aWL x=>match x.ev F with
  | some (.ptr o s i c)=>some (.ptr o s i c)
  | some (.cO cs)=>some (.cO cs)
  | _=>none
 | .aXB off x=>match x.ev F with
  | some (.ptr o s i c)=>some (.ptr o s i (c+off))
  | some (.cO cs)=>some (.cO (cs.drop off))
  | _=>none
 | .field off n x=>match x.ev F with
  | some (.agg cs)=>match n with
   | none=>cs[off]?
   | some n=>if off+n≤cs.length then some (.agg ((cs.drop off).take n)) else none
  | _=>none
 | .aWP size x i=>match x.ev F,i.ev F with
  | some (.sl s rows),some (.int _ n)=>if s=size∧0≤n then match rows[n.toNat]? with
    | some r=>some (.cO r)
    | none=>none
   else none
  | some (.osl o s off len),some (.int _ n)=>if s=size∧0≤n∧n<len then some (.ptr o s (off+n.toNat) 0) else none
  | _,_=>none
 | .idxA n size x i=>match x.ev F,i.ev F with
  | some (.ptr o s r c),some (.int _ k)=>if 0≤k∧k<n then some (.ptr o s r (c+k.toNat*size)) else none
  | some (.cO cs),some (.int _ k)=>if 0≤k∧k<n then some (.cO (cs.drop (k.toNat*size))) else none
  | _,_=>none
 | .idxV n size R x i=>match x.ev F,i.ev F with
  | some (.agg cs),some (.int _ k)=>if 0≤k∧k<n then
    (if R then (if k.toNat*size+size≤cs.length then some (.agg ((cs.drop (k.toNat*size)).take size)) else none) else cs[k.toNat*size]?)
   else none
  | _,_=>none
 | .aWZ x i=>match x.ev F,i.ev F with
  | some (.str s),some (.int _ k)=>if 0≤k then (s[k.toNat]?).map fun b=>PV.int .u8 b.toNat else none
  | _,_=>none
 | .slice size x lo hi mx=>match x.ev F with
  | some v=>match v with
   | .aB=>match bnd F 0 lo,bnd F 0 hi with
    | some l,some h=>match mx with
     | none=>PV.slice size v l h none
     | some m=>(bnd F 0 (some m)).bind fun m=>PV.slice size v l h (some m)
    | _,_=>none
   | .sl s rows=>match bnd F 0 lo,bnd F rows.length hi with
    | some l,some h=>match mx with
     | none=>PV.slice size (.sl s rows) l h none
     | some m=>(bnd F 0 (some m)).bind fun m=>PV.slice size (.sl s rows) l h (some m)
    | _,_=>none
   | .osl o s off len=>match bnd F 0 lo,bnd F len hi with
    | some l,some h=>match mx with
     | none=>PV.slice size (.osl o s off len) l h none
     | some m=>(bnd F 0 (some m)).bind fun m=>PV.slice size (.osl o s off len) l h (some m)
    | _,_=>none
   | _=>none
  | none=>none
 | .aWV x lo hi=>match x.ev F with
  | some (.str s)=>match bnd F 0 lo,bnd F s.length hi with
   | some l,some h=>if 0≤l∧l≤h∧h≤s.length then some (.str ((s.take h.toNat).drop l.toNat)) else none
   | _,_=>none
  | _=>none
 | .sliceA n size x lo hi mx=>match lo,hi,mx with
  | none,none,none=>match x.ev F with
   | some (.cO cs)=>if n*size≤cs.length∧0<size∧n≤maxLen then some (.sl size (chunks size n cs)) else none
   | _=>none
  | _,_,_=>none
 | .len x=>(x.ev F).bind PV.qX
 | .aWY x=>match x.ev F with
  | some (.str s)=>some (.int .i64 s.length)
  | _=>none
 | .lenM x=>match x.ev F with
  | some (.map o)=>match H o with
   | some (.map _ g)=>some (.int .i64 (g.Tc:Nat))
   | _=>none
  | _=>none
 | .aXH x=>match x.ev F with
  | some .aB=>some (.int .i64 0)
  | _=>none
 | .isNil n x=>(x.ev F).bind fun v=>v.BA.map fun b=>.bool (b != n)
 | .extract x i=>match x.ev F with
  | some (.tup vs)=>vs[i]?
  | _=>none
 | .aWT mx x y=>match x.ev F,y.ev F with
  | some (.int k a),some (.int U b)=>if k=U then some (.int k (if mx then (if a<b then b else a) else (if b<a then b else a))) else none
  | _,_=>none
 | .mkfn name captured=>(aO.evs F captured).map fun cs=>.fn name cs
 | .lookup sh zero x k ok=>match x.ev F,k.ev F with
  | some (.map o),some kv=>match H o,keyOf sh kv with
   | some (.map J g),some key=>if J=sh then some (if ok then .tup [(g key).getD zero,.bool (g key).isSome] else (g key).getD zero) else none
   | _,_=>none
  | _,_=>none
 | .aWM x=>match x.ev F with
  | some v=>match dS H 1 v with
   | some rows=>(nF rows).map PV.str
   | none=>none
  | none=>none
 | _=>none
def cL (op:POp) (F:PF):Option ((Nat→PV) × bX) :=
 match op with
 | .alloc cells=>some (fun o=>.ptr o cells.length 0 0,.rows cells.length [cells])
 | .box false x=>match x.ev F with
  | some v=>if v.cells.all PV.one then some (fun o=>.ptr o v.cells.length 0 0,.rows v.cells.length [v.cells]) else none
  | none=>none
 | .aWF false size len zero parts=>if zero.length=size∧len*size≤16777216 then
   (fS size (aXK len zero) F parts).map fun rows=>(fun o=>.osl o size 0 len,.rows size rows)
  else none
 | .aWH size bytes zero l c=>match l.ev F,c.ev F with
  | some (.int _ n),some (.int _ m)=>if 0≤n∧n≤m∧m*bytes≤140737488355328∧m≤9223372036854775807∧zero.length=size then
    some (fun o=>.osl o size 0 n.toNat,.rows size (aXK n.toNat zero))
   else none
  | _,_=>none
 | .aXE sh=>some (fun o=>.map o,.map sh (fun _=>none))
 | _=>none
def storeAt (H:PH) (p:PV) (cells:List PV):Option PH :=
 match p with
 | .ptr o size i c=>match H o with
  | some (.rows s rs)=>if s=size∧c+cells.length≤size∧cells.all PV.one then match rs[i]? with
    | some r=>some (H.set o (.rows s (rs.set i (setCells r c cells))))
    | none=>none
   else none
  | _=>none
 | _=>none
def roomFor (n m bytes:Nat):Prop:=n+m≤maxLen∧(n+m)*bytes≤140737488355328
def mF (H:PH) (size bytes:Nat) (x y:PV) (K:PV→PH→Prop):Prop :=
 ∃ src,dS H size y=some src ∧
  match x with
  | .aB=>roomFor 0 src.length bytes∧(src=[]→K .aB H)∧(src≠[]→∀ o,H o=none→K (.osl o size 0 src.length) (H.set o (.rows size src)))
  | .osl o s off len=>s=size∧off=0∧roomFor len src.length bytes∧∃ rs,H o=some (.rows size rs)∧len≤rs.length ∧
    K (.osl o size 0 (len+src.length)) (H.set o (.rows size (rs.take len++src))) ∧
    ∀ o',H o'=none→K (.osl o' size 0 (len+src.length)) (H.set o' (.rows size (rs.take len++src)))
  | _=>False
def bS (op:POp) (F:PF) (H:PH) (K:PV→PH→Prop):Prop :=
 match op with
 | .store n p x=>match p.ev F,x.ev F with
  | some a,some v=>v.cells.length=n∧∃ H',storeAt H a v.cells=some H'∧K .junk H'
  | _,_=>False
 | .append size bytes x y=>match x.ev F,y.ev F with
  | some a,some b=>mF H size bytes a b K
  | _,_=>False
 | .aWQ sh x k v=>match x.ev F,k.ev F,v.ev F with
  | some (.map o),some l,some J=>match H o,keyOf sh l with
   | some (.map i g),some key=>i=sh∧K .junk (H.set o (.map sh (g.upd key J)))
   | _,_=>False
  | _,_,_=>False
 | .insert sh x k v=>match x.ev F,k.ev F,v.ev F with
  | some (.map o),some l,some J=>match H o,keyOf sh l with
   | some (.map i g),some key=>i=sh∧g key=none∧K .junk (H.set o (.map sh (g.upd key J)))
   | _,_=>False
  | _,_,_=>False
 | _=>False
def PV.cN (o s:Nat) (rs:List (List PV)):PV→PV
 | .osl q s' off len=>if q=o then (if s'=s∧off+len≤rs.length then .sl s ((rs.drop off).take len) else .junk) else .osl q s' off len
 | v=>v
def PV.qV (o s:Nat) (rs:List (List PV)):PV→PV
 | .agg cs=>.agg (cs.map (PV.cN o s rs))
 | v=>v.cN o s rs
def PV.frz (o s:Nat) (rs:List (List PV)):PV→PV
 | .tup vs=>.tup (vs.map (PV.qV o s rs))
 | v=>v.qV o s rs
def bX.frz (o s:Nat) (rs:List (List PV)):bX→bX
 | .rows s' rs'=>.rows s' (rs'.map fun r=>r.map (PV.cN o s rs))
 | x=>x
def PF.frz (F:PF) (o s:Nat) (rs:List (List PV)):PF:=fun i=>(F i).map (PV.frz o s rs)
def PH.frz (H:PH) (o s:Nat) (rs:List (List PV)):PH :=
 ⟨fun q=>if q=o then none else (H q).map (bX.frz o s rs),by
  obtain⟨n,i⟩:=H.fin;exact⟨n,fun q l=>by simp[i q l]⟩⟩
inductive gT:PF→PH→PF→PH→Prop
 | refl (F:PF) (H:PH):gT F H F H
 | step {F F':PF} {H H':PH} (o:Nat) {s:Nat} {rs:List (List PV)} (ho:H o=some (.rows s rs)) (h:gT (F.frz o s rs) (H.frz o s rs) F' H'):gT F H F' H'
structure Ctx where
 P:Program
 num:Nat→FuncId
inductive dY (E:Env):List PV→List Value→Prop
 | nil:dY E [] []
 | cons {p:PV} {v:Value} {ps:List PV} {vs:List Value} (h:aU E p v) (t:dY E ps vs):dY E (p::ps) (v::vs)
def aH (C:Ctx) (name:Nat) (args:List PV) (H:PH) (R:PV→PH→Prop):Prop :=
 (∃ fn,C.P.funcs[C.num name]?=some fn∧fn.body.isSome=true∧(fn.name=="runtime.NumGoroutine")=false) ∧
 ∀ (E:Env) (w:World) (vs:Array Value),E.num=C.num→bE E H w→dY E args vs.toList →
  Calls C.P (C.num name) vs w fun e l=>∃ v pv i H',e=.returned v∧bE i H' l∧aU i pv v∧Ext E H w i H' l∧R pv H'
def AR (C:Ctx) (l:Nat) (args:List PV) (H:PH) (R:PV→PH→Prop):Prop :=
 ∀ (E:Env) (w:World) (vs:Array Value),E.num=C.num→bE E H w→dY E args vs.toList →
  ∃ fn i assign body,(Instr.yield l vs).run C.P w=.ok (.round l fn i assign body) w∧RoundIn Fence.wide 0 C.P l fn i assign body w fun e J=>∃ v pv p H',e=.returned v∧bE p H' J∧aU p pv v∧Ext E H w p H' J∧R pv H'
def PV.anH:PV→Option Nat
 | .lit (.func (.yield l) f c)=>if f=#[]∧c=#[] then some l else none
 | _=>none
abbrev tN (l:Nat):PV:=.lit (.func (.yield l) #[] #[])
inductive kL where
 | normal
 | exit (id:Nat)
 | ret
abbrev bT:=kL→PF→PH→Prop
def PF.put (F:PF) (d:Option Nat) (v:PV):PF :=
 match d with
 | some d=>F.set d v
 | none=>F
def bN (r:Option PV) (d:Option Nat) (K:PF→PH→Prop) (F:PF) (H:PH):Prop:=∃ v,r=some v∧K (F.put d v) H
def lL (r:Option ((Nat→PV) × bX)) (d:Option Nat) (K:PF→PH→Prop) (F:PF) (H:PH):Prop :=
 ∃ mk x,r=some (mk,x)∧∀ o,H o=none→K (F.put d (mk o)) (H.set o x)
def kS (H i H':PH):Prop:=∀ o x,H' o=some x→i o=none→H o=none
def qK (C:Ctx) (name:Nat) (args:Option (List PV)) (d:Option Nat) (K:PF→PH→Prop) (F:PF) (H:PH):Prop :=
 ∃ vs i R,args=some vs∧i.le H∧aH C name vs i R∧∀ r H',R r H'→kS H i H'→K (F.put d r) (H.over i H')
def gY (C:Ctx) (name:Nat) (args:List aO) (cs:List PV) (d:Option Nat) (K:PF→PH→Prop) (F:PF) (H:PH):Prop :=
 qK C name ((aO.evs F args).map (·++cs)) d K F H ∨
 ∃ i l,gT F H i l∧qK C name ((aO.evs i args).map (·++cs)) d K i l
def HG (C:Ctx) (l:Nat) (args:Option (List PV)) (d:Option Nat) (K:PF→PH→Prop) (F:PF) (H:PH):Prop :=
 ∃ vs i R,args=some vs∧i.le H∧AR C l vs i R∧∀ r H',R r H'→kS H i H'→K (F.put d r) (H.over i H')
def Sp (C:Ctx) (l:Nat) (args:List aO) (d:Option Nat) (K:PF→PH→Prop) (F:PF) (H:PH):Prop :=
 HG C l (aO.evs F args) d K F H∨∃ i p,gT F H i p∧HG C l (aO.evs i args) d K i p
def sI (C:Ctx) (v:Option PV) (args:List aO) (d:Option Nat) (K:PF→PH→Prop) (F:PF) (H:PH):Prop :=
 match v with
 | some (.fn name cs)=>gY C name args cs d K F H
 | some (.lit u)=>∃ l,PV.anH (.lit u)=some l∧Sp C l args d K F H
 | _=>False
def POp.fU:POp→Bool
 | .alloc _ | .box false _ | .aWF false .. | .aWH .. | .aXE _=>true
 | _=>false
def POp.dQ:POp→Bool
 | .store .. | .append .. | .aWQ .. | .insert ..=>true
 | _=>false
def wpOp (C:Ctx) (op:POp) (d:Option Nat) (K:PF→PH→Prop) (F:PF) (H:PH):Prop :=
 match op with
 | .call name args=>gY C name args [] d K F H
 | .aXA x args=>sI C (x.ev F) args d K F H
 | op=>if op.fU then lL (cL op F) d K F H else if op.dQ then bS op F H (fun r H'=>K (F.put d r) H') else bN (aN op F H) d K F H
def wpOps (C:Ctx):List aR→(PF→PH→Prop)→PF→PH→Prop
 | [],K,F,H=>K F H
 | i::rest,K,F,H=>match i.guard with
  | none=>wpOp C i.op i.dst (wpOps C rest K) F H
  | some (t,l)=>match F t with
   | some (.bool b)=>if b=l then wpOp C i.op i.dst (wpOps C rest K) F H else wpOps C rest K (F.put i.dst (.tup [])) H
   | some (.tup [])=>wpOps C rest K (F.put i.dst (.tup [])) H
   | _=>False
def PH.only (H:PH) (D:List Nat):PH :=
 ⟨fun o=>if o∈D then H o else none,by
  obtain⟨n,i⟩:=H.fin;exact⟨n,fun o l=>by simp[i o l]⟩⟩
abbrev Spec:=Nat→List PV→Option (List Nat × (PH→PV→PH→Prop))
inductive Kind where
 | fail
 | calm (f:PH→Option PV)
 | new (r:Option ((Nat→PV) × bX))
 | write (w:PH→(PV→PH→Prop)→Prop)
 | call (name:Nat) (args:Option (List PV))
 | ins (r:Option (Nat × MSh × List KS × PV))
noncomputable def POp.kind (op:POp) (F:PF):Kind :=
 match op with
 | .call name args=>.call name (aO.evs F args)
 | .aXA x args=>match x.ev F with
  | some (.fn name cs)=>.call name ((aO.evs F args).map (·++cs))
  | _=>.fail
 | .insert sh x k v=>.ins (match x.ev F,k.ev F,v.ev F with
  | some (.map o),some i,some l=>(keyOf sh i).map fun key=>(o,sh,key,l)
  | _,_,_=>none)
 | op=>if op.fU then .new (cL op F) else if op.dQ then .write (fun H K=>bS op F H K) else .calm (aN op F)
noncomputable def aR.kind (i:aR) (F:PF):Kind :=
 match i.guard with
 | none=>i.op.kind F
 | some (t,l)=>match F t with
  | some (.bool b)=>if b=l then i.op.kind F else .calm (fun _=>some (.tup []))
  | some (.tup [])=>.calm (fun _=>some (.tup []))
  | _=>.fail
def Kind.run (C:Ctx) (Hs:PH) (S:Spec) (st:Bool) (k:Kind) (K:PV→PH→Prop) (H:PH):Prop :=
 match k with
 | .fail=>False
 | .calm f=>∃ v,f (if st then Hs else H)=some v∧K v H
 | .new r=>∃ mk x,r=some (mk,x)∧∀ o,H o=none→K (mk o) (H.set o x)
 | .write w=>w H fun r H'=>Hs.le H'∧K r H'
 | .ins r=>∃ o sh key v g,r=some (o,sh,key,v)∧H o=some (.map sh g)∧g key=none∧Hs o=none∧K .junk (H.set o (.map sh (g.upd key v)))
 | .call name args=>∃ vs D R,args=some vs∧S name vs=some (D,R)∧(∀ o∈D,∃ x,H o=some x)∧aH C name vs (H.only D) (R (H.only D)) ∧
   (∀ G:PH,∃ r H',R (H.only D) r H'∧kS G (H.only D) H') ∧
   ∀ r H',R (H.only D) r H'→kS H (H.only D) H'→Hs.le (H.over (H.only D) H')∧K r (H.over (H.only D) H')
def wpD (C:Ctx) (Hs:PH) (S:Spec):List (aR × Bool)→(PF→PH→Prop)→PF→PH→Prop
 | [],K,F,H=>K F H
 | i::rest,K,F,H=>(i.1.kind F).run C Hs S i.2 (fun v H'=>wpD C Hs S rest K (F.put i.1.dst v) H') H
def fZ (C:Ctx) (w:bT→PF→PH→Prop) (K:bT):bT
 | .normal,F,H=>w K F H
 | e,F,H=>K e F H
def fG (id:Nat) (K:bT):bT
 | .exit i,F,H=>if i=id then K .normal F H else K (.exit i) F H
 | e,F,H=>K e F H
def jD {α:Type} (p:α→PF) (Hs:α→PH) (J:α→Prop) (m:α→Nat) (n:Nat) (K:bT):bT
 | .normal,F,H=>∃ a i l,gT F H i l∧J a∧m a<n∧(p a).le i∧(Hs a).le l
 | e,F,H=>K e F H
def aA.wp (C:Ctx):aA→bT→PF→PH→Prop
 | .skip,K,F,H=>K .normal F H
 | .region ops,K,F,H=>wpOps C ops (K .normal) F H
 | .draw ops,K,F,H=>∃ Hs S,PH.le Hs H∧wpD C Hs S ops (K .normal) F H
 | .seq a b,K,F,H=>a.wp C (fZ C (b.wp C) K) F H
 | .cond c a b,K,F,H=>match c.ev F with
  | some (.bool t)=>if t then a.wp C K F H else b.wp C K F H
  | _=>False
 | .block id c,K,F,H=>c.wp C (fG id K) F H
 | .loop c,K,F,H=>∃ (α:Type) (i:α→PF) (Hs:α→PH) (l:α→Prop) (m:α→Nat) (p:α) (J:PF) (R:PH),gT F H J R∧l p∧(i p).le J∧(Hs p).le R ∧
   ∀ a,l a→c.wp C (jD i Hs l m (m a) K) (i a) (Hs a)
 | .exit id,K,F,H=>K (.exit id) F H
 | .ret,K,F,H=>K .ret F H
def dN.ev (F:PF) (H:PH):dN→Option PV
 | .tmp t=>F t
 | .cell t none=>match F t with
  | some p=>match loadCells H p 1 with
   | some [v]=>some v
   | _=>none
  | none=>none
 | .cell t (some k)=>match F t with
  | some p=>(loadCells H p k).map .agg
  | none=>none
def dN.evs (F:PF) (H:PH):List dN→Option (List PV)
 | []=>some []
 | r::rs=>match r.ev F H,dN.evs F H rs with
  | some v,some vs=>some (v::vs)
  | _,_=>none
def dB:List PV→PV
 | [v]=>v
 | vs=>.tup vs
def aW (res:List dN) (R:PV→PH→Prop):bT
 | .exit _,_,_=>False
 | _,F,H=>∃ vs,dN.evs F H res=some vs∧∃ i l H2,gT (PF.nil.set 0 (dB vs)) H i l∧H2.le l∧∃ v,i 0=some v∧R v H2
def PF.args (vs:List PV):PF:=fun i=>vs[i]?
structure Tbl where
 P:Program
 num:Nat→FuncId
 name:FuncId→Option Nat
 ro:List Nat:=[]
def ofValue:Value→Option PV
 | .int k n=>some (.int k n)
 | .bool b=>some (.bool b)
 | .string s=>some (.str s.data.toList)
 | .slice none 0 0=>some .aB
 | .pointer none=>some (.lit (.pointer none))
 | .map none=>some (.lit (.map none))
 | .nilIface=>some (.lit .nilIface)
 | .nilFunc=>some (.lit .nilFunc)
 | _=>none
theorem sP {E:Env} {v:Value} {pv:PV} (h:ofValue v=some pv):aU E pv v:=by
 unfold ofValue at h;split at h<;>cases h
 ·exact .int _ _
 ·exact .bool _
 ·exact .str _
 ·exact .aB
 all_goals exact .lit _
def ofValues:List Value→Option (List PV)
 | []=>some []
 | v::vs=>match ofValue v,ofValues vs with
  | some p,some ps=>some (p::ps)
  | _,_=>none
namespace Tbl
variable (T:Tbl)
def opd:Operand→Option aO
 | .tmp t=>some (.tmp t)
 | .const v=>(ofValue v).map .const
 | .func f=>match T.name f with
  | some n=>if T.num n=f then some (.const (.fn n [])) else none
  | none=>none
 | .global _=>none
def UY:List Operand→Option (List aO)
 | []=>some []
 | x::xs=>match T.opd x,UY xs with
  | some p,some ps=>some (p::ps)
  | _,_=>none
def size (t:TypeId):Option Nat:=(T.P.info? t).map (·.size)
def isAgg (t:TypeId):Option Bool :=
 match T.P.underlying t with
 | some (.struct _) | some (.array _ _)=>some true
 | some _=>some false
 | none=>none
def zero (t:TypeId):Option (List PV):=((T.P.info? t).bind (·.zero)).bind fun z=>ofValues z.cells.toList
def scalar (t:TypeId):Option Sc :=
 match T.P.underlying t with
 | some (.int _)=>some .int
 | some .bool=>some .bool
 | some .string=>some .str
 | _=>none
def pP:Nat→List Field→Option (List Sc)
 | _,[]=>some []
 | k,f::i=>match T.scalar f.type,pP (k+1) i with
  | some c,some cs=>if f.name≠"_"∧f.offset=k then some (c::cs) else none
  | _,_=>none
def flat (t:TypeId):Option (List Sc) :=
 match T.P.underlying t with
 | some (.struct i)=>if T.P.stoodInHeld t=false∧T.P.eqGuardType T.P.depth t=false then T.pP 0 i.toList else none
 | _=>none
def vK (t:TypeId):Option KSh :=
 match T.P.underlying t with
 | some (.int k)=>some (.int k)
 | some .bool=>some .bool
 | some .string=>some .str
 | _=>none
def jY:Nat→List Field→Option (List KSh)
 | _,[]=>some []
 | k,f::i=>match T.vK f.type,jY (k+1) i with
  | some c,some cs=>if f.name≠"_"∧f.offset=k then some (c::cs) else none
  | _,_=>none
def kF (t:TypeId):Option MSh :=
 match T.P.underlying t with
 | some (.struct i)=>if T.P.stoodInHeld t=false then (T.jY 0 i.toList).map fun l=>(true,l) else none
 | _=>(T.vK t).map fun c=>(false,[c])
def opt (x:Option Operand):Option (Option aO) :=
 match x with
 | none=>some none
 | some x=>(T.opd x).map some
def place (l:Array Field) (i:Nat):Option (Nat × Nat) :=
 match l[i]? with
 | some f=>(T.size f.type).map (f.offset,·)
 | none=>none
def partsOf (place:Nat→Option (Nat × Nat)):List (Nat × Operand)→Option (List (Nat × Nat × aO))
 | []=>some []
 | (i,x)::rest=>match place i,T.opd x,partsOf place rest with
  | some (off,size),some p,some ps=>some ((off,size,p)::ps)
  | _,_,_=>none
def pZ:List (Nat × Operand)→Option (List (Nat × aO))
 | []=>some []
 | (i,x)::rest=>match T.opd x,pZ rest with
  | some p,some ps=>some ((i,p)::ps)
  | _,_=>none
def gz (d:Option Tmp):Bool :=
 match d with
 | some d=>T.ro.contains d
 | none=>false
def call (o:Oper) (c:Call):Option POp :=
 match c.callee with
 | .builtin b=>match b,c.args.toList,c.argTypes.toList with
  | .len,[x],[t]=>match T.P.underlying t with
   | some (.array n _)=>some (.mv (.const (.int .i64 n)))
   | some .string=>(T.opd x).map .aWY
   | some (.slice _)=>(T.opd x).map .len
   | some (.map _ _)=>(T.opd x).map .lenM
   | _=>none
  | .append,[x,y],[t,u]=>match T.P.underlying t,T.P.underlying u with
   | some (.slice e),some (.slice _)=>match T.P.info? e,T.opd x,T.opd y with
    | some i,some a,some b=>if t=u∧i.zero.isSome∧(i.zero.map (·.cells.size))=some i.size∧0<i.size then some (.append i.size i.bytes a b) else none
    | _,_,_=>none
   | _,_=>none
  | .cap,[x],[t]=>match T.P.underlying t with
   | some (.slice _)=>(T.opd x).map .aXH
   | _=>none
  | .max,[x,y],_=>match T.opd x,T.opd y with
   | some a,some b=>some (.aWT true a b)
   | _,_=>none
  | .min,[x,y],_=>match T.opd x,T.opd y with
   | some a,some b=>some (.aWT false a b)
   | _,_=>none
  | _,_,_=>none
 | .value (.func f)=>match T.name f,T.UY c.args.toList with
  | some n,some xs=>if T.num n=f then some (.call n xs) else none
  | _,_=>none
 | .value (.tmp t)=>(T.UY c.args.toList).map (.aXA (.tmp t))
 | _=>none
def op (o:Oper):Option POp :=
 match o.op with
 | .move x | .assign x=>(T.opd x).map .mv
 | .pick c a b=>match T.opd c,T.opd a,T.opd b with
  | some c,some a,some b=>some (.pick c a b)
  | _,_,_=>none
 | .alloc e=>(T.zero e).map .alloc
 | .box _ x=>(T.opd x).map (.box (T.gz o.dst))
 | .build t parts=>match T.zero t,T.P.underlying t with
  | some z,some (.struct U)=>if (U.toList.mapM (fun f=>(T.P.info? f.type).map fun i=>(f.offset,i.size))).isSome then
    (T.partsOf (T.place U) parts.toList).map (.build z)
   else none
  | some z,some (.array _ e)=>match T.size e with
   | some s=>(T.partsOf (fun i=>some (i*s,s)) parts.toList).map (.build z)
   | none=>none
  | _,_=>none
 | .buildSlice t len parts=>match T.P.underlying t with
  | some (.slice e)=>match T.size e,T.zero e,T.pZ parts.toList with
   | some s,some z,some ps=>if z.length=s∧0<s then some (.aWF (T.gz o.dst) s len z ps) else none
   | _,_,_=>none
  | _=>none
 | .load t a=>match T.isAgg t,T.size t,T.opd a with
  | some true,some n,some p=>some (.load (some n) p)
  | some false,_,some p=>some (.load none p)
  | _,_,_=>none
 | .store t a x=>match T.size t,T.opd a,T.opd x with
  | some n,some p,some v=>some (.store n p v)
  | _,_,_=>none
 | .nilCheck x=>(T.opd x).map .aWL
 | .binOp b t x y _=>match T.opd x,T.opd y with
  | some p,some q=>match b with
   | .eql=>match T.P.underlying t with
    | some (.int _) | some .string=>some (.bin .eql p q)
    | some .bool=>some (.eqb false p q)
    | some (.struct _)=>(T.flat t).map fun ks=>.eqs false ks p q
    | some (.slice _)=>match q with
     | .const .aB=>some (.isNil false p)
     | _=>none
    | _=>none
   | .neq=>match T.P.underlying t with
    | some (.int _) | some .string=>some (.bin .neq p q)
    | some .bool=>some (.eqb true p q)
    | some (.struct _)=>(T.flat t).map fun ks=>.eqs true ks p q
    | some (.slice _)=>match q with
     | .const .aB=>some (.isNil true p)
     | _=>none
    | _=>none
   | b=>some (.bin b p q)
  | _,_=>none
 | .unOp u _ x=>(T.opd x).map (.un u)
 | .convert s d x=>match T.P.underlying s,T.P.underlying d,T.opd x with
  | some (.int _),some (.int k),some p=>some (.conv k p)
  | some .string,some .string,some p=>some (.same p)
  | some (.slice e),some .string,some p=>match T.P.underlying e with
   | some (.int .u8)=>some (.aWM p)
   | _=>none
  | _,_,_=>none
 | .makeFunc (.func f) R captured=>match T.name f,T.UY captured.toList with
  | some n,some cs=>if T.num n=f∧R.size=0 then some (.mkfn n cs) else none
  | _,_=>none
 | .makeMap t none=>match T.P.underlying t with
  | some (.map k _)=>(T.kF k).map .aXE
  | _=>none
 | .lookup t x k ok=>match T.P.underlying t with
  | some (.map kt et)=>match T.kF kt,(T.P.info? et).bind (·.zero),T.opd x,T.opd k with
   | some sh,some z,some p,some q=>(ofValue z).map fun z=>.lookup sh z p q ok
   | _,_,_,_=>none
  | _=>none
 | .mapUpdate t x k v=>match T.P.underlying t with
  | some (.map kt _)=>match T.kF kt,T.opd x,T.opd k,T.opd v with
   | some sh,some p,some q,some r=>some (.aWQ sh p q r)
   | _,_,_,_=>none
  | _=>none
 | .insert t x k v=>match T.P.underlying t with
  | some (.map kt _)=>match T.kF kt,T.opd x,T.opd k,T.opd v with
   | some sh,some p,some q,some r=>some (.insert sh p q r)
   | _,_,_,_=>none
  | _=>none
 | .makeSlice t l c=>match T.P.underlying t with
  | some (.slice e)=>match T.P.info? e,T.zero e,T.opd l,T.opd c with
   | some i,some z,some a,some b=>if z.length=i.size∧0<i.size then some (.aWH i.size i.bytes z a b) else none
   | _,_,_,_=>none
  | _=>none
 | .slice t x lo hi mx=>match T.P.underlying t,T.opd x,T.opt lo,T.opt hi,T.opt mx with
  | some (.slice e),some p,some l,some h,some m=>if mx.isSome=true∧hi.isNone=true then none else (T.size e).map fun s=>.slice s p l h m
  | some .string,some p,some l,some h,some none=>some (.aWV p l h)
  | some (.array n e),some p,some none,some none,some none=>(T.size e).map fun s=>.sliceA n s p none none none
  | _,_,_,_,_=>none
 | .fieldAddr t x f=>match T.P.underlying t,T.opd x with
  | some (.struct U),some p=>match U[f]? with
   | some J=>match T.size J.type with
    | some (_+1)=>some (.aXB J.offset p)
    | _=>none
   | none=>none
  | _,_=>none
 | .field t x f=>match T.P.underlying t,T.opd x with
  | some (.struct U),some p=>match U[f]? with
   | some J=>match T.isAgg J.type,T.size J.type with
    | some true,some n=>some (.field J.offset (some n) p)
    | some false,_=>some (.field J.offset none p)
    | _,_=>none
   | none=>none
  | _,_=>none
 | .indexAddr t x i=>match T.P.underlying t,T.opd x,T.opd i with
  | some (.slice e),some p,some q=>(T.size e).map fun s=>.aWP s p q
  | some (.array n e),some p,some q=>(T.size e).map fun s=>.idxA n s p q
  | _,_,_=>none
 | .index t x i=>match T.P.underlying t,T.opd x,T.opd i with
  | some (.array n e),some p,some q=>match T.size e,T.isAgg e with
   | some s,some g=>some (.idxV n s g p q)
   | _,_=>none
  | some .string,some p,some q=>some (.aWZ p q)
  | _,_,_=>none
 | .extract x i=>(T.opd x).map (.extract · i)
 | .call c=>T.call o c
 | _=>none
def OQ (n:Nat) (ops:Array Oper) (o:Oper):Option aR :=
 let p:=(T.op o).getD .stuck
 if o.dst.all (·<n) then
  match o.guard with
  | none=>some ⟨o.dst,p,none⟩
  | some (j,i)=>match (ops[j]?).bind (·.dst) with
   | some t=>some ⟨o.dst,p,some (t,i)⟩
   | none=>none
 else none
def pD (n:Nat) (ops:Array Oper):List Oper→Option (List aR)
 | []=>some []
 | o::os=>match T.OQ n ops o,pD n ops os with
  | some i,some l=>some (i::l)
  | _,_=>none
end Tbl
end Go.PM
namespace Go.PM
open Go
structure cQ (ds:List Deferred) (n:Nat) (E:Env) (F:PF) (a:Act):Prop where
 size:a.tmps.size=n
 defers:a.defers=ds
 t:∀ i pv,F i=some pv→aU E pv (a.tmps.getD i undef)
theorem cQ.mono {ds:List Deferred} {n:Nat} {E l:Env} (h:E.le l) {F:PF} {a:Act} (r:cQ ds n E F a):cQ ds n l F a:=⟨r.size,r.defers,fun i pv hi=>(r.t i pv hi).mono h⟩
theorem cQ.weaken {ds:List Deferred} {n:Nat} {E:Env} {F l:PF} {a:Act} (r:cQ ds n E F a) (h:l.le F):cQ ds n E l a:=⟨r.size,r.defers,fun i pv hi=>r.t i pv (h i pv hi)⟩
theorem cQ.put {ds:List Deferred} {n:Nat} {E:Env} {F:PF} {a:Act} (r:cQ ds n E F a) {d:Option Tmp} (p:d.all (·<n)=true) {pv:PV} {v:Value} (h:aU E pv v):cQ ds n E (F.put d pv) (a.put d v):=by
 cases d with
 | none=>exact r
 | some d =>
  have l:d<n:=by simpa using p
  refine⟨by simp[Act.put,r.size],by simp[Act.put,r.defers],fun i J hi=>?_⟩;simp only[PF.put,PF.set,upd] at hi;split at hi
  ·rename_i e;subst e;cases hi;simp only[Act.put,a0V];rw[Array.getElem?_setIfInBounds];simp[r.size,l,h]
  ·rename_i e;have:=r.t i J hi;simp only[Act.put,a0V] at this ⊢;rw[Array.getElem?_setIfInBounds,if_neg Om];exact this
section
variable {ds:List Deferred} {T:Tbl} {n:Nat} {E:Env} {F:PF} {H:PH} {a:Act} {w:World}
theorem aV {x:Operand} {p:aO} {pv:PV} (i:T.opd x=some p) (l:p.ev F=some pv) (J:cQ ds n E F a) (R:E.num=T.num):aU E pv (a.eval x):=by
 cases x with
 | tmp t =>simp[Tbl.opd] at i;subst i;exact J.t t pv l
 | const v =>simp only[Tbl.opd,aXO] at i;obtain⟨q,hq,rfl⟩:=i;simp[aO.ev] at l;subst l;exact sP hq
 | global g=>simp[Tbl.opd] at i
 | func f =>
  simp only[Tbl.opd] at i;split at i
  ·rename_i m hm;split at i
   ·rename_i U;cases i;simp[aO.ev] at l;subst l;have:=aU.fn (E:=E) (name:=m) (captured:=[]) #[] rfl (by intro j pv v h; simp at h);rw[R,U] at this;exact this
   ·cases i
  ·cases i
theorem uR {xs:List Operand}:∀ {ps:List aO} {i:List PV},T.UY xs=some ps→aO.evs F ps=some i→cQ ds n E F a→E.num=T.num→dY E i (xs.map a.eval):=by
 induction xs with
 | nil =>intro ps i l J _ _;simp[Tbl.UY] at l; subst l;simp[aO.evs] at J; subst J;exact .nil
 | cons x xs ih =>
  intro ps i l J hA hN;simp only[Tbl.UY] at l;split at l
  ·rename_i p α hp R;cases l;simp only[aO.evs] at J;split at J
   ·rename_i v vs hv U;cases J;exact .cons (aV hp hv hA hN) (ih R U hA hN)
   ·cases J
  ·cases l
theorem bE.Mk (hW:bE E H w) {b off:Nat} {u:Value} (h:E.cell b off=some u):w.cell? ⟨b,off,none⟩=some u:=by
 unfold Env.cell at h;cases i:E.G b with
 | none=>simp[i] at h
 | some cs =>obtain⟨-,ty,l,p⟩:=hW.g b cs i;rw[cell_of_row w b off cs ty l p];simpa [i] using h
theorem add_plain (b off i:Nat):(⟨b,off,none⟩:Addr).add i=⟨b,off+i,none⟩:=by unfold Addr.add; split<;>simp_all
theorem lZ {i:Addr} (h:i.spot=none):i=⟨i.block,i.off,none⟩:=by cases i; simp_all
theorem mV {pv:PV} {v:Value} (hW:bE E H w) (hv:aU E pv v) {k:Nat} {cs:List PV} (h:loadCells H pv k=some cs) :
  ∃ b off,v=.pointer (some ⟨b,off,none⟩)∧cs.length=k∧∃ us:List Value,us.length=k∧(∀ u∈us,u.oneCell'=true) ∧
   (∀ (j:Nat) u,us[j]?=some u→w.cell? ⟨b,off+j,none⟩=some u)∧∀ (j:Nat) q u,cs[j]?=some q→us[j]?=some u→aU E q u:=by
 unfold loadCells at h;split at h
 ·rename_i o size i c;cases hv;split at h
  ·rename_i s rs ho;split at h
   ·rename_i hs;subst hs;split at h
    ·rename_i r hr;split at h
     ·rename_i ζ;cases h;obtain⟨-,U,ty,hh,θ,ε,δ,hc⟩:=hW.h o _ ho;have α:∀ j,j<k→∃ u,U[i*s+(c+j)]?=some u∧u.oneCell'=true∧aU E (r.getD (c+j) .junk) u:=by intro j hj;refine hc i (c+j) _ ?_;simp only[at2,hr,a0U,aYK];rw[aXT Om];rfl
      refine⟨o,i*s+c,rfl,by simp; omega,?_⟩;refine⟨(aXQ k).map fun j=>(U[i*s+(c+j)]?).getD undef,by simp,?_,?_,?_⟩
      ·intro u J;simp only[aYH,aYV] at J;obtain⟨j,hj,rfl⟩:=J;obtain⟨u,h1,h2,-⟩:=α j hj;simp[h1,h2]
      ·intro j u J;simp only[aYG,aXO] at J;obtain⟨j',l,rfl⟩:=J;have p:j<k:=by
        rcases aXZ j k with h | h
        ·exact h
        ·rw[aYT (by simpa using h)] at l; cases l
       rw[List.getElem?_range p] at l;cases l;obtain⟨u,h1,-,-⟩:=α j p;rw[cell_of_row w o _ U ty (0,0) hh,aZO,h1];rfl
      ·intro j q u hq J;simp only[aYG,aXO] at J;obtain⟨j',l,rfl⟩:=J;have p:j<k:=by
        rcases aXZ j k with h | h
        ·exact h
        ·rw[aYT (by simpa using h)] at l; cases l
       rw[List.getElem?_range p] at l;cases l;obtain⟨u,h1,-,h3⟩:=α j p;have β:r.getD (c+j) .junk=q:=by rw[a0Q,if_pos p,List.getElem?_drop] at hq;simp[hq]
       rw[← β,h1];exact h3
     ·cases h
    ·cases h
   ·cases h
  ·cases h
 ·rename_i cells;cases hv with
  | cO u γ hc h1 hr =>
  rename_i ad;split at h
  ·rename_i η;cases h;refine⟨ad.block,ad.off,by rw[← lZ γ],by simp; omega,(aXQ k).map u,by simp,?_,?_,?_⟩
   ·intro x R;simp only[aYH] at R;obtain⟨j,-,rfl⟩:=R;exact h1 j
   ·intro j x R;simp only[aYG,aXO] at R;obtain⟨j',l,rfl⟩:=R;have p:j<k:=by
     rcases aXZ j k with h | h
     ·exact h
     ·rw[aYT (by simpa using h)] at l; cases l
    rw[List.getElem?_range p] at l;cases l;exact hW.Mk (hc j _ (aXT Om))
   ·intro j q x hq R;simp only[aYG,aXO] at R;obtain⟨j',l,rfl⟩:=R;have p:j<k:=by
     rcases aXZ j k with h | h
     ·exact h
     ·rw[aYT (by simpa using h)] at l; cases l
    rw[List.getElem?_range p] at l;cases l;rw[a0Q,if_pos p] at hq;exact hr j q hq
  ·cases h
 ·cases h
theorem aaJ {op : BinOp} {px py pv : PV} {x y : Value} (l : aU E px x) (p : aU E py y) (h : PV.bin op px py = some pv) (t : TypeId) (ox oy : Operand) :
    ∃ v, (do eqGuard op t ox oy x y; binOp op t x y : Sem Value).run T.P w = .ok v w ∧ aU E pv v := by
  unfold PV.bin at h;split at h
  · cases l; cases p
    unfold shift at h;split at h
    · cases h
    · rename_i i
      cases h;exact ⟨_, by simp [eqGuard, binOp, Op.shift, i], .int _ _⟩
  · cases l; cases p
    unfold shift at h;split at h
    · cases h
    · rename_i i
      cases h;exact ⟨_, by simp [eqGuard, binOp, Op.shift, i], .int _ _⟩
  · rename_i α k a k' b n1 n2
    cases l; cases p;split at h
    · rename_i hk
      subst hk;cases op <;> simp only [kA] at h <;>
        first
          | (cases h; refine ⟨_, ?_, aU.int _ _⟩; simp [eqGuard, binOp, Op.intArith, Op.intBits]; done)
          | (cases h; refine ⟨_, ?_, aU.bool _⟩; simp [eqGuard, binOp, Op.intCmp]; done)
          | (split at h
             · cases h
             · rename_i i
               cases h;refine ⟨_, ?_, aU.int _ _⟩;simp [eqGuard, binOp, Op.intDiv, i])
          | cases h
    · cases h
  · rename_i α a b
    cases l with
    | str s =>
    cases p with
    | str s' =>
    cases op <;> simp only [IB] at h <;>
      first
        | (cases h; refine ⟨_, ?_, aU.bool _⟩; simp [eqGuard, binOp, Op.stringOp, ByteArray.toList_eq]; done)
        | (split at h
           · cases h
           · rename_i i
             cases h;refine ⟨.string (s ++ s'), ?_, ?_⟩
             · have U : ¬ (((s.size + s'.size : Nat) : Int) > IntKind.i64.max) := by
                 intro hh;apply i;have J : s.data.toList.length = s.size := by rw [a0J]; rfl
                 have R : s'.data.toList.length = s'.size := by rw [a0J]; rfl
                 rw [J, R];exact hh
               have J : Op.stringOp .add s s' = pure (.string (s ++ s')) := by unfold Op.stringOp; exact if_neg U
               have R : binOp .add t (.string s) (.string s') = pure (.string (s ++ s')) := by unfold binOp; exact J
               simp [eqGuard, R]
             · have e : s.data.toList ++ s'.data.toList = (s ++ s').data.toList := by rw [ByteArray.data_append, Array.toList_append]
               rw [e];exact .str _)
        | cases h
  · cases h
theorem awI {u:UnOp} {l pv:PV} {x:Value} (i:aU E l x) (h:PV.un u l=some pv):∃ v,(Op.unary u x).run T.P w=.ok v w∧aU E pv v:=by
 unfold PV.un at h;split at h
 ·cases i;split at h
  ·cases h; exact⟨_,by simp[Op.unary,Op.intArith],.int _ _⟩
  ·cases h; exact⟨_,by simp[Op.unary,Op.intBits],.int _ _⟩
  ·cases h
 ·cases i;split at h
  ·cases h; exact⟨_,by simp[Op.unary],.bool _⟩
  ·cases h
 ·cases h
end
open Go Go.RowKit
def Yields (P:Program) (E:Env) (H:PH) (w:World) (s:Sem Value) (pv:PV):Prop :=
 ∃ v l i,s.run P w=.ok v l∧aU i pv v∧bE i H l∧Ext E H w i H l
theorem Yields.same {P:Program} {E:Env} {H:PH} {w:World} {s:Sem Value} {pv:PV} {v:Value} (hW:bE E H w) (h:s.run P w=.ok v w) (r:aU E pv v):Yields P E H w s pv :=
 ⟨v,w,E,h,r,hW,.refl E H w⟩
def Env.add (E:Env) (b:Nat) (cs:Array Value):Env:=⟨upd E.G b (some cs),upd E.sz b (some cs.size),E.num⟩
section
variable {T:Tbl} {n:Nat} {E:Env} {F:PF} {H:PH} {a:Act} {w:World}
theorem bE.T1 (hW:bE E H w) {b:Nat} {cs:Array Value} (h:E.G b=some cs):b<w.heap.size:=by
 obtain⟨-,ty,l,i⟩:=hW.g b cs h;exact (a0M.1 i).1
theorem bE.Gj (hW:bE E H w) {b n:Nat} (h:E.sz b=some n):b<w.heap.size:=by
 obtain⟨i,ty,p,l,-⟩:=hW.s b n h;exact (a0M.1 l).1
theorem bE.Uc (hW:bE E H w):H w.heap.size=none:=by
 cases h:H w.heap.size with
 | none=>rfl
 | some x=>have:=(hW.h _ x h).1; omega
theorem Env.aJI (hW:bE E H w) (cs:Array Value):E.le (E.add w.heap.size cs):=by
 refine⟨fun b ds h=>?_,fun b m h=>?_,rfl⟩
 ·have:=hW.T1 h;simp only[Env.add];rw[NO _ _ Om];exact h
 ·have:=hW.Gj h;simp only[Env.add];rw[NO _ _ Om];exact h
theorem bE.ayP (hW:bE E H w) (cs:Array Value) (ty:TypeId):bE (E.add w.heap.size cs) H (w.alloc (.cells cs ty))∧Ext E H w (E.add w.heap.size cs) H (w.alloc (.cells cs ty)):=by
 have J:=Env.aJI hW cs;refine⟨⟨fun b ds h=>?_,fun o x h=>?_,fun o m h=>?_⟩,⟨J,rfl,rfl,rfl,by simp,fun b hb _=>Below.heap_alloc w _ b hb,fun o x h=>.inl ⟨x,h⟩,fun b ds h=>?_⟩⟩
 ·simp only[Env.add,upd] at h;split at h
  ·rename_i e;cases h;subst e;exact⟨fun x hx=>by (rw[hW.Uc] at hx; cases hx),ty,(0,0),heap_alloc_new w _⟩
  ·obtain⟨l,i,U,p⟩:=hW.g b ds h;exact⟨l,i,U,(Below.heap_alloc w _ b (hW.T1 h)).trans p⟩
 ·obtain⟨l,p⟩:=hW.h o x h;exact⟨by simp; omega,p.mono J (Below.heap_alloc w _ o l)⟩
 ·simp only[Env.add,upd] at h;split at h
  ·rename_i e;cases h;subst e;exact⟨cs,ty,(0,0),heap_alloc_new w _,rfl⟩
  ·obtain⟨R,i,U,l,p⟩:=hW.s o m h;exact⟨R,i,U,(Below.heap_alloc w _ o (hW.Gj h)).trans l,p⟩
 ·simp only[Env.add,upd] at h;split at h
  ·rename_i e; exact .inr (.inr Om)
  ·exact .inl h
theorem U3 {pv:PV} {v:Value} (h:aU E pv v) (i:pv.one=true):v.oneCell'=true:=by
 cases h with
 | lit v=>cases v<;>first | rfl | (simp[PV.one] at i)
 | junk v=>simp[PV.one] at i
 | agg vs=>simp[PV.one] at i
 | tup vs=>simp[PV.one] at i
 | _=>rfl
theorem sW {pv:PV} {v:Value} (h:aU E pv v) (J:pv.cells.all PV.one=true) :
  v.cells.size=pv.cells.length∧(∀ u∈v.cells.toList,u.oneCell'=true)∧∀ (j:Nat) q u,pv.cells[j]?=some q→v.cells[j]?=some u→aU E q u:=by
 by_cases i:∃ cs,pv=.agg cs
 ·obtain⟨cs,rfl⟩:=i;cases h with
  | agg vs hl l hr=>exact⟨hl,l,hr⟩
 ·have U:pv.cells=[pv]:=by cases pv<;>first | rfl | (exact absurd ⟨_,rfl⟩ i)
  rw[U] at J ⊢;have l:v.oneCell'=true:=U3 h (by simpa using J);have hv:v.cells=#[v]:=by cases v<;>first | rfl | (simp[Value.oneCell'] at l)
  rw[hv];refine⟨rfl,by simpa using l,fun j q u p R=>?_⟩;cases j with
  | zero=>simp at p R; subst p; subst R; exact h
  | succ j=>simp at p
theorem mm {c:Sc} {p q:PV} {x y:Value} (J:aU E p x) (R:aU E q y) {b:Bool} (h:PV.eq1 c p q=some b) {t:TypeId} (i:T.scalar t=some c) (d:Nat) :
  (Op.equalIn (d+1) t x y).run T.P w=.ok b w:=by
 unfold Tbl.scalar at i;unfold PV.eq1 at h;split at h
 ·cases J; cases R;split at h
  ·rename_i e;subst e;cases h;split at i<;>cases i;rename_i k2 l;exact run_equalIn_int w d t _ k2 _ _ l
  ·cases h
 ·cases J; cases R; cases h;split at i<;>cases i;rename_i l;exact run_equalIn_bool w d t _ _ l
 ·cases J with
  | str s =>
  cases R with
  | str s' =>
  cases h;split at i<;>cases i;rename_i l;rw[run_equalIn_string w d t s s' l,ByteArray.toList_eq,ByteArray.toList_eq]
 ·cases h
theorem FW {t:TypeId} {c:Sc} (l:T.scalar t=some c) (cs:Array Value) (k:Nat) (v:Value) (p:cs[k]?=some v):(part t cs k).run T.P w=.ok v w:=by
 have i:(isAgg t).run T.P w=.ok false w:=by unfold Tbl.scalar at l;split at l<;>cases l<;>(rename_i J; simp[isAgg,run_underlying J])
 simp[part,i,p]
theorem JE (d:Nat) (vs p:Array Value):∀ (J:List Field) (U:List Sc) (k:Nat) (xs ys:List PV) (b:Bool),T.pP k J=some U→PV.eqs U xs ys=some b →
  (∀ (j:Nat) q u,xs[j]?=some q→vs[k+j]?=some u→aU E q u)→(∀ (j:Nat) q u,ys[j]?=some q→p[k+j]?=some u→aU E q u) →
  vs.size=k+xs.length→p.size=k+ys.length→(Op.eqFields (d+1) vs p J).run T.P w=.ok b w
 | [],U,k,xs,ys,b,l,i,hx,hy,hl,hm=>by simp[Tbl.pP] at l;subst l;cases xs<;>cases ys<;>simp[PV.eqs] at i;subst i;simp[Op.eqFields]
 | f::J,U,k,xs,ys,b,l,i,hx,hy,hl,hm=>by
  simp only[Tbl.pP] at l;split at l
  ·rename_i c cs R α;split at l
   ·rename_i hn;cases l;cases xs with
    | nil=>simp[PV.eqs] at i
    | cons x xs =>
    cases ys with
    | nil=>simp[PV.eqs] at i
    | cons y ys =>
    simp only[PV.eqs] at i;simp only[aZA] at hl hm;have hv:vs[k]?=some vs[k]:=a0P Om;have hu:p[k]?=some p[k]:=a0P Om;have rx:aU E x vs[k]:=hx 0 x _ rfl (by simp);have ry:aU E y p[k]:=hy 0 y _ rfl (by simp);simp only[Op.eqFields];rw[if_pos hn.1];simp only[Sem.run_bind,hn.2,FW R vs k _ hv,FW R p k _ hu,Result.andThen_ok];split at i
    ·rename_i h1;rw[mm rx ry h1 R d];simp only[Result.andThen_ok,aXW,a0N,if_false];refine JE d vs p J cs (k+1) xs ys b α i (fun j q u a c=>hx (j+1) q u (by simpa using a) (by rw[← c]; congr 1; omega)) (fun j q u a c=>hy (j+1) q u (by simpa using a) (by rw[← c]; congr 1; omega)) Om Om
    ·rename_i h1;rw[mm rx ry h1 R d];simp only[Result.andThen_ok,aYJ,if_true,Sem.run_pure];split at i
     ·cases i; rfl
     ·cases i
    ·cases i
   ·cases l
  ·cases l
theorem abG (neg:Bool) (a b:Bool) {t:TypeId} (l p:Operand) (i:T.P.underlying t=some .bool) :
  (do eqGuard (if neg then .neq else .eql) t l p (.bool a) (.bool b); binOp (if neg then .neq else .eql) t (.bool a) (.bool b):Sem Value).run T.P w=.ok (.bool ((a==b) != neg)) w:=by
 cases neg
 ·simp[eqGuard,run_eql_bool w t a b i]
 ·simp[eqGuard,run_neq_bool w t a b i]
theorem Jo (neg:Bool) {pv:PV} {v:Value} (hx:aU E pv v) {b:Bool} (i:pv.BA=some b) {t e:TypeId} (J R:Operand) (p:T.P.underlying t=some (.slice e)) :
  (do eqGuard (if neg then .neq else .eql) t J R v (.slice none 0 0); binOp (if neg then .neq else .eql) t v (.slice none 0 0):Sem Value).run T.P w=.ok (.bool (b != neg)) w:=by
 have key:∀ (a:Option Addr) (l c:Nat),b=a.isNone→v=.slice a l c→(do eqGuard (if neg then .neq else .eql) t J R v (.slice none 0 0); binOp (if neg then .neq else .eql) t v (.slice none 0 0):Sem Value).run T.P w=.ok (.bool (b != neg)) w:=by
  intro a l c U h2;subst U h2;cases neg
  ·simp only[a0N,if_false,binOp];simp[eqGuard,run_equal_slice_nil w t e a l c p]
  ·simp only[if_true,binOp];simp[eqGuard,run_equal_slice_nil w t e a l c p]
 cases hx<;>simp only[PV.BA] at i<;>try cases i
 ·exact key _ _ _ rfl rfl
 ·rename_i rows _ _ _ _ _ _ ha _ _;cases rows with
  | nil=>cases i
  | cons r rs =>cases i;obtain⟨ad,rfl,-⟩:=ha (by simp);exact key _ _ _ rfl rfl
 ·exact key _ _ _ rfl rfl
theorem Ts (neg:Bool) {ks:List Sc} {xs ys:List PV} {x y:Value} (hx:aU E (.agg xs) x) (hy:aU E (.agg ys) y) {b:Bool} (hb:PV.eqs ks xs ys=some b) {t:TypeId} (ox oy:Operand)
  (i:T.flat t=some ks):(do eqGuard (if neg then .neq else .eql) t ox oy x y; binOp (if neg then .neq else .eql) t x y:Sem Value).run T.P w=.ok (.bool (b != neg)) w:=by
 cases hx with
 | agg vs hl ho hr =>
 cases hy with
 | agg p U β α =>
 unfold Tbl.flat at i;split at i
 ·rename_i fs hu;split at i
  ·rename_i R;have l:T.P.fieldsOf t=fs:=by simp[Program.fieldsOf,hu]
   have he:=JE (w:=w) 9998 vs p fs.toList ks 0 xs ys b i hb (fun j q u a c=>hr j q u a (by simpa using c)) (fun j q u a c=>α j q u a (by simpa using c)) (by simpa using hl) (by simpa using U);have J:=run_equalIn_struct w 9999 t vs p (by rw[l]; exact hu) R.1;rw[l,he] at J;cases neg
   ·simp[run_eqGuard_agg w .eql t ox oy vs p R.2,run_eql_struct,J]
   ·simp[run_eqGuard_agg w .neq t ox oy vs p R.2,run_neq_struct,J]
  ·cases i
 ·cases i
end
open Go Go.RowKit
def lM (E:Env) (cs:List PV) (vs:Array Value):Prop :=
 vs.size=cs.length∧(∀ v∈vs.toList,v.oneCell'=true)∧∀ (j:Nat) pv v,cs[j]?=some pv→vs[j]?=some v→aU E pv v
def VB (vs:Array Value) (c:Nat):List Value→Array Value
 | []=>vs
 | u::i=>VB (vs.setIfInBounds c u) (c+1) i
theorem GD (off:Nat):∀ (i:List Value) (k:Nat) (vs:Array Value),(i.zipIdx k).foldl (fun cs (x:Value × Nat)=>cs.setIfInBounds (off+x.2) x.1) vs=VB vs (off+k) i
 | [],_,_=>rfl
 | u::i,k,vs=>by simp only[List.zipIdx_cons,List.foldl_cons,VB];rw[GD off i (k+1)];rfl
theorem yE:∀ (ps:List PV) (c:Nat) (r:List PV),(setCells r c ps).length=r.length
 | [],_,_=>rfl
 | p::ps,c,r=>by simp[setCells,yE ps]
theorem lM.aTV {E:Env} {cs:List PV} {vs:Array Value} (h:lM E cs vs) {c:Nat} {p:PV} {u:Value} (r:aU E p u) (J:u.oneCell'=true):lM E (cs.set c p) (vs.setIfInBounds c u):=by
 obtain⟨R,U,hr⟩:=h;refine⟨by simp[R],fun v i=>?_,fun j pv v l i=>?_⟩
 ·simp only[Array.toList_setIfInBounds] at i;rcases List.mem_or_eq_of_mem_set i with i | rfl
  ·exact U v i
  ·exact J
 ·rw[List.getElem?_set] at l;rw[Array.getElem?_setIfInBounds] at i;split at l
  ·rename_i e;subst e;rw[if_pos rfl] at i;split at l
   ·rename_i hc;rw[if_pos Om] at i;cases l; cases i;exact r
   ·cases l
  ·rename_i e;rw[if_neg e] at i;exact hr j pv v l i
theorem lM.setCells {E:Env}:∀ (ps:List PV) (i:List Value) (c:Nat) (cs:List PV) (vs:Array Value),lM E cs vs→i.length=ps.length→(∀ u∈i,u.oneCell'=true) →
  (∀ (j:Nat) p u,ps[j]?=some p→i[j]?=some u→aU E p u)→lM E (setCells cs c ps) (VB vs c i)
 | [],[],_,_,_,h,_,_,_=>h
 | p::ps,u::i,c,cs,vs,h,l,J,R=>by simp only[PM.setCells,VB];exact lM.setCells ps i (c+1) _ _ (h.aTV (R 0 p u rfl rfl) (J u (by simp))) (by simpa using l) (fun x U=>J x (by simp[U])) (fun j q x a b=>R (j+1) q x (by simpa using a) (by simpa using b))
 | [],u::i,_,_,_,_,l,_,_=>by simp at l
 | p::ps,[],_,_,_,_,l,_,_=>by simp at l
theorem MN {E:Env}:∀ {vs:List Value} {ps:List PV},ofValues vs=some ps→ps.length=vs.length∧∀ (j:Nat) p v,ps[j]?=some p→vs[j]?=some v→aU E p v
 | [],ps,h=>by simp[ofValues] at h; subst h; simp
 | v::vs,ps,h=>by
  simp only[ofValues] at h;split at h
  ·rename_i p U J R;cases h;obtain⟨i,l⟩:=MN (E:=E) R;refine⟨by simp[i],fun j q u a b=>?_⟩;cases j with
   | zero=>simp at a b; subst a; subst b; exact sP J
   | succ j=>exact l j q u (by simpa using a) (by simpa using b)
  ·cases h
theorem MM:∀ {vs:List Value} {ps:List PV},ofValues vs=some ps→∀ v∈vs,v.oneCell'=true
 | [],_,_,v,i=>by simp at i
 | u::vs,ps,h,v,i=>by
  simp only[ofValues] at h;split at h
  ·rename_i p R l J;rcases aXP.1 i with rfl | i
   ·unfold ofValue at l;split at l<;>first | rfl | cases l
   ·exact MM J v i
  ·cases h
section
variable {ds:List Deferred} {T:Tbl} {n:Nat} {E:Env} {F:PF} {H:PH} {a:Act} {w:World}
theorem HJ {t:TypeId} {z:List PV} (h:T.zero t=some z):∃ i l,T.P.info? t=some i∧i.zero=some l∧lM E z l.cells:=by
 unfold Tbl.zero at h;cases hi:T.P.info? t with
 | none=>simp[hi] at h
 | some i =>
  cases J:i.zero with
  | none=>simp[hi,J] at h
  | some l =>simp only[hi,J,a0U] at h;obtain⟨R,U⟩:=MN (E:=E) h;exact⟨i,l,rfl,J,by simpa using R.symm,MM h,fun j p v a b=>U j p v a (by simpa using b)⟩
theorem CV {place:Nat→Option (Nat × Nat)} (hA:cQ ds n E F a) (hN:E.num=T.num):∀ (parts:List (Nat × Operand)) (pl:List (Nat × Nat × aO)) (cs out:List PV) (vs:Array Value),
  T.partsOf place parts=some pl→nY cs F pl=some out→lM E cs vs→∃ U,Instr.fill place vs (parts.map fun (i,x)=>(i,a.eval x))=some U∧lM E out U
 | [],pl,cs,out,vs,J,l,R=>by simp[Tbl.partsOf] at J; subst J;simp[nY] at l; subst l;exact⟨vs,rfl,R⟩
 | (i,x)::rest,pl,cs,out,vs,J,l,R=>by
  simp only[Tbl.partsOf] at J;split at J
  ·rename_i off size p ps hp hx α;cases J;simp only[nY] at l;split at l
   ·rename_i v hv;split at l
    ·rename_i hc;obtain⟨c1,c2,c3⟩:=sW (aV hx hv hA hN) hc.2.2;obtain⟨U,g1,g2⟩:=CV hA hN rest ps _ out _ α l (lM.setCells v.cells (a.eval x).cells.toList off cs vs R (by simpa using c1) c2 (fun j q u hq hu=>c3 j q u hq (by simpa using hu)));refine⟨U,?_,g2⟩;simp only[aYU,Instr.fill,hp];rw[if_neg (by simp; rw[c1,R.1]; omega)];have hz:Array.foldl (fun (cs:Array Value) (x:Value × Nat)=>cs.setIfInBounds (off+x.2) x.1) vs (a.eval x).cells.zipIdx=VB vs off (a.eval x).cells.toList:=by rw[← Array.foldl_toList,Array.toList_zipIdx];exact GD off _ 0 vs
     exact hz ▸ g1
    ·cases l
   ·cases l
  ·cases J
theorem F7 (R:Array Field) (J:List (Nat × Nat)) (h:R.toList.mapM (fun f=>(T.P.info? f.type).map fun i=>(f.offset,i.size))=some J) (i:Nat) :
  J[i]?=T.place R i:=by
 have key:∀ (l:List Field) (ps:List (Nat × Nat)) (i:Nat),l.mapM (fun f=>(T.P.info? f.type).map fun i=>(f.offset,i.size))=some ps →
   ps[i]?=match l[i]? with | some f=>(T.size f.type).map (f.offset,·) | none=>none:=by
  intro l
  induction l with
  | nil=>intro ps i h; simp at h; subst h; simp
  | cons f l ih =>
   intro ps i h;simp only[List.mapM_cons,Option.bind_eq_bind,Option.pure_def,a0T] at h;obtain⟨p,U,qs,hq,h⟩:=h;cases h;cases i with
   | zero =>simp only[List.getElem?_cons_zero,Tbl.size];rw[← U];cases T.P.info? f.type<;>rfl
   | succ i=>simpa using ih qs i hq
 have:=key R.toList J i h;rw[this,Array.getElem?_toList];unfold Tbl.place;cases R[i]?<;>rfl
end
open Go Go.RowKit
section
variable {ds:List Deferred} {T:Tbl} {n:Nat} {E:Env} {F:PF} {H:PH} {a:Act} {w:World}
theorem PL {t:TypeId} {parts:Array (Nat × Operand)} {z:List PV} {pl:List (Nat × Nat × aO)} {out:List PV} (hz:T.zero t=some z)
  (hp:(∃ fs:Array Field,T.P.underlying t=some (.struct fs)∧(fs.toList.mapM (fun f=>(T.P.info? f.type).map fun i=>(f.offset,i.size))).isSome=true∧T.partsOf (T.place fs) parts.toList=some pl) ∨
   (∃ k e s,T.P.underlying t=some (.array k e)∧T.size e=some s∧T.partsOf (fun i=>some (i*s,s)) parts.toList=some pl))
  (ho:nY z F pl=some out) (hA:cQ ds n E F a) (hN:E.num=T.num) :
  ∃ v,(Instr.build t (parts.map fun (i,x)=>(i,a.eval x))).run T.P w=.ok v w∧aU E (.agg out) v:=by
 obtain⟨it,zv,α,β,δ⟩:=HJ (E:=E) hz;rcases hp with ⟨fs,hu,hm,R⟩ | ⟨k,e,s,hu,hs,R⟩
 ·obtain⟨l,γ⟩:=Option.isSome_iff_exists.1 hm;obtain⟨U,h1,p⟩:=CV hA hN _ _ _ _ _ R ho δ;refine⟨.agg U,run_build w t _ U ?_,.agg U p.1 p.2.1 p.2.2⟩;simp only[Program.built,α,hu,β,γ];have ε:(fun (x:Nat)=>l.toArray[x]?)=T.place fs:=by funext i;rw[List.getElem?_toArray];exact F7 fs l γ i
  simp only[Array.toList_map];rw[ε];exact h1
 ·obtain⟨U,h1,p⟩:=CV hA hN _ _ _ _ _ R ho δ;refine⟨.agg U,run_build w t _ U ?_,.agg U p.1 p.2.1 p.2.2⟩;unfold Tbl.size at hs;cases J:T.P.info? e with
  | none=>simp[J] at hs
  | some ie =>simp[J] at hs;subst hs;simp only[Program.built,α,hu,β,J,Array.toList_map];exact h1
theorem sr {t:TypeId} {s:Nat} (h:T.size t=some s):∃ i,T.P.info? t=some i∧i.size=s:=by
 unfold Tbl.size at h;cases hi:T.P.info? t with
 | none=>simp[hi] at h
 | some i=>exact⟨i,rfl,by simpa [hi] using h⟩
theorem gW {t:TypeId} {s:Nat} (h:T.size t=some s):(sizeOf t).run T.P w=.ok s w:=by
 obtain⟨i,hi,rfl⟩:=sr h;simp[sizeOf,typeInfo,hi]
theorem uS {t:TypeId} {b:Bool} (h:T.isAgg t=some b):(isAgg t).run T.P w=.ok b w:=by
 unfold Tbl.isAgg at h;split at h
 ·rename_i i; cases h; simp[isAgg,run_underlying i]
 ·rename_i i; cases h; simp[isAgg,run_underlying i]
 ·rename_i d l p i;cases h;cases d<;>first
   | exact (l _ rfl).elim
   | exact (p _ _ rfl).elim
   | (simp[isAgg,run_underlying i]; done)
 ·cases h
theorem ZJ {t:TypeId} {pv i:PV} {v:Value} (R:T.isAgg t=some false) (hW:bE E H w) (U:aU E pv v) (h:loadCells H pv 1=some [i]) :
  ∃ u,(Instr.loadAt t v).run T.P w=.ok u w∧aU E i u:=by
 obtain⟨b,off,rfl,-,us,p,h1,l,J⟩:=mV hW U h
 match us,p with
 | [u],_ =>refine⟨u,?_,J 0 i u rfl rfl⟩;have:=l 0 u rfl;simp only[aZP] at this;simp[Instr.loadAt,Instr.sureAddr,loadVar,uS R,this]
theorem PY {t:TypeId} {k:Nat} {pv:PV} {cs:List PV} {v:Value} (ht:T.isAgg t=some true) (hs:T.size t=some k) (hW:bE E H w) (hv:aU E pv v) (h:loadCells H pv k=some cs) :
  ∃ u,(Instr.loadAt t v).run T.P w=.ok u w∧aU E (.agg cs) u:=by
 obtain⟨b,off,rfl,l,J,R,U,hc,hr⟩:=mV hW hv h;have i:=run_loadCells_list (P:=T.P) w ⟨b,off,none⟩ J (fun j u p=>by rw[add_plain]; exact hc j u p);refine⟨.agg J.toArray,?_,.agg J.toArray (by simp[R,l]) (by simpa using U) (fun j q u hq p=>hr j q u hq (by simpa using p))⟩;rw[R] at i;simp[Instr.loadAt,Instr.sureAddr,loadVar,uS ht,gW hs,i]
end
open Go Go.RowKit
section
variable {ds:List Deferred} {T:Tbl} {n:Nat} {E:Env} {F:PF} {H:PH} {a:Act} {w:World}
theorem YA {t e:TypeId} (h:T.P.underlying t=some (.slice e)):T.P.elem t=e∧T.P.underlying t=some (.slice (T.P.elem t)):=by
 have:T.P.elem t=e:=by simp[Program.elem,h]
 exact⟨this,by rw[this]; exact h⟩
theorem Tr {t e:TypeId} {k:Nat} (h:T.P.underlying t=some (.array k e)):T.P.elem t=e∧T.P.arrayLen t=k∧T.P.underlying t=some (.array (T.P.arrayLen t) (T.P.elem t)):=by
 have i:T.P.elem t=e:=by simp[Program.elem,h]
 have l:T.P.arrayLen t=k:=by simp[Program.arrayLen,h]
 exact⟨i,l,by rw[i,l]; exact h⟩
theorem sn {cs:List PV} {b off:Nat} (h:aU E (.cO cs) (.pointer (some ⟨b,off,none⟩))) (d:Nat):aU E (.cO (cs.drop d)) (.pointer (some ⟨b,off+d,none⟩)):=by
 cases h with
 | cO u R p l J =>refine .cO (fun j=>u (d+j)) rfl (fun j pv i=>?_) (fun j=>l _) (fun j pv i=>J (d+j) pv (by rw[← i,List.getElem?_drop]));have:=p (d+j) pv (by rw[← i,List.getElem?_drop]);simp only at this ⊢;rw[← this];congr 1;omega
theorem MX {cs:List PV} {v:Value} (h:aU E (.cO cs) v):∃ b off,v=.pointer (some ⟨b,off,none⟩):=by
 cases h with
 | cO u i J p R=>rename_i l; exact⟨l.block,l.off,by rw[← lZ i]⟩
theorem aBF {t e:TypeId} {s:Nat} {rows:List (List PV)} {v:Value} {k:IntKind} {i:Int} {r:List PV} (ht:T.P.underlying t=some (.slice e)) (hs:T.size e=some s)
  (hv:aU E (.sl s rows) v) (h0:0≤i) (p:rows[i.toNat]?=some r):∃ u,(Instr.indexAt t v (.int k i)).run T.P w=.ok u w∧aU E (.cO r) u:=by
 obtain⟨h1,h2⟩:=YA ht;cases hv with
 | sl u α β γ ha ho l =>
 rename_i a0 cap;have hlt:i.toNat<rows.length:=by
  rcases aXZ i.toNat rows.length with h | h
  ·exact h
  ·rw[aYT h] at p; cases p
 obtain⟨U,rfl,R,hc⟩:=ha (by intro h; subst h; simp at hlt);rw[lZ R];refine⟨.pointer (some ⟨U.block,U.off+i.toNat*s,none⟩),?_,?_⟩
 ·rw[run_indexAt_slice w t _ _ _ _ _ h2,if_pos ⟨h0,by omega⟩,h1,gW hs,Result.andThen_ok,add_plain]
 ·refine .cO (u i.toNat) rfl (fun j pv J=>?_) (fun j=>ho _ _) (fun j pv J=>l i.toNat j pv (by simp[at2,p,J]));simpa using hc i.toNat j pv (by simp[at2,p,J])
theorem arH {t e:TypeId} {o s off len:Nat} {v:Value} {k:IntKind} {i:Int} (ht:T.P.underlying t=some (.slice e)) (hs:T.size e=some s)
  (hv:aU E (.osl o s off len) v) (h0:0≤i) (hi:i<len):∃ u,(Instr.indexAt t v (.int k i)).run T.P w=.ok u w∧aU E (.ptr o s (off+i.toNat) 0) u:=by
 obtain⟨h1,h2⟩:=YA ht;cases hv with
 | osl hb γ l α β hn U =>
 rename_i cap m p;have R:p.off=off*s:=by
  rcases l with h | h
  ·omega
  ·exact h
 have J:p=⟨o,off*s,none⟩:=by cases p; simp_all
 subst J;refine⟨_,?_,.ptr o s _ 0⟩;rw[run_indexAt_slice w t _ _ _ _ _ h2,if_pos ⟨h0,hi⟩,h1,gW hs,Result.andThen_ok,add_plain,← aYM,aZP]
theorem ZC {t e:TypeId} {k s:Nat} {v:Value} {kk:IntKind} {i:Int} {J pv:PV} (ht:T.P.underlying t=some (.array k e)) (hs:T.size e=some s)
  (p:aU E J v) (R:0≤i) (hi:i<k) (l:(∃ o s0 r c,J=.ptr o s0 r c∧pv=.ptr o s0 r (c+i.toNat*s))∨(∃ cs,J=.cO cs∧pv=.cO (cs.drop (i.toNat*s)))) :
  ∃ u,(Instr.indexAt t v (.int kk i)).run T.P w=.ok u w∧aU E pv u:=by
 obtain⟨U,h2,h3⟩:=Tr ht;rcases l with ⟨o,s0,r,c,rfl,rfl⟩ | ⟨cs,rfl,rfl⟩
 ·cases p;refine⟨_,?_,.ptr o s0 r _⟩;rw[run_indexAt_array w t _ _ _ h3,h2,if_pos ⟨R,hi⟩,U,gW hs,Result.andThen_ok,add_plain,aZO]
 ·obtain⟨b,off,rfl⟩:=MX p;refine⟨_,?_,sn p _⟩;rw[run_indexAt_array w t _ _ _ h3,h2,if_pos ⟨R,hi⟩,U,gW hs,Result.andThen_ok,add_plain]
theorem JJ {t:TypeId} {R:Array Field} {f:Nat} {i:Field} {s:Nat} {v:Value} {J pv:PV} (ht:T.P.underlying t=some (.struct R)) (U:R[f]?=some i) (hs:T.size i.type=some (s+1))
  (p:aU E J v) (l:(∃ o s0 r c,J=.ptr o s0 r c∧pv=.ptr o s0 r (c+i.offset))∨(∃ cs,J=.cO cs∧pv=.cO (cs.drop i.offset))) :
  ∃ u,(Instr.fieldAt t v f).run T.P w=.ok u w∧aU E pv u:=by
 rcases l with ⟨o,s0,r,c,rfl,rfl⟩ | ⟨cs,rfl,rfl⟩
 ·cases p;refine⟨_,?_,.ptr o s0 r _⟩;simp[Instr.fieldAt,run_underlying ht,U,Instr.sureAddr,fieldPlace,gW hs,add_plain,aZO]
 ·obtain⟨b,off,rfl⟩:=MX p;refine⟨_,?_,sn p _⟩;simp[Instr.fieldAt,run_underlying ht,U,Instr.sureAddr,fieldPlace,gW hs,add_plain]
theorem F0 {t:TypeId} {cs:Array Value} {k:Nat} {u:Value} (i:T.isAgg t=some false) (h:cs[k]?=some u):(part t cs k).run T.P w=.ok u w:=by
 simp[part,uS i,h]
theorem se {t:TypeId} {cs:Array Value} {k s:Nat} (l:T.isAgg t=some true) (i:T.size t=some s):(part t cs k).run T.P w=.ok (.agg (cs.extract k (k+s))) w:=by
 simp[part,uS l,gW i]
theorem wj {cs:List PV} {vs:Array Value} {k:Nat} {pv:PV} (p:vs.size=cs.length) (l:∀ (j:Nat) pv v,cs[j]?=some pv→vs[j]?=some v→aU E pv v) (h:cs[k]?=some pv) :
  ∃ u,vs[k]?=some u∧aU E pv u:=by
 have hlt:k<cs.length:=by
  rcases aXZ k cs.length with i | i
  ·exact i
  ·rw[aYT i] at h; cases h
 exact⟨vs[k]'Om,a0P Om,l k pv _ h (a0P Om)⟩
theorem wk {cs:List PV} {vs:Array Value} {k s:Nat} (U:vs.size=cs.length) (p:∀ v∈vs.toList,v.oneCell'=true) (J:∀ (j:Nat) pv v,cs[j]?=some pv→vs[j]?=some v→aU E pv v) (h:k+s≤cs.length) :
  aU E (.agg ((cs.drop k).take s)) (.agg (vs.extract k (k+s))):=by
 refine .agg _ (by simp; omega) (fun v i=>p v ?_) (fun j pv v l i=>?_)
 ·simp only[Array.toList_extract] at i;exact List.mem_of_mem_drop (List.mem_of_mem_take i)
 ·rw[a0Q] at l;split at l
  ·rename_i R;rw[List.getElem?_drop] at l;refine J (k+j) pv v l ?_;rw[Array.getElem?_extract] at i;split at i
   ·exact i
   ·cases i
  ·cases l
theorem abJ {t:TypeId} {p:Array Field} {f:Nat} {i:Field} {cs:List PV} {v:Value} {pv:PV} (ht:T.P.underlying t=some (.struct p)) (J:p[f]?=some i) (R:T.isAgg i.type=some false)
  (hv:aU E (.agg cs) v) (h:cs[i.offset]?=some pv):∃ u,(Instr.field t v f).run T.P w=.ok u w∧aU E pv u:=by
 cases hv with
 | agg vs U h1 hr =>
 obtain⟨u,hu,l⟩:=wj U hr h;exact⟨u,by simp[Instr.field,run_underlying ht,J,asAgg,F0 R hu],l⟩
theorem Tt {t:TypeId} {l:Array Field} {f:Nat} {i:Field} {cs:List PV} {s:Nat} {v:Value} (ht:T.P.underlying t=some (.struct l)) (J:l[f]?=some i) (R:T.isAgg i.type=some true) (hs:T.size i.type=some s)
  (hv:aU E (.agg cs) v) (h:i.offset+s≤cs.length):∃ u,(Instr.field t v f).run T.P w=.ok u w∧aU E (.agg ((cs.drop i.offset).take s)) u:=by
 cases hv with
 | agg vs U p hr=>exact⟨_,by simp[Instr.field,run_underlying ht,J,asAgg,se R hs],wk U p hr h⟩
theorem Ud {t e:TypeId} {k s:Nat} {g:Bool} {cs:List PV} {v:Value} {kk:IntKind} {i:Int} {pv:PV} (ht:T.P.underlying t=some (.array k e)) (J:T.size e=some s) (U:T.isAgg e=some g)
  (hv:aU E (.agg cs) v) (R:0≤i) (hi:i<k) (h:(if g then (if i.toNat*s+s≤cs.length then some (.agg ((cs.drop (i.toNat*s)).take s)) else none) else cs[i.toNat*s]?)=some pv) :
  ∃ u,(Instr.index t v (.int kk i)).run T.P w=.ok u w∧aU E pv u:=by
 cases hv with
 | agg vs hl h1 hr =>
 cases g with
 | true =>
  simp only[if_true] at h;split at h
  ·rename_i l;cases h;exact⟨_,by simp[Instr.index,asIntOf,run_underlying ht,R,hi,gW J,se U J],wk hl h1 hr l⟩
  ·cases h
 | false =>simp only[a0N,if_false] at h;obtain⟨u,hu,p⟩:=wj hl hr h;exact⟨u,by simp[Instr.index,asIntOf,run_underlying ht,R,hi,gW J,F0 U hu],p⟩
theorem Cm {t:TypeId} {l:List UInt8} {v:Value} {kk:IntKind} {i:Int} {pv:PV} (ht:T.P.underlying t=some .string) (hv:aU E (.str l) v) (h0:0≤i) (h:(l[i.toNat]?).map (fun b=>PV.int .u8 b.toNat)=some pv) :
  ∃ u,(Instr.index t v (.int kk i)).run T.P w=.ok u w∧aU E pv u:=by
 cases hv with
 | str s =>
 simp only[aXO] at h;obtain⟨b,p,rfl⟩:=h;have R:s[i.toNat]?=some b:=by
  have hlt:i.toNat<s.data.toList.length:=by
   rcases aXZ i.toNat s.data.toList.length with J | J
   ·exact J
   ·rw[aYT J] at p; cases p
  have U:i.toNat<s.size:=by
   have e1:s.data.toList.length=s.size:=by rw[a0J]; rfl
   omega
  rw[getElem?_pos s i.toNat U];rw[aXT hlt] at p;cases p;rfl
 exact⟨_,by simp[Instr.index,asIntOf,run_underlying ht,h0,R],.int _ _⟩
theorem IC {x:Option Operand} {p:Option aO} {d m:Int} (i:T.opt x=some p) (h:bnd F d p=some m) (J:cQ ds n E F a) (R:E.num=T.num) :
  (x=none∧m=d)∨∃ o k,x=some o∧a.eval o=.int k m:=by
 cases x with
 | none =>simp[Tbl.opt] at i;subst i;simp[bnd] at h;exact .inl ⟨rfl,h.symm⟩
 | some o =>
  simp only[Tbl.opt,aXO] at i;obtain⟨q,hq,rfl⟩:=i;simp only[bnd,a0T] at h;obtain⟨pv,U,hi⟩:=h;have r:=aV hq U J R;unfold PV.intOf at hi;split at hi
  ·cases hi;generalize l:a.eval o=ev at r;cases r;exact .inr ⟨o,_,rfl,l⟩
  ·cases hi
theorem jN {isS:Bool} {lo hi mx:Option Operand} {pl ph pm:Option aO} {len cap:Nat} {l h:Int} (hl:T.opt lo=some pl) (hh:T.opt hi=some ph) (i:T.opt mx=some pm)
  (bl:bnd F 0 pl=some l) (bh:bnd F len ph=some h) (α:len≤cap) (h0:0≤l) (h1:l≤h) (h2:h≤len) (R:pm=none∨(hi≠none∧bnd F 0 pm=some h)) (p:cQ ds n E F a) (J:E.num=T.num) :
  ∃ m,(Instr.sliceBounds isS len cap (lo.map a.eval) (hi.map a.eval) (mx.map a.eval)).run T.P w=.ok (l.toNat,h.toNat,m) w∧h.toNat≤m∧m≤cap:=by
 have kl:=IC hl bl p J;have kh:=IC hh bh p J;rcases R with rfl | ⟨hne,bm⟩
 ·have U:mx=none:=by
   cases mx with
   | none=>rfl
   | some x =>simp only[Tbl.opt,aXO] at i;obtain⟨q,-,hq⟩:=i;cases hq
  subst U;refine⟨cap,?_,by omega,aXL _⟩;rcases kl with ⟨rfl,rfl⟩ | ⟨ol,k1,rfl,e1⟩<;>rcases kh with ⟨rfl,rfl⟩ | ⟨oh,k2,rfl,e2⟩
  ·simp[Instr.sliceBounds]
  ·simp only[Instr.sliceBounds,Option.map_none,aYX,e2,Sem.run_bind,Sem.run_pure,Result.andThen_ok,run_sliceBound w k2 h cap _ Om Om];rfl
  ·simp only[Instr.sliceBounds,Option.map_none,aYX,e1,Sem.run_bind,Sem.run_pure,Result.andThen_ok,run_sliceBound w k1 l len _ Om Om];simp
  ·simp only[Instr.sliceBounds,Option.map_none,aYX,e1,e2,Sem.run_bind,Sem.run_pure,Result.andThen_ok,run_sliceBound w k2 h cap _ Om Om,run_sliceBound w k1 l h.toNat _ Om Om]
 ·have km:=IC i bm p J;rcases km with ⟨rfl,β⟩ | ⟨om,k3,rfl,e3⟩
  ·simp[Tbl.opt] at i;subst i;refine⟨cap,?_,by omega,aXL _⟩;rcases kh with ⟨rfl,rfl⟩ | ⟨oh,k2,rfl,e2⟩
   ·exact absurd rfl hne
   ·rcases kl with ⟨rfl,rfl⟩ | ⟨ol,k1,rfl,e1⟩
    ·simp only[Instr.sliceBounds,Option.map_none,aYX,e2,Sem.run_bind,Sem.run_pure,Result.andThen_ok,run_sliceBound w k2 h cap _ Om Om];rfl
    ·simp only[Instr.sliceBounds,Option.map_none,aYX,e1,e2,Sem.run_bind,Sem.run_pure,Result.andThen_ok,run_sliceBound w k2 h cap _ Om Om,run_sliceBound w k1 l h.toNat _ Om Om]
  ·rcases kh with ⟨rfl,rfl⟩ | ⟨oh,k2,rfl,e2⟩
   ·exact absurd rfl hne
   ·refine⟨h.toNat,?_,aXL _,by omega⟩;rcases kl with ⟨rfl,rfl⟩ | ⟨ol,k1,rfl,e1⟩
    ·simp only[Instr.sliceBounds,Option.map_none,aYX,e2,e3,Sem.run_bind,Sem.run_pure,Result.andThen_ok,run_sliceBound w k3 h cap _ Om Om,run_sliceBound w k2 h h.toNat _ Om Om];rfl
    ·simp only[Instr.sliceBounds,Option.map_none,aYX,e1,e2,e3,Sem.run_bind,Sem.run_pure,Result.andThen_ok,run_sliceBound w k3 h cap _ Om Om,run_sliceBound w k2 h h.toNat _ Om Om,run_sliceBound w k1 l h.toNat _ Om Om]
end
open Go Go.RowKit
section
variable {ds:List Deferred} {T:Tbl} {n:Nat} {E:Env} {F:PF} {H:PH} {a:Act} {w:World}
theorem L4 {rows:List (List PV)} {l h i j:Nat} {pv:PV} (e:at2 ((rows.take h).drop l) i j=some pv):at2 rows (l+i) j=some pv:=by
 unfold at2 at *
 rw[List.getElem?_drop,a0Q] at e;split at e
 ·exact e
 ·simp at e
theorem sG {t e:TypeId} {s l h m len cap:Nat} {i:Option Addr} {lo hi mx:Option Value} (R:T.P.underlying t=some (.slice e)) (J:T.size e=some s)
  (p:(Instr.sliceBounds true len cap lo hi mx).run T.P w=.ok (l,h,m) w) :
  (Instr.sliceAt t (.slice i len cap) lo hi mx).run T.P w=.ok (.slice (if m=l then i else i.map (·.add (l*s))) (h-l) (m-l)) w:=by
 simp[Instr.sliceAt,Instr.slice,run_underlying R,p,gW J]
theorem zV {t e : TypeId} {s : Nat} {x : Value} {lo hi mx : Option Operand} {pl ph pm : Option aO} {len : Nat} {l h : Int} {px pv : PV} (ht : T.P.underlying t = some (.slice e)) (hs : T.size e = some s)
    (hl : T.opt lo = some pl) (hh : T.opt hi = some ph) (hm : T.opt mx = some pm) (hx : aU E px x) (bl : bnd F 0 pl = some l) (bh : bnd F len ph = some h)
    (p : (px = .aB ∧ len = 0) ∨ (∃ s0 rows, px = .sl s0 rows ∧ len = rows.length) ∨ (∃ o s0 off, px = .osl o s0 off len))
    (σ : (pm = none ∧ PV.slice s px l h none = some pv) ∨ (hi ≠ none ∧ ∃ m, bnd F 0 pm = some m ∧ PV.slice s px l h (some m) = some pv)) (hA : cQ ds n E F a) (hN : E.num = T.num) :
    ∃ v, (Instr.sliceAt t x (lo.map a.eval) (hi.map a.eval) (mx.map a.eval)).run T.P w = .ok v w ∧ aU E pv v := by
  have J : ∃ m0, PV.slice s px l h m0 = some pv ∧ (m0 = none → pm = none) ∧ ∀ m, m0 = some m → hi ≠ none ∧ bnd F 0 pm = some m := by
    rcases σ with ⟨h1, h2⟩ | ⟨h1, m, h2, h3⟩
    · exact ⟨none, h2, fun _ => h1, fun m hm => by cases hm⟩
    · exact ⟨some m, h3, fun h => (by cases h), fun m' ξ => by cases ξ; exact ⟨h1, h2⟩⟩
  obtain ⟨m0, J, hn, α⟩ := J;rcases p with ⟨rfl, rfl⟩ | ⟨s0, rows, rfl, rfl⟩ | ⟨o, s0, off, rfl⟩
  · simp only [PV.slice] at J
    split at J
    · rename_i hc
      cases J;obtain ⟨rfl, rfl, R⟩ := hc;cases hx;obtain ⟨m, hb, δ, ε⟩ := jN (T := T) (E := E) (w := w) (isS := true) (len := 0) (cap := 0) hl hh hm bl bh (aXL _) Om Om Om
        (by rcases R with rfl | rfl
            · exact .inl (hn rfl)
            · exact .inr (α 0 rfl)) hA hN
      have ο : m = 0 := Om;subst ο;refine ⟨_, sG ht hs hb, ?_⟩;simp;exact .aB
    · cases J
  · simp only [PV.slice] at J
    split at J
    · rename_i hc
      cases J;obtain ⟨rfl, h0, h1, h2, R⟩ := hc;cases hx with
      | sl u γ ζ ν ha ho μ =>
      rename_i a0 cap;obtain ⟨m, hb, δ, ε⟩ := jN (T := T) (E := E) (w := w) (isS := true) (len := rows.length) (cap := cap) hl hh hm bl bh γ h0 h1 h2
        (by rcases R with rfl | rfl
            · exact .inl (hn rfl)
            · exact .inr (α h rfl)) hA hN
      refine ⟨_, sG ht hs hb, ?_⟩;have p : ((rows.take h.toNat).drop l.toNat).length = h.toNat - l.toNat := by rw [aZI, aYA]; omega
      rw [← p];refine .sl (fun i j => u (l.toNat + i) j) (by rw [p]; omega) Om (fun r hr => ν r (List.mem_of_mem_take (List.mem_of_mem_drop hr))) (fun ρ => ?_) (fun i j => ho _ _) (fun i j pv hp => μ _ _ pv (L4 hp));have κ : 0 < ((rows.take h.toNat).drop l.toNat).length := List.length_pos_iff.2 ρ;rw [p] at κ;obtain ⟨ad, rfl, U, hc⟩ := ha (by intro e; subst e; simp at h2; omega);rw [if_neg Om];refine ⟨⟨ad.block, ad.off + l.toNat * s0, none⟩, ?_, rfl, fun i j pv hp => ?_⟩
      · rw [aYX, lZ U, add_plain]
      · have := hc (l.toNat + i) j pv (L4 hp)
        show E.cell ad.block (ad.off + l.toNat * s0 + i * s0 + j) = _;rw [← this];congr 1;rw [aYM]; omega
    · cases J
  · simp only [PV.slice] at J
    split at J
    · rename_i hc
      cases J;obtain ⟨rfl, h0, h1, h2, R⟩ := hc;cases hx with
      | osl β U ι p ζ θ τ =>
      rename_i cap N ad;obtain ⟨m, hb, δ, ε⟩ := jN (T := T) (E := E) (w := w) (isS := true) (len := len) (cap := cap) hl hh hm bl bh p h0 h1 h2
        (by rcases R with rfl | rfl
            · exact .inl (hn rfl)
            · exact .inr (α h rfl)) hA hN
      refine ⟨_, sG ht hs hb, ?_⟩;by_cases η : m = l.toNat
      · rw [if_pos η]
        have e1 : h.toNat - l.toNat = 0 := Om;have e2 : m - l.toNat = 0 := Om;rw [e1, e2];refine .osl β U (.inl rfl) (aXL _) (by simp [maxLen]) θ ?_;have : (off + l.toNat) * s0 ≤ off * s0 + cap * s0 := by rw [aYM]; exact Nat.add_le_add_left (aYL _ Om) _
        omega
      · rw [if_neg η, aYX, lZ U, add_plain]
        refine .osl β rfl ?_ Om Om θ ?_
        · rcases ι with h | h
          · exact .inl Om
          · exact .inr (by simp only [h, aYM])
        · have : (off + l.toNat) * s0 + (m - l.toNat) * s0 ≤ off * s0 + cap * s0 := by rw [← aYM, ← aYM];exact aYL _ Om
          omega
    · cases J
theorem jj {t:TypeId} {x:Value} {lo hi:Option Operand} {pl ph:Option aO} {str:List UInt8} {l h:Int} (ht:T.P.underlying t=some .string)
  (hl:T.opt lo=some pl) (hh:T.opt hi=some ph) (hx:aU E (.str str) x) (U:bnd F 0 pl=some l) (p:bnd F str.length ph=some h) (h0:0≤l) (h1:l≤h) (J:h≤str.length)
  (hA:cQ ds n E F a) (hN:E.num=T.num) :
  ∃ v,(Instr.sliceAt t x (lo.map a.eval) (hi.map a.eval) none).run T.P w=.ok v w∧aU E (.str ((str.take h.toNat).drop l.toNat)) v:=by
 cases hx with
 | str s =>
 have i:s.data.toList.length=s.size:=by rw[a0J]; rfl
 rw[i] at p J;obtain⟨m,R,α,β⟩:=jN (T:=T) (E:=E) (w:=w) (isS:=false) (len:=s.size) (cap:=s.size) (mx:=none) (pm:=none) hl hh rfl U p (aXL _) h0 h1 J (.inl rfl) hA hN;simp only[Option.map_none] at R;refine⟨.string (s.extract l.toNat h.toNat),?_,?_⟩
 ·simp[Instr.sliceAt,Instr.slice,run_underlying ht,R]
 ·have e:(s.data.toList.take h.toNat).drop l.toNat=(s.extract l.toNat h.toNat).data.toList:=by rw[Lib.extract_data,List.drop_take]
  rw[e];exact .str _
theorem WP (s:Nat):∀ (n:Nat) (cs:List PV),(chunks s n cs).length=n
 | 0,_=>rfl
 | n+1,cs=>by simp[chunks,WP s n]
theorem WQ {s:Nat}:∀ {n:Nat} {cs:List PV},n*s≤cs.length→∀ r∈chunks s n cs,r.length=s
 | 0,_,_,r,i=>by simp[chunks] at i
 | n+1,cs,h,r,i=>by
  rw[aYM,Nat.one_mul] at h;simp only[chunks,aXP] at i;rcases i with rfl | i
  ·rw[aYA]; omega
  ·exact WQ (by rw[aZI]; omega) r i
theorem IL {s:Nat}:∀ {n:Nat} {cs:List PV} {i j:Nat} {pv:PV},at2 (chunks s n cs) i j=some pv→cs[i*s+j]?=some pv
 | 0,_,i,j,pv,h=>by simp[chunks,at2] at h
 | n+1,cs,0,j,pv,h=>by
  simp only[chunks,at2,List.getElem?_cons_zero,a0U,a0Q] at h;split at h
  ·rw[Nat.zero_mul,aYD]; exact h
  ·cases h
 | n+1,cs,i+1,j,pv,h=>by have:=IL (n:=n) (cs:=cs.drop s) (i:=i) (j:=j) (pv:=pv) (by simpa [chunks,at2] using h);rw[List.getElem?_drop] at this;rw[← this]; congr 1; rw[aYM]; omega
theorem Gr {t e:TypeId} {k s:Nat} {v:Value} {cs:List PV} (ht:T.P.underlying t=some (.array k e)) (hs:T.size e=some s) (hv:aU E (.cO cs) v) (hc:k*s≤cs.length) (hk:k≤maxLen) (hA:cQ ds n E F a) (hN:E.num=T.num) :
  ∃ u,(Instr.sliceAt t v none none none).run T.P w=.ok u w∧aU E (.sl s (chunks s k cs)) u:=by
 obtain⟨m,hb,α,β⟩:=jN (T:=T) (E:=E) (w:=w) (F:=F) (a:=a) (n:=n) (isS:=false) (len:=k) (cap:=k) (lo:=none) (hi:=none) (mx:=none) (pl:=none) (ph:=none) (pm:=none) (l:=0) (h:=(k:Int)) rfl rfl rfl rfl rfl (aXL _) Om Om Om (.inl rfl) hA hN;simp only[Option.map_none,aZL,Int.toNat_zero] at hb;have U:m=k:=Om;subst U;cases hv with
 | cO u J p h1 hr =>
 rename_i R;refine⟨.slice (some R) m m,?_,?_⟩
 ·have hz:(if m=0 then R else R.add (0*s))=R:=by
   split
   ·rfl
   ·rw[lZ J,add_plain]; simp
  simp[Instr.sliceAt,run_underlying ht,Instr.sureAddr,hb,gW hs];intro _;rw[lZ J,add_plain]; simp
 ·have hl:=WP s m cs;have key:aU E (.sl s (chunks s m cs)) (.slice (some R) (chunks s m cs).length m):=by refine .sl (fun i j=>u (i*s+j)) (by rw[hl]; exact aXL _) hk (WQ hc) (fun _=>⟨R,rfl,J,fun i j pv hp=>?_⟩) (fun i j=>h1 _) (fun i j pv hp=>hr _ pv (IL hp));have:=p (i*s+j) pv (IL hp);rw[← this]; congr 1; omega
  rw[hl] at key;exact key
theorem Jd {e:TypeId} {x:Value} {J:PV} (hW:bE E H w) (hx:aU E J x) (h1:J.cells.all PV.one=true):Yields T.P E H w (Instr.box e x) (.cO J.cells):=by
 obtain⟨U,c2,c3⟩:=sW hx h1;obtain⟨R,hE⟩:=hW.ayP x.cells e;refine⟨.pointer (some ⟨w.heap.size,0,none⟩),_,_,by simp[Instr.box,newVar,newRow],?_,R,hE⟩;refine .cO (fun j=>if h:j<x.cells.size then x.cells[j] else .int .i64 0) rfl (fun j pv p=>?_) (fun j=>?_) (fun j pv p=>?_)
 ·have l:j<x.cells.size:=by
   rw[U];rcases aXZ j J.cells.length with i | i
   ·exact i
   ·rw[aYT i] at p; cases p
  simp[Env.cell,Env.add,upd,l]
 ·split
  ·rename_i l;exact c2 _ (Array.getElem_mem_toList l)
  ·rfl
 ·have l:j<x.cells.size:=by
   rw[U];rcases aXZ j J.cells.length with i | i
   ·exact i
   ·rw[aYT i] at p; cases p
  rw[dif_pos l];exact (c3 j pv _ p (a0P l)).mono hE.env
end
open Go Go.RowKit
theorem sJ {s:Nat}:∀ (rows:List (List PV)) (i j:Nat),(∀ r∈rows,r.length=s)→j<s→rows.flatten[i*s+j]?=at2 rows i j
 | [],i,j,_,_=>by simp[at2]
 | r::rows,i,j,h,p=>by
  have l:r.length=s:=h r (by simp);rw[List.flatten_cons];cases i with
  | zero =>rw[a0C Om];simp[at2]
  | succ i =>
   rw[aZY (by rw[l,a0G]; omega)];have e:(i+1)*s+j-r.length=i*s+j:=by rw[l,a0G]; omega
   rw[e,sJ rows i j (fun r l=>h r (by simp[l])) p];simp[at2]
theorem mK {s:Nat}:∀ (rows:List (List PV)),(∀ r∈rows,r.length=s)→rows.flatten.length=rows.length*s
 | [],_=>by simp
 | r::rows,h=>by rw[List.flatten_cons,aXN,mK rows (fun r i=>h r (by simp[i])),h r (by simp),aZA,a0G];omega
theorem qF:∀ (ps:List PV) (x y:List PV) (c:Nat),setCells (x++y) (x.length+c) ps=x++setCells y c ps
 | [],x,y,c=>rfl
 | p::ps,x,y,c=>by simp only[setCells];rw[a0L _ _ Om,Nat.add_sub_cancel_left];exact qF ps x _ (c+1)
theorem rI:∀ (ps:List PV) (x y:List PV) (c:Nat),c+ps.length≤x.length→setCells (x++y) c ps=setCells x c ps++y
 | [],x,y,c,_=>rfl
 | p::ps,x,y,c,h=>by simp only[aZA] at h;simp only[setCells];rw[List.set_append_left _ _ Om];exact rI ps _ y (c+1) (by rw[aZM]; omega)
theorem BJ:∀ (ps x:List PV) (z:List PV),x.length=ps.length→setCells (z++x) z.length ps=z++ps
 | [],x,z,h=>by have:x=[]:=List.eq_nil_of_length_eq_zero (by simpa using h);subst this; rfl
 | p::ps,[],z,h=>by simp at h
 | p::ps,y::x,z,h=>by simp only[setCells];rw[a0L _ _ (aXL _),Nat.sub_self,a0Y];have:=BJ ps x (z++[p]) (by simpa using h);simp only[aXN,aZA,aZV,aYQ,List.cons_append,List.nil_append] at this;simpa using this
theorem PU {s:Nat} (ps:List PV) (l:ps.length=s):∀ (rows:List (List PV)) (i:Nat),(∀ r∈rows,r.length=s)→i<rows.length→(rows.set i ps).flatten=setCells rows.flatten (i*s) ps
 | [],i,_,h=>by simp at h
 | r::rows,i,h,hi=>by
  have p:r.length=s:=h r (by simp);cases i with
  | zero =>rw[a0Y,List.flatten_cons,List.flatten_cons,Nat.zero_mul,rI _ _ _ _ Om];have:=BJ ps r [] Om;simp only[List.nil_append,aZV] at this;rw[this]
  | succ i =>rw[List.set_cons_succ,List.flatten_cons,List.flatten_cons,PU ps l rows i (fun r p=>h r (by simp[p])) (by simpa using hi)];have:=qF ps r rows.flatten (i*s);rw[← this,p,a0G,Nat.add_comm]
section
variable {ds:List Deferred} {T:Tbl} {n:Nat} {E:Env} {F:PF} {H:PH} {a:Act} {w:World}
theorem AY {s:Nat} (hA:cQ ds n E F a) (hN:E.num=T.num):∀ (parts:List (Nat × Operand)) (pl:List (Nat × aO)) (rows out:List (List PV)) (vs:Array Value),
  T.pZ parts=some pl→fS s rows F pl=some out→(∀ r∈rows,r.length=s)→lM E rows.flatten vs →
  ∃ us,Instr.fill (fun i=>some (i*s,s)) vs (parts.map fun (i,x)=>(i,a.eval x))=some us∧lM E out.flatten us∧(∀ r∈out,r.length=s)∧out.length=rows.length
 | [],pl,rows,out,vs,J,l,R,h4=>by simp[Tbl.pZ] at J; subst J;simp[fS] at l; subst l;exact⟨vs,rfl,h4,R,rfl⟩
 | (i,x)::rest,pl,rows,out,vs,J,l,R,h4=>by
  simp only[Tbl.pZ] at J;split at J
  ·rename_i p ps hx β;cases J;simp only[fS] at l;split at l
   ·rename_i v hv;split at l
    ·rename_i hc;obtain⟨c1,c2,c3⟩:=sW (aV hx hv hA hN) hc.2.2;have α:=PU v.cells hc.1 rows i R hc.2.1;have U:=lM.setCells v.cells (a.eval x).cells.toList (i*s) _ vs h4 (by simpa using c1) c2 (fun j q u hq hu=>c3 j q u hq (by simpa using hu));rw[← α] at U;obtain⟨us,g1,g2,g3,g4⟩:=AY hA hN rest ps _ out _ β l (fun r hr=>by
      rcases List.mem_or_eq_of_mem_set hr with hr | rfl
      ·exact R r hr
      ·exact hc.1) U
     refine⟨us,?_,g2,g3,by simpa using g4⟩;simp only[aYU,Instr.fill];have γ:vs.size=rows.length*s:=by rw[h4.1,mK rows R]
     have δ:i*s+s≤rows.length*s:=by have:(i+1)*s≤rows.length*s:=aYL _ hc.2.1;rw[a0G] at this;exact this
     rw[if_neg (by simp; rw[c1,γ]; omega)];have hz:Array.foldl (fun (cs:Array Value) (x:Value × Nat)=>cs.setIfInBounds (i*s+x.2) x.1) vs (a.eval x).cells.zipIdx=VB vs (i*s) (a.eval x).cells.toList:=by rw[← Array.foldl_toList,Array.toList_zipIdx];exact GD (i*s) _ 0 vs
     exact hz ▸ g1
    ·cases l
   ·cases l
  ·cases J
theorem lM.azJ {z:List PV} {R:Array Value} {s len:Nat} (h:lM E z R) (hs:z.length=s) (h0:0<s) :
  lM E (aXK len z).flatten ((Array.range (len*s)).map (R[·%R.size]!)):=by
 have p:∀ r∈aXK len z,r.length=s:=fun r hr=>by rw[(List.mem_replicate.1 hr).2]; exact hs
 have l:R.size=s:=by rw[h.1,hs]
 refine⟨by rw[mK _ p]; simp,fun v J=>?_,fun k pv v hp J=>?_⟩
 ·simp only[Array.toList_map,aYH] at J;obtain⟨k,-,rfl⟩:=J;have hk:k%R.size<R.size:=aYW _ Om;rw[getElem!_pos R _ hk];exact h.2.1 _ (Array.getElem_mem_toList hk)
 ·have α:k<len*s:=by
   rcases aXZ k (len*s) with h' | h'
   ·exact h'
   ·rw[Array.getElem?_eq_none (by simpa using h')] at J; cases J
  have i:k%s<s:=aYW _ h0;have U:k/s<len:=(a0H h0).2 α;have hk:k/s*s+k%s=k:=by rw[aYI]; exact a0R k s
  have e:=sJ (aXK len z) (k/s) (k%s) p i;rw[hk] at e;rw[e] at hp;simp only[at2,List.getElem?_replicate,U,if_true,a0U] at hp;simp only[Array.getElem?_map,Array.getElem?_range,α,if_true,aYX] at J;rw[getElem!_pos R _ (by rw[l]; exact i)] at J;cases J;refine h.2.2 (k%s) pv _ (by simpa only [l] using hp) ?_;simp only[l];exact a0P (by rw[l]; exact i)
theorem IG {t e:TypeId} {s len:Nat} {z:List PV} {parts:Array (Nat × Operand)} {pl:List (Nat × aO)} {out:List (List PV)} (ht:T.P.underlying t=some (.slice e)) (hs:T.size e=some s) (hz:T.zero e=some z)
  (γ:z.length=s) (h0:0<s) (l:T.pZ parts.toList=some pl) (κ:len*s≤16777216) (J:fS s (aXK len z) F pl=some out) (hA:cQ ds n E F a) (hN:E.num=T.num) :
  ∃ R,(Instr.buildSlice t len (parts.map fun (i,x)=>(i,a.eval x))).run T.P w=.ok (.slice (some ⟨w.heap.size,0,none⟩) len len) (w.alloc (.cells R e))∧lM E out.flatten R∧(∀ r∈out,r.length=s)∧out.length=len:=by
 obtain⟨i,zv,hi,δ,ι⟩:=HJ (E:=E) hz;obtain⟨i',α,p⟩:=sr hs;rw[hi] at α;cases α;have U:∀ r∈aXK len z,r.length=s:=fun r hr=>by rw[(List.mem_replicate.1 hr).2]; exact γ
 obtain⟨R,g1,g2,g3,g4⟩:=AY hA hN parts.toList pl _ out _ l J U (ι.azJ (len:=len) γ h0);rw[List.length_replicate] at g4;refine⟨R,?_,g2,g3,g4⟩;by_cases ε:len=0
 ·subst ε;have β:parts.toList=[]:=by
   cases η:parts.toList with
   | nil=>rfl
   | cons x rest =>
    rw[η] at l;obtain⟨i,y⟩:=x;simp only[Tbl.pZ] at l;split at l
    ·cases l;simp only[fS] at J;split at J
     ·split at J
      ·rename_i hc; simp at hc
      ·cases J
     ·cases J
    ·cases l
  rw[β] at g1;simp only[aZN,Instr.fill,Nat.zero_mul] at g1;have:R=#[]:=by have h1:=g2.1;rw[mK out g3,g4,Nat.zero_mul] at h1;exact Array.eq_empty_of_size_eq_zero h1
  subst this;have ζ:parts=#[]:=by apply Array.ext';simpa using β
  subst ζ;have θ:Array.range 0=#[]:=by apply Array.ext'; simp
  simp[Instr.buildSlice,run_underlying ht,gW hs,Instr.fill,newRow,θ]
 ·refine run_buildSlice w t e len _ R i zv ht hi δ (by rw[p]; omega) (by rw[p]; exact Nat.ne_of_gt (Nat.mul_pos Om h0)) ?_;rw[p,Array.toList_map];exact g1
theorem fx {t e:TypeId} {s len:Nat} {z:List PV} {parts:Array (Nat × Operand)} {pl:List (Nat × aO)} {out:List (List PV)} (ht:T.P.underlying t=some (.slice e)) (hs:T.size e=some s) (hz:T.zero e=some z)
  (ε:z.length=s) (h0:0<s) (δ:T.pZ parts.toList=some pl) (γ:len*s≤16777216) (ho:fS s (aXK len z) F pl=some out) (hA:cQ ds n E F a) (hN:E.num=T.num) (hW:bE E H w) :
  Yields T.P E H w (Instr.buildSlice t len (parts.map fun (i,x)=>(i,a.eval x))) (.sl s out):=by
 obtain⟨us,α,hc,J,R⟩:=IG (w:=w) ht hs hz ε h0 δ γ ho hA hN;obtain⟨β,hE⟩:=hW.ayP us e;refine⟨_,_,_,α,?_,β,hE⟩;rw[← R];have hj:∀ i j pv,at2 out i j=some pv→j<s:=fun i j pv l=>by
  unfold at2 at l;cases hr:out[i]? with
  | none=>simp[hr] at l
  | some r =>
   rw[hr,a0U] at l;have:=J r (a0D hr);rcases aXZ j r.length with U | U
   ·omega
   ·rw[aYT U] at l; cases l
 have p:∀ i j pv,at2 out i j=some pv→∃ h:i*s+j<us.size,aU E pv us[i*s+j]:=fun i j pv l=>by
  have e1:=sJ out i j J (hj i j pv l);rw[l] at e1;have hlt:i*s+j<us.size:=by
   rw[hc.1];rcases aXZ (i*s+j) out.flatten.length with U | U
   ·exact U
   ·rw[aYT U] at e1; cases e1
  exact⟨hlt,hc.2.2 _ pv _ e1 (a0P hlt)⟩
 refine .sl (fun i j=>if h:i*s+j<us.size then us[i*s+j] else .int .i64 0) (aXL _) ?_ J (fun _=>⟨_,rfl,rfl,fun i j pv l=>?_⟩) (fun i j=>?_) (fun i j pv l=>?_)
 ·have:out.length*1≤out.length*s:=aZR _ h0;simp only[maxLen];rw[R] at this ⊢;omega
 ·obtain⟨hlt,-⟩:=p i j pv l;simp[Env.cell,Env.add,upd,hlt]
 ·split
  ·rename_i hlt;exact hc.2.1 _ (Array.getElem_mem_toList hlt)
  ·rfl
 ·obtain⟨hlt,hr⟩:=p i j pv l;rw[dif_pos hlt];exact hr.mono hE.env
end
open Go Go.RowKit
section
variable {T:Tbl} {n:Nat} {E:Env} {F:PF} {H:PH} {a:Act} {w:World}
theorem fb {s:Nat} {pv:PV} {v:Value} {rows:List (List PV)} (hW:bE E H w) (hv:aU E pv v) (h:dS H s pv=some rows) :
  ∃ p cap,v=.slice p rows.length cap∧rows.length≤cap∧(∀ r∈rows,r.length=s)∧(rows≠[]→∃ b off,p=some ⟨b,off,none⟩ ∧
   ∀ i j q,at2 rows i j=some q→∃ u,w.cell? ⟨b,off+(i*s+j),none⟩=some u∧u.oneCell'=true∧aU E q u):=by
 unfold dS at h;split at h
 ·cases h; cases hv;exact⟨none,0,rfl,aXL _,by simp,fun h=>absurd rfl h⟩
 ·rename_i s0 rs;split at h
  ·rename_i e;subst e;cases h;cases hv with
   | sl u α β l ha ho hr =>
   rename_i a0 cap;refine⟨a0,cap,rfl,α,l,fun U=>?_⟩;obtain⟨p,rfl,δ,hc⟩:=ha U;refine⟨p.block,p.off,by rw[← lZ δ],fun i j q J=>⟨u i j,?_,ho i j,hr i j q J⟩⟩;have:=hW.Mk (hc i j q J);rw[← this];congr 2;omega
  ·cases h
 ·rename_i o s0 off len;split at h
  ·rename_i e;subst e;split at h
   ·rename_i s' rs ho;split at h
    ·rename_i hc;cases h;obtain⟨rfl,ξ⟩:=hc;obtain⟨hlt,ε,ty,hh,ο,l,μ,R⟩:=hW.h o _ ho;cases hv with
     | osl hb δ γ η β hn κ =>
     rename_i cap N p;have hl:((rs.drop off).take len).length=len:=by rw[aYA,aZI]; omega
     refine⟨some p,cap,by rw[hl],by omega,fun r hr=>l r (List.mem_of_mem_drop (List.mem_of_mem_take hr)),fun U=>?_⟩;have ν:0<((rs.drop off).take len).length:=List.length_pos_iff.2 U;have θ:p.off=off*s':=by
      rcases γ with h | h
      ·omega
      ·exact h
     have ζ:p=⟨o,off*s',none⟩:=by cases p; simp_all
     subst ζ;refine⟨o,off*s',rfl,fun i j q J=>?_⟩;have ι:at2 rs (off+i) j=some q:=by
      unfold at2 at J ⊢;rw[a0Q] at J;split at J
      ·rw[List.getElem?_drop] at J; exact J
      ·simp at J
     obtain⟨u,h1,h2,h3⟩:=R (off+i) j q ι;refine⟨u,?_,h2,h3⟩;rw[cell_of_row w o _ ε ty (0,0) hh,← h1];congr 1;rw[aYM]; omega
    ·cases h
   ·cases h
  ·cases h
 ·cases h
theorem HK:∀ {rows:List (List PV)} {l:List UInt8},nF rows=some l→∃ i:List Int,rows=i.map (fun n=>[PV.int .u8 n])∧l=i.map fun n=>UInt8.ofNat n.toNat
 | [],l,h=>by simp[nF] at h; exact⟨[],by simp[h]⟩
 | r::rows,l,h=>by
  unfold nF at h;split at h
  ·exact⟨[],by simp at *⟩
  ·rename_i m rest heq;cases heq;simp only[aXO] at h;obtain⟨U,p,rfl⟩:=h;obtain⟨i,J,R⟩:=HK p;exact⟨m::i,by simp[J],by simp[R]⟩
  ·cases h
theorem WB {src dst e:TypeId} {pv:PV} {v:Value} {rows:List (List PV)} {l:List UInt8} (hs:T.P.underlying src=some (.slice e)) (he:T.P.underlying e=some (.int .u8)) (U:T.P.underlying dst=some .string)
  (hW:bE E H w) (hv:aU E pv v) (hr:dS H 1 pv=some rows) (hb:nF rows=some l):∃ u,(convert src dst v).run T.P w=.ok u w∧aU E (.str l) u:=by
 obtain⟨ad,cap,rfl,α,β,J⟩:=fb hW hv hr;obtain⟨p,rfl,rfl⟩:=HK hb;by_cases R:p=[]
 ·subst R;refine⟨.string ByteArray.empty,?_,aU.str ByteArray.empty⟩;cases ad with
  | none=>exact run_convert_bytes_nil w src e hs he _ _ dst U
  | some x =>rw[run_convert_bytes_string w src dst e _ _ _ hs he U];have:=run_bytesToString (P:=T.P) w x 0 cap [] (by simp[Go.loadCells,Go.loadCellsFrom]);simpa using this
 ·obtain⟨b,off,rfl,hc⟩:=J (by simpa using R);have hl:(p.map fun n=>[PV.int .u8 n]).length=p.length:=by simp
  refine⟨.string (strOfNums p),?_,?_⟩
  ·rw[hl];refine run_convert_bytes_arg w src e hs he b off p.length cap p rfl (fun i hi=>?_) dst U;obtain⟨u,h1,h2,h3⟩:=hc i 0 (.int .u8 p[i]) (by simp[at2,hi]);cases h3;simp only[Nat.mul_one,aZP] at h1;rw[h1];simp[List.getD,hi]
  ·have:=aU.str (E:=E) (strOfNums p);rw[strOfNums_data] at this;exact this
theorem dY.len {ps:List PV} {vs:List Value} (h:dY E ps vs):vs.length=ps.length:=by
 induction h with
 | nil=>rfl
 | cons _ _ i=>simp[i]
theorem dY.at_ {ps:List PV} {vs:List Value} (h:dY E ps vs):∀ (j:Nat) p v,ps[j]?=some p→vs[j]?=some v→aU E p v:=by
 induction h with
 | nil=>intro j p v i; simp at i
 | cons h _ J =>
  intro j p v i l;cases j with
  | zero=>simp at i l; subst i; subst l; exact h
  | succ j=>exact J j p v (by simpa using i) (by simpa using l)
theorem dY.mono {i:Env} (l:E.le i) {ps:List PV} {vs:List Value} (h:dY E ps vs):dY i ps vs:=by
 induction h with
 | nil=>exact .nil
 | cons h _ p=>exact .cons (h.mono l) p
def POp.mG:POp→Bool
 | .call .. | .aXA ..=>true
 | _=>false
theorem qJ {P:Program} {o:Oper} {s:Sem Value} {v:Value} {w i:World} (h:execOp a.eval o=(do pure (.value (← s)):Sem Next)) (l:s.run P w=.ok v i):(execOp a.eval o).run P w=.ok (.value v) i:=by
 rw[h]; simp[l]
end
open Go Go.RowKit
def KSh.desc:KSh→TypeDesc
 | .int k=>.int k
 | .bool=>.bool
 | .str=>.string
def KSh.sc:KSh→Sc
 | .int _=>.int
 | .bool=>.bool
 | .str=>.str
def KS.pv:KS→PV
 | .int k n=>.int k n
 | .bool b=>.bool b
 | .str s=>.str s
section
variable {T:Tbl} {n:Nat} {E:Env} {F:PF} {H:PH} {a:Act} {w:World}
theorem fw {α:Type} [BEq α] [LawfulBEq α] [DecidableEq α] (a b:α):(a==b)=decide (a=b):=by
 by_cases h:a=b<;>simp[h]
theorem KS.adT {pv:PV} {v:Value} {k:KS} (h:aU E pv v) (i:KS.of pv=some k):v=k.val:=by
 unfold KS.of at i;split at i<;>cases i<;>cases h
 ·rfl
 ·rfl
 ·simp[KS.val]
theorem KS.aJW (k:KS):aU E k.pv k.val:=by
 cases k with
 | int k n=>exact .int k n
 | bool b=>exact .bool b
 | str s =>have:=aU.str (E:=E) ⟨s.toArray⟩;simpa [KS.pv,KS.val] using this
theorem KS.Q6:∀ {ps:List PV} {l:List KS} {vs:List Value},KS.ofs ps=some l→vs.length=ps.length→(∀ (j:Nat) p v,ps[j]?=some p→vs[j]?=some v→aU E p v)→vs=l.map KS.val
 | [],l,vs,h,i,_=>by simp[KS.ofs] at h; subst h;simp at i; subst i; rfl
 | p::ps,l,vs,h,i,J=>by
  simp only[KS.ofs] at h;split at h
  ·rename_i k α U h2;cases h;cases vs with
   | nil=>simp at i
   | cons v vs =>have R:=KS.Q6 (vs:=vs) h2 (by simpa using i) fun j q u x y=>J (j+1) q u (by simpa using x) (by simpa using y);rw[KS.adT (J 0 p v rfl rfl) U,R];rfl
  ·cases h
theorem nz {sh:MSh} {pv:PV} {v:Value} {k:List KS} (h:aU E pv v) (J:keyOf sh pv=some k):v=fM sh k∧k.map KS.sh=sh.2∧(sh.1=false→∃ s,k=[s]):=by
 obtain⟨b,l⟩:=sh;unfold keyOf at J;split at J
 ·rename_i cs R;simp only at R;subst R;simp only[a0T] at J;obtain⟨k',U,i⟩:=J;split at i
  ·rename_i he;cases i;cases h with
   | agg vs hl α hr =>
   refine⟨?_,he,by simp⟩;have:=KS.Q6 (vs:=vs.toList) U (by simpa using hl) fun j p u x y=>hr j p u x (by simpa using y);simp only[fM,if_true,Value.agg.injEq];rw[← this]
  ·cases i
 ·rename_i v' R;simp only at R;subst R;simp only[a0T] at J;obtain⟨s,U,i⟩:=J;split at i
  ·rename_i he;cases i;exact⟨by simp[fM,KS.adT h U],by simpa using he,fun _=>⟨s,rfl⟩⟩
  ·cases i
 ·cases J
theorem qW {t:TypeId} {s:KSh} (h:T.vK t=some s):T.P.underlying t=some s.desc∧T.scalar t=some s.sc:=by
 unfold Tbl.vK at h;unfold Tbl.scalar;split at h<;>cases h<;>(rename_i i; rw[i]; exact⟨rfl,rfl⟩)
theorem Ki {s:KSh} {x y:KS} (l:x.sh=s) (i:y.sh=s):Instr.sameNow s.desc x.val y.val=some (decide (x=y)):=by
 subst l;cases x<;>cases y<;>simp[KS.sh] at i
 ·subst i;simp[KSh.desc,KS.sh,KS.val,Instr.sameNow];exact fw _ _
 ·simp[KSh.desc,KS.sh,KS.val,Instr.sameNow];exact fw _ _
 ·rename_i a b;simp only[KSh.desc,KS.sh,KS.val,Instr.sameNow,aZS.injEq,KS.str.injEq];rw[beq_toListBytes,ByteArray.toList_eq,ByteArray.toList_eq];simp;exact fw _ _
theorem ZG:∀ {i:List Field} {k:Nat} {l:List KSh},T.jY k i=some l→T.pP k i=some (l.map KSh.sc)
 | [],k,l,h=>by simp[Tbl.jY] at h; subst h; rfl
 | f::i,k,l,h=>by
  simp only[Tbl.jY] at h;split at h
  ·rename_i c cs p J;split at h
   ·rename_i R;cases h;simp only[Tbl.pP,(qW p).2,ZG J];rw[if_pos R];rfl
   ·cases h
  ·cases h
theorem abH:∀ {l:List KSh} {xs ys:List KS},xs.map KS.sh=l→ys.map KS.sh=l→PV.eqs (l.map KSh.sc) (xs.map KS.pv) (ys.map KS.pv)=some (decide (xs=ys))
 | [],xs,ys,i,p=>by simp at i p; subst i; subst p; simp[PV.eqs]
 | s::l,xs,ys,i,p=>by
  cases xs with
  | nil=>simp at i
  | cons x xs =>
  cases ys with
  | nil=>simp at p
  | cons y ys =>
  simp only[aYU,List.cons.injEq] at i p;have U:PV.eq1 s.sc x.pv y.pv=some (decide (x=y)):=by
   obtain⟨R,-⟩:=i;obtain⟨J,-⟩:=p;subst R;cases x<;>cases y<;>simp[KS.sh] at J
   ·subst J;simp[KSh.sc,KS.sh,KS.pv,PV.eq1];exact fw _ _
   ·simp[KSh.sc,KS.sh,KS.pv,PV.eq1];exact fw _ _
   ·simp[KSh.sc,KS.sh,KS.pv,PV.eq1];exact fw _ _
  simp only[aYU,PV.eqs,U];by_cases e:x=y
  ·subst e;simp only[decide_true,abH i.2 p.2];simp
  ·simp only[e,decide_false,aXI];have l1:xs.length=l.length:=by rw[← i.2]; simp
   have l2:ys.length=l.length:=by rw[← p.2]; simp
   rw[if_pos ⟨l1,l2⟩];simp[e]
theorem abI {t:TypeId} {R:Array Field} {l:List KSh} (hu:T.P.underlying t=some (.struct R)) (hp:T.P.stoodInHeld t=false) (hl:T.jY 0 R.toList=some l) {x y:List KS} (hx:x.map KS.sh=l) (hy:y.map KS.sh=l) :
  (Op.equal t (fM (true,l) x) (fM (true,l) y)).run T.P w=.ok (decide (x=y)) w:=by
 have p:T.P.fieldsOf t=R:=by simp[Program.fieldsOf,hu]
 have rr:∀ (z:List KS) (j:Nat) q u,(z.map KS.pv)[j]?=some q→(z.map KS.val).toArray[0+j]?=some u→aU (E:=⟨fun _=>none,fun _=>none,fun _=>0⟩) q u:=by intro z j q u i U;simp only[aYG,aXO,aYD,List.getElem?_toArray] at i U;obtain⟨k,hk,rfl⟩:=i;obtain⟨k',J,rfl⟩:=U;rw[hk] at J; cases J;exact KS.aJW k
 have he:=JE (w:=w) 9998 (x.map KS.val).toArray (y.map KS.val).toArray R.toList (l.map KSh.sc) 0 (x.map KS.pv) (y.map KS.pv) _ (ZG hl) (abH hx hy) (rr x) (rr y) (by simp) (by simp);have i:=run_equalIn_struct w 9999 t (x.map KS.val).toArray (y.map KS.val).toArray (by rw[p]; exact hu) hp;rw[p,he] at i;simpa [Op.equal,Op.maxDepth,fM] using i
def Found (L:List (List KS × PV)) (p:List MapEntry) (k:List KS) (i:Nat) (r:Option (Nat × Value)):Prop :=
 match mC k L i with
 | none=>r=none
 | some (j,pv)=>∃ l:MapEntry,i≤j∧p[j-i]?=some l∧L[j-i]?=some (k,pv)∧r=some (j,l.val)
theorem Found.next {L:List (List KS × PV)} {p:List MapEntry} {k:List KS} {i:Nat} {r:Option (Nat × Value)} {e:List KS × PV} {J:MapEntry} (h:Found L p k (i+1) r) (l:e.1≠k):Found (e::L) (J::p) k i r:=by
 unfold Found at h ⊢;simp only[mC,if_neg l];split at h
 ·exact h
 ·rename_i j pv hj;obtain⟨x,h1,R,U,h4⟩:=h;refine⟨x,by omega,?_,?_,h4⟩
  ·rw[show j-i=(j-(i+1))+1 by omega]; exact R
  ·rw[show j-i=(j-(i+1))+1 by omega]; exact U
theorem Found.here {L:List (List KS × PV)} {J:List MapEntry} {k:List KS} {i:Nat} {e:List KS × PV} {l:MapEntry} (p:e.1=k):Found (e::L) (l::J) k i (some (i,l.val)):=by
 unfold Found;simp only[mC,if_pos p];refine⟨l,aXL _,by simp,?_,rfl⟩;subst p;simp
def pW (sh:MSh) (L:List (List KS × PV)) (p:List MapEntry):Prop :=
 p.length=L.length∧∀ (i:Nat) e l,L[i]?=some e→p[i]?=some l→e.1.map KS.sh=sh.2∧l.key=fM sh e.1
theorem pW.tail {sh:MSh} {e:List KS × PV} {L:List (List KS × PV)} {p:MapEntry} {l:List MapEntry} (h:pW sh (e::L) (p::l)):pW sh L l :=
 ⟨by simpa using h.1,fun i x y a b=>h.2 (i+1) x y (by simpa using a) (by simpa using b)⟩
theorem PT {s:KSh} {x:KS} (U:x.sh=s):∀ {L:List (List KS × PV)} {l:List MapEntry} {i:Nat},pW (false,[s]) L l→∃ r,Instr.findNow s.desc x.val l i=some r∧Found L l [x] i r
 | [],l,i,h=>by
  have:l=[]:=by simpa using h.1
  subst this;exact⟨none,rfl,rfl⟩
 | e::L,l,i,h=>by
  cases l with
  | nil=>have:=h.1; simp at this
  | cons R l =>
  obtain⟨J,h2⟩:=h.2 0 e R rfl rfl;obtain⟨ek,ep⟩:=e;cases ek with
  | nil=>simp at J
  | cons y ys =>
   simp only[aYU,List.cons.injEq,List.map_eq_nil_iff] at J;obtain⟨hy,rfl⟩:=J;have hk:R.key=y.val:=by rw[h2]; rfl
   simp only[Instr.findNow,hk,Ki U hy];by_cases p:x=y
   ·subst p;simp only[decide_true];exact⟨_,rfl,Found.here rfl⟩
   ·simp only[p,decide_false];obtain⟨r,g1,g2⟩:=PT U (i:=i+1) h.tail;exact⟨r,g1,g2.next (by simp; exact fun e=>p e.symm)⟩
theorem AZ {t:TypeId} {R:Array Field} {l:List KSh} (hu:T.P.underlying t=some (.struct R)) (hp:T.P.stoodInHeld t=false) (U:T.jY 0 R.toList=some l) {x:List KS} (hx:x.map KS.sh=l) :
  ∀ {L:List (List KS × PV)} {p:List MapEntry} {i:Nat},pW (true,l) L p→∃ r,(Instr.findAsking t (fM (true,l) x) p i).run T.P w=.ok r w∧Found L p x i r
 | [],p,i,h=>by
  have:p=[]:=by simpa using h.1
  subst this;exact⟨none,rfl,rfl⟩
 | e::L,p,i,h=>by
  cases p with
  | nil=>have:=h.1; simp at this
  | cons e' p =>
  obtain⟨h1,h2⟩:=h.2 0 e e' rfl rfl;simp only[Instr.findAsking,Sem.run_bind,h2,abI hu hp U hx h1,Result.andThen_ok];by_cases J:x=e.1
  ·subst J;simp only[decide_true,if_true,Sem.run_pure];exact⟨_,rfl,Found.here rfl⟩
  ·simp only[J,decide_false,a0N,if_false];obtain⟨r,g1,g2⟩:=AZ hu hp U hx (i:=i+1) h.tail;exact⟨r,g1,g2.next (fun e=>J e.symm)⟩
theorem BB {t:TypeId} {sh:MSh} (h:T.kF t=some sh):(∃ s,sh=(false,[s])∧T.vK t=some s)∨(∃ i l,sh=(true,l)∧T.P.underlying t=some (.struct i)∧T.P.stoodInHeld t=false∧T.jY 0 i.toList=some l):=by
 unfold Tbl.kF at h;split at h
 ·rename_i i U;split at h
  ·rename_i J;simp only[aXO] at h;obtain⟨l,p,rfl⟩:=h;exact .inr ⟨i,l,rfl,U,J,p⟩
  ·cases h
 ·simp only[aXO] at h;obtain⟨s,R,rfl⟩:=h;exact .inl ⟨s,rfl,R⟩
theorem HL {t:TypeId} {sh:MSh} (U:T.kF t=some sh) {k:List KS} (J:k.map KS.sh=sh.2) {L:List (List KS × PV)} {p:List MapEntry} (h:pW sh L p) :
  ∃ r,(Instr.findKey t (fM sh k) p).run T.P w=.ok r w∧Found L p k 0 r:=by
 rcases BB U with ⟨s,rfl,hs⟩ | ⟨fs,l,rfl,hu,hp,hl⟩
 ·have hd:=(qW hs).1;cases k with
  | nil=>simp at J
  | cons x xs =>simp only[aYU,List.cons.injEq,List.map_eq_nil_iff] at J;obtain⟨hx,rfl⟩:=J;obtain⟨r,g1,g2⟩:=PT hx (i:=0) h;refine⟨r,?_,g2⟩;have hv:fM (false,[s]) [x]=x.val:=rfl;simp only[Instr.findKey,Sem.run_bind,run_underlying hd,Result.andThen_ok,hv,g1,Sem.run_pure]
 ·obtain⟨r,g1,g2⟩:=AZ (w:=w) hu hp hl J (i:=0) h;cases p with
  | nil =>
   have:L=[]:=by simpa using h.1.symm
   subst this;refine⟨none,?_,rfl⟩;simp[Instr.findKey,run_underlying hu,Instr.findNow]
  | cons e p =>
   refine⟨r,?_,g2⟩;have R:Instr.findNow (.struct fs) (fM (true,l) k) (e::p) 0=none:=by simp[Instr.findNow,Instr.sameNow,fM]
   simp only[Instr.findKey,Sem.run_bind,run_underlying hu,Result.andThen_ok,R];exact g1
theorem PO {t:TypeId} {s:KSh} (i:T.vK t=some s) (em:Bool) (d:Nat) (x:KS):(Instr.checkKey em (d+1) t x.val).run T.P w=.ok () w:=by
 have l:=(qW i).1;simp only[Instr.checkKey,Sem.run_bind,run_underlying l,Result.andThen_ok];cases s<;>cases x<;>rfl
theorem AV {t:TypeId} {sh:MSh} (α:T.kF t=some sh) {k:List KS} (R:k.map KS.sh=sh.2) (em:Bool):(Instr.checkKey em 10000 t (fM sh k)).run T.P w=.ok () w:=by
 rcases BB α with ⟨s,rfl,J⟩ | ⟨p,l,rfl,hu,hp,hl⟩
 ·cases k with
  | nil=>simp at R
  | cons x xs =>simp only[aYU,List.cons.injEq,List.map_eq_nil_iff] at R;obtain⟨hx,rfl⟩:=R;exact PO J em 9999 x
 ·simp only[fM,if_true];obtain⟨m,hm⟩:∃ m:Nat,m=9999:=⟨_,rfl⟩;rw[show (10000:Nat)=m+1 by omega];simp only[Instr.checkKey,Sem.run_bind,run_underlying hu,Result.andThen_ok];rw[← Array.forIn_toList];have key:∀ (p:List Field) (l:List KSh) (j:Nat),T.jY j p=some l→(∀ (i:Nat) s,l[i]?=some s→∃ x:KS,(k.map KS.val).toArray[j+i]?=some x.val) →
    (forIn p PUnit.unit (fun f (_:PUnit)=>(do
     if f.name≠"_" then
      Instr.checkKey em m f.type (← part f.type (k.map KS.val).toArray f.offset)
      pure (ForInStep.yield PUnit.unit)
     else pure (ForInStep.yield PUnit.unit):Sem (ForInStep PUnit)))).run T.P w=.ok PUnit.unit w:=by
   intro p
   induction p with
   | nil=>intro l j _ _; simp
   | cons f p ih =>
    intro l j h hv;simp only[Tbl.jY] at h;split at h
    ·rename_i c cs h1 h2;split at h
     ·rename_i hc;cases h;obtain⟨x,hx⟩:=hv 0 c rfl;simp only[List.forIn_cons,Sem.run_bind,Sem.run_ite];rw[if_pos hc.1];have U:=FW (w:=w) (qW h1).2 (k.map KS.val).toArray f.offset x.val (by rw[hc.2]; simpa using hx);simp only[Sem.run_bind,U,Result.andThen_ok];rw[show m=9998+1 by omega,PO h1 em 9998 x,← show m=9998+1 by omega];simp only[Result.andThen_ok,Sem.run_pure];exact ih cs (j+1) h2 fun i s J=>by obtain⟨y,hy⟩:=hv (i+1) s (by simpa using J);exact⟨y,by rw[show j+1+i=j+(i+1) by omega]; exact hy⟩
     ·cases h
    ·cases h
  have:=key p.toList l 0 hl fun i s J=>by
   have β:k.length=l.length:=by rw[show l=k.map KS.sh from R.symm]; simp
   have hi:i<l.length:=(aYP.1 J).1;exact⟨k[i],by simp[show i<k.length by omega]⟩
  simp at this ⊢;rw[this];rfl
theorem Js {L:List (List KS × PV)} {p:List MapEntry} {k:List KS} {r:Option (Nat × Value)} (h:Found L p k 0 r) (hv:∀ (i:Nat) (e:List KS × PV) (l:MapEntry),L[i]?=some e→p[i]?=some l→aU E e.2 l.val) :
  (mapOf L k=none∧r=none)∨∃ j pv v,mapOf L k=some pv∧r=some (j,v)∧aU E pv v:=by
 unfold Found at h;unfold mapOf;split at h
 ·rename_i hn;exact .inl ⟨by rw[hn]; rfl,h⟩
 ·rename_i j pv hj;obtain⟨l,-,J,R,U⟩:=h;exact .inr ⟨j,pv,l.val,by rw[hj]; rfl,U,hv _ _ l R J⟩
theorem C2 {t kt et:TypeId} {sh:MSh} {info:TypeInfo} {z:Value} {pz pk:PV} {x k:Value} {o:Nat} {g:iD} {key:List KS} {ok:Bool} (ht:T.P.underlying t=some (.map kt et)) (β:T.kF kt=some sh)
  (hi:T.P.info? et=some info) (hz:info.zero=some z) (α:ofValue z=some pz) (hx:aU E (.map o) x) (hk:aU E pk k) (ho:H o=some (.map sh g)) (R:keyOf sh pk=some key) (hW:bE E H w) :
  ∃ v,(Instr.lookup t x k ok).run T.P w=.ok v w∧aU E (if ok then .tup [(g key).getD pz,.bool (g key).isSome] else (g key).getD pz) v:=by
 cases hx;obtain⟨hlt,es,clock,L,hh,⟨ε,-⟩,rfl,l⟩:=hW.h o _ ho;obtain⟨δ,U,-⟩:=nz hk R;have γ:pW sh L es.toList:=⟨by simpa using ε,fun i e e' a b=>by have:=l i e e' a (by simpa using b); exact⟨this.1,this.2.1⟩⟩;obtain⟨r,g1,g2⟩:=HL (w:=w) β U γ;have g3:=Js (E:=E) g2 fun i e e' a b=>(l i e e' a (by simpa using b)).2.2;subst δ;have J:(getObj o).run T.P w=.ok (.map es clock) w:=by simp[getObj,Sem.run,hh]
 have ζ:(zeroValue et).run T.P w=.ok z w:=by simp[zeroValue,typeInfo,run_program,hi,hz]
 simp only[Instr.lookup,Sem.run_bind,run_underlying ht,Result.andThen_ok,J,Sem.run_pure,AV β U,g1];rcases g3 with ⟨g4,rfl⟩ | ⟨j,pv,v,g4,rfl,hr⟩
 ·simp only[ζ,Sem.run_bind,Result.andThen_ok,Sem.run_pure,g4,Option.getD_none,Option.isSome_none];cases ok
  ·exact⟨z,rfl,sP α⟩
  ·refine⟨_,rfl,.tup #[z,.bool false] rfl fun j p u a b=>?_⟩
   match j with
   | 0=>simp at a b; subst a; subst b; exact sP α
   | 1=>simp at a b; subst a; subst b; exact .bool _
   | j+2=>simp at a
 ·simp only[Sem.run_pure,Result.andThen_ok,g4,a0I,Option.isSome_some];cases ok
  ·exact⟨v,rfl,hr⟩
  ·refine⟨_,rfl,.tup #[v,.bool true] rfl fun j p u a b=>?_⟩
   match j with
   | 0=>simp at a b; subst a; subst b; exact hr
   | 1=>simp at a b; subst a; subst b; exact .bool _
   | j+2=>simp at a
end
open Go Go.RowKit
section
variable {ds:List Deferred} {T:Tbl} {n:Nat} {E:Env} {F:PF} {H:PH} {a:Act} {w:World}
def Good (P:Program) (E:Env) (H:PH) (w:World) (o:Oper) (a:Act) (pv:PV):Prop :=
 ∃ v l i,(execOp a.eval o).run P w=.ok (.value v) l∧aU i pv v∧bE i H l∧Ext E H w i H l
theorem Good.mk' {P:Program} {o:Oper} {pv:PV} {v:Value} (hW:bE E H w) (h:(execOp a.eval o).run P w=.ok (.value v) w) (r:aU E pv v):Good P E H w o a pv:=⟨v,w,E,h,r,hW,.refl E H w⟩
theorem Good.of {P:Program} {o:Oper} {pv:PV} {s:Sem Value} (U:execOp a.eval o=(do pure (.value (← s)):Sem Next)) (h:Yields P E H w s pv):Good P E H w o a pv:=by
 obtain⟨v,w',i,l,p,J,R⟩:=h;exact⟨v,w',i,qJ U l,p,J,R⟩
theorem Good.val {P:Program} {o:Oper} {pv:PV} {s:Sem Value} (hW:bE E H w) (p:execOp a.eval o=(do pure (.value (← s)):Sem Next)) (h:∃ v,s.run P w=.ok v w∧aU E pv v):Good P E H w o a pv:=by
 obtain⟨v,i,l⟩:=h;exact .of p (Yields.same hW i l)
theorem Ta {t:TypeId} {o:Oper} {x:Operand} {lo hi mx:Option Operand} {p:aO} {pl ph pm:Option aO} {e:TypeId} {s:Nat} {pv:PV} (ho:o.op=.slice t x lo hi mx) (ht:T.P.underlying t=some (.slice e)) (hs:T.size e=some s)
  (hx:T.opd x=some p) (hl:T.opt lo=some pl) (hh:T.opt hi=some ph) (hm:T.opt mx=some pm) (α:¬ (mx.isSome=true∧hi.isNone=true)) (i:aN (.slice s p pl ph pm) F H=some pv)
  (hA:cQ ds n E F a) (hW:bE E H w) (hN:E.num=T.num):Good T.P E H w o a pv:=by
 refine Good.val hW (s:=Instr.sliceAt t (a.eval x) (lo.map a.eval) (hi.map a.eval) (mx.map a.eval)) (by unfold execOp; rw[ho]) ?_;have J:pm≠none→hi≠none:=fun h e=>by
  subst e;cases mx with
  | none=>simp[Tbl.opt] at hm; exact h hm.symm
  | some y=>exact α ⟨rfl,rfl⟩
 simp only[aN] at i;split at i
 ·rename_i v β;have r:=aV hx β hA hN;split at i
  ·split at i
   ·rename_i l h U R;refine zV (len:=0) ht hs hl hh hm r U R (.inl ⟨rfl,rfl⟩) ?_ hA hN;split at i
    ·exact .inl ⟨rfl,i⟩
    ·simp only[a0T] at i;obtain⟨m,h1,h2⟩:=i;exact .inr ⟨J (by simp),m,h1,h2⟩
   ·cases i
  ·split at i
   ·rename_i l h U R;refine zV ht hs hl hh hm r U R (.inr (.inl ⟨_,_,rfl,rfl⟩)) ?_ hA hN;split at i
    ·exact .inl ⟨rfl,i⟩
    ·simp only[a0T] at i;obtain⟨m,h1,h2⟩:=i;exact .inr ⟨J (by simp),m,h1,h2⟩
   ·cases i
  ·split at i
   ·rename_i l h U R;refine zV ht hs hl hh hm r U R (.inr (.inr ⟨_,_,_,rfl⟩)) ?_ hA hN;split at i
    ·exact .inl ⟨rfl,i⟩
    ·simp only[a0T] at i;obtain⟨m,h1,h2⟩:=i;exact .inr ⟨J (by simp),m,h1,h2⟩
   ·cases i
  ·cases i
 ·cases i
theorem kB {o:Oper} {c:Call} {b:Builtin} {s:Sem Value} {pv:PV} (R:o.op=.call c) (i:c.callee=.builtin b) (J:∀ cs,builtin b c.argTypes o.type cs (c.args.map a.eval)=(do pure (.value (← s)):Sem Next))
  (hW:bE E H w) (h:∃ v,s.run T.P w=.ok v w∧aU E pv v):Good T.P E H w o a pv:=by
 obtain⟨v,l,p⟩:=h;refine .mk' hW ?_ p;unfold execOp;rw[R];simp[resolve,i,invoke,J,l]
theorem ayQ {xs:Array Operand} {x:Operand} (h:xs.toList=[x]) (f:Operand→Value):xs.map f=#[f x]:=by
 apply Array.ext'; simp[h]
theorem S3 {xs:Array Operand} {x y:Operand} (h:xs.toList=[x,y]) (f:Operand→Value):xs.map f=#[f x,f y]:=by
 apply Array.ext'; simp[h]
theorem aIN {α:Type} {xs:Array α} {x:α} (h:xs.toList=[x]):xs=#[x]:=by apply Array.ext'; simp[h]
theorem size_data (s:ByteArray):s.data.toList.length=s.size:=by rw[a0J]; rfl
theorem aaQ {o:Oper} {c:Call} {p:POp} {pv:PV} (ho:o.op=.call c) (i:T.call o c=some p) (hw:p.dQ=false) (hk:p.mG=false) (l:aN p F H=some pv)
  (hA:cQ ds n E F a) (hW:bE E H w) (hN:E.num=T.num):Good T.P E H w o a pv:=by
 unfold Tbl.call at i;split at i
 ·rename_i b R;split at i
  ·
   rename_i x t J α;have e1:=ayQ J a.eval;have e2:=aIN α;split at i
   ·rename_i k e ht;cases i;simp[aN,aO.ev] at l;subst l;refine kB (s:=Builtin.len_ c.argTypes o.type (c.args.map a.eval)) ho R (fun cs=>rfl) hW ⟨goInt k,?_,.int _ _⟩;rw[e1,e2];simp[Builtin.len_,run_underlying ht]
   ·rename_i ht;simp only[aXO] at i;obtain⟨q,hq,rfl⟩:=i;simp only[aN] at l;split at l
    ·rename_i s0 U;cases l;have r:=aV hq U hA hN;generalize hx:a.eval x=ex at r;cases r with
     | str s =>
     refine kB (s:=Builtin.len_ c.argTypes o.type (c.args.map a.eval)) ho R (fun cs=>rfl) hW ⟨goInt s.size,?_,?_⟩
     ·rw[e1,e2,hx];simp[Builtin.len_,run_underlying ht]
     ·rw[size_data]; exact .int _ _
    ·cases l
   ·rename_i e ht;simp only[aXO] at i;obtain⟨q,hq,rfl⟩:=i;have key:∀ (ad:Option Addr) (m cap:Nat),a.eval x=.slice ad m cap→Good T.P E H w o a (.int .i64 m):=by intro ad m cap hx;refine kB (s:=Builtin.len_ c.argTypes o.type (c.args.map a.eval)) ho R (fun cs=>rfl) hW ⟨goInt m,?_,.int _ _⟩;rw[e1,e2,hx];simp[Builtin.len_,run_underlying ht]
    simp only[aN,a0T] at l;obtain⟨u,U,l⟩:=l;have r:=aV hq U hA hN;generalize hx:a.eval x=ex at r;cases u<;>simp only[PV.qX] at l<;>cases l
    all_goals
     cases r;exact key _ _ _ hx
   ·rename_i kt et ht;simp only[aXO] at i;obtain⟨q,hq,rfl⟩:=i;simp only[aN] at l;split at l
    ·rename_i m U;split at l
     ·rename_i sh g hg;cases l;have r:=aV hq U hA hN;generalize hx:a.eval x=ex at r;cases r;obtain⟨hlt,es,clock,L,hh,⟨δ,γ⟩,rfl,-⟩:=hW.h m _ hg;have β:(getObj m).run T.P w=.ok (.map es clock) w:=by simp[getObj,Sem.run,hh]
      refine kB (s:=Builtin.len_ c.argTypes o.type (c.args.map a.eval)) ho R (fun cs=>rfl) hW ⟨goInt es.size,?_,?_⟩
      ·rw[e1,e2,hx];simp[Builtin.len_,run_underlying ht,β]
      ·rw[Ui γ,← δ]; exact .int _ _
     ·cases l
    ·cases l
   ·cases i
  ·
   split at i<;>try cases i
   split at i<;>try cases i
   split at i<;>cases i;simp[POp.dQ] at hw
  ·
   rename_i x t J α;split at i
   ·rename_i e ht;simp only[aXO] at i;obtain⟨q,hq,rfl⟩:=i;simp only[aN] at l;split at l
    ·rename_i U;cases l;have r:=aV hq U hA hN;generalize hx:a.eval x=ex at r;cases r;refine kB (s:=Builtin.cap_ c.argTypes o.type (c.args.map a.eval)) ho R (fun cs=>rfl) hW ⟨goInt 0,?_,.int _ _⟩;rw[ayQ J a.eval,aIN α,hx];simp[Builtin.cap_,run_underlying ht]
    ·cases l
   ·cases i
  ·
   rename_i x y J;split at i<;>cases i;rename_i p q hp hq;simp only[aN] at l;split at l
   ·rename_i k m k' m' h1 h2;have r1:=aV hp h1 hA hN;have r2:=aV hq h2 hA hN;split at l
    ·cases l;generalize hx:a.eval x=ex at r1;generalize hy:a.eval y=ey at r2;cases r1; cases r2;refine kB (s:=Builtin.max_ c.argTypes o.type (c.args.map a.eval)) ho R (fun cs=>rfl) hW ⟨_,?_,.int _ _⟩;rw[S3 J a.eval,hx,hy,run_max_int2];simp
    ·cases l
   ·cases l
  ·
   rename_i x y J;split at i<;>cases i;rename_i p q hp hq;simp only[aN] at l;split at l
   ·rename_i k m k' m' h1 h2;have r1:=aV hp h1 hA hN;have r2:=aV hq h2 hA hN;split at l
    ·cases l;generalize hx:a.eval x=ex at r1;generalize hy:a.eval y=ey at r2;cases r1; cases r2;refine kB (s:=Builtin.min_ c.argTypes o.type (c.args.map a.eval)) ho R (fun cs=>rfl) hW ⟨_,?_,.int _ _⟩;rw[S3 J a.eval,hx,hy,run_min_int2];simp
    ·cases l
   ·cases l
  ·cases i
 ·split at i
  ·split at i<;>cases i;simp[POp.mG] at hk
  ·cases i
 ·simp only[aXO] at i;obtain⟨q,-,rfl⟩:=i;simp[POp.mG] at hk
 ·cases i
end
open Go Go.RowKit
section
variable {ds:List Deferred} {T:Tbl} {n:Nat} {E:Env} {F:PF} {H:PH} {a:Act} {w:World}
set_option maxHeartbeats 8000000 in
theorem Tb {o:Oper} {p:POp} {pv:PV} (R:T.op o=some p) (hn:p.fU=false) (hw:p.dQ=false) (hk:p.mG=false) (J:aN p F H=some pv)
  (hA:cQ ds n E F a) (hW:bE E H w) (hN:E.num=T.num):Good T.P E H w o a pv:=by
 unfold Tbl.op at R;split at R
 ·
  rename_i x ho;simp only[aXO] at R;obtain⟨q,hq,rfl⟩:=R;exact .mk' hW (v:=a.eval x) (by unfold execOp; rw[ho]; simp) (aV hq J hA hN)
 ·
  rename_i x ho;simp only[aXO] at R;obtain⟨q,hq,rfl⟩:=R;exact .mk' hW (v:=a.eval x) (by unfold execOp; rw[ho]; simp) (aV hq J hA hN)
 ·
  rename_i c x y ho;split at R<;>cases R;rename_i p1 p2 p3 h1 h2 h3;simp only[aN] at J;split at J
  ·rename_i t U;have r:=aV h1 U hA hN;generalize hx:a.eval c=ec at r;cases r;refine .mk' hW (v:=if t then a.eval x else a.eval y) (by unfold execOp; rw[ho]; simp[hx,asBool]) ?_;cases t
   ·exact aV h3 (by simpa using J) hA hN
   ·exact aV h2 (by simpa using J) hA hN
  ·cases J
 ·
  simp only[aXO] at R;obtain⟨z,-,rfl⟩:=R;simp[POp.fU] at hn
 ·
  rename_i e x ho;simp only[aXO] at R;obtain⟨q,hq,rfl⟩:=R;generalize υ:T.gz o.dst=ro at *
  cases ro with
  | false=>simp[POp.fU] at hn
  | true =>
   simp only[aN] at J;split at J
   ·rename_i v U;split at J
    ·rename_i h1;cases J;exact .of (s:=Instr.box e (a.eval x)) (by unfold execOp; rw[ho]) (Jd hW (aV hq U hA hN) h1)
    ·cases J
   ·cases J
 ·
  rename_i t parts ho;split at R
  ·rename_i z fs hz hu;split at R
   ·rename_i hm;simp only[aXO] at R;obtain⟨pl,ζ,rfl⟩:=R;simp only[aN,aXO] at J;obtain⟨out,β,rfl⟩:=J;have hy:=PL (T:=T) (w:=w) hz (.inl ⟨fs,hu,hm,ζ⟩) β hA hN;refine Good.val hW ?_ hy;unfold execOp; rw[ho]
   ·cases R
  ·rename_i z k e hz hu;split at R
   ·rename_i s hs;simp only[aXO] at R;obtain⟨pl,ζ,rfl⟩:=R;simp only[aN,aXO] at J;obtain⟨out,β,rfl⟩:=J;have hy:=PL (T:=T) (w:=w) hz (.inr ⟨k,e,s,hu,hs,ζ⟩) β hA hN;refine Good.val hW ?_ hy;unfold execOp; rw[ho]
   ·cases R
  ·cases R
 ·
  rename_i t len parts ho;split at R
  ·rename_i e hu;split at R
   ·rename_i s z pl hs hz ζ;split at R
    ·rename_i ξ;cases R;generalize υ:T.gz o.dst=ro at *
     cases ro with
     | false=>simp[POp.fU] at hn
     | true =>
      simp only[aN] at J;split at J
      ·rename_i κ;simp only[aXO] at J;obtain⟨out,β,rfl⟩:=J;have hy:=fx (T:=T) hu hs hz ξ.1 ξ.2 ζ κ.2 β hA hN hW;refine Good.of ?_ hy;unfold execOp; rw[ho]
      ·cases J
    ·cases R
   ·cases R
  ·cases R
 ·
  rename_i t x ho;split at R
  ·rename_i k q hg hs hq;cases R;simp only[aN] at J;split at J
   ·rename_i v U;simp only[aXO] at J;obtain⟨cs,ε,rfl⟩:=J;have hx:=aV hq U hA hN;have hy:=PY (T:=T) hg hs hW hx ε;refine Good.val hW (s:=Instr.loadAt t (a.eval x)) ?_ hy;unfold execOp; rw[ho]
   ·cases J
  ·rename_i k q hg hq;cases R;simp only[aN] at J;split at J
   ·rename_i v U;split at J
    ·rename_i v' ε;cases J;have hx:=aV hq U hA hN;have hy:=ZJ (T:=T) hg hW hx ε;refine Good.val hW (s:=Instr.loadAt t (a.eval x)) ?_ hy;unfold execOp; rw[ho]
    ·cases J
   ·cases J
  ·cases R
 ·
  split at R<;>cases R;simp[POp.dQ] at hw
 ·
  rename_i x ho;simp only[aXO] at R;obtain⟨q,hq,rfl⟩:=R;simp only[aN] at J;split at J
  ·rename_i U;cases J;have r:=aV hq U hA hN;refine .mk' hW (v:=a.eval x) ?_ r;generalize hx:a.eval x=ex at r;cases r;unfold execOp; rw[ho]; simp[hx]
  ·rename_i U;cases J;have r:=aV hq U hA hN;refine .mk' hW (v:=a.eval x) ?_ r;obtain⟨b,off,hx⟩:=MX r;unfold execOp; rw[ho]; simp[hx]
  ·cases J
 ·
  rename_i b t x y yt ho;split at R
  ·rename_i p q hp hq;have α:∀ b',b=b'→aN (.bin b' p q) F H=some pv→Good T.P E H w o a pv:=by
    intro b' hb J;subst hb;simp only[aN] at J;split at J
    ·rename_i v1 v2 h1 h2;exact .val hW (s:=do eqGuard b t x y (a.eval x) (a.eval y); binOp b t (a.eval x) (a.eval y)) (by unfold execOp; rw[ho]) (aaJ (aV hp h1 hA hN) (aV hq h2 hA hN) J t x y)
    ·cases J
   have δ:∀ neg,b=(if neg then .neq else .eql)→T.P.underlying t=some .bool→aN (.eqb neg p q) F H=some pv→Good T.P E H w o a pv:=by
    intro neg hb ht J;simp only[aN] at J;split at J
    ·rename_i v1 v2 h1 h2;cases J;have r1:=aV hp h1 hA hN;have r2:=aV hq h2 hA hN;generalize hx:a.eval x=ex at r1;generalize hy:a.eval y=ey at r2;cases r1; cases r2;refine .val hW (s:=do eqGuard b t x y (a.eval x) (a.eval y); binOp b t (a.eval x) (a.eval y)) (by unfold execOp; rw[ho]) ⟨_,?_,.bool _⟩;rw[hx,hy,hb];exact abG neg v1 v2 x y ht
    ·cases J
   have η:∀ neg {e},b=(if neg then .neq else .eql)→T.P.underlying t=some (.slice e)→q=.const .aB→aN (.isNil neg p) F H=some pv→Good T.P E H w o a pv:=by
    intro neg e hb ht τ J;subst τ;simp only[aN] at J;cases h1:p.ev F with
    | none=>rw[h1] at J; cases J
    | some v1 =>rw[h1,a0U,aXO] at J;obtain⟨c,θ,rfl⟩:=J;have r1:=aV hp h1 hA hN;have r2:=aV (F:=F) hq rfl hA hN;generalize hx:a.eval x=ex at r1;generalize hy:a.eval y=ey at r2;cases r2;refine .val hW (s:=do eqGuard b t x y (a.eval x) (a.eval y); binOp b t (a.eval x) (a.eval y)) (by unfold execOp; rw[ho]) ⟨_,?_,.bool _⟩;rw[hx,hy,hb];exact Jo neg r1 θ x y ht
   have ν:∀ neg ks,b=(if neg then .neq else .eql)→T.flat t=some ks→aN (.eqs neg ks p q) F H=some pv→Good T.P E H w o a pv:=by
    intro neg ks hb ht J;simp only[aN] at J;split at J
    ·rename_i v1 v2 h1 h2;simp only[aXO] at J;obtain⟨c,θ,rfl⟩:=J;refine .val hW (s:=do eqGuard b t x y (a.eval x) (a.eval y); binOp b t (a.eval x) (a.eval y)) (by unfold execOp; rw[ho]) ⟨_,?_,.bool _⟩;rw[hb];exact Ts neg (aV hp h1 hA hN) (aV hq h2 hA hN) θ x y ht
    ·cases J
   split at R
   ·split at R
    ·cases R; exact α _ rfl J
    ·cases R; exact α _ rfl J
    ·rename_i ht; cases R; exact δ false rfl ht J
    ·simp only[aXO] at R;obtain⟨ks,ι,rfl⟩:=R;exact ν false ks rfl ι J
    ·rename_i ht;split at R
     ·cases R; exact η false rfl ht rfl J
     ·cases R
    ·cases R
   ·split at R
    ·cases R; exact α _ rfl J
    ·cases R; exact α _ rfl J
    ·rename_i ht; cases R; exact δ true rfl ht J
    ·simp only[aXO] at R;obtain⟨ks,ι,rfl⟩:=R;exact ν true ks rfl ι J
    ·rename_i ht;split at R
     ·cases R; exact η true rfl ht rfl J
     ·cases R
    ·cases R
   ·cases R; exact α _ rfl J
  ·cases R
 ·
  rename_i u t x ho;simp only[aXO] at R;obtain⟨q,hq,rfl⟩:=R;simp only[aN] at J;split at J
  ·rename_i v U;exact .val hW (s:=Op.unary u (a.eval x)) (by unfold execOp; rw[ho]) (awI (aV hq U hA hN) J)
  ·cases J
 ·
  rename_i s d x ho;split at R
  ·rename_i k k' q hs hd hq;cases R;simp only[aN] at J;split at J
   ·rename_i m U;cases J;have r:=aV hq U hA hN;generalize hx:a.eval x=ex at r;cases r;refine .val hW (s:=convert s d (a.eval x)) (by unfold execOp; rw[ho]) ⟨_,?_,.int _ _⟩;rw[hx];simp[convert,run_underlying hs,run_underlying hd,Conv.intToInt]
   ·cases J
  ·rename_i q hs hd hq;cases R;simp only[aN] at J;split at J
   ·rename_i l U;cases J;have r:=aV hq U hA hN;refine .val hW (s:=convert s d (a.eval x)) (by unfold execOp; rw[ho]) ⟨a.eval x,?_,r⟩;generalize hx:a.eval x=ex at r;cases r;simp[convert,run_underlying hs,run_underlying hd]
   ·cases J
  ·rename_i e q hs hd hq;split at R
   ·rename_i he;cases R;simp only[aN] at J;split at J
    ·rename_i v U;split at J
     ·rename_i rows hr;simp only[aXO] at J;obtain⟨l,hl,rfl⟩:=J;exact .val hW (s:=convert s d (a.eval x)) (by unfold execOp; rw[ho]) (WB hs he hd hW (aV hq U hA hN) hr hl)
     ·cases J
    ·cases J
   ·cases R
  ·cases R
 ·
  rename_i f γ captured ho;split at R
  ·rename_i m cs hm ε;split at R
   ·rename_i hf;cases R;simp only[aN,aXO] at J;obtain⟨vs,ψ,rfl⟩:=J;have r:=uR ε ψ hA hN;refine .val hW (s:=Instr.makeFunc (.func f) (γ.map a.eval) (captured.map a.eval)) (by unfold execOp; rw[ho]) ⟨.func (.func f) #[] (captured.map a.eval),?_,?_⟩
    ·have:γ=#[]:=Array.eq_empty_of_size_eq_zero hf.2;subst this;simp[Instr.makeFunc]
    ·have hl:=r.len;have:=aU.fn (E:=E) (name:=m) (captured:=vs) (captured.map a.eval) (by simpa using hl) (fun j p v a b=>r.at_ j p v a (by simpa using b));rw[hN,hf.1] at this;exact this
   ·cases R
  ·cases R
 ·
  split at R
  ·simp only[aXO] at R;obtain⟨z,-,rfl⟩:=R;simp[POp.fU] at hn
  ·cases R
 ·
  rename_i t x k ok ho;split at R
  ·rename_i kt et hu;split at R
   ·rename_i sh z p1 q1 χ hz hp hq;simp only[aXO] at R;obtain⟨pz,σ,rfl⟩:=R;simp only[a0T] at hz;obtain⟨info,hi,hz⟩:=hz;simp only[aN] at J;split at J
    ·rename_i m kv h1 h2;split at J
     ·rename_i Γ g key h3 h4;split at J
      ·rename_i he;subst he;cases J;exact .val hW (s:=Instr.lookup t (a.eval x) (a.eval k) ok) (by unfold execOp; rw[ho]) (C2 hu χ hi hz σ (aV hp h1 hA hN) (aV hq h2 hA hN) h3 h4 hW)
      ·cases J
     ·cases J
    ·cases J
   ·cases R
  ·cases R
 ·
  split at R
  ·split at R<;>cases R;simp[POp.dQ] at hw
  ·cases R
 ·
  split at R
  ·split at R<;>cases R;simp[POp.dQ] at hw
  ·cases R
 ·
  split at R
  ·split at R
   ·split at R<;>cases R;simp[POp.fU] at hn
   ·cases R
  ·cases R
 ·
  rename_i t x lo hi mx ho;split at R
  ·rename_i e p l h m hu hx hl hh hm;split at R
   ·cases R
   ·rename_i ο;simp only[aXO] at R;obtain⟨s,hs,rfl⟩:=R;exact Ta ho hu hs hx hl hh hm ο J hA hW hN
  ·rename_i p l h hu hx hl hh hm;cases R;have ρ:mx=none:=by
    cases mx with
    | none=>rfl
    | some y=>simp only[Tbl.opt,aXO] at hm; obtain⟨_,-,hq⟩:=hm; cases hq
   subst ρ;simp only[aN] at J;split at J
   ·rename_i str U;split at J
    ·rename_i li ω bl bh;split at J
     ·rename_i hb;cases J;exact .val hW (s:=Instr.sliceAt t (a.eval x) (lo.map a.eval) (hi.map a.eval) (Option.map a.eval none)) (by unfold execOp; rw[ho]) (jj hu hl hh (aV hx U hA hN) bl bh hb.1 hb.2.1 hb.2.2 hA hN)
     ·cases J
    ·cases J
   ·cases J
  ·rename_i n' e p hu hx hl hh hm;have μ:∀ {y:Option Operand},T.opt y=some none→y=none:=by
    intro y hy;cases y with
    | none=>rfl
    | some y=>simp only[Tbl.opt,aXO] at hy; obtain⟨_,-,hq⟩:=hy; cases hq
   have h1:=μ hl;have h2:=μ hh;have h3:=μ hm;subst h1 h2 h3;simp only[aXO] at R;obtain⟨s,hs,rfl⟩:=R;simp only[aN] at J;split at J
   ·rename_i cs U;split at J
    ·rename_i hb;cases J;exact .val hW (s:=Instr.sliceAt t (a.eval x) (Option.map a.eval none) (Option.map a.eval none) (Option.map a.eval none)) (by unfold execOp; rw[ho]) (Gr hu hs (aV hx U hA hN) hb.1 hb.2.2 hA hN)
    ·cases J
   ·cases J
  ·cases R
 ·
  rename_i t x f ho;split at R
  ·rename_i fs q hu hq;split at R
   ·rename_i fd hf;split at R
    ·rename_i s hs;cases R;simp only[aN] at J;split at J
     ·rename_i U;cases J;exact .val hW (s:=Instr.fieldAt t (a.eval x) f) (by unfold execOp; rw[ho]) (JJ hu hf hs (aV hq U hA hN) (.inl ⟨_,_,_,_,rfl,rfl⟩))
     ·rename_i U;cases J;exact .val hW (s:=Instr.fieldAt t (a.eval x) f) (by unfold execOp; rw[ho]) (JJ hu hf hs (aV hq U hA hN) (.inr ⟨_,rfl,rfl⟩))
     ·cases J
    ·cases R
   ·cases R
  ·cases R
 ·
  rename_i t x f ho;split at R
  ·rename_i fs q hu hq;split at R
   ·rename_i fd hf;split at R
    ·rename_i k hg hs;cases R;simp only[aN] at J;split at J
     ·rename_i cs U;split at J
      ·rename_i κ;cases J;exact .val hW (s:=Instr.field t (a.eval x) f) (by unfold execOp; rw[ho]) (Tt hu hf hg hs (aV hq U hA hN) κ)
      ·cases J
     ·cases J
    ·rename_i k hg;cases R;simp only[aN] at J;split at J
     ·rename_i cs U;exact .val hW (s:=Instr.field t (a.eval x) f) (by unfold execOp; rw[ho]) (abJ hu hf hg (aV hq U hA hN) J)
     ·cases J
    ·cases R
   ·cases R
  ·cases R
 ·
  rename_i t x i ho;split at R
  ·rename_i e p q hu hp hq;simp only[aXO] at R;obtain⟨s,hs,rfl⟩:=R;simp only[aN] at J;split at J
   ·rename_i s0 rows k m h1 h2;have r1:=aV hp h1 hA hN;have r2:=aV hq h2 hA hN;generalize hy:a.eval i=ey at r2;cases r2;split at J
    ·rename_i R;obtain⟨rfl,h0⟩:=R;split at J
     ·rename_i r hr;cases J;refine .val hW (s:=Instr.indexAt t (a.eval x) (a.eval i)) (by unfold execOp; rw[ho]) ?_;rw[hy];exact aBF hu hs r1 h0 hr
     ·cases J
    ·cases J
   ·rename_i o' s0 off len k m h1 h2;have r1:=aV hp h1 hA hN;have r2:=aV hq h2 hA hN;generalize hy:a.eval i=ey at r2;cases r2;split at J
    ·rename_i R;obtain⟨rfl,h0,hi⟩:=R;cases J;refine .val hW (s:=Instr.indexAt t (a.eval x) (a.eval i)) (by unfold execOp; rw[ho]) ?_;rw[hy];exact arH hu hs r1 h0 hi
    ·cases J
   ·cases J
  ·rename_i e p q k hu hp hq;simp only[aXO] at R;obtain⟨s,hs,rfl⟩:=R;simp only[aN] at J;split at J
   ·rename_i h1 h2;have r1:=aV hp h1 hA hN;have r2:=aV hq h2 hA hN;generalize hy:a.eval i=ey at r2;cases r2;split at J
    ·rename_i R;cases J;refine .val hW (s:=Instr.indexAt t (a.eval x) (a.eval i)) (by unfold execOp; rw[ho]) ?_;rw[hy];exact ZC hu hs r1 R.1 R.2 (.inl ⟨_,_,_,_,rfl,rfl⟩)
    ·cases J
   ·rename_i h1 h2;have r1:=aV hp h1 hA hN;have r2:=aV hq h2 hA hN;generalize hy:a.eval i=ey at r2;cases r2;split at J
    ·rename_i R;cases J;refine .val hW (s:=Instr.indexAt t (a.eval x) (a.eval i)) (by unfold execOp; rw[ho]) ?_;rw[hy];exact ZC hu hs r1 R.1 R.2 (.inr ⟨_,rfl,rfl⟩)
    ·cases J
   ·cases J
  ·cases R
 ·
  rename_i t x i ho;split at R
  ·rename_i e p q k hu hp hq;split at R
   ·rename_i s g hs hg;cases R;simp only[aN] at J;split at J
    ·rename_i h1 h2;have r1:=aV hp h1 hA hN;have r2:=aV hq h2 hA hN;generalize hy:a.eval i=ey at r2;cases r2;split at J
     ·rename_i R;refine .val hW (s:=Instr.index t (a.eval x) (a.eval i)) (by unfold execOp; rw[ho]) ?_;rw[hy];exact Ud hu hs hg r1 R.1 R.2 J
     ·cases J
    ·cases J
   ·cases R
  ·rename_i p q hu hp hq;cases R;simp only[aN] at J;split at J
   ·rename_i h1 h2;have r1:=aV hp h1 hA hN;have r2:=aV hq h2 hA hN;generalize hy:a.eval i=ey at r2;cases r2;split at J
    ·rename_i R;refine .val hW (s:=Instr.index t (a.eval x) (a.eval i)) (by unfold execOp; rw[ho]) ?_;rw[hy];exact Cm hu r1 R J
    ·cases J
   ·cases J
  ·cases R
 ·
  rename_i x i ho;simp only[aXO] at R;obtain⟨q,hq,rfl⟩:=R;simp only[aN] at J;split at J
  ·rename_i vs U;have r:=aV hq U hA hN;generalize hx:a.eval x=ex at r;cases r with
   | tup us hl hr =>
   obtain⟨u,hu,φ⟩:=wj hl hr J;refine .val hW (s:=Instr.extract (a.eval x) i) (by unfold execOp; rw[ho]) ⟨u,?_,φ⟩;rw[hx];simp[Instr.extract,hu]
  ·cases J
 ·rename_i c ho;exact aaQ ho R hw hk J hA hW hN
 ·cases R
end
open Go Go.RowKit
def Env.own (E:Env) (b n:Nat):Env:=⟨E.G,upd E.sz b (some n),E.num⟩
section
variable {ds:List Deferred} {T:Tbl} {n:Nat} {E:Env} {F:PF} {H:PH} {a:Act} {w:World}
theorem Env.aJK (hW:bE E H w) (m:Nat):E.le (E.own w.heap.size m):=by
 refine⟨fun b ds h=>h,fun b k h=>?_,rfl⟩;have:=hW.Gj h;simp only[Env.own];rw[NO _ _ Om];exact h
theorem vX {s:Nat} {rs:List (List PV)} (h:∀ r∈rs,r.length=s) {i j:Nat} {pv:PV} (p:at2 rs i j=some pv):i<rs.length∧j<s:=by
 unfold at2 at p;cases J:rs[i]? with
 | none=>simp[J] at p
 | some r =>
  rw[J,a0U] at p;have R:=h r (a0D J);refine⟨?_,?_⟩
  ·rcases aXZ i rs.length with l | l
   ·exact l
   ·rw[aYT l] at J; cases J
  ·rcases aXZ j r.length with l | l
   ·omega
   ·rw[aYT l] at p; cases p
def jO (E:Env) (s:Nat) (rs:List (List PV)) (cs:Array Value):Prop :=
 (∀ r∈rs,r.length=s)∧rs.length*s≤cs.size∧∀ i j pv,at2 rs i j=some pv→∃ u,cs[i*s+j]?=some u∧u.oneCell'=true∧aU E pv u
theorem jO.of_flat {s:Nat} {rs:List (List PV)} {cs:Array Value} (h:lM E rs.flatten cs) (l:∀ r∈rs,r.length=s):jO E s rs cs:=by
 refine⟨l,by rw[h.1,mK rs l]; exact aXL _,fun i j pv J=>?_⟩;obtain⟨-,R⟩:=vX l J;have e:=sJ rs i j l R;rw[J] at e;have hlt:i*s+j<cs.size:=by
  rw[h.1];rcases aXZ (i*s+j) rs.flatten.length with p | p
  ·exact p
  ·rw[aYT p] at e; cases e
 exact⟨cs[i*s+j],a0P hlt,h.2.1 _ (Array.getElem_mem_toList hlt),h.2.2 _ pv _ e (a0P hlt)⟩
theorem jO.mono {l:Env} (U:E.le l) {s:Nat} {rs:List (List PV)} {cs:Array Value} (h:jO E s rs cs):jO l s rs cs :=
 ⟨h.1,h.2.1,fun i j pv hp=>by obtain⟨u,p,J,R⟩:=h.2.2 i j pv hp; exact⟨u,p,J,R.mono U⟩⟩
theorem cC (H:PH) (o q:Nat) (x:bX):(H.set o x).f q=if q=o then some x else H.f q:=rfl
theorem bE.HZ (hW:bE E H w) {s:Nat} {rs:List (List PV)} {cs:Array Value} (ty:TypeId) (h:jO E s rs cs) :
  bE (E.own w.heap.size cs.size) (H.set w.heap.size (.rows s rs)) (w.alloc (.cells cs ty))∧Ext E H w (E.own w.heap.size cs.size) (H.set w.heap.size (.rows s rs)) (w.alloc (.cells cs ty)):=by
 have R:=Env.aJK hW cs.size;refine⟨⟨fun b ds hb=>?_,fun o x l=>?_,fun o m hs=>?_⟩,⟨R,rfl,rfl,rfl,by simp,fun b hb _=>Below.heap_alloc w _ b hb,fun o x l=>?_,fun b ds hb=>.inl hb⟩⟩
 ·obtain⟨p,U,fr,J⟩:=hW.g b ds hb;have hlt:=hW.T1 hb;refine⟨fun x hx=>p x ?_,U,fr,(Below.heap_alloc w _ b hlt).trans J⟩;rw[cC,if_neg Om] at hx;exact hx
 ·rw[cC] at l;split at l
  ·rename_i e;subst e;cases l;refine⟨by simp,cs,ty,heap_alloc_new w _,by simp[Env.own,upd],h.1,h.2.1,fun i j pv hp=>?_⟩;obtain⟨u,p,J,h3⟩:=h.2.2 i j pv hp;exact⟨u,p,J,h3.mono R⟩
  ·obtain⟨p,J⟩:=hW.h o x l;exact⟨by simp; omega,J.mono R (Below.heap_alloc w _ o p)⟩
 ·simp only[Env.own,upd] at hs;split at hs
  ·rename_i e;cases hs;subst e;exact⟨cs,ty,(0,0),heap_alloc_new w _,rfl⟩
  ·obtain⟨α,U,fr,p,J⟩:=hW.s o m hs;exact⟨α,U,fr,(Below.heap_alloc w _ o (hW.Gj hs)).trans p,J⟩
 ·rw[cC] at l;split at l
  ·rename_i e; exact .inr Om
  ·exact .inl ⟨x,l⟩
theorem bE.aIL (hW:bE E H w) (sh:MSh):bE E (H.set w.heap.size (.map sh (fun _=>none))) (w.alloc (.map #[] 0))∧Ext E H w E (H.set w.heap.size (.map sh (fun _=>none))) (w.alloc (.map #[] 0)):=by
 refine⟨⟨fun b ds J=>?_,fun o x l=>?_,fun o m hs=>?_⟩,⟨.refl E,rfl,rfl,rfl,by simp,fun b J _=>Below.heap_alloc w _ b J,fun o x l=>?_,fun b ds J=>.inl J⟩⟩
 ·obtain⟨R,p,fr,U⟩:=hW.g b ds J;have hlt:=hW.T1 J;refine⟨fun x hx=>R x ?_,p,fr,(Below.heap_alloc w _ b hlt).trans U⟩;rw[cC,if_neg Om] at hx;exact hx
 ·rw[cC] at l;split at l
  ·rename_i e;subst e;cases l;exact⟨by simp,#[],0,[],heap_alloc_new w _,⟨rfl,List.nodup_nil⟩,rfl,fun i e e' h=>by simp at h⟩
  ·obtain⟨R,U⟩:=hW.h o x l;exact⟨by simp; omega,U.mono (.refl E) (Below.heap_alloc w _ o R)⟩
 ·obtain⟨α,p,fr,R,U⟩:=hW.s o m hs;exact⟨α,p,fr,(Below.heap_alloc w _ o (hW.Gj hs)).trans R,U⟩
 ·rw[cC] at l;split at l
  ·rename_i e; exact .inr Om
  ·exact .inl ⟨x,l⟩
def aMI (P:Program) (E:Env) (H:PH) (w:World) (o:Oper) (a:Act) (mk:Nat→PV) (x:bX):Prop :=
 ∃ v l i q,(execOp a.eval o).run P w=.ok (.value v) l∧H q=none∧aU i (mk q) v∧bE i (H.set q x) l∧Ext E H w i (H.set q x) l
theorem c7 {cs:List PV} {vs:Array Value} (h:lM E cs vs):jO E cs.length [cs] vs:=by
 refine .of_flat (by simpa using h) (by simp)
theorem Fw (E:Env) (b m:Nat):(E.own b m).sz b=some m:=by simp[Env.own,upd]
theorem Je {o:Oper} {c:Call} {p:POp} (i:T.call o c=some p):p.fU=false:=by
 unfold Tbl.call at i
 repeat' (first | (split at i) | (simp only[aXO] at i; obtain⟨_,-,rfl⟩:=i; rfl) | (cases i; rfl) | (cases i; done))
theorem acW {o:Oper} {p:POp} {mk:Nat→PV} {x:bX} (J:T.op o=some p) (hn:p.fU=true) (U:cL p F=some (mk,x)) (hA:cQ ds n E F a) (hW:bE E H w) (hN:E.num=T.num):aMI T.P E H w o a mk x:=by
 have α:=hW.Uc;unfold Tbl.op at J;split at J
 case h_4 =>
  rename_i e ho;simp only[aXO] at J;obtain⟨z,hz,rfl⟩:=J;simp only[cL,aZS.injEq,Prod.mk.injEq] at U;obtain⟨rfl,rfl⟩:=U;obtain⟨i,zv,hi,θ,κ⟩:=HJ (E:=E) hz;obtain⟨h1,h2⟩:=hW.HZ e (c7 κ);have R:(Instr.alloc e true (.tuple #[])).run T.P w=.ok (.pointer (some ⟨w.heap.size,0,none⟩)) (w.alloc (.cells zv.cells e)):=by simp[Instr.alloc,zeroValue,typeInfo,hi,θ,newVar,newRow]
  refine⟨_,_,_,w.heap.size,qJ ?_ R,α,?_,h1,h2⟩
  ·unfold execOp; rw[ho]
  ·have:=aU.ptr (E:=E.own w.heap.size zv.cells.size) w.heap.size z.length 0 0;simpa using this
 case h_5 =>
  rename_i e y ho;simp only[aXO] at J;obtain⟨q,hq,rfl⟩:=J;generalize σ:T.gz o.dst=ro at *
  cases ro with
  | true=>simp[POp.fU] at hn
  | false =>
   simp only[cL] at U;split at U
   ·rename_i v ι;split at U
    ·rename_i h1;simp only[aZS.injEq,Prod.mk.injEq] at U;obtain⟨rfl,rfl⟩:=U;obtain⟨c1,c2,c3⟩:=sW (aV hq ι hA hN) h1;obtain⟨g1,g2⟩:=hW.HZ e (c7 (E:=E) (cs:=v.cells) (vs:=(a.eval y).cells) ⟨c1,c2,c3⟩);have R:(Instr.box e (a.eval y)).run T.P w=.ok (.pointer (some ⟨w.heap.size,0,none⟩)) (w.alloc (.cells (a.eval y).cells e)):=by simp[Instr.box,newVar,newRow]
     refine⟨_,_,_,w.heap.size,qJ ?_ R,α,?_,g1,g2⟩
     ·unfold execOp; rw[ho]
     ·have:=aU.ptr (E:=E.own w.heap.size (a.eval y).cells.size) w.heap.size v.cells.length 0 0;simpa using this
    ·cases U
   ·cases U
 case h_7 =>
  rename_i t len parts ho;split at J
  ·rename_i e hu;split at J
   ·rename_i s z pl hs hz ρ;split at J
    ·rename_i β;cases J;generalize σ:T.gz o.dst=ro at *
     cases ro with
     | true=>simp[POp.fU] at hn
     | false =>
      simp only[cL] at U;split at U
      ·rename_i ο;simp only[aXO,Prod.mk.injEq] at U;obtain⟨out,ξ,rfl,rfl⟩:=U;obtain⟨us,R,δ,ζ,ν⟩:=IG (w:=w) hu hs hz β.1 β.2 ρ ο.2 ξ hA hN;obtain⟨g1,g2⟩:=hW.HZ e (jO.of_flat δ ζ);refine⟨_,_,_,w.heap.size,qJ ?_ R,α,?_,g1,g2⟩
       ·unfold execOp; rw[ho]
       ·have υ:us.size=len*s:=by rw[δ.1,mK out ζ,ν]
        refine .osl (n:=us.size) rfl rfl (.inr (by simp)) (aXL _) ?_ (Fw _ _ _) (by rw[υ]; omega);have:len*1≤len*s:=aZR _ β.2;simp only[maxLen];omega
      ·cases U
    ·cases J
   ·cases J
  ·cases J
 case h_15 =>
  rename_i t ho;split at J
  case h_2=>cases J
  simp only[aXO] at J;obtain⟨sh,-,rfl⟩:=J;simp only[cL,aZS.injEq,Prod.mk.injEq] at U;obtain⟨rfl,rfl⟩:=U;obtain⟨g1,g2⟩:=hW.aIL sh;have R:(Instr.makeMap t (Option.map a.eval none)).run T.P w=.ok (.map (some w.heap.size)) (w.alloc (.map #[] 0)):=by simp[Instr.makeMap]
  refine⟨_,_,_,w.heap.size,qJ ?_ R,α,.map _,g1,g2⟩;unfold execOp; rw[ho]
 case h_19 =>
  rename_i t l c ho;split at J
  ·rename_i e hu;split at J
   ·rename_i i z p q hi hz hp hq;split at J
    ·rename_i β;cases J;simp only[cL] at U;split at U
     ·rename_i k1 m1 k2 m2 ι φ;split at U
      ·rename_i η;simp only[aZS.injEq,Prod.mk.injEq] at U;obtain⟨rfl,rfl⟩:=U;obtain⟨h0,h1,h2,h3,-⟩:=η;have r1:=aV hp ι hA hN;have r2:=aV hq φ hA hN;generalize hx:a.eval l=ex at r1;generalize hy:a.eval c=ey at r2;cases r1; cases r2;obtain⟨i',zv,μ,θ,κ⟩:=HJ (E:=E) hz;rw[hi] at μ;cases μ;have R:=run_make w t e i zv hu hi θ k1 k2 m1 m2 h0 h1 (by rw[Int.mul_comm]; omega) h3;have δ:=κ.azJ (len:=m2.toNat) β.1 β.2;have ε:jO E i.size (aXK m2.toNat z) (madeCells zv.cells (m2.toNat*i.size)) :=
        jO.of_flat δ (fun r hr=>by rw[(List.mem_replicate.1 hr).2]; exact β.1)
       have τ:jO E i.size (aXK m1.toNat z) (madeCells zv.cells (m2.toNat*i.size)):=by
        refine⟨fun r hr=>by rw[(List.mem_replicate.1 hr).2]; exact β.1,?_,fun a b pv γ=>ε.2.2 a b pv ?_⟩
        ·have:=ε.2.1;simp only[List.length_replicate] at this ⊢;have h5:m1.toNat*i.size≤m2.toNat*i.size:=aYL _ Om;omega
        ·unfold at2 at γ ⊢;rw[List.getElem?_replicate] at γ ⊢;split at γ
         ·rw[if_pos Om]; exact γ
         ·simp at γ
       obtain⟨g1,g2⟩:=hW.HZ e τ;refine⟨_,_,_,w.heap.size,qJ (s:=Instr.makeSlice t (.int k1 m1) (.int k2 m2)) ?_ R,α,?_,g1,g2⟩
       ·unfold execOp; rw[ho]; simp only[hx,hy]
       ·refine .osl (n:=(madeCells zv.cells (m2.toNat*i.size)).size) rfl rfl (.inr (by simp)) Om (by simp only[maxLen]; omega) (Fw _ _ _) (by rw[size_madeCells]; omega)
      ·cases U
     ·cases U
    ·cases J
   ·cases J
  ·cases J
 all_goals (first
  | (simp only[aXO] at J; obtain⟨_,-,rfl⟩:=J; simp[POp.fU] at hn; done)
  | skip)
 all_goals (repeat' (first | (split at J) | (simp only[aXO] at J; obtain⟨_,-,rfl⟩:=J; simp[POp.fU] at hn; done) | (cases J; simp[POp.fU] at hn; done) | (cases J; done)))
 all_goals (rw[Je J] at hn; cases hn)
end
open Go Go.RowKit
section
variable {ds:List Deferred} {T:Tbl} {n:Nat} {E:Env} {F:PF} {H:PH} {a:Act} {w:World}
theorem bE.Ri (hW:bE E H w) {o s:Nat} {rs rs':List (List PV)} {p cs:Array Value} {ty:TypeId} (ho:H o=some (.rows s rs)) (hh:w.heap[o]?=some (.cells p ty (0,0))) (δ:cs.size=p.size)
  (h:jO E s rs' cs):bE E (H.set o (.rows s rs')) (w.setRow o cs)∧Ext E H w E (H.set o (.rows s rs')) (w.setRow o cs):=by
 have l:=setRow_heap w o p cs ty (0,0) hh;have i:∀ b,b≠o→(w.setRow o cs).heap[b]?=w.heap[b]?:=fun b hb=>setRow_other w o b cs hb;have α:∀ b ds,E.G b=some ds→b≠o:=fun b ds hb e=>by subst e;have:=(hW.g b ds hb).1 _ ho;cases this
 have β:E.sz o=some p.size:=by obtain⟨-,R,J,U,h2,-⟩:=hW.h o _ ho;rw[hh] at U;cases U;exact h2
 refine⟨⟨fun b ds hb=>?_,fun q x hq=>?_,fun q m hs=>?_⟩,⟨.refl E,rfl,rfl,rfl,by simp,fun b _ hn=>i b (fun e=>by subst e; rw[ho] at hn; cases hn),fun q x hq=>?_,fun b ds hb=>.inl hb⟩⟩
 ·obtain⟨U,J,fr,h2⟩:=hW.g b ds hb;have γ:=α b ds hb;refine⟨fun x hx=>U x ?_,J,fr,(i b γ).trans h2⟩;rw[cC,if_neg γ] at hx;exact hx
 ·rw[cC] at hq;split at hq
  ·rename_i e;subst e;cases hq;refine⟨by simpa using (hW.h q _ ho).1,cs,ty,l,by rw[δ]; exact β,h.1,h.2.1,h.2.2⟩
  ·rename_i e;obtain⟨U,h2⟩:=hW.h q x hq;exact⟨by simpa using U,h2.mono (.refl E) (i q e)⟩
 ·by_cases e:q=o
  ·subst e;rw[β] at hs;cases hs;exact⟨cs,ty,(0,0),l,δ⟩
  ·obtain⟨R,J,fr,U,h2⟩:=hW.s q m hs;exact⟨R,J,fr,(i q e).trans U,h2⟩
 ·rw[cC] at hq;split at hq
  ·rename_i e; subst e; exact .inl ⟨_,ho⟩
  ·exact .inl ⟨x,hq⟩
def wg (P:Program) (E:Env) (H:PH) (w:World) (o:Oper) (a:Act) (K:PV→PH→Prop):Prop :=
 ∃ v l p i H' pv,(execOp a.eval o).run P w=.ok l p∧(l=.value v∨(l=.skip∧v=undef))∧aU i pv v∧bE i H' p∧Ext E H w i H' p∧K pv H'
theorem MZ:∀ (ps:List PV) (r:List PV) (c j:Nat),c+ps.length≤r.length→(setCells r c ps)[j]?=if c≤j∧j<c+ps.length then ps[j-c]? else r[j]?
 | [],r,c,j,_=>by rw[if_neg (by intro h; simp at h; omega)];rfl
 | p::ps,r,c,j,h=>by
  simp only[aZA] at h ⊢;simp only[setCells];rw[MZ ps _ (c+1) j (by rw[aZM]; omega),List.getElem?_set];by_cases i:c=j
  ·subst i;rw[if_neg Om,if_pos rfl,if_pos Om,if_pos Om];simp
  ·by_cases l:c+1≤j∧j<c+1+ps.length
   ·rw[if_pos l,if_pos Om];have:j-c=(j-(c+1))+1:=Om;rw[this,List.getElem?_cons_succ]
   ·rw[if_neg l,if_neg i,if_neg Om]
theorem Wi (L cs:List Value) (off k:Nat) (h:off+cs.length≤L.length):(L.take off++cs++L.drop (off+cs.length))[k]?=if off≤k∧k<off+cs.length then cs[k-off]? else L[k]?:=by
 have i:(L.take off).length=off:=by rw[aYA]; omega
 by_cases l:k<off
 ·rw[if_neg Om,aYQ,a0C Om,a0Q,if_pos l]
 ·by_cases p:k<off+cs.length
  ·rw[if_pos ⟨by omega,p⟩,aYQ,aZY Om,i,a0C Om]
  ·rw[if_neg Om,aYQ,aZY Om,i,aZY Om,List.getElem?_drop];congr 1;omega
theorem jO.store {s:Nat} {rs:List (List PV)} {l:Array Value} (h:jO E s rs l) {i c:Nat} {r ps:List PV} {U:List Value} (hr:rs[i]?=some r) (hc:c+ps.length≤s) (hl:U.length=ps.length)
  (h1:∀ u∈U,u.oneCell'=true) (β:∀ (j:Nat) p u,ps[j]?=some p→U[j]?=some u→aU E p u) :
  jO E s (rs.set i (setCells r c ps)) (l.toList.take (i*s+c)++U++l.toList.drop (i*s+c+U.length)).toArray:=by
 have hi:i<rs.length:=by
  rcases aXZ i rs.length with h' | h'
  ·exact h'
  ·rw[aYT h'] at hr; cases hr
 have ζ:r.length=s:=h.1 r (a0D hr);have δ:(i+1)*s≤rs.length*s:=aYL _ hi;rw[a0G] at δ;have η:=h.2.1;have α:i*s+c+U.length≤l.toList.length:=by (have e:l.toList.length=l.size:=a0J; omega)
 refine⟨fun q hq=>?_,?_,fun J j pv hp=>?_⟩
 ·rcases List.mem_or_eq_of_mem_set hq with hq | rfl
  ·exact h.1 q hq
  ·rw[yE]; exact ζ
 ·rw[aZM,List.size_toArray];simp only[aXN,aYA,aZI];have e:l.toList.length=l.size:=a0J;omega
 ·rw[List.getElem?_toArray,Wi _ _ _ _ α];by_cases e:J=i
  ·subst e;simp only[at2,List.getElem?_set,if_true,hi,a0U] at hp;rw[MZ ps r c j Om] at hp;split at hp
   ·rename_i hj;rw[if_pos Om];have e2:J*s+j-(J*s+c)=j-c:=Om;rw[e2];have hlt:j-c<U.length:=Om;exact⟨U[j-c],aXT hlt,h1 _ (aXM hlt),β _ pv _ hp (aXT hlt)⟩
   ·rename_i hj;have R:at2 rs J j=some pv:=by simp[at2,hr,hp]
    have γ:=(vX h.1 R).2;rw[if_neg Om,Array.getElem?_toList];exact h.2.2 J j pv R
  ·have R:at2 rs J j=some pv:=by simp only[at2] at hp ⊢;rw[List.getElem?_set,if_neg (fun x=>e x.symm)] at hp;exact hp
   have γ:=(vX h.1 R).2;have ε:¬ (i*s+c≤J*s+j∧J*s+j<i*s+c+U.length):=by
    rcases aXZ J i with h' | h'
    ·have:(J+1)*s≤i*s:=aYL _ h';rw[a0G] at this;omega
    ·have:(i+1)*s≤J*s:=aYL _ Om;rw[a0G] at this;omega
   rw[if_neg ε,Array.getElem?_toList];exact h.2.2 J j pv R
theorem Kp {o:Oper} {t:TypeId} {ax x:Operand} {pp px:aO} {k:Nat} {pa pv:PV} {H':PH} (ho:o.op=.store t ax x) (hs:T.size t=some k) (hp:T.opd ax=some pp) (hx:T.opd x=some px)
  (μ:pp.ev F=some pa) (ν:px.ev F=some pv) (δ:pv.cells.length=k) (l:storeAt H pa pv.cells=some H') (hA:cQ ds n E F a) (hW:bE E H w) (hN:E.num=T.num) :
  ∃ w',(execOp a.eval o).run T.P w=.ok .skip w'∧bE E H' w'∧Ext E H w E H' w':=by
 unfold storeAt at l;split at l
 ·rename_i q size i c;split at l
  ·rename_i s rs hq;split at l
   ·rename_i α;obtain⟨rfl,η,ε⟩:=α;split at l
    ·rename_i r hr;cases l;have ra:=aV hp μ hA hN;generalize θ:a.eval ax=ea at ra;cases ra;obtain⟨c1,c2,c3⟩:=sW (aV hx ν hA hN) ε;obtain⟨-,J,ty,hh,ο,ζ,β,U⟩:=hW.h q _ hq;have hR:jO E s rs J:=⟨ζ,β,U⟩;have hi:i<rs.length:=by
      rcases aXZ i rs.length with h' | h'
      ·exact h'
      ·rw[aYT h'] at hr; cases hr
     have ι:(i+1)*s≤rs.length*s:=aYL _ hi;rw[a0G] at ι;have ξ:(a.eval x).cells.toList.length=pv.cells.length:=by simpa using c1
     have γ:i*s+c+0+(a.eval x).cells.toList.length≤J.size:=Om;have R:=run_storeCells_at T.P q (i*s+c) ty (a.eval x).cells.toList 0 J w hh γ c2;simp only[aZP] at R;obtain⟨g1,g2⟩:=hW.Ri hq hh (cs:=(J.toList.take (i*s+c)++(a.eval x).cells.toList++J.toList.drop (i*s+c+(a.eval x).cells.toList.length)).toArray)
      (by rw[List.size_toArray]; simp only[aXN,aYA,aZI]; have e:J.toList.length=J.size:=a0J; omega)
      (hR.store hr η ξ c2 (fun j p u hp hu=>c3 j p u hp (by simpa using hu)))
     refine⟨_,?_,g1,g2⟩;unfold execOp;rw[ho];have κ:¬ ((a.eval x).cells.size≠k):=by rw[c1,δ]; simp
     simp[θ,Instr.storeAt,Instr.sureAddr,storeVar,gW hs,κ,R]
    ·cases l
   ·cases l
  ·cases l
 ·cases l
end
open Go Go.RowKit
section
variable {T:Tbl} {n:Nat} {E:Env} {F:PF} {H:PH} {a:Act} {w:World}
theorem ahG {s:Nat} {pv:PV} {v:Value} {rows:List (List PV)} (P:Program) (hW:bE E H w) (hv:aU E pv v) (h:dS H s pv=some rows) :
  ∃ ad cap,∃ news:List Value,v=.slice ad rows.length cap∧news.length=rows.length*s∧(∀ u∈news,u.oneCell'=true)∧(∀ r∈rows,r.length=s) ∧
   (∀ i j q,at2 rows i j=some q→∃ u,news[i*s+j]?=some u∧aU E q u) ∧
   ∀ U:World,U.heap=w.heap→(Builtin.firstCells s rows.length v).run P U=.ok news.toArray U:=by
 obtain⟨ad,cap,rfl,ε,p,hc⟩:=fb hW hv h;by_cases γ:rows=[]
 ·subst γ;refine⟨ad,cap,[],rfl,by simp,by simp,by simp,fun i j q R=>by simp[at2] at R,fun U _=>?_⟩;cases ad with
  | none=>simp[Builtin.firstCells]
  | some x=>simp[Builtin.firstCells,Go.loadCells,Go.loadCellsFrom]
 ·obtain⟨b,off,rfl,l⟩:=hc γ;have α:∀ k,k<rows.length*s→∃ u q,at2 rows (k/s) (k%s)=some q∧w.cell? ⟨b,off+k,none⟩=some u∧u.oneCell'=true∧aU E q u:=by
   intro k J;have hs:0<s:=by
    rcases aZX s with h | h
    ·subst h; simp at J
    ·exact h
   have h1:k/s<rows.length:=(a0H hs).2 J;have h2:k%s<s:=aYW _ hs;have h3:k/s*s+k%s=k:=by rw[aYI]; exact a0R k s
   have R:∃ q,at2 rows (k/s) (k%s)=some q:=by have hl:=p rows[k/s] (aXM h1);exact⟨rows[k/s][k%s]'Om,by simp[at2,h1,aXT (Om:k%s<rows[k/s].length)]⟩
   obtain⟨q,R⟩:=R;obtain⟨u,g1,g2,g3⟩:=l _ _ q R;rw[h3] at g1;exact⟨u,q,R,g1,g2,g3⟩
  refine⟨_,cap,(aXQ (rows.length*s)).map fun k=>(w.cell? ⟨b,off+k,none⟩).getD undef,rfl,by simp,?_,p,?_,?_⟩
  ·intro u hu;simp only[aYH,aYV] at hu;obtain⟨k,J,rfl⟩:=hu;obtain⟨u,q,-,g1,g2,-⟩:=α k J;simp[g1,g2]
  ·intro i j q R;obtain⟨hi,hj⟩:=vX p R;have hlt:i*s+j<rows.length*s:=by have:(i+1)*s≤rows.length*s:=aYL _ hi;rw[a0G] at this;omega
   obtain⟨u,g1,g2,g3⟩:=l i j q R;refine⟨u,?_,g3⟩;rw[aYG,List.getElem?_range hlt];simp[g1]
  ·intro U δ;refine run_firstCells_some U s rows.length _ _ cap _ (by simp) (fun j u hu=>?_);rw[add_plain];simp only[aYG,aXO] at hu;obtain⟨k,J,rfl⟩:=hu;have β:j<rows.length*s:=by
    rcases aXZ j (rows.length*s) with h' | h'
    ·exact h'
    ·rw[aYT (by simpa using h')] at J; cases J
   rw[List.getElem?_range β] at J;cases J;obtain⟨u,q,-,g1,-,-⟩:=α j β;have:U.cell? ⟨b,off+j,none⟩=w.cell? ⟨b,off+j,none⟩:=by simp[World.cell?,δ]
   rw[this,g1];rfl
theorem MY {t ty e:TypeId} {i:TypeInfo} (ht:T.P.underlying t=some (.slice e)) (hi:T.P.info? e=some i) (base:Option Addr) (p l c:Nat) (R:Option Addr) (J:p≤l)
  (U:(Builtin.firstCells i.size 0 (.slice R 0 c)).run T.P w=.ok #[] w):(Builtin.append_ #[t,t] ty #[.slice base p l,.slice R 0 c]).run T.P w=.ok (.slice base p l) w:=by
 cases base with
 | none=>simp[Builtin.append_,run_underlying ht,sizeOf,typeInfo,hi,Builtin.lenOf,J,U]
 | some b=>simp[Builtin.append_,run_underlying ht,sizeOf,typeInfo,hi,Builtin.lenOf,J,U,storeCells]
theorem Gi {t ty e bt:TypeId} {i:TypeInfo} (ht:T.P.underlying t=some (.slice e)) (hi:T.P.info? e=some i) (g l J m c:Nat) (ad:Option Addr) (p:Array Value) (hg:w.heap[g]?=some (.cells p bt (0,0)))
  (news:List Value) (hl:news.length=m*i.size) (hf:(Builtin.firstCells i.size m (.slice ad m c)).run T.P w=.ok news.toArray w) (h1:∀ u∈news,u.oneCell'=true) (R:l+m≤J) (U:l*i.size+news.length≤p.size) :
  (Builtin.append_ #[t,t] ty #[.slice (some ⟨g,0,none⟩) l J,.slice ad m c]).run T.P w =
   .ok (.slice (some ⟨g,0,none⟩) (l+m) J) (w.setRow g (p.toList.take (l*i.size)++news++p.toList.drop (l*i.size+news.length)).toArray):=by
 have α:=run_storeCells_at T.P g (l*i.size) bt news 0 p w hg (by simpa using U) h1;simp only[aZP] at α;simp[Builtin.append_,run_underlying ht,sizeOf,typeInfo,hi,Builtin.lenOf,R,hf,Addr.add_lit,α]
theorem Gh {t ty e:TypeId} {i:TypeInfo} {z:Value} (ht:T.P.underlying t=some (.slice e)) (hi:T.P.info? e=some i) (hz:i.zero=some z) (base:Option Addr) (l p m c:Nat) (ad:Option Addr) (aXG news:List Value)
  (ho:(Builtin.firstCells i.size l (.slice base l p)).run T.P w.drew=.ok aXG.toArray w.drew) (hf:(Builtin.firstCells i.size m (.slice ad m c)).run T.P w.drew=.ok news.toArray w.drew)
  (hg:p<l+m) (U:l+m≤maxLen) (hb:(l+m)*i.bytes≤140737488355328) :
  (Builtin.append_ #[t,t] ty #[.slice base l p,.slice ad m c]).run T.P w =
   .ok (.slice (some ⟨w.heap.size,0,none⟩) (l+m) (grownCap w (l+m) p e))
    (w.drew.alloc (.cells (aXG.toArray++news.toArray++Builtin.zeroCells z.cells (grownCap w (l+m) p e-(l+m))) e)):=by
 have hn:¬ (l+m≤p):=Om;simp only[maxLen] at U;have R:¬ (9223372036854775807<((l:Int)+(m:Int))):=Om;have α:=growslice_fits hg hb;have J:¬ (281474976710656<Builtin.nextslicecap (l+m) p*i.bytes):=Om;simp[Builtin.append_,run_underlying ht,sizeOf,typeInfo,zeroValue,hi,hz,Builtin.lenOf,hn,R,J,Question.forced,hf,ho,newRow,grownCap];congr 2;apply Array.ext';simp[aYQ]
theorem bE.drew (hW:bE E H w):bE E H w.drew:=⟨hW.g,fun o x i=>⟨(hW.h o x i).1,(hW.h o x i).2.mono (.refl E) rfl⟩,hW.s⟩
theorem Ext.jb {i:Env} {H':PH} {l:World} (h:Ext E H w.drew i H' l):Ext E H w i H' l:=⟨h.env,h.os,h.tape,h.output,h.size,h.block,h.new,h.newG⟩
theorem S4 {rs src:List (List PV)} (i j:Nat):at2 (rs++src) i j=if i<rs.length then at2 rs i j else at2 src (i-rs.length) j:=by
 unfold at2;rw[List.getElem?_append];split<;>rfl
theorem jO.join {s:Nat} {rs src:List (List PV)} {aXG news:List Value} {tail:List Value} (U:∀ r∈rs,r.length=s) (h2:∀ r∈src,r.length=s) (p:aXG.length=rs.length*s) (R:news.length=src.length*s)
  (ho:∀ i j q,at2 rs i j=some q→∃ u,aXG[i*s+j]?=some u∧u.oneCell'=true∧aU E q u) (hn:∀ i j q,at2 src i j=some q→∃ u,news[i*s+j]?=some u∧u.oneCell'=true∧aU E q u) :
  jO E s (rs++src) (aXG++news++tail).toArray:=by
 refine⟨fun r hr=>?_,?_,fun i j q J=>?_⟩
 ·rcases aZC.1 hr with h | h
  ·exact U r h
  ·exact h2 r h
 ·rw[List.size_toArray,aXN,aXN,aXN,p,R,aYM];omega
 ·rw[S4] at J;rw[List.getElem?_toArray];split at J
  ·rename_i hi;obtain⟨u,g1,g2,g3⟩:=ho i j q J;refine⟨u,?_,g2,g3⟩;have hlt:i*s+j<aXG.length:=by
    rcases aXZ (i*s+j) aXG.length with l | l
    ·exact l
    ·rw[aYT l] at g1; cases g1
   rw[aYQ,a0C hlt];exact g1
  ·rename_i hi;obtain⟨u,g1,g2,g3⟩:=hn _ j q J;refine⟨u,?_,g2,g3⟩;have hlt:(i-rs.length)*s+j<news.length:=by
    rcases aXZ ((i-rs.length)*s+j) news.length with l | l
    ·exact l
    ·rw[aYT l] at g1; cases g1
   have e:i*s+j=aXG.length+((i-rs.length)*s+j):=by rw[p,← aZO,← aYM];congr 2;omega
   rw[e,aYQ,aZY Om,Nat.add_sub_cancel_left,a0C hlt];exact g1
theorem bE.dead (hW:bE E H w) {o:Nat} {x:bX} (J:H o=some x):bE E (H.set o .dead) w∧Ext E H w E (H.set o .dead) w:=by
 refine⟨⟨fun b ds l=>⟨fun y p=>?_,(hW.g b ds l).2⟩,fun q y i=>?_,hW.s⟩,⟨.refl E,rfl,rfl,rfl,aXL _,fun _ _ _=>rfl,fun q y i=>?_,fun b ds l=>.inl l⟩⟩
 ·rw[cC] at p;split at p
  ·cases p; rfl
  ·exact (hW.g b ds l).1 y p
 ·rw[cC] at i;split at i
  ·rename_i e;subst e;cases i;exact⟨(hW.h q x J).1,trivial⟩
  ·exact hW.h q y i
 ·rw[cC] at i;split at i
  ·rename_i e; subst e; exact .inl ⟨x,J⟩
  ·exact .inl ⟨y,i⟩
end
open Go Go.RowKit
section
variable {T:Tbl} {n:Nat} {E:Env} {F:PF} {H:PH} {a:Act} {w:World}
theorem T5 (w:World) (i l:Nat) (e:TypeId):i≤grownCap w i l e:=grownCap_ge w i l e
theorem mW {o:Oper} {c:Call} {x y:Operand} {t:TypeId} {v:Value} {J:World} (ho:o.op=.call c) (l:c.callee=.builtin .append) (i:c.args.toList=[x,y]) (p:c.argTypes.toList=[t,t])
  (h:(Builtin.append_ #[t,t] o.type #[a.eval x,a.eval y]).run T.P w=.ok v J):(execOp a.eval o).run T.P w=.ok (.value v) J:=by
 unfold execOp;rw[ho];have R:c.argTypes=#[t,t]:=by apply Array.ext'; simp[p]
 have U:=S3 i a.eval;simp[resolve,l,invoke,builtin,R,U,h]
theorem bE.trim (hW:bE E H w) {o s k:Nat} {rs:List (List PV)} (ho:H o=some (.rows s rs)):bE E (H.set o (.rows s (rs.take k))) w∧Ext E H w E (H.set o (.rows s (rs.take k))) w:=by
 refine⟨⟨fun b ds R=>⟨fun y hy=>?_,(hW.g b ds R).2⟩,fun q y l=>?_,hW.s⟩,⟨.refl E,rfl,rfl,rfl,aXL _,fun _ _ _=>rfl,fun q y l=>?_,fun b ds R=>.inl R⟩⟩
 ·rw[cC] at hy;split at hy
  ·rename_i e; subst e;have:=(hW.g b ds R).1 _ ho;cases this
  ·exact (hW.g b ds R).1 y hy
 ·rw[cC] at l;split at l
  ·rename_i e;subst e;cases l;obtain⟨h1,β,ty,hh,γ,α,δ,J⟩:=hW.h q _ ho;refine⟨h1,β,ty,hh,γ,fun r hr=>α r (List.mem_of_mem_take hr),?_,fun i j p U=>J i j p ?_⟩
   ·have:(rs.take k).length*s≤rs.length*s:=aYL _ (by rw[aYA]; omega);omega
   ·unfold at2 at U ⊢;rw[a0Q] at U;split at U
    ·exact U
    ·simp at U
  ·exact hW.h q y l
 ·rw[cC] at l;split at l
  ·rename_i e; subst e; exact .inl ⟨_,ho⟩
  ·exact .inl ⟨y,l⟩
theorem wn {o:Oper} {c:Call} {x y:Operand} {t e:TypeId} {i:TypeInfo} {px py:PV} {K:PV→PH→Prop} (ho:o.op=.call c) (χ:c.callee=.builtin .append) (φ:c.args.toList=[x,y]) (ω:c.argTypes.toList=[t,t])
  (ht:T.P.underlying t=some (.slice e)) (hi:T.P.info? e=some i) (hz:i.zero.isSome=true) (O':(i.zero.map (·.cells.size))=some i.size) (h0:0<i.size)
  (hx:aU E px (a.eval x)) (hy:aU E py (a.eval y)) (hK:mF H i.size i.bytes px py K) (hW:bE E H w):wg T.P E H w o a K:=by
 obtain⟨z,hz⟩:=Option.isSome_iff_exists.1 hz;have P':z.cells.size=i.size:=by simpa [hz] using O'
 obtain⟨src,p',hK⟩:=hK;obtain⟨ad,cap,news,δ,ι,c',τ,η,β⟩:=ahG T.P hW hy p';have grow:∀ (base:Option Addr) (l J:Nat) (rs:List (List PV)) (aXG:List Value),(Builtin.firstCells i.size l (.slice base l J)).run T.P w.drew=.ok aXG.toArray w.drew→aXG.length=l*i.size→rs.length=l →
   (∀ r∈rs,r.length=i.size)→(∀ i' j q,at2 rs i' j=some q→∃ u,aXG[i'*i.size+j]?=some u∧u.oneCell'=true∧aU E q u)→J<l+src.length→roomFor l src.length i.bytes→a.eval x=.slice base l J →
   ∀ (H1:PH),bE E H1 w→Ext E H w E H1 w→∃ v w' E' q,(execOp a.eval o).run T.P w=.ok (.value v) w'∧H1 q=none∧aU E' (.osl q i.size 0 (l+src.length)) v∧bE E' (H1.set q (.rows i.size (rs++src))) w'∧Ext E H w E' (H1.set q (.rows i.size (rs++src))) w':=by
  intro base l J rs aXG σ Γ ε M' J' hlt R μ H1 f' u';have U:=Gh (w:=w) (ty:=o.type) ht hi hz base l J src.length cap ad aXG news σ (by rw[← δ]; exact β w.drew rfl) hlt R.1 R.2;have A':=T5 w (l+src.length) J e;have z':=grownCap_le_maxLen w (l+src.length) J e R.1;generalize V':grownCap w (l+src.length) J e=gc at *
  have G':∀ i' j q,at2 src i' j=some q→∃ u,news[i'*i.size+j]?=some u∧u.oneCell'=true∧aU E q u:=fun i' j q hq=>by obtain⟨u,g1,g2⟩:=η i' j q hq;exact⟨u,g1,c' u (a0D g1),g2⟩
  have hR:=jO.join (E:=E) (tail:=(Builtin.zeroCells z.cells (gc-(l+src.length))).toList) M' τ (by rw[Γ,ε]) ι J' G';have ψ:(aXG.toArray++news.toArray++Builtin.zeroCells z.cells (gc-(l+src.length)))=(aXG++news++(Builtin.zeroCells z.cells (gc-(l+src.length))).toList).toArray:=by apply Array.ext'; simp
  rw[ψ] at U;have υ:(aXG++news++(Builtin.zeroCells z.cells (gc-(l+src.length))).toList).toArray.size=gc*i.size:=by
   have ez:(Builtin.zeroCells z.cells (gc-(l+src.length))).toList.length=(gc-(l+src.length))*i.size:=by rw[a0J,size_zeroCells,P']
   rw[List.size_toArray,aXN,aXN,ez,Γ,ι,← aYM,← aYM];congr 1;omega
  obtain⟨g1,g2⟩:=f'.drew.HZ e hR;refine⟨_,_,_,w.heap.size,mW ho χ φ ω (by rw[μ,δ]; exact U),f'.Uc,?_,g1,u'.trans g2.jb⟩;refine .osl rfl rfl (.inr (by simp)) A' z' (Fw _ _ _) ?_;rw[υ];omega
 split at hK
 ·
  have r':a.eval x=.slice none 0 0:=by generalize a.eval x=v at hx;cases hx;rfl
  obtain⟨R,l',e'⟩:=hK;by_cases κ:src=[]
  ·subst κ;have ο:=β w rfl;have b':news=[]:=List.eq_nil_of_length_eq_zero (by rw[ι]; simp);subst b';rw[δ] at ο;have U:=MY (w:=w) (ty:=o.type) ht hi none 0 0 cap ad (aXL _) ο;exact⟨_,_,w,E,H,.aB,mW ho χ φ ω (by rw[r',δ]; exact U),.inl rfl,.aB,hW,.refl E H w,l' rfl⟩
  ·have o':0<src.length:=List.length_pos_iff.2 κ;obtain⟨v,w',E',q,g1,g2,g3,g4,g5⟩:=grow none 0 0 [] [] (by simp[Builtin.firstCells]) (by simp) rfl (by simp) (fun i' j q hq=>by simp[at2] at hq) Om R r' H hW (.refl E H w);refine⟨v,_,w',E',_,_,g1,.inl rfl,g3,g4,g5,?_⟩;have:=e' κ q g2;simpa using this
 ·
  rename_i q s off len;obtain⟨rfl,rfl,R,rs,hq,K',ν,Ξ⟩:=hK;have Ψ:∃ b J,a.eval x=.slice (some b) len J:=by generalize a.eval x=v at hx;cases hx;exact⟨_,_,rfl⟩
  obtain⟨b,J,μ⟩:=Ψ;obtain⟨l,rfl⟩:∃ l,l=len:=⟨_,rfl⟩
  ·rw[μ] at hx;cases hx with
   | osl hb N' θ Θ Λ m' Δ =>
   rename_i N;obtain⟨R',α,ty,hh,υ,L',t',s'⟩:=hW.h q _ hq;obtain⟨g',v'⟩:=hW.trim (k:=l) hq;obtain⟨-,Q',W',h',U',γ,d',ξ⟩:=g'.h q (.rows i.size (rs.take l)) (by rw[cC,if_pos rfl]);rw[hh] at h';cases h';have ε:(rs.take l).length=l:=by rw[aYA]; omega
   generalize S':rs.take l=ζ at *
   have x':N=α.size:=by rw[υ] at m'; cases m'; rfl
   subst x';simp only[Nat.zero_mul,aYD] at Δ θ;by_cases κ:src=[]
   ·subst κ;have ο:=β w rfl;have b':news=[]:=List.eq_nil_of_length_eq_zero (by rw[ι]; simp);subst b';rw[δ] at ο;have U:=MY (w:=w) (ty:=o.type) ht hi (some b) l J cap ad Θ ο;simp only[aZK,aZV,aZP] at ν;exact⟨_,_,w,E,_,.osl q i.size 0 l,mW ho χ φ ω (by rw[μ,δ]; exact U),.inl rfl,.osl hb N' (by simpa using θ) Θ Λ υ Om,g',v',ν⟩
   ·have o':0<src.length:=List.length_pos_iff.2 κ;by_cases ρ:l+src.length≤J
    ·have Φ:b=⟨q,0,none⟩:=by
      have:b.off=0:=by
       rcases θ with h | h
       ·omega
       ·exact h
      cases b; simp_all
     subst Φ;have j':(l+src.length)*i.size≤J*i.size:=aYL _ ρ;rw[aYM] at j';have U:=Gi (w:=w) (ty:=o.type) ht hi q l J src.length cap ad α hh news ι (by rw[← δ]; exact β w rfl) c' ρ Om;have D':(α.toList.take (l*i.size)).length=ζ.length*i.size:=by rw[aYA,a0J,ε]; omega
     have y':=jO.join (E:=E) (s:=i.size) (rs:=ζ) (src:=src) (aXG:=α.toList.take (l*i.size)) (news:=news) (tail:=α.toList.drop (l*i.size+news.length)) γ τ D' ι
      (fun i' j p hp=>by obtain⟨u,g1,g2,g3⟩:=ξ i' j p hp;obtain⟨Ω,B'⟩:=vX γ hp;refine⟨u,?_,g2,g3⟩;have:(i'+1)*i.size≤ζ.length*i.size:=aYL _ Ω;rw[a0G,ε] at this;rw[a0Q,if_pos Om,Array.getElem?_toList];exact g1)
      (fun i' j p hp=>by obtain⟨u,g1,g2⟩:=η i' j p hp;exact⟨u,g1,c' u (a0D g1),g2⟩)
     obtain⟨g1,g2⟩:=hW.Ri hq hh (rs':=ζ++src) (cs:=(α.toList.take (l*i.size)++news++α.toList.drop (l*i.size+news.length)).toArray)
      (by rw[List.size_toArray]; simp only[aXN,aYA,aZI]; have e:α.toList.length=α.size:=a0J; omega) y'
     exact⟨_,_,_,E,_,.osl q i.size 0 (l+src.length),mW ho χ φ ω (by rw[μ,δ]; exact U),.inl rfl,.osl rfl rfl (.inr (by simp)) ρ Λ υ Om,g1,g2,ν⟩
    ·have σ:∃ aXG:List Value,(Builtin.firstCells i.size l (.slice (some b) l J)).run T.P w.drew=.ok aXG.toArray w.drew∧aXG.length=l*i.size ∧
       (∀ i' j p,at2 ζ i' j=some p→∃ u,aXG[i'*i.size+j]?=some u∧u.oneCell'=true∧aU E p u):=by
      by_cases C':l=0
      ·subst C';refine⟨[],run_firstCells_some w.drew i.size 0 b 0 J [] (by simp) (by simp),by simp,fun i' j p hp=>?_⟩;have:=(vX γ hp).1;omega
      ·have Φ:b=⟨q,0,none⟩:=by
        have:b.off=0:=by
         rcases θ with h | h
         ·omega
         ·exact h
        cases b; simp_all
       subst Φ;have k':(α.toList.take (l*i.size)).length=l*i.size:=by rw[aYA,a0J];rw[ε] at d';omega
       refine⟨α.toList.take (l*i.size),run_firstCells_some w.drew i.size l _ l J _ k' (fun j u hu=>?_),k',fun i' j p hp=>?_⟩
       ·rw[add_plain,aYD];rw[a0Q] at hu;split at hu
        ·rw[Array.getElem?_toList] at hu;show w.cell? ⟨q,j,none⟩=some u;rw[cell_of_row w q j α ty (0,0) hh];exact hu
        ·cases hu
       ·obtain⟨u,g1,g2,g3⟩:=ξ i' j p hp;obtain⟨Ω,B'⟩:=vX γ hp;refine⟨u,?_,g2,g3⟩;have:(i'+1)*i.size≤ζ.length*i.size:=aYL _ Ω;rw[a0G,ε] at this;rw[a0Q,if_pos Om,Array.getElem?_toList];exact g1
     obtain⟨aXG,σ,Γ,I'⟩:=σ;obtain⟨v,w',E',q',g1,g2,g3,g4,g5⟩:=grow (some b) l J ζ aXG σ Γ ε γ I' Om R μ H hW (.refl E H w);exact⟨v,_,w',E',_,_,g1,.inl rfl,g3,g4,g5,Ξ q' g2⟩
 ·cases hK
end
open Go Go.RowKit
section
variable {ds:List Deferred} {T:Tbl} {n:Nat} {E:Env} {F:PF} {H:PH} {a:Act} {w:World}
def oneOf (i:Array Value) (k:Nat):Value:=if ((i[k]?).getD (.int .i64 0)).oneCell' then (i[k]?).getD (.int .i64 0) else .int .i64 0
theorem adW (i:Array Value) (k:Nat):(oneOf i k).oneCell'=true:=by
 unfold oneOf;split
 ·assumption
 ·rfl
theorem SN {o s:Nat} {rs:List (List PV)} {l:Array Value} {E':Env} (R:E.le E') (hG:E'.G o=some l) (κ:E.sz o=some l.size) (hR:jO E s rs l) {pv:PV} {v:Value} (h:aU E pv v) :
  aU E' (pv.cN o s rs) v:=by
 unfold PV.cN;split
 ·rename_i q s' off len;split
  ·rename_i e;subst e;split
   ·rename_i hc;obtain⟨rfl,θ⟩:=hc;cases h with
    | osl hb η γ α β hn ζ =>
    rename_i cap N ad;have hl:((rs.drop off).take len).length=len:=by rw[aYA,aZI]; omega
    have δ:∀ i j p,at2 ((rs.drop off).take len) i j=some p→at2 rs (off+i) j=some p:=by
     intro i j p J;unfold at2 at J ⊢;rw[a0Q] at J;split at J
     ·rw[List.getElem?_drop] at J; exact J
     ·simp at J
    have key:aU E' (.sl s' ((rs.drop off).take len)) (.slice (some ad) ((rs.drop off).take len).length cap):=by
     have hu:∀ i j p,at2 ((rs.drop off).take len) i j=some p→∃ u,l[(off+i)*s'+j]?=some u∧aU E p u∧oneOf l ((off+i)*s'+j)=u:=by intro i j p J;obtain⟨u,g1,g2,g3⟩:=hR.2.2 _ _ _ (δ i j p J);exact⟨u,g1,g3,by simp[oneOf,g1,g2]⟩
     refine .sl (fun i j=>oneOf l ((off+i)*s'+j)) (by rw[hl]; exact α) β (fun r hr=>hR.1 r (List.mem_of_mem_drop (List.mem_of_mem_take hr))) (fun ε=>?_) (fun i j=>adW _ _) (fun i j p J=>?_)
     ·have ι:0<((rs.drop off).take len).length:=List.length_pos_iff.2 ε;have U:ad.off=off*s':=by
       rcases γ with h | h
       ·omega
       ·exact h
      refine⟨ad,rfl,η,fun i j p J=>?_⟩;obtain⟨u,g1,-,g3⟩:=hu i j p J;rw[g3];unfold Env.cell;rw[hb,hG,a0U,U];have e:off*s'+i*s'+j=(off+i)*s'+j:=by rw[aYM]
      rw[e];exact g1
     ·obtain⟨u,-,g2,g3⟩:=hu i j p J;rw[g3];exact g2.mono R
    rw[hl] at key;exact key
   ·exact .junk _
  ·exact h.mono R
 ·exact h.mono R
theorem zl {o s:Nat} {rs:List (List PV)} {i:Array Value} {R:Env} (l:E.le R) (U:R.G o=some i) (J:E.sz o=some i.size) (hR:jO E s rs i) {pv:PV} {v:Value} (h:aU E pv v) :
  aU R (pv.qV o s rs) v:=by
 unfold PV.qV;split
 ·cases h with
  | agg vs hl h1 hr =>
  refine .agg vs (by simpa using hl) h1 (fun j p u hp hu=>?_);rw[aYG,aXO] at hp;obtain⟨q,hq,rfl⟩:=hp;exact SN l U J hR (hr j q u hq hu)
 ·exact SN l U J hR h
theorem aAP {o s:Nat} {rs:List (List PV)} {i:Array Value} {R:Env} (l:E.le R) (U:R.G o=some i) (J:E.sz o=some i.size) (hR:jO E s rs i) {pv:PV} {v:Value} (h:aU E pv v) :
  aU R (pv.frz o s rs) v:=by
 unfold PV.frz;split
 ·cases h with
  | tup vs hl hr =>
  refine .tup vs (by simpa using hl) (fun j p u hp hu=>?_);rw[aYG,aXO] at hp;obtain⟨q,hq,rfl⟩:=hp;exact zl l U J hR (hr j q u hq hu)
 ·exact zl l U J hR h
theorem bE.frz (hW:bE E H w) {o s:Nat} {rs:List (List PV)} (ho:H o=some (.rows s rs)):∃ E',bE E' (H.frz o s rs) w∧Ext E H w E' (H.frz o s rs) w∧∀ {pv:PV} {v:Value},aU E pv v→aU E' (pv.frz o s rs) v:=by
 obtain⟨hlt,R,ty,hh,γ,h1,h2,h3⟩:=hW.h o _ ho;have hR:jO E s rs R:=⟨h1,h2,h3⟩;have δ:E.G o=none:=by
  cases h:E.G o with
  | none=>rfl
  | some ds=>have:=(hW.g o ds h).1 _ ho; cases this
 have U:E.le ⟨upd E.G o (some R),E.sz,E.num⟩:=by
  refine⟨fun b ds J=>?_,fun b m h=>h,rfl⟩;have ε:b≠o:=fun e=>by subst e; rw[δ] at J; cases J
  simp only;rw[NO _ _ ε];exact J
 have β:(⟨upd E.G o (some R),E.sz,E.num⟩:Env).G o=some R:=by simp[upd]
 have l:∀ q,(H.frz o s rs).f q=if q=o then none else (H q).map (bX.frz o s rs):=fun q=>rfl
 refine⟨⟨upd E.G o (some R),E.sz,E.num⟩,⟨fun b ds J=>?_,fun q x hq=>?_,hW.s⟩,⟨U,rfl,rfl,rfl,aXL _,fun _ _ _=>rfl,fun q x hq=>?_,fun b ds J=>?_⟩,fun h=>aAP U β γ hR h⟩
 ·simp only[upd] at J;split at J
  ·rename_i e;subst e;cases J;refine⟨fun x hx=>?_,ty,(0,0),hh⟩;rw[l,if_pos rfl] at hx;cases hx
  ·rename_i e;obtain⟨g1,g2⟩:=hW.g b ds J;refine⟨fun x hx=>?_,g2⟩;rw[l,if_neg e,aXO] at hx;obtain⟨y,hy,rfl⟩:=hx;have:=g1 y hy;subst this;rfl
 ·rw[l] at hq;split at hq
  ·cases hq
  ·rw[aXO] at hq;obtain⟨y,hy,rfl⟩:=hq;obtain⟨g1,g2⟩:=hW.h q y hy;refine⟨g1,?_⟩;cases y with
   | rows s' rs' =>
    obtain⟨α,ι,k1,k2,k3,k4,k5⟩:=g2;refine⟨α,ι,k1,k2,?_,by simpa using k4,fun i j p hp=>?_⟩
    ·intro r hr;simp only[aYH] at hr;obtain⟨r',θ,rfl⟩:=hr;simpa using k3 r' θ
    ·simp only[at2,aYG,Option.bind_map] at hp;have ζ:∃ p',at2 rs' i j=some p'∧p=p'.cN o s rs:=by
      unfold at2;cases hr:rs'[i]? with
      | none=>simp[hr] at hp
      | some r =>simp only[hr,a0U,Function.comp,aYG,aXO] at hp ⊢;obtain⟨p',h1,h2⟩:=hp;exact⟨p',h1,h2.symm⟩
     obtain⟨p',η,rfl⟩:=ζ;obtain⟨u,m1,m2,m3⟩:=k5 i j p' η;exact⟨u,m1,m2,SN U β γ hR m3⟩
   | map es=>exact HV.mono U rfl g2
   | loop F n t κ μ=>exact HV.mono U rfl g2
   | dead=>trivial
 ·rw[l] at hq;split at hq
  ·cases hq
  ·rw[aXO] at hq;obtain⟨y,hy,-⟩:=hq;exact .inl ⟨y,hy⟩
 ·simp only[upd] at J;split at J
  ·rename_i e; subst e; exact .inr (.inl ⟨_,ho⟩)
  ·exact .inl J
theorem gT.sound {F p:PF} {H H':PH} (h:gT F H p H'):∀ {E:Env},bE E H w→∃ l,bE l H' w∧Ext E H w l H' w∧∀ (f:Nat→Value),(∀ i pv,F i=some pv→aU E pv (f i))→∀ i pv,p i=some pv→aU l pv (f i):=by
 induction h with
 | refl F H=>intro E hW; exact⟨E,hW,.refl E H w,fun f h=>h⟩
 | step o ho _ ih =>intro E hW;obtain⟨E1,R,U,h3⟩:=hW.frz ho;obtain⟨J,k1,k2,k3⟩:=ih R;refine⟨J,k1,U.trans k2,fun f hf=>k3 f fun i pv hi=>?_⟩;simp only[PF.frz,aXO] at hi;obtain⟨q,hq,rfl⟩:=hi;exact h3 (hf i q hq)
theorem cQ.frz {J:PF} {H':PH} (p:cQ ds n E F a) (hW:bE E H w) (h:gT F H J H'):∃ l,cQ ds n l J a∧bE l H' w∧Ext E H w l H' w:=by
 obtain⟨l,R,U,h3⟩:=h.sound hW;exact⟨l,⟨p.size,p.defers,h3 (fun i=>a.tmps.getD i undef) p.t⟩,R,U⟩
end
open Go Go.RowKit
section
variable {T:Tbl} {n:Nat} {E:Env} {F:PF} {H:PH} {a:Act} {w:World}
theorem PS (k:List KS):∀ (L:List (List KS × PV)) (i j:Nat),(mC k L i).map (·.2)=(mC k L j).map (·.2)
 | [],_,_=>rfl
 | e::L,i,j=>by
  simp only[mC];split
  ·rfl
  ·exact PS k L _ _
theorem lC (e:List KS × PV) (L:List (List KS × PV)) (k:List KS):mapOf (e::L) k=if e.1=k then some e.2 else mapOf L k:=by
 unfold mapOf;simp only[mC];split
 ·rfl
 ·exact PS k L _ _
theorem ZL {key:List KS} {pv:PV}:∀ {L:List (List KS × PV)},mapOf L key=none→mapOf (L++[(key,pv)])=iD.upd (mapOf L) key pv
 | [],_=>by
  funext k;simp only[List.nil_append,lC,iD.upd];by_cases h:key=k
  ·rw[if_pos h,if_pos h.symm]
  ·rw[if_neg h,if_neg (fun e=>h e.symm)]
 | e::L,h=>by
  rw[lC] at h;split at h
  ·cases h
  ·rename_i l;funext k;rw[List.cons_append,lC,ZL h];simp only[iD.upd,lC];by_cases i:e.1=k
   ·have:k≠key:=fun p=>l (i.trans p);simp[i,this]
   ·simp[i]
theorem ow {key:List KS} {pv:PV}:∀ {L:List (List KS × PV)} {i j:Nat} {p:PV},mC key L i=some (j,p)→i≤j∧mapOf (L.set (j-i) (key,pv))=iD.upd (mapOf L) key pv
 | [],i,j,p,h=>by simp[mC] at h
 | e::L,i,j,p,h=>by
  simp only[mC] at h;split at h
  ·rename_i he;cases h;refine⟨aXL _,?_⟩;funext k;rw[Nat.sub_self,a0Y,lC];simp only[iD.upd,lC];by_cases J:key=k
   ·subst J; simp
   ·have U:k≠key:=fun l=>J l.symm;have R:e.1≠k:=fun l=>J (he.symm.trans l);simp[J,U,R]
  ·rename_i he;obtain⟨J,U⟩:=ow (pv:=pv) h;refine⟨by omega,?_⟩;funext k;rw[show j-i=(j-(i+1))+1 by omega,List.set_cons_succ,lC,U];simp only[iD.upd,lC];by_cases R:e.1=k
   ·have:k≠key:=fun l=>he (R.trans l);simp[R,this]
   ·simp[R]
theorem bE.ahD (hW:bE E H w) {o:Nat} {sh:MSh} {g:iD} {es J:Array MapEntry} {clock l:Nat} {L:List (List KS × PV)} (ho:H o=some (.map sh g)) (hh:w.heap[o]?=some (.map es clock)) (ε:J.size=L.length∧(L.map (·.1)).Nodup)
  (hL:∀ (i:Nat) e e',L[i]?=some e→J[i]?=some e'→e.1.map KS.sh=sh.2∧e'.key=fM sh e.1∧aU E e.2 e'.val) :
  bE E (H.set o (.map sh (mapOf L))) { w with heap:=w.heap.setIfInBounds o (.map J l) }∧Ext E H w E (H.set o (.map sh (mapOf L))) { w with heap:=w.heap.setIfInBounds o (.map J l) }:=by
 have hlt:=(hW.h o _ ho).1;have p:∀ b,b≠o→(w.heap.setIfInBounds o (.map J l))[b]?=w.heap[b]?:=fun b U=>Array.getElem?_setIfInBounds_ne (Ne.symm U);have α:(w.heap.setIfInBounds o (.map J l))[o]?=some (.map J l):=by simp[hlt]
 have δ:∀ b ds,E.G b=some ds→b≠o:=fun b ds U e=>by subst e;have:=(hW.g b ds U).1 _ ho;cases this
 refine⟨⟨fun b ds U=>?_,fun q x hq=>?_,fun q m hs=>?_⟩,⟨.refl E,rfl,rfl,rfl,by simp,fun b _ hn=>p b (fun e=>by subst e; rw[ho] at hn; cases hn),fun q x hq=>?_,fun b ds U=>.inl U⟩⟩
 ·obtain⟨h1,β,fr,h2⟩:=hW.g b ds U;have R:=δ b ds U;refine⟨fun x hx=>h1 x ?_,β,fr,(p b R).trans h2⟩;rw[cC,if_neg R] at hx;exact hx
 ·rw[cC] at hq;split at hq
  ·rename_i e;subst e;cases hq;exact⟨by simpa using hlt,J,l,L,α,ε,rfl,hL⟩
  ·rename_i e;obtain⟨h1,h2⟩:=hW.h q x hq;exact⟨by simpa using h1,h2.mono (.refl E) (p q e)⟩
 ·obtain⟨γ,β,fr,h1,h2⟩:=hW.s q m hs;have R:q≠o:=fun e=>by subst e; rw[hh] at h1; cases h1
  exact⟨γ,β,fr,(p q R).trans h1,h2⟩
 ·rw[cC] at hq;split at hq
  ·rename_i e; subst e; exact .inl ⟨_,ho⟩
  ·exact .inl ⟨x,hq⟩
theorem RA (k:KS) (d:Nat):Instr.sameBits d k.val k.val=true:=by
 cases k<;>cases d<;>simp[KS.val,Instr.sameBits,beq_toListBytes]
theorem Gl (sh:MSh) (k:List KS) (R:sh.1=false→∃ s,k=[s]):Instr.sameBits 10000 (fM sh k) (fM sh k)=true:=by
 obtain⟨b,l⟩:=sh;cases b with
 | false =>obtain⟨s,rfl⟩:=R rfl;exact RA s 10000
 | true =>
  simp only[fM,if_true];obtain⟨m,U⟩:∃ m:Nat,m=9999:=⟨_,rfl⟩;rw[show (10000:Nat)=m+1 by omega];simp only[Instr.sameBits,beq_self_eq_true,aYE,aYF];rintro⟨x,y⟩ p;have:∀ (l:List Value),(x,y)∈l.zip l→x=y∧x∈l:=by
   intro l
   induction l with
   | nil=>intro h; simp at h
   | cons z zs J =>
    intro h;simp only[List.zip_cons_cons,aXP,Prod.mk.injEq] at h;rcases h with ⟨rfl,rfl⟩ | h
    ·exact⟨rfl,by simp⟩
    ·exact⟨(J h).1,by simp[(J h).2]⟩
  obtain⟨rfl,i⟩:=this _ p;simp only[aYH] at i;obtain⟨s,-,rfl⟩:=i;exact RA s m
theorem C8 {t kt et:TypeId} {sh:MSh} {pk pv:PV} {x k v:Value} {o:Nat} {g:iD} {key:List KS} (ht:T.P.underlying t=some (.map kt et)) (ι:T.kF kt=some sh)
  (hx:aU E (.map o) x) (hk:aU E pk k) (hv:aU E pv v) (ho:H o=some (.map sh g)) (η:keyOf sh pk=some key) (hW:bE E H w) :
  ∃ w',(Instr.mapUpdate t x k v).run T.P w=.ok () w'∧bE E (H.set o (.map sh (g.upd key pv))) w'∧Ext E H w E (H.set o (.map sh (g.upd key pv))) w':=by
 cases hx;obtain⟨hlt,es,clock,L,hh,⟨α,θ⟩,rfl,R⟩:=hW.h o _ ho;obtain⟨ρ,U,ξ⟩:=nz hk η;have κ:pW sh L es.toList:=⟨by simpa using α,fun i e e' a b=>by have:=R i e e' a (by simpa using b); exact⟨this.1,this.2.1⟩⟩;obtain⟨r,g1,g2⟩:=HL (w:=w) ι U κ;subst ρ;have ε:(getObj o).run T.P w=.ok (.map es clock) w:=by simp[getObj,Sem.run,hh]
 have β:∀ x,(setObj o x).run T.P w=.ok () { w with heap:=w.heap.setIfInBounds o x }:=fun x=>MapKept.run_setObj_map x hh;simp only[Instr.mapUpdate,Sem.run_bind,run_underlying ht,Result.andThen_ok,ε,AV ι U,g1];unfold Found at g2;split at g2
 ·rename_i hn;subst g2;have hm:mapOf L key=none:=by unfold mapOf; rw[hn]; rfl
  have hp:iD.upd (mapOf L) key pv=mapOf (L++[(key,pv)]):=(ZL hm).symm;rw[hp];simp only[β];have ο:key ∉ L.map (·.1):=fun hm=>by have:=(CW key L 0).2 hm;rw[hn] at this; cases this
  have l:((L++[(key,pv)]).map (·.1)).Nodup:=by rw[aYN,aZZ];refine⟨θ,by simp,fun x hx y hy=>?_⟩;simp only[aYU,aZN,aZW] at hy;subst hy;rintro rfl;exact ο hx
  refine⟨_,rfl,hW.ahD ho hh ⟨by simp[α],l⟩ fun i e e' h1 h2=>?_⟩;rcases Nat.lt_trichotomy i L.length with J | J | J
  ·rw[a0C J] at h1;rw[Array.getElem?_push_lt Om] at h2;exact R i e e' h1 (by rw[a0P Om]; exact h2)
  ·subst J;rw[aZY (aXL _)] at h1;rw[← α,Array.getElem?_push_size] at h2;simp at h1 h2;subst h1; subst h2;exact⟨U,rfl,hv⟩
  ·rw[aYT (by simp; omega)] at h1;cases h1
 ·rename_i j p hj;obtain⟨e0,-,h2,J,rfl⟩:=g2;have hp:iD.upd (mapOf L) key pv=mapOf (L.set j (key,pv)):=by have:=(ow (pv:=pv) hj).2;simpa using this.symm
  rw[hp];simp only[Nat.sub_zero] at h2 J;have γ:es[j]?=some e0:=by simpa using h2
  have μ:e0.key=fM sh key:=(R j _ e0 J γ).2.1;have δ:(Instr.keyThatStays (((es[j]?).map (·.key)).getD (fM sh key)) (fM sh key)).run T.P w=.ok (fM sh key) w:=by rw[γ];simp only[aYX,a0I,μ,Instr.keyThatStays,Gl sh key ξ,if_true,Sem.run_pure]
  simp only[Sem.run_bind,δ,Result.andThen_ok,β];have l:((L.set j (key,pv)).map (·.1)).Nodup:=by
   have e9:(L.set j (key,pv)).map (·.1)=L.map (·.1):=by
    rw[List.map_set];refine List.ext_getElem? fun i=>?_;rw[List.getElem?_set];split
    ·rename_i e; subst e;rw[aYG,J];have:=(aYP.1 J).1;simp[this]
    ·rfl
   rw[e9]; exact θ
  refine⟨_,rfl,hW.ahD ho hh ⟨by simp[α],l⟩ fun i e e' h4 h5=>?_⟩;rw[Array.getElem?_modify] at h5;rw[List.getElem?_set] at h4;have ν:j<L.length:=(aYP.1 J).1;by_cases ζ:j=i
  ·subst ζ;rw[if_pos rfl,if_pos ν] at h4;rw[if_pos rfl,γ] at h5;simp at h4 h5;subst h4; subst h5;exact⟨U,rfl,hv⟩
  ·rw[if_neg ζ] at h4 h5;exact R i e e' h4 h5
end
open Go Go.RowKit
def Fz (r:Option Nat):Fence:={ Fence.wide with round:=r }
theorem Fz.calls {r:Option Nat} {m:Nat} {P:Program} {f:FuncId} {args:Array Value} {w:World} {R:Ending→World→Prop} (h:Calls P f args w R):CallsIn (Fz r) m P f args w R:=(callsIn_wide (n:=m)).2 h
theorem Fz.fn {r:Option Nat} (f:FuncId):(Fz r).fn f:=trivial
theorem BQ {r:Option Nat} {m:Nat} {P:Program} {o:Oper} {a:Act} {w:World} {next:Act→World→Prop} {Q:Exit→Act→World→Prop} (i:∀ c,o.op≠.defer c) (h:o.uponIn (Fz r) m P a next Q ((execOp a.eval o).run P w)):o.wpIn (Fz r) m P a w next Q :=
 ⟨fun _ _=>trivial,by rw[Oper.semAt_eq _ _ _ i]; exact h⟩
section
variable {ro:Option Nat} {fu:Nat} {ds:List Deferred} {T:Tbl} {n:Nat} {E:Env} {F:PF} {H:PH} {a:Act} {w:World}
def kU (ds:List Deferred) (n:Nat) (E:Env) (H:PH) (w:World) (K:PF→PH→Prop) (next:Act→World→Prop):Prop :=
 ∀ i p H' J l,cQ ds n i p J→bE i H' l→Ext E H w i H' l→K p H'→next J l
theorem dY.append {ps i:List PV} {vs l:List Value} (h:dY E ps vs) (k:dY E i l):dY E (ps++i) (vs++l):=by
 induction h with
 | nil=>exact k
 | cons h _ p=>exact .cons h p
theorem dY.ayV {ps:List PV}:∀ {vs:List Value},vs.length=ps.length→(∀ (j:Nat) p v,ps[j]?=some p→vs[j]?=some v→aU E p v)→dY E ps vs:=by
 induction ps with
 | nil=>intro vs i _; simp at i; subst i; exact .nil
 | cons p ps l =>
  intro vs i h;cases vs with
  | nil=>simp at i
  | cons v vs=>exact .cons (h 0 p v rfl rfl) (l (by simpa using i) fun j q u a b=>h (j+1) q u (by simpa using a) (by simpa using b))
theorem apK {o:Oper} {c:Call} {f:FuncId} {vc:Array Value} {x:Operand} {P:Program} {fn:Func} (R:o.op=.call c) (l:c.callee=.value x) (U:a.eval x=.func (.func f) #[] vc)
  (J:P.funcs[f]?=some fn) (hb:fn.body.isSome=true) (p:(fn.name=="runtime.NumGoroutine")=false) :
  (execOp a.eval o).run P w=.ok (.enter f (c.args.map a.eval++vc)) w:=by
 have i:fn.body.isNone=false:=by cases h:fn.body<;>simp_all
 unfold execOp;rw[R];simp only[resolve,l,U,Deferred.ofValue,Sem.run_bind,Sem.run_pure,Result.andThen_ok,invoke,callFunc,run_program,J,p,i,a0N,if_false,Array.empty_append]
theorem PN {C:Ctx} {name:Nat} {ps:Option (List PV)} {d:Option Nat} {K:PF→PH→Prop} {o:Oper} {c:Call} {x:Operand} {vc:Array Value} {Q:Exit→Act→World→Prop} {next:Act→World→Prop}
  (h:qK C name ps d K F H) (hd:o.dst=d) (hlt:o.dst.all (·<n)=true) (ho:o.op=.call c) (δ:c.callee=.value x) (hx:a.eval x=.func (.func (C.num name)) #[] vc)
  (i:∀ vs,ps=some vs→dY E vs (c.args.map a.eval++vc).toList) (hA:cQ ds n E F a) (hW:bE E H w) (hN:E.num=C.num) (aWU:kU ds n E H w K next):o.wpIn (Fz ro) fu C.P a w next Q:=by
 obtain⟨vs,H0,R,rfl,p,⟨⟨fn,hf,hb,ε⟩,l⟩,hK⟩:=h;have J:=apK (w:=w) (a:=a) ho δ hx hf hb ε;refine BQ (fun c'=>by rw[ho]; exact fun e=>by cases e) ?_;rw[J,Oper.uponIn_enter];refine⟨(fun h=>by cases h),Fz.calls ((l E w _ hN (hW.weaken p) (i vs rfl)).mono fun e w' he=>?_)⟩;obtain⟨v,pv,E',H',rfl,β,hr,U,hR⟩:=he;have γ:kS H H0 H':=by
  intro q y hq h0;rcases U.new q y hq with ⟨z,hz⟩ | hge
  ·rw[h0] at hz; cases hz
  ·cases hh:H q with
   | none=>rfl
   | some z=>have:=(hW.h q z hh).1; omega
 have α:cQ ds n E' (F.put d pv) (a.put o.dst v):=by rw[← hd];exact (hA.mono U.env).put hlt hr
 exact aWU E' _ _ _ w' α (hW.over U p β) (U.narrow p) (hK pv H' hR γ)
theorem IJ {C:Ctx} {name:Nat} {args:List aO} {cs:List PV} {d:Option Nat} {K:PF→PH→Prop} {o:Oper} {c:Call} {x:Operand} {vc:Array Value} {Q:Exit→Act→World→Prop} {next:Act→World→Prop}
  (h:gY C name args cs d K F H) (hd:o.dst=d) (hlt:o.dst.all (·<n)=true) (ho:o.op=.call c) (U:c.callee=.value x) (hx:a.eval x=.func (.func (C.num name)) #[] vc)
  (i:∀ (J:Env) (F':PF) vs,E.le J→cQ ds n J F' a→J.num=C.num→aO.evs F' args=some vs→dY J (vs++cs) (c.args.map a.eval++vc).toList) (hA:cQ ds n E F a) (hW:bE E H w) (hN:E.num=C.num) (aWU:kU ds n E H w K next):o.wpIn (Fz ro) fu C.P a w next Q:=by
 rcases h with h | ⟨F1,H1,hf,h⟩
 ·refine PN h hd hlt ho U hx (fun vs l=>?_) hA hW hN aWU;rw[aXO] at l;obtain⟨ws,p,rfl⟩:=l;exact i E F ws (.refl E) hA hN p
 ·obtain⟨J,R,α,hE⟩:=hA.frz hW hf;refine PN h hd hlt ho U hx (fun vs l=>?_) R α (hE.env.num.trans hN) (fun E2 F2 H2 a2 w2 g1 g2 g3 g4=>aWU E2 F2 H2 a2 w2 g1 g2 (hE.trans g3) g4);rw[aXO] at l;obtain⟨ws,p,rfl⟩:=l;exact i J F1 ws hE.env R (hE.env.num.trans hN) p
theorem NY {C:Ctx} {l:Nat} {ps:Option (List PV)} {d:Option Nat} {K:PF→PH→Prop} {o:Oper} {c:Call} {x:Operand} {Q:Exit→Act→World→Prop} {next:Act→World→Prop}
  (h:HG C l ps d K F H) (hd:o.dst=d) (hlt:o.dst.all (·<n)=true) (ho:o.op=.call c) (η:c.callee=.value x) (hx:a.eval x=.func (.yield l) #[] #[])
  (J:∀ vs,ps=some vs→dY E vs (c.args.map a.eval).toList) (hA:cQ ds n E F a) (hW:bE E H w) (hN:E.num=C.num) (aWU:kU ds n E H w K next):o.wpIn (Fz ro) fu C.P a w next Q:=by
 obtain⟨vs,H0,R,rfl,α,U,hK⟩:=h;obtain⟨fn,p,assign,body,hy,i⟩:=U E w (c.args.map a.eval) hN (hW.weaken α) (J vs rfl);have β:(execOp a.eval o).run C.P w=.ok (.round l fn p assign body) w:=by unfold execOp;rw[ho];simp only[resolve,η,hx,Deferred.ofValue,Sem.run_bind,Sem.run_pure,Result.andThen_ok,invoke,Array.empty_append,Array.append_empty];exact hy
 refine BQ (fun c'=>by rw[ho]; exact fun e=>by cases e) ?_;rw[β,Oper.uponIn_round];have δ:RoundIn (Fz ro) (fu-1) C.P l fn p assign body w _:=⟨trivial,fun c cs _=>i.2 c cs (room_wide _)⟩;refine⟨(fun h=>by cases h),δ.mono fun e w' he=>?_⟩;obtain⟨v,pv,E',H',rfl,ε,hr,hE,hR⟩:=he;have ζ:kS H H0 H':=by
  intro q y hq h0;rcases hE.new q y hq with ⟨z,hz⟩ | hge
  ·rw[h0] at hz; cases hz
  ·cases hh:H q with
   | none=>rfl
   | some z=>have:=(hW.h q z hh).1; omega
 have γ:cQ ds n E' (F.put d pv) (a.put o.dst v):=by rw[← hd];exact (hA.mono hE.env).put hlt hr
 exact aWU E' _ _ _ w' γ (hW.over hE α ε) (hE.narrow α) (hK pv H' hR ζ)
theorem u5 {C:Ctx} {l:Nat} {args:List aO} {d:Option Nat} {K:PF→PH→Prop} {o:Oper} {c:Call} {x:Operand} {Q:Exit→Act→World→Prop} {next:Act→World→Prop}
  (h:Sp C l args d K F H) (hd:o.dst=d) (hlt:o.dst.all (·<n)=true) (ho:o.op=.call c) (U:c.callee=.value x) (hx:a.eval x=.func (.yield l) #[] #[])
  (i:∀ (J:Env) (F':PF) vs,cQ ds n J F' a→J.num=C.num→aO.evs F' args=some vs→dY J vs (c.args.map a.eval).toList) (hA:cQ ds n E F a) (hW:bE E H w) (hN:E.num=C.num) (aWU:kU ds n E H w K next):o.wpIn (Fz ro) fu C.P a w next Q:=by
 rcases h with h | ⟨F1,H1,hf,h⟩
 ·exact NY h hd hlt ho U hx (fun vs p=>i E F vs hA hN p) hA hW hN aWU
 ·obtain⟨J,R,α,hE⟩:=hA.frz hW hf;exact NY h hd hlt ho U hx (fun vs p=>i J F1 vs R (hE.env.num.trans hN) p) R α (hE.env.num.trans hN) (fun E2 F2 H2 a2 w2 g1 g2 g3 g4=>aWU E2 F2 H2 a2 w2 g1 g2 (hE.trans g3) g4)
theorem Cp {o:Oper} {p:POp} (i:T.op o=some p) (l:p.mG=true):∃ c,o.op=.call c∧T.call o c=some p:=by
 unfold Tbl.op at i;split at i
 case h_26=>rename_i c J; exact⟨c,J,i⟩
 all_goals (repeat' (first | (split at i) | (simp only[aXO] at i; obtain⟨_,-,rfl⟩:=i; simp[POp.mG] at l; done) | (cases i; simp[POp.mG] at l; done) | (cases i; done)))
theorem UO {o:Oper} {p:POp} (i:T.op o=some p):∀ c,o.op≠.defer c:=by
 intro c l;unfold Tbl.op at i;rw[l] at i;simp at i
theorem uj {o:Oper} {p:POp} (l:T.op o=some p) (R:p.dQ=true) :
  (∃ t ax x k pp J,o.op=.store t ax x∧T.size t=some k∧T.opd ax=some pp∧T.opd x=some J∧p=.store k pp J) ∨
  (∃ c x y t e i J py,o.op=.call c∧c.callee=.builtin .append∧c.args.toList=[x,y]∧c.argTypes.toList=[t,t]∧T.P.underlying t=some (.slice e)∧T.P.info? e=some i∧i.zero.isSome=true ∧
   (i.zero.map (·.cells.size))=some i.size∧0<i.size∧T.opd x=some J∧T.opd y=some py∧p=.append i.size i.bytes J py) ∨
  (∃ t kt et sh x k v J pk pv,(o.op=.mapUpdate t x k v∨o.op=.insert t x k v)∧T.P.underlying t=some (.map kt et)∧T.kF kt=some sh∧T.opd x=some J∧T.opd k=some pk∧T.opd v=some pv ∧
   (p=.aWQ sh J pk pv∨p=.insert sh J pk pv)):=by
 unfold Tbl.op at l;split at l
 case h_17 =>
  rename_i t x k v ho;split at l
  ·rename_i kt et hu;split at l<;>cases l;rename_i sh p q r U h2 h3 h4;exact .inr (.inr ⟨t,kt,et,sh,x,k,v,p,q,r,.inl ho,hu,U,h2,h3,h4,.inl rfl⟩)
  ·cases l
 case h_18 =>
  rename_i t x k v ho;split at l
  ·rename_i kt et hu;split at l<;>cases l;rename_i sh p q r U h2 h3 h4;exact .inr (.inr ⟨t,kt,et,sh,x,k,v,p,q,r,.inr ho,hu,U,h2,h3,h4,.inr rfl⟩)
  ·cases l
 case h_9 =>rename_i t ax x ho;split at l<;>cases l;rename_i k pp J U h2 h3;exact .inl ⟨t,ax,x,k,pp,J,ho,U,h2,h3,rfl⟩
 case h_26 =>
  rename_i c ho;unfold Tbl.call at l;split at l
  ·rename_i b γ;split at l
   ·split at l<;>(first | (simp only[aXO] at l; obtain⟨_,-,rfl⟩:=l; simp[POp.dQ] at R; done) | (cases l; simp[POp.dQ] at R; done) | (cases l; done))
   ·rename_i x y t u β δ;split at l<;>try cases l
    rename_i e e' ht hu;split at l<;>try cases l
    rename_i i J py hi hx hy;split at l
    ·rename_i α;cases l;obtain⟨rfl,U,h2,h3⟩:=α;exact .inr (.inl ⟨c,x,y,t,e,i,J,py,ho,γ,β,δ,ht,hi,U,h2,h3,hx,hy,rfl⟩)
    ·cases l
   ·split at l<;>(first | (simp only[aXO] at l; obtain⟨_,-,rfl⟩:=l; simp[POp.dQ] at R; done) | (cases l; done))
   ·split at l<;>(first | (cases l; simp[POp.dQ] at R; done) | (cases l; done))
   ·split at l<;>(first | (cases l; simp[POp.dQ] at R; done) | (cases l; done))
   ·cases l
  ·split at l
   ·split at l
    ·cases l; simp[POp.dQ] at R
    ·cases l
   ·cases l
  ·simp only[aXO] at l;obtain⟨_,-,rfl⟩:=l;simp[POp.dQ] at R
  ·cases l
 all_goals (repeat' (first | (split at l) | (simp only[aXO] at l; obtain⟨_,-,rfl⟩:=l; simp[POp.dQ] at R; done) | (cases l; simp[POp.dQ] at R; done) | (cases l; done)))
theorem Lg {o:Oper} {p:POp} {K:PV→PH→Prop} (hc:T.op o=some p) (hk:p.dQ=true) (h:bS p F H K) (hA:cQ ds n E F a) (hW:bE E H w) (hN:E.num=T.num):wg T.P E H w o a K:=by
 rcases uj hc hk with ⟨t,ax,x,k,pp,px,l,h1,h2,h3,rfl⟩ | ⟨c,x,y,t,e,i,px,py,l,hcc,hca,hct,ht,hi,g1,g2,g3,hx,hy,rfl⟩ | ⟨t,kt,et,sh,x,k,v,px,pk,pv,l,hu,hsh,hx,hkk,hv,hp⟩
 ·simp only[bS] at h;split at h
  ·rename_i pa pv R γ;obtain⟨hl,H',δ,J⟩:=h;obtain⟨w',hr,α,hE⟩:=Kp l h1 h2 h3 R γ hl δ hA hW hN;exact⟨undef,_,w',E,H',.junk,hr,.inr ⟨rfl,rfl⟩,.junk _,α,hE,J⟩
  ·exact h.elim
 ·simp only[bS] at h;split at h
  ·rename_i pa pb R β;exact wn l hcc hca hct ht hi g1 g2 g3 (aV hx R hA hN) (aV hy β hA hN) h hW
  ·exact h.elim
 ·have key:∀ q U vv g key,px.ev F=some (.map q)→pk.ev F=some U→pv.ev F=some vv→H q=some (.map sh g)→keyOf sh U=some key→K .junk (H.set q (.map sh (g.upd key vv)))→wg T.P E H w o a K:=by intro q U vv g key e1 e2 e3 e4 e5 J;obtain⟨w',g1,g2,g3⟩:=C8 hu hsh (aV hx e1 hA hN) (aV hkk e2 hA hN) (aV hv e3 hA hN) e4 e5 hW;refine⟨undef,.skip,w',E,_,.junk,?_,.inr ⟨rfl,rfl⟩,.junk _,g2,g3,J⟩;rcases l with l | l<;>(unfold execOp; rw[l]; simp[g1])
  rcases hp with rfl | rfl
  ·simp only[bS] at h;split at h
   ·rename_i q U vv e1 e2 e3;split at h
    ·rename_i ε g ky e4 e5;obtain⟨rfl,J⟩:=h;exact key q U vv g ky e1 e2 e3 e4 e5 J
    ·exact h.elim
   ·exact h.elim
  ·simp only[bS] at h;split at h
   ·rename_i q U vv e1 e2 e3;split at h
    ·rename_i ε g ky e4 e5;obtain⟨rfl,-,J⟩:=h;exact key q U vv g ky e1 e2 e3 e4 e5 J
    ·exact h.elim
   ·exact h.elim
theorem asN {C:Ctx} (ε:C.P=T.P) (R:C.num=T.num) {o:Oper} {p:POp} {d:Option Nat} {K:PF→PH→Prop} {Q:Exit→Act→World→Prop} {next:Act→World→Prop} (hc:T.op o=some p) (hd:o.dst=d) (hlt:o.dst.all (·<n)=true)
  (h:wpOp C p d K F H) (hA:cQ ds n E F a) (hW:bE E H w) (hN:E.num=T.num) (aWU:kU ds n E H w K next):o.wpIn (Fz ro) fu T.P a w next Q:=by
 by_cases hk:p.mG=true
 ·obtain⟨c,ho,i⟩:=Cp hc hk;unfold Tbl.call at i;split at i
  ·rename_i b β;exfalso
   repeat' (first | (split at i) | (simp only[aXO] at i; obtain⟨_,-,rfl⟩:=i; simp[POp.mG] at hk; done) | (cases i; simp[POp.mG] at hk; done) | (cases i; done))
  ·rename_i f β;split at i
   ·rename_i m xs hm δ;split at i
    ·rename_i hf;cases i;rw[← ε];refine IJ h hd hlt ho β (vc:=#[]) (by rw[R,hf]; rfl) (fun E' F' vs _ γ ζ θ=>?_) hA hW (hN.trans R.symm) aWU;simpa using uR δ θ γ (ζ.trans R)
    ·cases i
   ·cases i
  ·rename_i t β;simp only[aXO] at i;obtain⟨xs,δ,rfl⟩:=i;have h':sI C (aO.ev F (.tmp t)) xs d K F H:=h;have κ:a.eval (.tmp t)=a.tmps.getD t undef:=rfl;cases η:aO.ev F (.tmp t) with
   | none=>rw[η] at h'; exact h'.elim
   | some u =>
    rw[η] at h';have r:=hA.t t _ η;cases u with
    | fn name cs =>
     generalize hv:a.tmps.getD t undef=v at r;cases r with
     | fn vc hl hr =>
     rw[← ε];refine IJ h' hd hlt ho β (vc:=vc) (by rw[κ,hv,hN,R]) (fun E' F' ws ξ A' ζ σ=>?_) hA hW (hN.trans R.symm) aWU;rw[Array.toList_append];refine dY.append (by simpa using uR δ σ A' (ζ.trans R)) (dY.ayV (by simpa using hl) fun j p u hp hu=>(hr j p u hp (by simpa using hu)).mono ξ)
    | lit u =>
     obtain⟨l,hl,hy⟩:=h';unfold PV.anH at hl;split at hl
     ·rename_i l' f' c' e;split at hl
      ·rename_i ν;cases hl;obtain⟨rfl,rfl⟩:=ν;cases e;generalize hv:a.tmps.getD t undef=v at r;cases r;rw[← ε];exact u5 hy hd hlt ho β (by rw[κ,hv]) (fun E' F' vs A' N' θ=>by simpa using uR δ θ A' (N'.trans R)) hA hW (hN.trans R.symm) aWU
      ·cases hl
     ·cases hl
    | _=>exact h'.elim
  ·cases i
 ·have ι:p.mG=false:=by simpa using hk
  have J:(if p.fU then lL (cL p F) d K F H else if p.dQ then bS p F H (fun r H'=>K (F.put d r) H') else bN (aN p F H) d K F H):=by cases p<;>first | exact h | (simp[POp.mG] at ι)
  by_cases hn:p.fU=true
  ·rw[if_pos hn] at J;obtain⟨mk,x,μ,hK⟩:=J;obtain⟨v,w',E',q,hr,hq,U,α,hE⟩:=acW hc hn μ hA hW hN;refine BQ (UO hc) ?_;rw[hr,Oper.uponIn_value];exact aWU E' _ _ _ w' (by rw[← hd]; exact (hA.mono hE.env).put hlt U) α hE (hK q hq)
  ·rw[if_neg hn] at J;by_cases hw:p.dQ=true
   ·rw[if_pos hw] at J;obtain⟨v,nx,w',E',H',pv,hr,ο,U,α,hE,hK⟩:=Lg hc hw J hA hW hN;refine BQ (UO hc) ?_;have γ:cQ ds n E' (F.put d pv) (a.put o.dst v):=by rw[← hd]; exact (hA.mono hE.env).put hlt U
    rcases ο with rfl | ⟨rfl,rfl⟩
    ·rw[hr,Oper.uponIn_value];exact aWU E' _ _ _ w' γ α hE hK
    ·rw[hr,Oper.uponIn_skip];exact aWU E' _ _ _ w' γ α hE hK
   ·rw[if_neg hw] at J;obtain⟨pv,ρ,hK⟩:=J;obtain⟨v,w',E',hr,U,α,hE⟩:=Tb hc (by simpa using hn) (by simpa using hw) ι ρ hA hW hN;refine BQ (UO hc) ?_;rw[hr,Oper.uponIn_value];exact aWU E' _ _ _ w' (by rw[← hd]; exact (hA.mono hE.env).put hlt U) α hE hK
end
def aO.bY:aO→List Nat
 | .tmp t=>[t]
 | .const _=>[]
def rJ:Option aO→List Nat
 | none=>[]
 | some x=>x.bY
def NB:List aO→List Nat
 | []=>[]
 | x::xs=>x.bY++NB xs
def Gt:List (Nat × Nat × aO)→List Nat
 | []=>[]
 | x::xs=>x.2.2.bY++Gt xs
def Gs:List (Nat × aO)→List Nat
 | []=>[]
 | x::xs=>x.2.bY++Gs xs
def POp.bY:POp→List Nat
 | .mv x=>x.bY
 | .pick c a b=>c.bY++(a.bY++b.bY)
 | .bin _ x y=>x.bY++y.bY
 | .eqb _ x y=>x.bY++y.bY
 | .eqs _ _ x y=>x.bY++y.bY
 | .un _ x=>x.bY
 | .conv _ x=>x.bY
 | .same x=>x.bY
 | .alloc _=>[]
 | .box _ x=>x.bY
 | .build _ ps=>Gt ps
 | .aWF _ _ _ _ ps=>Gs ps
 | .load _ p=>p.bY
 | .store _ p x=>p.bY++x.bY
 | .aWL x=>x.bY
 | .aXB _ x=>x.bY
 | .field _ _ x=>x.bY
 | .aWP _ x i=>x.bY++i.bY
 | .idxA _ _ x i=>x.bY++i.bY
 | .idxV _ _ _ x i=>x.bY++i.bY
 | .aWZ x i=>x.bY++i.bY
 | .slice _ x lo hi mx=>x.bY++(rJ lo++(rJ hi++rJ mx))
 | .aWV x lo hi=>x.bY++(rJ lo++rJ hi)
 | .sliceA _ _ x lo hi mx=>x.bY++(rJ lo++(rJ hi++rJ mx))
 | .len x=>x.bY
 | .aWY x=>x.bY
 | .aXH x=>x.bY
 | .lenM x=>x.bY
 | .isNil _ x=>x.bY
 | .extract x _=>x.bY
 | .aWH _ _ _ l c=>l.bY++c.bY
 | .append _ _ x y=>x.bY++y.bY
 | .aWT _ x y=>x.bY++y.bY
 | .mkfn _ cs=>NB cs
 | .aXE _=>[]
 | .lookup _ _ x k _=>x.bY++k.bY
 | .aWQ _ x k v=>x.bY++(k.bY++v.bY)
 | .insert _ x k v=>x.bY++(k.bY++v.bY)
 | .stuck=>[]
 | .aWM x=>x.bY
 | .str2bytes x=>x.bY
 | .call _ J=>NB J
 | .aXA x J=>x.bY++NB J
def nC (l:List Nat) (F F':PF):Prop:=∀ t∈l,F t=F' t
theorem nC.left {a b:List Nat} {F F':PF} (h:nC (a++b) F F'):nC a F F':=fun t i=>h t (by simp[i])
theorem nC.right {a b:List Nat} {F F':PF} (h:nC (a++b) F F'):nC b F F':=fun t i=>h t (by simp[i])
section
variable {F F':PF} {H H':PH}
theorem bL {x:aO} (h:nC x.bY F F'):x.ev F=x.ev F':=by
 cases x with
 | tmp t=>exact h t (by simp[aO.bY])
 | const v=>rfl
theorem CU:∀ {xs:List aO},nC (NB xs) F F'→aO.evs F xs=aO.evs F' xs
 | [],_=>rfl
 | x::xs,h=>by simp only[aO.evs,bL h.left,CU h.right]
theorem YD:∀ {ps:List (Nat × Nat × aO)} {cs:List PV},nC (Gt ps) F F'→nY cs F ps=nY cs F' ps
 | [],_,_=>rfl
 | (o,s,x)::ps,cs,h=>by
  simp only[nY];rw[bL (x:=x) h.left];split
  ·rw[YD (ps:=ps) h.right]
  ·rfl
theorem tO {s:Nat}:∀ {ps:List (Nat × aO)} {rs:List (List PV)},nC (Gs ps) F F'→fS s rs F ps=fS s rs F' ps
 | [],_,_=>rfl
 | (i,x)::ps,rs,h=>by
  simp only[fS];rw[bL (x:=x) h.left];split
  ·rw[tO (ps:=ps) h.right]
  ·rfl
theorem vY {d:Int} {x:Option aO} (h:nC (rJ x) F F'):bnd F d x=bnd F' d x:=by
 cases x with
 | none=>rfl
 | some x=>simp only[bnd,bL (x:=x) h]
theorem U4 {op:POp} (h:nC op.bY F F'):aN op F H=aN op F' H:=by
 cases op
 case mv x=>simp only[aN,bL (x:=x) h]
 case same x=>simp only[aN,bL (x:=x) h]
 case pick c a b=>simp only[aN,bL (x:=c) h.left,bL (x:=a) h.right.left,bL (x:=b) h.right.right]
 case bin x y=>simp only[aN,bL (x:=x) h.left,bL (x:=y) h.right]
 case eqb x y=>simp only[aN,bL (x:=x) h.left,bL (x:=y) h.right]
 case eqs x y=>simp only[aN,bL (x:=x) h.left,bL (x:=y) h.right]
 case un x=>simp only[aN,bL (x:=x) h]
 case conv x=>simp only[aN,bL (x:=x) h]
 case box r x=>cases r<;>simp only[aN,bL (x:=x) h]
 case build ps=>simp only[aN,YD (ps:=ps) h]
 case aWF r _ _ _ ps=>cases r<;>simp only[aN,tO (ps:=ps) h]
 case load n p=>cases n<;>simp only[aN,bL (x:=p) h]
 case aWL x=>simp only[aN,bL (x:=x) h]
 case aXB x=>simp only[aN,bL (x:=x) h]
 case field x=>simp only[aN,bL (x:=x) h]
 case aWP x i=>simp only[aN,bL (x:=x) h.left,bL (x:=i) h.right]
 case idxA x i=>simp only[aN,bL (x:=x) h.left,bL (x:=i) h.right]
 case idxV x i=>simp only[aN,bL (x:=x) h.left,bL (x:=i) h.right]
 case aWZ x i=>simp only[aN,bL (x:=x) h.left,bL (x:=i) h.right]
 case slice s x lo hi mx =>
  have l:x.ev F=x.ev F':=bL h.left;have J:∀ d,bnd F d lo=bnd F' d lo:=fun d=>vY h.right.left;have R:∀ d,bnd F d hi=bnd F' d hi:=fun d=>vY h.right.right.left;cases mx with
  | none=>simp only[aN,l,J,R]
  | some m =>have U:∀ d,bnd F d (some m)=bnd F' d (some m):=fun d=>vY (x:=some m) h.right.right.right;simp only[aN,l,J,R,U]
 case sliceA n size x lo hi mx =>have l:x.ev F=x.ev F':=bL h.left;cases lo<;>cases hi<;>cases mx<;>simp only[aN,l]
 case aWV x lo hi =>have l:x.ev F=x.ev F':=bL h.left;have J:∀ d,bnd F d lo=bnd F' d lo:=fun d=>vY h.right.left;have R:∀ d,bnd F d hi=bnd F' d hi:=fun d=>vY h.right.right;simp only[aN,l,J,R]
 case len x=>simp only[aN,bL (x:=x) h]
 case aWY x=>simp only[aN,bL (x:=x) h]
 case aXH x=>simp only[aN,bL (x:=x) h]
 case lenM x=>simp only[aN,bL (x:=x) h]
 case isNil x=>simp only[aN,bL (x:=x) h]
 case extract x i=>simp only[aN,bL (x:=x) h]
 case aWT x y=>simp only[aN,bL (x:=x) h.left,bL (x:=y) h.right]
 case mkfn cs=>simp only[aN,CU (xs:=cs) h]
 case lookup sh z x k ok=>simp only[aN,bL (x:=x) h.left,bL (x:=k) h.right]
 case aWM x=>simp only[aN,bL (x:=x) h]
 all_goals rfl
theorem Sy {op:POp} (h:nC op.bY F F'):cL op F=cL op F':=by
 cases op
 case box r x=>cases r<;>simp only[cL,bL (x:=x) h]
 case aWF r _ _ _ ps=>cases r<;>simp only[cL,tO (ps:=ps) h]
 case aWH l c=>simp only[cL,bL (x:=l) h.left,bL (x:=c) h.right]
 all_goals rfl
theorem Yn {op:POp} {K:PV→PH→Prop} (h:nC op.bY F F'):bS op F H K=bS op F' H K:=by
 cases op
 case store n p x=>simp only[bS,bL (x:=p) h.left,bL (x:=x) h.right]
 case append s b x y=>simp only[bS,bL (x:=x) h.left,bL (x:=y) h.right]
 case aWQ sh x k v=>simp only[bS,bL (x:=x) h.left,bL (x:=k) h.right.left,bL (x:=v) h.right.right]
 case insert sh x k v=>simp only[bS,bL (x:=x) h.left,bL (x:=k) h.right.left,bL (x:=v) h.right.right]
 all_goals rfl
theorem n0 {op:POp} (h:nC op.bY F F'):op.kind F=op.kind F':=by
 have i:(if op.fU then Kind.new (cL op F) else if op.dQ then .write (fun H K=>bS op F H K) else .calm (aN op F)) =
   (if op.fU then Kind.new (cL op F') else if op.dQ then .write (fun H K=>bS op F' H K) else .calm (aN op F')):=by
  rw[Sy h];have l:(fun H K=>bS op F H K)=fun H K=>bS op F' H K:=by funext H K;exact Yn h
  have p:aN op F=aN op F':=by funext H;exact U4 h
  rw[l,p]
 cases op
 case call n az=>simp only[POp.kind,CU (xs:=az) h]
 case aXA x az=>simp only[POp.kind,bL (x:=x) h.left,CU (xs:=az) h.right]
 case insert sh x k v=>simp only[POp.kind,bL (x:=x) h.left,bL (x:=k) h.right.left,bL (x:=v) h.right.right]
 all_goals exact i
def aR.bY (i:aR):List Nat :=
 match i.guard with
 | none=>i.op.bY
 | some (t,_)=>t::i.op.bY
theorem ZD {i:aR} (h:nC i.bY F F'):i.kind F=i.kind F':=by
 unfold aR.kind;unfold aR.bY at h;cases l:i.guard with
 | none=>rw[l] at h; exact n0 h
 | some p =>obtain⟨t,J⟩:=p;rw[l] at h;simp only;rw[h t (by simp),n0 (fun u R=>h u (by simp[R]))]
theorem arP (p:PV):∃ q:Nat,∀ (H H':PH) n,H q=H' q→loadCells H p n=loadCells H' p n:=by
 cases p
 case ptr o s i c=>exact⟨o,fun H H' n h=>by simp only[loadCells,h]⟩
 all_goals exact⟨0,fun H H' n h=>rfl⟩
theorem awZ (s:Nat) (p:PV):∃ q:Nat,∀ (H H':PH),H q=H' q→dS H s p=dS H' s p:=by
 cases p
 case osl o s' off len=>exact⟨o,fun H H' h=>by simp only[dS,h]⟩
 all_goals exact⟨0,fun H H' h=>rfl⟩
theorem adY (op:POp) (F:PF):∃ q:Nat,∀ (H H':PH),H q=H' q→aN op F H=aN op F H':=by
 cases op
 case load n p =>
  cases i:p.ev F with
  | none=>exact⟨0,fun H H' _=>by cases n<;>simp only[aN,i]⟩
  | some a =>obtain⟨q,l⟩:=arP a;exact⟨q,fun H H' h=>by cases n<;>simp only[aN,i,l H H' _ h]⟩
 case lenM x =>
  cases i:x.ev F with
  | none=>exact⟨0,fun H H' _=>by simp only[aN,i]⟩
  | some a =>
   cases a
   case map o=>exact⟨o,fun H H' h=>by simp only[aN,i,h]⟩
   all_goals exact⟨0,fun H H' _=>by simp only[aN,i]⟩
 case lookup sh z x k ok =>
  cases i:x.ev F with
  | none=>exact⟨0,fun H H' _=>by simp only[aN,i]⟩
  | some a =>
   cases a
   case map o=>exact⟨o,fun H H' h=>by cases J:k.ev F<;>simp only[aN,i,J,h]⟩
   all_goals exact⟨0,fun H H' _=>by simp only[aN,i]⟩
 case aWM x =>
  cases i:x.ev F with
  | none=>exact⟨0,fun H H' _=>by simp only[aN,i]⟩
  | some a =>obtain⟨q,l⟩:=awZ 1 a;exact⟨q,fun H H' h=>by simp only[aN,i,l H H' h]⟩
 case sliceA n s x lo hi mx=>cases lo<;>cases hi<;>cases mx<;>exact⟨0,fun H H' _=>rfl⟩
 case box r x=>cases r<;>exact⟨0,fun H H' _=>rfl⟩
 case aWF r _ _ _ _=>cases r<;>exact⟨0,fun H H' _=>rfl⟩
 all_goals exact⟨0,fun H H' _=>rfl⟩
theorem oj {p:PV} {n:Nat} {cs:List PV} (l:H.le H') (h:loadCells H p n=some cs):loadCells H' p n=some cs:=by
 cases p
 case ptr o s i c =>
  simp only[loadCells] at h ⊢;cases J:H o with
  | none=>rw[J] at h; cases h
  | some x=>rw[l o x J]; rw[J] at h; exact h
 all_goals exact h
theorem amA {s:Nat} {p:PV} {rs:List (List PV)} (i:H.le H') (h:dS H s p=some rs):dS H' s p=some rs:=by
 cases p
 case osl o s' off len =>
  simp only[dS] at h ⊢;cases l:H o with
  | none=>rw[l] at h; simp at h
  | some x=>rw[i o x l]; rw[l] at h; exact h
 all_goals exact h
theorem cl {op:POp} {v:PV} (l:H.le H') (h:aN op F H=some v):aN op F H'=some v:=by
 cases op
 case load n p =>
  cases R:p.ev F with
  | none=>cases n<;>simp only[aN,R] at h<;>cases h
  | some a =>
   cases n with
   | none =>
    simp only[aN,R] at h ⊢;cases i:loadCells H a 1 with
    | none=>rw[i] at h; cases h
    | some cs=>rw[oj l i]; rw[i] at h; exact h
   | some n =>
    simp only[aN,R] at h ⊢;cases i:loadCells H a n with
    | none=>rw[i] at h; cases h
    | some cs=>rw[oj l i]; rw[i] at h; exact h
 case lenM x =>
  simp only[aN] at h ⊢;split at h
  ·rename_i o U;cases J:H o with
   | none=>rw[J] at h; cases h
   | some y=>rw[l o y J]; rw[J] at h; exact h
  ·cases h
 case lookup sh z x k ok =>
  simp only[aN] at h ⊢;split at h
  ·rename_i o kv U hk;cases J:H o with
   | none=>rw[J] at h; cases h
   | some y=>rw[l o y J]; rw[J] at h; exact h
  ·cases h
 case aWM x =>
  simp only[aN] at h ⊢;split at h
  ·rename_i a ha;cases i:dS H 1 a with
   | none=>rw[i] at h; cases h
   | some rs=>rw[amA l i]; rw[i] at h; exact h
  ·cases h
 case sliceA n s x lo hi mx=>cases lo<;>cases hi<;>cases mx<;>exact h
 case box r x=>cases r<;>exact h
 case aWF r _ _ _ _=>cases r<;>exact h
 all_goals exact h
end
theorem PH.mo (H:PH) (l:List Nat):∃ o,H o=none∧o ∉ l:=by
 obtain⟨n,p⟩:=H.fin;refine⟨n+l.sum+1,p _ Om,fun h=>?_⟩;have:n+l.sum+1≤l.sum:=by
  have key:∀ (l:List Nat) (x:Nat),x∈l→x≤l.sum:=by
   intro l
   induction l with
   | nil=>intro x i; cases i
   | cons y ys J =>
    intro x i;rcases aXP.1 i with rfl | i
    ·simp
    ·have:=J x i; simp; omega
  exact key l _ h
 omega
theorem PH.set_comm (H:PH) {o q:Nat} (x y:bX) (h:o≠q):(H.set o x).set q y=(H.set q y).set o x:=by
 refine PH.ext fun p=>?_;simp only[cC];by_cases i:p=q<;>by_cases l:p=o<;>simp_all
theorem PH.KG {H:PH} {o:Nat} (x:bX) (h:H o=none):H.le (H.set o x):=by
 intro p y i;rw[cC];split
 ·rename_i e; subst e; rw[h] at i; cases i
 ·exact i
theorem PH.Gp {H:PH} {o q:Nat} {x:bX}:(H.set o x) q=none↔q≠o∧H q=none:=by
 rw[cC];split<;>simp_all
theorem PH.le_trans {A B D:PH} (h:A.le B) (k:B.le D):A.le D:=fun o x i=>k o x (h o x i)
theorem PH.le_none {A B:PH} (h:A.le B) {o:Nat} (l:B o=none):A o=none:=by
 cases i:A o with
 | none=>rfl
 | some x=>have:=h o x i; rw[l] at this; cases this
theorem PH.aJJ {A B:PH} (h:A.le B) {o:Nat} {x:bX} (l:A o=none):A.le (B.set o x):=by
 intro p y i;rw[cC];split
 ·rename_i e; subst e; rw[l] at i; cases i
 ·exact h p y i
structure vw (f:PH→Option PV):Prop where
 dep:∃ q:Nat,∀ (H H':PH),H q=H' q→f H=f H'
 mono:∀ (H H':PH) v,H.le H'→f H=some v→f H'=some v
structure azO (w:PH→(PV→PH→Prop)→Prop):Prop where
 mono:∀ H (K K':PV→PH→Prop),(∀ v H',K v H'→K' v H')→w H K→w H K'
 some:∀ H (K:PV→PH→Prop),w H K→∃ v H',K v H'
inductive Kind.Ok:Kind→Prop
 | fail:Kind.Ok .fail
 | calm {f:PH→Option PV} (h:vw f):Kind.Ok (.calm f)
 | new (r:Option ((Nat→PV) × bX)):Kind.Ok (.new r)
 | write {w:PH→(PV→PH→Prop)→Prop} (h:azO w):Kind.Ok (.write w)
 | call (name:Nat) (args:Option (List PV)):Kind.Ok (.call name args)
 | ins (r:Option (Nat × MSh × List KS × PV)):Kind.Ok (.ins r)
section
variable {C:Ctx} {Hs:PH} {S:Spec} {H:PH}
theorem wZ {op:POp} {F:PF} {K K':PV→PH→Prop} (h:∀ v H',K v H'→K' v H') (i:bS op F H K):bS op F H K':=by
 cases op
 case store n p x =>
  simp only[bS] at i ⊢;split at i
  ·obtain⟨J,H',l,h3⟩:=i; exact⟨J,H',l,h _ _ h3⟩
  ·exact i.elim
 case append s b x y =>
  simp only[bS] at i ⊢;split at i
  ·rename_i a c ha hc;obtain⟨src,J,l⟩:=i;refine⟨src,J,?_⟩;split at l
   ·exact⟨l.1,fun e=>h _ _ (l.2.1 e),fun e o R=>h _ _ (l.2.2 e o R)⟩
   ·obtain⟨g1,g2,g3,rs,g4,U,g6,g7⟩:=l;exact⟨g1,g2,g3,rs,g4,U,h _ _ g6,fun o R=>h _ _ (g7 o R)⟩
   ·exact l.elim
  ·exact i.elim
 case aWQ sh x k v =>
  simp only[bS] at i ⊢;split at i
  ·split at i
   ·exact⟨i.1,h _ _ i.2⟩
   ·exact i.elim
  ·exact i.elim
 case insert sh x k v =>
  simp only[bS] at i ⊢;split at i
  ·split at i
   ·exact⟨i.1,i.2.1,h _ _ i.2.2⟩
   ·exact i.elim
  ·exact i.elim
 all_goals exact i.elim
theorem I5 {op:POp} {F:PF} {K:PV→PH→Prop} (i:bS op F H K):∃ v H',K v H':=by
 cases op
 case store n p x =>
  simp only[bS] at i;split at i
  ·obtain⟨R,H',l,U⟩:=i; exact⟨_,_,U⟩
  ·exact i.elim
 case append s b x y =>
  simp only[bS] at i;split at i
  ·rename_i a c ha hc;obtain⟨src,R,l⟩:=i;split at l
   ·by_cases e:src=[]
    ·exact⟨_,_,l.2.1 e⟩
    ·obtain⟨o,ho⟩:=H.fresh;exact⟨_,_,l.2.2 e o ho⟩
   ·obtain⟨g1,g2,g3,rs,g4,g5,J,g7⟩:=l;exact⟨_,_,J⟩
   ·exact l.elim
  ·exact i.elim
 case aWQ sh x k v =>
  simp only[bS] at i;split at i
  ·split at i
   ·exact⟨_,_,i.2⟩
   ·exact i.elim
  ·exact i.elim
 case insert sh x k v =>
  simp only[bS] at i;split at i
  ·split at i
   ·exact⟨_,_,i.2.2⟩
   ·exact i.elim
  ·exact i.elim
 all_goals exact i.elim
theorem Fq (op:POp) (F:PF):(op.kind F).Ok:=by
 have i:(if op.fU then Kind.new (cL op F) else if op.dQ then .write (fun H K=>bS op F H K) else .calm (aN op F)).Ok:=by
  split
  ·exact .new _
  ·split
   ·exact .write ⟨fun H K K' h l=>wZ h l,fun H K l=>I5 l⟩
   ·exact .calm ⟨adY op F,fun H H' v h p=>cl h p⟩
 cases op
 case call n az=>exact .call _ _
 case aXA x az =>
  simp only[POp.kind];split
  ·exact .call _ _
  ·exact .fail
 case insert sh x k v=>exact .ins _
 all_goals exact i
theorem pR (i:aR) (F:PF):(i.kind F).Ok:=by
 unfold aR.kind;split
 ·exact Fq _ _
 ·split
  ·split
   ·exact Fq _ _
   ·exact .calm ⟨⟨0,fun _ _ _=>rfl⟩,fun _ _ _ _ h=>h⟩
  ·exact .calm ⟨⟨0,fun _ _ _=>rfl⟩,fun _ _ _ _ h=>h⟩
  ·exact .fail
theorem Kind.pT {k:Kind} (hk:k.Ok) {st:Bool} {K K':PV→PH→Prop} (h:∀ v H',Hs.le H'→K v H'→K' v H') (p:Hs.le H) (J:k.run C Hs S st K H):k.run C Hs S st K' H:=by
 cases hk with
 | fail=>exact J
 | calm _=>obtain⟨v,i,l⟩:=J; exact⟨v,i,h _ _ p l⟩
 | new r=>obtain⟨mk,x,i,l⟩:=J; exact⟨mk,x,i,fun o ho=>h _ _ (PH.le_trans p (PH.KG x ho)) (l o ho)⟩
 | write hw=>exact hw.mono _ _ _ (fun v H' hh=>⟨hh.1,h _ _ hh.1 hh.2⟩) J
 | call name args =>obtain⟨vs,D,R,i,l,h3,U,h5,h6⟩:=J;exact⟨vs,D,R,i,l,h3,U,h5,fun r H' a b=>⟨(h6 r H' a b).1,h _ _ (h6 r H' a b).1 (h6 r H' a b).2⟩⟩
 | ins r =>obtain⟨o,sh,key,v,g,i,l,h3,U,h5⟩:=J;exact⟨o,sh,key,v,g,i,l,h3,U,h _ _ (PH.aJJ p U) h5⟩
def Kind.cls:Kind→Nat
 | .fail | .calm _=>0
 | .new _=>1
 | .write _=>2
 | .call ..=>3
 | .ins _=>4
theorem FT {H:PH} {D:List Nat} {o:Nat} (x:bX) (h:o ∉ D):(H.set o x).only D=H.only D:=by
 refine PH.ext fun q=>?_;simp only[PH.only,cC];split
 ·rename_i i;rw[if_neg (by rintro rfl; exact h i)]
 ·rfl
theorem fW (H i H':PH) (o:Nat):(H.over i H') o=(match H' o with | some x=>some x | none=>match i o with | some _=>some .dead | none=>H o):=rfl
theorem qD (H:PH) (D:List Nat) (o:Nat):(H.only D) o=if o∈D then H o else none:=rfl
theorem Fv {H H':PH} {D:List Nat} {o:Nat} (x:bX) (l:o ∉ D) (i:H' o=none):(H.set o x).over (H.only D) H'=(H.over (H.only D) H').set o x:=by
 refine PH.ext fun q=>?_;rw[fW,cC,cC,fW];by_cases e:q=o
 ·subst e;simp only[i,qD,if_neg l,if_true]
 ·simp only[if_neg e]
theorem sd {H H':PH} {D:List Nat} {o:Nat} (h:(H.over (H.only D) H') o=none):H o=none∧H' o=none:=by
 rw[fW] at h;cases i:H' o with
 | some x=>rw[i] at h; cases h
 | none =>
  rw[i] at h;simp only at h;cases l:(H.only D) o with
  | some x=>rw[l] at h; cases h
  | none=>rw[l] at h; exact⟨h,rfl⟩
theorem uw {name:Nat} {args:Option (List PV)} {r:Option ((Nat→PV) × bX)} {K:PV→PV→PH→Prop} {si sj:Bool}
  (h:(Kind.call name args).run C Hs S si (fun v H'=>(Kind.new r).run C Hs S sj (fun u l=>K v u l) H') H) :
  (Kind.new r).run C Hs S sj (fun u H'=>(Kind.call name args).run C Hs S si (fun v l=>K v u l) H') H:=by
 obtain⟨vs,D,R,h1,h2,h3,h4,h5,h6⟩:=h;obtain⟨r0,H0,α,β⟩:=h5 H;obtain⟨-,mk,x,hr,-⟩:=h6 r0 H0 α β;refine⟨mk,x,hr,fun o ho=>?_⟩;have i:o ∉ D:=fun hD=>by obtain⟨y,hy⟩:=h3 o hD; rw[ho] at hy; cases hy
 refine⟨vs,D,R,h1,h2,fun q hq=>?_,?_,?_,?_⟩
 ·rw[cC];split
  ·exact⟨_,rfl⟩
  ·exact h3 q hq
 ·rw[FT x i]; exact h4
 ·rw[FT x i]; exact h5
 ·intro v H' hR p;rw[FT x i] at hR p ⊢;have h':H' o=none:=by
   cases e:H' o with
   | none=>rfl
   | some y =>have:=p o y e (by rw[qD,if_neg i]);rw[cC,if_pos rfl] at this; cases this
  have J:kS H (H.only D) H':=fun q y hq h0=>by
   have:=p q y hq h0;rw[cC] at this;split at this
   ·cases this
   ·exact this
  obtain⟨g1,mk',x',g2,g3⟩:=h6 v H' hR J;rw[hr] at g2;cases g2;have U:(H.over (H.only D) H') o=none:=by rw[fW,h',qD,if_neg i]; exact ho
  rw[Fv x i h'];exact⟨PH.le_trans g1 (PH.KG x U),g3 o U⟩
theorem uy {name:Nat} {args:Option (List PV)} {r:Option ((Nat→PV) × bX)} {K:PV→PV→PH→Prop} {si sj:Bool} (ζ:Hs.le H)
  (h:(Kind.new r).run C Hs S si (fun v H'=>(Kind.call name args).run C Hs S sj (fun u U=>K v u U) H') H) :
  (Kind.call name args).run C Hs S sj (fun u H'=>(Kind.new r).run C Hs S si (fun v U=>K v u U) H') H:=by
 obtain⟨mk,x,hr,h⟩:=h;obtain⟨o0,η⟩:=H.fresh;obtain⟨vs,D,R,h1,h2,-⟩:=h o0 η;obtain⟨o,ho,α⟩:=H.mo D;have all:∀ q,H q=none→q ∉ D→(∀ p∈D,∃ y,(H.set q x) p=some y)∧aH C name vs (H.only D) (R (H.only D))∧(∀ G:PH,∃ r H',R (H.only D) r H'∧kS G (H.only D) H') ∧
   ∀ r H',R (H.only D) r H'→kS (H.set q x) (H.only D) H'→Hs.le ((H.set q x).over (H.only D) H')∧K (mk q) r ((H.set q x).over (H.only D) H'):=by
  intro q i J;obtain⟨θ,D',R',g1,g2,g3,g4,g5,g6⟩:=h q i;rw[h1] at g1; cases g1;rw[h2] at g2; cases g2;rw[FT x J] at g4 g5 g6;exact⟨g3,g4,g5,g6⟩
 obtain⟨a3,a4,a5,-⟩:=all o ho α;have hD:∀ q∈D,∃ y,H q=some y:=fun q i=>by obtain⟨y,hy⟩:=a3 q i;rw[cC,if_neg (by rintro rfl; exact α i)] at hy;exact⟨y,hy⟩
 have β:∀ q,H q=none→q ∉ D:=fun q i δ=>by obtain⟨y,hy⟩:=hD q δ; rw[i] at hy; cases hy
 refine⟨vs,D,R,h1,h2,hD,a4,a5,fun u H' hR ε=>?_⟩;have step:∀ q,(H.over (H.only D) H') q=none→Hs.le ((H.over (H.only D) H').set q x)∧K (mk q) u ((H.over (H.only D) H').set q x):=by
  intro q i;obtain⟨l,γ⟩:=sd i;have J:=β q l;obtain⟨-,-,-,a6⟩:=all q l J;have:=a6 u H' hR fun p y hp h0=>by
   rw[cC];split
   ·rename_i e; subst e; rw[γ] at hp; cases hp
   ·exact ε p y hp h0
  rw[Fv x J γ] at this;exact this
 refine⟨?_,mk,x,hr,fun q i=>(step q i).2⟩;obtain⟨q,i⟩:=(H.over (H.only D) H').fresh;have l:=(step q i).1;intro p y hp;have:=l p y hp;rw[cC] at this;split at this
 ·rename_i e;subst e;have:=PH.le_none ζ (sd i).1;rw[hp] at this; cases this
 ·exact this
theorem Gx {r U:Option ((Nat→PV) × bX)} {K:PV→PV→PH→Prop} {si sj:Bool}
  (h:(Kind.new r).run C Hs S si (fun v H'=>(Kind.new U).run C Hs S sj (fun u i=>K v u i) H') H) :
  (Kind.new U).run C Hs S sj (fun u H'=>(Kind.new r).run C Hs S si (fun v i=>K v u i) H') H:=by
 obtain⟨mk,x,hr,h⟩:=h;obtain⟨o0,R⟩:=H.fresh;obtain⟨mk',x',l,-⟩:=h o0 R;refine⟨mk',x',l,fun q hq=>⟨mk,x,hr,fun o J=>?_⟩⟩;rw[PH.Gp] at J;obtain⟨α,x2,p,g⟩:=h o J.2;rw[l] at p;cases p;have:=g q (PH.Gp.2 ⟨Ne.symm J.1,hq⟩)
 rwa [PH.set_comm H x x' J.1] at this
theorem ux {f:PH→Option PV} {k:Kind} {K:PV→PV→PH→Prop} {J sj:Bool} (hf:vw f) (hk:k.Ok) (p:k.cls=2∨k.cls=3∨k.cls=4→J=true) (l:Hs.le H)
  (h:(Kind.calm f).run C Hs S J (fun v H'=>k.run C Hs S sj (fun u i=>K v u i) H') H) :
  k.run C Hs S sj (fun u H'=>(Kind.calm f).run C Hs S J (fun v i=>K v u i) H') H:=by
 obtain⟨v,R,h⟩:=h;cases hk with
 | fail=>exact h
 | @calm g hg=>obtain⟨u,hu,h⟩:=h; exact⟨u,hu,v,R,h⟩
 | new r =>
  obtain⟨mk,x,hr,h⟩:=h;refine⟨mk,x,hr,fun o ho=>⟨v,?_,h o ho⟩⟩;cases J
  ·exact hf.mono _ _ _ (PH.KG x ho) R
  ·exact R
 | write hw =>have:J=true:=p (.inl rfl);subst this;exact Kind.pT (.write hw) (fun u H' _ U=>⟨v,R,U⟩) l h
 | call name args =>have:J=true:=p (.inr (.inl rfl));subst this;exact Kind.pT (.call name args) (fun u H' _ U=>⟨v,R,U⟩) l h
 | ins r =>have:J=true:=p (.inr (.inr rfl));subst this;exact Kind.pT (.ins r) (fun u H' _ U=>⟨v,R,U⟩) l h
theorem uv {f:PH→Option PV} {k:Kind} {K:PV→PV→PH→Prop} {si sj:Bool} (hf:vw f) (hk:k.Ok) (α:k.cls=2∨k.cls=3∨k.cls=4→sj=true) (ζ:Hs.le H)
  (h:k.run C Hs S si (fun v H'=>(Kind.calm f).run C Hs S sj (fun u J=>K v u J) H') H) :
  (Kind.calm f).run C Hs S sj (fun u H'=>k.run C Hs S si (fun v J=>K v u J) H') H:=by
 cases hk with
 | fail=>exact h.elim
 | @calm g hg=>obtain⟨u,l,v,hv,h⟩:=h; exact⟨v,hv,u,l,h⟩
 | new r =>
  obtain⟨mk,x,hr,h⟩:=h;cases sj with
  | true =>obtain⟨o0,U⟩:=H.fresh;obtain⟨u,l,-⟩:=h o0 U;refine⟨u,l,mk,x,hr,fun o ho=>?_⟩;obtain⟨u',i,p⟩:=h o ho;simp only[if_true] at l i;rw[l] at i; cases i;exact p
  | false =>
   obtain⟨q,hq⟩:=hf.dep;obtain⟨o0,U,ε⟩:=H.mo [q];obtain⟨u,l,-⟩:=h o0 U;simp only[a0N,if_false] at l;have i:f H=some u:=by rw[← l];exact hq _ _ (by rw[cC,if_neg (by simpa using Ne.symm (fun e=>ε (by simp[e])))])
   refine⟨u,i,mk,x,hr,fun o ho=>?_⟩;obtain⟨u2,hu2,p⟩:=h o ho;simp only[a0N,if_false] at hu2;rw[hf.mono _ _ _ (PH.KG x ho) i] at hu2;cases hu2;exact p
 | @write w hw =>have:sj=true:=α (.inl rfl);subst this;obtain⟨_,_,_,u,l,_⟩:=hw.some _ _ h;refine⟨u,l,hw.mono _ _ _ (fun v H' hh=>⟨hh.1,?_⟩) h⟩;obtain⟨-,u',i,p⟩:=hh;simp only[if_true] at l i;rw[l] at i; cases i;exact p
 | call name args =>have:sj=true:=α (.inr (.inl rfl));subst this;obtain⟨vs,D,R,h1,h2,h3,h4,h5,h6⟩:=h;obtain⟨r0,H0,β,γ⟩:=h5 H;obtain⟨-,u,l,-⟩:=h6 r0 H0 β γ;refine⟨u,l,vs,D,R,h1,h2,h3,h4,h5,fun r H' hR δ=>?_⟩;obtain⟨g1,u',i,p⟩:=h6 r H' hR δ;simp only[if_true] at l i;rw[l] at i; cases i;exact⟨g1,p⟩
 | ins r =>have:sj=true:=α (.inr (.inr rfl));subst this;obtain⟨o,sh,key,v,g,h1,h2,h3,h4,u,l,p⟩:=h;exact⟨u,l,o,sh,key,v,g,h1,h2,h3,h4,p⟩
theorem Gw {r r':Option (Nat × MSh × List KS × PV)} {K:PV→PV→PH→Prop} {si sj:Bool}
  (h:(Kind.ins r).run C Hs S si (fun v H'=>(Kind.ins r').run C Hs S sj (fun u l=>K v u l) H') H) :
  (Kind.ins r').run C Hs S sj (fun u H'=>(Kind.ins r).run C Hs S si (fun v l=>K v u l) H') H:=by
 obtain⟨o,sh,key,v,g,h1,h2,h3,J,o',α,i,v',g',k1,k2,R,k4,hK⟩:=h;by_cases e:o'=o
 ·subst e;rw[cC,if_pos rfl] at k2;cases k2;have p:i≠key:=by rintro rfl;simp[iD.upd] at R
  have U:g i=none:=by simpa [iD.upd,p] using R
  refine⟨o',sh,i,v',g,k1,h2,U,J,o',sh,key,v,g.upd i v',h1,by rw[cC,if_pos rfl],by simp[iD.upd,Ne.symm p,h3],J,?_⟩;have:((H.set o' (.map sh (g.upd i v'))).set o' (.map sh ((g.upd i v').upd key v)))=((H.set o' (.map sh (g.upd key v))).set o' (.map sh ((g.upd key v).upd i v'))):=by
   refine PH.ext fun q=>?_;simp only[cC];split
   ·congr 2;funext k;simp only[iD.upd];by_cases h5:k=key<;>by_cases h6:k=i<;>simp_all
   ·rfl
  rw[this];exact hK
 ·rw[cC,if_neg e] at k2;refine⟨o',α,i,v',g',k1,k2,R,k4,o,sh,key,v,g,h1,by rw[cC,if_neg (Ne.symm e)]; exact h2,h3,J,?_⟩;rw[PH.set_comm H _ _ e];exact hK
def rC (a b:Nat) (i l:Bool):Bool :=
 match a,b with
 | 0,0 | 0,1 | 1,0 | 1,1 | 1,3 | 3,1 | 4,4=>true
 | 0,_=>i
 | _,0=>l
 | _,_=>false
theorem Wl {ki kj:Kind} {K:PV→PV→PH→Prop} {si sj:Bool} (hi:ki.Ok) (hj:kj.Ok) (i:rC ki.cls kj.cls si sj=true) (α:Hs.le H)
  (h:ki.run C Hs S si (fun v H'=>kj.run C Hs S sj (fun u J=>K v u J) H') H) :
  kj.run C Hs S sj (fun u H'=>ki.run C Hs S si (fun v J=>K v u J) H') H:=by
 by_cases U:ki.cls=0
 ·cases hi with
  | fail=>exact h.elim
  | calm hf =>refine ux hf hj (fun l=>?_) α h;rcases l with l | l | l<;>(rw[l] at i; simpa [rC,Kind.cls] using i)
  | new | write | call | ins=>simp[Kind.cls] at U
 ·by_cases p:kj.cls=0
  ·cases hj with
   | fail =>
    cases hi with
    | fail=>exact h
    | calm _=>simp[Kind.cls] at U
    | new r =>obtain⟨mk,x,-,h⟩:=h;obtain⟨o,ho⟩:=H.fresh;exact h o ho
    | write hw=>obtain⟨_,_,_,hh⟩:=hw.some _ _ h; exact hh
    | call name args =>obtain⟨vs,D,R,h1,h2,h3,h4,h5,h6⟩:=h;obtain⟨r0,H0,β,γ⟩:=h5 H;exact (h6 r0 H0 β γ).2
    | ins r =>obtain⟨o,sh,key,v,g,h1,h2,h3,h4,h5⟩:=h;exact h5
   | calm hf =>refine uv hf hi (fun l=>?_) α h;rcases l with l | l | l<;>(rw[l] at i; simpa [rC,Kind.cls] using i)
   | new | write | call | ins=>simp[Kind.cls] at p
  ·cases hi with
   | fail | calm=>simp[Kind.cls] at U
   | new r =>
    cases hj with
    | fail | calm=>simp[Kind.cls] at p
    | new r'=>exact Gx h
    | write=>simp[Kind.cls,rC] at i
    | call=>exact uy α h
    | ins=>simp[Kind.cls,rC] at i
   | write=>cases hj<;>simp[Kind.cls,rC] at i p
   | call =>
    cases hj with
    | fail | calm=>simp[Kind.cls] at p
    | new r'=>exact uw h
    | write=>simp[Kind.cls,rC] at i
    | call=>simp[Kind.cls,rC] at i
    | ins=>simp[Kind.cls,rC] at i
   | ins =>
    cases hj with
    | fail | calm=>simp[Kind.cls] at p
    | new r'=>simp[Kind.cls,rC] at i
    | write=>simp[Kind.cls,rC] at i
    | call=>simp[Kind.cls,rC] at i
    | ins=>exact Gw h
end
open Go Go.RowKit
def aR.apart (x y:aR):Bool :=
 (match x.dst with
  | some d=>!(y.bY).contains d&&y.dst != some d
  | none=>true) &&
 (match y.dst with
  | some d=>!(x.bY).contains d
  | none=>true)
theorem F9 {F:PF} {l:List Nat} {d:Option Nat} (v:PV) (h:∀ t,d=some t→t ∉ l):nC l (F.put d v) F:=by
 intro t i;cases d with
 | none=>rfl
 | some d =>
  have:t≠d:=by rintro rfl; exact h t rfl i
  simp only[PF.put,PF.set,upd,if_neg this]
theorem asS {F:PF} {d e:Option Nat} (v u:PV) (h:∀ t,d=some t→e≠some t):(F.put d v).put e u=(F.put e u).put d v:=by
 cases d with
 | none=>rfl
 | some d =>
  cases e with
  | none=>rfl
  | some e =>
   have i:d≠e:=by rintro rfl; exact h d rfl rfl
   exact awM F (some v) (some u) i
theorem apart_spec {x y:aR} (h:x.apart y=true):(∀ d,x.dst=some d→d ∉ y.bY)∧(∀ d,x.dst=some d→y.dst≠some d)∧(∀ d,y.dst=some d→d ∉ x.bY):=by
 refine⟨fun d i=>?_,fun d i=>?_,fun d i=>?_⟩<;>simp[aR.apart,i] at h
 ·exact h.1.1
 ·exact h.1.2
 ·exact h.2
def POp.cls:POp→Nat
 | .call .. | .aXA ..=>3
 | .insert ..=>4
 | op=>if op.fU then 1 else if op.dQ then 2 else 0
def arS (a b:Nat) (i l:Bool):Bool :=
 match a,b with
 | 0,0 | 0,1 | 1,0 | 1,1=>true
 | 4,4=>i&&l
 | 0,_=>i
 | _,0=>l
 | 1,3=>i
 | 3,1=>l
 | _,_=>false
def YP (x y:aR × Bool):Bool:=x.1.apart y.1&&arS x.1.op.cls y.1.op.cls x.2 y.2
section
variable {C:Ctx} {Hs:PH} {S:Spec} {H:PH} {F:PF}
theorem sa (op:POp) (F:PF):(op.kind F).cls=op.cls∨(op.kind F).cls=0:=by
 have i:(if op.fU then Kind.new (cL op F) else if op.dQ then .write (fun H K=>bS op F H K) else .calm (aN op F)).cls=(if op.fU then 1 else if op.dQ then 2 else 0):=by
  split
  ·rfl
  ·split<;>rfl
 cases op
 case call n az=>exact .inl rfl
 case aXA x az =>
  simp only[POp.kind];split
  ·exact .inl rfl
  ·exact .inr rfl
 case insert sh x k v=>exact .inl rfl
 all_goals exact .inl i
theorem nw (i:aR) (F:PF):(i.kind F).cls=i.op.cls∨(i.kind F).cls=0:=by
 unfold aR.kind;split
 ·exact sa _ _
 ·split
  ·split
   ·exact sa _ _
   ·exact .inr rfl
  ·exact .inr rfl
  ·exact .inr rfl
theorem aJO {a b i l:Nat} {p J:Bool} (h:arS a b p J=true) (R:i=a∨i=0) (U:l=b∨l=0):rC i l p J=true:=by
 unfold arS at h;split at h
 all_goals (rcases R with rfl | rfl<;>rcases U with rfl | rfl<;>simp_all [rC])
theorem Kind.auF {k:Kind} (hk:k.Ok) {st:Bool} {K:PV→PH→Prop} (i:k.run C Hs S st K H):∃ v H',K v H':=by
 cases hk with
 | fail=>exact i.elim
 | calm _=>obtain⟨v,p,l⟩:=i; exact⟨v,_,l⟩
 | new r=>obtain⟨mk,x,p,l⟩:=i; obtain⟨o,ho⟩:=H.fresh; exact⟨_,_,l o ho⟩
 | write hw=>obtain⟨v,H',h⟩:=hw.some _ _ i; exact⟨v,H',h.2⟩
 | call name args =>obtain⟨vs,D,R,p,l,J,U,h5,h6⟩:=i;obtain⟨r,H',a,b⟩:=h5 H;exact⟨_,_,(h6 r H' a b).2⟩
 | ins r =>obtain⟨o,sh,key,v,g,p,l,J,U,h5⟩:=i;exact⟨_,_,h5⟩
def rF (C:Ctx) (Hs:PH) (S:Spec) (i:aR × Bool) (K:PF→PH→Prop) (F:PF) (H:PH):Prop:=(i.1.kind F).run C Hs S i.2 (fun v H'=>K (F.put i.1.dst v) H') H
theorem tI {i:aR × Bool} {K K':PF→PH→Prop} (h:∀ p H',Hs.le H'→K p H'→K' p H') (l:Hs.le H) (J:rF C Hs S i K F H):rF C Hs S i K' F H :=
 Kind.pT (pR _ _) (fun v H' a b=>h _ _ a b) l J
theorem adV {i j:aR × Bool} {K:PF→PH→Prop} (J:YP i j=true) (p:Hs.le H) (h:rF C Hs S i (rF C Hs S j K) F H):rF C Hs S j (rF C Hs S i K) F H:=by
 simp only[YP,aYB] at J;obtain⟨h1,h2,h3⟩:=apart_spec J.1;unfold rF at h ⊢;have R:∀ v,j.1.kind (F.put i.1.dst v)=j.1.kind F:=fun v=>ZD (F9 v h1);have U:∀ v,i.1.kind (F.put j.1.dst v)=i.1.kind F:=fun v=>ZD (F9 v h3);simp only[R] at h;simp only[U];have:=Wl (K:=fun v u l=>K ((F.put i.1.dst v).put j.1.dst u) l) (pR i.1 F) (pR j.1 F) (aJO J.2 (nw _ _) (nw _ _)) p h;refine Kind.pT (pR j.1 F) (fun u H' a b=>?_) p this;refine Kind.pT (pR i.1 F) (fun v l _ c=>?_) a b;rw[asS v u h2] at c;exact c
inductive sU (ops:Array Oper):Nat→Nat→Prop
 | one {i j:Nat} {o:Oper} {e} (ho:ops[j]?=some o) (he:e∈o.after) (hb:Region.binds .any e=true) (hi:e.on=i):sU ops i j
 | step {i m j:Nat} {o:Oper} {e} (h:sU ops i m) (ho:ops[j]?=some o) (he:e∈o.after) (hb:Region.binds .any e=true) (hm:e.on=m):sU ops i j
def mZ (ops:Array Oper) (listed:Array Bool):Prop:=∀ j o,ops[j]?=some o→listed.getD j false=true→∀ e∈o.after,Region.binds .any e=true→listed.getD e.on false=true
theorem mZ.awL {ops:Array Oper} {listed:Array Bool} (R:mZ ops listed) {i j:Nat} (h:sU ops i j) (U:listed.getD j false=true):listed.getD i false=true:=by
 induction h with
 | one J p l hi=>subst hi; exact R _ _ J U _ p l
 | step h J p l hm ih=>subst hm; exact ih (R _ _ J U _ p l)
theorem mZ.qx {ops:Array Oper} {listed:Array Bool} (hc:mZ ops listed) {i j:Nat} (h:sU ops i j) (hi:listed.getD i false=false):j ∉ Region.ready .any ops listed:=by
 intro hj;rw[mem_ready] at hj;obtain⟨-,o,ho,p⟩:=hj;cases h with
 | one l R J U =>rw[ho] at l; cases l;subst U;rw[p _ R J] at hi; cases hi
 | step h l R J hm =>rw[ho] at l; cases l;subst hm;rw[hc.awL h (p _ R J)] at hi; cases hi
theorem mZ.set {ops:Array Oper} {listed:Array Bool} (hc:mZ ops listed) {i:Nat} (hi:i∈Region.ready .any ops listed):mZ ops (listed.setIfInBounds i true):=by
 intro j o ho hj e U R;by_cases p:j=i
 ·subst p;rw[mem_ready] at hi;obtain⟨-,o',J,l⟩:=hi;rw[ho] at J; cases J;exact getD_set_true (l e U R)
 ·rw[getD_set_ne false (Ne.symm p)] at hj;exact getD_set_true (hc j o ho hj e U R)
def vW (C:Ctx) (Hs:PH) (S:Spec) (ops:Array Oper) (il:List (aR × Bool)) (K:PF→PH→Prop):Nat→Array Bool→PF→PH→Prop
 | 0,listed,F,H=>Region.ready .any ops listed=[]∧K F H
 | fuel+1,listed,F,H=>(Region.ready .any ops listed=[]→K F H) ∧
  ∀ i∈Region.ready .any ops listed,∀ p,il[i]?=some p→rF C Hs S p (vW C Hs S ops il K fuel (listed.setIfInBounds i true)) F H
theorem Sz {ops:Array Oper} {il:List (aR × Bool)} {K:PF→PH→Prop} {i:Nat} {p:aR × Bool} (hp:il[i]?=some p) :
  ∀ (fuel:Nat) (listed:Array Bool) (F:PF) (H:PH),Hs.le H→mZ ops listed →
   (∀ j q,il[j]?=some q→j≠i→listed.getD j true=false→¬ sU ops i j→YP p q=true) →
   i∈Region.ready .any ops listed→rF C Hs S p (vW C Hs S ops il K fuel (listed.setIfInBounds i true)) F H→vW C Hs S ops il K (fuel+1) listed F H:=by
 intro fuel
 induction fuel with
 | zero =>
  intro listed F H R hc J hr h;refine⟨fun e=>(by rw[e] at hr; cases hr),fun j hj q hq=>?_⟩;by_cases l:j=i
  ·subst l; rw[hp] at hq; cases hq; exact h
  ·obtain⟨v,H',hh⟩:=Kind.auF (pR _ _) h;have:=ready_mono hj l;rw[hh.1] at this; cases this
 | succ fuel ih =>
  intro listed F H R hc J hr h;refine⟨fun e=>(by rw[e] at hr; cases hr),fun j hj q hq=>?_⟩;by_cases l:j=i
  ·subst l; rw[hp] at hq; cases hq; exact h
  ·have U:=(mem_ready.1 hr).1;have β:=(mem_ready.1 hj).1;have α:listed.getD i false=false:=by
    rcases aXZ i listed.size with h' | h'
    ·simp[h'] at U ⊢; exact U
    ·simp[Array.getElem?_eq_none h'] at U
   have η:¬ sU ops i j:=fun hb=>hc.qx hb α hj;have h1:rF C Hs S p (rF C Hs S q (vW C Hs S ops il K fuel ((listed.setIfInBounds i true).setIfInBounds j true))) F H :=
    tI (fun F' H' _ hh=>hh.2 j (ready_mono hj l) q hq) R h
   have h2:=adV (J j q hq l β η) R h1;refine tI (fun F' H' δ hh=>?_) R h2;refine ih (listed.setIfInBounds j true) F' H' δ (hc.set hj) (fun k r hk ζ ε θ=>J k r hk ζ ?_ θ) (ready_mono hr (Ne.symm l)) ?_
   ·by_cases γ:j=k
    ·subst γ; exact β
    ·rw[getD_set_ne true γ] at ε; exact ε
   ·rw[Array.setIfInBounds_comm _ _ l]; exact hh
def qQ (o:Oper):List Nat:=(o.after.toList.filter fun e=>Region.binds .any e).map (·.on)
def C9 (ms:List Nat) (ds:List Nat):Nat:=ds.foldl (fun s d=>s ||| (2 ^ d ||| ms.getD d 0)) 0
def uF:List Oper→List Nat→List Nat
 | [],i=>i
 | o::os,i=>uF os (i++[C9 i (qQ o)])
def gZ (ms:List Nat):Nat→List Oper→Bool
 | _,[]=>true
 | k,o::os=>(qQ o).all (·<k)&&ms.getD k 0==C9 ms (qQ o)&&gZ ms (k+1) os
def xY (ms:List Nat) (i:Nat) (p:aR × Bool):Nat→List (aR × Bool)→Bool
 | _,[]=>true
 | j,q::l=>((ms.getD j 0).testBit i||YP p q)&&xY ms i p (j+1) l
def vP (ms:List Nat):Nat→List (aR × Bool)→Bool
 | _,[]=>true
 | i,p::ps=>xY ms i p (i+1) ps&&vP ms (i+1) ps
def abE (ops:Array Oper) (il:List (aR × Bool)):Bool :=
 let ms:=uF ops.toList []
 gZ ms 0 ops.toList&&vP ms 0 il
theorem Da {ms:List Nat} {i:Nat}:∀ {ds:List Nat} {s:Nat},(ds.foldl (fun s d=>s ||| (2 ^ d ||| ms.getD d 0)) s).testBit i=true→s.testBit i=true∨∃ d∈ds,d=i∨(ms.getD d 0).testBit i=true
 | [],s,h=>.inl h
 | d::ds,s,h=>by
  rw[List.foldl_cons] at h;rcases Da h with h | ⟨e,he,h⟩
  ·rw[Nat.testBit_or,Nat.testBit_or,Nat.testBit_two_pow] at h;simp only[Bool.or_eq_true,decide_eq_true_eq] at h;rcases h with h | h | h
   ·exact .inl h
   ·exact .inr ⟨d,by simp,.inl h⟩
   ·exact .inr ⟨d,by simp,.inr h⟩
  ·exact .inr ⟨e,by simp[he],h⟩
theorem rB {ms:List Nat}:∀ {l:List Oper} {k j:Nat} {o:Oper},gZ ms k l=true→l[j]?=some o→(∀ d∈qQ o,d<k+j)∧ms.getD (k+j) 0=C9 ms (qQ o)
 | [],_,_,_,_,h=>by simp at h
 | o::os,k,j,o',h,i=>by
  simp only[gZ,aYB,aYF,decide_eq_true_eq,beq_iff_eq] at h;cases j with
  | zero=>simp only[List.getElem?_cons_zero,aZS.injEq] at i; subst i; exact⟨h.1.1,h.1.2⟩
  | succ j =>have:=rB h.2 (by simpa using i);rw[aZO,Nat.add_comm 1 j] at this;exact this
theorem PZ {ms:List Nat} {ops:Array Oper} (h:gZ ms 0 ops.toList=true) (i:Nat):∀ (n j:Nat),j<n→j<ops.size→(ms.getD j 0).testBit i=true→sU ops i j:=by
 intro n
 induction n with
 | zero=>intro j hj; omega
 | succ n ih =>
  intro j hj hlt l;have ho:ops.toList[j]?=some ops[j]:=by simp[hlt]
  have J:ops[j]?=some ops[j]:=by simp[hlt]
  obtain⟨R,U⟩:=rB h ho;rw[aYD] at R U;rw[U] at l;rcases Da l with l | ⟨d,hd,l⟩
  ·simp at l
  ·have α:=R d hd;simp only[qQ,aYH,List.mem_filter] at hd;obtain⟨e,⟨he,p⟩,rfl⟩:=hd;rcases l with rfl | l
   ·exact .one J (by simpa using he) p rfl
   ·exact .step (ih e.on Om Om l) J (by simpa using he) p rfl
theorem MP {ms:List Nat} {i:Nat} {p:aR × Bool}:∀ {l:List (aR × Bool)} {k j:Nat} {q:aR × Bool},xY ms i p k l=true→l[j]?=some q→(ms.getD (k+j) 0).testBit i=true∨YP p q=true
 | [],_,_,_,_,h=>by simp at h
 | x::xs,k,j,q,h,J=>by
  simp only[xY,aYB,Bool.or_eq_true] at h;cases j with
  | zero=>simp only[List.getElem?_cons_zero,aZS.injEq] at J; subst J; exact h.1
  | succ j =>have:=MP h.2 (by simpa using J);rw[aZO,Nat.add_comm 1 j] at this;exact this
theorem BU {ops:Array Oper} {il:List (aR × Bool)} {K:PF→PH→Prop} {ms:List Nat} (ι:il.length=ops.size) (ε:gZ ms 0 ops.toList=true) :
  ∀ (l:List (aR × Bool)) (k:Nat) (listed:Array Bool) (F:PF) (H:PH),(∀ j,l[j]?=il[k+j]?)→k+l.length=ops.size→listed.size=ops.size→(∀ j,j<ops.size→(listed.getD j true=true↔j<k))→vP ms k l=true→Hs.le H →
   wpD C Hs S l K F H→vW C Hs S ops il K l.length listed F H
 | [],k,listed,F,H,hl,hk,μ,i,_,δ,h=>by
  refine⟨?_,h⟩;cases hr:Region.ready .any ops listed with
  | nil=>rfl
  | cons x xs =>
   have hx:x∈Region.ready .any ops listed:=by rw[hr]; simp
   obtain⟨h0,o,ho,-⟩:=mem_ready.1 hx;have hlt:x<ops.size:=(a0M.1 ho).1;have:=(i x hlt).2 (by simp at hk; omega);rw[h0] at this; cases this
 | p::l,k,listed,F,H,hl,hk,μ,i,hB,δ,h=>by
  have hp:il[k]?=some p:=by simpa using (hl 0).symm
  have η:k<ops.size:=by simp at hk; omega
  simp only[vP,aYB] at hB;have ho:ops[k]?=some ops[k]:=by simp[η]
  have β:∀ j,j<ops.size→(listed.getD j false=listed.getD j true):=fun j hj=>by simp[show j<listed.size by omega]
  have σ:∀ j,j<ops.size→∀ e∈ops[j]!.after,True:=fun _ _ _ _=>trivial;have α:∀ j o,ops[j]?=some o→∀ e∈o.after,Region.binds .any e=true→e.on<j:=by
   intro j o hj e he R;have hlt:j<ops.size:=(a0M.1 hj).1;have:=(rB ε (j:=j) (o:=o) (by simpa using hj)).1 e.on (by simp only[qQ,aYH,List.mem_filter];exact⟨e,⟨by simpa using he,R⟩,rfl⟩)
   omega
  have U:k∈Region.ready .any ops listed:=by
   rw[mem_ready];refine⟨?_,_,ho,fun e he R=>?_⟩
   ·cases hh:listed.getD k true with
    | false=>rfl
    | true=>have:=(i k η).1 hh; omega
   ·have hd:=α k _ ho e he R;rw[β e.on Om];exact (i e.on Om).2 hd
  have J:mZ ops listed:=by intro j o hj κ e he R;have hlt:j<ops.size:=(a0M.1 hj).1;have hd:=α j o hj e he R;rw[β j hlt] at κ;have:=(i j hlt).1 κ;rw[β e.on Om];exact (i e.on Om).2 Om
  refine Sz hp l.length listed F H δ J (fun j q hq ξ ρ ν=>?_) U ?_
  ·have ζ:j<ops.size:=by have:=(aYP.1 hq).1;omega
   have γ:k<j:=by
    rcases Nat.lt_trichotomy j k with h' | h' | h'
    ·have:=(i j ζ).2 h';rw[ρ] at this; cases this
    ·exact (ξ h').elim
    ·exact h'
   have ο:l[j-(k+1)]?=some q:=by have:=hl (j-k);rw[show k+(j-k)=j by omega,hq,show j-k=(j-(k+1))+1 by omega] at this;simpa using this
   rcases MP hB.1 ο with R | R
   ·rw[show k+1+(j-(k+1))=j by omega] at R;exact (ν (PZ ε k (j+1) j Om ζ R)).elim
   ·exact R
  ·have h':rF C Hs S p (wpD C Hs S l K) F H:=h;refine tI (fun F' H' θ hh=>?_) δ h';refine BU ι ε l (k+1) _ F' H' (fun j=>?_) (by simp at hk; omega) (by simpa using μ) (fun j hj=>?_) hB.2 θ hh
   ·have:=hl (j+1);rw[show k+(j+1)=k+1+j by omega] at this;simpa using this
   ·by_cases γ:k=j
    ·subst γ;simp[show k<listed.size by omega]
    ·rw[getD_set_ne true γ,i j hj];omega
end
open Go Go.RowKit
def ze (ms cls:List Nat) (i:Nat):Bool :=
 cls.getD i 0 != 0||(aXQ cls.length).any fun j=>(cls.getD j 0==2||cls.getD j 0==3||cls.getD j 0==4)&&!(ms.getD j 0).testBit i&&!(ms.getD i 0).testBit j
def tL (ops:Array Oper) (l:List aR):List (aR × Bool) :=
 let ms:=uF ops.toList []
 let cls:=l.map fun i=>i.op.cls
 l.zip ((aXQ l.length).map (ze ms cls))
namespace Tbl
variable (T:Tbl)
def drawn (n:Nat) (ops:Array Oper):Option (List (aR × Bool)) :=
 match T.pD n ops ops.toList with
 | some i=>if T.P.follows .mixedOrders&&abE ops (tL ops i) then some (tL ops i) else none
 | none=>none
end Tbl
section
variable {ro:Option Nat} {fu:Nat} {ds:List Deferred} {C:Ctx} {Hs:PH} {S:Spec} {T:Tbl} {n:Nat}
section
variable {E:Env} {F:PF} {H:PH} {a:Act} {w:World}
theorem kU.after {i:Env} {H':PH} {l:World} {K:PF→PH→Prop} {next:Act→World→Prop} (h:kU ds n E H w K next) (U:Ext E H w i H' l):kU ds n i H' l K next :=
 fun p J H2 a2 w2 R hW hX hK=>h p J H2 a2 w2 R hW (U.trans hX) hK
theorem IE {t:Nat} {b:Bool} (l:cQ ds n E F a) (h:F t=some (.bool b)):a.tmps[t]?=some (.bool b):=by
 have r:=l.t t _ h;rw[a0V] at r;cases i:a.tmps[t]? with
 | none=>rw[i] at r; simp[undef] at r; cases r
 | some v=>rw[i] at r; simp at r; cases r; rfl
theorem DX {ops:Array Oper} {o:Oper} {i:aR} (h:T.OQ n ops o=some i):(T.op o=some i.op∨i.op=.stuck)∧o.dst=i.dst∧o.dst.all (·<n)=true ∧
  ((o.guard=none∧i.guard=none)∨∃ j l t,o.guard=some (j,l)∧i.guard=some (t,l)∧(ops[j]?).bind (·.dst)=some t):=by
 unfold Tbl.OQ at h;have U:T.op o=some ((T.op o).getD .stuck)∨(T.op o).getD .stuck=.stuck:=by
  cases T.op o
  ·exact .inr rfl
  ·exact .inl rfl
 ·generalize (T.op o).getD .stuck=p at *
  split at h
  ·rename_i R;split at h
   ·rename_i J;cases h;exact⟨U,rfl,R,.inl ⟨J,rfl⟩⟩
   ·rename_i j l J;split at h
    ·rename_i t ht;cases h;exact⟨U,rfl,R,.inr ⟨j,l,t,J,rfl,ht⟩⟩
    ·cases h
  ·cases h
theorem AL {ops:Array Oper} {o:Oper} {j t:Nat} {i b:Bool} (p:o.guard=some (j,i)) (J:(ops[j]?).bind (·.dst)=some t) (l:a.tmps[t]?=some (.bool b)):Region.wanted o (yielded ops a.tmps)=(b==i):=by
 simp[Region.wanted,p,yielded,J,l]
end
theorem sE {E:Env}:aU E (.tup []) undef:=.tup #[] rfl (by simp)
theorem NA {n:Nat} {E:Env} {F:PF} {a:Act} {t:Nat} (i:cQ ds n E F a) (h:F t=some (.tup [])):a.tmps.getD t undef=undef:=by
 have:=i.t t _ h;generalize a.tmps.getD t undef=v at this;cases this with
 | tup vs l p =>
  have:vs=#[]:=by simpa using l
  subst this; rfl
theorem wU {ops:Array Oper} {a:Act} {o:Oper} {j t:Nat} {i:Bool} (p:o.guard=some (j,i)) (J:(ops[j]?).bind (·.dst)=some t) (l:a.tmps.getD t undef=undef):Region.wanted o (yielded ops a.tmps)=false:=by
 simp only[Region.wanted,p,yielded,J];rw[a0V] at l;cases h:a.tmps[t]? with
 | none=>simp[h]
 | some v =>rw[h] at l;simp only[a0I] at l;subst l;simp[h,undef]
theorem qE {C:Ctx} {E:Env} {F:PF} {H:PH} {a:Act} {w:World} (l:C.P=T.P) (i:C.num=T.num) {o:Oper} {p:POp} {d:Option Nat} {K:PF→PH→Prop} {Q:Exit→Act→World→Prop} {next:Act→World→Prop} (J:T.op o=some p∨p=.stuck) (hd:o.dst=d) (hlt:o.dst.all (·<n)=true)
  (h:wpOp C p d K F H) (R:cQ ds n E F a) (hW:bE E H w) (U:E.num=T.num) (aWU:kU ds n E H w K next):o.wpIn (Fz ro) fu T.P a w next Q:=by
 rcases J with J | rfl
 ·exact asN l i J hd hlt h R hW U aWU
 ·obtain⟨v,hv,-⟩:=h;cases hv
theorem OZ (H:PH) (D:List Nat):(H.only D).le H:=by
 intro o x i;rw[qD] at i;split at i
 ·exact i
 ·cases i
theorem GA {op:POp} {F:PF} {H:PH} {st:Bool} {d:Option Nat} {K:PF→PH→Prop} (α:Hs.le H) (h:(op.kind F).run C Hs S st (fun v H'=>K (F.put d v) H') H):wpOp C op d K F H:=by
 have U:(if op.fU then Kind.new (cL op F) else if op.dQ then .write (fun H K=>bS op F H K) else .calm (aN op F)).run C Hs S st (fun v H'=>K (F.put d v) H') H →
   (if op.fU then lL (cL op F) d K F H else if op.dQ then bS op F H (fun r H'=>K (F.put d r) H') else bN (aN op F H) d K F H):=by
  intro h;by_cases l:op.fU=true
  ·rw[if_pos l] at h ⊢; exact h
  ·rw[if_neg l] at h ⊢;by_cases J:op.dQ=true
   ·rw[if_pos J] at h ⊢;have h':bS op F H fun r H'=>Hs.le H'∧K (F.put d r) H':=h;exact wZ (fun v H' hh=>hh.2) h'
   ·rw[if_neg J] at h ⊢;obtain⟨v,hv,hK⟩:=h;refine⟨v,?_,hK⟩;cases st
    ·exact hv
    ·exact cl α hv
 have i:∀ name p,(Kind.call name p).run C Hs S st (fun v H'=>K (F.put d v) H') H→qK C name p d K F H:=by intro name p h;obtain⟨vs,D,R,l,J,h3,h4,h5,h6⟩:=h;exact⟨vs,H.only D,R (H.only D),l,OZ H D,h4,fun r H' a b=>(h6 r H' a b).2⟩
 cases op
 case call name az=>exact .inl (by simpa using i _ _ h)
 case aXA x az =>
  simp only[POp.kind] at h;split at h
  ·rename_i name cs hx;show sI C (x.ev F) az d K F H;rw[hx];exact .inl (i _ _ h)
  ·exact h.elim
 case insert sh x k v =>
  obtain⟨o,γ,key,vv,g,l,J,h3,-,h5⟩:=h;show bS (.insert sh x k v) F H (fun r H'=>K (F.put d r) H');split at l
  ·rename_i o' kv δ e1 e2 e3;simp only[aXO,Prod.mk.injEq] at l;obtain⟨β,e4,rfl,rfl,rfl,rfl⟩:=l;simp only[bS,e1,e2,e3,J,e4];exact⟨trivial,h3,h5⟩
  ·cases l
 all_goals exact U h
theorem jp (ζ:C.P=T.P) (ε:C.num=T.num) {ops:Array Oper} {is:List aR} {fl:List Bool} (ξ:fl.length=is.length) (ν:∀ (i:Nat) o,ops[i]?=some o→∃ p,is[i]?=some p∧T.OQ n ops o=some p)
  {K:PF→PH→Prop} {Q:Exit→Act→World→Prop} :
  ∀ (fuel:Nat) (listed:Array Bool) (E:Env) (F:PF) (H:PH) (a:Act) (w:World),vW C Hs S ops (is.zip fl) K fuel listed F H→Hs.le H→cQ ds n E F a→bE E H w→E.num=T.num→kU ds n E H w K (Q .normal) →
   wpAnyIn (Fz ro) fu T.P .any ops Q fuel listed a w:=by
 intro fuel
 induction fuel with
 | zero=>intro listed E F H a w h β J hW hN hT; exact⟨h.1,hT E F H a w J hW (.refl E H w) h.2⟩
 | succ fuel ih =>
  intro listed E F H a w h β J hW hN hT;refine⟨fun e=>hT E F H a w J hW (.refl E H w) (h.1 e),fun i hi=>?_⟩;obtain⟨-,o,ho,-⟩:=mem_ready.1 hi;obtain⟨p,hp,μ⟩:=ν i o ho;have hlt:i<is.length:=(aYP.1 hp).1;have hz:(is.zip fl)[i]?=some (p,fl[i]'Om):=by rw[List.getElem?_zip_eq_some];exact⟨hp,by simp⟩
  have η:=h.2 i hi _ hz;obtain⟨θ,hd,U,hg⟩:=DX μ;have R:kU ds n E H w (fun F' H'=>Hs.le H'∧vW C Hs S ops (is.zip fl) K fuel (listed.setIfInBounds i true) F' H') (wpAnyIn (Fz ro) fu T.P .any ops Q fuel (listed.setIfInBounds i true)) :=
   fun E' F' H' a' w' ι κ hE hK=>ih _ E' F' H' a' w' hK.2 hK.1 ι κ (hE.env.num.trans hN) (hT.after hE)
  have l:=tI (K':=fun F' H'=>Hs.le H'∧vW C Hs S ops (is.zip fl) K fuel (listed.setIfInBounds i true) F' H') (fun F' H' x y=>⟨x,y⟩) β η;unfold rF aR.kind at l;unfold Go.wpOpIn;simp only[ho];rcases hg with ⟨α,δ⟩ | ⟨j,want,t,α,δ,ht⟩
  ·rw[if_pos (by simp[Region.wanted,α])];simp only[δ] at l;exact (qE ζ ε θ hd U (GA β l) J hW hN R)
  ·simp only[δ] at l;split at l
   ·rename_i b hb;rw[AL α ht (IE J hb)];split at l
    ·rename_i γ;rw[if_pos (by simp[γ])];exact (qE ζ ε θ hd U (GA β l) J hW hN R)
    ·rename_i γ;rw[if_neg (by simpa using γ)];obtain⟨v,hv,hK⟩:=l;cases hv;exact⟨fun _ _=>trivial,R E _ H _ w (by rw[← hd]; exact J.put U sE) hW (.refl E H w) hK⟩
   ·rename_i hb;rw[wU α ht (NA J hb),if_neg (by simp)];obtain⟨v,hv,hK⟩:=l;cases hv;exact⟨fun _ _=>trivial,R E _ H _ w (by rw[← hd]; exact J.put U sE) hW (.refl E H w) hK⟩
   ·exact l.elim
theorem KD {ops:Array Oper}:∀ {l:List Oper} {R:List aR},T.pD n ops l=some R→R.length=l.length∧∀ (i:Nat) o,l[i]?=some o→∃ p,R[i]?=some p∧T.OQ n ops o=some p
 | [],R,h=>by simp[Tbl.pD] at h; subst h;exact⟨rfl,fun i o h=>by simp at h⟩
 | o::l,R,h=>by
  simp only[Tbl.pD] at h;split at h
  ·rename_i p ps hp U;cases h;obtain⟨h1,h2⟩:=KD U;refine⟨by simp[h1],fun i o' J=>?_⟩;cases i with
   | zero=>simp at J; subst J; exact⟨p,rfl,hp⟩
   | succ i=>obtain⟨q,a,b⟩:=h2 i o' (by simpa using J); exact⟨q,by simpa using a,b⟩
  ·cases h
theorem To (γ:C.P=T.P) (β:C.num=T.num) {id:Nat} {ops:Array Oper} {il:List (aR × Bool)} (l:T.drawn n ops=some il) {K:PF→PH→Prop} {Q:Exit→Act→World→Prop} {E:Env} {F:PF} {H:PH} {a:Act} {w:World}
  (h:∃ Hs S,PH.le Hs H∧wpD C Hs S il K F H) (hA:cQ ds n E F a) (hW:bE E H w) (hN:E.num=T.num) (hT:kU ds n E H w K (Q .normal)):(Code.region id ops true).wpIn (Fz ro) fu T.P Q a w:=by
 obtain⟨Hs,S,U,h⟩:=h;unfold Tbl.drawn at l;split at l
 ·rename_i is ε;split at l
  ·rename_i p;cases l;simp only[aYB,abE] at p;obtain⟨hm,ζ,η⟩:=p;obtain⟨α,δ⟩:=KD ε;have J:is.length=ops.size:=by simpa using α
   refine wpIn_region_any hm ?_;have R:(tL ops is).length=ops.size:=by simp[tL,J]
   have h':=BU (C:=C) (Hs:=Hs) (S:=S) (K:=K) R ζ (tL ops is) 0 (aZE ops.size false) F H (by simp) (by simp[R]) (by simp) (fun j hj=>by simp[hj]) η U h;rw[R] at h';exact jp γ β (by simp) (fun i o ho=>δ i o (by simpa using ho)) ops.size _ E F H a _ h' U hA hW.drew hN (fun E' F' H' a' w' g1 g2 g3 g4=>hT E' F' H' a' w' g1 g2 g3.jb g4)
  ·cases l
 ·cases l
end
end Go.PM
namespace Go.PM
open Go Go.RowKit
def POp.aIW:POp→Bool
 | .load .. | .lookup .. | .aWM ..=>true
 | _=>false
def POp.aBG:POp→Bool
 | .store ..=>true
 | _=>false
def da (ms:List Nat) (m n:Nat):Bool:=(aXQ n).all fun j=>decide (j<m)||(aXQ m).all fun i=>(ms.getD j 0).testBit i
def cutAt (ms:List Nat) (l:List aR):Option Nat :=
 let cls:=l.map fun i=>i.op.cls
 (aXQ l.length).find? fun m=>(match l[m]? with | some i=>i.op.aBG&&i.guard.isNone | none=>false)&&da ms m l.length&&(aXQ m).any fun i=>match l[i]? with | some x=>x.op.aIW&&ze ms cls i | none=>false
def kE (ms:List Nat) (k:Nat) (l:List aR):List (aR × Bool) :=
 let cls:=l.map fun i=>i.op.cls
 l.zip ((aXQ l.length).map (ze (ms.drop k |>.map (· >>> k)) cls))
namespace Tbl
variable (T:Tbl)
def yg (n:Nat) (ops:Array Oper):Option aA :=
 match T.pD n ops ops.toList with
 | some i =>
  let ms:=uF ops.toList []
  match cutAt ms i with
  | none=>(T.drawn n ops).map .draw
  | some m =>
   let A:=kE ms 0 (i.take m)
   let B:=kE ms m (i.drop m)
   if T.P.follows .mixedOrders&&gZ ms 0 ops.toList&&da ms m i.length&&vP ms 0 A&&vP ms m B then some (.seq (.draw A) (.draw B)) else none
 | none=>none
def code (n:Nat):Code→Option aA
 | .skip=>some .skip
 | .region _ ops d=>if d then T.yg n ops else (T.pD n ops ops.toList).map .region
 | .seq a b=>match code n a,code n b with
  | some a,some b=>some (.seq a b)
  | _,_=>none
 | .cond c a b=>match T.opd c,code n a,code n b with
  | some c,some a,some b=>some (.cond c a b)
  | _,_,_=>none
 | .block id c=>(code n c).map (.block id)
 | .loop c=>(code n c).map .loop
 | .exit id=>some (.exit id)
 | .ret=>some .ret
 | .scope c=>code n c
 | .label _=>some .skip
 | _=>none
end Tbl
theorem KM {ms:List Nat}:∀ {l:List Oper} {k m:Nat},gZ ms k l=true→gZ ms k (l.take m)=true
 | [],_,_,_=>by simp[gZ]
 | o::l,k,0,_=>by simp[gZ]
 | o::l,k,m+1,h=>by simp only[gZ,aYB,List.take_succ_cons] at h ⊢;exact⟨h.1,KM h.2⟩
theorem sL {listed:Array Bool} {m f i:Nat} {d:Bool} (l:listed.size=m) (h:i<m):(listed++aZE f false).getD i d=listed.getD i d:=by
 simp only[a0V];rw[Array.getElem?_append_left Om]
section
variable {ro:Option Nat} {fu:Nat} {ds:List Deferred} {C:Ctx} {Hs:PH} {S:Spec} {T:Tbl} {n:Nat}
theorem aCI {ops:Array Oper} {m i:Nat} (l:m≤ops.size):(ops.extract 0 m)[i]?=if i<m then ops[i]? else none:=by
 rw[Array.getElem?_extract];split
 ·rename_i h; rw[if_pos Om]; simp
 ·rename_i h; rw[if_neg Om]
theorem Vj {ops:Array Oper} {ms:List Nat} {m:Nat} (hm:m≤ops.size) (U:gZ ms 0 ops.toList=true) (ht:da ms m ops.size=true) {listed:Array Bool} {f:Nat} (hs:listed.size=m) (hf:m+f=ops.size) (hc:mZ ops (listed++aZE f false))
  (β:∃ i,i<m∧listed.getD i true=false) {i:Nat} (hi:i∈Region.ready .any ops (listed++aZE f false)):i<m∧i∈Region.ready .any (ops.extract 0 m) listed:=by
 obtain⟨h0,o,ho,p⟩:=mem_ready.1 hi;have R:i<ops.size:=(a0M.1 ho).1;have l:i<m:=by
  rcases aXZ i m with h | h
  ·exact h
  ·exfalso;obtain⟨u,hu,α⟩:=β;have hb:(ms.getD i 0).testBit u=true:=by have:=aYF.1 ht i (aYV.2 R);rw[decide_eq_false Om,Bool.false_or] at this;exact aYF.1 this u (aYV.2 hu)
   have J:=PZ U u (i+1) i Om R hb;refine hc.qx J ?_ hi;rw[sL hs hu];have:u<listed.size:=Om;simp[this] at α ⊢;exact α
 refine⟨l,mem_ready.2 ⟨?_,o,by rw[aCI hm,if_pos l]; exact ho,fun e he hb=>?_⟩⟩
 ·rw[sL hs l] at h0; exact h0
 ·have hd:=(rB U (j:=i) (o:=o) (by simpa using ho)).1 e.on (by simp only[qQ,aYH,List.mem_filter];exact⟨e,⟨by simpa using he,hb⟩,rfl⟩);have:=p e he hb;rw[sL hs Om] at this;exact this
theorem J6 {ops:Array Oper} {ms:List Nat} (p:gZ ms 0 ops.toList=true) {listed:Array Bool} (hs:listed.size=ops.size):∀ (u:Nat),u<ops.size→listed.getD u true=false→∃ i,i∈Region.ready .any ops listed:=by
 intro u
 induction u using Nat.strongRecOn with
 | ind u ih =>
  intro R hl;by_cases h:∃ w,w<u∧listed.getD w true=false
  ·obtain⟨w,hw,J⟩:=h;exact ih w hw Om J
  ·refine⟨u,mem_ready.2 ⟨hl,ops[u],by simp[R],fun e he U=>?_⟩⟩;have hd:=(rB p (j:=u) (o:=ops[u]) (by simp[R])).1 e.on (by simp only[qQ,aYH,List.mem_filter];exact⟨e,⟨by simpa using he,U⟩,rfl⟩)
   have hlt:e.on<u:=Om;cases l:listed.getD e.on true with
   | false=>exact (h ⟨e.on,hlt,l⟩).elim
   | true =>have:e.on<listed.size:=Om;simp[this] at l ⊢;exact l
def unl (listed:Array Bool):Nat:=listed.toList.countP fun b=>!b
theorem awK {listed:Array Bool} {m:Nat} (p:listed.size=m) (h:unl listed=0):listed=aZE m true:=by
 apply Array.ext
 ·simp[p]
 ·intro i J R;have:listed[i]∈listed.toList:=by simp
  have l:=List.countP_eq_zero.1 h _ this;simpa using l
theorem aFP {listed:Array Bool} {i:Nat} (h:listed.getD i true=false):unl (listed.setIfInBounds i true)+1=unl listed:=by
 have hi:i<listed.size:=by
  rcases aXZ i listed.size with p | p
  ·exact p
  ·simp[Array.getElem?_eq_none p] at h
 have R:listed[i]=false:=by simpa [hi] using h
 unfold unl;rw[Array.toList_setIfInBounds];have l:i<listed.toList.length:=by simpa using hi
 have J:listed.toList[i]=false:=by simpa using R
 conv=>rhs; rw[← a0E i listed.toList,aZG l,J]
 rw[List.set_eq_take_append_cons_drop,if_pos l,List.countP_append,List.countP_append,List.countP_cons,List.countP_cons];simp only[aXW,aYJ,if_true,a0N,if_false];omega
theorem aFO {listed:Array Bool} {k:Nat} (h:unl listed=k+1):∃ u,u<listed.size∧listed.getD u true=false:=by
 have l:0<listed.toList.countP fun b=>!b:=by unfold unl at h; omega
 obtain⟨b,p,J⟩:=List.countP_pos_iff.1 l;obtain⟨u,R,rfl⟩:=aYZ p;have i:u<listed.size:=by simpa using R
 exact⟨u,i,by simpa [i] using J⟩
theorem Jw (ζ:C.P=T.P) (ε:C.num=T.num) {ops:Array Oper} {ms:List Nat} {m f:Nat} {A:List (aR × Bool)} (hm:m≤ops.size) (hf:m+f=ops.size) (ι:gZ ms 0 ops.toList=true) (ht:da ms m ops.size=true)
  (τ:∀ (i:Nat) o,i<m→ops[i]?=some o→∃ p b,A[i]?=some (p,b)∧T.OQ n ops o=some p) {KA:PF→PH→Prop} {Q:Exit→Act→World→Prop} :
  ∀ (fuel:Nat) (listed:Array Bool) (E:Env) (F:PF) (H:PH) (a:Act) (w:World),vW C Hs S (ops.extract 0 m) A KA fuel listed F H→listed.size=m→mZ ops (listed++aZE f false)→unl listed=fuel→Hs.le H→cQ ds n E F a→bE E H w→E.num=T.num →
   kU ds n E H w KA (wpAnyIn (Fz ro) fu T.P .any ops Q f (aZE m true++aZE f false))→wpAnyIn (Fz ro) fu T.P .any ops Q (fuel+f) (listed++aZE f false) a w:=by
 intro fuel
 induction fuel with
 | zero =>intro listed E F H a w h hs hc hu α hA hW hN hT;rw[awK hs hu,aYD];exact hT E F H a w hA hW (.refl E H w) h.2
 | succ fuel ih =>
  intro listed E F H a w h hs hc hu α hA hW hN hT;obtain⟨u,χ,hu2⟩:=aFO hu;have φ:∃ i,i<m∧listed.getD i true=false:=⟨u,by omega,hu2⟩;rw[show fuel+1+f=(fuel+f)+1 by omega];refine⟨fun e=>?_,fun i hi=>?_⟩
  ·obtain⟨i,hi⟩:=J6 ι (listed:=listed++aZE f false) (by simp; omega) u Om (by rw[sL hs Om]; exact hu2);rw[e] at hi; cases hi
  obtain⟨ρ,θ⟩:=Vj hm ι ht hs hf hc φ hi;obtain⟨-,o,ho,-⟩:=mem_ready.1 hi;have υ:=(mem_ready.1 θ).1;obtain⟨p,b,hz,σ⟩:=τ i o ρ ho;have κ:=h.2 i θ _ hz;obtain⟨μ,hd,R,hg⟩:=DX σ;have ν:(listed++aZE f false).setIfInBounds i true=listed.setIfInBounds i true++aZE f false:=by
   apply Array.ext
   ·simp
   ·intro j h1 h2;rw[Array.getElem_setIfInBounds (by simpa using h1)];by_cases δ:i=j
    ·subst δ;rw[if_pos rfl,Array.getElem_append_left (by simp; omega),Array.getElem_setIfInBounds Om,if_pos rfl]
    ·rw[if_neg δ];rcases aXZ j listed.size with hj | hj
     ·rw[Array.getElem_append_left hj,Array.getElem_append_left (by simpa using hj),Array.getElem_setIfInBounds Om,if_neg δ]
     ·rw[Array.getElem_append_right hj,Array.getElem_append_right (by simpa using hj)];simp
  have η:=hc.set hi;rw[ν] at η ⊢;have ψ:=aFP υ;have J:kU ds n E H w (fun F' H'=>Hs.le H'∧vW C Hs S (ops.extract 0 m) A KA fuel (listed.setIfInBounds i true) F' H') (wpAnyIn (Fz ro) fu T.P .any ops Q (fuel+f) (listed.setIfInBounds i true++aZE f false)) :=
   fun E' F' H' a' w' ξ ο hE hK=>ih _ E' F' H' a' w' hK.2 (by simpa using hs) η Om hK.1 ξ ο (hE.env.num.trans hN) (hT.after hE)
  have l:=tI (K':=fun F' H'=>Hs.le H'∧vW C Hs S (ops.extract 0 m) A KA fuel (listed.setIfInBounds i true) F' H') (fun F' H' x y=>⟨x,y⟩) α κ;unfold rF aR.kind at l;unfold Go.wpOpIn;simp only[ho];rcases hg with ⟨U,γ⟩ | ⟨j,want,t,U,γ,ht⟩
  ·rw[if_pos (by simp[Region.wanted,U])];simp only[γ] at l;exact (qE ζ ε μ hd R (GA α l) hA hW hN J)
  ·simp only[γ] at l;split at l
   ·rename_i b hb;rw[AL U ht (IE hA hb)];split at l
    ·rename_i β;rw[if_pos (by simp[β])];exact (qE ζ ε μ hd R (GA α l) hA hW hN J)
    ·rename_i β;rw[if_neg (by simpa using β)];obtain⟨v,hv,hK⟩:=l;cases hv;exact⟨fun _ _=>trivial,J E _ H _ w (by rw[← hd]; exact hA.put R sE) hW (.refl E H w) hK⟩
   ·rename_i hb;rw[wU U ht (NA hA hb),if_neg (by simp)];obtain⟨v,hv,hK⟩:=l;cases hv;exact⟨fun _ _=>trivial,J E _ H _ w (by rw[← hd]; exact hA.put R sE) hW (.refl E H w) hK⟩
   ·exact l.elim
theorem Jh (β:C.P=T.P) (α:C.num=T.num) {id:Nat} {ops:Array Oper} {pc:aA} (l:T.yg n ops=some pc) {K:bT} {Q:Exit→Act→World→Prop} {E:Env} {F:PF} {H:PH} {a:Act} {w:World}
  (h:pc.wp C K F H) (hA:cQ ds n E F a) (hW:bE E H w) (hN:E.num=T.num) (hT:kU ds n E H w (K .normal) (Q .normal)):(Code.region id ops true).wpIn (Fz ro) fu T.P Q a w:=by
 unfold Tbl.yg at l;split at l
 ·rename_i is ω;simp only at l;split at l
  ·rw[aXO] at l;obtain⟨il,χ,rfl⟩:=l;exact To β α χ h hA hW hN hT
  ·rename_i m ι;split at l
   ·rename_i J;cases l;simp only[aYB] at J;obtain⟨⟨⟨⟨Δ,δ⟩,ο⟩,Θ⟩,Λ⟩:=J;obtain⟨ν,θ⟩:=KD ω;have γ:is.length=ops.size:=by simpa using ν
    rw[γ] at ο;obtain⟨Hs,S,μ,h⟩:=h;have Φ:m<ops.size:=by have:=List.mem_of_find?_eq_some ι;rw[aYV] at this; omega
    have lA:(kE (uF ops.toList []) 0 (is.take m)).length=m:=by simp[kE]; omega
    have lB:(kE (uF ops.toList []) m (is.drop m)).length=ops.size-m:=by simp[kE]; omega
    generalize ζ:kE (uF ops.toList []) 0 (is.take m)=A at *
    generalize τ:kE (uF ops.toList []) m (is.drop m)=B at *
    generalize b':uF ops.toList []=ms at *
    refine wpIn_region_any Δ ?_;have ε:(ops.extract 0 m).size=m:=by simp; omega
    have ξ:gZ ms 0 (ops.extract 0 m).toList=true:=by rw[show (ops.extract 0 m).toList=ops.toList.take m by simp];exact KM δ
    have h1:=BU (C:=C) (Hs:=Hs) (S:=S) (K:=fZ C ((aA.draw B).wp C) K .normal) (ops:=ops.extract 0 m) (il:=A) (ms:=ms) (by rw[lA,ε]) ξ A 0 (aZE m false) F H (by simp) (by rw[ε]; omega) (by simp; omega) (fun j hj=>by rw[ε] at hj; simp[hj]) Θ μ h;rw[lA] at h1;have key:=Jw (ro:=ro) (fu:=fu) (n:=n) β α (f:=ops.size-m) Om Om δ ο (fun i o Ψ ho=>?_) (Q:=Q) m (aZE m false) E F H a _ h1 (by simp) ?_ ?_ μ hA hW.drew hN ?_
    ·rw[show m+(ops.size-m)=ops.size by omega] at key;have e:aZE m false++aZE (ops.size-m) false=aZE ops.size false:=by rw[Array.replicate_append_replicate,show m+(ops.size-m)=ops.size by omega]
     rw[e] at key;exact key
    ·obtain⟨p,hp,ψ⟩:=θ i o (by simpa using ho);have c':=(aYP.1 hp).1;have φ:i<A.length:=Om;refine⟨p,A[i].2,?_,ψ⟩;rw[aXT φ];congr 1;refine Prod.ext ?_ rfl;subst ζ;have Ξ:is[i]=p:=(aYP.1 hp).2;simp[kE,Ξ]
    ·intro j o hj hl;exfalso;have Γ:j<ops.size:=(a0M.1 hj).1;have e:aZE m false++aZE (ops.size-m) false=aZE ops.size false:=by rw[Array.replicate_append_replicate,show m+(ops.size-m)=ops.size by omega]
     rw[e] at hl;simp[Γ] at hl
    ·unfold unl;simp[List.countP_replicate]
    ·intro E' F' H' a' w' σ υ hE hK;obtain⟨ρ,S2,U,h2⟩:=hK;have hz:(A++B).length=ops.size:=by rw[aXN]; omega
     have h3:=BU (C:=C) (Hs:=ρ) (S:=S2) (K:=K .normal) (ops:=ops) (il:=A++B) (ms:=ms) hz δ B m (aZE m true++aZE (ops.size-m) false) F' H' (fun j=>by rw[aZY Om]; congr 1; omega) Om (by simp; omega) (fun j hj=>by
      simp only[a0V,Array.getElem?_append,Array.size_replicate,Array.getElem?_replicate];by_cases R:j<m
      ·simp[R]
      ·simp[R,show j-m<ops.size-m by omega]) Λ U h2
     rw[lB] at h3;have η:A++B=is.zip ((A++B).map (·.2)):=by
      refine List.ext_getElem? fun j=>?_;rcases aXZ j ops.size with hj | hj
      ·have κ:j<(A++B).length:=Om;have Ω:j<is.length:=Om;rw[aXT κ,aXT (by simp; omega),List.getElem_zip,aZH];congr 1;refine Prod.ext ?_ rfl;simp only;rcases aXZ j m with R | R
       ·rw[List.getElem_append_left Om];subst ζ;simp[kE]
       ·rw[a1A Om];subst τ;have:m+(j-A.length)=j:=Om;simp[kE,this]
      ·rw[aYT Om,aYT (by simp; omega)]
     rw[η] at h3;exact jp β α (by simp; omega) (fun i o ho=>θ i o (by simpa using ho)) (ops.size-m) _ E' F' H' a' w' h3 U σ υ (hE.env.num.trans hN) (fun E3 F3 H3 a3 w3 g1 g2 g3 g4=>hT E3 F3 H3 a3 w3 g1 g2 (hE.trans g3).jb g4)
   ·cases l
 ·cases l
end
end Go.PM
namespace Go.PM
open Go Go.RowKit
def kL.out:kL→Exit
 | .normal=>.normal
 | .exit id=>.exit id
 | .ret=>.ret
theorem mO {P:Program} {b:Frame} {a:Act} {k:List Item} {cs:List Frame} {w:World} {c:Code}:step P (lone (b.atR a (.code (.scope c)::k)) cs w)=.next (lone (b.atR a (.code c::.inScope c::k)) cs w) :=
 step_lone_go (by simp[stepG,stepG.exec,Frame.atR])
theorem uu {P:Program} {b:Frame} {a:Act} {k:List Item} {cs:List Frame} {w:World} {c:Code}:step P (lone (b.atR a (.inScope c::k)) cs w)=.next (lone (b.atR a k) cs w) :=
 step_lone_go (by simp[stepG,stepG.exec,Frame.atR])
theorem Ym {F:Fence} {n:Nat} {P:Program} {Q:Exit→Act→World→Prop} {a:Act} {w:World} {c:Code} (h:c.wpIn F n P (Exit.noGoto Q) a w):(Code.scope c).wpIn F n P Q a w:=by
 intro b k cs β hb hr;have p:(lone (b.atR a (.code (.scope c)::k)) cs w).fenced P F:=fenced_calm hb hr rfl;obtain⟨e,R,U,J,i⟩:=h b (.inScope c::k) cs β hb hr;cases e with
 | normal=>exact⟨.normal,R,U,J,.head p mO (StepsIn.trans i (.one (fenced_calm hb hr rfl) uu))⟩
 | exit id =>
  have hx:exitTo id (.inScope c::k)=exitTo id k:=by simp[exitTo]
  exact⟨.exit id,R,U,J,fun k' hk=>.head p mO (i.1 k' (by rw[hx]; exact hk)),
   fun α hk=>let ⟨γ,h1,h2⟩:=i.2 α (by rw[hx]; exact hk); ⟨γ,h1,.head p mO h2⟩⟩
 | goto l=>exact J.elim
 | ret=>exact⟨_,R,U,J,.of_steps (.one p mO) i⟩
 | panic ch=>exact⟨_,R,U,J,.of_steps (.one p mO) i⟩
 | outgrown=>exact⟨_,R,U,J,.of_steps (.one p mO) i⟩
section
variable {ro:Option Nat} {fu:Nat} {ds:List Deferred} {T:Tbl} {n:Nat} {E:Env} {F:PF} {H:PH} {a:Act} {w:World}
theorem sb {C:Ctx} (γ:C.P=T.P) (β:C.num=T.num) {ops:Array Oper} {K:PF→PH→Prop} {Q:Exit→Act→World→Prop}:∀ (l:List Oper) (il:List aR) (E:Env) (F:PF) (H:PH) (a:Act) (w:World),
  T.pD n ops l=some il→wpOps C il K F H→cQ ds n E F a→bE E H w→E.num=T.num→kU ds n E H w K (Q .normal)→wpListIn (Fz ro) fu T.P ops Q l a w
 | [],il,E,F,H,a,w,h1,p,U,hW,_,hT=>by simp[Tbl.pD] at h1;subst h1;exact hT E F H a w U hW (.refl E H w) p
 | o::l,il,E,F,H,a,w,h1,p,U,hW,hN,hT=>by
  simp only[Tbl.pD] at h1;split at h1
  ·rename_i i is hi κ;cases h1;obtain⟨θ,hd,hlt,hg⟩:=DX hi;have aWU:∀ (R:Env) (F':PF) (H':PH) (a':Act) (w':World),R.num=T.num→cQ ds n R F' a'→bE R H' w'→Ext E H w R H' w'→wpOps C is K F' H'→wpListIn (Fz ro) fu T.P ops Q l a' w' :=
    fun R F' H' a' w' ι α δ hE hK=>sb γ β l is R F' H' a' w' κ hK α δ ι (hT.after hE)
   have η:kU ds n E H w (wpOps C is K) (wpListIn (Fz ro) fu T.P ops Q l):=fun R F' H' a' w' α δ hE hK=>aWU R F' H' a' w' (hE.env.num.trans hN) α δ hE hK;unfold wpListIn;simp only[wpOps] at p;rcases hg with ⟨J,ζ⟩ | ⟨j,want,t,J,ζ,ht⟩
   ·rw[ζ] at p;rw[if_pos (by simp[Region.wanted,J])];exact (qE γ β θ hd hlt p U hW hN η)
   ·rw[ζ] at p;simp only at p;split at p
    ·rename_i b hb;rw[AL J ht (IE U hb)];split at p
     ·rename_i ε;rw[if_pos (by simp[ε])];exact (qE γ β θ hd hlt p U hW hN η)
     ·rename_i ε;rw[if_neg (by simpa using ε)];exact⟨fun _ _=>trivial,aWU E _ H _ w hN (by rw[← hd]; exact U.put hlt sE) hW (.refl E H w) p⟩
    ·rename_i hb;rw[wU J ht (NA U hb),if_neg (by simp)];exact⟨fun _ _=>trivial,aWU E _ H _ w hN (by rw[← hd]; exact U.put hlt sE) hW (.refl E H w) p⟩
    ·exact p.elim
  ·cases h1
def HY (ds:List Deferred) (n:Nat) (E:Env) (H:PH) (w:World) (K:bT) (Q:Exit→Act→World→Prop):Prop :=
 ∀ e i p H' J l,cQ ds n i p J→bE i H' l→Ext E H w i H' l→K e p H'→Q e.out J l
theorem HY.after {i:Env} {H':PH} {l:World} {K:bT} {Q:Exit→Act→World→Prop} (h:HY ds n E H w K Q) (U:Ext E H w i H' l):HY ds n i H' l K Q :=
 fun e p J H2 a2 w2 R hW hX hK=>h e p J H2 a2 w2 R hW (U.trans hX) hK
theorem nT {C:Ctx} (η:C.P=T.P) (ζ:C.num=T.num):∀ (c:Code) (pc:aA) (K:bT) (Q:Exit→Act→World→Prop) (E:Env) (F:PF) (H:PH) (a:Act) (w:World),
  T.code n c=some pc→pc.wp C K F H→cQ ds n E F a→bE E H w→E.num=T.num→HY ds n E H w K Q→c.wpIn (Fz ro) fu T.P Q a w:=by
 intro c
 induction c with
 | skip =>intro pc K Q E F H a w i p J hW hN l;simp[Tbl.code] at i; subst i;exact wpIn_skip (l .normal E F H a w J hW (.refl E H w) p)
 | region id ops d =>
  intro pc K Q E F H a w i p J hW hN l;simp only[Tbl.code] at i;split at i
  ·rename_i hd;subst hd;exact Jh η ζ i p J hW hN fun R F' H' a' w' h1 h2 h3 U=>l .normal R F' H' a' w' h1 h2 h3 U
  ·rename_i hd;simp only[aXO] at i;obtain⟨il,Δ,rfl⟩:=i;have:d=false:=by simpa using hd
   subst this;exact wpIn_region_list (sb η ζ ops.toList il E F H a w Δ p J hW hN fun R F' H' a' w' h1 h2 h3 U=>l .normal R F' H' a' w' h1 h2 h3 U)
 | seq x y δ ε =>
  intro pc K Q E F H a w i p J hW hN l;simp only[Tbl.code] at i;split at i
  ·rename_i px py hx hy;cases i;refine wpIn_seq (δ px (fZ C (py.wp C) K) _ E F H a w hx p J hW hN fun e R F' H' a' w' h1 h2 h3 U=>?_);cases e with
   | normal=>exact ε py K Q R F' H' a' w' hy U h1 h2 (h3.env.num.trans hN) (l.after h3)
   | exit id=>exact l (.exit id) R F' H' a' w' h1 h2 h3 U
   | ret=>exact l .ret R F' H' a' w' h1 h2 h3 U
  ·cases i
 | cond c x y δ ε =>
  intro pc K Q E F H a w i p J hW hN l;simp only[Tbl.code] at i;split at i
  ·rename_i Φ px py κ hx hy;cases i;simp only[aA.wp] at p;split at p
   ·rename_i t ω;have r:=aV κ ω J hN;have hb:a.eval c=.bool t:=by generalize a.eval c=v at r;cases r;rfl
    refine wpIn_cond hb ?_;cases t with
    | true=>exact δ px K Q E F H a w hx (by simpa using p) J hW hN l
    | false=>exact ε py K Q E F H a w hy (by simpa using p) J hW hN l
   ·exact p.elim
  ·cases i
 | block id c ih =>
  intro pc K Q E F H a w i p J hW hN l;simp only[Tbl.code,aXO] at i;obtain⟨px,hx,rfl⟩:=i;refine wpIn_block (ih px (fG id K) _ E F H a w hx p J hW hN fun e R F' H' a' w' h1 h2 h3 U=>?_);cases e with
  | normal=>exact l .normal R F' H' a' w' h1 h2 h3 U
  | exit Ξ =>
   simp only[fG] at U;simp only[kL.out,Exit.inBlock];split at U
   ·rename_i e;rw[if_pos e];exact l .normal R F' H' a' w' h1 h2 h3 U
   ·rename_i e;rw[if_neg e];exact l (.exit Ξ) R F' H' a' w' h1 h2 h3 U
  | ret=>exact l .ret R F' H' a' w' h1 h2 h3 U
 | loop c ih =>
  intro pc K Q E F H a w i p J hW hN l;simp only[Tbl.code,aXO] at i;obtain⟨px,hx,rfl⟩:=i;obtain⟨α,Fs,Hs,Pr,m,a0,F1,H1,Γ,Λ,υ,ι,γ⟩:=p;obtain⟨E1,ξ,χ,ρ⟩:=J.frz hW Γ;refine wpIn_loop_ghost (fun k a' w'=>∃ (R:Env) (s:α),Pr s∧m s=k∧cQ ds n R (Fs s) a'∧bE R (Hs s) w'∧Ext E H w R (Hs s) w') (m a0) ⟨E1,a0,Λ,rfl,ξ.weaken υ,χ.weaken ι,ρ.drop ι⟩ ?_;rintro k a' w' ⟨R,s,hp,rfl,ν,φ,β⟩;refine ih px (jD Fs Hs Pr m (m s) K) _ R (Fs s) (Hs s) a' w' hx (γ s hp) ν φ (β.env.num.trans hN) fun e E2 F2 H2 a2 w2 h1 h2 h3 U=>?_;cases e with
  | normal =>obtain⟨s',F3,H3,μ,Θ,hlt,τ,θ⟩:=U;obtain⟨E3,ο,ψ,σ⟩:=h1.frz h2 μ;exact⟨m s',hlt,E3,s',Θ,rfl,ο.weaken τ,ψ.weaken θ,((β.trans h3).trans σ).drop θ⟩
  | exit id=>exact l (.exit id) E2 F2 H2 a2 w2 h1 h2 (β.trans h3) U
  | ret=>exact l .ret E2 F2 H2 a2 w2 h1 h2 (β.trans h3) U
 | exit id =>intro pc K Q E F H a w i p J hW hN l;simp[Tbl.code] at i; subst i;exact wpIn_exit (l (.exit id) E F H a w J hW (.refl E H w) p)
 | ret =>intro pc K Q E F H a w i p J hW hN l;simp[Tbl.code] at i; subst i;exact wpIn_ret (l .ret E F H a w J hW (.refl E H w) p)
 | rangeFunc=>intro pc K Q E F H a w i; simp[Tbl.code] at i
 | scope c ih =>intro pc K Q E F H a w i p J hW hN l;simp only[Tbl.code] at i;refine Ym (ih pc K _ E F H a w i p J hW hN fun e R F' H' a' w' h1 h2 h3 U=>?_);have:=l e R F' H' a' w' h1 h2 h3 U;cases e<;>exact this
 | label =>intro pc K Q E F H a w i p J hW hN l;simp[Tbl.code] at i; subst i;exact wpIn_label (l .normal E F H a w J hW (.refl E H w) p)
 | goto=>intro pc K Q E F H a w i; simp[Tbl.code] at i
 | refuse=>intro pc K Q E F H a w i; simp[Tbl.code] at i
end
open Go Go.RowKit
namespace Tbl
variable (T:Tbl)
def res:ResultVar→Option dN
 | .tmp t=>some (.tmp t)
 | .cell t ty=>match T.isAgg ty,T.size ty with
  | some true,some k=>some (.cell t (some k))
  | some false,_=>some (.cell t none)
  | _,_=>none
def jd:List ResultVar→Option (List dN)
 | []=>some []
 | r::rs=>match T.res r,jd rs with
  | some p,some ps=>some (p::ps)
  | _,_=>none
def func (fn:Func):Option aS :=
 match fn.body with
 | some c=>match T.code fn.ntmps c,T.jd fn.results.toList with
  | some b,some rs=>some ⟨fn.params.size,fn.ntmps,b,rs⟩
  | _,_=>none
 | none=>none
end Tbl
section
variable {ds:List Deferred} {T:Tbl} {n:Nat} {E:Env} {F:PF} {H:PH} {a:Act} {w:World}
def MU (i:Array Value):ResultVar→Sem Value
 | .tmp t=>pure (i.getD t undef)
 | .cell a t=>do loadVar t (← asAddr (i.getD a undef))
theorem aeH {r:ResultVar} {p:dN} {pv:PV} (J:T.res r=some p) (i:p.ev F H=some pv) (U:cQ ds n E F a) (hW:bE E H w):∃ v,(MU a.tmps r).run T.P w=.ok v w∧aU E pv v:=by
 cases r with
 | tmp t =>simp[Tbl.res] at J;subst J;exact⟨_,rfl,U.t t pv i⟩
 | cell t ty =>
  simp only[Tbl.res] at J;split at J
  ·rename_i k hg hs;cases J;simp only[dN.ev] at i;split at i
   ·rename_i q hq;rw[aXO] at i;obtain⟨cs,l,rfl⟩:=i;obtain⟨b,off,hb,-⟩:=mV hW (U.t t q hq) l;obtain⟨u,R,h2⟩:=PY (T:=T) hg hs hW (U.t t q hq) l;refine⟨u,?_,h2⟩;rw[hb] at R;simpa [MU,hb,asAddr,Instr.loadAt,Instr.sureAddr] using R
   ·cases i
  ·rename_i hg;cases J;simp only[dN.ev] at i;split at i
   ·rename_i q hq;split at i
    ·rename_i v' l;cases i;obtain⟨b,off,hb,-⟩:=mV hW (U.t t q hq) l;obtain⟨u,R,h2⟩:=ZJ (T:=T) hg hW (U.t t q hq) l;refine⟨u,?_,h2⟩;rw[hb] at R;simpa [MU,hb,asAddr,Instr.loadAt,Instr.sureAddr] using R
    ·cases i
   ·cases i
  ·cases J
theorem FY (hA:cQ ds n E F a) (hW:bE E H w):∀ (rs:List ResultVar) (ps:List dN) (i:List PV),T.jd rs=some ps→dN.evs F H ps=some i →
  ∃ vs,(rs.mapM (MU a.tmps)).run T.P w=.ok vs w∧dY E i vs
 | [],ps,i,l,J=>by simp[Tbl.jd] at l; subst l;simp[dN.evs] at J; subst J;exact⟨[],by simp,.nil⟩
 | r::rs,ps,i,l,J=>by
  simp only[Tbl.jd] at l;split at l
  ·rename_i p α hp R;cases l;simp only[dN.evs] at J;split at J
   ·rename_i v vs hv U;cases J;obtain⟨u,g1,g2⟩:=aeH hp hv hA hW;obtain⟨us,k1,k2⟩:=FY hA hW rs α vs R U;exact⟨u::us,by simp[List.mapM_cons,g1,k1],.cons g2 k2⟩
   ·cases J
  ·cases l
theorem ck {l:List PV} {vs:List Value} (h:dY E l vs):aU E (dB l) (if h:vs.toArray.size=1 then vs.toArray[0] else .tuple vs.toArray):=by
 cases h with
 | nil=>exact .tup #[] rfl (by simp)
 | cons h t =>
  cases t with
  | nil=>exact h
  | cons J t2 =>rename_i p v q u ps us;have i:dY E (p::q::ps) (v::u::us):=.cons h (.cons J t2);rw[dif_neg (by simp)];exact .tup _ (by simpa using i.len) (fun j pv w R U=>i.at_ j pv w R (by simpa using U))
theorem cv (fn:Func) (i:Array Value):results fn i=(do
  let vs ← fn.results.mapM (MU i)
  pure (if h:vs.size=1 then vs[0] else .tuple vs)):=by
 unfold results;congr 1
theorem abF {C:Ctx} (γ:C.P=T.P) (β:C.num=T.num) {name:Nat} {args:List PV} {R:PV→PH→Prop} {fn:Func} {pf:aS} (hf:C.P.funcs[C.num name]?=some fn) (μ:(fn.name=="runtime.NumGoroutine")=false)
  (l:T.func fn=some pf) (ζ:args.length≤pf.ntmps) (h:pf.body.wp C (aW pf.res R) (PF.args args) H):aH C name args H R:=by
 unfold Tbl.func at l;split at l
 ·rename_i c hb;split at l
  ·rename_i b rs p U;cases l;refine⟨⟨fn,hf,by simp[hb],μ⟩,fun E w vs hN hW ι=>?_⟩;have ο:vs.size=args.length:=by simpa using ι.len
   refine calls_of_wp hf hb ?_;rw[γ];refine (wpIn_wide (n:=0)).1 ?_;have hA:cQ [] fn.ntmps E (PF.args args) { tmps:=vs++aZE (fn.ntmps-vs.size) undef,defers:=[] }:=by
    refine⟨by simp only at ζ; simp; omega,rfl,fun i pv hi=>?_⟩;have J:i<vs.size:=by
     rw[ο];rcases aXZ i args.length with h' | h'
     ·exact h'
     ·simp[PF.args,aYT h'] at hi
    simp only[a0V];rw[Array.getElem?_append_left J,a0P J];exact ι.at_ i pv _ hi (by simp[J])
   refine nT (ro:=none) (fu:=0) γ β c b (aW rs R) _ E (PF.args args) H _ w p h hA hW (hN.trans β) fun e E' F' H' a' w' α δ hE hK=>?_;have key:aW rs R .ret F' H'→bodyPost T.P fn (fun e w'=>∃ v pv E' H',e=.returned v∧bE E' H' w'∧aU E' pv v∧Ext E H w E' H' w'∧R pv H') .ret a' w':=by
    rintro⟨ρ,η,F1,H1,H2,κ,ε,v0,ξ,hR⟩;obtain⟨us,g1,g2⟩:=FY α δ fn.results.toList rs ρ U η;have ν:=ck g2;obtain⟨E2,k1,k2,k3⟩:=κ.sound δ;have θ:=k3 (fun _=>if h:us.toArray.size=1 then us.toArray[0] else .tuple us.toArray) (fun i pv hi=>by
     simp only[PF.set,upd] at hi;split at hi
     ·cases hi; exact ν
     ·cases hi) 0 v0 ξ
    refine⟨α.defers,_,?_,_,v0,E2,H2,rfl,k1.weaken ε,θ,(hE.trans k2).drop ε,hR⟩;rw[cv,Array.mapM_eq_mapM_toList];simp[g1]
   cases e with
   | normal=>exact key hK
   | exit id=>exact hK.elim
   | ret=>exact key hK
  ·cases l
 ·cases l
end
end Go.PM
namespace Go.PM
open Go
inductive Co:PV→PV→Prop
 | refl (v:PV):Co v v
 | junk (v:PV):Co v .junk
 | nil (s:Nat):Co .aB (.sl s [])
 | osl0 (o s off s':Nat):Co (.osl o s off 0) (.sl s' [])
 | agg {cs ds:List PV} (hl:ds.length=cs.length) (h:∀ (j:Nat) p q,cs[j]?=some p→ds[j]?=some q→Co p q):Co (.agg cs) (.agg ds)
 | tup {cs ds:List PV} (hl:ds.length=cs.length) (h:∀ (j:Nat) p q,cs[j]?=some p→ds[j]?=some q→Co p q):Co (.tup cs) (.tup ds)
 | cO {cs ds:List PV} (hl:ds.length=cs.length) (h:∀ (j:Nat) p q,cs[j]?=some p→ds[j]?=some q→Co p q):Co (.cO cs) (.cO ds)
 | sl {s:Nat} {rs ts:List (List PV)} (hl:ts.length=rs.length) (hr:∀ (i:Nat) r t,rs[i]?=some r→ts[i]?=some t→t.length=r.length)
   (h:∀ (i j:Nat) p q,at2 rs i j=some p→at2 ts i j=some q→Co p q):Co (.sl s rs) (.sl s ts)
structure CoL (ps qs:List PV):Prop where
 len:qs.length=ps.length
 at_:∀ (j:Nat) p q,ps[j]?=some p→qs[j]?=some q→Co p q
theorem CoL.refl (ps:List PV):CoL ps ps:=⟨rfl,fun j p q h k=>by rw[h] at k; cases k; exact .refl p⟩
theorem Co.sound {E:Env} {p q:PV} (h:Co p q):∀ {v:Value},aU E p v→aU E q v:=by
 induction h with
 | refl=>intro v r; exact r
 | junk=>intro v _; exact .junk v
 | nil s =>intro v r;cases r;exact .sl (fun _ _=>.bool false) (by simp) (by decide) (by simp) (by simp) (fun _ _=>rfl) (by simp[at2])
 | osl0 o s off s' =>
  intro v r;cases r with
  | osl hb δ ι θ α hn ζ=>exact .sl (fun _ _=>.bool false) (by simp) α (by simp) (by simp) (fun _ _=>rfl) (by simp[at2])
 | agg U h ih =>
  intro v r;cases r with
  | agg vs β h1 hr =>
  refine .agg vs (β.trans U.symm) h1 fun j q u l hu=>?_;have R:=(aYP.1 l).1;have J:=aXT (show j<_ by rw[U] at R; exact R);exact ih j _ q J l (hr j _ u J hu)
 | tup U h ih =>
  intro v r;cases r with
  | tup vs β hr =>
  refine .tup vs (β.trans U.symm) fun j q u l hu=>?_;have R:=(aYP.1 l).1;have J:=aXT (show j<_ by rw[U] at R; exact R);exact ih j _ q J l (hr j _ u J hu)
 | cO U h ih =>
  intro v r;cases r with
  | cO u δ hc h1 hr =>
  refine .cO u δ (fun j q l=>?_) h1 fun j q l=>?_
  ·have R:=(aYP.1 l).1;exact hc j _ (aXT (show j<_ by rw[U] at R; exact R))
  ·have R:=(aYP.1 l).1;have J:=aXT (show j<_ by rw[U] at R; exact R);exact ih j _ q J l (hr j _ J)
 | @sl s rs ts U γ h ih =>
  intro v r;have key:∀ (i j:Nat) q,at2 ts i j=some q→∃ p,at2 rs i j=some p:=by intro i j q l;unfold at2 at l ⊢;rw[a0T] at l;obtain⟨t,ht,l⟩:=l;have hi:=(aYP.1 ht).1;have hr:=aXT (Om:i<rs.length);have:=γ i _ t hr ht;have R:=(aYP.1 l).1;rw[hr];exact⟨(rs[i])[j]'Om,by simp⟩
  cases r with
  | sl u η α hs ha h1 hr =>
  rw[← U];refine .sl u Om α (fun t ht=>?_) (fun ε=>?_) h1 fun i j q l=>?_
  ·obtain⟨i,hi,rfl⟩:=aYZ ht;have:=γ i rs[i] ts[i] (by simp) (by simp);rw[this];exact hs _ (by simp)
  ·obtain⟨ad,e,sp,hc⟩:=ha (by rintro rfl; exact ε (List.eq_nil_of_length_eq_zero (by simpa using U)));refine⟨ad,e,sp,fun i j q l=>?_⟩;obtain⟨p,J⟩:=key i j q l;exact hc i j p J
  ·obtain⟨p,J⟩:=key i j q l;exact ih i j p q J l (hr i j p J)
theorem CoL.sound {E:Env}:∀ {ps i:List PV} {vs:List Value},CoL ps i→dY E ps vs→dY E i vs
 | [],i,vs,h,r=>by cases r;have:i=[]:=List.eq_nil_of_length_eq_zero h.len;subst this;exact .nil
 | p::ps,i,vs,h,r=>by
  cases r with
  | cons r1 r2 =>
  cases i with
  | nil=>have:=h.len; simp at this
  | cons q i =>refine .cons ((h.at_ 0 p q rfl rfl).sound r1) (CoL.sound ⟨by simpa using h.len,fun j x y a b=>h.at_ (j+1) x y (by simpa using a) (by simpa using b)⟩ r2)
theorem aH.args {C:Ctx} {name:Nat} {args i:List PV} {H:PH} {R:PV→PH→Prop} (h:aH C name i H R) (J:CoL args i):aH C name args H R :=
 ⟨h.1,fun E w vs p hW l=>h.2 E w vs p hW (J.sound l)⟩
theorem aH.post {C:Ctx} {name:Nat} {args:List PV} {H:PH} {R R':PV→PH→Prop} (h:aH C name args H R) (hR:∀ r H',R r H'→∃ r',Co r r'∧R' r' H'):aH C name args H R' :=
 ⟨h.1,fun E w vs hN hW J=>(h.2 E w vs hN hW J).mono fun e w' he=>by obtain⟨v,pv,E',H',rfl,i,hr,hE,hp⟩:=he;obtain⟨U,l,p⟩:=hR pv H' hp;exact⟨v,U,E',H',rfl,i,l.sound hr,hE,p⟩⟩
end Go.PM
