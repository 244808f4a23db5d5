/-
  Texts of ours, joined. No condition.
-/
import Derived.Shelf.Strconv.Itoa3
import Derived.Test.YtnagfjehjbbckaaGreatDoorProg
import Derived.WalkKit
import Derived.CallsIn
import Derived.Laws.Cover3
import Derived.Deep.MidRow
import Derived.Great.BuildSlice
import Derived.Lib.Strings
import Derived.Laws.BytesArg
import GoSem.Instr.MapUpdate
import Derived.Laws.MakeOwn
import Derived.Laws.CopyRow
import Derived.MapKept
import Derived.Orders
import Derived.OrdersIn
import Derived.Sort.LoopGhostIn
import Derived.TacticsIn
import Derived.Scope
set_option linter.unusedSimpArgs false
set_option linter.unusedVariables false
open Nat renaming reduceEqDiff → γ, reduceAdd → δ, reduceSub → ε, reduceMul → ζ, reduceLT → η, reduceLeDiff → θ, reduceBEq → τ
open Int renaming reduceLT → ι, reduceLE → κ, reduceEq → μ, reduceToNat → ν, reduceAdd → ξ, reduceNeg → ο, reduceBEq → ρ, reduceBNe → σ
open List renaming reduceReplicate → υ
open List renaming length_map → aYN, range → aYO, getElem_mem → aYQ, replicate → aYR, length_append → aYU, mem_cons → aYY, getElem?_eq_getElem → aZA, all_eq_true → aZC, getD_eq_getElem?_getD → aZG, length_take → aZH, getElem?_map → aZN, map_append → aZO, mem_map → aZQ, mem_range → aZR, getElem?_eq_some_iff → aZU, append_assoc → a0A, getElem_of_mem → a0C, map_cons → a0D, length_cons → a0F, mem_append → a0G, getElem?_eq_none → a0H, getElem_map → a0K, append_nil → a0M, drop_eq_getElem_cons → a0O, mem_singleton → a0Q, length_drop → a0R, getElem?_append_left → a0V, length_set → a0W, map_nil → a0X, mem_of_getElem? → a1C, length_nil → a1H, getElem?_append_right → a1I, nodup_append → a1J, set_append_right → a1M, take_append_drop → a1N, set_cons_zero → a2B, getElem?_take → a2E, nil_append → a2G, mem_of_mem_take → a2M, getElem_append_right → a2P
open Nat renaming le_refl → aYV, lt_or_ge → aZL, zero_add → aZM, le_trans → aZS, mul_comm → aZT, add_mul → aZX, mul_le_mul_right → aZY, mod_lt → a0I, add_zero → a0S, eq_zero_or_pos → a1B, add_assoc → a1D, mul_le_mul_left → a1F, sub_self → a1Q, div_lt_iff_lt_mul → a1T, succ_mul → a1V, div_add_mod → a2H
open Bool renaming not_true → aYT, true_and → aYZ, and_eq_true → aZD, not_false → aZF, false_eq_true → a1S
open Option renaming map_eq_some_iff → aYX, map_some → aZZ, some → a0Y, getD_some → a1L, bind_some → a2C, bind_eq_some_iff → a2J
open Int renaming toNat_natCast → a0J
open Array renaming replicate → a0N, length_toList → a1W, getElem?_eq_some_iff → a2A, getElem?_eq_getElem → a2D, getD_eq_getD_getElem? → a2K
attribute [go_sem] Nat.reduceEqDiff Nat.reduceAdd Nat.reduceSub Nat.reduceMul Nat.reduceLT Nat.reduceLeDiff Int.reduceLT Int.reduceLE Int.reduceEq Int.reduceToNat Int.reduceAdd Int.reduceNeg Int.reduceBEq Int.reduceBNe Nat.reduceBEq List.reduceReplicate reduceIte reduceCtorEq
namespace Go.Proofs
open Go.Shelf
def Tryz.X4:Go.Shelf.Ren:=⟨fun | 171=>88 | 243=>123 | 246=>148 | 283=>163 | 284=>164 | 285=>165 | 286=>166 | 129=>170 | 317=>169 | 318=>171 | 319=>172 | 320=>173 | 337=>174 | 338=>175 | n=>n,fun | 3=>3 | 9=>9 | 2=>2 | 4=>4 | 171=>181 | 0=>0 | 53=>76 | 37=>22 | 5=>5 | 173=>184 | 212=>187 | 51=>115 | 20=>20 | 213=>188 | 46=>120 | 232=>191 | 233=>192 | n=>n,fun | 17=>0 | 18=>1 | 19=>2 | n=>n⟩
theorem Tryz.aJP:Go.Proofs.Lays.n171 Tryz.prog Tryz.X4:={
 mixed:=by kernel_rfl
 f129:=Tryz.func170.trans (congrArg some (by kernel_rfl))
 f171:=Tryz.func88.trans (congrArg some (by kernel_rfl))
 f243:=Tryz.func123.trans (congrArg some (by kernel_rfl))
 f246:=Tryz.func148.trans (congrArg some (by kernel_rfl))
 f283:=Tryz.func163.trans (congrArg some (by kernel_rfl))
 f284:=Tryz.func164.trans (congrArg some (by kernel_rfl))
 f285:=Tryz.func165.trans (congrArg some (by kernel_rfl))
 f286:=Tryz.func166.trans (congrArg some (by kernel_rfl))
 f317:=Tryz.func169.trans (congrArg some (by kernel_rfl))
 f318:=Tryz.func171.trans (congrArg some (by kernel_rfl))
 f319:=Tryz.func172.trans (congrArg some (by kernel_rfl))
 f320:=Tryz.func173.trans (congrArg some (by kernel_rfl))
 f337:=Tryz.func174.trans (congrArg some (by kernel_rfl))
 f338:=Tryz.func175.trans (congrArg some (by kernel_rfl))
 t0:=Tryz.underlying0
 a0:=Tryz.isAgg0
 z0:=Tryz.sizeOf0
 v0:=Tryz.zeroValue0
 t2:=Tryz.underlying2
 a2:=Tryz.isAgg2
 z2:=Tryz.sizeOf2
 v2:=Tryz.zeroValue2
 t3:=Tryz.underlying3
 a3:=Tryz.isAgg3
 z3:=Tryz.sizeOf3
 v3:=Tryz.zeroValue3
 t4:=Tryz.underlying4
 a4:=Tryz.isAgg4
 z4:=Tryz.sizeOf4
 v4:=Tryz.zeroValue4
 t5:=Tryz.underlying5
 a5:=Tryz.isAgg5
 z5:=Tryz.sizeOf5
 v5:=Tryz.zeroValue5
 t9:=Tryz.underlying9
 a9:=Tryz.isAgg9
 z9:=Tryz.sizeOf9
 v9:=Tryz.zeroValue9
 t20:=Tryz.underlying20
 a20:=Tryz.isAgg20
 z20:=Tryz.sizeOf20
 v20:=Tryz.zeroValue20
 t37:=Tryz.underlying22
 a37:=Tryz.isAgg22
 z37:=Tryz.sizeOf22
 v37:=Tryz.zeroValue22
 t46:=Tryz.underlying120
 a46:=Tryz.isAgg120
 z46:=Tryz.sizeOf120
 v46:=Tryz.zeroValue120
 t51:=Tryz.underlying115
 a51:=Tryz.isAgg115
 z51:=Tryz.sizeOf115
 v51:=Tryz.zeroValue115
 t53:=Tryz.underlying76
 a53:=Tryz.isAgg76
 z53:=Tryz.sizeOf76
 v53:=Tryz.zeroValue76
 t171:=Tryz.underlying181
 a171:=Tryz.isAgg181
 z171:=Tryz.sizeOf181
 v171:=Tryz.zeroValue181
 t173:=Tryz.underlying184
 a173:=Tryz.isAgg184
 z173:=Tryz.sizeOf184
 v173:=Tryz.zeroValue184
 t212:=Tryz.underlying187
 a212:=Tryz.isAgg187
 z212:=Tryz.sizeOf187
 v212:=Tryz.zeroValue187
 t213:=Tryz.underlying188
 a213:=Tryz.isAgg188
 z213:=Tryz.sizeOf188
 t232:=Tryz.underlying191
 a232:=Tryz.isAgg191
 z232:=Tryz.sizeOf191
 v232:=Tryz.zeroValue191
 t233:=Tryz.underlying192
 a233:=Tryz.isAgg192
 z233:=Tryz.sizeOf192
 v233:=Tryz.zeroValue192
 g17:=by kernel_rfl
 g18:=by kernel_rfl
 g19:=by kernel_rfl }
end Go.Proofs
theorem Om {p:Prop} (h:p:=by omega):p:=h
namespace Go.PM
open Go
inductive PV where
 | int (k:IntKind) (n:Int)
 | bool (b:Bool)
 | str (s:List UInt8)
 | aB
 | sl (size:Nat) (rows:List (List PV))
 | osl (o size off len:Nat)
 | ptr (o size i c:Nat)
 | bH (cells:List PV)
 | map (o:Nat)
 | fn (name:Nat) (captured:List PV)
 | agg (cells:List PV)
 | tup (vs:List PV)
 | lit (v:Value)
 | junk
 deriving Inhabited
inductive KSh where
 | int (k:IntKind)
 | bool
 | str
 deriving DecidableEq,Inhabited
inductive KS where
 | int (k:IntKind) (n:Int)
 | bool (b:Bool)
 | str (s:List UInt8)
 deriving DecidableEq,Inhabited
def KS.sh:KS→KSh
 | .int k _=>.int k
 | .bool _=>.bool
 | .str _=>.str
def KS.val:KS→Value
 | .int k n=>.int k n
 | .bool b=>.bool b
 | .str s=>.string ⟨s.toArray⟩
abbrev MSh:=Bool × List KSh
def gQ (sh:MSh) (k:List KS):Value:=if sh.1 then .agg (k.map KS.val).toArray else (k.map KS.val).headD undef
abbrev jU:=List KS→Option PV
def jU.upd (g:jU) (k:List KS) (v:PV):jU:=fun j=>if j=k then some v else g j
def oI (k:List KS):List (List KS × PV)→Nat→Option (Nat × PV)
 | [],_=>none
 | e::c,i=>if e.1=k then some (i,e.2) else oI k c (i+1)
def mapOf (L:List (List KS × PV)):jU:=fun k=>(oI k L 0).map (·.2)
open Classical in
noncomputable def jU.akT (g:jU):Nat:=if h:∃ c:List (List KS),c.Nodup∧∀ k,k∈c↔(g k).isSome=true then h.choose.length else 0
theorem jU.aHH {g:jU} {c:List (List KS)} (d:c.Nodup) (e:∀ k,k∈c↔(g k).isSome=true):g.akT=c.length:=by
 have h:∃ c:List (List KS),c.Nodup∧∀ k,k∈c↔(g k).isSome=true:=⟨c,d,e⟩;unfold jU.akT;rw[dif_pos h];exact ((List.perm_ext_iff_of_nodup h.choose_spec.1 d).2 fun k=>(h.choose_spec.2 k).trans (e k).symm).length_eq
theorem IV (k:List KS):∀ (L:List (List KS × PV)) (i:Nat),(oI k L i).isSome=true↔k∈L.map (·.1)
 | [],i=>by simp[oI]
 | e::d,i=>by
  unfold oI;by_cases h:e.1=k
  ·simp[h]
  ·rw[if_neg h,IV k d,a0D,aYY];exact⟨.inr,fun l=>l.resolve_left fun c=>h c.symm⟩
theorem anF {L:List (List KS × PV)} (h:(L.map (·.1)).Nodup):(mapOf L).akT=L.length:=by
 rw[jU.aHH h fun k=>?_,aYN];rw[← IV k L 0];unfold mapOf;simp
inductive cF where
 | rows (size:Nat) (rs:List (List PV))
 | map (sh:MSh) (g:jU)
 | loop (F:Nat→Option PV) (n t:Nat) (asg bdy:Code)
 | dead
def upd {α:Type} (f:Nat→Option α) (i:Nat) (v:Option α):Nat→Option α:=fun j=>if j=i then v else f j
theorem UZ {α:Type} (f:Nat→Option α) {i j:Nat} (v:Option α) (h:j≠i):upd f i v j=f j:=by simp[upd,h]
theorem aFD {α:Type} (f:Nat→Option α) {i j:Nat} (v u:Option α) (h:i≠j):upd (upd f i v) j u=upd (upd f j u) i v:=by
 funext k;simp only[upd];by_cases c:k=j
 ·by_cases d:k=i
  ·omega
  ·simp[c];intro e; omega
 ·simp[c]
abbrev PF:=Nat→Option PV
def PF.nil:PF:=fun _=>none
def PF.set (F:PF) (i:Nat) (v:PV):PF:=upd F i (some v)
def PF.le (F G:PF):Prop:=∀ i v,F i=some v→G i=some v
structure PH where
 f:Nat→Option cF
 fin:∃ n,∀ o,n≤o→f o=none
instance:CoeFun PH (fun _=>Nat→Option cF):=⟨PH.f⟩
theorem PH.ext {H K:PH} (h:∀ o,H.f o=K.f o):H=K:=by
 cases H; cases K;have:‹Nat→Option cF›=‹Nat→Option cF›:=rfl;congr;exact funext h
def PH.nil:PH:=⟨fun _=>none,0,fun _ _=>rfl⟩
def PH.upd (H:PH) (o:Nat) (x:Option cF):PH :=
 ⟨PM.upd H.f o x,by
  obtain⟨n,c⟩:=H.fin;refine⟨max n (o+1),fun q d=>?_⟩;rw[UZ _ _ Om];exact c q Om⟩
def PH.set (H:PH) (o:Nat) (x:cF):PH:=H.upd o (some x)
def PH.le (H K:PH):Prop:=∀ o x,H o=some x→K o=some x
def PH.over (H c d:PH):PH :=
 ⟨fun o=>match d o with
  | some x=>some x
  | none=>match c o with
   | some _=>some .dead
   | none=>H o,by
  obtain⟨n,l⟩:=H.fin;obtain⟨p,e⟩:=c.fin;obtain⟨u,i⟩:=d.fin;refine⟨max n (max p u),fun o w=>?_⟩;simp only[i o Om,e o Om,l o Om]⟩
theorem PH.fresh (H:PH):∃ o,H o=none:=by
 obtain⟨n,c⟩:=H.fin;exact⟨n,c n (aYV _)⟩
def at2 (rows:List (List PV)) (i j:Nat):Option PV:=rows[i]?.bind (·[j]?)
structure Env where
 G:Nat→Option (Array Value)
 sz:Nat→Option Nat
 num:Nat→FuncId
def Env.cell (E:Env) (b c:Nat):Option Value:=(E.G b).bind (·[c]?)
structure Env.le (E E':Env):Prop where
 g:∀ b cs,E.G b=some cs→E'.G b=some cs
 s:∀ b n,E.sz b=some n→E'.sz b=some n
 num:E'.num=E.num
theorem Env.le.refl (E:Env):E.le E:=⟨fun _ _ h=>h,fun _ _ h=>h,rfl⟩
theorem Env.le.trans {A B C:Env} (h:A.le B) (k:B.le C):A.le C :=
 ⟨fun b cs e=>k.g _ _ (h.g _ _ e),fun b n e=>k.s _ _ (h.s _ _ e),k.num.trans h.num⟩
theorem Env.le.cell {E i:Env} (h:E.le i) {b c:Nat} {u:Value} (d:E.cell b c=some u):i.cell b c=some u:=by
 unfold Env.cell at *
 cases e:E.G b with
 | none=>simp[e] at d
 | some cs=>rw[e] at d; rw[h.g _ _ e]; exact d
inductive bA (E:Env):PV→Value→Prop
 | int (k:IntKind) (n:Int):bA E (.int k n) (.int k n)
 | bool (b:Bool):bA E (.bool b) (.bool b)
 | str (s:ByteArray):bA E (.str s.data.toList) (.string s)
 | aB:bA E .aB (.slice none 0 0)
 | sl {size:Nat} {rows:List (List PV)} {a:Option Addr} {cap:Nat} (u:Nat→Nat→Value) (hcap:rows.length≤cap) (aYH:cap≤maxLen)
   (hs:∀ r∈rows,r.length=size)
   (ha:rows≠[]→∃ ad,a=some ad∧ad.spot=none∧∀ i j pv,at2 rows i j=some pv→E.cell ad.block (ad.off+i*size+j)=some (u i j))
   (h1:∀ i j,(u i j).oneCell'=true) (hr:∀ i j pv,at2 rows i j=some pv→bA E pv (u i j)):bA E (.sl size rows) (.slice a rows.length cap)
 | osl {o size off len cap n:Nat} {a:Addr} (hb:a.block=o) (hsp:a.spot=none) (aYK:cap=0∨a.off=off*size) (hlen:len≤cap) (aYH:cap≤maxLen)
   (hn:E.sz o=some n) (aYB:off*size+cap*size≤n):bA E (.osl o size off len) (.slice (some a) len cap)
 | ptr (o size i c:Nat):bA E (.ptr o size i c) (.pointer (some ⟨o,i*size+c,none⟩))
 | bH {cells:List PV} {ad:Addr} (u:Nat→Value) (hsp:ad.spot=none) (hc:∀ (j:Nat) pv,cells[j]?=some pv→E.cell ad.block (ad.off+j)=some (u j))
   (h1:∀ (j:Nat),(u j).oneCell'=true) (hr:∀ (j:Nat) pv,cells[j]?=some pv→bA E pv (u j)):bA E (.bH cells) (.pointer (some ad))
 | map (o:Nat):bA E (.map o) (.map (some o))
 | fn {name:Nat} {captured:List PV} (vc:Array Value) (hl:vc.size=captured.length)
   (hr:∀ (j:Nat) pv v,captured[j]?=some pv→vc[j]?=some v→bA E pv v):bA E (.fn name captured) (.func (.func (E.num name)) #[] vc)
 | agg {cells:List PV} (vs:Array Value) (hl:vs.size=cells.length) (h1:∀ v∈vs.toList,v.oneCell'=true)
   (hr:∀ (j:Nat) pv v,cells[j]?=some pv→vs[j]?=some v→bA E pv v):bA E (.agg cells) (.agg vs)
 | tup {ps:List PV} (vs:Array Value) (hl:vs.size=ps.length)
   (hr:∀ (j:Nat) pv v,ps[j]?=some pv→vs[j]?=some v→bA E pv v):bA E (.tup ps) (.tuple vs)
 | lit (v:Value):bA E (.lit v) v
 | junk (v:Value):bA E .junk v
theorem bA.mono {E K:Env} (h:E.le K) {pv:PV} {v:Value} (r:bA E pv v):bA K pv v:=by
 induction r with
 | int=>exact .int _ _
 | bool=>exact .bool _
 | str=>exact .str _
 | aB=>exact .aB
 | sl u x c R N w _ d =>refine .sl u x c R (fun H=>?_) w d;obtain⟨M,e,S,F⟩:=N H;exact⟨M,e,S,fun i j pv J=>h.cell (F i j pv J)⟩
 | osl O p B A c Q l=>exact .osl O p B A c (h.s _ _ Q) l
 | ptr=>exact .ptr _ _ _ _
 | bH u p F w _ d=>exact .bH u p (fun j pv J=>h.cell (F j pv J)) w d
 | map=>exact .map _
 | fn vc y _ d=>rw[← h.num]; exact .fn vc y d
 | agg vs y w _ d=>exact .agg vs y w d
 | tup vs y _ d=>exact .tup vs y d
 | lit=>exact .lit _
 | junk=>exact .junk _
def PW (E:Env) (w:World) (o:Nat):cF→Prop
 | .rows size rs=>∃ c ty,w.heap[o]?=some (.cells c ty (0,0))∧E.sz o=some c.size∧(∀ r∈rs,r.length=size)∧rs.length*size≤c.size ∧
   ∀ i j pv,at2 rs i j=some pv→∃ u,c[i*size+j]?=some u∧u.oneCell'=true∧bA E pv u
 | .map sh g=>∃ l d L,w.heap[o]?=some (.map l d)∧(l.size=L.length∧(L.map (·.1)).Nodup)∧g=mapOf L ∧
   ∀ (i:Nat) e y,L[i]?=some e→l[i]?=some y→e.1.map KS.sh=sh.2∧y.key=gQ sh e.1∧bA E e.2 y.val
 | .loop F n t p x=>∃ rec:Loop,w.heap[o]?=some (.loop rec)∧rec.state=.ready∧rec.pending=none∧rec.params=#[t]∧rec.assign=p∧rec.body=x∧rec.tmps.size=n∧∀ i pv,F i=some pv→bA E pv (rec.tmps.getD i undef)
 | .dead=>True
theorem PW.mono {E M:Env} (h:E.le M) {w N:World} {o:Nat} (K:N.heap[o]?=w.heap[o]?) {x:cF} (r:PW E w o x):PW M N o x:=by
 cases x with
 | rows size rs =>obtain⟨B,ty,p,y,A,l,h5⟩:=r;refine⟨B,ty,K.trans p,h.s _ _ y,A,l,fun i j pv S=>?_⟩;obtain⟨u,a,b,c⟩:=h5 i j pv S;exact⟨u,a,b,c.mono h⟩
 | map sh g =>obtain⟨J,d,L,p,y,A,l⟩:=r;exact⟨J,d,L,K.trans p,y,A,fun i e H a b=>⟨(l i e H a b).1,(l i e H a b).2.1,(l i e H a b).2.2.mono h⟩⟩
 | loop F n t O Q =>obtain⟨rec,p,y,A,l,h5,R,h7,h8⟩:=r;exact⟨rec,K.trans p,y,A,l,h5,R,h7,fun i pv hi=>(h8 i pv hi).mono h⟩
 | dead=>trivial
structure bQ (E:Env) (H:PH) (w:World):Prop where
 g:∀ b cs,E.G b=some cs→(∀ x,H b=some x→x=.dead)∧∃ ty fr,w.heap[b]?=some (.cells cs ty fr)
 h:∀ o x,H o=some x→o<w.heap.size∧PW E w o x
 s:∀ o n,E.sz o=some n→∃ cur ty fr,w.heap[o]?=some (.cells cur ty fr)∧cur.size=n
theorem bQ.weaken {E:Env} {H d:PH} {w:World} (h:bQ E H w) (c:d.le H):bQ E d w:=by
 exact⟨fun b cs e=>⟨fun x l=>(h.g b cs e).1 x (c b x l),(h.g b cs e).2⟩,fun o x i=>h.h o x (c o x i),h.s⟩
structure Ext (E:Env) (H:PH) (w:World) (E':Env) (H':PH) (w':World):Prop where
 env:E.le E'
 os:w'.os=w.os
 tape:w'.tape=w.tape
 output:w'.output=w.output
 size:w.heap.size≤w'.heap.size
 block:∀ b,b<w.heap.size→H b=none→w'.heap[b]?=w.heap[b]?
 new:∀ o x,H' o=some x→(∃ y,H o=some y)∨w.heap.size≤o
 newG:∀ b cs,E'.G b=some cs→E.G b=some cs∨(∃ y,H b=some y)∨w.heap.size≤b
theorem Ext.refl (E:Env) (H:PH) (w:World):Ext E H w E H w :=
 ⟨.refl E,rfl,rfl,rfl,aYV _,fun _ _ _=>rfl,fun _ x h=>.inl ⟨x,h⟩,fun _ _ h=>.inl h⟩
theorem Ext.trans {i l p:Env} {u H2 w:PH} {B E F:World} (h:Ext i u B l H2 E) (k:Ext l H2 E p w F):Ext i u B p w F:=by
 refine⟨h.env.trans k.env,k.os.trans h.os,k.tape.trans h.tape,k.output.trans h.output,aZS h.size k.size,fun b d A=>?_,fun o x K=>?_,fun b cs d=>?_⟩
 ·have J:H2 b=none:=by
   cases e:H2 b with
   | none=>rfl
   | some x =>
    rcases h.new b x e with ⟨y,c⟩ | hl
    ·rw[A] at c; cases c
    ·omega
  rw[k.block b (by have:=h.size; omega) J,h.block b d A]
 ·rcases k.new o x K with ⟨y,c⟩ | hl
  ·exact h.new o y c
  ·exact .inr (aZS h.size hl)
 ·rcases k.newG b cs d with H | ⟨y,c⟩ | hl
  ·exact h.newG b cs H
  ·exact .inr (h.new b y c)
  ·exact .inr (.inr (aZS h.size hl))
theorem Ext.drop {E d:Env} {H H' e:PH} {w i:World} (h:Ext E H w d H' i) (c:e.le H'):Ext E H w d e i :=
 ⟨h.env,h.os,h.tape,h.output,h.size,h.block,fun o x l=>h.new o x (c o x l),h.newG⟩
theorem Ext.narrow {E u:Env} {H H' l:PH} {w A:World} (h:Ext E l w u H' A) (c:l.le H):Ext E H w u (H.over l H') A:=by
 refine⟨h.env,h.os,h.tape,h.output,h.size,fun b p F=>h.block b p ?_,fun o x d=>?_,fun b cs p=>?_⟩
 ·cases e:l b with
  | none=>rfl
  | some x=>have:=c b x e; rw[F] at this; cases this
 ·unfold PH.over at d;simp only at d;split at d
  ·rename_i y i;rcases h.new o y i with ⟨z,J⟩ | hl
   ·exact .inl ⟨z,c o z J⟩
   ·exact .inr hl
  ·split at d
   ·rename_i y i;exact .inl ⟨y,c o y i⟩
   ·exact .inl ⟨x,d⟩
 ·rcases h.newG b cs p with B | ⟨y,i⟩ | hl
  ·exact .inl B
  ·exact .inr (.inl ⟨y,c b y i⟩)
  ·exact .inr (.inr hl)
theorem bQ.over {E A:Env} {H H' B:PH} {w u:World} (hW:bQ E H w) (h:Ext E B w A H' u) (J:B.le H) (c:bQ A H' u):bQ A (H.over B H') u:=by
 have keep:∀ o x,H o=some x→B o=none→o<u.heap.size∧PW A u o x:=by intro o x d l;obtain⟨hlt,p⟩:=hW.h o x d;exact⟨Nat.lt_of_lt_of_le hlt h.size,p.mono h.env (h.block o hlt l)⟩
 refine⟨fun b cs F=>⟨?_,(c.g b cs F).2⟩,fun o x d=>?_,c.s⟩
 ·intro x e;unfold PH.over at e;simp only at e;split at e
  ·rename_i y i;cases e;exact (c.g b cs F).1 _ i
  ·split at e
   ·cases e; rfl
   ·rename_i l;rcases h.newG b cs F with K | ⟨y,i⟩ | hl
    ·exact (hW.g b cs K).1 x e
    ·rw[l] at i; cases i
    ·have:=(hW.h b x e).1; omega
 ·unfold PH.over at d;simp only at d;split at d
  ·rename_i y i;cases d;exact c.h o _ i
  ·split at d
   ·rename_i y i;cases d;exact⟨Nat.lt_of_lt_of_le (hW.h o y (J o y i)).1 h.size,trivial⟩
   ·rename_i l;exact keep o x d l
inductive aQ where
 | tmp (t:Nat)
 | const (v:PV)
 deriving Inhabited
def aQ.ev (F:PF):aQ→Option PV
 | .tmp t=>F t
 | .const v=>some v
def aQ.evs (F:PF):List aQ→Option (List PV)
 | []=>some []
 | x::xs=>match x.ev F,aQ.evs F xs with
  | some v,some vs=>some (v::vs)
  | _,_=>none
inductive Sc where
 | int | bool | str
 deriving Inhabited,DecidableEq
inductive POp where
 | mv (x:aQ)
 | pick (c a b:aQ)
 | bin (op:BinOp) (x y:aQ)
 | eqb (neg:Bool) (x y:aQ)
 | eqs (neg:Bool) (ks:List Sc) (x y:aQ)
 | un (op:UnOp) (x:aQ)
 | conv (k:IntKind) (x:aQ)
 | same (x:aQ)
 | alloc (cells:List PV)
 | box (ro:Bool) (x:aQ)
 | build (zero:List PV) (parts:List (Nat × Nat × aQ))
 | aXI (ro:Bool) (size len:Nat) (zero:List PV) (parts:List (Nat × aQ))
 | load (n:Option Nat) (p:aQ)
 | store (n:Nat) (p x:aQ)
 | aXP (x:aQ)
 | aYF (off:Nat) (x:aQ)
 | field (off:Nat) (n:Option Nat) (x:aQ)
 | aXT (size:Nat) (x i:aQ)
 | idxA (n size:Nat) (x i:aQ)
 | idxV (n size:Nat) (ag:Bool) (x i:aQ)
 | aYD (x i:aQ)
 | slice (size:Nat) (x:aQ) (lo hi mx:Option aQ)
 | aXZ (x:aQ) (lo hi:Option aQ)
 | sliceA (n size:Nat) (x:aQ) (lo hi mx:Option aQ)
 | len (x:aQ)
 | aYC (x:aQ)
 | aYM (x:aQ)
 | lenM (x:aQ)
 | isNil (n:Bool) (x:aQ)
 | extract (x:aQ) (i:Nat)
 | aXK (size bytes:Nat) (zero:List PV) (l c:aQ)
 | append (size bytes:Nat) (x y:aQ)
 | aXX (mx:Bool) (x y:aQ)
 | mkfn (name:Nat) (captured:List aQ)
 | aYI (sh:MSh)
 | lookup (sh:MSh) (zero:PV) (x k:aQ) (ok:Bool)
 | aXU (sh:MSh) (x k v:aQ)
 | insert (sh:MSh) (x k v:aQ)
 | stuck
 | aXQ (x:aQ)
 | str2bytes (x:aQ)
 | call (name:Nat) (args:List aQ)
 | aYE (x:aQ) (args:List aQ)
 deriving Inhabited
structure aU where
 dst:Option Nat
 op:POp
 guard:Option (Nat × Bool)
 deriving Inhabited
inductive aC where
 | skip
 | region (ops:List aU)
 | draw (ops:List (aU × Bool))
 | seq (a b:aC)
 | cond (c:aQ) (a b:aC)
 | block (id:Nat) (c:aC)
 | loop (c:aC)
 | exit (id:Nat)
 | ret
 deriving Inhabited
inductive dS where
 | tmp (t:Nat)
 | cell (t:Nat) (n:Option Nat)
 deriving Inhabited
structure aX where
 nparams:Nat
 ntmps:Nat
 body:aC
 res:List dS
 deriving Inhabited
def PV.cells:PV→List PV
 | .agg cs=>cs
 | v=>[v]
def PV.one:PV→Bool
 | .agg _ | .tup _ | .junk | .lit (.agg _) | .lit (.tuple _)=>false
 | _=>true
def setCells (r:List PV) (c:Nat):List PV→List PV
 | []=>r
 | v::vs=>setCells (r.set c v) (c+1) vs
def loadCells (H:PH) (p:PV) (n:Nat):Option (List PV) :=
 match p with
 | .ptr o size i c=>match H o with
  | some (.rows s rs)=>if s=size then match rs[i]? with
    | some r=>if c+n≤r.length then some ((r.drop c).take n) else none
    | none=>none
   else none
  | _=>none
 | .bH cells=>if n≤cells.length then some (cells.take n) else none
 | _=>none
def lK (op:BinOp) (k:IntKind) (a b:Int):Option PV :=
 match op with
 | .add=>some (.int k (k.wrap (a+b)))
 | .sub=>some (.int k (k.wrap (a-b)))
 | .mul=>some (.int k (k.wrap (a*b)))
 | .quo=>if b=0 then none else some (.int k (k.wrap (a.tdiv b)))
 | .rem=>if b=0 then none else some (.int k (a.tmod b))
 | .and=>some (.int k (k.wrap (BitVec.ofInt k.bits a &&& BitVec.ofInt k.bits b).toNat))
 | .or=>some (.int k (k.wrap (BitVec.ofInt k.bits a ||| BitVec.ofInt k.bits b).toNat))
 | .xor=>some (.int k (k.wrap (BitVec.ofInt k.bits a ^^^ BitVec.ofInt k.bits b).toNat))
 | .andNot=>some (.int k (k.wrap (BitVec.ofInt k.bits a &&& ~~~ BitVec.ofInt k.bits b).toNat))
 | .eql=>some (.bool (a==b))
 | .neq=>some (.bool (a != b))
 | .lss=>some (.bool (decide (a<b)))
 | .leq=>some (.bool (decide (a≤b)))
 | .gtr=>some (.bool (decide (a>b)))
 | .geq=>some (.bool (decide (a≥b)))
 | .shl | .shr=>none
def QA (op:BinOp) (a b:List UInt8):Option PV :=
 match op with
 | .add=>if ((a.length+b.length:Nat):Int)>IntKind.i64.max then none else some (.str (a++b))
 | .eql=>some (.bool (a==b))
 | .neq=>some (.bool !(a==b))
 | .lss=>some (.bool (Op.bytesLess a b))
 | .leq=>some (.bool (Op.bytesLess a b||a==b))
 | .gtr=>some (.bool !(Op.bytesLess a b||a==b))
 | .geq=>some (.bool !(Op.bytesLess a b))
 | _=>none
def shift (op:BinOp) (k:IntKind) (a b:Int):Option PV :=
 if b<0 then none else
 match op with
 | .shl=>some (.int k (k.wrap (a*2 ^ (min b.toNat k.bits))))
 | .shr=>some (.int k (a.fdiv (2 ^ (min b.toNat k.bits))))
 | _=>none
def PV.bin (op:BinOp) (x y:PV):Option PV :=
 match op,x,y with
 | .shl,.int k a,.int _ b=>shift .shl k a b
 | .shr,.int k a,.int _ b=>shift .shr k a b
 | op,.int k a,.int c b=>if k=c then lK op k a b else none
 | op,.str a,.str b=>QA op a b
 | _,_,_=>none
def PV.eq1:Sc→PV→PV→Option Bool
 | .int,.int k a,.int c b=>if k=c then some (a==b) else none
 | .bool,.bool a,.bool b=>some (a==b)
 | .str,.str a,.str b=>some (a==b)
 | _,_,_=>none
def PV.eqs:List Sc→List PV→List PV→Option Bool
 | [],[],[]=>some true
 | k::c,x::xs,y::ys=>match PV.eq1 k x y with
  | some true=>PV.eqs c xs ys
  | some false=>if xs.length=c.length∧ys.length=c.length then some false else none
  | none=>none
 | _,_,_=>none
def PV.un (op:UnOp):PV→Option PV
 | .int k n=>match op with
  | .neg=>some (.int k (k.wrap (0-n)))
  | .xor=>some (.int k (k.wrap (BitVec.ofInt k.bits (if k.signed then -1 else k.max) ^^^ BitVec.ofInt k.bits n).toNat))
  | _=>none
 | .bool b=>match op with
  | .not=>some (.bool !b)
  | _=>none
 | _=>none
def PV.intOf:PV→Option Int
 | .int _ n=>some n
 | _=>none
def qE (cells:List PV) (F:PF):List (Nat × Nat × aQ)→Option (List PV)
 | []=>some cells
 | (c,size,x)::rest=>match x.ev F with
  | some v=>if v.cells.length=size∧c+size≤cells.length∧v.cells.all PV.one then qE (setCells cells c v.cells) F rest else none
  | none=>none
def gX (size:Nat) (rows:List (List PV)) (F:PF):List (Nat × aQ)→Option (List (List PV))
 | []=>some rows
 | (i,x)::rest=>match x.ev F with
  | some v=>if v.cells.length=size∧i<rows.length∧v.cells.all PV.one then gX size (rows.set i v.cells) F rest else none
  | none=>none
def eF (H:PH) (size:Nat):PV→Option (List (List PV))
 | .aB=>some []
 | .sl s rows=>if s=size then some rows else none
 | .osl o s c len=>if s=size then match H o with
   | some (.rows s' rs)=>if s'=s∧c+len≤rs.length then some ((rs.drop c).take len) else none
   | _=>none
  else none
 | _=>none
def bnd (F:PF) (d:Int):Option aQ→Option Int
 | none=>some d
 | some x=>(x.ev F).bind PV.intOf
def PV.slice (size:Nat) (x:PV) (l h:Int) (mx:Option Int):Option PV :=
 match x with
 | .aB=>if l=0∧h=0∧(mx=none∨mx=some 0) then some .aB else none
 | .sl s rows=>if s=size∧0≤l∧l≤h∧h≤rows.length∧(mx=none∨mx=some h) then some (.sl s ((rows.take h.toNat).drop l.toNat)) else none
 | .osl o s c len=>if s=size∧0≤l∧l≤h∧h≤len∧(mx=none∨mx=some h) then some (.osl o s (c+l.toNat) (h.toNat-l.toNat)) else none
 | _=>none
def PV.rD:PV→Option Bool
 | .aB=>some true
 | .osl _ _ _ _=>some false
 | .sl _ (_::_)=>some false
 | _=>none
def KS.of:PV→Option KS
 | .int k n=>some (.int k n)
 | .bool b=>some (.bool b)
 | .str s=>some (.str s)
 | _=>none
def KS.ofs:List PV→Option (List KS)
 | []=>some []
 | v::vs=>match KS.of v,KS.ofs vs with
  | some k,some c=>some (k::c)
  | _,_=>none
def keyOf (sh:MSh) (v:PV):Option (List KS) :=
 match sh.1,v with
 | true,.agg cs=>(KS.ofs cs).bind fun k=>if k.map KS.sh=sh.2 then some k else none
 | false,v=>(KS.of v).bind fun k=>if [k.sh]=sh.2 then some [k] else none
 | _,_=>none
def chunks (size:Nat):Nat→List PV→List (List PV)
 | 0,_=>[]
 | n+1,cs=>cs.take size::chunks size n (cs.drop size)
def pR:List (List PV)→Option (List UInt8)
 | []=>some []
 | [.int .u8 n]::rest=>(pR rest).map (UInt8.ofNat n.toNat::·)
 | _=>none
def PV.tF:PV→Option PV
 | .aB=>some (.int .i64 0)
 | .sl _ rows=>some (.int .i64 rows.length)
 | .osl _ _ _ n=>some (.int .i64 n)
 | _=>none
noncomputable def aP (op:POp) (F:PF) (H:PH):Option PV :=
 match op with
 | .mv x=>x.ev F
 | .same x=>match x.ev F with
  | some (.str s)=>some (.str s)
  | _=>none
 | .pick c a b=>match c.ev F,a.ev F,b.ev F with
  | some (.bool t),x,y=>if t then x else y
  | _,_,_=>none
 | .bin op x y=>match x.ev F,y.ev F with
  | some a,some b=>PV.bin op a b
  | _,_=>none
 | .eqb neg x y=>match x.ev F,y.ev F with
  | some (.bool a),some (.bool b)=>some (.bool ((a==b) != neg))
  | _,_=>none
 | .eqs neg B x y=>match x.ev F,y.ev F with
  | some (.agg xs),some (.agg ys)=>(PV.eqs B xs ys).map fun b=>.bool (b != neg)
  | _,_=>none
 | .un op x=>match x.ev F with
  | some a=>PV.un op a
  | none=>none
 | .conv k x=>match x.ev F with
  | some (.int _ n)=>some (.int k (k.wrap n))
  | _=>none
 | .box true x=>match x.ev F with
  | some v=>if v.cells.all PV.one then some (.bH v.cells) else none
  | none=>none
 | .build zero parts=>(qE zero F parts).map .agg
 | .aXI true size len zero parts=>if zero.length=size∧len*size≤16777216 then (gX size (aYR len zero) F parts).map (.sl size) else none
 | .load none p=>match p.ev F with
  | some a=>match loadCells H a 1 with
   | some [v]=>some v
   | _=>none
  | none=>none
 | .load (some n) p=>match p.ev F with
  | some a=>(loadCells H a n).map .agg
  | none=>none
 | .aXP x=>match x.ev F with
  | some (.ptr o s i c)=>some (.ptr o s i c)
  | some (.bH cs)=>some (.bH cs)
  | _=>none
 | .aYF d x=>match x.ev F with
  | some (.ptr o s i c)=>some (.ptr o s i (c+d))
  | some (.bH cs)=>some (.bH (cs.drop d))
  | _=>none
 | .field d n x=>match x.ev F with
  | some (.agg cs)=>match n with
   | none=>cs[d]?
   | some n=>if d+n≤cs.length then some (.agg ((cs.drop d).take n)) else none
  | _=>none
 | .aXT size x i=>match x.ev F,i.ev F with
  | some (.sl s rows),some (.int _ n)=>if s=size∧0≤n then match rows[n.toNat]? with
    | some r=>some (.bH r)
    | none=>none
   else none
  | some (.osl o s d len),some (.int _ n)=>if s=size∧0≤n∧n<len then some (.ptr o s (d+n.toNat) 0) else none
  | _,_=>none
 | .idxA n size x i=>match x.ev F,i.ev F with
  | some (.ptr o s r c),some (.int _ k)=>if 0≤k∧k<n then some (.ptr o s r (c+k.toNat*size)) else none
  | some (.bH cs),some (.int _ k)=>if 0≤k∧k<n then some (.bH (cs.drop (k.toNat*size))) else none
  | _,_=>none
 | .idxV n size w x i=>match x.ev F,i.ev F with
  | some (.agg cs),some (.int _ k)=>if 0≤k∧k<n then
    (if w then (if k.toNat*size+size≤cs.length then some (.agg ((cs.drop (k.toNat*size)).take size)) else none) else cs[k.toNat*size]?)
   else none
  | _,_=>none
 | .aYD x i=>match x.ev F,i.ev F with
  | some (.str s),some (.int _ k)=>if 0≤k then (s[k.toNat]?).map fun b=>PV.int .u8 b.toNat else none
  | _,_=>none
 | .slice size x lo hi mx=>match x.ev F with
  | some v=>match v with
   | .aB=>match bnd F 0 lo,bnd F 0 hi with
    | some l,some h=>match mx with
     | none=>PV.slice size v l h none
     | some m=>(bnd F 0 (some m)).bind fun m=>PV.slice size v l h (some m)
    | _,_=>none
   | .sl s rows=>match bnd F 0 lo,bnd F rows.length hi with
    | some l,some h=>match mx with
     | none=>PV.slice size (.sl s rows) l h none
     | some m=>(bnd F 0 (some m)).bind fun m=>PV.slice size (.sl s rows) l h (some m)
    | _,_=>none
   | .osl o s d len=>match bnd F 0 lo,bnd F len hi with
    | some l,some h=>match mx with
     | none=>PV.slice size (.osl o s d len) l h none
     | some m=>(bnd F 0 (some m)).bind fun m=>PV.slice size (.osl o s d len) l h (some m)
    | _,_=>none
   | _=>none
  | none=>none
 | .aXZ x lo hi=>match x.ev F with
  | some (.str s)=>match bnd F 0 lo,bnd F s.length hi with
   | some l,some h=>if 0≤l∧l≤h∧h≤s.length then some (.str ((s.take h.toNat).drop l.toNat)) else none
   | _,_=>none
  | _=>none
 | .sliceA n size x lo hi mx=>match lo,hi,mx with
  | none,none,none=>match x.ev F with
   | some (.bH cs)=>if n*size≤cs.length∧0<size∧n≤maxLen then some (.sl size (chunks size n cs)) else none
   | _=>none
  | _,_,_=>none
 | .len x=>(x.ev F).bind PV.tF
 | .aYC x=>match x.ev F with
  | some (.str s)=>some (.int .i64 s.length)
  | _=>none
 | .lenM x=>match x.ev F with
  | some (.map o)=>match H o with
   | some (.map _ g)=>some (.int .i64 (g.akT:Nat))
   | _=>none
  | _=>none
 | .aYM x=>match x.ev F with
  | some .aB=>some (.int .i64 0)
  | _=>none
 | .isNil n x=>(x.ev F).bind fun v=>v.rD.map fun b=>.bool (b != n)
 | .extract x i=>match x.ev F with
  | some (.tup vs)=>vs[i]?
  | _=>none
 | .aXX mx x y=>match x.ev F,y.ev F with
  | some (.int k a),some (.int A b)=>if k=A then some (.int k (if mx then (if a<b then b else a) else (if b<a then b else a))) else none
  | _,_=>none
 | .mkfn name captured=>(aQ.evs F captured).map fun cs=>.fn name cs
 | .lookup sh zero x k ok=>match x.ev F,k.ev F with
  | some (.map o),some E=>match H o,keyOf sh E with
   | some (.map u g),some e=>if u=sh then some (if ok then .tup [(g e).getD zero,.bool (g e).isSome] else (g e).getD zero) else none
   | _,_=>none
  | _,_=>none
 | .aXQ x=>match x.ev F with
  | some v=>match eF H 1 v with
   | some rows=>(pR rows).map PV.str
   | none=>none
  | none=>none
 | _=>none
def dD (op:POp) (F:PF):Option ((Nat→PV) × cF) :=
 match op with
 | .alloc cells=>some (fun o=>.ptr o cells.length 0 0,.rows cells.length [cells])
 | .box false x=>match x.ev F with
  | some v=>if v.cells.all PV.one then some (fun o=>.ptr o v.cells.length 0 0,.rows v.cells.length [v.cells]) else none
  | none=>none
 | .aXI false size len zero parts=>if zero.length=size∧len*size≤16777216 then
   (gX size (aYR len zero) F parts).map fun rows=>(fun o=>.osl o size 0 len,.rows size rows)
  else none
 | .aXK size bytes zero l c=>match l.ev F,c.ev F with
  | some (.int _ n),some (.int _ m)=>if 0≤n∧n≤m∧m*bytes≤140737488355328∧m≤9223372036854775807∧zero.length=size then
    some (fun o=>.osl o size 0 n.toNat,.rows size (aYR n.toNat zero))
   else none
  | _,_=>none
 | .aYI sh=>some (fun o=>.map o,.map sh (fun _=>none))
 | _=>none
def storeAt (H:PH) (p:PV) (cells:List PV):Option PH :=
 match p with
 | .ptr o size i c=>match H o with
  | some (.rows s rs)=>if s=size∧c+cells.length≤size∧cells.all PV.one then match rs[i]? with
    | some r=>some (H.set o (.rows s (rs.set i (setCells r c cells))))
    | none=>none
   else none
  | _=>none
 | _=>none
def roomFor (n m bytes:Nat):Prop:=n+m≤maxLen∧(n+m)*bytes≤140737488355328
def mZ (H:PH) (size bytes:Nat) (x y:PV) (K:PV→PH→Prop):Prop :=
 ∃ src,eF H size y=some src ∧
  match x with
  | .aB=>roomFor 0 src.length bytes∧(src=[]→K .aB H)∧(src≠[]→∀ o,H o=none→K (.osl o size 0 src.length) (H.set o (.rows size src)))
  | .osl o s c len=>s=size∧c=0∧roomFor len src.length bytes∧∃ rs,H o=some (.rows size rs)∧len≤rs.length ∧
    K (.osl o size 0 (len+src.length)) (H.set o (.rows size (rs.take len++src))) ∧
    ∀ o',H o'=none→K (.osl o' size 0 (len+src.length)) (H.set o' (.rows size (rs.take len++src)))
  | _=>False
def cD (op:POp) (F:PF) (H:PH) (K:PV→PH→Prop):Prop :=
 match op with
 | .store n p x=>match p.ev F,x.ev F with
  | some a,some v=>v.cells.length=n∧∃ H',storeAt H a v.cells=some H'∧K .junk H'
  | _,_=>False
 | .append size bytes x y=>match x.ev F,y.ev F with
  | some a,some b=>mZ H size bytes a b K
  | _,_=>False
 | .aXU sh x k v=>match x.ev F,k.ev F,v.ev F with
  | some (.map o),some e,some i=>match H o,keyOf sh e with
   | some (.map d g),some c=>d=sh∧K .junk (H.set o (.map sh (g.upd c i)))
   | _,_=>False
  | _,_,_=>False
 | .insert sh x k v=>match x.ev F,k.ev F,v.ev F with
  | some (.map o),some e,some i=>match H o,keyOf sh e with
   | some (.map d g),some c=>d=sh∧g c=none∧K .junk (H.set o (.map sh (g.upd c i)))
   | _,_=>False
  | _,_,_=>False
 | _=>False
def PV.dK (o s:Nat) (rs:List (List PV)):PV→PV
 | .osl q s' c len=>if q=o then (if s'=s∧c+len≤rs.length then .sl s ((rs.drop c).take len) else .junk) else .osl q s' c len
 | v=>v
def PV.tC (o s:Nat) (rs:List (List PV)):PV→PV
 | .agg cs=>.agg (cs.map (PV.dK o s rs))
 | v=>v.dK o s rs
def PV.frz (o s:Nat) (rs:List (List PV)):PV→PV
 | .tup vs=>.tup (vs.map (PV.tC o s rs))
 | v=>v.tC o s rs
def cF.frz (o s:Nat) (rs:List (List PV)):cF→cF
 | .rows s' rs'=>.rows s' (rs'.map fun r=>r.map (PV.dK o s rs))
 | x=>x
def PF.frz (F:PF) (o s:Nat) (rs:List (List PV)):PF:=fun i=>(F i).map (PV.frz o s rs)
def PH.frz (H:PH) (o s:Nat) (rs:List (List PV)):PH :=
 ⟨fun q=>if q=o then none else (H q).map (cF.frz o s rs),by
  obtain⟨n,c⟩:=H.fin;exact⟨n,fun q d=>by simp[c q d]⟩⟩
inductive jJ:PF→PH→PF→PH→Prop
 | refl (F:PF) (H:PH):jJ F H F H
 | step {F F':PF} {H H':PH} (o:Nat) {s:Nat} {rs:List (List PV)} (ho:H o=some (.rows s rs)) (h:jJ (F.frz o s rs) (H.frz o s rs) F' H'):jJ F H F' H'
structure Ctx where
 P:Program
 num:Nat→FuncId
inductive eQ (E:Env):List PV→List Value→Prop
 | nil:eQ E [] []
 | cons {p:PV} {v:Value} {ps:List PV} {vs:List Value} (h:bA E p v) (t:eQ E ps vs):eQ E (p::ps) (v::vs)
def aH (C:Ctx) (name:Nat) (args:List PV) (H:PH) (R:PV→PH→Prop):Prop :=
 (∃ fn,C.P.funcs[C.num name]?=some fn∧fn.body.isSome=true∧(fn.name=="runtime.NumGoroutine")=false) ∧
 ∀ (E:Env) (w:World) (vs:Array Value),E.num=C.num→bQ E H w→eQ E args vs.toList →
  Calls C.P (C.num name) vs w fun e d=>∃ v pv c H',e=.returned v∧bQ c H' d∧bA c pv v∧Ext E H w c H' d∧R pv H'
def GG (C:Ctx) (l:Nat) (args:List PV) (H:PH) (R:PV→PH→Prop):Prop :=
 ∀ (E:Env) (w:World) (vs:Array Value),E.num=C.num→bQ E H w→eQ E args vs.toList →
  ∃ fn d c body,(Instr.yield l vs).run C.P w=.ok (.round l fn d c body) w∧RoundIn Fence.wide 0 C.P l fn d c body w fun e p=>∃ v pv i H',e=.returned v∧bQ i H' p∧bA i pv v∧Ext E H w i H' p∧R pv H'
def PV.axL:PV→Option Nat
 | .lit (.func (.yield l) f c)=>if f=#[]∧c=#[] then some l else none
 | _=>none
abbrev wT (l:Nat):PV:=.lit (.func (.yield l) #[] #[])
inductive kW where
 | normal
 | exit (id:Nat)
 | ret
abbrev bT:=kW→PF→PH→Prop
def PF.put (F:PF) (d:Option Nat) (v:PV):PF :=
 match d with
 | some d=>F.set d v
 | none=>F
def bZ (r:Option PV) (d:Option Nat) (K:PF→PH→Prop) (F:PF) (H:PH):Prop:=∃ v,r=some v∧K (F.put d v) H
def nF (r:Option ((Nat→PV) × cF)) (d:Option Nat) (K:PF→PH→Prop) (F:PF) (H:PH):Prop :=
 ∃ c x,r=some (c,x)∧∀ o,H o=none→K (F.put d (c o)) (H.set o x)
def mH (H c H':PH):Prop:=∀ o x,H' o=some x→c o=none→H o=none
def sQ (C:Ctx) (name:Nat) (args:Option (List PV)) (d:Option Nat) (K:PF→PH→Prop) (F:PF) (H:PH):Prop :=
 ∃ vs c R,args=some vs∧c.le H∧aH C name vs c R∧∀ r H',R r H'→mH H c H'→K (F.put d r) (H.over c H')
def iV (C:Ctx) (name:Nat) (args:List aQ) (cs:List PV) (d:Option Nat) (K:PF→PH→Prop) (F:PF) (H:PH):Prop :=
 sQ C name ((aQ.evs F args).map (·++cs)) d K F H ∨
 ∃ c e,jJ F H c e∧sQ C name ((aQ.evs c args).map (·++cs)) d K c e
def OH (C:Ctx) (l:Nat) (args:Option (List PV)) (d:Option Nat) (K:PF→PH→Prop) (F:PF) (H:PH):Prop :=
 ∃ vs c R,args=some vs∧c.le H∧GG C l vs c R∧∀ r H',R r H'→mH H c H'→K (F.put d r) (H.over c H')
def aiZ (C:Ctx) (l:Nat) (args:List aQ) (d:Option Nat) (K:PF→PH→Prop) (F:PF) (H:PH):Prop :=
 OH C l (aQ.evs F args) d K F H∨∃ c e,jJ F H c e∧OH C l (aQ.evs c args) d K c e
def vL (C:Ctx) (v:Option PV) (args:List aQ) (d:Option Nat) (K:PF→PH→Prop) (F:PF) (H:PH):Prop :=
 match v with
 | some (.fn name cs)=>iV C name args cs d K F H
 | some (.lit u)=>∃ l,PV.axL (.lit u)=some l∧aiZ C l args d K F H
 | _=>False
def POp.gY:POp→Bool
 | .alloc _ | .box false _ | .aXI false .. | .aXK .. | .aYI _=>true
 | _=>false
def POp.eI:POp→Bool
 | .store .. | .append .. | .aXU .. | .insert ..=>true
 | _=>false
def wpOp (C:Ctx) (op:POp) (d:Option Nat) (K:PF→PH→Prop) (F:PF) (H:PH):Prop :=
 match op with
 | .call name args=>iV C name args [] d K F H
 | .aYE x args=>vL C (x.ev F) args d K F H
 | op=>if op.gY then nF (dD op F) d K F H else if op.eI then cD op F H (fun r H'=>K (F.put d r) H') else bZ (aP op F H) d K F H
def wpOps (C:Ctx):List aU→(PF→PH→Prop)→PF→PH→Prop
 | [],K,F,H=>K F H
 | i::rest,K,F,H=>match i.guard with
  | none=>wpOp C i.op i.dst (wpOps C rest K) F H
  | some (t,c)=>match F t with
   | some (.bool b)=>if b=c then wpOp C i.op i.dst (wpOps C rest K) F H else wpOps C rest K (F.put i.dst (.tup [])) H
   | some (.tup [])=>wpOps C rest K (F.put i.dst (.tup [])) H
   | _=>False
def PH.only (H:PH) (D:List Nat):PH :=
 ⟨fun o=>if o∈D then H o else none,by
  obtain⟨n,c⟩:=H.fin;exact⟨n,fun o d=>by simp[c o d]⟩⟩
abbrev Spec:=Nat→List PV→Option (List Nat × (PH→PV→PH→Prop))
inductive Kind where
 | fail
 | calm (f:PH→Option PV)
 | new (r:Option ((Nat→PV) × cF))
 | write (w:PH→(PV→PH→Prop)→Prop)
 | call (name:Nat) (args:Option (List PV))
 | ins (r:Option (Nat × MSh × List KS × PV))
noncomputable def POp.kind (op:POp) (F:PF):Kind :=
 match op with
 | .call name args=>.call name (aQ.evs F args)
 | .aYE x args=>match x.ev F with
  | some (.fn name cs)=>.call name ((aQ.evs F args).map (·++cs))
  | _=>.fail
 | .insert sh x k v=>.ins (match x.ev F,k.ev F,v.ev F with
  | some (.map o),some d,some e=>(keyOf sh d).map fun c=>(o,sh,c,e)
  | _,_,_=>none)
 | op=>if op.gY then .new (dD op F) else if op.eI then .write (fun H K=>cD op F H K) else .calm (aP op F)
noncomputable def aU.kind (i:aU) (F:PF):Kind :=
 match i.guard with
 | none=>i.op.kind F
 | some (t,c)=>match F t with
  | some (.bool b)=>if b=c then i.op.kind F else .calm (fun _=>some (.tup []))
  | some (.tup [])=>.calm (fun _=>some (.tup []))
  | _=>.fail
def Kind.run (C:Ctx) (Hs:PH) (S:Spec) (st:Bool) (k:Kind) (K:PV→PH→Prop) (H:PH):Prop :=
 match k with
 | .fail=>False
 | .calm f=>∃ v,f (if st then Hs else H)=some v∧K v H
 | .new r=>∃ d x,r=some (d,x)∧∀ o,H o=none→K (d o) (H.set o x)
 | .write w=>w H fun r H'=>Hs.le H'∧K r H'
 | .ins r=>∃ o sh c v g,r=some (o,sh,c,v)∧H o=some (.map sh g)∧g c=none∧Hs o=none∧K .junk (H.set o (.map sh (g.upd c v)))
 | .call name args=>∃ vs D R,args=some vs∧S name vs=some (D,R)∧(∀ o∈D,∃ x,H o=some x)∧aH C name vs (H.only D) (R (H.only D)) ∧
   (∀ G:PH,∃ r H',R (H.only D) r H'∧mH G (H.only D) H') ∧
   ∀ r H',R (H.only D) r H'→mH H (H.only D) H'→Hs.le (H.over (H.only D) H')∧K r (H.over (H.only D) H')
def wpD (C:Ctx) (Hs:PH) (S:Spec):List (aU × Bool)→(PF→PH→Prop)→PF→PH→Prop
 | [],K,F,H=>K F H
 | i::rest,K,F,H=>(i.1.kind F).run C Hs S i.2 (fun v H'=>wpD C Hs S rest K (F.put i.1.dst v) H') H
def gS (C:Ctx) (w:bT→PF→PH→Prop) (K:bT):bT
 | .normal,F,H=>w K F H
 | e,F,H=>K e F H
def fF (id:Nat) (K:bT):bT
 | .exit c,F,H=>if c=id then K .normal F H else K (.exit c) F H
 | e,F,H=>K e F H
def fR {α:Type} (i:α→PF) (Hs:α→PH) (l:α→Prop) (m:α→Nat) (n:Nat) (K:bT):bT
 | .normal,F,H=>∃ a c d,jJ F H c d∧l a∧m a<n∧(i a).le c∧(Hs a).le d
 | e,F,H=>K e F H
def aC.wp (C:Ctx):aC→bT→PF→PH→Prop
 | .skip,K,F,H=>K .normal F H
 | .region ops,K,F,H=>wpOps C ops (K .normal) F H
 | .draw ops,K,F,H=>∃ Hs S,PH.le Hs H∧wpD C Hs S ops (K .normal) F H
 | .seq a b,K,F,H=>a.wp C (gS C (b.wp C) K) F H
 | .cond c a b,K,F,H=>match c.ev F with
  | some (.bool t)=>if t then a.wp C K F H else b.wp C K F H
  | _=>False
 | .block id c,K,F,H=>c.wp C (fF id K) F H
 | .loop c,K,F,H=>∃ (α:Type) (d:α→PF) (Hs:α→PH) (e:α→Prop) (m:α→Nat) (i:α) (l:PF) (p:PH),jJ F H l p∧e i∧(d i).le l∧(Hs i).le p ∧
   ∀ a,e a→c.wp C (fR d Hs e m (m a) K) (d a) (Hs a)
 | .exit id,K,F,H=>K (.exit id) F H
 | .ret,K,F,H=>K .ret F H
def dS.ev (F:PF) (H:PH):dS→Option PV
 | .tmp t=>F t
 | .cell t none=>match F t with
  | some p=>match loadCells H p 1 with
   | some [v]=>some v
   | _=>none
  | none=>none
 | .cell t (some k)=>match F t with
  | some p=>(loadCells H p k).map .agg
  | none=>none
def dS.evs (F:PF) (H:PH):List dS→Option (List PV)
 | []=>some []
 | r::rs=>match r.ev F H,dS.evs F H rs with
  | some v,some vs=>some (v::vs)
  | _,_=>none
def bL:List PV→PV
 | [v]=>v
 | vs=>.tup vs
def aR (res:List dS) (R:PV→PH→Prop):bT
 | .exit _,_,_=>False
 | _,F,H=>∃ vs,dS.evs F H res=some vs∧∃ c d H2,jJ (PF.nil.set 0 (bL vs)) H c d∧H2.le d∧∃ v,c 0=some v∧R v H2
def PF.args (vs:List PV):PF:=fun i=>vs[i]?
structure Tbl where
 P:Program
 num:Nat→FuncId
 name:FuncId→Option Nat
 ro:List Nat:=[]
def ofValue:Value→Option PV
 | .int k n=>some (.int k n)
 | .bool b=>some (.bool b)
 | .string s=>some (.str s.data.toList)
 | .slice none 0 0=>some .aB
 | .pointer none=>some (.lit (.pointer none))
 | .map none=>some (.lit (.map none))
 | .nilIface=>some (.lit .nilIface)
 | .nilFunc=>some (.lit .nilFunc)
 | _=>none
theorem vY {E:Env} {v:Value} {pv:PV} (h:ofValue v=some pv):bA E pv v:=by
 unfold ofValue at h;split at h<;>cases h
 ·exact .int _ _
 ·exact .bool _
 ·exact .str _
 ·exact .aB
 all_goals exact .lit _
def ofValues:List Value→Option (List PV)
 | []=>some []
 | v::vs=>match ofValue v,ofValues vs with
  | some p,some ps=>some (p::ps)
  | _,_=>none
namespace Tbl
variable (T:Tbl)
def opd:Operand→Option aQ
 | .tmp t=>some (.tmp t)
 | .const v=>(ofValue v).map .const
 | .func f=>match T.name f with
  | some n=>if T.num n=f then some (.const (.fn n [])) else none
  | none=>none
 | .global _=>none
def el:List Operand→Option (List aQ)
 | []=>some []
 | x::xs=>match T.opd x,el xs with
  | some p,some ps=>some (p::ps)
  | _,_=>none
def size (t:TypeId):Option Nat:=(T.P.info? t).map (·.size)
def isAgg (t:TypeId):Option Bool :=
 match T.P.underlying t with
 | some (.struct _) | some (.array _ _)=>some true
 | some _=>some false
 | none=>none
def zero (t:TypeId):Option (List PV):=((T.P.info? t).bind (·.zero)).bind fun z=>ofValues z.cells.toList
def scalar (t:TypeId):Option Sc :=
 match T.P.underlying t with
 | some (.int _)=>some .int
 | some .bool=>some .bool
 | some .string=>some .str
 | _=>none
def rU:Nat→List Field→Option (List Sc)
 | _,[]=>some []
 | k,f::d=>match T.scalar f.type,rU (k+1) d with
  | some c,some cs=>if f.name≠"_"∧f.offset=k then some (c::cs) else none
  | _,_=>none
def flat (t:TypeId):Option (List Sc) :=
 match T.P.underlying t with
 | some (.struct c)=>if T.P.stoodInHeld t=false∧T.P.eqGuardType T.P.depth t=false then T.rU 0 c.toList else none
 | _=>none
def zG (t:TypeId):Option KSh :=
 match T.P.underlying t with
 | some (.int k)=>some (.int k)
 | some .bool=>some .bool
 | some .string=>some .str
 | _=>none
def lH:Nat→List Field→Option (List KSh)
 | _,[]=>some []
 | k,f::d=>match T.zG f.type,lH (k+1) d with
  | some c,some cs=>if f.name≠"_"∧f.offset=k then some (c::cs) else none
  | _,_=>none
def lO (t:TypeId):Option MSh :=
 match T.P.underlying t with
 | some (.struct d)=>if T.P.stoodInHeld t=false then (T.lH 0 d.toList).map fun l=>(true,l) else none
 | _=>(T.zG t).map fun c=>(false,[c])
def opt (x:Option Operand):Option (Option aQ) :=
 match x with
 | none=>some none
 | some x=>(T.opd x).map some
def place (c:Array Field) (i:Nat):Option (Nat × Nat) :=
 match c[i]? with
 | some f=>(T.size f.type).map (f.offset,·)
 | none=>none
def partsOf (place:Nat→Option (Nat × Nat)):List (Nat × Operand)→Option (List (Nat × Nat × aQ))
 | []=>some []
 | (i,x)::rest=>match place i,T.opd x,partsOf place rest with
  | some (c,size),some p,some ps=>some ((c,size,p)::ps)
  | _,_,_=>none
def sF:List (Nat × Operand)→Option (List (Nat × aQ))
 | []=>some []
 | (i,x)::rest=>match T.opd x,sF rest with
  | some p,some ps=>some ((i,p)::ps)
  | _,_=>none
def wu (d:Option Tmp):Bool :=
 match d with
 | some d=>T.ro.contains d
 | none=>false
def call (o:Oper) (c:Call):Option POp :=
 match c.callee with
 | .builtin b=>match b,c.args.toList,c.argTypes.toList with
  | .len,[x],[t]=>match T.P.underlying t with
   | some (.array n _)=>some (.mv (.const (.int .i64 n)))
   | some .string=>(T.opd x).map .aYC
   | some (.slice _)=>(T.opd x).map .len
   | some (.map _ _)=>(T.opd x).map .lenM
   | _=>none
  | .append,[x,y],[t,u]=>match T.P.underlying t,T.P.underlying u with
   | some (.slice e),some (.slice _)=>match T.P.info? e,T.opd x,T.opd y with
    | some i,some a,some b=>if t=u∧i.zero.isSome∧(i.zero.map (·.cells.size))=some i.size∧0<i.size then some (.append i.size i.bytes a b) else none
    | _,_,_=>none
   | _,_=>none
  | .cap,[x],[t]=>match T.P.underlying t with
   | some (.slice _)=>(T.opd x).map .aYM
   | _=>none
  | .max,[x,y],_=>match T.opd x,T.opd y with
   | some a,some b=>some (.aXX true a b)
   | _,_=>none
  | .min,[x,y],_=>match T.opd x,T.opd y with
   | some a,some b=>some (.aXX false a b)
   | _,_=>none
  | _,_,_=>none
 | .value (.func f)=>match T.name f,T.el c.args.toList with
  | some n,some xs=>if T.num n=f then some (.call n xs) else none
  | _,_=>none
 | .value (.tmp t)=>(T.el c.args.toList).map (.aYE (.tmp t))
 | _=>none
def op (o:Oper):Option POp :=
 match o.op with
 | .move x | .assign x=>(T.opd x).map .mv
 | .pick c a b=>match T.opd c,T.opd a,T.opd b with
  | some c,some a,some b=>some (.pick c a b)
  | _,_,_=>none
 | .alloc e=>(T.zero e).map .alloc
 | .box _ x=>(T.opd x).map (.box (T.wu o.dst))
 | .build t parts=>match T.zero t,T.P.underlying t with
  | some z,some (.struct B)=>if (B.toList.mapM (fun f=>(T.P.info? f.type).map fun i=>(f.offset,i.size))).isSome then
    (T.partsOf (T.place B) parts.toList).map (.build z)
   else none
  | some z,some (.array _ e)=>match T.size e with
   | some s=>(T.partsOf (fun i=>some (i*s,s)) parts.toList).map (.build z)
   | none=>none
  | _,_=>none
 | .buildSlice t len parts=>match T.P.underlying t with
  | some (.slice e)=>match T.size e,T.zero e,T.sF parts.toList with
   | some s,some z,some ps=>if z.length=s∧0<s then some (.aXI (T.wu o.dst) s len z ps) else none
   | _,_,_=>none
  | _=>none
 | .load t a=>match T.isAgg t,T.size t,T.opd a with
  | some true,some n,some p=>some (.load (some n) p)
  | some false,_,some p=>some (.load none p)
  | _,_,_=>none
 | .store t a x=>match T.size t,T.opd a,T.opd x with
  | some n,some p,some v=>some (.store n p v)
  | _,_,_=>none
 | .nilCheck x=>(T.opd x).map .aXP
 | .binOp b t x y _=>match T.opd x,T.opd y with
  | some p,some q=>match b with
   | .eql=>match T.P.underlying t with
    | some (.int _) | some .string=>some (.bin .eql p q)
    | some .bool=>some (.eqb false p q)
    | some (.struct _)=>(T.flat t).map fun F=>.eqs false F p q
    | some (.slice _)=>match q with
     | .const .aB=>some (.isNil false p)
     | _=>none
    | _=>none
   | .neq=>match T.P.underlying t with
    | some (.int _) | some .string=>some (.bin .neq p q)
    | some .bool=>some (.eqb true p q)
    | some (.struct _)=>(T.flat t).map fun F=>.eqs true F p q
    | some (.slice _)=>match q with
     | .const .aB=>some (.isNil true p)
     | _=>none
    | _=>none
   | b=>some (.bin b p q)
  | _,_=>none
 | .unOp u _ x=>(T.opd x).map (.un u)
 | .convert s d x=>match T.P.underlying s,T.P.underlying d,T.opd x with
  | some (.int _),some (.int k),some p=>some (.conv k p)
  | some .string,some .string,some p=>some (.same p)
  | some (.slice e),some .string,some p=>match T.P.underlying e with
   | some (.int .u8)=>some (.aXQ p)
   | _=>none
  | _,_,_=>none
 | .makeFunc (.func f) A captured=>match T.name f,T.el captured.toList with
  | some n,some cs=>if T.num n=f∧A.size=0 then some (.mkfn n cs) else none
  | _,_=>none
 | .makeMap t none=>match T.P.underlying t with
  | some (.map k _)=>(T.lO k).map .aYI
  | _=>none
 | .lookup t x k ok=>match T.P.underlying t with
  | some (.map E H)=>match T.lO E,(T.P.info? H).bind (·.zero),T.opd x,T.opd k with
   | some sh,some z,some p,some q=>(ofValue z).map fun z=>.lookup sh z p q ok
   | _,_,_,_=>none
  | _=>none
 | .mapUpdate t x k v=>match T.P.underlying t with
  | some (.map E _)=>match T.lO E,T.opd x,T.opd k,T.opd v with
   | some sh,some p,some q,some r=>some (.aXU sh p q r)
   | _,_,_,_=>none
  | _=>none
 | .insert t x k v=>match T.P.underlying t with
  | some (.map E _)=>match T.lO E,T.opd x,T.opd k,T.opd v with
   | some sh,some p,some q,some r=>some (.insert sh p q r)
   | _,_,_,_=>none
  | _=>none
 | .makeSlice t l c=>match T.P.underlying t with
  | some (.slice e)=>match T.P.info? e,T.zero e,T.opd l,T.opd c with
   | some i,some z,some a,some b=>if z.length=i.size∧0<i.size then some (.aXK i.size i.bytes z a b) else none
   | _,_,_,_=>none
  | _=>none
 | .slice t x lo hi mx=>match T.P.underlying t,T.opd x,T.opt lo,T.opt hi,T.opt mx with
  | some (.slice e),some p,some l,some h,some m=>if mx.isSome=true∧hi.isNone=true then none else (T.size e).map fun s=>.slice s p l h m
  | some .string,some p,some l,some h,some none=>some (.aXZ p l h)
  | some (.array n e),some p,some none,some none,some none=>(T.size e).map fun s=>.sliceA n s p none none none
  | _,_,_,_,_=>none
 | .fieldAddr t x f=>match T.P.underlying t,T.opd x with
  | some (.struct B),some p=>match B[f]? with
   | some w=>match T.size w.type with
    | some (_+1)=>some (.aYF w.offset p)
    | _=>none
   | none=>none
  | _,_=>none
 | .field t x f=>match T.P.underlying t,T.opd x with
  | some (.struct B),some p=>match B[f]? with
   | some w=>match T.isAgg w.type,T.size w.type with
    | some true,some n=>some (.field w.offset (some n) p)
    | some false,_=>some (.field w.offset none p)
    | _,_=>none
   | none=>none
  | _,_=>none
 | .indexAddr t x i=>match T.P.underlying t,T.opd x,T.opd i with
  | some (.slice e),some p,some q=>(T.size e).map fun s=>.aXT s p q
  | some (.array n e),some p,some q=>(T.size e).map fun s=>.idxA n s p q
  | _,_,_=>none
 | .index t x i=>match T.P.underlying t,T.opd x,T.opd i with
  | some (.array n e),some p,some q=>match T.size e,T.isAgg e with
   | some s,some g=>some (.idxV n s g p q)
   | _,_=>none
  | some .string,some p,some q=>some (.aYD p q)
  | _,_,_=>none
 | .extract x i=>(T.opd x).map (.extract · i)
 | .call c=>T.call o c
 | _=>none
def WH (n:Nat) (ops:Array Oper) (o:Oper):Option aU :=
 let p:=(T.op o).getD .stuck
 if o.dst.all (·<n) then
  match o.guard with
  | none=>some ⟨o.dst,p,none⟩
  | some (j,c)=>match (ops[j]?).bind (·.dst) with
   | some t=>some ⟨o.dst,p,some (t,c)⟩
   | none=>none
 else none
def rC (n:Nat) (ops:Array Oper):List Oper→Option (List aU)
 | []=>some []
 | o::os=>match T.WH n ops o,rC n ops os with
  | some i,some c=>some (i::c)
  | _,_=>none
end Tbl
end Go.PM
namespace Go.PM
open Go
structure dO (ds:List Deferred) (n:Nat) (E:Env) (F:PF) (a:Act):Prop where
 size:a.tmps.size=n
 defers:a.defers=ds
 t:∀ i pv,F i=some pv→bA E pv (a.tmps.getD i undef)
theorem dO.mono {ds:List Deferred} {n:Nat} {E c:Env} (h:E.le c) {F:PF} {a:Act} (r:dO ds n E F a):dO ds n c F a:=⟨r.size,r.defers,fun i pv hi=>(r.t i pv hi).mono h⟩
theorem dO.weaken {ds:List Deferred} {n:Nat} {E:Env} {F c:PF} {a:Act} (r:dO ds n E F a) (h:c.le F):dO ds n E c a:=⟨r.size,r.defers,fun i pv hi=>r.t i pv (h i pv hi)⟩
theorem dO.put {ds:List Deferred} {n:Nat} {E:Env} {F:PF} {a:Act} (r:dO ds n E F a) {d:Option Tmp} (l:d.all (·<n)=true) {pv:PV} {v:Value} (h:bA E pv v):dO ds n E (F.put d pv) (a.put d v):=by
 cases d with
 | none=>exact r
 | some d =>
  have c:d<n:=by simpa using l
  refine⟨by simp[Act.put,r.size],by simp[Act.put,r.defers],fun i p hi=>?_⟩;simp only[PF.put,PF.set,upd] at hi;split at hi
  ·rename_i e;subst e;cases hi;simp only[Act.put,a2K];rw[Array.getElem?_setIfInBounds];simp[r.size,c,h]
  ·rename_i e;have:=r.t i p hi;simp only[Act.put,a2K] at this ⊢;rw[Array.getElem?_setIfInBounds,if_neg Om];exact this
section
variable {ds:List Deferred} {T:Tbl} {n:Nat} {E:Env} {F:PF} {H:PH} {a:Act} {w:World}
theorem bC {x:Operand} {p:aQ} {pv:PV} (c:T.opd x=some p) (d:p.ev F=some pv) (e:dO ds n E F a) (i:E.num=T.num):bA E pv (a.eval x):=by
 cases x with
 | tmp t =>simp[Tbl.opd] at c;subst c;exact e.t t pv d
 | const v =>simp only[Tbl.opd,aYX] at c;obtain⟨q,u,rfl⟩:=c;simp[aQ.ev] at d;subst d;exact vY u
 | global g=>simp[Tbl.opd] at c
 | func f =>
  simp only[Tbl.opd] at c;split at c
  ·rename_i m y;split at c
   ·rename_i l;cases c;simp[aQ.ev] at d;subst d;have:=bA.fn (E:=E) (name:=m) (captured:=[]) #[] rfl (by intro j pv v h; simp at h);rw[i,l] at this;exact this
   ·cases c
  ·cases c
theorem yC {xs:List Operand}:∀ {ps:List aQ} {c:List PV},T.el xs=some ps→aQ.evs F ps=some c→dO ds n E F a→E.num=T.num→eQ E c (xs.map a.eval):=by
 induction xs with
 | nil =>intro ps c d e _ _;simp[Tbl.el] at d; subst d;simp[aQ.evs] at e; subst e;exact .nil
 | cons x xs J =>
  intro ps c d e u y;simp only[Tbl.el] at d;split at d
  ·rename_i p K A i;cases d;simp only[aQ.evs] at e;split at e
   ·rename_i v vs B l;cases e;exact .cons (bC A B u y) (J i l u y)
   ·cases e
  ·cases d
theorem bQ.Zl (hW:bQ E H w) {b c:Nat} {u:Value} (h:E.cell b c=some u):w.cell? ⟨b,c,none⟩=some u:=by
 unfold Env.cell at h;cases d:E.G b with
 | none=>simp[d] at h
 | some cs =>obtain⟨-,ty,fr,e⟩:=hW.g b cs d;rw[cell_of_row w b c cs ty fr e];simpa [d] using h
theorem add_plain (b c i:Nat):(⟨b,c,none⟩:Addr).add i=⟨b,c+i,none⟩:=by unfold Addr.add; split<;>simp_all
theorem oG {c:Addr} (h:c.spot=none):c=⟨c.block,c.off,none⟩:=by cases c; simp_all
theorem pG {pv:PV} {v:Value} (hW:bQ E H w) (Y:bA E pv v) {k:Nat} {cs:List PV} (h:loadCells H pv k=some cs) :
  ∃ b K,v=.pointer (some ⟨b,K,none⟩)∧cs.length=k∧∃ M:List Value,M.length=k∧(∀ u∈M,u.oneCell'=true) ∧
   (∀ (j:Nat) u,M[j]?=some u→w.cell? ⟨b,K+j,none⟩=some u)∧∀ (j:Nat) q u,cs[j]?=some q→M[j]?=some u→bA E q u:=by
 unfold loadCells at h;split at h
 ·rename_i o size i c;cases Y;split at h
  ·rename_i s rs ho;split at h
   ·rename_i hs;subst hs;split at h
    ·rename_i r Q;split at h
     ·rename_i α;cases h;obtain⟨-,y,ty,hh,γ,X,W,N⟩:=hW.h o _ ho;have B:∀ j,j<k→∃ u,y[i*s+(c+j)]?=some u∧u.oneCell'=true∧bA E (r.getD (c+j) .junk) u:=by intro j V;refine N i (c+j) _ ?_;simp only[at2,Q,a2C,aZG];rw[aZA Om];rfl
      refine⟨o,i*s+c,rfl,by simp; omega,?_⟩;refine⟨(aYO k).map fun j=>(y[i*s+(c+j)]?).getD undef,by simp,?_,?_,?_⟩
      ·intro u l;simp only[aZQ,aZR] at l;obtain⟨j,V,rfl⟩:=l;obtain⟨u,A,Z,-⟩:=B j V;simp[A,Z]
      ·intro j u l;simp only[aZN,aYX] at l;obtain⟨S,d,rfl⟩:=l;have e:j<k:=by
        rcases aZL j k with h | h
        ·exact h
        ·rw[a0H (by simpa using h)] at d; cases d
       rw[List.getElem?_range e] at d;cases d;obtain⟨u,A,-,-⟩:=B j e;rw[cell_of_row w o _ y ty (0,0) hh,a1D,A];rfl
      ·intro j q u J l;simp only[aZN,aYX] at l;obtain⟨S,d,rfl⟩:=l;have e:j<k:=by
        rcases aZL j k with h | h
        ·exact h
        ·rw[a0H (by simpa using h)] at d; cases d
       rw[List.getElem?_range e] at d;cases d;obtain⟨u,A,-,h3⟩:=B j e;have O:r.getD (c+j) .junk=q:=by rw[a2E,if_pos e,List.getElem?_drop] at J;simp[J]
       rw[← O,A];exact h3
     ·cases h
    ·cases h
   ·cases h
  ·cases h
 ·rename_i cells;cases Y with
  | bH u R N A Q =>
  rename_i U;split at h
  ·rename_i β;cases h;refine⟨U.block,U.off,by rw[← oG R],by simp; omega,(aYO k).map u,by simp,?_,?_,?_⟩
   ·intro x p;simp only[aZQ] at p;obtain⟨j,-,rfl⟩:=p;exact A j
   ·intro j x p;simp only[aZN,aYX] at p;obtain⟨S,d,rfl⟩:=p;have e:j<k:=by
     rcases aZL j k with h | h
     ·exact h
     ·rw[a0H (by simpa using h)] at d; cases d
    rw[List.getElem?_range e] at d;cases d;exact hW.Zl (N j _ (aZA Om))
   ·intro j q x J p;simp only[aZN,aYX] at p;obtain⟨S,d,rfl⟩:=p;have e:j<k:=by
     rcases aZL j k with h | h
     ·exact h
     ·rw[a0H (by simpa using h)] at d; cases d
    rw[List.getElem?_range e] at d;cases d;rw[a2E,if_pos e] at J;exact Q j q J
  ·cases h
 ·cases h
theorem aqV {op : BinOp} {px py pv : PV} {x y : Value} (hx : bA E px x) (hy : bA E py y) (h : PV.bin op px py = some pv) (t : TypeId) (ox oy : Operand) :
    ∃ v, (do eqGuard op t ox oy x y; binOp op t x y : Sem Value).run T.P w = .ok v w ∧ bA E pv v := by
  unfold PV.bin at h;split at h
  · cases hx; cases hy
    unfold shift at h;split at h
    · cases h
    · rename_i hb
      cases h;exact ⟨_, by simp [eqGuard, binOp, Op.shift, hb], .int _ _⟩
  · cases hx; cases hy
    unfold shift at h;split at h
    · cases h
    · rename_i hb
      cases h;exact ⟨_, by simp [eqGuard, binOp, Op.shift, hb], .int _ _⟩
  · rename_i op' k a k' b n1 n2
    cases hx; cases hy;split at h
    · rename_i hk
      subst hk;cases op <;> simp only [lK] at h <;>
        first
          | (cases h; refine ⟨_, ?_, bA.int _ _⟩; simp [eqGuard, binOp, Op.intArith, Op.intBits]; done)
          | (cases h; refine ⟨_, ?_, bA.bool _⟩; simp [eqGuard, binOp, Op.intCmp]; done)
          | (split at h
             · cases h
             · rename_i hb
               cases h;refine ⟨_, ?_, bA.int _ _⟩;simp [eqGuard, binOp, Op.intDiv, hb])
          | cases h
    · cases h
  · rename_i op' a b
    cases hx with
    | str s =>
    cases hy with
    | str s' =>
    cases op <;> simp only [QA] at h <;>
      first
        | (cases h; refine ⟨_, ?_, bA.bool _⟩; simp [eqGuard, binOp, Op.stringOp, ByteArray.toList_eq]; done)
        | (split at h
           · cases h
           · rename_i hb
             cases h;refine ⟨.string (s ++ s'), ?_, ?_⟩
             · have hb' : ¬ (((s.size + s'.size : Nat) : Int) > IntKind.i64.max) := by
                 intro hh;apply hb;have e1 : s.data.toList.length = s.size := by rw [a1W]; rfl
                 have e2 : s'.data.toList.length = s'.size := by rw [a1W]; rfl
                 rw [e1, e2];exact hh
               have e1 : Op.stringOp .add s s' = pure (.string (s ++ s')) := by unfold Op.stringOp; exact if_neg hb'
               have e2 : binOp .add t (.string s) (.string s') = pure (.string (s ++ s')) := by unfold binOp; exact e1
               simp [eqGuard, e2]
             · have e : s.data.toList ++ s'.data.toList = (s ++ s').data.toList := by rw [ByteArray.data_append, Array.toList_append]
               rw [e];exact .str _)
        | cases h
  · cases h
theorem aEZ {u:UnOp} {d pv:PV} {x:Value} (c:bA E d x) (h:PV.un u d=some pv):∃ v,(Op.unary u x).run T.P w=.ok v w∧bA E pv v:=by
 unfold PV.un at h;split at h
 ·cases c;split at h
  ·cases h; exact⟨_,by simp[Op.unary,Op.intArith],.int _ _⟩
  ·cases h; exact⟨_,by simp[Op.unary,Op.intBits],.int _ _⟩
  ·cases h
 ·cases c;split at h
  ·cases h; exact⟨_,by simp[Op.unary],.bool _⟩
  ·cases h
 ·cases h
end
open Go Go.RowKit
def Yields (P:Program) (E:Env) (H:PH) (w:World) (s:Sem Value) (pv:PV):Prop :=
 ∃ v d c,s.run P w=.ok v d∧bA c pv v∧bQ c H d∧Ext E H w c H d
theorem Yields.same {P:Program} {E:Env} {H:PH} {w:World} {s:Sem Value} {pv:PV} {v:Value} (hW:bQ E H w) (h:s.run P w=.ok v w) (r:bA E pv v):Yields P E H w s pv :=
 ⟨v,w,E,h,r,hW,.refl E H w⟩
def Env.add (E:Env) (b:Nat) (cs:Array Value):Env:=⟨upd E.G b (some cs),upd E.sz b (some cs.size),E.num⟩
section
variable {T:Tbl} {n:Nat} {E:Env} {F:PF} {H:PH} {a:Act} {w:World}
theorem bQ.amC (hW:bQ E H w) {b:Nat} {cs:Array Value} (h:E.G b=some cs):b<w.heap.size:=by
 obtain⟨-,ty,fr,c⟩:=hW.g b cs h;exact (a2A.1 c).1
theorem bQ.Ub (hW:bQ E H w) {b n:Nat} (h:E.sz b=some n):b<w.heap.size:=by
 obtain⟨c,ty,fr,d,-⟩:=hW.s b n h;exact (a2A.1 d).1
theorem bQ.amV (hW:bQ E H w):H w.heap.size=none:=by
 cases h:H w.heap.size with
 | none=>rfl
 | some x=>have:=(hW.h _ x h).1; omega
theorem Env.aOC (hW:bQ E H w) (cs:Array Value):E.le (E.add w.heap.size cs):=by
 refine⟨fun b ds h=>?_,fun b m h=>?_,rfl⟩
 ·have:=hW.amC h;simp only[Env.add];rw[UZ _ _ Om];exact h
 ·have:=hW.Ub h;simp only[Env.add];rw[UZ _ _ Om];exact h
theorem bQ.aGN (hW:bQ E H w) (cs:Array Value) (ty:TypeId):bQ (E.add w.heap.size cs) H (w.alloc (.cells cs ty))∧Ext E H w (E.add w.heap.size cs) H (w.alloc (.cells cs ty)):=by
 have l:=Env.aOC hW cs;refine⟨⟨fun b ds h=>?_,fun o x h=>?_,fun o m h=>?_⟩,⟨l,rfl,rfl,rfl,by simp,fun b y _=>Below.heap_alloc w _ b y,fun o x h=>.inl ⟨x,h⟩,fun b ds h=>?_⟩⟩
 ·simp only[Env.add,upd] at h;split at h
  ·rename_i e;cases h;subst e;exact⟨fun x u=>by (rw[hW.amV] at u; cases u),ty,(0,0),heap_alloc_new w _⟩
  ·obtain⟨d,c,fr,i⟩:=hW.g b ds h;exact⟨d,c,fr,(Below.heap_alloc w _ b (hW.amC h)).trans i⟩
 ·obtain⟨d,i⟩:=hW.h o x h;exact⟨by simp; omega,i.mono l (Below.heap_alloc w _ o d)⟩
 ·simp only[Env.add,upd] at h;split at h
  ·rename_i e;cases h;subst e;exact⟨cs,ty,(0,0),heap_alloc_new w _,rfl⟩
  ·obtain⟨p,c,fr,d,i⟩:=hW.s o m h;exact⟨p,c,fr,(Below.heap_alloc w _ o (hW.Ub h)).trans d,i⟩
 ·simp only[Env.add,upd] at h;split at h
  ·rename_i e; exact .inr (.inr Om)
  ·exact .inl h
theorem aoF {pv:PV} {v:Value} (h:bA E pv v) (c:pv.one=true):v.oneCell'=true:=by
 cases h with
 | lit v=>cases v<;>first | rfl | (simp[PV.one] at c)
 | junk v=>simp[PV.one] at c
 | agg vs=>simp[PV.one] at c
 | tup vs=>simp[PV.one] at c
 | _=>rfl
theorem wG {pv:PV} {v:Value} (h:bA E pv v) (i:pv.cells.all PV.one=true) :
  v.cells.size=pv.cells.length∧(∀ u∈v.cells.toList,u.oneCell'=true)∧∀ (j:Nat) q u,pv.cells[j]?=some q→v.cells[j]?=some u→bA E q u:=by
 by_cases c:∃ cs,pv=.agg cs
 ·obtain⟨cs,rfl⟩:=c;cases h with
  | agg vs x d y=>exact⟨x,d,y⟩
 ·have p:pv.cells=[pv]:=by cases pv<;>first | rfl | (exact absurd ⟨_,rfl⟩ c)
  rw[p] at i ⊢;have d:v.oneCell'=true:=aoF h (by simpa using i);have A:v.cells=#[v]:=by cases v<;>first | rfl | (simp[Value.oneCell'] at d)
  rw[A];refine⟨rfl,by simpa using d,fun j q u e l=>?_⟩;cases j with
  | zero=>simp at e l; subst e; subst l; exact h
  | succ j=>simp at e
theorem Bf {c:Sc} {p q:PV} {x y:Value} (u:bA E p x) (A:bA E q y) {b:Bool} (h:PV.eq1 c p q=some b) {t:TypeId} (i:T.scalar t=some c) (d:Nat) :
  (Op.equalIn (d+1) t x y).run T.P w=.ok b w:=by
 unfold Tbl.scalar at i;unfold PV.eq1 at h;split at h
 ·cases u; cases A;split at h
  ·rename_i e;subst e;cases h;split at i<;>cases i;rename_i k2 l;exact run_equalIn_int w d t _ k2 _ _ l
  ·cases h
 ·cases u; cases A; cases h;split at i<;>cases i;rename_i l;exact run_equalIn_bool w d t _ _ l
 ·cases u with
  | str s =>
  cases A with
  | str s' =>
  cases h;split at i<;>cases i;rename_i l;rw[run_equalIn_string w d t s s' l,ByteArray.toList_eq,ByteArray.toList_eq]
 ·cases h
theorem MC {t:TypeId} {c:Sc} (e:T.scalar t=some c) (cs:Array Value) (k:Nat) (v:Value) (i:cs[k]?=some v):(part t cs k).run T.P w=.ok v w:=by
 have d:(isAgg t).run T.P w=.ok false w:=by unfold Tbl.scalar at e;split at e<;>cases e<;>(rename_i l; simp[isAgg,run_underlying l])
 simp[part,d,i]
theorem RH (d:Nat) (vs l:Array Value):∀ (p:List Field) (B:List Sc) (k:Nat) (xs ys:List PV) (b:Bool),T.rU k p=some B→PV.eqs B xs ys=some b →
  (∀ (j:Nat) q u,xs[j]?=some q→vs[k+j]?=some u→bA E q u)→(∀ (j:Nat) q u,ys[j]?=some q→l[k+j]?=some u→bA E q u) →
  vs.size=k+xs.length→l.size=k+ys.length→(Op.eqFields (d+1) vs l p).run T.P w=.ok b w
 | [],B,k,xs,ys,b,i,e,M,N,O,Q=>by simp[Tbl.rU] at i;subst i;cases xs<;>cases ys<;>simp[PV.eqs] at e;subst e;simp[Op.eqFields]
 | f::p,B,k,xs,ys,b,i,e,M,N,O,Q=>by
  simp only[Tbl.rU] at i;split at i
  ·rename_i c cs A K;split at i
   ·rename_i R;cases i;cases xs with
    | nil=>simp[PV.eqs] at e
    | cons x xs =>
    cases ys with
    | nil=>simp[PV.eqs] at e
    | cons y ys =>
    simp only[PV.eqs] at e;simp only[a0F] at O Q;have W:vs[k]?=some vs[k]:=a2D Om;have V:l[k]?=some l[k]:=a2D Om;have S:bA E x vs[k]:=M 0 x _ rfl (by simp);have U:bA E y l[k]:=N 0 y _ rfl (by simp);simp only[Op.eqFields];rw[if_pos R.1];simp only[Sem.run_bind,R.2,MC A vs k _ W,MC A l k _ V,Result.andThen_ok];split at e
    ·rename_i J;rw[Bf S U J A d];simp only[Result.andThen_ok,aYT,a1S,if_false];refine RH d vs l p cs (k+1) xs ys b K e (fun j q u a c=>M (j+1) q u (by simpa using a) (by rw[← c]; congr 1; omega)) (fun j q u a c=>N (j+1) q u (by simpa using a) (by rw[← c]; congr 1; omega)) Om Om
    ·rename_i J;rw[Bf S U J A d];simp only[Result.andThen_ok,aZF,if_true,Sem.run_pure];split at e
     ·cases e; rfl
     ·cases e
    ·cases e
   ·cases i
  ·cases i
theorem arX (neg:Bool) (a b:Bool) {t:TypeId} (d e:Operand) (c:T.P.underlying t=some .bool) :
  (do eqGuard (if neg then .neq else .eql) t d e (.bool a) (.bool b); binOp (if neg then .neq else .eql) t (.bool a) (.bool b):Sem Value).run T.P w=.ok (.bool ((a==b) != neg)) w:=by
 cases neg
 ·simp[eqGuard,run_eql_bool w t a b c]
 ·simp[eqGuard,run_neq_bool w t a b c]
theorem X3 (neg:Bool) {pv:PV} {v:Value} (J:bA E pv v) {b:Bool} (i:pv.rD=some b) {t e:TypeId} (u x:Operand) (p:T.P.underlying t=some (.slice e)) :
  (do eqGuard (if neg then .neq else .eql) t u x v (.slice none 0 0); binOp (if neg then .neq else .eql) t v (.slice none 0 0):Sem Value).run T.P w=.ok (.bool (b != neg)) w:=by
 have d:∀ (a:Option Addr) (l c:Nat),b=a.isNone→v=.slice a l c→(do eqGuard (if neg then .neq else .eql) t u x v (.slice none 0 0); binOp (if neg then .neq else .eql) t v (.slice none 0 0):Sem Value).run T.P w=.ok (.bool (b != neg)) w:=by
  intro a l c y A;subst y A;cases neg
  ·simp only[a1S,if_false,binOp];simp[eqGuard,run_equal_slice_nil w t e a l c p]
  ·simp only[if_true,binOp];simp[eqGuard,run_equal_slice_nil w t e a l c p]
 cases J<;>simp only[PV.rD] at i<;>try cases i
 ·exact d _ _ _ rfl rfl
 ·rename_i rows _ _ _ _ _ _ B _ _;cases rows with
  | nil=>cases i
  | cons r rs =>cases i;obtain⟨K,rfl,-⟩:=B (by simp);exact d _ _ _ rfl rfl
 ·exact d _ _ _ rfl rfl
theorem alP (neg:Bool) {J:List Sc} {xs ys:List PV} {x y:Value} (W:bA E (.agg xs) x) (X:bA E (.agg ys) y) {b:Bool} (Q:PV.eqs J xs ys=some b) {t:TypeId} (K M:Operand)
  (d:T.flat t=some J):(do eqGuard (if neg then .neq else .eql) t K M x y; binOp (if neg then .neq else .eql) t x y:Sem Value).run T.P w=.ok (.bool (b != neg)) w:=by
 cases W with
 | agg vs S Y V =>
 cases X with
 | agg i A U B =>
 unfold Tbl.flat at d;split at d
 ·rename_i N O;split at d
  ·rename_i p;have e:T.P.fieldsOf t=N:=by simp[Program.fieldsOf,O]
   have R:=RH (w:=w) 9998 vs i N.toList J 0 xs ys b d Q (fun j q u a c=>V j q u a (by simpa using c)) (fun j q u a c=>B j q u a (by simpa using c)) (by simpa using S) (by simpa using A);have l:=run_equalIn_struct w 9999 t vs i (by rw[e]; exact O) p.1;rw[e,R] at l;cases neg
   ·simp[run_eqGuard_agg w .eql t K M vs i p.2,run_eql_struct,l]
   ·simp[run_eqGuard_agg w .neq t K M vs i p.2,run_neq_struct,l]
  ·cases d
 ·cases d
end
open Go Go.RowKit
def nG (E:Env) (cs:List PV) (vs:Array Value):Prop :=
 vs.size=cs.length∧(∀ v∈vs.toList,v.oneCell'=true)∧∀ (j:Nat) pv v,cs[j]?=some pv→vs[j]?=some v→bA E pv v
def fv (vs:Array Value) (c:Nat):List Value→Array Value
 | []=>vs
 | u::d=>fv (vs.setIfInBounds c u) (c+1) d
theorem ND (c:Nat):∀ (d:List Value) (k:Nat) (vs:Array Value),(d.zipIdx k).foldl (fun cs (x:Value × Nat)=>cs.setIfInBounds (c+x.2) x.1) vs=fv vs (c+k) d
 | [],_,_=>rfl
 | u::d,k,vs=>by simp only[List.zipIdx_cons,List.foldl_cons,fv];rw[ND c d (k+1)];rfl
theorem CV:∀ (ps:List PV) (c:Nat) (r:List PV),(setCells r c ps).length=r.length
 | [],_,_=>rfl
 | p::ps,c,r=>by simp[setCells,CV ps]
theorem nG.aUW {E:Env} {cs:List PV} {vs:Array Value} (h:nG E cs vs) {c:Nat} {p:PV} {u:Value} (r:bA E p u) (l:u.oneCell'=true):nG E (cs.set c p) (vs.setIfInBounds c u):=by
 obtain⟨x,y,A⟩:=h;refine⟨by simp[x],fun v d=>?_,fun j pv v i d=>?_⟩
 ·simp only[Array.toList_setIfInBounds] at d;rcases List.mem_or_eq_of_mem_set d with d | rfl
  ·exact y v d
  ·exact l
 ·rw[List.getElem?_set] at i;rw[Array.getElem?_setIfInBounds] at d;split at i
  ·rename_i e;subst e;rw[if_pos rfl] at d;split at i
   ·rename_i B;rw[if_pos Om] at d;cases i; cases d;exact r
   ·cases i
  ·rename_i e;rw[if_neg e] at d;exact A j pv v i d
theorem nG.setCells {E:Env}:∀ (ps:List PV) (d:List Value) (c:Nat) (cs:List PV) (vs:Array Value),nG E cs vs→d.length=ps.length→(∀ u∈d,u.oneCell'=true) →
  (∀ (j:Nat) p u,ps[j]?=some p→d[j]?=some u→bA E p u)→nG E (setCells cs c ps) (fv vs c d)
 | [],[],_,_,_,h,_,_,_=>h
 | p::ps,u::d,c,cs,vs,h,e,i,l=>by simp only[PM.setCells,fv];exact nG.setCells ps d (c+1) _ _ (h.aUW (l 0 p u rfl rfl) (i u (by simp))) (by simpa using e) (fun x y=>i x (by simp[y])) (fun j q x a b=>l (j+1) q x (by simpa using a) (by simpa using b))
 | [],u::d,_,_,_,_,e,_,_=>by simp at e
 | p::ps,[],_,_,_,_,e,_,_=>by simp at e
theorem TI {E:Env}:∀ {vs:List Value} {ps:List PV},ofValues vs=some ps→ps.length=vs.length∧∀ (j:Nat) p v,ps[j]?=some p→vs[j]?=some v→bA E p v
 | [],ps,h=>by simp[ofValues] at h; subst h; simp
 | v::vs,ps,h=>by
  simp only[ofValues] at h;split at h
  ·rename_i p l e i;cases h;obtain⟨c,d⟩:=TI (E:=E) i;refine⟨by simp[c],fun j q u a b=>?_⟩;cases j with
   | zero=>simp at a b; subst a; subst b; exact vY e
   | succ j=>exact d j q u (by simpa using a) (by simpa using b)
  ·cases h
theorem TH:∀ {vs:List Value} {ps:List PV},ofValues vs=some ps→∀ v∈vs,v.oneCell'=true
 | [],_,_,v,hv=>by simp at hv
 | u::vs,ps,h,v,hv=>by
  simp only[ofValues] at h;split at h
  ·rename_i p e c d;rcases aYY.1 hv with rfl | hv
   ·unfold ofValue at c;split at c<;>first | rfl | cases c
   ·exact TH d v hv
  ·cases h
section
variable {ds:List Deferred} {T:Tbl} {n:Nat} {E:Env} {F:PF} {H:PH} {a:Act} {w:World}
theorem OJ {t:TypeId} {z:List PV} (h:T.zero t=some z):∃ i c,T.P.info? t=some i∧i.zero=some c∧nG E z c.cells:=by
 unfold Tbl.zero at h;cases hi:T.P.info? t with
 | none=>simp[hi] at h
 | some i =>
  cases d:i.zero with
  | none=>simp[hi,d] at h
  | some c =>simp only[hi,d,a2C] at h;obtain⟨e,l⟩:=TI (E:=E) h;exact⟨i,c,rfl,d,by simpa using e.symm,TH h,fun j p v a b=>l j p v a (by simpa using b)⟩
theorem IU {place:Nat→Option (Nat × Nat)} (J:dO ds n E F a) (K:E.num=T.num):∀ (parts:List (Nat × Operand)) (pl:List (Nat × Nat × aQ)) (cs out:List PV) (vs:Array Value),
  T.partsOf place parts=some pl→qE cs F pl=some out→nG E cs vs→∃ y,Instr.fill place vs (parts.map fun (i,x)=>(i,a.eval x))=some y∧nG E out y
 | [],pl,cs,out,vs,e,c,l=>by simp[Tbl.partsOf] at e; subst e;simp[qE] at c; subst c;exact⟨vs,rfl,l⟩
 | (i,x)::rest,pl,cs,out,vs,e,c,l=>by
  simp only[Tbl.partsOf] at e;split at e
  ·rename_i d size p ps Q V A;cases e;simp only[qE] at c;split at c
   ·rename_i v U;split at c
    ·rename_i O;obtain⟨B,M,N⟩:=wG (bC V U J K) O.2.2;obtain⟨y,g1,g2⟩:=IU J K rest ps _ out _ A c (nG.setCells v.cells (a.eval x).cells.toList d cs vs l (by simpa using B) M (fun j q u R S=>N j q u R (by simpa using S)));refine⟨y,?_,g2⟩;simp only[a0D,Instr.fill,Q];rw[if_neg (by simp; rw[B,l.1]; omega)];have W:Array.foldl (fun (cs:Array Value) (x:Value × Nat)=>cs.setIfInBounds (d+x.2) x.1) vs (a.eval x).cells.zipIdx=fv vs d (a.eval x).cells.toList:=by rw[← Array.foldl_toList,Array.toList_zipIdx];exact ND d _ 0 vs
     exact W ▸ g1
    ·cases c
   ·cases c
  ·cases e
theorem S3 (d:Array Field) (c:List (Nat × Nat)) (h:d.toList.mapM (fun f=>(T.P.info? f.type).map fun i=>(f.offset,i.size))=some c) (i:Nat) :
  c[i]?=T.place d i:=by
 have e:∀ (l:List Field) (ps:List (Nat × Nat)) (i:Nat),l.mapM (fun f=>(T.P.info? f.type).map fun i=>(f.offset,i.size))=some ps →
   ps[i]?=match l[i]? with | some f=>(T.size f.type).map (f.offset,·) | none=>none:=by
  intro l
  induction l with
  | nil=>intro ps i h; simp at h; subst h; simp
  | cons f l y =>
   intro ps i h;simp only[List.mapM_cons,Option.bind_eq_bind,Option.pure_def,a2J] at h;obtain⟨p,u,A,x,h⟩:=h;cases h;cases i with
   | zero =>simp only[List.getElem?_cons_zero,Tbl.size];rw[← u];cases T.P.info? f.type<;>rfl
   | succ i=>simpa using y A i x
 have:=e d.toList c i h;rw[this,Array.getElem?_toList];unfold Tbl.place;cases d[i]?<;>rfl
end
open Go Go.RowKit
section
variable {ds:List Deferred} {T:Tbl} {n:Nat} {E:Env} {F:PF} {H:PH} {a:Act} {w:World}
theorem XB {t:TypeId} {parts:Array (Nat × Operand)} {z:List PV} {pl:List (Nat × Nat × aQ)} {out:List PV} (W:T.zero t=some z)
  (V:(∃ y:Array Field,T.P.underlying t=some (.struct y)∧(y.toList.mapM (fun f=>(T.P.info? f.type).map fun i=>(f.offset,i.size))).isSome=true∧T.partsOf (T.place y) parts.toList=some pl) ∨
   (∃ k e s,T.P.underlying t=some (.array k e)∧T.size e=some s∧T.partsOf (fun i=>some (i*s,s)) parts.toList=some pl))
  (S:qE z F pl=some out) (Q:dO ds n E F a) (R:E.num=T.num) :
  ∃ v,(Instr.build t (parts.map fun (i,x)=>(i,a.eval x))).run T.P w=.ok v w∧bA E (.agg out) v:=by
 obtain⟨Y,Z,A,B,K⟩:=OJ (E:=E) W;rcases V with ⟨y,O,U,p⟩ | ⟨k,e,s,O,hs,p⟩
 ·obtain⟨c,J⟩:=Option.isSome_iff_exists.1 U;obtain⟨u,M,d⟩:=IU Q R _ _ _ _ _ p S K;refine⟨.agg u,run_build w t _ u ?_,.agg u d.1 d.2.1 d.2.2⟩;simp only[Program.built,A,O,B,J];have N:(fun (x:Nat)=>c.toArray[x]?)=T.place y:=by funext i;rw[List.getElem?_toArray];exact S3 y c J i
  simp only[Array.toList_map];rw[N];exact M
 ·obtain⟨u,M,d⟩:=IU Q R _ _ _ _ _ p S K;refine⟨.agg u,run_build w t _ u ?_,.agg u d.1 d.2.1 d.2.2⟩;unfold Tbl.size at hs;cases l:T.P.info? e with
  | none=>simp[l] at hs
  | some X =>simp[l] at hs;subst hs;simp only[Program.built,A,O,B,l,Array.toList_map];exact M
theorem Ge {t:TypeId} {s:Nat} (h:T.size t=some s):∃ i,T.P.info? t=some i∧i.size=s:=by
 unfold Tbl.size at h;cases hi:T.P.info? t with
 | none=>simp[hi] at h
 | some i=>exact⟨i,rfl,by simpa [hi] using h⟩
theorem jP {t:TypeId} {s:Nat} (h:T.size t=some s):(sizeOf t).run T.P w=.ok s w:=by
 obtain⟨i,hi,rfl⟩:=Ge h;simp[sizeOf,typeInfo,hi]
theorem yH {t:TypeId} {b:Bool} (h:T.isAgg t=some b):(isAgg t).run T.P w=.ok b w:=by
 unfold Tbl.isAgg at h;split at h
 ·rename_i c; cases h; simp[isAgg,run_underlying c]
 ·rename_i c; cases h; simp[isAgg,run_underlying c]
 ·rename_i d e i c;cases h;cases d<;>first
   | exact (e _ rfl).elim
   | exact (i _ _ rfl).elim
   | (simp[isAgg,run_underlying c]; done)
 ·cases h
theorem me {t:TypeId} {pv c:PV} {v:Value} (l:T.isAgg t=some false) (hW:bQ E H w) (p:bA E pv v) (h:loadCells H pv 1=some [c]) :
  ∃ u,(Instr.loadAt t v).run T.P w=.ok u w∧bA E c u:=by
 obtain⟨b,x,rfl,-,y,e,A,d,i⟩:=pG hW p h
 match y,e with
 | [u],_ =>refine⟨u,?_,i 0 c u rfl rfl⟩;have:=d 0 u rfl;simp only[a0S] at this;simp[Instr.loadAt,Instr.sureAddr,loadVar,yH l,this]
theorem XN {t:TypeId} {k:Nat} {pv:PV} {cs:List PV} {v:Value} (K:T.isAgg t=some true) (J:T.size t=some k) (hW:bQ E H w) (M:bA E pv v) (h:loadCells H pv k=some cs) :
  ∃ u,(Instr.loadAt t v).run T.P w=.ok u w∧bA E (.agg cs) u:=by
 obtain⟨b,i,rfl,d,l,p,x,y,B⟩:=pG hW M h;have c:=run_loadCells_list (P:=T.P) w ⟨b,i,none⟩ l (fun j u e=>by rw[add_plain]; exact y j u e);refine⟨.agg l.toArray,?_,.agg l.toArray (by simp[p,d]) (by simpa using x) (fun j q u A e=>B j q u A (by simpa using e))⟩;rw[p] at c;simp[Instr.loadAt,Instr.sureAddr,loadVar,yH K,jP J,c]
end
open Go Go.RowKit
section
variable {ds:List Deferred} {T:Tbl} {n:Nat} {E:Env} {F:PF} {H:PH} {a:Act} {w:World}
theorem kw {t e:TypeId} (h:T.P.underlying t=some (.slice e)):T.P.elem t=e∧T.P.underlying t=some (.slice (T.P.elem t)):=by
 have:T.P.elem t=e:=by simp[Program.elem,h]
 exact⟨this,by rw[this]; exact h⟩
theorem alO {t e:TypeId} {k:Nat} (h:T.P.underlying t=some (.array k e)):T.P.elem t=e∧T.P.arrayLen t=k∧T.P.underlying t=some (.array (T.P.arrayLen t) (T.P.elem t)):=by
 have c:T.P.elem t=e:=by simp[Program.elem,h]
 have d:T.P.arrayLen t=k:=by simp[Program.arrayLen,h]
 exact⟨c,d,by rw[c,d]; exact h⟩
theorem Ey {cs:List PV} {b c:Nat} (h:bA E (.bH cs) (.pointer (some ⟨b,c,none⟩))) (d:Nat):bA E (.bH (cs.drop d)) (.pointer (some ⟨b,c+d,none⟩)):=by
 cases h with
 | bH u x l i p =>refine .bH (fun j=>u (d+j)) rfl (fun j pv e=>?_) (fun j=>i _) (fun j pv e=>p (d+j) pv (by rw[← e,List.getElem?_drop]));have:=l (d+j) pv (by rw[← e,List.getElem?_drop]);simp only at this ⊢;rw[← this];congr 1;omega
theorem TW {cs:List PV} {v:Value} (h:bA E (.bH cs) v):∃ b d,v=.pointer (some ⟨b,d,none⟩):=by
 cases h with
 | bH u c l i p=>rename_i e; exact⟨e.block,e.off,by rw[← oG c]⟩
theorem aJL {t e:TypeId} {s:Nat} {rows:List (List PV)} {v:Value} {k:IntKind} {i:Int} {r:List PV} (S:T.P.underlying t=some (.slice e)) (R:T.size e=some s)
  (U:bA E (.sl s rows) v) (J:0≤i) (d:rows[i.toNat]?=some r):∃ u,(Instr.indexAt t v (.int k i)).run T.P w=.ok u w∧bA E (.bH r) u:=by
 obtain⟨K,M⟩:=kw S;cases U with
 | sl u y A B N Q c =>
 rename_i V cap;have hlt:i.toNat<rows.length:=by
  rcases aZL i.toNat rows.length with h | h
  ·exact h
  ·rw[a0H h] at d; cases d
 obtain⟨x,rfl,p,O⟩:=N (by intro h; subst h; simp at hlt);rw[oG p];refine⟨.pointer (some ⟨x.block,x.off+i.toNat*s,none⟩),?_,?_⟩
 ·rw[run_indexAt_slice w t _ _ _ _ _ M,if_pos ⟨J,by omega⟩,K,jP R,Result.andThen_ok,add_plain]
 ·refine .bH (u i.toNat) rfl (fun j pv l=>?_) (fun j=>Q _ _) (fun j pv l=>c i.toNat j pv (by simp[at2,d,l]));simpa using O i.toNat j pv (by simp[at2,d,l])
theorem aBP {t e:TypeId} {o s c len:Nat} {v:Value} {k:IntKind} {i:Int} (Q:T.P.underlying t=some (.slice e)) (N:T.size e=some s)
  (R:bA E (.osl o s c len) v) (J:0≤i) (hi:i<len):∃ u,(Instr.indexAt t v (.int k i)).run T.P w=.ok u w∧bA E (.ptr o s (c+i.toNat) 0) u:=by
 obtain⟨K,M⟩:=kw Q;cases R with
 | osl S O d A B U y =>
 rename_i cap m l;have x:l.off=c*s:=by
  rcases d with h | h
  ·omega
  ·exact h
 have p:l=⟨o,c*s,none⟩:=by cases l; simp_all
 subst p;refine⟨_,?_,.ptr o s _ 0⟩;rw[run_indexAt_slice w t _ _ _ _ _ M,if_pos ⟨J,hi⟩,K,jP N,Result.andThen_ok,add_plain,← aZX,a0S]
theorem l4 {t e:TypeId} {k s:Nat} {v:Value} {M:IntKind} {i:Int} {p pv:PV} (K:T.P.underlying t=some (.array k e)) (J:T.size e=some s)
  (l:bA E p v) (x:0≤i) (hi:i<k) (d:(∃ o s0 r c,p=.ptr o s0 r c∧pv=.ptr o s0 r (c+i.toNat*s))∨(∃ cs,p=.bH cs∧pv=.bH (cs.drop (i.toNat*s)))) :
  ∃ u,(Instr.indexAt t v (.int M i)).run T.P w=.ok u w∧bA E pv u:=by
 obtain⟨y,A,B⟩:=alO K;rcases d with ⟨o,s0,r,c,rfl,rfl⟩ | ⟨cs,rfl,rfl⟩
 ·cases l;refine⟨_,?_,.ptr o s0 r _⟩;rw[run_indexAt_array w t _ _ _ B,A,if_pos ⟨x,hi⟩,y,jP J,Result.andThen_ok,add_plain,a1D]
 ·obtain⟨b,N,rfl⟩:=TW l;refine⟨_,?_,Ey l _⟩;rw[run_indexAt_array w t _ _ _ B,A,if_pos ⟨x,hi⟩,y,jP J,Result.andThen_ok,add_plain]
theorem RL {t:TypeId} {p:Array Field} {f:Nat} {d:Field} {s:Nat} {v:Value} {l pv:PV} (A:T.P.underlying t=some (.struct p)) (x:p[f]?=some d) (y:T.size d.type=some (s+1))
  (i:bA E l v) (e:(∃ o s0 r c,l=.ptr o s0 r c∧pv=.ptr o s0 r (c+d.offset))∨(∃ cs,l=.bH cs∧pv=.bH (cs.drop d.offset))) :
  ∃ u,(Instr.fieldAt t v f).run T.P w=.ok u w∧bA E pv u:=by
 rcases e with ⟨o,s0,r,c,rfl,rfl⟩ | ⟨cs,rfl,rfl⟩
 ·cases i;refine⟨_,?_,.ptr o s0 r _⟩;simp[Instr.fieldAt,run_underlying A,x,Instr.sureAddr,fieldPlace,jP y,add_plain,a1D]
 ·obtain⟨b,B,rfl⟩:=TW i;refine⟨_,?_,Ey i _⟩;simp[Instr.fieldAt,run_underlying A,x,Instr.sureAddr,fieldPlace,jP y,add_plain]
theorem S0 {t:TypeId} {cs:Array Value} {k:Nat} {u:Value} (c:T.isAgg t=some false) (h:cs[k]?=some u):(part t cs k).run T.P w=.ok u w:=by
 simp[part,yH c,h]
theorem Ea {t:TypeId} {cs:Array Value} {k s:Nat} (d:T.isAgg t=some true) (c:T.size t=some s):(part t cs k).run T.P w=.ok (.agg (cs.extract k (k+s))) w:=by
 simp[part,yH d,jP c]
theorem J8 {cs:List PV} {vs:Array Value} {k:Nat} {pv:PV} (d:vs.size=cs.length) (c:∀ (j:Nat) pv v,cs[j]?=some pv→vs[j]?=some v→bA E pv v) (h:cs[k]?=some pv) :
  ∃ u,vs[k]?=some u∧bA E pv u:=by
 have hlt:k<cs.length:=by
  rcases aZL k cs.length with h' | h'
  ·exact h'
  ·rw[a0H h'] at h; cases h
 exact⟨vs[k]'Om,a2D Om,c k pv _ h (a2D Om)⟩
theorem J9 {cs:List PV} {vs:Array Value} {k s:Nat} (p:vs.size=cs.length) (e:∀ v∈vs.toList,v.oneCell'=true) (i:∀ (j:Nat) pv v,cs[j]?=some pv→vs[j]?=some v→bA E pv v) (h:k+s≤cs.length) :
  bA E (.agg ((cs.drop k).take s)) (.agg (vs.extract k (k+s))):=by
 refine .agg _ (by simp; omega) (fun v c=>e v ?_) (fun j pv v d c=>?_)
 ·simp only[Array.toList_extract] at c;exact List.mem_of_mem_drop (a2M c)
 ·rw[a2E] at d;split at d
  ·rename_i l;rw[List.getElem?_drop] at d;refine i (k+j) pv v d ?_;rw[Array.getElem?_extract] at c;split at c
   ·exact c
   ·cases c
  ·cases d
theorem asA {t:TypeId} {e:Array Field} {f:Nat} {c:Field} {cs:List PV} {v:Value} {pv:PV} (y:T.P.underlying t=some (.struct e)) (i:e[f]?=some c) (l:T.isAgg c.type=some false)
  (B:bA E (.agg cs) v) (h:cs[c.offset]?=some pv):∃ u,(Instr.field t v f).run T.P w=.ok u w∧bA E pv u:=by
 cases B with
 | agg vs p J x =>
 obtain⟨u,A,d⟩:=J8 p x h;exact⟨u,by simp[Instr.field,run_underlying y,i,asAgg,S0 l A],d⟩
theorem alR {t:TypeId} {d:Array Field} {f:Nat} {c:Field} {cs:List PV} {s:Nat} {v:Value} (A:T.P.underlying t=some (.struct d)) (i:d[f]?=some c) (l:T.isAgg c.type=some true) (y:T.size c.type=some s)
  (B:bA E (.agg cs) v) (h:c.offset+s≤cs.length):∃ u,(Instr.field t v f).run T.P w=.ok u w∧bA E (.agg ((cs.drop c.offset).take s)) u:=by
 cases B with
 | agg vs p e x=>exact⟨_,by simp[Instr.field,run_underlying A,i,asAgg,Ea l y],J9 p e x h⟩
theorem amW {t e:TypeId} {k s:Nat} {g:Bool} {cs:List PV} {v:Value} {N:IntKind} {i:Int} {pv:PV} (B:T.P.underlying t=some (.array k e)) (l:T.size e=some s) (x:T.isAgg e=some g)
  (M:bA E (.agg cs) v) (p:0≤i) (hi:i<k) (h:(if g then (if i.toNat*s+s≤cs.length then some (.agg ((cs.drop (i.toNat*s)).take s)) else none) else cs[i.toNat*s]?)=some pv) :
  ∃ u,(Instr.index t v (.int N i)).run T.P w=.ok u w∧bA E pv u:=by
 cases M with
 | agg vs y J A =>
 cases g with
 | true =>
  simp only[if_true] at h;split at h
  ·rename_i c;cases h;exact⟨_,by simp[Instr.index,asIntOf,run_underlying B,p,hi,jP l,Ea x l],J9 y J A c⟩
  ·cases h
 | false =>simp only[a1S,if_false] at h;obtain⟨u,K,d⟩:=J8 y A h;exact⟨u,by simp[Instr.index,asIntOf,run_underlying B,p,hi,jP l,S0 x K],d⟩
theorem Pn {t:TypeId} {l:List UInt8} {v:Value} {A:IntKind} {i:Int} {pv:PV} (x:T.P.underlying t=some .string) (y:bA E (.str l) v) (p:0≤i) (h:(l[i.toNat]?).map (fun b=>PV.int .u8 b.toNat)=some pv) :
  ∃ u,(Instr.index t v (.int A i)).run T.P w=.ok u w∧bA E pv u:=by
 cases y with
 | str s =>
 simp only[aYX] at h;obtain⟨b,c,rfl⟩:=h;have d:s[i.toNat]?=some b:=by
  have hlt:i.toNat<s.data.toList.length:=by
   rcases aZL i.toNat s.data.toList.length with h' | h'
   ·exact h'
   ·rw[a0H h'] at c; cases c
  have e:i.toNat<s.size:=by
   have B:s.data.toList.length=s.size:=by rw[a1W]; rfl
   omega
  rw[getElem?_pos s i.toNat e];rw[aZA hlt] at c;cases c;rfl
 exact⟨_,by simp[Instr.index,asIntOf,run_underlying x,p,d],.int _ _⟩
theorem QB {x:Option Operand} {p:Option aQ} {d m:Int} (c:T.opt x=some p) (h:bnd F d p=some m) (i:dO ds n E F a) (l:E.num=T.num) :
  (x=none∧m=d)∨∃ o k,x=some o∧a.eval o=.int k m:=by
 cases x with
 | none =>simp[Tbl.opt] at c;subst c;simp[bnd] at h;exact .inl ⟨rfl,h.symm⟩
 | some o =>
  simp only[Tbl.opt,aYX] at c;obtain⟨q,y,rfl⟩:=c;simp only[bnd,a2J] at h;obtain⟨pv,u,hi⟩:=h;have r:=bC y u i l;unfold PV.intOf at hi;split at hi
  ·cases hi;generalize e:a.eval o=ev at r;cases r;exact .inr ⟨o,_,rfl,e⟩
  ·cases hi
theorem kV {isS:Bool} {lo hi mx:Option Operand} {pl ph pm:Option aQ} {len cap:Nat} {l h:Int} (N:T.opt lo=some pl) (M:T.opt hi=some ph) (c:T.opt mx=some pm)
  (J:bnd F 0 pl=some l) (B:bnd F len ph=some h) (A:len≤cap) (Q:0≤l) (R:l≤h) (S:h≤len) (i:pm=none∨(hi≠none∧bnd F 0 pm=some h)) (d:dO ds n E F a) (e:E.num=T.num) :
  ∃ m,(Instr.sliceBounds isS len cap (lo.map a.eval) (hi.map a.eval) (mx.map a.eval)).run T.P w=.ok (l.toNat,h.toNat,m) w∧h.toNat≤m∧m≤cap:=by
 have y:=QB N J d e;have u:=QB M B d e;rcases i with rfl | ⟨hne,bm⟩
 ·have p:mx=none:=by
   cases mx with
   | none=>rfl
   | some x =>simp only[Tbl.opt,aYX] at c;obtain⟨q,-,O⟩:=c;cases O
  subst p;refine⟨cap,?_,by omega,aYV _⟩;rcases y with ⟨rfl,rfl⟩ | ⟨ol,k1,rfl,e1⟩<;>rcases u with ⟨rfl,rfl⟩ | ⟨oh,k2,rfl,e2⟩
  ·simp[Instr.sliceBounds]
  ·simp only[Instr.sliceBounds,Option.map_none,aZZ,e2,Sem.run_bind,Sem.run_pure,Result.andThen_ok,run_sliceBound w k2 h cap _ Om Om];rfl
  ·simp only[Instr.sliceBounds,Option.map_none,aZZ,e1,Sem.run_bind,Sem.run_pure,Result.andThen_ok,run_sliceBound w k1 l len _ Om Om];simp
  ·simp only[Instr.sliceBounds,Option.map_none,aZZ,e1,e2,Sem.run_bind,Sem.run_pure,Result.andThen_ok,run_sliceBound w k2 h cap _ Om Om,run_sliceBound w k1 l h.toNat _ Om Om]
 ·have km:=QB c bm d e;rcases km with ⟨rfl,K⟩ | ⟨om,k3,rfl,e3⟩
  ·simp[Tbl.opt] at c;subst c;refine⟨cap,?_,by omega,aYV _⟩;rcases u with ⟨rfl,rfl⟩ | ⟨oh,k2,rfl,e2⟩
   ·exact absurd rfl hne
   ·rcases y with ⟨rfl,rfl⟩ | ⟨ol,k1,rfl,e1⟩
    ·simp only[Instr.sliceBounds,Option.map_none,aZZ,e2,Sem.run_bind,Sem.run_pure,Result.andThen_ok,run_sliceBound w k2 h cap _ Om Om];rfl
    ·simp only[Instr.sliceBounds,Option.map_none,aZZ,e1,e2,Sem.run_bind,Sem.run_pure,Result.andThen_ok,run_sliceBound w k2 h cap _ Om Om,run_sliceBound w k1 l h.toNat _ Om Om]
  ·rcases u with ⟨rfl,rfl⟩ | ⟨oh,k2,rfl,e2⟩
   ·exact absurd rfl hne
   ·refine⟨h.toNat,?_,aYV _,by omega⟩;rcases y with ⟨rfl,rfl⟩ | ⟨ol,k1,rfl,e1⟩
    ·simp only[Instr.sliceBounds,Option.map_none,aZZ,e2,e3,Sem.run_bind,Sem.run_pure,Result.andThen_ok,run_sliceBound w k3 h cap _ Om Om,run_sliceBound w k2 h h.toNat _ Om Om];rfl
    ·simp only[Instr.sliceBounds,Option.map_none,aZZ,e1,e2,e3,Sem.run_bind,Sem.run_pure,Result.andThen_ok,run_sliceBound w k3 h cap _ Om Om,run_sliceBound w k2 h h.toNat _ Om Om,run_sliceBound w k1 l h.toNat _ Om Om]
end
open Go Go.RowKit
section
variable {ds:List Deferred} {T:Tbl} {n:Nat} {E:Env} {F:PF} {H:PH} {a:Act} {w:World}
theorem Y5 {rows:List (List PV)} {l h i j:Nat} {pv:PV} (e:at2 ((rows.take h).drop l) i j=some pv):at2 rows (l+i) j=some pv:=by
 unfold at2 at *
 rw[List.getElem?_drop,a2E] at e;split at e
 ·exact e
 ·simp at e
theorem vC {t e:TypeId} {s l h m len cap:Nat} {c:Option Addr} {lo hi mx:Option Value} (p:T.P.underlying t=some (.slice e)) (i:T.size e=some s)
  (d:(Instr.sliceBounds true len cap lo hi mx).run T.P w=.ok (l,h,m) w) :
  (Instr.sliceAt t (.slice c len cap) lo hi mx).run T.P w=.ok (.slice (if m=l then c else c.map (·.add (l*s))) (h-l) (m-l)) w:=by
 simp[Instr.sliceAt,Instr.slice,run_underlying p,d,jP i]
theorem EX {t e : TypeId} {s : Nat} {x : Value} {lo hi mx : Option Operand} {pl ph pm : Option aQ} {len : Nat} {l h : Int} {px pv : PV} (ht : T.P.underlying t = some (.slice e)) (hs : T.size e = some s)
    (hl : T.opt lo = some pl) (hh : T.opt hi = some ph) (hm : T.opt mx = some pm) (hx : bA E px x) (bl : bnd F 0 pl = some l) (bh : bnd F len ph = some h)
    (hlen : (px = .aB ∧ len = 0) ∨ (∃ s0 rows, px = .sl s0 rows ∧ len = rows.length) ∨ (∃ o s0 off, px = .osl o s0 off len))
    (hpv : (pm = none ∧ PV.slice s px l h none = some pv) ∨ (hi ≠ none ∧ ∃ m, bnd F 0 pm = some m ∧ PV.slice s px l h (some m) = some pv)) (hA : dO ds n E F a) (hN : E.num = T.num) :
    ∃ v, (Instr.sliceAt t x (lo.map a.eval) (hi.map a.eval) (mx.map a.eval)).run T.P w = .ok v w ∧ bA E pv v := by
  have hP : ∃ m0, PV.slice s px l h m0 = some pv ∧ (m0 = none → pm = none) ∧ ∀ m, m0 = some m → hi ≠ none ∧ bnd F 0 pm = some m := by
    rcases hpv with ⟨h1, h2⟩ | ⟨h1, m, h2, h3⟩
    · exact ⟨none, h2, fun _ => h1, fun m hm => by cases hm⟩
    · exact ⟨some m, h3, fun h => (by cases h), fun m' hm' => by cases hm'; exact ⟨h1, h2⟩⟩
  obtain ⟨m0, hP, hn, hsm⟩ := hP;rcases hlen with ⟨rfl, rfl⟩ | ⟨s0, rows, rfl, rfl⟩ | ⟨o, s0, off, rfl⟩
  · simp only [PV.slice] at hP
    split at hP
    · rename_i hc
      cases hP;obtain ⟨rfl, rfl, hm0⟩ := hc;cases hx;obtain ⟨m, hb, hm1, hm2⟩ := kV (T := T) (E := E) (w := w) (isS := true) (len := 0) (cap := 0) hl hh hm bl bh (aYV _) Om Om Om
        (by rcases hm0 with rfl | rfl
            · exact .inl (hn rfl)
            · exact .inr (hsm 0 rfl)) hA hN
      have hmz : m = 0 := Om;subst hmz;refine ⟨_, vC ht hs hb, ?_⟩;simp;exact .aB
    · cases hP
  · simp only [PV.slice] at hP
    split at hP
    · rename_i hc
      cases hP;obtain ⟨rfl, h0, h1, h2, hm0⟩ := hc;cases hx with
      | sl u hcap aYH aXN ha ho aYJ =>
      rename_i a0 cap;obtain ⟨m, hb, hm1, hm2⟩ := kV (T := T) (E := E) (w := w) (isS := true) (len := rows.length) (cap := cap) hl hh hm bl bh hcap h0 h1 h2
        (by rcases hm0 with rfl | rfl
            · exact .inl (hn rfl)
            · exact .inr (hsm h rfl)) hA hN
      refine ⟨_, vC ht hs hb, ?_⟩;have hlen : ((rows.take h.toNat).drop l.toNat).length = h.toNat - l.toNat := by rw [a0R, aZH]; omega
      rw [← hlen];refine .sl (fun i j => u (l.toNat + i) j) (by rw [hlen]; omega) Om (fun r hr => aXN r (a2M (List.mem_of_mem_drop hr))) (fun hne => ?_) (fun i j => ho _ _) (fun i j pv hp => aYJ _ _ pv (Y5 hp));have hpos : 0 < ((rows.take h.toNat).drop l.toNat).length := List.length_pos_iff.2 hne;rw [hlen] at hpos;obtain ⟨ad, rfl, hsp, hc⟩ := ha (by intro e; subst e; simp at h2; omega);rw [if_neg Om];refine ⟨⟨ad.block, ad.off + l.toNat * s0, none⟩, ?_, rfl, fun i j pv hp => ?_⟩
      · rw [aZZ, oG hsp, add_plain]
      · have := hc (l.toNat + i) j pv (Y5 hp)
        show E.cell ad.block (ad.off + l.toNat * s0 + i * s0 + j) = _;rw [← this];congr 1;rw [aZX]; omega
    · cases hP
  · simp only [PV.slice] at hP
    split at hP
    · rename_i hc
      cases hP;obtain ⟨rfl, h0, h1, h2, hm0⟩ := hc;cases hx with
      | osl hb0 hsp aYK hlen aYH hnn aYB =>
      rename_i cap N ad;obtain ⟨m, hb, hm1, hm2⟩ := kV (T := T) (E := E) (w := w) (isS := true) (len := len) (cap := cap) hl hh hm bl bh hlen h0 h1 h2
        (by rcases hm0 with rfl | rfl
            · exact .inl (hn rfl)
            · exact .inr (hsm h rfl)) hA hN
      refine ⟨_, vC ht hs hb, ?_⟩;by_cases hml : m = l.toNat
      · rw [if_pos hml]
        have e1 : h.toNat - l.toNat = 0 := Om;have e2 : m - l.toNat = 0 := Om;rw [e1, e2];refine .osl hb0 hsp (.inl rfl) (aYV _) (by simp [maxLen]) hnn ?_;have : (off + l.toNat) * s0 ≤ off * s0 + cap * s0 := by rw [aZX]; exact Nat.add_le_add_left (aZY _ Om) _
        omega
      · rw [if_neg hml, aZZ, oG hsp, add_plain]
        refine .osl hb0 rfl ?_ Om Om hnn ?_
        · rcases aYK with h | h
          · exact .inl Om
          · exact .inr (by simp only [h, aZX])
        · have : (off + l.toNat) * s0 + (m - l.toNat) * s0 ≤ off * s0 + cap * s0 := by rw [← aZX, ← aZX];exact aZY _ Om
          omega
    · cases hP
theorem yh {t:TypeId} {x:Value} {lo hi:Option Operand} {pl ph:Option aQ} {str:List UInt8} {l h:Int} (Q:T.P.underlying t=some .string)
  (M:T.opt lo=some pl) (K:T.opt hi=some ph) (R:bA E (.str str) x) (u:bnd F 0 pl=some l) (d:bnd F str.length ph=some h) (y:0≤l) (A:l≤h) (i:h≤str.length)
  (B:dO ds n E F a) (J:E.num=T.num) :
  ∃ v,(Instr.sliceAt t x (lo.map a.eval) (hi.map a.eval) none).run T.P w=.ok v w∧bA E (.str ((str.take h.toNat).drop l.toNat)) v:=by
 cases R with
 | str s =>
 have c:s.data.toList.length=s.size:=by rw[a1W]; rfl
 rw[c] at d i;obtain⟨m,p,N,O⟩:=kV (T:=T) (E:=E) (w:=w) (isS:=false) (len:=s.size) (cap:=s.size) (mx:=none) (pm:=none) M K rfl u d (aYV _) y A i (.inl rfl) B J;simp only[Option.map_none] at p;refine⟨.string (s.extract l.toNat h.toNat),?_,?_⟩
 ·simp[Instr.sliceAt,Instr.slice,run_underlying Q,p]
 ·have e:(s.data.toList.take h.toNat).drop l.toNat=(s.extract l.toNat h.toNat).data.toList:=by rw[Lib.extract_data,List.drop_take]
  rw[e];exact .str _
theorem i6 (s:Nat):∀ (n:Nat) (cs:List PV),(chunks s n cs).length=n
 | 0,_=>rfl
 | n+1,cs=>by simp[chunks,i6 s n]
theorem i7 {s:Nat}:∀ {n:Nat} {cs:List PV},n*s≤cs.length→∀ r∈chunks s n cs,r.length=s
 | 0,_,_,r,hr=>by simp[chunks] at hr
 | n+1,cs,h,r,hr=>by
  rw[aZX,Nat.one_mul] at h;simp only[chunks,aYY] at hr;rcases hr with rfl | hr
  ·rw[aZH]; omega
  ·exact i7 (by rw[a0R]; omega) r hr
theorem QK {s:Nat}:∀ {n:Nat} {cs:List PV} {i j:Nat} {pv:PV},at2 (chunks s n cs) i j=some pv→cs[i*s+j]?=some pv
 | 0,_,i,j,pv,h=>by simp[chunks,at2] at h
 | n+1,cs,0,j,pv,h=>by
  simp only[chunks,at2,List.getElem?_cons_zero,a2C,a2E] at h;split at h
  ·rw[Nat.zero_mul,aZM]; exact h
  ·cases h
 | n+1,cs,i+1,j,pv,h=>by have:=QK (n:=n) (cs:=cs.drop s) (i:=i) (j:=j) (pv:=pv) (by simpa [chunks,at2] using h);rw[List.getElem?_drop] at this;rw[← this]; congr 1; rw[aZX]; omega
theorem Uj {t e:TypeId} {k s:Nat} {v:Value} {cs:List PV} (W:T.P.underlying t=some (.array k e)) (V:T.size e=some s) (X:bA E (.bH cs) v) (O:k*s≤cs.length) (Q:k≤maxLen) (M:dO ds n E F a) (N:E.num=T.num) :
  ∃ u,(Instr.sliceAt t v none none none).run T.P w=.ok u w∧bA E (.sl s (chunks s k cs)) u:=by
 obtain⟨m,B,R,S⟩:=kV (T:=T) (E:=E) (w:=w) (F:=F) (a:=a) (n:=n) (isS:=false) (len:=k) (cap:=k) (lo:=none) (hi:=none) (mx:=none) (pl:=none) (ph:=none) (pm:=none) (l:=0) (h:=(k:Int)) rfl rfl rfl rfl rfl (aYV _) Om Om Om (.inl rfl) M N;simp only[Option.map_none,a0J,Int.toNat_zero] at B;have y:m=k:=Om;subst y;cases X with
 | bH u d c K U =>
 rename_i p;refine⟨.slice (some p) m m,?_,?_⟩
 ·have Y:(if m=0 then p else p.add (0*s))=p:=by
   split
   ·rfl
   ·rw[oG d,add_plain]; simp
  simp[Instr.sliceAt,run_underlying W,Instr.sureAddr,B,jP V];intro _;rw[oG d,add_plain]; simp
 ·have J:=i6 s m cs;have x:bA E (.sl s (chunks s m cs)) (.slice (some p) (chunks s m cs).length m):=by refine .sl (fun i j=>u (i*s+j)) (by rw[J]; exact aYV _) Q (i7 O) (fun _=>⟨p,rfl,d,fun i j pv A=>?_⟩) (fun i j=>K _) (fun i j pv A=>U _ pv (QK A));have:=c (i*s+j) pv (QK A);rw[← this]; congr 1; omega
  rw[J] at x;exact x
theorem Xq {e:TypeId} {x:Value} {i:PV} (hW:bQ E H w) (J:bA E i x) (B:i.cells.all PV.one=true):Yields T.P E H w (Instr.box e x) (.bH i.cells):=by
 obtain⟨p,y,A⟩:=wG J B;obtain⟨l,u⟩:=hW.aGN x.cells e;refine⟨.pointer (some ⟨w.heap.size,0,none⟩),_,_,by simp[Instr.box,newVar,newRow],?_,l,u⟩;refine .bH (fun j=>if h:j<x.cells.size then x.cells[j] else .int .i64 0) rfl (fun j pv d=>?_) (fun j=>?_) (fun j pv d=>?_)
 ·have c:j<x.cells.size:=by
   rw[p];rcases aZL j i.cells.length with h' | h'
   ·exact h'
   ·rw[a0H h'] at d; cases d
  simp[Env.cell,Env.add,upd,c]
 ·split
  ·rename_i c;exact y _ (Array.getElem_mem_toList c)
  ·rfl
 ·have c:j<x.cells.size:=by
   rw[p];rcases aZL j i.cells.length with h' | h'
   ·exact h'
   ·rw[a0H h'] at d; cases d
  rw[dif_pos c];exact (A j pv _ d (a2D c)).mono u.env
end
open Go Go.RowKit
theorem vP {s:Nat}:∀ (rows:List (List PV)) (i j:Nat),(∀ r∈rows,r.length=s)→j<s→rows.flatten[i*s+j]?=at2 rows i j
 | [],i,j,_,_=>by simp[at2]
 | r::rows,i,j,h,d=>by
  have c:r.length=s:=h r (by simp);rw[List.flatten_cons];cases i with
  | zero =>rw[a0V Om];simp[at2]
  | succ i =>
   rw[a1I (by rw[c,a1V]; omega)];have e:(i+1)*s+j-r.length=i*s+j:=by rw[c,a1V]; omega
   rw[e,vP rows i j (fun r c=>h r (by simp[c])) d];simp[at2]
theorem oU {s:Nat}:∀ (rows:List (List PV)),(∀ r∈rows,r.length=s)→rows.flatten.length=rows.length*s
 | [],_=>by simp
 | r::rows,h=>by rw[List.flatten_cons,aYU,oU rows (fun r c=>h r (by simp[c])),h r (by simp),a0F,a1V];omega
theorem sL:∀ (ps:List PV) (x y:List PV) (c:Nat),setCells (x++y) (x.length+c) ps=x++setCells y c ps
 | [],x,y,c=>rfl
 | p::ps,x,y,c=>by simp only[setCells];rw[a1M _ _ Om,Nat.add_sub_cancel_left];exact sL ps x _ (c+1)
theorem tW:∀ (ps:List PV) (x y:List PV) (c:Nat),c+ps.length≤x.length→setCells (x++y) c ps=setCells x c ps++y
 | [],x,y,c,_=>rfl
 | p::ps,x,y,c,h=>by simp only[a0F] at h;simp only[setCells];rw[List.set_append_left _ _ Om];exact tW ps _ y (c+1) (by rw[a0W]; omega)
theorem HA:∀ (ps x:List PV) (z:List PV),x.length=ps.length→setCells (z++x) z.length ps=z++ps
 | [],x,z,h=>by have:x=[]:=List.eq_nil_of_length_eq_zero (by simpa using h);subst this; rfl
 | p::ps,[],z,h=>by simp at h
 | p::ps,y::x,z,h=>by simp only[setCells];rw[a1M _ _ (aYV _),a1Q,a2B];have:=HA ps x (z++[p]) (by simpa using h);simp only[aYU,a0F,a1H,a0A,List.cons_append,a2G] at this;simpa using this
theorem XI {s:Nat} (ps:List PV) (c:ps.length=s):∀ (rows:List (List PV)) (i:Nat),(∀ r∈rows,r.length=s)→i<rows.length→(rows.set i ps).flatten=setCells rows.flatten (i*s) ps
 | [],i,_,h=>by simp at h
 | r::rows,i,h,hi=>by
  have d:r.length=s:=h r (by simp);cases i with
  | zero =>rw[a2B,List.flatten_cons,List.flatten_cons,Nat.zero_mul,tW _ _ _ _ Om];have:=HA ps r [] Om;simp only[a2G,a1H] at this;rw[this]
  | succ i =>rw[List.set_cons_succ,List.flatten_cons,List.flatten_cons,XI ps c rows i (fun r d=>h r (by simp[d])) (by simpa using hi)];have:=sL ps r rows.flatten (i*s);rw[← this,d,a1V,Nat.add_comm]
section
variable {ds:List Deferred} {T:Tbl} {n:Nat} {E:Env} {F:PF} {H:PH} {a:Act} {w:World}
theorem GO {s:Nat} (Q:dO ds n E F a) (R:E.num=T.num):∀ (parts:List (Nat × Operand)) (pl:List (Nat × aQ)) (rows out:List (List PV)) (vs:Array Value),
  T.sF parts=some pl→gX s rows F pl=some out→(∀ r∈rows,r.length=s)→nG E rows.flatten vs →
  ∃ B,Instr.fill (fun i=>some (i*s,s)) vs (parts.map fun (i,x)=>(i,a.eval x))=some B∧nG E out.flatten B∧(∀ r∈out,r.length=s)∧out.length=rows.length
 | [],pl,rows,out,vs,d,c,e,A=>by simp[Tbl.sF] at d; subst d;simp[gX] at c; subst c;exact⟨vs,rfl,A,e,rfl⟩
 | (i,x)::rest,pl,rows,out,vs,d,c,e,A=>by
  simp only[Tbl.sF] at d;split at d
  ·rename_i p ps Z K;cases d;simp only[gX] at c;split at c
   ·rename_i v Y;split at c
    ·rename_i y;obtain⟨O,S,U⟩:=wG (bC Z Y Q R) y.2.2;have J:=XI v.cells y.1 rows i e y.2.1;have l:=nG.setCells v.cells (a.eval x).cells.toList (i*s) _ vs A (by simpa using O) S (fun j q u W X=>U j q u W (by simpa using X));rw[← J] at l;obtain⟨B,g1,g2,g3,g4⟩:=GO Q R rest ps _ out _ K c (fun r M=>by
      rcases List.mem_or_eq_of_mem_set M with M | rfl
      ·exact e r M
      ·exact y.1) l
     refine⟨B,?_,g2,g3,by simpa using g4⟩;simp only[a0D,Instr.fill];have N:vs.size=rows.length*s:=by rw[A.1,oU rows e]
     have V:i*s+s≤rows.length*s:=by have:(i+1)*s≤rows.length*s:=aZY _ y.2.1;rw[a1V] at this;exact this
     rw[if_neg (by simp; rw[O,N]; omega)];have hz:Array.foldl (fun (cs:Array Value) (x:Value × Nat)=>cs.setIfInBounds (i*s+x.2) x.1) vs (a.eval x).cells.zipIdx=fv vs (i*s) (a.eval x).cells.toList:=by rw[← Array.foldl_toList,Array.toList_zipIdx];exact ND (i*s) _ 0 vs
     exact hz ▸ g1
    ·cases c
   ·cases c
  ·cases d
theorem nG.aGW {z:List PV} {p:Array Value} {s len:Nat} (h:nG E z p) (J:z.length=s) (B:0<s) :
  nG E (aYR len z).flatten ((Array.range (len*s)).map (p[·%p.size]!)):=by
 have i:∀ r∈aYR len z,r.length=s:=fun r K=>by rw[(List.mem_replicate.1 K).2]; exact J
 have d:p.size=s:=by rw[h.1,J]
 refine⟨by rw[oU _ i]; simp,fun v l=>?_,fun k pv v A l=>?_⟩
 ·simp only[Array.toList_map,aZQ] at l;obtain⟨k,-,rfl⟩:=l;have y:k%p.size<p.size:=a0I _ Om;rw[getElem!_pos p _ y];exact h.2.1 _ (Array.getElem_mem_toList y)
 ·have x:k<len*s:=by
   rcases aZL k (len*s) with h' | h'
   ·exact h'
   ·rw[Array.getElem?_eq_none (by simpa using h')] at l; cases l
  have c:k%s<s:=a0I _ B;have u:k/s<len:=(a1T B).2 x;have y:k/s*s+k%s=k:=by rw[aZT]; exact a2H k s
  have e:=vP (aYR len z) (k/s) (k%s) i c;rw[y] at e;rw[e] at A;simp only[at2,List.getElem?_replicate,u,if_true,a2C] at A;simp only[Array.getElem?_map,Array.getElem?_range,x,if_true,aZZ] at l;rw[getElem!_pos p _ (by rw[d]; exact c)] at l;cases l;refine h.2.2 (k%s) pv _ (by simpa only [d] using A) ?_;simp only[d];exact a2D (by rw[d]; exact c)
theorem QF {t e:TypeId} {s len:Nat} {z:List PV} {parts:Array (Nat × Operand)} {pl:List (Nat × aQ)} {out:List (List PV)} (W:T.P.underlying t=some (.slice e)) (V:T.size e=some s) (hz:T.zero e=some z)
  (J:z.length=s) (S:0<s) (c:T.sF parts.toList=some pl) (α:len*s≤16777216) (l:gX s (aYR len z) F pl=some out) (X:dO ds n E F a) (Y:E.num=T.num) :
  ∃ p,(Instr.buildSlice t len (parts.map fun (i,x)=>(i,a.eval x))).run T.P w=.ok (.slice (some ⟨w.heap.size,0,none⟩) len len) (w.alloc (.cells p e))∧nG E out.flatten p∧(∀ r∈out,r.length=s)∧out.length=len:=by
 obtain⟨i,zv,hi,K,R⟩:=OJ (E:=E) hz;obtain⟨i',A,d⟩:=Ge V;rw[hi] at A;cases A;have u:∀ r∈aYR len z,r.length=s:=fun r hr=>by rw[(List.mem_replicate.1 hr).2]; exact J
 obtain⟨p,g1,g2,g3,g4⟩:=GO X Y parts.toList pl _ out _ c l u (R.aGW (len:=len) J S);rw[List.length_replicate] at g4;refine⟨p,?_,g2,g3,g4⟩;by_cases M:len=0
 ·subst M;have B:parts.toList=[]:=by
   cases O:parts.toList with
   | nil=>rfl
   | cons x rest =>
    rw[O] at c;obtain⟨i,y⟩:=x;simp only[Tbl.sF] at c;split at c
    ·cases c;simp only[gX] at l;split at l
     ·split at l
      ·rename_i Z; simp at Z
      ·cases l
     ·cases l
    ·cases c
  rw[B] at g1;simp only[a0X,Instr.fill,Nat.zero_mul] at g1;have:p=#[]:=by have U:=g2.1;rw[oU out g3,g4,Nat.zero_mul] at U;exact Array.eq_empty_of_size_eq_zero U
  subst this;have N:parts=#[]:=by apply Array.ext';simpa using B
  subst N;have Q:Array.range 0=#[]:=by apply Array.ext'; simp
  simp[Instr.buildSlice,run_underlying W,jP V,Instr.fill,newRow,Q]
 ·refine run_buildSlice w t e len _ p i zv W hi K (by rw[d]; omega) (by rw[d]; exact Nat.ne_of_gt (Nat.mul_pos Om S)) ?_;rw[d,Array.toList_map];exact g1
theorem vp {t e:TypeId} {s len:Nat} {z:List PV} {parts:Array (Nat × Operand)} {pl:List (Nat × aQ)} {out:List (List PV)} (Y:T.P.underlying t=some (.slice e)) (X:T.size e=some s) (Z:T.zero e=some z)
  (O:z.length=s) (Q:0<s) (N:T.sF parts.toList=some pl) (M:len*s≤16777216) (W:gX s (aYR len z) F pl=some out) (S:dO ds n E F a) (U:E.num=T.num) (hW:bQ E H w) :
  Yields T.P E H w (Instr.buildSlice t len (parts.map fun (i,x)=>(i,a.eval x))) (.sl s out):=by
 obtain⟨u,A,K,l,p⟩:=QF (w:=w) Y X Z O Q N M W S U;obtain⟨J,R⟩:=hW.aGN u e;refine⟨_,_,_,A,?_,J,R⟩;rw[← p];have V:∀ i j pv,at2 out i j=some pv→j<s:=fun i j pv c=>by
  unfold at2 at c;cases y:out[i]? with
  | none=>simp[y] at c
  | some r =>
   rw[y,a2C] at c;have:=l r (a1C y);rcases aZL j r.length with h' | h'
   ·omega
   ·rw[a0H h'] at c; cases c
 have d:∀ i j pv,at2 out i j=some pv→∃ h:i*s+j<u.size,bA E pv u[i*s+j]:=fun i j pv c=>by
  have B:=vP out i j l (V i j pv c);rw[c] at B;have hlt:i*s+j<u.size:=by
   rw[K.1];rcases aZL (i*s+j) out.flatten.length with h' | h'
   ·exact h'
   ·rw[a0H h'] at B; cases B
  exact⟨hlt,K.2.2 _ pv _ B (a2D hlt)⟩
 refine .sl (fun i j=>if h:i*s+j<u.size then u[i*s+j] else .int .i64 0) (aYV _) ?_ l (fun _=>⟨_,rfl,rfl,fun i j pv c=>?_⟩) (fun i j=>?_) (fun i j pv c=>?_)
 ·have:out.length*1≤out.length*s:=a1F _ Q;simp only[maxLen];rw[p] at this ⊢;omega
 ·obtain⟨hlt,-⟩:=d i j pv c;simp[Env.cell,Env.add,upd,hlt]
 ·split
  ·rename_i hlt;exact K.2.1 _ (Array.getElem_mem_toList hlt)
  ·rfl
 ·obtain⟨hlt,y⟩:=d i j pv c;rw[dif_pos hlt];exact y.mono R.env
end
open Go Go.RowKit
section
variable {T:Tbl} {n:Nat} {E:Env} {F:PF} {H:PH} {a:Act} {w:World}
theorem sr {s:Nat} {pv:PV} {v:Value} {rows:List (List PV)} (hW:bQ E H w) (Y:bA E pv v) (h:eF H s pv=some rows) :
  ∃ l cap,v=.slice l rows.length cap∧rows.length≤cap∧(∀ r∈rows,r.length=s)∧(rows≠[]→∃ b c,l=some ⟨b,c,none⟩ ∧
   ∀ i j q,at2 rows i j=some q→∃ u,w.cell? ⟨b,c+(i*s+j),none⟩=some u∧u.oneCell'=true∧bA E q u):=by
 unfold eF at h;split at h
 ·cases h; cases Y;exact⟨none,0,rfl,aYV _,by simp,fun h=>absurd rfl h⟩
 ·rename_i s0 rs;split at h
  ·rename_i e;subst e;cases h;cases Y with
   | sl u A B d ha S W =>
   rename_i a0 cap;refine⟨a0,cap,rfl,A,d,fun y=>?_⟩;obtain⟨l,rfl,K,Q⟩:=ha y;refine⟨l.block,l.off,by rw[← oG K],fun i j q p=>⟨u i j,?_,S i j,W i j q p⟩⟩;have:=hW.Zl (Q i j q p);rw[← this];congr 2;omega
  ·cases h
 ·rename_i o s0 c len;split at h
  ·rename_i e;subst e;split at h
   ·rename_i s' rs S;split at h
    ·rename_i Q;cases h;obtain⟨rfl,β⟩:=Q;obtain⟨hlt,M,ty,hh,γ,d,Z,x⟩:=hW.h o _ S;cases Y with
     | osl hb K J R B hn X =>
     rename_i cap N l;have hl:((rs.drop c).take len).length=len:=by rw[aZH,a0R]; omega
     refine⟨some l,cap,by rw[hl],by omega,fun r W=>d r (List.mem_of_mem_drop (a2M W)),fun y=>?_⟩;have α:0<((rs.drop c).take len).length:=List.length_pos_iff.2 y;have U:l.off=c*s':=by
      rcases J with h | h
      ·omega
      ·exact h
     have O:l=⟨o,c*s',none⟩:=by cases l; simp_all
     subst O;refine⟨o,c*s',rfl,fun i j q p=>?_⟩;have V:at2 rs (c+i) j=some q:=by
      unfold at2 at p ⊢;rw[a2E] at p;split at p
      ·rw[List.getElem?_drop] at p; exact p
      ·simp at p
     obtain⟨u,h1,h2,h3⟩:=x (c+i) j q V;refine⟨u,?_,h2,h3⟩;rw[cell_of_row w o _ M ty (0,0) hh,← h1];congr 1;rw[aZX]; omega
    ·cases h
   ·cases h
  ·cases h
 ·cases h
theorem PI:∀ {rows:List (List PV)} {l:List UInt8},pR rows=some l→∃ ns:List Int,rows=ns.map (fun n=>[PV.int .u8 n])∧l=ns.map fun n=>UInt8.ofNat n.toNat
 | [],l,h=>by simp[pR] at h; exact⟨[],by simp[h]⟩
 | r::rows,l,h=>by
  unfold pR at h;split at h
  ·exact⟨[],by simp at *⟩
  ·rename_i m rest c;cases c;simp only[aYX] at h;obtain⟨p,d,rfl⟩:=h;obtain⟨ns,e,i⟩:=PI d;exact⟨m::ns,by simp[e],by simp[i]⟩
  ·cases h
theorem iq {src dst e:TypeId} {pv:PV} {v:Value} {rows:List (List PV)} {l:List UInt8} (A:T.P.underlying src=some (.slice e)) (y:T.P.underlying e=some (.int .u8)) (p:T.P.underlying dst=some .string)
  (hW:bQ E H w) (V:bA E pv v) (U:eF H 1 pv=some rows) (Q:pR rows=some l):∃ u,(convert src dst v).run T.P w=.ok u w∧bA E (.str l) u:=by
 obtain⟨N,cap,rfl,K,M,c⟩:=sr hW V U;obtain⟨ns,rfl,rfl⟩:=PI Q;by_cases d:ns=[]
 ·subst d;refine⟨.string ByteArray.empty,?_,bA.str ByteArray.empty⟩;cases N with
  | none=>exact run_convert_bytes_nil w src e A y _ _ dst p
  | some x =>rw[run_convert_bytes_string w src dst e _ _ _ A y p];have:=run_bytesToString (P:=T.P) w x 0 cap [] (by simp[Go.loadCells,Go.loadCellsFrom]);simpa using this
 ·obtain⟨b,B,rfl,R⟩:=c (by simpa using d);have S:(ns.map fun n=>[PV.int .u8 n]).length=ns.length:=by simp
  refine⟨.string (strOfNums ns),?_,?_⟩
  ·rw[S];refine run_convert_bytes_arg w src e A y b B ns.length cap ns rfl (fun i hi=>?_) dst p;obtain⟨u,J,W,O⟩:=R i 0 (.int .u8 ns[i]) (by simp[at2,hi]);cases O;simp only[Nat.mul_one,a0S] at J;rw[J];simp[List.getD,hi]
  ·have:=bA.str (E:=E) (strOfNums ns);rw[strOfNums_data] at this;exact this
theorem eQ.len {ps:List PV} {vs:List Value} (h:eQ E ps vs):vs.length=ps.length:=by
 induction h with
 | nil=>rfl
 | cons _ _ c=>simp[c]
theorem eQ.at_ {ps:List PV} {vs:List Value} (h:eQ E ps vs):∀ (j:Nat) p v,ps[j]?=some p→vs[j]?=some v→bA E p v:=by
 induction h with
 | nil=>intro j p v c; simp at c
 | cons h _ e =>
  intro j p v c d;cases j with
  | zero=>simp at c d; subst c; subst d; exact h
  | succ j=>exact e j p v (by simpa using c) (by simpa using d)
theorem eQ.mono {c:Env} (d:E.le c) {ps:List PV} {vs:List Value} (h:eQ E ps vs):eQ c ps vs:=by
 induction h with
 | nil=>exact .nil
 | cons h _ e=>exact .cons (h.mono d) e
def POp.oR:POp→Bool
 | .call .. | .aYE ..=>true
 | _=>false
theorem sP {P:Program} {o:Oper} {s:Sem Value} {v:Value} {w c:World} (h:execOp a.eval o=(do pure (.value (← s)):Sem Next)) (d:s.run P w=.ok v c):(execOp a.eval o).run P w=.ok (.value v) c:=by
 rw[h]; simp[d]
end
open Go Go.RowKit
def KSh.desc:KSh→TypeDesc
 | .int k=>.int k
 | .bool=>.bool
 | .str=>.string
def KSh.sc:KSh→Sc
 | .int _=>.int
 | .bool=>.bool
 | .str=>.str
def KS.pv:KS→PV
 | .int k n=>.int k n
 | .bool b=>.bool b
 | .str s=>.str s
section
variable {T:Tbl} {n:Nat} {E:Env} {F:PF} {H:PH} {a:Act} {w:World}
theorem vn {α:Type} [BEq α] [LawfulBEq α] [DecidableEq α] (a b:α):(a==b)=decide (a=b):=by
 by_cases h:a=b<;>simp[h]
theorem KS.auL {pv:PV} {v:Value} {k:KS} (h:bA E pv v) (c:KS.of pv=some k):v=k.val:=by
 unfold KS.of at c;split at c<;>cases c<;>cases h
 ·rfl
 ·rfl
 ·simp[KS.val]
theorem KS.aOR (k:KS):bA E k.pv k.val:=by
 cases k with
 | int k n=>exact .int k n
 | bool b=>exact .bool b
 | str s =>have:=bA.str (E:=E) ⟨s.toArray⟩;simpa [KS.pv,KS.val] using this
theorem KS.afA:∀ {ps:List PV} {d:List KS} {vs:List Value},KS.ofs ps=some d→vs.length=ps.length→(∀ (j:Nat) p v,ps[j]?=some p→vs[j]?=some v→bA E p v)→vs=d.map KS.val
 | [],d,vs,h,c,_=>by simp[KS.ofs] at h; subst h;simp at c; subst c; rfl
 | p::ps,d,vs,h,c,e=>by
  simp only[KS.ofs] at h;split at h
  ·rename_i k B l A;cases h;cases vs with
   | nil=>simp at c
   | cons v vs =>have i:=KS.afA (vs:=vs) A (by simpa using c) fun j q u x y=>e (j+1) q u (by simpa using x) (by simpa using y);rw[KS.auL (e 0 p v rfl rfl) l,i];rfl
  ·cases h
theorem B8 {sh:MSh} {pv:PV} {v:Value} {k:List KS} (h:bA E pv v) (d:keyOf sh pv=some k):v=gQ sh k∧k.map KS.sh=sh.2∧(sh.1=false→∃ s,k=[s]):=by
 obtain⟨b,l⟩:=sh;unfold keyOf at d;split at d
 ·rename_i cs e;simp only at e;subst e;simp only[a2J] at d;obtain⟨M,i,c⟩:=d;split at c
  ·rename_i A;cases c;cases h with
   | agg vs J B K =>
   refine⟨?_,A,by simp⟩;have:=KS.afA (vs:=vs.toList) i (by simpa using J) fun j p u x y=>K j p u x (by simpa using y);simp only[gQ,if_true,Value.agg.injEq];rw[← this]
  ·cases c
 ·rename_i v' e;simp only at e;subst e;simp only[a2J] at d;obtain⟨s,i,c⟩:=d;split at c
  ·rename_i A;cases c;exact⟨by simp[gQ,KS.auL h i],by simpa using A,fun _=>⟨s,rfl⟩⟩
  ·cases c
 ·cases d
theorem tE {t:TypeId} {s:KSh} (h:T.zG t=some s):T.P.underlying t=some s.desc∧T.scalar t=some s.sc:=by
 unfold Tbl.zG at h;unfold Tbl.scalar;split at h<;>cases h<;>(rename_i c; rw[c]; exact⟨rfl,rfl⟩)
theorem Yn {s:KSh} {x y:KS} (d:x.sh=s) (c:y.sh=s):Instr.sameNow s.desc x.val y.val=some (decide (x=y)):=by
 subst d;cases x<;>cases y<;>simp[KS.sh] at c
 ·subst c;simp[KSh.desc,KS.sh,KS.val,Instr.sameNow];exact vn _ _
 ·simp[KSh.desc,KS.sh,KS.val,Instr.sameNow];exact vn _ _
 ·rename_i a b;simp only[KSh.desc,KS.sh,KS.val,Instr.sameNow,a0Y.injEq,KS.str.injEq];rw[beq_toListBytes,ByteArray.toList_eq,ByteArray.toList_eq];simp;exact vn _ _
theorem l9:∀ {d:List Field} {k:Nat} {l:List KSh},T.lH k d=some l→T.rU k d=some (l.map KSh.sc)
 | [],k,l,h=>by simp[Tbl.lH] at h; subst h; rfl
 | f::d,k,l,h=>by
  simp only[Tbl.lH] at h;split at h
  ·rename_i c cs e i;split at h
   ·rename_i p;cases h;simp only[Tbl.rU,(tE e).2,l9 i];rw[if_pos p];rfl
   ·cases h
  ·cases h
theorem arY:∀ {l:List KSh} {xs ys:List KS},xs.map KS.sh=l→ys.map KS.sh=l→PV.eqs (l.map KSh.sc) (xs.map KS.pv) (ys.map KS.pv)=some (decide (xs=ys))
 | [],xs,ys,c,d=>by simp at c d; subst c; subst d; simp[PV.eqs]
 | s::l,xs,ys,c,d=>by
  cases xs with
  | nil=>simp at c
  | cons x xs =>
  cases ys with
  | nil=>simp at d
  | cons y ys =>
  simp only[a0D,List.cons.injEq] at c d;have u:PV.eq1 s.sc x.pv y.pv=some (decide (x=y)):=by
   obtain⟨p,-⟩:=c;obtain⟨i,-⟩:=d;subst p;cases x<;>cases y<;>simp[KS.sh] at i
   ·subst i;simp[KSh.sc,KS.sh,KS.pv,PV.eq1];exact vn _ _
   ·simp[KSh.sc,KS.sh,KS.pv,PV.eq1];exact vn _ _
   ·simp[KSh.sc,KS.sh,KS.pv,PV.eq1];exact vn _ _
  simp only[a0D,PV.eqs,u];by_cases e:x=y
  ·subst e;simp only[decide_true,arY c.2 d.2];simp
  ·simp only[e,decide_false,aYN];have A:xs.length=l.length:=by rw[← c.2]; simp
   have B:ys.length=l.length:=by rw[← d.2]; simp
   rw[if_pos ⟨A,B⟩];simp[e]
theorem arZ {t:TypeId} {i:Array Field} {l:List KSh} (A:T.P.underlying t=some (.struct i)) (N:T.P.stoodInHeld t=false) (M:T.lH 0 i.toList=some l) {x y:List KS} (O:x.map KS.sh=l) (Q:y.map KS.sh=l) :
  (Op.equal t (gQ (true,l) x) (gQ (true,l) y)).run T.P w=.ok (decide (x=y)) w:=by
 have d:T.P.fieldsOf t=i:=by simp[Program.fieldsOf,A]
 have B:∀ (z:List KS) (j:Nat) q u,(z.map KS.pv)[j]?=some q→(z.map KS.val).toArray[0+j]?=some u→bA (E:=⟨fun _=>none,fun _=>none,fun _=>0⟩) q u:=by intro z j q u c p;simp only[aZN,aYX,aZM,List.getElem?_toArray] at c p;obtain⟨k,K,rfl⟩:=c;obtain⟨R,e,rfl⟩:=p;rw[K] at e; cases e;exact KS.aOR k
 have J:=RH (w:=w) 9998 (x.map KS.val).toArray (y.map KS.val).toArray i.toList (l.map KSh.sc) 0 (x.map KS.pv) (y.map KS.pv) _ (l9 M) (arY O Q) (B x) (B y) (by simp) (by simp);have c:=run_equalIn_struct w 9999 t (x.map KS.val).toArray (y.map KS.val).toArray (by rw[d]; exact A) N;rw[d,J] at c;simpa [Op.equal,Op.maxDepth,gQ] using c
def Found (L:List (List KS × PV)) (d:List MapEntry) (k:List KS) (i:Nat) (r:Option (Nat × Value)):Prop :=
 match oI k L i with
 | none=>r=none
 | some (j,pv)=>∃ c:MapEntry,i≤j∧d[j-i]?=some c∧L[j-i]?=some (k,pv)∧r=some (j,c.val)
theorem Found.next {L:List (List KS × PV)} {d:List MapEntry} {k:List KS} {i:Nat} {r:Option (Nat × Value)} {e:List KS × PV} {l:MapEntry} (h:Found L d k (i+1) r) (c:e.1≠k):Found (e::L) (l::d) k i r:=by
 unfold Found at h ⊢;simp only[oI,if_neg c];split at h
 ·exact h
 ·rename_i j pv B;obtain⟨x,A,p,u,y⟩:=h;refine⟨x,by omega,?_,?_,y⟩
  ·rw[show j-i=(j-(i+1))+1 by omega]; exact p
  ·rw[show j-i=(j-(i+1))+1 by omega]; exact u
theorem Found.here {L:List (List KS × PV)} {l:List MapEntry} {k:List KS} {i:Nat} {e:List KS × PV} {c:MapEntry} (d:e.1=k):Found (e::L) (c::l) k i (some (i,c.val)):=by
 unfold Found;simp only[oI,if_pos d];refine⟨c,aYV _,by simp,?_,rfl⟩;subst d;simp
def sD (sh:MSh) (L:List (List KS × PV)) (d:List MapEntry):Prop :=
 d.length=L.length∧∀ (i:Nat) e c,L[i]?=some e→d[i]?=some c→e.1.map KS.sh=sh.2∧c.key=gQ sh e.1
theorem sD.tail {sh:MSh} {e:List KS × PV} {L:List (List KS × PV)} {d:MapEntry} {c:List MapEntry} (h:sD sh (e::L) (d::c)):sD sh L c :=
 ⟨by simpa using h.1,fun i x y a b=>h.2 (i+1) x y (by simpa using a) (by simpa using b)⟩
theorem XH {s:KSh} {x:KS} (u:x.sh=s):∀ {L:List (List KS × PV)} {c:List MapEntry} {i:Nat},sD (false,[s]) L c→∃ r,Instr.findNow s.desc x.val c i=some r∧Found L c [x] i r
 | [],c,i,h=>by
  have:c=[]:=by simpa using h.1
  subst this;exact⟨none,rfl,rfl⟩
 | e::L,c,i,h=>by
  cases c with
  | nil=>have:=h.1; simp at this
  | cons p c =>
  obtain⟨l,B⟩:=h.2 0 e p rfl rfl;obtain⟨A,M⟩:=e;cases A with
  | nil=>simp at l
  | cons y ys =>
   simp only[a0D,List.cons.injEq,List.map_eq_nil_iff] at l;obtain⟨K,rfl⟩:=l;have J:p.key=y.val:=by rw[B]; rfl
   simp only[Instr.findNow,J,Yn u K];by_cases d:x=y
   ·subst d;simp only[decide_true];exact⟨_,rfl,Found.here rfl⟩
   ·simp only[d,decide_false];obtain⟨r,g1,g2⟩:=XH u (i:=i+1) h.tail;exact⟨r,g1,g2.next (by simp; exact fun e=>d e.symm)⟩
theorem GP {t:TypeId} {p:Array Field} {l:List KSh} (A:T.P.underlying t=some (.struct p)) (y:T.P.stoodInHeld t=false) (u:T.lH 0 p.toList=some l) {x:List KS} (B:x.map KS.sh=l) :
  ∀ {L:List (List KS × PV)} {c:List MapEntry} {i:Nat},sD (true,l) L c→∃ r,(Instr.findAsking t (gQ (true,l) x) c i).run T.P w=.ok r w∧Found L c x i r
 | [],c,i,h=>by
  have:c=[]:=by simpa using h.1
  subst this;exact⟨none,rfl,rfl⟩
 | e::L,c,i,h=>by
  cases c with
  | nil=>have:=h.1; simp at this
  | cons J c =>
  obtain⟨K,M⟩:=h.2 0 e J rfl rfl;simp only[Instr.findAsking,Sem.run_bind,M,arZ A y u B K,Result.andThen_ok];by_cases d:x=e.1
  ·subst d;simp only[decide_true,if_true,Sem.run_pure];exact⟨_,rfl,Found.here rfl⟩
  ·simp only[d,decide_false,a1S,if_false];obtain⟨r,g1,g2⟩:=GP A y u B (i:=i+1) h.tail;exact⟨r,g1,g2.next (fun e=>d e.symm)⟩
theorem GQ {t:TypeId} {sh:MSh} (h:T.lO t=some sh):(∃ s,sh=(false,[s])∧T.zG t=some s)∨(∃ c l,sh=(true,l)∧T.P.underlying t=some (.struct c)∧T.P.stoodInHeld t=false∧T.lH 0 c.toList=some l):=by
 unfold Tbl.lO at h;split at h
 ·rename_i c p;split at h
  ·rename_i e;simp only[aYX] at h;obtain⟨l,d,rfl⟩:=h;exact .inr ⟨c,l,rfl,p,e,d⟩
  ·cases h
 ·simp only[aYX] at h;obtain⟨s,i,rfl⟩:=h;exact .inl ⟨s,rfl,i⟩
theorem PJ {t:TypeId} {sh:MSh} (u:T.lO t=some sh) {k:List KS} (d:k.map KS.sh=sh.2) {L:List (List KS × PV)} {c:List MapEntry} (h:sD sh L c) :
  ∃ r,(Instr.findKey t (gQ sh k) c).run T.P w=.ok r w∧Found L c k 0 r:=by
 rcases GQ u with ⟨s,rfl,A⟩ | ⟨fs,l,rfl,hu,hp,hl⟩
 ·have y:=(tE A).1;cases k with
  | nil=>simp at d
  | cons x xs =>simp only[a0D,List.cons.injEq,List.map_eq_nil_iff] at d;obtain⟨J,rfl⟩:=d;obtain⟨r,g1,g2⟩:=XH J (i:=0) h;refine⟨r,?_,g2⟩;have B:gQ (false,[s]) [x]=x.val:=rfl;simp only[Instr.findKey,Sem.run_bind,run_underlying y,Result.andThen_ok,B,g1,Sem.run_pure]
 ·obtain⟨r,g1,g2⟩:=GP (w:=w) hu hp hl d (i:=0) h;cases c with
  | nil =>
   have:L=[]:=by simpa using h.1.symm
   subst this;refine⟨none,?_,rfl⟩;simp[Instr.findKey,run_underlying hu,Instr.findNow]
  | cons e c =>
   refine⟨r,?_,g2⟩;have p:Instr.findNow (.struct fs) (gQ (true,l) k) (e::c) 0=none:=by simp[Instr.findNow,Instr.sameNow,gQ]
   simp only[Instr.findKey,Sem.run_bind,run_underlying hu,Result.andThen_ok,p];exact g1
theorem XD {t:TypeId} {s:KSh} (c:T.zG t=some s) (em:Bool) (d:Nat) (x:KS):(Instr.checkKey em (d+1) t x.val).run T.P w=.ok () w:=by
 have e:=(tE c).1;simp only[Instr.checkKey,Sem.run_bind,run_underlying e,Result.andThen_ok];cases s<;>cases x<;>rfl
theorem GI {t:TypeId} {sh:MSh} (A:T.lO t=some sh) {k:List KS} (p:k.map KS.sh=sh.2) (em:Bool):(Instr.checkKey em 10000 t (gQ sh k)).run T.P w=.ok () w:=by
 rcases GQ A with ⟨s,rfl,e⟩ | ⟨d,l,rfl,hu,hp,hl⟩
 ·cases k with
  | nil=>simp at p
  | cons x xs =>simp only[a0D,List.cons.injEq,List.map_eq_nil_iff] at p;obtain⟨O,rfl⟩:=p;exact XD e em 9999 x
 ·simp only[gQ,if_true];obtain⟨m,U⟩:∃ m:Nat,m=9999:=⟨_,rfl⟩;rw[show (10000:Nat)=m+1 by omega];simp only[Instr.checkKey,Sem.run_bind,run_underlying hu,Result.andThen_ok];rw[← Array.forIn_toList];have B:∀ (d:List Field) (l:List KSh) (j:Nat),T.lH j d=some l→(∀ (i:Nat) s,l[i]?=some s→∃ x:KS,(k.map KS.val).toArray[j+i]?=some x.val) →
    (forIn d PUnit.unit (fun f (_:PUnit)=>(do
     if f.name≠"_" then
      Instr.checkKey em m f.type (← part f.type (k.map KS.val).toArray f.offset)
      pure (ForInStep.yield PUnit.unit)
     else pure (ForInStep.yield PUnit.unit):Sem (ForInStep PUnit)))).run T.P w=.ok PUnit.unit w:=by
   intro d
   induction d with
   | nil=>intro l j _ _; simp
   | cons f d S =>
    intro l j h N;simp only[Tbl.lH] at h;split at h
    ·rename_i c cs J Q;split at h
     ·rename_i K;cases h;obtain⟨x,O⟩:=N 0 c rfl;simp only[List.forIn_cons,Sem.run_bind,Sem.run_ite];rw[if_pos K.1];have u:=MC (w:=w) (tE J).2 (k.map KS.val).toArray f.offset x.val (by rw[K.2]; simpa using O);simp only[Sem.run_bind,u,Result.andThen_ok];rw[show m=9998+1 by omega,XD J em 9998 x,← show m=9998+1 by omega];simp only[Result.andThen_ok,Sem.run_pure];exact S cs (j+1) Q fun i s e=>by obtain⟨y,R⟩:=N (i+1) s (by simpa using e);exact⟨y,by rw[show j+1+i=j+(i+1) by omega]; exact R⟩
     ·cases h
    ·cases h
  have:=B d.toList l 0 hl fun i s e=>by
   have M:k.length=l.length:=by rw[show l=k.map KS.sh from p.symm]; simp
   have hi:i<l.length:=(aZU.1 e).1;exact⟨k[i],by simp[show i<k.length by omega]⟩
  simp at this ⊢;rw[this];rfl
theorem X5 {L:List (List KS × PV)} {d:List MapEntry} {k:List KS} {r:Option (Nat × Value)} (h:Found L d k 0 r) (A:∀ (i:Nat) (e:List KS × PV) (c:MapEntry),L[i]?=some e→d[i]?=some c→bA E e.2 c.val) :
  (mapOf L k=none∧r=none)∨∃ j pv v,mapOf L k=some pv∧r=some (j,v)∧bA E pv v:=by
 unfold Found at h;unfold mapOf;split at h
 ·rename_i y;exact .inl ⟨by rw[y]; rfl,h⟩
 ·rename_i j pv x;obtain⟨c,-,l,p,u⟩:=h;exact .inr ⟨j,pv,c.val,by rw[x]; rfl,u,A _ _ c p l⟩
theorem P4 {t X O:TypeId} {sh:MSh} {d:TypeInfo} {z:Value} {V Y:PV} {x k:Value} {o:Nat} {g:jU} {c:List KS} {ok:Bool} (ht:T.P.underlying t=some (.map X O)) (M:T.lO X=some sh)
  (hi:T.P.info? O=some d) (hz:d.zero=some z) (K:ofValue z=some V) (hx:bA E (.map o) x) (hk:bA E Y k) (ho:H o=some (.map sh g)) (B:keyOf sh Y=some c) (hW:bQ E H w) :
  ∃ v,(Instr.lookup t x k ok).run T.P w=.ok v w∧bA E (if ok then .tup [(g c).getD V,.bool (g c).isSome] else (g c).getD V) v:=by
 cases hx;obtain⟨hlt,W,l,L,Z,⟨S,-⟩,rfl,y⟩:=hW.h o _ ho;obtain⟨R,J,-⟩:=B8 hk B;have Q:sD sh L W.toList:=⟨by simpa using S,fun i e N a b=>by have:=y i e N a (by simpa using b); exact⟨this.1,this.2.1⟩⟩;obtain⟨r,g1,g2⟩:=PJ (w:=w) M J Q;have g3:=X5 (E:=E) g2 fun i e N a b=>(y i e N a (by simpa using b)).2.2;subst R;have A:(getObj o).run T.P w=.ok (.map W l) w:=by simp[getObj,Sem.run,Z]
 have U:(zeroValue O).run T.P w=.ok z w:=by simp[zeroValue,typeInfo,run_program,hi,hz]
 simp only[Instr.lookup,Sem.run_bind,run_underlying ht,Result.andThen_ok,A,Sem.run_pure,GI M J,g1];rcases g3 with ⟨g4,rfl⟩ | ⟨j,pv,v,g4,rfl,hr⟩
 ·simp only[U,Sem.run_bind,Result.andThen_ok,Sem.run_pure,g4,Option.getD_none,Option.isSome_none];cases ok
  ·exact⟨z,rfl,vY K⟩
  ·refine⟨_,rfl,.tup #[z,.bool false] rfl fun j p u a b=>?_⟩
   match j with
   | 0=>simp at a b; subst a; subst b; exact vY K
   | 1=>simp at a b; subst a; subst b; exact .bool _
   | j+2=>simp at a
 ·simp only[Sem.run_pure,Result.andThen_ok,g4,a1L,Option.isSome_some];cases ok
  ·exact⟨v,rfl,hr⟩
  ·refine⟨_,rfl,.tup #[v,.bool true] rfl fun j p u a b=>?_⟩
   match j with
   | 0=>simp at a b; subst a; subst b; exact hr
   | 1=>simp at a b; subst a; subst b; exact .bool _
   | j+2=>simp at a
end
open Go Go.RowKit
section
variable {ds:List Deferred} {T:Tbl} {n:Nat} {E:Env} {F:PF} {H:PH} {a:Act} {w:World}
def Good (P:Program) (E:Env) (H:PH) (w:World) (o:Oper) (a:Act) (pv:PV):Prop :=
 ∃ v d c,(execOp a.eval o).run P w=.ok (.value v) d∧bA c pv v∧bQ c H d∧Ext E H w c H d
theorem Good.mk' {P:Program} {o:Oper} {pv:PV} {v:Value} (hW:bQ E H w) (h:(execOp a.eval o).run P w=.ok (.value v) w) (r:bA E pv v):Good P E H w o a pv:=⟨v,w,E,h,r,hW,.refl E H w⟩
theorem Good.of {P:Program} {o:Oper} {pv:PV} {s:Sem Value} (p:execOp a.eval o=(do pure (.value (← s)):Sem Next)) (h:Yields P E H w s pv):Good P E H w o a pv:=by
 obtain⟨v,u,c,d,e,i,l⟩:=h;exact⟨v,u,c,sP p d,e,i,l⟩
theorem Good.val {P:Program} {o:Oper} {pv:PV} {s:Sem Value} (hW:bQ E H w) (e:execOp a.eval o=(do pure (.value (← s)):Sem Next)) (h:∃ v,s.run P w=.ok v w∧bA E pv v):Good P E H w o a pv:=by
 obtain⟨v,c,d⟩:=h;exact .of e (Yields.same hW c d)
theorem akR {t:TypeId} {o:Oper} {x:Operand} {lo hi mx:Option Operand} {p:aQ} {pl ph pm:Option aQ} {e:TypeId} {s:Nat} {pv:PV} (V:o.op=.slice t x lo hi mx) (S:T.P.underlying t=some (.slice e)) (R:T.size e=some s)
  (W:T.opd x=some p) (O:T.opt lo=some pl) (N:T.opt hi=some ph) (J:T.opt mx=some pm) (Q:¬ (mx.isSome=true∧hi.isNone=true)) (c:aP (.slice s p pl ph pm) F H=some pv)
  (K:dO ds n E F a) (hW:bQ E H w) (M:E.num=T.num):Good T.P E H w o a pv:=by
 refine Good.val hW (s:=Instr.sliceAt t (a.eval x) (lo.map a.eval) (hi.map a.eval) (mx.map a.eval)) (by unfold execOp; rw[V]) ?_;have d:pm≠none→hi≠none:=fun h e=>by
  subst e;cases mx with
  | none=>simp[Tbl.opt] at J; exact h J.symm
  | some y=>exact Q ⟨rfl,rfl⟩
 simp only[aP] at c;split at c
 ·rename_i v U;have r:=bC W U K M;split at c
  ·split at c
   ·rename_i l h u i;refine EX (len:=0) S R O N J r u i (.inl ⟨rfl,rfl⟩) ?_ K M;split at c
    ·exact .inl ⟨rfl,c⟩
    ·simp only[a2J] at c;obtain⟨m,A,B⟩:=c;exact .inr ⟨d (by simp),m,A,B⟩
   ·cases c
  ·split at c
   ·rename_i l h u i;refine EX S R O N J r u i (.inr (.inl ⟨_,_,rfl,rfl⟩)) ?_ K M;split at c
    ·exact .inl ⟨rfl,c⟩
    ·simp only[a2J] at c;obtain⟨m,A,B⟩:=c;exact .inr ⟨d (by simp),m,A,B⟩
   ·cases c
  ·split at c
   ·rename_i l h u i;refine EX S R O N J r u i (.inr (.inr ⟨_,_,_,rfl⟩)) ?_ K M;split at c
    ·exact .inl ⟨rfl,c⟩
    ·simp only[a2J] at c;obtain⟨m,A,B⟩:=c;exact .inr ⟨d (by simp),m,A,B⟩
   ·cases c
  ·cases c
 ·cases c
theorem lL {o:Oper} {c:Call} {b:Builtin} {s:Sem Value} {pv:PV} (p:o.op=.call c) (d:c.callee=.builtin b) (l:∀ cs,builtin b c.argTypes o.type cs (c.args.map a.eval)=(do pure (.value (← s)):Sem Next))
  (hW:bQ E H w) (h:∃ v,s.run T.P w=.ok v w∧bA E pv v):Good T.P E H w o a pv:=by
 obtain⟨v,e,i⟩:=h;refine .mk' hW ?_ i;unfold execOp;rw[p];simp[resolve,d,invoke,l,e]
theorem aGO {xs:Array Operand} {x:Operand} (h:xs.toList=[x]) (f:Operand→Value):xs.map f=#[f x]:=by
 apply Array.ext'; simp[h]
theorem akL {xs:Array Operand} {x y:Operand} (h:xs.toList=[x,y]) (f:Operand→Value):xs.map f=#[f x,f y]:=by
 apply Array.ext'; simp[h]
theorem aNQ {α:Type} {xs:Array α} {x:α} (h:xs.toList=[x]):xs=#[x]:=by apply Array.ext'; simp[h]
theorem size_data (s:ByteArray):s.data.toList.length=s.size:=by rw[a1W]; rfl
theorem arC {o:Oper} {c:Call} {p:POp} {pv:PV} (S:o.op=.call c) (d:T.call o c=some p) (hw:p.eI=false) (hk:p.oR=false) (i:aP p F H=some pv)
  (N:dO ds n E F a) (hW:bQ E H w) (O:E.num=T.num):Good T.P E H w o a pv:=by
 unfold Tbl.call at d;split at d
 ·rename_i b A;split at d
  ·
   rename_i x t l R;have V:=aGO l a.eval;have W:=aNQ R;split at d
   ·rename_i k e M;cases d;simp[aP,aQ.ev] at i;subst i;refine lL (s:=Builtin.len_ c.argTypes o.type (c.args.map a.eval)) S A (fun cs=>rfl) hW ⟨goInt k,?_,.int _ _⟩;rw[V,W];simp[Builtin.len_,run_underlying M]
   ·rename_i M;simp only[aYX] at d;obtain⟨q,K,rfl⟩:=d;simp only[aP] at i;split at i
    ·rename_i s0 B;cases i;have r:=bC K B N O;generalize J:a.eval x=ex at r;cases r with
     | str s =>
     refine lL (s:=Builtin.len_ c.argTypes o.type (c.args.map a.eval)) S A (fun cs=>rfl) hW ⟨goInt s.size,?_,?_⟩
     ·rw[V,W,J];simp[Builtin.len_,run_underlying M]
     ·rw[size_data]; exact .int _ _
    ·cases i
   ·rename_i e M;simp only[aYX] at d;obtain⟨q,K,rfl⟩:=d;have β:∀ (ad:Option Addr) (m cap:Nat),a.eval x=.slice ad m cap→Good T.P E H w o a (.int .i64 m):=by intro ad m cap J;refine lL (s:=Builtin.len_ c.argTypes o.type (c.args.map a.eval)) S A (fun cs=>rfl) hW ⟨goInt m,?_,.int _ _⟩;rw[V,W,J];simp[Builtin.len_,run_underlying M]
    simp only[aP,a2J] at i;obtain⟨u,B,i⟩:=i;have r:=bC K B N O;generalize J:a.eval x=ex at r;cases u<;>simp only[PV.tF] at i<;>cases i
    all_goals
     cases r;exact β _ _ _ J
   ·rename_i kt et M;simp only[aYX] at d;obtain⟨q,K,rfl⟩:=d;simp only[aP] at i;split at i
    ·rename_i m B;split at i
     ·rename_i sh g hg;cases i;have r:=bC K B N O;generalize J:a.eval x=ex at r;cases r;obtain⟨hlt,es,Q,L,hh,⟨α,Z⟩,rfl,-⟩:=hW.h m _ hg;have U:(getObj m).run T.P w=.ok (.map es Q) w:=by simp[getObj,Sem.run,hh]
      refine lL (s:=Builtin.len_ c.argTypes o.type (c.args.map a.eval)) S A (fun cs=>rfl) hW ⟨goInt es.size,?_,?_⟩
      ·rw[V,W,J];simp[Builtin.len_,run_underlying M,U]
      ·rw[anF Z,← α]; exact .int _ _
     ·cases i
    ·cases i
   ·cases d
  ·
   split at d<;>try cases d
   split at d<;>try cases d
   split at d<;>cases d;simp[POp.eI] at hw
  ·
   rename_i x t l R;split at d
   ·rename_i e M;simp only[aYX] at d;obtain⟨q,K,rfl⟩:=d;simp only[aP] at i;split at i
    ·rename_i B;cases i;have r:=bC K B N O;generalize J:a.eval x=ex at r;cases r;refine lL (s:=Builtin.cap_ c.argTypes o.type (c.args.map a.eval)) S A (fun cs=>rfl) hW ⟨goInt 0,?_,.int _ _⟩;rw[aGO l a.eval,aNQ R,J];simp[Builtin.cap_,run_underlying M]
    ·cases i
   ·cases d
  ·
   rename_i x y l;split at d<;>cases d;rename_i p q hp K;simp only[aP] at i;split at i
   ·rename_i k m k' m' X Y;have r1:=bC hp X N O;have r2:=bC K Y N O;split at i
    ·cases i;generalize J:a.eval x=ex at r1;generalize hy:a.eval y=ey at r2;cases r1; cases r2;refine lL (s:=Builtin.max_ c.argTypes o.type (c.args.map a.eval)) S A (fun cs=>rfl) hW ⟨_,?_,.int _ _⟩;rw[akL l a.eval,J,hy,run_max_int2];simp
    ·cases i
   ·cases i
  ·
   rename_i x y l;split at d<;>cases d;rename_i p q hp K;simp only[aP] at i;split at i
   ·rename_i k m k' m' X Y;have r1:=bC hp X N O;have r2:=bC K Y N O;split at i
    ·cases i;generalize J:a.eval x=ex at r1;generalize hy:a.eval y=ey at r2;cases r1; cases r2;refine lL (s:=Builtin.min_ c.argTypes o.type (c.args.map a.eval)) S A (fun cs=>rfl) hW ⟨_,?_,.int _ _⟩;rw[akL l a.eval,J,hy,run_min_int2];simp
    ·cases i
   ·cases i
  ·cases d
 ·split at d
  ·split at d<;>cases d;simp[POp.oR] at hk
  ·cases d
 ·simp only[aYX] at d;obtain⟨q,-,rfl⟩:=d;simp[POp.oR] at hk
 ·cases d
end
open Go Go.RowKit
section
variable {ds:List Deferred} {T:Tbl} {n:Nat} {E:Env} {F:PF} {H:PH} {a:Act} {w:World}
set_option maxHeartbeats 8000000 in
theorem akS {o:Oper} {p:POp} {pv:PV} (B:T.op o=some p) (hn:p.gY=false) (hw:p.eI=false) (hk:p.oR=false) (A:aP p F H=some pv)
  (N:dO ds n E F a) (hW:bQ E H w) (M:E.num=T.num):Good T.P E H w o a pv:=by
 unfold Tbl.op at B;split at B
 ·
  rename_i x K;simp only[aYX] at B;obtain⟨q,O,rfl⟩:=B;exact .mk' hW (v:=a.eval x) (by unfold execOp; rw[K]; simp) (bC O A N M)
 ·
  rename_i x K;simp only[aYX] at B;obtain⟨q,O,rfl⟩:=B;exact .mk' hW (v:=a.eval x) (by unfold execOp; rw[K]; simp) (bC O A N M)
 ·
  rename_i c x y K;split at B<;>cases B;rename_i p1 p2 p3 R W h3;simp only[aP] at A;split at A
  ·rename_i t J;have r:=bC R J N M;generalize V:a.eval c=ec at r;cases r;refine .mk' hW (v:=if t then a.eval x else a.eval y) (by unfold execOp; rw[K]; simp[V,asBool]) ?_;cases t
   ·exact bC h3 (by simpa using A) N M
   ·exact bC W (by simpa using A) N M
  ·cases A
 ·
  simp only[aYX] at B;obtain⟨z,-,rfl⟩:=B;simp[POp.gY] at hn
 ·
  rename_i e x K;simp only[aYX] at B;obtain⟨q,O,rfl⟩:=B;generalize σ:T.wu o.dst=ro at *
  cases ro with
  | false=>simp[POp.gY] at hn
  | true =>
   simp only[aP] at A;split at A
   ·rename_i v J;split at A
    ·rename_i R;cases A;exact .of (s:=Instr.box e (a.eval x)) (by unfold execOp; rw[K]) (Xq hW (bC O J N M) R)
    ·cases A
   ·cases A
 ·
  rename_i t parts K;split at B
  ·rename_i z fs hz Q;split at B
   ·rename_i hm;simp only[aYX] at B;obtain⟨pl,δ,rfl⟩:=B;simp only[aP,aYX] at A;obtain⟨out,Y,rfl⟩:=A;have U:=XB (T:=T) (w:=w) hz (.inl ⟨fs,Q,hm,δ⟩) Y N M;refine Good.val hW ?_ U;unfold execOp; rw[K]
   ·cases B
  ·rename_i z k e hz Q;split at B
   ·rename_i s S;simp only[aYX] at B;obtain⟨pl,δ,rfl⟩:=B;simp only[aP,aYX] at A;obtain⟨out,Y,rfl⟩:=A;have U:=XB (T:=T) (w:=w) hz (.inr ⟨k,e,s,Q,S,δ⟩) Y N M;refine Good.val hW ?_ U;unfold execOp; rw[K]
   ·cases B
  ·cases B
 ·
  rename_i t len parts K;split at B
  ·rename_i e Q;split at B
   ·rename_i s z pl S hz δ;split at B
    ·rename_i μ;cases B;generalize σ:T.wu o.dst=ro at *
     cases ro with
     | false=>simp[POp.gY] at hn
     | true =>
      simp only[aP] at A;split at A
      ·rename_i θ;simp only[aYX] at A;obtain⟨out,Y,rfl⟩:=A;have U:=vp (T:=T) Q S hz μ.1 μ.2 δ θ.2 Y N M hW;refine Good.of ?_ U;unfold execOp; rw[K]
      ·cases A
    ·cases B
   ·cases B
  ·cases B
 ·
  rename_i t x K;split at B
  ·rename_i k q hg S O;cases B;simp only[aP] at A;split at A
   ·rename_i v J;simp only[aYX] at A;obtain⟨cs,γ,rfl⟩:=A;have V:=bC O J N M;have U:=XN (T:=T) hg S hW V γ;refine Good.val hW (s:=Instr.loadAt t (a.eval x)) ?_ U;unfold execOp; rw[K]
   ·cases A
  ·rename_i k q hg O;cases B;simp only[aP] at A;split at A
   ·rename_i v J;split at A
    ·rename_i v' γ;cases A;have V:=bC O J N M;have U:=me (T:=T) hg hW V γ;refine Good.val hW (s:=Instr.loadAt t (a.eval x)) ?_ U;unfold execOp; rw[K]
    ·cases A
   ·cases A
  ·cases B
 ·
  split at B<;>cases B;simp[POp.eI] at hw
 ·
  rename_i x K;simp only[aYX] at B;obtain⟨q,O,rfl⟩:=B;simp only[aP] at A;split at A
  ·rename_i J;cases A;have r:=bC O J N M;refine .mk' hW (v:=a.eval x) ?_ r;generalize V:a.eval x=ex at r;cases r;unfold execOp; rw[K]; simp[V]
  ·rename_i J;cases A;have r:=bC O J N M;refine .mk' hW (v:=a.eval x) ?_ r;obtain⟨b,χ,V⟩:=TW r;unfold execOp; rw[K]; simp[V]
  ·cases A
 ·
  rename_i b t x y yt K;split at B
  ·rename_i p q Z O;have X:∀ b',b=b'→aP (.bin b' p q) F H=some pv→Good T.P E H w o a pv:=by
    intro b' hb A;subst hb;simp only[aP] at A;split at A
    ·rename_i v1 v2 R W;exact .val hW (s:=do eqGuard b t x y (a.eval x) (a.eval y); binOp b t (a.eval x) (a.eval y)) (by unfold execOp; rw[K]) (aqV (bC Z R N M) (bC O W N M) A t x y)
    ·cases A
   have β:∀ neg,b=(if neg then .neq else .eql)→T.P.underlying t=some .bool→aP (.eqb neg p q) F H=some pv→Good T.P E H w o a pv:=by
    intro neg hb ht A;simp only[aP] at A;split at A
    ·rename_i v1 v2 R W;cases A;have r1:=bC Z R N M;have r2:=bC O W N M;generalize V:a.eval x=ex at r1;generalize U:a.eval y=ey at r2;cases r1; cases r2;refine .val hW (s:=do eqGuard b t x y (a.eval x) (a.eval y); binOp b t (a.eval x) (a.eval y)) (by unfold execOp; rw[K]) ⟨_,?_,.bool _⟩;rw[V,U,hb];exact arX neg v1 v2 x y ht
    ·cases A
   have ε:∀ neg {e},b=(if neg then .neq else .eql)→T.P.underlying t=some (.slice e)→q=.const .aB→aP (.isNil neg p) F H=some pv→Good T.P E H w o a pv:=by
    intro neg e hb ht ρ A;subst ρ;simp only[aP] at A;cases R:p.ev F with
    | none=>rw[R] at A; cases A
    | some v1 =>rw[R,a2C,aYX] at A;obtain⟨c,ζ,rfl⟩:=A;have r1:=bC Z R N M;have r2:=bC (F:=F) O rfl N M;generalize V:a.eval x=ex at r1;generalize U:a.eval y=ey at r2;cases r2;refine .val hW (s:=do eqGuard b t x y (a.eval x) (a.eval y); binOp b t (a.eval x) (a.eval y)) (by unfold execOp; rw[K]) ⟨_,?_,.bool _⟩;rw[V,U,hb];exact X3 neg r1 ζ x y ht
   have κ:∀ neg ks,b=(if neg then .neq else .eql)→T.flat t=some ks→aP (.eqs neg ks p q) F H=some pv→Good T.P E H w o a pv:=by
    intro neg ks hb ht A;simp only[aP] at A;split at A
    ·rename_i v1 v2 R W;simp only[aYX] at A;obtain⟨c,ζ,rfl⟩:=A;refine .val hW (s:=do eqGuard b t x y (a.eval x) (a.eval y); binOp b t (a.eval x) (a.eval y)) (by unfold execOp; rw[K]) ⟨_,?_,.bool _⟩;rw[hb];exact alP neg (bC Z R N M) (bC O W N M) ζ x y ht
    ·cases A
   split at B
   ·split at B
    ·cases B; exact X _ rfl A
    ·cases B; exact X _ rfl A
    ·rename_i ht; cases B; exact β false rfl ht A
    ·simp only[aYX] at B;obtain⟨ks,η,rfl⟩:=B;exact κ false ks rfl η A
    ·rename_i ht;split at B
     ·cases B; exact ε false rfl ht rfl A
     ·cases B
    ·cases B
   ·split at B
    ·cases B; exact X _ rfl A
    ·cases B; exact X _ rfl A
    ·rename_i ht; cases B; exact β true rfl ht A
    ·simp only[aYX] at B;obtain⟨ks,η,rfl⟩:=B;exact κ true ks rfl η A
    ·rename_i ht;split at B
     ·cases B; exact ε true rfl ht rfl A
     ·cases B
    ·cases B
   ·cases B; exact X _ rfl A
  ·cases B
 ·
  rename_i u t x K;simp only[aYX] at B;obtain⟨q,O,rfl⟩:=B;simp only[aP] at A;split at A
  ·rename_i v J;exact .val hW (s:=Op.unary u (a.eval x)) (by unfold execOp; rw[K]) (aEZ (bC O J N M) A)
  ·cases A
 ·
  rename_i s d x K;split at B
  ·rename_i k k' q S hd O;cases B;simp only[aP] at A;split at A
   ·rename_i m J;cases A;have r:=bC O J N M;generalize V:a.eval x=ex at r;cases r;refine .val hW (s:=convert s d (a.eval x)) (by unfold execOp; rw[K]) ⟨_,?_,.int _ _⟩;rw[V];simp[convert,run_underlying S,run_underlying hd,Conv.intToInt]
   ·cases A
  ·rename_i q S hd O;cases B;simp only[aP] at A;split at A
   ·rename_i l J;cases A;have r:=bC O J N M;refine .val hW (s:=convert s d (a.eval x)) (by unfold execOp; rw[K]) ⟨a.eval x,?_,r⟩;generalize V:a.eval x=ex at r;cases r;simp[convert,run_underlying S,run_underlying hd]
   ·cases A
  ·rename_i e q S hd O;split at B
   ·rename_i he;cases B;simp only[aP] at A;split at A
    ·rename_i v J;split at A
     ·rename_i rows hr;simp only[aYX] at A;obtain⟨l,hl,rfl⟩:=A;exact .val hW (s:=convert s d (a.eval x)) (by unfold execOp; rw[K]) (iq S he hd hW (bC O J N M) hr hl)
     ·cases A
    ·cases A
   ·cases B
  ·cases B
 ·
  rename_i f α captured K;split at B
  ·rename_i m cs hm γ;split at B
   ·rename_i hf;cases B;simp only[aP,aYX] at A;obtain⟨vs,φ,rfl⟩:=A;have r:=yC γ φ N M;refine .val hW (s:=Instr.makeFunc (.func f) (α.map a.eval) (captured.map a.eval)) (by unfold execOp; rw[K]) ⟨.func (.func f) #[] (captured.map a.eval),?_,?_⟩
    ·have:α=#[]:=Array.eq_empty_of_size_eq_zero hf.2;subst this;simp[Instr.makeFunc]
    ·have hl:=r.len;have:=bA.fn (E:=E) (name:=m) (captured:=vs) (captured.map a.eval) (by simpa using hl) (fun j p v a b=>r.at_ j p v a (by simpa using b));rw[M,hf.1] at this;exact this
   ·cases B
  ·cases B
 ·
  split at B
  ·simp only[aYX] at B;obtain⟨z,-,rfl⟩:=B;simp[POp.gY] at hn
  ·cases B
 ·
  rename_i t x k ok K;split at B
  ·rename_i kt et Q;split at B
   ·rename_i sh z p1 q1 υ hz Z O;simp only[aYX] at B;obtain⟨pz,ο,rfl⟩:=B;simp only[a2J] at hz;obtain⟨ψ,hi,hz⟩:=hz;simp only[aP] at A;split at A
    ·rename_i m kv R W;split at A
     ·rename_i Δ g Γ h3 h4;split at A
      ·rename_i he;subst he;cases A;exact .val hW (s:=Instr.lookup t (a.eval x) (a.eval k) ok) (by unfold execOp; rw[K]) (P4 Q υ hi hz ο (bC Z R N M) (bC O W N M) h3 h4 hW)
      ·cases A
     ·cases A
    ·cases A
   ·cases B
  ·cases B
 ·
  split at B
  ·split at B<;>cases B;simp[POp.eI] at hw
  ·cases B
 ·
  split at B
  ·split at B<;>cases B;simp[POp.eI] at hw
  ·cases B
 ·
  split at B
  ·split at B
   ·split at B<;>cases B;simp[POp.gY] at hn
   ·cases B
  ·cases B
 ·
  rename_i t x lo hi mx K;split at B
  ·rename_i e p l h m Q V hl hh hm;split at B
   ·cases B
   ·rename_i ν;simp only[aYX] at B;obtain⟨s,S,rfl⟩:=B;exact akR K Q S V hl hh hm ν A N hW M
  ·rename_i p l h Q V hl hh hm;cases B;have ξ:mx=none:=by
    cases mx with
    | none=>rfl
    | some y=>simp only[Tbl.opt,aYX] at hm; obtain⟨_,-,O⟩:=hm; cases O
   subst ξ;simp only[aP] at A;split at A
   ·rename_i str J;split at A
    ·rename_i li ω bl bh;split at A
     ·rename_i hb;cases A;exact .val hW (s:=Instr.sliceAt t (a.eval x) (lo.map a.eval) (hi.map a.eval) (Option.map a.eval none)) (by unfold execOp; rw[K]) (yh Q hl hh (bC V J N M) bl bh hb.1 hb.2.1 hb.2.2 N M)
     ·cases A
    ·cases A
   ·cases A
  ·rename_i n' e p Q V hl hh hm;have ι:∀ {y:Option Operand},T.opt y=some none→y=none:=by
    intro y U;cases y with
    | none=>rfl
    | some y=>simp only[Tbl.opt,aYX] at U; obtain⟨_,-,O⟩:=U; cases O
   have R:=ι hl;have W:=ι hh;have h3:=ι hm;subst R W h3;simp only[aYX] at B;obtain⟨s,S,rfl⟩:=B;simp only[aP] at A;split at A
   ·rename_i cs J;split at A
    ·rename_i hb;cases A;exact .val hW (s:=Instr.sliceAt t (a.eval x) (Option.map a.eval none) (Option.map a.eval none) (Option.map a.eval none)) (by unfold execOp; rw[K]) (Uj Q S (bC V J N M) hb.1 hb.2.2 N M)
    ·cases A
   ·cases A
  ·cases B
 ·
  rename_i t x f K;split at B
  ·rename_i fs q Q O;split at B
   ·rename_i fd hf;split at B
    ·rename_i s S;cases B;simp only[aP] at A;split at A
     ·rename_i J;cases A;exact .val hW (s:=Instr.fieldAt t (a.eval x) f) (by unfold execOp; rw[K]) (RL Q hf S (bC O J N M) (.inl ⟨_,_,_,_,rfl,rfl⟩))
     ·rename_i J;cases A;exact .val hW (s:=Instr.fieldAt t (a.eval x) f) (by unfold execOp; rw[K]) (RL Q hf S (bC O J N M) (.inr ⟨_,rfl,rfl⟩))
     ·cases A
    ·cases B
   ·cases B
  ·cases B
 ·
  rename_i t x f K;split at B
  ·rename_i fs q Q O;split at B
   ·rename_i fd hf;split at B
    ·rename_i k hg S;cases B;simp only[aP] at A;split at A
     ·rename_i cs J;split at A
      ·rename_i θ;cases A;exact .val hW (s:=Instr.field t (a.eval x) f) (by unfold execOp; rw[K]) (alR Q hf hg S (bC O J N M) θ)
      ·cases A
     ·cases A
    ·rename_i k hg;cases B;simp only[aP] at A;split at A
     ·rename_i cs J;exact .val hW (s:=Instr.field t (a.eval x) f) (by unfold execOp; rw[K]) (asA Q hf hg (bC O J N M) A)
     ·cases A
    ·cases B
   ·cases B
  ·cases B
 ·
  rename_i t x i K;split at B
  ·rename_i e p q Q Z O;simp only[aYX] at B;obtain⟨s,S,rfl⟩:=B;simp only[aP] at A;split at A
   ·rename_i s0 rows k m R W;have r1:=bC Z R N M;have r2:=bC O W N M;generalize U:a.eval i=ey at r2;cases r2;split at A
    ·rename_i B;obtain⟨rfl,h0⟩:=B;split at A
     ·rename_i r hr;cases A;refine .val hW (s:=Instr.indexAt t (a.eval x) (a.eval i)) (by unfold execOp; rw[K]) ?_;rw[U];exact aJL Q S r1 h0 hr
     ·cases A
    ·cases A
   ·rename_i o' s0 χ len k m R W;have r1:=bC Z R N M;have r2:=bC O W N M;generalize U:a.eval i=ey at r2;cases r2;split at A
    ·rename_i B;obtain⟨rfl,h0,hi⟩:=B;cases A;refine .val hW (s:=Instr.indexAt t (a.eval x) (a.eval i)) (by unfold execOp; rw[K]) ?_;rw[U];exact aBP Q S r1 h0 hi
    ·cases A
   ·cases A
  ·rename_i e p q k Q Z O;simp only[aYX] at B;obtain⟨s,S,rfl⟩:=B;simp only[aP] at A;split at A
   ·rename_i R W;have r1:=bC Z R N M;have r2:=bC O W N M;generalize U:a.eval i=ey at r2;cases r2;split at A
    ·rename_i B;cases A;refine .val hW (s:=Instr.indexAt t (a.eval x) (a.eval i)) (by unfold execOp; rw[K]) ?_;rw[U];exact l4 Q S r1 B.1 B.2 (.inl ⟨_,_,_,_,rfl,rfl⟩)
    ·cases A
   ·rename_i R W;have r1:=bC Z R N M;have r2:=bC O W N M;generalize U:a.eval i=ey at r2;cases r2;split at A
    ·rename_i B;cases A;refine .val hW (s:=Instr.indexAt t (a.eval x) (a.eval i)) (by unfold execOp; rw[K]) ?_;rw[U];exact l4 Q S r1 B.1 B.2 (.inr ⟨_,rfl,rfl⟩)
    ·cases A
   ·cases A
  ·cases B
 ·
  rename_i t x i K;split at B
  ·rename_i e p q k Q Z O;split at B
   ·rename_i s g S hg;cases B;simp only[aP] at A;split at A
    ·rename_i R W;have r1:=bC Z R N M;have r2:=bC O W N M;generalize U:a.eval i=ey at r2;cases r2;split at A
     ·rename_i B;refine .val hW (s:=Instr.index t (a.eval x) (a.eval i)) (by unfold execOp; rw[K]) ?_;rw[U];exact amW Q S hg r1 B.1 B.2 A
     ·cases A
    ·cases A
   ·cases B
  ·rename_i p q Q Z O;cases B;simp only[aP] at A;split at A
   ·rename_i R W;have r1:=bC Z R N M;have r2:=bC O W N M;generalize U:a.eval i=ey at r2;cases r2;split at A
    ·rename_i B;refine .val hW (s:=Instr.index t (a.eval x) (a.eval i)) (by unfold execOp; rw[K]) ?_;rw[U];exact Pn Q r1 B A
    ·cases A
   ·cases A
  ·cases B
 ·
  rename_i x i K;simp only[aYX] at B;obtain⟨q,O,rfl⟩:=B;simp only[aP] at A;split at A
  ·rename_i vs J;have r:=bC O J N M;generalize V:a.eval x=ex at r;cases r with
   | tup us hl hr =>
   obtain⟨u,Q,τ⟩:=J8 hl hr A;refine .val hW (s:=Instr.extract (a.eval x) i) (by unfold execOp; rw[K]) ⟨u,?_,τ⟩;rw[V];simp[Instr.extract,Q]
  ·cases A
 ·rename_i c K;exact arC K B hw hk A N hW M
 ·cases B
end
open Go Go.RowKit
def Env.own (E:Env) (b n:Nat):Env:=⟨E.G,upd E.sz b (some n),E.num⟩
section
variable {ds:List Deferred} {T:Tbl} {n:Nat} {E:Env} {F:PF} {H:PH} {a:Act} {w:World}
theorem Env.aOE (hW:bQ E H w) (m:Nat):E.le (E.own w.heap.size m):=by
 refine⟨fun b ds h=>h,fun b k h=>?_,rfl⟩;have:=hW.Ub h;simp only[Env.own];rw[UZ _ _ Om];exact h
theorem AA {s:Nat} {rs:List (List PV)} (h:∀ r∈rs,r.length=s) {i j:Nat} {pv:PV} (c:at2 rs i j=some pv):i<rs.length∧j<s:=by
 unfold at2 at c;cases d:rs[i]? with
 | none=>simp[d] at c
 | some r =>
  rw[d,a2C] at c;have e:=h r (a1C d);refine⟨?_,?_⟩
  ·rcases aZL i rs.length with h' | h'
   ·exact h'
   ·rw[a0H h'] at d; cases d
  ·rcases aZL j r.length with h' | h'
   ·omega
   ·rw[a0H h'] at c; cases c
def kX (E:Env) (s:Nat) (rs:List (List PV)) (cs:Array Value):Prop :=
 (∀ r∈rs,r.length=s)∧rs.length*s≤cs.size∧∀ i j pv,at2 rs i j=some pv→∃ u,cs[i*s+j]?=some u∧u.oneCell'=true∧bA E pv u
theorem kX.of_flat {s:Nat} {rs:List (List PV)} {cs:Array Value} (h:nG E rs.flatten cs) (c:∀ r∈rs,r.length=s):kX E s rs cs:=by
 refine⟨c,by rw[h.1,oU rs c]; exact aYV _,fun i j pv d=>?_⟩;obtain⟨-,l⟩:=AA c d;have e:=vP rs i j c l;rw[d] at e;have hlt:i*s+j<cs.size:=by
  rw[h.1];rcases aZL (i*s+j) rs.flatten.length with h' | h'
  ·exact h'
  ·rw[a0H h'] at e; cases e
 exact⟨cs[i*s+j],a2D hlt,h.2.1 _ (Array.getElem_mem_toList hlt),h.2.2 _ pv _ e (a2D hlt)⟩
theorem kX.mono {c:Env} (p:E.le c) {s:Nat} {rs:List (List PV)} {cs:Array Value} (h:kX E s rs cs):kX c s rs cs :=
 ⟨h.1,h.2.1,fun i j pv x=>by obtain⟨u,d,e,l⟩:=h.2.2 i j pv x; exact⟨u,d,e,l.mono p⟩⟩
theorem cP (H:PH) (o q:Nat) (x:cF):(H.set o x).f q=if q=o then some x else H.f q:=rfl
theorem bQ.PZ (hW:bQ E H w) {s:Nat} {rs:List (List PV)} {cs:Array Value} (ty:TypeId) (h:kX E s rs cs) :
  bQ (E.own w.heap.size cs.size) (H.set w.heap.size (.rows s rs)) (w.alloc (.cells cs ty))∧Ext E H w (E.own w.heap.size cs.size) (H.set w.heap.size (.rows s rs)) (w.alloc (.cells cs ty)):=by
 have p:=Env.aOE hW cs.size;refine⟨⟨fun b ds A=>?_,fun o x c=>?_,fun o m B=>?_⟩,⟨p,rfl,rfl,rfl,by simp,fun b A _=>Below.heap_alloc w _ b A,fun o x c=>?_,fun b ds A=>.inl A⟩⟩
 ·obtain⟨d,y,fr,l⟩:=hW.g b ds A;have hlt:=hW.amC A;refine⟨fun x K=>d x ?_,y,fr,(Below.heap_alloc w _ b hlt).trans l⟩;rw[cP,if_neg Om] at K;exact K
 ·rw[cP] at c;split at c
  ·rename_i e;subst e;cases c;refine⟨by simp,cs,ty,heap_alloc_new w _,by simp[Env.own,upd],h.1,h.2.1,fun i j pv N=>?_⟩;obtain⟨u,d,l,M⟩:=h.2.2 i j pv N;exact⟨u,d,l,M.mono p⟩
  ·obtain⟨d,l⟩:=hW.h o x c;exact⟨by simp; omega,l.mono p (Below.heap_alloc w _ o d)⟩
 ·simp only[Env.own,upd] at B;split at B
  ·rename_i e;cases B;subst e;exact⟨cs,ty,(0,0),heap_alloc_new w _,rfl⟩
  ·obtain⟨J,y,fr,d,l⟩:=hW.s o m B;exact⟨J,y,fr,(Below.heap_alloc w _ o (hW.Ub B)).trans d,l⟩
 ·rw[cP] at c;split at c
  ·rename_i e; exact .inr Om
  ·exact .inl ⟨x,c⟩
theorem bQ.aNP (hW:bQ E H w) (sh:MSh):bQ E (H.set w.heap.size (.map sh (fun _=>none))) (w.alloc (.map #[] 0))∧Ext E H w E (H.set w.heap.size (.map sh (fun _=>none))) (w.alloc (.map #[] 0)):=by
 refine⟨⟨fun b ds l=>?_,fun o x c=>?_,fun o m A=>?_⟩,⟨.refl E,rfl,rfl,rfl,by simp,fun b l _=>Below.heap_alloc w _ b l,fun o x c=>?_,fun b ds l=>.inl l⟩⟩
 ·obtain⟨p,d,fr,u⟩:=hW.g b ds l;have hlt:=hW.amC l;refine⟨fun x B=>p x ?_,d,fr,(Below.heap_alloc w _ b hlt).trans u⟩;rw[cP,if_neg Om] at B;exact B
 ·rw[cP] at c;split at c
  ·rename_i e;subst e;cases c;exact⟨by simp,#[],0,[],heap_alloc_new w _,⟨rfl,List.nodup_nil⟩,rfl,fun i e J h=>by simp at h⟩
  ·obtain⟨p,u⟩:=hW.h o x c;exact⟨by simp; omega,u.mono (.refl E) (Below.heap_alloc w _ o p)⟩
 ·obtain⟨y,d,fr,p,u⟩:=hW.s o m A;exact⟨y,d,fr,(Below.heap_alloc w _ o (hW.Ub A)).trans p,u⟩
 ·rw[cP] at c;split at c
  ·rename_i e; exact .inr Om
  ·exact .inl ⟨x,c⟩
def aQK (P:Program) (E:Env) (H:PH) (w:World) (o:Oper) (a:Act) (e:Nat→PV) (x:cF):Prop :=
 ∃ v d c q,(execOp a.eval o).run P w=.ok (.value v) d∧H q=none∧bA c (e q) v∧bQ c (H.set q x) d∧Ext E H w c (H.set q x) d
theorem qg {cs:List PV} {vs:Array Value} (h:nG E cs vs):kX E cs.length [cs] vs:=by
 refine .of_flat (by simpa using h) (by simp)
theorem Sz (E:Env) (b m:Nat):(E.own b m).sz b=some m:=by simp[Env.own,upd]
theorem Xr {o:Oper} {c:Call} {p:POp} (d:T.call o c=some p):p.gY=false:=by
 unfold Tbl.call at d
 repeat' (first | (split at d) | (simp only[aYX] at d; obtain⟨_,-,rfl⟩:=d; rfl) | (cases d; rfl) | (cases d; done))
theorem atM {o:Oper} {p:POp} {mk:Nat→PV} {x:cF} (d:T.op o=some p) (V:p.gY=true) (A:dD p F=some (mk,x)) (hA:dO ds n E F a) (hW:bQ E H w) (hN:E.num=T.num):aQK T.P E H w o a mk x:=by
 have B:=hW.amV;unfold Tbl.op at d;split at d
 case h_4 =>
  rename_i e N;simp only[aYX] at d;obtain⟨z,hz,rfl⟩:=d;simp only[dD,a0Y.injEq,Prod.mk.injEq] at A;obtain⟨rfl,rfl⟩:=A;obtain⟨i,Y,hi,U,X⟩:=OJ (E:=E) hz;obtain⟨Z,h2⟩:=hW.PZ e (qg X);have u:(Instr.alloc e true (.tuple #[])).run T.P w=.ok (.pointer (some ⟨w.heap.size,0,none⟩)) (w.alloc (.cells Y.cells e)):=by simp[Instr.alloc,zeroValue,typeInfo,hi,U,newVar,newRow]
  refine⟨_,_,_,w.heap.size,sP ?_ u,B,?_,Z,h2⟩
  ·unfold execOp; rw[N]
  ·have:=bA.ptr (E:=E.own w.heap.size Y.cells.size) w.heap.size z.length 0 0;simpa using this
 case h_5 =>
  rename_i e y N;simp only[aYX] at d;obtain⟨q,hq,rfl⟩:=d;generalize ζ:T.wu o.dst=ro at *
  cases ro with
  | true=>simp[POp.gY] at V
  | false =>
   simp only[dD] at A;split at A
   ·rename_i v W;split at A
    ·rename_i Z;simp only[a0Y.injEq,Prod.mk.injEq] at A;obtain⟨rfl,rfl⟩:=A;obtain⟨c1,c2,c3⟩:=wG (bC hq W hA hN) Z;obtain⟨g1,g2⟩:=hW.PZ e (qg (E:=E) (cs:=v.cells) (vs:=(a.eval y).cells) ⟨c1,c2,c3⟩);have u:(Instr.box e (a.eval y)).run T.P w=.ok (.pointer (some ⟨w.heap.size,0,none⟩)) (w.alloc (.cells (a.eval y).cells e)):=by simp[Instr.box,newVar,newRow]
     refine⟨_,_,_,w.heap.size,sP ?_ u,B,?_,g1,g2⟩
     ·unfold execOp; rw[N]
     ·have:=bA.ptr (E:=E.own w.heap.size (a.eval y).cells.size) w.heap.size v.cells.length 0 0;simpa using this
    ·cases A
   ·cases A
 case h_7 =>
  rename_i t len parts N;split at d
  ·rename_i e hu;split at d
   ·rename_i s z pl hs hz ε;split at d
    ·rename_i J;cases d;generalize ζ:T.wu o.dst=ro at *
     cases ro with
     | true=>simp[POp.gY] at V
     | false =>
      simp only[dD] at A;split at A
      ·rename_i δ;simp only[aYX,Prod.mk.injEq] at A;obtain⟨out,γ,rfl,rfl⟩:=A;obtain⟨us,u,M,Q,β⟩:=QF (w:=w) hu hs hz J.1 J.2 ε δ.2 γ hA hN;obtain⟨g1,g2⟩:=hW.PZ e (kX.of_flat M Q);refine⟨_,_,_,w.heap.size,sP ?_ u,B,?_,g1,g2⟩
       ·unfold execOp; rw[N]
       ·have θ:us.size=len*s:=by rw[M.1,oU out Q,β]
        refine .osl (n:=us.size) rfl rfl (.inr (by simp)) (aYV _) ?_ (Sz _ _ _) (by rw[θ]; omega);have:len*1≤len*s:=a1F _ J.2;simp only[maxLen];omega
      ·cases A
    ·cases d
   ·cases d
  ·cases d
 case h_15 =>
  rename_i t N;split at d
  case h_2=>cases d
  simp only[aYX] at d;obtain⟨sh,-,rfl⟩:=d;simp only[dD,a0Y.injEq,Prod.mk.injEq] at A;obtain⟨rfl,rfl⟩:=A;obtain⟨g1,g2⟩:=hW.aNP sh;have u:(Instr.makeMap t (Option.map a.eval none)).run T.P w=.ok (.map (some w.heap.size)) (w.alloc (.map #[] 0)):=by simp[Instr.makeMap]
  refine⟨_,_,_,w.heap.size,sP ?_ u,B,.map _,g1,g2⟩;unfold execOp; rw[N]
 case h_19 =>
  rename_i t l c N;split at d
  ·rename_i e hu;split at d
   ·rename_i i z p q hi hz hp hq;split at d
    ·rename_i J;cases d;simp only[dD] at A;split at A
     ·rename_i k1 m1 k2 R W ι;split at A
      ·rename_i S;simp only[a0Y.injEq,Prod.mk.injEq] at A;obtain⟨rfl,rfl⟩:=A;obtain⟨h0,Z,h2,h3,-⟩:=S;have r1:=bC hp W hA hN;have r2:=bC hq ι hA hN;generalize hx:a.eval l=ex at r1;generalize hy:a.eval c=ey at r2;cases r1; cases r2;obtain⟨i',Y,α,U,X⟩:=OJ (E:=E) hz;rw[hi] at α;cases α;have u:=run_make w t e i Y hu hi U k1 k2 m1 R h0 Z (by rw[Int.mul_comm]; omega) h3;have M:=X.aGW (len:=R.toNat) J.1 J.2;have O:kX E i.size (aYR R.toNat z) (madeCells Y.cells (R.toNat*i.size)) :=
        kX.of_flat M (fun r hr=>by rw[(List.mem_replicate.1 hr).2]; exact J.1)
       have η:kX E i.size (aYR m1.toNat z) (madeCells Y.cells (R.toNat*i.size)):=by
        refine⟨fun r hr=>by rw[(List.mem_replicate.1 hr).2]; exact J.1,?_,fun a b pv K=>O.2.2 a b pv ?_⟩
        ·have:=O.2.1;simp only[List.length_replicate] at this ⊢;have h5:m1.toNat*i.size≤R.toNat*i.size:=aZY _ Om;omega
        ·unfold at2 at K ⊢;rw[List.getElem?_replicate] at K ⊢;split at K
         ·rw[if_pos Om]; exact K
         ·simp at K
       obtain⟨g1,g2⟩:=hW.PZ e η;refine⟨_,_,_,w.heap.size,sP (s:=Instr.makeSlice t (.int k1 m1) (.int k2 R)) ?_ u,B,?_,g1,g2⟩
       ·unfold execOp; rw[N]; simp only[hx,hy]
       ·refine .osl (n:=(madeCells Y.cells (R.toNat*i.size)).size) rfl rfl (.inr (by simp)) Om (by simp only[maxLen]; omega) (Sz _ _ _) (by rw[size_madeCells]; omega)
      ·cases A
     ·cases A
    ·cases d
   ·cases d
  ·cases d
 all_goals (first
  | (simp only[aYX] at d; obtain⟨_,-,rfl⟩:=d; simp[POp.gY] at V; done)
  | skip)
 all_goals (repeat' (first | (split at d) | (simp only[aYX] at d; obtain⟨_,-,rfl⟩:=d; simp[POp.gY] at V; done) | (cases d; simp[POp.gY] at V; done) | (cases d; done)))
 all_goals (rw[Xr d] at V; cases V)
end
open Go Go.RowKit
section
variable {ds:List Deferred} {T:Tbl} {n:Nat} {E:Env} {F:PF} {H:PH} {a:Act} {w:World}
theorem bQ.agB (hW:bQ E H w) {o s:Nat} {rs rs':List (List PV)} {i cs:Array Value} {ty:TypeId} (N:H o=some (.rows s rs)) (R:w.heap[o]?=some (.cells i ty (0,0))) (O:cs.size=i.size)
  (h:kX E s rs' cs):bQ E (H.set o (.rows s rs')) (w.setRow o cs)∧Ext E H w E (H.set o (.rows s rs')) (w.setRow o cs):=by
 have d:=setRow_heap w o i cs ty (0,0) R;have c:∀ b,b≠o→(w.setRow o cs).heap[b]?=w.heap[b]?:=fun b y=>setRow_other w o b cs y;have J:∀ b ds,E.G b=some ds→b≠o:=fun b ds y e=>by subst e;have:=(hW.g b ds y).1 _ N;cases this
 have K:E.sz o=some i.size:=by obtain⟨-,p,l,u,B,-⟩:=hW.h o _ N;rw[R] at u;cases u;exact B
 refine⟨⟨fun b ds y=>?_,fun q x A=>?_,fun q m Q=>?_⟩,⟨.refl E,rfl,rfl,rfl,by simp,fun b _ S=>c b (fun e=>by subst e; rw[N] at S; cases S),fun q x A=>?_,fun b ds y=>.inl y⟩⟩
 ·obtain⟨u,l,fr,B⟩:=hW.g b ds y;have M:=J b ds y;refine⟨fun x U=>u x ?_,l,fr,(c b M).trans B⟩;rw[cP,if_neg M] at U;exact U
 ·rw[cP] at A;split at A
  ·rename_i e;subst e;cases A;refine⟨by simpa using (hW.h q _ N).1,cs,ty,d,by rw[O]; exact K,h.1,h.2.1,h.2.2⟩
  ·rename_i e;obtain⟨u,B⟩:=hW.h q x A;exact⟨by simpa using u,B.mono (.refl E) (c q e)⟩
 ·by_cases e:q=o
  ·subst e;rw[K] at Q;cases Q;exact⟨cs,ty,(0,0),d,O⟩
  ·obtain⟨p,l,fr,u,B⟩:=hW.s q m Q;exact⟨p,l,fr,(c q e).trans u,B⟩
 ·rw[cP] at A;split at A
  ·rename_i e; subst e; exact .inl ⟨_,N⟩
  ·exact .inl ⟨x,A⟩
def J5 (P:Program) (E:Env) (H:PH) (w:World) (o:Oper) (a:Act) (K:PV→PH→Prop):Prop :=
 ∃ v d e c H' pv,(execOp a.eval o).run P w=.ok d e∧(d=.value v∨(d=.skip∧v=undef))∧bA c pv v∧bQ c H' e∧Ext E H w c H' e∧K pv H'
theorem UK:∀ (ps:List PV) (r:List PV) (c j:Nat),c+ps.length≤r.length→(setCells r c ps)[j]?=if c≤j∧j<c+ps.length then ps[j-c]? else r[j]?
 | [],r,c,j,_=>by rw[if_neg (by intro h; simp at h; omega)];rfl
 | p::ps,r,c,j,h=>by
  simp only[a0F] at h ⊢;simp only[setCells];rw[UK ps _ (c+1) j (by rw[a0W]; omega),List.getElem?_set];by_cases d:c=j
  ·subst d;rw[if_neg Om,if_pos rfl,if_pos Om,if_pos Om];simp
  ·by_cases e:c+1≤j∧j<c+1+ps.length
   ·rw[if_pos e,if_pos Om];have:j-c=(j-(c+1))+1:=Om;rw[this,List.getElem?_cons_succ]
   ·rw[if_neg e,if_neg d,if_neg Om]
theorem apB (L cs:List Value) (c k:Nat) (h:c+cs.length≤L.length):(L.take c++cs++L.drop (c+cs.length))[k]?=if c≤k∧k<c+cs.length then cs[k-c]? else L[k]?:=by
 have d:(L.take c).length=c:=by rw[aZH]; omega
 by_cases e:k<c
 ·rw[if_neg Om,a0A,a0V Om,a2E,if_pos e]
 ·by_cases i:k<c+cs.length
  ·rw[if_pos ⟨by omega,i⟩,a0A,a1I Om,d,a0V Om]
  ·rw[if_neg Om,a0A,a1I Om,d,a1I Om,List.getElem?_drop];congr 1;omega
theorem kX.store {s:Nat} {rs:List (List PV)} {d:Array Value} (h:kX E s rs d) {i c:Nat} {r ps:List PV} {A:List Value} (M:rs[i]?=some r) (Y:c+ps.length≤s) (Z:A.length=ps.length)
  (W:∀ u∈A,u.oneCell'=true) (K:∀ (j:Nat) p u,ps[j]?=some p→A[j]?=some u→bA E p u) :
  kX E s (rs.set i (setCells r c ps)) (d.toList.take (i*s+c)++A++d.toList.drop (i*s+c+A.length)).toArray:=by
 have hi:i<rs.length:=by
  rcases aZL i rs.length with h' | h'
  ·exact h'
  ·rw[a0H h'] at M; cases M
 have S:r.length=s:=h.1 r (a1C M);have O:(i+1)*s≤rs.length*s:=aZY _ hi;rw[a1V] at O;have U:=h.2.1;have J:i*s+c+A.length≤d.toList.length:=by (have e:d.toList.length=d.size:=a1W; omega)
 refine⟨fun q R=>?_,?_,fun l j pv B=>?_⟩
 ·rcases List.mem_or_eq_of_mem_set R with R | rfl
  ·exact h.1 q R
  ·rw[CV]; exact S
 ·rw[a0W,List.size_toArray];simp only[aYU,aZH,a0R];have e:d.toList.length=d.size:=a1W;omega
 ·rw[List.getElem?_toArray,apB _ _ _ _ J];by_cases e:l=i
  ·subst e;simp only[at2,List.getElem?_set,if_true,hi,a2C] at B;rw[UK ps r c j Om] at B;split at B
   ·rename_i X;rw[if_pos Om];have V:l*s+j-(l*s+c)=j-c:=Om;rw[V];have hlt:j-c<A.length:=Om;exact⟨A[j-c],aZA hlt,W _ (aYQ hlt),K _ pv _ B (aZA hlt)⟩
   ·rename_i X;have y:at2 rs l j=some pv:=by simp[at2,M,B]
    have N:=(AA h.1 y).2;rw[if_neg Om,Array.getElem?_toList];exact h.2.2 l j pv y
  ·have y:at2 rs l j=some pv:=by simp only[at2] at B ⊢;rw[List.getElem?_set,if_neg (fun x=>e x.symm)] at B;exact B
   have N:=(AA h.1 y).2;have Q:¬ (i*s+c≤l*s+j∧l*s+j<i*s+c+A.length):=by
    rcases aZL l i with h' | h'
    ·have:(l+1)*s≤i*s:=aZY _ h';rw[a1V] at this;omega
    ·have:(i+1)*s≤l*s:=aZY _ Om;rw[a1V] at this;omega
   rw[if_neg Q,Array.getElem?_toList];exact h.2.2 l j pv y
theorem Yq {o:Oper} {t:TypeId} {Q x:Operand} {pp px:aQ} {k:Nat} {pa pv:PV} {H':PH} (ho:o.op=.store t Q x) (hs:T.size t=some k) (W:T.opd Q=some pp) (hx:T.opd x=some px)
  (X:pp.ev F=some pa) (Y:px.ev F=some pv) (M:pv.cells.length=k) (d:storeAt H pa pv.cells=some H') (hA:dO ds n E F a) (hW:bQ E H w) (hN:E.num=T.num) :
  ∃ w',(execOp a.eval o).run T.P w=.ok .skip w'∧bQ E H' w'∧Ext E H w E H' w':=by
 unfold storeAt at d;split at d
 ·rename_i q size i c;split at d
  ·rename_i s rs hq;split at d
   ·rename_i B;obtain⟨rfl,R,N⟩:=B;split at d
    ·rename_i r Z;cases d;have ra:=bC W X hA hN;generalize S:a.eval Q=ea at ra;cases ra;obtain⟨c1,c2,c3⟩:=wG (bC hx Y hA hN) N;obtain⟨-,l,ty,hh,β,O,J,A⟩:=hW.h q _ hq;have hR:kX E s rs l:=⟨O,J,A⟩;have hi:i<rs.length:=by
      rcases aZL i rs.length with h' | h'
      ·exact h'
      ·rw[a0H h'] at Z; cases Z
     have U:(i+1)*s≤rs.length*s:=aZY _ hi;rw[a1V] at U;have α:(a.eval x).cells.toList.length=pv.cells.length:=by simpa using c1
     have K:i*s+c+0+(a.eval x).cells.toList.length≤l.size:=Om;have y:=run_storeCells_at T.P q (i*s+c) ty (a.eval x).cells.toList 0 l w hh K c2;simp only[a0S] at y;obtain⟨g1,g2⟩:=hW.agB hq hh (cs:=(l.toList.take (i*s+c)++(a.eval x).cells.toList++l.toList.drop (i*s+c+(a.eval x).cells.toList.length)).toArray)
      (by rw[List.size_toArray]; simp only[aYU,aZH,a0R]; have e:l.toList.length=l.size:=a1W; omega)
      (hR.store Z R α c2 (fun j p u W hu=>c3 j p u W (by simpa using hu)))
     refine⟨_,?_,g1,g2⟩;unfold execOp;rw[ho];have V:¬ ((a.eval x).cells.size≠k):=by rw[c1,M]; simp
     simp[S,Instr.storeAt,Instr.sureAddr,storeVar,jP hs,V,y]
    ·cases d
   ·cases d
  ·cases d
 ·cases d
end
open Go Go.RowKit
section
variable {T:Tbl} {n:Nat} {E:Env} {F:PF} {H:PH} {a:Act} {w:World}
theorem avV {s:Nat} {pv:PV} {v:Value} {rows:List (List PV)} (P:Program) (hW:bQ E H w) (V:bA E pv v) (h:eF H s pv=some rows) :
  ∃ M cap,∃ news:List Value,v=.slice M rows.length cap∧news.length=rows.length*s∧(∀ u∈news,u.oneCell'=true)∧(∀ r∈rows,r.length=s) ∧
   (∀ i j q,at2 rows i j=some q→∃ u,news[i*s+j]?=some u∧bA E q u) ∧
   ∀ y:World,y.heap=w.heap→(Builtin.firstCells s rows.length v).run P y=.ok news.toArray y:=by
 obtain⟨M,cap,rfl,Q,d,U⟩:=sr hW V h;by_cases J:rows=[]
 ·subst J;refine⟨M,cap,[],rfl,by simp,by simp,by simp,fun i j q l=>by simp[at2] at l,fun y _=>?_⟩;cases M with
  | none=>simp[Builtin.firstCells]
  | some x=>simp[Builtin.firstCells,Go.loadCells,Go.loadCellsFrom]
 ·obtain⟨b,p,rfl,c⟩:=U J;have A:∀ k,k<rows.length*s→∃ u q,at2 rows (k/s) (k%s)=some q∧w.cell? ⟨b,p+k,none⟩=some u∧u.oneCell'=true∧bA E q u:=by
   intro k e;have R:0<s:=by
    rcases a1B s with h | h
    ·subst h; simp at e
    ·exact h
   have O:k/s<rows.length:=(a1T R).2 e;have W:k%s<s:=a0I _ R;have S:k/s*s+k%s=k:=by rw[aZT]; exact a2H k s
   have l:∃ q,at2 rows (k/s) (k%s)=some q:=by have Y:=d rows[k/s] (aYQ O);exact⟨rows[k/s][k%s]'Om,by simp[at2,O,aZA (Om:k%s<rows[k/s].length)]⟩
   obtain⟨q,l⟩:=l;obtain⟨u,g1,g2,g3⟩:=c _ _ q l;rw[S] at g1;exact⟨u,q,l,g1,g2,g3⟩
  refine⟨_,cap,(aYO (rows.length*s)).map fun k=>(w.cell? ⟨b,p+k,none⟩).getD undef,rfl,by simp,?_,d,?_,?_⟩
  ·intro u K;simp only[aZQ,aZR] at K;obtain⟨k,e,rfl⟩:=K;obtain⟨u,q,-,g1,g2,-⟩:=A k e;simp[g1,g2]
  ·intro i j q l;obtain⟨hi,X⟩:=AA d l;have hlt:i*s+j<rows.length*s:=by have:(i+1)*s≤rows.length*s:=aZY _ hi;rw[a1V] at this;omega
   obtain⟨u,g1,g2,g3⟩:=c i j q l;refine⟨u,?_,g3⟩;rw[aZN,List.getElem?_range hlt];simp[g1]
  ·intro y N;refine run_firstCells_some y s rows.length _ _ cap _ (by simp) (fun j u K=>?_);rw[add_plain];simp only[aZN,aYX] at K;obtain⟨k,e,rfl⟩:=K;have B:j<rows.length*s:=by
    rcases aZL j (rows.length*s) with h' | h'
    ·exact h'
    ·rw[a0H (by simpa using h')] at e; cases e
   rw[List.getElem?_range B] at e;cases e;obtain⟨u,q,-,g1,-,-⟩:=A j B;have:y.cell? ⟨b,p+j,none⟩=w.cell? ⟨b,p+j,none⟩:=by simp[World.cell?,N]
   rw[this,g1];rfl
theorem UH {t ty e:TypeId} {i:TypeInfo} (y:T.P.underlying t=some (.slice e)) (hi:T.P.info? e=some i) (base:Option Addr) (l d c:Nat) (u:Option Addr) (p:l≤d)
  (x:(Builtin.firstCells i.size 0 (.slice u 0 c)).run T.P w=.ok #[] w):(Builtin.append_ #[t,t] ty #[.slice base l d,.slice u 0 c]).run T.P w=.ok (.slice base l d) w:=by
 cases base with
 | none=>simp[Builtin.append_,run_underlying y,sizeOf,typeInfo,hi,Builtin.lenOf,p,x]
 | some b=>simp[Builtin.append_,run_underlying y,sizeOf,typeInfo,hi,Builtin.lenOf,p,x,storeCells]
theorem T9 {t ty e bt:TypeId} {i:TypeInfo} (N:T.P.underlying t=some (.slice e)) (hi:T.P.info? e=some i) (g d p m c:Nat) (B:Option Addr) (l:Array Value) (M:w.heap[g]?=some (.cells l bt (0,0)))
  (news:List Value) (O:news.length=m*i.size) (K:(Builtin.firstCells i.size m (.slice B m c)).run T.P w=.ok news.toArray w) (J:∀ u∈news,u.oneCell'=true) (x:d+m≤p) (y:d*i.size+news.length≤l.size) :
  (Builtin.append_ #[t,t] ty #[.slice (some ⟨g,0,none⟩) d p,.slice B m c]).run T.P w =
   .ok (.slice (some ⟨g,0,none⟩) (d+m) p) (w.setRow g (l.toList.take (d*i.size)++news++l.toList.drop (d*i.size+news.length)).toArray):=by
 have A:=run_storeCells_at T.P g (d*i.size) bt news 0 l w M (by simpa using y) J;simp only[a0S] at A;simp[Builtin.append_,run_underlying N,sizeOf,typeInfo,hi,Builtin.lenOf,x,K,Addr.add_lit,A]
theorem T8 {t ty e:TypeId} {i:TypeInfo} {z:Value} (O:T.P.underlying t=some (.slice e)) (hi:T.P.info? e=some i) (Q:i.zero=some z) (base:Option Addr) (d l m c:Nat) (y:Option Addr) (aYL news:List Value)
  (N:(Builtin.firstCells i.size d (.slice base d l)).run T.P w.drew=.ok aYL.toArray w.drew) (J:(Builtin.firstCells i.size m (.slice y m c)).run T.P w.drew=.ok news.toArray w.drew)
  (K:l<d+m) (x:d+m≤maxLen) (B:(d+m)*i.bytes≤140737488355328) :
  (Builtin.append_ #[t,t] ty #[.slice base d l,.slice y m c]).run T.P w =
   .ok (.slice (some ⟨w.heap.size,0,none⟩) (d+m) (grownCap w (d+m) l e))
    (w.drew.alloc (.cells (aYL.toArray++news.toArray++Builtin.zeroCells z.cells (grownCap w (d+m) l e-(d+m))) e)):=by
 have M:¬ (d+m≤l):=Om;simp only[maxLen] at x;have u:¬ (9223372036854775807<((d:Int)+(m:Int))):=Om;have A:=growslice_fits K B;have p:¬ (281474976710656<Builtin.nextslicecap (d+m) l*i.bytes):=Om;simp[Builtin.append_,run_underlying O,sizeOf,typeInfo,zeroValue,hi,Q,Builtin.lenOf,M,u,p,Question.forced,J,N,newRow,grownCap];congr 2;apply Array.ext';simp[a0A]
theorem bQ.drew (hW:bQ E H w):bQ E H w.drew:=⟨hW.g,fun o x c=>⟨(hW.h o x c).1,(hW.h o x c).2.mono (.refl E) rfl⟩,hW.s⟩
theorem Ext.xx {c:Env} {H':PH} {d:World} (h:Ext E H w.drew c H' d):Ext E H w c H' d:=⟨h.env,h.os,h.tape,h.output,h.size,h.block,h.new,h.newG⟩
theorem akM {rs src:List (List PV)} (i j:Nat):at2 (rs++src) i j=if i<rs.length then at2 rs i j else at2 src (i-rs.length) j:=by
 unfold at2;rw[List.getElem?_append];split<;>rfl
theorem kX.join {s:Nat} {rs src:List (List PV)} {aYL news:List Value} {tail:List Value} (p:∀ r∈rs,r.length=s) (x:∀ r∈src,r.length=s) (c:aYL.length=rs.length*s) (l:news.length=src.length*s)
  (A:∀ i j q,at2 rs i j=some q→∃ u,aYL[i*s+j]?=some u∧u.oneCell'=true∧bA E q u) (y:∀ i j q,at2 src i j=some q→∃ u,news[i*s+j]?=some u∧u.oneCell'=true∧bA E q u) :
  kX E s (rs++src) (aYL++news++tail).toArray:=by
 refine⟨fun r B=>?_,?_,fun i j q d=>?_⟩
 ·rcases a0G.1 B with h | h
  ·exact p r h
  ·exact x r h
 ·rw[List.size_toArray,aYU,aYU,aYU,c,l,aZX];omega
 ·rw[akM] at d;rw[List.getElem?_toArray];split at d
  ·rename_i hi;obtain⟨u,g1,g2,g3⟩:=A i j q d;refine⟨u,?_,g2,g3⟩;have hlt:i*s+j<aYL.length:=by
    rcases aZL (i*s+j) aYL.length with h' | h'
    ·exact h'
    ·rw[a0H h'] at g1; cases g1
   rw[a0A,a0V hlt];exact g1
  ·rename_i hi;obtain⟨u,g1,g2,g3⟩:=y _ j q d;refine⟨u,?_,g2,g3⟩;have hlt:(i-rs.length)*s+j<news.length:=by
    rcases aZL ((i-rs.length)*s+j) news.length with h' | h'
    ·exact h'
    ·rw[a0H h'] at g1; cases g1
   have e:i*s+j=aYL.length+((i-rs.length)*s+j):=by rw[c,← a1D,← aZX];congr 2;omega
   rw[e,a0A,a1I Om,Nat.add_sub_cancel_left,a0V hlt];exact g1
theorem bQ.dead (hW:bQ E H w) {o:Nat} {x:cF} (l:H o=some x):bQ E (H.set o .dead) w∧Ext E H w E (H.set o .dead) w:=by
 refine⟨⟨fun b ds d=>⟨fun y i=>?_,(hW.g b ds d).2⟩,fun q y c=>?_,hW.s⟩,⟨.refl E,rfl,rfl,rfl,aYV _,fun _ _ _=>rfl,fun q y c=>?_,fun b ds d=>.inl d⟩⟩
 ·rw[cP] at i;split at i
  ·cases i; rfl
  ·exact (hW.g b ds d).1 y i
 ·rw[cP] at c;split at c
  ·rename_i e;subst e;cases c;exact⟨(hW.h q x l).1,trivial⟩
  ·exact hW.h q y c
 ·rw[cP] at c;split at c
  ·rename_i e; subst e; exact .inl ⟨x,l⟩
  ·exact .inl ⟨y,c⟩
end
open Go Go.RowKit
section
variable {T:Tbl} {n:Nat} {E:Env} {F:PF} {H:PH} {a:Act} {w:World}
theorem amN (w:World) (c d:Nat) (e:TypeId):c≤grownCap w c d e:=grownCap_ge w c d e
theorem pI {o:Oper} {c:Call} {x y:Operand} {t:TypeId} {v:Value} {l:World} (A:o.op=.call c) (e:c.callee=.builtin .append) (d:c.args.toList=[x,y]) (i:c.argTypes.toList=[t,t])
  (h:(Builtin.append_ #[t,t] o.type #[a.eval x,a.eval y]).run T.P w=.ok v l):(execOp a.eval o).run T.P w=.ok (.value v) l:=by
 unfold execOp;rw[A];have p:c.argTypes=#[t,t]:=by apply Array.ext'; simp[i]
 have u:=akL d a.eval;simp[resolve,e,invoke,builtin,p,u,h]
theorem bQ.trim (hW:bQ E H w) {o s k:Nat} {rs:List (List PV)} (B:H o=some (.rows s rs)):bQ E (H.set o (.rows s (rs.take k))) w∧Ext E H w E (H.set o (.rows s (rs.take k))) w:=by
 refine⟨⟨fun b ds l=>⟨fun y K=>?_,(hW.g b ds l).2⟩,fun q y c=>?_,hW.s⟩,⟨.refl E,rfl,rfl,rfl,aYV _,fun _ _ _=>rfl,fun q y c=>?_,fun b ds l=>.inl l⟩⟩
 ·rw[cP] at K;split at K
  ·rename_i e; subst e;have:=(hW.g b ds l).1 _ B;cases this
  ·exact (hW.g b ds l).1 y K
 ·rw[cP] at c;split at c
  ·rename_i e;subst e;cases c;obtain⟨N,A,ty,O,J,x,M,d⟩:=hW.h q _ B;refine⟨N,A,ty,O,J,fun r Q=>x r (a2M Q),?_,fun i j p u=>d i j p ?_⟩
   ·have:(rs.take k).length*s≤rs.length*s:=aZY _ (by rw[aZH]; omega);omega
   ·unfold at2 at u ⊢;rw[a2E] at u;split at u
    ·exact u
    ·simp at u
  ·exact hW.h q y c
 ·rw[cP] at c;split at c
  ·rename_i e; subst e; exact .inl ⟨_,B⟩
  ·exact .inl ⟨y,c⟩
theorem Kb {o:Oper} {c:Call} {x y:Operand} {t e:TypeId} {i:TypeInfo} {px py:PV} {K:PV→PH→Prop} (ho:o.op=.call c) (ι:c.callee=.builtin .append) (θ:c.args.toList=[x,y]) (μ:c.argTypes.toList=[t,t])
  (ht:T.P.underlying t=some (.slice e)) (hi:T.P.info? e=some i) (hz:i.zero.isSome=true) (A':(i.zero.map (·.cells.size))=some i.size) (h0:0<i.size)
  (hx:bA E px (a.eval x)) (hy:bA E py (a.eval y)) (hK:mZ H i.size i.bytes px py K) (hW:bQ E H w):J5 T.P E H w o a K:=by
 obtain⟨z,hz⟩:=Option.isSome_iff_exists.1 hz;have B':z.cells.size=i.size:=by simpa [hz] using A'
 obtain⟨src,c',hK⟩:=hK;obtain⟨ad,cap,news,R,X,ψ,ζ,V,M⟩:=avV T.P hW hy c';have grow:∀ (base:Option Addr) (d l:Nat) (rs:List (List PV)) (aYL:List Value),(Builtin.firstCells i.size d (.slice base d l)).run T.P w.drew=.ok aYL.toArray w.drew→aYL.length=d*i.size→rs.length=d →
   (∀ r∈rs,r.length=i.size)→(∀ O j q,at2 rs O j=some q→∃ u,aYL[O*i.size+j]?=some u∧u.oneCell'=true∧bA E q u)→l<d+src.length→roomFor d src.length i.bytes→a.eval x=.slice base d l →
   ∀ (H1:PH),bQ E H1 w→Ext E H w E H1 w→∃ v w' E' q,(execOp a.eval o).run T.P w=.ok (.value v) w'∧H1 q=none∧bA E' (.osl q i.size 0 (d+src.length)) v∧bQ E' (H1.set q (.rows i.size (rs++src))) w'∧Ext E H w E' (H1.set q (.rows i.size (rs++src))) w':=by
  intro base d l rs aYL ε ν S y' u' hlt A Z H1 Δ g';have B:=T8 (w:=w) (ty:=o.type) ht hi hz base d l src.length cap ad aYL news ε (by rw[← R]; exact M w.drew rfl) hlt A.1 A.2;have m':=amN w (d+src.length) l e;have l':=grownCap_le_maxLen w (d+src.length) l e A.1;generalize J':grownCap w (d+src.length) l e=gc at *
  have s':∀ O j q,at2 src O j=some q→∃ u,news[O*i.size+j]?=some u∧u.oneCell'=true∧bA E q u:=fun O j q hq=>by obtain⟨u,g1,g2⟩:=V O j q hq;exact⟨u,g1,ψ u (a1C g1),g2⟩
  have hR:=kX.join (E:=E) (tail:=(Builtin.zeroCells z.cells (gc-(d+src.length))).toList) y' ζ (by rw[ν,S]) X u' s';have κ:(aYL.toArray++news.toArray++Builtin.zeroCells z.cells (gc-(d+src.length)))=(aYL++news++(Builtin.zeroCells z.cells (gc-(d+src.length))).toList).toArray:=by apply Array.ext'; simp
  rw[κ] at B;have η:(aYL++news++(Builtin.zeroCells z.cells (gc-(d+src.length))).toList).toArray.size=gc*i.size:=by
   have ez:(Builtin.zeroCells z.cells (gc-(d+src.length))).toList.length=(gc-(d+src.length))*i.size:=by rw[a1W,size_zeroCells,B']
   rw[List.size_toArray,aYU,aYU,ez,ν,X,← aZX,← aZX];congr 1;omega
  obtain⟨g1,g2⟩:=Δ.drew.PZ e hR;refine⟨_,_,_,w.heap.size,pI ho ι θ μ (by rw[Z,R]; exact B),Δ.amV,?_,g1,g'.trans g2.xx⟩;refine .osl rfl rfl (.inr (by simp)) m' l' (Sz _ _ _) ?_;rw[η];omega
 split at hK
 ·
  have d':a.eval x=.slice none 0 0:=by generalize a.eval x=v at hx;cases hx;rfl
  obtain⟨A,Ψ,Γ⟩:=hK;by_cases Y:src=[]
  ·subst Y;have γ:=M w rfl;have χ:news=[]:=List.eq_nil_of_length_eq_zero (by rw[X]; simp);subst χ;rw[R] at γ;have B:=UH (w:=w) (ty:=o.type) ht hi none 0 0 cap ad (aYV _) γ;exact⟨_,_,w,E,H,.aB,pI ho ι θ μ (by rw[d',R]; exact B),.inl rfl,.aB,hW,.refl E H w,Ψ rfl⟩
  ·have b':0<src.length:=List.length_pos_iff.2 Y;obtain⟨v,w',E',q,g1,g2,g3,g4,g5⟩:=grow none 0 0 [] [] (by simp[Builtin.firstCells]) (by simp) rfl (by simp) (fun O j q hq=>by simp[at2] at hq) Om A d' H hW (.refl E H w);refine⟨v,_,w',E',_,_,g1,.inl rfl,g3,g4,g5,?_⟩;have:=Γ Y q g2;simpa using this
 ·
  rename_i q s K' len;obtain⟨rfl,rfl,A,rs,hq,v',α,σ⟩:=hK;have υ:∃ b l,a.eval x=.slice (some b) len l:=by generalize a.eval x=v at hx;cases hx;exact⟨_,_,rfl⟩
  obtain⟨b,l,Z⟩:=υ;obtain⟨d,rfl⟩:∃ d,d=len:=⟨_,rfl⟩
  ·rw[Z] at hx;cases hx with
   | osl hb z' W ο ρ Ω ξ =>
   rename_i N;obtain⟨D',J,ty,hh,η,x',f',e'⟩:=hW.h q _ hq;obtain⟨Θ,h'⟩:=hW.trim (k:=d) hq;obtain⟨-,C',L',Λ,I',Q,ω,β⟩:=Θ.h q (.rows i.size (rs.take d)) (by rw[cP,if_pos rfl]);rw[hh] at Λ;cases Λ;have S:(rs.take d).length=d:=by rw[aZH]; omega
   generalize G':rs.take d=U at *
   have j':N=J.size:=by rw[η] at Ω; cases Ω; rfl
   subst j';simp only[Nat.zero_mul,aZM] at ξ W;by_cases Y:src=[]
   ·subst Y;have γ:=M w rfl;have χ:news=[]:=List.eq_nil_of_length_eq_zero (by rw[X]; simp);subst χ;rw[R] at γ;have B:=UH (w:=w) (ty:=o.type) ht hi (some b) d l cap ad ο γ;simp only[a0M,a1H,a0S] at α;exact⟨_,_,w,E,_,.osl q i.size 0 d,pI ho ι θ μ (by rw[Z,R]; exact B),.inl rfl,.osl hb z' (by simpa using W) ο ρ η Om,Θ,h',α⟩
   ·have b':0<src.length:=List.length_pos_iff.2 Y;by_cases δ:d+src.length≤l
    ·have τ:b=⟨q,0,none⟩:=by
      have:b.off=0:=by
       rcases W with h | h
       ·omega
       ·exact h
      cases b; simp_all
     subst τ;have Ξ:(d+src.length)*i.size≤l*i.size:=aZY _ δ;rw[aZX] at Ξ;have B:=T9 (w:=w) (ty:=o.type) ht hi q d l src.length cap ad J hh news X (by rw[← R]; exact M w rfl) ψ δ Om;have r':(J.toList.take (d*i.size)).length=U.length*i.size:=by rw[aZH,a1W,S]; omega
     have k':=kX.join (E:=E) (s:=i.size) (rs:=U) (src:=src) (aYL:=J.toList.take (d*i.size)) (news:=news) (tail:=J.toList.drop (d*i.size+news.length)) Q ζ r' X
      (fun O j p hp=>by obtain⟨u,g1,g2,g3⟩:=β O j p hp;obtain⟨φ,o'⟩:=AA Q hp;refine⟨u,?_,g2,g3⟩;have:(O+1)*i.size≤U.length*i.size:=aZY _ φ;rw[a1V,S] at this;rw[a2E,if_pos Om,Array.getElem?_toList];exact g1)
      (fun O j p hp=>by obtain⟨u,g1,g2⟩:=V O j p hp;exact⟨u,g1,ψ u (a1C g1),g2⟩)
     obtain⟨g1,g2⟩:=hW.agB hq hh (rs':=U++src) (cs:=(J.toList.take (d*i.size)++news++J.toList.drop (d*i.size+news.length)).toArray)
      (by rw[List.size_toArray]; simp only[aYU,aZH,a0R]; have e:J.toList.length=J.size:=a1W; omega) k'
     exact⟨_,_,_,E,_,.osl q i.size 0 (d+src.length),pI ho ι θ μ (by rw[Z,R]; exact B),.inl rfl,.osl rfl rfl (.inr (by simp)) δ ρ η Om,g1,g2,α⟩
    ·have ε:∃ aYL:List Value,(Builtin.firstCells i.size d (.slice (some b) d l)).run T.P w.drew=.ok aYL.toArray w.drew∧aYL.length=d*i.size ∧
       (∀ O j p,at2 U O j=some p→∃ u,aYL[O*i.size+j]?=some u∧u.oneCell'=true∧bA E p u):=by
      by_cases p':d=0
      ·subst p';refine⟨[],run_firstCells_some w.drew i.size 0 b 0 l [] (by simp) (by simp),by simp,fun O j p hp=>?_⟩;have:=(AA Q hp).1;omega
      ·have τ:b=⟨q,0,none⟩:=by
        have:b.off=0:=by
         rcases W with h | h
         ·omega
         ·exact h
        cases b; simp_all
       subst τ;have Φ:(J.toList.take (d*i.size)).length=d*i.size:=by rw[aZH,a1W];rw[S] at ω;omega
       refine⟨J.toList.take (d*i.size),run_firstCells_some w.drew i.size d _ d l _ Φ (fun j u hu=>?_),Φ,fun O j p hp=>?_⟩
       ·rw[add_plain,aZM];rw[a2E] at hu;split at hu
        ·rw[Array.getElem?_toList] at hu;show w.cell? ⟨q,j,none⟩=some u;rw[cell_of_row w q j J ty (0,0) hh];exact hu
        ·cases hu
       ·obtain⟨u,g1,g2,g3⟩:=β O j p hp;obtain⟨φ,o'⟩:=AA Q hp;refine⟨u,?_,g2,g3⟩;have:(O+1)*i.size≤U.length*i.size:=aZY _ φ;rw[a1V,S] at this;rw[a2E,if_pos Om,Array.getElem?_toList];exact g1
     obtain⟨aYL,ε,ν,t'⟩:=ε;obtain⟨v,w',E',q',g1,g2,g3,g4,g5⟩:=grow (some b) d l U aYL ε ν S Q t' Om A Z H hW (.refl E H w);exact⟨v,_,w',E',_,_,g1,.inl rfl,g3,g4,g5,σ q' g2⟩
 ·cases hK
end
open Go Go.RowKit
section
variable {ds:List Deferred} {T:Tbl} {n:Nat} {E:Env} {F:PF} {H:PH} {a:Act} {w:World}
def oneOf (c:Array Value) (k:Nat):Value:=if ((c[k]?).getD (.int .i64 0)).oneCell' then (c[k]?).getD (.int .i64 0) else .int .i64 0
theorem auO (c:Array Value) (k:Nat):(oneOf c k).oneCell'=true:=by
 unfold oneOf;split
 ·assumption
 ·rfl
theorem bf {o s:Nat} {rs:List (List PV)} {d:Array Value} {M:Env} (x:E.le M) (hG:M.G o=some d) (α:E.sz o=some d.size) (V:kX E s rs d) {pv:PV} {v:Value} (h:bA E pv v) :
  bA M (pv.dK o s rs) v:=by
 unfold PV.dK;split
 ·rename_i q s' c len;split
  ·rename_i e;subst e;split
   ·rename_i hc;obtain⟨rfl,W⟩:=hc;cases h with
    | osl hb U J A B hn S =>
    rename_i cap N O;have X:((rs.drop c).take len).length=len:=by rw[aZH,a0R]; omega
    have Q:∀ i j p,at2 ((rs.drop c).take len) i j=some p→at2 rs (c+i) j=some p:=by
     intro i j p l;unfold at2 at l ⊢;rw[a2E] at l;split at l
     ·rw[List.getElem?_drop] at l; exact l
     ·simp at l
    have K:bA M (.sl s' ((rs.drop c).take len)) (.slice (some O) ((rs.drop c).take len).length cap):=by
     have Z:∀ i j p,at2 ((rs.drop c).take len) i j=some p→∃ u,d[(c+i)*s'+j]?=some u∧bA E p u∧oneOf d ((c+i)*s'+j)=u:=by intro i j p l;obtain⟨u,g1,g2,g3⟩:=V.2.2 _ _ _ (Q i j p l);exact⟨u,g1,g3,by simp[oneOf,g1,g2]⟩
     refine .sl (fun i j=>oneOf d ((c+i)*s'+j)) (by rw[X]; exact A) B (fun r hr=>V.1 r (List.mem_of_mem_drop (a2M hr))) (fun R=>?_) (fun i j=>auO _ _) (fun i j p l=>?_)
     ·have Y:0<((rs.drop c).take len).length:=List.length_pos_iff.2 R;have y:O.off=c*s':=by
       rcases J with h | h
       ·omega
       ·exact h
      refine⟨O,rfl,U,fun i j p l=>?_⟩;obtain⟨u,g1,-,g3⟩:=Z i j p l;rw[g3];unfold Env.cell;rw[hb,hG,a2C,y];have e:c*s'+i*s'+j=(c+i)*s'+j:=by rw[aZX]
      rw[e];exact g1
     ·obtain⟨u,-,g2,g3⟩:=Z i j p l;rw[g3];exact g2.mono x
    rw[X] at K;exact K
   ·exact .junk _
  ·exact h.mono x
 ·exact h.mono x
theorem M3 {o s:Nat} {rs:List (List PV)} {c:Array Value} {i:Env} (d:E.le i) (l:i.G o=some c) (e:E.sz o=some c.size) (x:kX E s rs c) {pv:PV} {v:Value} (h:bA E pv v) :
  bA i (pv.tC o s rs) v:=by
 unfold PV.tC;split
 ·cases h with
  | agg vs B A K =>
  refine .agg vs (by simpa using B) A (fun j p u y M=>?_);rw[aZN,aYX] at y;obtain⟨q,J,rfl⟩:=y;exact bf d l e x (K j q u J M)
 ·exact bf d l e x h
theorem aIL {o s:Nat} {rs:List (List PV)} {c:Array Value} {i:Env} (d:E.le i) (l:i.G o=some c) (e:E.sz o=some c.size) (x:kX E s rs c) {pv:PV} {v:Value} (h:bA E pv v) :
  bA i (pv.frz o s rs) v:=by
 unfold PV.frz;split
 ·cases h with
  | tup vs A J =>
  refine .tup vs (by simpa using A) (fun j p u y K=>?_);rw[aZN,aYX] at y;obtain⟨q,B,rfl⟩:=y;exact M3 d l e x (J j q u B K)
 ·exact M3 d l e x h
theorem bQ.frz (hW:bQ E H w) {o s:Nat} {rs:List (List PV)} (Z:H o=some (.rows s rs)):∃ U,bQ U (H.frz o s rs) w∧Ext E H w U (H.frz o s rs) w∧∀ {pv:PV} {v:Value},bA E pv v→bA U (pv.frz o s rs) v:=by
 obtain⟨hlt,l,ty,hh,O,V,W,h3⟩:=hW.h o _ Z;have hR:kX E s rs l:=⟨V,W,h3⟩;have X:E.G o=none:=by
  cases h:E.G o with
  | none=>rfl
  | some ds=>have:=(hW.g o ds h).1 _ Z; cases this
 have A:E.le ⟨upd E.G o (some l),E.sz,E.num⟩:=by
  refine⟨fun b ds d=>?_,fun b m h=>h,rfl⟩;have Y:b≠o:=fun e=>by subst e; rw[X] at d; cases d
  simp only;rw[UZ _ _ Y];exact d
 have M:(⟨upd E.G o (some l),E.sz,E.num⟩:Env).G o=some l:=by simp[upd]
 have c:∀ q,(H.frz o s rs).f q=if q=o then none else (H q).map (cF.frz o s rs):=fun q=>rfl
 refine⟨⟨upd E.G o (some l),E.sz,E.num⟩,⟨fun b ds d=>?_,fun q x B=>?_,hW.s⟩,⟨A,rfl,rfl,rfl,aYV _,fun _ _ _=>rfl,fun q x B=>?_,fun b ds d=>?_⟩,fun h=>aIL A M O hR h⟩
 ·simp only[upd] at d;split at d
  ·rename_i e;subst e;cases d;refine⟨fun x Q=>?_,ty,(0,0),hh⟩;rw[c,if_pos rfl] at Q;cases Q
  ·rename_i e;obtain⟨g1,g2⟩:=hW.g b ds d;refine⟨fun x Q=>?_,g2⟩;rw[c,if_neg e,aYX] at Q;obtain⟨y,R,rfl⟩:=Q;have:=g1 y R;subst this;rfl
 ·rw[c] at B;split at B
  ·cases B
  ·rw[aYX] at B;obtain⟨y,R,rfl⟩:=B;obtain⟨g1,g2⟩:=hW.h q y R;refine⟨g1,?_⟩;cases y with
   | rows s' rs' =>
    obtain⟨K,δ,k1,k2,k3,k4,k5⟩:=g2;refine⟨K,δ,k1,k2,?_,by simpa using k4,fun i j p S=>?_⟩
    ·intro r N;simp only[aZQ] at N;obtain⟨r',γ,rfl⟩:=N;simpa using k3 r' γ
    ·simp only[at2,aZN,Option.bind_map] at S;have α:∃ J,at2 rs' i j=some J∧p=J.dK o s rs:=by
      unfold at2;cases N:rs'[i]? with
      | none=>simp[N] at S
      | some r =>simp only[N,a2C,Function.comp,aZN,aYX] at S ⊢;obtain⟨J,V,W⟩:=S;exact⟨J,V,W.symm⟩
     obtain⟨J,β,rfl⟩:=α;obtain⟨u,m1,m2,m3⟩:=k5 i j J β;exact⟨u,m1,m2,bf A M O hR m3⟩
   | map es=>exact PW.mono A rfl g2
   | loop F n t ε ζ=>exact PW.mono A rfl g2
   | dead=>trivial
 ·rw[c] at B;split at B
  ·cases B
  ·rw[aYX] at B;obtain⟨y,R,-⟩:=B;exact .inl ⟨y,R⟩
 ·simp only[upd] at d;split at d
  ·rename_i e; subst e; exact .inr (.inl ⟨_,Z⟩)
  ·exact .inl d
theorem jJ.sound {F d:PF} {H H':PH} (h:jJ F H d H'):∀ {E:Env},bQ E H w→∃ c,bQ c H' w∧Ext E H w c H' w∧∀ (f:Nat→Value),(∀ i pv,F i=some pv→bA E pv (f i))→∀ i pv,d i=some pv→bA c pv (f i):=by
 induction h with
 | refl F H=>intro E hW; exact⟨E,hW,.refl E H w,fun f h=>h⟩
 | step o y _ B =>intro E hW;obtain⟨K,l,p,u⟩:=hW.frz y;obtain⟨e,k1,k2,J⟩:=B l;refine⟨e,k1,p.trans k2,fun f x=>J f fun i pv hi=>?_⟩;simp only[PF.frz,aYX] at hi;obtain⟨q,A,rfl⟩:=hi;exact u (x i q A)
theorem dO.frz {e:PF} {H':PH} (d:dO ds n E F a) (hW:bQ E H w) (h:jJ F H e H'):∃ c,dO ds n c e a∧bQ c H' w∧Ext E H w c H' w:=by
 obtain⟨c,l,p,u⟩:=h.sound hW;exact⟨c,⟨d.size,d.defers,u (fun i=>a.tmps.getD i undef) d.t⟩,l,p⟩
end
open Go Go.RowKit
section
variable {T:Tbl} {n:Nat} {E:Env} {F:PF} {H:PH} {a:Act} {w:World}
theorem XG (k:List KS):∀ (L:List (List KS × PV)) (i j:Nat),(oI k L i).map (·.2)=(oI k L j).map (·.2)
 | [],_,_=>rfl
 | e::L,i,j=>by
  simp only[oI];split
  ·rfl
  ·exact XG k L _ _
theorem mQ (e:List KS × PV) (L:List (List KS × PV)) (k:List KS):mapOf (e::L) k=if e.1=k then some e.2 else mapOf L k:=by
 unfold mapOf;simp only[oI];split
 ·rfl
 ·exact XG k L _ _
theorem mf {c:List KS} {pv:PV}:∀ {L:List (List KS × PV)},mapOf L c=none→mapOf (L++[(c,pv)])=jU.upd (mapOf L) c pv
 | [],_=>by
  funext k;simp only[a2G,mQ,jU.upd];by_cases h:c=k
  ·rw[if_pos h,if_pos h.symm]
  ·rw[if_neg h,if_neg (fun e=>h e.symm)]
 | e::L,h=>by
  rw[mQ] at h;split at h
  ·cases h
  ·rename_i i;funext k;rw[List.cons_append,mQ,mf h];simp only[jU.upd,mQ];by_cases d:e.1=k
   ·have:k≠c:=fun l=>i (d.trans l);simp[d,this]
   ·simp[d]
theorem Cj {c:List KS} {pv:PV}:∀ {L:List (List KS × PV)} {i j:Nat} {p:PV},oI c L i=some (j,p)→i≤j∧mapOf (L.set (j-i) (c,pv))=jU.upd (mapOf L) c pv
 | [],i,j,p,h=>by simp[oI] at h
 | e::L,i,j,p,h=>by
  simp only[oI] at h;split at h
  ·rename_i y;cases h;refine⟨aYV _,?_⟩;funext k;rw[a1Q,a2B,mQ];simp only[jU.upd,mQ];by_cases l:c=k
   ·subst l; simp
   ·have x:k≠c:=fun d=>l d.symm;have u:e.1≠k:=fun d=>l (y.symm.trans d);simp[l,x,u]
  ·rename_i y;obtain⟨l,x⟩:=Cj (pv:=pv) h;refine⟨by omega,?_⟩;funext k;rw[show j-i=(j-(i+1))+1 by omega,List.set_cons_succ,mQ,x];simp only[jU.upd,mQ];by_cases u:e.1=k
   ·have:k≠c:=fun d=>y (u.trans d);simp[u,this]
   ·simp[u]
theorem bQ.avS (hW:bQ E H w) {o:Nat} {sh:MSh} {g:jU} {W l:Array MapEntry} {A c:Nat} {L:List (List KS × PV)} (Q:H o=some (.map sh g)) (Y:w.heap[o]?=some (.map W A)) (S:l.size=L.length∧(L.map (·.1)).Nodup)
  (X:∀ (i:Nat) e R,L[i]?=some e→l[i]?=some R→e.1.map KS.sh=sh.2∧R.key=gQ sh e.1∧bA E e.2 R.val) :
  bQ E (H.set o (.map sh (mapOf L))) { w with heap:=w.heap.setIfInBounds o (.map l c) }∧Ext E H w E (H.set o (.map sh (mapOf L))) { w with heap:=w.heap.setIfInBounds o (.map l c) }:=by
 have hlt:=(hW.h o _ Q).1;have d:∀ b,b≠o→(w.heap.setIfInBounds o (.map l c))[b]?=w.heap[b]?:=fun b u=>Array.getElem?_setIfInBounds_ne (Ne.symm u);have J:(w.heap.setIfInBounds o (.map l c))[o]?=some (.map l c):=by simp[hlt]
 have O:∀ b ds,E.G b=some ds→b≠o:=fun b ds u e=>by subst e;have:=(hW.g b ds u).1 _ Q;cases this
 refine⟨⟨fun b ds u=>?_,fun q x y=>?_,fun q m Z=>?_⟩,⟨.refl E,rfl,rfl,rfl,by simp,fun b _ U=>d b (fun e=>by subst e; rw[Q] at U; cases U),fun q x y=>?_,fun b ds u=>.inl u⟩⟩
 ·obtain⟨B,K,fr,N⟩:=hW.g b ds u;have p:=O b ds u;refine⟨fun x V=>B x ?_,K,fr,(d b p).trans N⟩;rw[cP,if_neg p] at V;exact V
 ·rw[cP] at y;split at y
  ·rename_i e;subst e;cases y;exact⟨by simpa using hlt,l,c,L,J,S,rfl,X⟩
  ·rename_i e;obtain⟨B,N⟩:=hW.h q x y;exact⟨by simpa using B,N.mono (.refl E) (d q e)⟩
 ·obtain⟨M,K,fr,B,N⟩:=hW.s q m Z;have p:q≠o:=fun e=>by subst e; rw[Y] at B; cases B
  exact⟨M,K,fr,(d q p).trans B,N⟩
 ·rw[cP] at y;split at y
  ·rename_i e; subst e; exact .inl ⟨_,Q⟩
  ·exact .inl ⟨x,y⟩
theorem ZC (k:KS) (d:Nat):Instr.sameBits d k.val k.val=true:=by
 cases k<;>cases d<;>simp[KS.val,Instr.sameBits,beq_toListBytes]
theorem Ud (sh:MSh) (k:List KS) (i:sh.1=false→∃ s,k=[s]):Instr.sameBits 10000 (gQ sh k) (gQ sh k)=true:=by
 obtain⟨b,l⟩:=sh;cases b with
 | false =>obtain⟨s,rfl⟩:=i rfl;exact ZC s 10000
 | true =>
  simp only[gQ,if_true];obtain⟨m,p⟩:∃ m:Nat,m=9999:=⟨_,rfl⟩;rw[show (10000:Nat)=m+1 by omega];simp only[Instr.sameBits,beq_self_eq_true,aYZ,aZC];rintro⟨x,y⟩ d;have:∀ (l:List Value),(x,y)∈l.zip l→x=y∧x∈l:=by
   intro l
   induction l with
   | nil=>intro h; simp at h
   | cons z u e =>
    intro h;simp only[List.zip_cons_cons,aYY,Prod.mk.injEq] at h;rcases h with ⟨rfl,rfl⟩ | h
    ·exact⟨rfl,by simp⟩
    ·exact⟨(e h).1,by simp[(e h).2]⟩
  obtain⟨rfl,c⟩:=this _ d;simp only[aZQ] at c;obtain⟨s,-,rfl⟩:=c;exact ZC s m
theorem Qb {t kt et:TypeId} {sh:MSh} {pk pv:PV} {x k v:Value} {o:Nat} {g:jU} {c:List KS} (ht:T.P.underlying t=some (.map kt et)) (X:T.lO kt=some sh)
  (hx:bA E (.map o) x) (hk:bA E pk k) (hv:bA E pv v) (ho:H o=some (.map sh g)) (V:keyOf sh pk=some c) (hW:bQ E H w) :
  ∃ w',(Instr.mapUpdate t x k v).run T.P w=.ok () w'∧bQ E (H.set o (.map sh (g.upd c pv))) w'∧Ext E H w E (H.set o (.map sh (g.upd c pv))) w':=by
 cases hx;obtain⟨hlt,Y,K,L,Z,⟨A,W⟩,rfl,l⟩:=hW.h o _ ho;obtain⟨ζ,u,δ⟩:=B8 hk V;have α:sD sh L Y.toList:=⟨by simpa using A,fun i e R a b=>by have:=l i e R a (by simpa using b); exact⟨this.1,this.2.1⟩⟩;obtain⟨r,g1,g2⟩:=PJ (w:=w) X u α;subst ζ;have S:(getObj o).run T.P w=.ok (.map Y K) w:=by simp[getObj,Sem.run,Z]
 have J:∀ x,(setObj o x).run T.P w=.ok () { w with heap:=w.heap.setIfInBounds o x }:=fun x=>MapKept.run_setObj_map x Z;simp only[Instr.mapUpdate,Sem.run_bind,run_underlying ht,Result.andThen_ok,S,GI X u,g1];unfold Found at g2;split at g2
 ·rename_i hn;subst g2;have hm:mapOf L c=none:=by unfold mapOf; rw[hn]; rfl
  have hp:jU.upd (mapOf L) c pv=mapOf (L++[(c,pv)]):=(mf hm).symm;rw[hp];simp only[J];have ε:c ∉ L.map (·.1):=fun hm=>by have:=(IV c L 0).2 hm;rw[hn] at this; cases this
  have d:((L++[(c,pv)]).map (·.1)).Nodup:=by rw[aZO,a1J];refine⟨W,by simp,fun x hx y hy=>?_⟩;simp only[a0D,a0X,a0Q] at hy;subst hy;rintro rfl;exact ε hx
  refine⟨_,rfl,hW.avS ho Z ⟨by simp[A],d⟩ fun i e R M B=>?_⟩;rcases Nat.lt_trichotomy i L.length with h3 | h3 | h3
  ·rw[a0V h3] at M;rw[Array.getElem?_push_lt Om] at B;exact l i e R M (by rw[a2D Om]; exact B)
  ·subst h3;rw[a1I (aYV _)] at M;rw[← A,Array.getElem?_push_size] at B;simp at M B;subst M; subst B;exact⟨u,rfl,hv⟩
  ·rw[a0H (by simp; omega)] at M;cases M
 ·rename_i j p hj;obtain⟨e0,-,B,h3,rfl⟩:=g2;have hp:jU.upd (mapOf L) c pv=mapOf (L.set j (c,pv)):=by have:=(Cj (pv:=pv) hj).2;simpa using this.symm
  rw[hp];simp only[Nat.sub_zero] at B h3;have N:Y[j]?=some e0:=by simpa using B
  have β:e0.key=gQ sh c:=(l j _ e0 h3 N).2.1;have O:(Instr.keyThatStays (((Y[j]?).map (·.key)).getD (gQ sh c)) (gQ sh c)).run T.P w=.ok (gQ sh c) w:=by rw[N];simp only[aZZ,a1L,β,Instr.keyThatStays,Ud sh c δ,if_true,Sem.run_pure]
  simp only[Sem.run_bind,O,Result.andThen_ok,J];have d:((L.set j (c,pv)).map (·.1)).Nodup:=by
   have e9:(L.set j (c,pv)).map (·.1)=L.map (·.1):=by
    rw[List.map_set];refine List.ext_getElem? fun i=>?_;rw[List.getElem?_set];split
    ·rename_i e; subst e;rw[aZN,h3];have:=(aZU.1 h3).1;simp[this]
    ·rfl
   rw[e9]; exact W
  refine⟨_,rfl,hW.avS ho Z ⟨by simp[A],d⟩ fun i e R Q h5=>?_⟩;rw[Array.getElem?_modify] at h5;rw[List.getElem?_set] at Q;have γ:j<L.length:=(aZU.1 h3).1;by_cases U:j=i
  ·subst U;rw[if_pos rfl,if_pos γ] at Q;rw[if_pos rfl,N] at h5;simp at Q h5;subst Q; subst h5;exact⟨u,rfl,hv⟩
  ·rw[if_neg U] at Q h5;exact l i e R Q h5
end
open Go Go.RowKit
def Fz (r:Option Nat):Fence:={ Fence.wide with round:=r }
theorem Fz.calls {r:Option Nat} {m:Nat} {P:Program} {f:FuncId} {args:Array Value} {w:World} {R:Ending→World→Prop} (h:Calls P f args w R):CallsIn (Fz r) m P f args w R:=(callsIn_wide (n:=m)).2 h
theorem Fz.fn {r:Option Nat} (f:FuncId):(Fz r).fn f:=trivial
theorem HF {r:Option Nat} {m:Nat} {P:Program} {o:Oper} {a:Act} {w:World} {next:Act→World→Prop} {Q:Exit→Act→World→Prop} (d:∀ c,o.op≠.defer c) (h:o.uponIn (Fz r) m P a next Q ((execOp a.eval o).run P w)):o.wpIn (Fz r) m P a w next Q :=
 ⟨fun _ _=>trivial,by rw[Oper.semAt_eq _ _ _ d]; exact h⟩
section
variable {ro:Option Nat} {fu:Nat} {ds:List Deferred} {T:Tbl} {n:Nat} {E:Env} {F:PF} {H:PH} {a:Act} {w:World}
def mI (ds:List Deferred) (n:Nat) (E:Env) (H:PH) (w:World) (K:PF→PH→Prop) (next:Act→World→Prop):Prop :=
 ∀ c e H' i d,dO ds n c e i→bQ c H' d→Ext E H w c H' d→K e H'→next i d
theorem eQ.append {ps c:List PV} {vs d:List Value} (h:eQ E ps vs) (k:eQ E c d):eQ E (ps++c) (vs++d):=by
 induction h with
 | nil=>exact k
 | cons h _ e=>exact .cons h e
theorem eQ.aGR {ps:List PV}:∀ {vs:List Value},vs.length=ps.length→(∀ (j:Nat) p v,ps[j]?=some p→vs[j]?=some v→bA E p v)→eQ E ps vs:=by
 induction ps with
 | nil=>intro vs c _; simp at c; subst c; exact .nil
 | cons p ps d =>
  intro vs c h;cases vs with
  | nil=>simp at c
  | cons v vs=>exact .cons (h 0 p v rfl rfl) (d (by simpa using c) fun j q u a b=>h (j+1) q u (by simpa using a) (by simpa using b))
theorem ayO {o:Oper} {c:Call} {f:FuncId} {vc:Array Value} {x:Operand} {P:Program} {fn:Func} (p:o.op=.call c) (e:c.callee=.value x) (u:a.eval x=.func (.func f) #[] vc)
  (l:P.funcs[f]?=some fn) (y:fn.body.isSome=true) (i:(fn.name=="runtime.NumGoroutine")=false) :
  (execOp a.eval o).run P w=.ok (.enter f (c.args.map a.eval++vc)) w:=by
 have d:fn.body.isNone=false:=by cases h:fn.body<;>simp_all
 unfold execOp;rw[p];simp only[resolve,e,u,Deferred.ofValue,Sem.run_bind,Sem.run_pure,Result.andThen_ok,invoke,callFunc,run_program,l,i,d,a1S,if_false,Array.empty_append]
theorem XC {C:Ctx} {name:Nat} {ps:Option (List PV)} {d:Option Nat} {K:PF→PH→Prop} {o:Oper} {c:Call} {x:Operand} {vc:Array Value} {Q:Exit→Act→World→Prop} {next:Act→World→Prop}
  (h:sQ C name ps d K F H) (hd:o.dst=d) (hlt:o.dst.all (·<n)=true) (U:o.op=.call c) (N:c.callee=.value x) (hx:a.eval x=.func (.func (C.num name)) #[] vc)
  (i:∀ vs,ps=some vs→eQ E vs (c.args.map a.eval++vc).toList) (Y:dO ds n E F a) (hW:bQ E H w) (hN:E.num=C.num) (aXY:mI ds n E H w K next):o.wpIn (Fz ro) fu C.P a w next Q:=by
 obtain⟨vs,W,R,rfl,p,⟨⟨fn,hf,hb,O⟩,l⟩,Z⟩:=h;have u:=ayO (w:=w) (a:=a) U N hx hf hb O;refine HF (fun c'=>by rw[U]; exact fun e=>by cases e) ?_;rw[u,Oper.uponIn_enter];refine⟨(fun h=>by cases h),Fz.calls ((l E w _ hN (hW.weaken p) (i vs rfl)).mono fun e w' he=>?_)⟩;obtain⟨v,pv,S,H',rfl,J,hr,A,hR⟩:=he;have M:mH H W H':=by
  intro q y hq X;rcases A.new q y hq with ⟨z,V⟩ | hge
  ·rw[X] at V; cases V
  ·cases hh:H q with
   | none=>rfl
   | some z=>have:=(hW.h q z hh).1; omega
 have B:dO ds n S (F.put d pv) (a.put o.dst v):=by rw[← hd];exact (Y.mono A.env).put hlt hr
 exact aXY S _ _ _ w' B (hW.over A p J) (A.narrow p) (Z pv H' hR M)
theorem QI {C:Ctx} {name:Nat} {args:List aQ} {cs:List PV} {d:Option Nat} {K:PF→PH→Prop} {o:Oper} {c:Call} {x:Operand} {vc:Array Value} {Q:Exit→Act→World→Prop} {next:Act→World→Prop}
  (h:iV C name args cs d K F H) (R:o.dst=d) (hlt:o.dst.all (·<n)=true) (S:o.op=.call c) (y:c.callee=.value x) (U:a.eval x=.func (.func (C.num name)) #[] vc)
  (e:∀ (p:Env) (O:PF) vs,E.le p→dO ds n p O a→p.num=C.num→aQ.evs O args=some vs→eQ p (vs++cs) (c.args.map a.eval++vc).toList) (J:dO ds n E F a) (hW:bQ E H w) (B:E.num=C.num) (aXY:mI ds n E H w K next):o.wpIn (Fz ro) fu C.P a w next Q:=by
 rcases h with h | ⟨F1,H1,hf,h⟩
 ·refine XC h R hlt S y U (fun vs i=>?_) J hW B aXY;rw[aYX] at i;obtain⟨N,l,rfl⟩:=i;exact e E F N (.refl E) J B l
 ·obtain⟨p,u,M,A⟩:=J.frz hW hf;refine XC h R hlt S y U (fun vs i=>?_) u M (A.env.num.trans B) (fun V W H2 a2 X g1 g2 g3 g4=>aXY V W H2 a2 X g1 g2 (A.trans g3) g4);rw[aYX] at i;obtain⟨N,l,rfl⟩:=i;exact e p F1 N A.env u (A.env.num.trans B) l
theorem VN {C:Ctx} {l:Nat} {ps:Option (List PV)} {d:Option Nat} {K:PF→PH→Prop} {o:Oper} {c:Call} {x:Operand} {Q:Exit→Act→World→Prop} {next:Act→World→Prop}
  (h:OH C l ps d K F H) (hd:o.dst=d) (hlt:o.dst.all (·<n)=true) (Y:o.op=.call c) (W:c.callee=.value x) (hx:a.eval x=.func (.yield l) #[] #[])
  (A:∀ vs,ps=some vs→eQ E vs (c.args.map a.eval).toList) (hA:dO ds n E F a) (hW:bQ E H w) (hN:E.num=C.num) (aXY:mI ds n E H w K next):o.wpIn (Fz ro) fu C.P a w next Q:=by
 obtain⟨vs,H0,R,rfl,J,B,hK⟩:=h;obtain⟨fn,u,i,body,hy,p⟩:=B E w (c.args.map a.eval) hN (hW.weaken J) (A vs rfl);have M:(execOp a.eval o).run C.P w=.ok (.round l fn u i body) w:=by unfold execOp;rw[Y];simp only[resolve,W,hx,Deferred.ofValue,Sem.run_bind,Sem.run_pure,Result.andThen_ok,invoke,Array.empty_append,Array.append_empty];exact hy
 refine HF (fun c'=>by rw[Y]; exact fun e=>by cases e) ?_;rw[M,Oper.uponIn_round];have S:RoundIn (Fz ro) (fu-1) C.P l fn u i body w _:=⟨trivial,fun c cs _=>p.2 c cs (room_wide _)⟩;refine⟨(fun h=>by cases h),S.mono fun e w' he=>?_⟩;obtain⟨v,pv,X,H',rfl,U,hr,N,hR⟩:=he;have V:mH H H0 H':=by
  intro q y hq h0;rcases N.new q y hq with ⟨z,Z⟩ | hge
  ·rw[h0] at Z; cases Z
  ·cases hh:H q with
   | none=>rfl
   | some z=>have:=(hW.h q z hh).1; omega
 have O:dO ds n X (F.put d pv) (a.put o.dst v):=by rw[← hd];exact (hA.mono N.env).put hlt hr
 exact aXY X _ _ _ w' O (hW.over N J U) (N.narrow J) (hK pv H' hR V)
theorem I4 {C:Ctx} {l:Nat} {args:List aQ} {d:Option Nat} {K:PF→PH→Prop} {o:Oper} {c:Call} {x:Operand} {Q:Exit→Act→World→Prop} {next:Act→World→Prop}
  (h:aiZ C l args d K F H) (O:o.dst=d) (hlt:o.dst.all (·<n)=true) (R:o.op=.call c) (y:c.callee=.value x) (S:a.eval x=.func (.yield l) #[] #[])
  (e:∀ (p:Env) (N:PF) vs,dO ds n p N a→p.num=C.num→aQ.evs N args=some vs→eQ p vs (c.args.map a.eval).toList) (B:dO ds n E F a) (hW:bQ E H w) (A:E.num=C.num) (aXY:mI ds n E H w K next):o.wpIn (Fz ro) fu C.P a w next Q:=by
 rcases h with h | ⟨F1,H1,hf,h⟩
 ·exact VN h O hlt R y S (fun vs i=>e E F vs B A i) B hW A aXY
 ·obtain⟨p,u,M,J⟩:=B.frz hW hf;exact VN h O hlt R y S (fun vs i=>e p F1 vs u (J.env.num.trans A) i) u M (J.env.num.trans A) (fun U V H2 a2 W g1 g2 g3 g4=>aXY U V H2 a2 W g1 g2 (J.trans g3) g4)
theorem Pq {o:Oper} {p:POp} (d:T.op o=some p) (e:p.oR=true):∃ c,o.op=.call c∧T.call o c=some p:=by
 unfold Tbl.op at d;split at d
 case h_26=>rename_i c i; exact⟨c,i,d⟩
 all_goals (repeat' (first | (split at d) | (simp only[aYX] at d; obtain⟨_,-,rfl⟩:=d; simp[POp.oR] at e; done) | (cases d; simp[POp.oR] at e; done) | (cases d; done)))
theorem dx {o:Oper} {p:POp} (d:T.op o=some p):∀ c,o.op≠.defer c:=by
 intro c e;unfold Tbl.op at d;rw[e] at d;simp at d
theorem It {o:Oper} {p:POp} (d:T.op o=some p) (A:p.eI=true) :
  (∃ t R x k U l,o.op=.store t R x∧T.size t=some k∧T.opd R=some U∧T.opd x=some l∧p=.store k U l) ∨
  (∃ c x y t e i l V,o.op=.call c∧c.callee=.builtin .append∧c.args.toList=[x,y]∧c.argTypes.toList=[t,t]∧T.P.underlying t=some (.slice e)∧T.P.info? e=some i∧i.zero.isSome=true ∧
   (i.zero.map (·.cells.size))=some i.size∧0<i.size∧T.opd x=some l∧T.opd y=some V∧p=.append i.size i.bytes l V) ∨
  (∃ t O Q sh x k v l pk pv,(o.op=.mapUpdate t x k v∨o.op=.insert t x k v)∧T.P.underlying t=some (.map O Q)∧T.lO O=some sh∧T.opd x=some l∧T.opd k=some pk∧T.opd v=some pv ∧
   (p=.aXU sh l pk pv∨p=.insert sh l pk pv)):=by
 unfold Tbl.op at d;split at d
 case h_17 =>
  rename_i t x k v N;split at d
  ·rename_i O Q S;split at d<;>cases d;rename_i sh p q r B J K W;exact .inr (.inr ⟨t,O,Q,sh,x,k,v,p,q,r,.inl N,S,B,J,K,W,.inl rfl⟩)
  ·cases d
 case h_18 =>
  rename_i t x k v N;split at d
  ·rename_i O Q S;split at d<;>cases d;rename_i sh p q r B J K W;exact .inr (.inr ⟨t,O,Q,sh,x,k,v,p,q,r,.inr N,S,B,J,K,W,.inr rfl⟩)
  ·cases d
 case h_9 =>rename_i t R x N;split at d<;>cases d;rename_i k U l B J K;exact .inl ⟨t,R,x,k,U,l,N,B,J,K,rfl⟩
 case h_26 =>
  rename_i c N;unfold Tbl.call at d;split at d
  ·rename_i b Y;split at d
   ·split at d<;>(first | (simp only[aYX] at d; obtain⟨_,-,rfl⟩:=d; simp[POp.eI] at A; done) | (cases d; simp[POp.eI] at A; done) | (cases d; done))
   ·rename_i x y t u X Z;split at d<;>try cases d
    rename_i e e' ht S;split at d<;>try cases d
    rename_i i l V hi hx hy;split at d
    ·rename_i M;cases d;obtain⟨rfl,B,J,K⟩:=M;exact .inr (.inl ⟨c,x,y,t,e,i,l,V,N,Y,X,Z,ht,hi,B,J,K,hx,hy,rfl⟩)
    ·cases d
   ·split at d<;>(first | (simp only[aYX] at d; obtain⟨_,-,rfl⟩:=d; simp[POp.eI] at A; done) | (cases d; done))
   ·split at d<;>(first | (cases d; simp[POp.eI] at A; done) | (cases d; done))
   ·split at d<;>(first | (cases d; simp[POp.eI] at A; done) | (cases d; done))
   ·cases d
  ·split at d
   ·split at d
    ·cases d; simp[POp.eI] at A
    ·cases d
   ·cases d
  ·simp only[aYX] at d;obtain⟨_,-,rfl⟩:=d;simp[POp.eI] at A
  ·cases d
 all_goals (repeat' (first | (split at d) | (simp only[aYX] at d; obtain⟨_,-,rfl⟩:=d; simp[POp.eI] at A; done) | (cases d; simp[POp.eI] at A; done) | (cases d; done)))
theorem Y0 {o:Oper} {p:POp} {K:PV→PH→Prop} (hc:T.op o=some p) (hk:p.eI=true) (h:cD p F H K) (J:dO ds n E F a) (hW:bQ E H w) (M:E.num=T.num):J5 T.P E H w o a K:=by
 rcases It hc hk with ⟨t,ax,x,k,pp,Z,ho,h1,h2,h3,rfl⟩ | ⟨c,x,y,t,e,i,Z,py,ho,hcc,hca,hct,ht,hi,g1,g2,g3,hx,hy,rfl⟩ | ⟨t,kt,et,sh,x,k,v,Z,pk,pv,ho,hu,hsh,hx,hkk,hv,hp⟩
 ·simp only[cD] at h;split at h
  ·rename_i pa pv u W;obtain⟨hl,H',X,l⟩:=h;obtain⟨w',hr,U,hE⟩:=Yq ho h1 h2 h3 u W hl X J hW M;exact⟨undef,_,w',E,H',.junk,hr,.inr ⟨rfl,rfl⟩,.junk _,U,hE,l⟩
  ·exact h.elim
 ·simp only[cD] at h;split at h
  ·rename_i pa pb u V;exact Kb ho hcc hca hct ht hi g1 g2 g3 (bC hx u J M) (bC hy V J M) h hW
  ·exact h.elim
 ·have d:∀ q A B g d,Z.ev F=some (.map q)→pk.ev F=some A→pv.ev F=some B→H q=some (.map sh g)→keyOf sh A=some d→K .junk (H.set q (.map sh (g.upd d B)))→J5 T.P E H w o a K:=by intro q A B g d N O Q R S l;obtain⟨w',g1,g2,g3⟩:=Qb hu hsh (bC hx N J M) (bC hkk O J M) (bC hv Q J M) R S hW;refine⟨undef,.skip,w',E,_,.junk,?_,.inr ⟨rfl,rfl⟩,.junk _,g2,g3,l⟩;rcases ho with ho | ho<;>(unfold execOp; rw[ho]; simp[g1])
  rcases hp with rfl | rfl
  ·simp only[cD] at h;split at h
   ·rename_i q A B N O Q;split at h
    ·rename_i α g Y R S;obtain⟨rfl,l⟩:=h;exact d q A B g Y N O Q R S l
    ·exact h.elim
   ·exact h.elim
  ·simp only[cD] at h;split at h
   ·rename_i q A B N O Q;split at h
    ·rename_i α g Y R S;obtain⟨rfl,-,l⟩:=h;exact d q A B g Y N O Q R S l
    ·exact h.elim
   ·exact h.elim
theorem aDI {C:Ctx} (X:C.P=T.P) (A:C.num=T.num) {o:Oper} {p:POp} {d:Option Nat} {K:PF→PH→Prop} {Q:Exit→Act→World→Prop} {next:Act→World→Prop} (hc:T.op o=some p) (hd:o.dst=d) (hlt:o.dst.all (·<n)=true)
  (h:wpOp C p d K F H) (O:dO ds n E F a) (hW:bQ E H w) (Y:E.num=T.num) (aXY:mI ds n E H w K next):o.wpIn (Fz ro) fu T.P a w next Q:=by
 by_cases hk:p.oR=true
 ·obtain⟨c,ho,i⟩:=Pq hc hk;unfold Tbl.call at i;split at i
  ·rename_i b M;exfalso
   repeat' (first | (split at i) | (simp only[aYX] at i; obtain⟨_,-,rfl⟩:=i; simp[POp.oR] at hk; done) | (cases i; simp[POp.oR] at hk; done) | (cases i; done))
  ·rename_i f M;split at i
   ·rename_i m xs hm U;split at i
    ·rename_i hf;cases i;rw[← X];refine QI h hd hlt ho M (vc:=#[]) (by rw[A,hf]; rfl) (fun N F' vs _ R Z β=>?_) O hW (Y.trans A.symm) aXY;simpa using yC U β R (Z.trans A)
    ·cases i
   ·cases i
  ·rename_i t M;simp only[aYX] at i;obtain⟨xs,U,rfl⟩:=i;have h':vL C (aQ.ev F (.tmp t)) xs d K F H:=h;have δ:a.eval (.tmp t)=a.tmps.getD t undef:=rfl;cases α:aQ.ev F (.tmp t) with
   | none=>rw[α] at h'; exact h'.elim
   | some u =>
    rw[α] at h';have r:=O.t t _ α;cases u with
    | fn name cs =>
     generalize hv:a.tmps.getD t undef=v at r;cases r with
     | fn vc V W =>
     rw[← X];refine QI h' hd hlt ho M (vc:=vc) (by rw[δ,hv,Y,A]) (fun N F' ws η A' Z κ=>?_) O hW (Y.trans A.symm) aXY;rw[Array.toList_append];refine eQ.append (by simpa using yC U κ A' (Z.trans A)) (eQ.aGR (by simpa using V) fun j p u hp hu=>(W j p u hp (by simpa using hu)).mono η)
    | lit u =>
     obtain⟨l,V,hy⟩:=h';unfold PV.axL at V;split at V
     ·rename_i l' f' c' e;split at V
      ·rename_i ζ;cases V;obtain⟨rfl,rfl⟩:=ζ;cases e;generalize hv:a.tmps.getD t undef=v at r;cases r;rw[← X];exact I4 hy hd hlt ho M (by rw[δ,hv]) (fun N F' vs A' N' β=>by simpa using yC U β A' (N'.trans A)) O hW (Y.trans A.symm) aXY
      ·cases V
     ·cases V
    | _=>exact h'.elim
  ·cases i
 ·have γ:p.oR=false:=by simpa using hk
  have y:(if p.gY then nF (dD p F) d K F H else if p.eI then cD p F H (fun r H'=>K (F.put d r) H') else bZ (aP p F H) d K F H):=by cases p<;>first | exact h | (simp[POp.oR] at γ)
  by_cases hn:p.gY=true
  ·rw[if_pos hn] at y;obtain⟨mk,x,ε,hK⟩:=y;obtain⟨v,w',N,q,W,hq,B,J,S⟩:=atM hc hn ε O hW Y;refine HF (dx hc) ?_;rw[W,Oper.uponIn_value];exact aXY N _ _ _ w' (by rw[← hd]; exact (O.mono S.env).put hlt B) J S (hK q hq)
  ·rw[if_neg hn] at y;by_cases hw:p.eI=true
   ·rw[if_pos hw] at y;obtain⟨v,nx,w',N,H',pv,W,θ,B,J,S,hK⟩:=Y0 hc hw y O hW Y;refine HF (dx hc) ?_;have R:dO ds n N (F.put d pv) (a.put o.dst v):=by rw[← hd]; exact (O.mono S.env).put hlt B
    rcases θ with rfl | ⟨rfl,rfl⟩
    ·rw[W,Oper.uponIn_value];exact aXY N _ _ _ w' R J S hK
    ·rw[W,Oper.uponIn_skip];exact aXY N _ _ _ w' R J S hK
   ·rw[if_neg hw] at y;obtain⟨pv,ι,hK⟩:=y;obtain⟨v,w',N,W,B,J,S⟩:=akS hc (by simpa using hn) (by simpa using hw) γ ι O hW Y;refine HF (dx hc) ?_;rw[W,Oper.uponIn_value];exact aXY N _ _ _ w' (by rw[← hd]; exact (O.mono S.env).put hlt B) J S hK
end
def aQ.cI:aQ→List Nat
 | .tmp t=>[t]
 | .const _=>[]
def tX:Option aQ→List Nat
 | none=>[]
 | some x=>x.cI
def UN:List aQ→List Nat
 | []=>[]
 | x::xs=>x.cI++UN xs
def Ul:List (Nat × Nat × aQ)→List Nat
 | []=>[]
 | x::xs=>x.2.2.cI++Ul xs
def Uk:List (Nat × aQ)→List Nat
 | []=>[]
 | x::xs=>x.2.cI++Uk xs
def POp.cI:POp→List Nat
 | .mv x=>x.cI
 | .pick c a b=>c.cI++(a.cI++b.cI)
 | .bin _ x y=>x.cI++y.cI
 | .eqb _ x y=>x.cI++y.cI
 | .eqs _ _ x y=>x.cI++y.cI
 | .un _ x=>x.cI
 | .conv _ x=>x.cI
 | .same x=>x.cI
 | .alloc _=>[]
 | .box _ x=>x.cI
 | .build _ ps=>Ul ps
 | .aXI _ _ _ _ ps=>Uk ps
 | .load _ p=>p.cI
 | .store _ p x=>p.cI++x.cI
 | .aXP x=>x.cI
 | .aYF _ x=>x.cI
 | .field _ _ x=>x.cI
 | .aXT _ x i=>x.cI++i.cI
 | .idxA _ _ x i=>x.cI++i.cI
 | .idxV _ _ _ x i=>x.cI++i.cI
 | .aYD x i=>x.cI++i.cI
 | .slice _ x lo hi mx=>x.cI++(tX lo++(tX hi++tX mx))
 | .aXZ x lo hi=>x.cI++(tX lo++tX hi)
 | .sliceA _ _ x lo hi mx=>x.cI++(tX lo++(tX hi++tX mx))
 | .len x=>x.cI
 | .aYC x=>x.cI
 | .aYM x=>x.cI
 | .lenM x=>x.cI
 | .isNil _ x=>x.cI
 | .extract x _=>x.cI
 | .aXK _ _ _ l c=>l.cI++c.cI
 | .append _ _ x y=>x.cI++y.cI
 | .aXX _ x y=>x.cI++y.cI
 | .mkfn _ cs=>UN cs
 | .aYI _=>[]
 | .lookup _ _ x k _=>x.cI++k.cI
 | .aXU _ x k v=>x.cI++(k.cI++v.cI)
 | .insert _ x k v=>x.cI++(k.cI++v.cI)
 | .stuck=>[]
 | .aXQ x=>x.cI
 | .str2bytes x=>x.cI
 | .call _ d=>UN d
 | .aYE x d=>x.cI++UN d
def pM (l:List Nat) (F F':PF):Prop:=∀ t∈l,F t=F' t
theorem pM.left {a b:List Nat} {F F':PF} (h:pM (a++b) F F'):pM a F F':=fun t c=>h t (by simp[c])
theorem pM.right {a b:List Nat} {F F':PF} (h:pM (a++b) F F'):pM b F F':=fun t c=>h t (by simp[c])
section
variable {F F':PF} {H H':PH}
theorem bY {x:aQ} (h:pM x.cI F F'):x.ev F=x.ev F':=by
 cases x with
 | tmp t=>exact h t (by simp[aQ.cI])
 | const v=>rfl
theorem IT:∀ {xs:List aQ},pM (UN xs) F F'→aQ.evs F xs=aQ.evs F' xs
 | [],_=>rfl
 | x::xs,h=>by simp only[aQ.evs,bY h.left,IT h.right]
theorem ky:∀ {ps:List (Nat × Nat × aQ)} {cs:List PV},pM (Ul ps) F F'→qE cs F ps=qE cs F' ps
 | [],_,_=>rfl
 | (o,s,x)::ps,cs,h=>by
  simp only[qE];rw[bY (x:=x) h.left];split
  ·rw[ky (ps:=ps) h.right]
  ·rfl
theorem wX {s:Nat}:∀ {ps:List (Nat × aQ)} {rs:List (List PV)},pM (Uk ps) F F'→gX s rs F ps=gX s rs F' ps
 | [],_,_=>rfl
 | (i,x)::ps,rs,h=>by
  simp only[gX];rw[bY (x:=x) h.left];split
  ·rw[wX (ps:=ps) h.right]
  ·rfl
theorem AC {d:Int} {x:Option aQ} (h:pM (tX x) F F'):bnd F d x=bnd F' d x:=by
 cases x with
 | none=>rfl
 | some x=>simp only[bnd,bY (x:=x) h]
theorem aoI {op:POp} (h:pM op.cI F F'):aP op F H=aP op F' H:=by
 cases op
 case mv x=>simp only[aP,bY (x:=x) h]
 case same x=>simp only[aP,bY (x:=x) h]
 case pick c a b=>simp only[aP,bY (x:=c) h.left,bY (x:=a) h.right.left,bY (x:=b) h.right.right]
 case bin x y=>simp only[aP,bY (x:=x) h.left,bY (x:=y) h.right]
 case eqb x y=>simp only[aP,bY (x:=x) h.left,bY (x:=y) h.right]
 case eqs x y=>simp only[aP,bY (x:=x) h.left,bY (x:=y) h.right]
 case un x=>simp only[aP,bY (x:=x) h]
 case conv x=>simp only[aP,bY (x:=x) h]
 case box r x=>cases r<;>simp only[aP,bY (x:=x) h]
 case build ps=>simp only[aP,ky (ps:=ps) h]
 case aXI r _ _ _ ps=>cases r<;>simp only[aP,wX (ps:=ps) h]
 case load n p=>cases n<;>simp only[aP,bY (x:=p) h]
 case aXP x=>simp only[aP,bY (x:=x) h]
 case aYF x=>simp only[aP,bY (x:=x) h]
 case field x=>simp only[aP,bY (x:=x) h]
 case aXT x i=>simp only[aP,bY (x:=x) h.left,bY (x:=i) h.right]
 case idxA x i=>simp only[aP,bY (x:=x) h.left,bY (x:=i) h.right]
 case idxV x i=>simp only[aP,bY (x:=x) h.left,bY (x:=i) h.right]
 case aYD x i=>simp only[aP,bY (x:=x) h.left,bY (x:=i) h.right]
 case slice s x lo hi mx =>
  have e:x.ev F=x.ev F':=bY h.left;have l:∀ d,bnd F d lo=bnd F' d lo:=fun d=>AC h.right.left;have u:∀ d,bnd F d hi=bnd F' d hi:=fun d=>AC h.right.right.left;cases mx with
  | none=>simp only[aP,e,l,u]
  | some m =>have w:∀ d,bnd F d (some m)=bnd F' d (some m):=fun d=>AC (x:=some m) h.right.right.right;simp only[aP,e,l,u,w]
 case sliceA n size x lo hi mx =>have e:x.ev F=x.ev F':=bY h.left;cases lo<;>cases hi<;>cases mx<;>simp only[aP,e]
 case aXZ x lo hi =>have e:x.ev F=x.ev F':=bY h.left;have l:∀ d,bnd F d lo=bnd F' d lo:=fun d=>AC h.right.left;have u:∀ d,bnd F d hi=bnd F' d hi:=fun d=>AC h.right.right;simp only[aP,e,l,u]
 case len x=>simp only[aP,bY (x:=x) h]
 case aYC x=>simp only[aP,bY (x:=x) h]
 case aYM x=>simp only[aP,bY (x:=x) h]
 case lenM x=>simp only[aP,bY (x:=x) h]
 case isNil x=>simp only[aP,bY (x:=x) h]
 case extract x i=>simp only[aP,bY (x:=x) h]
 case aXX x y=>simp only[aP,bY (x:=x) h.left,bY (x:=y) h.right]
 case mkfn cs=>simp only[aP,IT (xs:=cs) h]
 case lookup sh z x k ok=>simp only[aP,bY (x:=x) h.left,bY (x:=k) h.right]
 case aXQ x=>simp only[aP,bY (x:=x) h]
 all_goals rfl
theorem akH {op:POp} (h:pM op.cI F F'):dD op F=dD op F':=by
 cases op
 case box r x=>cases r<;>simp only[dD,bY (x:=x) h]
 case aXI r _ _ _ ps=>cases r<;>simp only[dD,wX (ps:=ps) h]
 case aXK l c=>simp only[dD,bY (x:=l) h.left,bY (x:=c) h.right]
 all_goals rfl
theorem aqM {op:POp} {K:PV→PH→Prop} (h:pM op.cI F F'):cD op F H K=cD op F' H K:=by
 cases op
 case store n p x=>simp only[cD,bY (x:=p) h.left,bY (x:=x) h.right]
 case append s b x y=>simp only[cD,bY (x:=x) h.left,bY (x:=y) h.right]
 case aXU sh x k v=>simp only[cD,bY (x:=x) h.left,bY (x:=k) h.right.left,bY (x:=v) h.right.right]
 case insert sh x k v=>simp only[cD,bY (x:=x) h.left,bY (x:=k) h.right.left,bY (x:=v) h.right.right]
 all_goals rfl
theorem B9 {op:POp} (h:pM op.cI F F'):op.kind F=op.kind F':=by
 have c:(if op.gY then Kind.new (dD op F) else if op.eI then .write (fun H K=>cD op F H K) else .calm (aP op F)) =
   (if op.gY then Kind.new (dD op F') else if op.eI then .write (fun H K=>cD op F' H K) else .calm (aP op F')):=by
  rw[akH h];have d:(fun H K=>cD op F H K)=fun H K=>cD op F' H K:=by funext H K;exact aqM h
  have e:aP op F=aP op F':=by funext H;exact aoI h
  rw[d,e]
 cases op
 case call n az=>simp only[POp.kind,IT (xs:=az) h]
 case aYE x az=>simp only[POp.kind,bY (x:=x) h.left,IT (xs:=az) h.right]
 case insert sh x k v=>simp only[POp.kind,bY (x:=x) h.left,bY (x:=k) h.right.left,bY (x:=v) h.right.right]
 all_goals exact c
def aU.cI (i:aU):List Nat :=
 match i.guard with
 | none=>i.op.cI
 | some (t,_)=>t::i.op.cI
theorem l5 {i:aU} (h:pM i.cI F F'):i.kind F=i.kind F':=by
 unfold aU.kind;unfold aU.cI at h;cases c:i.guard with
 | none=>rw[c] at h; exact B9 h
 | some p =>obtain⟨t,d⟩:=p;rw[c] at h;simp only;rw[h t (by simp),B9 (fun u e=>h u (by simp[e]))]
theorem aBY (p:PV):∃ q:Nat,∀ (H H':PH) n,H q=H' q→loadCells H p n=loadCells H' p n:=by
 cases p
 case ptr o s i c=>exact⟨o,fun H H' n h=>by simp only[loadCells,h]⟩
 all_goals exact⟨0,fun H H' n h=>rfl⟩
theorem aFN (s:Nat) (p:PV):∃ q:Nat,∀ (H H':PH),H q=H' q→eF H s p=eF H' s p:=by
 cases p
 case osl o s' off len=>exact⟨o,fun H H' h=>by simp only[eF,h]⟩
 all_goals exact⟨0,fun H H' h=>rfl⟩
theorem auR (op:POp) (F:PF):∃ q:Nat,∀ (H H':PH),H q=H' q→aP op F H=aP op F H':=by
 cases op
 case load n p =>
  cases c:p.ev F with
  | none=>exact⟨0,fun H H' _=>by cases n<;>simp only[aP,c]⟩
  | some a =>obtain⟨q,d⟩:=aBY a;exact⟨q,fun H H' h=>by cases n<;>simp only[aP,c,d H H' _ h]⟩
 case lenM x =>
  cases c:x.ev F with
  | none=>exact⟨0,fun H H' _=>by simp only[aP,c]⟩
  | some a =>
   cases a
   case map o=>exact⟨o,fun H H' h=>by simp only[aP,c,h]⟩
   all_goals exact⟨0,fun H H' _=>by simp only[aP,c]⟩
 case lookup sh z x k ok =>
  cases c:x.ev F with
  | none=>exact⟨0,fun H H' _=>by simp only[aP,c]⟩
  | some a =>
   cases a
   case map o=>exact⟨o,fun H H' h=>by cases e:k.ev F<;>simp only[aP,c,e,h]⟩
   all_goals exact⟨0,fun H H' _=>by simp only[aP,c]⟩
 case aXQ x =>
  cases c:x.ev F with
  | none=>exact⟨0,fun H H' _=>by simp only[aP,c]⟩
  | some a =>obtain⟨q,d⟩:=aFN 1 a;exact⟨q,fun H H' h=>by simp only[aP,c,d H H' h]⟩
 case sliceA n s x lo hi mx=>cases lo<;>cases hi<;>cases mx<;>exact⟨0,fun H H' _=>rfl⟩
 case box r x=>cases r<;>exact⟨0,fun H H' _=>rfl⟩
 case aXI r _ _ _ _=>cases r<;>exact⟨0,fun H H' _=>rfl⟩
 all_goals exact⟨0,fun H H' _=>rfl⟩
theorem Ce {p:PV} {n:Nat} {cs:List PV} (d:H.le H') (h:loadCells H p n=some cs):loadCells H' p n=some cs:=by
 cases p
 case ptr o s i c =>
  simp only[loadCells] at h ⊢;cases e:H o with
  | none=>rw[e] at h; cases h
  | some x=>rw[d o x e]; rw[e] at h; exact h
 all_goals exact h
theorem awU {s:Nat} {p:PV} {rs:List (List PV)} (c:H.le H') (h:eF H s p=some rs):eF H' s p=some rs:=by
 cases p
 case osl o s' off len =>
  simp only[eF] at h ⊢;cases d:H o with
  | none=>rw[d] at h; simp at h
  | some x=>rw[c o x d]; rw[d] at h; exact h
 all_goals exact h
theorem ov {op:POp} {v:PV} (d:H.le H') (h:aP op F H=some v):aP op F H'=some v:=by
 cases op
 case load n p =>
  cases i:p.ev F with
  | none=>cases n<;>simp only[aP,i] at h<;>cases h
  | some a =>
   cases n with
   | none =>
    simp only[aP,i] at h ⊢;cases c:loadCells H a 1 with
    | none=>rw[c] at h; cases h
    | some cs=>rw[Ce d c]; rw[c] at h; exact h
   | some n =>
    simp only[aP,i] at h ⊢;cases c:loadCells H a n with
    | none=>rw[c] at h; cases h
    | some cs=>rw[Ce d c]; rw[c] at h; exact h
 case lenM x =>
  simp only[aP] at h ⊢;split at h
  ·rename_i o l;cases e:H o with
   | none=>rw[e] at h; cases h
   | some y=>rw[d o y e]; rw[e] at h; exact h
  ·cases h
 case lookup sh z x k ok =>
  simp only[aP] at h ⊢;split at h
  ·rename_i o A l w;cases e:H o with
   | none=>rw[e] at h; cases h
   | some y=>rw[d o y e]; rw[e] at h; exact h
  ·cases h
 case aXQ x =>
  simp only[aP] at h ⊢;split at h
  ·rename_i a u;cases c:eF H 1 a with
   | none=>rw[c] at h; cases h
   | some rs=>rw[awU d c]; rw[c] at h; exact h
  ·cases h
 case sliceA n s x lo hi mx=>cases lo<;>cases hi<;>cases mx<;>exact h
 case box r x=>cases r<;>exact h
 case aXI r _ _ _ _=>cases r<;>exact h
 all_goals exact h
end
theorem PH.Bl (H:PH) (l:List Nat):∃ o,H o=none∧o ∉ l:=by
 obtain⟨n,d⟩:=H.fin;refine⟨n+l.sum+1,d _ Om,fun h=>?_⟩;have:n+l.sum+1≤l.sum:=by
  have c:∀ (l:List Nat) (x:Nat),x∈l→x≤l.sum:=by
   intro l
   induction l with
   | nil=>intro x hx; cases hx
   | cons y ys e =>
    intro x hx;rcases aYY.1 hx with rfl | hx
    ·simp
    ·have:=e x hx; simp; omega
  exact c l _ h
 omega
theorem PH.set_comm (H:PH) {o q:Nat} (x y:cF) (h:o≠q):(H.set o x).set q y=(H.set q y).set o x:=by
 refine PH.ext fun p=>?_;simp only[cP];by_cases c:p=q<;>by_cases d:p=o<;>simp_all
theorem PH.SB {H:PH} {o:Nat} (x:cF) (h:H o=none):H.le (H.set o x):=by
 intro p y c;rw[cP];split
 ·rename_i e; subst e; rw[h] at c; cases c
 ·exact c
theorem PH.Ug {H:PH} {o q:Nat} {x:cF}:(H.set o x) q=none↔q≠o∧H q=none:=by
 rw[cP];split<;>simp_all
theorem PH.le_trans {A B D:PH} (h:A.le B) (k:B.le D):A.le D:=fun o x c=>k o x (h o x c)
theorem PH.le_none {A B:PH} (h:A.le B) {o:Nat} (d:B o=none):A o=none:=by
 cases c:A o with
 | none=>rfl
 | some x=>have:=h o x c; rw[d] at this; cases this
theorem PH.aOD {A B:PH} (h:A.le B) {o:Nat} {x:cF} (d:A o=none):A.le (B.set o x):=by
 intro p y c;rw[cP];split
 ·rename_i e; subst e; rw[d] at c; cases c
 ·exact h p y c
structure Jm (f:PH→Option PV):Prop where
 dep:∃ q:Nat,∀ (H H':PH),H q=H' q→f H=f H'
 mono:∀ (H H':PH) v,H.le H'→f H=some v→f H'=some v
structure aGX (w:PH→(PV→PH→Prop)→Prop):Prop where
 mono:∀ H (K K':PV→PH→Prop),(∀ v H',K v H'→K' v H')→w H K→w H K'
 some:∀ H (K:PV→PH→Prop),w H K→∃ v H',K v H'
inductive Kind.Ok:Kind→Prop
 | fail:Kind.Ok .fail
 | calm {f:PH→Option PV} (h:Jm f):Kind.Ok (.calm f)
 | new (r:Option ((Nat→PV) × cF)):Kind.Ok (.new r)
 | write {w:PH→(PV→PH→Prop)→Prop} (h:aGX w):Kind.Ok (.write w)
 | call (name:Nat) (args:Option (List PV)):Kind.Ok (.call name args)
 | ins (r:Option (Nat × MSh × List KS × PV)):Kind.Ok (.ins r)
section
variable {C:Ctx} {Hs:PH} {S:Spec} {H:PH}
theorem BN {op:POp} {F:PF} {K K':PV→PH→Prop} (h:∀ v H',K v H'→K' v H') (d:cD op F H K):cD op F H K':=by
 cases op
 case store n p x =>
  simp only[cD] at d ⊢;split at d
  ·obtain⟨l,H',i,E⟩:=d; exact⟨l,H',i,h _ _ E⟩
  ·exact d.elim
 case append s b x y =>
  simp only[cD] at d ⊢;split at d
  ·rename_i a c J M;obtain⟨src,l,i⟩:=d;refine⟨src,l,?_⟩;split at i
   ·exact⟨i.1,fun e=>h _ _ (i.2.1 e),fun e o u=>h _ _ (i.2.2 e o u)⟩
   ·obtain⟨g1,g2,g3,rs,g4,w,A,B⟩:=i;exact⟨g1,g2,g3,rs,g4,w,h _ _ A,fun o u=>h _ _ (B o u)⟩
   ·exact i.elim
  ·exact d.elim
 case aXU sh x k v =>
  simp only[cD] at d ⊢;split at d
  ·split at d
   ·exact⟨d.1,h _ _ d.2⟩
   ·exact d.elim
  ·exact d.elim
 case insert sh x k v =>
  simp only[cD] at d ⊢;split at d
  ·split at d
   ·exact⟨d.1,d.2.1,h _ _ d.2.2⟩
   ·exact d.elim
  ·exact d.elim
 all_goals exact d.elim
theorem W2 {op:POp} {F:PF} {K:PV→PH→Prop} (d:cD op F H K):∃ v H',K v H':=by
 cases op
 case store n p x =>
  simp only[cD] at d;split at d
  ·obtain⟨u,H',i,w⟩:=d; exact⟨_,_,w⟩
  ·exact d.elim
 case append s b x y =>
  simp only[cD] at d;split at d
  ·rename_i a c J M;obtain⟨src,u,i⟩:=d;split at i
   ·by_cases e:src=[]
    ·exact⟨_,_,i.2.1 e⟩
    ·obtain⟨o,A⟩:=H.fresh;exact⟨_,_,i.2.2 e o A⟩
   ·obtain⟨g1,g2,g3,rs,g4,B,l,E⟩:=i;exact⟨_,_,l⟩
   ·exact i.elim
  ·exact d.elim
 case aXU sh x k v =>
  simp only[cD] at d;split at d
  ·split at d
   ·exact⟨_,_,d.2⟩
   ·exact d.elim
  ·exact d.elim
 case insert sh x k v =>
  simp only[cD] at d;split at d
  ·split at d
   ·exact⟨_,_,d.2.2⟩
   ·exact d.elim
  ·exact d.elim
 all_goals exact d.elim
theorem Su (op:POp) (F:PF):(op.kind F).Ok:=by
 have c:(if op.gY then Kind.new (dD op F) else if op.eI then .write (fun H K=>cD op F H K) else .calm (aP op F)).Ok:=by
  split
  ·exact .new _
  ·split
   ·exact .write ⟨fun H K K' h d=>BN h d,fun H K d=>W2 d⟩
   ·exact .calm ⟨auR op F,fun H H' v h e=>ov h e⟩
 cases op
 case call n az=>exact .call _ _
 case aYE x az =>
  simp only[POp.kind];split
  ·exact .call _ _
  ·exact .fail
 case insert sh x k v=>exact .ins _
 all_goals exact c
theorem rW (i:aU) (F:PF):(i.kind F).Ok:=by
 unfold aU.kind;split
 ·exact Su _ _
 ·split
  ·split
   ·exact Su _ _
   ·exact .calm ⟨⟨0,fun _ _ _=>rfl⟩,fun _ _ _ _ h=>h⟩
  ·exact .calm ⟨⟨0,fun _ _ _=>rfl⟩,fun _ _ _ _ h=>h⟩
  ·exact .fail
theorem Kind.rZ {k:Kind} (B:k.Ok) {st:Bool} {K K':PV→PH→Prop} (h:∀ v H',Hs.le H'→K v H'→K' v H') (e:Hs.le H) (i:k.run C Hs S st K H):k.run C Hs S st K' H:=by
 cases B with
 | fail=>exact i
 | calm _=>obtain⟨v,c,d⟩:=i; exact⟨v,c,h _ _ e d⟩
 | new r=>obtain⟨F,x,c,d⟩:=i; exact⟨F,x,c,fun o A=>h _ _ (PH.le_trans e (PH.SB x A)) (d o A)⟩
 | write E=>exact E.mono _ _ _ (fun v H' w=>⟨w.1,h _ _ w.1 w.2⟩) i
 | call name args =>obtain⟨vs,D,R,c,d,p,l,h5,u⟩:=i;exact⟨vs,D,R,c,d,p,l,h5,fun r H' a b=>⟨(u r H' a b).1,h _ _ (u r H' a b).1 (u r H' a b).2⟩⟩
 | ins r =>obtain⟨o,sh,y,v,g,c,d,p,l,h5⟩:=i;exact⟨o,sh,y,v,g,c,d,p,l,h _ _ (PH.aOD e l) h5⟩
def Kind.cls:Kind→Nat
 | .fail | .calm _=>0
 | .new _=>1
 | .write _=>2
 | .call ..=>3
 | .ins _=>4
theorem MA {H:PH} {D:List Nat} {o:Nat} (x:cF) (h:o ∉ D):(H.set o x).only D=H.only D:=by
 refine PH.ext fun q=>?_;simp only[PH.only,cP];split
 ·rename_i c;rw[if_neg (by rintro rfl; exact h c)]
 ·rfl
theorem hZ (H c H':PH) (o:Nat):(H.over c H') o=(match H' o with | some x=>some x | none=>match c o with | some _=>some .dead | none=>H o):=rfl
theorem sJ (H:PH) (D:List Nat) (o:Nat):(H.only D) o=if o∈D then H o else none:=rfl
theorem Sy {H H':PH} {D:List Nat} {o:Nat} (x:cF) (d:o ∉ D) (c:H' o=none):(H.set o x).over (H.only D) H'=(H.over (H.only D) H').set o x:=by
 refine PH.ext fun q=>?_;rw[hZ,cP,cP,hZ];by_cases e:q=o
 ·subst e;simp only[c,sJ,if_neg d,if_true]
 ·simp only[if_neg e]
theorem D9 {H H':PH} {D:List Nat} {o:Nat} (h:(H.over (H.only D) H') o=none):H o=none∧H' o=none:=by
 rw[hZ] at h;cases c:H' o with
 | some x=>rw[c] at h; cases h
 | none =>
  rw[c] at h;simp only at h;cases d:(H.only D) o with
  | some x=>rw[d] at h; cases h
  | none=>rw[d] at h; exact⟨h,rfl⟩
theorem I0 {name:Nat} {args:Option (List PV)} {r:Option ((Nat→PV) × cF)} {K:PV→PV→PH→Prop} {U V:Bool}
  (h:(Kind.call name args).run C Hs S U (fun v H'=>(Kind.new r).run C Hs S V (fun u d=>K v u d) H') H) :
  (Kind.new r).run C Hs S V (fun u H'=>(Kind.call name args).run C Hs S U (fun v d=>K v u d) H') H:=by
 obtain⟨vs,D,R,Y,Z,F,h4,h5,J⟩:=h;obtain⟨r0,W,w,A⟩:=h5 H;obtain⟨-,mk,x,O,-⟩:=J r0 W w A;refine⟨mk,x,O,fun o N=>?_⟩;have c:o ∉ D:=fun hD=>by obtain⟨y,Q⟩:=F o hD; rw[N] at Q; cases Q
 refine⟨vs,D,R,Y,Z,fun q B=>?_,?_,?_,?_⟩
 ·rw[cP];split
  ·exact⟨_,rfl⟩
  ·exact F q B
 ·rw[MA x c]; exact h4
 ·rw[MA x c]; exact h5
 ·intro v H' M i;rw[MA x c] at M i ⊢;have E:H' o=none:=by
   cases e:H' o with
   | none=>rfl
   | some y =>have:=i o y e (by rw[sJ,if_neg c]);rw[cP,if_pos rfl] at this; cases this
  have l:mH H (H.only D) H':=fun q y B X=>by
   have:=i q y B X;rw[cP] at this;split at this
   ·cases this
   ·exact this
  obtain⟨g1,mk',x',g2,g3⟩:=J v H' M l;rw[O] at g2;cases g2;have p:(H.over (H.only D) H') o=none:=by rw[hZ,E,sJ,if_neg c]; exact N
  rw[Sy x c E];exact⟨PH.le_trans g1 (PH.SB x p),g3 o p⟩
theorem I2 {name:Nat} {args:Option (List PV)} {r:Option ((Nat→PV) × cF)} {K:PV→PV→PH→Prop} {Y Z:Bool} (N:Hs.le H)
  (h:(Kind.new r).run C Hs S Y (fun v H'=>(Kind.call name args).run C Hs S Z (fun u l=>K v u l) H') H) :
  (Kind.call name args).run C Hs S Z (fun u H'=>(Kind.new r).run C Hs S Y (fun v l=>K v u l) H') H:=by
 obtain⟨Q,x,hr,h⟩:=h;obtain⟨o0,O⟩:=H.fresh;obtain⟨vs,D,R,W,X,-⟩:=h o0 O;obtain⟨o,ho,A⟩:=H.Bl D;have all:∀ q,H q=none→q ∉ D→(∀ p∈D,∃ y,(H.set q x) p=some y)∧aH C name vs (H.only D) (R (H.only D))∧(∀ G:PH,∃ r H',R (H.only D) r H'∧mH G (H.only D) H') ∧
   ∀ r H',R (H.only D) r H'→mH (H.set q x) (H.only D) H'→Hs.le ((H.set q x).over (H.only D) H')∧K (Q q) r ((H.set q x).over (H.only D) H'):=by
  intro q c i;obtain⟨α,D',R',g1,g2,g3,g4,U,V⟩:=h q c;rw[W] at g1; cases g1;rw[X] at g2; cases g2;rw[MA x i] at g4 U V;exact⟨g3,g4,U,V⟩
 obtain⟨a3,a4,a5,-⟩:=all o ho A;have hD:∀ q∈D,∃ y,H q=some y:=fun q c=>by obtain⟨y,F⟩:=a3 q c;rw[cP,if_neg (by rintro rfl; exact A c)] at F;exact⟨y,F⟩
 have B:∀ q,H q=none→q ∉ D:=fun q c J=>by obtain⟨y,F⟩:=hD q J; rw[c] at F; cases F
 refine⟨vs,D,R,W,X,hD,a4,a5,fun u H' hR M=>?_⟩;have step:∀ q,(H.over (H.only D) H') q=none→Hs.le ((H.over (H.only D) H').set q x)∧K (Q q) u ((H.over (H.only D) H').set q x):=by
  intro q c;obtain⟨d,E⟩:=D9 c;have i:=B q d;obtain⟨-,-,-,a6⟩:=all q d i;have:=a6 u H' hR fun p y w h0=>by
   rw[cP];split
   ·rename_i e; subst e; rw[E] at w; cases w
   ·exact M p y w h0
  rw[Sy x i E] at this;exact this
 refine⟨?_,Q,x,hr,fun q c=>(step q c).2⟩;obtain⟨q,c⟩:=(H.over (H.only D) H').fresh;have d:=(step q c).1;intro p y w;have:=d p y w;rw[cP] at this;split at this
 ·rename_i e;subst e;have:=PH.le_none N (D9 c).1;rw[w] at this; cases this
 ·exact this
theorem Ur {r p:Option ((Nat→PV) × cF)} {K:PV→PV→PH→Prop} {w y:Bool}
  (h:(Kind.new r).run C Hs S w (fun v H'=>(Kind.new p).run C Hs S y (fun u c=>K v u c) H') H) :
  (Kind.new p).run C Hs S y (fun u H'=>(Kind.new r).run C Hs S w (fun v c=>K v u c) H') H:=by
 obtain⟨F,x,E,h⟩:=h;obtain⟨M,l⟩:=H.fresh;obtain⟨mk',A,d,-⟩:=h M l;refine⟨mk',A,d,fun q B=>⟨F,x,E,fun o i=>?_⟩⟩;rw[PH.Ug] at i;obtain⟨J,N,e,g⟩:=h o i.2;rw[d] at e;cases e;have:=g q (PH.Ug.2 ⟨Ne.symm i.1,B⟩)
 rwa [PH.set_comm H x A i.1] at this
theorem I1 {f:PH→Option PV} {k:Kind} {K:PV→PV→PH→Prop} {i y:Bool} (A:Jm f) (B:k.Ok) (e:k.cls=2∨k.cls=3∨k.cls=4→i=true) (d:Hs.le H)
  (h:(Kind.calm f).run C Hs S i (fun v H'=>k.run C Hs S y (fun u c=>K v u c) H') H) :
  k.run C Hs S y (fun u H'=>(Kind.calm f).run C Hs S i (fun v c=>K v u c) H') H:=by
 obtain⟨v,l,h⟩:=h;cases B with
 | fail=>exact h
 | @calm g N=>obtain⟨u,F,h⟩:=h; exact⟨u,F,v,l,h⟩
 | new r =>
  obtain⟨M,x,E,h⟩:=h;refine⟨M,x,E,fun o w=>⟨v,?_,h o w⟩⟩;cases i
  ·exact A.mono _ _ _ (PH.SB x w) l
  ·exact l
 | write J =>have:i=true:=e (.inl rfl);subst this;exact Kind.rZ (.write J) (fun u H' _ p=>⟨v,l,p⟩) d h
 | call name args =>have:i=true:=e (.inr (.inl rfl));subst this;exact Kind.rZ (.call name args) (fun u H' _ p=>⟨v,l,p⟩) d h
 | ins r =>have:i=true:=e (.inr (.inr rfl));subst this;exact Kind.rZ (.ins r) (fun u H' _ p=>⟨v,l,p⟩) d h
theorem Iz {f:PH→Option PV} {k:Kind} {K:PV→PV→PH→Prop} {si A:Bool} (Y:Jm f) (hk:k.Ok) (y:k.cls=2∨k.cls=3∨k.cls=4→A=true) (α:Hs.le H)
  (h:k.run C Hs S si (fun v H'=>(Kind.calm f).run C Hs S A (fun u l=>K v u l) H') H) :
  (Kind.calm f).run C Hs S A (fun u H'=>k.run C Hs S si (fun v l=>K v u l) H') H:=by
 cases hk with
 | fail=>exact h.elim
 | @calm g hg=>obtain⟨u,d,v,hv,h⟩:=h; exact⟨v,hv,u,d,h⟩
 | new r =>
  obtain⟨mk,x,hr,h⟩:=h;cases A with
  | true =>obtain⟨W,p⟩:=H.fresh;obtain⟨u,d,-⟩:=h W p;refine⟨u,d,mk,x,hr,fun o B=>?_⟩;obtain⟨u',c,i⟩:=h o B;simp only[if_true] at d c;rw[d] at c; cases c;exact i
  | false =>
   obtain⟨q,hq⟩:=Y.dep;obtain⟨W,p,U⟩:=H.Bl [q];obtain⟨u,d,-⟩:=h W p;simp only[a1S,if_false] at d;have c:f H=some u:=by rw[← d];exact hq _ _ (by rw[cP,if_neg (by simpa using Ne.symm (fun e=>U (by simp[e])))])
   refine⟨u,c,mk,x,hr,fun o B=>?_⟩;obtain⟨u2,hu2,i⟩:=h o B;simp only[a1S,if_false] at hu2;rw[Y.mono _ _ _ (PH.SB x B) c] at hu2;cases hu2;exact i
 | @write w hw =>have:A=true:=y (.inl rfl);subst this;obtain⟨_,_,_,u,d,_⟩:=hw.some _ _ h;refine⟨u,d,hw.mono _ _ _ (fun v H' Z=>⟨Z.1,?_⟩) h⟩;obtain⟨-,u',c,i⟩:=Z;simp only[if_true] at d c;rw[d] at c; cases c;exact i
 | call name args =>have:A=true:=y (.inr (.inl rfl));subst this;obtain⟨vs,D,R,E,F,J,M,h5,X⟩:=h;obtain⟨r0,H0,N,O⟩:=h5 H;obtain⟨-,u,d,-⟩:=X r0 H0 N O;refine⟨u,d,vs,D,R,E,F,J,M,h5,fun r H' hR Q=>?_⟩;obtain⟨g1,u',c,i⟩:=X r H' hR Q;simp only[if_true] at d c;rw[d] at c; cases c;exact⟨g1,i⟩
 | ins r =>have:A=true:=y (.inr (.inr rfl));subst this;obtain⟨o,sh,V,v,g,E,F,J,M,u,d,i⟩:=h;exact⟨u,d,o,sh,V,v,g,E,F,J,M,i⟩
theorem Uq {r J:Option (Nat × MSh × List KS × PV)} {K:PV→PV→PH→Prop} {M N:Bool}
  (h:(Kind.ins r).run C Hs S M (fun v H'=>(Kind.ins J).run C Hs S N (fun u i=>K v u i) H') H) :
  (Kind.ins J).run C Hs S N (fun u H'=>(Kind.ins r).run C Hs S M (fun v i=>K v u i) H') H:=by
 obtain⟨o,sh,d,v,g,A,B,E,p,o',y,c,v',O,k1,k2,w,Q,F⟩:=h;by_cases e:o'=o
 ·subst e;rw[cP,if_pos rfl] at k2;cases k2;have l:c≠d:=by rintro rfl;simp[jU.upd] at w
  have x:g c=none:=by simpa [jU.upd,l] using w
  refine⟨o',sh,c,v',g,k1,B,x,p,o',sh,d,v,g.upd c v',A,by rw[cP,if_pos rfl],by simp[jU.upd,Ne.symm l,E],p,?_⟩;have:((H.set o' (.map sh (g.upd c v'))).set o' (.map sh ((g.upd c v').upd d v)))=((H.set o' (.map sh (g.upd d v))).set o' (.map sh ((g.upd d v).upd c v'))):=by
   refine PH.ext fun q=>?_;simp only[cP];split
   ·congr 2;funext k;simp only[jU.upd];by_cases h5:k=d<;>by_cases R:k=c<;>simp_all
   ·rfl
  rw[this];exact F
 ·rw[cP,if_neg e] at k2;refine⟨o',y,c,v',O,k1,k2,w,Q,o,sh,d,v,g,A,by rw[cP,if_neg (Ne.symm e)]; exact B,E,p,?_⟩;rw[PH.set_comm H _ _ e];exact F
def tK (a b:Nat) (c d:Bool):Bool :=
 match a,b with
 | 0,0 | 0,1 | 1,0 | 1,1 | 1,3 | 3,1 | 4,4=>true
 | 0,_=>c
 | _,0=>d
 | _,_=>false
theorem apC {w y:Kind} {K:PV→PV→PH→Prop} {F J:Bool} (hi:w.Ok) (p:y.Ok) (c:tK w.cls y.cls F J=true) (l:Hs.le H)
  (h:w.run C Hs S F (fun v H'=>y.run C Hs S J (fun u e=>K v u e) H') H) :
  y.run C Hs S J (fun u H'=>w.run C Hs S F (fun v e=>K v u e) H') H:=by
 by_cases i:w.cls=0
 ·cases hi with
  | fail=>exact h.elim
  | calm E =>refine I1 E p (fun hc=>?_) l h;rcases hc with hc | hc | hc<;>(rw[hc] at c; simpa [tK,Kind.cls] using c)
  | new | write | call | ins=>simp[Kind.cls] at i
 ·by_cases d:y.cls=0
  ·cases p with
   | fail =>
    cases hi with
    | fail=>exact h
    | calm _=>simp[Kind.cls] at i
    | new r =>obtain⟨mk,x,-,h⟩:=h;obtain⟨o,Y⟩:=H.fresh;exact h o Y
    | write Z=>obtain⟨_,_,_,X⟩:=Z.some _ _ h; exact X
    | call name args =>obtain⟨vs,D,R,O,Q,U,V,h5,W⟩:=h;obtain⟨r0,N,A,B⟩:=h5 H;exact (W r0 N A B).2
    | ins r =>obtain⟨o,sh,α,v,g,O,Q,U,V,h5⟩:=h;exact h5
   | calm E =>refine Iz E hi (fun hc=>?_) l h;rcases hc with hc | hc | hc<;>(rw[hc] at c; simpa [tK,Kind.cls] using c)
   | new | write | call | ins=>simp[Kind.cls] at d
  ·cases hi with
   | fail | calm=>simp[Kind.cls] at i
   | new r =>
    cases p with
    | fail | calm=>simp[Kind.cls] at d
    | new M=>exact Ur h
    | write=>simp[Kind.cls,tK] at c
    | call=>exact I2 l h
    | ins=>simp[Kind.cls,tK] at c
   | write=>cases p<;>simp[Kind.cls,tK] at c d
   | call =>
    cases p with
    | fail | calm=>simp[Kind.cls] at d
    | new M=>exact I0 h
    | write=>simp[Kind.cls,tK] at c
    | call=>simp[Kind.cls,tK] at c
    | ins=>simp[Kind.cls,tK] at c
   | ins =>
    cases p with
    | fail | calm=>simp[Kind.cls] at d
    | new M=>simp[Kind.cls,tK] at c
    | write=>simp[Kind.cls,tK] at c
    | call=>simp[Kind.cls,tK] at c
    | ins=>exact Uq h
end
open Go Go.RowKit
def aU.apart (x y:aU):Bool :=
 (match x.dst with
  | some d=>!(y.cI).contains d&&y.dst != some d
  | none=>true) &&
 (match y.dst with
  | some d=>!(x.cI).contains d
  | none=>true)
theorem S6 {F:PF} {l:List Nat} {d:Option Nat} (v:PV) (h:∀ t,d=some t→t ∉ l):pM l (F.put d v) F:=by
 intro t c;cases d with
 | none=>rfl
 | some d =>
  have:t≠d:=by rintro rfl; exact h t rfl c
  simp only[PF.put,PF.set,upd,if_neg this]
theorem aDO {F:PF} {d e:Option Nat} (v u:PV) (h:∀ t,d=some t→e≠some t):(F.put d v).put e u=(F.put e u).put d v:=by
 cases d with
 | none=>rfl
 | some d =>
  cases e with
  | none=>rfl
  | some e =>
   have c:d≠e:=by rintro rfl; exact h d rfl rfl
   exact aFD F (some v) (some u) c
theorem apart_spec {x y:aU} (h:x.apart y=true):(∀ d,x.dst=some d→d ∉ y.cI)∧(∀ d,x.dst=some d→y.dst≠some d)∧(∀ d,y.dst=some d→d ∉ x.cI):=by
 refine⟨fun d c=>?_,fun d c=>?_,fun d c=>?_⟩<;>simp[aU.apart,c] at h
 ·exact h.1.1
 ·exact h.1.2
 ·exact h.2
def POp.cls:POp→Nat
 | .call .. | .aYE ..=>3
 | .insert ..=>4
 | op=>if op.gY then 1 else if op.eI then 2 else 0
def aCA (a b:Nat) (c d:Bool):Bool :=
 match a,b with
 | 0,0 | 0,1 | 1,0 | 1,1=>true
 | 4,4=>c&&d
 | 0,_=>c
 | _,0=>d
 | 1,3=>c
 | 3,1=>d
 | _,_=>false
def ln (x y:aU × Bool):Bool:=x.1.apart y.1&&aCA x.1.op.cls y.1.op.cls x.2 y.2
section
variable {C:Ctx} {Hs:PH} {S:Spec} {H:PH} {F:PF}
theorem D5 (op:POp) (F:PF):(op.kind F).cls=op.cls∨(op.kind F).cls=0:=by
 have c:(if op.gY then Kind.new (dD op F) else if op.eI then .write (fun H K=>cD op F H K) else .calm (aP op F)).cls=(if op.gY then 1 else if op.eI then 2 else 0):=by
  split
  ·rfl
  ·split<;>rfl
 cases op
 case call n az=>exact .inl rfl
 case aYE x az =>
  simp only[POp.kind];split
  ·exact .inl rfl
  ·exact .inr rfl
 case insert sh x k v=>exact .inl rfl
 all_goals exact .inl c
theorem B6 (i:aU) (F:PF):(i.kind F).cls=i.op.cls∨(i.kind F).cls=0:=by
 unfold aU.kind;split
 ·exact D5 _ _
 ·split
  ·split
   ·exact D5 _ _
   ·exact .inr rfl
  ·exact .inr rfl
  ·exact .inr rfl
theorem aOG {a b c d:Nat} {e i:Bool} (h:aCA a b e i=true) (l:c=a∨c=0) (p:d=b∨d=0):tK c d e i=true:=by
 unfold aCA at h;split at h
 all_goals (rcases l with rfl | rfl<;>rcases p with rfl | rfl<;>simp_all [tK])
theorem Kind.aED {k:Kind} (u:k.Ok) {st:Bool} {K:PV→PH→Prop} (c:k.run C Hs S st K H):∃ v H',K v H':=by
 cases u with
 | fail=>exact c.elim
 | calm _=>obtain⟨v,e,d⟩:=c; exact⟨v,_,d⟩
 | new r=>obtain⟨B,x,e,d⟩:=c; obtain⟨o,w⟩:=H.fresh; exact⟨_,_,d o w⟩
 | write y=>obtain⟨v,H',h⟩:=y.some _ _ c; exact⟨v,H',h.2⟩
 | call name args =>obtain⟨vs,D,R,e,d,i,l,h5,p⟩:=c;obtain⟨r,H',a,b⟩:=h5 H;exact⟨_,_,(p r H' a b).2⟩
 | ins r =>obtain⟨o,sh,A,v,g,e,d,i,l,h5⟩:=c;exact⟨_,_,h5⟩
def tO (C:Ctx) (Hs:PH) (S:Spec) (i:aU × Bool) (K:PF→PH→Prop) (F:PF) (H:PH):Prop:=(i.1.kind F).run C Hs S i.2 (fun v H'=>K (F.put i.1.dst v) H') H
theorem wO {i:aU × Bool} {K K':PF→PH→Prop} (h:∀ d H',Hs.le H'→K d H'→K' d H') (c:Hs.le H) (e:tO C Hs S i K F H):tO C Hs S i K' F H :=
 Kind.rZ (rW _ _) (fun v H' a b=>h _ _ a b) c e
theorem auN {i j:aU × Bool} {K:PF→PH→Prop} (l:ln i j=true) (e:Hs.le H) (h:tO C Hs S i (tO C Hs S j K) F H):tO C Hs S j (tO C Hs S i K) F H:=by
 simp only[ln,aZD] at l;obtain⟨x,y,A⟩:=apart_spec l.1;unfold tO at h ⊢;have p:∀ v,j.1.kind (F.put i.1.dst v)=j.1.kind F:=fun v=>l5 (S6 v x);have w:∀ v,i.1.kind (F.put j.1.dst v)=i.1.kind F:=fun v=>l5 (S6 v A);simp only[p] at h;simp only[w];have:=apC (K:=fun v u d=>K ((F.put i.1.dst v).put j.1.dst u) d) (rW i.1 F) (rW j.1 F) (aOG l.2 (B6 _ _) (B6 _ _)) e h;refine Kind.rZ (rW j.1 F) (fun u H' a b=>?_) e this;refine Kind.rZ (rW i.1 F) (fun v d _ c=>?_) a b;rw[aDO v u y] at c;exact c
inductive wE (ops:Array Oper):Nat→Nat→Prop
 | one {i j:Nat} {o:Oper} {e} (ho:ops[j]?=some o) (he:e∈o.after) (hb:Region.binds .any e=true) (hi:e.on=i):wE ops i j
 | step {i m j:Nat} {o:Oper} {e} (h:wE ops i m) (ho:ops[j]?=some o) (he:e∈o.after) (hb:Region.binds .any e=true) (hm:e.on=m):wE ops i j
def pK (ops:Array Oper) (listed:Array Bool):Prop:=∀ j o,ops[j]?=some o→listed.getD j false=true→∀ e∈o.after,Region.binds .any e=true→listed.getD e.on false=true
theorem pK.aFC {ops:Array Oper} {listed:Array Bool} (l:pK ops listed) {i j:Nat} (h:wE ops i j) (p:listed.getD j false=true):listed.getD i false=true:=by
 induction h with
 | one e d c hi=>subst hi; exact l _ _ e p _ d c
 | step h e d c u w=>subst u; exact w (l _ _ e p _ d c)
theorem pK.Df {ops:Array Oper} {listed:Array Bool} (x:pK ops listed) {i j:Nat} (h:wE ops i j) (hi:listed.getD i false=false):j ∉ Region.ready .any ops listed:=by
 intro u;rw[mem_ready] at u;obtain⟨-,o,w,d⟩:=u;cases h with
 | one c l e p =>rw[w] at c; cases c;subst p;rw[d _ l e] at hi; cases hi
 | step h c l e y =>rw[w] at c; cases c;subst y;rw[x.aFC h (d _ l e)] at hi; cases hi
theorem pK.set {ops:Array Oper} {listed:Array Bool} (y:pK ops listed) {i:Nat} (hi:i∈Region.ready .any ops listed):pK ops (listed.setIfInBounds i true):=by
 intro j o x w e u p;by_cases d:j=i
 ·subst d;rw[mem_ready] at hi;obtain⟨-,o',l,c⟩:=hi;rw[x] at l; cases l;exact getD_set_true (c e u p)
 ·rw[getD_set_ne false (Ne.symm d)] at w;exact getD_set_true (y j o x w e u p)
def zZ (C:Ctx) (Hs:PH) (S:Spec) (ops:Array Oper) (il:List (aU × Bool)) (K:PF→PH→Prop):Nat→Array Bool→PF→PH→Prop
 | 0,listed,F,H=>Region.ready .any ops listed=[]∧K F H
 | fuel+1,listed,F,H=>(Region.ready .any ops listed=[]→K F H) ∧
  ∀ i∈Region.ready .any ops listed,∀ p,il[i]?=some p→tO C Hs S p (zZ C Hs S ops il K fuel (listed.setIfInBounds i true)) F H
theorem akI {ops:Array Oper} {il:List (aU × Bool)} {K:PF→PH→Prop} {i:Nat} {p:aU × Bool} (W:il[i]?=some p) :
  ∀ (fuel:Nat) (listed:Array Bool) (F:PF) (H:PH),Hs.le H→pK ops listed →
   (∀ j q,il[j]?=some q→j≠i→listed.getD j true=false→¬ wE ops i j→ln p q=true) →
   i∈Region.ready .any ops listed→tO C Hs S p (zZ C Hs S ops il K fuel (listed.setIfInBounds i true)) F H→zZ C Hs S ops il K (fuel+1) listed F H:=by
 intro fuel
 induction fuel with
 | zero =>
  intro listed F H l O d x h;refine⟨fun e=>(by rw[e] at x; cases x),fun j y q w=>?_⟩;by_cases c:j=i
  ·subst c; rw[W] at w; cases w; exact h
  ·obtain⟨v,H',A⟩:=Kind.aED (rW _ _) h;have:=ready_mono y c;rw[A.1] at this; cases this
 | succ fuel ih =>
  intro listed F H l O d x h;refine⟨fun e=>(by rw[e] at x; cases x),fun j y q w=>?_⟩;by_cases c:j=i
  ·subst c; rw[W] at w; cases w; exact h
  ·have u:=(mem_ready.1 x).1;have E:=(mem_ready.1 y).1;have B:listed.getD i false=false:=by
    rcases aZL i listed.size with h' | h'
    ·simp[h'] at u ⊢; exact u
    ·simp[Array.getElem?_eq_none h'] at u
   have R:¬ wE ops i j:=fun Z=>O.Df Z B y;have X:tO C Hs S p (tO C Hs S q (zZ C Hs S ops il K fuel ((listed.setIfInBounds i true).setIfInBounds j true))) F H :=
    wO (fun V H' _ A=>A.2 j (ready_mono y c) q w) l h
   have Y:=auN (d j q w c E R) l X;refine wO (fun V H' M A=>?_) l Y;refine ih (listed.setIfInBounds j true) V H' M (O.set y) (fun k r hk Q N U=>d k r hk Q ?_ U) (ready_mono x (Ne.symm c)) ?_
   ·by_cases J:j=k
    ·subst J; exact E
    ·rw[getD_set_ne true J] at N; exact N
   ·rw[Array.setIfInBounds_comm _ _ c]; exact A
def sZ (o:Oper):List Nat:=(o.after.toList.filter fun e=>Region.binds .any e).map (·.on)
def Qe (ms:List Nat) (ds:List Nat):Nat:=ds.foldl (fun s d=>s ||| (2 ^ d ||| ms.getD d 0)) 0
def xT:List Oper→List Nat→List Nat
 | [],c=>c
 | o::os,c=>xT os (c++[Qe c (sZ o)])
def jS (ms:List Nat):Nat→List Oper→Bool
 | _,[]=>true
 | k,o::os=>(sZ o).all (·<k)&&ms.getD k 0==Qe ms (sZ o)&&jS ms (k+1) os
def CN (ms:List Nat) (i:Nat) (p:aU × Bool):Nat→List (aU × Bool)→Bool
 | _,[]=>true
 | j,q::c=>((ms.getD j 0).testBit i||ln p q)&&CN ms i p (j+1) c
def zN (ms:List Nat):Nat→List (aU × Bool)→Bool
 | _,[]=>true
 | i,p::ps=>CN ms i p (i+1) ps&&zN ms (i+1) ps
def arU (ops:Array Oper) (il:List (aU × Bool)):Bool :=
 let ms:=xT ops.toList []
 jS ms 0 ops.toList&&zN ms 0 il
theorem Qf {ms:List Nat} {i:Nat}:∀ {ds:List Nat} {s:Nat},(ds.foldl (fun s d=>s ||| (2 ^ d ||| ms.getD d 0)) s).testBit i=true→s.testBit i=true∨∃ d∈ds,d=i∨(ms.getD d 0).testBit i=true
 | [],s,h=>.inl h
 | d::ds,s,h=>by
  rw[List.foldl_cons] at h;rcases Qf h with h | ⟨e,he,h⟩
  ·rw[Nat.testBit_or,Nat.testBit_or,Nat.testBit_two_pow] at h;simp only[Bool.or_eq_true,decide_eq_true_eq] at h;rcases h with h | h | h
   ·exact .inl h
   ·exact .inr ⟨d,by simp,.inl h⟩
   ·exact .inr ⟨d,by simp,.inr h⟩
  ·exact .inr ⟨e,by simp[he],h⟩
theorem tJ {ms:List Nat}:∀ {l:List Oper} {k j:Nat} {o:Oper},jS ms k l=true→l[j]?=some o→(∀ d∈sZ o,d<k+j)∧ms.getD (k+j) 0=Qe ms (sZ o)
 | [],_,_,_,_,h=>by simp at h
 | o::os,k,j,o',h,c=>by
  simp only[jS,aZD,aZC,decide_eq_true_eq,beq_iff_eq] at h;cases j with
  | zero=>simp only[List.getElem?_cons_zero,a0Y.injEq] at c; subst c; exact⟨h.1.1,h.1.2⟩
  | succ j =>have:=tJ h.2 (by simpa using c);rw[a1D,Nat.add_comm 1 j] at this;exact this
theorem XO {ms:List Nat} {ops:Array Oper} (h:jS ms 0 ops.toList=true) (i:Nat):∀ (n j:Nat),j<n→j<ops.size→(ms.getD j 0).testBit i=true→wE ops i j:=by
 intro n
 induction n with
 | zero=>intro j y; omega
 | succ n B =>
  intro j y hlt hb;have A:ops.toList[j]?=some ops[j]:=by simp[hlt]
  have l:ops[j]?=some ops[j]:=by simp[hlt]
  obtain⟨p,u⟩:=tJ h A;rw[aZM] at p u;rw[u] at hb;rcases Qf hb with hb | ⟨d,hd,hb⟩
  ·simp at hb
  ·have x:=p d hd;simp only[sZ,aZQ,List.mem_filter] at hd;obtain⟨e,⟨w,c⟩,rfl⟩:=hd;rcases hb with rfl | hb
   ·exact .one l (by simpa using w) c rfl
   ·exact .step (B e.on Om Om hb) l (by simpa using w) c rfl
theorem TK {ms:List Nat} {i:Nat} {p:aU × Bool}:∀ {l:List (aU × Bool)} {k j:Nat} {q:aU × Bool},CN ms i p k l=true→l[j]?=some q→(ms.getD (k+j) 0).testBit i=true∨ln p q=true
 | [],_,_,_,_,h=>by simp at h
 | x::xs,k,j,q,h,c=>by
  simp only[CN,aZD,Bool.or_eq_true] at h;cases j with
  | zero=>simp only[List.getElem?_cons_zero,a0Y.injEq] at c; subst c; exact h.1
  | succ j =>have:=TK h.2 (by simpa using c);rw[a1D,Nat.add_comm 1 j] at this;exact this
theorem HL {ops:Array Oper} {il:List (aU × Bool)} {K:PF→PH→Prop} {ms:List Nat} (Q:il.length=ops.size) (E:jS ms 0 ops.toList=true) :
  ∀ (l:List (aU × Bool)) (k:Nat) (listed:Array Bool) (F:PF) (H:PH),(∀ j,l[j]?=il[k+j]?)→k+l.length=ops.size→listed.size=ops.size→(∀ j,j<ops.size→(listed.getD j true=true↔j<k))→zN ms k l=true→Hs.le H →
   wpD C Hs S l K F H→zZ C Hs S ops il K l.length listed F H
 | [],k,listed,F,H,W,V,U,c,_,B,h=>by
  refine⟨?_,h⟩;cases hr:Region.ready .any ops listed with
  | nil=>rfl
  | cons x xs =>
   have hx:x∈Region.ready .any ops listed:=by rw[hr]; simp
   obtain⟨h0,o,X,-⟩:=mem_ready.1 hx;have hlt:x<ops.size:=(a2A.1 X).1;have:=(c x hlt).2 (by simp at V; omega);rw[h0] at this; cases this
 | p::l,k,listed,F,H,W,V,U,c,hB,B,h=>by
  have hp:il[k]?=some p:=by simpa using (W 0).symm
  have N:k<ops.size:=by simp at V; omega
  simp only[zN,aZD] at hB;have X:ops[k]?=some ops[k]:=by simp[N]
  have y:∀ j,j<ops.size→(listed.getD j false=listed.getD j true):=fun j w=>by simp[show j<listed.size by omega]
  have δ:∀ j,j<ops.size→∀ e∈ops[j]!.after,True:=fun _ _ _ _=>trivial;have u:∀ j o,ops[j]?=some o→∀ e∈o.after,Region.binds .any e=true→e.on<j:=by
   intro j o w e J hb;have hlt:j<ops.size:=(a2A.1 w).1;have:=(tJ E (j:=j) (o:=o) (by simpa using w)).1 e.on (by simp only[sZ,aZQ,List.mem_filter];exact⟨e,⟨by simpa using J,hb⟩,rfl⟩)
   omega
  have i:k∈Region.ready .any ops listed:=by
   rw[mem_ready];refine⟨?_,_,X,fun e J hb=>?_⟩
   ·cases Y:listed.getD k true with
    | false=>rfl
    | true=>have:=(c k N).1 Y; omega
   ·have hd:=u k _ X e J hb;rw[y e.on Om];exact (c e.on Om).2 hd
  have d:pK ops listed:=by intro j o w R e J hb;have hlt:j<ops.size:=(a2A.1 w).1;have hd:=u j o w e J hb;rw[y j hlt] at R;have:=(c j hlt).1 R;rw[y e.on Om];exact (c e.on Om).2 Om
  refine akI hp l.length listed F H B d (fun j q hq α γ Z=>?_) i ?_
  ·have M:j<ops.size:=by have:=(aZU.1 hq).1;omega
   have A:k<j:=by
    rcases Nat.lt_trichotomy j k with h' | h' | h'
    ·have:=(c j M).2 h';rw[γ] at this; cases this
    ·exact (α h').elim
    ·exact h'
   have β:l[j-(k+1)]?=some q:=by have:=W (j-k);rw[show k+(j-k)=j by omega,hq,show j-k=(j-(k+1))+1 by omega] at this;simpa using this
   rcases TK hB.1 β with hb | hb
   ·rw[show k+1+(j-(k+1))=j by omega] at hb;exact (Z (XO E k (j+1) j Om M hb)).elim
   ·exact hb
  ·have h':tO C Hs S p (wpD C Hs S l K) F H:=h;refine wO (fun F' H' O Y=>?_) B h';refine HL Q E l (k+1) _ F' H' (fun j=>?_) (by simp at V; omega) (by simpa using U) (fun j w=>?_) hB.2 O Y
   ·have:=W (j+1);rw[show k+(j+1)=k+1+j by omega] at this;simpa using this
   ·by_cases A:k=j
    ·subst A;simp[show k<listed.size by omega]
    ·rw[getD_set_ne true A,c j w];omega
end
open Go Go.RowKit
def Mv (ms cls:List Nat) (i:Nat):Bool :=
 cls.getD i 0 != 0||(aYO cls.length).any fun j=>(cls.getD j 0==2||cls.getD j 0==3||cls.getD j 0==4)&&!(ms.getD j 0).testBit i&&!(ms.getD i 0).testBit j
def wR (ops:Array Oper) (c:List aU):List (aU × Bool) :=
 let ms:=xT ops.toList []
 let cls:=c.map fun i=>i.op.cls
 c.zip ((aYO c.length).map (Mv ms cls))
namespace Tbl
variable (T:Tbl)
def drawn (n:Nat) (ops:Array Oper):Option (List (aU × Bool)) :=
 match T.rC n ops ops.toList with
 | some c=>if T.P.follows .mixedOrders&&arU ops (wR ops c) then some (wR ops c) else none
 | none=>none
end Tbl
section
variable {ro:Option Nat} {fu:Nat} {ds:List Deferred} {C:Ctx} {Hs:PH} {S:Spec} {T:Tbl} {n:Nat}
section
variable {E:Env} {F:PF} {H:PH} {a:Act} {w:World}
theorem mI.after {c:Env} {H':PH} {d:World} {K:PF→PH→Prop} {next:Act→World→Prop} (h:mI ds n E H w K next) (p:Ext E H w c H' d):mI ds n c H' d K next :=
 fun e i H2 a2 y l hW x u=>h e i H2 a2 y l hW (p.trans x) u
theorem QD {t:Nat} {b:Bool} (d:dO ds n E F a) (h:F t=some (.bool b)):a.tmps[t]?=some (.bool b):=by
 have r:=d.t t _ h;rw[a2K] at r;cases c:a.tmps[t]? with
 | none=>rw[c] at r; simp[undef] at r; cases r
 | some v=>rw[c] at r; simp at r; cases r; rfl
theorem JR {ops:Array Oper} {o:Oper} {i:aU} (h:T.WH n ops o=some i):(T.op o=some i.op∨i.op=.stuck)∧o.dst=i.dst∧o.dst.all (·<n)=true ∧
  ((o.guard=none∧i.guard=none)∨∃ j c t,o.guard=some (j,c)∧i.guard=some (t,c)∧(ops[j]?).bind (·.dst)=some t):=by
 unfold Tbl.WH at h;have l:T.op o=some ((T.op o).getD .stuck)∨(T.op o).getD .stuck=.stuck:=by
  cases T.op o
  ·exact .inr rfl
  ·exact .inl rfl
 ·generalize (T.op o).getD .stuck=p at *
  split at h
  ·rename_i e;split at h
   ·rename_i d;cases h;exact⟨l,rfl,e,.inl ⟨d,rfl⟩⟩
   ·rename_i j c d;split at h
    ·rename_i t u;cases h;exact⟨l,rfl,e,.inr ⟨j,c,t,d,rfl,u⟩⟩
    ·cases h
  ·cases h
theorem FU {ops:Array Oper} {o:Oper} {j t:Nat} {c b:Bool} (e:o.guard=some (j,c)) (i:(ops[j]?).bind (·.dst)=some t) (d:a.tmps[t]?=some (.bool b)):Region.wanted o (yielded ops a.tmps)=(b==c):=by
 simp[Region.wanted,e,yielded,i,d]
end
theorem uX {E:Env}:bA E (.tup []) undef:=.tup #[] rfl (by simp)
theorem UM {n:Nat} {E:Env} {F:PF} {a:Act} {t:Nat} (c:dO ds n E F a) (h:F t=some (.tup [])):a.tmps.getD t undef=undef:=by
 have:=c.t t _ h;generalize a.tmps.getD t undef=v at this;cases this with
 | tup vs d e =>
  have:vs=#[]:=by simpa using d
  subst this; rfl
theorem BD {ops:Array Oper} {a:Act} {o:Oper} {j t:Nat} {c:Bool} (e:o.guard=some (j,c)) (i:(ops[j]?).bind (·.dst)=some t) (d:a.tmps.getD t undef=undef):Region.wanted o (yielded ops a.tmps)=false:=by
 simp only[Region.wanted,e,yielded,i];rw[a2K] at d;cases h:a.tmps[t]? with
 | none=>simp[h]
 | some v =>rw[h] at d;simp only[a1L] at d;subst d;simp[h,undef]
theorem sK {C:Ctx} {E:Env} {F:PF} {H:PH} {a:Act} {w:World} (e:C.P=T.P) (c:C.num=T.num) {o:Oper} {p:POp} {d:Option Nat} {K:PF→PH→Prop} {Q:Exit→Act→World→Prop} {next:Act→World→Prop} (i:T.op o=some p∨p=.stuck) (x:o.dst=d) (hlt:o.dst.all (·<n)=true)
  (h:wpOp C p d K F H) (l:dO ds n E F a) (hW:bQ E H w) (u:E.num=T.num) (aXY:mI ds n E H w K next):o.wpIn (Fz ro) fu T.P a w next Q:=by
 rcases i with i | rfl
 ·exact aDI e c i x hlt h l hW u aXY
 ·obtain⟨v,y,-⟩:=h;cases y
theorem WP (H:PH) (D:List Nat):(H.only D).le H:=by
 intro o x c;rw[sJ] at c;split at c
 ·exact c
 ·cases c
theorem MV {op:POp} {F:PF} {H:PH} {st:Bool} {d:Option Nat} {K:PF→PH→Prop} (u:Hs.le H) (h:(op.kind F).run C Hs S st (fun v H'=>K (F.put d v) H') H):wpOp C op d K F H:=by
 have p:(if op.gY then Kind.new (dD op F) else if op.eI then .write (fun H K=>cD op F H K) else .calm (aP op F)).run C Hs S st (fun v H'=>K (F.put d v) H') H →
   (if op.gY then nF (dD op F) d K F H else if op.eI then cD op F H (fun r H'=>K (F.put d r) H') else bZ (aP op F H) d K F H):=by
  intro h;by_cases e:op.gY=true
  ·rw[if_pos e] at h ⊢; exact h
  ·rw[if_neg e] at h ⊢;by_cases l:op.eI=true
   ·rw[if_pos l] at h ⊢;have Q:cD op F H fun r H'=>Hs.le H'∧K (F.put d r) H':=h;exact BN (fun v H' X=>X.2) Q
   ·rw[if_neg l] at h ⊢;obtain⟨v,A,W⟩:=h;refine⟨v,?_,W⟩;cases st
    ·exact A
    ·exact ov u A
 have c:∀ name i,(Kind.call name i).run C Hs S st (fun v H'=>K (F.put d v) H') H→sQ C name i d K F H:=by intro name i h;obtain⟨vs,D,R,e,l,y,U,h5,V⟩:=h;exact⟨vs,H.only D,R (H.only D),e,WP H D,U,fun r H' a b=>(V r H' a b).2⟩
 cases op
 case call name az=>exact .inl (by simpa using c _ _ h)
 case aYE x az =>
  simp only[POp.kind] at h;split at h
  ·rename_i name cs Y;show vL C (x.ev F) az d K F H;rw[Y];exact .inl (c _ _ h)
  ·exact h.elim
 case insert sh x k v =>
  obtain⟨o,α,Z,vv,g,e,l,y,-,h5⟩:=h;show cD (.insert sh x k v) F H (fun r H'=>K (F.put d r) H');split at e
  ·rename_i o' kv β J M N;simp only[aYX,Prod.mk.injEq] at e;obtain⟨B,O,rfl,rfl,rfl,rfl⟩:=e;simp only[cD,J,M,N,l,O];exact⟨trivial,y,h5⟩
  ·cases e
 all_goals exact p h
theorem ze (W:C.P=T.P) (V:C.num=T.num) {ops:Array Oper} {N:List aU} {R:List Bool} (ε:R.length=N.length) (δ:∀ (i:Nat) o,ops[i]?=some o→∃ p,N[i]?=some p∧T.WH n ops o=some p)
  {K:PF→PH→Prop} {Q:Exit→Act→World→Prop} :
  ∀ (fuel:Nat) (listed:Array Bool) (E:Env) (F:PF) (H:PH) (a:Act) (w:World),zZ C Hs S ops (N.zip R) K fuel listed F H→Hs.le H→dO ds n E F a→bQ E H w→E.num=T.num→mI ds n E H w K (Q .normal) →
   wpAnyIn (Fz ro) fu T.P .any ops Q fuel listed a w:=by
 intro fuel
 induction fuel with
 | zero=>intro listed E F H a w h B d hW Z hT; exact⟨h.1,hT E F H a w d hW (.refl E H w) h.2⟩
 | succ fuel ih =>
  intro listed E F H a w h B d hW Z hT;refine⟨fun e=>hT E F H a w d hW (.refl E H w) (h.1 e),fun i hi=>?_⟩;obtain⟨-,o,ho,-⟩:=mem_ready.1 hi;obtain⟨p,hp,γ⟩:=δ i o ho;have hlt:i<N.length:=(aZU.1 hp).1;have hz:(N.zip R)[i]?=some (p,R[i]'Om):=by rw[List.getElem?_zip_eq_some];exact⟨hp,by simp⟩
  have X:=h.2 i hi _ hz;obtain⟨Y,hd,u,hg⟩:=JR γ;have l:mI ds n E H w (fun O H'=>Hs.le H'∧zZ C Hs S ops (N.zip R) K fuel (listed.setIfInBounds i true) O H') (wpAnyIn (Fz ro) fu T.P .any ops Q fuel (listed.setIfInBounds i true)) :=
   fun E' O H' a' w' α β hE U=>ih _ E' O H' a' w' U.2 U.1 α β (hE.env.num.trans Z) (hT.after hE)
  have c:=wO (K':=fun O H'=>Hs.le H'∧zZ C Hs S ops (N.zip R) K fuel (listed.setIfInBounds i true) O H') (fun O H' x y=>⟨x,y⟩) B X;unfold tO aU.kind at c;unfold Go.wpOpIn;simp only[ho];rcases hg with ⟨A,M⟩ | ⟨j,want,t,A,M,ht⟩
  ·rw[if_pos (by simp[Region.wanted,A])];simp only[M] at c;exact (sK W V Y hd u (MV B c) d hW Z l)
  ·simp only[M] at c;split at c
   ·rename_i b hb;rw[FU A ht (QD d hb)];split at c
    ·rename_i J;rw[if_pos (by simp[J])];exact (sK W V Y hd u (MV B c) d hW Z l)
    ·rename_i J;rw[if_neg (by simpa using J)];obtain⟨v,hv,U⟩:=c;cases hv;exact⟨fun _ _=>trivial,l E _ H _ w (by rw[← hd]; exact d.put u uX) hW (.refl E H w) U⟩
   ·rename_i hb;rw[BD A ht (UM d hb),if_neg (by simp)];obtain⟨v,hv,U⟩:=c;cases hv;exact⟨fun _ _=>trivial,l E _ H _ w (by rw[← hd]; exact d.put u uX) hW (.refl E H w) U⟩
   ·exact c.elim
theorem RZ {ops:Array Oper}:∀ {l:List Oper} {d:List aU},T.rC n ops l=some d→d.length=l.length∧∀ (i:Nat) o,l[i]?=some o→∃ p,d[i]?=some p∧T.WH n ops o=some p
 | [],d,h=>by simp[Tbl.rC] at h; subst h;exact⟨rfl,fun i o h=>by simp at h⟩
 | o::l,d,h=>by
  simp only[Tbl.rC] at h;split at h
  ·rename_i p ps y e;cases h;obtain⟨u,x⟩:=RZ e;refine⟨by simp[u],fun i o' c=>?_⟩;cases i with
   | zero=>simp at c; subst c; exact⟨p,rfl,y⟩
   | succ i=>obtain⟨q,a,b⟩:=x i o' (by simpa using c); exact⟨q,by simpa using a,b⟩
  ·cases h
theorem alJ (y:C.P=T.P) (x:C.num=T.num) {id:Nat} {ops:Array Oper} {il:List (aU × Bool)} (c:T.drawn n ops=some il) {K:PF→PH→Prop} {Q:Exit→Act→World→Prop} {E:Env} {F:PF} {H:PH} {a:Act} {w:World}
  (h:∃ Hs S,PH.le Hs H∧wpD C Hs S il K F H) (W:dO ds n E F a) (hW:bQ E H w) (X:E.num=T.num) (Y:mI ds n E H w K (Q .normal)):(Code.region id ops true).wpIn (Fz ro) fu T.P Q a w:=by
 obtain⟨Hs,S,p,h⟩:=h;unfold Tbl.drawn at c;split at c
 ·rename_i N B;split at c
  ·rename_i d;cases c;simp only[aZD,arU] at d;obtain⟨hm,J,M⟩:=d;obtain⟨u,A⟩:=RZ B;have e:N.length=ops.size:=by simpa using u
   refine wpIn_region_any hm ?_;have l:(wR ops N).length=ops.size:=by simp[wR,e]
   have O:=HL (C:=C) (Hs:=Hs) (S:=S) (K:=K) l J (wR ops N) 0 (a0N ops.size false) F H (by simp) (by simp[l]) (by simp) (fun j Z=>by simp[Z]) M p h;rw[l] at O;exact ze y x (by simp) (fun i o ho=>A i o (by simpa using ho)) ops.size _ E F H a _ O p W hW.drew X (fun R U H' V w' g1 g2 g3 g4=>Y R U H' V w' g1 g2 g3.xx g4)
  ·cases c
 ·cases c
end
end Go.PM
namespace Go.PM
open Go Go.RowKit
def POp.aOB:POp→Bool
 | .load .. | .lookup .. | .aXQ ..=>true
 | _=>false
def POp.aJM:POp→Bool
 | .store ..=>true
 | _=>false
def rx (ms:List Nat) (m n:Nat):Bool:=(aYO n).all fun j=>decide (j<m)||(aYO m).all fun i=>(ms.getD j 0).testBit i
def cutAt (ms:List Nat) (c:List aU):Option Nat :=
 let cls:=c.map fun i=>i.op.cls
 (aYO c.length).find? fun m=>(match c[m]? with | some i=>i.op.aJM&&i.guard.isNone | none=>false)&&rx ms m c.length&&(aYO m).any fun i=>match c[i]? with | some x=>x.op.aOB&&Mv ms cls i | none=>false
def lN (ms:List Nat) (k:Nat) (c:List aU):List (aU × Bool) :=
 let cls:=c.map fun i=>i.op.cls
 c.zip ((aYO c.length).map (Mv (ms.drop k |>.map (· >>> k)) cls))
namespace Tbl
variable (T:Tbl)
def L3 (n:Nat) (ops:Array Oper):Option aC :=
 match T.rC n ops ops.toList with
 | some c =>
  let ms:=xT ops.toList []
  match cutAt ms c with
  | none=>(T.drawn n ops).map .draw
  | some m =>
   let A:=lN ms 0 (c.take m)
   let B:=lN ms m (c.drop m)
   if T.P.follows .mixedOrders&&jS ms 0 ops.toList&&rx ms m c.length&&zN ms 0 A&&zN ms m B then some (.seq (.draw A) (.draw B)) else none
 | none=>none
def code (n:Nat):Code→Option aC
 | .skip=>some .skip
 | .region _ ops d=>if d then T.L3 n ops else (T.rC n ops ops.toList).map .region
 | .seq a b=>match code n a,code n b with
  | some a,some b=>some (.seq a b)
  | _,_=>none
 | .cond c a b=>match T.opd c,code n a,code n b with
  | some c,some a,some b=>some (.cond c a b)
  | _,_,_=>none
 | .block id c=>(code n c).map (.block id)
 | .loop c=>(code n c).map .loop
 | .exit id=>some (.exit id)
 | .ret=>some .ret
 | .scope c=>code n c
 | .label _=>some .skip
 | _=>none
end Tbl
theorem SE {ms:List Nat}:∀ {l:List Oper} {k m:Nat},jS ms k l=true→jS ms k (l.take m)=true
 | [],_,_,_=>by simp[jS]
 | o::l,k,0,_=>by simp[jS]
 | o::l,k,m+1,h=>by simp only[jS,aZD,List.take_succ_cons] at h ⊢;exact⟨h.1,SE h.2⟩
theorem vS {listed:Array Bool} {m f i:Nat} {d:Bool} (c:listed.size=m) (h:i<m):(listed++a0N f false).getD i d=listed.getD i d:=by
 simp only[a2K];rw[Array.getElem?_append_left Om]
section
variable {ro:Option Nat} {fu:Nat} {ds:List Deferred} {C:Ctx} {Hs:PH} {S:Spec} {T:Tbl} {n:Nat}
theorem aKW {ops:Array Oper} {m i:Nat} (c:m≤ops.size):(ops.extract 0 m)[i]?=if i<m then ops[i]? else none:=by
 rw[Array.getElem?_extract];split
 ·rename_i h; rw[if_pos Om]; simp
 ·rename_i h; rw[if_neg Om]
theorem aoN {ops:Array Oper} {ms:List Nat} {m:Nat} (M:m≤ops.size) (w:jS ms 0 ops.toList=true) (N:rx ms m ops.size=true) {listed:Array Bool} {f:Nat} (B:listed.size=m) (Q:m+f=ops.size) (K:pK ops (listed++a0N f false))
  (E:∃ i,i<m∧listed.getD i true=false) {i:Nat} (hi:i∈Region.ready .any ops (listed++a0N f false)):i<m∧i∈Region.ready .any (ops.extract 0 m) listed:=by
 obtain⟨F,o,A,d⟩:=mem_ready.1 hi;have p:i<ops.size:=(a2A.1 A).1;have c:i<m:=by
  rcases aZL i m with h | h
  ·exact h
  ·exfalso;obtain⟨u,J,x⟩:=E;have y:(ms.getD i 0).testBit u=true:=by have:=aZC.1 N i (aZR.2 p);rw[decide_eq_false Om,Bool.false_or] at this;exact aZC.1 this u (aZR.2 J)
   have l:=XO w u (i+1) i Om p y;refine K.Df l ?_ hi;rw[vS B J];have:u<listed.size:=Om;simp[this] at x ⊢;exact x
 refine⟨c,mem_ready.2 ⟨?_,o,by rw[aKW M,if_pos c]; exact A,fun e H y=>?_⟩⟩
 ·rw[vS B c] at F; exact F
 ·have O:=(tJ w (j:=i) (o:=o) (by simpa using A)).1 e.on (by simp only[sZ,aZQ,List.mem_filter];exact⟨e,⟨by simpa using H,y⟩,rfl⟩);have:=d e H y;rw[vS B Om] at this;exact this
theorem Yi {ops:Array Oper} {ms:List Nat} (d:jS ms 0 ops.toList=true) {listed:Array Bool} (H:listed.size=ops.size):∀ (u:Nat),u<ops.size→listed.getD u true=false→∃ i,i∈Region.ready .any ops listed:=by
 intro u
 induction u using Nat.strongRecOn with
 | ind u E =>
  intro p A;by_cases h:∃ w,w<u∧listed.getD w true=false
  ·obtain⟨w,B,l⟩:=h;exact E w B Om l
  ·refine⟨u,mem_ready.2 ⟨A,ops[u],by simp[p],fun e y x=>?_⟩⟩;have F:=(tJ d (j:=u) (o:=ops[u]) (by simp[p])).1 e.on (by simp only[sZ,aZQ,List.mem_filter];exact⟨e,⟨by simpa using y,x⟩,rfl⟩)
   have hlt:e.on<u:=Om;cases c:listed.getD e.on true with
   | false=>exact (h ⟨e.on,hlt,c⟩).elim
   | true =>have:e.on<listed.size:=Om;simp[this] at c ⊢;exact c
def unl (listed:Array Bool):Nat:=listed.toList.countP fun b=>!b
theorem aFB {listed:Array Bool} {m:Nat} (d:listed.size=m) (h:unl listed=0):listed=a0N m true:=by
 apply Array.ext
 ·simp[d]
 ·intro i e l;have:listed[i]∈listed.toList:=by simp
  have c:=List.countP_eq_zero.1 h _ this;simpa using c
theorem aMC {listed:Array Bool} {i:Nat} (h:listed.getD i true=false):unl (listed.setIfInBounds i true)+1=unl listed:=by
 have hi:i<listed.size:=by
  rcases aZL i listed.size with h' | h'
  ·exact h'
  ·simp[Array.getElem?_eq_none h'] at h
 have e:listed[i]=false:=by simpa [hi] using h
 unfold unl;rw[Array.toList_setIfInBounds];have c:i<listed.toList.length:=by simpa using hi
 have d:listed.toList[i]=false:=by simpa using e
 conv=>rhs; rw[← a1N i listed.toList,a0O c,d]
 rw[List.set_eq_take_append_cons_drop,if_pos c,List.countP_append,List.countP_append,List.countP_cons,List.countP_cons];simp only[aYT,aZF,if_true,a1S,if_false];omega
theorem aMB {listed:Array Bool} {k:Nat} (h:unl listed=k+1):∃ u,u<listed.size∧listed.getD u true=false:=by
 have d:0<listed.toList.countP fun b=>!b:=by unfold unl at h; omega
 obtain⟨b,e,i⟩:=List.countP_pos_iff.1 d;obtain⟨u,l,rfl⟩:=a0C e;have c:u<listed.size:=by simpa using l
 exact⟨u,c,by simpa [c] using i⟩
theorem Yb (W:C.P=T.P) (V:C.num=T.num) {ops:Array Oper} {ms:List Nat} {m f:Nat} {A:List (aU × Bool)} (hm:m≤ops.size) (hf:m+f=ops.size) (Z:jS ms 0 ops.toList=true) (ht:rx ms m ops.size=true)
  (θ:∀ (i:Nat) o,i<m→ops[i]?=some o→∃ p b,A[i]?=some (p,b)∧T.WH n ops o=some p) {KA:PF→PH→Prop} {Q:Exit→Act→World→Prop} :
  ∀ (fuel:Nat) (listed:Array Bool) (E:Env) (F:PF) (H:PH) (a:Act) (w:World),zZ C Hs S (ops.extract 0 m) A KA fuel listed F H→listed.size=m→pK ops (listed++a0N f false)→unl listed=fuel→Hs.le H→dO ds n E F a→bQ E H w→E.num=T.num →
   mI ds n E H w KA (wpAnyIn (Fz ro) fu T.P .any ops Q f (a0N m true++a0N f false))→wpAnyIn (Fz ro) fu T.P .any ops Q (fuel+f) (listed++a0N f false) a w:=by
 intro fuel
 induction fuel with
 | zero =>intro listed E F H a w h hs hc hu J K hW hN hT;rw[aFB hs hu,aZM];exact hT E F H a w K hW (.refl E H w) h.2
 | succ fuel ih =>
  intro listed E F H a w h hs hc hu J K hW hN hT;obtain⟨u,μ,hu2⟩:=aMB hu;have κ:∃ i,i<m∧listed.getD i true=false:=⟨u,by omega,hu2⟩;rw[show fuel+1+f=(fuel+f)+1 by omega];refine⟨fun e=>?_,fun i hi=>?_⟩
  ·obtain⟨i,hi⟩:=Yi Z (listed:=listed++a0N f false) (by simp; omega) u Om (by rw[vS hs Om]; exact hu2);rw[e] at hi; cases hi
  obtain⟨ζ,Y⟩:=aoN hm Z ht hs hf hc κ hi;obtain⟨-,o,ho,-⟩:=mem_ready.1 hi;have ι:=(mem_ready.1 Y).1;obtain⟨p,b,hz,η⟩:=θ i o ζ ho;have α:=h.2 i Y _ hz;obtain⟨β,hd,l,hg⟩:=JR η;have γ:(listed++a0N f false).setIfInBounds i true=listed.setIfInBounds i true++a0N f false:=by
   apply Array.ext
   ·simp
   ·intro j h1 h2;rw[Array.getElem_setIfInBounds (by simpa using h1)];by_cases O:i=j
    ·subst O;rw[if_pos rfl,Array.getElem_append_left (by simp; omega),Array.getElem_setIfInBounds Om,if_pos rfl]
    ·rw[if_neg O];rcases aZL j listed.size with hj | hj
     ·rw[Array.getElem_append_left hj,Array.getElem_append_left (by simpa using hj),Array.getElem_setIfInBounds Om,if_neg O]
     ·rw[Array.getElem_append_right hj,Array.getElem_append_right (by simpa using hj)];simp
  have X:=hc.set hi;rw[γ] at X ⊢;have ν:=aMC ι;have d:mI ds n E H w (fun R H'=>Hs.le H'∧zZ C Hs S (ops.extract 0 m) A KA fuel (listed.setIfInBounds i true) R H') (wpAnyIn (Fz ro) fu T.P .any ops Q (fuel+f) (listed.setIfInBounds i true++a0N f false)) :=
   fun E' R H' a' w' δ ε hE U=>ih _ E' R H' a' w' U.2 (by simpa using hs) X Om U.1 δ ε (hE.env.num.trans hN) (hT.after hE)
  have c:=wO (K':=fun R H'=>Hs.le H'∧zZ C Hs S (ops.extract 0 m) A KA fuel (listed.setIfInBounds i true) R H') (fun R H' x y=>⟨x,y⟩) J α;unfold tO aU.kind at c;unfold Go.wpOpIn;simp only[ho];rcases hg with ⟨B,N⟩ | ⟨j,want,t,B,N,ht⟩
  ·rw[if_pos (by simp[Region.wanted,B])];simp only[N] at c;exact (sK W V β hd l (MV J c) K hW hN d)
  ·simp only[N] at c;split at c
   ·rename_i b hb;rw[FU B ht (QD K hb)];split at c
    ·rename_i M;rw[if_pos (by simp[M])];exact (sK W V β hd l (MV J c) K hW hN d)
    ·rename_i M;rw[if_neg (by simpa using M)];obtain⟨v,hv,U⟩:=c;cases hv;exact⟨fun _ _=>trivial,d E _ H _ w (by rw[← hd]; exact K.put l uX) hW (.refl E H w) U⟩
   ·rename_i hb;rw[BD B ht (UM K hb),if_neg (by simp)];obtain⟨v,hv,U⟩:=c;cases hv;exact⟨fun _ _=>trivial,d E _ H _ w (by rw[← hd]; exact K.put l uX) hW (.refl E H w) U⟩
   ·exact c.elim
theorem Xw (y:C.P=T.P) (x:C.num=T.num) {id:Nat} {ops:Array Oper} {pc:aC} (c:T.L3 n ops=some pc) {K:bT} {Q:Exit→Act→World→Prop} {E:Env} {F:PF} {H:PH} {a:Act} {w:World}
  (h:pc.wp C K F H) (hA:dO ds n E F a) (hW:bQ E H w) (hN:E.num=T.num) (hT:mI ds n E H w (K .normal) (Q .normal)):(Code.region id ops true).wpIn (Fz ro) fu T.P Q a w:=by
 unfold Tbl.L3 at c;split at c
 ·rename_i u κ;simp only at c;split at c
  ·rw[aYX] at c;obtain⟨il,θ,rfl⟩:=c;exact alJ y x θ h hA hW hN hT
  ·rename_i m W;split at c
   ·rename_i d;cases c;simp only[aZD] at d;obtain⟨⟨⟨⟨ν,M⟩,β⟩,ξ⟩,ο⟩:=d;obtain⟨Z,V⟩:=RZ κ;have J:u.length=ops.size:=by simpa using Z
    rw[J] at β;obtain⟨Hs,S,Y,h⟩:=h;have σ:m<ops.size:=by have:=List.mem_of_find?_eq_some W;rw[aZR] at this; omega
    have lA:(lN (xT ops.toList []) 0 (u.take m)).length=m:=by simp[lN]; omega
    have lB:(lN (xT ops.toList []) m (u.drop m)).length=ops.size-m:=by simp[lN]; omega
    generalize R:lN (xT ops.toList []) 0 (u.take m)=A at *
    generalize ε:lN (xT ops.toList []) m (u.drop m)=B at *
    generalize φ:xT ops.toList []=ms at *
    refine wpIn_region_any ν ?_;have N:(ops.extract 0 m).size=m:=by simp; omega
    have α:jS ms 0 (ops.extract 0 m).toList=true:=by rw[show (ops.extract 0 m).toList=ops.toList.take m by simp];exact SE M
    have h1:=HL (C:=C) (Hs:=Hs) (S:=S) (K:=gS C ((aC.draw B).wp C) K .normal) (ops:=ops.extract 0 m) (il:=A) (ms:=ms) (by rw[lA,N]) α A 0 (a0N m false) F H (by simp) (by rw[N]; omega) (by simp; omega) (fun j hj=>by rw[N] at hj; simp[hj]) ξ Y h;rw[lA] at h1;have O:=Yb (ro:=ro) (fu:=fu) (n:=n) y x (f:=ops.size-m) Om Om M β (fun i o τ ho=>?_) (Q:=Q) m (a0N m false) E F H a _ h1 (by simp) ?_ ?_ Y hA hW.drew hN ?_
    ·rw[show m+(ops.size-m)=ops.size by omega] at O;have e:a0N m false++a0N (ops.size-m) false=a0N ops.size false:=by rw[Array.replicate_append_replicate,show m+(ops.size-m)=ops.size by omega]
     rw[e] at O;exact O
    ·obtain⟨p,hp,ι⟩:=V i o (by simpa using ho);have χ:=(aZU.1 hp).1;have η:i<A.length:=Om;refine⟨p,A[i].2,?_,ι⟩;rw[aZA η];congr 1;refine Prod.ext ?_ rfl;subst R;have ρ:u[i]=p:=(aZU.1 hp).2;simp[lN,ρ]
    ·intro j o hj hl;exfalso;have μ:j<ops.size:=(a2A.1 hj).1;have e:a0N m false++a0N (ops.size-m) false=a0N ops.size false:=by rw[Array.replicate_append_replicate,show m+(ops.size-m)=ops.size by omega]
     rw[e] at hl;simp[μ] at hl
    ·unfold unl;simp[List.countP_replicate]
    ·intro E' F' H' a' w' δ ζ hE hK;obtain⟨γ,S2,l,h2⟩:=hK;have hz:(A++B).length=ops.size:=by rw[aYU]; omega
     have h3:=HL (C:=C) (Hs:=γ) (S:=S2) (K:=K .normal) (ops:=ops) (il:=A++B) (ms:=ms) hz M B m (a0N m true++a0N (ops.size-m) false) F' H' (fun j=>by rw[a1I Om]; congr 1; omega) Om (by simp; omega) (fun j hj=>by
      simp only[a2K,Array.getElem?_append,Array.size_replicate,Array.getElem?_replicate];by_cases hjm:j<m
      ·simp[hjm]
      ·simp[hjm,show j-m<ops.size-m by omega]) ο l h2
     rw[lB] at h3;have U:A++B=u.zip ((A++B).map (·.2)):=by
      refine List.ext_getElem? fun j=>?_;rcases aZL j ops.size with hj | hj
      ·have X:j<(A++B).length:=Om;have υ:j<u.length:=Om;rw[aZA X,aZA (by simp; omega),List.getElem_zip,a0K];congr 1;refine Prod.ext ?_ rfl;simp only;rcases aZL j m with hjm | hjm
       ·rw[List.getElem_append_left Om];subst R;simp[lN]
       ·rw[a2P Om];subst ε;have:m+(j-A.length)=j:=Om;simp[lN,this]
      ·rw[a0H Om,a0H (by simp; omega)]
     rw[U] at h3;exact ze y x (by simp; omega) (fun i o ho=>V i o (by simpa using ho)) (ops.size-m) _ E' F' H' a' w' h3 l δ ζ (hE.env.num.trans hN) (fun E3 F3 H3 a3 w3 g1 g2 g3 g4=>hT E3 F3 H3 a3 w3 g1 g2 (hE.trans g3).xx g4)
   ·cases c
 ·cases c
end
end Go.PM
namespace Go.PM
open Go Go.RowKit
def kW.out:kW→Exit
 | .normal=>.normal
 | .exit id=>.exit id
 | .ret=>.ret
theorem oY {P:Program} {b:Frame} {a:Act} {k:List Item} {cs:List Frame} {w:World} {c:Code}:step P (lone (b.atR a (.code (.scope c)::k)) cs w)=.next (lone (b.atR a (.code c::.inScope c::k)) cs w) :=
 step_lone_go (by simp[stepG,stepG.exec,Frame.atR])
theorem Iy {P:Program} {b:Frame} {a:Act} {k:List Item} {cs:List Frame} {w:World} {c:Code}:step P (lone (b.atR a (.inScope c::k)) cs w)=.next (lone (b.atR a k) cs w) :=
 step_lone_go (by simp[stepG,stepG.exec,Frame.atR])
theorem aqL {F:Fence} {n:Nat} {P:Program} {Q:Exit→Act→World→Prop} {a:Act} {w:World} {c:Code} (h:c.wpIn F n P (Exit.noGoto Q) a w):(Code.scope c).wpIn F n P Q a w:=by
 intro b k cs K y B;have i:(lone (b.atR a (.code (.scope c)::k)) cs w).fenced P F:=fenced_calm y B rfl;obtain⟨e,u,x,p,d⟩:=h b (.inScope c::k) cs K y B;cases e with
 | normal=>exact⟨.normal,u,x,p,.head i oY (StepsIn.trans d (.one (fenced_calm y B rfl) Iy))⟩
 | exit id =>
  have M:exitTo id (.inScope c::k)=exitTo id k:=by simp[exitTo]
  exact⟨.exit id,u,x,p,fun R A=>.head i oY (d.1 R (by rw[M]; exact A)),
   fun J A=>let ⟨S,N,O⟩:=d.2 J (by rw[M]; exact A); ⟨S,N,.head i oY O⟩⟩
 | goto l=>exact p.elim
 | ret=>exact⟨_,u,x,p,.of_steps (.one i oY) d⟩
 | panic U=>exact⟨_,u,x,p,.of_steps (.one i oY) d⟩
 | outgrown=>exact⟨_,u,x,p,.of_steps (.one i oY) d⟩
section
variable {ro:Option Nat} {fu:Nat} {ds:List Deferred} {T:Tbl} {n:Nat} {E:Env} {F:PF} {H:PH} {a:Act} {w:World}
theorem D6 {C:Ctx} (A:C.P=T.P) (y:C.num=T.num) {ops:Array Oper} {K:PF→PH→Prop} {Q:Exit→Act→World→Prop}:∀ (l:List Oper) (il:List aU) (E:Env) (F:PF) (H:PH) (a:Act) (w:World),
  T.rC n ops l=some il→wpOps C il K F H→dO ds n E F a→bQ E H w→E.num=T.num→mI ds n E H w K (Q .normal)→wpListIn (Fz ro) fu T.P ops Q l a w
 | [],il,E,F,H,a,w,u,c,p,hW,_,hT=>by simp[Tbl.rC] at u;subst u;exact hT E F H a w p hW (.refl E H w) c
 | o::l,il,E,F,H,a,w,u,c,p,hW,S,hT=>by
  simp only[Tbl.rC] at u;split at u
  ·rename_i i is hi α;cases u;obtain⟨V,X,hlt,hg⟩:=JR hi;have aXY:∀ (e:Env) (O:PF) (H':PH) (R:Act) (N:World),e.num=T.num→dO ds n e O R→bQ e H' N→Ext E H w e H' N→wpOps C is K O H'→wpListIn (Fz ro) fu T.P ops Q l R N :=
    fun e O H' R N Z x B W Y=>D6 A y l is e O H' R N α Y x B Z (hT.after W)
   have U:mI ds n E H w (wpOps C is K) (wpListIn (Fz ro) fu T.P ops Q l):=fun e O H' R N x B W Y=>aXY e O H' R N (W.env.num.trans S) x B W Y;unfold wpListIn;simp only[wpOps] at c;rcases hg with ⟨d,M⟩ | ⟨j,want,t,d,M,ht⟩
   ·rw[M] at c;rw[if_pos (by simp[Region.wanted,d])];exact (sK A y V X hlt c p hW S U)
   ·rw[M] at c;simp only at c;split at c
    ·rename_i b hb;rw[FU d ht (QD p hb)];split at c
     ·rename_i J;rw[if_pos (by simp[J])];exact (sK A y V X hlt c p hW S U)
     ·rename_i J;rw[if_neg (by simpa using J)];exact⟨fun _ _=>trivial,aXY E _ H _ w S (by rw[← X]; exact p.put hlt uX) hW (.refl E H w) c⟩
    ·rename_i hb;rw[BD d ht (UM p hb),if_neg (by simp)];exact⟨fun _ _=>trivial,aXY E _ H _ w S (by rw[← X]; exact p.put hlt uX) hW (.refl E H w) c⟩
    ·exact c.elim
  ·cases u
def PY (ds:List Deferred) (n:Nat) (E:Env) (H:PH) (w:World) (K:bT) (Q:Exit→Act→World→Prop):Prop :=
 ∀ e c i H' l d,dO ds n c i l→bQ c H' d→Ext E H w c H' d→K e i H'→Q e.out l d
theorem PY.after {c:Env} {H':PH} {d:World} {K:bT} {Q:Exit→Act→World→Prop} (h:PY ds n E H w K Q) (u:Ext E H w c H' d):PY ds n c H' d K Q :=
 fun e i l H2 a2 A p hW y x=>h e i l H2 a2 A p hW (u.trans y) x
theorem qD {C:Ctx} (γ:C.P=T.P) (β:C.num=T.num):∀ (c:Code) (pc:aC) (K:bT) (Q:Exit→Act→World→Prop) (E:Env) (F:PF) (H:PH) (a:Act) (w:World),
  T.code n c=some pc→pc.wp C K F H→dO ds n E F a→bQ E H w→E.num=T.num→PY ds n E H w K Q→c.wpIn (Fz ro) fu T.P Q a w:=by
 intro c
 induction c with
 | skip =>intro pc K Q E F H a w i p u hW M l;simp[Tbl.code] at i; subst i;exact wpIn_skip (l .normal E F H a w u hW (.refl E H w) p)
 | region id ops d =>
  intro pc K Q E F H a w i p u hW M l;simp only[Tbl.code] at i;split at i
  ·rename_i hd;subst hd;exact Xw γ β i p u hW M fun A U H' O N R S J B=>l .normal A U H' O N R S J B
  ·rename_i hd;simp only[aYX] at i;obtain⟨il,χ,rfl⟩:=i;have:d=false:=by simpa using hd
   subst this;exact wpIn_region_list (D6 γ β ops.toList il E F H a w χ p u hW M fun A U H' O N R S J B=>l .normal A U H' O N R S J B)
 | seq x y Y Z =>
  intro pc K Q E F H a w i p u hW M l;simp only[Tbl.code] at i;split at i
  ·rename_i px py X hy;cases i;refine wpIn_seq (Y px (gS C (py.wp C) K) _ E F H a w X p u hW M fun e A U H' O N R S J B=>?_);cases e with
   | normal=>exact Z py K Q A U H' O N hy B R S (J.env.num.trans M) (l.after J)
   | exit id=>exact l (.exit id) A U H' O N R S J B
   | ret=>exact l .ret A U H' O N R S J B
  ·cases i
 | cond c x y Y Z =>
  intro pc K Q E F H a w i p u hW M l;simp only[Tbl.code] at i;split at i
  ·rename_i Δ px py ζ X hy;cases i;simp only[aC.wp] at p;split at p
   ·rename_i t υ;have r:=bC ζ υ u M;have hb:a.eval c=.bool t:=by generalize a.eval c=v at r;cases r;rfl
    refine wpIn_cond hb ?_;cases t with
    | true=>exact Y px K Q E F H a w X (by simpa using p) u hW M l
    | false=>exact Z py K Q E F H a w hy (by simpa using p) u hW M l
   ·exact p.elim
  ·cases i
 | block id c ih =>
  intro pc K Q E F H a w i p u hW M l;simp only[Tbl.code,aYX] at i;obtain⟨px,X,rfl⟩:=i;refine wpIn_block (ih px (fF id K) _ E F H a w X p u hW M fun e A U H' O N R S J B=>?_);cases e with
  | normal=>exact l .normal A U H' O N R S J B
  | exit Γ =>
   simp only[fF] at B;simp only[kW.out,Exit.inBlock];split at B
   ·rename_i e;rw[if_pos e];exact l .normal A U H' O N R S J B
   ·rename_i e;rw[if_neg e];exact l (.exit Γ) A U H' O N R S J B
  | ret=>exact l .ret A U H' O N R S J B
 | loop c ih =>
  intro pc K Q E F H a w i p u hW M l;simp only[Tbl.code,aYX] at i;obtain⟨px,X,rfl⟩:=i;obtain⟨α,Fs,Hs,Pr,m,a0,F1,H1,φ,ω,ο,ε,W⟩:=p;obtain⟨E1,ι,σ,μ⟩:=u.frz hW φ;refine wpIn_loop_ghost (fun k O N=>∃ (A:Env) (s:α),Pr s∧m s=k∧dO ds n A (Fs s) O∧bQ A (Hs s) N∧Ext E H w A (Hs s) N) (m a0) ⟨E1,a0,ω,rfl,ι.weaken ο,σ.weaken ε,μ.drop ε⟩ ?_;rintro k O N ⟨A,s,hp,rfl,θ,ρ,V⟩;refine ih px (fR Fs Hs Pr m (m s) K) _ A (Fs s) (Hs s) O N X (W s hp) θ ρ (V.env.num.trans M) fun e E2 F2 H2 a2 w2 R S J B=>?_;cases e with
  | normal =>obtain⟨s',F3,H3,η,ψ,hlt,ξ,δ⟩:=B;obtain⟨E3,κ,τ,ν⟩:=R.frz S η;exact⟨m s',hlt,E3,s',ψ,rfl,κ.weaken ξ,τ.weaken δ,((V.trans J).trans ν).drop δ⟩
  | exit id=>exact l (.exit id) E2 F2 H2 a2 w2 R S (V.trans J) B
  | ret=>exact l .ret E2 F2 H2 a2 w2 R S (V.trans J) B
 | exit id =>intro pc K Q E F H a w i p u hW M l;simp[Tbl.code] at i; subst i;exact wpIn_exit (l (.exit id) E F H a w u hW (.refl E H w) p)
 | ret =>intro pc K Q E F H a w i p u hW M l;simp[Tbl.code] at i; subst i;exact wpIn_ret (l .ret E F H a w u hW (.refl E H w) p)
 | rangeFunc=>intro pc K Q E F H a w i; simp[Tbl.code] at i
 | scope c ih =>intro pc K Q E F H a w i p u hW M l;simp only[Tbl.code] at i;refine aqL (ih pc K _ E F H a w i p u hW M fun e A U H' O N R S J B=>?_);have:=l e A U H' O N R S J B;cases e<;>exact this
 | label =>intro pc K Q E F H a w i p u hW M l;simp[Tbl.code] at i; subst i;exact wpIn_label (l .normal E F H a w u hW (.refl E H w) p)
 | goto=>intro pc K Q E F H a w i; simp[Tbl.code] at i
 | refuse=>intro pc K Q E F H a w i; simp[Tbl.code] at i
end
open Go Go.RowKit
namespace Tbl
variable (T:Tbl)
def res:ResultVar→Option dS
 | .tmp t=>some (.tmp t)
 | .cell t ty=>match T.isAgg ty,T.size ty with
  | some true,some k=>some (.cell t (some k))
  | some false,_=>some (.cell t none)
  | _,_=>none
def x8:List ResultVar→Option (List dS)
 | []=>some []
 | r::rs=>match T.res r,x8 rs with
  | some p,some ps=>some (p::ps)
  | _,_=>none
def func (fn:Func):Option aX :=
 match fn.body with
 | some c=>match T.code fn.ntmps c,T.x8 fn.results.toList with
  | some b,some rs=>some ⟨fn.params.size,fn.ntmps,b,rs⟩
  | _,_=>none
 | none=>none
end Tbl
section
variable {ds:List Deferred} {T:Tbl} {n:Nat} {E:Env} {F:PF} {H:PH} {a:Act} {w:World}
def TO (c:Array Value):ResultVar→Sem Value
 | .tmp t=>pure (c.getD t undef)
 | .cell a t=>do loadVar t (← asAddr (c.getD a undef))
theorem auY {r:ResultVar} {p:dS} {pv:PV} (e:T.res r=some p) (c:p.ev F H=some pv) (l:dO ds n E F a) (hW:bQ E H w):∃ v,(TO a.tmps r).run T.P w=.ok v w∧bA E pv v:=by
 cases r with
 | tmp t =>simp[Tbl.res] at e;subst e;exact⟨_,rfl,l.t t pv c⟩
 | cell t ty =>
  simp only[Tbl.res] at e;split at e
  ·rename_i k B K;cases e;simp only[dS.ev] at c;split at c
   ·rename_i q y;rw[aYX] at c;obtain⟨cs,d,rfl⟩:=c;obtain⟨b,J,x,-⟩:=pG hW (l.t t q y) d;obtain⟨u,i,A⟩:=XN (T:=T) B K hW (l.t t q y) d;refine⟨u,?_,A⟩;rw[x] at i;simpa [TO,x,asAddr,Instr.loadAt,Instr.sureAddr] using i
   ·cases c
  ·rename_i B;cases e;simp only[dS.ev] at c;split at c
   ·rename_i q y;split at c
    ·rename_i v' d;cases c;obtain⟨b,J,x,-⟩:=pG hW (l.t t q y) d;obtain⟨u,i,A⟩:=me (T:=T) B hW (l.t t q y) d;refine⟨u,?_,A⟩;rw[x] at i;simpa [TO,x,asAddr,Instr.loadAt,Instr.sureAddr] using i
    ·cases c
   ·cases c
  ·cases e
theorem ML (y:dO ds n E F a) (hW:bQ E H w):∀ (rs:List ResultVar) (ps:List dS) (c:List PV),T.x8 rs=some ps→dS.evs F H ps=some c →
  ∃ vs,(rs.mapM (TO a.tmps)).run T.P w=.ok vs w∧eQ E c vs
 | [],ps,c,d,e=>by simp[Tbl.x8] at d; subst d;simp[dS.evs] at e; subst e;exact⟨[],by simp,.nil⟩
 | r::rs,ps,c,d,e=>by
  simp only[Tbl.x8] at d;split at d
  ·rename_i p x A i;cases d;simp only[dS.evs] at e;split at e
   ·rename_i v vs B l;cases e;obtain⟨u,g1,g2⟩:=auY A B y hW;obtain⟨J,k1,k2⟩:=ML y hW rs x vs i l;exact⟨u::J,by simp[List.mapM_cons,g1,k1],.cons g2 k2⟩
   ·cases e
  ·cases d
theorem ot {d:List PV} {vs:List Value} (h:eQ E d vs):bA E (bL d) (if h:vs.toArray.size=1 then vs.toArray[0] else .tuple vs.toArray):=by
 cases h with
 | nil=>exact .tup #[] rfl (by simp)
 | cons h t =>
  cases t with
  | nil=>exact h
  | cons e x =>rename_i p v q u ps y;have c:eQ E (p::q::ps) (v::u::y):=.cons h (.cons e x);rw[dif_neg (by simp)];exact .tup _ (by simpa using c.len) (fun j pv w i l=>c.at_ j pv w i (by simpa using l))
theorem p6 (fn:Func) (c:Array Value):results fn c=(do
  let vs ← fn.results.mapM (TO c)
  pure (if h:vs.size=1 then vs[0] else .tuple vs)):=by
 unfold results;congr 1
theorem arW {C:Ctx} (A:C.P=T.P) (y:C.num=T.num) {name:Nat} {args:List PV} {R:PV→PH→Prop} {fn:Func} {U:aX} (hf:C.P.funcs[C.num name]?=some fn) (Y:(fn.name=="runtime.NumGoroutine")=false)
  (d:T.func fn=some U) (K:args.length≤U.ntmps) (h:U.body.wp C (aR U.res R) (PF.args args) H):aH C name args H R:=by
 unfold Tbl.func at d;split at d
 ·rename_i c hb;split at d
  ·rename_i b rs l u;cases d;refine⟨⟨fn,hf,by simp[hb],Y⟩,fun E w vs hN hW O=>?_⟩;have β:vs.size=args.length:=by simpa using O.len
   refine calls_of_wp hf hb ?_;rw[A];refine (wpIn_wide (n:=0)).1 ?_;have hA:dO [] fn.ntmps E (PF.args args) { tmps:=vs++a0N (fn.ntmps-vs.size) undef,defers:=[] }:=by
    refine⟨by simp only at K; simp; omega,rfl,fun i pv hi=>?_⟩;have p:i<vs.size:=by
     rw[β];rcases aZL i args.length with h' | h'
     ·exact h'
     ·simp[PF.args,a0H h'] at hi
    simp only[a2K];rw[Array.getElem?_append_left p,a2D p];exact O.at_ i pv _ hi (by simp[p])
   refine qD (ro:=none) (fu:=0) A y c b (aR rs R) _ E (PF.args args) H _ w l h hA hW (hN.trans y) fun e S F' H' a' V x B hE W=>?_;have Q:aR rs R .ret F' H'→bodyPost T.P fn (fun e V=>∃ v pv S H',e=.returned v∧bQ S H' V∧bA S pv v∧Ext E H w S H' V∧R pv H') .ret a' V:=by
    rintro⟨γ,M,F1,H1,H2,X,J,v0,α,hR⟩;obtain⟨us,g1,g2⟩:=ML x B fn.results.toList rs γ u M;have Z:=ot g2;obtain⟨E2,k1,k2,k3⟩:=X.sound B;have N:=k3 (fun _=>if h:us.toArray.size=1 then us.toArray[0] else .tuple us.toArray) (fun i pv hi=>by
     simp only[PF.set,upd] at hi;split at hi
     ·cases hi; exact Z
     ·cases hi) 0 v0 α
    refine⟨x.defers,_,?_,_,v0,E2,H2,rfl,k1.weaken J,N,(hE.trans k2).drop J,hR⟩;rw[p6,Array.mapM_eq_mapM_toList];simp[g1]
   cases e with
   | normal=>exact Q W
   | exit id=>exact W.elim
   | ret=>exact Q W
  ·cases d
 ·cases d
end
end Go.PM
namespace Go.PM
open Go
inductive Co:PV→PV→Prop
 | refl (v:PV):Co v v
 | junk (v:PV):Co v .junk
 | nil (s:Nat):Co .aB (.sl s [])
 | osl0 (o s off s':Nat):Co (.osl o s off 0) (.sl s' [])
 | agg {cs ds:List PV} (hl:ds.length=cs.length) (h:∀ (j:Nat) p q,cs[j]?=some p→ds[j]?=some q→Co p q):Co (.agg cs) (.agg ds)
 | tup {cs ds:List PV} (hl:ds.length=cs.length) (h:∀ (j:Nat) p q,cs[j]?=some p→ds[j]?=some q→Co p q):Co (.tup cs) (.tup ds)
 | bH {cs ds:List PV} (hl:ds.length=cs.length) (h:∀ (j:Nat) p q,cs[j]?=some p→ds[j]?=some q→Co p q):Co (.bH cs) (.bH ds)
 | sl {s:Nat} {rs ts:List (List PV)} (hl:ts.length=rs.length) (hr:∀ (i:Nat) r t,rs[i]?=some r→ts[i]?=some t→t.length=r.length)
   (h:∀ (i j:Nat) p q,at2 rs i j=some p→at2 ts i j=some q→Co p q):Co (.sl s rs) (.sl s ts)
structure CoL (ps qs:List PV):Prop where
 len:qs.length=ps.length
 at_:∀ (j:Nat) p q,ps[j]?=some p→qs[j]?=some q→Co p q
theorem CoL.refl (ps:List PV):CoL ps ps:=⟨rfl,fun j p q h k=>by rw[h] at k; cases k; exact .refl p⟩
theorem Co.sound {E:Env} {p q:PV} (h:Co p q):∀ {v:Value},bA E p v→bA E q v:=by
 induction h with
 | refl=>intro v r; exact r
 | junk=>intro v _; exact .junk v
 | nil s =>intro v r;cases r;exact .sl (fun _ _=>.bool false) (by simp) (by decide) (by simp) (by simp) (fun _ _=>rfl) (by simp[at2])
 | osl0 o s Z s' =>
  intro v r;cases r with
  | osl hb J V U x hn Q=>exact .sl (fun _ _=>.bool false) (by simp) x (by simp) (by simp) (fun _ _=>rfl) (by simp[at2])
 | agg w h B =>
  intro v r;cases r with
  | agg vs A F y =>
  refine .agg vs (A.trans w.symm) F fun j q u c R=>?_;have l:=(aZU.1 c).1;have d:=aZA (show j<_ by rw[w] at l; exact l);exact B j _ q d c (y j _ u d R)
 | tup w h B =>
  intro v r;cases r with
  | tup vs A y =>
  refine .tup vs (A.trans w.symm) fun j q u c R=>?_;have l:=(aZU.1 c).1;have d:=aZA (show j<_ by rw[w] at l; exact l);exact B j _ q d c (y j _ u d R)
 | bH w h B =>
  intro v r;cases r with
  | bH u J N F y =>
  refine .bH u J (fun j q c=>?_) F fun j q c=>?_
  ·have l:=(aZU.1 c).1;exact N j _ (aZA (show j<_ by rw[w] at l; exact l))
  ·have l:=(aZU.1 c).1;have d:=aZA (show j<_ by rw[w] at l; exact l);exact B j _ q d c (y j _ d)
 | @sl s rs ts w H h B =>
  intro v r;have K:∀ (i j:Nat) q,at2 ts i j=some q→∃ p,at2 rs i j=some p:=by intro i j q c;unfold at2 at c ⊢;rw[a2J] at c;obtain⟨t,M,c⟩:=c;have hi:=(aZU.1 M).1;have y:=aZA (Om:i<rs.length);have:=H i _ t y M;have l:=(aZU.1 c).1;rw[y];exact⟨(rs[i])[j]'Om,by simp⟩
  cases r with
  | sl u S x Y X F y =>
  rw[← w];refine .sl u Om x (fun t M=>?_) (fun O=>?_) F fun i j q c=>?_
  ·obtain⟨i,hi,rfl⟩:=a0C M;have:=H i rs[i] ts[i] (by simp) (by simp);rw[this];exact Y _ (by simp)
  ·obtain⟨W,e,sp,N⟩:=X (by rintro rfl; exact O (List.eq_nil_of_length_eq_zero (by simpa using w)));refine⟨W,e,sp,fun i j q c=>?_⟩;obtain⟨p,d⟩:=K i j q c;exact N i j p d
  ·obtain⟨p,d⟩:=K i j q c;exact B i j p q d c (y i j p d)
theorem CoL.sound {E:Env}:∀ {ps c:List PV} {vs:List Value},CoL ps c→eQ E ps vs→eQ E c vs
 | [],c,vs,h,r=>by cases r;have:c=[]:=List.eq_nil_of_length_eq_zero h.len;subst this;exact .nil
 | p::ps,c,vs,h,r=>by
  cases r with
  | cons r1 r2 =>
  cases c with
  | nil=>have:=h.len; simp at this
  | cons q c =>refine .cons ((h.at_ 0 p q rfl rfl).sound r1) (CoL.sound ⟨by simpa using h.len,fun j x y a b=>h.at_ (j+1) x y (by simpa using a) (by simpa using b)⟩ r2)
theorem aH.args {C:Ctx} {name:Nat} {args c:List PV} {H:PH} {R:PV→PH→Prop} (h:aH C name c H R) (i:CoL args c):aH C name args H R :=
 ⟨h.1,fun E w vs e hW d=>h.2 E w vs e hW (i.sound d)⟩
theorem aH.post {C:Ctx} {name:Nat} {args:List PV} {H:PH} {R u:PV→PH→Prop} (h:aH C name args H R) (F:∀ r H',R r H'→∃ x,Co r x∧u x H'):aH C name args H u :=
 ⟨h.1,fun E w vs B hW l=>(h.2 E w vs B hW l).mono fun e N J=>by obtain⟨v,pv,y,H',rfl,c,M,A,K⟩:=J;obtain⟨p,d,i⟩:=F pv H' K;exact⟨v,p,y,H',rfl,c,d.sound M,A,i⟩⟩
end Go.PM
