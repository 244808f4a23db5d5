/-
  Texts of ours, joined: YsShelf Pm1 Pm2 Pm3 Pm4 Pm5 Pm6 Pm7 Pm8 Pm9 Pm10 Pm11 Pm11m Pm12 Pm13 Pm14 Pm15 Pm16 Pm17 Pm17f Pm15m Pm18 Pm18a Pm18b Pm18c Pm18d Pm18e Pm19 Pm20 Pm20c. No condition.
-/
import Derived.Shelf.Strconv.Itoa3
import Derived.Test.YtgfeljaimmnmmaaGreatDoorProg
import Derived.WalkKit
import Derived.CallsIn
import Derived.Laws.Cover3
import Derived.Deep.MidRow
import Derived.Great.BuildSlice
import Derived.Lib.Strings
import Derived.Laws.BytesArg
import GoSem.Instr.MapUpdate
import Derived.Laws.MakeOwn
import Derived.Laws.CopyRow
import Derived.MapKept
import Derived.Orders
import Derived.OrdersIn
import Derived.Sort.LoopGhostIn
import Derived.TacticsIn
import Derived.Scope
set_option linter.unusedSimpArgs false
set_option linter.unusedVariables false
open Nat renaming reduceEqDiff → γ, reduceAdd → δ, reduceSub → ε, reduceMul → ζ, reduceLT → η, reduceLeDiff → θ, reduceBEq → τ
open Int renaming reduceLT → ι, reduceLE → κ, reduceEq → μ, reduceToNat → ν, reduceAdd → ξ, reduceNeg → ο, reduceBEq → ρ, reduceBNe → σ
open List renaming reduceReplicate → υ
open List renaming length_map → a7G, range → a7H, getElem_mem → a7J, replicate → a7K, length_append → a7O, length_singleton → a7S, mem_cons → a7T, getElem?_eq_getElem → a7U, all_eq_true → a7W, getD_eq_getElem?_getD → a7Z, length_take → a8A, not_mem_nil → a8B, take_of_length_le → a8C, getElem?_map → a8F, map_append → a8G, take_length → a8I, mem_map → a8J, mem_range → a8K, getElem?_eq_some_iff → a8P, append_assoc → a8Q, drop_zero → a8R, getElem_of_mem → a8S, map_cons → a8U, getElem?_eq_none → a8X, length_cons → a8Y, getElem_map → a9B, mem_append → a9C, take_succ_eq_append_getElem → a9E, append_nil → a9G, drop_eq_getElem_cons → a9H, range' → a9I, length_drop → a9J, Sublist → a9K, length_set → a9L, map_nil → a9P, length_nil → a9W, mem_singleton → a9X, getElem?_append_right → a9Y, getElem?_append_left → a9Z, nodup_append → baA, mem_of_getElem? → baC, set_append_right → baD, take_append_drop → baE, ext_getElem → baO, range_succ → baS, getElem?_take → baU, drop_of_length_le → bbA, map_congr_left → bbB, set_cons_zero → bbC, getElem_append_right → bbD
open Nat renaming gcd → a7I, le_refl → a7M, zero_le → a7N, mul_add → a7V, lt_or_ge → a8D, zero_add → a8E, mul_assoc → a8H, mul_comm → a8L, add_mul → a8M, mul_le_mul_right → a8N, mod_eq_of_lt → a8T, le_trans → a8V, mod_lt → a8Z, pow_succ → a9D, add_zero → a9M, eq_zero_or_pos → a9Q, add_assoc → a9R, min_eq_left → a9S, mul_le_mul_left → a9T, pos_of_ne_zero → a9U, pow_pos → baB, div_le_self → baF, sub_self → baG, div_lt_iff_lt_mul → baK, pow_le_pow_right → baL, succ_mul → baM, mul_le_mul → baP, div_add_mod → baV, div_eq_of_lt → baW
open Bool renaming not_true → a7L, false_and → a7P, true_and → a7R, and_eq_true → a7X, not_false → a7Y, and_false → a8O, and_true → a9N, and_assoc → baI, and_self → baJ, false_eq_true → baR
open Option renaming map_eq_some_iff → a7Q, map_some → a8W, some → a9V, getD_some → baH, bind_eq_some_iff → baX, bind_some → baY
open Int renaming toNat_natCast → a9A, tdiv → a9O
open Array renaming replicate → a9F, length_toList → baN, getElem?_eq_some_iff → baQ, getElem?_eq_getElem → baT, getD_eq_getD_getElem? → baZ
attribute [go_sem] Nat.reduceEqDiff Nat.reduceAdd Nat.reduceSub Nat.reduceMul Nat.reduceLT Nat.reduceLeDiff Int.reduceLT Int.reduceLE Int.reduceEq Int.reduceToNat Int.reduceAdd Int.reduceNeg Int.reduceBEq Int.reduceBNe Nat.reduceBEq List.reduceReplicate reduceIte reduceCtorEq
namespace Go.Proofs
open Go.Shelf
def Tryz.V6:Go.Shelf.Ren:=⟨fun | 171=>64 | 243=>90 | 246=>116 | 283=>132 | 284=>133 | 285=>134 | 286=>135 | 129=>147 | 317=>146 | 318=>148 | 319=>149 | 320=>150 | 337=>155 | 338=>156 | n=>n,fun | 3=>3 | 9=>9 | 2=>2 | 4=>4 | 171=>155 | 0=>0 | 53=>119 | 37=>22 | 5=>5 | 173=>158 | 212=>163 | 51=>134 | 20=>20 | 213=>164 | 46=>139 | 232=>172 | 233=>173 | n=>n,fun | 17=>0 | 18=>1 | 19=>2 | n=>n⟩
theorem Tryz.aQI:Go.Proofs.Lays.n171 Tryz.prog Tryz.V6:={
 mixed:=by kernel_rfl
 f129:=Tryz.func147.trans (congrArg some (by kernel_rfl))
 f171:=Tryz.func64.trans (congrArg some (by kernel_rfl))
 f243:=Tryz.func90.trans (congrArg some (by kernel_rfl))
 f246:=Tryz.func116.trans (congrArg some (by kernel_rfl))
 f283:=Tryz.func132.trans (congrArg some (by kernel_rfl))
 f284:=Tryz.func133.trans (congrArg some (by kernel_rfl))
 f285:=Tryz.func134.trans (congrArg some (by kernel_rfl))
 f286:=Tryz.func135.trans (congrArg some (by kernel_rfl))
 f317:=Tryz.func146.trans (congrArg some (by kernel_rfl))
 f318:=Tryz.func148.trans (congrArg some (by kernel_rfl))
 f319:=Tryz.func149.trans (congrArg some (by kernel_rfl))
 f320:=Tryz.func150.trans (congrArg some (by kernel_rfl))
 f337:=Tryz.func155.trans (congrArg some (by kernel_rfl))
 f338:=Tryz.func156.trans (congrArg some (by kernel_rfl))
 t0:=Tryz.underlying0
 a0:=Tryz.isAgg0
 z0:=Tryz.sizeOf0
 v0:=Tryz.zeroValue0
 t2:=Tryz.underlying2
 a2:=Tryz.isAgg2
 z2:=Tryz.sizeOf2
 v2:=Tryz.zeroValue2
 t3:=Tryz.underlying3
 a3:=Tryz.isAgg3
 z3:=Tryz.sizeOf3
 v3:=Tryz.zeroValue3
 t4:=Tryz.underlying4
 a4:=Tryz.isAgg4
 z4:=Tryz.sizeOf4
 v4:=Tryz.zeroValue4
 t5:=Tryz.underlying5
 a5:=Tryz.isAgg5
 z5:=Tryz.sizeOf5
 v5:=Tryz.zeroValue5
 t9:=Tryz.underlying9
 a9:=Tryz.isAgg9
 z9:=Tryz.sizeOf9
 v9:=Tryz.zeroValue9
 t20:=Tryz.underlying20
 a20:=Tryz.isAgg20
 z20:=Tryz.sizeOf20
 v20:=Tryz.zeroValue20
 t37:=Tryz.underlying22
 a37:=Tryz.isAgg22
 z37:=Tryz.sizeOf22
 v37:=Tryz.zeroValue22
 t46:=Tryz.underlying139
 a46:=Tryz.isAgg139
 z46:=Tryz.sizeOf139
 v46:=Tryz.zeroValue139
 t51:=Tryz.underlying134
 a51:=Tryz.isAgg134
 z51:=Tryz.sizeOf134
 v51:=Tryz.zeroValue134
 t53:=Tryz.underlying119
 a53:=Tryz.isAgg119
 z53:=Tryz.sizeOf119
 v53:=Tryz.zeroValue119
 t171:=Tryz.underlying155
 a171:=Tryz.isAgg155
 z171:=Tryz.sizeOf155
 v171:=Tryz.zeroValue155
 t173:=Tryz.underlying158
 a173:=Tryz.isAgg158
 z173:=Tryz.sizeOf158
 v173:=Tryz.zeroValue158
 t212:=Tryz.underlying163
 a212:=Tryz.isAgg163
 z212:=Tryz.sizeOf163
 v212:=Tryz.zeroValue163
 t213:=Tryz.underlying164
 a213:=Tryz.isAgg164
 z213:=Tryz.sizeOf164
 t232:=Tryz.underlying172
 a232:=Tryz.isAgg172
 z232:=Tryz.sizeOf172
 v232:=Tryz.zeroValue172
 t233:=Tryz.underlying173
 a233:=Tryz.isAgg173
 z233:=Tryz.sizeOf173
 v233:=Tryz.zeroValue173
 g17:=by kernel_rfl
 g18:=by kernel_rfl
 g19:=by kernel_rfl }
end Go.Proofs
theorem Om {p:Prop} (h:p:=by omega):p:=h
namespace Go.PM
open Go
inductive PV where
 | int (k:IntKind) (n:Int)
 | bool (b:Bool)
 | str (s:List UInt8)
 | aB
 | sl (size:Nat) (rows:List (List PV))
 | osl (o size off len:Nat)
 | ptr (o size i c:Nat)
 | bH (cells:List PV)
 | map (o:Nat)
 | fn (name:Nat) (captured:List PV)
 | agg (cells:List PV)
 | tup (vs:List PV)
 | lit (v:Value)
 | junk
 deriving Inhabited
inductive KSh where
 | int (k:IntKind)
 | bool
 | str
 deriving DecidableEq,Inhabited
inductive KS where
 | int (k:IntKind) (n:Int)
 | bool (b:Bool)
 | str (s:List UInt8)
 deriving DecidableEq,Inhabited
def KS.sh:KS→KSh
 | .int k _=>.int k
 | .bool _=>.bool
 | .str _=>.str
def KS.val:KS→Value
 | .int k n=>.int k n
 | .bool b=>.bool b
 | .str s=>.string ⟨s.toArray⟩
abbrev MSh:=Bool × List KSh
def gD (sh:MSh) (k:List KS):Value:=if sh.1 then .agg (k.map KS.val).toArray else (k.map KS.val).headD undef
abbrev jO:=List KS→Option PV
def jO.upd (g:jO) (k:List KS) (v:PV):jO:=fun j=>if j=k then some v else g j
def nM (k:List KS):List (List KS × PV)→Nat→Option (Nat × PV)
 | [],_=>none
 | e::c,i=>if e.1=k then some (i,e.2) else nM k c (i+1)
def mapOf (L:List (List KS × PV)):jO:=fun k=>(nM k L 0).map (·.2)
open Classical in
noncomputable def jO.ajF (g:jO):Nat:=if h:∃ c:List (List KS),c.Nodup∧∀ k,k∈c↔(g k).isSome=true then h.choose.length else 0
theorem jO.aOM {g:jO} {c:List (List KS)} (d:c.Nodup) (e:∀ k,k∈c↔(g k).isSome=true):g.ajF=c.length:=by
 have h:∃ c:List (List KS),c.Nodup∧∀ k,k∈c↔(g k).isSome=true:=⟨c,d,e⟩;unfold jO.ajF;rw[dif_pos h];exact ((List.perm_ext_iff_of_nodup h.choose_spec.1 d).2 fun k=>(h.choose_spec.2 k).trans (e k).symm).length_eq
theorem HR (k:List KS):∀ (L:List (List KS × PV)) (i:Nat),(nM k L i).isSome=true↔k∈L.map (·.1)
 | [],i=>by simp[nM]
 | e::d,i=>by
  unfold nM;by_cases h:e.1=k
  ·simp[h]
  ·rw[if_neg h,HR k d,a8U,a7T];exact⟨.inr,fun l=>l.resolve_left fun c=>h c.symm⟩
theorem alL {L:List (List KS × PV)} (h:(L.map (·.1)).Nodup):(mapOf L).ajF=L.length:=by
 rw[jO.aOM h fun k=>?_,a7G];rw[← HR k L 0];unfold mapOf;simp
inductive cG where
 | rows (size:Nat) (rs:List (List PV))
 | map (sh:MSh) (g:jO)
 | loop (F:Nat→Option PV) (n t:Nat) (asg bdy:Code)
 | dead
def upd {α:Type} (f:Nat→Option α) (i:Nat) (v:Option α):Nat→Option α:=fun j=>if j=i then v else f j
theorem TO {α:Type} (f:Nat→Option α) {i j:Nat} (v:Option α) (h:j≠i):upd f i v j=f j:=by simp[upd,h]
theorem aMU {α:Type} (f:Nat→Option α) {i j:Nat} (v u:Option α) (h:i≠j):upd (upd f i v) j u=upd (upd f j u) i v:=by
 funext k;simp only[upd];by_cases c:k=j
 ·by_cases d:k=i
  ·omega
  ·simp[c];intro e; omega
 ·simp[c]
abbrev PF:=Nat→Option PV
def PF.nil:PF:=fun _=>none
def PF.set (F:PF) (i:Nat) (v:PV):PF:=upd F i (some v)
def PF.le (F G:PF):Prop:=∀ i v,F i=some v→G i=some v
structure PH where
 f:Nat→Option cG
 fin:∃ n,∀ o,n≤o→f o=none
instance:CoeFun PH (fun _=>Nat→Option cG):=⟨PH.f⟩
theorem PH.ext {H K:PH} (h:∀ o,H.f o=K.f o):H=K:=by
 cases H; cases K;have:‹Nat→Option cG›=‹Nat→Option cG›:=rfl;congr;exact funext h
def PH.nil:PH:=⟨fun _=>none,0,fun _ _=>rfl⟩
def PH.upd (H:PH) (o:Nat) (x:Option cG):PH :=
 ⟨PM.upd H.f o x,by
  obtain⟨n,c⟩:=H.fin;refine⟨max n (o+1),fun q d=>?_⟩;rw[TO _ _ Om];exact c q Om⟩
def PH.set (H:PH) (o:Nat) (x:cG):PH:=H.upd o (some x)
def PH.le (H K:PH):Prop:=∀ o x,H o=some x→K o=some x
def PH.over (H c d:PH):PH :=
 ⟨fun o=>match d o with
  | some x=>some x
  | none=>match c o with
   | some _=>some .dead
   | none=>H o,by
  obtain⟨n,l⟩:=H.fin;obtain⟨p,e⟩:=c.fin;obtain⟨q,i⟩:=d.fin;refine⟨max n (max p q),fun o u=>?_⟩;simp only[i o Om,e o Om,l o Om]⟩
theorem PH.fresh (H:PH):∃ o,H o=none:=by
 obtain⟨n,c⟩:=H.fin;exact⟨n,c n (a7M _)⟩
def at2 (rows:List (List PV)) (i j:Nat):Option PV:=rows[i]?.bind (·[j]?)
structure Env where
 G:Nat→Option (Array Value)
 sz:Nat→Option Nat
 num:Nat→FuncId
def Env.cell (E:Env) (b c:Nat):Option Value:=(E.G b).bind (·[c]?)
structure Env.le (E E':Env):Prop where
 g:∀ b cs,E.G b=some cs→E'.G b=some cs
 s:∀ b n,E.sz b=some n→E'.sz b=some n
 num:E'.num=E.num
theorem Env.le.refl (E:Env):E.le E:=⟨fun _ _ h=>h,fun _ _ h=>h,rfl⟩
theorem Env.le.trans {A B C:Env} (h:A.le B) (k:B.le C):A.le C :=
 ⟨fun b cs e=>k.g _ _ (h.g _ _ e),fun b n e=>k.s _ _ (h.s _ _ e),k.num.trans h.num⟩
theorem Env.le.cell {E i:Env} (h:E.le i) {b c:Nat} {u:Value} (d:E.cell b c=some u):i.cell b c=some u:=by
 unfold Env.cell at *
 cases e:E.G b with
 | none=>simp[e] at d
 | some cs=>rw[e] at d; rw[h.g _ _ e]; exact d
inductive aZ (E:Env):PV→Value→Prop
 | int (k:IntKind) (n:Int):aZ E (.int k n) (.int k n)
 | bool (b:Bool):aZ E (.bool b) (.bool b)
 | str (s:ByteArray):aZ E (.str s.data.toList) (.string s)
 | aB:aZ E .aB (.slice none 0 0)
 | sl {size:Nat} {rows:List (List PV)} {a:Option Addr} {cap:Nat} (u:Nat→Nat→Value) (hcap:rows.length≤cap) (a7A:cap≤maxLen)
   (hs:∀ r∈rows,r.length=size)
   (ha:rows≠[]→∃ ad,a=some ad∧ad.spot=none∧∀ i j pv,at2 rows i j=some pv→E.cell ad.block (ad.off+i*size+j)=some (u i j))
   (h1:∀ i j,(u i j).oneCell'=true) (hr:∀ i j pv,at2 rows i j=some pv→aZ E pv (u i j)):aZ E (.sl size rows) (.slice a rows.length cap)
 | osl {o size off len cap n:Nat} {a:Addr} (hb:a.block=o) (hsp:a.spot=none) (a7D:cap=0∨a.off=off*size) (hlen:len≤cap) (a7A:cap≤maxLen)
   (hn:E.sz o=some n) (a6U:off*size+cap*size≤n):aZ E (.osl o size off len) (.slice (some a) len cap)
 | ptr (o size i c:Nat):aZ E (.ptr o size i c) (.pointer (some ⟨o,i*size+c,none⟩))
 | bH {cells:List PV} {ad:Addr} (u:Nat→Value) (hsp:ad.spot=none) (hc:∀ (j:Nat) pv,cells[j]?=some pv→E.cell ad.block (ad.off+j)=some (u j))
   (h1:∀ (j:Nat),(u j).oneCell'=true) (hr:∀ (j:Nat) pv,cells[j]?=some pv→aZ E pv (u j)):aZ E (.bH cells) (.pointer (some ad))
 | map (o:Nat):aZ E (.map o) (.map (some o))
 | fn {name:Nat} {captured:List PV} (vc:Array Value) (hl:vc.size=captured.length)
   (hr:∀ (j:Nat) pv v,captured[j]?=some pv→vc[j]?=some v→aZ E pv v):aZ E (.fn name captured) (.func (.func (E.num name)) #[] vc)
 | agg {cells:List PV} (vs:Array Value) (hl:vs.size=cells.length) (h1:∀ v∈vs.toList,v.oneCell'=true)
   (hr:∀ (j:Nat) pv v,cells[j]?=some pv→vs[j]?=some v→aZ E pv v):aZ E (.agg cells) (.agg vs)
 | tup {ps:List PV} (vs:Array Value) (hl:vs.size=ps.length)
   (hr:∀ (j:Nat) pv v,ps[j]?=some pv→vs[j]?=some v→aZ E pv v):aZ E (.tup ps) (.tuple vs)
 | lit (v:Value):aZ E (.lit v) v
 | junk (v:Value):aZ E .junk v
theorem aZ.mono {E J:Env} (h:E.le J) {pv:PV} {v:Value} (r:aZ E pv v):aZ J pv v:=by
 induction r with
 | int=>exact .int _ _
 | bool=>exact .bool _
 | str=>exact .str _
 | aB=>exact .aB
 | sl u w c Q M q _ d =>refine .sl u w c Q (fun F=>?_) q d;obtain⟨K,e,R,B⟩:=M F;exact⟨K,e,R,fun i j pv H=>h.cell (B i j pv H)⟩
 | osl N p A y c O l=>exact .osl N p A y c (h.s _ _ O) l
 | ptr=>exact .ptr _ _ _ _
 | bH u p B q _ d=>exact .bH u p (fun j pv H=>h.cell (B j pv H)) q d
 | map=>exact .map _
 | fn vc x _ d=>rw[← h.num]; exact .fn vc x d
 | agg vs x q _ d=>exact .agg vs x q d
 | tup vs x _ d=>exact .tup vs x d
 | lit=>exact .lit _
 | junk=>exact .junk _
def NX (E:Env) (w:World) (o:Nat):cG→Prop
 | .rows size rs=>∃ c ty,w.heap[o]?=some (.cells c ty (0,0))∧E.sz o=some c.size∧(∀ r∈rs,r.length=size)∧rs.length*size≤c.size ∧
   ∀ i j pv,at2 rs i j=some pv→∃ u,c[i*size+j]?=some u∧u.oneCell'=true∧aZ E pv u
 | .map sh g=>∃ l d L,w.heap[o]?=some (.map l d)∧(l.size=L.length∧(L.map (·.1)).Nodup)∧g=mapOf L ∧
   ∀ (i:Nat) e x,L[i]?=some e→l[i]?=some x→e.1.map KS.sh=sh.2∧x.key=gD sh e.1∧aZ E e.2 x.val
 | .loop F n t p q=>∃ rec:Loop,w.heap[o]?=some (.loop rec)∧rec.state=.ready∧rec.pending=none∧rec.params=#[t]∧rec.assign=p∧rec.body=q∧rec.tmps.size=n∧∀ i pv,F i=some pv→aZ E pv (rec.tmps.getD i undef)
 | .dead=>True
theorem NX.mono {E K:Env} (h:E.le K) {w M:World} {o:Nat} (J:M.heap[o]?=w.heap[o]?) {x:cG} (r:NX E w o x):NX K M o x:=by
 cases x with
 | rows size rs =>obtain⟨A,ty,p,q,y,l,h5⟩:=r;refine⟨A,ty,J.trans p,h.s _ _ q,y,l,fun i j pv R=>?_⟩;obtain⟨u,a,b,c⟩:=h5 i j pv R;exact⟨u,a,b,c.mono h⟩
 | map sh g =>obtain⟨H,d,L,p,q,y,l⟩:=r;exact⟨H,d,L,J.trans p,q,y,fun i e B a b=>⟨(l i e B a b).1,(l i e B a b).2.1,(l i e B a b).2.2.mono h⟩⟩
 | loop F n t N O =>obtain⟨rec,p,q,y,l,h5,Q,h7,h8⟩:=r;exact⟨rec,J.trans p,q,y,l,h5,Q,h7,fun i pv hi=>(h8 i pv hi).mono h⟩
 | dead=>trivial
structure bM (E:Env) (H:PH) (w:World):Prop where
 g:∀ b cs,E.G b=some cs→(∀ x,H b=some x→x=.dead)∧∃ ty fr,w.heap[b]?=some (.cells cs ty fr)
 h:∀ o x,H o=some x→o<w.heap.size∧NX E w o x
 s:∀ o n,E.sz o=some n→∃ cur ty fr,w.heap[o]?=some (.cells cur ty fr)∧cur.size=n
theorem bM.weaken {E:Env} {H d:PH} {w:World} (h:bM E H w) (c:d.le H):bM E d w:=by
 exact⟨fun b cs e=>⟨fun x l=>(h.g b cs e).1 x (c b x l),(h.g b cs e).2⟩,fun o x i=>h.h o x (c o x i),h.s⟩
structure Ext (E:Env) (H:PH) (w:World) (E':Env) (H':PH) (w':World):Prop where
 env:E.le E'
 os:w'.os=w.os
 tape:w'.tape=w.tape
 output:w'.output=w.output
 size:w.heap.size≤w'.heap.size
 block:∀ b,b<w.heap.size→H b=none→w'.heap[b]?=w.heap[b]?
 new:∀ o x,H' o=some x→(∃ y,H o=some y)∨w.heap.size≤o
 newG:∀ b cs,E'.G b=some cs→E.G b=some cs∨(∃ y,H b=some y)∨w.heap.size≤b
theorem Ext.refl (E:Env) (H:PH) (w:World):Ext E H w E H w :=
 ⟨.refl E,rfl,rfl,rfl,a7M _,fun _ _ _=>rfl,fun _ x h=>.inl ⟨x,h⟩,fun _ _ h=>.inl h⟩
theorem Ext.trans {i l p:Env} {q H2 u:PH} {A B E:World} (h:Ext i q A l H2 B) (k:Ext l H2 B p u E):Ext i q A p u E:=by
 refine⟨h.env.trans k.env,k.os.trans h.os,k.tape.trans h.tape,k.output.trans h.output,a8V h.size k.size,fun b d w=>?_,fun o x J=>?_,fun b cs d=>?_⟩
 ·have H:H2 b=none:=by
   cases e:H2 b with
   | none=>rfl
   | some x =>
    rcases h.new b x e with ⟨y,c⟩ | hl
    ·rw[w] at c; cases c
    ·omega
  rw[k.block b (by have:=h.size; omega) H,h.block b d w]
 ·rcases k.new o x J with ⟨y,c⟩ | hl
  ·exact h.new o y c
  ·exact .inr (a8V h.size hl)
 ·rcases k.newG b cs d with F | ⟨y,c⟩ | hl
  ·exact h.newG b cs F
  ·exact .inr (h.new b y c)
  ·exact .inr (.inr (a8V h.size hl))
theorem Ext.drop {E d:Env} {H H' e:PH} {w i:World} (h:Ext E H w d H' i) (c:e.le H'):Ext E H w d e i :=
 ⟨h.env,h.os,h.tape,h.output,h.size,h.block,fun o x l=>h.new o x (c o x l),h.newG⟩
theorem Ext.narrow {E q:Env} {H H' l:PH} {w u:World} (h:Ext E l w q H' u) (c:l.le H):Ext E H w q (H.over l H') u:=by
 refine⟨h.env,h.os,h.tape,h.output,h.size,fun b p B=>h.block b p ?_,fun o x d=>?_,fun b cs p=>?_⟩
 ·cases e:l b with
  | none=>rfl
  | some x=>have:=c b x e; rw[B] at this; cases this
 ·unfold PH.over at d;simp only at d;split at d
  ·rename_i y i;rcases h.new o y i with ⟨z,F⟩ | hl
   ·exact .inl ⟨z,c o z F⟩
   ·exact .inr hl
  ·split at d
   ·rename_i y i;exact .inl ⟨y,c o y i⟩
   ·exact .inl ⟨x,d⟩
 ·rcases h.newG b cs p with A | ⟨y,i⟩ | hl
  ·exact .inl A
  ·exact .inr (.inl ⟨y,c b y i⟩)
  ·exact .inr (.inr hl)
theorem bM.over {E u:Env} {H H' A:PH} {w q:World} (hW:bM E H w) (h:Ext E A w u H' q) (F:A.le H) (c:bM u H' q):bM u (H.over A H') q:=by
 have keep:∀ o x,H o=some x→A o=none→o<q.heap.size∧NX u q o x:=by intro o x d l;obtain⟨hlt,p⟩:=hW.h o x d;exact⟨Nat.lt_of_lt_of_le hlt h.size,p.mono h.env (h.block o hlt l)⟩
 refine⟨fun b cs B=>⟨?_,(c.g b cs B).2⟩,fun o x d=>?_,c.s⟩
 ·intro x e;unfold PH.over at e;simp only at e;split at e
  ·rename_i y i;cases e;exact (c.g b cs B).1 _ i
  ·split at e
   ·cases e; rfl
   ·rename_i l;rcases h.newG b cs B with J | ⟨y,i⟩ | hl
    ·exact (hW.g b cs J).1 x e
    ·rw[l] at i; cases i
    ·have:=(hW.h b x e).1; omega
 ·unfold PH.over at d;simp only at d;split at d
  ·rename_i y i;cases d;exact c.h o _ i
  ·split at d
   ·rename_i y i;cases d;exact⟨Nat.lt_of_lt_of_le (hW.h o y (F o y i)).1 h.size,trivial⟩
   ·rename_i l;exact keep o x d l
inductive aP where
 | tmp (t:Nat)
 | const (v:PV)
 deriving Inhabited
def aP.ev (F:PF):aP→Option PV
 | .tmp t=>F t
 | .const v=>some v
def aP.evs (F:PF):List aP→Option (List PV)
 | []=>some []
 | x::xs=>match x.ev F,aP.evs F xs with
  | some v,some vs=>some (v::vs)
  | _,_=>none
inductive Sc where
 | int | bool | str
 deriving Inhabited,DecidableEq
inductive POp where
 | mv (x:aP)
 | pick (c a b:aP)
 | bin (op:BinOp) (x y:aP)
 | eqb (neg:Bool) (x y:aP)
 | eqs (neg:Bool) (ks:List Sc) (x y:aP)
 | un (op:UnOp) (x:aP)
 | conv (k:IntKind) (x:aP)
 | same (x:aP)
 | alloc (cells:List PV)
 | box (ro:Bool) (x:aP)
 | build (zero:List PV) (parts:List (Nat × Nat × aP))
 | a6B (ro:Bool) (size len:Nat) (zero:List PV) (parts:List (Nat × aP))
 | load (n:Option Nat) (p:aP)
 | store (n:Nat) (p x:aP)
 | a6I (x:aP)
 | a6Y (off:Nat) (x:aP)
 | field (off:Nat) (n:Option Nat) (x:aP)
 | a6M (size:Nat) (x i:aP)
 | idxA (n size:Nat) (x i:aP)
 | idxV (n size:Nat) (ag:Bool) (x i:aP)
 | a6W (x i:aP)
 | slice (size:Nat) (x:aP) (lo hi mx:Option aP)
 | a6S (x:aP) (lo hi:Option aP)
 | sliceA (n size:Nat) (x:aP) (lo hi mx:Option aP)
 | len (x:aP)
 | a6V (x:aP)
 | a7F (x:aP)
 | lenM (x:aP)
 | isNil (n:Bool) (x:aP)
 | extract (x:aP) (i:Nat)
 | a6D (size bytes:Nat) (zero:List PV) (l c:aP)
 | append (size bytes:Nat) (x y:aP)
 | a6Q (mx:Bool) (x y:aP)
 | mkfn (name:Nat) (captured:List aP)
 | a7B (sh:MSh)
 | lookup (sh:MSh) (zero:PV) (x k:aP) (ok:Bool)
 | a6N (sh:MSh) (x k v:aP)
 | insert (sh:MSh) (x k v:aP)
 | stuck
 | a6J (x:aP)
 | str2bytes (x:aP)
 | call (name:Nat) (args:List aP)
 | a6X (x:aP) (args:List aP)
 deriving Inhabited
structure aU where
 dst:Option Nat
 op:POp
 guard:Option (Nat × Bool)
 deriving Inhabited
inductive aC where
 | skip
 | region (ops:List aU)
 | draw (ops:List (aU × Bool))
 | seq (a b:aC)
 | cond (c:aP) (a b:aC)
 | block (id:Nat) (c:aC)
 | loop (c:aC)
 | exit (id:Nat)
 | ret
 deriving Inhabited
inductive dV where
 | tmp (t:Nat)
 | cell (t:Nat) (n:Option Nat)
 deriving Inhabited
structure aS where
 nparams:Nat
 ntmps:Nat
 body:aC
 res:List dV
 deriving Inhabited
def PV.cells:PV→List PV
 | .agg cs=>cs
 | v=>[v]
def PV.one:PV→Bool
 | .agg _ | .tup _ | .junk | .lit (.agg _) | .lit (.tuple _)=>false
 | _=>true
def setCells (r:List PV) (c:Nat):List PV→List PV
 | []=>r
 | v::vs=>setCells (r.set c v) (c+1) vs
def loadCells (H:PH) (p:PV) (n:Nat):Option (List PV) :=
 match p with
 | .ptr o size i c=>match H o with
  | some (.rows s rs)=>if s=size then match rs[i]? with
    | some r=>if c+n≤r.length then some ((r.drop c).take n) else none
    | none=>none
   else none
  | _=>none
 | .bH cells=>if n≤cells.length then some (cells.take n) else none
 | _=>none
def kZ (op:BinOp) (k:IntKind) (a b:Int):Option PV :=
 match op with
 | .add=>some (.int k (k.wrap (a+b)))
 | .sub=>some (.int k (k.wrap (a-b)))
 | .mul=>some (.int k (k.wrap (a*b)))
 | .quo=>if b=0 then none else some (.int k (k.wrap (a.tdiv b)))
 | .rem=>if b=0 then none else some (.int k (a.tmod b))
 | .and=>some (.int k (k.wrap (BitVec.ofInt k.bits a &&& BitVec.ofInt k.bits b).toNat))
 | .or=>some (.int k (k.wrap (BitVec.ofInt k.bits a ||| BitVec.ofInt k.bits b).toNat))
 | .xor=>some (.int k (k.wrap (BitVec.ofInt k.bits a ^^^ BitVec.ofInt k.bits b).toNat))
 | .andNot=>some (.int k (k.wrap (BitVec.ofInt k.bits a &&& ~~~ BitVec.ofInt k.bits b).toNat))
 | .eql=>some (.bool (a==b))
 | .neq=>some (.bool (a != b))
 | .lss=>some (.bool (decide (a<b)))
 | .leq=>some (.bool (decide (a≤b)))
 | .gtr=>some (.bool (decide (a>b)))
 | .geq=>some (.bool (decide (a≥b)))
 | .shl | .shr=>none
def OG (op:BinOp) (a b:List UInt8):Option PV :=
 match op with
 | .add=>if ((a.length+b.length:Nat):Int)>IntKind.i64.max then none else some (.str (a++b))
 | .eql=>some (.bool (a==b))
 | .neq=>some (.bool !(a==b))
 | .lss=>some (.bool (Op.bytesLess a b))
 | .leq=>some (.bool (Op.bytesLess a b||a==b))
 | .gtr=>some (.bool !(Op.bytesLess a b||a==b))
 | .geq=>some (.bool !(Op.bytesLess a b))
 | _=>none
def shift (op:BinOp) (k:IntKind) (a b:Int):Option PV :=
 if b<0 then none else
 match op with
 | .shl=>some (.int k (k.wrap (a*2 ^ (min b.toNat k.bits))))
 | .shr=>some (.int k (a.fdiv (2 ^ (min b.toNat k.bits))))
 | _=>none
def PV.bin (op:BinOp) (x y:PV):Option PV :=
 match op,x,y with
 | .shl,.int k a,.int _ b=>shift .shl k a b
 | .shr,.int k a,.int _ b=>shift .shr k a b
 | op,.int k a,.int c b=>if k=c then kZ op k a b else none
 | op,.str a,.str b=>OG op a b
 | _,_,_=>none
def PV.eq1:Sc→PV→PV→Option Bool
 | .int,.int k a,.int c b=>if k=c then some (a==b) else none
 | .bool,.bool a,.bool b=>some (a==b)
 | .str,.str a,.str b=>some (a==b)
 | _,_,_=>none
def PV.eqs:List Sc→List PV→List PV→Option Bool
 | [],[],[]=>some true
 | k::c,x::xs,y::ys=>match PV.eq1 k x y with
  | some true=>PV.eqs c xs ys
  | some false=>if xs.length=c.length∧ys.length=c.length then some false else none
  | none=>none
 | _,_,_=>none
def PV.un (op:UnOp):PV→Option PV
 | .int k n=>match op with
  | .neg=>some (.int k (k.wrap (0-n)))
  | .xor=>some (.int k (k.wrap (BitVec.ofInt k.bits (if k.signed then -1 else k.max) ^^^ BitVec.ofInt k.bits n).toNat))
  | _=>none
 | .bool b=>match op with
  | .not=>some (.bool !b)
  | _=>none
 | _=>none
def PV.intOf:PV→Option Int
 | .int _ n=>some n
 | _=>none
def pY (cells:List PV) (F:PF):List (Nat × Nat × aP)→Option (List PV)
 | []=>some cells
 | (c,size,x)::rest=>match x.ev F with
  | some v=>if v.cells.length=size∧c+size≤cells.length∧v.cells.all PV.one then pY (setCells cells c v.cells) F rest else none
  | none=>none
def gT (size:Nat) (rows:List (List PV)) (F:PF):List (Nat × aP)→Option (List (List PV))
 | []=>some rows
 | (i,x)::rest=>match x.ev F with
  | some v=>if v.cells.length=size∧i<rows.length∧v.cells.all PV.one then gT size (rows.set i v.cells) F rest else none
  | none=>none
def dX (H:PH) (size:Nat):PV→Option (List (List PV))
 | .aB=>some []
 | .sl s rows=>if s=size then some rows else none
 | .osl o s c len=>if s=size then match H o with
   | some (.rows s' rs)=>if s'=s∧c+len≤rs.length then some ((rs.drop c).take len) else none
   | _=>none
  else none
 | _=>none
def bnd (F:PF) (d:Int):Option aP→Option Int
 | none=>some d
 | some x=>(x.ev F).bind PV.intOf
def PV.slice (size:Nat) (x:PV) (l h:Int) (mx:Option Int):Option PV :=
 match x with
 | .aB=>if l=0∧h=0∧(mx=none∨mx=some 0) then some .aB else none
 | .sl s rows=>if s=size∧0≤l∧l≤h∧h≤rows.length∧(mx=none∨mx=some h) then some (.sl s ((rows.take h.toNat).drop l.toNat)) else none
 | .osl o s c len=>if s=size∧0≤l∧l≤h∧h≤len∧(mx=none∨mx=some h) then some (.osl o s (c+l.toNat) (h.toNat-l.toNat)) else none
 | _=>none
def PV.FS:PV→Option Bool
 | .aB=>some true
 | .osl _ _ _ _=>some false
 | .sl _ (_::_)=>some false
 | _=>none
def KS.of:PV→Option KS
 | .int k n=>some (.int k n)
 | .bool b=>some (.bool b)
 | .str s=>some (.str s)
 | _=>none
def KS.ofs:List PV→Option (List KS)
 | []=>some []
 | v::vs=>match KS.of v,KS.ofs vs with
  | some k,some c=>some (k::c)
  | _,_=>none
def keyOf (sh:MSh) (v:PV):Option (List KS) :=
 match sh.1,v with
 | true,.agg cs=>(KS.ofs cs).bind fun k=>if k.map KS.sh=sh.2 then some k else none
 | false,v=>(KS.of v).bind fun k=>if [k.sh]=sh.2 then some [k] else none
 | _,_=>none
def chunks (size:Nat):Nat→List PV→List (List PV)
 | 0,_=>[]
 | n+1,cs=>cs.take size::chunks size n (cs.drop size)
def pF:List (List PV)→Option (List UInt8)
 | []=>some []
 | [.int .u8 n]::rest=>(pF rest).map (UInt8.ofNat n.toNat::·)
 | _=>none
def PV.sR:PV→Option PV
 | .aB=>some (.int .i64 0)
 | .sl _ rows=>some (.int .i64 rows.length)
 | .osl _ _ _ n=>some (.int .i64 n)
 | _=>none
noncomputable def aO (op:POp) (F:PF) (H:PH):Option PV :=
 match op with
 | .mv x=>x.ev F
 | .same x=>match x.ev F with
  | some (.str s)=>some (.str s)
  | _=>none
 | .pick c a b=>match c.ev F,a.ev F,b.ev F with
  | some (.bool t),x,y=>if t then x else y
  | _,_,_=>none
 | .bin op x y=>match x.ev F,y.ev F with
  | some a,some b=>PV.bin op a b
  | _,_=>none
 | .eqb neg x y=>match x.ev F,y.ev F with
  | some (.bool a),some (.bool b)=>some (.bool ((a==b) != neg))
  | _,_=>none
 | .eqs neg A x y=>match x.ev F,y.ev F with
  | some (.agg xs),some (.agg ys)=>(PV.eqs A xs ys).map fun b=>.bool (b != neg)
  | _,_=>none
 | .un op x=>match x.ev F with
  | some a=>PV.un op a
  | none=>none
 | .conv k x=>match x.ev F with
  | some (.int _ n)=>some (.int k (k.wrap n))
  | _=>none
 | .box true x=>match x.ev F with
  | some v=>if v.cells.all PV.one then some (.bH v.cells) else none
  | none=>none
 | .build zero parts=>(pY zero F parts).map .agg
 | .a6B true size len zero parts=>if zero.length=size∧len*size≤16777216 then (gT size (a7K len zero) F parts).map (.sl size) else none
 | .load none p=>match p.ev F with
  | some a=>match loadCells H a 1 with
   | some [v]=>some v
   | _=>none
  | none=>none
 | .load (some n) p=>match p.ev F with
  | some a=>(loadCells H a n).map .agg
  | none=>none
 | .a6I x=>match x.ev F with
  | some (.ptr o s i c)=>some (.ptr o s i c)
  | some (.bH cs)=>some (.bH cs)
  | _=>none
 | .a6Y d x=>match x.ev F with
  | some (.ptr o s i c)=>some (.ptr o s i (c+d))
  | some (.bH cs)=>some (.bH (cs.drop d))
  | _=>none
 | .field d n x=>match x.ev F with
  | some (.agg cs)=>match n with
   | none=>cs[d]?
   | some n=>if d+n≤cs.length then some (.agg ((cs.drop d).take n)) else none
  | _=>none
 | .a6M size x i=>match x.ev F,i.ev F with
  | some (.sl s rows),some (.int _ n)=>if s=size∧0≤n then match rows[n.toNat]? with
    | some r=>some (.bH r)
    | none=>none
   else none
  | some (.osl o s d len),some (.int _ n)=>if s=size∧0≤n∧n<len then some (.ptr o s (d+n.toNat) 0) else none
  | _,_=>none
 | .idxA n size x i=>match x.ev F,i.ev F with
  | some (.ptr o s r c),some (.int _ k)=>if 0≤k∧k<n then some (.ptr o s r (c+k.toNat*size)) else none
  | some (.bH cs),some (.int _ k)=>if 0≤k∧k<n then some (.bH (cs.drop (k.toNat*size))) else none
  | _,_=>none
 | .idxV n size u x i=>match x.ev F,i.ev F with
  | some (.agg cs),some (.int _ k)=>if 0≤k∧k<n then
    (if u then (if k.toNat*size+size≤cs.length then some (.agg ((cs.drop (k.toNat*size)).take size)) else none) else cs[k.toNat*size]?)
   else none
  | _,_=>none
 | .a6W x i=>match x.ev F,i.ev F with
  | some (.str s),some (.int _ k)=>if 0≤k then (s[k.toNat]?).map fun b=>PV.int .u8 b.toNat else none
  | _,_=>none
 | .slice size x lo hi mx=>match x.ev F with
  | some v=>match v with
   | .aB=>match bnd F 0 lo,bnd F 0 hi with
    | some l,some h=>match mx with
     | none=>PV.slice size v l h none
     | some m=>(bnd F 0 (some m)).bind fun m=>PV.slice size v l h (some m)
    | _,_=>none
   | .sl s rows=>match bnd F 0 lo,bnd F rows.length hi with
    | some l,some h=>match mx with
     | none=>PV.slice size (.sl s rows) l h none
     | some m=>(bnd F 0 (some m)).bind fun m=>PV.slice size (.sl s rows) l h (some m)
    | _,_=>none
   | .osl o s d len=>match bnd F 0 lo,bnd F len hi with
    | some l,some h=>match mx with
     | none=>PV.slice size (.osl o s d len) l h none
     | some m=>(bnd F 0 (some m)).bind fun m=>PV.slice size (.osl o s d len) l h (some m)
    | _,_=>none
   | _=>none
  | none=>none
 | .a6S x lo hi=>match x.ev F with
  | some (.str s)=>match bnd F 0 lo,bnd F s.length hi with
   | some l,some h=>if 0≤l∧l≤h∧h≤s.length then some (.str ((s.take h.toNat).drop l.toNat)) else none
   | _,_=>none
  | _=>none
 | .sliceA n size x lo hi mx=>match lo,hi,mx with
  | none,none,none=>match x.ev F with
   | some (.bH cs)=>if n*size≤cs.length∧0<size∧n≤maxLen then some (.sl size (chunks size n cs)) else none
   | _=>none
  | _,_,_=>none
 | .len x=>(x.ev F).bind PV.sR
 | .a6V x=>match x.ev F with
  | some (.str s)=>some (.int .i64 s.length)
  | _=>none
 | .lenM x=>match x.ev F with
  | some (.map o)=>match H o with
   | some (.map _ g)=>some (.int .i64 (g.ajF:Nat))
   | _=>none
  | _=>none
 | .a7F x=>match x.ev F with
  | some .aB=>some (.int .i64 0)
  | _=>none
 | .isNil n x=>(x.ev F).bind fun v=>v.FS.map fun b=>.bool (b != n)
 | .extract x i=>match x.ev F with
  | some (.tup vs)=>vs[i]?
  | _=>none
 | .a6Q mx x y=>match x.ev F,y.ev F with
  | some (.int k a),some (.int w b)=>if k=w then some (.int k (if mx then (if a<b then b else a) else (if b<a then b else a))) else none
  | _,_=>none
 | .mkfn name captured=>(aP.evs F captured).map fun cs=>.fn name cs
 | .lookup sh zero x k ok=>match x.ev F,k.ev F with
  | some (.map o),some B=>match H o,keyOf sh B with
   | some (.map q g),some e=>if q=sh then some (if ok then .tup [(g e).getD zero,.bool (g e).isSome] else (g e).getD zero) else none
   | _,_=>none
  | _,_=>none
 | .a6J x=>match x.ev F with
  | some v=>match dX H 1 v with
   | some rows=>(pF rows).map PV.str
   | none=>none
  | none=>none
 | _=>none
def dA (op:POp) (F:PF):Option ((Nat→PV) × cG) :=
 match op with
 | .alloc cells=>some (fun o=>.ptr o cells.length 0 0,.rows cells.length [cells])
 | .box false x=>match x.ev F with
  | some v=>if v.cells.all PV.one then some (fun o=>.ptr o v.cells.length 0 0,.rows v.cells.length [v.cells]) else none
  | none=>none
 | .a6B false size len zero parts=>if zero.length=size∧len*size≤16777216 then
   (gT size (a7K len zero) F parts).map fun rows=>(fun o=>.osl o size 0 len,.rows size rows)
  else none
 | .a6D size bytes zero l c=>match l.ev F,c.ev F with
  | some (.int _ n),some (.int _ m)=>if 0≤n∧n≤m∧m*bytes≤140737488355328∧m≤9223372036854775807∧zero.length=size then
    some (fun o=>.osl o size 0 n.toNat,.rows size (a7K n.toNat zero))
   else none
  | _,_=>none
 | .a7B sh=>some (fun o=>.map o,.map sh (fun _=>none))
 | _=>none
def storeAt (H:PH) (p:PV) (cells:List PV):Option PH :=
 match p with
 | .ptr o size i c=>match H o with
  | some (.rows s rs)=>if s=size∧c+cells.length≤size∧cells.all PV.one then match rs[i]? with
    | some r=>some (H.set o (.rows s (rs.set i (setCells r c cells))))
    | none=>none
   else none
  | _=>none
 | _=>none
def roomFor (n m bytes:Nat):Prop:=n+m≤maxLen∧(n+m)*bytes≤140737488355328
def mP (H:PH) (size bytes:Nat) (x y:PV) (K:PV→PH→Prop):Prop :=
 ∃ src,dX H size y=some src ∧
  match x with
  | .aB=>roomFor 0 src.length bytes∧(src=[]→K .aB H)∧(src≠[]→∀ o,H o=none→K (.osl o size 0 src.length) (H.set o (.rows size src)))
  | .osl o s c len=>s=size∧c=0∧roomFor len src.length bytes∧∃ rs,H o=some (.rows size rs)∧len≤rs.length ∧
    K (.osl o size 0 (len+src.length)) (H.set o (.rows size (rs.take len++src))) ∧
    ∀ o',H o'=none→K (.osl o' size 0 (len+src.length)) (H.set o' (.rows size (rs.take len++src)))
  | _=>False
def cB (op:POp) (F:PF) (H:PH) (K:PV→PH→Prop):Prop :=
 match op with
 | .store n p x=>match p.ev F,x.ev F with
  | some a,some v=>v.cells.length=n∧∃ H',storeAt H a v.cells=some H'∧K .junk H'
  | _,_=>False
 | .append size bytes x y=>match x.ev F,y.ev F with
  | some a,some b=>mP H size bytes a b K
  | _,_=>False
 | .a6N sh x k v=>match x.ev F,k.ev F,v.ev F with
  | some (.map o),some e,some i=>match H o,keyOf sh e with
   | some (.map d g),some c=>d=sh∧K .junk (H.set o (.map sh (g.upd c i)))
   | _,_=>False
  | _,_,_=>False
 | .insert sh x k v=>match x.ev F,k.ev F,v.ev F with
  | some (.map o),some e,some i=>match H o,keyOf sh e with
   | some (.map d g),some c=>d=sh∧g c=none∧K .junk (H.set o (.map sh (g.upd c i)))
   | _,_=>False
  | _,_,_=>False
 | _=>False
def PV.dE (o s:Nat) (rs:List (List PV)):PV→PV
 | .osl q s' c len=>if q=o then (if s'=s∧c+len≤rs.length then .sl s ((rs.drop c).take len) else .junk) else .osl q s' c len
 | v=>v
def PV.sO (o s:Nat) (rs:List (List PV)):PV→PV
 | .agg cs=>.agg (cs.map (PV.dE o s rs))
 | v=>v.dE o s rs
def PV.frz (o s:Nat) (rs:List (List PV)):PV→PV
 | .tup vs=>.tup (vs.map (PV.sO o s rs))
 | v=>v.sO o s rs
def cG.frz (o s:Nat) (rs:List (List PV)):cG→cG
 | .rows s' rs'=>.rows s' (rs'.map fun r=>r.map (PV.dE o s rs))
 | x=>x
def PF.frz (F:PF) (o s:Nat) (rs:List (List PV)):PF:=fun i=>(F i).map (PV.frz o s rs)
def PH.frz (H:PH) (o s:Nat) (rs:List (List PV)):PH :=
 ⟨fun q=>if q=o then none else (H q).map (cG.frz o s rs),by
  obtain⟨n,c⟩:=H.fin;exact⟨n,fun q d=>by simp[c q d]⟩⟩
inductive jD:PF→PH→PF→PH→Prop
 | refl (F:PF) (H:PH):jD F H F H
 | step {F F':PF} {H H':PH} (o:Nat) {s:Nat} {rs:List (List PV)} (ho:H o=some (.rows s rs)) (h:jD (F.frz o s rs) (H.frz o s rs) F' H'):jD F H F' H'
structure Ctx where
 P:Program
 num:Nat→FuncId
inductive eJ (E:Env):List PV→List Value→Prop
 | nil:eJ E [] []
 | cons {p:PV} {v:Value} {ps:List PV} {vs:List Value} (h:aZ E p v) (t:eJ E ps vs):eJ E (p::ps) (v::vs)
def aH (C:Ctx) (name:Nat) (args:List PV) (H:PH) (R:PV→PH→Prop):Prop :=
 (∃ fn,C.P.funcs[C.num name]?=some fn∧fn.body.isSome=true∧(fn.name=="runtime.NumGoroutine")=false) ∧
 ∀ (E:Env) (w:World) (vs:Array Value),E.num=C.num→bM E H w→eJ E args vs.toList →
  Calls C.P (C.num name) vs w fun e d=>∃ v pv c H',e=.returned v∧bM c H' d∧aZ c pv v∧Ext E H w c H' d∧R pv H'
def FG (C:Ctx) (l:Nat) (args:List PV) (H:PH) (R:PV→PH→Prop):Prop :=
 ∀ (E:Env) (w:World) (vs:Array Value),E.num=C.num→bM E H w→eJ E args vs.toList →
  ∃ fn d c body,(Instr.yield l vs).run C.P w=.ok (.round l fn d c body) w∧RoundIn Fence.wide 0 C.P l fn d c body w fun e p=>∃ v pv i H',e=.returned v∧bM i H' p∧aZ i pv v∧Ext E H w i H' p∧R pv H'
def PV.aCQ:PV→Option Nat
 | .lit (.func (.yield l) f c)=>if f=#[]∧c=#[] then some l else none
 | _=>none
abbrev wD (l:Nat):PV:=.lit (.func (.yield l) #[] #[])
inductive kM where
 | normal
 | exit (id:Nat)
 | ret
abbrev bR:=kM→PF→PH→Prop
def PF.put (F:PF) (d:Option Nat) (v:PV):PF :=
 match d with
 | some d=>F.set d v
 | none=>F
def bX (r:Option PV) (d:Option Nat) (K:PF→PH→Prop) (F:PF) (H:PH):Prop:=∃ v,r=some v∧K (F.put d v) H
def mV (r:Option ((Nat→PV) × cG)) (d:Option Nat) (K:PF→PH→Prop) (F:PF) (H:PH):Prop :=
 ∃ c x,r=some (c,x)∧∀ o,H o=none→K (F.put d (c o)) (H.set o x)
def lZ (H c H':PH):Prop:=∀ o x,H' o=some x→c o=none→H o=none
def sF (C:Ctx) (name:Nat) (args:Option (List PV)) (d:Option Nat) (K:PF→PH→Prop) (F:PF) (H:PH):Prop :=
 ∃ vs c R,args=some vs∧c.le H∧aH C name vs c R∧∀ r H',R r H'→lZ H c H'→K (F.put d r) (H.over c H')
def iV (C:Ctx) (name:Nat) (args:List aP) (cs:List PV) (d:Option Nat) (K:PF→PH→Prop) (F:PF) (H:PH):Prop :=
 sF C name ((aP.evs F args).map (·++cs)) d K F H ∨
 ∃ c e,jD F H c e∧sF C name ((aP.evs c args).map (·++cs)) d K c e
def MN (C:Ctx) (l:Nat) (args:Option (List PV)) (d:Option Nat) (K:PF→PH→Prop) (F:PF) (H:PH):Prop :=
 ∃ vs c R,args=some vs∧c.le H∧FG C l vs c R∧∀ r H',R r H'→lZ H c H'→K (F.put d r) (H.over c H')
def ahM (C:Ctx) (l:Nat) (args:List aP) (d:Option Nat) (K:PF→PH→Prop) (F:PF) (H:PH):Prop :=
 MN C l (aP.evs F args) d K F H∨∃ c e,jD F H c e∧MN C l (aP.evs c args) d K c e
def uQ (C:Ctx) (v:Option PV) (args:List aP) (d:Option Nat) (K:PF→PH→Prop) (F:PF) (H:PH):Prop :=
 match v with
 | some (.fn name cs)=>iV C name args cs d K F H
 | some (.lit u)=>∃ l,PV.aCQ (.lit u)=some l∧ahM C l args d K F H
 | _=>False
def POp.gU:POp→Bool
 | .alloc _ | .box false _ | .a6B false .. | .a6D .. | .a7B _=>true
 | _=>false
def POp.eC:POp→Bool
 | .store .. | .append .. | .a6N .. | .insert ..=>true
 | _=>false
def wpOp (C:Ctx) (op:POp) (d:Option Nat) (K:PF→PH→Prop) (F:PF) (H:PH):Prop :=
 match op with
 | .call name args=>iV C name args [] d K F H
 | .a6X x args=>uQ C (x.ev F) args d K F H
 | op=>if op.gU then mV (dA op F) d K F H else if op.eC then cB op F H (fun r H'=>K (F.put d r) H') else bX (aO op F H) d K F H
def wpOps (C:Ctx):List aU→(PF→PH→Prop)→PF→PH→Prop
 | [],K,F,H=>K F H
 | i::rest,K,F,H=>match i.guard with
  | none=>wpOp C i.op i.dst (wpOps C rest K) F H
  | some (t,c)=>match F t with
   | some (.bool b)=>if b=c then wpOp C i.op i.dst (wpOps C rest K) F H else wpOps C rest K (F.put i.dst (.tup [])) H
   | some (.tup [])=>wpOps C rest K (F.put i.dst (.tup [])) H
   | _=>False
def PH.only (H:PH) (D:List Nat):PH :=
 ⟨fun o=>if o∈D then H o else none,by
  obtain⟨n,c⟩:=H.fin;exact⟨n,fun o d=>by simp[c o d]⟩⟩
abbrev Spec:=Nat→List PV→Option (List Nat × (PH→PV→PH→Prop))
inductive Kind where
 | fail
 | calm (f:PH→Option PV)
 | new (r:Option ((Nat→PV) × cG))
 | write (w:PH→(PV→PH→Prop)→Prop)
 | call (name:Nat) (args:Option (List PV))
 | ins (r:Option (Nat × MSh × List KS × PV))
noncomputable def POp.kind (op:POp) (F:PF):Kind :=
 match op with
 | .call name args=>.call name (aP.evs F args)
 | .a6X x args=>match x.ev F with
  | some (.fn name cs)=>.call name ((aP.evs F args).map (·++cs))
  | _=>.fail
 | .insert sh x k v=>.ins (match x.ev F,k.ev F,v.ev F with
  | some (.map o),some d,some e=>(keyOf sh d).map fun c=>(o,sh,c,e)
  | _,_,_=>none)
 | op=>if op.gU then .new (dA op F) else if op.eC then .write (fun H K=>cB op F H K) else .calm (aO op F)
noncomputable def aU.kind (i:aU) (F:PF):Kind :=
 match i.guard with
 | none=>i.op.kind F
 | some (t,c)=>match F t with
  | some (.bool b)=>if b=c then i.op.kind F else .calm (fun _=>some (.tup []))
  | some (.tup [])=>.calm (fun _=>some (.tup []))
  | _=>.fail
def Kind.run (C:Ctx) (Hs:PH) (S:Spec) (st:Bool) (k:Kind) (K:PV→PH→Prop) (H:PH):Prop :=
 match k with
 | .fail=>False
 | .calm f=>∃ v,f (if st then Hs else H)=some v∧K v H
 | .new r=>∃ d x,r=some (d,x)∧∀ o,H o=none→K (d o) (H.set o x)
 | .write w=>w H fun r H'=>Hs.le H'∧K r H'
 | .ins r=>∃ o sh c v g,r=some (o,sh,c,v)∧H o=some (.map sh g)∧g c=none∧Hs o=none∧K .junk (H.set o (.map sh (g.upd c v)))
 | .call name args=>∃ vs D R,args=some vs∧S name vs=some (D,R)∧(∀ o∈D,∃ x,H o=some x)∧aH C name vs (H.only D) (R (H.only D)) ∧
   (∀ G:PH,∃ r H',R (H.only D) r H'∧lZ G (H.only D) H') ∧
   ∀ r H',R (H.only D) r H'→lZ H (H.only D) H'→Hs.le (H.over (H.only D) H')∧K r (H.over (H.only D) H')
def wpD (C:Ctx) (Hs:PH) (S:Spec):List (aU × Bool)→(PF→PH→Prop)→PF→PH→Prop
 | [],K,F,H=>K F H
 | i::rest,K,F,H=>(i.1.kind F).run C Hs S i.2 (fun v H'=>wpD C Hs S rest K (F.put i.1.dst v) H') H
def gE (C:Ctx) (w:bR→PF→PH→Prop) (K:bR):bR
 | .normal,F,H=>w K F H
 | e,F,H=>K e F H
def eX (id:Nat) (K:bR):bR
 | .exit c,F,H=>if c=id then K .normal F H else K (.exit c) F H
 | e,F,H=>K e F H
def fJ {α:Type} (i:α→PF) (Hs:α→PH) (l:α→Prop) (m:α→Nat) (n:Nat) (K:bR):bR
 | .normal,F,H=>∃ a c d,jD F H c d∧l a∧m a<n∧(i a).le c∧(Hs a).le d
 | e,F,H=>K e F H
def aC.wp (C:Ctx):aC→bR→PF→PH→Prop
 | .skip,K,F,H=>K .normal F H
 | .region ops,K,F,H=>wpOps C ops (K .normal) F H
 | .draw ops,K,F,H=>∃ Hs S,PH.le Hs H∧wpD C Hs S ops (K .normal) F H
 | .seq a b,K,F,H=>a.wp C (gE C (b.wp C) K) F H
 | .cond c a b,K,F,H=>match c.ev F with
  | some (.bool t)=>if t then a.wp C K F H else b.wp C K F H
  | _=>False
 | .block id c,K,F,H=>c.wp C (eX id K) F H
 | .loop c,K,F,H=>∃ (α:Type) (d:α→PF) (Hs:α→PH) (e:α→Prop) (m:α→Nat) (i:α) (l:PF) (p:PH),jD F H l p∧e i∧(d i).le l∧(Hs i).le p ∧
   ∀ a,e a→c.wp C (fJ d Hs e m (m a) K) (d a) (Hs a)
 | .exit id,K,F,H=>K (.exit id) F H
 | .ret,K,F,H=>K .ret F H
def dV.ev (F:PF) (H:PH):dV→Option PV
 | .tmp t=>F t
 | .cell t none=>match F t with
  | some p=>match loadCells H p 1 with
   | some [v]=>some v
   | _=>none
  | none=>none
 | .cell t (some k)=>match F t with
  | some p=>(loadCells H p k).map .agg
  | none=>none
def dV.evs (F:PF) (H:PH):List dV→Option (List PV)
 | []=>some []
 | r::rs=>match r.ev F H,dV.evs F H rs with
  | some v,some vs=>some (v::vs)
  | _,_=>none
def bO:List PV→PV
 | [v]=>v
 | vs=>.tup vs
def aV (res:List dV) (R:PV→PH→Prop):bR
 | .exit _,_,_=>False
 | _,F,H=>∃ vs,dV.evs F H res=some vs∧∃ c d H2,jD (PF.nil.set 0 (bO vs)) H c d∧H2.le d∧∃ v,c 0=some v∧R v H2
def PF.args (vs:List PV):PF:=fun i=>vs[i]?
structure Tbl where
 P:Program
 num:Nat→FuncId
 name:FuncId→Option Nat
 ro:List Nat:=[]
def ofValue:Value→Option PV
 | .int k n=>some (.int k n)
 | .bool b=>some (.bool b)
 | .string s=>some (.str s.data.toList)
 | .slice none 0 0=>some .aB
 | .pointer none=>some (.lit (.pointer none))
 | .map none=>some (.lit (.map none))
 | .nilIface=>some (.lit .nilIface)
 | .nilFunc=>some (.lit .nilFunc)
 | _=>none
theorem vC {E:Env} {v:Value} {pv:PV} (h:ofValue v=some pv):aZ E pv v:=by
 unfold ofValue at h;split at h<;>cases h
 ·exact .int _ _
 ·exact .bool _
 ·exact .str _
 ·exact .aB
 all_goals exact .lit _
def ofValues:List Value→Option (List PV)
 | []=>some []
 | v::vs=>match ofValue v,ofValues vs with
  | some p,some ps=>some (p::ps)
  | _,_=>none
namespace Tbl
variable (T:Tbl)
def opd:Operand→Option aP
 | .tmp t=>some (.tmp t)
 | .const v=>(ofValue v).map .const
 | .func f=>match T.name f with
  | some n=>if T.num n=f then some (.const (.fn n [])) else none
  | none=>none
 | .global _=>none
def c7:List Operand→Option (List aP)
 | []=>some []
 | x::xs=>match T.opd x,c7 xs with
  | some p,some ps=>some (p::ps)
  | _,_=>none
def size (t:TypeId):Option Nat:=(T.P.info? t).map (·.size)
def isAgg (t:TypeId):Option Bool :=
 match T.P.underlying t with
 | some (.struct _) | some (.array _ _)=>some true
 | some _=>some false
 | none=>none
def zero (t:TypeId):Option (List PV):=((T.P.info? t).bind (·.zero)).bind fun z=>ofValues z.cells.toList
def scalar (t:TypeId):Option Sc :=
 match T.P.underlying t with
 | some (.int _)=>some .int
 | some .bool=>some .bool
 | some .string=>some .str
 | _=>none
def rJ:Nat→List Field→Option (List Sc)
 | _,[]=>some []
 | k,f::d=>match T.scalar f.type,rJ (k+1) d with
  | some c,some cs=>if f.name≠"_"∧f.offset=k then some (c::cs) else none
  | _,_=>none
def flat (t:TypeId):Option (List Sc) :=
 match T.P.underlying t with
 | some (.struct c)=>if T.P.stoodInHeld t=false∧T.P.eqGuardType T.P.depth t=false then T.rJ 0 c.toList else none
 | _=>none
def yG (t:TypeId):Option KSh :=
 match T.P.underlying t with
 | some (.int k)=>some (.int k)
 | some .bool=>some .bool
 | some .string=>some .str
 | _=>none
def kW:Nat→List Field→Option (List KSh)
 | _,[]=>some []
 | k,f::d=>match T.yG f.type,kW (k+1) d with
  | some c,some cs=>if f.name≠"_"∧f.offset=k then some (c::cs) else none
  | _,_=>none
def lF (t:TypeId):Option MSh :=
 match T.P.underlying t with
 | some (.struct d)=>if T.P.stoodInHeld t=false then (T.kW 0 d.toList).map fun l=>(true,l) else none
 | _=>(T.yG t).map fun c=>(false,[c])
def opt (x:Option Operand):Option (Option aP) :=
 match x with
 | none=>some none
 | some x=>(T.opd x).map some
def place (c:Array Field) (i:Nat):Option (Nat × Nat) :=
 match c[i]? with
 | some f=>(T.size f.type).map (f.offset,·)
 | none=>none
def partsOf (place:Nat→Option (Nat × Nat)):List (Nat × Operand)→Option (List (Nat × Nat × aP))
 | []=>some []
 | (i,x)::rest=>match place i,T.opd x,partsOf place rest with
  | some (c,size),some p,some ps=>some ((c,size,p)::ps)
  | _,_,_=>none
def rT:List (Nat × Operand)→Option (List (Nat × aP))
 | []=>some []
 | (i,x)::rest=>match T.opd x,rT rest with
  | some p,some ps=>some ((i,p)::ps)
  | _,_=>none
def u0 (d:Option Tmp):Bool :=
 match d with
 | some d=>T.ro.contains d
 | none=>false
def call (o:Oper) (c:Call):Option POp :=
 match c.callee with
 | .builtin b=>match b,c.args.toList,c.argTypes.toList with
  | .len,[x],[t]=>match T.P.underlying t with
   | some (.array n _)=>some (.mv (.const (.int .i64 n)))
   | some .string=>(T.opd x).map .a6V
   | some (.slice _)=>(T.opd x).map .len
   | some (.map _ _)=>(T.opd x).map .lenM
   | _=>none
  | .append,[x,y],[t,u]=>match T.P.underlying t,T.P.underlying u with
   | some (.slice e),some (.slice _)=>match T.P.info? e,T.opd x,T.opd y with
    | some i,some a,some b=>if t=u∧i.zero.isSome∧(i.zero.map (·.cells.size))=some i.size∧0<i.size then some (.append i.size i.bytes a b) else none
    | _,_,_=>none
   | _,_=>none
  | .cap,[x],[t]=>match T.P.underlying t with
   | some (.slice _)=>(T.opd x).map .a7F
   | _=>none
  | .max,[x,y],_=>match T.opd x,T.opd y with
   | some a,some b=>some (.a6Q true a b)
   | _,_=>none
  | .min,[x,y],_=>match T.opd x,T.opd y with
   | some a,some b=>some (.a6Q false a b)
   | _,_=>none
  | _,_,_=>none
 | .value (.func f)=>match T.name f,T.c7 c.args.toList with
  | some n,some xs=>if T.num n=f then some (.call n xs) else none
  | _,_=>none
 | .value (.tmp t)=>(T.c7 c.args.toList).map (.a6X (.tmp t))
 | _=>none
def op (o:Oper):Option POp :=
 match o.op with
 | .move x | .assign x=>(T.opd x).map .mv
 | .pick c a b=>match T.opd c,T.opd a,T.opd b with
  | some c,some a,some b=>some (.pick c a b)
  | _,_,_=>none
 | .alloc e=>(T.zero e).map .alloc
 | .box _ x=>(T.opd x).map (.box (T.u0 o.dst))
 | .build t parts=>match T.zero t,T.P.underlying t with
  | some z,some (.struct B)=>if (B.toList.mapM (fun f=>(T.P.info? f.type).map fun i=>(f.offset,i.size))).isSome then
    (T.partsOf (T.place B) parts.toList).map (.build z)
   else none
  | some z,some (.array _ e)=>match T.size e with
   | some s=>(T.partsOf (fun i=>some (i*s,s)) parts.toList).map (.build z)
   | none=>none
  | _,_=>none
 | .buildSlice t len parts=>match T.P.underlying t with
  | some (.slice e)=>match T.size e,T.zero e,T.rT parts.toList with
   | some s,some z,some ps=>if z.length=s∧0<s then some (.a6B (T.u0 o.dst) s len z ps) else none
   | _,_,_=>none
  | _=>none
 | .load t a=>match T.isAgg t,T.size t,T.opd a with
  | some true,some n,some p=>some (.load (some n) p)
  | some false,_,some p=>some (.load none p)
  | _,_,_=>none
 | .store t a x=>match T.size t,T.opd a,T.opd x with
  | some n,some p,some v=>some (.store n p v)
  | _,_,_=>none
 | .nilCheck x=>(T.opd x).map .a6I
 | .binOp b t x y _=>match T.opd x,T.opd y with
  | some p,some q=>match b with
   | .eql=>match T.P.underlying t with
    | some (.int _) | some .string=>some (.bin .eql p q)
    | some .bool=>some (.eqb false p q)
    | some (.struct _)=>(T.flat t).map fun F=>.eqs false F p q
    | some (.slice _)=>match q with
     | .const .aB=>some (.isNil false p)
     | _=>none
    | _=>none
   | .neq=>match T.P.underlying t with
    | some (.int _) | some .string=>some (.bin .neq p q)
    | some .bool=>some (.eqb true p q)
    | some (.struct _)=>(T.flat t).map fun F=>.eqs true F p q
    | some (.slice _)=>match q with
     | .const .aB=>some (.isNil true p)
     | _=>none
    | _=>none
   | b=>some (.bin b p q)
  | _,_=>none
 | .unOp u _ x=>(T.opd x).map (.un u)
 | .convert s d x=>match T.P.underlying s,T.P.underlying d,T.opd x with
  | some (.int _),some (.int k),some p=>some (.conv k p)
  | some .string,some .string,some p=>some (.same p)
  | some (.slice e),some .string,some p=>match T.P.underlying e with
   | some (.int .u8)=>some (.a6J p)
   | _=>none
  | _,_,_=>none
 | .makeFunc (.func f) A captured=>match T.name f,T.c7 captured.toList with
  | some n,some cs=>if T.num n=f∧A.size=0 then some (.mkfn n cs) else none
  | _,_=>none
 | .makeMap t none=>match T.P.underlying t with
  | some (.map k _)=>(T.lF k).map .a7B
  | _=>none
 | .lookup t x k ok=>match T.P.underlying t with
  | some (.map E H)=>match T.lF E,(T.P.info? H).bind (·.zero),T.opd x,T.opd k with
   | some sh,some z,some p,some q=>(ofValue z).map fun z=>.lookup sh z p q ok
   | _,_,_,_=>none
  | _=>none
 | .mapUpdate t x k v=>match T.P.underlying t with
  | some (.map E _)=>match T.lF E,T.opd x,T.opd k,T.opd v with
   | some sh,some p,some q,some r=>some (.a6N sh p q r)
   | _,_,_,_=>none
  | _=>none
 | .insert t x k v=>match T.P.underlying t with
  | some (.map E _)=>match T.lF E,T.opd x,T.opd k,T.opd v with
   | some sh,some p,some q,some r=>some (.insert sh p q r)
   | _,_,_,_=>none
  | _=>none
 | .makeSlice t l c=>match T.P.underlying t with
  | some (.slice e)=>match T.P.info? e,T.zero e,T.opd l,T.opd c with
   | some i,some z,some a,some b=>if z.length=i.size∧0<i.size then some (.a6D i.size i.bytes z a b) else none
   | _,_,_,_=>none
  | _=>none
 | .slice t x lo hi mx=>match T.P.underlying t,T.opd x,T.opt lo,T.opt hi,T.opt mx with
  | some (.slice e),some p,some l,some h,some m=>if mx.isSome=true∧hi.isNone=true then none else (T.size e).map fun s=>.slice s p l h m
  | some .string,some p,some l,some h,some none=>some (.a6S p l h)
  | some (.array n e),some p,some none,some none,some none=>(T.size e).map fun s=>.sliceA n s p none none none
  | _,_,_,_,_=>none
 | .fieldAddr t x f=>match T.P.underlying t,T.opd x with
  | some (.struct B),some p=>match B[f]? with
   | some w=>match T.size w.type with
    | some (_+1)=>some (.a6Y w.offset p)
    | _=>none
   | none=>none
  | _,_=>none
 | .field t x f=>match T.P.underlying t,T.opd x with
  | some (.struct B),some p=>match B[f]? with
   | some w=>match T.isAgg w.type,T.size w.type with
    | some true,some n=>some (.field w.offset (some n) p)
    | some false,_=>some (.field w.offset none p)
    | _,_=>none
   | none=>none
  | _,_=>none
 | .indexAddr t x i=>match T.P.underlying t,T.opd x,T.opd i with
  | some (.slice e),some p,some q=>(T.size e).map fun s=>.a6M s p q
  | some (.array n e),some p,some q=>(T.size e).map fun s=>.idxA n s p q
  | _,_,_=>none
 | .index t x i=>match T.P.underlying t,T.opd x,T.opd i with
  | some (.array n e),some p,some q=>match T.size e,T.isAgg e with
   | some s,some g=>some (.idxV n s g p q)
   | _,_=>none
  | some .string,some p,some q=>some (.a6W p q)
  | _,_,_=>none
 | .extract x i=>(T.opd x).map (.extract · i)
 | .call c=>T.call o c
 | _=>none
def UW (n:Nat) (ops:Array Oper) (o:Oper):Option aU :=
 let p:=(T.op o).getD .stuck
 if o.dst.all (·<n) then
  match o.guard with
  | none=>some ⟨o.dst,p,none⟩
  | some (j,c)=>match (ops[j]?).bind (·.dst) with
   | some t=>some ⟨o.dst,p,some (t,c)⟩
   | none=>none
 else none
def qX (n:Nat) (ops:Array Oper):List Oper→Option (List aU)
 | []=>some []
 | o::os=>match T.UW n ops o,qX n ops os with
  | some i,some c=>some (i::c)
  | _,_=>none
end Tbl
end Go.PM
namespace Go.PM
open Go
structure dL (ds:List Deferred) (n:Nat) (E:Env) (F:PF) (a:Act):Prop where
 size:a.tmps.size=n
 defers:a.defers=ds
 t:∀ i pv,F i=some pv→aZ E pv (a.tmps.getD i undef)
theorem dL.mono {ds:List Deferred} {n:Nat} {E c:Env} (h:E.le c) {F:PF} {a:Act} (r:dL ds n E F a):dL ds n c F a:=⟨r.size,r.defers,fun i pv hi=>(r.t i pv hi).mono h⟩
theorem dL.weaken {ds:List Deferred} {n:Nat} {E:Env} {F c:PF} {a:Act} (r:dL ds n E F a) (h:c.le F):dL ds n E c a:=⟨r.size,r.defers,fun i pv hi=>r.t i pv (h i pv hi)⟩
theorem dL.put {ds:List Deferred} {n:Nat} {E:Env} {F:PF} {a:Act} (r:dL ds n E F a) {d:Option Tmp} (l:d.all (·<n)=true) {pv:PV} {v:Value} (h:aZ E pv v):dL ds n E (F.put d pv) (a.put d v):=by
 cases d with
 | none=>exact r
 | some d =>
  have c:d<n:=by simpa using l
  refine⟨by simp[Act.put,r.size],by simp[Act.put,r.defers],fun i p hi=>?_⟩;simp only[PF.put,PF.set,upd] at hi;split at hi
  ·rename_i e;subst e;cases hi;simp only[Act.put,baZ];rw[Array.getElem?_setIfInBounds];simp[r.size,c,h]
  ·rename_i e;have:=r.t i p hi;simp only[Act.put,baZ] at this ⊢;rw[Array.getElem?_setIfInBounds,if_neg Om];exact this
section
variable {ds:List Deferred} {T:Tbl} {n:Nat} {E:Env} {F:PF} {H:PH} {a:Act} {w:World}
theorem bC {x:Operand} {p:aP} {pv:PV} (c:T.opd x=some p) (d:p.ev F=some pv) (e:dL ds n E F a) (i:E.num=T.num):aZ E pv (a.eval x):=by
 cases x with
 | tmp t =>simp[Tbl.opd] at c;subst c;exact e.t t pv d
 | const v =>simp only[Tbl.opd,a7Q] at c;obtain⟨q,u,rfl⟩:=c;simp[aP.ev] at d;subst d;exact vC u
 | global g=>simp[Tbl.opd] at c
 | func f =>
  simp only[Tbl.opd] at c;split at c
  ·rename_i m y;split at c
   ·rename_i l;cases c;simp[aP.ev] at d;subst d;have:=aZ.fn (E:=E) (name:=m) (captured:=[]) #[] rfl (by intro j pv v h; simp at h);rw[i,l] at this;exact this
   ·cases c
  ·cases c
theorem xG {xs:List Operand}:∀ {ps:List aP} {c:List PV},T.c7 xs=some ps→aP.evs F ps=some c→dL ds n E F a→E.num=T.num→eJ E c (xs.map a.eval):=by
 induction xs with
 | nil =>intro ps c d e _ _;simp[Tbl.c7] at d; subst d;simp[aP.evs] at e; subst e;exact .nil
 | cons x xs B =>
  intro ps c d e q u;simp only[Tbl.c7] at d;split at d
  ·rename_i p J y i;cases d;simp only[aP.evs] at e;split at e
   ·rename_i v vs A l;cases e;exact .cons (bC y A q u) (B i l q u)
   ·cases e
  ·cases d
theorem bM.Ye (hW:bM E H w) {b c:Nat} {u:Value} (h:E.cell b c=some u):w.cell? ⟨b,c,none⟩=some u:=by
 unfold Env.cell at h;cases d:E.G b with
 | none=>simp[d] at h
 | some cs =>obtain⟨-,ty,e,i⟩:=hW.g b cs d;rw[cell_of_row w b c cs ty e i];simpa [d] using h
theorem add_plain (b c i:Nat):(⟨b,c,none⟩:Addr).add i=⟨b,c+i,none⟩:=by unfold Addr.add; split<;>simp_all
theorem nK {c:Addr} (h:c.spot=none):c=⟨c.block,c.off,none⟩:=by cases c; simp_all
theorem oT {pv:PV} {v:Value} (hW:bM E H w) (Y:aZ E pv v) {k:Nat} {cs:List PV} (h:loadCells H pv k=some cs) :
  ∃ b K,v=.pointer (some ⟨b,K,none⟩)∧cs.length=k∧∃ M:List Value,M.length=k∧(∀ u∈M,u.oneCell'=true) ∧
   (∀ (j:Nat) u,M[j]?=some u→w.cell? ⟨b,K+j,none⟩=some u)∧∀ (j:Nat) q u,cs[j]?=some q→M[j]?=some u→aZ E q u:=by
 unfold loadCells at h;split at h
 ·rename_i o size i c;cases Y;split at h
  ·rename_i s rs ho;split at h
   ·rename_i hs;subst hs;split at h
    ·rename_i r Q;split at h
     ·rename_i α;cases h;obtain⟨-,y,ty,hh,γ,X,W,N⟩:=hW.h o _ ho;have B:∀ j,j<k→∃ u,y[i*s+(c+j)]?=some u∧u.oneCell'=true∧aZ E (r.getD (c+j) .junk) u:=by intro j V;refine N i (c+j) _ ?_;simp only[at2,Q,baY,a7Z];rw[a7U Om];rfl
      refine⟨o,i*s+c,rfl,by simp; omega,?_⟩;refine⟨(a7H k).map fun j=>(y[i*s+(c+j)]?).getD undef,by simp,?_,?_,?_⟩
      ·intro u l;simp only[a8J,a8K] at l;obtain⟨j,V,rfl⟩:=l;obtain⟨u,A,Z,-⟩:=B j V;simp[A,Z]
      ·intro j u l;simp only[a8F,a7Q] at l;obtain⟨S,d,rfl⟩:=l;have e:j<k:=by
        rcases a8D j k with h | h
        ·exact h
        ·rw[a8X (by simpa using h)] at d; cases d
       rw[List.getElem?_range e] at d;cases d;obtain⟨u,A,-,-⟩:=B j e;rw[cell_of_row w o _ y ty (0,0) hh,a9R,A];rfl
      ·intro j q u J l;simp only[a8F,a7Q] at l;obtain⟨S,d,rfl⟩:=l;have e:j<k:=by
        rcases a8D j k with h | h
        ·exact h
        ·rw[a8X (by simpa using h)] at d; cases d
       rw[List.getElem?_range e] at d;cases d;obtain⟨u,A,-,h3⟩:=B j e;have O:r.getD (c+j) .junk=q:=by rw[baU,if_pos e,List.getElem?_drop] at J;simp[J]
       rw[← O,A];exact h3
     ·cases h
    ·cases h
   ·cases h
  ·cases h
 ·rename_i cells;cases Y with
  | bH u R N A Q =>
  rename_i U;split at h
  ·rename_i β;cases h;refine⟨U.block,U.off,by rw[← nK R],by simp; omega,(a7H k).map u,by simp,?_,?_,?_⟩
   ·intro x p;simp only[a8J] at p;obtain⟨j,-,rfl⟩:=p;exact A j
   ·intro j x p;simp only[a8F,a7Q] at p;obtain⟨S,d,rfl⟩:=p;have e:j<k:=by
     rcases a8D j k with h | h
     ·exact h
     ·rw[a8X (by simpa using h)] at d; cases d
    rw[List.getElem?_range e] at d;cases d;exact hW.Ye (N j _ (a7U Om))
   ·intro j q x J p;simp only[a8F,a7Q] at p;obtain⟨S,d,rfl⟩:=p;have e:j<k:=by
     rcases a8D j k with h | h
     ·exact h
     ·rw[a8X (by simpa using h)] at d; cases d
    rw[List.getElem?_range e] at d;cases d;rw[baU,if_pos e] at J;exact Q j q J
  ·cases h
 ·cases h
theorem arE {op : BinOp} {px py pv : PV} {x y : Value} (hx : aZ E px x) (hy : aZ E py y) (h : PV.bin op px py = some pv) (t : TypeId) (ox oy : Operand) :
    ∃ v, (do eqGuard op t ox oy x y; binOp op t x y : Sem Value).run T.P w = .ok v w ∧ aZ E pv v := by
  unfold PV.bin at h;split at h
  · cases hx; cases hy
    unfold shift at h;split at h
    · cases h
    · rename_i hb
      cases h;exact ⟨_, by simp [eqGuard, binOp, Op.shift, hb], .int _ _⟩
  · cases hx; cases hy
    unfold shift at h;split at h
    · cases h
    · rename_i hb
      cases h;exact ⟨_, by simp [eqGuard, binOp, Op.shift, hb], .int _ _⟩
  · rename_i op' k a k' b n1 n2
    cases hx; cases hy;split at h
    · rename_i hk
      subst hk;cases op <;> simp only [kZ] at h <;>
        first
          | (cases h; refine ⟨_, ?_, aZ.int _ _⟩; simp [eqGuard, binOp, Op.intArith, Op.intBits]; done)
          | (cases h; refine ⟨_, ?_, aZ.bool _⟩; simp [eqGuard, binOp, Op.intCmp]; done)
          | (split at h
             · cases h
             · rename_i hb
               cases h;refine ⟨_, ?_, aZ.int _ _⟩;simp [eqGuard, binOp, Op.intDiv, hb])
          | cases h
    · cases h
  · rename_i op' a b
    cases hx with
    | str s =>
    cases hy with
    | str s' =>
    cases op <;> simp only [OG] at h <;>
      first
        | (cases h; refine ⟨_, ?_, aZ.bool _⟩; simp [eqGuard, binOp, Op.stringOp, ByteArray.toList_eq]; done)
        | (split at h
           · cases h
           · rename_i hb
             cases h;refine ⟨.string (s ++ s'), ?_, ?_⟩
             · have hb' : ¬ (((s.size + s'.size : Nat) : Int) > IntKind.i64.max) := by
                 intro hh;apply hb;have e1 : s.data.toList.length = s.size := by rw [baN]; rfl
                 have e2 : s'.data.toList.length = s'.size := by rw [baN]; rfl
                 rw [e1, e2];exact hh
               have e1 : Op.stringOp .add s s' = pure (.string (s ++ s')) := by unfold Op.stringOp; exact if_neg hb'
               have e2 : binOp .add t (.string s) (.string s') = pure (.string (s ++ s')) := by unfold binOp; exact e1
               simp [eqGuard, e2]
             · have e : s.data.toList ++ s'.data.toList = (s ++ s').data.toList := by rw [ByteArray.data_append, Array.toList_append]
               rw [e];exact .str _)
        | cases h
  · cases h
theorem aMQ {u:UnOp} {d pv:PV} {x:Value} (c:aZ E d x) (h:PV.un u d=some pv):∃ v,(Op.unary u x).run T.P w=.ok v w∧aZ E pv v:=by
 unfold PV.un at h;split at h
 ·cases c;split at h
  ·cases h; exact⟨_,by simp[Op.unary,Op.intArith],.int _ _⟩
  ·cases h; exact⟨_,by simp[Op.unary,Op.intBits],.int _ _⟩
  ·cases h
 ·cases c;split at h
  ·cases h; exact⟨_,by simp[Op.unary],.bool _⟩
  ·cases h
 ·cases h
end
open Go Go.RowKit
def Yields (P:Program) (E:Env) (H:PH) (w:World) (s:Sem Value) (pv:PV):Prop :=
 ∃ v d c,s.run P w=.ok v d∧aZ c pv v∧bM c H d∧Ext E H w c H d
theorem Yields.same {P:Program} {E:Env} {H:PH} {w:World} {s:Sem Value} {pv:PV} {v:Value} (hW:bM E H w) (h:s.run P w=.ok v w) (r:aZ E pv v):Yields P E H w s pv :=
 ⟨v,w,E,h,r,hW,.refl E H w⟩
def Env.add (E:Env) (b:Nat) (cs:Array Value):Env:=⟨upd E.G b (some cs),upd E.sz b (some cs.size),E.num⟩
section
variable {T:Tbl} {n:Nat} {E:Env} {F:PF} {H:PH} {a:Act} {w:World}
theorem bM.akJ (hW:bM E H w) {b:Nat} {cs:Array Value} (h:E.G b=some cs):b<w.heap.size:=by
 obtain⟨-,ty,d,c⟩:=hW.g b cs h;exact (baQ.1 c).1
theorem bM.Si (hW:bM E H w) {b n:Nat} (h:E.sz b=some n):b<w.heap.size:=by
 obtain⟨c,ty,e,d,-⟩:=hW.s b n h;exact (baQ.1 d).1
theorem bM.akZ (hW:bM E H w):H w.heap.size=none:=by
 cases h:H w.heap.size with
 | none=>rfl
 | some x=>have:=(hW.h _ x h).1; omega
theorem Env.aVQ (hW:bM E H w) (cs:Array Value):E.le (E.add w.heap.size cs):=by
 refine⟨fun b ds h=>?_,fun b m h=>?_,rfl⟩
 ·have:=hW.akJ h;simp only[Env.add];rw[TO _ _ Om];exact h
 ·have:=hW.Si h;simp only[Env.add];rw[TO _ _ Om];exact h
theorem bM.aNO (hW:bM E H w) (cs:Array Value) (ty:TypeId):bM (E.add w.heap.size cs) H (w.alloc (.cells cs ty))∧Ext E H w (E.add w.heap.size cs) H (w.alloc (.cells cs ty)):=by
 have l:=Env.aVQ hW cs;refine⟨⟨fun b ds h=>?_,fun o x h=>?_,fun o m h=>?_⟩,⟨l,rfl,rfl,rfl,by simp,fun b y _=>Below.heap_alloc w _ b y,fun o x h=>.inl ⟨x,h⟩,fun b ds h=>?_⟩⟩
 ·simp only[Env.add,upd] at h;split at h
  ·rename_i e;cases h;subst e;exact⟨fun x u=>by (rw[hW.akZ] at u; cases u),ty,(0,0),heap_alloc_new w _⟩
  ·obtain⟨d,c,q,i⟩:=hW.g b ds h;exact⟨d,c,q,(Below.heap_alloc w _ b (hW.akJ h)).trans i⟩
 ·obtain⟨d,i⟩:=hW.h o x h;exact⟨by simp; omega,i.mono l (Below.heap_alloc w _ o d)⟩
 ·simp only[Env.add,upd] at h;split at h
  ·rename_i e;cases h;subst e;exact⟨cs,ty,(0,0),heap_alloc_new w _,rfl⟩
  ·obtain⟨p,c,q,d,i⟩:=hW.s o m h;exact⟨p,c,q,(Below.heap_alloc w _ o (hW.Si h)).trans d,i⟩
 ·simp only[Env.add,upd] at h;split at h
  ·rename_i e; exact .inr (.inr Om)
  ·exact .inl h
theorem amW {pv:PV} {v:Value} (h:aZ E pv v) (c:pv.one=true):v.oneCell'=true:=by
 cases h with
 | lit v=>cases v<;>first | rfl | (simp[PV.one] at c)
 | junk v=>simp[PV.one] at c
 | agg vs=>simp[PV.one] at c
 | tup vs=>simp[PV.one] at c
 | _=>rfl
theorem vL {pv:PV} {v:Value} (h:aZ E pv v) (i:pv.cells.all PV.one=true) :
  v.cells.size=pv.cells.length∧(∀ u∈v.cells.toList,u.oneCell'=true)∧∀ (j:Nat) q u,pv.cells[j]?=some q→v.cells[j]?=some u→aZ E q u:=by
 by_cases c:∃ cs,pv=.agg cs
 ·obtain⟨cs,rfl⟩:=c;cases h with
  | agg vs x d y=>exact⟨x,d,y⟩
 ·have p:pv.cells=[pv]:=by cases pv<;>first | rfl | (exact absurd ⟨_,rfl⟩ c)
  rw[p] at i ⊢;have d:v.oneCell'=true:=amW h (by simpa using i);have A:v.cells=#[v]:=by cases v<;>first | rfl | (simp[Value.oneCell'] at d)
  rw[A];refine⟨rfl,by simpa using d,fun j q u e l=>?_⟩;cases j with
  | zero=>simp at e l; subst e; subst l; exact h
  | succ j=>simp at e
theorem zf {c:Sc} {p q:PV} {x y:Value} (u:aZ E p x) (A:aZ E q y) {b:Bool} (h:PV.eq1 c p q=some b) {t:TypeId} (i:T.scalar t=some c) (d:Nat) :
  (Op.equalIn (d+1) t x y).run T.P w=.ok b w:=by
 unfold Tbl.scalar at i;unfold PV.eq1 at h;split at h
 ·cases u; cases A;split at h
  ·rename_i e;subst e;cases h;split at i<;>cases i;rename_i k2 l;exact run_equalIn_int w d t _ k2 _ _ l
  ·cases h
 ·cases u; cases A; cases h;split at i<;>cases i;rename_i l;exact run_equalIn_bool w d t _ _ l
 ·cases u with
  | str s =>
  cases A with
  | str s' =>
  cases h;split at i<;>cases i;rename_i l;rw[run_equalIn_string w d t s s' l,ByteArray.toList_eq,ByteArray.toList_eq]
 ·cases h
theorem KI {t:TypeId} {c:Sc} (e:T.scalar t=some c) (cs:Array Value) (k:Nat) (v:Value) (i:cs[k]?=some v):(part t cs k).run T.P w=.ok v w:=by
 have d:(isAgg t).run T.P w=.ok false w:=by unfold Tbl.scalar at e;split at e<;>cases e<;>(rename_i l; simp[isAgg,run_underlying l])
 simp[part,d,i]
theorem PK (d:Nat) (vs l:Array Value):∀ (p:List Field) (B:List Sc) (k:Nat) (xs ys:List PV) (b:Bool),T.rJ k p=some B→PV.eqs B xs ys=some b →
  (∀ (j:Nat) q u,xs[j]?=some q→vs[k+j]?=some u→aZ E q u)→(∀ (j:Nat) q u,ys[j]?=some q→l[k+j]?=some u→aZ E q u) →
  vs.size=k+xs.length→l.size=k+ys.length→(Op.eqFields (d+1) vs l p).run T.P w=.ok b w
 | [],B,k,xs,ys,b,i,e,M,N,O,Q=>by simp[Tbl.rJ] at i;subst i;cases xs<;>cases ys<;>simp[PV.eqs] at e;subst e;simp[Op.eqFields]
 | f::p,B,k,xs,ys,b,i,e,M,N,O,Q=>by
  simp only[Tbl.rJ] at i;split at i
  ·rename_i c cs A K;split at i
   ·rename_i R;cases i;cases xs with
    | nil=>simp[PV.eqs] at e
    | cons x xs =>
    cases ys with
    | nil=>simp[PV.eqs] at e
    | cons y ys =>
    simp only[PV.eqs] at e;simp only[a8Y] at O Q;have W:vs[k]?=some vs[k]:=baT Om;have V:l[k]?=some l[k]:=baT Om;have S:aZ E x vs[k]:=M 0 x _ rfl (by simp);have U:aZ E y l[k]:=N 0 y _ rfl (by simp);simp only[Op.eqFields];rw[if_pos R.1];simp only[Sem.run_bind,R.2,KI A vs k _ W,KI A l k _ V,Result.andThen_ok];split at e
    ·rename_i J;rw[zf S U J A d];simp only[Result.andThen_ok,a7L,baR,if_false];refine PK d vs l p cs (k+1) xs ys b K e (fun j q u a c=>M (j+1) q u (by simpa using a) (by rw[← c]; congr 1; omega)) (fun j q u a c=>N (j+1) q u (by simpa using a) (by rw[← c]; congr 1; omega)) Om Om
    ·rename_i J;rw[zf S U J A d];simp only[Result.andThen_ok,a7Y,if_true,Sem.run_pure];split at e
     ·cases e; rfl
     ·cases e
    ·cases e
   ·cases i
  ·cases i
theorem asC (neg:Bool) (a b:Bool) {t:TypeId} (d e:Operand) (c:T.P.underlying t=some .bool) :
  (do eqGuard (if neg then .neq else .eql) t d e (.bool a) (.bool b); binOp (if neg then .neq else .eql) t (.bool a) (.bool b):Sem Value).run T.P w=.ok (.bool ((a==b) != neg)) w:=by
 cases neg
 ·simp[eqGuard,run_eql_bool w t a b c]
 ·simp[eqGuard,run_neq_bool w t a b c]
theorem V3 (neg:Bool) {pv:PV} {v:Value} (B:aZ E pv v) {b:Bool} (i:pv.FS=some b) {t e:TypeId} (q u:Operand) (p:T.P.underlying t=some (.slice e)) :
  (do eqGuard (if neg then .neq else .eql) t q u v (.slice none 0 0); binOp (if neg then .neq else .eql) t v (.slice none 0 0):Sem Value).run T.P w=.ok (.bool (b != neg)) w:=by
 have d:∀ (a:Option Addr) (l c:Nat),b=a.isNone→v=.slice a l c→(do eqGuard (if neg then .neq else .eql) t q u v (.slice none 0 0); binOp (if neg then .neq else .eql) t v (.slice none 0 0):Sem Value).run T.P w=.ok (.bool (b != neg)) w:=by
  intro a l c x y;subst x y;cases neg
  ·simp only[baR,if_false,binOp];simp[eqGuard,run_equal_slice_nil w t e a l c p]
  ·simp only[if_true,binOp];simp[eqGuard,run_equal_slice_nil w t e a l c p]
 cases B<;>simp only[PV.FS] at i<;>try cases i
 ·exact d _ _ _ rfl rfl
 ·rename_i rows _ _ _ _ _ _ A _ _;cases rows with
  | nil=>cases i
  | cons r rs =>cases i;obtain⟨J,rfl,-⟩:=A (by simp);exact d _ _ _ rfl rfl
 ·exact d _ _ _ rfl rfl
theorem ajX (neg:Bool) {J:List Sc} {xs ys:List PV} {x y:Value} (W:aZ E (.agg xs) x) (X:aZ E (.agg ys) y) {b:Bool} (Q:PV.eqs J xs ys=some b) {t:TypeId} (K M:Operand)
  (d:T.flat t=some J):(do eqGuard (if neg then .neq else .eql) t K M x y; binOp (if neg then .neq else .eql) t x y:Sem Value).run T.P w=.ok (.bool (b != neg)) w:=by
 cases W with
 | agg vs S Y V =>
 cases X with
 | agg i A U B =>
 unfold Tbl.flat at d;split at d
 ·rename_i N O;split at d
  ·rename_i p;have e:T.P.fieldsOf t=N:=by simp[Program.fieldsOf,O]
   have R:=PK (w:=w) 9998 vs i N.toList J 0 xs ys b d Q (fun j q u a c=>V j q u a (by simpa using c)) (fun j q u a c=>B j q u a (by simpa using c)) (by simpa using S) (by simpa using A);have l:=run_equalIn_struct w 9999 t vs i (by rw[e]; exact O) p.1;rw[e,R] at l;cases neg
   ·simp[run_eqGuard_agg w .eql t K M vs i p.2,run_eql_struct,l]
   ·simp[run_eqGuard_agg w .neq t K M vs i p.2,run_neq_struct,l]
  ·cases d
 ·cases d
end
open Go Go.RowKit
def mW (E:Env) (cs:List PV) (vs:Array Value):Prop :=
 vs.size=cs.length∧(∀ v∈vs.toList,v.oneCell'=true)∧∀ (j:Nat) pv v,cs[j]?=some pv→vs[j]?=some v→aZ E pv v
def dj (vs:Array Value) (c:Nat):List Value→Array Value
 | []=>vs
 | u::d=>dj (vs.setIfInBounds c u) (c+1) d
theorem LE (c:Nat):∀ (d:List Value) (k:Nat) (vs:Array Value),(d.zipIdx k).foldl (fun cs (x:Value × Nat)=>cs.setIfInBounds (c+x.2) x.1) vs=dj vs (c+k) d
 | [],_,_=>rfl
 | u::d,k,vs=>by simp only[List.zipIdx_cons,List.foldl_cons,dj];rw[LE c d (k+1)];rfl
theorem BW:∀ (ps:List PV) (c:Nat) (r:List PV),(setCells r c ps).length=r.length
 | [],_,_=>rfl
 | p::ps,c,r=>by simp[setCells,BW ps]
theorem mW.a3O {E:Env} {cs:List PV} {vs:Array Value} (h:mW E cs vs) {c:Nat} {p:PV} {u:Value} (r:aZ E p u) (l:u.oneCell'=true):mW E (cs.set c p) (vs.setIfInBounds c u):=by
 obtain⟨q,x,y⟩:=h;refine⟨by simp[q],fun v d=>?_,fun j pv v i d=>?_⟩
 ·simp only[Array.toList_setIfInBounds] at d;rcases List.mem_or_eq_of_mem_set d with d | rfl
  ·exact x v d
  ·exact l
 ·rw[List.getElem?_set] at i;rw[Array.getElem?_setIfInBounds] at d;split at i
  ·rename_i e;subst e;rw[if_pos rfl] at d;split at i
   ·rename_i A;rw[if_pos Om] at d;cases i; cases d;exact r
   ·cases i
  ·rename_i e;rw[if_neg e] at d;exact y j pv v i d
theorem mW.setCells {E:Env}:∀ (ps:List PV) (d:List Value) (c:Nat) (cs:List PV) (vs:Array Value),mW E cs vs→d.length=ps.length→(∀ u∈d,u.oneCell'=true) →
  (∀ (j:Nat) p u,ps[j]?=some p→d[j]?=some u→aZ E p u)→mW E (setCells cs c ps) (dj vs c d)
 | [],[],_,_,_,h,_,_,_=>h
 | p::ps,u::d,c,cs,vs,h,e,i,l=>by simp only[PM.setCells,dj];exact mW.setCells ps d (c+1) _ _ (h.a3O (l 0 p u rfl rfl) (i u (by simp))) (by simpa using e) (fun x y=>i x (by simp[y])) (fun j q x a b=>l (j+1) q x (by simpa using a) (by simpa using b))
 | [],u::d,_,_,_,_,e,_,_=>by simp at e
 | p::ps,[],_,_,_,_,e,_,_=>by simp at e
theorem RU {E:Env}:∀ {vs:List Value} {ps:List PV},ofValues vs=some ps→ps.length=vs.length∧∀ (j:Nat) p v,ps[j]?=some p→vs[j]?=some v→aZ E p v
 | [],ps,h=>by simp[ofValues] at h; subst h; simp
 | v::vs,ps,h=>by
  simp only[ofValues] at h;split at h
  ·rename_i p l e i;cases h;obtain⟨c,d⟩:=RU (E:=E) i;refine⟨by simp[c],fun j q u a b=>?_⟩;cases j with
   | zero=>simp at a b; subst a; subst b; exact vC e
   | succ j=>exact d j q u (by simpa using a) (by simpa using b)
  ·cases h
theorem RT:∀ {vs:List Value} {ps:List PV},ofValues vs=some ps→∀ v∈vs,v.oneCell'=true
 | [],_,_,v,hv=>by simp at hv
 | u::vs,ps,h,v,hv=>by
  simp only[ofValues] at h;split at h
  ·rename_i p e c d;rcases a7T.1 hv with rfl | hv
   ·unfold ofValue at c;split at c<;>first | rfl | cases c
   ·exact RT d v hv
  ·cases h
section
variable {ds:List Deferred} {T:Tbl} {n:Nat} {E:Env} {F:PF} {H:PH} {a:Act} {w:World}
theorem MP {t:TypeId} {z:List PV} (h:T.zero t=some z):∃ i c,T.P.info? t=some i∧i.zero=some c∧mW E z c.cells:=by
 unfold Tbl.zero at h;cases hi:T.P.info? t with
 | none=>simp[hi] at h
 | some i =>
  cases d:i.zero with
  | none=>simp[hi,d] at h
  | some c =>simp only[hi,d,baY] at h;obtain⟨e,l⟩:=RU (E:=E) h;exact⟨i,c,rfl,d,by simpa using e.symm,RT h,fun j p v a b=>l j p v a (by simpa using b)⟩
theorem HQ {place:Nat→Option (Nat × Nat)} (J:dL ds n E F a) (K:E.num=T.num):∀ (parts:List (Nat × Operand)) (pl:List (Nat × Nat × aP)) (cs out:List PV) (vs:Array Value),
  T.partsOf place parts=some pl→pY cs F pl=some out→mW E cs vs→∃ y,Instr.fill place vs (parts.map fun (i,x)=>(i,a.eval x))=some y∧mW E out y
 | [],pl,cs,out,vs,e,c,l=>by simp[Tbl.partsOf] at e; subst e;simp[pY] at c; subst c;exact⟨vs,rfl,l⟩
 | (i,x)::rest,pl,cs,out,vs,e,c,l=>by
  simp only[Tbl.partsOf] at e;split at e
  ·rename_i d size p ps Q V A;cases e;simp only[pY] at c;split at c
   ·rename_i v U;split at c
    ·rename_i O;obtain⟨B,M,N⟩:=vL (bC V U J K) O.2.2;obtain⟨y,g1,g2⟩:=HQ J K rest ps _ out _ A c (mW.setCells v.cells (a.eval x).cells.toList d cs vs l (by simpa using B) M (fun j q u R S=>N j q u R (by simpa using S)));refine⟨y,?_,g2⟩;simp only[a8U,Instr.fill,Q];rw[if_neg (by simp; rw[B,l.1]; omega)];have W:Array.foldl (fun (cs:Array Value) (x:Value × Nat)=>cs.setIfInBounds (d+x.2) x.1) vs (a.eval x).cells.zipIdx=dj vs d (a.eval x).cells.toList:=by rw[← Array.foldl_toList,Array.toList_zipIdx];exact LE d _ 0 vs
     exact W ▸ g1
    ·cases c
   ·cases c
  ·cases e
theorem Rb (d:Array Field) (c:List (Nat × Nat)) (h:d.toList.mapM (fun f=>(T.P.info? f.type).map fun i=>(f.offset,i.size))=some c) (i:Nat) :
  c[i]?=T.place d i:=by
 have e:∀ (l:List Field) (ps:List (Nat × Nat)) (i:Nat),l.mapM (fun f=>(T.P.info? f.type).map fun i=>(f.offset,i.size))=some ps →
   ps[i]?=match l[i]? with | some f=>(T.size f.type).map (f.offset,·) | none=>none:=by
  intro l
  induction l with
  | nil=>intro ps i h; simp at h; subst h; simp
  | cons f l x =>
   intro ps i h;simp only[List.mapM_cons,Option.bind_eq_bind,Option.pure_def,baX] at h;obtain⟨p,q,y,u,h⟩:=h;cases h;cases i with
   | zero =>simp only[List.getElem?_cons_zero,Tbl.size];rw[← q];cases T.P.info? f.type<;>rfl
   | succ i=>simpa using x y i u
 have:=e d.toList c i h;rw[this,Array.getElem?_toList];unfold Tbl.place;cases d[i]?<;>rfl
end
open Go Go.RowKit
section
variable {ds:List Deferred} {T:Tbl} {n:Nat} {E:Env} {F:PF} {H:PH} {a:Act} {w:World}
theorem VX {t:TypeId} {parts:Array (Nat × Operand)} {z:List PV} {pl:List (Nat × Nat × aP)} {out:List PV} (V:T.zero t=some z)
  (U:(∃ u:Array Field,T.P.underlying t=some (.struct u)∧(u.toList.mapM (fun f=>(T.P.info? f.type).map fun i=>(f.offset,i.size))).isSome=true∧T.partsOf (T.place u) parts.toList=some pl) ∨
   (∃ k e s,T.P.underlying t=some (.array k e)∧T.size e=some s∧T.partsOf (fun i=>some (i*s,s)) parts.toList=some pl))
  (R:pY z F pl=some out) (O:dL ds n E F a) (Q:E.num=T.num) :
  ∃ v,(Instr.build t (parts.map fun (i,x)=>(i,a.eval x))).run T.P w=.ok v w∧aZ E (.agg out) v:=by
 obtain⟨X,Y,y,A,J⟩:=MP (E:=E) V;rcases U with ⟨u,N,S,p⟩ | ⟨k,e,s,N,hs,p⟩
 ·obtain⟨c,B⟩:=Option.isSome_iff_exists.1 S;obtain⟨q,K,d⟩:=HQ O Q _ _ _ _ _ p R J;refine⟨.agg q,run_build w t _ q ?_,.agg q d.1 d.2.1 d.2.2⟩;simp only[Program.built,y,N,A,B];have M:(fun (x:Nat)=>c.toArray[x]?)=T.place u:=by funext i;rw[List.getElem?_toArray];exact Rb u c B i
  simp only[Array.toList_map];rw[M];exact K
 ·obtain⟨q,K,d⟩:=HQ O Q _ _ _ _ _ p R J;refine⟨.agg q,run_build w t _ q ?_,.agg q d.1 d.2.1 d.2.2⟩;unfold Tbl.size at hs;cases l:T.P.info? e with
  | none=>simp[l] at hs
  | some W =>simp[l] at hs;subst hs;simp only[Program.built,y,N,A,l,Array.toList_map];exact K
theorem Du {t:TypeId} {s:Nat} (h:T.size t=some s):∃ i,T.P.info? t=some i∧i.size=s:=by
 unfold Tbl.size at h;cases hi:T.P.info? t with
 | none=>simp[hi] at h
 | some i=>exact⟨i,rfl,by simpa [hi] using h⟩
theorem jK {t:TypeId} {s:Nat} (h:T.size t=some s):(sizeOf t).run T.P w=.ok s w:=by
 obtain⟨i,hi,rfl⟩:=Du h;simp[sizeOf,typeInfo,hi]
theorem xJ {t:TypeId} {b:Bool} (h:T.isAgg t=some b):(isAgg t).run T.P w=.ok b w:=by
 unfold Tbl.isAgg at h;split at h
 ·rename_i c; cases h; simp[isAgg,run_underlying c]
 ·rename_i c; cases h; simp[isAgg,run_underlying c]
 ·rename_i d e i c;cases h;cases d<;>first
   | exact (e _ rfl).elim
   | exact (i _ _ rfl).elim
   | (simp[isAgg,run_underlying c]; done)
 ·cases h
theorem j8 {t:TypeId} {pv c:PV} {v:Value} (l:T.isAgg t=some false) (hW:bM E H w) (p:aZ E pv v) (h:loadCells H pv 1=some [c]) :
  ∃ u,(Instr.loadAt t v).run T.P w=.ok u w∧aZ E c u:=by
 obtain⟨b,q,rfl,-,x,e,y,d,i⟩:=oT hW p h
 match x,e with
 | [u],_ =>refine⟨u,?_,i 0 c u rfl rfl⟩;have:=d 0 u rfl;simp only[a9M] at this;simp[Instr.loadAt,Instr.sureAddr,loadVar,xJ l,this]
theorem WI {t:TypeId} {k:Nat} {pv:PV} {cs:List PV} {v:Value} (K:T.isAgg t=some true) (J:T.size t=some k) (hW:bM E H w) (M:aZ E pv v) (h:loadCells H pv k=some cs) :
  ∃ u,(Instr.loadAt t v).run T.P w=.ok u w∧aZ E (.agg cs) u:=by
 obtain⟨b,i,rfl,d,l,p,x,y,B⟩:=oT hW M h;have c:=run_loadCells_list (P:=T.P) w ⟨b,i,none⟩ l (fun j u e=>by rw[add_plain]; exact y j u e);refine⟨.agg l.toArray,?_,.agg l.toArray (by simp[p,d]) (by simpa using x) (fun j q u A e=>B j q u A (by simpa using e))⟩;rw[p] at c;simp[Instr.loadAt,Instr.sureAddr,loadVar,xJ K,jK J,c]
end
open Go Go.RowKit
section
variable {ds:List Deferred} {T:Tbl} {n:Nat} {E:Env} {F:PF} {H:PH} {a:Act} {w:World}
theorem i6 {t e:TypeId} (h:T.P.underlying t=some (.slice e)):T.P.elem t=e∧T.P.underlying t=some (.slice (T.P.elem t)):=by
 have:T.P.elem t=e:=by simp[Program.elem,h]
 exact⟨this,by rw[this]; exact h⟩
theorem ajW {t e:TypeId} {k:Nat} (h:T.P.underlying t=some (.array k e)):T.P.elem t=e∧T.P.arrayLen t=k∧T.P.underlying t=some (.array (T.P.arrayLen t) (T.P.elem t)):=by
 have c:T.P.elem t=e:=by simp[Program.elem,h]
 have d:T.P.arrayLen t=k:=by simp[Program.arrayLen,h]
 exact⟨c,d,by rw[c,d]; exact h⟩
theorem Cr {cs:List PV} {b c:Nat} (h:aZ E (.bH cs) (.pointer (some ⟨b,c,none⟩))) (d:Nat):aZ E (.bH (cs.drop d)) (.pointer (some ⟨b,c+d,none⟩)):=by
 cases h with
 | bH u q l i p =>refine .bH (fun j=>u (d+j)) rfl (fun j pv e=>?_) (fun j=>i _) (fun j pv e=>p (d+j) pv (by rw[← e,List.getElem?_drop]));have:=l (d+j) pv (by rw[← e,List.getElem?_drop]);simp only at this ⊢;rw[← this];congr 1;omega
theorem SL {cs:List PV} {v:Value} (h:aZ E (.bH cs) v):∃ b d,v=.pointer (some ⟨b,d,none⟩):=by
 cases h with
 | bH u c l i p=>rename_i e; exact⟨e.block,e.off,by rw[← nK c]⟩
theorem aPX {t e:TypeId} {s:Nat} {rows:List (List PV)} {v:Value} {k:IntKind} {i:Int} {r:List PV} (R:T.P.underlying t=some (.slice e)) (Q:T.size e=some s)
  (S:aZ E (.sl s rows) v) (B:0≤i) (d:rows[i.toNat]?=some r):∃ u,(Instr.indexAt t v (.int k i)).run T.P w=.ok u w∧aZ E (.bH r) u:=by
 obtain⟨J,K⟩:=i6 R;cases S with
 | sl u x y A M O c =>
 rename_i U cap;have hlt:i.toNat<rows.length:=by
  rcases a8D i.toNat rows.length with h | h
  ·exact h
  ·rw[a8X h] at d; cases d
 obtain⟨q,rfl,p,N⟩:=M (by intro h; subst h; simp at hlt);rw[nK p];refine⟨.pointer (some ⟨q.block,q.off+i.toNat*s,none⟩),?_,?_⟩
 ·rw[run_indexAt_slice w t _ _ _ _ _ K,if_pos ⟨B,by omega⟩,J,jK Q,Result.andThen_ok,add_plain]
 ·refine .bH (u i.toNat) rfl (fun j pv l=>?_) (fun j=>O _ _) (fun j pv l=>c i.toNat j pv (by simp[at2,d,l]));simpa using N i.toNat j pv (by simp[at2,d,l])
theorem aFV {t e:TypeId} {o s c len:Nat} {v:Value} {k:IntKind} {i:Int} (O:T.P.underlying t=some (.slice e)) (M:T.size e=some s)
  (Q:aZ E (.osl o s c len) v) (B:0≤i) (hi:i<len):∃ u,(Instr.indexAt t v (.int k i)).run T.P w=.ok u w∧aZ E (.ptr o s (c+i.toNat) 0) u:=by
 obtain⟨J,K⟩:=i6 O;cases Q with
 | osl R N d y A S x =>
 rename_i cap m l;have q:l.off=c*s:=by
  rcases d with h | h
  ·omega
  ·exact h
 have p:l=⟨o,c*s,none⟩:=by cases l; simp_all
 subst p;refine⟨_,?_,.ptr o s _ 0⟩;rw[run_indexAt_slice w t _ _ _ _ _ K,if_pos ⟨B,hi⟩,J,jK M,Result.andThen_ok,add_plain,← a8M,a9M]
theorem jz {t e:TypeId} {k s:Nat} {v:Value} {K:IntKind} {i:Int} {p pv:PV} (J:T.P.underlying t=some (.array k e)) (B:T.size e=some s)
  (l:aZ E p v) (q:0≤i) (hi:i<k) (d:(∃ o s0 r c,p=.ptr o s0 r c∧pv=.ptr o s0 r (c+i.toNat*s))∨(∃ cs,p=.bH cs∧pv=.bH (cs.drop (i.toNat*s)))) :
  ∃ u,(Instr.indexAt t v (.int K i)).run T.P w=.ok u w∧aZ E pv u:=by
 obtain⟨x,y,A⟩:=ajW J;rcases d with ⟨o,s0,r,c,rfl,rfl⟩ | ⟨cs,rfl,rfl⟩
 ·cases l;refine⟨_,?_,.ptr o s0 r _⟩;rw[run_indexAt_array w t _ _ _ A,y,if_pos ⟨q,hi⟩,x,jK B,Result.andThen_ok,add_plain,a9R]
 ·obtain⟨b,M,rfl⟩:=SL l;refine⟨_,?_,Cr l _⟩;rw[run_indexAt_array w t _ _ _ A,y,if_pos ⟨q,hi⟩,x,jK B,Result.andThen_ok,add_plain]
theorem PP {t:TypeId} {p:Array Field} {f:Nat} {d:Field} {s:Nat} {v:Value} {l pv:PV} (y:T.P.underlying t=some (.struct p)) (q:p[f]?=some d) (x:T.size d.type=some (s+1))
  (i:aZ E l v) (e:(∃ o s0 r c,l=.ptr o s0 r c∧pv=.ptr o s0 r (c+d.offset))∨(∃ cs,l=.bH cs∧pv=.bH (cs.drop d.offset))) :
  ∃ u,(Instr.fieldAt t v f).run T.P w=.ok u w∧aZ E pv u:=by
 rcases e with ⟨o,s0,r,c,rfl,rfl⟩ | ⟨cs,rfl,rfl⟩
 ·cases i;refine⟨_,?_,.ptr o s0 r _⟩;simp[Instr.fieldAt,run_underlying y,q,Instr.sureAddr,fieldPlace,jK x,add_plain,a9R]
 ·obtain⟨b,A,rfl⟩:=SL i;refine⟨_,?_,Cr i _⟩;simp[Instr.fieldAt,run_underlying y,q,Instr.sureAddr,fieldPlace,jK x,add_plain]
theorem Q9 {t:TypeId} {cs:Array Value} {k:Nat} {u:Value} (c:T.isAgg t=some false) (h:cs[k]?=some u):(part t cs k).run T.P w=.ok u w:=by
 simp[part,xJ c,h]
theorem Ce {t:TypeId} {cs:Array Value} {k s:Nat} (d:T.isAgg t=some true) (c:T.size t=some s):(part t cs k).run T.P w=.ok (.agg (cs.extract k (k+s))) w:=by
 simp[part,xJ d,jK c]
theorem Im {cs:List PV} {vs:Array Value} {k:Nat} {pv:PV} (d:vs.size=cs.length) (c:∀ (j:Nat) pv v,cs[j]?=some pv→vs[j]?=some v→aZ E pv v) (h:cs[k]?=some pv) :
  ∃ u,vs[k]?=some u∧aZ E pv u:=by
 have hlt:k<cs.length:=by
  rcases a8D k cs.length with h' | h'
  ·exact h'
  ·rw[a8X h'] at h; cases h
 exact⟨vs[k]'Om,baT Om,c k pv _ h (baT Om)⟩
theorem In {cs:List PV} {vs:Array Value} {k s:Nat} (p:vs.size=cs.length) (e:∀ v∈vs.toList,v.oneCell'=true) (i:∀ (j:Nat) pv v,cs[j]?=some pv→vs[j]?=some v→aZ E pv v) (h:k+s≤cs.length) :
  aZ E (.agg ((cs.drop k).take s)) (.agg (vs.extract k (k+s))):=by
 refine .agg _ (by simp; omega) (fun v c=>e v ?_) (fun j pv v d c=>?_)
 ·simp only[Array.toList_extract] at c;exact List.mem_of_mem_drop (List.mem_of_mem_take c)
 ·rw[baU] at d;split at d
  ·rename_i l;rw[List.getElem?_drop] at d;refine i (k+j) pv v d ?_;rw[Array.getElem?_extract] at c;split at c
   ·exact c
   ·cases c
  ·cases d
theorem asF {t:TypeId} {e:Array Field} {f:Nat} {c:Field} {cs:List PV} {v:Value} {pv:PV} (x:T.P.underlying t=some (.struct e)) (i:e[f]?=some c) (l:T.isAgg c.type=some false)
  (A:aZ E (.agg cs) v) (h:cs[c.offset]?=some pv):∃ u,(Instr.field t v f).run T.P w=.ok u w∧aZ E pv u:=by
 cases A with
 | agg vs p B q =>
 obtain⟨u,y,d⟩:=Im p q h;exact⟨u,by simp[Instr.field,run_underlying x,i,asAgg,Q9 l y],d⟩
theorem akB {t:TypeId} {d:Array Field} {f:Nat} {c:Field} {cs:List PV} {s:Nat} {v:Value} (y:T.P.underlying t=some (.struct d)) (i:d[f]?=some c) (l:T.isAgg c.type=some true) (x:T.size c.type=some s)
  (A:aZ E (.agg cs) v) (h:c.offset+s≤cs.length):∃ u,(Instr.field t v f).run T.P w=.ok u w∧aZ E (.agg ((cs.drop c.offset).take s)) u:=by
 cases A with
 | agg vs p e q=>exact⟨_,by simp[Instr.field,run_underlying y,i,asAgg,Ce l x],In p e q h⟩
theorem alA {t e:TypeId} {k s:Nat} {g:Bool} {cs:List PV} {v:Value} {M:IntKind} {i:Int} {pv:PV} (A:T.P.underlying t=some (.array k e)) (l:T.size e=some s) (q:T.isAgg e=some g)
  (K:aZ E (.agg cs) v) (p:0≤i) (hi:i<k) (h:(if g then (if i.toNat*s+s≤cs.length then some (.agg ((cs.drop (i.toNat*s)).take s)) else none) else cs[i.toNat*s]?)=some pv) :
  ∃ u,(Instr.index t v (.int M i)).run T.P w=.ok u w∧aZ E pv u:=by
 cases K with
 | agg vs x B y =>
 cases g with
 | true =>
  simp only[if_true] at h;split at h
  ·rename_i c;cases h;exact⟨_,by simp[Instr.index,asIntOf,run_underlying A,p,hi,jK l,Ce q l],In x B y c⟩
  ·cases h
 | false =>simp only[baR,if_false] at h;obtain⟨u,J,d⟩:=Im x y h;exact⟨u,by simp[Instr.index,asIntOf,run_underlying A,p,hi,jK l,Q9 q J],d⟩
theorem Nt {t:TypeId} {l:List UInt8} {v:Value} {y:IntKind} {i:Int} {pv:PV} (q:T.P.underlying t=some .string) (x:aZ E (.str l) v) (p:0≤i) (h:(l[i.toNat]?).map (fun b=>PV.int .u8 b.toNat)=some pv) :
  ∃ u,(Instr.index t v (.int y i)).run T.P w=.ok u w∧aZ E pv u:=by
 cases x with
 | str s =>
 simp only[a7Q] at h;obtain⟨b,c,rfl⟩:=h;have d:s[i.toNat]?=some b:=by
  have hlt:i.toNat<s.data.toList.length:=by
   rcases a8D i.toNat s.data.toList.length with h' | h'
   ·exact h'
   ·rw[a8X h'] at c; cases c
  have e:i.toNat<s.size:=by
   have A:s.data.toList.length=s.size:=by rw[baN]; rfl
   omega
  rw[getElem?_pos s i.toNat e];rw[a7U hlt] at c;cases c;rfl
 exact⟨_,by simp[Instr.index,asIntOf,run_underlying q,p,d],.int _ _⟩
theorem OH {x:Option Operand} {p:Option aP} {d m:Int} (c:T.opt x=some p) (h:bnd F d p=some m) (i:dL ds n E F a) (l:E.num=T.num) :
  (x=none∧m=d)∨∃ o k,x=some o∧a.eval o=.int k m:=by
 cases x with
 | none =>simp[Tbl.opt] at c;subst c;simp[bnd] at h;exact .inl ⟨rfl,h.symm⟩
 | some o =>
  simp only[Tbl.opt,a7Q] at c;obtain⟨q,y,rfl⟩:=c;simp only[bnd,baX] at h;obtain⟨pv,u,hi⟩:=h;have r:=bC y u i l;unfold PV.intOf at hi;split at hi
  ·cases hi;generalize e:a.eval o=ev at r;cases r;exact .inr ⟨o,_,rfl,e⟩
  ·cases hi
theorem kL {isS:Bool} {lo hi mx:Option Operand} {pl ph pm:Option aP} {len cap:Nat} {l h:Int} (N:T.opt lo=some pl) (M:T.opt hi=some ph) (c:T.opt mx=some pm)
  (J:bnd F 0 pl=some l) (B:bnd F len ph=some h) (A:len≤cap) (Q:0≤l) (R:l≤h) (S:h≤len) (i:pm=none∨(hi≠none∧bnd F 0 pm=some h)) (d:dL ds n E F a) (e:E.num=T.num) :
  ∃ m,(Instr.sliceBounds isS len cap (lo.map a.eval) (hi.map a.eval) (mx.map a.eval)).run T.P w=.ok (l.toNat,h.toNat,m) w∧h.toNat≤m∧m≤cap:=by
 have y:=OH N J d e;have u:=OH M B d e;rcases i with rfl | ⟨hne,bm⟩
 ·have p:mx=none:=by
   cases mx with
   | none=>rfl
   | some x =>simp only[Tbl.opt,a7Q] at c;obtain⟨q,-,O⟩:=c;cases O
  subst p;refine⟨cap,?_,by omega,a7M _⟩;rcases y with ⟨rfl,rfl⟩ | ⟨ol,k1,rfl,e1⟩<;>rcases u with ⟨rfl,rfl⟩ | ⟨oh,k2,rfl,e2⟩
  ·simp[Instr.sliceBounds]
  ·simp only[Instr.sliceBounds,Option.map_none,a8W,e2,Sem.run_bind,Sem.run_pure,Result.andThen_ok,run_sliceBound w k2 h cap _ Om Om];rfl
  ·simp only[Instr.sliceBounds,Option.map_none,a8W,e1,Sem.run_bind,Sem.run_pure,Result.andThen_ok,run_sliceBound w k1 l len _ Om Om];simp
  ·simp only[Instr.sliceBounds,Option.map_none,a8W,e1,e2,Sem.run_bind,Sem.run_pure,Result.andThen_ok,run_sliceBound w k2 h cap _ Om Om,run_sliceBound w k1 l h.toNat _ Om Om]
 ·have km:=OH c bm d e;rcases km with ⟨rfl,K⟩ | ⟨om,k3,rfl,e3⟩
  ·simp[Tbl.opt] at c;subst c;refine⟨cap,?_,by omega,a7M _⟩;rcases u with ⟨rfl,rfl⟩ | ⟨oh,k2,rfl,e2⟩
   ·exact absurd rfl hne
   ·rcases y with ⟨rfl,rfl⟩ | ⟨ol,k1,rfl,e1⟩
    ·simp only[Instr.sliceBounds,Option.map_none,a8W,e2,Sem.run_bind,Sem.run_pure,Result.andThen_ok,run_sliceBound w k2 h cap _ Om Om];rfl
    ·simp only[Instr.sliceBounds,Option.map_none,a8W,e1,e2,Sem.run_bind,Sem.run_pure,Result.andThen_ok,run_sliceBound w k2 h cap _ Om Om,run_sliceBound w k1 l h.toNat _ Om Om]
  ·rcases u with ⟨rfl,rfl⟩ | ⟨oh,k2,rfl,e2⟩
   ·exact absurd rfl hne
   ·refine⟨h.toNat,?_,a7M _,by omega⟩;rcases y with ⟨rfl,rfl⟩ | ⟨ol,k1,rfl,e1⟩
    ·simp only[Instr.sliceBounds,Option.map_none,a8W,e2,e3,Sem.run_bind,Sem.run_pure,Result.andThen_ok,run_sliceBound w k3 h cap _ Om Om,run_sliceBound w k2 h h.toNat _ Om Om];rfl
    ·simp only[Instr.sliceBounds,Option.map_none,a8W,e1,e2,e3,Sem.run_bind,Sem.run_pure,Result.andThen_ok,run_sliceBound w k3 h cap _ Om Om,run_sliceBound w k2 h h.toNat _ Om Om,run_sliceBound w k1 l h.toNat _ Om Om]
end
open Go Go.RowKit
section
variable {ds:List Deferred} {T:Tbl} {n:Nat} {E:Env} {F:PF} {H:PH} {a:Act} {w:World}
theorem Xy {rows:List (List PV)} {l h i j:Nat} {pv:PV} (e:at2 ((rows.take h).drop l) i j=some pv):at2 rows (l+i) j=some pv:=by
 unfold at2 at *
 rw[List.getElem?_drop,baU] at e;split at e
 ·exact e
 ·simp at e
theorem uK {t e:TypeId} {s l h m len cap:Nat} {c:Option Addr} {lo hi mx:Option Value} (p:T.P.underlying t=some (.slice e)) (i:T.size e=some s)
  (d:(Instr.sliceBounds true len cap lo hi mx).run T.P w=.ok (l,h,m) w) :
  (Instr.sliceAt t (.slice c len cap) lo hi mx).run T.P w=.ok (.slice (if m=l then c else c.map (·.add (l*s))) (h-l) (m-l)) w:=by
 simp[Instr.sliceAt,Instr.slice,run_underlying p,d,jK i]
theorem DY {t e : TypeId} {s : Nat} {x : Value} {lo hi mx : Option Operand} {pl ph pm : Option aP} {len : Nat} {l h : Int} {px pv : PV} (ht : T.P.underlying t = some (.slice e)) (hs : T.size e = some s)
    (hl : T.opt lo = some pl) (hh : T.opt hi = some ph) (hm : T.opt mx = some pm) (hx : aZ E px x) (bl : bnd F 0 pl = some l) (bh : bnd F len ph = some h)
    (hlen : (px = .aB ∧ len = 0) ∨ (∃ s0 rows, px = .sl s0 rows ∧ len = rows.length) ∨ (∃ o s0 off, px = .osl o s0 off len))
    (hpv : (pm = none ∧ PV.slice s px l h none = some pv) ∨ (hi ≠ none ∧ ∃ m, bnd F 0 pm = some m ∧ PV.slice s px l h (some m) = some pv)) (hA : dL ds n E F a) (hN : E.num = T.num) :
    ∃ v, (Instr.sliceAt t x (lo.map a.eval) (hi.map a.eval) (mx.map a.eval)).run T.P w = .ok v w ∧ aZ E pv v := by
  have hP : ∃ m0, PV.slice s px l h m0 = some pv ∧ (m0 = none → pm = none) ∧ ∀ m, m0 = some m → hi ≠ none ∧ bnd F 0 pm = some m := by
    rcases hpv with ⟨h1, h2⟩ | ⟨h1, m, h2, h3⟩
    · exact ⟨none, h2, fun _ => h1, fun m hm => by cases hm⟩
    · exact ⟨some m, h3, fun h => (by cases h), fun m' hm' => by cases hm'; exact ⟨h1, h2⟩⟩
  obtain ⟨m0, hP, hn, hsm⟩ := hP;rcases hlen with ⟨rfl, rfl⟩ | ⟨s0, rows, rfl, rfl⟩ | ⟨o, s0, off, rfl⟩
  · simp only [PV.slice] at hP
    split at hP
    · rename_i hc
      cases hP;obtain ⟨rfl, rfl, hm0⟩ := hc;cases hx;obtain ⟨m, hb, hm1, hm2⟩ := kL (T := T) (E := E) (w := w) (isS := true) (len := 0) (cap := 0) hl hh hm bl bh (a7M _) Om Om Om
        (by rcases hm0 with rfl | rfl
            · exact .inl (hn rfl)
            · exact .inr (hsm 0 rfl)) hA hN
      have hmz : m = 0 := Om;subst hmz;refine ⟨_, uK ht hs hb, ?_⟩;simp;exact .aB
    · cases hP
  · simp only [PV.slice] at hP
    split at hP
    · rename_i hc
      cases hP;obtain ⟨rfl, h0, h1, h2, hm0⟩ := hc;cases hx with
      | sl u hcap a7A a6G ha ho a7C =>
      rename_i a0 cap;obtain ⟨m, hb, hm1, hm2⟩ := kL (T := T) (E := E) (w := w) (isS := true) (len := rows.length) (cap := cap) hl hh hm bl bh hcap h0 h1 h2
        (by rcases hm0 with rfl | rfl
            · exact .inl (hn rfl)
            · exact .inr (hsm h rfl)) hA hN
      refine ⟨_, uK ht hs hb, ?_⟩;have hlen : ((rows.take h.toNat).drop l.toNat).length = h.toNat - l.toNat := by rw [a9J, a8A]; omega
      rw [← hlen];refine .sl (fun i j => u (l.toNat + i) j) (by rw [hlen]; omega) Om (fun r hr => a6G r (List.mem_of_mem_take (List.mem_of_mem_drop hr))) (fun hne => ?_) (fun i j => ho _ _) (fun i j pv hp => a7C _ _ pv (Xy hp));have hpos : 0 < ((rows.take h.toNat).drop l.toNat).length := List.length_pos_iff.2 hne;rw [hlen] at hpos;obtain ⟨ad, rfl, hsp, hc⟩ := ha (by intro e; subst e; simp at h2; omega);rw [if_neg Om];refine ⟨⟨ad.block, ad.off + l.toNat * s0, none⟩, ?_, rfl, fun i j pv hp => ?_⟩
      · rw [a8W, nK hsp, add_plain]
      · have := hc (l.toNat + i) j pv (Xy hp)
        show E.cell ad.block (ad.off + l.toNat * s0 + i * s0 + j) = _;rw [← this];congr 1;rw [a8M]; omega
    · cases hP
  · simp only [PV.slice] at hP
    split at hP
    · rename_i hc
      cases hP;obtain ⟨rfl, h0, h1, h2, hm0⟩ := hc;cases hx with
      | osl hb0 hsp a7D hlen a7A hnn a6U =>
      rename_i cap N ad;obtain ⟨m, hb, hm1, hm2⟩ := kL (T := T) (E := E) (w := w) (isS := true) (len := len) (cap := cap) hl hh hm bl bh hlen h0 h1 h2
        (by rcases hm0 with rfl | rfl
            · exact .inl (hn rfl)
            · exact .inr (hsm h rfl)) hA hN
      refine ⟨_, uK ht hs hb, ?_⟩;by_cases hml : m = l.toNat
      · rw [if_pos hml]
        have e1 : h.toNat - l.toNat = 0 := Om;have e2 : m - l.toNat = 0 := Om;rw [e1, e2];refine .osl hb0 hsp (.inl rfl) (a7M _) (by simp [maxLen]) hnn ?_;have : (off + l.toNat) * s0 ≤ off * s0 + cap * s0 := by rw [a8M]; exact Nat.add_le_add_left (a8N _ Om) _
        omega
      · rw [if_neg hml, a8W, nK hsp, add_plain]
        refine .osl hb0 rfl ?_ Om Om hnn ?_
        · rcases a7D with h | h
          · exact .inl Om
          · exact .inr (by simp only [h, a8M])
        · have : (off + l.toNat) * s0 + (m - l.toNat) * s0 ≤ off * s0 + cap * s0 := by rw [← a8M, ← a8M];exact a8N _ Om
          omega
    · cases hP
theorem w8 {t:TypeId} {x:Value} {lo hi:Option Operand} {pl ph:Option aP} {str:List UInt8} {l h:Int} (O:T.P.underlying t=some .string)
  (K:T.opt lo=some pl) (J:T.opt hi=some ph) (Q:aZ E (.str str) x) (q:bnd F 0 pl=some l) (d:bnd F str.length ph=some h) (u:0≤l) (y:l≤h) (i:h≤str.length)
  (A:dL ds n E F a) (B:E.num=T.num) :
  ∃ v,(Instr.sliceAt t x (lo.map a.eval) (hi.map a.eval) none).run T.P w=.ok v w∧aZ E (.str ((str.take h.toNat).drop l.toNat)) v:=by
 cases Q with
 | str s =>
 have c:s.data.toList.length=s.size:=by rw[baN]; rfl
 rw[c] at d i;obtain⟨m,p,M,N⟩:=kL (T:=T) (E:=E) (w:=w) (isS:=false) (len:=s.size) (cap:=s.size) (mx:=none) (pm:=none) K J rfl q d (a7M _) u y i (.inl rfl) A B;simp only[Option.map_none] at p;refine⟨.string (s.extract l.toNat h.toNat),?_,?_⟩
 ·simp[Instr.sliceAt,Instr.slice,run_underlying O,p]
 ·have e:(s.data.toList.take h.toNat).drop l.toNat=(s.extract l.toNat h.toNat).data.toList:=by rw[Lib.extract_data,List.drop_take]
  rw[e];exact .str _
theorem gr (s:Nat):∀ (n:Nat) (cs:List PV),(chunks s n cs).length=n
 | 0,_=>rfl
 | n+1,cs=>by simp[chunks,gr s n]
theorem gs {s:Nat}:∀ {n:Nat} {cs:List PV},n*s≤cs.length→∀ r∈chunks s n cs,r.length=s
 | 0,_,_,r,hr=>by simp[chunks] at hr
 | n+1,cs,h,r,hr=>by
  rw[a8M,Nat.one_mul] at h;simp only[chunks,a7T] at hr;rcases hr with rfl | hr
  ·rw[a8A]; omega
  ·exact gs (by rw[a9J]; omega) r hr
theorem OQ {s:Nat}:∀ {n:Nat} {cs:List PV} {i j:Nat} {pv:PV},at2 (chunks s n cs) i j=some pv→cs[i*s+j]?=some pv
 | 0,_,i,j,pv,h=>by simp[chunks,at2] at h
 | n+1,cs,0,j,pv,h=>by
  simp only[chunks,at2,List.getElem?_cons_zero,baY,baU] at h;split at h
  ·rw[Nat.zero_mul,a8E]; exact h
  ·cases h
 | n+1,cs,i+1,j,pv,h=>by have:=OQ (n:=n) (cs:=cs.drop s) (i:=i) (j:=j) (pv:=pv) (by simpa [chunks,at2] using h);rw[List.getElem?_drop] at this;rw[← this]; congr 1; rw[a8M]; omega
theorem Sn {t e:TypeId} {k s:Nat} {v:Value} {cs:List PV} (V:T.P.underlying t=some (.array k e)) (U:T.size e=some s) (W:aZ E (.bH cs) v) (N:k*s≤cs.length) (O:k≤maxLen) (K:dL ds n E F a) (M:E.num=T.num) :
  ∃ u,(Instr.sliceAt t v none none none).run T.P w=.ok u w∧aZ E (.sl s (chunks s k cs)) u:=by
 obtain⟨m,A,Q,R⟩:=kL (T:=T) (E:=E) (w:=w) (F:=F) (a:=a) (n:=n) (isS:=false) (len:=k) (cap:=k) (lo:=none) (hi:=none) (mx:=none) (pl:=none) (ph:=none) (pm:=none) (l:=0) (h:=(k:Int)) rfl rfl rfl rfl rfl (a7M _) Om Om Om (.inl rfl) K M;simp only[Option.map_none,a9A,Int.toNat_zero] at A;have x:m=k:=Om;subst x;cases W with
 | bH u d c J S =>
 rename_i p;refine⟨.slice (some p) m m,?_,?_⟩
 ·have X:(if m=0 then p else p.add (0*s))=p:=by
   split
   ·rfl
   ·rw[nK d,add_plain]; simp
  simp[Instr.sliceAt,run_underlying V,Instr.sureAddr,A,jK U];intro _;rw[nK d,add_plain]; simp
 ·have B:=gr s m cs;have q:aZ E (.sl s (chunks s m cs)) (.slice (some p) (chunks s m cs).length m):=by refine .sl (fun i j=>u (i*s+j)) (by rw[B]; exact a7M _) O (gs N) (fun _=>⟨p,rfl,d,fun i j pv y=>?_⟩) (fun i j=>J _) (fun i j pv y=>S _ pv (OQ y));have:=c (i*s+j) pv (OQ y);rw[← this]; congr 1; omega
  rw[B] at q;exact q
theorem Vs {e:TypeId} {x:Value} {i:PV} (hW:bM E H w) (B:aZ E i x) (A:i.cells.all PV.one=true):Yields T.P E H w (Instr.box e x) (.bH i.cells):=by
 obtain⟨p,u,y⟩:=vL B A;obtain⟨l,q⟩:=hW.aNO x.cells e;refine⟨.pointer (some ⟨w.heap.size,0,none⟩),_,_,by simp[Instr.box,newVar,newRow],?_,l,q⟩;refine .bH (fun j=>if h:j<x.cells.size then x.cells[j] else .int .i64 0) rfl (fun j pv d=>?_) (fun j=>?_) (fun j pv d=>?_)
 ·have c:j<x.cells.size:=by
   rw[p];rcases a8D j i.cells.length with h' | h'
   ·exact h'
   ·rw[a8X h'] at d; cases d
  simp[Env.cell,Env.add,upd,c]
 ·split
  ·rename_i c;exact u _ (Array.getElem_mem_toList c)
  ·rfl
 ·have c:j<x.cells.size:=by
   rw[p];rcases a8D j i.cells.length with h' | h'
   ·exact h'
   ·rw[a8X h'] at d; cases d
  rw[dif_pos c];exact (y j pv _ d (baT c)).mono q.env
end
open Go Go.RowKit
theorem uT {s:Nat}:∀ (rows:List (List PV)) (i j:Nat),(∀ r∈rows,r.length=s)→j<s→rows.flatten[i*s+j]?=at2 rows i j
 | [],i,j,_,_=>by simp[at2]
 | r::rows,i,j,h,d=>by
  have c:r.length=s:=h r (by simp);rw[List.flatten_cons];cases i with
  | zero =>rw[a9Z Om];simp[at2]
  | succ i =>
   rw[a9Y (by rw[c,baM]; omega)];have e:(i+1)*s+j-r.length=i*s+j:=by rw[c,baM]; omega
   rw[e,uT rows i j (fun r c=>h r (by simp[c])) d];simp[at2]
theorem oH {s:Nat}:∀ (rows:List (List PV)),(∀ r∈rows,r.length=s)→rows.flatten.length=rows.length*s
 | [],_=>by simp
 | r::rows,h=>by rw[List.flatten_cons,a7O,oH rows (fun r c=>h r (by simp[c])),h r (by simp),a8Y,baM];omega
theorem sA:∀ (ps:List PV) (x y:List PV) (c:Nat),setCells (x++y) (x.length+c) ps=x++setCells y c ps
 | [],x,y,c=>rfl
 | p::ps,x,y,c=>by simp only[setCells];rw[baD _ _ Om,Nat.add_sub_cancel_left];exact sA ps x _ (c+1)
theorem tI:∀ (ps:List PV) (x y:List PV) (c:Nat),c+ps.length≤x.length→setCells (x++y) c ps=setCells x c ps++y
 | [],x,y,c,_=>rfl
 | p::ps,x,y,c,h=>by simp only[a8Y] at h;simp only[setCells];rw[List.set_append_left _ _ Om];exact tI ps _ y (c+1) (by rw[a9L]; omega)
theorem GI:∀ (ps x:List PV) (z:List PV),x.length=ps.length→setCells (z++x) z.length ps=z++ps
 | [],x,z,h=>by have:x=[]:=List.eq_nil_of_length_eq_zero (by simpa using h);subst this; rfl
 | p::ps,[],z,h=>by simp at h
 | p::ps,y::x,z,h=>by simp only[setCells];rw[baD _ _ (a7M _),baG,bbC];have:=GI ps x (z++[p]) (by simpa using h);simp only[a7O,a8Y,a9W,a8Q,List.cons_append,List.nil_append] at this;simpa using this
theorem WE {s:Nat} (ps:List PV) (c:ps.length=s):∀ (rows:List (List PV)) (i:Nat),(∀ r∈rows,r.length=s)→i<rows.length→(rows.set i ps).flatten=setCells rows.flatten (i*s) ps
 | [],i,_,h=>by simp at h
 | r::rows,i,h,hi=>by
  have d:r.length=s:=h r (by simp);cases i with
  | zero =>rw[bbC,List.flatten_cons,List.flatten_cons,Nat.zero_mul,tI _ _ _ _ Om];have:=GI ps r [] Om;simp only[List.nil_append,a9W] at this;rw[this]
  | succ i =>rw[List.set_cons_succ,List.flatten_cons,List.flatten_cons,WE ps c rows i (fun r d=>h r (by simp[d])) (by simpa using hi)];have:=sA ps r rows.flatten (i*s);rw[← this,d,baM,Nat.add_comm]
section
variable {ds:List Deferred} {T:Tbl} {n:Nat} {E:Env} {F:PF} {H:PH} {a:Act} {w:World}
theorem FO {s:Nat} (Q:dL ds n E F a) (R:E.num=T.num):∀ (parts:List (Nat × Operand)) (pl:List (Nat × aP)) (rows out:List (List PV)) (vs:Array Value),
  T.rT parts=some pl→gT s rows F pl=some out→(∀ r∈rows,r.length=s)→mW E rows.flatten vs →
  ∃ B,Instr.fill (fun i=>some (i*s,s)) vs (parts.map fun (i,x)=>(i,a.eval x))=some B∧mW E out.flatten B∧(∀ r∈out,r.length=s)∧out.length=rows.length
 | [],pl,rows,out,vs,d,c,e,A=>by simp[Tbl.rT] at d; subst d;simp[gT] at c; subst c;exact⟨vs,rfl,A,e,rfl⟩
 | (i,x)::rest,pl,rows,out,vs,d,c,e,A=>by
  simp only[Tbl.rT] at d;split at d
  ·rename_i p ps Z K;cases d;simp only[gT] at c;split at c
   ·rename_i v Y;split at c
    ·rename_i y;obtain⟨O,S,U⟩:=vL (bC Z Y Q R) y.2.2;have J:=WE v.cells y.1 rows i e y.2.1;have l:=mW.setCells v.cells (a.eval x).cells.toList (i*s) _ vs A (by simpa using O) S (fun j q u W X=>U j q u W (by simpa using X));rw[← J] at l;obtain⟨B,g1,g2,g3,g4⟩:=FO Q R rest ps _ out _ K c (fun r M=>by
      rcases List.mem_or_eq_of_mem_set M with M | rfl
      ·exact e r M
      ·exact y.1) l
     refine⟨B,?_,g2,g3,by simpa using g4⟩;simp only[a8U,Instr.fill];have N:vs.size=rows.length*s:=by rw[A.1,oH rows e]
     have V:i*s+s≤rows.length*s:=by have:(i+1)*s≤rows.length*s:=a8N _ y.2.1;rw[baM] at this;exact this
     rw[if_neg (by simp; rw[O,N]; omega)];have hz:Array.foldl (fun (cs:Array Value) (x:Value × Nat)=>cs.setIfInBounds (i*s+x.2) x.1) vs (a.eval x).cells.zipIdx=dj vs (i*s) (a.eval x).cells.toList:=by rw[← Array.foldl_toList,Array.toList_zipIdx];exact LE (i*s) _ 0 vs
     exact hz ▸ g1
    ·cases c
   ·cases c
  ·cases d
theorem mW.aOC {z:List PV} {p:Array Value} {s len:Nat} (h:mW E z p) (B:z.length=s) (A:0<s) :
  mW E (a7K len z).flatten ((Array.range (len*s)).map (p[·%p.size]!)):=by
 have i:∀ r∈a7K len z,r.length=s:=fun r J=>by rw[(List.mem_replicate.1 J).2]; exact B
 have d:p.size=s:=by rw[h.1,B]
 refine⟨by rw[oH _ i]; simp,fun v l=>?_,fun k pv v y l=>?_⟩
 ·simp only[Array.toList_map,a8J] at l;obtain⟨k,-,rfl⟩:=l;have x:k%p.size<p.size:=a8Z _ Om;rw[getElem!_pos p _ x];exact h.2.1 _ (Array.getElem_mem_toList x)
 ·have u:k<len*s:=by
   rcases a8D k (len*s) with h' | h'
   ·exact h'
   ·rw[Array.getElem?_eq_none (by simpa using h')] at l; cases l
  have c:k%s<s:=a8Z _ A;have q:k/s<len:=(baK A).2 u;have x:k/s*s+k%s=k:=by rw[a8L]; exact baV k s
  have e:=uT (a7K len z) (k/s) (k%s) i c;rw[x] at e;rw[e] at y;simp only[at2,List.getElem?_replicate,q,if_true,baY] at y;simp only[Array.getElem?_map,Array.getElem?_range,u,if_true,a8W] at l;rw[getElem!_pos p _ (by rw[d]; exact c)] at l;cases l;refine h.2.2 (k%s) pv _ (by simpa only [d] using y) ?_;simp only[d];exact baT (by rw[d]; exact c)
theorem OL {t e:TypeId} {s len:Nat} {z:List PV} {parts:Array (Nat × Operand)} {pl:List (Nat × aP)} {out:List (List PV)} (V:T.P.underlying t=some (.slice e)) (U:T.size e=some s) (hz:T.zero e=some z)
  (B:z.length=s) (R:0<s) (c:T.rT parts.toList=some pl) (Z:len*s≤16777216) (l:gT s (a7K len z) F pl=some out) (W:dL ds n E F a) (X:E.num=T.num) :
  ∃ p,(Instr.buildSlice t len (parts.map fun (i,x)=>(i,a.eval x))).run T.P w=.ok (.slice (some ⟨w.heap.size,0,none⟩) len len) (w.alloc (.cells p e))∧mW E out.flatten p∧(∀ r∈out,r.length=s)∧out.length=len:=by
 obtain⟨i,zv,hi,J,Q⟩:=MP (E:=E) hz;obtain⟨i',u,d⟩:=Du U;rw[hi] at u;cases u;have q:∀ r∈a7K len z,r.length=s:=fun r hr=>by rw[(List.mem_replicate.1 hr).2]; exact B
 obtain⟨p,g1,g2,g3,g4⟩:=FO W X parts.toList pl _ out _ c l q (Q.aOC (len:=len) B R);rw[List.length_replicate] at g4;refine⟨p,?_,g2,g3,g4⟩;by_cases K:len=0
 ·subst K;have A:parts.toList=[]:=by
   cases N:parts.toList with
   | nil=>rfl
   | cons x rest =>
    rw[N] at c;obtain⟨i,y⟩:=x;simp only[Tbl.rT] at c;split at c
    ·cases c;simp only[gT] at l;split at l
     ·split at l
      ·rename_i Y; simp at Y
      ·cases l
     ·cases l
    ·cases c
  rw[A] at g1;simp only[a9P,Instr.fill,Nat.zero_mul] at g1;have:p=#[]:=by have S:=g2.1;rw[oH out g3,g4,Nat.zero_mul] at S;exact Array.eq_empty_of_size_eq_zero S
  subst this;have M:parts=#[]:=by apply Array.ext';simpa using A
  subst M;have O:Array.range 0=#[]:=by apply Array.ext'; simp
  simp[Instr.buildSlice,run_underlying V,jK U,Instr.fill,newRow,O]
 ·refine run_buildSlice w t e len _ p i zv V hi J (by rw[d]; omega) (by rw[d]; exact Nat.ne_of_gt (Nat.mul_pos Om R)) ?_;rw[d,Array.toList_map];exact g1
theorem t7 {t e:TypeId} {s len:Nat} {z:List PV} {parts:Array (Nat × Operand)} {pl:List (Nat × aP)} {out:List (List PV)} (X:T.P.underlying t=some (.slice e)) (W:T.size e=some s) (Y:T.zero e=some z)
  (N:z.length=s) (O:0<s) (M:T.rT parts.toList=some pl) (K:len*s≤16777216) (V:gT s (a7K len z) F pl=some out) (R:dL ds n E F a) (S:E.num=T.num) (hW:bM E H w) :
  Yields T.P E H w (Instr.buildSlice t len (parts.map fun (i,x)=>(i,a.eval x))) (.sl s out):=by
 obtain⟨q,y,J,l,p⟩:=OL (w:=w) X W Y N O M K V R S;obtain⟨B,Q⟩:=hW.aNO q e;refine⟨_,_,_,y,?_,B,Q⟩;rw[← p];have U:∀ i j pv,at2 out i j=some pv→j<s:=fun i j pv c=>by
  unfold at2 at c;cases u:out[i]? with
  | none=>simp[u] at c
  | some r =>
   rw[u,baY] at c;have:=l r (baC u);rcases a8D j r.length with h' | h'
   ·omega
   ·rw[a8X h'] at c; cases c
 have d:∀ i j pv,at2 out i j=some pv→∃ h:i*s+j<q.size,aZ E pv q[i*s+j]:=fun i j pv c=>by
  have A:=uT out i j l (U i j pv c);rw[c] at A;have hlt:i*s+j<q.size:=by
   rw[J.1];rcases a8D (i*s+j) out.flatten.length with h' | h'
   ·exact h'
   ·rw[a8X h'] at A; cases A
  exact⟨hlt,J.2.2 _ pv _ A (baT hlt)⟩
 refine .sl (fun i j=>if h:i*s+j<q.size then q[i*s+j] else .int .i64 0) (a7M _) ?_ l (fun _=>⟨_,rfl,rfl,fun i j pv c=>?_⟩) (fun i j=>?_) (fun i j pv c=>?_)
 ·have:out.length*1≤out.length*s:=a9T _ O;simp only[maxLen];rw[p] at this ⊢;omega
 ·obtain⟨hlt,-⟩:=d i j pv c;simp[Env.cell,Env.add,upd,hlt]
 ·split
  ·rename_i hlt;exact J.2.1 _ (Array.getElem_mem_toList hlt)
  ·rfl
 ·obtain⟨hlt,u⟩:=d i j pv c;rw[dif_pos hlt];exact u.mono Q.env
end
open Go Go.RowKit
section
variable {T:Tbl} {n:Nat} {E:Env} {F:PF} {H:PH} {a:Act} {w:World}
theorem qb {s:Nat} {pv:PV} {v:Value} {rows:List (List PV)} (hW:bM E H w) (Y:aZ E pv v) (h:dX H s pv=some rows) :
  ∃ l cap,v=.slice l rows.length cap∧rows.length≤cap∧(∀ r∈rows,r.length=s)∧(rows≠[]→∃ b c,l=some ⟨b,c,none⟩ ∧
   ∀ i j q,at2 rows i j=some q→∃ u,w.cell? ⟨b,c+(i*s+j),none⟩=some u∧u.oneCell'=true∧aZ E q u):=by
 unfold dX at h;split at h
 ·cases h; cases Y;exact⟨none,0,rfl,a7M _,by simp,fun h=>absurd rfl h⟩
 ·rename_i s0 rs;split at h
  ·rename_i e;subst e;cases h;cases Y with
   | sl u A B d ha S W =>
   rename_i a0 cap;refine⟨a0,cap,rfl,A,d,fun y=>?_⟩;obtain⟨l,rfl,K,Q⟩:=ha y;refine⟨l.block,l.off,by rw[← nK K],fun i j q p=>⟨u i j,?_,S i j,W i j q p⟩⟩;have:=hW.Ye (Q i j q p);rw[← this];congr 2;omega
  ·cases h
 ·rename_i o s0 c len;split at h
  ·rename_i e;subst e;split at h
   ·rename_i s' rs S;split at h
    ·rename_i Q;cases h;obtain⟨rfl,β⟩:=Q;obtain⟨hlt,M,ty,hh,γ,d,Z,x⟩:=hW.h o _ S;cases Y with
     | osl hb K J R B hn X =>
     rename_i cap N l;have hl:((rs.drop c).take len).length=len:=by rw[a8A,a9J]; omega
     refine⟨some l,cap,by rw[hl],by omega,fun r W=>d r (List.mem_of_mem_drop (List.mem_of_mem_take W)),fun y=>?_⟩;have α:0<((rs.drop c).take len).length:=List.length_pos_iff.2 y;have U:l.off=c*s':=by
      rcases J with h | h
      ·omega
      ·exact h
     have O:l=⟨o,c*s',none⟩:=by cases l; simp_all
     subst O;refine⟨o,c*s',rfl,fun i j q p=>?_⟩;have V:at2 rs (c+i) j=some q:=by
      unfold at2 at p ⊢;rw[baU] at p;split at p
      ·rw[List.getElem?_drop] at p; exact p
      ·simp at p
     obtain⟨u,h1,h2,h3⟩:=x (c+i) j q V;refine⟨u,?_,h2,h3⟩;rw[cell_of_row w o _ M ty (0,0) hh,← h1];congr 1;rw[a8M]; omega
    ·cases h
   ·cases h
  ·cases h
 ·cases h
theorem NN:∀ {rows:List (List PV)} {l:List UInt8},pF rows=some l→∃ ns:List Int,rows=ns.map (fun n=>[PV.int .u8 n])∧l=ns.map fun n=>UInt8.ofNat n.toNat
 | [],l,h=>by simp[pF] at h; exact⟨[],by simp[h]⟩
 | r::rows,l,h=>by
  unfold pF at h;split at h
  ·exact⟨[],by simp at *⟩
  ·rename_i m rest c;cases c;simp only[a7Q] at h;obtain⟨p,d,rfl⟩:=h;obtain⟨ns,e,i⟩:=NN d;exact⟨m::ns,by simp[e],by simp[i]⟩
  ·cases h
theorem gd {src dst e:TypeId} {pv:PV} {v:Value} {rows:List (List PV)} {l:List UInt8} (y:T.P.underlying src=some (.slice e)) (q:T.P.underlying e=some (.int .u8)) (p:T.P.underlying dst=some .string)
  (hW:bM E H w) (U:aZ E pv v) (S:dX H 1 pv=some rows) (O:pF rows=some l):∃ u,(convert src dst v).run T.P w=.ok u w∧aZ E (.str l) u:=by
 obtain⟨M,cap,rfl,J,K,c⟩:=qb hW U S;obtain⟨ns,rfl,rfl⟩:=NN O;by_cases d:ns=[]
 ·subst d;refine⟨.string ByteArray.empty,?_,aZ.str ByteArray.empty⟩;cases M with
  | none=>exact run_convert_bytes_nil w src e y q _ _ dst p
  | some x =>rw[run_convert_bytes_string w src dst e _ _ _ y q p];have:=run_bytesToString (P:=T.P) w x 0 cap [] (by simp[Go.loadCells,Go.loadCellsFrom]);simpa using this
 ·obtain⟨b,A,rfl,Q⟩:=c (by simpa using d);have R:(ns.map fun n=>[PV.int .u8 n]).length=ns.length:=by simp
  refine⟨.string (strOfNums ns),?_,?_⟩
  ·rw[R];refine run_convert_bytes_arg w src e y q b A ns.length cap ns rfl (fun i hi=>?_) dst p;obtain⟨u,B,V,N⟩:=Q i 0 (.int .u8 ns[i]) (by simp[at2,hi]);cases N;simp only[Nat.mul_one,a9M] at B;rw[B];simp[List.getD,hi]
  ·have:=aZ.str (E:=E) (strOfNums ns);rw[strOfNums_data] at this;exact this
theorem eJ.len {ps:List PV} {vs:List Value} (h:eJ E ps vs):vs.length=ps.length:=by
 induction h with
 | nil=>rfl
 | cons _ _ c=>simp[c]
theorem eJ.at_ {ps:List PV} {vs:List Value} (h:eJ E ps vs):∀ (j:Nat) p v,ps[j]?=some p→vs[j]?=some v→aZ E p v:=by
 induction h with
 | nil=>intro j p v c; simp at c
 | cons h _ e =>
  intro j p v c d;cases j with
  | zero=>simp at c d; subst c; subst d; exact h
  | succ j=>exact e j p v (by simpa using c) (by simpa using d)
theorem eJ.mono {c:Env} (d:E.le c) {ps:List PV} {vs:List Value} (h:eJ E ps vs):eJ c ps vs:=by
 induction h with
 | nil=>exact .nil
 | cons h _ e=>exact .cons (h.mono d) e
def POp.oC:POp→Bool
 | .call .. | .a6X ..=>true
 | _=>false
theorem sE {P:Program} {o:Oper} {s:Sem Value} {v:Value} {w c:World} (h:execOp a.eval o=(do pure (.value (← s)):Sem Next)) (d:s.run P w=.ok v c):(execOp a.eval o).run P w=.ok (.value v) c:=by
 rw[h]; simp[d]
end
open Go Go.RowKit
def KSh.desc:KSh→TypeDesc
 | .int k=>.int k
 | .bool=>.bool
 | .str=>.string
def KSh.sc:KSh→Sc
 | .int _=>.int
 | .bool=>.bool
 | .str=>.str
def KS.pv:KS→PV
 | .int k n=>.int k n
 | .bool b=>.bool b
 | .str s=>.str s
section
variable {T:Tbl} {n:Nat} {E:Env} {F:PF} {H:PH} {a:Act} {w:World}
theorem t6 {α:Type} [BEq α] [LawfulBEq α] [DecidableEq α] (a b:α):(a==b)=decide (a=b):=by
 by_cases h:a=b<;>simp[h]
theorem KS.auX {pv:PV} {v:Value} {k:KS} (h:aZ E pv v) (c:KS.of pv=some k):v=k.val:=by
 unfold KS.of at c;split at c<;>cases c<;>cases h
 ·rfl
 ·rfl
 ·simp[KS.val]
theorem KS.aWD (k:KS):aZ E k.pv k.val:=by
 cases k with
 | int k n=>exact .int k n
 | bool b=>exact .bool b
 | str s =>have:=aZ.str (E:=E) ⟨s.toArray⟩;simpa [KS.pv,KS.val] using this
theorem KS.adM:∀ {ps:List PV} {d:List KS} {vs:List Value},KS.ofs ps=some d→vs.length=ps.length→(∀ (j:Nat) p v,ps[j]?=some p→vs[j]?=some v→aZ E p v)→vs=d.map KS.val
 | [],d,vs,h,c,_=>by simp[KS.ofs] at h; subst h;simp at c; subst c; rfl
 | p::ps,d,vs,h,c,e=>by
  simp only[KS.ofs] at h;split at h
  ·rename_i k B l A;cases h;cases vs with
   | nil=>simp at c
   | cons v vs =>have i:=KS.adM (vs:=vs) A (by simpa using c) fun j q u x y=>e (j+1) q u (by simpa using x) (by simpa using y);rw[KS.auX (e 0 p v rfl rfl) l,i];rfl
  ·cases h
theorem Ag {sh:MSh} {pv:PV} {v:Value} {k:List KS} (h:aZ E pv v) (d:keyOf sh pv=some k):v=gD sh k∧k.map KS.sh=sh.2∧(sh.1=false→∃ s,k=[s]):=by
 obtain⟨b,l⟩:=sh;unfold keyOf at d;split at d
 ·rename_i cs e;simp only at e;subst e;simp only[baX] at d;obtain⟨K,i,c⟩:=d;split at c
  ·rename_i q;cases c;cases h with
   | agg vs B A J =>
   refine⟨?_,q,by simp⟩;have:=KS.adM (vs:=vs.toList) i (by simpa using B) fun j p u x y=>J j p u x (by simpa using y);simp only[gD,if_true,Value.agg.injEq];rw[← this]
  ·cases c
 ·rename_i v' e;simp only at e;subst e;simp only[baX] at d;obtain⟨s,i,c⟩:=d;split at c
  ·rename_i q;cases c;exact⟨by simp[gD,KS.auX h i],by simpa using q,fun _=>⟨s,rfl⟩⟩
  ·cases c
 ·cases d
theorem sQ {t:TypeId} {s:KSh} (h:T.yG t=some s):T.P.underlying t=some s.desc∧T.scalar t=some s.sc:=by
 unfold Tbl.yG at h;unfold Tbl.scalar;split at h<;>cases h<;>(rename_i c; rw[c]; exact⟨rfl,rfl⟩)
theorem W1 {s:KSh} {x y:KS} (d:x.sh=s) (c:y.sh=s):Instr.sameNow s.desc x.val y.val=some (decide (x=y)):=by
 subst d;cases x<;>cases y<;>simp[KS.sh] at c
 ·subst c;simp[KSh.desc,KS.sh,KS.val,Instr.sameNow];exact t6 _ _
 ·simp[KSh.desc,KS.sh,KS.val,Instr.sameNow];exact t6 _ _
 ·rename_i a b;simp only[KSh.desc,KS.sh,KS.val,Instr.sameNow,a9V.injEq,KS.str.injEq];rw[beq_toListBytes,ByteArray.toList_eq,ByteArray.toList_eq];simp;exact t6 _ _
theorem j5:∀ {d:List Field} {k:Nat} {l:List KSh},T.kW k d=some l→T.rJ k d=some (l.map KSh.sc)
 | [],k,l,h=>by simp[Tbl.kW] at h; subst h; rfl
 | f::d,k,l,h=>by
  simp only[Tbl.kW] at h;split at h
  ·rename_i c cs e i;split at h
   ·rename_i p;cases h;simp only[Tbl.rJ,(sQ e).2,j5 i];rw[if_pos p];rfl
   ·cases h
  ·cases h
theorem asD:∀ {l:List KSh} {xs ys:List KS},xs.map KS.sh=l→ys.map KS.sh=l→PV.eqs (l.map KSh.sc) (xs.map KS.pv) (ys.map KS.pv)=some (decide (xs=ys))
 | [],xs,ys,c,d=>by simp at c d; subst c; subst d; simp[PV.eqs]
 | s::l,xs,ys,c,d=>by
  cases xs with
  | nil=>simp at c
  | cons x xs =>
  cases ys with
  | nil=>simp at d
  | cons y ys =>
  simp only[a8U,List.cons.injEq] at c d;have q:PV.eq1 s.sc x.pv y.pv=some (decide (x=y)):=by
   obtain⟨p,-⟩:=c;obtain⟨i,-⟩:=d;subst p;cases x<;>cases y<;>simp[KS.sh] at i
   ·subst i;simp[KSh.sc,KS.sh,KS.pv,PV.eq1];exact t6 _ _
   ·simp[KSh.sc,KS.sh,KS.pv,PV.eq1];exact t6 _ _
   ·simp[KSh.sc,KS.sh,KS.pv,PV.eq1];exact t6 _ _
  simp only[a8U,PV.eqs,q];by_cases e:x=y
  ·subst e;simp only[decide_true,asD c.2 d.2];simp
  ·simp only[e,decide_false,a7G];have u:xs.length=l.length:=by rw[← c.2]; simp
   have A:ys.length=l.length:=by rw[← d.2]; simp
   rw[if_pos ⟨u,A⟩];simp[e]
theorem asE {t:TypeId} {i:Array Field} {l:List KSh} (A:T.P.underlying t=some (.struct i)) (N:T.P.stoodInHeld t=false) (M:T.kW 0 i.toList=some l) {x y:List KS} (O:x.map KS.sh=l) (Q:y.map KS.sh=l) :
  (Op.equal t (gD (true,l) x) (gD (true,l) y)).run T.P w=.ok (decide (x=y)) w:=by
 have d:T.P.fieldsOf t=i:=by simp[Program.fieldsOf,A]
 have B:∀ (z:List KS) (j:Nat) q u,(z.map KS.pv)[j]?=some q→(z.map KS.val).toArray[0+j]?=some u→aZ (E:=⟨fun _=>none,fun _=>none,fun _=>0⟩) q u:=by intro z j q u c p;simp only[a8F,a7Q,a8E,List.getElem?_toArray] at c p;obtain⟨k,K,rfl⟩:=c;obtain⟨R,e,rfl⟩:=p;rw[K] at e; cases e;exact KS.aWD k
 have J:=PK (w:=w) 9998 (x.map KS.val).toArray (y.map KS.val).toArray i.toList (l.map KSh.sc) 0 (x.map KS.pv) (y.map KS.pv) _ (j5 M) (asD O Q) (B x) (B y) (by simp) (by simp);have c:=run_equalIn_struct w 9999 t (x.map KS.val).toArray (y.map KS.val).toArray (by rw[d]; exact A) N;rw[d,J] at c;simpa [Op.equal,Op.maxDepth,gD] using c
def Found (L:List (List KS × PV)) (d:List MapEntry) (k:List KS) (i:Nat) (r:Option (Nat × Value)):Prop :=
 match nM k L i with
 | none=>r=none
 | some (j,pv)=>∃ c:MapEntry,i≤j∧d[j-i]?=some c∧L[j-i]?=some (k,pv)∧r=some (j,c.val)
theorem Found.next {L:List (List KS × PV)} {d:List MapEntry} {k:List KS} {i:Nat} {r:Option (Nat × Value)} {e:List KS × PV} {l:MapEntry} (h:Found L d k (i+1) r) (c:e.1≠k):Found (e::L) (l::d) k i r:=by
 unfold Found at h ⊢;simp only[nM,if_neg c];split at h
 ·exact h
 ·rename_i j pv A;obtain⟨x,y,p,q,u⟩:=h;refine⟨x,by omega,?_,?_,u⟩
  ·rw[show j-i=(j-(i+1))+1 by omega]; exact p
  ·rw[show j-i=(j-(i+1))+1 by omega]; exact q
theorem Found.here {L:List (List KS × PV)} {l:List MapEntry} {k:List KS} {i:Nat} {e:List KS × PV} {c:MapEntry} (d:e.1=k):Found (e::L) (c::l) k i (some (i,c.val)):=by
 unfold Found;simp only[nM,if_pos d];refine⟨c,a7M _,by simp,?_,rfl⟩;subst d;simp
def rS (sh:MSh) (L:List (List KS × PV)) (d:List MapEntry):Prop :=
 d.length=L.length∧∀ (i:Nat) e c,L[i]?=some e→d[i]?=some c→e.1.map KS.sh=sh.2∧c.key=gD sh e.1
theorem rS.tail {sh:MSh} {e:List KS × PV} {L:List (List KS × PV)} {d:MapEntry} {c:List MapEntry} (h:rS sh (e::L) (d::c)):rS sh L c :=
 ⟨by simpa using h.1,fun i x y a b=>h.2 (i+1) x y (by simpa using a) (by simpa using b)⟩
theorem WD {s:KSh} {x:KS} (q:x.sh=s):∀ {L:List (List KS × PV)} {c:List MapEntry} {i:Nat},rS (false,[s]) L c→∃ r,Instr.findNow s.desc x.val c i=some r∧Found L c [x] i r
 | [],c,i,h=>by
  have:c=[]:=by simpa using h.1
  subst this;exact⟨none,rfl,rfl⟩
 | e::L,c,i,h=>by
  cases c with
  | nil=>have:=h.1; simp at this
  | cons p c =>
  obtain⟨l,A⟩:=h.2 0 e p rfl rfl;obtain⟨u,K⟩:=e;cases u with
  | nil=>simp at l
  | cons y ys =>
   simp only[a8U,List.cons.injEq,List.map_eq_nil_iff] at l;obtain⟨J,rfl⟩:=l;have B:p.key=y.val:=by rw[A]; rfl
   simp only[Instr.findNow,B,W1 q J];by_cases d:x=y
   ·subst d;simp only[decide_true];exact⟨_,rfl,Found.here rfl⟩
   ·simp only[d,decide_false];obtain⟨r,g1,g2⟩:=WD q (i:=i+1) h.tail;exact⟨r,g1,g2.next (by simp; exact fun e=>d e.symm)⟩
theorem FP {t:TypeId} {p:Array Field} {l:List KSh} (y:T.P.underlying t=some (.struct p)) (u:T.P.stoodInHeld t=false) (q:T.kW 0 p.toList=some l) {x:List KS} (A:x.map KS.sh=l) :
  ∀ {L:List (List KS × PV)} {c:List MapEntry} {i:Nat},rS (true,l) L c→∃ r,(Instr.findAsking t (gD (true,l) x) c i).run T.P w=.ok r w∧Found L c x i r
 | [],c,i,h=>by
  have:c=[]:=by simpa using h.1
  subst this;exact⟨none,rfl,rfl⟩
 | e::L,c,i,h=>by
  cases c with
  | nil=>have:=h.1; simp at this
  | cons B c =>
  obtain⟨J,K⟩:=h.2 0 e B rfl rfl;simp only[Instr.findAsking,Sem.run_bind,K,asE y u q A J,Result.andThen_ok];by_cases d:x=e.1
  ·subst d;simp only[decide_true,if_true,Sem.run_pure];exact⟨_,rfl,Found.here rfl⟩
  ·simp only[d,decide_false,baR,if_false];obtain⟨r,g1,g2⟩:=FP y u q A (i:=i+1) h.tail;exact⟨r,g1,g2.next (fun e=>d e.symm)⟩
theorem FT {t:TypeId} {sh:MSh} (h:T.lF t=some sh):(∃ s,sh=(false,[s])∧T.yG t=some s)∨(∃ c l,sh=(true,l)∧T.P.underlying t=some (.struct c)∧T.P.stoodInHeld t=false∧T.kW 0 c.toList=some l):=by
 unfold Tbl.lF at h;split at h
 ·rename_i c p;split at h
  ·rename_i e;simp only[a7Q] at h;obtain⟨l,d,rfl⟩:=h;exact .inr ⟨c,l,rfl,p,e,d⟩
  ·cases h
 ·simp only[a7Q] at h;obtain⟨s,i,rfl⟩:=h;exact .inl ⟨s,rfl,i⟩
theorem NO {t:TypeId} {sh:MSh} (q:T.lF t=some sh) {k:List KS} (d:k.map KS.sh=sh.2) {L:List (List KS × PV)} {c:List MapEntry} (h:rS sh L c) :
  ∃ r,(Instr.findKey t (gD sh k) c).run T.P w=.ok r w∧Found L c k 0 r:=by
 rcases FT q with ⟨s,rfl,y⟩ | ⟨fs,l,rfl,hu,hp,hl⟩
 ·have u:=(sQ y).1;cases k with
  | nil=>simp at d
  | cons x xs =>simp only[a8U,List.cons.injEq,List.map_eq_nil_iff] at d;obtain⟨B,rfl⟩:=d;obtain⟨r,g1,g2⟩:=WD B (i:=0) h;refine⟨r,?_,g2⟩;have A:gD (false,[s]) [x]=x.val:=rfl;simp only[Instr.findKey,Sem.run_bind,run_underlying u,Result.andThen_ok,A,g1,Sem.run_pure]
 ·obtain⟨r,g1,g2⟩:=FP (w:=w) hu hp hl d (i:=0) h;cases c with
  | nil =>
   have:L=[]:=by simpa using h.1.symm
   subst this;refine⟨none,?_,rfl⟩;simp[Instr.findKey,run_underlying hu,Instr.findNow]
  | cons e c =>
   refine⟨r,?_,g2⟩;have p:Instr.findNow (.struct fs) (gD (true,l) k) (e::c) 0=none:=by simp[Instr.findNow,Instr.sameNow,gD]
   simp only[Instr.findKey,Sem.run_bind,run_underlying hu,Result.andThen_ok,p];exact g1
theorem VZ {t:TypeId} {s:KSh} (c:T.yG t=some s) (em:Bool) (d:Nat) (x:KS):(Instr.checkKey em (d+1) t x.val).run T.P w=.ok () w:=by
 have e:=(sQ c).1;simp only[Instr.checkKey,Sem.run_bind,run_underlying e,Result.andThen_ok];cases s<;>cases x<;>rfl
theorem FI {t:TypeId} {sh:MSh} (u:T.lF t=some sh) {k:List KS} (p:k.map KS.sh=sh.2) (em:Bool):(Instr.checkKey em 10000 t (gD sh k)).run T.P w=.ok () w:=by
 rcases FT u with ⟨s,rfl,e⟩ | ⟨d,l,rfl,hu,hp,hl⟩
 ·cases k with
  | nil=>simp at p
  | cons x xs =>simp only[a8U,List.cons.injEq,List.map_eq_nil_iff] at p;obtain⟨N,rfl⟩:=p;exact VZ e em 9999 x
 ·simp only[gD,if_true];obtain⟨m,S⟩:∃ m:Nat,m=9999:=⟨_,rfl⟩;rw[show (10000:Nat)=m+1 by omega];simp only[Instr.checkKey,Sem.run_bind,run_underlying hu,Result.andThen_ok];rw[← Array.forIn_toList];have A:∀ (d:List Field) (l:List KSh) (j:Nat),T.kW j d=some l→(∀ (i:Nat) s,l[i]?=some s→∃ x:KS,(k.map KS.val).toArray[j+i]?=some x.val) →
    (forIn d PUnit.unit (fun f (_:PUnit)=>(do
     if f.name≠"_" then
      Instr.checkKey em m f.type (← part f.type (k.map KS.val).toArray f.offset)
      pure (ForInStep.yield PUnit.unit)
     else pure (ForInStep.yield PUnit.unit):Sem (ForInStep PUnit)))).run T.P w=.ok PUnit.unit w:=by
   intro d
   induction d with
   | nil=>intro l j _ _; simp
   | cons f d R =>
    intro l j h M;simp only[Tbl.kW] at h;split at h
    ·rename_i c cs B O;split at h
     ·rename_i J;cases h;obtain⟨x,N⟩:=M 0 c rfl;simp only[List.forIn_cons,Sem.run_bind,Sem.run_ite];rw[if_pos J.1];have q:=KI (w:=w) (sQ B).2 (k.map KS.val).toArray f.offset x.val (by rw[J.2]; simpa using N);simp only[Sem.run_bind,q,Result.andThen_ok];rw[show m=9998+1 by omega,VZ B em 9998 x,← show m=9998+1 by omega];simp only[Result.andThen_ok,Sem.run_pure];exact R cs (j+1) O fun i s e=>by obtain⟨y,Q⟩:=M (i+1) s (by simpa using e);exact⟨y,by rw[show j+1+i=j+(i+1) by omega]; exact Q⟩
     ·cases h
    ·cases h
  have:=A d.toList l 0 hl fun i s e=>by
   have K:k.length=l.length:=by rw[show l=k.map KS.sh from p.symm]; simp
   have hi:i<l.length:=(a8P.1 e).1;exact⟨k[i],by simp[show i<k.length by omega]⟩
  simp at this ⊢;rw[this];rfl
theorem V9 {L:List (List KS × PV)} {d:List MapEntry} {k:List KS} {r:Option (Nat × Value)} (h:Found L d k 0 r) (y:∀ (i:Nat) (e:List KS × PV) (c:MapEntry),L[i]?=some e→d[i]?=some c→aZ E e.2 c.val) :
  (mapOf L k=none∧r=none)∨∃ j pv v,mapOf L k=some pv∧r=some (j,v)∧aZ E pv v:=by
 unfold Found at h;unfold mapOf;split at h
 ·rename_i x;exact .inl ⟨by rw[x]; rfl,h⟩
 ·rename_i j pv u;obtain⟨c,-,l,p,q⟩:=h;exact .inr ⟨j,pv,c.val,by rw[u]; rfl,q,y _ _ c p l⟩
theorem N9 {t W N:TypeId} {sh:MSh} {d:TypeInfo} {z:Value} {U X:PV} {x k:Value} {o:Nat} {g:jO} {c:List KS} {ok:Bool} (ht:T.P.underlying t=some (.map W N)) (K:T.lF W=some sh)
  (hi:T.P.info? N=some d) (hz:d.zero=some z) (J:ofValue z=some U) (hx:aZ E (.map o) x) (Z:aZ E X k) (ho:H o=some (.map sh g)) (A:keyOf sh X=some c) (hW:bM E H w) :
  ∃ v,(Instr.lookup t x k ok).run T.P w=.ok v w∧aZ E (if ok then .tup [(g c).getD U,.bool (g c).isSome] else (g c).getD U) v:=by
 cases hx;obtain⟨hlt,V,l,L,Y,⟨R,-⟩,rfl,q⟩:=hW.h o _ ho;obtain⟨Q,B,-⟩:=Ag Z A;have O:rS sh L V.toList:=⟨by simpa using R,fun i e M a b=>by have:=q i e M a (by simpa using b); exact⟨this.1,this.2.1⟩⟩;obtain⟨r,g1,g2⟩:=NO (w:=w) K B O;have g3:=V9 (E:=E) g2 fun i e M a b=>(q i e M a (by simpa using b)).2.2;subst Q;have y:(getObj o).run T.P w=.ok (.map V l) w:=by simp[getObj,Sem.run,Y]
 have S:(zeroValue N).run T.P w=.ok z w:=by simp[zeroValue,typeInfo,run_program,hi,hz]
 simp only[Instr.lookup,Sem.run_bind,run_underlying ht,Result.andThen_ok,y,Sem.run_pure,FI K B,g1];rcases g3 with ⟨g4,rfl⟩ | ⟨j,pv,v,g4,rfl,hr⟩
 ·simp only[S,Sem.run_bind,Result.andThen_ok,Sem.run_pure,g4,Option.getD_none,Option.isSome_none];cases ok
  ·exact⟨z,rfl,vC J⟩
  ·refine⟨_,rfl,.tup #[z,.bool false] rfl fun j p u a b=>?_⟩
   match j with
   | 0=>simp at a b; subst a; subst b; exact vC J
   | 1=>simp at a b; subst a; subst b; exact .bool _
   | j+2=>simp at a
 ·simp only[Sem.run_pure,Result.andThen_ok,g4,baH,Option.isSome_some];cases ok
  ·exact⟨v,rfl,hr⟩
  ·refine⟨_,rfl,.tup #[v,.bool true] rfl fun j p u a b=>?_⟩
   match j with
   | 0=>simp at a b; subst a; subst b; exact hr
   | 1=>simp at a b; subst a; subst b; exact .bool _
   | j+2=>simp at a
end
open Go Go.RowKit
section
variable {ds:List Deferred} {T:Tbl} {n:Nat} {E:Env} {F:PF} {H:PH} {a:Act} {w:World}
def Good (P:Program) (E:Env) (H:PH) (w:World) (o:Oper) (a:Act) (pv:PV):Prop :=
 ∃ v d c,(execOp a.eval o).run P w=.ok (.value v) d∧aZ c pv v∧bM c H d∧Ext E H w c H d
theorem Good.mk' {P:Program} {o:Oper} {pv:PV} {v:Value} (hW:bM E H w) (h:(execOp a.eval o).run P w=.ok (.value v) w) (r:aZ E pv v):Good P E H w o a pv:=⟨v,w,E,h,r,hW,.refl E H w⟩
theorem Good.of {P:Program} {o:Oper} {pv:PV} {s:Sem Value} (p:execOp a.eval o=(do pure (.value (← s)):Sem Next)) (h:Yields P E H w s pv):Good P E H w o a pv:=by
 obtain⟨v,q,c,d,e,i,l⟩:=h;exact⟨v,q,c,sE p d,e,i,l⟩
theorem Good.val {P:Program} {o:Oper} {pv:PV} {s:Sem Value} (hW:bM E H w) (e:execOp a.eval o=(do pure (.value (← s)):Sem Next)) (h:∃ v,s.run P w=.ok v w∧aZ E pv v):Good P E H w o a pv:=by
 obtain⟨v,c,d⟩:=h;exact .of e (Yields.same hW c d)
theorem ajD {t:TypeId} {o:Oper} {x:Operand} {lo hi mx:Option Operand} {p:aP} {pl ph pm:Option aP} {e:TypeId} {s:Nat} {pv:PV} (U:o.op=.slice t x lo hi mx) (R:T.P.underlying t=some (.slice e)) (Q:T.size e=some s)
  (V:T.opd x=some p) (N:T.opt lo=some pl) (M:T.opt hi=some ph) (B:T.opt mx=some pm) (O:¬ (mx.isSome=true∧hi.isNone=true)) (c:aO (.slice s p pl ph pm) F H=some pv)
  (J:dL ds n E F a) (hW:bM E H w) (K:E.num=T.num):Good T.P E H w o a pv:=by
 refine Good.val hW (s:=Instr.sliceAt t (a.eval x) (lo.map a.eval) (hi.map a.eval) (mx.map a.eval)) (by unfold execOp; rw[U]) ?_;have d:pm≠none→hi≠none:=fun h e=>by
  subst e;cases mx with
  | none=>simp[Tbl.opt] at B; exact h B.symm
  | some y=>exact O ⟨rfl,rfl⟩
 simp only[aO] at c;split at c
 ·rename_i v S;have r:=bC V S J K;split at c
  ·split at c
   ·rename_i l h q i;refine DY (len:=0) R Q N M B r q i (.inl ⟨rfl,rfl⟩) ?_ J K;split at c
    ·exact .inl ⟨rfl,c⟩
    ·simp only[baX] at c;obtain⟨m,u,A⟩:=c;exact .inr ⟨d (by simp),m,u,A⟩
   ·cases c
  ·split at c
   ·rename_i l h q i;refine DY R Q N M B r q i (.inr (.inl ⟨_,_,rfl,rfl⟩)) ?_ J K;split at c
    ·exact .inl ⟨rfl,c⟩
    ·simp only[baX] at c;obtain⟨m,u,A⟩:=c;exact .inr ⟨d (by simp),m,u,A⟩
   ·cases c
  ·split at c
   ·rename_i l h q i;refine DY R Q N M B r q i (.inr (.inr ⟨_,_,_,rfl⟩)) ?_ J K;split at c
    ·exact .inl ⟨rfl,c⟩
    ·simp only[baX] at c;obtain⟨m,u,A⟩:=c;exact .inr ⟨d (by simp),m,u,A⟩
   ·cases c
  ·cases c
 ·cases c
theorem lC {o:Oper} {c:Call} {b:Builtin} {s:Sem Value} {pv:PV} (p:o.op=.call c) (d:c.callee=.builtin b) (l:∀ cs,builtin b c.argTypes o.type cs (c.args.map a.eval)=(do pure (.value (← s)):Sem Next))
  (hW:bM E H w) (h:∃ v,s.run T.P w=.ok v w∧aZ E pv v):Good T.P E H w o a pv:=by
 obtain⟨v,e,i⟩:=h;refine .mk' hW ?_ i;unfold execOp;rw[p];simp[resolve,d,invoke,l,e]
theorem aNP {xs:Array Operand} {x:Operand} (h:xs.toList=[x]) (f:Operand→Value):xs.map f=#[f x]:=by
 apply Array.ext'; simp[h]
theorem aiV {xs:Array Operand} {x y:Operand} (h:xs.toList=[x,y]) (f:Operand→Value):xs.map f=#[f x,f y]:=by
 apply Array.ext'; simp[h]
theorem aUU {α:Type} {xs:Array α} {x:α} (h:xs.toList=[x]):xs=#[x]:=by apply Array.ext'; simp[h]
theorem size_data (s:ByteArray):s.data.toList.length=s.size:=by rw[baN]; rfl
theorem arL {o:Oper} {c:Call} {p:POp} {pv:PV} (S:o.op=.call c) (d:T.call o c=some p) (hw:p.eC=false) (hk:p.oC=false) (i:aO p F H=some pv)
  (N:dL ds n E F a) (hW:bM E H w) (O:E.num=T.num):Good T.P E H w o a pv:=by
 unfold Tbl.call at d;split at d
 ·rename_i b A;split at d
  ·
   rename_i x t l R;have V:=aNP l a.eval;have W:=aUU R;split at d
   ·rename_i k e M;cases d;simp[aO,aP.ev] at i;subst i;refine lC (s:=Builtin.len_ c.argTypes o.type (c.args.map a.eval)) S A (fun cs=>rfl) hW ⟨goInt k,?_,.int _ _⟩;rw[V,W];simp[Builtin.len_,run_underlying M]
   ·rename_i M;simp only[a7Q] at d;obtain⟨q,K,rfl⟩:=d;simp only[aO] at i;split at i
    ·rename_i s0 B;cases i;have r:=bC K B N O;generalize J:a.eval x=ex at r;cases r with
     | str s =>
     refine lC (s:=Builtin.len_ c.argTypes o.type (c.args.map a.eval)) S A (fun cs=>rfl) hW ⟨goInt s.size,?_,?_⟩
     ·rw[V,W,J];simp[Builtin.len_,run_underlying M]
     ·rw[size_data]; exact .int _ _
    ·cases i
   ·rename_i e M;simp only[a7Q] at d;obtain⟨q,K,rfl⟩:=d;have β:∀ (ad:Option Addr) (m cap:Nat),a.eval x=.slice ad m cap→Good T.P E H w o a (.int .i64 m):=by intro ad m cap J;refine lC (s:=Builtin.len_ c.argTypes o.type (c.args.map a.eval)) S A (fun cs=>rfl) hW ⟨goInt m,?_,.int _ _⟩;rw[V,W,J];simp[Builtin.len_,run_underlying M]
    simp only[aO,baX] at i;obtain⟨u,B,i⟩:=i;have r:=bC K B N O;generalize J:a.eval x=ex at r;cases u<;>simp only[PV.sR] at i<;>cases i
    all_goals
     cases r;exact β _ _ _ J
   ·rename_i kt et M;simp only[a7Q] at d;obtain⟨q,K,rfl⟩:=d;simp only[aO] at i;split at i
    ·rename_i m B;split at i
     ·rename_i sh g hg;cases i;have r:=bC K B N O;generalize J:a.eval x=ex at r;cases r;obtain⟨hlt,es,Q,L,hh,⟨α,Z⟩,rfl,-⟩:=hW.h m _ hg;have U:(getObj m).run T.P w=.ok (.map es Q) w:=by simp[getObj,Sem.run,hh]
      refine lC (s:=Builtin.len_ c.argTypes o.type (c.args.map a.eval)) S A (fun cs=>rfl) hW ⟨goInt es.size,?_,?_⟩
      ·rw[V,W,J];simp[Builtin.len_,run_underlying M,U]
      ·rw[alL Z,← α]; exact .int _ _
     ·cases i
    ·cases i
   ·cases d
  ·
   split at d<;>try cases d
   split at d<;>try cases d
   split at d<;>cases d;simp[POp.eC] at hw
  ·
   rename_i x t l R;split at d
   ·rename_i e M;simp only[a7Q] at d;obtain⟨q,K,rfl⟩:=d;simp only[aO] at i;split at i
    ·rename_i B;cases i;have r:=bC K B N O;generalize J:a.eval x=ex at r;cases r;refine lC (s:=Builtin.cap_ c.argTypes o.type (c.args.map a.eval)) S A (fun cs=>rfl) hW ⟨goInt 0,?_,.int _ _⟩;rw[aNP l a.eval,aUU R,J];simp[Builtin.cap_,run_underlying M]
    ·cases i
   ·cases d
  ·
   rename_i x y l;split at d<;>cases d;rename_i p q hp K;simp only[aO] at i;split at i
   ·rename_i k m k' m' X Y;have r1:=bC hp X N O;have r2:=bC K Y N O;split at i
    ·cases i;generalize J:a.eval x=ex at r1;generalize hy:a.eval y=ey at r2;cases r1; cases r2;refine lC (s:=Builtin.max_ c.argTypes o.type (c.args.map a.eval)) S A (fun cs=>rfl) hW ⟨_,?_,.int _ _⟩;rw[aiV l a.eval,J,hy,run_max_int2];simp
    ·cases i
   ·cases i
  ·
   rename_i x y l;split at d<;>cases d;rename_i p q hp K;simp only[aO] at i;split at i
   ·rename_i k m k' m' X Y;have r1:=bC hp X N O;have r2:=bC K Y N O;split at i
    ·cases i;generalize J:a.eval x=ex at r1;generalize hy:a.eval y=ey at r2;cases r1; cases r2;refine lC (s:=Builtin.min_ c.argTypes o.type (c.args.map a.eval)) S A (fun cs=>rfl) hW ⟨_,?_,.int _ _⟩;rw[aiV l a.eval,J,hy,run_min_int2];simp
    ·cases i
   ·cases i
  ·cases d
 ·split at d
  ·split at d<;>cases d;simp[POp.oC] at hk
  ·cases d
 ·simp only[a7Q] at d;obtain⟨q,-,rfl⟩:=d;simp[POp.oC] at hk
 ·cases d
end
open Go Go.RowKit
section
variable {ds:List Deferred} {T:Tbl} {n:Nat} {E:Env} {F:PF} {H:PH} {a:Act} {w:World}
set_option maxHeartbeats 8000000 in
theorem ajE {o:Oper} {p:POp} {pv:PV} (B:T.op o=some p) (hn:p.gU=false) (hw:p.eC=false) (hk:p.oC=false) (A:aO p F H=some pv)
  (N:dL ds n E F a) (hW:bM E H w) (M:E.num=T.num):Good T.P E H w o a pv:=by
 unfold Tbl.op at B;split at B
 ·
  rename_i x K;simp only[a7Q] at B;obtain⟨q,O,rfl⟩:=B;exact .mk' hW (v:=a.eval x) (by unfold execOp; rw[K]; simp) (bC O A N M)
 ·
  rename_i x K;simp only[a7Q] at B;obtain⟨q,O,rfl⟩:=B;exact .mk' hW (v:=a.eval x) (by unfold execOp; rw[K]; simp) (bC O A N M)
 ·
  rename_i c x y K;split at B<;>cases B;rename_i p1 p2 p3 R W h3;simp only[aO] at A;split at A
  ·rename_i t J;have r:=bC R J N M;generalize V:a.eval c=ec at r;cases r;refine .mk' hW (v:=if t then a.eval x else a.eval y) (by unfold execOp; rw[K]; simp[V,asBool]) ?_;cases t
   ·exact bC h3 (by simpa using A) N M
   ·exact bC W (by simpa using A) N M
  ·cases A
 ·
  simp only[a7Q] at B;obtain⟨z,-,rfl⟩:=B;simp[POp.gU] at hn
 ·
  rename_i e x K;simp only[a7Q] at B;obtain⟨q,O,rfl⟩:=B;generalize σ:T.u0 o.dst=ro at *
  cases ro with
  | false=>simp[POp.gU] at hn
  | true =>
   simp only[aO] at A;split at A
   ·rename_i v J;split at A
    ·rename_i R;cases A;exact .of (s:=Instr.box e (a.eval x)) (by unfold execOp; rw[K]) (Vs hW (bC O J N M) R)
    ·cases A
   ·cases A
 ·
  rename_i t parts K;split at B
  ·rename_i z fs hz Q;split at B
   ·rename_i hm;simp only[a7Q] at B;obtain⟨pl,δ,rfl⟩:=B;simp only[aO,a7Q] at A;obtain⟨out,Y,rfl⟩:=A;have U:=VX (T:=T) (w:=w) hz (.inl ⟨fs,Q,hm,δ⟩) Y N M;refine Good.val hW ?_ U;unfold execOp; rw[K]
   ·cases B
  ·rename_i z k e hz Q;split at B
   ·rename_i s S;simp only[a7Q] at B;obtain⟨pl,δ,rfl⟩:=B;simp only[aO,a7Q] at A;obtain⟨out,Y,rfl⟩:=A;have U:=VX (T:=T) (w:=w) hz (.inr ⟨k,e,s,Q,S,δ⟩) Y N M;refine Good.val hW ?_ U;unfold execOp; rw[K]
   ·cases B
  ·cases B
 ·
  rename_i t len parts K;split at B
  ·rename_i e Q;split at B
   ·rename_i s z pl S hz δ;split at B
    ·rename_i μ;cases B;generalize σ:T.u0 o.dst=ro at *
     cases ro with
     | false=>simp[POp.gU] at hn
     | true =>
      simp only[aO] at A;split at A
      ·rename_i θ;simp only[a7Q] at A;obtain⟨out,Y,rfl⟩:=A;have U:=t7 (T:=T) Q S hz μ.1 μ.2 δ θ.2 Y N M hW;refine Good.of ?_ U;unfold execOp; rw[K]
      ·cases A
    ·cases B
   ·cases B
  ·cases B
 ·
  rename_i t x K;split at B
  ·rename_i k q hg S O;cases B;simp only[aO] at A;split at A
   ·rename_i v J;simp only[a7Q] at A;obtain⟨cs,γ,rfl⟩:=A;have V:=bC O J N M;have U:=WI (T:=T) hg S hW V γ;refine Good.val hW (s:=Instr.loadAt t (a.eval x)) ?_ U;unfold execOp; rw[K]
   ·cases A
  ·rename_i k q hg O;cases B;simp only[aO] at A;split at A
   ·rename_i v J;split at A
    ·rename_i v' γ;cases A;have V:=bC O J N M;have U:=j8 (T:=T) hg hW V γ;refine Good.val hW (s:=Instr.loadAt t (a.eval x)) ?_ U;unfold execOp; rw[K]
    ·cases A
   ·cases A
  ·cases B
 ·
  split at B<;>cases B;simp[POp.eC] at hw
 ·
  rename_i x K;simp only[a7Q] at B;obtain⟨q,O,rfl⟩:=B;simp only[aO] at A;split at A
  ·rename_i J;cases A;have r:=bC O J N M;refine .mk' hW (v:=a.eval x) ?_ r;generalize V:a.eval x=ex at r;cases r;unfold execOp; rw[K]; simp[V]
  ·rename_i J;cases A;have r:=bC O J N M;refine .mk' hW (v:=a.eval x) ?_ r;obtain⟨b,χ,V⟩:=SL r;unfold execOp; rw[K]; simp[V]
  ·cases A
 ·
  rename_i b t x y yt K;split at B
  ·rename_i p q Z O;have X:∀ b',b=b'→aO (.bin b' p q) F H=some pv→Good T.P E H w o a pv:=by
    intro b' hb A;subst hb;simp only[aO] at A;split at A
    ·rename_i v1 v2 R W;exact .val hW (s:=do eqGuard b t x y (a.eval x) (a.eval y); binOp b t (a.eval x) (a.eval y)) (by unfold execOp; rw[K]) (arE (bC Z R N M) (bC O W N M) A t x y)
    ·cases A
   have β:∀ neg,b=(if neg then .neq else .eql)→T.P.underlying t=some .bool→aO (.eqb neg p q) F H=some pv→Good T.P E H w o a pv:=by
    intro neg hb ht A;simp only[aO] at A;split at A
    ·rename_i v1 v2 R W;cases A;have r1:=bC Z R N M;have r2:=bC O W N M;generalize V:a.eval x=ex at r1;generalize U:a.eval y=ey at r2;cases r1; cases r2;refine .val hW (s:=do eqGuard b t x y (a.eval x) (a.eval y); binOp b t (a.eval x) (a.eval y)) (by unfold execOp; rw[K]) ⟨_,?_,.bool _⟩;rw[V,U,hb];exact asC neg v1 v2 x y ht
    ·cases A
   have ε:∀ neg {e},b=(if neg then .neq else .eql)→T.P.underlying t=some (.slice e)→q=.const .aB→aO (.isNil neg p) F H=some pv→Good T.P E H w o a pv:=by
    intro neg e hb ht ρ A;subst ρ;simp only[aO] at A;cases R:p.ev F with
    | none=>rw[R] at A; cases A
    | some v1 =>rw[R,baY,a7Q] at A;obtain⟨c,ζ,rfl⟩:=A;have r1:=bC Z R N M;have r2:=bC (F:=F) O rfl N M;generalize V:a.eval x=ex at r1;generalize U:a.eval y=ey at r2;cases r2;refine .val hW (s:=do eqGuard b t x y (a.eval x) (a.eval y); binOp b t (a.eval x) (a.eval y)) (by unfold execOp; rw[K]) ⟨_,?_,.bool _⟩;rw[V,U,hb];exact V3 neg r1 ζ x y ht
   have κ:∀ neg ks,b=(if neg then .neq else .eql)→T.flat t=some ks→aO (.eqs neg ks p q) F H=some pv→Good T.P E H w o a pv:=by
    intro neg ks hb ht A;simp only[aO] at A;split at A
    ·rename_i v1 v2 R W;simp only[a7Q] at A;obtain⟨c,ζ,rfl⟩:=A;refine .val hW (s:=do eqGuard b t x y (a.eval x) (a.eval y); binOp b t (a.eval x) (a.eval y)) (by unfold execOp; rw[K]) ⟨_,?_,.bool _⟩;rw[hb];exact ajX neg (bC Z R N M) (bC O W N M) ζ x y ht
    ·cases A
   split at B
   ·split at B
    ·cases B; exact X _ rfl A
    ·cases B; exact X _ rfl A
    ·rename_i ht; cases B; exact β false rfl ht A
    ·simp only[a7Q] at B;obtain⟨ks,η,rfl⟩:=B;exact κ false ks rfl η A
    ·rename_i ht;split at B
     ·cases B; exact ε false rfl ht rfl A
     ·cases B
    ·cases B
   ·split at B
    ·cases B; exact X _ rfl A
    ·cases B; exact X _ rfl A
    ·rename_i ht; cases B; exact β true rfl ht A
    ·simp only[a7Q] at B;obtain⟨ks,η,rfl⟩:=B;exact κ true ks rfl η A
    ·rename_i ht;split at B
     ·cases B; exact ε true rfl ht rfl A
     ·cases B
    ·cases B
   ·cases B; exact X _ rfl A
  ·cases B
 ·
  rename_i u t x K;simp only[a7Q] at B;obtain⟨q,O,rfl⟩:=B;simp only[aO] at A;split at A
  ·rename_i v J;exact .val hW (s:=Op.unary u (a.eval x)) (by unfold execOp; rw[K]) (aMQ (bC O J N M) A)
  ·cases A
 ·
  rename_i s d x K;split at B
  ·rename_i k k' q S hd O;cases B;simp only[aO] at A;split at A
   ·rename_i m J;cases A;have r:=bC O J N M;generalize V:a.eval x=ex at r;cases r;refine .val hW (s:=convert s d (a.eval x)) (by unfold execOp; rw[K]) ⟨_,?_,.int _ _⟩;rw[V];simp[convert,run_underlying S,run_underlying hd,Conv.intToInt]
   ·cases A
  ·rename_i q S hd O;cases B;simp only[aO] at A;split at A
   ·rename_i l J;cases A;have r:=bC O J N M;refine .val hW (s:=convert s d (a.eval x)) (by unfold execOp; rw[K]) ⟨a.eval x,?_,r⟩;generalize V:a.eval x=ex at r;cases r;simp[convert,run_underlying S,run_underlying hd]
   ·cases A
  ·rename_i e q S hd O;split at B
   ·rename_i he;cases B;simp only[aO] at A;split at A
    ·rename_i v J;split at A
     ·rename_i rows hr;simp only[a7Q] at A;obtain⟨l,hl,rfl⟩:=A;exact .val hW (s:=convert s d (a.eval x)) (by unfold execOp; rw[K]) (gd S he hd hW (bC O J N M) hr hl)
     ·cases A
    ·cases A
   ·cases B
  ·cases B
 ·
  rename_i f α captured K;split at B
  ·rename_i m cs hm γ;split at B
   ·rename_i hf;cases B;simp only[aO,a7Q] at A;obtain⟨vs,φ,rfl⟩:=A;have r:=xG γ φ N M;refine .val hW (s:=Instr.makeFunc (.func f) (α.map a.eval) (captured.map a.eval)) (by unfold execOp; rw[K]) ⟨.func (.func f) #[] (captured.map a.eval),?_,?_⟩
    ·have:α=#[]:=Array.eq_empty_of_size_eq_zero hf.2;subst this;simp[Instr.makeFunc]
    ·have hl:=r.len;have:=aZ.fn (E:=E) (name:=m) (captured:=vs) (captured.map a.eval) (by simpa using hl) (fun j p v a b=>r.at_ j p v a (by simpa using b));rw[M,hf.1] at this;exact this
   ·cases B
  ·cases B
 ·
  split at B
  ·simp only[a7Q] at B;obtain⟨z,-,rfl⟩:=B;simp[POp.gU] at hn
  ·cases B
 ·
  rename_i t x k ok K;split at B
  ·rename_i kt et Q;split at B
   ·rename_i sh z p1 q1 υ hz Z O;simp only[a7Q] at B;obtain⟨pz,ο,rfl⟩:=B;simp only[baX] at hz;obtain⟨ψ,hi,hz⟩:=hz;simp only[aO] at A;split at A
    ·rename_i m kv R W;split at A
     ·rename_i Δ g Γ h3 h4;split at A
      ·rename_i he;subst he;cases A;exact .val hW (s:=Instr.lookup t (a.eval x) (a.eval k) ok) (by unfold execOp; rw[K]) (N9 Q υ hi hz ο (bC Z R N M) (bC O W N M) h3 h4 hW)
      ·cases A
     ·cases A
    ·cases A
   ·cases B
  ·cases B
 ·
  split at B
  ·split at B<;>cases B;simp[POp.eC] at hw
  ·cases B
 ·
  split at B
  ·split at B<;>cases B;simp[POp.eC] at hw
  ·cases B
 ·
  split at B
  ·split at B
   ·split at B<;>cases B;simp[POp.gU] at hn
   ·cases B
  ·cases B
 ·
  rename_i t x lo hi mx K;split at B
  ·rename_i e p l h m Q V hl hh hm;split at B
   ·cases B
   ·rename_i ν;simp only[a7Q] at B;obtain⟨s,S,rfl⟩:=B;exact ajD K Q S V hl hh hm ν A N hW M
  ·rename_i p l h Q V hl hh hm;cases B;have ξ:mx=none:=by
    cases mx with
    | none=>rfl
    | some y=>simp only[Tbl.opt,a7Q] at hm; obtain⟨_,-,O⟩:=hm; cases O
   subst ξ;simp only[aO] at A;split at A
   ·rename_i str J;split at A
    ·rename_i li ω bl bh;split at A
     ·rename_i hb;cases A;exact .val hW (s:=Instr.sliceAt t (a.eval x) (lo.map a.eval) (hi.map a.eval) (Option.map a.eval none)) (by unfold execOp; rw[K]) (w8 Q hl hh (bC V J N M) bl bh hb.1 hb.2.1 hb.2.2 N M)
     ·cases A
    ·cases A
   ·cases A
  ·rename_i n' e p Q V hl hh hm;have ι:∀ {y:Option Operand},T.opt y=some none→y=none:=by
    intro y U;cases y with
    | none=>rfl
    | some y=>simp only[Tbl.opt,a7Q] at U; obtain⟨_,-,O⟩:=U; cases O
   have R:=ι hl;have W:=ι hh;have h3:=ι hm;subst R W h3;simp only[a7Q] at B;obtain⟨s,S,rfl⟩:=B;simp only[aO] at A;split at A
   ·rename_i cs J;split at A
    ·rename_i hb;cases A;exact .val hW (s:=Instr.sliceAt t (a.eval x) (Option.map a.eval none) (Option.map a.eval none) (Option.map a.eval none)) (by unfold execOp; rw[K]) (Sn Q S (bC V J N M) hb.1 hb.2.2 N M)
    ·cases A
   ·cases A
  ·cases B
 ·
  rename_i t x f K;split at B
  ·rename_i fs q Q O;split at B
   ·rename_i fd hf;split at B
    ·rename_i s S;cases B;simp only[aO] at A;split at A
     ·rename_i J;cases A;exact .val hW (s:=Instr.fieldAt t (a.eval x) f) (by unfold execOp; rw[K]) (PP Q hf S (bC O J N M) (.inl ⟨_,_,_,_,rfl,rfl⟩))
     ·rename_i J;cases A;exact .val hW (s:=Instr.fieldAt t (a.eval x) f) (by unfold execOp; rw[K]) (PP Q hf S (bC O J N M) (.inr ⟨_,rfl,rfl⟩))
     ·cases A
    ·cases B
   ·cases B
  ·cases B
 ·
  rename_i t x f K;split at B
  ·rename_i fs q Q O;split at B
   ·rename_i fd hf;split at B
    ·rename_i k hg S;cases B;simp only[aO] at A;split at A
     ·rename_i cs J;split at A
      ·rename_i θ;cases A;exact .val hW (s:=Instr.field t (a.eval x) f) (by unfold execOp; rw[K]) (akB Q hf hg S (bC O J N M) θ)
      ·cases A
     ·cases A
    ·rename_i k hg;cases B;simp only[aO] at A;split at A
     ·rename_i cs J;exact .val hW (s:=Instr.field t (a.eval x) f) (by unfold execOp; rw[K]) (asF Q hf hg (bC O J N M) A)
     ·cases A
    ·cases B
   ·cases B
  ·cases B
 ·
  rename_i t x i K;split at B
  ·rename_i e p q Q Z O;simp only[a7Q] at B;obtain⟨s,S,rfl⟩:=B;simp only[aO] at A;split at A
   ·rename_i s0 rows k m R W;have r1:=bC Z R N M;have r2:=bC O W N M;generalize U:a.eval i=ey at r2;cases r2;split at A
    ·rename_i B;obtain⟨rfl,h0⟩:=B;split at A
     ·rename_i r hr;cases A;refine .val hW (s:=Instr.indexAt t (a.eval x) (a.eval i)) (by unfold execOp; rw[K]) ?_;rw[U];exact aPX Q S r1 h0 hr
     ·cases A
    ·cases A
   ·rename_i o' s0 χ len k m R W;have r1:=bC Z R N M;have r2:=bC O W N M;generalize U:a.eval i=ey at r2;cases r2;split at A
    ·rename_i B;obtain⟨rfl,h0,hi⟩:=B;cases A;refine .val hW (s:=Instr.indexAt t (a.eval x) (a.eval i)) (by unfold execOp; rw[K]) ?_;rw[U];exact aFV Q S r1 h0 hi
    ·cases A
   ·cases A
  ·rename_i e p q k Q Z O;simp only[a7Q] at B;obtain⟨s,S,rfl⟩:=B;simp only[aO] at A;split at A
   ·rename_i R W;have r1:=bC Z R N M;have r2:=bC O W N M;generalize U:a.eval i=ey at r2;cases r2;split at A
    ·rename_i B;cases A;refine .val hW (s:=Instr.indexAt t (a.eval x) (a.eval i)) (by unfold execOp; rw[K]) ?_;rw[U];exact jz Q S r1 B.1 B.2 (.inl ⟨_,_,_,_,rfl,rfl⟩)
    ·cases A
   ·rename_i R W;have r1:=bC Z R N M;have r2:=bC O W N M;generalize U:a.eval i=ey at r2;cases r2;split at A
    ·rename_i B;cases A;refine .val hW (s:=Instr.indexAt t (a.eval x) (a.eval i)) (by unfold execOp; rw[K]) ?_;rw[U];exact jz Q S r1 B.1 B.2 (.inr ⟨_,rfl,rfl⟩)
    ·cases A
   ·cases A
  ·cases B
 ·
  rename_i t x i K;split at B
  ·rename_i e p q k Q Z O;split at B
   ·rename_i s g S hg;cases B;simp only[aO] at A;split at A
    ·rename_i R W;have r1:=bC Z R N M;have r2:=bC O W N M;generalize U:a.eval i=ey at r2;cases r2;split at A
     ·rename_i B;refine .val hW (s:=Instr.index t (a.eval x) (a.eval i)) (by unfold execOp; rw[K]) ?_;rw[U];exact alA Q S hg r1 B.1 B.2 A
     ·cases A
    ·cases A
   ·cases B
  ·rename_i p q Q Z O;cases B;simp only[aO] at A;split at A
   ·rename_i R W;have r1:=bC Z R N M;have r2:=bC O W N M;generalize U:a.eval i=ey at r2;cases r2;split at A
    ·rename_i B;refine .val hW (s:=Instr.index t (a.eval x) (a.eval i)) (by unfold execOp; rw[K]) ?_;rw[U];exact Nt Q r1 B A
    ·cases A
   ·cases A
  ·cases B
 ·
  rename_i x i K;simp only[a7Q] at B;obtain⟨q,O,rfl⟩:=B;simp only[aO] at A;split at A
  ·rename_i vs J;have r:=bC O J N M;generalize V:a.eval x=ex at r;cases r with
   | tup us hl hr =>
   obtain⟨u,Q,τ⟩:=Im hl hr A;refine .val hW (s:=Instr.extract (a.eval x) i) (by unfold execOp; rw[K]) ⟨u,?_,τ⟩;rw[V];simp[Instr.extract,Q]
  ·cases A
 ·rename_i c K;exact arL K B hw hk A N hW M
 ·cases B
end
open Go Go.RowKit
def Env.own (E:Env) (b n:Nat):Env:=⟨E.G,upd E.sz b (some n),E.num⟩
section
variable {ds:List Deferred} {T:Tbl} {n:Nat} {E:Env} {F:PF} {H:PH} {a:Act} {w:World}
theorem Env.aVS (hW:bM E H w) (m:Nat):E.le (E.own w.heap.size m):=by
 refine⟨fun b ds h=>h,fun b k h=>?_,rfl⟩;have:=hW.Si h;simp only[Env.own];rw[TO _ _ Om];exact h
theorem yY {s:Nat} {rs:List (List PV)} (h:∀ r∈rs,r.length=s) {i j:Nat} {pv:PV} (c:at2 rs i j=some pv):i<rs.length∧j<s:=by
 unfold at2 at c;cases d:rs[i]? with
 | none=>simp[d] at c
 | some r =>
  rw[d,baY] at c;have e:=h r (baC d);refine⟨?_,?_⟩
  ·rcases a8D i rs.length with h' | h'
   ·exact h'
   ·rw[a8X h'] at d; cases d
  ·rcases a8D j r.length with h' | h'
   ·omega
   ·rw[a8X h'] at c; cases c
def kN (E:Env) (s:Nat) (rs:List (List PV)) (cs:Array Value):Prop :=
 (∀ r∈rs,r.length=s)∧rs.length*s≤cs.size∧∀ i j pv,at2 rs i j=some pv→∃ u,cs[i*s+j]?=some u∧u.oneCell'=true∧aZ E pv u
theorem kN.of_flat {s:Nat} {rs:List (List PV)} {cs:Array Value} (h:mW E rs.flatten cs) (c:∀ r∈rs,r.length=s):kN E s rs cs:=by
 refine⟨c,by rw[h.1,oH rs c]; exact a7M _,fun i j pv d=>?_⟩;obtain⟨-,l⟩:=yY c d;have e:=uT rs i j c l;rw[d] at e;have hlt:i*s+j<cs.size:=by
  rw[h.1];rcases a8D (i*s+j) rs.flatten.length with h' | h'
  ·exact h'
  ·rw[a8X h'] at e; cases e
 exact⟨cs[i*s+j],baT hlt,h.2.1 _ (Array.getElem_mem_toList hlt),h.2.2 _ pv _ e (baT hlt)⟩
theorem kN.mono {c:Env} (p:E.le c) {s:Nat} {rs:List (List PV)} {cs:Array Value} (h:kN E s rs cs):kN c s rs cs :=
 ⟨h.1,h.2.1,fun i j pv q=>by obtain⟨u,d,e,l⟩:=h.2.2 i j pv q; exact⟨u,d,e,l.mono p⟩⟩
theorem cN (H:PH) (o q:Nat) (x:cG):(H.set o x).f q=if q=o then some x else H.f q:=rfl
theorem bM.OE (hW:bM E H w) {s:Nat} {rs:List (List PV)} {cs:Array Value} (ty:TypeId) (h:kN E s rs cs) :
  bM (E.own w.heap.size cs.size) (H.set w.heap.size (.rows s rs)) (w.alloc (.cells cs ty))∧Ext E H w (E.own w.heap.size cs.size) (H.set w.heap.size (.rows s rs)) (w.alloc (.cells cs ty)):=by
 have p:=Env.aVS hW cs.size;refine⟨⟨fun b ds y=>?_,fun o x c=>?_,fun o m A=>?_⟩,⟨p,rfl,rfl,rfl,by simp,fun b y _=>Below.heap_alloc w _ b y,fun o x c=>?_,fun b ds y=>.inl y⟩⟩
 ·obtain⟨d,q,J,l⟩:=hW.g b ds y;have hlt:=hW.akJ y;refine⟨fun x K=>d x ?_,q,J,(Below.heap_alloc w _ b hlt).trans l⟩;rw[cN,if_neg Om] at K;exact K
 ·rw[cN] at c;split at c
  ·rename_i e;subst e;cases c;refine⟨by simp,cs,ty,heap_alloc_new w _,by simp[Env.own,upd],h.1,h.2.1,fun i j pv N=>?_⟩;obtain⟨u,d,l,M⟩:=h.2.2 i j pv N;exact⟨u,d,l,M.mono p⟩
  ·obtain⟨d,l⟩:=hW.h o x c;exact⟨by simp; omega,l.mono p (Below.heap_alloc w _ o d)⟩
 ·simp only[Env.own,upd] at A;split at A
  ·rename_i e;cases A;subst e;exact⟨cs,ty,(0,0),heap_alloc_new w _,rfl⟩
  ·obtain⟨B,q,J,d,l⟩:=hW.s o m A;exact⟨B,q,J,(Below.heap_alloc w _ o (hW.Si A)).trans d,l⟩
 ·rw[cN] at c;split at c
  ·rename_i e; exact .inr Om
  ·exact .inl ⟨x,c⟩
theorem bM.aUS (hW:bM E H w) (sh:MSh):bM E (H.set w.heap.size (.map sh (fun _=>none))) (w.alloc (.map #[] 0))∧Ext E H w E (H.set w.heap.size (.map sh (fun _=>none))) (w.alloc (.map #[] 0)):=by
 refine⟨⟨fun b ds l=>?_,fun o x c=>?_,fun o m A=>?_⟩,⟨.refl E,rfl,rfl,rfl,by simp,fun b l _=>Below.heap_alloc w _ b l,fun o x c=>?_,fun b ds l=>.inl l⟩⟩
 ·obtain⟨p,d,y,q⟩:=hW.g b ds l;have hlt:=hW.akJ l;refine⟨fun x B=>p x ?_,d,y,(Below.heap_alloc w _ b hlt).trans q⟩;rw[cN,if_neg Om] at B;exact B
 ·rw[cN] at c;split at c
  ·rename_i e;subst e;cases c;exact⟨by simp,#[],0,[],heap_alloc_new w _,⟨rfl,List.nodup_nil⟩,rfl,fun i e J h=>by simp at h⟩
  ·obtain⟨p,q⟩:=hW.h o x c;exact⟨by simp; omega,q.mono (.refl E) (Below.heap_alloc w _ o p)⟩
 ·obtain⟨u,d,y,p,q⟩:=hW.s o m A;exact⟨u,d,y,(Below.heap_alloc w _ o (hW.Si A)).trans p,q⟩
 ·rw[cN] at c;split at c
  ·rename_i e; exact .inr Om
  ·exact .inl ⟨x,c⟩
def aYR (P:Program) (E:Env) (H:PH) (w:World) (o:Oper) (a:Act) (e:Nat→PV) (x:cG):Prop :=
 ∃ v d c q,(execOp a.eval o).run P w=.ok (.value v) d∧H q=none∧aZ c (e q) v∧bM c (H.set q x) d∧Ext E H w c (H.set q x) d
theorem nt {cs:List PV} {vs:Array Value} (h:mW E cs vs):kN E cs.length [cs] vs:=by
 refine .of_flat (by simpa using h) (by simp)
theorem Q8 (E:Env) (b m:Nat):(E.own b m).sz b=some m:=by simp[Env.own,upd]
theorem Vt {o:Oper} {c:Call} {p:POp} (d:T.call o c=some p):p.gU=false:=by
 unfold Tbl.call at d
 repeat' (first | (split at d) | (simp only[a7Q] at d; obtain⟨_,-,rfl⟩:=d; rfl) | (cases d; rfl) | (cases d; done))
theorem auD {o:Oper} {p:POp} {mk:Nat→PV} {x:cG} (d:T.op o=some p) (V:p.gU=true) (A:dA p F=some (mk,x)) (hA:dL ds n E F a) (hW:bM E H w) (hN:E.num=T.num):aYR T.P E H w o a mk x:=by
 have B:=hW.akZ;unfold Tbl.op at d;split at d
 case h_4 =>
  rename_i e N;simp only[a7Q] at d;obtain⟨z,hz,rfl⟩:=d;simp only[dA,a9V.injEq,Prod.mk.injEq] at A;obtain⟨rfl,rfl⟩:=A;obtain⟨i,Y,hi,U,X⟩:=MP (E:=E) hz;obtain⟨Z,h2⟩:=hW.OE e (nt X);have u:(Instr.alloc e true (.tuple #[])).run T.P w=.ok (.pointer (some ⟨w.heap.size,0,none⟩)) (w.alloc (.cells Y.cells e)):=by simp[Instr.alloc,zeroValue,typeInfo,hi,U,newVar,newRow]
  refine⟨_,_,_,w.heap.size,sE ?_ u,B,?_,Z,h2⟩
  ·unfold execOp; rw[N]
  ·have:=aZ.ptr (E:=E.own w.heap.size Y.cells.size) w.heap.size z.length 0 0;simpa using this
 case h_5 =>
  rename_i e y N;simp only[a7Q] at d;obtain⟨q,hq,rfl⟩:=d;generalize ζ:T.u0 o.dst=ro at *
  cases ro with
  | true=>simp[POp.gU] at V
  | false =>
   simp only[dA] at A;split at A
   ·rename_i v W;split at A
    ·rename_i Z;simp only[a9V.injEq,Prod.mk.injEq] at A;obtain⟨rfl,rfl⟩:=A;obtain⟨c1,c2,c3⟩:=vL (bC hq W hA hN) Z;obtain⟨g1,g2⟩:=hW.OE e (nt (E:=E) (cs:=v.cells) (vs:=(a.eval y).cells) ⟨c1,c2,c3⟩);have u:(Instr.box e (a.eval y)).run T.P w=.ok (.pointer (some ⟨w.heap.size,0,none⟩)) (w.alloc (.cells (a.eval y).cells e)):=by simp[Instr.box,newVar,newRow]
     refine⟨_,_,_,w.heap.size,sE ?_ u,B,?_,g1,g2⟩
     ·unfold execOp; rw[N]
     ·have:=aZ.ptr (E:=E.own w.heap.size (a.eval y).cells.size) w.heap.size v.cells.length 0 0;simpa using this
    ·cases A
   ·cases A
 case h_7 =>
  rename_i t len parts N;split at d
  ·rename_i e hu;split at d
   ·rename_i s z pl hs hz ε;split at d
    ·rename_i J;cases d;generalize ζ:T.u0 o.dst=ro at *
     cases ro with
     | true=>simp[POp.gU] at V
     | false =>
      simp only[dA] at A;split at A
      ·rename_i δ;simp only[a7Q,Prod.mk.injEq] at A;obtain⟨out,γ,rfl,rfl⟩:=A;obtain⟨us,u,M,Q,β⟩:=OL (w:=w) hu hs hz J.1 J.2 ε δ.2 γ hA hN;obtain⟨g1,g2⟩:=hW.OE e (kN.of_flat M Q);refine⟨_,_,_,w.heap.size,sE ?_ u,B,?_,g1,g2⟩
       ·unfold execOp; rw[N]
       ·have θ:us.size=len*s:=by rw[M.1,oH out Q,β]
        refine .osl (n:=us.size) rfl rfl (.inr (by simp)) (a7M _) ?_ (Q8 _ _ _) (by rw[θ]; omega);have:len*1≤len*s:=a9T _ J.2;simp only[maxLen];omega
      ·cases A
    ·cases d
   ·cases d
  ·cases d
 case h_15 =>
  rename_i t N;split at d
  case h_2=>cases d
  simp only[a7Q] at d;obtain⟨sh,-,rfl⟩:=d;simp only[dA,a9V.injEq,Prod.mk.injEq] at A;obtain⟨rfl,rfl⟩:=A;obtain⟨g1,g2⟩:=hW.aUS sh;have u:(Instr.makeMap t (Option.map a.eval none)).run T.P w=.ok (.map (some w.heap.size)) (w.alloc (.map #[] 0)):=by simp[Instr.makeMap]
  refine⟨_,_,_,w.heap.size,sE ?_ u,B,.map _,g1,g2⟩;unfold execOp; rw[N]
 case h_19 =>
  rename_i t l c N;split at d
  ·rename_i e hu;split at d
   ·rename_i i z p q hi hz hp hq;split at d
    ·rename_i J;cases d;simp only[dA] at A;split at A
     ·rename_i k1 m1 k2 R W ι;split at A
      ·rename_i S;simp only[a9V.injEq,Prod.mk.injEq] at A;obtain⟨rfl,rfl⟩:=A;obtain⟨h0,Z,h2,h3,-⟩:=S;have r1:=bC hp W hA hN;have r2:=bC hq ι hA hN;generalize hx:a.eval l=ex at r1;generalize hy:a.eval c=ey at r2;cases r1; cases r2;obtain⟨i',Y,α,U,X⟩:=MP (E:=E) hz;rw[hi] at α;cases α;have u:=run_make w t e i Y hu hi U k1 k2 m1 R h0 Z (by rw[Int.mul_comm]; omega) h3;have M:=X.aOC (len:=R.toNat) J.1 J.2;have O:kN E i.size (a7K R.toNat z) (madeCells Y.cells (R.toNat*i.size)) :=
        kN.of_flat M (fun r hr=>by rw[(List.mem_replicate.1 hr).2]; exact J.1)
       have η:kN E i.size (a7K m1.toNat z) (madeCells Y.cells (R.toNat*i.size)):=by
        refine⟨fun r hr=>by rw[(List.mem_replicate.1 hr).2]; exact J.1,?_,fun a b pv K=>O.2.2 a b pv ?_⟩
        ·have:=O.2.1;simp only[List.length_replicate] at this ⊢;have h5:m1.toNat*i.size≤R.toNat*i.size:=a8N _ Om;omega
        ·unfold at2 at K ⊢;rw[List.getElem?_replicate] at K ⊢;split at K
         ·rw[if_pos Om]; exact K
         ·simp at K
       obtain⟨g1,g2⟩:=hW.OE e η;refine⟨_,_,_,w.heap.size,sE (s:=Instr.makeSlice t (.int k1 m1) (.int k2 R)) ?_ u,B,?_,g1,g2⟩
       ·unfold execOp; rw[N]; simp only[hx,hy]
       ·refine .osl (n:=(madeCells Y.cells (R.toNat*i.size)).size) rfl rfl (.inr (by simp)) Om (by simp only[maxLen]; omega) (Q8 _ _ _) (by rw[size_madeCells]; omega)
      ·cases A
     ·cases A
    ·cases d
   ·cases d
  ·cases d
 all_goals (first
  | (simp only[a7Q] at d; obtain⟨_,-,rfl⟩:=d; simp[POp.gU] at V; done)
  | skip)
 all_goals (repeat' (first | (split at d) | (simp only[a7Q] at d; obtain⟨_,-,rfl⟩:=d; simp[POp.gU] at V; done) | (cases d; simp[POp.gU] at V; done) | (cases d; done)))
 all_goals (rw[Vt d] at V; cases V)
end
open Go Go.RowKit
section
variable {ds:List Deferred} {T:Tbl} {n:Nat} {E:Env} {F:PF} {H:PH} {a:Act} {w:World}
theorem bM.aeN (hW:bM E H w) {o s:Nat} {rs rs':List (List PV)} {i cs:Array Value} {ty:TypeId} (N:H o=some (.rows s rs)) (S:w.heap[o]?=some (.cells i ty (0,0))) (O:cs.size=i.size)
  (h:kN E s rs' cs):bM E (H.set o (.rows s rs')) (w.setRow o cs)∧Ext E H w E (H.set o (.rows s rs')) (w.setRow o cs):=by
 have d:=setRow_heap w o i cs ty (0,0) S;have c:∀ b,b≠o→(w.setRow o cs).heap[b]?=w.heap[b]?:=fun b y=>setRow_other w o b cs y;have J:∀ b ds,E.G b=some ds→b≠o:=fun b ds y e=>by subst e;have:=(hW.g b ds y).1 _ N;cases this
 have K:E.sz o=some i.size:=by obtain⟨-,p,l,u,B,-⟩:=hW.h o _ N;rw[S] at u;cases u;exact B
 refine⟨⟨fun b ds y=>?_,fun q x A=>?_,fun q m R=>?_⟩,⟨.refl E,rfl,rfl,rfl,by simp,fun b _ U=>c b (fun e=>by subst e; rw[N] at U; cases U),fun q x A=>?_,fun b ds y=>.inl y⟩⟩
 ·obtain⟨u,l,Q,B⟩:=hW.g b ds y;have M:=J b ds y;refine⟨fun x V=>u x ?_,l,Q,(c b M).trans B⟩;rw[cN,if_neg M] at V;exact V
 ·rw[cN] at A;split at A
  ·rename_i e;subst e;cases A;refine⟨by simpa using (hW.h q _ N).1,cs,ty,d,by rw[O]; exact K,h.1,h.2.1,h.2.2⟩
  ·rename_i e;obtain⟨u,B⟩:=hW.h q x A;exact⟨by simpa using u,B.mono (.refl E) (c q e)⟩
 ·by_cases e:q=o
  ·subst e;rw[K] at R;cases R;exact⟨cs,ty,(0,0),d,O⟩
  ·obtain⟨p,l,Q,u,B⟩:=hW.s q m R;exact⟨p,l,Q,(c q e).trans u,B⟩
 ·rw[cN] at A;split at A
  ·rename_i e; subst e; exact .inl ⟨_,N⟩
  ·exact .inl ⟨x,A⟩
def Ij (P:Program) (E:Env) (H:PH) (w:World) (o:Oper) (a:Act) (K:PV→PH→Prop):Prop :=
 ∃ v d e c H' pv,(execOp a.eval o).run P w=.ok d e∧(d=.value v∨(d=.skip∧v=undef))∧aZ c pv v∧bM c H' e∧Ext E H w c H' e∧K pv H'
theorem SZ:∀ (ps:List PV) (r:List PV) (c j:Nat),c+ps.length≤r.length→(setCells r c ps)[j]?=if c≤j∧j<c+ps.length then ps[j-c]? else r[j]?
 | [],r,c,j,_=>by rw[if_neg (by intro h; simp at h; omega)];rfl
 | p::ps,r,c,j,h=>by
  simp only[a8Y] at h ⊢;simp only[setCells];rw[SZ ps _ (c+1) j (by rw[a9L]; omega),List.getElem?_set];by_cases d:c=j
  ·subst d;rw[if_neg Om,if_pos rfl,if_pos Om,if_pos Om];simp
  ·by_cases e:c+1≤j∧j<c+1+ps.length
   ·rw[if_pos e,if_pos Om];have:j-c=(j-(c+1))+1:=Om;rw[this,List.getElem?_cons_succ]
   ·rw[if_neg e,if_neg d,if_neg Om]
theorem anV (L cs:List Value) (c k:Nat) (h:c+cs.length≤L.length):(L.take c++cs++L.drop (c+cs.length))[k]?=if c≤k∧k<c+cs.length then cs[k-c]? else L[k]?:=by
 have d:(L.take c).length=c:=by rw[a8A]; omega
 by_cases e:k<c
 ·rw[if_neg Om,a8Q,a9Z Om,baU,if_pos e]
 ·by_cases i:k<c+cs.length
  ·rw[if_pos ⟨by omega,i⟩,a8Q,a9Y Om,d,a9Z Om]
  ·rw[if_neg Om,a8Q,a9Y Om,d,a9Y Om,List.getElem?_drop];congr 1;omega
theorem kN.store {s:Nat} {rs:List (List PV)} {d:Array Value} (h:kN E s rs d) {i c:Nat} {r ps:List PV} {A:List Value} (M:rs[i]?=some r) (Y:c+ps.length≤s) (Z:A.length=ps.length)
  (W:∀ u∈A,u.oneCell'=true) (K:∀ (j:Nat) p u,ps[j]?=some p→A[j]?=some u→aZ E p u) :
  kN E s (rs.set i (setCells r c ps)) (d.toList.take (i*s+c)++A++d.toList.drop (i*s+c+A.length)).toArray:=by
 have hi:i<rs.length:=by
  rcases a8D i rs.length with h' | h'
  ·exact h'
  ·rw[a8X h'] at M; cases M
 have S:r.length=s:=h.1 r (baC M);have O:(i+1)*s≤rs.length*s:=a8N _ hi;rw[baM] at O;have U:=h.2.1;have J:i*s+c+A.length≤d.toList.length:=by (have e:d.toList.length=d.size:=baN; omega)
 refine⟨fun q R=>?_,?_,fun l j pv B=>?_⟩
 ·rcases List.mem_or_eq_of_mem_set R with R | rfl
  ·exact h.1 q R
  ·rw[BW]; exact S
 ·rw[a9L,List.size_toArray];simp only[a7O,a8A,a9J];have e:d.toList.length=d.size:=baN;omega
 ·rw[List.getElem?_toArray,anV _ _ _ _ J];by_cases e:l=i
  ·subst e;simp only[at2,List.getElem?_set,if_true,hi,baY] at B;rw[SZ ps r c j Om] at B;split at B
   ·rename_i X;rw[if_pos Om];have V:l*s+j-(l*s+c)=j-c:=Om;rw[V];have hlt:j-c<A.length:=Om;exact⟨A[j-c],a7U hlt,W _ (a7J hlt),K _ pv _ B (a7U hlt)⟩
   ·rename_i X;have y:at2 rs l j=some pv:=by simp[at2,M,B]
    have N:=(yY h.1 y).2;rw[if_neg Om,Array.getElem?_toList];exact h.2.2 l j pv y
  ·have y:at2 rs l j=some pv:=by simp only[at2] at B ⊢;rw[List.getElem?_set,if_neg (fun x=>e x.symm)] at B;exact B
   have N:=(yY h.1 y).2;have Q:¬ (i*s+c≤l*s+j∧l*s+j<i*s+c+A.length):=by
    rcases a8D l i with h' | h'
    ·have:(l+1)*s≤i*s:=a8N _ h';rw[baM] at this;omega
    ·have:(i+1)*s≤l*s:=a8N _ Om;rw[baM] at this;omega
   rw[if_neg Q,Array.getElem?_toList];exact h.2.2 l j pv y
theorem W8 {o:Oper} {t:TypeId} {Q x:Operand} {pp px:aP} {k:Nat} {pa pv:PV} {H':PH} (ho:o.op=.store t Q x) (hs:T.size t=some k) (W:T.opd Q=some pp) (hx:T.opd x=some px)
  (X:pp.ev F=some pa) (Y:px.ev F=some pv) (M:pv.cells.length=k) (d:storeAt H pa pv.cells=some H') (hA:dL ds n E F a) (hW:bM E H w) (hN:E.num=T.num) :
  ∃ w',(execOp a.eval o).run T.P w=.ok .skip w'∧bM E H' w'∧Ext E H w E H' w':=by
 unfold storeAt at d;split at d
 ·rename_i q size i c;split at d
  ·rename_i s rs hq;split at d
   ·rename_i B;obtain⟨rfl,R,N⟩:=B;split at d
    ·rename_i r Z;cases d;have ra:=bC W X hA hN;generalize S:a.eval Q=ea at ra;cases ra;obtain⟨c1,c2,c3⟩:=vL (bC hx Y hA hN) N;obtain⟨-,l,ty,hh,β,O,J,A⟩:=hW.h q _ hq;have hR:kN E s rs l:=⟨O,J,A⟩;have hi:i<rs.length:=by
      rcases a8D i rs.length with h' | h'
      ·exact h'
      ·rw[a8X h'] at Z; cases Z
     have U:(i+1)*s≤rs.length*s:=a8N _ hi;rw[baM] at U;have α:(a.eval x).cells.toList.length=pv.cells.length:=by simpa using c1
     have K:i*s+c+0+(a.eval x).cells.toList.length≤l.size:=Om;have y:=run_storeCells_at T.P q (i*s+c) ty (a.eval x).cells.toList 0 l w hh K c2;simp only[a9M] at y;obtain⟨g1,g2⟩:=hW.aeN hq hh (cs:=(l.toList.take (i*s+c)++(a.eval x).cells.toList++l.toList.drop (i*s+c+(a.eval x).cells.toList.length)).toArray)
      (by rw[List.size_toArray]; simp only[a7O,a8A,a9J]; have e:l.toList.length=l.size:=baN; omega)
      (hR.store Z R α c2 (fun j p u W hu=>c3 j p u W (by simpa using hu)))
     refine⟨_,?_,g1,g2⟩;unfold execOp;rw[ho];have V:¬ ((a.eval x).cells.size≠k):=by rw[c1,M]; simp
     simp[S,Instr.storeAt,Instr.sureAddr,storeVar,jK hs,V,y]
    ·cases d
   ·cases d
  ·cases d
 ·cases d
end
open Go Go.RowKit
section
variable {T:Tbl} {n:Nat} {E:Env} {F:PF} {H:PH} {a:Act} {w:World}
theorem axC {s:Nat} {pv:PV} {v:Value} {rows:List (List PV)} (P:Program) (hW:bM E H w) (V:aZ E pv v) (h:dX H s pv=some rows) :
  ∃ M cap,∃ news:List Value,v=.slice M rows.length cap∧news.length=rows.length*s∧(∀ u∈news,u.oneCell'=true)∧(∀ r∈rows,r.length=s) ∧
   (∀ i j q,at2 rows i j=some q→∃ u,news[i*s+j]?=some u∧aZ E q u) ∧
   ∀ y:World,y.heap=w.heap→(Builtin.firstCells s rows.length v).run P y=.ok news.toArray y:=by
 obtain⟨M,cap,rfl,Q,d,U⟩:=qb hW V h;by_cases J:rows=[]
 ·subst J;refine⟨M,cap,[],rfl,by simp,by simp,by simp,fun i j q l=>by simp[at2] at l,fun y _=>?_⟩;cases M with
  | none=>simp[Builtin.firstCells]
  | some x=>simp[Builtin.firstCells,Go.loadCells,Go.loadCellsFrom]
 ·obtain⟨b,p,rfl,c⟩:=U J;have A:∀ k,k<rows.length*s→∃ u q,at2 rows (k/s) (k%s)=some q∧w.cell? ⟨b,p+k,none⟩=some u∧u.oneCell'=true∧aZ E q u:=by
   intro k e;have R:0<s:=by
    rcases a9Q s with h | h
    ·subst h; simp at e
    ·exact h
   have O:k/s<rows.length:=(baK R).2 e;have W:k%s<s:=a8Z _ R;have S:k/s*s+k%s=k:=by rw[a8L]; exact baV k s
   have l:∃ q,at2 rows (k/s) (k%s)=some q:=by have Y:=d rows[k/s] (a7J O);exact⟨rows[k/s][k%s]'Om,by simp[at2,O,a7U (Om:k%s<rows[k/s].length)]⟩
   obtain⟨q,l⟩:=l;obtain⟨u,g1,g2,g3⟩:=c _ _ q l;rw[S] at g1;exact⟨u,q,l,g1,g2,g3⟩
  refine⟨_,cap,(a7H (rows.length*s)).map fun k=>(w.cell? ⟨b,p+k,none⟩).getD undef,rfl,by simp,?_,d,?_,?_⟩
  ·intro u K;simp only[a8J,a8K] at K;obtain⟨k,e,rfl⟩:=K;obtain⟨u,q,-,g1,g2,-⟩:=A k e;simp[g1,g2]
  ·intro i j q l;obtain⟨hi,X⟩:=yY d l;have hlt:i*s+j<rows.length*s:=by have:(i+1)*s≤rows.length*s:=a8N _ hi;rw[baM] at this;omega
   obtain⟨u,g1,g2,g3⟩:=c i j q l;refine⟨u,?_,g3⟩;rw[a8F,List.getElem?_range hlt];simp[g1]
  ·intro y N;refine run_firstCells_some y s rows.length _ _ cap _ (by simp) (fun j u K=>?_);rw[add_plain];simp only[a8F,a7Q] at K;obtain⟨k,e,rfl⟩:=K;have B:j<rows.length*s:=by
    rcases a8D j (rows.length*s) with h' | h'
    ·exact h'
    ·rw[a8X (by simpa using h')] at e; cases e
   rw[List.getElem?_range B] at e;cases e;obtain⟨u,q,-,g1,-,-⟩:=A j B;have:y.cell? ⟨b,p+j,none⟩=w.cell? ⟨b,p+j,none⟩:=by simp[World.cell?,N]
   rw[this,g1];rfl
theorem SW {t ty e:TypeId} {i:TypeInfo} (x:T.P.underlying t=some (.slice e)) (hi:T.P.info? e=some i) (base:Option Addr) (l d c:Nat) (q:Option Addr) (p:l≤d)
  (u:(Builtin.firstCells i.size 0 (.slice q 0 c)).run T.P w=.ok #[] w):(Builtin.append_ #[t,t] ty #[.slice base l d,.slice q 0 c]).run T.P w=.ok (.slice base l d) w:=by
 cases base with
 | none=>simp[Builtin.append_,run_underlying x,sizeOf,typeInfo,hi,Builtin.lenOf,p,u]
 | some b=>simp[Builtin.append_,run_underlying x,sizeOf,typeInfo,hi,Builtin.lenOf,p,u,storeCells]
theorem Sg {t ty e bt:TypeId} {i:TypeInfo} (M:T.P.underlying t=some (.slice e)) (hi:T.P.info? e=some i) (g d p m c:Nat) (A:Option Addr) (l:Array Value) (K:w.heap[g]?=some (.cells l bt (0,0)))
  (news:List Value) (N:news.length=m*i.size) (J:(Builtin.firstCells i.size m (.slice A m c)).run T.P w=.ok news.toArray w) (B:∀ u∈news,u.oneCell'=true) (q:d+m≤p) (x:d*i.size+news.length≤l.size) :
  (Builtin.append_ #[t,t] ty #[.slice (some ⟨g,0,none⟩) d p,.slice A m c]).run T.P w =
   .ok (.slice (some ⟨g,0,none⟩) (d+m) p) (w.setRow g (l.toList.take (d*i.size)++news++l.toList.drop (d*i.size+news.length)).toArray):=by
 have y:=run_storeCells_at T.P g (d*i.size) bt news 0 l w K (by simpa using x) B;simp only[a9M] at y;simp[Builtin.append_,run_underlying M,sizeOf,typeInfo,hi,Builtin.lenOf,q,J,Addr.add_lit,y]
theorem Sf {t ty e:TypeId} {i:TypeInfo} {z:Value} (N:T.P.underlying t=some (.slice e)) (hi:T.P.info? e=some i) (O:i.zero=some z) (base:Option Addr) (d l m c:Nat) (x:Option Addr) (a7E news:List Value)
  (M:(Builtin.firstCells i.size d (.slice base d l)).run T.P w.drew=.ok a7E.toArray w.drew) (B:(Builtin.firstCells i.size m (.slice x m c)).run T.P w.drew=.ok news.toArray w.drew)
  (J:l<d+m) (u:d+m≤maxLen) (A:(d+m)*i.bytes≤140737488355328) :
  (Builtin.append_ #[t,t] ty #[.slice base d l,.slice x m c]).run T.P w =
   .ok (.slice (some ⟨w.heap.size,0,none⟩) (d+m) (grownCap w (d+m) l e))
    (w.drew.alloc (.cells (a7E.toArray++news.toArray++Builtin.zeroCells z.cells (grownCap w (d+m) l e-(d+m))) e)):=by
 have K:¬ (d+m≤l):=Om;simp only[maxLen] at u;have q:¬ (9223372036854775807<((d:Int)+(m:Int))):=Om;have y:=growslice_fits J A;have p:¬ (281474976710656<Builtin.nextslicecap (d+m) l*i.bytes):=Om;simp[Builtin.append_,run_underlying N,sizeOf,typeInfo,zeroValue,hi,O,Builtin.lenOf,K,q,p,Question.forced,B,M,newRow,grownCap];congr 2;apply Array.ext';simp[a8Q]
theorem bM.drew (hW:bM E H w):bM E H w.drew:=⟨hW.g,fun o x c=>⟨(hW.h o x c).1,(hW.h o x c).2.mono (.refl E) rfl⟩,hW.s⟩
theorem Ext.wb {c:Env} {H':PH} {d:World} (h:Ext E H w.drew c H' d):Ext E H w c H' d:=⟨h.env,h.os,h.tape,h.output,h.size,h.block,h.new,h.newG⟩
theorem aiW {rs src:List (List PV)} (i j:Nat):at2 (rs++src) i j=if i<rs.length then at2 rs i j else at2 src (i-rs.length) j:=by
 unfold at2;rw[List.getElem?_append];split<;>rfl
theorem kN.join {s:Nat} {rs src:List (List PV)} {a7E news:List Value} {tail:List Value} (p:∀ r∈rs,r.length=s) (x:∀ r∈src,r.length=s) (c:a7E.length=rs.length*s) (l:news.length=src.length*s)
  (A:∀ i j q,at2 rs i j=some q→∃ u,a7E[i*s+j]?=some u∧u.oneCell'=true∧aZ E q u) (y:∀ i j q,at2 src i j=some q→∃ u,news[i*s+j]?=some u∧u.oneCell'=true∧aZ E q u) :
  kN E s (rs++src) (a7E++news++tail).toArray:=by
 refine⟨fun r B=>?_,?_,fun i j q d=>?_⟩
 ·rcases a9C.1 B with h | h
  ·exact p r h
  ·exact x r h
 ·rw[List.size_toArray,a7O,a7O,a7O,c,l,a8M];omega
 ·rw[aiW] at d;rw[List.getElem?_toArray];split at d
  ·rename_i hi;obtain⟨u,g1,g2,g3⟩:=A i j q d;refine⟨u,?_,g2,g3⟩;have hlt:i*s+j<a7E.length:=by
    rcases a8D (i*s+j) a7E.length with h' | h'
    ·exact h'
    ·rw[a8X h'] at g1; cases g1
   rw[a8Q,a9Z hlt];exact g1
  ·rename_i hi;obtain⟨u,g1,g2,g3⟩:=y _ j q d;refine⟨u,?_,g2,g3⟩;have hlt:(i-rs.length)*s+j<news.length:=by
    rcases a8D ((i-rs.length)*s+j) news.length with h' | h'
    ·exact h'
    ·rw[a8X h'] at g1; cases g1
   have e:i*s+j=a7E.length+((i-rs.length)*s+j):=by rw[c,← a9R,← a8M];congr 2;omega
   rw[e,a8Q,a9Y Om,Nat.add_sub_cancel_left,a9Z hlt];exact g1
theorem bM.dead (hW:bM E H w) {o:Nat} {x:cG} (l:H o=some x):bM E (H.set o .dead) w∧Ext E H w E (H.set o .dead) w:=by
 refine⟨⟨fun b ds d=>⟨fun y i=>?_,(hW.g b ds d).2⟩,fun q y c=>?_,hW.s⟩,⟨.refl E,rfl,rfl,rfl,a7M _,fun _ _ _=>rfl,fun q y c=>?_,fun b ds d=>.inl d⟩⟩
 ·rw[cN] at i;split at i
  ·cases i; rfl
  ·exact (hW.g b ds d).1 y i
 ·rw[cN] at c;split at c
  ·rename_i e;subst e;cases c;exact⟨(hW.h q x l).1,trivial⟩
  ·exact hW.h q y c
 ·rw[cN] at c;split at c
  ·rename_i e; subst e; exact .inl ⟨x,l⟩
  ·exact .inl ⟨y,c⟩
end
open Go Go.RowKit
section
variable {T:Tbl} {n:Nat} {E:Env} {F:PF} {H:PH} {a:Act} {w:World}
theorem akR (w:World) (c d:Nat) (e:TypeId):c≤grownCap w c d e:=grownCap_ge w c d e
theorem oU {o:Oper} {c:Call} {x y:Operand} {t:TypeId} {v:Value} {l:World} (u:o.op=.call c) (e:c.callee=.builtin .append) (d:c.args.toList=[x,y]) (i:c.argTypes.toList=[t,t])
  (h:(Builtin.append_ #[t,t] o.type #[a.eval x,a.eval y]).run T.P w=.ok v l):(execOp a.eval o).run T.P w=.ok (.value v) l:=by
 unfold execOp;rw[u];have p:c.argTypes=#[t,t]:=by apply Array.ext'; simp[i]
 have q:=aiV d a.eval;simp[resolve,e,invoke,builtin,p,q,h]
theorem bM.trim (hW:bM E H w) {o s k:Nat} {rs:List (List PV)} (B:H o=some (.rows s rs)):bM E (H.set o (.rows s (rs.take k))) w∧Ext E H w E (H.set o (.rows s (rs.take k))) w:=by
 refine⟨⟨fun b ds l=>⟨fun y K=>?_,(hW.g b ds l).2⟩,fun q y c=>?_,hW.s⟩,⟨.refl E,rfl,rfl,rfl,a7M _,fun _ _ _=>rfl,fun q y c=>?_,fun b ds l=>.inl l⟩⟩
 ·rw[cN] at K;split at K
  ·rename_i e; subst e;have:=(hW.g b ds l).1 _ B;cases this
  ·exact (hW.g b ds l).1 y K
 ·rw[cN] at c;split at c
  ·rename_i e;subst e;cases c;obtain⟨N,A,ty,O,J,x,M,d⟩:=hW.h q _ B;refine⟨N,A,ty,O,J,fun r Q=>x r (List.mem_of_mem_take Q),?_,fun i j p u=>d i j p ?_⟩
   ·have:(rs.take k).length*s≤rs.length*s:=a8N _ (by rw[a8A]; omega);omega
   ·unfold at2 at u ⊢;rw[baU] at u;split at u
    ·exact u
    ·simp at u
  ·exact hW.h q y c
 ·rw[cN] at c;split at c
  ·rename_i e; subst e; exact .inl ⟨_,B⟩
  ·exact .inl ⟨y,c⟩
theorem Ip {o:Oper} {c:Call} {x y:Operand} {t e:TypeId} {i:TypeInfo} {px py:PV} {K:PV→PH→Prop} (ho:o.op=.call c) (ι:c.callee=.builtin .append) (θ:c.args.toList=[x,y]) (μ:c.argTypes.toList=[t,t])
  (ht:T.P.underlying t=some (.slice e)) (hi:T.P.info? e=some i) (hz:i.zero.isSome=true) (A':(i.zero.map (·.cells.size))=some i.size) (h0:0<i.size)
  (hx:aZ E px (a.eval x)) (hy:aZ E py (a.eval y)) (hK:mP H i.size i.bytes px py K) (hW:bM E H w):Ij T.P E H w o a K:=by
 obtain⟨z,hz⟩:=Option.isSome_iff_exists.1 hz;have B':z.cells.size=i.size:=by simpa [hz] using A'
 obtain⟨src,c',hK⟩:=hK;obtain⟨ad,cap,news,R,X,ψ,ζ,V,M⟩:=axC T.P hW hy c';have grow:∀ (base:Option Addr) (d l:Nat) (rs:List (List PV)) (a7E:List Value),(Builtin.firstCells i.size d (.slice base d l)).run T.P w.drew=.ok a7E.toArray w.drew→a7E.length=d*i.size→rs.length=d →
   (∀ r∈rs,r.length=i.size)→(∀ O j q,at2 rs O j=some q→∃ u,a7E[O*i.size+j]?=some u∧u.oneCell'=true∧aZ E q u)→l<d+src.length→roomFor d src.length i.bytes→a.eval x=.slice base d l →
   ∀ (H1:PH),bM E H1 w→Ext E H w E H1 w→∃ v w' E' q,(execOp a.eval o).run T.P w=.ok (.value v) w'∧H1 q=none∧aZ E' (.osl q i.size 0 (d+src.length)) v∧bM E' (H1.set q (.rows i.size (rs++src))) w'∧Ext E H w E' (H1.set q (.rows i.size (rs++src))) w':=by
  intro base d l rs a7E ε ν S y' u' hlt A Z H1 Δ g';have B:=Sf (w:=w) (ty:=o.type) ht hi hz base d l src.length cap ad a7E news ε (by rw[← R]; exact M w.drew rfl) hlt A.1 A.2;have m':=akR w (d+src.length) l e;have l':=grownCap_le_maxLen w (d+src.length) l e A.1;generalize J':grownCap w (d+src.length) l e=gc at *
  have s':∀ O j q,at2 src O j=some q→∃ u,news[O*i.size+j]?=some u∧u.oneCell'=true∧aZ E q u:=fun O j q hq=>by obtain⟨u,g1,g2⟩:=V O j q hq;exact⟨u,g1,ψ u (baC g1),g2⟩
  have hR:=kN.join (E:=E) (tail:=(Builtin.zeroCells z.cells (gc-(d+src.length))).toList) y' ζ (by rw[ν,S]) X u' s';have κ:(a7E.toArray++news.toArray++Builtin.zeroCells z.cells (gc-(d+src.length)))=(a7E++news++(Builtin.zeroCells z.cells (gc-(d+src.length))).toList).toArray:=by apply Array.ext'; simp
  rw[κ] at B;have η:(a7E++news++(Builtin.zeroCells z.cells (gc-(d+src.length))).toList).toArray.size=gc*i.size:=by
   have ez:(Builtin.zeroCells z.cells (gc-(d+src.length))).toList.length=(gc-(d+src.length))*i.size:=by rw[baN,size_zeroCells,B']
   rw[List.size_toArray,a7O,a7O,ez,ν,X,← a8M,← a8M];congr 1;omega
  obtain⟨g1,g2⟩:=Δ.drew.OE e hR;refine⟨_,_,_,w.heap.size,oU ho ι θ μ (by rw[Z,R]; exact B),Δ.akZ,?_,g1,g'.trans g2.wb⟩;refine .osl rfl rfl (.inr (by simp)) m' l' (Q8 _ _ _) ?_;rw[η];omega
 split at hK
 ·
  have d':a.eval x=.slice none 0 0:=by generalize a.eval x=v at hx;cases hx;rfl
  obtain⟨A,Ψ,Γ⟩:=hK;by_cases Y:src=[]
  ·subst Y;have γ:=M w rfl;have χ:news=[]:=List.eq_nil_of_length_eq_zero (by rw[X]; simp);subst χ;rw[R] at γ;have B:=SW (w:=w) (ty:=o.type) ht hi none 0 0 cap ad (a7M _) γ;exact⟨_,_,w,E,H,.aB,oU ho ι θ μ (by rw[d',R]; exact B),.inl rfl,.aB,hW,.refl E H w,Ψ rfl⟩
  ·have b':0<src.length:=List.length_pos_iff.2 Y;obtain⟨v,w',E',q,g1,g2,g3,g4,g5⟩:=grow none 0 0 [] [] (by simp[Builtin.firstCells]) (by simp) rfl (by simp) (fun O j q hq=>by simp[at2] at hq) Om A d' H hW (.refl E H w);refine⟨v,_,w',E',_,_,g1,.inl rfl,g3,g4,g5,?_⟩;have:=Γ Y q g2;simpa using this
 ·
  rename_i q s K' len;obtain⟨rfl,rfl,A,rs,hq,v',α,σ⟩:=hK;have υ:∃ b l,a.eval x=.slice (some b) len l:=by generalize a.eval x=v at hx;cases hx;exact⟨_,_,rfl⟩
  obtain⟨b,l,Z⟩:=υ;obtain⟨d,rfl⟩:∃ d,d=len:=⟨_,rfl⟩
  ·rw[Z] at hx;cases hx with
   | osl hb z' W ο ρ Ω ξ =>
   rename_i N;obtain⟨D',J,ty,hh,η,x',f',e'⟩:=hW.h q _ hq;obtain⟨Θ,h'⟩:=hW.trim (k:=d) hq;obtain⟨-,C',L',Λ,I',Q,ω,β⟩:=Θ.h q (.rows i.size (rs.take d)) (by rw[cN,if_pos rfl]);rw[hh] at Λ;cases Λ;have S:(rs.take d).length=d:=by rw[a8A]; omega
   generalize G':rs.take d=U at *
   have j':N=J.size:=by rw[η] at Ω; cases Ω; rfl
   subst j';simp only[Nat.zero_mul,a8E] at ξ W;by_cases Y:src=[]
   ·subst Y;have γ:=M w rfl;have χ:news=[]:=List.eq_nil_of_length_eq_zero (by rw[X]; simp);subst χ;rw[R] at γ;have B:=SW (w:=w) (ty:=o.type) ht hi (some b) d l cap ad ο γ;simp only[a9G,a9W,a9M] at α;exact⟨_,_,w,E,_,.osl q i.size 0 d,oU ho ι θ μ (by rw[Z,R]; exact B),.inl rfl,.osl hb z' (by simpa using W) ο ρ η Om,Θ,h',α⟩
   ·have b':0<src.length:=List.length_pos_iff.2 Y;by_cases δ:d+src.length≤l
    ·have τ:b=⟨q,0,none⟩:=by
      have:b.off=0:=by
       rcases W with h | h
       ·omega
       ·exact h
      cases b; simp_all
     subst τ;have Ξ:(d+src.length)*i.size≤l*i.size:=a8N _ δ;rw[a8M] at Ξ;have B:=Sg (w:=w) (ty:=o.type) ht hi q d l src.length cap ad J hh news X (by rw[← R]; exact M w rfl) ψ δ Om;have r':(J.toList.take (d*i.size)).length=U.length*i.size:=by rw[a8A,baN,S]; omega
     have k':=kN.join (E:=E) (s:=i.size) (rs:=U) (src:=src) (a7E:=J.toList.take (d*i.size)) (news:=news) (tail:=J.toList.drop (d*i.size+news.length)) Q ζ r' X
      (fun O j p hp=>by obtain⟨u,g1,g2,g3⟩:=β O j p hp;obtain⟨φ,o'⟩:=yY Q hp;refine⟨u,?_,g2,g3⟩;have:(O+1)*i.size≤U.length*i.size:=a8N _ φ;rw[baM,S] at this;rw[baU,if_pos Om,Array.getElem?_toList];exact g1)
      (fun O j p hp=>by obtain⟨u,g1,g2⟩:=V O j p hp;exact⟨u,g1,ψ u (baC g1),g2⟩)
     obtain⟨g1,g2⟩:=hW.aeN hq hh (rs':=U++src) (cs:=(J.toList.take (d*i.size)++news++J.toList.drop (d*i.size+news.length)).toArray)
      (by rw[List.size_toArray]; simp only[a7O,a8A,a9J]; have e:J.toList.length=J.size:=baN; omega) k'
     exact⟨_,_,_,E,_,.osl q i.size 0 (d+src.length),oU ho ι θ μ (by rw[Z,R]; exact B),.inl rfl,.osl rfl rfl (.inr (by simp)) δ ρ η Om,g1,g2,α⟩
    ·have ε:∃ a7E:List Value,(Builtin.firstCells i.size d (.slice (some b) d l)).run T.P w.drew=.ok a7E.toArray w.drew∧a7E.length=d*i.size ∧
       (∀ O j p,at2 U O j=some p→∃ u,a7E[O*i.size+j]?=some u∧u.oneCell'=true∧aZ E p u):=by
      by_cases p':d=0
      ·subst p';refine⟨[],run_firstCells_some w.drew i.size 0 b 0 l [] (by simp) (by simp),by simp,fun O j p hp=>?_⟩;have:=(yY Q hp).1;omega
      ·have τ:b=⟨q,0,none⟩:=by
        have:b.off=0:=by
         rcases W with h | h
         ·omega
         ·exact h
        cases b; simp_all
       subst τ;have Φ:(J.toList.take (d*i.size)).length=d*i.size:=by rw[a8A,baN];rw[S] at ω;omega
       refine⟨J.toList.take (d*i.size),run_firstCells_some w.drew i.size d _ d l _ Φ (fun j u hu=>?_),Φ,fun O j p hp=>?_⟩
       ·rw[add_plain,a8E];rw[baU] at hu;split at hu
        ·rw[Array.getElem?_toList] at hu;show w.cell? ⟨q,j,none⟩=some u;rw[cell_of_row w q j J ty (0,0) hh];exact hu
        ·cases hu
       ·obtain⟨u,g1,g2,g3⟩:=β O j p hp;obtain⟨φ,o'⟩:=yY Q hp;refine⟨u,?_,g2,g3⟩;have:(O+1)*i.size≤U.length*i.size:=a8N _ φ;rw[baM,S] at this;rw[baU,if_pos Om,Array.getElem?_toList];exact g1
     obtain⟨a7E,ε,ν,t'⟩:=ε;obtain⟨v,w',E',q',g1,g2,g3,g4,g5⟩:=grow (some b) d l U a7E ε ν S Q t' Om A Z H hW (.refl E H w);exact⟨v,_,w',E',_,_,g1,.inl rfl,g3,g4,g5,σ q' g2⟩
 ·cases hK
end
open Go Go.RowKit
section
variable {ds:List Deferred} {T:Tbl} {n:Nat} {E:Env} {F:PF} {H:PH} {a:Act} {w:World}
def oneOf (c:Array Value) (k:Nat):Value:=if ((c[k]?).getD (.int .i64 0)).oneCell' then (c[k]?).getD (.int .i64 0) else .int .i64 0
theorem avA (c:Array Value) (k:Nat):(oneOf c k).oneCell'=true:=by
 unfold oneOf;split
 ·assumption
 ·rfl
theorem ZQ {o s:Nat} {rs:List (List PV)} {d:Array Value} {M:Env} (x:E.le M) (hG:M.G o=some d) (α:E.sz o=some d.size) (V:kN E s rs d) {pv:PV} {v:Value} (h:aZ E pv v) :
  aZ M (pv.dE o s rs) v:=by
 unfold PV.dE;split
 ·rename_i q s' c len;split
  ·rename_i e;subst e;split
   ·rename_i hc;obtain⟨rfl,W⟩:=hc;cases h with
    | osl hb U J A B hn S =>
    rename_i cap N O;have X:((rs.drop c).take len).length=len:=by rw[a8A,a9J]; omega
    have Q:∀ i j p,at2 ((rs.drop c).take len) i j=some p→at2 rs (c+i) j=some p:=by
     intro i j p l;unfold at2 at l ⊢;rw[baU] at l;split at l
     ·rw[List.getElem?_drop] at l; exact l
     ·simp at l
    have K:aZ M (.sl s' ((rs.drop c).take len)) (.slice (some O) ((rs.drop c).take len).length cap):=by
     have Z:∀ i j p,at2 ((rs.drop c).take len) i j=some p→∃ u,d[(c+i)*s'+j]?=some u∧aZ E p u∧oneOf d ((c+i)*s'+j)=u:=by intro i j p l;obtain⟨u,g1,g2,g3⟩:=V.2.2 _ _ _ (Q i j p l);exact⟨u,g1,g3,by simp[oneOf,g1,g2]⟩
     refine .sl (fun i j=>oneOf d ((c+i)*s'+j)) (by rw[X]; exact A) B (fun r hr=>V.1 r (List.mem_of_mem_drop (List.mem_of_mem_take hr))) (fun R=>?_) (fun i j=>avA _ _) (fun i j p l=>?_)
     ·have Y:0<((rs.drop c).take len).length:=List.length_pos_iff.2 R;have y:O.off=c*s':=by
       rcases J with h | h
       ·omega
       ·exact h
      refine⟨O,rfl,U,fun i j p l=>?_⟩;obtain⟨u,g1,-,g3⟩:=Z i j p l;rw[g3];unfold Env.cell;rw[hb,hG,baY,y];have e:c*s'+i*s'+j=(c+i)*s'+j:=by rw[a8M]
      rw[e];exact g1
     ·obtain⟨u,-,g2,g3⟩:=Z i j p l;rw[g3];exact g2.mono x
    rw[X] at K;exact K
   ·exact .junk _
  ·exact h.mono x
 ·exact h.mono x
theorem K5 {o s:Nat} {rs:List (List PV)} {c:Array Value} {i:Env} (d:E.le i) (l:i.G o=some c) (e:E.sz o=some c.size) (x:kN E s rs c) {pv:PV} {v:Value} (h:aZ E pv v) :
  aZ i (pv.sO o s rs) v:=by
 unfold PV.sO;split
 ·cases h with
  | agg vs B A K =>
  refine .agg vs (by simpa using B) A (fun j p u y M=>?_);rw[a8F,a7Q] at y;obtain⟨q,J,rfl⟩:=y;exact ZQ d l e x (K j q u J M)
 ·exact ZQ d l e x h
theorem aPH {o s:Nat} {rs:List (List PV)} {c:Array Value} {i:Env} (d:E.le i) (l:i.G o=some c) (e:E.sz o=some c.size) (x:kN E s rs c) {pv:PV} {v:Value} (h:aZ E pv v) :
  aZ i (pv.frz o s rs) v:=by
 unfold PV.frz;split
 ·cases h with
  | tup vs A J =>
  refine .tup vs (by simpa using A) (fun j p u y K=>?_);rw[a8F,a7Q] at y;obtain⟨q,B,rfl⟩:=y;exact K5 d l e x (J j q u B K)
 ·exact K5 d l e x h
theorem bM.frz (hW:bM E H w) {o s:Nat} {rs:List (List PV)} (Z:H o=some (.rows s rs)):∃ U,bM U (H.frz o s rs) w∧Ext E H w U (H.frz o s rs) w∧∀ {pv:PV} {v:Value},aZ E pv v→aZ U (pv.frz o s rs) v:=by
 obtain⟨hlt,l,ty,hh,O,V,W,h3⟩:=hW.h o _ Z;have hR:kN E s rs l:=⟨V,W,h3⟩;have X:E.G o=none:=by
  cases h:E.G o with
  | none=>rfl
  | some ds=>have:=(hW.g o ds h).1 _ Z; cases this
 have A:E.le ⟨upd E.G o (some l),E.sz,E.num⟩:=by
  refine⟨fun b ds d=>?_,fun b m h=>h,rfl⟩;have Y:b≠o:=fun e=>by subst e; rw[X] at d; cases d
  simp only;rw[TO _ _ Y];exact d
 have M:(⟨upd E.G o (some l),E.sz,E.num⟩:Env).G o=some l:=by simp[upd]
 have c:∀ q,(H.frz o s rs).f q=if q=o then none else (H q).map (cG.frz o s rs):=fun q=>rfl
 refine⟨⟨upd E.G o (some l),E.sz,E.num⟩,⟨fun b ds d=>?_,fun q x B=>?_,hW.s⟩,⟨A,rfl,rfl,rfl,a7M _,fun _ _ _=>rfl,fun q x B=>?_,fun b ds d=>?_⟩,fun h=>aPH A M O hR h⟩
 ·simp only[upd] at d;split at d
  ·rename_i e;subst e;cases d;refine⟨fun x Q=>?_,ty,(0,0),hh⟩;rw[c,if_pos rfl] at Q;cases Q
  ·rename_i e;obtain⟨g1,g2⟩:=hW.g b ds d;refine⟨fun x Q=>?_,g2⟩;rw[c,if_neg e,a7Q] at Q;obtain⟨y,R,rfl⟩:=Q;have:=g1 y R;subst this;rfl
 ·rw[c] at B;split at B
  ·cases B
  ·rw[a7Q] at B;obtain⟨y,R,rfl⟩:=B;obtain⟨g1,g2⟩:=hW.h q y R;refine⟨g1,?_⟩;cases y with
   | rows s' rs' =>
    obtain⟨K,δ,k1,k2,k3,k4,k5⟩:=g2;refine⟨K,δ,k1,k2,?_,by simpa using k4,fun i j p S=>?_⟩
    ·intro r N;simp only[a8J] at N;obtain⟨r',γ,rfl⟩:=N;simpa using k3 r' γ
    ·simp only[at2,a8F,Option.bind_map] at S;have α:∃ J,at2 rs' i j=some J∧p=J.dE o s rs:=by
      unfold at2;cases N:rs'[i]? with
      | none=>simp[N] at S
      | some r =>simp only[N,baY,Function.comp,a8F,a7Q] at S ⊢;obtain⟨J,V,W⟩:=S;exact⟨J,V,W.symm⟩
     obtain⟨J,β,rfl⟩:=α;obtain⟨u,m1,m2,m3⟩:=k5 i j J β;exact⟨u,m1,m2,ZQ A M O hR m3⟩
   | map es=>exact NX.mono A rfl g2
   | loop F n t ε ζ=>exact NX.mono A rfl g2
   | dead=>trivial
 ·rw[c] at B;split at B
  ·cases B
  ·rw[a7Q] at B;obtain⟨y,R,-⟩:=B;exact .inl ⟨y,R⟩
 ·simp only[upd] at d;split at d
  ·rename_i e; subst e; exact .inr (.inl ⟨_,Z⟩)
  ·exact .inl d
theorem jD.sound {F d:PF} {H H':PH} (h:jD F H d H'):∀ {E:Env},bM E H w→∃ c,bM c H' w∧Ext E H w c H' w∧∀ (f:Nat→Value),(∀ i pv,F i=some pv→aZ E pv (f i))→∀ i pv,d i=some pv→aZ c pv (f i):=by
 induction h with
 | refl F H=>intro E hW; exact⟨E,hW,.refl E H w,fun f h=>h⟩
 | step o y _ B =>intro E hW;obtain⟨K,l,p,u⟩:=hW.frz y;obtain⟨e,k1,k2,J⟩:=B l;refine⟨e,k1,p.trans k2,fun f x=>J f fun i pv hi=>?_⟩;simp only[PF.frz,a7Q] at hi;obtain⟨q,A,rfl⟩:=hi;exact u (x i q A)
theorem dL.frz {e:PF} {H':PH} (d:dL ds n E F a) (hW:bM E H w) (h:jD F H e H'):∃ c,dL ds n c e a∧bM c H' w∧Ext E H w c H' w:=by
 obtain⟨c,l,p,q⟩:=h.sound hW;exact⟨c,⟨d.size,d.defers,q (fun i=>a.tmps.getD i undef) d.t⟩,l,p⟩
end
open Go Go.RowKit
section
variable {T:Tbl} {n:Nat} {E:Env} {F:PF} {H:PH} {a:Act} {w:World}
theorem WC (k:List KS):∀ (L:List (List KS × PV)) (i j:Nat),(nM k L i).map (·.2)=(nM k L j).map (·.2)
 | [],_,_=>rfl
 | e::L,i,j=>by
  simp only[nM];split
  ·rfl
  ·exact WC k L _ _
theorem mH (e:List KS × PV) (L:List (List KS × PV)) (k:List KS):mapOf (e::L) k=if e.1=k then some e.2 else mapOf L k:=by
 unfold mapOf;simp only[nM];split
 ·rfl
 ·exact WC k L _ _
theorem kb {c:List KS} {pv:PV}:∀ {L:List (List KS × PV)},mapOf L c=none→mapOf (L++[(c,pv)])=jO.upd (mapOf L) c pv
 | [],_=>by
  funext k;simp only[List.nil_append,mH,jO.upd];by_cases h:c=k
  ·rw[if_pos h,if_pos h.symm]
  ·rw[if_neg h,if_neg (fun e=>h e.symm)]
 | e::L,h=>by
  rw[mH] at h;split at h
  ·cases h
  ·rename_i i;funext k;rw[List.cons_append,mH,kb h];simp only[jO.upd,mH];by_cases d:e.1=k
   ·have:k≠c:=fun l=>i (d.trans l);simp[d,this]
   ·simp[d]
theorem As {c:List KS} {pv:PV}:∀ {L:List (List KS × PV)} {i j:Nat} {p:PV},nM c L i=some (j,p)→i≤j∧mapOf (L.set (j-i) (c,pv))=jO.upd (mapOf L) c pv
 | [],i,j,p,h=>by simp[nM] at h
 | e::L,i,j,p,h=>by
  simp only[nM] at h;split at h
  ·rename_i x;cases h;refine⟨a7M _,?_⟩;funext k;rw[baG,bbC,mH];simp only[jO.upd,mH];by_cases l:c=k
   ·subst l; simp
   ·have u:k≠c:=fun d=>l d.symm;have q:e.1≠k:=fun d=>l (x.symm.trans d);simp[l,u,q]
  ·rename_i x;obtain⟨l,u⟩:=As (pv:=pv) h;refine⟨by omega,?_⟩;funext k;rw[show j-i=(j-(i+1))+1 by omega,List.set_cons_succ,mH,u];simp only[jO.upd,mH];by_cases q:e.1=k
   ·have:k≠c:=fun d=>x (q.trans d);simp[q,this]
   ·simp[q]
theorem bM.awO (hW:bM E H w) {o:Nat} {sh:MSh} {g:jO} {X l:Array MapEntry} {A c:Nat} {L:List (List KS × PV)} (Q:H o=some (.map sh g)) (Z:w.heap[o]?=some (.map X A)) (U:l.size=L.length∧(L.map (·.1)).Nodup)
  (Y:∀ (i:Nat) e R,L[i]?=some e→l[i]?=some R→e.1.map KS.sh=sh.2∧R.key=gD sh e.1∧aZ E e.2 R.val) :
  bM E (H.set o (.map sh (mapOf L))) { w with heap:=w.heap.setIfInBounds o (.map l c) }∧Ext E H w E (H.set o (.map sh (mapOf L))) { w with heap:=w.heap.setIfInBounds o (.map l c) }:=by
 have hlt:=(hW.h o _ Q).1;have d:∀ b,b≠o→(w.heap.setIfInBounds o (.map l c))[b]?=w.heap[b]?:=fun b u=>Array.getElem?_setIfInBounds_ne (Ne.symm u);have J:(w.heap.setIfInBounds o (.map l c))[o]?=some (.map l c):=by simp[hlt]
 have O:∀ b ds,E.G b=some ds→b≠o:=fun b ds u e=>by subst e;have:=(hW.g b ds u).1 _ Q;cases this
 refine⟨⟨fun b ds u=>?_,fun q x y=>?_,fun q m hs=>?_⟩,⟨.refl E,rfl,rfl,rfl,by simp,fun b _ V=>d b (fun e=>by subst e; rw[Q] at V; cases V),fun q x y=>?_,fun b ds u=>.inl u⟩⟩
 ·obtain⟨B,K,S,N⟩:=hW.g b ds u;have p:=O b ds u;refine⟨fun x W=>B x ?_,K,S,(d b p).trans N⟩;rw[cN,if_neg p] at W;exact W
 ·rw[cN] at y;split at y
  ·rename_i e;subst e;cases y;exact⟨by simpa using hlt,l,c,L,J,U,rfl,Y⟩
  ·rename_i e;obtain⟨B,N⟩:=hW.h q x y;exact⟨by simpa using B,N.mono (.refl E) (d q e)⟩
 ·obtain⟨M,K,S,B,N⟩:=hW.s q m hs;have p:q≠o:=fun e=>by subst e; rw[Z] at B; cases B
  exact⟨M,K,S,(d q p).trans B,N⟩
 ·rw[cN] at y;split at y
  ·rename_i e; subst e; exact .inl ⟨_,Q⟩
  ·exact .inl ⟨x,y⟩
theorem XW (k:KS) (d:Nat):Instr.sameBits d k.val k.val=true:=by
 cases k<;>cases d<;>simp[KS.val,Instr.sameBits,beq_toListBytes]
theorem Sj (sh:MSh) (k:List KS) (i:sh.1=false→∃ s,k=[s]):Instr.sameBits 10000 (gD sh k) (gD sh k)=true:=by
 obtain⟨b,l⟩:=sh;cases b with
 | false =>obtain⟨s,rfl⟩:=i rfl;exact XW s 10000
 | true =>
  simp only[gD,if_true];obtain⟨m,p⟩:∃ m:Nat,m=9999:=⟨_,rfl⟩;rw[show (10000:Nat)=m+1 by omega];simp only[Instr.sameBits,beq_self_eq_true,a7R,a7W];rintro⟨x,y⟩ d;have:∀ (l:List Value),(x,y)∈l.zip l→x=y∧x∈l:=by
   intro l
   induction l with
   | nil=>intro h; simp at h
   | cons z q e =>
    intro h;simp only[List.zip_cons_cons,a7T,Prod.mk.injEq] at h;rcases h with ⟨rfl,rfl⟩ | h
    ·exact⟨rfl,by simp⟩
    ·exact⟨(e h).1,by simp[(e h).2]⟩
  obtain⟨rfl,c⟩:=this _ d;simp only[a8J] at c;obtain⟨s,-,rfl⟩:=c;exact XW s m
theorem Of {t kt et:TypeId} {sh:MSh} {pk pv:PV} {x k v:Value} {o:Nat} {g:jO} {c:List KS} (ht:T.P.underlying t=some (.map kt et)) (W:T.lF kt=some sh)
  (hx:aZ E (.map o) x) (hk:aZ E pk k) (hv:aZ E pv v) (ho:H o=some (.map sh g)) (U:keyOf sh pk=some c) (hW:bM E H w) :
  ∃ w',(Instr.mapUpdate t x k v).run T.P w=.ok () w'∧bM E (H.set o (.map sh (g.upd c pv))) w'∧Ext E H w E (H.set o (.map sh (g.upd c pv))) w':=by
 cases hx;obtain⟨hlt,X,J,L,Y,⟨u,V⟩,rfl,l⟩:=hW.h o _ ho;obtain⟨ζ,q,δ⟩:=Ag hk U;have α:rS sh L X.toList:=⟨by simpa using u,fun i e Q a b=>by have:=l i e Q a (by simpa using b); exact⟨this.1,this.2.1⟩⟩;obtain⟨r,g1,g2⟩:=NO (w:=w) W q α;subst ζ;have R:(getObj o).run T.P w=.ok (.map X J) w:=by simp[getObj,Sem.run,Y]
 have B:∀ x,(setObj o x).run T.P w=.ok () { w with heap:=w.heap.setIfInBounds o x }:=fun x=>MapKept.run_setObj_map x Y;simp only[Instr.mapUpdate,Sem.run_bind,run_underlying ht,Result.andThen_ok,R,FI W q,g1];unfold Found at g2;split at g2
 ·rename_i hn;subst g2;have hm:mapOf L c=none:=by unfold mapOf; rw[hn]; rfl
  have hp:jO.upd (mapOf L) c pv=mapOf (L++[(c,pv)]):=(kb hm).symm;rw[hp];simp only[B];have ε:c ∉ L.map (·.1):=fun hm=>by have:=(HR c L 0).2 hm;rw[hn] at this; cases this
  have d:((L++[(c,pv)]).map (·.1)).Nodup:=by rw[a8G,baA];refine⟨V,by simp,fun x hx y hy=>?_⟩;simp only[a8U,a9P,a9X] at hy;subst hy;rintro rfl;exact ε hx
  refine⟨_,rfl,hW.awO ho Y ⟨by simp[u],d⟩ fun i e Q K A=>?_⟩;rcases Nat.lt_trichotomy i L.length with h3 | h3 | h3
  ·rw[a9Z h3] at K;rw[Array.getElem?_push_lt Om] at A;exact l i e Q K (by rw[baT Om]; exact A)
  ·subst h3;rw[a9Y (a7M _)] at K;rw[← u,Array.getElem?_push_size] at A;simp at K A;subst K; subst A;exact⟨q,rfl,hv⟩
  ·rw[a8X (by simp; omega)] at K;cases K
 ·rename_i j p hj;obtain⟨Z,-,A,h3,rfl⟩:=g2;have hp:jO.upd (mapOf L) c pv=mapOf (L.set j (c,pv)):=by have:=(As (pv:=pv) hj).2;simpa using this.symm
  rw[hp];simp only[Nat.sub_zero] at A h3;have M:X[j]?=some Z:=by simpa using A
  have β:Z.key=gD sh c:=(l j _ Z h3 M).2.1;have N:(Instr.keyThatStays (((X[j]?).map (·.key)).getD (gD sh c)) (gD sh c)).run T.P w=.ok (gD sh c) w:=by rw[M];simp only[a8W,baH,β,Instr.keyThatStays,Sj sh c δ,if_true,Sem.run_pure]
  simp only[Sem.run_bind,N,Result.andThen_ok,B];have d:((L.set j (c,pv)).map (·.1)).Nodup:=by
   have e9:(L.set j (c,pv)).map (·.1)=L.map (·.1):=by
    rw[List.map_set];refine List.ext_getElem? fun i=>?_;rw[List.getElem?_set];split
    ·rename_i e; subst e;rw[a8F,h3];have:=(a8P.1 h3).1;simp[this]
    ·rfl
   rw[e9]; exact V
  refine⟨_,rfl,hW.awO ho Y ⟨by simp[u],d⟩ fun i e Q O h5=>?_⟩;rw[Array.getElem?_modify] at h5;rw[List.getElem?_set] at O;have γ:j<L.length:=(a8P.1 h3).1;by_cases S:j=i
  ·subst S;rw[if_pos rfl,if_pos γ] at O;rw[if_pos rfl,M] at h5;simp at O h5;subst O; subst h5;exact⟨q,rfl,hv⟩
  ·rw[if_neg S] at O h5;exact l i e Q O h5
end
open Go Go.RowKit
def Fz (r:Option Nat):Fence:={ Fence.wide with round:=r }
theorem Fz.calls {r:Option Nat} {m:Nat} {P:Program} {f:FuncId} {args:Array Value} {w:World} {R:Ending→World→Prop} (h:Calls P f args w R):CallsIn (Fz r) m P f args w R:=(callsIn_wide (n:=m)).2 h
theorem Fz.fn {r:Option Nat} (f:FuncId):(Fz r).fn f:=trivial
theorem GM {r:Option Nat} {m:Nat} {P:Program} {o:Oper} {a:Act} {w:World} {next:Act→World→Prop} {Q:Exit→Act→World→Prop} (d:∀ c,o.op≠.defer c) (h:o.uponIn (Fz r) m P a next Q ((execOp a.eval o).run P w)):o.wpIn (Fz r) m P a w next Q :=
 ⟨fun _ _=>trivial,by rw[Oper.semAt_eq _ _ _ d]; exact h⟩
section
variable {ro:Option Nat} {fu:Nat} {ds:List Deferred} {T:Tbl} {n:Nat} {E:Env} {F:PF} {H:PH} {a:Act} {w:World}
def mB (ds:List Deferred) (n:Nat) (E:Env) (H:PH) (w:World) (K:PF→PH→Prop) (next:Act→World→Prop):Prop :=
 ∀ c e H' i d,dL ds n c e i→bM c H' d→Ext E H w c H' d→K e H'→next i d
theorem eJ.append {ps c:List PV} {vs d:List Value} (h:eJ E ps vs) (k:eJ E c d):eJ E (ps++c) (vs++d):=by
 induction h with
 | nil=>exact k
 | cons h _ e=>exact .cons h e
theorem eJ.aNS {ps:List PV}:∀ {vs:List Value},vs.length=ps.length→(∀ (j:Nat) p v,ps[j]?=some p→vs[j]?=some v→aZ E p v)→eJ E ps vs:=by
 induction ps with
 | nil=>intro vs c _; simp at c; subst c; exact .nil
 | cons p ps d =>
  intro vs c h;cases vs with
  | nil=>simp at c
  | cons v vs=>exact .cons (h 0 p v rfl rfl) (d (by simpa using c) fun j q u a b=>h (j+1) q u (by simpa using a) (by simpa using b))
theorem aDR {o:Oper} {c:Call} {f:FuncId} {vc:Array Value} {x:Operand} {P:Program} {fn:Func} (p:o.op=.call c) (e:c.callee=.value x) (q:a.eval x=.func (.func f) #[] vc)
  (l:P.funcs[f]?=some fn) (u:fn.body.isSome=true) (i:(fn.name=="runtime.NumGoroutine")=false) :
  (execOp a.eval o).run P w=.ok (.enter f (c.args.map a.eval++vc)) w:=by
 have d:fn.body.isNone=false:=by cases h:fn.body<;>simp_all
 unfold execOp;rw[p];simp only[resolve,e,q,Deferred.ofValue,Sem.run_bind,Sem.run_pure,Result.andThen_ok,invoke,callFunc,run_program,l,i,d,baR,if_false,Array.empty_append]
theorem VY {C:Ctx} {name:Nat} {ps:Option (List PV)} {d:Option Nat} {K:PF→PH→Prop} {o:Oper} {c:Call} {x:Operand} {vc:Array Value} {Q:Exit→Act→World→Prop} {next:Act→World→Prop}
  (h:sF C name ps d K F H) (hd:o.dst=d) (hlt:o.dst.all (·<n)=true) (U:o.op=.call c) (N:c.callee=.value x) (hx:a.eval x=.func (.func (C.num name)) #[] vc)
  (i:∀ vs,ps=some vs→eJ E vs (c.args.map a.eval++vc).toList) (Y:dL ds n E F a) (hW:bM E H w) (hN:E.num=C.num) (a6R:mB ds n E H w K next):o.wpIn (Fz ro) fu C.P a w next Q:=by
 obtain⟨vs,W,R,rfl,p,⟨⟨fn,hf,hb,O⟩,l⟩,Z⟩:=h;have u:=aDR (w:=w) (a:=a) U N hx hf hb O;refine GM (fun c'=>by rw[U]; exact fun e=>by cases e) ?_;rw[u,Oper.uponIn_enter];refine⟨(fun h=>by cases h),Fz.calls ((l E w _ hN (hW.weaken p) (i vs rfl)).mono fun e w' he=>?_)⟩;obtain⟨v,pv,S,H',rfl,J,hr,A,hR⟩:=he;have M:lZ H W H':=by
  intro q y hq X;rcases A.new q y hq with ⟨z,V⟩ | hge
  ·rw[X] at V; cases V
  ·cases hh:H q with
   | none=>rfl
   | some z=>have:=(hW.h q z hh).1; omega
 have B:dL ds n S (F.put d pv) (a.put o.dst v):=by rw[← hd];exact (Y.mono A.env).put hlt hr
 exact a6R S _ _ _ w' B (hW.over A p J) (A.narrow p) (Z pv H' hR M)
theorem OO {C:Ctx} {name:Nat} {args:List aP} {cs:List PV} {d:Option Nat} {K:PF→PH→Prop} {o:Oper} {c:Call} {x:Operand} {vc:Array Value} {Q:Exit→Act→World→Prop} {next:Act→World→Prop}
  (h:iV C name args cs d K F H) (O:o.dst=d) (hlt:o.dst.all (·<n)=true) (R:o.op=.call c) (u:c.callee=.value x) (S:a.eval x=.func (.func (C.num name)) #[] vc)
  (e:∀ (p:Env) (N:PF) vs,E.le p→dL ds n p N a→p.num=C.num→aP.evs N args=some vs→eJ p (vs++cs) (c.args.map a.eval++vc).toList) (B:dL ds n E F a) (hW:bM E H w) (A:E.num=C.num) (a6R:mB ds n E H w K next):o.wpIn (Fz ro) fu C.P a w next Q:=by
 rcases h with h | ⟨F1,H1,hf,h⟩
 ·refine VY h O hlt R u S (fun vs i=>?_) B hW A a6R;rw[a7Q] at i;obtain⟨M,l,rfl⟩:=i;exact e E F M (.refl E) B A l
 ·obtain⟨p,q,J,y⟩:=B.frz hW hf;refine VY h O hlt R u S (fun vs i=>?_) q J (y.env.num.trans A) (fun U V H2 a2 W g1 g2 g3 g4=>a6R U V H2 a2 W g1 g2 (y.trans g3) g4);rw[a7Q] at i;obtain⟨M,l,rfl⟩:=i;exact e p F1 M y.env q (y.env.num.trans A) l
theorem TZ {C:Ctx} {l:Nat} {ps:Option (List PV)} {d:Option Nat} {K:PF→PH→Prop} {o:Oper} {c:Call} {x:Operand} {Q:Exit→Act→World→Prop} {next:Act→World→Prop}
  (h:MN C l ps d K F H) (hd:o.dst=d) (hlt:o.dst.all (·<n)=true) (Y:o.op=.call c) (W:c.callee=.value x) (hx:a.eval x=.func (.yield l) #[] #[])
  (A:∀ vs,ps=some vs→eJ E vs (c.args.map a.eval).toList) (hA:dL ds n E F a) (hW:bM E H w) (hN:E.num=C.num) (a6R:mB ds n E H w K next):o.wpIn (Fz ro) fu C.P a w next Q:=by
 obtain⟨vs,H0,R,rfl,J,B,hK⟩:=h;obtain⟨fn,u,i,body,hy,p⟩:=B E w (c.args.map a.eval) hN (hW.weaken J) (A vs rfl);have M:(execOp a.eval o).run C.P w=.ok (.round l fn u i body) w:=by unfold execOp;rw[Y];simp only[resolve,W,hx,Deferred.ofValue,Sem.run_bind,Sem.run_pure,Result.andThen_ok,invoke,Array.empty_append,Array.append_empty];exact hy
 refine GM (fun c'=>by rw[Y]; exact fun e=>by cases e) ?_;rw[M,Oper.uponIn_round];have S:RoundIn (Fz ro) (fu-1) C.P l fn u i body w _:=⟨trivial,fun c cs _=>p.2 c cs (room_wide _)⟩;refine⟨(fun h=>by cases h),S.mono fun e w' he=>?_⟩;obtain⟨v,pv,X,H',rfl,U,hr,N,hR⟩:=he;have V:lZ H H0 H':=by
  intro q y hq h0;rcases N.new q y hq with ⟨z,Z⟩ | hge
  ·rw[h0] at Z; cases Z
  ·cases hh:H q with
   | none=>rfl
   | some z=>have:=(hW.h q z hh).1; omega
 have O:dL ds n X (F.put d pv) (a.put o.dst v):=by rw[← hd];exact (hA.mono N.env).put hlt hr
 exact a6R X _ _ _ w' O (hW.over N J U) (N.narrow J) (hK pv H' hR V)
theorem Gx {C:Ctx} {l:Nat} {args:List aP} {d:Option Nat} {K:PF→PH→Prop} {o:Oper} {c:Call} {x:Operand} {Q:Exit→Act→World→Prop} {next:Act→World→Prop}
  (h:ahM C l args d K F H) (N:o.dst=d) (hlt:o.dst.all (·<n)=true) (O:o.op=.call c) (u:c.callee=.value x) (R:a.eval x=.func (.yield l) #[] #[])
  (e:∀ (p:Env) (M:PF) vs,dL ds n p M a→p.num=C.num→aP.evs M args=some vs→eJ p vs (c.args.map a.eval).toList) (A:dL ds n E F a) (hW:bM E H w) (y:E.num=C.num) (a6R:mB ds n E H w K next):o.wpIn (Fz ro) fu C.P a w next Q:=by
 rcases h with h | ⟨F1,H1,hf,h⟩
 ·exact TZ h N hlt O u R (fun vs i=>e E F vs A y i) A hW y a6R
 ·obtain⟨p,q,J,B⟩:=A.frz hW hf;exact TZ h N hlt O u R (fun vs i=>e p F1 vs q (B.env.num.trans y) i) q J (B.env.num.trans y) (fun S U H2 a2 V g1 g2 g3 g4=>a6R S U H2 a2 V g1 g2 (B.trans g3) g4)
theorem Nv {o:Oper} {p:POp} (d:T.op o=some p) (e:p.oC=true):∃ c,o.op=.call c∧T.call o c=some p:=by
 unfold Tbl.op at d;split at d
 case h_26=>rename_i c i; exact⟨c,i,d⟩
 all_goals (repeat' (first | (split at d) | (simp only[a7Q] at d; obtain⟨_,-,rfl⟩:=d; simp[POp.oC] at e; done) | (cases d; simp[POp.oC] at e; done) | (cases d; done)))
theorem cq {o:Oper} {p:POp} (d:T.op o=some p):∀ c,o.op≠.defer c:=by
 intro c e;unfold Tbl.op at d;rw[e] at d;simp at d
theorem Gl {o:Oper} {p:POp} (d:T.op o=some p) (A:p.eC=true) :
  (∃ t R x k U l,o.op=.store t R x∧T.size t=some k∧T.opd R=some U∧T.opd x=some l∧p=.store k U l) ∨
  (∃ c x y t e i l V,o.op=.call c∧c.callee=.builtin .append∧c.args.toList=[x,y]∧c.argTypes.toList=[t,t]∧T.P.underlying t=some (.slice e)∧T.P.info? e=some i∧i.zero.isSome=true ∧
   (i.zero.map (·.cells.size))=some i.size∧0<i.size∧T.opd x=some l∧T.opd y=some V∧p=.append i.size i.bytes l V) ∨
  (∃ t O Q sh x k v l pk pv,(o.op=.mapUpdate t x k v∨o.op=.insert t x k v)∧T.P.underlying t=some (.map O Q)∧T.lF O=some sh∧T.opd x=some l∧T.opd k=some pk∧T.opd v=some pv ∧
   (p=.a6N sh l pk pv∨p=.insert sh l pk pv)):=by
 unfold Tbl.op at d;split at d
 case h_17 =>
  rename_i t x k v N;split at d
  ·rename_i O Q S;split at d<;>cases d;rename_i sh p q r B J K W;exact .inr (.inr ⟨t,O,Q,sh,x,k,v,p,q,r,.inl N,S,B,J,K,W,.inl rfl⟩)
  ·cases d
 case h_18 =>
  rename_i t x k v N;split at d
  ·rename_i O Q S;split at d<;>cases d;rename_i sh p q r B J K W;exact .inr (.inr ⟨t,O,Q,sh,x,k,v,p,q,r,.inr N,S,B,J,K,W,.inr rfl⟩)
  ·cases d
 case h_9 =>rename_i t R x N;split at d<;>cases d;rename_i k U l B J K;exact .inl ⟨t,R,x,k,U,l,N,B,J,K,rfl⟩
 case h_26 =>
  rename_i c N;unfold Tbl.call at d;split at d
  ·rename_i b Y;split at d
   ·split at d<;>(first | (simp only[a7Q] at d; obtain⟨_,-,rfl⟩:=d; simp[POp.eC] at A; done) | (cases d; simp[POp.eC] at A; done) | (cases d; done))
   ·rename_i x y t u X Z;split at d<;>try cases d
    rename_i e e' ht S;split at d<;>try cases d
    rename_i i l V hi hx hy;split at d
    ·rename_i M;cases d;obtain⟨rfl,B,J,K⟩:=M;exact .inr (.inl ⟨c,x,y,t,e,i,l,V,N,Y,X,Z,ht,hi,B,J,K,hx,hy,rfl⟩)
    ·cases d
   ·split at d<;>(first | (simp only[a7Q] at d; obtain⟨_,-,rfl⟩:=d; simp[POp.eC] at A; done) | (cases d; done))
   ·split at d<;>(first | (cases d; simp[POp.eC] at A; done) | (cases d; done))
   ·split at d<;>(first | (cases d; simp[POp.eC] at A; done) | (cases d; done))
   ·cases d
  ·split at d
   ·split at d
    ·cases d; simp[POp.eC] at A
    ·cases d
   ·cases d
  ·simp only[a7Q] at d;obtain⟨_,-,rfl⟩:=d;simp[POp.eC] at A
  ·cases d
 all_goals (repeat' (first | (split at d) | (simp only[a7Q] at d; obtain⟨_,-,rfl⟩:=d; simp[POp.eC] at A; done) | (cases d; simp[POp.eC] at A; done) | (cases d; done)))
theorem Xt {o:Oper} {p:POp} {K:PV→PH→Prop} (hc:T.op o=some p) (hk:p.eC=true) (h:cB p F H K) (J:dL ds n E F a) (hW:bM E H w) (M:E.num=T.num):Ij T.P E H w o a K:=by
 rcases Gl hc hk with ⟨t,ax,x,k,pp,Z,ho,h1,h2,h3,rfl⟩ | ⟨c,x,y,t,e,i,Z,py,ho,hcc,hca,hct,ht,hi,g1,g2,g3,hx,hy,rfl⟩ | ⟨t,kt,et,sh,x,k,v,Z,pk,pv,ho,hu,hsh,hx,hkk,hv,hp⟩
 ·simp only[cB] at h;split at h
  ·rename_i pa pv u W;obtain⟨hl,H',X,l⟩:=h;obtain⟨w',hr,U,hE⟩:=W8 ho h1 h2 h3 u W hl X J hW M;exact⟨undef,_,w',E,H',.junk,hr,.inr ⟨rfl,rfl⟩,.junk _,U,hE,l⟩
  ·exact h.elim
 ·simp only[cB] at h;split at h
  ·rename_i pa pb u V;exact Ip ho hcc hca hct ht hi g1 g2 g3 (bC hx u J M) (bC hy V J M) h hW
  ·exact h.elim
 ·have d:∀ q A B g d,Z.ev F=some (.map q)→pk.ev F=some A→pv.ev F=some B→H q=some (.map sh g)→keyOf sh A=some d→K .junk (H.set q (.map sh (g.upd d B)))→Ij T.P E H w o a K:=by intro q A B g d N O Q R S l;obtain⟨w',g1,g2,g3⟩:=Of hu hsh (bC hx N J M) (bC hkk O J M) (bC hv Q J M) R S hW;refine⟨undef,.skip,w',E,_,.junk,?_,.inr ⟨rfl,rfl⟩,.junk _,g2,g3,l⟩;rcases ho with ho | ho<;>(unfold execOp; rw[ho]; simp[g1])
  rcases hp with rfl | rfl
  ·simp only[cB] at h;split at h
   ·rename_i q A B N O Q;split at h
    ·rename_i α g Y R S;obtain⟨rfl,l⟩:=h;exact d q A B g Y N O Q R S l
    ·exact h.elim
   ·exact h.elim
  ·simp only[cB] at h;split at h
   ·rename_i q A B N O Q;split at h
    ·rename_i α g Y R S;obtain⟨rfl,-,l⟩:=h;exact d q A B g Y N O Q R S l
    ·exact h.elim
   ·exact h.elim
theorem aHV {C:Ctx} (X:C.P=T.P) (A:C.num=T.num) {o:Oper} {p:POp} {d:Option Nat} {K:PF→PH→Prop} {Q:Exit→Act→World→Prop} {next:Act→World→Prop} (hc:T.op o=some p) (hd:o.dst=d) (hlt:o.dst.all (·<n)=true)
  (h:wpOp C p d K F H) (O:dL ds n E F a) (hW:bM E H w) (Y:E.num=T.num) (a6R:mB ds n E H w K next):o.wpIn (Fz ro) fu T.P a w next Q:=by
 by_cases hk:p.oC=true
 ·obtain⟨c,ho,i⟩:=Nv hc hk;unfold Tbl.call at i;split at i
  ·rename_i b M;exfalso
   repeat' (first | (split at i) | (simp only[a7Q] at i; obtain⟨_,-,rfl⟩:=i; simp[POp.oC] at hk; done) | (cases i; simp[POp.oC] at hk; done) | (cases i; done))
  ·rename_i f M;split at i
   ·rename_i m xs hm U;split at i
    ·rename_i hf;cases i;rw[← X];refine OO h hd hlt ho M (vc:=#[]) (by rw[A,hf]; rfl) (fun N F' vs _ R Z β=>?_) O hW (Y.trans A.symm) a6R;simpa using xG U β R (Z.trans A)
    ·cases i
   ·cases i
  ·rename_i t M;simp only[a7Q] at i;obtain⟨xs,U,rfl⟩:=i;have h':uQ C (aP.ev F (.tmp t)) xs d K F H:=h;have δ:a.eval (.tmp t)=a.tmps.getD t undef:=rfl;cases α:aP.ev F (.tmp t) with
   | none=>rw[α] at h'; exact h'.elim
   | some u =>
    rw[α] at h';have r:=O.t t _ α;cases u with
    | fn name cs =>
     generalize hv:a.tmps.getD t undef=v at r;cases r with
     | fn vc V W =>
     rw[← X];refine OO h' hd hlt ho M (vc:=vc) (by rw[δ,hv,Y,A]) (fun N F' ws η A' Z κ=>?_) O hW (Y.trans A.symm) a6R;rw[Array.toList_append];refine eJ.append (by simpa using xG U κ A' (Z.trans A)) (eJ.aNS (by simpa using V) fun j p u hp hu=>(W j p u hp (by simpa using hu)).mono η)
    | lit u =>
     obtain⟨l,V,hy⟩:=h';unfold PV.aCQ at V;split at V
     ·rename_i l' f' c' e;split at V
      ·rename_i ζ;cases V;obtain⟨rfl,rfl⟩:=ζ;cases e;generalize hv:a.tmps.getD t undef=v at r;cases r;rw[← X];exact Gx hy hd hlt ho M (by rw[δ,hv]) (fun N F' vs A' N' β=>by simpa using xG U β A' (N'.trans A)) O hW (Y.trans A.symm) a6R
      ·cases V
     ·cases V
    | _=>exact h'.elim
  ·cases i
 ·have γ:p.oC=false:=by simpa using hk
  have y:(if p.gU then mV (dA p F) d K F H else if p.eC then cB p F H (fun r H'=>K (F.put d r) H') else bX (aO p F H) d K F H):=by cases p<;>first | exact h | (simp[POp.oC] at γ)
  by_cases hn:p.gU=true
  ·rw[if_pos hn] at y;obtain⟨mk,x,ε,hK⟩:=y;obtain⟨v,w',N,q,W,hq,B,J,S⟩:=auD hc hn ε O hW Y;refine GM (cq hc) ?_;rw[W,Oper.uponIn_value];exact a6R N _ _ _ w' (by rw[← hd]; exact (O.mono S.env).put hlt B) J S (hK q hq)
  ·rw[if_neg hn] at y;by_cases hw:p.eC=true
   ·rw[if_pos hw] at y;obtain⟨v,nx,w',N,H',pv,W,θ,B,J,S,hK⟩:=Xt hc hw y O hW Y;refine GM (cq hc) ?_;have R:dL ds n N (F.put d pv) (a.put o.dst v):=by rw[← hd]; exact (O.mono S.env).put hlt B
    rcases θ with rfl | ⟨rfl,rfl⟩
    ·rw[W,Oper.uponIn_value];exact a6R N _ _ _ w' R J S hK
    ·rw[W,Oper.uponIn_skip];exact a6R N _ _ _ w' R J S hK
   ·rw[if_neg hw] at y;obtain⟨pv,ι,hK⟩:=y;obtain⟨v,w',N,W,B,J,S⟩:=ajE hc (by simpa using hn) (by simpa using hw) γ ι O hW Y;refine GM (cq hc) ?_;rw[W,Oper.uponIn_value];exact a6R N _ _ _ w' (by rw[← hd]; exact (O.mono S.env).put hlt B) J S hK
end
def aP.cH:aP→List Nat
 | .tmp t=>[t]
 | .const _=>[]
def tJ:Option aP→List Nat
 | none=>[]
 | some x=>x.cH
def TC:List aP→List Nat
 | []=>[]
 | x::xs=>x.cH++TC xs
def Sp:List (Nat × Nat × aP)→List Nat
 | []=>[]
 | x::xs=>x.2.2.cH++Sp xs
def So:List (Nat × aP)→List Nat
 | []=>[]
 | x::xs=>x.2.cH++So xs
def POp.cH:POp→List Nat
 | .mv x=>x.cH
 | .pick c a b=>c.cH++(a.cH++b.cH)
 | .bin _ x y=>x.cH++y.cH
 | .eqb _ x y=>x.cH++y.cH
 | .eqs _ _ x y=>x.cH++y.cH
 | .un _ x=>x.cH
 | .conv _ x=>x.cH
 | .same x=>x.cH
 | .alloc _=>[]
 | .box _ x=>x.cH
 | .build _ ps=>Sp ps
 | .a6B _ _ _ _ ps=>So ps
 | .load _ p=>p.cH
 | .store _ p x=>p.cH++x.cH
 | .a6I x=>x.cH
 | .a6Y _ x=>x.cH
 | .field _ _ x=>x.cH
 | .a6M _ x i=>x.cH++i.cH
 | .idxA _ _ x i=>x.cH++i.cH
 | .idxV _ _ _ x i=>x.cH++i.cH
 | .a6W x i=>x.cH++i.cH
 | .slice _ x lo hi mx=>x.cH++(tJ lo++(tJ hi++tJ mx))
 | .a6S x lo hi=>x.cH++(tJ lo++tJ hi)
 | .sliceA _ _ x lo hi mx=>x.cH++(tJ lo++(tJ hi++tJ mx))
 | .len x=>x.cH
 | .a6V x=>x.cH
 | .a7F x=>x.cH
 | .lenM x=>x.cH
 | .isNil _ x=>x.cH
 | .extract x _=>x.cH
 | .a6D _ _ _ l c=>l.cH++c.cH
 | .append _ _ x y=>x.cH++y.cH
 | .a6Q _ x y=>x.cH++y.cH
 | .mkfn _ cs=>TC cs
 | .a7B _=>[]
 | .lookup _ _ x k _=>x.cH++k.cH
 | .a6N _ x k v=>x.cH++(k.cH++v.cH)
 | .insert _ x k v=>x.cH++(k.cH++v.cH)
 | .stuck=>[]
 | .a6J x=>x.cH
 | .str2bytes x=>x.cH
 | .call _ d=>TC d
 | .a6X x d=>x.cH++TC d
def oZ (l:List Nat) (F F':PF):Prop:=∀ t∈l,F t=F' t
theorem oZ.left {a b:List Nat} {F F':PF} (h:oZ (a++b) F F'):oZ a F F':=fun t c=>h t (by simp[c])
theorem oZ.right {a b:List Nat} {F F':PF} (h:oZ (a++b) F F'):oZ b F F':=fun t c=>h t (by simp[c])
section
variable {F F':PF} {H H':PH}
theorem bV {x:aP} (h:oZ x.cH F F'):x.ev F=x.ev F':=by
 cases x with
 | tmp t=>exact h t (by simp[aP.cH])
 | const v=>rfl
theorem HP:∀ {xs:List aP},oZ (TC xs) F F'→aP.evs F xs=aP.evs F' xs
 | [],_=>rfl
 | x::xs,h=>by simp only[aP.evs,bV h.left,HP h.right]
theorem i9:∀ {ps:List (Nat × Nat × aP)} {cs:List PV},oZ (Sp ps) F F'→pY cs F ps=pY cs F' ps
 | [],_,_=>rfl
 | (o,s,x)::ps,cs,h=>by
  simp only[pY];rw[bV (x:=x) h.left];split
  ·rw[i9 (ps:=ps) h.right]
  ·rfl
theorem wE {s:Nat}:∀ {ps:List (Nat × aP)} {rs:List (List PV)},oZ (So ps) F F'→gT s rs F ps=gT s rs F' ps
 | [],_,_=>rfl
 | (i,x)::ps,rs,h=>by
  simp only[gT];rw[bV (x:=x) h.left];split
  ·rw[wE (ps:=ps) h.right]
  ·rfl
theorem yZ {d:Int} {x:Option aP} (h:oZ (tJ x) F F'):bnd F d x=bnd F' d x:=by
 cases x with
 | none=>rfl
 | some x=>simp only[bnd,bV (x:=x) h]
theorem amX {op:POp} (h:oZ op.cH F F'):aO op F H=aO op F' H:=by
 cases op
 case mv x=>simp only[aO,bV (x:=x) h]
 case same x=>simp only[aO,bV (x:=x) h]
 case pick c a b=>simp only[aO,bV (x:=c) h.left,bV (x:=a) h.right.left,bV (x:=b) h.right.right]
 case bin x y=>simp only[aO,bV (x:=x) h.left,bV (x:=y) h.right]
 case eqb x y=>simp only[aO,bV (x:=x) h.left,bV (x:=y) h.right]
 case eqs x y=>simp only[aO,bV (x:=x) h.left,bV (x:=y) h.right]
 case un x=>simp only[aO,bV (x:=x) h]
 case conv x=>simp only[aO,bV (x:=x) h]
 case box r x=>cases r<;>simp only[aO,bV (x:=x) h]
 case build ps=>simp only[aO,i9 (ps:=ps) h]
 case a6B r _ _ _ ps=>cases r<;>simp only[aO,wE (ps:=ps) h]
 case load n p=>cases n<;>simp only[aO,bV (x:=p) h]
 case a6I x=>simp only[aO,bV (x:=x) h]
 case a6Y x=>simp only[aO,bV (x:=x) h]
 case field x=>simp only[aO,bV (x:=x) h]
 case a6M x i=>simp only[aO,bV (x:=x) h.left,bV (x:=i) h.right]
 case idxA x i=>simp only[aO,bV (x:=x) h.left,bV (x:=i) h.right]
 case idxV x i=>simp only[aO,bV (x:=x) h.left,bV (x:=i) h.right]
 case a6W x i=>simp only[aO,bV (x:=x) h.left,bV (x:=i) h.right]
 case slice s x lo hi mx =>
  have e:x.ev F=x.ev F':=bV h.left;have l:∀ d,bnd F d lo=bnd F' d lo:=fun d=>yZ h.right.left;have q:∀ d,bnd F d hi=bnd F' d hi:=fun d=>yZ h.right.right.left;cases mx with
  | none=>simp only[aO,e,l,q]
  | some m =>have u:∀ d,bnd F d (some m)=bnd F' d (some m):=fun d=>yZ (x:=some m) h.right.right.right;simp only[aO,e,l,q,u]
 case sliceA n size x lo hi mx =>have e:x.ev F=x.ev F':=bV h.left;cases lo<;>cases hi<;>cases mx<;>simp only[aO,e]
 case a6S x lo hi =>have e:x.ev F=x.ev F':=bV h.left;have l:∀ d,bnd F d lo=bnd F' d lo:=fun d=>yZ h.right.left;have q:∀ d,bnd F d hi=bnd F' d hi:=fun d=>yZ h.right.right;simp only[aO,e,l,q]
 case len x=>simp only[aO,bV (x:=x) h]
 case a6V x=>simp only[aO,bV (x:=x) h]
 case a7F x=>simp only[aO,bV (x:=x) h]
 case lenM x=>simp only[aO,bV (x:=x) h]
 case isNil x=>simp only[aO,bV (x:=x) h]
 case extract x i=>simp only[aO,bV (x:=x) h]
 case a6Q x y=>simp only[aO,bV (x:=x) h.left,bV (x:=y) h.right]
 case mkfn cs=>simp only[aO,HP (xs:=cs) h]
 case lookup sh z x k ok=>simp only[aO,bV (x:=x) h.left,bV (x:=k) h.right]
 case a6J x=>simp only[aO,bV (x:=x) h]
 all_goals rfl
theorem aiQ {op:POp} (h:oZ op.cH F F'):dA op F=dA op F':=by
 cases op
 case box r x=>cases r<;>simp only[dA,bV (x:=x) h]
 case a6B r _ _ _ ps=>cases r<;>simp only[dA,wE (ps:=ps) h]
 case a6D l c=>simp only[dA,bV (x:=l) h.left,bV (x:=c) h.right]
 all_goals rfl
theorem aqO {op:POp} {K:PV→PH→Prop} (h:oZ op.cH F F'):cB op F H K=cB op F' H K:=by
 cases op
 case store n p x=>simp only[cB,bV (x:=p) h.left,bV (x:=x) h.right]
 case append s b x y=>simp only[cB,bV (x:=x) h.left,bV (x:=y) h.right]
 case a6N sh x k v=>simp only[cB,bV (x:=x) h.left,bV (x:=k) h.right.left,bV (x:=v) h.right.right]
 case insert sh x k v=>simp only[cB,bV (x:=x) h.left,bV (x:=k) h.right.left,bV (x:=v) h.right.right]
 all_goals rfl
theorem Ah {op:POp} (h:oZ op.cH F F'):op.kind F=op.kind F':=by
 have c:(if op.gU then Kind.new (dA op F) else if op.eC then .write (fun H K=>cB op F H K) else .calm (aO op F)) =
   (if op.gU then Kind.new (dA op F') else if op.eC then .write (fun H K=>cB op F' H K) else .calm (aO op F')):=by
  rw[aiQ h];have d:(fun H K=>cB op F H K)=fun H K=>cB op F' H K:=by funext H K;exact aqO h
  have e:aO op F=aO op F':=by funext H;exact amX h
  rw[d,e]
 cases op
 case call n az=>simp only[POp.kind,HP (xs:=az) h]
 case a6X x az=>simp only[POp.kind,bV (x:=x) h.left,HP (xs:=az) h.right]
 case insert sh x k v=>simp only[POp.kind,bV (x:=x) h.left,bV (x:=k) h.right.left,bV (x:=v) h.right.right]
 all_goals exact c
def aU.cH (i:aU):List Nat :=
 match i.guard with
 | none=>i.op.cH
 | some (t,_)=>t::i.op.cH
theorem j2 {i:aU} (h:oZ i.cH F F'):i.kind F=i.kind F':=by
 unfold aU.kind;unfold aU.cH at h;cases c:i.guard with
 | none=>rw[c] at h; exact Ah h
 | some p =>obtain⟨t,d⟩:=p;rw[c] at h;simp only;rw[h t (by simp),Ah (fun u e=>h u (by simp[e]))]
theorem aGP (p:PV):∃ q:Nat,∀ (H H':PH) n,H q=H' q→loadCells H p n=loadCells H' p n:=by
 cases p
 case ptr o s i c=>exact⟨o,fun H H' n h=>by simp only[loadCells,h]⟩
 all_goals exact⟨0,fun H H' n h=>rfl⟩
theorem aNA (s:Nat) (p:PV):∃ q:Nat,∀ (H H':PH),H q=H' q→dX H s p=dX H' s p:=by
 cases p
 case osl o s' off len=>exact⟨o,fun H H' h=>by simp only[dX,h]⟩
 all_goals exact⟨0,fun H H' h=>rfl⟩
theorem avD (op:POp) (F:PF):∃ q:Nat,∀ (H H':PH),H q=H' q→aO op F H=aO op F H':=by
 cases op
 case load n p =>
  cases c:p.ev F with
  | none=>exact⟨0,fun H H' _=>by cases n<;>simp only[aO,c]⟩
  | some a =>obtain⟨q,d⟩:=aGP a;exact⟨q,fun H H' h=>by cases n<;>simp only[aO,c,d H H' _ h]⟩
 case lenM x =>
  cases c:x.ev F with
  | none=>exact⟨0,fun H H' _=>by simp only[aO,c]⟩
  | some a =>
   cases a
   case map o=>exact⟨o,fun H H' h=>by simp only[aO,c,h]⟩
   all_goals exact⟨0,fun H H' _=>by simp only[aO,c]⟩
 case lookup sh z x k ok =>
  cases c:x.ev F with
  | none=>exact⟨0,fun H H' _=>by simp only[aO,c]⟩
  | some a =>
   cases a
   case map o=>exact⟨o,fun H H' h=>by cases e:k.ev F<;>simp only[aO,c,e,h]⟩
   all_goals exact⟨0,fun H H' _=>by simp only[aO,c]⟩
 case a6J x =>
  cases c:x.ev F with
  | none=>exact⟨0,fun H H' _=>by simp only[aO,c]⟩
  | some a =>obtain⟨q,d⟩:=aNA 1 a;exact⟨q,fun H H' h=>by simp only[aO,c,d H H' h]⟩
 case sliceA n s x lo hi mx=>cases lo<;>cases hi<;>cases mx<;>exact⟨0,fun H H' _=>rfl⟩
 case box r x=>cases r<;>exact⟨0,fun H H' _=>rfl⟩
 case a6B r _ _ _ _=>cases r<;>exact⟨0,fun H H' _=>rfl⟩
 all_goals exact⟨0,fun H H' _=>rfl⟩
theorem Ao {p:PV} {n:Nat} {cs:List PV} (d:H.le H') (h:loadCells H p n=some cs):loadCells H' p n=some cs:=by
 cases p
 case ptr o s i c =>
  simp only[loadCells] at h ⊢;cases e:H o with
  | none=>rw[e] at h; cases h
  | some x=>rw[d o x e]; rw[e] at h; exact h
 all_goals exact h
theorem aCH {s:Nat} {p:PV} {rs:List (List PV)} (c:H.le H') (h:dX H s p=some rs):dX H' s p=some rs:=by
 cases p
 case osl o s' off len =>
  simp only[dX] at h ⊢;cases d:H o with
  | none=>rw[d] at h; simp at h
  | some x=>rw[c o x d]; rw[d] at h; exact h
 all_goals exact h
theorem mj {op:POp} {v:PV} (d:H.le H') (h:aO op F H=some v):aO op F H'=some v:=by
 cases op
 case load n p =>
  cases i:p.ev F with
  | none=>cases n<;>simp only[aO,i] at h<;>cases h
  | some a =>
   cases n with
   | none =>
    simp only[aO,i] at h ⊢;cases c:loadCells H a 1 with
    | none=>rw[c] at h; cases h
    | some cs=>rw[Ao d c]; rw[c] at h; exact h
   | some n =>
    simp only[aO,i] at h ⊢;cases c:loadCells H a n with
    | none=>rw[c] at h; cases h
    | some cs=>rw[Ao d c]; rw[c] at h; exact h
 case lenM x =>
  simp only[aO] at h ⊢;split at h
  ·rename_i o l;cases e:H o with
   | none=>rw[e] at h; cases h
   | some y=>rw[d o y e]; rw[e] at h; exact h
  ·cases h
 case lookup sh z x k ok =>
  simp only[aO] at h ⊢;split at h
  ·rename_i o w l u;cases e:H o with
   | none=>rw[e] at h; cases h
   | some y=>rw[d o y e]; rw[e] at h; exact h
  ·cases h
 case a6J x =>
  simp only[aO] at h ⊢;split at h
  ·rename_i a q;cases c:dX H 1 a with
   | none=>rw[c] at h; cases h
   | some rs=>rw[aCH d c]; rw[c] at h; exact h
  ·cases h
 case sliceA n s x lo hi mx=>cases lo<;>cases hi<;>cases mx<;>exact h
 case box r x=>cases r<;>exact h
 case a6B r _ _ _ _=>cases r<;>exact h
 all_goals exact h
end
theorem PH.zh (H:PH) (l:List Nat):∃ o,H o=none∧o ∉ l:=by
 obtain⟨n,d⟩:=H.fin;refine⟨n+l.sum+1,d _ Om,fun h=>?_⟩;have:n+l.sum+1≤l.sum:=by
  have c:∀ (l:List Nat) (x:Nat),x∈l→x≤l.sum:=by
   intro l
   induction l with
   | nil=>intro x hx; cases hx
   | cons y ys e =>
    intro x hx;rcases a7T.1 hx with rfl | hx
    ·simp
    ·have:=e x hx; simp; omega
  exact c l _ h
 omega
theorem PH.set_comm (H:PH) {o q:Nat} (x y:cG) (h:o≠q):(H.set o x).set q y=(H.set q y).set o x:=by
 refine PH.ext fun p=>?_;simp only[cN];by_cases c:p=q<;>by_cases d:p=o<;>simp_all
theorem PH.QH {H:PH} {o:Nat} (x:cG) (h:H o=none):H.le (H.set o x):=by
 intro p y c;rw[cN];split
 ·rename_i e; subst e; rw[h] at c; cases c
 ·exact c
theorem PH.Sm {H:PH} {o q:Nat} {x:cG}:(H.set o x) q=none↔q≠o∧H q=none:=by
 rw[cN];split<;>simp_all
theorem PH.le_trans {A B D:PH} (h:A.le B) (k:B.le D):A.le D:=fun o x c=>k o x (h o x c)
theorem PH.le_none {A B:PH} (h:A.le B) {o:Nat} (d:B o=none):A o=none:=by
 cases c:A o with
 | none=>rfl
 | some x=>have:=h o x c; rw[d] at this; cases this
theorem PH.aVR {A B:PH} (h:A.le B) {o:Nat} {x:cG} (d:A o=none):A.le (B.set o x):=by
 intro p y c;rw[cN];split
 ·rename_i e; subst e; rw[d] at c; cases c
 ·exact h p y c
structure H8 (f:PH→Option PV):Prop where
 dep:∃ q:Nat,∀ (H H':PH),H q=H' q→f H=f H'
 mono:∀ (H H':PH) v,H.le H'→f H=some v→f H'=some v
structure aOD (w:PH→(PV→PH→Prop)→Prop):Prop where
 mono:∀ H (K K':PV→PH→Prop),(∀ v H',K v H'→K' v H')→w H K→w H K'
 some:∀ H (K:PV→PH→Prop),w H K→∃ v H',K v H'
inductive Kind.Ok:Kind→Prop
 | fail:Kind.Ok .fail
 | calm {f:PH→Option PV} (h:H8 f):Kind.Ok (.calm f)
 | new (r:Option ((Nat→PV) × cG)):Kind.Ok (.new r)
 | write {w:PH→(PV→PH→Prop)→Prop} (h:aOD w):Kind.Ok (.write w)
 | call (name:Nat) (args:Option (List PV)):Kind.Ok (.call name args)
 | ins (r:Option (Nat × MSh × List KS × PV)):Kind.Ok (.ins r)
section
variable {C:Ctx} {Hs:PH} {S:Spec} {H:PH}
theorem AN {op:POp} {F:PF} {K K':PV→PH→Prop} (h:∀ v H',K v H'→K' v H') (d:cB op F H K):cB op F H K':=by
 cases op
 case store n p x =>
  simp only[cB] at d ⊢;split at d
  ·obtain⟨l,H',i,B⟩:=d; exact⟨l,H',i,h _ _ B⟩
  ·exact d.elim
 case append s b x y =>
  simp only[cB] at d ⊢;split at d
  ·rename_i a c E J;obtain⟨src,l,i⟩:=d;refine⟨src,l,?_⟩;split at i
   ·exact⟨i.1,fun e=>h _ _ (i.2.1 e),fun e o q=>h _ _ (i.2.2 e o q)⟩
   ·obtain⟨g1,g2,g3,rs,g4,u,w,A⟩:=i;exact⟨g1,g2,g3,rs,g4,u,h _ _ w,fun o q=>h _ _ (A o q)⟩
   ·exact i.elim
  ·exact d.elim
 case a6N sh x k v =>
  simp only[cB] at d ⊢;split at d
  ·split at d
   ·exact⟨d.1,h _ _ d.2⟩
   ·exact d.elim
  ·exact d.elim
 case insert sh x k v =>
  simp only[cB] at d ⊢;split at d
  ·split at d
   ·exact⟨d.1,d.2.1,h _ _ d.2.2⟩
   ·exact d.elim
  ·exact d.elim
 all_goals exact d.elim
theorem Va {op:POp} {F:PF} {K:PV→PH→Prop} (d:cB op F H K):∃ v H',K v H':=by
 cases op
 case store n p x =>
  simp only[cB] at d;split at d
  ·obtain⟨q,H',i,u⟩:=d; exact⟨_,_,u⟩
  ·exact d.elim
 case append s b x y =>
  simp only[cB] at d;split at d
  ·rename_i a c E J;obtain⟨src,q,i⟩:=d;split at i
   ·by_cases e:src=[]
    ·exact⟨_,_,i.2.1 e⟩
    ·obtain⟨o,w⟩:=H.fresh;exact⟨_,_,i.2.2 e o w⟩
   ·obtain⟨g1,g2,g3,rs,g4,A,l,B⟩:=i;exact⟨_,_,l⟩
   ·exact i.elim
  ·exact d.elim
 case a6N sh x k v =>
  simp only[cB] at d;split at d
  ·split at d
   ·exact⟨_,_,d.2⟩
   ·exact d.elim
  ·exact d.elim
 case insert sh x k v =>
  simp only[cB] at d;split at d
  ·split at d
   ·exact⟨_,_,d.2.2⟩
   ·exact d.elim
  ·exact d.elim
 all_goals exact d.elim
theorem Q3 (op:POp) (F:PF):(op.kind F).Ok:=by
 have c:(if op.gU then Kind.new (dA op F) else if op.eC then .write (fun H K=>cB op F H K) else .calm (aO op F)).Ok:=by
  split
  ·exact .new _
  ·split
   ·exact .write ⟨fun H K K' h d=>AN h d,fun H K d=>Va d⟩
   ·exact .calm ⟨avD op F,fun H H' v h e=>mj h e⟩
 cases op
 case call n az=>exact .call _ _
 case a6X x az =>
  simp only[POp.kind];split
  ·exact .call _ _
  ·exact .fail
 case insert sh x k v=>exact .ins _
 all_goals exact c
theorem rL (i:aU) (F:PF):(i.kind F).Ok:=by
 unfold aU.kind;split
 ·exact Q3 _ _
 ·split
  ·split
   ·exact Q3 _ _
   ·exact .calm ⟨⟨0,fun _ _ _=>rfl⟩,fun _ _ _ _ h=>h⟩
  ·exact .calm ⟨⟨0,fun _ _ _=>rfl⟩,fun _ _ _ _ h=>h⟩
  ·exact .fail
theorem Kind.rN {k:Kind} (A:k.Ok) {st:Bool} {K K':PV→PH→Prop} (h:∀ v H',Hs.le H'→K v H'→K' v H') (e:Hs.le H) (i:k.run C Hs S st K H):k.run C Hs S st K' H:=by
 cases A with
 | fail=>exact i
 | calm _=>obtain⟨v,c,d⟩:=i; exact⟨v,c,h _ _ e d⟩
 | new r=>obtain⟨E,x,c,d⟩:=i; exact⟨E,x,c,fun o y=>h _ _ (PH.le_trans e (PH.QH x y)) (d o y)⟩
 | write B=>exact B.mono _ _ _ (fun v H' u=>⟨u.1,h _ _ u.1 u.2⟩) i
 | call name args =>obtain⟨vs,D,R,c,d,p,l,h5,q⟩:=i;exact⟨vs,D,R,c,d,p,l,h5,fun r H' a b=>⟨(q r H' a b).1,h _ _ (q r H' a b).1 (q r H' a b).2⟩⟩
 | ins r =>obtain⟨o,sh,w,v,g,c,d,p,l,h5⟩:=i;exact⟨o,sh,w,v,g,c,d,p,l,h _ _ (PH.aVR e l) h5⟩
def Kind.cls:Kind→Nat
 | .fail | .calm _=>0
 | .new _=>1
 | .write _=>2
 | .call ..=>3
 | .ins _=>4
theorem KF {H:PH} {D:List Nat} {o:Nat} (x:cG) (h:o ∉ D):(H.set o x).only D=H.only D:=by
 refine PH.ext fun q=>?_;simp only[PH.only,cN];split
 ·rename_i c;rw[if_neg (by rintro rfl; exact h c)]
 ·rfl
theorem gV (H c H':PH) (o:Nat):(H.over c H') o=(match H' o with | some x=>some x | none=>match c o with | some _=>some .dead | none=>H o):=rfl
theorem rY (H:PH) (D:List Nat) (o:Nat):(H.only D) o=if o∈D then H o else none:=rfl
theorem Q7 {H H':PH} {D:List Nat} {o:Nat} (x:cG) (d:o ∉ D) (c:H' o=none):(H.set o x).over (H.only D) H'=(H.over (H.only D) H').set o x:=by
 refine PH.ext fun q=>?_;rw[gV,cN,cN,gV];by_cases e:q=o
 ·subst e;simp only[c,rY,if_neg d,if_true]
 ·simp only[if_neg e]
theorem Cd {H H':PH} {D:List Nat} {o:Nat} (h:(H.over (H.only D) H') o=none):H o=none∧H' o=none:=by
 rw[gV] at h;cases c:H' o with
 | some x=>rw[c] at h; cases h
 | none =>
  rw[c] at h;simp only at h;cases d:(H.only D) o with
  | some x=>rw[d] at h; cases h
  | none=>rw[d] at h; exact⟨h,rfl⟩
theorem Gt {name:Nat} {args:Option (List PV)} {r:Option ((Nat→PV) × cG)} {K:PV→PV→PH→Prop} {U V:Bool}
  (h:(Kind.call name args).run C Hs S U (fun v H'=>(Kind.new r).run C Hs S V (fun u d=>K v u d) H') H) :
  (Kind.new r).run C Hs S V (fun u H'=>(Kind.call name args).run C Hs S U (fun v d=>K v u d) H') H:=by
 obtain⟨vs,D,R,Y,Z,F,h4,h5,J⟩:=h;obtain⟨r0,W,w,A⟩:=h5 H;obtain⟨-,mk,x,O,-⟩:=J r0 W w A;refine⟨mk,x,O,fun o N=>?_⟩;have c:o ∉ D:=fun hD=>by obtain⟨y,Q⟩:=F o hD; rw[N] at Q; cases Q
 refine⟨vs,D,R,Y,Z,fun q B=>?_,?_,?_,?_⟩
 ·rw[cN];split
  ·exact⟨_,rfl⟩
  ·exact F q B
 ·rw[KF x c]; exact h4
 ·rw[KF x c]; exact h5
 ·intro v H' M i;rw[KF x c] at M i ⊢;have E:H' o=none:=by
   cases e:H' o with
   | none=>rfl
   | some y =>have:=i o y e (by rw[rY,if_neg c]);rw[cN,if_pos rfl] at this; cases this
  have l:lZ H (H.only D) H':=fun q y B X=>by
   have:=i q y B X;rw[cN] at this;split at this
   ·cases this
   ·exact this
  obtain⟨g1,mk',x',g2,g3⟩:=J v H' M l;rw[O] at g2;cases g2;have p:(H.over (H.only D) H') o=none:=by rw[gV,E,rY,if_neg c]; exact N
  rw[Q7 x c E];exact⟨PH.le_trans g1 (PH.QH x p),g3 o p⟩
theorem Gv {name:Nat} {args:Option (List PV)} {r:Option ((Nat→PV) × cG)} {K:PV→PV→PH→Prop} {Y Z:Bool} (N:Hs.le H)
  (h:(Kind.new r).run C Hs S Y (fun v H'=>(Kind.call name args).run C Hs S Z (fun u l=>K v u l) H') H) :
  (Kind.call name args).run C Hs S Z (fun u H'=>(Kind.new r).run C Hs S Y (fun v l=>K v u l) H') H:=by
 obtain⟨Q,x,hr,h⟩:=h;obtain⟨o0,O⟩:=H.fresh;obtain⟨vs,D,R,W,X,-⟩:=h o0 O;obtain⟨o,ho,A⟩:=H.zh D;have all:∀ q,H q=none→q ∉ D→(∀ p∈D,∃ y,(H.set q x) p=some y)∧aH C name vs (H.only D) (R (H.only D))∧(∀ G:PH,∃ r H',R (H.only D) r H'∧lZ G (H.only D) H') ∧
   ∀ r H',R (H.only D) r H'→lZ (H.set q x) (H.only D) H'→Hs.le ((H.set q x).over (H.only D) H')∧K (Q q) r ((H.set q x).over (H.only D) H'):=by
  intro q c i;obtain⟨α,D',R',g1,g2,g3,g4,U,V⟩:=h q c;rw[W] at g1; cases g1;rw[X] at g2; cases g2;rw[KF x i] at g4 U V;exact⟨g3,g4,U,V⟩
 obtain⟨a3,a4,a5,-⟩:=all o ho A;have hD:∀ q∈D,∃ y,H q=some y:=fun q c=>by obtain⟨y,F⟩:=a3 q c;rw[cN,if_neg (by rintro rfl; exact A c)] at F;exact⟨y,F⟩
 have B:∀ q,H q=none→q ∉ D:=fun q c J=>by obtain⟨y,F⟩:=hD q J; rw[c] at F; cases F
 refine⟨vs,D,R,W,X,hD,a4,a5,fun u H' hR M=>?_⟩;have step:∀ q,(H.over (H.only D) H') q=none→Hs.le ((H.over (H.only D) H').set q x)∧K (Q q) u ((H.over (H.only D) H').set q x):=by
  intro q c;obtain⟨d,E⟩:=Cd c;have i:=B q d;obtain⟨-,-,-,a6⟩:=all q d i;have:=a6 u H' hR fun p y w h0=>by
   rw[cN];split
   ·rename_i e; subst e; rw[E] at w; cases w
   ·exact M p y w h0
  rw[Q7 x i E] at this;exact this
 refine⟨?_,Q,x,hr,fun q c=>(step q c).2⟩;obtain⟨q,c⟩:=(H.over (H.only D) H').fresh;have d:=(step q c).1;intro p y w;have:=d p y w;rw[cN] at this;split at this
 ·rename_i e;subst e;have:=PH.le_none N (Cd c).1;rw[w] at this; cases this
 ·exact this
theorem Sw {r p:Option ((Nat→PV) × cG)} {K:PV→PV→PH→Prop} {w y:Bool}
  (h:(Kind.new r).run C Hs S w (fun v H'=>(Kind.new p).run C Hs S y (fun u c=>K v u c) H') H) :
  (Kind.new p).run C Hs S y (fun u H'=>(Kind.new r).run C Hs S w (fun v c=>K v u c) H') H:=by
 obtain⟨F,x,E,h⟩:=h;obtain⟨M,l⟩:=H.fresh;obtain⟨mk',A,d,-⟩:=h M l;refine⟨mk',A,d,fun q B=>⟨F,x,E,fun o i=>?_⟩⟩;rw[PH.Sm] at i;obtain⟨J,N,e,g⟩:=h o i.2;rw[d] at e;cases e;have:=g q (PH.Sm.2 ⟨Ne.symm i.1,B⟩)
 rwa [PH.set_comm H x A i.1] at this
theorem Gu {f:PH→Option PV} {k:Kind} {K:PV→PV→PH→Prop} {i w:Bool} (y:H8 f) (A:k.Ok) (e:k.cls=2∨k.cls=3∨k.cls=4→i=true) (d:Hs.le H)
  (h:(Kind.calm f).run C Hs S i (fun v H'=>k.run C Hs S w (fun u c=>K v u c) H') H) :
  k.run C Hs S w (fun u H'=>(Kind.calm f).run C Hs S i (fun v c=>K v u c) H') H:=by
 obtain⟨v,l,h⟩:=h;cases A with
 | fail=>exact h
 | @calm g M=>obtain⟨u,E,h⟩:=h; exact⟨u,E,v,l,h⟩
 | new r =>
  obtain⟨J,x,B,h⟩:=h;refine⟨J,x,B,fun o q=>⟨v,?_,h o q⟩⟩;cases i
  ·exact y.mono _ _ _ (PH.QH x q) l
  ·exact l
 | write F =>have:i=true:=e (.inl rfl);subst this;exact Kind.rN (.write F) (fun u H' _ p=>⟨v,l,p⟩) d h
 | call name args =>have:i=true:=e (.inr (.inl rfl));subst this;exact Kind.rN (.call name args) (fun u H' _ p=>⟨v,l,p⟩) d h
 | ins r =>have:i=true:=e (.inr (.inr rfl));subst this;exact Kind.rN (.ins r) (fun u H' _ p=>⟨v,l,p⟩) d h
theorem Gs {f:PH→Option PV} {k:Kind} {K:PV→PV→PH→Prop} {si A:Bool} (Y:H8 f) (hk:k.Ok) (y:k.cls=2∨k.cls=3∨k.cls=4→A=true) (α:Hs.le H)
  (h:k.run C Hs S si (fun v H'=>(Kind.calm f).run C Hs S A (fun u l=>K v u l) H') H) :
  (Kind.calm f).run C Hs S A (fun u H'=>k.run C Hs S si (fun v l=>K v u l) H') H:=by
 cases hk with
 | fail=>exact h.elim
 | @calm g hg=>obtain⟨u,d,v,hv,h⟩:=h; exact⟨v,hv,u,d,h⟩
 | new r =>
  obtain⟨mk,x,hr,h⟩:=h;cases A with
  | true =>obtain⟨W,p⟩:=H.fresh;obtain⟨u,d,-⟩:=h W p;refine⟨u,d,mk,x,hr,fun o B=>?_⟩;obtain⟨u',c,i⟩:=h o B;simp only[if_true] at d c;rw[d] at c; cases c;exact i
  | false =>
   obtain⟨q,hq⟩:=Y.dep;obtain⟨W,p,U⟩:=H.zh [q];obtain⟨u,d,-⟩:=h W p;simp only[baR,if_false] at d;have c:f H=some u:=by rw[← d];exact hq _ _ (by rw[cN,if_neg (by simpa using Ne.symm (fun e=>U (by simp[e])))])
   refine⟨u,c,mk,x,hr,fun o B=>?_⟩;obtain⟨u2,hu2,i⟩:=h o B;simp only[baR,if_false] at hu2;rw[Y.mono _ _ _ (PH.QH x B) c] at hu2;cases hu2;exact i
 | @write w hw =>have:A=true:=y (.inl rfl);subst this;obtain⟨_,_,_,u,d,_⟩:=hw.some _ _ h;refine⟨u,d,hw.mono _ _ _ (fun v H' Z=>⟨Z.1,?_⟩) h⟩;obtain⟨-,u',c,i⟩:=Z;simp only[if_true] at d c;rw[d] at c; cases c;exact i
 | call name args =>have:A=true:=y (.inr (.inl rfl));subst this;obtain⟨vs,D,R,E,F,J,M,h5,X⟩:=h;obtain⟨r0,H0,N,O⟩:=h5 H;obtain⟨-,u,d,-⟩:=X r0 H0 N O;refine⟨u,d,vs,D,R,E,F,J,M,h5,fun r H' hR Q=>?_⟩;obtain⟨g1,u',c,i⟩:=X r H' hR Q;simp only[if_true] at d c;rw[d] at c; cases c;exact⟨g1,i⟩
 | ins r =>have:A=true:=y (.inr (.inr rfl));subst this;obtain⟨o,sh,V,v,g,E,F,J,M,u,d,i⟩:=h;exact⟨u,d,o,sh,V,v,g,E,F,J,M,i⟩
theorem Sv {r J:Option (Nat × MSh × List KS × PV)} {K:PV→PV→PH→Prop} {M N:Bool}
  (h:(Kind.ins r).run C Hs S M (fun v H'=>(Kind.ins J).run C Hs S N (fun u i=>K v u i) H') H) :
  (Kind.ins J).run C Hs S N (fun u H'=>(Kind.ins r).run C Hs S M (fun v i=>K v u i) H') H:=by
 obtain⟨o,sh,d,v,g,A,B,E,p,o',y,c,v',O,k1,k2,w,Q,F⟩:=h;by_cases e:o'=o
 ·subst e;rw[cN,if_pos rfl] at k2;cases k2;have l:c≠d:=by rintro rfl;simp[jO.upd] at w
  have x:g c=none:=by simpa [jO.upd,l] using w
  refine⟨o',sh,c,v',g,k1,B,x,p,o',sh,d,v,g.upd c v',A,by rw[cN,if_pos rfl],by simp[jO.upd,Ne.symm l,E],p,?_⟩;have:((H.set o' (.map sh (g.upd c v'))).set o' (.map sh ((g.upd c v').upd d v)))=((H.set o' (.map sh (g.upd d v))).set o' (.map sh ((g.upd d v).upd c v'))):=by
   refine PH.ext fun q=>?_;simp only[cN];split
   ·congr 2;funext k;simp only[jO.upd];by_cases h5:k=d<;>by_cases R:k=c<;>simp_all
   ·rfl
  rw[this];exact F
 ·rw[cN,if_neg e] at k2;refine⟨o',y,c,v',O,k1,k2,w,Q,o,sh,d,v,g,A,by rw[cN,if_neg (Ne.symm e)]; exact B,E,p,?_⟩;rw[PH.set_comm H _ _ e];exact F
def sX (a b:Nat) (c d:Bool):Bool :=
 match a,b with
 | 0,0 | 0,1 | 1,0 | 1,1 | 1,3 | 3,1 | 4,4=>true
 | 0,_=>c
 | _,0=>d
 | _,_=>false
theorem aoI {q w:Kind} {K:PV→PV→PH→Prop} {E F:Bool} (hi:q.Ok) (p:w.Ok) (c:sX q.cls w.cls E F=true) (l:Hs.le H)
  (h:q.run C Hs S E (fun v H'=>w.run C Hs S F (fun u e=>K v u e) H') H) :
  w.run C Hs S F (fun u H'=>q.run C Hs S E (fun v e=>K v u e) H') H:=by
 by_cases i:q.cls=0
 ·cases hi with
  | fail=>exact h.elim
  | calm B =>refine Gu B p (fun hc=>?_) l h;rcases hc with hc | hc | hc<;>(rw[hc] at c; simpa [sX,Kind.cls] using c)
  | new | write | call | ins=>simp[Kind.cls] at i
 ·by_cases d:w.cls=0
  ·cases p with
   | fail =>
    cases hi with
    | fail=>exact h
    | calm _=>simp[Kind.cls] at i
    | new r =>obtain⟨mk,x,-,h⟩:=h;obtain⟨o,X⟩:=H.fresh;exact h o X
    | write Y=>obtain⟨_,_,_,W⟩:=Y.some _ _ h; exact W
    | call name args =>obtain⟨vs,D,R,N,O,Q,U,h5,V⟩:=h;obtain⟨r0,M,y,A⟩:=h5 H;exact (V r0 M y A).2
    | ins r =>obtain⟨o,sh,Z,v,g,N,O,Q,U,h5⟩:=h;exact h5
   | calm B =>refine Gs B hi (fun hc=>?_) l h;rcases hc with hc | hc | hc<;>(rw[hc] at c; simpa [sX,Kind.cls] using c)
   | new | write | call | ins=>simp[Kind.cls] at d
  ·cases hi with
   | fail | calm=>simp[Kind.cls] at i
   | new r =>
    cases p with
    | fail | calm=>simp[Kind.cls] at d
    | new J=>exact Sw h
    | write=>simp[Kind.cls,sX] at c
    | call=>exact Gv l h
    | ins=>simp[Kind.cls,sX] at c
   | write=>cases p<;>simp[Kind.cls,sX] at c d
   | call =>
    cases p with
    | fail | calm=>simp[Kind.cls] at d
    | new J=>exact Gt h
    | write=>simp[Kind.cls,sX] at c
    | call=>simp[Kind.cls,sX] at c
    | ins=>simp[Kind.cls,sX] at c
   | ins =>
    cases p with
    | fail | calm=>simp[Kind.cls] at d
    | new J=>simp[Kind.cls,sX] at c
    | write=>simp[Kind.cls,sX] at c
    | call=>simp[Kind.cls,sX] at c
    | ins=>exact Sv h
end
open Go Go.RowKit
def aU.apart (x y:aU):Bool :=
 (match x.dst with
  | some d=>!(y.cH).contains d&&y.dst != some d
  | none=>true) &&
 (match y.dst with
  | some d=>!(x.cH).contains d
  | none=>true)
theorem Rf {F:PF} {l:List Nat} {d:Option Nat} (v:PV) (h:∀ t,d=some t→t ∉ l):oZ l (F.put d v) F:=by
 intro t c;cases d with
 | none=>rfl
 | some d =>
  have:t≠d:=by rintro rfl; exact h t rfl c
  simp only[PF.put,PF.set,upd,if_neg this]
theorem aIB {F:PF} {d e:Option Nat} (v u:PV) (h:∀ t,d=some t→e≠some t):(F.put d v).put e u=(F.put e u).put d v:=by
 cases d with
 | none=>rfl
 | some d =>
  cases e with
  | none=>rfl
  | some e =>
   have c:d≠e:=by rintro rfl; exact h d rfl rfl
   exact aMU F (some v) (some u) c
theorem apart_spec {x y:aU} (h:x.apart y=true):(∀ d,x.dst=some d→d ∉ y.cH)∧(∀ d,x.dst=some d→y.dst≠some d)∧(∀ d,y.dst=some d→d ∉ x.cH):=by
 refine⟨fun d c=>?_,fun d c=>?_,fun d c=>?_⟩<;>simp[aU.apart,c] at h
 ·exact h.1.1
 ·exact h.1.2
 ·exact h.2
def POp.cls:POp→Nat
 | .call .. | .a6X ..=>3
 | .insert ..=>4
 | op=>if op.gU then 1 else if op.eC then 2 else 0
def aGR (a b:Nat) (c d:Bool):Bool :=
 match a,b with
 | 0,0 | 0,1 | 1,0 | 1,1=>true
 | 4,4=>c&&d
 | 0,_=>c
 | _,0=>d
 | 1,3=>c
 | 3,1=>d
 | _,_=>false
def jo (x y:aU × Bool):Bool:=x.1.apart y.1&&aGR x.1.op.cls y.1.op.cls x.2 y.2
section
variable {C:Ctx} {Hs:PH} {S:Spec} {H:PH} {F:PF}
theorem Cb (op:POp) (F:PF):(op.kind F).cls=op.cls∨(op.kind F).cls=0:=by
 have c:(if op.gU then Kind.new (dA op F) else if op.eC then .write (fun H K=>cB op F H K) else .calm (aO op F)).cls=(if op.gU then 1 else if op.eC then 2 else 0):=by
  split
  ·rfl
  ·split<;>rfl
 cases op
 case call n az=>exact .inl rfl
 case a6X x az =>
  simp only[POp.kind];split
  ·exact .inl rfl
  ·exact .inr rfl
 case insert sh x k v=>exact .inl rfl
 all_goals exact .inl c
theorem Ae (i:aU) (F:PF):(i.kind F).cls=i.op.cls∨(i.kind F).cls=0:=by
 unfold aU.kind;split
 ·exact Cb _ _
 ·split
  ·split
   ·exact Cb _ _
   ·exact .inr rfl
  ·exact .inr rfl
  ·exact .inr rfl
theorem aVW {a b c d:Nat} {e i:Bool} (h:aGR a b e i=true) (l:c=a∨c=0) (p:d=b∨d=0):sX c d e i=true:=by
 unfold aGR at h;split at h
 all_goals (rcases l with rfl | rfl<;>rcases p with rfl | rfl<;>simp_all [sX])
theorem Kind.aIO {k:Kind} (q:k.Ok) {st:Bool} {K:PV→PH→Prop} (c:k.run C Hs S st K H):∃ v H',K v H':=by
 cases q with
 | fail=>exact c.elim
 | calm _=>obtain⟨v,e,d⟩:=c; exact⟨v,_,d⟩
 | new r=>obtain⟨A,x,e,d⟩:=c; obtain⟨o,u⟩:=H.fresh; exact⟨_,_,d o u⟩
 | write w=>obtain⟨v,H',h⟩:=w.some _ _ c; exact⟨v,H',h.2⟩
 | call name args =>obtain⟨vs,D,R,e,d,i,l,h5,p⟩:=c;obtain⟨r,H',a,b⟩:=h5 H;exact⟨_,_,(p r H' a b).2⟩
 | ins r =>obtain⟨o,sh,y,v,g,e,d,i,l,h5⟩:=c;exact⟨_,_,h5⟩
def tB (C:Ctx) (Hs:PH) (S:Spec) (i:aU × Bool) (K:PF→PH→Prop) (F:PF) (H:PH):Prop:=(i.1.kind F).run C Hs S i.2 (fun v H'=>K (F.put i.1.dst v) H') H
theorem vX {i:aU × Bool} {K K':PF→PH→Prop} (h:∀ d H',Hs.le H'→K d H'→K' d H') (c:Hs.le H) (e:tB C Hs S i K F H):tB C Hs S i K' F H :=
 Kind.rN (rL _ _) (fun v H' a b=>h _ _ a b) c e
theorem auZ {i j:aU × Bool} {K:PF→PH→Prop} (l:jo i j=true) (e:Hs.le H) (h:tB C Hs S i (tB C Hs S j K) F H):tB C Hs S j (tB C Hs S i K) F H:=by
 simp only[jo,a7X] at l;obtain⟨w,x,y⟩:=apart_spec l.1;unfold tB at h ⊢;have p:∀ v,j.1.kind (F.put i.1.dst v)=j.1.kind F:=fun v=>j2 (Rf v w);have q:∀ v,i.1.kind (F.put j.1.dst v)=i.1.kind F:=fun v=>j2 (Rf v y);simp only[p] at h;simp only[q];have:=aoI (K:=fun v u d=>K ((F.put i.1.dst v).put j.1.dst u) d) (rL i.1 F) (rL j.1 F) (aVW l.2 (Ae _ _) (Ae _ _)) e h;refine Kind.rN (rL j.1 F) (fun u H' a b=>?_) e this;refine Kind.rN (rL i.1 F) (fun v d _ c=>?_) a b;rw[aIB v u x] at c;exact c
inductive vI (ops:Array Oper):Nat→Nat→Prop
 | one {i j:Nat} {o:Oper} {e} (ho:ops[j]?=some o) (he:e∈o.after) (hb:Region.binds .any e=true) (hi:e.on=i):vI ops i j
 | step {i m j:Nat} {o:Oper} {e} (h:vI ops i m) (ho:ops[j]?=some o) (he:e∈o.after) (hb:Region.binds .any e=true) (hm:e.on=m):vI ops i j
def oX (ops:Array Oper) (listed:Array Bool):Prop:=∀ j o,ops[j]?=some o→listed.getD j false=true→∀ e∈o.after,Region.binds .any e=true→listed.getD e.on false=true
theorem oX.aMT {ops:Array Oper} {listed:Array Bool} (l:oX ops listed) {i j:Nat} (h:vI ops i j) (p:listed.getD j false=true):listed.getD i false=true:=by
 induction h with
 | one e d c hi=>subst hi; exact l _ _ e p _ d c
 | step h e d c q u=>subst q; exact u (l _ _ e p _ d c)
theorem oX.Bp {ops:Array Oper} {listed:Array Bool} (w:oX ops listed) {i j:Nat} (h:vI ops i j) (hi:listed.getD i false=false):j ∉ Region.ready .any ops listed:=by
 intro q;rw[mem_ready] at q;obtain⟨-,o,u,d⟩:=q;cases h with
 | one c l e p =>rw[u] at c; cases c;subst p;rw[d _ l e] at hi; cases hi
 | step h c l e x =>rw[u] at c; cases c;subst x;rw[w.aMT h (d _ l e)] at hi; cases hi
theorem oX.set {ops:Array Oper} {listed:Array Bool} (x:oX ops listed) {i:Nat} (hi:i∈Region.ready .any ops listed):oX ops (listed.setIfInBounds i true):=by
 intro j o w u e q p;by_cases d:j=i
 ·subst d;rw[mem_ready] at hi;obtain⟨-,o',l,c⟩:=hi;rw[w] at l; cases l;exact getD_set_true (c e q p)
 ·rw[getD_set_ne false (Ne.symm d)] at u;exact getD_set_true (x j o w u e q p)
def yX (C:Ctx) (Hs:PH) (S:Spec) (ops:Array Oper) (il:List (aU × Bool)) (K:PF→PH→Prop):Nat→Array Bool→PF→PH→Prop
 | 0,listed,F,H=>Region.ready .any ops listed=[]∧K F H
 | fuel+1,listed,F,H=>(Region.ready .any ops listed=[]→K F H) ∧
  ∀ i∈Region.ready .any ops listed,∀ p,il[i]?=some p→tB C Hs S p (yX C Hs S ops il K fuel (listed.setIfInBounds i true)) F H
theorem aiR {ops:Array Oper} {il:List (aU × Bool)} {K:PF→PH→Prop} {i:Nat} {p:aU × Bool} (W:il[i]?=some p) :
  ∀ (fuel:Nat) (listed:Array Bool) (F:PF) (H:PH),Hs.le H→oX ops listed →
   (∀ j q,il[j]?=some q→j≠i→listed.getD j true=false→¬ vI ops i j→jo p q=true) →
   i∈Region.ready .any ops listed→tB C Hs S p (yX C Hs S ops il K fuel (listed.setIfInBounds i true)) F H→yX C Hs S ops il K (fuel+1) listed F H:=by
 intro fuel
 induction fuel with
 | zero =>
  intro listed F H l O d x h;refine⟨fun e=>(by rw[e] at x; cases x),fun j y q w=>?_⟩;by_cases c:j=i
  ·subst c; rw[W] at w; cases w; exact h
  ·obtain⟨v,H',A⟩:=Kind.aIO (rL _ _) h;have:=ready_mono y c;rw[A.1] at this; cases this
 | succ fuel ih =>
  intro listed F H l O d x h;refine⟨fun e=>(by rw[e] at x; cases x),fun j y q w=>?_⟩;by_cases c:j=i
  ·subst c; rw[W] at w; cases w; exact h
  ·have u:=(mem_ready.1 x).1;have E:=(mem_ready.1 y).1;have B:listed.getD i false=false:=by
    rcases a8D i listed.size with h' | h'
    ·simp[h'] at u ⊢; exact u
    ·simp[Array.getElem?_eq_none h'] at u
   have R:¬ vI ops i j:=fun Z=>O.Bp Z B y;have X:tB C Hs S p (tB C Hs S q (yX C Hs S ops il K fuel ((listed.setIfInBounds i true).setIfInBounds j true))) F H :=
    vX (fun V H' _ A=>A.2 j (ready_mono y c) q w) l h
   have Y:=auZ (d j q w c E R) l X;refine vX (fun V H' M A=>?_) l Y;refine ih (listed.setIfInBounds j true) V H' M (O.set y) (fun k r hk Q N U=>d k r hk Q ?_ U) (ready_mono x (Ne.symm c)) ?_
   ·by_cases J:j=k
    ·subst J; exact E
    ·rw[getD_set_ne true J] at N; exact N
   ·rw[Array.setIfInBounds_comm _ _ c]; exact A
def sK (o:Oper):List Nat:=(o.after.toList.filter fun e=>Region.binds .any e).map (·.on)
def Oi (ms:List Nat) (ds:List Nat):Nat:=ds.foldl (fun s d=>s ||| (2 ^ d ||| ms.getD d 0)) 0
def wX:List Oper→List Nat→List Nat
 | [],c=>c
 | o::os,c=>wX os (c++[Oi c (sK o)])
def jM (ms:List Nat):Nat→List Oper→Bool
 | _,[]=>true
 | k,o::os=>(sK o).all (·<k)&&ms.getD k 0==Oi ms (sK o)&&jM ms (k+1) os
def BP (ms:List Nat) (i:Nat) (p:aU × Bool):Nat→List (aU × Bool)→Bool
 | _,[]=>true
 | j,q::c=>((ms.getD j 0).testBit i||jo p q)&&BP ms i p (j+1) c
def yM (ms:List Nat):Nat→List (aU × Bool)→Bool
 | _,[]=>true
 | i,p::ps=>BP ms i p (i+1) ps&&yM ms (i+1) ps
def arZ (ops:Array Oper) (il:List (aU × Bool)):Bool :=
 let ms:=wX ops.toList []
 jM ms 0 ops.toList&&yM ms 0 il
theorem Oj {ms:List Nat} {i:Nat}:∀ {ds:List Nat} {s:Nat},(ds.foldl (fun s d=>s ||| (2 ^ d ||| ms.getD d 0)) s).testBit i=true→s.testBit i=true∨∃ d∈ds,d=i∨(ms.getD d 0).testBit i=true
 | [],s,h=>.inl h
 | d::ds,s,h=>by
  rw[List.foldl_cons] at h;rcases Oj h with h | ⟨e,he,h⟩
  ·rw[Nat.testBit_or,Nat.testBit_or,Nat.testBit_two_pow] at h;simp only[Bool.or_eq_true,decide_eq_true_eq] at h;rcases h with h | h | h
   ·exact .inl h
   ·exact .inr ⟨d,by simp,.inl h⟩
   ·exact .inr ⟨d,by simp,.inr h⟩
  ·exact .inr ⟨e,by simp[he],h⟩
theorem sW {ms:List Nat}:∀ {l:List Oper} {k j:Nat} {o:Oper},jM ms k l=true→l[j]?=some o→(∀ d∈sK o,d<k+j)∧ms.getD (k+j) 0=Oi ms (sK o)
 | [],_,_,_,_,h=>by simp at h
 | o::os,k,j,o',h,c=>by
  simp only[jM,a7X,a7W,decide_eq_true_eq,beq_iff_eq] at h;cases j with
  | zero=>simp only[List.getElem?_cons_zero,a9V.injEq] at c; subst c; exact⟨h.1.1,h.1.2⟩
  | succ j =>have:=sW h.2 (by simpa using c);rw[a9R,Nat.add_comm 1 j] at this;exact this
theorem WJ {ms:List Nat} {ops:Array Oper} (h:jM ms 0 ops.toList=true) (i:Nat):∀ (n j:Nat),j<n→j<ops.size→(ms.getD j 0).testBit i=true→vI ops i j:=by
 intro n
 induction n with
 | zero=>intro j x; omega
 | succ n A =>
  intro j x hlt hb;have y:ops.toList[j]?=some ops[j]:=by simp[hlt]
  have l:ops[j]?=some ops[j]:=by simp[hlt]
  obtain⟨p,q⟩:=sW h y;rw[a8E] at p q;rw[q] at hb;rcases Oj hb with hb | ⟨d,hd,hb⟩
  ·simp at hb
  ·have w:=p d hd;simp only[sK,a8J,List.mem_filter] at hd;obtain⟨e,⟨u,c⟩,rfl⟩:=hd;rcases hb with rfl | hb
   ·exact .one l (by simpa using u) c rfl
   ·exact .step (A e.on Om Om hb) l (by simpa using u) c rfl
theorem RW {ms:List Nat} {i:Nat} {p:aU × Bool}:∀ {l:List (aU × Bool)} {k j:Nat} {q:aU × Bool},BP ms i p k l=true→l[j]?=some q→(ms.getD (k+j) 0).testBit i=true∨jo p q=true
 | [],_,_,_,_,h=>by simp at h
 | x::xs,k,j,q,h,c=>by
  simp only[BP,a7X,Bool.or_eq_true] at h;cases j with
  | zero=>simp only[List.getElem?_cons_zero,a9V.injEq] at c; subst c; exact h.1
  | succ j =>have:=RW h.2 (by simpa using c);rw[a9R,Nat.add_comm 1 j] at this;exact this
theorem GO {ops:Array Oper} {il:List (aU × Bool)} {K:PF→PH→Prop} {ms:List Nat} (Q:il.length=ops.size) (E:jM ms 0 ops.toList=true) :
  ∀ (l:List (aU × Bool)) (k:Nat) (listed:Array Bool) (F:PF) (H:PH),(∀ j,l[j]?=il[k+j]?)→k+l.length=ops.size→listed.size=ops.size→(∀ j,j<ops.size→(listed.getD j true=true↔j<k))→yM ms k l=true→Hs.le H →
   wpD C Hs S l K F H→yX C Hs S ops il K l.length listed F H
 | [],k,listed,F,H,W,V,U,c,_,B,h=>by
  refine⟨?_,h⟩;cases hr:Region.ready .any ops listed with
  | nil=>rfl
  | cons x xs =>
   have hx:x∈Region.ready .any ops listed:=by rw[hr]; simp
   obtain⟨h0,o,X,-⟩:=mem_ready.1 hx;have hlt:x<ops.size:=(baQ.1 X).1;have:=(c x hlt).2 (by simp at V; omega);rw[h0] at this; cases this
 | p::l,k,listed,F,H,W,V,U,c,hB,B,h=>by
  have hp:il[k]?=some p:=by simpa using (W 0).symm
  have N:k<ops.size:=by simp at V; omega
  simp only[yM,a7X] at hB;have X:ops[k]?=some ops[k]:=by simp[N]
  have y:∀ j,j<ops.size→(listed.getD j false=listed.getD j true):=fun j w=>by simp[show j<listed.size by omega]
  have δ:∀ j,j<ops.size→∀ e∈ops[j]!.after,True:=fun _ _ _ _=>trivial;have u:∀ j o,ops[j]?=some o→∀ e∈o.after,Region.binds .any e=true→e.on<j:=by
   intro j o w e J hb;have hlt:j<ops.size:=(baQ.1 w).1;have:=(sW E (j:=j) (o:=o) (by simpa using w)).1 e.on (by simp only[sK,a8J,List.mem_filter];exact⟨e,⟨by simpa using J,hb⟩,rfl⟩)
   omega
  have i:k∈Region.ready .any ops listed:=by
   rw[mem_ready];refine⟨?_,_,X,fun e J hb=>?_⟩
   ·cases Y:listed.getD k true with
    | false=>rfl
    | true=>have:=(c k N).1 Y; omega
   ·have hd:=u k _ X e J hb;rw[y e.on Om];exact (c e.on Om).2 hd
  have d:oX ops listed:=by intro j o w R e J hb;have hlt:j<ops.size:=(baQ.1 w).1;have hd:=u j o w e J hb;rw[y j hlt] at R;have:=(c j hlt).1 R;rw[y e.on Om];exact (c e.on Om).2 Om
  refine aiR hp l.length listed F H B d (fun j q hq α γ Z=>?_) i ?_
  ·have M:j<ops.size:=by have:=(a8P.1 hq).1;omega
   have A:k<j:=by
    rcases Nat.lt_trichotomy j k with h' | h' | h'
    ·have:=(c j M).2 h';rw[γ] at this; cases this
    ·exact (α h').elim
    ·exact h'
   have β:l[j-(k+1)]?=some q:=by have:=W (j-k);rw[show k+(j-k)=j by omega,hq,show j-k=(j-(k+1))+1 by omega] at this;simpa using this
   rcases RW hB.1 β with hb | hb
   ·rw[show k+1+(j-(k+1))=j by omega] at hb;exact (Z (WJ E k (j+1) j Om M hb)).elim
   ·exact hb
  ·have h':tB C Hs S p (wpD C Hs S l K) F H:=h;refine vX (fun F' H' O Y=>?_) B h';refine GO Q E l (k+1) _ F' H' (fun j=>?_) (by simp at V; omega) (by simpa using U) (fun j w=>?_) hB.2 O Y
   ·have:=W (j+1);rw[show k+(j+1)=k+1+j by omega] at this;simpa using this
   ·by_cases A:k=j
    ·subst A;simp[show k<listed.size by omega]
    ·rw[getD_set_ne true A,c j w];omega
end
open Go Go.RowKit
def Kw (ms cls:List Nat) (i:Nat):Bool :=
 cls.getD i 0 != 0||(a7H cls.length).any fun j=>(cls.getD j 0==2||cls.getD j 0==3||cls.getD j 0==4)&&!(ms.getD j 0).testBit i&&!(ms.getD i 0).testBit j
def wB (ops:Array Oper) (c:List aU):List (aU × Bool) :=
 let ms:=wX ops.toList []
 let cls:=c.map fun i=>i.op.cls
 c.zip ((a7H c.length).map (Kw ms cls))
namespace Tbl
variable (T:Tbl)
def drawn (n:Nat) (ops:Array Oper):Option (List (aU × Bool)) :=
 match T.qX n ops ops.toList with
 | some c=>if T.P.follows .mixedOrders&&arZ ops (wB ops c) then some (wB ops c) else none
 | none=>none
end Tbl
section
variable {ro:Option Nat} {fu:Nat} {ds:List Deferred} {C:Ctx} {Hs:PH} {S:Spec} {T:Tbl} {n:Nat}
section
variable {E:Env} {F:PF} {H:PH} {a:Act} {w:World}
theorem mB.after {c:Env} {H':PH} {d:World} {K:PF→PH→Prop} {next:Act→World→Prop} (h:mB ds n E H w K next) (p:Ext E H w c H' d):mB ds n c H' d K next :=
 fun e i H2 a2 x l hW u q=>h e i H2 a2 x l hW (p.trans u) q
theorem OJ {t:Nat} {b:Bool} (d:dL ds n E F a) (h:F t=some (.bool b)):a.tmps[t]?=some (.bool b):=by
 have r:=d.t t _ h;rw[baZ] at r;cases c:a.tmps[t]? with
 | none=>rw[c] at r; simp[undef] at r; cases r
 | some v=>rw[c] at r; simp at r; cases r; rfl
theorem IP {ops:Array Oper} {o:Oper} {i:aU} (h:T.UW n ops o=some i):(T.op o=some i.op∨i.op=.stuck)∧o.dst=i.dst∧o.dst.all (·<n)=true ∧
  ((o.guard=none∧i.guard=none)∨∃ j c t,o.guard=some (j,c)∧i.guard=some (t,c)∧(ops[j]?).bind (·.dst)=some t):=by
 unfold Tbl.UW at h;have l:T.op o=some ((T.op o).getD .stuck)∨(T.op o).getD .stuck=.stuck:=by
  cases T.op o
  ·exact .inr rfl
  ·exact .inl rfl
 ·generalize (T.op o).getD .stuck=p at *
  split at h
  ·rename_i e;split at h
   ·rename_i d;cases h;exact⟨l,rfl,e,.inl ⟨d,rfl⟩⟩
   ·rename_i j c d;split at h
    ·rename_i t q;cases h;exact⟨l,rfl,e,.inr ⟨j,c,t,d,rfl,q⟩⟩
    ·cases h
  ·cases h
theorem ES {ops:Array Oper} {o:Oper} {j t:Nat} {c b:Bool} (e:o.guard=some (j,c)) (i:(ops[j]?).bind (·.dst)=some t) (d:a.tmps[t]?=some (.bool b)):Region.wanted o (yielded ops a.tmps)=(b==c):=by
 simp[Region.wanted,e,yielded,i,d]
end
theorem uH {E:Env}:aZ E (.tup []) undef:=.tup #[] rfl (by simp)
theorem TB {n:Nat} {E:Env} {F:PF} {a:Act} {t:Nat} (c:dL ds n E F a) (h:F t=some (.tup [])):a.tmps.getD t undef=undef:=by
 have:=c.t t _ h;generalize a.tmps.getD t undef=v at this;cases this with
 | tup vs d e =>
  have:vs=#[]:=by simpa using d
  subst this; rfl
theorem AD {ops:Array Oper} {a:Act} {o:Oper} {j t:Nat} {c:Bool} (e:o.guard=some (j,c)) (i:(ops[j]?).bind (·.dst)=some t) (d:a.tmps.getD t undef=undef):Region.wanted o (yielded ops a.tmps)=false:=by
 simp only[Region.wanted,e,yielded,i];rw[baZ] at d;cases h:a.tmps[t]? with
 | none=>simp[h]
 | some v =>rw[h] at d;simp only[baH] at d;subst d;simp[h,undef]
theorem rZ {C:Ctx} {E:Env} {F:PF} {H:PH} {a:Act} {w:World} (e:C.P=T.P) (c:C.num=T.num) {o:Oper} {p:POp} {d:Option Nat} {K:PF→PH→Prop} {Q:Exit→Act→World→Prop} {next:Act→World→Prop} (i:T.op o=some p∨p=.stuck) (u:o.dst=d) (hlt:o.dst.all (·<n)=true)
  (h:wpOp C p d K F H) (l:dL ds n E F a) (hW:bM E H w) (q:E.num=T.num) (a6R:mB ds n E H w K next):o.wpIn (Fz ro) fu T.P a w next Q:=by
 rcases i with i | rfl
 ·exact aHV e c i u hlt h l hW q a6R
 ·obtain⟨v,x,-⟩:=h;cases x
theorem VD (H:PH) (D:List Nat):(H.only D).le H:=by
 intro o x c;rw[rY] at c;split at c
 ·exact c
 ·cases c
theorem KX {op:POp} {F:PF} {H:PH} {st:Bool} {d:Option Nat} {K:PF→PH→Prop} (q:Hs.le H) (h:(op.kind F).run C Hs S st (fun v H'=>K (F.put d v) H') H):wpOp C op d K F H:=by
 have p:(if op.gU then Kind.new (dA op F) else if op.eC then .write (fun H K=>cB op F H K) else .calm (aO op F)).run C Hs S st (fun v H'=>K (F.put d v) H') H →
   (if op.gU then mV (dA op F) d K F H else if op.eC then cB op F H (fun r H'=>K (F.put d r) H') else bX (aO op F H) d K F H):=by
  intro h;by_cases e:op.gU=true
  ·rw[if_pos e] at h ⊢; exact h
  ·rw[if_neg e] at h ⊢;by_cases l:op.eC=true
   ·rw[if_pos l] at h ⊢;have O:cB op F H fun r H'=>Hs.le H'∧K (F.put d r) H':=h;exact AN (fun v H' W=>W.2) O
   ·rw[if_neg l] at h ⊢;obtain⟨v,y,V⟩:=h;refine⟨v,?_,V⟩;cases st
    ·exact y
    ·exact mj q y
 have c:∀ name i,(Kind.call name i).run C Hs S st (fun v H'=>K (F.put d v) H') H→sF C name i d K F H:=by intro name i h;obtain⟨vs,D,R,e,l,u,Q,h5,U⟩:=h;exact⟨vs,H.only D,R (H.only D),e,VD H D,Q,fun r H' a b=>(U r H' a b).2⟩
 cases op
 case call name az=>exact .inl (by simpa using c _ _ h)
 case a6X x az =>
  simp only[POp.kind] at h;split at h
  ·rename_i name cs X;show uQ C (x.ev F) az d K F H;rw[X];exact .inl (c _ _ h)
  ·exact h.elim
 case insert sh x k v =>
  obtain⟨o,Z,Y,vv,g,e,l,u,-,h5⟩:=h;show cB (.insert sh x k v) F H (fun r H'=>K (F.put d r) H');split at e
  ·rename_i o' kv α B J M;simp only[a7Q,Prod.mk.injEq] at e;obtain⟨A,N,rfl,rfl,rfl,rfl⟩:=e;simp only[cB,B,J,M,l,N];exact⟨trivial,u,h5⟩
  ·cases e
 all_goals exact p h
theorem xl (V:C.P=T.P) (U:C.num=T.num) {ops:Array Oper} {M:List aU} {O:List Bool} (ε:O.length=M.length) (δ:∀ (i:Nat) o,ops[i]?=some o→∃ p,M[i]?=some p∧T.UW n ops o=some p)
  {K:PF→PH→Prop} {Q:Exit→Act→World→Prop} :
  ∀ (fuel:Nat) (listed:Array Bool) (E:Env) (F:PF) (H:PH) (a:Act) (w:World),yX C Hs S ops (M.zip O) K fuel listed F H→Hs.le H→dL ds n E F a→bM E H w→E.num=T.num→mB ds n E H w K (Q .normal) →
   wpAnyIn (Fz ro) fu T.P .any ops Q fuel listed a w:=by
 intro fuel
 induction fuel with
 | zero=>intro listed E F H a w h A d hW Y Z; exact⟨h.1,Z E F H a w d hW (.refl E H w) h.2⟩
 | succ fuel ih =>
  intro listed E F H a w h A d hW Y Z;refine⟨fun e=>Z E F H a w d hW (.refl E H w) (h.1 e),fun i hi=>?_⟩;obtain⟨-,o,ho,-⟩:=mem_ready.1 hi;obtain⟨p,hp,γ⟩:=δ i o ho;have hlt:i<M.length:=(a8P.1 hp).1;have hz:(M.zip O)[i]?=some (p,O[i]'Om):=by rw[List.getElem?_zip_eq_some];exact⟨hp,by simp⟩
  have W:=h.2 i hi _ hz;obtain⟨X,hd,q,hg⟩:=IP γ;have l:mB ds n E H w (fun N H'=>Hs.le H'∧yX C Hs S ops (M.zip O) K fuel (listed.setIfInBounds i true) N H') (wpAnyIn (Fz ro) fu T.P .any ops Q fuel (listed.setIfInBounds i true)) :=
   fun E' N H' a' w' α β hE R=>ih _ E' N H' a' w' R.2 R.1 α β (hE.env.num.trans Y) (Z.after hE)
  have c:=vX (K':=fun N H'=>Hs.le H'∧yX C Hs S ops (M.zip O) K fuel (listed.setIfInBounds i true) N H') (fun N H' x y=>⟨x,y⟩) A W;unfold tB aU.kind at c;unfold Go.wpOpIn;simp only[ho];rcases hg with ⟨u,J⟩ | ⟨j,want,t,u,J,ht⟩
  ·rw[if_pos (by simp[Region.wanted,u])];simp only[J] at c;exact (rZ V U X hd q (KX A c) d hW Y l)
  ·simp only[J] at c;split at c
   ·rename_i b hb;rw[ES u ht (OJ d hb)];split at c
    ·rename_i B;rw[if_pos (by simp[B])];exact (rZ V U X hd q (KX A c) d hW Y l)
    ·rename_i B;rw[if_neg (by simpa using B)];obtain⟨v,hv,R⟩:=c;cases hv;exact⟨fun _ _=>trivial,l E _ H _ w (by rw[← hd]; exact d.put q uH) hW (.refl E H w) R⟩
   ·rename_i hb;rw[AD u ht (TB d hb),if_neg (by simp)];obtain⟨v,hv,R⟩:=c;cases hv;exact⟨fun _ _=>trivial,l E _ H _ w (by rw[← hd]; exact d.put q uH) hW (.refl E H w) R⟩
   ·exact c.elim
theorem QE {ops:Array Oper}:∀ {l:List Oper} {d:List aU},T.qX n ops l=some d→d.length=l.length∧∀ (i:Nat) o,l[i]?=some o→∃ p,d[i]?=some p∧T.UW n ops o=some p
 | [],d,h=>by simp[Tbl.qX] at h; subst h;exact⟨rfl,fun i o h=>by simp at h⟩
 | o::l,d,h=>by
  simp only[Tbl.qX] at h;split at h
  ·rename_i p ps y e;cases h;obtain⟨u,x⟩:=QE e;refine⟨by simp[u],fun i o' c=>?_⟩;cases i with
   | zero=>simp at c; subst c; exact⟨p,rfl,y⟩
   | succ i=>obtain⟨q,a,b⟩:=x i o' (by simpa using c); exact⟨q,by simpa using a,b⟩
  ·cases h
theorem ajT (x:C.P=T.P) (u:C.num=T.num) {id:Nat} {ops:Array Oper} {il:List (aU × Bool)} (c:T.drawn n ops=some il) {K:PF→PH→Prop} {Q:Exit→Act→World→Prop} {E:Env} {F:PF} {H:PH} {a:Act} {w:World}
  (h:∃ Hs S,PH.le Hs H∧wpD C Hs S il K F H) (V:dL ds n E F a) (hW:bM E H w) (W:E.num=T.num) (X:mB ds n E H w K (Q .normal)):(Code.region id ops true).wpIn (Fz ro) fu T.P Q a w:=by
 obtain⟨Hs,S,p,h⟩:=h;unfold Tbl.drawn at c;split at c
 ·rename_i M A;split at c
  ·rename_i d;cases c;simp only[a7X,arZ] at d;obtain⟨Z,B,J⟩:=d;obtain⟨q,y⟩:=QE A;have e:M.length=ops.size:=by simpa using q
   refine wpIn_region_any Z ?_;have l:(wB ops M).length=ops.size:=by simp[wB,e]
   have N:=GO (C:=C) (Hs:=Hs) (S:=S) (K:=K) l B (wB ops M) 0 (a9F ops.size false) F H (by simp) (by simp[l]) (by simp) (fun j Y=>by simp[Y]) J p h;rw[l] at N;exact xl x u (by simp) (fun i o ho=>y i o (by simpa using ho)) ops.size _ E F H a _ N p V hW.drew W (fun O R H' U w' g1 g2 g3 g4=>X O R H' U w' g1 g2 g3.wb g4)
  ·cases c
 ·cases c
end
end Go.PM
namespace Go.PM
open Go Go.RowKit
def POp.aVD:POp→Bool
 | .load .. | .lookup .. | .a6J ..=>true
 | _=>false
def POp.aPY:POp→Bool
 | .store ..=>true
 | _=>false
def ov (ms:List Nat) (m n:Nat):Bool:=(a7H n).all fun j=>decide (j<m)||(a7H m).all fun i=>(ms.getD j 0).testBit i
def cutAt (ms:List Nat) (c:List aU):Option Nat :=
 let cls:=c.map fun i=>i.op.cls
 (a7H c.length).find? fun m=>(match c[m]? with | some i=>i.op.aPY&&i.guard.isNone | none=>false)&&ov ms m c.length&&(a7H m).any fun i=>match c[i]? with | some x=>x.op.aVD&&Kw ms cls i | none=>false
def lE (ms:List Nat) (k:Nat) (c:List aU):List (aU × Bool) :=
 let cls:=c.map fun i=>i.op.cls
 c.zip ((a7H c.length).map (Kw (ms.drop k |>.map (· >>> k)) cls))
namespace Tbl
variable (T:Tbl)
def J5 (n:Nat) (ops:Array Oper):Option aC :=
 match T.qX n ops ops.toList with
 | some c =>
  let ms:=wX ops.toList []
  match cutAt ms c with
  | none=>(T.drawn n ops).map .draw
  | some m =>
   let A:=lE ms 0 (c.take m)
   let B:=lE ms m (c.drop m)
   if T.P.follows .mixedOrders&&jM ms 0 ops.toList&&ov ms m c.length&&yM ms 0 A&&yM ms m B then some (.seq (.draw A) (.draw B)) else none
 | none=>none
def code (n:Nat):Code→Option aC
 | .skip=>some .skip
 | .region _ ops d=>if d then T.J5 n ops else (T.qX n ops ops.toList).map .region
 | .seq a b=>match code n a,code n b with
  | some a,some b=>some (.seq a b)
  | _,_=>none
 | .cond c a b=>match T.opd c,code n a,code n b with
  | some c,some a,some b=>some (.cond c a b)
  | _,_,_=>none
 | .block id c=>(code n c).map (.block id)
 | .loop c=>(code n c).map .loop
 | .exit id=>some (.exit id)
 | .ret=>some .ret
 | .scope c=>code n c
 | .label _=>some .skip
 | _=>none
end Tbl
theorem QL {ms:List Nat}:∀ {l:List Oper} {k m:Nat},jM ms k l=true→jM ms k (l.take m)=true
 | [],_,_,_=>by simp[jM]
 | o::l,k,0,_=>by simp[jM]
 | o::l,k,m+1,h=>by simp only[jM,a7X,List.take_succ_cons] at h ⊢;exact⟨h.1,QL h.2⟩
theorem uV {listed:Array Bool} {m f i:Nat} {d:Bool} (c:listed.size=m) (h:i<m):(listed++a9F f false).getD i d=listed.getD i d:=by
 simp only[baZ];rw[Array.getElem?_append_left Om]
section
variable {ro:Option Nat} {fu:Nat} {ds:List Deferred} {C:Ctx} {Hs:PH} {S:Spec} {T:Tbl} {n:Nat}
theorem aRD {ops:Array Oper} {m i:Nat} (c:m≤ops.size):(ops.extract 0 m)[i]?=if i<m then ops[i]? else none:=by
 rw[Array.getElem?_extract];split
 ·rename_i h; rw[if_pos Om]; simp
 ·rename_i h; rw[if_neg Om]
theorem anC {ops:Array Oper} {ms:List Nat} {m:Nat} (K:m≤ops.size) (q:jM ms 0 ops.toList=true) (M:ov ms m ops.size=true) {listed:Array Bool} {f:Nat} (A:listed.size=m) (O:m+f=ops.size) (J:oX ops (listed++a9F f false))
  (B:∃ i,i<m∧listed.getD i true=false) {i:Nat} (hi:i∈Region.ready .any ops (listed++a9F f false)):i<m∧i∈Region.ready .any (ops.extract 0 m) listed:=by
 obtain⟨E,o,y,d⟩:=mem_ready.1 hi;have p:i<ops.size:=(baQ.1 y).1;have c:i<m:=by
  rcases a8D i m with h | h
  ·exact h
  ·exfalso;obtain⟨u,H,w⟩:=B;have x:(ms.getD i 0).testBit u=true:=by have:=a7W.1 M i (a8K.2 p);rw[decide_eq_false Om,Bool.false_or] at this;exact a7W.1 this u (a8K.2 H)
   have l:=WJ q u (i+1) i Om p x;refine J.Bp l ?_ hi;rw[uV A H];have:u<listed.size:=Om;simp[this] at w ⊢;exact w
 refine⟨c,mem_ready.2 ⟨?_,o,by rw[aRD K,if_pos c]; exact y,fun e F x=>?_⟩⟩
 ·rw[uV A c] at E; exact E
 ·have N:=(sW q (j:=i) (o:=o) (by simpa using y)).1 e.on (by simp only[sK,a8J,List.mem_filter];exact⟨e,⟨by simpa using F,x⟩,rfl⟩);have:=d e F x;rw[uV A Om] at this;exact this
theorem Wx {ops:Array Oper} {ms:List Nat} (d:jM ms 0 ops.toList=true) {listed:Array Bool} (F:listed.size=ops.size):∀ (u:Nat),u<ops.size→listed.getD u true=false→∃ i,i∈Region.ready .any ops listed:=by
 intro u
 induction u using Nat.strongRecOn with
 | ind u B =>
  intro p y;by_cases h:∃ w,w<u∧listed.getD w true=false
  ·obtain⟨w,A,l⟩:=h;exact B w A Om l
  ·refine⟨u,mem_ready.2 ⟨y,ops[u],by simp[p],fun e x q=>?_⟩⟩;have E:=(sW d (j:=u) (o:=ops[u]) (by simp[p])).1 e.on (by simp only[sK,a8J,List.mem_filter];exact⟨e,⟨by simpa using x,q⟩,rfl⟩)
   have hlt:e.on<u:=Om;cases c:listed.getD e.on true with
   | false=>exact (h ⟨e.on,hlt,c⟩).elim
   | true =>have:e.on<listed.size:=Om;simp[this] at c ⊢;exact c
def unl (listed:Array Bool):Nat:=listed.toList.countP fun b=>!b
theorem aMS {listed:Array Bool} {m:Nat} (d:listed.size=m) (h:unl listed=0):listed=a9F m true:=by
 apply Array.ext
 ·simp[d]
 ·intro i e l;have:listed[i]∈listed.toList:=by simp
  have c:=List.countP_eq_zero.1 h _ this;simpa using c
theorem aTS {listed:Array Bool} {i:Nat} (h:listed.getD i true=false):unl (listed.setIfInBounds i true)+1=unl listed:=by
 have hi:i<listed.size:=by
  rcases a8D i listed.size with h' | h'
  ·exact h'
  ·simp[Array.getElem?_eq_none h'] at h
 have e:listed[i]=false:=by simpa [hi] using h
 unfold unl;rw[Array.toList_setIfInBounds];have c:i<listed.toList.length:=by simpa using hi
 have d:listed.toList[i]=false:=by simpa using e
 conv=>rhs; rw[← baE i listed.toList,a9H c,d]
 rw[List.set_eq_take_append_cons_drop,if_pos c,List.countP_append,List.countP_append,List.countP_cons,List.countP_cons];simp only[a7L,a7Y,if_true,baR,if_false];omega
theorem aTR {listed:Array Bool} {k:Nat} (h:unl listed=k+1):∃ u,u<listed.size∧listed.getD u true=false:=by
 have d:0<listed.toList.countP fun b=>!b:=by unfold unl at h; omega
 obtain⟨b,e,i⟩:=List.countP_pos_iff.1 d;obtain⟨u,l,rfl⟩:=a8S e;have c:u<listed.size:=by simpa using l
 exact⟨u,c,by simpa [c] using i⟩
theorem Wq (V:C.P=T.P) (U:C.num=T.num) {ops:Array Oper} {ms:List Nat} {m f:Nat} {A:List (aU × Bool)} (hm:m≤ops.size) (hf:m+f=ops.size) (Y:jM ms 0 ops.toList=true) (ht:ov ms m ops.size=true)
  (η:∀ (i:Nat) o,i<m→ops[i]?=some o→∃ p b,A[i]?=some (p,b)∧T.UW n ops o=some p) {KA:PF→PH→Prop} {Q:Exit→Act→World→Prop} :
  ∀ (fuel:Nat) (listed:Array Bool) (E:Env) (F:PF) (H:PH) (a:Act) (w:World),yX C Hs S (ops.extract 0 m) A KA fuel listed F H→listed.size=m→oX ops (listed++a9F f false)→unl listed=fuel→Hs.le H→dL ds n E F a→bM E H w→E.num=T.num →
   mB ds n E H w KA (wpAnyIn (Fz ro) fu T.P .any ops Q f (a9F m true++a9F f false))→wpAnyIn (Fz ro) fu T.P .any ops Q (fuel+f) (listed++a9F f false) a w:=by
 intro fuel
 induction fuel with
 | zero =>intro listed E F H a w h hs hc hu B J hW hN hT;rw[aMS hs hu,a8E];exact hT E F H a w J hW (.refl E H w) h.2
 | succ fuel ih =>
  intro listed E F H a w h hs hc hu B J hW hN hT;obtain⟨u,κ,hu2⟩:=aTR hu;have ι:∃ i,i<m∧listed.getD i true=false:=⟨u,by omega,hu2⟩;rw[show fuel+1+f=(fuel+f)+1 by omega];refine⟨fun e=>?_,fun i hi=>?_⟩
  ·obtain⟨i,hi⟩:=Wx Y (listed:=listed++a9F f false) (by simp; omega) u Om (by rw[uV hs Om]; exact hu2);rw[e] at hi; cases hi
  obtain⟨ε,X⟩:=anC hm Y ht hs hf hc ι hi;obtain⟨-,o,ho,-⟩:=mem_ready.1 hi;have θ:=(mem_ready.1 X).1;obtain⟨p,b,hz,ζ⟩:=η i o ε ho;have Z:=h.2 i X _ hz;obtain⟨α,hd,l,hg⟩:=IP ζ;have β:(listed++a9F f false).setIfInBounds i true=listed.setIfInBounds i true++a9F f false:=by
   apply Array.ext
   ·simp
   ·intro j h1 h2;rw[Array.getElem_setIfInBounds (by simpa using h1)];by_cases N:i=j
    ·subst N;rw[if_pos rfl,Array.getElem_append_left (by simp; omega),Array.getElem_setIfInBounds Om,if_pos rfl]
    ·rw[if_neg N];rcases a8D j listed.size with hj | hj
     ·rw[Array.getElem_append_left hj,Array.getElem_append_left (by simpa using hj),Array.getElem_setIfInBounds Om,if_neg N]
     ·rw[Array.getElem_append_right hj,Array.getElem_append_right (by simpa using hj)];simp
  have W:=hc.set hi;rw[β] at W ⊢;have μ:=aTS θ;have d:mB ds n E H w (fun O H'=>Hs.le H'∧yX C Hs S (ops.extract 0 m) A KA fuel (listed.setIfInBounds i true) O H') (wpAnyIn (Fz ro) fu T.P .any ops Q (fuel+f) (listed.setIfInBounds i true++a9F f false)) :=
   fun E' O H' a' w' γ δ hE R=>ih _ E' O H' a' w' R.2 (by simpa using hs) W Om R.1 γ δ (hE.env.num.trans hN) (hT.after hE)
  have c:=vX (K':=fun O H'=>Hs.le H'∧yX C Hs S (ops.extract 0 m) A KA fuel (listed.setIfInBounds i true) O H') (fun O H' x y=>⟨x,y⟩) B Z;unfold tB aU.kind at c;unfold Go.wpOpIn;simp only[ho];rcases hg with ⟨q,M⟩ | ⟨j,want,t,q,M,ht⟩
  ·rw[if_pos (by simp[Region.wanted,q])];simp only[M] at c;exact (rZ V U α hd l (KX B c) J hW hN d)
  ·simp only[M] at c;split at c
   ·rename_i b hb;rw[ES q ht (OJ J hb)];split at c
    ·rename_i K;rw[if_pos (by simp[K])];exact (rZ V U α hd l (KX B c) J hW hN d)
    ·rename_i K;rw[if_neg (by simpa using K)];obtain⟨v,hv,R⟩:=c;cases hv;exact⟨fun _ _=>trivial,d E _ H _ w (by rw[← hd]; exact J.put l uH) hW (.refl E H w) R⟩
   ·rename_i hb;rw[AD q ht (TB J hb),if_neg (by simp)];obtain⟨v,hv,R⟩:=c;cases hv;exact⟨fun _ _=>trivial,d E _ H _ w (by rw[← hd]; exact J.put l uH) hW (.refl E H w) R⟩
   ·exact c.elim
theorem Vx (x:C.P=T.P) (u:C.num=T.num) {id:Nat} {ops:Array Oper} {pc:aC} (c:T.J5 n ops=some pc) {K:bR} {Q:Exit→Act→World→Prop} {E:Env} {F:PF} {H:PH} {a:Act} {w:World}
  (h:pc.wp C K F H) (hA:dL ds n E F a) (hW:bM E H w) (hN:E.num=T.num) (hT:mB ds n E H w (K .normal) (Q .normal)):(Code.region id ops true).wpIn (Fz ro) fu T.P Q a w:=by
 unfold Tbl.J5 at c;split at c
 ·rename_i q ι;simp only at c;split at c
  ·rw[a7Q] at c;obtain⟨il,η,rfl⟩:=c;exact ajT x u η h hA hW hN hT
  ·rename_i m V;split at c
   ·rename_i d;cases c;simp only[a7X] at d;obtain⟨⟨⟨⟨μ,J⟩,α⟩,ν⟩,ξ⟩:=d;obtain⟨Y,U⟩:=QE ι;have y:q.length=ops.size:=by simpa using Y
    rw[y] at α;obtain⟨Hs,S,X,h⟩:=h;have ρ:m<ops.size:=by have:=List.mem_of_find?_eq_some V;rw[a8K] at this; omega
    have lA:(lE (wX ops.toList []) 0 (q.take m)).length=m:=by simp[lE]; omega
    have lB:(lE (wX ops.toList []) m (q.drop m)).length=ops.size-m:=by simp[lE]; omega
    generalize O:lE (wX ops.toList []) 0 (q.take m)=A at *
    generalize δ:lE (wX ops.toList []) m (q.drop m)=B at *
    generalize υ:wX ops.toList []=ms at *
    refine wpIn_region_any μ ?_;have M:(ops.extract 0 m).size=m:=by simp; omega
    have Z:jM ms 0 (ops.extract 0 m).toList=true:=by rw[show (ops.extract 0 m).toList=ops.toList.take m by simp];exact QL J
    have h1:=GO (C:=C) (Hs:=Hs) (S:=S) (K:=gE C ((aC.draw B).wp C) K .normal) (ops:=ops.extract 0 m) (il:=A) (ms:=ms) (by rw[lA,M]) Z A 0 (a9F m false) F H (by simp) (by rw[M]; omega) (by simp; omega) (fun j hj=>by rw[M] at hj; simp[hj]) ν X h;rw[lA] at h1;have N:=Wq (ro:=ro) (fu:=fu) (n:=n) x u (f:=ops.size-m) Om Om J α (fun i o σ ho=>?_) (Q:=Q) m (a9F m false) E F H a _ h1 (by simp) ?_ ?_ X hA hW.drew hN ?_
    ·rw[show m+(ops.size-m)=ops.size by omega] at N;have e:a9F m false++a9F (ops.size-m) false=a9F ops.size false:=by rw[Array.replicate_append_replicate,show m+(ops.size-m)=ops.size by omega]
     rw[e] at N;exact N
    ·obtain⟨p,hp,θ⟩:=U i o (by simpa using ho);have φ:=(a8P.1 hp).1;have ζ:i<A.length:=Om;refine⟨p,A[i].2,?_,θ⟩;rw[a7U ζ];congr 1;refine Prod.ext ?_ rfl;subst O;have ο:q[i]=p:=(a8P.1 hp).2;simp[lE,ο]
    ·intro j o hj hl;exfalso;have κ:j<ops.size:=(baQ.1 hj).1;have e:a9F m false++a9F (ops.size-m) false=a9F ops.size false:=by rw[Array.replicate_append_replicate,show m+(ops.size-m)=ops.size by omega]
     rw[e] at hl;simp[κ] at hl
    ·unfold unl;simp[List.countP_replicate]
    ·intro E' F' H' a' w' γ ε hE hK;obtain⟨β,S2,l,h2⟩:=hK;have hz:(A++B).length=ops.size:=by rw[a7O]; omega
     have h3:=GO (C:=C) (Hs:=β) (S:=S2) (K:=K .normal) (ops:=ops) (il:=A++B) (ms:=ms) hz J B m (a9F m true++a9F (ops.size-m) false) F' H' (fun j=>by rw[a9Y Om]; congr 1; omega) Om (by simp; omega) (fun j hj=>by
      simp only[baZ,Array.getElem?_append,Array.size_replicate,Array.getElem?_replicate];by_cases hjm:j<m
      ·simp[hjm]
      ·simp[hjm,show j-m<ops.size-m by omega]) ξ l h2
     rw[lB] at h3;have R:A++B=q.zip ((A++B).map (·.2)):=by
      refine List.ext_getElem? fun j=>?_;rcases a8D j ops.size with hj | hj
      ·have W:j<(A++B).length:=Om;have τ:j<q.length:=Om;rw[a7U W,a7U (by simp; omega),List.getElem_zip,a9B];congr 1;refine Prod.ext ?_ rfl;simp only;rcases a8D j m with hjm | hjm
       ·rw[List.getElem_append_left Om];subst O;simp[lE]
       ·rw[bbD Om];subst δ;have:m+(j-A.length)=j:=Om;simp[lE,this]
      ·rw[a8X Om,a8X (by simp; omega)]
     rw[R] at h3;exact xl x u (by simp; omega) (fun i o ho=>U i o (by simpa using ho)) (ops.size-m) _ E' F' H' a' w' h3 l γ ε (hE.env.num.trans hN) (fun E3 F3 H3 a3 w3 g1 g2 g3 g4=>hT E3 F3 H3 a3 w3 g1 g2 (hE.trans g3).wb g4)
   ·cases c
 ·cases c
end
end Go.PM
namespace Go.PM
open Go Go.RowKit
def kM.out:kM→Exit
 | .normal=>.normal
 | .exit id=>.exit id
 | .ret=>.ret
theorem oL {P:Program} {b:Frame} {a:Act} {k:List Item} {cs:List Frame} {w:World} {c:Code}:step P (lone (b.atR a (.code (.scope c)::k)) cs w)=.next (lone (b.atR a (.code c::.inScope c::k)) cs w) :=
 step_lone_go (by simp[stepG,stepG.exec,Frame.atR])
theorem Gr {P:Program} {b:Frame} {a:Act} {k:List Item} {cs:List Frame} {w:World} {c:Code}:step P (lone (b.atR a (.inScope c::k)) cs w)=.next (lone (b.atR a k) cs w) :=
 step_lone_go (by simp[stepG,stepG.exec,Frame.atR])
theorem aqN {F:Fence} {n:Nat} {P:Program} {Q:Exit→Act→World→Prop} {a:Act} {w:World} {c:Code} (h:c.wpIn F n P (Exit.noGoto Q) a w):(Code.scope c).wpIn F n P Q a w:=by
 intro b k cs J x A;have i:(lone (b.atR a (.code (.scope c)::k)) cs w).fenced P F:=fenced_calm x A rfl;obtain⟨e,q,u,p,d⟩:=h b (.inScope c::k) cs J x A;cases e with
 | normal=>exact⟨.normal,q,u,p,.head i oL (StepsIn.trans d (.one (fenced_calm x A rfl) Gr))⟩
 | exit id =>
  have K:exitTo id (.inScope c::k)=exitTo id k:=by simp[exitTo]
  exact⟨.exit id,q,u,p,fun O y=>.head i oL (d.1 O (by rw[K]; exact y)),
   fun B y=>let ⟨R,M,N⟩:=d.2 B (by rw[K]; exact y); ⟨R,M,.head i oL N⟩⟩
 | goto l=>exact p.elim
 | ret=>exact⟨_,q,u,p,.of_steps (.one i oL) d⟩
 | panic S=>exact⟨_,q,u,p,.of_steps (.one i oL) d⟩
 | outgrown=>exact⟨_,q,u,p,.of_steps (.one i oL) d⟩
section
variable {ro:Option Nat} {fu:Nat} {ds:List Deferred} {T:Tbl} {n:Nat} {E:Env} {F:PF} {H:PH} {a:Act} {w:World}
theorem Cc {C:Ctx} (y:C.P=T.P) (x:C.num=T.num) {ops:Array Oper} {K:PF→PH→Prop} {Q:Exit→Act→World→Prop}:∀ (l:List Oper) (il:List aU) (E:Env) (F:PF) (H:PH) (a:Act) (w:World),
  T.qX n ops l=some il→wpOps C il K F H→dL ds n E F a→bM E H w→E.num=T.num→mB ds n E H w K (Q .normal)→wpListIn (Fz ro) fu T.P ops Q l a w
 | [],il,E,F,H,a,w,q,c,p,hW,_,Z=>by simp[Tbl.qX] at q;subst q;exact Z E F H a w p hW (.refl E H w) c
 | o::l,il,E,F,H,a,w,q,c,p,hW,R,Z=>by
  simp only[Tbl.qX] at q;split at q
  ·rename_i i is hi α;cases q;obtain⟨U,W,hlt,hg⟩:=IP hi;have a6R:∀ (e:Env) (N:PF) (H':PH) (O:Act) (M:World),e.num=T.num→dL ds n e N O→bM e H' M→Ext E H w e H' M→wpOps C is K N H'→wpListIn (Fz ro) fu T.P ops Q l O M :=
    fun e N H' O M Y u A V X=>Cc y x l is e N H' O M α X u A Y (Z.after V)
   have S:mB ds n E H w (wpOps C is K) (wpListIn (Fz ro) fu T.P ops Q l):=fun e N H' O M u A V X=>a6R e N H' O M (V.env.num.trans R) u A V X;unfold wpListIn;simp only[wpOps] at c;rcases hg with ⟨d,J⟩ | ⟨j,want,t,d,J,ht⟩
   ·rw[J] at c;rw[if_pos (by simp[Region.wanted,d])];exact (rZ y x U W hlt c p hW R S)
   ·rw[J] at c;simp only at c;split at c
    ·rename_i b hb;rw[ES d ht (OJ p hb)];split at c
     ·rename_i B;rw[if_pos (by simp[B])];exact (rZ y x U W hlt c p hW R S)
     ·rename_i B;rw[if_neg (by simpa using B)];exact⟨fun _ _=>trivial,a6R E _ H _ w R (by rw[← W]; exact p.put hlt uH) hW (.refl E H w) c⟩
    ·rename_i hb;rw[AD d ht (TB p hb),if_neg (by simp)];exact⟨fun _ _=>trivial,a6R E _ H _ w R (by rw[← W]; exact p.put hlt uH) hW (.refl E H w) c⟩
    ·exact c.elim
  ·cases q
def OD (ds:List Deferred) (n:Nat) (E:Env) (H:PH) (w:World) (K:bR) (Q:Exit→Act→World→Prop):Prop :=
 ∀ e c i H' l d,dL ds n c i l→bM c H' d→Ext E H w c H' d→K e i H'→Q e.out l d
theorem OD.after {c:Env} {H':PH} {d:World} {K:bR} {Q:Exit→Act→World→Prop} (h:OD ds n E H w K Q) (q:Ext E H w c H' d):OD ds n c H' d K Q :=
 fun e i l H2 a2 y p hW x u=>h e i l H2 a2 y p hW (q.trans x) u
theorem pW {C:Ctx} (γ:C.P=T.P) (β:C.num=T.num):∀ (c:Code) (pc:aC) (K:bR) (Q:Exit→Act→World→Prop) (E:Env) (F:PF) (H:PH) (a:Act) (w:World),
  T.code n c=some pc→pc.wp C K F H→dL ds n E F a→bM E H w→E.num=T.num→OD ds n E H w K Q→c.wpIn (Fz ro) fu T.P Q a w:=by
 intro c
 induction c with
 | skip =>intro pc K Q E F H a w i p q hW J l;simp[Tbl.code] at i; subst i;exact wpIn_skip (l .normal E F H a w q hW (.refl E H w) p)
 | region id ops d =>
  intro pc K Q E F H a w i p q hW J l;simp only[Tbl.code] at i;split at i
  ·rename_i hd;subst hd;exact Vx γ β i p q hW J fun u S H' N M O R B A=>l .normal u S H' N M O R B A
  ·rename_i hd;simp only[a7Q] at i;obtain⟨il,χ,rfl⟩:=i;have:d=false:=by simpa using hd
   subst this;exact wpIn_region_list (Cc γ β ops.toList il E F H a w χ p q hW J fun u S H' N M O R B A=>l .normal u S H' N M O R B A)
 | seq x y X Y =>
  intro pc K Q E F H a w i p q hW J l;simp only[Tbl.code] at i;split at i
  ·rename_i Z py W hy;cases i;refine wpIn_seq (X Z (gE C (py.wp C) K) _ E F H a w W p q hW J fun e u S H' N M O R B A=>?_);cases e with
   | normal=>exact Y py K Q u S H' N M hy A O R (B.env.num.trans J) (l.after B)
   | exit id=>exact l (.exit id) u S H' N M O R B A
   | ret=>exact l .ret u S H' N M O R B A
  ·cases i
 | cond c x y X Y =>
  intro pc K Q E F H a w i p q hW J l;simp only[Tbl.code] at i;split at i
  ·rename_i Δ Z py ζ W hy;cases i;simp only[aC.wp] at p;split at p
   ·rename_i t υ;have r:=bC ζ υ q J;have hb:a.eval c=.bool t:=by generalize a.eval c=v at r;cases r;rfl
    refine wpIn_cond hb ?_;cases t with
    | true=>exact X Z K Q E F H a w W (by simpa using p) q hW J l
    | false=>exact Y py K Q E F H a w hy (by simpa using p) q hW J l
   ·exact p.elim
  ·cases i
 | block id c ih =>
  intro pc K Q E F H a w i p q hW J l;simp only[Tbl.code,a7Q] at i;obtain⟨Z,W,rfl⟩:=i;refine wpIn_block (ih Z (eX id K) _ E F H a w W p q hW J fun e u S H' N M O R B A=>?_);cases e with
  | normal=>exact l .normal u S H' N M O R B A
  | exit Γ =>
   simp only[eX] at A;simp only[kM.out,Exit.inBlock];split at A
   ·rename_i e;rw[if_pos e];exact l .normal u S H' N M O R B A
   ·rename_i e;rw[if_neg e];exact l (.exit Γ) u S H' N M O R B A
  | ret=>exact l .ret u S H' N M O R B A
 | loop c ih =>
  intro pc K Q E F H a w i p q hW J l;simp only[Tbl.code,a7Q] at i;obtain⟨Z,W,rfl⟩:=i;obtain⟨α,Fs,Hs,Pr,m,a0,F1,H1,φ,ω,ο,ε,V⟩:=p;obtain⟨E1,ι,σ,μ⟩:=q.frz hW φ;refine wpIn_loop_ghost (fun k N M=>∃ (u:Env) (s:α),Pr s∧m s=k∧dL ds n u (Fs s) N∧bM u (Hs s) M∧Ext E H w u (Hs s) M) (m a0) ⟨E1,a0,ω,rfl,ι.weaken ο,σ.weaken ε,μ.drop ε⟩ ?_;rintro k N M ⟨u,s,hp,rfl,θ,ρ,U⟩;refine ih Z (fJ Fs Hs Pr m (m s) K) _ u (Fs s) (Hs s) N M W (V s hp) θ ρ (U.env.num.trans J) fun e E2 F2 H2 a2 w2 O R B A=>?_;cases e with
  | normal =>obtain⟨s',F3,H3,η,ψ,hlt,ξ,δ⟩:=A;obtain⟨E3,κ,τ,ν⟩:=O.frz R η;exact⟨m s',hlt,E3,s',ψ,rfl,κ.weaken ξ,τ.weaken δ,((U.trans B).trans ν).drop δ⟩
  | exit id=>exact l (.exit id) E2 F2 H2 a2 w2 O R (U.trans B) A
  | ret=>exact l .ret E2 F2 H2 a2 w2 O R (U.trans B) A
 | exit id =>intro pc K Q E F H a w i p q hW J l;simp[Tbl.code] at i; subst i;exact wpIn_exit (l (.exit id) E F H a w q hW (.refl E H w) p)
 | ret =>intro pc K Q E F H a w i p q hW J l;simp[Tbl.code] at i; subst i;exact wpIn_ret (l .ret E F H a w q hW (.refl E H w) p)
 | rangeFunc=>intro pc K Q E F H a w i; simp[Tbl.code] at i
 | scope c ih =>intro pc K Q E F H a w i p q hW J l;simp only[Tbl.code] at i;refine aqN (ih pc K _ E F H a w i p q hW J fun e u S H' N M O R B A=>?_);have:=l e u S H' N M O R B A;cases e<;>exact this
 | label =>intro pc K Q E F H a w i p q hW J l;simp[Tbl.code] at i; subst i;exact wpIn_label (l .normal E F H a w q hW (.refl E H w) p)
 | goto=>intro pc K Q E F H a w i; simp[Tbl.code] at i
 | refuse=>intro pc K Q E F H a w i; simp[Tbl.code] at i
end
open Go Go.RowKit
namespace Tbl
variable (T:Tbl)
def res:ResultVar→Option dV
 | .tmp t=>some (.tmp t)
 | .cell t ty=>match T.isAgg ty,T.size ty with
  | some true,some k=>some (.cell t (some k))
  | some false,_=>some (.cell t none)
  | _,_=>none
def wn:List ResultVar→Option (List dV)
 | []=>some []
 | r::rs=>match T.res r,wn rs with
  | some p,some ps=>some (p::ps)
  | _,_=>none
def func (fn:Func):Option aS :=
 match fn.body with
 | some c=>match T.code fn.ntmps c,T.wn fn.results.toList with
  | some b,some rs=>some ⟨fn.params.size,fn.ntmps,b,rs⟩
  | _,_=>none
 | none=>none
end Tbl
section
variable {ds:List Deferred} {T:Tbl} {n:Nat} {E:Env} {F:PF} {H:PH} {a:Act} {w:World}
def SF (c:Array Value):ResultVar→Sem Value
 | .tmp t=>pure (c.getD t undef)
 | .cell a t=>do loadVar t (← asAddr (c.getD a undef))
theorem avK {r:ResultVar} {p:dV} {pv:PV} (e:T.res r=some p) (c:p.ev F H=some pv) (l:dL ds n E F a) (hW:bM E H w):∃ v,(SF a.tmps r).run T.P w=.ok v w∧aZ E pv v:=by
 cases r with
 | tmp t =>simp[Tbl.res] at e;subst e;exact⟨_,rfl,l.t t pv c⟩
 | cell t ty =>
  simp only[Tbl.res] at e;split at e
  ·rename_i k B K;cases e;simp only[dV.ev] at c;split at c
   ·rename_i q y;rw[a7Q] at c;obtain⟨cs,d,rfl⟩:=c;obtain⟨b,J,x,-⟩:=oT hW (l.t t q y) d;obtain⟨u,i,A⟩:=WI (T:=T) B K hW (l.t t q y) d;refine⟨u,?_,A⟩;rw[x] at i;simpa [SF,x,asAddr,Instr.loadAt,Instr.sureAddr] using i
   ·cases c
  ·rename_i B;cases e;simp only[dV.ev] at c;split at c
   ·rename_i q y;split at c
    ·rename_i v' d;cases c;obtain⟨b,J,x,-⟩:=oT hW (l.t t q y) d;obtain⟨u,i,A⟩:=j8 (T:=T) B hW (l.t t q y) d;refine⟨u,?_,A⟩;rw[x] at i;simpa [SF,x,asAddr,Instr.loadAt,Instr.sureAddr] using i
    ·cases c
   ·cases c
  ·cases e
theorem KQ (x:dL ds n E F a) (hW:bM E H w):∀ (rs:List ResultVar) (ps:List dV) (c:List PV),T.wn rs=some ps→dV.evs F H ps=some c →
  ∃ vs,(rs.mapM (SF a.tmps)).run T.P w=.ok vs w∧eJ E c vs
 | [],ps,c,d,e=>by simp[Tbl.wn] at d; subst d;simp[dV.evs] at e; subst e;exact⟨[],by simp,.nil⟩
 | r::rs,ps,c,d,e=>by
  simp only[Tbl.wn] at d;split at d
  ·rename_i p q y i;cases d;simp only[dV.evs] at e;split at e
   ·rename_i v vs A l;cases e;obtain⟨u,g1,g2⟩:=avK y A x hW;obtain⟨B,k1,k2⟩:=KQ x hW rs q vs i l;exact⟨u::B,by simp[List.mapM_cons,g1,k1],.cons g2 k2⟩
   ·cases e
  ·cases d
theorem mh {d:List PV} {vs:List Value} (h:eJ E d vs):aZ E (bO d) (if h:vs.toArray.size=1 then vs.toArray[0] else .tuple vs.toArray):=by
 cases h with
 | nil=>exact .tup #[] rfl (by simp)
 | cons h t =>
  cases t with
  | nil=>exact h
  | cons e x =>rename_i p v q u ps y;have c:eJ E (p::q::ps) (v::u::y):=.cons h (.cons e x);rw[dif_neg (by simp)];exact .tup _ (by simpa using c.len) (fun j pv w i l=>c.at_ j pv w i (by simpa using l))
theorem na (fn:Func) (c:Array Value):results fn c=(do
  let vs ← fn.results.mapM (SF c)
  pure (if h:vs.size=1 then vs[0] else .tuple vs)):=by
 unfold results;congr 1
theorem asB {C:Ctx} (y:C.P=T.P) (x:C.num=T.num) {name:Nat} {args:List PV} {R:PV→PH→Prop} {fn:Func} {S:aS} (hf:C.P.funcs[C.num name]?=some fn) (X:(fn.name=="runtime.NumGoroutine")=false)
  (d:T.func fn=some S) (J:args.length≤S.ntmps) (h:S.body.wp C (aV S.res R) (PF.args args) H):aH C name args H R:=by
 unfold Tbl.func at d;split at d
 ·rename_i c hb;split at d
  ·rename_i b rs l q;cases d;refine⟨⟨fn,hf,by simp[hb],X⟩,fun E w vs hN hW N=>?_⟩;have α:vs.size=args.length:=by simpa using N.len
   refine calls_of_wp hf hb ?_;rw[y];refine (wpIn_wide (n:=0)).1 ?_;have hA:dL [] fn.ntmps E (PF.args args) { tmps:=vs++a9F (fn.ntmps-vs.size) undef,defers:=[] }:=by
    refine⟨by simp only at J; simp; omega,rfl,fun i pv hi=>?_⟩;have p:i<vs.size:=by
     rw[α];rcases a8D i args.length with h' | h'
     ·exact h'
     ·simp[PF.args,a8X h'] at hi
    simp only[baZ];rw[Array.getElem?_append_left p,baT p];exact N.at_ i pv _ hi (by simp[p])
   refine pW (ro:=none) (fu:=0) y x c b (aV rs R) _ E (PF.args args) H _ w l h hA hW (hN.trans x) fun e Q F' H' a' U u A hE V=>?_;have O:aV rs R .ret F' H'→bodyPost T.P fn (fun e U=>∃ v pv Q H',e=.returned v∧bM Q H' U∧aZ Q pv v∧Ext E H w Q H' U∧R pv H') .ret a' U:=by
    rintro⟨β,K,F1,H1,H2,W,B,v0,Z,hR⟩;obtain⟨us,g1,g2⟩:=KQ u A fn.results.toList rs β q K;have Y:=mh g2;obtain⟨E2,k1,k2,k3⟩:=W.sound A;have M:=k3 (fun _=>if h:us.toArray.size=1 then us.toArray[0] else .tuple us.toArray) (fun i pv hi=>by
     simp only[PF.set,upd] at hi;split at hi
     ·cases hi; exact Y
     ·cases hi) 0 v0 Z
    refine⟨u.defers,_,?_,_,v0,E2,H2,rfl,k1.weaken B,M,(hE.trans k2).drop B,hR⟩;rw[na,Array.mapM_eq_mapM_toList];simp[g1]
   cases e with
   | normal=>exact O V
   | exit id=>exact V.elim
   | ret=>exact O V
  ·cases d
 ·cases d
end
end Go.PM
namespace Go.PM
open Go
inductive Co:PV→PV→Prop
 | refl (v:PV):Co v v
 | junk (v:PV):Co v .junk
 | nil (s:Nat):Co .aB (.sl s [])
 | osl0 (o s off s':Nat):Co (.osl o s off 0) (.sl s' [])
 | agg {cs ds:List PV} (hl:ds.length=cs.length) (h:∀ (j:Nat) p q,cs[j]?=some p→ds[j]?=some q→Co p q):Co (.agg cs) (.agg ds)
 | tup {cs ds:List PV} (hl:ds.length=cs.length) (h:∀ (j:Nat) p q,cs[j]?=some p→ds[j]?=some q→Co p q):Co (.tup cs) (.tup ds)
 | bH {cs ds:List PV} (hl:ds.length=cs.length) (h:∀ (j:Nat) p q,cs[j]?=some p→ds[j]?=some q→Co p q):Co (.bH cs) (.bH ds)
 | sl {s:Nat} {rs ts:List (List PV)} (hl:ts.length=rs.length) (hr:∀ (i:Nat) r t,rs[i]?=some r→ts[i]?=some t→t.length=r.length)
   (h:∀ (i j:Nat) p q,at2 rs i j=some p→at2 ts i j=some q→Co p q):Co (.sl s rs) (.sl s ts)
structure CoL (ps qs:List PV):Prop where
 len:qs.length=ps.length
 at_:∀ (j:Nat) p q,ps[j]?=some p→qs[j]?=some q→Co p q
theorem CoL.refl (ps:List PV):CoL ps ps:=⟨rfl,fun j p q h k=>by rw[h] at k; cases k; exact .refl p⟩
theorem Co.sound {E:Env} {p q:PV} (h:Co p q):∀ {v:Value},aZ E p v→aZ E q v:=by
 induction h with
 | refl=>intro v r; exact r
 | junk=>intro v _; exact .junk v
 | nil s =>intro v r;cases r;exact .sl (fun _ _=>.bool false) (by simp) (by decide) (by simp) (by simp) (fun _ _=>rfl) (by simp[at2])
 | osl0 o s Z s' =>
  intro v r;cases r with
  | osl hb J V U x hn Q=>exact .sl (fun _ _=>.bool false) (by simp) x (by simp) (by simp) (fun _ _=>rfl) (by simp[at2])
 | agg w h B =>
  intro v r;cases r with
  | agg vs A F y =>
  refine .agg vs (A.trans w.symm) F fun j q u c R=>?_;have l:=(a8P.1 c).1;have d:=a7U (show j<_ by rw[w] at l; exact l);exact B j _ q d c (y j _ u d R)
 | tup w h B =>
  intro v r;cases r with
  | tup vs A y =>
  refine .tup vs (A.trans w.symm) fun j q u c R=>?_;have l:=(a8P.1 c).1;have d:=a7U (show j<_ by rw[w] at l; exact l);exact B j _ q d c (y j _ u d R)
 | bH w h B =>
  intro v r;cases r with
  | bH u J N F y =>
  refine .bH u J (fun j q c=>?_) F fun j q c=>?_
  ·have l:=(a8P.1 c).1;exact N j _ (a7U (show j<_ by rw[w] at l; exact l))
  ·have l:=(a8P.1 c).1;have d:=a7U (show j<_ by rw[w] at l; exact l);exact B j _ q d c (y j _ d)
 | @sl s rs ts w H h B =>
  intro v r;have K:∀ (i j:Nat) q,at2 ts i j=some q→∃ p,at2 rs i j=some p:=by intro i j q c;unfold at2 at c ⊢;rw[baX] at c;obtain⟨t,M,c⟩:=c;have hi:=(a8P.1 M).1;have y:=a7U (Om:i<rs.length);have:=H i _ t y M;have l:=(a8P.1 c).1;rw[y];exact⟨(rs[i])[j]'Om,by simp⟩
  cases r with
  | sl u S x Y X F y =>
  rw[← w];refine .sl u Om x (fun t M=>?_) (fun O=>?_) F fun i j q c=>?_
  ·obtain⟨i,hi,rfl⟩:=a8S M;have:=H i rs[i] ts[i] (by simp) (by simp);rw[this];exact Y _ (by simp)
  ·obtain⟨W,e,sp,N⟩:=X (by rintro rfl; exact O (List.eq_nil_of_length_eq_zero (by simpa using w)));refine⟨W,e,sp,fun i j q c=>?_⟩;obtain⟨p,d⟩:=K i j q c;exact N i j p d
  ·obtain⟨p,d⟩:=K i j q c;exact B i j p q d c (y i j p d)
theorem CoL.sound {E:Env}:∀ {ps c:List PV} {vs:List Value},CoL ps c→eJ E ps vs→eJ E c vs
 | [],c,vs,h,r=>by cases r;have:c=[]:=List.eq_nil_of_length_eq_zero h.len;subst this;exact .nil
 | p::ps,c,vs,h,r=>by
  cases r with
  | cons r1 r2 =>
  cases c with
  | nil=>have:=h.len; simp at this
  | cons q c =>refine .cons ((h.at_ 0 p q rfl rfl).sound r1) (CoL.sound ⟨by simpa using h.len,fun j x y a b=>h.at_ (j+1) x y (by simpa using a) (by simpa using b)⟩ r2)
theorem aH.args {C:Ctx} {name:Nat} {args c:List PV} {H:PH} {R:PV→PH→Prop} (h:aH C name c H R) (i:CoL args c):aH C name args H R :=
 ⟨h.1,fun E w vs e hW d=>h.2 E w vs e hW (i.sound d)⟩
theorem aH.post {C:Ctx} {name:Nat} {args:List PV} {H:PH} {R q:PV→PH→Prop} (h:aH C name args H R) (B:∀ r H',R r H'→∃ u,Co r u∧q u H'):aH C name args H q :=
 ⟨h.1,fun E w vs A hW l=>(h.2 E w vs A hW l).mono fun e M F=>by obtain⟨v,pv,x,H',rfl,c,K,y,J⟩:=F;obtain⟨p,d,i⟩:=B pv H' J;exact⟨v,p,x,H',rfl,c,d.sound K,y,i⟩⟩
end Go.PM
