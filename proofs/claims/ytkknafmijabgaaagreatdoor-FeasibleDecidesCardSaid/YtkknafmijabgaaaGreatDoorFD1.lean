/-
  Texts of ours, joined. No condition.
-/
import Derived.WalkKit
import Derived.CallsIn
import Derived.Laws.Cover3
import Derived.Deep.MidRow
import Derived.Great.BuildSlice
import Derived.Lib.Strings
import Derived.Laws.BytesArg
import GoSem.Instr.MapUpdate
import Derived.Laws.MakeOwn
import Derived.Laws.CopyRow
import Derived.MapKept
import Derived.Orders
import Derived.OrdersIn
import Derived.Sort.LoopGhostIn
import Derived.TacticsIn
import Derived.Scope
set_option linter.unusedSimpArgs false
set_option linter.unusedVariables false
open Nat renaming reduceEqDiff→γ,reduceAdd→δ,reduceSub→ε,reduceMul→ζ,reduceLT→η,reduceLeDiff→θ,reduceBEq→τ
open Int renaming reduceLT→ι,reduceLE→κ,reduceEq→μ,reduceToNat→ν,reduceAdd→ξ,reduceNeg→ο,reduceBEq→ρ,reduceBNe→σ
open List renaming reduceReplicate→υ
open List renaming length_map→bfY,range→bfZ,replicate→bgA,length_append→bgB,getElem_mem→bgD,getD_eq_getElem?_getD→bgF,getElem?_eq_getElem→bgH,mem_cons→bgN,length_take→bgP,getElem?_map→bgT,mem_range→bgW,append_assoc→bgX,all_eq_true→bgY,mem_map→bhC,getElem?_eq_some_iff→bhG,append_nil→bhH,mem_singleton→bhI,map_cons→bhJ,mem_append→bhK,map_append→bhM,getElem?_eq_none→bhQ,length_drop→bhR,length_cons→bhT,length_set→bhU,getElem_of_mem→bhV,mem_of_getElem?→bhX,getElem_map→bhY,getElem?_append_left→biA,getElem?_append_right→biB,getElem?_range→biH,drop_eq_getElem_cons→biL,length_nil→biM,map_nil→biS,getElem?_take→biY,take_append_drop→biZ,nodup_append→bjA,nil_append→bjH,getElem?_drop→bjO,length_replicate→bjP,cons_append→bjR,mem_filter→bjS,getElem?_set→bjT,set_append_right→bjU,getElem?_replicate→bkC
open Nat renaming le_refl→bgG,zero_add→bgL,lt_or_ge→bgV,mul_comm→bhE,mul_le_mul_right→bhF,add_zero→bhL,add_mul→bhN,mod_lt→bhZ,eq_zero_or_pos→biC,le_trans→biJ,succ_mul→biN,add_assoc→biV,mul_le_mul_left→biW,mul_one→bjB,div_lt_iff_lt_mul→bjK,div_add_mod→bjV
open Bool renaming not_true→bgJ,true_and→bgO,not_false→bgS,and_eq_true→bgU,false_eq_true→bjE
open Option renaming map_eq_some_iff→bgM,map_some→bhD,getD_some→biE,some→biQ,bind_eq_some_iff→bjW,bind_some→bjX
open Array renaming replicate→biF,length_toList→bjD,getElem?_eq_getElem→bjY,getElem?_eq_some_iff→bkE
open Int renaming toNat_natCast→biR
open List renaming length→Z'
set_option maxRecDepth 100000
set_option maxHeartbeats 800000
noncomputable section
attribute [go_sem] Nat.reduceEqDiff Nat.reduceAdd Nat.reduceSub Nat.reduceMul Nat.reduceLT Nat.reduceLeDiff Int.reduceLT Int.reduceLE Int.reduceEq Int.reduceToNat Int.reduceAdd Int.reduceNeg Int.reduceBEq Int.reduceBNe Nat.reduceBEq List.reduceReplicate reduceIte reduceCtorEq
theorem Om{p:Prop}(h:p:=by omega):p:=h
theorem aV{p:Prop}(h:p:=by decide):p:=h
theorem aY{p:Prop}(h:p:=by simp):p:=h
abbrev aE:=@if_neg
abbrev aL:=@if_pos
abbrev bX:=@decide_eq_true
abbrev bV:=@decide_eq_false
namespace Go.PM
open Go
inductive PV where
 |int (k:IntKind) (n:Int)
 |bool (b:Bool)
 |str (s:List UInt8)
 |aH
 |sl (size:Nat) (rows:List (List PV))
 |osl (o size off len:Nat)
 |ptr (o size i c:Nat)
 |bE (cells:List PV)
 |map (o:Nat)
 |fn (name:Nat) (captured:List PV)
 |agg (cells:List PV)
 |tup (vs:List PV)
 |lit (v:Value)
 |junk
 deriving Inhabited
inductive KSh where
 |int (k:IntKind)
 |bool
 |str
 deriving DecidableEq,Inhabited
inductive KS where
 |int (k:IntKind) (n:Int)
 |bool (b:Bool)
 |str (s:List UInt8)
 deriving DecidableEq,Inhabited
def KS.sh:KS→KSh
 | .int k _=>.int k
 | .bool _=>.bool
 | .str _=>.str
def KS.val:KS→Value
 | .int k n=>.int k n
 | .bool b=>.bool b
 | .str s=>.string ⟨s.toArray⟩
abbrev MSh:=Bool × List KSh
def lP(sh:MSh)(k:List KS):Value:=if sh.1 then .agg (k.map KS.val).toArray else(k.map KS.val).headD undef
abbrev oU:=List KS→Option PV
def oU.upd(g:oU)(k:List KS)(v:PV):oU:=λj=>if j=k then some v else g j
def uK(k:List KS):List (List KS × PV)→Nat→Option (Nat × PV)
 |[],_=>none
 |e::j,i=>if e.1=k then some (i,e.2)else uK k j (i+1)
def mapOf(L:List (List KS × PV)):oU:=λk=>(uK k L 0).map (·.2)
open Classical in
noncomputable def oU.aGD(g:oU):Nat:=if h:∃e:List (List KS),e.Nodup∧∀k,k∈e↔(g k).isSome=true then h.choose.length else 0
theorem oU.a0A{g:oU}{e:List (List KS)}(j:e.Nodup)(l:∀k,k∈e↔(g k).isSome=true):g.aGD=Z' e:=by
 have h:∃e:List (List KS),e.Nodup∧∀k,k∈e↔(g k).isSome=true:=⟨e,j,l⟩;unfold oU.aGD;rw[dif_pos h];exact((List.perm_ext_iff_of_nodup h.choose_spec.1 j).2 λk=>(h.choose_spec.2 k).trans (l k).symm).length_eq
theorem SH(k:List KS):∀(L:List (List KS × PV)) (i:Nat),(uK k L i).isSome=true↔k∈L.map (·.1)
 |[],i=>by simp[uK]
 |e::l,i=>by
  unfold uK;by_cases h:e.1=k
  ·simp[h]
  ·rw[aE h,SH k l,bhJ,bgN];exact⟨.inr,λu=>u.resolve_left λj=>h j.symm⟩
theorem aHY{L:List (List KS × PV)}(h:(L.map (·.1)).Nodup):(mapOf L).aGD=Z' L:=by
 rw[oU.a0A h λk=>?_,bfY];rw[←SH k L 0];unfold mapOf;simp
inductive cI where
 |rows (size:Nat) (rs:List (List PV))
 |map (sh:MSh) (g:oU)
 |loop (F:Nat→Option PV) (n t:Nat) (asg bdy:Code)
 |dead
def upd{α:Type}(f:Nat→Option α)(i:Nat)(v:Option α):Nat→Option α:=λj=>if j=i then v else f j
theorem gw{α:Type}(f:Nat→Option α){i j:Nat}(v:Option α)(h:j≠i):upd f i v j=f j:=by simp[upd,h]
theorem aYC{α:Type}(f:Nat→Option α){i j:Nat}(v u:Option α)(h:i≠j):upd (upd f i v) j u=upd (upd f j u) i v:=by
 funext k;simp only[upd];by_cases e:k=j
 ·by_cases l:k=i
  ·omega
  ·simp[e];intro w;omega
 ·simp[e]
abbrev PF:=Nat→Option PV
def PF.nil:PF:=λ_=>none
def PF.set(F:PF)(i:Nat)(v:PV):PF:=upd F i (some v)
def PF.le(F G:PF):Prop:=∀i v,F i=some v→G i=some v
structure PH where
 f:Nat→Option cI
 fin:∃n,∀o,n≤o→f o=none
instance:CoeFun PH (λ_=>Nat→Option cI):=⟨PH.f⟩
theorem PH.ext{H K:PH}(h:∀o,H.f o=K.f o):H=K:=by
 cases H;cases K;have:‹Nat→Option cI›=‹Nat→Option cI›:=rfl;congr;exact funext h
def PH.nil:PH:=⟨λ_=>none,0,λ_ _=>rfl⟩
def PH.upd(H:PH)(o:Nat)(x:Option cI):PH:=
 ⟨PM.upd H.f o x,by
  obtain⟨n,e⟩:=H.fin;refine⟨max n (o+1),λq hq=>?_⟩;rw[gw _ _ Om];exact e q Om⟩
def PH.set(H:PH)(o:Nat)(x:cI):PH:=H.upd o (some x)
def PH.le(H K:PH):Prop:=∀o x,H o=some x→K o=some x
def PH.over(H H0 e:PH):PH:=
 ⟨λo=>match e o with
  |some x=>some x
  |none=>match H0 o with
   |some _=>some .dead
   |none=>H o,by
  obtain⟨n,u⟩:=H.fin;obtain⟨w,j⟩:=H0.fin;obtain⟨y,l⟩:=e.fin;refine⟨max n (max w y),λo A=>?_⟩;simp only[l o Om,j o Om,u o Om]⟩
theorem PH.fresh(H:PH):∃o,H o=none:=by
 obtain⟨n,e⟩:=H.fin;exact⟨n,e n (bgG _)⟩
theorem PH.aTM(H:PH)(q:Nat):∃o,H o=none∧o≠q:=by
 obtain⟨n,e⟩:=H.fin;exact⟨max n (q+1),e _ Om,by omega⟩
def at2(rows:List (List PV))(i j:Nat):Option PV:=rows[i]?.bind (·[j]?)
structure Env where
 G:Nat→Option (Array Value)
 sz:Nat→Option Nat
 num:Nat→FuncId
def Env.cell(E:Env)(b e:Nat):Option Value:=(E.G b).bind (·[e]?)
structure Env.le(E E':Env):Prop where
 g:∀b cs,E.G b=some cs→E'.G b=some cs
 s:∀b n,E.sz b=some n→E'.sz b=some n
 num:E'.num=E.num
theorem Env.le.refl(E:Env):E.le E:=⟨λ_ _ h=>h,λ_ _ h=>h,rfl⟩
theorem Env.le.trans{A B C:Env}(h:A.le B)(k:B.le C):A.le C:=
 ⟨λb cs e=>k.g _ _ (h.g _ _ e),λb n e=>k.s _ _ (h.s _ _ e),k.num.trans h.num⟩
theorem Env.le.cell{E w:Env}(h:E.le w){b e:Nat}{u:Value}(j:E.cell b e=some u):w.cell b e=some u:=by
 unfold Env.cell at *
 cases l:E.G b with
 |none=>simp[l]at j
 |some cs=>rw[l]at j;rw[h.g _ _ l];exact j
inductive bF (E:Env):PV→Value→Prop
 |int (k:IntKind) (n:Int):bF E (.int k n) (.int k n)
 |bool (b:Bool):bF E (.bool b) (.bool b)
 |str (s:ByteArray):bF E (.str s.data.toList) (.string s)
 |aH:bF E .aH (.slice none 0 0)
 |sl {size:Nat} {rows:List (List PV)} {a:Option Addr} {cap:Nat} (u:Nat→Nat→Value) (hcap:Z' rows≤cap) (bfS:cap≤maxLen)
   (hs:∀r∈rows,Z' r=size)
   (ha:rows≠[]→∃ad,a=some ad∧ad.spot=none∧∀i j pv,at2 rows i j=some pv→E.cell ad.block (ad.off+i*size+j)=some (u i j))
   (h1:∀i j,(u i j).oneCell'=true) (hr:∀i j pv,at2 rows i j=some pv→bF E pv (u i j)):bF E (.sl size rows) (.slice a rows.length cap)
 |osl {o size off len cap n:Nat} {a:Addr} (hb:a.block=o) (hsp:a.spot=none) (bfV:cap=0∨a.off=off*size) (hlen:len≤cap) (bfS:cap≤maxLen)
   (hn:E.sz o=some n) (bfL:off*size+cap*size≤n):bF E (.osl o size off len) (.slice (some a) len cap)
 |ptr (o size i c:Nat):bF E (.ptr o size i c) (.pointer (some ⟨o,i*size+c,none⟩))
 |bE {cells:List PV} {ad:Addr} (u:Nat→Value) (hsp:ad.spot=none) (hc:∀(j:Nat) pv,cells[j]?=some pv→E.cell ad.block (ad.off+j)=some (u j))
   (h1:∀(j:Nat),(u j).oneCell'=true) (hr:∀(j:Nat) pv,cells[j]?=some pv→bF E pv (u j)):bF E (.bE cells) (.pointer (some ad))
 |map (o:Nat):bF E (.map o) (.map (some o))
 |fn {name:Nat} {captured:List PV} (vc:Array Value) (hl:vc.size=Z' captured)
   (hr:∀(j:Nat) pv v,captured[j]?=some pv→vc[j]?=some v→bF E pv v):bF E (.fn name captured) (.func (.func (E.num name)) #[] vc)
 |agg {cells:List PV} (vs:Array Value) (hl:vs.size=Z' cells) (h1:∀v∈vs.toList,v.oneCell'=true)
   (hr:∀(j:Nat) pv v,cells[j]?=some pv→vs[j]?=some v→bF E pv v):bF E (.agg cells) (.agg vs)
 |tup {ps:List PV} (vs:Array Value) (hl:vs.size=Z' ps)
   (hr:∀(j:Nat) pv v,ps[j]?=some pv→vs[j]?=some v→bF E pv v):bF E (.tup ps) (.tuple vs)
 |lit (v:Value):bF E (.lit v) v
 |junk (v:Value):bF E .junk v
theorem bF.mono{E O:Env}(h:E.le O){pv:PV}{v:Value}(r:bF E pv v):bF O pv v:=by
 induction r with
 |int=>exact .int _ _
 |bool=>exact .bool _
 |str=>exact .str _
 |aH=>exact .aH
 |sl u B l V S A _ w =>refine .sl u B l V (λM=>?_) A w;obtain⟨R,e,W,K⟩:=S M;exact⟨R,e,W,λi j pv N=>h.cell (K i j pv N)⟩
 |osl hb y J I l U x=>exact .osl hb y J I l (h.s _ _ U) x
 |ptr=>exact .ptr _ _ _ _
 |bE u y K A _ w=>exact .bE u y (λj pv N=>h.cell (K j pv N)) A w
 |map=>exact .map _
 |fn vc F _ w=>rw[←h.num];exact .fn vc F w
 |agg vs F A _ w=>exact .agg vs F A w
 |tup vs F _ w=>exact .tup vs F w
 |lit=>exact .lit _
 |junk=>exact .junk _
def ZH(E:Env)(w:World)(o:Nat):cI→Prop
 | .rows size rs=>∃l ty,w.heap[o]?=some (.cells l ty (0,0))∧E.sz o=some l.size∧(∀r∈rs,Z' r=size)∧Z' rs*size≤l.size ∧
   ∀i j pv,at2 rs i j=some pv→∃u,l[i*size+j]?=some u∧u.oneCell'=true∧bF E pv u
 | .map sh g=>∃y x L,w.heap[o]?=some (.map y x)∧(y.size=Z' L∧(L.map (·.1)).Nodup)∧g=mapOf L ∧
   ∀(i:Nat) e I,L[i]?=some e→y[i]?=some I→e.1.map KS.sh=sh.2∧I.key=lP sh e.1∧bF E e.2 I.val
 | .loop F n t A B=>∃rec:Loop,w.heap[o]?=some (.loop rec)∧rec.state=.ready∧rec.pending=none∧rec.params=#[t]∧rec.assign=A∧rec.body=B∧rec.tmps.size=n∧∀i pv,F i=some pv→bF E pv (rec.tmps.getD i undef)
 | .dead=>True
theorem ZH.mono{E O:Env}(h:E.le O){w R:World}{o:Nat}(N:R.heap[o]?=w.heap[o]?){x:cI}(r:ZH E w o x):ZH O R o x:=by
 cases x with
 |rows size rs =>obtain⟨J,ty,A,B,I,y,h5⟩:=r;refine⟨J,ty,N.trans A,h.s _ _ B,I,y,λi j pv W=>?_⟩;obtain⟨u,a,b,c⟩:=h5 i j pv W;exact⟨u,a,b,c.mono h⟩
 |map sh g =>obtain⟨M,l,L,A,B,I,y⟩:=r;exact⟨M,l,L,N.trans A,B,I,λi e K a b=>⟨(y i e K a b).1,(y i e K a b).2.1,(y i e K a b).2.2.mono h⟩⟩
 |loop F n t S U =>obtain⟨rec,A,B,I,y,h5,V,h7,h8⟩:=r;exact⟨rec,N.trans A,B,I,y,h5,V,h7,λi pv hi=>(h8 i pv hi).mono h⟩
 |dead=>trivial
structure cS(E:Env)(H:PH)(w:World):Prop where
 g:∀b cs,E.G b=some cs→(∀x,H b=some x→x=.dead)∧∃ty fr,w.heap[b]?=some (.cells cs ty fr)
 h:∀o x,H o=some x→o<w.heap.size∧ZH E w o x
 s:∀o n,E.sz o=some n→∃cur ty fr,w.heap[o]?=some (.cells cur ty fr)∧cur.size=n
theorem cS.weaken{E:Env}{H H0:PH}{w:World}(h:cS E H w)(e:H0.le H):cS E H0 w:=by
 exact⟨λb cs hb=>⟨λx l=>(h.g b cs hb).1 x (e b x l),(h.g b cs hb).2⟩,λo x j=>h.h o x (e o x j),h.s⟩
structure Ext(E:Env)(H:PH)(w:World)(E':Env)(H':PH)(w':World):Prop where
 env:E.le E'
 os:w'.os=w.os
 tape:w'.tape=w.tape
 output:w'.output=w.output
 size:w.heap.size≤w'.heap.size
 block:∀b,b<w.heap.size→H b=none→w'.heap[b]?=w.heap[b]?
 new:∀o x,H' o=some x→(∃y,H o=some y)∨w.heap.size≤o
 newG:∀b cs,E'.G b=some cs→E.G b=some cs∨(∃y,H b=some y)∨w.heap.size≤b
theorem Ext.refl(E:Env)(H:PH)(w:World):Ext E H w E H w:=
 ⟨.refl E,rfl,rfl,rfl,bgG _,λ_ _ _=>rfl,λ_ x h=>.inl ⟨x,h⟩,λ_ _ h=>.inl h⟩
theorem Ext.trans{l u w:Env}{A H2 B:PH}{F I J:World}(h:Ext l A F u H2 I)(k:Ext u H2 I w B J):Ext l A F w B J:=by
 refine⟨h.env.trans k.env,k.os.trans h.os,k.tape.trans h.tape,k.output.trans h.output,biJ h.size k.size,λb hb E=>?_,λo x N=>?_,λb cs hb=>?_⟩
 ·have M:H2 b=none:=by
   cases e:H2 b with
   |none=>rfl
   |some x=>
    rcases h.new b x e with⟨y,j⟩|hl
    ·rw[E]at j;cases j
    ·omega
  rw[k.block b (by have:=h.size;omega) M,h.block b hb E]
 ·rcases k.new o x N with⟨y,j⟩|hl
  ·exact h.new o y j
  ·exact .inr (biJ h.size hl)
 ·rcases k.newG b cs hb with K|⟨y,j⟩|hl
  ·exact h.newG b cs K
  ·exact .inr (h.new b y j)
  ·exact .inr (.inr (biJ h.size hl))
theorem Ext.drop{E j:Env}{H H' H0:PH}{w l:World}(h:Ext E H w j H' l)(e:H0.le H'):Ext E H w j H0 l:=
 ⟨h.env,h.os,h.tape,h.output,h.size,h.block,λo x u=>h.new o x (e o x u),h.newG⟩
theorem Ext.narrow{E A:Env}{H H' H0:PH}{w B:World}(h:Ext E H0 w A H' B)(j:H0.le H):Ext E H w A (H.over H0 H') B:=by
 refine⟨h.env,h.os,h.tape,h.output,h.size,λb hb I=>h.block b hb ?_,λo x l=>?_,λb cs hb=>?_⟩
 ·cases e:H0 b with
  |none=>rfl
  |some x=>have:=j b x e;rw[I]at this;cases this
 ·unfold PH.over at l;simp only at l;split at l
  ·rename_i y u;rcases h.new o y u with⟨z,J⟩|hl
   ·exact .inl ⟨z,j o z J⟩
   ·exact .inr hl
  ·split at l
   ·rename_i y u;exact .inl ⟨y,j o y u⟩
   ·exact .inl ⟨x,l⟩
 ·rcases h.newG b cs hb with F|⟨y,u⟩|hl
  ·exact .inl F
  ·exact .inr (.inl ⟨y,j b y u⟩)
  ·exact .inr (.inr hl)
theorem cS.over{E I:Env}{H H' H0:PH}{w F:World}(hW:cS E H w)(h:Ext E H0 w I H' F)(J:H0.le H)(e:cS I H' F):cS I (H.over H0 H') F:=by
 have keep:∀o x,H o=some x→H0 o=none→o<F.heap.size∧ZH I F o x:=by intro o x j A;obtain⟨hlt,B⟩:=hW.h o x j;exact⟨Nat.lt_of_lt_of_le hlt h.size,B.mono h.env (h.block o hlt A)⟩
 refine⟨λb cs hb=>⟨?_,(e.g b cs hb).2⟩,λo x j=>?_,e.s⟩
 ·intro x l;unfold PH.over at l;simp only at l;split at l
  ·rename_i y u;cases l;exact(e.g b cs hb).1 _ u
  ·split at l
   ·cases l;rfl
   ·rename_i A;rcases h.newG b cs hb with K|⟨y,u⟩|hl
    ·exact(hW.g b cs K).1 x l
    ·rw[A]at u;cases u
    ·have:=(hW.h b x l).1;omega
 ·unfold PH.over at j;simp only at j;split at j
  ·rename_i y u;cases j;exact e.h o _ u
  ·split at j
   ·rename_i y u;cases j;exact⟨Nat.lt_of_lt_of_le (hW.h o y (J o y u)).1 h.size,trivial⟩
   ·rename_i A;exact keep o x j A
open Go
inductive aS where
 |tmp (t:Nat)
 |const (v:PV)
 deriving Inhabited
def aS.ev(F:PF):aS→Option PV
 | .tmp t=>F t
 | .const v=>some v
def aS.evs(F:PF):List aS→Option (List PV)
 |[]=>some []
 |x::xs=>match x.ev F,aS.evs F xs with
  |some v,some vs=>some (v::vs)
  |_,_=>none
inductive Sc where
 |int|bool|str
 deriving Inhabited,DecidableEq
inductive POp where
 |mv (x:aS)
 |pick (c a b:aS)
 |bin (op:BinOp) (x y:aS)
 |eqb (neg:Bool) (x y:aS)
 |eqs (neg:Bool) (ks:List Sc) (x y:aS)
 |un (op:UnOp) (x:aS)
 |conv (k:IntKind) (x:aS)
 |same (x:aS)
 |alloc (cells:List PV)
 |box (ro:Bool) (x:aS)
 |build (zero:List PV) (parts:List (Nat × Nat × aS))
 |beQ (ro:Bool) (size len:Nat) (zero:List PV) (parts:List (Nat × aS))
 |load (n:Option Nat) (p:aS)
 |store (n:Nat) (p x:aS)
 |beY (x:aS)
 |bfP (off:Nat) (x:aS)
 |field (off:Nat) (n:Option Nat) (x:aS)
 |bfC (size:Nat) (x i:aS)
 |idxA (n size:Nat) (x i:aS)
 |idxV (n size:Nat) (ag:Bool) (x i:aS)
 |bfN (x i:aS)
 |slice (size:Nat) (x:aS) (lo hi mx:Option aS)
 |bfI (x:aS) (lo hi:Option aS)
 |sliceA (n size:Nat) (x:aS) (lo hi mx:Option aS)
 |len (x:aS)
 |bfM (x:aS)
 |bfX (x:aS)
 |lenM (x:aS)
 |isNil (n:Bool) (x:aS)
 |extract (x:aS) (i:Nat)
 |beT (size bytes:Nat) (zero:List PV) (l c:aS)
 |append (size bytes:Nat) (x y:aS)
 |bfG (mx:Bool) (x y:aS)
 |mkfn (name:Nat) (captured:List aS)
 |bfT (sh:MSh)
 |lookup (sh:MSh) (zero:PV) (x k:aS) (ok:Bool)
 |bfD (sh:MSh) (x k v:aS)
 |insert (sh:MSh) (x k v:aS)
 |stuck
 |beZ (x:aS)
 |str2bytes (x:aS)
 |call (name:Nat) (args:List aS)
 |bfO (x:aS) (args:List aS)
 deriving Inhabited
structure bN where
 dst:Option Nat
 op:POp
 guard:Option (Nat × Bool)
 deriving Inhabited
inductive aC where
 |skip
 |region (ops:List bN)
 |draw (ops:List (bN × Bool))
 |seq (a b:aC)
 |cond (c:aS) (a b:aC)
 |block (id:Nat) (c:aC)
 |loop (c:aC)
 |exit (id:Nat)
 |ret
 deriving Inhabited
inductive fL where
 |tmp (t:Nat)
 |cell (t:Nat) (n:Option Nat)
 deriving Inhabited
structure aX where
 nparams:Nat
 ntmps:Nat
 body:aC
 res:List fL
 deriving Inhabited
def PV.cells:PV→List PV
 | .agg cs=>cs
 |v=>[v]
def PV.one:PV→Bool
 | .agg _ | .tup _ | .junk | .lit (.agg _) | .lit (.tuple _)=>false
 |_=>true
def setCells(r:List PV)(c:Nat):List PV→List PV
 |[]=>r
 |v::vs=>setCells (r.set c v) (c+1) vs
def loadCells(H:PH)(p:PV)(n:Nat):Option (List PV):=
 match p with
 | .ptr o size i c=>match H o with
  |some (.rows s rs)=>if s=size then match rs[i]? with
    |some r=>if c+n≤r.length then some ((r.drop c).take n)else none
    |none=>none
   else none
  |_=>none
 | .bE cells=>if n≤cells.length then some (cells.take n)else none
 |_=>none
def rQ(op:BinOp)(k:IntKind)(a b:Int):Option PV:=
 match op with
 | .add=>some (.int k (k.wrap (a+b)))
 | .sub=>some (.int k (k.wrap (a-b)))
 | .mul=>some (.int k (k.wrap (a*b)))
 | .quo=>if b=0 then none else some (.int k (k.wrap (a.tdiv b)))
 | .rem=>if b=0 then none else some (.int k (a.tmod b))
 | .and=>some (.int k (k.wrap (BitVec.ofInt k.bits a &&& BitVec.ofInt k.bits b).toNat))
 | .or=>some (.int k (k.wrap (BitVec.ofInt k.bits a ||| BitVec.ofInt k.bits b).toNat))
 | .xor=>some (.int k (k.wrap (BitVec.ofInt k.bits a ^^^ BitVec.ofInt k.bits b).toNat))
 | .andNot=>some (.int k (k.wrap (BitVec.ofInt k.bits a &&& ~~~ BitVec.ofInt k.bits b).toNat))
 | .eql=>some (.bool (a==b))
 | .neq=>some (.bool (a != b))
 | .lss=>some (.bool (decide (a<b)))
 | .leq=>some (.bool (decide (a≤b)))
 | .gtr=>some (.bool (decide (a>b)))
 | .geq=>some (.bool (decide (a≥b)))
 | .shl | .shr=>none
def ZM(op:BinOp)(a b:List UInt8):Option PV:=
 match op with
 | .add=>if((Z' a+Z' b:Nat):Int)>IntKind.i64.max then none else some (.str (a++b))
 | .eql=>some (.bool (a==b))
 | .neq=>some (.bool !(a==b))
 | .lss=>some (.bool (Op.bytesLess a b))
 | .leq=>some (.bool (Op.bytesLess a b||a==b))
 | .gtr=>some (.bool !(Op.bytesLess a b||a==b))
 | .geq=>some (.bool !(Op.bytesLess a b))
 |_=>none
def shift(op:BinOp)(k:IntKind)(a b:Int):Option PV:=
 if b<0 then none else
 match op with
 | .shl=>some (.int k (k.wrap (a*2^(min b.toNat k.bits))))
 | .shr=>some (.int k (a.fdiv (2^(min b.toNat k.bits))))
 |_=>none
def PV.bin(op:BinOp)(x y:PV):Option PV:=
 match op,x,y with
 | .shl,.int k a,.int _ b=>shift .shl k a b
 | .shr,.int k a,.int _ b=>shift .shr k a b
 |op,.int k a,.int e b=>if k=e then rQ op k a b else none
 |op,.str a,.str b=>ZM op a b
 |_,_,_=>none
def PV.eq1:Sc→PV→PV→Option Bool
 | .int,.int k a,.int e b=>if k=e then some (a==b)else none
 | .bool,.bool a,.bool b=>some (a==b)
 | .str,.str a,.str b=>some (a==b)
 |_,_,_=>none
def PV.eqs:List Sc→List PV→List PV→Option Bool
 |[],[],[]=>some true
 |k::e,x::xs,y::j=>match PV.eq1 k x y with
  |some true=>PV.eqs e xs j
  |some false=>if xs.length=Z' e∧Z' j=e.length then some false else none
  |none=>none
 |_,_,_=>none
def PV.un(op:UnOp):PV→Option PV
 | .int k n=>match op with
  | .neg=>some (.int k (k.wrap (0-n)))
  | .xor=>some (.int k (k.wrap (BitVec.ofInt k.bits (if k.signed then -1 else k.max) ^^^ BitVec.ofInt k.bits n).toNat))
  |_=>none
 | .bool b=>match op with
  | .not=>some (.bool !b)
  |_=>none
 |_=>none
def PV.intOf:PV→Option Int
 | .int _ n=>some n
 |_=>none
def xA(cells:List PV)(F:PF):List (Nat × Nat × aS)→Option (List PV)
 |[]=>some cells
 |(e,size,x)::j=>match x.ev F with
  |some v=>if v.cells.length=size∧e+size≤Z' cells∧v.cells.all PV.one then xA (setCells cells e v.cells) F j else none
  |none=>none
def mH(size:Nat)(rows:List (List PV))(F:PF):List (Nat × aS)→Option (List (List PV))
 |[]=>some rows
 |(i,x)::e=>match x.ev F with
  |some v=>if v.cells.length=size∧i<Z' rows∧v.cells.all PV.one then mH size (rows.set i v.cells) F e else none
  |none=>none
def fA(H:PH)(size:Nat):PV→Option (List (List PV))
 | .aH=>some []
 | .sl s rows=>if s=size then some rows else none
 | .osl o s e len=>if s=size then match H o with
   |some (.rows s' rs)=>if s'=s∧e+len≤rs.length then some ((rs.drop e).take len)else none
   |_=>none
  else none
 |_=>none
def bnd(F:PF)(d:Int):Option aS→Option Int
 |none=>some d
 |some x=>(x.ev F).bind PV.intOf
def PV.slice(size:Nat)(x:PV)(l h:Int)(mx:Option Int):Option PV:=
 match x with
 | .aH=>if l=0∧h=0∧(mx=none∨mx=some 0)then some .aH else none
 | .sl s rows=>if s=size∧0≤l∧l≤h∧h≤Z' rows∧(mx=none∨mx=some h)then some (.sl s ((rows.take h.toNat).drop l.toNat))else none
 | .osl o s e len=>if s=size∧0≤l∧l≤h∧h≤len∧(mx=none∨mx=some h)then some (.osl o s (e+l.toNat) (h.toNat-l.toNat))else none
 |_=>none
def PV.QU:PV→Option Bool
 | .aH=>some true
 | .osl _ _ _ _=>some false
 | .sl _ (_::_)=>some false
 |_=>none
def KS.of:PV→Option KS
 | .int k n=>some (.int k n)
 | .bool b=>some (.bool b)
 | .str s=>some (.str s)
 |_=>none
def KS.ofs:List PV→Option (List KS)
 |[]=>some []
 |v::vs=>match KS.of v,KS.ofs vs with
  |some k,some e=>some (k::e)
  |_,_=>none
def keyOf(sh:MSh)(v:PV):Option (List KS):=
 match sh.1,v with
 |true,.agg cs=>(KS.ofs cs).bind λk=>if k.map KS.sh=sh.2 then some k else none
 |false,v=>(KS.of v).bind λk=>if[k.sh]=sh.2 then some [k]else none
 |_,_=>none
def chunks(size:Nat):Nat→List PV→List (List PV)
 |0,_=>[]
 |n+1,cs=>cs.take size::chunks size n (cs.drop size)
def wA:List (List PV)→Option (List UInt8)
 |[]=>some []
 |[.int .u8 n]::e=>(wA e).map (UInt8.ofNat n.toNat::·)
 |_=>none
def PV.AW:PV→Option PV
 | .aH=>some (.int .i64 0)
 | .sl _ rows=>some (.int .i64 rows.length)
 | .osl _ _ _ n=>some (.int .i64 n)
 |_=>none
noncomputable def aT(op:POp)(F:PF)(H:PH):Option PV:=
 match op with
 | .mv x=>x.ev F
 | .same x=>match x.ev F with
  |some (.str s)=>some (.str s)
  |_=>none
 | .pick c a b=>match c.ev F,a.ev F,b.ev F with
  |some (.bool t),x,y=>if t then x else y
  |_,_,_=>none
 | .bin op x y=>match x.ev F,y.ev F with
  |some a,some b=>PV.bin op a b
  |_,_=>none
 | .eqb neg x y=>match x.ev F,y.ev F with
  |some (.bool a),some (.bool b)=>some (.bool ((a==b) != neg))
  |_,_=>none
 | .eqs neg B x y=>match x.ev F,y.ev F with
  |some (.agg xs),some (.agg I)=>(PV.eqs B xs I).map λb=>.bool (b != neg)
  |_,_=>none
 | .un op x=>match x.ev F with
  |some a=>PV.un op a
  |none=>none
 | .conv k x=>match x.ev F with
  |some (.int _ n)=>some (.int k (k.wrap n))
  |_=>none
 | .box true x=>match x.ev F with
  |some v=>if v.cells.all PV.one then some (.bE v.cells)else none
  |none=>none
 | .build zero parts=>(xA zero F parts).map .agg
 | .beQ true size len zero parts=>if zero.length=size∧len*size≤16777216 then(mH size (bgA len zero) F parts).map (.sl size)else none
 | .load none p=>match p.ev F with
  |some a=>match loadCells H a 1 with
   |some [v]=>some v
   |_=>none
  |none=>none
 | .load (some n) p=>match p.ev F with
  |some a=>(loadCells H a n).map .agg
  |none=>none
 | .beY x=>match x.ev F with
  |some (.ptr o s i c)=>some (.ptr o s i c)
  |some (.bE cs)=>some (.bE cs)
  |_=>none
 | .bfP e x=>match x.ev F with
  |some (.ptr o s i c)=>some (.ptr o s i (c+e))
  |some (.bE cs)=>some (.bE (cs.drop e))
  |_=>none
 | .field e n x=>match x.ev F with
  |some (.agg cs)=>match n with
   |none=>cs[e]?
   |some n=>if e+n≤cs.length then some (.agg ((cs.drop e).take n))else none
  |_=>none
 | .bfC size x i=>match x.ev F,i.ev F with
  |some (.sl s rows),some (.int _ n)=>if s=size∧0≤n then match rows[n.toNat]? with
    |some r=>some (.bE r)
    |none=>none
   else none
  |some (.osl o s e len),some (.int _ n)=>if s=size∧0≤n∧n<len then some (.ptr o s (e+n.toNat) 0)else none
  |_,_=>none
 | .idxA n size x i=>match x.ev F,i.ev F with
  |some (.ptr o s r c),some (.int _ k)=>if 0≤k∧k<n then some (.ptr o s r (c+k.toNat*size))else none
  |some (.bE cs),some (.int _ k)=>if 0≤k∧k<n then some (.bE (cs.drop (k.toNat*size)))else none
  |_,_=>none
 | .idxV n size w x i=>match x.ev F,i.ev F with
  |some (.agg cs),some (.int _ k)=>if 0≤k∧k<n then
    (if w then(if k.toNat*size+size≤cs.length then some (.agg ((cs.drop (k.toNat*size)).take size))else none)else cs[k.toNat*size]?)
   else none
  |_,_=>none
 | .bfN x i=>match x.ev F,i.ev F with
  |some (.str s),some (.int _ k)=>if 0≤k then(s[k.toNat]?).map λb=>PV.int .u8 b.toNat else none
  |_,_=>none
 | .slice size x lo hi mx=>match x.ev F with
  |some v=>match v with
   | .aH=>match bnd F 0 lo,bnd F 0 hi with
    |some l,some h=>match mx with
     |none=>PV.slice size v l h none
     |some m=>(bnd F 0 (some m)).bind λm=>PV.slice size v l h (some m)
    |_,_=>none
   | .sl s rows=>match bnd F 0 lo,bnd F rows.length hi with
    |some l,some h=>match mx with
     |none=>PV.slice size (.sl s rows) l h none
     |some m=>(bnd F 0 (some m)).bind λm=>PV.slice size (.sl s rows) l h (some m)
    |_,_=>none
   | .osl o s e len=>match bnd F 0 lo,bnd F len hi with
    |some l,some h=>match mx with
     |none=>PV.slice size (.osl o s e len) l h none
     |some m=>(bnd F 0 (some m)).bind λm=>PV.slice size (.osl o s e len) l h (some m)
    |_,_=>none
   |_=>none
  |none=>none
 | .bfI x lo hi=>match x.ev F with
  |some (.str s)=>match bnd F 0 lo,bnd F s.length hi with
   |some l,some h=>if 0≤l∧l≤h∧h≤s.length then some (.str ((s.take h.toNat).drop l.toNat))else none
   |_,_=>none
  |_=>none
 | .sliceA n size x lo hi mx=>match lo,hi,mx with
  |none,none,none=>match x.ev F with
   |some (.bE cs)=>if n*size≤Z' cs∧0<size∧n≤maxLen then some (.sl size (chunks size n cs))else none
   |_=>none
  |_,_,_=>none
 | .len x=>(x.ev F).bind PV.AW
 | .bfM x=>match x.ev F with
  |some (.str s)=>some (.int .i64 s.length)
  |_=>none
 | .lenM x=>match x.ev F with
  |some (.map o)=>match H o with
   |some (.map _ g)=>some (.int .i64 (g.aGD:Nat))
   |_=>none
  |_=>none
 | .bfX x=>match x.ev F with
  |some .aH=>some (.int .i64 0)
  |_=>none
 | .isNil n x=>(x.ev F).bind λv=>v.QU.map λb=>.bool (b != n)
 | .extract x i=>match x.ev F with
  |some (.tup vs)=>vs[i]?
  |_=>none
 | .bfG mx x y=>match x.ev F,y.ev F with
  |some (.int k a),some (.int A b)=>if k=A then some (.int k (if mx then(if a<b then b else a)else(if b<a then b else a)))else none
  |_,_=>none
 | .mkfn name captured=>(aS.evs F captured).map λcs=>.fn name cs
 | .lookup sh zero x k ok=>match x.ev F,k.ev F with
  |some (.map o),some E=>match H o,keyOf sh E with
   |some (.map u g),some j=>if u=sh then some (if ok then .tup [(g j).getD zero,.bool (g j).isSome]else(g j).getD zero)else none
   |_,_=>none
  |_,_=>none
 | .beZ x=>match x.ev F with
  |some v=>match fA H 1 v with
   |some rows=>(wA rows).map PV.str
   |none=>none
  |none=>none
 |_=>none
def eU(op:POp)(F:PF):Option ((Nat→PV) × cI):=
 match op with
 | .alloc cells=>some (λo=>.ptr o cells.length 0 0,.rows cells.length [cells])
 | .box false x=>match x.ev F with
  |some v=>if v.cells.all PV.one then some (λo=>.ptr o v.cells.length 0 0,.rows v.cells.length [v.cells])else none
  |none=>none
 | .beQ false size len zero parts=>if zero.length=size∧len*size≤16777216 then
   (mH size (bgA len zero) F parts).map λrows=>(λo=>.osl o size 0 len,.rows size rows)
  else none
 | .beT size bytes zero l c=>match l.ev F,c.ev F with
  |some (.int _ n),some (.int _ m)=>if 0≤n∧n≤m∧m*bytes≤140737488355328∧m≤9223372036854775807∧Z' zero=size then
    some (λo=>.osl o size 0 n.toNat,.rows size (bgA n.toNat zero))
   else none
  |_,_=>none
 | .bfT sh=>some (λo=>.map o,.map sh (λ_=>none))
 |_=>none
def storeAt(H:PH)(p:PV)(cells:List PV):Option PH:=
 match p with
 | .ptr o size i c=>match H o with
  |some (.rows s rs)=>if s=size∧c+Z' cells≤size∧cells.all PV.one then match rs[i]? with
    |some r=>some (H.set o (.rows s (rs.set i (setCells r c cells))))
    |none=>none
   else none
  |_=>none
 |_=>none
def roomFor(n m bytes:Nat):Prop:=n+m≤maxLen∧(n+m)*bytes≤140737488355328
def pF(H:PH)(size bytes:Nat)(x y:PV)(K:PV→PH→Prop):Prop:=
 ∃src,fA H size y=some src ∧
  match x with
  | .aH=>roomFor 0 src.length bytes∧(src=[]→K .aH H)∧(src≠[]→∀o,H o=none→K (.osl o size 0 src.length) (H.set o (.rows size src)))
  | .osl o s 0 len=>s=size∧0=0∧roomFor len src.length bytes∧∃rs,H o=some (.rows size rs)∧len≤Z' rs ∧
    K (.osl o size 0 (len+Z' src)) (H.set o (.rows size (rs.take len++src))) ∧
    ∀j,H j=none→K (.osl j size 0 (len+Z' src)) (H.set j (.rows size (rs.take len++src)))
  | .osl o s (e+1) len=>s=size∧roomFor len src.length bytes∧∃rs,H o=some (.rows size rs)∧e+1+len≤Z' rs ∧
    K (.osl o size (e+1) (len+Z' src)) (H.set o (.rows size (rs.take (e+1+len)++src))) ∧
    ∀j,H j=none→K (.osl j size 0 (len+Z' src)) (H.set j (.rows size ((rs.drop (e+1)).take len++src)))
  |_=>False
def dL(op:POp)(F:PF)(H:PH)(K:PV→PH→Prop):Prop:=
 match op with
 | .store n p x=>match p.ev F,x.ev F with
  |some a,some v=>Z' v.cells=n∧∃H',storeAt H a v.cells=some H'∧K .junk H'
  |_,_=>False
 | .append size bytes x y=>match x.ev F,y.ev F with
  |some a,some b=>pF H size bytes a b K
  |_,_=>False
 | .bfD sh x k v=>match x.ev F,k.ev F,v.ev F with
  |some (.map o),some l,some u=>match H o,keyOf sh l with
   |some (.map j g),some e=>j=sh∧K .junk (H.set o (.map sh (g.upd e u)))
   |_,_=>False
  |_,_,_=>False
 | .insert sh x k v=>match x.ev F,k.ev F,v.ev F with
  |some (.map o),some l,some u=>match H o,keyOf sh l with
   |some (.map j g),some e=>j=sh∧g e=none∧K .junk (H.set o (.map sh (g.upd e u)))
   |_,_=>False
  |_,_,_=>False
 |_=>False
def PV.dM(o s:Nat)(rs:List (List PV)):PV→PV
 | .osl q s' e len=>if q=o then(if s'=s∧e+len≤rs.length then .sl s ((rs.drop e).take len)else .junk)else .osl q s' e len
 |v=>v
def PV.wE(o s:Nat)(rs:List (List PV)):PV→PV
 | .agg cs=>.agg (cs.map (PV.dM o s rs))
 |v=>v.dM o s rs
def PV.frz(o s:Nat)(rs:List (List PV)):PV→PV
 | .tup vs=>.tup (vs.map (PV.wE o s rs))
 |v=>v.wE o s rs
def cI.frz(o s:Nat)(rs:List (List PV)):cI→cI
 | .rows s' rs'=>.rows s' (rs'.map λr=>r.map (PV.dM o s rs))
 |x=>x
def PF.frz(F:PF)(o s:Nat)(rs:List (List PV)):PF:=λi=>(F i).map (PV.frz o s rs)
def PH.frz(H:PH)(o s:Nat)(rs:List (List PV)):PH:=
 ⟨λq=>if q=o then none else(H q).map (cI.frz o s rs),by
  obtain⟨n,e⟩:=H.fin;exact⟨n,λq hq=>by simp[e q hq]⟩⟩
inductive mP:PF→PH→PF→PH→Prop
 |refl (F:PF) (H:PH):mP F H F H
 |step {F F':PF} {H H':PH} (o:Nat) {s:Nat} {rs:List (List PV)} (ho:H o=some (.rows s rs)) (h:mP (F.frz o s rs) (H.frz o s rs) F' H'):mP F H F' H'
structure Ctx where
 P:Program
 num:Nat→FuncId
inductive iH (E:Env):List PV→List Value→Prop
 |nil:iH E [] []
 |cons {p:PV} {v:Value} {ps:List PV} {vs:List Value} (h:bF E p v) (t:iH E ps vs):iH E (p::ps) (v::vs)
def aI(C:Ctx)(name:Nat)(args:List PV)(H:PH)(R:PV→PH→Prop):Prop:=
 (∃fn,C.P.funcs[C.num name]?=some fn∧fn.body.isSome=true∧(fn.name=="runtime.NumGoroutine")=false) ∧
 ∀(E:Env)(w:World)(vs:Array Value),E.num=C.num→cS E H w→iH E args vs.toList →
  Calls C.P (C.num name) vs w λe l=>∃v pv j H',e=.returned v∧cS j H' l∧bF j pv v∧Ext E H w j H' l∧R pv H'
def aLT(C:Ctx)(l:Nat)(args:List PV)(H:PH)(R:PV→PH→Prop):Prop:=
 ∀(E:Env)(w:World)(vs:Array Value),E.num=C.num→cS E H w→iH E args vs.toList →
  ∃fn u j body,(Instr.yield l vs).run C.P w=.ok (.round l fn u j body) w∧RoundIn Fence.wide 0 C.P l fn u j body w λe y=>∃v pv x H',e=.returned v∧cS x H' y∧bF x pv v∧Ext E H w x H' y∧R pv H'
def PV.aRS:PV→Option Nat
 | .lit (.func (.yield l) f c)=>if f=#[]∧c=#[]then some l else none
 |_=>none
abbrev a6R(l:Nat):PV:=.lit (.func (.yield l) #[] #[])
inductive oW where
 |normal
 |exit (id:Nat)
 |ret
abbrev cQ:=oW→PF→PH→Prop
def PF.put(F:PF)(d:Option Nat)(v:PV):PF:=
 match d with
 |some d=>F.set d v
 |none=>F
def cX(r:Option PV)(d:Option Nat)(K:PF→PH→Prop)(F:PF)(H:PH):Prop:=∃v,r=some v∧K (F.put d v) H
def sX(r:Option ((Nat→PV) × cI))(d:Option Nat)(K:PF→PH→Prop)(F:PF)(H:PH):Prop:=
 ∃e x,r=some (e,x)∧∀o,H o=none→K (F.put d (e o)) (H.set o x)
def qM(H H0 H':PH):Prop:=∀o x,H' o=some x→H0 o=none→H o=none
def AH(C:Ctx)(name:Nat)(args:Option (List PV))(d:Option Nat)(K:PF→PH→Prop)(F:PF)(H:PH):Prop:=
 ∃vs H0 R,args=some vs∧H0.le H∧aI C name vs H0 R∧∀r H',R r H'→qM H H0 H'→K (F.put d r) (H.over H0 H')
def kF(C:Ctx)(name:Nat)(args:List aS)(cs:List PV)(d:Option Nat)(K:PF→PH→Prop)(F:PF)(H:PH):Prop:=
 AH C name ((aS.evs F args).map (·++cs)) d K F H ∨
 ∃e j,mP F H e j∧AH C name ((aS.evs e args).map (·++cs)) d K e j
def XV(C:Ctx)(l:Nat)(args:Option (List PV))(d:Option Nat)(K:PF→PH→Prop)(F:PF)(H:PH):Prop:=
 ∃vs H0 R,args=some vs∧H0.le H∧aLT C l vs H0 R∧∀r H',R r H'→qM H H0 H'→K (F.put d r) (H.over H0 H')
def aEQ(C:Ctx)(l:Nat)(args:List aS)(d:Option Nat)(K:PF→PH→Prop)(F:PF)(H:PH):Prop:=
 XV C l (aS.evs F args) d K F H∨∃e j,mP F H e j∧XV C l (aS.evs e args) d K e j
def DF(C:Ctx)(v:Option PV)(args:List aS)(d:Option Nat)(K:PF→PH→Prop)(F:PF)(H:PH):Prop:=
 match v with
 |some (.fn name cs)=>kF C name args cs d K F H
 |some (.lit u)=>∃l,PV.aRS (.lit u)=some l∧aEQ C l args d K F H
 |_=>False
def POp.mL:POp→Bool
 | .alloc _ | .box false _ | .beQ false .. | .beT .. | .bfT _=>true
 |_=>false
def POp.gU:POp→Bool
 | .store .. | .append .. | .bfD .. | .insert ..=>true
 |_=>false
def wpOp(C:Ctx)(op:POp)(d:Option Nat)(K:PF→PH→Prop)(F:PF)(H:PH):Prop:=
 match op with
 | .call name args=>kF C name args [] d K F H
 | .bfO x args=>DF C (x.ev F) args d K F H
 |op=>if op.mL then sX (eU op F) d K F H else if op.gU then dL op F H (λr H'=>K (F.put d r) H')else cX (aT op F H) d K F H
def wpOps(C:Ctx):List bN→(PF→PH→Prop)→PF→PH→Prop
 |[],K,F,H=>K F H
 |i::e,K,F,H=>match i.guard with
  |none=>wpOp C i.op i.dst (wpOps C e K) F H
  |some (t,j)=>match F t with
   |some (.bool b)=>if b=j then wpOp C i.op i.dst (wpOps C e K) F H else wpOps C e K (F.put i.dst (.tup [])) H
   |some (.tup [])=>wpOps C e K (F.put i.dst (.tup [])) H
   |_=>False
def PH.only(H:PH)(D:List Nat):PH:=
 ⟨λo=>if o∈D then H o else none,by
  obtain⟨n,e⟩:=H.fin;exact⟨n,λo j=>by simp[e o j]⟩⟩
abbrev Spec:=Nat→List PV→Option (List Nat × (PH→PV→PH→Prop))
inductive Kind where
 |fail
 |calm (f:PH→Option PV)
 |new (r:Option ((Nat→PV) × cI))
 |write (w:PH→(PV→PH→Prop)→Prop)
 |call (name:Nat) (args:Option (List PV))
 |ins (r:Option (Nat × MSh × List KS × PV))
noncomputable def POp.kind(op:POp)(F:PF):Kind:=
 match op with
 | .call name args=>.call name (aS.evs F args)
 | .bfO x args=>match x.ev F with
  |some (.fn name cs)=>.call name ((aS.evs F args).map (·++cs))
  |_=>.fail
 | .insert sh x k v=>.ins (match x.ev F,k.ev F,v.ev F with
  |some (.map o),some j,some l=>(keyOf sh j).map λe=>(o,sh,e,l)
  |_,_,_=>none)
 |op=>if op.mL then .new (eU op F)else if op.gU then .write (λH K=>dL op F H K)else .calm (aT op F)
noncomputable def bN.kind(i:bN)(F:PF):Kind:=
 match i.guard with
 |none=>i.op.kind F
 |some (t,e)=>match F t with
  |some (.bool b)=>if b=e then i.op.kind F else .calm (λ_=>some (.tup []))
  |some (.tup [])=>.calm (λ_=>some (.tup []))
  |_=>.fail
def Kind.run(C:Ctx)(Hs:PH)(S:Spec)(st:Bool)(k:Kind)(K:PV→PH→Prop)(H:PH):Prop:=
 match k with
 | .fail=>False
 | .calm f=>∃v,f (if st then Hs else H)=some v∧K v H
 | .new r=>∃j x,r=some (j,x)∧∀o,H o=none→K (j o) (H.set o x)
 | .write w=>w H λr H'=>Hs.le H'∧K r H'
 | .ins r=>∃o sh e v g,r=some (o,sh,e,v)∧H o=some (.map sh g)∧g e=none∧Hs o=none∧K .junk (H.set o (.map sh (g.upd e v)))
 | .call name args=>∃vs D R,args=some vs∧S name vs=some (D,R)∧(∀o∈D,∃x,H o=some x)∧aI C name vs (H.only D) (R (H.only D)) ∧
   (∀G:PH,∃r H',R (H.only D) r H'∧qM G (H.only D) H') ∧
   ∀r H',R (H.only D) r H'→qM H (H.only D) H'→Hs.le (H.over (H.only D) H')∧K r (H.over (H.only D) H')
def wpD(C:Ctx)(Hs:PH)(S:Spec):List (bN × Bool)→(PF→PH→Prop)→PF→PH→Prop
 |[],K,F,H=>K F H
 |i::e,K,F,H=>(i.1.kind F).run C Hs S i.2 (λv H'=>wpD C Hs S e K (F.put i.1.dst v) H') H
def kJ(C:Ctx)(w:cQ→PF→PH→Prop)(K:cQ):cQ
 | .normal,F,H=>w K F H
 |e,F,H=>K e F H
def fN(id:Nat)(K:cQ):cQ
 | .exit j,F,H=>if j=id then K .normal F H else K (.exit j) F H
 |e,F,H=>K e F H
def fZ{α:Type}(u:α→PF)(Hs:α→PH)(w:α→Prop)(m:α→Nat)(n:Nat)(K:cQ):cQ
 | .normal,F,H=>∃a j l,mP F H j l∧w a∧m a<n∧(u a).le j∧(Hs a).le l
 |e,F,H=>K e F H
def aC.wp(C:Ctx):aC→cQ→PF→PH→Prop
 | .skip,K,F,H=>K .normal F H
 | .region ops,K,F,H=>wpOps C ops (K .normal) F H
 | .draw ops,K,F,H=>∃Hs S,PH.le Hs H∧wpD C Hs S ops (K .normal) F H
 | .seq a b,K,F,H=>a.wp C (kJ C (b.wp C) K) F H
 | .cond c a b,K,F,H=>match c.ev F with
  |some (.bool t)=>if t then a.wp C K F H else b.wp C K F H
  |_=>False
 | .block id c,K,F,H=>c.wp C (fN id K) F H
 | .loop c,K,F,H=>∃(α:Type)(e:α→PF)(Hs:α→PH)(j:α→Prop)(m:α→Nat)(l:α)(u:PF)(w:PH),mP F H u w∧j l∧(e l).le u∧(Hs l).le w ∧
   ∀a,j a→c.wp C (fZ e Hs j m (m a) K) (e a) (Hs a)
 | .exit id,K,F,H=>K (.exit id) F H
 | .ret,K,F,H=>K .ret F H
def fL.ev(F:PF)(H:PH):fL→Option PV
 | .tmp t=>F t
 | .cell t none=>match F t with
  |some p=>match loadCells H p 1 with
   |some [v]=>some v
   |_=>none
  |none=>none
 | .cell t (some k)=>match F t with
  |some p=>(loadCells H p k).map .agg
  |none=>none
def fL.evs(F:PF)(H:PH):List fL→Option (List PV)
 |[]=>some []
 |r::rs=>match r.ev F H,fL.evs F H rs with
  |some v,some vs=>some (v::vs)
  |_,_=>none
def cF:List PV→PV
 |[v]=>v
 |vs=>.tup vs
def aW(res:List fL)(R:PV→PH→Prop):cQ
 | .exit _,_,_=>False
 |_,F,H=>∃vs,fL.evs F H res=some vs∧∃e j H2,mP (PF.nil.set 0 (cF vs)) H e j∧H2.le j∧∃v,e 0=some v∧R v H2
def PF.args(vs:List PV):PF:=λi=>vs[i]?
structure Tbl where
 P:Program
 num:Nat→FuncId
 name:FuncId→Option Nat
 ro:List Nat:=[]
def ofValue:Value→Option PV
 | .int k n=>some (.int k n)
 | .bool b=>some (.bool b)
 | .string s=>some (.str s.data.toList)
 | .slice none 0 0=>some .aH
 | .pointer none=>some (.lit (.pointer none))
 | .map none=>some (.lit (.map none))
 | .nilIface=>some (.lit .nilIface)
 | .nilFunc=>some (.lit .nilFunc)
 |_=>none
theorem DO{E:Env}{v:Value}{pv:PV}(h:ofValue v=some pv):bF E pv v:=by
 unfold ofValue at h;split at h<;>cases h
 ·exact .int _ _
 ·exact .bool _
 ·exact .str _
 ·exact .aH
 all_goals exact .lit _
def ofValues:List Value→Option (List PV)
 |[]=>some []
 |v::vs=>match ofValue v,ofValues vs with
  |some p,some ps=>some (p::ps)
  |_,_=>none
namespace Tbl
variable (T:Tbl)
def opd:Operand→Option aS
 | .tmp t=>some (.tmp t)
 | .const v=>(ofValue v).map .const
 | .func f=>match T.name f with
  |some n=>if T.num n=f then some (.const (.fn n []))else none
  |none=>none
 | .global _=>none
def vb:List Operand→Option (List aS)
 |[]=>some []
 |x::xs=>match T.opd x,vb xs with
  |some p,some ps=>some (p::ps)
  |_,_=>none
def size(t:TypeId):Option Nat:=(T.P.info? t).map (·.size)
def isAgg(t:TypeId):Option Bool:=
 match T.P.underlying t with
 |some (.struct _)|some (.array _ _)=>some true
 |some _=>some false
 |none=>none
def zero(t:TypeId):Option (List PV):=((T.P.info? t).bind (·.zero)).bind λz=>ofValues z.cells.toList
def scalar(t:TypeId):Option Sc:=
 match T.P.underlying t with
 |some (.int _)=>some .int
 |some .bool=>some .bool
 |some .string=>some .str
 |_=>none
def yZ:Nat→List Field→Option (List Sc)
 |_,[]=>some []
 |k,f::e=>match T.scalar f.type,yZ (k+1) e with
  |some c,some cs=>if f.name≠"_"∧f.offset=k then some (c::cs)else none
  |_,_=>none
def flat(t:TypeId):Option (List Sc):=
 match T.P.underlying t with
 |some (.struct e)=>if T.P.stoodInHeld t=false∧T.P.eqGuardType T.P.depth t=false then T.yZ 0 e.toList else none
 |_=>none
def IC(t:TypeId):Option KSh:=
 match T.P.underlying t with
 |some (.int k)=>some (.int k)
 |some .bool=>some .bool
 |some .string=>some .str
 |_=>none
def rB:Nat→List Field→Option (List KSh)
 |_,[]=>some []
 |k,f::e=>match T.IC f.type,rB (k+1) e with
  |some c,some cs=>if f.name≠"_"∧f.offset=k then some (c::cs)else none
  |_,_=>none
def rV(t:TypeId):Option MSh:=
 match T.P.underlying t with
 |some (.struct e)=>if T.P.stoodInHeld t=false then(T.rB 0 e.toList).map λl=>(true,l)else none
 |_=>(T.IC t).map λc=>(false,[c])
def opt(x:Option Operand):Option (Option aS):=
 match x with
 |none=>some none
 |some x=>(T.opd x).map some
def place(e:Array Field)(i:Nat):Option (Nat × Nat):=
 match e[i]? with
 |some f=>(T.size f.type).map (f.offset,·)
 |none=>none
def partsOf(place:Nat→Option (Nat × Nat)):List (Nat × Operand)→Option (List (Nat × Nat × aS))
 |[]=>some []
 |(i,x)::e=>match place i,T.opd x,partsOf place e with
  |some (j,size),some p,some ps=>some ((j,size,p)::ps)
  |_,_,_=>none
def zS:List (Nat × Operand)→Option (List (Nat × aS))
 |[]=>some []
 |(i,x)::e=>match T.opd x,zS e with
  |some p,some ps=>some ((i,p)::ps)
  |_,_=>none
def Hf(d:Option Tmp):Bool:=
 match d with
 |some d=>T.ro.contains d
 |none=>false
def call(o:Oper)(c:Call):Option POp:=
 match c.callee with
 | .builtin b=>match b,c.args.toList,c.argTypes.toList with
  | .len,[x],[t]=>match T.P.underlying t with
   |some (.array n _)=>some (.mv (.const (.int .i64 n)))
   |some .string=>(T.opd x).map .bfM
   |some (.slice _)=>(T.opd x).map .len
   |some (.map _ _)=>(T.opd x).map .lenM
   |_=>none
  | .append,[x,y],[t,u]=>match T.P.underlying t,T.P.underlying u with
   |some (.slice e),some (.slice _)=>match T.P.info? e,T.opd x,T.opd y with
    |some i,some a,some b=>if t=u∧i.zero.isSome∧(i.zero.map (·.cells.size))=some i.size∧0<i.size then some (.append i.size i.bytes a b)else none
    |_,_,_=>none
   |_,_=>none
  | .cap,[x],[t]=>match T.P.underlying t with
   |some (.slice _)=>(T.opd x).map .bfX
   |_=>none
  | .max,[x,y],_=>match T.opd x,T.opd y with
   |some a,some b=>some (.bfG true a b)
   |_,_=>none
  | .min,[x,y],_=>match T.opd x,T.opd y with
   |some a,some b=>some (.bfG false a b)
   |_,_=>none
  |_,_,_=>none
 | .value (.func f)=>match T.name f,T.vb c.args.toList with
  |some n,some xs=>if T.num n=f then some (.call n xs)else none
  |_,_=>none
 | .value (.tmp t)=>(T.vb c.args.toList).map (.bfO (.tmp t))
 |_=>none
def op(o:Oper):Option POp:=
 match o.op with
 | .move x | .assign x=>(T.opd x).map .mv
 | .pick c a b=>match T.opd c,T.opd a,T.opd b with
  |some c,some a,some b=>some (.pick c a b)
  |_,_,_=>none
 | .alloc e=>(T.zero e).map .alloc
 | .box _ x=>(T.opd x).map (.box (T.Hf o.dst))
 | .build t parts=>match T.zero t,T.P.underlying t with
  |some z,some (.struct w)=>if(w.toList.mapM (λf=>(T.P.info? f.type).map λi=>(f.offset,i.size))).isSome then
    (T.partsOf (T.place w) parts.toList).map (.build z)
   else none
  |some z,some (.array _ e)=>match T.size e with
   |some s=>(T.partsOf (λi=>some (i*s,s)) parts.toList).map (.build z)
   |none=>none
  |_,_=>none
 | .buildSlice t len parts=>match T.P.underlying t with
  |some (.slice e)=>match T.size e,T.zero e,T.zS parts.toList with
   |some s,some z,some ps=>if z.length=s∧0<s then some (.beQ (T.Hf o.dst) s len z ps)else none
   |_,_,_=>none
  |_=>none
 | .load t a=>match T.isAgg t,T.size t,T.opd a with
  |some true,some n,some p=>some (.load (some n) p)
  |some false,_,some p=>some (.load none p)
  |_,_,_=>none
 | .store t a x=>match T.size t,T.opd a,T.opd x with
  |some n,some p,some v=>some (.store n p v)
  |_,_,_=>none
 | .nilCheck x=>(T.opd x).map .beY
 | .binOp b t x y _=>match T.opd x,T.opd y with
  |some p,some q=>match b with
   | .eql=>match T.P.underlying t with
    |some (.int _)|some .string=>some (.bin .eql p q)
    |some .bool=>some (.eqb false p q)
    |some (.struct _)=>(T.flat t).map λB=>.eqs false B p q
    |some (.slice _)=>match q with
     | .const .aH=>some (.isNil false p)
     |_=>none
    |_=>none
   | .neq=>match T.P.underlying t with
    |some (.int _)|some .string=>some (.bin .neq p q)
    |some .bool=>some (.eqb true p q)
    |some (.struct _)=>(T.flat t).map λB=>.eqs true B p q
    |some (.slice _)=>match q with
     | .const .aH=>some (.isNil true p)
     |_=>none
    |_=>none
   |b=>some (.bin b p q)
  |_,_=>none
 | .unOp u _ x=>(T.opd x).map (.un u)
 | .convert s d x=>match T.P.underlying s,T.P.underlying d,T.opd x with
  |some (.int _),some (.int k),some p=>some (.conv k p)
  |some .string,some .string,some p=>some (.same p)
  |some (.slice e),some .string,some p=>match T.P.underlying e with
   |some (.int .u8)=>some (.beZ p)
   |_=>none
  |_,_,_=>none
 | .makeFunc (.func f) first captured=>match T.name f,T.vb captured.toList with
  |some n,some cs=>if T.num n=f∧first.size=0 then some (.mkfn n cs)else none
  |_,_=>none
 | .makeMap t none=>match T.P.underlying t with
  |some (.map k _)=>(T.rV k).map .bfT
  |_=>none
 | .lookup t x k ok=>match T.P.underlying t with
  |some (.map A E)=>match T.rV A,(T.P.info? E).bind (·.zero),T.opd x,T.opd k with
   |some sh,some z,some p,some q=>(ofValue z).map λz=>.lookup sh z p q ok
   |_,_,_,_=>none
  |_=>none
 | .mapUpdate t x k v=>match T.P.underlying t with
  |some (.map A _)=>match T.rV A,T.opd x,T.opd k,T.opd v with
   |some sh,some p,some q,some r=>some (.bfD sh p q r)
   |_,_,_,_=>none
  |_=>none
 | .insert t x k v=>match T.P.underlying t with
  |some (.map A _)=>match T.rV A,T.opd x,T.opd k,T.opd v with
   |some sh,some p,some q,some r=>some (.insert sh p q r)
   |_,_,_,_=>none
  |_=>none
 | .makeSlice t l c=>match T.P.underlying t with
  |some (.slice e)=>match T.P.info? e,T.zero e,T.opd l,T.opd c with
   |some i,some z,some a,some b=>if z.length=i.size∧0<i.size then some (.beT i.size i.bytes z a b)else none
   |_,_,_,_=>none
  |_=>none
 | .slice t x lo hi mx=>match T.P.underlying t,T.opd x,T.opt lo,T.opt hi,T.opt mx with
  |some (.slice e),some p,some l,some h,some m=>if mx.isSome=true∧hi.isNone=true then none else(T.size e).map λs=>.slice s p l h m
  |some .string,some p,some l,some h,some none=>some (.bfI p l h)
  |some (.array n e),some p,some none,some none,some none=>(T.size e).map λs=>.sliceA n s p none none none
  |_,_,_,_,_=>none
 | .fieldAddr t x f=>match T.P.underlying t,T.opd x with
  |some (.struct w),some p=>match w[f]? with
   |some j=>match T.size j.type with
    |some (_+1)=>some (.bfP j.offset p)
    |_=>none
   |none=>none
  |_,_=>none
 | .field t x f=>match T.P.underlying t,T.opd x with
  |some (.struct w),some p=>match w[f]? with
   |some j=>match T.isAgg j.type,T.size j.type with
    |some true,some n=>some (.field j.offset (some n) p)
    |some false,_=>some (.field j.offset none p)
    |_,_=>none
   |none=>none
  |_,_=>none
 | .indexAddr t x i=>match T.P.underlying t,T.opd x,T.opd i with
  |some (.slice e),some p,some q=>(T.size e).map λs=>.bfC s p q
  |some (.array n e),some p,some q=>(T.size e).map λs=>.idxA n s p q
  |_,_,_=>none
 | .index t x i=>match T.P.underlying t,T.opd x,T.opd i with
  |some (.array n e),some p,some q=>match T.size e,T.isAgg e with
   |some s,some g=>some (.idxV n s g p q)
   |_,_=>none
  |some .string,some p,some q=>some (.bfN p q)
  |_,_,_=>none
 | .extract x i=>(T.opd x).map (.extract · i)
 | .call c=>T.call o c
 |_=>none
def jl(n:Nat)(ops:Array Oper)(o:Oper):Option bN:=
 let p:=(T.op o).getD .stuck
 if o.dst.all (·<n)then
  match o.guard with
  |none=>some ⟨o.dst,p,none⟩
  |some (j,e)=>match(ops[j]?).bind (·.dst)with
   |some t=>some ⟨o.dst,p,some (t,e)⟩
   |none=>none
 else none
def yE(n:Nat)(ops:Array Oper):List Oper→Option (List bN)
 |[]=>some []
 |o::os=>match T.jl n ops o,yE n ops os with
  |some i,some e=>some (i::e)
  |_,_=>none
end Tbl
end Go.PM
namespace Go.PM
open Go
structure fU(ds:List Deferred)(n:Nat)(E:Env)(F:PF)(a:Act):Prop where
 size:a.tmps.size=n
 defers:a.defers=ds
 t:∀i pv,F i=some pv→bF E pv (a.tmps.getD i undef)
theorem fU.mono{ds:List Deferred}{n:Nat}{E e:Env}(h:E.le e){F:PF}{a:Act}(r:fU ds n E F a):fU ds n e F a:=⟨r.size,r.defers,λi pv hi=>(r.t i pv hi).mono h⟩
theorem fU.weaken{ds:List Deferred}{n:Nat}{E:Env}{F e:PF}{a:Act}(r:fU ds n E F a)(h:e.le F):fU ds n E e a:=⟨r.size,r.defers,λi pv hi=>r.t i pv (h i pv hi)⟩
theorem fU.put{ds:List Deferred}{n:Nat}{E:Env}{F:PF}{a:Act}(r:fU ds n E F a){d:Option Tmp}(l:d.all (·<n)=true){pv:PV}{v:Value}(h:bF E pv v):fU ds n E (F.put d pv) (a.put d v):=by
 cases d with
 |none=>exact r
 |some d=>
  have j:d<n:=by simpa using l
  refine⟨by simp[Act.put,r.size],by simp[Act.put,r.defers],λi u hi=>?_⟩;simp only[PF.put,PF.set,upd]at hi;split at hi
  ·rename_i e;subst e;cases hi;simp only[Act.put,Array.getD_eq_getD_getElem?];rw[Array.getElem?_setIfInBounds];simp[r.size,j,h]
  ·rename_i e;have:=r.t i u hi;simp only[Act.put,Array.getD_eq_getD_getElem?]at this ⊢;rw[Array.getElem?_setIfInBounds,aE Om];exact this
section
variable {ds:List Deferred} {T:Tbl} {n:Nat} {E:Env} {F:PF} {H:PH} {a:Act} {w:World}
theorem bQ{x:Operand}{p:aS}{pv:PV}(e:T.opd x=some p)(l:p.ev F=some pv)(u:fU ds n E F a)(y:E.num=T.num):bF E pv (a.eval x):=by
 cases x with
 |tmp t =>simp[Tbl.opd]at e;subst e;exact u.t t pv l
 |const v =>simp only[Tbl.opd,bgM]at e;obtain⟨q,hq,rfl⟩:=e;simp[aS.ev]at l;subst l;exact DO hq
 |global g=>simp[Tbl.opd]at e
 |func f=>
  simp only[Tbl.opd]at e;split at e
  ·rename_i m B;split at e
   ·rename_i A;cases e;simp[aS.ev]at l;subst l;have:=bF.fn (E:=E) (name:=m) (captured:=[]) #[] rfl (by intro j pv v h;simp at h);rw[y,A]at this;exact this
   ·cases e
  ·cases e
theorem GO{xs:List Operand}:∀{ps:List aS}{e:List PV},T.vb xs=some ps→aS.evs F ps=some e→fU ds n E F a→E.num=T.num→iH E e (xs.map a.eval):=by
 induction xs with
 |nil =>intro ps e j l _ _;simp[Tbl.vb]at j;subst j;simp[aS.evs]at l;subst l;exact .nil
 |cons x xs K=>
  intro ps e j l A B;simp only[Tbl.vb]at j;split at j
  ·rename_i p M I u;cases j;simp only[aS.evs]at l;split at l
   ·rename_i v vs J y;cases l;exact .cons (bQ I J A B) (K u y A B)
   ·cases l
  ·cases j
theorem cS.arP(hW:cS E H w){b e:Nat}{u:Value}(h:E.cell b e=some u):w.cell? ⟨b,e,none⟩=some u:=by
 unfold Env.cell at h;cases j:E.G b with
 |none=>simp[j]at h
 |some cs =>obtain⟨-,ty,l,x⟩:=hW.g b cs j;rw[cell_of_row w b e cs ty l x];simpa[j]using h
theorem add_plain(b e i:Nat):(⟨b,e,none⟩:Addr).add i=⟨b,e+i,none⟩:=by unfold Addr.add;split<;>simp_all
theorem uI{e:Addr}(h:e.spot=none):e=⟨e.block,e.off,none⟩:=by cases e;simp_all
theorem vP{pv:PV}{v:Value}(hW:cS E H w)(Z:bF E pv v){k:Nat}{cs:List PV}(h:loadCells H pv k=some cs) :
  ∃b K,v=.pointer (some ⟨b,K,none⟩)∧Z' cs=k∧∃M:List Value,Z' M=k∧(∀u∈M,u.oneCell'=true) ∧
   (∀(j:Nat) u,M[j]?=some u→w.cell? ⟨b,K+j,none⟩=some u)∧∀(j:Nat) q u,cs[j]?=some q→M[j]?=some u→bF E q u:=by
 unfold loadCells at h;split at h
 ·rename_i o size i c;cases Z;split at h
  ·rename_i s rs ho;split at h
   ·rename_i hs;subst hs;split at h
    ·rename_i r R;split at h
     ·rename_i α;cases h;obtain⟨-,B,ty,hh,γ,Y,X,N⟩:=hW.h o _ ho;have J:∀j,j<k→∃u,B[i*s+(c+j)]?=some u∧u.oneCell'=true∧bF E (r.getD (c+j) .junk) u:=by intro j W;refine N i (c+j) _ ?_;simp only[at2,R,bjX,bgF];rw[bgH Om];rfl
      refine⟨o,i*s+c,rfl,by simp;omega,?_⟩;refine⟨(bfZ k).map λj=>(B[i*s+(c+j)]?).getD undef,by simp,?_,?_,?_⟩
      ·intro u y;simp only[bhC,bgW]at y;obtain⟨j,W,rfl⟩:=y;obtain⟨u,I,h2,-⟩:=J j W;simp[I,h2]
      ·intro j u y;simp only[bgT,bgM]at y;obtain⟨U,e,rfl⟩:=y;have l:j<k:=by
        rcases bgV j k with h|h
        ·exact h
        ·rw[bhQ (by simpa using h)]at e;cases e
       rw[biH l]at e;cases e;obtain⟨u,I,-,-⟩:=J j l;rw[cell_of_row w o _ B ty (0,0) hh,biV,I];rfl
      ·intro j q u hq y;simp only[bgT,bgM]at y;obtain⟨U,e,rfl⟩:=y;have l:j<k:=by
        rcases bgV j k with h|h
        ·exact h
        ·rw[bhQ (by simpa using h)]at e;cases e
       rw[biH l]at e;cases e;obtain⟨u,I,-,h3⟩:=J j l;have O:r.getD (c+j) .junk=q:=by rw[biY,aL l,bjO]at hq;simp[hq]
       rw[←O,I];exact h3
     ·cases h
    ·cases h
   ·cases h
  ·cases h
 ·rename_i cells;cases Z with
  |bE u S N I R=>
  rename_i V;split at h
  ·rename_i β;cases h;refine⟨V.block,V.off,by rw[←uI S],by simp;omega,(bfZ k).map u,by simp,?_,?_,?_⟩
   ·intro x A;simp only[bhC]at A;obtain⟨j,-,rfl⟩:=A;exact I j
   ·intro j x A;simp only[bgT,bgM]at A;obtain⟨U,e,rfl⟩:=A;have l:j<k:=by
     rcases bgV j k with h|h
     ·exact h
     ·rw[bhQ (by simpa using h)]at e;cases e
    rw[biH l]at e;cases e;exact hW.arP (N j _ (bgH Om))
   ·intro j q x hq A;simp only[bgT,bgM]at A;obtain⟨U,e,rfl⟩:=A;have l:j<k:=by
     rcases bgV j k with h|h
     ·exact h
     ·rw[bhQ (by simpa using h)]at e;cases e
    rw[biH l]at e;cases e;rw[biY,aL l]at hq;exact R j q hq
  ·cases h
 ·cases h
theorem aLU {op : BinOp} {px py pv : PV} {x y : Value} (hx : bF E px x) (hy : bF E py y) (h : PV.bin op px py = some pv) (t : TypeId) (ox oy : Operand) :
    ∃ v, (do eqGuard op t ox oy x y; binOp op t x y : Sem Value).run T.P w = .ok v w ∧ bF E pv v := by
  unfold PV.bin at h;split at h
  · cases hx; cases hy
    unfold shift at h;split at h
    · cases h
    · rename_i hb
      cases h;exact ⟨_, by simp [eqGuard, binOp, Op.shift, hb], .int _ _⟩
  · cases hx; cases hy
    unfold shift at h;split at h
    · cases h
    · rename_i hb
      cases h;exact ⟨_, by simp [eqGuard, binOp, Op.shift, hb], .int _ _⟩
  · rename_i op' k a k' b n1 n2
    cases hx; cases hy;split at h
    · rename_i hk
      subst hk;cases op <;> simp only [rQ] at h <;>
        first
          | (cases h; refine ⟨_, ?_, bF.int _ _⟩; simp [eqGuard, binOp, Op.intArith, Op.intBits]; done)
          | (cases h; refine ⟨_, ?_, bF.bool _⟩; simp [eqGuard, binOp, Op.intCmp]; done)
          | (split at h
             · cases h
             · rename_i hb
               cases h;refine ⟨_, ?_, bF.int _ _⟩;simp [eqGuard, binOp, Op.intDiv, hb])
          | cases h
    · cases h
  · rename_i op' a b
    cases hx with
    | str s =>
    cases hy with
    | str s' =>
    cases op <;> simp only [ZM] at h <;>
      first
        | (cases h; refine ⟨_, ?_, bF.bool _⟩; simp [eqGuard, binOp, Op.stringOp, ByteArray.toList_eq]; done)
        | (split at h
           · cases h
           · rename_i hb
             cases h;refine ⟨.string (s ++ s'), ?_, ?_⟩
             · have hb' : ¬ (((s.size + s'.size : Nat) : Int) > IntKind.i64.max) := by
                 intro hh;apply hb;have e1 : s.data.toList.length = s.size := by rw [bjD]; rfl
                 have e2 : s'.data.toList.length = s'.size := by rw [bjD]; rfl
                 rw [e1, e2];exact hh
               have e1 : Op.stringOp .add s s' = pure (.string (s ++ s')) := by unfold Op.stringOp; exact aE hb'
               have e2 : binOp .add t (.string s) (.string s') = pure (.string (s ++ s')) := by unfold binOp; exact e1
               simp [eqGuard, e2]
             · have e : s.data.toList ++ s'.data.toList = (s ++ s').data.toList := by rw [ByteArray.data_append, Array.toList_append]
               rw [e];exact .str _)
        | cases h
  · cases h
theorem aXZ{u:UnOp}{j pv:PV}{x:Value}(e:bF E j x)(h:PV.un u j=some pv):∃v,(Op.unary u x).run T.P w=.ok v w∧bF E pv v:=by
 unfold PV.un at h;split at h
 ·cases e;split at h
  ·cases h;exact⟨_,by simp[Op.unary,Op.intArith],.int _ _⟩
  ·cases h;exact⟨_,by simp[Op.unary,Op.intBits],.int _ _⟩
  ·cases h
 ·cases e;split at h
  ·cases h;exact⟨_,by simp[Op.unary],.bool _⟩
  ·cases h
 ·cases h
end
open Go Go.RowKit
def Yields(P:Program)(E:Env)(H:PH)(w:World)(s:Sem Value)(pv:PV):Prop:=
 ∃v j e,s.run P w=.ok v j∧bF e pv v∧cS e H j∧Ext E H w e H j
theorem Yields.same{P:Program}{E:Env}{H:PH}{w:World}{s:Sem Value}{pv:PV}{v:Value}(hW:cS E H w)(h:s.run P w=.ok v w)(r:bF E pv v):Yields P E H w s pv:=
 ⟨v,w,E,h,r,hW,.refl E H w⟩
def Env.add(E:Env)(b:Nat)(cs:Array Value):Env:=⟨upd E.G b (some cs),upd E.sz b (some cs.size),E.num⟩
section
variable {T:Tbl} {n:Nat} {E:Env} {F:PF} {H:PH} {a:Act} {w:World}
theorem cS.aGV(hW:cS E H w){b:Nat}{cs:Array Value}(h:E.G b=some cs):b<w.heap.size:=by
 obtain⟨-,ty,j,e⟩:=hW.g b cs h;exact(bkE.1 e).1
theorem cS.aiN(hW:cS E H w){b n:Nat}(h:E.sz b=some n):b<w.heap.size:=by
 obtain⟨e,ty,l,j,-⟩:=hW.s b n h;exact(bkE.1 j).1
theorem cS.aHP(hW:cS E H w):H w.heap.size=none:=by
 cases h:H w.heap.size with
 |none=>rfl
 |some x=>have:=(hW.h _ x h).1;omega
theorem Env.a5M(hW:cS E H w)(cs:Array Value):E.le (E.add w.heap.size cs):=by
 refine⟨λb ds h=>?_,λb m h=>?_,rfl⟩
 ·have:=hW.aGV h;simp only[Env.add];rw[gw _ _ Om];exact h
 ·have:=hW.aiN h;simp only[Env.add];rw[gw _ _ Om];exact h
theorem cS.aZF(hW:cS E H w)(cs:Array Value)(ty:TypeId):cS (E.add w.heap.size cs) H (w.alloc (.cells cs ty))∧Ext E H w (E.add w.heap.size cs) H (w.alloc (.cells cs ty)):=by
 have y:=Env.a5M hW cs;refine⟨⟨λb ds h=>?_,λo x h=>?_,λo m h=>?_⟩,⟨y,rfl,rfl,rfl,by simp,λb hb _=>Below.heap_alloc w _ b hb,λo x h=>.inl ⟨x,h⟩,λb ds h=>?_⟩⟩
 ·simp only[Env.add,upd]at h;split at h
  ·rename_i e;cases h;subst e;exact⟨λx I=>by(rw[hW.aHP]at I;cases I),ty,(0,0),heap_alloc_new w _⟩
  ·obtain⟨l,j,B,u⟩:=hW.g b ds h;exact⟨l,j,B,(Below.heap_alloc w _ b (hW.aGV h)).trans u⟩
 ·obtain⟨l,u⟩:=hW.h o x h;exact⟨by simp;omega,u.mono y (Below.heap_alloc w _ o l)⟩
 ·simp only[Env.add,upd]at h;split at h
  ·rename_i e;cases h;subst e;exact⟨cs,ty,(0,0),heap_alloc_new w _,rfl⟩
  ·obtain⟨A,j,B,l,u⟩:=hW.s o m h;exact⟨A,j,B,(Below.heap_alloc w _ o (hW.aiN h)).trans l,u⟩
 ·simp only[Env.add,upd]at h;split at h
  ·rename_i e;exact .inr (.inr Om)
  ·exact .inl h
theorem aJA{pv:PV}{v:Value}(h:bF E pv v)(e:pv.one=true):v.oneCell'=true:=by
 cases h with
 |lit v=>cases v<;>first|rfl|(simp[PV.one]at e)
 |junk v=>simp[PV.one]at e
 |agg vs=>simp[PV.one]at e
 |tup vs=>simp[PV.one]at e
 |_=>rfl
theorem EA{pv:PV}{v:Value}(h:bF E pv v)(x:pv.cells.all PV.one=true) :
  v.cells.size=Z' pv.cells∧(∀u∈v.cells.toList,u.oneCell'=true)∧∀(j:Nat) q u,pv.cells[j]?=some q→v.cells[j]?=some u→bF E q u:=by
 by_cases e:∃cs,pv=.agg cs
 ·obtain⟨cs,rfl⟩:=e;cases h with
  |agg vs B l I=>exact⟨B,l,I⟩
 ·have A:pv.cells=[pv]:=by cases pv<;>first|rfl|(exact absurd ⟨_,rfl⟩ e)
  rw[A]at x ⊢;have l:v.oneCell'=true:=aJA h (by simpa using x);have J:v.cells=#[v]:=by cases v<;>first|rfl|(simp[Value.oneCell']at l)
  rw[J];refine⟨rfl,by simpa using l,λj q u hq y=>?_⟩;cases j with
  |zero=>simp at hq y;subst hq;subst y;exact h
  |succ j=>simp at hq
theorem Jz{c:Sc}{p q:PV}{x y:Value}(u:bF E p x)(A:bF E q y){b:Bool}(h:PV.eq1 c p q=some b){t:TypeId}(j:T.scalar t=some c)(d:Nat) :
  (Op.equalIn (d+1) t x y).run T.P w=.ok b w:=by
 unfold Tbl.scalar at j;unfold PV.eq1 at h;split at h
 ·cases u;cases A;split at h
  ·rename_i e;subst e;cases h;split at j<;>cases j;rename_i k2 l;exact run_equalIn_int w d t _ k2 _ _ l
  ·cases h
 ·cases u;cases A;cases h;split at j<;>cases j;rename_i l;exact run_equalIn_bool w d t _ _ l
 ·cases u with
  |str s=>
  cases A with
  |str s'=>
  cases h;split at j<;>cases j;rename_i l;rw[run_equalIn_string w d t s s' l,ByteArray.toList_eq,ByteArray.toList_eq]
 ·cases h
theorem VL{t:TypeId}{c:Sc}(j:T.scalar t=some c)(cs:Array Value)(k:Nat)(v:Value)(l:cs[k]?=some v):(part t cs k).run T.P w=.ok v w:=by
 have e:(isAgg t).run T.P w=.ok false w:=by unfold Tbl.scalar at j;split at j<;>cases j<;>(rename_i u;simp[isAgg,run_underlying u])
 simp[part,e,l]
theorem ZY(d:Nat)(vs A:Array Value):∀(B:List Field)(J:List Sc)(k:Nat)(xs l:List PV)(b:Bool),T.yZ k B=some J→PV.eqs J xs l=some b →
  (∀(j:Nat) q u,xs[j]?=some q→vs[k+j]?=some u→bF E q u)→(∀(j:Nat) q u,l[j]?=some q→A[k+j]?=some u→bF E q u) →
  vs.size=k+Z' xs→A.size=k+Z' l→(Op.eqFields (d+1) vs A B).run T.P w=.ok b w
 |[],J,k,xs,l,b,e,he,N,O,R,S=>by simp[Tbl.yZ]at e;subst e;cases xs<;>cases l<;>simp[PV.eqs]at he;subst he;simp[Op.eqFields]
 |f::B,J,k,xs,l,b,e,he,N,O,R,S=>by
  simp only[Tbl.yZ]at e;split at e
  ·rename_i c cs I M;split at e
   ·rename_i U;cases e;cases xs with
    |nil=>simp[PV.eqs]at he
    |cons x xs=>
    cases l with
    |nil=>simp[PV.eqs]at he
    |cons y l=>
    simp only[PV.eqs]at he;simp only[bhT]at R S;have Y:vs[k]?=some vs[k]:=bjY Om;have X:A[k]?=some A[k]:=bjY Om;have V:bF E x vs[k]:=N 0 x _ rfl aY;have W:bF E y A[k]:=O 0 y _ rfl aY;simp only[Op.eqFields];rw[aL U.1];simp only[Sem.run_bind,U.2,VL I vs k _ Y,VL I A k _ X,Result.andThen_ok];split at he
    ·rename_i K;rw[Jz V W K I d];simp only[Result.andThen_ok,bgJ,bjE,if_false];refine ZY d vs A B cs (k+1) xs l b M he (λj q u a c=>N (j+1) q u (by simpa using a) (by rw[←c];congr 1;omega)) (λj q u a c=>O (j+1) q u (by simpa using a) (by rw[←c];congr 1;omega)) Om Om
    ·rename_i K;rw[Jz V W K I d];simp only[Result.andThen_ok,bgS,if_true,Sem.run_pure];split at he
     ·cases he;rfl
     ·cases he
    ·cases he
   ·cases e
  ·cases e
theorem aMJ(neg:Bool)(a b:Bool){t:TypeId}(j l:Operand)(e:T.P.underlying t=some .bool) :
  (do eqGuard (if neg then .neq else .eql) t j l (.bool a) (.bool b);binOp (if neg then .neq else .eql) t (.bool a) (.bool b):Sem Value).run T.P w=.ok (.bool ((a==b) != neg)) w:=by
 cases neg
 ·simp[eqGuard,run_eql_bool w t a b e]
 ·simp[eqGuard,run_neq_bool w t a b e]
theorem aqK(neg:Bool){pv:PV}{v:Value}(J:bF E pv v){b:Bool}(hb:pv.QU=some b){t e:TypeId}(x y:Operand)(u:T.P.underlying t=some (.slice e)) :
  (do eqGuard (if neg then .neq else .eql) t x y v (.slice none 0 0);binOp (if neg then .neq else .eql) t v (.slice none 0 0):Sem Value).run T.P w=.ok (.bool (b != neg)) w:=by
 have j:∀(a:Option Addr)(l c:Nat),b=a.isNone→v=.slice a l c→(do eqGuard (if neg then .neq else .eql) t x y v (.slice none 0 0);binOp (if neg then .neq else .eql) t v (.slice none 0 0):Sem Value).run T.P w=.ok (.bool (b != neg)) w:=by
  intro a l c A B;subst A B;cases neg
  ·simp only[bjE,if_false,binOp];simp[eqGuard,run_equal_slice_nil w t e a l c u]
  ·simp only[if_true,binOp];simp[eqGuard,run_equal_slice_nil w t e a l c u]
 cases J<;>simp only[PV.QU]at hb<;>try cases hb
 ·exact j _ _ _ rfl rfl
 ·rename_i rows _ _ _ _ _ _ I _ _;cases rows with
  |nil=>cases hb
  |cons r rs =>cases hb;obtain⟨K,rfl,-⟩:=I aY;exact j _ _ _ rfl rfl
 ·exact j _ _ _ rfl rfl
theorem aGK(neg:Bool){M:List Sc}{xs R:List PV}{x y:Value}(Y:bF E (.agg xs) x)(Z:bF E (.agg R) y){b:Bool}(hb:PV.eqs M xs R=some b){t:TypeId}(N O:Operand)
  (e:T.flat t=some M):(do eqGuard (if neg then .neq else .eql) t N O x y;binOp (if neg then .neq else .eql) t x y:Sem Value).run T.P w=.ok (.bool (b != neg)) w:=by
 cases Y with
 |agg vs V ho X=>
 cases Z with
 |agg A J W K=>
 unfold Tbl.flat at e;split at e
 ·rename_i S U;split at e
  ·rename_i I;have l:T.P.fieldsOf t=S:=by simp[Program.fieldsOf,U]
   have he:=ZY (w:=w) 9998 vs A S.toList M 0 xs R b e hb (λj q u a c=>X j q u a (by simpa using c)) (λj q u a c=>K j q u a (by simpa using c)) (by simpa using V) (by simpa using J);have B:=run_equalIn_struct w 9999 t vs A (by rw[l];exact U) I.1;rw[l,he]at B;cases neg
   ·simp[run_eqGuard_agg w .eql t N O vs A I.2,run_eql_struct,B]
   ·simp[run_eqGuard_agg w .neq t N O vs A I.2,run_neq_struct,B]
  ·cases e
 ·cases e
end
open Go Go.RowKit
def tL(E:Env)(cs:List PV)(vs:Array Value):Prop:=
 vs.size=Z' cs∧(∀v∈vs.toList,v.oneCell'=true)∧∀(j:Nat) pv v,cs[j]?=some pv→vs[j]?=some v→bF E pv v
def wr(vs:Array Value)(c:Nat):List Value→Array Value
 |[]=>vs
 |u::e=>wr (vs.setIfInBounds c u) (c+1) e
theorem VZ(e:Nat):∀(j:List Value)(k:Nat)(vs:Array Value),(j.zipIdx k).foldl (λcs (x:Value × Nat)=>cs.setIfInBounds (e+x.2) x.1) vs=wr vs (e+k) j
 |[],_,_=>rfl
 |u::j,k,vs=>by simp only[List.zipIdx_cons,List.foldl_cons,wr];rw[VZ e j (k+1)];rfl
theorem LX:∀(ps:List PV)(c:Nat)(r:List PV),(setCells r c ps).length=Z' r
 |[],_,_=>rfl
 |p::ps,c,r=>by simp[setCells,LX ps]
theorem tL.bcB{E:Env}{cs:List PV}{vs:Array Value}(h:tL E cs vs){c:Nat}{p:PV}{u:Value}(r:bF E p u)(y:u.oneCell'=true):tL E (cs.set c p) (vs.setIfInBounds c u):=by
 obtain⟨A,B,I⟩:=h;refine⟨by simp[A],λv l=>?_,λj pv v x l=>?_⟩
 ·simp only[Array.toList_setIfInBounds]at l;rcases List.mem_or_eq_of_mem_set l with l|rfl
  ·exact B v l
  ·exact y
 ·rw[bjT]at x;rw[Array.getElem?_setIfInBounds]at l;split at x
  ·rename_i e;subst e;rw[aL rfl]at l;split at x
   ·rename_i J;rw[aL Om]at l;cases x;cases l;exact r
   ·cases x
  ·rename_i e;rw[aE e]at l;exact I j pv v x l
theorem tL.setCells{E:Env}:∀(ps:List PV)(e:List Value)(c:Nat)(cs:List PV)(vs:Array Value),tL E cs vs→Z' e=Z' ps→(∀u∈e,u.oneCell'=true) →
  (∀(j:Nat) p u,ps[j]?=some p→e[j]?=some u→bF E p u)→tL E (setCells cs c ps) (wr vs c e)
 |[],[],_,_,_,h,_,_,_=>h
 |p::ps,u::e,c,cs,vs,h,l,y,A=>by simp only[PM.setCells,wr];exact tL.setCells ps e (c+1) _ _ (h.bcB (A 0 p u rfl rfl) (y u aY)) (by simpa using l) (λx B=>y x (by simp[B])) (λj q x a b=>A (j+1) q x (by simpa using a) (by simpa using b))
 |[],u::e,_,_,_,_,l,_,_=>by simp at l
 |p::ps,[],_,_,_,_,l,_,_=>by simp at l
theorem di{E:Env}:∀{vs:List Value}{ps:List PV},ofValues vs=some ps→Z' ps=Z' vs∧∀(j:Nat) p v,ps[j]?=some p→vs[j]?=some v→bF E p v
 |[],ps,h=>by simp[ofValues]at h;subst h;simp
 |v::vs,ps,h=>by
  simp only[ofValues]at h;split at h
  ·rename_i p y x hq;cases h;obtain⟨e,l⟩:=di (E:=E) hq;refine⟨by simp[e],λj q u a b=>?_⟩;cases j with
   |zero=>simp at a b;subst a;subst b;exact DO x
   |succ j=>exact l j q u (by simpa using a) (by simpa using b)
  ·cases h
theorem dh:∀{vs:List Value}{ps:List PV},ofValues vs=some ps→∀v∈vs,v.oneCell'=true
 |[],_,_,v,hv=>by simp at hv
 |u::vs,ps,h,v,hv=>by
  simp only[ofValues]at h;split at h
  ·rename_i p j e hq;rcases bgN.1 hv with rfl|hv
   ·unfold ofValue at e;split at e<;>first|rfl|cases e
   ·exact dh hq v hv
  ·cases h
section
variable {ds:List Deferred} {T:Tbl} {n:Nat} {E:Env} {F:PF} {H:PH} {a:Act} {w:World}
theorem XZ{t:TypeId}{z:List PV}(h:T.zero t=some z):∃i e,T.P.info? t=some i∧i.zero=some e∧tL E z e.cells:=by
 unfold Tbl.zero at h;cases hi:T.P.info? t with
 |none=>simp[hi]at h
 |some i=>
  cases l:i.zero with
  |none=>simp[hi,l]at h
  |some e =>simp only[hi,l,bjX]at h;obtain⟨u,x⟩:=di (E:=E) h;exact⟨i,e,rfl,l,by simpa using u.symm,dh h,λj p v a b=>x j p v a (by simpa using b)⟩
theorem SG{place:Nat→Option (Nat × Nat)}(M:fU ds n E F a)(N:E.num=T.num):∀(parts:List (Nat × Operand)) (pl:List (Nat × Nat × aS)) (cs out:List PV) (vs:Array Value),
  T.partsOf place parts=some pl→xA cs F pl=some out→tL E cs vs→∃I,Instr.fill place vs (parts.map λ(i,x)=>(i,a.eval x))=some I∧tL E out I
 |[],pl,cs,out,vs,y,e,B=>by simp[Tbl.partsOf]at y;subst y;simp[xA]at e;subst e;exact⟨vs,rfl,B⟩
 |(i,x)::A,pl,cs,out,vs,y,e,B=>by
  simp only[Tbl.partsOf]at y;split at y
  ·rename_i l size p ps U X J;cases y;simp only[xA]at e;split at e
   ·rename_i v W;split at e
    ·rename_i S;obtain⟨K,O,R⟩:=EA (bQ X W M N) S.2.2;obtain⟨I,g1,g2⟩:=SG M N A ps _ out _ J e (tL.setCells v.cells (a.eval x).cells.toList l cs vs B (by simpa using K) O (λj q u hq V=>R j q u hq (by simpa using V)));refine⟨I,?_,g2⟩;simp only[bhJ,Instr.fill,U];rw[aE (by simp;rw[K,B.1];omega)];have Y:Array.foldl (λ(cs:Array Value)(x:Value × Nat)=>cs.setIfInBounds (l+x.2) x.1) vs (a.eval x).cells.zipIdx=wr vs l (a.eval x).cells.toList:=by rw[←Array.foldl_toList,Array.toList_zipIdx];exact VZ l _ 0 vs
     exact Y ▸ g1
    ·cases e
   ·cases e
  ·cases y
theorem agK(j:Array Field)(e:List (Nat × Nat))(h:j.toList.mapM (λf=>(T.P.info? f.type).map λi=>(f.offset,i.size))=some e)(i:Nat) :
  e[i]?=T.place j i:=by
 have u:∀(l:List Field)(ps:List (Nat × Nat)) (i:Nat),l.mapM (λf=>(T.P.info? f.type).map λi=>(f.offset,i.size))=some ps →
   ps[i]?=match l[i]? with|some f=>(T.size f.type).map (f.offset,·)|none=>none:=by
  intro l
  induction l with
  |nil=>intro ps i h;simp at h;subst h;simp
  |cons f l y=>
   intro ps i h;simp only[List.mapM_cons,Option.bind_eq_bind,Option.pure_def,bjW]at h;obtain⟨p,x,A,hq,h⟩:=h;cases h;cases i with
   |zero =>simp only[List.getElem?_cons_zero,Tbl.size];rw[←x];cases T.P.info? f.type<;>rfl
   |succ i=>simpa using y A i hq
 have:=u j.toList e i h;rw[this,Array.getElem?_toList];unfold Tbl.place;cases j[i]?<;>rfl
end
open Go Go.RowKit
section
variable {ds:List Deferred} {T:Tbl} {n:Nat} {E:Env} {F:PF} {H:PH} {a:Act} {w:World}
theorem kk{t:TypeId}{parts:Array (Nat × Operand)}{z:List PV}{pl:List (Nat × Nat × aS)}{out:List PV}(Y:T.zero t=some z)
  (X:(∃B:Array Field,T.P.underlying t=some (.struct B)∧(B.toList.mapM (λf=>(T.P.info? f.type).map λi=>(f.offset,i.size))).isSome=true∧T.partsOf (T.place B) parts.toList=some pl) ∨
   (∃k e s,T.P.underlying t=some (.array k e)∧T.size e=some s∧T.partsOf (λi=>some (i*s,s)) parts.toList=some pl))
  (V:xA z F pl=some out) (S:fU ds n E F a) (U:E.num=T.num) :
  ∃v,(Instr.build t (parts.map λ(i,x)=>(i,a.eval x))).run T.P w=.ok v w∧bF E (.agg out) v:=by
 obtain⟨it,zv,I,J,M⟩:=XZ (E:=E) Y;rcases X with⟨B,R,W,y⟩|⟨k,e,s,R,hs,y⟩
 ·obtain⟨j,K⟩:=Option.isSome_iff_exists.1 W;obtain⟨A,N,l⟩:=SG S U _ _ _ _ _ y V M;refine⟨.agg A,run_build w t _ A ?_,.agg A l.1 l.2.1 l.2.2⟩;simp only[Program.built,I,R,J,K];have O:(λ(x:Nat)=>j.toArray[x]?)=T.place B:=by funext i;rw[List.getElem?_toArray];exact agK B j K i
  simp only[Array.toList_map];rw[O];exact N
 ·obtain⟨A,N,l⟩:=SG S U _ _ _ _ _ y V M;refine⟨.agg A,run_build w t _ A ?_,.agg A l.1 l.2.1 l.2.2⟩;unfold Tbl.size at hs;cases u:T.P.info? e with
  |none=>simp[u]at hs
  |some Z =>simp[u]at hs;subst hs;simp only[Program.built,I,R,J,u,Array.toList_map];exact N
theorem P0{t:TypeId}{s:Nat}(h:T.size t=some s):∃i,T.P.info? t=some i∧i.size=s:=by
 unfold Tbl.size at h;cases hi:T.P.info? t with
 |none=>simp[hi]at h
 |some i=>exact⟨i,rfl,by simpa[hi]using h⟩
theorem oC{t:TypeId}{s:Nat}(h:T.size t=some s):(sizeOf t).run T.P w=.ok s w:=by
 obtain⟨i,hi,rfl⟩:=P0 h;simp[sizeOf,typeInfo,hi]
theorem GW{t:TypeId}{b:Bool}(h:T.isAgg t=some b):(isAgg t).run T.P w=.ok b w:=by
 unfold Tbl.isAgg at h;split at h
 ·rename_i e;cases h;simp[isAgg,run_underlying e]
 ·rename_i e;cases h;simp[isAgg,run_underlying e]
 ·rename_i d j l e;cases h;cases d<;>first
   |exact(j _ rfl).elim
   |exact(l _ _ rfl).elim
   |(simp[isAgg,run_underlying e];done)
 ·cases h
theorem An{t:TypeId}{pv e:PV}{v:Value}(y:T.isAgg t=some false)(hW:cS E H w)(A:bF E pv v)(h:loadCells H pv 1=some [e]) :
  ∃u,(Instr.loadAt t v).run T.P w=.ok u w∧bF E e u:=by
 obtain⟨b,B,rfl,-,I,l,J,j,x⟩:=vP hW A h
 match I,l with
 |[u],_ =>refine⟨u,?_,x 0 e u rfl rfl⟩;have:=j 0 u rfl;simp only[bhL]at this;simp[Instr.loadAt,Instr.sureAddr,loadVar,GW y,this]
theorem l6{t:TypeId}{k:Nat}{pv:PV}{cs:List PV}{v:Value}(N:T.isAgg t=some true)(M:T.size t=some k)(hW:cS E H w)(O:bF E pv v)(h:loadCells H pv k=some cs) :
  ∃u,(Instr.loadAt t v).run T.P w=.ok u w∧bF E (.agg cs) u:=by
 obtain⟨b,y,rfl,l,A,B,I,J,K⟩:=vP hW O h;have e:=run_loadCells_list (P:=T.P) w ⟨b,y,none⟩ A (λj u x=>by rw[add_plain];exact J j u x);refine⟨.agg A.toArray,?_,.agg A.toArray (by simp[B,l]) (by simpa using I) (λj q u hq x=>K j q u hq (by simpa using x))⟩;rw[B]at e;simp[Instr.loadAt,Instr.sureAddr,loadVar,GW N,oC M,e]
end
open Go Go.RowKit
section
variable {ds:List Deferred} {T:Tbl} {n:Nat} {E:Env} {F:PF} {H:PH} {a:Act} {w:World}
theorem zb{t e:TypeId}(h:T.P.underlying t=some (.slice e)):T.P.elem t=e∧T.P.underlying t=some (.slice (T.P.elem t)):=by
 have:T.P.elem t=e:=by simp[Program.elem,h]
 exact⟨this,by rw[this];exact h⟩
theorem aGJ{t e:TypeId}{k:Nat}(h:T.P.underlying t=some (.array k e)):T.P.elem t=e∧T.P.arrayLen t=k∧T.P.underlying t=some (.array (T.P.arrayLen t) (T.P.elem t)):=by
 have j:T.P.elem t=e:=by simp[Program.elem,h]
 have l:T.P.arrayLen t=k:=by simp[Program.arrayLen,h]
 exact⟨j,l,by rw[j,l];exact h⟩
theorem Pi{cs:List PV}{b e:Nat}(h:bF E (.bE cs) (.pointer (some ⟨b,e,none⟩)))(d:Nat):bF E (.bE (cs.drop d)) (.pointer (some ⟨b,e+d,none⟩)):=by
 cases h with
 |bE u B y x A =>refine .bE (λj=>u (d+j)) rfl (λj pv l=>?_) (λj=>x _) (λj pv l=>A (d+j) pv (by rw[←l,bjO]));have:=y (d+j) pv (by rw[←l,bjO]);simp only at this ⊢;rw[←this];congr 1;omega
theorem ef{cs:List PV}{v:Value}(h:bF E (.bE cs) v):∃b j,v=.pointer (some ⟨b,j,none⟩):=by
 cases h with
 |bE u e y x A=>rename_i l;exact⟨l.block,l.off,by rw[←uI e]⟩
theorem a1M{t e:TypeId}{s:Nat}{rows:List (List PV)}{v:Value}{k:IntKind}{i:Int}{r:List PV}(W:T.P.underlying t=some (.slice e))(V:T.size e=some s)
  (X:bF E (.sl s rows) v) (M:0≤i) (x:rows[i.toNat]?=some r):∃u,(Instr.indexAt t v (.int k i)).run T.P w=.ok u w∧bF E (.bE r) u:=by
 obtain⟨N,O⟩:=zb W;cases X with
 |sl u I J K R U l=>
 rename_i Y cap;have hlt:i.toNat<Z' rows:=by
  rcases bgV i.toNat rows.length with h|h
  ·exact h
  ·rw[bhQ h]at x;cases x
 obtain⟨B,rfl,A,S⟩:=R (by intro h;subst h;simp at hlt);rw[uI A];refine⟨.pointer (some ⟨B.block,B.off+i.toNat*s,none⟩),?_,?_⟩
 ·rw[run_indexAt_slice w t _ _ _ _ _ O,aL ⟨M,by omega⟩,N,oC V,Result.andThen_ok,add_plain]
 ·refine .bE (u i.toNat) rfl (λj pv y=>?_) (λj=>U _ _) (λj pv y=>l i.toNat j pv (by simp[at2,x,y]));simpa using S i.toNat j pv (by simp[at2,x,y])
theorem aUG{t e:TypeId}{o s j len:Nat}{v:Value}{k:IntKind}{i:Int}(S:T.P.underlying t=some (.slice e))(O:T.size e=some s)
  (U:bF E (.osl o s j len) v) (K:0≤i) (hi:i<len):∃u,(Instr.indexAt t v (.int k i)).run T.P w=.ok u w∧bF E (.ptr o s (j+i.toNat) 0) u:=by
 obtain⟨M,N⟩:=zb S;cases U with
 |osl hb R l I J V B=>
 rename_i cap m x;have A:x.off=j*s:=by
  rcases l with h|h
  ·omega
  ·exact h
 have y:x=⟨o,j*s,none⟩:=by cases x;simp_all
 subst y;refine⟨_,?_,.ptr o s _ 0⟩;rw[run_indexAt_slice w t _ _ _ _ _ N,aL ⟨K,hi⟩,M,oC O,Result.andThen_ok,add_plain,←bhN,bhL]
theorem Ag{t e:TypeId}{k s:Nat}{v:Value}{M:IntKind}{i:Int}{x pv:PV}(K:T.P.underlying t=some (.array k e))(J:T.size e=some s)
  (l:bF E x v) (y:0≤i) (hi:i<k) (j:(∃o s0 r c,x=.ptr o s0 r c∧pv=.ptr o s0 r (c+i.toNat*s))∨(∃cs,x=.bE cs∧pv=.bE (cs.drop (i.toNat*s)))) :
  ∃u,(Instr.indexAt t v (.int M i)).run T.P w=.ok u w∧bF E pv u:=by
 obtain⟨A,B,I⟩:=aGJ K;rcases j with⟨o,s0,r,c,rfl,rfl⟩|⟨cs,rfl,rfl⟩
 ·cases l;refine⟨_,?_,.ptr o s0 r _⟩;rw[run_indexAt_array w t _ _ _ I,B,aL ⟨y,hi⟩,A,oC J,Result.andThen_ok,add_plain,biV]
 ·obtain⟨b,N,rfl⟩:=ef l;refine⟨_,?_,Pi l _⟩;rw[run_indexAt_array w t _ _ _ I,B,aL ⟨y,hi⟩,A,oC J,Result.andThen_ok,add_plain]
theorem al{t:TypeId}{y:Array Field}{f:Nat}{e:Field}{s:Nat}{v:Value}{x pv:PV}(I:T.P.underlying t=some (.struct y))(A:y[f]?=some e)(B:T.size e.type=some (s+1))
  (l:bF E x v) (j:(∃o s0 r c,x=.ptr o s0 r c∧pv=.ptr o s0 r (c+e.offset))∨(∃cs,x=.bE cs∧pv=.bE (cs.drop e.offset))) :
  ∃u,(Instr.fieldAt t v f).run T.P w=.ok u w∧bF E pv u:=by
 rcases j with⟨o,s0,r,c,rfl,rfl⟩|⟨cs,rfl,rfl⟩
 ·cases l;refine⟨_,?_,.ptr o s0 r _⟩;simp[Instr.fieldAt,run_underlying I,A,Instr.sureAddr,fieldPlace,oC B,add_plain,biV]
 ·obtain⟨b,J,rfl⟩:=ef l;refine⟨_,?_,Pi l _⟩;simp[Instr.fieldAt,run_underlying I,A,Instr.sureAddr,fieldPlace,oC B,add_plain]
theorem agI{t:TypeId}{cs:Array Value}{k:Nat}{u:Value}(e:T.isAgg t=some false)(h:cs[k]?=some u):(part t cs k).run T.P w=.ok u w:=by
 simp[part,GW e,h]
theorem On{t:TypeId}{cs:Array Value}{k s:Nat}(j:T.isAgg t=some true)(e:T.size t=some s):(part t cs k).run T.P w=.ok (.agg (cs.extract k (k+s))) w:=by
 simp[part,GW j,oC e]
theorem Vs{cs:List PV}{vs:Array Value}{k:Nat}{pv:PV}(l:vs.size=Z' cs)(e:∀(j:Nat) pv v,cs[j]?=some pv→vs[j]?=some v→bF E pv v)(h:cs[k]?=some pv) :
  ∃u,vs[k]?=some u∧bF E pv u:=by
 have hlt:k<Z' cs:=by
  rcases bgV k cs.length with h'|h'
  ·exact h'
  ·rw[bhQ h']at h;cases h
 exact⟨vs[k]'Om,bjY Om,e k pv _ h (bjY Om)⟩
theorem Vt{cs:List PV}{vs:Array Value}{k s:Nat}(A:vs.size=Z' cs)(u:∀v∈vs.toList,v.oneCell'=true)(x:∀(j:Nat) pv v,cs[j]?=some pv→vs[j]?=some v→bF E pv v)(h:k+s≤Z' cs) :
  bF E (.agg ((cs.drop k).take s)) (.agg (vs.extract k (k+s))):=by
 refine .agg _ (by simp;omega) (λv e=>u v ?_) (λj pv v l e=>?_)
 ·simp only[Array.toList_extract]at e;exact List.mem_of_mem_drop (List.mem_of_mem_take e)
 ·rw[biY]at l;split at l
  ·rename_i y;rw[bjO]at l;refine x (k+j) pv v l ?_;rw[Array.getElem?_extract]at e;split at e
   ·exact e
   ·cases e
  ·cases l
theorem aMM{t:TypeId}{l:Array Field}{f:Nat}{e:Field}{cs:List PV}{v:Value}{pv:PV}(I:T.P.underlying t=some (.struct l))(x:l[f]?=some e)(y:T.isAgg e.type=some false)
  (K:bF E (.agg cs) v) (h:cs[e.offset]?=some pv):∃u,(Instr.field t v f).run T.P w=.ok u w∧bF E pv u:=by
 cases K with
 |agg vs A M B=>
 obtain⟨u,J,j⟩:=Vs A B h;exact⟨u,by simp[Instr.field,run_underlying I,x,asAgg,agI y J],j⟩
theorem aGL{t:TypeId}{j:Array Field}{f:Nat}{e:Field}{cs:List PV}{s:Nat}{v:Value}(J:T.P.underlying t=some (.struct j))(x:j[f]?=some e)(y:T.isAgg e.type=some true)(I:T.size e.type=some s)
  (K:bF E (.agg cs) v) (h:e.offset+s≤Z' cs):∃u,(Instr.field t v f).run T.P w=.ok u w∧bF E (.agg ((cs.drop e.offset).take s)) u:=by
 cases K with
 |agg vs A l B=>exact⟨_,by simp[Instr.field,run_underlying J,x,asAgg,On y I],Vt A l B h⟩
theorem aHQ{t e:TypeId}{k s:Nat}{g:Bool}{cs:List PV}{v:Value}{O:IntKind}{i:Int}{pv:PV}(J:T.P.underlying t=some (.array k e))(x:T.size e=some s)(A:T.isAgg e=some g)
  (N:bF E (.agg cs) v) (y:0≤i) (hi:i<k) (h:(if g then(if i.toNat*s+s≤cs.length then some (.agg ((cs.drop (i.toNat*s)).take s))else none)else cs[i.toNat*s]?)=some pv) :
  ∃u,(Instr.index t v (.int O i)).run T.P w=.ok u w∧bF E pv u:=by
 cases N with
 |agg vs B K I=>
 cases g with
 |true=>
  simp only[if_true]at h;split at h
  ·rename_i j;cases h;exact⟨_,by simp[Instr.index,asIntOf,run_underlying J,y,hi,oC x,On A x],Vt B K I j⟩
  ·cases h
 |false =>simp only[bjE,if_false]at h;obtain⟨u,M,l⟩:=Vs B I h;exact⟨u,by simp[Instr.index,asIntOf,run_underlying J,y,hi,oC x,agI A M],l⟩
theorem aaP{t:TypeId}{l:List UInt8}{v:Value}{B:IntKind}{i:Int}{pv:PV}(y:T.P.underlying t=some .string)(A:bF E (.str l) v)(x:0≤i)(h:(l[i.toNat]?).map (λb=>PV.int .u8 b.toNat)=some pv) :
  ∃u,(Instr.index t v (.int B i)).run T.P w=.ok u w∧bF E pv u:=by
 cases A with
 |str s=>
 simp only[bgM]at h;obtain⟨b,hb,rfl⟩:=h;have e:s[i.toNat]?=some b:=by
  have hlt:i.toNat<Z' s.data.toList:=by
   rcases bgV i.toNat s.data.toList.length with h'|h'
   ·exact h'
   ·rw[bhQ h']at hb;cases hb
  have j:i.toNat<s.size:=by
   have I:Z' s.data.toList=s.size:=by rw[bjD];rfl
   omega
  rw[getElem?_pos s i.toNat j];rw[bgH hlt]at hb;cases hb;rfl
 exact⟨_,by simp[Instr.index,asIntOf,run_underlying y,x,e],.int _ _⟩
theorem ZN{x:Option Operand}{p:Option aS}{d m:Int}(e:T.opt x=some p)(h:bnd F d p=some m)(l:fU ds n E F a)(u:E.num=T.num) :
  (x=none∧m=d)∨∃o k,x=some o∧a.eval o=.int k m:=by
 cases x with
 |none =>simp[Tbl.opt]at e;subst e;simp[bnd]at h;exact .inl ⟨rfl,h.symm⟩
 |some o=>
  simp only[Tbl.opt,bgM]at e;obtain⟨q,hq,rfl⟩:=e;simp only[bnd,bjW]at h;obtain⟨pv,y,hi⟩:=h;have r:=bQ hq y l u;unfold PV.intOf at hi;split at hi
  ·cases hi;generalize j:a.eval o=ev at r;cases r;exact .inr ⟨o,_,rfl,j⟩
  ·cases hi
theorem qL{isS:Bool}{lo hi mx:Option Operand}{pl ph pm:Option aS}{len cap:Nat}{l h:Int}(R:T.opt lo=some pl)(O:T.opt hi=some ph)(e:T.opt mx=some pm)
  (M:bnd F 0 pl=some l) (K:bnd F len ph=some h) (J:len≤cap) (S:0≤l) (U:l≤h) (V:h≤len) (y:pm=none∨(hi≠none∧bnd F 0 pm=some h)) (j:fU ds n E F a) (u:E.num=T.num) :
  ∃m,(Instr.sliceBounds isS len cap (lo.map a.eval) (hi.map a.eval) (mx.map a.eval)).run T.P w=.ok (l.toNat,h.toNat,m) w∧h.toNat≤m∧m≤cap:=by
 have I:=ZN R M j u;have B:=ZN O K j u;rcases y with rfl|⟨hne,bm⟩
 ·have A:mx=none:=by
   cases mx with
   |none=>rfl
   |some x =>simp only[Tbl.opt,bgM]at e;obtain⟨q,-,hq⟩:=e;cases hq
  subst A;refine⟨cap,?_,by omega,bgG _⟩;rcases I with⟨rfl,rfl⟩|⟨ol,k1,rfl,e1⟩<;>rcases B with⟨rfl,rfl⟩|⟨oh,k2,rfl,e2⟩
  ·simp[Instr.sliceBounds]
  ·simp only[Instr.sliceBounds,Option.map_none,bhD,e2,Sem.run_bind,Sem.run_pure,Result.andThen_ok,run_sliceBound w k2 h cap _ Om Om];rfl
  ·simp only[Instr.sliceBounds,Option.map_none,bhD,e1,Sem.run_bind,Sem.run_pure,Result.andThen_ok,run_sliceBound w k1 l len _ Om Om];simp
  ·simp only[Instr.sliceBounds,Option.map_none,bhD,e1,e2,Sem.run_bind,Sem.run_pure,Result.andThen_ok,run_sliceBound w k2 h cap _ Om Om,run_sliceBound w k1 l h.toNat _ Om Om]
 ·have km:=ZN e bm j u;rcases km with⟨rfl,N⟩|⟨om,k3,rfl,e3⟩
  ·simp[Tbl.opt]at e;subst e;refine⟨cap,?_,by omega,bgG _⟩;rcases B with⟨rfl,rfl⟩|⟨oh,k2,rfl,e2⟩
   ·exact absurd rfl hne
   ·rcases I with⟨rfl,rfl⟩|⟨ol,k1,rfl,e1⟩
    ·simp only[Instr.sliceBounds,Option.map_none,bhD,e2,Sem.run_bind,Sem.run_pure,Result.andThen_ok,run_sliceBound w k2 h cap _ Om Om];rfl
    ·simp only[Instr.sliceBounds,Option.map_none,bhD,e1,e2,Sem.run_bind,Sem.run_pure,Result.andThen_ok,run_sliceBound w k2 h cap _ Om Om,run_sliceBound w k1 l h.toNat _ Om Om]
  ·rcases B with⟨rfl,rfl⟩|⟨oh,k2,rfl,e2⟩
   ·exact absurd rfl hne
   ·refine⟨h.toNat,?_,bgG _,by omega⟩;rcases I with⟨rfl,rfl⟩|⟨ol,k1,rfl,e1⟩
    ·simp only[Instr.sliceBounds,Option.map_none,bhD,e2,e3,Sem.run_bind,Sem.run_pure,Result.andThen_ok,run_sliceBound w k3 h cap _ Om Om,run_sliceBound w k2 h h.toNat _ Om Om];rfl
    ·simp only[Instr.sliceBounds,Option.map_none,bhD,e1,e2,e3,Sem.run_bind,Sem.run_pure,Result.andThen_ok,run_sliceBound w k3 h cap _ Om Om,run_sliceBound w k2 h h.toNat _ Om Om,run_sliceBound w k1 l h.toNat _ Om Om]
end
open Go Go.RowKit
section
variable {ds:List Deferred} {T:Tbl} {n:Nat} {E:Env} {F:PF} {H:PH} {a:Act} {w:World}
theorem arN{rows:List (List PV)}{l h i j:Nat}{pv:PV}(e:at2 ((rows.take h).drop l) i j=some pv):at2 rows (l+i) j=some pv:=by
 unfold at2 at *
 rw[bjO,biY]at e;split at e
 ·exact e
 ·simp at e
theorem CW{t e:TypeId}{s l h m len cap:Nat}{j:Option Addr}{lo hi mx:Option Value}(x:T.P.underlying t=some (.slice e))(u:T.size e=some s)
  (hb:(Instr.sliceBounds true len cap lo hi mx).run T.P w=.ok (l,h,m) w) :
  (Instr.sliceAt t (.slice j len cap) lo hi mx).run T.P w=.ok (.slice (if m=l then j else j.map (·.add (l*s))) (h-l) (m-l)) w:=by
 simp[Instr.sliceAt,Instr.slice,run_underlying x,hb,oC u]
theorem OO {t e : TypeId} {s : Nat} {x : Value} {lo hi mx : Option Operand} {pl ph pm : Option aS} {len : Nat} {l h : Int} {px pv : PV} (ht : T.P.underlying t = some (.slice e)) (hs : T.size e = some s)
    (hl : T.opt lo = some pl) (hh : T.opt hi = some ph) (hm : T.opt mx = some pm) (hx : bF E px x) (bl : bnd F 0 pl = some l) (bh : bnd F len ph = some h)
    (hlen : (px = .aH ∧ len = 0) ∨ (∃ s0 rows, px = .sl s0 rows ∧ len = rows.length) ∨ (∃ o s0 off, px = .osl o s0 off len))
    (hpv : (pm = none ∧ PV.slice s px l h none = some pv) ∨ (hi ≠ none ∧ ∃ m, bnd F 0 pm = some m ∧ PV.slice s px l h (some m) = some pv)) (hA : fU ds n E F a) (hN : E.num = T.num) :
    ∃ v, (Instr.sliceAt t x (lo.map a.eval) (hi.map a.eval) (mx.map a.eval)).run T.P w = .ok v w ∧ bF E pv v := by
  have hP : ∃ m0, PV.slice s px l h m0 = some pv ∧ (m0 = none → pm = none) ∧ ∀ m, m0 = some m → hi ≠ none ∧ bnd F 0 pm = some m := by
    rcases hpv with ⟨h1, h2⟩ | ⟨h1, m, h2, h3⟩
    · exact ⟨none, h2, fun _ => h1, fun m hm => by cases hm⟩
    · exact ⟨some m, h3, fun h => (by cases h), fun m' hm' => by cases hm'; exact ⟨h1, h2⟩⟩
  obtain ⟨m0, hP, hn, hsm⟩ := hP;rcases hlen with ⟨rfl, rfl⟩ | ⟨s0, rows, rfl, rfl⟩ | ⟨o, s0, off, rfl⟩
  · simp only [PV.slice] at hP
    split at hP
    · rename_i hc
      cases hP;obtain ⟨rfl, rfl, hm0⟩ := hc;cases hx;obtain ⟨m, hb, hm1, hm2⟩ := qL (T := T) (E := E) (w := w) (isS := true) (len := 0) (cap := 0) hl hh hm bl bh (bgG _) Om Om Om
        (by rcases hm0 with rfl | rfl
            · exact .inl (hn rfl)
            · exact .inr (hsm 0 rfl)) hA hN
      have hmz : m = 0 := Om;subst hmz;refine ⟨_, CW ht hs hb, ?_⟩;simp;exact .aH
    · cases hP
  · simp only [PV.slice] at hP
    split at hP
    · rename_i hc
      cases hP;obtain ⟨rfl, h0, h1, h2, hm0⟩ := hc;cases hx with
      | sl u hcap bfS beW ha ho bfU =>
      rename_i a0 cap;obtain ⟨m, hb, hm1, hm2⟩ := qL (T := T) (E := E) (w := w) (isS := true) (len := rows.length) (cap := cap) hl hh hm bl bh hcap h0 h1 h2
        (by rcases hm0 with rfl | rfl
            · exact .inl (hn rfl)
            · exact .inr (hsm h rfl)) hA hN
      refine ⟨_, CW ht hs hb, ?_⟩;have hlen : ((rows.take h.toNat).drop l.toNat).length = h.toNat - l.toNat := by rw [bhR, bgP]; omega
      rw [← hlen];refine .sl (fun i j => u (l.toNat + i) j) (by rw [hlen]; omega) Om (fun r hr => beW r (List.mem_of_mem_take (List.mem_of_mem_drop hr))) (fun hne => ?_) (fun i j => ho _ _) (fun i j pv hp => bfU _ _ pv (arN hp));have hpos : 0 < ((rows.take h.toNat).drop l.toNat).length := List.length_pos_iff.2 hne;rw [hlen] at hpos;obtain ⟨ad, rfl, hsp, hc⟩ := ha (by intro e; subst e; simp at h2; omega);rw [aE Om];refine ⟨⟨ad.block, ad.off + l.toNat * s0, none⟩, ?_, rfl, fun i j pv hp => ?_⟩
      · rw [bhD, uI hsp, add_plain]
      · have := hc (l.toNat + i) j pv (arN hp)
        show E.cell ad.block (ad.off + l.toNat * s0 + i * s0 + j) = _;rw [← this];congr 1;rw [bhN]; omega
    · cases hP
  · simp only [PV.slice] at hP
    split at hP
    · rename_i hc
      cases hP;obtain ⟨rfl, h0, h1, h2, hm0⟩ := hc;cases hx with
      | osl hb0 hsp bfV hlen bfS hnn bfL =>
      rename_i cap N ad;obtain ⟨m, hb, hm1, hm2⟩ := qL (T := T) (E := E) (w := w) (isS := true) (len := len) (cap := cap) hl hh hm bl bh hlen h0 h1 h2
        (by rcases hm0 with rfl | rfl
            · exact .inl (hn rfl)
            · exact .inr (hsm h rfl)) hA hN
      refine ⟨_, CW ht hs hb, ?_⟩;by_cases hml : m = l.toNat
      · rw [aL hml]
        have e1 : h.toNat - l.toNat = 0 := Om;have e2 : m - l.toNat = 0 := Om;rw [e1, e2];refine .osl hb0 hsp (.inl rfl) (bgG _) (by simp [maxLen]) hnn ?_;have : (off + l.toNat) * s0 ≤ off * s0 + cap * s0 := by rw [bhN]; exact Nat.add_le_add_left (bhF _ Om) _
        omega
      · rw [aE hml, bhD, uI hsp, add_plain]
        refine .osl hb0 rfl ?_ Om Om hnn ?_
        · rcases bfV with h | h
          · exact .inl Om
          · exact .inr (by simp only [h, bhN])
        · have : (off + l.toNat) * s0 + (m - l.toNat) * s0 ≤ off * s0 + cap * s0 := by rw [← bhN, ← bhN];exact bhF _ Om
          omega
    · cases hP
theorem I1{t:TypeId}{x:Value}{lo hi:Option Operand}{pl ph:Option aS}{str:List UInt8}{l h:Int}(S:T.P.underlying t=some .string)
  (N:T.opt lo=some pl) (M:T.opt hi=some ph) (U:bF E (.str str) x) (A:bnd F 0 pl=some l) (u:bnd F str.length ph=some h) (B:0≤l) (I:l≤h) (y:h≤Z' str)
  (J:fU ds n E F a) (K:E.num=T.num) :
  ∃v,(Instr.sliceAt t x (lo.map a.eval) (hi.map a.eval) none).run T.P w=.ok v w∧bF E (.str ((str.take h.toNat).drop l.toNat)) v:=by
 cases U with
 |str s=>
 have j:Z' s.data.toList=s.size:=by rw[bjD];rfl
 rw[j]at u y;obtain⟨m,hb,O,R⟩:=qL (T:=T) (E:=E) (w:=w) (isS:=false) (len:=s.size) (cap:=s.size) (mx:=none) (pm:=none) N M rfl A u (bgG _) B I y (.inl rfl) J K;simp only[Option.map_none]at hb;refine⟨.string (s.extract l.toNat h.toNat),?_,?_⟩
 ·simp[Instr.sliceAt,Instr.slice,run_underlying S,hb]
 ·have e:(s.data.toList.take h.toNat).drop l.toNat=(s.extract l.toNat h.toNat).data.toList:=by rw[Lib.extract_data,List.drop_take]
  rw[e];exact .str _
theorem yz(s:Nat):∀(n:Nat)(cs:List PV),(chunks s n cs).length=n
 |0,_=>rfl
 |n+1,cs=>by simp[chunks,yz s n]
theorem y6{s:Nat}:∀{n:Nat}{cs:List PV},n*s≤Z' cs→∀r∈chunks s n cs,Z' r=s
 |0,_,_,r,hr=>by simp[chunks]at hr
 |n+1,cs,h,r,hr=>by
  rw[bhN,Nat.one_mul]at h;simp only[chunks,bgN]at hr;rcases hr with rfl|hr
  ·rw[bgP];omega
  ·exact y6 (by rw[bhR];omega) r hr
theorem ZU{s:Nat}:∀{n:Nat}{cs:List PV}{i j:Nat}{pv:PV},at2 (chunks s n cs) i j=some pv→cs[i*s+j]?=some pv
 |0,_,i,j,pv,h=>by simp[chunks,at2]at h
 |n+1,cs,0,j,pv,h=>by
  simp only[chunks,at2,List.getElem?_cons_zero,bjX,biY]at h;split at h
  ·rw[Nat.zero_mul,bgL];exact h
  ·cases h
 |n+1,cs,i+1,j,pv,h=>by have:=ZU (n:=n) (cs:=cs.drop s) (i:=i) (j:=j) (pv:=pv) (by simpa[chunks,at2]using h);rw[bjO]at this;rw[←this];congr 1;rw[bhN];omega
theorem ajB{t e:TypeId}{k s:Nat}{v:Value}{cs:List PV}(Y:T.P.underlying t=some (.array k e))(X:T.size e=some s)(Z:bF E (.bE cs) v)(R:k*s≤Z' cs)(S:k≤maxLen)(N:fU ds n E F a)(O:E.num=T.num) :
  ∃u,(Instr.sliceAt t v none none none).run T.P w=.ok u w∧bF E (.sl s (chunks s k cs)) u:=by
 obtain⟨m,hb,U,V⟩:=qL (T:=T) (E:=E) (w:=w) (F:=F) (a:=a) (n:=n) (isS:=false) (len:=k) (cap:=k) (lo:=none) (hi:=none) (mx:=none) (pl:=none) (ph:=none) (pm:=none) (l:=0) (h:=(k:Int)) rfl rfl rfl rfl rfl (bgG _) Om Om Om (.inl rfl) N O;simp only[Option.map_none,biR,Int.toNat_zero]at hb;have I:m=k:=Om;subst I;cases Z with
 |bE u y x M W=>
 rename_i A;refine⟨.slice (some A) m m,?_,?_⟩
 ·have hz:(if m=0 then A else A.add (0*s))=A:=by
   split
   ·rfl
   ·rw[uI y,add_plain];simp
  simp[Instr.sliceAt,run_underlying Y,Instr.sureAddr,hb,oC X];intro _;rw[uI y,add_plain];simp
 ·have K:=yz s m cs;have B:bF E (.sl s (chunks s m cs)) (.slice (some A) (chunks s m cs).length m):=by refine .sl (λi j=>u (i*s+j)) (by rw[K];exact bgG _) S (y6 R) (λ_=>⟨A,rfl,y,λi j pv J=>?_⟩) (λi j=>M _) (λi j pv J=>W _ pv (ZU J));have:=x (i*s+j) pv (ZU J);rw[←this];congr 1;omega
  rw[K]at B;exact B
theorem aqA{e:TypeId}{x:Value}{y:PV}(hW:cS E H w)(N:bF E y x)(M:y.cells.all PV.one=true):Yields T.P E H w (Instr.box e x) (.bE y.cells):=by
 obtain⟨B,J,K⟩:=EA N M;obtain⟨A,I⟩:=hW.aZF x.cells e;refine⟨.pointer (some ⟨w.heap.size,0,none⟩),_,_,by simp[Instr.box,newVar,newRow],?_,A,I⟩;refine .bE (λj=>if h:j<x.cells.size then x.cells[j]else .int .i64 0) rfl (λj pv u=>?_) (λj=>?_) (λj pv u=>?_)
 ·have l:j<x.cells.size:=by
   rw[B];rcases bgV j y.cells.length with h'|h'
   ·exact h'
   ·rw[bhQ h']at u;cases u
  simp[Env.cell,Env.add,upd,l]
 ·split
  ·rename_i l;exact J _ (Array.getElem_mem_toList l)
  ·rfl
 ·have l:j<x.cells.size:=by
   rw[B];rcases bgV j y.cells.length with h'|h'
   ·exact h'
   ·rw[bhQ h']at u;cases u
  rw[dif_pos l];exact(K j pv _ u (bjY l)).mono I.env
end
open Go Go.RowKit
theorem DJ{s:Nat}:∀(rows:List (List PV)) (i j:Nat),(∀r∈rows,Z' r=s)→j<s→rows.flatten[i*s+j]?=at2 rows i j
 |[],i,j,_,_=>by simp[at2]
 |r::rows,i,j,h,u=>by
  have l:Z' r=s:=h r aY;rw[List.flatten_cons];cases i with
  |zero =>rw[biA Om];simp[at2]
  |succ i=>
   rw[biB (by rw[l,biN];omega)];have e:(i+1)*s+j-Z' r=i*s+j:=by rw[l,biN];omega
   rw[e,DJ rows i j (λr l=>h r (by simp[l])) u];simp[at2]
theorem vE{s:Nat}:∀(rows:List (List PV)),(∀r∈rows,Z' r=s)→Z' rows.flatten=Z' rows*s
 |[],_=>by simp
 |r::rows,h=>by rw[List.flatten_cons,bgB,vE rows (λr e=>h r (by simp[e])),h r aY,bhT,biN];omega
theorem zZ:∀(ps:List PV)(x y:List PV)(c:Nat),setCells (x++y) (Z' x+c) ps=x++setCells y c ps
 |[],x,y,c=>rfl
 |p::ps,x,y,c=>by simp only[setCells];rw[bjU _ _ Om,Nat.add_sub_cancel_left];exact zZ ps x _ (c+1)
theorem BP:∀(ps:List PV)(x y:List PV)(c:Nat),c+Z' ps≤Z' x→setCells (x++y) c ps=setCells x c ps++y
 |[],x,y,c,_=>rfl
 |p::ps,x,y,c,h=>by simp only[bhT]at h;simp only[setCells];rw[List.set_append_left _ _ Om];exact BP ps _ y (c+1) (by rw[bhU];omega)
theorem RN:∀(ps x:List PV)(z:List PV),Z' x=Z' ps→setCells (z++x) z.length ps=z++ps
 |[],x,z,h=>by have:x=[]:=List.eq_nil_of_length_eq_zero (by simpa using h);subst this;rfl
 |p::ps,[],z,h=>by simp at h
 |p::ps,y::x,z,h=>by simp only[setCells];rw[bjU _ _ (bgG _),Nat.sub_self,List.set_cons_zero];have:=RN ps x (z++[p]) (by simpa using h);simp only[bgB,bhT,biM,bgX,bjR,bjH]at this;simpa using this
theorem lg{s:Nat}(ps:List PV)(e:Z' ps=s):∀(rows:List (List PV)) (i:Nat),(∀r∈rows,Z' r=s)→i<Z' rows→(rows.set i ps).flatten=setCells rows.flatten (i*s) ps
 |[],i,_,h=>by simp at h
 |r::rows,i,h,hi=>by
  have j:Z' r=s:=h r aY;cases i with
  |zero =>rw[List.set_cons_zero,List.flatten_cons,List.flatten_cons,Nat.zero_mul,BP _ _ _ _ Om];have:=RN ps r [] Om;simp only[bjH,biM]at this;rw[this]
  |succ i =>rw[List.set_cons_succ,List.flatten_cons,List.flatten_cons,lg ps e rows i (λr j=>h r (by simp[j])) (by simpa using hi)];have:=zZ ps r rows.flatten (i*s);rw[←this,j,biN,Nat.add_comm]
section
variable {ds:List Deferred} {T:Tbl} {n:Nat} {E:Env} {F:PF} {H:PH} {a:Act} {w:World}
theorem QS{s:Nat}(U:fU ds n E F a)(V:E.num=T.num):∀(parts:List (Nat × Operand)) (pl:List (Nat × aS)) (rows out:List (List PV)) (vs:Array Value),
  T.zS parts=some pl→mH s rows F pl=some out→(∀r∈rows,Z' r=s)→tL E rows.flatten vs →
  ∃K,Instr.fill (λi=>some (i*s,s)) vs (parts.map λ(i,x)=>(i,a.eval x))=some K∧tL E out.flatten K∧(∀r∈out,Z' r=s)∧Z' out=Z' rows
 |[],pl,rows,out,vs,l,e,y,J=>by simp[Tbl.zS]at l;subst l;simp[mH]at e;subst e;exact⟨vs,rfl,J,y,rfl⟩
 |(i,x)::I,pl,rows,out,vs,l,e,y,J=>by
  simp only[Tbl.zS]at l;split at l
  ·rename_i p ps hx N;cases l;simp only[mH]at e;split at e
   ·rename_i v hv;split at e
    ·rename_i B;obtain⟨S,W,X⟩:=EA (bQ hx hv U V) B.2.2;have M:=lg v.cells B.1 rows i y B.2.1;have A:=tL.setCells v.cells (a.eval x).cells.toList (i*s) _ vs J (by simpa using S) W (λj q u hq Z=>X j q u hq (by simpa using Z));rw[←M]at A;obtain⟨K,g1,g2,g3,g4⟩:=QS U V I ps _ out _ N e (λr O=>by
      rcases List.mem_or_eq_of_mem_set O with O|rfl
      ·exact y r O
      ·exact B.1) A
     refine⟨K,?_,g2,g3,by simpa using g4⟩;simp only[bhJ,Instr.fill];have R:vs.size=Z' rows*s:=by rw[J.1,vE rows y]
     have Y:i*s+s≤Z' rows*s:=by have:(i+1)*s≤Z' rows*s:=bhF _ B.2.1;rw[biN]at this;exact this
     rw[aE (by simp;rw[S,R];omega)];have hz:Array.foldl (λ(cs:Array Value)(x:Value × Nat)=>cs.setIfInBounds (i*s+x.2) x.1) vs (a.eval x).cells.zipIdx=wr vs (i*s) (a.eval x).cells.toList:=by rw[←Array.foldl_toList,Array.toList_zipIdx];exact VZ (i*s) _ 0 vs
     exact hz ▸ g1
    ·cases e
   ·cases e
  ·cases l
theorem tL.aZR{z:List PV}{y:Array Value}{s len:Nat}(h:tL E z y)(M:Z' z=s)(K:0<s) :
  tL E (bgA len z).flatten ((Array.range (len*s)).map (y[·%y.size]!)):=by
 have u:∀r∈bgA len z,Z' r=s:=λr N=>by rw[(List.mem_replicate.1 N).2];exact M
 have l:y.size=s:=by rw[h.1,M]
 refine⟨by rw[vE _ u];simp,λv x=>?_,λk pv v J x=>?_⟩
 ·simp only[Array.toList_map,bhC]at x;obtain⟨k,-,rfl⟩:=x;have I:k%y.size<y.size:=bhZ _ Om;rw[getElem!_pos y _ I];exact h.2.1 _ (Array.getElem_mem_toList I)
 ·have B:k<len*s:=by
   rcases bgV k (len*s)with h'|h'
   ·exact h'
   ·rw[Array.getElem?_eq_none (by simpa using h')]at x;cases x
  have j:k%s<s:=bhZ _ K;have A:k/s<len:=(bjK K).2 B;have I:k/s*s+k%s=k:=by rw[bhE];exact bjV k s
  have e:=DJ (bgA len z) (k/s) (k%s) u j;rw[I]at e;rw[e]at J;simp only[at2,bkC,A,if_true,bjX]at J;simp only[Array.getElem?_map,Array.getElem?_range,B,if_true,bhD]at x;rw[getElem!_pos y _ (by rw[l];exact j)]at x;cases x;refine h.2.2 (k%s) pv _ (by simpa only [l]using J) ?_;simp only[l];exact bjY (by rw[l];exact j)
theorem ZR{t e:TypeId}{s len:Nat}{z:List PV}{parts:Array (Nat × Operand)}{pl:List (Nat × aS)}{out:List (List PV)}(Y:T.P.underlying t=some (.slice e))(X:T.size e=some s)(hz:T.zero e=some z)
  (K:Z' z=s) (V:0<s) (j:T.zS parts.toList=some pl) (α:len*s≤16777216) (u:mH s (bgA len z) F pl=some out) (hA:fU ds n E F a) (hN:E.num=T.num) :
  ∃A,(Instr.buildSlice t len (parts.map λ(i,x)=>(i,a.eval x))).run T.P w=.ok (.slice (some ⟨w.heap.size,0,none⟩) len len) (w.alloc (.cells A e))∧tL E out.flatten A∧(∀r∈out,Z' r=s)∧Z' out=len:=by
 obtain⟨i,zv,hi,M,U⟩:=XZ (E:=E) hz;obtain⟨i',I,l⟩:=P0 X;rw[hi]at I;cases I;have B:∀r∈bgA len z,Z' r=s:=λr hr=>by rw[(List.mem_replicate.1 hr).2];exact K
 obtain⟨A,g1,g2,g3,g4⟩:=QS hA hN parts.toList pl _ out _ j u B (U.aZR (len:=len) K V);rw[bjP]at g4;refine⟨A,?_,g2,g3,g4⟩;by_cases N:len=0
 ·subst N;have J:parts.toList=[]:=by
   cases R:parts.toList with
   |nil=>rfl
   |cons x Z=>
    rw[R]at j;obtain⟨i,y⟩:=x;simp only[Tbl.zS]at j;split at j
    ·cases j;simp only[mH]at u;split at u
     ·split at u
      ·rename_i hc;simp at hc
      ·cases u
     ·cases u
    ·cases j
  rw[J]at g1;simp only[biS,Instr.fill,Nat.zero_mul]at g1;have:A=#[]:=by have W:=g2.1;rw[vE out g3,g4,Nat.zero_mul]at W;exact Array.eq_empty_of_size_eq_zero W
  subst this;have O:parts=#[]:=by apply Array.ext';simpa using J
  subst O;have S:Array.range 0=#[]:=by apply Array.ext';simp
  simp[Instr.buildSlice,run_underlying Y,oC X,Instr.fill,newRow,S]
 ·refine run_buildSlice w t e len _ A i zv Y hi M (by rw[l];omega) (by rw[l];exact Nat.ne_of_gt (Nat.mul_pos Om V)) ?_;rw[l,Array.toList_map];exact g1
theorem Gs{t e:TypeId}{s len:Nat}{z:List PV}{parts:Array (Nat × Operand)}{pl:List (Nat × aS)}{out:List (List PV)}(ht:T.P.underlying t=some (.slice e))(hs:T.size e=some s)(hz:T.zero e=some z)
  (S:Z' z=s) (U:0<s) (R:T.zS parts.toList=some pl) (O:len*s≤16777216) (Z:mH s (bgA len z) F pl=some out) (W:fU ds n E F a) (X:E.num=T.num) (hW:cS E H w) :
  Yields T.P E H w (Instr.buildSlice t len (parts.map λ(i,x)=>(i,a.eval x))) (.sl s out):=by
 obtain⟨B,J,N,y,A⟩:=ZR (w:=w) ht hs hz S U R O Z W X;obtain⟨M,V⟩:=hW.aZF B e;refine⟨_,_,_,J,?_,M,V⟩;rw[←A];have Y:∀i j pv,at2 out i j=some pv→j<s:=λi j pv l=>by
  unfold at2 at l;cases I:out[i]? with
  |none=>simp[I]at l
  |some r=>
   rw[I,bjX]at l;have:=y r (bhX I);rcases bgV j r.length with h'|h'
   ·omega
   ·rw[bhQ h']at l;cases l
 have u:∀i j pv,at2 out i j=some pv→∃h:i*s+j<B.size,bF E pv B[i*s+j]:=λi j pv l=>by
  have K:=DJ out i j y (Y i j pv l);rw[l]at K;have hlt:i*s+j<B.size:=by
   rw[N.1];rcases bgV (i*s+j) out.flatten.length with h'|h'
   ·exact h'
   ·rw[bhQ h']at K;cases K
  exact⟨hlt,N.2.2 _ pv _ K (bjY hlt)⟩
 refine .sl (λi j=>if h:i*s+j<B.size then B[i*s+j]else .int .i64 0) (bgG _) ?_ y (λ_=>⟨_,rfl,rfl,λi j pv l=>?_⟩) (λi j=>?_) (λi j pv l=>?_)
 ·have:Z' out*1≤Z' out*s:=biW _ U;simp only[maxLen];rw[A]at this ⊢;omega
 ·obtain⟨hlt,-⟩:=u i j pv l;simp[Env.cell,Env.add,upd,hlt]
 ·split
  ·rename_i hlt;exact N.2.1 _ (Array.getElem_mem_toList hlt)
  ·rfl
 ·obtain⟨hlt,I⟩:=u i j pv l;rw[dif_pos hlt];exact I.mono V.env
end
open Go Go.RowKit
section
variable {T:Tbl} {n:Nat} {E:Env} {F:PF} {H:PH} {a:Act} {w:World}
theorem Eb{s:Nat}{pv:PV}{v:Value}{rows:List (List PV)}(hW:cS E H w)(hv:bF E pv v)(h:fA H s pv=some rows) :
  ∃y cap,v=.slice y rows.length cap∧Z' rows≤cap∧(∀r∈rows,Z' r=s)∧(rows≠[]→∃b l,y=some ⟨b,l,none⟩ ∧
   ∀i j q,at2 rows i j=some q→∃u,w.cell? ⟨b,l+(i*s+j),none⟩=some u∧u.oneCell'=true∧bF E q u):=by
 unfold fA at h;split at h
 ·cases h;cases hv;exact⟨none,0,rfl,bgG _,by simp,λh=>absurd rfl h⟩
 ·rename_i s0 rs;split at h
  ·rename_i e;subst e;cases h;cases hv with
   |sl u I J x ha V Y=>
   rename_i a0 cap;refine⟨a0,cap,rfl,I,x,λB=>?_⟩;obtain⟨y,rfl,M,S⟩:=ha B;refine⟨y.block,y.off,by rw[←uI M],λi j q hq=>⟨u i j,?_,V i j,Y i j q hq⟩⟩;have:=hW.arP (S i j q hq);rw[←this];congr 2;omega
  ·cases h
 ·rename_i o s0 l len;split at h
  ·rename_i e;subst e;split at h
   ·rename_i s' rs V;split at h
    ·rename_i S;cases h;obtain⟨rfl,γ⟩:=S;obtain⟨hlt,O,ty,hh,δ,x,α,A⟩:=hW.h o _ V;cases hv with
     |osl hb M K U J hn Z=>
     rename_i cap N y;have hl:((rs.drop l).take len).length=len:=by rw[bgP,bhR];omega
     refine⟨some y,cap,by rw[hl],by omega,λr Y=>x r (List.mem_of_mem_drop (List.mem_of_mem_take Y)),λB=>?_⟩;have β:0<((rs.drop l).take len).length:=List.length_pos_iff.2 B;have W:y.off=l*s':=by
      rcases K with h|h
      ·omega
      ·exact h
     have R:y=⟨o,l*s',none⟩:=by cases y;simp_all
     subst R;refine⟨o,l*s',rfl,λi j q hq=>?_⟩;have X:at2 rs (l+i) j=some q:=by
      unfold at2 at hq ⊢;rw[biY]at hq;split at hq
      ·rw[bjO]at hq;exact hq
      ·simp at hq
     obtain⟨u,h1,h2,h3⟩:=A (l+i) j q X;refine⟨u,?_,h2,h3⟩;rw[cell_of_row w o _ O ty (0,0) hh,←h1];congr 1;rw[bhN];omega
    ·cases h
   ·cases h
  ·cases h
 ·cases h
theorem YW:∀{rows:List (List PV)}{l:List UInt8},wA rows=some l→∃ns:List Int,rows=ns.map (λn=>[PV.int .u8 n])∧l=ns.map λn=>UInt8.ofNat n.toNat
 |[],l,h=>by simp[wA]at h;exact⟨[],by simp[h]⟩
 |r::rows,l,h=>by
  unfold wA at h;split at h
  ·exact⟨[],by simp at *⟩
  ·rename_i m u e;cases e;simp only[bgM]at h;obtain⟨A,j,rfl⟩:=h;obtain⟨ns,x,y⟩:=YW j;exact⟨m::ns,by simp[x],by simp[y]⟩
  ·cases h
theorem yu{src dst e:TypeId}{pv:PV}{v:Value}{rows:List (List PV)}{l:List UInt8}(B:T.P.underlying src=some (.slice e))(he:T.P.underlying e=some (.int .u8))(A:T.P.underlying dst=some .string)
  (hW:cS E H w) (V:bF E pv v) (U:fA H 1 pv=some rows) (hb:wA rows=some l):∃u,(convert src dst v).run T.P w=.ok u w∧bF E (.str l) u:=by
 obtain⟨N,cap,rfl,K,M,j⟩:=Eb hW V U;obtain⟨ns,rfl,rfl⟩:=YW hb;by_cases y:ns=[]
 ·subst y;refine⟨.string ByteArray.empty,?_,bF.str ByteArray.empty⟩;cases N with
  |none=>exact run_convert_bytes_nil w src e B he _ _ dst A
  |some x =>rw[run_convert_bytes_string w src dst e _ _ _ B he A];have:=run_bytesToString (P:=T.P) w x 0 cap [] (by simp[Go.loadCells,Go.loadCellsFrom]);simpa using this
 ·obtain⟨b,I,rfl,R⟩:=j (by simpa using y);have S:(ns.map λn=>[PV.int .u8 n]).length=Z' ns:=by simp
  refine⟨.string (strOfNums ns),?_,?_⟩
  ·rw[S];refine run_convert_bytes_arg w src e B he b I ns.length cap ns rfl (λi hi=>?_) dst A;obtain⟨u,J,W,O⟩:=R i 0 (.int .u8 ns[i]) (by simp[at2,hi]);cases O;simp only[bjB,bhL]at J;rw[J];simp[List.getD,hi]
  ·have:=bF.str (E:=E) (strOfNums ns);rw[strOfNums_data]at this;exact this
theorem iH.len{ps:List PV}{vs:List Value}(h:iH E ps vs):Z' vs=Z' ps:=by
 induction h with
 |nil=>rfl
 |cons _ _ e=>simp[e]
theorem iH.at_{ps:List PV}{vs:List Value}(h:iH E ps vs):∀(j:Nat) p v,ps[j]?=some p→vs[j]?=some v→bF E p v:=by
 induction h with
 |nil=>intro j p v e;simp at e
 |cons h _ u=>
  intro j p v e l;cases j with
  |zero=>simp at e l;subst e;subst l;exact h
  |succ j=>exact u j p v (by simpa using e) (by simpa using l)
theorem iH.mono{e:Env}(j:E.le e){ps:List PV}{vs:List Value}(h:iH E ps vs):iH e ps vs:=by
 induction h with
 |nil=>exact .nil
 |cons h _ l=>exact .cons (h.mono j) l
def POp.vC:POp→Bool
 | .call .. | .bfO ..=>true
 |_=>false
theorem AG{P:Program}{o:Oper}{s:Sem Value}{v:Value}{w e:World}(h:execOp a.eval o=(do pure (.value (←s)):Sem Next))(j:s.run P w=.ok v e):(execOp a.eval o).run P w=.ok (.value v) e:=by
 rw[h];simp[j]
end
open Go Go.RowKit
def KSh.desc:KSh→TypeDesc
 | .int k=>.int k
 | .bool=>.bool
 | .str=>.string
def KSh.sc:KSh→Sc
 | .int _=>.int
 | .bool=>.bool
 | .str=>.str
def KS.pv:KS→PV
 | .int k n=>.int k n
 | .bool b=>.bool b
 | .str s=>.str s
section
variable {T:Tbl} {n:Nat} {E:Env} {F:PF} {H:PH} {a:Act} {w:World}
theorem Gr{α:Type}[BEq α][LawfulBEq α][DecidableEq α](a b:α):(a==b)=decide (a=b):=by
 by_cases h:a=b<;>simp[h]
theorem KS.aOK{pv:PV}{v:Value}{k:KS}(h:bF E pv v)(e:KS.of pv=some k):v=k.val:=by
 unfold KS.of at e;split at e<;>cases e<;>cases h
 ·rfl
 ·rfl
 ·simp[KS.val]
theorem KS.a5X(k:KS):bF E k.pv k.val:=by
 cases k with
 |int k n=>exact .int k n
 |bool b=>exact .bool b
 |str s =>have:=bF.str (E:=E) ⟨s.toArray⟩;simpa[KS.pv,KS.val]using this
theorem KS.azU:∀{ps:List PV}{l:List KS}{vs:List Value},KS.ofs ps=some l→Z' vs=Z' ps→(∀(j:Nat) p v,ps[j]?=some p→vs[j]?=some v→bF E p v)→vs=l.map KS.val
 |[],l,vs,h,e,_=>by simp[KS.ofs]at h;subst h;simp at e;subst e;rfl
 |p::ps,l,vs,h,e,A=>by
  simp only[KS.ofs]at h;split at h
  ·rename_i k K I J;cases h;cases vs with
   |nil=>simp at e
   |cons v vs =>have B:=KS.azU (vs:=vs) J (by simpa using e) λj q u x y=>A (j+1) q u (by simpa using x) (by simpa using y);rw[KS.aOK (A 0 p v rfl rfl) I,B];rfl
  ·cases h
theorem K0{sh:MSh}{pv:PV}{v:Value}{k:List KS}(h:bF E pv v)(A:keyOf sh pv=some k):v=lP sh k∧k.map KS.sh=sh.2∧(sh.1=false→∃s,k=[s]):=by
 obtain⟨b,l⟩:=sh;unfold keyOf at A;split at A
 ·rename_i cs hb;simp only at hb;subst hb;simp only[bjW]at A;obtain⟨M,B,e⟩:=A;split at e
  ·rename_i he;cases e;cases h with
   |agg vs J I K=>
   refine⟨?_,he,by simp⟩;have:=KS.azU (vs:=vs.toList) B (by simpa using J) λj p u x y=>K j p u x (by simpa using y);simp only[lP,if_true,Value.agg.injEq];rw[←this]
  ·cases e
 ·rename_i v' hb;simp only at hb;subst hb;simp only[bjW]at A;obtain⟨s,B,e⟩:=A;split at e
  ·rename_i he;cases e;exact⟨by simp[lP,KS.aOK h B],by simpa using he,λ_=>⟨s,rfl⟩⟩
  ·cases e
 ·cases A
theorem AV{t:TypeId}{s:KSh}(h:T.IC t=some s):T.P.underlying t=some s.desc∧T.scalar t=some s.sc:=by
 unfold Tbl.IC at h;unfold Tbl.scalar;split at h<;>cases h<;>(rename_i e;rw[e];exact⟨rfl,rfl⟩)
theorem aqT{s:KSh}{x y:KS}(j:x.sh=s)(e:y.sh=s):Instr.sameNow s.desc x.val y.val=some (decide (x=y)):=by
 subst j;cases x<;>cases y<;>simp[KS.sh]at e
 ·subst e;simp[KSh.desc,KS.sh,KS.val,Instr.sameNow];exact Gr _ _
 ·simp[KSh.desc,KS.sh,KS.val,Instr.sameNow];exact Gr _ _
 ·rename_i a b;simp only[KSh.desc,KS.sh,KS.val,Instr.sameNow,biQ.injEq,KS.str.injEq];rw[beq_toListBytes,ByteArray.toList_eq,ByteArray.toList_eq];simp;exact Gr _ _
theorem Aj:∀{e:List Field}{k:Nat}{l:List KSh},T.rB k e=some l→T.yZ k e=some (l.map KSh.sc)
 |[],k,l,h=>by simp[Tbl.rB]at h;subst h;rfl
 |f::e,k,l,h=>by
  simp only[Tbl.rB]at h;split at h
  ·rename_i c cs j u;split at h
   ·rename_i x;cases h;simp only[Tbl.yZ,(AV j).2,Aj u];rw[aL x];rfl
   ·cases h
  ·cases h
theorem aMK:∀{l:List KSh}{xs A:List KS},xs.map KS.sh=l→A.map KS.sh=l→PV.eqs (l.map KSh.sc) (xs.map KS.pv) (A.map KS.pv)=some (decide (xs=A))
 |[],xs,A,j,u=>by simp at j u;subst j;subst u;simp[PV.eqs]
 |s::l,xs,A,j,u=>by
  cases xs with
  |nil=>simp at j
  |cons x xs=>
  cases A with
  |nil=>simp at u
  |cons y A=>
  simp only[bhJ,List.cons.injEq]at j u;have J:PV.eq1 s.sc x.pv y.pv=some (decide (x=y)):=by
   obtain⟨I,-⟩:=j;obtain⟨B,-⟩:=u;subst I;cases x<;>cases y<;>simp[KS.sh]at B
   ·subst B;simp[KSh.sc,KS.sh,KS.pv,PV.eq1];exact Gr _ _
   ·simp[KSh.sc,KS.sh,KS.pv,PV.eq1];exact Gr _ _
   ·simp[KSh.sc,KS.sh,KS.pv,PV.eq1];exact Gr _ _
  simp only[bhJ,PV.eqs,J];by_cases e:x=y
  ·subst e;simp only[decide_true,aMK j.2 u.2];simp
  ·simp only[e,decide_false,bfY];have K:Z' xs=Z' l:=by rw[←j.2];simp
   have M:Z' A=Z' l:=by rw[←u.2];simp
   rw[aL ⟨K,M⟩];simp[e]
theorem aML{t:TypeId}{I:Array Field}{l:List KSh}(K:T.P.underlying t=some (.struct I))(R:T.P.stoodInHeld t=false)(O:T.rB 0 I.toList=some l){x y:List KS}(S:x.map KS.sh=l)(U:y.map KS.sh=l) :
  (Op.equal t (lP (true,l) x) (lP (true,l) y)).run T.P w=.ok (decide (x=y)) w:=by
 have A:T.P.fieldsOf t=I:=by simp[Program.fieldsOf,K]
 have M:∀(z:List KS)(j:Nat) q u,(z.map KS.pv)[j]?=some q→(z.map KS.val).toArray[0+j]?=some u→bF (E:=⟨λ_=>none,λ_=>none,λ_=>0⟩) q u:=by intro z j q u e J;simp only[bgT,bgM,bgL,List.getElem?_toArray]at e J;obtain⟨k,N,rfl⟩:=e;obtain⟨V,B,rfl⟩:=J;rw[N]at B;cases B;exact KS.a5X k
 have he:=ZY (w:=w) 9998 (x.map KS.val).toArray (y.map KS.val).toArray I.toList (l.map KSh.sc) 0 (x.map KS.pv) (y.map KS.pv) _ (Aj O) (aMK S U) (M x) (M y) aY aY;have e:=run_equalIn_struct w 9999 t (x.map KS.val).toArray (y.map KS.val).toArray (by rw[A];exact K) R;rw[A,he]at e;simpa[Op.equal,Op.maxDepth,lP]using e
def Found(L:List (List KS × PV))(l:List MapEntry)(k:List KS)(i:Nat)(r:Option (Nat × Value)):Prop:=
 match uK k L i with
 |none=>r=none
 |some (j,pv)=>∃e:MapEntry,i≤j∧l[j-i]?=some e∧L[j-i]?=some (k,pv)∧r=some (j,e.val)
theorem Found.next{L:List (List KS × PV)}{u:List MapEntry}{k:List KS}{i:Nat}{r:Option (Nat × Value)}{e:List KS × PV}{y:MapEntry}(h:Found L u k (i+1) r)(l:e.1≠k):Found (e::L) (y::u) k i r:=by
 unfold Found at h ⊢;simp only[uK,aE l];split at h
 ·exact h
 ·rename_i j pv K;obtain⟨x,J,A,B,I⟩:=h;refine⟨x,by omega,?_,?_,I⟩
  ·rw[show j-i=(j-(i+1))+1 by omega];exact A
  ·rw[show j-i=(j-(i+1))+1 by omega];exact B
theorem Found.here{L:List (List KS × PV)}{l:List MapEntry}{k:List KS}{i:Nat}{e:List KS × PV}{j:MapEntry}(he:e.1=k):Found (e::L) (j::l) k i (some (i,j.val)):=by
 unfold Found;simp only[uK,aL he];refine⟨j,bgG _,by simp,?_,rfl⟩;subst he;simp
def zQ(sh:MSh)(L:List (List KS × PV))(l:List MapEntry):Prop:=
 l.length=Z' L∧∀(i:Nat) e j,L[i]?=some e→l[i]?=some j→e.1.map KS.sh=sh.2∧j.key=lP sh e.1
theorem zQ.tail{sh:MSh}{e:List KS × PV}{L:List (List KS × PV)}{l:MapEntry}{j:List MapEntry}(h:zQ sh (e::L) (l::j)):zQ sh L j:=
 ⟨by simpa using h.1,λi x y a b=>h.2 (i+1) x y (by simpa using a) (by simpa using b)⟩
theorem ky{s:KSh}{x:KS}(B:x.sh=s):∀{L:List (List KS × PV)}{j:List MapEntry}{i:Nat},zQ (false,[s]) L j→∃r,Instr.findNow s.desc x.val j i=some r∧Found L j [x] i r
 |[],j,i,h=>by
  have:j=[]:=by simpa using h.1
  subst this;exact⟨none,rfl,rfl⟩
 |e::L,j,i,h=>by
  cases j with
  |nil=>have:=h.1;simp at this
  |cons A j=>
  obtain⟨u,J⟩:=h.2 0 e A rfl rfl;obtain⟨I,N⟩:=e;cases I with
  |nil=>simp at u
  |cons y O=>
   simp only[bhJ,List.cons.injEq,List.map_eq_nil_iff]at u;obtain⟨M,rfl⟩:=u;have K:A.key=y.val:=by rw[J];rfl
   simp only[Instr.findNow,K,aqT B M];by_cases l:x=y
   ·subst l;simp only[decide_true];exact⟨_,rfl,Found.here rfl⟩
   ·simp only[l,decide_false];obtain⟨r,g1,g2⟩:=ky B (i:=i+1) h.tail;exact⟨r,g1,g2.next (by simp;exact λe=>l e.symm)⟩
theorem QT{t:TypeId}{y:Array Field}{l:List KSh}(I:T.P.underlying t=some (.struct y))(B:T.P.stoodInHeld t=false)(A:T.rB 0 y.toList=some l){x:List KS}(J:x.map KS.sh=l) :
  ∀{L:List (List KS × PV)}{j:List MapEntry}{i:Nat},zQ (true,l) L j→∃r,(Instr.findAsking t (lP (true,l) x) j i).run T.P w=.ok r w∧Found L j x i r
 |[],j,i,h=>by
  have:j=[]:=by simpa using h.1
  subst this;exact⟨none,rfl,rfl⟩
 |e::L,j,i,h=>by
  cases j with
  |nil=>have:=h.1;simp at this
  |cons K j=>
  obtain⟨M,N⟩:=h.2 0 e K rfl rfl;simp only[Instr.findAsking,Sem.run_bind,N,aML I B A J M,Result.andThen_ok];by_cases u:x=e.1
  ·subst u;simp only[decide_true,if_true,Sem.run_pure];exact⟨_,rfl,Found.here rfl⟩
  ·simp only[u,decide_false,bjE,if_false];obtain⟨r,g1,g2⟩:=QT I B A J (i:=i+1) h.tail;exact⟨r,g1,g2.next (λe=>u e.symm)⟩
theorem QV{t:TypeId}{sh:MSh}(h:T.rV t=some sh):(∃s,sh=(false,[s])∧T.IC t=some s)∨(∃e l,sh=(true,l)∧T.P.underlying t=some (.struct e)∧T.P.stoodInHeld t=false∧T.rB 0 e.toList=some l):=by
 unfold Tbl.rV at h;split at h
 ·rename_i e y;split at h
  ·rename_i u;simp only[bgM]at h;obtain⟨l,j,rfl⟩:=h;exact .inr ⟨e,l,rfl,y,u,j⟩
  ·cases h
 ·simp only[bgM]at h;obtain⟨s,x,rfl⟩:=h;exact .inl ⟨s,rfl,x⟩
theorem YX{t:TypeId}{sh:MSh}(A:T.rV t=some sh){k:List KS}(u:k.map KS.sh=sh.2){L:List (List KS × PV)}{j:List MapEntry}(h:zQ sh L j) :
  ∃r,(Instr.findKey t (lP sh k) j).run T.P w=.ok r w∧Found L j k 0 r:=by
 rcases QV A with⟨s,rfl,I⟩|⟨fs,l,rfl,hu,hp,hl⟩
 ·have B:=(AV I).1;cases k with
  |nil=>simp at u
  |cons x xs =>simp only[bhJ,List.cons.injEq,List.map_eq_nil_iff]at u;obtain⟨K,rfl⟩:=u;obtain⟨r,g1,g2⟩:=ky K (i:=0) h;refine⟨r,?_,g2⟩;have J:lP (false,[s]) [x]=x.val:=rfl;simp only[Instr.findKey,Sem.run_bind,run_underlying B,Result.andThen_ok,J,g1,Sem.run_pure]
 ·obtain⟨r,g1,g2⟩:=QT (w:=w) hu hp hl u (i:=0) h;cases j with
  |nil=>
   have:L=[]:=by simpa using h.1.symm
   subst this;refine⟨none,?_,rfl⟩;simp[Instr.findKey,run_underlying hu,Instr.findNow]
  |cons e j=>
   refine⟨r,?_,g2⟩;have y:Instr.findNow (.struct fs) (lP (true,l) k) (e::j) 0=none:=by simp[Instr.findNow,Instr.sameNow,lP]
   simp only[Instr.findKey,Sem.run_bind,run_underlying hu,Result.andThen_ok,y];exact g1
theorem ko{t:TypeId}{s:KSh}(e:T.IC t=some s)(em:Bool)(d:Nat)(x:KS):(Instr.checkKey em (d+1) t x.val).run T.P w=.ok () w:=by
 have j:=(AV e).1;simp only[Instr.checkKey,Sem.run_bind,run_underlying j,Result.andThen_ok];cases s<;>cases x<;>rfl
theorem QN{t:TypeId}{sh:MSh}(I:T.rV t=some sh){k:List KS}(A:k.map KS.sh=sh.2)(em:Bool):(Instr.checkKey em 10000 t (lP sh k)).run T.P w=.ok () w:=by
 rcases QV I with⟨s,rfl,u⟩|⟨e,l,rfl,hu,hp,hl⟩
 ·cases k with
  |nil=>simp at A
  |cons x xs =>simp only[bhJ,List.cons.injEq,List.map_eq_nil_iff]at A;obtain⟨R,rfl⟩:=A;exact ko u em 9999 x
 ·simp only[lP,if_true];obtain⟨m,W⟩:∃m:Nat,m=9999:=⟨_,rfl⟩;rw[show(10000:Nat)=m+1 by omega];simp only[Instr.checkKey,Sem.run_bind,run_underlying hu,Result.andThen_ok];rw[←Array.forIn_toList];have J:∀(e:List Field)(l:List KSh)(j:Nat),T.rB j e=some l→(∀(i:Nat) s,l[i]?=some s→∃x:KS,(k.map KS.val).toArray[j+i]?=some x.val) →
    (forIn e PUnit.unit (λf (_:PUnit)=>(do
     if f.name≠"_" then
      Instr.checkKey em m f.type (←part f.type (k.map KS.val).toArray f.offset)
      pure (ForInStep.yield PUnit.unit)
     else pure (ForInStep.yield PUnit.unit):Sem (ForInStep PUnit)))).run T.P w=.ok PUnit.unit w:=by
   intro e
   induction e with
   |nil=>intro l j _ _;simp
   |cons f e V=>
    intro l j h O;simp only[Tbl.rB]at h;split at h
    ·rename_i c cs K S;split at h
     ·rename_i M;cases h;obtain⟨x,R⟩:=O 0 c rfl;simp only[List.forIn_cons,Sem.run_bind,Sem.run_ite];rw[aL M.1];have B:=VL (w:=w) (AV K).2 (k.map KS.val).toArray f.offset x.val (by rw[M.2];simpa using R);simp only[Sem.run_bind,B,Result.andThen_ok];rw[show m=9998+1 by omega,ko K em 9998 x,←show m=9998+1 by omega];simp only[Result.andThen_ok,Sem.run_pure];exact V cs (j+1) S λi s u=>by obtain⟨y,U⟩:=O (i+1) s (by simpa using u);exact⟨y,by rw[show j+1+i=j+(i+1) by omega];exact U⟩
     ·cases h
    ·cases h
  have:=J e.toList l 0 hl λi s u=>by
   have N:Z' k=Z' l:=by rw[show l=k.map KS.sh from A.symm];simp
   have hi:i<Z' l:=(bhG.1 u).1;exact⟨k[i],by simp[show i<k.length by omega]⟩
  simp at this ⊢;rw[this];rfl
theorem aqM{L:List (List KS × PV)}{u:List MapEntry}{k:List KS}{r:Option (Nat × Value)}(h:Found L u k 0 r)(J:∀(i:Nat)(e:List KS × PV)(l:MapEntry),L[i]?=some e→u[i]?=some l→bF E e.2 l.val) :
  (mapOf L k=none∧r=none)∨∃j pv v,mapOf L k=some pv∧r=some (j,v)∧bF E pv v:=by
 unfold Found at h;unfold mapOf;split at h
 ·rename_i I;exact .inl ⟨by rw[I];rfl,h⟩
 ·rename_i j pv B;obtain⟨l,-,x,y,A⟩:=h;exact .inr ⟨j,pv,l.val,by rw[B];rfl,A,J _ _ l y x⟩
theorem abH{t Z R:TypeId}{sh:MSh}{y:TypeInfo}{z:Value}{X pk:PV}{x k:Value}{o:Nat}{g:oU}{l:List KS}{ok:Bool}(ht:T.P.underlying t=some (.map Z R))(N:T.rV Z=some sh)
  (hi:T.P.info? R=some y) (hz:y.zero=some z) (M:ofValue z=some X) (hx:bF E (.map o) x) (hk:bF E pk k) (ho:H o=some (.map sh g)) (J:keyOf sh pk=some l) (hW:cS E H w) :
  ∃v,(Instr.lookup t x k ok).run T.P w=.ok v w∧bF E (if ok then .tup [(g l).getD X,.bool (g l).isSome]else(g l).getD X) v:=by
 cases hx;obtain⟨hlt,Y,A,L,hh,⟨V,-⟩,rfl,B⟩:=hW.h o _ ho;obtain⟨U,K,-⟩:=K0 hk J;have S:zQ sh L Y.toList:=⟨by simpa using V,λi e O a b=>by have:=B i e O a (by simpa using b);exact⟨this.1,this.2.1⟩⟩;obtain⟨r,g1,g2⟩:=YX (w:=w) N K S;have g3:=aqM (E:=E) g2 λi e O a b=>(B i e O a (by simpa using b)).2.2;subst U;have I:(getObj o).run T.P w=.ok (.map Y A) w:=by simp[getObj,Sem.run,hh]
 have W:(zeroValue R).run T.P w=.ok z w:=by simp[zeroValue,typeInfo,run_program,hi,hz]
 simp only[Instr.lookup,Sem.run_bind,run_underlying ht,Result.andThen_ok,I,Sem.run_pure,QN N K,g1];rcases g3 with⟨g4,rfl⟩|⟨j,pv,v,g4,rfl,hr⟩
 ·simp only[W,Sem.run_bind,Result.andThen_ok,Sem.run_pure,g4,Option.getD_none,Option.isSome_none];cases ok
  ·exact⟨z,rfl,DO M⟩
  ·refine⟨_,rfl,.tup #[z,.bool false] rfl λj p u a b=>?_⟩
   match j with
   |0=>simp at a b;subst a;subst b;exact DO M
   |1=>simp at a b;subst a;subst b;exact .bool _
   |j+2=>simp at a
 ·simp only[Sem.run_pure,Result.andThen_ok,g4,biE,Option.isSome_some];cases ok
  ·exact⟨v,rfl,hr⟩
  ·refine⟨_,rfl,.tup #[v,.bool true] rfl λj p u a b=>?_⟩
   match j with
   |0=>simp at a b;subst a;subst b;exact hr
   |1=>simp at a b;subst a;subst b;exact .bool _
   |j+2=>simp at a
end
open Go Go.RowKit
section
variable {ds:List Deferred} {T:Tbl} {n:Nat} {E:Env} {F:PF} {H:PH} {a:Act} {w:World}
def Good(P:Program)(E:Env)(H:PH)(w:World)(o:Oper)(a:Act)(pv:PV):Prop:=
 ∃v j e,(execOp a.eval o).run P w=.ok (.value v) j∧bF e pv v∧cS e H j∧Ext E H w e H j
theorem Good.mk'{P:Program}{o:Oper}{pv:PV}{v:Value}(hW:cS E H w)(h:(execOp a.eval o).run P w=.ok (.value v) w)(r:bF E pv v):Good P E H w o a pv:=⟨v,w,E,h,r,hW,.refl E H w⟩
theorem Good.of{P:Program}{o:Oper}{pv:PV}{s:Sem Value}(he:execOp a.eval o=(do pure (.value (←s)):Sem Next))(h:Yields P E H w s pv):Good P E H w o a pv:=by
 obtain⟨v,y,e,j,l,u,x⟩:=h;exact⟨v,y,e,AG he j,l,u,x⟩
theorem Good.val{P:Program}{o:Oper}{pv:PV}{s:Sem Value}(hW:cS E H w)(he:execOp a.eval o=(do pure (.value (←s)):Sem Next))(h:∃v,s.run P w=.ok v w∧bF E pv v):Good P E H w o a pv:=by
 obtain⟨v,e,j⟩:=h;exact .of he (Yields.same hW e j)
theorem aGA{t:TypeId}{o:Oper}{x:Operand}{lo hi mx:Option Operand}{p:aS}{pl ph pm:Option aS}{e:TypeId}{s:Nat}{pv:PV}(X:o.op=.slice t x lo hi mx)(V:T.P.underlying t=some (.slice e))(U:T.size e=some s)
  (Y:T.opd x=some p) (R:T.opt lo=some pl) (O:T.opt hi=some ph) (K:T.opt mx=some pm) (S:¬(mx.isSome=true∧hi.isNone=true)) (j:aT (.slice s p pl ph pm) F H=some pv)
  (M:fU ds n E F a) (hW:cS E H w) (N:E.num=T.num):Good T.P E H w o a pv:=by
 refine Good.val hW (s:=Instr.sliceAt t (a.eval x) (lo.map a.eval) (hi.map a.eval) (mx.map a.eval)) (by unfold execOp;rw[X]) ?_;have u:pm≠none→hi≠none:=λh e=>by
  subst e;cases mx with
  |none=>simp[Tbl.opt]at K;exact h K.symm
  |some y=>exact S ⟨rfl,rfl⟩
 simp only[aT]at j;split at j
 ·rename_i v W;have r:=bQ Y W M N;split at j
  ·split at j
   ·rename_i l h B A;refine OO (len:=0) V U R O K r B A (.inl ⟨rfl,rfl⟩) ?_ M N;split at j
    ·exact .inl ⟨rfl,j⟩
    ·simp only[bjW]at j;obtain⟨m,I,J⟩:=j;exact .inr ⟨u aY,m,I,J⟩
   ·cases j
  ·split at j
   ·rename_i l h B A;refine OO V U R O K r B A (.inr (.inl ⟨_,_,rfl,rfl⟩)) ?_ M N;split at j
    ·exact .inl ⟨rfl,j⟩
    ·simp only[bjW]at j;obtain⟨m,I,J⟩:=j;exact .inr ⟨u aY,m,I,J⟩
   ·cases j
  ·split at j
   ·rename_i l h B A;refine OO V U R O K r B A (.inr (.inr ⟨_,_,_,rfl⟩)) ?_ M N;split at j
    ·exact .inl ⟨rfl,j⟩
    ·simp only[bjW]at j;obtain⟨m,I,J⟩:=j;exact .inr ⟨u aY,m,I,J⟩
   ·cases j
  ·cases j
 ·cases j
theorem rR{o:Oper}{c:Call}{b:Builtin}{s:Sem Value}{pv:PV}(u:o.op=.call c)(e:c.callee=.builtin b)(hb:∀cs,builtin b c.argTypes o.type cs (c.args.map a.eval)=(do pure (.value (←s)):Sem Next))
  (hW:cS E H w) (h:∃v,s.run T.P w=.ok v w∧bF E pv v):Good T.P E H w o a pv:=by
 obtain⟨v,j,l⟩:=h;refine .mk' hW ?_ l;unfold execOp;rw[u];simp[resolve,e,invoke,hb,j]
theorem aZG{xs:Array Operand}{x:Operand}(h:xs.toList=[x])(f:Operand→Value):xs.map f=#[f x]:=by
 apply Array.ext';simp[h]
theorem aFW{xs:Array Operand}{x y:Operand}(h:xs.toList=[x,y])(f:Operand→Value):xs.map f=#[f x,f y]:=by
 apply Array.ext';simp[h]
theorem a5B{α:Type}{xs:Array α}{x:α}(h:xs.toList=[x]):xs=#[x]:=by apply Array.ext';simp[h]
theorem size_data(s:ByteArray):Z' s.data.toList=s.size:=by rw[bjD];rfl
theorem aLX{o:Oper}{c:Call}{p:POp}{pv:PV}(S:o.op=.call c)(j:T.call o c=some p)(hw:p.gU=false)(hk:p.vC=false)(l:aT p F H=some pv)
  (M:fU ds n E F a) (hW:cS E H w) (N:E.num=T.num):Good T.P E H w o a pv:=by
 unfold Tbl.call at j;split at j
 ·rename_i b B;split at j
  ·
   rename_i x t A R;have V:=aZG A a.eval;have W:=a5B R;split at j
   ·rename_i k e K;cases j;simp[aT,aS.ev]at l;subst l;refine rR (s:=Builtin.len_ c.argTypes o.type (c.args.map a.eval)) S B (λcs=>rfl) hW ⟨goInt k,?_,.int _ _⟩;rw[V,W];simp[Builtin.len_,run_underlying K]
   ·rename_i K;simp only[bgM]at j;obtain⟨q,hq,rfl⟩:=j;simp only[aT]at l;split at l
    ·rename_i s0 I;cases l;have r:=bQ hq I M N;generalize J:a.eval x=ex at r;cases r with
     |str s=>
     refine rR (s:=Builtin.len_ c.argTypes o.type (c.args.map a.eval)) S B (λcs=>rfl) hW ⟨goInt s.size,?_,?_⟩
     ·rw[V,W,J];simp[Builtin.len_,run_underlying K]
     ·rw[size_data];exact .int _ _
    ·cases l
   ·rename_i e K;simp only[bgM]at j;obtain⟨q,hq,rfl⟩:=j;have β:∀(ad:Option Addr)(m cap:Nat),a.eval x=.slice ad m cap→Good T.P E H w o a (.int .i64 m):=by intro ad m cap J;refine rR (s:=Builtin.len_ c.argTypes o.type (c.args.map a.eval)) S B (λcs=>rfl) hW ⟨goInt m,?_,.int _ _⟩;rw[V,W,J];simp[Builtin.len_,run_underlying K]
    simp only[aT,bjW]at l;obtain⟨u,I,l⟩:=l;have r:=bQ hq I M N;generalize J:a.eval x=ex at r;cases u<;>simp only[PV.AW]at l<;>cases l
    all_goals
     cases r;exact β _ _ _ J
   ·rename_i kt et K;simp only[bgM]at j;obtain⟨q,hq,rfl⟩:=j;simp only[aT]at l;split at l
    ·rename_i m I;split at l
     ·rename_i sh g hg;cases l;have r:=bQ hq I M N;generalize J:a.eval x=ex at r;cases r;obtain⟨hlt,es,O,L,hh,⟨α,Z⟩,rfl,-⟩:=hW.h m _ hg;have U:(getObj m).run T.P w=.ok (.map es O) w:=by simp[getObj,Sem.run,hh]
      refine rR (s:=Builtin.len_ c.argTypes o.type (c.args.map a.eval)) S B (λcs=>rfl) hW ⟨goInt es.size,?_,?_⟩
      ·rw[V,W,J];simp[Builtin.len_,run_underlying K,U]
      ·rw[aHY Z,←α];exact .int _ _
     ·cases l
    ·cases l
   ·cases j
  ·
   split at j<;>try cases j
   split at j<;>try cases j
   split at j<;>cases j;simp[POp.gU]at hw
  ·
   rename_i x t A R;split at j
   ·rename_i e K;simp only[bgM]at j;obtain⟨q,hq,rfl⟩:=j;simp only[aT]at l;split at l
    ·rename_i I;cases l;have r:=bQ hq I M N;generalize J:a.eval x=ex at r;cases r;refine rR (s:=Builtin.cap_ c.argTypes o.type (c.args.map a.eval)) S B (λcs=>rfl) hW ⟨goInt 0,?_,.int _ _⟩;rw[aZG A a.eval,a5B R,J];simp[Builtin.cap_,run_underlying K]
    ·cases l
   ·cases j
  ·
   rename_i x y A;split at j<;>cases j;rename_i p q hp hq;simp only[aT]at l;split at l
   ·rename_i k m k' m' X Y;have r1:=bQ hp X M N;have r2:=bQ hq Y M N;split at l
    ·cases l;generalize J:a.eval x=ex at r1;generalize hy:a.eval y=ey at r2;cases r1;cases r2;refine rR (s:=Builtin.max_ c.argTypes o.type (c.args.map a.eval)) S B (λcs=>rfl) hW ⟨_,?_,.int _ _⟩;rw[aFW A a.eval,J,hy,run_max_int2];simp
    ·cases l
   ·cases l
  ·
   rename_i x y A;split at j<;>cases j;rename_i p q hp hq;simp only[aT]at l;split at l
   ·rename_i k m k' m' X Y;have r1:=bQ hp X M N;have r2:=bQ hq Y M N;split at l
    ·cases l;generalize J:a.eval x=ex at r1;generalize hy:a.eval y=ey at r2;cases r1;cases r2;refine rR (s:=Builtin.min_ c.argTypes o.type (c.args.map a.eval)) S B (λcs=>rfl) hW ⟨_,?_,.int _ _⟩;rw[aFW A a.eval,J,hy,run_min_int2];simp
    ·cases l
   ·cases l
  ·cases j
 ·split at j
  ·split at j<;>cases j;simp[POp.vC]at hk
  ·cases j
 ·simp only[bgM]at j;obtain⟨q,-,rfl⟩:=j;simp[POp.vC]at hk
 ·cases j
end
open Go Go.RowKit
section
variable {ds:List Deferred} {T:Tbl} {n:Nat} {E:Env} {F:PF} {H:PH} {a:Act} {w:World}
set_option maxHeartbeats 8000000 in
theorem aGB{o:Oper}{p:POp}{pv:PV}(B:T.op o=some p)(hn:p.mL=false)(hw:p.gU=false)(hk:p.vC=false)(A:aT p F H=some pv)
  (M:fU ds n E F a) (hW:cS E H w) (K:E.num=T.num):Good T.P E H w o a pv:=by
 unfold Tbl.op at B;split at B
 ·
  rename_i x J;simp only[bgM]at B;obtain⟨q,hq,rfl⟩:=B;exact .mk' hW (v:=a.eval x) (by unfold execOp;rw[J];simp) (bQ hq A M K)
 ·
  rename_i x J;simp only[bgM]at B;obtain⟨q,hq,rfl⟩:=B;exact .mk' hW (v:=a.eval x) (by unfold execOp;rw[J];simp) (bQ hq A M K)
 ·
  rename_i c x y J;split at B<;>cases B;rename_i p1 p2 p3 O V h3;simp only[aT]at A;split at A
  ·rename_i t I;have r:=bQ O I M K;generalize U:a.eval c=ec at r;cases r;refine .mk' hW (v:=if t then a.eval x else a.eval y) (by unfold execOp;rw[J];simp[U,asBool]) ?_;cases t
   ·exact bQ h3 (by simpa using A) M K
   ·exact bQ V (by simpa using A) M K
  ·cases A
 ·
  simp only[bgM]at B;obtain⟨z,-,rfl⟩:=B;simp[POp.mL]at hn
 ·
  rename_i e x J;simp only[bgM]at B;obtain⟨q,hq,rfl⟩:=B;generalize ρ:T.Hf o.dst=ro at *
  cases ro with
  |false=>simp[POp.mL]at hn
  |true=>
   simp only[aT]at A;split at A
   ·rename_i v I;split at A
    ·rename_i O;cases A;exact .of (s:=Instr.box e (a.eval x)) (by unfold execOp;rw[J]) (aqA hW (bQ hq I M K) O)
    ·cases A
   ·cases A
 ·
  rename_i t parts J;split at B
  ·rename_i z fs hz N;split at B
   ·rename_i hm;simp only[bgM]at B;obtain⟨pl,γ,rfl⟩:=B;simp only[aT,bgM]at A;obtain⟨out,X,rfl⟩:=A;have S:=kk (T:=T) (w:=w) hz (.inl ⟨fs,N,hm,γ⟩) X M K;refine Good.val hW ?_ S;unfold execOp;rw[J]
   ·cases B
  ·rename_i z k e hz N;split at B
   ·rename_i s R;simp only[bgM]at B;obtain⟨pl,γ,rfl⟩:=B;simp only[aT,bgM]at A;obtain⟨out,X,rfl⟩:=A;have S:=kk (T:=T) (w:=w) hz (.inr ⟨k,e,s,N,R,γ⟩) X M K;refine Good.val hW ?_ S;unfold execOp;rw[J]
   ·cases B
  ·cases B
 ·
  rename_i t len parts J;split at B
  ·rename_i e N;split at B
   ·rename_i s z pl R hz γ;split at B
    ·rename_i κ;cases B;generalize ρ:T.Hf o.dst=ro at *
     cases ro with
     |false=>simp[POp.mL]at hn
     |true=>
      simp only[aT]at A;split at A
      ·rename_i η;simp only[bgM]at A;obtain⟨out,X,rfl⟩:=A;have S:=Gs (T:=T) N R hz κ.1 κ.2 γ η.2 X M K hW;refine Good.of ?_ S;unfold execOp;rw[J]
      ·cases A
    ·cases B
   ·cases B
  ·cases B
 ·
  rename_i t x J;split at B
  ·rename_i k q hg R hq;cases B;simp only[aT]at A;split at A
   ·rename_i v I;simp only[bgM]at A;obtain⟨cs,β,rfl⟩:=A;have U:=bQ hq I M K;have S:=l6 (T:=T) hg R hW U β;refine Good.val hW (s:=Instr.loadAt t (a.eval x)) ?_ S;unfold execOp;rw[J]
   ·cases A
  ·rename_i k q hg hq;cases B;simp only[aT]at A;split at A
   ·rename_i v I;split at A
    ·rename_i v' β;cases A;have U:=bQ hq I M K;have S:=An (T:=T) hg hW U β;refine Good.val hW (s:=Instr.loadAt t (a.eval x)) ?_ S;unfold execOp;rw[J]
    ·cases A
   ·cases A
  ·cases B
 ·
  split at B<;>cases B;simp[POp.gU]at hw
 ·
  rename_i x J;simp only[bgM]at B;obtain⟨q,hq,rfl⟩:=B;simp only[aT]at A;split at A
  ·rename_i I;cases A;have r:=bQ hq I M K;refine .mk' hW (v:=a.eval x) ?_ r;generalize U:a.eval x=ex at r;cases r;unfold execOp;rw[J];simp[U]
  ·rename_i I;cases A;have r:=bQ hq I M K;refine .mk' hW (v:=a.eval x) ?_ r;obtain⟨b,φ,U⟩:=ef r;unfold execOp;rw[J];simp[U]
  ·cases A
 ·
  rename_i b t x y yt J;split at B
  ·rename_i p q Y hq;have W:∀b',b=b'→aT (.bin b' p q) F H=some pv→Good T.P E H w o a pv:=by
    intro b' hb A;subst hb;simp only[aT]at A;split at A
    ·rename_i v1 v2 O V;exact .val hW (s:=do eqGuard b t x y (a.eval x) (a.eval y);binOp b t (a.eval x) (a.eval y)) (by unfold execOp;rw[J]) (aLU (bQ Y O M K) (bQ hq V M K) A t x y)
    ·cases A
   have α:∀neg,b=(if neg then .neq else .eql)→T.P.underlying t=some .bool→aT (.eqb neg p q) F H=some pv→Good T.P E H w o a pv:=by
    intro neg hb Z A;simp only[aT]at A;split at A
    ·rename_i v1 v2 O V;cases A;have r1:=bQ Y O M K;have r2:=bQ hq V M K;generalize U:a.eval x=ex at r1;generalize S:a.eval y=ey at r2;cases r1;cases r2;refine .val hW (s:=do eqGuard b t x y (a.eval x) (a.eval y);binOp b t (a.eval x) (a.eval y)) (by unfold execOp;rw[J]) ⟨_,?_,.bool _⟩;rw[U,S,hb];exact aMJ neg v1 v2 x y Z
    ·cases A
   have δ:∀neg {e},b=(if neg then .neq else .eql)→T.P.underlying t=some (.slice e)→q=.const .aH→aT (.isNil neg p) F H=some pv→Good T.P E H w o a pv:=by
    intro neg e hb Z ο A;subst ο;simp only[aT]at A;cases O:p.ev F with
    |none=>rw[O]at A;cases A
    |some v1 =>rw[O,bjX,bgM]at A;obtain⟨c,ε,rfl⟩:=A;have r1:=bQ Y O M K;have r2:=bQ (F:=F) hq rfl M K;generalize U:a.eval x=ex at r1;generalize S:a.eval y=ey at r2;cases r2;refine .val hW (s:=do eqGuard b t x y (a.eval x) (a.eval y);binOp b t (a.eval x) (a.eval y)) (by unfold execOp;rw[J]) ⟨_,?_,.bool _⟩;rw[U,S,hb];exact aqK neg r1 ε x y Z
   have ι:∀neg ks,b=(if neg then .neq else .eql)→T.flat t=some ks→aT (.eqs neg ks p q) F H=some pv→Good T.P E H w o a pv:=by
    intro neg ks hb Z A;simp only[aT]at A;split at A
    ·rename_i v1 v2 O V;simp only[bgM]at A;obtain⟨c,ε,rfl⟩:=A;refine .val hW (s:=do eqGuard b t x y (a.eval x) (a.eval y);binOp b t (a.eval x) (a.eval y)) (by unfold execOp;rw[J]) ⟨_,?_,.bool _⟩;rw[hb];exact aGK neg (bQ Y O M K) (bQ hq V M K) ε x y Z
    ·cases A
   split at B
   ·split at B
    ·cases B;exact W _ rfl A
    ·cases B;exact W _ rfl A
    ·rename_i Z;cases B;exact α false rfl Z A
    ·simp only[bgM]at B;obtain⟨ks,ζ,rfl⟩:=B;exact ι false ks rfl ζ A
    ·rename_i Z;split at B
     ·cases B;exact δ false rfl Z rfl A
     ·cases B
    ·cases B
   ·split at B
    ·cases B;exact W _ rfl A
    ·cases B;exact W _ rfl A
    ·rename_i Z;cases B;exact α true rfl Z A
    ·simp only[bgM]at B;obtain⟨ks,ζ,rfl⟩:=B;exact ι true ks rfl ζ A
    ·rename_i Z;split at B
     ·cases B;exact δ true rfl Z rfl A
     ·cases B
    ·cases B
   ·cases B;exact W _ rfl A
  ·cases B
 ·
  rename_i u t x J;simp only[bgM]at B;obtain⟨q,hq,rfl⟩:=B;simp only[aT]at A;split at A
  ·rename_i v I;exact .val hW (s:=Op.unary u (a.eval x)) (by unfold execOp;rw[J]) (aXZ (bQ hq I M K) A)
  ·cases A
 ·
  rename_i s d x J;split at B
  ·rename_i k k' q R hd hq;cases B;simp only[aT]at A;split at A
   ·rename_i m I;cases A;have r:=bQ hq I M K;generalize U:a.eval x=ex at r;cases r;refine .val hW (s:=convert s d (a.eval x)) (by unfold execOp;rw[J]) ⟨_,?_,.int _ _⟩;rw[U];simp[convert,run_underlying R,run_underlying hd,Conv.intToInt]
   ·cases A
  ·rename_i q R hd hq;cases B;simp only[aT]at A;split at A
   ·rename_i l I;cases A;have r:=bQ hq I M K;refine .val hW (s:=convert s d (a.eval x)) (by unfold execOp;rw[J]) ⟨a.eval x,?_,r⟩;generalize U:a.eval x=ex at r;cases r;simp[convert,run_underlying R,run_underlying hd]
   ·cases A
  ·rename_i e q R hd hq;split at B
   ·rename_i he;cases B;simp only[aT]at A;split at A
    ·rename_i v I;split at A
     ·rename_i rows hr;simp only[bgM]at A;obtain⟨l,hl,rfl⟩:=A;exact .val hW (s:=convert s d (a.eval x)) (by unfold execOp;rw[J]) (yu R he hd hW (bQ hq I M K) hr hl)
     ·cases A
    ·cases A
   ·cases B
  ·cases B
 ·
  rename_i f first captured J
  split at B
  ·rename_i m cs hm β;split at B
   ·rename_i hf;cases B;simp only[aT,bgM]at A;obtain⟨vs,υ,rfl⟩:=A;have r:=GO β υ M K;refine .val hW (s:=Instr.makeFunc (.func f) (first.map a.eval) (captured.map a.eval)) (by unfold execOp;rw[J]) ⟨.func (.func f) #[] (captured.map a.eval),?_,?_⟩
    ·have:first=#[]:=Array.eq_empty_of_size_eq_zero hf.2
     subst this;simp[Instr.makeFunc]
    ·have hl:=r.len;have:=bF.fn (E:=E) (name:=m) (captured:=vs) (captured.map a.eval) (by simpa using hl) (λj p v a b=>r.at_ j p v a (by simpa using b));rw[K,hf.1]at this;exact this
   ·cases B
  ·cases B
 ·
  split at B
  ·simp only[bgM]at B;obtain⟨z,-,rfl⟩:=B;simp[POp.mL]at hn
  ·cases B
 ·
  rename_i t x k ok J;split at B
  ·rename_i kt et N;split at B
   ·rename_i sh z p1 q1 τ hz Y hq;simp only[bgM]at B;obtain⟨pz,ξ,rfl⟩:=B;simp only[bjW]at hz;obtain⟨χ,hi,hz⟩:=hz;simp only[aT]at A;split at A
    ·rename_i m kv O V;split at A
     ·rename_i Γ g ω h3 h4;split at A
      ·rename_i he;subst he;cases A;exact .val hW (s:=Instr.lookup t (a.eval x) (a.eval k) ok) (by unfold execOp;rw[J]) (abH N τ hi hz ξ (bQ Y O M K) (bQ hq V M K) h3 h4 hW)
      ·cases A
     ·cases A
    ·cases A
   ·cases B
  ·cases B
 ·
  split at B
  ·split at B<;>cases B;simp[POp.gU]at hw
  ·cases B
 ·
  split at B
  ·split at B<;>cases B;simp[POp.gU]at hw
  ·cases B
 ·
  split at B
  ·split at B
   ·split at B<;>cases B;simp[POp.mL]at hn
   ·cases B
  ·cases B
 ·
  rename_i t x lo hi mx J;split at B
  ·rename_i e p l h m N U hl hh hm;split at B
   ·cases B
   ·rename_i μ;simp only[bgM]at B;obtain⟨s,R,rfl⟩:=B;exact aGA J N R U hl hh hm μ A M hW K
  ·rename_i p l h N U hl hh hm;cases B;have ν:mx=none:=by
    cases mx with
    |none=>rfl
    |some y=>simp only[Tbl.opt,bgM]at hm;obtain⟨_,-,hq⟩:=hm;cases hq
   subst ν;simp only[aT]at A;split at A
   ·rename_i str I;split at A
    ·rename_i li ψ bl bh;split at A
     ·rename_i hb;cases A;exact .val hW (s:=Instr.sliceAt t (a.eval x) (lo.map a.eval) (hi.map a.eval) (Option.map a.eval none)) (by unfold execOp;rw[J]) (I1 N hl hh (bQ U I M K) bl bh hb.1 hb.2.1 hb.2.2 M K)
     ·cases A
    ·cases A
   ·cases A
  ·rename_i n' e p N U hl hh hm;have θ:∀{y:Option Operand},T.opt y=some none→y=none:=by
    intro y S;cases y with
    |none=>rfl
    |some y=>simp only[Tbl.opt,bgM]at S;obtain⟨_,-,hq⟩:=S;cases hq
   have O:=θ hl;have V:=θ hh;have h3:=θ hm;subst O V h3;simp only[bgM]at B;obtain⟨s,R,rfl⟩:=B;simp only[aT]at A;split at A
   ·rename_i cs I;split at A
    ·rename_i hb;cases A;exact .val hW (s:=Instr.sliceAt t (a.eval x) (Option.map a.eval none) (Option.map a.eval none) (Option.map a.eval none)) (by unfold execOp;rw[J]) (ajB N R (bQ U I M K) hb.1 hb.2.2 M K)
    ·cases A
   ·cases A
  ·cases B
 ·
  rename_i t x f J;split at B
  ·rename_i fs q N hq;split at B
   ·rename_i fd hf;split at B
    ·rename_i s R;cases B;simp only[aT]at A;split at A
     ·rename_i I;cases A;exact .val hW (s:=Instr.fieldAt t (a.eval x) f) (by unfold execOp;rw[J]) (al N hf R (bQ hq I M K) (.inl ⟨_,_,_,_,rfl,rfl⟩))
     ·rename_i I;cases A;exact .val hW (s:=Instr.fieldAt t (a.eval x) f) (by unfold execOp;rw[J]) (al N hf R (bQ hq I M K) (.inr ⟨_,rfl,rfl⟩))
     ·cases A
    ·cases B
   ·cases B
  ·cases B
 ·
  rename_i t x f J;split at B
  ·rename_i fs q N hq;split at B
   ·rename_i fd hf;split at B
    ·rename_i k hg R;cases B;simp only[aT]at A;split at A
     ·rename_i cs I;split at A
      ·rename_i η;cases A;exact .val hW (s:=Instr.field t (a.eval x) f) (by unfold execOp;rw[J]) (aGL N hf hg R (bQ hq I M K) η)
      ·cases A
     ·cases A
    ·rename_i k hg;cases B;simp only[aT]at A;split at A
     ·rename_i cs I;exact .val hW (s:=Instr.field t (a.eval x) f) (by unfold execOp;rw[J]) (aMM N hf hg (bQ hq I M K) A)
     ·cases A
    ·cases B
   ·cases B
  ·cases B
 ·
  rename_i t x i J;split at B
  ·rename_i e p q N Y hq;simp only[bgM]at B;obtain⟨s,R,rfl⟩:=B;simp only[aT]at A;split at A
   ·rename_i s0 rows k m O V;have r1:=bQ Y O M K;have r2:=bQ hq V M K;generalize S:a.eval i=ey at r2;cases r2;split at A
    ·rename_i B;obtain⟨rfl,h0⟩:=B;split at A
     ·rename_i r hr;cases A;refine .val hW (s:=Instr.indexAt t (a.eval x) (a.eval i)) (by unfold execOp;rw[J]) ?_;rw[S];exact a1M N R r1 h0 hr
     ·cases A
    ·cases A
   ·rename_i o' s0 φ len k m O V;have r1:=bQ Y O M K;have r2:=bQ hq V M K;generalize S:a.eval i=ey at r2;cases r2;split at A
    ·rename_i B;obtain⟨rfl,h0,hi⟩:=B;cases A;refine .val hW (s:=Instr.indexAt t (a.eval x) (a.eval i)) (by unfold execOp;rw[J]) ?_;rw[S];exact aUG N R r1 h0 hi
    ·cases A
   ·cases A
  ·rename_i e p q k N Y hq;simp only[bgM]at B;obtain⟨s,R,rfl⟩:=B;simp only[aT]at A;split at A
   ·rename_i O V;have r1:=bQ Y O M K;have r2:=bQ hq V M K;generalize S:a.eval i=ey at r2;cases r2;split at A
    ·rename_i B;cases A;refine .val hW (s:=Instr.indexAt t (a.eval x) (a.eval i)) (by unfold execOp;rw[J]) ?_;rw[S];exact Ag N R r1 B.1 B.2 (.inl ⟨_,_,_,_,rfl,rfl⟩)
    ·cases A
   ·rename_i O V;have r1:=bQ Y O M K;have r2:=bQ hq V M K;generalize S:a.eval i=ey at r2;cases r2;split at A
    ·rename_i B;cases A;refine .val hW (s:=Instr.indexAt t (a.eval x) (a.eval i)) (by unfold execOp;rw[J]) ?_;rw[S];exact Ag N R r1 B.1 B.2 (.inr ⟨_,rfl,rfl⟩)
    ·cases A
   ·cases A
  ·cases B
 ·
  rename_i t x i J;split at B
  ·rename_i e p q k N Y hq;split at B
   ·rename_i s g R hg;cases B;simp only[aT]at A;split at A
    ·rename_i O V;have r1:=bQ Y O M K;have r2:=bQ hq V M K;generalize S:a.eval i=ey at r2;cases r2;split at A
     ·rename_i B;refine .val hW (s:=Instr.index t (a.eval x) (a.eval i)) (by unfold execOp;rw[J]) ?_;rw[S];exact aHQ N R hg r1 B.1 B.2 A
     ·cases A
    ·cases A
   ·cases B
  ·rename_i p q N Y hq;cases B;simp only[aT]at A;split at A
   ·rename_i O V;have r1:=bQ Y O M K;have r2:=bQ hq V M K;generalize S:a.eval i=ey at r2;cases r2;split at A
    ·rename_i B;refine .val hW (s:=Instr.index t (a.eval x) (a.eval i)) (by unfold execOp;rw[J]) ?_;rw[S];exact aaP N r1 B A
    ·cases A
   ·cases A
  ·cases B
 ·
  rename_i x i J;simp only[bgM]at B;obtain⟨q,hq,rfl⟩:=B;simp only[aT]at A;split at A
  ·rename_i vs I;have r:=bQ hq I M K;generalize U:a.eval x=ex at r;cases r with
   |tup us hl hr=>
   obtain⟨u,N,σ⟩:=Vs hl hr A;refine .val hW (s:=Instr.extract (a.eval x) i) (by unfold execOp;rw[J]) ⟨u,?_,σ⟩;rw[U];simp[Instr.extract,N]
  ·cases A
 ·rename_i c J;exact aLX J B hw hk A M hW K
 ·cases B
end
open Go Go.RowKit
def Env.own(E:Env)(b n:Nat):Env:=⟨E.G,upd E.sz b (some n),E.num⟩
section
variable {ds:List Deferred} {T:Tbl} {n:Nat} {E:Env} {F:PF} {H:PH} {a:Act} {w:World}
theorem Env.a5O(hW:cS E H w)(m:Nat):E.le (E.own w.heap.size m):=by
 refine⟨λb ds h=>h,λb k h=>?_,rfl⟩;have:=hW.aiN h;simp only[Env.own];rw[gw _ _ Om];exact h
theorem DZ{s:Nat}{rs:List (List PV)}(h:∀r∈rs,Z' r=s){i j:Nat}{pv:PV}(e:at2 rs i j=some pv):i<Z' rs∧j<s:=by
 unfold at2 at e;cases l:rs[i]? with
 |none=>simp[l]at e
 |some r=>
  rw[l,bjX]at e;have u:=h r (bhX l);refine⟨?_,?_⟩
  ·rcases bgV i rs.length with h'|h'
   ·exact h'
   ·rw[bhQ h']at l;cases l
  ·rcases bgV j r.length with h'|h'
   ·omega
   ·rw[bhQ h']at e;cases e
def pX(E:Env)(s:Nat)(rs:List (List PV))(cs:Array Value):Prop:=
 (∀r∈rs,Z' r=s)∧Z' rs*s≤cs.size∧∀i j pv,at2 rs i j=some pv→∃u,cs[i*s+j]?=some u∧u.oneCell'=true∧bF E pv u
theorem pX.of_flat{s:Nat}{rs:List (List PV)}{cs:Array Value}(h:tL E rs.flatten cs)(l:∀r∈rs,Z' r=s):pX E s rs cs:=by
 refine⟨l,by rw[h.1,vE rs l];exact bgG _,λi j pv u=>?_⟩;obtain⟨-,x⟩:=DZ l u;have e:=DJ rs i j l x;rw[u]at e;have hlt:i*s+j<cs.size:=by
  rw[h.1];rcases bgV (i*s+j) rs.flatten.length with h'|h'
  ·exact h'
  ·rw[bhQ h']at e;cases e
 exact⟨cs[i*s+j],bjY hlt,h.2.1 _ (Array.getElem_mem_toList hlt),h.2.2 _ pv _ e (bjY hlt)⟩
theorem pX.mono{e:Env}(A:E.le e){s:Nat}{rs:List (List PV)}{cs:Array Value}(h:pX E s rs cs):pX e s rs cs:=
 ⟨h.1,h.2.1,λi j pv B=>by obtain⟨u,l,x,y⟩:=h.2.2 i j pv B;exact⟨u,l,x,y.mono A⟩⟩
theorem dS(H:PH)(o q:Nat)(x:cI):(H.set o x).f q=if q=o then some x else H.f q:=rfl
theorem cS.ZL(hW:cS E H w){s:Nat}{rs:List (List PV)}{cs:Array Value}(ty:TypeId)(h:pX E s rs cs) :
  cS (E.own w.heap.size cs.size) (H.set w.heap.size (.rows s rs)) (w.alloc (.cells cs ty))∧Ext E H w (E.own w.heap.size cs.size) (H.set w.heap.size (.rows s rs)) (w.alloc (.cells cs ty)):=by
 have B:=Env.a5O hW cs.size;refine⟨⟨λb ds hb=>?_,λo x l=>?_,λo m J=>?_⟩,⟨B,rfl,rfl,rfl,by simp,λb hb _=>Below.heap_alloc w _ b hb,λo x l=>?_,λb ds hb=>.inl hb⟩⟩
 ·obtain⟨y,I,M,A⟩:=hW.g b ds hb;have hlt:=hW.aGV hb;refine⟨λx N=>y x ?_,I,M,(Below.heap_alloc w _ b hlt).trans A⟩;rw[dS,aE Om]at N;exact N
 ·rw[dS]at l;split at l
  ·rename_i e;subst e;cases l;refine⟨by simp,cs,ty,heap_alloc_new w _,by simp[Env.own,upd],h.1,h.2.1,λi j pv R=>?_⟩;obtain⟨u,y,A,O⟩:=h.2.2 i j pv R;exact⟨u,y,A,O.mono B⟩
  ·obtain⟨y,A⟩:=hW.h o x l;exact⟨by simp;omega,A.mono B (Below.heap_alloc w _ o y)⟩
 ·simp only[Env.own,upd]at J;split at J
  ·rename_i e;cases J;subst e;exact⟨cs,ty,(0,0),heap_alloc_new w _,rfl⟩
  ·obtain⟨K,I,M,y,A⟩:=hW.s o m J;exact⟨K,I,M,(Below.heap_alloc w _ o (hW.aiN J)).trans y,A⟩
 ·rw[dS]at l;split at l
  ·rename_i e;exact .inr Om
  ·exact .inl ⟨x,l⟩
theorem cS.a4X(hW:cS E H w)(sh:MSh):cS E (H.set w.heap.size (.map sh (λ_=>none))) (w.alloc (.map #[] 0))∧Ext E H w E (H.set w.heap.size (.map sh (λ_=>none))) (w.alloc (.map #[] 0)):=by
 refine⟨⟨λb ds hb=>?_,λo x j=>?_,λo m I=>?_⟩,⟨.refl E,rfl,rfl,rfl,by simp,λb hb _=>Below.heap_alloc w _ b hb,λo x j=>?_,λb ds hb=>.inl hb⟩⟩
 ·obtain⟨u,l,B,y⟩:=hW.g b ds hb;have hlt:=hW.aGV hb;refine⟨λx J=>u x ?_,l,B,(Below.heap_alloc w _ b hlt).trans y⟩;rw[dS,aE Om]at J;exact J
 ·rw[dS]at j;split at j
  ·rename_i e;subst e;cases j;exact⟨by simp,#[],0,[],heap_alloc_new w _,⟨rfl,List.nodup_nil⟩,rfl,λi e K h=>by simp at h⟩
  ·obtain⟨u,y⟩:=hW.h o x j;exact⟨by simp;omega,y.mono (.refl E) (Below.heap_alloc w _ o u)⟩
 ·obtain⟨A,l,B,u,y⟩:=hW.s o m I;exact⟨A,l,B,(Below.heap_alloc w _ o (hW.aiN I)).trans u,y⟩
 ·rw[dS]at j;split at j
  ·rename_i e;exact .inr Om
  ·exact .inl ⟨x,j⟩
def a7Q(P:Program)(E:Env)(H:PH)(w:World)(o:Oper)(a:Act)(l:Nat→PV)(x:cI):Prop:=
 ∃v j e q,(execOp a.eval o).run P w=.ok (.value v) j∧H q=none∧bF e (l q) v∧cS e (H.set q x) j∧Ext E H w e (H.set q x) j
theorem De{cs:List PV}{vs:Array Value}(h:tL E cs vs):pX E cs.length [cs] vs:=by
 refine .of_flat (by simpa using h) aY
theorem agH(E:Env)(b m:Nat):(E.own b m).sz b=some m:=by simp[Env.own,upd]
theorem aqC{o:Oper}{c:Call}{p:POp}(e:T.call o c=some p):p.mL=false:=by
 unfold Tbl.call at e
 repeat' (first|(split at e)|(simp only[bgM]at e;obtain⟨_,-,rfl⟩:=e;rfl)|(cases e;rfl)|(cases e;done))
theorem aNT{o:Oper}{p:POp}{mk:Nat→PV}{x:cI}(j:T.op o=some p)(V:p.mL=true)(A:eU p F=some (mk,x))(hA:fU ds n E F a)(hW:cS E H w)(hN:E.num=T.num):a7Q T.P E H w o a mk x:=by
 have B:=hW.aHP;unfold Tbl.op at j;split at j
 case h_4=>
  rename_i e M;simp only[bgM]at j;obtain⟨z,hz,rfl⟩:=j;simp only[eU,biQ.injEq,Prod.mk.injEq]at A;obtain⟨rfl,rfl⟩:=A;obtain⟨i,Y,hi,U,X⟩:=XZ (E:=E) hz;obtain⟨Z,h2⟩:=hW.ZL e (De X);have u:(Instr.alloc e true (.tuple #[])).run T.P w=.ok (.pointer (some ⟨w.heap.size,0,none⟩)) (w.alloc (.cells Y.cells e)):=by simp[Instr.alloc,zeroValue,typeInfo,hi,U,newVar,newRow]
  refine⟨_,_,_,w.heap.size,AG ?_ u,B,?_,Z,h2⟩
  ·unfold execOp;rw[M]
  ·have:=bF.ptr (E:=E.own w.heap.size Y.cells.size) w.heap.size z.length 0 0;simpa using this
 case h_5=>
  rename_i e y M;simp only[bgM]at j;obtain⟨q,hq,rfl⟩:=j;generalize ζ:T.Hf o.dst=ro at *
  cases ro with
  |true=>simp[POp.mL]at V
  |false=>
   simp only[eU]at A;split at A
   ·rename_i v W;split at A
    ·rename_i Z;simp only[biQ.injEq,Prod.mk.injEq]at A;obtain⟨rfl,rfl⟩:=A;obtain⟨c1,c2,c3⟩:=EA (bQ hq W hA hN) Z;obtain⟨g1,g2⟩:=hW.ZL e (De (E:=E) (cs:=v.cells) (vs:=(a.eval y).cells) ⟨c1,c2,c3⟩);have u:(Instr.box e (a.eval y)).run T.P w=.ok (.pointer (some ⟨w.heap.size,0,none⟩)) (w.alloc (.cells (a.eval y).cells e)):=by simp[Instr.box,newVar,newRow]
     refine⟨_,_,_,w.heap.size,AG ?_ u,B,?_,g1,g2⟩
     ·unfold execOp;rw[M]
     ·have:=bF.ptr (E:=E.own w.heap.size (a.eval y).cells.size) w.heap.size v.cells.length 0 0;simpa using this
    ·cases A
   ·cases A
 case h_7=>
  rename_i t len parts M;split at j
  ·rename_i e hu;split at j
   ·rename_i s z pl hs hz ε;split at j
    ·rename_i I;cases j;generalize ζ:T.Hf o.dst=ro at *
     cases ro with
     |true=>simp[POp.mL]at V
     |false=>
      simp only[eU]at A;split at A
      ·rename_i δ;simp only[bgM,Prod.mk.injEq]at A;obtain⟨out,γ,rfl,rfl⟩:=A;obtain⟨us,u,K,O,β⟩:=ZR (w:=w) hu hs hz I.1 I.2 ε δ.2 γ hA hN;obtain⟨g1,g2⟩:=hW.ZL e (pX.of_flat K O);refine⟨_,_,_,w.heap.size,AG ?_ u,B,?_,g1,g2⟩
       ·unfold execOp;rw[M]
       ·have θ:us.size=len*s:=by rw[K.1,vE out O,β]
        refine .osl (n:=us.size) rfl rfl (.inr aY) (bgG _) ?_ (agH _ _ _) (by rw[θ];omega);have:len*1≤len*s:=biW _ I.2;simp only[maxLen];omega
      ·cases A
    ·cases j
   ·cases j
  ·cases j
 case h_15=>
  rename_i t M;split at j
  case h_2=>cases j
  simp only[bgM]at j;obtain⟨sh,-,rfl⟩:=j;simp only[eU,biQ.injEq,Prod.mk.injEq]at A;obtain⟨rfl,rfl⟩:=A;obtain⟨g1,g2⟩:=hW.a4X sh;have u:(Instr.makeMap t (Option.map a.eval none)).run T.P w=.ok (.map (some w.heap.size)) (w.alloc (.map #[] 0)):=by simp[Instr.makeMap]
  refine⟨_,_,_,w.heap.size,AG ?_ u,B,.map _,g1,g2⟩;unfold execOp;rw[M]
 case h_19=>
  rename_i t l c M;split at j
  ·rename_i e hu;split at j
   ·rename_i i z p q hi hz hp hq;split at j
    ·rename_i I;cases j;simp only[eU]at A;split at A
     ·rename_i k1 m1 k2 R W ι;split at A
      ·rename_i S;simp only[biQ.injEq,Prod.mk.injEq]at A;obtain⟨rfl,rfl⟩:=A;obtain⟨h0,Z,h2,h3,-⟩:=S;have r1:=bQ hp W hA hN;have r2:=bQ hq ι hA hN;generalize hx:a.eval l=ex at r1;generalize hy:a.eval c=ey at r2;cases r1;cases r2;obtain⟨i',Y,α,U,X⟩:=XZ (E:=E) hz;rw[hi]at α;cases α;have u:=run_make w t e i Y hu hi U k1 k2 m1 R h0 Z (by rw[Int.mul_comm];omega) h3;have K:=X.aZR (len:=R.toNat) I.1 I.2;have N:pX E i.size (bgA R.toNat z) (madeCells Y.cells (R.toNat*i.size)):=
        pX.of_flat K (λr hr=>by rw[(List.mem_replicate.1 hr).2];exact I.1)
       have η:pX E i.size (bgA m1.toNat z) (madeCells Y.cells (R.toNat*i.size)):=by
        refine⟨λr hr=>by rw[(List.mem_replicate.1 hr).2];exact I.1,?_,λa b pv J=>N.2.2 a b pv ?_⟩
        ·have:=N.2.1;simp only[bjP]at this ⊢;have h5:m1.toNat*i.size≤R.toNat*i.size:=bhF _ Om;omega
        ·unfold at2 at J ⊢;rw[bkC]at J ⊢;split at J
         ·rw[aL Om];exact J
         ·simp at J
       obtain⟨g1,g2⟩:=hW.ZL e η;refine⟨_,_,_,w.heap.size,AG (s:=Instr.makeSlice t (.int k1 m1) (.int k2 R)) ?_ u,B,?_,g1,g2⟩
       ·unfold execOp;rw[M];simp only[hx,hy]
       ·refine .osl (n:=(madeCells Y.cells (R.toNat*i.size)).size) rfl rfl (.inr aY) Om (by simp only[maxLen];omega) (agH _ _ _) (by rw[size_madeCells];omega)
      ·cases A
     ·cases A
    ·cases j
   ·cases j
  ·cases j
 all_goals (first
  |(simp only[bgM]at j;obtain⟨_,-,rfl⟩:=j;simp[POp.mL]at V;done)
  |skip)
 all_goals (repeat' (first|(split at j)|(simp only[bgM]at j;obtain⟨_,-,rfl⟩:=j;simp[POp.mL]at V;done)|(cases j;simp[POp.mL]at V;done)|(cases j;done)))
 all_goals (rw[aqC j]at V;cases V)
end
open Go Go.RowKit
section
variable {ds:List Deferred} {T:Tbl} {n:Nat} {E:Env} {F:PF} {H:PH} {a:Act} {w:World}
theorem cS.I0(hW:cS E H w){o s:Nat}{rs rs':List (List PV)}{u cs:Array Value}{ty:TypeId}(N:H o=some (.rows s rs))(U:w.heap[o]?=some (.cells u ty (0,0)))(O:cs.size=u.size)
  (h:pX E s rs' cs):cS E (H.set o (.rows s rs')) (w.setRow o cs)∧Ext E H w E (H.set o (.rows s rs')) (w.setRow o cs):=by
 have l:=setRow_heap w o u cs ty (0,0) U;have j:∀b,b≠o→(w.setRow o cs).heap[b]?=w.heap[b]?:=λb hb=>setRow_other w o b cs hb;have J:∀b ds,E.G b=some ds→b≠o:=λb ds hb e=>by subst e;have:=(hW.g b ds hb).1 _ N;cases this
 have K:E.sz o=some u.size:=by obtain⟨-,A,y,B,I,-⟩:=hW.h o _ N;rw[U]at B;cases B;exact I
 refine⟨⟨λb ds hb=>?_,λq x hq=>?_,λq m S=>?_⟩,⟨.refl E,rfl,rfl,rfl,by simp,λb _ V=>j b (λe=>by subst e;rw[N]at V;cases V),λq x hq=>?_,λb ds hb=>.inl hb⟩⟩
 ·obtain⟨B,y,R,I⟩:=hW.g b ds hb;have M:=J b ds hb;refine⟨λx W=>B x ?_,y,R,(j b M).trans I⟩;rw[dS,aE M]at W;exact W
 ·rw[dS]at hq;split at hq
  ·rename_i e;subst e;cases hq;refine⟨by simpa using(hW.h q _ N).1,cs,ty,l,by rw[O];exact K,h.1,h.2.1,h.2.2⟩
  ·rename_i e;obtain⟨B,I⟩:=hW.h q x hq;exact⟨by simpa using B,I.mono (.refl E) (j q e)⟩
 ·by_cases e:q=o
  ·subst e;rw[K]at S;cases S;exact⟨cs,ty,(0,0),l,O⟩
  ·obtain⟨A,y,R,B,I⟩:=hW.s q m S;exact⟨A,y,R,(j q e).trans B,I⟩
 ·rw[dS]at hq;split at hq
  ·rename_i e;subst e;exact .inl ⟨_,N⟩
  ·exact .inl ⟨x,hq⟩
def Vp(P:Program)(E:Env)(H:PH)(w:World)(o:Oper)(a:Act)(K:PV→PH→Prop):Prop:=
 ∃v j l e H' pv,(execOp a.eval o).run P w=.ok j l∧(j=.value v∨(j=.skip∧v=undef))∧bF e pv v∧cS e H' l∧Ext E H w e H' l∧K pv H'
theorem fc:∀(ps:List PV)(r:List PV)(c j:Nat),c+Z' ps≤Z' r→(setCells r c ps)[j]?=if c≤j∧j<c+ps.length then ps[j-c]? else r[j]?
 |[],r,c,j,_=>by rw[aE (by intro h;simp at h;omega)];rfl
 |p::ps,r,c,j,h=>by
  simp only[bhT]at h ⊢;simp only[setCells];rw[fc ps _ (c+1) j (by rw[bhU];omega),bjT];by_cases e:c=j
  ·subst e;rw[aE Om,aL rfl,aL Om,aL Om];simp
  ·by_cases l:c+1≤j∧j<c+1+Z' ps
   ·rw[aL l,aL Om];have:j-c=(j-(c+1))+1:=Om;rw[this,List.getElem?_cons_succ]
   ·rw[aE l,aE e,aE Om]
theorem aJX(L cs:List Value)(e k:Nat)(h:e+Z' cs≤Z' L):(L.take e++cs++L.drop (e+Z' cs))[k]?=if e≤k∧k<e+cs.length then cs[k-e]? else L[k]?:=by
 have j:(L.take e).length=e:=by rw[bgP];omega
 by_cases l:k<e
 ·rw[aE Om,bgX,biA Om,biY,aL l]
 ·by_cases hb:k<e+Z' cs
  ·rw[aL ⟨by omega,hb⟩,bgX,biB Om,j,biA Om]
  ·rw[aE Om,bgX,biB Om,j,biB Om,bjO];congr 1;omega
theorem pX.store{s:Nat}{rs:List (List PV)}{l:Array Value}(h:pX E s rs l){i c:Nat}{r ps:List PV}{B:List Value}(M:rs[i]?=some r)(Y:c+Z' ps≤s)(Z:Z' B=Z' ps)
  (W:∀u∈B,u.oneCell'=true) (K:∀(j:Nat) p u,ps[j]?=some p→B[j]?=some u→bF E p u) :
  pX E s (rs.set i (setCells r c ps)) (l.toList.take (i*s+c)++B++l.toList.drop (i*s+c+Z' B)).toArray:=by
 have hi:i<Z' rs:=by
  rcases bgV i rs.length with h'|h'
  ·exact h'
  ·rw[bhQ h']at M;cases M
 have S:Z' r=s:=h.1 r (bhX M);have O:(i+1)*s≤Z' rs*s:=bhF _ hi;rw[biN]at O;have U:=h.2.1;have J:i*s+c+Z' B≤Z' l.toList:=by(have e:Z' l.toList=l.size:=bjD;omega)
 refine⟨λq hq=>?_,?_,λy j pv I=>?_⟩
 ·rcases List.mem_or_eq_of_mem_set hq with hq|rfl
  ·exact h.1 q hq
  ·rw[LX];exact S
 ·rw[bhU,List.size_toArray];simp only[bgB,bgP,bhR];have e:Z' l.toList=l.size:=bjD;omega
 ·rw[List.getElem?_toArray,aJX _ _ _ _ J];by_cases e:y=i
  ·subst e;simp only[at2,bjT,if_true,hi,bjX]at I;rw[fc ps r c j Om]at I;split at I
   ·rename_i X;rw[aL Om];have V:y*s+j-(y*s+c)=j-c:=Om;rw[V];have hlt:j-c<Z' B:=Om;exact⟨B[j-c],bgH hlt,W _ (bgD hlt),K _ pv _ I (bgH hlt)⟩
   ·rename_i X;have A:at2 rs y j=some pv:=by simp[at2,M,I]
    have N:=(DZ h.1 A).2;rw[aE Om,Array.getElem?_toList];exact h.2.2 y j pv A
  ·have A:at2 rs y j=some pv:=by simp only[at2]at I ⊢;rw[bjT,aE (λx=>e x.symm)]at I;exact I
   have N:=(DZ h.1 A).2;have R:¬(i*s+c≤y*s+j∧y*s+j<i*s+c+Z' B):=by
    rcases bgV y i with h'|h'
    ·have:(y+1)*s≤i*s:=bhF _ h';rw[biN]at this;omega
    ·have:(i+1)*s≤y*s:=bhF _ Om;rw[biN]at this;omega
   rw[aE R,Array.getElem?_toList];exact h.2.2 y j pv A
theorem aqX{o:Oper}{t:TypeId}{R x:Operand}{pp px:aS}{k:Nat}{pa pv:PV}{H':PH}(ho:o.op=.store t R x)(hs:T.size t=some k)(X:T.opd R=some pp)(hx:T.opd x=some px)
  (Y:pp.ev F=some pa) (Z:px.ev F=some pv) (M:Z' pv.cells=k) (l:storeAt H pa pv.cells=some H') (hA:fU ds n E F a) (hW:cS E H w) (hN:E.num=T.num) :
  ∃w',(execOp a.eval o).run T.P w=.ok .skip w'∧cS E H' w'∧Ext E H w E H' w':=by
 unfold storeAt at l;split at l
 ·rename_i q size i c;split at l
  ·rename_i s rs hq;split at l
   ·rename_i I;obtain⟨rfl,S,N⟩:=I;split at l
    ·rename_i r hr;cases l;have ra:=bQ X Y hA hN;generalize U:a.eval R=ea at ra;cases ra;obtain⟨c1,c2,c3⟩:=EA (bQ hx Z hA hN) N;obtain⟨-,y,ty,hh,β,O,J,B⟩:=hW.h q _ hq;have hR:pX E s rs y:=⟨O,J,B⟩;have hi:i<Z' rs:=by
      rcases bgV i rs.length with h'|h'
      ·exact h'
      ·rw[bhQ h']at hr;cases hr
     have V:(i+1)*s≤Z' rs*s:=bhF _ hi;rw[biN]at V;have α:(a.eval x).cells.toList.length=Z' pv.cells:=by simpa using c1
     have K:i*s+c+0+(a.eval x).cells.toList.length≤y.size:=Om;have A:=run_storeCells_at T.P q (i*s+c) ty (a.eval x).cells.toList 0 y w hh K c2;simp only[bhL]at A;obtain⟨g1,g2⟩:=hW.I0 hq hh (cs:=(y.toList.take (i*s+c)++(a.eval x).cells.toList++y.toList.drop (i*s+c+(a.eval x).cells.toList.length)).toArray)
      (by rw[List.size_toArray];simp only[bgB,bgP,bhR];have e:Z' y.toList=y.size:=bjD;omega)
      (hR.store hr S α c2 (λj p u X hu=>c3 j p u X (by simpa using hu)))
     refine⟨_,?_,g1,g2⟩;unfold execOp;rw[ho];have W:¬((a.eval x).cells.size≠k):=by rw[c1,M];simp
     simp[U,Instr.storeAt,Instr.sureAddr,storeVar,oC hs,W,A]
    ·cases l
   ·cases l
  ·cases l
 ·cases l
end
open Go Go.RowKit
section
variable {T:Tbl} {n:Nat} {E:Env} {F:PF} {H:PH} {a:Act} {w:World}
theorem Qa{s:Nat}{pv:PV}{v:Value}{rows:List (List PV)}(P:Program)(hW:cS E H w)(X:bF E pv v)(h:fA H s pv=some rows) :
  ∃N cap,∃news:List Value,v=.slice N rows.length cap∧Z' news=Z' rows*s∧(∀u∈news,u.oneCell'=true)∧(∀r∈rows,Z' r=s) ∧
   (∀i j q,at2 rows i j=some q→∃u,news[i*s+j]?=some u∧bF E q u) ∧
   ∀B:World,B.heap=w.heap→(Builtin.firstCells s rows.length v).run P B=.ok news.toArray B:=by
 obtain⟨N,cap,rfl,S,l,W⟩:=Eb hW X h;by_cases K:rows=[]
 ·subst K;refine⟨N,cap,[],rfl,by simp,by simp,by simp,λi j q hq=>by simp[at2]at hq,λB _=>?_⟩;cases N with
  |none=>simp[Builtin.firstCells]
  |some x=>simp[Builtin.firstCells,Go.loadCells,Go.loadCellsFrom]
 ·obtain⟨b,A,rfl,e⟩:=W K;have I:∀k,k<Z' rows*s→∃u q,at2 rows (k/s) (k%s)=some q∧w.cell? ⟨b,A+k,none⟩=some u∧u.oneCell'=true∧bF E q u:=by
   intro k y;have U:0<s:=by
    rcases biC s with h|h
    ·subst h;simp at y
    ·exact h
   have R:k/s<Z' rows:=(bjK U).2 y;have Y:k%s<s:=bhZ _ U;have V:k/s*s+k%s=k:=by rw[bhE];exact bjV k s
   have hq:∃q,at2 rows (k/s) (k%s)=some q:=by have hl:=l rows[k/s] (bgD R);exact⟨rows[k/s][k%s]'Om,by simp[at2,R,bgH (Om:k%s<rows[k/s].length)]⟩
   obtain⟨q,hq⟩:=hq;obtain⟨u,g1,g2,g3⟩:=e _ _ q hq;rw[V]at g1;exact⟨u,q,hq,g1,g2,g3⟩
  refine⟨_,cap,(bfZ (Z' rows*s)).map λk=>(w.cell? ⟨b,A+k,none⟩).getD undef,rfl,by simp,?_,l,?_,?_⟩
  ·intro u M;simp only[bhC,bgW]at M;obtain⟨k,y,rfl⟩:=M;obtain⟨u,q,-,g1,g2,-⟩:=I k y;simp[g1,g2]
  ·intro i j q hq;obtain⟨hi,Z⟩:=DZ l hq;have hlt:i*s+j<Z' rows*s:=by have:(i+1)*s≤Z' rows*s:=bhF _ hi;rw[biN]at this;omega
   obtain⟨u,g1,g2,g3⟩:=e i j q hq;refine⟨u,?_,g3⟩;rw[bgT,biH hlt];simp[g1]
  ·intro B O;refine run_firstCells_some B s rows.length _ _ cap _ aY (λj u M=>?_);rw[add_plain];simp only[bgT,bgM]at M;obtain⟨k,y,rfl⟩:=M;have J:j<Z' rows*s:=by
    rcases bgV j (Z' rows*s)with h'|h'
    ·exact h'
    ·rw[bhQ (by simpa using h')]at y;cases y
   rw[biH J]at y;cases y;obtain⟨u,q,-,g1,-,-⟩:=I j J;have:B.cell? ⟨b,A+j,none⟩=w.cell? ⟨b,A+j,none⟩:=by simp[World.cell?,O]
   rw[this,g1];rfl
theorem JP{t ty e:TypeId}{i:TypeInfo}(A:T.P.underlying t=some (.slice e))(hi:T.P.info? e=some i)(base:Option Addr)(l j c:Nat)(x:Option Addr)(u:l≤j)
  (y:(Builtin.firstCells i.size 0 (.slice x 0 c)).run T.P w=.ok #[] w):(Builtin.append_ #[t,t] ty #[.slice base l j,.slice x 0 c]).run T.P w=.ok (.slice base l j) w:=by
 cases base with
 |none=>simp[Builtin.append_,run_underlying A,sizeOf,typeInfo,hi,Builtin.lenOf,u,y]
 |some b=>simp[Builtin.append_,run_underlying A,sizeOf,typeInfo,hi,Builtin.lenOf,u,y,storeCells]
theorem aiM{t ty e bt:TypeId}{i:TypeInfo}(N:T.P.underlying t=some (.slice e))(hi:T.P.info? e=some i)(g j x m c:Nat)(I:Option Addr)(l:Array Value)(M:w.heap[g]?=some (.cells l bt (0,0)))
  (news:List Value) (O:Z' news=m*i.size) (K:(Builtin.firstCells i.size m (.slice I m c)).run T.P w=.ok news.toArray w) (J:∀u∈news,u.oneCell'=true) (y:j+m≤x) (A:j*i.size+Z' news≤l.size) :
  (Builtin.append_ #[t,t] ty #[.slice (some ⟨g,0,none⟩) j x,.slice I m c]).run T.P w =
   .ok (.slice (some ⟨g,0,none⟩) (j+m) x) (w.setRow g (l.toList.take (j*i.size)++news++l.toList.drop (j*i.size+Z' news)).toArray):=by
 have B:=run_storeCells_at T.P g (j*i.size) bt news 0 l w M (by simpa using A) J;simp only[bhL]at B;simp[Builtin.append_,run_underlying N,sizeOf,typeInfo,hi,Builtin.lenOf,y,K,Addr.add_lit,B]
theorem Uf{t ty e bt:TypeId}{i:TypeInfo}(N:T.P.underlying t=some (.slice e))(hi:T.P.info? e=some i)(g d j x m c:Nat)(I:Option Addr)(l:Array Value)(M:w.heap[g]?=some (.cells l bt (0,0)))
  (news:List Value) (O:Z' news=m*i.size) (K:(Builtin.firstCells i.size m (.slice I m c)).run T.P w=.ok news.toArray w) (J:∀u∈news,u.oneCell'=true) (y:j+m≤x) (A:d+j*i.size+Z' news≤l.size) :
  (Builtin.append_ #[t,t] ty #[.slice (some ⟨g,d,none⟩) j x,.slice I m c]).run T.P w =
   .ok (.slice (some ⟨g,d,none⟩) (j+m) x) (w.setRow g (l.toList.take (d+j*i.size)++news++l.toList.drop (d+j*i.size+Z' news)).toArray):=by
 have B:=run_storeCells_at T.P g (d+j*i.size) bt news 0 l w M (by simpa using A) J;simp only[bhL]at B;simp[Builtin.append_,run_underlying N,sizeOf,typeInfo,hi,Builtin.lenOf,y,K,add_plain,B]
theorem aiL{t ty e:TypeId}{i:TypeInfo}{z:Value}(N:T.P.underlying t=some (.slice e))(hi:T.P.info? e=some i)(O:i.zero=some z)(base:Option Addr)(j l m c:Nat)(A:Option Addr)(bfW news:List Value)
  (M:(Builtin.firstCells i.size j (.slice base j l)).run T.P w.drew=.ok bfW.toArray w.drew) (I:(Builtin.firstCells i.size m (.slice A m c)).run T.P w.drew=.ok news.toArray w.drew)
  (J:l<j+m) (y:j+m≤maxLen) (hb:(j+m)*i.bytes≤140737488355328) :
  (Builtin.append_ #[t,t] ty #[.slice base j l,.slice A m c]).run T.P w =
   .ok (.slice (some ⟨w.heap.size,0,none⟩) (j+m) (grownCap w (j+m) l e))
    (w.drew.alloc (.cells (bfW.toArray++news.toArray++Builtin.zeroCells z.cells (grownCap w (j+m) l e-(j+m))) e)):=by
 have K:¬(j+m≤l):=Om;simp only[maxLen]at y;have x:¬(9223372036854775807<((j:Int)+(m:Int))):=Om;have B:=growslice_fits J hb;have u:¬(281474976710656<Builtin.nextslicecap (j+m) l*i.bytes):=Om;simp[Builtin.append_,run_underlying N,sizeOf,typeInfo,zeroValue,hi,O,Builtin.lenOf,K,x,u,Question.forced,I,M,newRow,grownCap];congr 2;apply Array.ext';simp[bgX]
theorem cS.drew(hW:cS E H w):cS E H w.drew:=⟨hW.g,λo x e=>⟨(hW.h o x e).1,(hW.h o x e).2.mono (.refl E) rfl⟩,hW.s⟩
theorem Ext.Ip{e:Env}{H':PH}{j:World}(h:Ext E H w.drew e H' j):Ext E H w e H' j:=⟨h.env,h.os,h.tape,h.output,h.size,h.block,h.new,h.newG⟩
theorem aFX{rs src:List (List PV)}(i j:Nat):at2 (rs++src) i j=if i<rs.length then at2 rs i j else at2 src (i-Z' rs) j:=by
 unfold at2;rw[List.getElem?_append];split<;>rfl
theorem pX.join{s:Nat}{rs src:List (List PV)}{bfW news:List Value}{tail:List Value}(y:∀r∈rs,Z' r=s)(A:∀r∈src,Z' r=s)(l:Z' bfW=Z' rs*s)(x:Z' news=Z' src*s)
  (I:∀i j q,at2 rs i j=some q→∃u,bfW[i*s+j]?=some u∧u.oneCell'=true∧bF E q u) (B:∀i j q,at2 src i j=some q→∃u,news[i*s+j]?=some u∧u.oneCell'=true∧bF E q u) :
  pX E s (rs++src) (bfW++news++tail).toArray:=by
 refine⟨λr J=>?_,?_,λi j q hq=>?_⟩
 ·rcases bhK.1 J with h|h
  ·exact y r h
  ·exact A r h
 ·rw[List.size_toArray,bgB,bgB,bgB,l,x,bhN];omega
 ·rw[aFX]at hq;rw[List.getElem?_toArray];split at hq
  ·rename_i hi;obtain⟨u,g1,g2,g3⟩:=I i j q hq;refine⟨u,?_,g2,g3⟩;have hlt:i*s+j<Z' bfW:=by
    rcases bgV (i*s+j) bfW.length with h'|h'
    ·exact h'
    ·rw[bhQ h']at g1;cases g1
   rw[bgX,biA hlt];exact g1
  ·rename_i hi;obtain⟨u,g1,g2,g3⟩:=B _ j q hq;refine⟨u,?_,g2,g3⟩;have hlt:(i-Z' rs)*s+j<Z' news:=by
    rcases bgV ((i-Z' rs)*s+j) news.length with h'|h'
    ·exact h'
    ·rw[bhQ h']at g1;cases g1
   have e:i*s+j=Z' bfW+((i-Z' rs)*s+j):=by rw[l,←biV,←bhN];congr 2;omega
   rw[e,bgX,biB Om,Nat.add_sub_cancel_left,biA hlt];exact g1
theorem PH.aXA{o:Nat}{x:cI}(h:H o=some x):H.set o x=H:=by
 apply PH.ext;intro q;rw[dS];split
 ·rename_i e;subst e;exact h.symm
 ·rfl
theorem cS.dead(hW:cS E H w){o:Nat}{x:cI}(l:H o=some x):cS E (H.set o .dead) w∧Ext E H w E (H.set o .dead) w:=by
 refine⟨⟨λb ds hb=>⟨λy j=>?_,(hW.g b ds hb).2⟩,λq y hq=>?_,hW.s⟩,⟨.refl E,rfl,rfl,rfl,bgG _,λ_ _ _=>rfl,λq y hq=>?_,λb ds hb=>.inl hb⟩⟩
 ·rw[dS]at j;split at j
  ·cases j;rfl
  ·exact(hW.g b ds hb).1 y j
 ·rw[dS]at hq;split at hq
  ·rename_i e;subst e;cases hq;exact⟨(hW.h q x l).1,trivial⟩
  ·exact hW.h q y hq
 ·rw[dS]at hq;split at hq
  ·rename_i e;subst e;exact .inl ⟨x,l⟩
  ·exact .inl ⟨y,hq⟩
end
open Go Go.RowKit
section
variable {T:Tbl} {n:Nat} {E:Env} {F:PF} {H:PH} {a:Act} {w:World}
theorem aHH(w:World)(j l:Nat)(e:TypeId):j≤grownCap w j l e:=grownCap_ge w j l e
theorem pV{o:Oper}{c:Call}{x y:Operand}{t:TypeId}{v:Value}{u:World}(I:o.op=.call c)(j:c.callee=.builtin .append)(e:c.args.toList=[x,y])(l:c.argTypes.toList=[t,t])
  (h:(Builtin.append_ #[t,t] o.type #[a.eval x,a.eval y]).run T.P w=.ok v u):(execOp a.eval o).run T.P w=.ok (.value v) u:=by
 unfold execOp;rw[I];have A:c.argTypes=#[t,t]:=by apply Array.ext';simp[l]
 have B:=aFW e a.eval;simp[resolve,j,invoke,builtin,A,B,h]
theorem cS.trim(hW:cS E H w){o s k:Nat}{rs:List (List PV)}(B:H o=some (.rows s rs)):cS E (H.set o (.rows s (rs.take k))) w∧Ext E H w E (H.set o (.rows s (rs.take k))) w:=by
 refine⟨⟨λb ds hb=>⟨λy J=>?_,(hW.g b ds hb).2⟩,λq y hq=>?_,hW.s⟩,⟨.refl E,rfl,rfl,rfl,bgG _,λ_ _ _=>rfl,λq y hq=>?_,λb ds hb=>.inl hb⟩⟩
 ·rw[dS]at J;split at J
  ·rename_i e;subst e;have:=(hW.g b ds hb).1 _ B;cases this
  ·exact(hW.g b ds hb).1 y J
 ·rw[dS]at hq;split at hq
  ·rename_i e;subst e;cases hq;obtain⟨M,A,ty,N,I,x,K,l⟩:=hW.h q _ B;refine⟨M,A,ty,N,I,λr O=>x r (List.mem_of_mem_take O),?_,λi j p u=>l i j p ?_⟩
   ·have:(rs.take k).length*s≤Z' rs*s:=bhF _ (by rw[bgP];omega);omega
   ·unfold at2 at u ⊢;rw[biY]at u;split at u
    ·exact u
    ·simp at u
  ·exact hW.h q y hq
 ·rw[dS]at hq;split at hq
  ·rename_i e;subst e;exact .inl ⟨_,B⟩
  ·exact .inl ⟨y,hq⟩
theorem Vv{o:Oper}{c:Call}{x y:Operand}{t e:TypeId}{i:TypeInfo}{px py:PV}{K:PV→PH→Prop}(ho:o.op=.call c)(σ:c.callee=.builtin .append)(ρ:c.args.toList=[x,y])(τ:c.argTypes.toList=[t,t])
  (ht:T.P.underlying t=some (.slice e)) (hi:T.P.info? e=some i) (hz:i.zero.isSome=true) (S':(i.zero.map (·.cells.size))=some i.size) (h0:0<i.size)
  (hx:bF E px (a.eval x)) (hy:bF E py (a.eval y)) (hK:pF H i.size i.bytes px py K) (hW:cS E H w):Vp T.P E H w o a K:=by
 obtain⟨z,hz⟩:=Option.isSome_iff_exists.1 hz;have U':z.cells.size=i.size:=by simpa[hz]using S'
 obtain⟨src,z',hK⟩:=hK;obtain⟨ad,cap,news,V,ε,Θ,ο,δ,O⟩:=Qa T.P hW hy z';have grow:∀(base:Option Addr)(l A:Nat)(rs:List (List PV)) (bfW:List Value),(Builtin.firstCells i.size l (.slice base l A)).run T.P w.drew=.ok bfW.toArray w.drew→Z' bfW=l*i.size→Z' rs=l →
   (∀r∈rs,Z' r=i.size)→(∀S j q,at2 rs S j=some q→∃u,bfW[S*i.size+j]?=some u∧u.oneCell'=true∧bF E q u)→A<l+Z' src→roomFor l src.length i.bytes→a.eval x=.slice base l A →
   ∀(H1:PH),cS E H1 w→Ext E H w E H1 w→∃v w' E' q,(execOp a.eval o).run T.P w=.ok (.value v) w'∧H1 q=none∧bF E' (.osl q i.size 0 (l+Z' src)) v∧cS E' (H1.set q (.rows i.size (rs++src))) w'∧Ext E H w E' (H1.set q (.rows i.size (rs++src))) w':=by
  intro base l A rs bfW χ ξ β R' P' hlt M R H1 r' G';have J:=aiL (w:=w) (ty:=o.type) ht hi hz base l A src.length cap ad bfW news χ (by rw[←V];exact O w.drew rfl) hlt M.1 M.2;have J':=aHH w (l+Z' src) A e;have I':=grownCap_le_maxLen w (l+Z' src) A e M.1;generalize X':grownCap w (l+Z' src) A e=gc at *
  have M':∀S j q,at2 src S j=some q→∃u,news[S*i.size+j]?=some u∧u.oneCell'=true∧bF E q u:=λS j q hq=>by obtain⟨u,g1,g2⟩:=δ S j q hq;exact⟨u,g1,Θ u (bhX g1),g2⟩
  have hR:=pX.join (E:=E) (tail:=(Builtin.zeroCells z.cells (gc-(l+Z' src))).toList) R' ο (by rw[ξ,β]) ε P' M';have Ψ:(bfW.toArray++news.toArray++Builtin.zeroCells z.cells (gc-(l+Z' src)))=(bfW++news++(Builtin.zeroCells z.cells (gc-(l+Z' src))).toList).toArray:=by apply Array.ext';simp
  rw[Ψ]at J;have η:(bfW++news++(Builtin.zeroCells z.cells (gc-(l+Z' src))).toList).toArray.size=gc*i.size:=by
   have ez:(Builtin.zeroCells z.cells (gc-(l+Z' src))).toList.length=(gc-(l+Z' src))*i.size:=by rw[bjD,size_zeroCells,U']
   rw[List.size_toArray,bgB,bgB,ez,ξ,ε,←bhN,←bhN];congr 1;omega
  obtain⟨g1,g2⟩:=r'.drew.ZL e hR;refine⟨_,_,_,w.heap.size,pV ho σ ρ τ (by rw[R,V];exact J),r'.aHP,?_,g1,G'.trans g2.Ip⟩;refine .osl rfl rfl (.inr aY) J' I' (agH _ _ _) ?_;rw[η];omega
 split at hK
 ·
  have C':a.eval x=.slice none 0 0:=by generalize a.eval x=v at hx;cases hx;rfl
  obtain⟨M,v',l'⟩:=hK;by_cases ζ:src=[]
  ·subst ζ;have θ:=O w rfl;have Δ:news=[]:=List.eq_nil_of_length_eq_zero (by rw[ε];simp);subst Δ;rw[V]at θ;have J:=JP (w:=w) (ty:=o.type) ht hi none 0 0 cap ad (bgG _) θ;exact⟨_,_,w,E,H,.aH,pV ho σ ρ τ (by rw[C',V];exact J),.inl rfl,.aH,hW,.refl E H w,v' rfl⟩
  ·have c':0<Z' src:=List.length_pos_iff.2 ζ;obtain⟨v,w',E',q,g1,g2,g3,g4,g5⟩:=grow none 0 0 [] [] (by simp[Builtin.firstCells]) aY rfl aY (λS j q hq=>by simp[at2]at hq) Om M C' H hW (.refl E H w);refine⟨v,_,w',E',_,_,g1,.inl rfl,g3,g4,g5,?_⟩;have:=l' ζ q g2;simpa using this
 ·
  rename_i q s len;obtain⟨rfl,-,M,rs,hq,Q',Y,ν⟩:=hK;have g':∃b A,a.eval x=.slice (some b) len A:=by generalize a.eval x=v at hx;cases hx;exact⟨_,_,rfl⟩
  obtain⟨b,A,R⟩:=g';obtain⟨l,rfl⟩:∃l,l=len:=⟨_,rfl⟩
  ·rw[R]at hx;cases hx with
   |osl hb m' α ι κ Λ X=>
   rename_i N;obtain⟨x',B,ty,hh,η,k',b',Φ⟩:=hW.h q _ hq;obtain⟨υ,d'⟩:=hW.trim (k:=l) hq;obtain⟨-,p',V',ψ,A',U,Ξ,γ⟩:=υ.h q (.rows i.size (rs.take l)) (by rw[dS,aL rfl]);rw[hh]at ψ;cases ψ;have β:(rs.take l).length=l:=by rw[bgP];omega
   generalize y':rs.take l=W at *
   have e':N=B.size:=by rw[η]at Λ;cases Λ;rfl
   subst e';simp only[Nat.zero_mul,bgL]at X α;by_cases ζ:src=[]
   ·subst ζ;have θ:=O w rfl;have Δ:news=[]:=List.eq_nil_of_length_eq_zero (by rw[ε];simp);subst Δ;rw[V]at θ;have J:=JP (w:=w) (ty:=o.type) ht hi (some b) l A cap ad ι θ;simp only[bhH,biM,bhL]at Y;exact⟨_,_,w,E,_,.osl q i.size 0 l,pV ho σ ρ τ (by rw[R,V];exact J),.inl rfl,.osl hb m' (by simpa using α) ι κ η Om,υ,d',Y⟩
   ·have c':0<Z' src:=List.length_pos_iff.2 ζ;by_cases Z:l+Z' src≤A
    ·have φ:b=⟨q,0,none⟩:=by
      have:b.off=0:=by
       rcases α with h|h
       ·omega
       ·exact h
      cases b;simp_all
     subst φ;have Γ:(l+Z' src)*i.size≤A*i.size:=bhF _ Z;rw[bhN]at Γ;have J:=aiM (w:=w) (ty:=o.type) ht hi q l A src.length cap ad B hh news ε (by rw[←V];exact O w rfl) Θ Z Om;have h':(B.toList.take (l*i.size)).length=Z' W*i.size:=by rw[bgP,bjD,β];omega
     have f':=pX.join (E:=E) (s:=i.size) (rs:=W) (src:=src) (bfW:=B.toList.take (l*i.size)) (news:=news) (tail:=B.toList.drop (l*i.size+Z' news)) U ο h' ε
      (λS j p hp=>by obtain⟨u,g1,g2,g3⟩:=γ S j p hp;obtain⟨ω,s'⟩:=DZ U hp;refine⟨u,?_,g2,g3⟩;have:(S+1)*i.size≤Z' W*i.size:=bhF _ ω;rw[biN,β]at this;rw[biY,aL Om,Array.getElem?_toList];exact g1)
      (λS j p hp=>by obtain⟨u,g1,g2⟩:=δ S j p hp;exact⟨u,g1,Θ u (bhX g1),g2⟩)
     obtain⟨g1,g2⟩:=hW.I0 hq hh (rs':=W++src) (cs:=(B.toList.take (l*i.size)++news++B.toList.drop (l*i.size+Z' news)).toArray)
      (by rw[List.size_toArray];simp only[bgB,bgP,bhR];have e:Z' B.toList=B.size:=bjD;omega) f'
     exact⟨_,_,_,E,_,.osl q i.size 0 (l+Z' src),pV ho σ ρ τ (by rw[R,V];exact J),.inl rfl,.osl rfl rfl (.inr aY) Z κ η Om,g1,g2,Y⟩
    ·have χ:∃bfW:List Value,(Builtin.firstCells i.size l (.slice (some b) l A)).run T.P w.drew=.ok bfW.toArray w.drew∧Z' bfW=l*i.size ∧
       (∀S j p,at2 W S j=some p→∃u,bfW[S*i.size+j]?=some u∧u.oneCell'=true∧bF E p u):=by
      by_cases K':l=0
      ·subst K';refine⟨[],run_firstCells_some w.drew i.size 0 b 0 A [] aY aY,by simp,λS j p hp=>?_⟩;have:=(DZ U hp).1;omega
      ·have φ:b=⟨q,0,none⟩:=by
        have:b.off=0:=by
         rcases α with h|h
         ·omega
         ·exact h
        cases b;simp_all
       subst φ;have t':(B.toList.take (l*i.size)).length=l*i.size:=by rw[bgP,bjD];rw[β]at Ξ;omega
       refine⟨B.toList.take (l*i.size),run_firstCells_some w.drew i.size l _ l A _ t' (λj u hu=>?_),t',λS j p hp=>?_⟩
       ·rw[add_plain,bgL];rw[biY]at hu;split at hu
        ·rw[Array.getElem?_toList]at hu;show w.cell? ⟨q,j,none⟩=some u;rw[cell_of_row w q j B ty (0,0) hh];exact hu
        ·cases hu
       ·obtain⟨u,g1,g2,g3⟩:=γ S j p hp;obtain⟨ω,s'⟩:=DZ U hp;refine⟨u,?_,g2,g3⟩;have:(S+1)*i.size≤Z' W*i.size:=bhF _ ω;rw[biN,β]at this;rw[biY,aL Om,Array.getElem?_toList];exact g1
     obtain⟨bfW,χ,ξ,O'⟩:=χ;obtain⟨v,w',E',q',g1,g2,g3,g4,g5⟩:=grow (some b) l A W bfW χ ξ β U O' Om M R H hW (.refl E H w);exact⟨v,_,w',E',_,_,g1,.inl rfl,g3,g4,g5,ν q' g2⟩
 ·
  rename_i q s I len;obtain⟨rfl,M,rs,hq,L',Y,ν⟩:=hK;have o':fA H i.size (.osl q i.size (I+1) len)=some ((rs.drop (I+1)).take len):=by simp only[fA,if_true,hq,true_and,aL L']
  obtain⟨W',A,bfW,R,ξ,N',j',Ω,μ⟩:=Qa T.P hW hx o';have B':((rs.drop (I+1)).take len).length=len:=by rw[bgP,bhR];omega
  rw[B']at R μ ξ;have D':=hx;rw[R]at D';obtain⟨x',B,ty,hh,η,k',b',Φ⟩:=hW.h q _ hq;cases D' with
  |osl hb m' α ι κ Λ X=>
  rename_i N b;have e':N=B.size:=by rw[η]at Λ;cases Λ;rfl
  subst e';obtain⟨υ,d'⟩:=hW.trim (k:=I+1+len) hq;have Y':(I+1)*i.size+A*i.size≤B.size:=X;clear X;by_cases ζ:src=[]
  ·subst ζ;have θ:=O w rfl;have Δ:news=[]:=List.eq_nil_of_length_eq_zero (by rw[ε];simp);subst Δ;rw[V]at θ;have J:=JP (w:=w) (ty:=o.type) ht hi (some b) len A cap ad ι θ;simp only[bhH,biM,bhL]at Y;exact⟨_,_,w,E,_,.osl q i.size (I+1) len,pV ho σ ρ τ (by rw[R,V];exact J),.inl rfl,.osl hb m' α ι κ η Om,υ,d',Y⟩
  ·have c':0<Z' src:=List.length_pos_iff.2 ζ;by_cases Z:len+Z' src≤A
   ·obtain⟨-,p',V',ψ,A',U,Ξ,γ⟩:=υ.h q (.rows i.size (rs.take (I+1+len))) (by rw[dS,aL rfl]);rw[hh]at ψ;cases ψ;have β:(rs.take (I+1+len)).length=I+1+len:=by rw[bgP];omega
    generalize y':rs.take (I+1+len)=W at *
    have φ:b=⟨q,(I+1)*i.size,none⟩:=by
     have:b.off=(I+1)*i.size:=by
      rcases α with h|h
      ·omega
      ·exact h
     cases b;simp_all
    subst φ;have Γ:(len+Z' src)*i.size≤A*i.size:=bhF _ Z;rw[bhN]at Γ;have u':(I+1+len)*i.size=(I+1)*i.size+len*i.size:=bhN ..;have J:=Uf (w:=w) (ty:=o.type) ht hi q ((I+1)*i.size) len A src.length cap ad B hh news ε (by rw[←V];exact O w rfl) Θ Z Om;rw[←u']at J;have h':(B.toList.take ((I+1+len)*i.size)).length=Z' W*i.size:=by rw[bgP,bjD,β];omega
    have f':=pX.join (E:=E) (s:=i.size) (rs:=W) (src:=src) (bfW:=B.toList.take ((I+1+len)*i.size)) (news:=news) (tail:=B.toList.drop ((I+1+len)*i.size+Z' news)) U ο h' ε
     (λS j p hp=>by obtain⟨u,g1,g2,g3⟩:=γ S j p hp;obtain⟨ω,s'⟩:=DZ U hp;refine⟨u,?_,g2,g3⟩;have:(S+1)*i.size≤Z' W*i.size:=bhF _ ω;rw[biN,β]at this;rw[biY,aL Om,Array.getElem?_toList];exact g1)
     (λS j p hp=>by obtain⟨u,g1,g2⟩:=δ S j p hp;exact⟨u,g1,Θ u (bhX g1),g2⟩)
    obtain⟨g1,g2⟩:=hW.I0 hq hh (rs':=W++src) (cs:=(B.toList.take ((I+1+len)*i.size)++news++B.toList.drop ((I+1+len)*i.size+Z' news)).toArray)
     (by rw[List.size_toArray];simp only[bgB,bgP,bhR];have e:Z' B.toList=B.size:=bjD;omega) f'
    exact⟨_,_,_,E,_,.osl q i.size (I+1) (len+Z' src),pV ho σ ρ τ (by rw[R,V];exact J),.inl rfl,.osl rfl rfl (.inr rfl) Z κ η Om,g1,g2,Y⟩
   ·obtain⟨v,w',E',q',g1,g2,g3,g4,g5⟩:=grow (some b) len A ((rs.drop (I+1)).take len) bfW (by rw[←R];exact μ w.drew rfl) ξ B' j'
     (λS j p hp=>by obtain⟨u,g1,g2⟩:=Ω S j p hp;exact⟨u,g1,N' u (bhX g1),g2⟩) Om M R H hW (.refl E H w)
    exact⟨v,_,w',E',_,_,g1,.inl rfl,g3,g4,g5,ν q' g2⟩
 ·cases hK
end
open Go Go.RowKit
section
variable {ds:List Deferred} {T:Tbl} {n:Nat} {E:Env} {F:PF} {H:PH} {a:Act} {w:World}
def oneOf(e:Array Value)(k:Nat):Value:=if((e[k]?).getD (.int .i64 0)).oneCell' then(e[k]?).getD (.int .i64 0)else .int .i64 0
theorem aOM(e:Array Value)(k:Nat):(oneOf e k).oneCell'=true:=by
 unfold oneOf;split
 ·assumption
 ·rfl
theorem rj{o s:Nat}{rs:List (List PV)}{x:Array Value}{O:Env}(A:E.le O)(hG:O.G o=some x)(β:E.sz o=some x.size)(X:pX E s rs x){pv:PV}{v:Value}(h:bF E pv v) :
  bF O (pv.dM o s rs) v:=by
 unfold PV.dM;split
 ·rename_i q s' l len;split
  ·rename_i e;subst e;split
   ·rename_i hc;obtain⟨rfl,Y⟩:=hc;cases h with
    |osl hb W K I J hn V=>
    rename_i cap N R;have Z:((rs.drop l).take len).length=len:=by rw[bgP,bhR];omega
    have S:∀i j p,at2 ((rs.drop l).take len) i j=some p→at2 rs (l+i) j=some p:=by
     intro i j p y;unfold at2 at y ⊢;rw[biY]at y;split at y
     ·rw[bjO]at y;exact y
     ·simp at y
    have M:bF O (.sl s' ((rs.drop l).take len)) (.slice (some R) ((rs.drop l).take len).length cap):=by
     have hu:∀i j p,at2 ((rs.drop l).take len) i j=some p→∃u,x[(l+i)*s'+j]?=some u∧bF E p u∧oneOf x ((l+i)*s'+j)=u:=by intro i j p y;obtain⟨u,g1,g2,g3⟩:=X.2.2 _ _ _ (S i j p y);exact⟨u,g1,g3,by simp[oneOf,g1,g2]⟩
     refine .sl (λi j=>oneOf x ((l+i)*s'+j)) (by rw[Z];exact I) J (λr hr=>X.1 r (List.mem_of_mem_drop (List.mem_of_mem_take hr))) (λU=>?_) (λi j=>aOM _ _) (λi j p y=>?_)
     ·have α:0<((rs.drop l).take len).length:=List.length_pos_iff.2 U;have B:R.off=l*s':=by
       rcases K with h|h
       ·omega
       ·exact h
      refine⟨R,rfl,W,λi j p y=>?_⟩;obtain⟨u,g1,-,g3⟩:=hu i j p y;rw[g3];unfold Env.cell;rw[hb,hG,bjX,B];have e:l*s'+i*s'+j=(l+i)*s'+j:=by rw[bhN]
      rw[e];exact g1
     ·obtain⟨u,-,g2,g3⟩:=hu i j p y;rw[g3];exact g2.mono A
    rw[Z]at M;exact M
   ·exact .junk _
  ·exact h.mono A
 ·exact h.mono A
theorem Xr{o s:Nat}{rs:List (List PV)}{e:Array Value}{y:Env}(l:E.le y)(A:y.G o=some e)(x:E.sz o=some e.size)(B:pX E s rs e){pv:PV}{v:Value}(h:bF E pv v) :
  bF y (pv.wE o s rs) v:=by
 unfold PV.wE;split
 ·cases h with
  |agg vs K J M=>
  refine .agg vs (by simpa using K) J (λj p u I N=>?_);rw[bgT,bgM]at I;obtain⟨q,hq,rfl⟩:=I;exact rj l A x B (M j q u hq N)
 ·exact rj l A x B h
theorem a0V{o s:Nat}{rs:List (List PV)}{e:Array Value}{y:Env}(l:E.le y)(A:y.G o=some e)(x:E.sz o=some e.size)(B:pX E s rs e){pv:PV}{v:Value}(h:bF E pv v) :
  bF y (pv.frz o s rs) v:=by
 unfold PV.frz;split
 ·cases h with
  |tup vs J K=>
  refine .tup vs (by simpa using J) (λj p u I M=>?_);rw[bgT,bgM]at I;obtain⟨q,hq,rfl⟩:=I;exact Xr l A x B (K j q u hq M)
 ·exact Xr l A x B h
theorem cS.frz(hW:cS E H w){o s:Nat}{rs:List (List PV)}(Z:H o=some (.rows s rs)):∃U,cS U (H.frz o s rs) w∧Ext E H w U (H.frz o s rs) w∧∀{pv:PV}{v:Value},bF E pv v→bF U (pv.frz o s rs) v:=by
 obtain⟨hlt,A,ty,hh,N,V,W,h3⟩:=hW.h o _ Z;have hR:pX E s rs A:=⟨V,W,h3⟩;have X:E.G o=none:=by
  cases h:E.G o with
  |none=>rfl
  |some ds=>have:=(hW.g o ds h).1 _ Z;cases this
 have B:E.le ⟨upd E.G o (some A),E.sz,E.num⟩:=by
  refine⟨λb ds hb=>?_,λb m h=>h,rfl⟩;have Y:b≠o:=λe=>by subst e;rw[X]at hb;cases hb
  simp only;rw[gw _ _ Y];exact hb
 have K:(⟨upd E.G o (some A),E.sz,E.num⟩:Env).G o=some A:=by simp[upd]
 have l:∀q,(H.frz o s rs).f q=if q=o then none else(H q).map (cI.frz o s rs):=λq=>rfl
 refine⟨⟨upd E.G o (some A),E.sz,E.num⟩,⟨λb ds hb=>?_,λq x hq=>?_,hW.s⟩,⟨B,rfl,rfl,rfl,bgG _,λ_ _ _=>rfl,λq x hq=>?_,λb ds hb=>?_⟩,λh=>a0V B K N hR h⟩
 ·simp only[upd]at hb;split at hb
  ·rename_i e;subst e;cases hb;refine⟨λx O=>?_,ty,(0,0),hh⟩;rw[l,aL rfl]at O;cases O
  ·rename_i e;obtain⟨g1,g2⟩:=hW.g b ds hb;refine⟨λx O=>?_,g2⟩;rw[l,aE e,bgM]at O;obtain⟨y,R,rfl⟩:=O;have:=g1 y R;subst this;rfl
 ·rw[l]at hq;split at hq
  ·cases hq
  ·rw[bgM]at hq;obtain⟨y,R,rfl⟩:=hq;obtain⟨g1,g2⟩:=hW.h q y R;refine⟨g1,?_⟩;cases y with
   |rows s' rs'=>
    obtain⟨J,δ,k1,k2,k3,k4,k5⟩:=g2;refine⟨J,δ,k1,k2,?_,by simpa using k4,λi j p S=>?_⟩
    ·intro r M;simp only[bhC]at M;obtain⟨r',γ,rfl⟩:=M;simpa using k3 r' γ
    ·simp only[at2,bgT,Option.bind_map]at S;have α:∃I,at2 rs' i j=some I∧p=I.dM o s rs:=by
      unfold at2;cases M:rs'[i]? with
      |none=>simp[M]at S
      |some r =>simp only[M,bjX,Function.comp,bgT,bgM]at S ⊢;obtain⟨I,V,W⟩:=S;exact⟨I,V,W.symm⟩
     obtain⟨I,β,rfl⟩:=α;obtain⟨u,m1,m2,m3⟩:=k5 i j I β;exact⟨u,m1,m2,rj B K N hR m3⟩
   |map es=>exact ZH.mono B rfl g2
   |loop F n t ε ζ=>exact ZH.mono B rfl g2
   |dead=>trivial
 ·rw[l]at hq;split at hq
  ·cases hq
  ·rw[bgM]at hq;obtain⟨y,R,-⟩:=hq;exact .inl ⟨y,R⟩
 ·simp only[upd]at hb;split at hb
  ·rename_i e;subst e;exact .inr (.inl ⟨_,Z⟩)
  ·exact .inl hb
theorem mP.sound{F j:PF}{H H':PH}(h:mP F H j H'):∀{E:Env},cS E H w→∃e,cS e H' w∧Ext E H w e H' w∧∀(f:Nat→Value),(∀i pv,F i=some pv→bF E pv (f i))→∀i pv,j i=some pv→bF e pv (f i):=by
 induction h with
 |refl F H=>intro E hW;exact⟨E,hW,.refl E H w,λf h=>h⟩
 |step o B _ I =>intro E hW;obtain⟨K,u,x,y⟩:=hW.frz B;obtain⟨l,k1,k2,J⟩:=I u;refine⟨l,k1,x.trans k2,λf A=>J f λi pv hi=>?_⟩;simp only[PF.frz,bgM]at hi;obtain⟨q,hq,rfl⟩:=hi;exact y (A i q hq)
theorem fU.frz{l:PF}{H':PH}(j:fU ds n E F a)(hW:cS E H w)(h:mP F H l H'):∃e,fU ds n e l a∧cS e H' w∧Ext E H w e H' w:=by
 obtain⟨e,u,x,y⟩:=h.sound hW;exact⟨e,⟨j.size,j.defers,y (λi=>a.tmps.getD i undef) j.t⟩,u,x⟩
end
open Go Go.RowKit
section
variable {T:Tbl} {n:Nat} {E:Env} {F:PF} {H:PH} {a:Act} {w:World}
theorem kx(k:List KS):∀(L:List (List KS × PV)) (i j:Nat),(uK k L i).map (·.2)=(uK k L j).map (·.2)
 |[],_,_=>rfl
 |e::L,i,j=>by
  simp only[uK];split
  ·rfl
  ·exact kx k L _ _
theorem sT(e:List KS × PV)(L:List (List KS × PV))(k:List KS):mapOf (e::L) k=if e.1=k then some e.2 else mapOf L k:=by
 unfold mapOf;simp only[uK];split
 ·rfl
 ·exact kx k L _ _
theorem Ap{j:List KS}{pv:PV}:∀{L:List (List KS × PV)},mapOf L j=none→mapOf (L++[(j,pv)])=oU.upd (mapOf L) j pv
 |[],_=>by
  funext k;simp only[bjH,sT,oU.upd];by_cases h:j=k
  ·rw[aL h,aL h.symm]
  ·rw[aE h,aE (λe=>h e.symm)]
 |e::L,h=>by
  rw[sT]at h;split at h
  ·cases h
  ·rename_i u;funext k;rw[bjR,sT,Ap h];simp only[oU.upd,sT];by_cases l:e.1=k
   ·have:k≠j:=λx=>u (l.trans x);simp[l,this]
   ·simp[l]
theorem Le{l:List KS}{pv:PV}:∀{L:List (List KS × PV)}{i j:Nat}{p:PV},uK l L i=some (j,p)→i≤j∧mapOf (L.set (j-i) (l,pv))=oU.upd (mapOf L) l pv
 |[],i,j,p,h=>by simp[uK]at h
 |e::L,i,j,p,h=>by
  simp only[uK]at h;split at h
  ·rename_i he;cases h;refine⟨bgG _,?_⟩;funext k;rw[Nat.sub_self,List.set_cons_zero,sT];simp only[oU.upd,sT];by_cases x:l=k
   ·subst x;simp
   ·have A:k≠l:=λu=>x u.symm;have y:e.1≠k:=λu=>x (he.symm.trans u);simp[x,A,y]
  ·rename_i he;obtain⟨x,A⟩:=Le (pv:=pv) h;refine⟨by omega,?_⟩;funext k;rw[show j-i=(j-(i+1))+1 by omega,List.set_cons_succ,sT,A];simp only[oU.upd,sT];by_cases y:e.1=k
   ·have:k≠l:=λu=>he (y.trans u);simp[y,this]
   ·simp[y]
theorem cS.aQD(hW:cS E H w){o:Nat}{sh:MSh}{g:oU}{X u:Array MapEntry}{A j:Nat}{L:List (List KS × PV)}(O:H o=some (.map sh g))(Z:w.heap[o]?=some (.map X A))(U:u.size=Z' L∧(L.map (·.1)).Nodup)
  (Y:∀(i:Nat) e R,L[i]?=some e→u[i]?=some R→e.1.map KS.sh=sh.2∧R.key=lP sh e.1∧bF E e.2 R.val) :
  cS E (H.set o (.map sh (mapOf L))) { w with heap:=w.heap.setIfInBounds o (.map u j) }∧Ext E H w E (H.set o (.map sh (mapOf L))) { w with heap:=w.heap.setIfInBounds o (.map u j) }:=by
 have hlt:=(hW.h o _ O).1;have l:∀b,b≠o→(w.heap.setIfInBounds o (.map u j))[b]?=w.heap[b]?:=λb hb=>Array.getElem?_setIfInBounds_ne (Ne.symm hb);have I:(w.heap.setIfInBounds o (.map u j))[o]?=some (.map u j):=by simp[hlt]
 have N:∀b ds,E.G b=some ds→b≠o:=λb ds hb e=>by subst e;have:=(hW.g b ds hb).1 _ O;cases this
 refine⟨⟨λb ds hb=>?_,λq x hq=>?_,λq m hs=>?_⟩,⟨.refl E,rfl,rfl,rfl,by simp,λb _ V=>l b (λe=>by subst e;rw[O]at V;cases V),λq x hq=>?_,λb ds hb=>.inl hb⟩⟩
 ·obtain⟨B,J,S,M⟩:=hW.g b ds hb;have y:=N b ds hb;refine⟨λx W=>B x ?_,J,S,(l b y).trans M⟩;rw[dS,aE y]at W;exact W
 ·rw[dS]at hq;split at hq
  ·rename_i e;subst e;cases hq;exact⟨by simpa using hlt,u,j,L,I,U,rfl,Y⟩
  ·rename_i e;obtain⟨B,M⟩:=hW.h q x hq;exact⟨by simpa using B,M.mono (.refl E) (l q e)⟩
 ·obtain⟨K,J,S,B,M⟩:=hW.s q m hs;have y:q≠o:=λe=>by subst e;rw[Z]at B;cases B
  exact⟨K,J,S,(l q y).trans B,M⟩
 ·rw[dS]at hq;split at hq
  ·rename_i e;subst e;exact .inl ⟨_,O⟩
  ·exact .inl ⟨x,hq⟩
theorem nv(k:KS)(d:Nat):Instr.sameBits d k.val k.val=true:=by
 cases k<;>cases d<;>simp[KS.val,Instr.sameBits,beq_toListBytes]
theorem aiP(sh:MSh)(k:List KS)(A:sh.1=false→∃s,k=[s]):Instr.sameBits 10000 (lP sh k) (lP sh k)=true:=by
 obtain⟨b,l⟩:=sh;cases b with
 |false =>obtain⟨s,rfl⟩:=A rfl;exact nv s 10000
 |true=>
  simp only[lP,if_true];obtain⟨m,B⟩:∃m:Nat,m=9999:=⟨_,rfl⟩;rw[show(10000:Nat)=m+1 by omega];simp only[Instr.sameBits,beq_self_eq_true,bgO,bgY];rintro⟨x,y⟩ j;have:∀(l:List Value),(x,y)∈l.zip l→x=y∧x∈l:=by
   intro l
   induction l with
   |nil=>intro h;simp at h
   |cons z I u=>
    intro h;simp only[List.zip_cons_cons,bgN,Prod.mk.injEq]at h;rcases h with⟨rfl,rfl⟩|h
    ·exact⟨rfl,by simp⟩
    ·exact⟨(u h).1,by simp[(u h).2]⟩
  obtain⟨rfl,e⟩:=this _ j;simp only[bhC]at e;obtain⟨s,-,rfl⟩:=e;exact nv s m
theorem abO{t kt et:TypeId}{sh:MSh}{pk pv:PV}{x k v:Value}{o:Nat}{g:oU}{l:List KS}(ht:T.P.underlying t=some (.map kt et))(Z:T.rV kt=some sh)
  (hx:bF E (.map o) x) (hk:bF E pk k) (hv:bF E pv v) (ho:H o=some (.map sh g)) (X:keyOf sh pk=some l) (hW:cS E H w) :
  ∃w',(Instr.mapUpdate t x k v).run T.P w=.ok () w'∧cS E (H.set o (.map sh (g.upd l pv))) w'∧Ext E H w E (H.set o (.map sh (g.upd l pv))) w':=by
 cases hx;obtain⟨hlt,es,M,L,hh,⟨I,Y⟩,rfl,A⟩:=hW.h o _ ho;obtain⟨ζ,B,δ⟩:=K0 hk X;have α:zQ sh L es.toList:=⟨by simpa using I,λi e U a b=>by have:=A i e U a (by simpa using b);exact⟨this.1,this.2.1⟩⟩;obtain⟨r,g1,g2⟩:=YX (w:=w) Z B α;subst ζ;have V:(getObj o).run T.P w=.ok (.map es M) w:=by simp[getObj,Sem.run,hh]
 have K:∀x,(setObj o x).run T.P w=.ok () { w with heap:=w.heap.setIfInBounds o x }:=λx=>MapKept.run_setObj_map x hh;simp only[Instr.mapUpdate,Sem.run_bind,run_underlying ht,Result.andThen_ok,V,QN Z B,g1];unfold Found at g2;split at g2
 ·rename_i hn;subst g2;have hm:mapOf L l=none:=by unfold mapOf;rw[hn];rfl
  have hp:oU.upd (mapOf L) l pv=mapOf (L++[(l,pv)]):=(Ap hm).symm;rw[hp];simp only[K];have ε:l ∉ L.map (·.1):=λhm=>by have:=(SH l L 0).2 hm;rw[hn]at this;cases this
  have u:((L++[(l,pv)]).map (·.1)).Nodup:=by rw[bhM,bjA];refine⟨Y,by simp,λx hx y hy=>?_⟩;simp only[bhJ,biS,bhI]at hy;subst hy;rintro rfl;exact ε hx
  refine⟨_,rfl,hW.aQD ho hh ⟨by simp[I],u⟩ λi e U N J=>?_⟩;rcases Nat.lt_trichotomy i L.length with h3|h3|h3
  ·rw[biA h3]at N;rw[Array.getElem?_push_lt Om]at J;exact A i e U N (by rw[bjY Om];exact J)
  ·subst h3;rw[biB (bgG _)]at N;rw[←I,Array.getElem?_push_size]at J;simp at N J;subst N;subst J;exact⟨B,rfl,hv⟩
  ·rw[bhQ (by simp;omega)]at N;cases N
 ·rename_i j p hj;obtain⟨e0,-,J,h3,rfl⟩:=g2;have hp:oU.upd (mapOf L) l pv=mapOf (L.set j (l,pv)):=by have:=(Le (pv:=pv) hj).2;simpa using this.symm
  rw[hp];simp only[Nat.sub_zero]at J h3;have O:es[j]?=some e0:=by simpa using J
  have β:e0.key=lP sh l:=(A j _ e0 h3 O).2.1;have R:(Instr.keyThatStays (((es[j]?).map (·.key)).getD (lP sh l)) (lP sh l)).run T.P w=.ok (lP sh l) w:=by rw[O];simp only[bhD,biE,β,Instr.keyThatStays,aiP sh l δ,if_true,Sem.run_pure]
  simp only[Sem.run_bind,R,Result.andThen_ok,K];have u:((L.set j (l,pv)).map (·.1)).Nodup:=by
   have e9:(L.set j (l,pv)).map (·.1)=L.map (·.1):=by
    rw[List.map_set];refine List.ext_getElem? λi=>?_;rw[bjT];split
    ·rename_i e;subst e;rw[bgT,h3];have:=(bhG.1 h3).1;simp[this]
    ·rfl
   rw[e9];exact Y
  refine⟨_,rfl,hW.aQD ho hh ⟨by simp[I],u⟩ λi e U S h5=>?_⟩;rw[Array.getElem?_modify]at h5;rw[bjT]at S;have γ:j<Z' L:=(bhG.1 h3).1;by_cases W:j=i
  ·subst W;rw[aL rfl,aL γ]at S;rw[aL rfl,O]at h5;simp at S h5;subst S;subst h5;exact⟨B,rfl,hv⟩
  ·rw[aE W]at S h5;exact A i e U S h5
end
open Go Go.RowKit
def Fz(r:Option Nat):Fence:={ Fence.wide with round:=r }
theorem Fz.calls{r:Option Nat}{m:Nat}{P:Program}{f:FuncId}{args:Array Value}{w:World}{R:Ending→World→Prop}(h:Calls P f args w R):CallsIn (Fz r) m P f args w R:=(callsIn_wide (n:=m)).2 h
theorem Fz.fn{r:Option Nat}(f:FuncId):(Fz r).fn f:=trivial
theorem RQ{r:Option Nat}{m:Nat}{P:Program}{o:Oper}{a:Act}{w:World}{next:Act→World→Prop}{Q:Exit→Act→World→Prop}(e:∀c,o.op≠.defer c)(h:o.uponIn (Fz r) m P a next Q ((execOp a.eval o).run P w)):o.wpIn (Fz r) m P a w next Q:=
 ⟨λ_ _=>trivial,by rw[Oper.semAt_eq _ _ _ e];exact h⟩
section
variable {ro:Option Nat} {fu:Nat} {ds:List Deferred} {T:Tbl} {n:Nat} {E:Env} {F:PF} {H:PH} {a:Act} {w:World}
def sK(ds:List Deferred)(n:Nat)(E:Env)(H:PH)(w:World)(K:PF→PH→Prop)(next:Act→World→Prop):Prop:=
 ∀e l H' u j,fU ds n e l u→cS e H' j→Ext E H w e H' j→K l H'→next u j
theorem iH.append{ps e:List PV}{vs j:List Value}(h:iH E ps vs)(k:iH E e j):iH E (ps++e) (vs++j):=by
 induction h with
 |nil=>exact k
 |cons h _ l=>exact .cons h l
theorem iH.a8X{ps:List PV}:∀{vs:List Value},Z' vs=Z' ps→(∀(j:Nat) p v,ps[j]?=some p→vs[j]?=some v→bF E p v)→iH E ps vs:=by
 induction ps with
 |nil=>intro vs e _;simp at e;subst e;exact .nil
 |cons p ps l=>
  intro vs e h;cases vs with
  |nil=>simp at e
  |cons v vs=>exact .cons (h 0 p v rfl rfl) (l (by simpa using e) λj q u a b=>h (j+1) q u (by simpa using a) (by simpa using b))
theorem aSI{o:Oper}{c:Call}{f:FuncId}{vc:Array Value}{x:Operand}{P:Program}{fn:Func}(y:o.op=.call c)(j:c.callee=.value x)(A:a.eval x=.func (.func f) #[] vc)
  (u:P.funcs[f]?=some fn) (hb:fn.body.isSome=true) (l:(fn.name=="runtime.NumGoroutine")=false) :
  (execOp a.eval o).run P w=.ok (.enter f (c.args.map a.eval++vc)) w:=by
 have e:fn.body.isNone=false:=by cases h:fn.body<;>simp_all
 unfold execOp;rw[y];simp only[resolve,j,A,Deferred.ofValue,Sem.run_bind,Sem.run_pure,Result.andThen_ok,invoke,callFunc,run_program,u,l,e,bjE,if_false,Array.empty_append]
theorem kn{C:Ctx}{name:Nat}{ps:Option (List PV)}{d:Option Nat}{K:PF→PH→Prop}{o:Oper}{c:Call}{x:Operand}{vc:Array Value}{Q:Exit→Act→World→Prop}{next:Act→World→Prop}
  (h:AH C name ps d K F H) (hd:o.dst=d) (hlt:o.dst.all (·<n)=true) (U:o.op=.call c) (N:c.callee=.value x) (hx:a.eval x=.func (.func (C.num name)) #[] vc)
  (j:∀vs,ps=some vs→iH E vs (c.args.map a.eval++vc).toList) (X:fU ds n E F a) (hW:cS E H w) (Z:E.num=C.num) (bfH:sK ds n E H w K next):o.wpIn (Fz ro) fu C.P a w next Q:=by
 obtain⟨vs,H0,R,rfl,u,⟨⟨fn,hf,hb,O⟩,l⟩,Y⟩:=h;have A:=aSI (w:=w) (a:=a) U N hx hf hb O;refine RQ (λc'=>by rw[U];exact λe=>by cases e) ?_;rw[A,Oper.uponIn_enter];refine⟨(λh=>by cases h),Fz.calls ((l E w _ Z (hW.weaken u) (j vs rfl)).mono λe w' he=>?_)⟩;obtain⟨v,pv,S,H',rfl,J,hr,B,hR⟩:=he;have M:qM H H0 H':=by
  intro q y hq W;rcases B.new q y hq with⟨z,V⟩|hge
  ·rw[W]at V;cases V
  ·cases hh:H q with
   |none=>rfl
   |some z=>have:=(hW.h q z hh).1;omega
 have I:fU ds n S (F.put d pv) (a.put o.dst v):=by rw[←hd];exact(X.mono B.env).put hlt hr
 exact bfH S _ _ _ w' I (hW.over B u J) (B.narrow u) (Y pv H' hR M)
theorem ZS{C:Ctx}{name:Nat}{args:List aS}{cs:List PV}{d:Option Nat}{K:PF→PH→Prop}{o:Oper}{c:Call}{x:Operand}{vc:Array Value}{Q:Exit→Act→World→Prop}{next:Act→World→Prop}
  (h:kF C name args cs d K F H) (O:o.dst=d) (hlt:o.dst.all (·<n)=true) (R:o.op=.call c) (A:c.callee=.value x) (S:a.eval x=.func (.func (C.num name)) #[] vc)
  (e:∀(u:Env)(N:PF) vs,E.le u→fU ds n u N a→u.num=C.num→aS.evs N args=some vs→iH u (vs++cs) (c.args.map a.eval++vc).toList) (J:fU ds n E F a) (hW:cS E H w) (I:E.num=C.num) (bfH:sK ds n E H w K next):o.wpIn (Fz ro) fu C.P a w next Q:=by
 rcases h with h|⟨F1,H1,hf,h⟩
 ·refine kn h O hlt R A S (λvs j=>?_) J hW I bfH;rw[bgM]at j;obtain⟨ws,l,rfl⟩:=j;exact e E F ws (.refl E) J I l
 ·obtain⟨u,y,M,B⟩:=J.frz hW hf;refine kn h O hlt R A S (λvs j=>?_) y M (B.env.num.trans I) (λU V H2 a2 W g1 g2 g3 g4=>bfH U V H2 a2 W g1 g2 (B.trans g3) g4);rw[bgM]at j;obtain⟨ws,l,rfl⟩:=j;exact e u F1 ws B.env y (B.env.num.trans I) l
theorem io{C:Ctx}{l:Nat}{ps:Option (List PV)}{d:Option Nat}{K:PF→PH→Prop}{o:Oper}{c:Call}{x:Operand}{Q:Exit→Act→World→Prop}{next:Act→World→Prop}
  (h:XV C l ps d K F H) (hd:o.dst=d) (hlt:o.dst.all (·<n)=true) (Y:o.op=.call c) (W:c.callee=.value x) (hx:a.eval x=.func (.yield l) #[] #[])
  (B:∀vs,ps=some vs→iH E vs (c.args.map a.eval).toList) (hA:fU ds n E F a) (hW:cS E H w) (hN:E.num=C.num) (bfH:sK ds n E H w K next):o.wpIn (Fz ro) fu C.P a w next Q:=by
 obtain⟨vs,H0,R,rfl,J,I,hK⟩:=h;obtain⟨fn,A,j,body,hy,u⟩:=I E w (c.args.map a.eval) hN (hW.weaken J) (B vs rfl);have M:(execOp a.eval o).run C.P w=.ok (.round l fn A j body) w:=by unfold execOp;rw[Y];simp only[resolve,W,hx,Deferred.ofValue,Sem.run_bind,Sem.run_pure,Result.andThen_ok,invoke,Array.empty_append,Array.append_empty];exact hy
 refine RQ (λc'=>by rw[Y];exact λe=>by cases e) ?_;rw[M,Oper.uponIn_round];have S:RoundIn (Fz ro) (fu-1) C.P l fn A j body w _:=⟨trivial,λc cs _=>u.2 c cs (room_wide _)⟩;refine⟨(λh=>by cases h),S.mono λe w' he=>?_⟩;obtain⟨v,pv,X,H',rfl,U,hr,N,hR⟩:=he;have V:qM H H0 H':=by
  intro q y hq h0;rcases N.new q y hq with⟨z,Z⟩|hge
  ·rw[h0]at Z;cases Z
  ·cases hh:H q with
   |none=>rfl
   |some z=>have:=(hW.h q z hh).1;omega
 have O:fU ds n X (F.put d pv) (a.put o.dst v):=by rw[←hd];exact(hA.mono N.env).put hlt hr
 exact bfH X _ _ _ w' O (hW.over N J U) (N.narrow J) (hK pv H' hR V)
theorem Um{C:Ctx}{l:Nat}{args:List aS}{d:Option Nat}{K:PF→PH→Prop}{o:Oper}{c:Call}{x:Operand}{Q:Exit→Act→World→Prop}{next:Act→World→Prop}
  (h:aEQ C l args d K F H) (O:o.dst=d) (hlt:o.dst.all (·<n)=true) (R:o.op=.call c) (A:c.callee=.value x) (S:a.eval x=.func (.yield l) #[] #[])
  (e:∀(u:Env)(N:PF) vs,fU ds n u N a→u.num=C.num→aS.evs N args=some vs→iH u vs (c.args.map a.eval).toList) (I:fU ds n E F a) (hW:cS E H w) (B:E.num=C.num) (bfH:sK ds n E H w K next):o.wpIn (Fz ro) fu C.P a w next Q:=by
 rcases h with h|⟨F1,H1,hf,h⟩
 ·exact io h O hlt R A S (λvs j=>e E F vs I B j) I hW B bfH
 ·obtain⟨u,y,M,J⟩:=I.frz hW hf;exact io h O hlt R A S (λvs j=>e u F1 vs y (J.env.num.trans B) j) y M (J.env.num.trans B) (λU V H2 a2 W g1 g2 g3 g4=>bfH U V H2 a2 W g1 g2 (J.trans g3) g4)
theorem aaR{o:Oper}{p:POp}(e:T.op o=some p)(j:p.vC=true):∃c,o.op=.call c∧T.call o c=some p:=by
 unfold Tbl.op at e;split at e
 case h_26=>rename_i c l;exact⟨c,l,e⟩
 all_goals (repeat' (first|(split at e)|(simp only[bgM]at e;obtain⟨_,-,rfl⟩:=e;simp[POp.vC]at j;done)|(cases e;simp[POp.vC]at j;done)|(cases e;done)))
theorem ux{o:Oper}{p:POp}(e:T.op o=some p):∀c,o.op≠.defer c:=by
 intro c j;unfold Tbl.op at e;rw[j]at e;simp at e
theorem Ua{o:Oper}{p:POp}(j:T.op o=some p)(A:p.gU=true) :
  (∃t R x k U l,o.op=.store t R x∧T.size t=some k∧T.opd R=some U∧T.opd x=some l∧p=.store k U l) ∨
  (∃c x y t e i l V,o.op=.call c∧c.callee=.builtin .append∧c.args.toList=[x,y]∧c.argTypes.toList=[t,t]∧T.P.underlying t=some (.slice e)∧T.P.info? e=some i∧i.zero.isSome=true ∧
   (i.zero.map (·.cells.size))=some i.size∧0<i.size∧T.opd x=some l∧T.opd y=some V∧p=.append i.size i.bytes l V) ∨
  (∃t N O sh x k v l pk pv,(o.op=.mapUpdate t x k v∨o.op=.insert t x k v)∧T.P.underlying t=some (.map N O)∧T.rV N=some sh∧T.opd x=some l∧T.opd k=some pk∧T.opd v=some pv ∧
   (p=.bfD sh l pk pv∨p=.insert sh l pk pv)):=by
 unfold Tbl.op at j;split at j
 case h_17=>
  rename_i t x k v M;split at j
  ·rename_i N O S;split at j<;>cases j;rename_i sh p q r B I J W;exact .inr (.inr ⟨t,N,O,sh,x,k,v,p,q,r,.inl M,S,B,I,J,W,.inl rfl⟩)
  ·cases j
 case h_18=>
  rename_i t x k v M;split at j
  ·rename_i N O S;split at j<;>cases j;rename_i sh p q r B I J W;exact .inr (.inr ⟨t,N,O,sh,x,k,v,p,q,r,.inr M,S,B,I,J,W,.inr rfl⟩)
  ·cases j
 case h_9 =>rename_i t R x M;split at j<;>cases j;rename_i k U l B I J;exact .inl ⟨t,R,x,k,U,l,M,B,I,J,rfl⟩
 case h_26=>
  rename_i c M;unfold Tbl.call at j;split at j
  ·rename_i b Y;split at j
   ·split at j<;>(first|(simp only[bgM]at j;obtain⟨_,-,rfl⟩:=j;simp[POp.gU]at A;done)|(cases j;simp[POp.gU]at A;done)|(cases j;done))
   ·rename_i x y t u X Z;split at j<;>try cases j
    rename_i e e' ht S;split at j<;>try cases j
    rename_i i l V hi hx hy;split at j
    ·rename_i K;cases j;obtain⟨rfl,B,I,J⟩:=K;exact .inr (.inl ⟨c,x,y,t,e,i,l,V,M,Y,X,Z,ht,hi,B,I,J,hx,hy,rfl⟩)
    ·cases j
   ·split at j<;>(first|(simp only[bgM]at j;obtain⟨_,-,rfl⟩:=j;simp[POp.gU]at A;done)|(cases j;done))
   ·split at j<;>(first|(cases j;simp[POp.gU]at A;done)|(cases j;done))
   ·split at j<;>(first|(cases j;simp[POp.gU]at A;done)|(cases j;done))
   ·cases j
  ·split at j
   ·split at j
    ·cases j;simp[POp.gU]at A
    ·cases j
   ·cases j
  ·simp only[bgM]at j;obtain⟨_,-,rfl⟩:=j;simp[POp.gU]at A
  ·cases j
 all_goals (repeat' (first|(split at j)|(simp only[bgM]at j;obtain⟨_,-,rfl⟩:=j;simp[POp.gU]at A;done)|(cases j;simp[POp.gU]at A;done)|(cases j;done)))
theorem arD{o:Oper}{p:POp}{K:PV→PH→Prop}(hc:T.op o=some p)(hk:p.gU=true)(h:dL p F H K)(I:fU ds n E F a)(hW:cS E H w)(J:E.num=T.num):Vp T.P E H w o a K:=by
 rcases Ua hc hk with⟨t,ax,x,k,pp,Z,ho,h1,h2,h3,rfl⟩|⟨c,x,y,t,e,i,Z,py,ho,hcc,hca,hct,ht,hi,g1,g2,g3,hx,hy,rfl⟩|⟨t,kt,et,sh,x,k,v,Z,pk,pv,ho,hu,hsh,hx,hkk,hv,hp⟩
 ·simp only[dL]at h;split at h
  ·rename_i pa pv u W;obtain⟨hl,H',X,l⟩:=h;obtain⟨w',hr,U,hE⟩:=aqX ho h1 h2 h3 u W hl X I hW J;exact⟨undef,_,w',E,H',.junk,hr,.inr ⟨rfl,rfl⟩,.junk _,U,hE,l⟩
  ·exact h.elim
 ·simp only[dL]at h;split at h
  ·rename_i pa pb u V;exact Vv ho hcc hca hct ht hi g1 g2 g3 (bQ hx u I J) (bQ hy V I J) h hW
  ·exact h.elim
 ·have j:∀q A B g j,Z.ev F=some (.map q)→pk.ev F=some A→pv.ev F=some B→H q=some (.map sh g)→keyOf sh A=some j→K .junk (H.set q (.map sh (g.upd j B)))→Vp T.P E H w o a K:=by intro q A B g j M N O R S l;obtain⟨w',g1,g2,g3⟩:=abO hu hsh (bQ hx M I J) (bQ hkk N I J) (bQ hv O I J) R S hW;refine⟨undef,.skip,w',E,_,.junk,?_,.inr ⟨rfl,rfl⟩,.junk _,g2,g3,l⟩;rcases ho with ho|ho<;>(unfold execOp;rw[ho];simp[g1])
  rcases hp with rfl|rfl
  ·simp only[dL]at h;split at h
   ·rename_i q A B M N O;split at h
    ·rename_i α g Y R S;obtain⟨rfl,l⟩:=h;exact j q A B g Y M N O R S l
    ·exact h.elim
   ·exact h.elim
  ·simp only[dL]at h;split at h
   ·rename_i q A B M N O;split at h
    ·rename_i α g Y R S;obtain⟨rfl,-,l⟩:=h;exact j q A B g Y M N O R S l
    ·exact h.elim
   ·exact h.elim
theorem aWC{C:Ctx}(X:C.P=T.P)(B:C.num=T.num){o:Oper}{p:POp}{d:Option Nat}{K:PF→PH→Prop}{Q:Exit→Act→World→Prop}{next:Act→World→Prop}(hc:T.op o=some p)(hd:o.dst=d)(hlt:o.dst.all (·<n)=true)
  (h:wpOp C p d K F H) (O:fU ds n E F a) (hW:cS E H w) (Y:E.num=T.num) (bfH:sK ds n E H w K next):o.wpIn (Fz ro) fu T.P a w next Q:=by
 by_cases hk:p.vC=true
 ·obtain⟨c,ho,y⟩:=aaR hc hk;unfold Tbl.call at y;split at y
  ·rename_i b M;exfalso
   repeat' (first|(split at y)|(simp only[bgM]at y;obtain⟨_,-,rfl⟩:=y;simp[POp.vC]at hk;done)|(cases y;simp[POp.vC]at hk;done)|(cases y;done))
  ·rename_i f M;split at y
   ·rename_i m xs hm U;split at y
    ·rename_i hf;cases y;rw[←X];refine ZS h hd hlt ho M (vc:=#[]) (by rw[B,hf];rfl) (λN F' vs _ R Z β=>?_) O hW (Y.trans B.symm) bfH;simpa using GO U β R (Z.trans B)
    ·cases y
   ·cases y
  ·rename_i t M;simp only[bgM]at y;obtain⟨xs,U,rfl⟩:=y;have h':DF C (aS.ev F (.tmp t)) xs d K F H:=h;have δ:a.eval (.tmp t)=a.tmps.getD t undef:=rfl;cases α:aS.ev F (.tmp t)with
   |none=>rw[α]at h';exact h'.elim
   |some u=>
    rw[α]at h';have r:=O.t t _ α;cases u with
    |fn name cs=>
     generalize hv:a.tmps.getD t undef=v at r;cases r with
     |fn vc V W=>
     rw[←X];refine ZS h' hd hlt ho M (vc:=vc) (by rw[δ,hv,Y,B]) (λN F' ws η A' Z κ=>?_) O hW (Y.trans B.symm) bfH;rw[Array.toList_append];refine iH.append (by simpa using GO U κ A' (Z.trans B)) (iH.a8X (by simpa using V) λj p u hp hu=>(W j p u hp (by simpa using hu)).mono η)
    |lit u=>
     obtain⟨l,V,hy⟩:=h';unfold PV.aRS at V;split at V
     ·rename_i l' f' c' e;split at V
      ·rename_i ζ;cases V;obtain⟨rfl,rfl⟩:=ζ;cases e;generalize hv:a.tmps.getD t undef=v at r;cases r;rw[←X];exact Um hy hd hlt ho M (by rw[δ,hv]) (λN F' vs A' N' β=>by simpa using GO U β A' (N'.trans B)) O hW (Y.trans B.symm) bfH
      ·cases V
     ·cases V
    |_=>exact h'.elim
  ·cases y
 ·have γ:p.vC=false:=by simpa using hk
  have A:(if p.mL then sX (eU p F) d K F H else if p.gU then dL p F H (λr H'=>K (F.put d r) H')else cX (aT p F H) d K F H):=by cases p<;>first|exact h|(simp[POp.vC]at γ)
  by_cases hn:p.mL=true
  ·rw[aL hn]at A;obtain⟨mk,x,ε,hK⟩:=A;obtain⟨v,w',N,q,W,hq,I,J,S⟩:=aNT hc hn ε O hW Y;refine RQ (ux hc) ?_;rw[W,Oper.uponIn_value];exact bfH N _ _ _ w' (by rw[←hd];exact(O.mono S.env).put hlt I) J S (hK q hq)
  ·rw[aE hn]at A;by_cases hw:p.gU=true
   ·rw[aL hw]at A;obtain⟨v,nx,w',N,H',pv,W,θ,I,J,S,hK⟩:=arD hc hw A O hW Y;refine RQ (ux hc) ?_;have R:fU ds n N (F.put d pv) (a.put o.dst v):=by rw[←hd];exact(O.mono S.env).put hlt I
    rcases θ with rfl|⟨rfl,rfl⟩
    ·rw[W,Oper.uponIn_value];exact bfH N _ _ _ w' R J S hK
    ·rw[W,Oper.uponIn_skip];exact bfH N _ _ _ w' R J S hK
   ·rw[aE hw]at A;obtain⟨pv,ι,hK⟩:=A;obtain⟨v,w',N,W,I,J,S⟩:=aGB hc (by simpa using hn) (by simpa using hw) γ ι O hW Y;refine RQ (ux hc) ?_;rw[W,Oper.uponIn_value];exact bfH N _ _ _ w' (by rw[←hd];exact(O.mono S.env).put hlt I) J S hK
end
def aS.dR:aS→List Nat
 | .tmp t=>[t]
 | .const _=>[]
def BQ:Option aS→List Nat
 |none=>[]
 |some x=>x.dR
def fg:List aS→List Nat
 |[]=>[]
 |x::xs=>x.dR++fg xs
def ajE:List (Nat × Nat × aS)→List Nat
 |[]=>[]
 |x::xs=>x.2.2.dR++ajE xs
def ajD:List (Nat × aS)→List Nat
 |[]=>[]
 |x::xs=>x.2.dR++ajD xs
def POp.dR:POp→List Nat
 | .mv x=>x.dR
 | .pick c a b=>c.dR++(a.dR++b.dR)
 | .bin _ x y=>x.dR++y.dR
 | .eqb _ x y=>x.dR++y.dR
 | .eqs _ _ x y=>x.dR++y.dR
 | .un _ x=>x.dR
 | .conv _ x=>x.dR
 | .same x=>x.dR
 | .alloc _=>[]
 | .box _ x=>x.dR
 | .build _ ps=>ajE ps
 | .beQ _ _ _ _ ps=>ajD ps
 | .load _ p=>p.dR
 | .store _ p x=>p.dR++x.dR
 | .beY x=>x.dR
 | .bfP _ x=>x.dR
 | .field _ _ x=>x.dR
 | .bfC _ x i=>x.dR++i.dR
 | .idxA _ _ x i=>x.dR++i.dR
 | .idxV _ _ _ x i=>x.dR++i.dR
 | .bfN x i=>x.dR++i.dR
 | .slice _ x lo hi mx=>x.dR++(BQ lo++(BQ hi++BQ mx))
 | .bfI x lo hi=>x.dR++(BQ lo++BQ hi)
 | .sliceA _ _ x lo hi mx=>x.dR++(BQ lo++(BQ hi++BQ mx))
 | .len x=>x.dR
 | .bfM x=>x.dR
 | .bfX x=>x.dR
 | .lenM x=>x.dR
 | .isNil _ x=>x.dR
 | .extract x _=>x.dR
 | .beT _ _ _ l c=>l.dR++c.dR
 | .append _ _ x y=>x.dR++y.dR
 | .bfG _ x y=>x.dR++y.dR
 | .mkfn _ cs=>fg cs
 | .bfT _=>[]
 | .lookup _ _ x k _=>x.dR++k.dR
 | .bfD _ x k v=>x.dR++(k.dR++v.dR)
 | .insert _ x k v=>x.dR++(k.dR++v.dR)
 | .stuck=>[]
 | .beZ x=>x.dR
 | .str2bytes x=>x.dR
 | .call _ e=>fg e
 | .bfO x e=>x.dR++fg e
def vT(l:List Nat)(F F':PF):Prop:=∀t∈l,F t=F' t
theorem vT.left{a b:List Nat}{F F':PF}(h:vT (a++b) F F'):vT a F F':=λt e=>h t (by simp[e])
theorem vT.right{a b:List Nat}{F F':PF}(h:vT (a++b) F F'):vT b F F':=λt e=>h t (by simp[e])
section
variable {F F':PF} {H H':PH}
theorem cW{x:aS}(h:vT x.dR F F'):x.ev F=x.ev F':=by
 cases x with
 |tmp t=>exact h t (by simp[aS.dR])
 |const v=>rfl
theorem SE:∀{xs:List aS},vT (fg xs) F F'→aS.evs F xs=aS.evs F' xs
 |[],_=>rfl
 |x::xs,h=>by simp only[aS.evs,cW h.left,SE h.right]
theorem ze:∀{ps:List (Nat × Nat × aS)}{cs:List PV},vT (ajE ps) F F'→xA cs F ps=xA cs F' ps
 |[],_,_=>rfl
 |(o,s,x)::ps,cs,h=>by
  simp only[xA];rw[cW (x:=x) h.left];split
  ·rw[ze (ps:=ps) h.right]
  ·rfl
theorem FA{s:Nat}:∀{ps:List (Nat × aS)}{rs:List (List PV)},vT (ajD ps) F F'→mH s rs F ps=mH s rs F' ps
 |[],_,_=>rfl
 |(i,x)::ps,rs,h=>by
  simp only[mH];rw[cW (x:=x) h.left];split
  ·rw[FA (ps:=ps) h.right]
  ·rfl
theorem IR{d:Int}{x:Option aS}(h:vT (BQ x) F F'):bnd F d x=bnd F' d x:=by
 cases x with
 |none=>rfl
 |some x=>simp only[bnd,cW (x:=x) h]
theorem aJD{op:POp}(h:vT op.dR F F'):aT op F H=aT op F' H:=by
 cases op
 case mv x=>simp only[aT,cW (x:=x) h]
 case same x=>simp only[aT,cW (x:=x) h]
 case pick c a b=>simp only[aT,cW (x:=c) h.left,cW (x:=a) h.right.left,cW (x:=b) h.right.right]
 case bin x y=>simp only[aT,cW (x:=x) h.left,cW (x:=y) h.right]
 case eqb x y=>simp only[aT,cW (x:=x) h.left,cW (x:=y) h.right]
 case eqs x y=>simp only[aT,cW (x:=x) h.left,cW (x:=y) h.right]
 case un x=>simp only[aT,cW (x:=x) h]
 case conv x=>simp only[aT,cW (x:=x) h]
 case box r x=>cases r<;>simp only[aT,cW (x:=x) h]
 case build ps=>simp only[aT,ze (ps:=ps) h]
 case beQ r _ _ _ ps=>cases r<;>simp only[aT,FA (ps:=ps) h]
 case load n p=>cases n<;>simp only[aT,cW (x:=p) h]
 case beY x=>simp only[aT,cW (x:=x) h]
 case bfP x=>simp only[aT,cW (x:=x) h]
 case field x=>simp only[aT,cW (x:=x) h]
 case bfC x i=>simp only[aT,cW (x:=x) h.left,cW (x:=i) h.right]
 case idxA x i=>simp only[aT,cW (x:=x) h.left,cW (x:=i) h.right]
 case idxV x i=>simp only[aT,cW (x:=x) h.left,cW (x:=i) h.right]
 case bfN x i=>simp only[aT,cW (x:=x) h.left,cW (x:=i) h.right]
 case slice s x lo hi mx=>
  have e:x.ev F=x.ev F':=cW h.left;have j:∀d,bnd F d lo=bnd F' d lo:=λd=>IR h.right.left;have l:∀d,bnd F d hi=bnd F' d hi:=λd=>IR h.right.right.left;cases mx with
  |none=>simp only[aT,e,j,l]
  |some m =>have u:∀d,bnd F d (some m)=bnd F' d (some m):=λd=>IR (x:=some m) h.right.right.right;simp only[aT,e,j,l,u]
 case sliceA n size x lo hi mx =>have e:x.ev F=x.ev F':=cW h.left;cases lo<;>cases hi<;>cases mx<;>simp only[aT,e]
 case bfI x lo hi =>have e:x.ev F=x.ev F':=cW h.left;have j:∀d,bnd F d lo=bnd F' d lo:=λd=>IR h.right.left;have l:∀d,bnd F d hi=bnd F' d hi:=λd=>IR h.right.right;simp only[aT,e,j,l]
 case len x=>simp only[aT,cW (x:=x) h]
 case bfM x=>simp only[aT,cW (x:=x) h]
 case bfX x=>simp only[aT,cW (x:=x) h]
 case lenM x=>simp only[aT,cW (x:=x) h]
 case isNil x=>simp only[aT,cW (x:=x) h]
 case extract x i=>simp only[aT,cW (x:=x) h]
 case bfG x y=>simp only[aT,cW (x:=x) h.left,cW (x:=y) h.right]
 case mkfn cs=>simp only[aT,SE (xs:=cs) h]
 case lookup sh z x k ok=>simp only[aT,cW (x:=x) h.left,cW (x:=k) h.right]
 case beZ x=>simp only[aT,cW (x:=x) h]
 all_goals rfl
theorem aFR{op:POp}(h:vT op.dR F F'):eU op F=eU op F':=by
 cases op
 case box r x=>cases r<;>simp only[eU,cW (x:=x) h]
 case beQ r _ _ _ ps=>cases r<;>simp only[eU,FA (ps:=ps) h]
 case beT l c=>simp only[eU,cW (x:=l) h.left,cW (x:=c) h.right]
 all_goals rfl
theorem aLF{op:POp}{K:PV→PH→Prop}(h:vT op.dR F F'):dL op F H K=dL op F' H K:=by
 cases op
 case store n p x=>simp only[dL,cW (x:=p) h.left,cW (x:=x) h.right]
 case append s b x y=>simp only[dL,cW (x:=x) h.left,cW (x:=y) h.right]
 case bfD sh x k v=>simp only[dL,cW (x:=x) h.left,cW (x:=k) h.right.left,cW (x:=v) h.right.right]
 case insert sh x k v=>simp only[dL,cW (x:=x) h.left,cW (x:=k) h.right.left,cW (x:=v) h.right.right]
 all_goals rfl
theorem K3{op:POp}(h:vT op.dR F F'):op.kind F=op.kind F':=by
 have e:(if op.mL then Kind.new (eU op F)else if op.gU then .write (λH K=>dL op F H K)else .calm (aT op F)) =
   (if op.mL then Kind.new (eU op F')else if op.gU then .write (λH K=>dL op F' H K)else .calm (aT op F')):=by
  rw[aFR h];have j:(λH K=>dL op F H K)=λH K=>dL op F' H K:=by funext H K;exact aLF h
  have l:aT op F=aT op F':=by funext H;exact aJD h
  rw[j,l]
 cases op
 case call n az=>simp only[POp.kind,SE (xs:=az) h]
 case bfO x az=>simp only[POp.kind,cW (x:=x) h.left,SE (xs:=az) h.right]
 case insert sh x k v=>simp only[POp.kind,cW (x:=x) h.left,cW (x:=k) h.right.left,cW (x:=v) h.right.right]
 all_goals exact e
def bN.dR(i:bN):List Nat:=
 match i.guard with
 |none=>i.op.dR
 |some (t,_)=>t::i.op.dR
theorem Ah{i:bN}(h:vT i.dR F F'):i.kind F=i.kind F':=by
 unfold bN.kind;unfold bN.dR at h;cases e:i.guard with
 |none=>rw[e]at h;exact K3 h
 |some p =>obtain⟨t,j⟩:=p;rw[e]at h;simp only;rw[h t aY,K3 (λu l=>h u (by simp[l]))]
theorem aUP(p:PV):∃q:Nat,∀(H H':PH) n,H q=H' q→loadCells H p n=loadCells H' p n:=by
 cases p
 case ptr o s i c=>exact⟨o,λH H' n h=>by simp only[loadCells,h]⟩
 all_goals exact⟨0,λH H' n h=>rfl⟩
theorem aYJ(s:Nat)(p:PV):∃q:Nat,∀(H H':PH),H q=H' q→fA H s p=fA H' s p:=by
 cases p
 case osl o s' off len=>exact⟨o,λH H' h=>by simp only[fA,h]⟩
 all_goals exact⟨0,λH H' h=>rfl⟩
theorem aOY(op:POp)(F:PF):∃q:Nat,∀(H H':PH),H q=H' q→aT op F H=aT op F H':=by
 cases op
 case load n p=>
  cases e:p.ev F with
  |none=>exact⟨0,λH H' _=>by cases n<;>simp only[aT,e]⟩
  |some a =>obtain⟨q,hq⟩:=aUP a;exact⟨q,λH H' h=>by cases n<;>simp only[aT,e,hq H H' _ h]⟩
 case lenM x=>
  cases e:x.ev F with
  |none=>exact⟨0,λH H' _=>by simp only[aT,e]⟩
  |some a=>
   cases a
   case map o=>exact⟨o,λH H' h=>by simp only[aT,e,h]⟩
   all_goals exact⟨0,λH H' _=>by simp only[aT,e]⟩
 case lookup sh z x k ok=>
  cases e:x.ev F with
  |none=>exact⟨0,λH H' _=>by simp only[aT,e]⟩
  |some a=>
   cases a
   case map o=>exact⟨o,λH H' h=>by cases j:k.ev F<;>simp only[aT,e,j,h]⟩
   all_goals exact⟨0,λH H' _=>by simp only[aT,e]⟩
 case beZ x=>
  cases e:x.ev F with
  |none=>exact⟨0,λH H' _=>by simp only[aT,e]⟩
  |some a =>obtain⟨q,hq⟩:=aYJ 1 a;exact⟨q,λH H' h=>by simp only[aT,e,hq H H' h]⟩
 case sliceA n s x lo hi mx=>cases lo<;>cases hi<;>cases mx<;>exact⟨0,λH H' _=>rfl⟩
 case box r x=>cases r<;>exact⟨0,λH H' _=>rfl⟩
 case beQ r _ _ _ _=>cases r<;>exact⟨0,λH H' _=>rfl⟩
 all_goals exact⟨0,λH H' _=>rfl⟩
theorem La{p:PV}{n:Nat}{cs:List PV}(e:H.le H')(h:loadCells H p n=some cs):loadCells H' p n=some cs:=by
 cases p
 case ptr o s i c=>
  simp only[loadCells]at h ⊢;cases j:H o with
  |none=>rw[j]at h;cases h
  |some x=>rw[e o x j];rw[j]at h;exact h
 all_goals exact h
theorem aRJ{s:Nat}{p:PV}{rs:List (List PV)}(e:H.le H')(h:fA H s p=some rs):fA H' s p=some rs:=by
 cases p
 case osl o s' off len=>
  simp only[fA]at h ⊢;cases j:H o with
  |none=>rw[j]at h;simp at h
  |some x=>rw[e o x j];rw[j]at h;exact h
 all_goals exact h
theorem C9{op:POp}{v:PV}(j:H.le H')(h:aT op F H=some v):aT op F H'=some v:=by
 cases op
 case load n p=>
  cases u:p.ev F with
  |none=>cases n<;>simp only[aT,u]at h<;>cases h
  |some a=>
   cases n with
   |none=>
    simp only[aT,u]at h ⊢;cases e:loadCells H a 1 with
    |none=>rw[e]at h;cases h
    |some cs=>rw[La j e];rw[e]at h;exact h
   |some n=>
    simp only[aT,u]at h ⊢;cases e:loadCells H a n with
    |none=>rw[e]at h;cases h
    |some cs=>rw[La j e];rw[e]at h;exact h
 case lenM x=>
  simp only[aT]at h ⊢;split at h
  ·rename_i o w;cases l:H o with
   |none=>rw[l]at h;cases h
   |some y=>rw[j o y l];rw[l]at h;exact h
  ·cases h
 case lookup sh z x k ok=>
  simp only[aT]at h ⊢;split at h
  ·rename_i o E w B;cases l:H o with
   |none=>rw[l]at h;cases h
   |some y=>rw[j o y l];rw[l]at h;exact h
  ·cases h
 case beZ x=>
  simp only[aT]at h ⊢;split at h
  ·rename_i a A;cases e:fA H 1 a with
   |none=>rw[e]at h;cases h
   |some rs=>rw[aRJ j e];rw[e]at h;exact h
  ·cases h
 case sliceA n s x lo hi mx=>cases lo<;>cases hi<;>cases mx<;>exact h
 case box r x=>cases r<;>exact h
 case beQ r _ _ _ _=>cases r<;>exact h
 all_goals exact h
end
theorem PH.Ke(H:PH)(l:List Nat):∃o,H o=none∧o ∉ l:=by
 obtain⟨n,j⟩:=H.fin;refine⟨n+l.sum+1,j _ Om,λh=>?_⟩;have:n+l.sum+1≤l.sum:=by
  have e:∀(l:List Nat)(x:Nat),x∈l→x≤l.sum:=by
   intro l
   induction l with
   |nil=>intro x hx;cases hx
   |cons y w u=>
    intro x hx;rcases bgN.1 hx with rfl|hx
    ·simp
    ·have:=u x hx;simp;omega
  exact e l _ h
 omega
theorem PH.set_comm(H:PH){o q:Nat}(x y:cI)(h:o≠q):(H.set o x).set q y=(H.set q y).set o x:=by
 refine PH.ext λp=>?_;simp only[dS];by_cases e:p=q<;>by_cases j:p=o<;>simp_all
theorem PH.Al{H:PH}{o:Nat}(x:cI)(h:H o=none):H.le (H.set o x):=by
 intro p y j;rw[dS];split
 ·rename_i e;subst e;rw[h]at j;cases j
 ·exact j
theorem PH.aiU{H:PH}{o q:Nat}{x:cI}:(H.set o x) q=none↔q≠o∧H q=none:=by
 rw[dS];split<;>simp_all
theorem PH.le_trans{A B D:PH}(h:A.le B)(k:B.le D):A.le D:=λo x e=>k o x (h o x e)
theorem PH.le_none{A B:PH}(h:A.le B){o:Nat}(hb:B o=none):A o=none:=by
 cases e:A o with
 |none=>rfl
 |some x=>have:=h o x e;rw[hb]at this;cases this
theorem PH.a5N{A B:PH}(h:A.le B){o:Nat}{x:cI}(l:A o=none):A.le (B.set o x):=by
 intro p y j;rw[dS];split
 ·rename_i e;subst e;rw[l]at j;cases j
 ·exact h p y j
structure Va(f:PH→Option PV):Prop where
 dep:∃q:Nat,∀(H H':PH),H q=H' q→f H=f H'
 mono:∀(H H':PH) v,H.le H'→f H=some v→f H'=some v
structure aZT(w:PH→(PV→PH→Prop)→Prop):Prop where
 mono:∀H (K K':PV→PH→Prop),(∀v H',K v H'→K' v H')→w H K→w H K'
 some:∀H (K:PV→PH→Prop),w H K→∃v H',K v H'
inductive Kind.Ok:Kind→Prop
 |fail:Kind.Ok .fail
 |calm {f:PH→Option PV} (h:Va f):Kind.Ok (.calm f)
 |new (r:Option ((Nat→PV) × cI)):Kind.Ok (.new r)
 |write {w:PH→(PV→PH→Prop)→Prop} (h:aZT w):Kind.Ok (.write w)
 |call (name:Nat) (args:Option (List PV)):Kind.Ok (.call name args)
 |ins (r:Option (Nat × MSh × List KS × PV)):Kind.Ok (.ins r)
section
variable {C:Ctx} {Hs:PH} {S:Spec} {H:PH}
theorem KI{op:POp}{F:PF}{K K':PV→PH→Prop}(h:∀v H',K v H'→K' v H')(j:dL op F H K):dL op F H K':=by
 cases op
 case store n p x=>
  simp only[dL]at j ⊢;split at j
  ·obtain⟨E,H',l,I⟩:=j;exact⟨E,H',l,h _ _ I⟩
  ·exact j.elim
 case append s b x y=>
  simp only[dL]at j ⊢;split at j
  ·rename_i a c J M;obtain⟨src,E,l⟩:=j;refine⟨src,E,?_⟩;split at l
   ·exact⟨l.1,λe=>h _ _ (l.2.1 e),λe o u=>h _ _ (l.2.2 e o u)⟩
   ·obtain⟨g1,g2,g3,rs,g4,w,A,B⟩:=l;exact⟨g1,g2,g3,rs,g4,w,h _ _ A,λo u=>h _ _ (B o u)⟩
   ·obtain⟨g1,g3,rs,g4,w,A,B⟩:=l;exact⟨g1,g3,rs,g4,w,h _ _ A,λo u=>h _ _ (B o u)⟩
   ·exact l.elim
  ·exact j.elim
 case bfD sh x k v=>
  simp only[dL]at j ⊢;split at j
  ·split at j
   ·exact⟨j.1,h _ _ j.2⟩
   ·exact j.elim
  ·exact j.elim
 case insert sh x k v=>
  simp only[dL]at j ⊢;split at j
  ·split at j
   ·exact⟨j.1,j.2.1,h _ _ j.2.2⟩
   ·exact j.elim
  ·exact j.elim
 all_goals exact j.elim
theorem apE{op:POp}{F:PF}{K:PV→PH→Prop}(j:dL op F H K):∃v H',K v H':=by
 cases op
 case store n p x=>
  simp only[dL]at j;split at j
  ·obtain⟨B,H',l,E⟩:=j;exact⟨_,_,E⟩
  ·exact j.elim
 case append s b x y=>
  simp only[dL]at j;split at j
  ·rename_i a c J M;obtain⟨src,B,l⟩:=j;split at l
   ·by_cases e:src=[]
    ·exact⟨_,_,l.2.1 e⟩
    ·obtain⟨o,I⟩:=H.fresh;exact⟨_,_,l.2.2 e o I⟩
   ·obtain⟨g1,g2,g3,rs,g4,w,u,A⟩:=l;exact⟨_,_,u⟩
   ·obtain⟨g1,g3,rs,g4,w,u,A⟩:=l;exact⟨_,_,u⟩
   ·exact l.elim
  ·exact j.elim
 case bfD sh x k v=>
  simp only[dL]at j;split at j
  ·split at j
   ·exact⟨_,_,j.2⟩
   ·exact j.elim
  ·exact j.elim
 case insert sh x k v=>
  simp only[dL]at j;split at j
  ·split at j
   ·exact⟨_,_,j.2.2⟩
   ·exact j.elim
  ·exact j.elim
 all_goals exact j.elim
theorem afY(op:POp)(F:PF):(op.kind F).Ok:=by
 have e:(if op.mL then Kind.new (eU op F)else if op.gU then .write (λH K=>dL op F H K)else .calm (aT op F)).Ok:=by
  split
  ·exact .new _
  ·split
   ·exact .write ⟨λH K K' h j=>KI h j,λH K j=>apE j⟩
   ·exact .calm ⟨aOY op F,λH H' v h l=>C9 h l⟩
 cases op
 case call n az=>exact .call _ _
 case bfO x az=>
  simp only[POp.kind];split
  ·exact .call _ _
  ·exact .fail
 case insert sh x k v=>exact .ins _
 all_goals exact e
theorem zE(i:bN)(F:PF):(i.kind F).Ok:=by
 unfold bN.kind;split
 ·exact afY _ _
 ·split
  ·split
   ·exact afY _ _
   ·exact .calm ⟨⟨0,λ_ _ _=>rfl⟩,λ_ _ _ _ h=>h⟩
  ·exact .calm ⟨⟨0,λ_ _ _=>rfl⟩,λ_ _ _ _ h=>h⟩
  ·exact .fail
theorem Kind.zK{k:Kind}(I:k.Ok){st:Bool}{K K':PV→PH→Prop}(h:∀v H',Hs.le H'→K v H'→K' v H')(l:Hs.le H)(u:k.run C Hs S st K H):k.run C Hs S st K' H:=by
 cases I with
 |fail=>exact u
 |calm _=>obtain⟨v,e,j⟩:=u;exact⟨v,e,h _ _ l j⟩
 |new r=>obtain⟨M,x,e,j⟩:=u;exact⟨M,x,e,λo F=>h _ _ (PH.le_trans l (PH.Al x F)) (j o F)⟩
 |write J=>exact J.mono _ _ _ (λv H' B=>⟨B.1,h _ _ B.1 B.2⟩) u
 |call name args =>obtain⟨vs,D,R,e,j,y,w,h5,A⟩:=u;exact⟨vs,D,R,e,j,y,w,h5,λr H' a b=>⟨(A r H' a b).1,h _ _ (A r H' a b).1 (A r H' a b).2⟩⟩
 |ins r =>obtain⟨o,sh,E,v,g,e,j,y,w,h5⟩:=u;exact⟨o,sh,E,v,g,e,j,y,w,h _ _ (PH.a5N l w) h5⟩
def Kind.cls:Kind→Nat
 | .fail | .calm _=>0
 | .new _=>1
 | .write _=>2
 | .call ..=>3
 | .ins _=>4
theorem VD{H:PH}{D:List Nat}{o:Nat}(x:cI)(h:o ∉ D):(H.set o x).only D=H.only D:=by
 refine PH.ext λq=>?_;simp only[PH.only,dS];split
 ·rename_i hq;rw[aE (by rintro rfl;exact h hq)]
 ·rfl
theorem vH(H H0 H':PH)(o:Nat):(H.over H0 H') o=(match H' o with|some x=>some x|none=>match H0 o with|some _=>some .dead|none=>H o):=rfl
theorem xL(H:PH)(D:List Nat)(o:Nat):(H.only D) o=if o∈D then H o else none:=rfl
theorem agG{H H':PH}{D:List Nat}{o:Nat}(x:cI)(l:o ∉ D)(j:H' o=none):(H.set o x).over (H.only D) H'=(H.over (H.only D) H').set o x:=by
 refine PH.ext λq=>?_;rw[vH,dS,dS,vH];by_cases e:q=o
 ·subst e;simp only[j,xL,aE l,if_true]
 ·simp only[aE e]
theorem Ol{H H':PH}{D:List Nat}{o:Nat}(h:(H.over (H.only D) H') o=none):H o=none∧H' o=none:=by
 rw[vH]at h;cases e:H' o with
 |some x=>rw[e]at h;cases h
 |none=>
  rw[e]at h;simp only at h;cases j:(H.only D) o with
  |some x=>rw[j]at h;cases h
  |none=>rw[j]at h;exact⟨h,rfl⟩
theorem Ui{name:Nat}{args:Option (List PV)}{r:Option ((Nat→PV) × cI)}{K:PV→PV→PH→Prop}{W X:Bool}
  (h:(Kind.call name args).run C Hs S W (λv H'=>(Kind.new r).run C Hs S X (λu l=>K v u l) H') H) :
  (Kind.new r).run C Hs S X (λu H'=>(Kind.call name args).run C Hs S W (λv l=>K v u l) H') H:=by
 obtain⟨vs,D,R,Z,h2,J,h4,h5,M⟩:=h;obtain⟨r0,H0,E,F⟩:=h5 H;obtain⟨-,mk,x,U,-⟩:=M r0 H0 E F;refine⟨mk,x,U,λo O=>?_⟩;have j:o ∉ D:=λhD=>by obtain⟨y,V⟩:=J o hD;rw[O]at V;cases V
 refine⟨vs,D,R,Z,h2,λq hq=>?_,?_,?_,?_⟩
 ·rw[dS];split
  ·exact⟨_,rfl⟩
  ·exact J q hq
 ·rw[VD x j];exact h4
 ·rw[VD x j];exact h5
 ·intro v H' N w;rw[VD x j]at N w ⊢;have I:H' o=none:=by
   cases e:H' o with
   |none=>rfl
   |some y =>have:=w o y e (by rw[xL,aE j]);rw[dS,aL rfl]at this;cases this
  have A:qM H (H.only D) H':=λq y hq Y=>by
   have:=w q y hq Y;rw[dS]at this;split at this
   ·cases this
   ·exact this
  obtain⟨g1,mk',x',g2,g3⟩:=M v H' N A;rw[U]at g2;cases g2;have B:(H.over (H.only D) H') o=none:=by rw[vH,I,xL,aE j];exact O
  rw[agG x j I];exact⟨PH.le_trans g1 (PH.Al x B),g3 o B⟩
theorem Uk{name:Nat}{args:Option (List PV)}{r:Option ((Nat→PV) × cI)}{K:PV→PV→PH→Prop}{Z sj:Bool}(N:Hs.le H)
  (h:(Kind.new r).run C Hs S Z (λv H'=>(Kind.call name args).run C Hs S sj (λu w=>K v u w) H') H) :
  (Kind.call name args).run C Hs S sj (λu H'=>(Kind.new r).run C Hs S Z (λv w=>K v u w) H') H:=by
 obtain⟨U,x,hr,h⟩:=h;obtain⟨o0,O⟩:=H.fresh;obtain⟨vs,D,R,X,Y,-⟩:=h o0 O;obtain⟨o,ho,B⟩:=H.Ke D;have all:∀q,H q=none→q ∉ D→(∀p∈D,∃y,(H.set q x) p=some y)∧aI C name vs (H.only D) (R (H.only D))∧(∀G:PH,∃r H',R (H.only D) r H'∧qM G (H.only D) H') ∧
   ∀r H',R (H.only D) r H'→qM (H.set q x) (H.only D) H'→Hs.le ((H.set q x).over (H.only D) H')∧K (U q) r ((H.set q x).over (H.only D) H'):=by
  intro q hq l;obtain⟨α,D',R',g1,g2,g3,g4,V,W⟩:=h q hq;rw[X]at g1;cases g1;rw[Y]at g2;cases g2;rw[VD x l]at g4 V W;exact⟨g3,g4,V,W⟩
 obtain⟨a3,a4,a5,-⟩:=all o ho B;have hD:∀q∈D,∃y,H q=some y:=λq hq=>by obtain⟨y,I⟩:=a3 q hq;rw[dS,aE (by rintro rfl;exact B hq)]at I;exact⟨y,I⟩
 have E:∀q,H q=none→q ∉ D:=λq hq J=>by obtain⟨y,I⟩:=hD q J;rw[hq]at I;cases I
 refine⟨vs,D,R,X,Y,hD,a4,a5,λu H' hR M=>?_⟩;have step:∀q,(H.over (H.only D) H') q=none→Hs.le ((H.over (H.only D) H').set q x)∧K (U q) u ((H.over (H.only D) H').set q x):=by
  intro q hq;obtain⟨j,F⟩:=Ol hq;have l:=E q j;obtain⟨-,-,-,a6⟩:=all q j l;have:=a6 u H' hR λp y A h0=>by
   rw[dS];split
   ·rename_i e;subst e;rw[F]at A;cases A
   ·exact M p y A h0
  rw[agG x l F]at this;exact this
 refine⟨?_,U,x,hr,λq hq=>(step q hq).2⟩;obtain⟨q,hq⟩:=(H.over (H.only D) H').fresh;have j:=(step q hq).1;intro p y A;have:=j p y A;rw[dS]at this;split at this
 ·rename_i e;subst e;have:=PH.le_none N (Ol hq).1;rw[A]at this;cases this
 ·exact this
theorem akR{r A:Option ((Nat→PV) × cI)}{K:PV→PV→PH→Prop}{B E:Bool}
  (h:(Kind.new r).run C Hs S B (λv H'=>(Kind.new A).run C Hs S E (λu e=>K v u e) H') H) :
  (Kind.new A).run C Hs S E (λu H'=>(Kind.new r).run C Hs S B (λv e=>K v u e) H') H:=by
 obtain⟨J,x,I,h⟩:=h;obtain⟨N,y⟩:=H.fresh;obtain⟨mk',F,j,-⟩:=h N y;refine⟨mk',F,j,λq hq=>⟨J,x,I,λo w=>?_⟩⟩;rw[PH.aiU]at w;obtain⟨M,O,l,g⟩:=h o w.2;rw[j]at l;cases l;have:=g q (PH.aiU.2 ⟨Ne.symm w.1,hq⟩)
 rwa[PH.set_comm H x F w.1]at this
theorem Uj{f:PH→Option PV}{k:Kind}{K:PV→PV→PH→Prop}{w E:Bool}(F:Va f)(I:k.Ok)(l:k.cls=2∨k.cls=3∨k.cls=4→w=true)(j:Hs.le H)
  (h:(Kind.calm f).run C Hs S w (λv H'=>k.run C Hs S E (λu e=>K v u e) H') H) :
  k.run C Hs S E (λu H'=>(Kind.calm f).run C Hs S w (λv e=>K v u e) H') H:=by
 obtain⟨v,y,h⟩:=h;cases I with
 |fail=>exact h
 |@calm g R=>obtain⟨u,M,h⟩:=h;exact⟨u,M,v,y,h⟩
 |new r=>
  obtain⟨O,x,J,h⟩:=h;refine⟨O,x,J,λo B=>⟨v,?_,h o B⟩⟩;cases w
  ·exact F.mono _ _ _ (PH.Al x B) y
  ·exact y
 |write N =>have:w=true:=l (.inl rfl);subst this;exact Kind.zK (.write N) (λu H' _ A=>⟨v,y,A⟩) j h
 |call name args =>have:w=true:=l (.inr (.inl rfl));subst this;exact Kind.zK (.call name args) (λu H' _ A=>⟨v,y,A⟩) j h
 |ins r =>have:w=true:=l (.inr (.inr rfl));subst this;exact Kind.zK (.ins r) (λu H' _ A=>⟨v,y,A⟩) j h
theorem Uh{f:PH→Option PV}{k:Kind}{K:PV→PV→PH→Prop}{si F:Bool}(hf:Va f)(hk:k.Ok)(E:k.cls=2∨k.cls=3∨k.cls=4→F=true)(α:Hs.le H)
  (h:k.run C Hs S si (λv H'=>(Kind.calm f).run C Hs S F (λu A=>K v u A) H') H) :
  (Kind.calm f).run C Hs S F (λu H'=>k.run C Hs S si (λv A=>K v u A) H') H:=by
 cases hk with
 |fail=>exact h.elim
 |@calm g hg=>obtain⟨u,l,v,hv,h⟩:=h;exact⟨v,hv,u,l,h⟩
 |new r=>
  obtain⟨mk,x,hr,h⟩:=h;cases F with
  |true =>obtain⟨Z,B⟩:=H.fresh;obtain⟨u,l,-⟩:=h Z B;refine⟨u,l,mk,x,hr,λo I=>?_⟩;obtain⟨u',j,y⟩:=h o I;simp only[if_true]at l j;rw[l]at j;cases j;exact y
  |false=>
   obtain⟨q,hq⟩:=hf.dep;obtain⟨Z,B,X⟩:=H.Ke [q];obtain⟨u,l,-⟩:=h Z B;simp only[bjE,if_false]at l;have j:f H=some u:=by rw[←l];exact hq _ _ (by rw[dS,aE (by simpa using Ne.symm (λe=>X (by simp[e])))])
   refine⟨u,j,mk,x,hr,λo I=>?_⟩;obtain⟨u2,hu2,y⟩:=h o I;simp only[bjE,if_false]at hu2;rw[hf.mono _ _ _ (PH.Al x I) j]at hu2;cases hu2;exact y
 |@write w hw =>have:F=true:=E (.inl rfl);subst this;obtain⟨_,_,_,u,l,_⟩:=hw.some _ _ h;refine⟨u,l,hw.mono _ _ _ (λv H' hh=>⟨hh.1,?_⟩) h⟩;obtain⟨-,u',j,y⟩:=hh;simp only[if_true]at l j;rw[l]at j;cases j;exact y
 |call name args =>have:F=true:=E (.inr (.inl rfl));subst this;obtain⟨vs,D,R,J,M,N,O,h5,h6⟩:=h;obtain⟨r0,H0,U,V⟩:=h5 H;obtain⟨-,u,l,-⟩:=h6 r0 H0 U V;refine⟨u,l,vs,D,R,J,M,N,O,h5,λr H' hR W=>?_⟩;obtain⟨g1,u',j,y⟩:=h6 r H' hR W;simp only[if_true]at l j;rw[l]at j;cases j;exact⟨g1,y⟩
 |ins r =>have:F=true:=E (.inr (.inr rfl));subst this;obtain⟨o,sh,Y,v,g,J,M,N,O,u,l,y⟩:=h;exact⟨u,l,o,sh,Y,v,g,J,M,N,O,y⟩
theorem akQ{r O:Option (Nat × MSh × List KS × PV)}{K:PV→PV→PH→Prop}{R U:Bool}
  (h:(Kind.ins r).run C Hs S R (λv H'=>(Kind.ins O).run C Hs S U (λu x=>K v u x) H') H) :
  (Kind.ins O).run C Hs S U (λu H'=>(Kind.ins r).run C Hs S R (λv x=>K v u x) H') H:=by
 obtain⟨o,sh,l,v,g,I,J,M,A,w,F,j,v',V,k1,k2,B,W,N⟩:=h;by_cases e:w=o
 ·subst e;rw[dS,aL rfl]at k2;cases k2;have y:j≠l:=by rintro rfl;simp[oU.upd]at B
  have E:g j=none:=by simpa[oU.upd,y]using B
  refine⟨w,sh,j,v',g,k1,J,E,A,w,sh,l,v,g.upd j v',I,by rw[dS,aL rfl],by simp[oU.upd,Ne.symm y,M],A,?_⟩;have:((H.set w (.map sh (g.upd j v'))).set w (.map sh ((g.upd j v').upd l v)))=((H.set w (.map sh (g.upd l v))).set w (.map sh ((g.upd l v).upd j v'))):=by
   refine PH.ext λq=>?_;simp only[dS];split
   ·congr 2;funext k;simp only[oU.upd];by_cases h5:k=l<;>by_cases X:k=j<;>simp_all
   ·rfl
  rw[this];exact N
 ·rw[dS,aE e]at k2;refine⟨w,F,j,v',V,k1,k2,B,W,o,sh,l,v,g,I,by rw[dS,aE (Ne.symm e)];exact J,M,A,?_⟩;rw[PH.set_comm H _ _ e];exact N
def BA(a b:Nat)(e j:Bool):Bool:=
 match a,b with
 |0,0|0,1|1,0|1,1|1,3|3,1|4,4=>true
 |0,_=>e
 |_,0=>j
 |_,_=>false
theorem aKA{B E:Kind}{K:PV→PV→PH→Prop}{M N:Bool}(hi:B.Ok)(A:E.Ok)(e:BA B.cls E.cls M N=true)(y:Hs.le H)
  (h:B.run C Hs S M (λv H'=>E.run C Hs S N (λu l=>K v u l) H') H) :
  E.run C Hs S N (λu H'=>B.run C Hs S M (λv l=>K v u l) H') H:=by
 by_cases w:B.cls=0
 ·cases hi with
  |fail=>exact h.elim
  |calm J =>refine Uj J A (λhc=>?_) y h;rcases hc with hc|hc|hc<;>(rw[hc]at e;simpa[BA,Kind.cls]using e)
  |new|write|call|ins=>simp[Kind.cls]at w
 ·by_cases j:E.cls=0
  ·cases A with
   |fail=>
    cases hi with
    |fail=>exact h
    |calm _=>simp[Kind.cls]at w
    |new r =>obtain⟨mk,x,-,h⟩:=h;obtain⟨o,ho⟩:=H.fresh;exact h o ho
    |write hw=>obtain⟨_,_,_,Z⟩:=hw.some _ _ h;exact Z
    |call name args =>obtain⟨vs,D,R,U,V,W,X,h5,Y⟩:=h;obtain⟨r0,H0,F,I⟩:=h5 H;exact(Y r0 H0 F I).2
    |ins r =>obtain⟨o,sh,α,v,g,U,V,W,X,h5⟩:=h;exact h5
   |calm J =>refine Uh J hi (λhc=>?_) y h;rcases hc with hc|hc|hc<;>(rw[hc]at e;simpa[BA,Kind.cls]using e)
   |new|write|call|ins=>simp[Kind.cls]at j
  ·cases hi with
   |fail|calm=>simp[Kind.cls]at w
   |new r=>
    cases A with
    |fail|calm=>simp[Kind.cls]at j
    |new O=>exact akR h
    |write=>simp[Kind.cls,BA]at e
    |call=>exact Uk y h
    |ins=>simp[Kind.cls,BA]at e
   |write=>cases A<;>simp[Kind.cls,BA]at e j
   |call=>
    cases A with
    |fail|calm=>simp[Kind.cls]at j
    |new O=>exact Ui h
    |write=>simp[Kind.cls,BA]at e
    |call=>simp[Kind.cls,BA]at e
    |ins=>simp[Kind.cls,BA]at e
   |ins=>
    cases A with
    |fail|calm=>simp[Kind.cls]at j
    |new O=>simp[Kind.cls,BA]at e
    |write=>simp[Kind.cls,BA]at e
    |call=>simp[Kind.cls,BA]at e
    |ins=>exact akQ h
end
open Go Go.RowKit
def bN.apart(x y:bN):Bool:=
 (match x.dst with
  |some d=>!(y.dR).contains d&&y.dst != some d
  |none=>true) &&
 (match y.dst with
  |some d=>!(x.dR).contains d
  |none=>true)
theorem agN{F:PF}{l:List Nat}{d:Option Nat}(v:PV)(h:∀t,d=some t→t ∉ l):vT l (F.put d v) F:=by
 intro t e;cases d with
 |none=>rfl
 |some d=>
  have:t≠d:=by rintro rfl;exact h t rfl e
  simp only[PF.put,PF.set,upd,aE this]
theorem aWG{F:PF}{d e:Option Nat}(v u:PV)(h:∀t,d=some t→e≠some t):(F.put d v).put e u=(F.put e u).put d v:=by
 cases d with
 |none=>rfl
 |some d=>
  cases e with
  |none=>rfl
  |some e=>
   have j:d≠e:=by rintro rfl;exact h d rfl rfl
   exact aYC F (some v) (some u) j
theorem apart_spec{x y:bN}(h:x.apart y=true):(∀d,x.dst=some d→d ∉ y.dR)∧(∀d,x.dst=some d→y.dst≠some d)∧(∀d,y.dst=some d→d ∉ x.dR):=by
 refine⟨λd e=>?_,λd e=>?_,λd e=>?_⟩<;>simp[bN.apart,e]at h
 ·exact h.1.1
 ·exact h.1.2
 ·exact h.2
def POp.cls:POp→Nat
 | .call .. | .bfO ..=>3
 | .insert ..=>4
 |op=>if op.mL then 1 else if op.gU then 2 else 0
def aUR(a b:Nat)(e j:Bool):Bool:=
 match a,b with
 |0,0|0,1|1,0|1,1=>true
 |4,4=>e&&j
 |0,_=>e
 |_,0=>j
 |1,3=>e
 |3,1=>j
 |_,_=>false
def zz(x y:bN × Bool):Bool:=x.1.apart y.1&&aUR x.1.op.cls y.1.op.cls x.2 y.2
section
variable {C:Ctx} {Hs:PH} {S:Spec} {H:PH} {F:PF}
theorem Nk(op:POp)(F:PF):(op.kind F).cls=op.cls∨(op.kind F).cls=0:=by
 have e:(if op.mL then Kind.new (eU op F)else if op.gU then .write (λH K=>dL op F H K)else .calm (aT op F)).cls=(if op.mL then 1 else if op.gU then 2 else 0):=by
  split
  ·rfl
  ·split<;>rfl
 cases op
 case call n az=>exact .inl rfl
 case bfO x az=>
  simp only[POp.kind];split
  ·exact .inl rfl
  ·exact .inr rfl
 case insert sh x k v=>exact .inl rfl
 all_goals exact .inl e
theorem Ky(i:bN)(F:PF):(i.kind F).cls=i.op.cls∨(i.kind F).cls=0:=by
 unfold bN.kind;split
 ·exact Nk _ _
 ·split
  ·split
   ·exact Nk _ _
   ·exact .inr rfl
  ·exact .inr rfl
  ·exact .inr rfl
theorem a5R{a b e j:Nat}{l u:Bool}(h:aUR a b l u=true)(w:e=a∨e=0)(hb:j=b∨j=0):BA e j l u=true:=by
 unfold aUR at h;split at h
 all_goals (rcases w with rfl|rfl<;>rcases hb with rfl|rfl<;>simp_all [BA])
theorem Kind.aWX{k:Kind}(A:k.Ok){st:Bool}{K:PV→PH→Prop}(e:k.run C Hs S st K H):∃v H',K v H':=by
 cases A with
 |fail=>exact e.elim
 |calm _=>obtain⟨v,l,j⟩:=e;exact⟨v,_,j⟩
 |new r=>obtain⟨J,x,l,j⟩:=e;obtain⟨o,B⟩:=H.fresh;exact⟨_,_,j o B⟩
 |write E=>obtain⟨v,H',h⟩:=E.some _ _ e;exact⟨v,H',h.2⟩
 |call name args =>obtain⟨vs,D,R,l,j,u,w,h5,y⟩:=e;obtain⟨r,H',a,b⟩:=h5 H;exact⟨_,_,(y r H' a b).2⟩
 |ins r =>obtain⟨o,sh,I,v,g,l,j,u,w,h5⟩:=e;exact⟨_,_,h5⟩
def BF(C:Ctx)(Hs:PH)(S:Spec)(i:bN × Bool)(K:PF→PH→Prop)(F:PF)(H:PH):Prop:=(i.1.kind F).run C Hs S i.2 (λv H'=>K (F.put i.1.dst v) H') H
theorem EM{i:bN × Bool}{K K':PF→PH→Prop}(h:∀j H',Hs.le H'→K j H'→K' j H')(e:Hs.le H)(l:BF C Hs S i K F H):BF C Hs S i K' F H:=
 Kind.zK (zE _ _) (λv H' a b=>h _ _ a b) e l
theorem aOL{i j:bN × Bool}{K:PF→PH→Prop}(w:zz i j=true)(l:Hs.le H)(h:BF C Hs S i (BF C Hs S j K) F H):BF C Hs S j (BF C Hs S i K) F H:=by
 simp only[zz,bgU]at w;obtain⟨A,B,E⟩:=apart_spec w.1;unfold BF at h ⊢;have x:∀v,j.1.kind (F.put i.1.dst v)=j.1.kind F:=λv=>Ah (agN v A);have y:∀v,i.1.kind (F.put j.1.dst v)=i.1.kind F:=λv=>Ah (agN v E);simp only[x]at h;simp only[y];have:=aKA (K:=λv u e=>K ((F.put i.1.dst v).put j.1.dst u) e) (zE i.1 F) (zE j.1 F) (a5R w.2 (Ky _ _) (Ky _ _)) l h;refine Kind.zK (zE j.1 F) (λu H' a b=>?_) l this;refine Kind.zK (zE i.1 F) (λv e _ c=>?_) a b;rw[aWG v u B]at c;exact c
inductive DX (ops:Array Oper):Nat→Nat→Prop
 |one {i j:Nat} {o:Oper} {e} (ho:ops[j]?=some o) (he:e∈o.after) (hb:Region.binds .any e=true) (hi:e.on=i):DX ops i j
 |step {i m j:Nat} {o:Oper} {e} (h:DX ops i m) (ho:ops[j]?=some o) (he:e∈o.after) (hb:Region.binds .any e=true) (hm:e.on=m):DX ops i j
def vQ(ops:Array Oper)(listed:Array Bool):Prop:=∀j o,ops[j]?=some o→listed.getD j false=true→∀e∈o.after,Region.binds .any e=true→listed.getD e.on false=true
theorem vQ.aYB{ops:Array Oper}{listed:Array Bool}(l:vQ ops listed){i j:Nat}(h:DX ops i j)(u:listed.getD j false=true):listed.getD i false=true:=by
 induction h with
 |one e he hb hi=>subst hi;exact l _ _ e u _ he hb
 |step h e he hb w x=>subst w;exact x (l _ _ e u _ he hb)
theorem vQ.M1{ops:Array Oper}{listed:Array Bool}(y:vQ ops listed){i j:Nat}(h:DX ops i j)(hi:listed.getD i false=false):j ∉ Region.ready .any ops listed:=by
 intro w;rw[mem_ready]at w;obtain⟨-,o,x,l⟩:=w;cases h with
 |one e he hb u =>rw[x]at e;cases e;subst u;rw[l _ he hb]at hi;cases hi
 |step h e he hb A =>rw[x]at e;cases e;subst A;rw[y.aYB h (l _ he hb)]at hi;cases hi
theorem vQ.set{ops:Array Oper}{listed:Array Bool}(A:vQ ops listed){i:Nat}(hi:i∈Region.ready .any ops listed):vQ ops (listed.setIfInBounds i true):=by
 intro j o y x e he hb;by_cases u:j=i
 ·subst u;rw[mem_ready]at hi;obtain⟨-,B,w,l⟩:=hi;rw[y]at w;cases w;exact getD_set_true (l e he hb)
 ·rw[getD_set_ne false (Ne.symm u)]at x;exact getD_set_true (A j o y x e he hb)
def IP(C:Ctx)(Hs:PH)(S:Spec)(ops:Array Oper)(il:List (bN × Bool))(K:PF→PH→Prop):Nat→Array Bool→PF→PH→Prop
 |0,listed,F,H=>Region.ready .any ops listed=[]∧K F H
 |fuel+1,listed,F,H=>(Region.ready .any ops listed=[]→K F H) ∧
  ∀i∈Region.ready .any ops listed,∀p,il[i]?=some p→BF C Hs S p (IP C Hs S ops il K fuel (listed.setIfInBounds i true)) F H
theorem aFS{ops:Array Oper}{il:List (bN × Bool)}{K:PF→PH→Prop}{i:Nat}{p:bN × Bool}(X:il[i]?=some p) :
  ∀(fuel:Nat)(listed:Array Bool)(F:PF)(H:PH),Hs.le H→vQ ops listed →
   (∀j q,il[j]?=some q→j≠i→listed.getD j true=false→¬DX ops i j→zz p q=true) →
   i∈Region.ready .any ops listed→BF C Hs S p (IP C Hs S ops il K fuel (listed.setIfInBounds i true)) F H→IP C Hs S ops il K (fuel+1) listed F H:=by
 intro fuel
 induction fuel with
 |zero=>
  intro listed F H w O u y h;refine⟨λe=>(by rw[e]at y;cases y),λj A q hq=>?_⟩;by_cases l:j=i
  ·subst l;rw[X]at hq;cases hq;exact h
  ·obtain⟨v,H',B⟩:=Kind.aWX (zE _ _) h;have:=ready_mono A l;rw[B.1]at this;cases this
 |succ fuel ih=>
  intro listed F H w O u y h;refine⟨λe=>(by rw[e]at y;cases y),λj A q hq=>?_⟩;by_cases l:j=i
  ·subst l;rw[X]at hq;cases hq;exact h
  ·have x:=(mem_ready.1 y).1;have I:=(mem_ready.1 A).1;have E:listed.getD i false=false:=by
    rcases bgV i listed.size with h'|h'
    ·simp[h']at x ⊢;exact x
    ·simp[Array.getElem?_eq_none h']at x
   have U:¬DX ops i j:=λhb=>O.M1 hb E A;have Y:BF C Hs S p (BF C Hs S q (IP C Hs S ops il K fuel ((listed.setIfInBounds i true).setIfInBounds j true))) F H:=
    EM (λW H' _ B=>B.2 j (ready_mono A l) q hq) w h
   have Z:=aOL (u j q hq l I U) w Y;refine EM (λW H' M B=>?_) w Z;refine ih (listed.setIfInBounds j true) W H' M (O.set A) (λk r hk R N V=>u k r hk R ?_ V) (ready_mono y (Ne.symm l)) ?_
   ·by_cases J:j=k
    ·subst J;exact I
    ·rw[getD_set_ne true J]at N;exact N
   ·rw[Array.setIfInBounds_comm _ _ l];exact B
def AQ(o:Oper):List Nat:=(o.after.toList.filter λe=>Region.binds .any e).map (·.on)
def abR(ms:List Nat)(ds:List Nat):Nat:=ds.foldl (λs d=>s ||| (2^d ||| ms.getD d 0)) 0
def FX:List Oper→List Nat→List Nat
 |[],e=>e
 |o::os,e=>FX os (e++[abR e (AQ o)])
def oM(ms:List Nat):Nat→List Oper→Bool
 |_,[]=>true
 |k,o::os=>(AQ o).all (·<k)&&ms.getD k 0==abR ms (AQ o)&&oM ms (k+1) os
def LL(ms:List Nat)(i:Nat)(p:bN × Bool):Nat→List (bN × Bool)→Bool
 |_,[]=>true
 |j,q::e=>((ms.getD j 0).testBit i||zz p q)&&LL ms i p (j+1) e
def IG(ms:List Nat):Nat→List (bN × Bool)→Bool
 |_,[]=>true
 |i,p::ps=>LL ms i p (i+1) ps&&IG ms (i+1) ps
def aMG(ops:Array Oper)(il:List (bN × Bool)):Bool:=
 let ms:=FX ops.toList []
 oM ms 0 ops.toList&&IG ms 0 il
theorem abS{ms:List Nat}{i:Nat}:∀{ds:List Nat}{s:Nat},(ds.foldl (λs d=>s ||| (2^d ||| ms.getD d 0)) s).testBit i=true→s.testBit i=true∨∃d∈ds,d=i∨(ms.getD d 0).testBit i=true
 |[],s,h=>.inl h
 |d::ds,s,h=>by
  rw[List.foldl_cons]at h;rcases abS h with h|⟨e,he,h⟩
  ·rw[Nat.testBit_or,Nat.testBit_or,Nat.testBit_two_pow]at h;simp only[Bool.or_eq_true,decide_eq_true_eq]at h;rcases h with h|h|h
   ·exact .inl h
   ·exact .inr ⟨d,by simp,.inl h⟩
   ·exact .inr ⟨d,by simp,.inr h⟩
  ·exact .inr ⟨e,by simp[he],h⟩
theorem AZ{ms:List Nat}:∀{l:List Oper}{k j:Nat}{o:Oper},oM ms k l=true→l[j]?=some o→(∀d∈AQ o,d<k+j)∧ms.getD (k+j) 0=abR ms (AQ o)
 |[],_,_,_,_,h=>by simp at h
 |o::os,k,j,u,h,e=>by
  simp only[oM,bgU,bgY,decide_eq_true_eq,beq_iff_eq]at h;cases j with
  |zero=>simp only[List.getElem?_cons_zero,biQ.injEq]at e;subst e;exact⟨h.1.1,h.1.2⟩
  |succ j =>have:=AZ h.2 (by simpa using e);rw[biV,Nat.add_comm 1 j]at this;exact this
theorem l8{ms:List Nat}{ops:Array Oper}(h:oM ms 0 ops.toList=true)(i:Nat):∀(n j:Nat),j<n→j<ops.size→(ms.getD j 0).testBit i=true→DX ops i j:=by
 intro n
 induction n with
 |zero=>intro j A;omega
 |succ n E=>
  intro j A hlt hb;have B:ops.toList[j]?=some ops[j]:=by simp[hlt]
  have u:ops[j]?=some ops[j]:=by simp[hlt]
  obtain⟨w,x⟩:=AZ h B;rw[bgL]at w x;rw[x]at hb;rcases abS hb with hb|⟨d,hd,hb⟩
  ·simp at hb
  ·have y:=w d hd;simp only[AQ,bhC,bjS]at hd;obtain⟨e,⟨he,l⟩,rfl⟩:=hd;rcases hb with rfl|hb
   ·exact .one u (by simpa using he) l rfl
   ·exact .step (E e.on Om Om hb) u (by simpa using he) l rfl
theorem dp{ms:List Nat}{i:Nat}{p:bN × Bool}:∀{l:List (bN × Bool)}{k j:Nat}{q:bN × Bool},LL ms i p k l=true→l[j]?=some q→(ms.getD (k+j) 0).testBit i=true∨zz p q=true
 |[],_,_,_,_,h=>by simp at h
 |x::xs,k,j,q,h,hq=>by
  simp only[LL,bgU,Bool.or_eq_true]at h;cases j with
  |zero=>simp only[List.getElem?_cons_zero,biQ.injEq]at hq;subst hq;exact h.1
  |succ j =>have:=dp h.2 (by simpa using hq);rw[biV,Nat.add_comm 1 j]at this;exact this
theorem RT{ops:Array Oper}{il:List (bN × Bool)}{K:PF→PH→Prop}{ms:List Nat}(U:Z' il=ops.size)(M:oM ms 0 ops.toList=true) :
  ∀(l:List (bN × Bool)) (k:Nat) (listed:Array Bool) (F:PF) (H:PH),(∀j,l[j]?=il[k+j]?)→k+Z' l=ops.size→listed.size=ops.size→(∀j,j<ops.size→(listed.getD j true=true↔j<k))→IG ms k l=true→Hs.le H →
   wpD C Hs S l K F H→IP C Hs S ops il K l.length listed F H
 |[],k,listed,F,H,Y,X,W,u,_,J,h=>by
  refine⟨?_,h⟩;cases hr:Region.ready .any ops listed with
  |nil=>rfl
  |cons x xs=>
   have hx:x∈Region.ready .any ops listed:=by rw[hr];simp
   obtain⟨h0,o,Z,-⟩:=mem_ready.1 hx;have hlt:x<ops.size:=(bkE.1 Z).1;have:=(u x hlt).2 (by simp at X;omega);rw[h0]at this;cases this
 |p::l,k,listed,F,H,Y,X,W,u,hB,J,h=>by
  have hp:il[k]?=some p:=by simpa using(Y 0).symm
  have O:k<ops.size:=by simp at X;omega
  simp only[IG,bgU]at hB;have Z:ops[k]?=some ops[k]:=by simp[O]
  have E:∀j,j<ops.size→(listed.getD j false=listed.getD j true):=λj B=>by simp[show j<listed.size by omega]
  have ε:∀j,j<ops.size→∀e∈ops[j]!.after,True:=λ_ _ _ _=>trivial;have A:∀j o,ops[j]?=some o→∀e∈o.after,Region.binds .any e=true→e.on<j:=by
   intro j o B e he hb;have hlt:j<ops.size:=(bkE.1 B).1;have:=(AZ M (j:=j) (o:=o) (by simpa using B)).1 e.on (by simp only[AQ,bhC,bjS];exact⟨e,⟨by simpa using he,hb⟩,rfl⟩)
   omega
  have y:k∈Region.ready .any ops listed:=by
   rw[mem_ready];refine⟨?_,_,Z,λe he hb=>?_⟩
   ·cases hh:listed.getD k true with
    |false=>rfl
    |true=>have:=(u k O).1 hh;omega
   ·have hd:=A k _ Z e he hb;rw[E e.on Om];exact(u e.on Om).2 hd
  have w:vQ ops listed:=by intro j o B V e he hb;have hlt:j<ops.size:=(bkE.1 B).1;have hd:=A j o B e he hb;rw[E j hlt]at V;have:=(u j hlt).1 V;rw[E e.on Om];exact(u e.on Om).2 Om
  refine aFS hp l.length listed F H J w (λj q hq β δ α=>?_) y ?_
  ·have N:j<ops.size:=by have:=(bhG.1 hq).1;omega
   have I:k<j:=by
    rcases Nat.lt_trichotomy j k with h'|h'|h'
    ·have:=(u j N).2 h';rw[δ]at this;cases this
    ·exact(β h').elim
    ·exact h'
   have γ:l[j-(k+1)]?=some q:=by have:=Y (j-k);rw[show k+(j-k)=j by omega,hq,show j-k=(j-(k+1))+1 by omega]at this;simpa using this
   rcases dp hB.1 γ with hb|hb
   ·rw[show k+1+(j-(k+1))=j by omega]at hb;exact(α (l8 M k (j+1) j Om N hb)).elim
   ·exact hb
  ·have h':BF C Hs S p (wpD C Hs S l K) F H:=h;refine EM (λF' H' R hh=>?_) J h';refine RT U M l (k+1) _ F' H' (λj=>?_) (by simp at X;omega) (by simpa using W) (λj B=>?_) hB.2 R hh
   ·have:=Y (j+1);rw[show k+(j+1)=k+1+j by omega]at this;simpa using this
   ·by_cases I:k=j
    ·subst I;simp[show k<listed.size by omega]
    ·rw[getD_set_ne true I,u j B];omega
end
open Go Go.RowKit
def Wu(ms cls:List Nat)(i:Nat):Bool:=
 cls.getD i 0 != 0||(bfZ cls.length).any λj=>(cls.getD j 0==2||cls.getD j 0==3||cls.getD j 0==4)&&!(ms.getD j 0).testBit i&&!(ms.getD i 0).testBit j
def EV(ops:Array Oper)(e:List bN):List (bN × Bool):=
 let ms:=FX ops.toList []
 let cls:=e.map λi=>i.op.cls
 e.zip ((bfZ e.length).map (Wu ms cls))
namespace Tbl
variable (T:Tbl)
def drawn(n:Nat)(ops:Array Oper):Option (List (bN × Bool)):=
 match T.yE n ops ops.toList with
 |some e=>if T.P.follows .mixedOrders&&aMG ops (EV ops e)then some (EV ops e)else none
 |none=>none
end Tbl
section
variable {ro:Option Nat} {fu:Nat} {ds:List Deferred} {C:Ctx} {Hs:PH} {S:Spec} {T:Tbl} {n:Nat}
section
variable {E:Env} {F:PF} {H:PH} {a:Act} {w:World}
theorem sK.after{e:Env}{H':PH}{j:World}{K:PF→PH→Prop}{next:Act→World→Prop}(h:sK ds n E H w K next)(y:Ext E H w e H' j):sK ds n e H' j K next:=
 λl u H2 a2 I x hW B A=>h l u H2 a2 I x hW (y.trans B) A
theorem ZP{t:Nat}{b:Bool}(j:fU ds n E F a)(h:F t=some (.bool b)):a.tmps[t]?=some (.bool b):=by
 have r:=j.t t _ h;rw[Array.getD_eq_getD_getElem?]at r;cases e:a.tmps[t]? with
 |none=>rw[e]at r;simp[undef]at r;cases r
 |some v=>rw[e]at r;simp at r;cases r;rfl
theorem TK{ops:Array Oper}{o:Oper}{i:bN}(h:T.jl n ops o=some i):(T.op o=some i.op∨i.op=.stuck)∧o.dst=i.dst∧o.dst.all (·<n)=true ∧
  ((o.guard=none∧i.guard=none)∨∃j e t,o.guard=some (j,e)∧i.guard=some (t,e)∧(ops[j]?).bind (·.dst)=some t):=by
 unfold Tbl.jl at h;have x:T.op o=some ((T.op o).getD .stuck)∨(T.op o).getD .stuck=.stuck:=by
  cases T.op o
  ·exact .inr rfl
  ·exact .inl rfl
 ·generalize(T.op o).getD .stuck=p at *
  split at h
  ·rename_i u;split at h
   ·rename_i l;cases h;exact⟨x,rfl,u,.inl ⟨l,rfl⟩⟩
   ·rename_i j e l;split at h
    ·rename_i t y;cases h;exact⟨x,rfl,u,.inr ⟨j,e,t,l,rfl,y⟩⟩
    ·cases h
  ·cases h
theorem PW{ops:Array Oper}{o:Oper}{j t:Nat}{e b:Bool}(l:o.guard=some (j,e))(u:(ops[j]?).bind (·.dst)=some t)(hb:a.tmps[t]?=some (.bool b)):Region.wanted o (yielded ops a.tmps)=(b==e):=by
 simp[Region.wanted,l,yielded,u,hb]
end
theorem CU{E:Env}:bF E (.tup []) undef:=.tup #[] rfl aY
theorem ff{n:Nat}{E:Env}{F:PF}{a:Act}{t:Nat}(e:fU ds n E F a)(h:F t=some (.tup [])):a.tmps.getD t undef=undef:=by
 have:=e.t t _ h;generalize a.tmps.getD t undef=v at this;cases this with
 |tup vs j l=>
  have:vs=#[]:=by simpa using j
  subst this;rfl
theorem JR{ops:Array Oper}{a:Act}{o:Oper}{j t:Nat}{e:Bool}(l:o.guard=some (j,e))(u:(ops[j]?).bind (·.dst)=some t)(hb:a.tmps.getD t undef=undef):Region.wanted o (yielded ops a.tmps)=false:=by
 simp only[Region.wanted,l,yielded,u];rw[Array.getD_eq_getD_getElem?]at hb;cases h:a.tmps[t]? with
 |none=>simp[h]
 |some v =>rw[h]at hb;simp only[biE]at hb;subst hb;simp[h,undef]
theorem zY{C:Ctx}{E:Env}{F:PF}{H:PH}{a:Act}{w:World}(j:C.P=T.P)(e:C.num=T.num){o:Oper}{p:POp}{d:Option Nat}{K:PF→PH→Prop}{Q:Exit→Act→World→Prop}{next:Act→World→Prop}(l:T.op o=some p∨p=.stuck)(y:o.dst=d)(hlt:o.dst.all (·<n)=true)
  (h:wpOp C p d K F H) (u:fU ds n E F a) (hW:cS E H w) (x:E.num=T.num) (bfH:sK ds n E H w K next):o.wpIn (Fz ro) fu T.P a w next Q:=by
 rcases l with l|rfl
 ·exact aWC j e l y hlt h u hW x bfH
 ·obtain⟨v,A,-⟩:=h;cases A
theorem jz(H:PH)(D:List Nat):(H.only D).le H:=by
 intro o x e;rw[xL]at e;split at e
 ·exact e
 ·cases e
theorem VX{op:POp}{F:PF}{H:PH}{st:Bool}{d:Option Nat}{K:PF→PH→Prop}(A:Hs.le H)(h:(op.kind F).run C Hs S st (λv H'=>K (F.put d v) H') H):wpOp C op d K F H:=by
 have y:(if op.mL then Kind.new (eU op F)else if op.gU then .write (λH K=>dL op F H K)else .calm (aT op F)).run C Hs S st (λv H'=>K (F.put d v) H') H →
   (if op.mL then sX (eU op F) d K F H else if op.gU then dL op F H (λr H'=>K (F.put d r) H')else cX (aT op F H) d K F H):=by
  intro h;by_cases j:op.mL=true
  ·rw[aL j]at h ⊢;exact h
  ·rw[aE j]at h ⊢;by_cases u:op.gU=true
   ·rw[aL u]at h ⊢;have V:dL op F H λr H'=>Hs.le H'∧K (F.put d r) H':=h;exact KI (λv H' Z=>Z.2) V
   ·rw[aE u]at h ⊢;obtain⟨v,I,Y⟩:=h;refine⟨v,?_,Y⟩;cases st
    ·exact I
    ·exact C9 A I
 have e:∀name l,(Kind.call name l).run C Hs S st (λv H'=>K (F.put d v) H') H→AH C name l d K F H:=by intro name l h;obtain⟨vs,D,R,j,u,B,W,h5,X⟩:=h;exact⟨vs,H.only D,R (H.only D),j,jz H D,W,λr H' a b=>(X r H' a b).2⟩
 cases op
 case call name az=>exact .inl (by simpa using e _ _ h)
 case bfO x az=>
  simp only[POp.kind]at h;split at h
  ·rename_i name cs hx;show DF C (x.ev F) az d K F H;rw[hx];exact .inl (e _ _ h)
  ·exact h.elim
 case insert sh x k v=>
  obtain⟨o,β,α,vv,g,j,u,B,-,h5⟩:=h;show dL (.insert sh x k v) F H (λr H'=>K (F.put d r) H');split at j
  ·rename_i o' kv γ M N O;simp only[bgM,Prod.mk.injEq]at j;obtain⟨J,U,rfl,rfl,rfl,rfl⟩:=j;simp only[dL,M,N,O,u,U];exact⟨trivial,B,h5⟩
  ·cases j
 all_goals exact y h
theorem Jp(X:C.P=T.P)(W:C.num=T.num){ops:Array Oper}{O:List bN}{U:List Bool}(ε:Z' U=Z' O)(δ:∀(i:Nat) o,ops[i]?=some o→∃p,O[i]?=some p∧T.jl n ops o=some p)
  {K:PF→PH→Prop} {Q:Exit→Act→World→Prop} :
  ∀(fuel:Nat)(listed:Array Bool)(E:Env)(F:PF)(H:PH)(a:Act)(w:World),IP C Hs S ops (O.zip U) K fuel listed F H→Hs.le H→fU ds n E F a→cS E H w→E.num=T.num→sK ds n E H w K (Q .normal) →
   wpAnyIn (Fz ro) fu T.P .any ops Q fuel listed a w:=by
 intro fuel
 induction fuel with
 |zero=>intro listed E F H a w h J u hW hN hT;exact⟨h.1,hT E F H a w u hW (.refl E H w) h.2⟩
 |succ fuel ih=>
  intro listed E F H a w h J u hW hN hT;refine⟨λe=>hT E F H a w u hW (.refl E H w) (h.1 e),λi hi=>?_⟩;obtain⟨-,o,ho,-⟩:=mem_ready.1 hi;obtain⟨p,hp,γ⟩:=δ i o ho;have hlt:i<Z' O:=(bhG.1 hp).1;have hz:(O.zip U)[i]?=some (p,U[i]'Om):=by rw[List.getElem?_zip_eq_some];exact⟨hp,by simp⟩
  have Y:=h.2 i hi _ hz;obtain⟨Z,hd,B,hg⟩:=TK γ;have A:sK ds n E H w (λR H'=>Hs.le H'∧IP C Hs S ops (O.zip U) K fuel (listed.setIfInBounds i true) R H') (wpAnyIn (Fz ro) fu T.P .any ops Q fuel (listed.setIfInBounds i true)):=
   λE' R H' a' w' α β hE V=>ih _ E' R H' a' w' V.2 V.1 α β (hE.env.num.trans hN) (hT.after hE)
  have l:=EM (K':=λR H'=>Hs.le H'∧IP C Hs S ops (O.zip U) K fuel (listed.setIfInBounds i true) R H') (λR H' x y=>⟨x,y⟩) J Y;unfold BF bN.kind at l;unfold Go.wpOpIn;simp only[ho];rcases hg with⟨I,N⟩|⟨j,want,t,I,N,ht⟩
  ·rw[aL (by simp[Region.wanted,I])];simp only[N]at l;exact(zY X W Z hd B (VX J l) u hW hN A)
  ·simp only[N]at l;split at l
   ·rename_i b hb;rw[PW I ht (ZP u hb)];split at l
    ·rename_i M;rw[aL (by simp[M])];exact(zY X W Z hd B (VX J l) u hW hN A)
    ·rename_i M;rw[aE (by simpa using M)];obtain⟨v,hv,V⟩:=l;cases hv;exact⟨λ_ _=>trivial,A E _ H _ w (by rw[←hd];exact u.put B CU) hW (.refl E H w) V⟩
   ·rename_i hb;rw[JR I ht (ff u hb),aE aY];obtain⟨v,hv,V⟩:=l;cases hv;exact⟨λ_ _=>trivial,A E _ H _ w (by rw[←hd];exact u.put B CU) hW (.refl E H w) V⟩
   ·exact l.elim
theorem bj{ops:Array Oper}:∀{l:List Oper}{j:List bN},T.yE n ops l=some j→Z' j=Z' l∧∀(i:Nat) o,l[i]?=some o→∃p,j[i]?=some p∧T.jl n ops o=some p
 |[],j,h=>by simp[Tbl.yE]at h;subst h;exact⟨rfl,λi o h=>by simp at h⟩
 |o::l,j,h=>by
  simp only[Tbl.yE]at h;split at h
  ·rename_i p ps A u;cases h;obtain⟨x,y⟩:=bj u;refine⟨by simp[x],λi B e=>?_⟩;cases i with
   |zero=>simp at e;subst e;exact⟨p,rfl,A⟩
   |succ i=>obtain⟨q,a,b⟩:=y i B (by simpa using e);exact⟨q,by simpa using a,b⟩
  ·cases h
theorem aGI(I:C.P=T.P)(B:C.num=T.num){id:Nat}{ops:Array Oper}{il:List (bN × Bool)}(e:T.drawn n ops=some il){K:PF→PH→Prop}{Q:Exit→Act→World→Prop}{E:Env}{F:PF}{H:PH}{a:Act}{w:World}
  (h:∃Hs S,PH.le Hs H∧wpD C Hs S il K F H) (Y:fU ds n E F a) (hW:cS E H w) (Z:E.num=T.num) (hT:sK ds n E H w K (Q .normal)):(Code.region id ops true).wpIn (Fz ro) fu T.P Q a w:=by
 obtain⟨Hs,S,y,h⟩:=h;unfold Tbl.drawn at e;split at e
 ·rename_i R M;split at e
  ·rename_i l;cases e;simp only[bgU,aMG]at l;obtain⟨hm,N,O⟩:=l;obtain⟨A,J⟩:=bj M;have u:Z' R=ops.size:=by simpa using A
   refine wpIn_region_any hm ?_;have x:(EV ops R).length=ops.size:=by simp[EV,u]
   have U:=RT (C:=C) (Hs:=Hs) (S:=S) (K:=K) x N (EV ops R) 0 (biF ops.size false) F H aY (by simp[x]) aY (λj hj=>by simp[hj]) O y h;rw[x]at U;exact Jp I B aY (λi o ho=>J i o (by simpa using ho)) ops.size _ E F H a _ U y Y hW.drew Z (λV W H' X w' g1 g2 g3 g4=>hT V W H' X w' g1 g2 g3.Ip g4)
  ·cases e
 ·cases e
end
end Go.PM
namespace Go.PM
open Go Go.RowKit
def POp.a5L:POp→Bool
 | .load .. | .lookup .. | .beZ ..=>true
 |_=>false
def POp.a1N:POp→Bool
 | .store ..=>true
 |_=>false
def Dq(ms:List Nat)(m n:Nat):Bool:=(bfZ n).all λj=>decide (j<m)||(bfZ m).all λi=>(ms.getD j 0).testBit i
def cutAt(ms:List Nat)(e:List bN):Option Nat:=
 let cls:=e.map λi=>i.op.cls
 (bfZ e.length).find? λm=>(match e[m]? with|some i=>i.op.a1N&&i.guard.isNone|none=>false)&&Dq ms m e.length&&(bfZ m).any λi=>match e[i]? with|some x=>x.op.a5L&&Wu ms cls i|none=>false
def rT(ms:List Nat)(k:Nat)(e:List bN):List (bN × Bool):=
 let cls:=e.map λi=>i.op.cls
 e.zip ((bfZ e.length).map (Wu (ms.drop k |>.map (· >>> k)) cls))
namespace Tbl
variable (T:Tbl)
def Wd(n:Nat)(ops:Array Oper):Option aC:=
 match T.yE n ops ops.toList with
 |some e=>
  let ms:=FX ops.toList []
  match cutAt ms e with
  |none=>(T.drawn n ops).map .draw
  |some m=>
   let A:=rT ms 0 (e.take m)
   let B:=rT ms m (e.drop m)
   if T.P.follows .mixedOrders&&oM ms 0 ops.toList&&Dq ms m e.length&&IG ms 0 A&&IG ms m B then some (.seq (.draw A) (.draw B))else none
 |none=>none
def code(n:Nat):Code→Option aC
 | .skip=>some .skip
 | .region _ ops d=>if d then T.Wd n ops else(T.yE n ops ops.toList).map .region
 | .seq a b=>match code n a,code n b with
  |some a,some b=>some (.seq a b)
  |_,_=>none
 | .cond c a b=>match T.opd c,code n a,code n b with
  |some c,some a,some b=>some (.cond c a b)
  |_,_,_=>none
 | .block id c=>(code n c).map (.block id)
 | .loop c=>(code n c).map .loop
 | .exit id=>some (.exit id)
 | .ret=>some .ret
 | .scope c=>code n c
 | .label _=>some .skip
 |_=>none
end Tbl
theorem bu{ms:List Nat}:∀{l:List Oper}{k m:Nat},oM ms k l=true→oM ms k (l.take m)=true
 |[],_,_,_=>by simp[oM]
 |o::l,k,0,_=>by simp[oM]
 |o::l,k,m+1,h=>by simp only[oM,bgU,List.take_succ_cons]at h ⊢;exact⟨h.1,bu h.2⟩
theorem DL{listed:Array Bool}{m f i:Nat}{d:Bool}(e:listed.size=m)(h:i<m):(listed++biF f false).getD i d=listed.getD i d:=by
 simp only[Array.getD_eq_getD_getElem?];rw[Array.getElem?_append_left Om]
section
variable {ro:Option Nat} {fu:Nat} {ds:List Deferred} {C:Ctx} {Hs:PH} {S:Spec} {T:Tbl} {n:Nat}
theorem a2S{ops:Array Oper}{m i:Nat}(e:m≤ops.size):(ops.extract 0 m)[i]?=if i<m then ops[i]? else none:=by
 rw[Array.getElem?_extract];split
 ·rename_i h;rw[aL Om];simp
 ·rename_i h;rw[aE Om]
theorem aJG{ops:Array Oper}{ms:List Nat}{m:Nat}(N:m≤ops.size)(A:oM ms 0 ops.toList=true)(O:Dq ms m ops.size=true){listed:Array Bool}{f:Nat}(F:listed.size=m)(U:m+f=ops.size)(M:vQ ops (listed++biF f false))
  (I:∃i,i<m∧listed.getD i true=false) {i:Nat} (hi:i∈Region.ready .any ops (listed++biF f false)):i<m∧i∈Region.ready .any (ops.extract 0 m) listed:=by
 obtain⟨J,o,E,w⟩:=mem_ready.1 hi;have y:i<ops.size:=(bkE.1 E).1;have l:i<m:=by
  rcases bgV i m with h|h
  ·exact h
  ·exfalso;obtain⟨u,K,B⟩:=I;have hb:(ms.getD i 0).testBit u=true:=by have:=bgY.1 O i (bgW.2 y);rw[bV Om,Bool.false_or]at this;exact bgY.1 this u (bgW.2 K)
   have x:=l8 A u (i+1) i Om y hb;refine M.M1 x ?_ hi;rw[DL F K];have:u<listed.size:=Om;simp[this]at B ⊢;exact B
 refine⟨l,mem_ready.2 ⟨?_,o,by rw[a2S N,aL l];exact E,λe he hb=>?_⟩⟩
 ·rw[DL F l]at J;exact J
 ·have R:=(AZ A (j:=i) (o:=o) (by simpa using E)).1 e.on (by simp only[AQ,bhC,bjS];exact⟨e,⟨by simpa using he,hb⟩,rfl⟩);have:=w e he hb;rw[DL F Om]at this;exact this
theorem aqS{ops:Array Oper}{ms:List Nat}(x:oM ms 0 ops.toList=true){listed:Array Bool}(J:listed.size=ops.size):∀(u:Nat),u<ops.size→listed.getD u true=false→∃i,i∈Region.ready .any ops listed:=by
 intro u
 induction u using Nat.strongRecOn with
 |ind u F=>
  intro A B;by_cases h:∃w,w<u∧listed.getD w true=false
  ·obtain⟨w,E,y⟩:=h;exact F w E Om y
  ·refine⟨u,mem_ready.2 ⟨B,ops[u],by simp[A],λe he hb=>?_⟩⟩;have I:=(AZ x (j:=u) (o:=ops[u]) (by simp[A])).1 e.on (by simp only[AQ,bhC,bjS];exact⟨e,⟨by simpa using he,hb⟩,rfl⟩)
   have hlt:e.on<u:=Om;cases l:listed.getD e.on true with
   |false=>exact(h ⟨e.on,hlt,l⟩).elim
   |true =>have:e.on<listed.size:=Om;simp[this]at l ⊢;exact l
def unl(listed:Array Bool):Nat:=listed.toList.countP λb=>!b
theorem aYA{listed:Array Bool}{m:Nat}(j:listed.size=m)(h:unl listed=0):listed=biF m true:=by
 apply Array.ext
 ·simp[j]
 ·intro i l u;have:listed[i]∈listed.toList:=by simp
  have e:=List.countP_eq_zero.1 h _ this;simpa using e
theorem a3Y{listed:Array Bool}{i:Nat}(h:listed.getD i true=false):unl (listed.setIfInBounds i true)+1=unl listed:=by
 have hi:i<listed.size:=by
  rcases bgV i listed.size with h'|h'
  ·exact h'
  ·simp[Array.getElem?_eq_none h']at h
 have l:listed[i]=false:=by simpa[hi]using h
 unfold unl;rw[Array.toList_setIfInBounds];have e:i<Z' listed.toList:=by simpa using hi
 have j:listed.toList[i]=false:=by simpa using l
 conv=>rhs;rw[←biZ i listed.toList,biL e,j]
 rw[List.set_eq_take_append_cons_drop,aL e,List.countP_append,List.countP_append,List.countP_cons,List.countP_cons];simp only[bgJ,bgS,if_true,bjE,if_false];omega
theorem a3X{listed:Array Bool}{k:Nat}(h:unl listed=k+1):∃u,u<listed.size∧listed.getD u true=false:=by
 have j:0<listed.toList.countP λb=>!b:=by unfold unl at h;omega
 obtain⟨b,hb,l⟩:=List.countP_pos_iff.1 j;obtain⟨u,w,rfl⟩:=bhV hb;have e:u<listed.size:=by simpa using w
 exact⟨u,e,by simpa[e]using l⟩
theorem aqQ(X:C.P=T.P)(W:C.num=T.num){ops:Array Oper}{ms:List Nat}{m f:Nat}{A:List (bN × Bool)}(hm:m≤ops.size)(hf:m+f=ops.size)(α:oM ms 0 ops.toList=true)(ht:Dq ms m ops.size=true)
  (ι:∀(i:Nat) o,i<m→ops[i]?=some o→∃p b,A[i]?=some (p,b)∧T.jl n ops o=some p) {KA:PF→PH→Prop} {Q:Exit→Act→World→Prop} :
  ∀(fuel:Nat)(listed:Array Bool)(E:Env)(F:PF)(H:PH)(a:Act)(w:World),IP C Hs S (ops.extract 0 m) A KA fuel listed F H→listed.size=m→vQ ops (listed++biF f false)→unl listed=fuel→Hs.le H→fU ds n E F a→cS E H w→E.num=T.num →
   sK ds n E H w KA (wpAnyIn (Fz ro) fu T.P .any ops Q f (biF m true++biF f false))→wpAnyIn (Fz ro) fu T.P .any ops Q (fuel+f) (listed++biF f false) a w:=by
 intro fuel
 induction fuel with
 |zero =>intro listed E F H a w h hs hc hu K M hW hN hT;rw[aYA hs hu,bgL];exact hT E F H a w M hW (.refl E H w) h.2
 |succ fuel ih=>
  intro listed E F H a w h hs hc hu K M hW hN hT;obtain⟨u,ν,hu2⟩:=a3X hu;have μ:∃i,i<m∧listed.getD i true=false:=⟨u,by omega,hu2⟩;rw[show fuel+1+f=(fuel+f)+1 by omega];refine⟨λe=>?_,λi hi=>?_⟩
  ·obtain⟨i,hi⟩:=aqS α (listed:=listed++biF f false) (by simp;omega) u Om (by rw[DL hs Om];exact hu2);rw[e]at hi;cases hi
  obtain⟨η,Z⟩:=aJG hm α ht hs hf hc μ hi;obtain⟨-,o,ho,-⟩:=mem_ready.1 hi;have κ:=(mem_ready.1 Z).1;obtain⟨p,b,hz,θ⟩:=ι i o η ho;have β:=h.2 i Z _ hz;obtain⟨γ,hd,I,hg⟩:=TK θ;have δ:(listed++biF f false).setIfInBounds i true=listed.setIfInBounds i true++biF f false:=by
   apply Array.ext
   ·simp
   ·intro j h1 h2;rw[Array.getElem_setIfInBounds (by simpa using h1)];by_cases R:i=j
    ·subst R;rw[aL rfl,Array.getElem_append_left (by simp;omega),Array.getElem_setIfInBounds Om,aL rfl]
    ·rw[aE R];rcases bgV j listed.size with hj|hj
     ·rw[Array.getElem_append_left hj,Array.getElem_append_left (by simpa using hj),Array.getElem_setIfInBounds Om,aE R]
     ·rw[Array.getElem_append_right hj,Array.getElem_append_right (by simpa using hj)];simp
  have Y:=hc.set hi;rw[δ]at Y ⊢;have ξ:=a3Y κ;have B:sK ds n E H w (λU H'=>Hs.le H'∧IP C Hs S (ops.extract 0 m) A KA fuel (listed.setIfInBounds i true) U H') (wpAnyIn (Fz ro) fu T.P .any ops Q (fuel+f) (listed.setIfInBounds i true++biF f false)):=
   λE' U H' a' w' ε ζ hE V=>ih _ E' U H' a' w' V.2 (by simpa using hs) Y Om V.1 ε ζ (hE.env.num.trans hN) (hT.after hE)
  have l:=EM (K':=λU H'=>Hs.le H'∧IP C Hs S (ops.extract 0 m) A KA fuel (listed.setIfInBounds i true) U H') (λU H' x y=>⟨x,y⟩) K β;unfold BF bN.kind at l;unfold Go.wpOpIn;simp only[ho];rcases hg with⟨J,O⟩|⟨j,want,t,J,O,ht⟩
  ·rw[aL (by simp[Region.wanted,J])];simp only[O]at l;exact(zY X W γ hd I (VX K l) M hW hN B)
  ·simp only[O]at l;split at l
   ·rename_i b hb;rw[PW J ht (ZP M hb)];split at l
    ·rename_i N;rw[aL (by simp[N])];exact(zY X W γ hd I (VX K l) M hW hN B)
    ·rename_i N;rw[aE (by simpa using N)];obtain⟨v,hv,V⟩:=l;cases hv;exact⟨λ_ _=>trivial,B E _ H _ w (by rw[←hd];exact M.put I CU) hW (.refl E H w) V⟩
   ·rename_i hb;rw[JR J ht (ff M hb),aE aY];obtain⟨v,hv,V⟩:=l;cases hv;exact⟨λ_ _=>trivial,B E _ H _ w (by rw[←hd];exact M.put I CU) hW (.refl E H w) V⟩
   ·exact l.elim
theorem aqD(J:C.P=T.P)(I:C.num=T.num){id:Nat}{ops:Array Oper}{pc:aC}(l:T.Wd n ops=some pc){K:cQ}{Q:Exit→Act→World→Prop}{E:Env}{F:PF}{H:PH}{a:Act}{w:World}
  (h:pc.wp C K F H) (hA:fU ds n E F a) (hW:cS E H w) (hN:E.num=T.num) (hT:sK ds n E H w (K .normal) (Q .normal)):(Code.region id ops true).wpIn (Fz ro) fu T.P Q a w:=by
 unfold Tbl.Wd at l;split at l
 ·rename_i y μ;simp only at l;split at l
  ·rw[bgM]at l;obtain⟨il,ι,rfl⟩:=l;exact aGI J I ι h hA hW hN hT
  ·rename_i m X;split at l
   ·rename_i u;cases l;simp only[bgU]at u;obtain⟨⟨⟨⟨ξ,N⟩,γ⟩,ο⟩,ρ⟩:=u;obtain⟨α,W⟩:=bj μ;have M:Z' y=ops.size:=by simpa using α
    rw[M]at γ;obtain⟨Hs,S,Z,h⟩:=h;have τ:m<ops.size:=by have:=List.mem_of_find?_eq_some X;rw[bgW]at this;omega
    have lA:(rT (FX ops.toList []) 0 (y.take m)).length=m:=by simp[rT];omega
    have lB:(rT (FX ops.toList []) m (y.drop m)).length=ops.size-m:=by simp[rT];omega
    generalize U:rT (FX ops.toList []) 0 (y.take m)=A at *
    generalize ζ:rT (FX ops.toList []) m (y.drop m)=B at *
    generalize χ:FX ops.toList []=ms at *
    refine wpIn_region_any ξ ?_;have O:(ops.extract 0 m).size=m:=by simp;omega
    have β:oM ms 0 (ops.extract 0 m).toList=true:=by rw[show(ops.extract 0 m).toList=ops.toList.take m by simp];exact bu N
    have h1:=RT (C:=C) (Hs:=Hs) (S:=S) (K:=kJ C ((aC.draw B).wp C) K .normal) (ops:=ops.extract 0 m) (il:=A) (ms:=ms) (by rw[lA,O]) β A 0 (biF m false) F H aY (by rw[O];omega) (by simp;omega) (λj hj=>by rw[O]at hj;simp[hj]) ο Z h;rw[lA]at h1;have R:=aqQ (ro:=ro) (fu:=fu) (n:=n) J I (f:=ops.size-m) Om Om N γ (λi o υ ho=>?_) (Q:=Q) m (biF m false) E F H a _ h1 aY ?_ ?_ Z hA hW.drew hN ?_
    ·rw[show m+(ops.size-m)=ops.size by omega]at R;have e:biF m false++biF (ops.size-m) false=biF ops.size false:=by rw[Array.replicate_append_replicate,show m+(ops.size-m)=ops.size by omega]
     rw[e]at R;exact R
    ·obtain⟨p,hp,κ⟩:=W i o (by simpa using ho);have ψ:=(bhG.1 hp).1;have θ:i<Z' A:=Om;refine⟨p,A[i].2,?_,κ⟩;rw[bgH θ];congr 1;refine Prod.ext ?_ rfl;subst U;have σ:y[i]=p:=(bhG.1 hp).2;simp[rT,σ]
    ·intro j o hj hl;exfalso;have ν:j<ops.size:=(bkE.1 hj).1;have e:biF m false++biF (ops.size-m) false=biF ops.size false:=by rw[Array.replicate_append_replicate,show m+(ops.size-m)=ops.size by omega]
     rw[e]at hl;simp[ν]at hl
    ·unfold unl;simp[List.countP_replicate]
    ·intro E' F' H' a' w' ε η hE hK;obtain⟨δ,S2,x,h2⟩:=hK;have hz:(A++B).length=ops.size:=by rw[bgB];omega
     have h3:=RT (C:=C) (Hs:=δ) (S:=S2) (K:=K .normal) (ops:=ops) (il:=A++B) (ms:=ms) hz N B m (biF m true++biF (ops.size-m) false) F' H' (λj=>by rw[biB Om];congr 1;omega) Om (by simp;omega) (λj hj=>by
      simp only[Array.getD_eq_getD_getElem?,Array.getElem?_append,Array.size_replicate,Array.getElem?_replicate];by_cases hjm:j<m
      ·simp[hjm]
      ·simp[hjm,show j-m<ops.size-m by omega]) ρ x h2
     rw[lB]at h3;have V:A++B=y.zip ((A++B).map (·.2)):=by
      refine List.ext_getElem? λj=>?_;rcases bgV j ops.size with hj|hj
      ·have Y:j<(A++B).length:=Om;have φ:j<Z' y:=Om;rw[bgH Y,bgH (by simp;omega),List.getElem_zip,bhY];congr 1;refine Prod.ext ?_ rfl;simp only;rcases bgV j m with hjm|hjm
       ·rw[List.getElem_append_left Om];subst U;simp[rT]
       ·rw[List.getElem_append_right Om];subst ζ;have:m+(j-Z' A)=j:=Om;simp[rT,this]
      ·rw[bhQ Om,bhQ (by simp;omega)]
     rw[V]at h3;exact Jp J I (by simp;omega) (λi o ho=>W i o (by simpa using ho)) (ops.size-m) _ E' F' H' a' w' h3 x ε η (hE.env.num.trans hN) (λE3 F3 H3 a3 w3 g1 g2 g3 g4=>hT E3 F3 H3 a3 w3 g1 g2 (hE.trans g3).Ip g4)
   ·cases l
 ·cases l
end
end Go.PM
namespace Go.PM
open Go Go.RowKit
def oW.out:oW→Exit
 | .normal=>.normal
 | .exit id=>.exit id
 | .ret=>.ret
theorem vK{P:Program}{b:Frame}{a:Act}{k:List Item}{cs:List Frame}{w:World}{c:Code}:step P (lone (b.atR a (.code (.scope c)::k)) cs w)=.next (lone (b.atR a (.code c::.inScope c::k)) cs w):=
 step_lone_go (by simp[stepG,stepG.exec,Frame.atR])
theorem Ug{P:Program}{b:Frame}{a:Act}{k:List Item}{cs:List Frame}{w:World}{c:Code}:step P (lone (b.atR a (.inScope c::k)) cs w)=.next (lone (b.atR a k) cs w):=
 step_lone_go (by simp[stepG,stepG.exec,Frame.atR])
theorem aLE{F:Fence}{n:Nat}{P:Program}{Q:Exit→Act→World→Prop}{a:Act}{w:World}{c:Code}(h:c.wpIn F n P (Exit.noGoto Q) a w):(Code.scope c).wpIn F n P Q a w:=by
 intro b k cs J hb B;have u:(lone (b.atR a (.code (.scope c)::k)) cs w).fenced P F:=fenced_calm hb B rfl;obtain⟨e,x,y,hq,j⟩:=h b (.inScope c::k) cs J hb B;cases e with
 |normal=>exact⟨.normal,x,y,hq,.head u vK (StepsIn.trans j (.one (fenced_calm hb B rfl) Ug))⟩
 |exit id=>
  have K:exitTo id (.inScope c::k)=exitTo id k:=by simp[exitTo]
  exact⟨.exit id,x,y,hq,λO A=>.head u vK (j.1 O (by rw[K];exact A)),
   λI A=>let⟨R,M,N⟩:=j.2 I (by rw[K];exact A);⟨R,M,.head u vK N⟩⟩
 |goto l=>exact hq.elim
 |ret=>exact⟨_,x,y,hq,.of_steps (.one u vK) j⟩
 |panic S=>exact⟨_,x,y,hq,.of_steps (.one u vK) j⟩
 |outgrown=>exact⟨_,x,y,hq,.of_steps (.one u vK) j⟩
section
variable {ro:Option Nat} {fu:Nat} {ds:List Deferred} {T:Tbl} {n:Nat} {E:Env} {F:PF} {H:PH} {a:Act} {w:World}
theorem Nl{C:Ctx}(J:C.P=T.P)(I:C.num=T.num){ops:Array Oper}{K:PF→PH→Prop}{Q:Exit→Act→World→Prop}:∀(l:List Oper)(il:List bN)(E:Env)(F:PF)(H:PH)(a:Act)(w:World),
  T.yE n ops l=some il→wpOps C il K F H→fU ds n E F a→cS E H w→E.num=T.num→sK ds n E H w K (Q .normal)→wpListIn (Fz ro) fu T.P ops Q l a w
 |[],il,E,F,H,a,w,A,e,y,hW,_,hT=>by simp[Tbl.yE]at A;subst A;exact hT E F H a w y hW (.refl E H w) e
 |o::l,il,E,F,H,a,w,A,e,y,hW,V,hT=>by
  simp only[Tbl.yE]at A;split at A
  ·rename_i i is hi β;cases A;obtain⟨X,Z,hlt,hg⟩:=TK hi;have bfH:∀(x:Env)(S:PF)(H':PH)(U:Act)(R:World),x.num=T.num→fU ds n x S U→cS x H' R→Ext E H w x H' R→wpOps C is K S H'→wpListIn (Fz ro) fu T.P ops Q l U R:=
    λx S H' U R α B M Y hK=>Nl J I l is x S H' U R β hK B M α (hT.after Y)
   have W:sK ds n E H w (wpOps C is K) (wpListIn (Fz ro) fu T.P ops Q l):=λx S H' U R B M Y hK=>bfH x S H' U R (Y.env.num.trans V) B M Y hK;unfold wpListIn;simp only[wpOps]at e;rcases hg with⟨u,O⟩|⟨j,want,t,u,O,ht⟩
   ·rw[O]at e;rw[aL (by simp[Region.wanted,u])];exact(zY J I X Z hlt e y hW V W)
   ·rw[O]at e;simp only at e;split at e
    ·rename_i b hb;rw[PW u ht (ZP y hb)];split at e
     ·rename_i N;rw[aL (by simp[N])];exact(zY J I X Z hlt e y hW V W)
     ·rename_i N;rw[aE (by simpa using N)];exact⟨λ_ _=>trivial,bfH E _ H _ w V (by rw[←Z];exact y.put hlt CU) hW (.refl E H w) e⟩
    ·rename_i hb;rw[JR u ht (ff y hb),aE aY];exact⟨λ_ _=>trivial,bfH E _ H _ w V (by rw[←Z];exact y.put hlt CU) hW (.refl E H w) e⟩
    ·exact e.elim
  ·cases A
def yn(ds:List Deferred)(n:Nat)(E:Env)(H:PH)(w:World)(K:cQ)(Q:Exit→Act→World→Prop):Prop:=
 ∀e j u H' x l,fU ds n j u x→cS j H' l→Ext E H w j H' l→K e u H'→Q e.out x l
theorem yn.after{j:Env}{H':PH}{l:World}{K:cQ}{Q:Exit→Act→World→Prop}(h:yn ds n E H w K Q)(A:Ext E H w j H' l):yn ds n j H' l K Q:=
 λe u x H2 a2 J y hW I B=>h e u x H2 a2 J y hW (A.trans I) B
theorem aGG{C:Ctx}(γ:C.P=T.P)(β:C.num=T.num):∀(c:Code)(pc:aC)(K:cQ)(Q:Exit→Act→World→Prop)(E:Env)(F:PF)(H:PH)(a:Act)(w:World),
  T.code n c=some pc→pc.wp C K F H→fU ds n E F a→cS E H w→E.num=T.num→yn ds n E H w K Q→c.wpIn (Fz ro) fu T.P Q a w:=by
 intro c
 induction c with
 |skip =>intro pc K Q E F H a w j u A hW M l;simp[Tbl.code]at j;subst j;exact wpIn_skip (l .normal E F H a w A hW (.refl E H w) u)
 |region id ops d=>
  intro pc K Q E F H a w j u A hW M l;simp only[Tbl.code]at j;split at j
  ·rename_i hd;subst hd;exact aqD γ β j u A hW M λB U H' O N R S J I=>l .normal B U H' O N R S J I
  ·rename_i hd;simp only[bgM]at j;obtain⟨il,χ,rfl⟩:=j;have:d=false:=by simpa using hd
   subst this;exact wpIn_region_list (Nl γ β ops.toList il E F H a w χ u A hW M λB U H' O N R S J I=>l .normal B U H' O N R S J I)
 |seq x y Y Z=>
  intro pc K Q E F H a w j u A hW M l;simp only[Tbl.code]at j;split at j
  ·rename_i px py X hy;cases j;refine wpIn_seq (Y px (kJ C (py.wp C) K) _ E F H a w X u A hW M λe B U H' O N R S J I=>?_);cases e with
   |normal=>exact Z py K Q B U H' O N hy I R S (J.env.num.trans M) (l.after J)
   |exit id=>exact l (.exit id) B U H' O N R S J I
   |ret=>exact l .ret B U H' O N R S J I
  ·cases j
 |cond c x y Y Z=>
  intro pc K Q E F H a w j u A hW M l;simp only[Tbl.code]at j;split at j
  ·rename_i Δ px py ζ X hy;cases j;simp only[aC.wp]at u;split at u
   ·rename_i t υ;have r:=bQ ζ υ A M;have hb:a.eval c=.bool t:=by generalize a.eval c=v at r;cases r;rfl
    refine wpIn_cond hb ?_;cases t with
    |true=>exact Y px K Q E F H a w X (by simpa using u) A hW M l
    |false=>exact Z py K Q E F H a w hy (by simpa using u) A hW M l
   ·exact u.elim
  ·cases j
 |block id c ih=>
  intro pc K Q E F H a w j u A hW M l;simp only[Tbl.code,bgM]at j;obtain⟨px,X,rfl⟩:=j;refine wpIn_block (ih px (fN id K) _ E F H a w X u A hW M λe B U H' O N R S J I=>?_);cases e with
  |normal=>exact l .normal B U H' O N R S J I
  |exit Γ=>
   simp only[fN]at I;simp only[oW.out,Exit.inBlock];split at I
   ·rename_i e;rw[aL e];exact l .normal B U H' O N R S J I
   ·rename_i e;rw[aE e];exact l (.exit Γ) B U H' O N R S J I
  |ret=>exact l .ret B U H' O N R S J I
 |loop c ih=>
  intro pc K Q E F H a w j u A hW M l;simp only[Tbl.code,bgM]at j;obtain⟨px,X,rfl⟩:=j;obtain⟨α,Fs,Hs,Pr,m,a0,F1,H1,φ,ω,ο,ε,W⟩:=u;obtain⟨E1,ι,σ,μ⟩:=A.frz hW φ;refine wpIn_loop_ghost (λk O N=>∃(B:Env)(s:α),Pr s∧m s=k∧fU ds n B (Fs s) O∧cS B (Hs s) N∧Ext E H w B (Hs s) N) (m a0) ⟨E1,a0,ω,rfl,ι.weaken ο,σ.weaken ε,μ.drop ε⟩ ?_;rintro k O N ⟨B,s,hp,rfl,θ,ρ,V⟩;refine ih px (fZ Fs Hs Pr m (m s) K) _ B (Fs s) (Hs s) O N X (W s hp) θ ρ (V.env.num.trans M) λe E2 F2 H2 a2 w2 R S J I=>?_;cases e with
  |normal =>obtain⟨s',F3,H3,η,ψ,hlt,ξ,δ⟩:=I;obtain⟨E3,κ,τ,ν⟩:=R.frz S η;exact⟨m s',hlt,E3,s',ψ,rfl,κ.weaken ξ,τ.weaken δ,((V.trans J).trans ν).drop δ⟩
  |exit id=>exact l (.exit id) E2 F2 H2 a2 w2 R S (V.trans J) I
  |ret=>exact l .ret E2 F2 H2 a2 w2 R S (V.trans J) I
 |exit id =>intro pc K Q E F H a w j u A hW M l;simp[Tbl.code]at j;subst j;exact wpIn_exit (l (.exit id) E F H a w A hW (.refl E H w) u)
 |ret =>intro pc K Q E F H a w j u A hW M l;simp[Tbl.code]at j;subst j;exact wpIn_ret (l .ret E F H a w A hW (.refl E H w) u)
 |rangeFunc=>intro pc K Q E F H a w j;simp[Tbl.code]at j
 |scope c ih =>intro pc K Q E F H a w j u A hW M l;simp only[Tbl.code]at j;refine aLE (ih pc K _ E F H a w j u A hW M λe B U H' O N R S J I=>?_);have:=l e B U H' O N R S J I;cases e<;>exact this
 |label =>intro pc K Q E F H a w j u A hW M l;simp[Tbl.code]at j;subst j;exact wpIn_label (l .normal E F H a w A hW (.refl E H w) u)
 |goto=>intro pc K Q E F H a w j;simp[Tbl.code]at j
 |refuse=>intro pc K Q E F H a w j;simp[Tbl.code]at j
end
open Go Go.RowKit
namespace Tbl
variable (T:Tbl)
def res:ResultVar→Option fL
 | .tmp t=>some (.tmp t)
 | .cell t ty=>match T.isAgg ty,T.size ty with
  |some true,some k=>some (.cell t (some k))
  |some false,_=>some (.cell t none)
  |_,_=>none
def aiG:List ResultVar→Option (List fL)
 |[]=>some []
 |r::rs=>match T.res r,aiG rs with
  |some p,some ps=>some (p::ps)
  |_,_=>none
def func(fn:Func):Option aX:=
 match fn.body with
 |some c=>match T.code fn.ntmps c,T.aiG fn.results.toList with
  |some b,some rs=>some ⟨fn.params.size,fn.ntmps,b,rs⟩
  |_,_=>none
 |none=>none
end Tbl
section
variable {ds:List Deferred} {T:Tbl} {n:Nat} {E:Env} {F:PF} {H:PH} {a:Act} {w:World}
def d7(e:Array Value):ResultVar→Sem Value
 | .tmp t=>pure (e.getD t undef)
 | .cell a t=>do loadVar t (←asAddr (e.getD a undef))
theorem aPO{r:ResultVar}{p:fL}{pv:PV}(l:T.res r=some p)(e:p.ev F H=some pv)(y:fU ds n E F a)(hW:cS E H w):∃v,(d7 a.tmps r).run T.P w=.ok v w∧bF E pv v:=by
 cases r with
 |tmp t =>simp[Tbl.res]at l;subst l;exact⟨_,rfl,y.t t pv e⟩
 |cell t ty=>
  simp only[Tbl.res]at l;split at l
  ·rename_i k B J;cases l;simp only[fL.ev]at e;split at e
   ·rename_i q hq;rw[bgM]at e;obtain⟨cs,j,rfl⟩:=e;obtain⟨b,I,hb,-⟩:=vP hW (y.t t q hq) j;obtain⟨u,x,A⟩:=l6 (T:=T) B J hW (y.t t q hq) j;refine⟨u,?_,A⟩;rw[hb]at x;simpa[d7,hb,asAddr,Instr.loadAt,Instr.sureAddr]using x
   ·cases e
  ·rename_i B;cases l;simp only[fL.ev]at e;split at e
   ·rename_i q hq;split at e
    ·rename_i v' j;cases e;obtain⟨b,I,hb,-⟩:=vP hW (y.t t q hq) j;obtain⟨u,x,A⟩:=An (T:=T) B hW (y.t t q hq) j;refine⟨u,?_,A⟩;rw[hb]at x;simpa[d7,hb,asAddr,Instr.loadAt,Instr.sureAddr]using x
    ·cases e
   ·cases e
  ·cases l
theorem Dc(B:fU ds n E F a)(hW:cS E H w):∀(rs:List ResultVar)(ps:List fL)(e:List PV),T.aiG rs=some ps→fL.evs F H ps=some e →
  ∃vs,(rs.mapM (d7 a.tmps)).run T.P w=.ok vs w∧iH E e vs
 |[],ps,e,j,l=>by simp[Tbl.aiG]at j;subst j;simp[fL.evs]at l;subst l;exact⟨[],by simp,.nil⟩
 |r::rs,ps,e,j,l=>by
  simp only[Tbl.aiG]at j;split at j
  ·rename_i p A I x;cases j;simp only[fL.evs]at l;split at l
   ·rename_i v vs J y;cases l;obtain⟨u,g1,g2⟩:=aPO I J B hW;obtain⟨K,k1,k2⟩:=Dc B hW rs A vs x y;exact⟨u::K,by simp[List.mapM_cons,g1,k1],.cons g2 k2⟩
   ·cases l
  ·cases j
theorem aJC{l:List PV}{vs:List Value}(h:iH E l vs):bF E (cF l) (if h:vs.toArray.size=1 then vs.toArray[0]else .tuple vs.toArray):=by
 cases h with
 |nil=>exact .tup #[] rfl aY
 |cons h t=>
  cases t with
  |nil=>exact h
  |cons x B =>rename_i p v q u ps I;have e:iH E (p::q::ps) (v::u::I):=.cons h (.cons x B);rw[dif_neg aY];exact .tup _ (by simpa using e.len) (λj pv w y A=>e.at_ j pv w y (by simpa using A))
theorem aJI(fn:Func)(e:Array Value):results fn e=(do
  let vs ←fn.results.mapM (d7 e)
  pure (if h:vs.size=1 then vs[0]else .tuple vs)):=by
 unfold results;congr 1
theorem aMI{C:Ctx}(B:C.P=T.P)(A:C.num=T.num){name:Nat}{args:List PV}{R:PV→PH→Prop}{fn:Func}{V:aX}(hf:C.P.funcs[C.num name]?=some fn)(Z:(fn.name=="runtime.NumGoroutine")=false)
  (j:T.func fn=some V) (K:Z' args≤V.ntmps) (h:V.body.wp C (aW V.res R) (PF.args args) H):aI C name args H R:=by
 unfold Tbl.func at j;split at j
 ·rename_i c hb;split at j
  ·rename_i b rs l x;cases j;refine⟨⟨fn,hf,by simp[hb],Z⟩,λE w vs hN hW O=>?_⟩;have γ:vs.size=Z' args:=by simpa using O.len
   refine calls_of_wp hf hb ?_;rw[B];refine(wpIn_wide (n:=0)).1 ?_;have hA:fU [] fn.ntmps E (PF.args args) { tmps:=vs++biF (fn.ntmps-vs.size) undef,defers:=[] }:=by
    refine⟨by simp only at K;simp;omega,rfl,λi pv hi=>?_⟩;have u:i<vs.size:=by
     rw[γ];rcases bgV i args.length with h'|h'
     ·exact h'
     ·simp[PF.args,bhQ h']at hi
    simp only[Array.getD_eq_getD_getElem?];rw[Array.getElem?_append_left u,bjY u];exact O.at_ i pv _ hi (by simp[u])
   refine aGG (ro:=none) (fu:=0) B A c b (aW rs R) _ E (PF.args args) H _ w l h hA hW (hN.trans A) λe U F' H' a' W y I hE X=>?_;have S:aW rs R .ret F' H'→bodyPost T.P fn (λe W=>∃v pv U H',e=.returned v∧cS U H' W∧bF U pv v∧Ext E H w U H' W∧R pv H') .ret a' W:=by
    rintro⟨δ,M,F1,H1,H2,Y,J,v0,β,hR⟩;obtain⟨us,g1,g2⟩:=Dc y I fn.results.toList rs δ x M;have α:=aJC g2;obtain⟨E2,k1,k2,k3⟩:=Y.sound I;have N:=k3 (λ_=>if h:us.toArray.size=1 then us.toArray[0]else .tuple us.toArray) (λi pv hi=>by
     simp only[PF.set,upd]at hi;split at hi
     ·cases hi;exact α
     ·cases hi) 0 v0 β
    refine⟨y.defers,_,?_,_,v0,E2,H2,rfl,k1.weaken J,N,(hE.trans k2).drop J,hR⟩;rw[aJI,Array.mapM_eq_mapM_toList];simp[g1]
   cases e with
   |normal=>exact S X
   |exit id=>exact X.elim
   |ret=>exact S X
  ·cases j
 ·cases j
end
end Go.PM
