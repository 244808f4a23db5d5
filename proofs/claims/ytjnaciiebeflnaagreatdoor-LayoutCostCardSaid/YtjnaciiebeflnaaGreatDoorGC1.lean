/-Lemmas for the law. No condition.-/
import Derived.WalkKit
import Derived.CallsIn
import Derived.Laws.Cover3
import Derived.Deep.MidRow
import Derived.Great.BuildSlice
import Derived.Lib.Strings
import Derived.Laws.BytesArg
import GoSem.Instr.MapUpdate
import Derived.Laws.MakeOwn
import Derived.Laws.CopyRow
import Derived.MapKept
import Derived.Orders
import Derived.OrdersIn
import Derived.Sort.LoopGhostIn
import Derived.TacticsIn
import Derived.Scope
set_option linter.unusedSimpArgs false
set_option linter.unusedVariables false
open Nat renaming reduceEqDiff->γ,reduceAdd->δ,reduceSub->ε,reduceMul->ζ,reduceLT->η,reduceLeDiff->θ,reduceBEq->τ
open Int renaming reduceLT->ι,reduceLE->κ,reduceEq->μ,reduceToNat->ν,reduceAdd->ξ,reduceNeg->ο,reduceBEq->ρ,reduceBNe->σ
open List renaming reduceReplicate->υ
open List renaming length_map->auW,range->auX,length_append->auZ,replicate->avA,getElem_mem->avB,getElem?_eq_getElem->avF,getD_eq_getElem?_getD->avI,mem_cons->avL,length_take->avN,getElem?_map->avO,map_append->avU,mem_map->avV,all_eq_true->awA,append_assoc->awB,getElem?_eq_some_iff->awD,map_cons->awE,mem_range->awG,mem_append->awH,append_nil->awJ,length_cons->awK,mem_singleton->awL,getElem?_eq_none->awN,getElem_of_mem->awR,length_set->awS,getElem_map->awW,length_drop->awZ,drop_eq_getElem_cons->axB,length_nil->axC,map_nil->axD,mem_of_getElem?->axF,getElem?_range->axO,getElem?_append_right->axR,getElem?_append_left->axU,nodup_append->ayC,map_set->ayE,set_append_right->ayF,take_append_drop->ayK,cons_append->ayQ,getElem?_drop->ayR,getElem?_take->ayS,getElem?_set->ayZ,nil_append->azA,set_cons_zero->azB,flatten_cons->azE,mem_or_eq_of_mem_set->azJ,getElem_append_right->azK,eq_nil_of_length_eq_zero->azL,getElem_append_left->azM
open Nat renaming le_refl->avD,zero_add->avK,lt_or_ge->avX,le_trans->avZ,mul_comm->awF,mul_le_mul_right->awI,add_mul->awO,add_zero->awQ,mod_lt->awY,eq_zero_or_pos->axJ,add_assoc->axL,succ_mul->axM,sub_self->axT,mul_le_mul_left->axW,mul_one->ayG,div_lt_iff_lt_mul->ayO,div_add_mod->azF
open Bool renaming and_eq_true->avE,not_true->avH,not_false->avP,true_and->avR,false_eq_true->axH
open Option renaming map_eq_some_iff->avM,map_some->avS,some->awV,getD_some->axK,bind_some->ayV,bind_eq_some_iff->azD
open Int renaming toNat_natCast->axA
open Array renaming replicate->axG,length_toList->ayI,getElem?_eq_some_iff->ayM,getElem?_eq_getElem->ayW,getD_eq_getD_getElem?->azG
open List renaming length->Z'
set_option maxRecDepth 100000
set_option maxHeartbeats 800000
noncomputable section
attribute [go_sem] Nat.reduceEqDiff Nat.reduceAdd Nat.reduceSub Nat.reduceMul Nat.reduceLT Nat.reduceLeDiff Int.reduceLT Int.reduceLE Int.reduceEq Int.reduceToNat Int.reduceAdd Int.reduceNeg Int.reduceBEq Int.reduceBNe Nat.reduceBEq List.reduceReplicate reduceIte reduceCtorEq
theorem Om{p:Prop}(h:p:=by omega):p:=h
theorem sO_{p:Prop}(h:p:=by simp only;omega):p:=h
theorem aU{p:Prop}(h:p:=by decide):p:=h
theorem aZ{p:Prop}(h:p:=by simp):p:=h
abbrev aC:=@if_neg
abbrev aF:=@if_pos
abbrev bG:=@decide_eq_true
abbrev bS:=@decide_eq_false
namespace Go.PM
open Go
inductive PV where
 |int (k:IntKind) (n:Int)
 |bool (b:Bool)
 |str (s:List UInt8)
 |aJ
 |sl (size:Nat) (rows:List (List PV))
 |osl (o size off len:Nat)
 |ptr (o size i c:Nat)
 |aX (cells:List PV)
 |map (o:Nat)
 |fn (name:Nat) (captured:List PV)
 |agg (cells:List PV)
 |tup (vs:List PV)
 |lit (v:Value)
 |junk
 deriving Inhabited
abbrev PV.j(n:Int):PV:=.int .i64 n
attribute[go_sem] PV.j
abbrev _root_.P2_:=List (List PV)
abbrev _root_.L2_:=List (List Int)
abbrev _root_.N_:=List Nat
abbrev _root_.I_:=List Int
abbrev _root_.V_:=List PV
abbrev _root_.O_:=Option Nat
inductive KSh where
 |int (k:IntKind)
 |bool
 |str
 deriving DecidableEq,Inhabited
inductive KS where
 |int (k:IntKind) (n:Int)
 |bool (b:Bool)
 |str (s:List UInt8)
 deriving DecidableEq,Inhabited
def KS.sh:KS->KSh
 | .int k _=>.int k
 | .bool _=>.bool
 | .str _=>.str
def KS.val:KS->Value
 | .int k n=>.int k n
 | .bool b=>.bool b
 | .str s=>.string ⟨s.toArray⟩
abbrev MSh:=Bool × List KSh
def jK(sh:MSh)(k:List KS):Value:=if sh.1 then .agg (k.map KS.val).toArray else(k.map KS.val).headD undef
abbrev lI:=List KS->Option PV
def lI.upd(g:lI)(k:List KS)(v:PV):lI:=λj=>if j=k then some v else g j
def sE(k:List KS):List (List KS × PV)->Nat->Option (Nat × PV)
 |[],_=>none
 |e::l,i=>if e.1=k then some (i,e.2)else sE k l (i+1)
def mapOf(L:List (List KS × PV)):lI:=λk=>(sE k L 0).map (·.2)
open Classical in
noncomputable def lI.Nj(g:lI):Nat:=if h:∃e:List (List KS),e.Nodup/\∀k,k∈e↔(g k).isSome=true then h.choose.length else 0
theorem lI.adY{g:lI}{e:List (List KS)}(i:e.Nodup)(l:∀k,k∈e↔(g k).isSome=true):g.Nj=Z' e:=by
 have h:∃e:List (List KS),e.Nodup/\∀k,k∈e↔(g k).isSome=true:=⟨e,i,l⟩;unfold lI.Nj;rw[dif_pos h];exact((List.perm_ext_iff_of_nodup h.choose_spec.1 i).2 λk=>(h.choose_spec.2 k).trans (l k).symm).length_eq
theorem OC(k:List KS):∀(L:List (List KS × PV)) (i:Nat),(sE k L i).isSome=true↔k∈L.map (·.1)
 |[],i=>by simp[sE]
 |e::l,i=>by unfold sE;by_cases h:e.1=k;simp[h];rw[aC h,OC k l,awE,avL];exact⟨.inr,λu=>u.resolve_left λe2=>h e2.symm⟩
theorem O1{L:List (List KS × PV)}(h:(L.map (·.1)).Nodup):(mapOf L).Nj=Z' L:=by
 rw[lI.adY h λk=>?_,auW];rw[<-OC k L 0];unfold mapOf;simp
inductive aV where
 |rows (size:Nat) (rs:P2_)
 |map (sh:MSh) (g:lI)
 |loop (F:Nat->Option PV) (n t:Nat) (asg bdy:Code)
 |dead
def upd{α:Type}(f:Nat->Option α)(i:Nat)(v:Option α):Nat->Option α:=λj=>if j=i then v else f j
theorem Iu{α:Type}(f:Nat->Option α)(i:Nat)(v:Option α):upd f i v i=v:=by simp[upd]
theorem XI{α:Type}(f:Nat->Option α){i j:Nat}(v:Option α)(h:j≠i):upd f i v j=f j:=by simp[upd,h]
theorem abX{α:Type}(f:Nat->Option α){i j:Nat}(v u:Option α)(h:i≠j):upd (upd f i v) j u=upd (upd f j u) i v:=by
 funext k;simp only[upd];by_cases e:k=j;by_cases l:k=i;omega;simp[e];intro w;omega;simp[e]
abbrev PF:=Nat->Option PV
def PF.nil:PF:=λ_=>none
def PF.set(F:PF)(i:Nat)(v:PV):PF:=upd F i (some v)
def PF.le(F G:PF):Prop:=∀i v,F i=some v->G i=some v
structure PH where
 f:Nat->Option aV
 fin:∃n,∀o,n<=o->f o=none
instance:CoeFun PH (λ_=>Nat->Option aV):=⟨PH.f⟩
abbrev _root_.T3_:=Nat × PV × PH
abbrev _root_.K_:=PF→PH→Prop
abbrev _root_.R_:=PV→PH→Prop
theorem PH.ext{H K:PH}(h:∀o,H.f o=K.f o):H=K:=by
 cases H;cases K;have:‹Nat->Option aV›=‹Nat->Option aV›:=rfl;congr;exact funext h
def PH.nil:PH:=⟨λ_=>none,0,λ_ _=>rfl⟩
def PH.upd(H:PH)(o:Nat)(x:Option aV):PH:=
 ⟨PM.upd H.f o x,by
  obtain⟨n,e⟩:=H.fin;refine⟨max n (o+1),λq hq=>?_⟩;rw[XI _ _ Om];exact e q Om⟩
def PH.set(H:PH)(o:Nat)(x:aV):PH:=H.upd o (some x)
def PH.le(H K:PH):Prop:=∀o x,H o=some x->K o=some x
def PH.over(H e i:PH):PH:=
 ⟨λo=>match i o with
  |some x=>some x
  |none=>match e o with
   |some _=>some .dead
   |none=>H o,by
  obtain⟨n,w⟩:=H.fin;obtain⟨y,l⟩:=e.fin;obtain⟨A,u⟩:=i.fin;refine⟨max n (max y A),λo B=>?_⟩;simp only[u o Om,l o Om,w o Om]⟩
theorem PH.fresh(H:PH):∃o,H o=none:=by
 obtain⟨n,e⟩:=H.fin;exact⟨n,e n (avD _)⟩
def at2(rows:P2_)(i j:Nat):Option PV:=rows[i]?.bind (·[j]?)
structure Env where
 G:Nat->Option (Array Value)
 sz:Nat->O_
 num:Nat->FuncId
def Env.cell(E:Env)(b off:Nat):Option Value:=(E.G b).bind (·[off]?)
structure Env.le(E E':Env):Prop where
 g:∀b cs,E.G b=some cs->E'.G b=some cs
 s:∀b n,E.sz b=some n->E'.sz b=some n
 num:E'.num=E.num
theorem Env.le.refl(E:Env):E.le E:=⟨λ_ _ h=>h,λ_ _ h=>h,rfl⟩
theorem Env.le.trans{A B C:Env}(h:A.le B)(k:B.le C):A.le C:=
 ⟨λb cs e=>k.g _ _ (h.g _ _ e),λb n e=>k.s _ _ (h.s _ _ e),k.num.trans h.num⟩
theorem Env.le.cell{E l:Env}(h:E.le l){b off:Nat}{u:Value}(e:E.cell b off=some u):l.cell b off=some u:=by
 unfold Env.cell at *
 cases i:E.G b with
 |none=>simp[i]at e
 |some cs=>rw[i]at e;rw[h.g _ _ i];exact e
inductive bH (E:Env):PV->Value->Prop
 |int (k:IntKind) (n:Int):bH E (.int k n) (.int k n)
 |bool (b:Bool):bH E (.bool b) (.bool b)
 |str (s:ByteArray):bH E (.str s.data.toList) (.string s)
 |aJ:bH E .aJ (.slice none 0 0)
 |sl {size:Nat} {rows:P2_} {a:Option Addr} {cap:Nat} (u:Nat->Nat->Value) (hcap:Z' rows<=cap) (auQ:cap<=maxLen)
   (hs:∀r∈rows,Z' r=size)
   (ha:rows≠[]->∃ad,a=some ad/\ad.spot=none/\∀i j pv,at2 rows i j=some pv->E.cell ad.block (ad.off+i*size+j)=some (u i j))
   (h1:∀i j,(u i j).oneCell'=true) (hr:∀i j pv,at2 rows i j=some pv->bH E pv (u i j)):bH E (.sl size rows) (.slice a rows.length cap)
 |osl {o size off len cap n:Nat} {a:Addr} (hb:a.block=o) (hsp:a.spot=none) (auT:cap=0\/a.off=off*size) (hlen:len<=cap) (auQ:cap<=maxLen)
   (hn:E.sz o=some n) (auJ:off*size+cap*size<=n):bH E (.osl o size off len) (.slice (some a) len cap)
 |ptr (o size i c:Nat):bH E (.ptr o size i c) (.pointer (some ⟨o,i*size+c,none⟩))
 |aX {cells:V_} {ad:Addr} (u:Nat->Value) (hsp:ad.spot=none) (hc:∀(j:Nat) pv,cells[j]?=some pv->E.cell ad.block (ad.off+j)=some (u j))
   (h1:∀(j:Nat),(u j).oneCell'=true) (hr:∀(j:Nat) pv,cells[j]?=some pv->bH E pv (u j)):bH E (.aX cells) (.pointer (some ad))
 |map (o:Nat):bH E (.map o) (.map (some o))
 |fn {name:Nat} {captured:V_} (vc:Array Value) (hl:vc.size=Z' captured)
   (hr:∀(j:Nat) pv v,captured[j]?=some pv->vc[j]?=some v->bH E pv v):bH E (.fn name captured) (.func (.func (E.num name)) #[] vc)
 |agg {cells:V_} (vs:Array Value) (hl:vs.size=Z' cells) (h1:∀v∈vs.toList,v.oneCell'=true)
   (hr:∀(j:Nat) pv v,cells[j]?=some pv->vs[j]?=some v->bH E pv v):bH E (.agg cells) (.agg vs)
 |tup {ps:V_} (vs:Array Value) (hl:vs.size=Z' ps)
   (hr:∀(j:Nat) pv v,ps[j]?=some pv->vs[j]?=some v->bH E pv v):bH E (.tup ps) (.tuple vs)
 |lit (v:Value):bH E (.lit v) v
 |junk (v:Value):bH E .junk v
theorem bH.mono{E O:Env}(h:E.le O){pv:PV}{v:Value}(r:bH E pv v):bH O pv v:=by
 induction r with
 |int=>exact .int _ _
 |bool=>exact .bool _
 |str=>exact .str _
 |aJ=>exact .aJ
 |sl u B l V S A _ w =>refine .sl u B l V (λN=>?_) A w;obtain⟨R,e,W,M⟩:=S N;exact⟨R,e,W,λi j pv hp=>h.cell (M i j pv hp)⟩
 |osl hb y K J l U x=>exact .osl hb y K J l (h.s _ _ U) x
 |ptr=>exact .ptr _ _ _ _
 |aX u y M A _ w=>exact .aX u y (λj pv hp=>h.cell (M j pv hp)) A w
 |map=>exact .map _
 |fn vc F _ w=>rw[<-h.num];exact .fn vc F w
 |agg vs F A _ w=>exact .agg vs F A w
 |tup vs F _ w=>exact .tup vs F w
 |lit=>exact .lit _
 |junk=>exact .junk _
def TM(E:Env)(w:World)(o:Nat):aV->Prop
 | .rows size rs=>∃l ty,w.heap[o]?=some (.cells l ty (0,0))/\E.sz o=some l.size/\(∀r∈rs,Z' r=size)/\Z' rs*size<=l.size /\
   ∀i j pv,at2 rs i j=some pv->∃u,l[i*size+j]?=some u/\u.oneCell'=true/\bH E pv u
 | .map sh g=>∃y x L,w.heap[o]?=some (.map y x)/\(y.size=Z' L/\(L.map (·.1)).Nodup)/\g=mapOf L /\
   ∀(i:Nat) e J,L[i]?=some e->y[i]?=some J->e.1.map KS.sh=sh.2/\J.key=jK sh e.1/\bH E e.2 J.val
 | .loop F n t A B=>∃rec:Loop,w.heap[o]?=some (.loop rec)/\rec.state=.ready/\rec.pending=none/\rec.params=#[t]/\rec.assign=A/\rec.body=B/\rec.tmps.size=n/\∀i pv,F i=some pv->bH E pv (rec.tmps.getD i undef)
 | .dead=>True
theorem TM.mono{E R:Env}(h:E.le R){w S:World}{o:Nat}(O:S.heap[o]?=w.heap[o]?){x:aV}(r:TM E w o x):TM R S o x:=by
 cases x with
 |rows size rs =>obtain⟨K,ty,A,B,J,y,h5⟩:=r;refine⟨K,ty,O.trans A,h.s _ _ B,J,y,λi j pv hp=>?_⟩;obtain⟨u,a,b,c⟩:=h5 i j pv hp;exact⟨u,a,b,c.mono h⟩
 |map sh g =>obtain⟨N,l,L,A,B,J,y⟩:=r;exact⟨N,l,L,O.trans A,B,J,λi e M a b=>⟨(y i e M a b).1,(y i e M a b).2.1,(y i e M a b).2.2.mono h⟩⟩
 |loop F n t U V =>obtain⟨rec,A,B,J,y,h5,W,h7,h8⟩:=r;exact⟨rec,O.trans A,B,J,y,h5,W,h7,λi pv hi=>(h8 i pv hi).mono h⟩
 |dead=>trivial
structure bY(E:Env)(H:PH)(w:World):Prop where
 g:∀b cs,E.G b=some cs->(∀x,H b=some x->x=.dead)/\∃ty fr,w.heap[b]?=some (.cells cs ty fr)
 h:∀o x,H o=some x->o<w.heap.size/\TM E w o x
 s:∀o n,E.sz o=some n->∃cur ty fr,w.heap[o]?=some (.cells cur ty fr)/\cur.size=n
theorem bY.weaken{E:Env}{H i:PH}{w:World}(h:bY E H w)(e:i.le H):bY E i w:=by
 exact⟨λb cs hb=>⟨λx u=>(h.g b cs hb).1 x (e b x u),(h.g b cs hb).2⟩,λo x l=>h.h o x (e o x l),h.s⟩
structure Ext(E:Env)(H:PH)(w:World)(E':Env)(H':PH)(w':World):Prop where
 env:E.le E'
 os:w'.os=w.os
 tape:w'.tape=w.tape
 output:w'.output=w.output
 size:w.heap.size<=w'.heap.size
 block:∀b,b<w.heap.size->H b=none->w'.heap[b]?=w.heap[b]?
 new:∀o x,H' o=some x->(∃y,H o=some y)\/w.heap.size<=o
 newG:∀b cs,E'.G b=some cs->E.G b=some cs\/(∃y,H b=some y)\/w.heap.size<=b
theorem Ext.refl(E:Env)(H:PH)(w:World):Ext E H w E H w:=
 ⟨.refl E,rfl,rfl,rfl,avD _,λ_ _ _=>rfl,λ_ x h=>.inl ⟨x,h⟩,λ_ _ h=>.inl h⟩
theorem Ext.trans{l u w:Env}{A H2 B:PH}{F J K:World}(h:Ext l A F u H2 J)(k:Ext u H2 J w B K):Ext l A F w B K:=by
 refine⟨h.env.trans k.env,k.os.trans h.os,k.tape.trans h.tape,k.output.trans h.output,avZ h.size k.size,λb hb E=>?_,λo x O=>?_,λb cs hb=>?_⟩;have N:H2 b=none:=by
  cases e:H2 b with
  |none=>rfl
  |some x=>
   rcases h.new b x e with⟨y,i⟩|hl
   rw[E]at i;cases i;omega
 rw[k.block b (by have:=h.size;omega) N,h.block b hb E];rcases k.new o x O with⟨y,i⟩|hl
 exact h.new o y i;exact .inr (avZ h.size hl);rcases k.newG b cs hb with M|⟨y,i⟩|hl
 exact h.newG b cs M;exact .inr (h.new b y i);exact .inr (.inr (avZ h.size hl))
theorem Ext.drop{E i:Env}{H H' l:PH}{w u:World}(h:Ext E H w i H' u)(e:l.le H'):Ext E H w i l u:=
 ⟨h.env,h.os,h.tape,h.output,h.size,h.block,λo x y=>h.new o x (e o x y),h.newG⟩
theorem Ext.narrow{E B:Env}{H H' A:PH}{w F:World}(h:Ext E A w B H' F)(i:A.le H):Ext E H w B (H.over A H') F:=by
 refine⟨h.env,h.os,h.tape,h.output,h.size,λb hb K=>h.block b hb ?_,λo x l=>?_,λb cs hb=>?_⟩
 ·cases e:A b with
  |none=>rfl
  |some x=>have:=i b x e;rw[K]at this;cases this
 unfold PH.over at l;simp only at l;split at l;rename_i y u;rcases h.new o y u with⟨z,M⟩|hl
 exact .inl ⟨z,i o z M⟩;exact .inr hl;split at l;rename_i y u;exact .inl ⟨y,i o y u⟩;exact .inl ⟨x,l⟩;rcases h.newG b cs hb with J|⟨y,u⟩|hl
 exact .inl J;exact .inr (.inl ⟨y,i b y u⟩);exact .inr (.inr hl)
theorem bY.over{E J:Env}{H H' K:PH}{w F:World}(hW:bY E H w)(h:Ext E K w J H' F)(M:K.le H)(e:bY J H' F):bY J (H.over K H') F:=by
 have keep:∀o x,H o=some x->K o=none->o<F.heap.size/\TM J F o x:=by intro o x i A;obtain⟨hlt,B⟩:=hW.h o x i;exact⟨Nat.lt_of_lt_of_le hlt h.size,B.mono h.env (h.block o hlt A)⟩
 refine⟨λb cs hb=>⟨?_,(e.g b cs hb).2⟩,λo x i=>?_,e.s⟩;intro x l;unfold PH.over at l;simp only at l;split at l;rename_i y u;cases l;exact(e.g b cs hb).1 _ u;split at l;cases l;rfl;rename_i A;rcases h.newG b cs hb with N|⟨y,u⟩|hl
 exact(hW.g b cs N).1 x l;rw[A]at u;cases u;have:=(hW.h b x l).1;omega;unfold PH.over at i;simp only at i;split at i;rename_i y u;cases i;exact e.h o _ u;split at i;rename_i y u;cases i;exact⟨Nat.lt_of_lt_of_le (hW.h o y (M o y u)).1 h.size,trivial⟩;rename_i A;exact keep o x i A
open Go
inductive aR where
 |tmp (t:Nat)
 |const (v:PV)
 deriving Inhabited
def aR.ev(F:PF):aR->Option PV
 | .tmp t=>F t
 | .const v=>some v
def aR.evs(F:PF):List aR->Option V_
 |[]=>some []
 |x::xs=>match x.ev F,aR.evs F xs with
  |some v,some vs=>some (v::vs)
  |_,_=>none
inductive Sc where
 |int|bool|str
 deriving Inhabited,DecidableEq
inductive POp where
 |mv (x:aR)
 |pick (c a b:aR)
 |bin (op:BinOp) (x y:aR)
 |eqb (neg:Bool) (x y:aR)
 |eqs (neg:Bool) (ks:List Sc) (x y:aR)
 |un (op:UnOp) (x:aR)
 |conv (k:IntKind) (x:aR)
 |same (x:aR)
 |alloc (cells:V_)
 |box (ro:Bool) (x:aR)
 |build (zero:V_) (parts:List (Nat × Nat × aR))
 |atO (ro:Bool) (size len:Nat) (zero:V_) (parts:List (Nat × aR))
 |load (n:O_) (p:aR)
 |store (n:Nat) (p x:aR)
 |atX (x:aR)
 |auN (off:Nat) (x:aR)
 |field (off:Nat) (n:O_) (x:aR)
 |auB (size:Nat) (x i:aR)
 |idxA (n size:Nat) (x i:aR)
 |idxV (n size:Nat) (ag:Bool) (x i:aR)
 |auL (x i:aR)
 |slice (size:Nat) (x:aR) (lo hi mx:Option aR)
 |auH (x:aR) (lo hi:Option aR)
 |sliceA (n size:Nat) (x:aR) (lo hi mx:Option aR)
 |len (x:aR)
 |auK (x:aR)
 |auV (x:aR)
 |lenM (x:aR)
 |isNil (n:Bool) (x:aR)
 |extract (x:aR) (i:Nat)
 |atS (size bytes:Nat) (zero:V_) (l c:aR)
 |append (size bytes:Nat) (x y:aR)
 |auF (mx:Bool) (x y:aR)
 |mkfn (name:Nat) (captured:List aR)
 |auR (sh:MSh)
 |lookup (sh:MSh) (zero:PV) (x k:aR) (ok:Bool)
 |auC (sh:MSh) (x k v:aR)
 |insert (sh:MSh) (x k v:aR)
 |stuck
 |atY (x:aR)
 |str2bytes (x:aR)
 |call (name:Nat) (args:List aR)
 |auM (x:aR) (args:List aR)
 deriving Inhabited
structure bX where
 dst:O_
 op:POp
 guard:Option (Nat × Bool)
 deriving Inhabited
inductive aI where
 |skip
 |region (ops:List bX)
 |draw (ops:List (bX × Bool))
 |seq (a b:aI)
 |cond (c:aR) (a b:aI)
 |block (id:Nat) (c:aI)
 |loop (c:aI)
 |exit (id:Nat)
 |ret
 deriving Inhabited
inductive eE where
 |tmp (t:Nat)
 |cell (t:Nat) (n:O_)
 deriving Inhabited
structure lH where
 nparams:Nat
 ntmps:Nat
 body:aI
 res:List eE
 deriving Inhabited
def PV.cells:PV->V_
 | .agg cs=>cs
 |v=>[v]
def PV.one:PV->Bool
 | .agg _ | .tup _ | .junk | .lit (.agg _) | .lit (.tuple _)=>false
 |_=>true
def setCells(r:V_)(c:Nat):V_->V_
 |[]=>r
 |v::vs=>setCells (r.set c v) (c+1) vs
def loadCells(H:PH)(p:PV)(n:Nat):Option V_:=
 match p with
 | .ptr o size i c=>match H o with
  |some (.rows s rs)=>if s=size then match rs[i]? with
    |some r=>if c+n<=r.length then some ((r.drop c).take n)else none
    |none=>none
   else none
  |_=>none
 | .aX cells=>if n<=cells.length then some (cells.take n)else none
 |_=>none
def oE(op:BinOp)(k:IntKind)(a b:Int):Option PV:=
 match op with
 | .add=>some (.int k (k.wrap (a+b)))
 | .sub=>some (.int k (k.wrap (a-b)))
 | .mul=>some (.int k (k.wrap (a*b)))
 | .quo=>if b=0 then none else some (.int k (k.wrap (a.tdiv b)))
 | .rem=>if b=0 then none else some (.int k (a.tmod b))
 | .and=>some (.int k (k.wrap (BitVec.ofInt k.bits a &&& BitVec.ofInt k.bits b).toNat))
 | .or=>some (.int k (k.wrap (BitVec.ofInt k.bits a ||| BitVec.ofInt k.bits b).toNat))
 | .xor=>some (.int k (k.wrap (BitVec.ofInt k.bits a ^^^ BitVec.ofInt k.bits b).toNat))
 | .andNot=>some (.int k (k.wrap (BitVec.ofInt k.bits a &&& ~~~ BitVec.ofInt k.bits b).toNat))
 | .eql=>some (.bool (a==b))
 | .neq=>some (.bool (a != b))
 | .lss=>some (.bool (decide (a<b)))
 | .leq=>some (.bool (decide (a<=b)))
 | .gtr=>some (.bool (decide (a>b)))
 | .geq=>some (.bool (decide (a>=b)))
 | .shl | .shr=>none
def LY(op:BinOp)(a b:List UInt8):Option PV:=
 match op with
 | .add=>if((Z' a+Z' b:Nat):Int)>IntKind.i64.max then none else some (.str (a++b))
 | .eql=>some (.bool (a==b))
 | .neq=>some (.bool !(a==b))
 | .lss=>some (.bool (Op.bytesLess a b))
 | .leq=>some (.bool (Op.bytesLess a b||a==b))
 | .gtr=>some (.bool !(Op.bytesLess a b||a==b))
 | .geq=>some (.bool !(Op.bytesLess a b))
 |_=>none
def shift(op:BinOp)(k:IntKind)(a b:Int):Option PV:=
 if b<0 then none else
 match op with
 | .shl=>some (.int k (k.wrap (a*2^(min b.toNat k.bits))))
 | .shr=>some (.int k (a.fdiv (2^(min b.toNat k.bits))))
 |_=>none
def PV.bin(op:BinOp)(x y:PV):Option PV:=
 match op,x,y with
 | .shl,.int k a,.int _ b=>shift .shl k a b
 | .shr,.int k a,.int _ b=>shift .shr k a b
 |op,.int k a,.int e b=>if k=e then oE op k a b else none
 |op,.str a,.str b=>LY op a b
 |_,_,_=>none
def PV.eq1:Sc->PV->PV->Option Bool
 | .int,.int k a,.int e b=>if k=e then some (a==b)else none
 | .bool,.bool a,.bool b=>some (a==b)
 | .str,.str a,.str b=>some (a==b)
 |_,_,_=>none
def PV.eqs:List Sc->V_->V_->Option Bool
 |[],[],[]=>some true
 |k::e,x::xs,y::ys=>match PV.eq1 k x y with
  |some true=>PV.eqs e xs ys
  |some false=>if xs.length=Z' e/\Z' ys=e.length then some false else none
  |none=>none
 |_,_,_=>none
def PV.un(op:UnOp):PV->Option PV
 | .int k n=>match op with
  | .neg=>some (.int k (k.wrap (0-n)))
  | .xor=>some (.int k (k.wrap (BitVec.ofInt k.bits (if k.signed then -1 else k.max) ^^^ BitVec.ofInt k.bits n).toNat))
  |_=>none
 | .bool b=>match op with
  | .not=>some (.bool !b)
  |_=>none
 |_=>none
def PV.intOf:PV->Option Int
 | .int _ n=>some n
 |_=>none
def qC(cells:V_)(F:PF):List (Nat × Nat × aR)->Option V_
 |[]=>some cells
 |(off,size,x)::rest=>match x.ev F with
  |some v=>if v.cells.length=size/\off+size<=Z' cells/\v.cells.all PV.one then qC (setCells cells off v.cells) F rest else none
  |none=>none
def gY(size:Nat)(rows:P2_)(F:PF):List (Nat × aR)->Option P2_
 |[]=>some rows
 |(i,x)::rest=>match x.ev F with
  |some v=>if v.cells.length=size/\i<Z' rows/\v.cells.all PV.one then gY size (rows.set i v.cells) F rest else none
  |none=>none
def dH(H:PH)(size:Nat):PV->Option P2_
 | .aJ=>some []
 | .sl s rows=>if s=size then some rows else none
 | .osl o s off len=>if s=size then match H o with
   |some (.rows s' rs)=>if s'=s/\off+len<=rs.length then some ((rs.drop off).take len)else none
   |_=>none
  else none
 |_=>none
def bnd(F:PF)(d:Int):Option aR->Option Int
 |none=>some d
 |some x=>(x.ev F).bind PV.intOf
def PV.slice(size:Nat)(x:PV)(l h:Int)(mx:Option Int):Option PV:=
 match x with
 | .aJ=>if l=0/\h=0/\(mx=none\/mx=some 0)then some .aJ else none
 | .sl s rows=>if s=size/\0<=l/\l<=h/\h<=Z' rows/\(mx=none\/mx=some h)then some (.sl s ((rows.take h.toNat).drop l.toNat))else none
 | .osl o s off len=>if s=size/\0<=l/\l<=h/\h<=len/\(mx=none\/mx=some h)then some (.osl o s (off+l.toNat) (h.toNat-l.toNat))else none
 |_=>none
def PV.wT:PV->Option Bool
 | .aJ=>some true
 | .osl _ _ _ _=>some false
 | .sl _ (_::_)=>some false
 |_=>none
def KS.of:PV->Option KS
 | .int k n=>some (.int k n)
 | .bool b=>some (.bool b)
 | .str s=>some (.str s)
 |_=>none
def KS.ofs:V_->Option (List KS)
 |[]=>some []
 |v::vs=>match KS.of v,KS.ofs vs with
  |some k,some e=>some (k::e)
  |_,_=>none
def keyOf(sh:MSh)(v:PV):Option (List KS):=
 match sh.1,v with
 |true,.agg cs=>(KS.ofs cs).bind λk=>if k.map KS.sh=sh.2 then some k else none
 |false,v=>(KS.of v).bind λk=>if[k.sh]=sh.2 then some [k]else none
 |_,_=>none
def chunks(size:Nat):Nat->V_->P2_
 |0,_=>[]
 |n+1,cs=>cs.take size::chunks size n (cs.drop size)
def uJ:P2_->Option (List UInt8)
 |[]=>some []
 |[.int .u8 n]::rest=>(uJ rest).map (UInt8.ofNat n.toNat::·)
 |_=>none
def PV.tO:PV->Option PV
 | .aJ=>some (.int .i64 0)
 | .sl _ rows=>some (.int .i64 rows.length)
 | .osl _ _ _ n=>some (.int .i64 n)
 |_=>none
noncomputable def bD(op:POp)(F:PF)(H:PH):Option PV:=
 match op with
 | .mv x=>x.ev F
 | .same x=>match x.ev F with
  |some (.str s)=>some (.str s)
  |_=>none
 | .pick c a b=>match c.ev F,a.ev F,b.ev F with
  |some (.bool t),x,y=>if t then x else y
  |_,_,_=>none
 | .bin op x y=>match x.ev F,y.ev F with
  |some a,some b=>PV.bin op a b
  |_,_=>none
 | .eqb neg x y=>match x.ev F,y.ev F with
  |some (.bool a),some (.bool b)=>some (.bool ((a==b) != neg))
  |_,_=>none
 | .eqs neg B x y=>match x.ev F,y.ev F with
  |some (.agg xs),some (.agg ys)=>(PV.eqs B xs ys).map λb=>.bool (b != neg)
  |_,_=>none
 | .un op x=>match x.ev F with
  |some a=>PV.un op a
  |none=>none
 | .conv k x=>match x.ev F with
  |some (.int _ n)=>some (.int k (k.wrap n))
  |_=>none
 | .box true x=>match x.ev F with
  |some v=>if v.cells.all PV.one then some (.aX v.cells)else none
  |none=>none
 | .build zero parts=>(qC zero F parts).map .agg
 | .atO true size len zero parts=>if zero.length=size/\len*size<=16777216 then(gY size (avA len zero) F parts).map (.sl size)else none
 | .load none p=>match p.ev F with
  |some a=>match loadCells H a 1 with
   |some [v]=>some v
   |_=>none
  |none=>none
 | .load (some n) p=>match p.ev F with
  |some a=>(loadCells H a n).map .agg
  |none=>none
 | .atX x=>match x.ev F with
  |some (.ptr o s i c)=>some (.ptr o s i c)
  |some (.aX cs)=>some (.aX cs)
  |_=>none
 | .auN off x=>match x.ev F with
  |some (.ptr o s i c)=>some (.ptr o s i (c+off))
  |some (.aX cs)=>some (.aX (cs.drop off))
  |_=>none
 | .field off n x=>match x.ev F with
  |some (.agg cs)=>match n with
   |none=>cs[off]?
   |some n=>if off+n<=cs.length then some (.agg ((cs.drop off).take n))else none
  |_=>none
 | .auB size x i=>match x.ev F,i.ev F with
  |some (.sl s rows),some (.int _ n)=>if s=size/\0<=n then match rows[n.toNat]? with
    |some r=>some (.aX r)
    |none=>none
   else none
  |some (.osl o s off len),some (.int _ n)=>if s=size/\0<=n/\n<len then some (.ptr o s (off+n.toNat) 0)else none
  |_,_=>none
 | .idxA n size x i=>match x.ev F,i.ev F with
  |some (.ptr o s r c),some (.int _ k)=>if 0<=k/\k<n then some (.ptr o s r (c+k.toNat*size))else none
  |some (.aX cs),some (.int _ k)=>if 0<=k/\k<n then some (.aX (cs.drop (k.toNat*size)))else none
  |_,_=>none
 | .idxV n size w x i=>match x.ev F,i.ev F with
  |some (.agg cs),some (.int _ k)=>if 0<=k/\k<n then
    (if w then(if k.toNat*size+size<=cs.length then some (.agg ((cs.drop (k.toNat*size)).take size))else none)else cs[k.toNat*size]?)
   else none
  |_,_=>none
 | .auL x i=>match x.ev F,i.ev F with
  |some (.str s),some (.int _ k)=>if 0<=k then(s[k.toNat]?).map λb=>PV.int .u8 b.toNat else none
  |_,_=>none
 | .slice size x lo hi mx=>match x.ev F with
  |some v=>match v with
   | .aJ=>match bnd F 0 lo,bnd F 0 hi with
    |some l,some h=>match mx with
     |none=>PV.slice size v l h none
     |some m=>(bnd F 0 (some m)).bind λm=>PV.slice size v l h (some m)
    |_,_=>none
   | .sl s rows=>match bnd F 0 lo,bnd F rows.length hi with
    |some l,some h=>match mx with
     |none=>PV.slice size (.sl s rows) l h none
     |some m=>(bnd F 0 (some m)).bind λm=>PV.slice size (.sl s rows) l h (some m)
    |_,_=>none
   | .osl o s off len=>match bnd F 0 lo,bnd F len hi with
    |some l,some h=>match mx with
     |none=>PV.slice size (.osl o s off len) l h none
     |some m=>(bnd F 0 (some m)).bind λm=>PV.slice size (.osl o s off len) l h (some m)
    |_,_=>none
   |_=>none
  |none=>none
 | .auH x lo hi=>match x.ev F with
  |some (.str s)=>match bnd F 0 lo,bnd F s.length hi with
   |some l,some h=>if 0<=l/\l<=h/\h<=s.length then some (.str ((s.take h.toNat).drop l.toNat))else none
   |_,_=>none
  |_=>none
 | .sliceA n size x lo hi mx=>match lo,hi,mx with
  |none,none,none=>match x.ev F with
   |some (.aX cs)=>if n*size<=Z' cs/\0<size/\n<=maxLen then some (.sl size (chunks size n cs))else none
   |_=>none
  |_,_,_=>none
 | .len x=>(x.ev F).bind PV.tO
 | .auK x=>match x.ev F with
  |some (.str s)=>some (.int .i64 s.length)
  |_=>none
 | .lenM x=>match x.ev F with
  |some (.map o)=>match H o with
   |some (.map _ g)=>some (.int .i64 (g.Nj:Nat))
   |_=>none
  |_=>none
 | .auV x=>match x.ev F with
  |some .aJ=>some (.int .i64 0)
  |_=>none
 | .isNil n x=>(x.ev F).bind λv=>v.wT.map λb=>.bool (b != n)
 | .extract x i=>match x.ev F with
  |some (.tup vs)=>vs[i]?
  |_=>none
 | .auF mx x y=>match x.ev F,y.ev F with
  |some (.int k a),some (.int A b)=>if k=A then some (.int k (if mx then(if a<b then b else a)else(if b<a then b else a)))else none
  |_,_=>none
 | .mkfn name captured=>(aR.evs F captured).map λcs=>.fn name cs
 | .lookup sh zero x k ok=>match x.ev F,k.ev F with
  |some (.map o),some E=>match H o,keyOf sh E with
   |some (.map u g),some e=>if u=sh then some (if ok then .tup [(g e).getD zero,.bool (g e).isSome]else(g e).getD zero)else none
   |_,_=>none
  |_,_=>none
 | .atY x=>match x.ev F with
  |some v=>match dH H 1 v with
   |some rows=>(uJ rows).map PV.str
   |none=>none
  |none=>none
 |_=>none
def cN(op:POp)(F:PF):Option ((Nat->PV) × aV):=
 match op with
 | .alloc cells=>some (λo=>.ptr o cells.length 0 0,.rows cells.length [cells])
 | .box false x=>match x.ev F with
  |some v=>if v.cells.all PV.one then some (λo=>.ptr o v.cells.length 0 0,.rows v.cells.length [v.cells])else none
  |none=>none
 | .atO false size len zero parts=>if zero.length=size/\len*size<=16777216 then
   (gY size (avA len zero) F parts).map λrows=>(λo=>.osl o size 0 len,.rows size rows)
  else none
 | .atS size bytes zero l c=>match l.ev F,c.ev F with
  |some (.int _ n),some (.int _ m)=>if 0<=n/\n<=m/\m*bytes<=140737488355328/\m<=9223372036854775807/\Z' zero=size then
    some (λo=>.osl o size 0 n.toNat,.rows size (avA n.toNat zero))
   else none
  |_,_=>none
 | .auR sh=>some (λo=>.map o,.map sh (λ_=>none))
 |_=>none
def storeAt(H:PH)(p:PV)(cells:V_):Option PH:=
 match p with
 | .ptr o size i c=>match H o with
  |some (.rows s rs)=>if s=size/\c+Z' cells<=size/\cells.all PV.one then match rs[i]? with
    |some r=>some (H.set o (.rows s (rs.set i (setCells r c cells))))
    |none=>none
   else none
  |_=>none
 |_=>none
def roomFor(n m bytes:Nat):Prop:=n+m<=maxLen/\(n+m)*bytes<=140737488355328
def kJ(H:PH)(size bytes:Nat)(x y:PV)(K:R_):Prop:=
 ∃src,dH H size y=some src /\
  match x with
  | .aJ=>roomFor 0 src.length bytes/\(src=[]->K .aJ H)/\(src≠[]->∀o,H o=none->K (.osl o size 0 src.length) (H.set o (.rows size src)))
  | .osl o s 0 len=>s=size/\0=0/\roomFor len src.length bytes/\∃rs,H o=some (.rows size rs)/\len<=Z' rs /\
    K (.osl o size 0 (len+Z' src)) (H.set o (.rows size (rs.take len++src))) /\
    ∀o',H o'=none->K (.osl o' size 0 (len+Z' src)) (H.set o' (.rows size (rs.take len++src)))
  | .osl o s (off+1) len=>s=size/\roomFor len src.length bytes/\∃rs,H o=some (.rows size rs)/\off+1+len<=Z' rs /\
    K (.osl o size (off+1) (len+Z' src)) (H.set o (.rows size (rs.take (off+1+len)++src))) /\
    ∀o',H o'=none->K (.osl o' size 0 (len+Z' src)) (H.set o' (.rows size ((rs.drop (off+1)).take len++src)))
  |_=>False
def cH(op:POp)(F:PF)(H:PH)(K:R_):Prop:=
 match op with
 | .store n p x=>match p.ev F,x.ev F with
  |some a,some v=>Z' v.cells=n/\∃H',storeAt H a v.cells=some H'/\K .junk H'
  |_,_=>False
 | .append size bytes x y=>match x.ev F,y.ev F with
  |some a,some b=>kJ H size bytes a b K
  |_,_=>False
 | .auC sh x k v=>match x.ev F,k.ev F,v.ev F with
  |some (.map o),some l,some u=>match H o,keyOf sh l with
   |some (.map i g),some e=>i=sh/\K .junk (H.set o (.map sh (g.upd e u)))
   |_,_=>False
  |_,_,_=>False
 | .insert sh x k v=>match x.ev F,k.ev F,v.ev F with
  |some (.map o),some l,some u=>match H o,keyOf sh l with
   |some (.map i g),some e=>i=sh/\g e=none/\K .junk (H.set o (.map sh (g.upd e u)))
   |_,_=>False
  |_,_,_=>False
 |_=>False
def PV.dL(o s:Nat)(rs:P2_):PV->PV
 | .osl q s' off len=>if q=o then(if s'=s/\off+len<=rs.length then .sl s ((rs.drop off).take len)else .junk)else .osl q s' off len
 |v=>v
def PV.qR(o s:Nat)(rs:P2_):PV->PV
 | .agg cs=>.agg (cs.map (PV.dL o s rs))
 |v=>v.dL o s rs
def PV.frz(o s:Nat)(rs:P2_):PV->PV
 | .tup vs=>.tup (vs.map (PV.qR o s rs))
 |v=>v.qR o s rs
def aV.frz(o s:Nat)(rs:P2_):aV->aV
 | .rows s' rs'=>.rows s' (rs'.map λr=>r.map (PV.dL o s rs))
 |x=>x
def PF.frz(F:PF)(o s:Nat)(rs:P2_):PF:=λi=>(F i).map (PV.frz o s rs)
def PH.frz(H:PH)(o s:Nat)(rs:P2_):PH:=
 ⟨λq=>if q=o then none else(H q).map (aV.frz o s rs),by
  obtain⟨n,e⟩:=H.fin;exact⟨n,λq hq=>by simp[e q hq]⟩⟩
inductive jH:PF->PH->K_
 |refl (F:PF) (H:PH):jH F H F H
 |step {F F':PF} {H H':PH} (o:Nat) {s:Nat} {rs:P2_} (ho:H o=some (.rows s rs)) (h:jH (F.frz o s rs) (H.frz o s rs) F' H'):jH F H F' H'
structure Ctx where
 P:Program
 num:Nat->FuncId
inductive fW (E:Env):V_->List Value->Prop
 |nil:fW E [] []
 |cons {p:PV} {v:Value} {ps:V_} {vs:List Value} (h:bH E p v) (t:fW E ps vs):fW E (p::ps) (v::vs)
def aH(C:Ctx)(name:Nat)(args:V_)(H:PH)(R:R_):Prop:=
 (∃fn,C.P.funcs[C.num name]?=some fn/\fn.body.isSome=true/\(fn.name=="runtime.NumGoroutine")=false) /\
 ∀(E:Env)(w:World)(vs:Array Value),E.num=C.num->bY E H w->fW E args vs.toList ->
  Calls C.P (C.num name) vs w λe l=>∃v pv i H',e=.returned v/\bY i H' l/\bH i pv v/\Ext E H w i H' l/\R pv H'
def LS(C:Ctx)(l:Nat)(args:V_)(H:PH)(R:R_):Prop:=
 ∀(E:Env)(w:World)(vs:Array Value),E.num=C.num->bY E H w->fW E args vs.toList ->
  ∃fn u i body,(Instr.yield l vs).run C.P w=.ok (.round l fn u i body) w/\RoundIn Fence.wide 0 C.P l fn u i body w λe y=>∃v pv x H',e=.returned v/\bY x H' y/\bH x pv v/\Ext E H w x H' y/\R pv H'
def PV.Wu:PV->O_
 | .lit (.func (.yield l) f c)=>if f=#[]/\c=#[]then some l else none
 |_=>none
abbrev DB(l:Nat):PV:=.lit (.func (.yield l) #[] #[])
inductive lG where
 |normal
 |exit (id:Nat)
 |ret
abbrev bZ:=lG->K_
def PF.put(F:PF)(d:O_)(v:PV):PF:=
 match d with
 |some d=>F.set d v
 |none=>F
def wX(r:Option PV)(d:O_)(K:K_)(F:PF)(H:PH):Prop:=∃v,r=some v/\K (F.put d v) H
def oQ(r:Option ((Nat->PV) × aV))(d:O_)(K:K_)(F:PF)(H:PH):Prop:=
 ∃e x,r=some (e,x)/\∀o,H o=none->K (F.put d (e o)) (H.set o x)
def pI(H e H':PH):Prop:=∀o x,H' o=some x->e o=none->H o=none
def uZ(C:Ctx)(name:Nat)(args:Option V_)(d:O_)(K:K_)(F:PF)(H:PH):Prop:=
 ∃vs e R,args=some vs/\e.le H/\aH C name vs e R/\∀r H',R r H'->pI H e H'->K (F.put d r) (H.over e H')
def jS(C:Ctx)(name:Nat)(args:List aR)(cs:V_)(d:O_)(K:K_)(F:PF)(H:PH):Prop:=
 uZ C name ((aR.evs F args).map (·++cs)) d K F H \/
 ∃e i,jH F H e i/\uZ C name ((aR.evs e args).map (·++cs)) d K e i
def SK(C:Ctx)(l:Nat)(args:Option V_)(d:O_)(K:K_)(F:PF)(H:PH):Prop:=
 ∃vs e R,args=some vs/\e.le H/\LS C l vs e R/\∀r H',R r H'->pI H e H'->K (F.put d r) (H.over e H')
def Mx(C:Ctx)(l:Nat)(args:List aR)(d:O_)(K:K_)(F:PF)(H:PH):Prop:=
 SK C l (aR.evs F args) d K F H\/∃e i,jH F H e i/\SK C l (aR.evs e args) d K e i
def wD(C:Ctx)(v:Option PV)(args:List aR)(d:O_)(K:K_)(F:PF)(H:PH):Prop:=
 match v with
 |some (.fn name cs)=>jS C name args cs d K F H
 |some (.lit u)=>∃l,PV.Wu (.lit u)=some l/\Mx C l args d K F H
 |_=>False
def POp.iN:POp->Bool
 | .alloc _ | .box false _ | .atO false .. | .atS .. | .auR _=>true
 |_=>false
def POp.eT:POp->Bool
 | .store .. | .append .. | .auC .. | .insert ..=>true
 |_=>false
def wpOp(C:Ctx)(op:POp)(d:O_)(K:K_)(F:PF)(H:PH):Prop:=
 match op with
 | .call name args=>jS C name args [] d K F H
 | .auM x args=>wD C (x.ev F) args d K F H
 |op=>if op.iN then oQ (cN op F) d K F H else if op.eT then cH op F H (λr H'=>K (F.put d r) H')else wX (bD op F H) d K F H
def wpOps(C:Ctx):List bX->(K_)->K_
 |[],K,F,H=>K F H
 |i::rest,K,F,H=>match i.guard with
  |none=>wpOp C i.op i.dst (wpOps C rest K) F H
  |some (t,e)=>match F t with
   |some (.bool b)=>if b=e then wpOp C i.op i.dst (wpOps C rest K) F H else wpOps C rest K (F.put i.dst (.tup [])) H
   |some (.tup [])=>wpOps C rest K (F.put i.dst (.tup [])) H
   |_=>False
def PH.only(H:PH)(D:N_):PH:=
 ⟨λo=>if o∈D then H o else none,by
  obtain⟨n,e⟩:=H.fin;exact⟨n,λo i=>by simp[e o i]⟩⟩
abbrev Spec:=Nat->V_->Option (N_ × (PH->R_))
inductive Kind where
 |fail
 |calm (f:PH->Option PV)
 |new (r:Option ((Nat->PV) × aV))
 |write (w:PH->(R_)->Prop)
 |call (name:Nat) (args:Option V_)
 |ins (r:Option (Nat × MSh × List KS × PV))
noncomputable def POp.kind(op:POp)(F:PF):Kind:=
 match op with
 | .call name args=>.call name (aR.evs F args)
 | .auM x args=>match x.ev F with
  |some (.fn name cs)=>.call name ((aR.evs F args).map (·++cs))
  |_=>.fail
 | .insert sh x k v=>.ins (match x.ev F,k.ev F,v.ev F with
  |some (.map o),some i,some l=>(keyOf sh i).map λe=>(o,sh,e,l)
  |_,_,_=>none)
 |op=>if op.iN then .new (cN op F)else if op.eT then .write (λH K=>cH op F H K)else .calm (bD op F)
noncomputable def bX.kind(i:bX)(F:PF):Kind:=
 match i.guard with
 |none=>i.op.kind F
 |some (t,e)=>match F t with
  |some (.bool b)=>if b=e then i.op.kind F else .calm (λ_=>some (.tup []))
  |some (.tup [])=>.calm (λ_=>some (.tup []))
  |_=>.fail
def Kind.run(C:Ctx)(Hs:PH)(S:Spec)(st:Bool)(k:Kind)(K:R_)(H:PH):Prop:=
 match k with
 | .fail=>False
 | .calm f=>∃v,f (if st then Hs else H)=some v/\K v H
 | .new r=>∃i x,r=some (i,x)/\∀o,H o=none->K (i o) (H.set o x)
 | .write w=>w H λr H'=>Hs.le H'/\K r H'
 | .ins r=>∃o sh e v g,r=some (o,sh,e,v)/\H o=some (.map sh g)/\g e=none/\Hs o=none/\K .junk (H.set o (.map sh (g.upd e v)))
 | .call name args=>∃vs D R,args=some vs/\S name vs=some (D,R)/\(∀o∈D,∃x,H o=some x)/\aH C name vs (H.only D) (R (H.only D)) /\
   (∀G:PH,∃r H',R (H.only D) r H'/\pI G (H.only D) H') /\
   ∀r H',R (H.only D) r H'->pI H (H.only D) H'->Hs.le (H.over (H.only D) H')/\K r (H.over (H.only D) H')
def wpD(C:Ctx)(Hs:PH)(S:Spec):List (bX × Bool)->(K_)->K_
 |[],K,F,H=>K F H
 |i::rest,K,F,H=>(i.1.kind F).run C Hs S i.2 (λv H'=>wpD C Hs S rest K (F.put i.1.dst v) H') H
def fZ(C:Ctx)(w:bZ->K_)(K:bZ):bZ
 | .normal,F,H=>w K F H
 |e,F,H=>K e F H
def fA(id:Nat)(K:bZ):bZ
 | .exit i,F,H=>if i=id then K .normal F H else K (.exit i) F H
 |e,F,H=>K e F H
def fL{α:Type}(u:α->PF)(Hs:α->PH)(w:α->Prop)(m:α->Nat)(n:Nat)(K:bZ):bZ
 | .normal,F,H=>∃a i l,jH F H i l/\w a/\m a<n/\(u a).le i/\(Hs a).le l
 |e,F,H=>K e F H
def aI.wp(C:Ctx):aI->bZ->K_
 | .skip,K,F,H=>K .normal F H
 | .region ops,K,F,H=>wpOps C ops (K .normal) F H
 | .draw ops,K,F,H=>∃Hs S,PH.le Hs H/\wpD C Hs S ops (K .normal) F H
 | .seq a b,K,F,H=>a.wp C (fZ C (b.wp C) K) F H
 | .cond c a b,K,F,H=>match c.ev F with
  |some (.bool t)=>if t then a.wp C K F H else b.wp C K F H
  |_=>False
 | .block id c,K,F,H=>c.wp C (fA id K) F H
 | .loop c,K,F,H=>∃(α:Type)(e:α->PF)(Hs:α->PH)(i:α->Prop)(m:α->Nat)(l:α)(u:PF)(w:PH),jH F H u w/\i l/\(e l).le u/\(Hs l).le w /\
   ∀a,i a->c.wp C (fL e Hs i m (m a) K) (e a) (Hs a)
 | .exit id,K,F,H=>K (.exit id) F H
 | .ret,K,F,H=>K .ret F H
def eE.ev(F:PF)(H:PH):eE->Option PV
 | .tmp t=>F t
 | .cell t none=>match F t with
  |some p=>match loadCells H p 1 with
   |some [v]=>some v
   |_=>none
  |none=>none
 | .cell t (some k)=>match F t with
  |some p=>(loadCells H p k).map .agg
  |none=>none
def eE.evs(F:PF)(H:PH):List eE->Option V_
 |[]=>some []
 |r::rs=>match r.ev F H,eE.evs F H rs with
  |some v,some vs=>some (v::vs)
  |_,_=>none
def bL:V_->PV
 |[v]=>v
 |vs=>.tup vs
def aW(res:List eE)(R:R_):bZ
 | .exit _,_,_=>False
 |_,F,H=>∃vs,eE.evs F H res=some vs/\∃e i H2,jH (PF.nil.set 0 (bL vs)) H e i/\H2.le i/\∃v,e 0=some v/\R v H2
def PF.args(vs:V_):PF:=λi=>vs[i]?
structure Tbl where
 P:Program
 num:Nat->FuncId
 name:FuncId->O_
 ro:N_:=[]
def ofValue:Value->Option PV
 | .int k n=>some (.int k n)
 | .bool b=>some (.bool b)
 | .string s=>some (.str s.data.toList)
 | .slice none 0 0=>some .aJ
 | .pointer none=>some (.lit (.pointer none))
 | .map none=>some (.lit (.map none))
 | .nilIface=>some (.lit .nilIface)
 | .nilFunc=>some (.lit .nilFunc)
 |_=>none
theorem BQ{E:Env}{v:Value}{pv:PV}(h:ofValue v=some pv):bH E pv v:=by
 unfold ofValue at h;split at h<;>cases h
 ·exact .int _ _
 ·exact .bool _
 ·exact .str _
 ·exact .aJ
 all_goals exact .lit _
def ofValues:List Value->Option V_
 |[]=>some []
 |v::vs=>match ofValue v,ofValues vs with
  |some p,some ps=>some (p::ps)
  |_,_=>none
namespace Tbl
variable (T:Tbl)
def opd:Operand->Option aR
 | .tmp t=>some (.tmp t)
 | .const v=>(ofValue v).map .const
 | .func f=>match T.name f with
  |some n=>if T.num n=f then some (.const (.fn n []))else none
  |none=>none
 | .global _=>none
def i9:List Operand->Option (List aR)
 |[]=>some []
 |x::xs=>match T.opd x,i9 xs with
  |some p,some ps=>some (p::ps)
  |_,_=>none
def size(t:TypeId):O_:=(T.P.info? t).map (·.size)
def isAgg(t:TypeId):Option Bool:=
 match T.P.underlying t with
 |some (.struct _)|some (.array _ _)=>some true
 |some _=>some false
 |none=>none
def zero(t:TypeId):Option V_:=((T.P.info? t).bind (·.zero)).bind λz=>ofValues z.cells.toList
def scalar(t:TypeId):Option Sc:=
 match T.P.underlying t with
 |some (.int _)=>some .int
 |some .bool=>some .bool
 |some .string=>some .str
 |_=>none
def xM:Nat->List Field->Option (List Sc)
 |_,[]=>some []
 |k,f::e=>match T.scalar f.type,xM (k+1) e with
  |some c,some cs=>if f.name≠"_"/\f.offset=k then some (c::cs)else none
  |_,_=>none
def flat(t:TypeId):Option (List Sc):=
 match T.P.underlying t with
 |some (.struct e)=>if T.P.stoodInHeld t=false/\T.P.eqGuardType T.P.depth t=false then T.xM 0 e.toList else none
 |_=>none
def FT(t:TypeId):Option KSh:=
 match T.P.underlying t with
 |some (.int k)=>some (.int k)
 |some .bool=>some .bool
 |some .string=>some .str
 |_=>none
def oS:Nat->List Field->Option (List KSh)
 |_,[]=>some []
 |k,f::e=>match T.FT f.type,oS (k+1) e with
  |some c,some cs=>if f.name≠"_"/\f.offset=k then some (c::cs)else none
  |_,_=>none
def pD(t:TypeId):Option MSh:=
 match T.P.underlying t with
 |some (.struct e)=>if T.P.stoodInHeld t=false then(T.oS 0 e.toList).map λl=>(true,l)else none
 |_=>(T.FT t).map λc=>(false,[c])
def opt(x:Option Operand):Option (Option aR):=
 match x with
 |none=>some none
 |some x=>(T.opd x).map some
def place(e:Array Field)(i:Nat):Option (Nat × Nat):=
 match e[i]? with
 |some f=>(T.size f.type).map (f.offset,·)
 |none=>none
def partsOf(place:Nat->Option (Nat × Nat)):List (Nat × Operand)->Option (List (Nat × Nat × aR))
 |[]=>some []
 |(i,x)::rest=>match place i,T.opd x,partsOf place rest with
  |some (off,size),some p,some ps=>some ((off,size,p)::ps)
  |_,_,_=>none
def yC:List (Nat × Operand)->Option (List (Nat × aR))
 |[]=>some []
 |(i,x)::rest=>match T.opd x,yC rest with
  |some p,some ps=>some ((i,p)::ps)
  |_,_=>none
def vk(d:Option Tmp):Bool:=
 match d with
 |some d=>T.ro.contains d
 |none=>false
def call(o:Oper)(c:Call):Option POp:=
 match c.callee with
 | .builtin b=>match b,c.args.toList,c.argTypes.toList with
  | .len,[x],[t]=>match T.P.underlying t with
   |some (.array n _)=>some (.mv (.const (.int .i64 n)))
   |some .string=>(T.opd x).map .auK
   |some (.slice _)=>(T.opd x).map .len
   |some (.map _ _)=>(T.opd x).map .lenM
   |_=>none
  | .append,[x,y],[t,u]=>match T.P.underlying t,T.P.underlying u with
   |some (.slice e),some (.slice _)=>match T.P.info? e,T.opd x,T.opd y with
    |some i,some a,some b=>if t=u/\i.zero.isSome/\(i.zero.map (·.cells.size))=some i.size/\0<i.size then some (.append i.size i.bytes a b)else none
    |_,_,_=>none
   |_,_=>none
  | .cap,[x],[t]=>match T.P.underlying t with
   |some (.slice _)=>(T.opd x).map .auV
   |_=>none
  | .max,[x,y],_=>match T.opd x,T.opd y with
   |some a,some b=>some (.auF true a b)
   |_,_=>none
  | .min,[x,y],_=>match T.opd x,T.opd y with
   |some a,some b=>some (.auF false a b)
   |_,_=>none
  |_,_,_=>none
 | .value (.func f)=>match T.name f,T.i9 c.args.toList with
  |some n,some xs=>if T.num n=f then some (.call n xs)else none
  |_,_=>none
 | .value (.tmp t)=>(T.i9 c.args.toList).map (.auM (.tmp t))
 |_=>none
def op(o:Oper):Option POp:=
 match o.op with
 | .move x | .assign x=>(T.opd x).map .mv
 | .pick c a b=>match T.opd c,T.opd a,T.opd b with
  |some c,some a,some b=>some (.pick c a b)
  |_,_,_=>none
 | .alloc e=>(T.zero e).map .alloc
 | .box _ x=>(T.opd x).map (.box (T.vk o.dst))
 | .build t parts=>match T.zero t,T.P.underlying t with
  |some z,some (.struct A)=>if(A.toList.mapM (λf=>(T.P.info? f.type).map λi=>(f.offset,i.size))).isSome then
    (T.partsOf (T.place A) parts.toList).map (.build z)
   else none
  |some z,some (.array _ e)=>match T.size e with
   |some s=>(T.partsOf (λi=>some (i*s,s)) parts.toList).map (.build z)
   |none=>none
  |_,_=>none
 | .buildSlice t len parts=>match T.P.underlying t with
  |some (.slice e)=>match T.size e,T.zero e,T.yC parts.toList with
   |some s,some z,some ps=>if z.length=s/\0<s then some (.atO (T.vk o.dst) s len z ps)else none
   |_,_,_=>none
  |_=>none
 | .load t a=>match T.isAgg t,T.size t,T.opd a with
  |some true,some n,some p=>some (.load (some n) p)
  |some false,_,some p=>some (.load none p)
  |_,_,_=>none
 | .store t a x=>match T.size t,T.opd a,T.opd x with
  |some n,some p,some v=>some (.store n p v)
  |_,_,_=>none
 | .nilCheck x=>(T.opd x).map .atX
 | .binOp b t x y _=>match T.opd x,T.opd y with
  |some p,some q=>match b with
   | .eql=>match T.P.underlying t with
    |some (.int _)|some .string=>some (.bin .eql p q)
    |some .bool=>some (.eqb false p q)
    |some (.struct _)=>(T.flat t).map λE=>.eqs false E p q
    |some (.slice _)=>match q with
     | .const .aJ=>some (.isNil false p)
     |_=>none
    |_=>none
   | .neq=>match T.P.underlying t with
    |some (.int _)|some .string=>some (.bin .neq p q)
    |some .bool=>some (.eqb true p q)
    |some (.struct _)=>(T.flat t).map λE=>.eqs true E p q
    |some (.slice _)=>match q with
     | .const .aJ=>some (.isNil true p)
     |_=>none
    |_=>none
   |b=>some (.bin b p q)
  |_,_=>none
 | .unOp u _ x=>(T.opd x).map (.un u)
 | .convert s d x=>match T.P.underlying s,T.P.underlying d,T.opd x with
  |some (.int _),some (.int k),some p=>some (.conv k p)
  |some .string,some .string,some p=>some (.same p)
  |some (.slice e),some .string,some p=>match T.P.underlying e with
   |some (.int .u8)=>some (.atY p)
   |_=>none
  |_,_,_=>none
 | .makeFunc (.func f) first captured=>match T.name f,T.i9 captured.toList with
  |some n,some cs=>if T.num n=f/\first.size=0 then some (.mkfn n cs)else none
  |_,_=>none
 | .makeMap t none=>match T.P.underlying t with
  |some (.map k _)=>(T.pD k).map .auR
  |_=>none
 | .lookup t x k ok=>match T.P.underlying t with
  |some (.map B F)=>match T.pD B,(T.P.info? F).bind (·.zero),T.opd x,T.opd k with
   |some sh,some z,some p,some q=>(ofValue z).map λz=>.lookup sh z p q ok
   |_,_,_,_=>none
  |_=>none
 | .mapUpdate t x k v=>match T.P.underlying t with
  |some (.map B _)=>match T.pD B,T.opd x,T.opd k,T.opd v with
   |some sh,some p,some q,some r=>some (.auC sh p q r)
   |_,_,_,_=>none
  |_=>none
 | .insert t x k v=>match T.P.underlying t with
  |some (.map B _)=>match T.pD B,T.opd x,T.opd k,T.opd v with
   |some sh,some p,some q,some r=>some (.insert sh p q r)
   |_,_,_,_=>none
  |_=>none
 | .makeSlice t l c=>match T.P.underlying t with
  |some (.slice e)=>match T.P.info? e,T.zero e,T.opd l,T.opd c with
   |some i,some z,some a,some b=>if z.length=i.size/\0<i.size then some (.atS i.size i.bytes z a b)else none
   |_,_,_,_=>none
  |_=>none
 | .slice t x lo hi mx=>match T.P.underlying t,T.opd x,T.opt lo,T.opt hi,T.opt mx with
  |some (.slice e),some p,some l,some h,some m=>if mx.isSome=true/\hi.isNone=true then none else(T.size e).map λs=>.slice s p l h m
  |some .string,some p,some l,some h,some none=>some (.auH p l h)
  |some (.array n e),some p,some none,some none,some none=>(T.size e).map λs=>.sliceA n s p none none none
  |_,_,_,_,_=>none
 | .fieldAddr t x f=>match T.P.underlying t,T.opd x with
  |some (.struct A),some p=>match A[f]? with
   |some w=>match T.size w.type with
    |some (_+1)=>some (.auN w.offset p)
    |_=>none
   |none=>none
  |_,_=>none
 | .field t x f=>match T.P.underlying t,T.opd x with
  |some (.struct A),some p=>match A[f]? with
   |some w=>match T.isAgg w.type,T.size w.type with
    |some true,some n=>some (.field w.offset (some n) p)
    |some false,_=>some (.field w.offset none p)
    |_,_=>none
   |none=>none
  |_,_=>none
 | .indexAddr t x i=>match T.P.underlying t,T.opd x,T.opd i with
  |some (.slice e),some p,some q=>(T.size e).map λs=>.auB s p q
  |some (.array n e),some p,some q=>(T.size e).map λs=>.idxA n s p q
  |_,_,_=>none
 | .index t x i=>match T.P.underlying t,T.opd x,T.opd i with
  |some (.array n e),some p,some q=>match T.size e,T.isAgg e with
   |some s,some g=>some (.idxV n s g p q)
   |_,_=>none
  |some .string,some p,some q=>some (.auL p q)
  |_,_,_=>none
 | .extract x i=>(T.opd x).map (.extract · i)
 | .call c=>T.call o c
 |_=>none
def YR(n:Nat)(ops:Array Oper)(o:Oper):Option bX:=
 let p:=(T.op o).getD .stuck
 if o.dst.all (·<n)then
  match o.guard with
  |none=>some ⟨o.dst,p,none⟩
  |some (j,e)=>match(ops[j]?).bind (·.dst)with
   |some t=>some ⟨o.dst,p,some (t,e)⟩
   |none=>none
 else none
def wS(n:Nat)(ops:Array Oper):List Oper->Option (List bX)
 |[]=>some []
 |o::os=>match T.YR n ops o,wS n ops os with
  |some i,some e=>some (i::e)
  |_,_=>none
end Tbl
end Go.PM
namespace Go.PM
open Go
structure eS(ds:List Deferred)(n:Nat)(E:Env)(F:PF)(a:Act):Prop where
 size:a.tmps.size=n
 defers:a.defers=ds
 t:∀i pv,F i=some pv->bH E pv (a.tmps.getD i undef)
theorem eS.mono{ds:List Deferred}{n:Nat}{E e:Env}(h:E.le e){F:PF}{a:Act}(r:eS ds n E F a):eS ds n e F a:=⟨r.size,r.defers,λi pv hi=>(r.t i pv hi).mono h⟩
theorem eS.weaken{ds:List Deferred}{n:Nat}{E:Env}{F e:PF}{a:Act}(r:eS ds n E F a)(h:e.le F):eS ds n E e a:=⟨r.size,r.defers,λi pv hi=>r.t i pv (h i pv hi)⟩
theorem eS.put{ds:List Deferred}{n:Nat}{E:Env}{F:PF}{a:Act}(r:eS ds n E F a){d:Option Tmp}(u:d.all (·<n)=true){pv:PV}{v:Value}(h:bH E pv v):eS ds n E (F.put d pv) (a.put d v):=by
 cases d with
 |none=>exact r
 |some d=>
  have l:d<n:=by simpa using u
  refine⟨by simp[Act.put,r.size],by simp[Act.put,r.defers],λi x hi=>?_⟩;simp only[PF.put,PF.set,upd]at hi;split at hi;rename_i e;subst e;cases hi;simp only[Act.put,azG];rw[Array.getElem?_setIfInBounds];simp[r.size,l,h];rename_i e;have:=r.t i x hi;simp only[Act.put,azG]at this ⊢;rw[Array.getElem?_setIfInBounds,aC Om];exact this
section
variable {ds:List Deferred} {T:Tbl} {n:Nat} {E:Env} {F:PF} {H:PH} {a:Act} {w:World}
theorem bQ{x:Operand}{p:aR}{pv:PV}(e:T.opd x=some p)(i:p.ev F=some pv)(l:eS ds n E F a)(u:E.num=T.num):bH E pv (a.eval x):=by
 cases x with
 |tmp t =>simp[Tbl.opd]at e;subst e;exact l.t t pv i
 |const v =>simp only[Tbl.opd,avM]at e;obtain⟨q,hq,rfl⟩:=e;simp[aR.ev]at i;subst i;exact BQ hq
 |global g=>simp[Tbl.opd]at e
 |func f =>simp only[Tbl.opd]at e;split at e;rename_i m A;split at e;rename_i y;cases e;simp[aR.ev]at i;subst i;have:=bH.fn (E:=E) (name:=m) (captured:=[]) #[] rfl (by intro j pv v h;simp at h);rw[u,y]at this;exact this;cases e;cases e
theorem EQ{xs:List Operand}:∀{ps:List aR}{e:V_},T.i9 xs=some ps->aR.evs F ps=some e->eS ds n E F a->E.num=T.num->fW E e (xs.map a.eval):=by
 induction xs with
 |nil =>intro ps e i l _ _;simp[Tbl.i9]at i;subst i;simp[aR.evs]at l;subst l;exact .nil
 |cons x xs K =>intro ps e i l A B;simp only[Tbl.i9]at i;split at i;rename_i p M hp u;cases i;simp only[aR.evs]at l;split at l;rename_i v vs J y;cases l;exact .cons (bQ hp J A B) (K u y A B);cases l;cases i
theorem bY.Kv(hW:bY E H w){b off:Nat}{u:Value}(h:E.cell b off=some u):w.cell? ⟨b,off,none⟩=some u:=by
 unfold Env.cell at h;cases e:E.G b with
 |none=>simp[e]at h
 |some cs =>obtain⟨-,ty,fr,i⟩:=hW.g b cs e;rw[cell_of_row w b off cs ty fr i];simpa[e]using h
theorem add_plain(b off i:Nat):(⟨b,off,none⟩:Addr).add i=⟨b,off+i,none⟩:=by unfold Addr.add;split<;>simp_all
theorem sA{e:Addr}(h:e.spot=none):e=⟨e.block,e.off,none⟩:=by cases e;simp_all
theorem tX{pv:PV}{v:Value}(hW:bY E H w)(Z:bH E pv v){k:Nat}{cs:V_}(h:loadCells H pv k=some cs) :
  ∃b off,v=.pointer (some ⟨b,off,none⟩)/\Z' cs=k/\∃M:List Value,Z' M=k/\(∀u∈M,u.oneCell'=true) /\
   (∀(j:Nat) u,M[j]?=some u->w.cell? ⟨b,off+j,none⟩=some u)/\∀(j:Nat) q u,cs[j]?=some q->M[j]?=some u->bH E q u:=by
 unfold loadCells at h;split at h;rename_i o size i c;cases Z;split at h;rename_i s rs ho;split at h;rename_i hs;subst hs;split at h;rename_i r R;split at h;rename_i α;cases h;obtain⟨-,B,ty,hh,γ,Y,X,N⟩:=hW.h o _ ho;have K:∀j,j<k->∃u,B[i*s+(c+j)]?=some u/\u.oneCell'=true/\bH E (r.getD (c+j) .junk) u:=by intro j W;refine N i (c+j) _ ?_;simp only[at2,R,ayV,avI];rw[avF Om];rfl
 refine⟨o,i*s+c,rfl,by simp;omega,?_⟩;refine⟨(auX k).map λj=>(B[i*s+(c+j)]?).getD undef,by simp,?_,?_,?_⟩;intro u y;simp only[avV,awG]at y;obtain⟨j,W,rfl⟩:=y;obtain⟨u,J,h2,-⟩:=K j W;simp[J,h2];intro j u y;simp only[avO,avM]at y;obtain⟨U,e,rfl⟩:=y;have l:j<k:=by
  rcases avX j k with h|h
  exact h;rw[awN (by simpa using h)]at e;cases e
 rw[axO l]at e;cases e;obtain⟨u,J,-,-⟩:=K j l;rw[cell_of_row w o _ B ty (0,0) hh,axL,J];rfl;intro j q u hq y;simp only[avO,avM]at y;obtain⟨U,e,rfl⟩:=y;have l:j<k:=by
  rcases avX j k with h|h
  exact h;rw[awN (by simpa using h)]at e;cases e
 rw[axO l]at e;cases e;obtain⟨u,J,-,h3⟩:=K j l;have O:r.getD (c+j) .junk=q:=by rw[ayS,aF l,ayR]at hq;simp[hq]
 rw[<-O,J];exact h3;cases h;cases h;cases h;cases h
 ·rename_i cells;cases Z with
  |aX u S N J R=>
  rename_i V;split at h;rename_i β;cases h;refine⟨V.block,V.off,by rw[<-sA S],by simp;omega,(auX k).map u,by simp,?_,?_,?_⟩;intro x A;simp only[avV]at A;obtain⟨j,-,rfl⟩:=A;exact J j;intro j x A;simp only[avO,avM]at A;obtain⟨U,e,rfl⟩:=A;have l:j<k:=by
   rcases avX j k with h|h
   exact h;rw[awN (by simpa using h)]at e;cases e
  rw[axO l]at e;cases e;exact hW.Kv (N j _ (avF Om));intro j q x hq A;simp only[avO,avM]at A;obtain⟨U,e,rfl⟩:=A;have l:j<k:=by
   rcases avX j k with h|h
   exact h;rw[awN (by simpa using h)]at e;cases e
  rw[axO l]at e;cases e;rw[ayS,aF l]at hq;exact R j q hq;cases h
 cases h
theorem R6 {op : BinOp} {px py pv : PV} {x y : Value} (hx : bH E px x) (hy : bH E py y) (h : PV.bin op px py = some pv) (t : TypeId) (ox oy : Operand) :
    ∃ v, (do eqGuard op t ox oy x y; binOp op t x y : Sem Value).run T.P w = .ok v w /\ bH E pv v := by
  unfold PV.bin at h;split at h
  · cases hx; cases hy
    unfold shift at h;split at h
    · cases h
    · rename_i hb
      cases h;exact ⟨_, by simp [eqGuard, binOp, Op.shift, hb], .int _ _⟩
  · cases hx; cases hy
    unfold shift at h;split at h
    · cases h
    · rename_i hb
      cases h;exact ⟨_, by simp [eqGuard, binOp, Op.shift, hb], .int _ _⟩
  · rename_i op' k a k' b n1 n2
    cases hx; cases hy;split at h
    · rename_i hk
      subst hk;cases op <;> simp only [oE] at h <;>
        first
          | (cases h; refine ⟨_, ?_, bH.int _ _⟩; simp [eqGuard, binOp, Op.intArith, Op.intBits]; done)
          | (cases h; refine ⟨_, ?_, bH.bool _⟩; simp [eqGuard, binOp, Op.intCmp]; done)
          | (split at h
             · cases h
             · rename_i hb
               cases h;refine ⟨_, ?_, bH.int _ _⟩;simp [eqGuard, binOp, Op.intDiv, hb])
          | cases h
    · cases h
  · rename_i op' a b
    cases hx with
    | str s =>
    cases hy with
    | str s' =>
    cases op <;> simp only [LY] at h <;>
      first
        | (cases h; refine ⟨_, ?_, bH.bool _⟩; simp [eqGuard, binOp, Op.stringOp, ByteArray.toList_eq]; done)
        | (split at h
           · cases h
           · rename_i hb
             cases h;refine ⟨.string (s ++ s'), ?_, ?_⟩
             · have hb' : ¬ (((s.size + s'.size : Nat) : Int) > IntKind.i64.max) := by
                 intro hh;apply hb;have e1 : s.data.toList.length = s.size := by rw [ayI]; rfl
                 have e2 : s'.data.toList.length = s'.size := by rw [ayI]; rfl
                 rw [e1, e2];exact hh
               have e1 : Op.stringOp .add s s' = pure (.string (s ++ s')) := by unfold Op.stringOp; exact aC hb'
               have e2 : binOp .add t (.string s) (.string s') = pure (.string (s ++ s')) := by unfold binOp; exact e1
               simp [eqGuard, e2]
             · have e : s.data.toList ++ s'.data.toList = (s ++ s').data.toList := by rw [ByteArray.data_append, Array.toList_append]
               rw [e];exact .str _)
        | cases h
  · cases h
theorem abT{u:UnOp}{i pv:PV}{x:Value}(e:bH E i x)(h:PV.un u i=some pv):∃v,(Op.unary u x).run T.P w=.ok v w/\bH E pv v:=by
 unfold PV.un at h;split at h;cases e;split at h;cases h;exact⟨_,by simp[Op.unary,Op.intArith],.int _ _⟩;cases h;exact⟨_,by simp[Op.unary,Op.intBits],.int _ _⟩;cases h;cases e;split at h;cases h;exact⟨_,by simp[Op.unary],.bool _⟩;cases h;cases h
end
open Go Go.RowKit
def Yields(P:Program)(E:Env)(H:PH)(w:World)(s:Sem Value)(pv:PV):Prop:=
 ∃v i e,s.run P w=.ok v i/\bH e pv v/\bY e H i/\Ext E H w e H i
theorem Yields.same{P:Program}{E:Env}{H:PH}{w:World}{s:Sem Value}{pv:PV}{v:Value}(hW:bY E H w)(h:s.run P w=.ok v w)(r:bH E pv v):Yields P E H w s pv:=
 ⟨v,w,E,h,r,hW,.refl E H w⟩
def Env.add(E:Env)(b:Nat)(cs:Array Value):Env:=⟨upd E.G b (some cs),upd E.sz b (some cs.size),E.num⟩
section
variable {T:Tbl} {n:Nat} {E:Env} {F:PF} {H:PH} {a:Act} {w:World}
theorem bY.N5(hW:bY E H w){b:Nat}{cs:Array Value}(h:E.G b=some cs):b<w.heap.size:=by
 obtain⟨-,ty,fr,e⟩:=hW.g b cs h;exact(ayM.1 e).1
theorem bY.Ht(hW:bY E H w){b n:Nat}(h:E.sz b=some n):b<w.heap.size:=by
 obtain⟨e,ty,fr,i,-⟩:=hW.s b n h;exact(ayM.1 i).1
theorem bY.Oj(hW:bY E H w):H w.heap.size=none:=by
 cases h:H w.heap.size with
 |none=>rfl
 |some x=>have:=(hW.h _ x h).1;omega
theorem Env.akD(hW:bY E H w)(cs:Array Value):E.le (E.add w.heap.size cs):=by
 refine⟨λb ds h=>?_,λb m h=>?_,rfl⟩;have:=hW.N5 h;simp only[Env.add];rw[XI _ _ Om];exact h;have:=hW.Ht h;simp only[Env.add];rw[XI _ _ Om];exact h
theorem bY.acW(hW:bY E H w)(cs:Array Value)(ty:TypeId):bY (E.add w.heap.size cs) H (w.alloc (.cells cs ty))/\Ext E H w (E.add w.heap.size cs) H (w.alloc (.cells cs ty)):=by
 have y:=Env.akD hW cs;refine⟨⟨λb ds h=>?_,λo x h=>?_,λo m h=>?_⟩,⟨y,rfl,rfl,rfl,by simp,λb hb _=>Below.heap_alloc w _ b hb,λo x h=>.inl ⟨x,h⟩,λb ds h=>?_⟩⟩;simp only[Env.add,upd]at h;split at h;rename_i e;cases h;subst e;exact⟨λx B=>by(rw[hW.Oj]at B;cases B),ty,(0,0),heap_alloc_new w _⟩;obtain⟨l,i,fr,u⟩:=hW.g b ds h;exact⟨l,i,fr,(Below.heap_alloc w _ b (hW.N5 h)).trans u⟩;obtain⟨l,u⟩:=hW.h o x h;exact⟨by simp;omega,u.mono y (Below.heap_alloc w _ o l)⟩;simp only[Env.add,upd]at h;split at h;rename_i e;cases h;subst e;exact⟨cs,ty,(0,0),heap_alloc_new w _,rfl⟩;obtain⟨A,i,fr,l,u⟩:=hW.s o m h;exact⟨A,i,fr,(Below.heap_alloc w _ o (hW.Ht h)).trans l,u⟩;simp only[Env.add,upd]at h;split at h;rename_i e;exact .inr (.inr Om);exact .inl h
theorem Ps{pv:PV}{v:Value}(h:bH E pv v)(e:pv.one=true):v.oneCell'=true:=by
 cases h with
 |lit v=>cases v<;>first|rfl|(simp[PV.one]at e)
 |junk v=>simp[PV.one]at e
 |agg vs=>simp[PV.one]at e
 |tup vs=>simp[PV.one]at e
 |_=>rfl
theorem CC{pv:PV}{v:Value}(h:bH E pv v)(l:pv.cells.all PV.one=true) :
  v.cells.size=Z' pv.cells/\(∀u∈v.cells.toList,u.oneCell'=true)/\∀(j:Nat) q u,pv.cells[j]?=some q->v.cells[j]?=some u->bH E q u:=by
 by_cases e:∃cs,pv=.agg cs
 ·obtain⟨cs,rfl⟩:=e;cases h with
  |agg vs A i B=>exact⟨A,i,B⟩
 ·have y:pv.cells=[pv]:=by cases pv<;>first|rfl|(exact absurd ⟨_,rfl⟩ e)
  rw[y]at l ⊢;have i:v.oneCell'=true:=Ps h (by simpa using l);have J:v.cells=#[v]:=by cases v<;>first|rfl|(simp[Value.oneCell']at i)
  rw[J];refine⟨rfl,by simpa using i,λj q u hq x=>?_⟩;cases j with
  |zero=>simp at hq x;subst hq;subst x;exact h
  |succ j=>simp at hq
theorem xx{c:Sc}{p q:PV}{x y:Value}(u:bH E p x)(A:bH E q y){b:Bool}(h:PV.eq1 c p q=some b){t:TypeId}(i:T.scalar t=some c)(d:Nat) :
  (Op.equalIn (d+1) t x y).run T.P w=.ok b w:=by
 unfold Tbl.scalar at i;unfold PV.eq1 at h;split at h;cases u;cases A;split at h;rename_i e;subst e;cases h;split at i<;>cases i;rename_i k2 l;exact run_equalIn_int w d t _ k2 _ _ l;cases h;cases u;cases A;cases h;split at i<;>cases i;rename_i l;exact run_equalIn_bool w d t _ _ l
 ·cases u with
  |str s=>
  cases A with
  |str s'=>
  cases h;split at i<;>cases i;rename_i l;rw[run_equalIn_string w d t s s' l,ByteArray.toList_eq,ByteArray.toList_eq]
 cases h
theorem QN{t:TypeId}{c:Sc}(i:T.scalar t=some c)(cs:Array Value)(k:Nat)(v:Value)(l:cs[k]?=some v):(part t cs k).run T.P w=.ok v w:=by
 have e:(isAgg t).run T.P w=.ok false w:=by unfold Tbl.scalar at i;split at i<;>cases i<;>(rename_i u;simp[isAgg,run_underlying u])
 simp[part,e,l]
theorem UL(d:Nat)(vs i:Array Value):∀(l:List Field)(B:List Sc)(k:Nat)(xs ys:V_)(b:Bool),T.xM k l=some B->PV.eqs B xs ys=some b ->
  (∀(j:Nat) q u,xs[j]?=some q->vs[k+j]?=some u->bH E q u)->(∀(j:Nat) q u,ys[j]?=some q->i[k+j]?=some u->bH E q u) ->
  vs.size=k+Z' xs->i.size=k+Z' ys->(Op.eqFields (d+1) vs i l).run T.P w=.ok b w
 |[],B,k,xs,ys,b,e,he,M,N,O,R=>by simp[Tbl.xM]at e;subst e;cases xs<;>cases ys<;>simp[PV.eqs]at he;subst he;simp[Op.eqFields]
 |f::l,B,k,xs,ys,b,e,he,M,N,O,R=>by
  simp only[Tbl.xM]at e;split at e;rename_i c cs A K;split at e
  ·rename_i S;cases e;cases xs with
   |nil=>simp[PV.eqs]at he
   |cons x xs=>
   cases ys with
   |nil=>simp[PV.eqs]at he
   |cons y ys=>
   simp only[PV.eqs]at he;simp only[awK]at O R;have X:vs[k]?=some vs[k]:=ayW Om;have W:i[k]?=some i[k]:=ayW Om;have U:bH E x vs[k]:=M 0 x _ rfl aZ;have V:bH E y i[k]:=N 0 y _ rfl aZ;simp only[Op.eqFields];rw[aF S.1];simp only[Sem.run_bind,S.2,QN A vs k _ X,QN A i k _ W,Result.andThen_ok];split at he;rename_i J;rw[xx U V J A d];simp only[Result.andThen_ok,avH,axH,if_false];refine UL d vs i l cs (k+1) xs ys b K he (λj q u a c=>M (j+1) q u (by simpa using a) (by rw[<-c];congr 1;omega)) (λj q u a c=>N (j+1) q u (by simpa using a) (by rw[<-c];congr 1;omega)) Om Om;rename_i J;rw[xx U V J A d];simp only[Result.andThen_ok,avP,if_true,Sem.run_pure];split at he;cases he;rfl;cases he;cases he
  cases e;cases e
theorem St(neg:Bool)(a b:Bool){t:TypeId}(i l:Operand)(e:T.P.underlying t=some .bool) :
  (do eqGuard (if neg then .neq else .eql) t i l (.bool a) (.bool b);binOp (if neg then .neq else .eql) t (.bool a) (.bool b):Sem Value).run T.P w=.ok (.bool ((a==b) != neg)) w:=by
 cases neg;simp[eqGuard,run_eql_bool w t a b e];simp[eqGuard,run_neq_bool w t a b e]
theorem Jo(neg:Bool){pv:PV}{v:Value}(K:bH E pv v){b:Bool}(hb:pv.wT=some b){t e:TypeId}(x y:Operand)(u:T.P.underlying t=some (.slice e)) :
  (do eqGuard (if neg then .neq else .eql) t x y v (.slice none 0 0);binOp (if neg then .neq else .eql) t v (.slice none 0 0):Sem Value).run T.P w=.ok (.bool (b != neg)) w:=by
 have i:∀(a:Option Addr)(l c:Nat),b=a.isNone->v=.slice a l c->(do eqGuard (if neg then .neq else .eql) t x y v (.slice none 0 0);binOp (if neg then .neq else .eql) t v (.slice none 0 0):Sem Value).run T.P w=.ok (.bool (b != neg)) w:=by intro a l c A B;subst A B;cases neg;simp only[axH,if_false,binOp];simp[eqGuard,run_equal_slice_nil w t e a l c u];simp only[if_true,binOp];simp[eqGuard,run_equal_slice_nil w t e a l c u]
 cases K<;>simp only[PV.wT]at hb<;>try cases hb
 exact i _ _ _ rfl rfl
 ·rename_i rows _ _ _ _ _ _ J _ _;cases rows with
  |nil=>cases hb
  |cons r rs =>cases hb;obtain⟨M,rfl,-⟩:=J aZ;exact i _ _ _ rfl rfl
 exact i _ _ _ rfl rfl
theorem Nv(neg:Bool){M:List Sc}{xs ys:V_}{x y:Value}(X:bH E (.agg xs) x)(Y:bH E (.agg ys) y){b:Bool}(hb:PV.eqs M xs ys=some b){t:TypeId}(N O:Operand)
  (e:T.flat t=some M):(do eqGuard (if neg then .neq else .eql) t N O x y;binOp (if neg then .neq else .eql) t x y:Sem Value).run T.P w=.ok (.bool (b != neg)) w:=by
 cases X with
 |agg vs U Z W=>
 cases Y with
 |agg l J V K=>
 unfold Tbl.flat at e;split at e;rename_i R S;split at e;rename_i B;have i:T.P.fieldsOf t=R:=by simp[Program.fieldsOf,S]
 have he:=UL (w:=w) 9998 vs l R.toList M 0 xs ys b e hb (λj q u a c=>W j q u a (by simpa using c)) (λj q u a c=>K j q u a (by simpa using c)) (by simpa using U) (by simpa using J);have A:=run_equalIn_struct w 9999 t vs l (by rw[i];exact S) B.1;rw[i,he]at A;cases neg;simp[run_eqGuard_agg w .eql t N O vs l B.2,run_eql_struct,A];simp[run_eqGuard_agg w .neq t N O vs l B.2,run_neq_struct,A];cases e;cases e
end
open Go Go.RowKit
def rB(E:Env)(cs:V_)(vs:Array Value):Prop:=
 vs.size=Z' cs/\(∀v∈vs.toList,v.oneCell'=true)/\∀(j:Nat) pv v,cs[j]?=some pv->vs[j]?=some v->bH E pv v
def jy(vs:Array Value)(c:Nat):List Value->Array Value
 |[]=>vs
 |u::e=>jy (vs.setIfInBounds c u) (c+1) e
theorem RG(off:Nat):∀(e:List Value)(k:Nat)(vs:Array Value),(e.zipIdx k).foldl (λcs (x:Value × Nat)=>cs.setIfInBounds (off+x.2) x.1) vs=jy vs (off+k) e
 |[],_,_=>rfl
 |u::e,k,vs=>by simp only[List.zipIdx_cons,List.foldl_cons,jy];rw[RG off e (k+1)];rfl
theorem JB:∀(ps:V_)(c:Nat)(r:V_),(setCells r c ps).length=Z' r
 |[],_,_=>rfl
 |p::ps,c,r=>by simp[setCells,JB ps]
theorem rB.asA{E:Env}{cs:V_}{vs:Array Value}(h:rB E cs vs){c:Nat}{p:PV}{u:Value}(r:bH E p u)(l:u.oneCell'=true):rB E (cs.set c p) (vs.setIfInBounds c u):=by
 obtain⟨x,y,A⟩:=h;refine⟨by simp[x],λv i=>?_,λj pv v hp i=>?_⟩;simp only[Array.toList_setIfInBounds]at i;rcases azJ i with i|rfl
 exact y v i;exact l;rw[ayZ]at hp;rw[Array.getElem?_setIfInBounds]at i;split at hp;rename_i e;subst e;rw[aF rfl]at i;split at hp;rename_i B;rw[aF Om]at i;cases hp;cases i;exact r;cases hp;rename_i e;rw[aC e]at i;exact A j pv v hp i
theorem rB.setCells{E:Env}:∀(ps:V_)(e:List Value)(c:Nat)(cs:V_)(vs:Array Value),rB E cs vs->Z' e=Z' ps->(∀u∈e,u.oneCell'=true) ->
  (∀(j:Nat) p u,ps[j]?=some p->e[j]?=some u->bH E p u)->rB E (setCells cs c ps) (jy vs c e)
 |[],[],_,_,_,h,_,_,_=>h
 |p::ps,u::e,c,cs,vs,h,i,l,y=>by simp only[PM.setCells,jy];exact rB.setCells ps e (c+1) _ _ (h.asA (y 0 p u rfl rfl) (l u aZ)) (by simpa using i) (λx A=>l x (by simp[A])) (λj q x a b=>y (j+1) q x (by simpa using a) (by simpa using b))
 |[],u::e,_,_,_,_,i,_,_=>by simp at i
 |p::ps,[],_,_,_,_,i,_,_=>by simp at i
theorem VS{E:Env}:∀{vs:List Value}{ps:V_},ofValues vs=some ps->Z' ps=Z' vs/\∀(j:Nat) p v,ps[j]?=some p->vs[j]?=some v->bH E p v
 |[],ps,h=>by simp[ofValues]at h;subst h;simp
 |v::vs,ps,h=>by
  simp only[ofValues]at h;split at h
  ·rename_i p l hp hq;cases h;obtain⟨e,i⟩:=VS (E:=E) hq;refine⟨by simp[e],λj q u a b=>?_⟩;cases j with
   |zero=>simp at a b;subst a;subst b;exact BQ hp
   |succ j=>exact i j q u (by simpa using a) (by simpa using b)
  cases h
theorem VR:∀{vs:List Value}{ps:V_},ofValues vs=some ps->∀v∈vs,v.oneCell'=true
 |[],_,_,v,hv=>by simp at hv
 |u::vs,ps,h,v,hv=>by
  simp only[ofValues]at h;split at h;rename_i p e hp hq;rcases avL.1 hv with rfl|hv
  unfold ofValue at hp;split at hp<;>first|rfl|cases hp
  exact VR hq v hv;cases h
section
variable {ds:List Deferred} {T:Tbl} {n:Nat} {E:Env} {F:PF} {H:PH} {a:Act} {w:World}
theorem SM{t:TypeId}{z:V_}(h:T.zero t=some z):∃i e,T.P.info? t=some i/\i.zero=some e/\rB E z e.cells:=by
 unfold Tbl.zero at h;cases hi:T.P.info? t with
 |none=>simp[hi]at h
 |some i=>
  cases l:i.zero with
  |none=>simp[hi,l]at h
  |some e =>simp only[hi,l,ayV]at h;obtain⟨u,x⟩:=VS (E:=E) h;exact⟨i,e,rfl,l,by simpa using u.symm,VR h,λj p v a b=>x j p v a (by simpa using b)⟩
theorem OB{place:Nat->Option (Nat × Nat)}(K:eS ds n E F a)(M:E.num=T.num):∀(parts:List (Nat × Operand)) (pl:List (Nat × Nat × aR)) (cs out:V_) (vs:Array Value),
  T.partsOf place parts=some pl->qC cs F pl=some out->rB E cs vs->∃A,Instr.fill place vs (parts.map λ(i,x)=>(i,a.eval x))=some A/\rB E out A
 |[],pl,cs,out,vs,l,e,y=>by simp[Tbl.partsOf]at l;subst l;simp[qC]at e;subst e;exact⟨vs,rfl,y⟩
 |(i,x)::rest,pl,cs,out,vs,l,e,y=>by
  simp only[Tbl.partsOf]at l;split at l;rename_i off size p ps hp V B;cases l;simp only[qC]at e;split at e;rename_i v U;split at e;rename_i R;obtain⟨J,N,O⟩:=CC (bQ V U K M) R.2.2;obtain⟨A,g1,g2⟩:=OB K M rest ps _ out _ B e (rB.setCells v.cells (a.eval x).cells.toList off cs vs y (by simpa using J) N (λj q u hq S=>O j q u hq (by simpa using S)));refine⟨A,?_,g2⟩;simp only[awE,Instr.fill,hp];rw[aC (by simp;rw[J,y.1];omega)];have W:Array.foldl (λ(cs:Array Value)(x:Value × Nat)=>cs.setIfInBounds (off+x.2) x.1) vs (a.eval x).cells.zipIdx=jy vs off (a.eval x).cells.toList:=by rw[<-Array.foldl_toList,Array.toList_zipIdx];exact RG off _ 0 vs
  exact W ▸ g1;cases e;cases e;cases l
theorem G8(u:Array Field)(e:List (Nat × Nat))(h:u.toList.mapM (λf=>(T.P.info? f.type).map λi=>(f.offset,i.size))=some e)(i:Nat) :
  e[i]?=T.place u i:=by
 have x:∀(l:List Field)(ps:List (Nat × Nat)) (i:Nat),l.mapM (λf=>(T.P.info? f.type).map λi=>(f.offset,i.size))=some ps ->
   ps[i]?=match l[i]? with|some f=>(T.size f.type).map (f.offset,·)|none=>none:=by
  intro l
  induction l with
  |nil=>intro ps i h;simp at h;subst h;simp
  |cons f l y=>
   intro ps i h;simp only[List.mapM_cons,Option.bind_eq_bind,Option.pure_def,azD]at h;obtain⟨p,hp,A,hq,h⟩:=h;cases h;cases i with
   |zero =>simp only[List.getElem?_cons_zero,Tbl.size];rw[<-hp];cases T.P.info? f.type<;>rfl
   |succ i=>simpa using y A i hq
 have:=x u.toList e i h;rw[this,Array.getElem?_toList];unfold Tbl.place;cases u[i]?<;>rfl
end
open Go Go.RowKit
section
variable {ds:List Deferred} {T:Tbl} {n:Nat} {E:Env} {F:PF} {H:PH} {a:Act} {w:World}
theorem ZX{t:TypeId}{parts:Array (Nat × Operand)}{z:V_}{pl:List (Nat × Nat × aR)}{out:V_}(Z:T.zero t=some z)
  (hp:(∃J:Array Field,T.P.underlying t=some (.struct J)/\(J.toList.mapM (λf=>(T.P.info? f.type).map λi=>(f.offset,i.size))).isSome=true/\T.partsOf (T.place J) parts.toList=some pl) \/
   (∃k e s,T.P.underlying t=some (.array k e)/\T.size e=some s/\T.partsOf (λi=>some (i*s,s)) parts.toList=some pl))
  (X:qC z F pl=some out) (V:eS ds n E F a) (W:E.num=T.num) :
  ∃v,(Instr.build t (parts.map λ(i,x)=>(i,a.eval x))).run T.P w=.ok v w/\bH E (.agg out) v:=by
 obtain⟨it,zv,K,M,O⟩:=SM (E:=E) Z;rcases hp with⟨J,U,Y,A⟩|⟨k,e,s,U,hs,A⟩
 obtain⟨l,N⟩:=Option.isSome_iff_exists.1 Y;obtain⟨B,R,u⟩:=OB V W _ _ _ _ _ A X O;refine⟨.agg B,run_build w t _ B ?_,.agg B u.1 u.2.1 u.2.2⟩;simp only[Program.built,K,U,M,N];have S:(λ(x:Nat)=>l.toArray[x]?)=T.place J:=by funext i;rw[List.getElem?_toArray];exact G8 J l N i
 simp only[Array.toList_map];rw[S];exact R
 ·obtain⟨B,R,u⟩:=OB V W _ _ _ _ _ A X O;refine⟨.agg B,run_build w t _ B ?_,.agg B u.1 u.2.1 u.2.2⟩;unfold Tbl.size at hs;cases y:T.P.info? e with
  |none=>simp[y]at hs
  |some ie =>simp[y]at hs;subst hs;simp only[Program.built,K,U,M,y,Array.toList_map];exact R
theorem Ae{t:TypeId}{s:Nat}(h:T.size t=some s):∃i,T.P.info? t=some i/\i.size=s:=by
 unfold Tbl.size at h;cases hi:T.P.info? t with
 |none=>simp[hi]at h
 |some i=>exact⟨i,rfl,by simpa[hi]using h⟩
theorem lW{t:TypeId}{s:Nat}(h:T.size t=some s):(sizeOf t).run T.P w=.ok s w:=by
 obtain⟨i,hi,rfl⟩:=Ae h;simp[sizeOf,typeInfo,hi]
theorem EU{t:TypeId}{b:Bool}(h:T.isAgg t=some b):(isAgg t).run T.P w=.ok b w:=by
 unfold Tbl.isAgg at h;split at h;rename_i e;cases h;simp[isAgg,run_underlying e];rename_i e;cases h;simp[isAgg,run_underlying e];rename_i d i l e;cases h;cases d<;>first
  |exact(i _ rfl).elim
  |exact(l _ _ rfl).elim
  |(simp[isAgg,run_underlying e];done)
 cases h
theorem pu{t:TypeId}{pv e:PV}{v:Value}(y:T.isAgg t=some false)(hW:bY E H w)(A:bH E pv v)(h:loadCells H pv 1=some [e]) :
  ∃u,(Instr.loadAt t v).run T.P w=.ok u w/\bH E e u:=by
 obtain⟨b,off,rfl,-,B,l,J,i,x⟩:=tX hW A h
 match B,l with
 |[u],_ =>refine⟨u,?_,x 0 e u rfl rfl⟩;have:=i 0 u rfl;simp only[awQ]at this;simp[Instr.loadAt,Instr.sureAddr,loadVar,EU y,this]
theorem bu{t:TypeId}{k:Nat}{pv:PV}{cs:V_}{v:Value}(M:T.isAgg t=some true)(K:T.size t=some k)(hW:bY E H w)(N:bH E pv v)(h:loadCells H pv k=some cs) :
  ∃u,(Instr.loadAt t v).run T.P w=.ok u w/\bH E (.agg cs) u:=by
 obtain⟨b,off,rfl,i,x,y,A,B,J⟩:=tX hW N h;have e:=run_loadCells_list (P:=T.P) w ⟨b,off,none⟩ x (λj u l=>by rw[add_plain];exact B j u l);refine⟨.agg x.toArray,?_,.agg x.toArray (by simp[y,i]) (by simpa using A) (λj q u hq l=>J j q u hq (by simpa using l))⟩;rw[y]at e;simp[Instr.loadAt,Instr.sureAddr,loadVar,EU M,lW K,e]
end
open Go Go.RowKit
section
variable {ds:List Deferred} {T:Tbl} {n:Nat} {E:Env} {F:PF} {H:PH} {a:Act} {w:World}
theorem mw{t e:TypeId}(h:T.P.underlying t=some (.slice e)):T.P.elem t=e/\T.P.underlying t=some (.slice (T.P.elem t)):=by
 have:T.P.elem t=e:=by simp[Program.elem,h]
 exact⟨this,by rw[this];exact h⟩
theorem Nu{t e:TypeId}{k:Nat}(h:T.P.underlying t=some (.array k e)):T.P.elem t=e/\T.P.arrayLen t=k/\T.P.underlying t=some (.array (T.P.arrayLen t) (T.P.elem t)):=by
 have i:T.P.elem t=e:=by simp[Program.elem,h]
 have l:T.P.arrayLen t=k:=by simp[Program.arrayLen,h]
 exact⟨i,l,by rw[i,l];exact h⟩
theorem z8{cs:V_}{b off:Nat}(h:bH E (.aX cs) (.pointer (some ⟨b,off,none⟩)))(d:Nat):bH E (.aX (cs.drop d)) (.pointer (some ⟨b,off+d,none⟩)):=by
 cases h with
 |aX u x i e l =>refine .aX (λj=>u (d+j)) rfl (λj pv hp=>?_) (λj=>e _) (λj pv hp=>l (d+j) pv (by rw[<-hp,ayR]));have:=i (d+j) pv (by rw[<-hp,ayR]);simp only at this ⊢;rw[<-this];congr 1;omega
theorem WF{cs:V_}{v:Value}(h:bH E (.aX cs) v):∃b off,v=.pointer (some ⟨b,off,none⟩):=by
 cases h with
 |aX u e x l y=>rename_i i;exact⟨i.block,i.off,by rw[<-sA e]⟩
theorem afO{t e:TypeId}{s:Nat}{rows:P2_}{v:Value}{k:IntKind}{i:Int}{r:V_}(W:T.P.underlying t=some (.slice e))(V:T.size e=some s)
  (X:bH E (.sl s rows) v) (M:0<=i) (x:rows[i.toNat]?=some r):∃u,(Instr.indexAt t v (.int k i)).run T.P w=.ok u w/\bH E (.aX r) u:=by
 obtain⟨N,O⟩:=mw W;cases X with
 |sl u B J K R U l=>
 rename_i Y cap;have hlt:i.toNat<Z' rows:=by
  rcases avX i.toNat rows.length with h|h
  exact h;rw[awN h]at x;cases x
 obtain⟨A,rfl,y,S⟩:=R (by intro h;subst h;simp at hlt);rw[sA y];refine⟨.pointer (some ⟨A.block,A.off+i.toNat*s,none⟩),?_,?_⟩;rw[run_indexAt_slice w t _ _ _ _ _ O,aF ⟨M,by omega⟩,N,lW V,Result.andThen_ok,add_plain];refine .aX (u i.toNat) rfl (λj pv hp=>?_) (λj=>U _ _) (λj pv hp=>l i.toNat j pv (by simp[at2,x,hp]));simpa using S i.toNat j pv (by simp[at2,x,hp])
theorem Yr{t e:TypeId}{o s off len:Nat}{v:Value}{k:IntKind}{i:Int}(U:T.P.underlying t=some (.slice e))(R:T.size e=some s)
  (V:bH E (.osl o s off len) v) (M:0<=i) (hi:i<len):∃u,(Instr.indexAt t v (.int k i)).run T.P w=.ok u w/\bH E (.ptr o s (off+i.toNat) 0) u:=by
 obtain⟨N,O⟩:=mw U;cases V with
 |osl hb S l J K W B=>
 rename_i cap m x;have A:x.off=off*s:=by
  rcases l with h|h
  omega;exact h
 have y:x=⟨o,off*s,none⟩:=by cases x;simp_all
 subst y;refine⟨_,?_,.ptr o s _ 0⟩;rw[run_indexAt_slice w t _ _ _ _ _ O,aF ⟨M,hi⟩,N,lW R,Result.andThen_ok,add_plain,<-awO,awQ]
theorem oz{t e:TypeId}{k s:Nat}{v:Value}{O:IntKind}{i:Int}{y pv:PV}(N:T.P.underlying t=some (.array k e))(M:T.size e=some s)
  (x:bH E y v) (A:0<=i) (hi:i<k) (l:(∃o s0 r c,y=.ptr o s0 r c/\pv=.ptr o s0 r (c+i.toNat*s))\/(∃cs,y=.aX cs/\pv=.aX (cs.drop (i.toNat*s)))) :
  ∃u,(Instr.indexAt t v (.int O i)).run T.P w=.ok u w/\bH E pv u:=by
 obtain⟨B,J,K⟩:=Nu N;rcases l with⟨o,s0,r,c,rfl,rfl⟩|⟨cs,rfl,rfl⟩
 cases x;refine⟨_,?_,.ptr o s0 r _⟩;rw[run_indexAt_array w t _ _ _ K,J,aF ⟨A,hi⟩,B,lW M,Result.andThen_ok,add_plain,axL];obtain⟨b,off,rfl⟩:=WF x;refine⟨_,?_,z8 x _⟩;rw[run_indexAt_array w t _ _ _ K,J,aF ⟨A,hi⟩,B,lW M,Result.andThen_ok,add_plain]
theorem UN{t:TypeId}{y:Array Field}{f:Nat}{e:Field}{s:Nat}{v:Value}{x pv:PV}(J:T.P.underlying t=some (.struct y))(A:y[f]?=some e)(B:T.size e.type=some (s+1))
  (l:bH E x v) (i:(∃o s0 r c,x=.ptr o s0 r c/\pv=.ptr o s0 r (c+e.offset))\/(∃cs,x=.aX cs/\pv=.aX (cs.drop e.offset))) :
  ∃u,(Instr.fieldAt t v f).run T.P w=.ok u w/\bH E pv u:=by
 rcases i with⟨o,s0,r,c,rfl,rfl⟩|⟨cs,rfl,rfl⟩
 cases l;refine⟨_,?_,.ptr o s0 r _⟩;simp[Instr.fieldAt,run_underlying J,A,Instr.sureAddr,fieldPlace,lW B,add_plain,axL];obtain⟨b,off,rfl⟩:=WF l;refine⟨_,?_,z8 l _⟩;simp[Instr.fieldAt,run_underlying J,A,Instr.sureAddr,fieldPlace,lW B,add_plain]
theorem G6{t:TypeId}{cs:Array Value}{k:Nat}{u:Value}(e:T.isAgg t=some false)(h:cs[k]?=some u):(part t cs k).run T.P w=.ok u w:=by
 simp[part,EU e,h]
theorem zf{t:TypeId}{cs:Array Value}{k s:Nat}(i:T.isAgg t=some true)(e:T.size t=some s):(part t cs k).run T.P w=.ok (.agg (cs.extract k (k+s))) w:=by
 simp[part,EU i,lW e]
theorem Dm{cs:V_}{vs:Array Value}{k:Nat}{pv:PV}(i:vs.size=Z' cs)(e:∀(j:Nat) pv v,cs[j]?=some pv->vs[j]?=some v->bH E pv v)(h:cs[k]?=some pv) :
  ∃u,vs[k]?=some u/\bH E pv u:=by
 have hlt:k<Z' cs:=by
  rcases avX k cs.length with h'|h'
  exact h';rw[awN h']at h;cases h
 exact⟨vs[k]'Om,ayW Om,e k pv _ h (ayW Om)⟩
theorem Dn{cs:V_}{vs:Array Value}{k s:Nat}(x:vs.size=Z' cs)(i:∀v∈vs.toList,v.oneCell'=true)(l:∀(j:Nat) pv v,cs[j]?=some pv->vs[j]?=some v->bH E pv v)(h:k+s<=Z' cs) :
  bH E (.agg ((cs.drop k).take s)) (.agg (vs.extract k (k+s))):=by
 refine .agg _ (by simp;omega) (λv e=>i v ?_) (λj pv v hp e=>?_);simp only[Array.toList_extract]at e;exact List.mem_of_mem_drop (List.mem_of_mem_take e);rw[ayS]at hp;split at hp;rename_i u;rw[ayR]at hp;refine l (k+j) pv v hp ?_;rw[Array.getElem?_extract]at e;split at e;exact e;cases e;cases hp
theorem Sw{t:TypeId}{l:Array Field}{f:Nat}{e:Field}{cs:V_}{v:Value}{pv:PV}(J:T.P.underlying t=some (.struct l))(x:l[f]?=some e)(y:T.isAgg e.type=some false)
  (M:bH E (.agg cs) v) (h:cs[e.offset]?=some pv):∃u,(Instr.field t v f).run T.P w=.ok u w/\bH E pv u:=by
 cases M with
 |agg vs A N B=>
 obtain⟨u,K,i⟩:=Dm A B h;exact⟨u,by simp[Instr.field,run_underlying J,x,asAgg,G6 y K],i⟩
theorem Nx{t:TypeId}{i:Array Field}{f:Nat}{e:Field}{cs:V_}{s:Nat}{v:Value}(K:T.P.underlying t=some (.struct i))(x:i[f]?=some e)(y:T.isAgg e.type=some true)(J:T.size e.type=some s)
  (M:bH E (.agg cs) v) (h:e.offset+s<=Z' cs):∃u,(Instr.field t v f).run T.P w=.ok u w/\bH E (.agg ((cs.drop e.offset).take s)) u:=by
 cases M with
 |agg vs A l B=>exact⟨_,by simp[Instr.field,run_underlying K,x,asAgg,zf y J],Dn A l B h⟩
theorem On{t e:TypeId}{k s:Nat}{g:Bool}{cs:V_}{v:Value}{S:IntKind}{i:Int}{pv:PV}(M:T.P.underlying t=some (.array k e))(y:T.size e=some s)(B:T.isAgg e=some g)
  (R:bH E (.agg cs) v) (A:0<=i) (hi:i<k) (h:(if g then(if i.toNat*s+s<=cs.length then some (.agg ((cs.drop (i.toNat*s)).take s))else none)else cs[i.toNat*s]?)=some pv) :
  ∃u,(Instr.index t v (.int S i)).run T.P w=.ok u w/\bH E pv u:=by
 cases R with
 |agg vs J N K=>
 cases g with
 |true =>simp only[if_true]at h;split at h;rename_i l;cases h;exact⟨_,by simp[Instr.index,asIntOf,run_underlying M,A,hi,lW y,zf B y],Dn J N K l⟩;cases h
 |false =>simp only[axH,if_false]at h;obtain⟨u,O,x⟩:=Dm J K h;exact⟨u,by simp[Instr.index,asIntOf,run_underlying M,A,hi,lW y,G6 B O],x⟩
theorem E0{t:TypeId}{l:List UInt8}{v:Value}{J:IntKind}{i:Int}{pv:PV}(A:T.P.underlying t=some .string)(B:bH E (.str l) v)(y:0<=i)(h:(l[i.toNat]?).map (λb=>PV.int .u8 b.toNat)=some pv) :
  ∃u,(Instr.index t v (.int J i)).run T.P w=.ok u w/\bH E pv u:=by
 cases B with
 |str s=>
 simp only[avM]at h;obtain⟨b,hb,rfl⟩:=h;have e:s[i.toNat]?=some b:=by
  have hlt:i.toNat<Z' s.data.toList:=by
   rcases avX i.toNat s.data.toList.length with h'|h'
   exact h';rw[awN h']at hb;cases hb
  have x:i.toNat<s.size:=by
   have K:Z' s.data.toList=s.size:=by rw[ayI];rfl
   omega
  rw[getElem?_pos s i.toNat x];rw[avF hlt]at hb;cases hb;rfl
 exact⟨_,by simp[Instr.index,asIntOf,run_underlying A,y,e],.int _ _⟩
theorem TS{x:Option Operand}{p:Option aR}{d m:Int}(e:T.opt x=some p)(h:bnd F d p=some m)(l:eS ds n E F a)(u:E.num=T.num) :
  (x=none/\m=d)\/∃o k,x=some o/\a.eval o=.int k m:=by
 cases x with
 |none =>simp[Tbl.opt]at e;subst e;simp[bnd]at h;exact .inl ⟨rfl,h.symm⟩
 |some o =>simp only[Tbl.opt,avM]at e;obtain⟨q,hq,rfl⟩:=e;simp only[bnd,azD]at h;obtain⟨pv,hp,hi⟩:=h;have r:=bQ hq hp l u;unfold PV.intOf at hi;split at hi;cases hi;generalize i:a.eval o=ev at r;cases r;exact .inr ⟨o,_,rfl,i⟩;cases hi
theorem oF{isS:Bool}{lo hi mx:Option Operand}{pl ph pm:Option aR}{len cap:Nat}{l h:Int}(S:T.opt lo=some pl)(R:T.opt hi=some ph)(e:T.opt mx=some pm)
  (N:bnd F 0 pl=some l) (M:bnd F len ph=some h) (K:len<=cap) (U:0<=l) (V:l<=h) (W:h<=len) (y:pm=none\/(hi≠none/\bnd F 0 pm=some h)) (i:eS ds n E F a) (u:E.num=T.num) :
  ∃m,(Instr.sliceBounds isS len cap (lo.map a.eval) (hi.map a.eval) (mx.map a.eval)).run T.P w=.ok (l.toNat,h.toNat,m) w/\h.toNat<=m/\m<=cap:=by
 have J:=TS S N i u;have B:=TS R M i u;rcases y with rfl|⟨hne,bm⟩
 have A:mx=none:=by
  cases mx with
  |none=>rfl
  |some x =>simp only[Tbl.opt,avM]at e;obtain⟨q,-,hq⟩:=e;cases hq
 subst A;refine⟨cap,?_,by omega,avD _⟩;rcases J with⟨rfl,rfl⟩|⟨ol,k1,rfl,e1⟩<;>rcases B with⟨rfl,rfl⟩|⟨oh,k2,rfl,e2⟩
 simp[Instr.sliceBounds];simp only[Instr.sliceBounds,Option.map_none,avS,e2,Sem.run_bind,Sem.run_pure,Result.andThen_ok,run_sliceBound w k2 h cap _ Om Om];rfl;simp only[Instr.sliceBounds,Option.map_none,avS,e1,Sem.run_bind,Sem.run_pure,Result.andThen_ok,run_sliceBound w k1 l len _ Om Om];simp;simp only[Instr.sliceBounds,Option.map_none,avS,e1,e2,Sem.run_bind,Sem.run_pure,Result.andThen_ok,run_sliceBound w k2 h cap _ Om Om,run_sliceBound w k1 l h.toNat _ Om Om];have km:=TS e bm i u;rcases km with⟨rfl,O⟩|⟨om,k3,rfl,e3⟩
 simp[Tbl.opt]at e;subst e;refine⟨cap,?_,by omega,avD _⟩;rcases B with⟨rfl,rfl⟩|⟨oh,k2,rfl,e2⟩
 exact absurd rfl hne;rcases J with⟨rfl,rfl⟩|⟨ol,k1,rfl,e1⟩
 simp only[Instr.sliceBounds,Option.map_none,avS,e2,Sem.run_bind,Sem.run_pure,Result.andThen_ok,run_sliceBound w k2 h cap _ Om Om];rfl;simp only[Instr.sliceBounds,Option.map_none,avS,e1,e2,Sem.run_bind,Sem.run_pure,Result.andThen_ok,run_sliceBound w k2 h cap _ Om Om,run_sliceBound w k1 l h.toNat _ Om Om];rcases B with⟨rfl,rfl⟩|⟨oh,k2,rfl,e2⟩
 exact absurd rfl hne;refine⟨h.toNat,?_,avD _,by omega⟩;rcases J with⟨rfl,rfl⟩|⟨ol,k1,rfl,e1⟩
 simp only[Instr.sliceBounds,Option.map_none,avS,e2,e3,Sem.run_bind,Sem.run_pure,Result.andThen_ok,run_sliceBound w k3 h cap _ Om Om,run_sliceBound w k2 h h.toNat _ Om Om];rfl;simp only[Instr.sliceBounds,Option.map_none,avS,e1,e2,e3,Sem.run_bind,Sem.run_pure,Result.andThen_ok,run_sliceBound w k3 h cap _ Om Om,run_sliceBound w k2 h h.toNat _ Om Om,run_sliceBound w k1 l h.toNat _ Om Om]
end
open Go Go.RowKit
section
variable {ds:List Deferred} {T:Tbl} {n:Nat} {E:Env} {F:PF} {H:PH} {a:Act} {w:World}
theorem Ks{rows:P2_}{l h i j:Nat}{pv:PV}(e:at2 ((rows.take h).drop l) i j=some pv):at2 rows (l+i) j=some pv:=by
 unfold at2 at *
 rw[ayR,ayS]at e;split at e;exact e;simp at e
theorem AX{t e:TypeId}{s l h m len cap:Nat}{i:Option Addr}{lo hi mx:Option Value}(x:T.P.underlying t=some (.slice e))(u:T.size e=some s)
  (hb:(Instr.sliceBounds true len cap lo hi mx).run T.P w=.ok (l,h,m) w) :
  (Instr.sliceAt t (.slice i len cap) lo hi mx).run T.P w=.ok (.slice (if m=l then i else i.map (·.add (l*s))) (h-l) (m-l)) w:=by
 simp[Instr.sliceAt,Instr.slice,run_underlying x,hb,lW u]
theorem KU {t e : TypeId} {s : Nat} {x : Value} {lo hi mx : Option Operand} {pl ph pm : Option aR} {len : Nat} {l h : Int} {px pv : PV} (ht : T.P.underlying t = some (.slice e)) (hs : T.size e = some s)
    (hl : T.opt lo = some pl) (hh : T.opt hi = some ph) (hm : T.opt mx = some pm) (hx : bH E px x) (bl : bnd F 0 pl = some l) (bh : bnd F len ph = some h)
    (hlen : (px = .aJ /\ len = 0) \/ (∃ s0 rows, px = .sl s0 rows /\ len = rows.length) \/ (∃ o s0 off, px = .osl o s0 off len))
    (hpv : (pm = none /\ PV.slice s px l h none = some pv) \/ (hi ≠ none /\ ∃ m, bnd F 0 pm = some m /\ PV.slice s px l h (some m) = some pv)) (hA : eS ds n E F a) (hN : E.num = T.num) :
    ∃ v, (Instr.sliceAt t x (lo.map a.eval) (hi.map a.eval) (mx.map a.eval)).run T.P w = .ok v w /\ bH E pv v := by
  have hP : ∃ m0, PV.slice s px l h m0 = some pv /\ (m0 = none -> pm = none) /\ ∀ m, m0 = some m -> hi ≠ none /\ bnd F 0 pm = some m := by
    rcases hpv with ⟨h1, h2⟩ | ⟨h1, m, h2, h3⟩
    · exact ⟨none, h2, fun _ => h1, fun m hm => by cases hm⟩
    · exact ⟨some m, h3, fun h => (by cases h), fun m' hm' => by cases hm'; exact ⟨h1, h2⟩⟩
  obtain ⟨m0, hP, hn, hsm⟩ := hP;rcases hlen with ⟨rfl, rfl⟩ | ⟨s0, rows, rfl, rfl⟩ | ⟨o, s0, off, rfl⟩
  · simp only [PV.slice] at hP
    split at hP
    · rename_i hc
      cases hP;obtain ⟨rfl, rfl, hm0⟩ := hc;cases hx;obtain ⟨m, hb, hm1, hm2⟩ := oF (T := T) (E := E) (w := w) (isS := true) (len := 0) (cap := 0) hl hh hm bl bh (avD _) Om Om Om
        (by rcases hm0 with rfl | rfl
            · exact .inl (hn rfl)
            · exact .inr (hsm 0 rfl)) hA hN
      have hmz : m = 0 := Om;subst hmz;refine ⟨_, AX ht hs hb, ?_⟩;simp;exact .aJ
    · cases hP
  · simp only [PV.slice] at hP
    split at hP
    · rename_i hc
      cases hP;obtain ⟨rfl, h0, h1, h2, hm0⟩ := hc;cases hx with
      | sl u hcap auQ atV ha ho auS =>
      rename_i a0 cap;obtain ⟨m, hb, hm1, hm2⟩ := oF (T := T) (E := E) (w := w) (isS := true) (len := rows.length) (cap := cap) hl hh hm bl bh hcap h0 h1 h2
        (by rcases hm0 with rfl | rfl
            · exact .inl (hn rfl)
            · exact .inr (hsm h rfl)) hA hN
      refine ⟨_, AX ht hs hb, ?_⟩;have hlen : ((rows.take h.toNat).drop l.toNat).length = h.toNat - l.toNat := by rw [awZ, avN]; omega
      rw [<- hlen];refine .sl (fun i j => u (l.toNat + i) j) (by rw [hlen]; omega) Om (fun r hr => atV r (List.mem_of_mem_take (List.mem_of_mem_drop hr))) (fun hne => ?_) (fun i j => ho _ _) (fun i j pv hp => auS _ _ pv (Ks hp));have hpos : 0 < ((rows.take h.toNat).drop l.toNat).length := List.length_pos_iff.2 hne;rw [hlen] at hpos;obtain ⟨ad, rfl, hsp, hc⟩ := ha (by intro e; subst e; simp at h2; omega);rw [aC Om];refine ⟨⟨ad.block, ad.off + l.toNat * s0, none⟩, ?_, rfl, fun i j pv hp => ?_⟩
      · rw [avS, sA hsp, add_plain]
      · have := hc (l.toNat + i) j pv (Ks hp)
        show E.cell ad.block (ad.off + l.toNat * s0 + i * s0 + j) = _;rw [<- this];congr 1;rw [awO]; omega
    · cases hP
  · simp only [PV.slice] at hP
    split at hP
    · rename_i hc
      cases hP;obtain ⟨rfl, h0, h1, h2, hm0⟩ := hc;cases hx with
      | osl hb0 hsp auT hlen auQ hnn auJ =>
      rename_i cap N ad;obtain ⟨m, hb, hm1, hm2⟩ := oF (T := T) (E := E) (w := w) (isS := true) (len := len) (cap := cap) hl hh hm bl bh hlen h0 h1 h2
        (by rcases hm0 with rfl | rfl
            · exact .inl (hn rfl)
            · exact .inr (hsm h rfl)) hA hN
      refine ⟨_, AX ht hs hb, ?_⟩;by_cases hml : m = l.toNat
      · rw [aF hml]
        have e1 : h.toNat - l.toNat = 0 := Om;have e2 : m - l.toNat = 0 := Om;rw [e1, e2];refine .osl hb0 hsp (.inl rfl) (avD _) (by simp [maxLen]) hnn ?_;have : (off + l.toNat) * s0 <= off * s0 + cap * s0 := by rw [awO]; exact Nat.add_le_add_left (awI _ Om) _
        omega
      · rw [aC hml, avS, sA hsp, add_plain]
        refine .osl hb0 rfl ?_ Om Om hnn ?_
        · rcases auT with h | h
          · exact .inl Om
          · exact .inr (by simp only [h, awO])
        · have : (off + l.toNat) * s0 + (m - l.toNat) * s0 <= off * s0 + cap * s0 := by rw [<- awO, <- awO];exact awI _ Om
          omega
    · cases hP
theorem xe{t:TypeId}{x:Value}{lo hi:Option Operand}{pl ph:Option aR}{str:List UInt8}{l h:Int}(U:T.P.underlying t=some .string)
  (O:T.opt lo=some pl) (N:T.opt hi=some ph) (V:bH E (.str str) x) (A:bnd F 0 pl=some l) (u:bnd F str.length ph=some h) (B:0<=l) (J:l<=h) (y:h<=Z' str)
  (K:eS ds n E F a) (M:E.num=T.num) :
  ∃v,(Instr.sliceAt t x (lo.map a.eval) (hi.map a.eval) none).run T.P w=.ok v w/\bH E (.str ((str.take h.toNat).drop l.toNat)) v:=by
 cases V with
 |str s=>
 have i:Z' s.data.toList=s.size:=by rw[ayI];rfl
 rw[i]at u y;obtain⟨m,hb,R,S⟩:=oF (T:=T) (E:=E) (w:=w) (isS:=false) (len:=s.size) (cap:=s.size) (mx:=none) (pm:=none) O N rfl A u (avD _) B J y (.inl rfl) K M;simp only[Option.map_none]at hb;refine⟨.string (s.extract l.toNat h.toNat),?_,?_⟩;simp[Instr.sliceAt,Instr.slice,run_underlying U,hb];have e:(s.data.toList.take h.toNat).drop l.toNat=(s.extract l.toNat h.toNat).data.toList:=by rw[Lib.extract_data,List.drop_take]
 rw[e];exact .str _
theorem mh(s:Nat):∀(n:Nat)(cs:V_),(chunks s n cs).length=n
 |0,_=>rfl
 |n+1,cs=>by simp[chunks,mh s n]
theorem mi{s:Nat}:∀{n:Nat}{cs:V_},n*s<=Z' cs->∀r∈chunks s n cs,Z' r=s
 |0,_,_,r,hr=>by simp[chunks]at hr
 |n+1,cs,h,r,hr=>by
  rw[awO,Nat.one_mul]at h;simp only[chunks,avL]at hr;rcases hr with rfl|hr
  rw[avN];omega;exact mi (by rw[awZ];omega) r hr
theorem UA{s:Nat}:∀{n:Nat}{cs:V_}{i j:Nat}{pv:PV},at2 (chunks s n cs) i j=some pv->cs[i*s+j]?=some pv
 |0,_,i,j,pv,h=>by simp[chunks,at2]at h
 |n+1,cs,0,j,pv,h=>by simp only[chunks,at2,List.getElem?_cons_zero,ayV,ayS]at h;split at h;rw[Nat.zero_mul,avK];exact h;cases h
 |n+1,cs,i+1,j,pv,h=>by have:=UA (n:=n) (cs:=cs.drop s) (i:=i) (j:=j) (pv:=pv) (by simpa[chunks,at2]using h);rw[ayR]at this;rw[<-this];congr 1;rw[awO];omega
theorem Hz{t e:TypeId}{k s:Nat}{v:Value}{cs:V_}(Y:T.P.underlying t=some (.array k e))(X:T.size e=some s)(Z:bH E (.aX cs) v)(R:k*s<=Z' cs)(S:k<=maxLen)(N:eS ds n E F a)(O:E.num=T.num) :
  ∃u,(Instr.sliceAt t v none none none).run T.P w=.ok u w/\bH E (.sl s (chunks s k cs)) u:=by
 obtain⟨m,hb,U,V⟩:=oF (T:=T) (E:=E) (w:=w) (F:=F) (a:=a) (n:=n) (isS:=false) (len:=k) (cap:=k) (lo:=none) (hi:=none) (mx:=none) (pl:=none) (ph:=none) (pm:=none) (l:=0) (h:=(k:Int)) rfl rfl rfl rfl rfl (avD _) Om Om Om (.inl rfl) N O;simp only[Option.map_none,axA,Int.toNat_zero]at hb;have J:m=k:=Om;subst J;cases Z with
 |aX u y x M W=>
 rename_i A;refine⟨.slice (some A) m m,?_,?_⟩;have hz:(if m=0 then A else A.add (0*s))=A:=by split;rfl;rw[sA y,add_plain];simp
 simp[Instr.sliceAt,run_underlying Y,Instr.sureAddr,hb,lW X];intro _;rw[sA y,add_plain];simp;have K:=mh s m cs;have B:bH E (.sl s (chunks s m cs)) (.slice (some A) (chunks s m cs).length m):=by refine .sl (λi j=>u (i*s+j)) (by rw[K];exact avD _) S (mi R) (λ_=>⟨A,rfl,y,λi j pv hp=>?_⟩) (λi j=>M _) (λi j pv hp=>W _ pv (UA hp));have:=x (i*s+j) pv (UA hp);rw[<-this];congr 1;omega
 rw[K]at B;exact B
theorem Ja{e:TypeId}{x:Value}{l:PV}(hW:bY E H w)(M:bH E l x)(K:l.cells.all PV.one=true):Yields T.P E H w (Instr.box e x) (.aX l.cells):=by
 obtain⟨y,B,J⟩:=CC M K;obtain⟨u,A⟩:=hW.acW x.cells e;refine⟨.pointer (some ⟨w.heap.size,0,none⟩),_,_,by simp[Instr.box,newVar,newRow],?_,u,A⟩;refine .aX (λj=>if h:j<x.cells.size then x.cells[j]else .int .i64 0) rfl (λj pv hp=>?_) (λj=>?_) (λj pv hp=>?_);have i:j<x.cells.size:=by
  rw[y];rcases avX j l.cells.length with h'|h'
  exact h';rw[awN h']at hp;cases hp
 simp[Env.cell,Env.add,upd,i];split;rename_i i;exact B _ (Array.getElem_mem_toList i);rfl;have i:j<x.cells.size:=by
  rw[y];rcases avX j l.cells.length with h'|h'
  exact h';rw[awN h']at hp;cases hp
 rw[dif_pos i];exact(J j pv _ hp (ayW i)).mono A.env
end
open Go Go.RowKit
theorem BH{s:Nat}:∀(rows:P2_) (i j:Nat),(∀r∈rows,Z' r=s)->j<s->rows.flatten[i*s+j]?=at2 rows i j
 |[],i,j,_,_=>by simp[at2]
 |r::rows,i,j,h,u=>by
  have l:Z' r=s:=h r aZ;rw[azE];cases i with
  |zero =>rw[axU Om];simp[at2]
  |succ i=>
   rw[axR (by rw[l,axM];omega)];have e:(i+1)*s+j-Z' r=i*s+j:=by rw[l,axM];omega
   rw[e,BH rows i j (λr l=>h r (by simp[l])) u];simp[at2]
theorem tF{s:Nat}:∀(rows:P2_),(∀r∈rows,Z' r=s)->Z' rows.flatten=Z' rows*s
 |[],_=>by simp
 |r::rows,h=>by rw[azE,auZ,tF rows (λr e=>h r (by simp[e])),h r aZ,awK,axM];omega
theorem yK:∀(ps:V_)(x y:V_)(c:Nat),setCells (x++y) (Z' x+c) ps=x++setCells y c ps
 |[],x,y,c=>rfl
 |p::ps,x,y,c=>by simp only[setCells];rw[ayF _ _ Om,Nat.add_sub_cancel_left];exact yK ps x _ (c+1)
theorem zX:∀(ps:V_)(x y:V_)(c:Nat),c+Z' ps<=Z' x->setCells (x++y) c ps=setCells x c ps++y
 |[],x,y,c,_=>rfl
 |p::ps,x,y,c,h=>by simp only[awK]at h;simp only[setCells];rw[List.set_append_left _ _ Om];exact zX ps _ y (c+1) (by rw[awS];omega)
theorem MZ:∀(ps x:V_)(z:V_),Z' x=Z' ps->setCells (z++x) z.length ps=z++ps
 |[],x,z,h=>by have:x=[]:=azL (by simpa using h);subst this;rfl
 |p::ps,[],z,h=>by simp at h
 |p::ps,y::x,z,h=>by simp only[setCells];rw[ayF _ _ (avD _),axT,azB];have:=MZ ps x (z++[p]) (by simpa using h);simp only[auZ,awK,axC,awB,ayQ,azA]at this;simpa using this
theorem bc{s:Nat}(ps:V_)(e:Z' ps=s):∀(rows:P2_) (i:Nat),(∀r∈rows,Z' r=s)->i<Z' rows->(rows.set i ps).flatten=setCells rows.flatten (i*s) ps
 |[],i,_,h=>by simp at h
 |r::rows,i,h,hi=>by
  have l:Z' r=s:=h r aZ;cases i with
  |zero =>rw[azB,azE,azE,Nat.zero_mul,zX _ _ _ _ Om];have:=MZ ps r [] Om;simp only[azA,axC]at this;rw[this]
  |succ i =>rw[List.set_cons_succ,azE,azE,bc ps e rows i (λr l=>h r (by simp[l])) (by simpa using hi)];have:=yK ps r rows.flatten (i*s);rw[<-this,l,axM,Nat.add_comm]
section
variable {ds:List Deferred} {T:Tbl} {n:Nat} {E:Env} {F:PF} {H:PH} {a:Act} {w:World}
theorem MH{s:Nat}(U:eS ds n E F a)(V:E.num=T.num):∀(parts:List (Nat × Operand)) (pl:List (Nat × aR)) (rows out:P2_) (vs:Array Value),
  T.yC parts=some pl->gY s rows F pl=some out->(∀r∈rows,Z' r=s)->rB E rows.flatten vs ->
  ∃K,Instr.fill (λi=>some (i*s,s)) vs (parts.map λ(i,x)=>(i,a.eval x))=some K/\rB E out.flatten K/\(∀r∈out,Z' r=s)/\Z' out=Z' rows
 |[],pl,rows,out,vs,l,e,y,J=>by simp[Tbl.yC]at l;subst l;simp[gY]at e;subst e;exact⟨vs,rfl,J,y,rfl⟩
 |(i,x)::rest,pl,rows,out,vs,l,e,y,J=>by
  simp only[Tbl.yC]at l;split at l;rename_i p ps hx N;cases l;simp only[gY]at e;split at e;rename_i v hv;split at e;rename_i B;obtain⟨S,W,X⟩:=CC (bQ hx hv U V) B.2.2;have M:=bc v.cells B.1 rows i y B.2.1;have A:=rB.setCells v.cells (a.eval x).cells.toList (i*s) _ vs J (by simpa using S) W (λj q u hq Z=>X j q u hq (by simpa using Z));rw[<-M]at A;obtain⟨K,g1,g2,g3,g4⟩:=MH U V rest ps _ out _ N e (λr O=>by
   rcases azJ O with O|rfl
   exact y r O;exact B.1) A
  refine⟨K,?_,g2,g3,by simpa using g4⟩;simp only[awE,Instr.fill];have R:vs.size=Z' rows*s:=by rw[J.1,tF rows y]
  have Y:i*s+s<=Z' rows*s:=by have:(i+1)*s<=Z' rows*s:=awI _ B.2.1;rw[axM]at this;exact this
  rw[aC (by simp;rw[S,R];omega)];have hz:Array.foldl (λ(cs:Array Value)(x:Value × Nat)=>cs.setIfInBounds (i*s+x.2) x.1) vs (a.eval x).cells.zipIdx=jy vs (i*s) (a.eval x).cells.toList:=by rw[<-Array.foldl_toList,Array.toList_zipIdx];exact RG (i*s) _ 0 vs
  exact hz ▸ g1;cases e;cases e;cases l
theorem rB.adO{z:V_}{y:Array Value}{s len:Nat}(h:rB E z y)(M:Z' z=s)(K:0<s) :
  rB E (avA len z).flatten ((Array.range (len*s)).map (y[·%y.size]!)):=by
 have u:∀r∈avA len z,Z' r=s:=λr N=>by rw[(List.mem_replicate.1 N).2];exact M
 have l:y.size=s:=by rw[h.1,M]
 refine⟨by rw[tF _ u];simp,λv x=>?_,λk pv v hp x=>?_⟩;simp only[Array.toList_map,avV]at x;obtain⟨k,-,rfl⟩:=x;have J:k%y.size<y.size:=awY _ Om;rw[getElem!_pos y _ J];exact h.2.1 _ (Array.getElem_mem_toList J);have B:k<len*s:=by
  rcases avX k (len*s)with h'|h'
  exact h';rw[Array.getElem?_eq_none (by simpa using h')]at x;cases x
 have i:k%s<s:=awY _ K;have A:k/s<len:=(ayO K).2 B;have J:k/s*s+k%s=k:=by rw[awF];exact azF k s
 have e:=BH (avA len z) (k/s) (k%s) u i;rw[J]at e;rw[e]at hp;simp only[at2,List.getElem?_replicate,A,if_true,ayV]at hp;simp only[Array.getElem?_map,Array.getElem?_range,B,if_true,avS]at x;rw[getElem!_pos y _ (by rw[l];exact i)]at x;cases x;refine h.2.2 (k%s) pv _ (by simpa only [l]using hp) ?_;simp only[l];exact ayW (by rw[l];exact i)
theorem TX{t e:TypeId}{s len:Nat}{z:V_}{parts:Array (Nat × Operand)}{pl:List (Nat × aR)}{out:P2_}(ht:T.P.underlying t=some (.slice e))(Z:T.size e=some s)(hz:T.zero e=some z)
  (N:Z' z=s) (X:0<s) (l:T.yC parts.toList=some pl) (α:len*s<=16777216) (A:gY s (avA len z) F pl=some out) (hA:eS ds n E F a) (hN:E.num=T.num) :
  ∃B,(Instr.buildSlice t len (parts.map λ(i,x)=>(i,a.eval x))).run T.P w=.ok (.slice (some ⟨w.heap.size,0,none⟩) len len) (w.alloc (.cells B e))/\rB E out.flatten B/\(∀r∈out,Z' r=s)/\Z' out=len:=by
 obtain⟨i,zv,hi,O,W⟩:=SM (E:=E) hz;obtain⟨i',K,u⟩:=Ae Z;rw[hi]at K;cases K;have J:∀r∈avA len z,Z' r=s:=λr hr=>by rw[(List.mem_replicate.1 hr).2];exact N
 obtain⟨B,g1,g2,g3,g4⟩:=MH hA hN parts.toList pl _ out _ l A J (W.adO (len:=len) N X);rw[List.length_replicate]at g4;refine⟨B,?_,g2,g3,g4⟩;by_cases R:len=0;subst R;have M:parts.toList=[]:=by
  cases U:parts.toList with
  |nil=>rfl
  |cons x rest =>rw[U]at l;obtain⟨i,y⟩:=x;simp only[Tbl.yC]at l;split at l;cases l;simp only[gY]at A;split at A;split at A;rename_i hc;simp at hc;cases A;cases A;cases l
 rw[M]at g1;simp only[axD,Instr.fill,Nat.zero_mul]at g1;have:B=#[]:=by have Y:=g2.1;rw[tF out g3,g4,Nat.zero_mul]at Y;exact Array.eq_empty_of_size_eq_zero Y
 subst this;have S:parts=#[]:=by apply Array.ext';simpa using M
 subst S;have V:Array.range 0=#[]:=by apply Array.ext';simp
 simp[Instr.buildSlice,run_underlying ht,lW Z,Instr.fill,newRow,V];refine run_buildSlice w t e len _ B i zv ht hi O (by rw[u];omega) (by rw[u];exact Nat.ne_of_gt (Nat.mul_pos Om X)) ?_;rw[u,Array.toList_map];exact g1
theorem u6{t e:TypeId}{s len:Nat}{z:V_}{parts:Array (Nat × Operand)}{pl:List (Nat × aR)}{out:P2_}(ht:T.P.underlying t=some (.slice e))(hs:T.size e=some s)(hz:T.zero e=some z)
  (S:Z' z=s) (U:0<s) (R:T.yC parts.toList=some pl) (O:len*s<=16777216) (Z:gY s (avA len z) F pl=some out) (W:eS ds n E F a) (X:E.num=T.num) (hW:bY E H w) :
  Yields T.P E H w (Instr.buildSlice t len (parts.map λ(i,x)=>(i,a.eval x))) (.sl s out):=by
 obtain⟨A,J,N,u,y⟩:=TX (w:=w) ht hs hz S U R O Z W X;obtain⟨M,V⟩:=hW.acW A e;refine⟨_,_,_,J,?_,M,V⟩;rw[<-y];have Y:∀i j pv,at2 out i j=some pv->j<s:=λi j pv hp=>by
  unfold at2 at hp;cases B:out[i]? with
  |none=>simp[B]at hp
  |some r=>
   rw[B,ayV]at hp;have:=u r (axF B);rcases avX j r.length with h'|h'
   omega;rw[awN h']at hp;cases hp
 have l:∀i j pv,at2 out i j=some pv->∃h:i*s+j<A.size,bH E pv A[i*s+j]:=λi j pv hp=>by
  have K:=BH out i j u (Y i j pv hp);rw[hp]at K;have hlt:i*s+j<A.size:=by
   rw[N.1];rcases avX (i*s+j) out.flatten.length with h'|h'
   exact h';rw[awN h']at K;cases K
  exact⟨hlt,N.2.2 _ pv _ K (ayW hlt)⟩
 refine .sl (λi j=>if h:i*s+j<A.size then A[i*s+j]else .int .i64 0) (avD _) ?_ u (λ_=>⟨_,rfl,rfl,λi j pv hp=>?_⟩) (λi j=>?_) (λi j pv hp=>?_);have:Z' out*1<=Z' out*s:=axW _ U;simp only[maxLen];rw[y]at this ⊢;omega;obtain⟨hlt,-⟩:=l i j pv hp;simp[Env.cell,Env.add,upd,hlt];split;rename_i hlt;exact N.2.1 _ (Array.getElem_mem_toList hlt);rfl;obtain⟨hlt,B⟩:=l i j pv hp;rw[dif_pos hlt];exact B.mono V.env
end
open Go Go.RowKit
section
variable {T:Tbl} {n:Nat} {E:Env} {F:PF} {H:PH} {a:Act} {w:World}
theorem tt{s:Nat}{pv:PV}{v:Value}{rows:P2_}(hW:bY E H w)(hv:bH E pv v)(h:dH H s pv=some rows) :
  ∃x cap,v=.slice x rows.length cap/\Z' rows<=cap/\(∀r∈rows,Z' r=s)/\(rows≠[]->∃b off,x=some ⟨b,off,none⟩ /\
   ∀i j q,at2 rows i j=some q->∃u,w.cell? ⟨b,off+(i*s+j),none⟩=some u/\u.oneCell'=true/\bH E q u):=by
 unfold dH at h;split at h;cases h;cases hv;exact⟨none,0,rfl,avD _,by simp,λh=>absurd rfl h⟩;rename_i s0 rs;split at h
 ·rename_i e;subst e;cases h;cases hv with
  |sl u B J l ha V Y=>
  rename_i a0 cap;refine⟨a0,cap,rfl,B,l,λA=>?_⟩;obtain⟨x,rfl,M,S⟩:=ha A;refine⟨x.block,x.off,by rw[<-sA M],λi j q hq=>⟨u i j,?_,V i j,Y i j q hq⟩⟩;have:=hW.Kv (S i j q hq);rw[<-this];congr 2;omega
 cases h;rename_i o s0 off len;split at h;rename_i e;subst e;split at h;rename_i s' rs V;split at h
 ·rename_i S;cases h;obtain⟨rfl,γ⟩:=S;obtain⟨hlt,O,ty,hh,δ,l,α,y⟩:=hW.h o _ V;cases hv with
  |osl hb M K U J hn Z=>
  rename_i cap N x;have hl:((rs.drop off).take len).length=len:=by rw[avN,awZ];omega
  refine⟨some x,cap,by rw[hl],by omega,λr Y=>l r (List.mem_of_mem_drop (List.mem_of_mem_take Y)),λA=>?_⟩;have β:0<((rs.drop off).take len).length:=List.length_pos_iff.2 A;have W:x.off=off*s':=by
   rcases K with h|h
   omega;exact h
  have R:x=⟨o,off*s',none⟩:=by cases x;simp_all
  subst R;refine⟨o,off*s',rfl,λi j q hq=>?_⟩;have X:at2 rs (off+i) j=some q:=by unfold at2 at hq ⊢;rw[ayS]at hq;split at hq;rw[ayR]at hq;exact hq;simp at hq
  obtain⟨u,h1,h2,h3⟩:=y (off+i) j q X;refine⟨u,?_,h2,h3⟩;rw[cell_of_row w o _ O ty (0,0) hh,<-h1];congr 1;rw[awO];omega
 cases h;cases h;cases h;cases h
theorem TA:∀{rows:P2_}{l:List UInt8},uJ rows=some l->∃ns:I_,rows=ns.map (λn=>[PV.int .u8 n])/\l=ns.map λn=>UInt8.ofNat n.toNat
 |[],l,h=>by simp[uJ]at h;exact⟨[],by simp[h]⟩
 |r::rows,l,h=>by unfold uJ at h;split at h;exact⟨[],by simp at *⟩;rename_i m rest e;cases e;simp only[avM]at h;obtain⟨y,i,rfl⟩:=h;obtain⟨ns,u,x⟩:=TA i;exact⟨m::ns,by simp[u],by simp[x]⟩;cases h
theorem mb{src dst e:TypeId}{pv:PV}{v:Value}{rows:P2_}{l:List UInt8}(J:T.P.underlying src=some (.slice e))(he:T.P.underlying e=some (.int .u8))(B:T.P.underlying dst=some .string)
  (hW:bY E H w) (W:bH E pv v) (V:dH H 1 pv=some rows) (hb:uJ rows=some l):∃u,(convert src dst v).run T.P w=.ok u w/\bH E (.str l) u:=by
 obtain⟨O,cap,rfl,M,N,y⟩:=tt hW W V;obtain⟨ns,rfl,rfl⟩:=TA hb;by_cases A:ns=[]
 ·subst A;refine⟨.string ByteArray.empty,?_,bH.str ByteArray.empty⟩;cases O with
  |none=>exact run_convert_bytes_nil w src e J he _ _ dst B
  |some x =>rw[run_convert_bytes_string w src dst e _ _ _ J he B];have:=run_bytesToString (P:=T.P) w x 0 cap [] (by simp[Go.loadCells,Go.loadCellsFrom]);simpa using this
 obtain⟨b,off,rfl,S⟩:=y (by simpa using A);have U:(ns.map λn=>[PV.int .u8 n]).length=Z' ns:=by simp
 refine⟨.string (strOfNums ns),?_,?_⟩;rw[U];refine run_convert_bytes_arg w src e J he b off ns.length cap ns rfl (λi hi=>?_) dst B;obtain⟨u,K,X,R⟩:=S i 0 (.int .u8 ns[i]) (by simp[at2,hi]);cases R;simp only[ayG,awQ]at K;rw[K];simp[List.getD,hi];have:=bH.str (E:=E) (strOfNums ns);rw[strOfNums_data]at this;exact this
theorem fW.len{ps:V_}{vs:List Value}(h:fW E ps vs):Z' vs=Z' ps:=by
 induction h with
 |nil=>rfl
 |cons _ _ e=>simp[e]
theorem fW.at_{ps:V_}{vs:List Value}(h:fW E ps vs):∀(j:Nat) p v,ps[j]?=some p->vs[j]?=some v->bH E p v:=by
 induction h with
 |nil=>intro j p v hp;simp at hp
 |cons h _ i=>
  intro j p v hp e;cases j with
  |zero=>simp at hp e;subst hp;subst e;exact h
  |succ j=>exact i j p v (by simpa using hp) (by simpa using e)
theorem fW.mono{e:Env}(i:E.le e){ps:V_}{vs:List Value}(h:fW E ps vs):fW e ps vs:=by
 induction h with
 |nil=>exact .nil
 |cons h _ l=>exact .cons (h.mono i) l
def POp.sW:POp->Bool
 | .call .. | .auM ..=>true
 |_=>false
theorem yQ{P:Program}{o:Oper}{s:Sem Value}{v:Value}{w e:World}(h:execOp a.eval o=(do pure (.value (<-s)):Sem Next))(i:s.run P w=.ok v e):(execOp a.eval o).run P w=.ok (.value v) e:=by
 rw[h];simp[i]
end
open Go Go.RowKit
def KSh.desc:KSh->TypeDesc
 | .int k=>.int k
 | .bool=>.bool
 | .str=>.string
def KSh.sc:KSh->Sc
 | .int _=>.int
 | .bool=>.bool
 | .str=>.str
def KS.pv:KS->PV
 | .int k n=>.int k n
 | .bool b=>.bool b
 | .str s=>.str s
section
variable {T:Tbl} {n:Nat} {E:Env} {F:PF} {H:PH} {a:Act} {w:World}
theorem u0{α:Type}[BEq α][LawfulBEq α][DecidableEq α](a b:α):(a==b)=decide (a=b):=by
 by_cases h:a=b<;>simp[h]
theorem KS.Uc{pv:PV}{v:Value}{k:KS}(h:bH E pv v)(e:KS.of pv=some k):v=k.val:=by
 unfold KS.of at e;split at e<;>cases e<;>cases h;rfl;rfl;simp[KS.val]
theorem KS.akR(k:KS):bH E k.pv k.val:=by
 cases k with
 |int k n=>exact .int k n
 |bool b=>exact .bool b
 |str s =>have:=bH.str (E:=E) ⟨s.toArray⟩;simpa[KS.pv,KS.val]using this
theorem KS.Lr:∀{ps:V_}{i:List KS}{vs:List Value},KS.ofs ps=some i->Z' vs=Z' ps->(∀(j:Nat) p v,ps[j]?=some p->vs[j]?=some v->bH E p v)->vs=i.map KS.val
 |[],i,vs,h,e,_=>by simp[KS.ofs]at h;subst h;simp at e;subst e;rfl
 |p::ps,i,vs,h,e,l=>by
  simp only[KS.ofs]at h;split at h
  ·rename_i k J A B;cases h;cases vs with
   |nil=>simp at e
   |cons v vs =>have e2:=KS.Lr (vs:=vs) B (by simpa using e) λj q u x y=>l (j+1) q u (by simpa using x) (by simpa using y);rw[KS.Uc (l 0 p v rfl rfl) A,e2];rfl
  cases h
theorem ye{sh:MSh}{pv:PV}{v:Value}{k:List KS}(h:bH E pv v)(i:keyOf sh pv=some k):v=jK sh k/\k.map KS.sh=sh.2/\(sh.1=false->∃s,k=[s]):=by
 obtain⟨b,l⟩:=sh;unfold keyOf at i;split at i;rename_i cs hb;simp only at hb;subst hb;simp only[azD]at i;obtain⟨M,A,e⟩:=i;split at e
 ·rename_i he;cases e;cases h with
  |agg vs J B K=>
  refine⟨?_,he,by simp⟩;have:=KS.Lr (vs:=vs.toList) A (by simpa using J) λj p u x y=>K j p u x (by simpa using y);simp only[jK,if_true,Value.agg.injEq];rw[<-this]
 cases e;rename_i v' hb;simp only at hb;subst hb;simp only[azD]at i;obtain⟨s,A,e⟩:=i;split at e;rename_i he;cases e;exact⟨by simp[jK,KS.Uc h A],by simpa using he,λ_=>⟨s,rfl⟩⟩;cases e;cases i
theorem zI{t:TypeId}{s:KSh}(h:T.FT t=some s):T.P.underlying t=some s.desc/\T.scalar t=some s.sc:=by
 unfold Tbl.FT at h;unfold Tbl.scalar;split at h<;>cases h<;>(rename_i e;rw[e];exact⟨rfl,rfl⟩)
theorem J2{s:KSh}{x y:KS}(i:x.sh=s)(e:y.sh=s):Instr.sameNow s.desc x.val y.val=some (decide (x=y)):=by
 subst i;cases x<;>cases y<;>simp[KS.sh]at e;subst e;simp[KSh.desc,KS.sh,KS.val,Instr.sameNow];exact u0 _ _;simp[KSh.desc,KS.sh,KS.val,Instr.sameNow];exact u0 _ _;rename_i a b;simp only[KSh.desc,KS.sh,KS.val,Instr.sameNow,awV.injEq,KS.str.injEq];rw[beq_toListBytes,ByteArray.toList_eq,ByteArray.toList_eq];simp;exact u0 _ _
theorem pn:∀{e:List Field}{k:Nat}{l:List KSh},T.oS k e=some l->T.xM k e=some (l.map KSh.sc)
 |[],k,l,h=>by simp[Tbl.oS]at h;subst h;rfl
 |f::e,k,l,h=>by simp only[Tbl.oS]at h;split at h;rename_i c cs i u;split at h;rename_i x;cases h;simp only[Tbl.xM,(zI i).2,pn u];rw[aF x];rfl;cases h;cases h
theorem Su:∀{l:List KSh}{xs ys:List KS},xs.map KS.sh=l->ys.map KS.sh=l->PV.eqs (l.map KSh.sc) (xs.map KS.pv) (ys.map KS.pv)=some (decide (xs=ys))
 |[],xs,ys,i,u=>by simp at i u;subst i;subst u;simp[PV.eqs]
 |s::l,xs,ys,i,u=>by
  cases xs with
  |nil=>simp at i
  |cons x xs=>
  cases ys with
  |nil=>simp at u
  |cons y ys=>
  simp only[awE,List.cons.injEq]at i u;have J:PV.eq1 s.sc x.pv y.pv=some (decide (x=y)):=by obtain⟨B,-⟩:=i;obtain⟨A,-⟩:=u;subst B;cases x<;>cases y<;>simp[KS.sh]at A;subst A;simp[KSh.sc,KS.sh,KS.pv,PV.eq1];exact u0 _ _;simp[KSh.sc,KS.sh,KS.pv,PV.eq1];exact u0 _ _;simp[KSh.sc,KS.sh,KS.pv,PV.eq1];exact u0 _ _
  simp only[awE,PV.eqs,J];by_cases e:x=y;subst e;simp only[decide_true,Su i.2 u.2];simp;simp only[e,decide_false,auW];have K:Z' xs=Z' l:=by rw[<-i.2];simp
  have M:Z' ys=Z' l:=by rw[<-u.2];simp
  rw[aF ⟨K,M⟩];simp[e]
theorem Sv{t:TypeId}{B:Array Field}{l:List KSh}(K:T.P.underlying t=some (.struct B))(hp:T.P.stoodInHeld t=false)(O:T.oS 0 B.toList=some l){x y:List KS}(R:x.map KS.sh=l)(S:y.map KS.sh=l) :
  (Op.equal t (jK (true,l) x) (jK (true,l) y)).run T.P w=.ok (decide (x=y)) w:=by
 have i:T.P.fieldsOf t=B:=by simp[Program.fieldsOf,K]
 have M:∀(z:List KS)(j:Nat) q u,(z.map KS.pv)[j]?=some q->(z.map KS.val).toArray[0+j]?=some u->bH (E:=⟨λ_=>none,λ_=>none,λ_=>0⟩) q u:=by intro z j q u e J;simp only[avO,avM,avK,List.getElem?_toArray]at e J;obtain⟨k,N,rfl⟩:=e;obtain⟨U,A,rfl⟩:=J;rw[N]at A;cases A;exact KS.akR k
 have he:=UL (w:=w) 9998 (x.map KS.val).toArray (y.map KS.val).toArray B.toList (l.map KSh.sc) 0 (x.map KS.pv) (y.map KS.pv) _ (pn O) (Su R S) (M x) (M y) aZ aZ;have e:=run_equalIn_struct w 9999 t (x.map KS.val).toArray (y.map KS.val).toArray (by rw[i];exact K) hp;rw[i,he]at e;simpa[Op.equal,Op.maxDepth,jK]using e
def Found(L:List (List KS × PV))(l:List MapEntry)(k:List KS)(i:Nat)(r:Option (Nat × Value)):Prop:=
 match sE k L i with
 |none=>r=none
 |some (j,pv)=>∃e:MapEntry,i<=j/\l[j-i]?=some e/\L[j-i]?=some (k,pv)/\r=some (j,e.val)
theorem Found.next{L:List (List KS × PV)}{u:List MapEntry}{k:List KS}{i:Nat}{r:Option (Nat × Value)}{e:List KS × PV}{y:MapEntry}(h:Found L u k (i+1) r)(l:e.1≠k):Found (e::L) (y::u) k i r:=by
 unfold Found at h ⊢;simp only[sE,aC l];split at h;exact h;rename_i j pv M;obtain⟨x,K,A,B,J⟩:=h;refine⟨x,by omega,?_,?_,J⟩;rw[show j-i=(j-(i+1))+1 by omega];exact A;rw[show j-i=(j-(i+1))+1 by omega];exact B
theorem Found.here{L:List (List KS × PV)}{u:List MapEntry}{k:List KS}{i:Nat}{e:List KS × PV}{l:MapEntry}(he:e.1=k):Found (e::L) (l::u) k i (some (i,l.val)):=by
 unfold Found;simp only[sE,aF he];refine⟨l,avD _,by simp,?_,rfl⟩;subst he;simp
def xZ(sh:MSh)(L:List (List KS × PV))(u:List MapEntry):Prop:=
 u.length=Z' L/\∀(i:Nat) e l,L[i]?=some e->u[i]?=some l->e.1.map KS.sh=sh.2/\l.key=jK sh e.1
theorem xZ.tail{sh:MSh}{e:List KS × PV}{L:List (List KS × PV)}{u:MapEntry}{l:List MapEntry}(h:xZ sh (e::L) (u::l)):xZ sh L l:=
 ⟨by simpa using h.1,λi x y a b=>h.2 (i+1) x y (by simpa using a) (by simpa using b)⟩
theorem aw{s:KSh}{x:KS}(J:x.sh=s):∀{L:List (List KS × PV)}{l:List MapEntry}{i:Nat},xZ (false,[s]) L l->∃r,Instr.findNow s.desc x.val l i=some r/\Found L l [x] i r
 |[],l,i,h=>by
  have:l=[]:=by simpa using h.1
  subst this;exact⟨none,rfl,rfl⟩
 |e::L,l,i,h=>by
  cases l with
  |nil=>have:=h.1;simp at this
  |cons B l=>
  obtain⟨A,M⟩:=h.2 0 e B rfl rfl;obtain⟨K,R⟩:=e;cases K with
  |nil=>simp at A
  |cons y ys=>
   simp only[awE,List.cons.injEq,List.map_eq_nil_iff]at A;obtain⟨O,rfl⟩:=A;have N:B.key=y.val:=by rw[M];rfl
   simp only[Instr.findNow,N,J2 J O];by_cases u:x=y;subst u;simp only[decide_true];exact⟨_,rfl,Found.here rfl⟩;simp only[u,decide_false];obtain⟨r,g1,g2⟩:=aw J (i:=i+1) h.tail;exact⟨r,g1,g2.next (by simp;exact λe=>u e.symm)⟩
theorem MI{t:TypeId}{A:Array Field}{l:List KSh}(J:T.P.underlying t=some (.struct A))(hp:T.P.stoodInHeld t=false)(B:T.oS 0 A.toList=some l){x:List KS}(K:x.map KS.sh=l) :
  ∀{L:List (List KS × PV)}{u:List MapEntry}{i:Nat},xZ (true,l) L u->∃r,(Instr.findAsking t (jK (true,l) x) u i).run T.P w=.ok r w/\Found L u x i r
 |[],u,i,h=>by
  have:u=[]:=by simpa using h.1
  subst this;exact⟨none,rfl,rfl⟩
 |e::L,u,i,h=>by
  cases u with
  |nil=>have:=h.1;simp at this
  |cons M u=>
  obtain⟨N,O⟩:=h.2 0 e M rfl rfl;simp only[Instr.findAsking,Sem.run_bind,O,Sv J hp B K N,Result.andThen_ok];by_cases y:x=e.1;subst y;simp only[decide_true,if_true,Sem.run_pure];exact⟨_,rfl,Found.here rfl⟩;simp only[y,decide_false,axH,if_false];obtain⟨r,g1,g2⟩:=MI J hp B K (i:=i+1) h.tail;exact⟨r,g1,g2.next (λe=>y e.symm)⟩
theorem ML{t:TypeId}{sh:MSh}(h:T.pD t=some sh):(∃s,sh=(false,[s])/\T.FT t=some s)\/(∃e l,sh=(true,l)/\T.P.underlying t=some (.struct e)/\T.P.stoodInHeld t=false/\T.oS 0 e.toList=some l):=by
 unfold Tbl.pD at h;split at h;rename_i e x;split at h;rename_i hp;simp only[avM]at h;obtain⟨l,i,rfl⟩:=h;exact .inr ⟨e,l,rfl,x,hp,i⟩;cases h;simp only[avM]at h;obtain⟨s,u,rfl⟩:=h;exact .inl ⟨s,rfl,u⟩
theorem TB{t:TypeId}{sh:MSh}(B:T.pD t=some sh){k:List KS}(y:k.map KS.sh=sh.2){L:List (List KS × PV)}{u:List MapEntry}(h:xZ sh L u) :
  ∃r,(Instr.findKey t (jK sh k) u).run T.P w=.ok r w/\Found L u k 0 r:=by
 rcases ML B with⟨s,rfl,K⟩|⟨fs,l,rfl,hu,hp,hl⟩
 ·have J:=(zI K).1;cases k with
  |nil=>simp at y
  |cons x xs =>simp only[awE,List.cons.injEq,List.map_eq_nil_iff]at y;obtain⟨N,rfl⟩:=y;obtain⟨r,g1,g2⟩:=aw N (i:=0) h;refine⟨r,?_,g2⟩;have M:jK (false,[s]) [x]=x.val:=rfl;simp only[Instr.findKey,Sem.run_bind,run_underlying J,Result.andThen_ok,M,g1,Sem.run_pure]
 ·obtain⟨r,g1,g2⟩:=MI (w:=w) hu hp hl y (i:=0) h;cases u with
  |nil=>
   have:L=[]:=by simpa using h.1.symm
   subst this;refine⟨none,?_,rfl⟩;simp[Instr.findKey,run_underlying hu,Instr.findNow]
  |cons e u=>
   refine⟨r,?_,g2⟩;have A:Instr.findNow (.struct fs) (jK (true,l) k) (e::u) 0=none:=by simp[Instr.findNow,Instr.sameNow,jK]
   simp only[Instr.findKey,Sem.run_bind,run_underlying hu,Result.andThen_ok,A];exact g1
theorem aa{t:TypeId}{s:KSh}(e:T.FT t=some s)(em:Bool)(d:Nat)(x:KS):(Instr.checkKey em (d+1) t x.val).run T.P w=.ok () w:=by
 have i:=(zI e).1;simp only[Instr.checkKey,Sem.run_bind,run_underlying i,Result.andThen_ok];cases s<;>cases x<;>rfl
theorem MB{t:TypeId}{sh:MSh}(J:T.pD t=some sh){k:List KS}(A:k.map KS.sh=sh.2)(em:Bool):(Instr.checkKey em 10000 t (jK sh k)).run T.P w=.ok () w:=by
 rcases ML J with⟨s,rfl,u⟩|⟨e,l,rfl,hu,hp,hl⟩
 ·cases k with
  |nil=>simp at A
  |cons x xs =>simp only[awE,List.cons.injEq,List.map_eq_nil_iff]at A;obtain⟨S,rfl⟩:=A;exact aa u em 9999 x
 simp only[jK,if_true];obtain⟨m,X⟩:∃m:Nat,m=9999:=⟨_,rfl⟩;rw[show(10000:Nat)=m+1 by omega];simp only[Instr.checkKey,Sem.run_bind,run_underlying hu,Result.andThen_ok];rw[<-Array.forIn_toList];have K:∀(e:List Field)(l:List KSh)(j:Nat),T.oS j e=some l->(∀(i:Nat) s,l[i]?=some s->∃x:KS,(k.map KS.val).toArray[j+i]?=some x.val) ->
   (forIn e PUnit.unit (λf (_:PUnit)=>(do
    if f.name≠"_" then
     Instr.checkKey em m f.type (<-part f.type (k.map KS.val).toArray f.offset)
     pure (ForInStep.yield PUnit.unit)
    else pure (ForInStep.yield PUnit.unit):Sem (ForInStep PUnit)))).run T.P w=.ok PUnit.unit w:=by
  intro e
  induction e with
  |nil=>intro l j _ _;simp
  |cons f e W=>
   intro l j h R;simp only[Tbl.oS]at h;split at h;rename_i c cs M U;split at h;rename_i N;cases h;obtain⟨x,S⟩:=R 0 c rfl;simp only[List.forIn_cons,Sem.run_bind,Sem.run_ite];rw[aF N.1];have B:=QN (w:=w) (zI M).2 (k.map KS.val).toArray f.offset x.val (by rw[N.2];simpa using S);simp only[Sem.run_bind,B,Result.andThen_ok];rw[show m=9998+1 by omega,aa M em 9998 x,<-show m=9998+1 by omega];simp only[Result.andThen_ok,Sem.run_pure];exact W cs (j+1) U λi s u=>by obtain⟨y,V⟩:=R (i+1) s (by simpa using u);exact⟨y,by rw[show j+1+i=j+(i+1) by omega];exact V⟩
   cases h;cases h
 have:=K e.toList l 0 hl λi s u=>by
  have O:Z' k=Z' l:=by rw[show l=k.map KS.sh from A.symm];simp
  have hi:i<Z' l:=(awD.1 u).1;exact⟨k[i],by simp[show i<k.length by omega]⟩
 simp at this ⊢;rw[this];rfl
theorem Jq{L:List (List KS × PV)}{u:List MapEntry}{k:List KS}{r:Option (Nat × Value)}(h:Found L u k 0 r)(K:∀(i:Nat)(e:List KS × PV)(l:MapEntry),L[i]?=some e->u[i]?=some l->bH E e.2 l.val) :
  (mapOf L k=none/\r=none)\/∃j pv v,mapOf L k=some pv/\r=some (j,v)/\bH E pv v:=by
 unfold Found at h;unfold mapOf;split at h;rename_i J;exact .inl ⟨by rw[J];rfl,h⟩;rename_i j pv B;obtain⟨l,-,x,y,A⟩:=h;exact .inr ⟨j,pv,l.val,by rw[B];rfl,A,K _ _ l y x⟩
theorem Fj{t kt S:TypeId}{sh:MSh}{y:TypeInfo}{z:Value}{Y pk:PV}{x k:Value}{o:Nat}{g:lI}{l:List KS}{ok:Bool}(ht:T.P.underlying t=some (.map kt S))(O:T.pD kt=some sh)
  (hi:T.P.info? S=some y) (hz:y.zero=some z) (N:ofValue z=some Y) (hx:bH E (.map o) x) (hk:bH E pk k) (ho:H o=some (.map sh g)) (K:keyOf sh pk=some l) (hW:bY E H w) :
  ∃v,(Instr.lookup t x k ok).run T.P w=.ok v w/\bH E (if ok then .tup [(g l).getD Y,.bool (g l).isSome]else(g l).getD Y) v:=by
 cases hx;obtain⟨hlt,Z,A,L,hh,⟨W,-⟩,rfl,B⟩:=hW.h o _ ho;obtain⟨V,M,-⟩:=ye hk K;have U:xZ sh L Z.toList:=⟨by simpa using W,λi e R a b=>by have:=B i e R a (by simpa using b);exact⟨this.1,this.2.1⟩⟩;obtain⟨r,g1,g2⟩:=TB (w:=w) O M U;have g3:=Jq (E:=E) g2 λi e R a b=>(B i e R a (by simpa using b)).2.2;subst V;have J:(getObj o).run T.P w=.ok (.map Z A) w:=by simp[getObj,Sem.run,hh]
 have X:(zeroValue S).run T.P w=.ok z w:=by simp[zeroValue,typeInfo,run_program,hi,hz]
 simp only[Instr.lookup,Sem.run_bind,run_underlying ht,Result.andThen_ok,J,Sem.run_pure,MB O M,g1];rcases g3 with⟨g4,rfl⟩|⟨j,pv,v,g4,rfl,hr⟩
 simp only[X,Sem.run_bind,Result.andThen_ok,Sem.run_pure,g4,Option.getD_none,Option.isSome_none];cases ok;exact⟨z,rfl,BQ N⟩
 ·refine⟨_,rfl,.tup #[z,.bool false] rfl λj p u a b=>?_⟩
  match j with
  |0=>simp at a b;subst a;subst b;exact BQ N
  |1=>simp at a b;subst a;subst b;exact .bool _
  |j+2=>simp at a
 simp only[Sem.run_pure,Result.andThen_ok,g4,axK,Option.isSome_some];cases ok;exact⟨v,rfl,hr⟩
 ·refine⟨_,rfl,.tup #[v,.bool true] rfl λj p u a b=>?_⟩
  match j with
  |0=>simp at a b;subst a;subst b;exact hr
  |1=>simp at a b;subst a;subst b;exact .bool _
  |j+2=>simp at a
end
open Go Go.RowKit
section
variable {ds:List Deferred} {T:Tbl} {n:Nat} {E:Env} {F:PF} {H:PH} {a:Act} {w:World}
def Good(P:Program)(E:Env)(H:PH)(w:World)(o:Oper)(a:Act)(pv:PV):Prop:=
 ∃v i e,(execOp a.eval o).run P w=.ok (.value v) i/\bH e pv v/\bY e H i/\Ext E H w e H i
theorem Good.mk'{P:Program}{o:Oper}{pv:PV}{v:Value}(hW:bY E H w)(h:(execOp a.eval o).run P w=.ok (.value v) w)(r:bH E pv v):Good P E H w o a pv:=⟨v,w,E,h,r,hW,.refl E H w⟩
theorem Good.of{P:Program}{o:Oper}{pv:PV}{s:Sem Value}(he:execOp a.eval o=(do pure (.value (<-s)):Sem Next))(h:Yields P E H w s pv):Good P E H w o a pv:=by
 obtain⟨v,y,e,i,l,u,x⟩:=h;exact⟨v,y,e,yQ he i,l,u,x⟩
theorem Good.val{P:Program}{o:Oper}{pv:PV}{s:Sem Value}(hW:bY E H w)(he:execOp a.eval o=(do pure (.value (<-s)):Sem Next))(h:∃v,s.run P w=.ok v w/\bH E pv v):Good P E H w o a pv:=by
 obtain⟨v,e,i⟩:=h;exact .of he (Yields.same hW e i)
theorem Nh{t:TypeId}{o:Oper}{x:Operand}{lo hi mx:Option Operand}{p:aR}{pl ph pm:Option aR}{e:TypeId}{s:Nat}{pv:PV}(Y:o.op=.slice t x lo hi mx)(W:T.P.underlying t=some (.slice e))(V:T.size e=some s)
  (Z:T.opd x=some p) (S:T.opt lo=some pl) (R:T.opt hi=some ph) (M:T.opt mx=some pm) (U:¬(mx.isSome=true/\hi.isNone=true)) (i:bD (.slice s p pl ph pm) F H=some pv)
  (N:eS ds n E F a) (hW:bY E H w) (O:E.num=T.num):Good T.P E H w o a pv:=by
 refine Good.val hW (s:=Instr.sliceAt t (a.eval x) (lo.map a.eval) (hi.map a.eval) (mx.map a.eval)) (by unfold execOp;rw[Y]) ?_;have u:pm≠none->hi≠none:=λh e=>by
  subst e;cases mx with
  |none=>simp[Tbl.opt]at M;exact h M.symm
  |some y=>exact U ⟨rfl,rfl⟩
 simp only[bD]at i;split at i;rename_i v X;have r:=bQ Z X N O;split at i;split at i;rename_i l h B A;refine KU (len:=0) W V S R M r B A (.inl ⟨rfl,rfl⟩) ?_ N O;split at i;exact .inl ⟨rfl,i⟩;simp only[azD]at i;obtain⟨m,J,K⟩:=i;exact .inr ⟨u aZ,m,J,K⟩;cases i;split at i;rename_i l h B A;refine KU W V S R M r B A (.inr (.inl ⟨_,_,rfl,rfl⟩)) ?_ N O;split at i;exact .inl ⟨rfl,i⟩;simp only[azD]at i;obtain⟨m,J,K⟩:=i;exact .inr ⟨u aZ,m,J,K⟩;cases i;split at i;rename_i l h B A;refine KU W V S R M r B A (.inr (.inr ⟨_,_,_,rfl⟩)) ?_ N O;split at i;exact .inl ⟨rfl,i⟩;simp only[azD]at i;obtain⟨m,J,K⟩:=i;exact .inr ⟨u aZ,m,J,K⟩;cases i;cases i;cases i
theorem oY{o:Oper}{c:Call}{b:Builtin}{s:Sem Value}{pv:PV}(u:o.op=.call c)(e:c.callee=.builtin b)(hb:∀cs,builtin b c.argTypes o.type cs (c.args.map a.eval)=(do pure (.value (<-s)):Sem Next))
  (hW:bY E H w) (h:∃v,s.run T.P w=.ok v w/\bH E pv v):Good T.P E H w o a pv:=by
 obtain⟨v,i,l⟩:=h;refine .mk' hW ?_ l;unfold execOp;rw[u];simp[resolve,e,invoke,hb,i]
theorem acX{xs:Array Operand}{x:Operand}(h:xs.toList=[x])(f:Operand->Value):xs.map f=#[f x]:=by
 apply Array.ext';simp[h]
theorem Nb{xs:Array Operand}{x y:Operand}(h:xs.toList=[x,y])(f:Operand->Value):xs.map f=#[f x,f y]:=by
 apply Array.ext';simp[h]
theorem ajP{α:Type}{xs:Array α}{x:α}(h:xs.toList=[x]):xs=#[x]:=by apply Array.ext';simp[h]
theorem size_data(s:ByteArray):Z' s.data.toList=s.size:=by rw[ayI];rfl
theorem R9{o:Oper}{c:Call}{p:POp}{pv:PV}(U:o.op=.call c)(i:T.call o c=some p)(hw:p.eT=false)(hk:p.sW=false)(l:bD p F H=some pv)
  (N:eS ds n E F a) (hW:bY E H w) (O:E.num=T.num):Good T.P E H w o a pv:=by
 unfold Tbl.call at i;split at i
 ·rename_i b B;split at i
  ·
   rename_i x t A S;have W:=acX A a.eval;have e2:=ajP S;split at i
   ·rename_i k e M;cases i;simp[bD,aR.ev]at l;subst l;refine oY (s:=Builtin.len_ c.argTypes o.type (c.args.map a.eval)) U B (λcs=>rfl) hW ⟨goInt k,?_,.int _ _⟩;rw[W,e2];simp[Builtin.len_,run_underlying M]
   ·rename_i M;simp only[avM]at i;obtain⟨q,hq,rfl⟩:=i;simp only[bD]at l;split at l
    ·rename_i s0 J;cases l;have r:=bQ hq J N O;generalize K:a.eval x=ex at r;cases r with
     |str s=>
     refine oY (s:=Builtin.len_ c.argTypes o.type (c.args.map a.eval)) U B (λcs=>rfl) hW ⟨goInt s.size,?_,?_⟩
     ·rw[W,e2,K];simp[Builtin.len_,run_underlying M]
     ·rw[size_data];exact .int _ _
    ·cases l
   ·rename_i e M;simp only[avM]at i;obtain⟨q,hq,rfl⟩:=i;have β:∀(ad:Option Addr)(m cap:Nat),a.eval x=.slice ad m cap->Good T.P E H w o a (.int .i64 m):=by intro ad m cap K;refine oY (s:=Builtin.len_ c.argTypes o.type (c.args.map a.eval)) U B (λcs=>rfl) hW ⟨goInt m,?_,.int _ _⟩;rw[W,e2,K];simp[Builtin.len_,run_underlying M]
    simp only[bD,azD]at l;obtain⟨u,J,l⟩:=l;have r:=bQ hq J N O;generalize K:a.eval x=ex at r;cases u<;>simp only[PV.tO]at l<;>cases l
    all_goals
     cases r;exact β _ _ _ K
   ·rename_i kt et M;simp only[avM]at i;obtain⟨q,hq,rfl⟩:=i;simp only[bD]at l;split at l
    ·rename_i m J;split at l
     ·rename_i sh g hg;cases l;have r:=bQ hq J N O;generalize K:a.eval x=ex at r;cases r;obtain⟨hlt,es,R,L,hh,⟨α,Z⟩,rfl,-⟩:=hW.h m _ hg;have V:(getObj m).run T.P w=.ok (.map es R) w:=by simp[getObj,Sem.run,hh]
      refine oY (s:=Builtin.len_ c.argTypes o.type (c.args.map a.eval)) U B (λcs=>rfl) hW ⟨goInt es.size,?_,?_⟩
      ·rw[W,e2,K];simp[Builtin.len_,run_underlying M,V]
      ·rw[O1 Z,<-α];exact .int _ _
     ·cases l
    ·cases l
   ·cases i
  ·
   split at i<;>try cases i
   split at i<;>try cases i
   split at i<;>cases i;simp[POp.eT]at hw
  ·
   rename_i x t A S;split at i
   ·rename_i e M;simp only[avM]at i;obtain⟨q,hq,rfl⟩:=i;simp only[bD]at l;split at l
    ·rename_i J;cases l;have r:=bQ hq J N O;generalize K:a.eval x=ex at r;cases r;refine oY (s:=Builtin.cap_ c.argTypes o.type (c.args.map a.eval)) U B (λcs=>rfl) hW ⟨goInt 0,?_,.int _ _⟩;rw[acX A a.eval,ajP S,K];simp[Builtin.cap_,run_underlying M]
    ·cases l
   ·cases i
  ·
   rename_i x y A;split at i<;>cases i;rename_i p q hp hq;simp only[bD]at l;split at l
   ·rename_i k m k' m' X Y;have r1:=bQ hp X N O;have r2:=bQ hq Y N O;split at l
    ·cases l;generalize K:a.eval x=ex at r1;generalize hy:a.eval y=ey at r2;cases r1;cases r2;refine oY (s:=Builtin.max_ c.argTypes o.type (c.args.map a.eval)) U B (λcs=>rfl) hW ⟨_,?_,.int _ _⟩;rw[Nb A a.eval,K,hy,run_max_int2];simp
    ·cases l
   ·cases l
  ·
   rename_i x y A;split at i<;>cases i;rename_i p q hp hq;simp only[bD]at l;split at l
   ·rename_i k m k' m' X Y;have r1:=bQ hp X N O;have r2:=bQ hq Y N O;split at l
    ·cases l;generalize K:a.eval x=ex at r1;generalize hy:a.eval y=ey at r2;cases r1;cases r2;refine oY (s:=Builtin.min_ c.argTypes o.type (c.args.map a.eval)) U B (λcs=>rfl) hW ⟨_,?_,.int _ _⟩;rw[Nb A a.eval,K,hy,run_min_int2];simp
    ·cases l
   ·cases l
  ·cases i
 ·split at i
  ·split at i<;>cases i;simp[POp.sW]at hk
  ·cases i
 ·simp only[avM]at i;obtain⟨q,-,rfl⟩:=i;simp[POp.sW]at hk
 ·cases i
end
open Go Go.RowKit
section
variable {ds:List Deferred} {T:Tbl} {n:Nat} {E:Env} {F:PF} {H:PH} {a:Act} {w:World}
set_option maxHeartbeats 8000000 in
theorem Ni{o:Oper}{p:POp}{pv:PV}(B:T.op o=some p)(hn:p.iN=false)(hw:p.eT=false)(hk:p.sW=false)(A:bD p F H=some pv)
  (N:eS ds n E F a) (hW:bY E H w) (M:E.num=T.num):Good T.P E H w o a pv:=by
 unfold Tbl.op at B;split at B
 
 rename_i x K;simp only[avM]at B;obtain⟨q,hq,rfl⟩:=B;exact .mk' hW (v:=a.eval x) (by unfold execOp;rw[K];simp) (bQ hq A N M)
 
 rename_i x K;simp only[avM]at B;obtain⟨q,hq,rfl⟩:=B;exact .mk' hW (v:=a.eval x) (by unfold execOp;rw[K];simp) (bQ hq A N M)
 
 rename_i c x y K;split at B<;>cases B;rename_i p1 p2 p3 R W h3;simp only[bD]at A;split at A;rename_i t J;have r:=bQ R J N M;generalize V:a.eval c=ec at r;cases r;refine .mk' hW (v:=if t then a.eval x else a.eval y) (by unfold execOp;rw[K];simp[V,asBool]) ?_;cases t;exact bQ h3 (by simpa using A) N M;exact bQ W (by simpa using A) N M;cases A
 
 simp only[avM]at B;obtain⟨z,-,rfl⟩:=B;simp[POp.iN]at hn
 ·
  rename_i e x K;simp only[avM]at B;obtain⟨q,hq,rfl⟩:=B;generalize ρ:T.vk o.dst=ro at *
  cases ro with
  |false=>simp[POp.iN]at hn
  |true =>simp only[bD]at A;split at A;rename_i v J;split at A;rename_i R;cases A;exact .of (s:=Instr.box e (a.eval x)) (by unfold execOp;rw[K]) (Ja hW (bQ hq J N M) R);cases A;cases A
 
 rename_i t parts K;split at B;rename_i z fs hz O;split at B;rename_i hm;simp only[avM]at B;obtain⟨pl,γ,rfl⟩:=B;simp only[bD,avM]at A;obtain⟨out,Y,rfl⟩:=A;have U:=ZX (T:=T) (w:=w) hz (.inl ⟨fs,O,hm,γ⟩) Y N M;refine Good.val hW ?_ U;unfold execOp;rw[K];cases B;rename_i z k e hz O;split at B;rename_i s S;simp only[avM]at B;obtain⟨pl,γ,rfl⟩:=B;simp only[bD,avM]at A;obtain⟨out,Y,rfl⟩:=A;have U:=ZX (T:=T) (w:=w) hz (.inr ⟨k,e,s,O,S,γ⟩) Y N M;refine Good.val hW ?_ U;unfold execOp;rw[K];cases B;cases B
 
 rename_i t len parts K;split at B;rename_i e O;split at B;rename_i s z pl S hz γ;split at B
 ·rename_i κ;cases B;generalize ρ:T.vk o.dst=ro at *
  cases ro with
  |false=>simp[POp.iN]at hn
  |true =>simp only[bD]at A;split at A;rename_i η;simp only[avM]at A;obtain⟨out,Y,rfl⟩:=A;have U:=u6 (T:=T) O S hz κ.1 κ.2 γ η.2 Y N M hW;refine Good.of ?_ U;unfold execOp;rw[K];cases A
 cases B;cases B;cases B
 
 rename_i t x K;split at B;rename_i k q hg S hq;cases B;simp only[bD]at A;split at A;rename_i v J;simp only[avM]at A;obtain⟨cs,β,rfl⟩:=A;have V:=bQ hq J N M;have U:=bu (T:=T) hg S hW V β;refine Good.val hW (s:=Instr.loadAt t (a.eval x)) ?_ U;unfold execOp;rw[K];cases A;rename_i k q hg hq;cases B;simp only[bD]at A;split at A;rename_i v J;split at A;rename_i v' β;cases A;have V:=bQ hq J N M;have U:=pu (T:=T) hg hW V β;refine Good.val hW (s:=Instr.loadAt t (a.eval x)) ?_ U;unfold execOp;rw[K];cases A;cases A;cases B
 
 split at B<;>cases B;simp[POp.eT]at hw
 
 rename_i x K;simp only[avM]at B;obtain⟨q,hq,rfl⟩:=B;simp only[bD]at A;split at A;rename_i J;cases A;have r:=bQ hq J N M;refine .mk' hW (v:=a.eval x) ?_ r;generalize V:a.eval x=ex at r;cases r;unfold execOp;rw[K];simp[V];rename_i J;cases A;have r:=bQ hq J N M;refine .mk' hW (v:=a.eval x) ?_ r;obtain⟨b,off,V⟩:=WF r;unfold execOp;rw[K];simp[V];cases A
 
 rename_i b t x y yt K;split at B;rename_i p q hp hq;have X:∀b',b=b'->bD (.bin b' p q) F H=some pv->Good T.P E H w o a pv:=by intro b' hb A;subst hb;simp only[bD]at A;split at A;rename_i v1 v2 R W;exact .val hW (s:=do eqGuard b t x y (a.eval x) (a.eval y);binOp b t (a.eval x) (a.eval y)) (by unfold execOp;rw[K]) (R6 (bQ hp R N M) (bQ hq W N M) A t x y);cases A
 have α:∀neg,b=(if neg then .neq else .eql)->T.P.underlying t=some .bool->bD (.eqb neg p q) F H=some pv->Good T.P E H w o a pv:=by intro neg hb Z A;simp only[bD]at A;split at A;rename_i v1 v2 R W;cases A;have r1:=bQ hp R N M;have r2:=bQ hq W N M;generalize V:a.eval x=ex at r1;generalize U:a.eval y=ey at r2;cases r1;cases r2;refine .val hW (s:=do eqGuard b t x y (a.eval x) (a.eval y);binOp b t (a.eval x) (a.eval y)) (by unfold execOp;rw[K]) ⟨_,?_,.bool _⟩;rw[V,U,hb];exact St neg v1 v2 x y Z;cases A
 have δ:∀neg {e},b=(if neg then .neq else .eql)->T.P.underlying t=some (.slice e)->q=.const .aJ->bD (.isNil neg p) F H=some pv->Good T.P E H w o a pv:=by
  intro neg e hb Z ο A;subst ο;simp only[bD]at A;cases R:p.ev F with
  |none=>rw[R]at A;cases A
  |some v1 =>rw[R,ayV,avM]at A;obtain⟨c,ε,rfl⟩:=A;have r1:=bQ hp R N M;have r2:=bQ (F:=F) hq rfl N M;generalize V:a.eval x=ex at r1;generalize U:a.eval y=ey at r2;cases r2;refine .val hW (s:=do eqGuard b t x y (a.eval x) (a.eval y);binOp b t (a.eval x) (a.eval y)) (by unfold execOp;rw[K]) ⟨_,?_,.bool _⟩;rw[V,U,hb];exact Jo neg r1 ε x y Z
 have ι:∀neg ks,b=(if neg then .neq else .eql)->T.flat t=some ks->bD (.eqs neg ks p q) F H=some pv->Good T.P E H w o a pv:=by intro neg ks hb Z A;simp only[bD]at A;split at A;rename_i v1 v2 R W;simp only[avM]at A;obtain⟨c,ε,rfl⟩:=A;refine .val hW (s:=do eqGuard b t x y (a.eval x) (a.eval y);binOp b t (a.eval x) (a.eval y)) (by unfold execOp;rw[K]) ⟨_,?_,.bool _⟩;rw[hb];exact Nv neg (bQ hp R N M) (bQ hq W N M) ε x y Z;cases A
 split at B;split at B;cases B;exact X _ rfl A;cases B;exact X _ rfl A;rename_i Z;cases B;exact α false rfl Z A;simp only[avM]at B;obtain⟨ks,ζ,rfl⟩:=B;exact ι false ks rfl ζ A;rename_i Z;split at B;cases B;exact δ false rfl Z rfl A;cases B;cases B;split at B;cases B;exact X _ rfl A;cases B;exact X _ rfl A;rename_i Z;cases B;exact α true rfl Z A;simp only[avM]at B;obtain⟨ks,ζ,rfl⟩:=B;exact ι true ks rfl ζ A;rename_i Z;split at B;cases B;exact δ true rfl Z rfl A;cases B;cases B;cases B;exact X _ rfl A;cases B
 
 rename_i u t x K;simp only[avM]at B;obtain⟨q,hq,rfl⟩:=B;simp only[bD]at A;split at A;rename_i v J;exact .val hW (s:=Op.unary u (a.eval x)) (by unfold execOp;rw[K]) (abT (bQ hq J N M) A);cases A
 
 rename_i s d x K;split at B;rename_i k k' q S hd hq;cases B;simp only[bD]at A;split at A;rename_i m J;cases A;have r:=bQ hq J N M;generalize V:a.eval x=ex at r;cases r;refine .val hW (s:=convert s d (a.eval x)) (by unfold execOp;rw[K]) ⟨_,?_,.int _ _⟩;rw[V];simp[convert,run_underlying S,run_underlying hd,Conv.intToInt];cases A;rename_i q S hd hq;cases B;simp only[bD]at A;split at A;rename_i l J;cases A;have r:=bQ hq J N M;refine .val hW (s:=convert s d (a.eval x)) (by unfold execOp;rw[K]) ⟨a.eval x,?_,r⟩;generalize V:a.eval x=ex at r;cases r;simp[convert,run_underlying S,run_underlying hd];cases A;rename_i e q S hd hq;split at B;rename_i he;cases B;simp only[bD]at A;split at A;rename_i v J;split at A;rename_i rows hr;simp only[avM]at A;obtain⟨l,hl,rfl⟩:=A;exact .val hW (s:=convert s d (a.eval x)) (by unfold execOp;rw[K]) (mb S he hd hW (bQ hq J N M) hr hl);cases A;cases A;cases B;cases B
 
 rename_i f first captured K
 split at B;rename_i m cs hm β;split at B;rename_i hf;cases B;simp only[bD,avM]at A;obtain⟨vs,υ,rfl⟩:=A;have r:=EQ β υ N M;refine .val hW (s:=Instr.makeFunc (.func f) (first.map a.eval) (captured.map a.eval)) (by unfold execOp;rw[K]) ⟨.func (.func f) #[] (captured.map a.eval),?_,?_⟩;have:first=#[]:=Array.eq_empty_of_size_eq_zero hf.2
 subst this;simp[Instr.makeFunc];have hl:=r.len;have:=bH.fn (E:=E) (name:=m) (captured:=vs) (captured.map a.eval) (by simpa using hl) (λj p v a b=>r.at_ j p v a (by simpa using b));rw[M,hf.1]at this;exact this;cases B;cases B
 
 split at B;simp only[avM]at B;obtain⟨z,-,rfl⟩:=B;simp[POp.iN]at hn;cases B
 
 rename_i t x k ok K;split at B;rename_i kt et O;split at B;rename_i sh z p1 q1 τ hz hp hq;simp only[avM]at B;obtain⟨pz,ξ,rfl⟩:=B;simp only[azD]at hz;obtain⟨φ,hi,hz⟩:=hz;simp only[bD]at A;split at A;rename_i m kv R W;split at A;rename_i ω g ψ h3 h4;split at A;rename_i he;subst he;cases A;exact .val hW (s:=Instr.lookup t (a.eval x) (a.eval k) ok) (by unfold execOp;rw[K]) (Fj O τ hi hz ξ (bQ hp R N M) (bQ hq W N M) h3 h4 hW);cases A;cases A;cases A;cases B;cases B
 
 split at B;split at B<;>cases B;simp[POp.eT]at hw;cases B
 
 split at B;split at B<;>cases B;simp[POp.eT]at hw;cases B
 
 split at B;split at B;split at B<;>cases B;simp[POp.iN]at hn;cases B;cases B
 
 rename_i t x lo hi mx K;split at B;rename_i e p l h m O V hl hh hm;split at B;cases B;rename_i μ;simp only[avM]at B;obtain⟨s,S,rfl⟩:=B;exact Nh K O S V hl hh hm μ A N hW M;rename_i p l h O V hl hh hm;cases B;have ν:mx=none:=by
  cases mx with
  |none=>rfl
  |some y=>simp only[Tbl.opt,avM]at hm;obtain⟨_,-,hq⟩:=hm;cases hq
 subst ν;simp only[bD]at A;split at A;rename_i str J;split at A;rename_i li χ bl bh;split at A;rename_i hb;cases A;exact .val hW (s:=Instr.sliceAt t (a.eval x) (lo.map a.eval) (hi.map a.eval) (Option.map a.eval none)) (by unfold execOp;rw[K]) (xe O hl hh (bQ V J N M) bl bh hb.1 hb.2.1 hb.2.2 N M);cases A;cases A;cases A;rename_i n' e p O V hl hh hm;have θ:∀{y:Option Operand},T.opt y=some none->y=none:=by
  intro y U;cases y with
  |none=>rfl
  |some y=>simp only[Tbl.opt,avM]at U;obtain⟨_,-,hq⟩:=U;cases hq
 have R:=θ hl;have W:=θ hh;have h3:=θ hm;subst R W h3;simp only[avM]at B;obtain⟨s,S,rfl⟩:=B;simp only[bD]at A;split at A;rename_i cs J;split at A;rename_i hb;cases A;exact .val hW (s:=Instr.sliceAt t (a.eval x) (Option.map a.eval none) (Option.map a.eval none) (Option.map a.eval none)) (by unfold execOp;rw[K]) (Hz O S (bQ V J N M) hb.1 hb.2.2 N M);cases A;cases A;cases B
 
 rename_i t x f K;split at B;rename_i fs q O hq;split at B;rename_i fd hf;split at B;rename_i s S;cases B;simp only[bD]at A;split at A;rename_i J;cases A;exact .val hW (s:=Instr.fieldAt t (a.eval x) f) (by unfold execOp;rw[K]) (UN O hf S (bQ hq J N M) (.inl ⟨_,_,_,_,rfl,rfl⟩));rename_i J;cases A;exact .val hW (s:=Instr.fieldAt t (a.eval x) f) (by unfold execOp;rw[K]) (UN O hf S (bQ hq J N M) (.inr ⟨_,rfl,rfl⟩));cases A;cases B;cases B;cases B
 
 rename_i t x f K;split at B;rename_i fs q O hq;split at B;rename_i fd hf;split at B;rename_i k hg S;cases B;simp only[bD]at A;split at A;rename_i cs J;split at A;rename_i η;cases A;exact .val hW (s:=Instr.field t (a.eval x) f) (by unfold execOp;rw[K]) (Nx O hf hg S (bQ hq J N M) η);cases A;cases A;rename_i k hg;cases B;simp only[bD]at A;split at A;rename_i cs J;exact .val hW (s:=Instr.field t (a.eval x) f) (by unfold execOp;rw[K]) (Sw O hf hg (bQ hq J N M) A);cases A;cases B;cases B;cases B
 
 rename_i t x i K;split at B;rename_i e p q O hp hq;simp only[avM]at B;obtain⟨s,S,rfl⟩:=B;simp only[bD]at A;split at A;rename_i s0 rows k m R W;have r1:=bQ hp R N M;have r2:=bQ hq W N M;generalize U:a.eval i=ey at r2;cases r2;split at A;rename_i B;obtain⟨rfl,h0⟩:=B;split at A;rename_i r hr;cases A;refine .val hW (s:=Instr.indexAt t (a.eval x) (a.eval i)) (by unfold execOp;rw[K]) ?_;rw[U];exact afO O S r1 h0 hr;cases A;cases A;rename_i o' s0 off len k m R W;have r1:=bQ hp R N M;have r2:=bQ hq W N M;generalize U:a.eval i=ey at r2;cases r2;split at A;rename_i B;obtain⟨rfl,h0,hi⟩:=B;cases A;refine .val hW (s:=Instr.indexAt t (a.eval x) (a.eval i)) (by unfold execOp;rw[K]) ?_;rw[U];exact Yr O S r1 h0 hi;cases A;cases A;rename_i e p q k O hp hq;simp only[avM]at B;obtain⟨s,S,rfl⟩:=B;simp only[bD]at A;split at A;rename_i R W;have r1:=bQ hp R N M;have r2:=bQ hq W N M;generalize U:a.eval i=ey at r2;cases r2;split at A;rename_i B;cases A;refine .val hW (s:=Instr.indexAt t (a.eval x) (a.eval i)) (by unfold execOp;rw[K]) ?_;rw[U];exact oz O S r1 B.1 B.2 (.inl ⟨_,_,_,_,rfl,rfl⟩);cases A;rename_i R W;have r1:=bQ hp R N M;have r2:=bQ hq W N M;generalize U:a.eval i=ey at r2;cases r2;split at A;rename_i B;cases A;refine .val hW (s:=Instr.indexAt t (a.eval x) (a.eval i)) (by unfold execOp;rw[K]) ?_;rw[U];exact oz O S r1 B.1 B.2 (.inr ⟨_,rfl,rfl⟩);cases A;cases A;cases B
 
 rename_i t x i K;split at B;rename_i e p q k O hp hq;split at B;rename_i s g S hg;cases B;simp only[bD]at A;split at A;rename_i R W;have r1:=bQ hp R N M;have r2:=bQ hq W N M;generalize U:a.eval i=ey at r2;cases r2;split at A;rename_i B;refine .val hW (s:=Instr.index t (a.eval x) (a.eval i)) (by unfold execOp;rw[K]) ?_;rw[U];exact On O S hg r1 B.1 B.2 A;cases A;cases A;cases B;rename_i p q O hp hq;cases B;simp only[bD]at A;split at A;rename_i R W;have r1:=bQ hp R N M;have r2:=bQ hq W N M;generalize U:a.eval i=ey at r2;cases r2;split at A;rename_i B;refine .val hW (s:=Instr.index t (a.eval x) (a.eval i)) (by unfold execOp;rw[K]) ?_;rw[U];exact E0 O r1 B A;cases A;cases A;cases B
 
 rename_i x i K;simp only[avM]at B;obtain⟨q,hq,rfl⟩:=B;simp only[bD]at A;split at A
 ·rename_i vs J;have r:=bQ hq J N M;generalize V:a.eval x=ex at r;cases r with
  |tup us hl hr=>
  obtain⟨u,O,σ⟩:=Dm hl hr A;refine .val hW (s:=Instr.extract (a.eval x) i) (by unfold execOp;rw[K]) ⟨u,?_,σ⟩;rw[V];simp[Instr.extract,O]
 cases A;rename_i c K;exact R9 K B hw hk A N hW M;cases B
end
open Go Go.RowKit
def Env.own(E:Env)(b n:Nat):Env:=⟨E.G,upd E.sz b (some n),E.num⟩
section
variable {ds:List Deferred} {T:Tbl} {n:Nat} {E:Env} {F:PF} {H:PH} {a:Act} {w:World}
theorem Env.akG(hW:bY E H w)(m:Nat):E.le (E.own w.heap.size m):=by
 refine⟨λb ds h=>h,λb k h=>?_,rfl⟩;have:=hW.Ht h;simp only[Env.own];rw[XI _ _ Om];exact h
theorem BZ{s:Nat}{rs:P2_}(h:∀r∈rs,Z' r=s){i j:Nat}{pv:PV}(hp:at2 rs i j=some pv):i<Z' rs/\j<s:=by
 unfold at2 at hp;cases e:rs[i]? with
 |none=>simp[e]at hp
 |some r=>
  rw[e,ayV]at hp;have l:=h r (axF e);refine⟨?_,?_⟩;rcases avX i rs.length with h'|h'
  exact h';rw[awN h']at e;cases e;rcases avX j r.length with h'|h'
  omega;rw[awN h']at hp;cases hp
def nA(E:Env)(s:Nat)(rs:P2_)(cs:Array Value):Prop:=
 (∀r∈rs,Z' r=s)/\Z' rs*s<=cs.size/\∀i j pv,at2 rs i j=some pv->∃u,cs[i*s+j]?=some u/\u.oneCell'=true/\bH E pv u
theorem nA.of_flat{s:Nat}{rs:P2_}{cs:Array Value}(h:rB E rs.flatten cs)(l:∀r∈rs,Z' r=s):nA E s rs cs:=by
 refine⟨l,by rw[h.1,tF rs l];exact avD _,λi j pv hp=>?_⟩;obtain⟨-,u⟩:=BZ l hp;have e:=BH rs i j l u;rw[hp]at e;have hlt:i*s+j<cs.size:=by
  rw[h.1];rcases avX (i*s+j) rs.flatten.length with h'|h'
  exact h';rw[awN h']at e;cases e
 exact⟨cs[i*s+j],ayW hlt,h.2.1 _ (Array.getElem_mem_toList hlt),h.2.2 _ pv _ e (ayW hlt)⟩
theorem nA.mono{e:Env}(A:E.le e){s:Nat}{rs:P2_}{cs:Array Value}(h:nA E s rs cs):nA e s rs cs:=
 ⟨h.1,h.2.1,λi j pv hp=>by obtain⟨u,l,x,y⟩:=h.2.2 i j pv hp;exact⟨u,l,x,y.mono A⟩⟩
theorem cV(H:PH)(o q:Nat)(x:aV):(H.set o x).f q=if q=o then some x else H.f q:=rfl
theorem bY.TQ(hW:bY E H w){s:Nat}{rs:P2_}{cs:Array Value}(ty:TypeId)(h:nA E s rs cs) :
  bY (E.own w.heap.size cs.size) (H.set w.heap.size (.rows s rs)) (w.alloc (.cells cs ty))/\Ext E H w (E.own w.heap.size cs.size) (H.set w.heap.size (.rows s rs)) (w.alloc (.cells cs ty)):=by
 have B:=Env.akG hW cs.size;refine⟨⟨λb ds hb=>?_,λo x l=>?_,λo m K=>?_⟩,⟨B,rfl,rfl,rfl,by simp,λb hb _=>Below.heap_alloc w _ b hb,λo x l=>?_,λb ds hb=>.inl hb⟩⟩;obtain⟨y,J,fr,A⟩:=hW.g b ds hb;have hlt:=hW.N5 hb;refine⟨λx N=>y x ?_,J,fr,(Below.heap_alloc w _ b hlt).trans A⟩;rw[cV,aC Om]at N;exact N;rw[cV]at l;split at l;rename_i e;subst e;cases l;refine⟨by simp,cs,ty,heap_alloc_new w _,by simp[Env.own,upd],h.1,h.2.1,λi j pv hp=>?_⟩;obtain⟨u,y,A,O⟩:=h.2.2 i j pv hp;exact⟨u,y,A,O.mono B⟩;obtain⟨y,A⟩:=hW.h o x l;exact⟨by simp;omega,A.mono B (Below.heap_alloc w _ o y)⟩;simp only[Env.own,upd]at K;split at K;rename_i e;cases K;subst e;exact⟨cs,ty,(0,0),heap_alloc_new w _,rfl⟩;obtain⟨M,J,fr,y,A⟩:=hW.s o m K;exact⟨M,J,fr,(Below.heap_alloc w _ o (hW.Ht K)).trans y,A⟩;rw[cV]at l;split at l;rename_i e;exact .inr Om;exact .inl ⟨x,l⟩
theorem bY.ajM(hW:bY E H w)(sh:MSh):bY E (H.set w.heap.size (.map sh (λ_=>none))) (w.alloc (.map #[] 0))/\Ext E H w E (H.set w.heap.size (.map sh (λ_=>none))) (w.alloc (.map #[] 0)):=by
 refine⟨⟨λb ds hb=>?_,λo x l=>?_,λo m J=>?_⟩,⟨.refl E,rfl,rfl,rfl,by simp,λb hb _=>Below.heap_alloc w _ b hb,λo x l=>?_,λb ds hb=>.inl hb⟩⟩;obtain⟨y,u,fr,A⟩:=hW.g b ds hb;have hlt:=hW.N5 hb;refine⟨λx K=>y x ?_,u,fr,(Below.heap_alloc w _ b hlt).trans A⟩;rw[cV,aC Om]at K;exact K;rw[cV]at l;split at l;rename_i e;subst e;cases l;exact⟨by simp,#[],0,[],heap_alloc_new w _,⟨rfl,List.nodup_nil⟩,rfl,λi e M h=>by simp at h⟩;obtain⟨y,A⟩:=hW.h o x l;exact⟨by simp;omega,A.mono (.refl E) (Below.heap_alloc w _ o y)⟩;obtain⟨B,u,fr,y,A⟩:=hW.s o m J;exact⟨B,u,fr,(Below.heap_alloc w _ o (hW.Ht J)).trans y,A⟩;rw[cV]at l;split at l;rename_i e;exact .inr Om;exact .inl ⟨x,l⟩
def amQ(P:Program)(E:Env)(H:PH)(w:World)(o:Oper)(a:Act)(l:Nat->PV)(x:aV):Prop:=
 ∃v i e q,(execOp a.eval o).run P w=.ok (.value v) i/\H q=none/\bH e (l q) v/\bY e (H.set q x) i/\Ext E H w e (H.set q x) i
theorem ru{cs:V_}{vs:Array Value}(h:rB E cs vs):nA E cs.length [cs] vs:=by
 refine .of_flat (by simpa using h) aZ
theorem G5(E:Env)(b m:Nat):(E.own b m).sz b=some m:=by simp[Env.own,upd]
theorem Jc{o:Oper}{c:Call}{p:POp}(e:T.call o c=some p):p.iN=false:=by
 unfold Tbl.call at e
 repeat' (first|(split at e)|(simp only[avM]at e;obtain⟨_,-,rfl⟩:=e;rfl)|(cases e;rfl)|(cases e;done))
theorem T4{o:Oper}{p:POp}{mk:Nat->PV}{x:aV}(u:T.op o=some p)(X:p.iN=true)(B:cN p F=some (mk,x))(hA:eS ds n E F a)(hW:bY E H w)(hN:E.num=T.num):amQ T.P E H w o a mk x:=by
 have J:=hW.Oj;unfold Tbl.op at u;split at u
 case h_4=>
  rename_i e O;simp only[avM]at u;obtain⟨z,hz,rfl⟩:=u;simp only[cN,awV.injEq,Prod.mk.injEq]at B;obtain⟨rfl,rfl⟩:=B;obtain⟨i,zv,hi,W,Z⟩:=SM (E:=E) hz;obtain⟨h1,h2⟩:=hW.TQ e (ru Z);have A:(Instr.alloc e true (.tuple #[])).run T.P w=.ok (.pointer (some ⟨w.heap.size,0,none⟩)) (w.alloc (.cells zv.cells e)):=by simp[Instr.alloc,zeroValue,typeInfo,hi,W,newVar,newRow]
  refine⟨_,_,_,w.heap.size,yQ ?_ A,J,?_,h1,h2⟩
  ·unfold execOp;rw[O]
  ·have:=bH.ptr (E:=E.own w.heap.size zv.cells.size) w.heap.size z.length 0 0;simpa using this
 case h_5=>
  rename_i e y O;simp only[avM]at u;obtain⟨q,hq,rfl⟩:=u;generalize ζ:T.vk o.dst=ro at *
  cases ro with
  |true=>simp[POp.iN]at X
  |false=>
   simp only[cN]at B;split at B
   ·rename_i v Y;split at B
    ·rename_i h1;simp only[awV.injEq,Prod.mk.injEq]at B;obtain⟨rfl,rfl⟩:=B;obtain⟨c1,c2,c3⟩:=CC (bQ hq Y hA hN) h1;obtain⟨g1,g2⟩:=hW.TQ e (ru (E:=E) (cs:=v.cells) (vs:=(a.eval y).cells) ⟨c1,c2,c3⟩);have A:(Instr.box e (a.eval y)).run T.P w=.ok (.pointer (some ⟨w.heap.size,0,none⟩)) (w.alloc (.cells (a.eval y).cells e)):=by simp[Instr.box,newVar,newRow]
     refine⟨_,_,_,w.heap.size,yQ ?_ A,J,?_,g1,g2⟩
     ·unfold execOp;rw[O]
     ·have:=bH.ptr (E:=E.own w.heap.size (a.eval y).cells.size) w.heap.size v.cells.length 0 0;simpa using this
    ·cases B
   ·cases B
 case h_7=>
  rename_i t len parts O;split at u
  ·rename_i e hu;split at u
   ·rename_i s z pl hs hz ε;split at u
    ·rename_i K;cases u;generalize ζ:T.vk o.dst=ro at *
     cases ro with
     |true=>simp[POp.iN]at X
     |false=>
      simp only[cN]at B;split at B
      ·rename_i δ;simp only[avM,Prod.mk.injEq]at B;obtain⟨out,γ,rfl,rfl⟩:=B;obtain⟨us,A,N,S,β⟩:=TX (w:=w) hu hs hz K.1 K.2 ε δ.2 γ hA hN;obtain⟨g1,g2⟩:=hW.TQ e (nA.of_flat N S);refine⟨_,_,_,w.heap.size,yQ ?_ A,J,?_,g1,g2⟩
       ·unfold execOp;rw[O]
       ·have θ:us.size=len*s:=by rw[N.1,tF out S,β]
        refine .osl (n:=us.size) rfl rfl (.inr aZ) (avD _) ?_ (G5 _ _ _) (by rw[θ];omega);have:len*1<=len*s:=axW _ K.2;simp only[maxLen];omega
      ·cases B
    ·cases u
   ·cases u
  ·cases u
 case h_15=>
  rename_i t O;split at u
  case h_2=>cases u
  simp only[avM]at u;obtain⟨sh,-,rfl⟩:=u;simp only[cN,awV.injEq,Prod.mk.injEq]at B;obtain⟨rfl,rfl⟩:=B;obtain⟨g1,g2⟩:=hW.ajM sh;have A:(Instr.makeMap t (Option.map a.eval none)).run T.P w=.ok (.map (some w.heap.size)) (w.alloc (.map #[] 0)):=by simp[Instr.makeMap]
  refine⟨_,_,_,w.heap.size,yQ ?_ A,J,.map _,g1,g2⟩;unfold execOp;rw[O]
 case h_19=>
  rename_i t l c O;split at u
  ·rename_i e hu;split at u
   ·rename_i i z p q hi hz hp hq;split at u
    ·rename_i K;cases u;simp only[cN]at B;split at B
     ·rename_i k1 m1 k2 U Y ι;split at B
      ·rename_i V;simp only[awV.injEq,Prod.mk.injEq]at B;obtain⟨rfl,rfl⟩:=B;obtain⟨h0,h1,h2,h3,-⟩:=V;have r1:=bQ hp Y hA hN;have r2:=bQ hq ι hA hN;generalize hx:a.eval l=ex at r1;generalize hy:a.eval c=ey at r2;cases r1;cases r2;obtain⟨i',zv,α,W,Z⟩:=SM (E:=E) hz;rw[hi]at α;cases α;have A:=run_make w t e i zv hu hi W k1 k2 m1 U h0 h1 (by rw[Int.mul_comm];omega) h3;have N:=Z.adO (len:=U.toNat) K.1 K.2;have R:nA E i.size (avA U.toNat z) (madeCells zv.cells (U.toNat*i.size)):=
        nA.of_flat N (λr hr=>by rw[(List.mem_replicate.1 hr).2];exact K.1)
       have η:nA E i.size (avA m1.toNat z) (madeCells zv.cells (U.toNat*i.size)):=by
        refine⟨λr hr=>by rw[(List.mem_replicate.1 hr).2];exact K.1,?_,λa b pv M=>R.2.2 a b pv ?_⟩
        ·have:=R.2.1;simp only[List.length_replicate]at this ⊢;have h5:m1.toNat*i.size<=U.toNat*i.size:=awI _ Om;omega
        ·unfold at2 at M ⊢;rw[List.getElem?_replicate]at M ⊢;split at M
         ·rw[aF Om];exact M
         ·simp at M
       obtain⟨g1,g2⟩:=hW.TQ e η;refine⟨_,_,_,w.heap.size,yQ (s:=Instr.makeSlice t (.int k1 m1) (.int k2 U)) ?_ A,J,?_,g1,g2⟩
       ·unfold execOp;rw[O];simp only[hx,hy]
       ·refine .osl (n:=(madeCells zv.cells (U.toNat*i.size)).size) rfl rfl (.inr aZ) Om (by simp only[maxLen];omega) (G5 _ _ _) (by rw[size_madeCells];omega)
      ·cases B
     ·cases B
    ·cases u
   ·cases u
  ·cases u
 all_goals (first
  |(simp only[avM]at u;obtain⟨_,-,rfl⟩:=u;simp[POp.iN]at X;done)
  |skip)
 all_goals (repeat' (first|(split at u)|(simp only[avM]at u;obtain⟨_,-,rfl⟩:=u;simp[POp.iN]at X;done)|(cases u;simp[POp.iN]at X;done)|(cases u;done)))
 all_goals (rw[Jc u]at X;cases X)
end
open Go Go.RowKit
section
variable {ds:List Deferred} {T:Tbl} {n:Nat} {E:Env} {F:PF} {H:PH} {a:Act} {w:World}
theorem bY.ZL(hW:bY E H w){o s:Nat}{rs rs':P2_}{u cs:Array Value}{ty:TypeId}(O:H o=some (.rows s rs))(U:w.heap[o]?=some (.cells u ty (0,0)))(R:cs.size=u.size)
  (h:nA E s rs' cs):bY E (H.set o (.rows s rs')) (w.setRow o cs)/\Ext E H w E (H.set o (.rows s rs')) (w.setRow o cs):=by
 have l:=setRow_heap w o u cs ty (0,0) U;have i:∀b,b≠o->(w.setRow o cs).heap[b]?=w.heap[b]?:=λb hb=>setRow_other w o b cs hb;have K:∀b ds,E.G b=some ds->b≠o:=λb ds hb e=>by subst e;have:=(hW.g b ds hb).1 _ O;cases this
 have M:E.sz o=some u.size:=by obtain⟨-,A,y,B,J,-⟩:=hW.h o _ O;rw[U]at B;cases B;exact J
 refine⟨⟨λb ds hb=>?_,λq x hq=>?_,λq m S=>?_⟩,⟨.refl E,rfl,rfl,rfl,by simp,λb _ V=>i b (λe=>by subst e;rw[O]at V;cases V),λq x hq=>?_,λb ds hb=>.inl hb⟩⟩;obtain⟨B,y,fr,J⟩:=hW.g b ds hb;have N:=K b ds hb;refine⟨λx W=>B x ?_,y,fr,(i b N).trans J⟩;rw[cV,aC N]at W;exact W;rw[cV]at hq;split at hq;rename_i e;subst e;cases hq;refine⟨by simpa using(hW.h q _ O).1,cs,ty,l,by rw[R];exact M,h.1,h.2.1,h.2.2⟩;rename_i e;obtain⟨B,J⟩:=hW.h q x hq;exact⟨by simpa using B,J.mono (.refl E) (i q e)⟩;by_cases e:q=o;subst e;rw[M]at S;cases S;exact⟨cs,ty,(0,0),l,R⟩;obtain⟨A,y,fr,B,J⟩:=hW.s q m S;exact⟨A,y,fr,(i q e).trans B,J⟩;rw[cV]at hq;split at hq;rename_i e;subst e;exact .inl ⟨_,O⟩;exact .inl ⟨x,hq⟩
def Dj(P:Program)(E:Env)(H:PH)(w:World)(o:Oper)(a:Act)(K:R_):Prop:=
 ∃v i l e H' pv,(execOp a.eval o).run P w=.ok i l/\(i=.value v\/(i=.skip/\v=undef))/\bH e pv v/\bY e H' l/\Ext E H w e H' l/\K pv H'
theorem WM:∀(ps:V_)(r:V_)(c j:Nat),c+Z' ps<=Z' r->(setCells r c ps)[j]?=if c<=j/\j<c+ps.length then ps[j-c]? else r[j]?
 |[],r,c,j,_=>by rw[aC (by intro h;simp at h;omega)];rfl
 |p::ps,r,c,j,h=>by simp only[awK]at h ⊢;simp only[setCells];rw[WM ps _ (c+1) j (by rw[awS];omega),ayZ];by_cases e:c=j;subst e;rw[aC Om,aF rfl,aF Om,aF Om];simp;by_cases i:c+1<=j/\j<c+1+Z' ps;rw[aF i,aF Om];have:j-c=(j-(c+1))+1:=Om;rw[this,List.getElem?_cons_succ];rw[aC i,aC e,aC Om]
theorem Qo(L cs:List Value)(off k:Nat)(h:off+Z' cs<=Z' L):(L.take off++cs++L.drop (off+Z' cs))[k]?=if off<=k/\k<off+cs.length then cs[k-off]? else L[k]?:=by
 have e:(L.take off).length=off:=by rw[avN];omega
 by_cases i:k<off;rw[aC Om,awB,axU Om,ayS,aF i];by_cases hb:k<off+Z' cs;rw[aF ⟨by omega,hb⟩,awB,axR Om,e,axU Om];rw[aC Om,awB,axR Om,e,axR Om,ayR];congr 1;omega
theorem nA.store{s:Nat}{rs:P2_}{l:Array Value}(h:nA E s rs l){i c:Nat}{r ps:V_}{B:List Value}(M:rs[i]?=some r)(X:c+Z' ps<=s)(Y:Z' B=Z' ps)
  (V:∀u∈B,u.oneCell'=true) (K:∀(j:Nat) p u,ps[j]?=some p->B[j]?=some u->bH E p u) :
  nA E s (rs.set i (setCells r c ps)) (l.toList.take (i*s+c)++B++l.toList.drop (i*s+c+Z' B)).toArray:=by
 have hi:i<Z' rs:=by
  rcases avX i rs.length with h'|h'
  exact h';rw[awN h']at M;cases M
 have S:Z' r=s:=h.1 r (axF M);have O:(i+1)*s<=Z' rs*s:=awI _ hi;rw[axM]at O;have U:=h.2.1;have J:i*s+c+Z' B<=Z' l.toList:=by(have e:Z' l.toList=l.size:=ayI;omega)
 refine⟨λq hq=>?_,?_,λy j pv hp=>?_⟩;rcases azJ hq with hq|rfl
 exact h.1 q hq;rw[JB];exact S;rw[awS,List.size_toArray];simp only[auZ,avN,awZ];have e:Z' l.toList=l.size:=ayI;omega;rw[List.getElem?_toArray,Qo _ _ _ _ J];by_cases e:y=i;subst e;simp only[at2,ayZ,if_true,hi,ayV]at hp;rw[WM ps r c j Om]at hp;split at hp;rename_i W;rw[aF Om];have e2:y*s+j-(y*s+c)=j-c:=Om;rw[e2];have hlt:j-c<Z' B:=Om;exact⟨B[j-c],avF hlt,V _ (avB hlt),K _ pv _ hp (avF hlt)⟩;rename_i W;have A:at2 rs y j=some pv:=by simp[at2,M,hp]
 have N:=(BZ h.1 A).2;rw[aC Om,Array.getElem?_toList];exact h.2.2 y j pv A;have A:at2 rs y j=some pv:=by simp only[at2]at hp ⊢;rw[ayZ,aC (λx=>e x.symm)]at hp;exact hp
 have N:=(BZ h.1 A).2;have R:¬(i*s+c<=y*s+j/\y*s+j<i*s+c+Z' B):=by
  rcases avX y i with h'|h'
  have:(y+1)*s<=i*s:=awI _ h';rw[axM]at this;omega;have:(i+1)*s<=y*s:=awI _ Om;rw[axM]at this;omega
 rw[aC R,Array.getElem?_toList];exact h.2.2 y j pv A
theorem J6{o:Oper}{t:TypeId}{S x:Operand}{pp px:aR}{k:Nat}{pa pv:PV}{H':PH}(ho:o.op=.store t S x)(hs:T.size t=some k)(hp:T.opd S=some pp)(hx:T.opd x=some px)
  (Y:pp.ev F=some pa) (Z:px.ev F=some pv) (N:Z' pv.cells=k) (l:storeAt H pa pv.cells=some H') (hA:eS ds n E F a) (hW:bY E H w) (hN:E.num=T.num) :
  ∃w',(execOp a.eval o).run T.P w=.ok .skip w'/\bY E H' w'/\Ext E H w E H' w':=by
 unfold storeAt at l;split at l;rename_i q size i c;split at l;rename_i s rs hq;split at l;rename_i J;obtain⟨rfl,U,O⟩:=J;split at l;rename_i r hr;cases l;have ra:=bQ hp Y hA hN;generalize V:a.eval S=ea at ra;cases ra;obtain⟨c1,c2,c3⟩:=CC (bQ hx Z hA hN) O;obtain⟨-,y,ty,hh,β,R,K,B⟩:=hW.h q _ hq;have hR:nA E s rs y:=⟨R,K,B⟩;have hi:i<Z' rs:=by
  rcases avX i rs.length with h'|h'
  exact h';rw[awN h']at hr;cases hr
 have W:(i+1)*s<=Z' rs*s:=awI _ hi;rw[axM]at W;have α:(a.eval x).cells.toList.length=Z' pv.cells:=by simpa using c1
 have M:i*s+c+0+(a.eval x).cells.toList.length<=y.size:=Om;have A:=run_storeCells_at T.P q (i*s+c) ty (a.eval x).cells.toList 0 y w hh M c2;simp only[awQ]at A;obtain⟨g1,g2⟩:=hW.ZL hq hh (cs:=(y.toList.take (i*s+c)++(a.eval x).cells.toList++y.toList.drop (i*s+c+(a.eval x).cells.toList.length)).toArray)
  (by rw[List.size_toArray];simp only[auZ,avN,awZ];have e:Z' y.toList=y.size:=ayI;omega)
  (hR.store hr U α c2 (λj p u hp hu=>c3 j p u hp (by simpa using hu)))
 refine⟨_,?_,g1,g2⟩;unfold execOp;rw[ho];have X:¬((a.eval x).cells.size≠k):=by rw[c1,N];simp
 simp[V,Instr.storeAt,Instr.sureAddr,storeVar,lW hs,X,A];cases l;cases l;cases l;cases l
end
open Go Go.RowKit
section
variable {T:Tbl} {n:Nat} {E:Env} {F:PF} {H:PH} {a:Act} {w:World}
theorem Ah{s:Nat}{pv:PV}{v:Value}{rows:P2_}(P:Program)(hW:bY E H w)(X:bH E pv v)(h:dH H s pv=some rows) :
  ∃N cap,∃news:List Value,v=.slice N rows.length cap/\Z' news=Z' rows*s/\(∀u∈news,u.oneCell'=true)/\(∀r∈rows,Z' r=s) /\
   (∀i j q,at2 rows i j=some q->∃u,news[i*s+j]?=some u/\bH E q u) /\
   ∀A:World,A.heap=w.heap->(Builtin.firstCells s rows.length v).run P A=.ok news.toArray A:=by
 obtain⟨N,cap,rfl,S,l,W⟩:=tt hW X h;by_cases K:rows=[]
 ·subst K;refine⟨N,cap,[],rfl,by simp,by simp,by simp,λi j q hq=>by simp[at2]at hq,λA _=>?_⟩;cases N with
  |none=>simp[Builtin.firstCells]
  |some x=>simp[Builtin.firstCells,Go.loadCells,Go.loadCellsFrom]
 obtain⟨b,off,rfl,e⟩:=W K;have B:∀k,k<Z' rows*s->∃u q,at2 rows (k/s) (k%s)=some q/\w.cell? ⟨b,off+k,none⟩=some u/\u.oneCell'=true/\bH E q u:=by
  intro k y;have U:0<s:=by
   rcases axJ s with h|h
   subst h;simp at y;exact h
  have R:k/s<Z' rows:=(ayO U).2 y;have Y:k%s<s:=awY _ U;have V:k/s*s+k%s=k:=by rw[awF];exact azF k s
  have hq:∃q,at2 rows (k/s) (k%s)=some q:=by have hl:=l rows[k/s] (avB R);exact⟨rows[k/s][k%s]'Om,by simp[at2,R,avF (Om:k%s<rows[k/s].length)]⟩
  obtain⟨q,hq⟩:=hq;obtain⟨u,g1,g2,g3⟩:=e _ _ q hq;rw[V]at g1;exact⟨u,q,hq,g1,g2,g3⟩
 refine⟨_,cap,(auX (Z' rows*s)).map λk=>(w.cell? ⟨b,off+k,none⟩).getD undef,rfl,by simp,?_,l,?_,?_⟩;intro u M;simp only[avV,awG]at M;obtain⟨k,y,rfl⟩:=M;obtain⟨u,q,-,g1,g2,-⟩:=B k y;simp[g1,g2];intro i j q hq;obtain⟨hi,Z⟩:=BZ l hq;have hlt:i*s+j<Z' rows*s:=by have:(i+1)*s<=Z' rows*s:=awI _ hi;rw[axM]at this;omega
 obtain⟨u,g1,g2,g3⟩:=e i j q hq;refine⟨u,?_,g3⟩;rw[avO,axO hlt];simp[g1];intro A O;refine run_firstCells_some A s rows.length _ _ cap _ aZ (λj u M=>?_);rw[add_plain];simp only[avO,avM]at M;obtain⟨k,y,rfl⟩:=M;have J:j<Z' rows*s:=by
  rcases avX j (Z' rows*s)with h'|h'
  exact h';rw[awN (by simpa using h')]at y;cases y
 rw[axO J]at y;cases y;obtain⟨u,q,-,g1,-,-⟩:=B j J;have:A.cell? ⟨b,off+j,none⟩=w.cell? ⟨b,off+j,none⟩:=by simp[World.cell?,O]
 rw[this,g1];rfl
theorem HV{t ty e:TypeId}{i:TypeInfo}(B:T.P.underlying t=some (.slice e))(hi:T.P.info? e=some i)(base:Option Addr)(u l c:Nat)(y:Option Addr)(x:u<=l)
  (A:(Builtin.firstCells i.size 0 (.slice y 0 c)).run T.P w=.ok #[] w):(Builtin.append_ #[t,t] ty #[.slice base u l,.slice y 0 c]).run T.P w=.ok (.slice base u l) w:=by
 cases base with
 |none=>simp[Builtin.append_,run_underlying B,sizeOf,typeInfo,hi,Builtin.lenOf,x,A]
 |some b=>simp[Builtin.append_,run_underlying B,sizeOf,typeInfo,hi,Builtin.lenOf,x,A,storeCells]
theorem Hr{t ty e bt:TypeId}{i:TypeInfo}(R:T.P.underlying t=some (.slice e))(hi:T.P.info? e=some i)(g l y m c:Nat)(K:Option Addr)(x:Array Value)(O:w.heap[g]?=some (.cells x bt (0,0)))
  (news:List Value) (S:Z' news=m*i.size) (N:(Builtin.firstCells i.size m (.slice K m c)).run T.P w=.ok news.toArray w) (M:∀u∈news,u.oneCell'=true) (A:l+m<=y) (B:l*i.size+Z' news<=x.size) :
  (Builtin.append_ #[t,t] ty #[.slice (some ⟨g,0,none⟩) l y,.slice K m c]).run T.P w =
   .ok (.slice (some ⟨g,0,none⟩) (l+m) y) (w.setRow g (x.toList.take (l*i.size)++news++x.toList.drop (l*i.size+Z' news)).toArray):=by
 have J:=run_storeCells_at T.P g (l*i.size) bt news 0 x w O (by simpa using B) M;simp only[awQ]at J;simp[Builtin.append_,run_underlying R,sizeOf,typeInfo,hi,Builtin.lenOf,A,N,Addr.add_lit,J]
theorem Bc{t ty e bt:TypeId}{i:TypeInfo}(R:T.P.underlying t=some (.slice e))(hi:T.P.info? e=some i)(g d l y m c:Nat)(K:Option Addr)(x:Array Value)(O:w.heap[g]?=some (.cells x bt (0,0)))
  (news:List Value) (S:Z' news=m*i.size) (N:(Builtin.firstCells i.size m (.slice K m c)).run T.P w=.ok news.toArray w) (M:∀u∈news,u.oneCell'=true) (A:l+m<=y) (B:d+l*i.size+Z' news<=x.size) :
  (Builtin.append_ #[t,t] ty #[.slice (some ⟨g,d,none⟩) l y,.slice K m c]).run T.P w =
   .ok (.slice (some ⟨g,d,none⟩) (l+m) y) (w.setRow g (x.toList.take (d+l*i.size)++news++x.toList.drop (d+l*i.size+Z' news)).toArray):=by
 have J:=run_storeCells_at T.P g (d+l*i.size) bt news 0 x w O (by simpa using B) M;simp only[awQ]at J;simp[Builtin.append_,run_underlying R,sizeOf,typeInfo,hi,Builtin.lenOf,A,N,add_plain,J]
theorem Hq{t ty e:TypeId}{i:TypeInfo}{z:Value}(R:T.P.underlying t=some (.slice e))(hi:T.P.info? e=some i)(S:i.zero=some z)(base:Option Addr)(l u m c:Nat)(B:Option Addr)(auU news:List Value)
  (O:(Builtin.firstCells i.size l (.slice base l u)).run T.P w.drew=.ok auU.toArray w.drew) (K:(Builtin.firstCells i.size m (.slice B m c)).run T.P w.drew=.ok news.toArray w.drew)
  (M:u<l+m) (A:l+m<=maxLen) (hb:(l+m)*i.bytes<=140737488355328) :
  (Builtin.append_ #[t,t] ty #[.slice base l u,.slice B m c]).run T.P w =
   .ok (.slice (some ⟨w.heap.size,0,none⟩) (l+m) (grownCap w (l+m) u e))
    (w.drew.alloc (.cells (auU.toArray++news.toArray++Builtin.zeroCells z.cells (grownCap w (l+m) u e-(l+m))) e)):=by
 have N:¬(l+m<=u):=Om;simp only[maxLen]at A;have y:¬(9223372036854775807<((l:Int)+(m:Int))):=Om;have J:=growslice_fits M hb;have x:¬(281474976710656<Builtin.nextslicecap (l+m) u*i.bytes):=Om;simp[Builtin.append_,run_underlying R,sizeOf,typeInfo,zeroValue,hi,S,Builtin.lenOf,N,y,x,Question.forced,K,O,newRow,grownCap];congr 2;apply Array.ext';simp[awB]
theorem bY.drew(hW:bY E H w):bY E H w.drew:=⟨hW.g,λo x e=>⟨(hW.h o x e).1,(hW.h o x e).2.mono (.refl E) rfl⟩,hW.s⟩
theorem Ext.wt{e:Env}{H':PH}{i:World}(h:Ext E H w.drew e H' i):Ext E H w e H' i:=⟨h.env,h.os,h.tape,h.output,h.size,h.block,h.new,h.newG⟩
theorem Nc{rs src:P2_}(i j:Nat):at2 (rs++src) i j=if i<rs.length then at2 rs i j else at2 src (i-Z' rs) j:=by
 unfold at2;rw[List.getElem?_append];split<;>rfl
theorem nA.join{s:Nat}{rs src:P2_}{auU news:List Value}{tail:List Value}(y:∀r∈rs,Z' r=s)(A:∀r∈src,Z' r=s)(l:Z' auU=Z' rs*s)(x:Z' news=Z' src*s)
  (J:∀i j q,at2 rs i j=some q->∃u,auU[i*s+j]?=some u/\u.oneCell'=true/\bH E q u) (B:∀i j q,at2 src i j=some q->∃u,news[i*s+j]?=some u/\u.oneCell'=true/\bH E q u) :
  nA E s (rs++src) (auU++news++tail).toArray:=by
 refine⟨λr K=>?_,?_,λi j q hq=>?_⟩;rcases awH.1 K with h|h
 exact y r h;exact A r h;rw[List.size_toArray,auZ,auZ,auZ,l,x,awO];omega;rw[Nc]at hq;rw[List.getElem?_toArray];split at hq;rename_i hi;obtain⟨u,g1,g2,g3⟩:=J i j q hq;refine⟨u,?_,g2,g3⟩;have hlt:i*s+j<Z' auU:=by
  rcases avX (i*s+j) auU.length with h'|h'
  exact h';rw[awN h']at g1;cases g1
 rw[awB,axU hlt];exact g1;rename_i hi;obtain⟨u,g1,g2,g3⟩:=B _ j q hq;refine⟨u,?_,g2,g3⟩;have hlt:(i-Z' rs)*s+j<Z' news:=by
  rcases avX ((i-Z' rs)*s+j) news.length with h'|h'
  exact h';rw[awN h']at g1;cases g1
 have e:i*s+j=Z' auU+((i-Z' rs)*s+j):=by rw[l,<-axL,<-awO];congr 2;omega
 rw[e,awB,axR Om,Nat.add_sub_cancel_left,axU hlt];exact g1
theorem bY.dead(hW:bY E H w){o:Nat}{x:aV}(l:H o=some x):bY E (H.set o .dead) w/\Ext E H w E (H.set o .dead) w:=by
 refine⟨⟨λb ds hb=>⟨λy i=>?_,(hW.g b ds hb).2⟩,λq y hq=>?_,hW.s⟩,⟨.refl E,rfl,rfl,rfl,avD _,λ_ _ _=>rfl,λq y hq=>?_,λb ds hb=>.inl hb⟩⟩;rw[cV]at i;split at i;cases i;rfl;exact(hW.g b ds hb).1 y i;rw[cV]at hq;split at hq;rename_i e;subst e;cases hq;exact⟨(hW.h q x l).1,trivial⟩;exact hW.h q y hq;rw[cV]at hq;split at hq;rename_i e;subst e;exact .inl ⟨x,l⟩;exact .inl ⟨y,hq⟩
end
open Go Go.RowKit
section
variable {T:Tbl} {n:Nat} {E:Env} {F:PF} {H:PH} {a:Act} {w:World}
theorem Oc(w:World)(i l:Nat)(e:TypeId):i<=grownCap w i l e:=grownCap_ge w i l e
theorem nO{o:Oper}{c:Call}{x y:Operand}{t:TypeId}{v:Value}{u:World}(B:o.op=.call c)(i:c.callee=.builtin .append)(e:c.args.toList=[x,y])(l:c.argTypes.toList=[t,t])
  (h:(Builtin.append_ #[t,t] o.type #[a.eval x,a.eval y]).run T.P w=.ok v u):(execOp a.eval o).run T.P w=.ok (.value v) u:=by
 unfold execOp;rw[B];have A:c.argTypes=#[t,t]:=by apply Array.ext';simp[l]
 have e2:=Nb e a.eval;simp[resolve,i,invoke,builtin,A,e2,h]
theorem bY.trim(hW:bY E H w){o s k:Nat}{rs:P2_}(A:H o=some (.rows s rs)):bY E (H.set o (.rows s (rs.take k))) w/\Ext E H w E (H.set o (.rows s (rs.take k))) w:=by
 refine⟨⟨λb ds hb=>⟨λy J=>?_,(hW.g b ds hb).2⟩,λq y hq=>?_,hW.s⟩,⟨.refl E,rfl,rfl,rfl,avD _,λ_ _ _=>rfl,λq y hq=>?_,λb ds hb=>.inl hb⟩⟩;rw[cV]at J;split at J;rename_i e;subst e;have:=(hW.g b ds hb).1 _ A;cases this;exact(hW.g b ds hb).1 y J;rw[cV]at hq;split at hq;rename_i e;subst e;cases hq;obtain⟨M,x,ty,N,B,u,K,l⟩:=hW.h q _ A;refine⟨M,x,ty,N,B,λr O=>u r (List.mem_of_mem_take O),?_,λi j p hp=>l i j p ?_⟩;have:(rs.take k).length*s<=Z' rs*s:=awI _ (by rw[avN];omega);omega;unfold at2 at hp ⊢;rw[ayS]at hp;split at hp;exact hp;simp at hp;exact hW.h q y hq;rw[cV]at hq;split at hq;rename_i e;subst e;exact .inl ⟨_,A⟩;exact .inl ⟨y,hq⟩
theorem Dr{o:Oper}{c:Call}{x y:Operand}{t e:TypeId}{i:TypeInfo}{px py:PV}{K:R_}(ho:o.op=.call c)(σ:c.callee=.builtin .append)(ρ:c.args.toList=[x,y])(τ:c.argTypes.toList=[t,t])
  (ht:T.P.underlying t=some (.slice e)) (hi:T.P.info? e=some i) (hz:i.zero.isSome=true) (S':(i.zero.map (·.cells.size))=some i.size) (h0:0<i.size)
  (hx:bH E px (a.eval x)) (hy:bH E py (a.eval y)) (hK:kJ H i.size i.bytes px py K) (hW:bY E H w):Dj T.P E H w o a K:=by
 obtain⟨z,hz⟩:=Option.isSome_iff_exists.1 hz;have U':z.cells.size=i.size:=by simpa[hz]using S'
 obtain⟨src,z',hK⟩:=hK;obtain⟨ad,cap,news,V,ε,Θ,ο,δ,O⟩:=Ah T.P hW hy z';have grow:∀(base:Option Addr)(l A:Nat)(rs:P2_) (auU:List Value),(Builtin.firstCells i.size l (.slice base l A)).run T.P w.drew=.ok auU.toArray w.drew->Z' auU=l*i.size->Z' rs=l ->
   (∀r∈rs,Z' r=i.size)->(∀S j q,at2 rs S j=some q->∃u,auU[S*i.size+j]?=some u/\u.oneCell'=true/\bH E q u)->A<l+Z' src->roomFor l src.length i.bytes->a.eval x=.slice base l A ->
   ∀(H1:PH),bY E H1 w->Ext E H w E H1 w->∃v w' E' q,(execOp a.eval o).run T.P w=.ok (.value v) w'/\H1 q=none/\bH E' (.osl q i.size 0 (l+Z' src)) v/\bY E' (H1.set q (.rows i.size (rs++src))) w'/\Ext E H w E' (H1.set q (.rows i.size (rs++src))) w':=by
  intro base l A rs auU χ ξ β R' P' hlt M R H1 r' G';have J:=Hq (w:=w) (ty:=o.type) ht hi hz base l A src.length cap ad auU news χ (by rw[<-V];exact O w.drew rfl) hlt M.1 M.2;have J':=Oc w (l+Z' src) A e;have I':=grownCap_le_maxLen w (l+Z' src) A e M.1;generalize X':grownCap w (l+Z' src) A e=gc at *
  have M':∀S j q,at2 src S j=some q->∃u,news[S*i.size+j]?=some u/\u.oneCell'=true/\bH E q u:=λS j q hq=>by obtain⟨u,g1,g2⟩:=δ S j q hq;exact⟨u,g1,Θ u (axF g1),g2⟩
  have hR:=nA.join (E:=E) (tail:=(Builtin.zeroCells z.cells (gc-(l+Z' src))).toList) R' ο (by rw[ξ,β]) ε P' M';have Ψ:(auU.toArray++news.toArray++Builtin.zeroCells z.cells (gc-(l+Z' src)))=(auU++news++(Builtin.zeroCells z.cells (gc-(l+Z' src))).toList).toArray:=by apply Array.ext';simp
  rw[Ψ]at J;have η:(auU++news++(Builtin.zeroCells z.cells (gc-(l+Z' src))).toList).toArray.size=gc*i.size:=by
   have ez:(Builtin.zeroCells z.cells (gc-(l+Z' src))).toList.length=(gc-(l+Z' src))*i.size:=by rw[ayI,size_zeroCells,U']
   rw[List.size_toArray,auZ,auZ,ez,ξ,ε,<-awO,<-awO];congr 1;omega
  obtain⟨g1,g2⟩:=r'.drew.TQ e hR;refine⟨_,_,_,w.heap.size,nO ho σ ρ τ (by rw[R,V];exact J),r'.Oj,?_,g1,G'.trans g2.wt⟩;refine .osl rfl rfl (.inr aZ) J' I' (G5 _ _ _) ?_;rw[η];omega
 split at hK
 
 have C':a.eval x=.slice none 0 0:=by generalize a.eval x=v at hx;cases hx;rfl
 obtain⟨M,v',l'⟩:=hK;by_cases ζ:src=[];subst ζ;have θ:=O w rfl;have Δ:news=[]:=azL (by rw[ε];simp);subst Δ;rw[V]at θ;have J:=HV (w:=w) (ty:=o.type) ht hi none 0 0 cap ad (avD _) θ;exact⟨_,_,w,E,H,.aJ,nO ho σ ρ τ (by rw[C',V];exact J),.inl rfl,.aJ,hW,.refl E H w,v' rfl⟩;have c':0<Z' src:=List.length_pos_iff.2 ζ;obtain⟨v,w',E',q,g1,g2,g3,g4,g5⟩:=grow none 0 0 [] [] (by simp[Builtin.firstCells]) aZ rfl aZ (λS j q hq=>by simp[at2]at hq) Om M C' H hW (.refl E H w);refine⟨v,_,w',E',_,_,g1,.inl rfl,g3,g4,g5,?_⟩;have:=l' ζ q g2;simpa using this
 
 rename_i q s len;obtain⟨rfl,-,M,rs,hq,Q',Y,ν⟩:=hK;have g':∃b A,a.eval x=.slice (some b) len A:=by generalize a.eval x=v at hx;cases hx;exact⟨_,_,rfl⟩
 obtain⟨b,A,R⟩:=g';obtain⟨l,rfl⟩:∃l,l=len:=⟨_,rfl⟩
 ·rw[R]at hx;cases hx with
  |osl hb m' α ι κ Λ X=>
  rename_i N;obtain⟨x',B,ty,hh,η,k',b',Φ⟩:=hW.h q _ hq;obtain⟨υ,d'⟩:=hW.trim (k:=l) hq;obtain⟨-,p',V',ψ,A',U,Ξ,γ⟩:=υ.h q (.rows i.size (rs.take l)) (by rw[cV,aF rfl]);rw[hh]at ψ;cases ψ;have β:(rs.take l).length=l:=by rw[avN];omega
  generalize y':rs.take l=W at *
  have e':N=B.size:=by rw[η]at Λ;cases Λ;rfl
  subst e';simp only[Nat.zero_mul,avK]at X α;by_cases ζ:src=[];subst ζ;have θ:=O w rfl;have Δ:news=[]:=azL (by rw[ε];simp);subst Δ;rw[V]at θ;have J:=HV (w:=w) (ty:=o.type) ht hi (some b) l A cap ad ι θ;simp only[awJ,axC,awQ]at Y;exact⟨_,_,w,E,_,.osl q i.size 0 l,nO ho σ ρ τ (by rw[R,V];exact J),.inl rfl,.osl hb m' (by simpa using α) ι κ η Om,υ,d',Y⟩;have c':0<Z' src:=List.length_pos_iff.2 ζ;by_cases Z:l+Z' src<=A;have φ:b=⟨q,0,none⟩:=by
   have:b.off=0:=by
    rcases α with h|h
    omega;exact h
   cases b;simp_all
  subst φ;have Γ:(l+Z' src)*i.size<=A*i.size:=awI _ Z;rw[awO]at Γ;have J:=Hr (w:=w) (ty:=o.type) ht hi q l A src.length cap ad B hh news ε (by rw[<-V];exact O w rfl) Θ Z Om;have h':(B.toList.take (l*i.size)).length=Z' W*i.size:=by rw[avN,ayI,β];omega
  have f':=nA.join (E:=E) (s:=i.size) (rs:=W) (src:=src) (auU:=B.toList.take (l*i.size)) (news:=news) (tail:=B.toList.drop (l*i.size+Z' news)) U ο h' ε
   (λS j p hp=>by obtain⟨u,g1,g2,g3⟩:=γ S j p hp;obtain⟨ω,s'⟩:=BZ U hp;refine⟨u,?_,g2,g3⟩;have:(S+1)*i.size<=Z' W*i.size:=awI _ ω;rw[axM,β]at this;rw[ayS,aF Om,Array.getElem?_toList];exact g1)
   (λS j p hp=>by obtain⟨u,g1,g2⟩:=δ S j p hp;exact⟨u,g1,Θ u (axF g1),g2⟩)
  obtain⟨g1,g2⟩:=hW.ZL hq hh (rs':=W++src) (cs:=(B.toList.take (l*i.size)++news++B.toList.drop (l*i.size+Z' news)).toArray)
   (by rw[List.size_toArray];simp only[auZ,avN,awZ];have e:Z' B.toList=B.size:=ayI;omega) f'
  exact⟨_,_,_,E,_,.osl q i.size 0 (l+Z' src),nO ho σ ρ τ (by rw[R,V];exact J),.inl rfl,.osl rfl rfl (.inr aZ) Z κ η Om,g1,g2,Y⟩;have χ:∃auU:List Value,(Builtin.firstCells i.size l (.slice (some b) l A)).run T.P w.drew=.ok auU.toArray w.drew/\Z' auU=l*i.size /\
    (∀S j p,at2 W S j=some p->∃u,auU[S*i.size+j]?=some u/\u.oneCell'=true/\bH E p u):=by
   by_cases K':l=0;subst K';refine⟨[],run_firstCells_some w.drew i.size 0 b 0 A [] aZ aZ,by simp,λS j p hp=>?_⟩;have:=(BZ U hp).1;omega;have φ:b=⟨q,0,none⟩:=by
    have:b.off=0:=by
     rcases α with h|h
     omega;exact h
    cases b;simp_all
   subst φ;have t':(B.toList.take (l*i.size)).length=l*i.size:=by rw[avN,ayI];rw[β]at Ξ;omega
   refine⟨B.toList.take (l*i.size),run_firstCells_some w.drew i.size l _ l A _ t' (λj u hu=>?_),t',λS j p hp=>?_⟩;rw[add_plain,avK];rw[ayS]at hu;split at hu;rw[Array.getElem?_toList]at hu;show w.cell? ⟨q,j,none⟩=some u;rw[cell_of_row w q j B ty (0,0) hh];exact hu;cases hu;obtain⟨u,g1,g2,g3⟩:=γ S j p hp;obtain⟨ω,s'⟩:=BZ U hp;refine⟨u,?_,g2,g3⟩;have:(S+1)*i.size<=Z' W*i.size:=awI _ ω;rw[axM,β]at this;rw[ayS,aF Om,Array.getElem?_toList];exact g1
  obtain⟨auU,χ,ξ,O'⟩:=χ;obtain⟨v,w',E',q',g1,g2,g3,g4,g5⟩:=grow (some b) l A W auU χ ξ β U O' Om M R H hW (.refl E H w);exact⟨v,_,w',E',_,_,g1,.inl rfl,g3,g4,g5,ν q' g2⟩
 ·
  rename_i q s off len;obtain⟨rfl,M,rs,hq,L',Y,ν⟩:=hK;have o':dH H i.size (.osl q i.size (off+1) len)=some ((rs.drop (off+1)).take len):=by simp only[dH,if_true,hq,true_and,aF L']
  obtain⟨W',A,auU,R,ξ,N',j',Ω,μ⟩:=Ah T.P hW hx o';have B':((rs.drop (off+1)).take len).length=len:=by rw[avN,awZ];omega
  rw[B']at R μ ξ;have D':=hx;rw[R]at D';obtain⟨x',B,ty,hh,η,k',b',Φ⟩:=hW.h q _ hq;cases D' with
  |osl hb m' α ι κ Λ X=>
  rename_i N b;have e':N=B.size:=by rw[η]at Λ;cases Λ;rfl
  subst e';obtain⟨υ,d'⟩:=hW.trim (k:=off+1+len) hq;have Y':(off+1)*i.size+A*i.size<=B.size:=X;clear X;by_cases ζ:src=[];subst ζ;have θ:=O w rfl;have Δ:news=[]:=azL (by rw[ε];simp);subst Δ;rw[V]at θ;have J:=HV (w:=w) (ty:=o.type) ht hi (some b) len A cap ad ι θ;simp only[awJ,axC,awQ]at Y;exact⟨_,_,w,E,_,.osl q i.size (off+1) len,nO ho σ ρ τ (by rw[R,V];exact J),.inl rfl,.osl hb m' α ι κ η Om,υ,d',Y⟩;have c':0<Z' src:=List.length_pos_iff.2 ζ;by_cases Z:len+Z' src<=A;obtain⟨-,p',V',ψ,A',U,Ξ,γ⟩:=υ.h q (.rows i.size (rs.take (off+1+len))) (by rw[cV,aF rfl]);rw[hh]at ψ;cases ψ;have β:(rs.take (off+1+len)).length=off+1+len:=by rw[avN];omega
  generalize y':rs.take (off+1+len)=W at *
  have φ:b=⟨q,(off+1)*i.size,none⟩:=by
   have:b.off=(off+1)*i.size:=by
    rcases α with h|h
    omega;exact h
   cases b;simp_all
  subst φ;have Γ:(len+Z' src)*i.size<=A*i.size:=awI _ Z;rw[awO]at Γ;have u':(off+1+len)*i.size=(off+1)*i.size+len*i.size:=awO ..;have J:=Bc (w:=w) (ty:=o.type) ht hi q ((off+1)*i.size) len A src.length cap ad B hh news ε (by rw[<-V];exact O w rfl) Θ Z Om;rw[<-u']at J;have h':(B.toList.take ((off+1+len)*i.size)).length=Z' W*i.size:=by rw[avN,ayI,β];omega
  have f':=nA.join (E:=E) (s:=i.size) (rs:=W) (src:=src) (auU:=B.toList.take ((off+1+len)*i.size)) (news:=news) (tail:=B.toList.drop ((off+1+len)*i.size+Z' news)) U ο h' ε
   (λS j p hp=>by obtain⟨u,g1,g2,g3⟩:=γ S j p hp;obtain⟨ω,s'⟩:=BZ U hp;refine⟨u,?_,g2,g3⟩;have:(S+1)*i.size<=Z' W*i.size:=awI _ ω;rw[axM,β]at this;rw[ayS,aF Om,Array.getElem?_toList];exact g1)
   (λS j p hp=>by obtain⟨u,g1,g2⟩:=δ S j p hp;exact⟨u,g1,Θ u (axF g1),g2⟩)
  obtain⟨g1,g2⟩:=hW.ZL hq hh (rs':=W++src) (cs:=(B.toList.take ((off+1+len)*i.size)++news++B.toList.drop ((off+1+len)*i.size+Z' news)).toArray)
   (by rw[List.size_toArray];simp only[auZ,avN,awZ];have e:Z' B.toList=B.size:=ayI;omega) f'
  exact⟨_,_,_,E,_,.osl q i.size (off+1) (len+Z' src),nO ho σ ρ τ (by rw[R,V];exact J),.inl rfl,.osl rfl rfl (.inr rfl) Z κ η Om,g1,g2,Y⟩;obtain⟨v,w',E',q',g1,g2,g3,g4,g5⟩:=grow (some b) len A ((rs.drop (off+1)).take len) auU (by rw[<-R];exact μ w.drew rfl) ξ B' j'
   (λS j p hp=>by obtain⟨u,g1,g2⟩:=Ω S j p hp;exact⟨u,g1,N' u (axF g1),g2⟩) Om M R H hW (.refl E H w)
  exact⟨v,_,w',E',_,_,g1,.inl rfl,g3,g4,g5,ν q' g2⟩
 cases hK
end
open Go Go.RowKit
section
variable {ds:List Deferred} {T:Tbl} {n:Nat} {E:Env} {F:PF} {H:PH} {a:Act} {w:World}
def oneOf(e:Array Value)(k:Nat):Value:=if((e[k]?).getD (.int .i64 0)).oneCell' then(e[k]?).getD (.int .i64 0)else .int .i64 0
theorem Ug(e:Array Value)(k:Nat):(oneOf e k).oneCell'=true:=by
 unfold oneOf;split;assumption;rfl
theorem fi{o s:Nat}{rs:P2_}{l:Array Value}{M:Env}(x:E.le M)(hG:M.G o=some l)(α:E.sz o=some l.size)(W:nA E s rs l){pv:PV}{v:Value}(h:bH E pv v) :
  bH M (pv.dL o s rs) v:=by
 unfold PV.dL;split;rename_i q s' off len;split;rename_i e;subst e;split
 ·rename_i hc;obtain⟨rfl,X⟩:=hc;cases h with
  |osl hb V J A B hn U=>
  rename_i cap N O;have Y:((rs.drop off).take len).length=len:=by rw[avN,awZ];omega
  have R:∀i j p,at2 ((rs.drop off).take len) i j=some p->at2 rs (off+i) j=some p:=by intro i j p hp;unfold at2 at hp ⊢;rw[ayS]at hp;split at hp;rw[ayR]at hp;exact hp;simp at hp
  have K:bH M (.sl s' ((rs.drop off).take len)) (.slice (some O) ((rs.drop off).take len).length cap):=by
   have hu:∀i j p,at2 ((rs.drop off).take len) i j=some p->∃u,l[(off+i)*s'+j]?=some u/\bH E p u/\oneOf l ((off+i)*s'+j)=u:=by intro i j p hp;obtain⟨u,g1,g2,g3⟩:=W.2.2 _ _ _ (R i j p hp);exact⟨u,g1,g3,by simp[oneOf,g1,g2]⟩
   refine .sl (λi j=>oneOf l ((off+i)*s'+j)) (by rw[Y];exact A) B (λr hr=>W.1 r (List.mem_of_mem_drop (List.mem_of_mem_take hr))) (λS=>?_) (λi j=>Ug _ _) (λi j p hp=>?_);have Z:0<((rs.drop off).take len).length:=List.length_pos_iff.2 S;have y:O.off=off*s':=by
    rcases J with h|h
    omega;exact h
   refine⟨O,rfl,V,λi j p hp=>?_⟩;obtain⟨u,g1,-,g3⟩:=hu i j p hp;rw[g3];unfold Env.cell;rw[hb,hG,ayV,y];have e:off*s'+i*s'+j=(off+i)*s'+j:=by rw[awO]
   rw[e];exact g1;obtain⟨u,-,g2,g3⟩:=hu i j p hp;rw[g3];exact g2.mono x
  rw[Y]at K;exact K
 exact .junk _;exact h.mono x;exact h.mono x
theorem Eo{o s:Nat}{rs:P2_}{e:Array Value}{x:Env}(i:E.le x)(y:x.G o=some e)(l:E.sz o=some e.size)(A:nA E s rs e){pv:PV}{v:Value}(h:bH E pv v) :
  bH x (pv.qR o s rs) v:=by
 unfold PV.qR;split
 ·cases h with
  |agg vs J B K=>
  refine .agg vs (by simpa using J) B (λj p u hp M=>?_);rw[avO,avM]at hp;obtain⟨q,hq,rfl⟩:=hp;exact fi i y l A (K j q u hq M)
 exact fi i y l A h
theorem aeT{o s:Nat}{rs:P2_}{e:Array Value}{x:Env}(i:E.le x)(y:x.G o=some e)(l:E.sz o=some e.size)(A:nA E s rs e){pv:PV}{v:Value}(h:bH E pv v) :
  bH x (pv.frz o s rs) v:=by
 unfold PV.frz;split
 ·cases h with
  |tup vs B J=>
  refine .tup vs (by simpa using B) (λj p u hp K=>?_);rw[avO,avM]at hp;obtain⟨q,hq,rfl⟩:=hp;exact Eo i y l A (J j q u hq K)
 exact Eo i y l A h
theorem bY.frz(hW:bY E H w){o s:Nat}{rs:P2_}(Z:H o=some (.rows s rs)):∃U,bY U (H.frz o s rs) w/\Ext E H w U (H.frz o s rs) w/\∀{pv:PV}{v:Value},bH E pv v->bH U (pv.frz o s rs) v:=by
 obtain⟨hlt,A,ty,hh,O,V,W,h3⟩:=hW.h o _ Z;have hR:nA E s rs A:=⟨V,W,h3⟩;have X:E.G o=none:=by
  cases h:E.G o with
  |none=>rfl
  |some ds=>have:=(hW.g o ds h).1 _ Z;cases this
 have B:E.le ⟨upd E.G o (some A),E.sz,E.num⟩:=by
  refine⟨λb ds hb=>?_,λb m h=>h,rfl⟩;have Y:b≠o:=λe=>by subst e;rw[X]at hb;cases hb
  simp only;rw[XI _ _ Y];exact hb
 have M:(⟨upd E.G o (some A),E.sz,E.num⟩:Env).G o=some A:=by simp[upd]
 have l:∀q,(H.frz o s rs).f q=if q=o then none else(H q).map (aV.frz o s rs):=λq=>rfl
 refine⟨⟨upd E.G o (some A),E.sz,E.num⟩,⟨λb ds hb=>?_,λq x hq=>?_,hW.s⟩,⟨B,rfl,rfl,rfl,avD _,λ_ _ _=>rfl,λq x hq=>?_,λb ds hb=>?_⟩,λh=>aeT B M O hR h⟩;simp only[upd]at hb;split at hb;rename_i e;subst e;cases hb;refine⟨λx R=>?_,ty,(0,0),hh⟩;rw[l,aF rfl]at R;cases R;rename_i e;obtain⟨g1,g2⟩:=hW.g b ds hb;refine⟨λx R=>?_,g2⟩;rw[l,aC e,avM]at R;obtain⟨y,S,rfl⟩:=R;have:=g1 y S;subst this;rfl;rw[l]at hq;split at hq;cases hq
 ·rw[avM]at hq;obtain⟨y,S,rfl⟩:=hq;obtain⟨g1,g2⟩:=hW.h q y S;refine⟨g1,?_⟩;cases y with
  |rows s' rs'=>
   obtain⟨K,δ,k1,k2,k3,k4,k5⟩:=g2;refine⟨K,δ,k1,k2,?_,by simpa using k4,λi j p hp=>?_⟩;intro r N;simp only[avV]at N;obtain⟨r',γ,rfl⟩:=N;simpa using k3 r' γ;simp only[at2,avO,Option.bind_map]at hp;have α:∃J,at2 rs' i j=some J/\p=J.dL o s rs:=by
    unfold at2;cases N:rs'[i]? with
    |none=>simp[N]at hp
    |some r =>simp only[N,ayV,Function.comp,avO,avM]at hp ⊢;obtain⟨J,V,W⟩:=hp;exact⟨J,V,W.symm⟩
   obtain⟨J,β,rfl⟩:=α;obtain⟨u,m1,m2,m3⟩:=k5 i j J β;exact⟨u,m1,m2,fi B M O hR m3⟩
  |map es=>exact TM.mono B rfl g2
  |loop F n t ε ζ=>exact TM.mono B rfl g2
  |dead=>trivial
 rw[l]at hq;split at hq;cases hq;rw[avM]at hq;obtain⟨y,S,-⟩:=hq;exact .inl ⟨y,S⟩;simp only[upd]at hb;split at hb;rename_i e;subst e;exact .inr (.inl ⟨_,Z⟩);exact .inl hb
theorem jH.sound{F l:PF}{H H':PH}(h:jH F H l H'):∀{E:Env},bY E H w->∃e,bY e H' w/\Ext E H w e H' w/\∀(f:Nat->Value),(∀i pv,F i=some pv->bH E pv (f i))->∀i pv,l i=some pv->bH e pv (f i):=by
 induction h with
 |refl F H=>intro E hW;exact⟨E,hW,.refl E H w,λf h=>h⟩
 |step o J _ K =>intro E hW;obtain⟨N,x,y,A⟩:=hW.frz J;obtain⟨u,k1,k2,M⟩:=K x;refine⟨u,k1,y.trans k2,λf B=>M f λi pv hi=>?_⟩;simp only[PF.frz,avM]at hi;obtain⟨q,hq,rfl⟩:=hi;exact A (B i q hq)
theorem eS.frz{u:PF}{H':PH}(l:eS ds n E F a)(hW:bY E H w)(h:jH F H u H'):∃e,eS ds n e u a/\bY e H' w/\Ext E H w e H' w:=by
 obtain⟨e,x,y,A⟩:=h.sound hW;exact⟨e,⟨l.size,l.defers,A (λi=>a.tmps.getD i undef) l.t⟩,x,y⟩
end
open Go Go.RowKit
section
variable {T:Tbl} {n:Nat} {E:Env} {F:PF} {H:PH} {a:Act} {w:World}
theorem av(k:List KS):∀(L:List (List KS × PV)) (i j:Nat),(sE k L i).map (·.2)=(sE k L j).map (·.2)
 |[],_,_=>rfl
 |e::L,i,j=>by simp only[sE];split;rfl;exact av k L _ _
theorem qH(e:List KS × PV)(L:List (List KS × PV))(k:List KS):mapOf (e::L) k=if e.1=k then some e.2 else mapOf L k:=by
 unfold mapOf;simp only[sE];split;rfl;exact av k L _ _
theorem p4{i:List KS}{pv:PV}:∀{L:List (List KS × PV)},mapOf L i=none->mapOf (L++[(i,pv)])=lI.upd (mapOf L) i pv
 |[],_=>by funext k;simp only[azA,qH,lI.upd];by_cases h:i=k;rw[aF h,aF h.symm];rw[aC h,aC (λe=>h e.symm)]
 |e::L,h=>by rw[qH]at h;split at h;cases h;rename_i u;funext k;rw[ayQ,qH,p4 h];simp only[lI.upd,qH];by_cases l:e.1=k;have:k≠i:=λe2=>u (l.trans e2);simp[l,this];simp[l]
theorem yk{l:List KS}{pv:PV}:∀{L:List (List KS × PV)}{i j:Nat}{p:PV},sE l L i=some (j,p)->i<=j/\mapOf (L.set (j-i) (l,pv))=lI.upd (mapOf L) l pv
 |[],i,j,p,h=>by simp[sE]at h
 |e::L,i,j,p,h=>by simp only[sE]at h;split at h;rename_i he;cases h;refine⟨avD _,?_⟩;funext k;rw[axT,azB,qH];simp only[lI.upd,qH];by_cases u:l=k;subst u;simp;have y:k≠l:=λe2=>u e2.symm;have x:e.1≠k:=λe2=>u (he.symm.trans e2);simp[u,y,x];rename_i he;obtain⟨u,y⟩:=yk (pv:=pv) h;refine⟨by omega,?_⟩;funext k;rw[show j-i=(j-(i+1))+1 by omega,List.set_cons_succ,qH,y];simp only[lI.upd,qH];by_cases x:e.1=k;have:k≠l:=λe2=>he (x.trans e2);simp[x,this];simp[x]
theorem bY.Vs(hW:bY E H w){o:Nat}{sh:MSh}{g:lI}{Y y:Array MapEntry}{B l:Nat}{L:List (List KS × PV)}(S:H o=some (.map sh g))(hh:w.heap[o]?=some (.map Y B))(V:y.size=Z' L/\(L.map (·.1)).Nodup)
  (Z:∀(i:Nat) e U,L[i]?=some e->y[i]?=some U->e.1.map KS.sh=sh.2/\U.key=jK sh e.1/\bH E e.2 U.val) :
  bY E (H.set o (.map sh (mapOf L))) { w with heap:=w.heap.setIfInBounds o (.map y l) }/\Ext E H w E (H.set o (.map sh (mapOf L))) { w with heap:=w.heap.setIfInBounds o (.map y l) }:=by
 have hlt:=(hW.h o _ S).1;have u:∀b,b≠o->(w.heap.setIfInBounds o (.map y l))[b]?=w.heap[b]?:=λb hb=>Array.getElem?_setIfInBounds_ne (Ne.symm hb);have K:(w.heap.setIfInBounds o (.map y l))[o]?=some (.map y l):=by simp[hlt]
 have R:∀b ds,E.G b=some ds->b≠o:=λb ds hb e=>by subst e;have:=(hW.g b ds hb).1 _ S;cases this
 refine⟨⟨λb ds hb=>?_,λq x hq=>?_,λq m hs=>?_⟩,⟨.refl E,rfl,rfl,rfl,by simp,λb _ W=>u b (λe=>by subst e;rw[S]at W;cases W),λq x hq=>?_,λb ds hb=>.inl hb⟩⟩;obtain⟨J,M,fr,O⟩:=hW.g b ds hb;have A:=R b ds hb;refine⟨λx X=>J x ?_,M,fr,(u b A).trans O⟩;rw[cV,aC A]at X;exact X;rw[cV]at hq;split at hq;rename_i e;subst e;cases hq;exact⟨by simpa using hlt,y,l,L,K,V,rfl,Z⟩;rename_i e;obtain⟨J,O⟩:=hW.h q x hq;exact⟨by simpa using J,O.mono (.refl E) (u q e)⟩;obtain⟨N,M,fr,J,O⟩:=hW.s q m hs;have A:q≠o:=λe=>by subst e;rw[hh]at J;cases J
 exact⟨N,M,fr,(u q A).trans J,O⟩;rw[cV]at hq;split at hq;rename_i e;subst e;exact .inl ⟨_,S⟩;exact .inl ⟨x,hq⟩
theorem cr(k:KS)(d:Nat):Instr.sameBits d k.val k.val=true:=by
 cases k<;>cases d<;>simp[KS.val,Instr.sameBits,beq_toListBytes]
theorem Hu(sh:MSh)(k:List KS)(A:sh.1=false->∃s,k=[s]):Instr.sameBits 10000 (jK sh k) (jK sh k)=true:=by
 obtain⟨b,l⟩:=sh;cases b with
 |false =>obtain⟨s,rfl⟩:=A rfl;exact cr s 10000
 |true=>
  simp only[jK,if_true];obtain⟨m,B⟩:∃m:Nat,m=9999:=⟨_,rfl⟩;rw[show(10000:Nat)=m+1 by omega];simp only[Instr.sameBits,beq_self_eq_true,avR,awA];rintro⟨x,y⟩ i;have:∀(l:List Value),(x,y)∈l.zip l->x=y/\x∈l:=by
   intro l
   induction l with
   |nil=>intro h;simp at h
   |cons z J u=>
    intro h;simp only[List.zip_cons_cons,avL,Prod.mk.injEq]at h;rcases h with⟨rfl,rfl⟩|h
    exact⟨rfl,by simp⟩;exact⟨(u h).1,by simp[(u h).2]⟩
  obtain⟨rfl,e⟩:=this _ i;simp only[avV]at e;obtain⟨s,-,rfl⟩:=e;exact cr s m
theorem Fu{t kt et:TypeId}{sh:MSh}{pk pv:PV}{x k v:Value}{o:Nat}{g:lI}{l:List KS}(ht:T.P.underlying t=some (.map kt et))(α:T.pD kt=some sh)
  (hx:bH E (.map o) x) (hk:bH E pk k) (hv:bH E pv v) (ho:H o=some (.map sh g)) (Y:keyOf sh pk=some l) (hW:bY E H w) :
  ∃w',(Instr.mapUpdate t x k v).run T.P w=.ok () w'/\bY E (H.set o (.map sh (g.upd l pv))) w'/\Ext E H w E (H.set o (.map sh (g.upd l pv))) w':=by
 cases hx;obtain⟨hlt,es,N,L,hh,⟨J,Z⟩,rfl,A⟩:=hW.h o _ ho;obtain⟨η,B,ε⟩:=ye hk Y;have β:xZ sh L es.toList:=⟨by simpa using J,λi e V a b=>by have:=A i e V a (by simpa using b);exact⟨this.1,this.2.1⟩⟩;obtain⟨r,g1,g2⟩:=TB (w:=w) α B β;subst η;have W:(getObj o).run T.P w=.ok (.map es N) w:=by simp[getObj,Sem.run,hh]
 have M:∀x,(setObj o x).run T.P w=.ok () { w with heap:=w.heap.setIfInBounds o x }:=λx=>MapKept.run_setObj_map x hh;simp only[Instr.mapUpdate,Sem.run_bind,run_underlying ht,Result.andThen_ok,W,MB α B,g1];unfold Found at g2;split at g2;rename_i hn;subst g2;have hm:mapOf L l=none:=by unfold mapOf;rw[hn];rfl
 have hp:lI.upd (mapOf L) l pv=mapOf (L++[(l,pv)]):=(p4 hm).symm;rw[hp];simp only[M];have ζ:l ∉ L.map (·.1):=λhm=>by have:=(OC l L 0).2 hm;rw[hn]at this;cases this
 have u:((L++[(l,pv)]).map (·.1)).Nodup:=by rw[avU,ayC];refine⟨Z,by simp,λx hx y hy=>?_⟩;simp only[awE,axD,awL]at hy;subst hy;rintro rfl;exact ζ hx
 refine⟨_,rfl,hW.Vs ho hh ⟨by simp[J],u⟩ λi e V O K=>?_⟩;rcases Nat.lt_trichotomy i L.length with h3|h3|h3
 rw[axU h3]at O;rw[Array.getElem?_push_lt Om]at K;exact A i e V O (by rw[ayW Om];exact K);subst h3;rw[axR (avD _)]at O;rw[<-J,Array.getElem?_push_size]at K;simp at O K;subst O;subst K;exact⟨B,rfl,hv⟩;rw[awN (by simp;omega)]at O;cases O;rename_i j p hj;obtain⟨e0,-,K,h3,rfl⟩:=g2;have hp:lI.upd (mapOf L) l pv=mapOf (L.set j (l,pv)):=by have:=(yk (pv:=pv) hj).2;simpa using this.symm
 rw[hp];simp only[Nat.sub_zero]at K h3;have R:es[j]?=some e0:=by simpa using K
 have γ:e0.key=jK sh l:=(A j _ e0 h3 R).2.1;have S:(Instr.keyThatStays (((es[j]?).map (·.key)).getD (jK sh l)) (jK sh l)).run T.P w=.ok (jK sh l) w:=by rw[R];simp only[avS,axK,γ,Instr.keyThatStays,Hu sh l ε,if_true,Sem.run_pure]
 simp only[Sem.run_bind,S,Result.andThen_ok,M];have u:((L.set j (l,pv)).map (·.1)).Nodup:=by
  have e9:(L.set j (l,pv)).map (·.1)=L.map (·.1):=by rw[ayE];refine List.ext_getElem? λi=>?_;rw[ayZ];split;rename_i e;subst e;rw[avO,h3];have:=(awD.1 h3).1;simp[this];rfl
  rw[e9];exact Z
 refine⟨_,rfl,hW.Vs ho hh ⟨by simp[J],u⟩ λi e V U h5=>?_⟩;rw[Array.getElem?_modify]at h5;rw[ayZ]at U;have δ:j<Z' L:=(awD.1 h3).1;by_cases X:j=i;subst X;rw[aF rfl,aF δ]at U;rw[aF rfl,R]at h5;simp at U h5;subst U;subst h5;exact⟨B,rfl,hv⟩;rw[aC X]at U h5;exact A i e V U h5
end
open Go Go.RowKit
def Fz(r:O_):Fence:={ Fence.wide with round:=r }
theorem Fz.calls{r:O_}{m:Nat}{P:Program}{f:FuncId}{args:Array Value}{w:World}{R:Ending->World->Prop}(h:Calls P f args w R):CallsIn (Fz r) m P f args w R:=(callsIn_wide (n:=m)).2 h
theorem Fz.fn{r:O_}(f:FuncId):(Fz r).fn f:=trivial
theorem ND{r:O_}{m:Nat}{P:Program}{o:Oper}{a:Act}{w:World}{next:Act->World->Prop}{Q:Exit->Act->World->Prop}(e:∀c,o.op≠.defer c)(h:o.uponIn (Fz r) m P a next Q ((execOp a.eval o).run P w)):o.wpIn (Fz r) m P a w next Q:=
 ⟨λ_ _=>trivial,by rw[Oper.semAt_eq _ _ _ e];exact h⟩
variable{C:Ctx}
section
variable {ro:O_} {fu:Nat} {ds:List Deferred} {T:Tbl} {n:Nat} {E:Env} {F:PF} {H:PH} {a:Act} {w:World}
def pY(ds:List Deferred)(n:Nat)(E:Env)(H:PH)(w:World)(K:K_)(next:Act->World->Prop):Prop:=
 ∀e l H' u i,eS ds n e l u->bY e H' i->Ext E H w e H' i->K l H'->next u i
theorem fW.append{ps e:V_}{vs i:List Value}(h:fW E ps vs)(k:fW E e i):fW E (ps++e) (vs++i):=by
 induction h with
 |nil=>exact k
 |cons h _ l=>exact .cons h l
theorem fW.adG{ps:V_}:∀{vs:List Value},Z' vs=Z' ps->(∀(j:Nat) p v,ps[j]?=some p->vs[j]?=some v->bH E p v)->fW E ps vs:=by
 induction ps with
 |nil=>intro vs e _;simp at e;subst e;exact .nil
 |cons p ps i=>
  intro vs e h;cases vs with
  |nil=>simp at e
  |cons v vs=>exact .cons (h 0 p v rfl rfl) (i (by simpa using e) λj q u a b=>h (j+1) q u (by simpa using a) (by simpa using b))
theorem Xb{o:Oper}{c:Call}{f:FuncId}{vc:Array Value}{x:Operand}{P:Program}{fn:Func}(y:o.op=.call c)(i:c.callee=.value x)(A:a.eval x=.func (.func f) #[] vc)
  (u:P.funcs[f]?=some fn) (hb:fn.body.isSome=true) (l:(fn.name=="runtime.NumGoroutine")=false) :
  (execOp a.eval o).run P w=.ok (.enter f (c.args.map a.eval++vc)) w:=by
 have e:fn.body.isNone=false:=by cases h:fn.body<;>simp_all
 unfold execOp;rw[y];simp only[resolve,i,A,Deferred.ofValue,Sem.run_bind,Sem.run_pure,Result.andThen_ok,invoke,callFunc,run_program,u,l,e,axH,if_false,Array.empty_append]
theorem ZY{name:Nat}{ps:Option V_}{d:O_}{K:K_}{o:Oper}{c:Call}{x:Operand}{vc:Array Value}{Q:Exit->Act->World->Prop}{next:Act->World->Prop}
  (h:uZ C name ps d K F H) (hd:o.dst=d) (hlt:o.dst.all (·<n)=true) (V:o.op=.call c) (O:c.callee=.value x) (hx:a.eval x=.func (.func (C.num name)) #[] vc)
  (i:∀vs,ps=some vs->fW E vs (c.args.map a.eval++vc).toList) (Z:eS ds n E F a) (hW:bY E H w) (hN:E.num=C.num) (auG:pY ds n E H w K next):o.wpIn (Fz ro) fu C.P a w next Q:=by
 obtain⟨vs,X,R,rfl,u,⟨⟨fn,hf,hb,S⟩,l⟩,hK⟩:=h;have A:=Xb (w:=w) (a:=a) V O hx hf hb S;refine ND (λc'=>by rw[V];exact λe=>by cases e) ?_;rw[A,Oper.uponIn_enter];refine⟨(λh=>by cases h),Fz.calls ((l E w _ hN (hW.weaken u) (i vs rfl)).mono λe w' he=>?_)⟩;obtain⟨v,pv,U,H',rfl,M,hr,B,hR⟩:=he;have N:pI H X H':=by
  intro q y hq Y;rcases B.new q y hq with⟨z,W⟩|hge
  ·rw[Y]at W;cases W
  ·cases hh:H q with
   |none=>rfl
   |some z=>have:=(hW.h q z hh).1;omega
 have J:eS ds n U (F.put d pv) (a.put o.dst v):=by rw[<-hd];exact(Z.mono B.env).put hlt hr
 exact auG U _ _ _ w' J (hW.over B u M) (B.narrow u) (hK pv H' hR N)
theorem TY{name:Nat}{args:List aR}{cs:V_}{d:O_}{K:K_}{o:Oper}{c:Call}{x:Operand}{vc:Array Value}{Q:Exit->Act->World->Prop}{next:Act->World->Prop}
  (h:jS C name args cs d K F H) (S:o.dst=d) (hlt:o.dst.all (·<n)=true) (U:o.op=.call c) (A:c.callee=.value x) (V:a.eval x=.func (.func (C.num name)) #[] vc)
  (e:∀(u:Env)(R:PF) vs,E.le u->eS ds n u R a->u.num=C.num->aR.evs R args=some vs->fW u (vs++cs) (c.args.map a.eval++vc).toList) (M:eS ds n E F a) (hW:bY E H w) (J:E.num=C.num) (auG:pY ds n E H w K next):o.wpIn (Fz ro) fu C.P a w next Q:=by
 rcases h with h|⟨F1,H1,hf,h⟩
 ·refine ZY h S hlt U A V (λvs i=>?_) M hW J auG;rw[avM]at i;obtain⟨O,l,rfl⟩:=i;exact e E F O (.refl E) M J l
 ·obtain⟨u,y,N,B⟩:=M.frz hW hf;refine ZY h S hlt U A V (λvs i=>?_) y N (B.env.num.trans J) (λW X H2 a2 Y g1 g2 g3 g4=>auG W X H2 a2 Y g1 g2 (B.trans g3) g4);rw[avM]at i;obtain⟨O,l,rfl⟩:=i;exact e u F1 O B.env y (B.env.num.trans J) l
theorem XY{l:Nat}{ps:Option V_}{d:O_}{K:K_}{o:Oper}{c:Call}{x:Operand}{Q:Exit->Act->World->Prop}{next:Act->World->Prop}
  (h:SK C l ps d K F H) (hd:o.dst=d) (hlt:o.dst.all (·<n)=true) (Z:o.op=.call c) (X:c.callee=.value x) (hx:a.eval x=.func (.yield l) #[] #[])
  (B:∀vs,ps=some vs->fW E vs (c.args.map a.eval).toList) (hA:eS ds n E F a) (hW:bY E H w) (hN:E.num=C.num) (auG:pY ds n E H w K next):o.wpIn (Fz ro) fu C.P a w next Q:=by
 obtain⟨vs,H0,R,rfl,M,J,hK⟩:=h;obtain⟨fn,A,i,body,hy,u⟩:=J E w (c.args.map a.eval) hN (hW.weaken M) (B vs rfl);have N:(execOp a.eval o).run C.P w=.ok (.round l fn A i body) w:=by unfold execOp;rw[Z];simp only[resolve,X,hx,Deferred.ofValue,Sem.run_bind,Sem.run_pure,Result.andThen_ok,invoke,Array.empty_append,Array.append_empty];exact hy
 refine ND (λc'=>by rw[Z];exact λe=>by cases e) ?_;rw[N,Oper.uponIn_round];have U:RoundIn (Fz ro) (fu-1) C.P l fn A i body w _:=⟨trivial,λc cs _=>u.2 c cs (room_wide _)⟩;refine⟨(λh=>by cases h),U.mono λe w' he=>?_⟩;obtain⟨v,pv,Y,H',rfl,V,hr,O,hR⟩:=he;have W:pI H H0 H':=by
  intro q y hq h0;rcases O.new q y hq with⟨z,hz⟩|hge
  ·rw[h0]at hz;cases hz
  ·cases hh:H q with
   |none=>rfl
   |some z=>have:=(hW.h q z hh).1;omega
 have S:eS ds n Y (F.put d pv) (a.put o.dst v):=by rw[<-hd];exact(hA.mono O.env).put hlt hr
 exact auG Y _ _ _ w' S (hW.over O M V) (O.narrow M) (hK pv H' hR W)
theorem Bl{l:Nat}{args:List aR}{d:O_}{K:K_}{o:Oper}{c:Call}{x:Operand}{Q:Exit->Act->World->Prop}{next:Act->World->Prop}
  (h:Mx C l args d K F H) (R:o.dst=d) (hlt:o.dst.all (·<n)=true) (S:o.op=.call c) (A:c.callee=.value x) (U:a.eval x=.func (.yield l) #[] #[])
  (e:∀(u:Env)(O:PF) vs,eS ds n u O a->u.num=C.num->aR.evs O args=some vs->fW u vs (c.args.map a.eval).toList) (J:eS ds n E F a) (hW:bY E H w) (B:E.num=C.num) (auG:pY ds n E H w K next):o.wpIn (Fz ro) fu C.P a w next Q:=by
 rcases h with h|⟨F1,H1,hf,h⟩
 ·exact XY h R hlt S A U (λvs i=>e E F vs J B i) J hW B auG
 ·obtain⟨u,y,N,M⟩:=J.frz hW hf;exact XY h R hlt S A U (λvs i=>e u F1 vs y (M.env.num.trans B) i) y N (M.env.num.trans B) (λV W H2 a2 X g1 g2 g3 g4=>auG V W H2 a2 X g1 g2 (M.trans g3) g4)
theorem E6{o:Oper}{p:POp}(e:T.op o=some p)(i:p.sW=true):∃c,o.op=.call c/\T.call o c=some p:=by
 unfold Tbl.op at e;split at e
 case h_26=>rename_i c l;exact⟨c,l,e⟩
 all_goals (repeat' (first|(split at e)|(simp only[avM]at e;obtain⟨_,-,rfl⟩:=e;simp[POp.sW]at i;done)|(cases e;simp[POp.sW]at i;done)|(cases e;done)))
theorem iv{o:Oper}{p:POp}(e:T.op o=some p):∀c,o.op≠.defer c:=by
 intro c i;unfold Tbl.op at e;rw[i]at e;simp at e
theorem A7{o:Oper}{p:POp}(l:T.op o=some p)(B:p.eT=true) :
  (∃t U x k W A,o.op=.store t U x/\T.size t=some k/\T.opd U=some W/\T.opd x=some A/\p=.store k W A) \/
  (∃c x y t e i A X,o.op=.call c/\c.callee=.builtin .append/\c.args.toList=[x,y]/\c.argTypes.toList=[t,t]/\T.P.underlying t=some (.slice e)/\T.P.info? e=some i/\i.zero.isSome=true /\
   (i.zero.map (·.cells.size))=some i.size/\0<i.size/\T.opd x=some A/\T.opd y=some X/\p=.append i.size i.bytes A X) \/
  (∃t R S sh x k v A pk pv,(o.op=.mapUpdate t x k v\/o.op=.insert t x k v)/\T.P.underlying t=some (.map R S)/\T.pD R=some sh/\T.opd x=some A/\T.opd k=some pk/\T.opd v=some pv /\
   (p=.auC sh A pk pv\/p=.insert sh A pk pv)):=by
 unfold Tbl.op at l;split at l
 case h_17=>
  rename_i t x k v O;split at l
  ·rename_i R S V;split at l<;>cases l;rename_i sh p q r J K M Y;exact .inr (.inr ⟨t,R,S,sh,x,k,v,p,q,r,.inl O,V,J,K,M,Y,.inl rfl⟩)
  ·cases l
 case h_18=>
  rename_i t x k v O;split at l
  ·rename_i R S V;split at l<;>cases l;rename_i sh p q r J K M Y;exact .inr (.inr ⟨t,R,S,sh,x,k,v,p,q,r,.inr O,V,J,K,M,Y,.inr rfl⟩)
  ·cases l
 case h_9 =>rename_i t U x O;split at l<;>cases l;rename_i k W A J K M;exact .inl ⟨t,U,x,k,W,A,O,J,K,M,rfl⟩
 case h_26=>
  rename_i c O;unfold Tbl.call at l;split at l
  ·rename_i b α;split at l
   ·split at l<;>(first|(simp only[avM]at l;obtain⟨_,-,rfl⟩:=l;simp[POp.eT]at B;done)|(cases l;simp[POp.eT]at B;done)|(cases l;done))
   ·rename_i x y t u Z β;split at l<;>try cases l
    rename_i e e' ht V;split at l<;>try cases l
    rename_i i A X hi hx hy;split at l
    ·rename_i N;cases l;obtain⟨rfl,J,K,M⟩:=N;exact .inr (.inl ⟨c,x,y,t,e,i,A,X,O,α,Z,β,ht,hi,J,K,M,hx,hy,rfl⟩)
    ·cases l
   ·split at l<;>(first|(simp only[avM]at l;obtain⟨_,-,rfl⟩:=l;simp[POp.eT]at B;done)|(cases l;done))
   ·split at l<;>(first|(cases l;simp[POp.eT]at B;done)|(cases l;done))
   ·split at l<;>(first|(cases l;simp[POp.eT]at B;done)|(cases l;done))
   ·cases l
  ·split at l
   ·split at l
    ·cases l;simp[POp.eT]at B
    ·cases l
   ·cases l
  ·simp only[avM]at l;obtain⟨_,-,rfl⟩:=l;simp[POp.eT]at B
  ·cases l
 all_goals (repeat' (first|(split at l)|(simp only[avM]at l;obtain⟨_,-,rfl⟩:=l;simp[POp.eT]at B;done)|(cases l;simp[POp.eT]at B;done)|(cases l;done)))
theorem Kf{o:Oper}{p:POp}{K:R_}(hc:T.op o=some p)(hk:p.eT=true)(h:cH p F H K)(M:eS ds n E F a)(hW:bY E H w)(N:E.num=T.num):Dj T.P E H w o a K:=by
 rcases A7 hc hk with⟨t,ax,x,k,pp,px,ho,h1,h2,h3,rfl⟩|⟨c,x,y,t,e,i,px,py,ho,hcc,hca,hct,ht,hi,g1,g2,g3,hx,hy,rfl⟩|⟨t,kt,et,sh,x,k,v,px,pk,pv,ho,hu,hsh,hx,hkk,hv,hp⟩
 simp only[cH]at h;split at h;rename_i pa pv A X;obtain⟨hl,H',Y,u⟩:=h;obtain⟨w',hr,V,hE⟩:=J6 ho h1 h2 h3 A X hl Y M hW N;exact⟨undef,_,w',E,H',.junk,hr,.inr ⟨rfl,rfl⟩,.junk _,V,hE,u⟩;exact h.elim;simp only[cH]at h;split at h;rename_i pa pb A W;exact Dr ho hcc hca hct ht hi g1 g2 g3 (bQ hx A M N) (bQ hy W M N) h hW;exact h.elim;have l:∀q B J g l,px.ev F=some (.map q)->pk.ev F=some B->pv.ev F=some J->H q=some (.map sh g)->keyOf sh B=some l->K .junk (H.set q (.map sh (g.upd l J)))->Dj T.P E H w o a K:=by intro q B J g l O e2 R S U u;obtain⟨w',g1,g2,g3⟩:=Fu hu hsh (bQ hx O M N) (bQ hkk e2 M N) (bQ hv R M N) S U hW;refine⟨undef,.skip,w',E,_,.junk,?_,.inr ⟨rfl,rfl⟩,.junk _,g2,g3,u⟩;rcases ho with ho|ho<;>(unfold execOp;rw[ho];simp[g1])
 rcases hp with rfl|rfl
 simp only[cH]at h;split at h;rename_i q B J O e2 R;split at h;rename_i α g Z S U;obtain⟨rfl,u⟩:=h;exact l q B J g Z O e2 R S U u;exact h.elim;exact h.elim;simp only[cH]at h;split at h;rename_i q B J O e2 R;split at h;rename_i α g Z S U;obtain⟨rfl,-,u⟩:=h;exact l q B J g Z O e2 R S U u;exact h.elim;exact h.elim
theorem Zz(X:C.P=T.P)(A:C.num=T.num){o:Oper}{p:POp}{d:O_}{K:K_}{Q:Exit->Act->World->Prop}{next:Act->World->Prop}(hc:T.op o=some p)(hd:o.dst=d)(hlt:o.dst.all (·<n)=true)
  (h:wpOp C p d K F H) (O:eS ds n E F a) (hW:bY E H w) (Y:E.num=T.num) (auG:pY ds n E H w K next):o.wpIn (Fz ro) fu T.P a w next Q:=by
 by_cases hk:p.sW=true
 ·obtain⟨c,ho,i⟩:=E6 hc hk;unfold Tbl.call at i;split at i
  ·rename_i b M;exfalso
   repeat' (first|(split at i)|(simp only[avM]at i;obtain⟨_,-,rfl⟩:=i;simp[POp.sW]at hk;done)|(cases i;simp[POp.sW]at hk;done)|(cases i;done))
  ·rename_i f M;split at i
   ·rename_i m xs hm U;split at i
    ·rename_i hf;cases i;rw[<-X];refine TY h hd hlt ho M (vc:=#[]) (by rw[A,hf];rfl) (λN F' vs _ R Z β=>?_) O hW (Y.trans A.symm) auG;simpa using EQ U β R (Z.trans A)
    ·cases i
   ·cases i
  ·rename_i t M;simp only[avM]at i;obtain⟨xs,U,rfl⟩:=i;have h':wD C (aR.ev F (.tmp t)) xs d K F H:=h;have δ:a.eval (.tmp t)=a.tmps.getD t undef:=rfl;cases α:aR.ev F (.tmp t)with
   |none=>rw[α]at h';exact h'.elim
   |some u=>
    rw[α]at h';have r:=O.t t _ α;cases u with
    |fn name cs=>
     generalize hv:a.tmps.getD t undef=v at r;cases r with
     |fn vc V W=>
     rw[<-X];refine TY h' hd hlt ho M (vc:=vc) (by rw[δ,hv,Y,A]) (λN F' ws η A' Z κ=>?_) O hW (Y.trans A.symm) auG;rw[Array.toList_append];refine fW.append (by simpa using EQ U κ A' (Z.trans A)) (fW.adG (by simpa using V) λj p u hp hu=>(W j p u hp (by simpa using hu)).mono η)
    |lit u=>
     obtain⟨l,V,hy⟩:=h';unfold PV.Wu at V;split at V
     ·rename_i l' f' c' e;split at V
      ·rename_i ζ;cases V;obtain⟨rfl,rfl⟩:=ζ;cases e;generalize hv:a.tmps.getD t undef=v at r;cases r;rw[<-X];exact Bl hy hd hlt ho M (by rw[δ,hv]) (λN F' vs A' N' β=>by simpa using EQ U β A' (N'.trans A)) O hW (Y.trans A.symm) auG
      ·cases V
     ·cases V
    |_=>exact h'.elim
  ·cases i
 ·have γ:p.sW=false:=by simpa using hk
  have y:(if p.iN then oQ (cN p F) d K F H else if p.eT then cH p F H (λr H'=>K (F.put d r) H')else wX (bD p F H) d K F H):=by cases p<;>first|exact h|(simp[POp.sW]at γ)
  by_cases hn:p.iN=true
  ·rw[aF hn]at y;obtain⟨mk,x,ε,hK⟩:=y;obtain⟨v,w',N,q,W,hq,B,J,S⟩:=T4 hc hn ε O hW Y;refine ND (iv hc) ?_;rw[W,Oper.uponIn_value];exact auG N _ _ _ w' (by rw[<-hd];exact(O.mono S.env).put hlt B) J S (hK q hq)
  ·rw[aC hn]at y;by_cases hw:p.eT=true
   ·rw[aF hw]at y;obtain⟨v,nx,w',N,H',pv,W,θ,B,J,S,hK⟩:=Kf hc hw y O hW Y;refine ND (iv hc) ?_;have R:eS ds n N (F.put d pv) (a.put o.dst v):=by rw[<-hd];exact(O.mono S.env).put hlt B
    rcases θ with rfl|⟨rfl,rfl⟩
    ·rw[W,Oper.uponIn_value];exact auG N _ _ _ w' R J S hK
    ·rw[W,Oper.uponIn_skip];exact auG N _ _ _ w' R J S hK
   ·rw[aC hw]at y;obtain⟨pv,ι,hK⟩:=y;obtain⟨v,w',N,W,B,J,S⟩:=Ni hc (by simpa using hn) (by simpa using hw) γ ι O hW Y;refine ND (iv hc) ?_;rw[W,Oper.uponIn_value];exact auG N _ _ _ w' (by rw[<-hd];exact(O.mono S.env).put hlt B) J S hK
end
def aR.cX:aR->N_
 | .tmp t=>[t]
 | .const _=>[]
def zY:Option aR->N_
 |none=>[]
 |some x=>x.cX
def WP:List aR->N_
 |[]=>[]
 |x::xs=>x.cX++WP xs
def Ib:List (Nat × Nat × aR)->N_
 |[]=>[]
 |x::xs=>x.2.2.cX++Ib xs
def Ia:List (Nat × aR)->N_
 |[]=>[]
 |x::xs=>x.2.cX++Ia xs
def POp.cX:POp->N_
 | .mv x=>x.cX
 | .pick c a b=>c.cX++(a.cX++b.cX)
 | .bin _ x y=>x.cX++y.cX
 | .eqb _ x y=>x.cX++y.cX
 | .eqs _ _ x y=>x.cX++y.cX
 | .un _ x=>x.cX
 | .conv _ x=>x.cX
 | .same x=>x.cX
 | .alloc _=>[]
 | .box _ x=>x.cX
 | .build _ ps=>Ib ps
 | .atO _ _ _ _ ps=>Ia ps
 | .load _ p=>p.cX
 | .store _ p x=>p.cX++x.cX
 | .atX x=>x.cX
 | .auN _ x=>x.cX
 | .field _ _ x=>x.cX
 | .auB _ x i=>x.cX++i.cX
 | .idxA _ _ x i=>x.cX++i.cX
 | .idxV _ _ _ x i=>x.cX++i.cX
 | .auL x i=>x.cX++i.cX
 | .slice _ x lo hi mx=>x.cX++(zY lo++(zY hi++zY mx))
 | .auH x lo hi=>x.cX++(zY lo++zY hi)
 | .sliceA _ _ x lo hi mx=>x.cX++(zY lo++(zY hi++zY mx))
 | .len x=>x.cX
 | .auK x=>x.cX
 | .auV x=>x.cX
 | .lenM x=>x.cX
 | .isNil _ x=>x.cX
 | .extract x _=>x.cX
 | .atS _ _ _ l c=>l.cX++c.cX
 | .append _ _ x y=>x.cX++y.cX
 | .auF _ x y=>x.cX++y.cX
 | .mkfn _ cs=>WP cs
 | .auR _=>[]
 | .lookup _ _ x k _=>x.cX++k.cX
 | .auC _ x k v=>x.cX++(k.cX++v.cX)
 | .insert _ x k v=>x.cX++(k.cX++v.cX)
 | .stuck=>[]
 | .atY x=>x.cX
 | .str2bytes x=>x.cX
 | .call _ e=>WP e
 | .auM x e=>x.cX++WP e
def uC(l:N_)(F F':PF):Prop:=∀t∈l,F t=F' t
theorem uC.left{a b:N_}{F F':PF}(h:uC (a++b) F F'):uC a F F':=λt e=>h t (by simp[e])
theorem uC.right{a b:N_}{F F':PF}(h:uC (a++b) F F'):uC b F F':=λt e=>h t (by simp[e])
section
variable {F F':PF} {H H':PH}
theorem cI{x:aR}(h:uC x.cX F F'):x.ev F=x.ev F':=by
 cases x with
 |tmp t=>exact h t (by simp[aR.cX])
 |const v=>rfl
theorem OA:∀{xs:List aR},uC (WP xs) F F'->aR.evs F xs=aR.evs F' xs
 |[],_=>rfl
 |x::xs,h=>by simp only[aR.evs,cI h.left,OA h.right]
theorem nb:∀{ps:List (Nat × Nat × aR)}{cs:V_},uC (Ib ps) F F'->qC cs F ps=qC cs F' ps
 |[],_,_=>rfl
 |(o,s,x)::ps,cs,h=>by simp only[qC];rw[cI (x:=x) h.left];split;rw[nb (ps:=ps) h.right];rfl
theorem DE{s:Nat}:∀{ps:List (Nat × aR)}{rs:P2_},uC (Ia ps) F F'->gY s rs F ps=gY s rs F' ps
 |[],_,_=>rfl
 |(i,x)::ps,rs,h=>by simp only[gY];rw[cI (x:=x) h.left];split;rw[DE (ps:=ps) h.right];rfl
theorem GQ{d:Int}{x:Option aR}(h:uC (zY x) F F'):bnd F d x=bnd F' d x:=by
 cases x with
 |none=>rfl
 |some x=>simp only[bnd,cI (x:=x) h]
theorem Pv{op:POp}(h:uC op.cX F F'):bD op F H=bD op F' H:=by
 cases op
 case mv x=>simp only[bD,cI (x:=x) h]
 case same x=>simp only[bD,cI (x:=x) h]
 case pick c a b=>simp only[bD,cI (x:=c) h.left,cI (x:=a) h.right.left,cI (x:=b) h.right.right]
 case bin x y=>simp only[bD,cI (x:=x) h.left,cI (x:=y) h.right]
 case eqb x y=>simp only[bD,cI (x:=x) h.left,cI (x:=y) h.right]
 case eqs x y=>simp only[bD,cI (x:=x) h.left,cI (x:=y) h.right]
 case un x=>simp only[bD,cI (x:=x) h]
 case conv x=>simp only[bD,cI (x:=x) h]
 case box r x=>cases r<;>simp only[bD,cI (x:=x) h]
 case build ps=>simp only[bD,nb (ps:=ps) h]
 case atO r _ _ _ ps=>cases r<;>simp only[bD,DE (ps:=ps) h]
 case load n p=>cases n<;>simp only[bD,cI (x:=p) h]
 case atX x=>simp only[bD,cI (x:=x) h]
 case auN x=>simp only[bD,cI (x:=x) h]
 case field x=>simp only[bD,cI (x:=x) h]
 case auB x i=>simp only[bD,cI (x:=x) h.left,cI (x:=i) h.right]
 case idxA x i=>simp only[bD,cI (x:=x) h.left,cI (x:=i) h.right]
 case idxV x i=>simp only[bD,cI (x:=x) h.left,cI (x:=i) h.right]
 case auL x i=>simp only[bD,cI (x:=x) h.left,cI (x:=i) h.right]
 case slice s x lo hi mx=>
  have e:x.ev F=x.ev F':=cI h.left;have l:∀d,bnd F d lo=bnd F' d lo:=λd=>GQ h.right.left;have u:∀d,bnd F d hi=bnd F' d hi:=λd=>GQ h.right.right.left;cases mx with
  |none=>simp only[bD,e,l,u]
  |some m =>have w:∀d,bnd F d (some m)=bnd F' d (some m):=λd=>GQ (x:=some m) h.right.right.right;simp only[bD,e,l,u,w]
 case sliceA n size x lo hi mx =>have e:x.ev F=x.ev F':=cI h.left;cases lo<;>cases hi<;>cases mx<;>simp only[bD,e]
 case auH x lo hi =>have e:x.ev F=x.ev F':=cI h.left;have l:∀d,bnd F d lo=bnd F' d lo:=λd=>GQ h.right.left;have u:∀d,bnd F d hi=bnd F' d hi:=λd=>GQ h.right.right;simp only[bD,e,l,u]
 case len x=>simp only[bD,cI (x:=x) h]
 case auK x=>simp only[bD,cI (x:=x) h]
 case auV x=>simp only[bD,cI (x:=x) h]
 case lenM x=>simp only[bD,cI (x:=x) h]
 case isNil x=>simp only[bD,cI (x:=x) h]
 case extract x i=>simp only[bD,cI (x:=x) h]
 case auF x y=>simp only[bD,cI (x:=x) h.left,cI (x:=y) h.right]
 case mkfn cs=>simp only[bD,OA (xs:=cs) h]
 case lookup sh z x k ok=>simp only[bD,cI (x:=x) h.left,cI (x:=k) h.right]
 case atY x=>simp only[bD,cI (x:=x) h]
 all_goals rfl
theorem M5{op:POp}(h:uC op.cX F F'):cN op F=cN op F':=by
 cases op
 case box r x=>cases r<;>simp only[cN,cI (x:=x) h]
 case atO r _ _ _ ps=>cases r<;>simp only[cN,DE (ps:=ps) h]
 case atS l c=>simp only[cN,cI (x:=l) h.left,cI (x:=c) h.right]
 all_goals rfl
theorem Rk{op:POp}{K:R_}(h:uC op.cX F F'):cH op F H K=cH op F' H K:=by
 cases op
 case store n p x=>simp only[cH,cI (x:=p) h.left,cI (x:=x) h.right]
 case append s b x y=>simp only[cH,cI (x:=x) h.left,cI (x:=y) h.right]
 case auC sh x k v=>simp only[cH,cI (x:=x) h.left,cI (x:=k) h.right.left,cI (x:=v) h.right.right]
 case insert sh x k v=>simp only[cH,cI (x:=x) h.left,cI (x:=k) h.right.left,cI (x:=v) h.right.right]
 all_goals rfl
theorem yf{op:POp}(h:uC op.cX F F'):op.kind F=op.kind F':=by
 have e:(if op.iN then Kind.new (cN op F)else if op.eT then .write (λH K=>cH op F H K)else .calm (bD op F)) =
   (if op.iN then Kind.new (cN op F')else if op.eT then .write (λH K=>cH op F' H K)else .calm (bD op F')):=by
  rw[M5 h];have i:(λH K=>cH op F H K)=λH K=>cH op F' H K:=by funext H K;exact Rk h
  have l:bD op F=bD op F':=by funext H;exact Pv h
  rw[i,l]
 cases op
 case call n az=>simp only[POp.kind,OA (xs:=az) h]
 case auM x az=>simp only[POp.kind,cI (x:=x) h.left,OA (xs:=az) h.right]
 case insert sh x k v=>simp only[POp.kind,cI (x:=x) h.left,cI (x:=k) h.right.left,cI (x:=v) h.right.right]
 all_goals exact e
def bX.cX(i:bX):N_:=
 match i.guard with
 |none=>i.op.cX
 |some (t,_)=>t::i.op.cX
theorem o9{i:bX}(h:uC i.cX F F'):i.kind F=i.kind F':=by
 unfold bX.kind;unfold bX.cX at h;cases e:i.guard with
 |none=>rw[e]at h;exact yf h
 |some p =>obtain⟨t,l⟩:=p;rw[e]at h;simp only;rw[h t aZ,yf (λu w=>h u (by simp[w]))]
theorem Y4(p:PV):∃q:Nat,∀(H H':PH) n,H q=H' q->loadCells H p n=loadCells H' p n:=by
 cases p
 case ptr o s i c=>exact⟨o,λH H' n h=>by simp only[loadCells,h]⟩
 all_goals exact⟨0,λH H' n h=>rfl⟩
theorem acE(s:Nat)(p:PV):∃q:Nat,∀(H H':PH),H q=H' q->dH H s p=dH H' s p:=by
 cases p
 case osl o s' off len=>exact⟨o,λH H' h=>by simp only[dH,h]⟩
 all_goals exact⟨0,λH H' h=>rfl⟩
theorem Ur(op:POp)(F:PF):∃q:Nat,∀(H H':PH),H q=H' q->bD op F H=bD op F H':=by
 cases op
 case load n p=>
  cases hp:p.ev F with
  |none=>exact⟨0,λH H' _=>by cases n<;>simp only[bD,hp]⟩
  |some a =>obtain⟨q,hq⟩:=Y4 a;exact⟨q,λH H' h=>by cases n<;>simp only[bD,hp,hq H H' _ h]⟩
 case lenM x=>
  cases hp:x.ev F with
  |none=>exact⟨0,λH H' _=>by simp only[bD,hp]⟩
  |some a=>
   cases a
   case map o=>exact⟨o,λH H' h=>by simp only[bD,hp,h]⟩
   all_goals exact⟨0,λH H' _=>by simp only[bD,hp]⟩
 case lookup sh z x k ok=>
  cases hp:x.ev F with
  |none=>exact⟨0,λH H' _=>by simp only[bD,hp]⟩
  |some a=>
   cases a
   case map o=>exact⟨o,λH H' h=>by cases e:k.ev F<;>simp only[bD,hp,e,h]⟩
   all_goals exact⟨0,λH H' _=>by simp only[bD,hp]⟩
 case atY x=>
  cases hp:x.ev F with
  |none=>exact⟨0,λH H' _=>by simp only[bD,hp]⟩
  |some a =>obtain⟨q,hq⟩:=acE 1 a;exact⟨q,λH H' h=>by simp only[bD,hp,hq H H' h]⟩
 case sliceA n s x lo hi mx=>cases lo<;>cases hi<;>cases mx<;>exact⟨0,λH H' _=>rfl⟩
 case box r x=>cases r<;>exact⟨0,λH H' _=>rfl⟩
 case atO r _ _ _ _=>cases r<;>exact⟨0,λH H' _=>rfl⟩
 all_goals exact⟨0,λH H' _=>rfl⟩
theorem yj{p:PV}{n:Nat}{cs:V_}(e:H.le H')(h:loadCells H p n=some cs):loadCells H' p n=some cs:=by
 cases p
 case ptr o s i c=>
  simp only[loadCells]at h ⊢;cases l:H o with
  |none=>rw[l]at h;cases h
  |some x=>rw[e o x l];rw[l]at h;exact h
 all_goals exact h
theorem Wj{s:Nat}{p:PV}{rs:P2_}(e:H.le H')(h:dH H s p=some rs):dH H' s p=some rs:=by
 cases p
 case osl o s' off len=>
  simp only[dH]at h ⊢;cases i:H o with
  |none=>rw[i]at h;simp at h
  |some x=>rw[e o x i];rw[i]at h;exact h
 all_goals exact h
theorem qu{op:POp}{v:PV}(i:H.le H')(h:bD op F H=some v):bD op F H'=some v:=by
 cases op
 case load n p=>
  cases hp:p.ev F with
  |none=>cases n<;>simp only[bD,hp]at h<;>cases h
  |some a=>
   cases n with
   |none=>
    simp only[bD,hp]at h ⊢;cases e:loadCells H a 1 with
    |none=>rw[e]at h;cases h
    |some cs=>rw[yj i e];rw[e]at h;exact h
   |some n=>
    simp only[bD,hp]at h ⊢;cases e:loadCells H a n with
    |none=>rw[e]at h;cases h
    |some cs=>rw[yj i e];rw[e]at h;exact h
 case lenM x=>
  simp only[bD]at h ⊢;split at h
  ·rename_i o u;cases l:H o with
   |none=>rw[l]at h;cases h
   |some y=>rw[i o y l];rw[l]at h;exact h
  ·cases h
 case lookup sh z x k ok=>
  simp only[bD]at h ⊢;split at h
  ·rename_i o B u A;cases l:H o with
   |none=>rw[l]at h;cases h
   |some y=>rw[i o y l];rw[l]at h;exact h
  ·cases h
 case atY x=>
  simp only[bD]at h ⊢;split at h
  ·rename_i a w;cases e:dH H 1 a with
   |none=>rw[e]at h;cases h
   |some rs=>rw[Wj i e];rw[e]at h;exact h
  ·cases h
 case sliceA n s x lo hi mx=>cases lo<;>cases hi<;>cases mx<;>exact h
 case box r x=>cases r<;>exact h
 case atO r _ _ _ _=>cases r<;>exact h
 all_goals exact h
end
theorem PH.x5(H:PH)(l:N_):∃o,H o=none/\o ∉ l:=by
 obtain⟨n,i⟩:=H.fin;refine⟨n+l.sum+1,i _ Om,λh=>?_⟩;have:n+l.sum+1<=l.sum:=by
  have e:∀(l:N_)(x:Nat),x∈l->x<=l.sum:=by
   intro l
   induction l with
   |nil=>intro x hx;cases hx
   |cons y ys u=>
    intro x hx;rcases avL.1 hx with rfl|hx
    simp;have:=u x hx;simp;omega
  exact e l _ h
 omega
theorem PH.set_comm(H:PH){o q:Nat}(x y:aV)(h:o≠q):(H.set o x).set q y=(H.set q y).set o x:=by
 refine PH.ext λp=>?_;simp only[cV];by_cases e:p=q<;>by_cases i:p=o<;>simp_all
theorem PH.UZ{H:PH}{o:Nat}(x:aV)(h:H o=none):H.le (H.set o x):=by
 intro p y hp;rw[cV];split;rename_i e;subst e;rw[h]at hp;cases hp;exact hp
theorem PH.Hx{H:PH}{o q:Nat}{x:aV}:(H.set o x) q=none↔q≠o/\H q=none:=by
 rw[cV];split<;>simp_all
theorem PH.le_trans{A B D:PH}(h:A.le B)(k:B.le D):A.le D:=λo x e=>k o x (h o x e)
theorem PH.le_none{A B:PH}(h:A.le B){o:Nat}(hb:B o=none):A o=none:=by
 cases e:A o with
 |none=>rfl
 |some x=>have:=h o x e;rw[hb]at this;cases this
theorem PH.akF{A B:PH}(h:A.le B){o:Nat}{x:aV}(i:A o=none):A.le (B.set o x):=by
 intro p y hp;rw[cV];split;rename_i e;subst e;rw[i]at hp;cases hp;exact h p y hp
structure C2(f:PH->Option PV):Prop where
 dep:∃q:Nat,∀(H H':PH),H q=H' q->f H=f H'
 mono:∀(H H':PH) v,H.le H'->f H=some v->f H'=some v
structure adP(w:PH->(R_)->Prop):Prop where
 mono:∀H (K K':R_),(∀v H',K v H'->K' v H')->w H K->w H K'
 some:∀H (K:R_),w H K->∃v H',K v H'
inductive Kind.Ok:Kind->Prop
 |fail:Kind.Ok .fail
 |calm {f:PH->Option PV} (h:C2 f):Kind.Ok (.calm f)
 |new (r:Option ((Nat->PV) × aV)):Kind.Ok (.new r)
 |write {w:PH->(R_)->Prop} (h:adP w):Kind.Ok (.write w)
 |call (name:Nat) (args:Option V_):Kind.Ok (.call name args)
 |ins (r:Option (Nat × MSh × List KS × PV)):Kind.Ok (.ins r)
section
variable {C:Ctx} {Hs:PH} {S:Spec} {H:PH}
theorem ID{op:POp}{F:PF}{K K':R_}(h:∀v H',K v H'->K' v H')(i:cH op F H K):cH op F H K':=by
 cases op
 case store n p x=>
  simp only[cH]at i ⊢;split at i
  ·obtain⟨E,H',l,J⟩:=i;exact⟨E,H',l,h _ _ J⟩
  ·exact i.elim
 case append s b x y=>
  simp only[cH]at i ⊢;split at i
  ·rename_i a c M N;obtain⟨src,E,l⟩:=i;refine⟨src,E,?_⟩;split at l
   ·exact⟨l.1,λe=>h _ _ (l.2.1 e),λe o u=>h _ _ (l.2.2 e o u)⟩
   ·obtain⟨g1,g2,g3,rs,g4,w,A,B⟩:=l;exact⟨g1,g2,g3,rs,g4,w,h _ _ A,λo u=>h _ _ (B o u)⟩
   ·obtain⟨g1,g3,rs,g4,w,A,B⟩:=l;exact⟨g1,g3,rs,g4,w,h _ _ A,λo u=>h _ _ (B o u)⟩
   ·exact l.elim
  ·exact i.elim
 case auC sh x k v=>
  simp only[cH]at i ⊢;split at i
  ·split at i
   ·exact⟨i.1,h _ _ i.2⟩
   ·exact i.elim
  ·exact i.elim
 case insert sh x k v=>
  simp only[cH]at i ⊢;split at i
  ·split at i
   ·exact⟨i.1,i.2.1,h _ _ i.2.2⟩
   ·exact i.elim
  ·exact i.elim
 all_goals exact i.elim
theorem I4{op:POp}{F:PF}{K:R_}(i:cH op F H K):∃v H',K v H':=by
 cases op
 case store n p x=>
  simp only[cH]at i;split at i
  ·obtain⟨B,H',l,E⟩:=i;exact⟨_,_,E⟩
  ·exact i.elim
 case append s b x y=>
  simp only[cH]at i;split at i
  ·rename_i a c M N;obtain⟨src,B,l⟩:=i;split at l
   ·by_cases e:src=[]
    ·exact⟨_,_,l.2.1 e⟩
    ·obtain⟨o,J⟩:=H.fresh;exact⟨_,_,l.2.2 e o J⟩
   ·obtain⟨g1,g2,g3,rs,g4,w,u,A⟩:=l;exact⟨_,_,u⟩
   ·obtain⟨g1,g3,rs,g4,w,u,A⟩:=l;exact⟨_,_,u⟩
   ·exact l.elim
  ·exact i.elim
 case auC sh x k v=>
  simp only[cH]at i;split at i
  ·split at i
   ·exact⟨_,_,i.2⟩
   ·exact i.elim
  ·exact i.elim
 case insert sh x k v=>
  simp only[cH]at i;split at i
  ·split at i
   ·exact⟨_,_,i.2.2⟩
   ·exact i.elim
  ·exact i.elim
 all_goals exact i.elim
theorem Gv(op:POp)(F:PF):(op.kind F).Ok:=by
 have e:(if op.iN then Kind.new (cN op F)else if op.eT then .write (λH K=>cH op F H K)else .calm (bD op F)).Ok:=by
  split
  ·exact .new _
  ·split
   ·exact .write ⟨λH K K' h i=>ID h i,λH K i=>I4 i⟩
   ·exact .calm ⟨Ur op F,λH H' v h l=>qu h l⟩
 cases op
 case call n az=>exact .call _ _
 case auM x az=>
  simp only[POp.kind];split
  ·exact .call _ _
  ·exact .fail
 case insert sh x k v=>exact .ins _
 all_goals exact e
theorem xP(i:bX)(F:PF):(i.kind F).Ok:=by
 unfold bX.kind;split;exact Gv _ _;split;split;exact Gv _ _;exact .calm ⟨⟨0,λ_ _ _=>rfl⟩,λ_ _ _ _ h=>h⟩;exact .calm ⟨⟨0,λ_ _ _=>rfl⟩,λ_ _ _ _ h=>h⟩;exact .fail
theorem Kind.xU{k:Kind}(J:k.Ok){st:Bool}{K K':R_}(h:∀v H',Hs.le H'->K v H'->K' v H')(l:Hs.le H)(u:k.run C Hs S st K H):k.run C Hs S st K' H:=by
 cases J with
 |fail=>exact u
 |calm _=>obtain⟨v,e,i⟩:=u;exact⟨v,e,h _ _ l i⟩
 |new r=>obtain⟨N,x,e,i⟩:=u;exact⟨N,x,e,λo F=>h _ _ (PH.le_trans l (PH.UZ x F)) (i o F)⟩
 |write M=>exact M.mono _ _ _ (λv H' B=>⟨B.1,h _ _ B.1 B.2⟩) u
 |call name args =>obtain⟨vs,D,R,e,i,y,w,h5,A⟩:=u;exact⟨vs,D,R,e,i,y,w,h5,λr H' a b=>⟨(A r H' a b).1,h _ _ (A r H' a b).1 (A r H' a b).2⟩⟩
 |ins r =>obtain⟨o,sh,E,v,g,e,i,y,w,h5⟩:=u;exact⟨o,sh,E,v,g,e,i,y,w,h _ _ (PH.akF l w) h5⟩
def Kind.cls:Kind->Nat
 | .fail | .calm _=>0
 | .new _=>1
 | .write _=>2
 | .call ..=>3
 | .ins _=>4
theorem QK{H:PH}{D:N_}{o:Nat}(x:aV)(h:o ∉ D):(H.set o x).only D=H.only D:=by
 refine PH.ext λq=>?_;simp only[PH.only,cV];split;rename_i hq;rw[aC (by rintro rfl;exact h hq)];rfl
theorem jV(H e H':PH)(o:Nat):(H.over e H') o=(match H' o with|some x=>some x|none=>match e o with|some _=>some .dead|none=>H o):=rfl
theorem yH(H:PH)(D:N_)(o:Nat):(H.only D) o=if o∈D then H o else none:=rfl
theorem G4{H H':PH}{D:N_}{o:Nat}(x:aV)(l:o ∉ D)(i:H' o=none):(H.set o x).over (H.only D) H'=(H.over (H.only D) H').set o x:=by
 refine PH.ext λq=>?_;rw[jV,cV,cV,jV];by_cases e:q=o;subst e;simp only[i,yH,aC l,if_true];simp only[aC e]
theorem ze{H H':PH}{D:N_}{o:Nat}(h:(H.over (H.only D) H') o=none):H o=none/\H' o=none:=by
 rw[jV]at h;cases e:H' o with
 |some x=>rw[e]at h;cases h
 |none=>
  rw[e]at h;simp only at h;cases i:(H.only D) o with
  |some x=>rw[i]at h;cases h
  |none=>rw[i]at h;exact⟨h,rfl⟩
theorem Bh{name:Nat}{args:Option V_}{r:Option ((Nat->PV) × aV)}{K:PV->R_}{X Y:Bool}
  (h:(Kind.call name args).run C Hs S X (λv H'=>(Kind.new r).run C Hs S Y (λu l=>K v u l) H') H) :
  (Kind.new r).run C Hs S Y (λu H'=>(Kind.call name args).run C Hs S X (λv l=>K v u l) H') H:=by
 obtain⟨vs,D,R,h1,h2,M,h4,h5,N⟩:=h;obtain⟨r0,Z,E,F⟩:=h5 H;obtain⟨-,mk,x,V,-⟩:=N r0 Z E F;refine⟨mk,x,V,λo U=>?_⟩;have i:o ∉ D:=λhD=>by obtain⟨y,W⟩:=M o hD;rw[U]at W;cases W
 refine⟨vs,D,R,h1,h2,λq hq=>?_,?_,?_,?_⟩;rw[cV];split;exact⟨_,rfl⟩;exact M q hq;rw[QK x i];exact h4;rw[QK x i];exact h5;intro v H' O w;rw[QK x i]at O w ⊢;have J:H' o=none:=by
  cases e:H' o with
  |none=>rfl
  |some y =>have:=w o y e (by rw[yH,aC i]);rw[cV,aF rfl]at this;cases this
 have A:pI H (H.only D) H':=λq y hq h0=>by have:=w q y hq h0;rw[cV]at this;split at this;cases this;exact this
 obtain⟨g1,mk',x',g2,g3⟩:=N v H' O A;rw[V]at g2;cases g2;have B:(H.over (H.only D) H') o=none:=by rw[jV,J,yH,aC i];exact U
 rw[G4 x i J];exact⟨PH.le_trans g1 (PH.UZ x B),g3 o B⟩
theorem Bj{name:Nat}{args:Option V_}{r:Option ((Nat->PV) × aV)}{K:PV->R_}{Z sj:Bool}(N:Hs.le H)
  (h:(Kind.new r).run C Hs S Z (λv H'=>(Kind.call name args).run C Hs S sj (λu w=>K v u w) H') H) :
  (Kind.call name args).run C Hs S sj (λu H'=>(Kind.new r).run C Hs S Z (λv w=>K v u w) H') H:=by
 obtain⟨U,x,hr,h⟩:=h;obtain⟨o0,O⟩:=H.fresh;obtain⟨vs,D,R,X,Y,-⟩:=h o0 O;obtain⟨o,ho,A⟩:=H.x5 D;have all:∀q,H q=none->q ∉ D->(∀p∈D,∃y,(H.set q x) p=some y)/\aH C name vs (H.only D) (R (H.only D))/\(∀G:PH,∃r H',R (H.only D) r H'/\pI G (H.only D) H') /\
   ∀r H',R (H.only D) r H'->pI (H.set q x) (H.only D) H'->Hs.le ((H.set q x).over (H.only D) H')/\K (U q) r ((H.set q x).over (H.only D) H'):=by
  intro q hq l;obtain⟨α,D',R',g1,g2,g3,g4,V,W⟩:=h q hq;rw[X]at g1;cases g1;rw[Y]at g2;cases g2;rw[QK x l]at g4 V W;exact⟨g3,g4,V,W⟩
 obtain⟨a3,a4,a5,-⟩:=all o ho A;have hD:∀q∈D,∃y,H q=some y:=λq hq=>by obtain⟨y,F⟩:=a3 q hq;rw[cV,aC (by rintro rfl;exact A hq)]at F;exact⟨y,F⟩
 have B:∀q,H q=none->q ∉ D:=λq hq J=>by obtain⟨y,F⟩:=hD q J;rw[hq]at F;cases F
 refine⟨vs,D,R,X,Y,hD,a4,a5,λu H' hR M=>?_⟩;have step:∀q,(H.over (H.only D) H') q=none->Hs.le ((H.over (H.only D) H').set q x)/\K (U q) u ((H.over (H.only D) H').set q x):=by
  intro q hq;obtain⟨i,E⟩:=ze hq;have l:=B q i;obtain⟨-,-,-,a6⟩:=all q i l;have:=a6 u H' hR λp y hp h0=>by rw[cV];split;rename_i e;subst e;rw[E]at hp;cases hp;exact M p y hp h0
  rw[G4 x l E]at this;exact this
 refine⟨?_,U,x,hr,λq hq=>(step q hq).2⟩;obtain⟨q,hq⟩:=(H.over (H.only D) H').fresh;have i:=(step q hq).1;intro p y hp;have:=i p y hp;rw[cV]at this;split at this;rename_i e;subst e;have:=PH.le_none N (ze hq).1;rw[hp]at this;cases this;exact this
theorem Ik{r r':Option ((Nat->PV) × aV)}{K:PV->R_}{A B:Bool}
  (h:(Kind.new r).run C Hs S A (λv H'=>(Kind.new r').run C Hs S B (λu e=>K v u e) H') H) :
  (Kind.new r').run C Hs S B (λu H'=>(Kind.new r).run C Hs S A (λv e=>K v u e) H') H:=by
 obtain⟨J,x,F,h⟩:=h;obtain⟨N,y⟩:=H.fresh;obtain⟨mk',E,i,-⟩:=h N y;refine⟨mk',E,i,λq hq=>⟨J,x,F,λo w=>?_⟩⟩;rw[PH.Hx]at w;obtain⟨M,O,l,g⟩:=h o w.2;rw[i]at l;cases l;have:=g q (PH.Hx.2 ⟨Ne.symm w.1,hq⟩)
 rwa[PH.set_comm H x E w.1]at this
theorem Bi{f:PH->Option PV}{k:Kind}{K:PV->R_}{w E:Bool}(F:C2 f)(J:k.Ok)(l:k.cls=2\/k.cls=3\/k.cls=4->w=true)(i:Hs.le H)
  (h:(Kind.calm f).run C Hs S w (λv H'=>k.run C Hs S E (λu e=>K v u e) H') H) :
  k.run C Hs S E (λu H'=>(Kind.calm f).run C Hs S w (λv e=>K v u e) H') H:=by
 obtain⟨v,y,h⟩:=h;cases J with
 |fail=>exact h
 |@calm g U=>obtain⟨u,N,h⟩:=h;exact⟨u,N,v,y,h⟩
 |new r =>obtain⟨R,x,M,h⟩:=h;refine⟨R,x,M,λo B=>⟨v,?_,h o B⟩⟩;cases w;exact F.mono _ _ _ (PH.UZ x B) y;exact y
 |write O =>have:w=true:=l (.inl rfl);subst this;exact Kind.xU (.write O) (λu H' _ A=>⟨v,y,A⟩) i h
 |call name args =>have:w=true:=l (.inr (.inl rfl));subst this;exact Kind.xU (.call name args) (λu H' _ A=>⟨v,y,A⟩) i h
 |ins r =>have:w=true:=l (.inr (.inr rfl));subst this;exact Kind.xU (.ins r) (λu H' _ A=>⟨v,y,A⟩) i h
theorem Bg{f:PH->Option PV}{k:Kind}{K:PV->R_}{si F:Bool}(hf:C2 f)(hk:k.Ok)(E:k.cls=2\/k.cls=3\/k.cls=4->F=true)(α:Hs.le H)
  (h:k.run C Hs S si (λv H'=>(Kind.calm f).run C Hs S F (λu A=>K v u A) H') H) :
  (Kind.calm f).run C Hs S F (λu H'=>k.run C Hs S si (λv A=>K v u A) H') H:=by
 cases hk with
 |fail=>exact h.elim
 |@calm g hg=>obtain⟨u,l,v,hv,h⟩:=h;exact⟨v,hv,u,l,h⟩
 |new r=>
  obtain⟨mk,x,hr,h⟩:=h;cases F with
  |true =>obtain⟨o0,B⟩:=H.fresh;obtain⟨u,l,-⟩:=h o0 B;refine⟨u,l,mk,x,hr,λo J=>?_⟩;obtain⟨u',i,y⟩:=h o J;simp only[if_true]at l i;rw[l]at i;cases i;exact y
  |false=>
   obtain⟨q,hq⟩:=hf.dep;obtain⟨o0,B,Y⟩:=H.x5 [q];obtain⟨u,l,-⟩:=h o0 B;simp only[axH,if_false]at l;have i:f H=some u:=by rw[<-l];exact hq _ _ (by rw[cV,aC (by simpa using Ne.symm (λe=>Y (by simp[e])))])
   refine⟨u,i,mk,x,hr,λo J=>?_⟩;obtain⟨u2,hu2,y⟩:=h o J;simp only[axH,if_false]at hu2;rw[hf.mono _ _ _ (PH.UZ x J) i]at hu2;cases hu2;exact y
 |@write w hw =>have:F=true:=E (.inl rfl);subst this;obtain⟨_,_,_,u,l,_⟩:=hw.some _ _ h;refine⟨u,l,hw.mono _ _ _ (λv H' hh=>⟨hh.1,?_⟩) h⟩;obtain⟨-,u',i,y⟩:=hh;simp only[if_true]at l i;rw[l]at i;cases i;exact y
 |call name args =>have:F=true:=E (.inr (.inl rfl));subst this;obtain⟨vs,D,R,M,N,O,U,h5,h6⟩:=h;obtain⟨r0,H0,V,W⟩:=h5 H;obtain⟨-,u,l,-⟩:=h6 r0 H0 V W;refine⟨u,l,vs,D,R,M,N,O,U,h5,λr H' hR X=>?_⟩;obtain⟨g1,u',i,y⟩:=h6 r H' hR X;simp only[if_true]at l i;rw[l]at i;cases i;exact⟨g1,y⟩
 |ins r =>have:F=true:=E (.inr (.inr rfl));subst this;obtain⟨o,sh,Z,v,g,M,N,O,U,u,l,y⟩:=h;exact⟨u,l,o,sh,Z,v,g,M,N,O,U,y⟩
theorem Ij{r r':Option (Nat × MSh × List KS × PV)}{K:PV->R_}{O R:Bool}
  (h:(Kind.ins r).run C Hs S O (λv H'=>(Kind.ins r').run C Hs S R (λu w=>K v u w) H') H) :
  (Kind.ins r').run C Hs S R (λu H'=>(Kind.ins r).run C Hs S O (λv w=>K v u w) H') H:=by
 obtain⟨o,sh,l,v,g,F,J,M,y,o',E,i,v',U,k1,k2,A,V,N⟩:=h;by_cases e:o'=o;subst e;rw[cV,aF rfl]at k2;cases k2;have x:i≠l:=by rintro rfl;simp[lI.upd]at A
 have B:g i=none:=by simpa[lI.upd,x]using A
 refine⟨o',sh,i,v',g,k1,J,B,y,o',sh,l,v,g.upd i v',F,by rw[cV,aF rfl],by simp[lI.upd,Ne.symm x,M],y,?_⟩;have:((H.set o' (.map sh (g.upd i v'))).set o' (.map sh ((g.upd i v').upd l v)))=((H.set o' (.map sh (g.upd l v))).set o' (.map sh ((g.upd l v).upd i v'))):=by refine PH.ext λq=>?_;simp only[cV];split;congr 2;funext k;simp only[lI.upd];by_cases h5:k=l<;>by_cases W:k=i<;>simp_all;rfl
 rw[this];exact N;rw[cV,aC e]at k2;refine⟨o',E,i,v',U,k1,k2,A,V,o,sh,l,v,g,F,by rw[cV,aC (Ne.symm e)];exact J,M,y,?_⟩;rw[PH.set_comm H _ _ e];exact N
def zL(a b:Nat)(e i:Bool):Bool:=
 match a,b with
 |0,0|0,1|1,0|1,1|1,3|3,1|4,4=>true
 |0,_=>e
 |_,0=>i
 |_,_=>false
theorem Qp{B E:Kind}{K:PV->R_}{N O:Bool}(hi:B.Ok)(A:E.Ok)(e:zL B.cls E.cls N O=true)(y:Hs.le H)
  (h:B.run C Hs S N (λv H'=>E.run C Hs S O (λu l=>K v u l) H') H) :
  E.run C Hs S O (λu H'=>B.run C Hs S N (λv l=>K v u l) H') H:=by
 by_cases w:B.cls=0
 ·cases hi with
  |fail=>exact h.elim
  |calm M =>refine Bi M A (λhc=>?_) y h;rcases hc with hc|hc|hc<;>(rw[hc]at e;simpa[zL,Kind.cls]using e)
  |new|write|call|ins=>simp[Kind.cls]at w
 by_cases i:E.cls=0
 ·cases A with
  |fail=>
   cases hi with
   |fail=>exact h
   |calm _=>simp[Kind.cls]at w
   |new r =>obtain⟨mk,x,-,h⟩:=h;obtain⟨o,ho⟩:=H.fresh;exact h o ho
   |write hw=>obtain⟨_,_,_,hh⟩:=hw.some _ _ h;exact hh
   |call name args =>obtain⟨vs,D,R,V,W,X,Y,h5,Z⟩:=h;obtain⟨r0,U,F,J⟩:=h5 H;exact(Z r0 U F J).2
   |ins r =>obtain⟨o,sh,α,v,g,V,W,X,Y,h5⟩:=h;exact h5
  |calm M =>refine Bg M hi (λhc=>?_) y h;rcases hc with hc|hc|hc<;>(rw[hc]at e;simpa[zL,Kind.cls]using e)
  |new|write|call|ins=>simp[Kind.cls]at i
 ·cases hi with
  |fail|calm=>simp[Kind.cls]at w
  |new r=>
   cases A with
   |fail|calm=>simp[Kind.cls]at i
   |new r'=>exact Ik h
   |write=>simp[Kind.cls,zL]at e
   |call=>exact Bj y h
   |ins=>simp[Kind.cls,zL]at e
  |write=>cases A<;>simp[Kind.cls,zL]at e i
  |call=>
   cases A with
   |fail|calm=>simp[Kind.cls]at i
   |new r'=>exact Bh h
   |write=>simp[Kind.cls,zL]at e
   |call=>simp[Kind.cls,zL]at e
   |ins=>simp[Kind.cls,zL]at e
  |ins=>
   cases A with
   |fail|calm=>simp[Kind.cls]at i
   |new r'=>simp[Kind.cls,zL]at e
   |write=>simp[Kind.cls,zL]at e
   |call=>simp[Kind.cls,zL]at e
   |ins=>exact Ij h
end
open Go Go.RowKit
def bX.apart(x y:bX):Bool:=
 (match x.dst with
  |some d=>!(y.cX).contains d&&y.dst != some d
  |none=>true) &&
 (match y.dst with
  |some d=>!(x.cX).contains d
  |none=>true)
theorem Hb{F:PF}{l:N_}{d:O_}(v:PV)(h:∀t,d=some t->t ∉ l):uC l (F.put d v) F:=by
 intro t e;cases d with
 |none=>rfl
 |some d=>
  have:t≠d:=by rintro rfl;exact h t rfl e
  simp only[PF.put,PF.set,upd,aC this]
theorem Z7{F:PF}{d e:O_}(v u:PV)(h:∀t,d=some t->e≠some t):(F.put d v).put e u=(F.put e u).put d v:=by
 cases d with
 |none=>rfl
 |some d=>
  cases e with
  |none=>rfl
  |some e=>
   have i:d≠e:=by rintro rfl;exact h d rfl rfl
   exact abX F (some v) (some u) i
theorem apart_spec{x y:bX}(h:x.apart y=true):(∀d,x.dst=some d->d ∉ y.cX)/\(∀d,x.dst=some d->y.dst≠some d)/\(∀d,y.dst=some d->d ∉ x.cX):=by
 refine⟨λd e=>?_,λd e=>?_,λd e=>?_⟩<;>simp[bX.apart,e]at h;exact h.1.1;exact h.1.2;exact h.2
def POp.cls:POp->Nat
 | .call .. | .auM ..=>3
 | .insert ..=>4
 |op=>if op.iN then 1 else if op.eT then 2 else 0
def Y7(a b:Nat)(e i:Bool):Bool:=
 match a,b with
 |0,0|0,1|1,0|1,1=>true
 |4,4=>e&&i
 |0,_=>e
 |_,0=>i
 |1,3=>e
 |3,1=>i
 |_,_=>false
def nt(x y:bX × Bool):Bool:=x.1.apart y.1&&Y7 x.1.op.cls y.1.op.cls x.2 y.2
section
variable {C:Ctx} {Hs:PH} {S:Spec} {H:PH} {F:PF}
theorem zc(op:POp)(F:PF):(op.kind F).cls=op.cls\/(op.kind F).cls=0:=by
 have e:(if op.iN then Kind.new (cN op F)else if op.eT then .write (λH K=>cH op F H K)else .calm (bD op F)).cls=(if op.iN then 1 else if op.eT then 2 else 0):=by
  split
  ·rfl
  ·split<;>rfl
 cases op
 case call n az=>exact .inl rfl
 case auM x az=>
  simp only[POp.kind];split
  ·exact .inl rfl
  ·exact .inr rfl
 case insert sh x k v=>exact .inl rfl
 all_goals exact .inl e
theorem yd(i:bX)(F:PF):(i.kind F).cls=i.op.cls\/(i.kind F).cls=0:=by
 unfold bX.kind;split;exact zc _ _;split;split;exact zc _ _;exact .inr rfl;exact .inr rfl;exact .inr rfl
theorem akH{a b e i:Nat}{l u:Bool}(h:Y7 a b l u=true)(w:e=a\/e=0)(hb:i=b\/i=0):zL e i l u=true:=by
 unfold Y7 at h;split at h
 all_goals (rcases w with rfl|rfl<;>rcases hb with rfl|rfl<;>simp_all [zL])
theorem Kind.aaP{k:Kind}(A:k.Ok){st:Bool}{K:R_}(e:k.run C Hs S st K H):∃v H',K v H':=by
 cases A with
 |fail=>exact e.elim
 |calm _=>obtain⟨v,l,i⟩:=e;exact⟨v,_,i⟩
 |new r=>obtain⟨M,x,l,i⟩:=e;obtain⟨o,B⟩:=H.fresh;exact⟨_,_,i o B⟩
 |write E=>obtain⟨v,H',h⟩:=E.some _ _ e;exact⟨v,H',h.2⟩
 |call name args =>obtain⟨vs,D,R,l,i,u,w,h5,y⟩:=e;obtain⟨r,H',a,b⟩:=h5 H;exact⟨_,_,(y r H' a b).2⟩
 |ins r =>obtain⟨o,sh,J,v,g,l,i,u,w,h5⟩:=e;exact⟨_,_,h5⟩
def zQ(C:Ctx)(Hs:PH)(S:Spec)(i:bX × Bool)(K:K_)(F:PF)(H:PH):Prop:=(i.1.kind F).run C Hs S i.2 (λv H'=>K (F.put i.1.dst v) H') H
theorem CQ{i:bX × Bool}{K K':K_}(h:∀l H',Hs.le H'->K l H'->K' l H')(e:Hs.le H)(u:zQ C Hs S i K F H):zQ C Hs S i K' F H:=
 Kind.xU (xP _ _) (λv H' a b=>h _ _ a b) e u
theorem Uf{i j:bX × Bool}{K:K_}(w:nt i j=true)(l:Hs.le H)(h:zQ C Hs S i (zQ C Hs S j K) F H):zQ C Hs S j (zQ C Hs S i K) F H:=by
 simp only[nt,avE]at w;obtain⟨y,A,B⟩:=apart_spec w.1;unfold zQ at h ⊢;have x:∀v,j.1.kind (F.put i.1.dst v)=j.1.kind F:=λv=>o9 (Hb v y);have e2:∀v,i.1.kind (F.put j.1.dst v)=i.1.kind F:=λv=>o9 (Hb v B);simp only[x]at h;simp only[e2];have:=Qp (K:=λv u e=>K ((F.put i.1.dst v).put j.1.dst u) e) (xP i.1 F) (xP j.1 F) (akH w.2 (yd _ _) (yd _ _)) l h;refine Kind.xU (xP j.1 F) (λu H' a b=>?_) l this;refine Kind.xU (xP i.1 F) (λv e _ c=>?_) a b;rw[Z7 v u A]at c;exact c
inductive BV (ops:Array Oper):Nat->Nat->Prop
 |one {i j:Nat} {o:Oper} {e} (ho:ops[j]?=some o) (he:e∈o.after) (hb:Region.binds .any e=true) (hi:e.on=i):BV ops i j
 |step {i m j:Nat} {o:Oper} {e} (h:BV ops i m) (ho:ops[j]?=some o) (he:e∈o.after) (hb:Region.binds .any e=true) (hm:e.on=m):BV ops i j
def uA(ops:Array Oper)(listed:Array Bool):Prop:=∀j o,ops[j]?=some o->listed.getD j false=true->∀e∈o.after,Region.binds .any e=true->listed.getD e.on false=true
theorem uA.abW{ops:Array Oper}{listed:Array Bool}(l:uA ops listed){i j:Nat}(h:BV ops i j)(u:listed.getD j false=true):listed.getD i false=true:=by
 induction h with
 |one e he hb hi=>subst hi;exact l _ _ e u _ he hb
 |step h e he hb w x=>subst w;exact x (l _ _ e u _ he hb)
theorem uA.za{ops:Array Oper}{listed:Array Bool}(y:uA ops listed){i j:Nat}(h:BV ops i j)(hi:listed.getD i false=false):j ∉ Region.ready .any ops listed:=by
 intro w;rw[mem_ready]at w;obtain⟨-,o,x,l⟩:=w;cases h with
 |one e he hb u =>rw[x]at e;cases e;subst u;rw[l _ he hb]at hi;cases hi
 |step h e he hb A =>rw[x]at e;cases e;subst A;rw[y.abW h (l _ he hb)]at hi;cases hi
theorem uA.set{ops:Array Oper}{listed:Array Bool}(A:uA ops listed){i:Nat}(hi:i∈Region.ready .any ops listed):uA ops (listed.setIfInBounds i true):=by
 intro j o y x e he hb;by_cases u:j=i;subst u;rw[mem_ready]at hi;obtain⟨-,o',w,l⟩:=hi;rw[y]at w;cases w;exact getD_set_true (l e he hb);rw[getD_set_ne false (Ne.symm u)]at x;exact getD_set_true (A j o y x e he hb)
def GO(C:Ctx)(Hs:PH)(S:Spec)(ops:Array Oper)(il:List (bX × Bool))(K:K_):Nat->Array Bool->K_
 |0,listed,F,H=>Region.ready .any ops listed=[]/\K F H
 |fuel+1,listed,F,H=>(Region.ready .any ops listed=[]->K F H) /\
  ∀i∈Region.ready .any ops listed,∀p,il[i]?=some p->zQ C Hs S p (GO C Hs S ops il K fuel (listed.setIfInBounds i true)) F H
theorem M6{ops:Array Oper}{il:List (bX × Bool)}{K:K_}{i:Nat}{p:bX × Bool}(hp:il[i]?=some p) :
  ∀(fuel:Nat)(listed:Array Bool)(F:PF)(H:PH),Hs.le H->uA ops listed ->
   (∀j q,il[j]?=some q->j≠i->listed.getD j true=false->¬BV ops i j->nt p q=true) ->
   i∈Region.ready .any ops listed->zQ C Hs S p (GO C Hs S ops il K fuel (listed.setIfInBounds i true)) F H->GO C Hs S ops il K (fuel+1) listed F H:=by
 intro fuel
 induction fuel with
 |zero =>intro listed F H w R u y h;refine⟨λe=>(by rw[e]at y;cases y),λj A q hq=>?_⟩;by_cases l:j=i;subst l;rw[hp]at hq;cases hq;exact h;obtain⟨v,H',B⟩:=Kind.aaP (xP _ _) h;have:=ready_mono A l;rw[B.1]at this;cases this
 |succ fuel ih=>
  intro listed F H w R u y h;refine⟨λe=>(by rw[e]at y;cases y),λj A q hq=>?_⟩;by_cases l:j=i;subst l;rw[hp]at hq;cases hq;exact h;have x:=(mem_ready.1 y).1;have J:=(mem_ready.1 A).1;have E:listed.getD i false=false:=by
   rcases avX i listed.size with h'|h'
   simp[h']at x ⊢;exact x;simp[Array.getElem?_eq_none h']at x
  have V:¬BV ops i j:=λhb=>R.za hb E A;have Y:zQ C Hs S p (zQ C Hs S q (GO C Hs S ops il K fuel ((listed.setIfInBounds i true).setIfInBounds j true))) F H:=
   CQ (λX H' _ B=>B.2 j (ready_mono A l) q hq) w h
  have Z:=Uf (u j q hq l J V) w Y;refine CQ (λX H' N B=>?_) w Z;refine ih (listed.setIfInBounds j true) X H' N (R.set A) (λk r hk U O W=>u k r hk U ?_ W) (ready_mono y (Ne.symm l)) ?_;by_cases M:j=k;subst M;exact J;rw[getD_set_ne true M]at O;exact O;rw[Array.setIfInBounds_comm _ _ l];exact B
def zD(o:Oper):N_:=(o.after.toList.filter λe=>Region.binds .any e).map (·.on)
def Fy(ms:N_)(ds:N_):Nat:=ds.foldl (λs d=>s ||| (2^d ||| ms.getD d 0)) 0
def EG:List Oper->N_->N_
 |[],e=>e
 |o::os,e=>EG os (e++[Fy e (zD o)])
def mD(ms:N_):Nat->List Oper->Bool
 |_,[]=>true
 |k,o::os=>(zD o).all (·<k)&&ms.getD k 0==Fy ms (zD o)&&mD ms (k+1) os
def IU(ms:N_)(i:Nat)(p:bX × Bool):Nat->List (bX × Bool)->Bool
 |_,[]=>true
 |j,q::e=>((ms.getD j 0).testBit i||nt p q)&&IU ms i p (j+1) e
def GB(ms:N_):Nat->List (bX × Bool)->Bool
 |_,[]=>true
 |i,p::ps=>IU ms i p (i+1) ps&&GB ms (i+1) ps
def Sr(ops:Array Oper)(il:List (bX × Bool)):Bool:=
 let ms:=EG ops.toList []
 mD ms 0 ops.toList&&GB ms 0 il
theorem F0{ms:N_}{i:Nat}:∀{ds:N_}{s:Nat},(ds.foldl (λs d=>s ||| (2^d ||| ms.getD d 0)) s).testBit i=true->s.testBit i=true\/∃d∈ds,d=i\/(ms.getD d 0).testBit i=true
 |[],s,h=>.inl h
 |d::ds,s,h=>by
  rw[List.foldl_cons]at h;rcases F0 h with h|⟨e,he,h⟩
  rw[Nat.testBit_or,Nat.testBit_or,Nat.testBit_two_pow]at h;simp only[Bool.or_eq_true,decide_eq_true_eq]at h;rcases h with h|h|h
  exact .inl h;exact .inr ⟨d,by simp,.inl h⟩;exact .inr ⟨d,by simp,.inr h⟩;exact .inr ⟨e,by simp[he],h⟩
theorem zK{ms:N_}:∀{l:List Oper}{k j:Nat}{o:Oper},mD ms k l=true->l[j]?=some o->(∀d∈zD o,d<k+j)/\ms.getD (k+j) 0=Fy ms (zD o)
 |[],_,_,_,_,h=>by simp at h
 |o::os,k,j,o',h,e=>by
  simp only[mD,avE,awA,decide_eq_true_eq,beq_iff_eq]at h;cases j with
  |zero=>simp only[List.getElem?_cons_zero,awV.injEq]at e;subst e;exact⟨h.1.1,h.1.2⟩
  |succ j =>have:=zK h.2 (by simpa using e);rw[axL,Nat.add_comm 1 j]at this;exact this
theorem bz{ms:N_}{ops:Array Oper}(h:mD ms 0 ops.toList=true)(i:Nat):∀(n j:Nat),j<n->j<ops.size->(ms.getD j 0).testBit i=true->BV ops i j:=by
 intro n
 induction n with
 |zero=>intro j A;omega
 |succ n E=>
  intro j A hlt hb;have B:ops.toList[j]?=some ops[j]:=by simp[hlt]
  have u:ops[j]?=some ops[j]:=by simp[hlt]
  obtain⟨w,x⟩:=zK h B;rw[avK]at w x;rw[x]at hb;rcases F0 hb with hb|⟨d,hd,hb⟩
  simp at hb;have y:=w d hd;simp only[zD,avV,List.mem_filter]at hd;obtain⟨e,⟨he,l⟩,rfl⟩:=hd;rcases hb with rfl|hb
  exact .one u (by simpa using he) l rfl;exact .step (E e.on Om Om hb) u (by simpa using he) l rfl
theorem VV{ms:N_}{i:Nat}{p:bX × Bool}:∀{l:List (bX × Bool)}{k j:Nat}{q:bX × Bool},IU ms i p k l=true->l[j]?=some q->(ms.getD (k+j) 0).testBit i=true\/nt p q=true
 |[],_,_,_,_,h=>by simp at h
 |x::xs,k,j,q,h,hq=>by
  simp only[IU,avE,Bool.or_eq_true]at h;cases j with
  |zero=>simp only[List.getElem?_cons_zero,awV.injEq]at hq;subst hq;exact h.1
  |succ j =>have:=VV h.2 (by simpa using hq);rw[axL,Nat.add_comm 1 j]at this;exact this
theorem NI{ops:Array Oper}{il:List (bX × Bool)}{K:K_}{ms:N_}(U:Z' il=ops.size)(M:mD ms 0 ops.toList=true) :
  ∀(l:List (bX × Bool)) (k:Nat) (listed:Array Bool) (F:PF) (H:PH),(∀j,l[j]?=il[k+j]?)->k+Z' l=ops.size->listed.size=ops.size->(∀j,j<ops.size->(listed.getD j true=true↔j<k))->GB ms k l=true->Hs.le H ->
   wpD C Hs S l K F H->GO C Hs S ops il K l.length listed F H
 |[],k,listed,F,H,Y,X,W,i,_,J,h=>by
  refine⟨?_,h⟩;cases hr:Region.ready .any ops listed with
  |nil=>rfl
  |cons x xs=>
   have hx:x∈Region.ready .any ops listed:=by rw[hr];simp
   obtain⟨h0,o,Z,-⟩:=mem_ready.1 hx;have hlt:x<ops.size:=(ayM.1 Z).1;have:=(i x hlt).2 (by simp at X;omega);rw[h0]at this;cases this
 |p::l,k,listed,F,H,Y,X,W,i,hB,J,h=>by
  have hp:il[k]?=some p:=by simpa using(Y 0).symm
  have O:k<ops.size:=by simp at X;omega
  simp only[GB,avE]at hB;have Z:ops[k]?=some ops[k]:=by simp[O]
  have B:∀j,j<ops.size->(listed.getD j false=listed.getD j true):=λj A=>by simp[show j<listed.size by omega]
  have ε:∀j,j<ops.size->∀e∈ops[j]!.after,True:=λ_ _ _ _=>trivial;have y:∀j o,ops[j]?=some o->∀e∈o.after,Region.binds .any e=true->e.on<j:=by
   intro j o A e he hb;have hlt:j<ops.size:=(ayM.1 A).1;have:=(zK M (j:=j) (o:=o) (by simpa using A)).1 e.on (by simp only[zD,avV,List.mem_filter];exact⟨e,⟨by simpa using he,hb⟩,rfl⟩)
   omega
  have w:k∈Region.ready .any ops listed:=by
   rw[mem_ready];refine⟨?_,_,Z,λe he hb=>?_⟩
   ·cases hh:listed.getD k true with
    |false=>rfl
    |true=>have:=(i k O).1 hh;omega
   have hd:=y k _ Z e he hb;rw[B e.on Om];exact(i e.on Om).2 hd
  have u:uA ops listed:=by intro j o A V e he hb;have hlt:j<ops.size:=(ayM.1 A).1;have hd:=y j o A e he hb;rw[B j hlt]at V;have:=(i j hlt).1 V;rw[B e.on Om];exact(i e.on Om).2 Om
  refine M6 hp l.length listed F H J u (λj q hq β δ α=>?_) w ?_;have N:j<ops.size:=by have:=(awD.1 hq).1;omega
  have E:k<j:=by
   rcases Nat.lt_trichotomy j k with h'|h'|h'
   have:=(i j N).2 h';rw[δ]at this;cases this;exact(β h').elim;exact h'
  have γ:l[j-(k+1)]?=some q:=by have:=Y (j-k);rw[show k+(j-k)=j by omega,hq,show j-k=(j-(k+1))+1 by omega]at this;simpa using this
  rcases VV hB.1 γ with hb|hb
  rw[show k+1+(j-(k+1))=j by omega]at hb;exact(α (bz M k (j+1) j Om N hb)).elim;exact hb;have h':zQ C Hs S p (wpD C Hs S l K) F H:=h;refine CQ (λF' H' R hh=>?_) J h';refine NI U M l (k+1) _ F' H' (λj=>?_) (by simp at X;omega) (by simpa using W) (λj A=>?_) hB.2 R hh;have:=Y (j+1);rw[show k+(j+1)=k+1+j by omega]at this;simpa using this;by_cases E:k=j;subst E;simp[show k<listed.size by omega];rw[getD_set_ne true E,i j A];omega
end
open Go Go.RowKit
def El(ms cls:N_)(i:Nat):Bool:=
 cls.getD i 0 != 0||(auX cls.length).any λj=>(cls.getD j 0==2||cls.getD j 0==3||cls.getD j 0==4)&&!(ms.getD j 0).testBit i&&!(ms.getD i 0).testBit j
def CZ(ops:Array Oper)(e:List bX):List (bX × Bool):=
 let ms:=EG ops.toList []
 let cls:=e.map λi=>i.op.cls
 e.zip ((auX e.length).map (El ms cls))
namespace Tbl
variable (T:Tbl)
def drawn(n:Nat)(ops:Array Oper):Option (List (bX × Bool)):=
 match T.wS n ops ops.toList with
 |some e=>if T.P.follows .mixedOrders&&Sr ops (CZ ops e)then some (CZ ops e)else none
 |none=>none
end Tbl
section
variable {ro:O_} {fu:Nat} {ds:List Deferred} {C:Ctx} {Hs:PH} {S:Spec} {T:Tbl} {n:Nat}
section
variable {E:Env} {F:PF} {H:PH} {a:Act} {w:World}
theorem pY.after{e:Env}{H':PH}{i:World}{K:K_}{next:Act->World->Prop}(h:pY ds n E H w K next)(y:Ext E H w e H' i):pY ds n e H' i K next:=
 λl u H2 a2 J x hW B A=>h l u H2 a2 J x hW (y.trans B) A
theorem TU{t:Nat}{b:Bool}(i:eS ds n E F a)(h:F t=some (.bool b)):a.tmps[t]?=some (.bool b):=by
 have r:=i.t t _ h;rw[azG]at r;cases e:a.tmps[t]? with
 |none=>rw[e]at r;simp[undef]at r;cases r
 |some v=>rw[e]at r;simp at r;cases r;rfl
theorem OU{ops:Array Oper}{o:Oper}{i:bX}(h:T.YR n ops o=some i):(T.op o=some i.op\/i.op=.stuck)/\o.dst=i.dst/\o.dst.all (·<n)=true /\
  ((o.guard=none/\i.guard=none)\/∃j e t,o.guard=some (j,e)/\i.guard=some (t,e)/\(ops[j]?).bind (·.dst)=some t):=by
 unfold Tbl.YR at h;have hp:T.op o=some ((T.op o).getD .stuck)\/(T.op o).getD .stuck=.stuck:=by cases T.op o;exact .inr rfl;exact .inl rfl
 generalize(T.op o).getD .stuck=p at *
 split at h;rename_i u;split at h;rename_i l;cases h;exact⟨hp,rfl,u,.inl ⟨l,rfl⟩⟩;rename_i j e l;split at h;rename_i t x;cases h;exact⟨hp,rfl,u,.inr ⟨j,e,t,l,rfl,x⟩⟩;cases h;cases h
theorem LM{ops:Array Oper}{o:Oper}{j t:Nat}{e b:Bool}(i:o.guard=some (j,e))(l:(ops[j]?).bind (·.dst)=some t)(hb:a.tmps[t]?=some (.bool b)):Region.wanted o (yielded ops a.tmps)=(b==e):=by
 simp[Region.wanted,i,yielded,l,hb]
end
theorem AV{E:Env}:bH E (.tup []) undef:=.tup #[] rfl aZ
theorem WO{n:Nat}{E:Env}{F:PF}{a:Act}{t:Nat}(e:eS ds n E F a)(h:F t=some (.tup [])):a.tmps.getD t undef=undef:=by
 have:=e.t t _ h;generalize a.tmps.getD t undef=v at this;cases this with
 |tup vs i l=>
  have:vs=#[]:=by simpa using i
  subst this;rfl
theorem HW{ops:Array Oper}{a:Act}{o:Oper}{j t:Nat}{e:Bool}(i:o.guard=some (j,e))(l:(ops[j]?).bind (·.dst)=some t)(hb:a.tmps.getD t undef=undef):Region.wanted o (yielded ops a.tmps)=false:=by
 simp only[Region.wanted,i,yielded,l];rw[azG]at hb;cases h:a.tmps[t]? with
 |none=>simp[h]
 |some v =>rw[h]at hb;simp only[axK]at hb;subst hb;simp[h,undef]
theorem yI{E:Env}{F:PF}{H:PH}{a:Act}{w:World}(i:C.P=T.P)(e:C.num=T.num){o:Oper}{p:POp}{d:O_}{K:K_}{Q:Exit->Act->World->Prop}{next:Act->World->Prop}(l:T.op o=some p\/p=.stuck)(y:o.dst=d)(hlt:o.dst.all (·<n)=true)
  (h:wpOp C p d K F H) (u:eS ds n E F a) (hW:bY E H w) (x:E.num=T.num) (auG:pY ds n E H w K next):o.wpIn (Fz ro) fu T.P a w next Q:=by
 rcases l with l|rfl
 ·exact Zz i e l y hlt h u hW x auG
 ·obtain⟨v,A,-⟩:=h;cases A
theorem ZC(H:PH)(D:N_):(H.only D).le H:=by
 intro o x e;rw[yH]at e;split at e;exact e;cases e
theorem RC{op:POp}{F:PF}{H:PH}{st:Bool}{d:O_}{K:K_}(A:Hs.le H)(h:(op.kind F).run C Hs S st (λv H'=>K (F.put d v) H') H):wpOp C op d K F H:=by
 have y:(if op.iN then Kind.new (cN op F)else if op.eT then .write (λH K=>cH op F H K)else .calm (bD op F)).run C Hs S st (λv H'=>K (F.put d v) H') H ->
   (if op.iN then oQ (cN op F) d K F H else if op.eT then cH op F H (λr H'=>K (F.put d r) H')else wX (bD op F H) d K F H):=by
  intro h;by_cases i:op.iN=true
  ·rw[aF i]at h ⊢;exact h
  ·rw[aC i]at h ⊢;by_cases u:op.eT=true
   ·rw[aF u]at h ⊢;have V:cH op F H λr H'=>Hs.le H'/\K (F.put d r) H':=h;exact ID (λv H' Z=>Z.2) V
   ·rw[aC u]at h ⊢;obtain⟨v,J,Y⟩:=h;refine⟨v,?_,Y⟩;cases st
    ·exact J
    ·exact qu A J
 have e:∀name l,(Kind.call name l).run C Hs S st (λv H'=>K (F.put d v) H') H->uZ C name l d K F H:=by intro name l h;obtain⟨vs,D,R,i,u,B,W,h5,X⟩:=h;exact⟨vs,H.only D,R (H.only D),i,ZC H D,W,λr H' a b=>(X r H' a b).2⟩
 cases op
 case call name az=>exact .inl (by simpa using e _ _ h)
 case auM x az=>
  simp only[POp.kind]at h;split at h
  ·rename_i name cs hx;show wD C (x.ev F) az d K F H;rw[hx];exact .inl (e _ _ h)
  ·exact h.elim
 case insert sh x k v=>
  obtain⟨o,β,α,vv,g,i,u,B,-,h5⟩:=h;show cH (.insert sh x k v) F H (λr H'=>K (F.put d r) H');split at i
  ·rename_i o' kv γ N e2 O;simp only[avM,Prod.mk.injEq]at i;obtain⟨M,U,rfl,rfl,rfl,rfl⟩:=i;simp only[cH,N,e2,O,u,U];exact⟨trivial,B,h5⟩
  ·cases i
 all_goals exact y h
theorem xl(Y:C.P=T.P)(X:C.num=T.num){ops:Array Oper}{R:List bX}{V:List Bool}(ζ:Z' V=Z' R)(ε:∀(i:Nat) o,ops[i]?=some o->∃p,R[i]?=some p/\T.YR n ops o=some p)
  {K:K_} {Q:Exit->Act->World->Prop} :
  ∀(fuel:Nat)(listed:Array Bool)(E:Env)(F:PF)(H:PH)(a:Act)(w:World),GO C Hs S ops (R.zip V) K fuel listed F H->Hs.le H->eS ds n E F a->bY E H w->E.num=T.num->pY ds n E H w K (Q .normal) ->
   wpAnyIn (Fz ro) fu T.P .any ops Q fuel listed a w:=by
 intro fuel
 induction fuel with
 |zero=>intro listed E F H a w h M u hW hN hT;exact⟨h.1,hT E F H a w u hW (.refl E H w) h.2⟩
 |succ fuel ih=>
  intro listed E F H a w h M u hW hN hT;refine⟨λe=>hT E F H a w u hW (.refl E H w) (h.1 e),λi hi=>?_⟩;obtain⟨-,o,ho,-⟩:=mem_ready.1 hi;obtain⟨p,hp,δ⟩:=ε i o ho;have hlt:i<Z' R:=(awD.1 hp).1;have hz:(R.zip V)[i]?=some (p,V[i]'Om):=by rw[List.getElem?_zip_eq_some];exact⟨hp,by simp⟩
  have Z:=h.2 i hi _ hz;obtain⟨α,hd,B,hg⟩:=OU δ;have A:pY ds n E H w (λU H'=>Hs.le H'/\GO C Hs S ops (R.zip V) K fuel (listed.setIfInBounds i true) U H') (wpAnyIn (Fz ro) fu T.P .any ops Q fuel (listed.setIfInBounds i true)):=
   λE' U H' a' w' β γ hE W=>ih _ E' U H' a' w' W.2 W.1 β γ (hE.env.num.trans hN) (hT.after hE)
  have l:=CQ (K':=λU H'=>Hs.le H'/\GO C Hs S ops (R.zip V) K fuel (listed.setIfInBounds i true) U H') (λU H' x y=>⟨x,y⟩) M Z;unfold zQ bX.kind at l;unfold Go.wpOpIn;simp only[ho];rcases hg with⟨J,O⟩|⟨j,want,t,J,O,ht⟩
  rw[aF (by simp[Region.wanted,J])];simp only[O]at l;exact(yI Y X α hd B (RC M l) u hW hN A);simp only[O]at l;split at l;rename_i b hb;rw[LM J ht (TU u hb)];split at l;rename_i N;rw[aF (by simp[N])];exact(yI Y X α hd B (RC M l) u hW hN A);rename_i N;rw[aC (by simpa using N)];obtain⟨v,hv,W⟩:=l;cases hv;exact⟨λ_ _=>trivial,A E _ H _ w (by rw[<-hd];exact u.put B AV) hW (.refl E H w) W⟩;rename_i hb;rw[HW J ht (WO u hb),aC aZ];obtain⟨v,hv,W⟩:=l;cases hv;exact⟨λ_ _=>trivial,A E _ H _ w (by rw[<-hd];exact u.put B AV) hW (.refl E H w) W⟩;exact l.elim
theorem UW{ops:Array Oper}:∀{l:List Oper}{u:List bX},T.wS n ops l=some u->Z' u=Z' l/\∀(i:Nat) o,l[i]?=some o->∃p,u[i]?=some p/\T.YR n ops o=some p
 |[],u,h=>by simp[Tbl.wS]at h;subst h;exact⟨rfl,λi o h=>by simp at h⟩
 |o::l,u,h=>by
  simp only[Tbl.wS]at h;split at h
  ·rename_i p ps hp x;cases h;obtain⟨y,A⟩:=UW x;refine⟨by simp[y],λi o' e=>?_⟩;cases i with
   |zero=>simp at e;subst e;exact⟨p,rfl,hp⟩
   |succ i=>obtain⟨q,a,b⟩:=A i o' (by simpa using e);exact⟨q,by simpa using a,b⟩
  cases h
theorem Nr(J:C.P=T.P)(B:C.num=T.num){id:Nat}{ops:Array Oper}{il:List (bX × Bool)}(e:T.drawn n ops=some il){K:K_}{Q:Exit->Act->World->Prop}{E:Env}{F:PF}{H:PH}{a:Act}{w:World}
  (h:∃Hs S,PH.le Hs H/\wpD C Hs S il K F H) (Z:eS ds n E F a) (hW:bY E H w) (hN:E.num=T.num) (hT:pY ds n E H w K (Q .normal)):(Code.region id ops true).wpIn (Fz ro) fu T.P Q a w:=by
 obtain⟨Hs,S,y,h⟩:=h;unfold Tbl.drawn at e;split at e;rename_i U N;split at e;rename_i l;cases e;simp only[avE,Sr]at l;obtain⟨hm,O,R⟩:=l;obtain⟨A,M⟩:=UW N;have u:Z' U=ops.size:=by simpa using A
 refine wpIn_region_any hm ?_;have x:(CZ ops U).length=ops.size:=by simp[CZ,u]
 have V:=NI (C:=C) (Hs:=Hs) (S:=S) (K:=K) x O (CZ ops U) 0 (axG ops.size false) F H aZ (by simp[x]) aZ (λj hj=>by simp[hj]) R y h;rw[x]at V;exact xl J B aZ (λi o ho=>M i o (by simpa using ho)) ops.size _ E F H a _ V y Z hW.drew hN (λW X H' Y w' g1 g2 g3 g4=>hT W X H' Y w' g1 g2 g3.wt g4);cases e;cases e
end
end Go.PM
namespace Go.PM
open Go Go.RowKit
def POp.akC:POp->Bool
 | .load .. | .lookup .. | .atY ..=>true
 |_=>false
def POp.afP:POp->Bool
 | .store ..=>true
 |_=>false
def sw(ms:N_)(m n:Nat):Bool:=(auX n).all λj=>decide (j<m)||(auX m).all λi=>(ms.getD j 0).testBit i
def cutAt(ms:N_)(e:List bX):O_:=
 let cls:=e.map λi=>i.op.cls
 (auX e.length).find? λm=>(match e[m]? with|some i=>i.op.afP&&i.guard.isNone|none=>false)&&sw ms m e.length&&(auX m).any λi=>match e[i]? with|some x=>x.op.akC&&El ms cls i|none=>false
def pC(ms:N_)(k:Nat)(e:List bX):List (bX × Bool):=
 let cls:=e.map λi=>i.op.cls
 e.zip ((auX e.length).map (El (ms.drop k |>.map (· >>> k)) cls))
namespace Tbl
variable (T:Tbl)
def Eb(n:Nat)(ops:Array Oper):Option aI:=
 match T.wS n ops ops.toList with
 |some e=>
  let ms:=EG ops.toList []
  match cutAt ms e with
  |none=>(T.drawn n ops).map .draw
  |some m=>
   let A:=pC ms 0 (e.take m)
   let B:=pC ms m (e.drop m)
   if T.P.follows .mixedOrders&&mD ms 0 ops.toList&&sw ms m e.length&&GB ms 0 A&&GB ms m B then some (.seq (.draw A) (.draw B))else none
 |none=>none
def code(n:Nat):Code->Option aI
 | .skip=>some .skip
 | .region _ ops d=>if d then T.Eb n ops else(T.wS n ops ops.toList).map .region
 | .seq a b=>match code n a,code n b with
  |some a,some b=>some (.seq a b)
  |_,_=>none
 | .cond c a b=>match T.opd c,code n a,code n b with
  |some c,some a,some b=>some (.cond c a b)
  |_,_,_=>none
 | .block id c=>(code n c).map (.block id)
 | .loop c=>(code n c).map .loop
 | .exit id=>some (.exit id)
 | .ret=>some .ret
 | .scope c=>code n c
 | .label _=>some .skip
 |_=>none
end Tbl
theorem VG{ms:N_}:∀{l:List Oper}{k m:Nat},mD ms k l=true->mD ms k (l.take m)=true
 |[],_,_,_=>by simp[mD]
 |o::l,k,0,_=>by simp[mD]
 |o::l,k,m+1,h=>by simp only[mD,avE,List.take_succ_cons]at h ⊢;exact⟨h.1,VG h.2⟩
theorem BK{listed:Array Bool}{m f i:Nat}{d:Bool}(e:listed.size=m)(h:i<m):(listed++axG f false).getD i d=listed.getD i d:=by
 simp only[azG];rw[Array.getElem?_append_left Om]
section
variable {ro:O_} {fu:Nat} {ds:List Deferred} {C:Ctx} {Hs:PH} {S:Spec} {T:Tbl} {n:Nat}
theorem agV{ops:Array Oper}{m i:Nat}(e:m<=ops.size):(ops.extract 0 m)[i]?=if i<m then ops[i]? else none:=by
 rw[Array.getElem?_extract];split;rename_i h;rw[aF Om];simp;rename_i h;rw[aC Om]
theorem P4{ops:Array Oper}{ms:N_}{m:Nat}(O:m<=ops.size)(A:mD ms 0 ops.toList=true)(R:sw ms m ops.size=true){listed:Array Bool}{f:Nat}(F:listed.size=m)(V:m+f=ops.size)(N:uA ops (listed++axG f false))
  (J:∃i,i<m/\listed.getD i true=false) {i:Nat} (hi:i∈Region.ready .any ops (listed++axG f false)):i<m/\i∈Region.ready .any (ops.extract 0 m) listed:=by
 obtain⟨K,o,E,w⟩:=mem_ready.1 hi;have y:i<ops.size:=(ayM.1 E).1;have l:i<m:=by
  rcases avX i m with h|h
  exact h;exfalso;obtain⟨u,M,B⟩:=J;have hb:(ms.getD i 0).testBit u=true:=by have:=awA.1 R i (awG.2 y);rw[bS Om,Bool.false_or]at this;exact awA.1 this u (awG.2 M)
  have x:=bz A u (i+1) i Om y hb;refine N.za x ?_ hi;rw[BK F M];have:u<listed.size:=Om;simp[this]at B ⊢;exact B
 refine⟨l,mem_ready.2 ⟨?_,o,by rw[agV O,aF l];exact E,λe he hb=>?_⟩⟩;rw[BK F l]at K;exact K;have U:=(zK A (j:=i) (o:=o) (by simpa using E)).1 e.on (by simp only[zD,avV,List.mem_filter];exact⟨e,⟨by simpa using he,hb⟩,rfl⟩)
 have:=w e he hb;rw[BK F Om]at this;exact this
theorem J1{ops:Array Oper}{ms:N_}(x:mD ms 0 ops.toList=true){listed:Array Bool}(K:listed.size=ops.size):∀(u:Nat),u<ops.size->listed.getD u true=false->∃i,i∈Region.ready .any ops listed:=by
 intro u
 induction u using Nat.strongRecOn with
 |ind u F=>
  intro A B;by_cases h:∃w,w<u/\listed.getD w true=false;obtain⟨w,E,y⟩:=h;exact F w E Om y
  ·refine⟨u,mem_ready.2 ⟨B,ops[u],by simp[A],λe he hb=>?_⟩⟩;have J:=(zK x (j:=u) (o:=ops[u]) (by simp[A])).1 e.on (by simp only[zD,avV,List.mem_filter];exact⟨e,⟨by simpa using he,hb⟩,rfl⟩)
   have hlt:e.on<u:=Om;cases l:listed.getD e.on true with
   |false=>exact(h ⟨e.on,hlt,l⟩).elim
   |true =>have:e.on<listed.size:=Om;simp[this]at l ⊢;exact l
def unl(listed:Array Bool):Nat:=listed.toList.countP λb=>!b
theorem abV{listed:Array Bool}{m:Nat}(l:listed.size=m)(h:unl listed=0):listed=axG m true:=by
 apply Array.ext;simp[l];intro i u w;have:listed[i]∈listed.toList:=by simp
 have e:=List.countP_eq_zero.1 h _ this;simpa using e
theorem aiF{listed:Array Bool}{i:Nat}(h:listed.getD i true=false):unl (listed.setIfInBounds i true)+1=unl listed:=by
 have hi:i<listed.size:=by
  rcases avX i listed.size with h'|h'
  ·exact h'
  ·simp[Array.getElem?_eq_none h']at h
 have u:listed[i]=false:=by simpa[hi]using h
 unfold unl;rw[Array.toList_setIfInBounds];have e:i<Z' listed.toList:=by simpa using hi
 have l:listed.toList[i]=false:=by simpa using u
 conv=>rhs;rw[<-ayK i listed.toList,axB e,l]
 rw[List.set_eq_take_append_cons_drop,aF e,List.countP_append,List.countP_append,List.countP_cons,List.countP_cons];simp only[avH,avP,if_true,axH,if_false];omega
theorem aiE{listed:Array Bool}{k:Nat}(h:unl listed=k+1):∃u,u<listed.size/\listed.getD u true=false:=by
 have i:0<listed.toList.countP λb=>!b:=by unfold unl at h;omega
 obtain⟨b,hb,l⟩:=List.countP_pos_iff.1 i;obtain⟨u,w,rfl⟩:=awR hb;have e:u<listed.size:=by simpa using w
 exact⟨u,e,by simpa[e]using l⟩
theorem Jw(Y:C.P=T.P)(X:C.num=T.num){ops:Array Oper}{ms:N_}{m f:Nat}{A:List (bX × Bool)}(hm:m<=ops.size)(hf:m+f=ops.size)(β:mD ms 0 ops.toList=true)(ht:sw ms m ops.size=true)
  (κ:∀(i:Nat) o,i<m->ops[i]?=some o->∃p b,A[i]?=some (p,b)/\T.YR n ops o=some p) {KA:K_} {Q:Exit->Act->World->Prop} :
  ∀(fuel:Nat)(listed:Array Bool)(E:Env)(F:PF)(H:PH)(a:Act)(w:World),GO C Hs S (ops.extract 0 m) A KA fuel listed F H->listed.size=m->uA ops (listed++axG f false)->unl listed=fuel->Hs.le H->eS ds n E F a->bY E H w->E.num=T.num ->
   pY ds n E H w KA (wpAnyIn (Fz ro) fu T.P .any ops Q f (axG m true++axG f false))->wpAnyIn (Fz ro) fu T.P .any ops Q (fuel+f) (listed++axG f false) a w:=by
 intro fuel
 induction fuel with
 |zero =>intro listed E F H a w h hs hc hu M N hW hN hT;rw[abV hs hu,avK];exact hT E F H a w N hW (.refl E H w) h.2
 |succ fuel ih=>
  intro listed E F H a w h hs hc hu M N hW hN hT;obtain⟨u,ξ,hu2⟩:=aiE hu;have ν:∃i,i<m/\listed.getD i true=false:=⟨u,by omega,hu2⟩;rw[show fuel+1+f=(fuel+f)+1 by omega];refine⟨λe=>?_,λi hi=>?_⟩;obtain⟨i,hi⟩:=J1 β (listed:=listed++axG f false) (by simp;omega) u Om (by rw[BK hs Om];exact hu2);rw[e]at hi;cases hi;obtain⟨θ,α⟩:=P4 hm β ht hs hf hc ν hi;obtain⟨-,o,ho,-⟩:=mem_ready.1 hi;have μ:=(mem_ready.1 α).1;obtain⟨p,b,hz,ι⟩:=κ i o θ ho;have γ:=h.2 i α _ hz;obtain⟨δ,hd,J,hg⟩:=OU ι;have ε:(listed++axG f false).setIfInBounds i true=listed.setIfInBounds i true++axG f false:=by
   apply Array.ext;simp;intro j h1 h2;rw[Array.getElem_setIfInBounds (by simpa using h1)];by_cases U:i=j;subst U;rw[aF rfl,Array.getElem_append_left (by simp;omega),Array.getElem_setIfInBounds Om,aF rfl];rw[aC U];rcases avX j listed.size with hj|hj
   rw[Array.getElem_append_left hj,Array.getElem_append_left (by simpa using hj),Array.getElem_setIfInBounds Om,aC U];rw[Array.getElem_append_right hj,Array.getElem_append_right (by simpa using hj)];simp
  have Z:=hc.set hi;rw[ε]at Z ⊢;have ο:=aiF μ;have B:pY ds n E H w (λV H'=>Hs.le H'/\GO C Hs S (ops.extract 0 m) A KA fuel (listed.setIfInBounds i true) V H') (wpAnyIn (Fz ro) fu T.P .any ops Q (fuel+f) (listed.setIfInBounds i true++axG f false)):=
   λE' V H' a' w' ζ η hE W=>ih _ E' V H' a' w' W.2 (by simpa using hs) Z Om W.1 ζ η (hE.env.num.trans hN) (hT.after hE)
  have l:=CQ (K':=λV H'=>Hs.le H'/\GO C Hs S (ops.extract 0 m) A KA fuel (listed.setIfInBounds i true) V H') (λV H' x y=>⟨x,y⟩) M γ;unfold zQ bX.kind at l;unfold Go.wpOpIn;simp only[ho];rcases hg with⟨K,R⟩|⟨j,want,t,K,R,ht⟩
  rw[aF (by simp[Region.wanted,K])];simp only[R]at l;exact(yI Y X δ hd J (RC M l) N hW hN B);simp only[R]at l;split at l;rename_i b hb;rw[LM K ht (TU N hb)];split at l;rename_i O;rw[aF (by simp[O])];exact(yI Y X δ hd J (RC M l) N hW hN B);rename_i O;rw[aC (by simpa using O)];obtain⟨v,hv,W⟩:=l;cases hv;exact⟨λ_ _=>trivial,B E _ H _ w (by rw[<-hd];exact N.put J AV) hW (.refl E H w) W⟩;rename_i hb;rw[HW K ht (WO N hb),aC aZ];obtain⟨v,hv,W⟩:=l;cases hv;exact⟨λ_ _=>trivial,B E _ H _ w (by rw[<-hd];exact N.put J AV) hW (.refl E H w) W⟩;exact l.elim
theorem Jf(M:C.P=T.P)(J:C.num=T.num){id:Nat}{ops:Array Oper}{pc:aI}(l:T.Eb n ops=some pc){K:bZ}{Q:Exit->Act->World->Prop}{E:Env}{F:PF}{H:PH}{a:Act}{w:World}
  (h:pc.wp C K F H) (hA:eS ds n E F a) (hW:bY E H w) (hN:E.num=T.num) (hT:pY ds n E H w (K .normal) (Q .normal)):(Code.region id ops true).wpIn (Fz ro) fu T.P Q a w:=by
 unfold Tbl.Eb at l;split at l;rename_i y ν;simp only at l;split at l;rw[avM]at l;obtain⟨il,κ,rfl⟩:=l;exact Nr M J κ h hA hW hN hT;rename_i m Y;split at l;rename_i u;cases l;simp only[avE]at u;obtain⟨⟨⟨⟨ο,O⟩,δ⟩,ρ⟩,σ⟩:=u;obtain⟨β,X⟩:=UW ν;have N:Z' y=ops.size:=by simpa using β
 rw[N]at δ;obtain⟨Hs,S,α,h⟩:=h;have υ:m<ops.size:=by have:=List.mem_of_find?_eq_some Y;rw[awG]at this;omega
 have lA:(pC (EG ops.toList []) 0 (y.take m)).length=m:=by simp[pC];omega
 have lB:(pC (EG ops.toList []) m (y.drop m)).length=ops.size-m:=by simp[pC];omega
 generalize V:pC (EG ops.toList []) 0 (y.take m)=A at *
 generalize η:pC (EG ops.toList []) m (y.drop m)=B at *
 generalize ψ:EG ops.toList []=ms at *
 refine wpIn_region_any ο ?_;have R:(ops.extract 0 m).size=m:=by simp;omega
 have γ:mD ms 0 (ops.extract 0 m).toList=true:=by rw[show(ops.extract 0 m).toList=ops.toList.take m by simp];exact VG O
 have h1:=NI (C:=C) (Hs:=Hs) (S:=S) (K:=fZ C ((aI.draw B).wp C) K .normal) (ops:=ops.extract 0 m) (il:=A) (ms:=ms) (by rw[lA,R]) γ A 0 (axG m false) F H aZ (by rw[R];omega) (by simp;omega) (λj hj=>by rw[R]at hj;simp[hj]) ρ α h;rw[lA]at h1;have U:=Jw (ro:=ro) (fu:=fu) (n:=n) M J (f:=ops.size-m) Om Om O δ (λi o φ ho=>?_) (Q:=Q) m (axG m false) E F H a _ h1 aZ ?_ ?_ α hA hW.drew hN ?_;rw[show m+(ops.size-m)=ops.size by omega]at U;have e:axG m false++axG (ops.size-m) false=axG ops.size false:=by rw[Array.replicate_append_replicate,show m+(ops.size-m)=ops.size by omega]
 rw[e]at U;exact U;obtain⟨p,hp,μ⟩:=X i o (by simpa using ho);have ω:=(awD.1 hp).1;have ι:i<Z' A:=Om;refine⟨p,A[i].2,?_,μ⟩;rw[avF ι];congr 1;refine Prod.ext ?_ rfl;subst V;have τ:y[i]=p:=(awD.1 hp).2;simp[pC,τ];intro j o hj hl;exfalso;have ξ:j<ops.size:=(ayM.1 hj).1;have e:axG m false++axG (ops.size-m) false=axG ops.size false:=by rw[Array.replicate_append_replicate,show m+(ops.size-m)=ops.size by omega]
 rw[e]at hl;simp[ξ]at hl;unfold unl;simp[List.countP_replicate];intro E' F' H' a' w' ζ θ hE hK;obtain⟨ε,S2,x,h2⟩:=hK;have hz:(A++B).length=ops.size:=by rw[auZ];omega
 have h3:=NI (C:=C) (Hs:=ε) (S:=S2) (K:=K .normal) (ops:=ops) (il:=A++B) (ms:=ms) hz O B m (axG m true++axG (ops.size-m) false) F' H' (λj=>by rw[axR Om];congr 1;omega) Om (by simp;omega) (λj hj=>by simp only[azG,Array.getElem?_append,Array.size_replicate,Array.getElem?_replicate];by_cases hjm:j<m;simp[hjm];simp[hjm,show j-m<ops.size-m by omega]) σ x h2;rw[lB]at h3;have W:A++B=y.zip ((A++B).map (·.2)):=by
  refine List.ext_getElem? λj=>?_;rcases avX j ops.size with hj|hj
  have Z:j<(A++B).length:=Om;have χ:j<Z' y:=Om;rw[avF Z,avF (by simp;omega),List.getElem_zip,awW];congr 1;refine Prod.ext ?_ rfl;simp only;rcases avX j m with hjm|hjm
  rw[azM Om];subst V;simp[pC];rw[azK Om];subst η;have:m+(j-Z' A)=j:=Om;simp[pC,this];rw[awN Om,awN (by simp;omega)]
 rw[W]at h3;exact xl M J (by simp;omega) (λi o ho=>X i o (by simpa using ho)) (ops.size-m) _ E' F' H' a' w' h3 x ζ θ (hE.env.num.trans hN) (λE3 F3 H3 a3 w3 g1 g2 g3 g4=>hT E3 F3 H3 a3 w3 g1 g2 (hE.trans g3).wt g4);cases l;cases l
end
end Go.PM
namespace Go.PM
open Go Go.RowKit
def lG.out:lG->Exit
 | .normal=>.normal
 | .exit id=>.exit id
 | .ret=>.ret
theorem tL{P:Program}{b:Frame}{a:Act}{k:List Item}{cs:List Frame}{w:World}{c:Code}:step P (lone (b.atR a (.code (.scope c)::k)) cs w)=.next (lone (b.atR a (.code c::.inScope c::k)) cs w):=
 step_lone_go (by simp[stepG,stepG.exec,Frame.atR])
theorem Bf{P:Program}{b:Frame}{a:Act}{k:List Item}{cs:List Frame}{w:World}{c:Code}:step P (lone (b.atR a (.inScope c::k)) cs w)=.next (lone (b.atR a k) cs w):=
 step_lone_go (by simp[stepG,stepG.exec,Frame.atR])
theorem Rj{F:Fence}{n:Nat}{P:Program}{Q:Exit->Act->World->Prop}{a:Act}{w:World}{c:Code}(h:c.wpIn F n P (Exit.noGoto Q) a w):(Code.scope c).wpIn F n P Q a w:=by
 intro b k cs K hb B;have u:(lone (b.atR a (.code (.scope c)::k)) cs w).fenced P F:=fenced_calm hb B rfl;obtain⟨e,x,y,hq,i⟩:=h b (.inScope c::k) cs K hb B;cases e with
 |normal=>exact⟨.normal,x,y,hq,.head u tL (StepsIn.trans i (.one (fenced_calm hb B rfl) Bf))⟩
 |exit id=>
  have M:exitTo id (.inScope c::k)=exitTo id k:=by simp[exitTo]
  exact⟨.exit id,x,y,hq,λR A=>.head u tL (i.1 R (by rw[M];exact A)),
   λJ A=>let⟨S,N,O⟩:=i.2 J (by rw[M];exact A);⟨S,N,.head u tL O⟩⟩
 |goto l=>exact hq.elim
 |ret=>exact⟨_,x,y,hq,.of_steps (.one u tL) i⟩
 |panic U=>exact⟨_,x,y,hq,.of_steps (.one u tL) i⟩
 |outgrown=>exact⟨_,x,y,hq,.of_steps (.one u tL) i⟩
variable{C:Ctx}
section
variable {ro:O_} {fu:Nat} {ds:List Deferred} {T:Tbl} {n:Nat} {E:Env} {F:PF} {H:PH} {a:Act} {w:World}
theorem zd(M:C.P=T.P)(J:C.num=T.num){ops:Array Oper}{K:K_}{Q:Exit->Act->World->Prop}:∀(l:List Oper)(il:List bX)(E:Env)(F:PF)(H:PH)(a:Act)(w:World),
  T.wS n ops l=some il->wpOps C il K F H->eS ds n E F a->bY E H w->E.num=T.num->pY ds n E H w K (Q .normal)->wpListIn (Fz ro) fu T.P ops Q l a w
 |[],il,E,F,H,a,w,A,e,y,hW,_,hT=>by simp[Tbl.wS]at A;subst A;exact hT E F H a w y hW (.refl E H w) e
 |o::l,il,E,F,H,a,w,A,e,y,hW,W,hT=>by
  simp only[Tbl.wS]at A;split at A;rename_i i is hi β;cases A;obtain⟨Y,hd,hlt,hg⟩:=OU hi;have auG:∀(x:Env)(U:PF)(H':PH)(V:Act)(S:World),x.num=T.num->eS ds n x U V->bY x H' S->Ext E H w x H' S->wpOps C is K U H'->wpListIn (Fz ro) fu T.P ops Q l V S:=
   λx U H' V S α B N Z hK=>zd M J l is x U H' V S β hK B N α (hT.after Z)
  have X:pY ds n E H w (wpOps C is K) (wpListIn (Fz ro) fu T.P ops Q l):=λx U H' V S B N Z hK=>auG x U H' V S (Z.env.num.trans W) B N Z hK;unfold wpListIn;simp only[wpOps]at e;rcases hg with⟨u,R⟩|⟨j,want,t,u,R,ht⟩
  rw[R]at e;rw[aF (by simp[Region.wanted,u])];exact(yI M J Y hd hlt e y hW W X);rw[R]at e;simp only at e;split at e;rename_i b hb;rw[LM u ht (TU y hb)];split at e;rename_i O;rw[aF (by simp[O])];exact(yI M J Y hd hlt e y hW W X);rename_i O;rw[aC (by simpa using O)];exact⟨λ_ _=>trivial,auG E _ H _ w W (by rw[<-hd];exact y.put hlt AV) hW (.refl E H w) e⟩;rename_i hb;rw[HW u ht (WO y hb),aC aZ];exact⟨λ_ _=>trivial,auG E _ H _ w W (by rw[<-hd];exact y.put hlt AV) hW (.refl E H w) e⟩;exact e.elim;cases A
def TP(ds:List Deferred)(n:Nat)(E:Env)(H:PH)(w:World)(K:bZ)(Q:Exit->Act->World->Prop):Prop:=
 ∀e i u H' x l,eS ds n i u x->bY i H' l->Ext E H w i H' l->K e u H'->Q e.out x l
theorem TP.after{i:Env}{H':PH}{l:World}{K:bZ}{Q:Exit->Act->World->Prop}(h:TP ds n E H w K Q)(A:Ext E H w i H' l):TP ds n i H' l K Q:=
 λe u x H2 a2 M y hW J B=>h e u x H2 a2 M y hW (A.trans J) B
theorem vJ(δ:C.P=T.P)(γ:C.num=T.num):∀(c:Code)(pc:aI)(K:bZ)(Q:Exit->Act->World->Prop)(E:Env)(F:PF)(H:PH)(a:Act)(w:World),
  T.code n c=some pc->pc.wp C K F H->eS ds n E F a->bY E H w->E.num=T.num->TP ds n E H w K Q->c.wpIn (Fz ro) fu T.P Q a w:=by
 intro c
 induction c with
 |skip =>intro pc K Q E F H a w i u A hW N l;simp[Tbl.code]at i;subst i;exact wpIn_skip (l .normal E F H a w A hW (.refl E H w) u)
 |region id ops d=>
  intro pc K Q E F H a w i u A hW N l;simp only[Tbl.code]at i;split at i;rename_i hd;subst hd;exact Jf δ γ i u A hW N λB V H' R O S U M J=>l .normal B V H' R O S U M J;rename_i hd;simp only[avM]at i;obtain⟨il,ψ,rfl⟩:=i;have:d=false:=by simpa using hd
  subst this;exact wpIn_region_list (zd δ γ ops.toList il E F H a w ψ u A hW N λB V H' R O S U M J=>l .normal B V H' R O S U M J)
 |seq x y Z β=>
  intro pc K Q E F H a w i u A hW N l;simp only[Tbl.code]at i;split at i
  ·rename_i px py Y hy;cases i;refine wpIn_seq (Z px (fZ C (py.wp C) K) _ E F H a w Y u A hW N λe B V H' R O S U M J=>?_);cases e with
   |normal=>exact β py K Q B V H' R O hy J S U (M.env.num.trans N) (l.after M)
   |exit id=>exact l (.exit id) B V H' R O S U M J
   |ret=>exact l .ret B V H' R O S U M J
  cases i
 |cond c x y Z β=>
  intro pc K Q E F H a w i u A hW N l;simp only[Tbl.code]at i;split at i;rename_i Θ px py η Y hy;cases i;simp only[aI.wp]at u;split at u
  ·rename_i t φ;have r:=bQ η φ A N;have hb:a.eval c=.bool t:=by generalize a.eval c=v at r;cases r;rfl
   refine wpIn_cond hb ?_;cases t with
   |true=>exact Z px K Q E F H a w Y (by simpa using u) A hW N l
   |false=>exact β py K Q E F H a w hy (by simpa using u) A hW N l
  exact u.elim;cases i
 |block id c ih=>
  intro pc K Q E F H a w i u A hW N l;simp only[Tbl.code,avM]at i;obtain⟨px,Y,rfl⟩:=i;refine wpIn_block (ih px (fA id K) _ E F H a w Y u A hW N λe B V H' R O S U M J=>?_);cases e with
  |normal=>exact l .normal B V H' R O S U M J
  |exit Δ =>simp only[fA]at J;simp only[lG.out,Exit.inBlock];split at J;rename_i e;rw[aF e];exact l .normal B V H' R O S U M J;rename_i e;rw[aC e];exact l (.exit Δ) B V H' R O S U M J
  |ret=>exact l .ret B V H' R O S U M J
 |loop c ih=>
  intro pc K Q E F H a w i u A hW N l;simp only[Tbl.code,avM]at i;obtain⟨px,Y,rfl⟩:=i;obtain⟨α,Fs,Hs,Pr,m,a0,F1,H1,χ,Γ,ρ,ζ,X⟩:=u;obtain⟨E1,κ,τ,ν⟩:=A.frz hW χ;refine wpIn_loop_ghost (λk R O=>∃(B:Env)(s:α),Pr s/\m s=k/\eS ds n B (Fs s) R/\bY B (Hs s) O/\Ext E H w B (Hs s) O) (m a0) ⟨E1,a0,Γ,rfl,κ.weaken ρ,τ.weaken ζ,ν.drop ζ⟩ ?_;rintro k R O ⟨B,s,hp,rfl,ι,σ,W⟩;refine ih px (fL Fs Hs Pr m (m s) K) _ B (Fs s) (Hs s) R O Y (X s hp) ι σ (W.env.num.trans N) λe E2 F2 H2 a2 w2 S U M J=>?_;cases e with
  |normal =>obtain⟨s',F3,H3,θ,ω,hlt,ο,ε⟩:=J;obtain⟨E3,μ,υ,ξ⟩:=S.frz U θ;exact⟨m s',hlt,E3,s',ω,rfl,μ.weaken ο,υ.weaken ε,((W.trans M).trans ξ).drop ε⟩
  |exit id=>exact l (.exit id) E2 F2 H2 a2 w2 S U (W.trans M) J
  |ret=>exact l .ret E2 F2 H2 a2 w2 S U (W.trans M) J
 |exit id =>intro pc K Q E F H a w i u A hW N l;simp[Tbl.code]at i;subst i;exact wpIn_exit (l (.exit id) E F H a w A hW (.refl E H w) u)
 |ret =>intro pc K Q E F H a w i u A hW N l;simp[Tbl.code]at i;subst i;exact wpIn_ret (l .ret E F H a w A hW (.refl E H w) u)
 |rangeFunc=>intro pc K Q E F H a w i;simp[Tbl.code]at i
 |scope c ih =>intro pc K Q E F H a w i u A hW N l;simp only[Tbl.code]at i;refine Rj (ih pc K _ E F H a w i u A hW N λe B V H' R O S U M J=>?_);have:=l e B V H' R O S U M J;cases e<;>exact this
 |label =>intro pc K Q E F H a w i u A hW N l;simp[Tbl.code]at i;subst i;exact wpIn_label (l .normal E F H a w A hW (.refl E H w) u)
 |goto=>intro pc K Q E F H a w i;simp[Tbl.code]at i
 |refuse=>intro pc K Q E F H a w i;simp[Tbl.code]at i
end
open Go Go.RowKit
namespace Tbl
variable (T:Tbl)
def res:ResultVar->Option eE
 | .tmp t=>some (.tmp t)
 | .cell t ty=>match T.isAgg ty,T.size ty with
  |some true,some k=>some (.cell t (some k))
  |some false,_=>some (.cell t none)
  |_,_=>none
def wy:List ResultVar->Option (List eE)
 |[]=>some []
 |r::rs=>match T.res r,wy rs with
  |some p,some ps=>some (p::ps)
  |_,_=>none
def func(fn:Func):Option lH:=
 match fn.body with
 |some c=>match T.code fn.ntmps c,T.wy fn.results.toList with
  |some b,some rs=>some ⟨fn.params.size,fn.ntmps,b,rs⟩
  |_,_=>none
 |none=>none
end Tbl
section
variable {ds:List Deferred} {T:Tbl} {n:Nat} {E:Env} {F:PF} {H:PH} {a:Act} {w:World}
def WB(e:Array Value):ResultVar->Sem Value
 | .tmp t=>pure (e.getD t undef)
 | .cell a t=>do loadVar t (<-asAddr (e.getD a undef))
theorem U6{r:ResultVar}{p:eE}{pv:PV}(l:T.res r=some p)(e:p.ev F H=some pv)(y:eS ds n E F a)(hW:bY E H w):∃v,(WB a.tmps r).run T.P w=.ok v w/\bH E pv v:=by
 cases r with
 |tmp t =>simp[Tbl.res]at l;subst l;exact⟨_,rfl,y.t t pv e⟩
 |cell t ty =>simp only[Tbl.res]at l;split at l;rename_i k B J;cases l;simp only[eE.ev]at e;split at e;rename_i q hq;rw[avM]at e;obtain⟨cs,i,rfl⟩:=e;obtain⟨b,off,hb,-⟩:=tX hW (y.t t q hq) i;obtain⟨u,x,A⟩:=bu (T:=T) B J hW (y.t t q hq) i;refine⟨u,?_,A⟩;rw[hb]at x;simpa[WB,hb,asAddr,Instr.loadAt,Instr.sureAddr]using x;cases e;rename_i B;cases l;simp only[eE.ev]at e;split at e;rename_i q hq;split at e;rename_i v' i;cases e;obtain⟨b,off,hb,-⟩:=tX hW (y.t t q hq) i;obtain⟨u,x,A⟩:=pu (T:=T) B hW (y.t t q hq) i;refine⟨u,?_,A⟩;rw[hb]at x;simpa[WB,hb,asAddr,Instr.loadAt,Instr.sureAddr]using x;cases e;cases e;cases l
theorem QV(B:eS ds n E F a)(hW:bY E H w):∀(rs:List ResultVar)(ps:List eE)(e:V_),T.wy rs=some ps->eE.evs F H ps=some e ->
  ∃vs,(rs.mapM (WB a.tmps)).run T.P w=.ok vs w/\fW E e vs
 |[],ps,e,i,l=>by simp[Tbl.wy]at i;subst i;simp[eE.evs]at l;subst l;exact⟨[],by simp,.nil⟩
 |r::rs,ps,e,i,l=>by simp only[Tbl.wy]at i;split at i;rename_i p A hp x;cases i;simp only[eE.evs]at l;split at l;rename_i v vs J y;cases l;obtain⟨u,g1,g2⟩:=U6 hp J B hW;obtain⟨K,k1,k2⟩:=QV B hW rs A vs x y;exact⟨u::K,by simp[List.mapM_cons,g1,k1],.cons g2 k2⟩;cases l;cases i
theorem qr{i:V_}{vs:List Value}(h:fW E i vs):bH E (bL i) (if h:vs.toArray.size=1 then vs.toArray[0]else .tuple vs.toArray):=by
 cases h with
 |nil=>exact .tup #[] rfl aZ
 |cons h t=>
  cases t with
  |nil=>exact h
  |cons l y =>rename_i p v q u ps A;have e:fW E (p::q::ps) (v::u::A):=.cons h (.cons l y);rw[dif_neg aZ];exact .tup _ (by simpa using e.len) (λj pv w hp x=>e.at_ j pv w hp (by simpa using x))
theorem rh(fn:Func)(e:Array Value):results fn e=(do
  let vs <-fn.results.mapM (WB e)
  pure (if h:vs.size=1 then vs[0]else .tuple vs)):=by
 unfold results;congr 1
theorem xv(J:C.P=T.P)(B:C.num=T.num){name:Nat}{args:V_}{R:R_}{fn:Func}{pf:lH}(hf:C.P.funcs[C.num name]?=some fn)(α:(fn.name=="runtime.NumGoroutine")=false)
  (l:T.func fn=some pf) (N:Z' args<=pf.ntmps) (h:pf.body.wp C (aW pf.res R) (PF.args args) H):aH C name args H R:=by
 unfold Tbl.func at l;split at l;rename_i c hb;split at l
 ·rename_i b rs u y;cases l;refine⟨⟨fn,hf,by simp[hb],α⟩,λE w vs hN hW U=>?_⟩;have δ:vs.size=Z' args:=by simpa using U.len
  refine calls_of_wp hf hb ?_;rw[J];refine(wpIn_wide (n:=0)).1 ?_;have hA:eS [] fn.ntmps E (PF.args args) { tmps:=vs++axG (fn.ntmps-vs.size) undef,defers:=[] }:=by
   refine⟨by simp only at N;simp;omega,rfl,λi pv hi=>?_⟩;have x:i<vs.size:=by
    rw[δ];rcases avX i args.length with h'|h'
    exact h';simp[PF.args,awN h']at hi
   simp only[azG];rw[Array.getElem?_append_left x,ayW x];exact U.at_ i pv _ hi (by simp[x])
  refine vJ (ro:=none) (fu:=0) J B c b (aW rs R) _ E (PF.args args) H _ w u h hA hW (hN.trans B) λe W F' H' a' X A K hE Y=>?_;have V:aW rs R .ret F' H'->bodyPost T.P fn (λe X=>∃v pv W H',e=.returned v/\bY W H' X/\bH W pv v/\Ext E H w W H' X/\R pv H') .ret a' X:=by
   rintro⟨ε,O,F1,H1,H2,Z,M,v0,γ,hR⟩;obtain⟨us,g1,g2⟩:=QV A K fn.results.toList rs ε y O;have β:=qr g2;obtain⟨E2,k1,k2,k3⟩:=Z.sound K;have S:=k3 (λ_=>if h:us.toArray.size=1 then us.toArray[0]else .tuple us.toArray) (λi pv hi=>by simp only[PF.set,upd]at hi;split at hi;cases hi;exact β;cases hi) 0 v0 γ
   refine⟨A.defers,_,?_,_,v0,E2,H2,rfl,k1.weaken M,S,(hE.trans k2).drop M,hR⟩;rw[rh,Array.mapM_eq_mapM_toList];simp[g1]
  cases e with
  |normal=>exact V Y
  |exit id=>exact Y.elim
  |ret=>exact V Y
 cases l;cases l
end
end Go.PM
theorem Go.s_{p:Prop}(h:p:=by simp only[go_sem]):p:=h
theorem Go.dT_{p:Prop}[Decidable p]:(decide p=true)=p:=decide_eq_true_eq
