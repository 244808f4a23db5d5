/-Lemmas for the law. No condition.-/
import Derived.WalkKit
import Derived.CallsIn
import Derived.Laws.Cover3
import Derived.Deep.MidRow
import Derived.Great.BuildSlice
import Derived.Lib.Strings
import Derived.Laws.BytesArg
import GoSem.Instr.MapUpdate
import Derived.Laws.MakeOwn
import Derived.Laws.CopyRow
import Derived.MapKept
import Derived.Orders
import Derived.OrdersIn
import Derived.Sort.LoopGhostIn
import Derived.TacticsIn
import Derived.Scope
set_option linter.unusedSimpArgs false
set_option linter.unusedVariables false
open Nat renaming reduceEqDiff->γ,reduceAdd->δ,reduceSub->ε,reduceMul->ζ,reduceLT->η,reduceLeDiff->θ,reduceBEq->τ
open Int renaming reduceLT->ι,reduceLE->κ,reduceEq->μ,reduceToNat->ν,reduceAdd->ξ,reduceNeg->ο,reduceBEq->ρ,reduceBNe->σ
open List renaming reduceReplicate->υ
open List renaming length_map->apP,range->apQ,length_append->apV,getElem_mem->apW,replicate->apX,getD_eq_getElem?_getD->apY,getElem?_eq_getElem->apZ,getElem?_map->aqE,length_take->aqF,mem_cons->aqG,mem_map->aqJ,all_eq_true->aqM,mem_range->aqN,map_append->aqP,map_cons->aqQ,append_assoc->aqT,getElem?_eq_some_iff->aqU,length_cons->aqV,append_nil->aqY,mem_append->aqZ,mem_singleton->arA,getElem?_eq_none->arC,length_set->arD,getElem_of_mem->arF,getElem_map->arI,map_nil->arL,length_drop->arM,getElem?_append_right->arS,getElem?_range->arU,mem_of_getElem?->asC,getElem?_append_left->asE,length_nil->asG,drop_eq_getElem_cons->asI,map_set->asP,mem_filter->asQ,nodup_append->asS,set_cons_zero->asT,cons_append->asV,getElem?_set->asX,set_append_right->asY,take_append_drop->asZ,countP_cons->atE,getElem?_drop->atI,getElem?_take->atJ,nil_append->atL,countP_append->atW,flatten_cons->atY,mem_of_mem_take->auA,mem_or_eq_of_mem_set->auB,eq_nil_of_length_eq_zero->auF
open Nat renaming le_refl->apU,zero_add->aqA,lt_or_ge->aqW,le_trans->aqX,add_zero->arG,add_mul->arJ,mul_le_mul_right->arK,mul_comm->arW,eq_zero_or_pos->arZ,sub_self->asA,succ_mul->asL,add_assoc->atA,mul_le_mul_left->atM,div_lt_iff_lt_mul->auD
open Bool renaming and_eq_true->apT,not_true->aqC,not_false->aqI,true_and->aqL,false_eq_true->arO
open Option renaming map_eq_some_iff->aqB,map_some->aqK,getD_some->arT,some->asB,bind_some->atO,bind_eq_some_iff->atV
open Int renaming toNat_natCast->arP
open Array renaming replicate->arX,getElem?_eq_some_iff->atC,length_toList->atD,getElem?_eq_getElem->atP,getD_eq_getD_getElem?->auE
open List renaming length->Z'
set_option maxRecDepth 100000
set_option maxHeartbeats 800000
noncomputable section
attribute [go_sem] Nat.reduceEqDiff Nat.reduceAdd Nat.reduceSub Nat.reduceMul Nat.reduceLT Nat.reduceLeDiff Int.reduceLT Int.reduceLE Int.reduceEq Int.reduceToNat Int.reduceAdd Int.reduceNeg Int.reduceBEq Int.reduceBNe Nat.reduceBEq List.reduceReplicate reduceIte reduceCtorEq
theorem Om{p:Prop}(h:p:=by omega):p:=h
theorem sO_{p:Prop}(h:p:=by simp only;omega):p:=h
theorem aT{p:Prop}(h:p:=by decide):p:=h
theorem aX{p:Prop}(h:p:=by simp):p:=h
abbrev aC:=@if_neg
abbrev aE:=@if_pos
abbrev aZ:=@decide_eq_true
abbrev bG:=@decide_eq_false
namespace Go.PM
open Go
inductive PV where
 |int (k:IntKind) (n:Int)
 |bool (b:Bool)
 |str (s:List UInt8)
 |aG
 |sl (size:Nat) (rows:List (List PV))
 |osl (o size off len:Nat)
 |ptr (o size i c:Nat)
 |aU (cells:List PV)
 |map (o:Nat)
 |fn (name:Nat) (captured:List PV)
 |agg (cells:List PV)
 |tup (vs:List PV)
 |lit (v:Value)
 |junk
 deriving Inhabited
abbrev PV.j(n:Int):PV:=.int .i64 n
attribute[go_sem] PV.j
abbrev _root_.P2_:=List (List PV)
abbrev _root_.L2_:=List (List Int)
abbrev _root_.N_:=List Nat
abbrev _root_.I_:=List Int
abbrev _root_.V_:=List PV
abbrev _root_.O_:=Option Nat
inductive KSh where
 |int (k:IntKind)
 |bool
 |str
 deriving DecidableEq,Inhabited
inductive KS where
 |int (k:IntKind) (n:Int)
 |bool (b:Bool)
 |str (s:List UInt8)
 deriving DecidableEq,Inhabited
def KS.sh:KS->KSh
 | .int k _=>.int k
 | .bool _=>.bool
 | .str _=>.str
def KS.val:KS->Value
 | .int k n=>.int k n
 | .bool b=>.bool b
 | .str s=>.string ⟨s.toArray⟩
abbrev MSh:=Bool × List KSh
def jL(sh:MSh)(k:List KS):Value:=if sh.1 then .agg (k.map KS.val).toArray else(k.map KS.val).headD undef
abbrev jY:=List KS->Option PV
def jY.upd(g:jY)(k:List KS)(v:PV):jY:=λj=>if j=k then some v else g j
def sF(k:List KS):List (List KS × PV)->Nat->Option (Nat × PV)
 |[],_=>none
 |e::l,i=>if e.1=k then some (i,e.2)else sF k l (i+1)
def mapOf(L:List (List KS × PV)):jY:=λk=>(sF k L 0).map (·.2)
open Classical in
noncomputable def jY.Jm(g:jY):Nat:=if h:∃e:List (List KS),e.Nodup/\∀k,k∈e↔(g k).isSome=true then h.choose.length else 0
theorem jY.Y9{g:jY}{e:List (List KS)}(i:e.Nodup)(l:∀k,k∈e↔(g k).isSome=true):g.Jm=Z' e:=by
 have h:∃e:List (List KS),e.Nodup/\∀k,k∈e↔(g k).isSome=true:=⟨e,i,l⟩;unfold jY.Jm;rw[dif_pos h];exact((List.perm_ext_iff_of_nodup h.choose_spec.1 i).2 λk=>(h.choose_spec.2 k).trans (l k).symm).length_eq
theorem NJ(k:List KS):∀(L:List (List KS × PV)) (i:Nat),(sF k L i).isSome=true↔k∈L.map (·.1)
 |[],i=>by simp[sF]
 |e::l,i=>by unfold sF;by_cases h:e.1=k;simp[h];rw[aC h,NJ k l,aqQ,aqG];exact⟨.inr,λu=>u.resolve_left λe2=>h e2.symm⟩
theorem K5{L:List (List KS × PV)}(h:(L.map (·.1)).Nodup):(mapOf L).Jm=Z' L:=by
 rw[jY.Y9 h λk=>?_,apP];rw[<-NJ k L 0];unfold mapOf;simp
inductive aR where
 |rows (size:Nat) (rs:P2_)
 |map (sh:MSh) (g:jY)
 |loop (F:Nat->Option PV) (n t:Nat) (asg bdy:Code)
 |dead
def upd{α:Type}(f:Nat->Option α)(i:Nat)(v:Option α):Nat->Option α:=λj=>if j=i then v else f j
theorem Eb{α:Type}(f:Nat->Option α)(i:Nat)(v:Option α):upd f i v i=v:=by simp[upd]
theorem VS{α:Type}(f:Nat->Option α){i j:Nat}(v:Option α)(h:j≠i):upd f i v j=f j:=by simp[upd,h]
theorem Xn{α:Type}(f:Nat->Option α){i j:Nat}(v u:Option α)(h:i≠j):upd (upd f i v) j u=upd (upd f j u) i v:=by
 funext k;simp only[upd];by_cases e:k=j;by_cases l:k=i;omega;simp[e];intro w;omega;simp[e]
abbrev PF:=Nat->Option PV
def PF.nil:PF:=λ_=>none
def PF.set(F:PF)(i:Nat)(v:PV):PF:=upd F i (some v)
def PF.le(F G:PF):Prop:=∀i v,F i=some v->G i=some v
structure PH where
 f:Nat->Option aR
 fin:∃n,∀o,n<=o->f o=none
instance:CoeFun PH (λ_=>Nat->Option aR):=⟨PH.f⟩
abbrev _root_.T3_:=Nat × PV × PH
abbrev _root_.K_:=PF→PH→Prop
abbrev _root_.R_:=PV→PH→Prop
theorem PH.ext{H K:PH}(h:∀o,H.f o=K.f o):H=K:=by
 cases H;cases K;have:‹Nat->Option aR›=‹Nat->Option aR›:=rfl;congr;exact funext h
def PH.nil:PH:=⟨λ_=>none,0,λ_ _=>rfl⟩
def PH.upd(H:PH)(o:Nat)(x:Option aR):PH:=
 ⟨PM.upd H.f o x,by
  obtain⟨n,e⟩:=H.fin;refine⟨max n (o+1),λq hq=>?_⟩;rw[VS _ _ Om];exact e q Om⟩
def PH.set(H:PH)(o:Nat)(x:aR):PH:=H.upd o (some x)
def PH.le(H K:PH):Prop:=∀o x,H o=some x->K o=some x
def PH.over(H e i:PH):PH:=
 ⟨λo=>match i o with
  |some x=>some x
  |none=>match e o with
   |some _=>some .dead
   |none=>H o,by
  obtain⟨n,w⟩:=H.fin;obtain⟨y,l⟩:=e.fin;obtain⟨A,u⟩:=i.fin;refine⟨max n (max y A),λo B=>?_⟩;simp only[u o Om,l o Om,w o Om]⟩
theorem PH.fresh(H:PH):∃o,H o=none:=by
 obtain⟨n,e⟩:=H.fin;exact⟨n,e n (apU _)⟩
def at2(rows:P2_)(i j:Nat):Option PV:=rows[i]?.bind (·[j]?)
structure Env where
 G:Nat->Option (Array Value)
 sz:Nat->O_
 num:Nat->FuncId
def Env.cell(E:Env)(b off:Nat):Option Value:=(E.G b).bind (·[off]?)
structure Env.le(E E':Env):Prop where
 g:∀b cs,E.G b=some cs->E'.G b=some cs
 s:∀b n,E.sz b=some n->E'.sz b=some n
 num:E'.num=E.num
theorem Env.le.refl(E:Env):E.le E:=⟨λ_ _ h=>h,λ_ _ h=>h,rfl⟩
theorem Env.le.trans{A B C:Env}(h:A.le B)(k:B.le C):A.le C:=
 ⟨λb cs e=>k.g _ _ (h.g _ _ e),λb n e=>k.s _ _ (h.s _ _ e),k.num.trans h.num⟩
theorem Env.le.cell{E l:Env}(h:E.le l){b off:Nat}{u:Value}(e:E.cell b off=some u):l.cell b off=some u:=by
 unfold Env.cell at *
 cases i:E.G b with
 |none=>simp[i]at e
 |some cs=>rw[i]at e;rw[h.g _ _ i];exact e
inductive bB (E:Env):PV->Value->Prop
 |int (k:IntKind) (n:Int):bB E (.int k n) (.int k n)
 |bool (b:Bool):bB E (.bool b) (.bool b)
 |str (s:ByteArray):bB E (.str s.data.toList) (.string s)
 |aG:bB E .aG (.slice none 0 0)
 |sl {size:Nat} {rows:P2_} {a:Option Addr} {cap:Nat} (u:Nat->Nat->Value) (hcap:Z' rows<=cap) (apJ:cap<=maxLen)
   (hs:∀r∈rows,Z' r=size)
   (ha:rows≠[]->∃ad,a=some ad/\ad.spot=none/\∀i j pv,at2 rows i j=some pv->E.cell ad.block (ad.off+i*size+j)=some (u i j))
   (h1:∀i j,(u i j).oneCell'=true) (hr:∀i j pv,at2 rows i j=some pv->bB E pv (u i j)):bB E (.sl size rows) (.slice a rows.length cap)
 |osl {o size off len cap n:Nat} {a:Addr} (hb:a.block=o) (hsp:a.spot=none) (apM:cap=0\/a.off=off*size) (hlen:len<=cap) (apJ:cap<=maxLen)
   (hn:E.sz o=some n) (apC:off*size+cap*size<=n):bB E (.osl o size off len) (.slice (some a) len cap)
 |ptr (o size i c:Nat):bB E (.ptr o size i c) (.pointer (some ⟨o,i*size+c,none⟩))
 |aU {cells:V_} {ad:Addr} (u:Nat->Value) (hsp:ad.spot=none) (hc:∀(j:Nat) pv,cells[j]?=some pv->E.cell ad.block (ad.off+j)=some (u j))
   (h1:∀(j:Nat),(u j).oneCell'=true) (hr:∀(j:Nat) pv,cells[j]?=some pv->bB E pv (u j)):bB E (.aU cells) (.pointer (some ad))
 |map (o:Nat):bB E (.map o) (.map (some o))
 |fn {name:Nat} {captured:V_} (vc:Array Value) (hl:vc.size=Z' captured)
   (hr:∀(j:Nat) pv v,captured[j]?=some pv->vc[j]?=some v->bB E pv v):bB E (.fn name captured) (.func (.func (E.num name)) #[] vc)
 |agg {cells:V_} (vs:Array Value) (hl:vs.size=Z' cells) (h1:∀v∈vs.toList,v.oneCell'=true)
   (hr:∀(j:Nat) pv v,cells[j]?=some pv->vs[j]?=some v->bB E pv v):bB E (.agg cells) (.agg vs)
 |tup {ps:V_} (vs:Array Value) (hl:vs.size=Z' ps)
   (hr:∀(j:Nat) pv v,ps[j]?=some pv->vs[j]?=some v->bB E pv v):bB E (.tup ps) (.tuple vs)
 |lit (v:Value):bB E (.lit v) v
 |junk (v:Value):bB E .junk v
theorem bB.mono{E M:Env}(h:E.le M){pv:PV}{v:Value}(r:bB E pv v):bB M pv v:=by
 induction r with
 |int=>exact .int _ _
 |bool=>exact .bool _
 |str=>exact .str _
 |aG=>exact .aG
 |sl u B l S O A _ w =>refine .sl u B l S (λL=>?_) A w;obtain⟨N,e,U,K⟩:=O L;exact⟨N,e,U,λi j pv hp=>h.cell (K i j pv hp)⟩
 |osl hb y J F l R x=>exact .osl hb y J F l (h.s _ _ R) x
 |ptr=>exact .ptr _ _ _ _
 |aU u y K A _ w=>exact .aU u y (λj pv hp=>h.cell (K j pv hp)) A w
 |map=>exact .map _
 |fn vc D _ w=>rw[<-h.num];exact .fn vc D w
 |agg vs D A _ w=>exact .agg vs D A w
 |tup vs D _ w=>exact .tup vs D w
 |lit=>exact .lit _
 |junk=>exact .junk _
def SA(E:Env)(w:World)(o:Nat):aR->Prop
 | .rows size rs=>∃l ty,w.heap[o]?=some (.cells l ty (0,0))/\E.sz o=some l.size/\(∀r∈rs,Z' r=size)/\Z' rs*size<=l.size /\
   ∀i j pv,at2 rs i j=some pv->∃u,l[i*size+j]?=some u/\u.oneCell'=true/\bB E pv u
 | .map sh g=>∃y x L,w.heap[o]?=some (.map y x)/\(y.size=Z' L/\(L.map (·.1)).Nodup)/\g=mapOf L /\
   ∀(i:Nat) e D,L[i]?=some e->y[i]?=some D->e.1.map KS.sh=sh.2/\D.key=jL sh e.1/\bB E e.2 D.val
 | .loop F n t A B=>∃rec:Loop,w.heap[o]?=some (.loop rec)/\rec.state=.ready/\rec.pending=none/\rec.params=#[t]/\rec.assign=A/\rec.body=B/\rec.tmps.size=n/\∀i pv,F i=some pv->bB E pv (rec.tmps.getD i undef)
 | .dead=>True
theorem SA.mono{E O:Env}(h:E.le O){w R:World}{o:Nat}(N:R.heap[o]?=w.heap[o]?){x:aR}(r:SA E w o x):SA O R o x:=by
 cases x with
 |rows size rs =>obtain⟨J,ty,A,B,D,y,h5⟩:=r;refine⟨J,ty,N.trans A,h.s _ _ B,D,y,λi j pv hp=>?_⟩;obtain⟨u,a,b,c⟩:=h5 i j pv hp;exact⟨u,a,b,c.mono h⟩
 |map sh g =>obtain⟨M,l,L,A,B,D,y⟩:=r;exact⟨M,l,L,N.trans A,B,D,λi e K a b=>⟨(y i e K a b).1,(y i e K a b).2.1,(y i e K a b).2.2.mono h⟩⟩
 |loop F n t S U =>obtain⟨rec,A,B,D,y,h5,V,h7,h8⟩:=r;exact⟨rec,N.trans A,B,D,y,h5,V,h7,λi pv hi=>(h8 i pv hi).mono h⟩
 |dead=>trivial
structure bS(E:Env)(H:PH)(w:World):Prop where
 g:∀b cs,E.G b=some cs->(∀x,H b=some x->x=.dead)/\∃ty fr,w.heap[b]?=some (.cells cs ty fr)
 h:∀o x,H o=some x->o<w.heap.size/\SA E w o x
 s:∀o n,E.sz o=some n->∃cur ty fr,w.heap[o]?=some (.cells cur ty fr)/\cur.size=n
theorem bS.weaken{E:Env}{H i:PH}{w:World}(h:bS E H w)(e:i.le H):bS E i w:=by
 exact⟨λb cs hb=>⟨λx u=>(h.g b cs hb).1 x (e b x u),(h.g b cs hb).2⟩,λo x l=>h.h o x (e o x l),h.s⟩
structure Ext(E:Env)(H:PH)(w:World)(E':Env)(H':PH)(w':World):Prop where
 env:E.le E'
 os:w'.os=w.os
 tape:w'.tape=w.tape
 output:w'.output=w.output
 size:w.heap.size<=w'.heap.size
 block:∀b,b<w.heap.size->H b=none->w'.heap[b]?=w.heap[b]?
 new:∀o x,H' o=some x->(∃y,H o=some y)\/w.heap.size<=o
 newG:∀b cs,E'.G b=some cs->E.G b=some cs\/(∃y,H b=some y)\/w.heap.size<=b
theorem Ext.refl(E:Env)(H:PH)(w:World):Ext E H w E H w:=
 ⟨.refl E,rfl,rfl,rfl,apU _,λ_ _ _=>rfl,λ_ x h=>.inl ⟨x,h⟩,λ_ _ h=>.inl h⟩
theorem Ext.trans{l u w:Env}{A H2 B:PH}{E F J:World}(h:Ext l A E u H2 F)(k:Ext u H2 F w B J):Ext l A E w B J:=by
 refine⟨h.env.trans k.env,k.os.trans h.os,k.tape.trans h.tape,k.output.trans h.output,aqX h.size k.size,λb hb D=>?_,λo x M=>?_,λb cs hb=>?_⟩;have L:H2 b=none:=by
  cases e:H2 b with
  |none=>rfl
  |some x=>
   rcases h.new b x e with⟨y,i⟩|hl
   rw[D]at i;cases i;omega
 rw[k.block b (by have:=h.size;omega) L,h.block b hb D];rcases k.new o x M with⟨y,i⟩|hl
 exact h.new o y i;exact .inr (aqX h.size hl);rcases k.newG b cs hb with K|⟨y,i⟩|hl
 exact h.newG b cs K;exact .inr (h.new b y i);exact .inr (.inr (aqX h.size hl))
theorem Ext.drop{E i:Env}{H H' l:PH}{w u:World}(h:Ext E H w i H' u)(e:l.le H'):Ext E H w i l u:=
 ⟨h.env,h.os,h.tape,h.output,h.size,h.block,λo x y=>h.new o x (e o x y),h.newG⟩
theorem Ext.narrow{E B:Env}{H H' A:PH}{w D:World}(h:Ext E A w B H' D)(i:A.le H):Ext E H w B (H.over A H') D:=by
 refine⟨h.env,h.os,h.tape,h.output,h.size,λb hb J=>h.block b hb ?_,λo x l=>?_,λb cs hb=>?_⟩
 ·cases e:A b with
  |none=>rfl
  |some x=>have:=i b x e;rw[J]at this;cases this
 unfold PH.over at l;simp only at l;split at l;rename_i y u;rcases h.new o y u with⟨z,K⟩|hl
 exact .inl ⟨z,i o z K⟩;exact .inr hl;split at l;rename_i y u;exact .inl ⟨y,i o y u⟩;exact .inl ⟨x,l⟩;rcases h.newG b cs hb with F|⟨y,u⟩|hl
 exact .inl F;exact .inr (.inl ⟨y,i b y u⟩);exact .inr (.inr hl)
theorem bS.over{E F:Env}{H H' J:PH}{w D:World}(hW:bS E H w)(h:Ext E J w F H' D)(K:J.le H)(e:bS F H' D):bS F (H.over J H') D:=by
 have keep:∀o x,H o=some x->J o=none->o<D.heap.size/\SA F D o x:=by intro o x i A;obtain⟨hlt,B⟩:=hW.h o x i;exact⟨Nat.lt_of_lt_of_le hlt h.size,B.mono h.env (h.block o hlt A)⟩
 refine⟨λb cs hb=>⟨?_,(e.g b cs hb).2⟩,λo x i=>?_,e.s⟩;intro x l;unfold PH.over at l;simp only at l;split at l;rename_i y u;cases l;exact(e.g b cs hb).1 _ u;split at l;cases l;rfl;rename_i A;rcases h.newG b cs hb with L|⟨y,u⟩|hl
 exact(hW.g b cs L).1 x l;rw[A]at u;cases u;have:=(hW.h b x l).1;omega;unfold PH.over at i;simp only at i;split at i;rename_i y u;cases i;exact e.h o _ u;split at i;rename_i y u;cases i;exact⟨Nat.lt_of_lt_of_le (hW.h o y (K o y u)).1 h.size,trivial⟩;rename_i A;exact keep o x i A
open Go
inductive aP where
 |tmp (t:Nat)
 |const (v:PV)
 deriving Inhabited
def aP.ev(F:PF):aP->Option PV
 | .tmp t=>F t
 | .const v=>some v
def aP.evs(F:PF):List aP->Option V_
 |[]=>some []
 |x::xs=>match x.ev F,aP.evs F xs with
  |some v,some vs=>some (v::vs)
  |_,_=>none
inductive Sc where
 |int|bool|str
 deriving Inhabited,DecidableEq
inductive POp where
 |mv (x:aP)
 |pick (c a b:aP)
 |bin (op:BinOp) (x y:aP)
 |eqb (neg:Bool) (x y:aP)
 |eqs (neg:Bool) (ks:List Sc) (x y:aP)
 |un (op:UnOp) (x:aP)
 |conv (k:IntKind) (x:aP)
 |same (x:aP)
 |alloc (cells:V_)
 |box (ro:Bool) (x:aP)
 |build (zero:V_) (parts:List (Nat × Nat × aP))
 |aoI (ro:Bool) (size len:Nat) (zero:V_) (parts:List (Nat × aP))
 |load (n:O_) (p:aP)
 |store (n:Nat) (p x:aP)
 |aoQ (x:aP)
 |apG (off:Nat) (x:aP)
 |field (off:Nat) (n:O_) (x:aP)
 |aoU (size:Nat) (x i:aP)
 |idxA (n size:Nat) (x i:aP)
 |idxV (n size:Nat) (ag:Bool) (x i:aP)
 |apE (x i:aP)
 |slice (size:Nat) (x:aP) (lo hi mx:Option aP)
 |apA (x:aP) (lo hi:Option aP)
 |sliceA (n size:Nat) (x:aP) (lo hi mx:Option aP)
 |len (x:aP)
 |apD (x:aP)
 |apO (x:aP)
 |lenM (x:aP)
 |isNil (n:Bool) (x:aP)
 |extract (x:aP) (i:Nat)
 |aoL (size bytes:Nat) (zero:V_) (l c:aP)
 |append (size bytes:Nat) (x y:aP)
 |aoY (mx:Bool) (x y:aP)
 |mkfn (name:Nat) (captured:List aP)
 |apK (sh:MSh)
 |lookup (sh:MSh) (zero:PV) (x k:aP) (ok:Bool)
 |aoV (sh:MSh) (x k v:aP)
 |insert (sh:MSh) (x k v:aP)
 |stuck
 |aoR (x:aP)
 |str2bytes (x:aP)
 |call (name:Nat) (args:List aP)
 |apF (x:aP) (args:List aP)
 deriving Inhabited
structure bQ where
 dst:O_
 op:POp
 guard:Option (Nat × Bool)
 deriving Inhabited
inductive aI where
 |skip
 |region (ops:List bQ)
 |draw (ops:List (bQ × Bool))
 |seq (a b:aI)
 |cond (c:aP) (a b:aI)
 |block (id:Nat) (c:aI)
 |loop (c:aI)
 |exit (id:Nat)
 |ret
 deriving Inhabited
inductive dY where
 |tmp (t:Nat)
 |cell (t:Nat) (n:O_)
 deriving Inhabited
structure kT where
 nparams:Nat
 ntmps:Nat
 body:aI
 res:List dY
 deriving Inhabited
def PV.cells:PV->V_
 | .agg cs=>cs
 |v=>[v]
def PV.one:PV->Bool
 | .agg _ | .tup _ | .junk | .lit (.agg _) | .lit (.tuple _)=>false
 |_=>true
def setCells(r:V_)(c:Nat):V_->V_
 |[]=>r
 |v::vs=>setCells (r.set c v) (c+1) vs
def loadCells(H:PH)(p:PV)(n:Nat):Option V_:=
 match p with
 | .ptr o size i c=>match H o with
  |some (.rows s rs)=>if s=size then match rs[i]? with
    |some r=>if c+n<=r.length then some ((r.drop c).take n)else none
    |none=>none
   else none
  |_=>none
 | .aU cells=>if n<=cells.length then some (cells.take n)else none
 |_=>none
def oY(op:BinOp)(k:IntKind)(a b:Int):Option PV:=
 match op with
 | .add=>some (.int k (k.wrap (a+b)))
 | .sub=>some (.int k (k.wrap (a-b)))
 | .mul=>some (.int k (k.wrap (a*b)))
 | .quo=>if b=0 then none else some (.int k (k.wrap (a.tdiv b)))
 | .rem=>if b=0 then none else some (.int k (a.tmod b))
 | .and=>some (.int k (k.wrap (BitVec.ofInt k.bits a &&& BitVec.ofInt k.bits b).toNat))
 | .or=>some (.int k (k.wrap (BitVec.ofInt k.bits a ||| BitVec.ofInt k.bits b).toNat))
 | .xor=>some (.int k (k.wrap (BitVec.ofInt k.bits a ^^^ BitVec.ofInt k.bits b).toNat))
 | .andNot=>some (.int k (k.wrap (BitVec.ofInt k.bits a &&& ~~~ BitVec.ofInt k.bits b).toNat))
 | .eql=>some (.bool (a==b))
 | .neq=>some (.bool (a != b))
 | .lss=>some (.bool (decide (a<b)))
 | .leq=>some (.bool (decide (a<=b)))
 | .gtr=>some (.bool (decide (a>b)))
 | .geq=>some (.bool (decide (a>=b)))
 | .shl | .shr=>none
def LG(op:BinOp)(a b:List UInt8):Option PV:=
 match op with
 | .add=>if((Z' a+Z' b:Nat):Int)>IntKind.i64.max then none else some (.str (a++b))
 | .eql=>some (.bool (a==b))
 | .neq=>some (.bool !(a==b))
 | .lss=>some (.bool (Op.bytesLess a b))
 | .leq=>some (.bool (Op.bytesLess a b||a==b))
 | .gtr=>some (.bool !(Op.bytesLess a b||a==b))
 | .geq=>some (.bool !(Op.bytesLess a b))
 |_=>none
def shift(op:BinOp)(k:IntKind)(a b:Int):Option PV:=
 if b<0 then none else
 match op with
 | .shl=>some (.int k (k.wrap (a*2^(min b.toNat k.bits))))
 | .shr=>some (.int k (a.fdiv (2^(min b.toNat k.bits))))
 |_=>none
def PV.bin(op:BinOp)(x y:PV):Option PV:=
 match op,x,y with
 | .shl,.int k a,.int _ b=>shift .shl k a b
 | .shr,.int k a,.int _ b=>shift .shr k a b
 |op,.int k a,.int e b=>if k=e then oY op k a b else none
 |op,.str a,.str b=>LG op a b
 |_,_,_=>none
def PV.eq1:Sc->PV->PV->Option Bool
 | .int,.int k a,.int e b=>if k=e then some (a==b)else none
 | .bool,.bool a,.bool b=>some (a==b)
 | .str,.str a,.str b=>some (a==b)
 |_,_,_=>none
def PV.eqs:List Sc->V_->V_->Option Bool
 |[],[],[]=>some true
 |k::e,x::xs,y::ys=>match PV.eq1 k x y with
  |some true=>PV.eqs e xs ys
  |some false=>if xs.length=Z' e/\Z' ys=e.length then some false else none
  |none=>none
 |_,_,_=>none
def PV.un(op:UnOp):PV->Option PV
 | .int k n=>match op with
  | .neg=>some (.int k (k.wrap (0-n)))
  | .xor=>some (.int k (k.wrap (BitVec.ofInt k.bits (if k.signed then -1 else k.max) ^^^ BitVec.ofInt k.bits n).toNat))
  |_=>none
 | .bool b=>match op with
  | .not=>some (.bool !b)
  |_=>none
 |_=>none
def PV.intOf:PV->Option Int
 | .int _ n=>some n
 |_=>none
def pZ(cells:V_)(F:PF):List (Nat × Nat × aP)->Option V_
 |[]=>some cells
 |(off,size,x)::rest=>match x.ev F with
  |some v=>if v.cells.length=size/\off+size<=Z' cells/\v.cells.all PV.one then pZ (setCells cells off v.cells) F rest else none
  |none=>none
def gU(size:Nat)(rows:P2_)(F:PF):List (Nat × aP)->Option P2_
 |[]=>some rows
 |(i,x)::rest=>match x.ev F with
  |some v=>if v.cells.length=size/\i<Z' rows/\v.cells.all PV.one then gU size (rows.set i v.cells) F rest else none
  |none=>none
def dH(H:PH)(size:Nat):PV->Option P2_
 | .aG=>some []
 | .sl s rows=>if s=size then some rows else none
 | .osl o s off len=>if s=size then match H o with
   |some (.rows s' rs)=>if s'=s/\off+len<=rs.length then some ((rs.drop off).take len)else none
   |_=>none
  else none
 |_=>none
def bnd(F:PF)(d:Int):Option aP->Option Int
 |none=>some d
 |some x=>(x.ev F).bind PV.intOf
def PV.slice(size:Nat)(x:PV)(l h:Int)(mx:Option Int):Option PV:=
 match x with
 | .aG=>if l=0/\h=0/\(mx=none\/mx=some 0)then some .aG else none
 | .sl s rows=>if s=size/\0<=l/\l<=h/\h<=Z' rows/\(mx=none\/mx=some h)then some (.sl s ((rows.take h.toNat).drop l.toNat))else none
 | .osl o s off len=>if s=size/\0<=l/\l<=h/\h<=len/\(mx=none\/mx=some h)then some (.osl o s (off+l.toNat) (h.toNat-l.toNat))else none
 |_=>none
def PV.sW:PV->Option Bool
 | .aG=>some true
 | .osl _ _ _ _=>some false
 | .sl _ (_::_)=>some false
 |_=>none
def KS.of:PV->Option KS
 | .int k n=>some (.int k n)
 | .bool b=>some (.bool b)
 | .str s=>some (.str s)
 |_=>none
def KS.ofs:V_->Option (List KS)
 |[]=>some []
 |v::vs=>match KS.of v,KS.ofs vs with
  |some k,some e=>some (k::e)
  |_,_=>none
def keyOf(sh:MSh)(v:PV):Option (List KS):=
 match sh.1,v with
 |true,.agg cs=>(KS.ofs cs).bind λk=>if k.map KS.sh=sh.2 then some k else none
 |false,v=>(KS.of v).bind λk=>if[k.sh]=sh.2 then some [k]else none
 |_,_=>none
def chunks(size:Nat):Nat->V_->P2_
 |0,_=>[]
 |n+1,cs=>cs.take size::chunks size n (cs.drop size)
def uB:P2_->Option (List UInt8)
 |[]=>some []
 |[.int .u8 n]::rest=>(uB rest).map (UInt8.ofNat n.toNat::·)
 |_=>none
def PV.sI:PV->Option PV
 | .aG=>some (.int .i64 0)
 | .sl _ rows=>some (.int .i64 rows.length)
 | .osl _ _ _ n=>some (.int .i64 n)
 |_=>none
noncomputable def aV(op:POp)(F:PF)(H:PH):Option PV:=
 match op with
 | .mv x=>x.ev F
 | .same x=>match x.ev F with
  |some (.str s)=>some (.str s)
  |_=>none
 | .pick c a b=>match c.ev F,a.ev F,b.ev F with
  |some (.bool t),x,y=>if t then x else y
  |_,_,_=>none
 | .bin op x y=>match x.ev F,y.ev F with
  |some a,some b=>PV.bin op a b
  |_,_=>none
 | .eqb neg x y=>match x.ev F,y.ev F with
  |some (.bool a),some (.bool b)=>some (.bool ((a==b) != neg))
  |_,_=>none
 | .eqs neg B x y=>match x.ev F,y.ev F with
  |some (.agg xs),some (.agg ys)=>(PV.eqs B xs ys).map λb=>.bool (b != neg)
  |_,_=>none
 | .un op x=>match x.ev F with
  |some a=>PV.un op a
  |none=>none
 | .conv k x=>match x.ev F with
  |some (.int _ n)=>some (.int k (k.wrap n))
  |_=>none
 | .box true x=>match x.ev F with
  |some v=>if v.cells.all PV.one then some (.aU v.cells)else none
  |none=>none
 | .build zero parts=>(pZ zero F parts).map .agg
 | .aoI true size len zero parts=>if zero.length=size/\len*size<=16777216 then(gU size (apX len zero) F parts).map (.sl size)else none
 | .load none p=>match p.ev F with
  |some a=>match loadCells H a 1 with
   |some [v]=>some v
   |_=>none
  |none=>none
 | .load (some n) p=>match p.ev F with
  |some a=>(loadCells H a n).map .agg
  |none=>none
 | .aoQ x=>match x.ev F with
  |some (.ptr o s i c)=>some (.ptr o s i c)
  |some (.aU cs)=>some (.aU cs)
  |_=>none
 | .apG off x=>match x.ev F with
  |some (.ptr o s i c)=>some (.ptr o s i (c+off))
  |some (.aU cs)=>some (.aU (cs.drop off))
  |_=>none
 | .field off n x=>match x.ev F with
  |some (.agg cs)=>match n with
   |none=>cs[off]?
   |some n=>if off+n<=cs.length then some (.agg ((cs.drop off).take n))else none
  |_=>none
 | .aoU size x i=>match x.ev F,i.ev F with
  |some (.sl s rows),some (.int _ n)=>if s=size/\0<=n then match rows[n.toNat]? with
    |some r=>some (.aU r)
    |none=>none
   else none
  |some (.osl o s off len),some (.int _ n)=>if s=size/\0<=n/\n<len then some (.ptr o s (off+n.toNat) 0)else none
  |_,_=>none
 | .idxA n size x i=>match x.ev F,i.ev F with
  |some (.ptr o s r c),some (.int _ k)=>if 0<=k/\k<n then some (.ptr o s r (c+k.toNat*size))else none
  |some (.aU cs),some (.int _ k)=>if 0<=k/\k<n then some (.aU (cs.drop (k.toNat*size)))else none
  |_,_=>none
 | .idxV n size w x i=>match x.ev F,i.ev F with
  |some (.agg cs),some (.int _ k)=>if 0<=k/\k<n then
    (if w then(if k.toNat*size+size<=cs.length then some (.agg ((cs.drop (k.toNat*size)).take size))else none)else cs[k.toNat*size]?)
   else none
  |_,_=>none
 | .apE x i=>match x.ev F,i.ev F with
  |some (.str s),some (.int _ k)=>if 0<=k then(s[k.toNat]?).map λb=>PV.int .u8 b.toNat else none
  |_,_=>none
 | .slice size x lo hi mx=>match x.ev F with
  |some v=>match v with
   | .aG=>match bnd F 0 lo,bnd F 0 hi with
    |some l,some h=>match mx with
     |none=>PV.slice size v l h none
     |some m=>(bnd F 0 (some m)).bind λm=>PV.slice size v l h (some m)
    |_,_=>none
   | .sl s rows=>match bnd F 0 lo,bnd F rows.length hi with
    |some l,some h=>match mx with
     |none=>PV.slice size (.sl s rows) l h none
     |some m=>(bnd F 0 (some m)).bind λm=>PV.slice size (.sl s rows) l h (some m)
    |_,_=>none
   | .osl o s off len=>match bnd F 0 lo,bnd F len hi with
    |some l,some h=>match mx with
     |none=>PV.slice size (.osl o s off len) l h none
     |some m=>(bnd F 0 (some m)).bind λm=>PV.slice size (.osl o s off len) l h (some m)
    |_,_=>none
   |_=>none
  |none=>none
 | .apA x lo hi=>match x.ev F with
  |some (.str s)=>match bnd F 0 lo,bnd F s.length hi with
   |some l,some h=>if 0<=l/\l<=h/\h<=s.length then some (.str ((s.take h.toNat).drop l.toNat))else none
   |_,_=>none
  |_=>none
 | .sliceA n size x lo hi mx=>match lo,hi,mx with
  |none,none,none=>match x.ev F with
   |some (.aU cs)=>if n*size<=Z' cs/\0<size/\n<=maxLen then some (.sl size (chunks size n cs))else none
   |_=>none
  |_,_,_=>none
 | .len x=>(x.ev F).bind PV.sI
 | .apD x=>match x.ev F with
  |some (.str s)=>some (.int .i64 s.length)
  |_=>none
 | .lenM x=>match x.ev F with
  |some (.map o)=>match H o with
   |some (.map _ g)=>some (.int .i64 (g.Jm:Nat))
   |_=>none
  |_=>none
 | .apO x=>match x.ev F with
  |some .aG=>some (.int .i64 0)
  |_=>none
 | .isNil n x=>(x.ev F).bind λv=>v.sW.map λb=>.bool (b != n)
 | .extract x i=>match x.ev F with
  |some (.tup vs)=>vs[i]?
  |_=>none
 | .aoY mx x y=>match x.ev F,y.ev F with
  |some (.int k a),some (.int A b)=>if k=A then some (.int k (if mx then(if a<b then b else a)else(if b<a then b else a)))else none
  |_,_=>none
 | .mkfn name captured=>(aP.evs F captured).map λcs=>.fn name cs
 | .lookup sh zero x k ok=>match x.ev F,k.ev F with
  |some (.map o),some D=>match H o,keyOf sh D with
   |some (.map u g),some e=>if u=sh then some (if ok then .tup [(g e).getD zero,.bool (g e).isSome]else(g e).getD zero)else none
   |_,_=>none
  |_,_=>none
 | .aoR x=>match x.ev F with
  |some v=>match dH H 1 v with
   |some rows=>(uB rows).map PV.str
   |none=>none
  |none=>none
 |_=>none
def cK(op:POp)(F:PF):Option ((Nat->PV) × aR):=
 match op with
 | .alloc cells=>some (λo=>.ptr o cells.length 0 0,.rows cells.length [cells])
 | .box false x=>match x.ev F with
  |some v=>if v.cells.all PV.one then some (λo=>.ptr o v.cells.length 0 0,.rows v.cells.length [v.cells])else none
  |none=>none
 | .aoI false size len zero parts=>if zero.length=size/\len*size<=16777216 then
   (gU size (apX len zero) F parts).map λrows=>(λo=>.osl o size 0 len,.rows size rows)
  else none
 | .aoL size bytes zero l c=>match l.ev F,c.ev F with
  |some (.int _ n),some (.int _ m)=>if 0<=n/\n<=m/\m*bytes<=140737488355328/\m<=9223372036854775807/\Z' zero=size then
    some (λo=>.osl o size 0 n.toNat,.rows size (apX n.toNat zero))
   else none
  |_,_=>none
 | .apK sh=>some (λo=>.map o,.map sh (λ_=>none))
 |_=>none
def storeAt(H:PH)(p:PV)(cells:V_):Option PH:=
 match p with
 | .ptr o size i c=>match H o with
  |some (.rows s rs)=>if s=size/\c+Z' cells<=size/\cells.all PV.one then match rs[i]? with
    |some r=>some (H.set o (.rows s (rs.set i (setCells r c cells))))
    |none=>none
   else none
  |_=>none
 |_=>none
def roomFor(n m bytes:Nat):Prop:=n+m<=maxLen/\(n+m)*bytes<=140737488355328
def kM(H:PH)(size bytes:Nat)(x y:PV)(K:R_):Prop:=
 ∃src,dH H size y=some src /\
  match x with
  | .aG=>roomFor 0 src.length bytes/\(src=[]->K .aG H)/\(src≠[]->∀o,H o=none->K (.osl o size 0 src.length) (H.set o (.rows size src)))
  | .osl o s 0 len=>s=size/\0=0/\roomFor len src.length bytes/\∃rs,H o=some (.rows size rs)/\len<=Z' rs /\
    K (.osl o size 0 (len+Z' src)) (H.set o (.rows size (rs.take len++src))) /\
    ∀o',H o'=none->K (.osl o' size 0 (len+Z' src)) (H.set o' (.rows size (rs.take len++src)))
  | .osl o s (off+1) len=>s=size/\roomFor len src.length bytes/\∃rs,H o=some (.rows size rs)/\off+1+len<=Z' rs /\
    K (.osl o size (off+1) (len+Z' src)) (H.set o (.rows size (rs.take (off+1+len)++src))) /\
    ∀o',H o'=none->K (.osl o' size 0 (len+Z' src)) (H.set o' (.rows size ((rs.drop (off+1)).take len++src)))
  |_=>False
def cG(op:POp)(F:PF)(H:PH)(K:R_):Prop:=
 match op with
 | .store n p x=>match p.ev F,x.ev F with
  |some a,some v=>Z' v.cells=n/\∃H',storeAt H a v.cells=some H'/\K .junk H'
  |_,_=>False
 | .append size bytes x y=>match x.ev F,y.ev F with
  |some a,some b=>kM H size bytes a b K
  |_,_=>False
 | .aoV sh x k v=>match x.ev F,k.ev F,v.ev F with
  |some (.map o),some l,some u=>match H o,keyOf sh l with
   |some (.map i g),some e=>i=sh/\K .junk (H.set o (.map sh (g.upd e u)))
   |_,_=>False
  |_,_,_=>False
 | .insert sh x k v=>match x.ev F,k.ev F,v.ev F with
  |some (.map o),some l,some u=>match H o,keyOf sh l with
   |some (.map i g),some e=>i=sh/\g e=none/\K .junk (H.set o (.map sh (g.upd e u)))
   |_,_=>False
  |_,_,_=>False
 |_=>False
def PV.cZ(o s:Nat)(rs:P2_):PV->PV
 | .osl q s' off len=>if q=o then(if s'=s/\off+len<=rs.length then .sl s ((rs.drop off).take len)else .junk)else .osl q s' off len
 |v=>v
def PV.nF(o s:Nat)(rs:P2_):PV->PV
 | .agg cs=>.agg (cs.map (PV.cZ o s rs))
 |v=>v.cZ o s rs
def PV.frz(o s:Nat)(rs:P2_):PV->PV
 | .tup vs=>.tup (vs.map (PV.nF o s rs))
 |v=>v.nF o s rs
def aR.frz(o s:Nat)(rs:P2_):aR->aR
 | .rows s' rs'=>.rows s' (rs'.map λr=>r.map (PV.cZ o s rs))
 |x=>x
def PF.frz(F:PF)(o s:Nat)(rs:P2_):PF:=λi=>(F i).map (PV.frz o s rs)
def PH.frz(H:PH)(o s:Nat)(rs:P2_):PH:=
 ⟨λq=>if q=o then none else(H q).map (aR.frz o s rs),by
  obtain⟨n,e⟩:=H.fin;exact⟨n,λq hq=>by simp[e q hq]⟩⟩
inductive jJ:PF->PH->K_
 |refl (F:PF) (H:PH):jJ F H F H
 |step {F F':PF} {H H':PH} (o:Nat) {s:Nat} {rs:P2_} (ho:H o=some (.rows s rs)) (h:jJ (F.frz o s rs) (H.frz o s rs) F' H'):jJ F H F' H'
structure Ctx where
 P:Program
 num:Nat->FuncId
inductive fO (E:Env):V_->List Value->Prop
 |nil:fO E [] []
 |cons {p:PV} {v:Value} {ps:V_} {vs:List Value} (h:bB E p v) (t:fO E ps vs):fO E (p::ps) (v::vs)
def aJ(C:Ctx)(name:Nat)(args:V_)(H:PH)(R:R_):Prop:=
 (∃fn,C.P.funcs[C.num name]?=some fn/\fn.body.isSome=true/\(fn.name=="runtime.NumGoroutine")=false) /\
 ∀(E:Env)(w:World)(vs:Array Value),E.num=C.num->bS E H w->fO E args vs.toList ->
  Calls C.P (C.num name) vs w λe l=>∃v pv i H',e=.returned v/\bS i H' l/\bB i pv v/\Ext E H w i H' l/\R pv H'
def LC(C:Ctx)(l:Nat)(args:V_)(H:PH)(R:R_):Prop:=
 ∀(E:Env)(w:World)(vs:Array Value),E.num=C.num->bS E H w->fO E args vs.toList ->
  ∃fn u i body,(Instr.yield l vs).run C.P w=.ok (.round l fn u i body) w/\RoundIn Fence.wide 0 C.P l fn u i body w λe y=>∃v pv x H',e=.returned v/\bS x H' y/\bB x pv v/\Ext E H w x H' y/\R pv H'
def PV.St:PV->O_
 | .lit (.func (.yield l) f c)=>if f=#[]/\c=#[]then some l else none
 |_=>none
abbrev CV(l:Nat):PV:=.lit (.func (.yield l) #[] #[])
inductive lY where
 |normal
 |exit (id:Nat)
 |ret
abbrev bT:=lY->K_
def PF.put(F:PF)(d:O_)(v:PV):PF:=
 match d with
 |some d=>F.set d v
 |none=>F
def wU(r:Option PV)(d:O_)(K:K_)(F:PF)(H:PH):Prop:=∃v,r=some v/\K (F.put d v) H
def oN(r:Option ((Nat->PV) × aR))(d:O_)(K:K_)(F:PF)(H:PH):Prop:=
 ∃e x,r=some (e,x)/\∀o,H o=none->K (F.put d (e o)) (H.set o x)
def qS(H e H':PH):Prop:=∀o x,H' o=some x->e o=none->H o=none
def uW(C:Ctx)(name:Nat)(args:Option V_)(d:O_)(K:K_)(F:PF)(H:PH):Prop:=
 ∃vs e R,args=some vs/\e.le H/\aJ C name vs e R/\∀r H',R r H'->qS H e H'->K (F.put d r) (H.over e H')
def jX(C:Ctx)(name:Nat)(args:List aP)(cs:V_)(d:O_)(K:K_)(F:PF)(H:PH):Prop:=
 uW C name ((aP.evs F args).map (·++cs)) d K F H \/
 ∃e i,jJ F H e i/\uW C name ((aP.evs e args).map (·++cs)) d K e i
def QX(C:Ctx)(l:Nat)(args:Option V_)(d:O_)(K:K_)(F:PF)(H:PH):Prop:=
 ∃vs e R,args=some vs/\e.le H/\LC C l vs e R/\∀r H',R r H'->qS H e H'->K (F.put d r) (H.over e H')
def Iy(C:Ctx)(l:Nat)(args:List aP)(d:O_)(K:K_)(F:PF)(H:PH):Prop:=
 QX C l (aP.evs F args) d K F H\/∃e i,jJ F H e i/\QX C l (aP.evs e args) d K e i
def wD(C:Ctx)(v:Option PV)(args:List aP)(d:O_)(K:K_)(F:PF)(H:PH):Prop:=
 match v with
 |some (.fn name cs)=>jX C name args cs d K F H
 |some (.lit u)=>∃l,PV.St (.lit u)=some l/\Iy C l args d K F H
 |_=>False
def POp.iR:POp->Bool
 | .alloc _ | .box false _ | .aoI false .. | .aoL .. | .apK _=>true
 |_=>false
def POp.eQ:POp->Bool
 | .store .. | .append .. | .aoV .. | .insert ..=>true
 |_=>false
def wpOp(C:Ctx)(op:POp)(d:O_)(K:K_)(F:PF)(H:PH):Prop:=
 match op with
 | .call name args=>jX C name args [] d K F H
 | .apF x args=>wD C (x.ev F) args d K F H
 |op=>if op.iR then oN (cK op F) d K F H else if op.eQ then cG op F H (λr H'=>K (F.put d r) H')else wU (aV op F H) d K F H
def wpOps(C:Ctx):List bQ->(K_)->K_
 |[],K,F,H=>K F H
 |i::rest,K,F,H=>match i.guard with
  |none=>wpOp C i.op i.dst (wpOps C rest K) F H
  |some (t,e)=>match F t with
   |some (.bool b)=>if b=e then wpOp C i.op i.dst (wpOps C rest K) F H else wpOps C rest K (F.put i.dst (.tup [])) H
   |some (.tup [])=>wpOps C rest K (F.put i.dst (.tup [])) H
   |_=>False
def PH.only(H:PH)(D:N_):PH:=
 ⟨λo=>if o∈D then H o else none,by
  obtain⟨n,e⟩:=H.fin;exact⟨n,λo i=>by simp[e o i]⟩⟩
abbrev Spec:=Nat->V_->Option (N_ × (PH->R_))
inductive Kind where
 |fail
 |calm (f:PH->Option PV)
 |new (r:Option ((Nat->PV) × aR))
 |write (w:PH->(R_)->Prop)
 |call (name:Nat) (args:Option V_)
 |ins (r:Option (Nat × MSh × List KS × PV))
noncomputable def POp.kind(op:POp)(F:PF):Kind:=
 match op with
 | .call name args=>.call name (aP.evs F args)
 | .apF x args=>match x.ev F with
  |some (.fn name cs)=>.call name ((aP.evs F args).map (·++cs))
  |_=>.fail
 | .insert sh x k v=>.ins (match x.ev F,k.ev F,v.ev F with
  |some (.map o),some i,some l=>(keyOf sh i).map λe=>(o,sh,e,l)
  |_,_,_=>none)
 |op=>if op.iR then .new (cK op F)else if op.eQ then .write (λH K=>cG op F H K)else .calm (aV op F)
noncomputable def bQ.kind(i:bQ)(F:PF):Kind:=
 match i.guard with
 |none=>i.op.kind F
 |some (t,e)=>match F t with
  |some (.bool b)=>if b=e then i.op.kind F else .calm (λ_=>some (.tup []))
  |some (.tup [])=>.calm (λ_=>some (.tup []))
  |_=>.fail
def Kind.run(C:Ctx)(Hs:PH)(S:Spec)(st:Bool)(k:Kind)(K:R_)(H:PH):Prop:=
 match k with
 | .fail=>False
 | .calm f=>∃v,f (if st then Hs else H)=some v/\K v H
 | .new r=>∃i x,r=some (i,x)/\∀o,H o=none->K (i o) (H.set o x)
 | .write w=>w H λr H'=>Hs.le H'/\K r H'
 | .ins r=>∃o sh e v g,r=some (o,sh,e,v)/\H o=some (.map sh g)/\g e=none/\Hs o=none/\K .junk (H.set o (.map sh (g.upd e v)))
 | .call name args=>∃vs D R,args=some vs/\S name vs=some (D,R)/\(∀o∈D,∃x,H o=some x)/\aJ C name vs (H.only D) (R (H.only D)) /\
   (∀G:PH,∃r H',R (H.only D) r H'/\qS G (H.only D) H') /\
   ∀r H',R (H.only D) r H'->qS H (H.only D) H'->Hs.le (H.over (H.only D) H')/\K r (H.over (H.only D) H')
def wpD(C:Ctx)(Hs:PH)(S:Spec):List (bQ × Bool)->(K_)->K_
 |[],K,F,H=>K F H
 |i::rest,K,F,H=>(i.1.kind F).run C Hs S i.2 (λv H'=>wpD C Hs S rest K (F.put i.1.dst v) H') H
def gH(C:Ctx)(w:bT->K_)(K:bT):bT
 | .normal,F,H=>w K F H
 |e,F,H=>K e F H
def fE(id:Nat)(K:bT):bT
 | .exit i,F,H=>if i=id then K .normal F H else K (.exit i) F H
 |e,F,H=>K e F H
def fK{α:Type}(u:α->PF)(Hs:α->PH)(w:α->Prop)(m:α->Nat)(n:Nat)(K:bT):bT
 | .normal,F,H=>∃a i l,jJ F H i l/\w a/\m a<n/\(u a).le i/\(Hs a).le l
 |e,F,H=>K e F H
def aI.wp(C:Ctx):aI->bT->K_
 | .skip,K,F,H=>K .normal F H
 | .region ops,K,F,H=>wpOps C ops (K .normal) F H
 | .draw ops,K,F,H=>∃Hs S,PH.le Hs H/\wpD C Hs S ops (K .normal) F H
 | .seq a b,K,F,H=>a.wp C (gH C (b.wp C) K) F H
 | .cond c a b,K,F,H=>match c.ev F with
  |some (.bool t)=>if t then a.wp C K F H else b.wp C K F H
  |_=>False
 | .block id c,K,F,H=>c.wp C (fE id K) F H
 | .loop c,K,F,H=>∃(α:Type)(e:α->PF)(Hs:α->PH)(i:α->Prop)(m:α->Nat)(l:α)(u:PF)(w:PH),jJ F H u w/\i l/\(e l).le u/\(Hs l).le w /\
   ∀a,i a->c.wp C (fK e Hs i m (m a) K) (e a) (Hs a)
 | .exit id,K,F,H=>K (.exit id) F H
 | .ret,K,F,H=>K .ret F H
def dY.ev(F:PF)(H:PH):dY->Option PV
 | .tmp t=>F t
 | .cell t none=>match F t with
  |some p=>match loadCells H p 1 with
   |some [v]=>some v
   |_=>none
  |none=>none
 | .cell t (some k)=>match F t with
  |some p=>(loadCells H p k).map .agg
  |none=>none
def dY.evs(F:PF)(H:PH):List dY->Option V_
 |[]=>some []
 |r::rs=>match r.ev F H,dY.evs F H rs with
  |some v,some vs=>some (v::vs)
  |_,_=>none
def bO:V_->PV
 |[v]=>v
 |vs=>.tup vs
def aW(res:List dY)(R:R_):bT
 | .exit _,_,_=>False
 |_,F,H=>∃vs,dY.evs F H res=some vs/\∃e i H2,jJ (PF.nil.set 0 (bO vs)) H e i/\H2.le i/\∃v,e 0=some v/\R v H2
def PF.args(vs:V_):PF:=λi=>vs[i]?
structure Tbl where
 P:Program
 num:Nat->FuncId
 name:FuncId->O_
 ro:N_:=[]
def ofValue:Value->Option PV
 | .int k n=>some (.int k n)
 | .bool b=>some (.bool b)
 | .string s=>some (.str s.data.toList)
 | .slice none 0 0=>some .aG
 | .pointer none=>some (.lit (.pointer none))
 | .map none=>some (.lit (.map none))
 | .nilIface=>some (.lit .nilIface)
 | .nilFunc=>some (.lit .nilFunc)
 |_=>none
theorem BL{E:Env}{v:Value}{pv:PV}(h:ofValue v=some pv):bB E pv v:=by
 unfold ofValue at h;split at h<;>cases h
 ·exact .int _ _
 ·exact .bool _
 ·exact .str _
 ·exact .aG
 all_goals exact .lit _
def ofValues:List Value->Option V_
 |[]=>some []
 |v::vs=>match ofValue v,ofValues vs with
  |some p,some ps=>some (p::ps)
  |_,_=>none
namespace Tbl
variable (T:Tbl)
def opd:Operand->Option aP
 | .tmp t=>some (.tmp t)
 | .const v=>(ofValue v).map .const
 | .func f=>match T.name f with
  |some n=>if T.num n=f then some (.const (.fn n []))else none
  |none=>none
 | .global _=>none
def dz:List Operand->Option (List aP)
 |[]=>some []
 |x::xs=>match T.opd x,dz xs with
  |some p,some ps=>some (p::ps)
  |_,_=>none
def size(t:TypeId):O_:=(T.P.info? t).map (·.size)
def isAgg(t:TypeId):Option Bool:=
 match T.P.underlying t with
 |some (.struct _)|some (.array _ _)=>some true
 |some _=>some false
 |none=>none
def zero(t:TypeId):Option V_:=((T.P.info? t).bind (·.zero)).bind λz=>ofValues z.cells.toList
def scalar(t:TypeId):Option Sc:=
 match T.P.underlying t with
 |some (.int _)=>some .int
 |some .bool=>some .bool
 |some .string=>some .str
 |_=>none
def xI:Nat->List Field->Option (List Sc)
 |_,[]=>some []
 |k,f::e=>match T.scalar f.type,xI (k+1) e with
  |some c,some cs=>if f.name≠"_"/\f.offset=k then some (c::cs)else none
  |_,_=>none
def flat(t:TypeId):Option (List Sc):=
 match T.P.underlying t with
 |some (.struct e)=>if T.P.stoodInHeld t=false/\T.P.eqGuardType T.P.depth t=false then T.xI 0 e.toList else none
 |_=>none
def FA(t:TypeId):Option KSh:=
 match T.P.underlying t with
 |some (.int k)=>some (.int k)
 |some .bool=>some .bool
 |some .string=>some .str
 |_=>none
def oP:Nat->List Field->Option (List KSh)
 |_,[]=>some []
 |k,f::e=>match T.FA f.type,oP (k+1) e with
  |some c,some cs=>if f.name≠"_"/\f.offset=k then some (c::cs)else none
  |_,_=>none
def pF(t:TypeId):Option MSh:=
 match T.P.underlying t with
 |some (.struct e)=>if T.P.stoodInHeld t=false then(T.oP 0 e.toList).map λl=>(true,l)else none
 |_=>(T.FA t).map λc=>(false,[c])
def opt(x:Option Operand):Option (Option aP):=
 match x with
 |none=>some none
 |some x=>(T.opd x).map some
def place(e:Array Field)(i:Nat):Option (Nat × Nat):=
 match e[i]? with
 |some f=>(T.size f.type).map (f.offset,·)
 |none=>none
def partsOf(place:Nat->Option (Nat × Nat)):List (Nat × Operand)->Option (List (Nat × Nat × aP))
 |[]=>some []
 |(i,x)::rest=>match place i,T.opd x,partsOf place rest with
  |some (off,size),some p,some ps=>some ((off,size,p)::ps)
  |_,_,_=>none
def yB:List (Nat × Operand)->Option (List (Nat × aP))
 |[]=>some []
 |(i,x)::rest=>match T.opd x,yB rest with
  |some p,some ps=>some ((i,p)::ps)
  |_,_=>none
def qz(d:Option Tmp):Bool:=
 match d with
 |some d=>T.ro.contains d
 |none=>false
def call(o:Oper)(c:Call):Option POp:=
 match c.callee with
 | .builtin b=>match b,c.args.toList,c.argTypes.toList with
  | .len,[x],[t]=>match T.P.underlying t with
   |some (.array n _)=>some (.mv (.const (.int .i64 n)))
   |some .string=>(T.opd x).map .apD
   |some (.slice _)=>(T.opd x).map .len
   |some (.map _ _)=>(T.opd x).map .lenM
   |_=>none
  | .append,[x,y],[t,u]=>match T.P.underlying t,T.P.underlying u with
   |some (.slice e),some (.slice _)=>match T.P.info? e,T.opd x,T.opd y with
    |some i,some a,some b=>if t=u/\i.zero.isSome/\(i.zero.map (·.cells.size))=some i.size/\0<i.size then some (.append i.size i.bytes a b)else none
    |_,_,_=>none
   |_,_=>none
  | .cap,[x],[t]=>match T.P.underlying t with
   |some (.slice _)=>(T.opd x).map .apO
   |_=>none
  | .max,[x,y],_=>match T.opd x,T.opd y with
   |some a,some b=>some (.aoY true a b)
   |_,_=>none
  | .min,[x,y],_=>match T.opd x,T.opd y with
   |some a,some b=>some (.aoY false a b)
   |_,_=>none
  |_,_,_=>none
 | .value (.func f)=>match T.name f,T.dz c.args.toList with
  |some n,some xs=>if T.num n=f then some (.call n xs)else none
  |_,_=>none
 | .value (.tmp t)=>(T.dz c.args.toList).map (.apF (.tmp t))
 |_=>none
def op(o:Oper):Option POp:=
 match o.op with
 | .move x | .assign x=>(T.opd x).map .mv
 | .pick c a b=>match T.opd c,T.opd a,T.opd b with
  |some c,some a,some b=>some (.pick c a b)
  |_,_,_=>none
 | .alloc e=>(T.zero e).map .alloc
 | .box _ x=>(T.opd x).map (.box (T.qz o.dst))
 | .build t parts=>match T.zero t,T.P.underlying t with
  |some z,some (.struct A)=>if(A.toList.mapM (λf=>(T.P.info? f.type).map λi=>(f.offset,i.size))).isSome then
    (T.partsOf (T.place A) parts.toList).map (.build z)
   else none
  |some z,some (.array _ e)=>match T.size e with
   |some s=>(T.partsOf (λi=>some (i*s,s)) parts.toList).map (.build z)
   |none=>none
  |_,_=>none
 | .buildSlice t len parts=>match T.P.underlying t with
  |some (.slice e)=>match T.size e,T.zero e,T.yB parts.toList with
   |some s,some z,some ps=>if z.length=s/\0<s then some (.aoI (T.qz o.dst) s len z ps)else none
   |_,_,_=>none
  |_=>none
 | .load t a=>match T.isAgg t,T.size t,T.opd a with
  |some true,some n,some p=>some (.load (some n) p)
  |some false,_,some p=>some (.load none p)
  |_,_,_=>none
 | .store t a x=>match T.size t,T.opd a,T.opd x with
  |some n,some p,some v=>some (.store n p v)
  |_,_,_=>none
 | .nilCheck x=>(T.opd x).map .aoQ
 | .binOp b t x y _=>match T.opd x,T.opd y with
  |some p,some q=>match b with
   | .eql=>match T.P.underlying t with
    |some (.int _)|some .string=>some (.bin .eql p q)
    |some .bool=>some (.eqb false p q)
    |some (.struct _)=>(T.flat t).map λD=>.eqs false D p q
    |some (.slice _)=>match q with
     | .const .aG=>some (.isNil false p)
     |_=>none
    |_=>none
   | .neq=>match T.P.underlying t with
    |some (.int _)|some .string=>some (.bin .neq p q)
    |some .bool=>some (.eqb true p q)
    |some (.struct _)=>(T.flat t).map λD=>.eqs true D p q
    |some (.slice _)=>match q with
     | .const .aG=>some (.isNil true p)
     |_=>none
    |_=>none
   |b=>some (.bin b p q)
  |_,_=>none
 | .unOp u _ x=>(T.opd x).map (.un u)
 | .convert s d x=>match T.P.underlying s,T.P.underlying d,T.opd x with
  |some (.int _),some (.int k),some p=>some (.conv k p)
  |some .string,some .string,some p=>some (.same p)
  |some (.slice e),some .string,some p=>match T.P.underlying e with
   |some (.int .u8)=>some (.aoR p)
   |_=>none
  |_,_,_=>none
 | .makeFunc (.func f) first captured=>match T.name f,T.dz captured.toList with
  |some n,some cs=>if T.num n=f/\first.size=0 then some (.mkfn n cs)else none
  |_,_=>none
 | .makeMap t none=>match T.P.underlying t with
  |some (.map k _)=>(T.pF k).map .apK
  |_=>none
 | .lookup t x k ok=>match T.P.underlying t with
  |some (.map B E)=>match T.pF B,(T.P.info? E).bind (·.zero),T.opd x,T.opd k with
   |some sh,some z,some p,some q=>(ofValue z).map λz=>.lookup sh z p q ok
   |_,_,_,_=>none
  |_=>none
 | .mapUpdate t x k v=>match T.P.underlying t with
  |some (.map B _)=>match T.pF B,T.opd x,T.opd k,T.opd v with
   |some sh,some p,some q,some r=>some (.aoV sh p q r)
   |_,_,_,_=>none
  |_=>none
 | .insert t x k v=>match T.P.underlying t with
  |some (.map B _)=>match T.pF B,T.opd x,T.opd k,T.opd v with
   |some sh,some p,some q,some r=>some (.insert sh p q r)
   |_,_,_,_=>none
  |_=>none
 | .makeSlice t l c=>match T.P.underlying t with
  |some (.slice e)=>match T.P.info? e,T.zero e,T.opd l,T.opd c with
   |some i,some z,some a,some b=>if z.length=i.size/\0<i.size then some (.aoL i.size i.bytes z a b)else none
   |_,_,_,_=>none
  |_=>none
 | .slice t x lo hi mx=>match T.P.underlying t,T.opd x,T.opt lo,T.opt hi,T.opt mx with
  |some (.slice e),some p,some l,some h,some m=>if mx.isSome=true/\hi.isNone=true then none else(T.size e).map λs=>.slice s p l h m
  |some .string,some p,some l,some h,some none=>some (.apA p l h)
  |some (.array n e),some p,some none,some none,some none=>(T.size e).map λs=>.sliceA n s p none none none
  |_,_,_,_,_=>none
 | .fieldAddr t x f=>match T.P.underlying t,T.opd x with
  |some (.struct A),some p=>match A[f]? with
   |some w=>match T.size w.type with
    |some (_+1)=>some (.apG w.offset p)
    |_=>none
   |none=>none
  |_,_=>none
 | .field t x f=>match T.P.underlying t,T.opd x with
  |some (.struct A),some p=>match A[f]? with
   |some w=>match T.isAgg w.type,T.size w.type with
    |some true,some n=>some (.field w.offset (some n) p)
    |some false,_=>some (.field w.offset none p)
    |_,_=>none
   |none=>none
  |_,_=>none
 | .indexAddr t x i=>match T.P.underlying t,T.opd x,T.opd i with
  |some (.slice e),some p,some q=>(T.size e).map λs=>.aoU s p q
  |some (.array n e),some p,some q=>(T.size e).map λs=>.idxA n s p q
  |_,_,_=>none
 | .index t x i=>match T.P.underlying t,T.opd x,T.opd i with
  |some (.array n e),some p,some q=>match T.size e,T.isAgg e with
   |some s,some g=>some (.idxV n s g p q)
   |_,_=>none
  |some .string,some p,some q=>some (.apE p q)
  |_,_,_=>none
 | .extract x i=>(T.opd x).map (.extract · i)
 | .call c=>T.call o c
 |_=>none
def WW(n:Nat)(ops:Array Oper)(o:Oper):Option bQ:=
 let p:=(T.op o).getD .stuck
 if o.dst.all (·<n)then
  match o.guard with
  |none=>some ⟨o.dst,p,none⟩
  |some (j,e)=>match(ops[j]?).bind (·.dst)with
   |some t=>some ⟨o.dst,p,some (t,e)⟩
   |none=>none
 else none
def wQ(n:Nat)(ops:Array Oper):List Oper->Option (List bQ)
 |[]=>some []
 |o::os=>match T.WW n ops o,wQ n ops os with
  |some i,some e=>some (i::e)
  |_,_=>none
end Tbl
end Go.PM
namespace Go.PM
open Go
structure eP(ds:List Deferred)(n:Nat)(E:Env)(F:PF)(a:Act):Prop where
 size:a.tmps.size=n
 defers:a.defers=ds
 t:∀i pv,F i=some pv->bB E pv (a.tmps.getD i undef)
theorem eP.mono{ds:List Deferred}{n:Nat}{E e:Env}(h:E.le e){F:PF}{a:Act}(r:eP ds n E F a):eP ds n e F a:=⟨r.size,r.defers,λi pv hi=>(r.t i pv hi).mono h⟩
theorem eP.weaken{ds:List Deferred}{n:Nat}{E:Env}{F e:PF}{a:Act}(r:eP ds n E F a)(h:e.le F):eP ds n E e a:=⟨r.size,r.defers,λi pv hi=>r.t i pv (h i pv hi)⟩
theorem eP.put{ds:List Deferred}{n:Nat}{E:Env}{F:PF}{a:Act}(r:eP ds n E F a){d:Option Tmp}(u:d.all (·<n)=true){pv:PV}{v:Value}(h:bB E pv v):eP ds n E (F.put d pv) (a.put d v):=by
 cases d with
 |none=>exact r
 |some d=>
  have l:d<n:=by simpa using u
  refine⟨by simp[Act.put,r.size],by simp[Act.put,r.defers],λi x hi=>?_⟩;simp only[PF.put,PF.set,upd]at hi;split at hi;rename_i e;subst e;cases hi;simp only[Act.put,auE];rw[Array.getElem?_setIfInBounds];simp[r.size,l,h];rename_i e;have:=r.t i x hi;simp only[Act.put,auE]at this ⊢;rw[Array.getElem?_setIfInBounds,aC Om];exact this
section
variable {ds:List Deferred} {T:Tbl} {n:Nat} {E:Env} {F:PF} {H:PH} {a:Act} {w:World}
theorem bH{x:Operand}{p:aP}{pv:PV}(e:T.opd x=some p)(i:p.ev F=some pv)(l:eP ds n E F a)(u:E.num=T.num):bB E pv (a.eval x):=by
 cases x with
 |tmp t =>simp[Tbl.opd]at e;subst e;exact l.t t pv i
 |const v =>simp only[Tbl.opd,aqB]at e;obtain⟨q,hq,rfl⟩:=e;simp[aP.ev]at i;subst i;exact BL hq
 |global g=>simp[Tbl.opd]at e
 |func f =>simp only[Tbl.opd]at e;split at e;rename_i m A;split at e;rename_i y;cases e;simp[aP.ev]at i;subst i;have:=bB.fn (E:=E) (name:=m) (captured:=[]) #[] rfl (by intro j pv v h;simp at h);rw[u,y]at this;exact this;cases e;cases e
theorem EG{xs:List Operand}:∀{ps:List aP}{e:V_},T.dz xs=some ps->aP.evs F ps=some e->eP ds n E F a->E.num=T.num->fO E e (xs.map a.eval):=by
 induction xs with
 |nil =>intro ps e i l _ _;simp[Tbl.dz]at i;subst i;simp[aP.evs]at l;subst l;exact .nil
 |cons x xs J =>intro ps e i l A B;simp only[Tbl.dz]at i;split at i;rename_i p K hp u;cases i;simp only[aP.evs]at l;split at l;rename_i v vs D y;cases l;exact .cons (bH hp D A B) (J u y A B);cases l;cases i
theorem bS.Gw(hW:bS E H w){b off:Nat}{u:Value}(h:E.cell b off=some u):w.cell? ⟨b,off,none⟩=some u:=by
 unfold Env.cell at h;cases e:E.G b with
 |none=>simp[e]at h
 |some cs =>obtain⟨-,ty,fr,i⟩:=hW.g b cs e;rw[cell_of_row w b off cs ty fr i];simpa[e]using h
theorem add_plain(b off i:Nat):(⟨b,off,none⟩:Addr).add i=⟨b,off+i,none⟩:=by unfold Addr.add;split<;>simp_all
theorem rZ{e:Addr}(h:e.spot=none):e=⟨e.block,e.off,none⟩:=by cases e;simp_all
theorem tP{pv:PV}{v:Value}(hW:bS E H w)(X:bB E pv v){k:Nat}{cs:V_}(h:loadCells H pv k=some cs) :
  ∃b off,v=.pointer (some ⟨b,off,none⟩)/\Z' cs=k/\∃K:List Value,Z' K=k/\(∀u∈K,u.oneCell'=true) /\
   (∀(j:Nat) u,K[j]?=some u->w.cell? ⟨b,off+j,none⟩=some u)/\∀(j:Nat) q u,cs[j]?=some q->K[j]?=some u->bB E q u:=by
 unfold loadCells at h;split at h;rename_i o size i c;cases X;split at h;rename_i s rs ho;split at h;rename_i hs;subst hs;split at h;rename_i r N;split at h;rename_i α;cases h;obtain⟨-,B,ty,hh,γ,W,V,L⟩:=hW.h o _ ho;have J:∀j,j<k->∃u,B[i*s+(c+j)]?=some u/\u.oneCell'=true/\bB E (r.getD (c+j) .junk) u:=by intro j U;refine L i (c+j) _ ?_;simp only[at2,N,atO,apY];rw[apZ Om];rfl
 refine⟨o,i*s+c,rfl,by simp;omega,?_⟩;refine⟨(apQ k).map λj=>(B[i*s+(c+j)]?).getD undef,by simp,?_,?_,?_⟩;intro u y;simp only[aqJ,aqN]at y;obtain⟨j,U,rfl⟩:=y;obtain⟨u,D,Y,-⟩:=J j U;simp[D,Y];intro j u y;simp only[aqE,aqB]at y;obtain⟨R,e,rfl⟩:=y;have l:j<k:=by
  rcases aqW j k with h|h
  exact h;rw[arC (by simpa using h)]at e;cases e
 rw[arU l]at e;cases e;obtain⟨u,D,-,-⟩:=J j l;rw[cell_of_row w o _ B ty (0,0) hh,atA,D];rfl;intro j q u hq y;simp only[aqE,aqB]at y;obtain⟨R,e,rfl⟩:=y;have l:j<k:=by
  rcases aqW j k with h|h
  exact h;rw[arC (by simpa using h)]at e;cases e
 rw[arU l]at e;cases e;obtain⟨u,D,-,Z⟩:=J j l;have M:r.getD (c+j) .junk=q:=by rw[atJ,aE l,atI]at hq;simp[hq]
 rw[<-M,D];exact Z;cases h;cases h;cases h;cases h
 ·rename_i cells;cases X with
  |aU u O L D N=>
  rename_i S;split at h;rename_i β;cases h;refine⟨S.block,S.off,by rw[<-rZ O],by simp;omega,(apQ k).map u,by simp,?_,?_,?_⟩;intro x A;simp only[aqJ]at A;obtain⟨j,-,rfl⟩:=A;exact D j;intro j x A;simp only[aqE,aqB]at A;obtain⟨R,e,rfl⟩:=A;have l:j<k:=by
   rcases aqW j k with h|h
   exact h;rw[arC (by simpa using h)]at e;cases e
  rw[arU l]at e;cases e;exact hW.Gw (L j _ (apZ Om));intro j q x hq A;simp only[aqE,aqB]at A;obtain⟨R,e,rfl⟩:=A;have l:j<k:=by
   rcases aqW j k with h|h
   exact h;rw[arC (by simpa using h)]at e;cases e
  rw[arU l]at e;cases e;rw[atJ,aE l]at hq;exact N j q hq;cases h
 cases h
theorem N0 {op : BinOp} {px py pv : PV} {x y : Value} (hx : bB E px x) (hy : bB E py y) (h : PV.bin op px py = some pv) (t : TypeId) (ox oy : Operand) :
    ∃ v, (do eqGuard op t ox oy x y; binOp op t x y : Sem Value).run T.P w = .ok v w /\ bB E pv v := by
  unfold PV.bin at h;split at h
  · cases hx; cases hy
    unfold shift at h;split at h
    · cases h
    · rename_i hb
      cases h;exact ⟨_, by simp [eqGuard, binOp, Op.shift, hb], .int _ _⟩
  · cases hx; cases hy
    unfold shift at h;split at h
    · cases h
    · rename_i hb
      cases h;exact ⟨_, by simp [eqGuard, binOp, Op.shift, hb], .int _ _⟩
  · rename_i op' k a k' b n1 n2
    cases hx; cases hy;split at h
    · rename_i hk
      subst hk;cases op <;> simp only [oY] at h <;>
        first
          | (cases h; refine ⟨_, ?_, bB.int _ _⟩; simp [eqGuard, binOp, Op.intArith, Op.intBits]; done)
          | (cases h; refine ⟨_, ?_, bB.bool _⟩; simp [eqGuard, binOp, Op.intCmp]; done)
          | (split at h
             · cases h
             · rename_i hb
               cases h;refine ⟨_, ?_, bB.int _ _⟩;simp [eqGuard, binOp, Op.intDiv, hb])
          | cases h
    · cases h
  · rename_i op' a b
    cases hx with
    | str s =>
    cases hy with
    | str s' =>
    cases op <;> simp only [LG] at h <;>
      first
        | (cases h; refine ⟨_, ?_, bB.bool _⟩; simp [eqGuard, binOp, Op.stringOp, ByteArray.toList_eq]; done)
        | (split at h
           · cases h
           · rename_i hb
             cases h;refine ⟨.string (s ++ s'), ?_, ?_⟩
             · have hb' : ¬ (((s.size + s'.size : Nat) : Int) > IntKind.i64.max) := by
                 intro hh;apply hb;have e1 : s.data.toList.length = s.size := by rw [atD]; rfl
                 have e2 : s'.data.toList.length = s'.size := by rw [atD]; rfl
                 rw [e1, e2];exact hh
               have e1 : Op.stringOp .add s s' = pure (.string (s ++ s')) := by unfold Op.stringOp; exact aC hb'
               have e2 : binOp .add t (.string s) (.string s') = pure (.string (s ++ s')) := by unfold binOp; exact e1
               simp [eqGuard, e2]
             · have e : s.data.toList ++ s'.data.toList = (s ++ s').data.toList := by rw [ByteArray.data_append, Array.toList_append]
               rw [e];exact .str _)
        | cases h
  · cases h
theorem Xj{u:UnOp}{i pv:PV}{x:Value}(e:bB E i x)(h:PV.un u i=some pv):∃v,(Op.unary u x).run T.P w=.ok v w/\bB E pv v:=by
 unfold PV.un at h;split at h;cases e;split at h;cases h;exact⟨_,by simp[Op.unary,Op.intArith],.int _ _⟩;cases h;exact⟨_,by simp[Op.unary,Op.intBits],.int _ _⟩;cases h;cases e;split at h;cases h;exact⟨_,by simp[Op.unary],.bool _⟩;cases h;cases h
end
open Go Go.RowKit
def Yields(P:Program)(E:Env)(H:PH)(w:World)(s:Sem Value)(pv:PV):Prop:=
 ∃v i e,s.run P w=.ok v i/\bB e pv v/\bS e H i/\Ext E H w e H i
theorem Yields.same{P:Program}{E:Env}{H:PH}{w:World}{s:Sem Value}{pv:PV}{v:Value}(hW:bS E H w)(h:s.run P w=.ok v w)(r:bB E pv v):Yields P E H w s pv:=
 ⟨v,w,E,h,r,hW,.refl E H w⟩
def Env.add(E:Env)(b:Nat)(cs:Array Value):Env:=⟨upd E.G b (some cs),upd E.sz b (some cs.size),E.num⟩
section
variable {T:Tbl} {n:Nat} {E:Env} {F:PF} {H:PH} {a:Act} {w:World}
theorem bS.J7(hW:bS E H w){b:Nat}{cs:Array Value}(h:E.G b=some cs):b<w.heap.size:=by
 obtain⟨-,ty,fr,e⟩:=hW.g b cs h;exact(atC.1 e).1
theorem bS.Dl(hW:bS E H w){b n:Nat}(h:E.sz b=some n):b<w.heap.size:=by
 obtain⟨e,ty,fr,i,-⟩:=hW.s b n h;exact(atC.1 i).1
theorem bS.Kk(hW:bS E H w):H w.heap.size=none:=by
 cases h:H w.heap.size with
 |none=>rfl
 |some x=>have:=(hW.h _ x h).1;omega
theorem Env.aeJ(hW:bS E H w)(cs:Array Value):E.le (E.add w.heap.size cs):=by
 refine⟨λb ds h=>?_,λb m h=>?_,rfl⟩;have:=hW.J7 h;simp only[Env.add];rw[VS _ _ Om];exact h;have:=hW.Dl h;simp only[Env.add];rw[VS _ _ Om];exact h
theorem bS.Yc(hW:bS E H w)(cs:Array Value)(ty:TypeId):bS (E.add w.heap.size cs) H (w.alloc (.cells cs ty))/\Ext E H w (E.add w.heap.size cs) H (w.alloc (.cells cs ty)):=by
 have y:=Env.aeJ hW cs;refine⟨⟨λb ds h=>?_,λo x h=>?_,λo m h=>?_⟩,⟨y,rfl,rfl,rfl,by simp,λb hb _=>Below.heap_alloc w _ b hb,λo x h=>.inl ⟨x,h⟩,λb ds h=>?_⟩⟩;simp only[Env.add,upd]at h;split at h;rename_i e;cases h;subst e;exact⟨λx B=>by(rw[hW.Kk]at B;cases B),ty,(0,0),heap_alloc_new w _⟩;obtain⟨l,i,fr,u⟩:=hW.g b ds h;exact⟨l,i,fr,(Below.heap_alloc w _ b (hW.J7 h)).trans u⟩;obtain⟨l,u⟩:=hW.h o x h;exact⟨by simp;omega,u.mono y (Below.heap_alloc w _ o l)⟩;simp only[Env.add,upd]at h;split at h;rename_i e;cases h;subst e;exact⟨cs,ty,(0,0),heap_alloc_new w _,rfl⟩;obtain⟨A,i,fr,l,u⟩:=hW.s o m h;exact⟨A,i,fr,(Below.heap_alloc w _ o (hW.Dl h)).trans l,u⟩;simp only[Env.add,upd]at h;split at h;rename_i e;exact .inr (.inr Om);exact .inl h
theorem Lj{pv:PV}{v:Value}(h:bB E pv v)(e:pv.one=true):v.oneCell'=true:=by
 cases h with
 |lit v=>cases v<;>first|rfl|(simp[PV.one]at e)
 |junk v=>simp[PV.one]at e
 |agg vs=>simp[PV.one]at e
 |tup vs=>simp[PV.one]at e
 |_=>rfl
theorem BV{pv:PV}{v:Value}(h:bB E pv v)(l:pv.cells.all PV.one=true) :
  v.cells.size=Z' pv.cells/\(∀u∈v.cells.toList,u.oneCell'=true)/\∀(j:Nat) q u,pv.cells[j]?=some q->v.cells[j]?=some u->bB E q u:=by
 by_cases e:∃cs,pv=.agg cs
 ·obtain⟨cs,rfl⟩:=e;cases h with
  |agg vs A i B=>exact⟨A,i,B⟩
 ·have y:pv.cells=[pv]:=by cases pv<;>first|rfl|(exact absurd ⟨_,rfl⟩ e)
  rw[y]at l ⊢;have i:v.oneCell'=true:=Lj h (by simpa using l);have D:v.cells=#[v]:=by cases v<;>first|rfl|(simp[Value.oneCell']at i)
  rw[D];refine⟨rfl,by simpa using i,λj q u hq x=>?_⟩;cases j with
  |zero=>simp at hq x;subst hq;subst x;exact h
  |succ j=>simp at hq
theorem tq{c:Sc}{p q:PV}{x y:Value}(u:bB E p x)(A:bB E q y){b:Bool}(h:PV.eq1 c p q=some b){t:TypeId}(i:T.scalar t=some c)(d:Nat) :
  (Op.equalIn (d+1) t x y).run T.P w=.ok b w:=by
 unfold Tbl.scalar at i;unfold PV.eq1 at h;split at h;cases u;cases A;split at h;rename_i e;subst e;cases h;split at i<;>cases i;rename_i B l;exact run_equalIn_int w d t _ B _ _ l;cases h;cases u;cases A;cases h;split at i<;>cases i;rename_i l;exact run_equalIn_bool w d t _ _ l
 ·cases u with
  |str s=>
  cases A with
  |str s'=>
  cases h;split at i<;>cases i;rename_i l;rw[run_equalIn_string w d t s s' l,ByteArray.toList_eq,ByteArray.toList_eq]
 cases h
theorem PB{t:TypeId}{c:Sc}(i:T.scalar t=some c)(cs:Array Value)(k:Nat)(v:Value)(l:cs[k]?=some v):(part t cs k).run T.P w=.ok v w:=by
 have e:(isAgg t).run T.P w=.ok false w:=by unfold Tbl.scalar at i;split at i<;>cases i<;>(rename_i u;simp[isAgg,run_underlying u])
 simp[part,e,l]
theorem TD(d:Nat)(vs i:Array Value):∀(l:List Field)(B:List Sc)(k:Nat)(xs ys:V_)(b:Bool),T.xI k l=some B->PV.eqs B xs ys=some b ->
  (∀(j:Nat) q u,xs[j]?=some q->vs[k+j]?=some u->bB E q u)->(∀(j:Nat) q u,ys[j]?=some q->i[k+j]?=some u->bB E q u) ->
  vs.size=k+Z' xs->i.size=k+Z' ys->(Op.eqFields (d+1) vs i l).run T.P w=.ok b w
 |[],B,k,xs,ys,b,e,he,K,L,M,N=>by simp[Tbl.xI]at e;subst e;cases xs<;>cases ys<;>simp[PV.eqs]at he;subst he;simp[Op.eqFields]
 |f::l,B,k,xs,ys,b,e,he,K,L,M,N=>by
  simp only[Tbl.xI]at e;split at e;rename_i c cs A J;split at e
  ·rename_i O;cases e;cases xs with
   |nil=>simp[PV.eqs]at he
   |cons x xs=>
   cases ys with
   |nil=>simp[PV.eqs]at he
   |cons y ys=>
   simp only[PV.eqs]at he;simp only[aqV]at M N;have V:vs[k]?=some vs[k]:=atP Om;have U:i[k]?=some i[k]:=atP Om;have R:bB E x vs[k]:=K 0 x _ rfl aX;have S:bB E y i[k]:=L 0 y _ rfl aX;simp only[Op.eqFields];rw[aE O.1];simp only[Sem.run_bind,O.2,PB A vs k _ V,PB A i k _ U,Result.andThen_ok];split at he;rename_i D;rw[tq R S D A d];simp only[Result.andThen_ok,aqC,arO,if_false];refine TD d vs i l cs (k+1) xs ys b J he (λj q u a c=>K (j+1) q u (by simpa using a) (by rw[<-c];congr 1;omega)) (λj q u a c=>L (j+1) q u (by simpa using a) (by rw[<-c];congr 1;omega)) Om Om;rename_i D;rw[tq R S D A d];simp only[Result.andThen_ok,aqI,if_true,Sem.run_pure];split at he;cases he;rfl;cases he;cases he
  cases e;cases e
theorem Ou(neg:Bool)(a b:Bool){t:TypeId}(i l:Operand)(e:T.P.underlying t=some .bool) :
  (do eqGuard (if neg then .neq else .eql) t i l (.bool a) (.bool b);binOp (if neg then .neq else .eql) t (.bool a) (.bool b):Sem Value).run T.P w=.ok (.bool ((a==b) != neg)) w:=by
 cases neg;simp[eqGuard,run_eql_bool w t a b e];simp[eqGuard,run_neq_bool w t a b e]
theorem Fb(neg:Bool){pv:PV}{v:Value}(J:bB E pv v){b:Bool}(hb:pv.sW=some b){t e:TypeId}(x y:Operand)(u:T.P.underlying t=some (.slice e)) :
  (do eqGuard (if neg then .neq else .eql) t x y v (.slice none 0 0);binOp (if neg then .neq else .eql) t v (.slice none 0 0):Sem Value).run T.P w=.ok (.bool (b != neg)) w:=by
 have i:∀(a:Option Addr)(l c:Nat),b=a.isNone->v=.slice a l c->(do eqGuard (if neg then .neq else .eql) t x y v (.slice none 0 0);binOp (if neg then .neq else .eql) t v (.slice none 0 0):Sem Value).run T.P w=.ok (.bool (b != neg)) w:=by intro a l c A B;subst A B;cases neg;simp only[arO,if_false,binOp];simp[eqGuard,run_equal_slice_nil w t e a l c u];simp only[if_true,binOp];simp[eqGuard,run_equal_slice_nil w t e a l c u]
 cases J<;>simp only[PV.sW]at hb<;>try cases hb
 exact i _ _ _ rfl rfl
 ·rename_i rows _ _ _ _ _ _ D _ _;cases rows with
  |nil=>cases hb
  |cons r rs =>cases hb;obtain⟨K,rfl,-⟩:=D aX;exact i _ _ _ rfl rfl
 exact i _ _ _ rfl rfl
theorem Jy(neg:Bool){K:List Sc}{xs ys:V_}{x y:Value}(V:bB E (.agg xs) x)(W:bB E (.agg ys) y){b:Bool}(hb:PV.eqs K xs ys=some b){t:TypeId}(L M:Operand)
  (e:T.flat t=some K):(do eqGuard (if neg then .neq else .eql) t L M x y;binOp (if neg then .neq else .eql) t x y:Sem Value).run T.P w=.ok (.bool (b != neg)) w:=by
 cases V with
 |agg vs R X U=>
 cases W with
 |agg l D S J=>
 unfold Tbl.flat at e;split at e;rename_i N O;split at e;rename_i B;have i:T.P.fieldsOf t=N:=by simp[Program.fieldsOf,O]
 have he:=TD (w:=w) 9998 vs l N.toList K 0 xs ys b e hb (λj q u a c=>U j q u a (by simpa using c)) (λj q u a c=>J j q u a (by simpa using c)) (by simpa using R) (by simpa using D);have A:=run_equalIn_struct w 9999 t vs l (by rw[i];exact O) B.1;rw[i,he]at A;cases neg;simp[run_eqGuard_agg w .eql t L M vs l B.2,run_eql_struct,A];simp[run_eqGuard_agg w .neq t L M vs l B.2,run_neq_struct,A];cases e;cases e
end
open Go Go.RowKit
def qZ(E:Env)(cs:V_)(vs:Array Value):Prop:=
 vs.size=Z' cs/\(∀v∈vs.toList,v.oneCell'=true)/\∀(j:Nat) pv v,cs[j]?=some pv->vs[j]?=some v->bB E pv v
def ge(vs:Array Value)(c:Nat):List Value->Array Value
 |[]=>vs
 |u::e=>ge (vs.setIfInBounds c u) (c+1) e
theorem PW(off:Nat):∀(e:List Value)(k:Nat)(vs:Array Value),(e.zipIdx k).foldl (λcs (x:Value × Nat)=>cs.setIfInBounds (off+x.2) x.1) vs=ge vs (off+k) e
 |[],_,_=>rfl
 |u::e,k,vs=>by simp only[List.zipIdx_cons,List.foldl_cons,ge];rw[PW off e (k+1)];rfl
theorem JD:∀(ps:V_)(c:Nat)(r:V_),(setCells r c ps).length=Z' r
 |[],_,_=>rfl
 |p::ps,c,r=>by simp[setCells,JD ps]
theorem qZ.amQ{E:Env}{cs:V_}{vs:Array Value}(h:qZ E cs vs){c:Nat}{p:PV}{u:Value}(r:bB E p u)(l:u.oneCell'=true):qZ E (cs.set c p) (vs.setIfInBounds c u):=by
 obtain⟨x,y,A⟩:=h;refine⟨by simp[x],λv i=>?_,λj pv v hp i=>?_⟩;simp only[Array.toList_setIfInBounds]at i;rcases auB i with i|rfl
 exact y v i;exact l;rw[asX]at hp;rw[Array.getElem?_setIfInBounds]at i;split at hp;rename_i e;subst e;rw[aE rfl]at i;split at hp;rename_i B;rw[aE Om]at i;cases hp;cases i;exact r;cases hp;rename_i e;rw[aC e]at i;exact A j pv v hp i
theorem qZ.setCells{E:Env}:∀(ps:V_)(e:List Value)(c:Nat)(cs:V_)(vs:Array Value),qZ E cs vs->Z' e=Z' ps->(∀u∈e,u.oneCell'=true) ->
  (∀(j:Nat) p u,ps[j]?=some p->e[j]?=some u->bB E p u)->qZ E (setCells cs c ps) (ge vs c e)
 |[],[],_,_,_,h,_,_,_=>h
 |p::ps,u::e,c,cs,vs,h,i,l,y=>by simp only[PM.setCells,ge];exact qZ.setCells ps e (c+1) _ _ (h.amQ (y 0 p u rfl rfl) (l u aX)) (by simpa using i) (λx A=>l x (by simp[A])) (λj q x a b=>y (j+1) q x (by simpa using a) (by simpa using b))
 |[],u::e,_,_,_,_,i,_,_=>by simp at i
 |p::ps,[],_,_,_,_,i,_,_=>by simp at i
theorem UE{E:Env}:∀{vs:List Value}{ps:V_},ofValues vs=some ps->Z' ps=Z' vs/\∀(j:Nat) p v,ps[j]?=some p->vs[j]?=some v->bB E p v
 |[],ps,h=>by simp[ofValues]at h;subst h;simp
 |v::vs,ps,h=>by
  simp only[ofValues]at h;split at h
  ·rename_i p l hp hq;cases h;obtain⟨e,i⟩:=UE (E:=E) hq;refine⟨by simp[e],λj q u a b=>?_⟩;cases j with
   |zero=>simp at a b;subst a;subst b;exact BL hp
   |succ j=>exact i j q u (by simpa using a) (by simpa using b)
  cases h
theorem UD:∀{vs:List Value}{ps:V_},ofValues vs=some ps->∀v∈vs,v.oneCell'=true
 |[],_,_,v,hv=>by simp at hv
 |u::vs,ps,h,v,hv=>by
  simp only[ofValues]at h;split at h;rename_i p e hp hq;rcases aqG.1 hv with rfl|hv
  unfold ofValue at hp;split at hp<;>first|rfl|cases hp
  exact UD hq v hv;cases h
section
variable {ds:List Deferred} {T:Tbl} {n:Nat} {E:Env} {F:PF} {H:PH} {a:Act} {w:World}
theorem QZ{t:TypeId}{z:V_}(h:T.zero t=some z):∃i e,T.P.info? t=some i/\i.zero=some e/\qZ E z e.cells:=by
 unfold Tbl.zero at h;cases hi:T.P.info? t with
 |none=>simp[hi]at h
 |some i=>
  cases l:i.zero with
  |none=>simp[hi,l]at h
  |some e =>simp only[hi,l,atO]at h;obtain⟨u,x⟩:=UE (E:=E) h;exact⟨i,e,rfl,l,by simpa using u.symm,UD h,λj p v a b=>x j p v a (by simpa using b)⟩
theorem NI{place:Nat->Option (Nat × Nat)}(J:eP ds n E F a)(K:E.num=T.num):∀(parts:List (Nat × Operand)) (pl:List (Nat × Nat × aP)) (cs out:V_) (vs:Array Value),
  T.partsOf place parts=some pl->pZ cs F pl=some out->qZ E cs vs->∃A,Instr.fill place vs (parts.map λ(i,x)=>(i,a.eval x))=some A/\qZ E out A
 |[],pl,cs,out,vs,l,e,y=>by simp[Tbl.partsOf]at l;subst l;simp[pZ]at e;subst e;exact⟨vs,rfl,y⟩
 |(i,x)::rest,pl,cs,out,vs,l,e,y=>by
  simp only[Tbl.partsOf]at l;split at l;rename_i off size p ps hp S B;cases l;simp only[pZ]at e;split at e;rename_i v R;split at e;rename_i N;obtain⟨D,L,M⟩:=BV (bH S R J K) N.2.2;obtain⟨A,g1,g2⟩:=NI J K rest ps _ out _ B e (qZ.setCells v.cells (a.eval x).cells.toList off cs vs y (by simpa using D) L (λj q u hq O=>M j q u hq (by simpa using O)));refine⟨A,?_,g2⟩;simp only[aqQ,Instr.fill,hp];rw[aC (by simp;rw[D,y.1];omega)];have U:Array.foldl (λ(cs:Array Value)(x:Value × Nat)=>cs.setIfInBounds (off+x.2) x.1) vs (a.eval x).cells.zipIdx=ge vs off (a.eval x).cells.toList:=by rw[<-Array.foldl_toList,Array.toList_zipIdx];exact PW off _ 0 vs
  exact U ▸ g1;cases e;cases e;cases l
theorem C1(u:Array Field)(e:List (Nat × Nat))(h:u.toList.mapM (λf=>(T.P.info? f.type).map λi=>(f.offset,i.size))=some e)(i:Nat) :
  e[i]?=T.place u i:=by
 have x:∀(l:List Field)(ps:List (Nat × Nat)) (i:Nat),l.mapM (λf=>(T.P.info? f.type).map λi=>(f.offset,i.size))=some ps ->
   ps[i]?=match l[i]? with|some f=>(T.size f.type).map (f.offset,·)|none=>none:=by
  intro l
  induction l with
  |nil=>intro ps i h;simp at h;subst h;simp
  |cons f l y=>
   intro ps i h;simp only[List.mapM_cons,Option.bind_eq_bind,Option.pure_def,atV]at h;obtain⟨p,hp,A,hq,h⟩:=h;cases h;cases i with
   |zero =>simp only[List.getElem?_cons_zero,Tbl.size];rw[<-hp];cases T.P.info? f.type<;>rfl
   |succ i=>simpa using y A i hq
 have:=x u.toList e i h;rw[this,Array.getElem?_toList];unfold Tbl.place;cases u[i]?<;>rfl
end
open Go Go.RowKit
section
variable {ds:List Deferred} {T:Tbl} {n:Nat} {E:Env} {F:PF} {H:PH} {a:Act} {w:World}
theorem XZ{t:TypeId}{parts:Array (Nat × Operand)}{z:V_}{pl:List (Nat × Nat × aP)}{out:V_}(X:T.zero t=some z)
  (hp:(∃D:Array Field,T.P.underlying t=some (.struct D)/\(D.toList.mapM (λf=>(T.P.info? f.type).map λi=>(f.offset,i.size))).isSome=true/\T.partsOf (T.place D) parts.toList=some pl) \/
   (∃k e s,T.P.underlying t=some (.array k e)/\T.size e=some s/\T.partsOf (λi=>some (i*s,s)) parts.toList=some pl))
  (V:pZ z F pl=some out) (S:eP ds n E F a) (U:E.num=T.num) :
  ∃v,(Instr.build t (parts.map λ(i,x)=>(i,a.eval x))).run T.P w=.ok v w/\bB E (.agg out) v:=by
 obtain⟨Z,zv,J,K,M⟩:=QZ (E:=E) X;rcases hp with⟨D,R,W,A⟩|⟨k,e,s,R,hs,A⟩
 obtain⟨l,L⟩:=Option.isSome_iff_exists.1 W;obtain⟨B,N,u⟩:=NI S U _ _ _ _ _ A V M;refine⟨.agg B,run_build w t _ B ?_,.agg B u.1 u.2.1 u.2.2⟩;simp only[Program.built,J,R,K,L];have O:(λ(x:Nat)=>l.toArray[x]?)=T.place D:=by funext i;rw[List.getElem?_toArray];exact C1 D l L i
 simp only[Array.toList_map];rw[O];exact N
 ·obtain⟨B,N,u⟩:=NI S U _ _ _ _ _ A V M;refine⟨.agg B,run_build w t _ B ?_,.agg B u.1 u.2.1 u.2.2⟩;unfold Tbl.size at hs;cases y:T.P.info? e with
  |none=>simp[y]at hs
  |some Y =>simp[y]at hs;subst hs;simp only[Program.built,J,R,K,y,Array.toList_map];exact N
theorem vu{t:TypeId}{s:Nat}(h:T.size t=some s):∃i,T.P.info? t=some i/\i.size=s:=by
 unfold Tbl.size at h;cases hi:T.P.info? t with
 |none=>simp[hi]at h
 |some i=>exact⟨i,rfl,by simpa[hi]using h⟩
theorem lI{t:TypeId}{s:Nat}(h:T.size t=some s):(sizeOf t).run T.P w=.ok s w:=by
 obtain⟨i,hi,rfl⟩:=vu h;simp[sizeOf,typeInfo,hi]
theorem EI{t:TypeId}{b:Bool}(h:T.isAgg t=some b):(isAgg t).run T.P w=.ok b w:=by
 unfold Tbl.isAgg at h;split at h;rename_i e;cases h;simp[isAgg,run_underlying e];rename_i e;cases h;simp[isAgg,run_underlying e];rename_i d i l e;cases h;cases d<;>first
  |exact(i _ rfl).elim
  |exact(l _ _ rfl).elim
  |(simp[isAgg,run_underlying e];done)
 cases h
theorem k6{t:TypeId}{pv e:PV}{v:Value}(y:T.isAgg t=some false)(hW:bS E H w)(A:bB E pv v)(h:loadCells H pv 1=some [e]) :
  ∃u,(Instr.loadAt t v).run T.P w=.ok u w/\bB E e u:=by
 obtain⟨b,off,rfl,-,B,l,D,i,x⟩:=tP hW A h
 match B,l with
 |[u],_ =>refine⟨u,?_,x 0 e u rfl rfl⟩;have:=i 0 u rfl;simp only[arG]at this;simp[Instr.loadAt,Instr.sureAddr,loadVar,EI y,this]
theorem YT{t:TypeId}{k:Nat}{pv:PV}{cs:V_}{v:Value}(K:T.isAgg t=some true)(J:T.size t=some k)(hW:bS E H w)(L:bB E pv v)(h:loadCells H pv k=some cs) :
  ∃u,(Instr.loadAt t v).run T.P w=.ok u w/\bB E (.agg cs) u:=by
 obtain⟨b,off,rfl,i,x,y,A,B,D⟩:=tP hW L h;have e:=run_loadCells_list (P:=T.P) w ⟨b,off,none⟩ x (λj u l=>by rw[add_plain];exact B j u l);refine⟨.agg x.toArray,?_,.agg x.toArray (by simp[y,i]) (by simpa using A) (λj q u hq l=>D j q u hq (by simpa using l))⟩;rw[y]at e;simp[Instr.loadAt,Instr.sureAddr,loadVar,EI K,lI J,e]
end
open Go Go.RowKit
section
variable {ds:List Deferred} {T:Tbl} {n:Nat} {E:Env} {F:PF} {H:PH} {a:Act} {w:World}
theorem jt{t e:TypeId}(h:T.P.underlying t=some (.slice e)):T.P.elem t=e/\T.P.underlying t=some (.slice (T.P.elem t)):=by
 have:T.P.elem t=e:=by simp[Program.elem,h]
 exact⟨this,by rw[this];exact h⟩
theorem Jx{t e:TypeId}{k:Nat}(h:T.P.underlying t=some (.array k e)):T.P.elem t=e/\T.P.arrayLen t=k/\T.P.underlying t=some (.array (T.P.arrayLen t) (T.P.elem t)):=by
 have i:T.P.elem t=e:=by simp[Program.elem,h]
 have l:T.P.arrayLen t=k:=by simp[Program.arrayLen,h]
 exact⟨i,l,by rw[i,l];exact h⟩
theorem vp{cs:V_}{b off:Nat}(h:bB E (.aU cs) (.pointer (some ⟨b,off,none⟩)))(d:Nat):bB E (.aU (cs.drop d)) (.pointer (some ⟨b,off+d,none⟩)):=by
 cases h with
 |aU u x i e l =>refine .aU (λj=>u (d+j)) rfl (λj pv hp=>?_) (λj=>e _) (λj pv hp=>l (d+j) pv (by rw[<-hp,atI]));have:=i (d+j) pv (by rw[<-hp,atI]);simp only at this ⊢;rw[<-this];congr 1;omega
theorem UT{cs:V_}{v:Value}(h:bB E (.aU cs) v):∃b off,v=.pointer (some ⟨b,off,none⟩):=by
 cases h with
 |aU u e x l y=>rename_i i;exact⟨i.block,i.off,by rw[<-rZ e]⟩
theorem Z9{t e:TypeId}{s:Nat}{rows:P2_}{v:Value}{k:IntKind}{i:Int}{r:V_}(U:T.P.underlying t=some (.slice e))(S:T.size e=some s)
  (V:bB E (.sl s rows) v) (K:0<=i) (x:rows[i.toNat]?=some r):∃u,(Instr.indexAt t v (.int k i)).run T.P w=.ok u w/\bB E (.aU r) u:=by
 obtain⟨L,M⟩:=jt U;cases V with
 |sl u B D J N R l=>
 rename_i W cap;have hlt:i.toNat<Z' rows:=by
  rcases aqW i.toNat rows.length with h|h
  exact h;rw[arC h]at x;cases x
 obtain⟨A,rfl,y,O⟩:=N (by intro h;subst h;simp at hlt);rw[rZ y];refine⟨.pointer (some ⟨A.block,A.off+i.toNat*s,none⟩),?_,?_⟩;rw[run_indexAt_slice w t _ _ _ _ _ M,aE ⟨K,by omega⟩,L,lI S,Result.andThen_ok,add_plain];refine .aU (u i.toNat) rfl (λj pv hp=>?_) (λj=>R _ _) (λj pv hp=>l i.toNat j pv (by simp[at2,x,hp]));simpa using O i.toNat j pv (by simp[at2,x,hp])
theorem Un{t e:TypeId}{o s off len:Nat}{v:Value}{k:IntKind}{i:Int}(R:T.P.underlying t=some (.slice e))(N:T.size e=some s)
  (S:bB E (.osl o s off len) v) (K:0<=i) (hi:i<len):∃u,(Instr.indexAt t v (.int k i)).run T.P w=.ok u w/\bB E (.ptr o s (off+i.toNat) 0) u:=by
 obtain⟨L,M⟩:=jt R;cases S with
 |osl hb O l D J U B=>
 rename_i cap m x;have A:x.off=off*s:=by
  rcases l with h|h
  omega;exact h
 have y:x=⟨o,off*s,none⟩:=by cases x;simp_all
 subst y;refine⟨_,?_,.ptr o s _ 0⟩;rw[run_indexAt_slice w t _ _ _ _ _ M,aE ⟨K,hi⟩,L,lI N,Result.andThen_ok,add_plain,<-arJ,arG]
theorem kk{t e:TypeId}{k s:Nat}{v:Value}{M:IntKind}{i:Int}{y pv:PV}(L:T.P.underlying t=some (.array k e))(K:T.size e=some s)
  (x:bB E y v) (A:0<=i) (hi:i<k) (l:(∃o s0 r c,y=.ptr o s0 r c/\pv=.ptr o s0 r (c+i.toNat*s))\/(∃cs,y=.aU cs/\pv=.aU (cs.drop (i.toNat*s)))) :
  ∃u,(Instr.indexAt t v (.int M i)).run T.P w=.ok u w/\bB E pv u:=by
 obtain⟨B,D,J⟩:=Jx L;rcases l with⟨o,s0,r,c,rfl,rfl⟩|⟨cs,rfl,rfl⟩
 cases x;refine⟨_,?_,.ptr o s0 r _⟩;rw[run_indexAt_array w t _ _ _ J,D,aE ⟨A,hi⟩,B,lI K,Result.andThen_ok,add_plain,atA];obtain⟨b,off,rfl⟩:=UT x;refine⟨_,?_,vp x _⟩;rw[run_indexAt_array w t _ _ _ J,D,aE ⟨A,hi⟩,B,lI K,Result.andThen_ok,add_plain]
theorem TG{t:TypeId}{y:Array Field}{f:Nat}{e:Field}{s:Nat}{v:Value}{x pv:PV}(D:T.P.underlying t=some (.struct y))(A:y[f]?=some e)(B:T.size e.type=some (s+1))
  (l:bB E x v) (i:(∃o s0 r c,x=.ptr o s0 r c/\pv=.ptr o s0 r (c+e.offset))\/(∃cs,x=.aU cs/\pv=.aU (cs.drop e.offset))) :
  ∃u,(Instr.fieldAt t v f).run T.P w=.ok u w/\bB E pv u:=by
 rcases i with⟨o,s0,r,c,rfl,rfl⟩|⟨cs,rfl,rfl⟩
 cases l;refine⟨_,?_,.ptr o s0 r _⟩;simp[Instr.fieldAt,run_underlying D,A,Instr.sureAddr,fieldPlace,lI B,add_plain,atA];obtain⟨b,off,rfl⟩:=UT l;refine⟨_,?_,vp l _⟩;simp[Instr.fieldAt,run_underlying D,A,Instr.sureAddr,fieldPlace,lI B,add_plain]
theorem Cz{t:TypeId}{cs:Array Value}{k:Nat}{u:Value}(e:T.isAgg t=some false)(h:cs[k]?=some u):(part t cs k).run T.P w=.ok u w:=by
 simp[part,EI e,h]
theorem u5{t:TypeId}{cs:Array Value}{k s:Nat}(i:T.isAgg t=some true)(e:T.size t=some s):(part t cs k).run T.P w=.ok (.agg (cs.extract k (k+s))) w:=by
 simp[part,EI i,lI e]
theorem zt{cs:V_}{vs:Array Value}{k:Nat}{pv:PV}(i:vs.size=Z' cs)(e:∀(j:Nat) pv v,cs[j]?=some pv->vs[j]?=some v->bB E pv v)(h:cs[k]?=some pv) :
  ∃u,vs[k]?=some u/\bB E pv u:=by
 have hlt:k<Z' cs:=by
  rcases aqW k cs.length with h'|h'
  exact h';rw[arC h']at h;cases h
 exact⟨vs[k]'Om,atP Om,e k pv _ h (atP Om)⟩
theorem zu{cs:V_}{vs:Array Value}{k s:Nat}(x:vs.size=Z' cs)(i:∀v∈vs.toList,v.oneCell'=true)(l:∀(j:Nat) pv v,cs[j]?=some pv->vs[j]?=some v->bB E pv v)(h:k+s<=Z' cs) :
  bB E (.agg ((cs.drop k).take s)) (.agg (vs.extract k (k+s))):=by
 refine .agg _ (by simp;omega) (λv e=>i v ?_) (λj pv v hp e=>?_);simp only[Array.toList_extract]at e;exact List.mem_of_mem_drop (auA e);rw[atJ]at hp;split at hp;rename_i u;rw[atI]at hp;refine l (k+j) pv v hp ?_;rw[Array.getElem?_extract]at e;split at e;exact e;cases e;cases hp
theorem Oy{t:TypeId}{l:Array Field}{f:Nat}{e:Field}{cs:V_}{v:Value}{pv:PV}(D:T.P.underlying t=some (.struct l))(x:l[f]?=some e)(y:T.isAgg e.type=some false)
  (K:bB E (.agg cs) v) (h:cs[e.offset]?=some pv):∃u,(Instr.field t v f).run T.P w=.ok u w/\bB E pv u:=by
 cases K with
 |agg vs A L B=>
 obtain⟨u,J,i⟩:=zt A B h;exact⟨u,by simp[Instr.field,run_underlying D,x,asAgg,Cz y J],i⟩
theorem Jz{t:TypeId}{i:Array Field}{f:Nat}{e:Field}{cs:V_}{s:Nat}{v:Value}(J:T.P.underlying t=some (.struct i))(x:i[f]?=some e)(y:T.isAgg e.type=some true)(D:T.size e.type=some s)
  (K:bB E (.agg cs) v) (h:e.offset+s<=Z' cs):∃u,(Instr.field t v f).run T.P w=.ok u w/\bB E (.agg ((cs.drop e.offset).take s)) u:=by
 cases K with
 |agg vs A l B=>exact⟨_,by simp[Instr.field,run_underlying J,x,asAgg,u5 y D],zu A l B h⟩
theorem Kp{t e:TypeId}{k s:Nat}{g:Bool}{cs:V_}{v:Value}{O:IntKind}{i:Int}{pv:PV}(K:T.P.underlying t=some (.array k e))(y:T.size e=some s)(B:T.isAgg e=some g)
  (N:bB E (.agg cs) v) (A:0<=i) (hi:i<k) (h:(if g then(if i.toNat*s+s<=cs.length then some (.agg ((cs.drop (i.toNat*s)).take s))else none)else cs[i.toNat*s]?)=some pv) :
  ∃u,(Instr.index t v (.int O i)).run T.P w=.ok u w/\bB E pv u:=by
 cases N with
 |agg vs D L J=>
 cases g with
 |true =>simp only[if_true]at h;split at h;rename_i l;cases h;exact⟨_,by simp[Instr.index,asIntOf,run_underlying K,A,hi,lI y,u5 B y],zu D L J l⟩;cases h
 |false =>simp only[arO,if_false]at h;obtain⟨u,M,x⟩:=zt D J h;exact⟨u,by simp[Instr.index,asIntOf,run_underlying K,A,hi,lI y,Cz B M],x⟩
theorem Bi{t:TypeId}{l:List UInt8}{v:Value}{D:IntKind}{i:Int}{pv:PV}(A:T.P.underlying t=some .string)(B:bB E (.str l) v)(y:0<=i)(h:(l[i.toNat]?).map (λb=>PV.int .u8 b.toNat)=some pv) :
  ∃u,(Instr.index t v (.int D i)).run T.P w=.ok u w/\bB E pv u:=by
 cases B with
 |str s=>
 simp only[aqB]at h;obtain⟨b,hb,rfl⟩:=h;have e:s[i.toNat]?=some b:=by
  have hlt:i.toNat<Z' s.data.toList:=by
   rcases aqW i.toNat s.data.toList.length with h'|h'
   exact h';rw[arC h']at hb;cases hb
  have x:i.toNat<s.size:=by
   have J:Z' s.data.toList=s.size:=by rw[atD];rfl
   omega
  rw[getElem?_pos s i.toNat x];rw[apZ hlt]at hb;cases hb;rfl
 exact⟨_,by simp[Instr.index,asIntOf,run_underlying A,y,e],.int _ _⟩
theorem SH{x:Option Operand}{p:Option aP}{d m:Int}(e:T.opt x=some p)(h:bnd F d p=some m)(l:eP ds n E F a)(u:E.num=T.num) :
  (x=none/\m=d)\/∃o k,x=some o/\a.eval o=.int k m:=by
 cases x with
 |none =>simp[Tbl.opt]at e;subst e;simp[bnd]at h;exact .inl ⟨rfl,h.symm⟩
 |some o =>simp only[Tbl.opt,aqB]at e;obtain⟨q,hq,rfl⟩:=e;simp only[bnd,atV]at h;obtain⟨pv,hp,hi⟩:=h;have r:=bH hq hp l u;unfold PV.intOf at hi;split at hi;cases hi;generalize i:a.eval o=ev at r;cases r;exact .inr ⟨o,_,rfl,i⟩;cases hi
theorem nO{isS:Bool}{lo hi mx:Option Operand}{pl ph pm:Option aP}{len cap:Nat}{l h:Int}(O:T.opt lo=some pl)(N:T.opt hi=some ph)(e:T.opt mx=some pm)
  (L:bnd F 0 pl=some l) (K:bnd F len ph=some h) (J:len<=cap) (R:0<=l) (S:l<=h) (U:h<=len) (y:pm=none\/(hi≠none/\bnd F 0 pm=some h)) (i:eP ds n E F a) (u:E.num=T.num) :
  ∃m,(Instr.sliceBounds isS len cap (lo.map a.eval) (hi.map a.eval) (mx.map a.eval)).run T.P w=.ok (l.toNat,h.toNat,m) w/\h.toNat<=m/\m<=cap:=by
 have D:=SH O L i u;have B:=SH N K i u;rcases y with rfl|⟨hne,bm⟩
 have A:mx=none:=by
  cases mx with
  |none=>rfl
  |some x =>simp only[Tbl.opt,aqB]at e;obtain⟨q,-,hq⟩:=e;cases hq
 subst A;refine⟨cap,?_,by omega,apU _⟩;rcases D with⟨rfl,rfl⟩|⟨ol,k1,rfl,e1⟩<;>rcases B with⟨rfl,rfl⟩|⟨oh,k2,rfl,e2⟩
 simp[Instr.sliceBounds];simp only[Instr.sliceBounds,Option.map_none,aqK,e2,Sem.run_bind,Sem.run_pure,Result.andThen_ok,run_sliceBound w k2 h cap _ Om Om];rfl;simp only[Instr.sliceBounds,Option.map_none,aqK,e1,Sem.run_bind,Sem.run_pure,Result.andThen_ok,run_sliceBound w k1 l len _ Om Om];simp;simp only[Instr.sliceBounds,Option.map_none,aqK,e1,e2,Sem.run_bind,Sem.run_pure,Result.andThen_ok,run_sliceBound w k2 h cap _ Om Om,run_sliceBound w k1 l h.toNat _ Om Om];have km:=SH e bm i u;rcases km with⟨rfl,M⟩|⟨om,k3,rfl,e3⟩
 simp[Tbl.opt]at e;subst e;refine⟨cap,?_,by omega,apU _⟩;rcases B with⟨rfl,rfl⟩|⟨oh,k2,rfl,e2⟩
 exact absurd rfl hne;rcases D with⟨rfl,rfl⟩|⟨ol,k1,rfl,e1⟩
 simp only[Instr.sliceBounds,Option.map_none,aqK,e2,Sem.run_bind,Sem.run_pure,Result.andThen_ok,run_sliceBound w k2 h cap _ Om Om];rfl;simp only[Instr.sliceBounds,Option.map_none,aqK,e1,e2,Sem.run_bind,Sem.run_pure,Result.andThen_ok,run_sliceBound w k2 h cap _ Om Om,run_sliceBound w k1 l h.toNat _ Om Om];rcases B with⟨rfl,rfl⟩|⟨oh,k2,rfl,e2⟩
 exact absurd rfl hne;refine⟨h.toNat,?_,apU _,by omega⟩;rcases D with⟨rfl,rfl⟩|⟨ol,k1,rfl,e1⟩
 simp only[Instr.sliceBounds,Option.map_none,aqK,e2,e3,Sem.run_bind,Sem.run_pure,Result.andThen_ok,run_sliceBound w k3 h cap _ Om Om,run_sliceBound w k2 h h.toNat _ Om Om];rfl;simp only[Instr.sliceBounds,Option.map_none,aqK,e1,e2,e3,Sem.run_bind,Sem.run_pure,Result.andThen_ok,run_sliceBound w k3 h cap _ Om Om,run_sliceBound w k2 h h.toNat _ Om Om,run_sliceBound w k1 l h.toNat _ Om Om]
end
open Go Go.RowKit
section
variable {ds:List Deferred} {T:Tbl} {n:Nat} {E:Env} {F:PF} {H:PH} {a:Act} {w:World}
theorem Gt{rows:P2_}{l h i j:Nat}{pv:PV}(e:at2 ((rows.take h).drop l) i j=some pv):at2 rows (l+i) j=some pv:=by
 unfold at2 at *
 rw[atI,atJ]at e;split at e;exact e;simp at e
theorem AV{t e:TypeId}{s l h m len cap:Nat}{i:Option Addr}{lo hi mx:Option Value}(x:T.P.underlying t=some (.slice e))(u:T.size e=some s)
  (hb:(Instr.sliceBounds true len cap lo hi mx).run T.P w=.ok (l,h,m) w) :
  (Instr.sliceAt t (.slice i len cap) lo hi mx).run T.P w=.ok (.slice (if m=l then i else i.map (·.add (l*s))) (h-l) (m-l)) w:=by
 simp[Instr.sliceAt,Instr.slice,run_underlying x,hb,lI u]
theorem KE {t e : TypeId} {s : Nat} {x : Value} {lo hi mx : Option Operand} {pl ph pm : Option aP} {len : Nat} {l h : Int} {px pv : PV} (ht : T.P.underlying t = some (.slice e)) (hs : T.size e = some s)
    (hl : T.opt lo = some pl) (hh : T.opt hi = some ph) (hm : T.opt mx = some pm) (hx : bB E px x) (bl : bnd F 0 pl = some l) (bh : bnd F len ph = some h)
    (hlen : (px = .aG /\ len = 0) \/ (∃ s0 rows, px = .sl s0 rows /\ len = rows.length) \/ (∃ o s0 off, px = .osl o s0 off len))
    (hpv : (pm = none /\ PV.slice s px l h none = some pv) \/ (hi ≠ none /\ ∃ m, bnd F 0 pm = some m /\ PV.slice s px l h (some m) = some pv)) (hA : eP ds n E F a) (hN : E.num = T.num) :
    ∃ v, (Instr.sliceAt t x (lo.map a.eval) (hi.map a.eval) (mx.map a.eval)).run T.P w = .ok v w /\ bB E pv v := by
  have hP : ∃ m0, PV.slice s px l h m0 = some pv /\ (m0 = none -> pm = none) /\ ∀ m, m0 = some m -> hi ≠ none /\ bnd F 0 pm = some m := by
    rcases hpv with ⟨h1, h2⟩ | ⟨h1, m, h2, h3⟩
    · exact ⟨none, h2, fun _ => h1, fun m hm => by cases hm⟩
    · exact ⟨some m, h3, fun h => (by cases h), fun m' hm' => by cases hm'; exact ⟨h1, h2⟩⟩
  obtain ⟨m0, hP, hn, hsm⟩ := hP;rcases hlen with ⟨rfl, rfl⟩ | ⟨s0, rows, rfl, rfl⟩ | ⟨o, s0, off, rfl⟩
  · simp only [PV.slice] at hP
    split at hP
    · rename_i hc
      cases hP;obtain ⟨rfl, rfl, hm0⟩ := hc;cases hx;obtain ⟨m, hb, hm1, hm2⟩ := nO (T := T) (E := E) (w := w) (isS := true) (len := 0) (cap := 0) hl hh hm bl bh (apU _) Om Om Om
        (by rcases hm0 with rfl | rfl
            · exact .inl (hn rfl)
            · exact .inr (hsm 0 rfl)) hA hN
      have hmz : m = 0 := Om;subst hmz;refine ⟨_, AV ht hs hb, ?_⟩;simp;exact .aG
    · cases hP
  · simp only [PV.slice] at hP
    split at hP
    · rename_i hc
      cases hP;obtain ⟨rfl, h0, h1, h2, hm0⟩ := hc;cases hx with
      | sl u hcap apJ aoO ha ho apL =>
      rename_i a0 cap;obtain ⟨m, hb, hm1, hm2⟩ := nO (T := T) (E := E) (w := w) (isS := true) (len := rows.length) (cap := cap) hl hh hm bl bh hcap h0 h1 h2
        (by rcases hm0 with rfl | rfl
            · exact .inl (hn rfl)
            · exact .inr (hsm h rfl)) hA hN
      refine ⟨_, AV ht hs hb, ?_⟩;have hlen : ((rows.take h.toNat).drop l.toNat).length = h.toNat - l.toNat := by rw [arM, aqF]; omega
      rw [<- hlen];refine .sl (fun i j => u (l.toNat + i) j) (by rw [hlen]; omega) Om (fun r hr => aoO r (auA (List.mem_of_mem_drop hr))) (fun hne => ?_) (fun i j => ho _ _) (fun i j pv hp => apL _ _ pv (Gt hp));have hpos : 0 < ((rows.take h.toNat).drop l.toNat).length := List.length_pos_iff.2 hne;rw [hlen] at hpos;obtain ⟨ad, rfl, hsp, hc⟩ := ha (by intro e; subst e; simp at h2; omega);rw [aC Om];refine ⟨⟨ad.block, ad.off + l.toNat * s0, none⟩, ?_, rfl, fun i j pv hp => ?_⟩
      · rw [aqK, rZ hsp, add_plain]
      · have := hc (l.toNat + i) j pv (Gt hp)
        show E.cell ad.block (ad.off + l.toNat * s0 + i * s0 + j) = _;rw [<- this];congr 1;rw [arJ]; omega
    · cases hP
  · simp only [PV.slice] at hP
    split at hP
    · rename_i hc
      cases hP;obtain ⟨rfl, h0, h1, h2, hm0⟩ := hc;cases hx with
      | osl hb0 hsp apM hlen apJ hnn apC =>
      rename_i cap N ad;obtain ⟨m, hb, hm1, hm2⟩ := nO (T := T) (E := E) (w := w) (isS := true) (len := len) (cap := cap) hl hh hm bl bh hlen h0 h1 h2
        (by rcases hm0 with rfl | rfl
            · exact .inl (hn rfl)
            · exact .inr (hsm h rfl)) hA hN
      refine ⟨_, AV ht hs hb, ?_⟩;by_cases hml : m = l.toNat
      · rw [aE hml]
        have e1 : h.toNat - l.toNat = 0 := Om;have e2 : m - l.toNat = 0 := Om;rw [e1, e2];refine .osl hb0 hsp (.inl rfl) (apU _) (by simp [maxLen]) hnn ?_;have : (off + l.toNat) * s0 <= off * s0 + cap * s0 := by rw [arJ]; exact Nat.add_le_add_left (arK _ Om) _
        omega
      · rw [aC hml, aqK, rZ hsp, add_plain]
        refine .osl hb0 rfl ?_ Om Om hnn ?_
        · rcases apM with h | h
          · exact .inl Om
          · exact .inr (by simp only [h, arJ])
        · have : (off + l.toNat) * s0 + (m - l.toNat) * s0 <= off * s0 + cap * s0 := by rw [<- arJ, <- arJ];exact arK _ Om
          omega
    · cases hP
theorem sm{t:TypeId}{x:Value}{lo hi:Option Operand}{pl ph:Option aP}{str:List UInt8}{l h:Int}(R:T.P.underlying t=some .string)
  (M:T.opt lo=some pl) (L:T.opt hi=some ph) (S:bB E (.str str) x) (A:bnd F 0 pl=some l) (u:bnd F str.length ph=some h) (B:0<=l) (D:l<=h) (y:h<=Z' str)
  (J:eP ds n E F a) (K:E.num=T.num) :
  ∃v,(Instr.sliceAt t x (lo.map a.eval) (hi.map a.eval) none).run T.P w=.ok v w/\bB E (.str ((str.take h.toNat).drop l.toNat)) v:=by
 cases S with
 |str s=>
 have i:Z' s.data.toList=s.size:=by rw[atD];rfl
 rw[i]at u y;obtain⟨m,hb,N,O⟩:=nO (T:=T) (E:=E) (w:=w) (isS:=false) (len:=s.size) (cap:=s.size) (mx:=none) (pm:=none) M L rfl A u (apU _) B D y (.inl rfl) J K;simp only[Option.map_none]at hb;refine⟨.string (s.extract l.toNat h.toNat),?_,?_⟩;simp[Instr.sliceAt,Instr.slice,run_underlying R,hb];have e:(s.data.toList.take h.toNat).drop l.toNat=(s.extract l.toNat h.toNat).data.toList:=by rw[Lib.extract_data,List.drop_take]
 rw[e];exact .str _
theorem jd(s:Nat):∀(n:Nat)(cs:V_),(chunks s n cs).length=n
 |0,_=>rfl
 |n+1,cs=>by simp[chunks,jd s n]
theorem je{s:Nat}:∀{n:Nat}{cs:V_},n*s<=Z' cs->∀r∈chunks s n cs,Z' r=s
 |0,_,_,r,hr=>by simp[chunks]at hr
 |n+1,cs,h,r,hr=>by
  rw[arJ,Nat.one_mul]at h;simp only[chunks,aqG]at hr;rcases hr with rfl|hr
  rw[aqF];omega;exact je (by rw[arM];omega) r hr
theorem SP{s:Nat}:∀{n:Nat}{cs:V_}{i j:Nat}{pv:PV},at2 (chunks s n cs) i j=some pv->cs[i*s+j]?=some pv
 |0,_,i,j,pv,h=>by simp[chunks,at2]at h
 |n+1,cs,0,j,pv,h=>by simp only[chunks,at2,List.getElem?_cons_zero,atO,atJ]at h;split at h;rw[Nat.zero_mul,aqA];exact h;cases h
 |n+1,cs,i+1,j,pv,h=>by have:=SP (n:=n) (cs:=cs.drop s) (i:=i) (j:=j) (pv:=pv) (by simpa[chunks,at2]using h);rw[atI]at this;rw[<-this];congr 1;rw[arJ];omega
theorem Dp{t e:TypeId}{k s:Nat}{v:Value}{cs:V_}(W:T.P.underlying t=some (.array k e))(V:T.size e=some s)(X:bB E (.aU cs) v)(N:k*s<=Z' cs)(O:k<=maxLen)(L:eP ds n E F a)(M:E.num=T.num) :
  ∃u,(Instr.sliceAt t v none none none).run T.P w=.ok u w/\bB E (.sl s (chunks s k cs)) u:=by
 obtain⟨m,hb,R,S⟩:=nO (T:=T) (E:=E) (w:=w) (F:=F) (a:=a) (n:=n) (isS:=false) (len:=k) (cap:=k) (lo:=none) (hi:=none) (mx:=none) (pl:=none) (ph:=none) (pm:=none) (l:=0) (h:=(k:Int)) rfl rfl rfl rfl rfl (apU _) Om Om Om (.inl rfl) L M;simp only[Option.map_none,arP,Int.toNat_zero]at hb;have D:m=k:=Om;subst D;cases X with
 |aU u y x K U=>
 rename_i A;refine⟨.slice (some A) m m,?_,?_⟩;have Y:(if m=0 then A else A.add (0*s))=A:=by split;rfl;rw[rZ y,add_plain];simp
 simp[Instr.sliceAt,run_underlying W,Instr.sureAddr,hb,lI V];intro _;rw[rZ y,add_plain];simp;have J:=jd s m cs;have B:bB E (.sl s (chunks s m cs)) (.slice (some A) (chunks s m cs).length m):=by refine .sl (λi j=>u (i*s+j)) (by rw[J];exact apU _) O (je N) (λ_=>⟨A,rfl,y,λi j pv hp=>?_⟩) (λi j=>K _) (λi j pv hp=>U _ pv (SP hp));have:=x (i*s+j) pv (SP hp);rw[<-this];congr 1;omega
 rw[J]at B;exact B
theorem Et{e:TypeId}{x:Value}{l:PV}(hW:bS E H w)(K:bB E l x)(J:l.cells.all PV.one=true):Yields T.P E H w (Instr.box e x) (.aU l.cells):=by
 obtain⟨y,B,D⟩:=BV K J;obtain⟨u,A⟩:=hW.Yc x.cells e;refine⟨.pointer (some ⟨w.heap.size,0,none⟩),_,_,by simp[Instr.box,newVar,newRow],?_,u,A⟩;refine .aU (λj=>if h:j<x.cells.size then x.cells[j]else .int .i64 0) rfl (λj pv hp=>?_) (λj=>?_) (λj pv hp=>?_);have i:j<x.cells.size:=by
  rw[y];rcases aqW j l.cells.length with h'|h'
  exact h';rw[arC h']at hp;cases hp
 simp[Env.cell,Env.add,upd,i];split;rename_i i;exact B _ (Array.getElem_mem_toList i);rfl;have i:j<x.cells.size:=by
  rw[y];rcases aqW j l.cells.length with h'|h'
  exact h';rw[arC h']at hp;cases hp
 rw[dif_pos i];exact(D j pv _ hp (atP i)).mono A.env
end
open Go Go.RowKit
theorem BF{s:Nat}:∀(rows:P2_) (i j:Nat),(∀r∈rows,Z' r=s)->j<s->rows.flatten[i*s+j]?=at2 rows i j
 |[],i,j,_,_=>by simp[at2]
 |r::rows,i,j,h,u=>by
  have l:Z' r=s:=h r aX;rw[atY];cases i with
  |zero =>rw[asE Om];simp[at2]
  |succ i=>
   rw[arS (by rw[l,asL];omega)];have e:(i+1)*s+j-Z' r=i*s+j:=by rw[l,asL];omega
   rw[e,BF rows i j (λr l=>h r (by simp[l])) u];simp[at2]
theorem tH{s:Nat}:∀(rows:P2_),(∀r∈rows,Z' r=s)->Z' rows.flatten=Z' rows*s
 |[],_=>by simp
 |r::rows,h=>by rw[atY,apV,tH rows (λr e=>h r (by simp[e])),h r aX,aqV,asL];omega
theorem yI:∀(ps:V_)(x y:V_)(c:Nat),setCells (x++y) (Z' x+c) ps=x++setCells y c ps
 |[],x,y,c=>rfl
 |p::ps,x,y,c=>by simp only[setCells];rw[asY _ _ Om,Nat.add_sub_cancel_left];exact yI ps x _ (c+1)
theorem zV:∀(ps:V_)(x y:V_)(c:Nat),c+Z' ps<=Z' x->setCells (x++y) c ps=setCells x c ps++y
 |[],x,y,c,_=>rfl
 |p::ps,x,y,c,h=>by simp only[aqV]at h;simp only[setCells];rw[List.set_append_left _ _ Om];exact zV ps _ y (c+1) (by rw[arD];omega)
theorem MF:∀(ps x:V_)(z:V_),Z' x=Z' ps->setCells (z++x) z.length ps=z++ps
 |[],x,z,h=>by have:x=[]:=auF (by simpa using h);subst this;rfl
 |p::ps,[],z,h=>by simp at h
 |p::ps,y::x,z,h=>by simp only[setCells];rw[asY _ _ (apU _),asA,asT];have:=MF ps x (z++[p]) (by simpa using h);simp only[apV,aqV,asG,aqT,asV,atL]at this;simpa using this
theorem YO{s:Nat}(ps:V_)(e:Z' ps=s):∀(rows:P2_) (i:Nat),(∀r∈rows,Z' r=s)->i<Z' rows->(rows.set i ps).flatten=setCells rows.flatten (i*s) ps
 |[],i,_,h=>by simp at h
 |r::rows,i,h,hi=>by
  have l:Z' r=s:=h r aX;cases i with
  |zero =>rw[asT,atY,atY,Nat.zero_mul,zV _ _ _ _ Om];have:=MF ps r [] Om;simp only[atL,asG]at this;rw[this]
  |succ i =>rw[List.set_cons_succ,atY,atY,YO ps e rows i (λr l=>h r (by simp[l])) (by simpa using hi)];have:=yI ps r rows.flatten (i*s);rw[<-this,l,asL,Nat.add_comm]
section
variable {ds:List Deferred} {T:Tbl} {n:Nat} {E:Env} {F:PF} {H:PH} {a:Act} {w:World}
theorem LN{s:Nat}(R:eP ds n E F a)(S:E.num=T.num):∀(parts:List (Nat × Operand)) (pl:List (Nat × aP)) (rows out:P2_) (vs:Array Value),
  T.yB parts=some pl->gU s rows F pl=some out->(∀r∈rows,Z' r=s)->qZ E rows.flatten vs ->
  ∃J,Instr.fill (λi=>some (i*s,s)) vs (parts.map λ(i,x)=>(i,a.eval x))=some J/\qZ E out.flatten J/\(∀r∈out,Z' r=s)/\Z' out=Z' rows
 |[],pl,rows,out,vs,l,e,y,D=>by simp[Tbl.yB]at l;subst l;simp[gU]at e;subst e;exact⟨vs,rfl,D,y,rfl⟩
 |(i,x)::rest,pl,rows,out,vs,l,e,y,D=>by
  simp only[Tbl.yB]at l;split at l;rename_i p ps Z L;cases l;simp only[gU]at e;split at e;rename_i v Y;split at e;rename_i B;obtain⟨O,U,V⟩:=BV (bH Z Y R S) B.2.2;have K:=YO v.cells B.1 rows i y B.2.1;have A:=qZ.setCells v.cells (a.eval x).cells.toList (i*s) _ vs D (by simpa using O) U (λj q u hq X=>V j q u hq (by simpa using X));rw[<-K]at A;obtain⟨J,g1,g2,g3,g4⟩:=LN R S rest ps _ out _ L e (λr M=>by
   rcases auB M with M|rfl
   exact y r M;exact B.1) A
  refine⟨J,?_,g2,g3,by simpa using g4⟩;simp only[aqQ,Instr.fill];have N:vs.size=Z' rows*s:=by rw[D.1,tH rows y]
  have W:i*s+s<=Z' rows*s:=by have:(i+1)*s<=Z' rows*s:=arK _ B.2.1;rw[asL]at this;exact this
  rw[aC (by simp;rw[O,N];omega)];have hz:Array.foldl (λ(cs:Array Value)(x:Value × Nat)=>cs.setIfInBounds (i*s+x.2) x.1) vs (a.eval x).cells.zipIdx=ge vs (i*s) (a.eval x).cells.toList:=by rw[<-Array.foldl_toList,Array.toList_zipIdx];exact PW (i*s) _ 0 vs
  exact hz ▸ g1;cases e;cases e;cases l
theorem qZ.Yv{z:V_}{y:Array Value}{s len:Nat}(h:qZ E z y)(K:Z' z=s)(J:0<s) :
  qZ E (apX len z).flatten ((Array.range (len*s)).map (y[·%y.size]!)):=by
 have u:∀r∈apX len z,Z' r=s:=λr L=>by rw[(List.mem_replicate.1 L).2];exact K
 have l:y.size=s:=by rw[h.1,K]
 refine⟨by rw[tH _ u];simp,λv x=>?_,λk pv v hp x=>?_⟩;simp only[Array.toList_map,aqJ]at x;obtain⟨k,-,rfl⟩:=x;have D:k%y.size<y.size:=Nat.mod_lt _ Om;rw[getElem!_pos y _ D];exact h.2.1 _ (Array.getElem_mem_toList D);have B:k<len*s:=by
  rcases aqW k (len*s)with h'|h'
  exact h';rw[Array.getElem?_eq_none (by simpa using h')]at x;cases x
 have i:k%s<s:=Nat.mod_lt _ J;have A:k/s<len:=(auD J).2 B;have D:k/s*s+k%s=k:=by rw[arW];exact Nat.div_add_mod k s
 have e:=BF (apX len z) (k/s) (k%s) u i;rw[D]at e;rw[e]at hp;simp only[at2,List.getElem?_replicate,A,if_true,atO]at hp;simp only[Array.getElem?_map,Array.getElem?_range,B,if_true,aqK]at x;rw[getElem!_pos y _ (by rw[l];exact i)]at x;cases x;refine h.2.2 (k%s) pv _ (by simpa only [l]using hp) ?_;simp only[l];exact atP (by rw[l];exact i)
theorem SM{t e:TypeId}{s len:Nat}{z:V_}{parts:Array (Nat × Operand)}{pl:List (Nat × aP)}{out:P2_}(Y:T.P.underlying t=some (.slice e))(X:T.size e=some s)(hz:T.zero e=some z)
  (L:Z' z=s) (V:0<s) (l:T.yB parts.toList=some pl) (α:len*s<=16777216) (A:gU s (apX len z) F pl=some out) (Z:eP ds n E F a) (hN:E.num=T.num) :
  ∃B,(Instr.buildSlice t len (parts.map λ(i,x)=>(i,a.eval x))).run T.P w=.ok (.slice (some ⟨w.heap.size,0,none⟩) len len) (w.alloc (.cells B e))/\qZ E out.flatten B/\(∀r∈out,Z' r=s)/\Z' out=len:=by
 obtain⟨i,zv,hi,M,U⟩:=QZ (E:=E) hz;obtain⟨i',J,u⟩:=vu X;rw[hi]at J;cases J;have D:∀r∈apX len z,Z' r=s:=λr hr=>by rw[(List.mem_replicate.1 hr).2];exact L
 obtain⟨B,g1,g2,g3,g4⟩:=LN Z hN parts.toList pl _ out _ l A D (U.Yv (len:=len) L V);rw[List.length_replicate]at g4;refine⟨B,?_,g2,g3,g4⟩;by_cases N:len=0;subst N;have K:parts.toList=[]:=by
  cases R:parts.toList with
  |nil=>rfl
  |cons x rest =>rw[R]at l;obtain⟨i,y⟩:=x;simp only[Tbl.yB]at l;split at l;cases l;simp only[gU]at A;split at A;split at A;rename_i hc;simp at hc;cases A;cases A;cases l
 rw[K]at g1;simp only[arL,Instr.fill,Nat.zero_mul]at g1;have:B=#[]:=by have W:=g2.1;rw[tH out g3,g4,Nat.zero_mul]at W;exact Array.eq_empty_of_size_eq_zero W
 subst this;have O:parts=#[]:=by apply Array.ext';simpa using K
 subst O;have S:Array.range 0=#[]:=by apply Array.ext';simp
 simp[Instr.buildSlice,run_underlying Y,lI X,Instr.fill,newRow,S];refine run_buildSlice w t e len _ B i zv Y hi M (by rw[u];omega) (by rw[u];exact Nat.ne_of_gt (Nat.mul_pos Om V)) ?_;rw[u,Array.toList_map];exact g1
theorem ql{t e:TypeId}{s len:Nat}{z:V_}{parts:Array (Nat × Operand)}{pl:List (Nat × aP)}{out:P2_}(Z:T.P.underlying t=some (.slice e))(Y:T.size e=some s)(hz:T.zero e=some z)
  (O:Z' z=s) (R:0<s) (N:T.yB parts.toList=some pl) (M:len*s<=16777216) (X:gU s (apX len z) F pl=some out) (U:eP ds n E F a) (V:E.num=T.num) (hW:bS E H w) :
  Yields T.P E H w (Instr.buildSlice t len (parts.map λ(i,x)=>(i,a.eval x))) (.sl s out):=by
 obtain⟨A,D,L,u,y⟩:=SM (w:=w) Z Y hz O R N M X U V;obtain⟨K,S⟩:=hW.Yc A e;refine⟨_,_,_,D,?_,K,S⟩;rw[<-y];have W:∀i j pv,at2 out i j=some pv->j<s:=λi j pv hp=>by
  unfold at2 at hp;cases B:out[i]? with
  |none=>simp[B]at hp
  |some r=>
   rw[B,atO]at hp;have:=u r (asC B);rcases aqW j r.length with h'|h'
   omega;rw[arC h']at hp;cases hp
 have l:∀i j pv,at2 out i j=some pv->∃h:i*s+j<A.size,bB E pv A[i*s+j]:=λi j pv hp=>by
  have J:=BF out i j u (W i j pv hp);rw[hp]at J;have hlt:i*s+j<A.size:=by
   rw[L.1];rcases aqW (i*s+j) out.flatten.length with h'|h'
   exact h';rw[arC h']at J;cases J
  exact⟨hlt,L.2.2 _ pv _ J (atP hlt)⟩
 refine .sl (λi j=>if h:i*s+j<A.size then A[i*s+j]else .int .i64 0) (apU _) ?_ u (λ_=>⟨_,rfl,rfl,λi j pv hp=>?_⟩) (λi j=>?_) (λi j pv hp=>?_);have:Z' out*1<=Z' out*s:=atM _ R;simp only[maxLen];rw[y]at this ⊢;omega;obtain⟨hlt,-⟩:=l i j pv hp;simp[Env.cell,Env.add,upd,hlt];split;rename_i hlt;exact L.2.1 _ (Array.getElem_mem_toList hlt);rfl;obtain⟨hlt,B⟩:=l i j pv hp;rw[dif_pos hlt];exact B.mono S.env
end
open Go Go.RowKit
section
variable {T:Tbl} {n:Nat} {E:Env} {F:PF} {H:PH} {a:Act} {w:World}
theorem ov{s:Nat}{pv:PV}{v:Value}{rows:P2_}(hW:bS E H w)(Y:bB E pv v)(h:dH H s pv=some rows) :
  ∃x cap,v=.slice x rows.length cap/\Z' rows<=cap/\(∀r∈rows,Z' r=s)/\(rows≠[]->∃b off,x=some ⟨b,off,none⟩ /\
   ∀i j q,at2 rows i j=some q->∃u,w.cell? ⟨b,off+(i*s+j),none⟩=some u/\u.oneCell'=true/\bB E q u):=by
 unfold dH at h;split at h;cases h;cases Y;exact⟨none,0,rfl,apU _,by simp,λh=>absurd rfl h⟩;rename_i s0 rs;split at h
 ·rename_i e;subst e;cases h;cases Y with
  |sl u B D l ha S W=>
  rename_i a0 cap;refine⟨a0,cap,rfl,B,l,λA=>?_⟩;obtain⟨x,rfl,K,O⟩:=ha A;refine⟨x.block,x.off,by rw[<-rZ K],λi j q hq=>⟨u i j,?_,S i j,W i j q hq⟩⟩;have:=hW.Gw (O i j q hq);rw[<-this];congr 2;omega
 cases h;rename_i o s0 off len;split at h;rename_i e;subst e;split at h;rename_i s' rs S;split at h
 ·rename_i O;cases h;obtain⟨rfl,β⟩:=O;obtain⟨hlt,L,ty,hh,γ,l,Z,y⟩:=hW.h o _ S;cases Y with
  |osl hb K J R D hn X=>
  rename_i cap N x;have hl:((rs.drop off).take len).length=len:=by rw[aqF,arM];omega
  refine⟨some x,cap,by rw[hl],by omega,λr W=>l r (List.mem_of_mem_drop (auA W)),λA=>?_⟩;have α:0<((rs.drop off).take len).length:=List.length_pos_iff.2 A;have U:x.off=off*s':=by
   rcases J with h|h
   omega;exact h
  have M:x=⟨o,off*s',none⟩:=by cases x;simp_all
  subst M;refine⟨o,off*s',rfl,λi j q hq=>?_⟩;have V:at2 rs (off+i) j=some q:=by unfold at2 at hq ⊢;rw[atJ]at hq;split at hq;rw[atI]at hq;exact hq;simp at hq
  obtain⟨u,h1,h2,h3⟩:=y (off+i) j q V;refine⟨u,?_,h2,h3⟩;rw[cell_of_row w o _ L ty (0,0) hh,<-h1];congr 1;rw[arJ];omega
 cases h;cases h;cases h;cases h
theorem RN:∀{rows:P2_}{l:List UInt8},uB rows=some l->∃ns:I_,rows=ns.map (λn=>[PV.int .u8 n])/\l=ns.map λn=>UInt8.ofNat n.toNat
 |[],l,h=>by simp[uB]at h;exact⟨[],by simp[h]⟩
 |r::rows,l,h=>by unfold uB at h;split at h;exact⟨[],by simp at *⟩;rename_i m rest e;cases e;simp only[aqB]at h;obtain⟨y,i,rfl⟩:=h;obtain⟨ns,u,x⟩:=RN i;exact⟨m::ns,by simp[u],by simp[x]⟩;cases h
theorem i7{src dst e:TypeId}{pv:PV}{v:Value}{rows:P2_}{l:List UInt8}(D:T.P.underlying src=some (.slice e))(he:T.P.underlying e=some (.int .u8))(B:T.P.underlying dst=some .string)
  (hW:bS E H w) (U:bB E pv v) (S:dH H 1 pv=some rows) (hb:uB rows=some l):∃u,(convert src dst v).run T.P w=.ok u w/\bB E (.str l) u:=by
 obtain⟨M,cap,rfl,K,L,y⟩:=ov hW U S;obtain⟨ns,rfl,rfl⟩:=RN hb;by_cases A:ns=[]
 ·subst A;refine⟨.string ByteArray.empty,?_,bB.str ByteArray.empty⟩;cases M with
  |none=>exact run_convert_bytes_nil w src e D he _ _ dst B
  |some x =>rw[run_convert_bytes_string w src dst e _ _ _ D he B];have:=run_bytesToString (P:=T.P) w x 0 cap [] (by simp[Go.loadCells,Go.loadCellsFrom]);simpa using this
 obtain⟨b,off,rfl,O⟩:=y (by simpa using A);have R:(ns.map λn=>[PV.int .u8 n]).length=Z' ns:=by simp
 refine⟨.string (strOfNums ns),?_,?_⟩;rw[R];refine run_convert_bytes_arg w src e D he b off ns.length cap ns rfl (λi hi=>?_) dst B;obtain⟨u,J,V,N⟩:=O i 0 (.int .u8 ns[i]) (by simp[at2,hi]);cases N;simp only[Nat.mul_one,arG]at J;rw[J];simp[List.getD,hi];have:=bB.str (E:=E) (strOfNums ns);rw[strOfNums_data]at this;exact this
theorem fO.len{ps:V_}{vs:List Value}(h:fO E ps vs):Z' vs=Z' ps:=by
 induction h with
 |nil=>rfl
 |cons _ _ e=>simp[e]
theorem fO.at_{ps:V_}{vs:List Value}(h:fO E ps vs):∀(j:Nat) p v,ps[j]?=some p->vs[j]?=some v->bB E p v:=by
 induction h with
 |nil=>intro j p v hp;simp at hp
 |cons h _ i=>
  intro j p v hp e;cases j with
  |zero=>simp at hp e;subst hp;subst e;exact h
  |succ j=>exact i j p v (by simpa using hp) (by simpa using e)
theorem fO.mono{e:Env}(i:E.le e){ps:V_}{vs:List Value}(h:fO E ps vs):fO e ps vs:=by
 induction h with
 |nil=>exact .nil
 |cons h _ l=>exact .cons (h.mono i) l
def POp.sV:POp->Bool
 | .call .. | .apF ..=>true
 |_=>false
theorem yM{P:Program}{o:Oper}{s:Sem Value}{v:Value}{w e:World}(h:execOp a.eval o=(do pure (.value (<-s)):Sem Next))(i:s.run P w=.ok v e):(execOp a.eval o).run P w=.ok (.value v) e:=by
 rw[h];simp[i]
end
open Go Go.RowKit
def KSh.desc:KSh->TypeDesc
 | .int k=>.int k
 | .bool=>.bool
 | .str=>.string
def KSh.sc:KSh->Sc
 | .int _=>.int
 | .bool=>.bool
 | .str=>.str
def KS.pv:KS->PV
 | .int k n=>.int k n
 | .bool b=>.bool b
 | .str s=>.str s
section
variable {T:Tbl} {n:Nat} {E:Env} {F:PF} {H:PH} {a:Act} {w:World}
theorem qj{α:Type}[BEq α][LawfulBEq α][DecidableEq α](a b:α):(a==b)=decide (a=b):=by
 by_cases h:a=b<;>simp[h]
theorem KS.P7{pv:PV}{v:Value}{k:KS}(h:bB E pv v)(e:KS.of pv=some k):v=k.val:=by
 unfold KS.of at e;split at e<;>cases e<;>cases h;rfl;rfl;simp[KS.val]
theorem KS.aeX(k:KS):bB E k.pv k.val:=by
 cases k with
 |int k n=>exact .int k n
 |bool b=>exact .bool b
 |str s =>have:=bB.str (E:=E) ⟨s.toArray⟩;simpa[KS.pv,KS.val]using this
theorem KS.Hr:∀{ps:V_}{i:List KS}{vs:List Value},KS.ofs ps=some i->Z' vs=Z' ps->(∀(j:Nat) p v,ps[j]?=some p->vs[j]?=some v->bB E p v)->vs=i.map KS.val
 |[],i,vs,h,e,_=>by simp[KS.ofs]at h;subst h;simp at e;subst e;rfl
 |p::ps,i,vs,h,e,l=>by
  simp only[KS.ofs]at h;split at h
  ·rename_i k D A B;cases h;cases vs with
   |nil=>simp at e
   |cons v vs =>have e2:=KS.Hr (vs:=vs) B (by simpa using e) λj q u x y=>l (j+1) q u (by simpa using x) (by simpa using y);rw[KS.P7 (l 0 p v rfl rfl) A,e2];rfl
  cases h
theorem uc{sh:MSh}{pv:PV}{v:Value}{k:List KS}(h:bB E pv v)(i:keyOf sh pv=some k):v=jL sh k/\k.map KS.sh=sh.2/\(sh.1=false->∃s,k=[s]):=by
 obtain⟨b,l⟩:=sh;unfold keyOf at i;split at i;rename_i cs hb;simp only at hb;subst hb;simp only[atV]at i;obtain⟨K,A,e⟩:=i;split at e
 ·rename_i he;cases e;cases h with
  |agg vs D B J=>
  refine⟨?_,he,by simp⟩;have:=KS.Hr (vs:=vs.toList) A (by simpa using D) λj p u x y=>J j p u x (by simpa using y);simp only[jL,if_true,Value.agg.injEq];rw[<-this]
 cases e;rename_i v' hb;simp only at hb;subst hb;simp only[atV]at i;obtain⟨s,A,e⟩:=i;split at e;rename_i he;cases e;exact⟨by simp[jL,KS.P7 h A],by simpa using he,λ_=>⟨s,rfl⟩⟩;cases e;cases i
theorem zA{t:TypeId}{s:KSh}(h:T.FA t=some s):T.P.underlying t=some s.desc/\T.scalar t=some s.sc:=by
 unfold Tbl.FA at h;unfold Tbl.scalar;split at h<;>cases h<;>(rename_i e;rw[e];exact⟨rfl,rfl⟩)
theorem Fw{s:KSh}{x y:KS}(i:x.sh=s)(e:y.sh=s):Instr.sameNow s.desc x.val y.val=some (decide (x=y)):=by
 subst i;cases x<;>cases y<;>simp[KS.sh]at e;subst e;simp[KSh.desc,KS.sh,KS.val,Instr.sameNow];exact qj _ _;simp[KSh.desc,KS.sh,KS.val,Instr.sameNow];exact qj _ _;rename_i a b;simp only[KSh.desc,KS.sh,KS.val,Instr.sameNow,asB.injEq,KS.str.injEq];rw[beq_toListBytes,ByteArray.toList_eq,ByteArray.toList_eq];simp;exact qj _ _
theorem ku:∀{e:List Field}{k:Nat}{l:List KSh},T.oP k e=some l->T.xI k e=some (l.map KSh.sc)
 |[],k,l,h=>by simp[Tbl.oP]at h;subst h;rfl
 |f::e,k,l,h=>by simp only[Tbl.oP]at h;split at h;rename_i c cs i u;split at h;rename_i x;cases h;simp only[Tbl.xI,(zA i).2,ku u];rw[aE x];rfl;cases h;cases h
theorem Ov:∀{l:List KSh}{xs ys:List KS},xs.map KS.sh=l->ys.map KS.sh=l->PV.eqs (l.map KSh.sc) (xs.map KS.pv) (ys.map KS.pv)=some (decide (xs=ys))
 |[],xs,ys,i,u=>by simp at i u;subst i;subst u;simp[PV.eqs]
 |s::l,xs,ys,i,u=>by
  cases xs with
  |nil=>simp at i
  |cons x xs=>
  cases ys with
  |nil=>simp at u
  |cons y ys=>
  simp only[aqQ,List.cons.injEq]at i u;have D:PV.eq1 s.sc x.pv y.pv=some (decide (x=y)):=by obtain⟨B,-⟩:=i;obtain⟨A,-⟩:=u;subst B;cases x<;>cases y<;>simp[KS.sh]at A;subst A;simp[KSh.sc,KS.sh,KS.pv,PV.eq1];exact qj _ _;simp[KSh.sc,KS.sh,KS.pv,PV.eq1];exact qj _ _;simp[KSh.sc,KS.sh,KS.pv,PV.eq1];exact qj _ _
  simp only[aqQ,PV.eqs,D];by_cases e:x=y;subst e;simp only[decide_true,Ov i.2 u.2];simp;simp only[e,decide_false,apP];have J:Z' xs=Z' l:=by rw[<-i.2];simp
  have K:Z' ys=Z' l:=by rw[<-u.2];simp
  rw[aE ⟨J,K⟩];simp[e]
theorem Ow{t:TypeId}{B:Array Field}{l:List KSh}(J:T.P.underlying t=some (.struct B))(hp:T.P.stoodInHeld t=false)(M:T.oP 0 B.toList=some l){x y:List KS}(N:x.map KS.sh=l)(O:y.map KS.sh=l) :
  (Op.equal t (jL (true,l) x) (jL (true,l) y)).run T.P w=.ok (decide (x=y)) w:=by
 have i:T.P.fieldsOf t=B:=by simp[Program.fieldsOf,J]
 have K:∀(z:List KS)(j:Nat) q u,(z.map KS.pv)[j]?=some q->(z.map KS.val).toArray[0+j]?=some u->bB (E:=⟨λ_=>none,λ_=>none,λ_=>0⟩) q u:=by intro z j q u e D;simp only[aqE,aqB,aqA,List.getElem?_toArray]at e D;obtain⟨k,L,rfl⟩:=e;obtain⟨R,A,rfl⟩:=D;rw[L]at A;cases A;exact KS.aeX k
 have he:=TD (w:=w) 9998 (x.map KS.val).toArray (y.map KS.val).toArray B.toList (l.map KSh.sc) 0 (x.map KS.pv) (y.map KS.pv) _ (ku M) (Ov N O) (K x) (K y) aX aX;have e:=run_equalIn_struct w 9999 t (x.map KS.val).toArray (y.map KS.val).toArray (by rw[i];exact J) hp;rw[i,he]at e;simpa[Op.equal,Op.maxDepth,jL]using e
def Found(L:List (List KS × PV))(l:List MapEntry)(k:List KS)(i:Nat)(r:Option (Nat × Value)):Prop:=
 match sF k L i with
 |none=>r=none
 |some (j,pv)=>∃e:MapEntry,i<=j/\l[j-i]?=some e/\L[j-i]?=some (k,pv)/\r=some (j,e.val)
theorem Found.next{L:List (List KS × PV)}{u:List MapEntry}{k:List KS}{i:Nat}{r:Option (Nat × Value)}{e:List KS × PV}{y:MapEntry}(h:Found L u k (i+1) r)(l:e.1≠k):Found (e::L) (y::u) k i r:=by
 unfold Found at h ⊢;simp only[sF,aC l];split at h;exact h;rename_i j pv K;obtain⟨x,J,A,B,D⟩:=h;refine⟨x,by omega,?_,?_,D⟩;rw[show j-i=(j-(i+1))+1 by omega];exact A;rw[show j-i=(j-(i+1))+1 by omega];exact B
theorem Found.here{L:List (List KS × PV)}{u:List MapEntry}{k:List KS}{i:Nat}{e:List KS × PV}{l:MapEntry}(he:e.1=k):Found (e::L) (l::u) k i (some (i,l.val)):=by
 unfold Found;simp only[sF,aE he];refine⟨l,apU _,by simp,?_,rfl⟩;subst he;simp
def xX(sh:MSh)(L:List (List KS × PV))(u:List MapEntry):Prop:=
 u.length=Z' L/\∀(i:Nat) e l,L[i]?=some e->u[i]?=some l->e.1.map KS.sh=sh.2/\l.key=jL sh e.1
theorem xX.tail{sh:MSh}{e:List KS × PV}{L:List (List KS × PV)}{u:MapEntry}{l:List MapEntry}(h:xX sh (e::L) (u::l)):xX sh L l:=
 ⟨by simpa using h.1,λi x y a b=>h.2 (i+1) x y (by simpa using a) (by simpa using b)⟩
theorem YL{s:KSh}{x:KS}(D:x.sh=s):∀{L:List (List KS × PV)}{l:List MapEntry}{i:Nat},xX (false,[s]) L l->∃r,Instr.findNow s.desc x.val l i=some r/\Found L l [x] i r
 |[],l,i,h=>by
  have:l=[]:=by simpa using h.1
  subst this;exact⟨none,rfl,rfl⟩
 |e::L,l,i,h=>by
  cases l with
  |nil=>have:=h.1;simp at this
  |cons B l=>
  obtain⟨A,K⟩:=h.2 0 e B rfl rfl;obtain⟨J,O⟩:=e;cases J with
  |nil=>simp at A
  |cons y ys=>
   simp only[aqQ,List.cons.injEq,List.map_eq_nil_iff]at A;obtain⟨N,rfl⟩:=A;have M:B.key=y.val:=by rw[K];rfl
   simp only[Instr.findNow,M,Fw D N];by_cases u:x=y;subst u;simp only[decide_true];exact⟨_,rfl,Found.here rfl⟩;simp only[u,decide_false];obtain⟨r,g1,g2⟩:=YL D (i:=i+1) h.tail;exact⟨r,g1,g2.next (by simp;exact λe=>u e.symm)⟩
theorem LO{t:TypeId}{A:Array Field}{l:List KSh}(D:T.P.underlying t=some (.struct A))(hp:T.P.stoodInHeld t=false)(B:T.oP 0 A.toList=some l){x:List KS}(J:x.map KS.sh=l) :
  ∀{L:List (List KS × PV)}{u:List MapEntry}{i:Nat},xX (true,l) L u->∃r,(Instr.findAsking t (jL (true,l) x) u i).run T.P w=.ok r w/\Found L u x i r
 |[],u,i,h=>by
  have:u=[]:=by simpa using h.1
  subst this;exact⟨none,rfl,rfl⟩
 |e::L,u,i,h=>by
  cases u with
  |nil=>have:=h.1;simp at this
  |cons K u=>
  obtain⟨M,N⟩:=h.2 0 e K rfl rfl;simp only[Instr.findAsking,Sem.run_bind,N,Ow D hp B J M,Result.andThen_ok];by_cases y:x=e.1;subst y;simp only[decide_true,if_true,Sem.run_pure];exact⟨_,rfl,Found.here rfl⟩;simp only[y,decide_false,arO,if_false];obtain⟨r,g1,g2⟩:=LO D hp B J (i:=i+1) h.tail;exact⟨r,g1,g2.next (λe=>y e.symm)⟩
theorem LQ{t:TypeId}{sh:MSh}(h:T.pF t=some sh):(∃s,sh=(false,[s])/\T.FA t=some s)\/(∃e l,sh=(true,l)/\T.P.underlying t=some (.struct e)/\T.P.stoodInHeld t=false/\T.oP 0 e.toList=some l):=by
 unfold Tbl.pF at h;split at h;rename_i e x;split at h;rename_i hp;simp only[aqB]at h;obtain⟨l,i,rfl⟩:=h;exact .inr ⟨e,l,rfl,x,hp,i⟩;cases h;simp only[aqB]at h;obtain⟨s,u,rfl⟩:=h;exact .inl ⟨s,rfl,u⟩
theorem RP{t:TypeId}{sh:MSh}(B:T.pF t=some sh){k:List KS}(y:k.map KS.sh=sh.2){L:List (List KS × PV)}{u:List MapEntry}(h:xX sh L u) :
  ∃r,(Instr.findKey t (jL sh k) u).run T.P w=.ok r w/\Found L u k 0 r:=by
 rcases LQ B with⟨s,rfl,J⟩|⟨fs,l,rfl,hu,hp,hl⟩
 ·have D:=(zA J).1;cases k with
  |nil=>simp at y
  |cons x xs =>simp only[aqQ,List.cons.injEq,List.map_eq_nil_iff]at y;obtain⟨M,rfl⟩:=y;obtain⟨r,g1,g2⟩:=YL M (i:=0) h;refine⟨r,?_,g2⟩;have K:jL (false,[s]) [x]=x.val:=rfl;simp only[Instr.findKey,Sem.run_bind,run_underlying D,Result.andThen_ok,K,g1,Sem.run_pure]
 ·obtain⟨r,g1,g2⟩:=LO (w:=w) hu hp hl y (i:=0) h;cases u with
  |nil=>
   have:L=[]:=by simpa using h.1.symm
   subst this;refine⟨none,?_,rfl⟩;simp[Instr.findKey,run_underlying hu,Instr.findNow]
  |cons e u=>
   refine⟨r,?_,g2⟩;have A:Instr.findNow (.struct fs) (jL (true,l) k) (e::u) 0=none:=by simp[Instr.findNow,Instr.sameNow,jL]
   simp only[Instr.findKey,Sem.run_bind,run_underlying hu,Result.andThen_ok,A];exact g1
theorem YD{t:TypeId}{s:KSh}(e:T.FA t=some s)(em:Bool)(d:Nat)(x:KS):(Instr.checkKey em (d+1) t x.val).run T.P w=.ok () w:=by
 have i:=(zA e).1;simp only[Instr.checkKey,Sem.run_bind,run_underlying i,Result.andThen_ok];cases s<;>cases x<;>rfl
theorem LK{t:TypeId}{sh:MSh}(D:T.pF t=some sh){k:List KS}(A:k.map KS.sh=sh.2)(em:Bool):(Instr.checkKey em 10000 t (jL sh k)).run T.P w=.ok () w:=by
 rcases LQ D with⟨s,rfl,u⟩|⟨e,l,rfl,hu,hp,hl⟩
 ·cases k with
  |nil=>simp at A
  |cons x xs =>simp only[aqQ,List.cons.injEq,List.map_eq_nil_iff]at A;obtain⟨O,rfl⟩:=A;exact YD u em 9999 x
 simp only[jL,if_true];obtain⟨m,V⟩:∃m:Nat,m=9999:=⟨_,rfl⟩;rw[show(10000:Nat)=m+1 by omega];simp only[Instr.checkKey,Sem.run_bind,run_underlying hu,Result.andThen_ok];rw[<-Array.forIn_toList];have J:∀(e:List Field)(l:List KSh)(j:Nat),T.oP j e=some l->(∀(i:Nat) s,l[i]?=some s->∃x:KS,(k.map KS.val).toArray[j+i]?=some x.val) ->
   (forIn e PUnit.unit (λf (_:PUnit)=>(do
    if f.name≠"_" then
     Instr.checkKey em m f.type (<-part f.type (k.map KS.val).toArray f.offset)
     pure (ForInStep.yield PUnit.unit)
    else pure (ForInStep.yield PUnit.unit):Sem (ForInStep PUnit)))).run T.P w=.ok PUnit.unit w:=by
  intro e
  induction e with
  |nil=>intro l j _ _;simp
  |cons f e U=>
   intro l j h N;simp only[Tbl.oP]at h;split at h;rename_i c cs K R;split at h;rename_i L;cases h;obtain⟨x,O⟩:=N 0 c rfl;simp only[List.forIn_cons,Sem.run_bind,Sem.run_ite];rw[aE L.1];have B:=PB (w:=w) (zA K).2 (k.map KS.val).toArray f.offset x.val (by rw[L.2];simpa using O);simp only[Sem.run_bind,B,Result.andThen_ok];rw[show m=9998+1 by omega,YD K em 9998 x,<-show m=9998+1 by omega];simp only[Result.andThen_ok,Sem.run_pure];exact U cs (j+1) R λi s u=>by obtain⟨y,S⟩:=N (i+1) s (by simpa using u);exact⟨y,by rw[show j+1+i=j+(i+1) by omega];exact S⟩
   cases h;cases h
 have:=J e.toList l 0 hl λi s u=>by
  have M:Z' k=Z' l:=by rw[show l=k.map KS.sh from A.symm];simp
  have hi:i<Z' l:=(aqU.1 u).1;exact⟨k[i],by simp[show i<k.length by omega]⟩
 simp at this ⊢;rw[this];rfl
theorem Fh{L:List (List KS × PV)}{u:List MapEntry}{k:List KS}{r:Option (Nat × Value)}(h:Found L u k 0 r)(J:∀(i:Nat)(e:List KS × PV)(l:MapEntry),L[i]?=some e->u[i]?=some l->bB E e.2 l.val) :
  (mapOf L k=none/\r=none)\/∃j pv v,mapOf L k=some pv/\r=some (j,v)/\bB E pv v:=by
 unfold Found at h;unfold mapOf;split at h;rename_i D;exact .inl ⟨by rw[D];rfl,h⟩;rename_i j pv B;obtain⟨l,-,x,y,A⟩:=h;exact .inr ⟨j,pv,l.val,by rw[B];rfl,A,J _ _ l y x⟩
theorem By{t Z R:TypeId}{sh:MSh}{y:TypeInfo}{z:Value}{X pk:PV}{x k:Value}{o:Nat}{g:jY}{l:List KS}{ok:Bool}(ht:T.P.underlying t=some (.map Z R))(N:T.pF Z=some sh)
  (hi:T.P.info? R=some y) (hz:y.zero=some z) (M:ofValue z=some X) (hx:bB E (.map o) x) (hk:bB E pk k) (ho:H o=some (.map sh g)) (J:keyOf sh pk=some l) (hW:bS E H w) :
  ∃v,(Instr.lookup t x k ok).run T.P w=.ok v w/\bB E (if ok then .tup [(g l).getD X,.bool (g l).isSome]else(g l).getD X) v:=by
 cases hx;obtain⟨hlt,Y,A,L,hh,⟨V,-⟩,rfl,B⟩:=hW.h o _ ho;obtain⟨U,K,-⟩:=uc hk J;have S:xX sh L Y.toList:=⟨by simpa using V,λi e O a b=>by have:=B i e O a (by simpa using b);exact⟨this.1,this.2.1⟩⟩;obtain⟨r,g1,g2⟩:=RP (w:=w) N K S;have g3:=Fh (E:=E) g2 λi e O a b=>(B i e O a (by simpa using b)).2.2;subst U;have D:(getObj o).run T.P w=.ok (.map Y A) w:=by simp[getObj,Sem.run,hh]
 have W:(zeroValue R).run T.P w=.ok z w:=by simp[zeroValue,typeInfo,run_program,hi,hz]
 simp only[Instr.lookup,Sem.run_bind,run_underlying ht,Result.andThen_ok,D,Sem.run_pure,LK N K,g1];rcases g3 with⟨g4,rfl⟩|⟨j,pv,v,g4,rfl,hr⟩
 simp only[W,Sem.run_bind,Result.andThen_ok,Sem.run_pure,g4,Option.getD_none,Option.isSome_none];cases ok;exact⟨z,rfl,BL M⟩
 ·refine⟨_,rfl,.tup #[z,.bool false] rfl λj p u a b=>?_⟩
  match j with
  |0=>simp at a b;subst a;subst b;exact BL M
  |1=>simp at a b;subst a;subst b;exact .bool _
  |j+2=>simp at a
 simp only[Sem.run_pure,Result.andThen_ok,g4,arT,Option.isSome_some];cases ok;exact⟨v,rfl,hr⟩
 ·refine⟨_,rfl,.tup #[v,.bool true] rfl λj p u a b=>?_⟩
  match j with
  |0=>simp at a b;subst a;subst b;exact hr
  |1=>simp at a b;subst a;subst b;exact .bool _
  |j+2=>simp at a
end
open Go Go.RowKit
section
variable {ds:List Deferred} {T:Tbl} {n:Nat} {E:Env} {F:PF} {H:PH} {a:Act} {w:World}
def Good(P:Program)(E:Env)(H:PH)(w:World)(o:Oper)(a:Act)(pv:PV):Prop:=
 ∃v i e,(execOp a.eval o).run P w=.ok (.value v) i/\bB e pv v/\bS e H i/\Ext E H w e H i
theorem Good.mk'{P:Program}{o:Oper}{pv:PV}{v:Value}(hW:bS E H w)(h:(execOp a.eval o).run P w=.ok (.value v) w)(r:bB E pv v):Good P E H w o a pv:=⟨v,w,E,h,r,hW,.refl E H w⟩
theorem Good.of{P:Program}{o:Oper}{pv:PV}{s:Sem Value}(he:execOp a.eval o=(do pure (.value (<-s)):Sem Next))(h:Yields P E H w s pv):Good P E H w o a pv:=by
 obtain⟨v,y,e,i,l,u,x⟩:=h;exact⟨v,y,e,yM he i,l,u,x⟩
theorem Good.val{P:Program}{o:Oper}{pv:PV}{s:Sem Value}(hW:bS E H w)(he:execOp a.eval o=(do pure (.value (<-s)):Sem Next))(h:∃v,s.run P w=.ok v w/\bB E pv v):Good P E H w o a pv:=by
 obtain⟨v,e,i⟩:=h;exact .of he (Yields.same hW e i)
theorem Jk{t:TypeId}{o:Oper}{x:Operand}{lo hi mx:Option Operand}{p:aP}{pl ph pm:Option aP}{e:TypeId}{s:Nat}{pv:PV}(W:o.op=.slice t x lo hi mx)(U:T.P.underlying t=some (.slice e))(S:T.size e=some s)
  (X:T.opd x=some p) (O:T.opt lo=some pl) (N:T.opt hi=some ph) (K:T.opt mx=some pm) (R:¬(mx.isSome=true/\hi.isNone=true)) (i:aV (.slice s p pl ph pm) F H=some pv)
  (L:eP ds n E F a) (hW:bS E H w) (M:E.num=T.num):Good T.P E H w o a pv:=by
 refine Good.val hW (s:=Instr.sliceAt t (a.eval x) (lo.map a.eval) (hi.map a.eval) (mx.map a.eval)) (by unfold execOp;rw[W]) ?_;have u:pm≠none->hi≠none:=λh e=>by
  subst e;cases mx with
  |none=>simp[Tbl.opt]at K;exact h K.symm
  |some y=>exact R ⟨rfl,rfl⟩
 simp only[aV]at i;split at i;rename_i v V;have r:=bH X V L M;split at i;split at i;rename_i l h B A;refine KE (len:=0) U S O N K r B A (.inl ⟨rfl,rfl⟩) ?_ L M;split at i;exact .inl ⟨rfl,i⟩;simp only[atV]at i;obtain⟨m,D,J⟩:=i;exact .inr ⟨u aX,m,D,J⟩;cases i;split at i;rename_i l h B A;refine KE U S O N K r B A (.inr (.inl ⟨_,_,rfl,rfl⟩)) ?_ L M;split at i;exact .inl ⟨rfl,i⟩;simp only[atV]at i;obtain⟨m,D,J⟩:=i;exact .inr ⟨u aX,m,D,J⟩;cases i;split at i;rename_i l h B A;refine KE U S O N K r B A (.inr (.inr ⟨_,_,_,rfl⟩)) ?_ L M;split at i;exact .inl ⟨rfl,i⟩;simp only[atV]at i;obtain⟨m,D,J⟩:=i;exact .inr ⟨u aX,m,D,J⟩;cases i;cases i;cases i
theorem oZ{o:Oper}{c:Call}{b:Builtin}{s:Sem Value}{pv:PV}(u:o.op=.call c)(e:c.callee=.builtin b)(hb:∀cs,builtin b c.argTypes o.type cs (c.args.map a.eval)=(do pure (.value (<-s)):Sem Next))
  (hW:bS E H w) (h:∃v,s.run T.P w=.ok v w/\bB E pv v):Good T.P E H w o a pv:=by
 obtain⟨v,i,l⟩:=h;refine .mk' hW ?_ l;unfold execOp;rw[u];simp[resolve,e,invoke,hb,i]
theorem Yd{xs:Array Operand}{x:Operand}(h:xs.toList=[x])(f:Operand->Value):xs.map f=#[f x]:=by
 apply Array.ext';simp[h]
theorem Je{xs:Array Operand}{x y:Operand}(h:xs.toList=[x,y])(f:Operand->Value):xs.map f=#[f x,f y]:=by
 apply Array.ext';simp[h]
theorem adQ{α:Type}{xs:Array α}{x:α}(h:xs.toList=[x]):xs=#[x]:=by apply Array.ext';simp[h]
theorem size_data(s:ByteArray):Z' s.data.toList=s.size:=by rw[atD];rfl
theorem N5{o:Oper}{c:Call}{p:POp}{pv:PV}(S:o.op=.call c)(i:T.call o c=some p)(hw:p.eQ=false)(hk:p.sV=false)(l:aV p F H=some pv)
  (M:eP ds n E F a) (hW:bS E H w) (N:E.num=T.num):Good T.P E H w o a pv:=by
 unfold Tbl.call at i;split at i
 ·rename_i b B;split at i
  ·
   rename_i x t A R;have V:=Yd A a.eval;have e2:=adQ R;split at i
   ·rename_i k e K;cases i;simp[aV,aP.ev]at l;subst l;refine oZ (s:=Builtin.len_ c.argTypes o.type (c.args.map a.eval)) S B (λcs=>rfl) hW ⟨goInt k,?_,.int _ _⟩;rw[V,e2];simp[Builtin.len_,run_underlying K]
   ·rename_i K;simp only[aqB]at i;obtain⟨q,hq,rfl⟩:=i;simp only[aV]at l;split at l
    ·rename_i s0 D;cases l;have r:=bH hq D M N;generalize J:a.eval x=ex at r;cases r with
     |str s=>
     refine oZ (s:=Builtin.len_ c.argTypes o.type (c.args.map a.eval)) S B (λcs=>rfl) hW ⟨goInt s.size,?_,?_⟩
     ·rw[V,e2,J];simp[Builtin.len_,run_underlying K]
     ·rw[size_data];exact .int _ _
    ·cases l
   ·rename_i e K;simp only[aqB]at i;obtain⟨q,hq,rfl⟩:=i;have α:∀(ad:Option Addr)(m cap:Nat),a.eval x=.slice ad m cap->Good T.P E H w o a (.int .i64 m):=by intro ad m cap J;refine oZ (s:=Builtin.len_ c.argTypes o.type (c.args.map a.eval)) S B (λcs=>rfl) hW ⟨goInt m,?_,.int _ _⟩;rw[V,e2,J];simp[Builtin.len_,run_underlying K]
    simp only[aV,atV]at l;obtain⟨u,D,l⟩:=l;have r:=bH hq D M N;generalize J:a.eval x=ex at r;cases u<;>simp only[PV.sI]at l<;>cases l
    all_goals
     cases r;exact α _ _ _ J
   ·rename_i kt et K;simp only[aqB]at i;obtain⟨q,hq,rfl⟩:=i;simp only[aV]at l;split at l
    ·rename_i m D;split at l
     ·rename_i sh g hg;cases l;have r:=bH hq D M N;generalize J:a.eval x=ex at r;cases r;obtain⟨hlt,es,O,L,hh,⟨Z,Y⟩,rfl,-⟩:=hW.h m _ hg;have U:(getObj m).run T.P w=.ok (.map es O) w:=by simp[getObj,Sem.run,hh]
      refine oZ (s:=Builtin.len_ c.argTypes o.type (c.args.map a.eval)) S B (λcs=>rfl) hW ⟨goInt es.size,?_,?_⟩
      ·rw[V,e2,J];simp[Builtin.len_,run_underlying K,U]
      ·rw[K5 Y,<-Z];exact .int _ _
     ·cases l
    ·cases l
   ·cases i
  ·
   split at i<;>try cases i
   split at i<;>try cases i
   split at i<;>cases i;simp[POp.eQ]at hw
  ·
   rename_i x t A R;split at i
   ·rename_i e K;simp only[aqB]at i;obtain⟨q,hq,rfl⟩:=i;simp only[aV]at l;split at l
    ·rename_i D;cases l;have r:=bH hq D M N;generalize J:a.eval x=ex at r;cases r;refine oZ (s:=Builtin.cap_ c.argTypes o.type (c.args.map a.eval)) S B (λcs=>rfl) hW ⟨goInt 0,?_,.int _ _⟩;rw[Yd A a.eval,adQ R,J];simp[Builtin.cap_,run_underlying K]
    ·cases l
   ·cases i
  ·
   rename_i x y A;split at i<;>cases i;rename_i p q hp hq;simp only[aV]at l;split at l
   ·rename_i k m k' m' W X;have r1:=bH hp W M N;have r2:=bH hq X M N;split at l
    ·cases l;generalize J:a.eval x=ex at r1;generalize hy:a.eval y=ey at r2;cases r1;cases r2;refine oZ (s:=Builtin.max_ c.argTypes o.type (c.args.map a.eval)) S B (λcs=>rfl) hW ⟨_,?_,.int _ _⟩;rw[Je A a.eval,J,hy,run_max_int2];simp
    ·cases l
   ·cases l
  ·
   rename_i x y A;split at i<;>cases i;rename_i p q hp hq;simp only[aV]at l;split at l
   ·rename_i k m k' m' W X;have r1:=bH hp W M N;have r2:=bH hq X M N;split at l
    ·cases l;generalize J:a.eval x=ex at r1;generalize hy:a.eval y=ey at r2;cases r1;cases r2;refine oZ (s:=Builtin.min_ c.argTypes o.type (c.args.map a.eval)) S B (λcs=>rfl) hW ⟨_,?_,.int _ _⟩;rw[Je A a.eval,J,hy,run_min_int2];simp
    ·cases l
   ·cases l
  ·cases i
 ·split at i
  ·split at i<;>cases i;simp[POp.sV]at hk
  ·cases i
 ·simp only[aqB]at i;obtain⟨q,-,rfl⟩:=i;simp[POp.sV]at hk
 ·cases i
end
open Go Go.RowKit
section
variable {ds:List Deferred} {T:Tbl} {n:Nat} {E:Env} {F:PF} {H:PH} {a:Act} {w:World}
set_option maxHeartbeats 8000000 in
theorem Jl{o:Oper}{p:POp}{pv:PV}(B:T.op o=some p)(hn:p.iR=false)(hw:p.eQ=false)(hk:p.sV=false)(A:aV p F H=some pv)
  (L:eP ds n E F a) (hW:bS E H w) (K:E.num=T.num):Good T.P E H w o a pv:=by
 unfold Tbl.op at B;split at B
 
 rename_i x J;simp only[aqB]at B;obtain⟨q,hq,rfl⟩:=B;exact .mk' hW (v:=a.eval x) (by unfold execOp;rw[J];simp) (bH hq A L K)
 
 rename_i x J;simp only[aqB]at B;obtain⟨q,hq,rfl⟩:=B;exact .mk' hW (v:=a.eval x) (by unfold execOp;rw[J];simp) (bH hq A L K)
 
 rename_i c x y J;split at B<;>cases B;rename_i p1 p2 p3 N U h3;simp only[aV]at A;split at A;rename_i t D;have r:=bH N D L K;generalize S:a.eval c=ec at r;cases r;refine .mk' hW (v:=if t then a.eval x else a.eval y) (by unfold execOp;rw[J];simp[S,asBool]) ?_;cases t;exact bH h3 (by simpa using A) L K;exact bH U (by simpa using A) L K;cases A
 
 simp only[aqB]at B;obtain⟨z,-,rfl⟩:=B;simp[POp.iR]at hn
 ·
  rename_i e x J;simp only[aqB]at B;obtain⟨q,hq,rfl⟩:=B;generalize ξ:T.qz o.dst=ro at *
  cases ro with
  |false=>simp[POp.iR]at hn
  |true =>simp only[aV]at A;split at A;rename_i v D;split at A;rename_i N;cases A;exact .of (s:=Instr.box e (a.eval x)) (by unfold execOp;rw[J]) (Et hW (bH hq D L K) N);cases A;cases A
 
 rename_i t parts J;split at B;rename_i z fs hz M;split at B;rename_i hm;simp only[aqB]at B;obtain⟨pl,α,rfl⟩:=B;simp only[aV,aqB]at A;obtain⟨out,W,rfl⟩:=A;have R:=XZ (T:=T) (w:=w) hz (.inl ⟨fs,M,hm,α⟩) W L K;refine Good.val hW ?_ R;unfold execOp;rw[J];cases B;rename_i z k e hz M;split at B;rename_i s O;simp only[aqB]at B;obtain⟨pl,α,rfl⟩:=B;simp only[aV,aqB]at A;obtain⟨out,W,rfl⟩:=A;have R:=XZ (T:=T) (w:=w) hz (.inr ⟨k,e,s,M,O,α⟩) W L K;refine Good.val hW ?_ R;unfold execOp;rw[J];cases B;cases B
 
 rename_i t len parts J;split at B;rename_i e M;split at B;rename_i s z pl O hz α;split at B
 ·rename_i θ;cases B;generalize ξ:T.qz o.dst=ro at *
  cases ro with
  |false=>simp[POp.iR]at hn
  |true =>simp only[aV]at A;split at A;rename_i ε;simp only[aqB]at A;obtain⟨out,W,rfl⟩:=A;have R:=ql (T:=T) M O hz θ.1 θ.2 α ε.2 W L K hW;refine Good.of ?_ R;unfold execOp;rw[J];cases A
 cases B;cases B;cases B
 
 rename_i t x J;split at B;rename_i k q hg O hq;cases B;simp only[aV]at A;split at A;rename_i v D;simp only[aqB]at A;obtain⟨cs,Z,rfl⟩:=A;have S:=bH hq D L K;have R:=YT (T:=T) hg O hW S Z;refine Good.val hW (s:=Instr.loadAt t (a.eval x)) ?_ R;unfold execOp;rw[J];cases A;rename_i k q hg hq;cases B;simp only[aV]at A;split at A;rename_i v D;split at A;rename_i v' Z;cases A;have S:=bH hq D L K;have R:=k6 (T:=T) hg hW S Z;refine Good.val hW (s:=Instr.loadAt t (a.eval x)) ?_ R;unfold execOp;rw[J];cases A;cases A;cases B
 
 split at B<;>cases B;simp[POp.eQ]at hw
 
 rename_i x J;simp only[aqB]at B;obtain⟨q,hq,rfl⟩:=B;simp only[aV]at A;split at A;rename_i D;cases A;have r:=bH hq D L K;refine .mk' hW (v:=a.eval x) ?_ r;generalize S:a.eval x=ex at r;cases r;unfold execOp;rw[J];simp[S];rename_i D;cases A;have r:=bH hq D L K;refine .mk' hW (v:=a.eval x) ?_ r;obtain⟨b,off,S⟩:=UT r;unfold execOp;rw[J];simp[S];cases A
 
 rename_i b t x y yt J;split at B;rename_i p q hp hq;have V:∀b',b=b'->aV (.bin b' p q) F H=some pv->Good T.P E H w o a pv:=by intro b' hb A;subst hb;simp only[aV]at A;split at A;rename_i v1 v2 N U;exact .val hW (s:=do eqGuard b t x y (a.eval x) (a.eval y);binOp b t (a.eval x) (a.eval y)) (by unfold execOp;rw[J]) (N0 (bH hp N L K) (bH hq U L K) A t x y);cases A
 have Y:∀neg,b=(if neg then .neq else .eql)->T.P.underlying t=some .bool->aV (.eqb neg p q) F H=some pv->Good T.P E H w o a pv:=by intro neg hb X A;simp only[aV]at A;split at A;rename_i v1 v2 N U;cases A;have r1:=bH hp N L K;have r2:=bH hq U L K;generalize S:a.eval x=ex at r1;generalize R:a.eval y=ey at r2;cases r1;cases r2;refine .val hW (s:=do eqGuard b t x y (a.eval x) (a.eval y);binOp b t (a.eval x) (a.eval y)) (by unfold execOp;rw[J]) ⟨_,?_,.bool _⟩;rw[S,R,hb];exact Ou neg v1 v2 x y X;cases A
 have β:∀neg {e},b=(if neg then .neq else .eql)->T.P.underlying t=some (.slice e)->q=.const .aG->aV (.isNil neg p) F H=some pv->Good T.P E H w o a pv:=by
  intro neg e hb X ν A;subst ν;simp only[aV]at A;cases N:p.ev F with
  |none=>rw[N]at A;cases A
  |some v1 =>rw[N,atO,aqB]at A;obtain⟨c,γ,rfl⟩:=A;have r1:=bH hp N L K;have r2:=bH (F:=F) hq rfl L K;generalize S:a.eval x=ex at r1;generalize R:a.eval y=ey at r2;cases r2;refine .val hW (s:=do eqGuard b t x y (a.eval x) (a.eval y);binOp b t (a.eval x) (a.eval y)) (by unfold execOp;rw[J]) ⟨_,?_,.bool _⟩;rw[S,R,hb];exact Fb neg r1 γ x y X
 have η:∀neg ks,b=(if neg then .neq else .eql)->T.flat t=some ks->aV (.eqs neg ks p q) F H=some pv->Good T.P E H w o a pv:=by intro neg ks hb X A;simp only[aV]at A;split at A;rename_i v1 v2 N U;simp only[aqB]at A;obtain⟨c,γ,rfl⟩:=A;refine .val hW (s:=do eqGuard b t x y (a.eval x) (a.eval y);binOp b t (a.eval x) (a.eval y)) (by unfold execOp;rw[J]) ⟨_,?_,.bool _⟩;rw[hb];exact Jy neg (bH hp N L K) (bH hq U L K) γ x y X;cases A
 split at B;split at B;cases B;exact V _ rfl A;cases B;exact V _ rfl A;rename_i X;cases B;exact Y false rfl X A;simp only[aqB]at B;obtain⟨ks,δ,rfl⟩:=B;exact η false ks rfl δ A;rename_i X;split at B;cases B;exact β false rfl X rfl A;cases B;cases B;split at B;cases B;exact V _ rfl A;cases B;exact V _ rfl A;rename_i X;cases B;exact Y true rfl X A;simp only[aqB]at B;obtain⟨ks,δ,rfl⟩:=B;exact η true ks rfl δ A;rename_i X;split at B;cases B;exact β true rfl X rfl A;cases B;cases B;cases B;exact V _ rfl A;cases B
 
 rename_i u t x J;simp only[aqB]at B;obtain⟨q,hq,rfl⟩:=B;simp only[aV]at A;split at A;rename_i v D;exact .val hW (s:=Op.unary u (a.eval x)) (by unfold execOp;rw[J]) (Xj (bH hq D L K) A);cases A
 
 rename_i s d x J;split at B;rename_i k k' q O hd hq;cases B;simp only[aV]at A;split at A;rename_i m D;cases A;have r:=bH hq D L K;generalize S:a.eval x=ex at r;cases r;refine .val hW (s:=convert s d (a.eval x)) (by unfold execOp;rw[J]) ⟨_,?_,.int _ _⟩;rw[S];simp[convert,run_underlying O,run_underlying hd,Conv.intToInt];cases A;rename_i q O hd hq;cases B;simp only[aV]at A;split at A;rename_i l D;cases A;have r:=bH hq D L K;refine .val hW (s:=convert s d (a.eval x)) (by unfold execOp;rw[J]) ⟨a.eval x,?_,r⟩;generalize S:a.eval x=ex at r;cases r;simp[convert,run_underlying O,run_underlying hd];cases A;rename_i e q O hd hq;split at B;rename_i he;cases B;simp only[aV]at A;split at A;rename_i v D;split at A;rename_i rows hr;simp only[aqB]at A;obtain⟨l,hl,rfl⟩:=A;exact .val hW (s:=convert s d (a.eval x)) (by unfold execOp;rw[J]) (i7 O he hd hW (bH hq D L K) hr hl);cases A;cases A;cases B;cases B
 
 rename_i f first captured J
 split at B;rename_i m cs hm Z;split at B;rename_i hf;cases B;simp only[aV,aqB]at A;obtain⟨vs,σ,rfl⟩:=A;have r:=EG Z σ L K;refine .val hW (s:=Instr.makeFunc (.func f) (first.map a.eval) (captured.map a.eval)) (by unfold execOp;rw[J]) ⟨.func (.func f) #[] (captured.map a.eval),?_,?_⟩;have:first=#[]:=Array.eq_empty_of_size_eq_zero hf.2
 subst this;simp[Instr.makeFunc];have hl:=r.len;have:=bB.fn (E:=E) (name:=m) (captured:=vs) (captured.map a.eval) (by simpa using hl) (λj p v a b=>r.at_ j p v a (by simpa using b));rw[K,hf.1]at this;exact this;cases B;cases B
 
 split at B;simp only[aqB]at B;obtain⟨z,-,rfl⟩:=B;simp[POp.iR]at hn;cases B
 
 rename_i t x k ok J;split at B;rename_i kt et M;split at B;rename_i sh z p1 q1 ρ hz hp hq;simp only[aqB]at B;obtain⟨pz,μ,rfl⟩:=B;simp only[atV]at hz;obtain⟨τ,hi,hz⟩:=hz;simp only[aV]at A;split at A;rename_i m kv N U;split at A;rename_i χ g φ h3 h4;split at A;rename_i he;subst he;cases A;exact .val hW (s:=Instr.lookup t (a.eval x) (a.eval k) ok) (by unfold execOp;rw[J]) (By M ρ hi hz μ (bH hp N L K) (bH hq U L K) h3 h4 hW);cases A;cases A;cases A;cases B;cases B
 
 split at B;split at B<;>cases B;simp[POp.eQ]at hw;cases B
 
 split at B;split at B<;>cases B;simp[POp.eQ]at hw;cases B
 
 split at B;split at B;split at B<;>cases B;simp[POp.iR]at hn;cases B;cases B
 
 rename_i t x lo hi mx J;split at B;rename_i e p l h m M S hl hh hm;split at B;cases B;rename_i ι;simp only[aqB]at B;obtain⟨s,O,rfl⟩:=B;exact Jk J M O S hl hh hm ι A L hW K;rename_i p l h M S hl hh hm;cases B;have κ:mx=none:=by
  cases mx with
  |none=>rfl
  |some y=>simp only[Tbl.opt,aqB]at hm;obtain⟨_,-,hq⟩:=hm;cases hq
 subst κ;simp only[aV]at A;split at A;rename_i str D;split at A;rename_i li υ bl bh;split at A;rename_i hb;cases A;exact .val hW (s:=Instr.sliceAt t (a.eval x) (lo.map a.eval) (hi.map a.eval) (Option.map a.eval none)) (by unfold execOp;rw[J]) (sm M hl hh (bH S D L K) bl bh hb.1 hb.2.1 hb.2.2 L K);cases A;cases A;cases A;rename_i n' e p M S hl hh hm;have ζ:∀{y:Option Operand},T.opt y=some none->y=none:=by
  intro y R;cases y with
  |none=>rfl
  |some y=>simp only[Tbl.opt,aqB]at R;obtain⟨_,-,hq⟩:=R;cases hq
 have N:=ζ hl;have U:=ζ hh;have h3:=ζ hm;subst N U h3;simp only[aqB]at B;obtain⟨s,O,rfl⟩:=B;simp only[aV]at A;split at A;rename_i cs D;split at A;rename_i hb;cases A;exact .val hW (s:=Instr.sliceAt t (a.eval x) (Option.map a.eval none) (Option.map a.eval none) (Option.map a.eval none)) (by unfold execOp;rw[J]) (Dp M O (bH S D L K) hb.1 hb.2.2 L K);cases A;cases A;cases B
 
 rename_i t x f J;split at B;rename_i fs q M hq;split at B;rename_i fd hf;split at B;rename_i s O;cases B;simp only[aV]at A;split at A;rename_i D;cases A;exact .val hW (s:=Instr.fieldAt t (a.eval x) f) (by unfold execOp;rw[J]) (TG M hf O (bH hq D L K) (.inl ⟨_,_,_,_,rfl,rfl⟩));rename_i D;cases A;exact .val hW (s:=Instr.fieldAt t (a.eval x) f) (by unfold execOp;rw[J]) (TG M hf O (bH hq D L K) (.inr ⟨_,rfl,rfl⟩));cases A;cases B;cases B;cases B
 
 rename_i t x f J;split at B;rename_i fs q M hq;split at B;rename_i fd hf;split at B;rename_i k hg O;cases B;simp only[aV]at A;split at A;rename_i cs D;split at A;rename_i ε;cases A;exact .val hW (s:=Instr.field t (a.eval x) f) (by unfold execOp;rw[J]) (Jz M hf hg O (bH hq D L K) ε);cases A;cases A;rename_i k hg;cases B;simp only[aV]at A;split at A;rename_i cs D;exact .val hW (s:=Instr.field t (a.eval x) f) (by unfold execOp;rw[J]) (Oy M hf hg (bH hq D L K) A);cases A;cases B;cases B;cases B
 
 rename_i t x i J;split at B;rename_i e p q M hp hq;simp only[aqB]at B;obtain⟨s,O,rfl⟩:=B;simp only[aV]at A;split at A;rename_i s0 rows k m N U;have r1:=bH hp N L K;have r2:=bH hq U L K;generalize R:a.eval i=ey at r2;cases r2;split at A;rename_i B;obtain⟨rfl,h0⟩:=B;split at A;rename_i r hr;cases A;refine .val hW (s:=Instr.indexAt t (a.eval x) (a.eval i)) (by unfold execOp;rw[J]) ?_;rw[R];exact Z9 M O r1 h0 hr;cases A;cases A;rename_i o' s0 off len k m N U;have r1:=bH hp N L K;have r2:=bH hq U L K;generalize R:a.eval i=ey at r2;cases r2;split at A;rename_i B;obtain⟨rfl,h0,hi⟩:=B;cases A;refine .val hW (s:=Instr.indexAt t (a.eval x) (a.eval i)) (by unfold execOp;rw[J]) ?_;rw[R];exact Un M O r1 h0 hi;cases A;cases A;rename_i e p q k M hp hq;simp only[aqB]at B;obtain⟨s,O,rfl⟩:=B;simp only[aV]at A;split at A;rename_i N U;have r1:=bH hp N L K;have r2:=bH hq U L K;generalize R:a.eval i=ey at r2;cases r2;split at A;rename_i B;cases A;refine .val hW (s:=Instr.indexAt t (a.eval x) (a.eval i)) (by unfold execOp;rw[J]) ?_;rw[R];exact kk M O r1 B.1 B.2 (.inl ⟨_,_,_,_,rfl,rfl⟩);cases A;rename_i N U;have r1:=bH hp N L K;have r2:=bH hq U L K;generalize R:a.eval i=ey at r2;cases r2;split at A;rename_i B;cases A;refine .val hW (s:=Instr.indexAt t (a.eval x) (a.eval i)) (by unfold execOp;rw[J]) ?_;rw[R];exact kk M O r1 B.1 B.2 (.inr ⟨_,rfl,rfl⟩);cases A;cases A;cases B
 
 rename_i t x i J;split at B;rename_i e p q k M hp hq;split at B;rename_i s g O hg;cases B;simp only[aV]at A;split at A;rename_i N U;have r1:=bH hp N L K;have r2:=bH hq U L K;generalize R:a.eval i=ey at r2;cases r2;split at A;rename_i B;refine .val hW (s:=Instr.index t (a.eval x) (a.eval i)) (by unfold execOp;rw[J]) ?_;rw[R];exact Kp M O hg r1 B.1 B.2 A;cases A;cases A;cases B;rename_i p q M hp hq;cases B;simp only[aV]at A;split at A;rename_i N U;have r1:=bH hp N L K;have r2:=bH hq U L K;generalize R:a.eval i=ey at r2;cases r2;split at A;rename_i B;refine .val hW (s:=Instr.index t (a.eval x) (a.eval i)) (by unfold execOp;rw[J]) ?_;rw[R];exact Bi M r1 B A;cases A;cases A;cases B
 
 rename_i x i J;simp only[aqB]at B;obtain⟨q,hq,rfl⟩:=B;simp only[aV]at A;split at A
 ·rename_i vs D;have r:=bH hq D L K;generalize S:a.eval x=ex at r;cases r with
  |tup us hl hr=>
  obtain⟨u,M,ο⟩:=zt hl hr A;refine .val hW (s:=Instr.extract (a.eval x) i) (by unfold execOp;rw[J]) ⟨u,?_,ο⟩;rw[S];simp[Instr.extract,M]
 cases A;rename_i c J;exact N5 J B hw hk A L hW K;cases B
end
open Go Go.RowKit
def Env.own(E:Env)(b n:Nat):Env:=⟨E.G,upd E.sz b (some n),E.num⟩
section
variable {ds:List Deferred} {T:Tbl} {n:Nat} {E:Env} {F:PF} {H:PH} {a:Act} {w:World}
theorem Env.aeM(hW:bS E H w)(m:Nat):E.le (E.own w.heap.size m):=by
 refine⟨λb ds h=>h,λb k h=>?_,rfl⟩;have:=hW.Dl h;simp only[Env.own];rw[VS _ _ Om];exact h
theorem BT{s:Nat}{rs:P2_}(h:∀r∈rs,Z' r=s){i j:Nat}{pv:PV}(hp:at2 rs i j=some pv):i<Z' rs/\j<s:=by
 unfold at2 at hp;cases e:rs[i]? with
 |none=>simp[e]at hp
 |some r=>
  rw[e,atO]at hp;have l:=h r (asC e);refine⟨?_,?_⟩;rcases aqW i rs.length with h'|h'
  exact h';rw[arC h']at e;cases e;rcases aqW j r.length with h'|h'
  omega;rw[arC h']at hp;cases hp
def mO(E:Env)(s:Nat)(rs:P2_)(cs:Array Value):Prop:=
 (∀r∈rs,Z' r=s)/\Z' rs*s<=cs.size/\∀i j pv,at2 rs i j=some pv->∃u,cs[i*s+j]?=some u/\u.oneCell'=true/\bB E pv u
theorem mO.of_flat{s:Nat}{rs:P2_}{cs:Array Value}(h:qZ E rs.flatten cs)(l:∀r∈rs,Z' r=s):mO E s rs cs:=by
 refine⟨l,by rw[h.1,tH rs l];exact apU _,λi j pv hp=>?_⟩;obtain⟨-,u⟩:=BT l hp;have e:=BF rs i j l u;rw[hp]at e;have hlt:i*s+j<cs.size:=by
  rw[h.1];rcases aqW (i*s+j) rs.flatten.length with h'|h'
  exact h';rw[arC h']at e;cases e
 exact⟨cs[i*s+j],atP hlt,h.2.1 _ (Array.getElem_mem_toList hlt),h.2.2 _ pv _ e (atP hlt)⟩
theorem mO.mono{e:Env}(A:E.le e){s:Nat}{rs:P2_}{cs:Array Value}(h:mO E s rs cs):mO e s rs cs:=
 ⟨h.1,h.2.1,λi j pv hp=>by obtain⟨u,l,x,y⟩:=h.2.2 i j pv hp;exact⟨u,l,x,y.mono A⟩⟩
theorem cV(H:PH)(o q:Nat)(x:aR):(H.set o x).f q=if q=o then some x else H.f q:=rfl
theorem bS.SE(hW:bS E H w){s:Nat}{rs:P2_}{cs:Array Value}(ty:TypeId)(h:mO E s rs cs) :
  bS (E.own w.heap.size cs.size) (H.set w.heap.size (.rows s rs)) (w.alloc (.cells cs ty))/\Ext E H w (E.own w.heap.size cs.size) (H.set w.heap.size (.rows s rs)) (w.alloc (.cells cs ty)):=by
 have B:=Env.aeM hW cs.size;refine⟨⟨λb ds hb=>?_,λo x l=>?_,λo m J=>?_⟩,⟨B,rfl,rfl,rfl,by simp,λb hb _=>Below.heap_alloc w _ b hb,λo x l=>?_,λb ds hb=>.inl hb⟩⟩;obtain⟨y,D,fr,A⟩:=hW.g b ds hb;have hlt:=hW.J7 hb;refine⟨λx L=>y x ?_,D,fr,(Below.heap_alloc w _ b hlt).trans A⟩;rw[cV,aC Om]at L;exact L;rw[cV]at l;split at l;rename_i e;subst e;cases l;refine⟨by simp,cs,ty,heap_alloc_new w _,by simp[Env.own,upd],h.1,h.2.1,λi j pv hp=>?_⟩;obtain⟨u,y,A,M⟩:=h.2.2 i j pv hp;exact⟨u,y,A,M.mono B⟩;obtain⟨y,A⟩:=hW.h o x l;exact⟨by simp;omega,A.mono B (Below.heap_alloc w _ o y)⟩;simp only[Env.own,upd]at J;split at J;rename_i e;cases J;subst e;exact⟨cs,ty,(0,0),heap_alloc_new w _,rfl⟩;obtain⟨K,D,fr,y,A⟩:=hW.s o m J;exact⟨K,D,fr,(Below.heap_alloc w _ o (hW.Dl J)).trans y,A⟩;rw[cV]at l;split at l;rename_i e;exact .inr Om;exact .inl ⟨x,l⟩
theorem bS.adO(hW:bS E H w)(sh:MSh):bS E (H.set w.heap.size (.map sh (λ_=>none))) (w.alloc (.map #[] 0))/\Ext E H w E (H.set w.heap.size (.map sh (λ_=>none))) (w.alloc (.map #[] 0)):=by
 refine⟨⟨λb ds hb=>?_,λo x l=>?_,λo m D=>?_⟩,⟨.refl E,rfl,rfl,rfl,by simp,λb hb _=>Below.heap_alloc w _ b hb,λo x l=>?_,λb ds hb=>.inl hb⟩⟩;obtain⟨y,u,fr,A⟩:=hW.g b ds hb;have hlt:=hW.J7 hb;refine⟨λx J=>y x ?_,u,fr,(Below.heap_alloc w _ b hlt).trans A⟩;rw[cV,aC Om]at J;exact J;rw[cV]at l;split at l;rename_i e;subst e;cases l;exact⟨by simp,#[],0,[],heap_alloc_new w _,⟨rfl,List.nodup_nil⟩,rfl,λi e K h=>by simp at h⟩;obtain⟨y,A⟩:=hW.h o x l;exact⟨by simp;omega,A.mono (.refl E) (Below.heap_alloc w _ o y)⟩;obtain⟨B,u,fr,y,A⟩:=hW.s o m D;exact⟨B,u,fr,(Below.heap_alloc w _ o (hW.Dl D)).trans y,A⟩;rw[cV]at l;split at l;rename_i e;exact .inr Om;exact .inl ⟨x,l⟩
def agZ(P:Program)(E:Env)(H:PH)(w:World)(o:Oper)(a:Act)(l:Nat->PV)(x:aR):Prop:=
 ∃v i e q,(execOp a.eval o).run P w=.ok (.value v) i/\H q=none/\bB e (l q) v/\bS e (H.set q x) i/\Ext E H w e (H.set q x) i
theorem ml{cs:V_}{vs:Array Value}(h:qZ E cs vs):mO E cs.length [cs] vs:=by
 refine .of_flat (by simpa using h) aX
theorem Cy(E:Env)(b m:Nat):(E.own b m).sz b=some m:=by simp[Env.own,upd]
theorem Ew{o:Oper}{c:Call}{p:POp}(e:T.call o c=some p):p.iR=false:=by
 unfold Tbl.call at e
 repeat' (first|(split at e)|(simp only[aqB]at e;obtain⟨_,-,rfl⟩:=e;rfl)|(cases e;rfl)|(cases e;done))
theorem P1{o:Oper}{p:POp}{mk:Nat->PV}{x:aR}(u:T.op o=some p)(V:p.iR=true)(B:cK p F=some (mk,x))(hA:eP ds n E F a)(hW:bS E H w)(hN:E.num=T.num):agZ T.P E H w o a mk x:=by
 have D:=hW.Kk;unfold Tbl.op at u;split at u
 case h_4=>
  rename_i e M;simp only[aqB]at u;obtain⟨z,hz,rfl⟩:=u;simp only[cK,asB.injEq,Prod.mk.injEq]at B;obtain⟨rfl,rfl⟩:=B;obtain⟨i,Y,hi,U,X⟩:=QZ (E:=E) hz;obtain⟨Z,h2⟩:=hW.SE e (ml X);have A:(Instr.alloc e true (.tuple #[])).run T.P w=.ok (.pointer (some ⟨w.heap.size,0,none⟩)) (w.alloc (.cells Y.cells e)):=by simp[Instr.alloc,zeroValue,typeInfo,hi,U,newVar,newRow]
  refine⟨_,_,_,w.heap.size,yM ?_ A,D,?_,Z,h2⟩
  ·unfold execOp;rw[M]
  ·have:=bB.ptr (E:=E.own w.heap.size Y.cells.size) w.heap.size z.length 0 0;simpa using this
 case h_5=>
  rename_i e y M;simp only[aqB]at u;obtain⟨q,hq,rfl⟩:=u;generalize ζ:T.qz o.dst=ro at *
  cases ro with
  |true=>simp[POp.iR]at V
  |false=>
   simp only[cK]at B;split at B
   ·rename_i v W;split at B
    ·rename_i Z;simp only[asB.injEq,Prod.mk.injEq]at B;obtain⟨rfl,rfl⟩:=B;obtain⟨c1,c2,c3⟩:=BV (bH hq W hA hN) Z;obtain⟨g1,g2⟩:=hW.SE e (ml (E:=E) (cs:=v.cells) (vs:=(a.eval y).cells) ⟨c1,c2,c3⟩);have A:(Instr.box e (a.eval y)).run T.P w=.ok (.pointer (some ⟨w.heap.size,0,none⟩)) (w.alloc (.cells (a.eval y).cells e)):=by simp[Instr.box,newVar,newRow]
     refine⟨_,_,_,w.heap.size,yM ?_ A,D,?_,g1,g2⟩
     ·unfold execOp;rw[M]
     ·have:=bB.ptr (E:=E.own w.heap.size (a.eval y).cells.size) w.heap.size v.cells.length 0 0;simpa using this
    ·cases B
   ·cases B
 case h_7=>
  rename_i t len parts M;split at u
  ·rename_i e hu;split at u
   ·rename_i s z pl hs hz ε;split at u
    ·rename_i J;cases u;generalize ζ:T.qz o.dst=ro at *
     cases ro with
     |true=>simp[POp.iR]at V
     |false=>
      simp only[cK]at B;split at B
      ·rename_i δ;simp only[aqB,Prod.mk.injEq]at B;obtain⟨out,γ,rfl,rfl⟩:=B;obtain⟨us,A,L,O,β⟩:=SM (w:=w) hu hs hz J.1 J.2 ε δ.2 γ hA hN;obtain⟨g1,g2⟩:=hW.SE e (mO.of_flat L O);refine⟨_,_,_,w.heap.size,yM ?_ A,D,?_,g1,g2⟩
       ·unfold execOp;rw[M]
       ·have θ:us.size=len*s:=by rw[L.1,tH out O,β]
        refine .osl (n:=us.size) rfl rfl (.inr aX) (apU _) ?_ (Cy _ _ _) (by rw[θ];omega);have:len*1<=len*s:=atM _ J.2;simp only[maxLen];omega
      ·cases B
    ·cases u
   ·cases u
  ·cases u
 case h_15=>
  rename_i t M;split at u
  case h_2=>cases u
  simp only[aqB]at u;obtain⟨sh,-,rfl⟩:=u;simp only[cK,asB.injEq,Prod.mk.injEq]at B;obtain⟨rfl,rfl⟩:=B;obtain⟨g1,g2⟩:=hW.adO sh;have A:(Instr.makeMap t (Option.map a.eval none)).run T.P w=.ok (.map (some w.heap.size)) (w.alloc (.map #[] 0)):=by simp[Instr.makeMap]
  refine⟨_,_,_,w.heap.size,yM ?_ A,D,.map _,g1,g2⟩;unfold execOp;rw[M]
 case h_19=>
  rename_i t l c M;split at u
  ·rename_i e hu;split at u
   ·rename_i i z p q hi hz hp hq;split at u
    ·rename_i J;cases u;simp only[cK]at B;split at B
     ·rename_i k1 m1 k2 R W ι;split at B
      ·rename_i S;simp only[asB.injEq,Prod.mk.injEq]at B;obtain⟨rfl,rfl⟩:=B;obtain⟨h0,Z,h2,h3,-⟩:=S;have r1:=bH hp W hA hN;have r2:=bH hq ι hA hN;generalize hx:a.eval l=ex at r1;generalize hy:a.eval c=ey at r2;cases r1;cases r2;obtain⟨i',Y,α,U,X⟩:=QZ (E:=E) hz;rw[hi]at α;cases α;have A:=run_make w t e i Y hu hi U k1 k2 m1 R h0 Z (by rw[Int.mul_comm];omega) h3;have L:=X.Yv (len:=R.toNat) J.1 J.2;have N:mO E i.size (apX R.toNat z) (madeCells Y.cells (R.toNat*i.size)):=
        mO.of_flat L (λr hr=>by rw[(List.mem_replicate.1 hr).2];exact J.1)
       have η:mO E i.size (apX m1.toNat z) (madeCells Y.cells (R.toNat*i.size)):=by
        refine⟨λr hr=>by rw[(List.mem_replicate.1 hr).2];exact J.1,?_,λa b pv K=>N.2.2 a b pv ?_⟩
        ·have:=N.2.1;simp only[List.length_replicate]at this ⊢;have h5:m1.toNat*i.size<=R.toNat*i.size:=arK _ Om;omega
        ·unfold at2 at K ⊢;rw[List.getElem?_replicate]at K ⊢;split at K
         ·rw[aE Om];exact K
         ·simp at K
       obtain⟨g1,g2⟩:=hW.SE e η;refine⟨_,_,_,w.heap.size,yM (s:=Instr.makeSlice t (.int k1 m1) (.int k2 R)) ?_ A,D,?_,g1,g2⟩
       ·unfold execOp;rw[M];simp only[hx,hy]
       ·refine .osl (n:=(madeCells Y.cells (R.toNat*i.size)).size) rfl rfl (.inr aX) Om (by simp only[maxLen];omega) (Cy _ _ _) (by rw[size_madeCells];omega)
      ·cases B
     ·cases B
    ·cases u
   ·cases u
  ·cases u
 all_goals (first
  |(simp only[aqB]at u;obtain⟨_,-,rfl⟩:=u;simp[POp.iR]at V;done)
  |skip)
 all_goals (repeat' (first|(split at u)|(simp only[aqB]at u;obtain⟨_,-,rfl⟩:=u;simp[POp.iR]at V;done)|(cases u;simp[POp.iR]at V;done)|(cases u;done)))
 all_goals (rw[Ew u]at V;cases V)
end
open Go Go.RowKit
section
variable {ds:List Deferred} {T:Tbl} {n:Nat} {E:Env} {F:PF} {H:PH} {a:Act} {w:World}
theorem bS.XL(hW:bS E H w){o s:Nat}{rs rs':P2_}{u cs:Array Value}{ty:TypeId}(M:H o=some (.rows s rs))(R:w.heap[o]?=some (.cells u ty (0,0)))(N:cs.size=u.size)
  (h:mO E s rs' cs):bS E (H.set o (.rows s rs')) (w.setRow o cs)/\Ext E H w E (H.set o (.rows s rs')) (w.setRow o cs):=by
 have l:=setRow_heap w o u cs ty (0,0) R;have i:∀b,b≠o->(w.setRow o cs).heap[b]?=w.heap[b]?:=λb hb=>setRow_other w o b cs hb;have J:∀b ds,E.G b=some ds->b≠o:=λb ds hb e=>by subst e;have:=(hW.g b ds hb).1 _ M;cases this
 have K:E.sz o=some u.size:=by obtain⟨-,A,y,B,D,-⟩:=hW.h o _ M;rw[R]at B;cases B;exact D
 refine⟨⟨λb ds hb=>?_,λq x hq=>?_,λq m O=>?_⟩,⟨.refl E,rfl,rfl,rfl,by simp,λb _ S=>i b (λe=>by subst e;rw[M]at S;cases S),λq x hq=>?_,λb ds hb=>.inl hb⟩⟩;obtain⟨B,y,fr,D⟩:=hW.g b ds hb;have L:=J b ds hb;refine⟨λx U=>B x ?_,y,fr,(i b L).trans D⟩;rw[cV,aC L]at U;exact U;rw[cV]at hq;split at hq;rename_i e;subst e;cases hq;refine⟨by simpa using(hW.h q _ M).1,cs,ty,l,by rw[N];exact K,h.1,h.2.1,h.2.2⟩;rename_i e;obtain⟨B,D⟩:=hW.h q x hq;exact⟨by simpa using B,D.mono (.refl E) (i q e)⟩;by_cases e:q=o;subst e;rw[K]at O;cases O;exact⟨cs,ty,(0,0),l,N⟩;obtain⟨A,y,fr,B,D⟩:=hW.s q m O;exact⟨A,y,fr,(i q e).trans B,D⟩;rw[cV]at hq;split at hq;rename_i e;subst e;exact .inl ⟨_,M⟩;exact .inl ⟨x,hq⟩
def zp(P:Program)(E:Env)(H:PH)(w:World)(o:Oper)(a:Act)(K:R_):Prop:=
 ∃v i l e H' pv,(execOp a.eval o).run P w=.ok i l/\(i=.value v\/(i=.skip/\v=undef))/\bB e pv v/\bS e H' l/\Ext E H w e H' l/\K pv H'
theorem UW:∀(ps:V_)(r:V_)(c j:Nat),c+Z' ps<=Z' r->(setCells r c ps)[j]?=if c<=j/\j<c+ps.length then ps[j-c]? else r[j]?
 |[],r,c,j,_=>by rw[aC (by intro h;simp at h;omega)];rfl
 |p::ps,r,c,j,h=>by simp only[aqV]at h ⊢;simp only[setCells];rw[UW ps _ (c+1) j (by rw[arD];omega),asX];by_cases e:c=j;subst e;rw[aC Om,aE rfl,aE Om,aE Om];simp;by_cases i:c+1<=j/\j<c+1+Z' ps;rw[aE i,aE Om];have:j-c=(j-(c+1))+1:=Om;rw[this,List.getElem?_cons_succ];rw[aC i,aC e,aC Om]
theorem Mg(L cs:List Value)(off k:Nat)(h:off+Z' cs<=Z' L):(L.take off++cs++L.drop (off+Z' cs))[k]?=if off<=k/\k<off+cs.length then cs[k-off]? else L[k]?:=by
 have e:(L.take off).length=off:=by rw[aqF];omega
 by_cases i:k<off;rw[aC Om,aqT,asE Om,atJ,aE i];by_cases hb:k<off+Z' cs;rw[aE ⟨by omega,hb⟩,aqT,arS Om,e,asE Om];rw[aC Om,aqT,arS Om,e,arS Om,atI];congr 1;omega
theorem mO.store{s:Nat}{rs:P2_}{l:Array Value}(h:mO E s rs l){i c:Nat}{r ps:V_}{B:List Value}(K:rs[i]?=some r)(V:c+Z' ps<=s)(W:Z' B=Z' ps)
  (S:∀u∈B,u.oneCell'=true) (J:∀(j:Nat) p u,ps[j]?=some p->B[j]?=some u->bB E p u) :
  mO E s (rs.set i (setCells r c ps)) (l.toList.take (i*s+c)++B++l.toList.drop (i*s+c+Z' B)).toArray:=by
 have hi:i<Z' rs:=by
  rcases aqW i rs.length with h'|h'
  exact h';rw[arC h']at K;cases K
 have O:Z' r=s:=h.1 r (asC K);have M:(i+1)*s<=Z' rs*s:=arK _ hi;rw[asL]at M;have R:=h.2.1;have D:i*s+c+Z' B<=Z' l.toList:=by(have e:Z' l.toList=l.size:=atD;omega)
 refine⟨λq hq=>?_,?_,λy j pv hp=>?_⟩;rcases auB hq with hq|rfl
 exact h.1 q hq;rw[JD];exact O;rw[arD,List.size_toArray];simp only[apV,aqF,arM];have e:Z' l.toList=l.size:=atD;omega;rw[List.getElem?_toArray,Mg _ _ _ _ D];by_cases e:y=i;subst e;simp only[at2,asX,if_true,hi,atO]at hp;rw[UW ps r c j Om]at hp;split at hp;rename_i U;rw[aE Om];have e2:y*s+j-(y*s+c)=j-c:=Om;rw[e2];have hlt:j-c<Z' B:=Om;exact⟨B[j-c],apZ hlt,S _ (apW hlt),J _ pv _ hp (apZ hlt)⟩;rename_i U;have A:at2 rs y j=some pv:=by simp[at2,K,hp]
 have L:=(BT h.1 A).2;rw[aC Om,Array.getElem?_toList];exact h.2.2 y j pv A;have A:at2 rs y j=some pv:=by simp only[at2]at hp ⊢;rw[asX,aC (λx=>e x.symm)]at hp;exact hp
 have L:=(BT h.1 A).2;have N:¬(i*s+c<=y*s+j/\y*s+j<i*s+c+Z' B):=by
  rcases aqW y i with h'|h'
  have:(y+1)*s<=i*s:=arK _ h';rw[asL]at this;omega;have:(i+1)*s<=y*s:=arK _ Om;rw[asL]at this;omega
 rw[aC N,Array.getElem?_toList];exact h.2.2 y j pv A
theorem Ga{o:Oper}{t:TypeId}{O x:Operand}{pp px:aP}{k:Nat}{pa pv:PV}{H':PH}(ho:o.op=.store t O x)(hs:T.size t=some k)(hp:T.opd O=some pp)(hx:T.opd x=some px)
  (W:pp.ev F=some pa) (X:px.ev F=some pv) (L:Z' pv.cells=k) (l:storeAt H pa pv.cells=some H') (hA:eP ds n E F a) (hW:bS E H w) (hN:E.num=T.num) :
  ∃w',(execOp a.eval o).run T.P w=.ok .skip w'/\bS E H' w'/\Ext E H w E H' w':=by
 unfold storeAt at l;split at l;rename_i q size i c;split at l;rename_i s rs hq;split at l;rename_i D;obtain⟨rfl,R,M⟩:=D;split at l;rename_i r Y;cases l;have ra:=bH hp W hA hN;generalize S:a.eval O=ea at ra;cases ra;obtain⟨c1,c2,c3⟩:=BV (bH hx X hA hN) M;obtain⟨-,y,ty,hh,α,N,J,B⟩:=hW.h q _ hq;have hR:mO E s rs y:=⟨N,J,B⟩;have hi:i<Z' rs:=by
  rcases aqW i rs.length with h'|h'
  exact h';rw[arC h']at Y;cases Y
 have U:(i+1)*s<=Z' rs*s:=arK _ hi;rw[asL]at U;have Z:(a.eval x).cells.toList.length=Z' pv.cells:=by simpa using c1
 have K:i*s+c+0+(a.eval x).cells.toList.length<=y.size:=Om;have A:=run_storeCells_at T.P q (i*s+c) ty (a.eval x).cells.toList 0 y w hh K c2;simp only[arG]at A;obtain⟨g1,g2⟩:=hW.XL hq hh (cs:=(y.toList.take (i*s+c)++(a.eval x).cells.toList++y.toList.drop (i*s+c+(a.eval x).cells.toList.length)).toArray)
  (by rw[List.size_toArray];simp only[apV,aqF,arM];have e:Z' y.toList=y.size:=atD;omega)
  (hR.store Y R Z c2 (λj p u hp hu=>c3 j p u hp (by simpa using hu)))
 refine⟨_,?_,g1,g2⟩;unfold execOp;rw[ho];have V:¬((a.eval x).cells.size≠k):=by rw[c1,L];simp
 simp[S,Instr.storeAt,Instr.sureAddr,storeVar,lI hs,V,A];cases l;cases l;cases l;cases l
end
open Go Go.RowKit
section
variable {T:Tbl} {n:Nat} {E:Env} {F:PF} {H:PH} {a:Act} {w:World}
theorem vz{s:Nat}{pv:PV}{v:Value}{rows:P2_}(P:Program)(hW:bS E H w)(V:bB E pv v)(h:dH H s pv=some rows) :
  ∃L cap,∃news:List Value,v=.slice L rows.length cap/\Z' news=Z' rows*s/\(∀u∈news,u.oneCell'=true)/\(∀r∈rows,Z' r=s) /\
   (∀i j q,at2 rows i j=some q->∃u,news[i*s+j]?=some u/\bB E q u) /\
   ∀A:World,A.heap=w.heap->(Builtin.firstCells s rows.length v).run P A=.ok news.toArray A:=by
 obtain⟨L,cap,rfl,O,l,U⟩:=ov hW V h;by_cases J:rows=[]
 ·subst J;refine⟨L,cap,[],rfl,by simp,by simp,by simp,λi j q hq=>by simp[at2]at hq,λA _=>?_⟩;cases L with
  |none=>simp[Builtin.firstCells]
  |some x=>simp[Builtin.firstCells,Go.loadCells,Go.loadCellsFrom]
 obtain⟨b,off,rfl,e⟩:=U J;have B:∀k,k<Z' rows*s->∃u q,at2 rows (k/s) (k%s)=some q/\w.cell? ⟨b,off+k,none⟩=some u/\u.oneCell'=true/\bB E q u:=by
  intro k y;have R:0<s:=by
   rcases arZ s with h|h
   subst h;simp at y;exact h
  have N:k/s<Z' rows:=(auD R).2 y;have W:k%s<s:=Nat.mod_lt _ R;have S:k/s*s+k%s=k:=by rw[arW];exact Nat.div_add_mod k s
  have hq:∃q,at2 rows (k/s) (k%s)=some q:=by have Y:=l rows[k/s] (apW N);exact⟨rows[k/s][k%s]'Om,by simp[at2,N,apZ (Om:k%s<rows[k/s].length)]⟩
  obtain⟨q,hq⟩:=hq;obtain⟨u,g1,g2,g3⟩:=e _ _ q hq;rw[S]at g1;exact⟨u,q,hq,g1,g2,g3⟩
 refine⟨_,cap,(apQ (Z' rows*s)).map λk=>(w.cell? ⟨b,off+k,none⟩).getD undef,rfl,by simp,?_,l,?_,?_⟩;intro u K;simp only[aqJ,aqN]at K;obtain⟨k,y,rfl⟩:=K;obtain⟨u,q,-,g1,g2,-⟩:=B k y;simp[g1,g2];intro i j q hq;obtain⟨hi,X⟩:=BT l hq;have hlt:i*s+j<Z' rows*s:=by have:(i+1)*s<=Z' rows*s:=arK _ hi;rw[asL]at this;omega
 obtain⟨u,g1,g2,g3⟩:=e i j q hq;refine⟨u,?_,g3⟩;rw[aqE,arU hlt];simp[g1];intro A M;refine run_firstCells_some A s rows.length _ _ cap _ aX (λj u K=>?_);rw[add_plain];simp only[aqE,aqB]at K;obtain⟨k,y,rfl⟩:=K;have D:j<Z' rows*s:=by
  rcases aqW j (Z' rows*s)with h'|h'
  exact h';rw[arC (by simpa using h')]at y;cases y
 rw[arU D]at y;cases y;obtain⟨u,q,-,g1,-,-⟩:=B j D;have:A.cell? ⟨b,off+j,none⟩=w.cell? ⟨b,off+j,none⟩:=by simp[World.cell?,M]
 rw[this,g1];rfl
theorem HN{t ty e:TypeId}{i:TypeInfo}(B:T.P.underlying t=some (.slice e))(hi:T.P.info? e=some i)(base:Option Addr)(u l c:Nat)(y:Option Addr)(x:u<=l)
  (A:(Builtin.firstCells i.size 0 (.slice y 0 c)).run T.P w=.ok #[] w):(Builtin.append_ #[t,t] ty #[.slice base u l,.slice y 0 c]).run T.P w=.ok (.slice base u l) w:=by
 cases base with
 |none=>simp[Builtin.append_,run_underlying B,sizeOf,typeInfo,hi,Builtin.lenOf,x,A]
 |some b=>simp[Builtin.append_,run_underlying B,sizeOf,typeInfo,hi,Builtin.lenOf,x,A,storeCells]
theorem Dk{t ty e bt:TypeId}{i:TypeInfo}(N:T.P.underlying t=some (.slice e))(hi:T.P.info? e=some i)(g l y m c:Nat)(J:Option Addr)(x:Array Value)(M:w.heap[g]?=some (.cells x bt (0,0)))
  (news:List Value) (O:Z' news=m*i.size) (L:(Builtin.firstCells i.size m (.slice J m c)).run T.P w=.ok news.toArray w) (K:∀u∈news,u.oneCell'=true) (A:l+m<=y) (B:l*i.size+Z' news<=x.size) :
  (Builtin.append_ #[t,t] ty #[.slice (some ⟨g,0,none⟩) l y,.slice J m c]).run T.P w =
   .ok (.slice (some ⟨g,0,none⟩) (l+m) y) (w.setRow g (x.toList.take (l*i.size)++news++x.toList.drop (l*i.size+Z' news)).toArray):=by
 have D:=run_storeCells_at T.P g (l*i.size) bt news 0 x w M (by simpa using B) K;simp only[arG]at D;simp[Builtin.append_,run_underlying N,sizeOf,typeInfo,hi,Builtin.lenOf,A,L,Addr.add_lit,D]
theorem xb{t ty e bt:TypeId}{i:TypeInfo}(N:T.P.underlying t=some (.slice e))(hi:T.P.info? e=some i)(g d l y m c:Nat)(J:Option Addr)(x:Array Value)(M:w.heap[g]?=some (.cells x bt (0,0)))
  (news:List Value) (O:Z' news=m*i.size) (L:(Builtin.firstCells i.size m (.slice J m c)).run T.P w=.ok news.toArray w) (K:∀u∈news,u.oneCell'=true) (A:l+m<=y) (B:d+l*i.size+Z' news<=x.size) :
  (Builtin.append_ #[t,t] ty #[.slice (some ⟨g,d,none⟩) l y,.slice J m c]).run T.P w =
   .ok (.slice (some ⟨g,d,none⟩) (l+m) y) (w.setRow g (x.toList.take (d+l*i.size)++news++x.toList.drop (d+l*i.size+Z' news)).toArray):=by
 have D:=run_storeCells_at T.P g (d+l*i.size) bt news 0 x w M (by simpa using B) K;simp only[arG]at D;simp[Builtin.append_,run_underlying N,sizeOf,typeInfo,hi,Builtin.lenOf,A,L,add_plain,D]
theorem Dj{t ty e:TypeId}{i:TypeInfo}{z:Value}(N:T.P.underlying t=some (.slice e))(hi:T.P.info? e=some i)(O:i.zero=some z)(base:Option Addr)(l u m c:Nat)(B:Option Addr)(apN news:List Value)
  (M:(Builtin.firstCells i.size l (.slice base l u)).run T.P w.drew=.ok apN.toArray w.drew) (J:(Builtin.firstCells i.size m (.slice B m c)).run T.P w.drew=.ok news.toArray w.drew)
  (K:u<l+m) (A:l+m<=maxLen) (hb:(l+m)*i.bytes<=140737488355328) :
  (Builtin.append_ #[t,t] ty #[.slice base l u,.slice B m c]).run T.P w =
   .ok (.slice (some ⟨w.heap.size,0,none⟩) (l+m) (grownCap w (l+m) u e))
    (w.drew.alloc (.cells (apN.toArray++news.toArray++Builtin.zeroCells z.cells (grownCap w (l+m) u e-(l+m))) e)):=by
 have L:¬(l+m<=u):=Om;simp only[maxLen]at A;have y:¬(9223372036854775807<((l:Int)+(m:Int))):=Om;have D:=growslice_fits K hb;have x:¬(281474976710656<Builtin.nextslicecap (l+m) u*i.bytes):=Om;simp[Builtin.append_,run_underlying N,sizeOf,typeInfo,zeroValue,hi,O,Builtin.lenOf,L,y,x,Question.forced,J,M,newRow,grownCap];congr 2;apply Array.ext';simp[aqT]
theorem bS.drew(hW:bS E H w):bS E H w.drew:=⟨hW.g,λo x e=>⟨(hW.h o x e).1,(hW.h o x e).2.mono (.refl E) rfl⟩,hW.s⟩
theorem Ext.rz{e:Env}{H':PH}{i:World}(h:Ext E H w.drew e H' i):Ext E H w e H' i:=⟨h.env,h.os,h.tape,h.output,h.size,h.block,h.new,h.newG⟩
theorem Jf{rs src:P2_}(i j:Nat):at2 (rs++src) i j=if i<rs.length then at2 rs i j else at2 src (i-Z' rs) j:=by
 unfold at2;rw[List.getElem?_append];split<;>rfl
theorem mO.join{s:Nat}{rs src:P2_}{apN news:List Value}{tail:List Value}(y:∀r∈rs,Z' r=s)(A:∀r∈src,Z' r=s)(l:Z' apN=Z' rs*s)(x:Z' news=Z' src*s)
  (D:∀i j q,at2 rs i j=some q->∃u,apN[i*s+j]?=some u/\u.oneCell'=true/\bB E q u) (B:∀i j q,at2 src i j=some q->∃u,news[i*s+j]?=some u/\u.oneCell'=true/\bB E q u) :
  mO E s (rs++src) (apN++news++tail).toArray:=by
 refine⟨λr J=>?_,?_,λi j q hq=>?_⟩;rcases aqZ.1 J with h|h
 exact y r h;exact A r h;rw[List.size_toArray,apV,apV,apV,l,x,arJ];omega;rw[Jf]at hq;rw[List.getElem?_toArray];split at hq;rename_i hi;obtain⟨u,g1,g2,g3⟩:=D i j q hq;refine⟨u,?_,g2,g3⟩;have hlt:i*s+j<Z' apN:=by
  rcases aqW (i*s+j) apN.length with h'|h'
  exact h';rw[arC h']at g1;cases g1
 rw[aqT,asE hlt];exact g1;rename_i hi;obtain⟨u,g1,g2,g3⟩:=B _ j q hq;refine⟨u,?_,g2,g3⟩;have hlt:(i-Z' rs)*s+j<Z' news:=by
  rcases aqW ((i-Z' rs)*s+j) news.length with h'|h'
  exact h';rw[arC h']at g1;cases g1
 have e:i*s+j=Z' apN+((i-Z' rs)*s+j):=by rw[l,<-atA,<-arJ];congr 2;omega
 rw[e,aqT,arS Om,Nat.add_sub_cancel_left,asE hlt];exact g1
theorem bS.dead(hW:bS E H w){o:Nat}{x:aR}(l:H o=some x):bS E (H.set o .dead) w/\Ext E H w E (H.set o .dead) w:=by
 refine⟨⟨λb ds hb=>⟨λy i=>?_,(hW.g b ds hb).2⟩,λq y hq=>?_,hW.s⟩,⟨.refl E,rfl,rfl,rfl,apU _,λ_ _ _=>rfl,λq y hq=>?_,λb ds hb=>.inl hb⟩⟩;rw[cV]at i;split at i;cases i;rfl;exact(hW.g b ds hb).1 y i;rw[cV]at hq;split at hq;rename_i e;subst e;cases hq;exact⟨(hW.h q x l).1,trivial⟩;exact hW.h q y hq;rw[cV]at hq;split at hq;rename_i e;subst e;exact .inl ⟨x,l⟩;exact .inl ⟨y,hq⟩
end
open Go Go.RowKit
section
variable {T:Tbl} {n:Nat} {E:Env} {F:PF} {H:PH} {a:Act} {w:World}
theorem Kd(w:World)(i l:Nat)(e:TypeId):i<=grownCap w i l e:=grownCap_ge w i l e
theorem mX{o:Oper}{c:Call}{x y:Operand}{t:TypeId}{v:Value}{u:World}(B:o.op=.call c)(i:c.callee=.builtin .append)(e:c.args.toList=[x,y])(l:c.argTypes.toList=[t,t])
  (h:(Builtin.append_ #[t,t] o.type #[a.eval x,a.eval y]).run T.P w=.ok v u):(execOp a.eval o).run T.P w=.ok (.value v) u:=by
 unfold execOp;rw[B];have A:c.argTypes=#[t,t]:=by apply Array.ext';simp[l]
 have e2:=Je e a.eval;simp[resolve,i,invoke,builtin,A,e2,h]
theorem bS.trim(hW:bS E H w){o s k:Nat}{rs:P2_}(A:H o=some (.rows s rs)):bS E (H.set o (.rows s (rs.take k))) w/\Ext E H w E (H.set o (.rows s (rs.take k))) w:=by
 refine⟨⟨λb ds hb=>⟨λy D=>?_,(hW.g b ds hb).2⟩,λq y hq=>?_,hW.s⟩,⟨.refl E,rfl,rfl,rfl,apU _,λ_ _ _=>rfl,λq y hq=>?_,λb ds hb=>.inl hb⟩⟩;rw[cV]at D;split at D;rename_i e;subst e;have:=(hW.g b ds hb).1 _ A;cases this;exact(hW.g b ds hb).1 y D;rw[cV]at hq;split at hq;rename_i e;subst e;cases hq;obtain⟨K,x,ty,L,B,u,J,l⟩:=hW.h q _ A;refine⟨K,x,ty,L,B,λr M=>u r (auA M),?_,λi j p hp=>l i j p ?_⟩;have:(rs.take k).length*s<=Z' rs*s:=arK _ (by rw[aqF];omega);omega;unfold at2 at hp ⊢;rw[atJ]at hp;split at hp;exact hp;simp at hp;exact hW.h q y hq;rw[cV]at hq;split at hq;rename_i e;subst e;exact .inl ⟨_,A⟩;exact .inl ⟨y,hq⟩
theorem zx{o:Oper}{c:Call}{x y:Operand}{t e:TypeId}{i:TypeInfo}{px py:PV}{K:R_}(ho:o.op=.call c)(ο:c.callee=.builtin .append)(ξ:c.args.toList=[x,y])(ρ:c.argTypes.toList=[t,t])
  (ht:T.P.underlying t=some (.slice e)) (hi:T.P.info? e=some i) (hz:i.zero.isSome=true) (Q':(i.zero.map (·.cells.size))=some i.size) (h0:0<i.size)
  (hx:bB E px (a.eval x)) (hy:bB E py (a.eval y)) (hK:kM H i.size i.bytes px py K) (hW:bS E H w):zp T.P E H w o a K:=by
 obtain⟨z,hz⟩:=Option.isSome_iff_exists.1 hz;have R':z.cells.size=i.size:=by simpa[hz]using Q'
 obtain⟨src,x',hK⟩:=hK;obtain⟨ad,cap,news,S,γ,Γ,ν,β,L⟩:=vz T.P hW hy x';have grow:∀(base:Option Addr)(l A:Nat)(rs:P2_) (apN:List Value),(Builtin.firstCells i.size l (.slice base l A)).run T.P w.drew=.ok apN.toArray w.drew->Z' apN=l*i.size->Z' rs=l ->
   (∀r∈rs,Z' r=i.size)->(∀O j q,at2 rs O j=some q->∃u,apN[O*i.size+j]?=some u/\u.oneCell'=true/\bB E q u)->A<l+Z' src->roomFor l src.length i.bytes->a.eval x=.slice base l A ->
   ∀(H1:PH),bS E H1 w->Ext E H w E H1 w->∃v w' E' q,(execOp a.eval o).run T.P w=.ok (.value v) w'/\H1 q=none/\bB E' (.osl q i.size 0 (l+Z' src)) v/\bS E' (H1.set q (.rows i.size (rs++src))) w'/\Ext E H w E' (H1.set q (.rows i.size (rs++src))) w':=by
  intro base l A rs apN υ μ Z P' N' hlt J M H1 o' C';have D:=Dj (w:=w) (ty:=o.type) ht hi hz base l A src.length cap ad apN news υ (by rw[<-S];exact L w.drew rfl) hlt J.1 J.2;have G':=Kd w (l+Z' src) A e;have D':=grownCap_le_maxLen w (l+Z' src) A e J.1;generalize V':grownCap w (l+Z' src) A e=gc at *
  have K':∀O j q,at2 src O j=some q->∃u,news[O*i.size+j]?=some u/\u.oneCell'=true/\bB E q u:=λO j q hq=>by obtain⟨u,g1,g2⟩:=β O j q hq;exact⟨u,g1,Γ u (asC g1),g2⟩
  have hR:=mO.join (E:=E) (tail:=(Builtin.zeroCells z.cells (gc-(l+Z' src))).toList) P' ν (by rw[μ,Z]) γ N' K';have Ξ:(apN.toArray++news.toArray++Builtin.zeroCells z.cells (gc-(l+Z' src)))=(apN++news++(Builtin.zeroCells z.cells (gc-(l+Z' src))).toList).toArray:=by apply Array.ext';simp
  rw[Ξ]at D;have ε:(apN++news++(Builtin.zeroCells z.cells (gc-(l+Z' src))).toList).toArray.size=gc*i.size:=by
   have ez:(Builtin.zeroCells z.cells (gc-(l+Z' src))).toList.length=(gc-(l+Z' src))*i.size:=by rw[atD,size_zeroCells,R']
   rw[List.size_toArray,apV,apV,ez,μ,γ,<-arJ,<-arJ];congr 1;omega
  obtain⟨g1,g2⟩:=o'.drew.SE e hR;refine⟨_,_,_,w.heap.size,mX ho ο ξ ρ (by rw[M,S];exact D),o'.Kk,?_,g1,C'.trans g2.rz⟩;refine .osl rfl rfl (.inr aX) G' D' (Cy _ _ _) ?_;rw[ε];omega
 split at hK
 
 have A':a.eval x=.slice none 0 0:=by generalize a.eval x=v at hx;cases hx;rfl
 obtain⟨J,t',j'⟩:=hK;by_cases δ:src=[];subst δ;have ζ:=L w rfl;have ω:news=[]:=auF (by rw[γ];simp);subst ω;rw[S]at ζ;have D:=HN (w:=w) (ty:=o.type) ht hi none 0 0 cap ad (apU _) ζ;exact⟨_,_,w,E,H,.aG,mX ho ο ξ ρ (by rw[A',S];exact D),.inl rfl,.aG,hW,.refl E H w,t' rfl⟩;have Ω:0<Z' src:=List.length_pos_iff.2 δ;obtain⟨v,w',E',q,g1,g2,g3,g4,g5⟩:=grow none 0 0 [] [] (by simp[Builtin.firstCells]) aX rfl aX (λO j q hq=>by simp[at2]at hq) Om J A' H hW (.refl E H w);refine⟨v,_,w',E',_,_,g1,.inl rfl,g3,g4,g5,?_⟩;have:=j' δ q g2;simpa using this
 
 rename_i q s len;obtain⟨rfl,-,J,rs,hq,O',W,κ⟩:=hK;have e':∃b A,a.eval x=.slice (some b) len A:=by generalize a.eval x=v at hx;cases hx;exact⟨_,_,rfl⟩
 obtain⟨b,A,M⟩:=e';obtain⟨l,rfl⟩:∃l,l=len:=⟨_,rfl⟩
 ·rw[M]at hx;cases hx with
  |osl hb k' Y η θ Δ V=>
  rename_i N;obtain⟨u',B,ty,hh,ε,h',Ψ,Λ⟩:=hW.h q _ hq;obtain⟨σ,b'⟩:=hW.trim (k:=l) hq;obtain⟨-,m',S',φ,y',R,Θ,α⟩:=σ.h q (.rows i.size (rs.take l)) (by rw[cV,aE rfl]);rw[hh]at φ;cases φ;have Z:(rs.take l).length=l:=by rw[aqF];omega
  generalize v':rs.take l=U at *
  have c':N=B.size:=by rw[ε]at Δ;cases Δ;rfl
  subst c';simp only[Nat.zero_mul,aqA]at V Y;by_cases δ:src=[];subst δ;have ζ:=L w rfl;have ω:news=[]:=auF (by rw[γ];simp);subst ω;rw[S]at ζ;have D:=HN (w:=w) (ty:=o.type) ht hi (some b) l A cap ad η ζ;simp only[aqY,asG,arG]at W;exact⟨_,_,w,E,_,.osl q i.size 0 l,mX ho ο ξ ρ (by rw[M,S];exact D),.inl rfl,.osl hb k' (by simpa using Y) η θ ε Om,σ,b',W⟩;have Ω:0<Z' src:=List.length_pos_iff.2 δ;by_cases X:l+Z' src<=A;have τ:b=⟨q,0,none⟩:=by
   have:b.off=0:=by
    rcases Y with h|h
    omega;exact h
   cases b;simp_all
  subst τ;have ψ:(l+Z' src)*i.size<=A*i.size:=arK _ X;rw[arJ]at ψ;have D:=Dk (w:=w) (ty:=o.type) ht hi q l A src.length cap ad B hh news γ (by rw[<-S];exact L w rfl) Γ X Om;have f':(B.toList.take (l*i.size)).length=Z' U*i.size:=by rw[aqF,atD,Z];omega
  have d':=mO.join (E:=E) (s:=i.size) (rs:=U) (src:=src) (apN:=B.toList.take (l*i.size)) (news:=news) (tail:=B.toList.drop (l*i.size+Z' news)) R ν f' γ
   (λO j p hp=>by obtain⟨u,g1,g2,g3⟩:=α O j p hp;obtain⟨χ,p'⟩:=BT R hp;refine⟨u,?_,g2,g3⟩;have:(O+1)*i.size<=Z' U*i.size:=arK _ χ;rw[asL,Z]at this;rw[atJ,aE Om,Array.getElem?_toList];exact g1)
   (λO j p hp=>by obtain⟨u,g1,g2⟩:=β O j p hp;exact⟨u,g1,Γ u (asC g1),g2⟩)
  obtain⟨g1,g2⟩:=hW.XL hq hh (rs':=U++src) (cs:=(B.toList.take (l*i.size)++news++B.toList.drop (l*i.size+Z' news)).toArray)
   (by rw[List.size_toArray];simp only[apV,aqF,arM];have e:Z' B.toList=B.size:=atD;omega) d'
  exact⟨_,_,_,E,_,.osl q i.size 0 (l+Z' src),mX ho ο ξ ρ (by rw[M,S];exact D),.inl rfl,.osl rfl rfl (.inr aX) X θ ε Om,g1,g2,W⟩;have υ:∃apN:List Value,(Builtin.firstCells i.size l (.slice (some b) l A)).run T.P w.drew=.ok apN.toArray w.drew/\Z' apN=l*i.size /\
    (∀O j p,at2 U O j=some p->∃u,apN[O*i.size+j]?=some u/\u.oneCell'=true/\bB E p u):=by
   by_cases I':l=0;subst I';refine⟨[],run_firstCells_some w.drew i.size 0 b 0 A [] aX aX,by simp,λO j p hp=>?_⟩;have:=(BT R hp).1;omega;have τ:b=⟨q,0,none⟩:=by
    have:b.off=0:=by
     rcases Y with h|h
     omega;exact h
    cases b;simp_all
   subst τ;have r':(B.toList.take (l*i.size)).length=l*i.size:=by rw[aqF,atD];rw[Z]at Θ;omega
   refine⟨B.toList.take (l*i.size),run_firstCells_some w.drew i.size l _ l A _ r' (λj u hu=>?_),r',λO j p hp=>?_⟩;rw[add_plain,aqA];rw[atJ]at hu;split at hu;rw[Array.getElem?_toList]at hu;show w.cell? ⟨q,j,none⟩=some u;rw[cell_of_row w q j B ty (0,0) hh];exact hu;cases hu;obtain⟨u,g1,g2,g3⟩:=α O j p hp;obtain⟨χ,p'⟩:=BT R hp;refine⟨u,?_,g2,g3⟩;have:(O+1)*i.size<=Z' U*i.size:=arK _ χ;rw[asL,Z]at this;rw[atJ,aE Om,Array.getElem?_toList];exact g1
  obtain⟨apN,υ,μ,M'⟩:=υ;obtain⟨v,w',E',q',g1,g2,g3,g4,g5⟩:=grow (some b) l A U apN υ μ Z R M' Om J M H hW (.refl E H w);exact⟨v,_,w',E',_,_,g1,.inl rfl,g3,g4,g5,κ q' g2⟩
 ·
  rename_i q s off len;obtain⟨rfl,J,rs,hq,J',W,κ⟩:=hK;have l':dH H i.size (.osl q i.size (off+1) len)=some ((rs.drop (off+1)).take len):=by simp only[dH,if_true,hq,true_and,aE J']
  obtain⟨U',A,apN,M,μ,L',g',Φ,ι⟩:=vz T.P hW hx l';have z':((rs.drop (off+1)).take len).length=len:=by rw[aqF,arM];omega
  rw[z']at M ι μ;have B':=hx;rw[M]at B';obtain⟨u',B,ty,hh,ε,h',Ψ,Λ⟩:=hW.h q _ hq;cases B' with
  |osl hb k' Y η θ Δ V=>
  rename_i N b;have c':N=B.size:=by rw[ε]at Δ;cases Δ;rfl
  subst c';obtain⟨σ,b'⟩:=hW.trim (k:=off+1+len) hq;have W':(off+1)*i.size+A*i.size<=B.size:=V;clear V;by_cases δ:src=[];subst δ;have ζ:=L w rfl;have ω:news=[]:=auF (by rw[γ];simp);subst ω;rw[S]at ζ;have D:=HN (w:=w) (ty:=o.type) ht hi (some b) len A cap ad η ζ;simp only[aqY,asG,arG]at W;exact⟨_,_,w,E,_,.osl q i.size (off+1) len,mX ho ο ξ ρ (by rw[M,S];exact D),.inl rfl,.osl hb k' Y η θ ε Om,σ,b',W⟩;have Ω:0<Z' src:=List.length_pos_iff.2 δ;by_cases X:len+Z' src<=A;obtain⟨-,m',S',φ,y',R,Θ,α⟩:=σ.h q (.rows i.size (rs.take (off+1+len))) (by rw[cV,aE rfl]);rw[hh]at φ;cases φ;have Z:(rs.take (off+1+len)).length=off+1+len:=by rw[aqF];omega
  generalize v':rs.take (off+1+len)=U at *
  have τ:b=⟨q,(off+1)*i.size,none⟩:=by
   have:b.off=(off+1)*i.size:=by
    rcases Y with h|h
    omega;exact h
   cases b;simp_all
  subst τ;have ψ:(len+Z' src)*i.size<=A*i.size:=arK _ X;rw[arJ]at ψ;have s':(off+1+len)*i.size=(off+1)*i.size+len*i.size:=arJ ..;have D:=xb (w:=w) (ty:=o.type) ht hi q ((off+1)*i.size) len A src.length cap ad B hh news γ (by rw[<-S];exact L w rfl) Γ X Om;rw[<-s']at D;have f':(B.toList.take ((off+1+len)*i.size)).length=Z' U*i.size:=by rw[aqF,atD,Z];omega
  have d':=mO.join (E:=E) (s:=i.size) (rs:=U) (src:=src) (apN:=B.toList.take ((off+1+len)*i.size)) (news:=news) (tail:=B.toList.drop ((off+1+len)*i.size+Z' news)) R ν f' γ
   (λO j p hp=>by obtain⟨u,g1,g2,g3⟩:=α O j p hp;obtain⟨χ,p'⟩:=BT R hp;refine⟨u,?_,g2,g3⟩;have:(O+1)*i.size<=Z' U*i.size:=arK _ χ;rw[asL,Z]at this;rw[atJ,aE Om,Array.getElem?_toList];exact g1)
   (λO j p hp=>by obtain⟨u,g1,g2⟩:=β O j p hp;exact⟨u,g1,Γ u (asC g1),g2⟩)
  obtain⟨g1,g2⟩:=hW.XL hq hh (rs':=U++src) (cs:=(B.toList.take ((off+1+len)*i.size)++news++B.toList.drop ((off+1+len)*i.size+Z' news)).toArray)
   (by rw[List.size_toArray];simp only[apV,aqF,arM];have e:Z' B.toList=B.size:=atD;omega) d'
  exact⟨_,_,_,E,_,.osl q i.size (off+1) (len+Z' src),mX ho ο ξ ρ (by rw[M,S];exact D),.inl rfl,.osl rfl rfl (.inr rfl) X θ ε Om,g1,g2,W⟩;obtain⟨v,w',E',q',g1,g2,g3,g4,g5⟩:=grow (some b) len A ((rs.drop (off+1)).take len) apN (by rw[<-M];exact ι w.drew rfl) μ z' g'
   (λO j p hp=>by obtain⟨u,g1,g2⟩:=Φ O j p hp;exact⟨u,g1,L' u (asC g1),g2⟩) Om J M H hW (.refl E H w)
  exact⟨v,_,w',E',_,_,g1,.inl rfl,g3,g4,g5,κ q' g2⟩
 cases hK
end
open Go Go.RowKit
section
variable {ds:List Deferred} {T:Tbl} {n:Nat} {E:Env} {F:PF} {H:PH} {a:Act} {w:World}
def oneOf(e:Array Value)(k:Nat):Value:=if((e[k]?).getD (.int .i64 0)).oneCell' then(e[k]?).getD (.int .i64 0)else .int .i64 0
theorem Qc(e:Array Value)(k:Nat):(oneOf e k).oneCell'=true:=by
 unfold oneOf;split;assumption;rfl
theorem bv{o s:Nat}{rs:P2_}{l:Array Value}{K:Env}(x:E.le K)(Z:K.G o=some l)(α:E.sz o=some l.size)(U:mO E s rs l){pv:PV}{v:Value}(h:bB E pv v) :
  bB K (pv.cZ o s rs) v:=by
 unfold PV.cZ;split;rename_i q s' off len;split;rename_i e;subst e;split
 ·rename_i hc;obtain⟨rfl,V⟩:=hc;cases h with
  |osl hb S D A B hn R=>
  rename_i cap N L;have W:((rs.drop off).take len).length=len:=by rw[aqF,arM];omega
  have M:∀i j p,at2 ((rs.drop off).take len) i j=some p->at2 rs (off+i) j=some p:=by intro i j p hp;unfold at2 at hp ⊢;rw[atJ]at hp;split at hp;rw[atI]at hp;exact hp;simp at hp
  have J:bB K (.sl s' ((rs.drop off).take len)) (.slice (some L) ((rs.drop off).take len).length cap):=by
   have Y:∀i j p,at2 ((rs.drop off).take len) i j=some p->∃u,l[(off+i)*s'+j]?=some u/\bB E p u/\oneOf l ((off+i)*s'+j)=u:=by intro i j p hp;obtain⟨u,g1,g2,g3⟩:=U.2.2 _ _ _ (M i j p hp);exact⟨u,g1,g3,by simp[oneOf,g1,g2]⟩
   refine .sl (λi j=>oneOf l ((off+i)*s'+j)) (by rw[W];exact A) B (λr hr=>U.1 r (List.mem_of_mem_drop (auA hr))) (λO=>?_) (λi j=>Qc _ _) (λi j p hp=>?_);have X:0<((rs.drop off).take len).length:=List.length_pos_iff.2 O;have y:L.off=off*s':=by
    rcases D with h|h
    omega;exact h
   refine⟨L,rfl,S,λi j p hp=>?_⟩;obtain⟨u,g1,-,g3⟩:=Y i j p hp;rw[g3];unfold Env.cell;rw[hb,Z,atO,y];have e:off*s'+i*s'+j=(off+i)*s'+j:=by rw[arJ]
   rw[e];exact g1;obtain⟨u,-,g2,g3⟩:=Y i j p hp;rw[g3];exact g2.mono x
  rw[W]at J;exact J
 exact .junk _;exact h.mono x;exact h.mono x
theorem A5{o s:Nat}{rs:P2_}{e:Array Value}{x:Env}(i:E.le x)(y:x.G o=some e)(l:E.sz o=some e.size)(A:mO E s rs e){pv:PV}{v:Value}(h:bB E pv v) :
  bB x (pv.nF o s rs) v:=by
 unfold PV.nF;split
 ·cases h with
  |agg vs D B J=>
  refine .agg vs (by simpa using D) B (λj p u hp K=>?_);rw[aqE,aqB]at hp;obtain⟨q,hq,rfl⟩:=hp;exact bv i y l A (J j q u hq K)
 exact bv i y l A h
theorem Zq{o s:Nat}{rs:P2_}{e:Array Value}{x:Env}(i:E.le x)(y:x.G o=some e)(l:E.sz o=some e.size)(A:mO E s rs e){pv:PV}{v:Value}(h:bB E pv v) :
  bB x (pv.frz o s rs) v:=by
 unfold PV.frz;split
 ·cases h with
  |tup vs B D=>
  refine .tup vs (by simpa using B) (λj p u hp J=>?_);rw[aqE,aqB]at hp;obtain⟨q,hq,rfl⟩:=hp;exact A5 i y l A (D j q u hq J)
 exact A5 i y l A h
theorem bS.frz(hW:bS E H w){o s:Nat}{rs:P2_}(X:H o=some (.rows s rs)):∃R,bS R (H.frz o s rs) w/\Ext E H w R (H.frz o s rs) w/\∀{pv:PV}{v:Value},bB E pv v->bB R (pv.frz o s rs) v:=by
 obtain⟨hlt,A,ty,hh,M,S,U,h3⟩:=hW.h o _ X;have hR:mO E s rs A:=⟨S,U,h3⟩;have V:E.G o=none:=by
  cases h:E.G o with
  |none=>rfl
  |some ds=>have:=(hW.g o ds h).1 _ X;cases this
 have B:E.le ⟨upd E.G o (some A),E.sz,E.num⟩:=by
  refine⟨λb ds hb=>?_,λb m h=>h,rfl⟩;have W:b≠o:=λe=>by subst e;rw[V]at hb;cases hb
  simp only;rw[VS _ _ W];exact hb
 have K:(⟨upd E.G o (some A),E.sz,E.num⟩:Env).G o=some A:=by simp[upd]
 have l:∀q,(H.frz o s rs).f q=if q=o then none else(H q).map (aR.frz o s rs):=λq=>rfl
 refine⟨⟨upd E.G o (some A),E.sz,E.num⟩,⟨λb ds hb=>?_,λq x hq=>?_,hW.s⟩,⟨B,rfl,rfl,rfl,apU _,λ_ _ _=>rfl,λq x hq=>?_,λb ds hb=>?_⟩,λh=>Zq B K M hR h⟩;simp only[upd]at hb;split at hb;rename_i e;subst e;cases hb;refine⟨λx N=>?_,ty,(0,0),hh⟩;rw[l,aE rfl]at N;cases N;rename_i e;obtain⟨g1,g2⟩:=hW.g b ds hb;refine⟨λx N=>?_,g2⟩;rw[l,aC e,aqB]at N;obtain⟨y,O,rfl⟩:=N;have:=g1 y O;subst this;rfl;rw[l]at hq;split at hq;cases hq
 ·rw[aqB]at hq;obtain⟨y,O,rfl⟩:=hq;obtain⟨g1,g2⟩:=hW.h q y O;refine⟨g1,?_⟩;cases y with
  |rows s' rs'=>
   obtain⟨J,β,k1,k2,k3,k4,k5⟩:=g2;refine⟨J,β,k1,k2,?_,by simpa using k4,λi j p hp=>?_⟩;intro r L;simp only[aqJ]at L;obtain⟨r',α,rfl⟩:=L;simpa using k3 r' α;simp only[at2,aqE,Option.bind_map]at hp;have Y:∃D,at2 rs' i j=some D/\p=D.cZ o s rs:=by
    unfold at2;cases L:rs'[i]? with
    |none=>simp[L]at hp
    |some r =>simp only[L,atO,Function.comp,aqE,aqB]at hp ⊢;obtain⟨D,S,U⟩:=hp;exact⟨D,S,U.symm⟩
   obtain⟨D,Z,rfl⟩:=Y;obtain⟨u,m1,m2,m3⟩:=k5 i j D Z;exact⟨u,m1,m2,bv B K M hR m3⟩
  |map es=>exact SA.mono B rfl g2
  |loop F n t γ δ=>exact SA.mono B rfl g2
  |dead=>trivial
 rw[l]at hq;split at hq;cases hq;rw[aqB]at hq;obtain⟨y,O,-⟩:=hq;exact .inl ⟨y,O⟩;simp only[upd]at hb;split at hb;rename_i e;subst e;exact .inr (.inl ⟨_,X⟩);exact .inl hb
theorem jJ.sound{F l:PF}{H H':PH}(h:jJ F H l H'):∀{E:Env},bS E H w->∃e,bS e H' w/\Ext E H w e H' w/\∀(f:Nat->Value),(∀i pv,F i=some pv->bB E pv (f i))->∀i pv,l i=some pv->bB e pv (f i):=by
 induction h with
 |refl F H=>intro E hW;exact⟨E,hW,.refl E H w,λf h=>h⟩
 |step o D _ J =>intro E hW;obtain⟨N,x,y,A⟩:=hW.frz D;obtain⟨u,K,L,M⟩:=J x;refine⟨u,K,y.trans L,λf B=>M f λi pv hi=>?_⟩;simp only[PF.frz,aqB]at hi;obtain⟨q,hq,rfl⟩:=hi;exact A (B i q hq)
theorem eP.frz{u:PF}{H':PH}(l:eP ds n E F a)(hW:bS E H w)(h:jJ F H u H'):∃e,eP ds n e u a/\bS e H' w/\Ext E H w e H' w:=by
 obtain⟨e,x,y,A⟩:=h.sound hW;exact⟨e,⟨l.size,l.defers,A (λi=>a.tmps.getD i undef) l.t⟩,x,y⟩
end
open Go Go.RowKit
section
variable {T:Tbl} {n:Nat} {E:Env} {F:PF} {H:PH} {a:Act} {w:World}
theorem YK(k:List KS):∀(L:List (List KS × PV)) (i j:Nat),(sF k L i).map (·.2)=(sF k L j).map (·.2)
 |[],_,_=>rfl
 |e::L,i,j=>by simp only[sF];split;rfl;exact YK k L _ _
theorem qD(e:List KS × PV)(L:List (List KS × PV))(k:List KS):mapOf (e::L) k=if e.1=k then some e.2 else mapOf L k:=by
 unfold mapOf;simp only[sF];split;rfl;exact YK k L _ _
theorem lh{i:List KS}{pv:PV}:∀{L:List (List KS × PV)},mapOf L i=none->mapOf (L++[(i,pv)])=jY.upd (mapOf L) i pv
 |[],_=>by funext k;simp only[atL,qD,jY.upd];by_cases h:i=k;rw[aE h,aE h.symm];rw[aC h,aC (λe=>h e.symm)]
 |e::L,h=>by rw[qD]at h;split at h;cases h;rename_i u;funext k;rw[asV,qD,lh h];simp only[jY.upd,qD];by_cases l:e.1=k;have:k≠i:=λe2=>u (l.trans e2);simp[l,this];simp[l]
theorem uj{l:List KS}{pv:PV}:∀{L:List (List KS × PV)}{i j:Nat}{p:PV},sF l L i=some (j,p)->i<=j/\mapOf (L.set (j-i) (l,pv))=jY.upd (mapOf L) l pv
 |[],i,j,p,h=>by simp[sF]at h
 |e::L,i,j,p,h=>by simp only[sF]at h;split at h;rename_i he;cases h;refine⟨apU _,?_⟩;funext k;rw[asA,asT,qD];simp only[jY.upd,qD];by_cases u:l=k;subst u;simp;have y:k≠l:=λe2=>u e2.symm;have x:e.1≠k:=λe2=>u (he.symm.trans e2);simp[u,y,x];rename_i he;obtain⟨u,y⟩:=uj (pv:=pv) h;refine⟨by omega,?_⟩;funext k;rw[show j-i=(j-(i+1))+1 by omega,List.set_cons_succ,qD,y];simp only[jY.upd,qD];by_cases x:e.1=k;have:k≠l:=λe2=>he (x.trans e2);simp[x,this];simp[x]
theorem bS.Rk(hW:bS E H w){o:Nat}{sh:MSh}{g:jY}{X y:Array MapEntry}{B l:Nat}{L:List (List KS × PV)}(R:H o=some (.map sh g))(Z:w.heap[o]?=some (.map X B))(U:y.size=Z' L/\(L.map (·.1)).Nodup)
  (Y:∀(i:Nat) e S,L[i]?=some e->y[i]?=some S->e.1.map KS.sh=sh.2/\S.key=jL sh e.1/\bB E e.2 S.val) :
  bS E (H.set o (.map sh (mapOf L))) { w with heap:=w.heap.setIfInBounds o (.map y l) }/\Ext E H w E (H.set o (.map sh (mapOf L))) { w with heap:=w.heap.setIfInBounds o (.map y l) }:=by
 have hlt:=(hW.h o _ R).1;have u:∀b,b≠o->(w.heap.setIfInBounds o (.map y l))[b]?=w.heap[b]?:=λb hb=>Array.getElem?_setIfInBounds_ne (Ne.symm hb);have J:(w.heap.setIfInBounds o (.map y l))[o]?=some (.map y l):=by simp[hlt]
 have O:∀b ds,E.G b=some ds->b≠o:=λb ds hb e=>by subst e;have:=(hW.g b ds hb).1 _ R;cases this
 refine⟨⟨λb ds hb=>?_,λq x hq=>?_,λq m hs=>?_⟩,⟨.refl E,rfl,rfl,rfl,by simp,λb _ V=>u b (λe=>by subst e;rw[R]at V;cases V),λq x hq=>?_,λb ds hb=>.inl hb⟩⟩;obtain⟨D,K,fr,N⟩:=hW.g b ds hb;have A:=O b ds hb;refine⟨λx W=>D x ?_,K,fr,(u b A).trans N⟩;rw[cV,aC A]at W;exact W;rw[cV]at hq;split at hq;rename_i e;subst e;cases hq;exact⟨by simpa using hlt,y,l,L,J,U,rfl,Y⟩;rename_i e;obtain⟨D,N⟩:=hW.h q x hq;exact⟨by simpa using D,N.mono (.refl E) (u q e)⟩;obtain⟨M,K,fr,D,N⟩:=hW.s q m hs;have A:q≠o:=λe=>by subst e;rw[Z]at D;cases D
 exact⟨M,K,fr,(u q A).trans D,N⟩;rw[cV]at hq;split at hq;rename_i e;subst e;exact .inl ⟨_,R⟩;exact .inl ⟨x,hq⟩
theorem ZJ(k:KS)(d:Nat):Instr.sameBits d k.val k.val=true:=by
 cases k<;>cases d<;>simp[KS.val,Instr.sameBits,beq_toListBytes]
theorem Dm(sh:MSh)(k:List KS)(A:sh.1=false->∃s,k=[s]):Instr.sameBits 10000 (jL sh k) (jL sh k)=true:=by
 obtain⟨b,l⟩:=sh;cases b with
 |false =>obtain⟨s,rfl⟩:=A rfl;exact ZJ s 10000
 |true=>
  simp only[jL,if_true];obtain⟨m,B⟩:∃m:Nat,m=9999:=⟨_,rfl⟩;rw[show(10000:Nat)=m+1 by omega];simp only[Instr.sameBits,beq_self_eq_true,aqL,aqM];rintro⟨x,y⟩ i;have:∀(l:List Value),(x,y)∈l.zip l->x=y/\x∈l:=by
   intro l
   induction l with
   |nil=>intro h;simp at h
   |cons z D u=>
    intro h;simp only[List.zip_cons_cons,aqG,Prod.mk.injEq]at h;rcases h with⟨rfl,rfl⟩|h
    exact⟨rfl,by simp⟩;exact⟨(u h).1,by simp[(u h).2]⟩
  obtain⟨rfl,e⟩:=this _ i;simp only[aqJ]at e;obtain⟨s,-,rfl⟩:=e;exact ZJ s m
theorem B5{t kt et:TypeId}{sh:MSh}{pk pv:PV}{x k v:Value}{o:Nat}{g:jY}{l:List KS}(ht:T.P.underlying t=some (.map kt et))(Z:T.pF kt=some sh)
  (hx:bB E (.map o) x) (hk:bB E pk k) (hv:bB E pv v) (ho:H o=some (.map sh g)) (X:keyOf sh pk=some l) (hW:bS E H w) :
  ∃w',(Instr.mapUpdate t x k v).run T.P w=.ok () w'/\bS E (H.set o (.map sh (g.upd l pv))) w'/\Ext E H w E (H.set o (.map sh (g.upd l pv))) w':=by
 cases hx;obtain⟨hlt,es,M,L,hh,⟨D,Y⟩,rfl,A⟩:=hW.h o _ ho;obtain⟨ζ,B,δ⟩:=uc hk X;have α:xX sh L es.toList:=⟨by simpa using D,λi e U a b=>by have:=A i e U a (by simpa using b);exact⟨this.1,this.2.1⟩⟩;obtain⟨r,g1,g2⟩:=RP (w:=w) Z B α;subst ζ;have V:(getObj o).run T.P w=.ok (.map es M) w:=by simp[getObj,Sem.run,hh]
 have K:∀x,(setObj o x).run T.P w=.ok () { w with heap:=w.heap.setIfInBounds o x }:=λx=>MapKept.run_setObj_map x hh;simp only[Instr.mapUpdate,Sem.run_bind,run_underlying ht,Result.andThen_ok,V,LK Z B,g1];unfold Found at g2;split at g2;rename_i hn;subst g2;have hm:mapOf L l=none:=by unfold mapOf;rw[hn];rfl
 have hp:jY.upd (mapOf L) l pv=mapOf (L++[(l,pv)]):=(lh hm).symm;rw[hp];simp only[K];have ε:l ∉ L.map (·.1):=λhm=>by have:=(NJ l L 0).2 hm;rw[hn]at this;cases this
 have u:((L++[(l,pv)]).map (·.1)).Nodup:=by rw[aqP,asS];refine⟨Y,by simp,λx hx y hy=>?_⟩;simp only[aqQ,arL,arA]at hy;subst hy;rintro rfl;exact ε hx
 refine⟨_,rfl,hW.Rk ho hh ⟨by simp[D],u⟩ λi e U N J=>?_⟩;rcases Nat.lt_trichotomy i L.length with h3|h3|h3
 rw[asE h3]at N;rw[Array.getElem?_push_lt Om]at J;exact A i e U N (by rw[atP Om];exact J);subst h3;rw[arS (apU _)]at N;rw[<-D,Array.getElem?_push_size]at J;simp at N J;subst N;subst J;exact⟨B,rfl,hv⟩;rw[arC (by simp;omega)]at N;cases N;rename_i j p hj;obtain⟨e0,-,J,h3,rfl⟩:=g2;have hp:jY.upd (mapOf L) l pv=mapOf (L.set j (l,pv)):=by have:=(uj (pv:=pv) hj).2;simpa using this.symm
 rw[hp];simp only[Nat.sub_zero]at J h3;have O:es[j]?=some e0:=by simpa using J
 have β:e0.key=jL sh l:=(A j _ e0 h3 O).2.1;have R:(Instr.keyThatStays (((es[j]?).map (·.key)).getD (jL sh l)) (jL sh l)).run T.P w=.ok (jL sh l) w:=by rw[O];simp only[aqK,arT,β,Instr.keyThatStays,Dm sh l δ,if_true,Sem.run_pure]
 simp only[Sem.run_bind,R,Result.andThen_ok,K];have u:((L.set j (l,pv)).map (·.1)).Nodup:=by
  have e9:(L.set j (l,pv)).map (·.1)=L.map (·.1):=by rw[asP];refine List.ext_getElem? λi=>?_;rw[asX];split;rename_i e;subst e;rw[aqE,h3];have:=(aqU.1 h3).1;simp[this];rfl
  rw[e9];exact Y
 refine⟨_,rfl,hW.Rk ho hh ⟨by simp[D],u⟩ λi e U S h5=>?_⟩;rw[Array.getElem?_modify]at h5;rw[asX]at S;have γ:j<Z' L:=(aqU.1 h3).1;by_cases W:j=i;subst W;rw[aE rfl,aE γ]at S;rw[aE rfl,O]at h5;simp at S h5;subst S;subst h5;exact⟨B,rfl,hv⟩;rw[aC W]at S h5;exact A i e U S h5
end
open Go Go.RowKit
def Fz(r:O_):Fence:={ Fence.wide with round:=r }
theorem Fz.calls{r:O_}{m:Nat}{P:Program}{f:FuncId}{args:Array Value}{w:World}{R:Ending->World->Prop}(h:Calls P f args w R):CallsIn (Fz r) m P f args w R:=(callsIn_wide (n:=m)).2 h
theorem Fz.fn{r:O_}(f:FuncId):(Fz r).fn f:=trivial
theorem MK{r:O_}{m:Nat}{P:Program}{o:Oper}{a:Act}{w:World}{next:Act->World->Prop}{Q:Exit->Act->World->Prop}(e:∀c,o.op≠.defer c)(h:o.uponIn (Fz r) m P a next Q ((execOp a.eval o).run P w)):o.wpIn (Fz r) m P a w next Q:=
 ⟨λ_ _=>trivial,by rw[Oper.semAt_eq _ _ _ e];exact h⟩
variable{C:Ctx}
section
variable {ro:O_} {fu:Nat} {ds:List Deferred} {T:Tbl} {n:Nat} {E:Env} {F:PF} {H:PH} {a:Act} {w:World}
def pU(ds:List Deferred)(n:Nat)(E:Env)(H:PH)(w:World)(K:K_)(next:Act->World->Prop):Prop:=
 ∀e l H' u i,eP ds n e l u->bS e H' i->Ext E H w e H' i->K l H'->next u i
theorem fO.append{ps e:V_}{vs i:List Value}(h:fO E ps vs)(k:fO E e i):fO E (ps++e) (vs++i):=by
 induction h with
 |nil=>exact k
 |cons h _ l=>exact .cons h l
theorem fO.Yl{ps:V_}:∀{vs:List Value},Z' vs=Z' ps->(∀(j:Nat) p v,ps[j]?=some p->vs[j]?=some v->bB E p v)->fO E ps vs:=by
 induction ps with
 |nil=>intro vs e _;simp at e;subst e;exact .nil
 |cons p ps i=>
  intro vs e h;cases vs with
  |nil=>simp at e
  |cons v vs=>exact .cons (h 0 p v rfl rfl) (i (by simpa using e) λj q u a b=>h (j+1) q u (by simpa using a) (by simpa using b))
theorem Ta{o:Oper}{c:Call}{f:FuncId}{vc:Array Value}{x:Operand}{P:Program}{fn:Func}(y:o.op=.call c)(i:c.callee=.value x)(A:a.eval x=.func (.func f) #[] vc)
  (u:P.funcs[f]?=some fn) (hb:fn.body.isSome=true) (l:(fn.name=="runtime.NumGoroutine")=false) :
  (execOp a.eval o).run P w=.ok (.enter f (c.args.map a.eval++vc)) w:=by
 have e:fn.body.isNone=false:=by cases h:fn.body<;>simp_all
 unfold execOp;rw[y];simp only[resolve,i,A,Deferred.ofValue,Sem.run_bind,Sem.run_pure,Result.andThen_ok,invoke,callFunc,run_program,u,l,e,arO,if_false,Array.empty_append]
theorem YB{name:Nat}{ps:Option V_}{d:O_}{K:K_}{o:Oper}{c:Call}{x:Operand}{vc:Array Value}{Q:Exit->Act->World->Prop}{next:Act->World->Prop}
  (h:uW C name ps d K F H) (hd:o.dst=d) (hlt:o.dst.all (·<n)=true) (S:o.op=.call c) (M:c.callee=.value x) (hx:a.eval x=.func (.func (C.num name)) #[] vc)
  (i:∀vs,ps=some vs->fO E vs (c.args.map a.eval++vc).toList) (X:eP ds n E F a) (hW:bS E H w) (Z:E.num=C.num) (aoZ:pU ds n E H w K next):o.wpIn (Fz ro) fu C.P a w next Q:=by
 obtain⟨vs,V,R,rfl,u,⟨⟨fn,hf,hb,N⟩,l⟩,Y⟩:=h;have A:=Ta (w:=w) (a:=a) S M hx hf hb N;refine MK (λc'=>by rw[S];exact λe=>by cases e) ?_;rw[A,Oper.uponIn_enter];refine⟨(λh=>by cases h),Fz.calls ((l E w _ Z (hW.weaken u) (i vs rfl)).mono λe w' he=>?_)⟩;obtain⟨v,pv,O,H',rfl,J,hr,B,hR⟩:=he;have L:qS H V H':=by
  intro q y hq W;rcases B.new q y hq with⟨z,U⟩|hge
  ·rw[W]at U;cases U
  ·cases hh:H q with
   |none=>rfl
   |some z=>have:=(hW.h q z hh).1;omega
 have D:eP ds n O (F.put d pv) (a.put o.dst v):=by rw[<-hd];exact(X.mono B.env).put hlt hr
 exact aoZ O _ _ _ w' D (hW.over B u J) (B.narrow u) (Y pv H' hR L)
theorem SN{name:Nat}{args:List aP}{cs:V_}{d:O_}{K:K_}{o:Oper}{c:Call}{x:Operand}{vc:Array Value}{Q:Exit->Act->World->Prop}{next:Act->World->Prop}
  (h:jX C name args cs d K F H) (O:o.dst=d) (hlt:o.dst.all (·<n)=true) (R:o.op=.call c) (A:c.callee=.value x) (S:a.eval x=.func (.func (C.num name)) #[] vc)
  (e:∀(u:Env)(N:PF) vs,E.le u->eP ds n u N a->u.num=C.num->aP.evs N args=some vs->fO u (vs++cs) (c.args.map a.eval++vc).toList) (J:eP ds n E F a) (hW:bS E H w) (D:E.num=C.num) (aoZ:pU ds n E H w K next):o.wpIn (Fz ro) fu C.P a w next Q:=by
 rcases h with h|⟨F1,H1,hf,h⟩
 ·refine YB h O hlt R A S (λvs i=>?_) J hW D aoZ;rw[aqB]at i;obtain⟨M,l,rfl⟩:=i;exact e E F M (.refl E) J D l
 ·obtain⟨u,y,L,B⟩:=J.frz hW hf;refine YB h O hlt R A S (λvs i=>?_) y L (B.env.num.trans D) (λU V H2 a2 W g1 g2 g3 g4=>aoZ U V H2 a2 W g1 g2 (B.trans g3) g4);rw[aqB]at i;obtain⟨M,l,rfl⟩:=i;exact e u F1 M B.env y (B.env.num.trans D) l
theorem WH{l:Nat}{ps:Option V_}{d:O_}{K:K_}{o:Oper}{c:Call}{x:Operand}{Q:Exit->Act->World->Prop}{next:Act->World->Prop}
  (h:QX C l ps d K F H) (hd:o.dst=d) (hlt:o.dst.all (·<n)=true) (X:o.op=.call c) (V:c.callee=.value x) (hx:a.eval x=.func (.yield l) #[] #[])
  (B:∀vs,ps=some vs->fO E vs (c.args.map a.eval).toList) (hA:eP ds n E F a) (hW:bS E H w) (hN:E.num=C.num) (aoZ:pU ds n E H w K next):o.wpIn (Fz ro) fu C.P a w next Q:=by
 obtain⟨vs,Z,R,rfl,J,D,hK⟩:=h;obtain⟨fn,A,i,body,hy,u⟩:=D E w (c.args.map a.eval) hN (hW.weaken J) (B vs rfl);have L:(execOp a.eval o).run C.P w=.ok (.round l fn A i body) w:=by unfold execOp;rw[X];simp only[resolve,V,hx,Deferred.ofValue,Sem.run_bind,Sem.run_pure,Result.andThen_ok,invoke,Array.empty_append,Array.append_empty];exact hy
 refine MK (λc'=>by rw[X];exact λe=>by cases e) ?_;rw[L,Oper.uponIn_round];have O:RoundIn (Fz ro) (fu-1) C.P l fn A i body w _:=⟨trivial,λc cs _=>u.2 c cs (room_wide _)⟩;refine⟨(λh=>by cases h),O.mono λe w' he=>?_⟩;obtain⟨v,pv,W,H',rfl,S,hr,M,hR⟩:=he;have U:qS H Z H':=by
  intro q y hq h0;rcases M.new q y hq with⟨z,Y⟩|hge
  ·rw[h0]at Y;cases Y
  ·cases hh:H q with
   |none=>rfl
   |some z=>have:=(hW.h q z hh).1;omega
 have N:eP ds n W (F.put d pv) (a.put o.dst v):=by rw[<-hd];exact(hA.mono M.env).put hlt hr
 exact aoZ W _ _ _ w' N (hW.over M J S) (M.narrow J) (hK pv H' hR U)
theorem xk{l:Nat}{args:List aP}{d:O_}{K:K_}{o:Oper}{c:Call}{x:Operand}{Q:Exit->Act->World->Prop}{next:Act->World->Prop}
  (h:Iy C l args d K F H) (N:o.dst=d) (hlt:o.dst.all (·<n)=true) (O:o.op=.call c) (A:c.callee=.value x) (R:a.eval x=.func (.yield l) #[] #[])
  (e:∀(u:Env)(M:PF) vs,eP ds n u M a->u.num=C.num->aP.evs M args=some vs->fO u vs (c.args.map a.eval).toList) (D:eP ds n E F a) (hW:bS E H w) (B:E.num=C.num) (aoZ:pU ds n E H w K next):o.wpIn (Fz ro) fu C.P a w next Q:=by
 rcases h with h|⟨F1,H1,hf,h⟩
 ·exact WH h N hlt O A R (λvs i=>e E F vs D B i) D hW B aoZ
 ·obtain⟨u,y,L,J⟩:=D.frz hW hf;exact WH h N hlt O A R (λvs i=>e u F1 vs y (J.env.num.trans B) i) y L (J.env.num.trans B) (λS U H2 a2 V g1 g2 g3 g4=>aoZ S U H2 a2 V g1 g2 (J.trans g3) g4)
theorem Bm{o:Oper}{p:POp}(e:T.op o=some p)(i:p.sV=true):∃c,o.op=.call c/\T.call o c=some p:=by
 unfold Tbl.op at e;split at e
 case h_26=>rename_i c l;exact⟨c,l,e⟩
 all_goals (repeat' (first|(split at e)|(simp only[aqB]at e;obtain⟨_,-,rfl⟩:=e;simp[POp.sV]at i;done)|(cases e;simp[POp.sV]at i;done)|(cases e;done)))
theorem dt{o:Oper}{p:POp}(e:T.op o=some p):∀c,o.op≠.defer c:=by
 intro c i;unfold Tbl.op at e;rw[i]at e;simp at e
theorem wz{o:Oper}{p:POp}(l:T.op o=some p)(B:p.eQ=true) :
  (∃t R x k U A,o.op=.store t R x/\T.size t=some k/\T.opd R=some U/\T.opd x=some A/\p=.store k U A) \/
  (∃c x y t e i A V,o.op=.call c/\c.callee=.builtin .append/\c.args.toList=[x,y]/\c.argTypes.toList=[t,t]/\T.P.underlying t=some (.slice e)/\T.P.info? e=some i/\i.zero.isSome=true /\
   (i.zero.map (·.cells.size))=some i.size/\0<i.size/\T.opd x=some A/\T.opd y=some V/\p=.append i.size i.bytes A V) \/
  (∃t N O sh x k v A pk pv,(o.op=.mapUpdate t x k v\/o.op=.insert t x k v)/\T.P.underlying t=some (.map N O)/\T.pF N=some sh/\T.opd x=some A/\T.opd k=some pk/\T.opd v=some pv /\
   (p=.aoV sh A pk pv\/p=.insert sh A pk pv)):=by
 unfold Tbl.op at l;split at l
 case h_17=>
  rename_i t x k v M;split at l
  ·rename_i N O S;split at l<;>cases l;rename_i sh p q r D J K W;exact .inr (.inr ⟨t,N,O,sh,x,k,v,p,q,r,.inl M,S,D,J,K,W,.inl rfl⟩)
  ·cases l
 case h_18=>
  rename_i t x k v M;split at l
  ·rename_i N O S;split at l<;>cases l;rename_i sh p q r D J K W;exact .inr (.inr ⟨t,N,O,sh,x,k,v,p,q,r,.inr M,S,D,J,K,W,.inr rfl⟩)
  ·cases l
 case h_9 =>rename_i t R x M;split at l<;>cases l;rename_i k U A D J K;exact .inl ⟨t,R,x,k,U,A,M,D,J,K,rfl⟩
 case h_26=>
  rename_i c M;unfold Tbl.call at l;split at l
  ·rename_i b Y;split at l
   ·split at l<;>(first|(simp only[aqB]at l;obtain⟨_,-,rfl⟩:=l;simp[POp.eQ]at B;done)|(cases l;simp[POp.eQ]at B;done)|(cases l;done))
   ·rename_i x y t u X Z;split at l<;>try cases l
    rename_i e e' ht S;split at l<;>try cases l
    rename_i i A V hi hx hy;split at l
    ·rename_i L;cases l;obtain⟨rfl,D,J,K⟩:=L;exact .inr (.inl ⟨c,x,y,t,e,i,A,V,M,Y,X,Z,ht,hi,D,J,K,hx,hy,rfl⟩)
    ·cases l
   ·split at l<;>(first|(simp only[aqB]at l;obtain⟨_,-,rfl⟩:=l;simp[POp.eQ]at B;done)|(cases l;done))
   ·split at l<;>(first|(cases l;simp[POp.eQ]at B;done)|(cases l;done))
   ·split at l<;>(first|(cases l;simp[POp.eQ]at B;done)|(cases l;done))
   ·cases l
  ·split at l
   ·split at l
    ·cases l;simp[POp.eQ]at B
    ·cases l
   ·cases l
  ·simp only[aqB]at l;obtain⟨_,-,rfl⟩:=l;simp[POp.eQ]at B
  ·cases l
 all_goals (repeat' (first|(split at l)|(simp only[aqB]at l;obtain⟨_,-,rfl⟩:=l;simp[POp.eQ]at B;done)|(cases l;simp[POp.eQ]at B;done)|(cases l;done)))
theorem Gh{o:Oper}{p:POp}{K:R_}(hc:T.op o=some p)(hk:p.eQ=true)(h:cG p F H K)(J:eP ds n E F a)(hW:bS E H w)(L:E.num=T.num):zp T.P E H w o a K:=by
 rcases wz hc hk with⟨t,ax,x,k,pp,Y,ho,h1,h2,h3,rfl⟩|⟨c,x,y,t,e,i,Y,py,ho,hcc,hca,hct,ht,hi,g1,g2,g3,hx,hy,rfl⟩|⟨t,kt,et,sh,x,k,v,Y,pk,pv,ho,hu,hsh,hx,hkk,hv,hp⟩
 simp only[cG]at h;split at h;rename_i pa pv A V;obtain⟨hl,H',W,u⟩:=h;obtain⟨w',hr,S,hE⟩:=Ga ho h1 h2 h3 A V hl W J hW L;exact⟨undef,_,w',E,H',.junk,hr,.inr ⟨rfl,rfl⟩,.junk _,S,hE,u⟩;exact h.elim;simp only[cG]at h;split at h;rename_i pa pb A U;exact zx ho hcc hca hct ht hi g1 g2 g3 (bH hx A J L) (bH hy U J L) h hW;exact h.elim;have l:∀q B D g l,Y.ev F=some (.map q)->pk.ev F=some B->pv.ev F=some D->H q=some (.map sh g)->keyOf sh B=some l->K .junk (H.set q (.map sh (g.upd l D)))->zp T.P E H w o a K:=by intro q B D g l M e2 N O R u;obtain⟨w',g1,g2,g3⟩:=B5 hu hsh (bH hx M J L) (bH hkk e2 J L) (bH hv N J L) O R hW;refine⟨undef,.skip,w',E,_,.junk,?_,.inr ⟨rfl,rfl⟩,.junk _,g2,g3,u⟩;rcases ho with ho|ho<;>(unfold execOp;rw[ho];simp[g1])
 rcases hp with rfl|rfl
 simp only[cG]at h;split at h;rename_i q B D M e2 N;split at h;rename_i Z g X O R;obtain⟨rfl,u⟩:=h;exact l q B D g X M e2 N O R u;exact h.elim;exact h.elim;simp only[cG]at h;split at h;rename_i q B D M e2 N;split at h;rename_i Z g X O R;obtain⟨rfl,-,u⟩:=h;exact l q B D g X M e2 N O R u;exact h.elim;exact h.elim
theorem Vx(V:C.P=T.P)(A:C.num=T.num){o:Oper}{p:POp}{d:O_}{K:K_}{Q:Exit->Act->World->Prop}{next:Act->World->Prop}(Y:T.op o=some p)(hd:o.dst=d)(hlt:o.dst.all (·<n)=true)
  (h:wpOp C p d K F H) (M:eP ds n E F a) (hW:bS E H w) (W:E.num=T.num) (aoZ:pU ds n E H w K next):o.wpIn (Fz ro) fu T.P a w next Q:=by
 by_cases hk:p.sV=true
 ·obtain⟨c,ho,i⟩:=Bm Y hk;unfold Tbl.call at i;split at i
  ·rename_i b J;exfalso
   repeat' (first|(split at i)|(simp only[aqB]at i;obtain⟨_,-,rfl⟩:=i;simp[POp.sV]at hk;done)|(cases i;simp[POp.sV]at hk;done)|(cases i;done))
  ·rename_i f J;split at i
   ·rename_i m xs hm R;split at i
    ·rename_i hf;cases i;rw[<-V];refine SN h hd hlt ho J (vc:=#[]) (by rw[A,hf];rfl) (λL F' vs _ N X α=>?_) M hW (W.trans A.symm) aoZ;simpa using EG R α N (X.trans A)
    ·cases i
   ·cases i
  ·rename_i t J;simp only[aqB]at i;obtain⟨xs,R,rfl⟩:=i;have h':wD C (aP.ev F (.tmp t)) xs d K F H:=h;have γ:a.eval (.tmp t)=a.tmps.getD t undef:=rfl;cases Z:aP.ev F (.tmp t)with
   |none=>rw[Z]at h';exact h'.elim
   |some u=>
    rw[Z]at h';have r:=M.t t _ Z;cases u with
    |fn name cs=>
     generalize hv:a.tmps.getD t undef=v at r;cases r with
     |fn vc S U=>
     rw[<-V];refine SN h' hd hlt ho J (vc:=vc) (by rw[γ,hv,W,A]) (λL F' ws ζ A' X ι=>?_) M hW (W.trans A.symm) aoZ;rw[Array.toList_append];refine fO.append (by simpa using EG R ι A' (X.trans A)) (fO.Yl (by simpa using S) λj p u hp hu=>(U j p u hp (by simpa using hu)).mono ζ)
    |lit u=>
     obtain⟨l,S,hy⟩:=h';unfold PV.St at S;split at S
     ·rename_i l' f' c' e;split at S
      ·rename_i ε;cases S;obtain⟨rfl,rfl⟩:=ε;cases e;generalize hv:a.tmps.getD t undef=v at r;cases r;rw[<-V];exact xk hy hd hlt ho J (by rw[γ,hv]) (λL F' vs A' N' α=>by simpa using EG R α A' (N'.trans A)) M hW (W.trans A.symm) aoZ
      ·cases S
     ·cases S
    |_=>exact h'.elim
  ·cases i
 ·have β:p.sV=false:=by simpa using hk
  have y:(if p.iR then oN (cK p F) d K F H else if p.eQ then cG p F H (λr H'=>K (F.put d r) H')else wU (aV p F H) d K F H):=by cases p<;>first|exact h|(simp[POp.sV]at β)
  by_cases hn:p.iR=true
  ·rw[aE hn]at y;obtain⟨mk,x,δ,hK⟩:=y;obtain⟨v,w',L,q,U,hq,B,D,O⟩:=P1 Y hn δ M hW W;refine MK (dt Y) ?_;rw[U,Oper.uponIn_value];exact aoZ L _ _ _ w' (by rw[<-hd];exact(M.mono O.env).put hlt B) D O (hK q hq)
  ·rw[aC hn]at y;by_cases hw:p.eQ=true
   ·rw[aE hw]at y;obtain⟨v,nx,w',L,H',pv,U,η,B,D,O,hK⟩:=Gh Y hw y M hW W;refine MK (dt Y) ?_;have N:eP ds n L (F.put d pv) (a.put o.dst v):=by rw[<-hd];exact(M.mono O.env).put hlt B
    rcases η with rfl|⟨rfl,rfl⟩
    ·rw[U,Oper.uponIn_value];exact aoZ L _ _ _ w' N D O hK
    ·rw[U,Oper.uponIn_skip];exact aoZ L _ _ _ w' N D O hK
   ·rw[aC hw]at y;obtain⟨pv,θ,hK⟩:=y;obtain⟨v,w',L,U,B,D,O⟩:=Jl Y (by simpa using hn) (by simpa using hw) β θ M hW W;refine MK (dt Y) ?_;rw[U,Oper.uponIn_value];exact aoZ L _ _ _ w' (by rw[<-hd];exact(M.mono O.env).put hlt B) D O hK
end
def aP.cW:aP->N_
 | .tmp t=>[t]
 | .const _=>[]
def zW:Option aP->N_
 |none=>[]
 |some x=>x.cW
def UZ:List aP->N_
 |[]=>[]
 |x::xs=>x.cW++UZ xs
def Ds:List (Nat × Nat × aP)->N_
 |[]=>[]
 |x::xs=>x.2.2.cW++Ds xs
def Dr:List (Nat × aP)->N_
 |[]=>[]
 |x::xs=>x.2.cW++Dr xs
def POp.cW:POp->N_
 | .mv x=>x.cW
 | .pick c a b=>c.cW++(a.cW++b.cW)
 | .bin _ x y=>x.cW++y.cW
 | .eqb _ x y=>x.cW++y.cW
 | .eqs _ _ x y=>x.cW++y.cW
 | .un _ x=>x.cW
 | .conv _ x=>x.cW
 | .same x=>x.cW
 | .alloc _=>[]
 | .box _ x=>x.cW
 | .build _ ps=>Ds ps
 | .aoI _ _ _ _ ps=>Dr ps
 | .load _ p=>p.cW
 | .store _ p x=>p.cW++x.cW
 | .aoQ x=>x.cW
 | .apG _ x=>x.cW
 | .field _ _ x=>x.cW
 | .aoU _ x i=>x.cW++i.cW
 | .idxA _ _ x i=>x.cW++i.cW
 | .idxV _ _ _ x i=>x.cW++i.cW
 | .apE x i=>x.cW++i.cW
 | .slice _ x lo hi mx=>x.cW++(zW lo++(zW hi++zW mx))
 | .apA x lo hi=>x.cW++(zW lo++zW hi)
 | .sliceA _ _ x lo hi mx=>x.cW++(zW lo++(zW hi++zW mx))
 | .len x=>x.cW
 | .apD x=>x.cW
 | .apO x=>x.cW
 | .lenM x=>x.cW
 | .isNil _ x=>x.cW
 | .extract x _=>x.cW
 | .aoL _ _ _ l c=>l.cW++c.cW
 | .append _ _ x y=>x.cW++y.cW
 | .aoY _ x y=>x.cW++y.cW
 | .mkfn _ cs=>UZ cs
 | .apK _=>[]
 | .lookup _ _ x k _=>x.cW++k.cW
 | .aoV _ x k v=>x.cW++(k.cW++v.cW)
 | .insert _ x k v=>x.cW++(k.cW++v.cW)
 | .stuck=>[]
 | .aoR x=>x.cW
 | .str2bytes x=>x.cW
 | .call _ e=>UZ e
 | .apF x e=>x.cW++UZ e
def tU(l:N_)(F F':PF):Prop:=∀t∈l,F t=F' t
theorem tU.left{a b:N_}{F F':PF}(h:tU (a++b) F F'):tU a F F':=λt e=>h t (by simp[e])
theorem tU.right{a b:N_}{F F':PF}(h:tU (a++b) F F'):tU b F F':=λt e=>h t (by simp[e])
section
variable {F F':PF} {H H':PH}
theorem cH{x:aP}(h:tU x.cW F F'):x.ev F=x.ev F':=by
 cases x with
 |tmp t=>exact h t (by simp[aP.cW])
 |const v=>rfl
theorem NG:∀{xs:List aP},tU (UZ xs) F F'->aP.evs F xs=aP.evs F' xs
 |[],_=>rfl
 |x::xs,h=>by simp only[aP.evs,cH h.left,NG h.right]
theorem jx:∀{ps:List (Nat × Nat × aP)}{cs:V_},tU (Ds ps) F F'->pZ cs F ps=pZ cs F' ps
 |[],_,_=>rfl
 |(o,s,x)::ps,cs,h=>by simp only[pZ];rw[cH (x:=x) h.left];split;rw[jx (ps:=ps) h.right];rfl
theorem CX{s:Nat}:∀{ps:List (Nat × aP)}{rs:P2_},tU (Dr ps) F F'->gU s rs F ps=gU s rs F' ps
 |[],_,_=>rfl
 |(i,x)::ps,rs,h=>by simp only[gU];rw[cH (x:=x) h.left];split;rw[CX (ps:=ps) h.right];rfl
theorem GB{d:Int}{x:Option aP}(h:tU (zW x) F F'):bnd F d x=bnd F' d x:=by
 cases x with
 |none=>rfl
 |some x=>simp only[bnd,cH (x:=x) h]
theorem Lk{op:POp}(h:tU op.cW F F'):aV op F H=aV op F' H:=by
 cases op
 case mv x=>simp only[aV,cH (x:=x) h]
 case same x=>simp only[aV,cH (x:=x) h]
 case pick c a b=>simp only[aV,cH (x:=c) h.left,cH (x:=a) h.right.left,cH (x:=b) h.right.right]
 case bin x y=>simp only[aV,cH (x:=x) h.left,cH (x:=y) h.right]
 case eqb x y=>simp only[aV,cH (x:=x) h.left,cH (x:=y) h.right]
 case eqs x y=>simp only[aV,cH (x:=x) h.left,cH (x:=y) h.right]
 case un x=>simp only[aV,cH (x:=x) h]
 case conv x=>simp only[aV,cH (x:=x) h]
 case box r x=>cases r<;>simp only[aV,cH (x:=x) h]
 case build ps=>simp only[aV,jx (ps:=ps) h]
 case aoI r _ _ _ ps=>cases r<;>simp only[aV,CX (ps:=ps) h]
 case load n p=>cases n<;>simp only[aV,cH (x:=p) h]
 case aoQ x=>simp only[aV,cH (x:=x) h]
 case apG x=>simp only[aV,cH (x:=x) h]
 case field x=>simp only[aV,cH (x:=x) h]
 case aoU x i=>simp only[aV,cH (x:=x) h.left,cH (x:=i) h.right]
 case idxA x i=>simp only[aV,cH (x:=x) h.left,cH (x:=i) h.right]
 case idxV x i=>simp only[aV,cH (x:=x) h.left,cH (x:=i) h.right]
 case apE x i=>simp only[aV,cH (x:=x) h.left,cH (x:=i) h.right]
 case slice s x lo hi mx=>
  have e:x.ev F=x.ev F':=cH h.left;have l:∀d,bnd F d lo=bnd F' d lo:=λd=>GB h.right.left;have u:∀d,bnd F d hi=bnd F' d hi:=λd=>GB h.right.right.left;cases mx with
  |none=>simp only[aV,e,l,u]
  |some m =>have w:∀d,bnd F d (some m)=bnd F' d (some m):=λd=>GB (x:=some m) h.right.right.right;simp only[aV,e,l,u,w]
 case sliceA n size x lo hi mx =>have e:x.ev F=x.ev F':=cH h.left;cases lo<;>cases hi<;>cases mx<;>simp only[aV,e]
 case apA x lo hi =>have e:x.ev F=x.ev F':=cH h.left;have l:∀d,bnd F d lo=bnd F' d lo:=λd=>GB h.right.left;have u:∀d,bnd F d hi=bnd F' d hi:=λd=>GB h.right.right;simp only[aV,e,l,u]
 case len x=>simp only[aV,cH (x:=x) h]
 case apD x=>simp only[aV,cH (x:=x) h]
 case apO x=>simp only[aV,cH (x:=x) h]
 case lenM x=>simp only[aV,cH (x:=x) h]
 case isNil x=>simp only[aV,cH (x:=x) h]
 case extract x i=>simp only[aV,cH (x:=x) h]
 case aoY x y=>simp only[aV,cH (x:=x) h.left,cH (x:=y) h.right]
 case mkfn cs=>simp only[aV,NG (xs:=cs) h]
 case lookup sh z x k ok=>simp only[aV,cH (x:=x) h.left,cH (x:=k) h.right]
 case aoR x=>simp only[aV,cH (x:=x) h]
 all_goals rfl
theorem I9{op:POp}(h:tU op.cW F F'):cK op F=cK op F':=by
 cases op
 case box r x=>cases r<;>simp only[cK,cH (x:=x) h]
 case aoI r _ _ _ ps=>cases r<;>simp only[cK,CX (ps:=ps) h]
 case aoL l c=>simp only[cK,cH (x:=l) h.left,cH (x:=c) h.right]
 all_goals rfl
theorem Nd{op:POp}{K:R_}(h:tU op.cW F F'):cG op F H K=cG op F' H K:=by
 cases op
 case store n p x=>simp only[cG,cH (x:=p) h.left,cH (x:=x) h.right]
 case append s b x y=>simp only[cG,cH (x:=x) h.left,cH (x:=y) h.right]
 case aoV sh x k v=>simp only[cG,cH (x:=x) h.left,cH (x:=k) h.right.left,cH (x:=v) h.right.right]
 case insert sh x k v=>simp only[cG,cH (x:=x) h.left,cH (x:=k) h.right.left,cH (x:=v) h.right.right]
 all_goals rfl
theorem ud{op:POp}(h:tU op.cW F F'):op.kind F=op.kind F':=by
 have e:(if op.iR then Kind.new (cK op F)else if op.eQ then .write (λH K=>cG op F H K)else .calm (aV op F)) =
   (if op.iR then Kind.new (cK op F')else if op.eQ then .write (λH K=>cG op F' H K)else .calm (aV op F')):=by
  rw[I9 h];have i:(λH K=>cG op F H K)=λH K=>cG op F' H K:=by funext H K;exact Nd h
  have l:aV op F=aV op F':=by funext H;exact Lk h
  rw[i,l]
 cases op
 case call n az=>simp only[POp.kind,NG (xs:=az) h]
 case apF x az=>simp only[POp.kind,cH (x:=x) h.left,NG (xs:=az) h.right]
 case insert sh x k v=>simp only[POp.kind,cH (x:=x) h.left,cH (x:=k) h.right.left,cH (x:=v) h.right.right]
 all_goals exact e
def bQ.cW(i:bQ):N_:=
 match i.guard with
 |none=>i.op.cW
 |some (t,_)=>t::i.op.cW
theorem kn{i:bQ}(h:tU i.cW F F'):i.kind F=i.kind F':=by
 unfold bQ.kind;unfold bQ.cW at h;cases e:i.guard with
 |none=>rw[e]at h;exact ud h
 |some p =>obtain⟨t,l⟩:=p;rw[e]at h;simp only;rw[h t aX,ud (λu w=>h u (by simp[w]))]
theorem U7(p:PV):∃q:Nat,∀(H H':PH) n,H q=H' q->loadCells H p n=loadCells H' p n:=by
 cases p
 case ptr o s i c=>exact⟨o,λH H' n h=>by simp only[loadCells,h]⟩
 all_goals exact⟨0,λH H' n h=>rfl⟩
theorem Xu(s:Nat)(p:PV):∃q:Nat,∀(H H':PH),H q=H' q->dH H s p=dH H' s p:=by
 cases p
 case osl o s' off len=>exact⟨o,λH H' h=>by simp only[dH,h]⟩
 all_goals exact⟨0,λH H' h=>rfl⟩
theorem Qj(op:POp)(F:PF):∃q:Nat,∀(H H':PH),H q=H' q->aV op F H=aV op F H':=by
 cases op
 case load n p=>
  cases hp:p.ev F with
  |none=>exact⟨0,λH H' _=>by cases n<;>simp only[aV,hp]⟩
  |some a =>obtain⟨q,hq⟩:=U7 a;exact⟨q,λH H' h=>by cases n<;>simp only[aV,hp,hq H H' _ h]⟩
 case lenM x=>
  cases hp:x.ev F with
  |none=>exact⟨0,λH H' _=>by simp only[aV,hp]⟩
  |some a=>
   cases a
   case map o=>exact⟨o,λH H' h=>by simp only[aV,hp,h]⟩
   all_goals exact⟨0,λH H' _=>by simp only[aV,hp]⟩
 case lookup sh z x k ok=>
  cases hp:x.ev F with
  |none=>exact⟨0,λH H' _=>by simp only[aV,hp]⟩
  |some a=>
   cases a
   case map o=>exact⟨o,λH H' h=>by cases e:k.ev F<;>simp only[aV,hp,e,h]⟩
   all_goals exact⟨0,λH H' _=>by simp only[aV,hp]⟩
 case aoR x=>
  cases hp:x.ev F with
  |none=>exact⟨0,λH H' _=>by simp only[aV,hp]⟩
  |some a =>obtain⟨q,hq⟩:=Xu 1 a;exact⟨q,λH H' h=>by simp only[aV,hp,hq H H' h]⟩
 case sliceA n s x lo hi mx=>cases lo<;>cases hi<;>cases mx<;>exact⟨0,λH H' _=>rfl⟩
 case box r x=>cases r<;>exact⟨0,λH H' _=>rfl⟩
 case aoI r _ _ _ _=>cases r<;>exact⟨0,λH H' _=>rfl⟩
 all_goals exact⟨0,λH H' _=>rfl⟩
theorem ui{p:PV}{n:Nat}{cs:V_}(e:H.le H')(h:loadCells H p n=some cs):loadCells H' p n=some cs:=by
 cases p
 case ptr o s i c=>
  simp only[loadCells]at h ⊢;cases l:H o with
  |none=>rw[l]at h;cases h
  |some x=>rw[e o x l];rw[l]at h;exact h
 all_goals exact h
theorem Si{s:Nat}{p:PV}{rs:P2_}(e:H.le H')(h:dH H s p=some rs):dH H' s p=some rs:=by
 cases p
 case osl o s' off len=>
  simp only[dH]at h ⊢;cases i:H o with
  |none=>rw[i]at h;simp at h
  |some x=>rw[e o x i];rw[i]at h;exact h
 all_goals exact h
theorem l8{op:POp}{v:PV}(i:H.le H')(h:aV op F H=some v):aV op F H'=some v:=by
 cases op
 case load n p=>
  cases hp:p.ev F with
  |none=>cases n<;>simp only[aV,hp]at h<;>cases h
  |some a=>
   cases n with
   |none=>
    simp only[aV,hp]at h ⊢;cases e:loadCells H a 1 with
    |none=>rw[e]at h;cases h
    |some cs=>rw[ui i e];rw[e]at h;exact h
   |some n=>
    simp only[aV,hp]at h ⊢;cases e:loadCells H a n with
    |none=>rw[e]at h;cases h
    |some cs=>rw[ui i e];rw[e]at h;exact h
 case lenM x=>
  simp only[aV]at h ⊢;split at h
  ·rename_i o u;cases l:H o with
   |none=>rw[l]at h;cases h
   |some y=>rw[i o y l];rw[l]at h;exact h
  ·cases h
 case lookup sh z x k ok=>
  simp only[aV]at h ⊢;split at h
  ·rename_i o B u A;cases l:H o with
   |none=>rw[l]at h;cases h
   |some y=>rw[i o y l];rw[l]at h;exact h
  ·cases h
 case aoR x=>
  simp only[aV]at h ⊢;split at h
  ·rename_i a w;cases e:dH H 1 a with
   |none=>rw[e]at h;cases h
   |some rs=>rw[Si i e];rw[e]at h;exact h
  ·cases h
 case sliceA n s x lo hi mx=>cases lo<;>cases hi<;>cases mx<;>exact h
 case box r x=>cases r<;>exact h
 case aoI r _ _ _ _=>cases r<;>exact h
 all_goals exact h
end
theorem PH.tw(H:PH)(l:N_):∃o,H o=none/\o ∉ l:=by
 obtain⟨n,i⟩:=H.fin;refine⟨n+l.sum+1,i _ Om,λh=>?_⟩;have:n+l.sum+1<=l.sum:=by
  have e:∀(l:N_)(x:Nat),x∈l->x<=l.sum:=by
   intro l
   induction l with
   |nil=>intro x hx;cases hx
   |cons y ys u=>
    intro x hx;rcases aqG.1 hx with rfl|hx
    simp;have:=u x hx;simp;omega
  exact e l _ h
 omega
theorem PH.set_comm(H:PH){o q:Nat}(x y:aR)(h:o≠q):(H.set o x).set q y=(H.set q y).set o x:=by
 refine PH.ext λp=>?_;simp only[cV];by_cases e:p=q<;>by_cases i:p=o<;>simp_all
theorem PH.TQ{H:PH}{o:Nat}(x:aR)(h:H o=none):H.le (H.set o x):=by
 intro p y hp;rw[cV];split;rename_i e;subst e;rw[h]at hp;cases hp;exact hp
theorem PH.Do{H:PH}{o q:Nat}{x:aR}:(H.set o x) q=none↔q≠o/\H q=none:=by
 rw[cV];split<;>simp_all
theorem PH.le_trans{A B D:PH}(h:A.le B)(k:B.le D):A.le D:=λo x e=>k o x (h o x e)
theorem PH.le_none{A B:PH}(h:A.le B){o:Nat}(hb:B o=none):A o=none:=by
 cases e:A o with
 |none=>rfl
 |some x=>have:=h o x e;rw[hb]at this;cases this
theorem PH.aeL{A B:PH}(h:A.le B){o:Nat}{x:aR}(i:A o=none):A.le (B.set o x):=by
 intro p y hp;rw[cV];split;rename_i e;subst e;rw[i]at hp;cases hp;exact h p y hp
structure y9(f:PH->Option PV):Prop where
 dep:∃q:Nat,∀(H H':PH),H q=H' q->f H=f H'
 mono:∀(H H':PH) v,H.le H'->f H=some v->f H'=some v
structure Yx(w:PH->(R_)->Prop):Prop where
 mono:∀H (K K':R_),(∀v H',K v H'->K' v H')->w H K->w H K'
 some:∀H (K:R_),w H K->∃v H',K v H'
inductive Kind.Ok:Kind->Prop
 |fail:Kind.Ok .fail
 |calm {f:PH->Option PV} (h:y9 f):Kind.Ok (.calm f)
 |new (r:Option ((Nat->PV) × aR)):Kind.Ok (.new r)
 |write {w:PH->(R_)->Prop} (h:Yx w):Kind.Ok (.write w)
 |call (name:Nat) (args:Option V_):Kind.Ok (.call name args)
 |ins (r:Option (Nat × MSh × List KS × PV)):Kind.Ok (.ins r)
section
variable {C:Ctx} {Hs:PH} {S:Spec} {H:PH}
theorem HW{op:POp}{F:PF}{K K':R_}(h:∀v H',K v H'->K' v H')(i:cG op F H K):cG op F H K':=by
 cases op
 case store n p x=>
  simp only[cG]at i ⊢;split at i
  ·obtain⟨D,H',l,E⟩:=i;exact⟨D,H',l,h _ _ E⟩
  ·exact i.elim
 case append s b x y=>
  simp only[cG]at i ⊢;split at i
  ·rename_i a c J L;obtain⟨src,D,l⟩:=i;refine⟨src,D,?_⟩;split at l
   ·exact⟨l.1,λe=>h _ _ (l.2.1 e),λe o u=>h _ _ (l.2.2 e o u)⟩
   ·obtain⟨g1,g2,g3,rs,g4,w,A,B⟩:=l;exact⟨g1,g2,g3,rs,g4,w,h _ _ A,λo u=>h _ _ (B o u)⟩
   ·obtain⟨g1,g3,rs,g4,w,A,B⟩:=l;exact⟨g1,g3,rs,g4,w,h _ _ A,λo u=>h _ _ (B o u)⟩
   ·exact l.elim
  ·exact i.elim
 case aoV sh x k v=>
  simp only[cG]at i ⊢;split at i
  ·split at i
   ·exact⟨i.1,h _ _ i.2⟩
   ·exact i.elim
  ·exact i.elim
 case insert sh x k v=>
  simp only[cG]at i ⊢;split at i
  ·split at i
   ·exact⟨i.1,i.2.1,h _ _ i.2.2⟩
   ·exact i.elim
  ·exact i.elim
 all_goals exact i.elim
theorem En{op:POp}{F:PF}{K:R_}(i:cG op F H K):∃v H',K v H':=by
 cases op
 case store n p x=>
  simp only[cG]at i;split at i
  ·obtain⟨B,H',l,D⟩:=i;exact⟨_,_,D⟩
  ·exact i.elim
 case append s b x y=>
  simp only[cG]at i;split at i
  ·rename_i a c J L;obtain⟨src,B,l⟩:=i;split at l
   ·by_cases e:src=[]
    ·exact⟨_,_,l.2.1 e⟩
    ·obtain⟨o,E⟩:=H.fresh;exact⟨_,_,l.2.2 e o E⟩
   ·obtain⟨g1,g2,g3,rs,g4,w,u,A⟩:=l;exact⟨_,_,u⟩
   ·obtain⟨g1,g3,rs,g4,w,u,A⟩:=l;exact⟨_,_,u⟩
   ·exact l.elim
  ·exact i.elim
 case aoV sh x k v=>
  simp only[cG]at i;split at i
  ·split at i
   ·exact⟨_,_,i.2⟩
   ·exact i.elim
  ·exact i.elim
 case insert sh x k v=>
  simp only[cG]at i;split at i
  ·split at i
   ·exact⟨_,_,i.2.2⟩
   ·exact i.elim
  ·exact i.elim
 all_goals exact i.elim
theorem Cp(op:POp)(F:PF):(op.kind F).Ok:=by
 have e:(if op.iR then Kind.new (cK op F)else if op.eQ then .write (λH K=>cG op F H K)else .calm (aV op F)).Ok:=by
  split
  ·exact .new _
  ·split
   ·exact .write ⟨λH K K' h i=>HW h i,λH K i=>En i⟩
   ·exact .calm ⟨Qj op F,λH H' v h l=>l8 h l⟩
 cases op
 case call n az=>exact .call _ _
 case apF x az=>
  simp only[POp.kind];split
  ·exact .call _ _
  ·exact .fail
 case insert sh x k v=>exact .ins _
 all_goals exact e
theorem xL(i:bQ)(F:PF):(i.kind F).Ok:=by
 unfold bQ.kind;split;exact Cp _ _;split;split;exact Cp _ _;exact .calm ⟨⟨0,λ_ _ _=>rfl⟩,λ_ _ _ _ h=>h⟩;exact .calm ⟨⟨0,λ_ _ _=>rfl⟩,λ_ _ _ _ h=>h⟩;exact .fail
theorem Kind.xT{k:Kind}(J:k.Ok){st:Bool}{K K':R_}(h:∀v H',Hs.le H'->K v H'->K' v H')(l:Hs.le H)(u:k.run C Hs S st K H):k.run C Hs S st K' H:=by
 cases J with
 |fail=>exact u
 |calm _=>obtain⟨v,e,i⟩:=u;exact⟨v,e,h _ _ l i⟩
 |new r=>obtain⟨M,x,e,i⟩:=u;exact⟨M,x,e,λo F=>h _ _ (PH.le_trans l (PH.TQ x F)) (i o F)⟩
 |write L=>exact L.mono _ _ _ (λv H' B=>⟨B.1,h _ _ B.1 B.2⟩) u
 |call name args =>obtain⟨vs,D,R,e,i,y,w,h5,A⟩:=u;exact⟨vs,D,R,e,i,y,w,h5,λr H' a b=>⟨(A r H' a b).1,h _ _ (A r H' a b).1 (A r H' a b).2⟩⟩
 |ins r =>obtain⟨o,sh,E,v,g,e,i,y,w,h5⟩:=u;exact⟨o,sh,E,v,g,e,i,y,w,h _ _ (PH.aeL l w) h5⟩
def Kind.cls:Kind->Nat
 | .fail | .calm _=>0
 | .new _=>1
 | .write _=>2
 | .call ..=>3
 | .ins _=>4
theorem OY{H:PH}{D:N_}{o:Nat}(x:aR)(h:o ∉ D):(H.set o x).only D=H.only D:=by
 refine PH.ext λq=>?_;simp only[PH.only,cV];split;rename_i hq;rw[aC (by rintro rfl;exact h hq)];rfl
theorem iN(H e H':PH)(o:Nat):(H.over e H') o=(match H' o with|some x=>some x|none=>match e o with|some _=>some .dead|none=>H o):=rfl
theorem yF(H:PH)(D:N_)(o:Nat):(H.only D) o=if o∈D then H o else none:=rfl
theorem Cx{H H':PH}{D:N_}{o:Nat}(x:aR)(l:o ∉ D)(i:H' o=none):(H.set o x).over (H.only D) H'=(H.over (H.only D) H').set o x:=by
 refine PH.ext λq=>?_;rw[iN,cV,cV,iN];by_cases e:q=o;subst e;simp only[i,yF,aC l,if_true];simp only[aC e]
theorem u1{H H':PH}{D:N_}{o:Nat}(h:(H.over (H.only D) H') o=none):H o=none/\H' o=none:=by
 rw[iN]at h;cases e:H' o with
 |some x=>rw[e]at h;cases h
 |none=>
  rw[e]at h;simp only at h;cases i:(H.only D) o with
  |some x=>rw[i]at h;cases h
  |none=>rw[i]at h;exact⟨h,rfl⟩
theorem xf{name:Nat}{args:Option V_}{r:Option ((Nat->PV) × aR)}{K:PV->R_}{W X:Bool}
  (h:(Kind.call name args).run C Hs S W (λv H'=>(Kind.new r).run C Hs S X (λu l=>K v u l) H') H) :
  (Kind.new r).run C Hs S X (λu H'=>(Kind.call name args).run C Hs S W (λv l=>K v u l) H') H:=by
 obtain⟨vs,D,R,h1,h2,L,h4,h5,M⟩:=h;obtain⟨r0,Y,E,F⟩:=h5 H;obtain⟨-,mk,x,U,-⟩:=M r0 Y E F;refine⟨mk,x,U,λo O=>?_⟩;have i:o ∉ D:=λhD=>by obtain⟨y,V⟩:=L o hD;rw[O]at V;cases V
 refine⟨vs,D,R,h1,h2,λq hq=>?_,?_,?_,?_⟩;rw[cV];split;exact⟨_,rfl⟩;exact L q hq;rw[OY x i];exact h4;rw[OY x i];exact h5;intro v H' N w;rw[OY x i]at N w ⊢;have J:H' o=none:=by
  cases e:H' o with
  |none=>rfl
  |some y =>have:=w o y e (by rw[yF,aC i]);rw[cV,aE rfl]at this;cases this
 have A:qS H (H.only D) H':=λq y hq Z=>by have:=w q y hq Z;rw[cV]at this;split at this;cases this;exact this
 obtain⟨g1,mk',x',g2,g3⟩:=M v H' N A;rw[U]at g2;cases g2;have B:(H.over (H.only D) H') o=none:=by rw[iN,J,yF,aC i];exact O
 rw[Cx x i J];exact⟨PH.le_trans g1 (PH.TQ x B),g3 o B⟩
theorem xh{name:Nat}{args:Option V_}{r:Option ((Nat->PV) × aR)}{K:PV->R_}{Y Z:Bool}(M:Hs.le H)
  (h:(Kind.new r).run C Hs S Y (λv H'=>(Kind.call name args).run C Hs S Z (λu w=>K v u w) H') H) :
  (Kind.call name args).run C Hs S Z (λu H'=>(Kind.new r).run C Hs S Y (λv w=>K v u w) H') H:=by
 obtain⟨O,x,hr,h⟩:=h;obtain⟨o0,N⟩:=H.fresh;obtain⟨vs,D,R,W,X,-⟩:=h o0 N;obtain⟨o,ho,A⟩:=H.tw D;have all:∀q,H q=none->q ∉ D->(∀p∈D,∃y,(H.set q x) p=some y)/\aJ C name vs (H.only D) (R (H.only D))/\(∀G:PH,∃r H',R (H.only D) r H'/\qS G (H.only D) H') /\
   ∀r H',R (H.only D) r H'->qS (H.set q x) (H.only D) H'->Hs.le ((H.set q x).over (H.only D) H')/\K (O q) r ((H.set q x).over (H.only D) H'):=by
  intro q hq l;obtain⟨α,D',R',g1,g2,g3,g4,U,V⟩:=h q hq;rw[W]at g1;cases g1;rw[X]at g2;cases g2;rw[OY x l]at g4 U V;exact⟨g3,g4,U,V⟩
 obtain⟨a3,a4,a5,-⟩:=all o ho A;have hD:∀q∈D,∃y,H q=some y:=λq hq=>by obtain⟨y,F⟩:=a3 q hq;rw[cV,aC (by rintro rfl;exact A hq)]at F;exact⟨y,F⟩
 have B:∀q,H q=none->q ∉ D:=λq hq J=>by obtain⟨y,F⟩:=hD q J;rw[hq]at F;cases F
 refine⟨vs,D,R,W,X,hD,a4,a5,λu H' hR L=>?_⟩;have step:∀q,(H.over (H.only D) H') q=none->Hs.le ((H.over (H.only D) H').set q x)/\K (O q) u ((H.over (H.only D) H').set q x):=by
  intro q hq;obtain⟨i,E⟩:=u1 hq;have l:=B q i;obtain⟨-,-,-,a6⟩:=all q i l;have:=a6 u H' hR λp y hp h0=>by rw[cV];split;rename_i e;subst e;rw[E]at hp;cases hp;exact L p y hp h0
  rw[Cx x l E]at this;exact this
 refine⟨?_,O,x,hr,λq hq=>(step q hq).2⟩;obtain⟨q,hq⟩:=(H.over (H.only D) H').fresh;have i:=(step q hq).1;intro p y hp;have:=i p y hp;rw[cV]at this;split at this;rename_i e;subst e;have:=PH.le_none M (u1 hq).1;rw[hp]at this;cases this;exact this
theorem D0{r r':Option ((Nat->PV) × aR)}{K:PV->R_}{A B:Bool}
  (h:(Kind.new r).run C Hs S A (λv H'=>(Kind.new r').run C Hs S B (λu e=>K v u e) H') H) :
  (Kind.new r').run C Hs S B (λu H'=>(Kind.new r).run C Hs S A (λv e=>K v u e) H') H:=by
 obtain⟨F,x,E,h⟩:=h;obtain⟨L,y⟩:=H.fresh;obtain⟨mk',D,i,-⟩:=h L y;refine⟨mk',D,i,λq hq=>⟨F,x,E,λo w=>?_⟩⟩;rw[PH.Do]at w;obtain⟨J,M,l,g⟩:=h o w.2;rw[i]at l;cases l;have:=g q (PH.Do.2 ⟨Ne.symm w.1,hq⟩)
 rwa[PH.set_comm H x D w.1]at this
theorem xg{f:PH->Option PV}{k:Kind}{K:PV->R_}{w D:Bool}(E:y9 f)(F:k.Ok)(l:k.cls=2\/k.cls=3\/k.cls=4->w=true)(i:Hs.le H)
  (h:(Kind.calm f).run C Hs S w (λv H'=>k.run C Hs S D (λu e=>K v u e) H') H) :
  k.run C Hs S D (λu H'=>(Kind.calm f).run C Hs S w (λv e=>K v u e) H') H:=by
 obtain⟨v,y,h⟩:=h;cases F with
 |fail=>exact h
 |@calm g O=>obtain⟨u,L,h⟩:=h;exact⟨u,L,v,y,h⟩
 |new r =>obtain⟨N,x,J,h⟩:=h;refine⟨N,x,J,λo B=>⟨v,?_,h o B⟩⟩;cases w;exact E.mono _ _ _ (PH.TQ x B) y;exact y
 |write M =>have:w=true:=l (.inl rfl);subst this;exact Kind.xT (.write M) (λu H' _ A=>⟨v,y,A⟩) i h
 |call name args =>have:w=true:=l (.inr (.inl rfl));subst this;exact Kind.xT (.call name args) (λu H' _ A=>⟨v,y,A⟩) i h
 |ins r =>have:w=true:=l (.inr (.inr rfl));subst this;exact Kind.xT (.ins r) (λu H' _ A=>⟨v,y,A⟩) i h
theorem xe{f:PH->Option PV}{k:Kind}{K:PV->R_}{si F:Bool}(hf:y9 f)(hk:k.Ok)(E:k.cls=2\/k.cls=3\/k.cls=4->F=true)(α:Hs.le H)
  (h:k.run C Hs S si (λv H'=>(Kind.calm f).run C Hs S F (λu A=>K v u A) H') H) :
  (Kind.calm f).run C Hs S F (λu H'=>k.run C Hs S si (λv A=>K v u A) H') H:=by
 cases hk with
 |fail=>exact h.elim
 |@calm g hg=>obtain⟨u,l,v,hv,h⟩:=h;exact⟨v,hv,u,l,h⟩
 |new r=>
  obtain⟨mk,x,hr,h⟩:=h;cases F with
  |true =>obtain⟨Z,B⟩:=H.fresh;obtain⟨u,l,-⟩:=h Z B;refine⟨u,l,mk,x,hr,λo J=>?_⟩;obtain⟨u',i,y⟩:=h o J;simp only[if_true]at l i;rw[l]at i;cases i;exact y
  |false=>
   obtain⟨q,hq⟩:=hf.dep;obtain⟨Z,B,X⟩:=H.tw [q];obtain⟨u,l,-⟩:=h Z B;simp only[arO,if_false]at l;have i:f H=some u:=by rw[<-l];exact hq _ _ (by rw[cV,aC (by simpa using Ne.symm (λe=>X (by simp[e])))])
   refine⟨u,i,mk,x,hr,λo J=>?_⟩;obtain⟨u2,hu2,y⟩:=h o J;simp only[arO,if_false]at hu2;rw[hf.mono _ _ _ (PH.TQ x J) i]at hu2;cases hu2;exact y
 |@write w hw =>have:F=true:=E (.inl rfl);subst this;obtain⟨_,_,_,u,l,_⟩:=hw.some _ _ h;refine⟨u,l,hw.mono _ _ _ (λv H' hh=>⟨hh.1,?_⟩) h⟩;obtain⟨-,u',i,y⟩:=hh;simp only[if_true]at l i;rw[l]at i;cases i;exact y
 |call name args =>have:F=true:=E (.inr (.inl rfl));subst this;obtain⟨vs,D,R,L,M,N,O,h5,h6⟩:=h;obtain⟨r0,H0,U,V⟩:=h5 H;obtain⟨-,u,l,-⟩:=h6 r0 H0 U V;refine⟨u,l,vs,D,R,L,M,N,O,h5,λr H' hR W=>?_⟩;obtain⟨g1,u',i,y⟩:=h6 r H' hR W;simp only[if_true]at l i;rw[l]at i;cases i;exact⟨g1,y⟩
 |ins r =>have:F=true:=E (.inr (.inr rfl));subst this;obtain⟨o,sh,Y,v,g,L,M,N,O,u,l,y⟩:=h;exact⟨u,l,o,sh,Y,v,g,L,M,N,O,y⟩
theorem Dz{r r':Option (Nat × MSh × List KS × PV)}{K:PV->R_}{O R:Bool}
  (h:(Kind.ins r).run C Hs S O (λv H'=>(Kind.ins r').run C Hs S R (λu w=>K v u w) H') H) :
  (Kind.ins r').run C Hs S R (λu H'=>(Kind.ins r).run C Hs S O (λv w=>K v u w) H') H:=by
 obtain⟨o,sh,l,v,g,F,J,L,A,o',E,i,v',U,N,y,B,V,M⟩:=h;by_cases e:o'=o;subst e;rw[cV,aE rfl]at y;cases y;have x:i≠l:=by rintro rfl;simp[jY.upd]at B
 have D:g i=none:=by simpa[jY.upd,x]using B
 refine⟨o',sh,i,v',g,N,J,D,A,o',sh,l,v,g.upd i v',F,by rw[cV,aE rfl],by simp[jY.upd,Ne.symm x,L],A,?_⟩;have:((H.set o' (.map sh (g.upd i v'))).set o' (.map sh ((g.upd i v').upd l v)))=((H.set o' (.map sh (g.upd l v))).set o' (.map sh ((g.upd l v).upd i v'))):=by refine PH.ext λq=>?_;simp only[cV];split;congr 2;funext k;simp only[jY.upd];by_cases h5:k=l<;>by_cases W:k=i<;>simp_all;rfl
 rw[this];exact M;rw[cV,aC e]at y;refine⟨o',E,i,v',U,N,y,B,V,o,sh,l,v,g,F,by rw[cV,aC (Ne.symm e)];exact J,L,A,?_⟩;rw[PH.set_comm H _ _ e];exact M
def zH(a b:Nat)(e i:Bool):Bool:=
 match a,b with
 |0,0|0,1|1,0|1,1|1,3|3,1|4,4=>true
 |0,_=>e
 |_,0=>i
 |_,_=>false
theorem Mk{B E:Kind}{K:PV->R_}{M N:Bool}(hi:B.Ok)(A:E.Ok)(e:zH B.cls E.cls M N=true)(y:Hs.le H)
  (h:B.run C Hs S M (λv H'=>E.run C Hs S N (λu l=>K v u l) H') H) :
  E.run C Hs S N (λu H'=>B.run C Hs S M (λv l=>K v u l) H') H:=by
 by_cases w:B.cls=0
 ·cases hi with
  |fail=>exact h.elim
  |calm L =>refine xg L A (λhc=>?_) y h;rcases hc with hc|hc|hc<;>(rw[hc]at e;simpa[zH,Kind.cls]using e)
  |new|write|call|ins=>simp[Kind.cls]at w
 by_cases i:E.cls=0
 ·cases A with
  |fail=>
   cases hi with
   |fail=>exact h
   |calm _=>simp[Kind.cls]at w
   |new r =>obtain⟨mk,x,-,h⟩:=h;obtain⟨o,ho⟩:=H.fresh;exact h o ho
   |write hw=>obtain⟨_,_,_,Z⟩:=hw.some _ _ h;exact Z
   |call name args =>obtain⟨vs,D,R,U,V,W,X,h5,Y⟩:=h;obtain⟨r0,O,F,J⟩:=h5 H;exact(Y r0 O F J).2
   |ins r =>obtain⟨o,sh,α,v,g,U,V,W,X,h5⟩:=h;exact h5
  |calm L =>refine xe L hi (λhc=>?_) y h;rcases hc with hc|hc|hc<;>(rw[hc]at e;simpa[zH,Kind.cls]using e)
  |new|write|call|ins=>simp[Kind.cls]at i
 ·cases hi with
  |fail|calm=>simp[Kind.cls]at w
  |new r=>
   cases A with
   |fail|calm=>simp[Kind.cls]at i
   |new r'=>exact D0 h
   |write=>simp[Kind.cls,zH]at e
   |call=>exact xh y h
   |ins=>simp[Kind.cls,zH]at e
  |write=>cases A<;>simp[Kind.cls,zH]at e i
  |call=>
   cases A with
   |fail|calm=>simp[Kind.cls]at i
   |new r'=>exact xf h
   |write=>simp[Kind.cls,zH]at e
   |call=>simp[Kind.cls,zH]at e
   |ins=>simp[Kind.cls,zH]at e
  |ins=>
   cases A with
   |fail|calm=>simp[Kind.cls]at i
   |new r'=>simp[Kind.cls,zH]at e
   |write=>simp[Kind.cls,zH]at e
   |call=>simp[Kind.cls,zH]at e
   |ins=>exact Dz h
end
open Go Go.RowKit
def bQ.apart(x y:bQ):Bool:=
 (match x.dst with
  |some d=>!(y.cW).contains d&&y.dst != some d
  |none=>true) &&
 (match y.dst with
  |some d=>!(x.cW).contains d
  |none=>true)
theorem C4{F:PF}{l:N_}{d:O_}(v:PV)(h:∀t,d=some t->t ∉ l):tU l (F.put d v) F:=by
 intro t e;cases d with
 |none=>rfl
 |some d=>
  have:t≠d:=by rintro rfl;exact h t rfl e
  simp only[PF.put,PF.set,upd,aC this]
theorem V4{F:PF}{d e:O_}(v u:PV)(h:∀t,d=some t->e≠some t):(F.put d v).put e u=(F.put e u).put d v:=by
 cases d with
 |none=>rfl
 |some d=>
  cases e with
  |none=>rfl
  |some e=>
   have i:d≠e:=by rintro rfl;exact h d rfl rfl
   exact Xn F (some v) (some u) i
theorem apart_spec{x y:bQ}(h:x.apart y=true):(∀d,x.dst=some d->d ∉ y.cW)/\(∀d,x.dst=some d->y.dst≠some d)/\(∀d,y.dst=some d->d ∉ x.cW):=by
 refine⟨λd e=>?_,λd e=>?_,λd e=>?_⟩<;>simp[bQ.apart,e]at h;exact h.1.1;exact h.1.2;exact h.2
def POp.cls:POp->Nat
 | .call .. | .apF ..=>3
 | .insert ..=>4
 |op=>if op.iR then 1 else if op.eQ then 2 else 0
def Vb(a b:Nat)(e i:Bool):Bool:=
 match a,b with
 |0,0|0,1|1,0|1,1=>true
 |4,4=>e&&i
 |0,_=>e
 |_,0=>i
 |1,3=>e
 |3,1=>i
 |_,_=>false
def jz(x y:bQ × Bool):Bool:=x.1.apart y.1&&Vb x.1.op.cls y.1.op.cls x.2 y.2
section
variable {C:Ctx} {Hs:PH} {S:Spec} {H:PH} {F:PF}
theorem uz(op:POp)(F:PF):(op.kind F).cls=op.cls\/(op.kind F).cls=0:=by
 have e:(if op.iR then Kind.new (cK op F)else if op.eQ then .write (λH K=>cG op F H K)else .calm (aV op F)).cls=(if op.iR then 1 else if op.eQ then 2 else 0):=by
  split
  ·rfl
  ·split<;>rfl
 cases op
 case call n az=>exact .inl rfl
 case apF x az=>
  simp only[POp.kind];split
  ·exact .inl rfl
  ·exact .inr rfl
 case insert sh x k v=>exact .inl rfl
 all_goals exact .inl e
theorem t8(i:bQ)(F:PF):(i.kind F).cls=i.op.cls\/(i.kind F).cls=0:=by
 unfold bQ.kind;split;exact uz _ _;split;split;exact uz _ _;exact .inr rfl;exact .inr rfl;exact .inr rfl
theorem aeO{a b e i:Nat}{l u:Bool}(h:Vb a b l u=true)(w:e=a\/e=0)(hb:i=b\/i=0):zH e i l u=true:=by
 unfold Vb at h;split at h
 all_goals (rcases w with rfl|rfl<;>rcases hb with rfl|rfl<;>simp_all [zH])
theorem Kind.Wl{k:Kind}(A:k.Ok){st:Bool}{K:R_}(e:k.run C Hs S st K H):∃v H',K v H':=by
 cases A with
 |fail=>exact e.elim
 |calm _=>obtain⟨v,l,i⟩:=e;exact⟨v,_,i⟩
 |new r=>obtain⟨L,x,l,i⟩:=e;obtain⟨o,B⟩:=H.fresh;exact⟨_,_,i o B⟩
 |write E=>obtain⟨v,H',h⟩:=E.some _ _ e;exact⟨v,H',h.2⟩
 |call name args =>obtain⟨vs,D,R,l,i,u,w,h5,y⟩:=e;obtain⟨r,H',a,b⟩:=h5 H;exact⟨_,_,(y r H' a b).2⟩
 |ins r =>obtain⟨o,sh,J,v,g,l,i,u,w,h5⟩:=e;exact⟨_,_,h5⟩
def zN(C:Ctx)(Hs:PH)(S:Spec)(i:bQ × Bool)(K:K_)(F:PF)(H:PH):Prop:=(i.1.kind F).run C Hs S i.2 (λv H'=>K (F.put i.1.dst v) H') H
theorem CM{i:bQ × Bool}{K K':K_}(h:∀l H',Hs.le H'->K l H'->K' l H')(e:Hs.le H)(u:zN C Hs S i K F H):zN C Hs S i K' F H:=
 Kind.xT (xL _ _) (λv H' a b=>h _ _ a b) e u
theorem Qb{i j:bQ × Bool}{K:K_}(w:jz i j=true)(l:Hs.le H)(h:zN C Hs S i (zN C Hs S j K) F H):zN C Hs S j (zN C Hs S i K) F H:=by
 simp only[jz,apT]at w;obtain⟨y,A,B⟩:=apart_spec w.1;unfold zN at h ⊢;have x:∀v,j.1.kind (F.put i.1.dst v)=j.1.kind F:=λv=>kn (C4 v y);have e2:∀v,i.1.kind (F.put j.1.dst v)=i.1.kind F:=λv=>kn (C4 v B);simp only[x]at h;simp only[e2];have:=Mk (K:=λv u e=>K ((F.put i.1.dst v).put j.1.dst u) e) (xL i.1 F) (xL j.1 F) (aeO w.2 (t8 _ _) (t8 _ _)) l h;refine Kind.xT (xL j.1 F) (λu H' a b=>?_) l this;refine Kind.xT (xL i.1 F) (λv e _ c=>?_) a b;rw[V4 v u A]at c;exact c
inductive BQ (ops:Array Oper):Nat->Nat->Prop
 |one {i j:Nat} {o:Oper} {e} (ho:ops[j]?=some o) (he:e∈o.after) (hb:Region.binds .any e=true) (hi:e.on=i):BQ ops i j
 |step {i m j:Nat} {o:Oper} {e} (h:BQ ops i m) (ho:ops[j]?=some o) (he:e∈o.after) (hb:Region.binds .any e=true) (hm:e.on=m):BQ ops i j
def tT(ops:Array Oper)(listed:Array Bool):Prop:=∀j o,ops[j]?=some o->listed.getD j false=true->∀e∈o.after,Region.binds .any e=true->listed.getD e.on false=true
theorem tT.Xm{ops:Array Oper}{listed:Array Bool}(l:tT ops listed){i j:Nat}(h:BQ ops i j)(u:listed.getD j false=true):listed.getD i false=true:=by
 induction h with
 |one e he hb hi=>subst hi;exact l _ _ e u _ he hb
 |step h e he hb w x=>subst w;exact x (l _ _ e u _ he hb)
theorem tT.ux{ops:Array Oper}{listed:Array Bool}(y:tT ops listed){i j:Nat}(h:BQ ops i j)(hi:listed.getD i false=false):j ∉ Region.ready .any ops listed:=by
 intro w;rw[mem_ready]at w;obtain⟨-,o,x,l⟩:=w;cases h with
 |one e he hb u =>rw[x]at e;cases e;subst u;rw[l _ he hb]at hi;cases hi
 |step h e he hb A =>rw[x]at e;cases e;subst A;rw[y.Xm h (l _ he hb)]at hi;cases hi
theorem tT.set{ops:Array Oper}{listed:Array Bool}(A:tT ops listed){i:Nat}(hi:i∈Region.ready .any ops listed):tT ops (listed.setIfInBounds i true):=by
 intro j o y x e he hb;by_cases u:j=i;subst u;rw[mem_ready]at hi;obtain⟨-,o',w,l⟩:=hi;rw[y]at w;cases w;exact getD_set_true (l e he hb);rw[getD_set_ne false (Ne.symm u)]at x;exact getD_set_true (A j o y x e he hb)
def FY(C:Ctx)(Hs:PH)(S:Spec)(ops:Array Oper)(il:List (bQ × Bool))(K:K_):Nat->Array Bool->K_
 |0,listed,F,H=>Region.ready .any ops listed=[]/\K F H
 |fuel+1,listed,F,H=>(Region.ready .any ops listed=[]->K F H) /\
  ∀i∈Region.ready .any ops listed,∀p,il[i]?=some p->zN C Hs S p (FY C Hs S ops il K fuel (listed.setIfInBounds i true)) F H
theorem Ja{ops:Array Oper}{il:List (bQ × Bool)}{K:K_}{i:Nat}{p:bQ × Bool}(hp:il[i]?=some p) :
  ∀(fuel:Nat)(listed:Array Bool)(F:PF)(H:PH),Hs.le H->tT ops listed ->
   (∀j q,il[j]?=some q->j≠i->listed.getD j true=false->¬BQ ops i j->jz p q=true) ->
   i∈Region.ready .any ops listed->zN C Hs S p (FY C Hs S ops il K fuel (listed.setIfInBounds i true)) F H->FY C Hs S ops il K (fuel+1) listed F H:=by
 intro fuel
 induction fuel with
 |zero =>intro listed F H w N u y h;refine⟨λe=>(by rw[e]at y;cases y),λj A q hq=>?_⟩;by_cases l:j=i;subst l;rw[hp]at hq;cases hq;exact h;obtain⟨v,H',B⟩:=Kind.Wl (xL _ _) h;have:=ready_mono A l;rw[B.1]at this;cases this
 |succ fuel Z=>
  intro listed F H w N u y h;refine⟨λe=>(by rw[e]at y;cases y),λj A q hq=>?_⟩;by_cases l:j=i;subst l;rw[hp]at hq;cases hq;exact h;have x:=(mem_ready.1 y).1;have E:=(mem_ready.1 A).1;have D:listed.getD i false=false:=by
   rcases aqW i listed.size with h'|h'
   simp[h']at x ⊢;exact x;simp[Array.getElem?_eq_none h']at x
  have R:¬BQ ops i j:=λhb=>N.ux hb D A;have W:zN C Hs S p (zN C Hs S q (FY C Hs S ops il K fuel ((listed.setIfInBounds i true).setIfInBounds j true))) F H:=
   CM (λV H' _ B=>B.2 j (ready_mono A l) q hq) w h
  have X:=Qb (u j q hq l E R) w W;refine CM (λV H' L B=>?_) w X;refine Z (listed.setIfInBounds j true) V H' L (N.set A) (λk r Y O M U=>u k r Y O ?_ U) (ready_mono y (Ne.symm l)) ?_;by_cases J:j=k;subst J;exact E;rw[getD_set_ne true J]at M;exact M;rw[Array.setIfInBounds_comm _ _ l];exact B
def yX(o:Oper):N_:=(o.after.toList.filter λe=>Region.binds .any e).map (·.on)
def B8(ms:N_)(ds:N_):Nat:=ds.foldl (λs d=>s ||| (2^d ||| ms.getD d 0)) 0
def DT:List Oper->N_->N_
 |[],e=>e
 |o::os,e=>DT os (e++[B8 e (yX o)])
def lP(ms:N_):Nat->List Oper->Bool
 |_,[]=>true
 |k,o::os=>(yX o).all (·<k)&&ms.getD k 0==B8 ms (yX o)&&lP ms (k+1) os
def IU(ms:N_)(i:Nat)(p:bQ × Bool):Nat->List (bQ × Bool)->Bool
 |_,[]=>true
 |j,q::e=>((ms.getD j 0).testBit i||jz p q)&&IU ms i p (j+1) e
def FI(ms:N_):Nat->List (bQ × Bool)->Bool
 |_,[]=>true
 |i,p::ps=>IU ms i p (i+1) ps&&FI ms (i+1) ps
def Oo(ops:Array Oper)(il:List (bQ × Bool)):Bool:=
 let ms:=DT ops.toList []
 lP ms 0 ops.toList&&FI ms 0 il
theorem B9{ms:N_}{i:Nat}:∀{ds:N_}{s:Nat},(ds.foldl (λs d=>s ||| (2^d ||| ms.getD d 0)) s).testBit i=true->s.testBit i=true\/∃d∈ds,d=i\/(ms.getD d 0).testBit i=true
 |[],s,h=>.inl h
 |d::ds,s,h=>by
  rw[List.foldl_cons]at h;rcases B9 h with h|⟨e,he,h⟩
  rw[Nat.testBit_or,Nat.testBit_or,Nat.testBit_two_pow]at h;simp only[Bool.or_eq_true,decide_eq_true_eq]at h;rcases h with h|h|h
  exact .inl h;exact .inr ⟨d,by simp,.inl h⟩;exact .inr ⟨d,by simp,.inr h⟩;exact .inr ⟨e,by simp[he],h⟩
theorem zG{ms:N_}:∀{l:List Oper}{k j:Nat}{o:Oper},lP ms k l=true->l[j]?=some o->(∀d∈yX o,d<k+j)/\ms.getD (k+j) 0=B8 ms (yX o)
 |[],_,_,_,_,h=>by simp at h
 |o::os,k,j,o',h,e=>by
  simp only[lP,apT,aqM,decide_eq_true_eq,beq_iff_eq]at h;cases j with
  |zero=>simp only[List.getElem?_cons_zero,asB.injEq]at e;subst e;exact⟨h.1.1,h.1.2⟩
  |succ j =>have:=zG h.2 (by simpa using e);rw[atA,Nat.add_comm 1 j]at this;exact this
theorem YW{ms:N_}{ops:Array Oper}(h:lP ms 0 ops.toList=true)(i:Nat):∀(n j:Nat),j<n->j<ops.size->(ms.getD j 0).testBit i=true->BQ ops i j:=by
 intro n
 induction n with
 |zero=>intro j A;omega
 |succ n D=>
  intro j A hlt hb;have B:ops.toList[j]?=some ops[j]:=by simp[hlt]
  have u:ops[j]?=some ops[j]:=by simp[hlt]
  obtain⟨w,x⟩:=zG h B;rw[aqA]at w x;rw[x]at hb;rcases B9 hb with hb|⟨d,hd,hb⟩
  simp at hb;have y:=w d hd;simp only[yX,aqJ,asQ]at hd;obtain⟨e,⟨he,l⟩,rfl⟩:=hd;rcases hb with rfl|hb
  exact .one u (by simpa using he) l rfl;exact .step (D e.on Om Om hb) u (by simpa using he) l rfl
theorem UH{ms:N_}{i:Nat}{p:bQ × Bool}:∀{l:List (bQ × Bool)}{k j:Nat}{q:bQ × Bool},IU ms i p k l=true->l[j]?=some q->(ms.getD (k+j) 0).testBit i=true\/jz p q=true
 |[],_,_,_,_,h=>by simp at h
 |x::xs,k,j,q,h,hq=>by
  simp only[IU,apT,Bool.or_eq_true]at h;cases j with
  |zero=>simp only[List.getElem?_cons_zero,asB.injEq]at hq;subst hq;exact h.1
  |succ j =>have:=UH h.2 (by simpa using hq);rw[atA,Nat.add_comm 1 j]at this;exact this
theorem MO{ops:Array Oper}{il:List (bQ × Bool)}{K:K_}{ms:N_}(O:Z' il=ops.size)(J:lP ms 0 ops.toList=true) :
  ∀(l:List (bQ × Bool)) (k:Nat) (listed:Array Bool) (F:PF) (H:PH),(∀j,l[j]?=il[k+j]?)->k+Z' l=ops.size->listed.size=ops.size->(∀j,j<ops.size->(listed.getD j true=true↔j<k))->FI ms k l=true->Hs.le H ->
   wpD C Hs S l K F H->FY C Hs S ops il K l.length listed F H
 |[],k,listed,F,H,W,V,U,i,_,E,h=>by
  refine⟨?_,h⟩;cases hr:Region.ready .any ops listed with
  |nil=>rfl
  |cons x xs=>
   have hx:x∈Region.ready .any ops listed:=by rw[hr];simp
   obtain⟨h0,o,X,-⟩:=mem_ready.1 hx;have hlt:x<ops.size:=(atC.1 X).1;have:=(i x hlt).2 (by simp at V;omega);rw[h0]at this;cases this
 |p::l,k,listed,F,H,W,V,U,i,hB,E,h=>by
  have hp:il[k]?=some p:=by simpa using(W 0).symm
  have M:k<ops.size:=by simp at V;omega
  simp only[FI,apT]at hB;have X:ops[k]?=some ops[k]:=by simp[M]
  have B:∀j,j<ops.size->(listed.getD j false=listed.getD j true):=λj A=>by simp[show j<listed.size by omega]
  have δ:∀j,j<ops.size->∀e∈ops[j]!.after,True:=λ_ _ _ _=>trivial;have y:∀j o,ops[j]?=some o->∀e∈o.after,Region.binds .any e=true->e.on<j:=by
   intro j o A e he hb;have hlt:j<ops.size:=(atC.1 A).1;have:=(zG J (j:=j) (o:=o) (by simpa using A)).1 e.on (by simp only[yX,aqJ,asQ];exact⟨e,⟨by simpa using he,hb⟩,rfl⟩)
   omega
  have w:k∈Region.ready .any ops listed:=by
   rw[mem_ready];refine⟨?_,_,X,λe he hb=>?_⟩
   ·cases Y:listed.getD k true with
    |false=>rfl
    |true=>have:=(i k M).1 Y;omega
   have hd:=y k _ X e he hb;rw[B e.on Om];exact(i e.on Om).2 hd
  have u:tT ops listed:=by intro j o A R e he hb;have hlt:j<ops.size:=(atC.1 A).1;have hd:=y j o A e he hb;rw[B j hlt]at R;have:=(i j hlt).1 R;rw[B e.on Om];exact(i e.on Om).2 Om
  refine Ja hp l.length listed F H E u (λj q hq α γ Z=>?_) w ?_;have L:j<ops.size:=by have:=(aqU.1 hq).1;omega
  have D:k<j:=by
   rcases Nat.lt_trichotomy j k with h'|h'|h'
   have:=(i j L).2 h';rw[γ]at this;cases this;exact(α h').elim;exact h'
  have β:l[j-(k+1)]?=some q:=by have:=W (j-k);rw[show k+(j-k)=j by omega,hq,show j-k=(j-(k+1))+1 by omega]at this;simpa using this
  rcases UH hB.1 β with hb|hb
  rw[show k+1+(j-(k+1))=j by omega]at hb;exact(Z (YW J k (j+1) j Om L hb)).elim;exact hb;have h':zN C Hs S p (wpD C Hs S l K) F H:=h;refine CM (λF' H' N Y=>?_) E h';refine MO O J l (k+1) _ F' H' (λj=>?_) (by simp at V;omega) (by simpa using U) (λj A=>?_) hB.2 N Y;have:=W (j+1);rw[show k+(j+1)=k+1+j by omega]at this;simpa using this;by_cases D:k=j;subst D;simp[show k<listed.size by omega];rw[getD_set_ne true D,i j A];omega
end
open Go Go.RowKit
def A0(ms cls:N_)(i:Nat):Bool:=
 cls.getD i 0 != 0||(apQ cls.length).any λj=>(cls.getD j 0==2||cls.getD j 0==3||cls.getD j 0==4)&&!(ms.getD j 0).testBit i&&!(ms.getD i 0).testBit j
def CU(ops:Array Oper)(e:List bQ):List (bQ × Bool):=
 let ms:=DT ops.toList []
 let cls:=e.map λi=>i.op.cls
 e.zip ((apQ e.length).map (A0 ms cls))
namespace Tbl
variable (T:Tbl)
def drawn(n:Nat)(ops:Array Oper):Option (List (bQ × Bool)):=
 match T.wQ n ops ops.toList with
 |some e=>if T.P.follows .mixedOrders&&Oo ops (CU ops e)then some (CU ops e)else none
 |none=>none
end Tbl
section
variable {ro:O_} {fu:Nat} {ds:List Deferred} {C:Ctx} {Hs:PH} {S:Spec} {T:Tbl} {n:Nat}
section
variable {E:Env} {F:PF} {H:PH} {a:Act} {w:World}
theorem pU.after{e:Env}{H':PH}{i:World}{K:K_}{next:Act->World->Prop}(h:pU ds n E H w K next)(y:Ext E H w e H' i):pU ds n e H' i K next:=
 λl u H2 a2 D x hW B A=>h l u H2 a2 D x hW (y.trans B) A
theorem SJ{t:Nat}{b:Bool}(i:eP ds n E F a)(h:F t=some (.bool b)):a.tmps[t]?=some (.bool b):=by
 have r:=i.t t _ h;rw[auE]at r;cases e:a.tmps[t]? with
 |none=>rw[e]at r;simp[undef]at r;cases r
 |some v=>rw[e]at r;simp at r;cases r;rfl
theorem NY{ops:Array Oper}{o:Oper}{i:bQ}(h:T.WW n ops o=some i):(T.op o=some i.op\/i.op=.stuck)/\o.dst=i.dst/\o.dst.all (·<n)=true /\
  ((o.guard=none/\i.guard=none)\/∃j e t,o.guard=some (j,e)/\i.guard=some (t,e)/\(ops[j]?).bind (·.dst)=some t):=by
 unfold Tbl.WW at h;have hp:T.op o=some ((T.op o).getD .stuck)\/(T.op o).getD .stuck=.stuck:=by cases T.op o;exact .inr rfl;exact .inl rfl
 generalize(T.op o).getD .stuck=p at *
 split at h;rename_i u;split at h;rename_i l;cases h;exact⟨hp,rfl,u,.inl ⟨l,rfl⟩⟩;rename_i j e l;split at h;rename_i t x;cases h;exact⟨hp,rfl,u,.inr ⟨j,e,t,l,rfl,x⟩⟩;cases h;cases h
theorem KV{ops:Array Oper}{o:Oper}{j t:Nat}{e b:Bool}(i:o.guard=some (j,e))(l:(ops[j]?).bind (·.dst)=some t)(hb:a.tmps[t]?=some (.bool b)):Region.wanted o (yielded ops a.tmps)=(b==e):=by
 simp[Region.wanted,i,yielded,l,hb]
end
theorem AS{E:Env}:bB E (.tup []) undef:=.tup #[] rfl aX
theorem UY{n:Nat}{E:Env}{F:PF}{a:Act}{t:Nat}(e:eP ds n E F a)(h:F t=some (.tup [])):a.tmps.getD t undef=undef:=by
 have:=e.t t _ h;generalize a.tmps.getD t undef=v at this;cases this with
 |tup vs i l=>
  have:vs=#[]:=by simpa using i
  subst this;rfl
theorem HO{ops:Array Oper}{a:Act}{o:Oper}{j t:Nat}{e:Bool}(i:o.guard=some (j,e))(l:(ops[j]?).bind (·.dst)=some t)(hb:a.tmps.getD t undef=undef):Region.wanted o (yielded ops a.tmps)=false:=by
 simp only[Region.wanted,i,yielded,l];rw[auE]at hb;cases h:a.tmps[t]? with
 |none=>simp[h]
 |some v =>rw[h]at hb;simp only[arT]at hb;subst hb;simp[h,undef]
theorem yG{E:Env}{F:PF}{H:PH}{a:Act}{w:World}(i:C.P=T.P)(e:C.num=T.num){o:Oper}{p:POp}{d:O_}{K:K_}{Q:Exit->Act->World->Prop}{next:Act->World->Prop}(l:T.op o=some p\/p=.stuck)(y:o.dst=d)(hlt:o.dst.all (·<n)=true)
  (h:wpOp C p d K F H) (u:eP ds n E F a) (hW:bS E H w) (x:E.num=T.num) (aoZ:pU ds n E H w K next):o.wpIn (Fz ro) fu T.P a w next Q:=by
 rcases l with l|rfl
 ·exact Vx i e l y hlt h u hW x aoZ
 ·obtain⟨v,A,-⟩:=h;cases A
theorem XE(H:PH)(D:N_):(H.only D).le H:=by
 intro o x e;rw[yF]at e;split at e;exact e;cases e
theorem PR{op:POp}{F:PF}{H:PH}{st:Bool}{d:O_}{K:K_}(A:Hs.le H)(h:(op.kind F).run C Hs S st (λv H'=>K (F.put d v) H') H):wpOp C op d K F H:=by
 have y:(if op.iR then Kind.new (cK op F)else if op.eQ then .write (λH K=>cG op F H K)else .calm (aV op F)).run C Hs S st (λv H'=>K (F.put d v) H') H ->
   (if op.iR then oN (cK op F) d K F H else if op.eQ then cG op F H (λr H'=>K (F.put d r) H')else wU (aV op F H) d K F H):=by
  intro h;by_cases i:op.iR=true
  ·rw[aE i]at h ⊢;exact h
  ·rw[aC i]at h ⊢;by_cases u:op.eQ=true
   ·rw[aE u]at h ⊢;have U:cG op F H λr H'=>Hs.le H'/\K (F.put d r) H':=h;exact HW (λv H' Y=>Y.2) U
   ·rw[aC u]at h ⊢;obtain⟨v,J,X⟩:=h;refine⟨v,?_,X⟩;cases st
    ·exact J
    ·exact l8 A J
 have e:∀name l,(Kind.call name l).run C Hs S st (λv H'=>K (F.put d v) H') H->uW C name l d K F H:=by intro name l h;obtain⟨vs,D,R,i,u,B,V,h5,W⟩:=h;exact⟨vs,H.only D,R (H.only D),i,XE H D,V,λr H' a b=>(W r H' a b).2⟩
 cases op
 case call name az=>exact .inl (by simpa using e _ _ h)
 case apF x az=>
  simp only[POp.kind]at h;split at h
  ·rename_i name cs Z;show wD C (x.ev F) az d K F H;rw[Z];exact .inl (e _ _ h)
  ·exact h.elim
 case insert sh x k v=>
  obtain⟨o,β,α,vv,g,i,u,B,-,h5⟩:=h;show cG (.insert sh x k v) F H (λr H'=>K (F.put d r) H');split at i
  ·rename_i o' kv γ M e2 N;simp only[aqB,Prod.mk.injEq]at i;obtain⟨L,O,rfl,rfl,rfl,rfl⟩:=i;simp only[cG,M,e2,N,u,O];exact⟨trivial,B,h5⟩
  ·cases i
 all_goals exact y h
theorem ta(W:C.P=T.P)(V:C.num=T.num){ops:Array Oper}{N:List bQ}{R:List Bool}(ε:Z' R=Z' N)(δ:∀(i:Nat) o,ops[i]?=some o->∃p,N[i]?=some p/\T.WW n ops o=some p)
  {K:K_} {Q:Exit->Act->World->Prop} :
  ∀(fuel:Nat)(listed:Array Bool)(E:Env)(F:PF)(H:PH)(a:Act)(w:World),FY C Hs S ops (N.zip R) K fuel listed F H->Hs.le H->eP ds n E F a->bS E H w->E.num=T.num->pU ds n E H w K (Q .normal) ->
   wpAnyIn (Fz ro) fu T.P .any ops Q fuel listed a w:=by
 intro fuel
 induction fuel with
 |zero=>intro listed E F H a w h J u hW Z hT;exact⟨h.1,hT E F H a w u hW (.refl E H w) h.2⟩
 |succ fuel ih=>
  intro listed E F H a w h J u hW Z hT;refine⟨λe=>hT E F H a w u hW (.refl E H w) (h.1 e),λi hi=>?_⟩;obtain⟨-,o,ho,-⟩:=mem_ready.1 hi;obtain⟨p,hp,γ⟩:=δ i o ho;have hlt:i<Z' N:=(aqU.1 hp).1;have hz:(N.zip R)[i]?=some (p,R[i]'Om):=by rw[List.getElem?_zip_eq_some];exact⟨hp,by simp⟩
  have X:=h.2 i hi _ hz;obtain⟨Y,hd,B,hg⟩:=NY γ;have A:pU ds n E H w (λO H'=>Hs.le H'/\FY C Hs S ops (N.zip R) K fuel (listed.setIfInBounds i true) O H') (wpAnyIn (Fz ro) fu T.P .any ops Q fuel (listed.setIfInBounds i true)):=
   λE' O H' a' w' α β hE U=>ih _ E' O H' a' w' U.2 U.1 α β (hE.env.num.trans Z) (hT.after hE)
  have l:=CM (K':=λO H'=>Hs.le H'/\FY C Hs S ops (N.zip R) K fuel (listed.setIfInBounds i true) O H') (λO H' x y=>⟨x,y⟩) J X;unfold zN bQ.kind at l;unfold Go.wpOpIn;simp only[ho];rcases hg with⟨D,M⟩|⟨j,want,t,D,M,ht⟩
  rw[aE (by simp[Region.wanted,D])];simp only[M]at l;exact(yG W V Y hd B (PR J l) u hW Z A);simp only[M]at l;split at l;rename_i b hb;rw[KV D ht (SJ u hb)];split at l;rename_i L;rw[aE (by simp[L])];exact(yG W V Y hd B (PR J l) u hW Z A);rename_i L;rw[aC (by simpa using L)];obtain⟨v,hv,U⟩:=l;cases hv;exact⟨λ_ _=>trivial,A E _ H _ w (by rw[<-hd];exact u.put B AS) hW (.refl E H w) U⟩;rename_i hb;rw[HO D ht (UY u hb),aC aX];obtain⟨v,hv,U⟩:=l;cases hv;exact⟨λ_ _=>trivial,A E _ H _ w (by rw[<-hd];exact u.put B AS) hW (.refl E H w) U⟩;exact l.elim
theorem TM{ops:Array Oper}:∀{l:List Oper}{u:List bQ},T.wQ n ops l=some u->Z' u=Z' l/\∀(i:Nat) o,l[i]?=some o->∃p,u[i]?=some p/\T.WW n ops o=some p
 |[],u,h=>by simp[Tbl.wQ]at h;subst h;exact⟨rfl,λi o h=>by simp at h⟩
 |o::l,u,h=>by
  simp only[Tbl.wQ]at h;split at h
  ·rename_i p ps hp x;cases h;obtain⟨y,A⟩:=TM x;refine⟨by simp[y],λi o' e=>?_⟩;cases i with
   |zero=>simp at e;subst e;exact⟨p,rfl,hp⟩
   |succ i=>obtain⟨q,a,b⟩:=A i o' (by simpa using e);exact⟨q,by simpa using a,b⟩
  cases h
theorem Ju(D:C.P=T.P)(B:C.num=T.num){id:Nat}{ops:Array Oper}{il:List (bQ × Bool)}(e:T.drawn n ops=some il){K:K_}{Q:Exit->Act->World->Prop}{E:Env}{F:PF}{H:PH}{a:Act}{w:World}
  (h:∃Hs S,PH.le Hs H/\wpD C Hs S il K F H) (X:eP ds n E F a) (hW:bS E H w) (Y:E.num=T.num) (Z:pU ds n E H w K (Q .normal)):(Code.region id ops true).wpIn (Fz ro) fu T.P Q a w:=by
 obtain⟨Hs,S,y,h⟩:=h;unfold Tbl.drawn at e;split at e;rename_i O L;split at e;rename_i l;cases e;simp only[apT,Oo]at l;obtain⟨hm,M,N⟩:=l;obtain⟨A,J⟩:=TM L;have u:Z' O=ops.size:=by simpa using A
 refine wpIn_region_any hm ?_;have x:(CU ops O).length=ops.size:=by simp[CU,u]
 have R:=MO (C:=C) (Hs:=Hs) (S:=S) (K:=K) x M (CU ops O) 0 (arX ops.size false) F H aX (by simp[x]) aX (λj hj=>by simp[hj]) N y h;rw[x]at R;exact ta D B aX (λi o ho=>J i o (by simpa using ho)) ops.size _ E F H a _ R y X hW.drew Y (λU V H' W w' g1 g2 g3 g4=>Z U V H' W w' g1 g2 g3.rz g4);cases e;cases e
end
end Go.PM
namespace Go.PM
open Go Go.RowKit
def POp.aeI:POp->Bool
 | .load .. | .lookup .. | .aoR ..=>true
 |_=>false
def POp.aaA:POp->Bool
 | .store ..=>true
 |_=>false
def nr(ms:N_)(m n:Nat):Bool:=(apQ n).all λj=>decide (j<m)||(apQ m).all λi=>(ms.getD j 0).testBit i
def cutAt(ms:N_)(e:List bQ):O_:=
 let cls:=e.map λi=>i.op.cls
 (apQ e.length).find? λm=>(match e[m]? with|some i=>i.op.aaA&&i.guard.isNone|none=>false)&&nr ms m e.length&&(apQ m).any λi=>match e[i]? with|some x=>x.op.aeI&&A0 ms cls i|none=>false
def pE(ms:N_)(k:Nat)(e:List bQ):List (bQ × Bool):=
 let cls:=e.map λi=>i.op.cls
 e.zip ((apQ e.length).map (A0 (ms.drop k |>.map (· >>> k)) cls))
namespace Tbl
variable (T:Tbl)
def Ao(n:Nat)(ops:Array Oper):Option aI:=
 match T.wQ n ops ops.toList with
 |some e=>
  let ms:=DT ops.toList []
  match cutAt ms e with
  |none=>(T.drawn n ops).map .draw
  |some m=>
   let A:=pE ms 0 (e.take m)
   let B:=pE ms m (e.drop m)
   if T.P.follows .mixedOrders&&lP ms 0 ops.toList&&nr ms m e.length&&FI ms 0 A&&FI ms m B then some (.seq (.draw A) (.draw B))else none
 |none=>none
def code(n:Nat):Code->Option aI
 | .skip=>some .skip
 | .region _ ops d=>if d then T.Ao n ops else(T.wQ n ops ops.toList).map .region
 | .seq a b=>match code n a,code n b with
  |some a,some b=>some (.seq a b)
  |_,_=>none
 | .cond c a b=>match T.opd c,code n a,code n b with
  |some c,some a,some b=>some (.cond c a b)
  |_,_,_=>none
 | .block id c=>(code n c).map (.block id)
 | .loop c=>(code n c).map .loop
 | .exit id=>some (.exit id)
 | .ret=>some .ret
 | .scope c=>code n c
 | .label _=>some .skip
 |_=>none
end Tbl
theorem TV{ms:N_}:∀{l:List Oper}{k m:Nat},lP ms k l=true->lP ms k (l.take m)=true
 |[],_,_,_=>by simp[lP]
 |o::l,k,0,_=>by simp[lP]
 |o::l,k,m+1,h=>by simp only[lP,apT,List.take_succ_cons]at h ⊢;exact⟨h.1,TV h.2⟩
theorem BI{listed:Array Bool}{m f i:Nat}{d:Bool}(e:listed.size=m)(h:i<m):(listed++arX f false).getD i d=listed.getD i d:=by
 simp only[auE];rw[Array.getElem?_append_left Om]
section
variable {ro:O_} {fu:Nat} {ds:List Deferred} {C:Ctx} {Hs:PH} {S:Spec} {T:Tbl} {n:Nat}
theorem abB{ops:Array Oper}{m i:Nat}(e:m<=ops.size):(ops.extract 0 m)[i]?=if i<m then ops[i]? else none:=by
 rw[Array.getElem?_extract];split;rename_i h;rw[aE Om];simp;rename_i h;rw[aC Om]
theorem Lt{ops:Array Oper}{ms:N_}{m:Nat}(M:m<=ops.size)(A:lP ms 0 ops.toList=true)(N:nr ms m ops.size=true){listed:Array Bool}{f:Nat}(E:listed.size=m)(R:m+f=ops.size)(L:tT ops (listed++arX f false))
  (F:∃i,i<m/\listed.getD i true=false) {i:Nat} (hi:i∈Region.ready .any ops (listed++arX f false)):i<m/\i∈Region.ready .any (ops.extract 0 m) listed:=by
 obtain⟨J,o,D,w⟩:=mem_ready.1 hi;have y:i<ops.size:=(atC.1 D).1;have l:i<m:=by
  rcases aqW i m with h|h
  exact h;exfalso;obtain⟨u,K,B⟩:=F;have hb:(ms.getD i 0).testBit u=true:=by have:=aqM.1 N i (aqN.2 y);rw[bG Om,Bool.false_or]at this;exact aqM.1 this u (aqN.2 K)
  have x:=YW A u (i+1) i Om y hb;refine L.ux x ?_ hi;rw[BI E K];have:u<listed.size:=Om;simp[this]at B ⊢;exact B
 refine⟨l,mem_ready.2 ⟨?_,o,by rw[abB M,aE l];exact D,λe he hb=>?_⟩⟩;rw[BI E l]at J;exact J;have O:=(zG A (j:=i) (o:=o) (by simpa using D)).1 e.on (by simp only[yX,aqJ,asQ];exact⟨e,⟨by simpa using he,hb⟩,rfl⟩)
 have:=w e he hb;rw[BI E Om]at this;exact this
theorem Fv{ops:Array Oper}{ms:N_}(x:lP ms 0 ops.toList=true){listed:Array Bool}(J:listed.size=ops.size):∀(u:Nat),u<ops.size->listed.getD u true=false->∃i,i∈Region.ready .any ops listed:=by
 intro u
 induction u using Nat.strongRecOn with
 |ind u E=>
  intro A B;by_cases h:∃w,w<u/\listed.getD w true=false;obtain⟨w,D,y⟩:=h;exact E w D Om y
  ·refine⟨u,mem_ready.2 ⟨B,ops[u],by simp[A],λe he hb=>?_⟩⟩;have F:=(zG x (j:=u) (o:=ops[u]) (by simp[A])).1 e.on (by simp only[yX,aqJ,asQ];exact⟨e,⟨by simpa using he,hb⟩,rfl⟩)
   have hlt:e.on<u:=Om;cases l:listed.getD e.on true with
   |false=>exact(h ⟨e.on,hlt,l⟩).elim
   |true =>have:e.on<listed.size:=Om;simp[this]at l ⊢;exact l
def unl(listed:Array Bool):Nat:=listed.toList.countP λb=>!b
theorem Xl{listed:Array Bool}{m:Nat}(l:listed.size=m)(h:unl listed=0):listed=arX m true:=by
 apply Array.ext;simp[l];intro i u w;have:listed[i]∈listed.toList:=by simp
 have e:=List.countP_eq_zero.1 h _ this;simpa using e
theorem acJ{listed:Array Bool}{i:Nat}(h:listed.getD i true=false):unl (listed.setIfInBounds i true)+1=unl listed:=by
 have hi:i<listed.size:=by
  rcases aqW i listed.size with h'|h'
  ·exact h'
  ·simp[Array.getElem?_eq_none h']at h
 have u:listed[i]=false:=by simpa[hi]using h
 unfold unl;rw[Array.toList_setIfInBounds];have e:i<Z' listed.toList:=by simpa using hi
 have l:listed.toList[i]=false:=by simpa using u
 conv=>rhs;rw[<-asZ i listed.toList,asI e,l]
 rw[List.set_eq_take_append_cons_drop,aE e,atW,atW,atE,atE];simp only[aqC,aqI,if_true,arO,if_false];omega
theorem acI{listed:Array Bool}{k:Nat}(h:unl listed=k+1):∃u,u<listed.size/\listed.getD u true=false:=by
 have i:0<listed.toList.countP λb=>!b:=by unfold unl at h;omega
 obtain⟨b,hb,l⟩:=List.countP_pos_iff.1 i;obtain⟨u,w,rfl⟩:=arF hb;have e:u<listed.size:=by simpa using w
 exact⟨u,e,by simpa[e]using l⟩
theorem Fo(W:C.P=T.P)(V:C.num=T.num){ops:Array Oper}{ms:N_}{m f:Nat}{A:List (bQ × Bool)}(hm:m<=ops.size)(hf:m+f=ops.size)(Z:lP ms 0 ops.toList=true)(ht:nr ms m ops.size=true)
  (θ:∀(i:Nat) o,i<m->ops[i]?=some o->∃p b,A[i]?=some (p,b)/\T.WW n ops o=some p) {KA:K_} {Q:Exit->Act->World->Prop} :
  ∀(fuel:Nat)(listed:Array Bool)(E:Env)(F:PF)(H:PH)(a:Act)(w:World),FY C Hs S (ops.extract 0 m) A KA fuel listed F H->listed.size=m->tT ops (listed++arX f false)->unl listed=fuel->Hs.le H->eP ds n E F a->bS E H w->E.num=T.num ->
   pU ds n E H w KA (wpAnyIn (Fz ro) fu T.P .any ops Q f (arX m true++arX f false))->wpAnyIn (Fz ro) fu T.P .any ops Q (fuel+f) (listed++arX f false) a w:=by
 intro fuel
 induction fuel with
 |zero =>intro listed E F H a w h hs hc hu K L hW hN hT;rw[Xl hs hu,aqA];exact hT E F H a w L hW (.refl E H w) h.2
 |succ fuel ih=>
  intro listed E F H a w h hs hc hu K L hW hN hT;obtain⟨u,μ,hu2⟩:=acI hu;have κ:∃i,i<m/\listed.getD i true=false:=⟨u,by omega,hu2⟩;rw[show fuel+1+f=(fuel+f)+1 by omega];refine⟨λe=>?_,λi hi=>?_⟩;obtain⟨i,hi⟩:=Fv Z (listed:=listed++arX f false) (by simp;omega) u Om (by rw[BI hs Om];exact hu2);rw[e]at hi;cases hi;obtain⟨ζ,Y⟩:=Lt hm Z ht hs hf hc κ hi;obtain⟨-,o,ho,-⟩:=mem_ready.1 hi;have ι:=(mem_ready.1 Y).1;obtain⟨p,b,hz,η⟩:=θ i o ζ ho;have α:=h.2 i Y _ hz;obtain⟨β,hd,D,hg⟩:=NY η;have γ:(listed++arX f false).setIfInBounds i true=listed.setIfInBounds i true++arX f false:=by
   apply Array.ext;simp;intro j h1 h2;rw[Array.getElem_setIfInBounds (by simpa using h1)];by_cases O:i=j;subst O;rw[aE rfl,Array.getElem_append_left (by simp;omega),Array.getElem_setIfInBounds Om,aE rfl];rw[aC O];rcases aqW j listed.size with hj|hj
   rw[Array.getElem_append_left hj,Array.getElem_append_left (by simpa using hj),Array.getElem_setIfInBounds Om,aC O];rw[Array.getElem_append_right hj,Array.getElem_append_right (by simpa using hj)];simp
  have X:=hc.set hi;rw[γ]at X ⊢;have ν:=acJ ι;have B:pU ds n E H w (λR H'=>Hs.le H'/\FY C Hs S (ops.extract 0 m) A KA fuel (listed.setIfInBounds i true) R H') (wpAnyIn (Fz ro) fu T.P .any ops Q (fuel+f) (listed.setIfInBounds i true++arX f false)):=
   λE' R H' a' w' δ ε hE U=>ih _ E' R H' a' w' U.2 (by simpa using hs) X Om U.1 δ ε (hE.env.num.trans hN) (hT.after hE)
  have l:=CM (K':=λR H'=>Hs.le H'/\FY C Hs S (ops.extract 0 m) A KA fuel (listed.setIfInBounds i true) R H') (λR H' x y=>⟨x,y⟩) K α;unfold zN bQ.kind at l;unfold Go.wpOpIn;simp only[ho];rcases hg with⟨J,N⟩|⟨j,want,t,J,N,ht⟩
  rw[aE (by simp[Region.wanted,J])];simp only[N]at l;exact(yG W V β hd D (PR K l) L hW hN B);simp only[N]at l;split at l;rename_i b hb;rw[KV J ht (SJ L hb)];split at l;rename_i M;rw[aE (by simp[M])];exact(yG W V β hd D (PR K l) L hW hN B);rename_i M;rw[aC (by simpa using M)];obtain⟨v,hv,U⟩:=l;cases hv;exact⟨λ_ _=>trivial,B E _ H _ w (by rw[<-hd];exact L.put D AS) hW (.refl E H w) U⟩;rename_i hb;rw[HO J ht (UY L hb),aC aX];obtain⟨v,hv,U⟩:=l;cases hv;exact⟨λ_ _=>trivial,B E _ H _ w (by rw[<-hd];exact L.put D AS) hW (.refl E H w) U⟩;exact l.elim
theorem Ez(J:C.P=T.P)(D:C.num=T.num){id:Nat}{ops:Array Oper}{pc:aI}(l:T.Ao n ops=some pc){K:bT}{Q:Exit->Act->World->Prop}{E:Env}{F:PF}{H:PH}{a:Act}{w:World}
  (h:pc.wp C K F H) (hA:eP ds n E F a) (hW:bS E H w) (hN:E.num=T.num) (hT:pU ds n E H w (K .normal) (Q .normal)):(Code.region id ops true).wpIn (Fz ro) fu T.P Q a w:=by
 unfold Tbl.Ao at l;split at l;rename_i y κ;simp only at l;split at l;rw[aqB]at l;obtain⟨il,θ,rfl⟩:=l;exact Ju J D θ h hA hW hN hT;rename_i m W;split at l;rename_i u;cases l;simp only[apT]at u;obtain⟨⟨⟨⟨ν,M⟩,β⟩,ξ⟩,ο⟩:=u;obtain⟨Z,V⟩:=TM κ;have L:Z' y=ops.size:=by simpa using Z
 rw[L]at β;obtain⟨Hs,S,Y,h⟩:=h;have σ:m<ops.size:=by have:=List.mem_of_find?_eq_some W;rw[aqN]at this;omega
 have lA:(pE (DT ops.toList []) 0 (y.take m)).length=m:=by simp[pE];omega
 have lB:(pE (DT ops.toList []) m (y.drop m)).length=ops.size-m:=by simp[pE];omega
 generalize R:pE (DT ops.toList []) 0 (y.take m)=A at *
 generalize ε:pE (DT ops.toList []) m (y.drop m)=B at *
 generalize φ:DT ops.toList []=ms at *
 refine wpIn_region_any ν ?_;have N:(ops.extract 0 m).size=m:=by simp;omega
 have α:lP ms 0 (ops.extract 0 m).toList=true:=by rw[show(ops.extract 0 m).toList=ops.toList.take m by simp];exact TV M
 have h1:=MO (C:=C) (Hs:=Hs) (S:=S) (K:=gH C ((aI.draw B).wp C) K .normal) (ops:=ops.extract 0 m) (il:=A) (ms:=ms) (by rw[lA,N]) α A 0 (arX m false) F H aX (by rw[N];omega) (by simp;omega) (λj hj=>by rw[N]at hj;simp[hj]) ξ Y h;rw[lA]at h1;have O:=Fo (ro:=ro) (fu:=fu) (n:=n) J D (f:=ops.size-m) Om Om M β (λi o τ ho=>?_) (Q:=Q) m (arX m false) E F H a _ h1 aX ?_ ?_ Y hA hW.drew hN ?_;rw[show m+(ops.size-m)=ops.size by omega]at O;have e:arX m false++arX (ops.size-m) false=arX ops.size false:=by rw[Array.replicate_append_replicate,show m+(ops.size-m)=ops.size by omega]
 rw[e]at O;exact O;obtain⟨p,hp,ι⟩:=V i o (by simpa using ho);have χ:=(aqU.1 hp).1;have η:i<Z' A:=Om;refine⟨p,A[i].2,?_,ι⟩;rw[apZ η];congr 1;refine Prod.ext ?_ rfl;subst R;have ρ:y[i]=p:=(aqU.1 hp).2;simp[pE,ρ];intro j o hj hl;exfalso;have μ:j<ops.size:=(atC.1 hj).1;have e:arX m false++arX (ops.size-m) false=arX ops.size false:=by rw[Array.replicate_append_replicate,show m+(ops.size-m)=ops.size by omega]
 rw[e]at hl;simp[μ]at hl;unfold unl;simp[List.countP_replicate];intro E' F' H' a' w' δ ζ hE hK;obtain⟨γ,S2,x,h2⟩:=hK;have hz:(A++B).length=ops.size:=by rw[apV];omega
 have h3:=MO (C:=C) (Hs:=γ) (S:=S2) (K:=K .normal) (ops:=ops) (il:=A++B) (ms:=ms) hz M B m (arX m true++arX (ops.size-m) false) F' H' (λj=>by rw[arS Om];congr 1;omega) Om (by simp;omega) (λj hj=>by simp only[auE,Array.getElem?_append,Array.size_replicate,Array.getElem?_replicate];by_cases hjm:j<m;simp[hjm];simp[hjm,show j-m<ops.size-m by omega]) ο x h2;rw[lB]at h3;have U:A++B=y.zip ((A++B).map (·.2)):=by
  refine List.ext_getElem? λj=>?_;rcases aqW j ops.size with hj|hj
  have X:j<(A++B).length:=Om;have υ:j<Z' y:=Om;rw[apZ X,apZ (by simp;omega),List.getElem_zip,arI];congr 1;refine Prod.ext ?_ rfl;simp only;rcases aqW j m with hjm|hjm
  rw[List.getElem_append_left Om];subst R;simp[pE];rw[List.getElem_append_right Om];subst ε;have:m+(j-Z' A)=j:=Om;simp[pE,this];rw[arC Om,arC (by simp;omega)]
 rw[U]at h3;exact ta J D (by simp;omega) (λi o ho=>V i o (by simpa using ho)) (ops.size-m) _ E' F' H' a' w' h3 x δ ζ (hE.env.num.trans hN) (λE3 F3 H3 a3 w3 g1 g2 g3 g4=>hT E3 F3 H3 a3 w3 g1 g2 (hE.trans g3).rz g4);cases l;cases l
end
end Go.PM
namespace Go.PM
open Go Go.RowKit
def lY.out:lY->Exit
 | .normal=>.normal
 | .exit id=>.exit id
 | .ret=>.ret
theorem tL{P:Program}{b:Frame}{a:Act}{k:List Item}{cs:List Frame}{w:World}{c:Code}:step P (lone (b.atR a (.code (.scope c)::k)) cs w)=.next (lone (b.atR a (.code c::.inScope c::k)) cs w):=
 step_lone_go (by simp[stepG,stepG.exec,Frame.atR])
theorem xd{P:Program}{b:Frame}{a:Act}{k:List Item}{cs:List Frame}{w:World}{c:Code}:step P (lone (b.atR a (.inScope c::k)) cs w)=.next (lone (b.atR a k) cs w):=
 step_lone_go (by simp[stepG,stepG.exec,Frame.atR])
theorem Nc{F:Fence}{n:Nat}{P:Program}{Q:Exit->Act->World->Prop}{a:Act}{w:World}{c:Code}(h:c.wpIn F n P (Exit.noGoto Q) a w):(Code.scope c).wpIn F n P Q a w:=by
 intro b k cs J hb B;have u:(lone (b.atR a (.code (.scope c)::k)) cs w).fenced P F:=fenced_calm hb B rfl;obtain⟨e,x,y,hq,i⟩:=h b (.inScope c::k) cs J hb B;cases e with
 |normal=>exact⟨.normal,x,y,hq,.head u tL (StepsIn.trans i (.one (fenced_calm hb B rfl) xd))⟩
 |exit id=>
  have K:exitTo id (.inScope c::k)=exitTo id k:=by simp[exitTo]
  exact⟨.exit id,x,y,hq,λN A=>.head u tL (i.1 N (by rw[K];exact A)),
   λD A=>let⟨O,L,M⟩:=i.2 D (by rw[K];exact A);⟨O,L,.head u tL M⟩⟩
 |goto l=>exact hq.elim
 |ret=>exact⟨_,x,y,hq,.of_steps (.one u tL) i⟩
 |panic R=>exact⟨_,x,y,hq,.of_steps (.one u tL) i⟩
 |outgrown=>exact⟨_,x,y,hq,.of_steps (.one u tL) i⟩
variable{C:Ctx}
section
variable {ro:O_} {fu:Nat} {ds:List Deferred} {T:Tbl} {n:Nat} {E:Env} {F:PF} {H:PH} {a:Act} {w:World}
theorem u0(J:C.P=T.P)(D:C.num=T.num){ops:Array Oper}{K:K_}{Q:Exit->Act->World->Prop}:∀(l:List Oper)(il:List bQ)(E:Env)(F:PF)(H:PH)(a:Act)(w:World),
  T.wQ n ops l=some il->wpOps C il K F H->eP ds n E F a->bS E H w->E.num=T.num->pU ds n E H w K (Q .normal)->wpListIn (Fz ro) fu T.P ops Q l a w
 |[],il,E,F,H,a,w,A,e,y,hW,_,hT=>by simp[Tbl.wQ]at A;subst A;exact hT E F H a w y hW (.refl E H w) e
 |o::l,il,E,F,H,a,w,A,e,y,hW,U,hT=>by
  simp only[Tbl.wQ]at A;split at A;rename_i i is hi β;cases A;obtain⟨W,Y,hlt,hg⟩:=NY hi;have aoZ:∀(x:Env)(R:PF)(H':PH)(S:Act)(O:World),x.num=T.num->eP ds n x R S->bS x H' O->Ext E H w x H' O->wpOps C is K R H'->wpListIn (Fz ro) fu T.P ops Q l S O:=
   λx R H' S O α B L X Z=>u0 J D l is x R H' S O β Z B L α (hT.after X)
  have V:pU ds n E H w (wpOps C is K) (wpListIn (Fz ro) fu T.P ops Q l):=λx R H' S O B L X Z=>aoZ x R H' S O (X.env.num.trans U) B L X Z;unfold wpListIn;simp only[wpOps]at e;rcases hg with⟨u,N⟩|⟨j,want,t,u,N,ht⟩
  rw[N]at e;rw[aE (by simp[Region.wanted,u])];exact(yG J D W Y hlt e y hW U V);rw[N]at e;simp only at e;split at e;rename_i b hb;rw[KV u ht (SJ y hb)];split at e;rename_i M;rw[aE (by simp[M])];exact(yG J D W Y hlt e y hW U V);rename_i M;rw[aC (by simpa using M)];exact⟨λ_ _=>trivial,aoZ E _ H _ w U (by rw[<-Y];exact y.put hlt AS) hW (.refl E H w) e⟩;rename_i hb;rw[HO u ht (UY y hb),aC aX];exact⟨λ_ _=>trivial,aoZ E _ H _ w U (by rw[<-Y];exact y.put hlt AS) hW (.refl E H w) e⟩;exact e.elim;cases A
def SD(ds:List Deferred)(n:Nat)(E:Env)(H:PH)(w:World)(K:bT)(Q:Exit->Act->World->Prop):Prop:=
 ∀e i u H' x l,eP ds n i u x->bS i H' l->Ext E H w i H' l->K e u H'->Q e.out x l
theorem SD.after{i:Env}{H':PH}{l:World}{K:bT}{Q:Exit->Act->World->Prop}(h:SD ds n E H w K Q)(A:Ext E H w i H' l):SD ds n i H' l K Q:=
 λe u x H2 a2 J y hW D B=>h e u x H2 a2 J y hW (A.trans D) B
theorem vH(γ:C.P=T.P)(β:C.num=T.num):∀(c:Code)(pc:aI)(K:bT)(Q:Exit->Act->World->Prop)(E:Env)(F:PF)(H:PH)(a:Act)(w:World),
  T.code n c=some pc->pc.wp C K F H->eP ds n E F a->bS E H w->E.num=T.num->SD ds n E H w K Q->c.wpIn (Fz ro) fu T.P Q a w:=by
 intro c
 induction c with
 |skip =>intro pc K Q E F H a w i u A hW L l;simp[Tbl.code]at i;subst i;exact wpIn_skip (l .normal E F H a w A hW (.refl E H w) u)
 |region id ops d=>
  intro pc K Q E F H a w i u A hW L l;simp only[Tbl.code]at i;split at i;rename_i hd;subst hd;exact Ez γ β i u A hW L λB S H' N M O R J D=>l .normal B S H' N M O R J D;rename_i hd;simp only[aqB]at i;obtain⟨il,χ,rfl⟩:=i;have:d=false:=by simpa using hd
  subst this;exact wpIn_region_list (u0 γ β ops.toList il E F H a w χ u A hW L λB S H' N M O R J D=>l .normal B S H' N M O R J D)
 |seq x y X Y=>
  intro pc K Q E F H a w i u A hW L l;simp only[Tbl.code]at i;split at i
  ·rename_i Z py W hy;cases i;refine wpIn_seq (X Z (gH C (py.wp C) K) _ E F H a w W u A hW L λe B S H' N M O R J D=>?_);cases e with
   |normal=>exact Y py K Q B S H' N M hy D O R (J.env.num.trans L) (l.after J)
   |exit id=>exact l (.exit id) B S H' N M O R J D
   |ret=>exact l .ret B S H' N M O R J D
  cases i
 |cond c x y X Y=>
  intro pc K Q E F H a w i u A hW L l;simp only[Tbl.code]at i;split at i;rename_i Δ Z py ζ W hy;cases i;simp only[aI.wp]at u;split at u
  ·rename_i t υ;have r:=bH ζ υ A L;have hb:a.eval c=.bool t:=by generalize a.eval c=v at r;cases r;rfl
   refine wpIn_cond hb ?_;cases t with
   |true=>exact X Z K Q E F H a w W (by simpa using u) A hW L l
   |false=>exact Y py K Q E F H a w hy (by simpa using u) A hW L l
  exact u.elim;cases i
 |block id c ih=>
  intro pc K Q E F H a w i u A hW L l;simp only[Tbl.code,aqB]at i;obtain⟨Z,W,rfl⟩:=i;refine wpIn_block (ih Z (fE id K) _ E F H a w W u A hW L λe B S H' N M O R J D=>?_);cases e with
  |normal=>exact l .normal B S H' N M O R J D
  |exit Γ =>simp only[fE]at D;simp only[lY.out,Exit.inBlock];split at D;rename_i e;rw[aE e];exact l .normal B S H' N M O R J D;rename_i e;rw[aC e];exact l (.exit Γ) B S H' N M O R J D
  |ret=>exact l .ret B S H' N M O R J D
 |loop c ih=>
  intro pc K Q E F H a w i u A hW L l;simp only[Tbl.code,aqB]at i;obtain⟨Z,W,rfl⟩:=i;obtain⟨α,Fs,Hs,Pr,m,a0,F1,H1,φ,ω,ο,ε,V⟩:=u;obtain⟨E1,ι,σ,μ⟩:=A.frz hW φ;refine wpIn_loop_ghost (λk N M=>∃(B:Env)(s:α),Pr s/\m s=k/\eP ds n B (Fs s) N/\bS B (Hs s) M/\Ext E H w B (Hs s) M) (m a0) ⟨E1,a0,ω,rfl,ι.weaken ο,σ.weaken ε,μ.drop ε⟩ ?_;rintro k N M ⟨B,s,hp,rfl,θ,ρ,U⟩;refine ih Z (fK Fs Hs Pr m (m s) K) _ B (Fs s) (Hs s) N M W (V s hp) θ ρ (U.env.num.trans L) λe E2 F2 H2 a2 w2 O R J D=>?_;cases e with
  |normal =>obtain⟨s',F3,H3,η,ψ,hlt,ξ,δ⟩:=D;obtain⟨E3,κ,τ,ν⟩:=O.frz R η;exact⟨m s',hlt,E3,s',ψ,rfl,κ.weaken ξ,τ.weaken δ,((U.trans J).trans ν).drop δ⟩
  |exit id=>exact l (.exit id) E2 F2 H2 a2 w2 O R (U.trans J) D
  |ret=>exact l .ret E2 F2 H2 a2 w2 O R (U.trans J) D
 |exit id =>intro pc K Q E F H a w i u A hW L l;simp[Tbl.code]at i;subst i;exact wpIn_exit (l (.exit id) E F H a w A hW (.refl E H w) u)
 |ret =>intro pc K Q E F H a w i u A hW L l;simp[Tbl.code]at i;subst i;exact wpIn_ret (l .ret E F H a w A hW (.refl E H w) u)
 |rangeFunc=>intro pc K Q E F H a w i;simp[Tbl.code]at i
 |scope c ih =>intro pc K Q E F H a w i u A hW L l;simp only[Tbl.code]at i;refine Nc (ih pc K _ E F H a w i u A hW L λe B S H' N M O R J D=>?_);have:=l e B S H' N M O R J D;cases e<;>exact this
 |label =>intro pc K Q E F H a w i u A hW L l;simp[Tbl.code]at i;subst i;exact wpIn_label (l .normal E F H a w A hW (.refl E H w) u)
 |goto=>intro pc K Q E F H a w i;simp[Tbl.code]at i
 |refuse=>intro pc K Q E F H a w i;simp[Tbl.code]at i
end
open Go Go.RowKit
namespace Tbl
variable (T:Tbl)
def res:ResultVar->Option dY
 | .tmp t=>some (.tmp t)
 | .cell t ty=>match T.isAgg ty,T.size ty with
  |some true,some k=>some (.cell t (some k))
  |some false,_=>some (.cell t none)
  |_,_=>none
def sb:List ResultVar->Option (List dY)
 |[]=>some []
 |r::rs=>match T.res r,sb rs with
  |some p,some ps=>some (p::ps)
  |_,_=>none
def func(fn:Func):Option kT:=
 match fn.body with
 |some c=>match T.code fn.ntmps c,T.sb fn.results.toList with
  |some b,some rs=>some ⟨fn.params.size,fn.ntmps,b,rs⟩
  |_,_=>none
 |none=>none
end Tbl
section
variable {ds:List Deferred} {T:Tbl} {n:Nat} {E:Env} {F:PF} {H:PH} {a:Act} {w:World}
def UO(e:Array Value):ResultVar->Sem Value
 | .tmp t=>pure (e.getD t undef)
 | .cell a t=>do loadVar t (<-asAddr (e.getD a undef))
theorem Qx{r:ResultVar}{p:dY}{pv:PV}(l:T.res r=some p)(e:p.ev F H=some pv)(y:eP ds n E F a)(hW:bS E H w):∃v,(UO a.tmps r).run T.P w=.ok v w/\bB E pv v:=by
 cases r with
 |tmp t =>simp[Tbl.res]at l;subst l;exact⟨_,rfl,y.t t pv e⟩
 |cell t ty =>simp only[Tbl.res]at l;split at l;rename_i k B D;cases l;simp only[dY.ev]at e;split at e;rename_i q hq;rw[aqB]at e;obtain⟨cs,i,rfl⟩:=e;obtain⟨b,off,hb,-⟩:=tP hW (y.t t q hq) i;obtain⟨u,x,A⟩:=YT (T:=T) B D hW (y.t t q hq) i;refine⟨u,?_,A⟩;rw[hb]at x;simpa[UO,hb,asAddr,Instr.loadAt,Instr.sureAddr]using x;cases e;rename_i B;cases l;simp only[dY.ev]at e;split at e;rename_i q hq;split at e;rename_i v' i;cases e;obtain⟨b,off,hb,-⟩:=tP hW (y.t t q hq) i;obtain⟨u,x,A⟩:=k6 (T:=T) B hW (y.t t q hq) i;refine⟨u,?_,A⟩;rw[hb]at x;simpa[UO,hb,asAddr,Instr.loadAt,Instr.sureAddr]using x;cases e;cases e;cases l
theorem PK(B:eP ds n E F a)(hW:bS E H w):∀(rs:List ResultVar)(ps:List dY)(e:V_),T.sb rs=some ps->dY.evs F H ps=some e ->
  ∃vs,(rs.mapM (UO a.tmps)).run T.P w=.ok vs w/\fO E e vs
 |[],ps,e,i,l=>by simp[Tbl.sb]at i;subst i;simp[dY.evs]at l;subst l;exact⟨[],by simp,.nil⟩
 |r::rs,ps,e,i,l=>by simp only[Tbl.sb]at i;split at i;rename_i p A hp x;cases i;simp only[dY.evs]at l;split at l;rename_i v vs D y;cases l;obtain⟨u,g1,g2⟩:=Qx hp D B hW;obtain⟨L,J,K⟩:=PK B hW rs A vs x y;exact⟨u::L,by simp[List.mapM_cons,g1,J],.cons g2 K⟩;cases l;cases i
theorem l7{i:V_}{vs:List Value}(h:fO E i vs):bB E (bO i) (if h:vs.toArray.size=1 then vs.toArray[0]else .tuple vs.toArray):=by
 cases h with
 |nil=>exact .tup #[] rfl aX
 |cons h t=>
  cases t with
  |nil=>exact h
  |cons l y =>rename_i p v q u ps A;have e:fO E (p::q::ps) (v::u::A):=.cons h (.cons l y);rw[dif_neg aX];exact .tup _ (by simpa using e.len) (λj pv w hp x=>e.at_ j pv w hp (by simpa using x))
theorem mi(fn:Func)(e:Array Value):results fn e=(do
  let vs <-fn.results.mapM (UO e)
  pure (if h:vs.size=1 then vs[0]else .tuple vs)):=by
 unfold results;congr 1
theorem tk(D:C.P=T.P)(B:C.num=T.num){name:Nat}{args:V_}{R:R_}{fn:Func}{pf:kT}(hf:C.P.funcs[C.num name]?=some fn)(Y:(fn.name=="runtime.NumGoroutine")=false)
  (l:T.func fn=some pf) (L:Z' args<=pf.ntmps) (h:pf.body.wp C (aW pf.res R) (PF.args args) H):aJ C name args H R:=by
 unfold Tbl.func at l;split at l;rename_i c hb;split at l
 ·rename_i b rs u y;cases l;refine⟨⟨fn,hf,by simp[hb],Y⟩,λE w vs hN hW O=>?_⟩;have β:vs.size=Z' args:=by simpa using O.len
  refine calls_of_wp hf hb ?_;rw[D];refine(wpIn_wide (n:=0)).1 ?_;have hA:eP [] fn.ntmps E (PF.args args) { tmps:=vs++arX (fn.ntmps-vs.size) undef,defers:=[] }:=by
   refine⟨by simp only at L;simp;omega,rfl,λi pv hi=>?_⟩;have x:i<vs.size:=by
    rw[β];rcases aqW i args.length with h'|h'
    exact h';simp[PF.args,arC h']at hi
   simp only[auE];rw[Array.getElem?_append_left x,atP x];exact O.at_ i pv _ hi (by simp[x])
  refine vH (ro:=none) (fu:=0) D B c b (aW rs R) _ E (PF.args args) H _ w u h hA hW (hN.trans B) λe U F' H' a' V A J hE W=>?_;have S:aW rs R .ret F' H'->bodyPost T.P fn (λe V=>∃v pv U H',e=.returned v/\bS U H' V/\bB U pv v/\Ext E H w U H' V/\R pv H') .ret a' V:=by
   rintro⟨γ,M,F1,H1,H2,X,K,v0,α,hR⟩;obtain⟨us,g1,g2⟩:=PK A J fn.results.toList rs γ y M;have Z:=l7 g2;obtain⟨E2,k1,k2,k3⟩:=X.sound J;have N:=k3 (λ_=>if h:us.toArray.size=1 then us.toArray[0]else .tuple us.toArray) (λi pv hi=>by simp only[PF.set,upd]at hi;split at hi;cases hi;exact Z;cases hi) 0 v0 α
   refine⟨A.defers,_,?_,_,v0,E2,H2,rfl,k1.weaken K,N,(hE.trans k2).drop K,hR⟩;rw[mi,Array.mapM_eq_mapM_toList];simp[g1]
  cases e with
  |normal=>exact S W
  |exit id=>exact W.elim
  |ret=>exact S W
 cases l;cases l
end
end Go.PM
theorem Go.s_{p:Prop}(h:p:=by simp only[go_sem]):p:=h
theorem Go.dT_{p:Prop}[Decidable p]:(decide p=true)=p:=decide_eq_true_eq
