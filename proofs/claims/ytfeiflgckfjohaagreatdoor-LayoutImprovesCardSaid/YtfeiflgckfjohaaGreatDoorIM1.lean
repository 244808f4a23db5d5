/-Lemmas for the law. No condition.-/
import Derived.WalkKit
import Derived.CallsIn
import Derived.Laws.Cover3
import Derived.Deep.MidRow
import Derived.Great.BuildSlice
import Derived.Lib.Strings
import Derived.Laws.BytesArg
import GoSem.Instr.MapUpdate
import Derived.Laws.MakeOwn
import Derived.Laws.CopyRow
import Derived.MapKept
import Derived.Orders
import Derived.OrdersIn
import Derived.Sort.LoopGhostIn
import Derived.TacticsIn
import Derived.Scope
set_option linter.unusedSimpArgs false
set_option linter.unusedVariables false
open Nat renaming reduceEqDiff->γ,reduceAdd->δ,reduceSub->ε,reduceMul->ζ,reduceLT->η,reduceLeDiff->θ,reduceBEq->τ
open Int renaming reduceLT->ι,reduceLE->κ,reduceEq->μ,reduceToNat->ν,reduceAdd->ξ,reduceNeg->ο,reduceBEq->ρ,reduceBNe->σ
open List renaming reduceReplicate->υ
open List renaming length_map->asO,range->asP,getElem_mem->asS,replicate->asT,getD_eq_getElem?_getD->asW,length_append->asX,getElem?_eq_getElem->asZ,getElem?_map->atC,length_take->atF,mem_cons->atG,all_eq_true->atI,map_append->atK,mem_map->atM,mem_range->atQ,map_cons->atU,append_assoc->atV,getElem?_eq_some_iff->atX,length_cons->atZ,append_nil->auA,mem_singleton->auB,mem_append->auC,length_set->auD,getElem?_eq_none->auE,getElem_of_mem->auG,map_nil->auH,getElem_map->auN,getElem?_append_right->auS,getElem?_range->auT,length_drop->auU,mem_of_getElem?->auZ,length_nil->avD,drop_eq_getElem_cons->avF,getElem?_append_left->avM,map_set->avP,set_append_right->avQ,set_cons_zero->avR,nodup_append->avU,getElem?_set->avY,cons_append->awD,getElem?_take->awI,take_append_drop->awK,getElem?_drop->awM,nil_append->awO,mem_filter->awT,mem_of_mem_take->awU,flatten_cons->awZ,mem_or_eq_of_mem_set->axB,eq_nil_of_length_eq_zero->axE,map_eq_nil_iff->axG
open Nat renaming le_refl->asU,zero_add->atA,le_trans->atT,lt_or_ge->atY,add_zero->auI,sub_self->auK,add_mul->auM,mul_le_mul_right->auO,eq_zero_or_pos->avB,mul_comm->avC,succ_mul->avS,add_assoc->avZ,mul_le_mul_left->awP,div_lt_iff_lt_mul->axC
open Bool renaming and_eq_true->asV,not_true->asY,not_false->atH,true_and->atJ,false_eq_true->auQ,or_eq_true->awY
open Option renaming map_eq_some_iff->atB,map_some->atO,getD_some->auV,some->auY,bind_some->awQ,bind_eq_some_iff->awX
open Int renaming toNat_natCast->auL
open Array renaming replicate->auW,getElem?_eq_some_iff->awB,length_toList->awC,getElem?_eq_getElem->awR,getD_eq_getD_getElem?->axD
open List renaming length->Z'
set_option maxRecDepth 100000
set_option maxHeartbeats 800000
noncomputable section
attribute [go_sem] Nat.reduceEqDiff Nat.reduceAdd Nat.reduceSub Nat.reduceMul Nat.reduceLT Nat.reduceLeDiff Int.reduceLT Int.reduceLE Int.reduceEq Int.reduceToNat Int.reduceAdd Int.reduceNeg Int.reduceBEq Int.reduceBNe Nat.reduceBEq List.reduceReplicate reduceIte reduceCtorEq
theorem Om{p:Prop}(h:p:=by omega):p:=h
theorem sO_{p:Prop}(h:p:=by simp only;omega):p:=h
theorem aR{p:Prop}(h:p:=by decide):p:=h
theorem aZ{p:Prop}(h:p:=by simp):p:=h
abbrev aC:=@if_neg
abbrev aF:=@if_pos
abbrev aW:=@decide_eq_true
abbrev bD:=@decide_eq_false
namespace Go.PM
open Go
inductive PV where
 |int (k:IntKind) (n:Int)
 |bool (b:Bool)
 |str (s:List UInt8)
 |aG
 |sl (size:Nat) (rows:List (List PV))
 |osl (o size off len:Nat)
 |ptr (o size i c:Nat)
 |aU (cells:List PV)
 |map (o:Nat)
 |fn (name:Nat) (captured:List PV)
 |agg (cells:List PV)
 |tup (vs:List PV)
 |lit (v:Value)
 |junk
 deriving Inhabited
abbrev PV.j(n:Int):PV:=.int .i64 n
attribute[go_sem] PV.j
abbrev _root_.P2_:=List (List PV)
abbrev _root_.L2_:=List (List Int)
abbrev _root_.N_:=List Nat
abbrev _root_.I_:=List Int
abbrev _root_.V_:=List PV
abbrev _root_.O_:=Option Nat
inductive KSh where
 |int (k:IntKind)
 |bool
 |str
 deriving DecidableEq,Inhabited
inductive KS where
 |int (k:IntKind) (n:Int)
 |bool (b:Bool)
 |str (s:List UInt8)
 deriving DecidableEq,Inhabited
def KS.sh:KS->KSh
 | .int k _=>.int k
 | .bool _=>.bool
 | .str _=>.str
def KS.val:KS->Value
 | .int k n=>.int k n
 | .bool b=>.bool b
 | .str s=>.string ⟨s.toArray⟩
abbrev MSh:=Bool × List KSh
def jO(sh:MSh)(k:List KS):Value:=if sh.1 then .agg (k.map KS.val).toArray else(k.map KS.val).headD undef
abbrev jY:=List KS->Option PV
def jY.upd(g:jY)(k:List KS)(v:PV):jY:=λj=>if j=k then some v else g j
def sV(k:List KS):List (List KS × PV)->Nat->Option (Nat × PV)
 |[],_=>none
 |e::l,i=>if e.1=k then some (i,e.2)else sV k l (i+1)
def mapOf(L:List (List KS × PV)):jY:=λk=>(sV k L 0).map (·.2)
open Classical in
noncomputable def jY.Lm(g:jY):Nat:=if h:∃e:List (List KS),e.Nodup/\∀k,k∈e↔(g k).isSome=true then h.choose.length else 0
theorem jY.abC{g:jY}{e:List (List KS)}(i:e.Nodup)(l:∀k,k∈e↔(g k).isSome=true):g.Lm=Z' e:=by
 have h:∃e:List (List KS),e.Nodup/\∀k,k∈e↔(g k).isSome=true:=⟨e,i,l⟩;unfold jY.Lm;rw[dif_pos h];exact((List.perm_ext_iff_of_nodup h.choose_spec.1 i).2 λk=>(h.choose_spec.2 k).trans (l k).symm).length_eq
theorem OH(k:List KS):∀(L:List (List KS × PV)) (i:Nat),(sV k L i).isSome=true↔k∈L.map (·.1)
 |[],i=>by simp[sV]
 |e::l,i=>by unfold sV;by_cases h:e.1=k;simp[h];rw[aC h,OH k l,atU,atG];exact⟨.inr,λu=>u.resolve_left λe2=>h e2.symm⟩
theorem M7{L:List (List KS × PV)}(h:(L.map (·.1)).Nodup):(mapOf L).Lm=Z' L:=by
 rw[jY.abC h λk=>?_,asO];rw[<-OH k L 0];unfold mapOf;simp
inductive aS where
 |rows (size:Nat) (rs:P2_)
 |map (sh:MSh) (g:jY)
 |loop (F:Nat->Option PV) (n t:Nat) (asg bdy:Code)
 |dead
def upd{α:Type}(f:Nat->Option α)(i:Nat)(v:Option α):Nat->Option α:=λj=>if j=i then v else f j
theorem Gh{α:Type}(f:Nat->Option α)(i:Nat)(v:Option α):upd f i v i=v:=by simp[upd]
theorem XF{α:Type}(f:Nat->Option α){i j:Nat}(v:Option α)(h:j≠i):upd f i v j=f j:=by simp[upd,h]
theorem Zf{α:Type}(f:Nat->Option α){i j:Nat}(v u:Option α)(h:i≠j):upd (upd f i v) j u=upd (upd f j u) i v:=by
 funext k;simp only[upd];by_cases e:k=j;by_cases l:k=i;omega;simp[e];intro w;omega;simp[e]
abbrev PF:=Nat->Option PV
def PF.nil:PF:=λ_=>none
def PF.set(F:PF)(i:Nat)(v:PV):PF:=upd F i (some v)
def PF.le(F G:PF):Prop:=∀i v,F i=some v->G i=some v
structure PH where
 f:Nat->Option aS
 fin:∃n,∀o,n<=o->f o=none
instance:CoeFun PH (λ_=>Nat->Option aS):=⟨PH.f⟩
abbrev _root_.T3_:=Nat × PV × PH
abbrev _root_.K_:=PF→PH→Prop
abbrev _root_.R_:=PV→PH→Prop
theorem PH.ext{H K:PH}(h:∀o,H.f o=K.f o):H=K:=by
 cases H;cases K;have:‹Nat->Option aS›=‹Nat->Option aS›:=rfl;congr;exact funext h
def PH.nil:PH:=⟨λ_=>none,0,λ_ _=>rfl⟩
def PH.upd(H:PH)(o:Nat)(x:Option aS):PH:=
 ⟨PM.upd H.f o x,by
  obtain⟨n,e⟩:=H.fin;refine⟨max n (o+1),λq hq=>?_⟩;rw[XF _ _ Om];exact e q Om⟩
def PH.set(H:PH)(o:Nat)(x:aS):PH:=H.upd o (some x)
def PH.le(H K:PH):Prop:=∀o x,H o=some x->K o=some x
def PH.over(H e i:PH):PH:=
 ⟨λo=>match i o with
  |some x=>some x
  |none=>match e o with
   |some _=>some .dead
   |none=>H o,by
  obtain⟨n,w⟩:=H.fin;obtain⟨y,l⟩:=e.fin;obtain⟨A,u⟩:=i.fin;refine⟨max n (max y A),λo B=>?_⟩;simp only[u o Om,l o Om,w o Om]⟩
theorem PH.fresh(H:PH):∃o,H o=none:=by
 obtain⟨n,e⟩:=H.fin;exact⟨n,e n (asU _)⟩
def at2(rows:P2_)(i j:Nat):Option PV:=rows[i]?.bind (·[j]?)
structure Env where
 G:Nat->Option (Array Value)
 sz:Nat->O_
 num:Nat->FuncId
def Env.cell(E:Env)(b off:Nat):Option Value:=(E.G b).bind (·[off]?)
structure Env.le(E E':Env):Prop where
 g:∀b cs,E.G b=some cs->E'.G b=some cs
 s:∀b n,E.sz b=some n->E'.sz b=some n
 num:E'.num=E.num
theorem Env.le.refl(E:Env):E.le E:=⟨λ_ _ h=>h,λ_ _ h=>h,rfl⟩
theorem Env.le.trans{A B C:Env}(h:A.le B)(k:B.le C):A.le C:=
 ⟨λb cs e=>k.g _ _ (h.g _ _ e),λb n e=>k.s _ _ (h.s _ _ e),k.num.trans h.num⟩
theorem Env.le.cell{E l:Env}(h:E.le l){b off:Nat}{u:Value}(e:E.cell b off=some u):l.cell b off=some u:=by
 unfold Env.cell at *
 cases i:E.G b with
 |none=>simp[i]at e
 |some cs=>rw[i]at e;rw[h.g _ _ i];exact e
inductive bG (E:Env):PV->Value->Prop
 |int (k:IntKind) (n:Int):bG E (.int k n) (.int k n)
 |bool (b:Bool):bG E (.bool b) (.bool b)
 |str (s:ByteArray):bG E (.str s.data.toList) (.string s)
 |aG:bG E .aG (.slice none 0 0)
 |sl {size:Nat} {rows:P2_} {a:Option Addr} {cap:Nat} (u:Nat->Nat->Value) (hcap:Z' rows<=cap) (asI:cap<=maxLen)
   (hs:∀r∈rows,Z' r=size)
   (ha:rows≠[]->∃ad,a=some ad/\ad.spot=none/\∀i j pv,at2 rows i j=some pv->E.cell ad.block (ad.off+i*size+j)=some (u i j))
   (h1:∀i j,(u i j).oneCell'=true) (hr:∀i j pv,at2 rows i j=some pv->bG E pv (u i j)):bG E (.sl size rows) (.slice a rows.length cap)
 |osl {o size off len cap n:Nat} {a:Addr} (hb:a.block=o) (hsp:a.spot=none) (asL:cap=0\/a.off=off*size) (hlen:len<=cap) (asI:cap<=maxLen)
   (hn:E.sz o=some n) (asB:off*size+cap*size<=n):bG E (.osl o size off len) (.slice (some a) len cap)
 |ptr (o size i c:Nat):bG E (.ptr o size i c) (.pointer (some ⟨o,i*size+c,none⟩))
 |aU {cells:V_} {ad:Addr} (u:Nat->Value) (hsp:ad.spot=none) (hc:∀(j:Nat) pv,cells[j]?=some pv->E.cell ad.block (ad.off+j)=some (u j))
   (h1:∀(j:Nat),(u j).oneCell'=true) (hr:∀(j:Nat) pv,cells[j]?=some pv->bG E pv (u j)):bG E (.aU cells) (.pointer (some ad))
 |map (o:Nat):bG E (.map o) (.map (some o))
 |fn {name:Nat} {captured:V_} (vc:Array Value) (hl:vc.size=Z' captured)
   (hr:∀(j:Nat) pv v,captured[j]?=some pv->vc[j]?=some v->bG E pv v):bG E (.fn name captured) (.func (.func (E.num name)) #[] vc)
 |agg {cells:V_} (vs:Array Value) (hl:vs.size=Z' cells) (h1:∀v∈vs.toList,v.oneCell'=true)
   (hr:∀(j:Nat) pv v,cells[j]?=some pv->vs[j]?=some v->bG E pv v):bG E (.agg cells) (.agg vs)
 |tup {ps:V_} (vs:Array Value) (hl:vs.size=Z' ps)
   (hr:∀(j:Nat) pv v,ps[j]?=some pv->vs[j]?=some v->bG E pv v):bG E (.tup ps) (.tuple vs)
 |lit (v:Value):bG E (.lit v) v
 |junk (v:Value):bG E .junk v
theorem bG.mono{E M:Env}(h:E.le M){pv:PV}{v:Value}(r:bG E pv v):bG M pv v:=by
 induction r with
 |int=>exact .int _ _
 |bool=>exact .bool _
 |str=>exact .str _
 |aG=>exact .aG
 |sl u B l S O A _ w =>refine .sl u B l S (λL=>?_) A w;obtain⟨N,e,U,K⟩:=O L;exact⟨N,e,U,λi j pv hp=>h.cell (K i j pv hp)⟩
 |osl hb y J F l R x=>exact .osl hb y J F l (h.s _ _ R) x
 |ptr=>exact .ptr _ _ _ _
 |aU u y K A _ w=>exact .aU u y (λj pv hp=>h.cell (K j pv hp)) A w
 |map=>exact .map _
 |fn vc D _ w=>rw[<-h.num];exact .fn vc D w
 |agg vs D A _ w=>exact .agg vs D A w
 |tup vs D _ w=>exact .tup vs D w
 |lit=>exact .lit _
 |junk=>exact .junk _
def TI(E:Env)(w:World)(o:Nat):aS->Prop
 | .rows size rs=>∃l ty,w.heap[o]?=some (.cells l ty (0,0))/\E.sz o=some l.size/\(∀r∈rs,Z' r=size)/\Z' rs*size<=l.size /\
   ∀i j pv,at2 rs i j=some pv->∃u,l[i*size+j]?=some u/\u.oneCell'=true/\bG E pv u
 | .map sh g=>∃y x L,w.heap[o]?=some (.map y x)/\(y.size=Z' L/\(L.map (·.1)).Nodup)/\g=mapOf L /\
   ∀(i:Nat) e D,L[i]?=some e->y[i]?=some D->e.1.map KS.sh=sh.2/\D.key=jO sh e.1/\bG E e.2 D.val
 | .loop F n t A B=>∃rec:Loop,w.heap[o]?=some (.loop rec)/\rec.state=.ready/\rec.pending=none/\rec.params=#[t]/\rec.assign=A/\rec.body=B/\rec.tmps.size=n/\∀i pv,F i=some pv->bG E pv (rec.tmps.getD i undef)
 | .dead=>True
theorem TI.mono{E O:Env}(h:E.le O){w R:World}{o:Nat}(N:R.heap[o]?=w.heap[o]?){x:aS}(r:TI E w o x):TI O R o x:=by
 cases x with
 |rows size rs =>obtain⟨J,ty,A,B,D,y,h5⟩:=r;refine⟨J,ty,N.trans A,h.s _ _ B,D,y,λi j pv hp=>?_⟩;obtain⟨u,a,b,c⟩:=h5 i j pv hp;exact⟨u,a,b,c.mono h⟩
 |map sh g =>obtain⟨M,l,L,A,B,D,y⟩:=r;exact⟨M,l,L,N.trans A,B,D,λi e K a b=>⟨(y i e K a b).1,(y i e K a b).2.1,(y i e K a b).2.2.mono h⟩⟩
 |loop F n t S U =>obtain⟨rec,A,B,D,y,h5,V,h7,h8⟩:=r;exact⟨rec,N.trans A,B,D,y,h5,V,h7,λi pv hi=>(h8 i pv hi).mono h⟩
 |dead=>trivial
structure bZ(E:Env)(H:PH)(w:World):Prop where
 g:∀b cs,E.G b=some cs->(∀x,H b=some x->x=.dead)/\∃ty fr,w.heap[b]?=some (.cells cs ty fr)
 h:∀o x,H o=some x->o<w.heap.size/\TI E w o x
 s:∀o n,E.sz o=some n->∃cur ty fr,w.heap[o]?=some (.cells cur ty fr)/\cur.size=n
theorem bZ.weaken{E:Env}{H i:PH}{w:World}(h:bZ E H w)(e:i.le H):bZ E i w:=by
 exact⟨λb cs hb=>⟨λx u=>(h.g b cs hb).1 x (e b x u),(h.g b cs hb).2⟩,λo x l=>h.h o x (e o x l),h.s⟩
structure Ext(E:Env)(H:PH)(w:World)(E':Env)(H':PH)(w':World):Prop where
 env:E.le E'
 os:w'.os=w.os
 tape:w'.tape=w.tape
 output:w'.output=w.output
 size:w.heap.size<=w'.heap.size
 block:∀b,b<w.heap.size->H b=none->w'.heap[b]?=w.heap[b]?
 new:∀o x,H' o=some x->(∃y,H o=some y)\/w.heap.size<=o
 newG:∀b cs,E'.G b=some cs->E.G b=some cs\/(∃y,H b=some y)\/w.heap.size<=b
theorem Ext.refl(E:Env)(H:PH)(w:World):Ext E H w E H w:=
 ⟨.refl E,rfl,rfl,rfl,asU _,λ_ _ _=>rfl,λ_ x h=>.inl ⟨x,h⟩,λ_ _ h=>.inl h⟩
theorem Ext.trans{l u w:Env}{A H2 B:PH}{E F J:World}(h:Ext l A E u H2 F)(k:Ext u H2 F w B J):Ext l A E w B J:=by
 refine⟨h.env.trans k.env,k.os.trans h.os,k.tape.trans h.tape,k.output.trans h.output,atT h.size k.size,λb hb D=>?_,λo x M=>?_,λb cs hb=>?_⟩;have L:H2 b=none:=by
  cases e:H2 b with
  |none=>rfl
  |some x=>
   rcases h.new b x e with⟨y,i⟩|hl
   rw[D]at i;cases i;omega
 rw[k.block b (by have:=h.size;omega) L,h.block b hb D];rcases k.new o x M with⟨y,i⟩|hl
 exact h.new o y i;exact .inr (atT h.size hl);rcases k.newG b cs hb with K|⟨y,i⟩|hl
 exact h.newG b cs K;exact .inr (h.new b y i);exact .inr (.inr (atT h.size hl))
theorem Ext.drop{E i:Env}{H H' l:PH}{w u:World}(h:Ext E H w i H' u)(e:l.le H'):Ext E H w i l u:=
 ⟨h.env,h.os,h.tape,h.output,h.size,h.block,λo x y=>h.new o x (e o x y),h.newG⟩
theorem Ext.narrow{E B:Env}{H H' A:PH}{w D:World}(h:Ext E A w B H' D)(i:A.le H):Ext E H w B (H.over A H') D:=by
 refine⟨h.env,h.os,h.tape,h.output,h.size,λb hb J=>h.block b hb ?_,λo x l=>?_,λb cs hb=>?_⟩
 ·cases e:A b with
  |none=>rfl
  |some x=>have:=i b x e;rw[J]at this;cases this
 unfold PH.over at l;simp only at l;split at l;rename_i y u;rcases h.new o y u with⟨z,K⟩|hl
 exact .inl ⟨z,i o z K⟩;exact .inr hl;split at l;rename_i y u;exact .inl ⟨y,i o y u⟩;exact .inl ⟨x,l⟩;rcases h.newG b cs hb with F|⟨y,u⟩|hl
 exact .inl F;exact .inr (.inl ⟨y,i b y u⟩);exact .inr (.inr hl)
theorem bZ.over{E F:Env}{H H' J:PH}{w D:World}(hW:bZ E H w)(h:Ext E J w F H' D)(K:J.le H)(e:bZ F H' D):bZ F (H.over J H') D:=by
 have keep:∀o x,H o=some x->J o=none->o<D.heap.size/\TI F D o x:=by intro o x i A;obtain⟨hlt,B⟩:=hW.h o x i;exact⟨Nat.lt_of_lt_of_le hlt h.size,B.mono h.env (h.block o hlt A)⟩
 refine⟨λb cs hb=>⟨?_,(e.g b cs hb).2⟩,λo x i=>?_,e.s⟩;intro x l;unfold PH.over at l;simp only at l;split at l;rename_i y u;cases l;exact(e.g b cs hb).1 _ u;split at l;cases l;rfl;rename_i A;rcases h.newG b cs hb with L|⟨y,u⟩|hl
 exact(hW.g b cs L).1 x l;rw[A]at u;cases u;have:=(hW.h b x l).1;omega;unfold PH.over at i;simp only at i;split at i;rename_i y u;cases i;exact e.h o _ u;split at i;rename_i y u;cases i;exact⟨Nat.lt_of_lt_of_le (hW.h o y (K o y u)).1 h.size,trivial⟩;rename_i A;exact keep o x i A
open Go
inductive aP where
 |tmp (t:Nat)
 |const (v:PV)
 deriving Inhabited
def aP.ev(F:PF):aP->Option PV
 | .tmp t=>F t
 | .const v=>some v
def aP.evs(F:PF):List aP->Option V_
 |[]=>some []
 |x::xs=>match x.ev F,aP.evs F xs with
  |some v,some vs=>some (v::vs)
  |_,_=>none
inductive Sc where
 |int|bool|str
 deriving Inhabited,DecidableEq
inductive POp where
 |mv (x:aP)
 |pick (c a b:aP)
 |bin (op:BinOp) (x y:aP)
 |eqb (neg:Bool) (x y:aP)
 |eqs (neg:Bool) (ks:List Sc) (x y:aP)
 |un (op:UnOp) (x:aP)
 |conv (k:IntKind) (x:aP)
 |same (x:aP)
 |alloc (cells:V_)
 |box (ro:Bool) (x:aP)
 |build (zero:V_) (parts:List (Nat × Nat × aP))
 |arH (ro:Bool) (size len:Nat) (zero:V_) (parts:List (Nat × aP))
 |load (n:O_) (p:aP)
 |store (n:Nat) (p x:aP)
 |arP (x:aP)
 |asF (off:Nat) (x:aP)
 |field (off:Nat) (n:O_) (x:aP)
 |arT (size:Nat) (x i:aP)
 |idxA (n size:Nat) (x i:aP)
 |idxV (n size:Nat) (ag:Bool) (x i:aP)
 |asD (x i:aP)
 |slice (size:Nat) (x:aP) (lo hi mx:Option aP)
 |arZ (x:aP) (lo hi:Option aP)
 |sliceA (n size:Nat) (x:aP) (lo hi mx:Option aP)
 |len (x:aP)
 |asC (x:aP)
 |asN (x:aP)
 |lenM (x:aP)
 |isNil (n:Bool) (x:aP)
 |extract (x:aP) (i:Nat)
 |arK (size bytes:Nat) (zero:V_) (l c:aP)
 |append (size bytes:Nat) (x y:aP)
 |arX (mx:Bool) (x y:aP)
 |mkfn (name:Nat) (captured:List aP)
 |asJ (sh:MSh)
 |lookup (sh:MSh) (zero:PV) (x k:aP) (ok:Bool)
 |arU (sh:MSh) (x k v:aP)
 |insert (sh:MSh) (x k v:aP)
 |stuck
 |arQ (x:aP)
 |str2bytes (x:aP)
 |call (name:Nat) (args:List aP)
 |asE (x:aP) (args:List aP)
 deriving Inhabited
structure bU where
 dst:O_
 op:POp
 guard:Option (Nat × Bool)
 deriving Inhabited
inductive aJ where
 |skip
 |region (ops:List bU)
 |draw (ops:List (bU × Bool))
 |seq (a b:aJ)
 |cond (c:aP) (a b:aJ)
 |block (id:Nat) (c:aJ)
 |loop (c:aJ)
 |exit (id:Nat)
 |ret
 deriving Inhabited
inductive dX where
 |tmp (t:Nat)
 |cell (t:Nat) (n:O_)
 deriving Inhabited
structure kJ where
 nparams:Nat
 ntmps:Nat
 body:aJ
 res:List dX
 deriving Inhabited
def PV.cells:PV->V_
 | .agg cs=>cs
 |v=>[v]
def PV.one:PV->Bool
 | .agg _ | .tup _ | .junk | .lit (.agg _) | .lit (.tuple _)=>false
 |_=>true
def setCells(r:V_)(c:Nat):V_->V_
 |[]=>r
 |v::vs=>setCells (r.set c v) (c+1) vs
def loadCells(H:PH)(p:PV)(n:Nat):Option V_:=
 match p with
 | .ptr o size i c=>match H o with
  |some (.rows s rs)=>if s=size then match rs[i]? with
    |some r=>if c+n<=r.length then some ((r.drop c).take n)else none
    |none=>none
   else none
  |_=>none
 | .aU cells=>if n<=cells.length then some (cells.take n)else none
 |_=>none
def pG(op:BinOp)(k:IntKind)(a b:Int):Option PV:=
 match op with
 | .add=>some (.int k (k.wrap (a+b)))
 | .sub=>some (.int k (k.wrap (a-b)))
 | .mul=>some (.int k (k.wrap (a*b)))
 | .quo=>if b=0 then none else some (.int k (k.wrap (a.tdiv b)))
 | .rem=>if b=0 then none else some (.int k (a.tmod b))
 | .and=>some (.int k (k.wrap (BitVec.ofInt k.bits a &&& BitVec.ofInt k.bits b).toNat))
 | .or=>some (.int k (k.wrap (BitVec.ofInt k.bits a ||| BitVec.ofInt k.bits b).toNat))
 | .xor=>some (.int k (k.wrap (BitVec.ofInt k.bits a ^^^ BitVec.ofInt k.bits b).toNat))
 | .andNot=>some (.int k (k.wrap (BitVec.ofInt k.bits a &&& ~~~ BitVec.ofInt k.bits b).toNat))
 | .eql=>some (.bool (a==b))
 | .neq=>some (.bool (a != b))
 | .lss=>some (.bool (decide (a<b)))
 | .leq=>some (.bool (decide (a<=b)))
 | .gtr=>some (.bool (decide (a>b)))
 | .geq=>some (.bool (decide (a>=b)))
 | .shl | .shr=>none
def MG(op:BinOp)(a b:List UInt8):Option PV:=
 match op with
 | .add=>if((Z' a+Z' b:Nat):Int)>IntKind.i64.max then none else some (.str (a++b))
 | .eql=>some (.bool (a==b))
 | .neq=>some (.bool !(a==b))
 | .lss=>some (.bool (Op.bytesLess a b))
 | .leq=>some (.bool (Op.bytesLess a b||a==b))
 | .gtr=>some (.bool !(Op.bytesLess a b||a==b))
 | .geq=>some (.bool !(Op.bytesLess a b))
 |_=>none
def shift(op:BinOp)(k:IntKind)(a b:Int):Option PV:=
 if b<0 then none else
 match op with
 | .shl=>some (.int k (k.wrap (a*2^(min b.toNat k.bits))))
 | .shr=>some (.int k (a.fdiv (2^(min b.toNat k.bits))))
 |_=>none
def PV.bin(op:BinOp)(x y:PV):Option PV:=
 match op,x,y with
 | .shl,.int k a,.int _ b=>shift .shl k a b
 | .shr,.int k a,.int _ b=>shift .shr k a b
 |op,.int k a,.int e b=>if k=e then pG op k a b else none
 |op,.str a,.str b=>MG op a b
 |_,_,_=>none
def PV.eq1:Sc->PV->PV->Option Bool
 | .int,.int k a,.int e b=>if k=e then some (a==b)else none
 | .bool,.bool a,.bool b=>some (a==b)
 | .str,.str a,.str b=>some (a==b)
 |_,_,_=>none
def PV.eqs:List Sc->V_->V_->Option Bool
 |[],[],[]=>some true
 |k::e,x::xs,y::ys=>match PV.eq1 k x y with
  |some true=>PV.eqs e xs ys
  |some false=>if xs.length=Z' e/\Z' ys=e.length then some false else none
  |none=>none
 |_,_,_=>none
def PV.un(op:UnOp):PV->Option PV
 | .int k n=>match op with
  | .neg=>some (.int k (k.wrap (0-n)))
  | .xor=>some (.int k (k.wrap (BitVec.ofInt k.bits (if k.signed then -1 else k.max) ^^^ BitVec.ofInt k.bits n).toNat))
  |_=>none
 | .bool b=>match op with
  | .not=>some (.bool !b)
  |_=>none
 |_=>none
def PV.intOf:PV->Option Int
 | .int _ n=>some n
 |_=>none
def qN(cells:V_)(F:PF):List (Nat × Nat × aP)->Option V_
 |[]=>some cells
 |(off,size,x)::rest=>match x.ev F with
  |some v=>if v.cells.length=size/\off+size<=Z' cells/\v.cells.all PV.one then qN (setCells cells off v.cells) F rest else none
  |none=>none
def iB(size:Nat)(rows:P2_)(F:PF):List (Nat × aP)->Option P2_
 |[]=>some rows
 |(i,x)::rest=>match x.ev F with
  |some v=>if v.cells.length=size/\i<Z' rows/\v.cells.all PV.one then iB size (rows.set i v.cells) F rest else none
  |none=>none
def dG(H:PH)(size:Nat):PV->Option P2_
 | .aG=>some []
 | .sl s rows=>if s=size then some rows else none
 | .osl o s off len=>if s=size then match H o with
   |some (.rows s' rs)=>if s'=s/\off+len<=rs.length then some ((rs.drop off).take len)else none
   |_=>none
  else none
 |_=>none
def bnd(F:PF)(d:Int):Option aP->Option Int
 |none=>some d
 |some x=>(x.ev F).bind PV.intOf
def PV.slice(size:Nat)(x:PV)(l h:Int)(mx:Option Int):Option PV:=
 match x with
 | .aG=>if l=0/\h=0/\(mx=none\/mx=some 0)then some .aG else none
 | .sl s rows=>if s=size/\0<=l/\l<=h/\h<=Z' rows/\(mx=none\/mx=some h)then some (.sl s ((rows.take h.toNat).drop l.toNat))else none
 | .osl o s off len=>if s=size/\0<=l/\l<=h/\h<=len/\(mx=none\/mx=some h)then some (.osl o s (off+l.toNat) (h.toNat-l.toNat))else none
 |_=>none
def PV.tN:PV->Option Bool
 | .aG=>some true
 | .osl _ _ _ _=>some false
 | .sl _ (_::_)=>some false
 |_=>none
def KS.of:PV->Option KS
 | .int k n=>some (.int k n)
 | .bool b=>some (.bool b)
 | .str s=>some (.str s)
 |_=>none
def KS.ofs:V_->Option (List KS)
 |[]=>some []
 |v::vs=>match KS.of v,KS.ofs vs with
  |some k,some e=>some (k::e)
  |_,_=>none
def keyOf(sh:MSh)(v:PV):Option (List KS):=
 match sh.1,v with
 |true,.agg cs=>(KS.ofs cs).bind λk=>if k.map KS.sh=sh.2 then some k else none
 |false,v=>(KS.of v).bind λk=>if[k.sh]=sh.2 then some [k]else none
 |_,_=>none
def chunks(size:Nat):Nat->V_->P2_
 |0,_=>[]
 |n+1,cs=>cs.take size::chunks size n (cs.drop size)
def uX:P2_->Option (List UInt8)
 |[]=>some []
 |[.int .u8 n]::rest=>(uX rest).map (UInt8.ofNat n.toNat::·)
 |_=>none
def PV.sX:PV->Option PV
 | .aG=>some (.int .i64 0)
 | .sl _ rows=>some (.int .i64 rows.length)
 | .osl _ _ _ n=>some (.int .i64 n)
 |_=>none
noncomputable def aX(op:POp)(F:PF)(H:PH):Option PV:=
 match op with
 | .mv x=>x.ev F
 | .same x=>match x.ev F with
  |some (.str s)=>some (.str s)
  |_=>none
 | .pick c a b=>match c.ev F,a.ev F,b.ev F with
  |some (.bool t),x,y=>if t then x else y
  |_,_,_=>none
 | .bin op x y=>match x.ev F,y.ev F with
  |some a,some b=>PV.bin op a b
  |_,_=>none
 | .eqb neg x y=>match x.ev F,y.ev F with
  |some (.bool a),some (.bool b)=>some (.bool ((a==b) != neg))
  |_,_=>none
 | .eqs neg B x y=>match x.ev F,y.ev F with
  |some (.agg xs),some (.agg ys)=>(PV.eqs B xs ys).map λb=>.bool (b != neg)
  |_,_=>none
 | .un op x=>match x.ev F with
  |some a=>PV.un op a
  |none=>none
 | .conv k x=>match x.ev F with
  |some (.int _ n)=>some (.int k (k.wrap n))
  |_=>none
 | .box true x=>match x.ev F with
  |some v=>if v.cells.all PV.one then some (.aU v.cells)else none
  |none=>none
 | .build zero parts=>(qN zero F parts).map .agg
 | .arH true size len zero parts=>if zero.length=size/\len*size<=16777216 then(iB size (asT len zero) F parts).map (.sl size)else none
 | .load none p=>match p.ev F with
  |some a=>match loadCells H a 1 with
   |some [v]=>some v
   |_=>none
  |none=>none
 | .load (some n) p=>match p.ev F with
  |some a=>(loadCells H a n).map .agg
  |none=>none
 | .arP x=>match x.ev F with
  |some (.ptr o s i c)=>some (.ptr o s i c)
  |some (.aU cs)=>some (.aU cs)
  |_=>none
 | .asF off x=>match x.ev F with
  |some (.ptr o s i c)=>some (.ptr o s i (c+off))
  |some (.aU cs)=>some (.aU (cs.drop off))
  |_=>none
 | .field off n x=>match x.ev F with
  |some (.agg cs)=>match n with
   |none=>cs[off]?
   |some n=>if off+n<=cs.length then some (.agg ((cs.drop off).take n))else none
  |_=>none
 | .arT size x i=>match x.ev F,i.ev F with
  |some (.sl s rows),some (.int _ n)=>if s=size/\0<=n then match rows[n.toNat]? with
    |some r=>some (.aU r)
    |none=>none
   else none
  |some (.osl o s off len),some (.int _ n)=>if s=size/\0<=n/\n<len then some (.ptr o s (off+n.toNat) 0)else none
  |_,_=>none
 | .idxA n size x i=>match x.ev F,i.ev F with
  |some (.ptr o s r c),some (.int _ k)=>if 0<=k/\k<n then some (.ptr o s r (c+k.toNat*size))else none
  |some (.aU cs),some (.int _ k)=>if 0<=k/\k<n then some (.aU (cs.drop (k.toNat*size)))else none
  |_,_=>none
 | .idxV n size w x i=>match x.ev F,i.ev F with
  |some (.agg cs),some (.int _ k)=>if 0<=k/\k<n then
    (if w then(if k.toNat*size+size<=cs.length then some (.agg ((cs.drop (k.toNat*size)).take size))else none)else cs[k.toNat*size]?)
   else none
  |_,_=>none
 | .asD x i=>match x.ev F,i.ev F with
  |some (.str s),some (.int _ k)=>if 0<=k then(s[k.toNat]?).map λb=>PV.int .u8 b.toNat else none
  |_,_=>none
 | .slice size x lo hi mx=>match x.ev F with
  |some v=>match v with
   | .aG=>match bnd F 0 lo,bnd F 0 hi with
    |some l,some h=>match mx with
     |none=>PV.slice size v l h none
     |some m=>(bnd F 0 (some m)).bind λm=>PV.slice size v l h (some m)
    |_,_=>none
   | .sl s rows=>match bnd F 0 lo,bnd F rows.length hi with
    |some l,some h=>match mx with
     |none=>PV.slice size (.sl s rows) l h none
     |some m=>(bnd F 0 (some m)).bind λm=>PV.slice size (.sl s rows) l h (some m)
    |_,_=>none
   | .osl o s off len=>match bnd F 0 lo,bnd F len hi with
    |some l,some h=>match mx with
     |none=>PV.slice size (.osl o s off len) l h none
     |some m=>(bnd F 0 (some m)).bind λm=>PV.slice size (.osl o s off len) l h (some m)
    |_,_=>none
   |_=>none
  |none=>none
 | .arZ x lo hi=>match x.ev F with
  |some (.str s)=>match bnd F 0 lo,bnd F s.length hi with
   |some l,some h=>if 0<=l/\l<=h/\h<=s.length then some (.str ((s.take h.toNat).drop l.toNat))else none
   |_,_=>none
  |_=>none
 | .sliceA n size x lo hi mx=>match lo,hi,mx with
  |none,none,none=>match x.ev F with
   |some (.aU cs)=>if n*size<=Z' cs/\0<size/\n<=maxLen then some (.sl size (chunks size n cs))else none
   |_=>none
  |_,_,_=>none
 | .len x=>(x.ev F).bind PV.sX
 | .asC x=>match x.ev F with
  |some (.str s)=>some (.int .i64 s.length)
  |_=>none
 | .lenM x=>match x.ev F with
  |some (.map o)=>match H o with
   |some (.map _ g)=>some (.int .i64 (g.Lm:Nat))
   |_=>none
  |_=>none
 | .asN x=>match x.ev F with
  |some .aG=>some (.int .i64 0)
  |_=>none
 | .isNil n x=>(x.ev F).bind λv=>v.tN.map λb=>.bool (b != n)
 | .extract x i=>match x.ev F with
  |some (.tup vs)=>vs[i]?
  |_=>none
 | .arX mx x y=>match x.ev F,y.ev F with
  |some (.int k a),some (.int A b)=>if k=A then some (.int k (if mx then(if a<b then b else a)else(if b<a then b else a)))else none
  |_,_=>none
 | .mkfn name captured=>(aP.evs F captured).map λcs=>.fn name cs
 | .lookup sh zero x k ok=>match x.ev F,k.ev F with
  |some (.map o),some D=>match H o,keyOf sh D with
   |some (.map u g),some e=>if u=sh then some (if ok then .tup [(g e).getD zero,.bool (g e).isSome]else(g e).getD zero)else none
   |_,_=>none
  |_,_=>none
 | .arQ x=>match x.ev F with
  |some v=>match dG H 1 v with
   |some rows=>(uX rows).map PV.str
   |none=>none
  |none=>none
 |_=>none
def cQ(op:POp)(F:PF):Option ((Nat->PV) × aS):=
 match op with
 | .alloc cells=>some (λo=>.ptr o cells.length 0 0,.rows cells.length [cells])
 | .box false x=>match x.ev F with
  |some v=>if v.cells.all PV.one then some (λo=>.ptr o v.cells.length 0 0,.rows v.cells.length [v.cells])else none
  |none=>none
 | .arH false size len zero parts=>if zero.length=size/\len*size<=16777216 then
   (iB size (asT len zero) F parts).map λrows=>(λo=>.osl o size 0 len,.rows size rows)
  else none
 | .arK size bytes zero l c=>match l.ev F,c.ev F with
  |some (.int _ n),some (.int _ m)=>if 0<=n/\n<=m/\m*bytes<=140737488355328/\m<=9223372036854775807/\Z' zero=size then
    some (λo=>.osl o size 0 n.toNat,.rows size (asT n.toNat zero))
   else none
  |_,_=>none
 | .asJ sh=>some (λo=>.map o,.map sh (λ_=>none))
 |_=>none
def storeAt(H:PH)(p:PV)(cells:V_):Option PH:=
 match p with
 | .ptr o size i c=>match H o with
  |some (.rows s rs)=>if s=size/\c+Z' cells<=size/\cells.all PV.one then match rs[i]? with
    |some r=>some (H.set o (.rows s (rs.set i (setCells r c cells))))
    |none=>none
   else none
  |_=>none
 |_=>none
def roomFor(n m bytes:Nat):Prop:=n+m<=maxLen/\(n+m)*bytes<=140737488355328
def kP(H:PH)(size bytes:Nat)(x y:PV)(K:R_):Prop:=
 ∃src,dG H size y=some src /\
  match x with
  | .aG=>roomFor 0 src.length bytes/\(src=[]->K .aG H)/\(src≠[]->∀o,H o=none->K (.osl o size 0 src.length) (H.set o (.rows size src)))
  | .osl o s 0 len=>s=size/\0=0/\roomFor len src.length bytes/\∃rs,H o=some (.rows size rs)/\len<=Z' rs /\
    K (.osl o size 0 (len+Z' src)) (H.set o (.rows size (rs.take len++src))) /\
    ∀o',H o'=none->K (.osl o' size 0 (len+Z' src)) (H.set o' (.rows size (rs.take len++src)))
  | .osl o s (off+1) len=>s=size/\roomFor len src.length bytes/\∃rs,H o=some (.rows size rs)/\off+1+len<=Z' rs /\
    K (.osl o size (off+1) (len+Z' src)) (H.set o (.rows size (rs.take (off+1+len)++src))) /\
    ∀o',H o'=none->K (.osl o' size 0 (len+Z' src)) (H.set o' (.rows size ((rs.drop (off+1)).take len++src)))
  |_=>False
def cK(op:POp)(F:PF)(H:PH)(K:R_):Prop:=
 match op with
 | .store n p x=>match p.ev F,x.ev F with
  |some a,some v=>Z' v.cells=n/\∃H',storeAt H a v.cells=some H'/\K .junk H'
  |_,_=>False
 | .append size bytes x y=>match x.ev F,y.ev F with
  |some a,some b=>kP H size bytes a b K
  |_,_=>False
 | .arU sh x k v=>match x.ev F,k.ev F,v.ev F with
  |some (.map o),some l,some u=>match H o,keyOf sh l with
   |some (.map i g),some e=>i=sh/\K .junk (H.set o (.map sh (g.upd e u)))
   |_,_=>False
  |_,_,_=>False
 | .insert sh x k v=>match x.ev F,k.ev F,v.ev F with
  |some (.map o),some l,some u=>match H o,keyOf sh l with
   |some (.map i g),some e=>i=sh/\g e=none/\K .junk (H.set o (.map sh (g.upd e u)))
   |_,_=>False
  |_,_,_=>False
 |_=>False
def PV.cO(o s:Nat)(rs:P2_):PV->PV
 | .osl q s' off len=>if q=o then(if s'=s/\off+len<=rs.length then .sl s ((rs.drop off).take len)else .junk)else .osl q s' off len
 |v=>v
def PV.mM(o s:Nat)(rs:P2_):PV->PV
 | .agg cs=>.agg (cs.map (PV.cO o s rs))
 |v=>v.cO o s rs
def PV.frz(o s:Nat)(rs:P2_):PV->PV
 | .tup vs=>.tup (vs.map (PV.mM o s rs))
 |v=>v.mM o s rs
def aS.frz(o s:Nat)(rs:P2_):aS->aS
 | .rows s' rs'=>.rows s' (rs'.map λr=>r.map (PV.cO o s rs))
 |x=>x
def PF.frz(F:PF)(o s:Nat)(rs:P2_):PF:=λi=>(F i).map (PV.frz o s rs)
def PH.frz(H:PH)(o s:Nat)(rs:P2_):PH:=
 ⟨λq=>if q=o then none else(H q).map (aS.frz o s rs),by
  obtain⟨n,e⟩:=H.fin;exact⟨n,λq hq=>by simp[e q hq]⟩⟩
inductive jM:PF->PH->K_
 |refl (F:PF) (H:PH):jM F H F H
 |step {F F':PF} {H H':PH} (o:Nat) {s:Nat} {rs:P2_} (ho:H o=some (.rows s rs)) (h:jM (F.frz o s rs) (H.frz o s rs) F' H'):jM F H F' H'
structure Ctx where
 P:Program
 num:Nat->FuncId
inductive fV (E:Env):V_->List Value->Prop
 |nil:fV E [] []
 |cons {p:PV} {v:Value} {ps:V_} {vs:List Value} (h:bG E p v) (t:fV E ps vs):fV E (p::ps) (v::vs)
def aH(C:Ctx)(name:Nat)(args:V_)(H:PH)(R:R_):Prop:=
 (∃fn,C.P.funcs[C.num name]?=some fn/\fn.body.isSome=true/\(fn.name=="runtime.NumGoroutine")=false) /\
 ∀(E:Env)(w:World)(vs:Array Value),E.num=C.num->bZ E H w->fV E args vs.toList ->
  Calls C.P (C.num name) vs w λe l=>∃v pv i H',e=.returned v/\bZ i H' l/\bG i pv v/\Ext E H w i H' l/\R pv H'
def MC(C:Ctx)(l:Nat)(args:V_)(H:PH)(R:R_):Prop:=
 ∀(E:Env)(w:World)(vs:Array Value),E.num=C.num->bZ E H w->fV E args vs.toList ->
  ∃fn u i body,(Instr.yield l vs).run C.P w=.ok (.round l fn u i body) w/\RoundIn Fence.wide 0 C.P l fn u i body w λe y=>∃v pv x H',e=.returned v/\bZ x H' y/\bG x pv v/\Ext E H w x H' y/\R pv H'
def PV.Ur:PV->O_
 | .lit (.func (.yield l) f c)=>if f=#[]/\c=#[]then some l else none
 |_=>none
abbrev DQ(l:Nat):PV:=.lit (.func (.yield l) #[] #[])
inductive lI where
 |normal
 |exit (id:Nat)
 |ret
abbrev bP:=lI->K_
def PF.put(F:PF)(d:O_)(v:PV):PF:=
 match d with
 |some d=>F.set d v
 |none=>F
def xH(r:Option PV)(d:O_)(K:K_)(F:PF)(H:PH):Prop:=∃v,r=some v/\K (F.put d v) H
def oU(r:Option ((Nat->PV) × aS))(d:O_)(K:K_)(F:PF)(H:PH):Prop:=
 ∃e x,r=some (e,x)/\∀o,H o=none->K (F.put d (e o)) (H.set o x)
def rG(H e H':PH):Prop:=∀o x,H' o=some x->e o=none->H o=none
def vO(C:Ctx)(name:Nat)(args:Option V_)(d:O_)(K:K_)(F:PF)(H:PH):Prop:=
 ∃vs e R,args=some vs/\e.le H/\aH C name vs e R/\∀r H',R r H'->rG H e H'->K (F.put d r) (H.over e H')
def jX(C:Ctx)(name:Nat)(args:List aP)(cs:V_)(d:O_)(K:K_)(F:PF)(H:PH):Prop:=
 vO C name ((aP.evs F args).map (·++cs)) d K F H \/
 ∃e i,jM F H e i/\vO C name ((aP.evs e args).map (·++cs)) d K e i
def SE(C:Ctx)(l:Nat)(args:Option V_)(d:O_)(K:K_)(F:PF)(H:PH):Prop:=
 ∃vs e R,args=some vs/\e.le H/\MC C l vs e R/\∀r H',R r H'->rG H e H'->K (F.put d r) (H.over e H')
def Ku(C:Ctx)(l:Nat)(args:List aP)(d:O_)(K:K_)(F:PF)(H:PH):Prop:=
 SE C l (aP.evs F args) d K F H\/∃e i,jM F H e i/\SE C l (aP.evs e args) d K e i
def wS(C:Ctx)(v:Option PV)(args:List aP)(d:O_)(K:K_)(F:PF)(H:PH):Prop:=
 match v with
 |some (.fn name cs)=>jX C name args cs d K F H
 |some (.lit u)=>∃l,PV.Ur (.lit u)=some l/\Ku C l args d K F H
 |_=>False
def POp.iW:POp->Bool
 | .alloc _ | .box false _ | .arH false .. | .arK .. | .asJ _=>true
 |_=>false
def POp.eY:POp->Bool
 | .store .. | .append .. | .arU .. | .insert ..=>true
 |_=>false
def wpOp(C:Ctx)(op:POp)(d:O_)(K:K_)(F:PF)(H:PH):Prop:=
 match op with
 | .call name args=>jX C name args [] d K F H
 | .asE x args=>wS C (x.ev F) args d K F H
 |op=>if op.iW then oU (cQ op F) d K F H else if op.eY then cK op F H (λr H'=>K (F.put d r) H')else xH (aX op F H) d K F H
def wpOps(C:Ctx):List bU->(K_)->K_
 |[],K,F,H=>K F H
 |i::rest,K,F,H=>match i.guard with
  |none=>wpOp C i.op i.dst (wpOps C rest K) F H
  |some (t,e)=>match F t with
   |some (.bool b)=>if b=e then wpOp C i.op i.dst (wpOps C rest K) F H else wpOps C rest K (F.put i.dst (.tup [])) H
   |some (.tup [])=>wpOps C rest K (F.put i.dst (.tup [])) H
   |_=>False
def PH.only(H:PH)(D:N_):PH:=
 ⟨λo=>if o∈D then H o else none,by
  obtain⟨n,e⟩:=H.fin;exact⟨n,λo i=>by simp[e o i]⟩⟩
abbrev Spec:=Nat->V_->Option (N_ × (PH->R_))
inductive Kind where
 |fail
 |calm (f:PH->Option PV)
 |new (r:Option ((Nat->PV) × aS))
 |write (w:PH->(R_)->Prop)
 |call (name:Nat) (args:Option V_)
 |ins (r:Option (Nat × MSh × List KS × PV))
noncomputable def POp.kind(op:POp)(F:PF):Kind:=
 match op with
 | .call name args=>.call name (aP.evs F args)
 | .asE x args=>match x.ev F with
  |some (.fn name cs)=>.call name ((aP.evs F args).map (·++cs))
  |_=>.fail
 | .insert sh x k v=>.ins (match x.ev F,k.ev F,v.ev F with
  |some (.map o),some i,some l=>(keyOf sh i).map λe=>(o,sh,e,l)
  |_,_,_=>none)
 |op=>if op.iW then .new (cQ op F)else if op.eY then .write (λH K=>cK op F H K)else .calm (aX op F)
noncomputable def bU.kind(i:bU)(F:PF):Kind:=
 match i.guard with
 |none=>i.op.kind F
 |some (t,e)=>match F t with
  |some (.bool b)=>if b=e then i.op.kind F else .calm (λ_=>some (.tup []))
  |some (.tup [])=>.calm (λ_=>some (.tup []))
  |_=>.fail
def Kind.run(C:Ctx)(Hs:PH)(S:Spec)(st:Bool)(k:Kind)(K:R_)(H:PH):Prop:=
 match k with
 | .fail=>False
 | .calm f=>∃v,f (if st then Hs else H)=some v/\K v H
 | .new r=>∃i x,r=some (i,x)/\∀o,H o=none->K (i o) (H.set o x)
 | .write w=>w H λr H'=>Hs.le H'/\K r H'
 | .ins r=>∃o sh e v g,r=some (o,sh,e,v)/\H o=some (.map sh g)/\g e=none/\Hs o=none/\K .junk (H.set o (.map sh (g.upd e v)))
 | .call name args=>∃vs D R,args=some vs/\S name vs=some (D,R)/\(∀o∈D,∃x,H o=some x)/\aH C name vs (H.only D) (R (H.only D)) /\
   (∀G:PH,∃r H',R (H.only D) r H'/\rG G (H.only D) H') /\
   ∀r H',R (H.only D) r H'->rG H (H.only D) H'->Hs.le (H.over (H.only D) H')/\K r (H.over (H.only D) H')
def wpD(C:Ctx)(Hs:PH)(S:Spec):List (bU × Bool)->(K_)->K_
 |[],K,F,H=>K F H
 |i::rest,K,F,H=>(i.1.kind F).run C Hs S i.2 (λv H'=>wpD C Hs S rest K (F.put i.1.dst v) H') H
def gL(C:Ctx)(w:bP->K_)(K:bP):bP
 | .normal,F,H=>w K F H
 |e,F,H=>K e F H
def fL(id:Nat)(K:bP):bP
 | .exit i,F,H=>if i=id then K .normal F H else K (.exit i) F H
 |e,F,H=>K e F H
def fK{α:Type}(u:α->PF)(Hs:α->PH)(w:α->Prop)(m:α->Nat)(n:Nat)(K:bP):bP
 | .normal,F,H=>∃a i l,jM F H i l/\w a/\m a<n/\(u a).le i/\(Hs a).le l
 |e,F,H=>K e F H
def aJ.wp(C:Ctx):aJ->bP->K_
 | .skip,K,F,H=>K .normal F H
 | .region ops,K,F,H=>wpOps C ops (K .normal) F H
 | .draw ops,K,F,H=>∃Hs S,PH.le Hs H/\wpD C Hs S ops (K .normal) F H
 | .seq a b,K,F,H=>a.wp C (gL C (b.wp C) K) F H
 | .cond c a b,K,F,H=>match c.ev F with
  |some (.bool t)=>if t then a.wp C K F H else b.wp C K F H
  |_=>False
 | .block id c,K,F,H=>c.wp C (fL id K) F H
 | .loop c,K,F,H=>∃(α:Type)(e:α->PF)(Hs:α->PH)(i:α->Prop)(m:α->Nat)(l:α)(u:PF)(w:PH),jM F H u w/\i l/\(e l).le u/\(Hs l).le w /\
   ∀a,i a->c.wp C (fK e Hs i m (m a) K) (e a) (Hs a)
 | .exit id,K,F,H=>K (.exit id) F H
 | .ret,K,F,H=>K .ret F H
def dX.ev(F:PF)(H:PH):dX->Option PV
 | .tmp t=>F t
 | .cell t none=>match F t with
  |some p=>match loadCells H p 1 with
   |some [v]=>some v
   |_=>none
  |none=>none
 | .cell t (some k)=>match F t with
  |some p=>(loadCells H p k).map .agg
  |none=>none
def dX.evs(F:PF)(H:PH):List dX->Option V_
 |[]=>some []
 |r::rs=>match r.ev F H,dX.evs F H rs with
  |some v,some vs=>some (v::vs)
  |_,_=>none
def bN:V_->PV
 |[v]=>v
 |vs=>.tup vs
def aV(res:List dX)(R:R_):bP
 | .exit _,_,_=>False
 |_,F,H=>∃vs,dX.evs F H res=some vs/\∃e i H2,jM (PF.nil.set 0 (bN vs)) H e i/\H2.le i/\∃v,e 0=some v/\R v H2
def PF.args(vs:V_):PF:=λi=>vs[i]?
structure Tbl where
 P:Program
 num:Nat->FuncId
 name:FuncId->O_
 ro:N_:=[]
def ofValue:Value->Option PV
 | .int k n=>some (.int k n)
 | .bool b=>some (.bool b)
 | .string s=>some (.str s.data.toList)
 | .slice none 0 0=>some .aG
 | .pointer none=>some (.lit (.pointer none))
 | .map none=>some (.lit (.map none))
 | .nilIface=>some (.lit .nilIface)
 | .nilFunc=>some (.lit .nilFunc)
 |_=>none
theorem CI{E:Env}{v:Value}{pv:PV}(h:ofValue v=some pv):bG E pv v:=by
 unfold ofValue at h;split at h<;>cases h
 ·exact .int _ _
 ·exact .bool _
 ·exact .str _
 ·exact .aG
 all_goals exact .lit _
def ofValues:List Value->Option V_
 |[]=>some []
 |v::vs=>match ofValue v,ofValues vs with
  |some p,some ps=>some (p::ps)
  |_,_=>none
namespace Tbl
variable (T:Tbl)
def opd:Operand->Option aP
 | .tmp t=>some (.tmp t)
 | .const v=>(ofValue v).map .const
 | .func f=>match T.name f with
  |some n=>if T.num n=f then some (.const (.fn n []))else none
  |none=>none
 | .global _=>none
def gv:List Operand->Option (List aP)
 |[]=>some []
 |x::xs=>match T.opd x,gv xs with
  |some p,some ps=>some (p::ps)
  |_,_=>none
def size(t:TypeId):O_:=(T.P.info? t).map (·.size)
def isAgg(t:TypeId):Option Bool:=
 match T.P.underlying t with
 |some (.struct _)|some (.array _ _)=>some true
 |some _=>some false
 |none=>none
def zero(t:TypeId):Option V_:=((T.P.info? t).bind (·.zero)).bind λz=>ofValues z.cells.toList
def scalar(t:TypeId):Option Sc:=
 match T.P.underlying t with
 |some (.int _)=>some .int
 |some .bool=>some .bool
 |some .string=>some .str
 |_=>none
def xX:Nat->List Field->Option (List Sc)
 |_,[]=>some []
 |k,f::e=>match T.scalar f.type,xX (k+1) e with
  |some c,some cs=>if f.name≠"_"/\f.offset=k then some (c::cs)else none
  |_,_=>none
def flat(t:TypeId):Option (List Sc):=
 match T.P.underlying t with
 |some (.struct e)=>if T.P.stoodInHeld t=false/\T.P.eqGuardType T.P.depth t=false then T.xX 0 e.toList else none
 |_=>none
def GD(t:TypeId):Option KSh:=
 match T.P.underlying t with
 |some (.int k)=>some (.int k)
 |some .bool=>some .bool
 |some .string=>some .str
 |_=>none
def oY:Nat->List Field->Option (List KSh)
 |_,[]=>some []
 |k,f::e=>match T.GD f.type,oY (k+1) e with
  |some c,some cs=>if f.name≠"_"/\f.offset=k then some (c::cs)else none
  |_,_=>none
def pN(t:TypeId):Option MSh:=
 match T.P.underlying t with
 |some (.struct e)=>if T.P.stoodInHeld t=false then(T.oY 0 e.toList).map λl=>(true,l)else none
 |_=>(T.GD t).map λc=>(false,[c])
def opt(x:Option Operand):Option (Option aP):=
 match x with
 |none=>some none
 |some x=>(T.opd x).map some
def place(e:Array Field)(i:Nat):Option (Nat × Nat):=
 match e[i]? with
 |some f=>(T.size f.type).map (f.offset,·)
 |none=>none
def partsOf(place:Nat->Option (Nat × Nat)):List (Nat × Operand)->Option (List (Nat × Nat × aP))
 |[]=>some []
 |(i,x)::rest=>match place i,T.opd x,partsOf place rest with
  |some (off,size),some p,some ps=>some ((off,size,p)::ps)
  |_,_,_=>none
def yQ:List (Nat × Operand)->Option (List (Nat × aP))
 |[]=>some []
 |(i,x)::rest=>match T.opd x,yQ rest with
  |some p,some ps=>some ((i,p)::ps)
  |_,_=>none
def td(d:Option Tmp):Bool:=
 match d with
 |some d=>T.ro.contains d
 |none=>false
def call(o:Oper)(c:Call):Option POp:=
 match c.callee with
 | .builtin b=>match b,c.args.toList,c.argTypes.toList with
  | .len,[x],[t]=>match T.P.underlying t with
   |some (.array n _)=>some (.mv (.const (.int .i64 n)))
   |some .string=>(T.opd x).map .asC
   |some (.slice _)=>(T.opd x).map .len
   |some (.map _ _)=>(T.opd x).map .lenM
   |_=>none
  | .append,[x,y],[t,u]=>match T.P.underlying t,T.P.underlying u with
   |some (.slice e),some (.slice _)=>match T.P.info? e,T.opd x,T.opd y with
    |some i,some a,some b=>if t=u/\i.zero.isSome/\(i.zero.map (·.cells.size))=some i.size/\0<i.size then some (.append i.size i.bytes a b)else none
    |_,_,_=>none
   |_,_=>none
  | .cap,[x],[t]=>match T.P.underlying t with
   |some (.slice _)=>(T.opd x).map .asN
   |_=>none
  | .max,[x,y],_=>match T.opd x,T.opd y with
   |some a,some b=>some (.arX true a b)
   |_,_=>none
  | .min,[x,y],_=>match T.opd x,T.opd y with
   |some a,some b=>some (.arX false a b)
   |_,_=>none
  |_,_,_=>none
 | .value (.func f)=>match T.name f,T.gv c.args.toList with
  |some n,some xs=>if T.num n=f then some (.call n xs)else none
  |_,_=>none
 | .value (.tmp t)=>(T.gv c.args.toList).map (.asE (.tmp t))
 |_=>none
def op(o:Oper):Option POp:=
 match o.op with
 | .move x | .assign x=>(T.opd x).map .mv
 | .pick c a b=>match T.opd c,T.opd a,T.opd b with
  |some c,some a,some b=>some (.pick c a b)
  |_,_,_=>none
 | .alloc e=>(T.zero e).map .alloc
 | .box _ x=>(T.opd x).map (.box (T.td o.dst))
 | .build t parts=>match T.zero t,T.P.underlying t with
  |some z,some (.struct A)=>if(A.toList.mapM (λf=>(T.P.info? f.type).map λi=>(f.offset,i.size))).isSome then
    (T.partsOf (T.place A) parts.toList).map (.build z)
   else none
  |some z,some (.array _ e)=>match T.size e with
   |some s=>(T.partsOf (λi=>some (i*s,s)) parts.toList).map (.build z)
   |none=>none
  |_,_=>none
 | .buildSlice t len parts=>match T.P.underlying t with
  |some (.slice e)=>match T.size e,T.zero e,T.yQ parts.toList with
   |some s,some z,some ps=>if z.length=s/\0<s then some (.arH (T.td o.dst) s len z ps)else none
   |_,_,_=>none
  |_=>none
 | .load t a=>match T.isAgg t,T.size t,T.opd a with
  |some true,some n,some p=>some (.load (some n) p)
  |some false,_,some p=>some (.load none p)
  |_,_,_=>none
 | .store t a x=>match T.size t,T.opd a,T.opd x with
  |some n,some p,some v=>some (.store n p v)
  |_,_,_=>none
 | .nilCheck x=>(T.opd x).map .arP
 | .binOp b t x y _=>match T.opd x,T.opd y with
  |some p,some q=>match b with
   | .eql=>match T.P.underlying t with
    |some (.int _)|some .string=>some (.bin .eql p q)
    |some .bool=>some (.eqb false p q)
    |some (.struct _)=>(T.flat t).map λD=>.eqs false D p q
    |some (.slice _)=>match q with
     | .const .aG=>some (.isNil false p)
     |_=>none
    |_=>none
   | .neq=>match T.P.underlying t with
    |some (.int _)|some .string=>some (.bin .neq p q)
    |some .bool=>some (.eqb true p q)
    |some (.struct _)=>(T.flat t).map λD=>.eqs true D p q
    |some (.slice _)=>match q with
     | .const .aG=>some (.isNil true p)
     |_=>none
    |_=>none
   |b=>some (.bin b p q)
  |_,_=>none
 | .unOp u _ x=>(T.opd x).map (.un u)
 | .convert s d x=>match T.P.underlying s,T.P.underlying d,T.opd x with
  |some (.int _),some (.int k),some p=>some (.conv k p)
  |some .string,some .string,some p=>some (.same p)
  |some (.slice e),some .string,some p=>match T.P.underlying e with
   |some (.int .u8)=>some (.arQ p)
   |_=>none
  |_,_,_=>none
 | .makeFunc (.func f) first captured=>match T.name f,T.gv captured.toList with
  |some n,some cs=>if T.num n=f/\first.size=0 then some (.mkfn n cs)else none
  |_,_=>none
 | .makeMap t none=>match T.P.underlying t with
  |some (.map k _)=>(T.pN k).map .asJ
  |_=>none
 | .lookup t x k ok=>match T.P.underlying t with
  |some (.map B E)=>match T.pN B,(T.P.info? E).bind (·.zero),T.opd x,T.opd k with
   |some sh,some z,some p,some q=>(ofValue z).map λz=>.lookup sh z p q ok
   |_,_,_,_=>none
  |_=>none
 | .mapUpdate t x k v=>match T.P.underlying t with
  |some (.map B _)=>match T.pN B,T.opd x,T.opd k,T.opd v with
   |some sh,some p,some q,some r=>some (.arU sh p q r)
   |_,_,_,_=>none
  |_=>none
 | .insert t x k v=>match T.P.underlying t with
  |some (.map B _)=>match T.pN B,T.opd x,T.opd k,T.opd v with
   |some sh,some p,some q,some r=>some (.insert sh p q r)
   |_,_,_,_=>none
  |_=>none
 | .makeSlice t l c=>match T.P.underlying t with
  |some (.slice e)=>match T.P.info? e,T.zero e,T.opd l,T.opd c with
   |some i,some z,some a,some b=>if z.length=i.size/\0<i.size then some (.arK i.size i.bytes z a b)else none
   |_,_,_,_=>none
  |_=>none
 | .slice t x lo hi mx=>match T.P.underlying t,T.opd x,T.opt lo,T.opt hi,T.opt mx with
  |some (.slice e),some p,some l,some h,some m=>if mx.isSome=true/\hi.isNone=true then none else(T.size e).map λs=>.slice s p l h m
  |some .string,some p,some l,some h,some none=>some (.arZ p l h)
  |some (.array n e),some p,some none,some none,some none=>(T.size e).map λs=>.sliceA n s p none none none
  |_,_,_,_,_=>none
 | .fieldAddr t x f=>match T.P.underlying t,T.opd x with
  |some (.struct A),some p=>match A[f]? with
   |some w=>match T.size w.type with
    |some (_+1)=>some (.asF w.offset p)
    |_=>none
   |none=>none
  |_,_=>none
 | .field t x f=>match T.P.underlying t,T.opd x with
  |some (.struct A),some p=>match A[f]? with
   |some w=>match T.isAgg w.type,T.size w.type with
    |some true,some n=>some (.field w.offset (some n) p)
    |some false,_=>some (.field w.offset none p)
    |_,_=>none
   |none=>none
  |_,_=>none
 | .indexAddr t x i=>match T.P.underlying t,T.opd x,T.opd i with
  |some (.slice e),some p,some q=>(T.size e).map λs=>.arT s p q
  |some (.array n e),some p,some q=>(T.size e).map λs=>.idxA n s p q
  |_,_,_=>none
 | .index t x i=>match T.P.underlying t,T.opd x,T.opd i with
  |some (.array n e),some p,some q=>match T.size e,T.isAgg e with
   |some s,some g=>some (.idxV n s g p q)
   |_,_=>none
  |some .string,some p,some q=>some (.asD p q)
  |_,_,_=>none
 | .extract x i=>(T.opd x).map (.extract · i)
 | .call c=>T.call o c
 |_=>none
def YL(n:Nat)(ops:Array Oper)(o:Oper):Option bU:=
 let p:=(T.op o).getD .stuck
 if o.dst.all (·<n)then
  match o.guard with
  |none=>some ⟨o.dst,p,none⟩
  |some (j,e)=>match(ops[j]?).bind (·.dst)with
   |some t=>some ⟨o.dst,p,some (t,e)⟩
   |none=>none
 else none
def xE(n:Nat)(ops:Array Oper):List Oper->Option (List bU)
 |[]=>some []
 |o::os=>match T.YL n ops o,xE n ops os with
  |some i,some e=>some (i::e)
  |_,_=>none
end Tbl
end Go.PM
namespace Go.PM
open Go
structure eX(ds:List Deferred)(n:Nat)(E:Env)(F:PF)(a:Act):Prop where
 size:a.tmps.size=n
 defers:a.defers=ds
 t:∀i pv,F i=some pv->bG E pv (a.tmps.getD i undef)
theorem eX.mono{ds:List Deferred}{n:Nat}{E e:Env}(h:E.le e){F:PF}{a:Act}(r:eX ds n E F a):eX ds n e F a:=⟨r.size,r.defers,λi pv hi=>(r.t i pv hi).mono h⟩
theorem eX.weaken{ds:List Deferred}{n:Nat}{E:Env}{F e:PF}{a:Act}(r:eX ds n E F a)(h:e.le F):eX ds n E e a:=⟨r.size,r.defers,λi pv hi=>r.t i pv (h i pv hi)⟩
theorem eX.put{ds:List Deferred}{n:Nat}{E:Env}{F:PF}{a:Act}(r:eX ds n E F a){d:Option Tmp}(u:d.all (·<n)=true){pv:PV}{v:Value}(h:bG E pv v):eX ds n E (F.put d pv) (a.put d v):=by
 cases d with
 |none=>exact r
 |some d=>
  have l:d<n:=by simpa using u
  refine⟨by simp[Act.put,r.size],by simp[Act.put,r.defers],λi x hi=>?_⟩;simp only[PF.put,PF.set,upd]at hi;split at hi;rename_i e;subst e;cases hi;simp only[Act.put,axD];rw[Array.getElem?_setIfInBounds];simp[r.size,l,h];rename_i e;have:=r.t i x hi;simp only[Act.put,axD]at this ⊢;rw[Array.getElem?_setIfInBounds,aC Om];exact this
section
variable {ds:List Deferred} {T:Tbl} {n:Nat} {E:Env} {F:PF} {H:PH} {a:Act} {w:World}
theorem bL{x:Operand}{p:aP}{pv:PV}(e:T.opd x=some p)(i:p.ev F=some pv)(l:eX ds n E F a)(u:E.num=T.num):bG E pv (a.eval x):=by
 cases x with
 |tmp t =>simp[Tbl.opd]at e;subst e;exact l.t t pv i
 |const v =>simp only[Tbl.opd,atB]at e;obtain⟨q,hq,rfl⟩:=e;simp[aP.ev]at i;subst i;exact CI hq
 |global g=>simp[Tbl.opd]at e
 |func f =>simp only[Tbl.opd]at e;split at e;rename_i m A;split at e;rename_i y;cases e;simp[aP.ev]at i;subst i;have:=bG.fn (E:=E) (name:=m) (captured:=[]) #[] rfl (by intro j pv v h;simp at h);rw[u,y]at this;exact this;cases e;cases e
theorem FC{xs:List Operand}:∀{ps:List aP}{e:V_},T.gv xs=some ps->aP.evs F ps=some e->eX ds n E F a->E.num=T.num->fV E e (xs.map a.eval):=by
 induction xs with
 |nil =>intro ps e i l _ _;simp[Tbl.gv]at i;subst i;simp[aP.evs]at l;subst l;exact .nil
 |cons x xs J =>intro ps e i l A B;simp only[Tbl.gv]at i;split at i;rename_i p K hp u;cases i;simp only[aP.evs]at l;split at l;rename_i v vs D y;cases l;exact .cons (bL hp D A B) (J u y A B);cases l;cases i
theorem bZ.I5(hW:bZ E H w){b off:Nat}{u:Value}(h:E.cell b off=some u):w.cell? ⟨b,off,none⟩=some u:=by
 unfold Env.cell at h;cases e:E.G b with
 |none=>simp[e]at h
 |some cs =>obtain⟨-,ty,fr,i⟩:=hW.g b cs e;rw[cell_of_row w b off cs ty fr i];simpa[e]using h
theorem add_plain(b off i:Nat):(⟨b,off,none⟩:Addr).add i=⟨b,off+i,none⟩:=by unfold Addr.add;split<;>simp_all
theorem sO{e:Addr}(h:e.spot=none):e=⟨e.block,e.off,none⟩:=by cases e;simp_all
theorem uM{pv:PV}{v:Value}(hW:bZ E H w)(X:bG E pv v){k:Nat}{cs:V_}(h:loadCells H pv k=some cs) :
  ∃b off,v=.pointer (some ⟨b,off,none⟩)/\Z' cs=k/\∃K:List Value,Z' K=k/\(∀u∈K,u.oneCell'=true) /\
   (∀(j:Nat) u,K[j]?=some u->w.cell? ⟨b,off+j,none⟩=some u)/\∀(j:Nat) q u,cs[j]?=some q->K[j]?=some u->bG E q u:=by
 unfold loadCells at h;split at h;rename_i o size i c;cases X;split at h;rename_i s rs ho;split at h;rename_i hs;subst hs;split at h;rename_i r N;split at h;rename_i α;cases h;obtain⟨-,B,ty,hh,γ,W,V,L⟩:=hW.h o _ ho;have J:∀j,j<k->∃u,B[i*s+(c+j)]?=some u/\u.oneCell'=true/\bG E (r.getD (c+j) .junk) u:=by intro j U;refine L i (c+j) _ ?_;simp only[at2,N,awQ,asW];rw[asZ Om];rfl
 refine⟨o,i*s+c,rfl,by simp;omega,?_⟩;refine⟨(asP k).map λj=>(B[i*s+(c+j)]?).getD undef,by simp,?_,?_,?_⟩;intro u y;simp only[atM,atQ]at y;obtain⟨j,U,rfl⟩:=y;obtain⟨u,D,Y,-⟩:=J j U;simp[D,Y];intro j u y;simp only[atC,atB]at y;obtain⟨R,e,rfl⟩:=y;have l:j<k:=by
  rcases atY j k with h|h
  exact h;rw[auE (by simpa using h)]at e;cases e
 rw[auT l]at e;cases e;obtain⟨u,D,-,-⟩:=J j l;rw[cell_of_row w o _ B ty (0,0) hh,avZ,D];rfl;intro j q u hq y;simp only[atC,atB]at y;obtain⟨R,e,rfl⟩:=y;have l:j<k:=by
  rcases atY j k with h|h
  exact h;rw[auE (by simpa using h)]at e;cases e
 rw[auT l]at e;cases e;obtain⟨u,D,-,Z⟩:=J j l;have M:r.getD (c+j) .junk=q:=by rw[awI,aF l,awM]at hq;simp[hq]
 rw[<-M,D];exact Z;cases h;cases h;cases h;cases h
 ·rename_i cells;cases X with
  |aU u O L D N=>
  rename_i S;split at h;rename_i β;cases h;refine⟨S.block,S.off,by rw[<-sO O],by simp;omega,(asP k).map u,by simp,?_,?_,?_⟩;intro x A;simp only[atM]at A;obtain⟨j,-,rfl⟩:=A;exact D j;intro j x A;simp only[atC,atB]at A;obtain⟨R,e,rfl⟩:=A;have l:j<k:=by
   rcases atY j k with h|h
   exact h;rw[auE (by simpa using h)]at e;cases e
  rw[auT l]at e;cases e;exact hW.I5 (L j _ (asZ Om));intro j q x hq A;simp only[atC,atB]at A;obtain⟨R,e,rfl⟩:=A;have l:j<k:=by
   rcases atY j k with h|h
   exact h;rw[auE (by simpa using h)]at e;cases e
  rw[auT l]at e;cases e;rw[awI,aF l]at hq;exact N j q hq;cases h
 cases h
theorem P4 {op : BinOp} {px py pv : PV} {x y : Value} (hx : bG E px x) (hy : bG E py y) (h : PV.bin op px py = some pv) (t : TypeId) (ox oy : Operand) :
    ∃ v, (do eqGuard op t ox oy x y; binOp op t x y : Sem Value).run T.P w = .ok v w /\ bG E pv v := by
  unfold PV.bin at h;split at h
  · cases hx; cases hy
    unfold shift at h;split at h
    · cases h
    · rename_i hb
      cases h;exact ⟨_, by simp [eqGuard, binOp, Op.shift, hb], .int _ _⟩
  · cases hx; cases hy
    unfold shift at h;split at h
    · cases h
    · rename_i hb
      cases h;exact ⟨_, by simp [eqGuard, binOp, Op.shift, hb], .int _ _⟩
  · rename_i op' k a k' b n1 n2
    cases hx; cases hy;split at h
    · rename_i hk
      subst hk;cases op <;> simp only [pG] at h <;>
        first
          | (cases h; refine ⟨_, ?_, bG.int _ _⟩; simp [eqGuard, binOp, Op.intArith, Op.intBits]; done)
          | (cases h; refine ⟨_, ?_, bG.bool _⟩; simp [eqGuard, binOp, Op.intCmp]; done)
          | (split at h
             · cases h
             · rename_i hb
               cases h;refine ⟨_, ?_, bG.int _ _⟩;simp [eqGuard, binOp, Op.intDiv, hb])
          | cases h
    · cases h
  · rename_i op' a b
    cases hx with
    | str s =>
    cases hy with
    | str s' =>
    cases op <;> simp only [MG] at h <;>
      first
        | (cases h; refine ⟨_, ?_, bG.bool _⟩; simp [eqGuard, binOp, Op.stringOp, ByteArray.toList_eq]; done)
        | (split at h
           · cases h
           · rename_i hb
             cases h;refine ⟨.string (s ++ s'), ?_, ?_⟩
             · have hb' : ¬ (((s.size + s'.size : Nat) : Int) > IntKind.i64.max) := by
                 intro hh;apply hb;have e1 : s.data.toList.length = s.size := by rw [awC]; rfl
                 have e2 : s'.data.toList.length = s'.size := by rw [awC]; rfl
                 rw [e1, e2];exact hh
               have e1 : Op.stringOp .add s s' = pure (.string (s ++ s')) := by unfold Op.stringOp; exact aC hb'
               have e2 : binOp .add t (.string s) (.string s') = pure (.string (s ++ s')) := by unfold binOp; exact e1
               simp [eqGuard, e2]
             · have e : s.data.toList ++ s'.data.toList = (s ++ s').data.toList := by rw [ByteArray.data_append, Array.toList_append]
               rw [e];exact .str _)
        | cases h
  · cases h
theorem Zb{u:UnOp}{i pv:PV}{x:Value}(e:bG E i x)(h:PV.un u i=some pv):∃v,(Op.unary u x).run T.P w=.ok v w/\bG E pv v:=by
 unfold PV.un at h;split at h;cases e;split at h;cases h;exact⟨_,by simp[Op.unary,Op.intArith],.int _ _⟩;cases h;exact⟨_,by simp[Op.unary,Op.intBits],.int _ _⟩;cases h;cases e;split at h;cases h;exact⟨_,by simp[Op.unary],.bool _⟩;cases h;cases h
end
open Go Go.RowKit
def Yields(P:Program)(E:Env)(H:PH)(w:World)(s:Sem Value)(pv:PV):Prop:=
 ∃v i e,s.run P w=.ok v i/\bG e pv v/\bZ e H i/\Ext E H w e H i
theorem Yields.same{P:Program}{E:Env}{H:PH}{w:World}{s:Sem Value}{pv:PV}{v:Value}(hW:bZ E H w)(h:s.run P w=.ok v w)(r:bG E pv v):Yields P E H w s pv:=
 ⟨v,w,E,h,r,hW,.refl E H w⟩
def Env.add(E:Env)(b:Nat)(cs:Array Value):Env:=⟨upd E.G b (some cs),upd E.sz b (some cs.size),E.num⟩
section
variable {T:Tbl} {n:Nat} {E:Env} {F:PF} {H:PH} {a:Act} {w:World}
theorem bZ.Mg(hW:bZ E H w){b:Nat}{cs:Array Value}(h:E.G b=some cs):b<w.heap.size:=by
 obtain⟨-,ty,fr,e⟩:=hW.g b cs h;exact(awB.1 e).1
theorem bZ.Fj(hW:bZ E H w){b n:Nat}(h:E.sz b=some n):b<w.heap.size:=by
 obtain⟨e,ty,fr,i,-⟩:=hW.s b n h;exact(awB.1 i).1
theorem bZ.Mt(hW:bZ E H w):H w.heap.size=none:=by
 cases h:H w.heap.size with
 |none=>rfl
 |some x=>have:=(hW.h _ x h).1;omega
theorem Env.ahB(hW:bZ E H w)(cs:Array Value):E.le (E.add w.heap.size cs):=by
 refine⟨λb ds h=>?_,λb m h=>?_,rfl⟩;have:=hW.Mg h;simp only[Env.add];rw[XF _ _ Om];exact h;have:=hW.Fj h;simp only[Env.add];rw[XF _ _ Om];exact h
theorem bZ.Z6(hW:bZ E H w)(cs:Array Value)(ty:TypeId):bZ (E.add w.heap.size cs) H (w.alloc (.cells cs ty))/\Ext E H w (E.add w.heap.size cs) H (w.alloc (.cells cs ty)):=by
 have y:=Env.ahB hW cs;refine⟨⟨λb ds h=>?_,λo x h=>?_,λo m h=>?_⟩,⟨y,rfl,rfl,rfl,by simp,λb hb _=>Below.heap_alloc w _ b hb,λo x h=>.inl ⟨x,h⟩,λb ds h=>?_⟩⟩;simp only[Env.add,upd]at h;split at h;rename_i e;cases h;subst e;exact⟨λx B=>by(rw[hW.Mt]at B;cases B),ty,(0,0),heap_alloc_new w _⟩;obtain⟨l,i,fr,u⟩:=hW.g b ds h;exact⟨l,i,fr,(Below.heap_alloc w _ b (hW.Mg h)).trans u⟩;obtain⟨l,u⟩:=hW.h o x h;exact⟨by simp;omega,u.mono y (Below.heap_alloc w _ o l)⟩;simp only[Env.add,upd]at h;split at h;rename_i e;cases h;subst e;exact⟨cs,ty,(0,0),heap_alloc_new w _,rfl⟩;obtain⟨A,i,fr,l,u⟩:=hW.s o m h;exact⟨A,i,fr,(Below.heap_alloc w _ o (hW.Fj h)).trans l,u⟩;simp only[Env.add,upd]at h;split at h;rename_i e;exact .inr (.inr Om);exact .inl h
theorem Nl{pv:PV}{v:Value}(h:bG E pv v)(e:pv.one=true):v.oneCell'=true:=by
 cases h with
 |lit v=>cases v<;>first|rfl|(simp[PV.one]at e)
 |junk v=>simp[PV.one]at e
 |agg vs=>simp[PV.one]at e
 |tup vs=>simp[PV.one]at e
 |_=>rfl
theorem CU{pv:PV}{v:Value}(h:bG E pv v)(l:pv.cells.all PV.one=true) :
  v.cells.size=Z' pv.cells/\(∀u∈v.cells.toList,u.oneCell'=true)/\∀(j:Nat) q u,pv.cells[j]?=some q->v.cells[j]?=some u->bG E q u:=by
 by_cases e:∃cs,pv=.agg cs
 ·obtain⟨cs,rfl⟩:=e;cases h with
  |agg vs A i B=>exact⟨A,i,B⟩
 ·have y:pv.cells=[pv]:=by cases pv<;>first|rfl|(exact absurd ⟨_,rfl⟩ e)
  rw[y]at l ⊢;have i:v.oneCell'=true:=Nl h (by simpa using l);have D:v.cells=#[v]:=by cases v<;>first|rfl|(simp[Value.oneCell']at i)
  rw[D];refine⟨rfl,by simpa using i,λj q u hq x=>?_⟩;cases j with
  |zero=>simp at hq x;subst hq;subst x;exact h
  |succ j=>simp at hq
theorem u9{c:Sc}{p q:PV}{x y:Value}(u:bG E p x)(A:bG E q y){b:Bool}(h:PV.eq1 c p q=some b){t:TypeId}(i:T.scalar t=some c)(d:Nat) :
  (Op.equalIn (d+1) t x y).run T.P w=.ok b w:=by
 unfold Tbl.scalar at i;unfold PV.eq1 at h;split at h;cases u;cases A;split at h;rename_i e;subst e;cases h;split at i<;>cases i;rename_i B l;exact run_equalIn_int w d t _ B _ _ l;cases h;cases u;cases A;cases h;split at i<;>cases i;rename_i l;exact run_equalIn_bool w d t _ _ l
 ·cases u with
  |str s=>
  cases A with
  |str s'=>
  cases h;split at i<;>cases i;rename_i l;rw[run_equalIn_string w d t s s' l,ByteArray.toList_eq,ByteArray.toList_eq]
 cases h
theorem QK{t:TypeId}{c:Sc}(i:T.scalar t=some c)(cs:Array Value)(k:Nat)(v:Value)(l:cs[k]?=some v):(part t cs k).run T.P w=.ok v w:=by
 have e:(isAgg t).run T.P w=.ok false w:=by unfold Tbl.scalar at i;split at i<;>cases i<;>(rename_i u;simp[isAgg,run_underlying u])
 simp[part,e,l]
theorem UK(d:Nat)(vs i:Array Value):∀(l:List Field)(B:List Sc)(k:Nat)(xs ys:V_)(b:Bool),T.xX k l=some B->PV.eqs B xs ys=some b ->
  (∀(j:Nat) q u,xs[j]?=some q->vs[k+j]?=some u->bG E q u)->(∀(j:Nat) q u,ys[j]?=some q->i[k+j]?=some u->bG E q u) ->
  vs.size=k+Z' xs->i.size=k+Z' ys->(Op.eqFields (d+1) vs i l).run T.P w=.ok b w
 |[],B,k,xs,ys,b,e,he,K,L,M,N=>by simp[Tbl.xX]at e;subst e;cases xs<;>cases ys<;>simp[PV.eqs]at he;subst he;simp[Op.eqFields]
 |f::l,B,k,xs,ys,b,e,he,K,L,M,N=>by
  simp only[Tbl.xX]at e;split at e;rename_i c cs A J;split at e
  ·rename_i O;cases e;cases xs with
   |nil=>simp[PV.eqs]at he
   |cons x xs=>
   cases ys with
   |nil=>simp[PV.eqs]at he
   |cons y ys=>
   simp only[PV.eqs]at he;simp only[atZ]at M N;have V:vs[k]?=some vs[k]:=awR Om;have U:i[k]?=some i[k]:=awR Om;have R:bG E x vs[k]:=K 0 x _ rfl aZ;have S:bG E y i[k]:=L 0 y _ rfl aZ;simp only[Op.eqFields];rw[aF O.1];simp only[Sem.run_bind,O.2,QK A vs k _ V,QK A i k _ U,Result.andThen_ok];split at he;rename_i D;rw[u9 R S D A d];simp only[Result.andThen_ok,asY,auQ,if_false];refine UK d vs i l cs (k+1) xs ys b J he (λj q u a c=>K (j+1) q u (by simpa using a) (by rw[<-c];congr 1;omega)) (λj q u a c=>L (j+1) q u (by simpa using a) (by rw[<-c];congr 1;omega)) Om Om;rename_i D;rw[u9 R S D A d];simp only[Result.andThen_ok,atH,if_true,Sem.run_pure];split at he;cases he;rfl;cases he;cases he
  cases e;cases e
theorem Qt(neg:Bool)(a b:Bool){t:TypeId}(i l:Operand)(e:T.P.underlying t=some .bool) :
  (do eqGuard (if neg then .neq else .eql) t i l (.bool a) (.bool b);binOp (if neg then .neq else .eql) t (.bool a) (.bool b):Sem Value).run T.P w=.ok (.bool ((a==b) != neg)) w:=by
 cases neg;simp[eqGuard,run_eql_bool w t a b e];simp[eqGuard,run_neq_bool w t a b e]
theorem Hd(neg:Bool){pv:PV}{v:Value}(J:bG E pv v){b:Bool}(hb:pv.tN=some b){t e:TypeId}(x y:Operand)(u:T.P.underlying t=some (.slice e)) :
  (do eqGuard (if neg then .neq else .eql) t x y v (.slice none 0 0);binOp (if neg then .neq else .eql) t v (.slice none 0 0):Sem Value).run T.P w=.ok (.bool (b != neg)) w:=by
 have i:∀(a:Option Addr)(l c:Nat),b=a.isNone->v=.slice a l c->(do eqGuard (if neg then .neq else .eql) t x y v (.slice none 0 0);binOp (if neg then .neq else .eql) t v (.slice none 0 0):Sem Value).run T.P w=.ok (.bool (b != neg)) w:=by intro a l c A B;subst A B;cases neg;simp only[auQ,if_false,binOp];simp[eqGuard,run_equal_slice_nil w t e a l c u];simp only[if_true,binOp];simp[eqGuard,run_equal_slice_nil w t e a l c u]
 cases J<;>simp only[PV.tN]at hb<;>try cases hb
 exact i _ _ _ rfl rfl
 ·rename_i rows _ _ _ _ _ _ D _ _;cases rows with
  |nil=>cases hb
  |cons r rs =>cases hb;obtain⟨K,rfl,-⟩:=D aZ;exact i _ _ _ rfl rfl
 exact i _ _ _ rfl rfl
theorem L7(neg:Bool){K:List Sc}{xs ys:V_}{x y:Value}(V:bG E (.agg xs) x)(W:bG E (.agg ys) y){b:Bool}(hb:PV.eqs K xs ys=some b){t:TypeId}(L M:Operand)
  (e:T.flat t=some K):(do eqGuard (if neg then .neq else .eql) t L M x y;binOp (if neg then .neq else .eql) t x y:Sem Value).run T.P w=.ok (.bool (b != neg)) w:=by
 cases V with
 |agg vs R X U=>
 cases W with
 |agg l D S J=>
 unfold Tbl.flat at e;split at e;rename_i N O;split at e;rename_i B;have i:T.P.fieldsOf t=N:=by simp[Program.fieldsOf,O]
 have he:=UK (w:=w) 9998 vs l N.toList K 0 xs ys b e hb (λj q u a c=>U j q u a (by simpa using c)) (λj q u a c=>J j q u a (by simpa using c)) (by simpa using R) (by simpa using D);have A:=run_equalIn_struct w 9999 t vs l (by rw[i];exact O) B.1;rw[i,he]at A;cases neg;simp[run_eqGuard_agg w .eql t L M vs l B.2,run_eql_struct,A];simp[run_eqGuard_agg w .neq t L M vs l B.2,run_neq_struct,A];cases e;cases e
end
open Go Go.RowKit
def rP(E:Env)(cs:V_)(vs:Array Value):Prop:=
 vs.size=Z' cs/\(∀v∈vs.toList,v.oneCell'=true)/\∀(j:Nat) pv v,cs[j]?=some pv->vs[j]?=some v->bG E pv v
def i6(vs:Array Value)(c:Nat):List Value->Array Value
 |[]=>vs
 |u::e=>i6 (vs.setIfInBounds c u) (c+1) e
theorem RA(off:Nat):∀(e:List Value)(k:Nat)(vs:Array Value),(e.zipIdx k).foldl (λcs (x:Value × Nat)=>cs.setIfInBounds (off+x.2) x.1) vs=i6 vs (off+k) e
 |[],_,_=>rfl
 |u::e,k,vs=>by simp only[List.zipIdx_cons,List.foldl_cons,i6];rw[RA off e (k+1)];rfl
theorem JR:∀(ps:V_)(c:Nat)(r:V_),(setCells r c ps).length=Z' r
 |[],_,_=>rfl
 |p::ps,c,r=>by simp[setCells,JR ps]
theorem rP.apO{E:Env}{cs:V_}{vs:Array Value}(h:rP E cs vs){c:Nat}{p:PV}{u:Value}(r:bG E p u)(l:u.oneCell'=true):rP E (cs.set c p) (vs.setIfInBounds c u):=by
 obtain⟨x,y,A⟩:=h;refine⟨by simp[x],λv i=>?_,λj pv v hp i=>?_⟩;simp only[Array.toList_setIfInBounds]at i;rcases axB i with i|rfl
 exact y v i;exact l;rw[avY]at hp;rw[Array.getElem?_setIfInBounds]at i;split at hp;rename_i e;subst e;rw[aF rfl]at i;split at hp;rename_i B;rw[aF Om]at i;cases hp;cases i;exact r;cases hp;rename_i e;rw[aC e]at i;exact A j pv v hp i
theorem rP.setCells{E:Env}:∀(ps:V_)(e:List Value)(c:Nat)(cs:V_)(vs:Array Value),rP E cs vs->Z' e=Z' ps->(∀u∈e,u.oneCell'=true) ->
  (∀(j:Nat) p u,ps[j]?=some p->e[j]?=some u->bG E p u)->rP E (setCells cs c ps) (i6 vs c e)
 |[],[],_,_,_,h,_,_,_=>h
 |p::ps,u::e,c,cs,vs,h,i,l,y=>by simp only[PM.setCells,i6];exact rP.setCells ps e (c+1) _ _ (h.apO (y 0 p u rfl rfl) (l u aZ)) (by simpa using i) (λx A=>l x (by simp[A])) (λj q x a b=>y (j+1) q x (by simpa using a) (by simpa using b))
 |[],u::e,_,_,_,_,i,_,_=>by simp at i
 |p::ps,[],_,_,_,_,i,_,_=>by simp at i
theorem VM{E:Env}:∀{vs:List Value}{ps:V_},ofValues vs=some ps->Z' ps=Z' vs/\∀(j:Nat) p v,ps[j]?=some p->vs[j]?=some v->bG E p v
 |[],ps,h=>by simp[ofValues]at h;subst h;simp
 |v::vs,ps,h=>by
  simp only[ofValues]at h;split at h
  ·rename_i p l hp hq;cases h;obtain⟨e,i⟩:=VM (E:=E) hq;refine⟨by simp[e],λj q u a b=>?_⟩;cases j with
   |zero=>simp at a b;subst a;subst b;exact CI hp
   |succ j=>exact i j q u (by simpa using a) (by simpa using b)
  cases h
theorem VL:∀{vs:List Value}{ps:V_},ofValues vs=some ps->∀v∈vs,v.oneCell'=true
 |[],_,_,v,hv=>by simp at hv
 |u::vs,ps,h,v,hv=>by
  simp only[ofValues]at h;split at h;rename_i p e hp hq;rcases atG.1 hv with rfl|hv
  unfold ofValue at hp;split at hp<;>first|rfl|cases hp
  exact VL hq v hv;cases h
section
variable {ds:List Deferred} {T:Tbl} {n:Nat} {E:Env} {F:PF} {H:PH} {a:Act} {w:World}
theorem SG{t:TypeId}{z:V_}(h:T.zero t=some z):∃i e,T.P.info? t=some i/\i.zero=some e/\rP E z e.cells:=by
 unfold Tbl.zero at h;cases hi:T.P.info? t with
 |none=>simp[hi]at h
 |some i=>
  cases l:i.zero with
  |none=>simp[hi,l]at h
  |some e =>simp only[hi,l,awQ]at h;obtain⟨u,x⟩:=VM (E:=E) h;exact⟨i,e,rfl,l,by simpa using u.symm,VL h,λj p v a b=>x j p v a (by simpa using b)⟩
theorem OG{place:Nat->Option (Nat × Nat)}(J:eX ds n E F a)(K:E.num=T.num):∀(parts:List (Nat × Operand)) (pl:List (Nat × Nat × aP)) (cs out:V_) (vs:Array Value),
  T.partsOf place parts=some pl->qN cs F pl=some out->rP E cs vs->∃A,Instr.fill place vs (parts.map λ(i,x)=>(i,a.eval x))=some A/\rP E out A
 |[],pl,cs,out,vs,l,e,y=>by simp[Tbl.partsOf]at l;subst l;simp[qN]at e;subst e;exact⟨vs,rfl,y⟩
 |(i,x)::rest,pl,cs,out,vs,l,e,y=>by
  simp only[Tbl.partsOf]at l;split at l;rename_i off size p ps hp S B;cases l;simp only[qN]at e;split at e;rename_i v R;split at e;rename_i N;obtain⟨D,L,M⟩:=CU (bL S R J K) N.2.2;obtain⟨A,g1,g2⟩:=OG J K rest ps _ out _ B e (rP.setCells v.cells (a.eval x).cells.toList off cs vs y (by simpa using D) L (λj q u hq O=>M j q u hq (by simpa using O)));refine⟨A,?_,g2⟩;simp only[atU,Instr.fill,hp];rw[aC (by simp;rw[D,y.1];omega)];have U:Array.foldl (λ(cs:Array Value)(x:Value × Nat)=>cs.setIfInBounds (off+x.2) x.1) vs (a.eval x).cells.zipIdx=i6 vs off (a.eval x).cells.toList:=by rw[<-Array.foldl_toList,Array.toList_zipIdx];exact RA off _ 0 vs
  exact U ▸ g1;cases e;cases e;cases l
theorem Ep(u:Array Field)(e:List (Nat × Nat))(h:u.toList.mapM (λf=>(T.P.info? f.type).map λi=>(f.offset,i.size))=some e)(i:Nat) :
  e[i]?=T.place u i:=by
 have x:∀(l:List Field)(ps:List (Nat × Nat)) (i:Nat),l.mapM (λf=>(T.P.info? f.type).map λi=>(f.offset,i.size))=some ps ->
   ps[i]?=match l[i]? with|some f=>(T.size f.type).map (f.offset,·)|none=>none:=by
  intro l
  induction l with
  |nil=>intro ps i h;simp at h;subst h;simp
  |cons f l y=>
   intro ps i h;simp only[List.mapM_cons,Option.bind_eq_bind,Option.pure_def,awX]at h;obtain⟨p,hp,A,hq,h⟩:=h;cases h;cases i with
   |zero =>simp only[List.getElem?_cons_zero,Tbl.size];rw[<-hp];cases T.P.info? f.type<;>rfl
   |succ i=>simpa using y A i hq
 have:=x u.toList e i h;rw[this,Array.getElem?_toList];unfold Tbl.place;cases u[i]?<;>rfl
end
open Go Go.RowKit
section
variable {ds:List Deferred} {T:Tbl} {n:Nat} {E:Env} {F:PF} {H:PH} {a:Act} {w:World}
theorem ZL{t:TypeId}{parts:Array (Nat × Operand)}{z:V_}{pl:List (Nat × Nat × aP)}{out:V_}(X:T.zero t=some z)
  (hp:(∃D:Array Field,T.P.underlying t=some (.struct D)/\(D.toList.mapM (λf=>(T.P.info? f.type).map λi=>(f.offset,i.size))).isSome=true/\T.partsOf (T.place D) parts.toList=some pl) \/
   (∃k e s,T.P.underlying t=some (.array k e)/\T.size e=some s/\T.partsOf (λi=>some (i*s,s)) parts.toList=some pl))
  (V:qN z F pl=some out) (S:eX ds n E F a) (U:E.num=T.num) :
  ∃v,(Instr.build t (parts.map λ(i,x)=>(i,a.eval x))).run T.P w=.ok v w/\bG E (.agg out) v:=by
 obtain⟨Z,zv,J,K,M⟩:=SG (E:=E) X;rcases hp with⟨D,R,W,A⟩|⟨k,e,s,R,hs,A⟩
 obtain⟨l,L⟩:=Option.isSome_iff_exists.1 W;obtain⟨B,N,u⟩:=OG S U _ _ _ _ _ A V M;refine⟨.agg B,run_build w t _ B ?_,.agg B u.1 u.2.1 u.2.2⟩;simp only[Program.built,J,R,K,L];have O:(λ(x:Nat)=>l.toArray[x]?)=T.place D:=by funext i;rw[List.getElem?_toArray];exact Ep D l L i
 simp only[Array.toList_map];rw[O];exact N
 ·obtain⟨B,N,u⟩:=OG S U _ _ _ _ _ A V M;refine⟨.agg B,run_build w t _ B ?_,.agg B u.1 u.2.1 u.2.2⟩;unfold Tbl.size at hs;cases y:T.P.info? e with
  |none=>simp[y]at hs
  |some Y =>simp[y]at hs;subst hs;simp only[Program.built,J,R,K,y,Array.toList_map];exact N
theorem xw{t:TypeId}{s:Nat}(h:T.size t=some s):∃i,T.P.info? t=some i/\i.size=s:=by
 unfold Tbl.size at h;cases hi:T.P.info? t with
 |none=>simp[hi]at h
 |some i=>exact⟨i,rfl,by simpa[hi]using h⟩
theorem lP{t:TypeId}{s:Nat}(h:T.size t=some s):(sizeOf t).run T.P w=.ok s w:=by
 obtain⟨i,hi,rfl⟩:=xw h;simp[sizeOf,typeInfo,hi]
theorem FH{t:TypeId}{b:Bool}(h:T.isAgg t=some b):(isAgg t).run T.P w=.ok b w:=by
 unfold Tbl.isAgg at h;split at h;rename_i e;cases h;simp[isAgg,run_underlying e];rename_i e;cases h;simp[isAgg,run_underlying e];rename_i d i l e;cases h;cases d<;>first
  |exact(i _ rfl).elim
  |exact(l _ _ rfl).elim
  |(simp[isAgg,run_underlying e];done)
 cases h
theorem nj{t:TypeId}{pv e:PV}{v:Value}(y:T.isAgg t=some false)(hW:bZ E H w)(A:bG E pv v)(h:loadCells H pv 1=some [e]) :
  ∃u,(Instr.loadAt t v).run T.P w=.ok u w/\bG E e u:=by
 obtain⟨b,off,rfl,-,B,l,D,i,x⟩:=uM hW A h
 match B,l with
 |[u],_ =>refine⟨u,?_,x 0 e u rfl rfl⟩;have:=i 0 u rfl;simp only[auI]at this;simp[Instr.loadAt,Instr.sureAddr,loadVar,FH y,this]
theorem an{t:TypeId}{k:Nat}{pv:PV}{cs:V_}{v:Value}(K:T.isAgg t=some true)(J:T.size t=some k)(hW:bZ E H w)(L:bG E pv v)(h:loadCells H pv k=some cs) :
  ∃u,(Instr.loadAt t v).run T.P w=.ok u w/\bG E (.agg cs) u:=by
 obtain⟨b,off,rfl,i,x,y,A,B,D⟩:=uM hW L h;have e:=run_loadCells_list (P:=T.P) w ⟨b,off,none⟩ x (λj u l=>by rw[add_plain];exact B j u l);refine⟨.agg x.toArray,?_,.agg x.toArray (by simp[y,i]) (by simpa using A) (λj q u hq l=>D j q u hq (by simpa using l))⟩;rw[y]at e;simp[Instr.loadAt,Instr.sureAddr,loadVar,FH K,lP J,e]
end
open Go Go.RowKit
section
variable {ds:List Deferred} {T:Tbl} {n:Nat} {E:Env} {F:PF} {H:PH} {a:Act} {w:World}
theorem lk{t e:TypeId}(h:T.P.underlying t=some (.slice e)):T.P.elem t=e/\T.P.underlying t=some (.slice (T.P.elem t)):=by
 have:T.P.elem t=e:=by simp[Program.elem,h]
 exact⟨this,by rw[this];exact h⟩
theorem Lz{t e:TypeId}{k:Nat}(h:T.P.underlying t=some (.array k e)):T.P.elem t=e/\T.P.arrayLen t=k/\T.P.underlying t=some (.array (T.P.arrayLen t) (T.P.elem t)):=by
 have i:T.P.elem t=e:=by simp[Program.elem,h]
 have l:T.P.arrayLen t=k:=by simp[Program.arrayLen,h]
 exact⟨i,l,by rw[i,l];exact h⟩
theorem xp{cs:V_}{b off:Nat}(h:bG E (.aU cs) (.pointer (some ⟨b,off,none⟩)))(d:Nat):bG E (.aU (cs.drop d)) (.pointer (some ⟨b,off+d,none⟩)):=by
 cases h with
 |aU u x i e l =>refine .aU (λj=>u (d+j)) rfl (λj pv hp=>?_) (λj=>e _) (λj pv hp=>l (d+j) pv (by rw[<-hp,awM]));have:=i (d+j) pv (by rw[<-hp,awM]);simp only at this ⊢;rw[<-this];congr 1;omega
theorem WD{cs:V_}{v:Value}(h:bG E (.aU cs) v):∃b off,v=.pointer (some ⟨b,off,none⟩):=by
 cases h with
 |aU u e x l y=>rename_i i;exact⟨i.block,i.off,by rw[<-sO e]⟩
theorem acK{t e:TypeId}{s:Nat}{rows:P2_}{v:Value}{k:IntKind}{i:Int}{r:V_}(U:T.P.underlying t=some (.slice e))(S:T.size e=some s)
  (V:bG E (.sl s rows) v) (K:0<=i) (x:rows[i.toNat]?=some r):∃u,(Instr.indexAt t v (.int k i)).run T.P w=.ok u w/\bG E (.aU r) u:=by
 obtain⟨L,M⟩:=lk U;cases V with
 |sl u B D J N R l=>
 rename_i W cap;have hlt:i.toNat<Z' rows:=by
  rcases atY i.toNat rows.length with h|h
  exact h;rw[auE h]at x;cases x
 obtain⟨A,rfl,y,O⟩:=N (by intro h;subst h;simp at hlt);rw[sO y];refine⟨.pointer (some ⟨A.block,A.off+i.toNat*s,none⟩),?_,?_⟩;rw[run_indexAt_slice w t _ _ _ _ _ M,aF ⟨K,by omega⟩,L,lP S,Result.andThen_ok,add_plain];refine .aU (u i.toNat) rfl (λj pv hp=>?_) (λj=>R _ _) (λj pv hp=>l i.toNat j pv (by simp[at2,x,hp]));simpa using O i.toNat j pv (by simp[at2,x,hp])
theorem Wj{t e:TypeId}{o s off len:Nat}{v:Value}{k:IntKind}{i:Int}(R:T.P.underlying t=some (.slice e))(N:T.size e=some s)
  (S:bG E (.osl o s off len) v) (K:0<=i) (hi:i<len):∃u,(Instr.indexAt t v (.int k i)).run T.P w=.ok u w/\bG E (.ptr o s (off+i.toNat) 0) u:=by
 obtain⟨L,M⟩:=lk R;cases S with
 |osl hb O l D J U B=>
 rename_i cap m x;have A:x.off=off*s:=by
  rcases l with h|h
  omega;exact h
 have y:x=⟨o,off*s,none⟩:=by cases x;simp_all
 subst y;refine⟨_,?_,.ptr o s _ 0⟩;rw[run_indexAt_slice w t _ _ _ _ _ M,aF ⟨K,hi⟩,L,lP N,Result.andThen_ok,add_plain,<-auM,auI]
theorem mr{t e:TypeId}{k s:Nat}{v:Value}{M:IntKind}{i:Int}{y pv:PV}(L:T.P.underlying t=some (.array k e))(K:T.size e=some s)
  (x:bG E y v) (A:0<=i) (hi:i<k) (l:(∃o s0 r c,y=.ptr o s0 r c/\pv=.ptr o s0 r (c+i.toNat*s))\/(∃cs,y=.aU cs/\pv=.aU (cs.drop (i.toNat*s)))) :
  ∃u,(Instr.indexAt t v (.int M i)).run T.P w=.ok u w/\bG E pv u:=by
 obtain⟨B,D,J⟩:=Lz L;rcases l with⟨o,s0,r,c,rfl,rfl⟩|⟨cs,rfl,rfl⟩
 cases x;refine⟨_,?_,.ptr o s0 r _⟩;rw[run_indexAt_array w t _ _ _ J,D,aF ⟨A,hi⟩,B,lP K,Result.andThen_ok,add_plain,avZ];obtain⟨b,off,rfl⟩:=WD x;refine⟨_,?_,xp x _⟩;rw[run_indexAt_array w t _ _ _ J,D,aF ⟨A,hi⟩,B,lP K,Result.andThen_ok,add_plain]
theorem UN{t:TypeId}{y:Array Field}{f:Nat}{e:Field}{s:Nat}{v:Value}{x pv:PV}(D:T.P.underlying t=some (.struct y))(A:y[f]?=some e)(B:T.size e.type=some (s+1))
  (l:bG E x v) (i:(∃o s0 r c,x=.ptr o s0 r c/\pv=.ptr o s0 r (c+e.offset))\/(∃cs,x=.aU cs/\pv=.aU (cs.drop e.offset))) :
  ∃u,(Instr.fieldAt t v f).run T.P w=.ok u w/\bG E pv u:=by
 rcases i with⟨o,s0,r,c,rfl,rfl⟩|⟨cs,rfl,rfl⟩
 cases l;refine⟨_,?_,.ptr o s0 r _⟩;simp[Instr.fieldAt,run_underlying D,A,Instr.sureAddr,fieldPlace,lP B,add_plain,avZ];obtain⟨b,off,rfl⟩:=WD l;refine⟨_,?_,xp l _⟩;simp[Instr.fieldAt,run_underlying D,A,Instr.sureAddr,fieldPlace,lP B,add_plain]
theorem En{t:TypeId}{cs:Array Value}{k:Nat}{u:Value}(e:T.isAgg t=some false)(h:cs[k]?=some u):(part t cs k).run T.P w=.ok u w:=by
 simp[part,FH e,h]
theorem ww{t:TypeId}{cs:Array Value}{k s:Nat}(i:T.isAgg t=some true)(e:T.size t=some s):(part t cs k).run T.P w=.ok (.agg (cs.extract k (k+s))) w:=by
 simp[part,FH i,lP e]
theorem Br{cs:V_}{vs:Array Value}{k:Nat}{pv:PV}(i:vs.size=Z' cs)(e:∀(j:Nat) pv v,cs[j]?=some pv->vs[j]?=some v->bG E pv v)(h:cs[k]?=some pv) :
  ∃u,vs[k]?=some u/\bG E pv u:=by
 have hlt:k<Z' cs:=by
  rcases atY k cs.length with h'|h'
  exact h';rw[auE h']at h;cases h
 exact⟨vs[k]'Om,awR Om,e k pv _ h (awR Om)⟩
theorem Bs{cs:V_}{vs:Array Value}{k s:Nat}(x:vs.size=Z' cs)(i:∀v∈vs.toList,v.oneCell'=true)(l:∀(j:Nat) pv v,cs[j]?=some pv->vs[j]?=some v->bG E pv v)(h:k+s<=Z' cs) :
  bG E (.agg ((cs.drop k).take s)) (.agg (vs.extract k (k+s))):=by
 refine .agg _ (by simp;omega) (λv e=>i v ?_) (λj pv v hp e=>?_);simp only[Array.toList_extract]at e;exact List.mem_of_mem_drop (awU e);rw[awI]at hp;split at hp;rename_i u;rw[awM]at hp;refine l (k+j) pv v hp ?_;rw[Array.getElem?_extract]at e;split at e;exact e;cases e;cases hp
theorem Qw{t:TypeId}{l:Array Field}{f:Nat}{e:Field}{cs:V_}{v:Value}{pv:PV}(D:T.P.underlying t=some (.struct l))(x:l[f]?=some e)(y:T.isAgg e.type=some false)
  (K:bG E (.agg cs) v) (h:cs[e.offset]?=some pv):∃u,(Instr.field t v f).run T.P w=.ok u w/\bG E pv u:=by
 cases K with
 |agg vs A L B=>
 obtain⟨u,J,i⟩:=Br A B h;exact⟨u,by simp[Instr.field,run_underlying D,x,asAgg,En y J],i⟩
theorem L8{t:TypeId}{i:Array Field}{f:Nat}{e:Field}{cs:V_}{s:Nat}{v:Value}(J:T.P.underlying t=some (.struct i))(x:i[f]?=some e)(y:T.isAgg e.type=some true)(D:T.size e.type=some s)
  (K:bG E (.agg cs) v) (h:e.offset+s<=Z' cs):∃u,(Instr.field t v f).run T.P w=.ok u w/\bG E (.agg ((cs.drop e.offset).take s)) u:=by
 cases K with
 |agg vs A l B=>exact⟨_,by simp[Instr.field,run_underlying J,x,asAgg,ww y D],Bs A l B h⟩
theorem Mv{t e:TypeId}{k s:Nat}{g:Bool}{cs:V_}{v:Value}{O:IntKind}{i:Int}{pv:PV}(K:T.P.underlying t=some (.array k e))(y:T.size e=some s)(B:T.isAgg e=some g)
  (N:bG E (.agg cs) v) (A:0<=i) (hi:i<k) (h:(if g then(if i.toNat*s+s<=cs.length then some (.agg ((cs.drop (i.toNat*s)).take s))else none)else cs[i.toNat*s]?)=some pv) :
  ∃u,(Instr.index t v (.int O i)).run T.P w=.ok u w/\bG E pv u:=by
 cases N with
 |agg vs D L J=>
 cases g with
 |true =>simp only[if_true]at h;split at h;rename_i l;cases h;exact⟨_,by simp[Instr.index,asIntOf,run_underlying K,A,hi,lP y,ww B y],Bs D L J l⟩;cases h
 |false =>simp only[auQ,if_false]at h;obtain⟨u,M,x⟩:=Br D J h;exact⟨u,by simp[Instr.index,asIntOf,run_underlying K,A,hi,lP y,En B M],x⟩
theorem C8{t:TypeId}{l:List UInt8}{v:Value}{D:IntKind}{i:Int}{pv:PV}(A:T.P.underlying t=some .string)(B:bG E (.str l) v)(y:0<=i)(h:(l[i.toNat]?).map (λb=>PV.int .u8 b.toNat)=some pv) :
  ∃u,(Instr.index t v (.int D i)).run T.P w=.ok u w/\bG E pv u:=by
 cases B with
 |str s=>
 simp only[atB]at h;obtain⟨b,hb,rfl⟩:=h;have e:s[i.toNat]?=some b:=by
  have hlt:i.toNat<Z' s.data.toList:=by
   rcases atY i.toNat s.data.toList.length with h'|h'
   exact h';rw[auE h']at hb;cases hb
  have x:i.toNat<s.size:=by
   have J:Z' s.data.toList=s.size:=by rw[awC];rfl
   omega
  rw[getElem?_pos s i.toNat x];rw[asZ hlt]at hb;cases hb;rfl
 exact⟨_,by simp[Instr.index,asIntOf,run_underlying A,y,e],.int _ _⟩
theorem TO{x:Option Operand}{p:Option aP}{d m:Int}(e:T.opt x=some p)(h:bnd F d p=some m)(l:eX ds n E F a)(u:E.num=T.num) :
  (x=none/\m=d)\/∃o k,x=some o/\a.eval o=.int k m:=by
 cases x with
 |none =>simp[Tbl.opt]at e;subst e;simp[bnd]at h;exact .inl ⟨rfl,h.symm⟩
 |some o =>simp only[Tbl.opt,atB]at e;obtain⟨q,hq,rfl⟩:=e;simp only[bnd,awX]at h;obtain⟨pv,hp,hi⟩:=h;have r:=bL hq hp l u;unfold PV.intOf at hi;split at hi;cases hi;generalize i:a.eval o=ev at r;cases r;exact .inr ⟨o,_,rfl,i⟩;cases hi
theorem nY{isS:Bool}{lo hi mx:Option Operand}{pl ph pm:Option aP}{len cap:Nat}{l h:Int}(O:T.opt lo=some pl)(N:T.opt hi=some ph)(e:T.opt mx=some pm)
  (L:bnd F 0 pl=some l) (K:bnd F len ph=some h) (J:len<=cap) (R:0<=l) (S:l<=h) (U:h<=len) (y:pm=none\/(hi≠none/\bnd F 0 pm=some h)) (i:eX ds n E F a) (u:E.num=T.num) :
  ∃m,(Instr.sliceBounds isS len cap (lo.map a.eval) (hi.map a.eval) (mx.map a.eval)).run T.P w=.ok (l.toNat,h.toNat,m) w/\h.toNat<=m/\m<=cap:=by
 have D:=TO O L i u;have B:=TO N K i u;rcases y with rfl|⟨hne,bm⟩
 have A:mx=none:=by
  cases mx with
  |none=>rfl
  |some x =>simp only[Tbl.opt,atB]at e;obtain⟨q,-,hq⟩:=e;cases hq
 subst A;refine⟨cap,?_,by omega,asU _⟩;rcases D with⟨rfl,rfl⟩|⟨ol,k1,rfl,e1⟩<;>rcases B with⟨rfl,rfl⟩|⟨oh,k2,rfl,e2⟩
 simp[Instr.sliceBounds];simp only[Instr.sliceBounds,Option.map_none,atO,e2,Sem.run_bind,Sem.run_pure,Result.andThen_ok,run_sliceBound w k2 h cap _ Om Om];rfl;simp only[Instr.sliceBounds,Option.map_none,atO,e1,Sem.run_bind,Sem.run_pure,Result.andThen_ok,run_sliceBound w k1 l len _ Om Om];simp;simp only[Instr.sliceBounds,Option.map_none,atO,e1,e2,Sem.run_bind,Sem.run_pure,Result.andThen_ok,run_sliceBound w k2 h cap _ Om Om,run_sliceBound w k1 l h.toNat _ Om Om];have km:=TO e bm i u;rcases km with⟨rfl,M⟩|⟨om,k3,rfl,e3⟩
 simp[Tbl.opt]at e;subst e;refine⟨cap,?_,by omega,asU _⟩;rcases B with⟨rfl,rfl⟩|⟨oh,k2,rfl,e2⟩
 exact absurd rfl hne;rcases D with⟨rfl,rfl⟩|⟨ol,k1,rfl,e1⟩
 simp only[Instr.sliceBounds,Option.map_none,atO,e2,Sem.run_bind,Sem.run_pure,Result.andThen_ok,run_sliceBound w k2 h cap _ Om Om];rfl;simp only[Instr.sliceBounds,Option.map_none,atO,e1,e2,Sem.run_bind,Sem.run_pure,Result.andThen_ok,run_sliceBound w k2 h cap _ Om Om,run_sliceBound w k1 l h.toNat _ Om Om];rcases B with⟨rfl,rfl⟩|⟨oh,k2,rfl,e2⟩
 exact absurd rfl hne;refine⟨h.toNat,?_,asU _,by omega⟩;rcases D with⟨rfl,rfl⟩|⟨ol,k1,rfl,e1⟩
 simp only[Instr.sliceBounds,Option.map_none,atO,e2,e3,Sem.run_bind,Sem.run_pure,Result.andThen_ok,run_sliceBound w k3 h cap _ Om Om,run_sliceBound w k2 h h.toNat _ Om Om];rfl;simp only[Instr.sliceBounds,Option.map_none,atO,e1,e2,e3,Sem.run_bind,Sem.run_pure,Result.andThen_ok,run_sliceBound w k3 h cap _ Om Om,run_sliceBound w k2 h h.toNat _ Om Om,run_sliceBound w k1 l h.toNat _ Om Om]
end
open Go Go.RowKit
section
variable {ds:List Deferred} {T:Tbl} {n:Nat} {E:Env} {F:PF} {H:PH} {a:Act} {w:World}
theorem I2{rows:P2_}{l h i j:Nat}{pv:PV}(e:at2 ((rows.take h).drop l) i j=some pv):at2 rows (l+i) j=some pv:=by
 unfold at2 at *
 rw[awM,awI]at e;split at e;exact e;simp at e
theorem BU{t e:TypeId}{s l h m len cap:Nat}{i:Option Addr}{lo hi mx:Option Value}(x:T.P.underlying t=some (.slice e))(u:T.size e=some s)
  (hb:(Instr.sliceBounds true len cap lo hi mx).run T.P w=.ok (l,h,m) w) :
  (Instr.sliceAt t (.slice i len cap) lo hi mx).run T.P w=.ok (.slice (if m=l then i else i.map (·.add (l*s))) (h-l) (m-l)) w:=by
 simp[Instr.sliceAt,Instr.slice,run_underlying x,hb,lP u]
theorem LC {t e : TypeId} {s : Nat} {x : Value} {lo hi mx : Option Operand} {pl ph pm : Option aP} {len : Nat} {l h : Int} {px pv : PV} (ht : T.P.underlying t = some (.slice e)) (hs : T.size e = some s)
    (hl : T.opt lo = some pl) (hh : T.opt hi = some ph) (hm : T.opt mx = some pm) (hx : bG E px x) (bl : bnd F 0 pl = some l) (bh : bnd F len ph = some h)
    (hlen : (px = .aG /\ len = 0) \/ (∃ s0 rows, px = .sl s0 rows /\ len = rows.length) \/ (∃ o s0 off, px = .osl o s0 off len))
    (hpv : (pm = none /\ PV.slice s px l h none = some pv) \/ (hi ≠ none /\ ∃ m, bnd F 0 pm = some m /\ PV.slice s px l h (some m) = some pv)) (hA : eX ds n E F a) (hN : E.num = T.num) :
    ∃ v, (Instr.sliceAt t x (lo.map a.eval) (hi.map a.eval) (mx.map a.eval)).run T.P w = .ok v w /\ bG E pv v := by
  have hP : ∃ m0, PV.slice s px l h m0 = some pv /\ (m0 = none -> pm = none) /\ ∀ m, m0 = some m -> hi ≠ none /\ bnd F 0 pm = some m := by
    rcases hpv with ⟨h1, h2⟩ | ⟨h1, m, h2, h3⟩
    · exact ⟨none, h2, fun _ => h1, fun m hm => by cases hm⟩
    · exact ⟨some m, h3, fun h => (by cases h), fun m' hm' => by cases hm'; exact ⟨h1, h2⟩⟩
  obtain ⟨m0, hP, hn, hsm⟩ := hP;rcases hlen with ⟨rfl, rfl⟩ | ⟨s0, rows, rfl, rfl⟩ | ⟨o, s0, off, rfl⟩
  · simp only [PV.slice] at hP
    split at hP
    · rename_i hc
      cases hP;obtain ⟨rfl, rfl, hm0⟩ := hc;cases hx;obtain ⟨m, hb, hm1, hm2⟩ := nY (T := T) (E := E) (w := w) (isS := true) (len := 0) (cap := 0) hl hh hm bl bh (asU _) Om Om Om
        (by rcases hm0 with rfl | rfl
            · exact .inl (hn rfl)
            · exact .inr (hsm 0 rfl)) hA hN
      have hmz : m = 0 := Om;subst hmz;refine ⟨_, BU ht hs hb, ?_⟩;simp;exact .aG
    · cases hP
  · simp only [PV.slice] at hP
    split at hP
    · rename_i hc
      cases hP;obtain ⟨rfl, h0, h1, h2, hm0⟩ := hc;cases hx with
      | sl u hcap asI arN ha ho asK =>
      rename_i a0 cap;obtain ⟨m, hb, hm1, hm2⟩ := nY (T := T) (E := E) (w := w) (isS := true) (len := rows.length) (cap := cap) hl hh hm bl bh hcap h0 h1 h2
        (by rcases hm0 with rfl | rfl
            · exact .inl (hn rfl)
            · exact .inr (hsm h rfl)) hA hN
      refine ⟨_, BU ht hs hb, ?_⟩;have hlen : ((rows.take h.toNat).drop l.toNat).length = h.toNat - l.toNat := by rw [auU, atF]; omega
      rw [<- hlen];refine .sl (fun i j => u (l.toNat + i) j) (by rw [hlen]; omega) Om (fun r hr => arN r (awU (List.mem_of_mem_drop hr))) (fun hne => ?_) (fun i j => ho _ _) (fun i j pv hp => asK _ _ pv (I2 hp));have hpos : 0 < ((rows.take h.toNat).drop l.toNat).length := List.length_pos_iff.2 hne;rw [hlen] at hpos;obtain ⟨ad, rfl, hsp, hc⟩ := ha (by intro e; subst e; simp at h2; omega);rw [aC Om];refine ⟨⟨ad.block, ad.off + l.toNat * s0, none⟩, ?_, rfl, fun i j pv hp => ?_⟩
      · rw [atO, sO hsp, add_plain]
      · have := hc (l.toNat + i) j pv (I2 hp)
        show E.cell ad.block (ad.off + l.toNat * s0 + i * s0 + j) = _;rw [<- this];congr 1;rw [auM]; omega
    · cases hP
  · simp only [PV.slice] at hP
    split at hP
    · rename_i hc
      cases hP;obtain ⟨rfl, h0, h1, h2, hm0⟩ := hc;cases hx with
      | osl hb0 hsp asL hlen asI hnn asB =>
      rename_i cap N ad;obtain ⟨m, hb, hm1, hm2⟩ := nY (T := T) (E := E) (w := w) (isS := true) (len := len) (cap := cap) hl hh hm bl bh hlen h0 h1 h2
        (by rcases hm0 with rfl | rfl
            · exact .inl (hn rfl)
            · exact .inr (hsm h rfl)) hA hN
      refine ⟨_, BU ht hs hb, ?_⟩;by_cases hml : m = l.toNat
      · rw [aF hml]
        have e1 : h.toNat - l.toNat = 0 := Om;have e2 : m - l.toNat = 0 := Om;rw [e1, e2];refine .osl hb0 hsp (.inl rfl) (asU _) (by simp [maxLen]) hnn ?_;have : (off + l.toNat) * s0 <= off * s0 + cap * s0 := by rw [auM]; exact Nat.add_le_add_left (auO _ Om) _
        omega
      · rw [aC hml, atO, sO hsp, add_plain]
        refine .osl hb0 rfl ?_ Om Om hnn ?_
        · rcases asL with h | h
          · exact .inl Om
          · exact .inr (by simp only [h, auM])
        · have : (off + l.toNat) * s0 + (m - l.toNat) * s0 <= off * s0 + cap * s0 := by rw [<- auM, <- auM];exact auO _ Om
          omega
    · cases hP
theorem ug{t:TypeId}{x:Value}{lo hi:Option Operand}{pl ph:Option aP}{str:List UInt8}{l h:Int}(R:T.P.underlying t=some .string)
  (M:T.opt lo=some pl) (L:T.opt hi=some ph) (S:bG E (.str str) x) (A:bnd F 0 pl=some l) (u:bnd F str.length ph=some h) (B:0<=l) (D:l<=h) (y:h<=Z' str)
  (J:eX ds n E F a) (K:E.num=T.num) :
  ∃v,(Instr.sliceAt t x (lo.map a.eval) (hi.map a.eval) none).run T.P w=.ok v w/\bG E (.str ((str.take h.toNat).drop l.toNat)) v:=by
 cases S with
 |str s=>
 have i:Z' s.data.toList=s.size:=by rw[awC];rfl
 rw[i]at u y;obtain⟨m,hb,N,O⟩:=nY (T:=T) (E:=E) (w:=w) (isS:=false) (len:=s.size) (cap:=s.size) (mx:=none) (pm:=none) M L rfl A u (asU _) B D y (.inl rfl) J K;simp only[Option.map_none]at hb;refine⟨.string (s.extract l.toNat h.toNat),?_,?_⟩;simp[Instr.sliceAt,Instr.slice,run_underlying R,hb];have e:(s.data.toList.take h.toNat).drop l.toNat=(s.extract l.toNat h.toNat).data.toList:=by rw[Lib.extract_data,List.drop_take]
 rw[e];exact .str _
theorem kr(s:Nat):∀(n:Nat)(cs:V_),(chunks s n cs).length=n
 |0,_=>rfl
 |n+1,cs=>by simp[chunks,kr s n]
theorem ku{s:Nat}:∀{n:Nat}{cs:V_},n*s<=Z' cs->∀r∈chunks s n cs,Z' r=s
 |0,_,_,r,hr=>by simp[chunks]at hr
 |n+1,cs,h,r,hr=>by
  rw[auM,Nat.one_mul]at h;simp only[chunks,atG]at hr;rcases hr with rfl|hr
  rw[atF];omega;exact ku (by rw[auU];omega) r hr
theorem TW{s:Nat}:∀{n:Nat}{cs:V_}{i j:Nat}{pv:PV},at2 (chunks s n cs) i j=some pv->cs[i*s+j]?=some pv
 |0,_,i,j,pv,h=>by simp[chunks,at2]at h
 |n+1,cs,0,j,pv,h=>by simp only[chunks,at2,List.getElem?_cons_zero,awQ,awI]at h;split at h;rw[Nat.zero_mul,atA];exact h;cases h
 |n+1,cs,i+1,j,pv,h=>by have:=TW (n:=n) (cs:=cs.drop s) (i:=i) (j:=j) (pv:=pv) (by simpa[chunks,at2]using h);rw[awM]at this;rw[<-this];congr 1;rw[auM];omega
theorem Ft{t e:TypeId}{k s:Nat}{v:Value}{cs:V_}(W:T.P.underlying t=some (.array k e))(V:T.size e=some s)(X:bG E (.aU cs) v)(N:k*s<=Z' cs)(O:k<=maxLen)(L:eX ds n E F a)(M:E.num=T.num) :
  ∃u,(Instr.sliceAt t v none none none).run T.P w=.ok u w/\bG E (.sl s (chunks s k cs)) u:=by
 obtain⟨m,hb,R,S⟩:=nY (T:=T) (E:=E) (w:=w) (F:=F) (a:=a) (n:=n) (isS:=false) (len:=k) (cap:=k) (lo:=none) (hi:=none) (mx:=none) (pl:=none) (ph:=none) (pm:=none) (l:=0) (h:=(k:Int)) rfl rfl rfl rfl rfl (asU _) Om Om Om (.inl rfl) L M;simp only[Option.map_none,auL,Int.toNat_zero]at hb;have D:m=k:=Om;subst D;cases X with
 |aU u y x K U=>
 rename_i A;refine⟨.slice (some A) m m,?_,?_⟩;have Y:(if m=0 then A else A.add (0*s))=A:=by split;rfl;rw[sO y,add_plain];simp
 simp[Instr.sliceAt,run_underlying W,Instr.sureAddr,hb,lP V];intro _;rw[sO y,add_plain];simp;have J:=kr s m cs;have B:bG E (.sl s (chunks s m cs)) (.slice (some A) (chunks s m cs).length m):=by refine .sl (λi j=>u (i*s+j)) (by rw[J];exact asU _) O (ku N) (λ_=>⟨A,rfl,y,λi j pv hp=>?_⟩) (λi j=>K _) (λi j pv hp=>U _ pv (TW hp));have:=x (i*s+j) pv (TW hp);rw[<-this];congr 1;omega
 rw[J]at B;exact B
theorem Gx{e:TypeId}{x:Value}{l:PV}(hW:bZ E H w)(K:bG E l x)(J:l.cells.all PV.one=true):Yields T.P E H w (Instr.box e x) (.aU l.cells):=by
 obtain⟨y,B,D⟩:=CU K J;obtain⟨u,A⟩:=hW.Z6 x.cells e;refine⟨.pointer (some ⟨w.heap.size,0,none⟩),_,_,by simp[Instr.box,newVar,newRow],?_,u,A⟩;refine .aU (λj=>if h:j<x.cells.size then x.cells[j]else .int .i64 0) rfl (λj pv hp=>?_) (λj=>?_) (λj pv hp=>?_);have i:j<x.cells.size:=by
  rw[y];rcases atY j l.cells.length with h'|h'
  exact h';rw[auE h']at hp;cases hp
 simp[Env.cell,Env.add,upd,i];split;rename_i i;exact B _ (Array.getElem_mem_toList i);rfl;have i:j<x.cells.size:=by
  rw[y];rcases atY j l.cells.length with h'|h'
  exact h';rw[auE h']at hp;cases hp
 rw[dif_pos i];exact(D j pv _ hp (awR i)).mono A.env
end
open Go Go.RowKit
theorem CB{s:Nat}:∀(rows:P2_) (i j:Nat),(∀r∈rows,Z' r=s)->j<s->rows.flatten[i*s+j]?=at2 rows i j
 |[],i,j,_,_=>by simp[at2]
 |r::rows,i,j,h,u=>by
  have l:Z' r=s:=h r aZ;rw[awZ];cases i with
  |zero =>rw[avM Om];simp[at2]
  |succ i=>
   rw[auS (by rw[l,avS];omega)];have e:(i+1)*s+j-Z' r=i*s+j:=by rw[l,avS];omega
   rw[e,CB rows i j (λr l=>h r (by simp[l])) u];simp[at2]
theorem uB{s:Nat}:∀(rows:P2_),(∀r∈rows,Z' r=s)->Z' rows.flatten=Z' rows*s
 |[],_=>by simp
 |r::rows,h=>by rw[awZ,asX,uB rows (λr e=>h r (by simp[e])),h r aZ,atZ,avS];omega
theorem yZ:∀(ps:V_)(x y:V_)(c:Nat),setCells (x++y) (Z' x+c) ps=x++setCells y c ps
 |[],x,y,c=>rfl
 |p::ps,x,y,c=>by simp only[setCells];rw[avQ _ _ Om,Nat.add_sub_cancel_left];exact yZ ps x _ (c+1)
theorem AN:∀(ps:V_)(x y:V_)(c:Nat),c+Z' ps<=Z' x->setCells (x++y) c ps=setCells x c ps++y
 |[],x,y,c,_=>rfl
 |p::ps,x,y,c,h=>by simp only[atZ]at h;simp only[setCells];rw[List.set_append_left _ _ Om];exact AN ps _ y (c+1) (by rw[auD];omega)
theorem NE:∀(ps x:V_)(z:V_),Z' x=Z' ps->setCells (z++x) z.length ps=z++ps
 |[],x,z,h=>by have:x=[]:=axE (by simpa using h);subst this;rfl
 |p::ps,[],z,h=>by simp at h
 |p::ps,y::x,z,h=>by simp only[setCells];rw[avQ _ _ (asU _),auK,avR];have:=NE ps x (z++[p]) (by simpa using h);simp only[asX,atZ,avD,atV,awD,awO]at this;simpa using this
theorem ZY{s:Nat}(ps:V_)(e:Z' ps=s):∀(rows:P2_) (i:Nat),(∀r∈rows,Z' r=s)->i<Z' rows->(rows.set i ps).flatten=setCells rows.flatten (i*s) ps
 |[],i,_,h=>by simp at h
 |r::rows,i,h,hi=>by
  have l:Z' r=s:=h r aZ;cases i with
  |zero =>rw[avR,awZ,awZ,Nat.zero_mul,AN _ _ _ _ Om];have:=NE ps r [] Om;simp only[awO,avD]at this;rw[this]
  |succ i =>rw[List.set_cons_succ,awZ,awZ,ZY ps e rows i (λr l=>h r (by simp[l])) (by simpa using hi)];have:=yZ ps r rows.flatten (i*s);rw[<-this,l,avS,Nat.add_comm]
section
variable {ds:List Deferred} {T:Tbl} {n:Nat} {E:Env} {F:PF} {H:PH} {a:Act} {w:World}
theorem MN{s:Nat}(R:eX ds n E F a)(S:E.num=T.num):∀(parts:List (Nat × Operand)) (pl:List (Nat × aP)) (rows out:P2_) (vs:Array Value),
  T.yQ parts=some pl->iB s rows F pl=some out->(∀r∈rows,Z' r=s)->rP E rows.flatten vs ->
  ∃J,Instr.fill (λi=>some (i*s,s)) vs (parts.map λ(i,x)=>(i,a.eval x))=some J/\rP E out.flatten J/\(∀r∈out,Z' r=s)/\Z' out=Z' rows
 |[],pl,rows,out,vs,l,e,y,D=>by simp[Tbl.yQ]at l;subst l;simp[iB]at e;subst e;exact⟨vs,rfl,D,y,rfl⟩
 |(i,x)::rest,pl,rows,out,vs,l,e,y,D=>by
  simp only[Tbl.yQ]at l;split at l;rename_i p ps Z L;cases l;simp only[iB]at e;split at e;rename_i v Y;split at e;rename_i B;obtain⟨O,U,V⟩:=CU (bL Z Y R S) B.2.2;have K:=ZY v.cells B.1 rows i y B.2.1;have A:=rP.setCells v.cells (a.eval x).cells.toList (i*s) _ vs D (by simpa using O) U (λj q u hq X=>V j q u hq (by simpa using X));rw[<-K]at A;obtain⟨J,g1,g2,g3,g4⟩:=MN R S rest ps _ out _ L e (λr M=>by
   rcases axB M with M|rfl
   exact y r M;exact B.1) A
  refine⟨J,?_,g2,g3,by simpa using g4⟩;simp only[atU,Instr.fill];have N:vs.size=Z' rows*s:=by rw[D.1,uB rows y]
  have W:i*s+s<=Z' rows*s:=by have:(i+1)*s<=Z' rows*s:=auO _ B.2.1;rw[avS]at this;exact this
  rw[aC (by simp;rw[O,N];omega)];have hz:Array.foldl (λ(cs:Array Value)(x:Value × Nat)=>cs.setIfInBounds (i*s+x.2) x.1) vs (a.eval x).cells.zipIdx=i6 vs (i*s) (a.eval x).cells.toList:=by rw[<-Array.foldl_toList,Array.toList_zipIdx];exact RA (i*s) _ 0 vs
  exact hz ▸ g1;cases e;cases e;cases l
theorem rP.aaQ{z:V_}{y:Array Value}{s len:Nat}(h:rP E z y)(K:Z' z=s)(J:0<s) :
  rP E (asT len z).flatten ((Array.range (len*s)).map (y[·%y.size]!)):=by
 have u:∀r∈asT len z,Z' r=s:=λr L=>by rw[(List.mem_replicate.1 L).2];exact K
 have l:y.size=s:=by rw[h.1,K]
 refine⟨by rw[uB _ u];simp,λv x=>?_,λk pv v hp x=>?_⟩;simp only[Array.toList_map,atM]at x;obtain⟨k,-,rfl⟩:=x;have D:k%y.size<y.size:=Nat.mod_lt _ Om;rw[getElem!_pos y _ D];exact h.2.1 _ (Array.getElem_mem_toList D);have B:k<len*s:=by
  rcases atY k (len*s)with h'|h'
  exact h';rw[Array.getElem?_eq_none (by simpa using h')]at x;cases x
 have i:k%s<s:=Nat.mod_lt _ J;have A:k/s<len:=(axC J).2 B;have D:k/s*s+k%s=k:=by rw[avC];exact Nat.div_add_mod k s
 have e:=CB (asT len z) (k/s) (k%s) u i;rw[D]at e;rw[e]at hp;simp only[at2,List.getElem?_replicate,A,if_true,awQ]at hp;simp only[Array.getElem?_map,Array.getElem?_range,B,if_true,atO]at x;rw[getElem!_pos y _ (by rw[l];exact i)]at x;cases x;refine h.2.2 (k%s) pv _ (by simpa only [l]using hp) ?_;simp only[l];exact awR (by rw[l];exact i)
theorem TT{t e:TypeId}{s len:Nat}{z:V_}{parts:Array (Nat × Operand)}{pl:List (Nat × aP)}{out:P2_}(Y:T.P.underlying t=some (.slice e))(X:T.size e=some s)(hz:T.zero e=some z)
  (L:Z' z=s) (V:0<s) (l:T.yQ parts.toList=some pl) (α:len*s<=16777216) (A:iB s (asT len z) F pl=some out) (Z:eX ds n E F a) (hN:E.num=T.num) :
  ∃B,(Instr.buildSlice t len (parts.map λ(i,x)=>(i,a.eval x))).run T.P w=.ok (.slice (some ⟨w.heap.size,0,none⟩) len len) (w.alloc (.cells B e))/\rP E out.flatten B/\(∀r∈out,Z' r=s)/\Z' out=len:=by
 obtain⟨i,zv,hi,M,U⟩:=SG (E:=E) hz;obtain⟨i',J,u⟩:=xw X;rw[hi]at J;cases J;have D:∀r∈asT len z,Z' r=s:=λr hr=>by rw[(List.mem_replicate.1 hr).2];exact L
 obtain⟨B,g1,g2,g3,g4⟩:=MN Z hN parts.toList pl _ out _ l A D (U.aaQ (len:=len) L V);rw[List.length_replicate]at g4;refine⟨B,?_,g2,g3,g4⟩;by_cases N:len=0;subst N;have K:parts.toList=[]:=by
  cases R:parts.toList with
  |nil=>rfl
  |cons x rest =>rw[R]at l;obtain⟨i,y⟩:=x;simp only[Tbl.yQ]at l;split at l;cases l;simp only[iB]at A;split at A;split at A;rename_i hc;simp at hc;cases A;cases A;cases l
 rw[K]at g1;simp only[auH,Instr.fill,Nat.zero_mul]at g1;have:B=#[]:=by have W:=g2.1;rw[uB out g3,g4,Nat.zero_mul]at W;exact Array.eq_empty_of_size_eq_zero W
 subst this;have O:parts=#[]:=by apply Array.ext';simpa using K
 subst O;have S:Array.range 0=#[]:=by apply Array.ext';simp
 simp[Instr.buildSlice,run_underlying Y,lP X,Instr.fill,newRow,S];refine run_buildSlice w t e len _ B i zv Y hi M (by rw[u];omega) (by rw[u];exact Nat.ne_of_gt (Nat.mul_pos Om V)) ?_;rw[u,Array.toList_map];exact g1
theorem sv{t e:TypeId}{s len:Nat}{z:V_}{parts:Array (Nat × Operand)}{pl:List (Nat × aP)}{out:P2_}(Z:T.P.underlying t=some (.slice e))(Y:T.size e=some s)(hz:T.zero e=some z)
  (O:Z' z=s) (R:0<s) (N:T.yQ parts.toList=some pl) (M:len*s<=16777216) (X:iB s (asT len z) F pl=some out) (U:eX ds n E F a) (V:E.num=T.num) (hW:bZ E H w) :
  Yields T.P E H w (Instr.buildSlice t len (parts.map λ(i,x)=>(i,a.eval x))) (.sl s out):=by
 obtain⟨A,D,L,u,y⟩:=TT (w:=w) Z Y hz O R N M X U V;obtain⟨K,S⟩:=hW.Z6 A e;refine⟨_,_,_,D,?_,K,S⟩;rw[<-y];have W:∀i j pv,at2 out i j=some pv->j<s:=λi j pv hp=>by
  unfold at2 at hp;cases B:out[i]? with
  |none=>simp[B]at hp
  |some r=>
   rw[B,awQ]at hp;have:=u r (auZ B);rcases atY j r.length with h'|h'
   omega;rw[auE h']at hp;cases hp
 have l:∀i j pv,at2 out i j=some pv->∃h:i*s+j<A.size,bG E pv A[i*s+j]:=λi j pv hp=>by
  have J:=CB out i j u (W i j pv hp);rw[hp]at J;have hlt:i*s+j<A.size:=by
   rw[L.1];rcases atY (i*s+j) out.flatten.length with h'|h'
   exact h';rw[auE h']at J;cases J
  exact⟨hlt,L.2.2 _ pv _ J (awR hlt)⟩
 refine .sl (λi j=>if h:i*s+j<A.size then A[i*s+j]else .int .i64 0) (asU _) ?_ u (λ_=>⟨_,rfl,rfl,λi j pv hp=>?_⟩) (λi j=>?_) (λi j pv hp=>?_);have:Z' out*1<=Z' out*s:=awP _ R;simp only[maxLen];rw[y]at this ⊢;omega;obtain⟨hlt,-⟩:=l i j pv hp;simp[Env.cell,Env.add,upd,hlt];split;rename_i hlt;exact L.2.1 _ (Array.getElem_mem_toList hlt);rfl;obtain⟨hlt,B⟩:=l i j pv hp;rw[dif_pos hlt];exact B.mono S.env
end
open Go Go.RowKit
section
variable {T:Tbl} {n:Nat} {E:Env} {F:PF} {H:PH} {a:Act} {w:World}
theorem rb{s:Nat}{pv:PV}{v:Value}{rows:P2_}(hW:bZ E H w)(Y:bG E pv v)(h:dG H s pv=some rows) :
  ∃x cap,v=.slice x rows.length cap/\Z' rows<=cap/\(∀r∈rows,Z' r=s)/\(rows≠[]->∃b off,x=some ⟨b,off,none⟩ /\
   ∀i j q,at2 rows i j=some q->∃u,w.cell? ⟨b,off+(i*s+j),none⟩=some u/\u.oneCell'=true/\bG E q u):=by
 unfold dG at h;split at h;cases h;cases Y;exact⟨none,0,rfl,asU _,by simp,λh=>absurd rfl h⟩;rename_i s0 rs;split at h
 ·rename_i e;subst e;cases h;cases Y with
  |sl u B D l ha S W=>
  rename_i a0 cap;refine⟨a0,cap,rfl,B,l,λA=>?_⟩;obtain⟨x,rfl,K,O⟩:=ha A;refine⟨x.block,x.off,by rw[<-sO K],λi j q hq=>⟨u i j,?_,S i j,W i j q hq⟩⟩;have:=hW.I5 (O i j q hq);rw[<-this];congr 2;omega
 cases h;rename_i o s0 off len;split at h;rename_i e;subst e;split at h;rename_i s' rs S;split at h
 ·rename_i O;cases h;obtain⟨rfl,β⟩:=O;obtain⟨hlt,L,ty,hh,γ,l,Z,y⟩:=hW.h o _ S;cases Y with
  |osl hb K J R D hn X=>
  rename_i cap N x;have hl:((rs.drop off).take len).length=len:=by rw[atF,auU];omega
  refine⟨some x,cap,by rw[hl],by omega,λr W=>l r (List.mem_of_mem_drop (awU W)),λA=>?_⟩;have α:0<((rs.drop off).take len).length:=List.length_pos_iff.2 A;have U:x.off=off*s':=by
   rcases J with h|h
   omega;exact h
  have M:x=⟨o,off*s',none⟩:=by cases x;simp_all
  subst M;refine⟨o,off*s',rfl,λi j q hq=>?_⟩;have V:at2 rs (off+i) j=some q:=by unfold at2 at hq ⊢;rw[awI]at hq;split at hq;rw[awM]at hq;exact hq;simp at hq
  obtain⟨u,h1,h2,h3⟩:=y (off+i) j q V;refine⟨u,?_,h2,h3⟩;rw[cell_of_row w o _ L ty (0,0) hh,<-h1];congr 1;rw[auM];omega
 cases h;cases h;cases h;cases h
theorem SU:∀{rows:P2_}{l:List UInt8},uX rows=some l->∃ns:I_,rows=ns.map (λn=>[PV.int .u8 n])/\l=ns.map λn=>UInt8.ofNat n.toNat
 |[],l,h=>by simp[uX]at h;exact⟨[],by simp[h]⟩
 |r::rows,l,h=>by unfold uX at h;split at h;exact⟨[],by simp at *⟩;rename_i m rest e;cases e;simp only[atB]at h;obtain⟨y,i,rfl⟩:=h;obtain⟨ns,u,x⟩:=SU i;exact⟨m::ns,by simp[u],by simp[x]⟩;cases h
theorem ki{src dst e:TypeId}{pv:PV}{v:Value}{rows:P2_}{l:List UInt8}(D:T.P.underlying src=some (.slice e))(he:T.P.underlying e=some (.int .u8))(B:T.P.underlying dst=some .string)
  (hW:bZ E H w) (U:bG E pv v) (S:dG H 1 pv=some rows) (hb:uX rows=some l):∃u,(convert src dst v).run T.P w=.ok u w/\bG E (.str l) u:=by
 obtain⟨M,cap,rfl,K,L,y⟩:=rb hW U S;obtain⟨ns,rfl,rfl⟩:=SU hb;by_cases A:ns=[]
 ·subst A;refine⟨.string ByteArray.empty,?_,bG.str ByteArray.empty⟩;cases M with
  |none=>exact run_convert_bytes_nil w src e D he _ _ dst B
  |some x =>rw[run_convert_bytes_string w src dst e _ _ _ D he B];have:=run_bytesToString (P:=T.P) w x 0 cap [] (by simp[Go.loadCells,Go.loadCellsFrom]);simpa using this
 obtain⟨b,off,rfl,O⟩:=y (by simpa using A);have R:(ns.map λn=>[PV.int .u8 n]).length=Z' ns:=by simp
 refine⟨.string (strOfNums ns),?_,?_⟩;rw[R];refine run_convert_bytes_arg w src e D he b off ns.length cap ns rfl (λi hi=>?_) dst B;obtain⟨u,J,V,N⟩:=O i 0 (.int .u8 ns[i]) (by simp[at2,hi]);cases N;simp only[Nat.mul_one,auI]at J;rw[J];simp[List.getD,hi];have:=bG.str (E:=E) (strOfNums ns);rw[strOfNums_data]at this;exact this
theorem fV.len{ps:V_}{vs:List Value}(h:fV E ps vs):Z' vs=Z' ps:=by
 induction h with
 |nil=>rfl
 |cons _ _ e=>simp[e]
theorem fV.at_{ps:V_}{vs:List Value}(h:fV E ps vs):∀(j:Nat) p v,ps[j]?=some p->vs[j]?=some v->bG E p v:=by
 induction h with
 |nil=>intro j p v hp;simp at hp
 |cons h _ i=>
  intro j p v hp e;cases j with
  |zero=>simp at hp e;subst hp;subst e;exact h
  |succ j=>exact i j p v (by simpa using hp) (by simpa using e)
theorem fV.mono{e:Env}(i:E.le e){ps:V_}{vs:List Value}(h:fV E ps vs):fV e ps vs:=by
 induction h with
 |nil=>exact .nil
 |cons h _ l=>exact .cons (h.mono i) l
def POp.tM:POp->Bool
 | .call .. | .asE ..=>true
 |_=>false
theorem zD{P:Program}{o:Oper}{s:Sem Value}{v:Value}{w e:World}(h:execOp a.eval o=(do pure (.value (<-s)):Sem Next))(i:s.run P w=.ok v e):(execOp a.eval o).run P w=.ok (.value v) e:=by
 rw[h];simp[i]
end
open Go Go.RowKit
def KSh.desc:KSh->TypeDesc
 | .int k=>.int k
 | .bool=>.bool
 | .str=>.string
def KSh.sc:KSh->Sc
 | .int _=>.int
 | .bool=>.bool
 | .str=>.str
def KS.pv:KS->PV
 | .int k n=>.int k n
 | .bool b=>.bool b
 | .str s=>.str s
section
variable {T:Tbl} {n:Nat} {E:Env} {F:PF} {H:PH} {a:Act} {w:World}
theorem sr{α:Type}[BEq α][LawfulBEq α][DecidableEq α](a b:α):(a==b)=decide (a=b):=by
 by_cases h:a=b<;>simp[h]
theorem KS.R7{pv:PV}{v:Value}{k:KS}(h:bG E pv v)(e:KS.of pv=some k):v=k.val:=by
 unfold KS.of at e;split at e<;>cases e<;>cases h;rfl;rfl;simp[KS.val]
theorem KS.ahO(k:KS):bG E k.pv k.val:=by
 cases k with
 |int k n=>exact .int k n
 |bool b=>exact .bool b
 |str s =>have:=bG.str (E:=E) ⟨s.toArray⟩;simpa[KS.pv,KS.val]using this
theorem KS.Jx:∀{ps:V_}{i:List KS}{vs:List Value},KS.ofs ps=some i->Z' vs=Z' ps->(∀(j:Nat) p v,ps[j]?=some p->vs[j]?=some v->bG E p v)->vs=i.map KS.val
 |[],i,vs,h,e,_=>by simp[KS.ofs]at h;subst h;simp at e;subst e;rfl
 |p::ps,i,vs,h,e,l=>by
  simp only[KS.ofs]at h;split at h
  ·rename_i k D A B;cases h;cases vs with
   |nil=>simp at e
   |cons v vs =>have e2:=KS.Jx (vs:=vs) B (by simpa using e) λj q u x y=>l (j+1) q u (by simpa using x) (by simpa using y);rw[KS.R7 (l 0 p v rfl rfl) A,e2];rfl
  cases h
theorem vp{sh:MSh}{pv:PV}{v:Value}{k:List KS}(h:bG E pv v)(i:keyOf sh pv=some k):v=jO sh k/\k.map KS.sh=sh.2/\(sh.1=false->∃s,k=[s]):=by
 obtain⟨b,l⟩:=sh;unfold keyOf at i;split at i;rename_i cs hb;simp only at hb;subst hb;simp only[awX]at i;obtain⟨K,A,e⟩:=i;split at e
 ·rename_i he;cases e;cases h with
  |agg vs D B J=>
  refine⟨?_,he,by simp⟩;have:=KS.Jx (vs:=vs.toList) A (by simpa using D) λj p u x y=>J j p u x (by simpa using y);simp only[jO,if_true,Value.agg.injEq];rw[<-this]
 cases e;rename_i v' hb;simp only at hb;subst hb;simp only[awX]at i;obtain⟨s,A,e⟩:=i;split at e;rename_i he;cases e;exact⟨by simp[jO,KS.R7 h A],by simpa using he,λ_=>⟨s,rfl⟩⟩;cases e;cases i
theorem zV{t:TypeId}{s:KSh}(h:T.GD t=some s):T.P.underlying t=some s.desc/\T.scalar t=some s.sc:=by
 unfold Tbl.GD at h;unfold Tbl.scalar;split at h<;>cases h<;>(rename_i e;rw[e];exact⟨rfl,rfl⟩)
theorem Ia{s:KSh}{x y:KS}(i:x.sh=s)(e:y.sh=s):Instr.sameNow s.desc x.val y.val=some (decide (x=y)):=by
 subst i;cases x<;>cases y<;>simp[KS.sh]at e;subst e;simp[KSh.desc,KS.sh,KS.val,Instr.sameNow];exact sr _ _;simp[KSh.desc,KS.sh,KS.val,Instr.sameNow];exact sr _ _;rename_i a b;simp only[KSh.desc,KS.sh,KS.val,Instr.sameNow,auY.injEq,KS.str.injEq];rw[beq_toListBytes,ByteArray.toList_eq,ByteArray.toList_eq];simp;exact sr _ _
theorem na:∀{e:List Field}{k:Nat}{l:List KSh},T.oY k e=some l->T.xX k e=some (l.map KSh.sc)
 |[],k,l,h=>by simp[Tbl.oY]at h;subst h;rfl
 |f::e,k,l,h=>by simp only[Tbl.oY]at h;split at h;rename_i c cs i u;split at h;rename_i x;cases h;simp only[Tbl.xX,(zV i).2,na u];rw[aF x];rfl;cases h;cases h
theorem Qu:∀{l:List KSh}{xs ys:List KS},xs.map KS.sh=l->ys.map KS.sh=l->PV.eqs (l.map KSh.sc) (xs.map KS.pv) (ys.map KS.pv)=some (decide (xs=ys))
 |[],xs,ys,i,u=>by simp at i u;subst i;subst u;simp[PV.eqs]
 |s::l,xs,ys,i,u=>by
  cases xs with
  |nil=>simp at i
  |cons x xs=>
  cases ys with
  |nil=>simp at u
  |cons y ys=>
  simp only[atU,List.cons.injEq]at i u;have D:PV.eq1 s.sc x.pv y.pv=some (decide (x=y)):=by obtain⟨B,-⟩:=i;obtain⟨A,-⟩:=u;subst B;cases x<;>cases y<;>simp[KS.sh]at A;subst A;simp[KSh.sc,KS.sh,KS.pv,PV.eq1];exact sr _ _;simp[KSh.sc,KS.sh,KS.pv,PV.eq1];exact sr _ _;simp[KSh.sc,KS.sh,KS.pv,PV.eq1];exact sr _ _
  simp only[atU,PV.eqs,D];by_cases e:x=y;subst e;simp only[decide_true,Qu i.2 u.2];simp;simp only[e,decide_false,asO];have J:Z' xs=Z' l:=by rw[<-i.2];simp
  have K:Z' ys=Z' l:=by rw[<-u.2];simp
  rw[aF ⟨J,K⟩];simp[e]
theorem Qv{t:TypeId}{B:Array Field}{l:List KSh}(J:T.P.underlying t=some (.struct B))(hp:T.P.stoodInHeld t=false)(M:T.oY 0 B.toList=some l){x y:List KS}(N:x.map KS.sh=l)(O:y.map KS.sh=l) :
  (Op.equal t (jO (true,l) x) (jO (true,l) y)).run T.P w=.ok (decide (x=y)) w:=by
 have i:T.P.fieldsOf t=B:=by simp[Program.fieldsOf,J]
 have K:∀(z:List KS)(j:Nat) q u,(z.map KS.pv)[j]?=some q->(z.map KS.val).toArray[0+j]?=some u->bG (E:=⟨λ_=>none,λ_=>none,λ_=>0⟩) q u:=by intro z j q u e D;simp only[atC,atB,atA,List.getElem?_toArray]at e D;obtain⟨k,L,rfl⟩:=e;obtain⟨R,A,rfl⟩:=D;rw[L]at A;cases A;exact KS.ahO k
 have he:=UK (w:=w) 9998 (x.map KS.val).toArray (y.map KS.val).toArray B.toList (l.map KSh.sc) 0 (x.map KS.pv) (y.map KS.pv) _ (na M) (Qu N O) (K x) (K y) aZ aZ;have e:=run_equalIn_struct w 9999 t (x.map KS.val).toArray (y.map KS.val).toArray (by rw[i];exact J) hp;rw[i,he]at e;simpa[Op.equal,Op.maxDepth,jO]using e
def Found(L:List (List KS × PV))(l:List MapEntry)(k:List KS)(i:Nat)(r:Option (Nat × Value)):Prop:=
 match sV k L i with
 |none=>r=none
 |some (j,pv)=>∃e:MapEntry,i<=j/\l[j-i]?=some e/\L[j-i]?=some (k,pv)/\r=some (j,e.val)
theorem Found.next{L:List (List KS × PV)}{u:List MapEntry}{k:List KS}{i:Nat}{r:Option (Nat × Value)}{e:List KS × PV}{y:MapEntry}(h:Found L u k (i+1) r)(l:e.1≠k):Found (e::L) (y::u) k i r:=by
 unfold Found at h ⊢;simp only[sV,aC l];split at h;exact h;rename_i j pv K;obtain⟨x,J,A,B,D⟩:=h;refine⟨x,by omega,?_,?_,D⟩;rw[show j-i=(j-(i+1))+1 by omega];exact A;rw[show j-i=(j-(i+1))+1 by omega];exact B
theorem Found.here{L:List (List KS × PV)}{u:List MapEntry}{k:List KS}{i:Nat}{e:List KS × PV}{l:MapEntry}(he:e.1=k):Found (e::L) (l::u) k i (some (i,l.val)):=by
 unfold Found;simp only[sV,aF he];refine⟨l,asU _,by simp,?_,rfl⟩;subst he;simp
def yM(sh:MSh)(L:List (List KS × PV))(u:List MapEntry):Prop:=
 u.length=Z' L/\∀(i:Nat) e l,L[i]?=some e->u[i]?=some l->e.1.map KS.sh=sh.2/\l.key=jO sh e.1
theorem yM.tail{sh:MSh}{e:List KS × PV}{L:List (List KS × PV)}{u:MapEntry}{l:List MapEntry}(h:yM sh (e::L) (u::l)):yM sh L l:=
 ⟨by simpa using h.1,λi x y a b=>h.2 (i+1) x y (by simpa using a) (by simpa using b)⟩
theorem ZW{s:KSh}{x:KS}(D:x.sh=s):∀{L:List (List KS × PV)}{l:List MapEntry}{i:Nat},yM (false,[s]) L l->∃r,Instr.findNow s.desc x.val l i=some r/\Found L l [x] i r
 |[],l,i,h=>by
  have:l=[]:=by simpa using h.1
  subst this;exact⟨none,rfl,rfl⟩
 |e::L,l,i,h=>by
  cases l with
  |nil=>have:=h.1;simp at this
  |cons B l=>
  obtain⟨A,K⟩:=h.2 0 e B rfl rfl;obtain⟨J,O⟩:=e;cases J with
  |nil=>simp at A
  |cons y ys=>
   simp only[atU,List.cons.injEq,axG]at A;obtain⟨N,rfl⟩:=A;have M:B.key=y.val:=by rw[K];rfl
   simp only[Instr.findNow,M,Ia D N];by_cases u:x=y;subst u;simp only[decide_true];exact⟨_,rfl,Found.here rfl⟩;simp only[u,decide_false];obtain⟨r,g1,g2⟩:=ZW D (i:=i+1) h.tail;exact⟨r,g1,g2.next (by simp;exact λe=>u e.symm)⟩
theorem MO{t:TypeId}{A:Array Field}{l:List KSh}(D:T.P.underlying t=some (.struct A))(hp:T.P.stoodInHeld t=false)(B:T.oY 0 A.toList=some l){x:List KS}(J:x.map KS.sh=l) :
  ∀{L:List (List KS × PV)}{u:List MapEntry}{i:Nat},yM (true,l) L u->∃r,(Instr.findAsking t (jO (true,l) x) u i).run T.P w=.ok r w/\Found L u x i r
 |[],u,i,h=>by
  have:u=[]:=by simpa using h.1
  subst this;exact⟨none,rfl,rfl⟩
 |e::L,u,i,h=>by
  cases u with
  |nil=>have:=h.1;simp at this
  |cons K u=>
  obtain⟨M,N⟩:=h.2 0 e K rfl rfl;simp only[Instr.findAsking,Sem.run_bind,N,Qv D hp B J M,Result.andThen_ok];by_cases y:x=e.1;subst y;simp only[decide_true,if_true,Sem.run_pure];exact⟨_,rfl,Found.here rfl⟩;simp only[y,decide_false,auQ,if_false];obtain⟨r,g1,g2⟩:=MO D hp B J (i:=i+1) h.tail;exact⟨r,g1,g2.next (λe=>y e.symm)⟩
theorem MR{t:TypeId}{sh:MSh}(h:T.pN t=some sh):(∃s,sh=(false,[s])/\T.GD t=some s)\/(∃e l,sh=(true,l)/\T.P.underlying t=some (.struct e)/\T.P.stoodInHeld t=false/\T.oY 0 e.toList=some l):=by
 unfold Tbl.pN at h;split at h;rename_i e x;split at h;rename_i hp;simp only[atB]at h;obtain⟨l,i,rfl⟩:=h;exact .inr ⟨e,l,rfl,x,hp,i⟩;cases h;simp only[atB]at h;obtain⟨s,u,rfl⟩:=h;exact .inl ⟨s,rfl,u⟩
theorem SV{t:TypeId}{sh:MSh}(B:T.pN t=some sh){k:List KS}(y:k.map KS.sh=sh.2){L:List (List KS × PV)}{u:List MapEntry}(h:yM sh L u) :
  ∃r,(Instr.findKey t (jO sh k) u).run T.P w=.ok r w/\Found L u k 0 r:=by
 rcases MR B with⟨s,rfl,J⟩|⟨fs,l,rfl,hu,hp,hl⟩
 ·have D:=(zV J).1;cases k with
  |nil=>simp at y
  |cons x xs =>simp only[atU,List.cons.injEq,axG]at y;obtain⟨M,rfl⟩:=y;obtain⟨r,g1,g2⟩:=ZW M (i:=0) h;refine⟨r,?_,g2⟩;have K:jO (false,[s]) [x]=x.val:=rfl;simp only[Instr.findKey,Sem.run_bind,run_underlying D,Result.andThen_ok,K,g1,Sem.run_pure]
 ·obtain⟨r,g1,g2⟩:=MO (w:=w) hu hp hl y (i:=0) h;cases u with
  |nil=>
   have:L=[]:=by simpa using h.1.symm
   subst this;refine⟨none,?_,rfl⟩;simp[Instr.findKey,run_underlying hu,Instr.findNow]
  |cons e u=>
   refine⟨r,?_,g2⟩;have A:Instr.findNow (.struct fs) (jO (true,l) k) (e::u) 0=none:=by simp[Instr.findNow,Instr.sameNow,jO]
   simp only[Instr.findKey,Sem.run_bind,run_underlying hu,Result.andThen_ok,A];exact g1
theorem ZP{t:TypeId}{s:KSh}(e:T.GD t=some s)(em:Bool)(d:Nat)(x:KS):(Instr.checkKey em (d+1) t x.val).run T.P w=.ok () w:=by
 have i:=(zV e).1;simp only[Instr.checkKey,Sem.run_bind,run_underlying i,Result.andThen_ok];cases s<;>cases x<;>rfl
theorem MJ{t:TypeId}{sh:MSh}(D:T.pN t=some sh){k:List KS}(A:k.map KS.sh=sh.2)(em:Bool):(Instr.checkKey em 10000 t (jO sh k)).run T.P w=.ok () w:=by
 rcases MR D with⟨s,rfl,u⟩|⟨e,l,rfl,hu,hp,hl⟩
 ·cases k with
  |nil=>simp at A
  |cons x xs =>simp only[atU,List.cons.injEq,axG]at A;obtain⟨O,rfl⟩:=A;exact ZP u em 9999 x
 simp only[jO,if_true];obtain⟨m,V⟩:∃m:Nat,m=9999:=⟨_,rfl⟩;rw[show(10000:Nat)=m+1 by omega];simp only[Instr.checkKey,Sem.run_bind,run_underlying hu,Result.andThen_ok];rw[<-Array.forIn_toList];have J:∀(e:List Field)(l:List KSh)(j:Nat),T.oY j e=some l->(∀(i:Nat) s,l[i]?=some s->∃x:KS,(k.map KS.val).toArray[j+i]?=some x.val) ->
   (forIn e PUnit.unit (λf (_:PUnit)=>(do
    if f.name≠"_" then
     Instr.checkKey em m f.type (<-part f.type (k.map KS.val).toArray f.offset)
     pure (ForInStep.yield PUnit.unit)
    else pure (ForInStep.yield PUnit.unit):Sem (ForInStep PUnit)))).run T.P w=.ok PUnit.unit w:=by
  intro e
  induction e with
  |nil=>intro l j _ _;simp
  |cons f e U=>
   intro l j h N;simp only[Tbl.oY]at h;split at h;rename_i c cs K R;split at h;rename_i L;cases h;obtain⟨x,O⟩:=N 0 c rfl;simp only[List.forIn_cons,Sem.run_bind,Sem.run_ite];rw[aF L.1];have B:=QK (w:=w) (zV K).2 (k.map KS.val).toArray f.offset x.val (by rw[L.2];simpa using O);simp only[Sem.run_bind,B,Result.andThen_ok];rw[show m=9998+1 by omega,ZP K em 9998 x,<-show m=9998+1 by omega];simp only[Result.andThen_ok,Sem.run_pure];exact U cs (j+1) R λi s u=>by obtain⟨y,S⟩:=N (i+1) s (by simpa using u);exact⟨y,by rw[show j+1+i=j+(i+1) by omega];exact S⟩
   cases h;cases h
 have:=J e.toList l 0 hl λi s u=>by
  have M:Z' k=Z' l:=by rw[show l=k.map KS.sh from A.symm];simp
  have hi:i<Z' l:=(atX.1 u).1;exact⟨k[i],by simp[show i<k.length by omega]⟩
 simp at this ⊢;rw[this];rfl
theorem Hi{L:List (List KS × PV)}{u:List MapEntry}{k:List KS}{r:Option (Nat × Value)}(h:Found L u k 0 r)(J:∀(i:Nat)(e:List KS × PV)(l:MapEntry),L[i]?=some e->u[i]?=some l->bG E e.2 l.val) :
  (mapOf L k=none/\r=none)\/∃j pv v,mapOf L k=some pv/\r=some (j,v)/\bG E pv v:=by
 unfold Found at h;unfold mapOf;split at h;rename_i D;exact .inl ⟨by rw[D];rfl,h⟩;rename_i j pv B;obtain⟨l,-,x,y,A⟩:=h;exact .inr ⟨j,pv,l.val,by rw[B];rfl,A,J _ _ l y x⟩
theorem Dn{t Z R:TypeId}{sh:MSh}{y:TypeInfo}{z:Value}{X pk:PV}{x k:Value}{o:Nat}{g:jY}{l:List KS}{ok:Bool}(ht:T.P.underlying t=some (.map Z R))(N:T.pN Z=some sh)
  (hi:T.P.info? R=some y) (hz:y.zero=some z) (M:ofValue z=some X) (hx:bG E (.map o) x) (hk:bG E pk k) (ho:H o=some (.map sh g)) (J:keyOf sh pk=some l) (hW:bZ E H w) :
  ∃v,(Instr.lookup t x k ok).run T.P w=.ok v w/\bG E (if ok then .tup [(g l).getD X,.bool (g l).isSome]else(g l).getD X) v:=by
 cases hx;obtain⟨hlt,Y,A,L,hh,⟨V,-⟩,rfl,B⟩:=hW.h o _ ho;obtain⟨U,K,-⟩:=vp hk J;have S:yM sh L Y.toList:=⟨by simpa using V,λi e O a b=>by have:=B i e O a (by simpa using b);exact⟨this.1,this.2.1⟩⟩;obtain⟨r,g1,g2⟩:=SV (w:=w) N K S;have g3:=Hi (E:=E) g2 λi e O a b=>(B i e O a (by simpa using b)).2.2;subst U;have D:(getObj o).run T.P w=.ok (.map Y A) w:=by simp[getObj,Sem.run,hh]
 have W:(zeroValue R).run T.P w=.ok z w:=by simp[zeroValue,typeInfo,run_program,hi,hz]
 simp only[Instr.lookup,Sem.run_bind,run_underlying ht,Result.andThen_ok,D,Sem.run_pure,MJ N K,g1];rcases g3 with⟨g4,rfl⟩|⟨j,pv,v,g4,rfl,hr⟩
 simp only[W,Sem.run_bind,Result.andThen_ok,Sem.run_pure,g4,Option.getD_none,Option.isSome_none];cases ok;exact⟨z,rfl,CI M⟩
 ·refine⟨_,rfl,.tup #[z,.bool false] rfl λj p u a b=>?_⟩
  match j with
  |0=>simp at a b;subst a;subst b;exact CI M
  |1=>simp at a b;subst a;subst b;exact .bool _
  |j+2=>simp at a
 simp only[Sem.run_pure,Result.andThen_ok,g4,auV,Option.isSome_some];cases ok;exact⟨v,rfl,hr⟩
 ·refine⟨_,rfl,.tup #[v,.bool true] rfl λj p u a b=>?_⟩
  match j with
  |0=>simp at a b;subst a;subst b;exact hr
  |1=>simp at a b;subst a;subst b;exact .bool _
  |j+2=>simp at a
end
open Go Go.RowKit
section
variable {ds:List Deferred} {T:Tbl} {n:Nat} {E:Env} {F:PF} {H:PH} {a:Act} {w:World}
def Good(P:Program)(E:Env)(H:PH)(w:World)(o:Oper)(a:Act)(pv:PV):Prop:=
 ∃v i e,(execOp a.eval o).run P w=.ok (.value v) i/\bG e pv v/\bZ e H i/\Ext E H w e H i
theorem Good.mk'{P:Program}{o:Oper}{pv:PV}{v:Value}(hW:bZ E H w)(h:(execOp a.eval o).run P w=.ok (.value v) w)(r:bG E pv v):Good P E H w o a pv:=⟨v,w,E,h,r,hW,.refl E H w⟩
theorem Good.of{P:Program}{o:Oper}{pv:PV}{s:Sem Value}(he:execOp a.eval o=(do pure (.value (<-s)):Sem Next))(h:Yields P E H w s pv):Good P E H w o a pv:=by
 obtain⟨v,y,e,i,l,u,x⟩:=h;exact⟨v,y,e,zD he i,l,u,x⟩
theorem Good.val{P:Program}{o:Oper}{pv:PV}{s:Sem Value}(hW:bZ E H w)(he:execOp a.eval o=(do pure (.value (<-s)):Sem Next))(h:∃v,s.run P w=.ok v w/\bG E pv v):Good P E H w o a pv:=by
 obtain⟨v,e,i⟩:=h;exact .of he (Yields.same hW e i)
theorem Lk{t:TypeId}{o:Oper}{x:Operand}{lo hi mx:Option Operand}{p:aP}{pl ph pm:Option aP}{e:TypeId}{s:Nat}{pv:PV}(W:o.op=.slice t x lo hi mx)(U:T.P.underlying t=some (.slice e))(S:T.size e=some s)
  (X:T.opd x=some p) (O:T.opt lo=some pl) (N:T.opt hi=some ph) (K:T.opt mx=some pm) (R:¬(mx.isSome=true/\hi.isNone=true)) (i:aX (.slice s p pl ph pm) F H=some pv)
  (L:eX ds n E F a) (hW:bZ E H w) (M:E.num=T.num):Good T.P E H w o a pv:=by
 refine Good.val hW (s:=Instr.sliceAt t (a.eval x) (lo.map a.eval) (hi.map a.eval) (mx.map a.eval)) (by unfold execOp;rw[W]) ?_;have u:pm≠none->hi≠none:=λh e=>by
  subst e;cases mx with
  |none=>simp[Tbl.opt]at K;exact h K.symm
  |some y=>exact R ⟨rfl,rfl⟩
 simp only[aX]at i;split at i;rename_i v V;have r:=bL X V L M;split at i;split at i;rename_i l h B A;refine LC (len:=0) U S O N K r B A (.inl ⟨rfl,rfl⟩) ?_ L M;split at i;exact .inl ⟨rfl,i⟩;simp only[awX]at i;obtain⟨m,D,J⟩:=i;exact .inr ⟨u aZ,m,D,J⟩;cases i;split at i;rename_i l h B A;refine LC U S O N K r B A (.inr (.inl ⟨_,_,rfl,rfl⟩)) ?_ L M;split at i;exact .inl ⟨rfl,i⟩;simp only[awX]at i;obtain⟨m,D,J⟩:=i;exact .inr ⟨u aZ,m,D,J⟩;cases i;split at i;rename_i l h B A;refine LC U S O N K r B A (.inr (.inr ⟨_,_,_,rfl⟩)) ?_ L M;split at i;exact .inl ⟨rfl,i⟩;simp only[awX]at i;obtain⟨m,D,J⟩:=i;exact .inr ⟨u aZ,m,D,J⟩;cases i;cases i;cases i
theorem pH{o:Oper}{c:Call}{b:Builtin}{s:Sem Value}{pv:PV}(u:o.op=.call c)(e:c.callee=.builtin b)(hb:∀cs,builtin b c.argTypes o.type cs (c.args.map a.eval)=(do pure (.value (<-s)):Sem Next))
  (hW:bZ E H w) (h:∃v,s.run T.P w=.ok v w/\bG E pv v):Good T.P E H w o a pv:=by
 obtain⟨v,i,l⟩:=h;refine .mk' hW ?_ l;unfold execOp;rw[u];simp[resolve,e,invoke,hb,i]
theorem Z7{xs:Array Operand}{x:Operand}(h:xs.toList=[x])(f:Operand->Value):xs.map f=#[f x]:=by
 apply Array.ext';simp[h]
theorem Le{xs:Array Operand}{x y:Operand}(h:xs.toList=[x,y])(f:Operand->Value):xs.map f=#[f x,f y]:=by
 apply Array.ext';simp[h]
theorem agF{α:Type}{xs:Array α}{x:α}(h:xs.toList=[x]):xs=#[x]:=by apply Array.ext';simp[h]
theorem size_data(s:ByteArray):Z' s.data.toList=s.size:=by rw[awC];rfl
theorem P9{o:Oper}{c:Call}{p:POp}{pv:PV}(S:o.op=.call c)(i:T.call o c=some p)(hw:p.eY=false)(hk:p.tM=false)(l:aX p F H=some pv)
  (M:eX ds n E F a) (hW:bZ E H w) (N:E.num=T.num):Good T.P E H w o a pv:=by
 unfold Tbl.call at i;split at i
 ·rename_i b B;split at i
  ·
   rename_i x t A R;have V:=Z7 A a.eval;have e2:=agF R;split at i
   ·rename_i k e K;cases i;simp[aX,aP.ev]at l;subst l;refine pH (s:=Builtin.len_ c.argTypes o.type (c.args.map a.eval)) S B (λcs=>rfl) hW ⟨goInt k,?_,.int _ _⟩;rw[V,e2];simp[Builtin.len_,run_underlying K]
   ·rename_i K;simp only[atB]at i;obtain⟨q,hq,rfl⟩:=i;simp only[aX]at l;split at l
    ·rename_i s0 D;cases l;have r:=bL hq D M N;generalize J:a.eval x=ex at r;cases r with
     |str s=>
     refine pH (s:=Builtin.len_ c.argTypes o.type (c.args.map a.eval)) S B (λcs=>rfl) hW ⟨goInt s.size,?_,?_⟩
     ·rw[V,e2,J];simp[Builtin.len_,run_underlying K]
     ·rw[size_data];exact .int _ _
    ·cases l
   ·rename_i e K;simp only[atB]at i;obtain⟨q,hq,rfl⟩:=i;have α:∀(ad:Option Addr)(m cap:Nat),a.eval x=.slice ad m cap->Good T.P E H w o a (.int .i64 m):=by intro ad m cap J;refine pH (s:=Builtin.len_ c.argTypes o.type (c.args.map a.eval)) S B (λcs=>rfl) hW ⟨goInt m,?_,.int _ _⟩;rw[V,e2,J];simp[Builtin.len_,run_underlying K]
    simp only[aX,awX]at l;obtain⟨u,D,l⟩:=l;have r:=bL hq D M N;generalize J:a.eval x=ex at r;cases u<;>simp only[PV.sX]at l<;>cases l
    all_goals
     cases r;exact α _ _ _ J
   ·rename_i kt et K;simp only[atB]at i;obtain⟨q,hq,rfl⟩:=i;simp only[aX]at l;split at l
    ·rename_i m D;split at l
     ·rename_i sh g hg;cases l;have r:=bL hq D M N;generalize J:a.eval x=ex at r;cases r;obtain⟨hlt,es,O,L,hh,⟨Z,Y⟩,rfl,-⟩:=hW.h m _ hg;have U:(getObj m).run T.P w=.ok (.map es O) w:=by simp[getObj,Sem.run,hh]
      refine pH (s:=Builtin.len_ c.argTypes o.type (c.args.map a.eval)) S B (λcs=>rfl) hW ⟨goInt es.size,?_,?_⟩
      ·rw[V,e2,J];simp[Builtin.len_,run_underlying K,U]
      ·rw[M7 Y,<-Z];exact .int _ _
     ·cases l
    ·cases l
   ·cases i
  ·
   split at i<;>try cases i
   split at i<;>try cases i
   split at i<;>cases i;simp[POp.eY]at hw
  ·
   rename_i x t A R;split at i
   ·rename_i e K;simp only[atB]at i;obtain⟨q,hq,rfl⟩:=i;simp only[aX]at l;split at l
    ·rename_i D;cases l;have r:=bL hq D M N;generalize J:a.eval x=ex at r;cases r;refine pH (s:=Builtin.cap_ c.argTypes o.type (c.args.map a.eval)) S B (λcs=>rfl) hW ⟨goInt 0,?_,.int _ _⟩;rw[Z7 A a.eval,agF R,J];simp[Builtin.cap_,run_underlying K]
    ·cases l
   ·cases i
  ·
   rename_i x y A;split at i<;>cases i;rename_i p q hp hq;simp only[aX]at l;split at l
   ·rename_i k m k' m' W X;have r1:=bL hp W M N;have r2:=bL hq X M N;split at l
    ·cases l;generalize J:a.eval x=ex at r1;generalize hy:a.eval y=ey at r2;cases r1;cases r2;refine pH (s:=Builtin.max_ c.argTypes o.type (c.args.map a.eval)) S B (λcs=>rfl) hW ⟨_,?_,.int _ _⟩;rw[Le A a.eval,J,hy,run_max_int2];simp
    ·cases l
   ·cases l
  ·
   rename_i x y A;split at i<;>cases i;rename_i p q hp hq;simp only[aX]at l;split at l
   ·rename_i k m k' m' W X;have r1:=bL hp W M N;have r2:=bL hq X M N;split at l
    ·cases l;generalize J:a.eval x=ex at r1;generalize hy:a.eval y=ey at r2;cases r1;cases r2;refine pH (s:=Builtin.min_ c.argTypes o.type (c.args.map a.eval)) S B (λcs=>rfl) hW ⟨_,?_,.int _ _⟩;rw[Le A a.eval,J,hy,run_min_int2];simp
    ·cases l
   ·cases l
  ·cases i
 ·split at i
  ·split at i<;>cases i;simp[POp.tM]at hk
  ·cases i
 ·simp only[atB]at i;obtain⟨q,-,rfl⟩:=i;simp[POp.tM]at hk
 ·cases i
end
open Go Go.RowKit
section
variable {ds:List Deferred} {T:Tbl} {n:Nat} {E:Env} {F:PF} {H:PH} {a:Act} {w:World}
set_option maxHeartbeats 8000000 in
theorem Ll{o:Oper}{p:POp}{pv:PV}(B:T.op o=some p)(hn:p.iW=false)(hw:p.eY=false)(hk:p.tM=false)(A:aX p F H=some pv)
  (L:eX ds n E F a) (hW:bZ E H w) (K:E.num=T.num):Good T.P E H w o a pv:=by
 unfold Tbl.op at B;split at B
 
 rename_i x J;simp only[atB]at B;obtain⟨q,hq,rfl⟩:=B;exact .mk' hW (v:=a.eval x) (by unfold execOp;rw[J];simp) (bL hq A L K)
 
 rename_i x J;simp only[atB]at B;obtain⟨q,hq,rfl⟩:=B;exact .mk' hW (v:=a.eval x) (by unfold execOp;rw[J];simp) (bL hq A L K)
 
 rename_i c x y J;split at B<;>cases B;rename_i p1 p2 p3 N U h3;simp only[aX]at A;split at A;rename_i t D;have r:=bL N D L K;generalize S:a.eval c=ec at r;cases r;refine .mk' hW (v:=if t then a.eval x else a.eval y) (by unfold execOp;rw[J];simp[S,asBool]) ?_;cases t;exact bL h3 (by simpa using A) L K;exact bL U (by simpa using A) L K;cases A
 
 simp only[atB]at B;obtain⟨z,-,rfl⟩:=B;simp[POp.iW]at hn
 ·
  rename_i e x J;simp only[atB]at B;obtain⟨q,hq,rfl⟩:=B;generalize ξ:T.td o.dst=ro at *
  cases ro with
  |false=>simp[POp.iW]at hn
  |true =>simp only[aX]at A;split at A;rename_i v D;split at A;rename_i N;cases A;exact .of (s:=Instr.box e (a.eval x)) (by unfold execOp;rw[J]) (Gx hW (bL hq D L K) N);cases A;cases A
 
 rename_i t parts J;split at B;rename_i z fs hz M;split at B;rename_i hm;simp only[atB]at B;obtain⟨pl,α,rfl⟩:=B;simp only[aX,atB]at A;obtain⟨out,W,rfl⟩:=A;have R:=ZL (T:=T) (w:=w) hz (.inl ⟨fs,M,hm,α⟩) W L K;refine Good.val hW ?_ R;unfold execOp;rw[J];cases B;rename_i z k e hz M;split at B;rename_i s O;simp only[atB]at B;obtain⟨pl,α,rfl⟩:=B;simp only[aX,atB]at A;obtain⟨out,W,rfl⟩:=A;have R:=ZL (T:=T) (w:=w) hz (.inr ⟨k,e,s,M,O,α⟩) W L K;refine Good.val hW ?_ R;unfold execOp;rw[J];cases B;cases B
 
 rename_i t len parts J;split at B;rename_i e M;split at B;rename_i s z pl O hz α;split at B
 ·rename_i θ;cases B;generalize ξ:T.td o.dst=ro at *
  cases ro with
  |false=>simp[POp.iW]at hn
  |true =>simp only[aX]at A;split at A;rename_i ε;simp only[atB]at A;obtain⟨out,W,rfl⟩:=A;have R:=sv (T:=T) M O hz θ.1 θ.2 α ε.2 W L K hW;refine Good.of ?_ R;unfold execOp;rw[J];cases A
 cases B;cases B;cases B
 
 rename_i t x J;split at B;rename_i k q hg O hq;cases B;simp only[aX]at A;split at A;rename_i v D;simp only[atB]at A;obtain⟨cs,Z,rfl⟩:=A;have S:=bL hq D L K;have R:=an (T:=T) hg O hW S Z;refine Good.val hW (s:=Instr.loadAt t (a.eval x)) ?_ R;unfold execOp;rw[J];cases A;rename_i k q hg hq;cases B;simp only[aX]at A;split at A;rename_i v D;split at A;rename_i v' Z;cases A;have S:=bL hq D L K;have R:=nj (T:=T) hg hW S Z;refine Good.val hW (s:=Instr.loadAt t (a.eval x)) ?_ R;unfold execOp;rw[J];cases A;cases A;cases B
 
 split at B<;>cases B;simp[POp.eY]at hw
 
 rename_i x J;simp only[atB]at B;obtain⟨q,hq,rfl⟩:=B;simp only[aX]at A;split at A;rename_i D;cases A;have r:=bL hq D L K;refine .mk' hW (v:=a.eval x) ?_ r;generalize S:a.eval x=ex at r;cases r;unfold execOp;rw[J];simp[S];rename_i D;cases A;have r:=bL hq D L K;refine .mk' hW (v:=a.eval x) ?_ r;obtain⟨b,off,S⟩:=WD r;unfold execOp;rw[J];simp[S];cases A
 
 rename_i b t x y yt J;split at B;rename_i p q hp hq;have V:∀b',b=b'->aX (.bin b' p q) F H=some pv->Good T.P E H w o a pv:=by intro b' hb A;subst hb;simp only[aX]at A;split at A;rename_i v1 v2 N U;exact .val hW (s:=do eqGuard b t x y (a.eval x) (a.eval y);binOp b t (a.eval x) (a.eval y)) (by unfold execOp;rw[J]) (P4 (bL hp N L K) (bL hq U L K) A t x y);cases A
 have Y:∀neg,b=(if neg then .neq else .eql)->T.P.underlying t=some .bool->aX (.eqb neg p q) F H=some pv->Good T.P E H w o a pv:=by intro neg hb X A;simp only[aX]at A;split at A;rename_i v1 v2 N U;cases A;have r1:=bL hp N L K;have r2:=bL hq U L K;generalize S:a.eval x=ex at r1;generalize R:a.eval y=ey at r2;cases r1;cases r2;refine .val hW (s:=do eqGuard b t x y (a.eval x) (a.eval y);binOp b t (a.eval x) (a.eval y)) (by unfold execOp;rw[J]) ⟨_,?_,.bool _⟩;rw[S,R,hb];exact Qt neg v1 v2 x y X;cases A
 have β:∀neg {e},b=(if neg then .neq else .eql)->T.P.underlying t=some (.slice e)->q=.const .aG->aX (.isNil neg p) F H=some pv->Good T.P E H w o a pv:=by
  intro neg e hb X ν A;subst ν;simp only[aX]at A;cases N:p.ev F with
  |none=>rw[N]at A;cases A
  |some v1 =>rw[N,awQ,atB]at A;obtain⟨c,γ,rfl⟩:=A;have r1:=bL hp N L K;have r2:=bL (F:=F) hq rfl L K;generalize S:a.eval x=ex at r1;generalize R:a.eval y=ey at r2;cases r2;refine .val hW (s:=do eqGuard b t x y (a.eval x) (a.eval y);binOp b t (a.eval x) (a.eval y)) (by unfold execOp;rw[J]) ⟨_,?_,.bool _⟩;rw[S,R,hb];exact Hd neg r1 γ x y X
 have η:∀neg ks,b=(if neg then .neq else .eql)->T.flat t=some ks->aX (.eqs neg ks p q) F H=some pv->Good T.P E H w o a pv:=by intro neg ks hb X A;simp only[aX]at A;split at A;rename_i v1 v2 N U;simp only[atB]at A;obtain⟨c,γ,rfl⟩:=A;refine .val hW (s:=do eqGuard b t x y (a.eval x) (a.eval y);binOp b t (a.eval x) (a.eval y)) (by unfold execOp;rw[J]) ⟨_,?_,.bool _⟩;rw[hb];exact L7 neg (bL hp N L K) (bL hq U L K) γ x y X;cases A
 split at B;split at B;cases B;exact V _ rfl A;cases B;exact V _ rfl A;rename_i X;cases B;exact Y false rfl X A;simp only[atB]at B;obtain⟨ks,δ,rfl⟩:=B;exact η false ks rfl δ A;rename_i X;split at B;cases B;exact β false rfl X rfl A;cases B;cases B;split at B;cases B;exact V _ rfl A;cases B;exact V _ rfl A;rename_i X;cases B;exact Y true rfl X A;simp only[atB]at B;obtain⟨ks,δ,rfl⟩:=B;exact η true ks rfl δ A;rename_i X;split at B;cases B;exact β true rfl X rfl A;cases B;cases B;cases B;exact V _ rfl A;cases B
 
 rename_i u t x J;simp only[atB]at B;obtain⟨q,hq,rfl⟩:=B;simp only[aX]at A;split at A;rename_i v D;exact .val hW (s:=Op.unary u (a.eval x)) (by unfold execOp;rw[J]) (Zb (bL hq D L K) A);cases A
 
 rename_i s d x J;split at B;rename_i k k' q O hd hq;cases B;simp only[aX]at A;split at A;rename_i m D;cases A;have r:=bL hq D L K;generalize S:a.eval x=ex at r;cases r;refine .val hW (s:=convert s d (a.eval x)) (by unfold execOp;rw[J]) ⟨_,?_,.int _ _⟩;rw[S];simp[convert,run_underlying O,run_underlying hd,Conv.intToInt];cases A;rename_i q O hd hq;cases B;simp only[aX]at A;split at A;rename_i l D;cases A;have r:=bL hq D L K;refine .val hW (s:=convert s d (a.eval x)) (by unfold execOp;rw[J]) ⟨a.eval x,?_,r⟩;generalize S:a.eval x=ex at r;cases r;simp[convert,run_underlying O,run_underlying hd];cases A;rename_i e q O hd hq;split at B;rename_i he;cases B;simp only[aX]at A;split at A;rename_i v D;split at A;rename_i rows hr;simp only[atB]at A;obtain⟨l,hl,rfl⟩:=A;exact .val hW (s:=convert s d (a.eval x)) (by unfold execOp;rw[J]) (ki O he hd hW (bL hq D L K) hr hl);cases A;cases A;cases B;cases B
 
 rename_i f first captured J
 split at B;rename_i m cs hm Z;split at B;rename_i hf;cases B;simp only[aX,atB]at A;obtain⟨vs,σ,rfl⟩:=A;have r:=FC Z σ L K;refine .val hW (s:=Instr.makeFunc (.func f) (first.map a.eval) (captured.map a.eval)) (by unfold execOp;rw[J]) ⟨.func (.func f) #[] (captured.map a.eval),?_,?_⟩;have:first=#[]:=Array.eq_empty_of_size_eq_zero hf.2
 subst this;simp[Instr.makeFunc];have hl:=r.len;have:=bG.fn (E:=E) (name:=m) (captured:=vs) (captured.map a.eval) (by simpa using hl) (λj p v a b=>r.at_ j p v a (by simpa using b));rw[K,hf.1]at this;exact this;cases B;cases B
 
 split at B;simp only[atB]at B;obtain⟨z,-,rfl⟩:=B;simp[POp.iW]at hn;cases B
 
 rename_i t x k ok J;split at B;rename_i kt et M;split at B;rename_i sh z p1 q1 ρ hz hp hq;simp only[atB]at B;obtain⟨pz,μ,rfl⟩:=B;simp only[awX]at hz;obtain⟨τ,hi,hz⟩:=hz;simp only[aX]at A;split at A;rename_i m kv N U;split at A;rename_i χ g φ h3 h4;split at A;rename_i he;subst he;cases A;exact .val hW (s:=Instr.lookup t (a.eval x) (a.eval k) ok) (by unfold execOp;rw[J]) (Dn M ρ hi hz μ (bL hp N L K) (bL hq U L K) h3 h4 hW);cases A;cases A;cases A;cases B;cases B
 
 split at B;split at B<;>cases B;simp[POp.eY]at hw;cases B
 
 split at B;split at B<;>cases B;simp[POp.eY]at hw;cases B
 
 split at B;split at B;split at B<;>cases B;simp[POp.iW]at hn;cases B;cases B
 
 rename_i t x lo hi mx J;split at B;rename_i e p l h m M S hl hh hm;split at B;cases B;rename_i ι;simp only[atB]at B;obtain⟨s,O,rfl⟩:=B;exact Lk J M O S hl hh hm ι A L hW K;rename_i p l h M S hl hh hm;cases B;have κ:mx=none:=by
  cases mx with
  |none=>rfl
  |some y=>simp only[Tbl.opt,atB]at hm;obtain⟨_,-,hq⟩:=hm;cases hq
 subst κ;simp only[aX]at A;split at A;rename_i str D;split at A;rename_i li υ bl bh;split at A;rename_i hb;cases A;exact .val hW (s:=Instr.sliceAt t (a.eval x) (lo.map a.eval) (hi.map a.eval) (Option.map a.eval none)) (by unfold execOp;rw[J]) (ug M hl hh (bL S D L K) bl bh hb.1 hb.2.1 hb.2.2 L K);cases A;cases A;cases A;rename_i n' e p M S hl hh hm;have ζ:∀{y:Option Operand},T.opt y=some none->y=none:=by
  intro y R;cases y with
  |none=>rfl
  |some y=>simp only[Tbl.opt,atB]at R;obtain⟨_,-,hq⟩:=R;cases hq
 have N:=ζ hl;have U:=ζ hh;have h3:=ζ hm;subst N U h3;simp only[atB]at B;obtain⟨s,O,rfl⟩:=B;simp only[aX]at A;split at A;rename_i cs D;split at A;rename_i hb;cases A;exact .val hW (s:=Instr.sliceAt t (a.eval x) (Option.map a.eval none) (Option.map a.eval none) (Option.map a.eval none)) (by unfold execOp;rw[J]) (Ft M O (bL S D L K) hb.1 hb.2.2 L K);cases A;cases A;cases B
 
 rename_i t x f J;split at B;rename_i fs q M hq;split at B;rename_i fd hf;split at B;rename_i s O;cases B;simp only[aX]at A;split at A;rename_i D;cases A;exact .val hW (s:=Instr.fieldAt t (a.eval x) f) (by unfold execOp;rw[J]) (UN M hf O (bL hq D L K) (.inl ⟨_,_,_,_,rfl,rfl⟩));rename_i D;cases A;exact .val hW (s:=Instr.fieldAt t (a.eval x) f) (by unfold execOp;rw[J]) (UN M hf O (bL hq D L K) (.inr ⟨_,rfl,rfl⟩));cases A;cases B;cases B;cases B
 
 rename_i t x f J;split at B;rename_i fs q M hq;split at B;rename_i fd hf;split at B;rename_i k hg O;cases B;simp only[aX]at A;split at A;rename_i cs D;split at A;rename_i ε;cases A;exact .val hW (s:=Instr.field t (a.eval x) f) (by unfold execOp;rw[J]) (L8 M hf hg O (bL hq D L K) ε);cases A;cases A;rename_i k hg;cases B;simp only[aX]at A;split at A;rename_i cs D;exact .val hW (s:=Instr.field t (a.eval x) f) (by unfold execOp;rw[J]) (Qw M hf hg (bL hq D L K) A);cases A;cases B;cases B;cases B
 
 rename_i t x i J;split at B;rename_i e p q M hp hq;simp only[atB]at B;obtain⟨s,O,rfl⟩:=B;simp only[aX]at A;split at A;rename_i s0 rows k m N U;have r1:=bL hp N L K;have r2:=bL hq U L K;generalize R:a.eval i=ey at r2;cases r2;split at A;rename_i B;obtain⟨rfl,h0⟩:=B;split at A;rename_i r hr;cases A;refine .val hW (s:=Instr.indexAt t (a.eval x) (a.eval i)) (by unfold execOp;rw[J]) ?_;rw[R];exact acK M O r1 h0 hr;cases A;cases A;rename_i o' s0 off len k m N U;have r1:=bL hp N L K;have r2:=bL hq U L K;generalize R:a.eval i=ey at r2;cases r2;split at A;rename_i B;obtain⟨rfl,h0,hi⟩:=B;cases A;refine .val hW (s:=Instr.indexAt t (a.eval x) (a.eval i)) (by unfold execOp;rw[J]) ?_;rw[R];exact Wj M O r1 h0 hi;cases A;cases A;rename_i e p q k M hp hq;simp only[atB]at B;obtain⟨s,O,rfl⟩:=B;simp only[aX]at A;split at A;rename_i N U;have r1:=bL hp N L K;have r2:=bL hq U L K;generalize R:a.eval i=ey at r2;cases r2;split at A;rename_i B;cases A;refine .val hW (s:=Instr.indexAt t (a.eval x) (a.eval i)) (by unfold execOp;rw[J]) ?_;rw[R];exact mr M O r1 B.1 B.2 (.inl ⟨_,_,_,_,rfl,rfl⟩);cases A;rename_i N U;have r1:=bL hp N L K;have r2:=bL hq U L K;generalize R:a.eval i=ey at r2;cases r2;split at A;rename_i B;cases A;refine .val hW (s:=Instr.indexAt t (a.eval x) (a.eval i)) (by unfold execOp;rw[J]) ?_;rw[R];exact mr M O r1 B.1 B.2 (.inr ⟨_,rfl,rfl⟩);cases A;cases A;cases B
 
 rename_i t x i J;split at B;rename_i e p q k M hp hq;split at B;rename_i s g O hg;cases B;simp only[aX]at A;split at A;rename_i N U;have r1:=bL hp N L K;have r2:=bL hq U L K;generalize R:a.eval i=ey at r2;cases r2;split at A;rename_i B;refine .val hW (s:=Instr.index t (a.eval x) (a.eval i)) (by unfold execOp;rw[J]) ?_;rw[R];exact Mv M O hg r1 B.1 B.2 A;cases A;cases A;cases B;rename_i p q M hp hq;cases B;simp only[aX]at A;split at A;rename_i N U;have r1:=bL hp N L K;have r2:=bL hq U L K;generalize R:a.eval i=ey at r2;cases r2;split at A;rename_i B;refine .val hW (s:=Instr.index t (a.eval x) (a.eval i)) (by unfold execOp;rw[J]) ?_;rw[R];exact C8 M r1 B A;cases A;cases A;cases B
 
 rename_i x i J;simp only[atB]at B;obtain⟨q,hq,rfl⟩:=B;simp only[aX]at A;split at A
 ·rename_i vs D;have r:=bL hq D L K;generalize S:a.eval x=ex at r;cases r with
  |tup us hl hr=>
  obtain⟨u,M,ο⟩:=Br hl hr A;refine .val hW (s:=Instr.extract (a.eval x) i) (by unfold execOp;rw[J]) ⟨u,?_,ο⟩;rw[S];simp[Instr.extract,M]
 cases A;rename_i c J;exact P9 J B hw hk A L hW K;cases B
end
open Go Go.RowKit
def Env.own(E:Env)(b n:Nat):Env:=⟨E.G,upd E.sz b (some n),E.num⟩
section
variable {ds:List Deferred} {T:Tbl} {n:Nat} {E:Env} {F:PF} {H:PH} {a:Act} {w:World}
theorem Env.ahE(hW:bZ E H w)(m:Nat):E.le (E.own w.heap.size m):=by
 refine⟨λb ds h=>h,λb k h=>?_,rfl⟩;have:=hW.Fj h;simp only[Env.own];rw[XF _ _ Om];exact h
theorem CR{s:Nat}{rs:P2_}(h:∀r∈rs,Z' r=s){i j:Nat}{pv:PV}(hp:at2 rs i j=some pv):i<Z' rs/\j<s:=by
 unfold at2 at hp;cases e:rs[i]? with
 |none=>simp[e]at hp
 |some r=>
  rw[e,awQ]at hp;have l:=h r (auZ e);refine⟨?_,?_⟩;rcases atY i rs.length with h'|h'
  exact h';rw[auE h']at e;cases e;rcases atY j r.length with h'|h'
  omega;rw[auE h']at hp;cases hp
def mW(E:Env)(s:Nat)(rs:P2_)(cs:Array Value):Prop:=
 (∀r∈rs,Z' r=s)/\Z' rs*s<=cs.size/\∀i j pv,at2 rs i j=some pv->∃u,cs[i*s+j]?=some u/\u.oneCell'=true/\bG E pv u
theorem mW.of_flat{s:Nat}{rs:P2_}{cs:Array Value}(h:rP E rs.flatten cs)(l:∀r∈rs,Z' r=s):mW E s rs cs:=by
 refine⟨l,by rw[h.1,uB rs l];exact asU _,λi j pv hp=>?_⟩;obtain⟨-,u⟩:=CR l hp;have e:=CB rs i j l u;rw[hp]at e;have hlt:i*s+j<cs.size:=by
  rw[h.1];rcases atY (i*s+j) rs.flatten.length with h'|h'
  exact h';rw[auE h']at e;cases e
 exact⟨cs[i*s+j],awR hlt,h.2.1 _ (Array.getElem_mem_toList hlt),h.2.2 _ pv _ e (awR hlt)⟩
theorem mW.mono{e:Env}(A:E.le e){s:Nat}{rs:P2_}{cs:Array Value}(h:mW E s rs cs):mW e s rs cs:=
 ⟨h.1,h.2.1,λi j pv hp=>by obtain⟨u,l,x,y⟩:=h.2.2 i j pv hp;exact⟨u,l,x,y.mono A⟩⟩
theorem cW(H:PH)(o q:Nat)(x:aS):(H.set o x).f q=if q=o then some x else H.f q:=rfl
theorem bZ.TM(hW:bZ E H w){s:Nat}{rs:P2_}{cs:Array Value}(ty:TypeId)(h:mW E s rs cs) :
  bZ (E.own w.heap.size cs.size) (H.set w.heap.size (.rows s rs)) (w.alloc (.cells cs ty))/\Ext E H w (E.own w.heap.size cs.size) (H.set w.heap.size (.rows s rs)) (w.alloc (.cells cs ty)):=by
 have B:=Env.ahE hW cs.size;refine⟨⟨λb ds hb=>?_,λo x l=>?_,λo m J=>?_⟩,⟨B,rfl,rfl,rfl,by simp,λb hb _=>Below.heap_alloc w _ b hb,λo x l=>?_,λb ds hb=>.inl hb⟩⟩;obtain⟨y,D,fr,A⟩:=hW.g b ds hb;have hlt:=hW.Mg hb;refine⟨λx L=>y x ?_,D,fr,(Below.heap_alloc w _ b hlt).trans A⟩;rw[cW,aC Om]at L;exact L;rw[cW]at l;split at l;rename_i e;subst e;cases l;refine⟨by simp,cs,ty,heap_alloc_new w _,by simp[Env.own,upd],h.1,h.2.1,λi j pv hp=>?_⟩;obtain⟨u,y,A,M⟩:=h.2.2 i j pv hp;exact⟨u,y,A,M.mono B⟩;obtain⟨y,A⟩:=hW.h o x l;exact⟨by simp;omega,A.mono B (Below.heap_alloc w _ o y)⟩;simp only[Env.own,upd]at J;split at J;rename_i e;cases J;subst e;exact⟨cs,ty,(0,0),heap_alloc_new w _,rfl⟩;obtain⟨K,D,fr,y,A⟩:=hW.s o m J;exact⟨K,D,fr,(Below.heap_alloc w _ o (hW.Fj J)).trans y,A⟩;rw[cW]at l;split at l;rename_i e;exact .inr Om;exact .inl ⟨x,l⟩
theorem bZ.agD(hW:bZ E H w)(sh:MSh):bZ E (H.set w.heap.size (.map sh (λ_=>none))) (w.alloc (.map #[] 0))/\Ext E H w E (H.set w.heap.size (.map sh (λ_=>none))) (w.alloc (.map #[] 0)):=by
 refine⟨⟨λb ds hb=>?_,λo x l=>?_,λo m D=>?_⟩,⟨.refl E,rfl,rfl,rfl,by simp,λb hb _=>Below.heap_alloc w _ b hb,λo x l=>?_,λb ds hb=>.inl hb⟩⟩;obtain⟨y,u,fr,A⟩:=hW.g b ds hb;have hlt:=hW.Mg hb;refine⟨λx J=>y x ?_,u,fr,(Below.heap_alloc w _ b hlt).trans A⟩;rw[cW,aC Om]at J;exact J;rw[cW]at l;split at l;rename_i e;subst e;cases l;exact⟨by simp,#[],0,[],heap_alloc_new w _,⟨rfl,List.nodup_nil⟩,rfl,λi e K h=>by simp at h⟩;obtain⟨y,A⟩:=hW.h o x l;exact⟨by simp;omega,A.mono (.refl E) (Below.heap_alloc w _ o y)⟩;obtain⟨B,u,fr,y,A⟩:=hW.s o m D;exact⟨B,u,fr,(Below.heap_alloc w _ o (hW.Fj D)).trans y,A⟩;rw[cW]at l;split at l;rename_i e;exact .inr Om;exact .inl ⟨x,l⟩
def ajT(P:Program)(E:Env)(H:PH)(w:World)(o:Oper)(a:Act)(l:Nat->PV)(x:aS):Prop:=
 ∃v i e q,(execOp a.eval o).run P w=.ok (.value v) i/\H q=none/\bG e (l q) v/\bZ e (H.set q x) i/\Ext E H w e (H.set q x) i
theorem pd{cs:V_}{vs:Array Value}(h:rP E cs vs):mW E cs.length [cs] vs:=by
 refine .of_flat (by simpa using h) aZ
theorem Em(E:Env)(b m:Nat):(E.own b m).sz b=some m:=by simp[Env.own,upd]
theorem Gz{o:Oper}{c:Call}{p:POp}(e:T.call o c=some p):p.iW=false:=by
 unfold Tbl.call at e
 repeat' (first|(split at e)|(simp only[atB]at e;obtain⟨_,-,rfl⟩:=e;rfl)|(cases e;rfl)|(cases e;done))
theorem R1{o:Oper}{p:POp}{mk:Nat->PV}{x:aS}(u:T.op o=some p)(V:p.iW=true)(B:cQ p F=some (mk,x))(hA:eX ds n E F a)(hW:bZ E H w)(hN:E.num=T.num):ajT T.P E H w o a mk x:=by
 have D:=hW.Mt;unfold Tbl.op at u;split at u
 case h_4=>
  rename_i e M;simp only[atB]at u;obtain⟨z,hz,rfl⟩:=u;simp only[cQ,auY.injEq,Prod.mk.injEq]at B;obtain⟨rfl,rfl⟩:=B;obtain⟨i,Y,hi,U,X⟩:=SG (E:=E) hz;obtain⟨Z,h2⟩:=hW.TM e (pd X);have A:(Instr.alloc e true (.tuple #[])).run T.P w=.ok (.pointer (some ⟨w.heap.size,0,none⟩)) (w.alloc (.cells Y.cells e)):=by simp[Instr.alloc,zeroValue,typeInfo,hi,U,newVar,newRow]
  refine⟨_,_,_,w.heap.size,zD ?_ A,D,?_,Z,h2⟩
  ·unfold execOp;rw[M]
  ·have:=bG.ptr (E:=E.own w.heap.size Y.cells.size) w.heap.size z.length 0 0;simpa using this
 case h_5=>
  rename_i e y M;simp only[atB]at u;obtain⟨q,hq,rfl⟩:=u;generalize ζ:T.td o.dst=ro at *
  cases ro with
  |true=>simp[POp.iW]at V
  |false=>
   simp only[cQ]at B;split at B
   ·rename_i v W;split at B
    ·rename_i Z;simp only[auY.injEq,Prod.mk.injEq]at B;obtain⟨rfl,rfl⟩:=B;obtain⟨c1,c2,c3⟩:=CU (bL hq W hA hN) Z;obtain⟨g1,g2⟩:=hW.TM e (pd (E:=E) (cs:=v.cells) (vs:=(a.eval y).cells) ⟨c1,c2,c3⟩);have A:(Instr.box e (a.eval y)).run T.P w=.ok (.pointer (some ⟨w.heap.size,0,none⟩)) (w.alloc (.cells (a.eval y).cells e)):=by simp[Instr.box,newVar,newRow]
     refine⟨_,_,_,w.heap.size,zD ?_ A,D,?_,g1,g2⟩
     ·unfold execOp;rw[M]
     ·have:=bG.ptr (E:=E.own w.heap.size (a.eval y).cells.size) w.heap.size v.cells.length 0 0;simpa using this
    ·cases B
   ·cases B
 case h_7=>
  rename_i t len parts M;split at u
  ·rename_i e hu;split at u
   ·rename_i s z pl hs hz ε;split at u
    ·rename_i J;cases u;generalize ζ:T.td o.dst=ro at *
     cases ro with
     |true=>simp[POp.iW]at V
     |false=>
      simp only[cQ]at B;split at B
      ·rename_i δ;simp only[atB,Prod.mk.injEq]at B;obtain⟨out,γ,rfl,rfl⟩:=B;obtain⟨us,A,L,O,β⟩:=TT (w:=w) hu hs hz J.1 J.2 ε δ.2 γ hA hN;obtain⟨g1,g2⟩:=hW.TM e (mW.of_flat L O);refine⟨_,_,_,w.heap.size,zD ?_ A,D,?_,g1,g2⟩
       ·unfold execOp;rw[M]
       ·have θ:us.size=len*s:=by rw[L.1,uB out O,β]
        refine .osl (n:=us.size) rfl rfl (.inr aZ) (asU _) ?_ (Em _ _ _) (by rw[θ];omega);have:len*1<=len*s:=awP _ J.2;simp only[maxLen];omega
      ·cases B
    ·cases u
   ·cases u
  ·cases u
 case h_15=>
  rename_i t M;split at u
  case h_2=>cases u
  simp only[atB]at u;obtain⟨sh,-,rfl⟩:=u;simp only[cQ,auY.injEq,Prod.mk.injEq]at B;obtain⟨rfl,rfl⟩:=B;obtain⟨g1,g2⟩:=hW.agD sh;have A:(Instr.makeMap t (Option.map a.eval none)).run T.P w=.ok (.map (some w.heap.size)) (w.alloc (.map #[] 0)):=by simp[Instr.makeMap]
  refine⟨_,_,_,w.heap.size,zD ?_ A,D,.map _,g1,g2⟩;unfold execOp;rw[M]
 case h_19=>
  rename_i t l c M;split at u
  ·rename_i e hu;split at u
   ·rename_i i z p q hi hz hp hq;split at u
    ·rename_i J;cases u;simp only[cQ]at B;split at B
     ·rename_i k1 m1 k2 R W ι;split at B
      ·rename_i S;simp only[auY.injEq,Prod.mk.injEq]at B;obtain⟨rfl,rfl⟩:=B;obtain⟨h0,Z,h2,h3,-⟩:=S;have r1:=bL hp W hA hN;have r2:=bL hq ι hA hN;generalize hx:a.eval l=ex at r1;generalize hy:a.eval c=ey at r2;cases r1;cases r2;obtain⟨i',Y,α,U,X⟩:=SG (E:=E) hz;rw[hi]at α;cases α;have A:=run_make w t e i Y hu hi U k1 k2 m1 R h0 Z (by rw[Int.mul_comm];omega) h3;have L:=X.aaQ (len:=R.toNat) J.1 J.2;have N:mW E i.size (asT R.toNat z) (madeCells Y.cells (R.toNat*i.size)):=
        mW.of_flat L (λr hr=>by rw[(List.mem_replicate.1 hr).2];exact J.1)
       have η:mW E i.size (asT m1.toNat z) (madeCells Y.cells (R.toNat*i.size)):=by
        refine⟨λr hr=>by rw[(List.mem_replicate.1 hr).2];exact J.1,?_,λa b pv K=>N.2.2 a b pv ?_⟩
        ·have:=N.2.1;simp only[List.length_replicate]at this ⊢;have h5:m1.toNat*i.size<=R.toNat*i.size:=auO _ Om;omega
        ·unfold at2 at K ⊢;rw[List.getElem?_replicate]at K ⊢;split at K
         ·rw[aF Om];exact K
         ·simp at K
       obtain⟨g1,g2⟩:=hW.TM e η;refine⟨_,_,_,w.heap.size,zD (s:=Instr.makeSlice t (.int k1 m1) (.int k2 R)) ?_ A,D,?_,g1,g2⟩
       ·unfold execOp;rw[M];simp only[hx,hy]
       ·refine .osl (n:=(madeCells Y.cells (R.toNat*i.size)).size) rfl rfl (.inr aZ) Om (by simp only[maxLen];omega) (Em _ _ _) (by rw[size_madeCells];omega)
      ·cases B
     ·cases B
    ·cases u
   ·cases u
  ·cases u
 all_goals (first
  |(simp only[atB]at u;obtain⟨_,-,rfl⟩:=u;simp[POp.iW]at V;done)
  |skip)
 all_goals (repeat' (first|(split at u)|(simp only[atB]at u;obtain⟨_,-,rfl⟩:=u;simp[POp.iW]at V;done)|(cases u;simp[POp.iW]at V;done)|(cases u;done)))
 all_goals (rw[Gz u]at V;cases V)
end
open Go Go.RowKit
section
variable {ds:List Deferred} {T:Tbl} {n:Nat} {E:Env} {F:PF} {H:PH} {a:Act} {w:World}
theorem bZ.YZ(hW:bZ E H w){o s:Nat}{rs rs':P2_}{u cs:Array Value}{ty:TypeId}(M:H o=some (.rows s rs))(R:w.heap[o]?=some (.cells u ty (0,0)))(N:cs.size=u.size)
  (h:mW E s rs' cs):bZ E (H.set o (.rows s rs')) (w.setRow o cs)/\Ext E H w E (H.set o (.rows s rs')) (w.setRow o cs):=by
 have l:=setRow_heap w o u cs ty (0,0) R;have i:∀b,b≠o->(w.setRow o cs).heap[b]?=w.heap[b]?:=λb hb=>setRow_other w o b cs hb;have J:∀b ds,E.G b=some ds->b≠o:=λb ds hb e=>by subst e;have:=(hW.g b ds hb).1 _ M;cases this
 have K:E.sz o=some u.size:=by obtain⟨-,A,y,B,D,-⟩:=hW.h o _ M;rw[R]at B;cases B;exact D
 refine⟨⟨λb ds hb=>?_,λq x hq=>?_,λq m O=>?_⟩,⟨.refl E,rfl,rfl,rfl,by simp,λb _ S=>i b (λe=>by subst e;rw[M]at S;cases S),λq x hq=>?_,λb ds hb=>.inl hb⟩⟩;obtain⟨B,y,fr,D⟩:=hW.g b ds hb;have L:=J b ds hb;refine⟨λx U=>B x ?_,y,fr,(i b L).trans D⟩;rw[cW,aC L]at U;exact U;rw[cW]at hq;split at hq;rename_i e;subst e;cases hq;refine⟨by simpa using(hW.h q _ M).1,cs,ty,l,by rw[N];exact K,h.1,h.2.1,h.2.2⟩;rename_i e;obtain⟨B,D⟩:=hW.h q x hq;exact⟨by simpa using B,D.mono (.refl E) (i q e)⟩;by_cases e:q=o;subst e;rw[K]at O;cases O;exact⟨cs,ty,(0,0),l,N⟩;obtain⟨A,y,fr,B,D⟩:=hW.s q m O;exact⟨A,y,fr,(i q e).trans B,D⟩;rw[cW]at hq;split at hq;rename_i e;subst e;exact .inl ⟨_,M⟩;exact .inl ⟨x,hq⟩
def Bo(P:Program)(E:Env)(H:PH)(w:World)(o:Oper)(a:Act)(K:R_):Prop:=
 ∃v i l e H' pv,(execOp a.eval o).run P w=.ok i l/\(i=.value v\/(i=.skip/\v=undef))/\bG e pv v/\bZ e H' l/\Ext E H w e H' l/\K pv H'
theorem WK:∀(ps:V_)(r:V_)(c j:Nat),c+Z' ps<=Z' r->(setCells r c ps)[j]?=if c<=j/\j<c+ps.length then ps[j-c]? else r[j]?
 |[],r,c,j,_=>by rw[aC (by intro h;simp at h;omega)];rfl
 |p::ps,r,c,j,h=>by simp only[atZ]at h ⊢;simp only[setCells];rw[WK ps _ (c+1) j (by rw[auD];omega),avY];by_cases e:c=j;subst e;rw[aC Om,aF rfl,aF Om,aF Om];simp;by_cases i:c+1<=j/\j<c+1+Z' ps;rw[aF i,aF Om];have:j-c=(j-(c+1))+1:=Om;rw[this,List.getElem?_cons_succ];rw[aC i,aC e,aC Om]
theorem Og(L cs:List Value)(off k:Nat)(h:off+Z' cs<=Z' L):(L.take off++cs++L.drop (off+Z' cs))[k]?=if off<=k/\k<off+cs.length then cs[k-off]? else L[k]?:=by
 have e:(L.take off).length=off:=by rw[atF];omega
 by_cases i:k<off;rw[aC Om,atV,avM Om,awI,aF i];by_cases hb:k<off+Z' cs;rw[aF ⟨by omega,hb⟩,atV,auS Om,e,avM Om];rw[aC Om,atV,auS Om,e,auS Om,awM];congr 1;omega
theorem mW.store{s:Nat}{rs:P2_}{l:Array Value}(h:mW E s rs l){i c:Nat}{r ps:V_}{B:List Value}(K:rs[i]?=some r)(V:c+Z' ps<=s)(W:Z' B=Z' ps)
  (S:∀u∈B,u.oneCell'=true) (J:∀(j:Nat) p u,ps[j]?=some p->B[j]?=some u->bG E p u) :
  mW E s (rs.set i (setCells r c ps)) (l.toList.take (i*s+c)++B++l.toList.drop (i*s+c+Z' B)).toArray:=by
 have hi:i<Z' rs:=by
  rcases atY i rs.length with h'|h'
  exact h';rw[auE h']at K;cases K
 have O:Z' r=s:=h.1 r (auZ K);have M:(i+1)*s<=Z' rs*s:=auO _ hi;rw[avS]at M;have R:=h.2.1;have D:i*s+c+Z' B<=Z' l.toList:=by(have e:Z' l.toList=l.size:=awC;omega)
 refine⟨λq hq=>?_,?_,λy j pv hp=>?_⟩;rcases axB hq with hq|rfl
 exact h.1 q hq;rw[JR];exact O;rw[auD,List.size_toArray];simp only[asX,atF,auU];have e:Z' l.toList=l.size:=awC;omega;rw[List.getElem?_toArray,Og _ _ _ _ D];by_cases e:y=i;subst e;simp only[at2,avY,if_true,hi,awQ]at hp;rw[WK ps r c j Om]at hp;split at hp;rename_i U;rw[aF Om];have e2:y*s+j-(y*s+c)=j-c:=Om;rw[e2];have hlt:j-c<Z' B:=Om;exact⟨B[j-c],asZ hlt,S _ (asS hlt),J _ pv _ hp (asZ hlt)⟩;rename_i U;have A:at2 rs y j=some pv:=by simp[at2,K,hp]
 have L:=(CR h.1 A).2;rw[aC Om,Array.getElem?_toList];exact h.2.2 y j pv A;have A:at2 rs y j=some pv:=by simp only[at2]at hp ⊢;rw[avY,aC (λx=>e x.symm)]at hp;exact hp
 have L:=(CR h.1 A).2;have N:¬(i*s+c<=y*s+j/\y*s+j<i*s+c+Z' B):=by
  rcases atY y i with h'|h'
  have:(y+1)*s<=i*s:=auO _ h';rw[avS]at this;omega;have:(i+1)*s<=y*s:=auO _ Om;rw[avS]at this;omega
 rw[aC N,Array.getElem?_toList];exact h.2.2 y j pv A
theorem Ii{o:Oper}{t:TypeId}{O x:Operand}{pp px:aP}{k:Nat}{pa pv:PV}{H':PH}(ho:o.op=.store t O x)(hs:T.size t=some k)(hp:T.opd O=some pp)(hx:T.opd x=some px)
  (W:pp.ev F=some pa) (X:px.ev F=some pv) (L:Z' pv.cells=k) (l:storeAt H pa pv.cells=some H') (hA:eX ds n E F a) (hW:bZ E H w) (hN:E.num=T.num) :
  ∃w',(execOp a.eval o).run T.P w=.ok .skip w'/\bZ E H' w'/\Ext E H w E H' w':=by
 unfold storeAt at l;split at l;rename_i q size i c;split at l;rename_i s rs hq;split at l;rename_i D;obtain⟨rfl,R,M⟩:=D;split at l;rename_i r Y;cases l;have ra:=bL hp W hA hN;generalize S:a.eval O=ea at ra;cases ra;obtain⟨c1,c2,c3⟩:=CU (bL hx X hA hN) M;obtain⟨-,y,ty,hh,α,N,J,B⟩:=hW.h q _ hq;have hR:mW E s rs y:=⟨N,J,B⟩;have hi:i<Z' rs:=by
  rcases atY i rs.length with h'|h'
  exact h';rw[auE h']at Y;cases Y
 have U:(i+1)*s<=Z' rs*s:=auO _ hi;rw[avS]at U;have Z:(a.eval x).cells.toList.length=Z' pv.cells:=by simpa using c1
 have K:i*s+c+0+(a.eval x).cells.toList.length<=y.size:=Om;have A:=run_storeCells_at T.P q (i*s+c) ty (a.eval x).cells.toList 0 y w hh K c2;simp only[auI]at A;obtain⟨g1,g2⟩:=hW.YZ hq hh (cs:=(y.toList.take (i*s+c)++(a.eval x).cells.toList++y.toList.drop (i*s+c+(a.eval x).cells.toList.length)).toArray)
  (by rw[List.size_toArray];simp only[asX,atF,auU];have e:Z' y.toList=y.size:=awC;omega)
  (hR.store Y R Z c2 (λj p u hp hu=>c3 j p u hp (by simpa using hu)))
 refine⟨_,?_,g1,g2⟩;unfold execOp;rw[ho];have V:¬((a.eval x).cells.size≠k):=by rw[c1,L];simp
 simp[S,Instr.storeAt,Instr.sureAddr,storeVar,lP hs,V,A];cases l;cases l;cases l;cases l
end
open Go Go.RowKit
section
variable {T:Tbl} {n:Nat} {E:Env} {F:PF} {H:PH} {a:Act} {w:World}
theorem x6{s:Nat}{pv:PV}{v:Value}{rows:P2_}(P:Program)(hW:bZ E H w)(V:bG E pv v)(h:dG H s pv=some rows) :
  ∃L cap,∃news:List Value,v=.slice L rows.length cap/\Z' news=Z' rows*s/\(∀u∈news,u.oneCell'=true)/\(∀r∈rows,Z' r=s) /\
   (∀i j q,at2 rows i j=some q->∃u,news[i*s+j]?=some u/\bG E q u) /\
   ∀A:World,A.heap=w.heap->(Builtin.firstCells s rows.length v).run P A=.ok news.toArray A:=by
 obtain⟨L,cap,rfl,O,l,U⟩:=rb hW V h;by_cases J:rows=[]
 ·subst J;refine⟨L,cap,[],rfl,by simp,by simp,by simp,λi j q hq=>by simp[at2]at hq,λA _=>?_⟩;cases L with
  |none=>simp[Builtin.firstCells]
  |some x=>simp[Builtin.firstCells,Go.loadCells,Go.loadCellsFrom]
 obtain⟨b,off,rfl,e⟩:=U J;have B:∀k,k<Z' rows*s->∃u q,at2 rows (k/s) (k%s)=some q/\w.cell? ⟨b,off+k,none⟩=some u/\u.oneCell'=true/\bG E q u:=by
  intro k y;have R:0<s:=by
   rcases avB s with h|h
   subst h;simp at y;exact h
  have N:k/s<Z' rows:=(axC R).2 y;have W:k%s<s:=Nat.mod_lt _ R;have S:k/s*s+k%s=k:=by rw[avC];exact Nat.div_add_mod k s
  have hq:∃q,at2 rows (k/s) (k%s)=some q:=by have Y:=l rows[k/s] (asS N);exact⟨rows[k/s][k%s]'Om,by simp[at2,N,asZ (Om:k%s<rows[k/s].length)]⟩
  obtain⟨q,hq⟩:=hq;obtain⟨u,g1,g2,g3⟩:=e _ _ q hq;rw[S]at g1;exact⟨u,q,hq,g1,g2,g3⟩
 refine⟨_,cap,(asP (Z' rows*s)).map λk=>(w.cell? ⟨b,off+k,none⟩).getD undef,rfl,by simp,?_,l,?_,?_⟩;intro u K;simp only[atM,atQ]at K;obtain⟨k,y,rfl⟩:=K;obtain⟨u,q,-,g1,g2,-⟩:=B k y;simp[g1,g2];intro i j q hq;obtain⟨hi,X⟩:=CR l hq;have hlt:i*s+j<Z' rows*s:=by have:(i+1)*s<=Z' rows*s:=auO _ hi;rw[avS]at this;omega
 obtain⟨u,g1,g2,g3⟩:=e i j q hq;refine⟨u,?_,g3⟩;rw[atC,auT hlt];simp[g1];intro A M;refine run_firstCells_some A s rows.length _ _ cap _ aZ (λj u K=>?_);rw[add_plain];simp only[atC,atB]at K;obtain⟨k,y,rfl⟩:=K;have D:j<Z' rows*s:=by
  rcases atY j (Z' rows*s)with h'|h'
  exact h';rw[auE (by simpa using h')]at y;cases y
 rw[auT D]at y;cases y;obtain⟨u,q,-,g1,-,-⟩:=B j D;have:A.cell? ⟨b,off+j,none⟩=w.cell? ⟨b,off+j,none⟩:=by simp[World.cell?,M]
 rw[this,g1];rfl
theorem IK{t ty e:TypeId}{i:TypeInfo}(B:T.P.underlying t=some (.slice e))(hi:T.P.info? e=some i)(base:Option Addr)(u l c:Nat)(y:Option Addr)(x:u<=l)
  (A:(Builtin.firstCells i.size 0 (.slice y 0 c)).run T.P w=.ok #[] w):(Builtin.append_ #[t,t] ty #[.slice base u l,.slice y 0 c]).run T.P w=.ok (.slice base u l) w:=by
 cases base with
 |none=>simp[Builtin.append_,run_underlying B,sizeOf,typeInfo,hi,Builtin.lenOf,x,A]
 |some b=>simp[Builtin.append_,run_underlying B,sizeOf,typeInfo,hi,Builtin.lenOf,x,A,storeCells]
theorem Fi{t ty e bt:TypeId}{i:TypeInfo}(N:T.P.underlying t=some (.slice e))(hi:T.P.info? e=some i)(g l y m c:Nat)(J:Option Addr)(x:Array Value)(M:w.heap[g]?=some (.cells x bt (0,0)))
  (news:List Value) (O:Z' news=m*i.size) (L:(Builtin.firstCells i.size m (.slice J m c)).run T.P w=.ok news.toArray w) (K:∀u∈news,u.oneCell'=true) (A:l+m<=y) (B:l*i.size+Z' news<=x.size) :
  (Builtin.append_ #[t,t] ty #[.slice (some ⟨g,0,none⟩) l y,.slice J m c]).run T.P w =
   .ok (.slice (some ⟨g,0,none⟩) (l+m) y) (w.setRow g (x.toList.take (l*i.size)++news++x.toList.drop (l*i.size+Z' news)).toArray):=by
 have D:=run_storeCells_at T.P g (l*i.size) bt news 0 x w M (by simpa using B) K;simp only[auI]at D;simp[Builtin.append_,run_underlying N,sizeOf,typeInfo,hi,Builtin.lenOf,A,L,Addr.add_lit,D]
theorem y8{t ty e bt:TypeId}{i:TypeInfo}(N:T.P.underlying t=some (.slice e))(hi:T.P.info? e=some i)(g d l y m c:Nat)(J:Option Addr)(x:Array Value)(M:w.heap[g]?=some (.cells x bt (0,0)))
  (news:List Value) (O:Z' news=m*i.size) (L:(Builtin.firstCells i.size m (.slice J m c)).run T.P w=.ok news.toArray w) (K:∀u∈news,u.oneCell'=true) (A:l+m<=y) (B:d+l*i.size+Z' news<=x.size) :
  (Builtin.append_ #[t,t] ty #[.slice (some ⟨g,d,none⟩) l y,.slice J m c]).run T.P w =
   .ok (.slice (some ⟨g,d,none⟩) (l+m) y) (w.setRow g (x.toList.take (d+l*i.size)++news++x.toList.drop (d+l*i.size+Z' news)).toArray):=by
 have D:=run_storeCells_at T.P g (d+l*i.size) bt news 0 x w M (by simpa using B) K;simp only[auI]at D;simp[Builtin.append_,run_underlying N,sizeOf,typeInfo,hi,Builtin.lenOf,A,L,add_plain,D]
theorem Fh{t ty e:TypeId}{i:TypeInfo}{z:Value}(N:T.P.underlying t=some (.slice e))(hi:T.P.info? e=some i)(O:i.zero=some z)(base:Option Addr)(l u m c:Nat)(B:Option Addr)(asM news:List Value)
  (M:(Builtin.firstCells i.size l (.slice base l u)).run T.P w.drew=.ok asM.toArray w.drew) (J:(Builtin.firstCells i.size m (.slice B m c)).run T.P w.drew=.ok news.toArray w.drew)
  (K:u<l+m) (A:l+m<=maxLen) (hb:(l+m)*i.bytes<=140737488355328) :
  (Builtin.append_ #[t,t] ty #[.slice base l u,.slice B m c]).run T.P w =
   .ok (.slice (some ⟨w.heap.size,0,none⟩) (l+m) (grownCap w (l+m) u e))
    (w.drew.alloc (.cells (asM.toArray++news.toArray++Builtin.zeroCells z.cells (grownCap w (l+m) u e-(l+m))) e)):=by
 have L:¬(l+m<=u):=Om;simp only[maxLen]at A;have y:¬(9223372036854775807<((l:Int)+(m:Int))):=Om;have D:=growslice_fits K hb;have x:¬(281474976710656<Builtin.nextslicecap (l+m) u*i.bytes):=Om;simp[Builtin.append_,run_underlying N,sizeOf,typeInfo,zeroValue,hi,O,Builtin.lenOf,L,y,x,Question.forced,J,M,newRow,grownCap];congr 2;apply Array.ext';simp[atV]
theorem bZ.drew(hW:bZ E H w):bZ E H w.drew:=⟨hW.g,λo x e=>⟨(hW.h o x e).1,(hW.h o x e).2.mono (.refl E) rfl⟩,hW.s⟩
theorem Ext.tv{e:Env}{H':PH}{i:World}(h:Ext E H w.drew e H' i):Ext E H w e H' i:=⟨h.env,h.os,h.tape,h.output,h.size,h.block,h.new,h.newG⟩
theorem Lf{rs src:P2_}(i j:Nat):at2 (rs++src) i j=if i<rs.length then at2 rs i j else at2 src (i-Z' rs) j:=by
 unfold at2;rw[List.getElem?_append];split<;>rfl
theorem mW.join{s:Nat}{rs src:P2_}{asM news:List Value}{tail:List Value}(y:∀r∈rs,Z' r=s)(A:∀r∈src,Z' r=s)(l:Z' asM=Z' rs*s)(x:Z' news=Z' src*s)
  (D:∀i j q,at2 rs i j=some q->∃u,asM[i*s+j]?=some u/\u.oneCell'=true/\bG E q u) (B:∀i j q,at2 src i j=some q->∃u,news[i*s+j]?=some u/\u.oneCell'=true/\bG E q u) :
  mW E s (rs++src) (asM++news++tail).toArray:=by
 refine⟨λr J=>?_,?_,λi j q hq=>?_⟩;rcases auC.1 J with h|h
 exact y r h;exact A r h;rw[List.size_toArray,asX,asX,asX,l,x,auM];omega;rw[Lf]at hq;rw[List.getElem?_toArray];split at hq;rename_i hi;obtain⟨u,g1,g2,g3⟩:=D i j q hq;refine⟨u,?_,g2,g3⟩;have hlt:i*s+j<Z' asM:=by
  rcases atY (i*s+j) asM.length with h'|h'
  exact h';rw[auE h']at g1;cases g1
 rw[atV,avM hlt];exact g1;rename_i hi;obtain⟨u,g1,g2,g3⟩:=B _ j q hq;refine⟨u,?_,g2,g3⟩;have hlt:(i-Z' rs)*s+j<Z' news:=by
  rcases atY ((i-Z' rs)*s+j) news.length with h'|h'
  exact h';rw[auE h']at g1;cases g1
 have e:i*s+j=Z' asM+((i-Z' rs)*s+j):=by rw[l,<-avZ,<-auM];congr 2;omega
 rw[e,atV,auS Om,Nat.add_sub_cancel_left,avM hlt];exact g1
theorem bZ.dead(hW:bZ E H w){o:Nat}{x:aS}(l:H o=some x):bZ E (H.set o .dead) w/\Ext E H w E (H.set o .dead) w:=by
 refine⟨⟨λb ds hb=>⟨λy i=>?_,(hW.g b ds hb).2⟩,λq y hq=>?_,hW.s⟩,⟨.refl E,rfl,rfl,rfl,asU _,λ_ _ _=>rfl,λq y hq=>?_,λb ds hb=>.inl hb⟩⟩;rw[cW]at i;split at i;cases i;rfl;exact(hW.g b ds hb).1 y i;rw[cW]at hq;split at hq;rename_i e;subst e;cases hq;exact⟨(hW.h q x l).1,trivial⟩;exact hW.h q y hq;rw[cW]at hq;split at hq;rename_i e;subst e;exact .inl ⟨x,l⟩;exact .inl ⟨y,hq⟩
end
open Go Go.RowKit
section
variable {T:Tbl} {n:Nat} {E:Env} {F:PF} {H:PH} {a:Act} {w:World}
theorem Mm(w:World)(i l:Nat)(e:TypeId):i<=grownCap w i l e:=grownCap_ge w i l e
theorem nL{o:Oper}{c:Call}{x y:Operand}{t:TypeId}{v:Value}{u:World}(B:o.op=.call c)(i:c.callee=.builtin .append)(e:c.args.toList=[x,y])(l:c.argTypes.toList=[t,t])
  (h:(Builtin.append_ #[t,t] o.type #[a.eval x,a.eval y]).run T.P w=.ok v u):(execOp a.eval o).run T.P w=.ok (.value v) u:=by
 unfold execOp;rw[B];have A:c.argTypes=#[t,t]:=by apply Array.ext';simp[l]
 have e2:=Le e a.eval;simp[resolve,i,invoke,builtin,A,e2,h]
theorem bZ.trim(hW:bZ E H w){o s k:Nat}{rs:P2_}(A:H o=some (.rows s rs)):bZ E (H.set o (.rows s (rs.take k))) w/\Ext E H w E (H.set o (.rows s (rs.take k))) w:=by
 refine⟨⟨λb ds hb=>⟨λy D=>?_,(hW.g b ds hb).2⟩,λq y hq=>?_,hW.s⟩,⟨.refl E,rfl,rfl,rfl,asU _,λ_ _ _=>rfl,λq y hq=>?_,λb ds hb=>.inl hb⟩⟩;rw[cW]at D;split at D;rename_i e;subst e;have:=(hW.g b ds hb).1 _ A;cases this;exact(hW.g b ds hb).1 y D;rw[cW]at hq;split at hq;rename_i e;subst e;cases hq;obtain⟨K,x,ty,L,B,u,J,l⟩:=hW.h q _ A;refine⟨K,x,ty,L,B,λr M=>u r (awU M),?_,λi j p hp=>l i j p ?_⟩;have:(rs.take k).length*s<=Z' rs*s:=auO _ (by rw[atF];omega);omega;unfold at2 at hp ⊢;rw[awI]at hp;split at hp;exact hp;simp at hp;exact hW.h q y hq;rw[cW]at hq;split at hq;rename_i e;subst e;exact .inl ⟨_,A⟩;exact .inl ⟨y,hq⟩
theorem Bv{o:Oper}{c:Call}{x y:Operand}{t e:TypeId}{i:TypeInfo}{px py:PV}{K:R_}(ho:o.op=.call c)(ο:c.callee=.builtin .append)(ξ:c.args.toList=[x,y])(ρ:c.argTypes.toList=[t,t])
  (ht:T.P.underlying t=some (.slice e)) (hi:T.P.info? e=some i) (hz:i.zero.isSome=true) (Q':(i.zero.map (·.cells.size))=some i.size) (h0:0<i.size)
  (hx:bG E px (a.eval x)) (hy:bG E py (a.eval y)) (hK:kP H i.size i.bytes px py K) (hW:bZ E H w):Bo T.P E H w o a K:=by
 obtain⟨z,hz⟩:=Option.isSome_iff_exists.1 hz;have R':z.cells.size=i.size:=by simpa[hz]using Q'
 obtain⟨src,x',hK⟩:=hK;obtain⟨ad,cap,news,S,γ,Γ,ν,β,L⟩:=x6 T.P hW hy x';have grow:∀(base:Option Addr)(l A:Nat)(rs:P2_) (asM:List Value),(Builtin.firstCells i.size l (.slice base l A)).run T.P w.drew=.ok asM.toArray w.drew->Z' asM=l*i.size->Z' rs=l ->
   (∀r∈rs,Z' r=i.size)->(∀O j q,at2 rs O j=some q->∃u,asM[O*i.size+j]?=some u/\u.oneCell'=true/\bG E q u)->A<l+Z' src->roomFor l src.length i.bytes->a.eval x=.slice base l A ->
   ∀(H1:PH),bZ E H1 w->Ext E H w E H1 w->∃v w' E' q,(execOp a.eval o).run T.P w=.ok (.value v) w'/\H1 q=none/\bG E' (.osl q i.size 0 (l+Z' src)) v/\bZ E' (H1.set q (.rows i.size (rs++src))) w'/\Ext E H w E' (H1.set q (.rows i.size (rs++src))) w':=by
  intro base l A rs asM υ μ Z P' N' hlt J M H1 o' C';have D:=Fh (w:=w) (ty:=o.type) ht hi hz base l A src.length cap ad asM news υ (by rw[<-S];exact L w.drew rfl) hlt J.1 J.2;have G':=Mm w (l+Z' src) A e;have D':=grownCap_le_maxLen w (l+Z' src) A e J.1;generalize V':grownCap w (l+Z' src) A e=gc at *
  have K':∀O j q,at2 src O j=some q->∃u,news[O*i.size+j]?=some u/\u.oneCell'=true/\bG E q u:=λO j q hq=>by obtain⟨u,g1,g2⟩:=β O j q hq;exact⟨u,g1,Γ u (auZ g1),g2⟩
  have hR:=mW.join (E:=E) (tail:=(Builtin.zeroCells z.cells (gc-(l+Z' src))).toList) P' ν (by rw[μ,Z]) γ N' K';have Ξ:(asM.toArray++news.toArray++Builtin.zeroCells z.cells (gc-(l+Z' src)))=(asM++news++(Builtin.zeroCells z.cells (gc-(l+Z' src))).toList).toArray:=by apply Array.ext';simp
  rw[Ξ]at D;have ε:(asM++news++(Builtin.zeroCells z.cells (gc-(l+Z' src))).toList).toArray.size=gc*i.size:=by
   have ez:(Builtin.zeroCells z.cells (gc-(l+Z' src))).toList.length=(gc-(l+Z' src))*i.size:=by rw[awC,size_zeroCells,R']
   rw[List.size_toArray,asX,asX,ez,μ,γ,<-auM,<-auM];congr 1;omega
  obtain⟨g1,g2⟩:=o'.drew.TM e hR;refine⟨_,_,_,w.heap.size,nL ho ο ξ ρ (by rw[M,S];exact D),o'.Mt,?_,g1,C'.trans g2.tv⟩;refine .osl rfl rfl (.inr aZ) G' D' (Em _ _ _) ?_;rw[ε];omega
 split at hK
 
 have A':a.eval x=.slice none 0 0:=by generalize a.eval x=v at hx;cases hx;rfl
 obtain⟨J,t',j'⟩:=hK;by_cases δ:src=[];subst δ;have ζ:=L w rfl;have ω:news=[]:=axE (by rw[γ];simp);subst ω;rw[S]at ζ;have D:=IK (w:=w) (ty:=o.type) ht hi none 0 0 cap ad (asU _) ζ;exact⟨_,_,w,E,H,.aG,nL ho ο ξ ρ (by rw[A',S];exact D),.inl rfl,.aG,hW,.refl E H w,t' rfl⟩;have Ω:0<Z' src:=List.length_pos_iff.2 δ;obtain⟨v,w',E',q,g1,g2,g3,g4,g5⟩:=grow none 0 0 [] [] (by simp[Builtin.firstCells]) aZ rfl aZ (λO j q hq=>by simp[at2]at hq) Om J A' H hW (.refl E H w);refine⟨v,_,w',E',_,_,g1,.inl rfl,g3,g4,g5,?_⟩;have:=j' δ q g2;simpa using this
 
 rename_i q s len;obtain⟨rfl,-,J,rs,hq,O',W,κ⟩:=hK;have e':∃b A,a.eval x=.slice (some b) len A:=by generalize a.eval x=v at hx;cases hx;exact⟨_,_,rfl⟩
 obtain⟨b,A,M⟩:=e';obtain⟨l,rfl⟩:∃l,l=len:=⟨_,rfl⟩
 ·rw[M]at hx;cases hx with
  |osl hb k' Y η θ Δ V=>
  rename_i N;obtain⟨u',B,ty,hh,ε,h',Ψ,Λ⟩:=hW.h q _ hq;obtain⟨σ,b'⟩:=hW.trim (k:=l) hq;obtain⟨-,m',S',φ,y',R,Θ,α⟩:=σ.h q (.rows i.size (rs.take l)) (by rw[cW,aF rfl]);rw[hh]at φ;cases φ;have Z:(rs.take l).length=l:=by rw[atF];omega
  generalize v':rs.take l=U at *
  have c':N=B.size:=by rw[ε]at Δ;cases Δ;rfl
  subst c';simp only[Nat.zero_mul,atA]at V Y;by_cases δ:src=[];subst δ;have ζ:=L w rfl;have ω:news=[]:=axE (by rw[γ];simp);subst ω;rw[S]at ζ;have D:=IK (w:=w) (ty:=o.type) ht hi (some b) l A cap ad η ζ;simp only[auA,avD,auI]at W;exact⟨_,_,w,E,_,.osl q i.size 0 l,nL ho ο ξ ρ (by rw[M,S];exact D),.inl rfl,.osl hb k' (by simpa using Y) η θ ε Om,σ,b',W⟩;have Ω:0<Z' src:=List.length_pos_iff.2 δ;by_cases X:l+Z' src<=A;have τ:b=⟨q,0,none⟩:=by
   have:b.off=0:=by
    rcases Y with h|h
    omega;exact h
   cases b;simp_all
  subst τ;have ψ:(l+Z' src)*i.size<=A*i.size:=auO _ X;rw[auM]at ψ;have D:=Fi (w:=w) (ty:=o.type) ht hi q l A src.length cap ad B hh news γ (by rw[<-S];exact L w rfl) Γ X Om;have f':(B.toList.take (l*i.size)).length=Z' U*i.size:=by rw[atF,awC,Z];omega
  have d':=mW.join (E:=E) (s:=i.size) (rs:=U) (src:=src) (asM:=B.toList.take (l*i.size)) (news:=news) (tail:=B.toList.drop (l*i.size+Z' news)) R ν f' γ
   (λO j p hp=>by obtain⟨u,g1,g2,g3⟩:=α O j p hp;obtain⟨χ,p'⟩:=CR R hp;refine⟨u,?_,g2,g3⟩;have:(O+1)*i.size<=Z' U*i.size:=auO _ χ;rw[avS,Z]at this;rw[awI,aF Om,Array.getElem?_toList];exact g1)
   (λO j p hp=>by obtain⟨u,g1,g2⟩:=β O j p hp;exact⟨u,g1,Γ u (auZ g1),g2⟩)
  obtain⟨g1,g2⟩:=hW.YZ hq hh (rs':=U++src) (cs:=(B.toList.take (l*i.size)++news++B.toList.drop (l*i.size+Z' news)).toArray)
   (by rw[List.size_toArray];simp only[asX,atF,auU];have e:Z' B.toList=B.size:=awC;omega) d'
  exact⟨_,_,_,E,_,.osl q i.size 0 (l+Z' src),nL ho ο ξ ρ (by rw[M,S];exact D),.inl rfl,.osl rfl rfl (.inr aZ) X θ ε Om,g1,g2,W⟩;have υ:∃asM:List Value,(Builtin.firstCells i.size l (.slice (some b) l A)).run T.P w.drew=.ok asM.toArray w.drew/\Z' asM=l*i.size /\
    (∀O j p,at2 U O j=some p->∃u,asM[O*i.size+j]?=some u/\u.oneCell'=true/\bG E p u):=by
   by_cases I':l=0;subst I';refine⟨[],run_firstCells_some w.drew i.size 0 b 0 A [] aZ aZ,by simp,λO j p hp=>?_⟩;have:=(CR R hp).1;omega;have τ:b=⟨q,0,none⟩:=by
    have:b.off=0:=by
     rcases Y with h|h
     omega;exact h
    cases b;simp_all
   subst τ;have r':(B.toList.take (l*i.size)).length=l*i.size:=by rw[atF,awC];rw[Z]at Θ;omega
   refine⟨B.toList.take (l*i.size),run_firstCells_some w.drew i.size l _ l A _ r' (λj u hu=>?_),r',λO j p hp=>?_⟩;rw[add_plain,atA];rw[awI]at hu;split at hu;rw[Array.getElem?_toList]at hu;show w.cell? ⟨q,j,none⟩=some u;rw[cell_of_row w q j B ty (0,0) hh];exact hu;cases hu;obtain⟨u,g1,g2,g3⟩:=α O j p hp;obtain⟨χ,p'⟩:=CR R hp;refine⟨u,?_,g2,g3⟩;have:(O+1)*i.size<=Z' U*i.size:=auO _ χ;rw[avS,Z]at this;rw[awI,aF Om,Array.getElem?_toList];exact g1
  obtain⟨asM,υ,μ,M'⟩:=υ;obtain⟨v,w',E',q',g1,g2,g3,g4,g5⟩:=grow (some b) l A U asM υ μ Z R M' Om J M H hW (.refl E H w);exact⟨v,_,w',E',_,_,g1,.inl rfl,g3,g4,g5,κ q' g2⟩
 ·
  rename_i q s off len;obtain⟨rfl,J,rs,hq,J',W,κ⟩:=hK;have l':dG H i.size (.osl q i.size (off+1) len)=some ((rs.drop (off+1)).take len):=by simp only[dG,if_true,hq,true_and,aF J']
  obtain⟨U',A,asM,M,μ,L',g',Φ,ι⟩:=x6 T.P hW hx l';have z':((rs.drop (off+1)).take len).length=len:=by rw[atF,auU];omega
  rw[z']at M ι μ;have B':=hx;rw[M]at B';obtain⟨u',B,ty,hh,ε,h',Ψ,Λ⟩:=hW.h q _ hq;cases B' with
  |osl hb k' Y η θ Δ V=>
  rename_i N b;have c':N=B.size:=by rw[ε]at Δ;cases Δ;rfl
  subst c';obtain⟨σ,b'⟩:=hW.trim (k:=off+1+len) hq;have W':(off+1)*i.size+A*i.size<=B.size:=V;clear V;by_cases δ:src=[];subst δ;have ζ:=L w rfl;have ω:news=[]:=axE (by rw[γ];simp);subst ω;rw[S]at ζ;have D:=IK (w:=w) (ty:=o.type) ht hi (some b) len A cap ad η ζ;simp only[auA,avD,auI]at W;exact⟨_,_,w,E,_,.osl q i.size (off+1) len,nL ho ο ξ ρ (by rw[M,S];exact D),.inl rfl,.osl hb k' Y η θ ε Om,σ,b',W⟩;have Ω:0<Z' src:=List.length_pos_iff.2 δ;by_cases X:len+Z' src<=A;obtain⟨-,m',S',φ,y',R,Θ,α⟩:=σ.h q (.rows i.size (rs.take (off+1+len))) (by rw[cW,aF rfl]);rw[hh]at φ;cases φ;have Z:(rs.take (off+1+len)).length=off+1+len:=by rw[atF];omega
  generalize v':rs.take (off+1+len)=U at *
  have τ:b=⟨q,(off+1)*i.size,none⟩:=by
   have:b.off=(off+1)*i.size:=by
    rcases Y with h|h
    omega;exact h
   cases b;simp_all
  subst τ;have ψ:(len+Z' src)*i.size<=A*i.size:=auO _ X;rw[auM]at ψ;have s':(off+1+len)*i.size=(off+1)*i.size+len*i.size:=auM ..;have D:=y8 (w:=w) (ty:=o.type) ht hi q ((off+1)*i.size) len A src.length cap ad B hh news γ (by rw[<-S];exact L w rfl) Γ X Om;rw[<-s']at D;have f':(B.toList.take ((off+1+len)*i.size)).length=Z' U*i.size:=by rw[atF,awC,Z];omega
  have d':=mW.join (E:=E) (s:=i.size) (rs:=U) (src:=src) (asM:=B.toList.take ((off+1+len)*i.size)) (news:=news) (tail:=B.toList.drop ((off+1+len)*i.size+Z' news)) R ν f' γ
   (λO j p hp=>by obtain⟨u,g1,g2,g3⟩:=α O j p hp;obtain⟨χ,p'⟩:=CR R hp;refine⟨u,?_,g2,g3⟩;have:(O+1)*i.size<=Z' U*i.size:=auO _ χ;rw[avS,Z]at this;rw[awI,aF Om,Array.getElem?_toList];exact g1)
   (λO j p hp=>by obtain⟨u,g1,g2⟩:=β O j p hp;exact⟨u,g1,Γ u (auZ g1),g2⟩)
  obtain⟨g1,g2⟩:=hW.YZ hq hh (rs':=U++src) (cs:=(B.toList.take ((off+1+len)*i.size)++news++B.toList.drop ((off+1+len)*i.size+Z' news)).toArray)
   (by rw[List.size_toArray];simp only[asX,atF,auU];have e:Z' B.toList=B.size:=awC;omega) d'
  exact⟨_,_,_,E,_,.osl q i.size (off+1) (len+Z' src),nL ho ο ξ ρ (by rw[M,S];exact D),.inl rfl,.osl rfl rfl (.inr rfl) X θ ε Om,g1,g2,W⟩;obtain⟨v,w',E',q',g1,g2,g3,g4,g5⟩:=grow (some b) len A ((rs.drop (off+1)).take len) asM (by rw[<-M];exact ι w.drew rfl) μ z' g'
   (λO j p hp=>by obtain⟨u,g1,g2⟩:=Φ O j p hp;exact⟨u,g1,L' u (auZ g1),g2⟩) Om J M H hW (.refl E H w)
  exact⟨v,_,w',E',_,_,g1,.inl rfl,g3,g4,g5,κ q' g2⟩
 cases hK
end
open Go Go.RowKit
section
variable {ds:List Deferred} {T:Tbl} {n:Nat} {E:Env} {F:PF} {H:PH} {a:Act} {w:World}
def oneOf(e:Array Value)(k:Nat):Value:=if((e[k]?).getD (.int .i64 0)).oneCell' then(e[k]?).getD (.int .i64 0)else .int .i64 0
theorem Sd(e:Array Value)(k:Nat):(oneOf e k).oneCell'=true:=by
 unfold oneOf;split;assumption;rfl
theorem dp{o s:Nat}{rs:P2_}{l:Array Value}{K:Env}(x:E.le K)(Z:K.G o=some l)(α:E.sz o=some l.size)(U:mW E s rs l){pv:PV}{v:Value}(h:bG E pv v) :
  bG K (pv.cO o s rs) v:=by
 unfold PV.cO;split;rename_i q s' off len;split;rename_i e;subst e;split
 ·rename_i hc;obtain⟨rfl,V⟩:=hc;cases h with
  |osl hb S D A B hn R=>
  rename_i cap N L;have W:((rs.drop off).take len).length=len:=by rw[atF,auU];omega
  have M:∀i j p,at2 ((rs.drop off).take len) i j=some p->at2 rs (off+i) j=some p:=by intro i j p hp;unfold at2 at hp ⊢;rw[awI]at hp;split at hp;rw[awM]at hp;exact hp;simp at hp
  have J:bG K (.sl s' ((rs.drop off).take len)) (.slice (some L) ((rs.drop off).take len).length cap):=by
   have Y:∀i j p,at2 ((rs.drop off).take len) i j=some p->∃u,l[(off+i)*s'+j]?=some u/\bG E p u/\oneOf l ((off+i)*s'+j)=u:=by intro i j p hp;obtain⟨u,g1,g2,g3⟩:=U.2.2 _ _ _ (M i j p hp);exact⟨u,g1,g3,by simp[oneOf,g1,g2]⟩
   refine .sl (λi j=>oneOf l ((off+i)*s'+j)) (by rw[W];exact A) B (λr hr=>U.1 r (List.mem_of_mem_drop (awU hr))) (λO=>?_) (λi j=>Sd _ _) (λi j p hp=>?_);have X:0<((rs.drop off).take len).length:=List.length_pos_iff.2 O;have y:L.off=off*s':=by
    rcases D with h|h
    omega;exact h
   refine⟨L,rfl,S,λi j p hp=>?_⟩;obtain⟨u,g1,-,g3⟩:=Y i j p hp;rw[g3];unfold Env.cell;rw[hb,Z,awQ,y];have e:off*s'+i*s'+j=(off+i)*s'+j:=by rw[auM]
   rw[e];exact g1;obtain⟨u,-,g2,g3⟩:=Y i j p hp;rw[g3];exact g2.mono x
  rw[W]at J;exact J
 exact .junk _;exact h.mono x;exact h.mono x
theorem Cw{o s:Nat}{rs:P2_}{e:Array Value}{x:Env}(i:E.le x)(y:x.G o=some e)(l:E.sz o=some e.size)(A:mW E s rs e){pv:PV}{v:Value}(h:bG E pv v) :
  bG x (pv.mM o s rs) v:=by
 unfold PV.mM;split
 ·cases h with
  |agg vs D B J=>
  refine .agg vs (by simpa using D) B (λj p u hp K=>?_);rw[atC,atB]at hp;obtain⟨q,hq,rfl⟩:=hp;exact dp i y l A (J j q u hq K)
 exact dp i y l A h
theorem abS{o s:Nat}{rs:P2_}{e:Array Value}{x:Env}(i:E.le x)(y:x.G o=some e)(l:E.sz o=some e.size)(A:mW E s rs e){pv:PV}{v:Value}(h:bG E pv v) :
  bG x (pv.frz o s rs) v:=by
 unfold PV.frz;split
 ·cases h with
  |tup vs B D=>
  refine .tup vs (by simpa using B) (λj p u hp J=>?_);rw[atC,atB]at hp;obtain⟨q,hq,rfl⟩:=hp;exact Cw i y l A (D j q u hq J)
 exact Cw i y l A h
theorem bZ.frz(hW:bZ E H w){o s:Nat}{rs:P2_}(X:H o=some (.rows s rs)):∃R,bZ R (H.frz o s rs) w/\Ext E H w R (H.frz o s rs) w/\∀{pv:PV}{v:Value},bG E pv v->bG R (pv.frz o s rs) v:=by
 obtain⟨hlt,A,ty,hh,M,S,U,h3⟩:=hW.h o _ X;have hR:mW E s rs A:=⟨S,U,h3⟩;have V:E.G o=none:=by
  cases h:E.G o with
  |none=>rfl
  |some ds=>have:=(hW.g o ds h).1 _ X;cases this
 have B:E.le ⟨upd E.G o (some A),E.sz,E.num⟩:=by
  refine⟨λb ds hb=>?_,λb m h=>h,rfl⟩;have W:b≠o:=λe=>by subst e;rw[V]at hb;cases hb
  simp only;rw[XF _ _ W];exact hb
 have K:(⟨upd E.G o (some A),E.sz,E.num⟩:Env).G o=some A:=by simp[upd]
 have l:∀q,(H.frz o s rs).f q=if q=o then none else(H q).map (aS.frz o s rs):=λq=>rfl
 refine⟨⟨upd E.G o (some A),E.sz,E.num⟩,⟨λb ds hb=>?_,λq x hq=>?_,hW.s⟩,⟨B,rfl,rfl,rfl,asU _,λ_ _ _=>rfl,λq x hq=>?_,λb ds hb=>?_⟩,λh=>abS B K M hR h⟩;simp only[upd]at hb;split at hb;rename_i e;subst e;cases hb;refine⟨λx N=>?_,ty,(0,0),hh⟩;rw[l,aF rfl]at N;cases N;rename_i e;obtain⟨g1,g2⟩:=hW.g b ds hb;refine⟨λx N=>?_,g2⟩;rw[l,aC e,atB]at N;obtain⟨y,O,rfl⟩:=N;have:=g1 y O;subst this;rfl;rw[l]at hq;split at hq;cases hq
 ·rw[atB]at hq;obtain⟨y,O,rfl⟩:=hq;obtain⟨g1,g2⟩:=hW.h q y O;refine⟨g1,?_⟩;cases y with
  |rows s' rs'=>
   obtain⟨J,β,k1,k2,k3,k4,k5⟩:=g2;refine⟨J,β,k1,k2,?_,by simpa using k4,λi j p hp=>?_⟩;intro r L;simp only[atM]at L;obtain⟨r',α,rfl⟩:=L;simpa using k3 r' α;simp only[at2,atC,Option.bind_map]at hp;have Y:∃D,at2 rs' i j=some D/\p=D.cO o s rs:=by
    unfold at2;cases L:rs'[i]? with
    |none=>simp[L]at hp
    |some r =>simp only[L,awQ,Function.comp,atC,atB]at hp ⊢;obtain⟨D,S,U⟩:=hp;exact⟨D,S,U.symm⟩
   obtain⟨D,Z,rfl⟩:=Y;obtain⟨u,m1,m2,m3⟩:=k5 i j D Z;exact⟨u,m1,m2,dp B K M hR m3⟩
  |map es=>exact TI.mono B rfl g2
  |loop F n t γ δ=>exact TI.mono B rfl g2
  |dead=>trivial
 rw[l]at hq;split at hq;cases hq;rw[atB]at hq;obtain⟨y,O,-⟩:=hq;exact .inl ⟨y,O⟩;simp only[upd]at hb;split at hb;rename_i e;subst e;exact .inr (.inl ⟨_,X⟩);exact .inl hb
theorem jM.sound{F l:PF}{H H':PH}(h:jM F H l H'):∀{E:Env},bZ E H w->∃e,bZ e H' w/\Ext E H w e H' w/\∀(f:Nat->Value),(∀i pv,F i=some pv->bG E pv (f i))->∀i pv,l i=some pv->bG e pv (f i):=by
 induction h with
 |refl F H=>intro E hW;exact⟨E,hW,.refl E H w,λf h=>h⟩
 |step o D _ J =>intro E hW;obtain⟨N,x,y,A⟩:=hW.frz D;obtain⟨u,K,L,M⟩:=J x;refine⟨u,K,y.trans L,λf B=>M f λi pv hi=>?_⟩;simp only[PF.frz,atB]at hi;obtain⟨q,hq,rfl⟩:=hi;exact A (B i q hq)
theorem eX.frz{u:PF}{H':PH}(l:eX ds n E F a)(hW:bZ E H w)(h:jM F H u H'):∃e,eX ds n e u a/\bZ e H' w/\Ext E H w e H' w:=by
 obtain⟨e,x,y,A⟩:=h.sound hW;exact⟨e,⟨l.size,l.defers,A (λi=>a.tmps.getD i undef) l.t⟩,x,y⟩
end
open Go Go.RowKit
section
variable {T:Tbl} {n:Nat} {E:Env} {F:PF} {H:PH} {a:Act} {w:World}
theorem ZV(k:List KS):∀(L:List (List KS × PV)) (i j:Nat),(sV k L i).map (·.2)=(sV k L j).map (·.2)
 |[],_,_=>rfl
 |e::L,i,j=>by simp only[sV];split;rfl;exact ZV k L _ _
theorem qR(e:List KS × PV)(L:List (List KS × PV))(k:List KS):mapOf (e::L) k=if e.1=k then some e.2 else mapOf L k:=by
 unfold mapOf;simp only[sV];split;rfl;exact ZV k L _ _
theorem nt{i:List KS}{pv:PV}:∀{L:List (List KS × PV)},mapOf L i=none->mapOf (L++[(i,pv)])=jY.upd (mapOf L) i pv
 |[],_=>by funext k;simp only[awO,qR,jY.upd];by_cases h:i=k;rw[aF h,aF h.symm];rw[aC h,aC (λe=>h e.symm)]
 |e::L,h=>by rw[qR]at h;split at h;cases h;rename_i u;funext k;rw[awD,qR,nt h];simp only[jY.upd,qR];by_cases l:e.1=k;have:k≠i:=λe2=>u (l.trans e2);simp[l,this];simp[l]
theorem v8{l:List KS}{pv:PV}:∀{L:List (List KS × PV)}{i j:Nat}{p:PV},sV l L i=some (j,p)->i<=j/\mapOf (L.set (j-i) (l,pv))=jY.upd (mapOf L) l pv
 |[],i,j,p,h=>by simp[sV]at h
 |e::L,i,j,p,h=>by simp only[sV]at h;split at h;rename_i he;cases h;refine⟨asU _,?_⟩;funext k;rw[auK,avR,qR];simp only[jY.upd,qR];by_cases u:l=k;subst u;simp;have y:k≠l:=λe2=>u e2.symm;have x:e.1≠k:=λe2=>u (he.symm.trans e2);simp[u,y,x];rename_i he;obtain⟨u,y⟩:=v8 (pv:=pv) h;refine⟨by omega,?_⟩;funext k;rw[show j-i=(j-(i+1))+1 by omega,List.set_cons_succ,qR,y];simp only[jY.upd,qR];by_cases x:e.1=k;have:k≠l:=λe2=>he (x.trans e2);simp[x,this];simp[x]
theorem bZ.Tl(hW:bZ E H w){o:Nat}{sh:MSh}{g:jY}{X y:Array MapEntry}{B l:Nat}{L:List (List KS × PV)}(R:H o=some (.map sh g))(Z:w.heap[o]?=some (.map X B))(U:y.size=Z' L/\(L.map (·.1)).Nodup)
  (Y:∀(i:Nat) e S,L[i]?=some e->y[i]?=some S->e.1.map KS.sh=sh.2/\S.key=jO sh e.1/\bG E e.2 S.val) :
  bZ E (H.set o (.map sh (mapOf L))) { w with heap:=w.heap.setIfInBounds o (.map y l) }/\Ext E H w E (H.set o (.map sh (mapOf L))) { w with heap:=w.heap.setIfInBounds o (.map y l) }:=by
 have hlt:=(hW.h o _ R).1;have u:∀b,b≠o->(w.heap.setIfInBounds o (.map y l))[b]?=w.heap[b]?:=λb hb=>Array.getElem?_setIfInBounds_ne (Ne.symm hb);have J:(w.heap.setIfInBounds o (.map y l))[o]?=some (.map y l):=by simp[hlt]
 have O:∀b ds,E.G b=some ds->b≠o:=λb ds hb e=>by subst e;have:=(hW.g b ds hb).1 _ R;cases this
 refine⟨⟨λb ds hb=>?_,λq x hq=>?_,λq m hs=>?_⟩,⟨.refl E,rfl,rfl,rfl,by simp,λb _ V=>u b (λe=>by subst e;rw[R]at V;cases V),λq x hq=>?_,λb ds hb=>.inl hb⟩⟩;obtain⟨D,K,fr,N⟩:=hW.g b ds hb;have A:=O b ds hb;refine⟨λx W=>D x ?_,K,fr,(u b A).trans N⟩;rw[cW,aC A]at W;exact W;rw[cW]at hq;split at hq;rename_i e;subst e;cases hq;exact⟨by simpa using hlt,y,l,L,J,U,rfl,Y⟩;rename_i e;obtain⟨D,N⟩:=hW.h q x hq;exact⟨by simpa using D,N.mono (.refl E) (u q e)⟩;obtain⟨M,K,fr,D,N⟩:=hW.s q m hs;have A:q≠o:=λe=>by subst e;rw[Z]at D;cases D
 exact⟨M,K,fr,(u q A).trans D,N⟩;rw[cW]at hq;split at hq;rename_i e;subst e;exact .inl ⟨_,R⟩;exact .inl ⟨x,hq⟩
theorem bs(k:KS)(d:Nat):Instr.sameBits d k.val k.val=true:=by
 cases k<;>cases d<;>simp[KS.val,Instr.sameBits,beq_toListBytes]
theorem Fk(sh:MSh)(k:List KS)(A:sh.1=false->∃s,k=[s]):Instr.sameBits 10000 (jO sh k) (jO sh k)=true:=by
 obtain⟨b,l⟩:=sh;cases b with
 |false =>obtain⟨s,rfl⟩:=A rfl;exact bs s 10000
 |true=>
  simp only[jO,if_true];obtain⟨m,B⟩:∃m:Nat,m=9999:=⟨_,rfl⟩;rw[show(10000:Nat)=m+1 by omega];simp only[Instr.sameBits,beq_self_eq_true,atJ,atI];rintro⟨x,y⟩ i;have:∀(l:List Value),(x,y)∈l.zip l->x=y/\x∈l:=by
   intro l
   induction l with
   |nil=>intro h;simp at h
   |cons z D u=>
    intro h;simp only[List.zip_cons_cons,atG,Prod.mk.injEq]at h;rcases h with⟨rfl,rfl⟩|h
    exact⟨rfl,by simp⟩;exact⟨(u h).1,by simp[(u h).2]⟩
  obtain⟨rfl,e⟩:=this _ i;simp only[atM]at e;obtain⟨s,-,rfl⟩:=e;exact bs s m
theorem Ds{t kt et:TypeId}{sh:MSh}{pk pv:PV}{x k v:Value}{o:Nat}{g:jY}{l:List KS}(ht:T.P.underlying t=some (.map kt et))(Z:T.pN kt=some sh)
  (hx:bG E (.map o) x) (hk:bG E pk k) (hv:bG E pv v) (ho:H o=some (.map sh g)) (X:keyOf sh pk=some l) (hW:bZ E H w) :
  ∃w',(Instr.mapUpdate t x k v).run T.P w=.ok () w'/\bZ E (H.set o (.map sh (g.upd l pv))) w'/\Ext E H w E (H.set o (.map sh (g.upd l pv))) w':=by
 cases hx;obtain⟨hlt,es,M,L,hh,⟨D,Y⟩,rfl,A⟩:=hW.h o _ ho;obtain⟨ζ,B,δ⟩:=vp hk X;have α:yM sh L es.toList:=⟨by simpa using D,λi e U a b=>by have:=A i e U a (by simpa using b);exact⟨this.1,this.2.1⟩⟩;obtain⟨r,g1,g2⟩:=SV (w:=w) Z B α;subst ζ;have V:(getObj o).run T.P w=.ok (.map es M) w:=by simp[getObj,Sem.run,hh]
 have K:∀x,(setObj o x).run T.P w=.ok () { w with heap:=w.heap.setIfInBounds o x }:=λx=>MapKept.run_setObj_map x hh;simp only[Instr.mapUpdate,Sem.run_bind,run_underlying ht,Result.andThen_ok,V,MJ Z B,g1];unfold Found at g2;split at g2;rename_i hn;subst g2;have hm:mapOf L l=none:=by unfold mapOf;rw[hn];rfl
 have hp:jY.upd (mapOf L) l pv=mapOf (L++[(l,pv)]):=(nt hm).symm;rw[hp];simp only[K];have ε:l ∉ L.map (·.1):=λhm=>by have:=(OH l L 0).2 hm;rw[hn]at this;cases this
 have u:((L++[(l,pv)]).map (·.1)).Nodup:=by rw[atK,avU];refine⟨Y,by simp,λx hx y hy=>?_⟩;simp only[atU,auH,auB]at hy;subst hy;rintro rfl;exact ε hx
 refine⟨_,rfl,hW.Tl ho hh ⟨by simp[D],u⟩ λi e U N J=>?_⟩;rcases Nat.lt_trichotomy i L.length with h3|h3|h3
 rw[avM h3]at N;rw[Array.getElem?_push_lt Om]at J;exact A i e U N (by rw[awR Om];exact J);subst h3;rw[auS (asU _)]at N;rw[<-D,Array.getElem?_push_size]at J;simp at N J;subst N;subst J;exact⟨B,rfl,hv⟩;rw[auE (by simp;omega)]at N;cases N;rename_i j p hj;obtain⟨e0,-,J,h3,rfl⟩:=g2;have hp:jY.upd (mapOf L) l pv=mapOf (L.set j (l,pv)):=by have:=(v8 (pv:=pv) hj).2;simpa using this.symm
 rw[hp];simp only[Nat.sub_zero]at J h3;have O:es[j]?=some e0:=by simpa using J
 have β:e0.key=jO sh l:=(A j _ e0 h3 O).2.1;have R:(Instr.keyThatStays (((es[j]?).map (·.key)).getD (jO sh l)) (jO sh l)).run T.P w=.ok (jO sh l) w:=by rw[O];simp only[atO,auV,β,Instr.keyThatStays,Fk sh l δ,if_true,Sem.run_pure]
 simp only[Sem.run_bind,R,Result.andThen_ok,K];have u:((L.set j (l,pv)).map (·.1)).Nodup:=by
  have e9:(L.set j (l,pv)).map (·.1)=L.map (·.1):=by rw[avP];refine List.ext_getElem? λi=>?_;rw[avY];split;rename_i e;subst e;rw[atC,h3];have:=(atX.1 h3).1;simp[this];rfl
  rw[e9];exact Y
 refine⟨_,rfl,hW.Tl ho hh ⟨by simp[D],u⟩ λi e U S h5=>?_⟩;rw[Array.getElem?_modify]at h5;rw[avY]at S;have γ:j<Z' L:=(atX.1 h3).1;by_cases W:j=i;subst W;rw[aF rfl,aF γ]at S;rw[aF rfl,O]at h5;simp at S h5;subst S;subst h5;exact⟨B,rfl,hv⟩;rw[aC W]at S h5;exact A i e U S h5
end
open Go Go.RowKit
def Fz(r:O_):Fence:={ Fence.wide with round:=r }
theorem Fz.calls{r:O_}{m:Nat}{P:Program}{f:FuncId}{args:Array Value}{w:World}{R:Ending->World->Prop}(h:Calls P f args w R):CallsIn (Fz r) m P f args w R:=(callsIn_wide (n:=m)).2 h
theorem Fz.fn{r:O_}(f:FuncId):(Fz r).fn f:=trivial
theorem NI{r:O_}{m:Nat}{P:Program}{o:Oper}{a:Act}{w:World}{next:Act->World->Prop}{Q:Exit->Act->World->Prop}(e:∀c,o.op≠.defer c)(h:o.uponIn (Fz r) m P a next Q ((execOp a.eval o).run P w)):o.wpIn (Fz r) m P a w next Q:=
 ⟨λ_ _=>trivial,by rw[Oper.semAt_eq _ _ _ e];exact h⟩
variable{C:Ctx}
section
variable {ro:O_} {fu:Nat} {ds:List Deferred} {T:Tbl} {n:Nat} {E:Env} {F:PF} {H:PH} {a:Act} {w:World}
def qJ(ds:List Deferred)(n:Nat)(E:Env)(H:PH)(w:World)(K:K_)(next:Act->World->Prop):Prop:=
 ∀e l H' u i,eX ds n e l u->bZ e H' i->Ext E H w e H' i->K l H'->next u i
theorem fV.append{ps e:V_}{vs i:List Value}(h:fV E ps vs)(k:fV E e i):fV E (ps++e) (vs++i):=by
 induction h with
 |nil=>exact k
 |cons h _ l=>exact .cons h l
theorem fV.aaG{ps:V_}:∀{vs:List Value},Z' vs=Z' ps->(∀(j:Nat) p v,ps[j]?=some p->vs[j]?=some v->bG E p v)->fV E ps vs:=by
 induction ps with
 |nil=>intro vs e _;simp at e;subst e;exact .nil
 |cons p ps i=>
  intro vs e h;cases vs with
  |nil=>simp at e
  |cons v vs=>exact .cons (h 0 p v rfl rfl) (i (by simpa using e) λj q u a b=>h (j+1) q u (by simpa using a) (by simpa using b))
theorem U7{o:Oper}{c:Call}{f:FuncId}{vc:Array Value}{x:Operand}{P:Program}{fn:Func}(y:o.op=.call c)(i:c.callee=.value x)(A:a.eval x=.func (.func f) #[] vc)
  (u:P.funcs[f]?=some fn) (hb:fn.body.isSome=true) (l:(fn.name=="runtime.NumGoroutine")=false) :
  (execOp a.eval o).run P w=.ok (.enter f (c.args.map a.eval++vc)) w:=by
 have e:fn.body.isNone=false:=by cases h:fn.body<;>simp_all
 unfold execOp;rw[y];simp only[resolve,i,A,Deferred.ofValue,Sem.run_bind,Sem.run_pure,Result.andThen_ok,invoke,callFunc,run_program,u,l,e,auQ,if_false,Array.empty_append]
theorem ZN{name:Nat}{ps:Option V_}{d:O_}{K:K_}{o:Oper}{c:Call}{x:Operand}{vc:Array Value}{Q:Exit->Act->World->Prop}{next:Act->World->Prop}
  (h:vO C name ps d K F H) (hd:o.dst=d) (hlt:o.dst.all (·<n)=true) (S:o.op=.call c) (M:c.callee=.value x) (hx:a.eval x=.func (.func (C.num name)) #[] vc)
  (i:∀vs,ps=some vs->fV E vs (c.args.map a.eval++vc).toList) (X:eX ds n E F a) (hW:bZ E H w) (Z:E.num=C.num) (arY:qJ ds n E H w K next):o.wpIn (Fz ro) fu C.P a w next Q:=by
 obtain⟨vs,V,R,rfl,u,⟨⟨fn,hf,hb,N⟩,l⟩,Y⟩:=h;have A:=U7 (w:=w) (a:=a) S M hx hf hb N;refine NI (λc'=>by rw[S];exact λe=>by cases e) ?_;rw[A,Oper.uponIn_enter];refine⟨(λh=>by cases h),Fz.calls ((l E w _ Z (hW.weaken u) (i vs rfl)).mono λe w' he=>?_)⟩;obtain⟨v,pv,O,H',rfl,J,hr,B,hR⟩:=he;have L:rG H V H':=by
  intro q y hq W;rcases B.new q y hq with⟨z,U⟩|hge
  ·rw[W]at U;cases U
  ·cases hh:H q with
   |none=>rfl
   |some z=>have:=(hW.h q z hh).1;omega
 have D:eX ds n O (F.put d pv) (a.put o.dst v):=by rw[<-hd];exact(X.mono B.env).put hlt hr
 exact arY O _ _ _ w' D (hW.over B u J) (B.narrow u) (Y pv H' hR L)
theorem TU{name:Nat}{args:List aP}{cs:V_}{d:O_}{K:K_}{o:Oper}{c:Call}{x:Operand}{vc:Array Value}{Q:Exit->Act->World->Prop}{next:Act->World->Prop}
  (h:jX C name args cs d K F H) (O:o.dst=d) (hlt:o.dst.all (·<n)=true) (R:o.op=.call c) (A:c.callee=.value x) (S:a.eval x=.func (.func (C.num name)) #[] vc)
  (e:∀(u:Env)(N:PF) vs,E.le u->eX ds n u N a->u.num=C.num->aP.evs N args=some vs->fV u (vs++cs) (c.args.map a.eval++vc).toList) (J:eX ds n E F a) (hW:bZ E H w) (D:E.num=C.num) (arY:qJ ds n E H w K next):o.wpIn (Fz ro) fu C.P a w next Q:=by
 rcases h with h|⟨F1,H1,hf,h⟩
 ·refine ZN h O hlt R A S (λvs i=>?_) J hW D arY;rw[atB]at i;obtain⟨M,l,rfl⟩:=i;exact e E F M (.refl E) J D l
 ·obtain⟨u,y,L,B⟩:=J.frz hW hf;refine ZN h O hlt R A S (λvs i=>?_) y L (B.env.num.trans D) (λU V H2 a2 W g1 g2 g3 g4=>arY U V H2 a2 W g1 g2 (B.trans g3) g4);rw[atB]at i;obtain⟨M,l,rfl⟩:=i;exact e u F1 M B.env y (B.env.num.trans D) l
theorem XV{l:Nat}{ps:Option V_}{d:O_}{K:K_}{o:Oper}{c:Call}{x:Operand}{Q:Exit->Act->World->Prop}{next:Act->World->Prop}
  (h:SE C l ps d K F H) (hd:o.dst=d) (hlt:o.dst.all (·<n)=true) (X:o.op=.call c) (V:c.callee=.value x) (hx:a.eval x=.func (.yield l) #[] #[])
  (B:∀vs,ps=some vs->fV E vs (c.args.map a.eval).toList) (hA:eX ds n E F a) (hW:bZ E H w) (hN:E.num=C.num) (arY:qJ ds n E H w K next):o.wpIn (Fz ro) fu C.P a w next Q:=by
 obtain⟨vs,Z,R,rfl,J,D,hK⟩:=h;obtain⟨fn,A,i,body,hy,u⟩:=D E w (c.args.map a.eval) hN (hW.weaken J) (B vs rfl);have L:(execOp a.eval o).run C.P w=.ok (.round l fn A i body) w:=by unfold execOp;rw[X];simp only[resolve,V,hx,Deferred.ofValue,Sem.run_bind,Sem.run_pure,Result.andThen_ok,invoke,Array.empty_append,Array.append_empty];exact hy
 refine NI (λc'=>by rw[X];exact λe=>by cases e) ?_;rw[L,Oper.uponIn_round];have O:RoundIn (Fz ro) (fu-1) C.P l fn A i body w _:=⟨trivial,λc cs _=>u.2 c cs (room_wide _)⟩;refine⟨(λh=>by cases h),O.mono λe w' he=>?_⟩;obtain⟨v,pv,W,H',rfl,S,hr,M,hR⟩:=he;have U:rG H Z H':=by
  intro q y hq h0;rcases M.new q y hq with⟨z,Y⟩|hge
  ·rw[h0]at Y;cases Y
  ·cases hh:H q with
   |none=>rfl
   |some z=>have:=(hW.h q z hh).1;omega
 have N:eX ds n W (F.put d pv) (a.put o.dst v):=by rw[<-hd];exact(hA.mono M.env).put hlt hr
 exact arY W _ _ _ w' N (hW.over M J S) (M.narrow J) (hK pv H' hR U)
theorem zh{l:Nat}{args:List aP}{d:O_}{K:K_}{o:Oper}{c:Call}{x:Operand}{Q:Exit->Act->World->Prop}{next:Act->World->Prop}
  (h:Ku C l args d K F H) (N:o.dst=d) (hlt:o.dst.all (·<n)=true) (O:o.op=.call c) (A:c.callee=.value x) (R:a.eval x=.func (.yield l) #[] #[])
  (e:∀(u:Env)(M:PF) vs,eX ds n u M a->u.num=C.num->aP.evs M args=some vs->fV u vs (c.args.map a.eval).toList) (D:eX ds n E F a) (hW:bZ E H w) (B:E.num=C.num) (arY:qJ ds n E H w K next):o.wpIn (Fz ro) fu C.P a w next Q:=by
 rcases h with h|⟨F1,H1,hf,h⟩
 ·exact XV h N hlt O A R (λvs i=>e E F vs D B i) D hW B arY
 ·obtain⟨u,y,L,J⟩:=D.frz hW hf;exact XV h N hlt O A R (λvs i=>e u F1 vs y (J.env.num.trans B) i) y L (J.env.num.trans B) (λS U H2 a2 V g1 g2 g3 g4=>arY S U H2 a2 V g1 g2 (J.trans g3) g4)
theorem Dd{o:Oper}{p:POp}(e:T.op o=some p)(i:p.tM=true):∃c,o.op=.call c/\T.call o c=some p:=by
 unfold Tbl.op at e;split at e
 case h_26=>rename_i c l;exact⟨c,l,e⟩
 all_goals (repeat' (first|(split at e)|(simp only[atB]at e;obtain⟨_,-,rfl⟩:=e;simp[POp.tM]at i;done)|(cases e;simp[POp.tM]at i;done)|(cases e;done)))
theorem gn{o:Oper}{p:POp}(e:T.op o=some p):∀c,o.op≠.defer c:=by
 intro c i;unfold Tbl.op at e;rw[i]at e;simp at e
theorem yz{o:Oper}{p:POp}(l:T.op o=some p)(B:p.eY=true) :
  (∃t R x k U A,o.op=.store t R x/\T.size t=some k/\T.opd R=some U/\T.opd x=some A/\p=.store k U A) \/
  (∃c x y t e i A V,o.op=.call c/\c.callee=.builtin .append/\c.args.toList=[x,y]/\c.argTypes.toList=[t,t]/\T.P.underlying t=some (.slice e)/\T.P.info? e=some i/\i.zero.isSome=true /\
   (i.zero.map (·.cells.size))=some i.size/\0<i.size/\T.opd x=some A/\T.opd y=some V/\p=.append i.size i.bytes A V) \/
  (∃t N O sh x k v A pk pv,(o.op=.mapUpdate t x k v\/o.op=.insert t x k v)/\T.P.underlying t=some (.map N O)/\T.pN N=some sh/\T.opd x=some A/\T.opd k=some pk/\T.opd v=some pv /\
   (p=.arU sh A pk pv\/p=.insert sh A pk pv)):=by
 unfold Tbl.op at l;split at l
 case h_17=>
  rename_i t x k v M;split at l
  ·rename_i N O S;split at l<;>cases l;rename_i sh p q r D J K W;exact .inr (.inr ⟨t,N,O,sh,x,k,v,p,q,r,.inl M,S,D,J,K,W,.inl rfl⟩)
  ·cases l
 case h_18=>
  rename_i t x k v M;split at l
  ·rename_i N O S;split at l<;>cases l;rename_i sh p q r D J K W;exact .inr (.inr ⟨t,N,O,sh,x,k,v,p,q,r,.inr M,S,D,J,K,W,.inr rfl⟩)
  ·cases l
 case h_9 =>rename_i t R x M;split at l<;>cases l;rename_i k U A D J K;exact .inl ⟨t,R,x,k,U,A,M,D,J,K,rfl⟩
 case h_26=>
  rename_i c M;unfold Tbl.call at l;split at l
  ·rename_i b Y;split at l
   ·split at l<;>(first|(simp only[atB]at l;obtain⟨_,-,rfl⟩:=l;simp[POp.eY]at B;done)|(cases l;simp[POp.eY]at B;done)|(cases l;done))
   ·rename_i x y t u X Z;split at l<;>try cases l
    rename_i e e' ht S;split at l<;>try cases l
    rename_i i A V hi hx hy;split at l
    ·rename_i L;cases l;obtain⟨rfl,D,J,K⟩:=L;exact .inr (.inl ⟨c,x,y,t,e,i,A,V,M,Y,X,Z,ht,hi,D,J,K,hx,hy,rfl⟩)
    ·cases l
   ·split at l<;>(first|(simp only[atB]at l;obtain⟨_,-,rfl⟩:=l;simp[POp.eY]at B;done)|(cases l;done))
   ·split at l<;>(first|(cases l;simp[POp.eY]at B;done)|(cases l;done))
   ·split at l<;>(first|(cases l;simp[POp.eY]at B;done)|(cases l;done))
   ·cases l
  ·split at l
   ·split at l
    ·cases l;simp[POp.eY]at B
    ·cases l
   ·cases l
  ·simp only[atB]at l;obtain⟨_,-,rfl⟩:=l;simp[POp.eY]at B
  ·cases l
 all_goals (repeat' (first|(split at l)|(simp only[atB]at l;obtain⟨_,-,rfl⟩:=l;simp[POp.eY]at B;done)|(cases l;simp[POp.eY]at B;done)|(cases l;done)))
theorem Iq{o:Oper}{p:POp}{K:R_}(hc:T.op o=some p)(hk:p.eY=true)(h:cK p F H K)(J:eX ds n E F a)(hW:bZ E H w)(L:E.num=T.num):Bo T.P E H w o a K:=by
 rcases yz hc hk with⟨t,ax,x,k,pp,Y,ho,h1,h2,h3,rfl⟩|⟨c,x,y,t,e,i,Y,py,ho,hcc,hca,hct,ht,hi,g1,g2,g3,hx,hy,rfl⟩|⟨t,kt,et,sh,x,k,v,Y,pk,pv,ho,hu,hsh,hx,hkk,hv,hp⟩
 simp only[cK]at h;split at h;rename_i pa pv A V;obtain⟨hl,H',W,u⟩:=h;obtain⟨w',hr,S,hE⟩:=Ii ho h1 h2 h3 A V hl W J hW L;exact⟨undef,_,w',E,H',.junk,hr,.inr ⟨rfl,rfl⟩,.junk _,S,hE,u⟩;exact h.elim;simp only[cK]at h;split at h;rename_i pa pb A U;exact Bv ho hcc hca hct ht hi g1 g2 g3 (bL hx A J L) (bL hy U J L) h hW;exact h.elim;have l:∀q B D g l,Y.ev F=some (.map q)->pk.ev F=some B->pv.ev F=some D->H q=some (.map sh g)->keyOf sh B=some l->K .junk (H.set q (.map sh (g.upd l D)))->Bo T.P E H w o a K:=by intro q B D g l M e2 N O R u;obtain⟨w',g1,g2,g3⟩:=Ds hu hsh (bL hx M J L) (bL hkk e2 J L) (bL hv N J L) O R hW;refine⟨undef,.skip,w',E,_,.junk,?_,.inr ⟨rfl,rfl⟩,.junk _,g2,g3,u⟩;rcases ho with ho|ho<;>(unfold execOp;rw[ho];simp[g1])
 rcases hp with rfl|rfl
 simp only[cK]at h;split at h;rename_i q B D M e2 N;split at h;rename_i Z g X O R;obtain⟨rfl,u⟩:=h;exact l q B D g X M e2 N O R u;exact h.elim;exact h.elim;simp only[cK]at h;split at h;rename_i q B D M e2 N;split at h;rename_i Z g X O R;obtain⟨rfl,-,u⟩:=h;exact l q B D g X M e2 N O R u;exact h.elim;exact h.elim
theorem Xq(V:C.P=T.P)(A:C.num=T.num){o:Oper}{p:POp}{d:O_}{K:K_}{Q:Exit->Act->World->Prop}{next:Act->World->Prop}(Y:T.op o=some p)(hd:o.dst=d)(hlt:o.dst.all (·<n)=true)
  (h:wpOp C p d K F H) (M:eX ds n E F a) (hW:bZ E H w) (W:E.num=T.num) (arY:qJ ds n E H w K next):o.wpIn (Fz ro) fu T.P a w next Q:=by
 by_cases hk:p.tM=true
 ·obtain⟨c,ho,i⟩:=Dd Y hk;unfold Tbl.call at i;split at i
  ·rename_i b J;exfalso
   repeat' (first|(split at i)|(simp only[atB]at i;obtain⟨_,-,rfl⟩:=i;simp[POp.tM]at hk;done)|(cases i;simp[POp.tM]at hk;done)|(cases i;done))
  ·rename_i f J;split at i
   ·rename_i m xs hm R;split at i
    ·rename_i hf;cases i;rw[<-V];refine TU h hd hlt ho J (vc:=#[]) (by rw[A,hf];rfl) (λL F' vs _ N X α=>?_) M hW (W.trans A.symm) arY;simpa using FC R α N (X.trans A)
    ·cases i
   ·cases i
  ·rename_i t J;simp only[atB]at i;obtain⟨xs,R,rfl⟩:=i;have h':wS C (aP.ev F (.tmp t)) xs d K F H:=h;have γ:a.eval (.tmp t)=a.tmps.getD t undef:=rfl;cases Z:aP.ev F (.tmp t)with
   |none=>rw[Z]at h';exact h'.elim
   |some u=>
    rw[Z]at h';have r:=M.t t _ Z;cases u with
    |fn name cs=>
     generalize hv:a.tmps.getD t undef=v at r;cases r with
     |fn vc S U=>
     rw[<-V];refine TU h' hd hlt ho J (vc:=vc) (by rw[γ,hv,W,A]) (λL F' ws ζ A' X ι=>?_) M hW (W.trans A.symm) arY;rw[Array.toList_append];refine fV.append (by simpa using FC R ι A' (X.trans A)) (fV.aaG (by simpa using S) λj p u hp hu=>(U j p u hp (by simpa using hu)).mono ζ)
    |lit u=>
     obtain⟨l,S,hy⟩:=h';unfold PV.Ur at S;split at S
     ·rename_i l' f' c' e;split at S
      ·rename_i ε;cases S;obtain⟨rfl,rfl⟩:=ε;cases e;generalize hv:a.tmps.getD t undef=v at r;cases r;rw[<-V];exact zh hy hd hlt ho J (by rw[γ,hv]) (λL F' vs A' N' α=>by simpa using FC R α A' (N'.trans A)) M hW (W.trans A.symm) arY
      ·cases S
     ·cases S
    |_=>exact h'.elim
  ·cases i
 ·have β:p.tM=false:=by simpa using hk
  have y:(if p.iW then oU (cQ p F) d K F H else if p.eY then cK p F H (λr H'=>K (F.put d r) H')else xH (aX p F H) d K F H):=by cases p<;>first|exact h|(simp[POp.tM]at β)
  by_cases hn:p.iW=true
  ·rw[aF hn]at y;obtain⟨mk,x,δ,hK⟩:=y;obtain⟨v,w',L,q,U,hq,B,D,O⟩:=R1 Y hn δ M hW W;refine NI (gn Y) ?_;rw[U,Oper.uponIn_value];exact arY L _ _ _ w' (by rw[<-hd];exact(M.mono O.env).put hlt B) D O (hK q hq)
  ·rw[aC hn]at y;by_cases hw:p.eY=true
   ·rw[aF hw]at y;obtain⟨v,nx,w',L,H',pv,U,η,B,D,O,hK⟩:=Iq Y hw y M hW W;refine NI (gn Y) ?_;have N:eX ds n L (F.put d pv) (a.put o.dst v):=by rw[<-hd];exact(M.mono O.env).put hlt B
    rcases η with rfl|⟨rfl,rfl⟩
    ·rw[U,Oper.uponIn_value];exact arY L _ _ _ w' N D O hK
    ·rw[U,Oper.uponIn_skip];exact arY L _ _ _ w' N D O hK
   ·rw[aC hw]at y;obtain⟨pv,θ,hK⟩:=y;obtain⟨v,w',L,U,B,D,O⟩:=Ll Y (by simpa using hn) (by simpa using hw) β θ M hW W;refine NI (gn Y) ?_;rw[U,Oper.uponIn_value];exact arY L _ _ _ w' (by rw[<-hd];exact(M.mono O.env).put hlt B) D O hK
end
def aP.cX:aP->N_
 | .tmp t=>[t]
 | .const _=>[]
def AO:Option aP->N_
 |none=>[]
 |some x=>x.cX
def WN:List aP->N_
 |[]=>[]
 |x::xs=>x.cX++WN xs
def Fv:List (Nat × Nat × aP)->N_
 |[]=>[]
 |x::xs=>x.2.2.cX++Fv xs
def Fu:List (Nat × aP)->N_
 |[]=>[]
 |x::xs=>x.2.cX++Fu xs
def POp.cX:POp->N_
 | .mv x=>x.cX
 | .pick c a b=>c.cX++(a.cX++b.cX)
 | .bin _ x y=>x.cX++y.cX
 | .eqb _ x y=>x.cX++y.cX
 | .eqs _ _ x y=>x.cX++y.cX
 | .un _ x=>x.cX
 | .conv _ x=>x.cX
 | .same x=>x.cX
 | .alloc _=>[]
 | .box _ x=>x.cX
 | .build _ ps=>Fv ps
 | .arH _ _ _ _ ps=>Fu ps
 | .load _ p=>p.cX
 | .store _ p x=>p.cX++x.cX
 | .arP x=>x.cX
 | .asF _ x=>x.cX
 | .field _ _ x=>x.cX
 | .arT _ x i=>x.cX++i.cX
 | .idxA _ _ x i=>x.cX++i.cX
 | .idxV _ _ _ x i=>x.cX++i.cX
 | .asD x i=>x.cX++i.cX
 | .slice _ x lo hi mx=>x.cX++(AO lo++(AO hi++AO mx))
 | .arZ x lo hi=>x.cX++(AO lo++AO hi)
 | .sliceA _ _ x lo hi mx=>x.cX++(AO lo++(AO hi++AO mx))
 | .len x=>x.cX
 | .asC x=>x.cX
 | .asN x=>x.cX
 | .lenM x=>x.cX
 | .isNil _ x=>x.cX
 | .extract x _=>x.cX
 | .arK _ _ _ l c=>l.cX++c.cX
 | .append _ _ x y=>x.cX++y.cX
 | .arX _ x y=>x.cX++y.cX
 | .mkfn _ cs=>WN cs
 | .asJ _=>[]
 | .lookup _ _ x k _=>x.cX++k.cX
 | .arU _ x k v=>x.cX++(k.cX++v.cX)
 | .insert _ x k v=>x.cX++(k.cX++v.cX)
 | .stuck=>[]
 | .arQ x=>x.cX
 | .str2bytes x=>x.cX
 | .call _ e=>WN e
 | .asE x e=>x.cX++WN e
def uQ(l:N_)(F F':PF):Prop:=∀t∈l,F t=F' t
theorem uQ.left{a b:N_}{F F':PF}(h:uQ (a++b) F F'):uQ a F F':=λt e=>h t (by simp[e])
theorem uQ.right{a b:N_}{F F':PF}(h:uQ (a++b) F F'):uQ b F F':=λt e=>h t (by simp[e])
section
variable {F F':PF} {H H':PH}
theorem cL{x:aP}(h:uQ x.cX F F'):x.ev F=x.ev F':=by
 cases x with
 |tmp t=>exact h t (by simp[aP.cX])
 |const v=>rfl
theorem OD:∀{xs:List aP},uQ (WN xs) F F'->aP.evs F xs=aP.evs F' xs
 |[],_=>rfl
 |x::xs,h=>by simp only[aP.evs,cL h.left,OD h.right]
theorem lx:∀{ps:List (Nat × Nat × aP)}{cs:V_},uQ (Fv ps) F F'->qN cs F ps=qN cs F' ps
 |[],_,_=>rfl
 |(o,s,x)::ps,cs,h=>by simp only[qN];rw[cL (x:=x) h.left];split;rw[lx (ps:=ps) h.right];rfl
theorem DS{s:Nat}:∀{ps:List (Nat × aP)}{rs:P2_},uQ (Fu ps) F F'->iB s rs F ps=iB s rs F' ps
 |[],_,_=>rfl
 |(i,x)::ps,rs,h=>by simp only[iB];rw[cL (x:=x) h.left];split;rw[DS (ps:=ps) h.right];rfl
theorem HB{d:Int}{x:Option aP}(h:uQ (AO x) F F'):bnd F d x=bnd F' d x:=by
 cases x with
 |none=>rfl
 |some x=>simp only[bnd,cL (x:=x) h]
theorem Nm{op:POp}(h:uQ op.cX F F'):aX op F H=aX op F' H:=by
 cases op
 case mv x=>simp only[aX,cL (x:=x) h]
 case same x=>simp only[aX,cL (x:=x) h]
 case pick c a b=>simp only[aX,cL (x:=c) h.left,cL (x:=a) h.right.left,cL (x:=b) h.right.right]
 case bin x y=>simp only[aX,cL (x:=x) h.left,cL (x:=y) h.right]
 case eqb x y=>simp only[aX,cL (x:=x) h.left,cL (x:=y) h.right]
 case eqs x y=>simp only[aX,cL (x:=x) h.left,cL (x:=y) h.right]
 case un x=>simp only[aX,cL (x:=x) h]
 case conv x=>simp only[aX,cL (x:=x) h]
 case box r x=>cases r<;>simp only[aX,cL (x:=x) h]
 case build ps=>simp only[aX,lx (ps:=ps) h]
 case arH r _ _ _ ps=>cases r<;>simp only[aX,DS (ps:=ps) h]
 case load n p=>cases n<;>simp only[aX,cL (x:=p) h]
 case arP x=>simp only[aX,cL (x:=x) h]
 case asF x=>simp only[aX,cL (x:=x) h]
 case field x=>simp only[aX,cL (x:=x) h]
 case arT x i=>simp only[aX,cL (x:=x) h.left,cL (x:=i) h.right]
 case idxA x i=>simp only[aX,cL (x:=x) h.left,cL (x:=i) h.right]
 case idxV x i=>simp only[aX,cL (x:=x) h.left,cL (x:=i) h.right]
 case asD x i=>simp only[aX,cL (x:=x) h.left,cL (x:=i) h.right]
 case slice s x lo hi mx=>
  have e:x.ev F=x.ev F':=cL h.left;have l:∀d,bnd F d lo=bnd F' d lo:=λd=>HB h.right.left;have u:∀d,bnd F d hi=bnd F' d hi:=λd=>HB h.right.right.left;cases mx with
  |none=>simp only[aX,e,l,u]
  |some m =>have w:∀d,bnd F d (some m)=bnd F' d (some m):=λd=>HB (x:=some m) h.right.right.right;simp only[aX,e,l,u,w]
 case sliceA n size x lo hi mx =>have e:x.ev F=x.ev F':=cL h.left;cases lo<;>cases hi<;>cases mx<;>simp only[aX,e]
 case arZ x lo hi =>have e:x.ev F=x.ev F':=cL h.left;have l:∀d,bnd F d lo=bnd F' d lo:=λd=>HB h.right.left;have u:∀d,bnd F d hi=bnd F' d hi:=λd=>HB h.right.right;simp only[aX,e,l,u]
 case len x=>simp only[aX,cL (x:=x) h]
 case asC x=>simp only[aX,cL (x:=x) h]
 case asN x=>simp only[aX,cL (x:=x) h]
 case lenM x=>simp only[aX,cL (x:=x) h]
 case isNil x=>simp only[aX,cL (x:=x) h]
 case extract x i=>simp only[aX,cL (x:=x) h]
 case arX x y=>simp only[aX,cL (x:=x) h.left,cL (x:=y) h.right]
 case mkfn cs=>simp only[aX,OD (xs:=cs) h]
 case lookup sh z x k ok=>simp only[aX,cL (x:=x) h.left,cL (x:=k) h.right]
 case arQ x=>simp only[aX,cL (x:=x) h]
 all_goals rfl
theorem K7{op:POp}(h:uQ op.cX F F'):cQ op F=cQ op F':=by
 cases op
 case box r x=>cases r<;>simp only[cQ,cL (x:=x) h]
 case arH r _ _ _ ps=>cases r<;>simp only[cQ,DS (ps:=ps) h]
 case arK l c=>simp only[cQ,cL (x:=l) h.left,cL (x:=c) h.right]
 all_goals rfl
theorem Pg{op:POp}{K:R_}(h:uQ op.cX F F'):cK op F H K=cK op F' H K:=by
 cases op
 case store n p x=>simp only[cK,cL (x:=p) h.left,cL (x:=x) h.right]
 case append s b x y=>simp only[cK,cL (x:=x) h.left,cL (x:=y) h.right]
 case arU sh x k v=>simp only[cK,cL (x:=x) h.left,cL (x:=k) h.right.left,cL (x:=v) h.right.right]
 case insert sh x k v=>simp only[cK,cL (x:=x) h.left,cL (x:=k) h.right.left,cL (x:=v) h.right.right]
 all_goals rfl
theorem vq{op:POp}(h:uQ op.cX F F'):op.kind F=op.kind F':=by
 have e:(if op.iW then Kind.new (cQ op F)else if op.eY then .write (λH K=>cK op F H K)else .calm (aX op F)) =
   (if op.iW then Kind.new (cQ op F')else if op.eY then .write (λH K=>cK op F' H K)else .calm (aX op F')):=by
  rw[K7 h];have i:(λH K=>cK op F H K)=λH K=>cK op F' H K:=by funext H K;exact Pg h
  have l:aX op F=aX op F':=by funext H;exact Nm h
  rw[i,l]
 cases op
 case call n az=>simp only[POp.kind,OD (xs:=az) h]
 case asE x az=>simp only[POp.kind,cL (x:=x) h.left,OD (xs:=az) h.right]
 case insert sh x k v=>simp only[POp.kind,cL (x:=x) h.left,cL (x:=k) h.right.left,cL (x:=v) h.right.right]
 all_goals exact e
def bU.cX(i:bU):N_:=
 match i.guard with
 |none=>i.op.cX
 |some (t,_)=>t::i.op.cX
theorem mu{i:bU}(h:uQ i.cX F F'):i.kind F=i.kind F':=by
 unfold bU.kind;unfold bU.cX at h;cases e:i.guard with
 |none=>rw[e]at h;exact vq h
 |some p =>obtain⟨t,l⟩:=p;rw[e]at h;simp only;rw[h t aZ,vq (λu w=>h u (by simp[w]))]
theorem W1(p:PV):∃q:Nat,∀(H H':PH) n,H q=H' q->loadCells H p n=loadCells H' p n:=by
 cases p
 case ptr o s i c=>exact⟨o,λH H' n h=>by simp only[loadCells,h]⟩
 all_goals exact⟨0,λH H' n h=>rfl⟩
theorem Zm(s:Nat)(p:PV):∃q:Nat,∀(H H':PH),H q=H' q->dG H s p=dG H' s p:=by
 cases p
 case osl o s' off len=>exact⟨o,λH H' h=>by simp only[dG,h]⟩
 all_goals exact⟨0,λH H' h=>rfl⟩
theorem Sk(op:POp)(F:PF):∃q:Nat,∀(H H':PH),H q=H' q->aX op F H=aX op F H':=by
 cases op
 case load n p=>
  cases hp:p.ev F with
  |none=>exact⟨0,λH H' _=>by cases n<;>simp only[aX,hp]⟩
  |some a =>obtain⟨q,hq⟩:=W1 a;exact⟨q,λH H' h=>by cases n<;>simp only[aX,hp,hq H H' _ h]⟩
 case lenM x=>
  cases hp:x.ev F with
  |none=>exact⟨0,λH H' _=>by simp only[aX,hp]⟩
  |some a=>
   cases a
   case map o=>exact⟨o,λH H' h=>by simp only[aX,hp,h]⟩
   all_goals exact⟨0,λH H' _=>by simp only[aX,hp]⟩
 case lookup sh z x k ok=>
  cases hp:x.ev F with
  |none=>exact⟨0,λH H' _=>by simp only[aX,hp]⟩
  |some a=>
   cases a
   case map o=>exact⟨o,λH H' h=>by cases e:k.ev F<;>simp only[aX,hp,e,h]⟩
   all_goals exact⟨0,λH H' _=>by simp only[aX,hp]⟩
 case arQ x=>
  cases hp:x.ev F with
  |none=>exact⟨0,λH H' _=>by simp only[aX,hp]⟩
  |some a =>obtain⟨q,hq⟩:=Zm 1 a;exact⟨q,λH H' h=>by simp only[aX,hp,hq H H' h]⟩
 case sliceA n s x lo hi mx=>cases lo<;>cases hi<;>cases mx<;>exact⟨0,λH H' _=>rfl⟩
 case box r x=>cases r<;>exact⟨0,λH H' _=>rfl⟩
 case arH r _ _ _ _=>cases r<;>exact⟨0,λH H' _=>rfl⟩
 all_goals exact⟨0,λH H' _=>rfl⟩
theorem v6{p:PV}{n:Nat}{cs:V_}(e:H.le H')(h:loadCells H p n=some cs):loadCells H' p n=some cs:=by
 cases p
 case ptr o s i c=>
  simp only[loadCells]at h ⊢;cases l:H o with
  |none=>rw[l]at h;cases h
  |some x=>rw[e o x l];rw[l]at h;exact h
 all_goals exact h
theorem Ue{s:Nat}{p:PV}{rs:P2_}(e:H.le H')(h:dG H s p=some rs):dG H' s p=some rs:=by
 cases p
 case osl o s' off len=>
  simp only[dG]at h ⊢;cases i:H o with
  |none=>rw[i]at h;simp at h
  |some x=>rw[e o x i];rw[i]at h;exact h
 all_goals exact h
theorem oe{op:POp}{v:PV}(i:H.le H')(h:aX op F H=some v):aX op F H'=some v:=by
 cases op
 case load n p=>
  cases hp:p.ev F with
  |none=>cases n<;>simp only[aX,hp]at h<;>cases h
  |some a=>
   cases n with
   |none=>
    simp only[aX,hp]at h ⊢;cases e:loadCells H a 1 with
    |none=>rw[e]at h;cases h
    |some cs=>rw[v6 i e];rw[e]at h;exact h
   |some n=>
    simp only[aX,hp]at h ⊢;cases e:loadCells H a n with
    |none=>rw[e]at h;cases h
    |some cs=>rw[v6 i e];rw[e]at h;exact h
 case lenM x=>
  simp only[aX]at h ⊢;split at h
  ·rename_i o u;cases l:H o with
   |none=>rw[l]at h;cases h
   |some y=>rw[i o y l];rw[l]at h;exact h
  ·cases h
 case lookup sh z x k ok=>
  simp only[aX]at h ⊢;split at h
  ·rename_i o B u A;cases l:H o with
   |none=>rw[l]at h;cases h
   |some y=>rw[i o y l];rw[l]at h;exact h
  ·cases h
 case arQ x=>
  simp only[aX]at h ⊢;split at h
  ·rename_i a w;cases e:dG H 1 a with
   |none=>rw[e]at h;cases h
   |some rs=>rw[Ue i e];rw[e]at h;exact h
  ·cases h
 case sliceA n s x lo hi mx=>cases lo<;>cases hi<;>cases mx<;>exact h
 case box r x=>cases r<;>exact h
 case arH r _ _ _ _=>cases r<;>exact h
 all_goals exact h
end
theorem PH.vf(H:PH)(l:N_):∃o,H o=none/\o ∉ l:=by
 obtain⟨n,i⟩:=H.fin;refine⟨n+l.sum+1,i _ Om,λh=>?_⟩;have:n+l.sum+1<=l.sum:=by
  have e:∀(l:N_)(x:Nat),x∈l->x<=l.sum:=by
   intro l
   induction l with
   |nil=>intro x hx;cases hx
   |cons y ys u=>
    intro x hx;rcases atG.1 hx with rfl|hx
    simp;have:=u x hx;simp;omega
  exact e l _ h
 omega
theorem PH.set_comm(H:PH){o q:Nat}(x y:aS)(h:o≠q):(H.set o x).set q y=(H.set q y).set o x:=by
 refine PH.ext λp=>?_;simp only[cW];by_cases e:p=q<;>by_cases i:p=o<;>simp_all
theorem PH.UV{H:PH}{o:Nat}(x:aS)(h:H o=none):H.le (H.set o x):=by
 intro p y hp;rw[cW];split;rename_i e;subst e;rw[h]at hp;cases hp;exact hp
theorem PH.Fo{H:PH}{o q:Nat}{x:aS}:(H.set o x) q=none↔q≠o/\H q=none:=by
 rw[cW];split<;>simp_all
theorem PH.le_trans{A B D:PH}(h:A.le B)(k:B.le D):A.le D:=λo x e=>k o x (h o x e)
theorem PH.le_none{A B:PH}(h:A.le B){o:Nat}(hb:B o=none):A o=none:=by
 cases e:A o with
 |none=>rfl
 |some x=>have:=h o x e;rw[hb]at this;cases this
theorem PH.ahD{A B:PH}(h:A.le B){o:Nat}{x:aS}(i:A o=none):A.le (B.set o x):=by
 intro p y hp;rw[cW];split;rename_i e;subst e;rw[i]at hp;cases hp;exact h p y hp
structure A8(f:PH->Option PV):Prop where
 dep:∃q:Nat,∀(H H':PH),H q=H' q->f H=f H'
 mono:∀(H H':PH) v,H.le H'->f H=some v->f H'=some v
structure aaR(w:PH->(R_)->Prop):Prop where
 mono:∀H (K K':R_),(∀v H',K v H'->K' v H')->w H K->w H K'
 some:∀H (K:R_),w H K->∃v H',K v H'
inductive Kind.Ok:Kind->Prop
 |fail:Kind.Ok .fail
 |calm {f:PH->Option PV} (h:A8 f):Kind.Ok (.calm f)
 |new (r:Option ((Nat->PV) × aS)):Kind.Ok (.new r)
 |write {w:PH->(R_)->Prop} (h:aaR w):Kind.Ok (.write w)
 |call (name:Nat) (args:Option V_):Kind.Ok (.call name args)
 |ins (r:Option (Nat × MSh × List KS × PV)):Kind.Ok (.ins r)
section
variable {C:Ctx} {Hs:PH} {S:Spec} {H:PH}
theorem IT{op:POp}{F:PF}{K K':R_}(h:∀v H',K v H'->K' v H')(i:cK op F H K):cK op F H K':=by
 cases op
 case store n p x=>
  simp only[cK]at i ⊢;split at i
  ·obtain⟨D,H',l,E⟩:=i;exact⟨D,H',l,h _ _ E⟩
  ·exact i.elim
 case append s b x y=>
  simp only[cK]at i ⊢;split at i
  ·rename_i a c J L;obtain⟨src,D,l⟩:=i;refine⟨src,D,?_⟩;split at l
   ·exact⟨l.1,λe=>h _ _ (l.2.1 e),λe o u=>h _ _ (l.2.2 e o u)⟩
   ·obtain⟨g1,g2,g3,rs,g4,w,A,B⟩:=l;exact⟨g1,g2,g3,rs,g4,w,h _ _ A,λo u=>h _ _ (B o u)⟩
   ·obtain⟨g1,g3,rs,g4,w,A,B⟩:=l;exact⟨g1,g3,rs,g4,w,h _ _ A,λo u=>h _ _ (B o u)⟩
   ·exact l.elim
  ·exact i.elim
 case arU sh x k v=>
  simp only[cK]at i ⊢;split at i
  ·split at i
   ·exact⟨i.1,h _ _ i.2⟩
   ·exact i.elim
  ·exact i.elim
 case insert sh x k v=>
  simp only[cK]at i ⊢;split at i
  ·split at i
   ·exact⟨i.1,i.2.1,h _ _ i.2.2⟩
   ·exact i.elim
  ·exact i.elim
 all_goals exact i.elim
theorem Gt{op:POp}{F:PF}{K:R_}(i:cK op F H K):∃v H',K v H':=by
 cases op
 case store n p x=>
  simp only[cK]at i;split at i
  ·obtain⟨B,H',l,D⟩:=i;exact⟨_,_,D⟩
  ·exact i.elim
 case append s b x y=>
  simp only[cK]at i;split at i
  ·rename_i a c J L;obtain⟨src,B,l⟩:=i;split at l
   ·by_cases e:src=[]
    ·exact⟨_,_,l.2.1 e⟩
    ·obtain⟨o,E⟩:=H.fresh;exact⟨_,_,l.2.2 e o E⟩
   ·obtain⟨g1,g2,g3,rs,g4,w,u,A⟩:=l;exact⟨_,_,u⟩
   ·obtain⟨g1,g3,rs,g4,w,u,A⟩:=l;exact⟨_,_,u⟩
   ·exact l.elim
  ·exact i.elim
 case arU sh x k v=>
  simp only[cK]at i;split at i
  ·split at i
   ·exact⟨_,_,i.2⟩
   ·exact i.elim
  ·exact i.elim
 case insert sh x k v=>
  simp only[cK]at i;split at i
  ·split at i
   ·exact⟨_,_,i.2.2⟩
   ·exact i.elim
  ·exact i.elim
 all_goals exact i.elim
theorem Ed(op:POp)(F:PF):(op.kind F).Ok:=by
 have e:(if op.iW then Kind.new (cQ op F)else if op.eY then .write (λH K=>cK op F H K)else .calm (aX op F)).Ok:=by
  split
  ·exact .new _
  ·split
   ·exact .write ⟨λH K K' h i=>IT h i,λH K i=>Gt i⟩
   ·exact .calm ⟨Sk op F,λH H' v h l=>oe h l⟩
 cases op
 case call n az=>exact .call _ _
 case asE x az=>
  simp only[POp.kind];split
  ·exact .call _ _
  ·exact .fail
 case insert sh x k v=>exact .ins _
 all_goals exact e
theorem yB(i:bU)(F:PF):(i.kind F).Ok:=by
 unfold bU.kind;split;exact Ed _ _;split;split;exact Ed _ _;exact .calm ⟨⟨0,λ_ _ _=>rfl⟩,λ_ _ _ _ h=>h⟩;exact .calm ⟨⟨0,λ_ _ _=>rfl⟩,λ_ _ _ _ h=>h⟩;exact .fail
theorem Kind.yI{k:Kind}(J:k.Ok){st:Bool}{K K':R_}(h:∀v H',Hs.le H'->K v H'->K' v H')(l:Hs.le H)(u:k.run C Hs S st K H):k.run C Hs S st K' H:=by
 cases J with
 |fail=>exact u
 |calm _=>obtain⟨v,e,i⟩:=u;exact⟨v,e,h _ _ l i⟩
 |new r=>obtain⟨M,x,e,i⟩:=u;exact⟨M,x,e,λo F=>h _ _ (PH.le_trans l (PH.UV x F)) (i o F)⟩
 |write L=>exact L.mono _ _ _ (λv H' B=>⟨B.1,h _ _ B.1 B.2⟩) u
 |call name args =>obtain⟨vs,D,R,e,i,y,w,h5,A⟩:=u;exact⟨vs,D,R,e,i,y,w,h5,λr H' a b=>⟨(A r H' a b).1,h _ _ (A r H' a b).1 (A r H' a b).2⟩⟩
 |ins r =>obtain⟨o,sh,E,v,g,e,i,y,w,h5⟩:=u;exact⟨o,sh,E,v,g,e,i,y,w,h _ _ (PH.ahD l w) h5⟩
def Kind.cls:Kind->Nat
 | .fail | .calm _=>0
 | .new _=>1
 | .write _=>2
 | .call ..=>3
 | .ins _=>4
theorem QH{H:PH}{D:N_}{o:Nat}(x:aS)(h:o ∉ D):(H.set o x).only D=H.only D:=by
 refine PH.ext λq=>?_;simp only[PH.only,cW];split;rename_i hq;rw[aC (by rintro rfl;exact h hq)];rfl
theorem iM(H e H':PH)(o:Nat):(H.over e H') o=(match H' o with|some x=>some x|none=>match e o with|some _=>some .dead|none=>H o):=rfl
theorem yW(H:PH)(D:N_)(o:Nat):(H.only D) o=if o∈D then H o else none:=rfl
theorem El{H H':PH}{D:N_}{o:Nat}(x:aS)(l:o ∉ D)(i:H' o=none):(H.set o x).over (H.only D) H'=(H.over (H.only D) H').set o x:=by
 refine PH.ext λq=>?_;rw[iM,cW,cW,iM];by_cases e:q=o;subst e;simp only[i,yW,aC l,if_true];simp only[aC e]
theorem wu{H H':PH}{D:N_}{o:Nat}(h:(H.over (H.only D) H') o=none):H o=none/\H' o=none:=by
 rw[iM]at h;cases e:H' o with
 |some x=>rw[e]at h;cases h
 |none=>
  rw[e]at h;simp only at h;cases i:(H.only D) o with
  |some x=>rw[i]at h;cases h
  |none=>rw[i]at h;exact⟨h,rfl⟩
theorem zc{name:Nat}{args:Option V_}{r:Option ((Nat->PV) × aS)}{K:PV->R_}{W X:Bool}
  (h:(Kind.call name args).run C Hs S W (λv H'=>(Kind.new r).run C Hs S X (λu l=>K v u l) H') H) :
  (Kind.new r).run C Hs S X (λu H'=>(Kind.call name args).run C Hs S W (λv l=>K v u l) H') H:=by
 obtain⟨vs,D,R,h1,h2,L,h4,h5,M⟩:=h;obtain⟨r0,Y,E,F⟩:=h5 H;obtain⟨-,mk,x,U,-⟩:=M r0 Y E F;refine⟨mk,x,U,λo O=>?_⟩;have i:o ∉ D:=λhD=>by obtain⟨y,V⟩:=L o hD;rw[O]at V;cases V
 refine⟨vs,D,R,h1,h2,λq hq=>?_,?_,?_,?_⟩;rw[cW];split;exact⟨_,rfl⟩;exact L q hq;rw[QH x i];exact h4;rw[QH x i];exact h5;intro v H' N w;rw[QH x i]at N w ⊢;have J:H' o=none:=by
  cases e:H' o with
  |none=>rfl
  |some y =>have:=w o y e (by rw[yW,aC i]);rw[cW,aF rfl]at this;cases this
 have A:rG H (H.only D) H':=λq y hq Z=>by have:=w q y hq Z;rw[cW]at this;split at this;cases this;exact this
 obtain⟨g1,mk',x',g2,g3⟩:=M v H' N A;rw[U]at g2;cases g2;have B:(H.over (H.only D) H') o=none:=by rw[iM,J,yW,aC i];exact O
 rw[El x i J];exact⟨PH.le_trans g1 (PH.UV x B),g3 o B⟩
theorem ze{name:Nat}{args:Option V_}{r:Option ((Nat->PV) × aS)}{K:PV->R_}{Y Z:Bool}(M:Hs.le H)
  (h:(Kind.new r).run C Hs S Y (λv H'=>(Kind.call name args).run C Hs S Z (λu w=>K v u w) H') H) :
  (Kind.call name args).run C Hs S Z (λu H'=>(Kind.new r).run C Hs S Y (λv w=>K v u w) H') H:=by
 obtain⟨O,x,hr,h⟩:=h;obtain⟨o0,N⟩:=H.fresh;obtain⟨vs,D,R,W,X,-⟩:=h o0 N;obtain⟨o,ho,A⟩:=H.vf D;have all:∀q,H q=none->q ∉ D->(∀p∈D,∃y,(H.set q x) p=some y)/\aH C name vs (H.only D) (R (H.only D))/\(∀G:PH,∃r H',R (H.only D) r H'/\rG G (H.only D) H') /\
   ∀r H',R (H.only D) r H'->rG (H.set q x) (H.only D) H'->Hs.le ((H.set q x).over (H.only D) H')/\K (O q) r ((H.set q x).over (H.only D) H'):=by
  intro q hq l;obtain⟨α,D',R',g1,g2,g3,g4,U,V⟩:=h q hq;rw[W]at g1;cases g1;rw[X]at g2;cases g2;rw[QH x l]at g4 U V;exact⟨g3,g4,U,V⟩
 obtain⟨a3,a4,a5,-⟩:=all o ho A;have hD:∀q∈D,∃y,H q=some y:=λq hq=>by obtain⟨y,F⟩:=a3 q hq;rw[cW,aC (by rintro rfl;exact A hq)]at F;exact⟨y,F⟩
 have B:∀q,H q=none->q ∉ D:=λq hq J=>by obtain⟨y,F⟩:=hD q J;rw[hq]at F;cases F
 refine⟨vs,D,R,W,X,hD,a4,a5,λu H' hR L=>?_⟩;have step:∀q,(H.over (H.only D) H') q=none->Hs.le ((H.over (H.only D) H').set q x)/\K (O q) u ((H.over (H.only D) H').set q x):=by
  intro q hq;obtain⟨i,E⟩:=wu hq;have l:=B q i;obtain⟨-,-,-,a6⟩:=all q i l;have:=a6 u H' hR λp y hp h0=>by rw[cW];split;rename_i e;subst e;rw[E]at hp;cases hp;exact L p y hp h0
  rw[El x l E]at this;exact this
 refine⟨?_,O,x,hr,λq hq=>(step q hq).2⟩;obtain⟨q,hq⟩:=(H.over (H.only D) H').fresh;have i:=(step q hq).1;intro p y hp;have:=i p y hp;rw[cW]at this;split at this;rename_i e;subst e;have:=PH.le_none M (wu hq).1;rw[hp]at this;cases this;exact this
theorem F9{r r':Option ((Nat->PV) × aS)}{K:PV->R_}{A B:Bool}
  (h:(Kind.new r).run C Hs S A (λv H'=>(Kind.new r').run C Hs S B (λu e=>K v u e) H') H) :
  (Kind.new r').run C Hs S B (λu H'=>(Kind.new r).run C Hs S A (λv e=>K v u e) H') H:=by
 obtain⟨F,x,E,h⟩:=h;obtain⟨L,y⟩:=H.fresh;obtain⟨mk',D,i,-⟩:=h L y;refine⟨mk',D,i,λq hq=>⟨F,x,E,λo w=>?_⟩⟩;rw[PH.Fo]at w;obtain⟨J,M,l,g⟩:=h o w.2;rw[i]at l;cases l;have:=g q (PH.Fo.2 ⟨Ne.symm w.1,hq⟩)
 rwa[PH.set_comm H x D w.1]at this
theorem zd{f:PH->Option PV}{k:Kind}{K:PV->R_}{w D:Bool}(E:A8 f)(F:k.Ok)(l:k.cls=2\/k.cls=3\/k.cls=4->w=true)(i:Hs.le H)
  (h:(Kind.calm f).run C Hs S w (λv H'=>k.run C Hs S D (λu e=>K v u e) H') H) :
  k.run C Hs S D (λu H'=>(Kind.calm f).run C Hs S w (λv e=>K v u e) H') H:=by
 obtain⟨v,y,h⟩:=h;cases F with
 |fail=>exact h
 |@calm g O=>obtain⟨u,L,h⟩:=h;exact⟨u,L,v,y,h⟩
 |new r =>obtain⟨N,x,J,h⟩:=h;refine⟨N,x,J,λo B=>⟨v,?_,h o B⟩⟩;cases w;exact E.mono _ _ _ (PH.UV x B) y;exact y
 |write M =>have:w=true:=l (.inl rfl);subst this;exact Kind.yI (.write M) (λu H' _ A=>⟨v,y,A⟩) i h
 |call name args =>have:w=true:=l (.inr (.inl rfl));subst this;exact Kind.yI (.call name args) (λu H' _ A=>⟨v,y,A⟩) i h
 |ins r =>have:w=true:=l (.inr (.inr rfl));subst this;exact Kind.yI (.ins r) (λu H' _ A=>⟨v,y,A⟩) i h
theorem zb{f:PH->Option PV}{k:Kind}{K:PV->R_}{si F:Bool}(hf:A8 f)(hk:k.Ok)(E:k.cls=2\/k.cls=3\/k.cls=4->F=true)(α:Hs.le H)
  (h:k.run C Hs S si (λv H'=>(Kind.calm f).run C Hs S F (λu A=>K v u A) H') H) :
  (Kind.calm f).run C Hs S F (λu H'=>k.run C Hs S si (λv A=>K v u A) H') H:=by
 cases hk with
 |fail=>exact h.elim
 |@calm g hg=>obtain⟨u,l,v,hv,h⟩:=h;exact⟨v,hv,u,l,h⟩
 |new r=>
  obtain⟨mk,x,hr,h⟩:=h;cases F with
  |true =>obtain⟨Z,B⟩:=H.fresh;obtain⟨u,l,-⟩:=h Z B;refine⟨u,l,mk,x,hr,λo J=>?_⟩;obtain⟨u',i,y⟩:=h o J;simp only[if_true]at l i;rw[l]at i;cases i;exact y
  |false=>
   obtain⟨q,hq⟩:=hf.dep;obtain⟨Z,B,X⟩:=H.vf [q];obtain⟨u,l,-⟩:=h Z B;simp only[auQ,if_false]at l;have i:f H=some u:=by rw[<-l];exact hq _ _ (by rw[cW,aC (by simpa using Ne.symm (λe=>X (by simp[e])))])
   refine⟨u,i,mk,x,hr,λo J=>?_⟩;obtain⟨u2,hu2,y⟩:=h o J;simp only[auQ,if_false]at hu2;rw[hf.mono _ _ _ (PH.UV x J) i]at hu2;cases hu2;exact y
 |@write w hw =>have:F=true:=E (.inl rfl);subst this;obtain⟨_,_,_,u,l,_⟩:=hw.some _ _ h;refine⟨u,l,hw.mono _ _ _ (λv H' hh=>⟨hh.1,?_⟩) h⟩;obtain⟨-,u',i,y⟩:=hh;simp only[if_true]at l i;rw[l]at i;cases i;exact y
 |call name args =>have:F=true:=E (.inr (.inl rfl));subst this;obtain⟨vs,D,R,L,M,N,O,h5,h6⟩:=h;obtain⟨r0,H0,U,V⟩:=h5 H;obtain⟨-,u,l,-⟩:=h6 r0 H0 U V;refine⟨u,l,vs,D,R,L,M,N,O,h5,λr H' hR W=>?_⟩;obtain⟨g1,u',i,y⟩:=h6 r H' hR W;simp only[if_true]at l i;rw[l]at i;cases i;exact⟨g1,y⟩
 |ins r =>have:F=true:=E (.inr (.inr rfl));subst this;obtain⟨o,sh,Y,v,g,L,M,N,O,u,l,y⟩:=h;exact⟨u,l,o,sh,Y,v,g,L,M,N,O,y⟩
theorem F8{r r':Option (Nat × MSh × List KS × PV)}{K:PV->R_}{O R:Bool}
  (h:(Kind.ins r).run C Hs S O (λv H'=>(Kind.ins r').run C Hs S R (λu w=>K v u w) H') H) :
  (Kind.ins r').run C Hs S R (λu H'=>(Kind.ins r).run C Hs S O (λv w=>K v u w) H') H:=by
 obtain⟨o,sh,l,v,g,F,J,L,A,o',E,i,v',U,N,y,B,V,M⟩:=h;by_cases e:o'=o;subst e;rw[cW,aF rfl]at y;cases y;have x:i≠l:=by rintro rfl;simp[jY.upd]at B
 have D:g i=none:=by simpa[jY.upd,x]using B
 refine⟨o',sh,i,v',g,N,J,D,A,o',sh,l,v,g.upd i v',F,by rw[cW,aF rfl],by simp[jY.upd,Ne.symm x,L],A,?_⟩;have:((H.set o' (.map sh (g.upd i v'))).set o' (.map sh ((g.upd i v').upd l v)))=((H.set o' (.map sh (g.upd l v))).set o' (.map sh ((g.upd l v).upd i v'))):=by refine PH.ext λq=>?_;simp only[cW];split;congr 2;funext k;simp only[jY.upd];by_cases h5:k=l<;>by_cases W:k=i<;>simp_all;rfl
 rw[this];exact M;rw[cW,aC e]at y;refine⟨o',E,i,v',U,N,y,B,V,o,sh,l,v,g,F,by rw[cW,aC (Ne.symm e)];exact J,L,A,?_⟩;rw[PH.set_comm H _ _ e];exact M
def AA(a b:Nat)(e i:Bool):Bool:=
 match a,b with
 |0,0|0,1|1,0|1,1|1,3|3,1|4,4=>true
 |0,_=>e
 |_,0=>i
 |_,_=>false
theorem Oj{B E:Kind}{K:PV->R_}{M N:Bool}(hi:B.Ok)(A:E.Ok)(e:AA B.cls E.cls M N=true)(y:Hs.le H)
  (h:B.run C Hs S M (λv H'=>E.run C Hs S N (λu l=>K v u l) H') H) :
  E.run C Hs S N (λu H'=>B.run C Hs S M (λv l=>K v u l) H') H:=by
 by_cases w:B.cls=0
 ·cases hi with
  |fail=>exact h.elim
  |calm L =>refine zd L A (λhc=>?_) y h;rcases hc with hc|hc|hc<;>(rw[hc]at e;simpa[AA,Kind.cls]using e)
  |new|write|call|ins=>simp[Kind.cls]at w
 by_cases i:E.cls=0
 ·cases A with
  |fail=>
   cases hi with
   |fail=>exact h
   |calm _=>simp[Kind.cls]at w
   |new r =>obtain⟨mk,x,-,h⟩:=h;obtain⟨o,ho⟩:=H.fresh;exact h o ho
   |write hw=>obtain⟨_,_,_,Z⟩:=hw.some _ _ h;exact Z
   |call name args =>obtain⟨vs,D,R,U,V,W,X,h5,Y⟩:=h;obtain⟨r0,O,F,J⟩:=h5 H;exact(Y r0 O F J).2
   |ins r =>obtain⟨o,sh,α,v,g,U,V,W,X,h5⟩:=h;exact h5
  |calm L =>refine zb L hi (λhc=>?_) y h;rcases hc with hc|hc|hc<;>(rw[hc]at e;simpa[AA,Kind.cls]using e)
  |new|write|call|ins=>simp[Kind.cls]at i
 ·cases hi with
  |fail|calm=>simp[Kind.cls]at w
  |new r=>
   cases A with
   |fail|calm=>simp[Kind.cls]at i
   |new r'=>exact F9 h
   |write=>simp[Kind.cls,AA]at e
   |call=>exact ze y h
   |ins=>simp[Kind.cls,AA]at e
  |write=>cases A<;>simp[Kind.cls,AA]at e i
  |call=>
   cases A with
   |fail|calm=>simp[Kind.cls]at i
   |new r'=>exact zc h
   |write=>simp[Kind.cls,AA]at e
   |call=>simp[Kind.cls,AA]at e
   |ins=>simp[Kind.cls,AA]at e
  |ins=>
   cases A with
   |fail|calm=>simp[Kind.cls]at i
   |new r'=>simp[Kind.cls,AA]at e
   |write=>simp[Kind.cls,AA]at e
   |call=>simp[Kind.cls,AA]at e
   |ins=>exact F8 h
end
open Go Go.RowKit
def bU.apart(x y:bU):Bool:=
 (match x.dst with
  |some d=>!(y.cX).contains d&&y.dst != some d
  |none=>true) &&
 (match y.dst with
  |some d=>!(x.cX).contains d
  |none=>true)
theorem Et{F:PF}{l:N_}{d:O_}(v:PV)(h:∀t,d=some t->t ∉ l):uQ l (F.put d v) F:=by
 intro t e;cases d with
 |none=>rfl
 |some d=>
  have:t≠d:=by rintro rfl;exact h t rfl e
  simp only[PF.put,PF.set,upd,aC this]
theorem Xx{F:PF}{d e:O_}(v u:PV)(h:∀t,d=some t->e≠some t):(F.put d v).put e u=(F.put e u).put d v:=by
 cases d with
 |none=>rfl
 |some d=>
  cases e with
  |none=>rfl
  |some e=>
   have i:d≠e:=by rintro rfl;exact h d rfl rfl
   exact Zf F (some v) (some u) i
theorem apart_spec{x y:bU}(h:x.apart y=true):(∀d,x.dst=some d->d ∉ y.cX)/\(∀d,x.dst=some d->y.dst≠some d)/\(∀d,y.dst=some d->d ∉ x.cX):=by
 refine⟨λd e=>?_,λd e=>?_,λd e=>?_⟩<;>simp[bU.apart,e]at h;exact h.1.1;exact h.1.2;exact h.2
def POp.cls:POp->Nat
 | .call .. | .asE ..=>3
 | .insert ..=>4
 |op=>if op.iW then 1 else if op.eY then 2 else 0
def W4(a b:Nat)(e i:Bool):Bool:=
 match a,b with
 |0,0|0,1|1,0|1,1=>true
 |4,4=>e&&i
 |0,_=>e
 |_,0=>i
 |1,3=>e
 |3,1=>i
 |_,_=>false
def lz(x y:bU × Bool):Bool:=x.1.apart y.1&&W4 x.1.op.cls y.1.op.cls x.2 y.2
section
variable {C:Ctx} {Hs:PH} {S:Spec} {H:PH} {F:PF}
theorem wr(op:POp)(F:PF):(op.kind F).cls=op.cls\/(op.kind F).cls=0:=by
 have e:(if op.iW then Kind.new (cQ op F)else if op.eY then .write (λH K=>cK op F H K)else .calm (aX op F)).cls=(if op.iW then 1 else if op.eY then 2 else 0):=by
  split
  ·rfl
  ·split<;>rfl
 cases op
 case call n az=>exact .inl rfl
 case asE x az=>
  simp only[POp.kind];split
  ·exact .inl rfl
  ·exact .inr rfl
 case insert sh x k v=>exact .inl rfl
 all_goals exact .inl e
theorem vm(i:bU)(F:PF):(i.kind F).cls=i.op.cls\/(i.kind F).cls=0:=by
 unfold bU.kind;split;exact wr _ _;split;split;exact wr _ _;exact .inr rfl;exact .inr rfl;exact .inr rfl
theorem ahF{a b e i:Nat}{l u:Bool}(h:W4 a b l u=true)(w:e=a\/e=0)(hb:i=b\/i=0):AA e i l u=true:=by
 unfold W4 at h;split at h
 all_goals (rcases w with rfl|rfl<;>rcases hb with rfl|rfl<;>simp_all [AA])
theorem Kind.Yh{k:Kind}(A:k.Ok){st:Bool}{K:R_}(e:k.run C Hs S st K H):∃v H',K v H':=by
 cases A with
 |fail=>exact e.elim
 |calm _=>obtain⟨v,l,i⟩:=e;exact⟨v,_,i⟩
 |new r=>obtain⟨L,x,l,i⟩:=e;obtain⟨o,B⟩:=H.fresh;exact⟨_,_,i o B⟩
 |write E=>obtain⟨v,H',h⟩:=E.some _ _ e;exact⟨v,H',h.2⟩
 |call name args =>obtain⟨vs,D,R,l,i,u,w,h5,y⟩:=e;obtain⟨r,H',a,b⟩:=h5 H;exact⟨_,_,(y r H' a b).2⟩
 |ins r =>obtain⟨o,sh,J,v,g,l,i,u,w,h5⟩:=e;exact⟨_,_,h5⟩
def AF(C:Ctx)(Hs:PH)(S:Spec)(i:bU × Bool)(K:K_)(F:PF)(H:PH):Prop:=(i.1.kind F).run C Hs S i.2 (λv H'=>K (F.put i.1.dst v) H') H
theorem DJ{i:bU × Bool}{K K':K_}(h:∀l H',Hs.le H'->K l H'->K' l H')(e:Hs.le H)(u:AF C Hs S i K F H):AF C Hs S i K' F H:=
 Kind.yI (yB _ _) (λv H' a b=>h _ _ a b) e u
theorem Sb{i j:bU × Bool}{K:K_}(w:lz i j=true)(l:Hs.le H)(h:AF C Hs S i (AF C Hs S j K) F H):AF C Hs S j (AF C Hs S i K) F H:=by
 simp only[lz,asV]at w;obtain⟨y,A,B⟩:=apart_spec w.1;unfold AF at h ⊢;have x:∀v,j.1.kind (F.put i.1.dst v)=j.1.kind F:=λv=>mu (Et v y);have e2:∀v,i.1.kind (F.put j.1.dst v)=i.1.kind F:=λv=>mu (Et v B);simp only[x]at h;simp only[e2];have:=Oj (K:=λv u e=>K ((F.put i.1.dst v).put j.1.dst u) e) (yB i.1 F) (yB j.1 F) (ahF w.2 (vm _ _) (vm _ _)) l h;refine Kind.yI (yB j.1 F) (λu H' a b=>?_) l this;refine Kind.yI (yB i.1 F) (λv e _ c=>?_) a b;rw[Xx v u A]at c;exact c
inductive CO (ops:Array Oper):Nat->Nat->Prop
 |one {i j:Nat} {o:Oper} {e} (ho:ops[j]?=some o) (he:e∈o.after) (hb:Region.binds .any e=true) (hi:e.on=i):CO ops i j
 |step {i m j:Nat} {o:Oper} {e} (h:CO ops i m) (ho:ops[j]?=some o) (he:e∈o.after) (hb:Region.binds .any e=true) (hm:e.on=m):CO ops i j
def uP(ops:Array Oper)(listed:Array Bool):Prop:=∀j o,ops[j]?=some o->listed.getD j false=true->∀e∈o.after,Region.binds .any e=true->listed.getD e.on false=true
theorem uP.Ze{ops:Array Oper}{listed:Array Bool}(l:uP ops listed){i j:Nat}(h:CO ops i j)(u:listed.getD j false=true):listed.getD i false=true:=by
 induction h with
 |one e he hb hi=>subst hi;exact l _ _ e u _ he hb
 |step h e he hb w x=>subst w;exact x (l _ _ e u _ he hb)
theorem uP.wn{ops:Array Oper}{listed:Array Bool}(y:uP ops listed){i j:Nat}(h:CO ops i j)(hi:listed.getD i false=false):j ∉ Region.ready .any ops listed:=by
 intro w;rw[mem_ready]at w;obtain⟨-,o,x,l⟩:=w;cases h with
 |one e he hb u =>rw[x]at e;cases e;subst u;rw[l _ he hb]at hi;cases hi
 |step h e he hb A =>rw[x]at e;cases e;subst A;rw[y.Ze h (l _ he hb)]at hi;cases hi
theorem uP.set{ops:Array Oper}{listed:Array Bool}(A:uP ops listed){i:Nat}(hi:i∈Region.ready .any ops listed):uP ops (listed.setIfInBounds i true):=by
 intro j o y x e he hb;by_cases u:j=i;subst u;rw[mem_ready]at hi;obtain⟨-,o',w,l⟩:=hi;rw[y]at w;cases w;exact getD_set_true (l e he hb);rw[getD_set_ne false (Ne.symm u)]at x;exact getD_set_true (A j o y x e he hb)
def GY(C:Ctx)(Hs:PH)(S:Spec)(ops:Array Oper)(il:List (bU × Bool))(K:K_):Nat->Array Bool->K_
 |0,listed,F,H=>Region.ready .any ops listed=[]/\K F H
 |fuel+1,listed,F,H=>(Region.ready .any ops listed=[]->K F H) /\
  ∀i∈Region.ready .any ops listed,∀p,il[i]?=some p->AF C Hs S p (GY C Hs S ops il K fuel (listed.setIfInBounds i true)) F H
theorem K8{ops:Array Oper}{il:List (bU × Bool)}{K:K_}{i:Nat}{p:bU × Bool}(hp:il[i]?=some p) :
  ∀(fuel:Nat)(listed:Array Bool)(F:PF)(H:PH),Hs.le H->uP ops listed ->
   (∀j q,il[j]?=some q->j≠i->listed.getD j true=false->¬CO ops i j->lz p q=true) ->
   i∈Region.ready .any ops listed->AF C Hs S p (GY C Hs S ops il K fuel (listed.setIfInBounds i true)) F H->GY C Hs S ops il K (fuel+1) listed F H:=by
 intro fuel
 induction fuel with
 |zero =>intro listed F H w N u y h;refine⟨λe=>(by rw[e]at y;cases y),λj A q hq=>?_⟩;by_cases l:j=i;subst l;rw[hp]at hq;cases hq;exact h;obtain⟨v,H',B⟩:=Kind.Yh (yB _ _) h;have:=ready_mono A l;rw[B.1]at this;cases this
 |succ fuel Z=>
  intro listed F H w N u y h;refine⟨λe=>(by rw[e]at y;cases y),λj A q hq=>?_⟩;by_cases l:j=i;subst l;rw[hp]at hq;cases hq;exact h;have x:=(mem_ready.1 y).1;have E:=(mem_ready.1 A).1;have D:listed.getD i false=false:=by
   rcases atY i listed.size with h'|h'
   simp[h']at x ⊢;exact x;simp[Array.getElem?_eq_none h']at x
  have R:¬CO ops i j:=λhb=>N.wn hb D A;have W:AF C Hs S p (AF C Hs S q (GY C Hs S ops il K fuel ((listed.setIfInBounds i true).setIfInBounds j true))) F H:=
   DJ (λV H' _ B=>B.2 j (ready_mono A l) q hq) w h
  have X:=Sb (u j q hq l E R) w W;refine DJ (λV H' L B=>?_) w X;refine Z (listed.setIfInBounds j true) V H' L (N.set A) (λk r Y O M U=>u k r Y O ?_ U) (ready_mono y (Ne.symm l)) ?_;by_cases J:j=k;subst J;exact E;rw[getD_set_ne true J]at M;exact M;rw[Array.setIfInBounds_comm _ _ l];exact B
def zQ(o:Oper):N_:=(o.after.toList.filter λe=>Region.binds .any e).map (·.on)
def Dv(ms:N_)(ds:N_):Nat:=ds.foldl (λs d=>s ||| (2^d ||| ms.getD d 0)) 0
def ES:List Oper->N_->N_
 |[],e=>e
 |o::os,e=>ES os (e++[Dv e (zQ o)])
def lZ(ms:N_):Nat->List Oper->Bool
 |_,[]=>true
 |k,o::os=>(zQ o).all (·<k)&&ms.getD k 0==Dv ms (zQ o)&&lZ ms (k+1) os
def JK(ms:N_)(i:Nat)(p:bU × Bool):Nat->List (bU × Bool)->Bool
 |_,[]=>true
 |j,q::e=>((ms.getD j 0).testBit i||lz p q)&&JK ms i p (j+1) e
def GK(ms:N_):Nat->List (bU × Bool)->Bool
 |_,[]=>true
 |i,p::ps=>JK ms i p (i+1) ps&&GK ms (i+1) ps
def Qq(ops:Array Oper)(il:List (bU × Bool)):Bool:=
 let ms:=ES ops.toList []
 lZ ms 0 ops.toList&&GK ms 0 il
theorem Dw{ms:N_}{i:Nat}:∀{ds:N_}{s:Nat},(ds.foldl (λs d=>s ||| (2^d ||| ms.getD d 0)) s).testBit i=true->s.testBit i=true\/∃d∈ds,d=i\/(ms.getD d 0).testBit i=true
 |[],s,h=>.inl h
 |d::ds,s,h=>by
  rw[List.foldl_cons]at h;rcases Dw h with h|⟨e,he,h⟩
  rw[Nat.testBit_or,Nat.testBit_or,Nat.testBit_two_pow]at h;simp only[awY,decide_eq_true_eq]at h;rcases h with h|h|h
  exact .inl h;exact .inr ⟨d,by simp,.inl h⟩;exact .inr ⟨d,by simp,.inr h⟩;exact .inr ⟨e,by simp[he],h⟩
theorem zZ{ms:N_}:∀{l:List Oper}{k j:Nat}{o:Oper},lZ ms k l=true->l[j]?=some o->(∀d∈zQ o,d<k+j)/\ms.getD (k+j) 0=Dv ms (zQ o)
 |[],_,_,_,_,h=>by simp at h
 |o::os,k,j,o',h,e=>by
  simp only[lZ,asV,atI,decide_eq_true_eq,beq_iff_eq]at h;cases j with
  |zero=>simp only[List.getElem?_cons_zero,auY.injEq]at e;subst e;exact⟨h.1.1,h.1.2⟩
  |succ j =>have:=zZ h.2 (by simpa using e);rw[avZ,Nat.add_comm 1 j]at this;exact this
theorem av{ms:N_}{ops:Array Oper}(h:lZ ms 0 ops.toList=true)(i:Nat):∀(n j:Nat),j<n->j<ops.size->(ms.getD j 0).testBit i=true->CO ops i j:=by
 intro n
 induction n with
 |zero=>intro j A;omega
 |succ n D=>
  intro j A hlt hb;have B:ops.toList[j]?=some ops[j]:=by simp[hlt]
  have u:ops[j]?=some ops[j]:=by simp[hlt]
  obtain⟨w,x⟩:=zZ h B;rw[atA]at w x;rw[x]at hb;rcases Dw hb with hb|⟨d,hd,hb⟩
  simp at hb;have y:=w d hd;simp only[zQ,atM,awT]at hd;obtain⟨e,⟨he,l⟩,rfl⟩:=hd;rcases hb with rfl|hb
  exact .one u (by simpa using he) l rfl;exact .step (D e.on Om Om hb) u (by simpa using he) l rfl
theorem VP{ms:N_}{i:Nat}{p:bU × Bool}:∀{l:List (bU × Bool)}{k j:Nat}{q:bU × Bool},JK ms i p k l=true->l[j]?=some q->(ms.getD (k+j) 0).testBit i=true\/lz p q=true
 |[],_,_,_,_,h=>by simp at h
 |x::xs,k,j,q,h,hq=>by
  simp only[JK,asV,awY]at h;cases j with
  |zero=>simp only[List.getElem?_cons_zero,auY.injEq]at hq;subst hq;exact h.1
  |succ j =>have:=VP h.2 (by simpa using hq);rw[avZ,Nat.add_comm 1 j]at this;exact this
theorem NM{ops:Array Oper}{il:List (bU × Bool)}{K:K_}{ms:N_}(O:Z' il=ops.size)(J:lZ ms 0 ops.toList=true) :
  ∀(l:List (bU × Bool)) (k:Nat) (listed:Array Bool) (F:PF) (H:PH),(∀j,l[j]?=il[k+j]?)->k+Z' l=ops.size->listed.size=ops.size->(∀j,j<ops.size->(listed.getD j true=true↔j<k))->GK ms k l=true->Hs.le H ->
   wpD C Hs S l K F H->GY C Hs S ops il K l.length listed F H
 |[],k,listed,F,H,W,V,U,i,_,E,h=>by
  refine⟨?_,h⟩;cases hr:Region.ready .any ops listed with
  |nil=>rfl
  |cons x xs=>
   have hx:x∈Region.ready .any ops listed:=by rw[hr];simp
   obtain⟨h0,o,X,-⟩:=mem_ready.1 hx;have hlt:x<ops.size:=(awB.1 X).1;have:=(i x hlt).2 (by simp at V;omega);rw[h0]at this;cases this
 |p::l,k,listed,F,H,W,V,U,i,hB,E,h=>by
  have hp:il[k]?=some p:=by simpa using(W 0).symm
  have M:k<ops.size:=by simp at V;omega
  simp only[GK,asV]at hB;have X:ops[k]?=some ops[k]:=by simp[M]
  have B:∀j,j<ops.size->(listed.getD j false=listed.getD j true):=λj A=>by simp[show j<listed.size by omega]
  have δ:∀j,j<ops.size->∀e∈ops[j]!.after,True:=λ_ _ _ _=>trivial;have y:∀j o,ops[j]?=some o->∀e∈o.after,Region.binds .any e=true->e.on<j:=by
   intro j o A e he hb;have hlt:j<ops.size:=(awB.1 A).1;have:=(zZ J (j:=j) (o:=o) (by simpa using A)).1 e.on (by simp only[zQ,atM,awT];exact⟨e,⟨by simpa using he,hb⟩,rfl⟩)
   omega
  have w:k∈Region.ready .any ops listed:=by
   rw[mem_ready];refine⟨?_,_,X,λe he hb=>?_⟩
   ·cases Y:listed.getD k true with
    |false=>rfl
    |true=>have:=(i k M).1 Y;omega
   have hd:=y k _ X e he hb;rw[B e.on Om];exact(i e.on Om).2 hd
  have u:uP ops listed:=by intro j o A R e he hb;have hlt:j<ops.size:=(awB.1 A).1;have hd:=y j o A e he hb;rw[B j hlt]at R;have:=(i j hlt).1 R;rw[B e.on Om];exact(i e.on Om).2 Om
  refine K8 hp l.length listed F H E u (λj q hq α γ Z=>?_) w ?_;have L:j<ops.size:=by have:=(atX.1 hq).1;omega
  have D:k<j:=by
   rcases Nat.lt_trichotomy j k with h'|h'|h'
   have:=(i j L).2 h';rw[γ]at this;cases this;exact(α h').elim;exact h'
  have β:l[j-(k+1)]?=some q:=by have:=W (j-k);rw[show k+(j-k)=j by omega,hq,show j-k=(j-(k+1))+1 by omega]at this;simpa using this
  rcases VP hB.1 β with hb|hb
  rw[show k+1+(j-(k+1))=j by omega]at hb;exact(Z (av J k (j+1) j Om L hb)).elim;exact hb;have h':AF C Hs S p (wpD C Hs S l K) F H:=h;refine DJ (λF' H' N Y=>?_) E h';refine NM O J l (k+1) _ F' H' (λj=>?_) (by simp at V;omega) (by simpa using U) (λj A=>?_) hB.2 N Y;have:=W (j+1);rw[show k+(j+1)=k+1+j by omega]at this;simpa using this;by_cases D:k=j;subst D;simp[show k<listed.size by omega];rw[getD_set_ne true D,i j A];omega
end
open Go Go.RowKit
def Ct(ms cls:N_)(i:Nat):Bool:=
 cls.getD i 0 != 0||(asP cls.length).any λj=>(cls.getD j 0==2||cls.getD j 0==3||cls.getD j 0==4)&&!(ms.getD j 0).testBit i&&!(ms.getD i 0).testBit j
def DP(ops:Array Oper)(e:List bU):List (bU × Bool):=
 let ms:=ES ops.toList []
 let cls:=e.map λi=>i.op.cls
 e.zip ((asP e.length).map (Ct ms cls))
namespace Tbl
variable (T:Tbl)
def drawn(n:Nat)(ops:Array Oper):Option (List (bU × Bool)):=
 match T.xE n ops ops.toList with
 |some e=>if T.P.follows .mixedOrders&&Qq ops (DP ops e)then some (DP ops e)else none
 |none=>none
end Tbl
section
variable {ro:O_} {fu:Nat} {ds:List Deferred} {C:Ctx} {Hs:PH} {S:Spec} {T:Tbl} {n:Nat}
section
variable {E:Env} {F:PF} {H:PH} {a:Act} {w:World}
theorem qJ.after{e:Env}{H':PH}{i:World}{K:K_}{next:Act->World->Prop}(h:qJ ds n E H w K next)(y:Ext E H w e H' i):qJ ds n e H' i K next:=
 λl u H2 a2 D x hW B A=>h l u H2 a2 D x hW (y.trans B) A
theorem TQ{t:Nat}{b:Bool}(i:eX ds n E F a)(h:F t=some (.bool b)):a.tmps[t]?=some (.bool b):=by
 have r:=i.t t _ h;rw[axD]at r;cases e:a.tmps[t]? with
 |none=>rw[e]at r;simp[undef]at r;cases r
 |some v=>rw[e]at r;simp at r;cases r;rfl
theorem OX{ops:Array Oper}{o:Oper}{i:bU}(h:T.YL n ops o=some i):(T.op o=some i.op\/i.op=.stuck)/\o.dst=i.dst/\o.dst.all (·<n)=true /\
  ((o.guard=none/\i.guard=none)\/∃j e t,o.guard=some (j,e)/\i.guard=some (t,e)/\(ops[j]?).bind (·.dst)=some t):=by
 unfold Tbl.YL at h;have hp:T.op o=some ((T.op o).getD .stuck)\/(T.op o).getD .stuck=.stuck:=by cases T.op o;exact .inr rfl;exact .inl rfl
 generalize(T.op o).getD .stuck=p at *
 split at h;rename_i u;split at h;rename_i l;cases h;exact⟨hp,rfl,u,.inl ⟨l,rfl⟩⟩;rename_i j e l;split at h;rename_i t x;cases h;exact⟨hp,rfl,u,.inr ⟨j,e,t,l,rfl,x⟩⟩;cases h;cases h
theorem LW{ops:Array Oper}{o:Oper}{j t:Nat}{e b:Bool}(i:o.guard=some (j,e))(l:(ops[j]?).bind (·.dst)=some t)(hb:a.tmps[t]?=some (.bool b)):Region.wanted o (yielded ops a.tmps)=(b==e):=by
 simp[Region.wanted,i,yielded,l,hb]
end
theorem BR{E:Env}:bG E (.tup []) undef:=.tup #[] rfl aZ
theorem WM{n:Nat}{E:Env}{F:PF}{a:Act}{t:Nat}(e:eX ds n E F a)(h:F t=some (.tup [])):a.tmps.getD t undef=undef:=by
 have:=e.t t _ h;generalize a.tmps.getD t undef=v at this;cases this with
 |tup vs i l=>
  have:vs=#[]:=by simpa using i
  subst this;rfl
theorem IL{ops:Array Oper}{a:Act}{o:Oper}{j t:Nat}{e:Bool}(i:o.guard=some (j,e))(l:(ops[j]?).bind (·.dst)=some t)(hb:a.tmps.getD t undef=undef):Region.wanted o (yielded ops a.tmps)=false:=by
 simp only[Region.wanted,i,yielded,l];rw[axD]at hb;cases h:a.tmps[t]? with
 |none=>simp[h]
 |some v =>rw[h]at hb;simp only[auV]at hb;subst hb;simp[h,undef]
theorem yX{E:Env}{F:PF}{H:PH}{a:Act}{w:World}(i:C.P=T.P)(e:C.num=T.num){o:Oper}{p:POp}{d:O_}{K:K_}{Q:Exit->Act->World->Prop}{next:Act->World->Prop}(l:T.op o=some p\/p=.stuck)(y:o.dst=d)(hlt:o.dst.all (·<n)=true)
  (h:wpOp C p d K F H) (u:eX ds n E F a) (hW:bZ E H w) (x:E.num=T.num) (arY:qJ ds n E H w K next):o.wpIn (Fz ro) fu T.P a w next Q:=by
 rcases l with l|rfl
 ·exact Xq i e l y hlt h u hW x arY
 ·obtain⟨v,A,-⟩:=h;cases A
theorem YT(H:PH)(D:N_):(H.only D).le H:=by
 intro o x e;rw[yW]at e;split at e;exact e;cases e
theorem QX{op:POp}{F:PF}{H:PH}{st:Bool}{d:O_}{K:K_}(A:Hs.le H)(h:(op.kind F).run C Hs S st (λv H'=>K (F.put d v) H') H):wpOp C op d K F H:=by
 have y:(if op.iW then Kind.new (cQ op F)else if op.eY then .write (λH K=>cK op F H K)else .calm (aX op F)).run C Hs S st (λv H'=>K (F.put d v) H') H ->
   (if op.iW then oU (cQ op F) d K F H else if op.eY then cK op F H (λr H'=>K (F.put d r) H')else xH (aX op F H) d K F H):=by
  intro h;by_cases i:op.iW=true
  ·rw[aF i]at h ⊢;exact h
  ·rw[aC i]at h ⊢;by_cases u:op.eY=true
   ·rw[aF u]at h ⊢;have U:cK op F H λr H'=>Hs.le H'/\K (F.put d r) H':=h;exact IT (λv H' Y=>Y.2) U
   ·rw[aC u]at h ⊢;obtain⟨v,J,X⟩:=h;refine⟨v,?_,X⟩;cases st
    ·exact J
    ·exact oe A J
 have e:∀name l,(Kind.call name l).run C Hs S st (λv H'=>K (F.put d v) H') H->vO C name l d K F H:=by intro name l h;obtain⟨vs,D,R,i,u,B,V,h5,W⟩:=h;exact⟨vs,H.only D,R (H.only D),i,YT H D,V,λr H' a b=>(W r H' a b).2⟩
 cases op
 case call name az=>exact .inl (by simpa using e _ _ h)
 case asE x az=>
  simp only[POp.kind]at h;split at h
  ·rename_i name cs Z;show wS C (x.ev F) az d K F H;rw[Z];exact .inl (e _ _ h)
  ·exact h.elim
 case insert sh x k v=>
  obtain⟨o,β,α,vv,g,i,u,B,-,h5⟩:=h;show cK (.insert sh x k v) F H (λr H'=>K (F.put d r) H');split at i
  ·rename_i o' kv γ M e2 N;simp only[atB,Prod.mk.injEq]at i;obtain⟨L,O,rfl,rfl,rfl,rfl⟩:=i;simp only[cK,M,e2,N,u,O];exact⟨trivial,B,h5⟩
  ·cases i
 all_goals exact y h
theorem uv(W:C.P=T.P)(V:C.num=T.num){ops:Array Oper}{N:List bU}{R:List Bool}(ε:Z' R=Z' N)(δ:∀(i:Nat) o,ops[i]?=some o->∃p,N[i]?=some p/\T.YL n ops o=some p)
  {K:K_} {Q:Exit->Act->World->Prop} :
  ∀(fuel:Nat)(listed:Array Bool)(E:Env)(F:PF)(H:PH)(a:Act)(w:World),GY C Hs S ops (N.zip R) K fuel listed F H->Hs.le H->eX ds n E F a->bZ E H w->E.num=T.num->qJ ds n E H w K (Q .normal) ->
   wpAnyIn (Fz ro) fu T.P .any ops Q fuel listed a w:=by
 intro fuel
 induction fuel with
 |zero=>intro listed E F H a w h J u hW Z hT;exact⟨h.1,hT E F H a w u hW (.refl E H w) h.2⟩
 |succ fuel ih=>
  intro listed E F H a w h J u hW Z hT;refine⟨λe=>hT E F H a w u hW (.refl E H w) (h.1 e),λi hi=>?_⟩;obtain⟨-,o,ho,-⟩:=mem_ready.1 hi;obtain⟨p,hp,γ⟩:=δ i o ho;have hlt:i<Z' N:=(atX.1 hp).1;have hz:(N.zip R)[i]?=some (p,R[i]'Om):=by rw[List.getElem?_zip_eq_some];exact⟨hp,by simp⟩
  have X:=h.2 i hi _ hz;obtain⟨Y,hd,B,hg⟩:=OX γ;have A:qJ ds n E H w (λO H'=>Hs.le H'/\GY C Hs S ops (N.zip R) K fuel (listed.setIfInBounds i true) O H') (wpAnyIn (Fz ro) fu T.P .any ops Q fuel (listed.setIfInBounds i true)):=
   λE' O H' a' w' α β hE U=>ih _ E' O H' a' w' U.2 U.1 α β (hE.env.num.trans Z) (hT.after hE)
  have l:=DJ (K':=λO H'=>Hs.le H'/\GY C Hs S ops (N.zip R) K fuel (listed.setIfInBounds i true) O H') (λO H' x y=>⟨x,y⟩) J X;unfold AF bU.kind at l;unfold Go.wpOpIn;simp only[ho];rcases hg with⟨D,M⟩|⟨j,want,t,D,M,ht⟩
  rw[aF (by simp[Region.wanted,D])];simp only[M]at l;exact(yX W V Y hd B (QX J l) u hW Z A);simp only[M]at l;split at l;rename_i b hb;rw[LW D ht (TQ u hb)];split at l;rename_i L;rw[aF (by simp[L])];exact(yX W V Y hd B (QX J l) u hW Z A);rename_i L;rw[aC (by simpa using L)];obtain⟨v,hv,U⟩:=l;cases hv;exact⟨λ_ _=>trivial,A E _ H _ w (by rw[<-hd];exact u.put B BR) hW (.refl E H w) U⟩;rename_i hb;rw[IL D ht (WM u hb),aC aZ];obtain⟨v,hv,U⟩:=l;cases hv;exact⟨λ_ _=>trivial,A E _ H _ w (by rw[<-hd];exact u.put B BR) hW (.refl E H w) U⟩;exact l.elim
theorem US{ops:Array Oper}:∀{l:List Oper}{u:List bU},T.xE n ops l=some u->Z' u=Z' l/\∀(i:Nat) o,l[i]?=some o->∃p,u[i]?=some p/\T.YL n ops o=some p
 |[],u,h=>by simp[Tbl.xE]at h;subst h;exact⟨rfl,λi o h=>by simp at h⟩
 |o::l,u,h=>by
  simp only[Tbl.xE]at h;split at h
  ·rename_i p ps hp x;cases h;obtain⟨y,A⟩:=US x;refine⟨by simp[y],λi o' e=>?_⟩;cases i with
   |zero=>simp at e;subst e;exact⟨p,rfl,hp⟩
   |succ i=>obtain⟨q,a,b⟩:=A i o' (by simpa using e);exact⟨q,by simpa using a,b⟩
  cases h
theorem Lw(D:C.P=T.P)(B:C.num=T.num){id:Nat}{ops:Array Oper}{il:List (bU × Bool)}(e:T.drawn n ops=some il){K:K_}{Q:Exit->Act->World->Prop}{E:Env}{F:PF}{H:PH}{a:Act}{w:World}
  (h:∃Hs S,PH.le Hs H/\wpD C Hs S il K F H) (X:eX ds n E F a) (hW:bZ E H w) (Y:E.num=T.num) (Z:qJ ds n E H w K (Q .normal)):(Code.region id ops true).wpIn (Fz ro) fu T.P Q a w:=by
 obtain⟨Hs,S,y,h⟩:=h;unfold Tbl.drawn at e;split at e;rename_i O L;split at e;rename_i l;cases e;simp only[asV,Qq]at l;obtain⟨hm,M,N⟩:=l;obtain⟨A,J⟩:=US L;have u:Z' O=ops.size:=by simpa using A
 refine wpIn_region_any hm ?_;have x:(DP ops O).length=ops.size:=by simp[DP,u]
 have R:=NM (C:=C) (Hs:=Hs) (S:=S) (K:=K) x M (DP ops O) 0 (auW ops.size false) F H aZ (by simp[x]) aZ (λj hj=>by simp[hj]) N y h;rw[x]at R;exact uv D B aZ (λi o ho=>J i o (by simpa using ho)) ops.size _ E F H a _ R y X hW.drew Y (λU V H' W w' g1 g2 g3 g4=>Z U V H' W w' g1 g2 g3.tv g4);cases e;cases e
end
end Go.PM
namespace Go.PM
open Go Go.RowKit
def POp.ahA:POp->Bool
 | .load .. | .lookup .. | .arQ ..=>true
 |_=>false
def POp.acL:POp->Bool
 | .store ..=>true
 |_=>false
def qc(ms:N_)(m n:Nat):Bool:=(asP n).all λj=>decide (j<m)||(asP m).all λi=>(ms.getD j 0).testBit i
def cutAt(ms:N_)(e:List bU):O_:=
 let cls:=e.map λi=>i.op.cls
 (asP e.length).find? λm=>(match e[m]? with|some i=>i.op.acL&&i.guard.isNone|none=>false)&&qc ms m e.length&&(asP m).any λi=>match e[i]? with|some x=>x.op.ahA&&Ct ms cls i|none=>false
def pM(ms:N_)(k:Nat)(e:List bU):List (bU × Bool):=
 let cls:=e.map λi=>i.op.cls
 e.zip ((asP e.length).map (Ct (ms.drop k |>.map (· >>> k)) cls))
namespace Tbl
variable (T:Tbl)
def Ch(n:Nat)(ops:Array Oper):Option aJ:=
 match T.xE n ops ops.toList with
 |some e=>
  let ms:=ES ops.toList []
  match cutAt ms e with
  |none=>(T.drawn n ops).map .draw
  |some m=>
   let A:=pM ms 0 (e.take m)
   let B:=pM ms m (e.drop m)
   if T.P.follows .mixedOrders&&lZ ms 0 ops.toList&&qc ms m e.length&&GK ms 0 A&&GK ms m B then some (.seq (.draw A) (.draw B))else none
 |none=>none
def code(n:Nat):Code->Option aJ
 | .skip=>some .skip
 | .region _ ops d=>if d then T.Ch n ops else(T.xE n ops ops.toList).map .region
 | .seq a b=>match code n a,code n b with
  |some a,some b=>some (.seq a b)
  |_,_=>none
 | .cond c a b=>match T.opd c,code n a,code n b with
  |some c,some a,some b=>some (.cond c a b)
  |_,_,_=>none
 | .block id c=>(code n c).map (.block id)
 | .loop c=>(code n c).map .loop
 | .exit id=>some (.exit id)
 | .ret=>some .ret
 | .scope c=>code n c
 | .label _=>some .skip
 |_=>none
end Tbl
theorem VB{ms:N_}:∀{l:List Oper}{k m:Nat},lZ ms k l=true->lZ ms k (l.take m)=true
 |[],_,_,_=>by simp[lZ]
 |o::l,k,0,_=>by simp[lZ]
 |o::l,k,m+1,h=>by simp only[lZ,asV,List.take_succ_cons]at h ⊢;exact⟨h.1,VB h.2⟩
theorem CE{listed:Array Bool}{m f i:Nat}{d:Bool}(e:listed.size=m)(h:i<m):(listed++auW f false).getD i d=listed.getD i d:=by
 simp only[axD];rw[Array.getElem?_append_left Om]
section
variable {ro:O_} {fu:Nat} {ds:List Deferred} {C:Ctx} {Hs:PH} {S:Spec} {T:Tbl} {n:Nat}
theorem adN{ops:Array Oper}{m i:Nat}(e:m<=ops.size):(ops.extract 0 m)[i]?=if i<m then ops[i]? else none:=by
 rw[Array.getElem?_extract];split;rename_i h;rw[aF Om];simp;rename_i h;rw[aC Om]
theorem Nv{ops:Array Oper}{ms:N_}{m:Nat}(M:m<=ops.size)(A:lZ ms 0 ops.toList=true)(N:qc ms m ops.size=true){listed:Array Bool}{f:Nat}(E:listed.size=m)(R:m+f=ops.size)(L:uP ops (listed++auW f false))
  (F:∃i,i<m/\listed.getD i true=false) {i:Nat} (hi:i∈Region.ready .any ops (listed++auW f false)):i<m/\i∈Region.ready .any (ops.extract 0 m) listed:=by
 obtain⟨J,o,D,w⟩:=mem_ready.1 hi;have y:i<ops.size:=(awB.1 D).1;have l:i<m:=by
  rcases atY i m with h|h
  exact h;exfalso;obtain⟨u,K,B⟩:=F;have hb:(ms.getD i 0).testBit u=true:=by have:=atI.1 N i (atQ.2 y);rw[bD Om,Bool.false_or]at this;exact atI.1 this u (atQ.2 K)
  have x:=av A u (i+1) i Om y hb;refine L.wn x ?_ hi;rw[CE E K];have:u<listed.size:=Om;simp[this]at B ⊢;exact B
 refine⟨l,mem_ready.2 ⟨?_,o,by rw[adN M,aF l];exact D,λe he hb=>?_⟩⟩;rw[CE E l]at J;exact J;have O:=(zZ A (j:=i) (o:=o) (by simpa using D)).1 e.on (by simp only[zQ,atM,awT];exact⟨e,⟨by simpa using he,hb⟩,rfl⟩)
 have:=w e he hb;rw[CE E Om]at this;exact this
theorem Hw{ops:Array Oper}{ms:N_}(x:lZ ms 0 ops.toList=true){listed:Array Bool}(J:listed.size=ops.size):∀(u:Nat),u<ops.size->listed.getD u true=false->∃i,i∈Region.ready .any ops listed:=by
 intro u
 induction u using Nat.strongRecOn with
 |ind u E=>
  intro A B;by_cases h:∃w,w<u/\listed.getD w true=false;obtain⟨w,D,y⟩:=h;exact E w D Om y
  ·refine⟨u,mem_ready.2 ⟨B,ops[u],by simp[A],λe he hb=>?_⟩⟩;have F:=(zZ x (j:=u) (o:=ops[u]) (by simp[A])).1 e.on (by simp only[zQ,atM,awT];exact⟨e,⟨by simpa using he,hb⟩,rfl⟩)
   have hlt:e.on<u:=Om;cases l:listed.getD e.on true with
   |false=>exact(h ⟨e.on,hlt,l⟩).elim
   |true =>have:e.on<listed.size:=Om;simp[this]at l ⊢;exact l
def unl(listed:Array Bool):Nat:=listed.toList.countP λb=>!b
theorem Zd{listed:Array Bool}{m:Nat}(l:listed.size=m)(h:unl listed=0):listed=auW m true:=by
 apply Array.ext;simp[l];intro i u w;have:listed[i]∈listed.toList:=by simp
 have e:=List.countP_eq_zero.1 h _ this;simpa using e
theorem aeX{listed:Array Bool}{i:Nat}(h:listed.getD i true=false):unl (listed.setIfInBounds i true)+1=unl listed:=by
 have hi:i<listed.size:=by
  rcases atY i listed.size with h'|h'
  ·exact h'
  ·simp[Array.getElem?_eq_none h']at h
 have u:listed[i]=false:=by simpa[hi]using h
 unfold unl;rw[Array.toList_setIfInBounds];have e:i<Z' listed.toList:=by simpa using hi
 have l:listed.toList[i]=false:=by simpa using u
 conv=>rhs;rw[<-awK i listed.toList,avF e,l]
 rw[List.set_eq_take_append_cons_drop,aF e,List.countP_append,List.countP_append,List.countP_cons,List.countP_cons];simp only[asY,atH,if_true,auQ,if_false];omega
theorem aeW{listed:Array Bool}{k:Nat}(h:unl listed=k+1):∃u,u<listed.size/\listed.getD u true=false:=by
 have i:0<listed.toList.countP λb=>!b:=by unfold unl at h;omega
 obtain⟨b,hb,l⟩:=List.countP_pos_iff.1 i;obtain⟨u,w,rfl⟩:=auG hb;have e:u<listed.size:=by simpa using w
 exact⟨u,e,by simpa[e]using l⟩
theorem Ho(W:C.P=T.P)(V:C.num=T.num){ops:Array Oper}{ms:N_}{m f:Nat}{A:List (bU × Bool)}(hm:m<=ops.size)(hf:m+f=ops.size)(Z:lZ ms 0 ops.toList=true)(ht:qc ms m ops.size=true)
  (θ:∀(i:Nat) o,i<m->ops[i]?=some o->∃p b,A[i]?=some (p,b)/\T.YL n ops o=some p) {KA:K_} {Q:Exit->Act->World->Prop} :
  ∀(fuel:Nat)(listed:Array Bool)(E:Env)(F:PF)(H:PH)(a:Act)(w:World),GY C Hs S (ops.extract 0 m) A KA fuel listed F H->listed.size=m->uP ops (listed++auW f false)->unl listed=fuel->Hs.le H->eX ds n E F a->bZ E H w->E.num=T.num ->
   qJ ds n E H w KA (wpAnyIn (Fz ro) fu T.P .any ops Q f (auW m true++auW f false))->wpAnyIn (Fz ro) fu T.P .any ops Q (fuel+f) (listed++auW f false) a w:=by
 intro fuel
 induction fuel with
 |zero =>intro listed E F H a w h hs hc hu K L hW hN hT;rw[Zd hs hu,atA];exact hT E F H a w L hW (.refl E H w) h.2
 |succ fuel ih=>
  intro listed E F H a w h hs hc hu K L hW hN hT;obtain⟨u,μ,hu2⟩:=aeW hu;have κ:∃i,i<m/\listed.getD i true=false:=⟨u,by omega,hu2⟩;rw[show fuel+1+f=(fuel+f)+1 by omega];refine⟨λe=>?_,λi hi=>?_⟩;obtain⟨i,hi⟩:=Hw Z (listed:=listed++auW f false) (by simp;omega) u Om (by rw[CE hs Om];exact hu2);rw[e]at hi;cases hi;obtain⟨ζ,Y⟩:=Nv hm Z ht hs hf hc κ hi;obtain⟨-,o,ho,-⟩:=mem_ready.1 hi;have ι:=(mem_ready.1 Y).1;obtain⟨p,b,hz,η⟩:=θ i o ζ ho;have α:=h.2 i Y _ hz;obtain⟨β,hd,D,hg⟩:=OX η;have γ:(listed++auW f false).setIfInBounds i true=listed.setIfInBounds i true++auW f false:=by
   apply Array.ext;simp;intro j h1 h2;rw[Array.getElem_setIfInBounds (by simpa using h1)];by_cases O:i=j;subst O;rw[aF rfl,Array.getElem_append_left (by simp;omega),Array.getElem_setIfInBounds Om,aF rfl];rw[aC O];rcases atY j listed.size with hj|hj
   rw[Array.getElem_append_left hj,Array.getElem_append_left (by simpa using hj),Array.getElem_setIfInBounds Om,aC O];rw[Array.getElem_append_right hj,Array.getElem_append_right (by simpa using hj)];simp
  have X:=hc.set hi;rw[γ]at X ⊢;have ν:=aeX ι;have B:qJ ds n E H w (λR H'=>Hs.le H'/\GY C Hs S (ops.extract 0 m) A KA fuel (listed.setIfInBounds i true) R H') (wpAnyIn (Fz ro) fu T.P .any ops Q (fuel+f) (listed.setIfInBounds i true++auW f false)):=
   λE' R H' a' w' δ ε hE U=>ih _ E' R H' a' w' U.2 (by simpa using hs) X Om U.1 δ ε (hE.env.num.trans hN) (hT.after hE)
  have l:=DJ (K':=λR H'=>Hs.le H'/\GY C Hs S (ops.extract 0 m) A KA fuel (listed.setIfInBounds i true) R H') (λR H' x y=>⟨x,y⟩) K α;unfold AF bU.kind at l;unfold Go.wpOpIn;simp only[ho];rcases hg with⟨J,N⟩|⟨j,want,t,J,N,ht⟩
  rw[aF (by simp[Region.wanted,J])];simp only[N]at l;exact(yX W V β hd D (QX K l) L hW hN B);simp only[N]at l;split at l;rename_i b hb;rw[LW J ht (TQ L hb)];split at l;rename_i M;rw[aF (by simp[M])];exact(yX W V β hd D (QX K l) L hW hN B);rename_i M;rw[aC (by simpa using M)];obtain⟨v,hv,U⟩:=l;cases hv;exact⟨λ_ _=>trivial,B E _ H _ w (by rw[<-hd];exact L.put D BR) hW (.refl E H w) U⟩;rename_i hb;rw[IL J ht (WM L hb),aC aZ];obtain⟨v,hv,U⟩:=l;cases hv;exact⟨λ_ _=>trivial,B E _ H _ w (by rw[<-hd];exact L.put D BR) hW (.refl E H w) U⟩;exact l.elim
theorem G3(J:C.P=T.P)(D:C.num=T.num){id:Nat}{ops:Array Oper}{pc:aJ}(l:T.Ch n ops=some pc){K:bP}{Q:Exit->Act->World->Prop}{E:Env}{F:PF}{H:PH}{a:Act}{w:World}
  (h:pc.wp C K F H) (hA:eX ds n E F a) (hW:bZ E H w) (hN:E.num=T.num) (hT:qJ ds n E H w (K .normal) (Q .normal)):(Code.region id ops true).wpIn (Fz ro) fu T.P Q a w:=by
 unfold Tbl.Ch at l;split at l;rename_i y κ;simp only at l;split at l;rw[atB]at l;obtain⟨il,θ,rfl⟩:=l;exact Lw J D θ h hA hW hN hT;rename_i m W;split at l;rename_i u;cases l;simp only[asV]at u;obtain⟨⟨⟨⟨ν,M⟩,β⟩,ξ⟩,ο⟩:=u;obtain⟨Z,V⟩:=US κ;have L:Z' y=ops.size:=by simpa using Z
 rw[L]at β;obtain⟨Hs,S,Y,h⟩:=h;have σ:m<ops.size:=by have:=List.mem_of_find?_eq_some W;rw[atQ]at this;omega
 have lA:(pM (ES ops.toList []) 0 (y.take m)).length=m:=by simp[pM];omega
 have lB:(pM (ES ops.toList []) m (y.drop m)).length=ops.size-m:=by simp[pM];omega
 generalize R:pM (ES ops.toList []) 0 (y.take m)=A at *
 generalize ε:pM (ES ops.toList []) m (y.drop m)=B at *
 generalize φ:ES ops.toList []=ms at *
 refine wpIn_region_any ν ?_;have N:(ops.extract 0 m).size=m:=by simp;omega
 have α:lZ ms 0 (ops.extract 0 m).toList=true:=by rw[show(ops.extract 0 m).toList=ops.toList.take m by simp];exact VB M
 have h1:=NM (C:=C) (Hs:=Hs) (S:=S) (K:=gL C ((aJ.draw B).wp C) K .normal) (ops:=ops.extract 0 m) (il:=A) (ms:=ms) (by rw[lA,N]) α A 0 (auW m false) F H aZ (by rw[N];omega) (by simp;omega) (λj hj=>by rw[N]at hj;simp[hj]) ξ Y h;rw[lA]at h1;have O:=Ho (ro:=ro) (fu:=fu) (n:=n) J D (f:=ops.size-m) Om Om M β (λi o τ ho=>?_) (Q:=Q) m (auW m false) E F H a _ h1 aZ ?_ ?_ Y hA hW.drew hN ?_;rw[show m+(ops.size-m)=ops.size by omega]at O;have e:auW m false++auW (ops.size-m) false=auW ops.size false:=by rw[Array.replicate_append_replicate,show m+(ops.size-m)=ops.size by omega]
 rw[e]at O;exact O;obtain⟨p,hp,ι⟩:=V i o (by simpa using ho);have χ:=(atX.1 hp).1;have η:i<Z' A:=Om;refine⟨p,A[i].2,?_,ι⟩;rw[asZ η];congr 1;refine Prod.ext ?_ rfl;subst R;have ρ:y[i]=p:=(atX.1 hp).2;simp[pM,ρ];intro j o hj hl;exfalso;have μ:j<ops.size:=(awB.1 hj).1;have e:auW m false++auW (ops.size-m) false=auW ops.size false:=by rw[Array.replicate_append_replicate,show m+(ops.size-m)=ops.size by omega]
 rw[e]at hl;simp[μ]at hl;unfold unl;simp[List.countP_replicate];intro E' F' H' a' w' δ ζ hE hK;obtain⟨γ,S2,x,h2⟩:=hK;have hz:(A++B).length=ops.size:=by rw[asX];omega
 have h3:=NM (C:=C) (Hs:=γ) (S:=S2) (K:=K .normal) (ops:=ops) (il:=A++B) (ms:=ms) hz M B m (auW m true++auW (ops.size-m) false) F' H' (λj=>by rw[auS Om];congr 1;omega) Om (by simp;omega) (λj hj=>by simp only[axD,Array.getElem?_append,Array.size_replicate,Array.getElem?_replicate];by_cases hjm:j<m;simp[hjm];simp[hjm,show j-m<ops.size-m by omega]) ο x h2;rw[lB]at h3;have U:A++B=y.zip ((A++B).map (·.2)):=by
  refine List.ext_getElem? λj=>?_;rcases atY j ops.size with hj|hj
  have X:j<(A++B).length:=Om;have υ:j<Z' y:=Om;rw[asZ X,asZ (by simp;omega),List.getElem_zip,auN];congr 1;refine Prod.ext ?_ rfl;simp only;rcases atY j m with hjm|hjm
  rw[List.getElem_append_left Om];subst R;simp[pM];rw[List.getElem_append_right Om];subst ε;have:m+(j-Z' A)=j:=Om;simp[pM,this];rw[auE Om,auE (by simp;omega)]
 rw[U]at h3;exact uv J D (by simp;omega) (λi o ho=>V i o (by simpa using ho)) (ops.size-m) _ E' F' H' a' w' h3 x δ ζ (hE.env.num.trans hN) (λE3 F3 H3 a3 w3 g1 g2 g3 g4=>hT E3 F3 H3 a3 w3 g1 g2 (hE.trans g3).tv g4);cases l;cases l
end
end Go.PM
namespace Go.PM
open Go Go.RowKit
def lI.out:lI->Exit
 | .normal=>.normal
 | .exit id=>.exit id
 | .ret=>.ret
theorem uF{P:Program}{b:Frame}{a:Act}{k:List Item}{cs:List Frame}{w:World}{c:Code}:step P (lone (b.atR a (.code (.scope c)::k)) cs w)=.next (lone (b.atR a (.code c::.inScope c::k)) cs w):=
 step_lone_go (by simp[stepG,stepG.exec,Frame.atR])
theorem za{P:Program}{b:Frame}{a:Act}{k:List Item}{cs:List Frame}{w:World}{c:Code}:step P (lone (b.atR a (.inScope c::k)) cs w)=.next (lone (b.atR a k) cs w):=
 step_lone_go (by simp[stepG,stepG.exec,Frame.atR])
theorem Pf{F:Fence}{n:Nat}{P:Program}{Q:Exit->Act->World->Prop}{a:Act}{w:World}{c:Code}(h:c.wpIn F n P (Exit.noGoto Q) a w):(Code.scope c).wpIn F n P Q a w:=by
 intro b k cs J hb B;have u:(lone (b.atR a (.code (.scope c)::k)) cs w).fenced P F:=fenced_calm hb B rfl;obtain⟨e,x,y,hq,i⟩:=h b (.inScope c::k) cs J hb B;cases e with
 |normal=>exact⟨.normal,x,y,hq,.head u uF (StepsIn.trans i (.one (fenced_calm hb B rfl) za))⟩
 |exit id=>
  have K:exitTo id (.inScope c::k)=exitTo id k:=by simp[exitTo]
  exact⟨.exit id,x,y,hq,λN A=>.head u uF (i.1 N (by rw[K];exact A)),
   λD A=>let⟨O,L,M⟩:=i.2 D (by rw[K];exact A);⟨O,L,.head u uF M⟩⟩
 |goto l=>exact hq.elim
 |ret=>exact⟨_,x,y,hq,.of_steps (.one u uF) i⟩
 |panic R=>exact⟨_,x,y,hq,.of_steps (.one u uF) i⟩
 |outgrown=>exact⟨_,x,y,hq,.of_steps (.one u uF) i⟩
variable{C:Ctx}
section
variable {ro:O_} {fu:Nat} {ds:List Deferred} {T:Tbl} {n:Nat} {E:Env} {F:PF} {H:PH} {a:Act} {w:World}
theorem wt(J:C.P=T.P)(D:C.num=T.num){ops:Array Oper}{K:K_}{Q:Exit->Act->World->Prop}:∀(l:List Oper)(il:List bU)(E:Env)(F:PF)(H:PH)(a:Act)(w:World),
  T.xE n ops l=some il->wpOps C il K F H->eX ds n E F a->bZ E H w->E.num=T.num->qJ ds n E H w K (Q .normal)->wpListIn (Fz ro) fu T.P ops Q l a w
 |[],il,E,F,H,a,w,A,e,y,hW,_,hT=>by simp[Tbl.xE]at A;subst A;exact hT E F H a w y hW (.refl E H w) e
 |o::l,il,E,F,H,a,w,A,e,y,hW,U,hT=>by
  simp only[Tbl.xE]at A;split at A;rename_i i is hi β;cases A;obtain⟨W,Y,hlt,hg⟩:=OX hi;have arY:∀(x:Env)(R:PF)(H':PH)(S:Act)(O:World),x.num=T.num->eX ds n x R S->bZ x H' O->Ext E H w x H' O->wpOps C is K R H'->wpListIn (Fz ro) fu T.P ops Q l S O:=
   λx R H' S O α B L X Z=>wt J D l is x R H' S O β Z B L α (hT.after X)
  have V:qJ ds n E H w (wpOps C is K) (wpListIn (Fz ro) fu T.P ops Q l):=λx R H' S O B L X Z=>arY x R H' S O (X.env.num.trans U) B L X Z;unfold wpListIn;simp only[wpOps]at e;rcases hg with⟨u,N⟩|⟨j,want,t,u,N,ht⟩
  rw[N]at e;rw[aF (by simp[Region.wanted,u])];exact(yX J D W Y hlt e y hW U V);rw[N]at e;simp only at e;split at e;rename_i b hb;rw[LW u ht (TQ y hb)];split at e;rename_i M;rw[aF (by simp[M])];exact(yX J D W Y hlt e y hW U V);rename_i M;rw[aC (by simpa using M)];exact⟨λ_ _=>trivial,arY E _ H _ w U (by rw[<-Y];exact y.put hlt BR) hW (.refl E H w) e⟩;rename_i hb;rw[IL u ht (WM y hb),aC aZ];exact⟨λ_ _=>trivial,arY E _ H _ w U (by rw[<-Y];exact y.put hlt BR) hW (.refl E H w) e⟩;exact e.elim;cases A
def TL(ds:List Deferred)(n:Nat)(E:Env)(H:PH)(w:World)(K:bP)(Q:Exit->Act->World->Prop):Prop:=
 ∀e i u H' x l,eX ds n i u x->bZ i H' l->Ext E H w i H' l->K e u H'->Q e.out x l
theorem TL.after{i:Env}{H':PH}{l:World}{K:bP}{Q:Exit->Act->World->Prop}(h:TL ds n E H w K Q)(A:Ext E H w i H' l):TL ds n i H' l K Q:=
 λe u x H2 a2 J y hW D B=>h e u x H2 a2 J y hW (A.trans D) B
theorem wB(γ:C.P=T.P)(β:C.num=T.num):∀(c:Code)(pc:aJ)(K:bP)(Q:Exit->Act->World->Prop)(E:Env)(F:PF)(H:PH)(a:Act)(w:World),
  T.code n c=some pc->pc.wp C K F H->eX ds n E F a->bZ E H w->E.num=T.num->TL ds n E H w K Q->c.wpIn (Fz ro) fu T.P Q a w:=by
 intro c
 induction c with
 |skip =>intro pc K Q E F H a w i u A hW L l;simp[Tbl.code]at i;subst i;exact wpIn_skip (l .normal E F H a w A hW (.refl E H w) u)
 |region id ops d=>
  intro pc K Q E F H a w i u A hW L l;simp only[Tbl.code]at i;split at i;rename_i hd;subst hd;exact G3 γ β i u A hW L λB S H' N M O R J D=>l .normal B S H' N M O R J D;rename_i hd;simp only[atB]at i;obtain⟨il,χ,rfl⟩:=i;have:d=false:=by simpa using hd
  subst this;exact wpIn_region_list (wt γ β ops.toList il E F H a w χ u A hW L λB S H' N M O R J D=>l .normal B S H' N M O R J D)
 |seq x y X Y=>
  intro pc K Q E F H a w i u A hW L l;simp only[Tbl.code]at i;split at i
  ·rename_i Z py W hy;cases i;refine wpIn_seq (X Z (gL C (py.wp C) K) _ E F H a w W u A hW L λe B S H' N M O R J D=>?_);cases e with
   |normal=>exact Y py K Q B S H' N M hy D O R (J.env.num.trans L) (l.after J)
   |exit id=>exact l (.exit id) B S H' N M O R J D
   |ret=>exact l .ret B S H' N M O R J D
  cases i
 |cond c x y X Y=>
  intro pc K Q E F H a w i u A hW L l;simp only[Tbl.code]at i;split at i;rename_i Δ Z py ζ W hy;cases i;simp only[aJ.wp]at u;split at u
  ·rename_i t υ;have r:=bL ζ υ A L;have hb:a.eval c=.bool t:=by generalize a.eval c=v at r;cases r;rfl
   refine wpIn_cond hb ?_;cases t with
   |true=>exact X Z K Q E F H a w W (by simpa using u) A hW L l
   |false=>exact Y py K Q E F H a w hy (by simpa using u) A hW L l
  exact u.elim;cases i
 |block id c ih=>
  intro pc K Q E F H a w i u A hW L l;simp only[Tbl.code,atB]at i;obtain⟨Z,W,rfl⟩:=i;refine wpIn_block (ih Z (fL id K) _ E F H a w W u A hW L λe B S H' N M O R J D=>?_);cases e with
  |normal=>exact l .normal B S H' N M O R J D
  |exit Γ =>simp only[fL]at D;simp only[lI.out,Exit.inBlock];split at D;rename_i e;rw[aF e];exact l .normal B S H' N M O R J D;rename_i e;rw[aC e];exact l (.exit Γ) B S H' N M O R J D
  |ret=>exact l .ret B S H' N M O R J D
 |loop c ih=>
  intro pc K Q E F H a w i u A hW L l;simp only[Tbl.code,atB]at i;obtain⟨Z,W,rfl⟩:=i;obtain⟨α,Fs,Hs,Pr,m,a0,F1,H1,φ,ω,ο,ε,V⟩:=u;obtain⟨E1,ι,σ,μ⟩:=A.frz hW φ;refine wpIn_loop_ghost (λk N M=>∃(B:Env)(s:α),Pr s/\m s=k/\eX ds n B (Fs s) N/\bZ B (Hs s) M/\Ext E H w B (Hs s) M) (m a0) ⟨E1,a0,ω,rfl,ι.weaken ο,σ.weaken ε,μ.drop ε⟩ ?_;rintro k N M ⟨B,s,hp,rfl,θ,ρ,U⟩;refine ih Z (fK Fs Hs Pr m (m s) K) _ B (Fs s) (Hs s) N M W (V s hp) θ ρ (U.env.num.trans L) λe E2 F2 H2 a2 w2 O R J D=>?_;cases e with
  |normal =>obtain⟨s',F3,H3,η,ψ,hlt,ξ,δ⟩:=D;obtain⟨E3,κ,τ,ν⟩:=O.frz R η;exact⟨m s',hlt,E3,s',ψ,rfl,κ.weaken ξ,τ.weaken δ,((U.trans J).trans ν).drop δ⟩
  |exit id=>exact l (.exit id) E2 F2 H2 a2 w2 O R (U.trans J) D
  |ret=>exact l .ret E2 F2 H2 a2 w2 O R (U.trans J) D
 |exit id =>intro pc K Q E F H a w i u A hW L l;simp[Tbl.code]at i;subst i;exact wpIn_exit (l (.exit id) E F H a w A hW (.refl E H w) u)
 |ret =>intro pc K Q E F H a w i u A hW L l;simp[Tbl.code]at i;subst i;exact wpIn_ret (l .ret E F H a w A hW (.refl E H w) u)
 |rangeFunc=>intro pc K Q E F H a w i;simp[Tbl.code]at i
 |scope c ih =>intro pc K Q E F H a w i u A hW L l;simp only[Tbl.code]at i;refine Pf (ih pc K _ E F H a w i u A hW L λe B S H' N M O R J D=>?_);have:=l e B S H' N M O R J D;cases e<;>exact this
 |label =>intro pc K Q E F H a w i u A hW L l;simp[Tbl.code]at i;subst i;exact wpIn_label (l .normal E F H a w A hW (.refl E H w) u)
 |goto=>intro pc K Q E F H a w i;simp[Tbl.code]at i
 |refuse=>intro pc K Q E F H a w i;simp[Tbl.code]at i
end
open Go Go.RowKit
namespace Tbl
variable (T:Tbl)
def res:ResultVar->Option dX
 | .tmp t=>some (.tmp t)
 | .cell t ty=>match T.isAgg ty,T.size ty with
  |some true,some k=>some (.cell t (some k))
  |some false,_=>some (.cell t none)
  |_,_=>none
def t6:List ResultVar->Option (List dX)
 |[]=>some []
 |r::rs=>match T.res r,t6 rs with
  |some p,some ps=>some (p::ps)
  |_,_=>none
def func(fn:Func):Option kJ:=
 match fn.body with
 |some c=>match T.code fn.ntmps c,T.t6 fn.results.toList with
  |some b,some rs=>some ⟨fn.params.size,fn.ntmps,b,rs⟩
  |_,_=>none
 |none=>none
end Tbl
section
variable {ds:List Deferred} {T:Tbl} {n:Nat} {E:Env} {F:PF} {H:PH} {a:Act} {w:World}
def VW(e:Array Value):ResultVar->Sem Value
 | .tmp t=>pure (e.getD t undef)
 | .cell a t=>do loadVar t (<-asAddr (e.getD a undef))
theorem Sz{r:ResultVar}{p:dX}{pv:PV}(l:T.res r=some p)(e:p.ev F H=some pv)(y:eX ds n E F a)(hW:bZ E H w):∃v,(VW a.tmps r).run T.P w=.ok v w/\bG E pv v:=by
 cases r with
 |tmp t =>simp[Tbl.res]at l;subst l;exact⟨_,rfl,y.t t pv e⟩
 |cell t ty =>simp only[Tbl.res]at l;split at l;rename_i k B D;cases l;simp only[dX.ev]at e;split at e;rename_i q hq;rw[atB]at e;obtain⟨cs,i,rfl⟩:=e;obtain⟨b,off,hb,-⟩:=uM hW (y.t t q hq) i;obtain⟨u,x,A⟩:=an (T:=T) B D hW (y.t t q hq) i;refine⟨u,?_,A⟩;rw[hb]at x;simpa[VW,hb,asAddr,Instr.loadAt,Instr.sureAddr]using x;cases e;rename_i B;cases l;simp only[dX.ev]at e;split at e;rename_i q hq;split at e;rename_i v' i;cases e;obtain⟨b,off,hb,-⟩:=uM hW (y.t t q hq) i;obtain⟨u,x,A⟩:=nj (T:=T) B hW (y.t t q hq) i;refine⟨u,?_,A⟩;rw[hb]at x;simpa[VW,hb,asAddr,Instr.loadAt,Instr.sureAddr]using x;cases e;cases e;cases l
theorem QS(B:eX ds n E F a)(hW:bZ E H w):∀(rs:List ResultVar)(ps:List dX)(e:V_),T.t6 rs=some ps->dX.evs F H ps=some e ->
  ∃vs,(rs.mapM (VW a.tmps)).run T.P w=.ok vs w/\fV E e vs
 |[],ps,e,i,l=>by simp[Tbl.t6]at i;subst i;simp[dX.evs]at l;subst l;exact⟨[],by simp,.nil⟩
 |r::rs,ps,e,i,l=>by simp only[Tbl.t6]at i;split at i;rename_i p A hp x;cases i;simp only[dX.evs]at l;split at l;rename_i v vs D y;cases l;obtain⟨u,g1,g2⟩:=Sz hp D B hW;obtain⟨L,J,K⟩:=QS B hW rs A vs x y;exact⟨u::L,by simp[List.mapM_cons,g1,J],.cons g2 K⟩;cases l;cases i
theorem oc{i:V_}{vs:List Value}(h:fV E i vs):bG E (bN i) (if h:vs.toArray.size=1 then vs.toArray[0]else .tuple vs.toArray):=by
 cases h with
 |nil=>exact .tup #[] rfl aZ
 |cons h t=>
  cases t with
  |nil=>exact h
  |cons l y =>rename_i p v q u ps A;have e:fV E (p::q::ps) (v::u::A):=.cons h (.cons l y);rw[dif_neg aZ];exact .tup _ (by simpa using e.len) (λj pv w hp x=>e.at_ j pv w hp (by simpa using x))
theorem ov(fn:Func)(e:Array Value):results fn e=(do
  let vs <-fn.results.mapM (VW e)
  pure (if h:vs.size=1 then vs[0]else .tuple vs)):=by
 unfold results;congr 1
theorem UJ(D:C.P=T.P)(B:C.num=T.num){name:Nat}{args:V_}{R:R_}{fn:Func}{pf:kJ}(hf:C.P.funcs[C.num name]?=some fn)(Y:(fn.name=="runtime.NumGoroutine")=false)
  (l:T.func fn=some pf) (L:Z' args<=pf.ntmps) (h:pf.body.wp C (aV pf.res R) (PF.args args) H):aH C name args H R:=by
 unfold Tbl.func at l;split at l;rename_i c hb;split at l
 ·rename_i b rs u y;cases l;refine⟨⟨fn,hf,by simp[hb],Y⟩,λE w vs hN hW O=>?_⟩;have β:vs.size=Z' args:=by simpa using O.len
  refine calls_of_wp hf hb ?_;rw[D];refine(wpIn_wide (n:=0)).1 ?_;have hA:eX [] fn.ntmps E (PF.args args) { tmps:=vs++auW (fn.ntmps-vs.size) undef,defers:=[] }:=by
   refine⟨by simp only at L;simp;omega,rfl,λi pv hi=>?_⟩;have x:i<vs.size:=by
    rw[β];rcases atY i args.length with h'|h'
    exact h';simp[PF.args,auE h']at hi
   simp only[axD];rw[Array.getElem?_append_left x,awR x];exact O.at_ i pv _ hi (by simp[x])
  refine wB (ro:=none) (fu:=0) D B c b (aV rs R) _ E (PF.args args) H _ w u h hA hW (hN.trans B) λe U F' H' a' V A J hE W=>?_;have S:aV rs R .ret F' H'->bodyPost T.P fn (λe V=>∃v pv U H',e=.returned v/\bZ U H' V/\bG U pv v/\Ext E H w U H' V/\R pv H') .ret a' V:=by
   rintro⟨γ,M,F1,H1,H2,X,K,v0,α,hR⟩;obtain⟨us,g1,g2⟩:=QS A J fn.results.toList rs γ y M;have Z:=oc g2;obtain⟨E2,k1,k2,k3⟩:=X.sound J;have N:=k3 (λ_=>if h:us.toArray.size=1 then us.toArray[0]else .tuple us.toArray) (λi pv hi=>by simp only[PF.set,upd]at hi;split at hi;cases hi;exact Z;cases hi) 0 v0 α
   refine⟨A.defers,_,?_,_,v0,E2,H2,rfl,k1.weaken K,N,(hE.trans k2).drop K,hR⟩;rw[ov,Array.mapM_eq_mapM_toList];simp[g1]
  cases e with
  |normal=>exact S W
  |exit id=>exact W.elim
  |ret=>exact S W
 cases l;cases l
end
end Go.PM
theorem Go.s_{p:Prop}(h:p:=by simp only[go_sem]):p:=h
theorem Go.dT_{p:Prop}[Decidable p]:(decide p=true)=p:=decide_eq_true_eq
