/-Lemmas for the law. No condition.-/
import Derived.WalkKit
import Derived.CallsIn
import Derived.Laws.Cover3
import Derived.Deep.MidRow
import Derived.Great.BuildSlice
import Derived.Lib.Strings
import Derived.Laws.BytesArg
import GoSem.Instr.MapUpdate
import Derived.Laws.MakeOwn
import Derived.Laws.CopyRow
import Derived.MapKept
import Derived.Orders
import Derived.OrdersIn
import Derived.Sort.LoopGhostIn
import Derived.TacticsIn
import Derived.Scope
set_option linter.unusedSimpArgs false
set_option linter.unusedVariables false
open Nat renaming reduceEqDiff->γ,reduceAdd->δ,reduceSub->ε,reduceMul->ζ,reduceLT->η,reduceLeDiff->θ,reduceBEq->τ
open Int renaming reduceLT->ι,reduceLE->κ,reduceEq->μ,reduceToNat->ν,reduceAdd->ξ,reduceNeg->ο,reduceBEq->ρ,reduceBNe->σ
open List renaming reduceReplicate->υ
open List renaming length_map->auD,range->auE,getElem_mem->auH,length_append->auJ,replicate->auL,getD_eq_getElem?_getD->auM,getElem?_eq_getElem->auP,mem_cons->auQ,mem_map->auT,length_take->auU,all_eq_true->auX,getElem?_map->avC,map_append->avD,length_cons->avG,map_cons->avH,mem_range->avM,mem_singleton->avN,getElem?_eq_some_iff->avP,set_cons_zero->avQ,length_nil->avS,length_set->avT,append_assoc->avW,mem_append->avX,map_nil->avY,getElem?_eq_none->avZ,getElem_map->awA,append_nil->awD,getElem?_append_right->awH,getElem_of_mem->awI,length_drop->awM,getElem?_append_left->awR,drop_eq_getElem_cons->awS,mem_of_getElem?->awW,nil_append->axI,nodup_append->axR,set_append_right->axS,cons_append->axX,take_append_drop->axY,getElem?_take->axZ,getElem?_set->ayG,set_cons_succ->ayI,mem_filter->ayM,countP_append->ayR,getElem?_drop->ayT,mem_or_eq_of_mem_set->ayU,mem_of_mem_take->ayW,getElem_append_right->ayY
open Nat renaming le_refl->auG,zero_add->avA,lt_or_ge->avF,le_trans->avJ,mul_le_mul_right->avL,mul_comm->avO,add_mul->avV,mod_lt->awJ,sub_self->awU,add_zero->awX,mul_le_mul_left->awZ,succ_mul->axB,add_assoc->axG,eq_zero_or_pos->axN,div_lt_iff_lt_mul->ayB,div_add_mod->ayN
open Bool renaming and_eq_true->auI,not_true->auO,true_and->auV,not_false->auY,false_eq_true->awQ
open Option renaming map_eq_some_iff->auR,map_some->avB,some->awN,getD_some->axC,bind_some->ayE,bind_eq_some_iff->ayP
open Int renaming toNat_natCast->awG,mul_comm->axW
open Array renaming replicate->awO,length_toList->axV,getElem?_eq_some_iff->ayF,getElem?_eq_getElem->ayK,getD_eq_getD_getElem?->ayQ
open List renaming length->l''
set_option maxRecDepth 100000
set_option maxHeartbeats 800000
noncomputable section
attribute [go_sem] Nat.reduceEqDiff Nat.reduceAdd Nat.reduceSub Nat.reduceMul Nat.reduceLT Nat.reduceLeDiff Int.reduceLT Int.reduceLE Int.reduceEq Int.reduceToNat Int.reduceAdd Int.reduceNeg Int.reduceBEq Int.reduceBNe Nat.reduceBEq List.reduceReplicate reduceIte reduceCtorEq
theorem Om{p:Prop}(h:p:=by omega):p:=h
theorem sO_{p:Prop}(h:p:=by simp only;omega):p:=h
theorem aU{p:Prop}(h:p:=by decide):p:=h
theorem bC{p:Prop}(h:p:=by simp):p:=h
abbrev aB:=@if_neg
abbrev aD:=@if_pos
abbrev bH:=@decide_eq_true
abbrev bT:=@decide_eq_false
namespace Go.PM
open Go
inductive PV where
 |int (k:IntKind) (n:Int)
 |bool (b:Bool)
 |str (s:List UInt8)
 |aE
 |sl (size:Nat) (rows:List (List PV))
 |osl (o size off len:Nat)
 |ptr (o size i c:Nat)
 |bQ (cells:List PV)
 |map (o:Nat)
 |fn (name:Nat) (captured:List PV)
 |agg (cells:List PV)
 |tup (vs:List PV)
 |lit (v:Value)
 |junk
 deriving Inhabited
abbrev PV.j(n:Int):PV:=.int .i64 n
attribute[go_sem] PV.j
abbrev _root_.P2_:=List (List PV)
abbrev _root_.L2_:=List (List Int)
abbrev _root_.N_:=List Nat
abbrev _root_.I_:=List Int
abbrev _root_.V_:=List PV
abbrev _root_.O_:=Option Nat
inductive KSh where
 |int (k:IntKind)
 |bool
 |str
 deriving DecidableEq,Inhabited
inductive KS where
 |int (k:IntKind) (n:Int)
 |bool (b:Bool)
 |str (s:List UInt8)
 deriving DecidableEq,Inhabited
def KS.sh:KS->KSh
 | .int k _=>.int k
 | .bool _=>.bool
 | .str _=>.str
def KS.val:KS->Value
 | .int k n=>.int k n
 | .bool b=>.bool b
 | .str s=>.string ⟨s.toArray⟩
abbrev MSh:=Bool × List KSh
def jM(sh:MSh)(k:List KS):Value:=if sh.1 then .agg (k.map KS.val).toArray else(k.map KS.val).headD undef
abbrev mA:=List KS->Option PV
def mA.upd(g:mA)(k:List KS)(v:PV):mA:=λj=>if j=k then some v else g j
def rF(k:List KS):List (List KS × PV)->Nat->Option (Nat × PV)
 |[],_=>none
 |e::l,i=>if e.1=k then some (i,e.2)else rF k l (i+1)
def mapOf(L:List (List KS × PV)):mA:=λk=>(rF k L 0).map (·.2)
open Classical in
noncomputable def mA.Od(g:mA):Nat:=if h:∃i:List (List KS),i.Nodup/\∀k,k∈i↔(g k).isSome=true then h.choose.length else 0
theorem mA.adZ{g:mA}{i:List (List KS)}(l:i.Nodup)(u:∀k,k∈i↔(g k).isSome=true):g.Od=l'' i:=by
 have h:∃i:List (List KS),i.Nodup/\∀k,k∈i↔(g k).isSome=true:=⟨i,l,u⟩;unfold mA.Od;rw[dif_pos h];exact((List.perm_ext_iff_of_nodup h.choose_spec.1 l).2 λk=>(h.choose_spec.2 k).trans (u k).symm).length_eq
theorem NL(k:List KS):∀(L:List (List KS × PV)) (i:Nat),(rF k L i).isSome=true↔k∈L.map (·.1)
 |[],i=>by simp[rF]
 |e::l,i=>by unfold rF;by_cases h:e.1=k;simp[h];rw[aB h,NL k l,avH,auQ];exact⟨.inr,λu=>u.resolve_left λe2=>h e2.symm⟩
theorem P3{L:List (List KS × PV)}(h:(L.map (·.1)).Nodup):(mapOf L).Od=l'' L:=by
 rw[mA.adZ h λk=>?_,auD];rw[<-NL k L 0];unfold mapOf;simp
inductive aW where
 |rows (size:Nat) (rs:P2_)
 |map (sh:MSh) (g:mA)
 |loop (F:Nat->Option PV) (n t:Nat) (asg bdy:Code)
 |dead
def upd{α:Type}(f:Nat->Option α)(i:Nat)(v:Option α):Nat->Option α:=λj=>if j=i then v else f j
theorem J3{α:Type}(f:Nat->Option α)(i:Nat)(v:Option α):upd f i v i=v:=by simp[upd]
theorem VX{α:Type}(f:Nat->Option α){i j:Nat}(v:Option α)(h:j≠i):upd f i v j=f j:=by simp[upd,h]
theorem abY{α:Type}(f:Nat->Option α){i j:Nat}(v u:Option α)(h:i≠j):upd (upd f i v) j u=upd (upd f j u) i v:=by
 funext k;simp only[upd];by_cases l:k=j;by_cases w:k=i;omega;simp[l];intro y;omega;simp[l]
abbrev PF:=Nat->Option PV
def PF.nil:PF:=λ_=>none
def PF.set(F:PF)(i:Nat)(v:PV):PF:=upd F i (some v)
def PF.le(F G:PF):Prop:=∀i v,F i=some v->G i=some v
structure PH where
 f:Nat->Option aW
 fin:∃n,∀o,n<=o->f o=none
instance:CoeFun PH (λ_=>Nat->Option aW):=⟨PH.f⟩
abbrev _root_.T3_:=Nat × PV × PH
abbrev _root_.K_:=PF→PH→Prop
abbrev _root_.R_:=PV→PH→Prop
theorem PH.ext{H K:PH}(h:∀o,H.f o=K.f o):H=K:=by
 cases H;cases K;have:‹Nat->Option aW›=‹Nat->Option aW›:=rfl;congr;exact funext h
def PH.nil:PH:=⟨λ_=>none,0,λ_ _=>rfl⟩
def PH.upd(H:PH)(o:Nat)(x:Option aW):PH:=
 ⟨PM.upd H.f o x,by
  obtain⟨n,i⟩:=H.fin;refine⟨max n (o+1),λq l=>?_⟩;rw[VX _ _ Om];exact i q Om⟩
def PH.set(H:PH)(o:Nat)(x:aW):PH:=H.upd o (some x)
def PH.le(H K:PH):Prop:=∀o x,H o=some x->K o=some x
def PH.over(H i l:PH):PH:=
 ⟨λo=>match l o with
  |some x=>some x
  |none=>match i o with
   |some _=>some .dead
   |none=>H o,by
  obtain⟨n,y⟩:=H.fin;obtain⟨A,u⟩:=i.fin;obtain⟨E,w⟩:=l.fin;refine⟨max n (max A E),λo F=>?_⟩;simp only[w o Om,u o Om,y o Om]⟩
theorem PH.fresh(H:PH):∃o,H o=none:=by
 obtain⟨n,i⟩:=H.fin;exact⟨n,i n (auG _)⟩
def at2(rows:P2_)(i j:Nat):Option PV:=rows[i]?.bind (·[j]?)
structure Env where
 G:Nat->Option (Array Value)
 sz:Nat->O_
 num:Nat->FuncId
def Env.cell(E:Env)(b off:Nat):Option Value:=(E.G b).bind (·[off]?)
structure Env.le(E E':Env):Prop where
 g:∀b cs,E.G b=some cs->E'.G b=some cs
 s:∀b n,E.sz b=some n->E'.sz b=some n
 num:E'.num=E.num
theorem Env.le.refl(E:Env):E.le E:=⟨λ_ _ h=>h,λ_ _ h=>h,rfl⟩
theorem Env.le.trans{A B C:Env}(h:A.le B)(k:B.le C):A.le C:=
 ⟨λb cs e=>k.g _ _ (h.g _ _ e),λb n e=>k.s _ _ (h.s _ _ e),k.num.trans h.num⟩
theorem Env.le.cell{E w:Env}(h:E.le w){b off:Nat}{u:Value}(i:E.cell b off=some u):w.cell b off=some u:=by
 unfold Env.cell at *
 cases l:E.G b with
 |none=>simp[l]at i
 |some cs=>rw[l]at i;rw[h.g _ _ l];exact i
inductive bE (E:Env):PV->Value->Prop
 |int (k:IntKind) (n:Int):bE E (.int k n) (.int k n)
 |bool (b:Bool):bE E (.bool b) (.bool b)
 |str (s:ByteArray):bE E (.str s.data.toList) (.string s)
 |aE:bE E .aE (.slice none 0 0)
 |sl {size:Nat} {rows:P2_} {a:Option Addr} {cap:Nat} (u:Nat->Nat->Value) (hcap:l'' rows<=cap) (atW:cap<=maxLen)
   (hs:∀r∈rows,l'' r=size)
   (ha:rows≠[]->∃ad,a=some ad/\ad.spot=none/\∀i j pv,at2 rows i j=some pv->E.cell ad.block (ad.off+i*size+j)=some (u i j))
   (h1:∀i j,(u i j).oneCell'=true) (hr:∀i j pv,at2 rows i j=some pv->bE E pv (u i j)):bE E (.sl size rows) (.slice a rows.length cap)
 |osl {o size off len cap n:Nat} {a:Addr} (hb:a.block=o) (hsp:a.spot=none) (auA:cap=0\/a.off=off*size) (hlen:len<=cap) (atW:cap<=maxLen)
   (hn:E.sz o=some n) (atP:off*size+cap*size<=n):bE E (.osl o size off len) (.slice (some a) len cap)
 |ptr (o size i c:Nat):bE E (.ptr o size i c) (.pointer (some ⟨o,i*size+c,none⟩))
 |bQ {cells:V_} {ad:Addr} (u:Nat->Value) (hsp:ad.spot=none) (hc:∀(j:Nat) pv,cells[j]?=some pv->E.cell ad.block (ad.off+j)=some (u j))
   (h1:∀(j:Nat),(u j).oneCell'=true) (hr:∀(j:Nat) pv,cells[j]?=some pv->bE E pv (u j)):bE E (.bQ cells) (.pointer (some ad))
 |map (o:Nat):bE E (.map o) (.map (some o))
 |fn {name:Nat} {captured:V_} (vc:Array Value) (hl:vc.size=l'' captured)
   (hr:∀(j:Nat) pv v,captured[j]?=some pv->vc[j]?=some v->bE E pv v):bE E (.fn name captured) (.func (.func (E.num name)) #[] vc)
 |agg {cells:V_} (vs:Array Value) (hl:vs.size=l'' cells) (h1:∀v∈vs.toList,v.oneCell'=true)
   (hr:∀(j:Nat) pv v,cells[j]?=some pv->vs[j]?=some v->bE E pv v):bE E (.agg cells) (.agg vs)
 |tup {ps:V_} (vs:Array Value) (hl:vs.size=l'' ps)
   (hr:∀(j:Nat) pv v,ps[j]?=some pv->vs[j]?=some v->bE E pv v):bE E (.tup ps) (.tuple vs)
 |lit (v:Value):bE E (.lit v) v
 |junk (v:Value):bE E .junk v
theorem bE.mono{E Q:Env}(h:E.le Q){pv:PV}{v:Value}(r:bE E pv v):bE Q pv v:=by
 induction r with
 |int=>exact .int _ _
 |bool=>exact .bool _
 |str=>exact .str _
 |aE=>exact .aE
 |sl u H l W U F _ w =>refine .sl u H l W (λO=>?_) F w;obtain⟨S,e,Y,N⟩:=U O;exact⟨S,e,Y,λi j pv hp=>h.cell (N i j pv hp)⟩
 |osl hb A M K l V y=>exact .osl hb A M K l (h.s _ _ V) y
 |ptr=>exact .ptr _ _ _ _
 |bQ u A N F _ w=>exact .bQ u A (λj pv hp=>h.cell (N j pv hp)) F w
 |map=>exact .map _
 |fn vc J _ w=>rw[<-h.num];exact .fn vc J w
 |agg vs J F _ w=>exact .agg vs J F w
 |tup vs J _ w=>exact .tup vs J w
 |lit=>exact .lit _
 |junk=>exact .junk _
def SG(E:Env)(w:World)(o:Nat):aW->Prop
 | .rows size rs=>∃l ty,w.heap[o]?=some (.cells l ty (0,0))/\E.sz o=some l.size/\(∀r∈rs,l'' r=size)/\l'' rs*size<=l.size /\
   ∀i j pv,at2 rs i j=some pv->∃u,l[i*size+j]?=some u/\u.oneCell'=true/\bE E pv u
 | .map sh g=>∃A y L,w.heap[o]?=some (.map A y)/\(A.size=l'' L/\(L.map (·.1)).Nodup)/\g=mapOf L /\
   ∀(i:Nat) e K,L[i]?=some e->A[i]?=some K->e.1.map KS.sh=sh.2/\K.key=jM sh e.1/\bE E e.2 K.val
 | .loop F n t H J=>∃rec:Loop,w.heap[o]?=some (.loop rec)/\rec.state=.ready/\rec.pending=none/\rec.params=#[t]/\rec.assign=H/\rec.body=J/\rec.tmps.size=n/\∀i pv,F i=some pv->bE E pv (rec.tmps.getD i undef)
 | .dead=>True
theorem SG.mono{E Q:Env}(h:E.le Q){w S:World}{o:Nat}(O:S.heap[o]?=w.heap[o]?){x:aW}(r:SG E w o x):SG Q S o x:=by
 cases x with
 |rows size rs =>obtain⟨K,ty,A,H,J,y,h5⟩:=r;refine⟨K,ty,O.trans A,h.s _ _ H,J,y,λi j pv hp=>?_⟩;obtain⟨u,a,b,c⟩:=h5 i j pv hp;exact⟨u,a,b,c.mono h⟩
 |map sh g =>obtain⟨N,l,L,A,H,J,y⟩:=r;exact⟨N,l,L,O.trans A,H,J,λi e M a b=>⟨(y i e M a b).1,(y i e M a b).2.1,(y i e M a b).2.2.mono h⟩⟩
 |loop F n t U V =>obtain⟨rec,A,H,J,y,h5,W,h7,h8⟩:=r;exact⟨rec,O.trans A,H,J,y,h5,W,h7,λi pv hi=>(h8 i pv hi).mono h⟩
 |dead=>trivial
structure bZ(E:Env)(H:PH)(w:World):Prop where
 g:∀b cs,E.G b=some cs->(∀x,H b=some x->x=.dead)/\∃ty fr,w.heap[b]?=some (.cells cs ty fr)
 h:∀o x,H o=some x->o<w.heap.size/\SG E w o x
 s:∀o n,E.sz o=some n->∃cur ty fr,w.heap[o]?=some (.cells cur ty fr)/\cur.size=n
theorem bZ.weaken{E:Env}{H l:PH}{w:World}(h:bZ E H w)(i:l.le H):bZ E l w:=by
 exact⟨λb cs hb=>⟨λx y=>(h.g b cs hb).1 x (i b x y),(h.g b cs hb).2⟩,λo x u=>h.h o x (i o x u),h.s⟩
structure Ext(E:Env)(H:PH)(w:World)(E':Env)(H':PH)(w':World):Prop where
 env:E.le E'
 os:w'.os=w.os
 tape:w'.tape=w.tape
 output:w'.output=w.output
 size:w.heap.size<=w'.heap.size
 block:∀b,b<w.heap.size->H b=none->w'.heap[b]?=w.heap[b]?
 new:∀o x,H' o=some x->(∃y,H o=some y)\/w.heap.size<=o
 newG:∀b cs,E'.G b=some cs->E.G b=some cs\/(∃y,H b=some y)\/w.heap.size<=b
theorem Ext.refl(E:Env)(H:PH)(w:World):Ext E H w E H w:=
 ⟨.refl E,rfl,rfl,rfl,auG _,λ_ _ _=>rfl,λ_ x h=>.inl ⟨x,h⟩,λ_ _ h=>.inl h⟩
theorem Ext.trans{l u w:Env}{A H2 E:PH}{H J K:World}(h:Ext l A H u H2 J)(k:Ext u H2 J w E K):Ext l A H w E K:=by
 refine⟨h.env.trans k.env,k.os.trans h.os,k.tape.trans h.tape,k.output.trans h.output,avJ h.size k.size,λb hb F=>?_,λo x O=>?_,λb cs hb=>?_⟩;have N:H2 b=none:=by
  cases e:H2 b with
  |none=>rfl
  |some x=>
   rcases h.new b x e with⟨y,i⟩|hl
   rw[F]at i;cases i;omega
 rw[k.block b (by have:=h.size;omega) N,h.block b hb F];rcases k.new o x O with⟨y,i⟩|hl
 exact h.new o y i;exact .inr (avJ h.size hl);rcases k.newG b cs hb with M|⟨y,i⟩|hl
 exact h.newG b cs M;exact .inr (h.new b y i);exact .inr (.inr (avJ h.size hl))
theorem Ext.drop{E l:Env}{H H' u:PH}{w y:World}(h:Ext E H w l H' y)(i:u.le H'):Ext E H w l u y:=
 ⟨h.env,h.os,h.tape,h.output,h.size,h.block,λo x A=>h.new o x (i o x A),h.newG⟩
theorem Ext.narrow{E F:Env}{H H' A:PH}{w J:World}(h:Ext E A w F H' J)(i:A.le H):Ext E H w F (H.over A H') J:=by
 refine⟨h.env,h.os,h.tape,h.output,h.size,λb hb M=>h.block b hb ?_,λo x l=>?_,λb cs hb=>?_⟩
 ·cases e:A b with
  |none=>rfl
  |some x=>have:=i b x e;rw[M]at this;cases this
 unfold PH.over at l;simp only at l;split at l;rename_i y u;rcases h.new o y u with⟨z,N⟩|hl
 exact .inl ⟨z,i o z N⟩;exact .inr hl;split at l;rename_i y u;exact .inl ⟨y,i o y u⟩;exact .inl ⟨x,l⟩;rcases h.newG b cs hb with K|⟨y,u⟩|hl
 exact .inl K;exact .inr (.inl ⟨y,i b y u⟩);exact .inr (.inr hl)
theorem bZ.over{E M:Env}{H H' N:PH}{w K:World}(hW:bZ E H w)(h:Ext E N w M H' K)(O:N.le H)(i:bZ M H' K):bZ M (H.over N H') K:=by
 have keep:∀o x,H o=some x->N o=none->o<K.heap.size/\SG M K o x:=by intro o x l F;obtain⟨hlt,J⟩:=hW.h o x l;exact⟨Nat.lt_of_lt_of_le hlt h.size,J.mono h.env (h.block o hlt F)⟩
 refine⟨λb cs hb=>⟨?_,(i.g b cs hb).2⟩,λo x l=>?_,i.s⟩;intro x u;unfold PH.over at u;simp only at u;split at u;rename_i y A;cases u;exact(i.g b cs hb).1 _ A;split at u;cases u;rfl;rename_i F;rcases h.newG b cs hb with Q|⟨y,A⟩|hl
 exact(hW.g b cs Q).1 x u;rw[F]at A;cases A;have:=(hW.h b x u).1;omega;unfold PH.over at l;simp only at l;split at l;rename_i y A;cases l;exact i.h o _ A;split at l;rename_i y A;cases l;exact⟨Nat.lt_of_lt_of_le (hW.h o y (O o y A)).1 h.size,trivial⟩;rename_i F;exact keep o x l F
open Go
inductive aP where
 |tmp (t:Nat)
 |const (v:PV)
 deriving Inhabited
def aP.ev(F:PF):aP->Option PV
 | .tmp t=>F t
 | .const v=>some v
def aP.evs(F:PF):List aP->Option V_
 |[]=>some []
 |x::xs=>match x.ev F,aP.evs F xs with
  |some v,some vs=>some (v::vs)
  |_,_=>none
inductive Sc where
 |int|bool|str
 deriving Inhabited,DecidableEq
inductive POp where
 |mv (x:aP)
 |pick (c a b:aP)
 |bin (op:BinOp) (x y:aP)
 |eqb (neg:Bool) (x y:aP)
 |eqs (neg:Bool) (ks:List Sc) (x y:aP)
 |un (op:UnOp) (x:aP)
 |conv (k:IntKind) (x:aP)
 |same (x:aP)
 |alloc (cells:V_)
 |box (ro:Bool) (x:aP)
 |build (zero:V_) (parts:List (Nat × Nat × aP))
 |asV (ro:Bool) (size len:Nat) (zero:V_) (parts:List (Nat × aP))
 |load (n:O_) (p:aP)
 |store (n:Nat) (p x:aP)
 |atC (x:aP)
 |atU (off:Nat) (x:aP)
 |field (off:Nat) (n:O_) (x:aP)
 |atG (size:Nat) (x i:aP)
 |idxA (n size:Nat) (x i:aP)
 |idxV (n size:Nat) (ag:Bool) (x i:aP)
 |atS (x i:aP)
 |slice (size:Nat) (x:aP) (lo hi mx:Option aP)
 |atM (x:aP) (lo hi:Option aP)
 |sliceA (n size:Nat) (x:aP) (lo hi mx:Option aP)
 |len (x:aP)
 |atQ (x:aP)
 |auC (x:aP)
 |lenM (x:aP)
 |isNil (n:Bool) (x:aP)
 |extract (x:aP) (i:Nat)
 |asX (size bytes:Nat) (zero:V_) (l c:aP)
 |append (size bytes:Nat) (x y:aP)
 |atK (mx:Bool) (x y:aP)
 |mkfn (name:Nat) (captured:List aP)
 |atX (sh:MSh)
 |lookup (sh:MSh) (zero:PV) (x k:aP) (ok:Bool)
 |atH (sh:MSh) (x k v:aP)
 |insert (sh:MSh) (x k v:aP)
 |stuck
 |atD (x:aP)
 |str2bytes (x:aP)
 |call (name:Nat) (args:List aP)
 |atT (x:aP) (args:List aP)
 deriving Inhabited
structure bY where
 dst:O_
 op:POp
 guard:Option (Nat × Bool)
 deriving Inhabited
inductive aK where
 |skip
 |region (ops:List bY)
 |draw (ops:List (bY × Bool))
 |seq (a b:aK)
 |cond (c:aP) (a b:aK)
 |block (id:Nat) (c:aK)
 |loop (c:aK)
 |exit (id:Nat)
 |ret
 deriving Inhabited
inductive dZ where
 |tmp (t:Nat)
 |cell (t:Nat) (n:O_)
 deriving Inhabited
structure lF where
 nparams:Nat
 ntmps:Nat
 body:aK
 res:List dZ
 deriving Inhabited
def PV.cells:PV->V_
 | .agg cs=>cs
 |v=>[v]
def PV.one:PV->Bool
 | .agg _ | .tup _ | .junk | .lit (.agg _) | .lit (.tuple _)=>false
 |_=>true
def setCells(r:V_)(c:Nat):V_->V_
 |[]=>r
 |v::vs=>setCells (r.set c v) (c+1) vs
def loadCells(H:PH)(p:PV)(n:Nat):Option V_:=
 match p with
 | .ptr o size i c=>match H o with
  |some (.rows s rs)=>if s=size then match rs[i]? with
    |some r=>if c+n<=r.length then some ((r.drop c).take n)else none
    |none=>none
   else none
  |_=>none
 | .bQ cells=>if n<=cells.length then some (cells.take n)else none
 |_=>none
def nP(op:BinOp)(k:IntKind)(a b:Int):Option PV:=
 match op with
 | .add=>some (.int k (k.wrap (a+b)))
 | .sub=>some (.int k (k.wrap (a-b)))
 | .mul=>some (.int k (k.wrap (a*b)))
 | .quo=>if b=0 then none else some (.int k (k.wrap (a.tdiv b)))
 | .rem=>if b=0 then none else some (.int k (a.tmod b))
 | .and=>some (.int k (k.wrap (BitVec.ofInt k.bits a &&& BitVec.ofInt k.bits b).toNat))
 | .or=>some (.int k (k.wrap (BitVec.ofInt k.bits a ||| BitVec.ofInt k.bits b).toNat))
 | .xor=>some (.int k (k.wrap (BitVec.ofInt k.bits a ^^^ BitVec.ofInt k.bits b).toNat))
 | .andNot=>some (.int k (k.wrap (BitVec.ofInt k.bits a &&& ~~~ BitVec.ofInt k.bits b).toNat))
 | .eql=>some (.bool (a==b))
 | .neq=>some (.bool (a != b))
 | .lss=>some (.bool (decide (a<b)))
 | .leq=>some (.bool (decide (a<=b)))
 | .gtr=>some (.bool (decide (a>b)))
 | .geq=>some (.bool (decide (a>=b)))
 | .shl | .shr=>none
def KM(op:BinOp)(a b:List UInt8):Option PV:=
 match op with
 | .add=>if((l'' a+l'' b:Nat):Int)>IntKind.i64.max then none else some (.str (a++b))
 | .eql=>some (.bool (a==b))
 | .neq=>some (.bool !(a==b))
 | .lss=>some (.bool (Op.bytesLess a b))
 | .leq=>some (.bool (Op.bytesLess a b||a==b))
 | .gtr=>some (.bool !(Op.bytesLess a b||a==b))
 | .geq=>some (.bool !(Op.bytesLess a b))
 |_=>none
def shift(op:BinOp)(k:IntKind)(a b:Int):Option PV:=
 if b<0 then none else
 match op with
 | .shl=>some (.int k (k.wrap (a*2^(min b.toNat k.bits))))
 | .shr=>some (.int k (a.fdiv (2^(min b.toNat k.bits))))
 |_=>none
def PV.bin(op:BinOp)(x y:PV):Option PV:=
 match op,x,y with
 | .shl,.int k a,.int _ b=>shift .shl k a b
 | .shr,.int k a,.int _ b=>shift .shr k a b
 |op,.int k a,.int i b=>if k=i then nP op k a b else none
 |op,.str a,.str b=>KM op a b
 |_,_,_=>none
def PV.eq1:Sc->PV->PV->Option Bool
 | .int,.int k a,.int i b=>if k=i then some (a==b)else none
 | .bool,.bool a,.bool b=>some (a==b)
 | .str,.str a,.str b=>some (a==b)
 |_,_,_=>none
def PV.eqs:List Sc->V_->V_->Option Bool
 |[],[],[]=>some true
 |k::i,x::xs,y::ys=>match PV.eq1 k x y with
  |some true=>PV.eqs i xs ys
  |some false=>if xs.length=l'' i/\l'' ys=i.length then some false else none
  |none=>none
 |_,_,_=>none
def PV.un(op:UnOp):PV->Option PV
 | .int k n=>match op with
  | .neg=>some (.int k (k.wrap (0-n)))
  | .xor=>some (.int k (k.wrap (BitVec.ofInt k.bits (if k.signed then -1 else k.max) ^^^ BitVec.ofInt k.bits n).toNat))
  |_=>none
 | .bool b=>match op with
  | .not=>some (.bool !b)
  |_=>none
 |_=>none
def PV.intOf:PV->Option Int
 | .int _ n=>some n
 |_=>none
def pP(cells:V_)(F:PF):List (Nat × Nat × aP)->Option V_
 |[]=>some cells
 |(off,size,x)::rest=>match x.ev F with
  |some v=>if v.cells.length=size/\off+size<=l'' cells/\v.cells.all PV.one then pP (setCells cells off v.cells) F rest else none
  |none=>none
def gQ(size:Nat)(rows:P2_)(F:PF):List (Nat × aP)->Option P2_
 |[]=>some rows
 |(i,x)::rest=>match x.ev F with
  |some v=>if v.cells.length=size/\i<l'' rows/\v.cells.all PV.one then gQ size (rows.set i v.cells) F rest else none
  |none=>none
def dP(H:PH)(size:Nat):PV->Option P2_
 | .aE=>some []
 | .sl s rows=>if s=size then some rows else none
 | .osl o s off len=>if s=size then match H o with
   |some (.rows s' rs)=>if s'=s/\off+len<=rs.length then some ((rs.drop off).take len)else none
   |_=>none
  else none
 |_=>none
def bnd(F:PF)(d:Int):Option aP->Option Int
 |none=>some d
 |some x=>(x.ev F).bind PV.intOf
def PV.slice(size:Nat)(x:PV)(l h:Int)(mx:Option Int):Option PV:=
 match x with
 | .aE=>if l=0/\h=0/\(mx=none\/mx=some 0)then some .aE else none
 | .sl s rows=>if s=size/\0<=l/\l<=h/\h<=l'' rows/\(mx=none\/mx=some h)then some (.sl s ((rows.take h.toNat).drop l.toNat))else none
 | .osl o s off len=>if s=size/\0<=l/\l<=h/\h<=len/\(mx=none\/mx=some h)then some (.osl o s (off+l.toNat) (h.toNat-l.toNat))else none
 |_=>none
def PV.vF:PV->Option Bool
 | .aE=>some true
 | .osl _ _ _ _=>some false
 | .sl _ (_::_)=>some false
 |_=>none
def KS.of:PV->Option KS
 | .int k n=>some (.int k n)
 | .bool b=>some (.bool b)
 | .str s=>some (.str s)
 |_=>none
def KS.ofs:V_->Option (List KS)
 |[]=>some []
 |v::vs=>match KS.of v,KS.ofs vs with
  |some k,some i=>some (k::i)
  |_,_=>none
def keyOf(sh:MSh)(v:PV):Option (List KS):=
 match sh.1,v with
 |true,.agg cs=>(KS.ofs cs).bind λk=>if k.map KS.sh=sh.2 then some k else none
 |false,v=>(KS.of v).bind λk=>if[k.sh]=sh.2 then some [k]else none
 |_,_=>none
def chunks(size:Nat):Nat->V_->P2_
 |0,_=>[]
 |n+1,cs=>cs.take size::chunks size n (cs.drop size)
def iM:P2_->Option (List UInt8)
 |[]=>some []
 |[.int .u8 n]::rest=>(iM rest).map (UInt8.ofNat n.toNat::·)
 |_=>none
def PV.mB:PV->Option PV
 | .aE=>some (.int .i64 0)
 | .sl _ rows=>some (.int .i64 rows.length)
 | .osl _ _ _ n=>some (.int .i64 n)
 |_=>none
noncomputable def aZ(op:POp)(F:PF)(H:PH):Option PV:=
 match op with
 | .mv x=>x.ev F
 | .same x=>match x.ev F with
  |some (.str s)=>some (.str s)
  |_=>none
 | .pick c a b=>match c.ev F,a.ev F,b.ev F with
  |some (.bool t),x,y=>if t then x else y
  |_,_,_=>none
 | .bin op x y=>match x.ev F,y.ev F with
  |some a,some b=>PV.bin op a b
  |_,_=>none
 | .eqb neg x y=>match x.ev F,y.ev F with
  |some (.bool a),some (.bool b)=>some (.bool ((a==b) != neg))
  |_,_=>none
 | .eqs neg J x y=>match x.ev F,y.ev F with
  |some (.agg xs),some (.agg ys)=>(PV.eqs J xs ys).map λb=>.bool (b != neg)
  |_,_=>none
 | .un op x=>match x.ev F with
  |some a=>PV.un op a
  |none=>none
 | .conv k x=>match x.ev F with
  |some (.int _ n)=>some (.int k (k.wrap n))
  |_=>none
 | .box true x=>match x.ev F with
  |some v=>if v.cells.all PV.one then some (.bQ v.cells)else none
  |none=>none
 | .build zero parts=>(pP zero F parts).map .agg
 | .asV true size len zero parts=>if zero.length=size/\len*size<=16777216 then(gQ size (auL len zero) F parts).map (.sl size)else none
 | .load none p=>match p.ev F with
  |some a=>match loadCells H a 1 with
   |some [v]=>some v
   |_=>none
  |none=>none
 | .load (some n) p=>match p.ev F with
  |some a=>(loadCells H a n).map .agg
  |none=>none
 | .atC x=>match x.ev F with
  |some (.ptr o s i c)=>some (.ptr o s i c)
  |some (.bQ cs)=>some (.bQ cs)
  |_=>none
 | .atU off x=>match x.ev F with
  |some (.ptr o s i c)=>some (.ptr o s i (c+off))
  |some (.bQ cs)=>some (.bQ (cs.drop off))
  |_=>none
 | .field off n x=>match x.ev F with
  |some (.agg cs)=>match n with
   |none=>cs[off]?
   |some n=>if off+n<=cs.length then some (.agg ((cs.drop off).take n))else none
  |_=>none
 | .atG size x i=>match x.ev F,i.ev F with
  |some (.sl s rows),some (.int _ n)=>if s=size/\0<=n then match rows[n.toNat]? with
    |some r=>some (.bQ r)
    |none=>none
   else none
  |some (.osl o s off len),some (.int _ n)=>if s=size/\0<=n/\n<len then some (.ptr o s (off+n.toNat) 0)else none
  |_,_=>none
 | .idxA n size x i=>match x.ev F,i.ev F with
  |some (.ptr o s r c),some (.int _ k)=>if 0<=k/\k<n then some (.ptr o s r (c+k.toNat*size))else none
  |some (.bQ cs),some (.int _ k)=>if 0<=k/\k<n then some (.bQ (cs.drop (k.toNat*size)))else none
  |_,_=>none
 | .idxV n size A x i=>match x.ev F,i.ev F with
  |some (.agg cs),some (.int _ k)=>if 0<=k/\k<n then
    (if A then(if k.toNat*size+size<=cs.length then some (.agg ((cs.drop (k.toNat*size)).take size))else none)else cs[k.toNat*size]?)
   else none
  |_,_=>none
 | .atS x i=>match x.ev F,i.ev F with
  |some (.str s),some (.int _ k)=>if 0<=k then(s[k.toNat]?).map λb=>PV.int .u8 b.toNat else none
  |_,_=>none
 | .slice size x lo hi mx=>match x.ev F with
  |some v=>match v with
   | .aE=>match bnd F 0 lo,bnd F 0 hi with
    |some l,some h=>match mx with
     |none=>PV.slice size v l h none
     |some m=>(bnd F 0 (some m)).bind λm=>PV.slice size v l h (some m)
    |_,_=>none
   | .sl s rows=>match bnd F 0 lo,bnd F rows.length hi with
    |some l,some h=>match mx with
     |none=>PV.slice size (.sl s rows) l h none
     |some m=>(bnd F 0 (some m)).bind λm=>PV.slice size (.sl s rows) l h (some m)
    |_,_=>none
   | .osl o s off len=>match bnd F 0 lo,bnd F len hi with
    |some l,some h=>match mx with
     |none=>PV.slice size (.osl o s off len) l h none
     |some m=>(bnd F 0 (some m)).bind λm=>PV.slice size (.osl o s off len) l h (some m)
    |_,_=>none
   |_=>none
  |none=>none
 | .atM x lo hi=>match x.ev F with
  |some (.str s)=>match bnd F 0 lo,bnd F s.length hi with
   |some l,some h=>if 0<=l/\l<=h/\h<=s.length then some (.str ((s.take h.toNat).drop l.toNat))else none
   |_,_=>none
  |_=>none
 | .sliceA n size x lo hi mx=>match lo,hi,mx with
  |none,none,none=>match x.ev F with
   |some (.bQ cs)=>if n*size<=l'' cs/\0<size/\n<=maxLen then some (.sl size (chunks size n cs))else none
   |_=>none
  |_,_,_=>none
 | .len x=>(x.ev F).bind PV.mB
 | .atQ x=>match x.ev F with
  |some (.str s)=>some (.int .i64 s.length)
  |_=>none
 | .lenM x=>match x.ev F with
  |some (.map o)=>match H o with
   |some (.map _ g)=>some (.int .i64 (g.Od:Nat))
   |_=>none
  |_=>none
 | .auC x=>match x.ev F with
  |some .aE=>some (.int .i64 0)
  |_=>none
 | .isNil n x=>(x.ev F).bind λv=>v.vF.map λb=>.bool (b != n)
 | .extract x i=>match x.ev F with
  |some (.tup vs)=>vs[i]?
  |_=>none
 | .atK mx x y=>match x.ev F,y.ev F with
  |some (.int k a),some (.int E b)=>if k=E then some (.int k (if mx then(if a<b then b else a)else(if b<a then b else a)))else none
  |_,_=>none
 | .mkfn name captured=>(aP.evs F captured).map λcs=>.fn name cs
 | .lookup sh zero x k ok=>match x.ev F,k.ev F with
  |some (.map o),some K=>match H o,keyOf sh K with
   |some (.map w g),some u=>if w=sh then some (if ok then .tup [(g u).getD zero,.bool (g u).isSome]else(g u).getD zero)else none
   |_,_=>none
  |_,_=>none
 | .atD x=>match x.ev F with
  |some v=>match dP H 1 v with
   |some rows=>(iM rows).map PV.str
   |none=>none
  |none=>none
 |_=>none
def cS(op:POp)(F:PF):Option ((Nat->PV) × aW):=
 match op with
 | .alloc cells=>some (λo=>.ptr o cells.length 0 0,.rows cells.length [cells])
 | .box false x=>match x.ev F with
  |some v=>if v.cells.all PV.one then some (λo=>.ptr o v.cells.length 0 0,.rows v.cells.length [v.cells])else none
  |none=>none
 | .asV false size len zero parts=>if zero.length=size/\len*size<=16777216 then
   (gQ size (auL len zero) F parts).map λrows=>(λo=>.osl o size 0 len,.rows size rows)
  else none
 | .asX size bytes zero l c=>match l.ev F,c.ev F with
  |some (.int _ n),some (.int _ m)=>if 0<=n/\n<=m/\m*bytes<=140737488355328/\m<=9223372036854775807/\l'' zero=size then
    some (λo=>.osl o size 0 n.toNat,.rows size (auL n.toNat zero))
   else none
  |_,_=>none
 | .atX sh=>some (λo=>.map o,.map sh (λ_=>none))
 |_=>none
def storeAt(H:PH)(p:PV)(cells:V_):Option PH:=
 match p with
 | .ptr o size i c=>match H o with
  |some (.rows s rs)=>if s=size/\c+l'' cells<=size/\cells.all PV.one then match rs[i]? with
    |some r=>some (H.set o (.rows s (rs.set i (setCells r c cells))))
    |none=>none
   else none
  |_=>none
 |_=>none
def roomFor(n m bytes:Nat):Prop:=n+m<=maxLen/\(n+m)*bytes<=140737488355328
def mJ(H:PH)(size bytes:Nat)(x y:PV)(K:R_):Prop:=
 ∃src,dP H size y=some src /\
  match x with
  | .aE=>roomFor 0 src.length bytes/\(src=[]->K .aE H)/\(src≠[]->∀o,H o=none->K (.osl o size 0 src.length) (H.set o (.rows size src)))
  | .osl o s 0 len=>s=size/\0=0/\roomFor len src.length bytes/\∃rs,H o=some (.rows size rs)/\len<=l'' rs /\
    K (.osl o size 0 (len+l'' src)) (H.set o (.rows size (rs.take len++src))) /\
    ∀o',H o'=none->K (.osl o' size 0 (len+l'' src)) (H.set o' (.rows size (rs.take len++src)))
  | .osl o s (off+1) len=>s=size/\roomFor len src.length bytes/\∃rs,H o=some (.rows size rs)/\off+1+len<=l'' rs /\
    K (.osl o size (off+1) (len+l'' src)) (H.set o (.rows size (rs.take (off+1+len)++src))) /\
    ∀o',H o'=none->K (.osl o' size 0 (len+l'' src)) (H.set o' (.rows size ((rs.drop (off+1)).take len++src)))
  |_=>False
def cD(op:POp)(F:PF)(H:PH)(K:R_):Prop:=
 match op with
 | .store n p x=>match p.ev F,x.ev F with
  |some a,some v=>l'' v.cells=n/\∃H',storeAt H a v.cells=some H'/\K .junk H'
  |_,_=>False
 | .append size bytes x y=>match x.ev F,y.ev F with
  |some a,some b=>mJ H size bytes a b K
  |_,_=>False
 | .atH sh x k v=>match x.ev F,k.ev F,v.ev F with
  |some (.map o),some u,some w=>match H o,keyOf sh u with
   |some (.map l g),some i=>l=sh/\K .junk (H.set o (.map sh (g.upd i w)))
   |_,_=>False
  |_,_,_=>False
 | .insert sh x k v=>match x.ev F,k.ev F,v.ev F with
  |some (.map o),some u,some w=>match H o,keyOf sh u with
   |some (.map l g),some i=>l=sh/\g i=none/\K .junk (H.set o (.map sh (g.upd i w)))
   |_,_=>False
  |_,_,_=>False
 |_=>False
def PV.cZ(o s:Nat)(rs:P2_):PV->PV
 | .osl q s' off len=>if q=o then(if s'=s/\off+len<=rs.length then .sl s ((rs.drop off).take len)else .junk)else .osl q s' off len
 |v=>v
def PV.rG(o s:Nat)(rs:P2_):PV->PV
 | .agg cs=>.agg (cs.map (PV.cZ o s rs))
 |v=>v.cZ o s rs
def PV.frz(o s:Nat)(rs:P2_):PV->PV
 | .tup vs=>.tup (vs.map (PV.rG o s rs))
 |v=>v.rG o s rs
def aW.frz(o s:Nat)(rs:P2_):aW->aW
 | .rows s' rs'=>.rows s' (rs'.map λr=>r.map (PV.cZ o s rs))
 |x=>x
def PF.frz(F:PF)(o s:Nat)(rs:P2_):PF:=λi=>(F i).map (PV.frz o s rs)
def PH.frz(H:PH)(o s:Nat)(rs:P2_):PH:=
 ⟨λq=>if q=o then none else(H q).map (aW.frz o s rs),by
  obtain⟨n,i⟩:=H.fin;exact⟨n,λq l=>by simp[i q l]⟩⟩
inductive jI:PF->PH->K_
 |refl (F:PF) (H:PH):jI F H F H
 |step {F F':PF} {H H':PH} (o:Nat) {s:Nat} {rs:P2_} (ho:H o=some (.rows s rs)) (h:jI (F.frz o s rs) (H.frz o s rs) F' H'):jI F H F' H'
structure Ctx where
 P:Program
 num:Nat->FuncId
inductive fS (E:Env):V_->List Value->Prop
 |nil:fS E [] []
 |cons {p:PV} {v:Value} {ps:V_} {vs:List Value} (h:bE E p v) (t:fS E ps vs):fS E (p::ps) (v::vs)
def aG(C:Ctx)(name:Nat)(args:V_)(H:PH)(R:R_):Prop:=
 (∃fn,C.P.funcs[C.num name]?=some fn/\fn.body.isSome=true/\(fn.name=="runtime.NumGoroutine")=false) /\
 ∀(E:Env)(w:World)(vs:Array Value),E.num=C.num->bZ E H w->fS E args vs.toList ->
  Calls C.P (C.num name) vs w λe l=>∃v pv i H',e=.returned v/\bZ i H' l/\bE i pv v/\Ext E H w i H' l/\R pv H'
def KJ(C:Ctx)(l:Nat)(args:V_)(H:PH)(R:R_):Prop:=
 ∀(E:Env)(w:World)(vs:Array Value),E.num=C.num->bZ E H w->fS E args vs.toList ->
  ∃fn u i body,(Instr.yield l vs).run C.P w=.ok (.round l fn u i body) w/\RoundIn Fence.wide 0 C.P l fn u i body w λe A=>∃v pv y H',e=.returned v/\bZ y H' A/\bE y pv v/\Ext E H w y H' A/\R pv H'
def PV.Xe:PV->O_
 | .lit (.func (.yield l) f c)=>if f=#[]/\c=#[]then some l else none
 |_=>none
abbrev CC(l:Nat):PV:=.lit (.func (.yield l) #[] #[])
inductive lE where
 |normal
 |exit (id:Nat)
 |ret
abbrev cH:=lE->K_
def PF.put(F:PF)(d:O_)(v:PV):PF:=
 match d with
 |some d=>F.set d v
 |none=>F
def vJ(r:Option PV)(d:O_)(K:K_)(F:PF)(H:PH):Prop:=∃v,r=some v/\K (F.put d v) H
def oG(r:Option ((Nat->PV) × aW))(d:O_)(K:K_)(F:PF)(H:PH):Prop:=
 ∃i x,r=some (i,x)/\∀o,H o=none->K (F.put d (i o)) (H.set o x)
def oX(H i H':PH):Prop:=∀o x,H' o=some x->i o=none->H o=none
def tQ(C:Ctx)(name:Nat)(args:Option V_)(d:O_)(K:K_)(F:PF)(H:PH):Prop:=
 ∃vs i R,args=some vs/\i.le H/\aG C name vs i R/\∀r H',R r H'->oX H i H'->K (F.put d r) (H.over i H')
def iW(C:Ctx)(name:Nat)(args:List aP)(cs:V_)(d:O_)(K:K_)(F:PF)(H:PH):Prop:=
 tQ C name ((aP.evs F args).map (·++cs)) d K F H \/
 ∃i l,jI F H i l/\tQ C name ((aP.evs i args).map (·++cs)) d K i l
def QY(C:Ctx)(l:Nat)(args:Option V_)(d:O_)(K:K_)(F:PF)(H:PH):Prop:=
 ∃vs i R,args=some vs/\i.le H/\KJ C l vs i R/\∀r H',R r H'->oX H i H'->K (F.put d r) (H.over i H')
def Ns(C:Ctx)(l:Nat)(args:List aP)(d:O_)(K:K_)(F:PF)(H:PH):Prop:=
 QY C l (aP.evs F args) d K F H\/∃i u,jI F H i u/\QY C l (aP.evs i args) d K i u
def uP(C:Ctx)(v:Option PV)(args:List aP)(d:O_)(K:K_)(F:PF)(H:PH):Prop:=
 match v with
 |some (.fn name cs)=>iW C name args cs d K F H
 |some (.lit u)=>∃l,PV.Xe (.lit u)=some l/\Ns C l args d K F H
 |_=>False
def POp.iO:POp->Bool
 | .alloc _ | .box false _ | .asV false .. | .asX .. | .atX _=>true
 |_=>false
def POp.eR:POp->Bool
 | .store .. | .append .. | .atH .. | .insert ..=>true
 |_=>false
def wpOp(C:Ctx)(op:POp)(d:O_)(K:K_)(F:PF)(H:PH):Prop:=
 match op with
 | .call name args=>iW C name args [] d K F H
 | .atT x args=>uP C (x.ev F) args d K F H
 |op=>if op.iO then oG (cS op F) d K F H else if op.eR then cD op F H (λr H'=>K (F.put d r) H')else vJ (aZ op F H) d K F H
def wpOps(C:Ctx):List bY->(K_)->K_
 |[],K,F,H=>K F H
 |i::rest,K,F,H=>match i.guard with
  |none=>wpOp C i.op i.dst (wpOps C rest K) F H
  |some (t,l)=>match F t with
   |some (.bool b)=>if b=l then wpOp C i.op i.dst (wpOps C rest K) F H else wpOps C rest K (F.put i.dst (.tup [])) H
   |some (.tup [])=>wpOps C rest K (F.put i.dst (.tup [])) H
   |_=>False
def PH.only(H:PH)(D:N_):PH:=
 ⟨λo=>if o∈D then H o else none,by
  obtain⟨n,i⟩:=H.fin;exact⟨n,λo l=>by simp[i o l]⟩⟩
abbrev Spec:=Nat->V_->Option (N_ × (PH->R_))
inductive Kind where
 |fail
 |calm (f:PH->Option PV)
 |new (r:Option ((Nat->PV) × aW))
 |write (w:PH->(R_)->Prop)
 |call (name:Nat) (args:Option V_)
 |ins (r:Option (Nat × MSh × List KS × PV))
noncomputable def POp.kind(op:POp)(F:PF):Kind:=
 match op with
 | .call name args=>.call name (aP.evs F args)
 | .atT x args=>match x.ev F with
  |some (.fn name cs)=>.call name ((aP.evs F args).map (·++cs))
  |_=>.fail
 | .insert sh x k v=>.ins (match x.ev F,k.ev F,v.ev F with
  |some (.map o),some l,some u=>(keyOf sh l).map λi=>(o,sh,i,u)
  |_,_,_=>none)
 |op=>if op.iO then .new (cS op F)else if op.eR then .write (λH K=>cD op F H K)else .calm (aZ op F)
noncomputable def bY.kind(i:bY)(F:PF):Kind:=
 match i.guard with
 |none=>i.op.kind F
 |some (t,l)=>match F t with
  |some (.bool b)=>if b=l then i.op.kind F else .calm (λ_=>some (.tup []))
  |some (.tup [])=>.calm (λ_=>some (.tup []))
  |_=>.fail
def Kind.run(C:Ctx)(Hs:PH)(S:Spec)(st:Bool)(k:Kind)(K:R_)(H:PH):Prop:=
 match k with
 | .fail=>False
 | .calm f=>∃v,f (if st then Hs else H)=some v/\K v H
 | .new r=>∃l x,r=some (l,x)/\∀o,H o=none->K (l o) (H.set o x)
 | .write w=>w H λr H'=>Hs.le H'/\K r H'
 | .ins r=>∃o sh i v g,r=some (o,sh,i,v)/\H o=some (.map sh g)/\g i=none/\Hs o=none/\K .junk (H.set o (.map sh (g.upd i v)))
 | .call name args=>∃vs D R,args=some vs/\S name vs=some (D,R)/\(∀o∈D,∃x,H o=some x)/\aG C name vs (H.only D) (R (H.only D)) /\
   (∀G:PH,∃r H',R (H.only D) r H'/\oX G (H.only D) H') /\
   ∀r H',R (H.only D) r H'->oX H (H.only D) H'->Hs.le (H.over (H.only D) H')/\K r (H.over (H.only D) H')
def wpD(C:Ctx)(Hs:PH)(S:Spec):List (bY × Bool)->(K_)->K_
 |[],K,F,H=>K F H
 |i::rest,K,F,H=>(i.1.kind F).run C Hs S i.2 (λv H'=>wpD C Hs S rest K (F.put i.1.dst v) H') H
def jB(C:Ctx)(w:cH->K_)(K:cH):cH
 | .normal,F,H=>w K F H
 |e,F,H=>K e F H
def fX(id:Nat)(K:cH):cH
 | .exit i,F,H=>if i=id then K .normal F H else K (.exit i) F H
 |e,F,H=>K e F H
def iF{α:Type}(u:α->PF)(Hs:α->PH)(w:α->Prop)(m:α->Nat)(n:Nat)(K:cH):cH
 | .normal,F,H=>∃a i l,jI F H i l/\w a/\m a<n/\(u a).le i/\(Hs a).le l
 |e,F,H=>K e F H
def aK.wp(C:Ctx):aK->cH->K_
 | .skip,K,F,H=>K .normal F H
 | .region ops,K,F,H=>wpOps C ops (K .normal) F H
 | .draw ops,K,F,H=>∃Hs S,PH.le Hs H/\wpD C Hs S ops (K .normal) F H
 | .seq a b,K,F,H=>a.wp C (jB C (b.wp C) K) F H
 | .cond c a b,K,F,H=>match c.ev F with
  |some (.bool t)=>if t then a.wp C K F H else b.wp C K F H
  |_=>False
 | .block id c,K,F,H=>c.wp C (fX id K) F H
 | .loop c,K,F,H=>∃(α:Type)(i:α->PF)(Hs:α->PH)(l:α->Prop)(m:α->Nat)(u:α)(w:PF)(y:PH),jI F H w y/\l u/\(i u).le w/\(Hs u).le y /\
   ∀a,l a->c.wp C (iF i Hs l m (m a) K) (i a) (Hs a)
 | .exit id,K,F,H=>K (.exit id) F H
 | .ret,K,F,H=>K .ret F H
def dZ.ev(F:PF)(H:PH):dZ->Option PV
 | .tmp t=>F t
 | .cell t none=>match F t with
  |some p=>match loadCells H p 1 with
   |some [v]=>some v
   |_=>none
  |none=>none
 | .cell t (some k)=>match F t with
  |some p=>(loadCells H p k).map .agg
  |none=>none
def dZ.evs(F:PF)(H:PH):List dZ->Option V_
 |[]=>some []
 |r::rs=>match r.ev F H,dZ.evs F H rs with
  |some v,some vs=>some (v::vs)
  |_,_=>none
def bO:V_->PV
 |[v]=>v
 |vs=>.tup vs
def aX(res:List dZ)(R:R_):cH
 | .exit _,_,_=>False
 |_,F,H=>∃vs,dZ.evs F H res=some vs/\∃i l H2,jI (PF.nil.set 0 (bO vs)) H i l/\H2.le l/\∃v,i 0=some v/\R v H2
def PF.args(vs:V_):PF:=λi=>vs[i]?
structure Tbl where
 P:Program
 num:Nat->FuncId
 name:FuncId->O_
 ro:N_:=[]
def ofValue:Value->Option PV
 | .int k n=>some (.int k n)
 | .bool b=>some (.bool b)
 | .string s=>some (.str s.data.toList)
 | .slice none 0 0=>some .aE
 | .pointer none=>some (.lit (.pointer none))
 | .map none=>some (.lit (.map none))
 | .nilIface=>some (.lit .nilIface)
 | .nilFunc=>some (.lit .nilFunc)
 |_=>none
theorem AU{E:Env}{v:Value}{pv:PV}(h:ofValue v=some pv):bE E pv v:=by
 unfold ofValue at h;split at h<;>cases h
 ·exact .int _ _
 ·exact .bool _
 ·exact .str _
 ·exact .aE
 all_goals exact .lit _
def ofValues:List Value->Option V_
 |[]=>some []
 |v::vs=>match ofValue v,ofValues vs with
  |some p,some ps=>some (p::ps)
  |_,_=>none
namespace Tbl
variable (T:Tbl)
def opd:Operand->Option aP
 | .tmp t=>some (.tmp t)
 | .const v=>(ofValue v).map .const
 | .func f=>match T.name f with
  |some n=>if T.num n=f then some (.const (.fn n []))else none
  |none=>none
 | .global _=>none
def gz:List Operand->Option (List aP)
 |[]=>some []
 |x::xs=>match T.opd x,gz xs with
  |some p,some ps=>some (p::ps)
  |_,_=>none
def size(t:TypeId):O_:=(T.P.info? t).map (·.size)
def isAgg(t:TypeId):Option Bool:=
 match T.P.underlying t with
 |some (.struct _)|some (.array _ _)=>some true
 |some _=>some false
 |none=>none
def zero(t:TypeId):Option V_:=((T.P.info? t).bind (·.zero)).bind λz=>ofValues z.cells.toList
def scalar(t:TypeId):Option Sc:=
 match T.P.underlying t with
 |some (.int _)=>some .int
 |some .bool=>some .bool
 |some .string=>some .str
 |_=>none
def wD:Nat->List Field->Option (List Sc)
 |_,[]=>some []
 |k,f::i=>match T.scalar f.type,wD (k+1) i with
  |some c,some cs=>if f.name≠"_"/\f.offset=k then some (c::cs)else none
  |_,_=>none
def flat(t:TypeId):Option (List Sc):=
 match T.P.underlying t with
 |some (.struct i)=>if T.P.stoodInHeld t=false/\T.P.eqGuardType T.P.depth t=false then T.wD 0 i.toList else none
 |_=>none
def EQ(t:TypeId):Option KSh:=
 match T.P.underlying t with
 |some (.int k)=>some (.int k)
 |some .bool=>some .bool
 |some .string=>some .str
 |_=>none
def oH:Nat->List Field->Option (List KSh)
 |_,[]=>some []
 |k,f::i=>match T.EQ f.type,oH (k+1) i with
  |some c,some cs=>if f.name≠"_"/\f.offset=k then some (c::cs)else none
  |_,_=>none
def oT(t:TypeId):Option MSh:=
 match T.P.underlying t with
 |some (.struct i)=>if T.P.stoodInHeld t=false then(T.oH 0 i.toList).map λl=>(true,l)else none
 |_=>(T.EQ t).map λc=>(false,[c])
def opt(x:Option Operand):Option (Option aP):=
 match x with
 |none=>some none
 |some x=>(T.opd x).map some
def place(l:Array Field)(i:Nat):Option (Nat × Nat):=
 match l[i]? with
 |some f=>(T.size f.type).map (f.offset,·)
 |none=>none
def partsOf(place:Nat->Option (Nat × Nat)):List (Nat × Operand)->Option (List (Nat × Nat × aP))
 |[]=>some []
 |(i,x)::rest=>match place i,T.opd x,partsOf place rest with
  |some (off,size),some p,some ps=>some ((off,size,p)::ps)
  |_,_,_=>none
def wV:List (Nat × Operand)->Option (List (Nat × aP))
 |[]=>some []
 |(i,x)::rest=>match T.opd x,wV rest with
  |some p,some ps=>some ((i,p)::ps)
  |_,_=>none
def wh(d:Option Tmp):Bool:=
 match d with
 |some d=>T.ro.contains d
 |none=>false
def call(o:Oper)(c:Call):Option POp:=
 match c.callee with
 | .builtin b=>match b,c.args.toList,c.argTypes.toList with
  | .len,[x],[t]=>match T.P.underlying t with
   |some (.array n _)=>some (.mv (.const (.int .i64 n)))
   |some .string=>(T.opd x).map .atQ
   |some (.slice _)=>(T.opd x).map .len
   |some (.map _ _)=>(T.opd x).map .lenM
   |_=>none
  | .append,[x,y],[t,u]=>match T.P.underlying t,T.P.underlying u with
   |some (.slice e),some (.slice _)=>match T.P.info? e,T.opd x,T.opd y with
    |some i,some a,some b=>if t=u/\i.zero.isSome/\(i.zero.map (·.cells.size))=some i.size/\0<i.size then some (.append i.size i.bytes a b)else none
    |_,_,_=>none
   |_,_=>none
  | .cap,[x],[t]=>match T.P.underlying t with
   |some (.slice _)=>(T.opd x).map .auC
   |_=>none
  | .max,[x,y],_=>match T.opd x,T.opd y with
   |some a,some b=>some (.atK true a b)
   |_,_=>none
  | .min,[x,y],_=>match T.opd x,T.opd y with
   |some a,some b=>some (.atK false a b)
   |_,_=>none
  |_,_,_=>none
 | .value (.func f)=>match T.name f,T.gz c.args.toList with
  |some n,some xs=>if T.num n=f then some (.call n xs)else none
  |_,_=>none
 | .value (.tmp t)=>(T.gz c.args.toList).map (.atT (.tmp t))
 |_=>none
def op(o:Oper):Option POp:=
 match o.op with
 | .move x | .assign x=>(T.opd x).map .mv
 | .pick c a b=>match T.opd c,T.opd a,T.opd b with
  |some c,some a,some b=>some (.pick c a b)
  |_,_,_=>none
 | .alloc e=>(T.zero e).map .alloc
 | .box _ x=>(T.opd x).map (.box (T.wh o.dst))
 | .build t parts=>match T.zero t,T.P.underlying t with
  |some z,some (.struct A)=>if(A.toList.mapM (λf=>(T.P.info? f.type).map λi=>(f.offset,i.size))).isSome then
    (T.partsOf (T.place A) parts.toList).map (.build z)
   else none
  |some z,some (.array _ e)=>match T.size e with
   |some s=>(T.partsOf (λi=>some (i*s,s)) parts.toList).map (.build z)
   |none=>none
  |_,_=>none
 | .buildSlice t len parts=>match T.P.underlying t with
  |some (.slice e)=>match T.size e,T.zero e,T.wV parts.toList with
   |some s,some z,some ps=>if z.length=s/\0<s then some (.asV (T.wh o.dst) s len z ps)else none
   |_,_,_=>none
  |_=>none
 | .load t a=>match T.isAgg t,T.size t,T.opd a with
  |some true,some n,some p=>some (.load (some n) p)
  |some false,_,some p=>some (.load none p)
  |_,_,_=>none
 | .store t a x=>match T.size t,T.opd a,T.opd x with
  |some n,some p,some v=>some (.store n p v)
  |_,_,_=>none
 | .nilCheck x=>(T.opd x).map .atC
 | .binOp b t x y _=>match T.opd x,T.opd y with
  |some p,some q=>match b with
   | .eql=>match T.P.underlying t with
    |some (.int _)|some .string=>some (.bin .eql p q)
    |some .bool=>some (.eqb false p q)
    |some (.struct _)=>(T.flat t).map λF=>.eqs false F p q
    |some (.slice _)=>match q with
     | .const .aE=>some (.isNil false p)
     |_=>none
    |_=>none
   | .neq=>match T.P.underlying t with
    |some (.int _)|some .string=>some (.bin .neq p q)
    |some .bool=>some (.eqb true p q)
    |some (.struct _)=>(T.flat t).map λF=>.eqs true F p q
    |some (.slice _)=>match q with
     | .const .aE=>some (.isNil true p)
     |_=>none
    |_=>none
   |b=>some (.bin b p q)
  |_,_=>none
 | .unOp u _ x=>(T.opd x).map (.un u)
 | .convert s d x=>match T.P.underlying s,T.P.underlying d,T.opd x with
  |some (.int _),some (.int k),some p=>some (.conv k p)
  |some .string,some .string,some p=>some (.same p)
  |some (.slice e),some .string,some p=>match T.P.underlying e with
   |some (.int .u8)=>some (.atD p)
   |_=>none
  |_,_,_=>none
 | .makeFunc (.func f) first captured=>match T.name f,T.gz captured.toList with
  |some n,some cs=>if T.num n=f/\first.size=0 then some (.mkfn n cs)else none
  |_,_=>none
 | .makeMap t none=>match T.P.underlying t with
  |some (.map k _)=>(T.oT k).map .atX
  |_=>none
 | .lookup t x k ok=>match T.P.underlying t with
  |some (.map E H)=>match T.oT E,(T.P.info? H).bind (·.zero),T.opd x,T.opd k with
   |some sh,some z,some p,some q=>(ofValue z).map λz=>.lookup sh z p q ok
   |_,_,_,_=>none
  |_=>none
 | .mapUpdate t x k v=>match T.P.underlying t with
  |some (.map E _)=>match T.oT E,T.opd x,T.opd k,T.opd v with
   |some sh,some p,some q,some r=>some (.atH sh p q r)
   |_,_,_,_=>none
  |_=>none
 | .insert t x k v=>match T.P.underlying t with
  |some (.map E _)=>match T.oT E,T.opd x,T.opd k,T.opd v with
   |some sh,some p,some q,some r=>some (.insert sh p q r)
   |_,_,_,_=>none
  |_=>none
 | .makeSlice t l c=>match T.P.underlying t with
  |some (.slice e)=>match T.P.info? e,T.zero e,T.opd l,T.opd c with
   |some i,some z,some a,some b=>if z.length=i.size/\0<i.size then some (.asX i.size i.bytes z a b)else none
   |_,_,_,_=>none
  |_=>none
 | .slice t x lo hi mx=>match T.P.underlying t,T.opd x,T.opt lo,T.opt hi,T.opt mx with
  |some (.slice e),some p,some l,some h,some m=>if mx.isSome=true/\hi.isNone=true then none else(T.size e).map λs=>.slice s p l h m
  |some .string,some p,some l,some h,some none=>some (.atM p l h)
  |some (.array n e),some p,some none,some none,some none=>(T.size e).map λs=>.sliceA n s p none none none
  |_,_,_,_,_=>none
 | .fieldAddr t x f=>match T.P.underlying t,T.opd x with
  |some (.struct A),some p=>match A[f]? with
   |some w=>match T.size w.type with
    |some (_+1)=>some (.atU w.offset p)
    |_=>none
   |none=>none
  |_,_=>none
 | .field t x f=>match T.P.underlying t,T.opd x with
  |some (.struct A),some p=>match A[f]? with
   |some w=>match T.isAgg w.type,T.size w.type with
    |some true,some n=>some (.field w.offset (some n) p)
    |some false,_=>some (.field w.offset none p)
    |_,_=>none
   |none=>none
  |_,_=>none
 | .indexAddr t x i=>match T.P.underlying t,T.opd x,T.opd i with
  |some (.slice e),some p,some q=>(T.size e).map λs=>.atG s p q
  |some (.array n e),some p,some q=>(T.size e).map λs=>.idxA n s p q
  |_,_,_=>none
 | .index t x i=>match T.P.underlying t,T.opd x,T.opd i with
  |some (.array n e),some p,some q=>match T.size e,T.isAgg e with
   |some s,some g=>some (.idxV n s g p q)
   |_,_=>none
  |some .string,some p,some q=>some (.atS p q)
  |_,_,_=>none
 | .extract x i=>(T.opd x).map (.extract · i)
 | .call c=>T.call o c
 |_=>none
def XN(n:Nat)(ops:Array Oper)(o:Oper):Option bY:=
 let p:=(T.op o).getD .stuck
 if o.dst.all (·<n)then
  match o.guard with
  |none=>some ⟨o.dst,p,none⟩
  |some (j,i)=>match(ops[j]?).bind (·.dst)with
   |some t=>some ⟨o.dst,p,some (t,i)⟩
   |none=>none
 else none
def vE(n:Nat)(ops:Array Oper):List Oper->Option (List bY)
 |[]=>some []
 |o::os=>match T.XN n ops o,vE n ops os with
  |some i,some l=>some (i::l)
  |_,_=>none
end Tbl
end Go.PM
namespace Go.PM
open Go
structure eP(ds:List Deferred)(n:Nat)(E:Env)(F:PF)(a:Act):Prop where
 size:a.tmps.size=n
 defers:a.defers=ds
 t:∀i pv,F i=some pv->bE E pv (a.tmps.getD i undef)
theorem eP.mono{ds:List Deferred}{n:Nat}{E l:Env}(h:E.le l){F:PF}{a:Act}(r:eP ds n E F a):eP ds n l F a:=⟨r.size,r.defers,λi pv hi=>(r.t i pv hi).mono h⟩
theorem eP.weaken{ds:List Deferred}{n:Nat}{E:Env}{F l:PF}{a:Act}(r:eP ds n E F a)(h:l.le F):eP ds n E l a:=⟨r.size,r.defers,λi pv hi=>r.t i pv (h i pv hi)⟩
theorem eP.put{ds:List Deferred}{n:Nat}{E:Env}{F:PF}{a:Act}(r:eP ds n E F a){d:Option Tmp}(u:d.all (·<n)=true){pv:PV}{v:Value}(h:bE E pv v):eP ds n E (F.put d pv) (a.put d v):=by
 cases d with
 |none=>exact r
 |some d=>
  have l:d<n:=by simpa using u
  refine⟨by simp[Act.put,r.size],by simp[Act.put,r.defers],λi y hi=>?_⟩;simp only[PF.put,PF.set,upd]at hi;split at hi;rename_i e;subst e;cases hi;simp only[Act.put,ayQ];rw[Array.getElem?_setIfInBounds];simp[r.size,l,h];rename_i e;have:=r.t i y hi;simp only[Act.put,ayQ]at this ⊢;rw[Array.getElem?_setIfInBounds,aB Om];exact this
section
variable {ds:List Deferred} {T:Tbl} {n:Nat} {E:Env} {F:PF} {H:PH} {a:Act} {w:World}
theorem bK{x:Operand}{p:aP}{pv:PV}(i:T.opd x=some p)(l:p.ev F=some pv)(u:eP ds n E F a)(y:E.num=T.num):bE E pv (a.eval x):=by
 cases x with
 |tmp t =>simp[Tbl.opd]at i;subst i;exact u.t t pv l
 |const v =>simp only[Tbl.opd,auR]at i;obtain⟨q,J,rfl⟩:=i;simp[aP.ev]at l;subst l;exact AU J
 |global g=>simp[Tbl.opd]at i
 |func f =>simp only[Tbl.opd]at i;split at i;rename_i m K;split at i;rename_i A;cases i;simp[aP.ev]at l;subst l;have:=bE.fn (E:=E) (name:=m) (captured:=[]) #[] rfl (by intro j pv v h;simp at h);rw[y,A]at this;exact this;cases i;cases i
theorem DP{xs:List Operand}:∀{ps:List aP}{i:V_},T.gz xs=some ps->aP.evs F ps=some i->eP ds n E F a->E.num=T.num->fS E i (xs.map a.eval):=by
 induction xs with
 |nil =>intro ps i l u _ _;simp[Tbl.gz]at l;subst l;simp[aP.evs]at u;subst u;exact .nil
 |cons x xs N =>intro ps i l u J K;simp only[Tbl.gz]at l;split at l;rename_i p O hp y;cases l;simp only[aP.evs]at u;split at u;rename_i v vs M A;cases u;exact .cons (bK hp M J K) (N y A J K);cases u;cases l
theorem bZ.L0(hW:bZ E H w){b off:Nat}{u:Value}(h:E.cell b off=some u):w.cell? ⟨b,off,none⟩=some u:=by
 unfold Env.cell at h;cases i:E.G b with
 |none=>simp[i]at h
 |some cs =>obtain⟨-,ty,fr,l⟩:=hW.g b cs i;rw[cell_of_row w b off cs ty fr l];simpa[i]using h
theorem add_plain(b off i:Nat):(⟨b,off,none⟩:Addr).add i=⟨b,off+i,none⟩:=by unfold Addr.add;split<;>simp_all
theorem rC{i:Addr}(h:i.spot=none):i=⟨i.block,i.off,none⟩:=by cases i;simp_all
theorem sQ{pv:PV}{v:Value}(hW:bZ E H w)(hv:bE E pv v){k:Nat}{cs:V_}(h:loadCells H pv k=some cs) :
  ∃b off,v=.pointer (some ⟨b,off,none⟩)/\l'' cs=k/\∃Q:List Value,l'' Q=k/\(∀u∈Q,u.oneCell'=true) /\
   (∀(j:Nat) u,Q[j]?=some u->w.cell? ⟨b,off+j,none⟩=some u)/\∀(j:Nat) q u,cs[j]?=some q->Q[j]?=some u->bE E q u:=by
 unfold loadCells at h;split at h;rename_i o size i c;cases hv;split at h;rename_i s rs ho;split at h;rename_i hs;subst hs;split at h;rename_i r V;split at h;rename_i γ;cases h;obtain⟨-,K,ty,hh,ε,β,α,S⟩:=hW.h o _ ho;have N:∀j,j<k->∃u,K[i*s+(c+j)]?=some u/\u.oneCell'=true/\bE E (r.getD (c+j) .junk) u:=by intro j hj;refine S i (c+j) _ ?_;simp only[at2,V,ayE,auM];rw[auP Om];rfl
 refine⟨o,i*s+c,rfl,by simp;omega,?_⟩;refine⟨(auE k).map λj=>(K[i*s+(c+j)]?).getD undef,by simp,?_,?_,?_⟩;intro u A;simp only[auT,avM]at A;obtain⟨j,hj,rfl⟩:=A;obtain⟨u,M,h2,-⟩:=N j hj;simp[M,h2];intro j u A;simp only[avC,auR]at A;obtain⟨Y,l,rfl⟩:=A;have y:j<k:=by
  rcases avF j k with h|h
  exact h;rw[avZ (by simpa using h)]at l;cases l
 rw[List.getElem?_range y]at l;cases l;obtain⟨u,M,-,-⟩:=N j y;rw[cell_of_row w o _ K ty (0,0) hh,axG,M];rfl;intro j q u O A;simp only[avC,auR]at A;obtain⟨Y,l,rfl⟩:=A;have y:j<k:=by
  rcases avF j k with h|h
  exact h;rw[avZ (by simpa using h)]at l;cases l
 rw[List.getElem?_range y]at l;cases l;obtain⟨u,M,-,h3⟩:=N j y;have U:r.getD (c+j) .junk=q:=by rw[axZ,aD y,ayT]at O;simp[O]
 rw[<-U,M];exact h3;cases h;cases h;cases h;cases h
 ·rename_i cells;cases hv with
  |bQ u W S M V=>
  rename_i Z;split at h;rename_i δ;cases h;refine⟨Z.block,Z.off,by rw[<-rC W],by simp;omega,(auE k).map u,by simp,?_,?_,?_⟩;intro x J;simp only[auT]at J;obtain⟨j,-,rfl⟩:=J;exact M j;intro j x J;simp only[avC,auR]at J;obtain⟨Y,l,rfl⟩:=J;have y:j<k:=by
   rcases avF j k with h|h
   exact h;rw[avZ (by simpa using h)]at l;cases l
  rw[List.getElem?_range y]at l;cases l;exact hW.L0 (S j _ (auP Om));intro j q x O J;simp only[avC,auR]at J;obtain⟨Y,l,rfl⟩:=J;have y:j<k:=by
   rcases avF j k with h|h
   exact h;rw[avZ (by simpa using h)]at l;cases l
  rw[List.getElem?_range y]at l;cases l;rw[axZ,aD y]at O;exact V j q O;cases h
 cases h
theorem Sy {op : BinOp} {px py pv : PV} {x y : Value} (hx : bE E px x) (hy : bE E py y) (h : PV.bin op px py = some pv) (t : TypeId) (ox oy : Operand) :
    ∃ v, (do eqGuard op t ox oy x y; binOp op t x y : Sem Value).run T.P w = .ok v w /\ bE E pv v := by
  unfold PV.bin at h;split at h
  · cases hx; cases hy
    unfold shift at h;split at h
    · cases h
    · rename_i hb
      cases h;exact ⟨_, by simp [eqGuard, binOp, Op.shift, hb], .int _ _⟩
  · cases hx; cases hy
    unfold shift at h;split at h
    · cases h
    · rename_i hb
      cases h;exact ⟨_, by simp [eqGuard, binOp, Op.shift, hb], .int _ _⟩
  · rename_i op' k a k' b n1 n2
    cases hx; cases hy;split at h
    · rename_i hk
      subst hk;cases op <;> simp only [nP] at h <;>
        first
          | (cases h; refine ⟨_, ?_, bE.int _ _⟩; simp [eqGuard, binOp, Op.intArith, Op.intBits]; done)
          | (cases h; refine ⟨_, ?_, bE.bool _⟩; simp [eqGuard, binOp, Op.intCmp]; done)
          | (split at h
             · cases h
             · rename_i hb
               cases h;refine ⟨_, ?_, bE.int _ _⟩;simp [eqGuard, binOp, Op.intDiv, hb])
          | cases h
    · cases h
  · rename_i op' a b
    cases hx with
    | str s =>
    cases hy with
    | str s' =>
    cases op <;> simp only [KM] at h <;>
      first
        | (cases h; refine ⟨_, ?_, bE.bool _⟩; simp [eqGuard, binOp, Op.stringOp, ByteArray.toList_eq]; done)
        | (split at h
           · cases h
           · rename_i hb
             cases h;refine ⟨.string (s ++ s'), ?_, ?_⟩
             · have hb' : ¬ (((s.size + s'.size : Nat) : Int) > IntKind.i64.max) := by
                 intro hh;apply hb;have e1 : s.data.toList.length = s.size := by rw [axV]; rfl
                 have e2 : s'.data.toList.length = s'.size := by rw [axV]; rfl
                 rw [e1, e2];exact hh
               have e1 : Op.stringOp .add s s' = pure (.string (s ++ s')) := by unfold Op.stringOp; exact aB hb'
               have e2 : binOp .add t (.string s) (.string s') = pure (.string (s ++ s')) := by unfold binOp; exact e1
               simp [eqGuard, e2]
             · have e : s.data.toList ++ s'.data.toList = (s ++ s').data.toList := by rw [ByteArray.data_append, Array.toList_append]
               rw [e];exact .str _)
        | cases h
  · cases h
theorem abU{u:UnOp}{l pv:PV}{x:Value}(i:bE E l x)(h:PV.un u l=some pv):∃v,(Op.unary u x).run T.P w=.ok v w/\bE E pv v:=by
 unfold PV.un at h;split at h;cases i;split at h;cases h;exact⟨_,by simp[Op.unary,Op.intArith],.int _ _⟩;cases h;exact⟨_,by simp[Op.unary,Op.intBits],.int _ _⟩;cases h;cases i;split at h;cases h;exact⟨_,by simp[Op.unary],.bool _⟩;cases h;cases h
end
open Go Go.RowKit
def Yields(P:Program)(E:Env)(H:PH)(w:World)(s:Sem Value)(pv:PV):Prop:=
 ∃v l i,s.run P w=.ok v l/\bE i pv v/\bZ i H l/\Ext E H w i H l
theorem Yields.same{P:Program}{E:Env}{H:PH}{w:World}{s:Sem Value}{pv:PV}{v:Value}(hW:bZ E H w)(h:s.run P w=.ok v w)(r:bE E pv v):Yields P E H w s pv:=
 ⟨v,w,E,h,r,hW,.refl E H w⟩
def Env.add(E:Env)(b:Nat)(cs:Array Value):Env:=⟨upd E.G b (some cs),upd E.sz b (some cs.size),E.num⟩
section
variable {T:Tbl} {n:Nat} {E:Env} {F:PF} {H:PH} {a:Act} {w:World}
theorem bZ.Pb(hW:bZ E H w){b:Nat}{cs:Array Value}(h:E.G b=some cs):b<w.heap.size:=by
 obtain⟨-,ty,fr,i⟩:=hW.g b cs h;exact(ayF.1 i).1
theorem bZ.I8(hW:bZ E H w){b n:Nat}(h:E.sz b=some n):b<w.heap.size:=by
 obtain⟨i,ty,fr,l,-⟩:=hW.s b n h;exact(ayF.1 l).1
theorem bZ.Pp(hW:bZ E H w):H w.heap.size=none:=by
 cases h:H w.heap.size with
 |none=>rfl
 |some x=>have:=(hW.h _ x h).1;omega
theorem Env.ajQ(hW:bZ E H w)(cs:Array Value):E.le (E.add w.heap.size cs):=by
 refine⟨λb ds h=>?_,λb m h=>?_,rfl⟩;have:=hW.Pb h;simp only[Env.add];rw[VX _ _ Om];exact h;have:=hW.I8 h;simp only[Env.add];rw[VX _ _ Om];exact h
theorem bZ.acY(hW:bZ E H w)(cs:Array Value)(ty:TypeId):bZ (E.add w.heap.size cs) H (w.alloc (.cells cs ty))/\Ext E H w (E.add w.heap.size cs) H (w.alloc (.cells cs ty)):=by
 have y:=Env.ajQ hW cs;refine⟨⟨λb ds h=>?_,λo x h=>?_,λo m h=>?_⟩,⟨y,rfl,rfl,rfl,by simp,λb hb _=>Below.heap_alloc w _ b hb,λo x h=>.inl ⟨x,h⟩,λb ds h=>?_⟩⟩;simp only[Env.add,upd]at h;split at h;rename_i e;cases h;subst e;exact⟨λx J=>by(rw[hW.Pp]at J;cases J),ty,(0,0),heap_alloc_new w _⟩;obtain⟨l,i,fr,u⟩:=hW.g b ds h;exact⟨l,i,fr,(Below.heap_alloc w _ b (hW.Pb h)).trans u⟩;obtain⟨l,u⟩:=hW.h o x h;exact⟨by simp;omega,u.mono y (Below.heap_alloc w _ o l)⟩;simp only[Env.add,upd]at h;split at h;rename_i e;cases h;subst e;exact⟨cs,ty,(0,0),heap_alloc_new w _,rfl⟩;obtain⟨A,i,fr,l,u⟩:=hW.s o m h;exact⟨A,i,fr,(Below.heap_alloc w _ o (hW.I8 h)).trans l,u⟩;simp only[Env.add,upd]at h;split at h;rename_i e;exact .inr (.inr Om);exact .inl h
theorem Qr{pv:PV}{v:Value}(h:bE E pv v)(i:pv.one=true):v.oneCell'=true:=by
 cases h with
 |lit v=>cases v<;>first|rfl|(simp[PV.one]at i)
 |junk v=>simp[PV.one]at i
 |agg vs=>simp[PV.one]at i
 |tup vs=>simp[PV.one]at i
 |_=>rfl
theorem BF{pv:PV}{v:Value}(h:bE E pv v)(A:pv.cells.all PV.one=true) :
  v.cells.size=l'' pv.cells/\(∀u∈v.cells.toList,u.oneCell'=true)/\∀(j:Nat) q u,pv.cells[j]?=some q->v.cells[j]?=some u->bE E q u:=by
 by_cases i:∃cs,pv=.agg cs
 ·obtain⟨cs,rfl⟩:=i;cases h with
  |agg vs M l N=>exact⟨M,l,N⟩
 ·have K:pv.cells=[pv]:=by cases pv<;>first|rfl|(exact absurd ⟨_,rfl⟩ i)
  rw[K]at A ⊢;have l:v.oneCell'=true:=Qr h (by simpa using A);have O:v.cells=#[v]:=by cases v<;>first|rfl|(simp[Value.oneCell']at l)
  rw[O];refine⟨rfl,by simpa using l,λj q u y J=>?_⟩;cases j with
  |zero=>simp at y J;subst y;subst J;exact h
  |succ j=>simp at y
theorem y7{c:Sc}{p q:PV}{x y:Value}(u:bE E p x)(A:bE E q y){b:Bool}(h:PV.eq1 c p q=some b){t:TypeId}(i:T.scalar t=some c)(d:Nat) :
  (Op.equalIn (d+1) t x y).run T.P w=.ok b w:=by
 unfold Tbl.scalar at i;unfold PV.eq1 at h;split at h;cases u;cases A;split at h;rename_i e;subst e;cases h;split at i<;>cases i;rename_i k2 l;exact run_equalIn_int w d t _ k2 _ _ l;cases h;cases u;cases A;cases h;split at i<;>cases i;rename_i l;exact run_equalIn_bool w d t _ _ l
 ·cases u with
  |str s=>
  cases A with
  |str s'=>
  cases h;split at i<;>cases i;rename_i l;rw[run_equalIn_string w d t s s' l,ByteArray.toList_eq,ByteArray.toList_eq]
 cases h
theorem PK{t:TypeId}{c:Sc}(l:T.scalar t=some c)(cs:Array Value)(k:Nat)(v:Value)(u:cs[k]?=some v):(part t cs k).run T.P w=.ok v w:=by
 have i:(isAgg t).run T.P w=.ok false w:=by unfold Tbl.scalar at l;split at l<;>cases l<;>(rename_i y;simp[isAgg,run_underlying y])
 simp[part,i,u]
theorem TJ(d:Nat)(vs A:Array Value):∀(J:List Field)(M:List Sc)(k:Nat)(xs ys:V_)(b:Bool),T.wD k J=some M->PV.eqs M xs ys=some b ->
  (∀(j:Nat) q u,xs[j]?=some q->vs[k+j]?=some u->bE E q u)->(∀(j:Nat) q u,ys[j]?=some q->A[k+j]?=some u->bE E q u) ->
  vs.size=k+l'' xs->A.size=k+l'' ys->(Op.eqFields (d+1) vs A J).run T.P w=.ok b w
 |[],M,k,xs,ys,b,l,i,Q,S,U,V=>by simp[Tbl.wD]at l;subst l;cases xs<;>cases ys<;>simp[PV.eqs]at i;subst i;simp[Op.eqFields]
 |f::J,M,k,xs,ys,b,l,i,Q,S,U,V=>by
  simp only[Tbl.wD]at l;split at l;rename_i c cs K O;split at l
  ·rename_i W;cases l;cases xs with
   |nil=>simp[PV.eqs]at i
   |cons x xs=>
   cases ys with
   |nil=>simp[PV.eqs]at i
   |cons y ys=>
   simp only[PV.eqs]at i;simp only[avG]at U V;have hv:vs[k]?=some vs[k]:=ayK Om;have hu:A[k]?=some A[k]:=ayK Om;have Y:bE E x vs[k]:=Q 0 x _ rfl bC;have Z:bE E y A[k]:=S 0 y _ rfl bC;simp only[Op.eqFields];rw[aD W.1];simp only[Sem.run_bind,W.2,PK K vs k _ hv,PK K A k _ hu,Result.andThen_ok];split at i;rename_i N;rw[y7 Y Z N K d];simp only[Result.andThen_ok,auO,awQ,if_false];refine TJ d vs A J cs (k+1) xs ys b O i (λj q u a c=>Q (j+1) q u (by simpa using a) (by rw[<-c];congr 1;omega)) (λj q u a c=>S (j+1) q u (by simpa using a) (by rw[<-c];congr 1;omega)) Om Om;rename_i N;rw[y7 Y Z N K d];simp only[Result.andThen_ok,auY,if_true,Sem.run_pure];split at i;cases i;rfl;cases i;cases i
  cases l;cases l
theorem Tq(neg:Bool)(a b:Bool){t:TypeId}(l u:Operand)(i:T.P.underlying t=some .bool) :
  (do eqGuard (if neg then .neq else .eql) t l u (.bool a) (.bool b);binOp (if neg then .neq else .eql) t (.bool a) (.bool b):Sem Value).run T.P w=.ok (.bool ((a==b) != neg)) w:=by
 cases neg;simp[eqGuard,run_eql_bool w t a b i];simp[eqGuard,run_neq_bool w t a b i]
theorem Ks(neg:Bool){pv:PV}{v:Value}(N:bE E pv v){b:Bool}(hb:pv.vF=some b){t e:TypeId}(y A:Operand)(u:T.P.underlying t=some (.slice e)) :
  (do eqGuard (if neg then .neq else .eql) t y A v (.slice none 0 0);binOp (if neg then .neq else .eql) t v (.slice none 0 0):Sem Value).run T.P w=.ok (.bool (b != neg)) w:=by
 have i:∀(a:Option Addr)(l c:Nat),b=a.isNone->v=.slice a l c->(do eqGuard (if neg then .neq else .eql) t y A v (.slice none 0 0);binOp (if neg then .neq else .eql) t v (.slice none 0 0):Sem Value).run T.P w=.ok (.bool (b != neg)) w:=by intro a l c J K;subst J K;cases neg;simp only[awQ,if_false,binOp];simp[eqGuard,run_equal_slice_nil w t e a l c u];simp only[if_true,binOp];simp[eqGuard,run_equal_slice_nil w t e a l c u]
 cases N<;>simp only[PV.vF]at hb<;>try cases hb
 exact i _ _ _ rfl rfl
 ·rename_i rows _ _ _ _ _ _ M _ _;cases rows with
  |nil=>cases hb
  |cons r rs =>cases hb;obtain⟨O,rfl,-⟩:=M bC;exact i _ _ _ rfl rfl
 exact i _ _ _ rfl rfl
theorem Oz(neg:Bool){O:List Sc}{xs ys:V_}{x y:Value}(hx:bE E (.agg xs) x)(hy:bE E (.agg ys) y){b:Bool}(hb:PV.eqs O xs ys=some b){t:TypeId}(Q S:Operand)
  (i:T.flat t=some O):(do eqGuard (if neg then .neq else .eql) t Q S x y;binOp (if neg then .neq else .eql) t x y:Sem Value).run T.P w=.ok (.bool (b != neg)) w:=by
 cases hx with
 |agg vs Y ho hr=>
 cases hy with
 |agg A M Z N=>
 unfold Tbl.flat at i;split at i;rename_i U V;split at i;rename_i K;have l:T.P.fieldsOf t=U:=by simp[Program.fieldsOf,V]
 have W:=TJ (w:=w) 9998 vs A U.toList O 0 xs ys b i hb (λj q u a c=>hr j q u a (by simpa using c)) (λj q u a c=>N j q u a (by simpa using c)) (by simpa using Y) (by simpa using M);have J:=run_equalIn_struct w 9999 t vs A (by rw[l];exact V) K.1;rw[l,W]at J;cases neg;simp[run_eqGuard_agg w .eql t Q S vs A K.2,run_eql_struct,J];simp[run_eqGuard_agg w .neq t Q S vs A K.2,run_neq_struct,J];cases i;cases i
end
open Go Go.RowKit
def qF(E:Env)(cs:V_)(vs:Array Value):Prop:=
 vs.size=l'' cs/\(∀v∈vs.toList,v.oneCell'=true)/\∀(j:Nat) pv v,cs[j]?=some pv->vs[j]?=some v->bE E pv v
def ir(vs:Array Value)(c:Nat):List Value->Array Value
 |[]=>vs
 |u::i=>ir (vs.setIfInBounds c u) (c+1) i
theorem QD(off:Nat):∀(i:List Value)(k:Nat)(vs:Array Value),(i.zipIdx k).foldl (λcs (x:Value × Nat)=>cs.setIfInBounds (off+x.2) x.1) vs=ir vs (off+k) i
 |[],_,_=>rfl
 |u::i,k,vs=>by simp only[List.zipIdx_cons,List.foldl_cons,ir];rw[QD off i (k+1)];rfl
theorem IF:∀(ps:V_)(c:Nat)(r:V_),(setCells r c ps).length=l'' r
 |[],_,_=>rfl
 |p::ps,c,r=>by simp[setCells,IF ps]
theorem qF.arK{E:Env}{cs:V_}{vs:Array Value}(h:qF E cs vs){c:Nat}{p:PV}{u:Value}(r:bE E p u)(l:u.oneCell'=true):qF E (cs.set c p) (vs.setIfInBounds c u):=by
 obtain⟨y,A,J⟩:=h;refine⟨by simp[y],λv i=>?_,λj pv v hp i=>?_⟩;simp only[Array.toList_setIfInBounds]at i;rcases ayU i with i|rfl
 exact A v i;exact l;rw[ayG]at hp;rw[Array.getElem?_setIfInBounds]at i;split at hp;rename_i e;subst e;rw[aD rfl]at i;split at hp;rename_i K;rw[aD Om]at i;cases hp;cases i;exact r;cases hp;rename_i e;rw[aB e]at i;exact J j pv v hp i
theorem qF.setCells{E:Env}:∀(ps:V_)(i:List Value)(c:Nat)(cs:V_)(vs:Array Value),qF E cs vs->l'' i=l'' ps->(∀u∈i,u.oneCell'=true) ->
  (∀(j:Nat) p u,ps[j]?=some p->i[j]?=some u->bE E p u)->qF E (setCells cs c ps) (ir vs c i)
 |[],[],_,_,_,h,_,_,_=>h
 |p::ps,u::i,c,cs,vs,h,l,y,A=>by simp only[PM.setCells,ir];exact qF.setCells ps i (c+1) _ _ (h.arK (A 0 p u rfl rfl) (y u bC)) (by simpa using l) (λx J=>y x (by simp[J])) (λj q x a b=>A (j+1) q x (by simpa using a) (by simpa using b))
 |[],u::i,_,_,_,_,l,_,_=>by simp at l
 |p::ps,[],_,_,_,_,l,_,_=>by simp at l
theorem UL{E:Env}:∀{vs:List Value}{ps:V_},ofValues vs=some ps->l'' ps=l'' vs/\∀(j:Nat) p v,ps[j]?=some p->vs[j]?=some v->bE E p v
 |[],ps,h=>by simp[ofValues]at h;subst h;simp
 |v::vs,ps,h=>by
  simp only[ofValues]at h;split at h
  ·rename_i p A hp y;cases h;obtain⟨i,l⟩:=UL (E:=E) y;refine⟨by simp[i],λj q u a b=>?_⟩;cases j with
   |zero=>simp at a b;subst a;subst b;exact AU hp
   |succ j=>exact l j q u (by simpa using a) (by simpa using b)
  cases h
theorem UK:∀{vs:List Value}{ps:V_},ofValues vs=some ps->∀v∈vs,v.oneCell'=true
 |[],_,_,v,hv=>by simp at hv
 |u::vs,ps,h,v,hv=>by
  simp only[ofValues]at h;split at h;rename_i p l hp i;rcases auQ.1 hv with rfl|hv
  unfold ofValue at hp;split at hp<;>first|rfl|cases hp
  exact UK i v hv;cases h
section
variable {ds:List Deferred} {T:Tbl} {n:Nat} {E:Env} {F:PF} {H:PH} {a:Act} {w:World}
theorem RE{t:TypeId}{z:V_}(h:T.zero t=some z):∃i l,T.P.info? t=some i/\i.zero=some l/\qF E z l.cells:=by
 unfold Tbl.zero at h;cases hi:T.P.info? t with
 |none=>simp[hi]at h
 |some i=>
  cases u:i.zero with
  |none=>simp[hi,u]at h
  |some l =>simp only[hi,u,ayE]at h;obtain⟨y,A⟩:=UL (E:=E) h;exact⟨i,l,rfl,u,by simpa using y.symm,UK h,λj p v a b=>A j p v a (by simpa using b)⟩
theorem NK{place:Nat->Option (Nat × Nat)}(N:eP ds n E F a)(O:E.num=T.num):∀(parts:List (Nat × Operand)) (pl:List (Nat × Nat × aP)) (cs out:V_) (vs:Array Value),
  T.partsOf place parts=some pl->pP cs F pl=some out->qF E cs vs->∃J,Instr.fill place vs (parts.map λ(i,x)=>(i,a.eval x))=some J/\qF E out J
 |[],pl,cs,out,vs,y,l,A=>by simp[Tbl.partsOf]at y;subst y;simp[pP]at l;subst l;exact⟨vs,rfl,A⟩
 |(i,x)::rest,pl,cs,out,vs,y,l,A=>by
  simp only[Tbl.partsOf]at y;split at y;rename_i off size p ps hp Z K;cases y;simp only[pP]at l;split at l;rename_i v Y;split at l;rename_i U;obtain⟨M,Q,S⟩:=BF (bK Z Y N O) U.2.2;obtain⟨J,g1,g2⟩:=NK N O rest ps _ out _ K l (qF.setCells v.cells (a.eval x).cells.toList off cs vs A (by simpa using M) Q (λj q u V W=>S j q u V (by simpa using W)));refine⟨J,?_,g2⟩;simp only[avH,Instr.fill,hp];rw[aB (by simp;rw[M,A.1];omega)];have hz:Array.foldl (λ(cs:Array Value)(x:Value × Nat)=>cs.setIfInBounds (off+x.2) x.1) vs (a.eval x).cells.zipIdx=ir vs off (a.eval x).cells.toList:=by rw[<-Array.foldl_toList,Array.toList_zipIdx];exact QD off _ 0 vs
  exact hz ▸ g1;cases l;cases l;cases y
theorem Iq(y:Array Field)(u:List (Nat × Nat))(h:y.toList.mapM (λf=>(T.P.info? f.type).map λi=>(f.offset,i.size))=some u)(i:Nat) :
  u[i]?=T.place y i:=by
 have A:∀(l:List Field)(ps:List (Nat × Nat)) (i:Nat),l.mapM (λf=>(T.P.info? f.type).map λi=>(f.offset,i.size))=some ps ->
   ps[i]?=match l[i]? with|some f=>(T.size f.type).map (f.offset,·)|none=>none:=by
  intro l
  induction l with
  |nil=>intro ps i h;simp at h;subst h;simp
  |cons f l K=>
   intro ps i h;simp only[List.mapM_cons,Option.bind_eq_bind,Option.pure_def,ayP]at h;obtain⟨p,hp,M,J,h⟩:=h;cases h;cases i with
   |zero =>simp only[List.getElem?_cons_zero,Tbl.size];rw[<-hp];cases T.P.info? f.type<;>rfl
   |succ i=>simpa using K M i J
 have:=A y.toList u i h;rw[this,Array.getElem?_toList];unfold Tbl.place;cases y[i]?<;>rfl
end
open Go Go.RowKit
section
variable {ds:List Deferred} {T:Tbl} {n:Nat} {E:Env} {F:PF} {H:PH} {a:Act} {w:World}
theorem YR{t:TypeId}{parts:Array (Nat × Operand)}{z:V_}{pl:List (Nat × Nat × aP)}{out:V_}(hz:T.zero t=some z)
  (hp:(∃K:Array Field,T.P.underlying t=some (.struct K)/\(K.toList.mapM (λf=>(T.P.info? f.type).map λi=>(f.offset,i.size))).isSome=true/\T.partsOf (T.place K) parts.toList=some pl) \/
   (∃k e s,T.P.underlying t=some (.array k e)/\T.size e=some s/\T.partsOf (λi=>some (i*s,s)) parts.toList=some pl))
  (Z:pP z F pl=some out) (W:eP ds n E F a) (Y:E.num=T.num) :
  ∃v,(Instr.build t (parts.map λ(i,x)=>(i,a.eval x))).run T.P w=.ok v w/\bE E (.agg out) v:=by
 obtain⟨it,zv,M,N,Q⟩:=RE (E:=E) hz;rcases hp with⟨K,V,hm,A⟩|⟨k,e,s,V,hs,A⟩
 obtain⟨l,O⟩:=Option.isSome_iff_exists.1 hm;obtain⟨J,S,u⟩:=NK W Y _ _ _ _ _ A Z Q;refine⟨.agg J,run_build w t _ J ?_,.agg J u.1 u.2.1 u.2.2⟩;simp only[Program.built,M,V,N,O];have U:(λ(x:Nat)=>l.toArray[x]?)=T.place K:=by funext i;rw[List.getElem?_toArray];exact Iq K l O i
 simp only[Array.toList_map];rw[U];exact S
 ·obtain⟨J,S,u⟩:=NK W Y _ _ _ _ _ A Z Q;refine⟨.agg J,run_build w t _ J ?_,.agg J u.1 u.2.1 u.2.2⟩;unfold Tbl.size at hs;cases y:T.P.info? e with
  |none=>simp[y]at hs
  |some ie =>simp[y]at hs;subst hs;simp only[Program.built,M,V,N,y,Array.toList_map];exact S
theorem A8{t:TypeId}{s:Nat}(h:T.size t=some s):∃i,T.P.info? t=some i/\i.size=s:=by
 unfold Tbl.size at h;cases hi:T.P.info? t with
 |none=>simp[hi]at h
 |some i=>exact⟨i,rfl,by simpa[hi]using h⟩
theorem lN{t:TypeId}{s:Nat}(h:T.size t=some s):(sizeOf t).run T.P w=.ok s w:=by
 obtain⟨i,hi,rfl⟩:=A8 h;simp[sizeOf,typeInfo,hi]
theorem DT{t:TypeId}{b:Bool}(h:T.isAgg t=some b):(isAgg t).run T.P w=.ok b w:=by
 unfold Tbl.isAgg at h;split at h;rename_i i;cases h;simp[isAgg,run_underlying i];rename_i i;cases h;simp[isAgg,run_underlying i];rename_i d l u i;cases h;cases d<;>first
  |exact(l _ rfl).elim
  |exact(u _ _ rfl).elim
  |(simp[isAgg,run_underlying i];done)
 cases h
theorem n6{t:TypeId}{pv i:PV}{v:Value}(J:T.isAgg t=some false)(hW:bZ E H w)(K:bE E pv v)(h:loadCells H pv 1=some [i]) :
  ∃u,(Instr.loadAt t v).run T.P w=.ok u w/\bE E i u:=by
 obtain⟨b,off,rfl,-,M,y,N,l,A⟩:=sQ hW K h
 match M,y with
 |[u],_ =>refine⟨u,?_,A 0 i u rfl rfl⟩;have:=l 0 u rfl;simp only[awX]at this;simp[Instr.loadAt,Instr.sureAddr,loadVar,DT J,this]
theorem ZR{t:TypeId}{k:Nat}{pv:PV}{cs:V_}{v:Value}(S:T.isAgg t=some true)(Q:T.size t=some k)(hW:bZ E H w)(U:bE E pv v)(h:loadCells H pv k=some cs) :
  ∃u,(Instr.loadAt t v).run T.P w=.ok u w/\bE E (.agg cs) u:=by
 obtain⟨b,off,rfl,l,A,J,K,M,O⟩:=sQ hW U h;have i:=run_loadCells_list (P:=T.P) w ⟨b,off,none⟩ A (λj u y=>by rw[add_plain];exact M j u y);refine⟨.agg A.toArray,?_,.agg A.toArray (by simp[J,l]) (by simpa using K) (λj q u N y=>O j q u N (by simpa using y))⟩;rw[J]at i;simp[Instr.loadAt,Instr.sureAddr,loadVar,DT S,lN Q,i]
end
open Go Go.RowKit
section
variable {ds:List Deferred} {T:Tbl} {n:Nat} {E:Env} {F:PF} {H:PH} {a:Act} {w:World}
theorem l4{t e:TypeId}(h:T.P.underlying t=some (.slice e)):T.P.elem t=e/\T.P.underlying t=some (.slice (T.P.elem t)):=by
 have:T.P.elem t=e:=by simp[Program.elem,h]
 exact⟨this,by rw[this];exact h⟩
theorem Oy{t e:TypeId}{k:Nat}(h:T.P.underlying t=some (.array k e)):T.P.elem t=e/\T.P.arrayLen t=k/\T.P.underlying t=some (.array (T.P.arrayLen t) (T.P.elem t)):=by
 have i:T.P.elem t=e:=by simp[Program.elem,h]
 have l:T.P.arrayLen t=k:=by simp[Program.arrayLen,h]
 exact⟨i,l,by rw[i,l];exact h⟩
theorem A6{cs:V_}{b off:Nat}(h:bE E (.bQ cs) (.pointer (some ⟨b,off,none⟩)))(d:Nat):bE E (.bQ (cs.drop d)) (.pointer (some ⟨b,off+d,none⟩)):=by
 cases h with
 |bQ u A l i y =>refine .bQ (λj=>u (d+j)) rfl (λj pv hp=>?_) (λj=>i _) (λj pv hp=>y (d+j) pv (by rw[<-hp,ayT]));have:=l (d+j) pv (by rw[<-hp,ayT]);simp only at this ⊢;rw[<-this];congr 1;omega
theorem UZ{cs:V_}{v:Value}(h:bE E (.bQ cs) v):∃b off,v=.pointer (some ⟨b,off,none⟩):=by
 cases h with
 |bQ u i A y J=>rename_i l;exact⟨l.block,l.off,by rw[<-rC i]⟩
theorem afT{t e:TypeId}{s:Nat}{rows:P2_}{v:Value}{k:IntKind}{i:Int}{r:V_}(Z:T.P.underlying t=some (.slice e))(Y:T.size e=some s)
  (hv:bE E (.sl s rows) v) (O:0<=i) (y:rows[i.toNat]?=some r):∃u,(Instr.indexAt t v (.int k i)).run T.P w=.ok u w/\bE E (.bQ r) u:=by
 obtain⟨Q,S⟩:=l4 Z;cases hv with
 |sl u K M N U W l=>
 rename_i a0 cap;have hlt:i.toNat<l'' rows:=by
  rcases avF i.toNat rows.length with h|h
  exact h;rw[avZ h]at y;cases y
 obtain⟨J,rfl,A,V⟩:=U (by intro h;subst h;simp at hlt);rw[rC A];refine⟨.pointer (some ⟨J.block,J.off+i.toNat*s,none⟩),?_,?_⟩;rw[run_indexAt_slice w t _ _ _ _ _ S,aD ⟨O,by omega⟩,Q,lN Y,Result.andThen_ok,add_plain];refine .bQ (u i.toNat) rfl (λj pv hp=>?_) (λj=>W _ _) (λj pv hp=>l i.toNat j pv (by simp[at2,y,hp]));simpa using V i.toNat j pv (by simp[at2,y,hp])
theorem Zj{t e:TypeId}{o s off len:Nat}{v:Value}{k:IntKind}{i:Int}(W:T.P.underlying t=some (.slice e))(U:T.size e=some s)
  (Y:bE E (.osl o s off len) v) (O:0<=i) (hi:i<len):∃u,(Instr.indexAt t v (.int k i)).run T.P w=.ok u w/\bE E (.ptr o s (off+i.toNat) 0) u:=by
 obtain⟨Q,S⟩:=l4 W;cases Y with
 |osl hb V l M N Z K=>
 rename_i cap m y;have J:y.off=off*s:=by
  rcases l with h|h
  omega;exact h
 have A:y=⟨o,off*s,none⟩:=by cases y;simp_all
 subst A;refine⟨_,?_,.ptr o s _ 0⟩;rw[run_indexAt_slice w t _ _ _ _ _ S,aD ⟨O,hi⟩,Q,lN U,Result.andThen_ok,add_plain,<-avV,awX]
theorem nr{t e:TypeId}{k s:Nat}{v:Value}{S:IntKind}{i:Int}{A pv:PV}(Q:T.P.underlying t=some (.array k e))(O:T.size e=some s)
  (y:bE E A v) (J:0<=i) (hi:i<k) (l:(∃o s0 r c,A=.ptr o s0 r c/\pv=.ptr o s0 r (c+i.toNat*s))\/(∃cs,A=.bQ cs/\pv=.bQ (cs.drop (i.toNat*s)))) :
  ∃u,(Instr.indexAt t v (.int S i)).run T.P w=.ok u w/\bE E pv u:=by
 obtain⟨K,M,N⟩:=Oy Q;rcases l with⟨o,s0,r,c,rfl,rfl⟩|⟨cs,rfl,rfl⟩
 cases y;refine⟨_,?_,.ptr o s0 r _⟩;rw[run_indexAt_array w t _ _ _ N,M,aD ⟨J,hi⟩,K,lN O,Result.andThen_ok,add_plain,axG];obtain⟨b,off,rfl⟩:=UZ y;refine⟨_,?_,A6 y _⟩;rw[run_indexAt_array w t _ _ _ N,M,aD ⟨J,hi⟩,K,lN O,Result.andThen_ok,add_plain]
theorem TL{t:TypeId}{J:Array Field}{f:Nat}{i:Field}{s:Nat}{v:Value}{A pv:PV}(N:T.P.underlying t=some (.struct J))(K:J[f]?=some i)(M:T.size i.type=some (s+1))
  (y:bE E A v) (l:(∃o s0 r c,A=.ptr o s0 r c/\pv=.ptr o s0 r (c+i.offset))\/(∃cs,A=.bQ cs/\pv=.bQ (cs.drop i.offset))) :
  ∃u,(Instr.fieldAt t v f).run T.P w=.ok u w/\bE E pv u:=by
 rcases l with⟨o,s0,r,c,rfl,rfl⟩|⟨cs,rfl,rfl⟩
 cases y;refine⟨_,?_,.ptr o s0 r _⟩;simp[Instr.fieldAt,run_underlying N,K,Instr.sureAddr,fieldPlace,lN M,add_plain,axG];obtain⟨b,off,rfl⟩:=UZ y;refine⟨_,?_,A6 y _⟩;simp[Instr.fieldAt,run_underlying N,K,Instr.sureAddr,fieldPlace,lN M,add_plain]
theorem Io{t:TypeId}{cs:Array Value}{k:Nat}{u:Value}(i:T.isAgg t=some false)(h:cs[k]?=some u):(part t cs k).run T.P w=.ok u w:=by
 simp[part,DT i,h]
theorem Av{t:TypeId}{cs:Array Value}{k s:Nat}(l:T.isAgg t=some true)(i:T.size t=some s):(part t cs k).run T.P w=.ok (.agg (cs.extract k (k+s))) w:=by
 simp[part,DT l,lN i]
theorem Ep{cs:V_}{vs:Array Value}{k:Nat}{pv:PV}(l:vs.size=l'' cs)(i:∀(j:Nat) pv v,cs[j]?=some pv->vs[j]?=some v->bE E pv v)(h:cs[k]?=some pv) :
  ∃u,vs[k]?=some u/\bE E pv u:=by
 have hlt:k<l'' cs:=by
  rcases avF k cs.length with h'|h'
  exact h';rw[avZ h']at h;cases h
 exact⟨vs[k]'Om,ayK Om,i k pv _ h (ayK Om)⟩
theorem Er{cs:V_}{vs:Array Value}{k s:Nat}(A:vs.size=l'' cs)(l:∀v∈vs.toList,v.oneCell'=true)(u:∀(j:Nat) pv v,cs[j]?=some pv->vs[j]?=some v->bE E pv v)(h:k+s<=l'' cs) :
  bE E (.agg ((cs.drop k).take s)) (.agg (vs.extract k (k+s))):=by
 refine .agg _ (by simp;omega) (λv i=>l v ?_) (λj pv v hp i=>?_);simp only[Array.toList_extract]at i;exact List.mem_of_mem_drop (ayW i);rw[axZ]at hp;split at hp;rename_i y;rw[ayT]at hp;refine u (k+j) pv v hp ?_;rw[Array.getElem?_extract]at i;split at i;exact i;cases i;cases hp
theorem Tu{t:TypeId}{y:Array Field}{f:Nat}{i:Field}{cs:V_}{v:Value}{pv:PV}(N:T.P.underlying t=some (.struct y))(A:y[f]?=some i)(J:T.isAgg i.type=some false)
  (Q:bE E (.agg cs) v) (h:cs[i.offset]?=some pv):∃u,(Instr.field t v f).run T.P w=.ok u w/\bE E pv u:=by
 cases Q with
 |agg vs K S M=>
 obtain⟨u,O,l⟩:=Ep K M h;exact⟨u,by simp[Instr.field,run_underlying N,A,asAgg,Io J O],l⟩
theorem O1{t:TypeId}{l:Array Field}{f:Nat}{i:Field}{cs:V_}{s:Nat}{v:Value}(O:T.P.underlying t=some (.struct l))(A:l[f]?=some i)(J:T.isAgg i.type=some true)(N:T.size i.type=some s)
  (Q:bE E (.agg cs) v) (h:i.offset+s<=l'' cs):∃u,(Instr.field t v f).run T.P w=.ok u w/\bE E (.agg ((cs.drop i.offset).take s)) u:=by
 cases Q with
 |agg vs K y M=>exact⟨_,by simp[Instr.field,run_underlying O,A,asAgg,Av J N],Er K y M h⟩
theorem Pq{t e:TypeId}{k s:Nat}{g:Bool}{cs:V_}{v:Value}{V:IntKind}{i:Int}{pv:PV}(O:T.P.underlying t=some (.array k e))(A:T.size e=some s)(K:T.isAgg e=some g)
  (U:bE E (.agg cs) v) (J:0<=i) (hi:i<k) (h:(if g then(if i.toNat*s+s<=cs.length then some (.agg ((cs.drop (i.toNat*s)).take s))else none)else cs[i.toNat*s]?)=some pv) :
  ∃u,(Instr.index t v (.int V i)).run T.P w=.ok u w/\bE E pv u:=by
 cases U with
 |agg vs M Q N=>
 cases g with
 |true =>simp only[if_true]at h;split at h;rename_i l;cases h;exact⟨_,by simp[Instr.index,asIntOf,run_underlying O,J,hi,lN A,Av K A],Er M Q N l⟩;cases h
 |false =>simp only[awQ,if_false]at h;obtain⟨u,S,y⟩:=Ep M N h;exact⟨u,by simp[Instr.index,asIntOf,run_underlying O,J,hi,lN A,Io K S],y⟩
theorem Gh{t:TypeId}{l:List UInt8}{v:Value}{N:IntKind}{i:Int}{pv:PV}(K:T.P.underlying t=some .string)(M:bE E (.str l) v)(J:0<=i)(h:(l[i.toNat]?).map (λb=>PV.int .u8 b.toNat)=some pv) :
  ∃u,(Instr.index t v (.int N i)).run T.P w=.ok u w/\bE E pv u:=by
 cases M with
 |str s=>
 simp only[auR]at h;obtain⟨b,hb,rfl⟩:=h;have y:s[i.toNat]?=some b:=by
  have hlt:i.toNat<l'' s.data.toList:=by
   rcases avF i.toNat s.data.toList.length with h'|h'
   exact h';rw[avZ h']at hb;cases hb
  have A:i.toNat<s.size:=by
   have O:l'' s.data.toList=s.size:=by rw[axV];rfl
   omega
  rw[getElem?_pos s i.toNat A];rw[auP hlt]at hb;cases hb;rfl
 exact⟨_,by simp[Instr.index,asIntOf,run_underlying K,J,y],.int _ _⟩
theorem SK{x:Option Operand}{p:Option aP}{d m:Int}(i:T.opt x=some p)(h:bnd F d p=some m)(u:eP ds n E F a)(y:E.num=T.num) :
  (x=none/\m=d)\/∃o k,x=some o/\a.eval o=.int k m:=by
 cases x with
 |none =>simp[Tbl.opt]at i;subst i;simp[bnd]at h;exact .inl ⟨rfl,h.symm⟩
 |some o =>simp only[Tbl.opt,auR]at i;obtain⟨q,A,rfl⟩:=i;simp only[bnd,ayP]at h;obtain⟨pv,hp,hi⟩:=h;have r:=bK A hp u y;unfold PV.intOf at hi;split at hi;cases hi;generalize l:a.eval o=ev at r;cases r;exact .inr ⟨o,_,rfl,l⟩;cases hi
theorem nT{isS:Bool}{lo hi mx:Option Operand}{pl ph pm:Option aP}{len cap:Nat}{l h:Int}(V:T.opt lo=some pl)(U:T.opt hi=some ph)(i:T.opt mx=some pm)
  (Q:bnd F 0 pl=some l) (O:bnd F len ph=some h) (N:len<=cap) (Y:0<=l) (Z:l<=h) (h2:h<=len) (A:pm=none\/(hi≠none/\bnd F 0 pm=some h)) (u:eP ds n E F a) (y:E.num=T.num) :
  ∃m,(Instr.sliceBounds isS len cap (lo.map a.eval) (hi.map a.eval) (mx.map a.eval)).run T.P w=.ok (l.toNat,h.toNat,m) w/\h.toNat<=m/\m<=cap:=by
 have M:=SK V Q u y;have K:=SK U O u y;rcases A with rfl|⟨hne,bm⟩
 have J:mx=none:=by
  cases mx with
  |none=>rfl
  |some x =>simp only[Tbl.opt,auR]at i;obtain⟨q,-,W⟩:=i;cases W
 subst J;refine⟨cap,?_,by omega,auG _⟩;rcases M with⟨rfl,rfl⟩|⟨ol,k1,rfl,e1⟩<;>rcases K with⟨rfl,rfl⟩|⟨oh,k2,rfl,e2⟩
 simp[Instr.sliceBounds];simp only[Instr.sliceBounds,Option.map_none,avB,e2,Sem.run_bind,Sem.run_pure,Result.andThen_ok,run_sliceBound w k2 h cap _ Om Om];rfl;simp only[Instr.sliceBounds,Option.map_none,avB,e1,Sem.run_bind,Sem.run_pure,Result.andThen_ok,run_sliceBound w k1 l len _ Om Om];simp;simp only[Instr.sliceBounds,Option.map_none,avB,e1,e2,Sem.run_bind,Sem.run_pure,Result.andThen_ok,run_sliceBound w k2 h cap _ Om Om,run_sliceBound w k1 l h.toNat _ Om Om];have km:=SK i bm u y;rcases km with⟨rfl,S⟩|⟨om,k3,rfl,e3⟩
 simp[Tbl.opt]at i;subst i;refine⟨cap,?_,by omega,auG _⟩;rcases K with⟨rfl,rfl⟩|⟨oh,k2,rfl,e2⟩
 exact absurd rfl hne;rcases M with⟨rfl,rfl⟩|⟨ol,k1,rfl,e1⟩
 simp only[Instr.sliceBounds,Option.map_none,avB,e2,Sem.run_bind,Sem.run_pure,Result.andThen_ok,run_sliceBound w k2 h cap _ Om Om];rfl;simp only[Instr.sliceBounds,Option.map_none,avB,e1,e2,Sem.run_bind,Sem.run_pure,Result.andThen_ok,run_sliceBound w k2 h cap _ Om Om,run_sliceBound w k1 l h.toNat _ Om Om];rcases K with⟨rfl,rfl⟩|⟨oh,k2,rfl,e2⟩
 exact absurd rfl hne;refine⟨h.toNat,?_,auG _,by omega⟩;rcases M with⟨rfl,rfl⟩|⟨ol,k1,rfl,e1⟩
 simp only[Instr.sliceBounds,Option.map_none,avB,e2,e3,Sem.run_bind,Sem.run_pure,Result.andThen_ok,run_sliceBound w k3 h cap _ Om Om,run_sliceBound w k2 h h.toNat _ Om Om];rfl;simp only[Instr.sliceBounds,Option.map_none,avB,e1,e2,e3,Sem.run_bind,Sem.run_pure,Result.andThen_ok,run_sliceBound w k3 h cap _ Om Om,run_sliceBound w k2 h h.toNat _ Om Om,run_sliceBound w k1 l h.toNat _ Om Om]
end
open Go Go.RowKit
section
variable {ds:List Deferred} {T:Tbl} {n:Nat} {E:Env} {F:PF} {H:PH} {a:Act} {w:World}
theorem Ly{rows:P2_}{l h i j:Nat}{pv:PV}(e:at2 ((rows.take h).drop l) i j=some pv):at2 rows (l+i) j=some pv:=by
 unfold at2 at *
 rw[ayT,axZ]at e;split at e;exact e;simp at e
theorem AE{t e:TypeId}{s l h m len cap:Nat}{i:Option Addr}{lo hi mx:Option Value}(y:T.P.underlying t=some (.slice e))(u:T.size e=some s)
  (hb:(Instr.sliceBounds true len cap lo hi mx).run T.P w=.ok (l,h,m) w) :
  (Instr.sliceAt t (.slice i len cap) lo hi mx).run T.P w=.ok (.slice (if m=l then i else i.map (·.add (l*s))) (h-l) (m-l)) w:=by
 simp[Instr.sliceAt,Instr.slice,run_underlying y,hb,lN u]
theorem JM {t e : TypeId} {s : Nat} {x : Value} {lo hi mx : Option Operand} {pl ph pm : Option aP} {len : Nat} {l h : Int} {px pv : PV} (ht : T.P.underlying t = some (.slice e)) (hs : T.size e = some s)
    (hl : T.opt lo = some pl) (hh : T.opt hi = some ph) (hm : T.opt mx = some pm) (hx : bE E px x) (bl : bnd F 0 pl = some l) (bh : bnd F len ph = some h)
    (hlen : (px = .aE /\ len = 0) \/ (∃ s0 rows, px = .sl s0 rows /\ len = rows.length) \/ (∃ o s0 off, px = .osl o s0 off len))
    (hpv : (pm = none /\ PV.slice s px l h none = some pv) \/ (hi ≠ none /\ ∃ m, bnd F 0 pm = some m /\ PV.slice s px l h (some m) = some pv)) (hA : eP ds n E F a) (hN : E.num = T.num) :
    ∃ v, (Instr.sliceAt t x (lo.map a.eval) (hi.map a.eval) (mx.map a.eval)).run T.P w = .ok v w /\ bE E pv v := by
  have hP : ∃ m0, PV.slice s px l h m0 = some pv /\ (m0 = none -> pm = none) /\ ∀ m, m0 = some m -> hi ≠ none /\ bnd F 0 pm = some m := by
    rcases hpv with ⟨h1, h2⟩ | ⟨h1, m, h2, h3⟩
    · exact ⟨none, h2, fun _ => h1, fun m hm => by cases hm⟩
    · exact ⟨some m, h3, fun h => (by cases h), fun m' hm' => by cases hm'; exact ⟨h1, h2⟩⟩
  obtain ⟨m0, hP, hn, hsm⟩ := hP;rcases hlen with ⟨rfl, rfl⟩ | ⟨s0, rows, rfl, rfl⟩ | ⟨o, s0, off, rfl⟩
  · simp only [PV.slice] at hP
    split at hP
    · rename_i hc
      cases hP;obtain ⟨rfl, rfl, hm0⟩ := hc;cases hx;obtain ⟨m, hb, hm1, hm2⟩ := nT (T := T) (E := E) (w := w) (isS := true) (len := 0) (cap := 0) hl hh hm bl bh (auG _) Om Om Om
        (by rcases hm0 with rfl | rfl
            · exact .inl (hn rfl)
            · exact .inr (hsm 0 rfl)) hA hN
      have hmz : m = 0 := Om;subst hmz;refine ⟨_, AE ht hs hb, ?_⟩;simp;exact .aE
    · cases hP
  · simp only [PV.slice] at hP
    split at hP
    · rename_i hc
      cases hP;obtain ⟨rfl, h0, h1, h2, hm0⟩ := hc;cases hx with
      | sl u hcap atW atA ha ho atZ =>
      rename_i a0 cap;obtain ⟨m, hb, hm1, hm2⟩ := nT (T := T) (E := E) (w := w) (isS := true) (len := rows.length) (cap := cap) hl hh hm bl bh hcap h0 h1 h2
        (by rcases hm0 with rfl | rfl
            · exact .inl (hn rfl)
            · exact .inr (hsm h rfl)) hA hN
      refine ⟨_, AE ht hs hb, ?_⟩;have hlen : ((rows.take h.toNat).drop l.toNat).length = h.toNat - l.toNat := by rw [awM, auU]; omega
      rw [<- hlen];refine .sl (fun i j => u (l.toNat + i) j) (by rw [hlen]; omega) Om (fun r hr => atA r (ayW (List.mem_of_mem_drop hr))) (fun hne => ?_) (fun i j => ho _ _) (fun i j pv hp => atZ _ _ pv (Ly hp));have hpos : 0 < ((rows.take h.toNat).drop l.toNat).length := List.length_pos_iff.2 hne;rw [hlen] at hpos;obtain ⟨ad, rfl, hsp, hc⟩ := ha (by intro e; subst e; simp at h2; omega);rw [aB Om];refine ⟨⟨ad.block, ad.off + l.toNat * s0, none⟩, ?_, rfl, fun i j pv hp => ?_⟩
      · rw [avB, rC hsp, add_plain]
      · have := hc (l.toNat + i) j pv (Ly hp)
        show E.cell ad.block (ad.off + l.toNat * s0 + i * s0 + j) = _;rw [<- this];congr 1;rw [avV]; omega
    · cases hP
  · simp only [PV.slice] at hP
    split at hP
    · rename_i hc
      cases hP;obtain ⟨rfl, h0, h1, h2, hm0⟩ := hc;cases hx with
      | osl hb0 hsp auA hlen atW hnn atP =>
      rename_i cap N ad;obtain ⟨m, hb, hm1, hm2⟩ := nT (T := T) (E := E) (w := w) (isS := true) (len := len) (cap := cap) hl hh hm bl bh hlen h0 h1 h2
        (by rcases hm0 with rfl | rfl
            · exact .inl (hn rfl)
            · exact .inr (hsm h rfl)) hA hN
      refine ⟨_, AE ht hs hb, ?_⟩;by_cases hml : m = l.toNat
      · rw [aD hml]
        have e1 : h.toNat - l.toNat = 0 := Om;have e2 : m - l.toNat = 0 := Om;rw [e1, e2];refine .osl hb0 hsp (.inl rfl) (auG _) (by simp [maxLen]) hnn ?_;have : (off + l.toNat) * s0 <= off * s0 + cap * s0 := by rw [avV]; exact Nat.add_le_add_left (avL _ Om) _
        omega
      · rw [aB hml, avB, rC hsp, add_plain]
        refine .osl hb0 rfl ?_ Om Om hnn ?_
        · rcases auA with h | h
          · exact .inl Om
          · exact .inr (by simp only [h, avV])
        · have : (off + l.toNat) * s0 + (m - l.toNat) * s0 <= off * s0 + cap * s0 := by rw [<- avV, <- avV];exact avL _ Om
          omega
    · cases hP
theorem xy{t:TypeId}{x:Value}{lo hi:Option Operand}{pl ph:Option aP}{str:List UInt8}{l h:Int}(V:T.P.underlying t=some .string)
  (Q:T.opt lo=some pl) (O:T.opt hi=some ph) (W:bE E (.str str) x) (A:bnd F 0 pl=some l) (u:bnd F str.length ph=some h) (J:0<=l) (K:l<=h) (y:h<=l'' str)
  (M:eP ds n E F a) (N:E.num=T.num) :
  ∃v,(Instr.sliceAt t x (lo.map a.eval) (hi.map a.eval) none).run T.P w=.ok v w/\bE E (.str ((str.take h.toNat).drop l.toNat)) v:=by
 cases W with
 |str s=>
 have i:l'' s.data.toList=s.size:=by rw[axV];rfl
 rw[i]at u y;obtain⟨m,hb,S,U⟩:=nT (T:=T) (E:=E) (w:=w) (isS:=false) (len:=s.size) (cap:=s.size) (mx:=none) (pm:=none) Q O rfl A u (auG _) J K y (.inl rfl) M N;simp only[Option.map_none]at hb;refine⟨.string (s.extract l.toNat h.toNat),?_,?_⟩;simp[Instr.sliceAt,Instr.slice,run_underlying V,hb];have e:(s.data.toList.take h.toNat).drop l.toNat=(s.extract l.toNat h.toNat).data.toList:=by rw[Lib.extract_data,List.drop_take]
 rw[e];exact .str _
theorem kb(s:Nat):∀(n:Nat)(cs:V_),(chunks s n cs).length=n
 |0,_=>rfl
 |n+1,cs=>by simp[chunks,kb s n]
theorem kd{s:Nat}:∀{n:Nat}{cs:V_},n*s<=l'' cs->∀r∈chunks s n cs,l'' r=s
 |0,_,_,r,hr=>by simp[chunks]at hr
 |n+1,cs,h,r,hr=>by
  rw[avV,Nat.one_mul]at h;simp only[chunks,auQ]at hr;rcases hr with rfl|hr
  rw[auU];omega;exact kd (by rw[awM];omega) r hr
theorem SS{s:Nat}:∀{n:Nat}{cs:V_}{i j:Nat}{pv:PV},at2 (chunks s n cs) i j=some pv->cs[i*s+j]?=some pv
 |0,_,i,j,pv,h=>by simp[chunks,at2]at h
 |n+1,cs,0,j,pv,h=>by simp only[chunks,at2,List.getElem?_cons_zero,ayE,axZ]at h;split at h;rw[Nat.zero_mul,avA];exact h;cases h
 |n+1,cs,i+1,j,pv,h=>by have:=SS (n:=n) (cs:=cs.drop s) (i:=i) (j:=j) (pv:=pv) (by simpa[chunks,at2]using h);rw[ayT]at this;rw[<-this];congr 1;rw[avV];omega
theorem Jd{t e:TypeId}{k s:Nat}{v:Value}{cs:V_}(ht:T.P.underlying t=some (.array k e))(hs:T.size e=some s)(hv:bE E (.bQ cs) v)(U:k*s<=l'' cs)(V:k<=maxLen)(Q:eP ds n E F a)(S:E.num=T.num) :
  ∃u,(Instr.sliceAt t v none none none).run T.P w=.ok u w/\bE E (.sl s (chunks s k cs)) u:=by
 obtain⟨m,hb,W,Y⟩:=nT (T:=T) (E:=E) (w:=w) (F:=F) (a:=a) (n:=n) (isS:=false) (len:=k) (cap:=k) (lo:=none) (hi:=none) (mx:=none) (pl:=none) (ph:=none) (pm:=none) (l:=0) (h:=(k:Int)) rfl rfl rfl rfl rfl (auG _) Om Om Om (.inl rfl) Q S;simp only[Option.map_none,awG,Int.toNat_zero]at hb;have M:m=k:=Om;subst M;cases hv with
 |bQ u A y O Z=>
 rename_i J;refine⟨.slice (some J) m m,?_,?_⟩;have hz:(if m=0 then J else J.add (0*s))=J:=by split;rfl;rw[rC A,add_plain];simp
 simp[Instr.sliceAt,run_underlying ht,Instr.sureAddr,hb,lN hs];intro _;rw[rC A,add_plain];simp;have N:=kb s m cs;have K:bE E (.sl s (chunks s m cs)) (.slice (some J) (chunks s m cs).length m):=by refine .sl (λi j=>u (i*s+j)) (by rw[N];exact auG _) V (kd U) (λ_=>⟨J,rfl,A,λi j pv hp=>?_⟩) (λi j=>O _) (λi j pv hp=>Z _ pv (SS hp));have:=y (i*s+j) pv (SS hp);rw[<-this];congr 1;omega
 rw[N]at K;exact K
theorem Kf{e:TypeId}{x:Value}{l:PV}(hW:bZ E H w)(N:bE E l x)(M:l.cells.all PV.one=true):Yields T.P E H w (Instr.box e x) (.bQ l.cells):=by
 obtain⟨y,J,K⟩:=BF N M;obtain⟨u,A⟩:=hW.acY x.cells e;refine⟨.pointer (some ⟨w.heap.size,0,none⟩),_,_,by simp[Instr.box,newVar,newRow],?_,u,A⟩;refine .bQ (λj=>if h:j<x.cells.size then x.cells[j]else .int .i64 0) rfl (λj pv hp=>?_) (λj=>?_) (λj pv hp=>?_);have i:j<x.cells.size:=by
  rw[y];rcases avF j l.cells.length with h'|h'
  exact h';rw[avZ h']at hp;cases hp
 simp[Env.cell,Env.add,upd,i];split;rename_i i;exact J _ (Array.getElem_mem_toList i);rfl;have i:j<x.cells.size:=by
  rw[y];rcases avF j l.cells.length with h'|h'
  exact h';rw[avZ h']at hp;cases hp
 rw[dif_pos i];exact(K j pv _ hp (ayK i)).mono A.env
end
open Go Go.RowKit
theorem AL{s:Nat}:∀(rows:P2_) (i j:Nat),(∀r∈rows,l'' r=s)->j<s->rows.flatten[i*s+j]?=at2 rows i j
 |[],i,j,_,_=>by simp[at2]
 |r::rows,i,j,h,u=>by
  have l:l'' r=s:=h r bC;rw[List.flatten_cons];cases i with
  |zero =>rw[awR Om];simp[at2]
  |succ i=>
   rw[awH (by rw[l,axB];omega)];have e:(i+1)*s+j-l'' r=i*s+j:=by rw[l,axB];omega
   rw[e,AL rows i j (λr l=>h r (by simp[l])) u];simp[at2]
theorem sA{s:Nat}:∀(rows:P2_),(∀r∈rows,l'' r=s)->l'' rows.flatten=l'' rows*s
 |[],_=>by simp
 |r::rows,h=>by rw[List.flatten_cons,auJ,sA rows (λr i=>h r (by simp[i])),h r bC,avG,axB];omega
theorem xE:∀(ps:V_)(x y:V_)(c:Nat),setCells (x++y) (l'' x+c) ps=x++setCells y c ps
 |[],x,y,c=>rfl
 |p::ps,x,y,c=>by simp only[setCells];rw[axS _ _ Om,Nat.add_sub_cancel_left];exact xE ps x _ (c+1)
theorem yW:∀(ps:V_)(x y:V_)(c:Nat),c+l'' ps<=l'' x->setCells (x++y) c ps=setCells x c ps++y
 |[],x,y,c,_=>rfl
 |p::ps,x,y,c,h=>by simp only[avG]at h;simp only[setCells];rw[List.set_append_left _ _ Om];exact yW ps _ y (c+1) (by rw[avT];omega)
theorem LZ:∀(ps x:V_)(z:V_),l'' x=l'' ps->setCells (z++x) z.length ps=z++ps
 |[],x,z,h=>by have:x=[]:=List.eq_nil_of_length_eq_zero (by simpa using h);subst this;rfl
 |p::ps,[],z,h=>by simp at h
 |p::ps,y::x,z,h=>by simp only[setCells];rw[axS _ _ (auG _),awU,avQ];have:=LZ ps x (z++[p]) (by simpa using h);simp only[auJ,avG,avS,avW,axX,axI]at this;simpa using this
theorem ZI{s:Nat}(ps:V_)(l:l'' ps=s):∀(rows:P2_) (i:Nat),(∀r∈rows,l'' r=s)->i<l'' rows->(rows.set i ps).flatten=setCells rows.flatten (i*s) ps
 |[],i,_,h=>by simp at h
 |r::rows,i,h,hi=>by
  have u:l'' r=s:=h r bC;cases i with
  |zero =>rw[avQ,List.flatten_cons,List.flatten_cons,Nat.zero_mul,yW _ _ _ _ Om];have:=LZ ps r [] Om;simp only[axI,avS]at this;rw[this]
  |succ i =>rw[ayI,List.flatten_cons,List.flatten_cons,ZI ps l rows i (λr u=>h r (by simp[u])) (by simpa using hi)];have:=xE ps r rows.flatten (i*s);rw[<-this,u,axB,Nat.add_comm]
section
variable {ds:List Deferred} {T:Tbl} {n:Nat} {E:Env} {F:PF} {H:PH} {a:Act} {w:World}
theorem KW{s:Nat}(W:eP ds n E F a)(Y:E.num=T.num):∀(parts:List (Nat × Operand)) (pl:List (Nat × aP)) (rows out:P2_) (vs:Array Value),
  T.wV parts=some pl->gQ s rows F pl=some out->(∀r∈rows,l'' r=s)->qF E rows.flatten vs ->
  ∃N,Instr.fill (λi=>some (i*s,s)) vs (parts.map λ(i,x)=>(i,a.eval x))=some N/\qF E out.flatten N/\(∀r∈out,l'' r=s)/\l'' out=l'' rows
 |[],pl,rows,out,vs,y,l,A,M=>by simp[Tbl.wV]at y;subst y;simp[gQ]at l;subst l;exact⟨vs,rfl,M,A,rfl⟩
 |(i,x)::rest,pl,rows,out,vs,y,l,A,M=>by
  simp only[Tbl.wV]at y;split at y;rename_i p ps hx Q;cases y;simp only[gQ]at l;split at l;rename_i v hv;split at l;rename_i K;obtain⟨V,Z,c3⟩:=BF (bK hx hv W Y) K.2.2;have O:=ZI v.cells K.1 rows i A K.2.1;have J:=qF.setCells v.cells (a.eval x).cells.toList (i*s) _ vs M (by simpa using V) Z (λj q u hq hu=>c3 j q u hq (by simpa using hu));rw[<-O]at J;obtain⟨N,g1,g2,g3,g4⟩:=KW W Y rest ps _ out _ Q l (λr S=>by
   rcases ayU S with S|rfl
   exact A r S;exact K.1) J
  refine⟨N,?_,g2,g3,by simpa using g4⟩;simp only[avH,Instr.fill];have U:vs.size=l'' rows*s:=by rw[M.1,sA rows A]
  have α:i*s+s<=l'' rows*s:=by have:(i+1)*s<=l'' rows*s:=avL _ K.2.1;rw[axB]at this;exact this
  rw[aB (by simp;rw[V,U];omega)];have hz:Array.foldl (λ(cs:Array Value)(x:Value × Nat)=>cs.setIfInBounds (i*s+x.2) x.1) vs (a.eval x).cells.zipIdx=ir vs (i*s) (a.eval x).cells.toList:=by rw[<-Array.foldl_toList,Array.toList_zipIdx];exact QD (i*s) _ 0 vs
  exact hz ▸ g1;cases l;cases l;cases y
theorem qF.adQ{z:V_}{A:Array Value}{s len:Nat}(h:qF E z A)(O:l'' z=s)(N:0<s) :
  qF E (auL len z).flatten ((Array.range (len*s)).map (A[·%A.size]!)):=by
 have u:∀r∈auL len z,l'' r=s:=λr Q=>by rw[(List.mem_replicate.1 Q).2];exact O
 have l:A.size=s:=by rw[h.1,O]
 refine⟨by rw[sA _ u];simp,λv y=>?_,λk pv v hp y=>?_⟩;simp only[Array.toList_map,auT]at y;obtain⟨k,-,rfl⟩:=y;have M:k%A.size<A.size:=awJ _ Om;rw[getElem!_pos A _ M];exact h.2.1 _ (Array.getElem_mem_toList M);have K:k<len*s:=by
  rcases avF k (len*s)with h'|h'
  exact h';rw[Array.getElem?_eq_none (by simpa using h')]at y;cases y
 have i:k%s<s:=awJ _ N;have J:k/s<len:=(ayB N).2 K;have M:k/s*s+k%s=k:=by rw[avO];exact ayN k s
 have e:=AL (auL len z) (k/s) (k%s) u i;rw[M]at e;rw[e]at hp;simp only[at2,List.getElem?_replicate,J,if_true,ayE]at hp;simp only[Array.getElem?_map,Array.getElem?_range,K,if_true,avB]at y;rw[getElem!_pos A _ (by rw[l];exact i)]at y;cases y;refine h.2.2 (k%s) pv _ (by simpa only [l]using hp) ?_;simp only[l];exact ayK (by rw[l];exact i)
theorem SP{t e:TypeId}{s len:Nat}{z:V_}{parts:Array (Nat × Operand)}{pl:List (Nat × aP)}{out:P2_}(ht:T.P.underlying t=some (.slice e))(hs:T.size e=some s)(hz:T.zero e=some z)
  (O:l'' z=s) (Z:0<s) (l:T.wV parts.toList=some pl) (α:len*s<=16777216) (A:gQ s (auL len z) F pl=some out) (hA:eP ds n E F a) (hN:E.num=T.num) :
  ∃J,(Instr.buildSlice t len (parts.map λ(i,x)=>(i,a.eval x))).run T.P w=.ok (.slice (some ⟨w.heap.size,0,none⟩) len len) (w.alloc (.cells J e))/\qF E out.flatten J/\(∀r∈out,l'' r=s)/\l'' out=len:=by
 obtain⟨i,zv,hi,Q,Y⟩:=RE (E:=E) hz;obtain⟨i',M,u⟩:=A8 hs;rw[hi]at M;cases M;have K:∀r∈auL len z,l'' r=s:=λr hr=>by rw[(List.mem_replicate.1 hr).2];exact O
 obtain⟨J,g1,g2,g3,g4⟩:=KW hA hN parts.toList pl _ out _ l A K (Y.adQ (len:=len) O Z);rw[List.length_replicate]at g4;refine⟨J,?_,g2,g3,g4⟩;by_cases S:len=0;subst S;have N:parts.toList=[]:=by
  cases V:parts.toList with
  |nil=>rfl
  |cons x rest =>rw[V]at l;obtain⟨i,y⟩:=x;simp only[Tbl.wV]at l;split at l;cases l;simp only[gQ]at A;split at A;split at A;rename_i hc;simp at hc;cases A;cases A;cases l
 rw[N]at g1;simp only[avY,Instr.fill,Nat.zero_mul]at g1;have:J=#[]:=by have h1:=g2.1;rw[sA out g3,g4,Nat.zero_mul]at h1;exact Array.eq_empty_of_size_eq_zero h1
 subst this;have U:parts=#[]:=by apply Array.ext';simpa using N
 subst U;have W:Array.range 0=#[]:=by apply Array.ext';simp
 simp[Instr.buildSlice,run_underlying ht,lN hs,Instr.fill,newRow,W];refine run_buildSlice w t e len _ J i zv ht hi Q (by rw[u];omega) (by rw[u];exact Nat.ne_of_gt (Nat.mul_pos Om Z)) ?_;rw[u,Array.toList_map];exact g1
theorem vt{t e:TypeId}{s len:Nat}{z:V_}{parts:Array (Nat × Operand)}{pl:List (Nat × aP)}{out:P2_}(ht:T.P.underlying t=some (.slice e))(hs:T.size e=some s)(hz:T.zero e=some z)
  (U:l'' z=s) (V:0<s) (S:T.wV parts.toList=some pl) (Q:len*s<=16777216) (ho:gQ s (auL len z) F pl=some out) (Y:eP ds n E F a) (Z:E.num=T.num) (hW:bZ E H w) :
  Yields T.P E H w (Instr.buildSlice t len (parts.map λ(i,x)=>(i,a.eval x))) (.sl s out):=by
 obtain⟨A,K,O,u,y⟩:=SP (w:=w) ht hs hz U V S Q ho Y Z;obtain⟨N,W⟩:=hW.acY A e;refine⟨_,_,_,K,?_,N,W⟩;rw[<-y];have hj:∀i j pv,at2 out i j=some pv->j<s:=λi j pv hp=>by
  unfold at2 at hp;cases J:out[i]? with
  |none=>simp[J]at hp
  |some r=>
   rw[J,ayE]at hp;have:=u r (awW J);rcases avF j r.length with h'|h'
   omega;rw[avZ h']at hp;cases hp
 have l:∀i j pv,at2 out i j=some pv->∃h:i*s+j<A.size,bE E pv A[i*s+j]:=λi j pv hp=>by
  have M:=AL out i j u (hj i j pv hp);rw[hp]at M;have hlt:i*s+j<A.size:=by
   rw[O.1];rcases avF (i*s+j) out.flatten.length with h'|h'
   exact h';rw[avZ h']at M;cases M
  exact⟨hlt,O.2.2 _ pv _ M (ayK hlt)⟩
 refine .sl (λi j=>if h:i*s+j<A.size then A[i*s+j]else .int .i64 0) (auG _) ?_ u (λ_=>⟨_,rfl,rfl,λi j pv hp=>?_⟩) (λi j=>?_) (λi j pv hp=>?_);have:l'' out*1<=l'' out*s:=awZ _ V;simp only[maxLen];rw[y]at this ⊢;omega;obtain⟨hlt,-⟩:=l i j pv hp;simp[Env.cell,Env.add,upd,hlt];split;rename_i hlt;exact O.2.1 _ (Array.getElem_mem_toList hlt);rfl;obtain⟨hlt,J⟩:=l i j pv hp;rw[dif_pos hlt];exact J.mono W.env
end
open Go Go.RowKit
section
variable {T:Tbl} {n:Nat} {E:Env} {F:PF} {H:PH} {a:Act} {w:World}
theorem su{s:Nat}{pv:PV}{v:Value}{rows:P2_}(hW:bZ E H w)(hv:bE E pv v)(h:dP H s pv=some rows) :
  ∃y cap,v=.slice y rows.length cap/\l'' rows<=cap/\(∀r∈rows,l'' r=s)/\(rows≠[]->∃b off,y=some ⟨b,off,none⟩ /\
   ∀i j q,at2 rows i j=some q->∃u,w.cell? ⟨b,off+(i*s+j),none⟩=some u/\u.oneCell'=true/\bE E q u):=by
 unfold dP at h;split at h;cases h;cases hv;exact⟨none,0,rfl,auG _,by simp,λh=>absurd rfl h⟩;rename_i s0 rs;split at h
 ·rename_i e;subst e;cases h;cases hv with
  |sl u M O l ha Z hr=>
  rename_i a0 cap;refine⟨a0,cap,rfl,M,l,λK=>?_⟩;obtain⟨y,rfl,S,W⟩:=ha K;refine⟨y.block,y.off,by rw[<-rC S],λi j q A=>⟨u i j,?_,Z i j,hr i j q A⟩⟩;have:=hW.L0 (W i j q A);rw[<-this];congr 2;omega
 cases h;rename_i o s0 off len;split at h;rename_i e;subst e;split at h;rename_i s' rs Z;split at h
 ·rename_i W;cases h;obtain⟨rfl,ζ⟩:=W;obtain⟨hlt,U,ty,hh,η,l,δ,J⟩:=hW.h o _ Z;cases hv with
  |osl hb S Q Y O hn γ=>
  rename_i cap N y;have hl:((rs.drop off).take len).length=len:=by rw[auU,awM];omega
  refine⟨some y,cap,by rw[hl],by omega,λr hr=>l r (List.mem_of_mem_drop (ayW hr)),λK=>?_⟩;have ε:0<((rs.drop off).take len).length:=List.length_pos_iff.2 K;have α:y.off=off*s':=by
   rcases Q with h|h
   omega;exact h
  have V:y=⟨o,off*s',none⟩:=by cases y;simp_all
  subst V;refine⟨o,off*s',rfl,λi j q A=>?_⟩;have β:at2 rs (off+i) j=some q:=by unfold at2 at A ⊢;rw[axZ]at A;split at A;rw[ayT]at A;exact A;simp at A
  obtain⟨u,h1,h2,h3⟩:=J (off+i) j q β;refine⟨u,?_,h2,h3⟩;rw[cell_of_row w o _ U ty (0,0) hh,<-h1];congr 1;rw[avV];omega
 cases h;cases h;cases h;cases h
theorem RT:∀{rows:P2_}{l:List UInt8},iM rows=some l->∃ns:I_,rows=ns.map (λn=>[PV.int .u8 n])/\l=ns.map λn=>UInt8.ofNat n.toNat
 |[],l,h=>by simp[iM]at h;exact⟨[],by simp[h]⟩
 |r::rows,l,h=>by unfold iM at h;split at h;exact⟨[],by simp at *⟩;rename_i m rest i;cases i;simp only[auR]at h;obtain⟨J,u,rfl⟩:=h;obtain⟨ns,y,A⟩:=RT u;exact⟨m::ns,by simp[y],by simp[A]⟩;cases h
theorem j4{src dst e:TypeId}{pv:PV}{v:Value}{rows:P2_}{l:List UInt8}(M:T.P.underlying src=some (.slice e))(K:T.P.underlying e=some (.int .u8))(J:T.P.underlying dst=some .string)
  (hW:bZ E H w) (Z:bE E pv v) (Y:dP H 1 pv=some rows) (hb:iM rows=some l):∃u,(convert src dst v).run T.P w=.ok u w/\bE E (.str l) u:=by
 obtain⟨S,cap,rfl,O,Q,y⟩:=su hW Z Y;obtain⟨ns,rfl,rfl⟩:=RT hb;by_cases A:ns=[]
 ·subst A;refine⟨.string ByteArray.empty,?_,bE.str ByteArray.empty⟩;cases S with
  |none=>exact run_convert_bytes_nil w src e M K _ _ dst J
  |some x =>rw[run_convert_bytes_string w src dst e _ _ _ M K J];have:=run_bytesToString (P:=T.P) w x 0 cap [] (by simp[Go.loadCells,Go.loadCellsFrom]);simpa using this
 obtain⟨b,off,rfl,V⟩:=y (by simpa using A);have W:(ns.map λn=>[PV.int .u8 n]).length=l'' ns:=by simp
 refine⟨.string (strOfNums ns),?_,?_⟩;rw[W];refine run_convert_bytes_arg w src e M K b off ns.length cap ns rfl (λi hi=>?_) dst J;obtain⟨u,N,h2,U⟩:=V i 0 (.int .u8 ns[i]) (by simp[at2,hi]);cases U;simp only[Nat.mul_one,awX]at N;rw[N];simp[List.getD,hi];have:=bE.str (E:=E) (strOfNums ns);rw[strOfNums_data]at this;exact this
theorem fS.len{ps:V_}{vs:List Value}(h:fS E ps vs):l'' vs=l'' ps:=by
 induction h with
 |nil=>rfl
 |cons _ _ i=>simp[i]
theorem fS.at_{ps:V_}{vs:List Value}(h:fS E ps vs):∀(j:Nat) p v,ps[j]?=some p->vs[j]?=some v->bE E p v:=by
 induction h with
 |nil=>intro j p v hp;simp at hp
 |cons h _ l=>
  intro j p v hp i;cases j with
  |zero=>simp at hp i;subst hp;subst i;exact h
  |succ j=>exact l j p v (by simpa using hp) (by simpa using i)
theorem fS.mono{i:Env}(l:E.le i){ps:V_}{vs:List Value}(h:fS E ps vs):fS i ps vs:=by
 induction h with
 |nil=>exact .nil
 |cons h _ u=>exact .cons (h.mono l) u
def POp.rU:POp->Bool
 | .call .. | .atT ..=>true
 |_=>false
theorem xK{P:Program}{o:Oper}{s:Sem Value}{v:Value}{w i:World}(h:execOp a.eval o=(do pure (.value (<-s)):Sem Next))(l:s.run P w=.ok v i):(execOp a.eval o).run P w=.ok (.value v) i:=by
 rw[h];simp[l]
end
open Go Go.RowKit
def KSh.desc:KSh->TypeDesc
 | .int k=>.int k
 | .bool=>.bool
 | .str=>.string
def KSh.sc:KSh->Sc
 | .int _=>.int
 | .bool=>.bool
 | .str=>.str
def KS.pv:KS->PV
 | .int k n=>.int k n
 | .bool b=>.bool b
 | .str s=>.str s
section
variable {T:Tbl} {n:Nat} {E:Env} {F:PF} {H:PH} {a:Act} {w:World}
theorem vq{α:Type}[BEq α][LawfulBEq α][DecidableEq α](a b:α):(a==b)=decide (a=b):=by
 by_cases h:a=b<;>simp[h]
theorem KS.U5{pv:PV}{v:Value}{k:KS}(h:bE E pv v)(i:KS.of pv=some k):v=k.val:=by
 unfold KS.of at i;split at i<;>cases i<;>cases h;rfl;rfl;simp[KS.val]
theorem KS.akI(k:KS):bE E k.pv k.val:=by
 cases k with
 |int k n=>exact .int k n
 |bool b=>exact .bool b
 |str s =>have:=bE.str (E:=E) ⟨s.toArray⟩;simpa[KS.pv,KS.val]using this
theorem KS.Mz:∀{ps:V_}{l:List KS}{vs:List Value},KS.ofs ps=some l->l'' vs=l'' ps->(∀(j:Nat) p v,ps[j]?=some p->vs[j]?=some v->bE E p v)->vs=l.map KS.val
 |[],l,vs,h,i,_=>by simp[KS.ofs]at h;subst h;simp at i;subst i;rfl
 |p::ps,l,vs,h,i,A=>by
  simp only[KS.ofs]at h;split at h
  ·rename_i k M J K;cases h;cases vs with
   |nil=>simp at i
   |cons v vs =>have e2:=KS.Mz (vs:=vs) K (by simpa using i) λj q u x y=>A (j+1) q u (by simpa using x) (by simpa using y);rw[KS.U5 (A 0 p v rfl rfl) J,e2];rfl
  cases h
theorem zp{sh:MSh}{pv:PV}{v:Value}{k:List KS}(h:bE E pv v)(A:keyOf sh pv=some k):v=jM sh k/\k.map KS.sh=sh.2/\(sh.1=false->∃s,k=[s]):=by
 obtain⟨b,l⟩:=sh;unfold keyOf at A;split at A;rename_i cs hb;simp only at hb;subst hb;simp only[ayP]at A;obtain⟨Q,J,i⟩:=A;split at i
 ·rename_i K;cases i;cases h with
  |agg vs N M O=>
  refine⟨?_,K,by simp⟩;have:=KS.Mz (vs:=vs.toList) J (by simpa using N) λj p u x y=>O j p u x (by simpa using y);simp only[jM,if_true,Value.agg.injEq];rw[<-this]
 cases i;rename_i v' hb;simp only at hb;subst hb;simp only[ayP]at A;obtain⟨s,J,i⟩:=A;split at i;rename_i K;cases i;exact⟨by simp[jM,KS.U5 h J],by simpa using K,λ_=>⟨s,rfl⟩⟩;cases i;cases A
theorem yE{t:TypeId}{s:KSh}(h:T.EQ t=some s):T.P.underlying t=some s.desc/\T.scalar t=some s.sc:=by
 unfold Tbl.EQ at h;unfold Tbl.scalar;split at h<;>cases h<;>(rename_i i;rw[i];exact⟨rfl,rfl⟩)
theorem K7{s:KSh}{x y:KS}(l:x.sh=s)(i:y.sh=s):Instr.sameNow s.desc x.val y.val=some (decide (x=y)):=by
 subst l;cases x<;>cases y<;>simp[KS.sh]at i;subst i;simp[KSh.desc,KS.sh,KS.val,Instr.sameNow];exact vq _ _;simp[KSh.desc,KS.sh,KS.val,Instr.sameNow];exact vq _ _;rename_i a b;simp only[KSh.desc,KS.sh,KS.val,Instr.sameNow,awN.injEq,KS.str.injEq];rw[beq_toListBytes,ByteArray.toList_eq,ByteArray.toList_eq];simp;exact vq _ _
theorem ny:∀{i:List Field}{k:Nat}{l:List KSh},T.oH k i=some l->T.wD k i=some (l.map KSh.sc)
 |[],k,l,h=>by simp[Tbl.oH]at h;subst h;rfl
 |f::i,k,l,h=>by simp only[Tbl.oH]at h;split at h;rename_i c cs u y;split at h;rename_i A;cases h;simp only[Tbl.wD,(yE u).2,ny y];rw[aD A];rfl;cases h;cases h
theorem Tr:∀{l:List KSh}{xs ys:List KS},xs.map KS.sh=l->ys.map KS.sh=l->PV.eqs (l.map KSh.sc) (xs.map KS.pv) (ys.map KS.pv)=some (decide (xs=ys))
 |[],xs,ys,i,u=>by simp at i u;subst i;subst u;simp[PV.eqs]
 |s::l,xs,ys,i,u=>by
  cases xs with
  |nil=>simp at i
  |cons x xs=>
  cases ys with
  |nil=>simp at u
  |cons y ys=>
  simp only[avH,List.cons.injEq]at i u;have K:PV.eq1 s.sc x.pv y.pv=some (decide (x=y)):=by obtain⟨J,-⟩:=i;obtain⟨A,-⟩:=u;subst J;cases x<;>cases y<;>simp[KS.sh]at A;subst A;simp[KSh.sc,KS.sh,KS.pv,PV.eq1];exact vq _ _;simp[KSh.sc,KS.sh,KS.pv,PV.eq1];exact vq _ _;simp[KSh.sc,KS.sh,KS.pv,PV.eq1];exact vq _ _
  simp only[avH,PV.eqs,K];by_cases e:x=y;subst e;simp only[decide_true,Tr i.2 u.2];simp;simp only[e,decide_false,auD];have M:l'' xs=l'' l:=by rw[<-i.2];simp
  have N:l'' ys=l'' l:=by rw[<-u.2];simp
  rw[aD ⟨M,N⟩];simp[e]
theorem Ts{t:TypeId}{K:Array Field}{l:List KSh}(N:T.P.underlying t=some (.struct K))(hp:T.P.stoodInHeld t=false)(U:T.oH 0 K.toList=some l){x y:List KS}(V:x.map KS.sh=l)(W:y.map KS.sh=l) :
  (Op.equal t (jM (true,l) x) (jM (true,l) y)).run T.P w=.ok (decide (x=y)) w:=by
 have A:T.P.fieldsOf t=K:=by simp[Program.fieldsOf,N]
 have O:∀(z:List KS)(j:Nat) q u,(z.map KS.pv)[j]?=some q->(z.map KS.val).toArray[0+j]?=some u->bE (E:=⟨λ_=>none,λ_=>none,λ_=>0⟩) q u:=by intro z j q u i M;simp only[avC,auR,avA,List.getElem?_toArray]at i M;obtain⟨k,S,rfl⟩:=i;obtain⟨Y,J,rfl⟩:=M;rw[S]at J;cases J;exact KS.akI k
 have Q:=TJ (w:=w) 9998 (x.map KS.val).toArray (y.map KS.val).toArray K.toList (l.map KSh.sc) 0 (x.map KS.pv) (y.map KS.pv) _ (ny U) (Tr V W) (O x) (O y) bC bC;have i:=run_equalIn_struct w 9999 t (x.map KS.val).toArray (y.map KS.val).toArray (by rw[A];exact N) hp;rw[A,Q]at i;simpa[Op.equal,Op.maxDepth,jM]using i
def Found(L:List (List KS × PV))(u:List MapEntry)(k:List KS)(i:Nat)(r:Option (Nat × Value)):Prop:=
 match rF k L i with
 |none=>r=none
 |some (j,pv)=>∃l:MapEntry,i<=j/\u[j-i]?=some l/\L[j-i]?=some (k,pv)/\r=some (j,l.val)
theorem Found.next{L:List (List KS × PV)}{u:List MapEntry}{k:List KS}{i:Nat}{r:Option (Nat × Value)}{e:List KS × PV}{y:MapEntry}(h:Found L u k (i+1) r)(l:e.1≠k):Found (e::L) (y::u) k i r:=by
 unfold Found at h ⊢;simp only[rF,aB l];split at h;exact h;rename_i j pv N;obtain⟨x,M,A,J,K⟩:=h;refine⟨x,by omega,?_,?_,K⟩;rw[show j-i=(j-(i+1))+1 by omega];exact A;rw[show j-i=(j-(i+1))+1 by omega];exact J
theorem Found.here{L:List (List KS × PV)}{y:List MapEntry}{k:List KS}{i:Nat}{e:List KS × PV}{l:MapEntry}(u:e.1=k):Found (e::L) (l::y) k i (some (i,l.val)):=by
 unfold Found;simp only[rF,aD u];refine⟨l,auG _,by simp,?_,rfl⟩;subst u;simp
def wR(sh:MSh)(L:List (List KS × PV))(u:List MapEntry):Prop:=
 u.length=l'' L/\∀(i:Nat) e l,L[i]?=some e->u[i]?=some l->e.1.map KS.sh=sh.2/\l.key=jM sh e.1
theorem wR.tail{sh:MSh}{e:List KS × PV}{L:List (List KS × PV)}{u:MapEntry}{l:List MapEntry}(h:wR sh (e::L) (u::l)):wR sh L l:=
 ⟨by simpa using h.1,λi x y a b=>h.2 (i+1) x y (by simpa using a) (by simpa using b)⟩
theorem ZH{s:KSh}{x:KS}(K:x.sh=s):∀{L:List (List KS × PV)}{l:List MapEntry}{i:Nat},wR (false,[s]) L l->∃r,Instr.findNow s.desc x.val l i=some r/\Found L l [x] i r
 |[],l,i,h=>by
  have:l=[]:=by simpa using h.1
  subst this;exact⟨none,rfl,rfl⟩
 |e::L,l,i,h=>by
  cases l with
  |nil=>have:=h.1;simp at this
  |cons J l=>
  obtain⟨A,N⟩:=h.2 0 e J rfl rfl;obtain⟨M,S⟩:=e;cases M with
  |nil=>simp at A
  |cons y ys=>
   simp only[avH,List.cons.injEq,List.map_eq_nil_iff]at A;obtain⟨Q,rfl⟩:=A;have O:J.key=y.val:=by rw[N];rfl
   simp only[Instr.findNow,O,K7 K Q];by_cases u:x=y;subst u;simp only[decide_true];exact⟨_,rfl,Found.here rfl⟩;simp only[u,decide_false];obtain⟨r,g1,g2⟩:=ZH K (i:=i+1) h.tail;exact⟨r,g1,g2.next (by simp;exact λe=>u e.symm)⟩
theorem KX{t:TypeId}{A:Array Field}{l:List KSh}(K:T.P.underlying t=some (.struct A))(hp:T.P.stoodInHeld t=false)(J:T.oH 0 A.toList=some l){x:List KS}(M:x.map KS.sh=l) :
  ∀{L:List (List KS × PV)}{u:List MapEntry}{i:Nat},wR (true,l) L u->∃r,(Instr.findAsking t (jM (true,l) x) u i).run T.P w=.ok r w/\Found L u x i r
 |[],u,i,h=>by
  have:u=[]:=by simpa using h.1
  subst this;exact⟨none,rfl,rfl⟩
 |e::L,u,i,h=>by
  cases u with
  |nil=>have:=h.1;simp at this
  |cons N u=>
  obtain⟨O,Q⟩:=h.2 0 e N rfl rfl;simp only[Instr.findAsking,Sem.run_bind,Q,Ts K hp J M O,Result.andThen_ok];by_cases y:x=e.1;subst y;simp only[decide_true,if_true,Sem.run_pure];exact⟨_,rfl,Found.here rfl⟩;simp only[y,decide_false,awQ,if_false];obtain⟨r,g1,g2⟩:=KX K hp J M (i:=i+1) h.tail;exact⟨r,g1,g2.next (λe=>y e.symm)⟩
theorem LD{t:TypeId}{sh:MSh}(h:T.oT t=some sh):(∃s,sh=(false,[s])/\T.EQ t=some s)\/(∃i l,sh=(true,l)/\T.P.underlying t=some (.struct i)/\T.P.stoodInHeld t=false/\T.oH 0 i.toList=some l):=by
 unfold Tbl.oT at h;split at h;rename_i i A;split at h;rename_i hp;simp only[auR]at h;obtain⟨l,u,rfl⟩:=h;exact .inr ⟨i,l,rfl,A,hp,u⟩;cases h;simp only[auR]at h;obtain⟨s,y,rfl⟩:=h;exact .inl ⟨s,rfl,y⟩
theorem RV{t:TypeId}{sh:MSh}(J:T.oT t=some sh){k:List KS}(y:k.map KS.sh=sh.2){L:List (List KS × PV)}{u:List MapEntry}(h:wR sh L u) :
  ∃r,(Instr.findKey t (jM sh k) u).run T.P w=.ok r w/\Found L u k 0 r:=by
 rcases LD J with⟨s,rfl,M⟩|⟨fs,l,rfl,hu,hp,hl⟩
 ·have K:=(yE M).1;cases k with
  |nil=>simp at y
  |cons x xs =>simp only[avH,List.cons.injEq,List.map_eq_nil_iff]at y;obtain⟨O,rfl⟩:=y;obtain⟨r,g1,g2⟩:=ZH O (i:=0) h;refine⟨r,?_,g2⟩;have N:jM (false,[s]) [x]=x.val:=rfl;simp only[Instr.findKey,Sem.run_bind,run_underlying K,Result.andThen_ok,N,g1,Sem.run_pure]
 ·obtain⟨r,g1,g2⟩:=KX (w:=w) hu hp hl y (i:=0) h;cases u with
  |nil=>
   have:L=[]:=by simpa using h.1.symm
   subst this;refine⟨none,?_,rfl⟩;simp[Instr.findKey,run_underlying hu,Instr.findNow]
  |cons e u=>
   refine⟨r,?_,g2⟩;have A:Instr.findNow (.struct fs) (jM (true,l) k) (e::u) 0=none:=by simp[Instr.findNow,Instr.sameNow,jM]
   simp only[Instr.findKey,Sem.run_bind,run_underlying hu,Result.andThen_ok,A];exact g1
theorem YW{t:TypeId}{s:KSh}(i:T.EQ t=some s)(em:Bool)(d:Nat)(x:KS):(Instr.checkKey em (d+1) t x.val).run T.P w=.ok () w:=by
 have l:=(yE i).1;simp only[Instr.checkKey,Sem.run_bind,run_underlying l,Result.andThen_ok];cases s<;>cases x<;>rfl
theorem KQ{t:TypeId}{sh:MSh}(M:T.oT t=some sh){k:List KS}(J:k.map KS.sh=sh.2)(em:Bool):(Instr.checkKey em 10000 t (jM sh k)).run T.P w=.ok () w:=by
 rcases LD M with⟨s,rfl,A⟩|⟨u,l,rfl,hu,hp,hl⟩
 ·cases k with
  |nil=>simp at J
  |cons x xs =>simp only[avH,List.cons.injEq,List.map_eq_nil_iff]at J;obtain⟨V,rfl⟩:=J;exact YW A em 9999 x
 simp only[jM,if_true];obtain⟨m,hm⟩:∃m:Nat,m=9999:=⟨_,rfl⟩;rw[show(10000:Nat)=m+1 by omega];simp only[Instr.checkKey,Sem.run_bind,run_underlying hu,Result.andThen_ok];rw[<-Array.forIn_toList];have N:∀(u:List Field)(l:List KSh)(j:Nat),T.oH j u=some l->(∀(i:Nat) s,l[i]?=some s->∃x:KS,(k.map KS.val).toArray[j+i]?=some x.val) ->
   (forIn u PUnit.unit (λf (_:PUnit)=>(do
    if f.name≠"_" then
     Instr.checkKey em m f.type (<-part f.type (k.map KS.val).toArray f.offset)
     pure (ForInStep.yield PUnit.unit)
    else pure (ForInStep.yield PUnit.unit):Sem (ForInStep PUnit)))).run T.P w=.ok PUnit.unit w:=by
  intro u
  induction u with
  |nil=>intro l j _ _;simp
  |cons f u Z=>
   intro l j h U;simp only[Tbl.oH]at h;split at h;rename_i c cs O W;split at h;rename_i Q;cases h;obtain⟨x,V⟩:=U 0 c rfl;simp only[List.forIn_cons,Sem.run_bind,Sem.run_ite];rw[aD Q.1];have K:=PK (w:=w) (yE O).2 (k.map KS.val).toArray f.offset x.val (by rw[Q.2];simpa using V);simp only[Sem.run_bind,K,Result.andThen_ok];rw[show m=9998+1 by omega,YW O em 9998 x,<-show m=9998+1 by omega];simp only[Result.andThen_ok,Sem.run_pure];exact Z cs (j+1) W λi s A=>by obtain⟨y,Y⟩:=U (i+1) s (by simpa using A);exact⟨y,by rw[show j+1+i=j+(i+1) by omega];exact Y⟩
   cases h;cases h
 have:=N u.toList l 0 hl λi s A=>by
  have S:l'' k=l'' l:=by rw[show l=k.map KS.sh from J.symm];simp
  have hi:i<l'' l:=(avP.1 A).1;exact⟨k[i],by simp[show i<k.length by omega]⟩
 simp at this ⊢;rw[this];rfl
theorem Ku{L:List (List KS × PV)}{u:List MapEntry}{k:List KS}{r:Option (Nat × Value)}(h:Found L u k 0 r)(N:∀(i:Nat)(e:List KS × PV)(l:MapEntry),L[i]?=some e->u[i]?=some l->bE E e.2 l.val) :
  (mapOf L k=none/\r=none)\/∃j pv v,mapOf L k=some pv/\r=some (j,v)/\bE E pv v:=by
 unfold Found at h;unfold mapOf;split at h;rename_i M;exact .inl ⟨by rw[M];rfl,h⟩;rename_i j pv K;obtain⟨l,-,y,A,J⟩:=h;exact .inr ⟨j,pv,l.val,by rw[K];rfl,J,N _ _ l A y⟩
theorem Gt{t kt U:TypeId}{sh:MSh}{y:TypeInfo}{z:Value}{pz pk:PV}{x k:Value}{o:Nat}{g:mA}{l:List KS}{ok:Bool}(ht:T.P.underlying t=some (.map kt U))(Q:T.oT kt=some sh)
  (hi:T.P.info? U=some y) (hz:y.zero=some z) (O:ofValue z=some pz) (hx:bE E (.map o) x) (hk:bE E pk k) (ho:H o=some (.map sh g)) (M:keyOf sh pk=some l) (hW:bZ E H w) :
  ∃v,(Instr.lookup t x k ok).run T.P w=.ok v w/\bE E (if ok then .tup [(g l).getD pz,.bool (g l).isSome]else(g l).getD pz) v:=by
 cases hx;obtain⟨hlt,es,A,L,hh,⟨Y,-⟩,rfl,J⟩:=hW.h o _ ho;obtain⟨W,N,-⟩:=zp hk M;have V:wR sh L es.toList:=⟨by simpa using Y,λi e S a b=>by have:=J i e S a (by simpa using b);exact⟨this.1,this.2.1⟩⟩;obtain⟨r,g1,g2⟩:=RV (w:=w) Q N V;have g3:=Ku (E:=E) g2 λi e S a b=>(J i e S a (by simpa using b)).2.2;subst W;have K:(getObj o).run T.P w=.ok (.map es A) w:=by simp[getObj,Sem.run,hh]
 have Z:(zeroValue U).run T.P w=.ok z w:=by simp[zeroValue,typeInfo,run_program,hi,hz]
 simp only[Instr.lookup,Sem.run_bind,run_underlying ht,Result.andThen_ok,K,Sem.run_pure,KQ Q N,g1];rcases g3 with⟨g4,rfl⟩|⟨j,pv,v,g4,rfl,hr⟩
 simp only[Z,Sem.run_bind,Result.andThen_ok,Sem.run_pure,g4,Option.getD_none,Option.isSome_none];cases ok;exact⟨z,rfl,AU O⟩
 ·refine⟨_,rfl,.tup #[z,.bool false] rfl λj p u a b=>?_⟩
  match j with
  |0=>simp at a b;subst a;subst b;exact AU O
  |1=>simp at a b;subst a;subst b;exact .bool _
  |j+2=>simp at a
 simp only[Sem.run_pure,Result.andThen_ok,g4,axC,Option.isSome_some];cases ok;exact⟨v,rfl,hr⟩
 ·refine⟨_,rfl,.tup #[v,.bool true] rfl λj p u a b=>?_⟩
  match j with
  |0=>simp at a b;subst a;subst b;exact hr
  |1=>simp at a b;subst a;subst b;exact .bool _
  |j+2=>simp at a
end
open Go Go.RowKit
section
variable {ds:List Deferred} {T:Tbl} {n:Nat} {E:Env} {F:PF} {H:PH} {a:Act} {w:World}
def Good(P:Program)(E:Env)(H:PH)(w:World)(o:Oper)(a:Act)(pv:PV):Prop:=
 ∃v l i,(execOp a.eval o).run P w=.ok (.value v) l/\bE i pv v/\bZ i H l/\Ext E H w i H l
theorem Good.mk'{P:Program}{o:Oper}{pv:PV}{v:Value}(hW:bZ E H w)(h:(execOp a.eval o).run P w=.ok (.value v) w)(r:bE E pv v):Good P E H w o a pv:=⟨v,w,E,h,r,hW,.refl E H w⟩
theorem Good.of{P:Program}{o:Oper}{pv:PV}{s:Sem Value}(J:execOp a.eval o=(do pure (.value (<-s)):Sem Next))(h:Yields P E H w s pv):Good P E H w o a pv:=by
 obtain⟨v,K,i,l,u,y,A⟩:=h;exact⟨v,K,i,xK J l,u,y,A⟩
theorem Good.val{P:Program}{o:Oper}{pv:PV}{s:Sem Value}(hW:bZ E H w)(u:execOp a.eval o=(do pure (.value (<-s)):Sem Next))(h:∃v,s.run P w=.ok v w/\bE E pv v):Good P E H w o a pv:=by
 obtain⟨v,i,l⟩:=h;exact .of u (Yields.same hW i l)
theorem Ob{t:TypeId}{o:Oper}{x:Operand}{lo hi mx:Option Operand}{p:aP}{pl ph pm:Option aP}{e:TypeId}{s:Nat}{pv:PV}(ho:o.op=.slice t x lo hi mx)(Y:T.P.underlying t=some (.slice e))(W:T.size e=some s)
  (hx:T.opd x=some p) (U:T.opt lo=some pl) (S:T.opt hi=some ph) (N:T.opt mx=some pm) (V:¬(mx.isSome=true/\hi.isNone=true)) (i:aZ (.slice s p pl ph pm) F H=some pv)
  (O:eP ds n E F a) (hW:bZ E H w) (Q:E.num=T.num):Good T.P E H w o a pv:=by
 refine Good.val hW (s:=Instr.sliceAt t (a.eval x) (lo.map a.eval) (hi.map a.eval) (mx.map a.eval)) (by unfold execOp;rw[ho]) ?_;have u:pm≠none->hi≠none:=λh e=>by
  subst e;cases mx with
  |none=>simp[Tbl.opt]at N;exact h N.symm
  |some y=>exact V ⟨rfl,rfl⟩
 simp only[aZ]at i;split at i;rename_i v Z;have r:=bK hx Z O Q;split at i;split at i;rename_i l h J A;refine JM (len:=0) Y W U S N r J A (.inl ⟨rfl,rfl⟩) ?_ O Q;split at i;exact .inl ⟨rfl,i⟩;simp only[ayP]at i;obtain⟨m,K,M⟩:=i;exact .inr ⟨u bC,m,K,M⟩;cases i;split at i;rename_i l h J A;refine JM Y W U S N r J A (.inr (.inl ⟨_,_,rfl,rfl⟩)) ?_ O Q;split at i;exact .inl ⟨rfl,i⟩;simp only[ayP]at i;obtain⟨m,K,M⟩:=i;exact .inr ⟨u bC,m,K,M⟩;cases i;split at i;rename_i l h J A;refine JM Y W U S N r J A (.inr (.inr ⟨_,_,_,rfl⟩)) ?_ O Q;split at i;exact .inl ⟨rfl,i⟩;simp only[ayP]at i;obtain⟨m,K,M⟩:=i;exact .inr ⟨u bC,m,K,M⟩;cases i;cases i;cases i
theorem oP{o:Oper}{c:Call}{b:Builtin}{s:Sem Value}{pv:PV}(y:o.op=.call c)(i:c.callee=.builtin b)(hb:∀cs,builtin b c.argTypes o.type cs (c.args.map a.eval)=(do pure (.value (<-s)):Sem Next))
  (hW:bZ E H w) (h:∃v,s.run T.P w=.ok v w/\bE E pv v):Good T.P E H w o a pv:=by
 obtain⟨v,l,u⟩:=h;refine .mk' hW ?_ u;unfold execOp;rw[y];simp[resolve,i,invoke,hb,l]
theorem adA{xs:Array Operand}{x:Operand}(h:xs.toList=[x])(f:Operand->Value):xs.map f=#[f x]:=by
 apply Array.ext';simp[h]
theorem N5{xs:Array Operand}{x y:Operand}(h:xs.toList=[x,y])(f:Operand->Value):xs.map f=#[f x,f y]:=by
 apply Array.ext';simp[h]
theorem ajD{α:Type}{xs:Array α}{x:α}(h:xs.toList=[x]):xs=#[x]:=by apply Array.ext';simp[h]
theorem size_data(s:ByteArray):l'' s.data.toList=s.size:=by rw[axV];rfl
theorem S0{o:Oper}{c:Call}{p:POp}{pv:PV}(W:o.op=.call c)(i:T.call o c=some p)(hw:p.eR=false)(hk:p.rU=false)(l:aZ p F H=some pv)
  (Q:eP ds n E F a) (hW:bZ E H w) (S:E.num=T.num):Good T.P E H w o a pv:=by
 unfold Tbl.call at i;split at i
 ·rename_i b J;split at i
  ·
   rename_i x t A V;have Z:=adA A a.eval;have e2:=ajD V;split at i
   ·rename_i k e O;cases i;simp[aZ,aP.ev]at l;subst l;refine oP (s:=Builtin.len_ c.argTypes o.type (c.args.map a.eval)) W J (λcs=>rfl) hW ⟨goInt k,?_,.int _ _⟩;rw[Z,e2];simp[Builtin.len_,run_underlying O]
   ·rename_i O;simp only[auR]at i;obtain⟨q,N,rfl⟩:=i;simp only[aZ]at l;split at l
    ·rename_i s0 K;cases l;have r:=bK N K Q S;generalize M:a.eval x=ex at r;cases r with
     |str s=>
     refine oP (s:=Builtin.len_ c.argTypes o.type (c.args.map a.eval)) W J (λcs=>rfl) hW ⟨goInt s.size,?_,?_⟩
     ·rw[Z,e2,M];simp[Builtin.len_,run_underlying O]
     ·rw[size_data];exact .int _ _
    ·cases l
   ·rename_i e O;simp only[auR]at i;obtain⟨q,N,rfl⟩:=i;have γ:∀(ad:Option Addr)(m cap:Nat),a.eval x=.slice ad m cap->Good T.P E H w o a (.int .i64 m):=by intro ad m cap M;refine oP (s:=Builtin.len_ c.argTypes o.type (c.args.map a.eval)) W J (λcs=>rfl) hW ⟨goInt m,?_,.int _ _⟩;rw[Z,e2,M];simp[Builtin.len_,run_underlying O]
    simp only[aZ,ayP]at l;obtain⟨u,K,l⟩:=l;have r:=bK N K Q S;generalize M:a.eval x=ex at r;cases u<;>simp only[PV.mB]at l<;>cases l
    all_goals
     cases r;exact γ _ _ _ M
   ·rename_i kt et O;simp only[auR]at i;obtain⟨q,N,rfl⟩:=i;simp only[aZ]at l;split at l
    ·rename_i m K;split at l
     ·rename_i sh g hg;cases l;have r:=bK N K Q S;generalize M:a.eval x=ex at r;cases r;obtain⟨hlt,es,U,L,hh,⟨β,α⟩,rfl,-⟩:=hW.h m _ hg;have Y:(getObj m).run T.P w=.ok (.map es U) w:=by simp[getObj,Sem.run,hh]
      refine oP (s:=Builtin.len_ c.argTypes o.type (c.args.map a.eval)) W J (λcs=>rfl) hW ⟨goInt es.size,?_,?_⟩
      ·rw[Z,e2,M];simp[Builtin.len_,run_underlying O,Y]
      ·rw[P3 α,<-β];exact .int _ _
     ·cases l
    ·cases l
   ·cases i
  ·
   split at i<;>try cases i
   split at i<;>try cases i
   split at i<;>cases i;simp[POp.eR]at hw
  ·
   rename_i x t A V;split at i
   ·rename_i e O;simp only[auR]at i;obtain⟨q,N,rfl⟩:=i;simp only[aZ]at l;split at l
    ·rename_i K;cases l;have r:=bK N K Q S;generalize M:a.eval x=ex at r;cases r;refine oP (s:=Builtin.cap_ c.argTypes o.type (c.args.map a.eval)) W J (λcs=>rfl) hW ⟨goInt 0,?_,.int _ _⟩;rw[adA A a.eval,ajD V,M];simp[Builtin.cap_,run_underlying O]
    ·cases l
   ·cases i
  ·
   rename_i x y A;split at i<;>cases i;rename_i p q hp N;simp only[aZ]at l;split at l
   ·rename_i k m k' m' h1 h2;have r1:=bK hp h1 Q S;have r2:=bK N h2 Q S;split at l
    ·cases l;generalize M:a.eval x=ex at r1;generalize hy:a.eval y=ey at r2;cases r1;cases r2;refine oP (s:=Builtin.max_ c.argTypes o.type (c.args.map a.eval)) W J (λcs=>rfl) hW ⟨_,?_,.int _ _⟩;rw[N5 A a.eval,M,hy,run_max_int2];simp
    ·cases l
   ·cases l
  ·
   rename_i x y A;split at i<;>cases i;rename_i p q hp N;simp only[aZ]at l;split at l
   ·rename_i k m k' m' h1 h2;have r1:=bK hp h1 Q S;have r2:=bK N h2 Q S;split at l
    ·cases l;generalize M:a.eval x=ex at r1;generalize hy:a.eval y=ey at r2;cases r1;cases r2;refine oP (s:=Builtin.min_ c.argTypes o.type (c.args.map a.eval)) W J (λcs=>rfl) hW ⟨_,?_,.int _ _⟩;rw[N5 A a.eval,M,hy,run_min_int2];simp
    ·cases l
   ·cases l
  ·cases i
 ·split at i
  ·split at i<;>cases i;simp[POp.rU]at hk
  ·cases i
 ·simp only[auR]at i;obtain⟨q,-,rfl⟩:=i;simp[POp.rU]at hk
 ·cases i
end
open Go Go.RowKit
section
variable {ds:List Deferred} {T:Tbl} {n:Nat} {E:Env} {F:PF} {H:PH} {a:Act} {w:World}
set_option maxHeartbeats 8000000 in
theorem Oc{o:Oper}{p:POp}{pv:PV}(J:T.op o=some p)(hn:p.iO=false)(hw:p.eR=false)(hk:p.rU=false)(A:aZ p F H=some pv)
  (O:eP ds n E F a) (hW:bZ E H w) (N:E.num=T.num):Good T.P E H w o a pv:=by
 unfold Tbl.op at J;split at J
 
 rename_i x M;simp only[auR]at J;obtain⟨q,Q,rfl⟩:=J;exact .mk' hW (v:=a.eval x) (by unfold execOp;rw[M];simp) (bK Q A O N)
 
 rename_i x M;simp only[auR]at J;obtain⟨q,Q,rfl⟩:=J;exact .mk' hW (v:=a.eval x) (by unfold execOp;rw[M];simp) (bK Q A O N)
 
 rename_i c x y M;split at J<;>cases J;rename_i p1 p2 p3 U Z h3;simp only[aZ]at A;split at A;rename_i t K;have r:=bK U K O N;generalize Y:a.eval c=ec at r;cases r;refine .mk' hW (v:=if t then a.eval x else a.eval y) (by unfold execOp;rw[M];simp[Y,asBool]) ?_;cases t;exact bK h3 (by simpa using A) O N;exact bK Z (by simpa using A) O N;cases A
 
 simp only[auR]at J;obtain⟨z,-,rfl⟩:=J;simp[POp.iO]at hn
 ·
  rename_i e x M;simp only[auR]at J;obtain⟨q,Q,rfl⟩:=J;generalize τ:T.wh o.dst=ro at *
  cases ro with
  |false=>simp[POp.iO]at hn
  |true =>simp only[aZ]at A;split at A;rename_i v K;split at A;rename_i U;cases A;exact .of (s:=Instr.box e (a.eval x)) (by unfold execOp;rw[M]) (Kf hW (bK Q K O N) U);cases A;cases A
 
 rename_i t parts M;split at J;rename_i z fs hz S;split at J;rename_i hm;simp only[auR]at J;obtain⟨pl,ε,rfl⟩:=J;simp only[aZ,auR]at A;obtain⟨out,β,rfl⟩:=A;have W:=YR (T:=T) (w:=w) hz (.inl ⟨fs,S,hm,ε⟩) β O N;refine Good.val hW ?_ W;unfold execOp;rw[M];cases J;rename_i z k e hz S;split at J;rename_i s V;simp only[auR]at J;obtain⟨pl,ε,rfl⟩:=J;simp only[aZ,auR]at A;obtain⟨out,β,rfl⟩:=A;have W:=YR (T:=T) (w:=w) hz (.inr ⟨k,e,s,S,V,ε⟩) β O N;refine Good.val hW ?_ W;unfold execOp;rw[M];cases J;cases J
 
 rename_i t len parts M;split at J;rename_i e S;split at J;rename_i s z pl V hz ε;split at J
 ·rename_i ν;cases J;generalize τ:T.wh o.dst=ro at *
  cases ro with
  |false=>simp[POp.iO]at hn
  |true =>simp only[aZ]at A;split at A;rename_i ι;simp only[auR]at A;obtain⟨out,β,rfl⟩:=A;have W:=vt (T:=T) S V hz ν.1 ν.2 ε ι.2 β O N hW;refine Good.of ?_ W;unfold execOp;rw[M];cases A
 cases J;cases J;cases J
 
 rename_i t x M;split at J;rename_i k q hg V Q;cases J;simp only[aZ]at A;split at A;rename_i v K;simp only[auR]at A;obtain⟨cs,δ,rfl⟩:=A;have Y:=bK Q K O N;have W:=ZR (T:=T) hg V hW Y δ;refine Good.val hW (s:=Instr.loadAt t (a.eval x)) ?_ W;unfold execOp;rw[M];cases A;rename_i k q hg Q;cases J;simp only[aZ]at A;split at A;rename_i v K;split at A;rename_i v' δ;cases A;have Y:=bK Q K O N;have W:=n6 (T:=T) hg hW Y δ;refine Good.val hW (s:=Instr.loadAt t (a.eval x)) ?_ W;unfold execOp;rw[M];cases A;cases A;cases J
 
 split at J<;>cases J;simp[POp.eR]at hw
 
 rename_i x M;simp only[auR]at J;obtain⟨q,Q,rfl⟩:=J;simp only[aZ]at A;split at A;rename_i K;cases A;have r:=bK Q K O N;refine .mk' hW (v:=a.eval x) ?_ r;generalize Y:a.eval x=ex at r;cases r;unfold execOp;rw[M];simp[Y];rename_i K;cases A;have r:=bK Q K O N;refine .mk' hW (v:=a.eval x) ?_ r;obtain⟨b,off,Y⟩:=UZ r;unfold execOp;rw[M];simp[Y];cases A
 
 rename_i b t x y yt M;split at J;rename_i p q hp Q;have α:∀b',b=b'->aZ (.bin b' p q) F H=some pv->Good T.P E H w o a pv:=by intro b' hb A;subst hb;simp only[aZ]at A;split at A;rename_i v1 v2 U Z;exact .val hW (s:=do eqGuard b t x y (a.eval x) (a.eval y);binOp b t (a.eval x) (a.eval y)) (by unfold execOp;rw[M]) (Sy (bK hp U O N) (bK Q Z O N) A t x y);cases A
 have γ:∀neg,b=(if neg then .neq else .eql)->T.P.underlying t=some .bool->aZ (.eqb neg p q) F H=some pv->Good T.P E H w o a pv:=by intro neg hb ht A;simp only[aZ]at A;split at A;rename_i v1 v2 U Z;cases A;have r1:=bK hp U O N;have r2:=bK Q Z O N;generalize Y:a.eval x=ex at r1;generalize W:a.eval y=ey at r2;cases r1;cases r2;refine .val hW (s:=do eqGuard b t x y (a.eval x) (a.eval y);binOp b t (a.eval x) (a.eval y)) (by unfold execOp;rw[M]) ⟨_,?_,.bool _⟩;rw[Y,W,hb];exact Tq neg v1 v2 x y ht;cases A
 have ζ:∀neg {e},b=(if neg then .neq else .eql)->T.P.underlying t=some (.slice e)->q=.const .aE->aZ (.isNil neg p) F H=some pv->Good T.P E H w o a pv:=by
  intro neg e hb ht σ A;subst σ;simp only[aZ]at A;cases U:p.ev F with
  |none=>rw[U]at A;cases A
  |some v1 =>rw[U,ayE,auR]at A;obtain⟨c,η,rfl⟩:=A;have r1:=bK hp U O N;have r2:=bK (F:=F) Q rfl O N;generalize Y:a.eval x=ex at r1;generalize W:a.eval y=ey at r2;cases r2;refine .val hW (s:=do eqGuard b t x y (a.eval x) (a.eval y);binOp b t (a.eval x) (a.eval y)) (by unfold execOp;rw[M]) ⟨_,?_,.bool _⟩;rw[Y,W,hb];exact Ks neg r1 η x y ht
 have μ:∀neg ks,b=(if neg then .neq else .eql)->T.flat t=some ks->aZ (.eqs neg ks p q) F H=some pv->Good T.P E H w o a pv:=by intro neg ks hb ht A;simp only[aZ]at A;split at A;rename_i v1 v2 U Z;simp only[auR]at A;obtain⟨c,η,rfl⟩:=A;refine .val hW (s:=do eqGuard b t x y (a.eval x) (a.eval y);binOp b t (a.eval x) (a.eval y)) (by unfold execOp;rw[M]) ⟨_,?_,.bool _⟩;rw[hb];exact Oz neg (bK hp U O N) (bK Q Z O N) η x y ht;cases A
 split at J;split at J;cases J;exact α _ rfl A;cases J;exact α _ rfl A;rename_i ht;cases J;exact γ false rfl ht A;simp only[auR]at J;obtain⟨ks,θ,rfl⟩:=J;exact μ false ks rfl θ A;rename_i ht;split at J;cases J;exact ζ false rfl ht rfl A;cases J;cases J;split at J;cases J;exact α _ rfl A;cases J;exact α _ rfl A;rename_i ht;cases J;exact γ true rfl ht A;simp only[auR]at J;obtain⟨ks,θ,rfl⟩:=J;exact μ true ks rfl θ A;rename_i ht;split at J;cases J;exact ζ true rfl ht rfl A;cases J;cases J;cases J;exact α _ rfl A;cases J
 
 rename_i u t x M;simp only[auR]at J;obtain⟨q,Q,rfl⟩:=J;simp only[aZ]at A;split at A;rename_i v K;exact .val hW (s:=Op.unary u (a.eval x)) (by unfold execOp;rw[M]) (abU (bK Q K O N) A);cases A
 
 rename_i s d x M;split at J;rename_i k k' q V hd Q;cases J;simp only[aZ]at A;split at A;rename_i m K;cases A;have r:=bK Q K O N;generalize Y:a.eval x=ex at r;cases r;refine .val hW (s:=convert s d (a.eval x)) (by unfold execOp;rw[M]) ⟨_,?_,.int _ _⟩;rw[Y];simp[convert,run_underlying V,run_underlying hd,Conv.intToInt];cases A;rename_i q V hd Q;cases J;simp only[aZ]at A;split at A;rename_i l K;cases A;have r:=bK Q K O N;refine .val hW (s:=convert s d (a.eval x)) (by unfold execOp;rw[M]) ⟨a.eval x,?_,r⟩;generalize Y:a.eval x=ex at r;cases r;simp[convert,run_underlying V,run_underlying hd];cases A;rename_i e q V hd Q;split at J;rename_i he;cases J;simp only[aZ]at A;split at A;rename_i v K;split at A;rename_i rows hr;simp only[auR]at A;obtain⟨l,hl,rfl⟩:=A;exact .val hW (s:=convert s d (a.eval x)) (by unfold execOp;rw[M]) (j4 V he hd hW (bK Q K O N) hr hl);cases A;cases A;cases J;cases J
 
 rename_i f first captured M
 split at J;rename_i m cs hm δ;split at J;rename_i hf;cases J;simp only[aZ,auR]at A;obtain⟨vs,χ,rfl⟩:=A;have r:=DP δ χ O N;refine .val hW (s:=Instr.makeFunc (.func f) (first.map a.eval) (captured.map a.eval)) (by unfold execOp;rw[M]) ⟨.func (.func f) #[] (captured.map a.eval),?_,?_⟩;have:first=#[]:=Array.eq_empty_of_size_eq_zero hf.2
 subst this;simp[Instr.makeFunc];have hl:=r.len;have:=bE.fn (E:=E) (name:=m) (captured:=vs) (captured.map a.eval) (by simpa using hl) (λj p v a b=>r.at_ j p v a (by simpa using b));rw[N,hf.1]at this;exact this;cases J;cases J
 
 split at J;simp only[auR]at J;obtain⟨z,-,rfl⟩:=J;simp[POp.iO]at hn;cases J
 
 rename_i t x k ok M;split at J;rename_i kt et S;split at J;rename_i sh z p1 q1 φ hz hp Q;simp only[auR]at J;obtain⟨pz,ρ,rfl⟩:=J;simp only[ayP]at hz;obtain⟨ψ,hi,hz⟩:=hz;simp only[aZ]at A;split at A;rename_i m kv U Z;split at A;rename_i Δ g Γ h3 h4;split at A;rename_i he;subst he;cases A;exact .val hW (s:=Instr.lookup t (a.eval x) (a.eval k) ok) (by unfold execOp;rw[M]) (Gt S φ hi hz ρ (bK hp U O N) (bK Q Z O N) h3 h4 hW);cases A;cases A;cases A;cases J;cases J
 
 split at J;split at J<;>cases J;simp[POp.eR]at hw;cases J
 
 split at J;split at J<;>cases J;simp[POp.eR]at hw;cases J
 
 split at J;split at J;split at J<;>cases J;simp[POp.iO]at hn;cases J;cases J
 
 rename_i t x lo hi mx M;split at J;rename_i e p l h m S Y hl hh hm;split at J;cases J;rename_i ξ;simp only[auR]at J;obtain⟨s,V,rfl⟩:=J;exact Ob M S V Y hl hh hm ξ A O hW N;rename_i p l h S Y hl hh hm;cases J;have ο:mx=none:=by
  cases mx with
  |none=>rfl
  |some y=>simp only[Tbl.opt,auR]at hm;obtain⟨_,-,Q⟩:=hm;cases Q
 subst ο;simp only[aZ]at A;split at A;rename_i str K;split at A;rename_i li ω bl bh;split at A;rename_i hb;cases A;exact .val hW (s:=Instr.sliceAt t (a.eval x) (lo.map a.eval) (hi.map a.eval) (Option.map a.eval none)) (by unfold execOp;rw[M]) (xy S hl hh (bK Y K O N) bl bh hb.1 hb.2.1 hb.2.2 O N);cases A;cases A;cases A;rename_i n' e p S Y hl hh hm;have κ:∀{y:Option Operand},T.opt y=some none->y=none:=by
  intro y W;cases y with
  |none=>rfl
  |some y=>simp only[Tbl.opt,auR]at W;obtain⟨_,-,Q⟩:=W;cases Q
 have U:=κ hl;have Z:=κ hh;have h3:=κ hm;subst U Z h3;simp only[auR]at J;obtain⟨s,V,rfl⟩:=J;simp only[aZ]at A;split at A;rename_i cs K;split at A;rename_i hb;cases A;exact .val hW (s:=Instr.sliceAt t (a.eval x) (Option.map a.eval none) (Option.map a.eval none) (Option.map a.eval none)) (by unfold execOp;rw[M]) (Jd S V (bK Y K O N) hb.1 hb.2.2 O N);cases A;cases A;cases J
 
 rename_i t x f M;split at J;rename_i fs q S Q;split at J;rename_i fd hf;split at J;rename_i s V;cases J;simp only[aZ]at A;split at A;rename_i K;cases A;exact .val hW (s:=Instr.fieldAt t (a.eval x) f) (by unfold execOp;rw[M]) (TL S hf V (bK Q K O N) (.inl ⟨_,_,_,_,rfl,rfl⟩));rename_i K;cases A;exact .val hW (s:=Instr.fieldAt t (a.eval x) f) (by unfold execOp;rw[M]) (TL S hf V (bK Q K O N) (.inr ⟨_,rfl,rfl⟩));cases A;cases J;cases J;cases J
 
 rename_i t x f M;split at J;rename_i fs q S Q;split at J;rename_i fd hf;split at J;rename_i k hg V;cases J;simp only[aZ]at A;split at A;rename_i cs K;split at A;rename_i ι;cases A;exact .val hW (s:=Instr.field t (a.eval x) f) (by unfold execOp;rw[M]) (O1 S hf hg V (bK Q K O N) ι);cases A;cases A;rename_i k hg;cases J;simp only[aZ]at A;split at A;rename_i cs K;exact .val hW (s:=Instr.field t (a.eval x) f) (by unfold execOp;rw[M]) (Tu S hf hg (bK Q K O N) A);cases A;cases J;cases J;cases J
 
 rename_i t x i M;split at J;rename_i e p q S hp Q;simp only[auR]at J;obtain⟨s,V,rfl⟩:=J;simp only[aZ]at A;split at A;rename_i s0 rows k m U Z;have r1:=bK hp U O N;have r2:=bK Q Z O N;generalize W:a.eval i=ey at r2;cases r2;split at A;rename_i J;obtain⟨rfl,h0⟩:=J;split at A;rename_i r hr;cases A;refine .val hW (s:=Instr.indexAt t (a.eval x) (a.eval i)) (by unfold execOp;rw[M]) ?_;rw[W];exact afT S V r1 h0 hr;cases A;cases A;rename_i o' s0 off len k m U Z;have r1:=bK hp U O N;have r2:=bK Q Z O N;generalize W:a.eval i=ey at r2;cases r2;split at A;rename_i J;obtain⟨rfl,h0,hi⟩:=J;cases A;refine .val hW (s:=Instr.indexAt t (a.eval x) (a.eval i)) (by unfold execOp;rw[M]) ?_;rw[W];exact Zj S V r1 h0 hi;cases A;cases A;rename_i e p q k S hp Q;simp only[auR]at J;obtain⟨s,V,rfl⟩:=J;simp only[aZ]at A;split at A;rename_i U Z;have r1:=bK hp U O N;have r2:=bK Q Z O N;generalize W:a.eval i=ey at r2;cases r2;split at A;rename_i J;cases A;refine .val hW (s:=Instr.indexAt t (a.eval x) (a.eval i)) (by unfold execOp;rw[M]) ?_;rw[W];exact nr S V r1 J.1 J.2 (.inl ⟨_,_,_,_,rfl,rfl⟩);cases A;rename_i U Z;have r1:=bK hp U O N;have r2:=bK Q Z O N;generalize W:a.eval i=ey at r2;cases r2;split at A;rename_i J;cases A;refine .val hW (s:=Instr.indexAt t (a.eval x) (a.eval i)) (by unfold execOp;rw[M]) ?_;rw[W];exact nr S V r1 J.1 J.2 (.inr ⟨_,rfl,rfl⟩);cases A;cases A;cases J
 
 rename_i t x i M;split at J;rename_i e p q k S hp Q;split at J;rename_i s g V hg;cases J;simp only[aZ]at A;split at A;rename_i U Z;have r1:=bK hp U O N;have r2:=bK Q Z O N;generalize W:a.eval i=ey at r2;cases r2;split at A;rename_i J;refine .val hW (s:=Instr.index t (a.eval x) (a.eval i)) (by unfold execOp;rw[M]) ?_;rw[W];exact Pq S V hg r1 J.1 J.2 A;cases A;cases A;cases J;rename_i p q S hp Q;cases J;simp only[aZ]at A;split at A;rename_i U Z;have r1:=bK hp U O N;have r2:=bK Q Z O N;generalize W:a.eval i=ey at r2;cases r2;split at A;rename_i J;refine .val hW (s:=Instr.index t (a.eval x) (a.eval i)) (by unfold execOp;rw[M]) ?_;rw[W];exact Gh S r1 J A;cases A;cases A;cases J
 
 rename_i x i M;simp only[auR]at J;obtain⟨q,Q,rfl⟩:=J;simp only[aZ]at A;split at A
 ·rename_i vs K;have r:=bK Q K O N;generalize Y:a.eval x=ex at r;cases r with
  |tup us hl hr=>
  obtain⟨u,S,υ⟩:=Ep hl hr A;refine .val hW (s:=Instr.extract (a.eval x) i) (by unfold execOp;rw[M]) ⟨u,?_,υ⟩;rw[Y];simp[Instr.extract,S]
 cases A;rename_i c M;exact S0 M J hw hk A O hW N;cases J
end
open Go Go.RowKit
def Env.own(E:Env)(b n:Nat):Env:=⟨E.G,upd E.sz b (some n),E.num⟩
section
variable {ds:List Deferred} {T:Tbl} {n:Nat} {E:Env} {F:PF} {H:PH} {a:Act} {w:World}
theorem Env.ajR(hW:bZ E H w)(m:Nat):E.le (E.own w.heap.size m):=by
 refine⟨λb ds h=>h,λb k h=>?_,rfl⟩;have:=hW.I8 h;simp only[Env.own];rw[VX _ _ Om];exact h
theorem BD{s:Nat}{rs:P2_}(h:∀r∈rs,l'' r=s){i j:Nat}{pv:PV}(hp:at2 rs i j=some pv):i<l'' rs/\j<s:=by
 unfold at2 at hp;cases l:rs[i]? with
 |none=>simp[l]at hp
 |some r=>
  rw[l,ayE]at hp;have u:=h r (awW l);refine⟨?_,?_⟩;rcases avF i rs.length with h'|h'
  exact h';rw[avZ h']at l;cases l;rcases avF j r.length with h'|h'
  omega;rw[avZ h']at hp;cases hp
def nK(E:Env)(s:Nat)(rs:P2_)(cs:Array Value):Prop:=
 (∀r∈rs,l'' r=s)/\l'' rs*s<=cs.size/\∀i j pv,at2 rs i j=some pv->∃u,cs[i*s+j]?=some u/\u.oneCell'=true/\bE E pv u
theorem nK.of_flat{s:Nat}{rs:P2_}{cs:Array Value}(h:qF E rs.flatten cs)(l:∀r∈rs,l'' r=s):nK E s rs cs:=by
 refine⟨l,by rw[h.1,sA rs l];exact auG _,λi j pv hp=>?_⟩;obtain⟨-,u⟩:=BD l hp;have e:=AL rs i j l u;rw[hp]at e;have hlt:i*s+j<cs.size:=by
  rw[h.1];rcases avF (i*s+j) rs.flatten.length with h'|h'
  exact h';rw[avZ h']at e;cases e
 exact⟨cs[i*s+j],ayK hlt,h.2.1 _ (Array.getElem_mem_toList hlt),h.2.2 _ pv _ e (ayK hlt)⟩
theorem nK.mono{l:Env}(K:E.le l){s:Nat}{rs:P2_}{cs:Array Value}(h:nK E s rs cs):nK l s rs cs:=
 ⟨h.1,h.2.1,λi j pv hp=>by obtain⟨u,y,A,J⟩:=h.2.2 i j pv hp;exact⟨u,y,A,J.mono K⟩⟩
theorem dB(H:PH)(o q:Nat)(x:aW):(H.set o x).f q=if q=o then some x else H.f q:=rfl
theorem bZ.SJ(hW:bZ E H w){s:Nat}{rs:P2_}{cs:Array Value}(ty:TypeId)(h:nK E s rs cs) :
  bZ (E.own w.heap.size cs.size) (H.set w.heap.size (.rows s rs)) (w.alloc (.cells cs ty))/\Ext E H w (E.own w.heap.size cs.size) (H.set w.heap.size (.rows s rs)) (w.alloc (.cells cs ty)):=by
 have J:=Env.ajR hW cs.size;refine⟨⟨λb ds hb=>?_,λo x l=>?_,λo m M=>?_⟩,⟨J,rfl,rfl,rfl,by simp,λb hb _=>Below.heap_alloc w _ b hb,λo x l=>?_,λb ds hb=>.inl hb⟩⟩;obtain⟨y,K,fr,A⟩:=hW.g b ds hb;have hlt:=hW.Pb hb;refine⟨λx O=>y x ?_,K,fr,(Below.heap_alloc w _ b hlt).trans A⟩;rw[dB,aB Om]at O;exact O;rw[dB]at l;split at l;rename_i e;subst e;cases l;refine⟨by simp,cs,ty,heap_alloc_new w _,by simp[Env.own,upd],h.1,h.2.1,λi j pv hp=>?_⟩;obtain⟨u,y,A,Q⟩:=h.2.2 i j pv hp;exact⟨u,y,A,Q.mono J⟩;obtain⟨y,A⟩:=hW.h o x l;exact⟨by simp;omega,A.mono J (Below.heap_alloc w _ o y)⟩;simp only[Env.own,upd]at M;split at M;rename_i e;cases M;subst e;exact⟨cs,ty,(0,0),heap_alloc_new w _,rfl⟩;obtain⟨N,K,fr,y,A⟩:=hW.s o m M;exact⟨N,K,fr,(Below.heap_alloc w _ o (hW.I8 M)).trans y,A⟩;rw[dB]at l;split at l;rename_i e;exact .inr Om;exact .inl ⟨x,l⟩
theorem bZ.aiZ(hW:bZ E H w)(sh:MSh):bZ E (H.set w.heap.size (.map sh (λ_=>none))) (w.alloc (.map #[] 0))/\Ext E H w E (H.set w.heap.size (.map sh (λ_=>none))) (w.alloc (.map #[] 0)):=by
 refine⟨⟨λb ds hb=>?_,λo x l=>?_,λo m K=>?_⟩,⟨.refl E,rfl,rfl,rfl,by simp,λb hb _=>Below.heap_alloc w _ b hb,λo x l=>?_,λb ds hb=>.inl hb⟩⟩;obtain⟨y,u,fr,A⟩:=hW.g b ds hb;have hlt:=hW.Pb hb;refine⟨λx M=>y x ?_,u,fr,(Below.heap_alloc w _ b hlt).trans A⟩;rw[dB,aB Om]at M;exact M;rw[dB]at l;split at l;rename_i e;subst e;cases l;exact⟨by simp,#[],0,[],heap_alloc_new w _,⟨rfl,List.nodup_nil⟩,rfl,λi e N h=>by simp at h⟩;obtain⟨y,A⟩:=hW.h o x l;exact⟨by simp;omega,A.mono (.refl E) (Below.heap_alloc w _ o y)⟩;obtain⟨J,u,fr,y,A⟩:=hW.s o m K;exact⟨J,u,fr,(Below.heap_alloc w _ o (hW.I8 K)).trans y,A⟩;rw[dB]at l;split at l;rename_i e;exact .inr Om;exact .inl ⟨x,l⟩
def amJ(P:Program)(E:Env)(H:PH)(w:World)(o:Oper)(a:Act)(u:Nat->PV)(x:aW):Prop:=
 ∃v l i q,(execOp a.eval o).run P w=.ok (.value v) l/\H q=none/\bE i (u q) v/\bZ i (H.set q x) l/\Ext E H w i (H.set q x) l
theorem qi{cs:V_}{vs:Array Value}(h:qF E cs vs):nK E cs.length [cs] vs:=by
 refine .of_flat (by simpa using h) bC
theorem Im(E:Env)(b m:Nat):(E.own b m).sz b=some m:=by simp[Env.own,upd]
theorem Kh{o:Oper}{c:Call}{p:POp}(i:T.call o c=some p):p.iO=false:=by
 unfold Tbl.call at i
 repeat' (first|(split at i)|(simp only[auR]at i;obtain⟨_,-,rfl⟩:=i;rfl)|(cases i;rfl)|(cases i;done))
theorem Uv{o:Oper}{p:POp}{mk:Nat->PV}{x:aW}(u:T.op o=some p)(Z:p.iO=true)(J:cS p F=some (mk,x))(hA:eP ds n E F a)(hW:bZ E H w)(hN:E.num=T.num):amJ T.P E H w o a mk x:=by
 have K:=hW.Pp;unfold Tbl.op at u;split at u
 case h_4=>
  rename_i e Q;simp only[auR]at u;obtain⟨z,hz,rfl⟩:=u;simp only[cS,awN.injEq,Prod.mk.injEq]at J;obtain⟨rfl,rfl⟩:=J;obtain⟨i,zv,hi,Y,β⟩:=RE (E:=E) hz;obtain⟨h1,h2⟩:=hW.SJ e (qi β);have A:(Instr.alloc e true (.tuple #[])).run T.P w=.ok (.pointer (some ⟨w.heap.size,0,none⟩)) (w.alloc (.cells zv.cells e)):=by simp[Instr.alloc,zeroValue,typeInfo,hi,Y,newVar,newRow]
  refine⟨_,_,_,w.heap.size,xK ?_ A,K,?_,h1,h2⟩
  ·unfold execOp;rw[Q]
  ·have:=bE.ptr (E:=E.own w.heap.size zv.cells.size) w.heap.size z.length 0 0;simpa using this
 case h_5=>
  rename_i e y Q;simp only[auR]at u;obtain⟨q,hq,rfl⟩:=u;generalize θ:T.wh o.dst=ro at *
  cases ro with
  |true=>simp[POp.iO]at Z
  |false=>
   simp only[cS]at J;split at J
   ·rename_i v α;split at J
    ·rename_i h1;simp only[awN.injEq,Prod.mk.injEq]at J;obtain⟨rfl,rfl⟩:=J;obtain⟨c1,c2,c3⟩:=BF (bK hq α hA hN) h1;obtain⟨g1,g2⟩:=hW.SJ e (qi (E:=E) (cs:=v.cells) (vs:=(a.eval y).cells) ⟨c1,c2,c3⟩);have A:(Instr.box e (a.eval y)).run T.P w=.ok (.pointer (some ⟨w.heap.size,0,none⟩)) (w.alloc (.cells (a.eval y).cells e)):=by simp[Instr.box,newVar,newRow]
     refine⟨_,_,_,w.heap.size,xK ?_ A,K,?_,g1,g2⟩
     ·unfold execOp;rw[Q]
     ·have:=bE.ptr (E:=E.own w.heap.size (a.eval y).cells.size) w.heap.size v.cells.length 0 0;simpa using this
    ·cases J
   ·cases J
 case h_7=>
  rename_i t len parts Q;split at u
  ·rename_i e hu;split at u
   ·rename_i s z pl hs hz η;split at u
    ·rename_i M;cases u;generalize θ:T.wh o.dst=ro at *
     cases ro with
     |true=>simp[POp.iO]at Z
     |false=>
      simp only[cS]at J;split at J
      ·rename_i ζ;simp only[auR,Prod.mk.injEq]at J;obtain⟨out,ε,rfl,rfl⟩:=J;obtain⟨us,A,O,U,δ⟩:=SP (w:=w) hu hs hz M.1 M.2 η ζ.2 ε hA hN;obtain⟨g1,g2⟩:=hW.SJ e (nK.of_flat O U);refine⟨_,_,_,w.heap.size,xK ?_ A,K,?_,g1,g2⟩
       ·unfold execOp;rw[Q]
       ·have κ:us.size=len*s:=by rw[O.1,sA out U,δ]
        refine .osl (n:=us.size) rfl rfl (.inr bC) (auG _) ?_ (Im _ _ _) (by rw[κ];omega);have:len*1<=len*s:=awZ _ M.2;simp only[maxLen];omega
      ·cases J
    ·cases u
   ·cases u
  ·cases u
 case h_15=>
  rename_i t Q;split at u
  case h_2=>cases u
  simp only[auR]at u;obtain⟨sh,-,rfl⟩:=u;simp only[cS,awN.injEq,Prod.mk.injEq]at J;obtain⟨rfl,rfl⟩:=J;obtain⟨g1,g2⟩:=hW.aiZ sh;have A:(Instr.makeMap t (Option.map a.eval none)).run T.P w=.ok (.map (some w.heap.size)) (w.alloc (.map #[] 0)):=by simp[Instr.makeMap]
  refine⟨_,_,_,w.heap.size,xK ?_ A,K,.map _,g1,g2⟩;unfold execOp;rw[Q]
 case h_19=>
  rename_i t l c Q;split at u
  ·rename_i e hu;split at u
   ·rename_i i z p q hi hz hp hq;split at u
    ·rename_i M;cases u;simp only[cS]at J;split at J
     ·rename_i k1 m1 k2 V α μ;split at J
      ·rename_i W;simp only[awN.injEq,Prod.mk.injEq]at J;obtain⟨rfl,rfl⟩:=J;obtain⟨h0,h1,h2,h3,-⟩:=W;have r1:=bK hp α hA hN;have r2:=bK hq μ hA hN;generalize hx:a.eval l=ex at r1;generalize hy:a.eval c=ey at r2;cases r1;cases r2;obtain⟨i',zv,γ,Y,β⟩:=RE (E:=E) hz;rw[hi]at γ;cases γ;have A:=run_make w t e i zv hu hi Y k1 k2 m1 V h0 h1 (by rw[axW];omega) h3;have O:=β.adQ (len:=V.toNat) M.1 M.2;have S:nK E i.size (auL V.toNat z) (madeCells zv.cells (V.toNat*i.size)):=
        nK.of_flat O (λr hr=>by rw[(List.mem_replicate.1 hr).2];exact M.1)
       have ι:nK E i.size (auL m1.toNat z) (madeCells zv.cells (V.toNat*i.size)):=by
        refine⟨λr hr=>by rw[(List.mem_replicate.1 hr).2];exact M.1,?_,λa b pv N=>S.2.2 a b pv ?_⟩
        ·have:=S.2.1;simp only[List.length_replicate]at this ⊢;have h5:m1.toNat*i.size<=V.toNat*i.size:=avL _ Om;omega
        ·unfold at2 at N ⊢;rw[List.getElem?_replicate]at N ⊢;split at N
         ·rw[aD Om];exact N
         ·simp at N
       obtain⟨g1,g2⟩:=hW.SJ e ι;refine⟨_,_,_,w.heap.size,xK (s:=Instr.makeSlice t (.int k1 m1) (.int k2 V)) ?_ A,K,?_,g1,g2⟩
       ·unfold execOp;rw[Q];simp only[hx,hy]
       ·refine .osl (n:=(madeCells zv.cells (V.toNat*i.size)).size) rfl rfl (.inr bC) Om (by simp only[maxLen];omega) (Im _ _ _) (by rw[size_madeCells];omega)
      ·cases J
     ·cases J
    ·cases u
   ·cases u
  ·cases u
 all_goals (first
  |(simp only[auR]at u;obtain⟨_,-,rfl⟩:=u;simp[POp.iO]at Z;done)
  |skip)
 all_goals (repeat' (first|(split at u)|(simp only[auR]at u;obtain⟨_,-,rfl⟩:=u;simp[POp.iO]at Z;done)|(cases u;simp[POp.iO]at Z;done)|(cases u;done)))
 all_goals (rw[Kh u]at Z;cases Z)
end
open Go Go.RowKit
section
variable {ds:List Deferred} {T:Tbl} {n:Nat} {E:Env} {F:PF} {H:PH} {a:Act} {w:World}
theorem bZ.xu(hW:bZ E H w){o s:Nat}{rs rs':P2_}{u cs:Array Value}{ty:TypeId}(S:H o=some (.rows s rs))(W:w.heap[o]?=some (.cells u ty (0,0)))(U:cs.size=u.size)
  (h:nK E s rs' cs):bZ E (H.set o (.rows s rs')) (w.setRow o cs)/\Ext E H w E (H.set o (.rows s rs')) (w.setRow o cs):=by
 have l:=setRow_heap w o u cs ty (0,0) W;have i:∀b,b≠o->(w.setRow o cs).heap[b]?=w.heap[b]?:=λb hb=>setRow_other w o b cs hb;have N:∀b ds,E.G b=some ds->b≠o:=λb ds hb e=>by subst e;have:=(hW.g b ds hb).1 _ S;cases this
 have O:E.sz o=some u.size:=by obtain⟨-,A,y,J,M,-⟩:=hW.h o _ S;rw[W]at J;cases J;exact M
 refine⟨⟨λb ds hb=>?_,λq x K=>?_,λq m V=>?_⟩,⟨.refl E,rfl,rfl,rfl,by simp,λb _ Y=>i b (λe=>by subst e;rw[S]at Y;cases Y),λq x K=>?_,λb ds hb=>.inl hb⟩⟩;obtain⟨J,y,fr,M⟩:=hW.g b ds hb;have Q:=N b ds hb;refine⟨λx Z=>J x ?_,y,fr,(i b Q).trans M⟩;rw[dB,aB Q]at Z;exact Z;rw[dB]at K;split at K;rename_i e;subst e;cases K;refine⟨by simpa using(hW.h q _ S).1,cs,ty,l,by rw[U];exact O,h.1,h.2.1,h.2.2⟩;rename_i e;obtain⟨J,M⟩:=hW.h q x K;exact⟨by simpa using J,M.mono (.refl E) (i q e)⟩;by_cases e:q=o;subst e;rw[O]at V;cases V;exact⟨cs,ty,(0,0),l,U⟩;obtain⟨A,y,fr,J,M⟩:=hW.s q m V;exact⟨A,y,fr,(i q e).trans J,M⟩;rw[dB]at K;split at K;rename_i e;subst e;exact .inl ⟨_,S⟩;exact .inl ⟨x,K⟩
def Em(P:Program)(E:Env)(H:PH)(w:World)(o:Oper)(a:Act)(K:R_):Prop:=
 ∃v l u i H' pv,(execOp a.eval o).run P w=.ok l u/\(l=.value v\/(l=.skip/\v=undef))/\bE i pv v/\bZ i H' u/\Ext E H w i H' u/\K pv H'
theorem VB:∀(ps:V_)(r:V_)(c j:Nat),c+l'' ps<=l'' r->(setCells r c ps)[j]?=if c<=j/\j<c+ps.length then ps[j-c]? else r[j]?
 |[],r,c,j,_=>by rw[aB (by intro h;simp at h;omega)];rfl
 |p::ps,r,c,j,h=>by simp only[avG]at h ⊢;simp only[setCells];rw[VB ps _ (c+1) j (by rw[avT];omega),ayG];by_cases i:c=j;subst i;rw[aB Om,aD rfl,aD Om,aD Om];simp;by_cases l:c+1<=j/\j<c+1+l'' ps;rw[aD l,aD Om];have:j-c=(j-(c+1))+1:=Om;rw[this,List.getElem?_cons_succ];rw[aB l,aB i,aB Om]
theorem Rb(L cs:List Value)(off k:Nat)(h:off+l'' cs<=l'' L):(L.take off++cs++L.drop (off+l'' cs))[k]?=if off<=k/\k<off+cs.length then cs[k-off]? else L[k]?:=by
 have i:(L.take off).length=off:=by rw[auU];omega
 by_cases l:k<off;rw[aB Om,avW,awR Om,axZ,aD l];by_cases hb:k<off+l'' cs;rw[aD ⟨by omega,hb⟩,avW,awH Om,i,awR Om];rw[aB Om,avW,awH Om,i,awH Om,ayT];congr 1;omega
theorem nK.store{s:Nat}{rs:P2_}{l:Array Value}(h:nK E s rs l){i c:Nat}{r ps:V_}{J:List Value}(N:rs[i]?=some r)(hc:c+l'' ps<=s)(hl:l'' J=l'' ps)
  (Y:∀u∈J,u.oneCell'=true) (M:∀(j:Nat) p u,ps[j]?=some p->J[j]?=some u->bE E p u) :
  nK E s (rs.set i (setCells r c ps)) (l.toList.take (i*s+c)++J++l.toList.drop (i*s+c+l'' J)).toArray:=by
 have hi:i<l'' rs:=by
  rcases avF i rs.length with h'|h'
  exact h';rw[avZ h']at N;cases N
 have V:l'' r=s:=h.1 r (awW N);have Q:(i+1)*s<=l'' rs*s:=avL _ hi;rw[axB]at Q;have W:=h.2.1;have K:i*s+c+l'' J<=l'' l.toList:=by(have e:l'' l.toList=l.size:=axV;omega)
 refine⟨λq U=>?_,?_,λy j pv hp=>?_⟩;rcases ayU U with U|rfl
 exact h.1 q U;rw[IF];exact V;rw[avT,List.size_toArray];simp only[auJ,auU,awM];have e:l'' l.toList=l.size:=axV;omega;rw[List.getElem?_toArray,Rb _ _ _ _ K];by_cases e:y=i;subst e;simp only[at2,ayG,if_true,hi,ayE]at hp;rw[VB ps r c j Om]at hp;split at hp;rename_i Z;rw[aD Om];have e2:y*s+j-(y*s+c)=j-c:=Om;rw[e2];have hlt:j-c<l'' J:=Om;exact⟨J[j-c],auP hlt,Y _ (auH hlt),M _ pv _ hp (auP hlt)⟩;rename_i Z;have A:at2 rs y j=some pv:=by simp[at2,N,hp]
 have O:=(BD h.1 A).2;rw[aB Om,Array.getElem?_toList];exact h.2.2 y j pv A;have A:at2 rs y j=some pv:=by simp only[at2]at hp ⊢;rw[ayG,aB (λx=>e x.symm)]at hp;exact hp
 have O:=(BD h.1 A).2;have S:¬(i*s+c<=y*s+j/\y*s+j<i*s+c+l'' J):=by
  rcases avF y i with h'|h'
  have:(y+1)*s<=i*s:=avL _ h';rw[axB]at this;omega;have:(i+1)*s<=y*s:=avL _ Om;rw[axB]at this;omega
 rw[aB S,Array.getElem?_toList];exact h.2.2 y j pv A
theorem Ld{o:Oper}{t:TypeId}{U x:Operand}{pp px:aP}{k:Nat}{pa pv:PV}{H':PH}(ho:o.op=.store t U x)(hs:T.size t=some k)(hp:T.opd U=some pp)(hx:T.opd x=some px)
  (α:pp.ev F=some pa) (β:px.ev F=some pv) (O:l'' pv.cells=k) (l:storeAt H pa pv.cells=some H') (hA:eP ds n E F a) (hW:bZ E H w) (hN:E.num=T.num) :
  ∃w',(execOp a.eval o).run T.P w=.ok .skip w'/\bZ E H' w'/\Ext E H w E H' w':=by
 unfold storeAt at l;split at l;rename_i q size i c;split at l;rename_i s rs hq;split at l;rename_i K;obtain⟨rfl,V,Q⟩:=K;split at l;rename_i r hr;cases l;have ra:=bK hp α hA hN;generalize W:a.eval U=ea at ra;cases ra;obtain⟨c1,c2,c3⟩:=BF (bK hx β hA hN) Q;obtain⟨-,y,ty,hh,δ,S,M,J⟩:=hW.h q _ hq;have hR:nK E s rs y:=⟨S,M,J⟩;have hi:i<l'' rs:=by
  rcases avF i rs.length with h'|h'
  exact h';rw[avZ h']at hr;cases hr
 have Y:(i+1)*s<=l'' rs*s:=avL _ hi;rw[axB]at Y;have γ:(a.eval x).cells.toList.length=l'' pv.cells:=by simpa using c1
 have N:i*s+c+0+(a.eval x).cells.toList.length<=y.size:=Om;have A:=run_storeCells_at T.P q (i*s+c) ty (a.eval x).cells.toList 0 y w hh N c2;simp only[awX]at A;obtain⟨g1,g2⟩:=hW.xu hq hh (cs:=(y.toList.take (i*s+c)++(a.eval x).cells.toList++y.toList.drop (i*s+c+(a.eval x).cells.toList.length)).toArray)
  (by rw[List.size_toArray];simp only[auJ,auU,awM];have e:l'' y.toList=y.size:=axV;omega)
  (hR.store hr V γ c2 (λj p u hp hu=>c3 j p u hp (by simpa using hu)))
 refine⟨_,?_,g1,g2⟩;unfold execOp;rw[ho];have Z:¬((a.eval x).cells.size≠k):=by rw[c1,O];simp
 simp[W,Instr.storeAt,Instr.sureAddr,storeVar,lN hs,Z,A];cases l;cases l;cases l;cases l
end
open Go Go.RowKit
section
variable {T:Tbl} {n:Nat} {E:Env} {F:PF} {H:PH} {a:Act} {w:World}
theorem Ba{s:Nat}{pv:PV}{v:Value}{rows:P2_}(P:Program)(hW:bZ E H w)(hv:bE E pv v)(h:dP H s pv=some rows) :
  ∃S cap,∃news:List Value,v=.slice S rows.length cap/\l'' news=l'' rows*s/\(∀u∈news,u.oneCell'=true)/\(∀r∈rows,l'' r=s) /\
   (∀i j q,at2 rows i j=some q->∃u,news[i*s+j]?=some u/\bE E q u) /\
   ∀K:World,K.heap=w.heap->(Builtin.firstCells s rows.length v).run P K=.ok news.toArray K:=by
 obtain⟨S,cap,rfl,W,y,hc⟩:=su hW hv h;by_cases O:rows=[]
 ·subst O;refine⟨S,cap,[],rfl,by simp,by simp,by simp,λi j q J=>by simp[at2]at J,λK _=>?_⟩;cases S with
  |none=>simp[Builtin.firstCells]
  |some x=>simp[Builtin.firstCells,Go.loadCells,Go.loadCellsFrom]
 obtain⟨b,off,rfl,l⟩:=hc O;have M:∀k,k<l'' rows*s->∃u q,at2 rows (k/s) (k%s)=some q/\w.cell? ⟨b,off+k,none⟩=some u/\u.oneCell'=true/\bE E q u:=by
  intro k A;have Y:0<s:=by
   rcases axN s with h|h
   subst h;simp at A;exact h
  have V:k/s<l'' rows:=(ayB Y).2 A;have h2:k%s<s:=awJ _ Y;have Z:k/s*s+k%s=k:=by rw[avO];exact ayN k s
  have J:∃q,at2 rows (k/s) (k%s)=some q:=by have hl:=y rows[k/s] (auH V);exact⟨rows[k/s][k%s]'Om,by simp[at2,V,auP (Om:k%s<rows[k/s].length)]⟩
  obtain⟨q,J⟩:=J;obtain⟨u,g1,g2,g3⟩:=l _ _ q J;rw[Z]at g1;exact⟨u,q,J,g1,g2,g3⟩
 refine⟨_,cap,(auE (l'' rows*s)).map λk=>(w.cell? ⟨b,off+k,none⟩).getD undef,rfl,by simp,?_,y,?_,?_⟩;intro u Q;simp only[auT,avM]at Q;obtain⟨k,A,rfl⟩:=Q;obtain⟨u,q,-,g1,g2,-⟩:=M k A;simp[g1,g2];intro i j q J;obtain⟨hi,hj⟩:=BD y J;have hlt:i*s+j<l'' rows*s:=by have:(i+1)*s<=l'' rows*s:=avL _ hi;rw[axB]at this;omega
 obtain⟨u,g1,g2,g3⟩:=l i j q J;refine⟨u,?_,g3⟩;rw[avC,List.getElem?_range hlt];simp[g1];intro K U;refine run_firstCells_some K s rows.length _ _ cap _ bC (λj u Q=>?_);rw[add_plain];simp only[avC,auR]at Q;obtain⟨k,A,rfl⟩:=Q;have N:j<l'' rows*s:=by
  rcases avF j (l'' rows*s)with h'|h'
  exact h';rw[avZ (by simpa using h')]at A;cases A
 rw[List.getElem?_range N]at A;cases A;obtain⟨u,q,-,g1,-,-⟩:=M j N;have:K.cell? ⟨b,off+j,none⟩=w.cell? ⟨b,off+j,none⟩:=by simp[World.cell?,U]
 rw[this,g1];rfl
theorem GK{t ty e:TypeId}{i:TypeInfo}(K:T.P.underlying t=some (.slice e))(hi:T.P.info? e=some i)(base:Option Addr)(u l c:Nat)(A:Option Addr)(y:u<=l)
  (J:(Builtin.firstCells i.size 0 (.slice A 0 c)).run T.P w=.ok #[] w):(Builtin.append_ #[t,t] ty #[.slice base u l,.slice A 0 c]).run T.P w=.ok (.slice base u l) w:=by
 cases base with
 |none=>simp[Builtin.append_,run_underlying K,sizeOf,typeInfo,hi,Builtin.lenOf,y,J]
 |some b=>simp[Builtin.append_,run_underlying K,sizeOf,typeInfo,hi,Builtin.lenOf,y,J,storeCells]
theorem I7{t ty e bt:TypeId}{i:TypeInfo}(U:T.P.underlying t=some (.slice e))(hi:T.P.info? e=some i)(g l A m c:Nat)(N:Option Addr)(y:Array Value)(S:w.heap[g]?=some (.cells y bt (0,0)))
  (news:List Value) (V:l'' news=m*i.size) (Q:(Builtin.firstCells i.size m (.slice N m c)).run T.P w=.ok news.toArray w) (O:∀u∈news,u.oneCell'=true) (J:l+m<=A) (K:l*i.size+l'' news<=y.size) :
  (Builtin.append_ #[t,t] ty #[.slice (some ⟨g,0,none⟩) l A,.slice N m c]).run T.P w =
   .ok (.slice (some ⟨g,0,none⟩) (l+m) A) (w.setRow g (y.toList.take (l*i.size)++news++y.toList.drop (l*i.size+l'' news)).toArray):=by
 have M:=run_storeCells_at T.P g (l*i.size) bt news 0 y w S (by simpa using K) O;simp only[awX]at M;simp[Builtin.append_,run_underlying U,sizeOf,typeInfo,hi,Builtin.lenOf,J,Q,Addr.add_lit,M]
theorem Ck{t ty e bt:TypeId}{i:TypeInfo}(U:T.P.underlying t=some (.slice e))(hi:T.P.info? e=some i)(g d l A m c:Nat)(N:Option Addr)(y:Array Value)(S:w.heap[g]?=some (.cells y bt (0,0)))
  (news:List Value) (V:l'' news=m*i.size) (Q:(Builtin.firstCells i.size m (.slice N m c)).run T.P w=.ok news.toArray w) (O:∀u∈news,u.oneCell'=true) (J:l+m<=A) (K:d+l*i.size+l'' news<=y.size) :
  (Builtin.append_ #[t,t] ty #[.slice (some ⟨g,d,none⟩) l A,.slice N m c]).run T.P w =
   .ok (.slice (some ⟨g,d,none⟩) (l+m) A) (w.setRow g (y.toList.take (d+l*i.size)++news++y.toList.drop (d+l*i.size+l'' news)).toArray):=by
 have M:=run_storeCells_at T.P g (d+l*i.size) bt news 0 y w S (by simpa using K) O;simp only[awX]at M;simp[Builtin.append_,run_underlying U,sizeOf,typeInfo,hi,Builtin.lenOf,J,Q,add_plain,M]
theorem I6{t ty e:TypeId}{i:TypeInfo}{z:Value}(U:T.P.underlying t=some (.slice e))(hi:T.P.info? e=some i)(V:i.zero=some z)(base:Option Addr)(l u m c:Nat)(K:Option Addr)(auB news:List Value)
  (S:(Builtin.firstCells i.size l (.slice base l u)).run T.P w.drew=.ok auB.toArray w.drew) (N:(Builtin.firstCells i.size m (.slice K m c)).run T.P w.drew=.ok news.toArray w.drew)
  (O:u<l+m) (J:l+m<=maxLen) (hb:(l+m)*i.bytes<=140737488355328) :
  (Builtin.append_ #[t,t] ty #[.slice base l u,.slice K m c]).run T.P w =
   .ok (.slice (some ⟨w.heap.size,0,none⟩) (l+m) (grownCap w (l+m) u e))
    (w.drew.alloc (.cells (auB.toArray++news.toArray++Builtin.zeroCells z.cells (grownCap w (l+m) u e-(l+m))) e)):=by
 have Q:¬(l+m<=u):=Om;simp only[maxLen]at J;have A:¬(9223372036854775807<((l:Int)+(m:Int))):=Om;have M:=growslice_fits O hb;have y:¬(281474976710656<Builtin.nextslicecap (l+m) u*i.bytes):=Om;simp[Builtin.append_,run_underlying U,sizeOf,typeInfo,zeroValue,hi,V,Builtin.lenOf,Q,A,y,Question.forced,N,S,newRow,grownCap];congr 2;apply Array.ext';simp[avW]
theorem bZ.drew(hW:bZ E H w):bZ E H w.drew:=⟨hW.g,λo x i=>⟨(hW.h o x i).1,(hW.h o x i).2.mono (.refl E) rfl⟩,hW.s⟩
theorem Ext.xg{i:Env}{H':PH}{l:World}(h:Ext E H w.drew i H' l):Ext E H w i H' l:=⟨h.env,h.os,h.tape,h.output,h.size,h.block,h.new,h.newG⟩
theorem N6{rs src:P2_}(i j:Nat):at2 (rs++src) i j=if i<rs.length then at2 rs i j else at2 src (i-l'' rs) j:=by
 unfold at2;rw[List.getElem?_append];split<;>rfl
theorem nK.join{s:Nat}{rs src:P2_}{auB news:List Value}{tail:List Value}(J:∀r∈rs,l'' r=s)(K:∀r∈src,l'' r=s)(l:l'' auB=l'' rs*s)(A:l'' news=l'' src*s)
  (N:∀i j q,at2 rs i j=some q->∃u,auB[i*s+j]?=some u/\u.oneCell'=true/\bE E q u) (M:∀i j q,at2 src i j=some q->∃u,news[i*s+j]?=some u/\u.oneCell'=true/\bE E q u) :
  nK E s (rs++src) (auB++news++tail).toArray:=by
 refine⟨λr O=>?_,?_,λi j q y=>?_⟩;rcases avX.1 O with h|h
 exact J r h;exact K r h;rw[List.size_toArray,auJ,auJ,auJ,l,A,avV];omega;rw[N6]at y;rw[List.getElem?_toArray];split at y;rename_i hi;obtain⟨u,g1,g2,g3⟩:=N i j q y;refine⟨u,?_,g2,g3⟩;have hlt:i*s+j<l'' auB:=by
  rcases avF (i*s+j) auB.length with h'|h'
  exact h';rw[avZ h']at g1;cases g1
 rw[avW,awR hlt];exact g1;rename_i hi;obtain⟨u,g1,g2,g3⟩:=M _ j q y;refine⟨u,?_,g2,g3⟩;have hlt:(i-l'' rs)*s+j<l'' news:=by
  rcases avF ((i-l'' rs)*s+j) news.length with h'|h'
  exact h';rw[avZ h']at g1;cases g1
 have e:i*s+j=l'' auB+((i-l'' rs)*s+j):=by rw[l,<-axG,<-avV];congr 2;omega
 rw[e,avW,awH Om,Nat.add_sub_cancel_left,awR hlt];exact g1
theorem PH.wL{o:Nat}{x:aW}(h:H o=some x):H.set o x=H:=by
 apply PH.ext;intro q;rw[dB];split;rename_i e;subst e;exact h.symm;rfl
theorem bZ.dead(hW:bZ E H w){o:Nat}{x:aW}(u:H o=some x):bZ E (H.set o .dead) w/\Ext E H w E (H.set o .dead) w:=by
 refine⟨⟨λb ds hb=>⟨λy l=>?_,(hW.g b ds hb).2⟩,λq y i=>?_,hW.s⟩,⟨.refl E,rfl,rfl,rfl,auG _,λ_ _ _=>rfl,λq y i=>?_,λb ds hb=>.inl hb⟩⟩;rw[dB]at l;split at l;cases l;rfl;exact(hW.g b ds hb).1 y l;rw[dB]at i;split at i;rename_i e;subst e;cases i;exact⟨(hW.h q x u).1,trivial⟩;exact hW.h q y i;rw[dB]at i;split at i;rename_i e;subst e;exact .inl ⟨x,u⟩;exact .inl ⟨y,i⟩
end
open Go Go.RowKit
section
variable {T:Tbl} {n:Nat} {E:Env} {F:PF} {H:PH} {a:Act} {w:World}
theorem Pi(w:World)(i l:Nat)(e:TypeId):i<=grownCap w i l e:=grownCap_ge w i l e
theorem nJ{o:Oper}{c:Call}{x y:Operand}{t:TypeId}{v:Value}{A:World}(K:o.op=.call c)(l:c.callee=.builtin .append)(i:c.args.toList=[x,y])(u:c.argTypes.toList=[t,t])
  (h:(Builtin.append_ #[t,t] o.type #[a.eval x,a.eval y]).run T.P w=.ok v A):(execOp a.eval o).run T.P w=.ok (.value v) A:=by
 unfold execOp;rw[K];have J:c.argTypes=#[t,t]:=by apply Array.ext';simp[u]
 have e2:=N5 i a.eval;simp[resolve,l,invoke,builtin,J,e2,h]
theorem bZ.trim(hW:bZ E H w){o s k:Nat}{rs:P2_}(K:H o=some (.rows s rs)):bZ E (H.set o (.rows s (rs.take k))) w/\Ext E H w E (H.set o (.rows s (rs.take k))) w:=by
 refine⟨⟨λb ds hb=>⟨λy N=>?_,(hW.g b ds hb).2⟩,λq y l=>?_,hW.s⟩,⟨.refl E,rfl,rfl,rfl,auG _,λ_ _ _=>rfl,λq y l=>?_,λb ds hb=>.inl hb⟩⟩;rw[dB]at N;split at N;rename_i e;subst e;have:=(hW.g b ds hb).1 _ K;cases this;exact(hW.g b ds hb).1 y N;rw[dB]at l;split at l;rename_i e;subst e;cases l;obtain⟨Q,J,ty,S,M,A,O,u⟩:=hW.h q _ K;refine⟨Q,J,ty,S,M,λr U=>A r (ayW U),?_,λi j p hp=>u i j p ?_⟩;have:(rs.take k).length*s<=l'' rs*s:=avL _ (by rw[auU];omega);omega;unfold at2 at hp ⊢;rw[axZ]at hp;split at hp;exact hp;simp at hp;exact hW.h q y l;rw[dB]at l;split at l;rename_i e;subst e;exact .inl ⟨_,K⟩;exact .inl ⟨y,l⟩
theorem Et{o:Oper}{c:Call}{x y:Operand}{t e:TypeId}{i:TypeInfo}{px py:PV}{K:R_}(ho:o.op=.call c)(υ:c.callee=.builtin .append)(τ:c.args.toList=[x,y])(φ:c.argTypes.toList=[t,t])
  (ht:T.P.underlying t=some (.slice e)) (hi:T.P.info? e=some i) (hz:i.zero.isSome=true) (V':(i.zero.map (·.cells.size))=some i.size) (h0:0<i.size)
  (hx:bE E px (a.eval x)) (hy:bE E py (a.eval y)) (hK:mJ H i.size i.bytes px py K) (hW:bZ E H w):Em T.P E H w o a K:=by
 obtain⟨z,hz⟩:=Option.isSome_iff_exists.1 hz;have W':z.cells.size=i.size:=by simpa[hz]using V'
 obtain⟨src,B',hK⟩:=hK;obtain⟨ad,cap,news,W,η,Ξ,σ,ζ,Q⟩:=Ba T.P hW hy B';have grow:∀(base:Option Addr)(l A:Nat)(rs:P2_) (auB:List Value),(Builtin.firstCells i.size l (.slice base l A)).run T.P w.drew=.ok auB.toArray w.drew->l'' auB=l*i.size->l'' rs=l ->
   (∀r∈rs,l'' r=i.size)->(∀U j q,at2 rs U j=some q->∃u,auB[U*i.size+j]?=some u/\u.oneCell'=true/\bE E q u)->A<l+l'' src->roomFor l src.length i.bytes->a.eval x=.slice base l A ->
   ∀(H1:PH),bZ E H1 w->Ext E H w E H1 w->∃v w' E' q,(execOp a.eval o).run T.P w=.ok (.value v) w'/\H1 q=none/\bE E' (.osl q i.size 0 (l+l'' src)) v/\bZ E' (H1.set q (.rows i.size (rs++src))) w'/\Ext E H w E' (H1.set q (.rows i.size (rs++src))) w':=by
  intro base l A rs auB ω ρ δ U' R' hlt O S H1 t' J';have M:=I6 (w:=w) (ty:=o.type) ht hi hz base l A src.length cap ad auB news ω (by rw[<-W];exact Q w.drew rfl) hlt O.1 O.2;have L':=Pi w (l+l'' src) A e;have K':=grownCap_le_maxLen w (l+l'' src) A e O.1;generalize Z':grownCap w (l+l'' src) A e=gc at *
  have O':∀U j q,at2 src U j=some q->∃u,news[U*i.size+j]?=some u/\u.oneCell'=true/\bE E q u:=λU j q hq=>by obtain⟨u,g1,g2⟩:=ζ U j q hq;exact⟨u,g1,Ξ u (awW g1),g2⟩
  have hR:=nK.join (E:=E) (tail:=(Builtin.zeroCells z.cells (gc-(l+l'' src))).toList) U' σ (by rw[ρ,δ]) η R' O';have b':(auB.toArray++news.toArray++Builtin.zeroCells z.cells (gc-(l+l'' src)))=(auB++news++(Builtin.zeroCells z.cells (gc-(l+l'' src))).toList).toArray:=by apply Array.ext';simp
  rw[b']at M;have ι:(auB++news++(Builtin.zeroCells z.cells (gc-(l+l'' src))).toList).toArray.size=gc*i.size:=by
   have ez:(Builtin.zeroCells z.cells (gc-(l+l'' src))).toList.length=(gc-(l+l'' src))*i.size:=by rw[axV,size_zeroCells,W']
   rw[List.size_toArray,auJ,auJ,ez,ρ,η,<-avV,<-avV];congr 1;omega
  obtain⟨g1,g2⟩:=t'.drew.SJ e hR;refine⟨_,_,_,w.heap.size,nJ ho υ τ φ (by rw[S,W];exact M),t'.Pp,?_,g1,J'.trans g2.xg⟩;refine .osl rfl rfl (.inr bC) L' K' (Im _ _ _) ?_;rw[ι];omega
 split at hK
 
 have G':a.eval x=.slice none 0 0:=by generalize a.eval x=v at hx;cases hx;rfl
 obtain⟨O,y',o'⟩:=hK;by_cases θ:src=[];subst θ;have κ:=Q w rfl;have Λ:news=[]:=List.eq_nil_of_length_eq_zero (by rw[η];simp);subst Λ;rw[W]at κ;have M:=GK (w:=w) (ty:=o.type) ht hi none 0 0 cap ad (auG _) κ;exact⟨_,_,w,E,H,.aE,nJ ho υ τ φ (by rw[G',W];exact M),.inl rfl,.aE,hW,.refl E H w,y' rfl⟩;have e':0<l'' src:=List.length_pos_iff.2 θ;obtain⟨v,w',E',q,g1,g2,g3,g4,g5⟩:=grow none 0 0 [] [] (by simp[Builtin.firstCells]) bC rfl bC (λU j q hq=>by simp[at2]at hq) Om O G' H hW (.refl E H w);refine⟨v,_,w',E',_,_,g1,.inl rfl,g3,g4,g5,?_⟩;have:=o' θ q g2;simpa using this
 
 rename_i q s len;obtain⟨rfl,-,O,rs,hq,S',α,ο⟩:=hK;have j':∃b A,a.eval x=.slice (some b) len A:=by generalize a.eval x=v at hx;cases hx;exact⟨_,_,rfl⟩
 obtain⟨b,A,S⟩:=j';obtain⟨l,rfl⟩:∃l,l=len:=⟨_,rfl⟩
 ·rw[S]at hx;cases hx with
  |osl hb p' γ μ ν Φ Z=>
  rename_i N;obtain⟨z',J,ty,hh,ι,m',d',Ω⟩:=hW.h q _ hq;obtain⟨χ,f'⟩:=hW.trim (k:=l) hq;obtain⟨-,s',X',Γ,C',V,Ψ,ε⟩:=χ.h q (.rows i.size (rs.take l)) (by rw[dB,aD rfl]);rw[hh]at Γ;cases Γ;have δ:(rs.take l).length=l:=by rw[auU];omega
  generalize A':rs.take l=Y at *
  have g':N=J.size:=by rw[ι]at Φ;cases Φ;rfl
  subst g';simp only[Nat.zero_mul,avA]at Z γ;by_cases θ:src=[];subst θ;have κ:=Q w rfl;have Λ:news=[]:=List.eq_nil_of_length_eq_zero (by rw[η];simp);subst Λ;rw[W]at κ;have M:=GK (w:=w) (ty:=o.type) ht hi (some b) l A cap ad μ κ;simp only[awD,avS,awX]at α;exact⟨_,_,w,E,_,.osl q i.size 0 l,nJ ho υ τ φ (by rw[S,W];exact M),.inl rfl,.osl hb p' (by simpa using γ) μ ν ι Om,χ,f',α⟩;have e':0<l'' src:=List.length_pos_iff.2 θ;by_cases β:l+l'' src<=A;have ψ:b=⟨q,0,none⟩:=by
   have:b.off=0:=by
    rcases γ with h|h
    omega;exact h
   cases b;simp_all
  subst ψ;have Θ:(l+l'' src)*i.size<=A*i.size:=avL _ β;rw[avV]at Θ;have M:=I7 (w:=w) (ty:=o.type) ht hi q l A src.length cap ad J hh news η (by rw[<-W];exact Q w rfl) Ξ β Om;have k':(J.toList.take (l*i.size)).length=l'' Y*i.size:=by rw[auU,axV,δ];omega
  have h':=nK.join (E:=E) (s:=i.size) (rs:=Y) (src:=src) (auB:=J.toList.take (l*i.size)) (news:=news) (tail:=J.toList.drop (l*i.size+l'' news)) V σ k' η
   (λU j p hp=>by obtain⟨u,g1,g2,g3⟩:=ε U j p hp;obtain⟨Δ,u'⟩:=BD V hp;refine⟨u,?_,g2,g3⟩;have:(U+1)*i.size<=l'' Y*i.size:=avL _ Δ;rw[axB,δ]at this;rw[axZ,aD Om,Array.getElem?_toList];exact g1)
   (λU j p hp=>by obtain⟨u,g1,g2⟩:=ζ U j p hp;exact⟨u,g1,Ξ u (awW g1),g2⟩)
  obtain⟨g1,g2⟩:=hW.xu hq hh (rs':=Y++src) (cs:=(J.toList.take (l*i.size)++news++J.toList.drop (l*i.size+l'' news)).toArray)
   (by rw[List.size_toArray];simp only[auJ,auU,awM];have e:l'' J.toList=J.size:=axV;omega) h'
  exact⟨_,_,_,E,_,.osl q i.size 0 (l+l'' src),nJ ho υ τ φ (by rw[S,W];exact M),.inl rfl,.osl rfl rfl (.inr bC) β ν ι Om,g1,g2,α⟩;have ω:∃auB:List Value,(Builtin.firstCells i.size l (.slice (some b) l A)).run T.P w.drew=.ok auB.toArray w.drew/\l'' auB=l*i.size /\
    (∀U j p,at2 Y U j=some p->∃u,auB[U*i.size+j]?=some u/\u.oneCell'=true/\bE E p u):=by
   by_cases M':l=0;subst M';refine⟨[],run_firstCells_some w.drew i.size 0 b 0 A [] bC bC,by simp,λU j p hp=>?_⟩;have:=(BD V hp).1;omega;have ψ:b=⟨q,0,none⟩:=by
    have:b.off=0:=by
     rcases γ with h|h
     omega;exact h
    cases b;simp_all
   subst ψ;have v':(J.toList.take (l*i.size)).length=l*i.size:=by rw[auU,axV];rw[δ]at Ψ;omega
   refine⟨J.toList.take (l*i.size),run_firstCells_some w.drew i.size l _ l A _ v' (λj u hu=>?_),v',λU j p hp=>?_⟩;rw[add_plain,avA];rw[axZ]at hu;split at hu;rw[Array.getElem?_toList]at hu;show w.cell? ⟨q,j,none⟩=some u;rw[cell_of_row w q j J ty (0,0) hh];exact hu;cases hu;obtain⟨u,g1,g2,g3⟩:=ε U j p hp;obtain⟨Δ,u'⟩:=BD V hp;refine⟨u,?_,g2,g3⟩;have:(U+1)*i.size<=l'' Y*i.size:=avL _ Δ;rw[axB,δ]at this;rw[axZ,aD Om,Array.getElem?_toList];exact g1
  obtain⟨auB,ω,ρ,Q'⟩:=ω;obtain⟨v,w',E',q',g1,g2,g3,g4,g5⟩:=grow (some b) l A Y auB ω ρ δ V Q' Om O S H hW (.refl E H w);exact⟨v,_,w',E',_,_,g1,.inl rfl,g3,g4,g5,ο q' g2⟩
 ·
  rename_i q s off len;obtain⟨rfl,O,rs,hq,N',α,ο⟩:=hK;have r':dP H i.size (.osl q i.size (off+1) len)=some ((rs.drop (off+1)).take len):=by simp only[dP,if_true,hq,true_and,aD N']
  obtain⟨Y',A,auB,S,ρ,P',l',c',ξ⟩:=Ba T.P hW hx r';have D':((rs.drop (off+1)).take len).length=len:=by rw[auU,awM];omega
  rw[D']at S ξ ρ;have I':=hx;rw[S]at I';obtain⟨z',J,ty,hh,ι,m',d',Ω⟩:=hW.h q _ hq;cases I' with
  |osl hb p' γ μ ν Φ Z=>
  rename_i N b;have g':N=J.size:=by rw[ι]at Φ;cases Φ;rfl
  subst g';obtain⟨χ,f'⟩:=hW.trim (k:=off+1+len) hq;have hs2:(off+1)*i.size+A*i.size<=J.size:=Z;clear Z;by_cases θ:src=[];subst θ;have κ:=Q w rfl;have Λ:news=[]:=List.eq_nil_of_length_eq_zero (by rw[η];simp);subst Λ;rw[W]at κ;have M:=GK (w:=w) (ty:=o.type) ht hi (some b) len A cap ad μ κ;simp only[awD,avS,awX]at α;exact⟨_,_,w,E,_,.osl q i.size (off+1) len,nJ ho υ τ φ (by rw[S,W];exact M),.inl rfl,.osl hb p' γ μ ν ι Om,χ,f',α⟩;have e':0<l'' src:=List.length_pos_iff.2 θ;by_cases β:len+l'' src<=A;obtain⟨-,s',X',Γ,C',V,Ψ,ε⟩:=χ.h q (.rows i.size (rs.take (off+1+len))) (by rw[dB,aD rfl]);rw[hh]at Γ;cases Γ;have δ:(rs.take (off+1+len)).length=off+1+len:=by rw[auU];omega
  generalize A':rs.take (off+1+len)=Y at *
  have ψ:b=⟨q,(off+1)*i.size,none⟩:=by
   have:b.off=(off+1)*i.size:=by
    rcases γ with h|h
    omega;exact h
   cases b;simp_all
  subst ψ;have Θ:(len+l'' src)*i.size<=A*i.size:=avL _ β;rw[avV]at Θ;have x':(off+1+len)*i.size=(off+1)*i.size+len*i.size:=avV ..;have M:=Ck (w:=w) (ty:=o.type) ht hi q ((off+1)*i.size) len A src.length cap ad J hh news η (by rw[<-W];exact Q w rfl) Ξ β Om;rw[<-x']at M;have k':(J.toList.take ((off+1+len)*i.size)).length=l'' Y*i.size:=by rw[auU,axV,δ];omega
  have h':=nK.join (E:=E) (s:=i.size) (rs:=Y) (src:=src) (auB:=J.toList.take ((off+1+len)*i.size)) (news:=news) (tail:=J.toList.drop ((off+1+len)*i.size+l'' news)) V σ k' η
   (λU j p hp=>by obtain⟨u,g1,g2,g3⟩:=ε U j p hp;obtain⟨Δ,u'⟩:=BD V hp;refine⟨u,?_,g2,g3⟩;have:(U+1)*i.size<=l'' Y*i.size:=avL _ Δ;rw[axB,δ]at this;rw[axZ,aD Om,Array.getElem?_toList];exact g1)
   (λU j p hp=>by obtain⟨u,g1,g2⟩:=ζ U j p hp;exact⟨u,g1,Ξ u (awW g1),g2⟩)
  obtain⟨g1,g2⟩:=hW.xu hq hh (rs':=Y++src) (cs:=(J.toList.take ((off+1+len)*i.size)++news++J.toList.drop ((off+1+len)*i.size+l'' news)).toArray)
   (by rw[List.size_toArray];simp only[auJ,auU,awM];have e:l'' J.toList=J.size:=axV;omega) h'
  exact⟨_,_,_,E,_,.osl q i.size (off+1) (len+l'' src),nJ ho υ τ φ (by rw[S,W];exact M),.inl rfl,.osl rfl rfl (.inr rfl) β ν ι Om,g1,g2,α⟩;obtain⟨v,w',E',q',g1,g2,g3,g4,g5⟩:=grow (some b) len A ((rs.drop (off+1)).take len) auB (by rw[<-S];exact ξ w.drew rfl) ρ D' l'
   (λU j p hp=>by obtain⟨u,g1,g2⟩:=c' U j p hp;exact⟨u,g1,P' u (awW g1),g2⟩) Om O S H hW (.refl E H w)
  exact⟨v,_,w',E',_,_,g1,.inl rfl,g3,g4,g5,ο q' g2⟩
 cases hK
end
open Go Go.RowKit
section
variable {ds:List Deferred} {T:Tbl} {n:Nat} {E:Env} {F:PF} {H:PH} {a:Act} {w:World}
def oneOf(i:Array Value)(k:Nat):Value:=if((i[k]?).getD (.int .i64 0)).oneCell' then(i[k]?).getD (.int .i64 0)else .int .i64 0
theorem Va(i:Array Value)(k:Nat):(oneOf i k).oneCell'=true:=by
 unfold oneOf;split;assumption;rfl
theorem df{o s:Nat}{rs:P2_}{l:Array Value}{Q:Env}(y:E.le Q)(hG:Q.G o=some l)(γ:E.sz o=some l.size)(Z:nK E s rs l){pv:PV}{v:Value}(h:bE E pv v) :
  bE Q (pv.cZ o s rs) v:=by
 unfold PV.cZ;split;rename_i q s' off len;split;rename_i e;subst e;split
 ·rename_i hc;obtain⟨rfl,α⟩:=hc;cases h with
  |osl hb Y M J K hn W=>
  rename_i cap N S;have hl:((rs.drop off).take len).length=len:=by rw[auU,awM];omega
  have U:∀i j p,at2 ((rs.drop off).take len) i j=some p->at2 rs (off+i) j=some p:=by intro i j p hp;unfold at2 at hp ⊢;rw[axZ]at hp;split at hp;rw[ayT]at hp;exact hp;simp at hp
  have O:bE Q (.sl s' ((rs.drop off).take len)) (.slice (some S) ((rs.drop off).take len).length cap):=by
   have hu:∀i j p,at2 ((rs.drop off).take len) i j=some p->∃u,l[(off+i)*s'+j]?=some u/\bE E p u/\oneOf l ((off+i)*s'+j)=u:=by intro i j p hp;obtain⟨u,g1,g2,g3⟩:=Z.2.2 _ _ _ (U i j p hp);exact⟨u,g1,g3,by simp[oneOf,g1,g2]⟩
   refine .sl (λi j=>oneOf l ((off+i)*s'+j)) (by rw[hl];exact J) K (λr hr=>Z.1 r (List.mem_of_mem_drop (ayW hr))) (λV=>?_) (λi j=>Va _ _) (λi j p hp=>?_);have β:0<((rs.drop off).take len).length:=List.length_pos_iff.2 V;have A:S.off=off*s':=by
    rcases M with h|h
    omega;exact h
   refine⟨S,rfl,Y,λi j p hp=>?_⟩;obtain⟨u,g1,-,g3⟩:=hu i j p hp;rw[g3];unfold Env.cell;rw[hb,hG,ayE,A];have e:off*s'+i*s'+j=(off+i)*s'+j:=by rw[avV]
   rw[e];exact g1;obtain⟨u,-,g2,g3⟩:=hu i j p hp;rw[g3];exact g2.mono y
  rw[hl]at O;exact O
 exact .junk _;exact h.mono y;exact h.mono y
theorem F8{o s:Nat}{rs:P2_}{i:Array Value}{A:Env}(l:E.le A)(J:A.G o=some i)(y:E.sz o=some i.size)(K:nK E s rs i){pv:PV}{v:Value}(h:bE E pv v) :
  bE A (pv.rG o s rs) v:=by
 unfold PV.rG;split
 ·cases h with
  |agg vs N M Q=>
  refine .agg vs (by simpa using N) M (λj p u hp S=>?_);rw[avC,auR]at hp;obtain⟨q,O,rfl⟩:=hp;exact df l J y K (Q j q u O S)
 exact df l J y K h
theorem aeZ{o s:Nat}{rs:P2_}{i:Array Value}{A:Env}(l:E.le A)(J:A.G o=some i)(y:E.sz o=some i.size)(K:nK E s rs i){pv:PV}{v:Value}(h:bE E pv v) :
  bE A (pv.frz o s rs) v:=by
 unfold PV.frz;split
 ·cases h with
  |tup vs M O=>
  refine .tup vs (by simpa using M) (λj p u hp Q=>?_);rw[avC,auR]at hp;obtain⟨q,N,rfl⟩:=hp;exact F8 l J y K (O j q u N Q)
 exact F8 l J y K h
theorem bZ.frz(hW:bZ E H w){o s:Nat}{rs:P2_}(ho:H o=some (.rows s rs)):∃W,bZ W (H.frz o s rs) w/\Ext E H w W (H.frz o s rs) w/\∀{pv:PV}{v:Value},bE E pv v->bE W (pv.frz o s rs) v:=by
 obtain⟨hlt,A,ty,hh,S,Y,Z,h3⟩:=hW.h o _ ho;have hR:nK E s rs A:=⟨Y,Z,h3⟩;have α:E.G o=none:=by
  cases h:E.G o with
  |none=>rfl
  |some ds=>have:=(hW.g o ds h).1 _ ho;cases this
 have J:E.le ⟨upd E.G o (some A),E.sz,E.num⟩:=by
  refine⟨λb ds hb=>?_,λb m h=>h,rfl⟩;have β:b≠o:=λe=>by subst e;rw[α]at hb;cases hb
  simp only;rw[VX _ _ β];exact hb
 have O:(⟨upd E.G o (some A),E.sz,E.num⟩:Env).G o=some A:=by simp[upd]
 have l:∀q,(H.frz o s rs).f q=if q=o then none else(H q).map (aW.frz o s rs):=λq=>rfl
 refine⟨⟨upd E.G o (some A),E.sz,E.num⟩,⟨λb ds hb=>?_,λq x K=>?_,hW.s⟩,⟨J,rfl,rfl,rfl,auG _,λ_ _ _=>rfl,λq x K=>?_,λb ds hb=>?_⟩,λh=>aeZ J O S hR h⟩;simp only[upd]at hb;split at hb;rename_i e;subst e;cases hb;refine⟨λx U=>?_,ty,(0,0),hh⟩;rw[l,aD rfl]at U;cases U;rename_i e;obtain⟨g1,g2⟩:=hW.g b ds hb;refine⟨λx U=>?_,g2⟩;rw[l,aB e,auR]at U;obtain⟨y,V,rfl⟩:=U;have:=g1 y V;subst this;rfl;rw[l]at K;split at K;cases K
 ·rw[auR]at K;obtain⟨y,V,rfl⟩:=K;obtain⟨g1,g2⟩:=hW.h q y V;refine⟨g1,?_⟩;cases y with
  |rows s' rs'=>
   obtain⟨N,ζ,k1,k2,k3,k4,k5⟩:=g2;refine⟨N,ζ,k1,k2,?_,by simpa using k4,λi j p hp=>?_⟩;intro r Q;simp only[auT]at Q;obtain⟨r',ε,rfl⟩:=Q;simpa using k3 r' ε;simp only[at2,avC,Option.bind_map]at hp;have γ:∃M,at2 rs' i j=some M/\p=M.cZ o s rs:=by
    unfold at2;cases Q:rs'[i]? with
    |none=>simp[Q]at hp
    |some r =>simp only[Q,ayE,Function.comp,avC,auR]at hp ⊢;obtain⟨M,Y,Z⟩:=hp;exact⟨M,Y,Z.symm⟩
   obtain⟨M,δ,rfl⟩:=γ;obtain⟨u,m1,m2,m3⟩:=k5 i j M δ;exact⟨u,m1,m2,df J O S hR m3⟩
  |map es=>exact SG.mono J rfl g2
  |loop F n t η θ=>exact SG.mono J rfl g2
  |dead=>trivial
 rw[l]at K;split at K;cases K;rw[auR]at K;obtain⟨y,V,-⟩:=K;exact .inl ⟨y,V⟩;simp only[upd]at hb;split at hb;rename_i e;subst e;exact .inr (.inl ⟨_,ho⟩);exact .inl hb
theorem jI.sound{F u:PF}{H H':PH}(h:jI F H u H'):∀{E:Env},bZ E H w->∃l,bZ l H' w/\Ext E H w l H' w/\∀(f:Nat->Value),(∀i pv,F i=some pv->bE E pv (f i))->∀i pv,u i=some pv->bE l pv (f i):=by
 induction h with
 |refl F H=>intro E hW;exact⟨E,hW,.refl E H w,λf h=>h⟩
 |step o N _ Q =>intro E hW;obtain⟨U,A,J,K⟩:=hW.frz N;obtain⟨y,k1,k2,S⟩:=Q A;refine⟨y,k1,J.trans k2,λf M=>S f λi pv hi=>?_⟩;simp only[PF.frz,auR]at hi;obtain⟨q,O,rfl⟩:=hi;exact K (M i q O)
theorem eP.frz{y:PF}{H':PH}(u:eP ds n E F a)(hW:bZ E H w)(h:jI F H y H'):∃l,eP ds n l y a/\bZ l H' w/\Ext E H w l H' w:=by
 obtain⟨l,A,J,K⟩:=h.sound hW;exact⟨l,⟨u.size,u.defers,K (λi=>a.tmps.getD i undef) u.t⟩,A,J⟩
end
open Go Go.RowKit
section
variable {T:Tbl} {n:Nat} {E:Env} {F:PF} {H:PH} {a:Act} {w:World}
theorem ZG(k:List KS):∀(L:List (List KS × PV)) (i j:Nat),(rF k L i).map (·.2)=(rF k L j).map (·.2)
 |[],_,_=>rfl
 |e::L,i,j=>by simp only[rF];split;rfl;exact ZG k L _ _
theorem pT(e:List KS × PV)(L:List (List KS × PV))(k:List KS):mapOf (e::L) k=if e.1=k then some e.2 else mapOf L k:=by
 unfold mapOf;simp only[rF];split;rfl;exact ZG k L _ _
theorem oc{i:List KS}{pv:PV}:∀{L:List (List KS × PV)},mapOf L i=none->mapOf (L++[(i,pv)])=mA.upd (mapOf L) i pv
 |[],_=>by funext k;simp only[axI,pT,mA.upd];by_cases h:i=k;rw[aD h,aD h.symm];rw[aB h,aB (λe=>h e.symm)]
 |e::L,h=>by rw[pT]at h;split at h;cases h;rename_i u;funext k;rw[axX,pT,oc h];simp only[mA.upd,pT];by_cases l:e.1=k;have:k≠i:=λe2=>u (l.trans e2);simp[l,this];simp[l]
theorem zz{l:List KS}{pv:PV}:∀{L:List (List KS × PV)}{i j:Nat}{p:PV},rF l L i=some (j,p)->i<=j/\mapOf (L.set (j-i) (l,pv))=mA.upd (mapOf L) l pv
 |[],i,j,p,h=>by simp[rF]at h
 |e::L,i,j,p,h=>by simp only[rF]at h;split at h;rename_i J;cases h;refine⟨auG _,?_⟩;funext k;rw[awU,avQ,pT];simp only[mA.upd,pT];by_cases u:l=k;subst u;simp;have A:k≠l:=λe2=>u e2.symm;have y:e.1≠k:=λe2=>u (J.symm.trans e2);simp[u,A,y];rename_i J;obtain⟨u,A⟩:=zz (pv:=pv) h;refine⟨by omega,?_⟩;funext k;rw[show j-i=(j-(i+1))+1 by omega,ayI,pT,A];simp only[mA.upd,pT];by_cases y:e.1=k;have:k≠l:=λe2=>J (y.trans e2);simp[y,this];simp[y]
theorem bZ.V6(hW:bZ E H w){o:Nat}{sh:MSh}{g:mA}{es y:Array MapEntry}{K l:Nat}{L:List (List KS × PV)}(V:H o=some (.map sh g))(hh:w.heap[o]?=some (.map es K))(Y:y.size=l'' L/\(L.map (·.1)).Nodup)
  (hL:∀(i:Nat) e W,L[i]?=some e->y[i]?=some W->e.1.map KS.sh=sh.2/\W.key=jM sh e.1/\bE E e.2 W.val) :
  bZ E (H.set o (.map sh (mapOf L))) { w with heap:=w.heap.setIfInBounds o (.map y l) }/\Ext E H w E (H.set o (.map sh (mapOf L))) { w with heap:=w.heap.setIfInBounds o (.map y l) }:=by
 have hlt:=(hW.h o _ V).1;have u:∀b,b≠o->(w.heap.setIfInBounds o (.map y l))[b]?=w.heap[b]?:=λb hb=>Array.getElem?_setIfInBounds_ne (Ne.symm hb);have N:(w.heap.setIfInBounds o (.map y l))[o]?=some (.map y l):=by simp[hlt]
 have U:∀b ds,E.G b=some ds->b≠o:=λb ds hb e=>by subst e;have:=(hW.g b ds hb).1 _ V;cases this
 refine⟨⟨λb ds hb=>?_,λq x J=>?_,λq m hs=>?_⟩,⟨.refl E,rfl,rfl,rfl,by simp,λb _ Z=>u b (λe=>by subst e;rw[V]at Z;cases Z),λq x J=>?_,λb ds hb=>.inl hb⟩⟩;obtain⟨M,O,fr,S⟩:=hW.g b ds hb;have A:=U b ds hb;refine⟨λx hx=>M x ?_,O,fr,(u b A).trans S⟩;rw[dB,aB A]at hx;exact hx;rw[dB]at J;split at J;rename_i e;subst e;cases J;exact⟨by simpa using hlt,y,l,L,N,Y,rfl,hL⟩;rename_i e;obtain⟨M,S⟩:=hW.h q x J;exact⟨by simpa using M,S.mono (.refl E) (u q e)⟩;obtain⟨Q,O,fr,M,S⟩:=hW.s q m hs;have A:q≠o:=λe=>by subst e;rw[hh]at M;cases M
 exact⟨Q,O,fr,(u q A).trans M,S⟩;rw[dB]at J;split at J;rename_i e;subst e;exact .inl ⟨_,V⟩;exact .inl ⟨x,J⟩
theorem an(k:KS)(d:Nat):Instr.sameBits d k.val k.val=true:=by
 cases k<;>cases d<;>simp[KS.val,Instr.sameBits,beq_toListBytes]
theorem I9(sh:MSh)(k:List KS)(J:sh.1=false->∃s,k=[s]):Instr.sameBits 10000 (jM sh k) (jM sh k)=true:=by
 obtain⟨b,l⟩:=sh;cases b with
 |false =>obtain⟨s,rfl⟩:=J rfl;exact an s 10000
 |true=>
  simp only[jM,if_true];obtain⟨m,K⟩:∃m:Nat,m=9999:=⟨_,rfl⟩;rw[show(10000:Nat)=m+1 by omega];simp only[Instr.sameBits,beq_self_eq_true,auV,auX];rintro⟨x,y⟩ u;have:∀(l:List Value),(x,y)∈l.zip l->x=y/\x∈l:=by
   intro l
   induction l with
   |nil=>intro h;simp at h
   |cons z M A=>
    intro h;simp only[List.zip_cons_cons,auQ,Prod.mk.injEq]at h;rcases h with⟨rfl,rfl⟩|h
    exact⟨rfl,by simp⟩;exact⟨(A h).1,by simp[(A h).2]⟩
  obtain⟨rfl,i⟩:=this _ u;simp only[auT]at i;obtain⟨s,-,rfl⟩:=i;exact an s m
theorem Gy{t kt et:TypeId}{sh:MSh}{pk pv:PV}{x k v:Value}{o:Nat}{g:mA}{l:List KS}(ht:T.P.underlying t=some (.map kt et))(γ:T.oT kt=some sh)
  (hx:bE E (.map o) x) (hk:bE E pk k) (hv:bE E pv v) (ho:H o=some (.map sh g)) (α:keyOf sh pk=some l) (hW:bZ E H w) :
  ∃w',(Instr.mapUpdate t x k v).run T.P w=.ok () w'/\bZ E (H.set o (.map sh (g.upd l pv))) w'/\Ext E H w E (H.set o (.map sh (g.upd l pv))) w':=by
 cases hx;obtain⟨hlt,es,O,L,hh,⟨K,β⟩,rfl,A⟩:=hW.h o _ ho;obtain⟨ι,J,η⟩:=zp hk α;have δ:wR sh L es.toList:=⟨by simpa using K,λi e W a b=>by have:=A i e W a (by simpa using b);exact⟨this.1,this.2.1⟩⟩;obtain⟨r,g1,g2⟩:=RV (w:=w) γ J δ;subst ι;have Y:(getObj o).run T.P w=.ok (.map es O) w:=by simp[getObj,Sem.run,hh]
 have N:∀x,(setObj o x).run T.P w=.ok () { w with heap:=w.heap.setIfInBounds o x }:=λx=>MapKept.run_setObj_map x hh;simp only[Instr.mapUpdate,Sem.run_bind,run_underlying ht,Result.andThen_ok,Y,KQ γ J,g1];unfold Found at g2;split at g2;rename_i hn;subst g2;have hm:mapOf L l=none:=by unfold mapOf;rw[hn];rfl
 have hp:mA.upd (mapOf L) l pv=mapOf (L++[(l,pv)]):=(oc hm).symm;rw[hp];simp only[N];have θ:l ∉ L.map (·.1):=λhm=>by have:=(NL l L 0).2 hm;rw[hn]at this;cases this
 have u:((L++[(l,pv)]).map (·.1)).Nodup:=by rw[avD,axR];refine⟨β,by simp,λx hx y hy=>?_⟩;simp only[avH,avY,avN]at hy;subst hy;rintro rfl;exact θ hx
 refine⟨_,rfl,hW.V6 ho hh ⟨by simp[K],u⟩ λi e W Q M=>?_⟩;rcases Nat.lt_trichotomy i L.length with h3|h3|h3
 rw[awR h3]at Q;rw[Array.getElem?_push_lt Om]at M;exact A i e W Q (by rw[ayK Om];exact M);subst h3;rw[awH (auG _)]at Q;rw[<-K,Array.getElem?_push_size]at M;simp at Q M;subst Q;subst M;exact⟨J,rfl,hv⟩;rw[avZ (by simp;omega)]at Q;cases Q;rename_i j p hj;obtain⟨e0,-,M,h3,rfl⟩:=g2;have hp:mA.upd (mapOf L) l pv=mapOf (L.set j (l,pv)):=by have:=(zz (pv:=pv) hj).2;simpa using this.symm
 rw[hp];simp only[Nat.sub_zero]at M h3;have S:es[j]?=some e0:=by simpa using M
 have ε:e0.key=jM sh l:=(A j _ e0 h3 S).2.1;have U:(Instr.keyThatStays (((es[j]?).map (·.key)).getD (jM sh l)) (jM sh l)).run T.P w=.ok (jM sh l) w:=by rw[S];simp only[avB,axC,ε,Instr.keyThatStays,I9 sh l η,if_true,Sem.run_pure]
 simp only[Sem.run_bind,U,Result.andThen_ok,N];have u:((L.set j (l,pv)).map (·.1)).Nodup:=by
  have e9:(L.set j (l,pv)).map (·.1)=L.map (·.1):=by rw[List.map_set];refine List.ext_getElem? λi=>?_;rw[ayG];split;rename_i e;subst e;rw[avC,h3];have:=(avP.1 h3).1;simp[this];rfl
  rw[e9];exact β
 refine⟨_,rfl,hW.V6 ho hh ⟨by simp[K],u⟩ λi e W V h5=>?_⟩;rw[Array.getElem?_modify]at h5;rw[ayG]at V;have ζ:j<l'' L:=(avP.1 h3).1;by_cases Z:j=i;subst Z;rw[aD rfl,aD ζ]at V;rw[aD rfl,S]at h5;simp at V h5;subst V;subst h5;exact⟨J,rfl,hv⟩;rw[aB Z]at V h5;exact A i e W V h5
end
open Go Go.RowKit
def Fz(r:O_):Fence:={ Fence.wide with round:=r }
theorem Fz.calls{r:O_}{m:Nat}{P:Program}{f:FuncId}{args:Array Value}{w:World}{R:Ending->World->Prop}(h:Calls P f args w R):CallsIn (Fz r) m P f args w R:=(callsIn_wide (n:=m)).2 h
theorem Fz.fn{r:O_}(f:FuncId):(Fz r).fn f:=trivial
theorem MF{r:O_}{m:Nat}{P:Program}{o:Oper}{a:Act}{w:World}{next:Act->World->Prop}{Q:Exit->Act->World->Prop}(i:∀c,o.op≠.defer c)(h:o.uponIn (Fz r) m P a next Q ((execOp a.eval o).run P w)):o.wpIn (Fz r) m P a w next Q:=
 ⟨λ_ _=>trivial,by rw[Oper.semAt_eq _ _ _ i];exact h⟩
variable{C:Ctx}
section
variable {ro:O_} {fu:Nat} {ds:List Deferred} {T:Tbl} {n:Nat} {E:Env} {F:PF} {H:PH} {a:Act} {w:World}
def pK(ds:List Deferred)(n:Nat)(E:Env)(H:PH)(w:World)(K:K_)(next:Act->World->Prop):Prop:=
 ∀i u H' y l,eP ds n i u y->bZ i H' l->Ext E H w i H' l->K u H'->next y l
theorem fS.append{ps i:V_}{vs l:List Value}(h:fS E ps vs)(k:fS E i l):fS E (ps++i) (vs++l):=by
 induction h with
 |nil=>exact k
 |cons h _ u=>exact .cons h u
theorem fS.adH{ps:V_}:∀{vs:List Value},l'' vs=l'' ps->(∀(j:Nat) p v,ps[j]?=some p->vs[j]?=some v->bE E p v)->fS E ps vs:=by
 induction ps with
 |nil=>intro vs i _;simp at i;subst i;exact .nil
 |cons p ps l=>
  intro vs i h;cases vs with
  |nil=>simp at i
  |cons v vs=>exact .cons (h 0 p v rfl rfl) (l (by simpa using i) λj q u a b=>h (j+1) q u (by simpa using a) (by simpa using b))
theorem X0{o:Oper}{c:Call}{f:FuncId}{vc:Array Value}{x:Operand}{P:Program}{fn:Func}(A:o.op=.call c)(l:c.callee=.value x)(J:a.eval x=.func (.func f) #[] vc)
  (y:P.funcs[f]?=some fn) (hb:fn.body.isSome=true) (u:(fn.name=="runtime.NumGoroutine")=false) :
  (execOp a.eval o).run P w=.ok (.enter f (c.args.map a.eval++vc)) w:=by
 have i:fn.body.isNone=false:=by cases h:fn.body<;>simp_all
 unfold execOp;rw[A];simp only[resolve,l,J,Deferred.ofValue,Sem.run_bind,Sem.run_pure,Result.andThen_ok,invoke,callFunc,run_program,y,u,i,awQ,if_false,Array.empty_append]
theorem YT{name:Nat}{ps:Option V_}{d:O_}{K:K_}{o:Oper}{c:Call}{x:Operand}{vc:Array Value}{Q:Exit->Act->World->Prop}{next:Act->World->Prop}
  (h:tQ C name ps d K F H) (hd:o.dst=d) (hlt:o.dst.all (·<n)=true) (W:o.op=.call c) (S:c.callee=.value x) (hx:a.eval x=.func (.func (C.num name)) #[] vc)
  (i:∀vs,ps=some vs->fS E vs (c.args.map a.eval++vc).toList) (hA:eP ds n E F a) (hW:bZ E H w) (hN:E.num=C.num) (atL:pK ds n E H w K next):o.wpIn (Fz ro) fu C.P a w next Q:=by
 obtain⟨vs,Z,R,rfl,u,⟨⟨fn,hf,hb,U⟩,l⟩,hK⟩:=h;have A:=X0 (w:=w) (a:=a) W S hx hf hb U;refine MF (λc'=>by rw[W];exact λe=>by cases e) ?_;rw[A,Oper.uponIn_enter];refine⟨(λh=>by cases h),Fz.calls ((l E w _ hN (hW.weaken u) (i vs rfl)).mono λe w' he=>?_)⟩;obtain⟨v,pv,V,H',rfl,N,hr,J,hR⟩:=he;have O:oX H Z H':=by
  intro q y hq h0;rcases J.new q y hq with⟨z,Y⟩|hge
  ·rw[h0]at Y;cases Y
  ·cases hh:H q with
   |none=>rfl
   |some z=>have:=(hW.h q z hh).1;omega
 have M:eP ds n V (F.put d pv) (a.put o.dst v):=by rw[<-hd];exact(hA.mono J.env).put hlt hr
 exact atL V _ _ _ w' M (hW.over J u N) (J.narrow u) (hK pv H' hR O)
theorem SQ{name:Nat}{args:List aP}{cs:V_}{d:O_}{K:K_}{o:Oper}{c:Call}{x:Operand}{vc:Array Value}{Q:Exit->Act->World->Prop}{next:Act->World->Prop}
  (h:iW C name args cs d K F H) (W:o.dst=d) (hlt:o.dst.all (·<n)=true) (Y:o.op=.call c) (J:c.callee=.value x) (Z:a.eval x=.func (.func (C.num name)) #[] vc)
  (i:∀(y:Env)(V:PF) vs,E.le y->eP ds n y V a->y.num=C.num->aP.evs V args=some vs->fS y (vs++cs) (c.args.map a.eval++vc).toList) (O:eP ds n E F a) (hW:bZ E H w) (N:E.num=C.num) (atL:pK ds n E H w K next):o.wpIn (Fz ro) fu C.P a w next Q:=by
 rcases h with h|⟨F1,H1,hf,h⟩
 ·refine YT h W hlt Y J Z (λvs l=>?_) O hW N atL;rw[auR]at l;obtain⟨U,u,rfl⟩:=l;exact i E F U (.refl E) O N u
 ·obtain⟨y,A,S,M⟩:=O.frz hW hf;refine YT h W hlt Y J Z (λvs l=>?_) A S (M.env.num.trans N) (λE2 F2 H2 a2 w2 g1 g2 g3 g4=>atL E2 F2 H2 a2 w2 g1 g2 (M.trans g3) g4);rw[auR]at l;obtain⟨U,u,rfl⟩:=l;exact i y F1 U M.env A (M.env.num.trans N) u
theorem WV{l:Nat}{ps:Option V_}{d:O_}{K:K_}{o:Oper}{c:Call}{x:Operand}{Q:Exit->Act->World->Prop}{next:Act->World->Prop}
  (h:QY C l ps d K F H) (hd:o.dst=d) (hlt:o.dst.all (·<n)=true) (ho:o.op=.call c) (Z:c.callee=.value x) (hx:a.eval x=.func (.yield l) #[] #[])
  (J:∀vs,ps=some vs->fS E vs (c.args.map a.eval).toList) (hA:eP ds n E F a) (hW:bZ E H w) (hN:E.num=C.num) (atL:pK ds n E H w K next):o.wpIn (Fz ro) fu C.P a w next Q:=by
 obtain⟨vs,H0,R,rfl,N,M,hK⟩:=h;obtain⟨fn,A,i,body,hy,u⟩:=M E w (c.args.map a.eval) hN (hW.weaken N) (J vs rfl);have O:(execOp a.eval o).run C.P w=.ok (.round l fn A i body) w:=by unfold execOp;rw[ho];simp only[resolve,Z,hx,Deferred.ofValue,Sem.run_bind,Sem.run_pure,Result.andThen_ok,invoke,Array.empty_append,Array.append_empty];exact hy
 refine MF (λc'=>by rw[ho];exact λe=>by cases e) ?_;rw[O,Oper.uponIn_round];have V:RoundIn (Fz ro) (fu-1) C.P l fn A i body w _:=⟨trivial,λc cs _=>u.2 c cs (room_wide _)⟩;refine⟨(λh=>by cases h),V.mono λe w' he=>?_⟩;obtain⟨v,pv,E',H',rfl,W,hr,S,hR⟩:=he;have Y:oX H H0 H':=by
  intro q y hq h0;rcases S.new q y hq with⟨z,hz⟩|hge
  ·rw[h0]at hz;cases hz
  ·cases hh:H q with
   |none=>rfl
   |some z=>have:=(hW.h q z hh).1;omega
 have U:eP ds n E' (F.put d pv) (a.put o.dst v):=by rw[<-hd];exact(hA.mono S.env).put hlt hr
 exact atL E' _ _ _ w' U (hW.over S N W) (S.narrow N) (hK pv H' hR Y)
theorem Ct{l:Nat}{args:List aP}{d:O_}{K:K_}{o:Oper}{c:Call}{x:Operand}{Q:Exit->Act->World->Prop}{next:Act->World->Prop}
  (h:Ns C l args d K F H) (V:o.dst=d) (hlt:o.dst.all (·<n)=true) (W:o.op=.call c) (J:c.callee=.value x) (Y:a.eval x=.func (.yield l) #[] #[])
  (i:∀(y:Env)(U:PF) vs,eP ds n y U a->y.num=C.num->aP.evs U args=some vs->fS y vs (c.args.map a.eval).toList) (N:eP ds n E F a) (hW:bZ E H w) (M:E.num=C.num) (atL:pK ds n E H w K next):o.wpIn (Fz ro) fu C.P a w next Q:=by
 rcases h with h|⟨F1,H1,hf,h⟩
 ·exact WV h V hlt W J Y (λvs u=>i E F vs N M u) N hW M atL
 ·obtain⟨y,A,S,O⟩:=N.frz hW hf;exact WV h V hlt W J Y (λvs u=>i y F1 vs A (O.env.num.trans M) u) A S (O.env.num.trans M) (λZ F2 H2 a2 w2 g1 g2 g3 g4=>atL Z F2 H2 a2 w2 g1 g2 (O.trans g3) g4)
theorem Gm{o:Oper}{p:POp}(i:T.op o=some p)(l:p.rU=true):∃c,o.op=.call c/\T.call o c=some p:=by
 unfold Tbl.op at i;split at i
 case h_26=>rename_i c u;exact⟨c,u,i⟩
 all_goals (repeat' (first|(split at i)|(simp only[auR]at i;obtain⟨_,-,rfl⟩:=i;simp[POp.rU]at l;done)|(cases i;simp[POp.rU]at l;done)|(cases i;done)))
theorem gk{o:Oper}{p:POp}(i:T.op o=some p):∀c,o.op≠.defer c:=by
 intro c l;unfold Tbl.op at i;rw[l]at i;simp at i
theorem Cf{o:Oper}{p:POp}(l:T.op o=some p)(J:p.eR=true) :
  (∃t V x k Y A,o.op=.store t V x/\T.size t=some k/\T.opd V=some Y/\T.opd x=some A/\p=.store k Y A) \/
  (∃c x y t e i A Z,o.op=.call c/\c.callee=.builtin .append/\c.args.toList=[x,y]/\c.argTypes.toList=[t,t]/\T.P.underlying t=some (.slice e)/\T.P.info? e=some i/\i.zero.isSome=true /\
   (i.zero.map (·.cells.size))=some i.size/\0<i.size/\T.opd x=some A/\T.opd y=some Z/\p=.append i.size i.bytes A Z) \/
  (∃t S U sh x k v A pk pv,(o.op=.mapUpdate t x k v\/o.op=.insert t x k v)/\T.P.underlying t=some (.map S U)/\T.oT S=some sh/\T.opd x=some A/\T.opd k=some pk/\T.opd v=some pv /\
   (p=.atH sh A pk pv\/p=.insert sh A pk pv)):=by
 unfold Tbl.op at l;split at l
 case h_17=>
  rename_i t x k v Q;split at l
  ·rename_i S U W;split at l<;>cases l;rename_i sh p q r K M N h4;exact .inr (.inr ⟨t,S,U,sh,x,k,v,p,q,r,.inl Q,W,K,M,N,h4,.inl rfl⟩)
  ·cases l
 case h_18=>
  rename_i t x k v Q;split at l
  ·rename_i S U W;split at l<;>cases l;rename_i sh p q r K M N h4;exact .inr (.inr ⟨t,S,U,sh,x,k,v,p,q,r,.inr Q,W,K,M,N,h4,.inr rfl⟩)
  ·cases l
 case h_9 =>rename_i t V x Q;split at l<;>cases l;rename_i k Y A K M N;exact .inl ⟨t,V,x,k,Y,A,Q,K,M,N,rfl⟩
 case h_26=>
  rename_i c Q;unfold Tbl.call at l;split at l
  ·rename_i b β;split at l
   ·split at l<;>(first|(simp only[auR]at l;obtain⟨_,-,rfl⟩:=l;simp[POp.eR]at J;done)|(cases l;simp[POp.eR]at J;done)|(cases l;done))
   ·rename_i x y t u α γ;split at l<;>try cases l
    rename_i e e' ht W;split at l<;>try cases l
    rename_i i A Z hi hx hy;split at l
    ·rename_i O;cases l;obtain⟨rfl,K,M,N⟩:=O;exact .inr (.inl ⟨c,x,y,t,e,i,A,Z,Q,β,α,γ,ht,hi,K,M,N,hx,hy,rfl⟩)
    ·cases l
   ·split at l<;>(first|(simp only[auR]at l;obtain⟨_,-,rfl⟩:=l;simp[POp.eR]at J;done)|(cases l;done))
   ·split at l<;>(first|(cases l;simp[POp.eR]at J;done)|(cases l;done))
   ·split at l<;>(first|(cases l;simp[POp.eR]at J;done)|(cases l;done))
   ·cases l
  ·split at l
   ·split at l
    ·cases l;simp[POp.eR]at J
    ·cases l
   ·cases l
  ·simp only[auR]at l;obtain⟨_,-,rfl⟩:=l;simp[POp.eR]at J
  ·cases l
 all_goals (repeat' (first|(split at l)|(simp only[auR]at l;obtain⟨_,-,rfl⟩:=l;simp[POp.eR]at J;done)|(cases l;simp[POp.eR]at J;done)|(cases l;done)))
theorem Ln{o:Oper}{p:POp}{K:R_}(hc:T.op o=some p)(hk:p.eR=true)(h:cD p F H K)(N:eP ds n E F a)(hW:bZ E H w)(O:E.num=T.num):Em T.P E H w o a K:=by
 rcases Cf hc hk with⟨t,ax,x,k,pp,px,ho,h1,h2,h3,rfl⟩|⟨c,x,y,t,e,i,px,py,ho,hcc,hca,hct,ht,hi,g1,g2,g3,hx,hy,rfl⟩|⟨t,kt,et,sh,x,k,v,px,pk,pv,ho,hu,hsh,hx,hkk,hv,hp⟩
 simp only[cD]at h;split at h;rename_i pa pv A Z;obtain⟨hl,H',α,u⟩:=h;obtain⟨w',hr,W,hE⟩:=Ld ho h1 h2 h3 A Z hl α N hW O;exact⟨undef,_,w',E,H',.junk,hr,.inr ⟨rfl,rfl⟩,.junk _,W,hE,u⟩;exact h.elim;simp only[cD]at h;split at h;rename_i pa pb A Y;exact Et ho hcc hca hct ht hi g1 g2 g3 (bK hx A N O) (bK hy Y N O) h hW;exact h.elim;have l:∀q J M g l,px.ev F=some (.map q)->pk.ev F=some J->pv.ev F=some M->H q=some (.map sh g)->keyOf sh J=some l->K .junk (H.set q (.map sh (g.upd l M)))->Em T.P E H w o a K:=by intro q J M g l Q e2 S U V u;obtain⟨w',g1,g2,g3⟩:=Gy hu hsh (bK hx Q N O) (bK hkk e2 N O) (bK hv S N O) U V hW;refine⟨undef,.skip,w',E,_,.junk,?_,.inr ⟨rfl,rfl⟩,.junk _,g2,g3,u⟩;rcases ho with ho|ho<;>(unfold execOp;rw[ho];simp[g1])
 rcases hp with rfl|rfl
 simp only[cD]at h;split at h;rename_i q J M Q e2 S;split at h;rename_i β g ky U V;obtain⟨rfl,u⟩:=h;exact l q J M g ky Q e2 S U V u;exact h.elim;exact h.elim;simp only[cD]at h;split at h;rename_i q J M Q e2 S;split at h;rename_i β g ky U V;obtain⟨rfl,-,u⟩:=h;exact l q J M g ky Q e2 S U V u;exact h.elim;exact h.elim
theorem aaH(α:C.P=T.P)(A:C.num=T.num){o:Oper}{p:POp}{d:O_}{K:K_}{Q:Exit->Act->World->Prop}{next:Act->World->Prop}(hc:T.op o=some p)(hd:o.dst=d)(hlt:o.dst.all (·<n)=true)
  (h:wpOp C p d K F H) (S:eP ds n E F a) (hW:bZ E H w) (hN:E.num=T.num) (atL:pK ds n E H w K next):o.wpIn (Fz ro) fu T.P a w next Q:=by
 by_cases hk:p.rU=true
 ·obtain⟨c,ho,i⟩:=Gm hc hk;unfold Tbl.call at i;split at i
  ·rename_i b N;exfalso
   repeat' (first|(split at i)|(simp only[auR]at i;obtain⟨_,-,rfl⟩:=i;simp[POp.rU]at hk;done)|(cases i;simp[POp.rU]at hk;done)|(cases i;done))
  ·rename_i f N;split at i
   ·rename_i m xs hm W;split at i
    ·rename_i hf;cases i;rw[<-α];refine SQ h hd hlt ho N (vc:=#[]) (by rw[A,hf];rfl) (λO F' vs _ U β δ=>?_) S hW (hN.trans A.symm) atL;simpa using DP W δ U (β.trans A)
    ·cases i
   ·cases i
  ·rename_i t N;simp only[auR]at i;obtain⟨xs,W,rfl⟩:=i;have h':uP C (aP.ev F (.tmp t)) xs d K F H:=h;have ζ:a.eval (.tmp t)=a.tmps.getD t undef:=rfl;cases γ:aP.ev F (.tmp t)with
   |none=>rw[γ]at h';exact h'.elim
   |some u=>
    rw[γ]at h';have r:=S.t t _ γ;cases u with
    |fn name cs=>
     generalize hv:a.tmps.getD t undef=v at r;cases r with
     |fn vc Y Z=>
     rw[<-α];refine SQ h' hd hlt ho N (vc:=vc) (by rw[ζ,hv,hN,A]) (λO F' ws ι A' β ν=>?_) S hW (hN.trans A.symm) atL;rw[Array.toList_append];refine fS.append (by simpa using DP W ν A' (β.trans A)) (fS.adH (by simpa using Y) λj p u hp hu=>(Z j p u hp (by simpa using hu)).mono ι)
    |lit u=>
     obtain⟨l,Y,hy⟩:=h';unfold PV.Xe at Y;split at Y
     ·rename_i l' f' c' e;split at Y
      ·rename_i θ;cases Y;obtain⟨rfl,rfl⟩:=θ;cases e;generalize hv:a.tmps.getD t undef=v at r;cases r;rw[<-α];exact Ct hy hd hlt ho N (by rw[ζ,hv]) (λO F' vs A' N' δ=>by simpa using DP W δ A' (N'.trans A)) S hW (hN.trans A.symm) atL
      ·cases Y
     ·cases Y
    |_=>exact h'.elim
  ·cases i
 ·have ε:p.rU=false:=by simpa using hk
  have y:(if p.iO then oG (cS p F) d K F H else if p.eR then cD p F H (λr H'=>K (F.put d r) H')else vJ (aZ p F H) d K F H):=by cases p<;>first|exact h|(simp[POp.rU]at ε)
  by_cases hn:p.iO=true
  ·rw[aD hn]at y;obtain⟨mk,x,η,hK⟩:=y;obtain⟨v,w',O,q,Z,hq,J,M,V⟩:=Uv hc hn η S hW hN;refine MF (gk hc) ?_;rw[Z,Oper.uponIn_value];exact atL O _ _ _ w' (by rw[<-hd];exact(S.mono V.env).put hlt J) M V (hK q hq)
  ·rw[aB hn]at y;by_cases hw:p.eR=true
   ·rw[aD hw]at y;obtain⟨v,nx,w',O,H',pv,Z,κ,J,M,V,hK⟩:=Ln hc hw y S hW hN;refine MF (gk hc) ?_;have U:eP ds n O (F.put d pv) (a.put o.dst v):=by rw[<-hd];exact(S.mono V.env).put hlt J
    rcases κ with rfl|⟨rfl,rfl⟩
    ·rw[Z,Oper.uponIn_value];exact atL O _ _ _ w' U M V hK
    ·rw[Z,Oper.uponIn_skip];exact atL O _ _ _ w' U M V hK
   ·rw[aB hw]at y;obtain⟨pv,μ,hK⟩:=y;obtain⟨v,w',O,Z,J,M,V⟩:=Oc hc (by simpa using hn) (by simpa using hw) ε μ S hW hN;refine MF (gk hc) ?_;rw[Z,Oper.uponIn_value];exact atL O _ _ _ w' (by rw[<-hd];exact(S.mono V.env).put hlt J) M V hK
end
def aP.cX:aP->N_
 | .tmp t=>[t]
 | .const _=>[]
def yY:Option aP->N_
 |none=>[]
 |some x=>x.cX
def VH:List aP->N_
 |[]=>[]
 |x::xs=>x.cX++VH xs
def Jf:List (Nat × Nat × aP)->N_
 |[]=>[]
 |x::xs=>x.2.2.cX++Jf xs
def Je:List (Nat × aP)->N_
 |[]=>[]
 |x::xs=>x.2.cX++Je xs
def POp.cX:POp->N_
 | .mv x=>x.cX
 | .pick c a b=>c.cX++(a.cX++b.cX)
 | .bin _ x y=>x.cX++y.cX
 | .eqb _ x y=>x.cX++y.cX
 | .eqs _ _ x y=>x.cX++y.cX
 | .un _ x=>x.cX
 | .conv _ x=>x.cX
 | .same x=>x.cX
 | .alloc _=>[]
 | .box _ x=>x.cX
 | .build _ ps=>Jf ps
 | .asV _ _ _ _ ps=>Je ps
 | .load _ p=>p.cX
 | .store _ p x=>p.cX++x.cX
 | .atC x=>x.cX
 | .atU _ x=>x.cX
 | .field _ _ x=>x.cX
 | .atG _ x i=>x.cX++i.cX
 | .idxA _ _ x i=>x.cX++i.cX
 | .idxV _ _ _ x i=>x.cX++i.cX
 | .atS x i=>x.cX++i.cX
 | .slice _ x lo hi mx=>x.cX++(yY lo++(yY hi++yY mx))
 | .atM x lo hi=>x.cX++(yY lo++yY hi)
 | .sliceA _ _ x lo hi mx=>x.cX++(yY lo++(yY hi++yY mx))
 | .len x=>x.cX
 | .atQ x=>x.cX
 | .auC x=>x.cX
 | .lenM x=>x.cX
 | .isNil _ x=>x.cX
 | .extract x _=>x.cX
 | .asX _ _ _ l c=>l.cX++c.cX
 | .append _ _ x y=>x.cX++y.cX
 | .atK _ x y=>x.cX++y.cX
 | .mkfn _ cs=>VH cs
 | .atX _=>[]
 | .lookup _ _ x k _=>x.cX++k.cX
 | .atH _ x k v=>x.cX++(k.cX++v.cX)
 | .insert _ x k v=>x.cX++(k.cX++v.cX)
 | .stuck=>[]
 | .atD x=>x.cX
 | .str2bytes x=>x.cX
 | .call _ u=>VH u
 | .atT x u=>x.cX++VH u
def sW(l:N_)(F F':PF):Prop:=∀t∈l,F t=F' t
theorem sW.left{a b:N_}{F F':PF}(h:sW (a++b) F F'):sW a F F':=λt i=>h t (by simp[i])
theorem sW.right{a b:N_}{F F':PF}(h:sW (a++b) F F'):sW b F F':=λt i=>h t (by simp[i])
section
variable {F F':PF} {H H':PH}
theorem cG{x:aP}(h:sW x.cX F F'):x.ev F=x.ev F':=by
 cases x with
 |tmp t=>exact h t (by simp[aP.cX])
 |const v=>rfl
theorem NJ:∀{xs:List aP},sW (VH xs) F F'->aP.evs F xs=aP.evs F' xs
 |[],_=>rfl
 |x::xs,h=>by simp only[aP.evs,cG h.left,NJ h.right]
theorem l7:∀{ps:List (Nat × Nat × aP)}{cs:V_},sW (Jf ps) F F'->pP cs F ps=pP cs F' ps
 |[],_,_=>rfl
 |(o,s,x)::ps,cs,h=>by simp only[pP];rw[cG (x:=x) h.left];split;rw[l7 (ps:=ps) h.right];rfl
theorem CF{s:Nat}:∀{ps:List (Nat × aP)}{rs:P2_},sW (Je ps) F F'->gQ s rs F ps=gQ s rs F' ps
 |[],_,_=>rfl
 |(i,x)::ps,rs,h=>by simp only[gQ];rw[cG (x:=x) h.left];split;rw[CF (ps:=ps) h.right];rfl
theorem FN{d:Int}{x:Option aP}(h:sW (yY x) F F'):bnd F d x=bnd F' d x:=by
 cases x with
 |none=>rfl
 |some x=>simp only[bnd,cG (x:=x) h]
theorem Qt{op:POp}(h:sW op.cX F F'):aZ op F H=aZ op F' H:=by
 cases op
 case mv x=>simp only[aZ,cG (x:=x) h]
 case same x=>simp only[aZ,cG (x:=x) h]
 case pick c a b=>simp only[aZ,cG (x:=c) h.left,cG (x:=a) h.right.left,cG (x:=b) h.right.right]
 case bin x y=>simp only[aZ,cG (x:=x) h.left,cG (x:=y) h.right]
 case eqb x y=>simp only[aZ,cG (x:=x) h.left,cG (x:=y) h.right]
 case eqs x y=>simp only[aZ,cG (x:=x) h.left,cG (x:=y) h.right]
 case un x=>simp only[aZ,cG (x:=x) h]
 case conv x=>simp only[aZ,cG (x:=x) h]
 case box r x=>cases r<;>simp only[aZ,cG (x:=x) h]
 case build ps=>simp only[aZ,l7 (ps:=ps) h]
 case asV r _ _ _ ps=>cases r<;>simp only[aZ,CF (ps:=ps) h]
 case load n p=>cases n<;>simp only[aZ,cG (x:=p) h]
 case atC x=>simp only[aZ,cG (x:=x) h]
 case atU x=>simp only[aZ,cG (x:=x) h]
 case field x=>simp only[aZ,cG (x:=x) h]
 case atG x i=>simp only[aZ,cG (x:=x) h.left,cG (x:=i) h.right]
 case idxA x i=>simp only[aZ,cG (x:=x) h.left,cG (x:=i) h.right]
 case idxV x i=>simp only[aZ,cG (x:=x) h.left,cG (x:=i) h.right]
 case atS x i=>simp only[aZ,cG (x:=x) h.left,cG (x:=i) h.right]
 case slice s x lo hi mx=>
  have l:x.ev F=x.ev F':=cG h.left;have u:∀d,bnd F d lo=bnd F' d lo:=λd=>FN h.right.left;have w:∀d,bnd F d hi=bnd F' d hi:=λd=>FN h.right.right.left;cases mx with
  |none=>simp only[aZ,l,u,w]
  |some m =>have A:∀d,bnd F d (some m)=bnd F' d (some m):=λd=>FN (x:=some m) h.right.right.right;simp only[aZ,l,u,w,A]
 case sliceA n size x lo hi mx =>have l:x.ev F=x.ev F':=cG h.left;cases lo<;>cases hi<;>cases mx<;>simp only[aZ,l]
 case atM x lo hi =>have l:x.ev F=x.ev F':=cG h.left;have u:∀d,bnd F d lo=bnd F' d lo:=λd=>FN h.right.left;have w:∀d,bnd F d hi=bnd F' d hi:=λd=>FN h.right.right;simp only[aZ,l,u,w]
 case len x=>simp only[aZ,cG (x:=x) h]
 case atQ x=>simp only[aZ,cG (x:=x) h]
 case auC x=>simp only[aZ,cG (x:=x) h]
 case lenM x=>simp only[aZ,cG (x:=x) h]
 case isNil x=>simp only[aZ,cG (x:=x) h]
 case extract x i=>simp only[aZ,cG (x:=x) h]
 case atK x y=>simp only[aZ,cG (x:=x) h.left,cG (x:=y) h.right]
 case mkfn cs=>simp only[aZ,NJ (xs:=cs) h]
 case lookup sh z x k ok=>simp only[aZ,cG (x:=x) h.left,cG (x:=k) h.right]
 case atD x=>simp only[aZ,cG (x:=x) h]
 all_goals rfl
theorem N0{op:POp}(h:sW op.cX F F'):cS op F=cS op F':=by
 cases op
 case box r x=>cases r<;>simp only[cS,cG (x:=x) h]
 case asV r _ _ _ ps=>cases r<;>simp only[cS,CF (ps:=ps) h]
 case asX l c=>simp only[cS,cG (x:=l) h.left,cG (x:=c) h.right]
 all_goals rfl
theorem Sa{op:POp}{K:R_}(h:sW op.cX F F'):cD op F H K=cD op F' H K:=by
 cases op
 case store n p x=>simp only[cD,cG (x:=p) h.left,cG (x:=x) h.right]
 case append s b x y=>simp only[cD,cG (x:=x) h.left,cG (x:=y) h.right]
 case atH sh x k v=>simp only[cD,cG (x:=x) h.left,cG (x:=k) h.right.left,cG (x:=v) h.right.right]
 case insert sh x k v=>simp only[cD,cG (x:=x) h.left,cG (x:=k) h.right.left,cG (x:=v) h.right.right]
 all_goals rfl
theorem zq{op:POp}(h:sW op.cX F F'):op.kind F=op.kind F':=by
 have i:(if op.iO then Kind.new (cS op F)else if op.eR then .write (λH K=>cD op F H K)else .calm (aZ op F)) =
   (if op.iO then Kind.new (cS op F')else if op.eR then .write (λH K=>cD op F' H K)else .calm (aZ op F')):=by
  rw[N0 h];have l:(λH K=>cD op F H K)=λH K=>cD op F' H K:=by funext H K;exact Sa h
  have u:aZ op F=aZ op F':=by funext H;exact Qt h
  rw[l,u]
 cases op
 case call n az=>simp only[POp.kind,NJ (xs:=az) h]
 case atT x az=>simp only[POp.kind,cG (x:=x) h.left,NJ (xs:=az) h.right]
 case insert sh x k v=>simp only[POp.kind,cG (x:=x) h.left,cG (x:=k) h.right.left,cG (x:=v) h.right.right]
 all_goals exact i
def bY.cX(i:bY):N_:=
 match i.guard with
 |none=>i.op.cX
 |some (t,_)=>t::i.op.cX
theorem nt{i:bY}(h:sW i.cX F F'):i.kind F=i.kind F':=by
 unfold bY.kind;unfold bY.cX at h;cases l:i.guard with
 |none=>rw[l]at h;exact zq h
 |some p =>obtain⟨t,w⟩:=p;rw[l]at h;simp only;rw[h t bC,zq (λu y=>h u (by simp[y]))]
theorem Zt(p:PV):∃q:Nat,∀(H H':PH) n,H q=H' q->loadCells H p n=loadCells H' p n:=by
 cases p
 case ptr o s i c=>exact⟨o,λH H' n h=>by simp only[loadCells,h]⟩
 all_goals exact⟨0,λH H' n h=>rfl⟩
theorem acE(s:Nat)(p:PV):∃q:Nat,∀(H H':PH),H q=H' q->dP H s p=dP H' s p:=by
 cases p
 case osl o s' off len=>exact⟨o,λH H' h=>by simp only[dP,h]⟩
 all_goals exact⟨0,λH H' h=>rfl⟩
theorem Vh(op:POp)(F:PF):∃q:Nat,∀(H H':PH),H q=H' q->aZ op F H=aZ op F H':=by
 cases op
 case load n p=>
  cases hp:p.ev F with
  |none=>exact⟨0,λH H' _=>by cases n<;>simp only[aZ,hp]⟩
  |some a =>obtain⟨q,i⟩:=Zt a;exact⟨q,λH H' h=>by cases n<;>simp only[aZ,hp,i H H' _ h]⟩
 case lenM x=>
  cases hp:x.ev F with
  |none=>exact⟨0,λH H' _=>by simp only[aZ,hp]⟩
  |some a=>
   cases a
   case map o=>exact⟨o,λH H' h=>by simp only[aZ,hp,h]⟩
   all_goals exact⟨0,λH H' _=>by simp only[aZ,hp]⟩
 case lookup sh z x k ok=>
  cases hp:x.ev F with
  |none=>exact⟨0,λH H' _=>by simp only[aZ,hp]⟩
  |some a=>
   cases a
   case map o=>exact⟨o,λH H' h=>by cases l:k.ev F<;>simp only[aZ,hp,l,h]⟩
   all_goals exact⟨0,λH H' _=>by simp only[aZ,hp]⟩
 case atD x=>
  cases hp:x.ev F with
  |none=>exact⟨0,λH H' _=>by simp only[aZ,hp]⟩
  |some a =>obtain⟨q,i⟩:=acE 1 a;exact⟨q,λH H' h=>by simp only[aZ,hp,i H H' h]⟩
 case sliceA n s x lo hi mx=>cases lo<;>cases hi<;>cases mx<;>exact⟨0,λH H' _=>rfl⟩
 case box r x=>cases r<;>exact⟨0,λH H' _=>rfl⟩
 case asV r _ _ _ _=>cases r<;>exact⟨0,λH H' _=>rfl⟩
 all_goals exact⟨0,λH H' _=>rfl⟩
theorem zw{p:PV}{n:Nat}{cs:V_}(l:H.le H')(h:loadCells H p n=some cs):loadCells H' p n=some cs:=by
 cases p
 case ptr o s i c=>
  simp only[loadCells]at h ⊢;cases u:H o with
  |none=>rw[u]at h;cases h
  |some x=>rw[l o x u];rw[u]at h;exact h
 all_goals exact h
theorem Wy{s:Nat}{p:PV}{rs:P2_}(i:H.le H')(h:dP H s p=some rs):dP H' s p=some rs:=by
 cases p
 case osl o s' off len=>
  simp only[dP]at h ⊢;cases l:H o with
  |none=>rw[l]at h;simp at h
  |some x=>rw[i o x l];rw[l]at h;exact h
 all_goals exact h
theorem p8{op:POp}{v:PV}(l:H.le H')(h:aZ op F H=some v):aZ op F H'=some v:=by
 cases op
 case load n p=>
  cases hp:p.ev F with
  |none=>cases n<;>simp only[aZ,hp]at h<;>cases h
  |some a=>
   cases n with
   |none=>
    simp only[aZ,hp]at h ⊢;cases i:loadCells H a 1 with
    |none=>rw[i]at h;cases h
    |some cs=>rw[zw l i];rw[i]at h;exact h
   |some n=>
    simp only[aZ,hp]at h ⊢;cases i:loadCells H a n with
    |none=>rw[i]at h;cases h
    |some cs=>rw[zw l i];rw[i]at h;exact h
 case lenM x=>
  simp only[aZ]at h ⊢;split at h
  ·rename_i o w;cases u:H o with
   |none=>rw[u]at h;cases h
   |some y=>rw[l o y u];rw[u]at h;exact h
  ·cases h
 case lookup sh z x k ok=>
  simp only[aZ]at h ⊢;split at h
  ·rename_i o J w E;cases u:H o with
   |none=>rw[u]at h;cases h
   |some y=>rw[l o y u];rw[u]at h;exact h
  ·cases h
 case atD x=>
  simp only[aZ]at h ⊢;split at h
  ·rename_i a A;cases i:dP H 1 a with
   |none=>rw[i]at h;cases h
   |some rs=>rw[Wy l i];rw[i]at h;exact h
  ·cases h
 case sliceA n s x lo hi mx=>cases lo<;>cases hi<;>cases mx<;>exact h
 case box r x=>cases r<;>exact h
 case asV r _ _ _ _=>cases r<;>exact h
 all_goals exact h
end
theorem PH.ze(H:PH)(l:N_):∃o,H o=none/\o ∉ l:=by
 obtain⟨n,u⟩:=H.fin;refine⟨n+l.sum+1,u _ Om,λh=>?_⟩;have:n+l.sum+1<=l.sum:=by
  have i:∀(l:N_)(x:Nat),x∈l->x<=l.sum:=by
   intro l
   induction l with
   |nil=>intro x hx;cases hx
   |cons y ys w=>
    intro x hx;rcases auQ.1 hx with rfl|hx
    simp;have:=w x hx;simp;omega
  exact i l _ h
 omega
theorem PH.set_comm(H:PH){o q:Nat}(x y:aW)(h:o≠q):(H.set o x).set q y=(H.set q y).set o x:=by
 refine PH.ext λp=>?_;simp only[dB];by_cases i:p=q<;>by_cases l:p=o<;>simp_all
theorem PH.TW{H:PH}{o:Nat}(x:aW)(h:H o=none):H.le (H.set o x):=by
 intro p y hp;rw[dB];split;rename_i e;subst e;rw[h]at hp;cases hp;exact hp
theorem PH.Jb{H:PH}{o q:Nat}{x:aW}:(H.set o x) q=none↔q≠o/\H q=none:=by
 rw[dB];split<;>simp_all
theorem PH.le_trans{A B D:PH}(h:A.le B)(k:B.le D):A.le D:=λo x i=>k o x (h o x i)
theorem PH.le_none{A B:PH}(h:A.le B){o:Nat}(hb:B o=none):A o=none:=by
 cases i:A o with
 |none=>rfl
 |some x=>have:=h o x i;rw[hb]at this;cases this
theorem PH.vG{A B:PH}(h:A.le B){o:Nat}{x:aW}(i:A o=none):A.le (B.set o x):=by
 intro p y hp;rw[dB];split;rename_i e;subst e;rw[i]at hp;cases hp;exact h p y hp
structure D4(f:PH->Option PV):Prop where
 dep:∃q:Nat,∀(H H':PH),H q=H' q->f H=f H'
 mono:∀(H H':PH) v,H.le H'->f H=some v->f H'=some v
structure adR(w:PH->(R_)->Prop):Prop where
 mono:∀H (K K':R_),(∀v H',K v H'->K' v H')->w H K->w H K'
 some:∀H (K:R_),w H K->∃v H',K v H'
inductive Kind.Ok:Kind->Prop
 |fail:Kind.Ok .fail
 |calm {f:PH->Option PV} (h:D4 f):Kind.Ok (.calm f)
 |new (r:Option ((Nat->PV) × aW)):Kind.Ok (.new r)
 |write {w:PH->(R_)->Prop} (h:adR w):Kind.Ok (.write w)
 |call (name:Nat) (args:Option V_):Kind.Ok (.call name args)
 |ins (r:Option (Nat × MSh × List KS × PV)):Kind.Ok (.ins r)
section
variable {C:Ctx} {Hs:PH} {S:Spec} {H:PH}
theorem GR{op:POp}{F:PF}{K K':R_}(h:∀v H',K v H'->K' v H')(i:cD op F H K):cD op F H K':=by
 cases op
 case store n p x=>
  simp only[cD]at i ⊢;split at i
  ·obtain⟨J,H',l,M⟩:=i;exact⟨J,H',l,h _ _ M⟩
  ·exact i.elim
 case append s b x y=>
  simp only[cD]at i ⊢;split at i
  ·rename_i a c N O;obtain⟨src,J,l⟩:=i;refine⟨src,J,?_⟩;split at l
   ·exact⟨l.1,λe=>h _ _ (l.2.1 e),λe o u=>h _ _ (l.2.2 e o u)⟩
   ·obtain⟨g1,g2,g3,rs,g4,w,A,E⟩:=l;exact⟨g1,g2,g3,rs,g4,w,h _ _ A,λo u=>h _ _ (E o u)⟩
   ·obtain⟨g1,g3,rs,g4,w,A,E⟩:=l;exact⟨g1,g3,rs,g4,w,h _ _ A,λo u=>h _ _ (E o u)⟩
   ·exact l.elim
  ·exact i.elim
 case atH sh x k v=>
  simp only[cD]at i ⊢;split at i
  ·split at i
   ·exact⟨i.1,h _ _ i.2⟩
   ·exact i.elim
  ·exact i.elim
 case insert sh x k v=>
  simp only[cD]at i ⊢;split at i
  ·split at i
   ·exact⟨i.1,i.2.1,h _ _ i.2.2⟩
   ·exact i.elim
  ·exact i.elim
 all_goals exact i.elim
theorem Ka{op:POp}{F:PF}{K:R_}(i:cD op F H K):∃v H',K v H':=by
 cases op
 case store n p x=>
  simp only[cD]at i;split at i
  ·obtain⟨E,H',l,J⟩:=i;exact⟨_,_,J⟩
  ·exact i.elim
 case append s b x y=>
  simp only[cD]at i;split at i
  ·rename_i a c N O;obtain⟨src,E,l⟩:=i;split at l
   ·by_cases e:src=[]
    ·exact⟨_,_,l.2.1 e⟩
    ·obtain⟨o,M⟩:=H.fresh;exact⟨_,_,l.2.2 e o M⟩
   ·obtain⟨g1,g2,g3,rs,g4,w,u,A⟩:=l;exact⟨_,_,u⟩
   ·obtain⟨g1,g3,rs,g4,w,u,A⟩:=l;exact⟨_,_,u⟩
   ·exact l.elim
  ·exact i.elim
 case atH sh x k v=>
  simp only[cD]at i;split at i
  ·split at i
   ·exact⟨_,_,i.2⟩
   ·exact i.elim
  ·exact i.elim
 case insert sh x k v=>
  simp only[cD]at i;split at i
  ·split at i
   ·exact⟨_,_,i.2.2⟩
   ·exact i.elim
  ·exact i.elim
 all_goals exact i.elim
theorem Hz(op:POp)(F:PF):(op.kind F).Ok:=by
 have i:(if op.iO then Kind.new (cS op F)else if op.eR then .write (λH K=>cD op F H K)else .calm (aZ op F)).Ok:=by
  split
  ·exact .new _
  ·split
   ·exact .write ⟨λH K K' h l=>GR h l,λH K l=>Ka l⟩
   ·exact .calm ⟨Vh op F,λH H' v h u=>p8 h u⟩
 cases op
 case call n az=>exact .call _ _
 case atT x az=>
  simp only[POp.kind];split
  ·exact .call _ _
  ·exact .fail
 case insert sh x k v=>exact .ins _
 all_goals exact i
theorem wG(i:bY)(F:PF):(i.kind F).Ok:=by
 unfold bY.kind;split;exact Hz _ _;split;split;exact Hz _ _;exact .calm ⟨⟨0,λ_ _ _=>rfl⟩,λ_ _ _ _ h=>h⟩;exact .calm ⟨⟨0,λ_ _ _=>rfl⟩,λ_ _ _ _ h=>h⟩;exact .fail
theorem Kind.wK{k:Kind}(N:k.Ok){st:Bool}{K K':R_}(h:∀v H',Hs.le H'->K v H'->K' v H')(u:Hs.le H)(w:k.run C Hs S st K H):k.run C Hs S st K' H:=by
 cases N with
 |fail=>exact w
 |calm _=>obtain⟨v,i,l⟩:=w;exact⟨v,i,h _ _ u l⟩
 |new r=>obtain⟨Q,x,i,l⟩:=w;exact⟨Q,x,i,λo M=>h _ _ (PH.le_trans u (PH.TW x M)) (l o M)⟩
 |write O=>exact O.mono _ _ _ (λv H' F=>⟨F.1,h _ _ F.1 F.2⟩) w
 |call name args =>obtain⟨vs,D,R,i,l,A,y,h5,E⟩:=w;exact⟨vs,D,R,i,l,A,y,h5,λr H' a b=>⟨(E r H' a b).1,h _ _ (E r H' a b).1 (E r H' a b).2⟩⟩
 |ins r =>obtain⟨o,sh,J,v,g,i,l,A,y,h5⟩:=w;exact⟨o,sh,J,v,g,i,l,A,y,h _ _ (PH.vG u y) h5⟩
def Kind.cls:Kind->Nat
 | .fail | .calm _=>0
 | .new _=>1
 | .write _=>2
 | .call ..=>3
 | .ins _=>4
theorem PG{H:PH}{D:N_}{o:Nat}(x:aW)(h:o ∉ D):(H.set o x).only D=H.only D:=by
 refine PH.ext λq=>?_;simp only[PH.only,dB];split;rename_i i;rw[aB (by rintro rfl;exact h i)];rfl
theorem iL(H i H':PH)(o:Nat):(H.over i H') o=(match H' o with|some x=>some x|none=>match i o with|some _=>some .dead|none=>H o):=rfl
theorem uI(H:PH)(D:N_)(o:Nat):(H.only D) o=if o∈D then H o else none:=rfl
theorem Ik{H H':PH}{D:N_}{o:Nat}(x:aW)(l:o ∉ D)(i:H' o=none):(H.set o x).over (H.only D) H'=(H.over (H.only D) H').set o x:=by
 refine PH.ext λq=>?_;rw[iL,dB,dB,iL];by_cases e:q=o;subst e;simp only[i,uI,aB l,if_true];simp only[aB e]
theorem Au{H H':PH}{D:N_}{o:Nat}(h:(H.over (H.only D) H') o=none):H o=none/\H' o=none:=by
 rw[iL]at h;cases i:H' o with
 |some x=>rw[i]at h;cases h
 |none=>
  rw[i]at h;simp only at h;cases l:(H.only D) o with
  |some x=>rw[l]at h;cases h
  |none=>rw[l]at h;exact⟨h,rfl⟩
theorem Cp{name:Nat}{args:Option V_}{r:Option ((Nat->PV) × aW)}{K:PV->R_}{Z sj:Bool}
  (h:(Kind.call name args).run C Hs S Z (λv H'=>(Kind.new r).run C Hs S sj (λu l=>K v u l) H') H) :
  (Kind.new r).run C Hs S sj (λu H'=>(Kind.call name args).run C Hs S Z (λv l=>K v u l) H') H:=by
 obtain⟨vs,D,R,h1,h2,O,h4,h5,Q⟩:=h;obtain⟨r0,H0,F,J⟩:=h5 H;obtain⟨-,mk,x,W,-⟩:=Q r0 H0 F J;refine⟨mk,x,W,λo V=>?_⟩;have i:o ∉ D:=λhD=>by obtain⟨y,Y⟩:=O o hD;rw[V]at Y;cases Y
 refine⟨vs,D,R,h1,h2,λq M=>?_,?_,?_,?_⟩;rw[dB];split;exact⟨_,rfl⟩;exact O q M;rw[PG x i];exact h4;rw[PG x i];exact h5;intro v H' U w;rw[PG x i]at U w ⊢;have N:H' o=none:=by
  cases e:H' o with
  |none=>rfl
  |some y =>have:=w o y e (by rw[uI,aB i]);rw[dB,aD rfl]at this;cases this
 have A:oX H (H.only D) H':=λq y M h0=>by have:=w q y M h0;rw[dB]at this;split at this;cases this;exact this
 obtain⟨g1,mk',x',g2,g3⟩:=Q v H' U A;rw[W]at g2;cases g2;have E:(H.over (H.only D) H') o=none:=by rw[iL,N,uI,aB i];exact V
 rw[Ik x i N];exact⟨PH.le_trans g1 (PH.TW x E),g3 o E⟩
theorem Cr{name:Nat}{args:Option V_}{r:Option ((Nat->PV) × aW)}{K:PV->R_}{si sj:Bool}(Q:Hs.le H)
  (h:(Kind.new r).run C Hs S si (λv H'=>(Kind.call name args).run C Hs S sj (λu A=>K v u A) H') H) :
  (Kind.call name args).run C Hs S sj (λu H'=>(Kind.new r).run C Hs S si (λv A=>K v u A) H') H:=by
 obtain⟨V,x,hr,h⟩:=h;obtain⟨o0,U⟩:=H.fresh;obtain⟨vs,D,R,Z,h2,-⟩:=h o0 U;obtain⟨o,ho,E⟩:=H.ze D;have all:∀q,H q=none->q ∉ D->(∀p∈D,∃y,(H.set q x) p=some y)/\aG C name vs (H.only D) (R (H.only D))/\(∀G:PH,∃r H',R (H.only D) r H'/\oX G (H.only D) H') /\
   ∀r H',R (H.only D) r H'->oX (H.set q x) (H.only D) H'->Hs.le ((H.set q x).over (H.only D) H')/\K (V q) r ((H.set q x).over (H.only D) H'):=by
  intro q i w;obtain⟨α,D',R',g1,g2,g3,g4,W,Y⟩:=h q i;rw[Z]at g1;cases g1;rw[h2]at g2;cases g2;rw[PG x w]at g4 W Y;exact⟨g3,g4,W,Y⟩
 obtain⟨a3,a4,a5,-⟩:=all o ho E;have hD:∀q∈D,∃y,H q=some y:=λq i=>by obtain⟨y,M⟩:=a3 q i;rw[dB,aB (by rintro rfl;exact E i)]at M;exact⟨y,M⟩
 have F:∀q,H q=none->q ∉ D:=λq i N=>by obtain⟨y,M⟩:=hD q N;rw[i]at M;cases M
 refine⟨vs,D,R,Z,h2,hD,a4,a5,λu H' hR O=>?_⟩;have step:∀q,(H.over (H.only D) H') q=none->Hs.le ((H.over (H.only D) H').set q x)/\K (V q) u ((H.over (H.only D) H').set q x):=by
  intro q i;obtain⟨l,J⟩:=Au i;have w:=F q l;obtain⟨-,-,-,a6⟩:=all q l w;have:=a6 u H' hR λp y hp h0=>by rw[dB];split;rename_i e;subst e;rw[J]at hp;cases hp;exact O p y hp h0
  rw[Ik x w J]at this;exact this
 refine⟨?_,V,x,hr,λq i=>(step q i).2⟩;obtain⟨q,i⟩:=(H.over (H.only D) H').fresh;have l:=(step q i).1;intro p y hp;have:=l p y hp;rw[dB]at this;split at this;rename_i e;subst e;have:=PH.le_none Q (Au i).1;rw[hp]at this;cases this;exact this
theorem Ju{r r':Option ((Nat->PV) × aW)}{K:PV->R_}{E F:Bool}
  (h:(Kind.new r).run C Hs S E (λv H'=>(Kind.new r').run C Hs S F (λu i=>K v u i) H') H) :
  (Kind.new r').run C Hs S F (λu H'=>(Kind.new r).run C Hs S E (λv i=>K v u i) H') H:=by
 obtain⟨O,x,N,h⟩:=h;obtain⟨U,A⟩:=H.fresh;obtain⟨mk',J,l,-⟩:=h U A;refine⟨mk',J,l,λq M=>⟨O,x,N,λo y=>?_⟩⟩;rw[PH.Jb]at y;obtain⟨Q,V,w,g⟩:=h o y.2;rw[l]at w;cases w;have:=g q (PH.Jb.2 ⟨Ne.symm y.1,M⟩)
 rwa[PH.set_comm H x J y.1]at this
theorem Cq{f:PH->Option PV}{k:Kind}{K:PV->R_}{y J:Bool}(M:D4 f)(N:k.Ok)(w:k.cls=2\/k.cls=3\/k.cls=4->y=true)(l:Hs.le H)
  (h:(Kind.calm f).run C Hs S y (λv H'=>k.run C Hs S J (λu i=>K v u i) H') H) :
  k.run C Hs S J (λu H'=>(Kind.calm f).run C Hs S y (λv i=>K v u i) H') H:=by
 obtain⟨v,A,h⟩:=h;cases N with
 |fail=>exact h
 |@calm g W=>obtain⟨u,Q,h⟩:=h;exact⟨u,Q,v,A,h⟩
 |new r =>obtain⟨V,x,O,h⟩:=h;refine⟨V,x,O,λo F=>⟨v,?_,h o F⟩⟩;cases y;exact M.mono _ _ _ (PH.TW x F) A;exact A
 |write U =>have:y=true:=w (.inl rfl);subst this;exact Kind.wK (.write U) (λu H' _ E=>⟨v,A,E⟩) l h
 |call name args =>have:y=true:=w (.inr (.inl rfl));subst this;exact Kind.wK (.call name args) (λu H' _ E=>⟨v,A,E⟩) l h
 |ins r =>have:y=true:=w (.inr (.inr rfl));subst this;exact Kind.wK (.ins r) (λu H' _ E=>⟨v,A,E⟩) l h
theorem Cn{f:PH->Option PV}{k:Kind}{K:PV->R_}{si J:Bool}(hf:D4 f)(hk:k.Ok)(F:k.cls=2\/k.cls=3\/k.cls=4->J=true)(β:Hs.le H)
  (h:k.run C Hs S si (λv H'=>(Kind.calm f).run C Hs S J (λu A=>K v u A) H') H) :
  (Kind.calm f).run C Hs S J (λu H'=>k.run C Hs S si (λv A=>K v u A) H') H:=by
 cases hk with
 |fail=>exact h.elim
 |@calm g hg=>obtain⟨u,l,v,hv,h⟩:=h;exact⟨v,hv,u,l,h⟩
 |new r=>
  obtain⟨mk,x,hr,h⟩:=h;cases J with
  |true =>obtain⟨o0,E⟩:=H.fresh;obtain⟨u,l,-⟩:=h o0 E;refine⟨u,l,mk,x,hr,λo M=>?_⟩;obtain⟨u',i,y⟩:=h o M;simp only[if_true]at l i;rw[l]at i;cases i;exact y
  |false=>
   obtain⟨q,hq⟩:=hf.dep;obtain⟨o0,E,Z⟩:=H.ze [q];obtain⟨u,l,-⟩:=h o0 E;simp only[awQ,if_false]at l;have i:f H=some u:=by rw[<-l];exact hq _ _ (by rw[dB,aB (by simpa using Ne.symm (λe=>Z (by simp[e])))])
   refine⟨u,i,mk,x,hr,λo M=>?_⟩;obtain⟨u2,hu2,y⟩:=h o M;simp only[awQ,if_false]at hu2;rw[hf.mono _ _ _ (PH.TW x M) i]at hu2;cases hu2;exact y
 |@write w hw =>have:J=true:=F (.inl rfl);subst this;obtain⟨_,_,_,u,l,_⟩:=hw.some _ _ h;refine⟨u,l,hw.mono _ _ _ (λv H' hh=>⟨hh.1,?_⟩) h⟩;obtain⟨-,u',i,y⟩:=hh;simp only[if_true]at l i;rw[l]at i;cases i;exact y
 |call name args =>have:J=true:=F (.inr (.inl rfl));subst this;obtain⟨vs,D,R,N,O,Q,U,h5,h6⟩:=h;obtain⟨r0,H0,V,W⟩:=h5 H;obtain⟨-,u,l,-⟩:=h6 r0 H0 V W;refine⟨u,l,vs,D,R,N,O,Q,U,h5,λr H' hR Y=>?_⟩;obtain⟨g1,u',i,y⟩:=h6 r H' hR Y;simp only[if_true]at l i;rw[l]at i;cases i;exact⟨g1,y⟩
 |ins r =>have:J=true:=F (.inr (.inr rfl));subst this;obtain⟨o,sh,α,v,g,N,O,Q,U,u,l,y⟩:=h;exact⟨u,l,o,sh,α,v,g,N,O,Q,U,y⟩
theorem Jt{r r':Option (Nat × MSh × List KS × PV)}{K:PV->R_}{U V:Bool}
  (h:(Kind.ins r).run C Hs S U (λv H'=>(Kind.ins r').run C Hs S V (λu w=>K v u w) H') H) :
  (Kind.ins r').run C Hs S V (λu H'=>(Kind.ins r).run C Hs S U (λv w=>K v u w) H') H:=by
 obtain⟨o,sh,l,v,g,M,N,O,A,o',J,i,v',g',k1,k2,E,W,Q⟩:=h;by_cases e:o'=o;subst e;rw[dB,aD rfl]at k2;cases k2;have y:i≠l:=by rintro rfl;simp[mA.upd]at E
 have F:g i=none:=by simpa[mA.upd,y]using E
 refine⟨o',sh,i,v',g,k1,N,F,A,o',sh,l,v,g.upd i v',M,by rw[dB,aD rfl],by simp[mA.upd,Ne.symm y,O],A,?_⟩;have:((H.set o' (.map sh (g.upd i v'))).set o' (.map sh ((g.upd i v').upd l v)))=((H.set o' (.map sh (g.upd l v))).set o' (.map sh ((g.upd l v).upd i v'))):=by refine PH.ext λq=>?_;simp only[dB];split;congr 2;funext k;simp only[mA.upd];by_cases h5:k=l<;>by_cases Y:k=i<;>simp_all;rfl
 rw[this];exact Q;rw[dB,aB e]at k2;refine⟨o',J,i,v',g',k1,k2,E,W,o,sh,l,v,g,M,by rw[dB,aB (Ne.symm e)];exact N,O,A,?_⟩;rw[PH.set_comm H _ _ e];exact Q
def yG(a b:Nat)(i l:Bool):Bool:=
 match a,b with
 |0,0|0,1|1,0|1,1|1,3|3,1|4,4=>true
 |0,_=>i
 |_,0=>l
 |_,_=>false
theorem Re{F J:Kind}{K:PV->R_}{Q U:Bool}(hi:F.Ok)(E:J.Ok)(i:yG F.cls J.cls Q U=true)(A:Hs.le H)
  (h:F.run C Hs S Q (λv H'=>J.run C Hs S U (λu w=>K v u w) H') H) :
  J.run C Hs S U (λu H'=>F.run C Hs S Q (λv w=>K v u w) H') H:=by
 by_cases y:F.cls=0
 ·cases hi with
  |fail=>exact h.elim
  |calm O =>refine Cq O E (λhc=>?_) A h;rcases hc with hc|hc|hc<;>(rw[hc]at i;simpa[yG,Kind.cls]using i)
  |new|write|call|ins=>simp[Kind.cls]at y
 by_cases l:J.cls=0
 ·cases E with
  |fail=>
   cases hi with
   |fail=>exact h
   |calm _=>simp[Kind.cls]at y
   |new r =>obtain⟨mk,x,-,h⟩:=h;obtain⟨o,ho⟩:=H.fresh;exact h o ho
   |write hw=>obtain⟨_,_,_,hh⟩:=hw.some _ _ h;exact hh
   |call name args =>obtain⟨vs,D,R,W,Y,Z,h4,h5,h6⟩:=h;obtain⟨r0,V,M,N⟩:=h5 H;exact(h6 r0 V M N).2
   |ins r =>obtain⟨o,sh,α,v,g,W,Y,Z,h4,h5⟩:=h;exact h5
  |calm O =>refine Cn O hi (λhc=>?_) A h;rcases hc with hc|hc|hc<;>(rw[hc]at i;simpa[yG,Kind.cls]using i)
  |new|write|call|ins=>simp[Kind.cls]at l
 ·cases hi with
  |fail|calm=>simp[Kind.cls]at y
  |new r=>
   cases E with
   |fail|calm=>simp[Kind.cls]at l
   |new r'=>exact Ju h
   |write=>simp[Kind.cls,yG]at i
   |call=>exact Cr A h
   |ins=>simp[Kind.cls,yG]at i
  |write=>cases E<;>simp[Kind.cls,yG]at i l
  |call=>
   cases E with
   |fail|calm=>simp[Kind.cls]at l
   |new r'=>exact Cp h
   |write=>simp[Kind.cls,yG]at i
   |call=>simp[Kind.cls,yG]at i
   |ins=>simp[Kind.cls,yG]at i
  |ins=>
   cases E with
   |fail|calm=>simp[Kind.cls]at l
   |new r'=>simp[Kind.cls,yG]at i
   |write=>simp[Kind.cls,yG]at i
   |call=>simp[Kind.cls,yG]at i
   |ins=>exact Jt h
end
open Go Go.RowKit
def bY.apart(x y:bY):Bool:=
 (match x.dst with
  |some d=>!(y.cX).contains d&&y.dst != some d
  |none=>true) &&
 (match y.dst with
  |some d=>!(x.cX).contains d
  |none=>true)
theorem It{F:PF}{l:N_}{d:O_}(v:PV)(h:∀t,d=some t->t ∉ l):sW l (F.put d v) F:=by
 intro t i;cases d with
 |none=>rfl
 |some d=>
  have:t≠d:=by rintro rfl;exact h t rfl i
  simp only[PF.put,PF.set,upd,aB this]
theorem aaO{F:PF}{d e:O_}(v u:PV)(h:∀t,d=some t->e≠some t):(F.put d v).put e u=(F.put e u).put d v:=by
 cases d with
 |none=>rfl
 |some d=>
  cases e with
  |none=>rfl
  |some e=>
   have i:d≠e:=by rintro rfl;exact h d rfl rfl
   exact abY F (some v) (some u) i
theorem apart_spec{x y:bY}(h:x.apart y=true):(∀d,x.dst=some d->d ∉ y.cX)/\(∀d,x.dst=some d->y.dst≠some d)/\(∀d,y.dst=some d->d ∉ x.cX):=by
 refine⟨λd i=>?_,λd i=>?_,λd i=>?_⟩<;>simp[bY.apart,i]at h;exact h.1.1;exact h.1.2;exact h.2
def POp.cls:POp->Nat
 | .call .. | .atT ..=>3
 | .insert ..=>4
 |op=>if op.iO then 1 else if op.eR then 2 else 0
def Zv(a b:Nat)(i l:Bool):Bool:=
 match a,b with
 |0,0|0,1|1,0|1,1=>true
 |4,4=>i&&l
 |0,_=>i
 |_,0=>l
 |1,3=>i
 |3,1=>l
 |_,_=>false
def me(x y:bY × Bool):Bool:=x.1.apart y.1&&Zv x.1.op.cls y.1.op.cls x.2 y.2
section
variable {C:Ctx} {Hs:PH} {S:Spec} {H:PH} {F:PF}
theorem Ar(op:POp)(F:PF):(op.kind F).cls=op.cls\/(op.kind F).cls=0:=by
 have i:(if op.iO then Kind.new (cS op F)else if op.eR then .write (λH K=>cD op F H K)else .calm (aZ op F)).cls=(if op.iO then 1 else if op.eR then 2 else 0):=by
  split
  ·rfl
  ·split<;>rfl
 cases op
 case call n az=>exact .inl rfl
 case atT x az=>
  simp only[POp.kind];split
  ·exact .inl rfl
  ·exact .inr rfl
 case insert sh x k v=>exact .inl rfl
 all_goals exact .inl i
theorem zn(i:bY)(F:PF):(i.kind F).cls=i.op.cls\/(i.kind F).cls=0:=by
 unfold bY.kind;split;exact Ar _ _;split;split;exact Ar _ _;exact .inr rfl;exact .inr rfl;exact .inr rfl
theorem ajU{a b i b':Nat}{l u:Bool}(h:Zv a b l u=true)(w:i=a\/i=0)(hb:b'=b\/b'=0):yG i b' l u=true:=by
 unfold Zv at h;split at h
 all_goals (rcases w with rfl|rfl<;>rcases hb with rfl|rfl<;>simp_all [yG])
theorem Kind.aaY{k:Kind}(E:k.Ok){st:Bool}{K:R_}(i:k.run C Hs S st K H):∃v H',K v H':=by
 cases E with
 |fail=>exact i.elim
 |calm _=>obtain⟨v,u,l⟩:=i;exact⟨v,_,l⟩
 |new r=>obtain⟨O,x,u,l⟩:=i;obtain⟨o,J⟩:=H.fresh;exact⟨_,_,l o J⟩
 |write M=>obtain⟨v,H',h⟩:=M.some _ _ i;exact⟨v,H',h.2⟩
 |call name args =>obtain⟨vs,D,R,u,l,w,y,h5,A⟩:=i;obtain⟨r,H',a,b⟩:=h5 H;exact⟨_,_,(A r H' a b).2⟩
 |ins r =>obtain⟨o,sh,N,v,g,u,l,w,y,h5⟩:=i;exact⟨_,_,h5⟩
def yN(C:Ctx)(Hs:PH)(S:Spec)(i:bY × Bool)(K:K_)(F:PF)(H:PH):Prop:=(i.1.kind F).run C Hs S i.2 (λv H'=>K (F.put i.1.dst v) H') H
theorem BQ{i:bY × Bool}{K K':K_}(h:∀u H',Hs.le H'->K u H'->K' u H')(l:Hs.le H)(w:yN C Hs S i K F H):yN C Hs S i K' F H:=
 Kind.wK (wG _ _) (λv H' a b=>h _ _ a b) l w
theorem U9{i j:bY × Bool}{K:K_}(y:me i j=true)(w:Hs.le H)(h:yN C Hs S i (yN C Hs S j K) F H):yN C Hs S j (yN C Hs S i K) F H:=by
 simp only[me,auI]at y;obtain⟨E,J,M⟩:=apart_spec y.1;unfold yN at h ⊢;have A:∀v,j.1.kind (F.put i.1.dst v)=j.1.kind F:=λv=>nt (It v E);have e2:∀v,i.1.kind (F.put j.1.dst v)=i.1.kind F:=λv=>nt (It v M);simp only[A]at h;simp only[e2];have:=Re (K:=λv u l=>K ((F.put i.1.dst v).put j.1.dst u) l) (wG i.1 F) (wG j.1 F) (ajU y.2 (zn _ _) (zn _ _)) w h;refine Kind.wK (wG j.1 F) (λu H' a b=>?_) w this;refine Kind.wK (wG i.1 F) (λv l _ c=>?_) a b;rw[aaO v u J]at c;exact c
inductive BB (ops:Array Oper):Nat->Nat->Prop
 |one {i j:Nat} {o:Oper} {e} (ho:ops[j]?=some o) (he:e∈o.after) (hb:Region.binds .any e=true) (hi:e.on=i):BB ops i j
 |step {i m j:Nat} {o:Oper} {e} (h:BB ops i m) (ho:ops[j]?=some o) (he:e∈o.after) (hb:Region.binds .any e=true) (hm:e.on=m):BB ops i j
def sU(ops:Array Oper)(listed:Array Bool):Prop:=∀j o,ops[j]?=some o->listed.getD j false=true->∀e∈o.after,Region.binds .any e=true->listed.getD e.on false=true
theorem sU.abX{ops:Array Oper}{listed:Array Bool}(w:sU ops listed){i j:Nat}(h:BB ops i j)(y:listed.getD j false=true):listed.getD i false=true:=by
 induction h with
 |one u l hb hi=>subst hi;exact w _ _ u y _ l hb
 |step h u l hb A E=>subst A;exact E (w _ _ u y _ l hb)
theorem sU.Ap{ops:Array Oper}{listed:Array Bool}(J:sU ops listed){i j:Nat}(h:BB ops i j)(hi:listed.getD i false=false):j ∉ Region.ready .any ops listed:=by
 intro A;rw[mem_ready]at A;obtain⟨-,o,E,u⟩:=A;cases h with
 |one l w hb y =>rw[E]at l;cases l;subst y;rw[u _ w hb]at hi;cases hi
 |step h l w hb K =>rw[E]at l;cases l;subst K;rw[J.abX h (u _ w hb)]at hi;cases hi
theorem sU.set{ops:Array Oper}{listed:Array Bool}(J:sU ops listed){i:Nat}(hi:i∈Region.ready .any ops listed):sU ops (listed.setIfInBounds i true):=by
 intro j o E A e y hb;by_cases u:j=i;subst u;rw[mem_ready]at hi;obtain⟨-,o',w,l⟩:=hi;rw[E]at w;cases w;exact getD_set_true (l e y hb);rw[getD_set_ne false (Ne.symm u)]at A;exact getD_set_true (J j o E A e y hb)
def FL(C:Ctx)(Hs:PH)(S:Spec)(ops:Array Oper)(il:List (bY × Bool))(K:K_):Nat->Array Bool->K_
 |0,listed,F,H=>Region.ready .any ops listed=[]/\K F H
 |fuel+1,listed,F,H=>(Region.ready .any ops listed=[]->K F H) /\
  ∀i∈Region.ready .any ops listed,∀p,il[i]?=some p->yN C Hs S p (FL C Hs S ops il K fuel (listed.setIfInBounds i true)) F H
theorem N1{ops:Array Oper}{il:List (bY × Bool)}{K:K_}{i:Nat}{p:bY × Bool}(hp:il[i]?=some p) :
  ∀(fuel:Nat)(listed:Array Bool)(F:PF)(H:PH),Hs.le H->sU ops listed ->
   (∀j q,il[j]?=some q->j≠i->listed.getD j true=false->¬BB ops i j->me p q=true) ->
   i∈Region.ready .any ops listed->yN C Hs S p (FL C Hs S ops il K fuel (listed.setIfInBounds i true)) F H->FL C Hs S ops il K (fuel+1) listed F H:=by
 intro fuel
 induction fuel with
 |zero =>intro listed F H w W u E h;refine⟨λe=>(by rw[e]at E;cases E),λj J q A=>?_⟩;by_cases l:j=i;subst l;rw[hp]at A;cases A;exact h;obtain⟨v,H',M⟩:=Kind.aaY (wG _ _) h;have:=ready_mono J l;rw[M.1]at this;cases this
 |succ fuel ih=>
  intro listed F H w W u E h;refine⟨λe=>(by rw[e]at E;cases E),λj J q A=>?_⟩;by_cases l:j=i;subst l;rw[hp]at A;cases A;exact h;have y:=(mem_ready.1 E).1;have O:=(mem_ready.1 J).1;have N:listed.getD i false=false:=by
   rcases avF i listed.size with h'|h'
   simp[h']at y ⊢;exact y;simp[Array.getElem?_eq_none h']at y
  have Z:¬BB ops i j:=λhb=>W.Ap hb N J;have h1:yN C Hs S p (yN C Hs S q (FL C Hs S ops il K fuel ((listed.setIfInBounds i true).setIfInBounds j true))) F H:=
   BQ (λF' H' _ M=>M.2 j (ready_mono J l) q A) w h
  have h2:=U9 (u j q A l O Z) w h1;refine BQ (λF' H' U M=>?_) w h2;refine ih (listed.setIfInBounds j true) F' H' U (W.set J) (λk r hk Y V α=>u k r hk Y ?_ α) (ready_mono E (Ne.symm l)) ?_;by_cases Q:j=k;subst Q;exact O;rw[getD_set_ne true Q]at V;exact V;rw[Array.setIfInBounds_comm _ _ l];exact M
def xY(o:Oper):N_:=(o.after.toList.filter λe=>Region.binds .any e).map (·.on)
def G8(ms:N_)(ds:N_):Nat:=ds.foldl (λs d=>s ||| (2^d ||| ms.getD d 0)) 0
def DE:List Oper->N_->N_
 |[],i=>i
 |o::os,i=>DE os (i++[G8 i (xY o)])
def lY(ms:N_):Nat->List Oper->Bool
 |_,[]=>true
 |k,o::os=>(xY o).all (·<k)&&ms.getD k 0==G8 ms (xY o)&&lY ms (k+1) os
def HU(ms:N_)(i:Nat)(p:bY × Bool):Nat->List (bY × Bool)->Bool
 |_,[]=>true
 |j,q::l=>((ms.getD j 0).testBit i||me p q)&&HU ms i p (j+1) l
def EZ(ms:N_):Nat->List (bY × Bool)->Bool
 |_,[]=>true
 |i,p::ps=>HU ms i p (i+1) ps&&EZ ms (i+1) ps
def Tk(ops:Array Oper)(il:List (bY × Bool)):Bool:=
 let ms:=DE ops.toList []
 lY ms 0 ops.toList&&EZ ms 0 il
theorem G9{ms:N_}{i:Nat}:∀{ds:N_}{s:Nat},(ds.foldl (λs d=>s ||| (2^d ||| ms.getD d 0)) s).testBit i=true->s.testBit i=true\/∃d∈ds,d=i\/(ms.getD d 0).testBit i=true
 |[],s,h=>.inl h
 |d::ds,s,h=>by
  rw[List.foldl_cons]at h;rcases G9 h with h|⟨e,he,h⟩
  rw[Nat.testBit_or,Nat.testBit_or,Nat.testBit_two_pow]at h;simp only[Bool.or_eq_true,decide_eq_true_eq]at h;rcases h with h|h|h
  exact .inl h;exact .inr ⟨d,by simp,.inl h⟩;exact .inr ⟨d,by simp,.inr h⟩;exact .inr ⟨e,by simp[he],h⟩
theorem yF{ms:N_}:∀{l:List Oper}{k j:Nat}{o:Oper},lY ms k l=true->l[j]?=some o->(∀d∈xY o,d<k+j)/\ms.getD (k+j) 0=G8 ms (xY o)
 |[],_,_,_,_,h=>by simp at h
 |o::os,k,j,o',h,i=>by
  simp only[lY,auI,auX,decide_eq_true_eq,beq_iff_eq]at h;cases j with
  |zero=>simp only[List.getElem?_cons_zero,awN.injEq]at i;subst i;exact⟨h.1.1,h.1.2⟩
  |succ j =>have:=yF h.2 (by simpa using i);rw[axG,Nat.add_comm 1 j]at this;exact this
theorem ZU{ms:N_}{ops:Array Oper}(h:lY ms 0 ops.toList=true)(i:Nat):∀(n j:Nat),j<n->j<ops.size->(ms.getD j 0).testBit i=true->BB ops i j:=by
 intro n
 induction n with
 |zero=>intro j J;omega
 |succ n M=>
  intro j J hlt hb;have K:ops.toList[j]?=some ops[j]:=by simp[hlt]
  have u:ops[j]?=some ops[j]:=by simp[hlt]
  obtain⟨w,y⟩:=yF h K;rw[avA]at w y;rw[y]at hb;rcases G9 hb with hb|⟨d,hd,hb⟩
  simp at hb;have E:=w d hd;simp only[xY,auT,ayM]at hd;obtain⟨e,⟨A,l⟩,rfl⟩:=hd;rcases hb with rfl|hb
  exact .one u (by simpa using A) l rfl;exact .step (M e.on Om Om hb) u (by simpa using A) l rfl
theorem UQ{ms:N_}{i:Nat}{p:bY × Bool}:∀{l:List (bY × Bool)}{k j:Nat}{q:bY × Bool},HU ms i p k l=true->l[j]?=some q->(ms.getD (k+j) 0).testBit i=true\/me p q=true
 |[],_,_,_,_,h=>by simp at h
 |x::xs,k,j,q,h,u=>by
  simp only[HU,auI,Bool.or_eq_true]at h;cases j with
  |zero=>simp only[List.getElem?_cons_zero,awN.injEq]at u;subst u;exact h.1
  |succ j =>have:=UQ h.2 (by simpa using u);rw[axG,Nat.add_comm 1 j]at this;exact this
theorem MK{ops:Array Oper}{il:List (bY × Bool)}{K:K_}{ms:N_}(W:l'' il=ops.size)(N:lY ms 0 ops.toList=true) :
  ∀(l:List (bY × Bool)) (k:Nat) (listed:Array Bool) (F:PF) (H:PH),(∀j,l[j]?=il[k+j]?)->k+l'' l=ops.size->listed.size=ops.size->(∀j,j<ops.size->(listed.getD j true=true↔j<k))->EZ ms k l=true->Hs.le H ->
   wpD C Hs S l K F H->FL C Hs S ops il K l.length listed F H
 |[],k,listed,F,H,hl,hk,Z,i,_,M,h=>by
  refine⟨?_,h⟩;cases hr:Region.ready .any ops listed with
  |nil=>rfl
  |cons x xs=>
   have hx:x∈Region.ready .any ops listed:=by rw[hr];simp
   obtain⟨h0,o,ho,-⟩:=mem_ready.1 hx;have hlt:x<ops.size:=(ayF.1 ho).1;have:=(i x hlt).2 (by simp at hk;omega);rw[h0]at this;cases this
 |p::l,k,listed,F,H,hl,hk,Z,i,hB,M,h=>by
  have hp:il[k]?=some p:=by simpa using(hl 0).symm
  have U:k<ops.size:=by simp at hk;omega
  simp only[EZ,auI]at hB;have ho:ops[k]?=some ops[k]:=by simp[U]
  have E:∀j,j<ops.size->(listed.getD j false=listed.getD j true):=λj A=>by simp[show j<listed.size by omega]
  have ε:∀j,j<ops.size->∀e∈ops[j]!.after,True:=λ_ _ _ _=>trivial;have y:∀j o,ops[j]?=some o->∀e∈o.after,Region.binds .any e=true->e.on<j:=by
   intro j o A e O hb;have hlt:j<ops.size:=(ayF.1 A).1;have:=(yF N (j:=j) (o:=o) (by simpa using A)).1 e.on (by simp only[xY,auT,ayM];exact⟨e,⟨by simpa using O,hb⟩,rfl⟩)
   omega
  have w:k∈Region.ready .any ops listed:=by
   rw[mem_ready];refine⟨?_,_,ho,λe O hb=>?_⟩
   ·cases hh:listed.getD k true with
    |false=>rfl
    |true=>have:=(i k U).1 hh;omega
   have hd:=y k _ ho e O hb;rw[E e.on Om];exact(i e.on Om).2 hd
  have u:sU ops listed:=by intro j o A Y e O hb;have hlt:j<ops.size:=(ayF.1 A).1;have hd:=y j o A e O hb;rw[E j hlt]at Y;have:=(i j hlt).1 Y;rw[E e.on Om];exact(i e.on Om).2 Om
  refine N1 hp l.length listed F H M u (λj q hq β δ α=>?_) w ?_;have Q:j<ops.size:=by have:=(avP.1 hq).1;omega
  have J:k<j:=by
   rcases Nat.lt_trichotomy j k with h'|h'|h'
   have:=(i j Q).2 h';rw[δ]at this;cases this;exact(β h').elim;exact h'
  have γ:l[j-(k+1)]?=some q:=by have:=hl (j-k);rw[show k+(j-k)=j by omega,hq,show j-k=(j-(k+1))+1 by omega]at this;simpa using this
  rcases UQ hB.1 γ with hb|hb
  rw[show k+1+(j-(k+1))=j by omega]at hb;exact(α (ZU N k (j+1) j Om Q hb)).elim;exact hb;have h':yN C Hs S p (wpD C Hs S l K) F H:=h;refine BQ (λF' H' V hh=>?_) M h';refine MK W N l (k+1) _ F' H' (λj=>?_) (by simp at hk;omega) (by simpa using Z) (λj A=>?_) hB.2 V hh;have:=hl (j+1);rw[show k+(j+1)=k+1+j by omega]at this;simpa using this;by_cases J:k=j;subst J;simp[show k<listed.size by omega];rw[getD_set_ne true J,i j A];omega
end
open Go Go.RowKit
def Fy(ms cls:N_)(i:Nat):Bool:=
 cls.getD i 0 != 0||(auE cls.length).any λj=>(cls.getD j 0==2||cls.getD j 0==3||cls.getD j 0==4)&&!(ms.getD j 0).testBit i&&!(ms.getD i 0).testBit j
def CA(ops:Array Oper)(l:List bY):List (bY × Bool):=
 let ms:=DE ops.toList []
 let cls:=l.map λi=>i.op.cls
 l.zip ((auE l.length).map (Fy ms cls))
namespace Tbl
variable (T:Tbl)
def drawn(n:Nat)(ops:Array Oper):Option (List (bY × Bool)):=
 match T.vE n ops ops.toList with
 |some i=>if T.P.follows .mixedOrders&&Tk ops (CA ops i)then some (CA ops i)else none
 |none=>none
end Tbl
section
variable {ro:O_} {fu:Nat} {ds:List Deferred} {C:Ctx} {Hs:PH} {S:Spec} {T:Tbl} {n:Nat}
section
variable {E:Env} {F:PF} {H:PH} {a:Act} {w:World}
theorem pK.after{i:Env}{H':PH}{l:World}{K:K_}{next:Act->World->Prop}(h:pK ds n E H w K next)(J:Ext E H w i H' l):pK ds n i H' l K next:=
 λu y H2 a2 O A hW N M=>h u y H2 a2 O A hW (J.trans N) M
theorem SM{t:Nat}{b:Bool}(l:eP ds n E F a)(h:F t=some (.bool b)):a.tmps[t]?=some (.bool b):=by
 have r:=l.t t _ h;rw[ayQ]at r;cases i:a.tmps[t]? with
 |none=>rw[i]at r;simp[undef]at r;cases r
 |some v=>rw[i]at r;simp at r;cases r;rfl
theorem OE{ops:Array Oper}{o:Oper}{i:bY}(h:T.XN n ops o=some i):(T.op o=some i.op\/i.op=.stuck)/\o.dst=i.dst/\o.dst.all (·<n)=true /\
  ((o.guard=none/\i.guard=none)\/∃j l t,o.guard=some (j,l)/\i.guard=some (t,l)/\(ops[j]?).bind (·.dst)=some t):=by
 unfold Tbl.XN at h;have hp:T.op o=some ((T.op o).getD .stuck)\/(T.op o).getD .stuck=.stuck:=by cases T.op o;exact .inr rfl;exact .inl rfl
 generalize(T.op o).getD .stuck=p at *
 split at h;rename_i y;split at h;rename_i u;cases h;exact⟨hp,rfl,y,.inl ⟨u,rfl⟩⟩;rename_i j l u;split at h;rename_i t A;cases h;exact⟨hp,rfl,y,.inr ⟨j,l,t,u,rfl,A⟩⟩;cases h;cases h
theorem JZ{ops:Array Oper}{o:Oper}{j t:Nat}{i b:Bool}(l:o.guard=some (j,i))(u:(ops[j]?).bind (·.dst)=some t)(hb:a.tmps[t]?=some (.bool b)):Region.wanted o (yielded ops a.tmps)=(b==i):=by
 simp[Region.wanted,l,yielded,u,hb]
end
theorem AC{E:Env}:bE E (.tup []) undef:=.tup #[] rfl bC
theorem VG{n:Nat}{E:Env}{F:PF}{a:Act}{t:Nat}(i:eP ds n E F a)(h:F t=some (.tup [])):a.tmps.getD t undef=undef:=by
 have:=i.t t _ h;generalize a.tmps.getD t undef=v at this;cases this with
 |tup vs l u=>
  have:vs=#[]:=by simpa using l
  subst this;rfl
theorem GM{ops:Array Oper}{a:Act}{o:Oper}{j t:Nat}{i:Bool}(l:o.guard=some (j,i))(u:(ops[j]?).bind (·.dst)=some t)(hb:a.tmps.getD t undef=undef):Region.wanted o (yielded ops a.tmps)=false:=by
 simp only[Region.wanted,l,yielded,u];rw[ayQ]at hb;cases h:a.tmps[t]? with
 |none=>simp[h]
 |some v =>rw[h]at hb;simp only[axC]at hb;subst hb;simp[h,undef]
theorem xA{E:Env}{F:PF}{H:PH}{a:Act}{w:World}(l:C.P=T.P)(i:C.num=T.num){o:Oper}{p:POp}{d:O_}{K:K_}{Q:Exit->Act->World->Prop}{next:Act->World->Prop}(u:T.op o=some p\/p=.stuck)(J:o.dst=d)(hlt:o.dst.all (·<n)=true)
  (h:wpOp C p d K F H) (y:eP ds n E F a) (hW:bZ E H w) (A:E.num=T.num) (atL:pK ds n E H w K next):o.wpIn (Fz ro) fu T.P a w next Q:=by
 rcases u with u|rfl
 ·exact aaH l i u J hlt h y hW A atL
 ·obtain⟨v,M,-⟩:=h;cases M
theorem LN(H:PH)(D:N_):(H.only D).le H:=by
 intro o x i;rw[uI]at i;split at i;exact i;cases i
theorem QB{op:POp}{F:PF}{H:PH}{st:Bool}{d:O_}{K:K_}(J:Hs.le H)(h:(op.kind F).run C Hs S st (λv H'=>K (F.put d v) H') H):wpOp C op d K F H:=by
 have A:(if op.iO then Kind.new (cS op F)else if op.eR then .write (λH K=>cD op F H K)else .calm (aZ op F)).run C Hs S st (λv H'=>K (F.put d v) H') H ->
   (if op.iO then oG (cS op F) d K F H else if op.eR then cD op F H (λr H'=>K (F.put d r) H')else vJ (aZ op F H) d K F H):=by
  intro h;by_cases l:op.iO=true
  ·rw[aD l]at h ⊢;exact h
  ·rw[aB l]at h ⊢;by_cases y:op.eR=true
   ·rw[aD y]at h ⊢;have W:cD op F H λr H'=>Hs.le H'/\K (F.put d r) H':=h;exact GR (λv H' hh=>hh.2) W
   ·rw[aB y]at h ⊢;obtain⟨v,N,hK⟩:=h;refine⟨v,?_,hK⟩;cases st
    ·exact N
    ·exact p8 J N
 have i:∀name u,(Kind.call name u).run C Hs S st (λv H'=>K (F.put d v) H') H->tQ C name u d K F H:=by intro name u h;obtain⟨vs,D,R,l,y,M,Y,h5,Z⟩:=h;exact⟨vs,H.only D,R (H.only D),l,LN H D,Y,λr H' a b=>(Z r H' a b).2⟩
 cases op
 case call name az=>exact .inl (by simpa using i _ _ h)
 case atT x az=>
  simp only[POp.kind]at h;split at h
  ·rename_i name cs hx;show uP C (x.ev F) az d K F H;rw[hx];exact .inl (i _ _ h)
  ·exact h.elim
 case insert sh x k v=>
  obtain⟨o,β,α,vv,g,l,y,M,-,h5⟩:=h;show cD (.insert sh x k v) F H (λr H'=>K (F.put d r) H');split at l
  ·rename_i o' kv γ Q e2 U;simp only[auR,Prod.mk.injEq]at l;obtain⟨O,V,rfl,rfl,rfl,rfl⟩:=l;simp only[cD,Q,e2,U,y,V];exact⟨trivial,M,h5⟩
  ·cases l
 all_goals exact A h
theorem ya(α:C.P=T.P)(Z:C.num=T.num){ops:Array Oper}{V:List bY}{fl:List Bool}(θ:l'' fl=l'' V)(η:∀(i:Nat) o,ops[i]?=some o->∃p,V[i]?=some p/\T.XN n ops o=some p)
  {K:K_} {Q:Exit->Act->World->Prop} :
  ∀(fuel:Nat)(listed:Array Bool)(E:Env)(F:PF)(H:PH)(a:Act)(w:World),FL C Hs S ops (V.zip fl) K fuel listed F H->Hs.le H->eP ds n E F a->bZ E H w->E.num=T.num->pK ds n E H w K (Q .normal) ->
   wpAnyIn (Fz ro) fu T.P .any ops Q fuel listed a w:=by
 intro fuel
 induction fuel with
 |zero=>intro listed E F H a w h N u hW hN hT;exact⟨h.1,hT E F H a w u hW (.refl E H w) h.2⟩
 |succ fuel ih=>
  intro listed E F H a w h N u hW hN hT;refine⟨λe=>hT E F H a w u hW (.refl E H w) (h.1 e),λi hi=>?_⟩;obtain⟨-,o,ho,-⟩:=mem_ready.1 hi;obtain⟨p,hp,ζ⟩:=η i o ho;have hlt:i<l'' V:=(avP.1 hp).1;have hz:(V.zip fl)[i]?=some (p,fl[i]'Om):=by rw[List.getElem?_zip_eq_some];exact⟨hp,by simp⟩
  have β:=h.2 i hi _ hz;obtain⟨γ,hd,J,hg⟩:=OE ζ;have A:pK ds n E H w (λW H'=>Hs.le H'/\FL C Hs S ops (V.zip fl) K fuel (listed.setIfInBounds i true) W H') (wpAnyIn (Fz ro) fu T.P .any ops Q fuel (listed.setIfInBounds i true)):=
   λE' W H' a' w' δ ε hE Y=>ih _ E' W H' a' w' Y.2 Y.1 δ ε (hE.env.num.trans hN) (hT.after hE)
  have l:=BQ (K':=λW H'=>Hs.le H'/\FL C Hs S ops (V.zip fl) K fuel (listed.setIfInBounds i true) W H') (λW H' x y=>⟨x,y⟩) N β;unfold yN bY.kind at l;unfold Go.wpOpIn;simp only[ho];rcases hg with⟨M,U⟩|⟨j,want,t,M,U,ht⟩
  rw[aD (by simp[Region.wanted,M])];simp only[U]at l;exact(xA α Z γ hd J (QB N l) u hW hN A);simp only[U]at l;split at l;rename_i b hb;rw[JZ M ht (SM u hb)];split at l;rename_i O;rw[aD (by simp[O])];exact(xA α Z γ hd J (QB N l) u hW hN A);rename_i O;rw[aB (by simpa using O)];obtain⟨v,hv,Y⟩:=l;cases hv;exact⟨λ_ _=>trivial,A E _ H _ w (by rw[<-hd];exact u.put J AC) hW (.refl E H w) Y⟩;rename_i hb;rw[GM M ht (VG u hb),aB bC];obtain⟨v,hv,Y⟩:=l;cases hv;exact⟨λ_ _=>trivial,A E _ H _ w (by rw[<-hd];exact u.put J AC) hW (.refl E H w) Y⟩;exact l.elim
theorem TT{ops:Array Oper}:∀{l:List Oper}{y:List bY},T.vE n ops l=some y->l'' y=l'' l/\∀(i:Nat) o,l[i]?=some o->∃p,y[i]?=some p/\T.XN n ops o=some p
 |[],y,h=>by simp[Tbl.vE]at h;subst h;exact⟨rfl,λi o h=>by simp at h⟩
 |o::l,y,h=>by
  simp only[Tbl.vE]at h;split at h
  ·rename_i p ps hp A;cases h;obtain⟨J,K⟩:=TT A;refine⟨by simp[J],λi o' u=>?_⟩;cases i with
   |zero=>simp at u;subst u;exact⟨p,rfl,hp⟩
   |succ i=>obtain⟨q,a,b⟩:=K i o' (by simpa using u);exact⟨q,by simpa using a,b⟩
  cases h
theorem Ov(O:C.P=T.P)(N:C.num=T.num){id:Nat}{ops:Array Oper}{il:List (bY × Bool)}(l:T.drawn n ops=some il){K:K_}{Q:Exit->Act->World->Prop}{E:Env}{F:PF}{H:PH}{a:Act}{w:World}
  (h:∃Hs S,PH.le Hs H/\wpD C Hs S il K F H) (hA:eP ds n E F a) (hW:bZ E H w) (hN:E.num=T.num) (hT:pK ds n E H w K (Q .normal)):(Code.region id ops true).wpIn (Fz ro) fu T.P Q a w:=by
 obtain⟨Hs,S,J,h⟩:=h;unfold Tbl.drawn at l;split at l;rename_i Z V;split at l;rename_i u;cases l;simp only[auI,Tk]at u;obtain⟨hm,W,Y⟩:=u;obtain⟨M,U⟩:=TT V;have y:l'' Z=ops.size:=by simpa using M
 refine wpIn_region_any hm ?_;have A:(CA ops Z).length=ops.size:=by simp[CA,y]
 have h':=MK (C:=C) (Hs:=Hs) (S:=S) (K:=K) A W (CA ops Z) 0 (awO ops.size false) F H bC (by simp[A]) bC (λj hj=>by simp[hj]) Y J h;rw[A]at h';exact ya O N bC (λi o ho=>U i o (by simpa using ho)) ops.size _ E F H a _ h' J hA hW.drew hN (λE' F' H' a' w' g1 g2 g3 g4=>hT E' F' H' a' w' g1 g2 g3.xg g4);cases l;cases l
end
end Go.PM
namespace Go.PM
open Go Go.RowKit
def POp.ajP:POp->Bool
 | .load .. | .lookup .. | .atD ..=>true
 |_=>false
def POp.afU:POp->Bool
 | .store ..=>true
 |_=>false
def rg(ms:N_)(m n:Nat):Bool:=(auE n).all λj=>decide (j<m)||(auE m).all λi=>(ms.getD j 0).testBit i
def cutAt(ms:N_)(l:List bY):O_:=
 let cls:=l.map λi=>i.op.cls
 (auE l.length).find? λm=>(match l[m]? with|some i=>i.op.afU&&i.guard.isNone|none=>false)&&rg ms m l.length&&(auE m).any λi=>match l[i]? with|some x=>x.op.ajP&&Fy ms cls i|none=>false
def oS(ms:N_)(k:Nat)(l:List bY):List (bY × Bool):=
 let cls:=l.map λi=>i.op.cls
 l.zip ((auE l.length).map (Fy (ms.drop k |>.map (· >>> k)) cls))
namespace Tbl
variable (T:Tbl)
def Fk(n:Nat)(ops:Array Oper):Option aK:=
 match T.vE n ops ops.toList with
 |some i=>
  let ms:=DE ops.toList []
  match cutAt ms i with
  |none=>(T.drawn n ops).map .draw
  |some m=>
   let A:=oS ms 0 (i.take m)
   let B:=oS ms m (i.drop m)
   if T.P.follows .mixedOrders&&lY ms 0 ops.toList&&rg ms m i.length&&EZ ms 0 A&&EZ ms m B then some (.seq (.draw A) (.draw B))else none
 |none=>none
def code(n:Nat):Code->Option aK
 | .skip=>some .skip
 | .region _ ops d=>if d then T.Fk n ops else(T.vE n ops ops.toList).map .region
 | .seq a b=>match code n a,code n b with
  |some a,some b=>some (.seq a b)
  |_,_=>none
 | .cond c a b=>match T.opd c,code n a,code n b with
  |some c,some a,some b=>some (.cond c a b)
  |_,_,_=>none
 | .block id c=>(code n c).map (.block id)
 | .loop c=>(code n c).map .loop
 | .exit id=>some (.exit id)
 | .ret=>some .ret
 | .scope c=>code n c
 | .label _=>some .skip
 |_=>none
end Tbl
theorem UA{ms:N_}:∀{l:List Oper}{k m:Nat},lY ms k l=true->lY ms k (l.take m)=true
 |[],_,_,_=>by simp[lY]
 |o::l,k,0,_=>by simp[lY]
 |o::l,k,m+1,h=>by simp only[lY,auI,List.take_succ_cons]at h ⊢;exact⟨h.1,UA h.2⟩
theorem AP{listed:Array Bool}{m f i:Nat}{d:Bool}(l:listed.size=m)(h:i<m):(listed++awO f false).getD i d=listed.getD i d:=by
 simp only[ayQ];rw[Array.getElem?_append_left Om]
section
variable {ro:O_} {fu:Nat} {ds:List Deferred} {C:Ctx} {Hs:PH} {S:Spec} {T:Tbl} {n:Nat}
theorem ahA{ops:Array Oper}{m i:Nat}(l:m<=ops.size):(ops.extract 0 m)[i]?=if i<m then ops[i]? else none:=by
 rw[Array.getElem?_extract];split;rename_i h;rw[aD Om];simp;rename_i h;rw[aB Om]
theorem Qy{ops:Array Oper}{ms:N_}{m:Nat}(U:m<=ops.size)(E:lY ms 0 ops.toList=true)(V:rg ms m ops.size=true){listed:Array Bool}{f:Nat}(J:listed.size=m)(Y:m+f=ops.size)(Q:sU ops (listed++awO f false))
  (K:∃i,i<m/\listed.getD i true=false) {i:Nat} (hi:i∈Region.ready .any ops (listed++awO f false)):i<m/\i∈Region.ready .any (ops.extract 0 m) listed:=by
 obtain⟨M,o,H,w⟩:=mem_ready.1 hi;have A:i<ops.size:=(ayF.1 H).1;have l:i<m:=by
  rcases avF i m with h|h
  exact h;exfalso;obtain⟨u,O,F⟩:=K;have hb:(ms.getD i 0).testBit u=true:=by have:=auX.1 V i (avM.2 A);rw[bT Om,Bool.false_or]at this;exact auX.1 this u (avM.2 O)
  have y:=ZU E u (i+1) i Om A hb;refine Q.Ap y ?_ hi;rw[AP J O];have:u<listed.size:=Om;simp[this]at F ⊢;exact F
 refine⟨l,mem_ready.2 ⟨?_,o,by rw[ahA U,aD l];exact H,λe N hb=>?_⟩⟩;rw[AP J l]at M;exact M;have W:=(yF E (j:=i) (o:=o) (by simpa using H)).1 e.on (by simp only[xY,auT,ayM];exact⟨e,⟨by simpa using N,hb⟩,rfl⟩)
 have:=w e N hb;rw[AP J Om]at this;exact this
theorem K6{ops:Array Oper}{ms:N_}(y:lY ms 0 ops.toList=true){listed:Array Bool}(N:listed.size=ops.size):∀(u:Nat),u<ops.size->listed.getD u true=false->∃i,i∈Region.ready .any ops listed:=by
 intro u
 induction u using Nat.strongRecOn with
 |ind u K=>
  intro E H;by_cases h:∃w,w<u/\listed.getD w true=false;obtain⟨w,J,A⟩:=h;exact K w J Om A
  ·refine⟨u,mem_ready.2 ⟨H,ops[u],by simp[E],λe F hb=>?_⟩⟩;have M:=(yF y (j:=u) (o:=ops[u]) (by simp[E])).1 e.on (by simp only[xY,auT,ayM];exact⟨e,⟨by simpa using F,hb⟩,rfl⟩)
   have hlt:e.on<u:=Om;cases l:listed.getD e.on true with
   |false=>exact(h ⟨e.on,hlt,l⟩).elim
   |true =>have:e.on<listed.size:=Om;simp[this]at l ⊢;exact l
def unl(listed:Array Bool):Nat:=listed.toList.countP λb=>!b
theorem abW{listed:Array Bool}{m:Nat}(u:listed.size=m)(h:unl listed=0):listed=awO m true:=by
 apply Array.ext;simp[u];intro i w y;have:listed[i]∈listed.toList:=by simp
 have l:=List.countP_eq_zero.1 h _ this;simpa using l
theorem ahX{listed:Array Bool}{i:Nat}(h:listed.getD i true=false):unl (listed.setIfInBounds i true)+1=unl listed:=by
 have hi:i<listed.size:=by
  rcases avF i listed.size with h'|h'
  ·exact h'
  ·simp[Array.getElem?_eq_none h']at h
 have w:listed[i]=false:=by simpa[hi]using h
 unfold unl;rw[Array.toList_setIfInBounds];have l:i<l'' listed.toList:=by simpa using hi
 have u:listed.toList[i]=false:=by simpa using w
 conv=>rhs;rw[<-axY i listed.toList,awS l,u]
 rw[List.set_eq_take_append_cons_drop,aD l,ayR,ayR,List.countP_cons,List.countP_cons];simp only[auO,auY,if_true,awQ,if_false];omega
theorem ahW{listed:Array Bool}{k:Nat}(h:unl listed=k+1):∃u,u<listed.size/\listed.getD u true=false:=by
 have l:0<listed.toList.countP λb=>!b:=by unfold unl at h;omega
 obtain⟨b,hb,w⟩:=List.countP_pos_iff.1 l;obtain⟨u,y,rfl⟩:=awI hb;have i:u<listed.size:=by simpa using y
 exact⟨u,i,by simpa[i]using w⟩
theorem K0(β:C.P=T.P)(α:C.num=T.num){ops:Array Oper}{ms:N_}{m f:Nat}{A:List (bY × Bool)}(hm:m<=ops.size)(hf:m+f=ops.size)(ε:lY ms 0 ops.toList=true)(ht:rg ms m ops.size=true)
  (ξ:∀(i:Nat) o,i<m->ops[i]?=some o->∃p b,A[i]?=some (p,b)/\T.XN n ops o=some p) {KA:K_} {Q:Exit->Act->World->Prop} :
  ∀(fuel:Nat)(listed:Array Bool)(E:Env)(F:PF)(H:PH)(a:Act)(w:World),FL C Hs S (ops.extract 0 m) A KA fuel listed F H->listed.size=m->sU ops (listed++awO f false)->unl listed=fuel->Hs.le H->eP ds n E F a->bZ E H w->E.num=T.num ->
   pK ds n E H w KA (wpAnyIn (Fz ro) fu T.P .any ops Q f (awO m true++awO f false))->wpAnyIn (Fz ro) fu T.P .any ops Q (fuel+f) (listed++awO f false) a w:=by
 intro fuel
 induction fuel with
 |zero =>intro listed E F H a w h hs hc hu N O hW hN hT;rw[abW hs hu,avA];exact hT E F H a w O hW (.refl E H w) h.2
 |succ fuel ih=>
  intro listed E F H a w h hs hc hu N O hW hN hT;obtain⟨u,σ,hu2⟩:=ahW hu;have ρ:∃i,i<m/\listed.getD i true=false:=⟨u,by omega,hu2⟩;rw[show fuel+1+f=(fuel+f)+1 by omega];refine⟨λe=>?_,λi hi=>?_⟩;obtain⟨i,hi⟩:=K6 ε (listed:=listed++awO f false) (by simp;omega) u Om (by rw[AP hs Om];exact hu2);rw[e]at hi;cases hi;obtain⟨μ,δ⟩:=Qy hm ε ht hs hf hc ρ hi;obtain⟨-,o,ho,-⟩:=mem_ready.1 hi;have ο:=(mem_ready.1 δ).1;obtain⟨p,b,hz,ν⟩:=ξ i o μ ho;have ζ:=h.2 i δ _ hz;obtain⟨η,hd,K,hg⟩:=OE ν;have θ:(listed++awO f false).setIfInBounds i true=listed.setIfInBounds i true++awO f false:=by
   apply Array.ext;simp;intro j h1 h2;rw[Array.getElem_setIfInBounds (by simpa using h1)];by_cases W:i=j;subst W;rw[aD rfl,Array.getElem_append_left (by simp;omega),Array.getElem_setIfInBounds Om,aD rfl];rw[aB W];rcases avF j listed.size with hj|hj
   rw[Array.getElem_append_left hj,Array.getElem_append_left (by simpa using hj),Array.getElem_setIfInBounds Om,aB W];rw[Array.getElem_append_right hj,Array.getElem_append_right (by simpa using hj)];simp
  have γ:=hc.set hi;rw[θ]at γ ⊢;have τ:=ahX ο;have J:pK ds n E H w (λY H'=>Hs.le H'/\FL C Hs S (ops.extract 0 m) A KA fuel (listed.setIfInBounds i true) Y H') (wpAnyIn (Fz ro) fu T.P .any ops Q (fuel+f) (listed.setIfInBounds i true++awO f false)):=
   λE' Y H' a' w' ι κ hE Z=>ih _ E' Y H' a' w' Z.2 (by simpa using hs) γ Om Z.1 ι κ (hE.env.num.trans hN) (hT.after hE)
  have l:=BQ (K':=λY H'=>Hs.le H'/\FL C Hs S (ops.extract 0 m) A KA fuel (listed.setIfInBounds i true) Y H') (λY H' x y=>⟨x,y⟩) N ζ;unfold yN bY.kind at l;unfold Go.wpOpIn;simp only[ho];rcases hg with⟨M,V⟩|⟨j,want,t,M,V,ht⟩
  rw[aD (by simp[Region.wanted,M])];simp only[V]at l;exact(xA β α η hd K (QB N l) O hW hN J);simp only[V]at l;split at l;rename_i b hb;rw[JZ M ht (SM O hb)];split at l;rename_i U;rw[aD (by simp[U])];exact(xA β α η hd K (QB N l) O hW hN J);rename_i U;rw[aB (by simpa using U)];obtain⟨v,hv,Z⟩:=l;cases hv;exact⟨λ_ _=>trivial,J E _ H _ w (by rw[<-hd];exact O.put K AC) hW (.refl E H w) Z⟩;rename_i hb;rw[GM M ht (VG O hb),aB bC];obtain⟨v,hv,Z⟩:=l;cases hv;exact⟨λ_ _=>trivial,J E _ H _ w (by rw[<-hd];exact O.put K AC) hW (.refl E H w) Z⟩;exact l.elim
theorem Kl(N:C.P=T.P)(M:C.num=T.num){id:Nat}{ops:Array Oper}{pc:aK}(l:T.Fk n ops=some pc){K:cH}{Q:Exit->Act->World->Prop}{E:Env}{F:PF}{H:PH}{a:Act}{w:World}
  (h:pc.wp C K F H) (hA:eP ds n E F a) (hW:bZ E H w) (hN:E.num=T.num) (hT:pK ds n E H w (K .normal) (Q .normal)):(Code.region id ops true).wpIn (Fz ro) fu T.P Q a w:=by
 unfold Tbl.Fk at l;split at l;rename_i J ρ;simp only at l;split at l;rw[auR]at l;obtain⟨il,ξ,rfl⟩:=l;exact Ov N M ξ h hA hW hN hT;rename_i m β;split at l;rename_i u;cases l;simp only[auI]at u;obtain⟨⟨⟨⟨τ,U⟩,η⟩,υ⟩,φ⟩:=u;obtain⟨ε,α⟩:=TT ρ;have O:l'' J=ops.size:=by simpa using ε
 rw[O]at η;obtain⟨Hs,S,δ,h⟩:=h;have ψ:m<ops.size:=by have:=List.mem_of_find?_eq_some β;rw[avM]at this;omega
 have lA:(oS (DE ops.toList []) 0 (J.take m)).length=m:=by simp[oS];omega
 have lB:(oS (DE ops.toList []) m (J.drop m)).length=ops.size-m:=by simp[oS];omega
 generalize Y:oS (DE ops.toList []) 0 (J.take m)=A at *
 generalize κ:oS (DE ops.toList []) m (J.drop m)=B at *
 generalize Δ:DE ops.toList []=ms at *
 refine wpIn_region_any τ ?_;have V:(ops.extract 0 m).size=m:=by simp;omega
 have ζ:lY ms 0 (ops.extract 0 m).toList=true:=by rw[show(ops.extract 0 m).toList=ops.toList.take m by simp];exact UA U
 have h1:=MK (C:=C) (Hs:=Hs) (S:=S) (K:=jB C ((aK.draw B).wp C) K .normal) (ops:=ops.extract 0 m) (il:=A) (ms:=ms) (by rw[lA,V]) ζ A 0 (awO m false) F H bC (by rw[V];omega) (by simp;omega) (λj hj=>by rw[V]at hj;simp[hj]) υ δ h;rw[lA]at h1;have W:=K0 (ro:=ro) (fu:=fu) (n:=n) N M (f:=ops.size-m) Om Om U η (λi o ω ho=>?_) (Q:=Q) m (awO m false) E F H a _ h1 bC ?_ ?_ δ hA hW.drew hN ?_;rw[show m+(ops.size-m)=ops.size by omega]at W;have e:awO m false++awO (ops.size-m) false=awO ops.size false:=by rw[Array.replicate_append_replicate,show m+(ops.size-m)=ops.size by omega]
 rw[e]at W;exact W;obtain⟨p,hp,ο⟩:=α i o (by simpa using ho);have Θ:=(avP.1 hp).1;have ν:i<l'' A:=Om;refine⟨p,A[i].2,?_,ο⟩;rw[auP ν];congr 1;refine Prod.ext ?_ rfl;subst Y;have χ:J[i]=p:=(avP.1 hp).2;simp[oS,χ];intro j o hj hl;exfalso;have σ:j<ops.size:=(ayF.1 hj).1;have e:awO m false++awO (ops.size-m) false=awO ops.size false:=by rw[Array.replicate_append_replicate,show m+(ops.size-m)=ops.size by omega]
 rw[e]at hl;simp[σ]at hl;unfold unl;simp[List.countP_replicate];intro E' F' H' a' w' ι μ hE hK;obtain⟨θ,S2,y,h2⟩:=hK;have hz:(A++B).length=ops.size:=by rw[auJ];omega
 have h3:=MK (C:=C) (Hs:=θ) (S:=S2) (K:=K .normal) (ops:=ops) (il:=A++B) (ms:=ms) hz U B m (awO m true++awO (ops.size-m) false) F' H' (λj=>by rw[awH Om];congr 1;omega) Om (by simp;omega) (λj hj=>by simp only[ayQ,Array.getElem?_append,Array.size_replicate,Array.getElem?_replicate];by_cases hjm:j<m;simp[hjm];simp[hjm,show j-m<ops.size-m by omega]) φ y h2;rw[lB]at h3;have Z:A++B=J.zip ((A++B).map (·.2)):=by
  refine List.ext_getElem? λj=>?_;rcases avF j ops.size with hj|hj
  have γ:j<(A++B).length:=Om;have Γ:j<l'' J:=Om;rw[auP γ,auP (by simp;omega),List.getElem_zip,awA];congr 1;refine Prod.ext ?_ rfl;simp only;rcases avF j m with hjm|hjm
  rw[List.getElem_append_left Om];subst Y;simp[oS];rw[ayY Om];subst κ;have:m+(j-l'' A)=j:=Om;simp[oS,this];rw[avZ Om,avZ (by simp;omega)]
 rw[Z]at h3;exact ya N M (by simp;omega) (λi o ho=>α i o (by simpa using ho)) (ops.size-m) _ E' F' H' a' w' h3 y ι μ (hE.env.num.trans hN) (λE3 F3 H3 a3 w3 g1 g2 g3 g4=>hT E3 F3 H3 a3 w3 g1 g2 (hE.trans g3).xg g4);cases l;cases l
end
end Go.PM
namespace Go.PM
open Go Go.RowKit
def lE.out:lE->Exit
 | .normal=>.normal
 | .exit id=>.exit id
 | .ret=>.ret
theorem sE{P:Program}{b:Frame}{a:Act}{k:List Item}{cs:List Frame}{w:World}{c:Code}:step P (lone (b.atR a (.code (.scope c)::k)) cs w)=.next (lone (b.atR a (.code c::.inScope c::k)) cs w):=
 step_lone_go (by simp[stepG,stepG.exec,Frame.atR])
theorem Cm{P:Program}{b:Frame}{a:Act}{k:List Item}{cs:List Frame}{w:World}{c:Code}:step P (lone (b.atR a (.inScope c::k)) cs w)=.next (lone (b.atR a k) cs w):=
 step_lone_go (by simp[stepG,stepG.exec,Frame.atR])
theorem R9{F:Fence}{n:Nat}{P:Program}{Q:Exit->Act->World->Prop}{a:Act}{w:World}{c:Code}(h:c.wpIn F n P (Exit.noGoto Q) a w):(Code.scope c).wpIn F n P Q a w:=by
 intro b k cs O hb M;have u:(lone (b.atR a (.code (.scope c)::k)) cs w).fenced P F:=fenced_calm hb M rfl;obtain⟨e,A,J,y,i⟩:=h b (.inScope c::k) cs O hb M;cases e with
 |normal=>exact⟨.normal,A,J,y,.head u sE (StepsIn.trans i (.one (fenced_calm hb M rfl) Cm))⟩
 |exit id=>
  have S:exitTo id (.inScope c::k)=exitTo id k:=by simp[exitTo]
  exact⟨.exit id,A,J,y,λW K=>.head u sE (i.1 W (by rw[S];exact K)),
   λN K=>let⟨Y,U,V⟩:=i.2 N (by rw[S];exact K);⟨Y,U,.head u sE V⟩⟩
 |goto l=>exact y.elim
 |ret=>exact⟨_,A,J,y,.of_steps (.one u sE) i⟩
 |panic Z=>exact⟨_,A,J,y,.of_steps (.one u sE) i⟩
 |outgrown=>exact⟨_,A,J,y,.of_steps (.one u sE) i⟩
variable{C:Ctx}
section
variable {ro:O_} {fu:Nat} {ds:List Deferred} {T:Tbl} {n:Nat} {E:Env} {F:PF} {H:PH} {a:Act} {w:World}
theorem As(S:C.P=T.P)(O:C.num=T.num){ops:Array Oper}{K:K_}{Q:Exit->Act->World->Prop}:∀(l:List Oper)(il:List bY)(E:Env)(F:PF)(H:PH)(a:Act)(w:World),
  T.vE n ops l=some il->wpOps C il K F H->eP ds n E F a->bZ E H w->E.num=T.num->pK ds n E H w K (Q .normal)->wpListIn (Fz ro) fu T.P ops Q l a w
 |[],il,E,F,H,a,w,M,u,J,hW,_,hT=>by simp[Tbl.vE]at M;subst M;exact hT E F H a w J hW (.refl E H w) u
 |o::l,il,E,F,H,a,w,M,u,J,hW,hN,hT=>by
  simp only[Tbl.vE]at M;split at M;rename_i i is hi δ;cases M;obtain⟨β,hd,hlt,hg⟩:=OE hi;have atL:∀(A:Env)(Z:PF)(H':PH)(a':Act)(Y:World),A.num=T.num->eP ds n A Z a'->bZ A H' Y->Ext E H w A H' Y->wpOps C is K Z H'->wpListIn (Fz ro) fu T.P ops Q l a' Y:=
   λA Z H' a' Y γ N U hE hK=>As S O l is A Z H' a' Y δ hK N U γ (hT.after hE)
  have α:pK ds n E H w (wpOps C is K) (wpListIn (Fz ro) fu T.P ops Q l):=λA Z H' a' Y N U hE hK=>atL A Z H' a' Y (hE.env.num.trans hN) N U hE hK;unfold wpListIn;simp only[wpOps]at u;rcases hg with⟨y,W⟩|⟨j,want,t,y,W,ht⟩
  rw[W]at u;rw[aD (by simp[Region.wanted,y])];exact(xA S O β hd hlt u J hW hN α);rw[W]at u;simp only at u;split at u;rename_i b hb;rw[JZ y ht (SM J hb)];split at u;rename_i V;rw[aD (by simp[V])];exact(xA S O β hd hlt u J hW hN α);rename_i V;rw[aB (by simpa using V)];exact⟨λ_ _=>trivial,atL E _ H _ w hN (by rw[<-hd];exact J.put hlt AC) hW (.refl E H w) u⟩;rename_i hb;rw[GM y ht (VG J hb),aB bC];exact⟨λ_ _=>trivial,atL E _ H _ w hN (by rw[<-hd];exact J.put hlt AC) hW (.refl E H w) u⟩;exact u.elim;cases M
def SI(ds:List Deferred)(n:Nat)(E:Env)(H:PH)(w:World)(K:cH)(Q:Exit->Act->World->Prop):Prop:=
 ∀e i u H' y l,eP ds n i u y->bZ i H' l->Ext E H w i H' l->K e u H'->Q e.out y l
theorem SI.after{i:Env}{H':PH}{l:World}{K:cH}{Q:Exit->Act->World->Prop}(h:SI ds n E H w K Q)(J:Ext E H w i H' l):SI ds n i H' l K Q:=
 λe u y H2 a2 O A hW N M=>h e u y H2 a2 O A hW (J.trans N) M
theorem tY(ζ:C.P=T.P)(ε:C.num=T.num):∀(c:Code)(pc:aK)(K:cH)(Q:Exit->Act->World->Prop)(E:Env)(F:PF)(H:PH)(a:Act)(w:World),
  T.code n c=some pc->pc.wp C K F H->eP ds n E F a->bZ E H w->E.num=T.num->SI ds n E H w K Q->c.wpIn (Fz ro) fu T.P Q a w:=by
 intro c
 induction c with
 |skip =>intro pc K Q E F H a w i u A hW O l;simp[Tbl.code]at i;subst i;exact wpIn_skip (l .normal E F H a w A hW (.refl E H w) u)
 |region id ops d=>
  intro pc K Q E F H a w i u A hW O l;simp only[Tbl.code]at i;split at i;rename_i hd;subst hd;exact Kl ζ ε i u A hW O λJ Y H' U S V W N M=>l .normal J Y H' U S V W N M;rename_i hd;simp only[auR]at i;obtain⟨il,Γ,rfl⟩:=i;have:d=false:=by simpa using hd
  subst this;exact wpIn_region_list (As ζ ε ops.toList il E F H a w Γ u A hW O λJ Y H' U S V W N M=>l .normal J Y H' U S V W N M)
 |seq x y γ δ=>
  intro pc K Q E F H a w i u A hW O l;simp only[Tbl.code]at i;split at i
  ·rename_i px py hx hy;cases i;refine wpIn_seq (γ px (jB C (py.wp C) K) _ E F H a w hx u A hW O λe J Y H' U S V W N M=>?_);cases e with
   |normal=>exact δ py K Q J Y H' U S hy M V W (N.env.num.trans O) (l.after N)
   |exit id=>exact l (.exit id) J Y H' U S V W N M
   |ret=>exact l .ret J Y H' U S V W N M
  cases i
 |cond c x y γ δ=>
  intro pc K Q E F H a w i u A hW O l;simp only[Tbl.code]at i;split at i;rename_i Ξ px py ι hx hy;cases i;simp only[aK.wp]at u;split at u
  ·rename_i t ψ;have r:=bK ι ψ A O;have hb:a.eval c=.bool t:=by generalize a.eval c=v at r;cases r;rfl
   refine wpIn_cond hb ?_;cases t with
   |true=>exact γ px K Q E F H a w hx (by simpa using u) A hW O l
   |false=>exact δ py K Q E F H a w hy (by simpa using u) A hW O l
  exact u.elim;cases i
 |block id c ih=>
  intro pc K Q E F H a w i u A hW O l;simp only[Tbl.code,auR]at i;obtain⟨px,hx,rfl⟩:=i;refine wpIn_block (ih px (fX id K) _ E F H a w hx u A hW O λe J Y H' U S V W N M=>?_);cases e with
  |normal=>exact l .normal J Y H' U S V W N M
  |exit Λ =>simp only[fX]at M;simp only[lE.out,Exit.inBlock];split at M;rename_i e;rw[aD e];exact l .normal J Y H' U S V W N M;rename_i e;rw[aB e];exact l (.exit Λ) J Y H' U S V W N M
  |ret=>exact l .ret J Y H' U S V W N M
 |loop c ih=>
  intro pc K Q E F H a w i u A hW O l;simp only[Tbl.code,auR]at i;obtain⟨px,hx,rfl⟩:=i;obtain⟨α,Fs,Hs,Pr,m,a0,F1,H1,ω,Θ,τ,θ,β⟩:=u;obtain⟨E1,ν,φ,ο⟩:=A.frz hW ω;refine wpIn_loop_ghost (λk U S=>∃(J:Env)(s:α),Pr s/\m s=k/\eP ds n J (Fs s) U/\bZ J (Hs s) S/\Ext E H w J (Hs s) S) (m a0) ⟨E1,a0,Θ,rfl,ν.weaken τ,φ.weaken θ,ο.drop θ⟩ ?_;rintro k U S ⟨J,s,hp,rfl,μ,υ,Z⟩;refine ih px (iF Fs Hs Pr m (m s) K) _ J (Fs s) (Hs s) U S hx (β s hp) μ υ (Z.env.num.trans O) λe E2 F2 H2 a2 w2 V W N M=>?_;cases e with
  |normal =>obtain⟨s',F3,H3,κ,Δ,hlt,σ,η⟩:=M;obtain⟨E3,ξ,χ,ρ⟩:=V.frz W κ;exact⟨m s',hlt,E3,s',Δ,rfl,ξ.weaken σ,χ.weaken η,((Z.trans N).trans ρ).drop η⟩
  |exit id=>exact l (.exit id) E2 F2 H2 a2 w2 V W (Z.trans N) M
  |ret=>exact l .ret E2 F2 H2 a2 w2 V W (Z.trans N) M
 |exit id =>intro pc K Q E F H a w i u A hW O l;simp[Tbl.code]at i;subst i;exact wpIn_exit (l (.exit id) E F H a w A hW (.refl E H w) u)
 |ret =>intro pc K Q E F H a w i u A hW O l;simp[Tbl.code]at i;subst i;exact wpIn_ret (l .ret E F H a w A hW (.refl E H w) u)
 |rangeFunc=>intro pc K Q E F H a w i;simp[Tbl.code]at i
 |scope c ih =>intro pc K Q E F H a w i u A hW O l;simp only[Tbl.code]at i;refine R9 (ih pc K _ E F H a w i u A hW O λe J Y H' U S V W N M=>?_);have:=l e J Y H' U S V W N M;cases e<;>exact this
 |label =>intro pc K Q E F H a w i u A hW O l;simp[Tbl.code]at i;subst i;exact wpIn_label (l .normal E F H a w A hW (.refl E H w) u)
 |goto=>intro pc K Q E F H a w i;simp[Tbl.code]at i
 |refuse=>intro pc K Q E F H a w i;simp[Tbl.code]at i
end
open Go Go.RowKit
namespace Tbl
variable (T:Tbl)
def res:ResultVar->Option dZ
 | .tmp t=>some (.tmp t)
 | .cell t ty=>match T.isAgg ty,T.size ty with
  |some true,some k=>some (.cell t (some k))
  |some false,_=>some (.cell t none)
  |_,_=>none
def xl:List ResultVar->Option (List dZ)
 |[]=>some []
 |r::rs=>match T.res r,xl rs with
  |some p,some ps=>some (p::ps)
  |_,_=>none
def func(fn:Func):Option lF:=
 match fn.body with
 |some c=>match T.code fn.ntmps c,T.xl fn.results.toList with
  |some b,some rs=>some ⟨fn.params.size,fn.ntmps,b,rs⟩
  |_,_=>none
 |none=>none
end Tbl
section
variable {ds:List Deferred} {T:Tbl} {n:Nat} {E:Env} {F:PF} {H:PH} {a:Act} {w:World}
def UV(i:Array Value):ResultVar->Sem Value
 | .tmp t=>pure (i.getD t undef)
 | .cell a t=>do loadVar t (<-asAddr (i.getD a undef))
theorem Vq{r:ResultVar}{p:dZ}{pv:PV}(y:T.res r=some p)(i:p.ev F H=some pv)(J:eP ds n E F a)(hW:bZ E H w):∃v,(UV a.tmps r).run T.P w=.ok v w/\bE E pv v:=by
 cases r with
 |tmp t =>simp[Tbl.res]at y;subst y;exact⟨_,rfl,J.t t pv i⟩
 |cell t ty =>simp only[Tbl.res]at y;split at y;rename_i k N O;cases y;simp only[dZ.ev]at i;split at i;rename_i q K;rw[auR]at i;obtain⟨cs,l,rfl⟩:=i;obtain⟨b,off,hb,-⟩:=sQ hW (J.t t q K) l;obtain⟨u,A,M⟩:=ZR (T:=T) N O hW (J.t t q K) l;refine⟨u,?_,M⟩;rw[hb]at A;simpa[UV,hb,asAddr,Instr.loadAt,Instr.sureAddr]using A;cases i;rename_i N;cases y;simp only[dZ.ev]at i;split at i;rename_i q K;split at i;rename_i v' l;cases i;obtain⟨b,off,hb,-⟩:=sQ hW (J.t t q K) l;obtain⟨u,A,M⟩:=n6 (T:=T) N hW (J.t t q K) l;refine⟨u,?_,M⟩;rw[hb]at A;simpa[UV,hb,asAddr,Instr.loadAt,Instr.sureAddr]using A;cases i;cases i;cases y
theorem PW(M:eP ds n E F a)(hW:bZ E H w):∀(rs:List ResultVar)(ps:List dZ)(i:V_),T.xl rs=some ps->dZ.evs F H ps=some i ->
  ∃vs,(rs.mapM (UV a.tmps)).run T.P w=.ok vs w/\fS E i vs
 |[],ps,i,l,y=>by simp[Tbl.xl]at l;subst l;simp[dZ.evs]at y;subst y;exact⟨[],by simp,.nil⟩
 |r::rs,ps,i,l,y=>by simp only[Tbl.xl]at l;split at l;rename_i p K hp A;cases l;simp only[dZ.evs]at y;split at y;rename_i v vs N J;cases y;obtain⟨u,g1,g2⟩:=Vq hp N M hW;obtain⟨O,k1,k2⟩:=PW M hW rs K vs A J;exact⟨u::O,by simp[List.mapM_cons,g1,k1],.cons g2 k2⟩;cases y;cases l
theorem p7{l:V_}{vs:List Value}(h:fS E l vs):bE E (bO l) (if h:vs.toArray.size=1 then vs.toArray[0]else .tuple vs.toArray):=by
 cases h with
 |nil=>exact .tup #[] rfl bC
 |cons h t=>
  cases t with
  |nil=>exact h
  |cons y J =>rename_i p v q u ps K;have i:fS E (p::q::ps) (v::u::K):=.cons h (.cons y J);rw[dif_neg bC];exact .tup _ (by simpa using i.len) (λj pv w hp A=>i.at_ j pv w hp (by simpa using A))
theorem qf(fn:Func)(i:Array Value):results fn i=(do
  let vs <-fn.results.mapM (UV i)
  pure (if h:vs.size=1 then vs[0]else .tuple vs)):=by
 unfold results;congr 1
theorem yz(M:C.P=T.P)(K:C.num=T.num){name:Nat}{args:V_}{R:R_}{fn:Func}{pf:lF}(hf:C.P.funcs[C.num name]?=some fn)(β:(fn.name=="runtime.NumGoroutine")=false)
  (l:T.func fn=some pf) (Q:l'' args<=pf.ntmps) (h:pf.body.wp C (aX pf.res R) (PF.args args) H):aG C name args H R:=by
 unfold Tbl.func at l;split at l;rename_i c hb;split at l
 ·rename_i b rs u A;cases l;refine⟨⟨fn,hf,by simp[hb],β⟩,λE w vs hN hW V=>?_⟩;have ε:vs.size=l'' args:=by simpa using V.len
  refine calls_of_wp hf hb ?_;rw[M];refine(wpIn_wide (n:=0)).1 ?_;have hA:eP [] fn.ntmps E (PF.args args) { tmps:=vs++awO (fn.ntmps-vs.size) undef,defers:=[] }:=by
   refine⟨by simp only at Q;simp;omega,rfl,λi pv hi=>?_⟩;have y:i<vs.size:=by
    rw[ε];rcases avF i args.length with h'|h'
    exact h';simp[PF.args,avZ h']at hi
   simp only[ayQ];rw[Array.getElem?_append_left y,ayK y];exact V.at_ i pv _ hi (by simp[y])
  refine tY (ro:=none) (fu:=0) M K c b (aX rs R) _ E (PF.args args) H _ w u h hA hW (hN.trans K) λe Y F' H' a' Z J N hE hK=>?_;have W:aX rs R .ret F' H'->bodyPost T.P fn (λe Z=>∃v pv Y H',e=.returned v/\bZ Y H' Z/\bE Y pv v/\Ext E H w Y H' Z/\R pv H') .ret a' Z:=by
   rintro⟨ζ,S,F1,H1,H2,α,O,v0,δ,hR⟩;obtain⟨us,g1,g2⟩:=PW J N fn.results.toList rs ζ A S;have γ:=p7 g2;obtain⟨E2,k1,k2,k3⟩:=α.sound N;have U:=k3 (λ_=>if h:us.toArray.size=1 then us.toArray[0]else .tuple us.toArray) (λi pv hi=>by simp only[PF.set,upd]at hi;split at hi;cases hi;exact γ;cases hi) 0 v0 δ
   refine⟨J.defers,_,?_,_,v0,E2,H2,rfl,k1.weaken O,U,(hE.trans k2).drop O,hR⟩;rw[qf,Array.mapM_eq_mapM_toList];simp[g1]
  cases e with
  |normal=>exact W hK
  |exit id=>exact hK.elim
  |ret=>exact W hK
 cases l;cases l
end
end Go.PM
theorem Go.s_{p:Prop}(h:p:=by simp only[go_sem]):p:=h
theorem Go.dT_{p:Prop}[Decidable p]:(decide p=true)=p:=decide_eq_true_eq
