/-Lemmas for the law. No condition.-/
import Derived.WalkKit
import Derived.CallsIn
import Derived.Laws.Cover3
import Derived.Deep.MidRow
import Derived.Great.BuildSlice
import Derived.Lib.Strings
import Derived.Laws.BytesArg
import GoSem.Instr.MapUpdate
import Derived.Laws.MakeOwn
import Derived.Laws.CopyRow
import Derived.MapKept
import Derived.Orders
import Derived.OrdersIn
import Derived.Sort.LoopGhostIn
import Derived.TacticsIn
import Derived.Scope
set_option linter.unusedSimpArgs false
set_option linter.unusedVariables false
open Nat renaming reduceEqDiff->γ,reduceAdd->δ,reduceSub->ε,reduceMul->ζ,reduceLT->η,reduceLeDiff->θ,reduceBEq->τ
open Int renaming reduceLT->ι,reduceLE->κ,reduceEq->μ,reduceToNat->ν,reduceAdd->ξ,reduceNeg->ο,reduceBEq->ρ,reduceBNe->σ
open List renaming reduceReplicate->υ
open List renaming length_map->bhO,range->bhP,getElem_mem->bhS,replicate->bhU,length_append->bhW,getD_eq_getElem?_getD->bhX,all_eq_true->biB,getElem?_eq_getElem->biD,mem_cons->biG,length_take->biI,mem_map->biJ,getElem?_map->biL,mem_range->biM,map_cons->biU,map_append->biV,append_assoc->biY,getElem?_eq_some_iff->biZ,mem_append->bjB,getElem_of_mem->bjD,mem_singleton->bjH,append_nil->bjI,getElem?_eq_none->bjJ,getElem_map->bjK,length_cons->bjL,length_set->bjO,map_nil->bjP,mem_of_getElem?->bjQ,drop_eq_getElem_cons->bjS,length_drop->bjZ,getElem?_append_left->bkE,getElem?_append_right->bkF,length_nil->bkK,take_append_drop->bkQ,mem_filter->bkU,nodup_append->bkV,set_append_right->blC,countP_cons->blK,getElem?_take->blL,nil_append->blM,countP_append->blO,set_cons_zero->blP,getElem?_drop->blW,getElem?_range->blX,getElem?_set->blY,mem_or_eq_of_mem_set->blZ,getElem_append_right->bmA,mem_of_mem_take->bmB,getElem_append_left->bmC
open Bool renaming and_eq_true->bhQ,not_true->bhZ,true_and->biA,not_false->biF,false_eq_true->bjW,or_eq_true->blI
open Nat renaming le_refl->bhV,zero_add->biN,le_trans->biQ,lt_or_ge->biR,mul_comm->biW,mul_le_mul_right->biX,add_mul->bjC,mod_lt->bjR,add_zero->bkA,mul_le_mul_left->bkH,succ_mul->bkI,add_assoc->bkL,eq_zero_or_pos->bkM,sub_self->bkR,mul_one->blB,div_lt_iff_lt_mul->blD,div_add_mod->blQ
open Option renaming map_eq_some_iff->biE,map_some->biP,some->bjV,getD_some->bkC,bind_some->blG,bind_eq_some_iff->blT
open Int renaming toNat_natCast->bjN
open Array renaming replicate->bjX,length_toList->bkX,getElem?_eq_some_iff->blH,getElem?_eq_getElem->blN,getD_eq_getD_getElem?->blU
open List renaming length->Z'
set_option maxRecDepth 100000
set_option maxHeartbeats 800000
noncomputable section
attribute [go_sem] Nat.reduceEqDiff Nat.reduceAdd Nat.reduceSub Nat.reduceMul Nat.reduceLT Nat.reduceLeDiff Int.reduceLT Int.reduceLE Int.reduceEq Int.reduceToNat Int.reduceAdd Int.reduceNeg Int.reduceBEq Int.reduceBNe Nat.reduceBEq List.reduceReplicate reduceIte reduceCtorEq
theorem Om{p:Prop}(h:p:=by omega):p:=h
theorem aS{p:Prop}(h:p:=by decide):p:=h
theorem bH{p:Prop}(h:p:=by simp):p:=h
abbrev aE:=@if_neg
abbrev aG:=@if_pos
abbrev bA:=@decide_eq_true
abbrev bG:=@decide_eq_false
namespace Go.PM
open Go
inductive PV where
 |int (k:IntKind) (n:Int)
 |bool (b:Bool)
 |str (s:List UInt8)
 |aK
 |sl (size:Nat) (rows:List (List PV))
 |osl (o size off len:Nat)
 |ptr (o size i c:Nat)
 |bK (cells:List PV)
 |map (o:Nat)
 |fn (name:Nat) (captured:List PV)
 |agg (cells:List PV)
 |tup (vs:List PV)
 |lit (v:Value)
 |junk
 deriving Inhabited
abbrev _root_.P2_:=List (List PV)
abbrev _root_.L2_:=List (List Int)
inductive KSh where
 |int (k:IntKind)
 |bool
 |str
 deriving DecidableEq,Inhabited
inductive KS where
 |int (k:IntKind) (n:Int)
 |bool (b:Bool)
 |str (s:List UInt8)
 deriving DecidableEq,Inhabited
def KS.sh:KS->KSh
 | .int k _=>.int k
 | .bool _=>.bool
 | .str _=>.str
def KS.val:KS->Value
 | .int k n=>.int k n
 | .bool b=>.bool b
 | .str s=>.string ⟨s.toArray⟩
abbrev MSh:=Bool × List KSh
def kR(sh:MSh)(k:List KS):Value:=if sh.1 then .agg (k.map KS.val).toArray else(k.map KS.val).headD undef
abbrev nS:=List KS->Option PV
def nS.upd(g:nS)(k:List KS)(v:PV):nS:=λj=>if j=k then some v else g j
def tN(k:List KS):List (List KS × PV)->Nat->Option (Nat × PV)
 |[],_=>none
 |e::d,i=>if e.1=k then some (i,e.2)else tN k d (i+1)
def mapOf(L:List (List KS × PV)):nS:=λk=>(tN k L 0).map (·.2)
open Classical in
noncomputable def nS.aFD(g:nS):Nat:=if h:∃d:List (List KS),d.Nodup/\∀k,k∈d↔(g k).isSome=true then h.choose.length else 0
theorem nS.a0S{g:nS}{d:List (List KS)}(e:d.Nodup)(i:∀k,k∈d↔(g k).isSome=true):g.aFD=Z' d:=by
 have h:∃d:List (List KS),d.Nodup/\∀k,k∈d↔(g k).isSome=true:=⟨d,e,i⟩;unfold nS.aFD;rw[dif_pos h];exact((List.perm_ext_iff_of_nodup h.choose_spec.1 e).2 λk=>(h.choose_spec.2 k).trans (i k).symm).length_eq
theorem UL(k:List KS):∀(L:List (List KS × PV)) (i:Nat),(tN k L i).isSome=true↔k∈L.map (·.1)
 |[],i=>by simp[tN]
 |e::d,i=>by
  unfold tN;by_cases h:e.1=k
  ·simp[h]
  ·rw[aE h,UL k d,biU,biG];exact⟨.inr,λl=>l.resolve_left λe2=>h e2.symm⟩
theorem aHR{L:List (List KS × PV)}(h:(L.map (·.1)).Nodup):(mapOf L).aFD=Z' L:=by
 rw[nS.a0S h λk=>?_,bhO];rw[<-UL k L 0];unfold mapOf;simp
inductive aY where
 |rows (size:Nat) (rs:P2_)
 |map (sh:MSh) (g:nS)
 |loop (F:Nat->Option PV) (n t:Nat) (asg bdy:Code)
 |dead
def upd{α:Type}(f:Nat->Option α)(i:Nat)(v:Option α):Nat->Option α:=λj=>if j=i then v else f j
theorem aoL{α:Type}(f:Nat->Option α)(i:Nat)(v:Option α):upd f i v i=v:=by simp[upd]
theorem j5{α:Type}(f:Nat->Option α){i j:Nat}(v:Option α)(h:j≠i):upd f i v j=f j:=by simp[upd,h]
theorem aYK{α:Type}(f:Nat->Option α){i j:Nat}(v u:Option α)(h:i≠j):upd (upd f i v) j u=upd (upd f j u) i v:=by
 funext k;simp only[upd];by_cases d:k=j
 ·by_cases e:k=i
  ·omega
  ·simp[d];intro l;omega
 ·simp[d]
abbrev PF:=Nat->Option PV
def PF.nil:PF:=λ_=>none
def PF.set(F:PF)(i:Nat)(v:PV):PF:=upd F i (some v)
def PF.le(F G:PF):Prop:=∀i v,F i=some v->G i=some v
structure PH where
 f:Nat->Option aY
 fin:∃n,∀o,n<=o->f o=none
instance:CoeFun PH (λ_=>Nat->Option aY):=⟨PH.f⟩
theorem PH.ext{H K:PH}(h:∀o,H.f o=K.f o):H=K:=by
 cases H;cases K;have:‹Nat->Option aY›=‹Nat->Option aY›:=rfl;congr;exact funext h
def PH.nil:PH:=⟨λ_=>none,0,λ_ _=>rfl⟩
def PH.upd(H:PH)(o:Nat)(x:Option aY):PH:=
 ⟨PM.upd H.f o x,by
  obtain⟨n,d⟩:=H.fin;refine⟨max n (o+1),λq e=>?_⟩;rw[j5 _ _ Om];exact d q Om⟩
def PH.set(H:PH)(o:Nat)(x:aY):PH:=H.upd o (some x)
def PH.le(H K:PH):Prop:=∀o x,H o=some x->K o=some x
def PH.over(H d e:PH):PH:=
 ⟨λo=>match e o with
  |some x=>some x
  |none=>match d o with
   |some _=>some .dead
   |none=>H o,by
  obtain⟨n,p⟩:=H.fin;obtain⟨u,i⟩:=d.fin;obtain⟨w,l⟩:=e.fin;refine⟨max n (max u w),λo y=>?_⟩;simp only[l o Om,i o Om,p o Om]⟩
theorem PH.fresh(H:PH):∃o,H o=none:=by
 obtain⟨n,d⟩:=H.fin;exact⟨n,d n (bhV _)⟩
def at2(rows:P2_)(i j:Nat):Option PV:=rows[i]?.bind (·[j]?)
structure Env where
 G:Nat->Option (Array Value)
 sz:Nat->Option Nat
 num:Nat->FuncId
def Env.cell(E:Env)(b d:Nat):Option Value:=(E.G b).bind (·[d]?)
structure Env.le(E E':Env):Prop where
 g:∀b cs,E.G b=some cs->E'.G b=some cs
 s:∀b n,E.sz b=some n->E'.sz b=some n
 num:E'.num=E.num
theorem Env.le.refl(E:Env):E.le E:=⟨λ_ _ h=>h,λ_ _ h=>h,rfl⟩
theorem Env.le.trans{A B C:Env}(h:A.le B)(k:B.le C):A.le C:=
 ⟨λb cs e=>k.g _ _ (h.g _ _ e),λb n e=>k.s _ _ (h.s _ _ e),k.num.trans h.num⟩
theorem Env.le.cell{E l:Env}(h:E.le l){b d:Nat}{u:Value}(e:E.cell b d=some u):l.cell b d=some u:=by
 unfold Env.cell at *
 cases i:E.G b with
 |none=>simp[i]at e
 |some cs=>rw[i]at e;rw[h.g _ _ i];exact e
inductive bM (E:Env):PV->Value->Prop
 |int (k:IntKind) (n:Int):bM E (.int k n) (.int k n)
 |bool (b:Bool):bM E (.bool b) (.bool b)
 |str (s:ByteArray):bM E (.str s.data.toList) (.string s)
 |aK:bM E .aK (.slice none 0 0)
 |sl {size:Nat} {rows:P2_} {a:Option Addr} {cap:Nat} (u:Nat->Nat->Value) (hcap:Z' rows<=cap) (bhI:cap<=maxLen)
   (hs:∀r∈rows,Z' r=size)
   (ha:rows≠[]->∃ad,a=some ad/\ad.spot=none/\∀i j pv,at2 rows i j=some pv->E.cell ad.block (ad.off+i*size+j)=some (u i j))
   (h1:∀i j,(u i j).oneCell'=true) (hr:∀i j pv,at2 rows i j=some pv->bM E pv (u i j)):bM E (.sl size rows) (.slice a rows.length cap)
 |osl {o size off len cap n:Nat} {a:Addr} (hb:a.block=o) (hsp:a.spot=none) (bhL:cap=0\/a.off=off*size) (hlen:len<=cap) (bhI:cap<=maxLen)
   (hn:E.sz o=some n) (bhC:off*size+cap*size<=n):bM E (.osl o size off len) (.slice (some a) len cap)
 |ptr (o size i c:Nat):bM E (.ptr o size i c) (.pointer (some ⟨o,i*size+c,none⟩))
 |bK {cells:List PV} {ad:Addr} (u:Nat->Value) (hsp:ad.spot=none) (hc:∀(j:Nat) pv,cells[j]?=some pv->E.cell ad.block (ad.off+j)=some (u j))
   (h1:∀(j:Nat),(u j).oneCell'=true) (hr:∀(j:Nat) pv,cells[j]?=some pv->bM E pv (u j)):bM E (.bK cells) (.pointer (some ad))
 |map (o:Nat):bM E (.map o) (.map (some o))
 |fn {name:Nat} {captured:List PV} (vc:Array Value) (hl:vc.size=Z' captured)
   (hr:∀(j:Nat) pv v,captured[j]?=some pv->vc[j]?=some v->bM E pv v):bM E (.fn name captured) (.func (.func (E.num name)) #[] vc)
 |agg {cells:List PV} (vs:Array Value) (hl:vs.size=Z' cells) (h1:∀v∈vs.toList,v.oneCell'=true)
   (hr:∀(j:Nat) pv v,cells[j]?=some pv->vs[j]?=some v->bM E pv v):bM E (.agg cells) (.agg vs)
 |tup {ps:List PV} (vs:Array Value) (hl:vs.size=Z' ps)
   (hr:∀(j:Nat) pv v,ps[j]?=some pv->vs[j]?=some v->bM E pv v):bM E (.tup ps) (.tuple vs)
 |lit (v:Value):bM E (.lit v) v
 |junk (v:Value):bM E .junk v
theorem bM.mono{E K:Env}(h:E.le K){pv:PV}{v:Value}(r:bM E pv v):bM K pv v:=by
 induction r with
 |int=>exact .int _ _
 |bool=>exact .bool _
 |str=>exact .str _
 |aK=>exact .aK
 |sl u y d Q N x _ l =>refine .sl u y d Q (λJ=>?_) x l;obtain⟨M,e,R,H⟩:=N J;exact⟨M,e,R,λi j pv hp=>h.cell (H i j pv hp)⟩
 |osl hb w F B d O p=>exact .osl hb w F B d (h.s _ _ O) p
 |ptr=>exact .ptr _ _ _ _
 |bK u w H x _ l=>exact .bK u w (λj pv hp=>h.cell (H j pv hp)) x l
 |map=>exact .map _
 |fn vc A _ l=>rw[<-h.num];exact .fn vc A l
 |agg vs A x _ l=>exact .agg vs A x l
 |tup vs A _ l=>exact .tup vs A l
 |lit=>exact .lit _
 |junk=>exact .junk _
def b8(E:Env)(w:World)(o:Nat):aY->Prop
 | .rows size rs=>∃d ty,w.heap[o]?=some (.cells d ty (0,0))/\E.sz o=some d.size/\(∀r∈rs,Z' r=size)/\Z' rs*size<=d.size /\
   ∀i j pv,at2 rs i j=some pv->∃u,d[i*size+j]?=some u/\u.oneCell'=true/\bM E pv u
 | .map sh g=>∃p l L,w.heap[o]?=some (.map p l)/\(p.size=Z' L/\(L.map (·.1)).Nodup)/\g=mapOf L /\
   ∀(i:Nat) e A,L[i]?=some e->p[i]?=some A->e.1.map KS.sh=sh.2/\A.key=kR sh e.1/\bM E e.2 A.val
 | .loop F n t x y=>∃rec:Loop,w.heap[o]?=some (.loop rec)/\rec.state=.ready/\rec.pending=none/\rec.params=#[t]/\rec.assign=x/\rec.body=y/\rec.tmps.size=n/\∀i pv,F i=some pv->bM E pv (rec.tmps.getD i undef)
 | .dead=>True
theorem b8.mono{E M:Env}(h:E.le M){w N:World}{o:Nat}(K:N.heap[o]?=w.heap[o]?){x:aY}(r:b8 E w o x):b8 M N o x:=by
 cases x with
 |rows size rs =>obtain⟨B,ty,p,y,A,l,h5⟩:=r;refine⟨B,ty,K.trans p,h.s _ _ y,A,l,λi j pv hp=>?_⟩;obtain⟨u,a,b,c⟩:=h5 i j pv hp;exact⟨u,a,b,c.mono h⟩
 |map sh g =>obtain⟨J,d,L,p,y,A,l⟩:=r;exact⟨J,d,L,K.trans p,y,A,λi e H a b=>⟨(l i e H a b).1,(l i e H a b).2.1,(l i e H a b).2.2.mono h⟩⟩
 |loop F n t O Q =>obtain⟨rec,p,y,A,l,h5,R,h7,h8⟩:=r;exact⟨rec,K.trans p,y,A,l,h5,R,h7,λi pv hi=>(h8 i pv hi).mono h⟩
 |dead=>trivial
structure cB(E:Env)(H:PH)(w:World):Prop where
 g:∀b cs,E.G b=some cs->(∀x,H b=some x->x=.dead)/\∃ty fr,w.heap[b]?=some (.cells cs ty fr)
 h:∀o x,H o=some x->o<w.heap.size/\b8 E w o x
 s:∀o n,E.sz o=some n->∃cur ty fr,w.heap[o]?=some (.cells cur ty fr)/\cur.size=n
theorem cB.weaken{E:Env}{H e:PH}{w:World}(h:cB E H w)(d:e.le H):cB E e w:=by
 exact⟨λb cs hb=>⟨λx l=>(h.g b cs hb).1 x (d b x l),(h.g b cs hb).2⟩,λo x i=>h.h o x (d o x i),h.s⟩
structure Ext(E:Env)(H:PH)(w:World)(E':Env)(H':PH)(w':World):Prop where
 env:E.le E'
 os:w'.os=w.os
 tape:w'.tape=w.tape
 output:w'.output=w.output
 size:w.heap.size<=w'.heap.size
 block:∀b,b<w.heap.size->H b=none->w'.heap[b]?=w.heap[b]?
 new:∀o x,H' o=some x->(∃y,H o=some y)\/w.heap.size<=o
 newG:∀b cs,E'.G b=some cs->E.G b=some cs\/(∃y,H b=some y)\/w.heap.size<=b
theorem Ext.refl(E:Env)(H:PH)(w:World):Ext E H w E H w:=
 ⟨.refl E,rfl,rfl,rfl,bhV _,λ_ _ _=>rfl,λ_ x h=>.inl ⟨x,h⟩,λ_ _ h=>.inl h⟩
theorem Ext.trans{i l p:Env}{u H2 w:PH}{B E F:World}(h:Ext i u B l H2 E)(k:Ext l H2 E p w F):Ext i u B p w F:=by
 refine⟨h.env.trans k.env,k.os.trans h.os,k.tape.trans h.tape,k.output.trans h.output,biQ h.size k.size,λb hb A=>?_,λo x K=>?_,λb cs hb=>?_⟩
 ·have J:H2 b=none:=by
   cases e:H2 b with
   |none=>rfl
   |some x=>
    rcases h.new b x e with⟨y,d⟩|hl
    ·rw[A]at d;cases d
    ·omega
  rw[k.block b (by have:=h.size;omega) J,h.block b hb A]
 ·rcases k.new o x K with⟨y,d⟩|hl
  ·exact h.new o y d
  ·exact .inr (biQ h.size hl)
 ·rcases k.newG b cs hb with H|⟨y,d⟩|hl
  ·exact h.newG b cs H
  ·exact .inr (h.new b y d)
  ·exact .inr (.inr (biQ h.size hl))
theorem Ext.drop{E e:Env}{H H' i:PH}{w l:World}(h:Ext E H w e H' l)(d:i.le H'):Ext E H w e i l:=
 ⟨h.env,h.os,h.tape,h.output,h.size,h.block,λo x p=>h.new o x (d o x p),h.newG⟩
theorem Ext.narrow{E u:Env}{H H' p:PH}{w A:World}(h:Ext E p w u H' A)(d:p.le H):Ext E H w u (H.over p H') A:=by
 refine⟨h.env,h.os,h.tape,h.output,h.size,λb hb F=>h.block b hb ?_,λo x i=>?_,λb cs hb=>?_⟩
 ·cases e:p b with
  |none=>rfl
  |some x=>have:=d b x e;rw[F]at this;cases this
 ·unfold PH.over at i;simp only at i;split at i
  ·rename_i y l;rcases h.new o y l with⟨z,J⟩|hl
   ·exact .inl ⟨z,d o z J⟩
   ·exact .inr hl
  ·split at i
   ·rename_i y l;exact .inl ⟨y,d o y l⟩
   ·exact .inl ⟨x,i⟩
 ·rcases h.newG b cs hb with B|⟨y,l⟩|hl
  ·exact .inl B
  ·exact .inr (.inl ⟨y,d b y l⟩)
  ·exact .inr (.inr hl)
theorem cB.over{E B:Env}{H H' F:PH}{w A:World}(hW:cB E H w)(h:Ext E F w B H' A)(J:F.le H)(d:cB B H' A):cB B (H.over F H') A:=by
 have keep:∀o x,H o=some x->F o=none->o<A.heap.size/\b8 B A o x:=by intro o x e p;obtain⟨hlt,u⟩:=hW.h o x e;exact⟨Nat.lt_of_lt_of_le hlt h.size,u.mono h.env (h.block o hlt p)⟩
 refine⟨λb cs hb=>⟨?_,(d.g b cs hb).2⟩,λo x e=>?_,d.s⟩
 ·intro x i;unfold PH.over at i;simp only at i;split at i
  ·rename_i y l;cases i;exact(d.g b cs hb).1 _ l
  ·split at i
   ·cases i;rfl
   ·rename_i p;rcases h.newG b cs hb with K|⟨y,l⟩|hl
    ·exact(hW.g b cs K).1 x i
    ·rw[p]at l;cases l
    ·have:=(hW.h b x i).1;omega
 ·unfold PH.over at e;simp only at e;split at e
  ·rename_i y l;cases e;exact d.h o _ l
  ·split at e
   ·rename_i y l;cases e;exact⟨Nat.lt_of_lt_of_le (hW.h o y (J o y l)).1 h.size,trivial⟩
   ·rename_i p;exact keep o x e p
open Go
inductive aP where
 |tmp (t:Nat)
 |const (v:PV)
 deriving Inhabited
def aP.ev(F:PF):aP->Option PV
 | .tmp t=>F t
 | .const v=>some v
def aP.evs(F:PF):List aP->Option (List PV)
 |[]=>some []
 |x::xs=>match x.ev F,aP.evs F xs with
  |some v,some vs=>some (v::vs)
  |_,_=>none
inductive Sc where
 |int|bool|str
 deriving Inhabited,DecidableEq
inductive POp where
 |mv (x:aP)
 |pick (c a b:aP)
 |bin (op:BinOp) (x y:aP)
 |eqb (neg:Bool) (x y:aP)
 |eqs (neg:Bool) (ks:List Sc) (x y:aP)
 |un (op:UnOp) (x:aP)
 |conv (k:IntKind) (x:aP)
 |same (x:aP)
 |alloc (cells:List PV)
 |box (ro:Bool) (x:aP)
 |build (zero:List PV) (parts:List (Nat × Nat × aP))
 |bgJ (ro:Bool) (size len:Nat) (zero:List PV) (parts:List (Nat × aP))
 |load (n:Option Nat) (p:aP)
 |store (n:Nat) (p x:aP)
 |bgQ (x:aP)
 |bhG (off:Nat) (x:aP)
 |field (off:Nat) (n:Option Nat) (x:aP)
 |bgU (size:Nat) (x i:aP)
 |idxA (n size:Nat) (x i:aP)
 |idxV (n size:Nat) (ag:Bool) (x i:aP)
 |bhE (x i:aP)
 |slice (size:Nat) (x:aP) (lo hi mx:Option aP)
 |bhA (x:aP) (lo hi:Option aP)
 |sliceA (n size:Nat) (x:aP) (lo hi mx:Option aP)
 |len (x:aP)
 |bhD (x:aP)
 |bhN (x:aP)
 |lenM (x:aP)
 |isNil (n:Bool) (x:aP)
 |extract (x:aP) (i:Nat)
 |bgL (size bytes:Nat) (zero:List PV) (l c:aP)
 |append (size bytes:Nat) (x y:aP)
 |bgY (mx:Bool) (x y:aP)
 |mkfn (name:Nat) (captured:List aP)
 |bhJ (sh:MSh)
 |lookup (sh:MSh) (zero:PV) (x k:aP) (ok:Bool)
 |bgV (sh:MSh) (x k v:aP)
 |insert (sh:MSh) (x k v:aP)
 |stuck
 |bgR (x:aP)
 |str2bytes (x:aP)
 |call (name:Nat) (args:List aP)
 |bhF (x:aP) (args:List aP)
 deriving Inhabited
structure aW where
 dst:Option Nat
 op:POp
 guard:Option (Nat × Bool)
 deriving Inhabited
inductive aC where
 |skip
 |region (ops:List aW)
 |draw (ops:List (aW × Bool))
 |seq (a b:aC)
 |cond (c:aP) (a b:aC)
 |block (id:Nat) (c:aC)
 |loop (c:aC)
 |exit (id:Nat)
 |ret
 deriving Inhabited
inductive eE where
 |tmp (t:Nat)
 |cell (t:Nat) (n:Option Nat)
 deriving Inhabited
structure bD where
 nparams:Nat
 ntmps:Nat
 body:aC
 res:List eE
 deriving Inhabited
def PV.cells:PV->List PV
 | .agg cs=>cs
 |v=>[v]
def PV.one:PV->Bool
 | .agg _ | .tup _ | .junk | .lit (.agg _) | .lit (.tuple _)=>false
 |_=>true
def setCells(r:List PV)(c:Nat):List PV->List PV
 |[]=>r
 |v::vs=>setCells (r.set c v) (c+1) vs
def loadCells(H:PH)(p:PV)(n:Nat):Option (List PV):=
 match p with
 | .ptr o size i c=>match H o with
  |some (.rows s rs)=>if s=size then match rs[i]? with
    |some r=>if c+n<=r.length then some ((r.drop c).take n)else none
    |none=>none
   else none
  |_=>none
 | .bK cells=>if n<=cells.length then some (cells.take n)else none
 |_=>none
def pP(op:BinOp)(k:IntKind)(a b:Int):Option PV:=
 match op with
 | .add=>some (.int k (k.wrap (a+b)))
 | .sub=>some (.int k (k.wrap (a-b)))
 | .mul=>some (.int k (k.wrap (a*b)))
 | .quo=>if b=0 then none else some (.int k (k.wrap (a.tdiv b)))
 | .rem=>if b=0 then none else some (.int k (a.tmod b))
 | .and=>some (.int k (k.wrap (BitVec.ofInt k.bits a &&& BitVec.ofInt k.bits b).toNat))
 | .or=>some (.int k (k.wrap (BitVec.ofInt k.bits a ||| BitVec.ofInt k.bits b).toNat))
 | .xor=>some (.int k (k.wrap (BitVec.ofInt k.bits a ^^^ BitVec.ofInt k.bits b).toNat))
 | .andNot=>some (.int k (k.wrap (BitVec.ofInt k.bits a &&& ~~~ BitVec.ofInt k.bits b).toNat))
 | .eql=>some (.bool (a==b))
 | .neq=>some (.bool (a != b))
 | .lss=>some (.bool (decide (a<b)))
 | .leq=>some (.bool (decide (a<=b)))
 | .gtr=>some (.bool (decide (a>b)))
 | .geq=>some (.bool (decide (a>=b)))
 | .shl | .shr=>none
def RS(op:BinOp)(a b:List UInt8):Option PV:=
 match op with
 | .add=>if((Z' a+Z' b:Nat):Int)>IntKind.i64.max then none else some (.str (a++b))
 | .eql=>some (.bool (a==b))
 | .neq=>some (.bool !(a==b))
 | .lss=>some (.bool (Op.bytesLess a b))
 | .leq=>some (.bool (Op.bytesLess a b||a==b))
 | .gtr=>some (.bool !(Op.bytesLess a b||a==b))
 | .geq=>some (.bool !(Op.bytesLess a b))
 |_=>none
def shift(op:BinOp)(k:IntKind)(a b:Int):Option PV:=
 if b<0 then none else
 match op with
 | .shl=>some (.int k (k.wrap (a*2^(min b.toNat k.bits))))
 | .shr=>some (.int k (a.fdiv (2^(min b.toNat k.bits))))
 |_=>none
def PV.bin(op:BinOp)(x y:PV):Option PV:=
 match op,x,y with
 | .shl,.int k a,.int _ b=>shift .shl k a b
 | .shr,.int k a,.int _ b=>shift .shr k a b
 |op,.int k a,.int d b=>if k=d then pP op k a b else none
 |op,.str a,.str b=>RS op a b
 |_,_,_=>none
def PV.eq1:Sc->PV->PV->Option Bool
 | .int,.int k a,.int d b=>if k=d then some (a==b)else none
 | .bool,.bool a,.bool b=>some (a==b)
 | .str,.str a,.str b=>some (a==b)
 |_,_,_=>none
def PV.eqs:List Sc->List PV->List PV->Option Bool
 |[],[],[]=>some true
 |k::d,x::xs,y::ys=>match PV.eq1 k x y with
  |some true=>PV.eqs d xs ys
  |some false=>if xs.length=Z' d/\Z' ys=d.length then some false else none
  |none=>none
 |_,_,_=>none
def PV.un(op:UnOp):PV->Option PV
 | .int k n=>match op with
  | .neg=>some (.int k (k.wrap (0-n)))
  | .xor=>some (.int k (k.wrap (BitVec.ofInt k.bits (if k.signed then -1 else k.max) ^^^ BitVec.ofInt k.bits n).toNat))
  |_=>none
 | .bool b=>match op with
  | .not=>some (.bool !b)
  |_=>none
 |_=>none
def PV.intOf:PV->Option Int
 | .int _ n=>some n
 |_=>none
def rO(cells:List PV)(F:PF):List (Nat × Nat × aP)->Option (List PV)
 |[]=>some cells
 |(d,size,x)::rest=>match x.ev F with
  |some v=>if v.cells.length=size/\d+size<=Z' cells/\v.cells.all PV.one then rO (setCells cells d v.cells) F rest else none
  |none=>none
def iY(size:Nat)(rows:P2_)(F:PF):List (Nat × aP)->Option P2_
 |[]=>some rows
 |(i,x)::rest=>match x.ev F with
  |some v=>if v.cells.length=size/\i<Z' rows/\v.cells.all PV.one then iY size (rows.set i v.cells) F rest else none
  |none=>none
def eA(H:PH)(size:Nat):PV->Option P2_
 | .aK=>some []
 | .sl s rows=>if s=size then some rows else none
 | .osl o s d len=>if s=size then match H o with
   |some (.rows s' rs)=>if s'=s/\d+len<=rs.length then some ((rs.drop d).take len)else none
   |_=>none
  else none
 |_=>none
def bnd(F:PF)(d:Int):Option aP->Option Int
 |none=>some d
 |some x=>(x.ev F).bind PV.intOf
def PV.slice(size:Nat)(x:PV)(l h:Int)(mx:Option Int):Option PV:=
 match x with
 | .aK=>if l=0/\h=0/\(mx=none\/mx=some 0)then some .aK else none
 | .sl s rows=>if s=size/\0<=l/\l<=h/\h<=Z' rows/\(mx=none\/mx=some h)then some (.sl s ((rows.take h.toNat).drop l.toNat))else none
 | .osl o s d len=>if s=size/\0<=l/\l<=h/\h<=len/\(mx=none\/mx=some h)then some (.osl o s (d+l.toNat) (h.toNat-l.toNat))else none
 |_=>none
def PV.uB:PV->Option Bool
 | .aK=>some true
 | .osl _ _ _ _=>some false
 | .sl _ (_::_)=>some false
 |_=>none
def KS.of:PV->Option KS
 | .int k n=>some (.int k n)
 | .bool b=>some (.bool b)
 | .str s=>some (.str s)
 |_=>none
def KS.ofs:List PV->Option (List KS)
 |[]=>some []
 |v::vs=>match KS.of v,KS.ofs vs with
  |some k,some d=>some (k::d)
  |_,_=>none
def keyOf(sh:MSh)(v:PV):Option (List KS):=
 match sh.1,v with
 |true,.agg cs=>(KS.ofs cs).bind λk=>if k.map KS.sh=sh.2 then some k else none
 |false,v=>(KS.of v).bind λk=>if[k.sh]=sh.2 then some [k]else none
 |_,_=>none
def chunks(size:Nat):Nat->List PV->P2_
 |0,_=>[]
 |n+1,cs=>cs.take size::chunks size n (cs.drop size)
def jU:P2_->Option (List UInt8)
 |[]=>some []
 |[.int .u8 n]::rest=>(jU rest).map (UInt8.ofNat n.toNat::·)
 |_=>none
def PV.uP:PV->Option PV
 | .aK=>some (.int .i64 0)
 | .sl _ rows=>some (.int .i64 rows.length)
 | .osl _ _ _ n=>some (.int .i64 n)
 |_=>none
noncomputable def aU(op:POp)(F:PF)(H:PH):Option PV:=
 match op with
 | .mv x=>x.ev F
 | .same x=>match x.ev F with
  |some (.str s)=>some (.str s)
  |_=>none
 | .pick c a b=>match c.ev F,a.ev F,b.ev F with
  |some (.bool t),x,y=>if t then x else y
  |_,_,_=>none
 | .bin op x y=>match x.ev F,y.ev F with
  |some a,some b=>PV.bin op a b
  |_,_=>none
 | .eqb neg x y=>match x.ev F,y.ev F with
  |some (.bool a),some (.bool b)=>some (.bool ((a==b) != neg))
  |_,_=>none
 | .eqs neg B x y=>match x.ev F,y.ev F with
  |some (.agg xs),some (.agg ys)=>(PV.eqs B xs ys).map λb=>.bool (b != neg)
  |_,_=>none
 | .un op x=>match x.ev F with
  |some a=>PV.un op a
  |none=>none
 | .conv k x=>match x.ev F with
  |some (.int _ n)=>some (.int k (k.wrap n))
  |_=>none
 | .box true x=>match x.ev F with
  |some v=>if v.cells.all PV.one then some (.bK v.cells)else none
  |none=>none
 | .build zero parts=>(rO zero F parts).map .agg
 | .bgJ true size len zero parts=>if zero.length=size/\len*size<=16777216 then(iY size (bhU len zero) F parts).map (.sl size)else none
 | .load none p=>match p.ev F with
  |some a=>match loadCells H a 1 with
   |some [v]=>some v
   |_=>none
  |none=>none
 | .load (some n) p=>match p.ev F with
  |some a=>(loadCells H a n).map .agg
  |none=>none
 | .bgQ x=>match x.ev F with
  |some (.ptr o s i c)=>some (.ptr o s i c)
  |some (.bK cs)=>some (.bK cs)
  |_=>none
 | .bhG d x=>match x.ev F with
  |some (.ptr o s i c)=>some (.ptr o s i (c+d))
  |some (.bK cs)=>some (.bK (cs.drop d))
  |_=>none
 | .field d n x=>match x.ev F with
  |some (.agg cs)=>match n with
   |none=>cs[d]?
   |some n=>if d+n<=cs.length then some (.agg ((cs.drop d).take n))else none
  |_=>none
 | .bgU size x i=>match x.ev F,i.ev F with
  |some (.sl s rows),some (.int _ n)=>if s=size/\0<=n then match rows[n.toNat]? with
    |some r=>some (.bK r)
    |none=>none
   else none
  |some (.osl o s d len),some (.int _ n)=>if s=size/\0<=n/\n<len then some (.ptr o s (d+n.toNat) 0)else none
  |_,_=>none
 | .idxA n size x i=>match x.ev F,i.ev F with
  |some (.ptr o s r c),some (.int _ k)=>if 0<=k/\k<n then some (.ptr o s r (c+k.toNat*size))else none
  |some (.bK cs),some (.int _ k)=>if 0<=k/\k<n then some (.bK (cs.drop (k.toNat*size)))else none
  |_,_=>none
 | .idxV n size w x i=>match x.ev F,i.ev F with
  |some (.agg cs),some (.int _ k)=>if 0<=k/\k<n then
    (if w then(if k.toNat*size+size<=cs.length then some (.agg ((cs.drop (k.toNat*size)).take size))else none)else cs[k.toNat*size]?)
   else none
  |_,_=>none
 | .bhE x i=>match x.ev F,i.ev F with
  |some (.str s),some (.int _ k)=>if 0<=k then(s[k.toNat]?).map λb=>PV.int .u8 b.toNat else none
  |_,_=>none
 | .slice size x lo hi mx=>match x.ev F with
  |some v=>match v with
   | .aK=>match bnd F 0 lo,bnd F 0 hi with
    |some l,some h=>match mx with
     |none=>PV.slice size v l h none
     |some m=>(bnd F 0 (some m)).bind λm=>PV.slice size v l h (some m)
    |_,_=>none
   | .sl s rows=>match bnd F 0 lo,bnd F rows.length hi with
    |some l,some h=>match mx with
     |none=>PV.slice size (.sl s rows) l h none
     |some m=>(bnd F 0 (some m)).bind λm=>PV.slice size (.sl s rows) l h (some m)
    |_,_=>none
   | .osl o s d len=>match bnd F 0 lo,bnd F len hi with
    |some l,some h=>match mx with
     |none=>PV.slice size (.osl o s d len) l h none
     |some m=>(bnd F 0 (some m)).bind λm=>PV.slice size (.osl o s d len) l h (some m)
    |_,_=>none
   |_=>none
  |none=>none
 | .bhA x lo hi=>match x.ev F with
  |some (.str s)=>match bnd F 0 lo,bnd F s.length hi with
   |some l,some h=>if 0<=l/\l<=h/\h<=s.length then some (.str ((s.take h.toNat).drop l.toNat))else none
   |_,_=>none
  |_=>none
 | .sliceA n size x lo hi mx=>match lo,hi,mx with
  |none,none,none=>match x.ev F with
   |some (.bK cs)=>if n*size<=Z' cs/\0<size/\n<=maxLen then some (.sl size (chunks size n cs))else none
   |_=>none
  |_,_,_=>none
 | .len x=>(x.ev F).bind PV.uP
 | .bhD x=>match x.ev F with
  |some (.str s)=>some (.int .i64 s.length)
  |_=>none
 | .lenM x=>match x.ev F with
  |some (.map o)=>match H o with
   |some (.map _ g)=>some (.int .i64 (g.aFD:Nat))
   |_=>none
  |_=>none
 | .bhN x=>match x.ev F with
  |some .aK=>some (.int .i64 0)
  |_=>none
 | .isNil n x=>(x.ev F).bind λv=>v.uB.map λb=>.bool (b != n)
 | .extract x i=>match x.ev F with
  |some (.tup vs)=>vs[i]?
  |_=>none
 | .bgY mx x y=>match x.ev F,y.ev F with
  |some (.int k a),some (.int A b)=>if k=A then some (.int k (if mx then(if a<b then b else a)else(if b<a then b else a)))else none
  |_,_=>none
 | .mkfn name captured=>(aP.evs F captured).map λcs=>.fn name cs
 | .lookup sh zero x k ok=>match x.ev F,k.ev F with
  |some (.map o),some E=>match H o,keyOf sh E with
   |some (.map u g),some e=>if u=sh then some (if ok then .tup [(g e).getD zero,.bool (g e).isSome]else(g e).getD zero)else none
   |_,_=>none
  |_,_=>none
 | .bgR x=>match x.ev F with
  |some v=>match eA H 1 v with
   |some rows=>(jU rows).map PV.str
   |none=>none
  |none=>none
 |_=>none
def cU(op:POp)(F:PF):Option ((Nat->PV) × aY):=
 match op with
 | .alloc cells=>some (λo=>.ptr o cells.length 0 0,.rows cells.length [cells])
 | .box false x=>match x.ev F with
  |some v=>if v.cells.all PV.one then some (λo=>.ptr o v.cells.length 0 0,.rows v.cells.length [v.cells])else none
  |none=>none
 | .bgJ false size len zero parts=>if zero.length=size/\len*size<=16777216 then
   (iY size (bhU len zero) F parts).map λrows=>(λo=>.osl o size 0 len,.rows size rows)
  else none
 | .bgL size bytes zero l c=>match l.ev F,c.ev F with
  |some (.int _ n),some (.int _ m)=>if 0<=n/\n<=m/\m*bytes<=140737488355328/\m<=9223372036854775807/\Z' zero=size then
    some (λo=>.osl o size 0 n.toNat,.rows size (bhU n.toNat zero))
   else none
  |_,_=>none
 | .bhJ sh=>some (λo=>.map o,.map sh (λ_=>none))
 |_=>none
def storeAt(H:PH)(p:PV)(cells:List PV):Option PH:=
 match p with
 | .ptr o size i c=>match H o with
  |some (.rows s rs)=>if s=size/\c+Z' cells<=size/\cells.all PV.one then match rs[i]? with
    |some r=>some (H.set o (.rows s (rs.set i (setCells r c cells))))
    |none=>none
   else none
  |_=>none
 |_=>none
def roomFor(n m bytes:Nat):Prop:=n+m<=maxLen/\(n+m)*bytes<=140737488355328
def sG(H:PH)(size bytes:Nat)(x y:PV)(K:PV->PH->Prop):Prop:=
 ∃src,eA H size y=some src /\
  match x with
  | .aK=>roomFor 0 src.length bytes/\(src=[]->K .aK H)/\(src≠[]->∀o,H o=none->K (.osl o size 0 src.length) (H.set o (.rows size src)))
  | .osl o s 0 len=>s=size/\0=0/\roomFor len src.length bytes/\∃rs,H o=some (.rows size rs)/\len<=Z' rs /\
    K (.osl o size 0 (len+Z' src)) (H.set o (.rows size (rs.take len++src))) /\
    ∀o',H o'=none->K (.osl o' size 0 (len+Z' src)) (H.set o' (.rows size (rs.take len++src)))
  | .osl o s (d+1) len=>s=size/\roomFor len src.length bytes/\∃rs,H o=some (.rows size rs)/\d+1+len<=Z' rs /\
    K (.osl o size (d+1) (len+Z' src)) (H.set o (.rows size (rs.take (d+1+len)++src))) /\
    ∀o',H o'=none->K (.osl o' size 0 (len+Z' src)) (H.set o' (.rows size ((rs.drop (d+1)).take len++src)))
  |_=>False
def cJ(op:POp)(F:PF)(H:PH)(K:PV->PH->Prop):Prop:=
 match op with
 | .store n p x=>match p.ev F,x.ev F with
  |some a,some v=>Z' v.cells=n/\∃H',storeAt H a v.cells=some H'/\K .junk H'
  |_,_=>False
 | .append size bytes x y=>match x.ev F,y.ev F with
  |some a,some b=>sG H size bytes a b K
  |_,_=>False
 | .bgV sh x k v=>match x.ev F,k.ev F,v.ev F with
  |some (.map o),some i,some l=>match H o,keyOf sh i with
   |some (.map e g),some d=>e=sh/\K .junk (H.set o (.map sh (g.upd d l)))
   |_,_=>False
  |_,_,_=>False
 | .insert sh x k v=>match x.ev F,k.ev F,v.ev F with
  |some (.map o),some i,some l=>match H o,keyOf sh i with
   |some (.map e g),some d=>e=sh/\g d=none/\K .junk (H.set o (.map sh (g.upd d l)))
   |_,_=>False
  |_,_,_=>False
 |_=>False
def PV.dV(o s:Nat)(rs:P2_):PV->PV
 | .osl q s' d len=>if q=o then(if s'=s/\d+len<=rs.length then .sl s ((rs.drop d).take len)else .junk)else .osl q s' d len
 |v=>v
def PV.tO(o s:Nat)(rs:P2_):PV->PV
 | .agg cs=>.agg (cs.map (PV.dV o s rs))
 |v=>v.dV o s rs
def PV.frz(o s:Nat)(rs:P2_):PV->PV
 | .tup vs=>.tup (vs.map (PV.tO o s rs))
 |v=>v.tO o s rs
def aY.frz(o s:Nat)(rs:P2_):aY->aY
 | .rows s' rs'=>.rows s' (rs'.map λr=>r.map (PV.dV o s rs))
 |x=>x
def PF.frz(F:PF)(o s:Nat)(rs:P2_):PF:=λi=>(F i).map (PV.frz o s rs)
def PH.frz(H:PH)(o s:Nat)(rs:P2_):PH:=
 ⟨λq=>if q=o then none else(H q).map (aY.frz o s rs),by
  obtain⟨n,d⟩:=H.fin;exact⟨n,λq e=>by simp[d q e]⟩⟩
inductive kN:PF->PH->PF->PH->Prop
 |refl (F:PF) (H:PH):kN F H F H
 |step {F F':PF} {H H':PH} (o:Nat) {s:Nat} {rs:P2_} (ho:H o=some (.rows s rs)) (h:kN (F.frz o s rs) (H.frz o s rs) F' H'):kN F H F' H'
structure Ctx where
 P:Program
 num:Nat->FuncId
inductive fU (E:Env):List PV->List Value->Prop
 |nil:fU E [] []
 |cons {p:PV} {v:Value} {ps:List PV} {vs:List Value} (h:bM E p v) (t:fU E ps vs):fU E (p::ps) (v::vs)
def aH(C:Ctx)(name:Nat)(args:List PV)(H:PH)(R:PV->PH->Prop):Prop:=
 (∃fn,C.P.funcs[C.num name]?=some fn/\fn.body.isSome=true/\(fn.name=="runtime.NumGoroutine")=false) /\
 ∀(E:Env)(w:World)(vs:Array Value),E.num=C.num->cB E H w->fU E args vs.toList ->
  Calls C.P (C.num name) vs w λe i=>∃v pv d H',e=.returned v/\cB d H' i/\bM d pv v/\Ext E H w d H' i/\R pv H'
def RP(C:Ctx)(l:Nat)(args:List PV)(H:PH)(R:PV->PH->Prop):Prop:=
 ∀(E:Env)(w:World)(vs:Array Value),E.num=C.num->cB E H w->fU E args vs.toList ->
  ∃fn i d body,(Instr.yield l vs).run C.P w=.ok (.round l fn i d body) w/\RoundIn Fence.wide 0 C.P l fn i d body w λe u=>∃v pv p H',e=.returned v/\cB p H' u/\bM p pv v/\Ext E H w p H' u/\R pv H'
def PV.aRQ:PV->Option Nat
 | .lit (.func (.yield l) f c)=>if f=#[]/\c=#[]then some l else none
 |_=>none
abbrev FH(l:Nat):PV:=.lit (.func (.yield l) #[] #[])
inductive oH where
 |normal
 |exit (id:Nat)
 |ret
abbrev cF:=oH->PF->PH->Prop
def PF.put(F:PF)(d:Option Nat)(v:PV):PF:=
 match d with
 |some d=>F.set d v
 |none=>F
def yJ(r:Option PV)(d:Option Nat)(K:PF->PH->Prop)(F:PF)(H:PH):Prop:=∃v,r=some v/\K (F.put d v) H
def qA(r:Option ((Nat->PV) × aY))(d:Option Nat)(K:PF->PH->Prop)(F:PF)(H:PH):Prop:=
 ∃e x,r=some (e,x)/\∀o,H o=none->K (F.put d (e o)) (H.set o x)
def qW(H d H':PH):Prop:=∀o x,H' o=some x->d o=none->H o=none
def wG(C:Ctx)(name:Nat)(args:Option (List PV))(d:Option Nat)(K:PF->PH->Prop)(F:PF)(H:PH):Prop:=
 ∃vs e R,args=some vs/\e.le H/\aH C name vs e R/\∀r H',R r H'->qW H e H'->K (F.put d r) (H.over e H')
def lD(C:Ctx)(name:Nat)(args:List aP)(cs:List PV)(d:Option Nat)(K:PF->PH->Prop)(F:PF)(H:PH):Prop:=
 wG C name ((aP.evs F args).map (·++cs)) d K F H \/
 ∃e i,kN F H e i/\wG C name ((aP.evs e args).map (·++cs)) d K e i
def ZM(C:Ctx)(l:Nat)(args:Option (List PV))(d:Option Nat)(K:PF->PH->Prop)(F:PF)(H:PH):Prop:=
 ∃vs e R,args=some vs/\e.le H/\RP C l vs e R/\∀r H',R r H'->qW H e H'->K (F.put d r) (H.over e H')
def aDN(C:Ctx)(l:Nat)(args:List aP)(d:Option Nat)(K:PF->PH->Prop)(F:PF)(H:PH):Prop:=
 ZM C l (aP.evs F args) d K F H\/∃e i,kN F H e i/\ZM C l (aP.evs e args) d K e i
def xJ(C:Ctx)(v:Option PV)(args:List aP)(d:Option Nat)(K:PF->PH->Prop)(F:PF)(H:PH):Prop:=
 match v with
 |some (.fn name cs)=>lD C name args cs d K F H
 |some (.lit u)=>∃l,PV.aRQ (.lit u)=some l/\aDN C l args d K F H
 |_=>False
def POp.jW:POp->Bool
 | .alloc _ | .box false _ | .bgJ false .. | .bgL .. | .bhJ _=>true
 |_=>false
def POp.eU:POp->Bool
 | .store .. | .append .. | .bgV .. | .insert ..=>true
 |_=>false
def wpOp(C:Ctx)(op:POp)(d:Option Nat)(K:PF->PH->Prop)(F:PF)(H:PH):Prop:=
 match op with
 | .call name args=>lD C name args [] d K F H
 | .bhF x args=>xJ C (x.ev F) args d K F H
 |op=>if op.jW then qA (cU op F) d K F H else if op.eU then cJ op F H (λr H'=>K (F.put d r) H')else yJ (aU op F H) d K F H
def wpOps(C:Ctx):List aW->(PF->PH->Prop)->PF->PH->Prop
 |[],K,F,H=>K F H
 |i::rest,K,F,H=>match i.guard with
  |none=>wpOp C i.op i.dst (wpOps C rest K) F H
  |some (t,d)=>match F t with
   |some (.bool b)=>if b=d then wpOp C i.op i.dst (wpOps C rest K) F H else wpOps C rest K (F.put i.dst (.tup [])) H
   |some (.tup [])=>wpOps C rest K (F.put i.dst (.tup [])) H
   |_=>False
def PH.only(H:PH)(D:List Nat):PH:=
 ⟨λo=>if o∈D then H o else none,by
  obtain⟨n,d⟩:=H.fin;exact⟨n,λo e=>by simp[d o e]⟩⟩
abbrev Spec:=Nat->List PV->Option (List Nat × (PH->PV->PH->Prop))
inductive Kind where
 |fail
 |calm (f:PH->Option PV)
 |new (r:Option ((Nat->PV) × aY))
 |write (w:PH->(PV->PH->Prop)->Prop)
 |call (name:Nat) (args:Option (List PV))
 |ins (r:Option (Nat × MSh × List KS × PV))
noncomputable def POp.kind(op:POp)(F:PF):Kind:=
 match op with
 | .call name args=>.call name (aP.evs F args)
 | .bhF x args=>match x.ev F with
  |some (.fn name cs)=>.call name ((aP.evs F args).map (·++cs))
  |_=>.fail
 | .insert sh x k v=>.ins (match x.ev F,k.ev F,v.ev F with
  |some (.map o),some e,some i=>(keyOf sh e).map λd=>(o,sh,d,i)
  |_,_,_=>none)
 |op=>if op.jW then .new (cU op F)else if op.eU then .write (λH K=>cJ op F H K)else .calm (aU op F)
noncomputable def aW.kind(i:aW)(F:PF):Kind:=
 match i.guard with
 |none=>i.op.kind F
 |some (t,d)=>match F t with
  |some (.bool b)=>if b=d then i.op.kind F else .calm (λ_=>some (.tup []))
  |some (.tup [])=>.calm (λ_=>some (.tup []))
  |_=>.fail
def Kind.run(C:Ctx)(Hs:PH)(S:Spec)(st:Bool)(k:Kind)(K:PV->PH->Prop)(H:PH):Prop:=
 match k with
 | .fail=>False
 | .calm f=>∃v,f (if st then Hs else H)=some v/\K v H
 | .new r=>∃e x,r=some (e,x)/\∀o,H o=none->K (e o) (H.set o x)
 | .write w=>w H λr H'=>Hs.le H'/\K r H'
 | .ins r=>∃o sh d v g,r=some (o,sh,d,v)/\H o=some (.map sh g)/\g d=none/\Hs o=none/\K .junk (H.set o (.map sh (g.upd d v)))
 | .call name args=>∃vs D R,args=some vs/\S name vs=some (D,R)/\(∀o∈D,∃x,H o=some x)/\aH C name vs (H.only D) (R (H.only D)) /\
   (∀G:PH,∃r H',R (H.only D) r H'/\qW G (H.only D) H') /\
   ∀r H',R (H.only D) r H'->qW H (H.only D) H'->Hs.le (H.over (H.only D) H')/\K r (H.over (H.only D) H')
def wpD(C:Ctx)(Hs:PH)(S:Spec):List (aW × Bool)->(PF->PH->Prop)->PF->PH->Prop
 |[],K,F,H=>K F H
 |i::rest,K,F,H=>(i.1.kind F).run C Hs S i.2 (λv H'=>wpD C Hs S rest K (F.put i.1.dst v) H') H
def kB(C:Ctx)(w:cF->PF->PH->Prop)(K:cF):cF
 | .normal,F,H=>w K F H
 |e,F,H=>K e F H
def fS(id:Nat)(K:cF):cF
 | .exit d,F,H=>if d=id then K .normal F H else K (.exit d) F H
 |e,F,H=>K e F H
def gG{α:Type}(l:α->PF)(Hs:α->PH)(p:α->Prop)(m:α->Nat)(n:Nat)(K:cF):cF
 | .normal,F,H=>∃a d i,kN F H d i/\p a/\m a<n/\(l a).le d/\(Hs a).le i
 |e,F,H=>K e F H
def aC.wp(C:Ctx):aC->cF->PF->PH->Prop
 | .skip,K,F,H=>K .normal F H
 | .region ops,K,F,H=>wpOps C ops (K .normal) F H
 | .draw ops,K,F,H=>∃Hs S,PH.le Hs H/\wpD C Hs S ops (K .normal) F H
 | .seq a b,K,F,H=>a.wp C (kB C (b.wp C) K) F H
 | .cond c a b,K,F,H=>match c.ev F with
  |some (.bool t)=>if t then a.wp C K F H else b.wp C K F H
  |_=>False
 | .block id c,K,F,H=>c.wp C (fS id K) F H
 | .loop c,K,F,H=>∃(α:Type)(d:α->PF)(Hs:α->PH)(e:α->Prop)(m:α->Nat)(i:α)(l:PF)(p:PH),kN F H l p/\e i/\(d i).le l/\(Hs i).le p /\
   ∀a,e a->c.wp C (gG d Hs e m (m a) K) (d a) (Hs a)
 | .exit id,K,F,H=>K (.exit id) F H
 | .ret,K,F,H=>K .ret F H
def eE.ev(F:PF)(H:PH):eE->Option PV
 | .tmp t=>F t
 | .cell t none=>match F t with
  |some p=>match loadCells H p 1 with
   |some [v]=>some v
   |_=>none
  |none=>none
 | .cell t (some k)=>match F t with
  |some p=>(loadCells H p k).map .agg
  |none=>none
def eE.evs(F:PF)(H:PH):List eE->Option (List PV)
 |[]=>some []
 |r::rs=>match r.ev F H,eE.evs F H rs with
  |some v,some vs=>some (v::vs)
  |_,_=>none
def bN:List PV->PV
 |[v]=>v
 |vs=>.tup vs
def aZ(res:List eE)(R:PV->PH->Prop):cF
 | .exit _,_,_=>False
 |_,F,H=>∃vs,eE.evs F H res=some vs/\∃d e H2,kN (PF.nil.set 0 (bN vs)) H d e/\H2.le e/\∃v,d 0=some v/\R v H2
def PF.args(vs:List PV):PF:=λi=>vs[i]?
structure Tbl where
 P:Program
 num:Nat->FuncId
 name:FuncId->Option Nat
 ro:List Nat:=[]
def ofValue:Value->Option PV
 | .int k n=>some (.int k n)
 | .bool b=>some (.bool b)
 | .string s=>some (.str s.data.toList)
 | .slice none 0 0=>some .aK
 | .pointer none=>some (.lit (.pointer none))
 | .map none=>some (.lit (.map none))
 | .nilIface=>some (.lit .nilIface)
 | .nilFunc=>some (.lit .nilFunc)
 |_=>none
theorem EA{E:Env}{v:Value}{pv:PV}(h:ofValue v=some pv):bM E pv v:=by
 unfold ofValue at h;split at h<;>cases h
 ·exact .int _ _
 ·exact .bool _
 ·exact .str _
 ·exact .aK
 all_goals exact .lit _
def ofValues:List Value->Option (List PV)
 |[]=>some []
 |v::vs=>match ofValue v,ofValues vs with
  |some p,some ps=>some (p::ps)
  |_,_=>none
namespace Tbl
variable (T:Tbl)
def opd:Operand->Option aP
 | .tmp t=>some (.tmp t)
 | .const v=>(ofValue v).map .const
 | .func f=>match T.name f with
  |some n=>if T.num n=f then some (.const (.fn n []))else none
  |none=>none
 | .global _=>none
def x3:List Operand->Option (List aP)
 |[]=>some []
 |x::xs=>match T.opd x,x3 xs with
  |some p,some ps=>some (p::ps)
  |_,_=>none
def size(t:TypeId):Option Nat:=(T.P.info? t).map (·.size)
def isAgg(t:TypeId):Option Bool:=
 match T.P.underlying t with
 |some (.struct _)|some (.array _ _)=>some true
 |some _=>some false
 |none=>none
def zero(t:TypeId):Option (List PV):=((T.P.info? t).bind (·.zero)).bind λz=>ofValues z.cells.toList
def scalar(t:TypeId):Option Sc:=
 match T.P.underlying t with
 |some (.int _)=>some .int
 |some .bool=>some .bool
 |some .string=>some .str
 |_=>none
def yV:Nat->List Field->Option (List Sc)
 |_,[]=>some []
 |k,f::d=>match T.scalar f.type,yV (k+1) d with
  |some c,some cs=>if f.name≠"_"/\f.offset=k then some (c::cs)else none
  |_,_=>none
def flat(t:TypeId):Option (List Sc):=
 match T.P.underlying t with
 |some (.struct d)=>if T.P.stoodInHeld t=false/\T.P.eqGuardType T.P.depth t=false then T.yV 0 d.toList else none
 |_=>none
def IH(t:TypeId):Option KSh:=
 match T.P.underlying t with
 |some (.int k)=>some (.int k)
 |some .bool=>some .bool
 |some .string=>some .str
 |_=>none
def qC:Nat->List Field->Option (List KSh)
 |_,[]=>some []
 |k,f::d=>match T.IH f.type,qC (k+1) d with
  |some c,some cs=>if f.name≠"_"/\f.offset=k then some (c::cs)else none
  |_,_=>none
def qR(t:TypeId):Option MSh:=
 match T.P.underlying t with
 |some (.struct d)=>if T.P.stoodInHeld t=false then(T.qC 0 d.toList).map λl=>(true,l)else none
 |_=>(T.IH t).map λc=>(false,[c])
def opt(x:Option Operand):Option (Option aP):=
 match x with
 |none=>some none
 |some x=>(T.opd x).map some
def place(d:Array Field)(i:Nat):Option (Nat × Nat):=
 match d[i]? with
 |some f=>(T.size f.type).map (f.offset,·)
 |none=>none
def partsOf(place:Nat->Option (Nat × Nat)):List (Nat × Operand)->Option (List (Nat × Nat × aP))
 |[]=>some []
 |(i,x)::rest=>match place i,T.opd x,partsOf place rest with
  |some (d,size),some p,some ps=>some ((d,size,p)::ps)
  |_,_,_=>none
def zO:List (Nat × Operand)->Option (List (Nat × aP))
 |[]=>some []
 |(i,x)::rest=>match T.opd x,zO rest with
  |some p,some ps=>some ((i,p)::ps)
  |_,_=>none
def La(d:Option Tmp):Bool:=
 match d with
 |some d=>T.ro.contains d
 |none=>false
def call(o:Oper)(c:Call):Option POp:=
 match c.callee with
 | .builtin b=>match b,c.args.toList,c.argTypes.toList with
  | .len,[x],[t]=>match T.P.underlying t with
   |some (.array n _)=>some (.mv (.const (.int .i64 n)))
   |some .string=>(T.opd x).map .bhD
   |some (.slice _)=>(T.opd x).map .len
   |some (.map _ _)=>(T.opd x).map .lenM
   |_=>none
  | .append,[x,y],[t,u]=>match T.P.underlying t,T.P.underlying u with
   |some (.slice e),some (.slice _)=>match T.P.info? e,T.opd x,T.opd y with
    |some i,some a,some b=>if t=u/\i.zero.isSome/\(i.zero.map (·.cells.size))=some i.size/\0<i.size then some (.append i.size i.bytes a b)else none
    |_,_,_=>none
   |_,_=>none
  | .cap,[x],[t]=>match T.P.underlying t with
   |some (.slice _)=>(T.opd x).map .bhN
   |_=>none
  | .max,[x,y],_=>match T.opd x,T.opd y with
   |some a,some b=>some (.bgY true a b)
   |_,_=>none
  | .min,[x,y],_=>match T.opd x,T.opd y with
   |some a,some b=>some (.bgY false a b)
   |_,_=>none
  |_,_,_=>none
 | .value (.func f)=>match T.name f,T.x3 c.args.toList with
  |some n,some xs=>if T.num n=f then some (.call n xs)else none
  |_,_=>none
 | .value (.tmp t)=>(T.x3 c.args.toList).map (.bhF (.tmp t))
 |_=>none
def op(o:Oper):Option POp:=
 match o.op with
 | .move x | .assign x=>(T.opd x).map .mv
 | .pick c a b=>match T.opd c,T.opd a,T.opd b with
  |some c,some a,some b=>some (.pick c a b)
  |_,_,_=>none
 | .alloc e=>(T.zero e).map .alloc
 | .box _ x=>(T.opd x).map (.box (T.La o.dst))
 | .build t parts=>match T.zero t,T.P.underlying t with
  |some z,some (.struct B)=>if(B.toList.mapM (λf=>(T.P.info? f.type).map λi=>(f.offset,i.size))).isSome then
    (T.partsOf (T.place B) parts.toList).map (.build z)
   else none
  |some z,some (.array _ e)=>match T.size e with
   |some s=>(T.partsOf (λi=>some (i*s,s)) parts.toList).map (.build z)
   |none=>none
  |_,_=>none
 | .buildSlice t len parts=>match T.P.underlying t with
  |some (.slice e)=>match T.size e,T.zero e,T.zO parts.toList with
   |some s,some z,some ps=>if z.length=s/\0<s then some (.bgJ (T.La o.dst) s len z ps)else none
   |_,_,_=>none
  |_=>none
 | .load t a=>match T.isAgg t,T.size t,T.opd a with
  |some true,some n,some p=>some (.load (some n) p)
  |some false,_,some p=>some (.load none p)
  |_,_,_=>none
 | .store t a x=>match T.size t,T.opd a,T.opd x with
  |some n,some p,some v=>some (.store n p v)
  |_,_,_=>none
 | .nilCheck x=>(T.opd x).map .bgQ
 | .binOp b t x y _=>match T.opd x,T.opd y with
  |some p,some q=>match b with
   | .eql=>match T.P.underlying t with
    |some (.int _)|some .string=>some (.bin .eql p q)
    |some .bool=>some (.eqb false p q)
    |some (.struct _)=>(T.flat t).map λF=>.eqs false F p q
    |some (.slice _)=>match q with
     | .const .aK=>some (.isNil false p)
     |_=>none
    |_=>none
   | .neq=>match T.P.underlying t with
    |some (.int _)|some .string=>some (.bin .neq p q)
    |some .bool=>some (.eqb true p q)
    |some (.struct _)=>(T.flat t).map λF=>.eqs true F p q
    |some (.slice _)=>match q with
     | .const .aK=>some (.isNil true p)
     |_=>none
    |_=>none
   |b=>some (.bin b p q)
  |_,_=>none
 | .unOp u _ x=>(T.opd x).map (.un u)
 | .convert s d x=>match T.P.underlying s,T.P.underlying d,T.opd x with
  |some (.int _),some (.int k),some p=>some (.conv k p)
  |some .string,some .string,some p=>some (.same p)
  |some (.slice e),some .string,some p=>match T.P.underlying e with
   |some (.int .u8)=>some (.bgR p)
   |_=>none
  |_,_,_=>none
 | .makeFunc (.func f) A captured=>match T.name f,T.x3 captured.toList with
  |some n,some cs=>if T.num n=f/\A.size=0 then some (.mkfn n cs)else none
  |_,_=>none
 | .makeMap t none=>match T.P.underlying t with
  |some (.map k _)=>(T.qR k).map .bhJ
  |_=>none
 | .lookup t x k ok=>match T.P.underlying t with
  |some (.map E H)=>match T.qR E,(T.P.info? H).bind (·.zero),T.opd x,T.opd k with
   |some sh,some z,some p,some q=>(ofValue z).map λz=>.lookup sh z p q ok
   |_,_,_,_=>none
  |_=>none
 | .mapUpdate t x k v=>match T.P.underlying t with
  |some (.map E _)=>match T.qR E,T.opd x,T.opd k,T.opd v with
   |some sh,some p,some q,some r=>some (.bgV sh p q r)
   |_,_,_,_=>none
  |_=>none
 | .insert t x k v=>match T.P.underlying t with
  |some (.map E _)=>match T.qR E,T.opd x,T.opd k,T.opd v with
   |some sh,some p,some q,some r=>some (.insert sh p q r)
   |_,_,_,_=>none
  |_=>none
 | .makeSlice t l c=>match T.P.underlying t with
  |some (.slice e)=>match T.P.info? e,T.zero e,T.opd l,T.opd c with
   |some i,some z,some a,some b=>if z.length=i.size/\0<i.size then some (.bgL i.size i.bytes z a b)else none
   |_,_,_,_=>none
  |_=>none
 | .slice t x lo hi mx=>match T.P.underlying t,T.opd x,T.opt lo,T.opt hi,T.opt mx with
  |some (.slice e),some p,some l,some h,some m=>if mx.isSome=true/\hi.isNone=true then none else(T.size e).map λs=>.slice s p l h m
  |some .string,some p,some l,some h,some none=>some (.bhA p l h)
  |some (.array n e),some p,some none,some none,some none=>(T.size e).map λs=>.sliceA n s p none none none
  |_,_,_,_,_=>none
 | .fieldAddr t x f=>match T.P.underlying t,T.opd x with
  |some (.struct B),some p=>match B[f]? with
   |some w=>match T.size w.type with
    |some (_+1)=>some (.bhG w.offset p)
    |_=>none
   |none=>none
  |_,_=>none
 | .field t x f=>match T.P.underlying t,T.opd x with
  |some (.struct B),some p=>match B[f]? with
   |some w=>match T.isAgg w.type,T.size w.type with
    |some true,some n=>some (.field w.offset (some n) p)
    |some false,_=>some (.field w.offset none p)
    |_,_=>none
   |none=>none
  |_,_=>none
 | .indexAddr t x i=>match T.P.underlying t,T.opd x,T.opd i with
  |some (.slice e),some p,some q=>(T.size e).map λs=>.bgU s p q
  |some (.array n e),some p,some q=>(T.size e).map λs=>.idxA n s p q
  |_,_,_=>none
 | .index t x i=>match T.P.underlying t,T.opd x,T.opd i with
  |some (.array n e),some p,some q=>match T.size e,T.isAgg e with
   |some s,some g=>some (.idxV n s g p q)
   |_,_=>none
  |some .string,some p,some q=>some (.bhE p q)
  |_,_,_=>none
 | .extract x i=>(T.opd x).map (.extract · i)
 | .call c=>T.call o c
 |_=>none
def mg(n:Nat)(ops:Array Oper)(o:Oper):Option aW:=
 let p:=(T.op o).getD .stuck
 if o.dst.all (·<n)then
  match o.guard with
  |none=>some ⟨o.dst,p,none⟩
  |some (j,d)=>match(ops[j]?).bind (·.dst)with
   |some t=>some ⟨o.dst,p,some (t,d)⟩
   |none=>none
 else none
def xY(n:Nat)(ops:Array Oper):List Oper->Option (List aW)
 |[]=>some []
 |o::os=>match T.mg n ops o,xY n ops os with
  |some i,some d=>some (i::d)
  |_,_=>none
end Tbl
end Go.PM
namespace Go.PM
open Go
structure eQ(ds:List Deferred)(n:Nat)(E:Env)(F:PF)(a:Act):Prop where
 size:a.tmps.size=n
 defers:a.defers=ds
 t:∀i pv,F i=some pv->bM E pv (a.tmps.getD i undef)
theorem eQ.mono{ds:List Deferred}{n:Nat}{E d:Env}(h:E.le d){F:PF}{a:Act}(r:eQ ds n E F a):eQ ds n d F a:=⟨r.size,r.defers,λi pv hi=>(r.t i pv hi).mono h⟩
theorem eQ.weaken{ds:List Deferred}{n:Nat}{E:Env}{F d:PF}{a:Act}(r:eQ ds n E F a)(h:d.le F):eQ ds n E d a:=⟨r.size,r.defers,λi pv hi=>r.t i pv (h i pv hi)⟩
theorem eQ.put{ds:List Deferred}{n:Nat}{E:Env}{F:PF}{a:Act}(r:eQ ds n E F a){d:Option Tmp}(p:d.all (·<n)=true){pv:PV}{v:Value}(h:bM E pv v):eQ ds n E (F.put d pv) (a.put d v):=by
 cases d with
 |none=>exact r
 |some d=>
  have l:d<n:=by simpa using p
  refine⟨by simp[Act.put,r.size],by simp[Act.put,r.defers],λi u hi=>?_⟩;simp only[PF.put,PF.set,upd]at hi;split at hi
  ·rename_i e;subst e;cases hi;simp only[Act.put,blU];rw[Array.getElem?_setIfInBounds];simp[r.size,l,h]
  ·rename_i e;have:=r.t i u hi;simp only[Act.put,blU]at this ⊢;rw[Array.getElem?_setIfInBounds,aE Om];exact this
section
variable {ds:List Deferred} {T:Tbl} {n:Nat} {E:Env} {F:PF} {H:PH} {a:Act} {w:World}
theorem bO{x:Operand}{p:aP}{pv:PV}(d:T.opd x=some p)(e:p.ev F=some pv)(i:eQ ds n E F a)(l:E.num=T.num):bM E pv (a.eval x):=by
 cases x with
 |tmp t =>simp[Tbl.opd]at d;subst d;exact i.t t pv e
 |const v =>simp only[Tbl.opd,biE]at d;obtain⟨q,y,rfl⟩:=d;simp[aP.ev]at e;subst e;exact EA y
 |global g=>simp[Tbl.opd]at d
 |func f=>
  simp only[Tbl.opd]at d;split at d
  ·rename_i m A;split at d
   ·rename_i u;cases d;simp[aP.ev]at e;subst e;have:=bM.fn (E:=E) (name:=m) (captured:=[]) #[] rfl (by intro j pv v h;simp at h);rw[l,u]at this;exact this
   ·cases d
  ·cases d
theorem HB{xs:List Operand}:∀{ps:List aP}{d:List PV},T.x3 xs=some ps->aP.evs F ps=some d->eQ ds n E F a->E.num=T.num->fU E d (xs.map a.eval):=by
 induction xs with
 |nil =>intro ps d e i _ _;simp[Tbl.x3]at e;subst e;simp[aP.evs]at i;subst i;exact .nil
 |cons x xs J=>
  intro ps d e i y A;simp only[Tbl.x3]at e;split at e
  ·rename_i p K hp l;cases e;simp only[aP.evs]at i;split at i
   ·rename_i v vs B u;cases i;exact .cons (bO hp B y A) (J l u y A)
   ·cases i
  ·cases e
theorem cB.atT(hW:cB E H w){b d:Nat}{u:Value}(h:E.cell b d=some u):w.cell? ⟨b,d,none⟩=some u:=by
 unfold Env.cell at h;cases e:E.G b with
 |none=>simp[e]at h
 |some cs =>obtain⟨-,ty,fr,i⟩:=hW.g b cs e;rw[cell_of_row w b d cs ty fr i];simpa[e]using h
theorem add_plain(b d i:Nat):(⟨b,d,none⟩:Addr).add i=⟨b,d+i,none⟩:=by unfold Addr.add;split<;>simp_all
theorem tJ{d:Addr}(h:d.spot=none):d=⟨d.block,d.off,none⟩:=by cases d;simp_all
theorem uV{pv:PV}{v:Value}(hW:cB E H w)(Y:bM E pv v){k:Nat}{cs:List PV}(h:loadCells H pv k=some cs) :
  ∃b K,v=.pointer (some ⟨b,K,none⟩)/\Z' cs=k/\∃M:List Value,Z' M=k/\(∀u∈M,u.oneCell'=true) /\
   (∀(j:Nat) u,M[j]?=some u->w.cell? ⟨b,K+j,none⟩=some u)/\∀(j:Nat) q u,cs[j]?=some q->M[j]?=some u->bM E q u:=by
 unfold loadCells at h;split at h
 ·rename_i o size i c;cases Y;split at h
  ·rename_i s rs ho;split at h
   ·rename_i hs;subst hs;split at h
    ·rename_i r Q;split at h
     ·rename_i α;cases h;obtain⟨-,y,ty,hh,γ,X,W,N⟩:=hW.h o _ ho;have B:∀j,j<k->∃u,y[i*s+(c+j)]?=some u/\u.oneCell'=true/\bM E (r.getD (c+j) .junk) u:=by intro j V;refine N i (c+j) _ ?_;simp only[at2,Q,blG,bhX];rw[biD Om];rfl
      refine⟨o,i*s+c,rfl,by simp;omega,?_⟩;refine⟨(bhP k).map λj=>(y[i*s+(c+j)]?).getD undef,by simp,?_,?_,?_⟩
      ·intro u l;simp only[biJ,biM]at l;obtain⟨j,V,rfl⟩:=l;obtain⟨u,A,Z,-⟩:=B j V;simp[A,Z]
      ·intro j u l;simp only[biL,biE]at l;obtain⟨S,d,rfl⟩:=l;have e:j<k:=by
        rcases biR j k with h|h
        ·exact h
        ·rw[bjJ (by simpa using h)]at d;cases d
       rw[blX e]at d;cases d;obtain⟨u,A,-,-⟩:=B j e;rw[cell_of_row w o _ y ty (0,0) hh,bkL,A];rfl
      ·intro j q u J l;simp only[biL,biE]at l;obtain⟨S,d,rfl⟩:=l;have e:j<k:=by
        rcases biR j k with h|h
        ·exact h
        ·rw[bjJ (by simpa using h)]at d;cases d
       rw[blX e]at d;cases d;obtain⟨u,A,-,h3⟩:=B j e;have O:r.getD (c+j) .junk=q:=by rw[blL,aG e,blW]at J;simp[J]
       rw[<-O,A];exact h3
     ·cases h
    ·cases h
   ·cases h
  ·cases h
 ·rename_i cells;cases Y with
  |bK u R N A Q=>
  rename_i U;split at h
  ·rename_i β;cases h;refine⟨U.block,U.off,by rw[<-tJ R],by simp;omega,(bhP k).map u,by simp,?_,?_,?_⟩
   ·intro x p;simp only[biJ]at p;obtain⟨j,-,rfl⟩:=p;exact A j
   ·intro j x p;simp only[biL,biE]at p;obtain⟨S,d,rfl⟩:=p;have e:j<k:=by
     rcases biR j k with h|h
     ·exact h
     ·rw[bjJ (by simpa using h)]at d;cases d
    rw[blX e]at d;cases d;exact hW.atT (N j _ (biD Om))
   ·intro j q x J p;simp only[biL,biE]at p;obtain⟨S,d,rfl⟩:=p;have e:j<k:=by
     rcases biR j k with h|h
     ·exact h
     ·rw[bjJ (by simpa using h)]at d;cases d
    rw[blX e]at d;cases d;rw[blL,aG e]at J;exact Q j q J
  ·cases h
 ·cases h
theorem aLM {op : BinOp} {px py pv : PV} {x y : Value} (hx : bM E px x) (hy : bM E py y) (h : PV.bin op px py = some pv) (t : TypeId) (ox oy : Operand) :
    ∃ v, (do eqGuard op t ox oy x y; binOp op t x y : Sem Value).run T.P w = .ok v w /\ bM E pv v := by
  unfold PV.bin at h;split at h
  · cases hx; cases hy
    unfold shift at h;split at h
    · cases h
    · rename_i hb
      cases h;exact ⟨_, by simp [eqGuard, binOp, Op.shift, hb], .int _ _⟩
  · cases hx; cases hy
    unfold shift at h;split at h
    · cases h
    · rename_i hb
      cases h;exact ⟨_, by simp [eqGuard, binOp, Op.shift, hb], .int _ _⟩
  · rename_i op' k a k' b n1 n2
    cases hx; cases hy;split at h
    · rename_i hk
      subst hk;cases op <;> simp only [pP] at h <;>
        first
          | (cases h; refine ⟨_, ?_, bM.int _ _⟩; simp [eqGuard, binOp, Op.intArith, Op.intBits]; done)
          | (cases h; refine ⟨_, ?_, bM.bool _⟩; simp [eqGuard, binOp, Op.intCmp]; done)
          | (split at h
             · cases h
             · rename_i hb
               cases h;refine ⟨_, ?_, bM.int _ _⟩;simp [eqGuard, binOp, Op.intDiv, hb])
          | cases h
    · cases h
  · rename_i op' a b
    cases hx with
    | str s =>
    cases hy with
    | str s' =>
    cases op <;> simp only [RS] at h <;>
      first
        | (cases h; refine ⟨_, ?_, bM.bool _⟩; simp [eqGuard, binOp, Op.stringOp, ByteArray.toList_eq]; done)
        | (split at h
           · cases h
           · rename_i hb
             cases h;refine ⟨.string (s ++ s'), ?_, ?_⟩
             · have hb' : ¬ (((s.size + s'.size : Nat) : Int) > IntKind.i64.max) := by
                 intro hh;apply hb;have e1 : s.data.toList.length = s.size := by rw [bkX]; rfl
                 have e2 : s'.data.toList.length = s'.size := by rw [bkX]; rfl
                 rw [e1, e2];exact hh
               have e1 : Op.stringOp .add s s' = pure (.string (s ++ s')) := by unfold Op.stringOp; exact aE hb'
               have e2 : binOp .add t (.string s) (.string s') = pure (.string (s ++ s')) := by unfold binOp; exact e1
               simp [eqGuard, e2]
             · have e : s.data.toList ++ s'.data.toList = (s ++ s').data.toList := by rw [ByteArray.data_append, Array.toList_append]
               rw [e];exact .str _)
        | cases h
  · cases h
theorem aYG{u:UnOp}{e pv:PV}{x:Value}(d:bM E e x)(h:PV.un u e=some pv):∃v,(Op.unary u x).run T.P w=.ok v w/\bM E pv v:=by
 unfold PV.un at h;split at h
 ·cases d;split at h
  ·cases h;exact⟨_,by simp[Op.unary,Op.intArith],.int _ _⟩
  ·cases h;exact⟨_,by simp[Op.unary,Op.intBits],.int _ _⟩
  ·cases h
 ·cases d;split at h
  ·cases h;exact⟨_,by simp[Op.unary],.bool _⟩
  ·cases h
 ·cases h
end
open Go Go.RowKit
def Yields(P:Program)(E:Env)(H:PH)(w:World)(s:Sem Value)(pv:PV):Prop:=
 ∃v e d,s.run P w=.ok v e/\bM d pv v/\cB d H e/\Ext E H w d H e
theorem Yields.same{P:Program}{E:Env}{H:PH}{w:World}{s:Sem Value}{pv:PV}{v:Value}(hW:cB E H w)(h:s.run P w=.ok v w)(r:bM E pv v):Yields P E H w s pv:=
 ⟨v,w,E,h,r,hW,.refl E H w⟩
def Env.add(E:Env)(b:Nat)(cs:Array Value):Env:=⟨upd E.G b (some cs),upd E.sz b (some cs.size),E.num⟩
section
variable {T:Tbl} {n:Nat} {E:Env} {F:PF} {H:PH} {a:Act} {w:World}
theorem cB.aGI(hW:cB E H w){b:Nat}{cs:Array Value}(h:E.G b=some cs):b<w.heap.size:=by
 obtain⟨-,ty,fr,d⟩:=hW.g b cs h;exact(blH.1 d).1
theorem cB.akI(hW:cB E H w){b n:Nat}(h:E.sz b=some n):b<w.heap.size:=by
 obtain⟨d,ty,fr,e,-⟩:=hW.s b n h;exact(blH.1 e).1
theorem cB.aHB(hW:cB E H w):H w.heap.size=none:=by
 cases h:H w.heap.size with
 |none=>rfl
 |some x=>have:=(hW.h _ x h).1;omega
theorem Env.a6J(hW:cB E H w)(cs:Array Value):E.le (E.add w.heap.size cs):=by
 refine⟨λb ds h=>?_,λb m h=>?_,rfl⟩
 ·have:=hW.aGI h;simp only[Env.add];rw[j5 _ _ Om];exact h
 ·have:=hW.akI h;simp only[Env.add];rw[j5 _ _ Om];exact h
theorem cB.aZO(hW:cB E H w)(cs:Array Value)(ty:TypeId):cB (E.add w.heap.size cs) H (w.alloc (.cells cs ty))/\Ext E H w (E.add w.heap.size cs) H (w.alloc (.cells cs ty)):=by
 have p:=Env.a6J hW cs;refine⟨⟨λb ds h=>?_,λo x h=>?_,λo m h=>?_⟩,⟨p,rfl,rfl,rfl,by simp,λb hb _=>Below.heap_alloc w _ b hb,λo x h=>.inl ⟨x,h⟩,λb ds h=>?_⟩⟩
 ·simp only[Env.add,upd]at h;split at h
  ·rename_i e;cases h;subst e;exact⟨λx y=>by(rw[hW.aHB]at y;cases y),ty,(0,0),heap_alloc_new w _⟩
  ·obtain⟨i,d,fr,l⟩:=hW.g b ds h;exact⟨i,d,fr,(Below.heap_alloc w _ b (hW.aGI h)).trans l⟩
 ·obtain⟨i,l⟩:=hW.h o x h;exact⟨by simp;omega,l.mono p (Below.heap_alloc w _ o i)⟩
 ·simp only[Env.add,upd]at h;split at h
  ·rename_i e;cases h;subst e;exact⟨cs,ty,(0,0),heap_alloc_new w _,rfl⟩
  ·obtain⟨u,d,fr,i,l⟩:=hW.s o m h;exact⟨u,d,fr,(Below.heap_alloc w _ o (hW.akI h)).trans i,l⟩
 ·simp only[Env.add,upd]at h;split at h
  ·rename_i e;exact .inr (.inr Om)
  ·exact .inl h
theorem aIR{pv:PV}{v:Value}(h:bM E pv v)(d:pv.one=true):v.oneCell'=true:=by
 cases h with
 |lit v=>cases v<;>first|rfl|(simp[PV.one]at d)
 |junk v=>simp[PV.one]at d
 |agg vs=>simp[PV.one]at d
 |tup vs=>simp[PV.one]at d
 |_=>rfl
theorem EL{pv:PV}{v:Value}(h:bM E pv v)(l:pv.cells.all PV.one=true) :
  v.cells.size=Z' pv.cells/\(∀u∈v.cells.toList,u.oneCell'=true)/\∀(j:Nat) q u,pv.cells[j]?=some q->v.cells[j]?=some u->bM E q u:=by
 by_cases d:∃cs,pv=.agg cs
 ·obtain⟨cs,rfl⟩:=d;cases h with
  |agg vs y e A=>exact⟨y,e,A⟩
 ·have x:pv.cells=[pv]:=by cases pv<;>first|rfl|(exact absurd ⟨_,rfl⟩ d)
  rw[x]at l ⊢;have e:v.oneCell'=true:=aIR h (by simpa using l);have B:v.cells=#[v]:=by cases v<;>first|rfl|(simp[Value.oneCell']at e)
  rw[B];refine⟨rfl,by simpa using e,λj q u i p=>?_⟩;cases j with
  |zero=>simp at i p;subst i;subst p;exact h
  |succ j=>simp at i
theorem Pw{c:Sc}{p q:PV}{x y:Value}(u:bM E p x)(A:bM E q y){b:Bool}(h:PV.eq1 c p q=some b){t:TypeId}(i:T.scalar t=some c)(d:Nat) :
  (Op.equalIn (d+1) t x y).run T.P w=.ok b w:=by
 unfold Tbl.scalar at i;unfold PV.eq1 at h;split at h
 ·cases u;cases A;split at h
  ·rename_i e;subst e;cases h;split at i<;>cases i;rename_i k2 l;exact run_equalIn_int w d t _ k2 _ _ l
  ·cases h
 ·cases u;cases A;cases h;split at i<;>cases i;rename_i l;exact run_equalIn_bool w d t _ _ l
 ·cases u with
  |str s=>
  cases A with
  |str s'=>
  cases h;split at i<;>cases i;rename_i l;rw[run_equalIn_string w d t s s' l,ByteArray.toList_eq,ByteArray.toList_eq]
 ·cases h
theorem XK{t:TypeId}{c:Sc}(e:T.scalar t=some c)(cs:Array Value)(k:Nat)(v:Value)(i:cs[k]?=some v):(part t cs k).run T.P w=.ok v w:=by
 have d:(isAgg t).run T.P w=.ok false w:=by unfold Tbl.scalar at e;split at e<;>cases e<;>(rename_i l;simp[isAgg,run_underlying l])
 simp[part,d,i]
theorem dp(d:Nat)(vs l:Array Value):∀(p:List Field)(B:List Sc)(k:Nat)(xs ys:List PV)(b:Bool),T.yV k p=some B->PV.eqs B xs ys=some b ->
  (∀(j:Nat) q u,xs[j]?=some q->vs[k+j]?=some u->bM E q u)->(∀(j:Nat) q u,ys[j]?=some q->l[k+j]?=some u->bM E q u) ->
  vs.size=k+Z' xs->l.size=k+Z' ys->(Op.eqFields (d+1) vs l p).run T.P w=.ok b w
 |[],B,k,xs,ys,b,i,e,M,N,O,Q=>by simp[Tbl.yV]at i;subst i;cases xs<;>cases ys<;>simp[PV.eqs]at e;subst e;simp[Op.eqFields]
 |f::p,B,k,xs,ys,b,i,e,M,N,O,Q=>by
  simp only[Tbl.yV]at i;split at i
  ·rename_i c cs A K;split at i
   ·rename_i R;cases i;cases xs with
    |nil=>simp[PV.eqs]at e
    |cons x xs=>
    cases ys with
    |nil=>simp[PV.eqs]at e
    |cons y ys=>
    simp only[PV.eqs]at e;simp only[bjL]at O Q;have W:vs[k]?=some vs[k]:=blN Om;have V:l[k]?=some l[k]:=blN Om;have S:bM E x vs[k]:=M 0 x _ rfl bH;have U:bM E y l[k]:=N 0 y _ rfl bH;simp only[Op.eqFields];rw[aG R.1];simp only[Sem.run_bind,R.2,XK A vs k _ W,XK A l k _ V,Result.andThen_ok];split at e
    ·rename_i J;rw[Pw S U J A d];simp only[Result.andThen_ok,bhZ,bjW,if_false];refine dp d vs l p cs (k+1) xs ys b K e (λj q u a c=>M (j+1) q u (by simpa using a) (by rw[<-c];congr 1;omega)) (λj q u a c=>N (j+1) q u (by simpa using a) (by rw[<-c];congr 1;omega)) Om Om
    ·rename_i J;rw[Pw S U J A d];simp only[Result.andThen_ok,biF,if_true,Sem.run_pure];split at e
     ·cases e;rfl
     ·cases e
    ·cases e
   ·cases i
  ·cases i
theorem aML(neg:Bool)(a b:Bool){t:TypeId}(e i:Operand)(d:T.P.underlying t=some .bool) :
  (do eqGuard (if neg then .neq else .eql) t e i (.bool a) (.bool b);binOp (if neg then .neq else .eql) t (.bool a) (.bool b):Sem Value).run T.P w=.ok (.bool ((a==b) != neg)) w:=by
 cases neg
 ·simp[eqGuard,run_eql_bool w t a b d]
 ·simp[eqGuard,run_neq_bool w t a b d]
theorem arO(neg:Bool){pv:PV}{v:Value}(B:bM E pv v){b:Bool}(hb:pv.uB=some b){t e:TypeId}(p u:Operand)(i:T.P.underlying t=some (.slice e)) :
  (do eqGuard (if neg then .neq else .eql) t p u v (.slice none 0 0);binOp (if neg then .neq else .eql) t v (.slice none 0 0):Sem Value).run T.P w=.ok (.bool (b != neg)) w:=by
 have d:∀(a:Option Addr)(l c:Nat),b=a.isNone->v=.slice a l c->(do eqGuard (if neg then .neq else .eql) t p u v (.slice none 0 0);binOp (if neg then .neq else .eql) t v (.slice none 0 0):Sem Value).run T.P w=.ok (.bool (b != neg)) w:=by
  intro a l c x y;subst x y;cases neg
  ·simp only[bjW,if_false,binOp];simp[eqGuard,run_equal_slice_nil w t e a l c i]
  ·simp only[if_true,binOp];simp[eqGuard,run_equal_slice_nil w t e a l c i]
 cases B<;>simp only[PV.uB]at hb<;>try cases hb
 ·exact d _ _ _ rfl rfl
 ·rename_i rows _ _ _ _ _ _ A _ _;cases rows with
  |nil=>cases hb
  |cons r rs =>cases hb;obtain⟨J,rfl,-⟩:=A bH;exact d _ _ _ rfl rfl
 ·exact d _ _ _ rfl rfl
theorem aFX(neg:Bool){J:List Sc}{xs ys:List PV}{x y:Value}(V:bM E (.agg xs) x)(W:bM E (.agg ys) y){b:Bool}(hb:PV.eqs J xs ys=some b){t:TypeId}(K M:Operand)
  (d:T.flat t=some J):(do eqGuard (if neg then .neq else .eql) t K M x y;binOp (if neg then .neq else .eql) t x y:Sem Value).run T.P w=.ok (.bool (b != neg)) w:=by
 cases V with
 |agg vs R X U=>
 cases W with
 |agg i A S B=>
 unfold Tbl.flat at d;split at d
 ·rename_i N O;split at d
  ·rename_i p;have e:T.P.fieldsOf t=N:=by simp[Program.fieldsOf,O]
   have Q:=dp (w:=w) 9998 vs i N.toList J 0 xs ys b d hb (λj q u a c=>U j q u a (by simpa using c)) (λj q u a c=>B j q u a (by simpa using c)) (by simpa using R) (by simpa using A);have l:=run_equalIn_struct w 9999 t vs i (by rw[e];exact O) p.1;rw[e,Q]at l;cases neg
   ·simp[run_eqGuard_agg w .eql t K M vs i p.2,run_eql_struct,l]
   ·simp[run_eqGuard_agg w .neq t K M vs i p.2,run_neq_struct,l]
  ·cases d
 ·cases d
end
open Go Go.RowKit
def sO(E:Env)(cs:List PV)(vs:Array Value):Prop:=
 vs.size=Z' cs/\(∀v∈vs.toList,v.oneCell'=true)/\∀(j:Nat) pv v,cs[j]?=some pv->vs[j]?=some v->bM E pv v
def ye(vs:Array Value)(c:Nat):List Value->Array Value
 |[]=>vs
 |u::d=>ye (vs.setIfInBounds c u) (c+1) d
theorem XZ(d:Nat):∀(e:List Value)(k:Nat)(vs:Array Value),(e.zipIdx k).foldl (λcs (x:Value × Nat)=>cs.setIfInBounds (d+x.2) x.1) vs=ye vs (d+k) e
 |[],_,_=>rfl
 |u::e,k,vs=>by simp only[List.zipIdx_cons,List.foldl_cons,ye];rw[XZ d e (k+1)];rfl
theorem NF:∀(ps:List PV)(c:Nat)(r:List PV),(setCells r c ps).length=Z' r
 |[],_,_=>rfl
 |p::ps,c,r=>by simp[setCells,NF ps]
theorem sO.bdW{E:Env}{cs:List PV}{vs:Array Value}(h:sO E cs vs){c:Nat}{p:PV}{u:Value}(r:bM E p u)(i:u.oneCell'=true):sO E (cs.set c p) (vs.setIfInBounds c u):=by
 obtain⟨l,x,y⟩:=h;refine⟨by simp[l],λv d=>?_,λj pv v hp d=>?_⟩
 ·simp only[Array.toList_setIfInBounds]at d;rcases blZ d with d|rfl
  ·exact x v d
  ·exact i
 ·rw[blY]at hp;rw[Array.getElem?_setIfInBounds]at d;split at hp
  ·rename_i e;subst e;rw[aG rfl]at d;split at hp
   ·rename_i A;rw[aG Om]at d;cases hp;cases d;exact r
   ·cases hp
  ·rename_i e;rw[aE e]at d;exact y j pv v hp d
theorem sO.setCells{E:Env}:∀(ps:List PV)(d:List Value)(c:Nat)(cs:List PV)(vs:Array Value),sO E cs vs->Z' d=Z' ps->(∀u∈d,u.oneCell'=true) ->
  (∀(j:Nat) p u,ps[j]?=some p->d[j]?=some u->bM E p u)->sO E (setCells cs c ps) (ye vs c d)
 |[],[],_,_,_,h,_,_,_=>h
 |p::ps,u::d,c,cs,vs,h,e,i,l=>by simp only[PM.setCells,ye];exact sO.setCells ps d (c+1) _ _ (h.bdW (l 0 p u rfl rfl) (i u bH)) (by simpa using e) (λx y=>i x (by simp[y])) (λj q x a b=>l (j+1) q x (by simpa using a) (by simpa using b))
 |[],u::d,_,_,_,_,e,_,_=>by simp at e
 |p::ps,[],_,_,_,_,e,_,_=>by simp at e
theorem ik{E:Env}:∀{vs:List Value}{ps:List PV},ofValues vs=some ps->Z' ps=Z' vs/\∀(j:Nat) p v,ps[j]?=some p->vs[j]?=some v->bM E p v
 |[],ps,h=>by simp[ofValues]at h;subst h;simp
 |v::vs,ps,h=>by
  simp only[ofValues]at h;split at h
  ·rename_i p l hp i;cases h;obtain⟨d,e⟩:=ik (E:=E) i;refine⟨by simp[d],λj q u a b=>?_⟩;cases j with
   |zero=>simp at a b;subst a;subst b;exact EA hp
   |succ j=>exact e j q u (by simpa using a) (by simpa using b)
  ·cases h
theorem ij:∀{vs:List Value}{ps:List PV},ofValues vs=some ps->∀v∈vs,v.oneCell'=true
 |[],_,_,v,hv=>by simp at hv
 |u::vs,ps,h,v,hv=>by
  simp only[ofValues]at h;split at h
  ·rename_i p e hp d;rcases biG.1 hv with rfl|hv
   ·unfold ofValue at hp;split at hp<;>first|rfl|cases hp
   ·exact ij d v hv
  ·cases h
section
variable {ds:List Deferred} {T:Tbl} {n:Nat} {E:Env} {F:PF} {H:PH} {a:Act} {w:World}
theorem ZO{t:TypeId}{z:List PV}(h:T.zero t=some z):∃i d,T.P.info? t=some i/\i.zero=some d/\sO E z d.cells:=by
 unfold Tbl.zero at h;cases hi:T.P.info? t with
 |none=>simp[hi]at h
 |some i=>
  cases e:i.zero with
  |none=>simp[hi,e]at h
  |some d =>simp only[hi,e,blG]at h;obtain⟨l,u⟩:=ik (E:=E) h;exact⟨i,d,rfl,e,by simpa using l.symm,ij h,λj p v a b=>u j p v a (by simpa using b)⟩
theorem UK{place:Nat->Option (Nat × Nat)}(K:eQ ds n E F a)(M:E.num=T.num):∀(parts:List (Nat × Operand)) (pl:List (Nat × Nat × aP)) (cs out:List PV) (vs:Array Value),
  T.partsOf place parts=some pl->rO cs F pl=some out->sO E cs vs->∃A,Instr.fill place vs (parts.map λ(i,x)=>(i,a.eval x))=some A/\sO E out A
 |[],pl,cs,out,vs,l,d,y=>by simp[Tbl.partsOf]at l;subst l;simp[rO]at d;subst d;exact⟨vs,rfl,y⟩
 |(i,x)::rest,pl,cs,out,vs,l,d,y=>by
  simp only[Tbl.partsOf]at l;split at l
  ·rename_i e size p ps hp V B;cases l;simp only[rO]at d;split at d
   ·rename_i v U;split at d
    ·rename_i Q;obtain⟨J,N,O⟩:=EL (bO V U K M) Q.2.2;obtain⟨A,g1,g2⟩:=UK K M rest ps _ out _ B d (sO.setCells v.cells (a.eval x).cells.toList e cs vs y (by simpa using J) N (λj q u R S=>O j q u R (by simpa using S)));refine⟨A,?_,g2⟩;simp only[biU,Instr.fill,hp];rw[aE (by simp;rw[J,y.1];omega)];have W:Array.foldl (λ(cs:Array Value)(x:Value × Nat)=>cs.setIfInBounds (e+x.2) x.1) vs (a.eval x).cells.zipIdx=ye vs e (a.eval x).cells.toList:=by rw[<-Array.foldl_toList,Array.toList_zipIdx];exact XZ e _ 0 vs
     exact W ▸ g1
    ·cases d
   ·cases d
  ·cases l
theorem ajN(e:Array Field)(d:List (Nat × Nat))(h:e.toList.mapM (λf=>(T.P.info? f.type).map λi=>(f.offset,i.size))=some d)(i:Nat) :
  d[i]?=T.place e i:=by
 have u:∀(l:List Field)(ps:List (Nat × Nat)) (i:Nat),l.mapM (λf=>(T.P.info? f.type).map λi=>(f.offset,i.size))=some ps ->
   ps[i]?=match l[i]? with|some f=>(T.size f.type).map (f.offset,·)|none=>none:=by
  intro l
  induction l with
  |nil=>intro ps i h;simp at h;subst h;simp
  |cons f l y=>
   intro ps i h;simp only[List.mapM_cons,Option.bind_eq_bind,Option.pure_def,blT]at h;obtain⟨p,hp,A,x,h⟩:=h;cases h;cases i with
   |zero =>simp only[List.getElem?_cons_zero,Tbl.size];rw[<-hp];cases T.P.info? f.type<;>rfl
   |succ i=>simpa using y A i x
 have:=u e.toList d i h;rw[this,Array.getElem?_toList];unfold Tbl.place;cases e[i]?<;>rfl
end
open Go Go.RowKit
section
variable {ds:List Deferred} {T:Tbl} {n:Nat} {E:Env} {F:PF} {H:PH} {a:Act} {w:World}
theorem nv{t:TypeId}{parts:Array (Nat × Operand)}{z:List PV}{pl:List (Nat × Nat × aP)}{out:List PV}(W:T.zero t=some z)
  (hp:(∃A:Array Field,T.P.underlying t=some (.struct A)/\(A.toList.mapM (λf=>(T.P.info? f.type).map λi=>(f.offset,i.size))).isSome=true/\T.partsOf (T.place A) parts.toList=some pl) \/
   (∃k e s,T.P.underlying t=some (.array k e)/\T.size e=some s/\T.partsOf (λi=>some (i*s,s)) parts.toList=some pl))
  (U:rO z F pl=some out) (R:eQ ds n E F a) (S:E.num=T.num) :
  ∃v,(Instr.build t (parts.map λ(i,x)=>(i,a.eval x))).run T.P w=.ok v w/\bM E (.agg out) v:=by
 obtain⟨Y,Z,B,J,M⟩:=ZO (E:=E) W;rcases hp with⟨A,Q,V,u⟩|⟨k,e,s,Q,hs,u⟩
 ·obtain⟨d,K⟩:=Option.isSome_iff_exists.1 V;obtain⟨y,N,l⟩:=UK R S _ _ _ _ _ u U M;refine⟨.agg y,run_build w t _ y ?_,.agg y l.1 l.2.1 l.2.2⟩;simp only[Program.built,B,Q,J,K];have O:(λ(x:Nat)=>d.toArray[x]?)=T.place A:=by funext i;rw[List.getElem?_toArray];exact ajN A d K i
  simp only[Array.toList_map];rw[O];exact N
 ·obtain⟨y,N,l⟩:=UK R S _ _ _ _ _ u U M;refine⟨.agg y,run_build w t _ y ?_,.agg y l.1 l.2.1 l.2.2⟩;unfold Tbl.size at hs;cases p:T.P.info? e with
  |none=>simp[p]at hs
  |some X =>simp[p]at hs;subst hs;simp only[Program.built,B,Q,J,p,Array.toList_map];exact N
theorem Ti{t:TypeId}{s:Nat}(h:T.size t=some s):∃i,T.P.info? t=some i/\i.size=s:=by
 unfold Tbl.size at h;cases hi:T.P.info? t with
 |none=>simp[hi]at h
 |some i=>exact⟨i,rfl,by simpa[hi]using h⟩
theorem mX{t:TypeId}{s:Nat}(h:T.size t=some s):(sizeOf t).run T.P w=.ok s w:=by
 obtain⟨i,hi,rfl⟩:=Ti h;simp[sizeOf,typeInfo,hi]
theorem HD{t:TypeId}{b:Bool}(h:T.isAgg t=some b):(isAgg t).run T.P w=.ok b w:=by
 unfold Tbl.isAgg at h;split at h
 ·rename_i e;cases h;simp[isAgg,run_underlying e]
 ·rename_i e;cases h;simp[isAgg,run_underlying e]
 ·rename_i d i l e;cases h;cases d<;>first
   |exact(i _ rfl).elim
   |exact(l _ _ rfl).elim
   |(simp[isAgg,run_underlying e];done)
 ·cases h
theorem Eg{t:TypeId}{pv d:PV}{v:Value}(p:T.isAgg t=some false)(hW:cB E H w)(x:bM E pv v)(h:loadCells H pv 1=some [d]) :
  ∃u,(Instr.loadAt t v).run T.P w=.ok u w/\bM E d u:=by
 obtain⟨b,y,rfl,-,A,i,B,e,l⟩:=uV hW x h
 match A,i with
 |[u],_ =>refine⟨u,?_,l 0 d u rfl rfl⟩;have:=e 0 u rfl;simp only[bkA]at this;simp[Instr.loadAt,Instr.sureAddr,loadVar,HD p,this]
theorem qf{t:TypeId}{k:Nat}{pv:PV}{cs:List PV}{v:Value}(M:T.isAgg t=some true)(K:T.size t=some k)(hW:cB E H w)(N:bM E pv v)(h:loadCells H pv k=some cs) :
  ∃u,(Instr.loadAt t v).run T.P w=.ok u w/\bM E (.agg cs) u:=by
 obtain⟨b,l,rfl,e,p,x,y,A,J⟩:=uV hW N h;have d:=run_loadCells_list (P:=T.P) w ⟨b,l,none⟩ p (λj u i=>by rw[add_plain];exact A j u i);refine⟨.agg p.toArray,?_,.agg p.toArray (by simp[x,e]) (by simpa using y) (λj q u B i=>J j q u B (by simpa using i))⟩;rw[x]at d;simp[Instr.loadAt,Instr.sureAddr,loadVar,HD M,mX K,d]
end
open Go Go.RowKit
section
variable {ds:List Deferred} {T:Tbl} {n:Nat} {E:Env} {F:PF} {H:PH} {a:Act} {w:World}
theorem De{t e:TypeId}(h:T.P.underlying t=some (.slice e)):T.P.elem t=e/\T.P.underlying t=some (.slice (T.P.elem t)):=by
 have:T.P.elem t=e:=by simp[Program.elem,h]
 exact⟨this,by rw[this];exact h⟩
theorem aFW{t e:TypeId}{k:Nat}(h:T.P.underlying t=some (.array k e)):T.P.elem t=e/\T.P.arrayLen t=k/\T.P.underlying t=some (.array (T.P.arrayLen t) (T.P.elem t)):=by
 have d:T.P.elem t=e:=by simp[Program.elem,h]
 have i:T.P.arrayLen t=k:=by simp[Program.arrayLen,h]
 exact⟨d,i,by rw[d,i];exact h⟩
theorem S1{cs:List PV}{b e:Nat}(h:bM E (.bK cs) (.pointer (some ⟨b,e,none⟩)))(d:Nat):bM E (.bK (cs.drop d)) (.pointer (some ⟨b,e+d,none⟩)):=by
 cases h with
 |bK u x l i p =>refine .bK (λj=>u (d+j)) rfl (λj pv hp=>?_) (λj=>i _) (λj pv hp=>p (d+j) pv (by rw[<-hp,blW]));have:=l (d+j) pv (by rw[<-hp,blW]);simp only at this ⊢;rw[<-this];congr 1;omega
theorem i6{cs:List PV}{v:Value}(h:bM E (.bK cs) v):∃b e,v=.pointer (some ⟨b,e,none⟩):=by
 cases h with
 |bK u d p l x=>rename_i i;exact⟨i.block,i.off,by rw[<-tJ d]⟩
theorem a2I{t e:TypeId}{s:Nat}{rows:P2_}{v:Value}{k:IntKind}{i:Int}{r:List PV}(S:T.P.underlying t=some (.slice e))(R:T.size e=some s)
  (U:bM E (.sl s rows) v) (J:0<=i) (l:rows[i.toNat]?=some r):∃u,(Instr.indexAt t v (.int k i)).run T.P w=.ok u w/\bM E (.bK r) u:=by
 obtain⟨K,M⟩:=De S;cases U with
 |sl u y A B N Q d=>
 rename_i V cap;have hlt:i.toNat<Z' rows:=by
  rcases biR i.toNat rows.length with h|h
  ·exact h
  ·rw[bjJ h]at l;cases l
 obtain⟨x,rfl,p,O⟩:=N (by intro h;subst h;simp at hlt);rw[tJ p];refine⟨.pointer (some ⟨x.block,x.off+i.toNat*s,none⟩),?_,?_⟩
 ·rw[run_indexAt_slice w t _ _ _ _ _ M,aG ⟨J,by omega⟩,K,mX R,Result.andThen_ok,add_plain]
 ·refine .bK (u i.toNat) rfl (λj pv hp=>?_) (λj=>Q _ _) (λj pv hp=>d i.toNat j pv (by simp[at2,l,hp]));simpa using O i.toNat j pv (by simp[at2,l,hp])
theorem aUU{t e:TypeId}{o s d len:Nat}{v:Value}{k:IntKind}{i:Int}(R:T.P.underlying t=some (.slice e))(O:T.size e=some s)
  (S:bM E (.osl o s d len) v) (K:0<=i) (hi:i<len):∃u,(Instr.indexAt t v (.int k i)).run T.P w=.ok u w/\bM E (.ptr o s (d+i.toNat) 0) u:=by
 obtain⟨M,N⟩:=De R;cases S with
 |osl hb Q l B J U A=>
 rename_i cap m p;have y:p.off=d*s:=by
  rcases l with h|h
  ·omega
  ·exact h
 have x:p=⟨o,d*s,none⟩:=by cases p;simp_all
 subst x;refine⟨_,?_,.ptr o s _ 0⟩;rw[run_indexAt_slice w t _ _ _ _ _ N,aG ⟨K,hi⟩,M,mX O,Result.andThen_ok,add_plain,<-bjC,bkA]
theorem D8{t e:TypeId}{k s:Nat}{v:Value}{M:IntKind}{i:Int}{p pv:PV}(K:T.P.underlying t=some (.array k e))(J:T.size e=some s)
  (l:bM E p v) (x:0<=i) (hi:i<k) (d:(∃o s0 r c,p=.ptr o s0 r c/\pv=.ptr o s0 r (c+i.toNat*s))\/(∃cs,p=.bK cs/\pv=.bK (cs.drop (i.toNat*s)))) :
  ∃u,(Instr.indexAt t v (.int M i)).run T.P w=.ok u w/\bM E pv u:=by
 obtain⟨y,A,B⟩:=aFW K;rcases d with⟨o,s0,r,c,rfl,rfl⟩|⟨cs,rfl,rfl⟩
 ·cases l;refine⟨_,?_,.ptr o s0 r _⟩;rw[run_indexAt_array w t _ _ _ B,A,aG ⟨x,hi⟩,y,mX J,Result.andThen_ok,add_plain,bkL]
 ·obtain⟨b,N,rfl⟩:=i6 l;refine⟨_,?_,S1 l _⟩;rw[run_indexAt_array w t _ _ _ B,A,aG ⟨x,hi⟩,y,mX J,Result.andThen_ok,add_plain]
theorem dy{t:TypeId}{p:Array Field}{f:Nat}{d:Field}{s:Nat}{v:Value}{l pv:PV}(A:T.P.underlying t=some (.struct p))(x:p[f]?=some d)(y:T.size d.type=some (s+1))
  (i:bM E l v) (e:(∃o s0 r c,l=.ptr o s0 r c/\pv=.ptr o s0 r (c+d.offset))\/(∃cs,l=.bK cs/\pv=.bK (cs.drop d.offset))) :
  ∃u,(Instr.fieldAt t v f).run T.P w=.ok u w/\bM E pv u:=by
 rcases e with⟨o,s0,r,c,rfl,rfl⟩|⟨cs,rfl,rfl⟩
 ·cases i;refine⟨_,?_,.ptr o s0 r _⟩;simp[Instr.fieldAt,run_underlying A,x,Instr.sureAddr,fieldPlace,mX y,add_plain,bkL]
 ·obtain⟨b,B,rfl⟩:=i6 i;refine⟨_,?_,S1 i _⟩;simp[Instr.fieldAt,run_underlying A,x,Instr.sureAddr,fieldPlace,mX y,add_plain]
theorem ajL{t:TypeId}{cs:Array Value}{k:Nat}{u:Value}(d:T.isAgg t=some false)(h:cs[k]?=some u):(part t cs k).run T.P w=.ok u w:=by
 simp[part,HD d,h]
theorem So{t:TypeId}{cs:Array Value}{k s:Nat}(e:T.isAgg t=some true)(d:T.size t=some s):(part t cs k).run T.P w=.ok (.agg (cs.extract k (k+s))) w:=by
 simp[part,HD e,mX d]
theorem X4{cs:List PV}{vs:Array Value}{k:Nat}{pv:PV}(e:vs.size=Z' cs)(d:∀(j:Nat) pv v,cs[j]?=some pv->vs[j]?=some v->bM E pv v)(h:cs[k]?=some pv) :
  ∃u,vs[k]?=some u/\bM E pv u:=by
 have hlt:k<Z' cs:=by
  rcases biR k cs.length with h'|h'
  ·exact h'
  ·rw[bjJ h']at h;cases h
 exact⟨vs[k]'Om,blN Om,d k pv _ h (blN Om)⟩
theorem X5{cs:List PV}{vs:Array Value}{k s:Nat}(p:vs.size=Z' cs)(e:∀v∈vs.toList,v.oneCell'=true)(i:∀(j:Nat) pv v,cs[j]?=some pv->vs[j]?=some v->bM E pv v)(h:k+s<=Z' cs) :
  bM E (.agg ((cs.drop k).take s)) (.agg (vs.extract k (k+s))):=by
 refine .agg _ (by simp;omega) (λv d=>e v ?_) (λj pv v hp d=>?_)
 ·simp only[Array.toList_extract]at d;exact List.mem_of_mem_drop (bmB d)
 ·rw[blL]at hp;split at hp
  ·rename_i l;rw[blW]at hp;refine i (k+j) pv v hp ?_;rw[Array.getElem?_extract]at d;split at d
   ·exact d
   ·cases d
  ·cases hp
theorem aMO{t:TypeId}{i:Array Field}{f:Nat}{d:Field}{cs:List PV}{v:Value}{pv:PV}(A:T.P.underlying t=some (.struct i))(l:i[f]?=some d)(p:T.isAgg d.type=some false)
  (J:bM E (.agg cs) v) (h:cs[d.offset]?=some pv):∃u,(Instr.field t v f).run T.P w=.ok u w/\bM E pv u:=by
 cases J with
 |agg vs x K y=>
 obtain⟨u,B,e⟩:=X4 x y h;exact⟨u,by simp[Instr.field,run_underlying A,l,asAgg,ajL p B],e⟩
theorem aFY{t:TypeId}{e:Array Field}{f:Nat}{d:Field}{cs:List PV}{s:Nat}{v:Value}(B:T.P.underlying t=some (.struct e))(l:e[f]?=some d)(p:T.isAgg d.type=some true)(A:T.size d.type=some s)
  (J:bM E (.agg cs) v) (h:d.offset+s<=Z' cs):∃u,(Instr.field t v f).run T.P w=.ok u w/\bM E (.agg ((cs.drop d.offset).take s)) u:=by
 cases J with
 |agg vs x i y=>exact⟨_,by simp[Instr.field,run_underlying B,l,asAgg,So p A],X5 x i y h⟩
theorem aHE{t e:TypeId}{k s:Nat}{g:Bool}{cs:List PV}{v:Value}{O:IntKind}{i:Int}{pv:PV}(J:T.P.underlying t=some (.array k e))(p:T.size e=some s)(y:T.isAgg e=some g)
  (N:bM E (.agg cs) v) (x:0<=i) (hi:i<k) (h:(if g then(if i.toNat*s+s<=cs.length then some (.agg ((cs.drop (i.toNat*s)).take s))else none)else cs[i.toNat*s]?)=some pv) :
  ∃u,(Instr.index t v (.int O i)).run T.P w=.ok u w/\bM E pv u:=by
 cases N with
 |agg vs A K B=>
 cases g with
 |true=>
  simp only[if_true]at h;split at h
  ·rename_i d;cases h;exact⟨_,by simp[Instr.index,asIntOf,run_underlying J,x,hi,mX p,So y p],X5 A K B d⟩
  ·cases h
 |false =>simp only[bjW,if_false]at h;obtain⟨u,M,l⟩:=X4 A B h;exact⟨u,by simp[Instr.index,asIntOf,run_underlying J,x,hi,mX p,ajL y M],l⟩
theorem aeD{t:TypeId}{l:List UInt8}{v:Value}{A:IntKind}{i:Int}{pv:PV}(x:T.P.underlying t=some .string)(y:bM E (.str l) v)(p:0<=i)(h:(l[i.toNat]?).map (λb=>PV.int .u8 b.toNat)=some pv) :
  ∃u,(Instr.index t v (.int A i)).run T.P w=.ok u w/\bM E pv u:=by
 cases y with
 |str s=>
 simp only[biE]at h;obtain⟨b,hb,rfl⟩:=h;have d:s[i.toNat]?=some b:=by
  have hlt:i.toNat<Z' s.data.toList:=by
   rcases biR i.toNat s.data.toList.length with h'|h'
   ·exact h'
   ·rw[bjJ h']at hb;cases hb
  have e:i.toNat<s.size:=by
   have B:Z' s.data.toList=s.size:=by rw[bkX];rfl
   omega
  rw[getElem?_pos s i.toNat e];rw[biD hlt]at hb;cases hb;rfl
 exact⟨_,by simp[Instr.index,asIntOf,run_underlying x,p,d],.int _ _⟩
theorem cf{x:Option Operand}{p:Option aP}{d m:Int}(e:T.opt x=some p)(h:bnd F d p=some m)(l:eQ ds n E F a)(u:E.num=T.num) :
  (x=none/\m=d)\/∃o k,x=some o/\a.eval o=.int k m:=by
 cases x with
 |none =>simp[Tbl.opt]at e;subst e;simp[bnd]at h;exact .inl ⟨rfl,h.symm⟩
 |some o=>
  simp only[Tbl.opt,biE]at e;obtain⟨q,y,rfl⟩:=e;simp only[bnd,blT]at h;obtain⟨pv,hp,hi⟩:=h;have r:=bO y hp l u;unfold PV.intOf at hi;split at hi
  ·cases hi;generalize i:a.eval o=ev at r;cases r;exact .inr ⟨o,_,rfl,i⟩
  ·cases hi
theorem pS{isS:Bool}{lo hi mx:Option Operand}{pl ph pm:Option aP}{len cap:Nat}{l h:Int}(O:T.opt lo=some pl)(N:T.opt hi=some ph)(d:T.opt mx=some pm)
  (K:bnd F 0 pl=some l) (J:bnd F len ph=some h) (B:len<=cap) (R:0<=l) (S:l<=h) (U:h<=len) (p:pm=none\/(hi≠none/\bnd F 0 pm=some h)) (e:eQ ds n E F a) (i:E.num=T.num) :
  ∃m,(Instr.sliceBounds isS len cap (lo.map a.eval) (hi.map a.eval) (mx.map a.eval)).run T.P w=.ok (l.toNat,h.toNat,m) w/\h.toNat<=m/\m<=cap:=by
 have A:=cf O K e i;have y:=cf N J e i;rcases p with rfl|⟨hne,bm⟩
 ·have u:mx=none:=by
   cases mx with
   |none=>rfl
   |some x =>simp only[Tbl.opt,biE]at d;obtain⟨q,-,Q⟩:=d;cases Q
  subst u;refine⟨cap,?_,by omega,bhV _⟩;rcases A with⟨rfl,rfl⟩|⟨ol,k1,rfl,e1⟩<;>rcases y with⟨rfl,rfl⟩|⟨oh,k2,rfl,e2⟩
  ·simp[Instr.sliceBounds]
  ·simp only[Instr.sliceBounds,Option.map_none,biP,e2,Sem.run_bind,Sem.run_pure,Result.andThen_ok,run_sliceBound w k2 h cap _ Om Om];rfl
  ·simp only[Instr.sliceBounds,Option.map_none,biP,e1,Sem.run_bind,Sem.run_pure,Result.andThen_ok,run_sliceBound w k1 l len _ Om Om];simp
  ·simp only[Instr.sliceBounds,Option.map_none,biP,e1,e2,Sem.run_bind,Sem.run_pure,Result.andThen_ok,run_sliceBound w k2 h cap _ Om Om,run_sliceBound w k1 l h.toNat _ Om Om]
 ·have km:=cf d bm e i;rcases km with⟨rfl,M⟩|⟨om,k3,rfl,e3⟩
  ·simp[Tbl.opt]at d;subst d;refine⟨cap,?_,by omega,bhV _⟩;rcases y with⟨rfl,rfl⟩|⟨oh,k2,rfl,e2⟩
   ·exact absurd rfl hne
   ·rcases A with⟨rfl,rfl⟩|⟨ol,k1,rfl,e1⟩
    ·simp only[Instr.sliceBounds,Option.map_none,biP,e2,Sem.run_bind,Sem.run_pure,Result.andThen_ok,run_sliceBound w k2 h cap _ Om Om];rfl
    ·simp only[Instr.sliceBounds,Option.map_none,biP,e1,e2,Sem.run_bind,Sem.run_pure,Result.andThen_ok,run_sliceBound w k2 h cap _ Om Om,run_sliceBound w k1 l h.toNat _ Om Om]
  ·rcases y with⟨rfl,rfl⟩|⟨oh,k2,rfl,e2⟩
   ·exact absurd rfl hne
   ·refine⟨h.toNat,?_,bhV _,by omega⟩;rcases A with⟨rfl,rfl⟩|⟨ol,k1,rfl,e1⟩
    ·simp only[Instr.sliceBounds,Option.map_none,biP,e2,e3,Sem.run_bind,Sem.run_pure,Result.andThen_ok,run_sliceBound w k3 h cap _ Om Om,run_sliceBound w k2 h h.toNat _ Om Om];rfl
    ·simp only[Instr.sliceBounds,Option.map_none,biP,e1,e2,e3,Sem.run_bind,Sem.run_pure,Result.andThen_ok,run_sliceBound w k3 h cap _ Om Om,run_sliceBound w k2 h h.toNat _ Om Om,run_sliceBound w k1 l h.toNat _ Om Om]
end
open Go Go.RowKit
section
variable {ds:List Deferred} {T:Tbl} {n:Nat} {E:Env} {F:PF} {H:PH} {a:Act} {w:World}
theorem atA{rows:P2_}{l h i j:Nat}{pv:PV}(e:at2 ((rows.take h).drop l) i j=some pv):at2 rows (l+i) j=some pv:=by
 unfold at2 at *
 rw[blW,blL]at e;split at e
 ·exact e
 ·simp at e
theorem DJ{t e:TypeId}{s l h m len cap:Nat}{d:Option Addr}{lo hi mx:Option Value}(p:T.P.underlying t=some (.slice e))(i:T.size e=some s)
  (hb:(Instr.sliceBounds true len cap lo hi mx).run T.P w=.ok (l,h,m) w) :
  (Instr.sliceAt t (.slice d len cap) lo hi mx).run T.P w=.ok (.slice (if m=l then d else d.map (·.add (l*s))) (h-l) (m-l)) w:=by
 simp[Instr.sliceAt,Instr.slice,run_underlying p,hb,mX i]
theorem QC {t e : TypeId} {s : Nat} {x : Value} {lo hi mx : Option Operand} {pl ph pm : Option aP} {len : Nat} {l h : Int} {px pv : PV} (ht : T.P.underlying t = some (.slice e)) (hs : T.size e = some s)
    (hl : T.opt lo = some pl) (hh : T.opt hi = some ph) (hm : T.opt mx = some pm) (hx : bM E px x) (bl : bnd F 0 pl = some l) (bh : bnd F len ph = some h)
    (hlen : (px = .aK /\ len = 0) \/ (∃ s0 rows, px = .sl s0 rows /\ len = rows.length) \/ (∃ o s0 off, px = .osl o s0 off len))
    (hpv : (pm = none /\ PV.slice s px l h none = some pv) \/ (hi ≠ none /\ ∃ m, bnd F 0 pm = some m /\ PV.slice s px l h (some m) = some pv)) (hA : eQ ds n E F a) (hN : E.num = T.num) :
    ∃ v, (Instr.sliceAt t x (lo.map a.eval) (hi.map a.eval) (mx.map a.eval)).run T.P w = .ok v w /\ bM E pv v := by
  have hP : ∃ m0, PV.slice s px l h m0 = some pv /\ (m0 = none -> pm = none) /\ ∀ m, m0 = some m -> hi ≠ none /\ bnd F 0 pm = some m := by
    rcases hpv with ⟨h1, h2⟩ | ⟨h1, m, h2, h3⟩
    · exact ⟨none, h2, fun _ => h1, fun m hm => by cases hm⟩
    · exact ⟨some m, h3, fun h => (by cases h), fun m' hm' => by cases hm'; exact ⟨h1, h2⟩⟩
  obtain ⟨m0, hP, hn, hsm⟩ := hP;rcases hlen with ⟨rfl, rfl⟩ | ⟨s0, rows, rfl, rfl⟩ | ⟨o, s0, off, rfl⟩
  · simp only [PV.slice] at hP
    split at hP
    · rename_i hc
      cases hP;obtain ⟨rfl, rfl, hm0⟩ := hc;cases hx;obtain ⟨m, hb, hm1, hm2⟩ := pS (T := T) (E := E) (w := w) (isS := true) (len := 0) (cap := 0) hl hh hm bl bh (bhV _) Om Om Om
        (by rcases hm0 with rfl | rfl
            · exact .inl (hn rfl)
            · exact .inr (hsm 0 rfl)) hA hN
      have hmz : m = 0 := Om;subst hmz;refine ⟨_, DJ ht hs hb, ?_⟩;simp;exact .aK
    · cases hP
  · simp only [PV.slice] at hP
    split at hP
    · rename_i hc
      cases hP;obtain ⟨rfl, h0, h1, h2, hm0⟩ := hc;cases hx with
      | sl u hcap bhI bgO ha ho bhK =>
      rename_i a0 cap;obtain ⟨m, hb, hm1, hm2⟩ := pS (T := T) (E := E) (w := w) (isS := true) (len := rows.length) (cap := cap) hl hh hm bl bh hcap h0 h1 h2
        (by rcases hm0 with rfl | rfl
            · exact .inl (hn rfl)
            · exact .inr (hsm h rfl)) hA hN
      refine ⟨_, DJ ht hs hb, ?_⟩;have hlen : ((rows.take h.toNat).drop l.toNat).length = h.toNat - l.toNat := by rw [bjZ, biI]; omega
      rw [<- hlen];refine .sl (fun i j => u (l.toNat + i) j) (by rw [hlen]; omega) Om (fun r hr => bgO r (bmB (List.mem_of_mem_drop hr))) (fun hne => ?_) (fun i j => ho _ _) (fun i j pv hp => bhK _ _ pv (atA hp));have hpos : 0 < ((rows.take h.toNat).drop l.toNat).length := List.length_pos_iff.2 hne;rw [hlen] at hpos;obtain ⟨ad, rfl, hsp, hc⟩ := ha (by intro e; subst e; simp at h2; omega);rw [aE Om];refine ⟨⟨ad.block, ad.off + l.toNat * s0, none⟩, ?_, rfl, fun i j pv hp => ?_⟩
      · rw [biP, tJ hsp, add_plain]
      · have := hc (l.toNat + i) j pv (atA hp)
        show E.cell ad.block (ad.off + l.toNat * s0 + i * s0 + j) = _;rw [<- this];congr 1;rw [bjC]; omega
    · cases hP
  · simp only [PV.slice] at hP
    split at hP
    · rename_i hc
      cases hP;obtain ⟨rfl, h0, h1, h2, hm0⟩ := hc;cases hx with
      | osl hb0 hsp bhL hlen bhI hnn bhC =>
      rename_i cap N ad;obtain ⟨m, hb, hm1, hm2⟩ := pS (T := T) (E := E) (w := w) (isS := true) (len := len) (cap := cap) hl hh hm bl bh hlen h0 h1 h2
        (by rcases hm0 with rfl | rfl
            · exact .inl (hn rfl)
            · exact .inr (hsm h rfl)) hA hN
      refine ⟨_, DJ ht hs hb, ?_⟩;by_cases hml : m = l.toNat
      · rw [aG hml]
        have e1 : h.toNat - l.toNat = 0 := Om;have e2 : m - l.toNat = 0 := Om;rw [e1, e2];refine .osl hb0 hsp (.inl rfl) (bhV _) (by simp [maxLen]) hnn ?_;have : (off + l.toNat) * s0 <= off * s0 + cap * s0 := by rw [bjC]; exact Nat.add_le_add_left (biX _ Om) _
        omega
      · rw [aE hml, biP, tJ hsp, add_plain]
        refine .osl hb0 rfl ?_ Om Om hnn ?_
        · rcases bhL with h | h
          · exact .inl Om
          · exact .inr (by simp only [h, bjC])
        · have : (off + l.toNat) * s0 + (m - l.toNat) * s0 <= off * s0 + cap * s0 := by rw [<- bjC, <- bjC];exact biX _ Om
          omega
    · cases hP
theorem Mr{t:TypeId}{x:Value}{lo hi:Option Operand}{pl ph:Option aP}{str:List UInt8}{l h:Int}(Q:T.P.underlying t=some .string)
  (M:T.opt lo=some pl) (K:T.opt hi=some ph) (R:bM E (.str str) x) (u:bnd F 0 pl=some l) (i:bnd F str.length ph=some h) (y:0<=l) (A:l<=h) (p:h<=Z' str)
  (B:eQ ds n E F a) (J:E.num=T.num) :
  ∃v,(Instr.sliceAt t x (lo.map a.eval) (hi.map a.eval) none).run T.P w=.ok v w/\bM E (.str ((str.take h.toNat).drop l.toNat)) v:=by
 cases R with
 |str s=>
 have d:Z' s.data.toList=s.size:=by rw[bkX];rfl
 rw[d]at i p;obtain⟨m,hb,N,O⟩:=pS (T:=T) (E:=E) (w:=w) (isS:=false) (len:=s.size) (cap:=s.size) (mx:=none) (pm:=none) M K rfl u i (bhV _) y A p (.inl rfl) B J;simp only[Option.map_none]at hb;refine⟨.string (s.extract l.toNat h.toNat),?_,?_⟩
 ·simp[Instr.sliceAt,Instr.slice,run_underlying Q,hb]
 ·have e:(s.data.toList.take h.toNat).drop l.toNat=(s.extract l.toNat h.toNat).data.toList:=by rw[Lib.extract_data,List.drop_take]
  rw[e];exact .str _
theorem A5(s:Nat):∀(n:Nat)(cs:List PV),(chunks s n cs).length=n
 |0,_=>rfl
 |n+1,cs=>by simp[chunks,A5 s n]
theorem A7{s:Nat}:∀{n:Nat}{cs:List PV},n*s<=Z' cs->∀r∈chunks s n cs,Z' r=s
 |0,_,_,r,hr=>by simp[chunks]at hr
 |n+1,cs,h,r,hr=>by
  rw[bjC,Nat.one_mul]at h;simp only[chunks,biG]at hr;rcases hr with rfl|hr
  ·rw[biI];omega
  ·exact A7 (by rw[bjZ];omega) r hr
theorem cr{s:Nat}:∀{n:Nat}{cs:List PV}{i j:Nat}{pv:PV},at2 (chunks s n cs) i j=some pv->cs[i*s+j]?=some pv
 |0,_,i,j,pv,h=>by simp[chunks,at2]at h
 |n+1,cs,0,j,pv,h=>by
  simp only[chunks,at2,List.getElem?_cons_zero,blG,blL]at h;split at h
  ·rw[Nat.zero_mul,biN];exact h
  ·cases h
 |n+1,cs,i+1,j,pv,h=>by have:=cr (n:=n) (cs:=cs.drop s) (i:=i) (j:=j) (pv:=pv) (by simpa[chunks,at2]using h);rw[blW]at this;rw[<-this];congr 1;rw[bjC];omega
theorem akV{t e:TypeId}{k s:Nat}{v:Value}{cs:List PV}(V:T.P.underlying t=some (.array k e))(U:T.size e=some s)(W:bM E (.bK cs) v)(N:k*s<=Z' cs)(O:k<=maxLen)(K:eQ ds n E F a)(M:E.num=T.num) :
  ∃u,(Instr.sliceAt t v none none none).run T.P w=.ok u w/\bM E (.sl s (chunks s k cs)) u:=by
 obtain⟨m,hb,Q,R⟩:=pS (T:=T) (E:=E) (w:=w) (F:=F) (a:=a) (n:=n) (isS:=false) (len:=k) (cap:=k) (lo:=none) (hi:=none) (mx:=none) (pl:=none) (ph:=none) (pm:=none) (l:=0) (h:=(k:Int)) rfl rfl rfl rfl rfl (bhV _) Om Om Om (.inl rfl) K M;simp only[Option.map_none,bjN,Int.toNat_zero]at hb;have A:m=k:=Om;subst A;cases W with
 |bK u p d J S=>
 rename_i x;refine⟨.slice (some x) m m,?_,?_⟩
 ·have X:(if m=0 then x else x.add (0*s))=x:=by
   split
   ·rfl
   ·rw[tJ p,add_plain];simp
  simp[Instr.sliceAt,run_underlying V,Instr.sureAddr,hb,mX U];intro _;rw[tJ p,add_plain];simp
 ·have B:=A5 s m cs;have y:bM E (.sl s (chunks s m cs)) (.slice (some x) (chunks s m cs).length m):=by refine .sl (λi j=>u (i*s+j)) (by rw[B];exact bhV _) O (A7 N) (λ_=>⟨x,rfl,p,λi j pv hp=>?_⟩) (λi j=>J _) (λi j pv hp=>S _ pv (cr hp));have:=d (i*s+j) pv (cr hp);rw[<-this];congr 1;omega
  rw[B]at y;exact y
theorem arA{e:TypeId}{x:Value}{i:PV}(hW:cB E H w)(J:bM E i x)(B:i.cells.all PV.one=true):Yields T.P E H w (Instr.box e x) (.bK i.cells):=by
 obtain⟨p,y,A⟩:=EL J B;obtain⟨l,u⟩:=hW.aZO x.cells e;refine⟨.pointer (some ⟨w.heap.size,0,none⟩),_,_,by simp[Instr.box,newVar,newRow],?_,l,u⟩;refine .bK (λj=>if h:j<x.cells.size then x.cells[j]else .int .i64 0) rfl (λj pv hp=>?_) (λj=>?_) (λj pv hp=>?_)
 ·have d:j<x.cells.size:=by
   rw[p];rcases biR j i.cells.length with h'|h'
   ·exact h'
   ·rw[bjJ h']at hp;cases hp
  simp[Env.cell,Env.add,upd,d]
 ·split
  ·rename_i d;exact y _ (Array.getElem_mem_toList d)
  ·rfl
 ·have d:j<x.cells.size:=by
   rw[p];rcases biR j i.cells.length with h'|h'
   ·exact h'
   ·rw[bjJ h']at hp;cases hp
  rw[dif_pos d];exact(A j pv _ hp (blN d)).mono u.env
end
open Go Go.RowKit
theorem DR{s:Nat}:∀(rows:P2_) (i j:Nat),(∀r∈rows,Z' r=s)->j<s->rows.flatten[i*s+j]?=at2 rows i j
 |[],i,j,_,_=>by simp[at2]
 |r::rows,i,j,h,l=>by
  have d:Z' r=s:=h r bH;rw[List.flatten_cons];cases i with
  |zero =>rw[bkE Om];simp[at2]
  |succ i=>
   rw[bkF (by rw[d,bkI];omega)];have e:(i+1)*s+j-Z' r=i*s+j:=by rw[d,bkI];omega
   rw[e,DR rows i j (λr d=>h r (by simp[d])) l];simp[at2]
theorem uH{s:Nat}:∀(rows:P2_),(∀r∈rows,Z' r=s)->Z' rows.flatten=Z' rows*s
 |[],_=>by simp
 |r::rows,h=>by rw[List.flatten_cons,bhW,uH rows (λr d=>h r (by simp[d])),h r bH,bjL,bkI];omega
theorem AB:∀(ps:List PV)(x y:List PV)(c:Nat),setCells (x++y) (Z' x+c) ps=x++setCells y c ps
 |[],x,y,c=>rfl
 |p::ps,x,y,c=>by simp only[setCells];rw[blC _ _ Om,Nat.add_sub_cancel_left];exact AB ps x _ (c+1)
theorem BW:∀(ps:List PV)(x y:List PV)(c:Nat),c+Z' ps<=Z' x->setCells (x++y) c ps=setCells x c ps++y
 |[],x,y,c,_=>rfl
 |p::ps,x,y,c,h=>by simp only[bjL]at h;simp only[setCells];rw[List.set_append_left _ _ Om];exact BW ps _ y (c+1) (by rw[bjO];omega)
theorem SQ:∀(ps x:List PV)(z:List PV),Z' x=Z' ps->setCells (z++x) z.length ps=z++ps
 |[],x,z,h=>by have:x=[]:=List.eq_nil_of_length_eq_zero (by simpa using h);subst this;rfl
 |p::ps,[],z,h=>by simp at h
 |p::ps,y::x,z,h=>by simp only[setCells];rw[blC _ _ (bhV _),bkR,blP];have:=SQ ps x (z++[p]) (by simpa using h);simp only[bhW,bjL,bkK,biY,List.cons_append,blM]at this;simpa using this
theorem p7{s:Nat}(ps:List PV)(d:Z' ps=s):∀(rows:P2_) (i:Nat),(∀r∈rows,Z' r=s)->i<Z' rows->(rows.set i ps).flatten=setCells rows.flatten (i*s) ps
 |[],i,_,h=>by simp at h
 |r::rows,i,h,hi=>by
  have e:Z' r=s:=h r bH;cases i with
  |zero =>rw[blP,List.flatten_cons,List.flatten_cons,Nat.zero_mul,BW _ _ _ _ Om];have:=SQ ps r [] Om;simp only[blM,bkK]at this;rw[this]
  |succ i =>rw[List.set_cons_succ,List.flatten_cons,List.flatten_cons,p7 ps d rows i (λr e=>h r (by simp[e])) (by simpa using hi)];have:=AB ps r rows.flatten (i*s);rw[<-this,e,bkI,Nat.add_comm]
section
variable {ds:List Deferred} {T:Tbl} {n:Nat} {E:Env} {F:PF} {H:PH} {a:Act} {w:World}
theorem SA{s:Nat}(R:eQ ds n E F a)(S:E.num=T.num):∀(parts:List (Nat × Operand)) (pl:List (Nat × aP)) (rows out:P2_) (vs:Array Value),
  T.zO parts=some pl->iY s rows F pl=some out->(∀r∈rows,Z' r=s)->sO E rows.flatten vs ->
  ∃J,Instr.fill (λi=>some (i*s,s)) vs (parts.map λ(i,x)=>(i,a.eval x))=some J/\sO E out.flatten J/\(∀r∈out,Z' r=s)/\Z' out=Z' rows
 |[],pl,rows,out,vs,e,d,l,B=>by simp[Tbl.zO]at e;subst e;simp[iY]at d;subst d;exact⟨vs,rfl,B,l,rfl⟩
 |(i,x)::rest,pl,rows,out,vs,e,d,l,B=>by
  simp only[Tbl.zO]at e;split at e
  ·rename_i p ps hx M;cases e;simp only[iY]at d;split at d
   ·rename_i v Z;split at d
    ·rename_i A;obtain⟨Q,U,V⟩:=EL (bO hx Z R S) A.2.2;have K:=p7 v.cells A.1 rows i l A.2.1;have y:=sO.setCells v.cells (a.eval x).cells.toList (i*s) _ vs B (by simpa using Q) U (λj q u X Y=>V j q u X (by simpa using Y));rw[<-K]at y;obtain⟨J,g1,g2,g3,g4⟩:=SA R S rest ps _ out _ M d (λr N=>by
      rcases blZ N with N|rfl
      ·exact l r N
      ·exact A.1) y
     refine⟨J,?_,g2,g3,by simpa using g4⟩;simp only[biU,Instr.fill];have O:vs.size=Z' rows*s:=by rw[B.1,uH rows l]
     have W:i*s+s<=Z' rows*s:=by have:(i+1)*s<=Z' rows*s:=biX _ A.2.1;rw[bkI]at this;exact this
     rw[aE (by simp;rw[Q,O];omega)];have hz:Array.foldl (λ(cs:Array Value)(x:Value × Nat)=>cs.setIfInBounds (i*s+x.2) x.1) vs (a.eval x).cells.zipIdx=ye vs (i*s) (a.eval x).cells.toList:=by rw[<-Array.foldl_toList,Array.toList_zipIdx];exact XZ (i*s) _ 0 vs
     exact hz ▸ g1
    ·cases d
   ·cases d
  ·cases e
theorem sO.a0F{z:List PV}{u:Array Value}{s len:Nat}(h:sO E z u)(J:Z' z=s)(B:0<s) :
  sO E (bhU len z).flatten ((Array.range (len*s)).map (u[·%u.size]!)):=by
 have l:∀r∈bhU len z,Z' r=s:=λr K=>by rw[(List.mem_replicate.1 K).2];exact J
 have i:u.size=s:=by rw[h.1,J]
 refine⟨by rw[uH _ l];simp,λv p=>?_,λk pv v hp p=>?_⟩
 ·simp only[Array.toList_map,biJ]at p;obtain⟨k,-,rfl⟩:=p;have A:k%u.size<u.size:=bjR _ Om;rw[getElem!_pos u _ A];exact h.2.1 _ (Array.getElem_mem_toList A)
 ·have y:k<len*s:=by
   rcases biR k (len*s)with h'|h'
   ·exact h'
   ·rw[Array.getElem?_eq_none (by simpa using h')]at p;cases p
  have d:k%s<s:=bjR _ B;have x:k/s<len:=(blD B).2 y;have A:k/s*s+k%s=k:=by rw[biW];exact blQ k s
  have e:=DR (bhU len z) (k/s) (k%s) l d;rw[A]at e;rw[e]at hp;simp only[at2,List.getElem?_replicate,x,if_true,blG]at hp;simp only[Array.getElem?_map,Array.getElem?_range,y,if_true,biP]at p;rw[getElem!_pos u _ (by rw[i];exact d)]at p;cases p;refine h.2.2 (k%s) pv _ (by simpa only [i]using hp) ?_;simp only[i];exact blN (by rw[i];exact d)
theorem ck{t e:TypeId}{s len:Nat}{z:List PV}{parts:Array (Nat × Operand)}{pl:List (Nat × aP)}{out:P2_}(X:T.P.underlying t=some (.slice e))(W:T.size e=some s)(hz:T.zero e=some z)
  (K:Z' z=s) (U:0<s) (d:T.zO parts.toList=some pl) (α:len*s<=16777216) (p:iY s (bhU len z) F pl=some out) (Y:eQ ds n E F a) (Z:E.num=T.num) :
  ∃u,(Instr.buildSlice t len (parts.map λ(i,x)=>(i,a.eval x))).run T.P w=.ok (.slice (some ⟨w.heap.size,0,none⟩) len len) (w.alloc (.cells u e))/\sO E out.flatten u/\(∀r∈out,Z' r=s)/\Z' out=len:=by
 obtain⟨i,zv,hi,M,S⟩:=ZO (E:=E) hz;obtain⟨i',B,l⟩:=Ti W;rw[hi]at B;cases B;have A:∀r∈bhU len z,Z' r=s:=λr hr=>by rw[(List.mem_replicate.1 hr).2];exact K
 obtain⟨u,g1,g2,g3,g4⟩:=SA Y Z parts.toList pl _ out _ d p A (S.a0F (len:=len) K U);rw[List.length_replicate]at g4;refine⟨u,?_,g2,g3,g4⟩;by_cases N:len=0
 ·subst N;have J:parts.toList=[]:=by
   cases Q:parts.toList with
   |nil=>rfl
   |cons x rest=>
    rw[Q]at d;obtain⟨i,y⟩:=x;simp only[Tbl.zO]at d;split at d
    ·cases d;simp only[iY]at p;split at p
     ·split at p
      ·rename_i hc;simp at hc
      ·cases p
     ·cases p
    ·cases d
  rw[J]at g1;simp only[bjP,Instr.fill,Nat.zero_mul]at g1;have:u=#[]:=by have V:=g2.1;rw[uH out g3,g4,Nat.zero_mul]at V;exact Array.eq_empty_of_size_eq_zero V
  subst this;have O:parts=#[]:=by apply Array.ext';simpa using J
  subst O;have R:Array.range 0=#[]:=by apply Array.ext';simp
  simp[Instr.buildSlice,run_underlying X,mX W,Instr.fill,newRow,R]
 ·refine run_buildSlice w t e len _ u i zv X hi M (by rw[l];omega) (by rw[l];exact Nat.ne_of_gt (Nat.mul_pos Om U)) ?_;rw[l,Array.toList_map];exact g1
theorem Ka{t e:TypeId}{s len:Nat}{z:List PV}{parts:Array (Nat × Operand)}{pl:List (Nat × aP)}{out:P2_}(Y:T.P.underlying t=some (.slice e))(X:T.size e=some s)(Z:T.zero e=some z)
  (O:Z' z=s) (Q:0<s) (N:T.zO parts.toList=some pl) (M:len*s<=16777216) (W:iY s (bhU len z) F pl=some out) (S:eQ ds n E F a) (U:E.num=T.num) (hW:cB E H w) :
  Yields T.P E H w (Instr.buildSlice t len (parts.map λ(i,x)=>(i,a.eval x))) (.sl s out):=by
 obtain⟨u,A,K,l,p⟩:=ck (w:=w) Y X Z O Q N M W S U;obtain⟨J,R⟩:=hW.aZO u e;refine⟨_,_,_,A,?_,J,R⟩;rw[<-p];have V:∀i j pv,at2 out i j=some pv->j<s:=λi j pv hp=>by
  unfold at2 at hp;cases y:out[i]? with
  |none=>simp[y]at hp
  |some r=>
   rw[y,blG]at hp;have:=l r (bjQ y);rcases biR j r.length with h'|h'
   ·omega
   ·rw[bjJ h']at hp;cases hp
 have d:∀i j pv,at2 out i j=some pv->∃h:i*s+j<u.size,bM E pv u[i*s+j]:=λi j pv hp=>by
  have B:=DR out i j l (V i j pv hp);rw[hp]at B;have hlt:i*s+j<u.size:=by
   rw[K.1];rcases biR (i*s+j) out.flatten.length with h'|h'
   ·exact h'
   ·rw[bjJ h']at B;cases B
  exact⟨hlt,K.2.2 _ pv _ B (blN hlt)⟩
 refine .sl (λi j=>if h:i*s+j<u.size then u[i*s+j]else .int .i64 0) (bhV _) ?_ l (λ_=>⟨_,rfl,rfl,λi j pv hp=>?_⟩) (λi j=>?_) (λi j pv hp=>?_)
 ·have:Z' out*1<=Z' out*s:=bkH _ Q;simp only[maxLen];rw[p]at this ⊢;omega
 ·obtain⟨hlt,-⟩:=d i j pv hp;simp[Env.cell,Env.add,upd,hlt]
 ·split
  ·rename_i hlt;exact K.2.1 _ (Array.getElem_mem_toList hlt)
  ·rfl
 ·obtain⟨hlt,y⟩:=d i j pv hp;rw[dif_pos hlt];exact y.mono R.env
end
open Go Go.RowKit
section
variable {T:Tbl} {n:Nat} {E:Env} {F:PF} {H:PH} {a:Act} {w:World}
theorem Hz{s:Nat}{pv:PV}{v:Value}{rows:P2_}(hW:cB E H w)(Z:bM E pv v)(h:eA H s pv=some rows) :
  ∃p cap,v=.slice p rows.length cap/\Z' rows<=cap/\(∀r∈rows,Z' r=s)/\(rows≠[]->∃b d,p=some ⟨b,d,none⟩ /\
   ∀i j q,at2 rows i j=some q->∃u,w.cell? ⟨b,d+(i*s+j),none⟩=some u/\u.oneCell'=true/\bM E q u):=by
 unfold eA at h;split at h
 ·cases h;cases Z;exact⟨none,0,rfl,bhV _,by simp,λh=>absurd rfl h⟩
 ·rename_i s0 rs;split at h
  ·rename_i e;subst e;cases h;cases Z with
   |sl u B J l ha U X=>
   rename_i a0 cap;refine⟨a0,cap,rfl,B,l,λA=>?_⟩;obtain⟨p,rfl,M,R⟩:=ha A;refine⟨p.block,p.off,by rw[<-tJ M],λi j q x=>⟨u i j,?_,U i j,X i j q x⟩⟩;have:=hW.atT (R i j q x);rw[<-this];congr 2;omega
  ·cases h
 ·rename_i o s0 d len;split at h
  ·rename_i e;subst e;split at h
   ·rename_i s' rs U;split at h
    ·rename_i R;cases h;obtain⟨rfl,γ⟩:=R;obtain⟨hlt,O,ty,hh,δ,l,α,y⟩:=hW.h o _ U;cases Z with
     |osl hb M K S J hn Y=>
     rename_i cap N p;have hl:((rs.drop d).take len).length=len:=by rw[biI,bjZ];omega
     refine⟨some p,cap,by rw[hl],by omega,λr X=>l r (List.mem_of_mem_drop (bmB X)),λA=>?_⟩;have β:0<((rs.drop d).take len).length:=List.length_pos_iff.2 A;have V:p.off=d*s':=by
      rcases K with h|h
      ·omega
      ·exact h
     have Q:p=⟨o,d*s',none⟩:=by cases p;simp_all
     subst Q;refine⟨o,d*s',rfl,λi j q x=>?_⟩;have W:at2 rs (d+i) j=some q:=by
      unfold at2 at x ⊢;rw[blL]at x;split at x
      ·rw[blW]at x;exact x
      ·simp at x
     obtain⟨u,h1,h2,h3⟩:=y (d+i) j q W;refine⟨u,?_,h2,h3⟩;rw[cell_of_row w o _ O ty (0,0) hh,<-h1];congr 1;rw[bjC];omega
    ·cases h
   ·cases h
  ·cases h
 ·cases h
theorem be:∀{rows:P2_}{l:List UInt8},jU rows=some l->∃ns:List Int,rows=ns.map (λn=>[PV.int .u8 n])/\l=ns.map λn=>UInt8.ofNat n.toNat
 |[],l,h=>by simp[jU]at h;exact⟨[],by simp[h]⟩
 |r::rows,l,h=>by
  unfold jU at h;split at h
  ·exact⟨[],by simp at *⟩
  ·rename_i m rest d;cases d;simp only[biE]at h;obtain⟨u,e,rfl⟩:=h;obtain⟨ns,i,p⟩:=be e;exact⟨m::ns,by simp[i],by simp[p]⟩
  ·cases h
theorem Aj{src dst e:TypeId}{pv:PV}{v:Value}{rows:P2_}{l:List UInt8}(B:T.P.underlying src=some (.slice e))(A:T.P.underlying e=some (.int .u8))(y:T.P.underlying dst=some .string)
  (hW:cB E H w) (V:bM E pv v) (U:eA H 1 pv=some rows) (hb:jU rows=some l):∃u,(convert src dst v).run T.P w=.ok u w/\bM E (.str l) u:=by
 obtain⟨O,cap,rfl,M,N,d⟩:=Hz hW V U;obtain⟨ns,rfl,rfl⟩:=be hb;by_cases p:ns=[]
 ·subst p;refine⟨.string ByteArray.empty,?_,bM.str ByteArray.empty⟩;cases O with
  |none=>exact run_convert_bytes_nil w src e B A _ _ dst y
  |some x =>rw[run_convert_bytes_string w src dst e _ _ _ B A y];have:=run_bytesToString (P:=T.P) w x 0 cap [] (by simp[Go.loadCells,Go.loadCellsFrom]);simpa using this
 ·obtain⟨b,J,rfl,R⟩:=d (by simpa using p);have S:(ns.map λn=>[PV.int .u8 n]).length=Z' ns:=by simp
  refine⟨.string (strOfNums ns),?_,?_⟩
  ·rw[S];refine run_convert_bytes_arg w src e B A b J ns.length cap ns rfl (λi hi=>?_) dst y;obtain⟨u,K,W,Q⟩:=R i 0 (.int .u8 ns[i]) (by simp[at2,hi]);cases Q;simp only[blB,bkA]at K;rw[K];simp[List.getD,hi]
  ·have:=bM.str (E:=E) (strOfNums ns);rw[strOfNums_data]at this;exact this
theorem fU.len{ps:List PV}{vs:List Value}(h:fU E ps vs):Z' vs=Z' ps:=by
 induction h with
 |nil=>rfl
 |cons _ _ d=>simp[d]
theorem fU.at_{ps:List PV}{vs:List Value}(h:fU E ps vs):∀(j:Nat) p v,ps[j]?=some p->vs[j]?=some v->bM E p v:=by
 induction h with
 |nil=>intro j p v hp;simp at hp
 |cons h _ e=>
  intro j p v hp d;cases j with
  |zero=>simp at hp d;subst hp;subst d;exact h
  |succ j=>exact e j p v (by simpa using hp) (by simpa using d)
theorem fU.mono{d:Env}(e:E.le d){ps:List PV}{vs:List Value}(h:fU E ps vs):fU d ps vs:=by
 induction h with
 |nil=>exact .nil
 |cons h _ i=>exact .cons (h.mono e) i
def POp.uA:POp->Bool
 | .call .. | .bhF ..=>true
 |_=>false
theorem AH{P:Program}{o:Oper}{s:Sem Value}{v:Value}{w d:World}(h:execOp a.eval o=(do pure (.value (<-s)):Sem Next))(e:s.run P w=.ok v d):(execOp a.eval o).run P w=.ok (.value v) d:=by
 rw[h];simp[e]
end
open Go Go.RowKit
def KSh.desc:KSh->TypeDesc
 | .int k=>.int k
 | .bool=>.bool
 | .str=>.string
def KSh.sc:KSh->Sc
 | .int _=>.int
 | .bool=>.bool
 | .str=>.str
def KS.pv:KS->PV
 | .int k n=>.int k n
 | .bool b=>.bool b
 | .str s=>.str s
section
variable {T:Tbl} {n:Nat} {E:Env} {F:PF} {H:PH} {a:Act} {w:World}
theorem J9{α:Type}[BEq α][LawfulBEq α][DecidableEq α](a b:α):(a==b)=decide (a=b):=by
 by_cases h:a=b<;>simp[h]
theorem KS.aON{pv:PV}{v:Value}{k:KS}(h:bM E pv v)(d:KS.of pv=some k):v=k.val:=by
 unfold KS.of at d;split at d<;>cases d<;>cases h
 ·rfl
 ·rfl
 ·simp[KS.val]
theorem KS.a7F(k:KS):bM E k.pv k.val:=by
 cases k with
 |int k n=>exact .int k n
 |bool b=>exact .bool b
 |str s =>have:=bM.str (E:=E) ⟨s.toArray⟩;simpa[KS.pv,KS.val]using this
theorem KS.azT:∀{ps:List PV}{e:List KS}{vs:List Value},KS.ofs ps=some e->Z' vs=Z' ps->(∀(j:Nat) p v,ps[j]?=some p->vs[j]?=some v->bM E p v)->vs=e.map KS.val
 |[],e,vs,h,d,_=>by simp[KS.ofs]at h;subst h;simp at d;subst d;rfl
 |p::ps,e,vs,h,d,i=>by
  simp only[KS.ofs]at h;split at h
  ·rename_i k B l A;cases h;cases vs with
   |nil=>simp at d
   |cons v vs =>have e2:=KS.azT (vs:=vs) A (by simpa using d) λj q u x y=>i (j+1) q u (by simpa using x) (by simpa using y);rw[KS.aON (i 0 p v rfl rfl) l,e2];rfl
  ·cases h
theorem Qk{sh:MSh}{pv:PV}{v:Value}{k:List KS}(h:bM E pv v)(e:keyOf sh pv=some k):v=kR sh k/\k.map KS.sh=sh.2/\(sh.1=false->∃s,k=[s]):=by
 obtain⟨b,l⟩:=sh;unfold keyOf at e;split at e
 ·rename_i cs hb;simp only at hb;subst hb;simp only[blT]at e;obtain⟨M,i,d⟩:=e;split at d
  ·rename_i A;cases d;cases h with
   |agg vs J B K=>
   refine⟨?_,A,by simp⟩;have:=KS.azT (vs:=vs.toList) i (by simpa using J) λj p u x y=>K j p u x (by simpa using y);simp only[kR,if_true,Value.agg.injEq];rw[<-this]
  ·cases d
 ·rename_i v' hb;simp only at hb;subst hb;simp only[blT]at e;obtain⟨s,i,d⟩:=e;split at d
  ·rename_i A;cases d;exact⟨by simp[kR,KS.aON h i],by simpa using A,λ_=>⟨s,rfl⟩⟩
  ·cases d
 ·cases e
theorem BD{t:TypeId}{s:KSh}(h:T.IH t=some s):T.P.underlying t=some s.desc/\T.scalar t=some s.sc:=by
 unfold Tbl.IH at h;unfold Tbl.scalar;split at h<;>cases h<;>(rename_i d;rw[d];exact⟨rfl,rfl⟩)
theorem asC{s:KSh}{x y:KS}(e:x.sh=s)(d:y.sh=s):Instr.sameNow s.desc x.val y.val=some (decide (x=y)):=by
 subst e;cases x<;>cases y<;>simp[KS.sh]at d
 ·subst d;simp[KSh.desc,KS.sh,KS.val,Instr.sameNow];exact J9 _ _
 ·simp[KSh.desc,KS.sh,KS.val,Instr.sameNow];exact J9 _ _
 ·rename_i a b;simp only[KSh.desc,KS.sh,KS.val,Instr.sameNow,bjV.injEq,KS.str.injEq];rw[beq_toListBytes,ByteArray.toList_eq,ByteArray.toList_eq];simp;exact J9 _ _
theorem Ed:∀{d:List Field}{k:Nat}{l:List KSh},T.qC k d=some l->T.yV k d=some (l.map KSh.sc)
 |[],k,l,h=>by simp[Tbl.qC]at h;subst h;rfl
 |f::d,k,l,h=>by
  simp only[Tbl.qC]at h;split at h
  ·rename_i c cs e i;split at h
   ·rename_i p;cases h;simp only[Tbl.yV,(BD e).2,Ed i];rw[aG p];rfl
   ·cases h
  ·cases h
theorem aMM:∀{l:List KSh}{xs ys:List KS},xs.map KS.sh=l->ys.map KS.sh=l->PV.eqs (l.map KSh.sc) (xs.map KS.pv) (ys.map KS.pv)=some (decide (xs=ys))
 |[],xs,ys,d,i=>by simp at d i;subst d;subst i;simp[PV.eqs]
 |s::l,xs,ys,d,i=>by
  cases xs with
  |nil=>simp at d
  |cons x xs=>
  cases ys with
  |nil=>simp at i
  |cons y ys=>
  simp only[biU,List.cons.injEq]at d i;have A:PV.eq1 s.sc x.pv y.pv=some (decide (x=y)):=by
   obtain⟨u,-⟩:=d;obtain⟨p,-⟩:=i;subst u;cases x<;>cases y<;>simp[KS.sh]at p
   ·subst p;simp[KSh.sc,KS.sh,KS.pv,PV.eq1];exact J9 _ _
   ·simp[KSh.sc,KS.sh,KS.pv,PV.eq1];exact J9 _ _
   ·simp[KSh.sc,KS.sh,KS.pv,PV.eq1];exact J9 _ _
  simp only[biU,PV.eqs,A];by_cases e:x=y
  ·subst e;simp only[decide_true,aMM d.2 i.2];simp
  ·simp only[e,decide_false,bhO];have B:Z' xs=Z' l:=by rw[<-d.2];simp
   have J:Z' ys=Z' l:=by rw[<-i.2];simp
   rw[aG ⟨B,J⟩];simp[e]
theorem aMN{t:TypeId}{p:Array Field}{l:List KSh}(B:T.P.underlying t=some (.struct p))(hp:T.P.stoodInHeld t=false)(N:T.qC 0 p.toList=some l){x y:List KS}(O:x.map KS.sh=l)(Q:y.map KS.sh=l) :
  (Op.equal t (kR (true,l) x) (kR (true,l) y)).run T.P w=.ok (decide (x=y)) w:=by
 have e:T.P.fieldsOf t=p:=by simp[Program.fieldsOf,B]
 have J:∀(z:List KS)(j:Nat) q u,(z.map KS.pv)[j]?=some q->(z.map KS.val).toArray[0+j]?=some u->bM (E:=⟨λ_=>none,λ_=>none,λ_=>0⟩) q u:=by intro z j q u d A;simp only[biL,biE,biN,List.getElem?_toArray]at d A;obtain⟨k,M,rfl⟩:=d;obtain⟨R,i,rfl⟩:=A;rw[M]at i;cases i;exact KS.a7F k
 have K:=dp (w:=w) 9998 (x.map KS.val).toArray (y.map KS.val).toArray p.toList (l.map KSh.sc) 0 (x.map KS.pv) (y.map KS.pv) _ (Ed N) (aMM O Q) (J x) (J y) bH bH;have d:=run_equalIn_struct w 9999 t (x.map KS.val).toArray (y.map KS.val).toArray (by rw[e];exact B) hp;rw[e,K]at d;simpa[Op.equal,Op.maxDepth,kR]using d
def Found(L:List (List KS × PV))(e:List MapEntry)(k:List KS)(i:Nat)(r:Option (Nat × Value)):Prop:=
 match tN k L i with
 |none=>r=none
 |some (j,pv)=>∃d:MapEntry,i<=j/\e[j-i]?=some d/\L[j-i]?=some (k,pv)/\r=some (j,d.val)
theorem Found.next{L:List (List KS × PV)}{l:List MapEntry}{k:List KS}{i:Nat}{r:Option (Nat × Value)}{e:List KS × PV}{p:MapEntry}(h:Found L l k (i+1) r)(d:e.1≠k):Found (e::L) (p::l) k i r:=by
 unfold Found at h ⊢;simp only[tN,aE d];split at h
 ·exact h
 ·rename_i j pv J;obtain⟨x,B,u,y,A⟩:=h;refine⟨x,by omega,?_,?_,A⟩
  ·rw[show j-i=(j-(i+1))+1 by omega];exact u
  ·rw[show j-i=(j-(i+1))+1 by omega];exact y
theorem Found.here{L:List (List KS × PV)}{p:List MapEntry}{k:List KS}{i:Nat}{e:List KS × PV}{d:MapEntry}(l:e.1=k):Found (e::L) (d::p) k i (some (i,d.val)):=by
 unfold Found;simp only[tN,aG l];refine⟨d,bhV _,by simp,?_,rfl⟩;subst l;simp
def zL(sh:MSh)(L:List (List KS × PV))(l:List MapEntry):Prop:=
 l.length=Z' L/\∀(i:Nat) e d,L[i]?=some e->l[i]?=some d->e.1.map KS.sh=sh.2/\d.key=kR sh e.1
theorem zL.tail{sh:MSh}{e:List KS × PV}{L:List (List KS × PV)}{l:MapEntry}{d:List MapEntry}(h:zL sh (e::L) (l::d)):zL sh L d:=
 ⟨by simpa using h.1,λi x y a b=>h.2 (i+1) x y (by simpa using a) (by simpa using b)⟩
theorem p5{s:KSh}{x:KS}(A:x.sh=s):∀{L:List (List KS × PV)}{d:List MapEntry}{i:Nat},zL (false,[s]) L d->∃r,Instr.findNow s.desc x.val d i=some r/\Found L d [x] i r
 |[],d,i,h=>by
  have:d=[]:=by simpa using h.1
  subst this;exact⟨none,rfl,rfl⟩
 |e::L,d,i,h=>by
  cases d with
  |nil=>have:=h.1;simp at this
  |cons u d=>
  obtain⟨p,J⟩:=h.2 0 e u rfl rfl;obtain⟨B,N⟩:=e;cases B with
  |nil=>simp at p
  |cons y ys=>
   simp only[biU,List.cons.injEq,List.map_eq_nil_iff]at p;obtain⟨M,rfl⟩:=p;have K:u.key=y.val:=by rw[J];rfl
   simp only[Instr.findNow,K,asC A M];by_cases l:x=y
   ·subst l;simp only[decide_true];exact⟨_,rfl,Found.here rfl⟩
   ·simp only[l,decide_false];obtain⟨r,g1,g2⟩:=p5 A (i:=i+1) h.tail;exact⟨r,g1,g2.next (by simp;exact λe=>l e.symm)⟩
theorem SB{t:TypeId}{u:Array Field}{l:List KSh}(A:T.P.underlying t=some (.struct u))(hp:T.P.stoodInHeld t=false)(y:T.qC 0 u.toList=some l){x:List KS}(B:x.map KS.sh=l) :
  ∀{L:List (List KS × PV)}{d:List MapEntry}{i:Nat},zL (true,l) L d->∃r,(Instr.findAsking t (kR (true,l) x) d i).run T.P w=.ok r w/\Found L d x i r
 |[],d,i,h=>by
  have:d=[]:=by simpa using h.1
  subst this;exact⟨none,rfl,rfl⟩
 |e::L,d,i,h=>by
  cases d with
  |nil=>have:=h.1;simp at this
  |cons J d=>
  obtain⟨K,M⟩:=h.2 0 e J rfl rfl;simp only[Instr.findAsking,Sem.run_bind,M,aMN A hp y B K,Result.andThen_ok];by_cases p:x=e.1
  ·subst p;simp only[decide_true,if_true,Sem.run_pure];exact⟨_,rfl,Found.here rfl⟩
  ·simp only[p,decide_false,bjW,if_false];obtain⟨r,g1,g2⟩:=SB A hp y B (i:=i+1) h.tail;exact⟨r,g1,g2.next (λe=>p e.symm)⟩
theorem SE{t:TypeId}{sh:MSh}(h:T.qR t=some sh):(∃s,sh=(false,[s])/\T.IH t=some s)\/(∃d l,sh=(true,l)/\T.P.underlying t=some (.struct d)/\T.P.stoodInHeld t=false/\T.qC 0 d.toList=some l):=by
 unfold Tbl.qR at h;split at h
 ·rename_i d p;split at h
  ·rename_i hp;simp only[biE]at h;obtain⟨l,e,rfl⟩:=h;exact .inr ⟨d,l,rfl,p,hp,e⟩
  ·cases h
 ·simp only[biE]at h;obtain⟨s,i,rfl⟩:=h;exact .inl ⟨s,rfl,i⟩
theorem bf{t:TypeId}{sh:MSh}(y:T.qR t=some sh){k:List KS}(p:k.map KS.sh=sh.2){L:List (List KS × PV)}{d:List MapEntry}(h:zL sh L d) :
  ∃r,(Instr.findKey t (kR sh k) d).run T.P w=.ok r w/\Found L d k 0 r:=by
 rcases SE y with⟨s,rfl,B⟩|⟨fs,l,rfl,hu,hp,hl⟩
 ·have A:=(BD B).1;cases k with
  |nil=>simp at p
  |cons x xs =>simp only[biU,List.cons.injEq,List.map_eq_nil_iff]at p;obtain⟨K,rfl⟩:=p;obtain⟨r,g1,g2⟩:=p5 K (i:=0) h;refine⟨r,?_,g2⟩;have J:kR (false,[s]) [x]=x.val:=rfl;simp only[Instr.findKey,Sem.run_bind,run_underlying A,Result.andThen_ok,J,g1,Sem.run_pure]
 ·obtain⟨r,g1,g2⟩:=SB (w:=w) hu hp hl p (i:=0) h;cases d with
  |nil=>
   have:L=[]:=by simpa using h.1.symm
   subst this;refine⟨none,?_,rfl⟩;simp[Instr.findKey,run_underlying hu,Instr.findNow]
  |cons e d=>
   refine⟨r,?_,g2⟩;have u:Instr.findNow (.struct fs) (kR (true,l) k) (e::d) 0=none:=by simp[Instr.findNow,Instr.sameNow,kR]
   simp only[Instr.findKey,Sem.run_bind,run_underlying hu,Result.andThen_ok,u];exact g1
theorem og{t:TypeId}{s:KSh}(e:T.IH t=some s)(em:Bool)(d:Nat)(x:KS):(Instr.checkKey em (d+1) t x.val).run T.P w=.ok () w:=by
 have i:=(BD e).1;simp only[Instr.checkKey,Sem.run_bind,run_underlying i,Result.andThen_ok];cases s<;>cases x<;>rfl
theorem RW{t:TypeId}{sh:MSh}(A:T.qR t=some sh){k:List KS}(p:k.map KS.sh=sh.2)(em:Bool):(Instr.checkKey em 10000 t (kR sh k)).run T.P w=.ok () w:=by
 rcases SE A with⟨s,rfl,e⟩|⟨d,l,rfl,hu,hp,hl⟩
 ·cases k with
  |nil=>simp at p
  |cons x xs =>simp only[biU,List.cons.injEq,List.map_eq_nil_iff]at p;obtain⟨O,rfl⟩:=p;exact og e em 9999 x
 ·simp only[kR,if_true];obtain⟨m,U⟩:∃m:Nat,m=9999:=⟨_,rfl⟩;rw[show(10000:Nat)=m+1 by omega];simp only[Instr.checkKey,Sem.run_bind,run_underlying hu,Result.andThen_ok];rw[<-Array.forIn_toList];have B:∀(d:List Field)(l:List KSh)(j:Nat),T.qC j d=some l->(∀(i:Nat) s,l[i]?=some s->∃x:KS,(k.map KS.val).toArray[j+i]?=some x.val) ->
    (forIn d PUnit.unit (λf (_:PUnit)=>(do
     if f.name≠"_" then
      Instr.checkKey em m f.type (<-part f.type (k.map KS.val).toArray f.offset)
      pure (ForInStep.yield PUnit.unit)
     else pure (ForInStep.yield PUnit.unit):Sem (ForInStep PUnit)))).run T.P w=.ok PUnit.unit w:=by
   intro d
   induction d with
   |nil=>intro l j _ _;simp
   |cons f d S=>
    intro l j h N;simp only[Tbl.qC]at h;split at h
    ·rename_i c cs J Q;split at h
     ·rename_i K;cases h;obtain⟨x,O⟩:=N 0 c rfl;simp only[List.forIn_cons,Sem.run_bind,Sem.run_ite];rw[aG K.1];have u:=XK (w:=w) (BD J).2 (k.map KS.val).toArray f.offset x.val (by rw[K.2];simpa using O);simp only[Sem.run_bind,u,Result.andThen_ok];rw[show m=9998+1 by omega,og J em 9998 x,<-show m=9998+1 by omega];simp only[Result.andThen_ok,Sem.run_pure];exact S cs (j+1) Q λi s e=>by obtain⟨y,R⟩:=N (i+1) s (by simpa using e);exact⟨y,by rw[show j+1+i=j+(i+1) by omega];exact R⟩
     ·cases h
    ·cases h
  have:=B d.toList l 0 hl λi s e=>by
   have M:Z' k=Z' l:=by rw[show l=k.map KS.sh from p.symm];simp
   have hi:i<Z' l:=(biZ.1 e).1;exact⟨k[i],by simp[show i<k.length by omega]⟩
  simp at this ⊢;rw[this];rfl
theorem arQ{L:List (List KS × PV)}{l:List MapEntry}{k:List KS}{r:Option (Nat × Value)}(h:Found L l k 0 r)(B:∀(i:Nat)(e:List KS × PV)(d:MapEntry),L[i]?=some e->l[i]?=some d->bM E e.2 d.val) :
  (mapOf L k=none/\r=none)\/∃j pv v,mapOf L k=some pv/\r=some (j,v)/\bM E pv v:=by
 unfold Found at h;unfold mapOf;split at h
 ·rename_i A;exact .inl ⟨by rw[A];rfl,h⟩
 ·rename_i j pv y;obtain⟨d,-,p,u,x⟩:=h;exact .inr ⟨j,pv,d.val,by rw[y];rfl,x,B _ _ d u p⟩
theorem aeS{t Y Q:TypeId}{sh:MSh}{l:TypeInfo}{z:Value}{W Z:PV}{x k:Value}{o:Nat}{g:nS}{d:List KS}{ok:Bool}(ht:T.P.underlying t=some (.map Y Q))(N:T.qR Y=some sh)
  (hi:T.P.info? Q=some l) (hz:l.zero=some z) (M:ofValue z=some W) (hx:bM E (.map o) x) (hk:bM E Z k) (ho:H o=some (.map sh g)) (J:keyOf sh Z=some d) (hW:cB E H w) :
  ∃v,(Instr.lookup t x k ok).run T.P w=.ok v w/\bM E (if ok then .tup [(g d).getD W,.bool (g d).isSome]else(g d).getD W) v:=by
 cases hx;obtain⟨hlt,X,y,L,hh,⟨U,-⟩,rfl,A⟩:=hW.h o _ ho;obtain⟨S,K,-⟩:=Qk hk J;have R:zL sh L X.toList:=⟨by simpa using U,λi e O a b=>by have:=A i e O a (by simpa using b);exact⟨this.1,this.2.1⟩⟩;obtain⟨r,g1,g2⟩:=bf (w:=w) N K R;have g3:=arQ (E:=E) g2 λi e O a b=>(A i e O a (by simpa using b)).2.2;subst S;have B:(getObj o).run T.P w=.ok (.map X y) w:=by simp[getObj,Sem.run,hh]
 have V:(zeroValue Q).run T.P w=.ok z w:=by simp[zeroValue,typeInfo,run_program,hi,hz]
 simp only[Instr.lookup,Sem.run_bind,run_underlying ht,Result.andThen_ok,B,Sem.run_pure,RW N K,g1];rcases g3 with⟨g4,rfl⟩|⟨j,pv,v,g4,rfl,hr⟩
 ·simp only[V,Sem.run_bind,Result.andThen_ok,Sem.run_pure,g4,Option.getD_none,Option.isSome_none];cases ok
  ·exact⟨z,rfl,EA M⟩
  ·refine⟨_,rfl,.tup #[z,.bool false] rfl λj p u a b=>?_⟩
   match j with
   |0=>simp at a b;subst a;subst b;exact EA M
   |1=>simp at a b;subst a;subst b;exact .bool _
   |j+2=>simp at a
 ·simp only[Sem.run_pure,Result.andThen_ok,g4,bkC,Option.isSome_some];cases ok
  ·exact⟨v,rfl,hr⟩
  ·refine⟨_,rfl,.tup #[v,.bool true] rfl λj p u a b=>?_⟩
   match j with
   |0=>simp at a b;subst a;subst b;exact hr
   |1=>simp at a b;subst a;subst b;exact .bool _
   |j+2=>simp at a
end
open Go Go.RowKit
section
variable {ds:List Deferred} {T:Tbl} {n:Nat} {E:Env} {F:PF} {H:PH} {a:Act} {w:World}
def Good(P:Program)(E:Env)(H:PH)(w:World)(o:Oper)(a:Act)(pv:PV):Prop:=
 ∃v e d,(execOp a.eval o).run P w=.ok (.value v) e/\bM d pv v/\cB d H e/\Ext E H w d H e
theorem Good.mk'{P:Program}{o:Oper}{pv:PV}{v:Value}(hW:cB E H w)(h:(execOp a.eval o).run P w=.ok (.value v) w)(r:bM E pv v):Good P E H w o a pv:=⟨v,w,E,h,r,hW,.refl E H w⟩
theorem Good.of{P:Program}{o:Oper}{pv:PV}{s:Sem Value}(u:execOp a.eval o=(do pure (.value (<-s)):Sem Next))(h:Yields P E H w s pv):Good P E H w o a pv:=by
 obtain⟨v,x,d,e,i,l,p⟩:=h;exact⟨v,x,d,AH u e,i,l,p⟩
theorem Good.val{P:Program}{o:Oper}{pv:PV}{s:Sem Value}(hW:cB E H w)(i:execOp a.eval o=(do pure (.value (<-s)):Sem Next))(h:∃v,s.run P w=.ok v w/\bM E pv v):Good P E H w o a pv:=by
 obtain⟨v,d,e⟩:=h;exact .of i (Yields.same hW d e)
theorem aFB{t:TypeId}{o:Oper}{x:Operand}{lo hi mx:Option Operand}{p:aP}{pl ph pm:Option aP}{e:TypeId}{s:Nat}{pv:PV}(W:o.op=.slice t x lo hi mx)(U:T.P.underlying t=some (.slice e))(S:T.size e=some s)
  (X:T.opd x=some p) (Q:T.opt lo=some pl) (O:T.opt hi=some ph) (K:T.opt mx=some pm) (R:¬(mx.isSome=true/\hi.isNone=true)) (d:aU (.slice s p pl ph pm) F H=some pv)
  (M:eQ ds n E F a) (hW:cB E H w) (N:E.num=T.num):Good T.P E H w o a pv:=by
 refine Good.val hW (s:=Instr.sliceAt t (a.eval x) (lo.map a.eval) (hi.map a.eval) (mx.map a.eval)) (by unfold execOp;rw[W]) ?_;have i:pm≠none->hi≠none:=λh e=>by
  subst e;cases mx with
  |none=>simp[Tbl.opt]at K;exact h K.symm
  |some y=>exact R ⟨rfl,rfl⟩
 simp only[aU]at d;split at d
 ·rename_i v V;have r:=bO X V M N;split at d
  ·split at d
   ·rename_i l h A u;refine QC (len:=0) U S Q O K r A u (.inl ⟨rfl,rfl⟩) ?_ M N;split at d
    ·exact .inl ⟨rfl,d⟩
    ·simp only[blT]at d;obtain⟨m,B,J⟩:=d;exact .inr ⟨i bH,m,B,J⟩
   ·cases d
  ·split at d
   ·rename_i l h A u;refine QC U S Q O K r A u (.inr (.inl ⟨_,_,rfl,rfl⟩)) ?_ M N;split at d
    ·exact .inl ⟨rfl,d⟩
    ·simp only[blT]at d;obtain⟨m,B,J⟩:=d;exact .inr ⟨i bH,m,B,J⟩
   ·cases d
  ·split at d
   ·rename_i l h A u;refine QC U S Q O K r A u (.inr (.inr ⟨_,_,_,rfl⟩)) ?_ M N;split at d
    ·exact .inl ⟨rfl,d⟩
    ·simp only[blT]at d;obtain⟨m,B,J⟩:=d;exact .inr ⟨i bH,m,B,J⟩
   ·cases d
  ·cases d
 ·cases d
theorem qM{o:Oper}{c:Call}{b:Builtin}{s:Sem Value}{pv:PV}(l:o.op=.call c)(d:c.callee=.builtin b)(hb:∀cs,builtin b c.argTypes o.type cs (c.args.map a.eval)=(do pure (.value (<-s)):Sem Next))
  (hW:cB E H w) (h:∃v,s.run T.P w=.ok v w/\bM E pv v):Good T.P E H w o a pv:=by
 obtain⟨v,e,i⟩:=h;refine .mk' hW ?_ i;unfold execOp;rw[l];simp[resolve,d,invoke,hb,e]
theorem aZP{xs:Array Operand}{x:Operand}(h:xs.toList=[x])(f:Operand->Value):xs.map f=#[f x]:=by
 apply Array.ext';simp[h]
theorem aEV{xs:Array Operand}{x y:Operand}(h:xs.toList=[x,y])(f:Operand->Value):xs.map f=#[f x,f y]:=by
 apply Array.ext';simp[h]
theorem a5Z{α:Type}{xs:Array α}{x:α}(h:xs.toList=[x]):xs=#[x]:=by apply Array.ext';simp[h]
theorem size_data(s:ByteArray):Z' s.data.toList=s.size:=by rw[bkX];rfl
theorem aLR{o:Oper}{c:Call}{p:POp}{pv:PV}(S:o.op=.call c)(d:T.call o c=some p)(hw:p.eU=false)(hk:p.uA=false)(i:aU p F H=some pv)
  (N:eQ ds n E F a) (hW:cB E H w) (O:E.num=T.num):Good T.P E H w o a pv:=by
 unfold Tbl.call at d;split at d
 ·rename_i b A;split at d
  ·
   rename_i x t l R;have V:=aZP l a.eval;have e2:=a5Z R;split at d
   ·rename_i k e M;cases d;simp[aU,aP.ev]at i;subst i;refine qM (s:=Builtin.len_ c.argTypes o.type (c.args.map a.eval)) S A (λcs=>rfl) hW ⟨goInt k,?_,.int _ _⟩;rw[V,e2];simp[Builtin.len_,run_underlying M]
   ·rename_i M;simp only[biE]at d;obtain⟨q,K,rfl⟩:=d;simp only[aU]at i;split at i
    ·rename_i s0 B;cases i;have r:=bO K B N O;generalize J:a.eval x=ex at r;cases r with
     |str s=>
     refine qM (s:=Builtin.len_ c.argTypes o.type (c.args.map a.eval)) S A (λcs=>rfl) hW ⟨goInt s.size,?_,?_⟩
     ·rw[V,e2,J];simp[Builtin.len_,run_underlying M]
     ·rw[size_data];exact .int _ _
    ·cases i
   ·rename_i e M;simp only[biE]at d;obtain⟨q,K,rfl⟩:=d;have α:∀(ad:Option Addr)(m cap:Nat),a.eval x=.slice ad m cap->Good T.P E H w o a (.int .i64 m):=by intro ad m cap J;refine qM (s:=Builtin.len_ c.argTypes o.type (c.args.map a.eval)) S A (λcs=>rfl) hW ⟨goInt m,?_,.int _ _⟩;rw[V,e2,J];simp[Builtin.len_,run_underlying M]
    simp only[aU,blT]at i;obtain⟨u,B,i⟩:=i;have r:=bO K B N O;generalize J:a.eval x=ex at r;cases u<;>simp only[PV.uP]at i<;>cases i
    all_goals
     cases r;exact α _ _ _ J
   ·rename_i kt et M;simp only[biE]at d;obtain⟨q,K,rfl⟩:=d;simp only[aU]at i;split at i
    ·rename_i m B;split at i
     ·rename_i sh g hg;cases i;have r:=bO K B N O;generalize J:a.eval x=ex at r;cases r;obtain⟨hlt,es,Q,L,hh,⟨Z,Y⟩,rfl,-⟩:=hW.h m _ hg;have U:(getObj m).run T.P w=.ok (.map es Q) w:=by simp[getObj,Sem.run,hh]
      refine qM (s:=Builtin.len_ c.argTypes o.type (c.args.map a.eval)) S A (λcs=>rfl) hW ⟨goInt es.size,?_,?_⟩
      ·rw[V,e2,J];simp[Builtin.len_,run_underlying M,U]
      ·rw[aHR Y,<-Z];exact .int _ _
     ·cases i
    ·cases i
   ·cases d
  ·
   split at d<;>try cases d
   split at d<;>try cases d
   split at d<;>cases d;simp[POp.eU]at hw
  ·
   rename_i x t l R;split at d
   ·rename_i e M;simp only[biE]at d;obtain⟨q,K,rfl⟩:=d;simp only[aU]at i;split at i
    ·rename_i B;cases i;have r:=bO K B N O;generalize J:a.eval x=ex at r;cases r;refine qM (s:=Builtin.cap_ c.argTypes o.type (c.args.map a.eval)) S A (λcs=>rfl) hW ⟨goInt 0,?_,.int _ _⟩;rw[aZP l a.eval,a5Z R,J];simp[Builtin.cap_,run_underlying M]
    ·cases i
   ·cases d
  ·
   rename_i x y l;split at d<;>cases d;rename_i p q hp K;simp only[aU]at i;split at i
   ·rename_i k m k' m' W X;have r1:=bO hp W N O;have r2:=bO K X N O;split at i
    ·cases i;generalize J:a.eval x=ex at r1;generalize hy:a.eval y=ey at r2;cases r1;cases r2;refine qM (s:=Builtin.max_ c.argTypes o.type (c.args.map a.eval)) S A (λcs=>rfl) hW ⟨_,?_,.int _ _⟩;rw[aEV l a.eval,J,hy,run_max_int2];simp
    ·cases i
   ·cases i
  ·
   rename_i x y l;split at d<;>cases d;rename_i p q hp K;simp only[aU]at i;split at i
   ·rename_i k m k' m' W X;have r1:=bO hp W N O;have r2:=bO K X N O;split at i
    ·cases i;generalize J:a.eval x=ex at r1;generalize hy:a.eval y=ey at r2;cases r1;cases r2;refine qM (s:=Builtin.min_ c.argTypes o.type (c.args.map a.eval)) S A (λcs=>rfl) hW ⟨_,?_,.int _ _⟩;rw[aEV l a.eval,J,hy,run_min_int2];simp
    ·cases i
   ·cases i
  ·cases d
 ·split at d
  ·split at d<;>cases d;simp[POp.uA]at hk
  ·cases d
 ·simp only[biE]at d;obtain⟨q,-,rfl⟩:=d;simp[POp.uA]at hk
 ·cases d
end
open Go Go.RowKit
section
variable {ds:List Deferred} {T:Tbl} {n:Nat} {E:Env} {F:PF} {H:PH} {a:Act} {w:World}
set_option maxHeartbeats 8000000 in
theorem aFC{o:Oper}{p:POp}{pv:PV}(B:T.op o=some p)(hn:p.jW=false)(hw:p.eU=false)(hk:p.uA=false)(A:aU p F H=some pv)
  (N:eQ ds n E F a) (hW:cB E H w) (M:E.num=T.num):Good T.P E H w o a pv:=by
 unfold Tbl.op at B;split at B
 ·
  rename_i x K;simp only[biE]at B;obtain⟨q,O,rfl⟩:=B;exact .mk' hW (v:=a.eval x) (by unfold execOp;rw[K];simp) (bO O A N M)
 ·
  rename_i x K;simp only[biE]at B;obtain⟨q,O,rfl⟩:=B;exact .mk' hW (v:=a.eval x) (by unfold execOp;rw[K];simp) (bO O A N M)
 ·
  rename_i c x y K;split at B<;>cases B;rename_i p1 p2 p3 R W h3;simp only[aU]at A;split at A
  ·rename_i t J;have r:=bO R J N M;generalize V:a.eval c=ec at r;cases r;refine .mk' hW (v:=if t then a.eval x else a.eval y) (by unfold execOp;rw[K];simp[V,asBool]) ?_;cases t
   ·exact bO h3 (by simpa using A) N M
   ·exact bO W (by simpa using A) N M
  ·cases A
 ·
  simp only[biE]at B;obtain⟨z,-,rfl⟩:=B;simp[POp.jW]at hn
 ·
  rename_i e x K;simp only[biE]at B;obtain⟨q,O,rfl⟩:=B;generalize σ:T.La o.dst=ro at *
  cases ro with
  |false=>simp[POp.jW]at hn
  |true=>
   simp only[aU]at A;split at A
   ·rename_i v J;split at A
    ·rename_i R;cases A;exact .of (s:=Instr.box e (a.eval x)) (by unfold execOp;rw[K]) (arA hW (bO O J N M) R)
    ·cases A
   ·cases A
 ·
  rename_i t parts K;split at B
  ·rename_i z fs hz Q;split at B
   ·rename_i hm;simp only[biE]at B;obtain⟨pl,δ,rfl⟩:=B;simp only[aU,biE]at A;obtain⟨out,Y,rfl⟩:=A;have U:=nv (T:=T) (w:=w) hz (.inl ⟨fs,Q,hm,δ⟩) Y N M;refine Good.val hW ?_ U;unfold execOp;rw[K]
   ·cases B
  ·rename_i z k e hz Q;split at B
   ·rename_i s S;simp only[biE]at B;obtain⟨pl,δ,rfl⟩:=B;simp only[aU,biE]at A;obtain⟨out,Y,rfl⟩:=A;have U:=nv (T:=T) (w:=w) hz (.inr ⟨k,e,s,Q,S,δ⟩) Y N M;refine Good.val hW ?_ U;unfold execOp;rw[K]
   ·cases B
  ·cases B
 ·
  rename_i t len parts K;split at B
  ·rename_i e Q;split at B
   ·rename_i s z pl S hz δ;split at B
    ·rename_i μ;cases B;generalize σ:T.La o.dst=ro at *
     cases ro with
     |false=>simp[POp.jW]at hn
     |true=>
      simp only[aU]at A;split at A
      ·rename_i θ;simp only[biE]at A;obtain⟨out,Y,rfl⟩:=A;have U:=Ka (T:=T) Q S hz μ.1 μ.2 δ θ.2 Y N M hW;refine Good.of ?_ U;unfold execOp;rw[K]
      ·cases A
    ·cases B
   ·cases B
  ·cases B
 ·
  rename_i t x K;split at B
  ·rename_i k q hg S O;cases B;simp only[aU]at A;split at A
   ·rename_i v J;simp only[biE]at A;obtain⟨cs,γ,rfl⟩:=A;have V:=bO O J N M;have U:=qf (T:=T) hg S hW V γ;refine Good.val hW (s:=Instr.loadAt t (a.eval x)) ?_ U;unfold execOp;rw[K]
   ·cases A
  ·rename_i k q hg O;cases B;simp only[aU]at A;split at A
   ·rename_i v J;split at A
    ·rename_i v' γ;cases A;have V:=bO O J N M;have U:=Eg (T:=T) hg hW V γ;refine Good.val hW (s:=Instr.loadAt t (a.eval x)) ?_ U;unfold execOp;rw[K]
    ·cases A
   ·cases A
  ·cases B
 ·
  split at B<;>cases B;simp[POp.eU]at hw
 ·
  rename_i x K;simp only[biE]at B;obtain⟨q,O,rfl⟩:=B;simp only[aU]at A;split at A
  ·rename_i J;cases A;have r:=bO O J N M;refine .mk' hW (v:=a.eval x) ?_ r;generalize V:a.eval x=ex at r;cases r;unfold execOp;rw[K];simp[V]
  ·rename_i J;cases A;have r:=bO O J N M;refine .mk' hW (v:=a.eval x) ?_ r;obtain⟨b,χ,V⟩:=i6 r;unfold execOp;rw[K];simp[V]
  ·cases A
 ·
  rename_i b t x y yt K;split at B
  ·rename_i p q hp O;have X:∀b',b=b'->aU (.bin b' p q) F H=some pv->Good T.P E H w o a pv:=by
    intro b' hb A;subst hb;simp only[aU]at A;split at A
    ·rename_i v1 v2 R W;exact .val hW (s:=do eqGuard b t x y (a.eval x) (a.eval y);binOp b t (a.eval x) (a.eval y)) (by unfold execOp;rw[K]) (aLM (bO hp R N M) (bO O W N M) A t x y)
    ·cases A
   have β:∀neg,b=(if neg then .neq else .eql)->T.P.underlying t=some .bool->aU (.eqb neg p q) F H=some pv->Good T.P E H w o a pv:=by
    intro neg hb Z A;simp only[aU]at A;split at A
    ·rename_i v1 v2 R W;cases A;have r1:=bO hp R N M;have r2:=bO O W N M;generalize V:a.eval x=ex at r1;generalize U:a.eval y=ey at r2;cases r1;cases r2;refine .val hW (s:=do eqGuard b t x y (a.eval x) (a.eval y);binOp b t (a.eval x) (a.eval y)) (by unfold execOp;rw[K]) ⟨_,?_,.bool _⟩;rw[V,U,hb];exact aML neg v1 v2 x y Z
    ·cases A
   have ε:∀neg {e},b=(if neg then .neq else .eql)->T.P.underlying t=some (.slice e)->q=.const .aK->aU (.isNil neg p) F H=some pv->Good T.P E H w o a pv:=by
    intro neg e hb Z ρ A;subst ρ;simp only[aU]at A;cases R:p.ev F with
    |none=>rw[R]at A;cases A
    |some v1 =>rw[R,blG,biE]at A;obtain⟨c,ζ,rfl⟩:=A;have r1:=bO hp R N M;have r2:=bO (F:=F) O rfl N M;generalize V:a.eval x=ex at r1;generalize U:a.eval y=ey at r2;cases r2;refine .val hW (s:=do eqGuard b t x y (a.eval x) (a.eval y);binOp b t (a.eval x) (a.eval y)) (by unfold execOp;rw[K]) ⟨_,?_,.bool _⟩;rw[V,U,hb];exact arO neg r1 ζ x y Z
   have κ:∀neg ks,b=(if neg then .neq else .eql)->T.flat t=some ks->aU (.eqs neg ks p q) F H=some pv->Good T.P E H w o a pv:=by
    intro neg ks hb Z A;simp only[aU]at A;split at A
    ·rename_i v1 v2 R W;simp only[biE]at A;obtain⟨c,ζ,rfl⟩:=A;refine .val hW (s:=do eqGuard b t x y (a.eval x) (a.eval y);binOp b t (a.eval x) (a.eval y)) (by unfold execOp;rw[K]) ⟨_,?_,.bool _⟩;rw[hb];exact aFX neg (bO hp R N M) (bO O W N M) ζ x y Z
    ·cases A
   split at B
   ·split at B
    ·cases B;exact X _ rfl A
    ·cases B;exact X _ rfl A
    ·rename_i Z;cases B;exact β false rfl Z A
    ·simp only[biE]at B;obtain⟨ks,η,rfl⟩:=B;exact κ false ks rfl η A
    ·rename_i Z;split at B
     ·cases B;exact ε false rfl Z rfl A
     ·cases B
    ·cases B
   ·split at B
    ·cases B;exact X _ rfl A
    ·cases B;exact X _ rfl A
    ·rename_i Z;cases B;exact β true rfl Z A
    ·simp only[biE]at B;obtain⟨ks,η,rfl⟩:=B;exact κ true ks rfl η A
    ·rename_i Z;split at B
     ·cases B;exact ε true rfl Z rfl A
     ·cases B
    ·cases B
   ·cases B;exact X _ rfl A
  ·cases B
 ·
  rename_i u t x K;simp only[biE]at B;obtain⟨q,O,rfl⟩:=B;simp only[aU]at A;split at A
  ·rename_i v J;exact .val hW (s:=Op.unary u (a.eval x)) (by unfold execOp;rw[K]) (aYG (bO O J N M) A)
  ·cases A
 ·
  rename_i s d x K;split at B
  ·rename_i k k' q S hd O;cases B;simp only[aU]at A;split at A
   ·rename_i m J;cases A;have r:=bO O J N M;generalize V:a.eval x=ex at r;cases r;refine .val hW (s:=convert s d (a.eval x)) (by unfold execOp;rw[K]) ⟨_,?_,.int _ _⟩;rw[V];simp[convert,run_underlying S,run_underlying hd,Conv.intToInt]
   ·cases A
  ·rename_i q S hd O;cases B;simp only[aU]at A;split at A
   ·rename_i l J;cases A;have r:=bO O J N M;refine .val hW (s:=convert s d (a.eval x)) (by unfold execOp;rw[K]) ⟨a.eval x,?_,r⟩;generalize V:a.eval x=ex at r;cases r;simp[convert,run_underlying S,run_underlying hd]
   ·cases A
  ·rename_i e q S hd O;split at B
   ·rename_i he;cases B;simp only[aU]at A;split at A
    ·rename_i v J;split at A
     ·rename_i rows hr;simp only[biE]at A;obtain⟨l,hl,rfl⟩:=A;exact .val hW (s:=convert s d (a.eval x)) (by unfold execOp;rw[K]) (Aj S he hd hW (bO O J N M) hr hl)
     ·cases A
    ·cases A
   ·cases B
  ·cases B
 ·
  rename_i f α captured K;split at B
  ·rename_i m cs hm γ;split at B
   ·rename_i hf;cases B;simp only[aU,biE]at A;obtain⟨vs,φ,rfl⟩:=A;have r:=HB γ φ N M;refine .val hW (s:=Instr.makeFunc (.func f) (α.map a.eval) (captured.map a.eval)) (by unfold execOp;rw[K]) ⟨.func (.func f) #[] (captured.map a.eval),?_,?_⟩
    ·have:α=#[]:=Array.eq_empty_of_size_eq_zero hf.2;subst this;simp[Instr.makeFunc]
    ·have hl:=r.len;have:=bM.fn (E:=E) (name:=m) (captured:=vs) (captured.map a.eval) (by simpa using hl) (λj p v a b=>r.at_ j p v a (by simpa using b));rw[M,hf.1]at this;exact this
   ·cases B
  ·cases B
 ·
  split at B
  ·simp only[biE]at B;obtain⟨z,-,rfl⟩:=B;simp[POp.jW]at hn
  ·cases B
 ·
  rename_i t x k ok K;split at B
  ·rename_i kt et Q;split at B
   ·rename_i sh z p1 q1 υ hz hp O;simp only[biE]at B;obtain⟨pz,ο,rfl⟩:=B;simp only[blT]at hz;obtain⟨ψ,hi,hz⟩:=hz;simp only[aU]at A;split at A
    ·rename_i m kv R W;split at A
     ·rename_i Δ g Γ h3 h4;split at A
      ·rename_i he;subst he;cases A;exact .val hW (s:=Instr.lookup t (a.eval x) (a.eval k) ok) (by unfold execOp;rw[K]) (aeS Q υ hi hz ο (bO hp R N M) (bO O W N M) h3 h4 hW)
      ·cases A
     ·cases A
    ·cases A
   ·cases B
  ·cases B
 ·
  split at B
  ·split at B<;>cases B;simp[POp.eU]at hw
  ·cases B
 ·
  split at B
  ·split at B<;>cases B;simp[POp.eU]at hw
  ·cases B
 ·
  split at B
  ·split at B
   ·split at B<;>cases B;simp[POp.jW]at hn
   ·cases B
  ·cases B
 ·
  rename_i t x lo hi mx K;split at B
  ·rename_i e p l h m Q V hl hh hm;split at B
   ·cases B
   ·rename_i ν;simp only[biE]at B;obtain⟨s,S,rfl⟩:=B;exact aFB K Q S V hl hh hm ν A N hW M
  ·rename_i p l h Q V hl hh hm;cases B;have ξ:mx=none:=by
    cases mx with
    |none=>rfl
    |some y=>simp only[Tbl.opt,biE]at hm;obtain⟨_,-,O⟩:=hm;cases O
   subst ξ;simp only[aU]at A;split at A
   ·rename_i str J;split at A
    ·rename_i li ω bl bh;split at A
     ·rename_i hb;cases A;exact .val hW (s:=Instr.sliceAt t (a.eval x) (lo.map a.eval) (hi.map a.eval) (Option.map a.eval none)) (by unfold execOp;rw[K]) (Mr Q hl hh (bO V J N M) bl bh hb.1 hb.2.1 hb.2.2 N M)
     ·cases A
    ·cases A
   ·cases A
  ·rename_i n' e p Q V hl hh hm;have ι:∀{y:Option Operand},T.opt y=some none->y=none:=by
    intro y U;cases y with
    |none=>rfl
    |some y=>simp only[Tbl.opt,biE]at U;obtain⟨_,-,O⟩:=U;cases O
   have R:=ι hl;have W:=ι hh;have h3:=ι hm;subst R W h3;simp only[biE]at B;obtain⟨s,S,rfl⟩:=B;simp only[aU]at A;split at A
   ·rename_i cs J;split at A
    ·rename_i hb;cases A;exact .val hW (s:=Instr.sliceAt t (a.eval x) (Option.map a.eval none) (Option.map a.eval none) (Option.map a.eval none)) (by unfold execOp;rw[K]) (akV Q S (bO V J N M) hb.1 hb.2.2 N M)
    ·cases A
   ·cases A
  ·cases B
 ·
  rename_i t x f K;split at B
  ·rename_i fs q Q O;split at B
   ·rename_i fd hf;split at B
    ·rename_i s S;cases B;simp only[aU]at A;split at A
     ·rename_i J;cases A;exact .val hW (s:=Instr.fieldAt t (a.eval x) f) (by unfold execOp;rw[K]) (dy Q hf S (bO O J N M) (.inl ⟨_,_,_,_,rfl,rfl⟩))
     ·rename_i J;cases A;exact .val hW (s:=Instr.fieldAt t (a.eval x) f) (by unfold execOp;rw[K]) (dy Q hf S (bO O J N M) (.inr ⟨_,rfl,rfl⟩))
     ·cases A
    ·cases B
   ·cases B
  ·cases B
 ·
  rename_i t x f K;split at B
  ·rename_i fs q Q O;split at B
   ·rename_i fd hf;split at B
    ·rename_i k hg S;cases B;simp only[aU]at A;split at A
     ·rename_i cs J;split at A
      ·rename_i θ;cases A;exact .val hW (s:=Instr.field t (a.eval x) f) (by unfold execOp;rw[K]) (aFY Q hf hg S (bO O J N M) θ)
      ·cases A
     ·cases A
    ·rename_i k hg;cases B;simp only[aU]at A;split at A
     ·rename_i cs J;exact .val hW (s:=Instr.field t (a.eval x) f) (by unfold execOp;rw[K]) (aMO Q hf hg (bO O J N M) A)
     ·cases A
    ·cases B
   ·cases B
  ·cases B
 ·
  rename_i t x i K;split at B
  ·rename_i e p q Q hp O;simp only[biE]at B;obtain⟨s,S,rfl⟩:=B;simp only[aU]at A;split at A
   ·rename_i s0 rows k m R W;have r1:=bO hp R N M;have r2:=bO O W N M;generalize U:a.eval i=ey at r2;cases r2;split at A
    ·rename_i B;obtain⟨rfl,h0⟩:=B;split at A
     ·rename_i r hr;cases A;refine .val hW (s:=Instr.indexAt t (a.eval x) (a.eval i)) (by unfold execOp;rw[K]) ?_;rw[U];exact a2I Q S r1 h0 hr
     ·cases A
    ·cases A
   ·rename_i o' s0 χ len k m R W;have r1:=bO hp R N M;have r2:=bO O W N M;generalize U:a.eval i=ey at r2;cases r2;split at A
    ·rename_i B;obtain⟨rfl,h0,hi⟩:=B;cases A;refine .val hW (s:=Instr.indexAt t (a.eval x) (a.eval i)) (by unfold execOp;rw[K]) ?_;rw[U];exact aUU Q S r1 h0 hi
    ·cases A
   ·cases A
  ·rename_i e p q k Q hp O;simp only[biE]at B;obtain⟨s,S,rfl⟩:=B;simp only[aU]at A;split at A
   ·rename_i R W;have r1:=bO hp R N M;have r2:=bO O W N M;generalize U:a.eval i=ey at r2;cases r2;split at A
    ·rename_i B;cases A;refine .val hW (s:=Instr.indexAt t (a.eval x) (a.eval i)) (by unfold execOp;rw[K]) ?_;rw[U];exact D8 Q S r1 B.1 B.2 (.inl ⟨_,_,_,_,rfl,rfl⟩)
    ·cases A
   ·rename_i R W;have r1:=bO hp R N M;have r2:=bO O W N M;generalize U:a.eval i=ey at r2;cases r2;split at A
    ·rename_i B;cases A;refine .val hW (s:=Instr.indexAt t (a.eval x) (a.eval i)) (by unfold execOp;rw[K]) ?_;rw[U];exact D8 Q S r1 B.1 B.2 (.inr ⟨_,rfl,rfl⟩)
    ·cases A
   ·cases A
  ·cases B
 ·
  rename_i t x i K;split at B
  ·rename_i e p q k Q hp O;split at B
   ·rename_i s g S hg;cases B;simp only[aU]at A;split at A
    ·rename_i R W;have r1:=bO hp R N M;have r2:=bO O W N M;generalize U:a.eval i=ey at r2;cases r2;split at A
     ·rename_i B;refine .val hW (s:=Instr.index t (a.eval x) (a.eval i)) (by unfold execOp;rw[K]) ?_;rw[U];exact aHE Q S hg r1 B.1 B.2 A
     ·cases A
    ·cases A
   ·cases B
  ·rename_i p q Q hp O;cases B;simp only[aU]at A;split at A
   ·rename_i R W;have r1:=bO hp R N M;have r2:=bO O W N M;generalize U:a.eval i=ey at r2;cases r2;split at A
    ·rename_i B;refine .val hW (s:=Instr.index t (a.eval x) (a.eval i)) (by unfold execOp;rw[K]) ?_;rw[U];exact aeD Q r1 B A
    ·cases A
   ·cases A
  ·cases B
 ·
  rename_i x i K;simp only[biE]at B;obtain⟨q,O,rfl⟩:=B;simp only[aU]at A;split at A
  ·rename_i vs J;have r:=bO O J N M;generalize V:a.eval x=ex at r;cases r with
   |tup us hl hr=>
   obtain⟨u,Q,τ⟩:=X4 hl hr A;refine .val hW (s:=Instr.extract (a.eval x) i) (by unfold execOp;rw[K]) ⟨u,?_,τ⟩;rw[V];simp[Instr.extract,Q]
  ·cases A
 ·rename_i c K;exact aLR K B hw hk A N hW M
 ·cases B
end
open Go Go.RowKit
def Env.own(E:Env)(b n:Nat):Env:=⟨E.G,upd E.sz b (some n),E.num⟩
section
variable {ds:List Deferred} {T:Tbl} {n:Nat} {E:Env} {F:PF} {H:PH} {a:Act} {w:World}
theorem Env.a6L(hW:cB E H w)(m:Nat):E.le (E.own w.heap.size m):=by
 refine⟨λb ds h=>h,λb k h=>?_,rfl⟩;have:=hW.akI h;simp only[Env.own];rw[j5 _ _ Om];exact h
theorem EJ{s:Nat}{rs:P2_}(h:∀r∈rs,Z' r=s){i j:Nat}{pv:PV}(hp:at2 rs i j=some pv):i<Z' rs/\j<s:=by
 unfold at2 at hp;cases d:rs[i]? with
 |none=>simp[d]at hp
 |some r=>
  rw[d,blG]at hp;have e:=h r (bjQ d);refine⟨?_,?_⟩
  ·rcases biR i rs.length with h'|h'
   ·exact h'
   ·rw[bjJ h']at d;cases d
  ·rcases biR j r.length with h'|h'
   ·omega
   ·rw[bjJ h']at hp;cases hp
def pE(E:Env)(s:Nat)(rs:P2_)(cs:Array Value):Prop:=
 (∀r∈rs,Z' r=s)/\Z' rs*s<=cs.size/\∀i j pv,at2 rs i j=some pv->∃u,cs[i*s+j]?=some u/\u.oneCell'=true/\bM E pv u
theorem pE.of_flat{s:Nat}{rs:P2_}{cs:Array Value}(h:sO E rs.flatten cs)(d:∀r∈rs,Z' r=s):pE E s rs cs:=by
 refine⟨d,by rw[h.1,uH rs d];exact bhV _,λi j pv hp=>?_⟩;obtain⟨-,l⟩:=EJ d hp;have e:=DR rs i j d l;rw[hp]at e;have hlt:i*s+j<cs.size:=by
  rw[h.1];rcases biR (i*s+j) rs.flatten.length with h'|h'
  ·exact h'
  ·rw[bjJ h']at e;cases e
 exact⟨cs[i*s+j],blN hlt,h.2.1 _ (Array.getElem_mem_toList hlt),h.2.2 _ pv _ e (blN hlt)⟩
theorem pE.mono{d:Env}(x:E.le d){s:Nat}{rs:P2_}{cs:Array Value}(h:pE E s rs cs):pE d s rs cs:=
 ⟨h.1,h.2.1,λi j pv hp=>by obtain⟨u,e,l,p⟩:=h.2.2 i j pv hp;exact⟨u,e,l,p.mono x⟩⟩
theorem dE(H:PH)(o q:Nat)(x:aY):(H.set o x).f q=if q=o then some x else H.f q:=rfl
theorem cB.cd(hW:cB E H w){s:Nat}{rs:P2_}{cs:Array Value}(ty:TypeId)(h:pE E s rs cs) :
  cB (E.own w.heap.size cs.size) (H.set w.heap.size (.rows s rs)) (w.alloc (.cells cs ty))/\Ext E H w (E.own w.heap.size cs.size) (H.set w.heap.size (.rows s rs)) (w.alloc (.cells cs ty)):=by
 have y:=Env.a6L hW cs.size;refine⟨⟨λb ds hb=>?_,λo x d=>?_,λo m B=>?_⟩,⟨y,rfl,rfl,rfl,by simp,λb hb _=>Below.heap_alloc w _ b hb,λo x d=>?_,λb ds hb=>.inl hb⟩⟩
 ·obtain⟨l,A,fr,p⟩:=hW.g b ds hb;have hlt:=hW.aGI hb;refine⟨λx K=>l x ?_,A,fr,(Below.heap_alloc w _ b hlt).trans p⟩;rw[dE,aE Om]at K;exact K
 ·rw[dE]at d;split at d
  ·rename_i e;subst e;cases d;refine⟨by simp,cs,ty,heap_alloc_new w _,by simp[Env.own,upd],h.1,h.2.1,λi j pv hp=>?_⟩;obtain⟨u,l,p,M⟩:=h.2.2 i j pv hp;exact⟨u,l,p,M.mono y⟩
  ·obtain⟨l,p⟩:=hW.h o x d;exact⟨by simp;omega,p.mono y (Below.heap_alloc w _ o l)⟩
 ·simp only[Env.own,upd]at B;split at B
  ·rename_i e;cases B;subst e;exact⟨cs,ty,(0,0),heap_alloc_new w _,rfl⟩
  ·obtain⟨J,A,fr,l,p⟩:=hW.s o m B;exact⟨J,A,fr,(Below.heap_alloc w _ o (hW.akI B)).trans l,p⟩
 ·rw[dE]at d;split at d
  ·rename_i e;exact .inr Om
  ·exact .inl ⟨x,d⟩
theorem cB.a5X(hW:cB E H w)(sh:MSh):cB E (H.set w.heap.size (.map sh (λ_=>none))) (w.alloc (.map #[] 0))/\Ext E H w E (H.set w.heap.size (.map sh (λ_=>none))) (w.alloc (.map #[] 0)):=by
 refine⟨⟨λb ds hb=>?_,λo x d=>?_,λo m A=>?_⟩,⟨.refl E,rfl,rfl,rfl,by simp,λb hb _=>Below.heap_alloc w _ b hb,λo x d=>?_,λb ds hb=>.inl hb⟩⟩
 ·obtain⟨p,l,fr,u⟩:=hW.g b ds hb;have hlt:=hW.aGI hb;refine⟨λx B=>p x ?_,l,fr,(Below.heap_alloc w _ b hlt).trans u⟩;rw[dE,aE Om]at B;exact B
 ·rw[dE]at d;split at d
  ·rename_i e;subst e;cases d;exact⟨by simp,#[],0,[],heap_alloc_new w _,⟨rfl,List.nodup_nil⟩,rfl,λi e J h=>by simp at h⟩
  ·obtain⟨p,u⟩:=hW.h o x d;exact⟨by simp;omega,u.mono (.refl E) (Below.heap_alloc w _ o p)⟩
 ·obtain⟨y,l,fr,p,u⟩:=hW.s o m A;exact⟨y,l,fr,(Below.heap_alloc w _ o (hW.akI A)).trans p,u⟩
 ·rw[dE]at d;split at d
  ·rename_i e;exact .inr Om
  ·exact .inl ⟨x,d⟩
def a9D(P:Program)(E:Env)(H:PH)(w:World)(o:Oper)(a:Act)(i:Nat->PV)(x:aY):Prop:=
 ∃v e d q,(execOp a.eval o).run P w=.ok (.value v) e/\H q=none/\bM d (i q) v/\cB d (H.set q x) e/\Ext E H w d (H.set q x) e
theorem Gw{cs:List PV}{vs:Array Value}(h:sO E cs vs):pE E cs.length [cs] vs:=by
 refine .of_flat (by simpa using h) bH
theorem ajK(E:Env)(b m:Nat):(E.own b m).sz b=some m:=by simp[Env.own,upd]
theorem arC{o:Oper}{c:Call}{p:POp}(d:T.call o c=some p):p.jW=false:=by
 unfold Tbl.call at d
 repeat' (first|(split at d)|(simp only[biE]at d;obtain⟨_,-,rfl⟩:=d;rfl)|(cases d;rfl)|(cases d;done))
theorem aNV{o:Oper}{p:POp}{mk:Nat->PV}{x:aY}(d:T.op o=some p)(V:p.jW=true)(A:cU p F=some (mk,x))(hA:eQ ds n E F a)(hW:cB E H w)(hN:E.num=T.num):a9D T.P E H w o a mk x:=by
 have B:=hW.aHB;unfold Tbl.op at d;split at d
 case h_4=>
  rename_i e N;simp only[biE]at d;obtain⟨z,hz,rfl⟩:=d;simp only[cU,bjV.injEq,Prod.mk.injEq]at A;obtain⟨rfl,rfl⟩:=A;obtain⟨i,Y,hi,U,X⟩:=ZO (E:=E) hz;obtain⟨Z,h2⟩:=hW.cd e (Gw X);have u:(Instr.alloc e true (.tuple #[])).run T.P w=.ok (.pointer (some ⟨w.heap.size,0,none⟩)) (w.alloc (.cells Y.cells e)):=by simp[Instr.alloc,zeroValue,typeInfo,hi,U,newVar,newRow]
  refine⟨_,_,_,w.heap.size,AH ?_ u,B,?_,Z,h2⟩
  ·unfold execOp;rw[N]
  ·have:=bM.ptr (E:=E.own w.heap.size Y.cells.size) w.heap.size z.length 0 0;simpa using this
 case h_5=>
  rename_i e y N;simp only[biE]at d;obtain⟨q,hq,rfl⟩:=d;generalize ζ:T.La o.dst=ro at *
  cases ro with
  |true=>simp[POp.jW]at V
  |false=>
   simp only[cU]at A;split at A
   ·rename_i v W;split at A
    ·rename_i Z;simp only[bjV.injEq,Prod.mk.injEq]at A;obtain⟨rfl,rfl⟩:=A;obtain⟨c1,c2,c3⟩:=EL (bO hq W hA hN) Z;obtain⟨g1,g2⟩:=hW.cd e (Gw (E:=E) (cs:=v.cells) (vs:=(a.eval y).cells) ⟨c1,c2,c3⟩);have u:(Instr.box e (a.eval y)).run T.P w=.ok (.pointer (some ⟨w.heap.size,0,none⟩)) (w.alloc (.cells (a.eval y).cells e)):=by simp[Instr.box,newVar,newRow]
     refine⟨_,_,_,w.heap.size,AH ?_ u,B,?_,g1,g2⟩
     ·unfold execOp;rw[N]
     ·have:=bM.ptr (E:=E.own w.heap.size (a.eval y).cells.size) w.heap.size v.cells.length 0 0;simpa using this
    ·cases A
   ·cases A
 case h_7=>
  rename_i t len parts N;split at d
  ·rename_i e hu;split at d
   ·rename_i s z pl hs hz ε;split at d
    ·rename_i J;cases d;generalize ζ:T.La o.dst=ro at *
     cases ro with
     |true=>simp[POp.jW]at V
     |false=>
      simp only[cU]at A;split at A
      ·rename_i δ;simp only[biE,Prod.mk.injEq]at A;obtain⟨out,γ,rfl,rfl⟩:=A;obtain⟨us,u,M,Q,β⟩:=ck (w:=w) hu hs hz J.1 J.2 ε δ.2 γ hA hN;obtain⟨g1,g2⟩:=hW.cd e (pE.of_flat M Q);refine⟨_,_,_,w.heap.size,AH ?_ u,B,?_,g1,g2⟩
       ·unfold execOp;rw[N]
       ·have θ:us.size=len*s:=by rw[M.1,uH out Q,β]
        refine .osl (n:=us.size) rfl rfl (.inr bH) (bhV _) ?_ (ajK _ _ _) (by rw[θ];omega);have:len*1<=len*s:=bkH _ J.2;simp only[maxLen];omega
      ·cases A
    ·cases d
   ·cases d
  ·cases d
 case h_15=>
  rename_i t N;split at d
  case h_2=>cases d
  simp only[biE]at d;obtain⟨sh,-,rfl⟩:=d;simp only[cU,bjV.injEq,Prod.mk.injEq]at A;obtain⟨rfl,rfl⟩:=A;obtain⟨g1,g2⟩:=hW.a5X sh;have u:(Instr.makeMap t (Option.map a.eval none)).run T.P w=.ok (.map (some w.heap.size)) (w.alloc (.map #[] 0)):=by simp[Instr.makeMap]
  refine⟨_,_,_,w.heap.size,AH ?_ u,B,.map _,g1,g2⟩;unfold execOp;rw[N]
 case h_19=>
  rename_i t l c N;split at d
  ·rename_i e hu;split at d
   ·rename_i i z p q hi hz hp hq;split at d
    ·rename_i J;cases d;simp only[cU]at A;split at A
     ·rename_i k1 m1 k2 R W ι;split at A
      ·rename_i S;simp only[bjV.injEq,Prod.mk.injEq]at A;obtain⟨rfl,rfl⟩:=A;obtain⟨h0,Z,h2,h3,-⟩:=S;have r1:=bO hp W hA hN;have r2:=bO hq ι hA hN;generalize hx:a.eval l=ex at r1;generalize hy:a.eval c=ey at r2;cases r1;cases r2;obtain⟨i',Y,α,U,X⟩:=ZO (E:=E) hz;rw[hi]at α;cases α;have u:=run_make w t e i Y hu hi U k1 k2 m1 R h0 Z (by rw[Int.mul_comm];omega) h3;have M:=X.a0F (len:=R.toNat) J.1 J.2;have O:pE E i.size (bhU R.toNat z) (madeCells Y.cells (R.toNat*i.size)):=
        pE.of_flat M (λr hr=>by rw[(List.mem_replicate.1 hr).2];exact J.1)
       have η:pE E i.size (bhU m1.toNat z) (madeCells Y.cells (R.toNat*i.size)):=by
        refine⟨λr hr=>by rw[(List.mem_replicate.1 hr).2];exact J.1,?_,λa b pv K=>O.2.2 a b pv ?_⟩
        ·have:=O.2.1;simp only[List.length_replicate]at this ⊢;have h5:m1.toNat*i.size<=R.toNat*i.size:=biX _ Om;omega
        ·unfold at2 at K ⊢;rw[List.getElem?_replicate]at K ⊢;split at K
         ·rw[aG Om];exact K
         ·simp at K
       obtain⟨g1,g2⟩:=hW.cd e η;refine⟨_,_,_,w.heap.size,AH (s:=Instr.makeSlice t (.int k1 m1) (.int k2 R)) ?_ u,B,?_,g1,g2⟩
       ·unfold execOp;rw[N];simp only[hx,hy]
       ·refine .osl (n:=(madeCells Y.cells (R.toNat*i.size)).size) rfl rfl (.inr bH) Om (by simp only[maxLen];omega) (ajK _ _ _) (by rw[size_madeCells];omega)
      ·cases A
     ·cases A
    ·cases d
   ·cases d
  ·cases d
 all_goals (first
  |(simp only[biE]at d;obtain⟨_,-,rfl⟩:=d;simp[POp.jW]at V;done)
  |skip)
 all_goals (repeat' (first|(split at d)|(simp only[biE]at d;obtain⟨_,-,rfl⟩:=d;simp[POp.jW]at V;done)|(cases d;simp[POp.jW]at V;done)|(cases d;done)))
 all_goals (rw[arC d]at V;cases V)
end
open Go Go.RowKit
section
variable {ds:List Deferred} {T:Tbl} {n:Nat} {E:Env} {F:PF} {H:PH} {a:Act} {w:World}
theorem cB.Mq(hW:cB E H w){o s:Nat}{rs rs':P2_}{l cs:Array Value}{ty:TypeId}(N:H o=some (.rows s rs))(R:w.heap[o]?=some (.cells l ty (0,0)))(O:cs.size=l.size)
  (h:pE E s rs' cs):cB E (H.set o (.rows s rs')) (w.setRow o cs)/\Ext E H w E (H.set o (.rows s rs')) (w.setRow o cs):=by
 have i:=setRow_heap w o l cs ty (0,0) R;have d:∀b,b≠o->(w.setRow o cs).heap[b]?=w.heap[b]?:=λb hb=>setRow_other w o b cs hb;have J:∀b ds,E.G b=some ds->b≠o:=λb ds hb e=>by subst e;have:=(hW.g b ds hb).1 _ N;cases this
 have K:E.sz o=some l.size:=by obtain⟨-,u,p,y,B,-⟩:=hW.h o _ N;rw[R]at y;cases y;exact B
 refine⟨⟨λb ds hb=>?_,λq x A=>?_,λq m Q=>?_⟩,⟨.refl E,rfl,rfl,rfl,by simp,λb _ S=>d b (λe=>by subst e;rw[N]at S;cases S),λq x A=>?_,λb ds hb=>.inl hb⟩⟩
 ·obtain⟨y,p,fr,B⟩:=hW.g b ds hb;have M:=J b ds hb;refine⟨λx U=>y x ?_,p,fr,(d b M).trans B⟩;rw[dE,aE M]at U;exact U
 ·rw[dE]at A;split at A
  ·rename_i e;subst e;cases A;refine⟨by simpa using(hW.h q _ N).1,cs,ty,i,by rw[O];exact K,h.1,h.2.1,h.2.2⟩
  ·rename_i e;obtain⟨y,B⟩:=hW.h q x A;exact⟨by simpa using y,B.mono (.refl E) (d q e)⟩
 ·by_cases e:q=o
  ·subst e;rw[K]at Q;cases Q;exact⟨cs,ty,(0,0),i,O⟩
  ·obtain⟨u,p,fr,y,B⟩:=hW.s q m Q;exact⟨u,p,fr,(d q e).trans y,B⟩
 ·rw[dE]at A;split at A
  ·rename_i e;subst e;exact .inl ⟨_,N⟩
  ·exact .inl ⟨x,A⟩
def X1(P:Program)(E:Env)(H:PH)(w:World)(o:Oper)(a:Act)(K:PV->PH->Prop):Prop:=
 ∃v e i d H' pv,(execOp a.eval o).run P w=.ok e i/\(e=.value v\/(e=.skip/\v=undef))/\bM d pv v/\cB d H' i/\Ext E H w d H' i/\K pv H'
theorem jb:∀(ps:List PV)(r:List PV)(c j:Nat),c+Z' ps<=Z' r->(setCells r c ps)[j]?=if c<=j/\j<c+ps.length then ps[j-c]? else r[j]?
 |[],r,c,j,_=>by rw[aE (by intro h;simp at h;omega)];rfl
 |p::ps,r,c,j,h=>by
  simp only[bjL]at h ⊢;simp only[setCells];rw[jb ps _ (c+1) j (by rw[bjO];omega),blY];by_cases d:c=j
  ·subst d;rw[aE Om,aG rfl,aG Om,aG Om];simp
  ·by_cases e:c+1<=j/\j<c+1+Z' ps
   ·rw[aG e,aG Om];have:j-c=(j-(c+1))+1:=Om;rw[this,List.getElem?_cons_succ]
   ·rw[aE e,aE d,aE Om]
theorem aJM(L cs:List Value)(d k:Nat)(h:d+Z' cs<=Z' L):(L.take d++cs++L.drop (d+Z' cs))[k]?=if d<=k/\k<d+cs.length then cs[k-d]? else L[k]?:=by
 have e:(L.take d).length=d:=by rw[biI];omega
 by_cases i:k<d
 ·rw[aE Om,biY,bkE Om,blL,aG i]
 ·by_cases hb:k<d+Z' cs
  ·rw[aG ⟨by omega,hb⟩,biY,bkF Om,e,bkE Om]
  ·rw[aE Om,biY,bkF Om,e,bkF Om,blW];congr 1;omega
theorem pE.store{s:Nat}{rs:P2_}{d:Array Value}(h:pE E s rs d){i c:Nat}{r ps:List PV}{A:List Value}(K:rs[i]?=some r)(W:c+Z' ps<=s)(X:Z' A=Z' ps)
  (U:∀u∈A,u.oneCell'=true) (J:∀(j:Nat) p u,ps[j]?=some p->A[j]?=some u->bM E p u) :
  pE E s (rs.set i (setCells r c ps)) (d.toList.take (i*s+c)++A++d.toList.drop (i*s+c+Z' A)).toArray:=by
 have hi:i<Z' rs:=by
  rcases biR i rs.length with h'|h'
  ·exact h'
  ·rw[bjJ h']at K;cases K
 have R:Z' r=s:=h.1 r (bjQ K);have N:(i+1)*s<=Z' rs*s:=biX _ hi;rw[bkI]at N;have S:=h.2.1;have B:i*s+c+Z' A<=Z' d.toList:=by(have e:Z' d.toList=d.size:=bkX;omega)
 refine⟨λq Q=>?_,?_,λl j pv hp=>?_⟩
 ·rcases blZ Q with Q|rfl
  ·exact h.1 q Q
  ·rw[NF];exact R
 ·rw[bjO,List.size_toArray];simp only[bhW,biI,bjZ];have e:Z' d.toList=d.size:=bkX;omega
 ·rw[List.getElem?_toArray,aJM _ _ _ _ B];by_cases e:l=i
  ·subst e;simp only[at2,blY,if_true,hi,blG]at hp;rw[jb ps r c j Om]at hp;split at hp
   ·rename_i V;rw[aG Om];have e2:l*s+j-(l*s+c)=j-c:=Om;rw[e2];have hlt:j-c<Z' A:=Om;exact⟨A[j-c],biD hlt,U _ (bhS hlt),J _ pv _ hp (biD hlt)⟩
   ·rename_i V;have y:at2 rs l j=some pv:=by simp[at2,K,hp]
    have M:=(EJ h.1 y).2;rw[aE Om,Array.getElem?_toList];exact h.2.2 l j pv y
  ·have y:at2 rs l j=some pv:=by simp only[at2]at hp ⊢;rw[blY,aE (λx=>e x.symm)]at hp;exact hp
   have M:=(EJ h.1 y).2;have O:¬(i*s+c<=l*s+j/\l*s+j<i*s+c+Z' A):=by
    rcases biR l i with h'|h'
    ·have:(l+1)*s<=i*s:=biX _ h';rw[bkI]at this;omega
    ·have:(i+1)*s<=l*s:=biX _ Om;rw[bkI]at this;omega
   rw[aE O,Array.getElem?_toList];exact h.2.2 l j pv y
theorem asG{o:Oper}{t:TypeId}{Q x:Operand}{pp px:aP}{k:Nat}{pa pv:PV}{H':PH}(ho:o.op=.store t Q x)(hs:T.size t=some k)(hp:T.opd Q=some pp)(hx:T.opd x=some px)
  (W:pp.ev F=some pa) (X:px.ev F=some pv) (M:Z' pv.cells=k) (d:storeAt H pa pv.cells=some H') (hA:eQ ds n E F a) (hW:cB E H w) (hN:E.num=T.num) :
  ∃w',(execOp a.eval o).run T.P w=.ok .skip w'/\cB E H' w'/\Ext E H w E H' w':=by
 unfold storeAt at d;split at d
 ·rename_i q size i c;split at d
  ·rename_i s rs hq;split at d
   ·rename_i B;obtain⟨rfl,R,N⟩:=B;split at d
    ·rename_i r Y;cases d;have ra:=bO hp W hA hN;generalize S:a.eval Q=ea at ra;cases ra;obtain⟨c1,c2,c3⟩:=EL (bO hx X hA hN) N;obtain⟨-,l,ty,hh,α,O,J,A⟩:=hW.h q _ hq;have hR:pE E s rs l:=⟨O,J,A⟩;have hi:i<Z' rs:=by
      rcases biR i rs.length with h'|h'
      ·exact h'
      ·rw[bjJ h']at Y;cases Y
     have U:(i+1)*s<=Z' rs*s:=biX _ hi;rw[bkI]at U;have Z:(a.eval x).cells.toList.length=Z' pv.cells:=by simpa using c1
     have K:i*s+c+0+(a.eval x).cells.toList.length<=l.size:=Om;have y:=run_storeCells_at T.P q (i*s+c) ty (a.eval x).cells.toList 0 l w hh K c2;simp only[bkA]at y;obtain⟨g1,g2⟩:=hW.Mq hq hh (cs:=(l.toList.take (i*s+c)++(a.eval x).cells.toList++l.toList.drop (i*s+c+(a.eval x).cells.toList.length)).toArray)
      (by rw[List.size_toArray];simp only[bhW,biI,bjZ];have e:Z' l.toList=l.size:=bkX;omega)
      (hR.store Y R Z c2 (λj p u hp hu=>c3 j p u hp (by simpa using hu)))
     refine⟨_,?_,g1,g2⟩;unfold execOp;rw[ho];have V:¬((a.eval x).cells.size≠k):=by rw[c1,M];simp
     simp[S,Instr.storeAt,Instr.sureAddr,storeVar,mX hs,V,y]
    ·cases d
   ·cases d
  ·cases d
 ·cases d
end
open Go Go.RowKit
section
variable {T:Tbl} {n:Nat} {E:Env} {F:PF} {H:PH} {a:Act} {w:World}
theorem Tv{s:Nat}{pv:PV}{v:Value}{rows:P2_}(P:Program)(hW:cB E H w)(W:bM E pv v)(h:eA H s pv=some rows) :
  ∃N cap,∃news:List Value,v=.slice N rows.length cap/\Z' news=Z' rows*s/\(∀u∈news,u.oneCell'=true)/\(∀r∈rows,Z' r=s) /\
   (∀i j q,at2 rows i j=some q->∃u,news[i*s+j]?=some u/\bM E q u) /\
   ∀A:World,A.heap=w.heap->(Builtin.firstCells s rows.length v).run P A=.ok news.toArray A:=by
 obtain⟨N,cap,rfl,R,e,V⟩:=Hz hW W h;by_cases K:rows=[]
 ·subst K;refine⟨N,cap,[],rfl,by simp,by simp,by simp,λi j q p=>by simp[at2]at p,λA _=>?_⟩;cases N with
  |none=>simp[Builtin.firstCells]
  |some x=>simp[Builtin.firstCells,Go.loadCells,Go.loadCellsFrom]
 ·obtain⟨b,y,rfl,d⟩:=V K;have B:∀k,k<Z' rows*s->∃u q,at2 rows (k/s) (k%s)=some q/\w.cell? ⟨b,y+k,none⟩=some u/\u.oneCell'=true/\bM E q u:=by
   intro k l;have S:0<s:=by
    rcases bkM s with h|h
    ·subst h;simp at l
    ·exact h
   have Q:k/s<Z' rows:=(blD S).2 l;have X:k%s<s:=bjR _ S;have U:k/s*s+k%s=k:=by rw[biW];exact blQ k s
   have p:∃q,at2 rows (k/s) (k%s)=some q:=by have Z:=e rows[k/s] (bhS Q);exact⟨rows[k/s][k%s]'Om,by simp[at2,Q,biD (Om:k%s<rows[k/s].length)]⟩
   obtain⟨q,p⟩:=p;obtain⟨u,g1,g2,g3⟩:=d _ _ q p;rw[U]at g1;exact⟨u,q,p,g1,g2,g3⟩
  refine⟨_,cap,(bhP (Z' rows*s)).map λk=>(w.cell? ⟨b,y+k,none⟩).getD undef,rfl,by simp,?_,e,?_,?_⟩
  ·intro u M;simp only[biJ,biM]at M;obtain⟨k,l,rfl⟩:=M;obtain⟨u,q,-,g1,g2,-⟩:=B k l;simp[g1,g2]
  ·intro i j q p;obtain⟨hi,Y⟩:=EJ e p;have hlt:i*s+j<Z' rows*s:=by have:(i+1)*s<=Z' rows*s:=biX _ hi;rw[bkI]at this;omega
   obtain⟨u,g1,g2,g3⟩:=d i j q p;refine⟨u,?_,g3⟩;rw[biL,blX hlt];simp[g1]
  ·intro A O;refine run_firstCells_some A s rows.length _ _ cap _ bH (λj u M=>?_);rw[add_plain];simp only[biL,biE]at M;obtain⟨k,l,rfl⟩:=M;have J:j<Z' rows*s:=by
    rcases biR j (Z' rows*s)with h'|h'
    ·exact h'
    ·rw[bjJ (by simpa using h')]at l;cases l
   rw[blX J]at l;cases l;obtain⟨u,q,-,g1,-,-⟩:=B j J;have:A.cell? ⟨b,y+j,none⟩=w.cell? ⟨b,y+j,none⟩:=by simp[World.cell?,O]
   rw[this,g1];rfl
theorem KR{t ty e:TypeId}{i:TypeInfo}(y:T.P.underlying t=some (.slice e))(hi:T.P.info? e=some i)(base:Option Addr)(l d c:Nat)(u:Option Addr)(p:l<=d)
  (x:(Builtin.firstCells i.size 0 (.slice u 0 c)).run T.P w=.ok #[] w):(Builtin.append_ #[t,t] ty #[.slice base l d,.slice u 0 c]).run T.P w=.ok (.slice base l d) w:=by
 cases base with
 |none=>simp[Builtin.append_,run_underlying y,sizeOf,typeInfo,hi,Builtin.lenOf,p,x]
 |some b=>simp[Builtin.append_,run_underlying y,sizeOf,typeInfo,hi,Builtin.lenOf,p,x,storeCells]
theorem akH{t ty e bt:TypeId}{i:TypeInfo}(N:T.P.underlying t=some (.slice e))(hi:T.P.info? e=some i)(g d p m c:Nat)(B:Option Addr)(l:Array Value)(M:w.heap[g]?=some (.cells l bt (0,0)))
  (news:List Value) (O:Z' news=m*i.size) (K:(Builtin.firstCells i.size m (.slice B m c)).run T.P w=.ok news.toArray w) (J:∀u∈news,u.oneCell'=true) (x:d+m<=p) (y:d*i.size+Z' news<=l.size) :
  (Builtin.append_ #[t,t] ty #[.slice (some ⟨g,0,none⟩) d p,.slice B m c]).run T.P w =
   .ok (.slice (some ⟨g,0,none⟩) (d+m) p) (w.setRow g (l.toList.take (d*i.size)++news++l.toList.drop (d*i.size+Z' news)).toArray):=by
 have A:=run_storeCells_at T.P g (d*i.size) bt news 0 l w M (by simpa using y) J;simp only[bkA]at A;simp[Builtin.append_,run_underlying N,sizeOf,typeInfo,hi,Builtin.lenOf,x,K,Addr.add_lit,A]
theorem Wf{t ty e bt:TypeId}{i:TypeInfo}(O:T.P.underlying t=some (.slice e))(hi:T.P.info? e=some i)(g d l x m c:Nat)(J:Option Addr)(p:Array Value)(N:w.heap[g]?=some (.cells p bt (0,0)))
  (news:List Value) (Q:Z' news=m*i.size) (M:(Builtin.firstCells i.size m (.slice J m c)).run T.P w=.ok news.toArray w) (K:∀u∈news,u.oneCell'=true) (y:l+m<=x) (A:d+l*i.size+Z' news<=p.size) :
  (Builtin.append_ #[t,t] ty #[.slice (some ⟨g,d,none⟩) l x,.slice J m c]).run T.P w =
   .ok (.slice (some ⟨g,d,none⟩) (l+m) x) (w.setRow g (p.toList.take (d+l*i.size)++news++p.toList.drop (d+l*i.size+Z' news)).toArray):=by
 have B:=run_storeCells_at T.P g (d+l*i.size) bt news 0 p w N (by simpa using A) K;simp only[bkA]at B;simp[Builtin.append_,run_underlying O,sizeOf,typeInfo,hi,Builtin.lenOf,y,M,add_plain,B]
theorem akG{t ty e:TypeId}{i:TypeInfo}{z:Value}(N:T.P.underlying t=some (.slice e))(hi:T.P.info? e=some i)(O:i.zero=some z)(base:Option Addr)(d l m c:Nat)(y:Option Addr)(bhM news:List Value)
  (M:(Builtin.firstCells i.size d (.slice base d l)).run T.P w.drew=.ok bhM.toArray w.drew) (B:(Builtin.firstCells i.size m (.slice y m c)).run T.P w.drew=.ok news.toArray w.drew)
  (J:l<d+m) (x:d+m<=maxLen) (hb:(d+m)*i.bytes<=140737488355328) :
  (Builtin.append_ #[t,t] ty #[.slice base d l,.slice y m c]).run T.P w =
   .ok (.slice (some ⟨w.heap.size,0,none⟩) (d+m) (grownCap w (d+m) l e))
    (w.drew.alloc (.cells (bhM.toArray++news.toArray++Builtin.zeroCells z.cells (grownCap w (d+m) l e-(d+m))) e)):=by
 have K:¬(d+m<=l):=Om;simp only[maxLen]at x;have u:¬(9223372036854775807<((d:Int)+(m:Int))):=Om;have A:=growslice_fits J hb;have p:¬(281474976710656<Builtin.nextslicecap (d+m) l*i.bytes):=Om;simp[Builtin.append_,run_underlying N,sizeOf,typeInfo,zeroValue,hi,O,Builtin.lenOf,K,u,p,Question.forced,B,M,newRow,grownCap];congr 2;apply Array.ext';simp[biY]
theorem cB.drew(hW:cB E H w):cB E H w.drew:=⟨hW.g,λo x d=>⟨(hW.h o x d).1,(hW.h o x d).2.mono (.refl E) rfl⟩,hW.s⟩
theorem Ext.Ma{d:Env}{H':PH}{e:World}(h:Ext E H w.drew d H' e):Ext E H w d H' e:=⟨h.env,h.os,h.tape,h.output,h.size,h.block,h.new,h.newG⟩
theorem aEW{rs src:P2_}(i j:Nat):at2 (rs++src) i j=if i<rs.length then at2 rs i j else at2 src (i-Z' rs) j:=by
 unfold at2;rw[List.getElem?_append];split<;>rfl
theorem pE.join{s:Nat}{rs src:P2_}{bhM news:List Value}{tail:List Value}(x:∀r∈rs,Z' r=s)(y:∀r∈src,Z' r=s)(d:Z' bhM=Z' rs*s)(p:Z' news=Z' src*s)
  (B:∀i j q,at2 rs i j=some q->∃u,bhM[i*s+j]?=some u/\u.oneCell'=true/\bM E q u) (A:∀i j q,at2 src i j=some q->∃u,news[i*s+j]?=some u/\u.oneCell'=true/\bM E q u) :
  pE E s (rs++src) (bhM++news++tail).toArray:=by
 refine⟨λr J=>?_,?_,λi j q l=>?_⟩
 ·rcases bjB.1 J with h|h
  ·exact x r h
  ·exact y r h
 ·rw[List.size_toArray,bhW,bhW,bhW,d,p,bjC];omega
 ·rw[aEW]at l;rw[List.getElem?_toArray];split at l
  ·rename_i hi;obtain⟨u,g1,g2,g3⟩:=B i j q l;refine⟨u,?_,g2,g3⟩;have hlt:i*s+j<Z' bhM:=by
    rcases biR (i*s+j) bhM.length with h'|h'
    ·exact h'
    ·rw[bjJ h']at g1;cases g1
   rw[biY,bkE hlt];exact g1
  ·rename_i hi;obtain⟨u,g1,g2,g3⟩:=A _ j q l;refine⟨u,?_,g2,g3⟩;have hlt:(i-Z' rs)*s+j<Z' news:=by
    rcases biR ((i-Z' rs)*s+j) news.length with h'|h'
    ·exact h'
    ·rw[bjJ h']at g1;cases g1
   have e:i*s+j=Z' bhM+((i-Z' rs)*s+j):=by rw[d,<-bkL,<-bjC];congr 2;omega
   rw[e,biY,bkF Om,Nat.add_sub_cancel_left,bkE hlt];exact g1
theorem cB.dead(hW:cB E H w){o:Nat}{x:aY}(l:H o=some x):cB E (H.set o .dead) w/\Ext E H w E (H.set o .dead) w:=by
 refine⟨⟨λb ds hb=>⟨λy i=>?_,(hW.g b ds hb).2⟩,λq y d=>?_,hW.s⟩,⟨.refl E,rfl,rfl,rfl,bhV _,λ_ _ _=>rfl,λq y d=>?_,λb ds hb=>.inl hb⟩⟩
 ·rw[dE]at i;split at i
  ·cases i;rfl
  ·exact(hW.g b ds hb).1 y i
 ·rw[dE]at d;split at d
  ·rename_i e;subst e;cases d;exact⟨(hW.h q x l).1,trivial⟩
  ·exact hW.h q y d
 ·rw[dE]at d;split at d
  ·rename_i e;subst e;exact .inl ⟨x,l⟩
  ·exact .inl ⟨y,d⟩
end
open Go Go.RowKit
section
variable {T:Tbl} {n:Nat} {E:Env} {F:PF} {H:PH} {a:Act} {w:World}
theorem aGT(w:World)(d i:Nat)(e:TypeId):d<=grownCap w d i e:=grownCap_ge w d i e
theorem pD{o:Oper}{c:Call}{x y:Operand}{t:TypeId}{v:Value}{l:World}(u:o.op=.call c)(e:c.callee=.builtin .append)(d:c.args.toList=[x,y])(i:c.argTypes.toList=[t,t])
  (h:(Builtin.append_ #[t,t] o.type #[a.eval x,a.eval y]).run T.P w=.ok v l):(execOp a.eval o).run T.P w=.ok (.value v) l:=by
 unfold execOp;rw[u];have p:c.argTypes=#[t,t]:=by apply Array.ext';simp[i]
 have e2:=aEV d a.eval;simp[resolve,e,invoke,builtin,p,e2,h]
theorem cB.trim(hW:cB E H w){o s k:Nat}{rs:P2_}(A:H o=some (.rows s rs)):cB E (H.set o (.rows s (rs.take k))) w/\Ext E H w E (H.set o (.rows s (rs.take k))) w:=by
 refine⟨⟨λb ds hb=>⟨λy J=>?_,(hW.g b ds hb).2⟩,λq y d=>?_,hW.s⟩,⟨.refl E,rfl,rfl,rfl,bhV _,λ_ _ _=>rfl,λq y d=>?_,λb ds hb=>.inl hb⟩⟩
 ·rw[dE]at J;split at J
  ·rename_i e;subst e;have:=(hW.g b ds hb).1 _ A;cases this
  ·exact(hW.g b ds hb).1 y J
 ·rw[dE]at d;split at d
  ·rename_i e;subst e;cases d;obtain⟨M,x,ty,N,B,u,K,l⟩:=hW.h q _ A;refine⟨M,x,ty,N,B,λr O=>u r (bmB O),?_,λi j p hp=>l i j p ?_⟩
   ·have:(rs.take k).length*s<=Z' rs*s:=biX _ (by rw[biI];omega);omega
   ·unfold at2 at hp ⊢;rw[blL]at hp;split at hp
    ·exact hp
    ·simp at hp
  ·exact hW.h q y d
 ·rw[dE]at d;split at d
  ·rename_i e;subst e;exact .inl ⟨_,A⟩
  ·exact .inl ⟨y,d⟩
theorem X7{o:Oper}{c:Call}{x y:Operand}{t e:TypeId}{i:TypeInfo}{px py:PV}{K:PV->PH->Prop}(ho:o.op=.call c)(ρ:c.callee=.builtin .append)(ο:c.args.toList=[x,y])(σ:c.argTypes.toList=[t,t])
  (ht:T.P.underlying t=some (.slice e)) (hi:T.P.info? e=some i) (hz:i.zero.isSome=true) (R':(i.zero.map (·.cells.size))=some i.size) (h0:0<i.size)
  (hx:bM E px (a.eval x)) (hy:bM E py (a.eval y)) (hK:sG H i.size i.bytes px py K) (hW:cB E H w):X1 T.P E H w o a K:=by
 obtain⟨z,hz⟩:=Option.isSome_iff_exists.1 hz;have S':z.cells.size=i.size:=by simpa[hz]using R'
 obtain⟨src,y',hK⟩:=hK;obtain⟨ad,cap,news,U,δ,Δ,ξ,γ,O⟩:=Tv T.P hW hy y';have grow:∀(base:Option Addr)(d l:Nat)(rs:P2_) (bhM:List Value),(Builtin.firstCells i.size d (.slice base d l)).run T.P w.drew=.ok bhM.toArray w.drew->Z' bhM=d*i.size->Z' rs=d ->
   (∀r∈rs,Z' r=i.size)->(∀R j q,at2 rs R j=some q->∃u,bhM[R*i.size+j]?=some u/\u.oneCell'=true/\bM E q u)->l<d+Z' src->roomFor d src.length i.bytes->a.eval x=.slice base d l ->
   ∀(H1:PH),cB E H1 w->Ext E H w E H1 w->∃v w' E' q,(execOp a.eval o).run T.P w=.ok (.value v) w'/\H1 q=none/\bM E' (.osl q i.size 0 (d+Z' src)) v/\cB E' (H1.set q (.rows i.size (rs++src))) w'/\Ext E H w E' (H1.set q (.rows i.size (rs++src))) w':=by
  intro base d l rs bhM φ ν α Q' O' hlt M Q H1 p' D';have J:=akG (w:=w) (ty:=o.type) ht hi hz base d l src.length cap ad bhM news φ (by rw[<-U];exact O w.drew rfl) hlt M.1 M.2;have I':=aGT w (d+Z' src) l e;have G':=grownCap_le_maxLen w (d+Z' src) l e M.1;generalize W':grownCap w (d+Z' src) l e=gc at *
  have L':∀R j q,at2 src R j=some q->∃u,news[R*i.size+j]?=some u/\u.oneCell'=true/\bM E q u:=λR j q hq=>by obtain⟨u,g1,g2⟩:=γ R j q hq;exact⟨u,g1,Δ u (bjQ g1),g2⟩
  have hR:=pE.join (E:=E) (tail:=(Builtin.zeroCells z.cells (gc-(d+Z' src))).toList) Q' ξ (by rw[ν,α]) δ O' L';have Φ:(bhM.toArray++news.toArray++Builtin.zeroCells z.cells (gc-(d+Z' src)))=(bhM++news++(Builtin.zeroCells z.cells (gc-(d+Z' src))).toList).toArray:=by apply Array.ext';simp
  rw[Φ]at J;have ζ:(bhM++news++(Builtin.zeroCells z.cells (gc-(d+Z' src))).toList).toArray.size=gc*i.size:=by
   have ez:(Builtin.zeroCells z.cells (gc-(d+Z' src))).toList.length=(gc-(d+Z' src))*i.size:=by rw[bkX,size_zeroCells,S']
   rw[List.size_toArray,bhW,bhW,ez,ν,δ,<-bjC,<-bjC];congr 1;omega
  obtain⟨g1,g2⟩:=p'.drew.cd e hR;refine⟨_,_,_,w.heap.size,pD ho ρ ο σ (by rw[Q,U];exact J),p'.aHB,?_,g1,D'.trans g2.Ma⟩;refine .osl rfl rfl (.inr bH) I' G' (ajK _ _ _) ?_;rw[ζ];omega
 split at hK
 ·
  have B':a.eval x=.slice none 0 0:=by generalize a.eval x=v at hx;cases hx;rfl
  obtain⟨M,u',k'⟩:=hK;by_cases ε:src=[]
  ·subst ε;have η:=O w rfl;have Γ:news=[]:=List.eq_nil_of_length_eq_zero (by rw[δ];simp);subst Γ;rw[U]at η;have J:=KR (w:=w) (ty:=o.type) ht hi none 0 0 cap ad (bhV _) η;exact⟨_,_,w,E,H,.aK,pD ho ρ ο σ (by rw[B',U];exact J),.inl rfl,.aK,hW,.refl E H w,u' rfl⟩
  ·have b':0<Z' src:=List.length_pos_iff.2 ε;obtain⟨v,w',E',q,g1,g2,g3,g4,g5⟩:=grow none 0 0 [] [] (by simp[Builtin.firstCells]) bH rfl bH (λR j q hq=>by simp[at2]at hq) Om M B' H hW (.refl E H w);refine⟨v,_,w',E',_,_,g1,.inl rfl,g3,g4,g5,?_⟩;have:=k' ε q g2;simpa using this
 ·
  rename_i q s len;obtain⟨rfl,-,M,rs,hq,P',X,μ⟩:=hK;have f':∃b l,a.eval x=.slice (some b) len l:=by generalize a.eval x=v at hx;cases hx;exact⟨_,_,rfl⟩
  obtain⟨b,l,Q⟩:=f';obtain⟨d,rfl⟩:∃d,d=len:=⟨_,rfl⟩
  ·rw[Q]at hx;cases hx with
   |osl hb l' Z θ ι Θ W=>
   rename_i N;obtain⟨v',A,ty,hh,ζ,j',Ω,Ξ⟩:=hW.h q _ hq;obtain⟨τ,c'⟩:=hW.trim (k:=d) hq;obtain⟨-,o',U',χ,z',S,Λ,β⟩:=τ.h q (.rows i.size (rs.take d)) (by rw[dE,aG rfl]);rw[hh]at χ;cases χ;have α:(rs.take d).length=d:=by rw[biI];omega
   generalize x':rs.take d=V at *
   have d':N=A.size:=by rw[ζ]at Θ;cases Θ;rfl
   subst d';simp only[Nat.zero_mul,biN]at W Z;by_cases ε:src=[]
   ·subst ε;have η:=O w rfl;have Γ:news=[]:=List.eq_nil_of_length_eq_zero (by rw[δ];simp);subst Γ;rw[U]at η;have J:=KR (w:=w) (ty:=o.type) ht hi (some b) d l cap ad θ η;simp only[bjI,bkK,bkA]at X;exact⟨_,_,w,E,_,.osl q i.size 0 d,pD ho ρ ο σ (by rw[Q,U];exact J),.inl rfl,.osl hb l' (by simpa using Z) θ ι ζ Om,τ,c',X⟩
   ·have b':0<Z' src:=List.length_pos_iff.2 ε;by_cases Y:d+Z' src<=l
    ·have υ:b=⟨q,0,none⟩:=by
      have:b.off=0:=by
       rcases Z with h|h
       ·omega
       ·exact h
      cases b;simp_all
     subst υ;have ω:(d+Z' src)*i.size<=l*i.size:=biX _ Y;rw[bjC]at ω;have J:=akH (w:=w) (ty:=o.type) ht hi q d l src.length cap ad A hh news δ (by rw[<-U];exact O w rfl) Δ Y Om;have g':(A.toList.take (d*i.size)).length=Z' V*i.size:=by rw[biI,bkX,α];omega
     have e':=pE.join (E:=E) (s:=i.size) (rs:=V) (src:=src) (bhM:=A.toList.take (d*i.size)) (news:=news) (tail:=A.toList.drop (d*i.size+Z' news)) S ξ g' δ
      (λR j p hp=>by obtain⟨u,g1,g2,g3⟩:=β R j p hp;obtain⟨ψ,r'⟩:=EJ S hp;refine⟨u,?_,g2,g3⟩;have:(R+1)*i.size<=Z' V*i.size:=biX _ ψ;rw[bkI,α]at this;rw[blL,aG Om,Array.getElem?_toList];exact g1)
      (λR j p hp=>by obtain⟨u,g1,g2⟩:=γ R j p hp;exact⟨u,g1,Δ u (bjQ g1),g2⟩)
     obtain⟨g1,g2⟩:=hW.Mq hq hh (rs':=V++src) (cs:=(A.toList.take (d*i.size)++news++A.toList.drop (d*i.size+Z' news)).toArray)
      (by rw[List.size_toArray];simp only[bhW,biI,bjZ];have e:Z' A.toList=A.size:=bkX;omega) e'
     exact⟨_,_,_,E,_,.osl q i.size 0 (d+Z' src),pD ho ρ ο σ (by rw[Q,U];exact J),.inl rfl,.osl rfl rfl (.inr bH) Y ι ζ Om,g1,g2,X⟩
    ·have φ:∃bhM:List Value,(Builtin.firstCells i.size d (.slice (some b) d l)).run T.P w.drew=.ok bhM.toArray w.drew/\Z' bhM=d*i.size /\
       (∀R j p,at2 V R j=some p->∃u,bhM[R*i.size+j]?=some u/\u.oneCell'=true/\bM E p u):=by
      by_cases J':d=0
      ·subst J';refine⟨[],run_firstCells_some w.drew i.size 0 b 0 l [] bH bH,by simp,λR j p hp=>?_⟩;have:=(EJ S hp).1;omega
      ·have υ:b=⟨q,0,none⟩:=by
        have:b.off=0:=by
         rcases Z with h|h
         ·omega
         ·exact h
        cases b;simp_all
       subst υ;have s':(A.toList.take (d*i.size)).length=d*i.size:=by rw[biI,bkX];rw[α]at Λ;omega
       refine⟨A.toList.take (d*i.size),run_firstCells_some w.drew i.size d _ d l _ s' (λj u hu=>?_),s',λR j p hp=>?_⟩
       ·rw[add_plain,biN];rw[blL]at hu;split at hu
        ·rw[Array.getElem?_toList]at hu;show w.cell? ⟨q,j,none⟩=some u;rw[cell_of_row w q j A ty (0,0) hh];exact hu
        ·cases hu
       ·obtain⟨u,g1,g2,g3⟩:=β R j p hp;obtain⟨ψ,r'⟩:=EJ S hp;refine⟨u,?_,g2,g3⟩;have:(R+1)*i.size<=Z' V*i.size:=biX _ ψ;rw[bkI,α]at this;rw[blL,aG Om,Array.getElem?_toList];exact g1
     obtain⟨bhM,φ,ν,N'⟩:=φ;obtain⟨v,w',E',q',g1,g2,g3,g4,g5⟩:=grow (some b) d l V bhM φ ν α S N' Om M Q H hW (.refl E H w);exact⟨v,_,w',E',_,_,g1,.inl rfl,g3,g4,g5,μ q' g2⟩
 ·
  rename_i q s B len;obtain⟨rfl,M,rs,hq,K',X,μ⟩:=hK;have m':eA H i.size (.osl q i.size (B+1) len)=some ((rs.drop (B+1)).take len):=by simp only[eA,if_true,hq,true_and,aG K']
  obtain⟨V',l,bhM,Q,ν,M',h',Ψ,κ⟩:=Tv T.P hW hx m';have A':((rs.drop (B+1)).take len).length=len:=by rw[biI,bjZ];omega
  rw[A']at Q κ ν;have C':=hx;rw[Q]at C';obtain⟨v',A,ty,hh,ζ,j',Ω,Ξ⟩:=hW.h q _ hq;cases C' with
  |osl hb l' Z θ ι Θ W=>
  rename_i N b;have d':N=A.size:=by rw[ζ]at Θ;cases Θ;rfl
  subst d';obtain⟨τ,c'⟩:=hW.trim (k:=B+1+len) hq;have X':(B+1)*i.size+l*i.size<=A.size:=W;clear W;by_cases ε:src=[]
  ·subst ε;have η:=O w rfl;have Γ:news=[]:=List.eq_nil_of_length_eq_zero (by rw[δ];simp);subst Γ;rw[U]at η;have J:=KR (w:=w) (ty:=o.type) ht hi (some b) len l cap ad θ η;simp only[bjI,bkK,bkA]at X;exact⟨_,_,w,E,_,.osl q i.size (B+1) len,pD ho ρ ο σ (by rw[Q,U];exact J),.inl rfl,.osl hb l' Z θ ι ζ Om,τ,c',X⟩
  ·have b':0<Z' src:=List.length_pos_iff.2 ε;by_cases Y:len+Z' src<=l
   ·obtain⟨-,o',U',χ,z',S,Λ,β⟩:=τ.h q (.rows i.size (rs.take (B+1+len))) (by rw[dE,aG rfl]);rw[hh]at χ;cases χ;have α:(rs.take (B+1+len)).length=B+1+len:=by rw[biI];omega
    generalize x':rs.take (B+1+len)=V at *
    have υ:b=⟨q,(B+1)*i.size,none⟩:=by
     have:b.off=(B+1)*i.size:=by
      rcases Z with h|h
      ·omega
      ·exact h
     cases b;simp_all
    subst υ;have ω:(len+Z' src)*i.size<=l*i.size:=biX _ Y;rw[bjC]at ω;have t':(B+1+len)*i.size=(B+1)*i.size+len*i.size:=bjC ..;have J:=Wf (w:=w) (ty:=o.type) ht hi q ((B+1)*i.size) len l src.length cap ad A hh news δ (by rw[<-U];exact O w rfl) Δ Y Om;rw[<-t']at J;have g':(A.toList.take ((B+1+len)*i.size)).length=Z' V*i.size:=by rw[biI,bkX,α];omega
    have e':=pE.join (E:=E) (s:=i.size) (rs:=V) (src:=src) (bhM:=A.toList.take ((B+1+len)*i.size)) (news:=news) (tail:=A.toList.drop ((B+1+len)*i.size+Z' news)) S ξ g' δ
     (λR j p hp=>by obtain⟨u,g1,g2,g3⟩:=β R j p hp;obtain⟨ψ,r'⟩:=EJ S hp;refine⟨u,?_,g2,g3⟩;have:(R+1)*i.size<=Z' V*i.size:=biX _ ψ;rw[bkI,α]at this;rw[blL,aG Om,Array.getElem?_toList];exact g1)
     (λR j p hp=>by obtain⟨u,g1,g2⟩:=γ R j p hp;exact⟨u,g1,Δ u (bjQ g1),g2⟩)
    obtain⟨g1,g2⟩:=hW.Mq hq hh (rs':=V++src) (cs:=(A.toList.take ((B+1+len)*i.size)++news++A.toList.drop ((B+1+len)*i.size+Z' news)).toArray)
     (by rw[List.size_toArray];simp only[bhW,biI,bjZ];have e:Z' A.toList=A.size:=bkX;omega) e'
    exact⟨_,_,_,E,_,.osl q i.size (B+1) (len+Z' src),pD ho ρ ο σ (by rw[Q,U];exact J),.inl rfl,.osl rfl rfl (.inr rfl) Y ι ζ Om,g1,g2,X⟩
   ·obtain⟨v,w',E',q',g1,g2,g3,g4,g5⟩:=grow (some b) len l ((rs.drop (B+1)).take len) bhM (by rw[<-Q];exact κ w.drew rfl) ν A' h'
     (λR j p hp=>by obtain⟨u,g1,g2⟩:=Ψ R j p hp;exact⟨u,g1,M' u (bjQ g1),g2⟩) Om M Q H hW (.refl E H w)
    exact⟨v,_,w',E',_,_,g1,.inl rfl,g3,g4,g5,μ q' g2⟩
 ·cases hK
end
open Go Go.RowKit
section
variable {ds:List Deferred} {T:Tbl} {n:Nat} {E:Env} {F:PF} {H:PH} {a:Act} {w:World}
def oneOf(d:Array Value)(k:Nat):Value:=if((d[k]?).getD (.int .i64 0)).oneCell' then(d[k]?).getD (.int .i64 0)else .int .i64 0
theorem aOS(d:Array Value)(k:Nat):(oneOf d k).oneCell'=true:=by
 unfold oneOf;split
 ·assumption
 ·rfl
theorem u9{o s:Nat}{rs:P2_}{l:Array Value}{M:Env}(x:E.le M)(hG:M.G o=some l)(α:E.sz o=some l.size)(V:pE E s rs l){pv:PV}{v:Value}(h:bM E pv v) :
  bM M (pv.dV o s rs) v:=by
 unfold PV.dV;split
 ·rename_i q s' d len;split
  ·rename_i e;subst e;split
   ·rename_i hc;obtain⟨rfl,W⟩:=hc;cases h with
    |osl hb U J A B hn S=>
    rename_i cap N O;have X:((rs.drop d).take len).length=len:=by rw[biI,bjZ];omega
    have Q:∀i j p,at2 ((rs.drop d).take len) i j=some p->at2 rs (d+i) j=some p:=by
     intro i j p hp;unfold at2 at hp ⊢;rw[blL]at hp;split at hp
     ·rw[blW]at hp;exact hp
     ·simp at hp
    have K:bM M (.sl s' ((rs.drop d).take len)) (.slice (some O) ((rs.drop d).take len).length cap):=by
     have Z:∀i j p,at2 ((rs.drop d).take len) i j=some p->∃u,l[(d+i)*s'+j]?=some u/\bM E p u/\oneOf l ((d+i)*s'+j)=u:=by intro i j p hp;obtain⟨u,g1,g2,g3⟩:=V.2.2 _ _ _ (Q i j p hp);exact⟨u,g1,g3,by simp[oneOf,g1,g2]⟩
     refine .sl (λi j=>oneOf l ((d+i)*s'+j)) (by rw[X];exact A) B (λr hr=>V.1 r (List.mem_of_mem_drop (bmB hr))) (λR=>?_) (λi j=>aOS _ _) (λi j p hp=>?_)
     ·have Y:0<((rs.drop d).take len).length:=List.length_pos_iff.2 R;have y:O.off=d*s':=by
       rcases J with h|h
       ·omega
       ·exact h
      refine⟨O,rfl,U,λi j p hp=>?_⟩;obtain⟨u,g1,-,g3⟩:=Z i j p hp;rw[g3];unfold Env.cell;rw[hb,hG,blG,y];have e:d*s'+i*s'+j=(d+i)*s'+j:=by rw[bjC]
      rw[e];exact g1
     ·obtain⟨u,-,g2,g3⟩:=Z i j p hp;rw[g3];exact g2.mono x
    rw[X]at K;exact K
   ·exact .junk _
  ·exact h.mono x
 ·exact h.mono x
theorem aaS{o s:Nat}{rs:P2_}{d:Array Value}{l:Env}(e:E.le l)(x:l.G o=some d)(i:E.sz o=some d.size)(y:pE E s rs d){pv:PV}{v:Value}(h:bM E pv v) :
  bM l (pv.tO o s rs) v:=by
 unfold PV.tO;split
 ·cases h with
  |agg vs B A K=>
  refine .agg vs (by simpa using B) A (λj p u hp M=>?_);rw[biL,biE]at hp;obtain⟨q,J,rfl⟩:=hp;exact u9 e x i y (K j q u J M)
 ·exact u9 e x i y h
theorem a1P{o s:Nat}{rs:P2_}{d:Array Value}{l:Env}(e:E.le l)(x:l.G o=some d)(i:E.sz o=some d.size)(y:pE E s rs d){pv:PV}{v:Value}(h:bM E pv v) :
  bM l (pv.frz o s rs) v:=by
 unfold PV.frz;split
 ·cases h with
  |tup vs A J=>
  refine .tup vs (by simpa using A) (λj p u hp K=>?_);rw[biL,biE]at hp;obtain⟨q,B,rfl⟩:=hp;exact aaS e x i y (J j q u B K)
 ·exact aaS e x i y h
theorem cB.frz(hW:cB E H w){o s:Nat}{rs:P2_}(Y:H o=some (.rows s rs)):∃S,cB S (H.frz o s rs) w/\Ext E H w S (H.frz o s rs) w/\∀{pv:PV}{v:Value},bM E pv v->bM S (pv.frz o s rs) v:=by
 obtain⟨hlt,l,ty,hh,O,U,V,h3⟩:=hW.h o _ Y;have hR:pE E s rs l:=⟨U,V,h3⟩;have W:E.G o=none:=by
  cases h:E.G o with
  |none=>rfl
  |some ds=>have:=(hW.g o ds h).1 _ Y;cases this
 have A:E.le ⟨upd E.G o (some l),E.sz,E.num⟩:=by
  refine⟨λb ds hb=>?_,λb m h=>h,rfl⟩;have X:b≠o:=λe=>by subst e;rw[W]at hb;cases hb
  simp only;rw[j5 _ _ X];exact hb
 have M:(⟨upd E.G o (some l),E.sz,E.num⟩:Env).G o=some l:=by simp[upd]
 have d:∀q,(H.frz o s rs).f q=if q=o then none else(H q).map (aY.frz o s rs):=λq=>rfl
 refine⟨⟨upd E.G o (some l),E.sz,E.num⟩,⟨λb ds hb=>?_,λq x B=>?_,hW.s⟩,⟨A,rfl,rfl,rfl,bhV _,λ_ _ _=>rfl,λq x B=>?_,λb ds hb=>?_⟩,λh=>a1P A M O hR h⟩
 ·simp only[upd]at hb;split at hb
  ·rename_i e;subst e;cases hb;refine⟨λx Q=>?_,ty,(0,0),hh⟩;rw[d,aG rfl]at Q;cases Q
  ·rename_i e;obtain⟨g1,g2⟩:=hW.g b ds hb;refine⟨λx Q=>?_,g2⟩;rw[d,aE e,biE]at Q;obtain⟨y,R,rfl⟩:=Q;have:=g1 y R;subst this;rfl
 ·rw[d]at B;split at B
  ·cases B
  ·rw[biE]at B;obtain⟨y,R,rfl⟩:=B;obtain⟨g1,g2⟩:=hW.h q y R;refine⟨g1,?_⟩;cases y with
   |rows s' rs'=>
    obtain⟨K,γ,k1,k2,k3,k4,k5⟩:=g2;refine⟨K,γ,k1,k2,?_,by simpa using k4,λi j p hp=>?_⟩
    ·intro r N;simp only[biJ]at N;obtain⟨r',β,rfl⟩:=N;simpa using k3 r' β
    ·simp only[at2,biL,Option.bind_map]at hp;have Z:∃J,at2 rs' i j=some J/\p=J.dV o s rs:=by
      unfold at2;cases N:rs'[i]? with
      |none=>simp[N]at hp
      |some r =>simp only[N,blG,Function.comp,biL,biE]at hp ⊢;obtain⟨J,U,V⟩:=hp;exact⟨J,U,V.symm⟩
     obtain⟨J,α,rfl⟩:=Z;obtain⟨u,m1,m2,m3⟩:=k5 i j J α;exact⟨u,m1,m2,u9 A M O hR m3⟩
   |map es=>exact b8.mono A rfl g2
   |loop F n t δ ε=>exact b8.mono A rfl g2
   |dead=>trivial
 ·rw[d]at B;split at B
  ·cases B
  ·rw[biE]at B;obtain⟨y,R,-⟩:=B;exact .inl ⟨y,R⟩
 ·simp only[upd]at hb;split at hb
  ·rename_i e;subst e;exact .inr (.inl ⟨_,Y⟩)
  ·exact .inl hb
theorem kN.sound{F e:PF}{H H':PH}(h:kN F H e H'):∀{E:Env},cB E H w->∃d,cB d H' w/\Ext E H w d H' w/\∀(f:Nat->Value),(∀i pv,F i=some pv->bM E pv (f i))->∀i pv,e i=some pv->bM d pv (f i):=by
 induction h with
 |refl F H=>intro E hW;exact⟨E,hW,.refl E H w,λf h=>h⟩
 |step o A _ J =>intro E hW;obtain⟨M,p,u,x⟩:=hW.frz A;obtain⟨l,k1,k2,K⟩:=J p;refine⟨l,k1,u.trans k2,λf y=>K f λi pv hi=>?_⟩;simp only[PF.frz,biE]at hi;obtain⟨q,B,rfl⟩:=hi;exact x (y i q B)
theorem eQ.frz{l:PF}{H':PH}(e:eQ ds n E F a)(hW:cB E H w)(h:kN F H l H'):∃d,eQ ds n d l a/\cB d H' w/\Ext E H w d H' w:=by
 obtain⟨d,p,u,x⟩:=h.sound hW;exact⟨d,⟨e.size,e.defers,x (λi=>a.tmps.getD i undef) e.t⟩,p,u⟩
end
open Go Go.RowKit
section
variable {T:Tbl} {n:Nat} {E:Env} {F:PF} {H:PH} {a:Act} {w:World}
theorem p4(k:List KS):∀(L:List (List KS × PV)) (i j:Nat),(tN k L i).map (·.2)=(tN k L j).map (·.2)
 |[],_,_=>rfl
 |e::L,i,j=>by
  simp only[tN];split
  ·rfl
  ·exact p4 k L _ _
theorem rW(e:List KS × PV)(L:List (List KS × PV))(k:List KS):mapOf (e::L) k=if e.1=k then some e.2 else mapOf L k:=by
 unfold mapOf;simp only[tN];split
 ·rfl
 ·exact p4 k L _ _
theorem Er{d:List KS}{pv:PV}:∀{L:List (List KS × PV)},mapOf L d=none->mapOf (L++[(d,pv)])=nS.upd (mapOf L) d pv
 |[],_=>by
  funext k;simp only[blM,rW,nS.upd];by_cases h:d=k
  ·rw[aG h,aG h.symm]
  ·rw[aE h,aE (λe=>h e.symm)]
 |e::L,h=>by
  rw[rW]at h;split at h
  ·cases h
  ·rename_i l;funext k;rw[List.cons_append,rW,Er h];simp only[nS.upd,rW];by_cases i:e.1=k
   ·have:k≠d:=λe2=>l (i.trans e2);simp[i,this]
   ·simp[i]
theorem Ra{d:List KS}{pv:PV}:∀{L:List (List KS × PV)}{i j:Nat}{p:PV},tN d L i=some (j,p)->i<=j/\mapOf (L.set (j-i) (d,pv))=nS.upd (mapOf L) d pv
 |[],i,j,p,h=>by simp[tN]at h
 |e::L,i,j,p,h=>by
  simp only[tN]at h;split at h
  ·rename_i y;cases h;refine⟨bhV _,?_⟩;funext k;rw[bkR,blP,rW];simp only[nS.upd,rW];by_cases l:d=k
   ·subst l;simp
   ·have x:k≠d:=λe2=>l e2.symm;have u:e.1≠k:=λe2=>l (y.symm.trans e2);simp[l,x,u]
  ·rename_i y;obtain⟨l,x⟩:=Ra (pv:=pv) h;refine⟨by omega,?_⟩;funext k;rw[show j-i=(j-(i+1))+1 by omega,List.set_cons_succ,rW,x];simp only[nS.upd,rW];by_cases u:e.1=k
   ·have:k≠d:=λe2=>y (u.trans e2);simp[u,this]
   ·simp[u]
theorem cB.aPY(hW:cB E H w){o:Nat}{sh:MSh}{g:nS}{W p:Array MapEntry}{A d:Nat}{L:List (List KS × PV)}(Q:H o=some (.map sh g))(Y:w.heap[o]?=some (.map W A))(S:p.size=Z' L/\(L.map (·.1)).Nodup)
  (X:∀(i:Nat) e R,L[i]?=some e->p[i]?=some R->e.1.map KS.sh=sh.2/\R.key=kR sh e.1/\bM E e.2 R.val) :
  cB E (H.set o (.map sh (mapOf L))) { w with heap:=w.heap.setIfInBounds o (.map p d) }/\Ext E H w E (H.set o (.map sh (mapOf L))) { w with heap:=w.heap.setIfInBounds o (.map p d) }:=by
 have hlt:=(hW.h o _ Q).1;have l:∀b,b≠o->(w.heap.setIfInBounds o (.map p d))[b]?=w.heap[b]?:=λb hb=>Array.getElem?_setIfInBounds_ne (Ne.symm hb);have J:(w.heap.setIfInBounds o (.map p d))[o]?=some (.map p d):=by simp[hlt]
 have O:∀b ds,E.G b=some ds->b≠o:=λb ds hb e=>by subst e;have:=(hW.g b ds hb).1 _ Q;cases this
 refine⟨⟨λb ds hb=>?_,λq x y=>?_,λq m Z=>?_⟩,⟨.refl E,rfl,rfl,rfl,by simp,λb _ U=>l b (λe=>by subst e;rw[Q]at U;cases U),λq x y=>?_,λb ds hb=>.inl hb⟩⟩
 ·obtain⟨B,K,fr,N⟩:=hW.g b ds hb;have u:=O b ds hb;refine⟨λx V=>B x ?_,K,fr,(l b u).trans N⟩;rw[dE,aE u]at V;exact V
 ·rw[dE]at y;split at y
  ·rename_i e;subst e;cases y;exact⟨by simpa using hlt,p,d,L,J,S,rfl,X⟩
  ·rename_i e;obtain⟨B,N⟩:=hW.h q x y;exact⟨by simpa using B,N.mono (.refl E) (l q e)⟩
 ·obtain⟨M,K,fr,B,N⟩:=hW.s q m Z;have u:q≠o:=λe=>by subst e;rw[Y]at B;cases B
  exact⟨M,K,fr,(l q u).trans B,N⟩
 ·rw[dE]at y;split at y
  ·rename_i e;subst e;exact .inl ⟨_,Q⟩
  ·exact .inl ⟨x,y⟩
theorem sm(k:KS)(d:Nat):Instr.sameBits d k.val k.val=true:=by
 cases k<;>cases d<;>simp[KS.val,Instr.sameBits,beq_toListBytes]
theorem akK(sh:MSh)(k:List KS)(p:sh.1=false->∃s,k=[s]):Instr.sameBits 10000 (kR sh k) (kR sh k)=true:=by
 obtain⟨b,l⟩:=sh;cases b with
 |false =>obtain⟨s,rfl⟩:=p rfl;exact sm s 10000
 |true=>
  simp only[kR,if_true];obtain⟨m,u⟩:∃m:Nat,m=9999:=⟨_,rfl⟩;rw[show(10000:Nat)=m+1 by omega];simp only[Instr.sameBits,beq_self_eq_true,biA,biB];rintro⟨x,y⟩ e;have:∀(l:List Value),(x,y)∈l.zip l->x=y/\x∈l:=by
   intro l
   induction l with
   |nil=>intro h;simp at h
   |cons z A i=>
    intro h;simp only[List.zip_cons_cons,biG,Prod.mk.injEq]at h;rcases h with⟨rfl,rfl⟩|h
    ·exact⟨rfl,by simp⟩
    ·exact⟨(i h).1,by simp[(i h).2]⟩
  obtain⟨rfl,d⟩:=this _ e;simp only[biJ]at d;obtain⟨s,-,rfl⟩:=d;exact sm s m
theorem afJ{t kt et:TypeId}{sh:MSh}{pk pv:PV}{x k v:Value}{o:Nat}{g:nS}{d:List KS}(ht:T.P.underlying t=some (.map kt et))(Y:T.qR kt=some sh)
  (hx:bM E (.map o) x) (hk:bM E pk k) (hv:bM E pv v) (ho:H o=some (.map sh g)) (W:keyOf sh pk=some d) (hW:cB E H w) :
  ∃w',(Instr.mapUpdate t x k v).run T.P w=.ok () w'/\cB E (H.set o (.map sh (g.upd d pv))) w'/\Ext E H w E (H.set o (.map sh (g.upd d pv))) w':=by
 cases hx;obtain⟨hlt,Z,M,L,hh,⟨B,X⟩,rfl,u⟩:=hW.h o _ ho;obtain⟨ζ,A,δ⟩:=Qk hk W;have α:zL sh L Z.toList:=⟨by simpa using B,λi e S a b=>by have:=u i e S a (by simpa using b);exact⟨this.1,this.2.1⟩⟩;obtain⟨r,g1,g2⟩:=bf (w:=w) Y A α;subst ζ;have U:(getObj o).run T.P w=.ok (.map Z M) w:=by simp[getObj,Sem.run,hh]
 have K:∀x,(setObj o x).run T.P w=.ok () { w with heap:=w.heap.setIfInBounds o x }:=λx=>MapKept.run_setObj_map x hh;simp only[Instr.mapUpdate,Sem.run_bind,run_underlying ht,Result.andThen_ok,U,RW Y A,g1];unfold Found at g2;split at g2
 ·rename_i hn;subst g2;have hm:mapOf L d=none:=by unfold mapOf;rw[hn];rfl
  have hp:nS.upd (mapOf L) d pv=mapOf (L++[(d,pv)]):=(Er hm).symm;rw[hp];simp only[K];have ε:d ∉ L.map (·.1):=λhm=>by have:=(UL d L 0).2 hm;rw[hn]at this;cases this
  have l:((L++[(d,pv)]).map (·.1)).Nodup:=by rw[biV,bkV];refine⟨X,by simp,λx hx y hy=>?_⟩;simp only[biU,bjP,bjH]at hy;subst hy;rintro rfl;exact ε hx
  refine⟨_,rfl,hW.aPY ho hh ⟨by simp[B],l⟩ λi e S N J=>?_⟩;rcases Nat.lt_trichotomy i L.length with h3|h3|h3
  ·rw[bkE h3]at N;rw[Array.getElem?_push_lt Om]at J;exact u i e S N (by rw[blN Om];exact J)
  ·subst h3;rw[bkF (bhV _)]at N;rw[<-B,Array.getElem?_push_size]at J;simp at N J;subst N;subst J;exact⟨A,rfl,hv⟩
  ·rw[bjJ (by simp;omega)]at N;cases N
 ·rename_i j p hj;obtain⟨e0,-,J,h3,rfl⟩:=g2;have hp:nS.upd (mapOf L) d pv=mapOf (L.set j (d,pv)):=by have:=(Ra (pv:=pv) hj).2;simpa using this.symm
  rw[hp];simp only[Nat.sub_zero]at J h3;have O:Z[j]?=some e0:=by simpa using J
  have β:e0.key=kR sh d:=(u j _ e0 h3 O).2.1;have Q:(Instr.keyThatStays (((Z[j]?).map (·.key)).getD (kR sh d)) (kR sh d)).run T.P w=.ok (kR sh d) w:=by rw[O];simp only[biP,bkC,β,Instr.keyThatStays,akK sh d δ,if_true,Sem.run_pure]
  simp only[Sem.run_bind,Q,Result.andThen_ok,K];have l:((L.set j (d,pv)).map (·.1)).Nodup:=by
   have e9:(L.set j (d,pv)).map (·.1)=L.map (·.1):=by
    rw[List.map_set];refine List.ext_getElem? λi=>?_;rw[blY];split
    ·rename_i e;subst e;rw[biL,h3];have:=(biZ.1 h3).1;simp[this]
    ·rfl
   rw[e9];exact X
  refine⟨_,rfl,hW.aPY ho hh ⟨by simp[B],l⟩ λi e S R h5=>?_⟩;rw[Array.getElem?_modify]at h5;rw[blY]at R;have γ:j<Z' L:=(biZ.1 h3).1;by_cases V:j=i
  ·subst V;rw[aG rfl,aG γ]at R;rw[aG rfl,O]at h5;simp at R h5;subst R;subst h5;exact⟨A,rfl,hv⟩
  ·rw[aE V]at R h5;exact u i e S R h5
end
open Go Go.RowKit
def Fz(r:Option Nat):Fence:={ Fence.wide with round:=r }
theorem Fz.calls{r:Option Nat}{m:Nat}{P:Program}{f:FuncId}{args:Array Value}{w:World}{R:Ending->World->Prop}(h:Calls P f args w R):CallsIn (Fz r) m P f args w R:=(callsIn_wide (n:=m)).2 h
theorem Fz.fn{r:Option Nat}(f:FuncId):(Fz r).fn f:=trivial
theorem SX{r:Option Nat}{m:Nat}{P:Program}{o:Oper}{a:Act}{w:World}{next:Act->World->Prop}{Q:Exit->Act->World->Prop}(d:∀c,o.op≠.defer c)(h:o.uponIn (Fz r) m P a next Q ((execOp a.eval o).run P w)):o.wpIn (Fz r) m P a w next Q:=
 ⟨λ_ _=>trivial,by rw[Oper.semAt_eq _ _ _ d];exact h⟩
variable{C:Ctx}
section
variable {ro:Option Nat} {fu:Nat} {ds:List Deferred} {T:Tbl} {n:Nat} {E:Env} {F:PF} {H:PH} {a:Act} {w:World}
def rI(ds:List Deferred)(n:Nat)(E:Env)(H:PH)(w:World)(K:PF->PH->Prop)(next:Act->World->Prop):Prop:=
 ∀d i H' l e,eQ ds n d i l->cB d H' e->Ext E H w d H' e->K i H'->next l e
theorem fU.append{ps d:List PV}{vs e:List Value}(h:fU E ps vs)(k:fU E d e):fU E (ps++d) (vs++e):=by
 induction h with
 |nil=>exact k
 |cons h _ i=>exact .cons h i
theorem fU.aZV{ps:List PV}:∀{vs:List Value},Z' vs=Z' ps->(∀(j:Nat) p v,ps[j]?=some p->vs[j]?=some v->bM E p v)->fU E ps vs:=by
 induction ps with
 |nil=>intro vs d _;simp at d;subst d;exact .nil
 |cons p ps e=>
  intro vs d h;cases vs with
  |nil=>simp at d
  |cons v vs=>exact .cons (h 0 p v rfl rfl) (e (by simpa using d) λj q u a b=>h (j+1) q u (by simpa using a) (by simpa using b))
theorem aSL{o:Oper}{c:Call}{f:FuncId}{vc:Array Value}{x:Operand}{P:Program}{fn:Func}(p:o.op=.call c)(e:c.callee=.value x)(u:a.eval x=.func (.func f) #[] vc)
  (l:P.funcs[f]?=some fn) (hb:fn.body.isSome=true) (i:(fn.name=="runtime.NumGoroutine")=false) :
  (execOp a.eval o).run P w=.ok (.enter f (c.args.map a.eval++vc)) w:=by
 have d:fn.body.isNone=false:=by cases h:fn.body<;>simp_all
 unfold execOp;rw[p];simp only[resolve,e,u,Deferred.ofValue,Sem.run_bind,Sem.run_pure,Result.andThen_ok,invoke,callFunc,run_program,l,i,d,bjW,if_false,Array.empty_append]
theorem nw{name:Nat}{ps:Option (List PV)}{d:Option Nat}{K:PF->PH->Prop}{o:Oper}{c:Call}{x:Operand}{vc:Array Value}{Q:Exit->Act->World->Prop}{next:Act->World->Prop}
  (h:wG C name ps d K F H) (hd:o.dst=d) (hlt:o.dst.all (·<n)=true) (U:o.op=.call c) (N:c.callee=.value x) (hx:a.eval x=.func (.func (C.num name)) #[] vc)
  (i:∀vs,ps=some vs->fU E vs (c.args.map a.eval++vc).toList) (Y:eQ ds n E F a) (hW:cB E H w) (hN:E.num=C.num) (bgZ:rI ds n E H w K next):o.wpIn (Fz ro) fu C.P a w next Q:=by
 obtain⟨vs,W,R,rfl,p,⟨⟨fn,hf,hb,O⟩,l⟩,Z⟩:=h;have u:=aSL (w:=w) (a:=a) U N hx hf hb O;refine SX (λc'=>by rw[U];exact λe=>by cases e) ?_;rw[u,Oper.uponIn_enter];refine⟨(λh=>by cases h),Fz.calls ((l E w _ hN (hW.weaken p) (i vs rfl)).mono λe w' he=>?_)⟩;obtain⟨v,pv,S,H',rfl,J,hr,A,hR⟩:=he;have M:qW H W H':=by
  intro q y hq X;rcases A.new q y hq with⟨z,V⟩|hge
  ·rw[X]at V;cases V
  ·cases hh:H q with
   |none=>rfl
   |some z=>have:=(hW.h q z hh).1;omega
 have B:eQ ds n S (F.put d pv) (a.put o.dst v):=by rw[<-hd];exact(Y.mono A.env).put hlt hr
 exact bgZ S _ _ _ w' B (hW.over A p J) (A.narrow p) (Z pv H' hR M)
theorem cp{name:Nat}{args:List aP}{cs:List PV}{d:Option Nat}{K:PF->PH->Prop}{o:Oper}{c:Call}{x:Operand}{vc:Array Value}{Q:Exit->Act->World->Prop}{next:Act->World->Prop}
  (h:lD C name args cs d K F H) (R:o.dst=d) (hlt:o.dst.all (·<n)=true) (S:o.op=.call c) (y:c.callee=.value x) (U:a.eval x=.func (.func (C.num name)) #[] vc)
  (e:∀(p:Env)(O:PF) vs,E.le p->eQ ds n p O a->p.num=C.num->aP.evs O args=some vs->fU p (vs++cs) (c.args.map a.eval++vc).toList) (J:eQ ds n E F a) (hW:cB E H w) (B:E.num=C.num) (bgZ:rI ds n E H w K next):o.wpIn (Fz ro) fu C.P a w next Q:=by
 rcases h with h|⟨F1,H1,hf,h⟩
 ·refine nw h R hlt S y U (λvs i=>?_) J hW B bgZ;rw[biE]at i;obtain⟨N,l,rfl⟩:=i;exact e E F N (.refl E) J B l
 ·obtain⟨p,u,M,A⟩:=J.frz hW hf;refine nw h R hlt S y U (λvs i=>?_) u M (A.env.num.trans B) (λV W H2 a2 X g1 g2 g3 g4=>bgZ V W H2 a2 X g1 g2 (A.trans g3) g4);rw[biE]at i;obtain⟨N,l,rfl⟩:=i;exact e p F1 N A.env u (A.env.num.trans B) l
theorem ko{l:Nat}{ps:Option (List PV)}{d:Option Nat}{K:PF->PH->Prop}{o:Oper}{c:Call}{x:Operand}{Q:Exit->Act->World->Prop}{next:Act->World->Prop}
  (h:ZM C l ps d K F H) (hd:o.dst=d) (hlt:o.dst.all (·<n)=true) (Y:o.op=.call c) (W:c.callee=.value x) (hx:a.eval x=.func (.yield l) #[] #[])
  (A:∀vs,ps=some vs->fU E vs (c.args.map a.eval).toList) (hA:eQ ds n E F a) (hW:cB E H w) (hN:E.num=C.num) (bgZ:rI ds n E H w K next):o.wpIn (Fz ro) fu C.P a w next Q:=by
 obtain⟨vs,H0,R,rfl,J,B,hK⟩:=h;obtain⟨fn,u,i,body,hy,p⟩:=B E w (c.args.map a.eval) hN (hW.weaken J) (A vs rfl);have M:(execOp a.eval o).run C.P w=.ok (.round l fn u i body) w:=by unfold execOp;rw[Y];simp only[resolve,W,hx,Deferred.ofValue,Sem.run_bind,Sem.run_pure,Result.andThen_ok,invoke,Array.empty_append,Array.append_empty];exact hy
 refine SX (λc'=>by rw[Y];exact λe=>by cases e) ?_;rw[M,Oper.uponIn_round];have S:RoundIn (Fz ro) (fu-1) C.P l fn u i body w _:=⟨trivial,λc cs _=>p.2 c cs (room_wide _)⟩;refine⟨(λh=>by cases h),S.mono λe w' he=>?_⟩;obtain⟨v,pv,X,H',rfl,U,hr,N,hR⟩:=he;have V:qW H H0 H':=by
  intro q y hq h0;rcases N.new q y hq with⟨z,Z⟩|hge
  ·rw[h0]at Z;cases Z
  ·cases hh:H q with
   |none=>rfl
   |some z=>have:=(hW.h q z hh).1;omega
 have O:eQ ds n X (F.put d pv) (a.put o.dst v):=by rw[<-hd];exact(hA.mono N.env).put hlt hr
 exact bgZ X _ _ _ w' O (hW.over N J U) (N.narrow J) (hK pv H' hR V)
theorem Wn{l:Nat}{args:List aP}{d:Option Nat}{K:PF->PH->Prop}{o:Oper}{c:Call}{x:Operand}{Q:Exit->Act->World->Prop}{next:Act->World->Prop}
  (h:aDN C l args d K F H) (O:o.dst=d) (hlt:o.dst.all (·<n)=true) (R:o.op=.call c) (y:c.callee=.value x) (S:a.eval x=.func (.yield l) #[] #[])
  (e:∀(p:Env)(N:PF) vs,eQ ds n p N a->p.num=C.num->aP.evs N args=some vs->fU p vs (c.args.map a.eval).toList) (B:eQ ds n E F a) (hW:cB E H w) (A:E.num=C.num) (bgZ:rI ds n E H w K next):o.wpIn (Fz ro) fu C.P a w next Q:=by
 rcases h with h|⟨F1,H1,hf,h⟩
 ·exact ko h O hlt R y S (λvs i=>e E F vs B A i) B hW A bgZ
 ·obtain⟨p,u,M,J⟩:=B.frz hW hf;exact ko h O hlt R y S (λvs i=>e p F1 vs u (J.env.num.trans A) i) u M (J.env.num.trans A) (λU V H2 a2 W g1 g2 g3 g4=>bgZ U V H2 a2 W g1 g2 (J.trans g3) g4)
theorem aeF{o:Oper}{p:POp}(d:T.op o=some p)(e:p.uA=true):∃c,o.op=.call c/\T.call o c=some p:=by
 unfold Tbl.op at d;split at d
 case h_26=>rename_i c i;exact⟨c,i,d⟩
 all_goals (repeat' (first|(split at d)|(simp only[biE]at d;obtain⟨_,-,rfl⟩:=d;simp[POp.uA]at e;done)|(cases d;simp[POp.uA]at e;done)|(cases d;done)))
theorem xp{o:Oper}{p:POp}(d:T.op o=some p):∀c,o.op≠.defer c:=by
 intro c e;unfold Tbl.op at d;rw[e]at d;simp at d
theorem V9{o:Oper}{p:POp}(d:T.op o=some p)(A:p.eU=true) :
  (∃t R x k U l,o.op=.store t R x/\T.size t=some k/\T.opd R=some U/\T.opd x=some l/\p=.store k U l) \/
  (∃c x y t e i l V,o.op=.call c/\c.callee=.builtin .append/\c.args.toList=[x,y]/\c.argTypes.toList=[t,t]/\T.P.underlying t=some (.slice e)/\T.P.info? e=some i/\i.zero.isSome=true /\
   (i.zero.map (·.cells.size))=some i.size/\0<i.size/\T.opd x=some l/\T.opd y=some V/\p=.append i.size i.bytes l V) \/
  (∃t O Q sh x k v l pk pv,(o.op=.mapUpdate t x k v\/o.op=.insert t x k v)/\T.P.underlying t=some (.map O Q)/\T.qR O=some sh/\T.opd x=some l/\T.opd k=some pk/\T.opd v=some pv /\
   (p=.bgV sh l pk pv\/p=.insert sh l pk pv)):=by
 unfold Tbl.op at d;split at d
 case h_17=>
  rename_i t x k v N;split at d
  ·rename_i O Q S;split at d<;>cases d;rename_i sh p q r B J K W;exact .inr (.inr ⟨t,O,Q,sh,x,k,v,p,q,r,.inl N,S,B,J,K,W,.inl rfl⟩)
  ·cases d
 case h_18=>
  rename_i t x k v N;split at d
  ·rename_i O Q S;split at d<;>cases d;rename_i sh p q r B J K W;exact .inr (.inr ⟨t,O,Q,sh,x,k,v,p,q,r,.inr N,S,B,J,K,W,.inr rfl⟩)
  ·cases d
 case h_9 =>rename_i t R x N;split at d<;>cases d;rename_i k U l B J K;exact .inl ⟨t,R,x,k,U,l,N,B,J,K,rfl⟩
 case h_26=>
  rename_i c N;unfold Tbl.call at d;split at d
  ·rename_i b Y;split at d
   ·split at d<;>(first|(simp only[biE]at d;obtain⟨_,-,rfl⟩:=d;simp[POp.eU]at A;done)|(cases d;simp[POp.eU]at A;done)|(cases d;done))
   ·rename_i x y t u X Z;split at d<;>try cases d
    rename_i e e' ht S;split at d<;>try cases d
    rename_i i l V hi hx hy;split at d
    ·rename_i M;cases d;obtain⟨rfl,B,J,K⟩:=M;exact .inr (.inl ⟨c,x,y,t,e,i,l,V,N,Y,X,Z,ht,hi,B,J,K,hx,hy,rfl⟩)
    ·cases d
   ·split at d<;>(first|(simp only[biE]at d;obtain⟨_,-,rfl⟩:=d;simp[POp.eU]at A;done)|(cases d;done))
   ·split at d<;>(first|(cases d;simp[POp.eU]at A;done)|(cases d;done))
   ·split at d<;>(first|(cases d;simp[POp.eU]at A;done)|(cases d;done))
   ·cases d
  ·split at d
   ·split at d
    ·cases d;simp[POp.eU]at A
    ·cases d
   ·cases d
  ·simp only[biE]at d;obtain⟨_,-,rfl⟩:=d;simp[POp.eU]at A
  ·cases d
 all_goals (repeat' (first|(split at d)|(simp only[biE]at d;obtain⟨_,-,rfl⟩:=d;simp[POp.eU]at A;done)|(cases d;simp[POp.eU]at A;done)|(cases d;done)))
theorem asR{o:Oper}{p:POp}{K:PV->PH->Prop}(hc:T.op o=some p)(hk:p.eU=true)(h:cJ p F H K)(J:eQ ds n E F a)(hW:cB E H w)(M:E.num=T.num):X1 T.P E H w o a K:=by
 rcases V9 hc hk with⟨t,ax,x,k,pp,Y,ho,h1,h2,h3,rfl⟩|⟨c,x,y,t,e,i,Y,py,ho,hcc,hca,hct,ht,hi,g1,g2,g3,hx,hy,rfl⟩|⟨t,kt,et,sh,x,k,v,Y,pk,pv,ho,hu,hsh,hx,hkk,hv,hp⟩
 ·simp only[cJ]at h;split at h
  ·rename_i pa pv u V;obtain⟨hl,H',W,l⟩:=h;obtain⟨w',hr,S,hE⟩:=asG ho h1 h2 h3 u V hl W J hW M;exact⟨undef,_,w',E,H',.junk,hr,.inr ⟨rfl,rfl⟩,.junk _,S,hE,l⟩
  ·exact h.elim
 ·simp only[cJ]at h;split at h
  ·rename_i pa pb u U;exact X7 ho hcc hca hct ht hi g1 g2 g3 (bO hx u J M) (bO hy U J M) h hW
  ·exact h.elim
 ·have d:∀q A B g d,Y.ev F=some (.map q)->pk.ev F=some A->pv.ev F=some B->H q=some (.map sh g)->keyOf sh A=some d->K .junk (H.set q (.map sh (g.upd d B)))->X1 T.P E H w o a K:=by intro q A B g d N e2 O Q R l;obtain⟨w',g1,g2,g3⟩:=afJ hu hsh (bO hx N J M) (bO hkk e2 J M) (bO hv O J M) Q R hW;refine⟨undef,.skip,w',E,_,.junk,?_,.inr ⟨rfl,rfl⟩,.junk _,g2,g3,l⟩;rcases ho with ho|ho<;>(unfold execOp;rw[ho];simp[g1])
  rcases hp with rfl|rfl
  ·simp only[cJ]at h;split at h
   ·rename_i q A B N e2 O;split at h
    ·rename_i Z g X Q R;obtain⟨rfl,l⟩:=h;exact d q A B g X N e2 O Q R l
    ·exact h.elim
   ·exact h.elim
  ·simp only[cJ]at h;split at h
   ·rename_i q A B N e2 O;split at h
    ·rename_i Z g X Q R;obtain⟨rfl,-,l⟩:=h;exact d q A B g X N e2 O Q R l
    ·exact h.elim
   ·exact h.elim
theorem aWQ(X:C.P=T.P)(A:C.num=T.num){o:Oper}{p:POp}{d:Option Nat}{K:PF->PH->Prop}{Q:Exit->Act->World->Prop}{next:Act->World->Prop}(hc:T.op o=some p)(hd:o.dst=d)(hlt:o.dst.all (·<n)=true)
  (h:wpOp C p d K F H) (O:eQ ds n E F a) (hW:cB E H w) (Y:E.num=T.num) (bgZ:rI ds n E H w K next):o.wpIn (Fz ro) fu T.P a w next Q:=by
 by_cases hk:p.uA=true
 ·obtain⟨c,ho,i⟩:=aeF hc hk;unfold Tbl.call at i;split at i
  ·rename_i b M;exfalso
   repeat' (first|(split at i)|(simp only[biE]at i;obtain⟨_,-,rfl⟩:=i;simp[POp.uA]at hk;done)|(cases i;simp[POp.uA]at hk;done)|(cases i;done))
  ·rename_i f M;split at i
   ·rename_i m xs hm U;split at i
    ·rename_i hf;cases i;rw[<-X];refine cp h hd hlt ho M (vc:=#[]) (by rw[A,hf];rfl) (λN F' vs _ R Z β=>?_) O hW (Y.trans A.symm) bgZ;simpa using HB U β R (Z.trans A)
    ·cases i
   ·cases i
  ·rename_i t M;simp only[biE]at i;obtain⟨xs,U,rfl⟩:=i;have h':xJ C (aP.ev F (.tmp t)) xs d K F H:=h;have δ:a.eval (.tmp t)=a.tmps.getD t undef:=rfl;cases α:aP.ev F (.tmp t)with
   |none=>rw[α]at h';exact h'.elim
   |some u=>
    rw[α]at h';have r:=O.t t _ α;cases u with
    |fn name cs=>
     generalize hv:a.tmps.getD t undef=v at r;cases r with
     |fn vc V W=>
     rw[<-X];refine cp h' hd hlt ho M (vc:=vc) (by rw[δ,hv,Y,A]) (λN F' ws η A' Z κ=>?_) O hW (Y.trans A.symm) bgZ;rw[Array.toList_append];refine fU.append (by simpa using HB U κ A' (Z.trans A)) (fU.aZV (by simpa using V) λj p u hp hu=>(W j p u hp (by simpa using hu)).mono η)
    |lit u=>
     obtain⟨l,V,hy⟩:=h';unfold PV.aRQ at V;split at V
     ·rename_i l' f' c' e;split at V
      ·rename_i ζ;cases V;obtain⟨rfl,rfl⟩:=ζ;cases e;generalize hv:a.tmps.getD t undef=v at r;cases r;rw[<-X];exact Wn hy hd hlt ho M (by rw[δ,hv]) (λN F' vs A' N' β=>by simpa using HB U β A' (N'.trans A)) O hW (Y.trans A.symm) bgZ
      ·cases V
     ·cases V
    |_=>exact h'.elim
  ·cases i
 ·have γ:p.uA=false:=by simpa using hk
  have y:(if p.jW then qA (cU p F) d K F H else if p.eU then cJ p F H (λr H'=>K (F.put d r) H')else yJ (aU p F H) d K F H):=by cases p<;>first|exact h|(simp[POp.uA]at γ)
  by_cases hn:p.jW=true
  ·rw[aG hn]at y;obtain⟨mk,x,ε,hK⟩:=y;obtain⟨v,w',N,q,W,hq,B,J,S⟩:=aNV hc hn ε O hW Y;refine SX (xp hc) ?_;rw[W,Oper.uponIn_value];exact bgZ N _ _ _ w' (by rw[<-hd];exact(O.mono S.env).put hlt B) J S (hK q hq)
  ·rw[aE hn]at y;by_cases hw:p.eU=true
   ·rw[aG hw]at y;obtain⟨v,nx,w',N,H',pv,W,θ,B,J,S,hK⟩:=asR hc hw y O hW Y;refine SX (xp hc) ?_;have R:eQ ds n N (F.put d pv) (a.put o.dst v):=by rw[<-hd];exact(O.mono S.env).put hlt B
    rcases θ with rfl|⟨rfl,rfl⟩
    ·rw[W,Oper.uponIn_value];exact bgZ N _ _ _ w' R J S hK
    ·rw[W,Oper.uponIn_skip];exact bgZ N _ _ _ w' R J S hK
   ·rw[aE hw]at y;obtain⟨pv,ι,hK⟩:=y;obtain⟨v,w',N,W,B,J,S⟩:=aFC hc (by simpa using hn) (by simpa using hw) γ ι O hW Y;refine SX (xp hc) ?_;rw[W,Oper.uponIn_value];exact bgZ N _ _ _ w' (by rw[<-hd];exact(O.mono S.env).put hlt B) J S hK
end
def aP.dB:aP->List Nat
 | .tmp t=>[t]
 | .const _=>[]
def BY:Option aP->List Nat
 |none=>[]
 |some x=>x.dB
def je:List aP->List Nat
 |[]=>[]
 |x::xs=>x.dB++je xs
def akY:List (Nat × Nat × aP)->List Nat
 |[]=>[]
 |x::xs=>x.2.2.dB++akY xs
def akX:List (Nat × aP)->List Nat
 |[]=>[]
 |x::xs=>x.2.dB++akX xs
def POp.dB:POp->List Nat
 | .mv x=>x.dB
 | .pick c a b=>c.dB++(a.dB++b.dB)
 | .bin _ x y=>x.dB++y.dB
 | .eqb _ x y=>x.dB++y.dB
 | .eqs _ _ x y=>x.dB++y.dB
 | .un _ x=>x.dB
 | .conv _ x=>x.dB
 | .same x=>x.dB
 | .alloc _=>[]
 | .box _ x=>x.dB
 | .build _ ps=>akY ps
 | .bgJ _ _ _ _ ps=>akX ps
 | .load _ p=>p.dB
 | .store _ p x=>p.dB++x.dB
 | .bgQ x=>x.dB
 | .bhG _ x=>x.dB
 | .field _ _ x=>x.dB
 | .bgU _ x i=>x.dB++i.dB
 | .idxA _ _ x i=>x.dB++i.dB
 | .idxV _ _ _ x i=>x.dB++i.dB
 | .bhE x i=>x.dB++i.dB
 | .slice _ x lo hi mx=>x.dB++(BY lo++(BY hi++BY mx))
 | .bhA x lo hi=>x.dB++(BY lo++BY hi)
 | .sliceA _ _ x lo hi mx=>x.dB++(BY lo++(BY hi++BY mx))
 | .len x=>x.dB
 | .bhD x=>x.dB
 | .bhN x=>x.dB
 | .lenM x=>x.dB
 | .isNil _ x=>x.dB
 | .extract x _=>x.dB
 | .bgL _ _ _ l c=>l.dB++c.dB
 | .append _ _ x y=>x.dB++y.dB
 | .bgY _ x y=>x.dB++y.dB
 | .mkfn _ cs=>je cs
 | .bhJ _=>[]
 | .lookup _ _ x k _=>x.dB++k.dB
 | .bgV _ x k v=>x.dB++(k.dB++v.dB)
 | .insert _ x k v=>x.dB++(k.dB++v.dB)
 | .stuck=>[]
 | .bgR x=>x.dB
 | .str2bytes x=>x.dB
 | .call _ az=>je az
 | .bhF x az=>x.dB++je az
def vD(l:List Nat)(F F':PF):Prop:=∀t∈l,F t=F' t
theorem vD.left{a b:List Nat}{F F':PF}(h:vD (a++b) F F'):vD a F F':=λt d=>h t (by simp[d])
theorem vD.right{a b:List Nat}{F F':PF}(h:vD (a++b) F F'):vD b F F':=λt d=>h t (by simp[d])
section
variable {F F':PF} {H H':PH}
theorem cL{x:aP}(h:vD x.dB F F'):x.ev F=x.ev F':=by
 cases x with
 |tmp t=>exact h t (by simp[aP.dB])
 |const v=>rfl
theorem UJ:∀{xs:List aP},vD (je xs) F F'->aP.evs F xs=aP.evs F' xs
 |[],_=>rfl
 |x::xs,h=>by simp only[aP.evs,cL h.left,UJ h.right]
theorem Di:∀{ps:List (Nat × Nat × aP)}{cs:List PV},vD (akY ps) F F'->rO cs F ps=rO cs F' ps
 |[],_,_=>rfl
 |(o,s,x)::ps,cs,h=>by
  simp only[rO];rw[cL (x:=x) h.left];split
  ·rw[Di (ps:=ps) h.right]
  ·rfl
theorem FJ{s:Nat}:∀{ps:List (Nat × aP)}{rs:P2_},vD (akX ps) F F'->iY s rs F ps=iY s rs F' ps
 |[],_,_=>rfl
 |(i,x)::ps,rs,h=>by
  simp only[iY];rw[cL (x:=x) h.left];split
  ·rw[FJ (ps:=ps) h.right]
  ·rfl
theorem JA{d:Int}{x:Option aP}(h:vD (BY x) F F'):bnd F d x=bnd F' d x:=by
 cases x with
 |none=>rfl
 |some x=>simp only[bnd,cL (x:=x) h]
theorem aIU{op:POp}(h:vD op.dB F F'):aU op F H=aU op F' H:=by
 cases op
 case mv x=>simp only[aU,cL (x:=x) h]
 case same x=>simp only[aU,cL (x:=x) h]
 case pick c a b=>simp only[aU,cL (x:=c) h.left,cL (x:=a) h.right.left,cL (x:=b) h.right.right]
 case bin x y=>simp only[aU,cL (x:=x) h.left,cL (x:=y) h.right]
 case eqb x y=>simp only[aU,cL (x:=x) h.left,cL (x:=y) h.right]
 case eqs x y=>simp only[aU,cL (x:=x) h.left,cL (x:=y) h.right]
 case un x=>simp only[aU,cL (x:=x) h]
 case conv x=>simp only[aU,cL (x:=x) h]
 case box r x=>cases r<;>simp only[aU,cL (x:=x) h]
 case build ps=>simp only[aU,Di (ps:=ps) h]
 case bgJ r _ _ _ ps=>cases r<;>simp only[aU,FJ (ps:=ps) h]
 case load n p=>cases n<;>simp only[aU,cL (x:=p) h]
 case bgQ x=>simp only[aU,cL (x:=x) h]
 case bhG x=>simp only[aU,cL (x:=x) h]
 case field x=>simp only[aU,cL (x:=x) h]
 case bgU x i=>simp only[aU,cL (x:=x) h.left,cL (x:=i) h.right]
 case idxA x i=>simp only[aU,cL (x:=x) h.left,cL (x:=i) h.right]
 case idxV x i=>simp only[aU,cL (x:=x) h.left,cL (x:=i) h.right]
 case bhE x i=>simp only[aU,cL (x:=x) h.left,cL (x:=i) h.right]
 case slice s x lo hi mx=>
  have e:x.ev F=x.ev F':=cL h.left;have l:∀d,bnd F d lo=bnd F' d lo:=λd=>JA h.right.left;have u:∀d,bnd F d hi=bnd F' d hi:=λd=>JA h.right.right.left;cases mx with
  |none=>simp only[aU,e,l,u]
  |some m =>have w:∀d,bnd F d (some m)=bnd F' d (some m):=λd=>JA (x:=some m) h.right.right.right;simp only[aU,e,l,u,w]
 case sliceA n size x lo hi mx =>have e:x.ev F=x.ev F':=cL h.left;cases lo<;>cases hi<;>cases mx<;>simp only[aU,e]
 case bhA x lo hi =>have e:x.ev F=x.ev F':=cL h.left;have l:∀d,bnd F d lo=bnd F' d lo:=λd=>JA h.right.left;have u:∀d,bnd F d hi=bnd F' d hi:=λd=>JA h.right.right;simp only[aU,e,l,u]
 case len x=>simp only[aU,cL (x:=x) h]
 case bhD x=>simp only[aU,cL (x:=x) h]
 case bhN x=>simp only[aU,cL (x:=x) h]
 case lenM x=>simp only[aU,cL (x:=x) h]
 case isNil x=>simp only[aU,cL (x:=x) h]
 case extract x i=>simp only[aU,cL (x:=x) h]
 case bgY x y=>simp only[aU,cL (x:=x) h.left,cL (x:=y) h.right]
 case mkfn cs=>simp only[aU,UJ (xs:=cs) h]
 case lookup sh z x k ok=>simp only[aU,cL (x:=x) h.left,cL (x:=k) h.right]
 case bgR x=>simp only[aU,cL (x:=x) h]
 all_goals rfl
theorem aEQ{op:POp}(h:vD op.dB F F'):cU op F=cU op F':=by
 cases op
 case box r x=>cases r<;>simp only[cU,cL (x:=x) h]
 case bgJ r _ _ _ ps=>cases r<;>simp only[cU,FJ (ps:=ps) h]
 case bgL l c=>simp only[cU,cL (x:=l) h.left,cL (x:=c) h.right]
 all_goals rfl
theorem aKW{op:POp}{K:PV->PH->Prop}(h:vD op.dB F F'):cJ op F H K=cJ op F' H K:=by
 cases op
 case store n p x=>simp only[cJ,cL (x:=p) h.left,cL (x:=x) h.right]
 case append s b x y=>simp only[cJ,cL (x:=x) h.left,cL (x:=y) h.right]
 case bgV sh x k v=>simp only[cJ,cL (x:=x) h.left,cL (x:=k) h.right.left,cL (x:=v) h.right.right]
 case insert sh x k v=>simp only[cJ,cL (x:=x) h.left,cL (x:=k) h.right.left,cL (x:=v) h.right.right]
 all_goals rfl
theorem Ql{op:POp}(h:vD op.dB F F'):op.kind F=op.kind F':=by
 have d:(if op.jW then Kind.new (cU op F)else if op.eU then .write (λH K=>cJ op F H K)else .calm (aU op F)) =
   (if op.jW then Kind.new (cU op F')else if op.eU then .write (λH K=>cJ op F' H K)else .calm (aU op F')):=by
  rw[aEQ h];have e:(λH K=>cJ op F H K)=λH K=>cJ op F' H K:=by funext H K;exact aKW h
  have i:aU op F=aU op F':=by funext H;exact aIU h
  rw[e,i]
 cases op
 case call n az=>simp only[POp.kind,UJ (xs:=az) h]
 case bhF x az=>simp only[POp.kind,cL (x:=x) h.left,UJ (xs:=az) h.right]
 case insert sh x k v=>simp only[POp.kind,cL (x:=x) h.left,cL (x:=k) h.right.left,cL (x:=v) h.right.right]
 all_goals exact d
def aW.dB(i:aW):List Nat:=
 match i.guard with
 |none=>i.op.dB
 |some (t,_)=>t::i.op.dB
theorem D9{i:aW}(h:vD i.dB F F'):i.kind F=i.kind F':=by
 unfold aW.kind;unfold aW.dB at h;cases d:i.guard with
 |none=>rw[d]at h;exact Ql h
 |some p =>obtain⟨t,e⟩:=p;rw[d]at h;simp only;rw[h t bH,Ql (λu l=>h u (by simp[l]))]
theorem aVF(p:PV):∃q:Nat,∀(H H':PH) n,H q=H' q->loadCells H p n=loadCells H' p n:=by
 cases p
 case ptr o s i c=>exact⟨o,λH H' n h=>by simp only[loadCells,h]⟩
 all_goals exact⟨0,λH H' n h=>rfl⟩
theorem aYR(s:Nat)(p:PV):∃q:Nat,∀(H H':PH),H q=H' q->eA H s p=eA H' s p:=by
 cases p
 case osl o s' off len=>exact⟨o,λH H' h=>by simp only[eA,h]⟩
 all_goals exact⟨0,λH H' h=>rfl⟩
theorem aOX(op:POp)(F:PF):∃q:Nat,∀(H H':PH),H q=H' q->aU op F H=aU op F H':=by
 cases op
 case load n p=>
  cases hp:p.ev F with
  |none=>exact⟨0,λH H' _=>by cases n<;>simp only[aU,hp]⟩
  |some a =>obtain⟨q,d⟩:=aVF a;exact⟨q,λH H' h=>by cases n<;>simp only[aU,hp,d H H' _ h]⟩
 case lenM x=>
  cases hp:x.ev F with
  |none=>exact⟨0,λH H' _=>by simp only[aU,hp]⟩
  |some a=>
   cases a
   case map o=>exact⟨o,λH H' h=>by simp only[aU,hp,h]⟩
   all_goals exact⟨0,λH H' _=>by simp only[aU,hp]⟩
 case lookup sh z x k ok=>
  cases hp:x.ev F with
  |none=>exact⟨0,λH H' _=>by simp only[aU,hp]⟩
  |some a=>
   cases a
   case map o=>exact⟨o,λH H' h=>by cases e:k.ev F<;>simp only[aU,hp,e,h]⟩
   all_goals exact⟨0,λH H' _=>by simp only[aU,hp]⟩
 case bgR x=>
  cases hp:x.ev F with
  |none=>exact⟨0,λH H' _=>by simp only[aU,hp]⟩
  |some a =>obtain⟨q,d⟩:=aYR 1 a;exact⟨q,λH H' h=>by simp only[aU,hp,d H H' h]⟩
 case sliceA n s x lo hi mx=>cases lo<;>cases hi<;>cases mx<;>exact⟨0,λH H' _=>rfl⟩
 case box r x=>cases r<;>exact⟨0,λH H' _=>rfl⟩
 case bgJ r _ _ _ _=>cases r<;>exact⟨0,λH H' _=>rfl⟩
 all_goals exact⟨0,λH H' _=>rfl⟩
theorem Qr{p:PV}{n:Nat}{cs:List PV}(d:H.le H')(h:loadCells H p n=some cs):loadCells H' p n=some cs:=by
 cases p
 case ptr o s i c=>
  simp only[loadCells]at h ⊢;cases e:H o with
  |none=>rw[e]at h;cases h
  |some x=>rw[d o x e];rw[e]at h;exact h
 all_goals exact h
theorem aRH{s:Nat}{p:PV}{rs:P2_}(d:H.le H')(h:eA H s p=some rs):eA H' s p=some rs:=by
 cases p
 case osl o s' off len=>
  simp only[eA]at h ⊢;cases e:H o with
  |none=>rw[e]at h;simp at h
  |some x=>rw[d o x e];rw[e]at h;exact h
 all_goals exact h
theorem Gp{op:POp}{v:PV}(e:H.le H')(h:aU op F H=some v):aU op F H'=some v:=by
 cases op
 case load n p=>
  cases hp:p.ev F with
  |none=>cases n<;>simp only[aU,hp]at h<;>cases h
  |some a=>
   cases n with
   |none=>
    simp only[aU,hp]at h ⊢;cases d:loadCells H a 1 with
    |none=>rw[d]at h;cases h
    |some cs=>rw[Qr e d];rw[d]at h;exact h
   |some n=>
    simp only[aU,hp]at h ⊢;cases d:loadCells H a n with
    |none=>rw[d]at h;cases h
    |some cs=>rw[Qr e d];rw[d]at h;exact h
 case lenM x=>
  simp only[aU]at h ⊢;split at h
  ·rename_i o l;cases i:H o with
   |none=>rw[i]at h;cases h
   |some y=>rw[e o y i];rw[i]at h;exact h
  ·cases h
 case lookup sh z x k ok=>
  simp only[aU]at h ⊢;split at h
  ·rename_i o A l w;cases i:H o with
   |none=>rw[i]at h;cases h
   |some y=>rw[e o y i];rw[i]at h;exact h
  ·cases h
 case bgR x=>
  simp only[aU]at h ⊢;split at h
  ·rename_i a u;cases d:eA H 1 a with
   |none=>rw[d]at h;cases h
   |some rs=>rw[aRH e d];rw[d]at h;exact h
  ·cases h
 case sliceA n s x lo hi mx=>cases lo<;>cases hi<;>cases mx<;>exact h
 case box r x=>cases r<;>exact h
 case bgJ r _ _ _ _=>cases r<;>exact h
 all_goals exact h
end
theorem PH.P2(H:PH)(l:List Nat):∃o,H o=none/\o ∉ l:=by
 obtain⟨n,e⟩:=H.fin;refine⟨n+l.sum+1,e _ Om,λh=>?_⟩;have:n+l.sum+1<=l.sum:=by
  have d:∀(l:List Nat)(x:Nat),x∈l->x<=l.sum:=by
   intro l
   induction l with
   |nil=>intro x hx;cases hx
   |cons y ys i=>
    intro x hx;rcases biG.1 hx with rfl|hx
    ·simp
    ·have:=i x hx;simp;omega
  exact d l _ h
 omega
theorem PH.set_comm(H:PH){o q:Nat}(x y:aY)(h:o≠q):(H.set o x).set q y=(H.set q y).set o x:=by
 refine PH.ext λp=>?_;simp only[dE];by_cases d:p=q<;>by_cases e:p=o<;>simp_all
theorem PH.fl{H:PH}{o:Nat}(x:aY)(h:H o=none):H.le (H.set o x):=by
 intro p y hp;rw[dE];split
 ·rename_i e;subst e;rw[h]at hp;cases hp
 ·exact hp
theorem PH.akN{H:PH}{o q:Nat}{x:aY}:(H.set o x) q=none↔q≠o/\H q=none:=by
 rw[dE];split<;>simp_all
theorem PH.le_trans{A B D:PH}(h:A.le B)(k:B.le D):A.le D:=λo x d=>k o x (h o x d)
theorem PH.le_none{A B:PH}(h:A.le B){o:Nat}(hb:B o=none):A o=none:=by
 cases d:A o with
 |none=>rfl
 |some x=>have:=h o x d;rw[hb]at this;cases this
theorem PH.a6K{A B:PH}(h:A.le B){o:Nat}{x:aY}(d:A o=none):A.le (B.set o x):=by
 intro p y hp;rw[dE];split
 ·rename_i e;subst e;rw[d]at hp;cases hp
 ·exact h p y hp
structure Xi(f:PH->Option PV):Prop where
 dep:∃q:Nat,∀(H H':PH),H q=H' q->f H=f H'
 mono:∀(H H':PH) v,H.le H'->f H=some v->f H'=some v
structure a0G(w:PH->(PV->PH->Prop)->Prop):Prop where
 mono:∀H (K K':PV->PH->Prop),(∀v H',K v H'->K' v H')->w H K->w H K'
 some:∀H (K:PV->PH->Prop),w H K->∃v H',K v H'
inductive Kind.Ok:Kind->Prop
 |fail:Kind.Ok .fail
 |calm {f:PH->Option PV} (h:Xi f):Kind.Ok (.calm f)
 |new (r:Option ((Nat->PV) × aY)):Kind.Ok (.new r)
 |write {w:PH->(PV->PH->Prop)->Prop} (h:a0G w):Kind.Ok (.write w)
 |call (name:Nat) (args:Option (List PV)):Kind.Ok (.call name args)
 |ins (r:Option (Nat × MSh × List KS × PV)):Kind.Ok (.ins r)
section
variable {C:Ctx} {Hs:PH} {S:Spec} {H:PH}
theorem LL{op:POp}{F:PF}{K K':PV->PH->Prop}(h:∀v H',K v H'->K' v H')(d:cJ op F H K):cJ op F H K':=by
 cases op
 case store n p x=>
  simp only[cJ]at d ⊢;split at d
  ·obtain⟨B,H',i,E⟩:=d;exact⟨B,H',i,h _ _ E⟩
  ·exact d.elim
 case append s b x y=>
  simp only[cJ]at d ⊢;split at d
  ·rename_i a c J M;obtain⟨src,B,i⟩:=d;refine⟨src,B,?_⟩;split at i
   ·exact⟨i.1,λe=>h _ _ (i.2.1 e),λe o l=>h _ _ (i.2.2 e o l)⟩
   ·obtain⟨g1,g2,g3,rs,g4,u,w,A⟩:=i;exact⟨g1,g2,g3,rs,g4,u,h _ _ w,λo l=>h _ _ (A o l)⟩
   ·obtain⟨g1,g3,rs,g4,u,w,A⟩:=i;exact⟨g1,g3,rs,g4,u,h _ _ w,λo l=>h _ _ (A o l)⟩
   ·exact i.elim
  ·exact d.elim
 case bgV sh x k v=>
  simp only[cJ]at d ⊢;split at d
  ·split at d
   ·exact⟨d.1,h _ _ d.2⟩
   ·exact d.elim
  ·exact d.elim
 case insert sh x k v=>
  simp only[cJ]at d ⊢;split at d
  ·split at d
   ·exact⟨d.1,d.2.1,h _ _ d.2.2⟩
   ·exact d.elim
  ·exact d.elim
 all_goals exact d.elim
theorem aqE{op:POp}{F:PF}{K:PV->PH->Prop}(d:cJ op F H K):∃v H',K v H':=by
 cases op
 case store n p x=>
  simp only[cJ]at d;split at d
  ·obtain⟨A,H',i,B⟩:=d;exact⟨_,_,B⟩
  ·exact d.elim
 case append s b x y=>
  simp only[cJ]at d;split at d
  ·rename_i a c J M;obtain⟨src,A,i⟩:=d;split at i
   ·by_cases e:src=[]
    ·exact⟨_,_,i.2.1 e⟩
    ·obtain⟨o,E⟩:=H.fresh;exact⟨_,_,i.2.2 e o E⟩
   ·obtain⟨g1,g2,g3,rs,g4,u,l,w⟩:=i;exact⟨_,_,l⟩
   ·obtain⟨g1,g3,rs,g4,u,l,w⟩:=i;exact⟨_,_,l⟩
   ·exact i.elim
  ·exact d.elim
 case bgV sh x k v=>
  simp only[cJ]at d;split at d
  ·split at d
   ·exact⟨_,_,d.2⟩
   ·exact d.elim
  ·exact d.elim
 case insert sh x k v=>
  simp only[cJ]at d;split at d
  ·split at d
   ·exact⟨_,_,d.2.2⟩
   ·exact d.elim
  ·exact d.elim
 all_goals exact d.elim
theorem aiZ(op:POp)(F:PF):(op.kind F).Ok:=by
 have d:(if op.jW then Kind.new (cU op F)else if op.eU then .write (λH K=>cJ op F H K)else .calm (aU op F)).Ok:=by
  split
  ·exact .new _
  ·split
   ·exact .write ⟨λH K K' h e=>LL h e,λH K e=>aqE e⟩
   ·exact .calm ⟨aOX op F,λH H' v h i=>Gp h i⟩
 cases op
 case call n az=>exact .call _ _
 case bhF x az=>
  simp only[POp.kind];split
  ·exact .call _ _
  ·exact .fail
 case insert sh x k v=>exact .ins _
 all_goals exact d
theorem yY(i:aW)(F:PF):(i.kind F).Ok:=by
 unfold aW.kind;split
 ·exact aiZ _ _
 ·split
  ·split
   ·exact aiZ _ _
   ·exact .calm ⟨⟨0,λ_ _ _=>rfl⟩,λ_ _ _ _ h=>h⟩
  ·exact .calm ⟨⟨0,λ_ _ _=>rfl⟩,λ_ _ _ _ h=>h⟩
  ·exact .fail
theorem Kind.zF{k:Kind}(E:k.Ok){st:Bool}{K K':PV->PH->Prop}(h:∀v H',Hs.le H'->K v H'->K' v H')(i:Hs.le H)(l:k.run C Hs S st K H):k.run C Hs S st K' H:=by
 cases E with
 |fail=>exact l
 |calm _=>obtain⟨v,d,e⟩:=l;exact⟨v,d,h _ _ i e⟩
 |new r=>obtain⟨J,x,d,e⟩:=l;exact⟨J,x,d,λo B=>h _ _ (PH.le_trans i (PH.fl x B)) (e o B)⟩
 |write F=>exact F.mono _ _ _ (λv H' y=>⟨y.1,h _ _ y.1 y.2⟩) l
 |call name args =>obtain⟨vs,D,R,d,e,u,p,h5,w⟩:=l;exact⟨vs,D,R,d,e,u,p,h5,λr H' a b=>⟨(w r H' a b).1,h _ _ (w r H' a b).1 (w r H' a b).2⟩⟩
 |ins r =>obtain⟨o,sh,A,v,g,d,e,u,p,h5⟩:=l;exact⟨o,sh,A,v,g,d,e,u,p,h _ _ (PH.a6K i p) h5⟩
def Kind.cls:Kind->Nat
 | .fail | .calm _=>0
 | .new _=>1
 | .write _=>2
 | .call ..=>3
 | .ins _=>4
theorem XH{H:PH}{D:List Nat}{o:Nat}(x:aY)(h:o ∉ D):(H.set o x).only D=H.only D:=by
 refine PH.ext λq=>?_;simp only[PH.only,dE];split
 ·rename_i d;rw[aE (by rintro rfl;exact h d)]
 ·rfl
theorem lO(H d H':PH)(o:Nat):(H.over d H') o=(match H' o with|some x=>some x|none=>match d o with|some _=>some .dead|none=>H o):=rfl
theorem zT(H:PH)(D:List Nat)(o:Nat):(H.only D) o=if o∈D then H o else none:=rfl
theorem ajJ{H H':PH}{D:List Nat}{o:Nat}(x:aY)(i:o ∉ D)(d:H' o=none):(H.set o x).over (H.only D) H'=(H.over (H.only D) H').set o x:=by
 refine PH.ext λq=>?_;rw[lO,dE,dE,lO];by_cases e:q=o
 ·subst e;simp only[d,zT,aE i,if_true]
 ·simp only[aE e]
theorem Sn{H H':PH}{D:List Nat}{o:Nat}(h:(H.over (H.only D) H') o=none):H o=none/\H' o=none:=by
 rw[lO]at h;cases d:H' o with
 |some x=>rw[d]at h;cases h
 |none=>
  rw[d]at h;simp only at h;cases e:(H.only D) o with
  |some x=>rw[e]at h;cases h
  |none=>rw[e]at h;exact⟨h,rfl⟩
theorem Wj{name:Nat}{args:Option (List PV)}{r:Option ((Nat->PV) × aY)}{K:PV->PV->PH->Prop}{V W:Bool}
  (h:(Kind.call name args).run C Hs S V (λv H'=>(Kind.new r).run C Hs S W (λu i=>K v u i) H') H) :
  (Kind.new r).run C Hs S W (λu H'=>(Kind.call name args).run C Hs S V (λv i=>K v u i) H') H:=by
 obtain⟨vs,D,R,Z,h2,J,h4,h5,M⟩:=h;obtain⟨r0,X,A,B⟩:=h5 H;obtain⟨-,mk,x,Q,-⟩:=M r0 X A B;refine⟨mk,x,Q,λo O=>?_⟩;have d:o ∉ D:=λhD=>by obtain⟨y,U⟩:=J o hD;rw[O]at U;cases U
 refine⟨vs,D,R,Z,h2,λq E=>?_,?_,?_,?_⟩
 ·rw[dE];split
  ·exact⟨_,rfl⟩
  ·exact J q E
 ·rw[XH x d];exact h4
 ·rw[XH x d];exact h5
 ·intro v H' N l;rw[XH x d]at N l ⊢;have F:H' o=none:=by
   cases e:H' o with
   |none=>rfl
   |some y =>have:=l o y e (by rw[zT,aE d]);rw[dE,aG rfl]at this;cases this
  have p:qW H (H.only D) H':=λq y E Y=>by
   have:=l q y E Y;rw[dE]at this;split at this
   ·cases this
   ·exact this
  obtain⟨g1,mk',x',g2,g3⟩:=M v H' N p;rw[Q]at g2;cases g2;have w:(H.over (H.only D) H') o=none:=by rw[lO,F,zT,aE d];exact O
  rw[ajJ x d F];exact⟨PH.le_trans g1 (PH.fl x w),g3 o w⟩
theorem Wl{name:Nat}{args:Option (List PV)}{r:Option ((Nat->PV) × aY)}{K:PV->PV->PH->Prop}{Y Z:Bool}(N:Hs.le H)
  (h:(Kind.new r).run C Hs S Y (λv H'=>(Kind.call name args).run C Hs S Z (λu w=>K v u w) H') H) :
  (Kind.call name args).run C Hs S Z (λu H'=>(Kind.new r).run C Hs S Y (λv w=>K v u w) H') H:=by
 obtain⟨Q,x,hr,h⟩:=h;obtain⟨o0,O⟩:=H.fresh;obtain⟨vs,D,R,W,X,-⟩:=h o0 O;obtain⟨o,ho,A⟩:=H.P2 D;have all:∀q,H q=none->q ∉ D->(∀p∈D,∃y,(H.set q x) p=some y)/\aH C name vs (H.only D) (R (H.only D))/\(∀G:PH,∃r H',R (H.only D) r H'/\qW G (H.only D) H') /\
   ∀r H',R (H.only D) r H'->qW (H.set q x) (H.only D) H'->Hs.le ((H.set q x).over (H.only D) H')/\K (Q q) r ((H.set q x).over (H.only D) H'):=by
  intro q d l;obtain⟨α,D',R',g1,g2,g3,g4,U,V⟩:=h q d;rw[W]at g1;cases g1;rw[X]at g2;cases g2;rw[XH x l]at g4 U V;exact⟨g3,g4,U,V⟩
 obtain⟨a3,a4,a5,-⟩:=all o ho A;have hD:∀q∈D,∃y,H q=some y:=λq d=>by obtain⟨y,F⟩:=a3 q d;rw[dE,aE (by rintro rfl;exact A d)]at F;exact⟨y,F⟩
 have B:∀q,H q=none->q ∉ D:=λq d J=>by obtain⟨y,F⟩:=hD q J;rw[d]at F;cases F
 refine⟨vs,D,R,W,X,hD,a4,a5,λu H' hR M=>?_⟩;have step:∀q,(H.over (H.only D) H') q=none->Hs.le ((H.over (H.only D) H').set q x)/\K (Q q) u ((H.over (H.only D) H').set q x):=by
  intro q d;obtain⟨i,E⟩:=Sn d;have l:=B q i;obtain⟨-,-,-,a6⟩:=all q i l;have:=a6 u H' hR λp y hp h0=>by
   rw[dE];split
   ·rename_i e;subst e;rw[E]at hp;cases hp
   ·exact M p y hp h0
  rw[ajJ x l E]at this;exact this
 refine⟨?_,Q,x,hr,λq d=>(step q d).2⟩;obtain⟨q,d⟩:=(H.over (H.only D) H').fresh;have i:=(step q d).1;intro p y hp;have:=i p y hp;rw[dE]at this;split at this
 ·rename_i e;subst e;have:=PH.le_none N (Sn d).1;rw[hp]at this;cases this
 ·exact this
theorem amR{r r':Option ((Nat->PV) × aY)}{K:PV->PV->PH->Prop}{w y:Bool}
  (h:(Kind.new r).run C Hs S w (λv H'=>(Kind.new r').run C Hs S y (λu d=>K v u d) H') H) :
  (Kind.new r').run C Hs S y (λu H'=>(Kind.new r).run C Hs S w (λv d=>K v u d) H') H:=by
 obtain⟨F,x,E,h⟩:=h;obtain⟨M,p⟩:=H.fresh;obtain⟨mk',A,e,-⟩:=h M p;refine⟨mk',A,e,λq B=>⟨F,x,E,λo l=>?_⟩⟩;rw[PH.akN]at l;obtain⟨J,N,i,g⟩:=h o l.2;rw[e]at i;cases i;have:=g q (PH.akN.2 ⟨Ne.symm l.1,B⟩)
 rwa[PH.set_comm H x A l.1]at this
theorem Wk{f:PH->Option PV}{k:Kind}{K:PV->PV->PH->Prop}{l A:Bool}(B:Xi f)(E:k.Ok)(i:k.cls=2\/k.cls=3\/k.cls=4->l=true)(e:Hs.le H)
  (h:(Kind.calm f).run C Hs S l (λv H'=>k.run C Hs S A (λu d=>K v u d) H') H) :
  k.run C Hs S A (λu H'=>(Kind.calm f).run C Hs S l (λv d=>K v u d) H') H:=by
 obtain⟨v,p,h⟩:=h;cases E with
 |fail=>exact h
 |@calm g O=>obtain⟨u,J,h⟩:=h;exact⟨u,J,v,p,h⟩
 |new r=>
  obtain⟨N,x,F,h⟩:=h;refine⟨N,x,F,λo y=>⟨v,?_,h o y⟩⟩;cases l
  ·exact B.mono _ _ _ (PH.fl x y) p
  ·exact p
 |write M =>have:l=true:=i (.inl rfl);subst this;exact Kind.zF (.write M) (λu H' _ w=>⟨v,p,w⟩) e h
 |call name args =>have:l=true:=i (.inr (.inl rfl));subst this;exact Kind.zF (.call name args) (λu H' _ w=>⟨v,p,w⟩) e h
 |ins r =>have:l=true:=i (.inr (.inr rfl));subst this;exact Kind.zF (.ins r) (λu H' _ w=>⟨v,p,w⟩) e h
theorem Wi{f:PH->Option PV}{k:Kind}{K:PV->PV->PH->Prop}{si B:Bool}(Z:Xi f)(hk:k.Ok)(A:k.cls=2\/k.cls=3\/k.cls=4->B=true)(α:Hs.le H)
  (h:k.run C Hs S si (λv H'=>(Kind.calm f).run C Hs S B (λu p=>K v u p) H') H) :
  (Kind.calm f).run C Hs S B (λu H'=>k.run C Hs S si (λv p=>K v u p) H') H:=by
 cases hk with
 |fail=>exact h.elim
 |@calm g hg=>obtain⟨u,i,v,hv,h⟩:=h;exact⟨v,hv,u,i,h⟩
 |new r=>
  obtain⟨mk,x,hr,h⟩:=h;cases B with
  |true =>obtain⟨X,y⟩:=H.fresh;obtain⟨u,i,-⟩:=h X y;refine⟨u,i,mk,x,hr,λo E=>?_⟩;obtain⟨u',d,l⟩:=h o E;simp only[if_true]at i d;rw[i]at d;cases d;exact l
  |false=>
   obtain⟨q,hq⟩:=Z.dep;obtain⟨X,y,V⟩:=H.P2 [q];obtain⟨u,i,-⟩:=h X y;simp only[bjW,if_false]at i;have d:f H=some u:=by rw[<-i];exact hq _ _ (by rw[dE,aE (by simpa using Ne.symm (λe=>V (by simp[e])))])
   refine⟨u,d,mk,x,hr,λo E=>?_⟩;obtain⟨u2,hu2,l⟩:=h o E;simp only[bjW,if_false]at hu2;rw[Z.mono _ _ _ (PH.fl x E) d]at hu2;cases hu2;exact l
 |@write w hw =>have:B=true:=A (.inl rfl);subst this;obtain⟨_,_,_,u,i,_⟩:=hw.some _ _ h;refine⟨u,i,hw.mono _ _ _ (λv H' hh=>⟨hh.1,?_⟩) h⟩;obtain⟨-,u',d,l⟩:=hh;simp only[if_true]at i d;rw[i]at d;cases d;exact l
 |call name args =>have:B=true:=A (.inr (.inl rfl));subst this;obtain⟨vs,D,R,F,J,M,N,h5,Y⟩:=h;obtain⟨r0,H0,O,Q⟩:=h5 H;obtain⟨-,u,i,-⟩:=Y r0 H0 O Q;refine⟨u,i,vs,D,R,F,J,M,N,h5,λr H' hR U=>?_⟩;obtain⟨g1,u',d,l⟩:=Y r H' hR U;simp only[if_true]at i d;rw[i]at d;cases d;exact⟨g1,l⟩
 |ins r =>have:B=true:=A (.inr (.inr rfl));subst this;obtain⟨o,sh,W,v,g,F,J,M,N,u,i,l⟩:=h;exact⟨u,i,o,sh,W,v,g,F,J,M,N,l⟩
theorem amQ{r r':Option (Nat × MSh × List KS × PV)}{K:PV->PV->PH->Prop}{M N:Bool}
  (h:(Kind.ins r).run C Hs S M (λv H'=>(Kind.ins r').run C Hs S N (λu l=>K v u l) H') H) :
  (Kind.ins r').run C Hs S N (λu H'=>(Kind.ins r).run C Hs S M (λv l=>K v u l) H') H:=by
 obtain⟨o,sh,i,v,g,B,E,F,w,o',A,d,v',O,k1,k2,x,Q,J⟩:=h;by_cases e:o'=o
 ·subst e;rw[dE,aG rfl]at k2;cases k2;have p:d≠i:=by rintro rfl;simp[nS.upd]at x
  have y:g d=none:=by simpa[nS.upd,p]using x
  refine⟨o',sh,d,v',g,k1,E,y,w,o',sh,i,v,g.upd d v',B,by rw[dE,aG rfl],by simp[nS.upd,Ne.symm p,F],w,?_⟩;have:((H.set o' (.map sh (g.upd d v'))).set o' (.map sh ((g.upd d v').upd i v)))=((H.set o' (.map sh (g.upd i v))).set o' (.map sh ((g.upd i v).upd d v'))):=by
   refine PH.ext λq=>?_;simp only[dE];split
   ·congr 2;funext k;simp only[nS.upd];by_cases h5:k=i<;>by_cases R:k=d<;>simp_all
   ·rfl
  rw[this];exact J
 ·rw[dE,aE e]at k2;refine⟨o',A,d,v',O,k1,k2,x,Q,o,sh,i,v,g,B,by rw[dE,aE (Ne.symm e)];exact E,F,w,?_⟩;rw[PH.set_comm H _ _ e];exact J
def BG(a b:Nat)(d e:Bool):Bool:=
 match a,b with
 |0,0|0,1|1,0|1,1|1,3|3,1|4,4=>true
 |0,_=>d
 |_,0=>e
 |_,_=>false
theorem aJP{y A:Kind}{K:PV->PV->PH->Prop}{J M:Bool}(hi:y.Ok)(w:A.Ok)(d:BG y.cls A.cls J M=true)(p:Hs.le H)
  (h:y.run C Hs S J (λv H'=>A.run C Hs S M (λu i=>K v u i) H') H) :
  A.run C Hs S M (λu H'=>y.run C Hs S J (λv i=>K v u i) H') H:=by
 by_cases l:y.cls=0
 ·cases hi with
  |fail=>exact h.elim
  |calm F =>refine Wk F w (λhc=>?_) p h;rcases hc with hc|hc|hc<;>(rw[hc]at d;simpa[BG,Kind.cls]using d)
  |new|write|call|ins=>simp[Kind.cls]at l
 ·by_cases e:A.cls=0
  ·cases w with
   |fail=>
    cases hi with
    |fail=>exact h
    |calm _=>simp[Kind.cls]at l
    |new r =>obtain⟨mk,x,-,h⟩:=h;obtain⟨o,Y⟩:=H.fresh;exact h o Y
    |write Z=>obtain⟨_,_,_,X⟩:=Z.some _ _ h;exact X
    |call name args =>obtain⟨vs,D,R,O,Q,U,V,h5,W⟩:=h;obtain⟨r0,N,B,E⟩:=h5 H;exact(W r0 N B E).2
    |ins r =>obtain⟨o,sh,α,v,g,O,Q,U,V,h5⟩:=h;exact h5
   |calm F =>refine Wi F hi (λhc=>?_) p h;rcases hc with hc|hc|hc<;>(rw[hc]at d;simpa[BG,Kind.cls]using d)
   |new|write|call|ins=>simp[Kind.cls]at e
  ·cases hi with
   |fail|calm=>simp[Kind.cls]at l
   |new r=>
    cases w with
    |fail|calm=>simp[Kind.cls]at e
    |new r'=>exact amR h
    |write=>simp[Kind.cls,BG]at d
    |call=>exact Wl p h
    |ins=>simp[Kind.cls,BG]at d
   |write=>cases w<;>simp[Kind.cls,BG]at d e
   |call=>
    cases w with
    |fail|calm=>simp[Kind.cls]at e
    |new r'=>exact Wj h
    |write=>simp[Kind.cls,BG]at d
    |call=>simp[Kind.cls,BG]at d
    |ins=>simp[Kind.cls,BG]at d
   |ins=>
    cases w with
    |fail|calm=>simp[Kind.cls]at e
    |new r'=>simp[Kind.cls,BG]at d
    |write=>simp[Kind.cls,BG]at d
    |call=>simp[Kind.cls,BG]at d
    |ins=>exact amQ h
end
open Go Go.RowKit
def aW.apart(x y:aW):Bool:=
 (match x.dst with
  |some d=>!(y.dB).contains d&&y.dst != some d
  |none=>true) &&
 (match y.dst with
  |some d=>!(x.dB).contains d
  |none=>true)
theorem ajT{F:PF}{l:List Nat}{d:Option Nat}(v:PV)(h:∀t,d=some t->t ∉ l):vD l (F.put d v) F:=by
 intro t e;cases d with
 |none=>rfl
 |some d=>
  have:t≠d:=by rintro rfl;exact h t rfl e
  simp only[PF.put,PF.set,upd,aE this]
theorem aWV{F:PF}{d e:Option Nat}(v u:PV)(h:∀t,d=some t->e≠some t):(F.put d v).put e u=(F.put e u).put d v:=by
 cases d with
 |none=>rfl
 |some d=>
  cases e with
  |none=>rfl
  |some e=>
   have i:d≠e:=by rintro rfl;exact h d rfl rfl
   exact aYK F (some v) (some u) i
theorem apart_spec{x y:aW}(h:x.apart y=true):(∀d,x.dst=some d->d ∉ y.dB)/\(∀d,x.dst=some d->y.dst≠some d)/\(∀d,y.dst=some d->d ∉ x.dB):=by
 refine⟨λd e=>?_,λd e=>?_,λd e=>?_⟩<;>simp[aW.apart,e]at h
 ·exact h.1.1
 ·exact h.1.2
 ·exact h.2
def POp.cls:POp->Nat
 | .call .. | .bhF ..=>3
 | .insert ..=>4
 |op=>if op.jW then 1 else if op.eU then 2 else 0
def aVJ(a b:Nat)(d e:Bool):Bool:=
 match a,b with
 |0,0|0,1|1,0|1,1=>true
 |4,4=>d&&e
 |0,_=>d
 |_,0=>e
 |1,3=>d
 |3,1=>e
 |_,_=>false
def Dw(x y:aW × Bool):Bool:=x.1.apart y.1&&aVJ x.1.op.cls y.1.op.cls x.2 y.2
section
variable {C:Ctx} {Hs:PH} {S:Spec} {H:PH} {F:PF}
theorem Sj(op:POp)(F:PF):(op.kind F).cls=op.cls\/(op.kind F).cls=0:=by
 have d:(if op.jW then Kind.new (cU op F)else if op.eU then .write (λH K=>cJ op F H K)else .calm (aU op F)).cls=(if op.jW then 1 else if op.eU then 2 else 0):=by
  split
  ·rfl
  ·split<;>rfl
 cases op
 case call n az=>exact .inl rfl
 case bhF x az=>
  simp only[POp.kind];split
  ·exact .inl rfl
  ·exact .inr rfl
 case insert sh x k v=>exact .inl rfl
 all_goals exact .inl d
theorem Qj(i:aW)(F:PF):(i.kind F).cls=i.op.cls\/(i.kind F).cls=0:=by
 unfold aW.kind;split
 ·exact Sj _ _
 ·split
  ·split
   ·exact Sj _ _
   ·exact .inr rfl
  ·exact .inr rfl
  ·exact .inr rfl
theorem a6N{a b d e:Nat}{i l:Bool}(h:aVJ a b i l=true)(p:d=a\/d=0)(hb:e=b\/e=0):BG d e i l=true:=by
 unfold aVJ at h;split at h
 all_goals (rcases p with rfl|rfl<;>rcases hb with rfl|rfl<;>simp_all [BG])
theorem Kind.aXG{k:Kind}(w:k.Ok){st:Bool}{K:PV->PH->Prop}(d:k.run C Hs S st K H):∃v H',K v H':=by
 cases w with
 |fail=>exact d.elim
 |calm _=>obtain⟨v,i,e⟩:=d;exact⟨v,_,e⟩
 |new r=>obtain⟨E,x,i,e⟩:=d;obtain⟨o,y⟩:=H.fresh;exact⟨_,_,e o y⟩
 |write A=>obtain⟨v,H',h⟩:=A.some _ _ d;exact⟨v,H',h.2⟩
 |call name args =>obtain⟨vs,D,R,i,e,l,p,h5,u⟩:=d;obtain⟨r,H',a,b⟩:=h5 H;exact⟨_,_,(u r H' a b).2⟩
 |ins r =>obtain⟨o,sh,B,v,g,i,e,l,p,h5⟩:=d;exact⟨_,_,h5⟩
def BN(C:Ctx)(Hs:PH)(S:Spec)(i:aW × Bool)(K:PF->PH->Prop)(F:PF)(H:PH):Prop:=(i.1.kind F).run C Hs S i.2 (λv H'=>K (F.put i.1.dst v) H') H
theorem EZ{i:aW × Bool}{K K':PF->PH->Prop}(h:∀e H',Hs.le H'->K e H'->K' e H')(d:Hs.le H)(l:BN C Hs S i K F H):BN C Hs S i K' F H:=
 Kind.zF (yY _ _) (λv H' a b=>h _ _ a b) d l
theorem aOR{i j:aW × Bool}{K:PF->PH->Prop}(l:Dw i j=true)(e:Hs.le H)(h:BN C Hs S i (BN C Hs S j K) F H):BN C Hs S j (BN C Hs S i K) F H:=by
 simp only[Dw,bhQ]at l;obtain⟨w,x,y⟩:=apart_spec l.1;unfold BN at h ⊢;have p:∀v,j.1.kind (F.put i.1.dst v)=j.1.kind F:=λv=>D9 (ajT v w);have e2:∀v,i.1.kind (F.put j.1.dst v)=i.1.kind F:=λv=>D9 (ajT v y);simp only[p]at h;simp only[e2];have:=aJP (K:=λv u d=>K ((F.put i.1.dst v).put j.1.dst u) d) (yY i.1 F) (yY j.1 F) (a6N l.2 (Qj _ _) (Qj _ _)) e h;refine Kind.zF (yY j.1 F) (λu H' a b=>?_) e this;refine Kind.zF (yY i.1 F) (λv d _ c=>?_) a b;rw[aWV v u x]at c;exact c
inductive EH (ops:Array Oper):Nat->Nat->Prop
 |one {i j:Nat} {o:Oper} {e} (ho:ops[j]?=some o) (he:e∈o.after) (hb:Region.binds .any e=true) (hi:e.on=i):EH ops i j
 |step {i m j:Nat} {o:Oper} {e} (h:EH ops i m) (ho:ops[j]?=some o) (he:e∈o.after) (hb:Region.binds .any e=true) (hm:e.on=m):EH ops i j
def uZ(ops:Array Oper)(listed:Array Bool):Prop:=∀j o,ops[j]?=some o->listed.getD j false=true->∀e∈o.after,Region.binds .any e=true->listed.getD e.on false=true
theorem uZ.aYJ{ops:Array Oper}{listed:Array Bool}(l:uZ ops listed){i j:Nat}(h:EH ops i j)(p:listed.getD j false=true):listed.getD i false=true:=by
 induction h with
 |one e d hb hi=>subst hi;exact l _ _ e p _ d hb
 |step h e d hb u w=>subst u;exact w (l _ _ e p _ d hb)
theorem uZ.R2{ops:Array Oper}{listed:Array Bool}(x:uZ ops listed){i j:Nat}(h:EH ops i j)(hi:listed.getD i false=false):j ∉ Region.ready .any ops listed:=by
 intro u;rw[mem_ready]at u;obtain⟨-,o,w,e⟩:=u;cases h with
 |one d l hb p =>rw[w]at d;cases d;subst p;rw[e _ l hb]at hi;cases hi
 |step h d l hb y =>rw[w]at d;cases d;subst y;rw[x.aYJ h (e _ l hb)]at hi;cases hi
theorem uZ.set{ops:Array Oper}{listed:Array Bool}(y:uZ ops listed){i:Nat}(hi:i∈Region.ready .any ops listed):uZ ops (listed.setIfInBounds i true):=by
 intro j o x w e u hb;by_cases l:j=i
 ·subst l;rw[mem_ready]at hi;obtain⟨-,o',p,d⟩:=hi;rw[x]at p;cases p;exact getD_set_true (d e u hb)
 ·rw[getD_set_ne false (Ne.symm l)]at w;exact getD_set_true (y j o x w e u hb)
def IZ(C:Ctx)(Hs:PH)(S:Spec)(ops:Array Oper)(il:List (aW × Bool))(K:PF->PH->Prop):Nat->Array Bool->PF->PH->Prop
 |0,listed,F,H=>Region.ready .any ops listed=[]/\K F H
 |fuel+1,listed,F,H=>(Region.ready .any ops listed=[]->K F H) /\
  ∀i∈Region.ready .any ops listed,∀p,il[i]?=some p->BN C Hs S p (IZ C Hs S ops il K fuel (listed.setIfInBounds i true)) F H
theorem aER{ops:Array Oper}{il:List (aW × Bool)}{K:PF->PH->Prop}{i:Nat}{p:aW × Bool}(hp:il[i]?=some p) :
  ∀(fuel:Nat)(listed:Array Bool)(F:PF)(H:PH),Hs.le H->uZ ops listed ->
   (∀j q,il[j]?=some q->j≠i->listed.getD j true=false->¬EH ops i j->Dw p q=true) ->
   i∈Region.ready .any ops listed->BN C Hs S p (IZ C Hs S ops il K fuel (listed.setIfInBounds i true)) F H->IZ C Hs S ops il K (fuel+1) listed F H:=by
 intro fuel
 induction fuel with
 |zero=>
  intro listed F H u Q l y h;refine⟨λe=>(by rw[e]at y;cases y),λj A q x=>?_⟩;by_cases d:j=i
  ·subst d;rw[hp]at x;cases x;exact h
  ·obtain⟨v,H',B⟩:=Kind.aXG (yY _ _) h;have:=ready_mono A d;rw[B.1]at this;cases this
 |succ fuel ih=>
  intro listed F H u Q l y h;refine⟨λe=>(by rw[e]at y;cases y),λj A q x=>?_⟩;by_cases d:j=i
  ·subst d;rw[hp]at x;cases x;exact h
  ·have w:=(mem_ready.1 y).1;have J:=(mem_ready.1 A).1;have E:listed.getD i false=false:=by
    rcases biR i listed.size with h'|h'
    ·simp[h']at w ⊢;exact w
    ·simp[Array.getElem?_eq_none h']at w
   have U:¬EH ops i j:=λhb=>Q.R2 hb E A;have X:BN C Hs S p (BN C Hs S q (IZ C Hs S ops il K fuel ((listed.setIfInBounds i true).setIfInBounds j true))) F H:=
    EZ (λW H' _ B=>B.2 j (ready_mono A d) q x) u h
   have Y:=aOR (l j q x d J U) u X;refine EZ (λW H' N B=>?_) u Y;refine ih (listed.setIfInBounds j true) W H' N (Q.set A) (λk r Z R O V=>l k r Z R ?_ V) (ready_mono y (Ne.symm d)) ?_
   ·by_cases M:j=k
    ·subst M;exact J
    ·rw[getD_set_ne true M]at O;exact O
   ·rw[Array.setIfInBounds_comm _ _ d];exact B
def AX(o:Oper):List Nat:=(o.after.toList.filter λe=>Region.binds .any e).map (·.on)
def afM(ms:List Nat)(ds:List Nat):Nat:=ds.foldl (λs d=>s ||| (2^d ||| ms.getD d 0)) 0
def GO:List Oper->List Nat->List Nat
 |[],d=>d
 |o::os,d=>GO os (d++[afM d (AX o)])
def nJ(ms:List Nat):Nat->List Oper->Bool
 |_,[]=>true
 |k,o::os=>(AX o).all (·<k)&&ms.getD k 0==afM ms (AX o)&&nJ ms (k+1) os
def MV(ms:List Nat)(i:Nat)(p:aW × Bool):Nat->List (aW × Bool)->Bool
 |_,[]=>true
 |j,q::d=>((ms.getD j 0).testBit i||Dw p q)&&MV ms i p (j+1) d
def IQ(ms:List Nat):Nat->List (aW × Bool)->Bool
 |_,[]=>true
 |i,p::ps=>MV ms i p (i+1) ps&&IQ ms (i+1) ps
def aMJ(ops:Array Oper)(il:List (aW × Bool)):Bool:=
 let ms:=GO ops.toList []
 nJ ms 0 ops.toList&&IQ ms 0 il
theorem afN{ms:List Nat}{i:Nat}:∀{ds:List Nat}{s:Nat},(ds.foldl (λs d=>s ||| (2^d ||| ms.getD d 0)) s).testBit i=true->s.testBit i=true\/∃d∈ds,d=i\/(ms.getD d 0).testBit i=true
 |[],s,h=>.inl h
 |d::ds,s,h=>by
  rw[List.foldl_cons]at h;rcases afN h with h|⟨e,he,h⟩
  ·rw[Nat.testBit_or,Nat.testBit_or,Nat.testBit_two_pow]at h;simp only[blI,decide_eq_true_eq]at h;rcases h with h|h|h
   ·exact .inl h
   ·exact .inr ⟨d,by simp,.inl h⟩
   ·exact .inr ⟨d,by simp,.inr h⟩
  ·exact .inr ⟨e,by simp[he],h⟩
theorem BF{ms:List Nat}:∀{l:List Oper}{k j:Nat}{o:Oper},nJ ms k l=true->l[j]?=some o->(∀d∈AX o,d<k+j)/\ms.getD (k+j) 0=afM ms (AX o)
 |[],_,_,_,_,h=>by simp at h
 |o::os,k,j,o',h,e=>by
  simp only[nJ,bhQ,biB,decide_eq_true_eq,beq_iff_eq]at h;cases j with
  |zero=>simp only[List.getElem?_cons_zero,bjV.injEq]at e;subst e;exact⟨h.1.1,h.1.2⟩
  |succ j =>have:=BF h.2 (by simpa using e);rw[bkL,Nat.add_comm 1 j]at this;exact this
theorem qi{ms:List Nat}{ops:Array Oper}(h:nJ ms 0 ops.toList=true)(i:Nat):∀(n j:Nat),j<n->j<ops.size->(ms.getD j 0).testBit i=true->EH ops i j:=by
 intro n
 induction n with
 |zero=>intro j A;omega
 |succ n E=>
  intro j A hlt hb;have B:ops.toList[j]?=some ops[j]:=by simp[hlt]
  have p:ops[j]?=some ops[j]:=by simp[hlt]
  obtain⟨u,w⟩:=BF h B;rw[biN]at u w;rw[w]at hb;rcases afN hb with hb|⟨d,hd,hb⟩
  ·simp at hb
  ·have y:=u d hd;simp only[AX,biJ,bkU]at hd;obtain⟨e,⟨x,l⟩,rfl⟩:=hd;rcases hb with rfl|hb
   ·exact .one p (by simpa using x) l rfl
   ·exact .step (E e.on Om Om hb) p (by simpa using x) l rfl
theorem iq{ms:List Nat}{i:Nat}{p:aW × Bool}:∀{l:List (aW × Bool)}{k j:Nat}{q:aW × Bool},MV ms i p k l=true->l[j]?=some q->(ms.getD (k+j) 0).testBit i=true\/Dw p q=true
 |[],_,_,_,_,h=>by simp at h
 |x::xs,k,j,q,h,d=>by
  simp only[MV,bhQ,blI]at h;cases j with
  |zero=>simp only[List.getElem?_cons_zero,bjV.injEq]at d;subst d;exact h.1
  |succ j =>have:=iq h.2 (by simpa using d);rw[bkL,Nat.add_comm 1 j]at this;exact this
theorem TA{ops:Array Oper}{il:List (aW × Bool)}{K:PF->PH->Prop}{ms:List Nat}(R:Z' il=ops.size)(J:nJ ms 0 ops.toList=true) :
  ∀(l:List (aW × Bool)) (k:Nat) (listed:Array Bool) (F:PF) (H:PH),(∀j,l[j]?=il[k+j]?)->k+Z' l=ops.size->listed.size=ops.size->(∀j,j<ops.size->(listed.getD j true=true↔j<k))->IQ ms k l=true->Hs.le H ->
   wpD C Hs S l K F H->IZ C Hs S ops il K l.length listed F H
 |[],k,listed,F,H,X,W,V,d,_,E,h=>by
  refine⟨?_,h⟩;cases hr:Region.ready .any ops listed with
  |nil=>rfl
  |cons x xs=>
   have hx:x∈Region.ready .any ops listed:=by rw[hr];simp
   obtain⟨h0,o,Y,-⟩:=mem_ready.1 hx;have hlt:x<ops.size:=(blH.1 Y).1;have:=(d x hlt).2 (by simp at W;omega);rw[h0]at this;cases this
 |p::l,k,listed,F,H,X,W,V,d,hB,E,h=>by
  have hp:il[k]?=some p:=by simpa using(X 0).symm
  have O:k<ops.size:=by simp at W;omega
  simp only[IQ,bhQ]at hB;have Y:ops[k]?=some ops[k]:=by simp[O]
  have A:∀j,j<ops.size->(listed.getD j false=listed.getD j true):=λj y=>by simp[show j<listed.size by omega]
  have ε:∀j,j<ops.size->∀e∈ops[j]!.after,True:=λ_ _ _ _=>trivial;have w:∀j o,ops[j]?=some o->∀e∈o.after,Region.binds .any e=true->e.on<j:=by
   intro j o y e M hb;have hlt:j<ops.size:=(blH.1 y).1;have:=(BF J (j:=j) (o:=o) (by simpa using y)).1 e.on (by simp only[AX,biJ,bkU];exact⟨e,⟨by simpa using M,hb⟩,rfl⟩)
   omega
  have u:k∈Region.ready .any ops listed:=by
   rw[mem_ready];refine⟨?_,_,Y,λe M hb=>?_⟩
   ·cases Z:listed.getD k true with
    |false=>rfl
    |true=>have:=(d k O).1 Z;omega
   ·have hd:=w k _ Y e M hb;rw[A e.on Om];exact(d e.on Om).2 hd
  have i:uZ ops listed:=by intro j o y U e M hb;have hlt:j<ops.size:=(blH.1 y).1;have hd:=w j o y e M hb;rw[A j hlt]at U;have:=(d j hlt).1 U;rw[A e.on Om];exact(d e.on Om).2 Om
  refine aER hp l.length listed F H E i (λj q hq β δ α=>?_) u ?_
  ·have N:j<ops.size:=by have:=(biZ.1 hq).1;omega
   have B:k<j:=by
    rcases Nat.lt_trichotomy j k with h'|h'|h'
    ·have:=(d j N).2 h';rw[δ]at this;cases this
    ·exact(β h').elim
    ·exact h'
   have γ:l[j-(k+1)]?=some q:=by have:=X (j-k);rw[show k+(j-k)=j by omega,hq,show j-k=(j-(k+1))+1 by omega]at this;simpa using this
   rcases iq hB.1 γ with hb|hb
   ·rw[show k+1+(j-(k+1))=j by omega]at hb;exact(α (qi J k (j+1) j Om N hb)).elim
   ·exact hb
  ·have h':BN C Hs S p (wpD C Hs S l K) F H:=h;refine EZ (λF' H' Q Z=>?_) E h';refine TA R J l (k+1) _ F' H' (λj=>?_) (by simp at W;omega) (by simpa using V) (λj y=>?_) hB.2 Q Z
   ·have:=X (j+1);rw[show k+(j+1)=k+1+j by omega]at this;simpa using this
   ·by_cases B:k=j
    ·subst B;simp[show k<listed.size by omega]
    ·rw[getD_set_ne true B,d j y];omega
end
open Go Go.RowKit
def aaK(ms cls:List Nat)(i:Nat):Bool:=
 cls.getD i 0 != 0||(bhP cls.length).any λj=>(cls.getD j 0==2||cls.getD j 0==3||cls.getD j 0==4)&&!(ms.getD j 0).testBit i&&!(ms.getD i 0).testBit j
def FF(ops:Array Oper)(d:List aW):List (aW × Bool):=
 let ms:=GO ops.toList []
 let cls:=d.map λi=>i.op.cls
 d.zip ((bhP d.length).map (aaK ms cls))
namespace Tbl
variable (T:Tbl)
def drawn(n:Nat)(ops:Array Oper):Option (List (aW × Bool)):=
 match T.xY n ops ops.toList with
 |some d=>if T.P.follows .mixedOrders&&aMJ ops (FF ops d)then some (FF ops d)else none
 |none=>none
end Tbl
section
variable {ro:Option Nat} {fu:Nat} {ds:List Deferred} {C:Ctx} {Hs:PH} {S:Spec} {T:Tbl} {n:Nat}
section
variable {E:Env} {F:PF} {H:PH} {a:Act} {w:World}
theorem rI.after{d:Env}{H':PH}{e:World}{K:PF->PH->Prop}{next:Act->World->Prop}(h:rI ds n E H w K next)(u:Ext E H w d H' e):rI ds n d H' e K next:=
 λi l H2 a2 A p hW y x=>h i l H2 a2 A p hW (u.trans y) x
theorem ch{t:Nat}{b:Bool}(e:eQ ds n E F a)(h:F t=some (.bool b)):a.tmps[t]?=some (.bool b):=by
 have r:=e.t t _ h;rw[blU]at r;cases d:a.tmps[t]? with
 |none=>rw[d]at r;simp[undef]at r;cases r
 |some v=>rw[d]at r;simp at r;cases r;rfl
theorem VL{ops:Array Oper}{o:Oper}{i:aW}(h:T.mg n ops o=some i):(T.op o=some i.op\/i.op=.stuck)/\o.dst=i.dst/\o.dst.all (·<n)=true /\
  ((o.guard=none/\i.guard=none)\/∃j d t,o.guard=some (j,d)/\i.guard=some (t,d)/\(ops[j]?).bind (·.dst)=some t):=by
 unfold Tbl.mg at h;have hp:T.op o=some ((T.op o).getD .stuck)\/(T.op o).getD .stuck=.stuck:=by
  cases T.op o
  ·exact .inr rfl
  ·exact .inl rfl
 ·generalize(T.op o).getD .stuck=p at *
  split at h
  ·rename_i l;split at h
   ·rename_i e;cases h;exact⟨hp,rfl,l,.inl ⟨e,rfl⟩⟩
   ·rename_i j d e;split at h
    ·rename_i t u;cases h;exact⟨hp,rfl,l,.inr ⟨j,d,t,e,rfl,u⟩⟩
    ·cases h
  ·cases h
theorem RB{ops:Array Oper}{o:Oper}{j t:Nat}{d b:Bool}(e:o.guard=some (j,d))(i:(ops[j]?).bind (·.dst)=some t)(hb:a.tmps[t]?=some (.bool b)):Region.wanted o (yielded ops a.tmps)=(b==d):=by
 simp[Region.wanted,e,yielded,i,hb]
end
theorem DG{E:Env}:bM E (.tup []) undef:=.tup #[] rfl bH
theorem jd{n:Nat}{E:Env}{F:PF}{a:Act}{t:Nat}(d:eQ ds n E F a)(h:F t=some (.tup [])):a.tmps.getD t undef=undef:=by
 have:=d.t t _ h;generalize a.tmps.getD t undef=v at this;cases this with
 |tup vs e i=>
  have:vs=#[]:=by simpa using e
  subst this;rfl
theorem KT{ops:Array Oper}{a:Act}{o:Oper}{j t:Nat}{d:Bool}(e:o.guard=some (j,d))(i:(ops[j]?).bind (·.dst)=some t)(hb:a.tmps.getD t undef=undef):Region.wanted o (yielded ops a.tmps)=false:=by
 simp only[Region.wanted,e,yielded,i];rw[blU]at hb;cases h:a.tmps[t]? with
 |none=>simp[h]
 |some v =>rw[h]at hb;simp only[bkC]at hb;subst hb;simp[h,undef]
theorem zU{E:Env}{F:PF}{H:PH}{a:Act}{w:World}(i:C.P=T.P)(e:C.num=T.num){o:Oper}{p:POp}{d:Option Nat}{K:PF->PH->Prop}{Q:Exit->Act->World->Prop}{next:Act->World->Prop}(l:T.op o=some p\/p=.stuck)(y:o.dst=d)(hlt:o.dst.all (·<n)=true)
  (h:wpOp C p d K F H) (u:eQ ds n E F a) (hW:cB E H w) (x:E.num=T.num) (bgZ:rI ds n E H w K next):o.wpIn (Fz ro) fu T.P a w next Q:=by
 rcases l with l|rfl
 ·exact aWQ i e l y hlt h u hW x bgZ
 ·obtain⟨v,A,-⟩:=h;cases A
theorem SK(H:PH)(D:List Nat):(H.only D).le H:=by
 intro o x d;rw[zT]at d;split at d
 ·exact d
 ·cases d
theorem XV{op:POp}{F:PF}{H:PH}{st:Bool}{d:Option Nat}{K:PF->PH->Prop}(y:Hs.le H)(h:(op.kind F).run C Hs S st (λv H'=>K (F.put d v) H') H):wpOp C op d K F H:=by
 have u:(if op.jW then Kind.new (cU op F)else if op.eU then .write (λH K=>cJ op F H K)else .calm (aU op F)).run C Hs S st (λv H'=>K (F.put d v) H') H ->
   (if op.jW then qA (cU op F) d K F H else if op.eU then cJ op F H (λr H'=>K (F.put d r) H')else yJ (aU op F H) d K F H):=by
  intro h;by_cases i:op.jW=true
  ·rw[aG i]at h ⊢;exact h
  ·rw[aE i]at h ⊢;by_cases p:op.eU=true
   ·rw[aG p]at h ⊢;have Q:cJ op F H λr H'=>Hs.le H'/\K (F.put d r) H':=h;exact LL (λv H' X=>X.2) Q
   ·rw[aE p]at h ⊢;obtain⟨v,B,W⟩:=h;refine⟨v,?_,W⟩;cases st
    ·exact B
    ·exact Gp y B
 have e:∀name l,(Kind.call name l).run C Hs S st (λv H'=>K (F.put d v) H') H->wG C name l d K F H:=by intro name l h;obtain⟨vs,D,R,i,p,A,U,h5,V⟩:=h;exact⟨vs,H.only D,R (H.only D),i,SK H D,U,λr H' a b=>(V r H' a b).2⟩
 cases op
 case call name az=>exact .inl (by simpa using e _ _ h)
 case bhF x az=>
  simp only[POp.kind]at h;split at h
  ·rename_i name cs Y;show xJ C (x.ev F) az d K F H;rw[Y];exact .inl (e _ _ h)
  ·exact h.elim
 case insert sh x k v=>
  obtain⟨o,α,Z,vv,g,i,p,A,-,h5⟩:=h;show cJ (.insert sh x k v) F H (λr H'=>K (F.put d r) H');split at i
  ·rename_i o' kv β M e2 N;simp only[biE,Prod.mk.injEq]at i;obtain⟨J,O,rfl,rfl,rfl,rfl⟩:=i;simp only[cJ,M,e2,N,p,O];exact⟨trivial,A,h5⟩
  ·cases i
 all_goals exact u h
theorem Nl(X:C.P=T.P)(W:C.num=T.num){ops:Array Oper}{O:List aW}{U:List Bool}(ε:Z' U=Z' O)(δ:∀(i:Nat) o,ops[i]?=some o->∃p,O[i]?=some p/\T.mg n ops o=some p)
  {K:PF->PH->Prop} {Q:Exit->Act->World->Prop} :
  ∀(fuel:Nat)(listed:Array Bool)(E:Env)(F:PF)(H:PH)(a:Act)(w:World),IZ C Hs S ops (O.zip U) K fuel listed F H->Hs.le H->eQ ds n E F a->cB E H w->E.num=T.num->rI ds n E H w K (Q .normal) ->
   wpAnyIn (Fz ro) fu T.P .any ops Q fuel listed a w:=by
 intro fuel
 induction fuel with
 |zero=>intro listed E F H a w h J l hW hN hT;exact⟨h.1,hT E F H a w l hW (.refl E H w) h.2⟩
 |succ fuel ih=>
  intro listed E F H a w h J l hW hN hT;refine⟨λe=>hT E F H a w l hW (.refl E H w) (h.1 e),λi hi=>?_⟩;obtain⟨-,o,ho,-⟩:=mem_ready.1 hi;obtain⟨p,hp,γ⟩:=δ i o ho;have hlt:i<Z' O:=(biZ.1 hp).1;have hz:(O.zip U)[i]?=some (p,U[i]'Om):=by rw[List.getElem?_zip_eq_some];exact⟨hp,by simp⟩
  have Y:=h.2 i hi _ hz;obtain⟨Z,hd,A,hg⟩:=VL γ;have u:rI ds n E H w (λR H'=>Hs.le H'/\IZ C Hs S ops (O.zip U) K fuel (listed.setIfInBounds i true) R H') (wpAnyIn (Fz ro) fu T.P .any ops Q fuel (listed.setIfInBounds i true)):=
   λE' R H' a' w' α β hE V=>ih _ E' R H' a' w' V.2 V.1 α β (hE.env.num.trans hN) (hT.after hE)
  have d:=EZ (K':=λR H'=>Hs.le H'/\IZ C Hs S ops (O.zip U) K fuel (listed.setIfInBounds i true) R H') (λR H' x y=>⟨x,y⟩) J Y;unfold BN aW.kind at d;unfold Go.wpOpIn;simp only[ho];rcases hg with⟨B,N⟩|⟨j,want,t,B,N,ht⟩
  ·rw[aG (by simp[Region.wanted,B])];simp only[N]at d;exact(zU X W Z hd A (XV J d) l hW hN u)
  ·simp only[N]at d;split at d
   ·rename_i b hb;rw[RB B ht (ch l hb)];split at d
    ·rename_i M;rw[aG (by simp[M])];exact(zU X W Z hd A (XV J d) l hW hN u)
    ·rename_i M;rw[aE (by simpa using M)];obtain⟨v,hv,V⟩:=d;cases hv;exact⟨λ_ _=>trivial,u E _ H _ w (by rw[<-hd];exact l.put A DG) hW (.refl E H w) V⟩
   ·rename_i hb;rw[KT B ht (jd l hb),aE bH];obtain⟨v,hv,V⟩:=d;cases hv;exact⟨λ_ _=>trivial,u E _ H _ w (by rw[<-hd];exact l.put A DG) hW (.refl E H w) V⟩
   ·exact d.elim
theorem fj{ops:Array Oper}:∀{l:List Oper}{e:List aW},T.xY n ops l=some e->Z' e=Z' l/\∀(i:Nat) o,l[i]?=some o->∃p,e[i]?=some p/\T.mg n ops o=some p
 |[],e,h=>by simp[Tbl.xY]at h;subst h;exact⟨rfl,λi o h=>by simp at h⟩
 |o::l,e,h=>by
  simp only[Tbl.xY]at h;split at h
  ·rename_i p ps hp u;cases h;obtain⟨x,y⟩:=fj u;refine⟨by simp[x],λi o' d=>?_⟩;cases i with
   |zero=>simp at d;subst d;exact⟨p,rfl,hp⟩
   |succ i=>obtain⟨q,a,b⟩:=y i o' (by simpa using d);exact⟨q,by simpa using a,b⟩
  ·cases h
theorem aFU(A:C.P=T.P)(y:C.num=T.num){id:Nat}{ops:Array Oper}{il:List (aW × Bool)}(d:T.drawn n ops=some il){K:PF->PH->Prop}{Q:Exit->Act->World->Prop}{E:Env}{F:PF}{H:PH}{a:Act}{w:World}
  (h:∃Hs S,PH.le Hs H/\wpD C Hs S il K F H) (X:eQ ds n E F a) (hW:cB E H w) (Y:E.num=T.num) (Z:rI ds n E H w K (Q .normal)):(Code.region id ops true).wpIn (Fz ro) fu T.P Q a w:=by
 obtain⟨Hs,S,u,h⟩:=h;unfold Tbl.drawn at d;split at d
 ·rename_i O J;split at d
  ·rename_i e;cases d;simp only[bhQ,aMJ]at e;obtain⟨hm,M,N⟩:=e;obtain⟨x,B⟩:=fj J;have l:Z' O=ops.size:=by simpa using x
   refine wpIn_region_any hm ?_;have p:(FF ops O).length=ops.size:=by simp[FF,l]
   have R:=TA (C:=C) (Hs:=Hs) (S:=S) (K:=K) p M (FF ops O) 0 (bjX ops.size false) F H bH (by simp[p]) bH (λj hj=>by simp[hj]) N u h;rw[p]at R;exact Nl A y bH (λi o ho=>B i o (by simpa using ho)) ops.size _ E F H a _ R u X hW.drew Y (λU V H' W w' g1 g2 g3 g4=>Z U V H' W w' g1 g2 g3.Ma g4)
  ·cases d
 ·cases d
end
end Go.PM
namespace Go.PM
open Go Go.RowKit
def POp.a6I:POp->Bool
 | .load .. | .lookup .. | .bgR ..=>true
 |_=>false
def POp.a2J:POp->Bool
 | .store ..=>true
 |_=>false
def Hc(ms:List Nat)(m n:Nat):Bool:=(bhP n).all λj=>decide (j<m)||(bhP m).all λi=>(ms.getD j 0).testBit i
def cutAt(ms:List Nat)(d:List aW):Option Nat:=
 let cls:=d.map λi=>i.op.cls
 (bhP d.length).find? λm=>(match d[m]? with|some i=>i.op.a2J&&i.guard.isNone|none=>false)&&Hc ms m d.length&&(bhP m).any λi=>match d[i]? with|some x=>x.op.a6I&&aaK ms cls i|none=>false
def qQ(ms:List Nat)(k:Nat)(d:List aW):List (aW × Bool):=
 let cls:=d.map λi=>i.op.cls
 d.zip ((bhP d.length).map (aaK (ms.drop k |>.map (· >>> k)) cls))
namespace Tbl
variable (T:Tbl)
def Z9(n:Nat)(ops:Array Oper):Option aC:=
 match T.xY n ops ops.toList with
 |some d=>
  let ms:=GO ops.toList []
  match cutAt ms d with
  |none=>(T.drawn n ops).map .draw
  |some m=>
   let A:=qQ ms 0 (d.take m)
   let B:=qQ ms m (d.drop m)
   if T.P.follows .mixedOrders&&nJ ms 0 ops.toList&&Hc ms m d.length&&IQ ms 0 A&&IQ ms m B then some (.seq (.draw A) (.draw B))else none
 |none=>none
def code(n:Nat):Code->Option aC
 | .skip=>some .skip
 | .region _ ops d=>if d then T.Z9 n ops else(T.xY n ops ops.toList).map .region
 | .seq a b=>match code n a,code n b with
  |some a,some b=>some (.seq a b)
  |_,_=>none
 | .cond c a b=>match T.opd c,code n a,code n b with
  |some c,some a,some b=>some (.cond c a b)
  |_,_,_=>none
 | .block id c=>(code n c).map (.block id)
 | .loop c=>(code n c).map .loop
 | .exit id=>some (.exit id)
 | .ret=>some .ret
 | .scope c=>code n c
 | .label _=>some .skip
 |_=>none
end Tbl
theorem fy{ms:List Nat}:∀{l:List Oper}{k m:Nat},nJ ms k l=true->nJ ms k (l.take m)=true
 |[],_,_,_=>by simp[nJ]
 |o::l,k,0,_=>by simp[nJ]
 |o::l,k,m+1,h=>by simp only[nJ,bhQ,List.take_succ_cons]at h ⊢;exact⟨h.1,fy h.2⟩
theorem DT{listed:Array Bool}{m f i:Nat}{d:Bool}(e:listed.size=m)(h:i<m):(listed++bjX f false).getD i d=listed.getD i d:=by
 simp only[blU];rw[Array.getElem?_append_left Om]
section
variable {ro:Option Nat} {fu:Nat} {ds:List Deferred} {C:Ctx} {Hs:PH} {S:Spec} {T:Tbl} {n:Nat}
theorem a3W{ops:Array Oper}{m i:Nat}(d:m<=ops.size):(ops.extract 0 m)[i]?=if i<m then ops[i]? else none:=by
 rw[Array.getElem?_extract];split
 ·rename_i h;rw[aG Om];simp
 ·rename_i h;rw[aE Om]
theorem aIZ{ops:Array Oper}{ms:List Nat}{m:Nat}(M:m<=ops.size)(x:nJ ms 0 ops.toList=true)(N:Hc ms m ops.size=true){listed:Array Bool}{f:Nat}(B:listed.size=m)(Q:m+f=ops.size)(K:uZ ops (listed++bjX f false))
  (E:∃i,i<m/\listed.getD i true=false) {i:Nat} (hi:i∈Region.ready .any ops (listed++bjX f false)):i<m/\i∈Region.ready .any (ops.extract 0 m) listed:=by
 obtain⟨F,o,A,l⟩:=mem_ready.1 hi;have w:i<ops.size:=(blH.1 A).1;have d:i<m:=by
  rcases biR i m with h|h
  ·exact h
  ·exfalso;obtain⟨u,J,y⟩:=E;have hb:(ms.getD i 0).testBit u=true:=by have:=biB.1 N i (biM.2 w);rw[bG Om,Bool.false_or]at this;exact biB.1 this u (biM.2 J)
   have p:=qi x u (i+1) i Om w hb;refine K.R2 p ?_ hi;rw[DT B J];have:u<listed.size:=Om;simp[this]at y ⊢;exact y
 refine⟨d,mem_ready.2 ⟨?_,o,by rw[a3W M,aG d];exact A,λe H hb=>?_⟩⟩
 ·rw[DT B d]at F;exact F
 ·have O:=(BF x (j:=i) (o:=o) (by simpa using A)).1 e.on (by simp only[AX,biJ,bkU];exact⟨e,⟨by simpa using H,hb⟩,rfl⟩);have:=l e H hb;rw[DT B Om]at this;exact this
theorem asA{ops:Array Oper}{ms:List Nat}(l:nJ ms 0 ops.toList=true){listed:Array Bool}(H:listed.size=ops.size):∀(u:Nat),u<ops.size->listed.getD u true=false->∃i,i∈Region.ready .any ops listed:=by
 intro u
 induction u using Nat.strongRecOn with
 |ind u E=>
  intro x A;by_cases h:∃w,w<u/\listed.getD w true=false
  ·obtain⟨w,B,p⟩:=h;exact E w B Om p
  ·refine⟨u,mem_ready.2 ⟨A,ops[u],by simp[x],λe y hb=>?_⟩⟩;have F:=(BF l (j:=u) (o:=ops[u]) (by simp[x])).1 e.on (by simp only[AX,biJ,bkU];exact⟨e,⟨by simpa using y,hb⟩,rfl⟩)
   have hlt:e.on<u:=Om;cases d:listed.getD e.on true with
   |false=>exact(h ⟨e.on,hlt,d⟩).elim
   |true =>have:e.on<listed.size:=Om;simp[this]at d ⊢;exact d
def unl(listed:Array Bool):Nat:=listed.toList.countP λb=>!b
theorem aYI{listed:Array Bool}{m:Nat}(e:listed.size=m)(h:unl listed=0):listed=bjX m true:=by
 apply Array.ext
 ·simp[e]
 ·intro i l p;have:listed[i]∈listed.toList:=by simp
  have d:=List.countP_eq_zero.1 h _ this;simpa using d
theorem a4Z{listed:Array Bool}{i:Nat}(h:listed.getD i true=false):unl (listed.setIfInBounds i true)+1=unl listed:=by
 have hi:i<listed.size:=by
  rcases biR i listed.size with h'|h'
  ·exact h'
  ·simp[Array.getElem?_eq_none h']at h
 have l:listed[i]=false:=by simpa[hi]using h
 unfold unl;rw[Array.toList_setIfInBounds];have d:i<Z' listed.toList:=by simpa using hi
 have e:listed.toList[i]=false:=by simpa using l
 conv=>rhs;rw[<-bkQ i listed.toList,bjS d,e]
 rw[List.set_eq_take_append_cons_drop,aG d,blO,blO,blK,blK];simp only[bhZ,biF,if_true,bjW,if_false];omega
theorem a4Y{listed:Array Bool}{k:Nat}(h:unl listed=k+1):∃u,u<listed.size/\listed.getD u true=false:=by
 have e:0<listed.toList.countP λb=>!b:=by unfold unl at h;omega
 obtain⟨b,hb,i⟩:=List.countP_pos_iff.1 e;obtain⟨u,l,rfl⟩:=bjD hb;have d:u<listed.size:=by simpa using l
 exact⟨u,d,by simpa[d]using i⟩
theorem arV(X:C.P=T.P)(W:C.num=T.num){ops:Array Oper}{ms:List Nat}{m f:Nat}{A:List (aW × Bool)}(hm:m<=ops.size)(hf:m+f=ops.size)(α:nJ ms 0 ops.toList=true)(ht:Hc ms m ops.size=true)
  (ι:∀(i:Nat) o,i<m->ops[i]?=some o->∃p b,A[i]?=some (p,b)/\T.mg n ops o=some p) {KA:PF->PH->Prop} {Q:Exit->Act->World->Prop} :
  ∀(fuel:Nat)(listed:Array Bool)(E:Env)(F:PF)(H:PH)(a:Act)(w:World),IZ C Hs S (ops.extract 0 m) A KA fuel listed F H->listed.size=m->uZ ops (listed++bjX f false)->unl listed=fuel->Hs.le H->eQ ds n E F a->cB E H w->E.num=T.num ->
   rI ds n E H w KA (wpAnyIn (Fz ro) fu T.P .any ops Q f (bjX m true++bjX f false))->wpAnyIn (Fz ro) fu T.P .any ops Q (fuel+f) (listed++bjX f false) a w:=by
 intro fuel
 induction fuel with
 |zero =>intro listed E F H a w h hs hc hu K M hW hN hT;rw[aYI hs hu,biN];exact hT E F H a w M hW (.refl E H w) h.2
 |succ fuel ih=>
  intro listed E F H a w h hs hc hu K M hW hN hT;obtain⟨u,ν,hu2⟩:=a4Y hu;have μ:∃i,i<m/\listed.getD i true=false:=⟨u,by omega,hu2⟩;rw[show fuel+1+f=(fuel+f)+1 by omega];refine⟨λe=>?_,λi hi=>?_⟩
  ·obtain⟨i,hi⟩:=asA α (listed:=listed++bjX f false) (by simp;omega) u Om (by rw[DT hs Om];exact hu2);rw[e]at hi;cases hi
  obtain⟨η,Z⟩:=aIZ hm α ht hs hf hc μ hi;obtain⟨-,o,ho,-⟩:=mem_ready.1 hi;have κ:=(mem_ready.1 Z).1;obtain⟨p,b,hz,θ⟩:=ι i o η ho;have β:=h.2 i Z _ hz;obtain⟨γ,hd,B,hg⟩:=VL θ;have δ:(listed++bjX f false).setIfInBounds i true=listed.setIfInBounds i true++bjX f false:=by
   apply Array.ext
   ·simp
   ·intro j h1 h2;rw[Array.getElem_setIfInBounds (by simpa using h1)];by_cases R:i=j
    ·subst R;rw[aG rfl,Array.getElem_append_left (by simp;omega),Array.getElem_setIfInBounds Om,aG rfl]
    ·rw[aE R];rcases biR j listed.size with hj|hj
     ·rw[Array.getElem_append_left hj,Array.getElem_append_left (by simpa using hj),Array.getElem_setIfInBounds Om,aE R]
     ·rw[Array.getElem_append_right hj,Array.getElem_append_right (by simpa using hj)];simp
  have Y:=hc.set hi;rw[δ]at Y ⊢;have ξ:=a4Z κ;have l:rI ds n E H w (λU H'=>Hs.le H'/\IZ C Hs S (ops.extract 0 m) A KA fuel (listed.setIfInBounds i true) U H') (wpAnyIn (Fz ro) fu T.P .any ops Q (fuel+f) (listed.setIfInBounds i true++bjX f false)):=
   λE' U H' a' w' ε ζ hE V=>ih _ E' U H' a' w' V.2 (by simpa using hs) Y Om V.1 ε ζ (hE.env.num.trans hN) (hT.after hE)
  have d:=EZ (K':=λU H'=>Hs.le H'/\IZ C Hs S (ops.extract 0 m) A KA fuel (listed.setIfInBounds i true) U H') (λU H' x y=>⟨x,y⟩) K β;unfold BN aW.kind at d;unfold Go.wpOpIn;simp only[ho];rcases hg with⟨J,O⟩|⟨j,want,t,J,O,ht⟩
  ·rw[aG (by simp[Region.wanted,J])];simp only[O]at d;exact(zU X W γ hd B (XV K d) M hW hN l)
  ·simp only[O]at d;split at d
   ·rename_i b hb;rw[RB J ht (ch M hb)];split at d
    ·rename_i N;rw[aG (by simp[N])];exact(zU X W γ hd B (XV K d) M hW hN l)
    ·rename_i N;rw[aE (by simpa using N)];obtain⟨v,hv,V⟩:=d;cases hv;exact⟨λ_ _=>trivial,l E _ H _ w (by rw[<-hd];exact M.put B DG) hW (.refl E H w) V⟩
   ·rename_i hb;rw[KT J ht (jd M hb),aE bH];obtain⟨v,hv,V⟩:=d;cases hv;exact⟨λ_ _=>trivial,l E _ H _ w (by rw[<-hd];exact M.put B DG) hW (.refl E H w) V⟩
   ·exact d.elim
theorem arH(J:C.P=T.P)(y:C.num=T.num){id:Nat}{ops:Array Oper}{pc:aC}(d:T.Z9 n ops=some pc){K:cF}{Q:Exit->Act->World->Prop}{E:Env}{F:PF}{H:PH}{a:Act}{w:World}
  (h:pc.wp C K F H) (hA:eQ ds n E F a) (hW:cB E H w) (hN:E.num=T.num) (hT:rI ds n E H w (K .normal) (Q .normal)):(Code.region id ops true).wpIn (Fz ro) fu T.P Q a w:=by
 unfold Tbl.Z9 at d;split at d
 ·rename_i x μ;simp only at d;split at d
  ·rw[biE]at d;obtain⟨il,ι,rfl⟩:=d;exact aFU J y ι h hA hW hN hT
  ·rename_i m X;split at d
   ·rename_i l;cases d;simp only[bhQ]at l;obtain⟨⟨⟨⟨ξ,N⟩,γ⟩,ο⟩,ρ⟩:=l;obtain⟨α,W⟩:=fj μ;have M:Z' x=ops.size:=by simpa using α
    rw[M]at γ;obtain⟨Hs,S,Z,h⟩:=h;have τ:m<ops.size:=by have:=List.mem_of_find?_eq_some X;rw[biM]at this;omega
    have lA:(qQ (GO ops.toList []) 0 (x.take m)).length=m:=by simp[qQ];omega
    have lB:(qQ (GO ops.toList []) m (x.drop m)).length=ops.size-m:=by simp[qQ];omega
    generalize U:qQ (GO ops.toList []) 0 (x.take m)=A at *
    generalize ζ:qQ (GO ops.toList []) m (x.drop m)=B at *
    generalize χ:GO ops.toList []=ms at *
    refine wpIn_region_any ξ ?_;have O:(ops.extract 0 m).size=m:=by simp;omega
    have β:nJ ms 0 (ops.extract 0 m).toList=true:=by rw[show(ops.extract 0 m).toList=ops.toList.take m by simp];exact fy N
    have h1:=TA (C:=C) (Hs:=Hs) (S:=S) (K:=kB C ((aC.draw B).wp C) K .normal) (ops:=ops.extract 0 m) (il:=A) (ms:=ms) (by rw[lA,O]) β A 0 (bjX m false) F H bH (by rw[O];omega) (by simp;omega) (λj hj=>by rw[O]at hj;simp[hj]) ο Z h;rw[lA]at h1;have R:=arV (ro:=ro) (fu:=fu) (n:=n) J y (f:=ops.size-m) Om Om N γ (λi o υ ho=>?_) (Q:=Q) m (bjX m false) E F H a _ h1 bH ?_ ?_ Z hA hW.drew hN ?_
    ·rw[show m+(ops.size-m)=ops.size by omega]at R;have e:bjX m false++bjX (ops.size-m) false=bjX ops.size false:=by rw[Array.replicate_append_replicate,show m+(ops.size-m)=ops.size by omega]
     rw[e]at R;exact R
    ·obtain⟨p,hp,κ⟩:=W i o (by simpa using ho);have ψ:=(biZ.1 hp).1;have θ:i<Z' A:=Om;refine⟨p,A[i].2,?_,κ⟩;rw[biD θ];congr 1;refine Prod.ext ?_ rfl;subst U;have σ:x[i]=p:=(biZ.1 hp).2;simp[qQ,σ]
    ·intro j o hj hl;exfalso;have ν:j<ops.size:=(blH.1 hj).1;have e:bjX m false++bjX (ops.size-m) false=bjX ops.size false:=by rw[Array.replicate_append_replicate,show m+(ops.size-m)=ops.size by omega]
     rw[e]at hl;simp[ν]at hl
    ·unfold unl;simp[List.countP_replicate]
    ·intro E' F' H' a' w' ε η hE hK;obtain⟨δ,S2,u,h2⟩:=hK;have hz:(A++B).length=ops.size:=by rw[bhW];omega
     have h3:=TA (C:=C) (Hs:=δ) (S:=S2) (K:=K .normal) (ops:=ops) (il:=A++B) (ms:=ms) hz N B m (bjX m true++bjX (ops.size-m) false) F' H' (λj=>by rw[bkF Om];congr 1;omega) Om (by simp;omega) (λj hj=>by
      simp only[blU,Array.getElem?_append,Array.size_replicate,Array.getElem?_replicate];by_cases hjm:j<m
      ·simp[hjm]
      ·simp[hjm,show j-m<ops.size-m by omega]) ρ u h2
     rw[lB]at h3;have V:A++B=x.zip ((A++B).map (·.2)):=by
      refine List.ext_getElem? λj=>?_;rcases biR j ops.size with hj|hj
      ·have Y:j<(A++B).length:=Om;have φ:j<Z' x:=Om;rw[biD Y,biD (by simp;omega),List.getElem_zip,bjK];congr 1;refine Prod.ext ?_ rfl;simp only;rcases biR j m with hjm|hjm
       ·rw[bmC Om];subst U;simp[qQ]
       ·rw[bmA Om];subst ζ;have:m+(j-Z' A)=j:=Om;simp[qQ,this]
      ·rw[bjJ Om,bjJ (by simp;omega)]
     rw[V]at h3;exact Nl J y (by simp;omega) (λi o ho=>W i o (by simpa using ho)) (ops.size-m) _ E' F' H' a' w' h3 u ε η (hE.env.num.trans hN) (λE3 F3 H3 a3 w3 g1 g2 g3 g4=>hT E3 F3 H3 a3 w3 g1 g2 (hE.trans g3).Ma g4)
   ·cases d
 ·cases d
end
end Go.PM
namespace Go.PM
open Go Go.RowKit
def oH.out:oH->Exit
 | .normal=>.normal
 | .exit id=>.exit id
 | .ret=>.ret
theorem uM{P:Program}{b:Frame}{a:Act}{k:List Item}{cs:List Frame}{w:World}{c:Code}:step P (lone (b.atR a (.code (.scope c)::k)) cs w)=.next (lone (b.atR a (.code c::.inScope c::k)) cs w):=
 step_lone_go (by simp[stepG,stepG.exec,Frame.atR])
theorem Wh{P:Program}{b:Frame}{a:Act}{k:List Item}{cs:List Frame}{w:World}{c:Code}:step P (lone (b.atR a (.inScope c::k)) cs w)=.next (lone (b.atR a k) cs w):=
 step_lone_go (by simp[stepG,stepG.exec,Frame.atR])
theorem aKV{F:Fence}{n:Nat}{P:Program}{Q:Exit->Act->World->Prop}{a:Act}{w:World}{c:Code}(h:c.wpIn F n P (Exit.noGoto Q) a w):(Code.scope c).wpIn F n P Q a w:=by
 intro b k cs J hb A;have i:(lone (b.atR a (.code (.scope c)::k)) cs w).fenced P F:=fenced_calm hb A rfl;obtain⟨e,u,x,p,d⟩:=h b (.inScope c::k) cs J hb A;cases e with
 |normal=>exact⟨.normal,u,x,p,.head i uM (StepsIn.trans d (.one (fenced_calm hb A rfl) Wh))⟩
 |exit id=>
  have K:exitTo id (.inScope c::k)=exitTo id k:=by simp[exitTo]
  exact⟨.exit id,u,x,p,λO y=>.head i uM (d.1 O (by rw[K];exact y)),
   λB y=>let⟨R,M,N⟩:=d.2 B (by rw[K];exact y);⟨R,M,.head i uM N⟩⟩
 |goto l=>exact p.elim
 |ret=>exact⟨_,u,x,p,.of_steps (.one i uM) d⟩
 |panic S=>exact⟨_,u,x,p,.of_steps (.one i uM) d⟩
 |outgrown=>exact⟨_,u,x,p,.of_steps (.one i uM) d⟩
variable{C:Ctx}
section
variable {ro:Option Nat} {fu:Nat} {ds:List Deferred} {T:Tbl} {n:Nat} {E:Env} {F:PF} {H:PH} {a:Act} {w:World}
theorem Sk(B:C.P=T.P)(A:C.num=T.num){ops:Array Oper}{K:PF->PH->Prop}{Q:Exit->Act->World->Prop}:∀(l:List Oper)(il:List aW)(E:Env)(F:PF)(H:PH)(a:Act)(w:World),
  T.xY n ops l=some il->wpOps C il K F H->eQ ds n E F a->cB E H w->E.num=T.num->rI ds n E H w K (Q .normal)->wpListIn (Fz ro) fu T.P ops Q l a w
 |[],il,E,F,H,a,w,x,d,u,hW,_,hT=>by simp[Tbl.xY]at x;subst x;exact hT E F H a w u hW (.refl E H w) d
 |o::l,il,E,F,H,a,w,x,d,u,hW,U,hT=>by
  simp only[Tbl.xY]at x;split at x
  ·rename_i i is hi β;cases x;obtain⟨W,Y,hlt,hg⟩:=VL hi;have bgZ:∀(p:Env)(R:PF)(H':PH)(S:Act)(O:World),p.num=T.num->eQ ds n p R S->cB p H' O->Ext E H w p H' O->wpOps C is K R H'->wpListIn (Fz ro) fu T.P ops Q l S O:=
    λp R H' S O α y J X Z=>Sk B A l is p R H' S O β Z y J α (hT.after X)
   have V:rI ds n E H w (wpOps C is K) (wpListIn (Fz ro) fu T.P ops Q l):=λp R H' S O y J X Z=>bgZ p R H' S O (X.env.num.trans U) y J X Z;unfold wpListIn;simp only[wpOps]at d;rcases hg with⟨e,N⟩|⟨j,want,t,e,N,ht⟩
   ·rw[N]at d;rw[aG (by simp[Region.wanted,e])];exact(zU B A W Y hlt d u hW U V)
   ·rw[N]at d;simp only at d;split at d
    ·rename_i b hb;rw[RB e ht (ch u hb)];split at d
     ·rename_i M;rw[aG (by simp[M])];exact(zU B A W Y hlt d u hW U V)
     ·rename_i M;rw[aE (by simpa using M)];exact⟨λ_ _=>trivial,bgZ E _ H _ w U (by rw[<-Y];exact u.put hlt DG) hW (.refl E H w) d⟩
    ·rename_i hb;rw[KT e ht (jd u hb),aE bH];exact⟨λ_ _=>trivial,bgZ E _ H _ w U (by rw[<-Y];exact u.put hlt DG) hW (.refl E H w) d⟩
    ·exact d.elim
  ·cases x
def cb(ds:List Deferred)(n:Nat)(E:Env)(H:PH)(w:World)(K:cF)(Q:Exit->Act->World->Prop):Prop:=
 ∀e d l H' p i,eQ ds n d l p->cB d H' i->Ext E H w d H' i->K e l H'->Q e.out p i
theorem cb.after{d:Env}{H':PH}{i:World}{K:cF}{Q:Exit->Act->World->Prop}(h:cb ds n E H w K Q)(x:Ext E H w d H' i):cb ds n d H' i K Q:=
 λe l p H2 a2 B u hW A y=>h e l p H2 a2 B u hW (x.trans A) y
theorem wO(γ:C.P=T.P)(β:C.num=T.num):∀(c:Code)(pc:aC)(K:cF)(Q:Exit->Act->World->Prop)(E:Env)(F:PF)(H:PH)(a:Act)(w:World),
  T.code n c=some pc->pc.wp C K F H->eQ ds n E F a->cB E H w->E.num=T.num->cb ds n E H w K Q->c.wpIn (Fz ro) fu T.P Q a w:=by
 intro c
 induction c with
 |skip =>intro pc K Q E F H a w i p u hW M l;simp[Tbl.code]at i;subst i;exact wpIn_skip (l .normal E F H a w u hW (.refl E H w) p)
 |region id ops d=>
  intro pc K Q E F H a w i p u hW M l;simp only[Tbl.code]at i;split at i
  ·rename_i hd;subst hd;exact arH γ β i p u hW M λA U H' O N R S J B=>l .normal A U H' O N R S J B
  ·rename_i hd;simp only[biE]at i;obtain⟨il,χ,rfl⟩:=i;have:d=false:=by simpa using hd
   subst this;exact wpIn_region_list (Sk γ β ops.toList il E F H a w χ p u hW M λA U H' O N R S J B=>l .normal A U H' O N R S J B)
 |seq x y Y Z=>
  intro pc K Q E F H a w i p u hW M l;simp only[Tbl.code]at i;split at i
  ·rename_i px py X hy;cases i;refine wpIn_seq (Y px (kB C (py.wp C) K) _ E F H a w X p u hW M λe A U H' O N R S J B=>?_);cases e with
   |normal=>exact Z py K Q A U H' O N hy B R S (J.env.num.trans M) (l.after J)
   |exit id=>exact l (.exit id) A U H' O N R S J B
   |ret=>exact l .ret A U H' O N R S J B
  ·cases i
 |cond c x y Y Z=>
  intro pc K Q E F H a w i p u hW M l;simp only[Tbl.code]at i;split at i
  ·rename_i Δ px py ζ X hy;cases i;simp only[aC.wp]at p;split at p
   ·rename_i t υ;have r:=bO ζ υ u M;have hb:a.eval c=.bool t:=by generalize a.eval c=v at r;cases r;rfl
    refine wpIn_cond hb ?_;cases t with
    |true=>exact Y px K Q E F H a w X (by simpa using p) u hW M l
    |false=>exact Z py K Q E F H a w hy (by simpa using p) u hW M l
   ·exact p.elim
  ·cases i
 |block id c ih=>
  intro pc K Q E F H a w i p u hW M l;simp only[Tbl.code,biE]at i;obtain⟨px,X,rfl⟩:=i;refine wpIn_block (ih px (fS id K) _ E F H a w X p u hW M λe A U H' O N R S J B=>?_);cases e with
  |normal=>exact l .normal A U H' O N R S J B
  |exit Γ=>
   simp only[fS]at B;simp only[oH.out,Exit.inBlock];split at B
   ·rename_i e;rw[aG e];exact l .normal A U H' O N R S J B
   ·rename_i e;rw[aE e];exact l (.exit Γ) A U H' O N R S J B
  |ret=>exact l .ret A U H' O N R S J B
 |loop c ih=>
  intro pc K Q E F H a w i p u hW M l;simp only[Tbl.code,biE]at i;obtain⟨px,X,rfl⟩:=i;obtain⟨α,Fs,Hs,Pr,m,a0,F1,H1,φ,ω,ο,ε,W⟩:=p;obtain⟨E1,ι,σ,μ⟩:=u.frz hW φ;refine wpIn_loop_ghost (λk O N=>∃(A:Env)(s:α),Pr s/\m s=k/\eQ ds n A (Fs s) O/\cB A (Hs s) N/\Ext E H w A (Hs s) N) (m a0) ⟨E1,a0,ω,rfl,ι.weaken ο,σ.weaken ε,μ.drop ε⟩ ?_;rintro k O N ⟨A,s,hp,rfl,θ,ρ,V⟩;refine ih px (gG Fs Hs Pr m (m s) K) _ A (Fs s) (Hs s) O N X (W s hp) θ ρ (V.env.num.trans M) λe E2 F2 H2 a2 w2 R S J B=>?_;cases e with
  |normal =>obtain⟨s',F3,H3,η,ψ,hlt,ξ,δ⟩:=B;obtain⟨E3,κ,τ,ν⟩:=R.frz S η;exact⟨m s',hlt,E3,s',ψ,rfl,κ.weaken ξ,τ.weaken δ,((V.trans J).trans ν).drop δ⟩
  |exit id=>exact l (.exit id) E2 F2 H2 a2 w2 R S (V.trans J) B
  |ret=>exact l .ret E2 F2 H2 a2 w2 R S (V.trans J) B
 |exit id =>intro pc K Q E F H a w i p u hW M l;simp[Tbl.code]at i;subst i;exact wpIn_exit (l (.exit id) E F H a w u hW (.refl E H w) p)
 |ret =>intro pc K Q E F H a w i p u hW M l;simp[Tbl.code]at i;subst i;exact wpIn_ret (l .ret E F H a w u hW (.refl E H w) p)
 |rangeFunc=>intro pc K Q E F H a w i;simp[Tbl.code]at i
 |scope c ih =>intro pc K Q E F H a w i p u hW M l;simp only[Tbl.code]at i;refine aKV (ih pc K _ E F H a w i p u hW M λe A U H' O N R S J B=>?_);have:=l e A U H' O N R S J B;cases e<;>exact this
 |label =>intro pc K Q E F H a w i p u hW M l;simp[Tbl.code]at i;subst i;exact wpIn_label (l .normal E F H a w u hW (.refl E H w) p)
 |goto=>intro pc K Q E F H a w i;simp[Tbl.code]at i
 |refuse=>intro pc K Q E F H a w i;simp[Tbl.code]at i
end
open Go Go.RowKit
namespace Tbl
variable (T:Tbl)
def res:ResultVar->Option eE
 | .tmp t=>some (.tmp t)
 | .cell t ty=>match T.isAgg ty,T.size ty with
  |some true,some k=>some (.cell t (some k))
  |some false,_=>some (.cell t none)
  |_,_=>none
def Mi:List ResultVar->Option (List eE)
 |[]=>some []
 |r::rs=>match T.res r,Mi rs with
  |some p,some ps=>some (p::ps)
  |_,_=>none
def func(fn:Func):Option bD:=
 match fn.body with
 |some c=>match T.code fn.ntmps c,T.Mi fn.results.toList with
  |some b,some rs=>some ⟨fn.params.size,fn.ntmps,b,rs⟩
  |_,_=>none
 |none=>none
end Tbl
section
variable {ds:List Deferred} {T:Tbl} {n:Nat} {E:Env} {F:PF} {H:PH} {a:Act} {w:World}
def iw(d:Array Value):ResultVar->Sem Value
 | .tmp t=>pure (d.getD t undef)
 | .cell a t=>do loadVar t (<-asAddr (d.getD a undef))
theorem aPJ{r:ResultVar}{p:eE}{pv:PV}(i:T.res r=some p)(d:p.ev F H=some pv)(x:eQ ds n E F a)(hW:cB E H w):∃v,(iw a.tmps r).run T.P w=.ok v w/\bM E pv v:=by
 cases r with
 |tmp t =>simp[Tbl.res]at i;subst i;exact⟨_,rfl,x.t t pv d⟩
 |cell t ty=>
  simp only[Tbl.res]at i;split at i
  ·rename_i k B K;cases i;simp only[eE.ev]at d;split at d
   ·rename_i q y;rw[biE]at d;obtain⟨cs,e,rfl⟩:=d;obtain⟨b,J,hb,-⟩:=uV hW (x.t t q y) e;obtain⟨u,l,A⟩:=qf (T:=T) B K hW (x.t t q y) e;refine⟨u,?_,A⟩;rw[hb]at l;simpa[iw,hb,asAddr,Instr.loadAt,Instr.sureAddr]using l
   ·cases d
  ·rename_i B;cases i;simp only[eE.ev]at d;split at d
   ·rename_i q y;split at d
    ·rename_i v' e;cases d;obtain⟨b,J,hb,-⟩:=uV hW (x.t t q y) e;obtain⟨u,l,A⟩:=Eg (T:=T) B hW (x.t t q y) e;refine⟨u,?_,A⟩;rw[hb]at l;simpa[iw,hb,asAddr,Instr.loadAt,Instr.sureAddr]using l
    ·cases d
   ·cases d
  ·cases i
theorem XS(A:eQ ds n E F a)(hW:cB E H w):∀(rs:List ResultVar)(ps:List eE)(d:List PV),T.Mi rs=some ps->eE.evs F H ps=some d ->
  ∃vs,(rs.mapM (iw a.tmps)).run T.P w=.ok vs w/\fU E d vs
 |[],ps,d,e,i=>by simp[Tbl.Mi]at e;subst e;simp[eE.evs]at i;subst i;exact⟨[],by simp,.nil⟩
 |r::rs,ps,d,e,i=>by
  simp only[Tbl.Mi]at e;split at e
  ·rename_i p y hp l;cases e;simp only[eE.evs]at i;split at i
   ·rename_i v vs B x;cases i;obtain⟨u,g1,g2⟩:=aPJ hp B A hW;obtain⟨J,k1,k2⟩:=XS A hW rs y vs l x;exact⟨u::J,by simp[List.mapM_cons,g1,k1],.cons g2 k2⟩
   ·cases i
  ·cases e
theorem Gm{e:List PV}{vs:List Value}(h:fU E e vs):bM E (bN e) (if h:vs.toArray.size=1 then vs.toArray[0]else .tuple vs.toArray):=by
 cases h with
 |nil=>exact .tup #[] rfl bH
 |cons h t=>
  cases t with
  |nil=>exact h
  |cons i x =>rename_i p v q u ps y;have d:fU E (p::q::ps) (v::u::y):=.cons h (.cons i x);rw[dif_neg bH];exact .tup _ (by simpa using d.len) (λj pv w hp l=>d.at_ j pv w hp (by simpa using l))
theorem Gu(fn:Func)(d:Array Value):results fn d=(do
  let vs <-fn.results.mapM (iw d)
  pure (if h:vs.size=1 then vs[0]else .tuple vs)):=by
 unfold results;congr 1
theorem Pu(A:C.P=T.P)(y:C.num=T.num){name:Nat}{args:List PV}{R:PV->PH->Prop}{fn:Func}{pf:bD}(hf:C.P.funcs[C.num name]?=some fn)(X:(fn.name=="runtime.NumGoroutine")=false)
  (d:T.func fn=some pf) (K:Z' args<=pf.ntmps) (h:pf.body.wp C (aZ pf.res R) (PF.args args) H):aH C name args H R:=by
 unfold Tbl.func at d;split at d
 ·rename_i c hb;split at d
  ·rename_i b rs l u;cases d;refine⟨⟨fn,hf,by simp[hb],X⟩,λE w vs hN hW O=>?_⟩;have α:vs.size=Z' args:=by simpa using O.len
   refine calls_of_wp hf hb ?_;rw[A];refine(wpIn_wide (n:=0)).1 ?_;have hA:eQ [] fn.ntmps E (PF.args args) { tmps:=vs++bjX (fn.ntmps-vs.size) undef,defers:=[] }:=by
    refine⟨by simp only at K;simp;omega,rfl,λi pv hi=>?_⟩;have p:i<vs.size:=by
     rw[α];rcases biR i args.length with h'|h'
     ·exact h'
     ·simp[PF.args,bjJ h']at hi
    simp only[blU];rw[Array.getElem?_append_left p,blN p];exact O.at_ i pv _ hi (by simp[p])
   refine wO (ro:=none) (fu:=0) A y c b (aZ rs R) _ E (PF.args args) H _ w l h hA hW (hN.trans y) λe S F' H' a' U x B hE V=>?_;have Q:aZ rs R .ret F' H'->bodyPost T.P fn (λe U=>∃v pv S H',e=.returned v/\cB S H' U/\bM S pv v/\Ext E H w S H' U/\R pv H') .ret a' U:=by
    rintro⟨β,M,F1,H1,H2,W,J,v0,Z,hR⟩;obtain⟨us,g1,g2⟩:=XS x B fn.results.toList rs β u M;have Y:=Gm g2;obtain⟨E2,k1,k2,k3⟩:=W.sound B;have N:=k3 (λ_=>if h:us.toArray.size=1 then us.toArray[0]else .tuple us.toArray) (λi pv hi=>by
     simp only[PF.set,upd]at hi;split at hi
     ·cases hi;exact Y
     ·cases hi) 0 v0 Z
    refine⟨x.defers,_,?_,_,v0,E2,H2,rfl,k1.weaken J,N,(hE.trans k2).drop J,hR⟩;rw[Gu,Array.mapM_eq_mapM_toList];simp[g1]
   cases e with
   |normal=>exact Q V
   |exit id=>exact V.elim
   |ret=>exact Q V
  ·cases d
 ·cases d
end
end Go.PM
theorem Go.s_{p:Prop}(h:p:=by simp only[go_sem]):p:=h
theorem Go.dT_{p:Prop}[Decidable p]:(decide p=true)=p:=decide_eq_true_eq
