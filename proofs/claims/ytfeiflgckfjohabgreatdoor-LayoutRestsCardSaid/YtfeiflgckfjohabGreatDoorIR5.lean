/-Lemmas for the law. No condition.-/
import Derived.Test.YtfeiflgckfjohabGreatDoorIR4
import Derived.Test.YtfeiflgckfjohabGreatDoorRows
import Derived.KernelRfl
import Derived.LaidMore
import Derived.Stop.Joined
set_option linter.unusedSimpArgs false
set_option linter.unusedVariables false
open Nat renaming reduceEqDiff->γ,reduceAdd->δ,reduceSub->ε,reduceMul->ζ,reduceLT->η,reduceLeDiff->θ,reduceBEq->τ
open Int renaming reduceLT->ι,reduceLE->κ,reduceEq->μ,reduceToNat->ν,reduceAdd->ξ,reduceNeg->ο,reduceBEq->ρ,reduceBNe->σ
open List renaming length_map->apP,range->apQ,length_append->apV,replicate->apX,getElem?_eq_getElem->apZ,getElem?_map->aqE,mem_cons->aqG,mem_map->aqJ,all_eq_true->aqM,mem_range->aqN,map_append->aqP,map_cons->aqQ,take_of_length_le->aqR,append_assoc->aqT,getElem?_eq_some_iff->aqU,length_cons->aqV,append_nil->aqY,mem_append->aqZ,mem_singleton->arA,getElem?_eq_none->arC,length_set->arD,getElem_of_mem->arF,map_nil->arL,map_congr_left->arQ,getElem?_append_right->arS,mem_of_getElem?->asC,getElem?_append_left->asE,length_nil->asG,drop_zero->asN,map_set->asP,mem_filter->asQ,map_map->asR,cons_append->asV,getElem?_set->asX,getElem?_drop->atI,mem_cons_of_mem->atK,nil_append->atL,all_cons->atS,mem_cons_self->atZ,mem_of_mem_take->auA,mem_or_eq_of_mem_set->auB
open Nat renaming zero_le->apR,le_refl->apU,zero_add->aqA,lt_or_ge->aqW,le_trans->aqX,add_zero->arG,beq->arR,sub_self->asA,add_assoc->atA
open Bool renaming and_eq_true->apT,false_eq_true->arO,and_true->arY
open Option renaming map_some->aqK,some->asB,bind_some->atO
open List renaming length->Z'
set_option maxRecDepth 100000
set_option maxHeartbeats 800000
open Go.PM.PF renaming nil->n_
noncomputable section
namespace Go.Proofs.YtfeiflgckfjohabGreatDoor
open Go Go.PM Go.RowKit Go.ChangeShapes Go.WideShapes
noncomputable def C:Ctx:=⟨Tryz.prog,num⟩
def UP:Code->Option (Code × Code)
 | .rangeFunc _ _ a b=>some (a,b)
 | .seq a b=>match UP a with|some x=>some x|none=>UP b
 | .block _ c=>UP c
 |_=>none
def Yo(c:Option Code):Code:=match c with|some c=>((UP c).getD (.skip,.skip)).1|none=>.skip
def Yp(c:Option Code):Code:=match c with|some c=>((UP c).getD (.skip,.skip)).2|none=>.skip
theorem bX{k:Nat}{ro:N_}{fn:Func}{x}(e:C.P.funcs[C.num k]?=some fn)(l:(fn.name=="runtime.NumGoroutine")=false:=by kernel_rfl):bU C k (PM.bV ro fn x):=λ_ _ _ i h=>tk (T:=T ro) rfl rfl e l x.2 i h
theorem Ys(T:Tbl){k:Nat}{fn:Func}{pf:FP}(u:C.P.funcs[C.num k]?=some fn)(l:T.xu fn=some pf)(i:C.P=T.P:=by rfl)(e:C.num=T.num:=by rfl)(x:(fn.name=="runtime.NumGoroutine")=false:=by kernel_rfl):WM C k pf:=λ_ _ _ w h=>Jw i e u x l w h
theorem Tryz.own:ownKnob Tryz.prog.godebug=none:=by kernel_rfl
theorem Tryz.laidOut:laidOutB Tryz.prog=true:=by kernel_rfl
theorem itoa:FN C:=λn u=>by
 refine⟨⟨Tryz.f74,Tryz.func74,by kernel_rfl,by kernel_rfl⟩,λE w vs x hW i=>?_⟩;obtain⟨y⟩:=vs;cases i with
 |cons l e2=>
 cases e2;cases l;refine(Any.strconv_Itoa_small Tryz.aaE n u w).mono λe A he=>?_;obtain⟨rfl,rfl⟩:=he;exact⟨_,.str (cN n),E,.nil,rfl,hW,.str ⟨(Lib.decDigits n).toArray⟩,.refl _ _ _,rfl,rfl⟩
set_option maxRecDepth 100000 in
theorem aiP:WN C:=⟨λo xs i e=>F6 Tryz.Ux (by kernel_rfl) ⟨_,Tryz.func59,by kernel_rfl,by kernel_rfl⟩ o xs i e⟩
theorem N2{pv:PV}(h:PV.Ty (.sl [.int .u8]) pv):∃l:N_,pv=.sl 1 (kL l)/\(∀x∈l,x<256)/\Z' l<=9223372036854775807:=by
 obtain⟨xs,rfl,B,i⟩:=Ty.Ur h;refine⟨xs.map Int.toNat,?_,?_,?_⟩;unfold Kt kL;rw[asR];congr 1;refine arQ λx u=>?_;have:=(i x u).1;simp only[Function.comp];rw[Int.toNat_of_nonneg this];intro y w;obtain⟨x,e,rfl⟩:=aqJ.1 w;have:=(i x e).2;have A:=(i x e).1;have e:IntKind.u8.max=255:=by decide
 rw[e]at this;omega;rw[apP];have:maxLen<=9223372036854775807:=by decide
 omega
end Go.Proofs.YtfeiflgckfjohabGreatDoor
namespace Go.PM
open Go
abbrev Ren:=Nat->Nat × P2_
def up(t:Nat->Nat):Ren:=λi=>(t i,[])
mutual
def PV.ren(r:Ren):PV->PV
 | .osl o s off len=>.osl (r o).1 s (off+(r o).2.length) len
 | .ptr o s i c=>.ptr (r o).1 s (i+(r o).2.length) c
 | .map o=>.map (r o).1
 | .sl s rows=>.sl s (PV.mL r rows)
 | .aU cs=>.aU (PV.mG r cs)
 | .fn n cs=>.fn n (PV.mG r cs)
 | .agg cs=>.agg (PV.mG r cs)
 | .tup cs=>.tup (PV.mG r cs)
 | .int k n=>.int k n
 | .bool b=>.bool b
 | .str s=>.str s
 | .aG=>.aG
 | .lit v=>.lit v
 | .junk=>.junk
def PV.mG(r:Ren):V_->V_
 |[]=>[]
 |v::vs=>PV.ren r v::PV.mG r vs
def PV.mL(r:Ren):P2_->P2_
 |[]=>[]
 |v::vs=>PV.mG r v::PV.mL r vs
end
theorem PV.gC(r:Ren):∀l,PV.mG r l=l.map (PV.ren r)
 |[]=>rfl
 |v::vs=>by rw[PV.mG,PV.gC r vs];rfl
theorem PV.kR(r:Ren):∀l,PV.mL r l=l.map λx=>x.map (PV.ren r)
 |[]=>rfl
 |v::vs=>by rw[PV.mL,PV.kR r vs,PV.gC];rfl
mutual
def PV.bound(n:Nat):PV->Bool
 | .osl o _ _ _=>decide (o<n)
 | .ptr o _ _ _=>decide (o<n)
 | .map o=>decide (o<n)
 | .sl _ rows=>PV.eM n rows
 | .aU cs=>PV.bounds n cs
 | .fn _ cs=>PV.bounds n cs
 | .agg cs=>PV.bounds n cs
 | .tup cs=>PV.bounds n cs
 | .int _ _=>true
 | .bool _=>true
 | .str _=>true
 | .aG=>true
 | .lit _=>true
 | .junk=>true
def PV.bounds(n:Nat):V_->Bool
 |[]=>true
 |v::vs=>PV.bound n v&&PV.bounds n vs
def PV.eM(n:Nat):P2_->Bool
 |[]=>true
 |v::vs=>PV.bounds n v&&PV.eM n vs
end
mutual
theorem PV.UN{n:Nat}{r r':Ren}(h:∀i,i<n->r i=r' i):∀v:PV,v.bound n=true->v.ren r=v.ren r'
 | .osl o s off len,hb=>by simp only[PV.bound,dT_]at hb;simp only[PV.ren,h o hb]
 | .ptr o s i c,hb=>by simp only[PV.bound,dT_]at hb;simp only[PV.ren,h o hb]
 | .map o,hb=>by simp only[PV.bound,dT_]at hb;simp only[PV.ren,h o hb]
 | .sl s rows,hb=>by simp only[PV.bound]at hb;simp only[PV.ren,PV.KD h rows hb]
 | .aU cs,hb=>by simp only[PV.bound]at hb;simp only[PV.ren,PV.sM h cs hb]
 | .fn _ cs,hb=>by simp only[PV.bound]at hb;simp only[PV.ren,PV.sM h cs hb]
 | .agg cs,hb=>by simp only[PV.bound]at hb;simp only[PV.ren,PV.sM h cs hb]
 | .tup cs,hb=>by simp only[PV.bound]at hb;simp only[PV.ren,PV.sM h cs hb]
 | .int _ _,_=>rfl
 | .bool _,_=>rfl
 | .str _,_=>rfl
 | .aG,_=>rfl
 | .lit _,_=>rfl
 | .junk,_=>rfl
theorem PV.sM{n:Nat}{r r':Ren}(h:∀i,i<n->r i=r' i):∀l:V_,PV.bounds n l=true->PV.mG r l=PV.mG r' l
 |[],_=>rfl
 |v::vs,hb=>by simp only[PV.bounds,apT]at hb;rw[PV.mG,PV.mG,PV.UN h v hb.1,PV.sM h vs hb.2]
theorem PV.KD{n:Nat}{r r':Ren}(h:∀i,i<n->r i=r' i):∀l:P2_,PV.eM n l=true->PV.mL r l=PV.mL r' l
 |[],_=>rfl
 |v::vs,hb=>by simp only[PV.eM,apT]at hb;rw[PV.mL,PV.mL,PV.sM h v hb.1,PV.KD h vs hb.2]
end
mutual
theorem PV.Qw:∀v:PV,v.ren (up id)=v
 | .osl o s off len=>rfl
 | .ptr o s i c=>rfl
 | .map o=>rfl
 | .sl s rows=>by simp only[PV.ren,PV.Dc rows]
 | .aU cs=>by simp only[PV.ren,PV.AQ cs]
 | .fn _ cs=>by simp only[PV.ren,PV.AQ cs]
 | .agg cs=>by simp only[PV.ren,PV.AQ cs]
 | .tup cs=>by simp only[PV.ren,PV.AQ cs]
 | .int _ _=>rfl
 | .bool _=>rfl
 | .str _=>rfl
 | .aG=>rfl
 | .lit _=>rfl
 | .junk=>rfl
theorem PV.AQ:∀l:V_,PV.mG (up id) l=l
 |[]=>rfl
 |v::vs=>by rw[PV.mG,PV.Qw v,PV.AQ vs]
theorem PV.Dc:∀l:P2_,PV.mL (up id) l=l
 |[]=>rfl
 |v::vs=>by rw[PV.mL,PV.AQ v,PV.Dc vs]
end
theorem PV.oJ{v:PV}(h:v.bound 0=true)(r:Ren):v.ren r=v:=(PV.UN (r':=up id) (λi hi=>absurd hi (Nat.not_lt_zero i)) v h).trans (PV.Qw v)
theorem PV.mK{l:V_}(h:PV.bounds 0 l=true)(r:Ren):l.map (PV.ren r)=l:=by
 rw[<-PV.gC];exact(PV.sM (r':=up id) (λi hi=>absurd hi (Nat.not_lt_zero i)) l h).trans (PV.AQ l)
theorem yH(r:Ren)(v:PV):(v.ren r).cells=v.cells.map (PV.ren r):=by
 cases v<;>simp only[PV.ren,PV.cells,PV.gC,aqQ,arL]
theorem abM(r:Ren)(v:PV):(v.ren r).one=v.one:=by
 cases v<;>simp only[PV.ren,PV.one]
theorem wR(r:Ren)(l:V_):(l.map (PV.ren r)).all PV.one=l.all PV.one:=by
 rw[List.all_map];congr 1;exact funext λv=>abM r v
theorem HL(r:Ren):∀(vs:V_)(l:V_)(c:Nat),(setCells l c vs).map (PV.ren r)=setCells (l.map (PV.ren r)) c (vs.map (PV.ren r))
 |[],_,_=>rfl
 |v::vs,l,c=>by simp only[setCells,aqQ];rw[HL r vs,asP]
theorem abL{r:Ren}{op:BinOp}{x y v:PV}(h:PV.bin op x y=some v):PV.bin op (x.ren r) (y.ren r)=some (v.ren r):=by
 have e:∀{k:IntKind}{n:Int},(PV.int k n).ren r=.int k n:=rfl;cases x<;>cases y<;>try (cases op<;>simp[PV.bin]at h;done)
 simp only[PV.ren];rw[h];congr 1;revert h;unfold PV.bin;cases op<;>simp only[shift,oY]<;>intro h<;>(repeat' split at h)<;>cases h<;>rfl;simp only[PV.ren];rw[h];congr 1;revert h;unfold PV.bin;cases op<;>simp only[LG]<;>intro h<;>(repeat' split at h)<;>cases h<;>rfl
def aR.ren(r:Ren)(pre:P2_):aR->aR
 | .rows s rs=>.rows s (pre++rs.map λx=>x.map (PV.ren r))
 | .map sh g=>.map sh λk=>(g k).map (PV.ren r)
 | .loop F n t a b=>.loop F n t a b
 | .dead=>.dead
def PF.ren(r:Ren)(F:PF):PF:=λi=>(F i).map (PV.ren r)
def JU(r:Ren)(h H:PH):Prop:=∀i x,h i=some x->H (r i).1=some (x.ren r (r i).2)
theorem JU.ex{r:Ren}{h H:PH}(e:JU r h H){i:Nat}{x:aR}(l:h i=some x):∃pre:P2_,(r i).2.length=Z' pre/\(r i).2=pre/\H (r i).1=some (x.ren r pre):=⟨_,rfl,rfl,e i x l⟩
theorem LL{α:Type}:∀(pre l:List α)(k:Nat),(pre++l).drop (k+Z' pre)=l.drop k
 |[],l,k=>rfl
 |x::pre,l,k=>by rw[aqV,<-atA];exact LL pre l k
theorem A7{α:Type}:∀(pre l:List α)(k:Nat),(pre++l)[k+Z' pre]?=l[k]?
 |[],l,k=>rfl
 |x::pre,l,k=>by rw[aqV,<-atA,asV,List.getElem?_cons_succ];exact A7 pre l k
theorem Rm{α:Type}(y:α):∀(pre l:List α)(k:Nat),(pre++l).set (k+Z' pre) y=pre++l.set k y
 |[],l,k=>rfl
 |x::pre,l,k=>by rw[aqV,<-atA,asV,List.set_cons_succ,Rm y pre l k];rfl
def aP.clo:aP->Bool
 | .tmp _=>true
 | .const v=>v.bound 0
section
variable {r:Ren} {F:PF} {h H:PH}
theorem dN{x:aP}{v:PV}(i:x.clo=true)(e:x.ev F=some v):x.ev (F.ren r)=some (v.ren r):=by
 cases x with
 |tmp t=>simp only[aP.ev]at e ⊢;simp only[PF.ren,e,aqK]
 |const u=>simp only[aP.ev,asB.injEq]at e ⊢;subst e;exact(PV.oJ i r).symm
theorem EY:∀{l:List aP}{vs:V_},l.all aP.clo=true->aP.evs F l=some vs->aP.evs (F.ren r) l=some (vs.map (PV.ren r))
 |[],vs,_,e=>by cases e;rfl
 |x::xs,vs,i,e=>by simp only[atS,apT]at i;simp only[aP.evs]at e ⊢;split at e;rename_i v y u w;cases e;rw[dN i.1 u,EY i.2 w];rfl;cases e
theorem afT{op:UnOp}{x v:PV}(e:PV.un op x=some v):PV.un op (x.ren r)=some (v.ren r):=by
 unfold PV.un at e;split at e;split at e<;>cases e<;>rfl;split at e<;>cases e;rfl;cases e
theorem tu:∀{l:List (Nat × Nat × aP)}{cells v:V_},(l.all λx=>x.2.2.clo)=true->pZ cells F l=some v->pZ (cells.map (PV.ren r)) (F.ren r) l=some (v.map (PV.ren r))
 |[],_,_,_,e=>by cases e;rfl
 |(off,size,x)::l,cells,v,i,e=>by simp only[atS,apT]at i;simp only[pZ]at e ⊢;split at e;rename_i w u;rw[dN i.1 u];simp only[yH,wR,apP];split at e;rename_i y;rw[aE y,<-HL];exact tu i.2 e;cases e;cases e
theorem GI{size:Nat}:∀{l:List (Nat × aP)}{rows v:P2_},(l.all λx=>x.2.clo)=true->gU size rows F l=some v ->
  gU size (rows.map λx=>x.map (PV.ren r)) (F.ren r) l=some (v.map λx=>x.map (PV.ren r))
 |[],_,_,_,e=>by cases e;rfl
 |(i,x)::l,rows,v,u,e=>by simp only[atS,apT]at u;simp only[gU]at e ⊢;split at e;rename_i w y;rw[dN u.1 y];simp only[yH,wR,apP];split at e;rename_i A;rw[aE A,<-asP];exact GI u.2 e;cases e;cases e
theorem xA(A:JU r h H){p:PV}{n:Nat}{v:V_}(e:loadCells h p n=some v):loadCells H (p.ren r) n=some (v.map (PV.ren r)):=by
 unfold loadCells at e;split at e;split at e;rename_i o size i c s rs x;obtain⟨pre,l,-,w⟩:=A.ex x;simp only[aR.ren]at w;simp only[PV.ren,loadCells,w,l,A7];split at e;rename_i u;rw[aE u,aqE];split at e;rename_i q y;rw[y];simp only[aqK,apP];split at e;rename_i h5;rw[aE h5,<-List.map_drop,<-List.map_take];cases e;rfl;cases e;cases e;cases e;cases e;simp only[PV.ren,loadCells,PV.gC,apP];split at e;rename_i u;rw[aE u,<-List.map_take];cases e;rfl;cases e;cases e
theorem HU(y:JU r h H){s:Nat}{p:PV}{v:P2_}(e:dH h s p=some v):dH H s (p.ren r)=some (v.map λx=>x.map (PV.ren r)):=by
 unfold dH at e;split at e;cases e;rfl;simp only[PV.ren,dH,PV.kR];split at e;rename_i l;rw[aE l];cases e;rfl;cases e;split at e;rename_i l;split at e;rename_i w;obtain⟨pre,i,-,u⟩:=y.ex w;simp only[aR.ren]at u;simp only[PV.ren,dH,u,i,LL,apP,apV];rw[aE l];split at e;rename_i A;rw[aE Om,<-List.map_drop,<-List.map_take];cases e;rfl;cases e;cases e;cases e;cases e
theorem qk{d n:Int}{x:Option aP}(l:(x.all aP.clo)=true)(e:bnd F d x=some n):bnd (F.ren r) d x=some n:=by
 cases x with
 |none=>exact e
 |some x=>
  simp only[bnd]at e ⊢;cases i:x.ev F with
  |none=>rw[i]at e;cases e
  |some v =>rw[i]at e;rw[dN (by simpa using l) i];cases v<;>first|exact e|cases e
theorem vw{size:Nat}{x v:PV}{l m:Int}{mx:Option Int}(e:PV.slice size x l m mx=some v):PV.slice size (x.ren r) l m mx=some (v.ren r):=by
 unfold PV.slice at e;split at e;split at e;rename_i i;cases e;simp only[PV.ren,PV.slice];rw[aE i];cases e;split at e;rename_i i;cases e;simp only[PV.ren,PV.slice,PV.kR,apP];rw[aE i,<-List.map_take,<-List.map_drop];cases e;split at e;rename_i i;cases e;simp only[PV.ren,PV.slice];rw[aE i,Nat.add_right_comm];cases e;cases e
theorem Kv{x:PV}{b:Bool}(e:PV.sW x=some b):PV.sW (x.ren r)=some b:=by
 unfold PV.sW at e;split at e<;>first|exact e|cases e
theorem Uz{x v:PV}(e:PV.sI x=some v):PV.sI (x.ren r)=some (v.ren r):=by
 unfold PV.sI at e;split at e<;>cases e<;>simp only[PV.ren,PV.sI,PV.kR,apP]
end
def POp.clo:POp->Bool
 | .mv x | .un _ x | .conv _ x | .box _ x | .load _ x | .aoQ x | .apG _ x | .len x | .isNil _ x | .extract x _=>x.clo
 | .pick c a b=>c.clo&&(a.clo&&b.clo)
 | .bin _ x y | .eqb _ x y | .aoU _ x y | .idxA _ _ x y | .apE x y | .aoY _ x y | .store _ x y | .append _ _ x y=>x.clo&&y.clo
 | .alloc cells=>PV.bounds 0 cells
 | .build zero parts=>PV.bounds 0 zero&&parts.all λx=>x.2.2.clo
 | .aoI _ _ _ zero parts=>PV.bounds 0 zero&&parts.all λx=>x.2.clo
 | .slice _ x lo hi mx=>x.clo&&(lo.all aP.clo&&(hi.all aP.clo&&mx.all aP.clo))
 | .aoL _ _ zero l c=>PV.bounds 0 zero&&(l.clo&&c.clo)
 | .mkfn _ l=>l.all aP.clo
 | .call _ l=>l.all aP.clo
 | .apF x l=>x.clo&&l.all aP.clo
 |_=>false
section
variable {r:Ren} {F:PF} {h H:PH}
theorem UI(J:JU r h H){op:POp}{v:PV}(A:op.clo=true)(e:aV op F h=some v):aV op (F.ren r) H=some (v.ren r):=by
 cases op<;>try (simp[aV]at e;done)
 all_goals try (simp[POp.clo]at A;done)
 case mv x=>exact dN A e
 case pick c a b=>
  simp only[POp.clo,apT]at A;simp only[aV]at e ⊢;split at e
  ·rename_i t u;rw[dN A.1 u];cases t with
   |true=>exact dN A.2.1 e
   |false=>exact dN A.2.2 e
  ·cases e
 case bin op x y=>
  simp only[POp.clo,apT]at A;simp only[aV]at e ⊢;split at e
  ·rename_i a b u B;rw[dN A.1 u,dN A.2 B];exact abL e
  ·cases e
 case eqb n x y=>
  simp only[POp.clo,apT]at A;simp only[aV]at e ⊢;split at e
  ·rename_i a b u B;rw[dN A.1 u,dN A.2 B];cases e;rfl
  ·cases e
 case un op x=>
  simp only[aV]at e ⊢;split at e
  ·rename_i a u;rw[dN A u];exact afT e
  ·cases e
 case conv k x=>
  simp only[aV]at e ⊢;split at e
  ·rename_i L n u;rw[dN A u];cases e;rfl
  ·cases e
 case box ro x=>
  cases ro with
  |false=>simp[aV]at e
  |true=>
   simp only[aV]at e ⊢;split at e
   ·rename_i a u;rw[dN A u];simp only[yH,wR];split at e
    ·rename_i B;rw[aE B];cases e;simp only[PV.ren,PV.gC]
    ·cases e
   ·cases e
 case build zero parts=>
  simp only[POp.clo,apT]at A;simp only[aV]at e ⊢;cases u:pZ zero F parts with
  |none=>rw[u]at e;cases e
  |some w =>rw[u]at e;have B:=tu (r:=r) A.2 u;rw[PV.mK A.1]at B;rw[B];cases e;simp only[aqK,PV.ren,PV.gC]
 case aoI ro size len zero parts=>
  cases ro with
  |false=>simp[aV]at e
  |true=>
   simp only[POp.clo,apT]at A;simp only[aV]at e ⊢;split at e
   ·rename_i K;rw[aE K];cases u:gU size (apX len zero) F parts with
    |none=>rw[u]at e;cases e
    |some w =>rw[u]at e;have B:=GI (r:=r) A.2 u;rw[List.map_replicate,PV.mK A.1]at B;rw[B];cases e;simp only[aqK,PV.ren,PV.kR]
   ·cases e
 case load n p=>
  cases n with
  |none=>
   simp only[aV]at e ⊢;split at e
   ·rename_i a u;rw[dN A u];split at e
    ·rename_i w B;have D:=xA J B;simp only[aqQ,arL]at D;simp only[D];cases e;rfl
    ·cases e
   ·cases e
  |some n=>
   simp only[aV]at e ⊢;split at e
   ·rename_i a u;rw[dN A u];cases B:loadCells h a n with
    |none=>rw[B]at e;cases e
    |some w =>rw[B]at e;simp only[xA J B];cases e;simp only[aqK,PV.ren,PV.gC]
   ·cases e
 case aoQ x=>
  simp only[aV]at e ⊢;split at e
  ·rename_i u;rw[dN A u];cases e;rfl
  ·rename_i u;rw[dN A u];cases e;rfl
  ·cases e
 case apG off x=>
  simp only[aV]at e ⊢;split at e
  ·rename_i u;rw[dN A u];cases e;rfl
  ·rename_i u;rw[dN A u];cases e;simp only[PV.ren,PV.gC,List.map_drop]
  ·cases e
 case aoU size x i=>
  simp only[POp.clo,apT]at A;simp only[aV]at e ⊢;split at e
  ·rename_i s rows k n u B;rw[dN A.1 u,dN A.2 B];simp only[PV.ren,PV.kR];split at e
   ·rename_i D;rw[aE D,aqE];split at e
    ·rename_i q E;rw[E];cases e;simp only[aqK,PV.ren,PV.gC]
    ·cases e
   ·cases e
  ·rename_i o s off len k n u B;rw[dN A.1 u,dN A.2 B];simp only[PV.ren];split at e
   ·rename_i D;rw[aE D];cases e;simp only[PV.ren,Nat.add_right_comm]
   ·cases e
  ·cases e
 case idxA n size x i=>
  simp only[POp.clo,apT]at A;simp only[aV]at e ⊢;split at e
  ·rename_i u B;rw[dN A.1 u,dN A.2 B];simp only[PV.ren];split at e
   ·rename_i D;rw[aE D];cases e;rfl
   ·cases e
  ·rename_i u B;rw[dN A.1 u,dN A.2 B];simp only[PV.ren,PV.gC];split at e
   ·rename_i D;rw[aE D];cases e;simp only[PV.ren,PV.gC,List.map_drop]
   ·cases e
  ·cases e
 case apE x i=>
  simp only[POp.clo,apT]at A;simp only[aV]at e ⊢;split at e
  ·rename_i s k n u B;rw[dN A.1 u,dN A.2 B];simp only[PV.ren];split at e
   ·rename_i D;rw[aE D];cases E:s[n.toNat]? with
    |none=>rw[E]at e;cases e
    |some b=>rw[E]at e;cases e;rfl
   ·cases e
  ·cases e
 case len x=>
  simp only[aV]at e ⊢;cases u:x.ev F with
  |none=>rw[u]at e;cases e
  |some a=>rw[u]at e;rw[dN A u];exact Uz e
 case isNil n x=>
  simp only[aV]at e ⊢;cases u:x.ev F with
  |none=>rw[u]at e;cases e
  |some a=>
   rw[u]at e;rw[dN A u];simp only[atO]at e ⊢;cases B:a.sW with
   |none=>rw[B]at e;cases e
   |some b=>rw[B]at e;rw[Kv B];cases e;rfl
 case extract x i=>
  simp only[aV]at e ⊢;split at e
  ·rename_i vs u;rw[dN A u];simp only[PV.ren,PV.gC];rw[aqE,e];rfl
  ·cases e
 case aoY mx x y=>
  simp only[POp.clo,apT]at A;simp only[aV]at e ⊢;split at e
  ·rename_i u B;rw[dN A.1 u,dN A.2 B];simp only[PV.ren];split at e
   ·rename_i D;rw[aE D];cases e;rfl
   ·cases e
  ·cases e
 case mkfn name l=>
  simp only[aV]at e ⊢;cases u:aP.evs F l with
  |none=>rw[u]at e;cases e
  |some vs =>rw[u]at e;rw[EY A u];cases e;simp only[aqK,PV.ren,PV.gC]
 case slice size x lo hi mx=>
  simp only[POp.clo,apT]at A;simp only[aV]at e ⊢;split at e
  ·rename_i a u;rw[dN A.1 u];cases a<;>try (simp at e;done)
   all_goals
    simp only[PV.ren,PV.kR,apP]at e ⊢;split at e
    ·rename_i l m B D;rw[qk A.2.1 B,qk A.2.2.1 D];simp only;cases mx with
     |none =>simp only at e ⊢;have E:=vw (r:=r) e;simpa only [PV.ren,PV.kR]using E
     |some q=>
      simp only at e ⊢;cases h5:bnd F 0 (some q)with
      |none=>rw[h5]at e;cases e
      |some z =>rw[h5]at e;rw[qk A.2.2.2 h5];have E:=vw (r:=r) (by simpa using e);simpa only [PV.ren,PV.kR,atO]using E
    ·cases e
  ·cases e
end
inductive Fr where
 |nil
 |node (v:Option PV) (l r:Fr)
def Fr.pf:Fr->PF
 | .nil,_=>none
 | .node v l r,i=>cond (arR i 0) v (cond (arR (i%2) 1) (l.pf (i/2)) (r.pf (i/2-1)))
def Fr.set:Fr->Nat->PV->Fr
 | .nil,_,_=>.nil
 | .node v l r,i,x=>cond (arR i 0) (.node (some x) l r) (cond (arR (i%2) 1) (.node v (l.set (i/2) x) r) (.node v l (r.set (i/2-1) x)))
def Fr.has:Fr->Nat->Bool
 | .nil,_=>false
 | .node _ l r,i=>cond (arR i 0) true (cond (arR (i%2) 1) (l.has (i/2)) (r.has (i/2-1)))
def Fr.put(l:Fr)(d:O_)(v:PV):Fr:=match d with
 |none=>l
 |some d=>l.set d v
def Fr.fits(l:Fr)(d:O_):Bool:=match d with
 |none=>true
 |some d=>l.has d
theorem zz(i j:Nat):arR i j=decide (i=j):=by
 rw[Bool.eq_iff_iff,Nat.beq_eq,dT_]
theorem Fr.mq:∀{l:Fr}{d:Nat}{v:PV},l.has d=true->(l.set d v).pf=λi=>if i=d then some v else l.pf i
 | .nil,d,v,h=>by cases h
 | .node w l r,d,v,h=>by funext i;simp only[Fr.has,Fr.set,zz]at h ⊢;by_cases y:d=0;subst y;simp only[decide_true,cond_true,Fr.pf,zz];by_cases x:i=0<;>simp[x];simp only[y,decide_false,cond_false]at h ⊢;by_cases A:d%2=1;simp only[A,decide_true,cond_true]at h ⊢;simp only[Fr.pf,zz,Fr.mq h];by_cases x:i=0;simp only[x,decide_true,cond_true];rw[aC (λe=>y e.symm)];simp only[x,decide_false,cond_false];by_cases u:i%2=1;simp only[u,decide_true,cond_true];by_cases e:i=d;rw[aE e,aE (by rw[e])];rw[aC e,aC Om];simp only[u,decide_false,cond_false];rw[aC (by intro e;rw[e]at u;exact u A)];simp only[A,decide_false,cond_false]at h ⊢;simp only[Fr.pf,zz,Fr.mq h];by_cases x:i=0;simp only[x,decide_true,cond_true];rw[aC (λe=>y e.symm)];simp only[x,decide_false,cond_false];by_cases u:i%2=1;simp only[u,decide_true,cond_true];rw[aC (by intro e;rw[e]at u;exact A u)];simp only[u,decide_false,cond_false];by_cases e:i=d;rw[aE e,aE (by rw[e])];rw[aC e,aC Om]
theorem Fr.Qn{l:Fr}{d:O_}{v:PV}(h:l.fits d=true):(l.put d v).pf=l.pf.put d v:=by
 cases d with
 |none=>rfl
 |some d =>simp only[Fr.put];rw[Fr.mq h];rfl
def Fr.empty:Nat->Fr
 |0=>.nil
 |n+1=>.node none (Fr.empty n) (Fr.empty n)
theorem Fr.Aq:∀(n i:Nat),(Fr.empty n).pf i=none
 |0,i=>rfl
 |n+1,i=>by simp only[Fr.empty,Fr.pf,zz];cases decide (i=0)<;>cases decide (i%2=1)<;>simp[Fr.Aq n]
def Fr.args:V_->Nat->Fr->Option Fr
 |[],_,f=>some f
 |v::vs,k,f=>cond (f.has k) (Fr.args vs (k+1) (f.set k v)) none
theorem Fr.Gs:∀{vs:V_}{k:Nat}{f g:Fr},Fr.args vs k f=some g->g.pf=λi=>if i<k then f.pf i else match vs[i-k]? with|some v=>some v|none=>f.pf i
 |[],k,f,g,h=>by cases h;funext i;split<;>simp
 |v::vs,k,f,g,h=>by
  simp only[Fr.args]at h;cases e:f.has k with
  |false=>rw[e]at h;cases h
  |true=>
   rw[e]at h;rw[Fr.Gs h,Fr.mq e];funext i;show(if i<k+1 then(if i=k then some v else f.pf i)else match vs[i-(k+1)]? with|some w=>some w|none=>(if i=k then some v else f.pf i))=if i<k then f.pf i else match(v::vs)[i-k]? with|some w=>some w|none=>f.pf i
   rcases Nat.lt_trichotomy i k with c|c|c
   rw[aE Om,aC Om,aE c];subst c;rw[aE Om,aE rfl,aC Om,asA];rfl;rw[aC Om,aC Om,aC Om];obtain⟨d,l⟩:∃d,i-k=d+1:=⟨i-k-1,by omega⟩;rw[l,show i-(k+1)=d by omega];rfl
abbrev Hp:=List aR
def aR.live:aR->Option aR
 | .dead=>none
 | .loop ..=>none
 |x=>some x
def Hp.ph(l:Hp):PH:=⟨λo=>(l[o]?).bind aR.live,Z' l,λo e=>by simp[arC e]⟩
theorem Hp.kY(l:Hp)(o:Nat):l.ph o=(l[o]?).bind aR.live:=rfl
def aR.Bd(n:Nat):aR->Prop
 | .rows _ rs=>PV.eM n rs=true
 | .map _ g=>∀k v,g k=some v->v.bound 0=true
 |_=>True
def qr(n:Nat)(f:Fr):Prop:=∀i v,f.pf i=some v->v.bound n=true
structure Rl(r:Ren)(f:Fr)(h:Hp)(F:PF)(H:PH):Prop where
 fr:F=f.pf.ren r
 hp:JU r h.ph H
 inj:∀i j x y,h.ph i=some x->h.ph j=some y->(r i).1=(r j).1->i=j
 fb:qr h.length f
 hb:∀x∈h,aR.Bd h.length x
 pc:∀i x,h.ph i=some x->PV.eM 0 (r i).2=true
def gV(n:Nat)(r r':Ren):Prop:=∀i,i<n->r i=r' i
mutual
theorem PV.vF{n m:Nat}(h:n<=m):∀v:PV,v.bound n=true->v.bound m=true
 | .osl o s off len,hb=>by simp only[PV.bound,dT_]at hb ⊢;omega
 | .ptr o s i c,hb=>by simp only[PV.bound,dT_]at hb ⊢;omega
 | .map o,hb=>by simp only[PV.bound,dT_]at hb ⊢;omega
 | .sl s rows,hb=>by simp only[PV.bound]at hb ⊢;exact PV.yV h rows hb
 | .aU cs,hb=>by simp only[PV.bound]at hb ⊢;exact PV.qL h cs hb
 | .fn _ cs,hb=>by simp only[PV.bound]at hb ⊢;exact PV.qL h cs hb
 | .agg cs,hb=>by simp only[PV.bound]at hb ⊢;exact PV.qL h cs hb
 | .tup cs,hb=>by simp only[PV.bound]at hb ⊢;exact PV.qL h cs hb
 | .int _ _,_=>rfl
 | .bool _,_=>rfl
 | .str _,_=>rfl
 | .aG,_=>rfl
 | .lit _,_=>rfl
 | .junk,_=>rfl
theorem PV.qL{n m:Nat}(h:n<=m):∀l:V_,PV.bounds n l=true->PV.bounds m l=true
 |[],_=>rfl
 |v::vs,hb=>by simp only[PV.bounds,apT]at hb ⊢;exact⟨PV.vF h v hb.1,PV.qL h vs hb.2⟩
theorem PV.yV{n m:Nat}(h:n<=m):∀l:P2_,PV.eM n l=true->PV.eM m l=true
 |[],_=>rfl
 |v::vs,hb=>by simp only[PV.eM,apT]at hb ⊢;exact⟨PV.qL h v hb.1,PV.yV h vs hb.2⟩
end
def PV.BU(n:Nat)(v:PV):Bool:=cond (v.bound 0) true (v.bound n)
theorem PV.yU{n:Nat}{v:PV}(h:v.BU n=true):v.bound n=true:=by
 unfold PV.BU at h;cases e:v.bound 0 with
 |true=>exact PV.vF (apR _) v e
 |false=>rw[e]at h;exact h
theorem aR.Bd.mono{n m:Nat}(h:n<=m){x:aR}(hb:x.Bd n):x.Bd m:=by
 cases x with
 |rows s rs=>exact PV.yV h rs hb
 |map sh g=>exact hb
 |loop=>trivial
 |dead=>trivial
theorem aR.oR{n:Nat}{r r':Ren}(h:gV n r r'){x:aR}(hb:x.Bd n)(pre:P2_):x.ren r pre=x.ren r' pre:=by
 cases x with
 |rows s rs=>simp only[aR.ren,<-PV.kR];rw[PV.KD h rs hb]
 |map sh g=>
  simp only[aR.ren];congr 1;funext k;cases e:g k with
  |none=>rfl
  |some v=>rw[aqK,aqK,PV.oJ (hb k v e),PV.oJ (hb k v e)]
 |loop=>rfl
 |dead=>rfl
theorem PF.oR{n:Nat}{r r':Ren}(h:gV n r r'){f:Fr}(hb:qr n f):f.pf.ren r=f.pf.ren r':=by
 funext i;unfold PF.ren;cases e:f.pf i with
 |none=>rfl
 |some v=>rw[aqK,aqK,PV.UN h v (hb i v e)]
theorem PF.abN(r:Ren)(F:PF)(d:O_)(v:PV):(F.put d v).ren r=(F.ren r).put d (v.ren r):=by
 cases d with
 |none=>rfl
 |some d =>funext i;simp only[PF.put,PF.ren,PF.set,upd];split<;>rfl
theorem lO{l:Hp}{o:Nat}{x:aR}(h:l.ph o=some x):l[o]?=some x/\o<Z' l:=by
 rw[Hp.kY]at h;cases e:l[o]? with
 |none=>rw[e]at h;cases h
 |some y=>
  rw[e]at h;have hlt:=(aqU.1 e).1;cases y with
  |dead=>cases h
  |loop=>cases h
  |rows=>cases h;exact⟨rfl,hlt⟩
  |map=>cases h;exact⟨rfl,hlt⟩
theorem Hp.HF{l:Hp}{o:Nat}{x:aR}(u:o<Z' l)(q:Nat):Hp.ph (l.set o x) q=if q=o then x.live else l.ph q:=by
 rw[Hp.kY,Hp.kY,asX];by_cases e:o=q;subst e;rw[aE rfl,aE u,aE rfl];rfl;rw[aC e,aC (λi=>e i.symm)]
theorem Hp.vS{l:Hp}{x:aR}(q:Nat):Hp.ph (l++[x]) q=if q=l.length then x.live else l.ph q:=by
 rw[Hp.kY,Hp.kY];by_cases e:q=Z' l;subst e;rw[aE rfl,arS (apU _),asA];rfl;rw[aC e];rcases aqW q l.length with h|h
 rw[asE h];rw[arS h,arC (show[x].length<=q-l.length by simp;omega),arC h]
theorem aR.CG{x y:aR}(h:x.live=some y):x=y:=by
 cases x<;>first|cases h;done|(cases h;rfl)
section
variable {r:Ren} {f:Fr} {h:Hp} {F:PF} {H:PH}
theorem Rl.push(R:Rl r f h F H){x:aR}(E:x.Bd h.length){o:Nat}(L:H o=none) :
  Rl (λi=>if i=h.length then(o,[])else r i) f (h++[x]) F (H.set o (x.ren r []))/\gV h.length r (λi=>if i=h.length then(o,[])else r i):=by
 have A:gV h.length r (λi=>if i=h.length then(o,[])else r i):=λi hi=>by
  show r i=if i=h.length then(o,[])else r i
  rw[aC Om]
 have l:∀i y,h.ph i=some y->(r i).1≠o:=λi y hy e=>by have this:=R.hp i y hy;rw[e,L]at this;cases this
 have D:(h++[x]).length=Z' h+1:=by simp
 refine⟨⟨?_,λi y hy=>?_,λi j y z hy w e=>?_,λi v M=>?_,λy hy=>?_,λi y hy=>?_⟩,A⟩;rw[R.fr];exact PF.oR A R.fb;rw[Hp.vS]at hy;by_cases e:i=Z' h;rw[aE e]at hy;have:=aR.CG hy;subst this;show(H.set o (x.ren r [])) (if i=h.length then((o,[]):Nat × P2_)else r i).1=some (x.ren _ (if i=h.length then((o,[]):Nat × P2_)else r i).2);rw[aE e,aR.oR A E];simp[PH.set,PH.upd,upd];rw[aC e]at hy;have B:=R.hp i y hy;show(H.set o (x.ren r [])) (if i=h.length then((o,[]):Nat × P2_)else r i).1=some (y.ren _ (if i=h.length then((o,[]):Nat × P2_)else r i).2);rw[aC e];have J:=lO hy;rw[aR.oR A (R.hb y (asC J.1))]at B;have K:=l i y hy;simp only[PH.set,PH.upd,upd];rw[aC K];exact B;rw[Hp.vS]at hy w
 try simp only at e
 by_cases u:i=Z' h;by_cases e2:j=Z' h;omega;rw[aE u,aC e2]at e;rw[aC e2]at w;exact absurd e.symm (l j z w);by_cases e2:j=Z' h;rw[aC u,aE e2]at e;rw[aC u]at hy;exact absurd e (l i y hy);rw[aC u,aC e2]at e;rw[aC u]at hy;rw[aC e2]at w;exact R.inj i j y z hy w e;rw[D];exact PV.vF (Nat.le_succ _) v (R.fb i v M);rw[D];rcases aqZ.1 hy with hy|hy
 exact(R.hb y hy).mono (Nat.le_succ _);rw[arA]at hy;subst hy;exact E.mono (Nat.le_succ _);show PV.eM 0 (if i=h.length then((o,[]):Nat × P2_)else r i).2=true;by_cases e:i=Z' h;rw[aE e];rfl;rw[aC e];rw[Hp.vS,aC e]at hy;exact R.pc i y hy
theorem Rl.D5(R:Rl r f h F H){o:Nat}{x y:aR}(B:h.ph o=some x)(M:y.Bd h.length):Rl r f (h.set o y) F (H.set (r o).1 (y.ren r (r o).2)):=by
 have hlt:=(lO B).2;refine⟨R.fr,λi z l=>?_,λi j z w l D e=>?_,λi v L=>?_,λz l=>?_,λi z l=>?_⟩;rw[Hp.HF hlt]at l;by_cases e:i=o;rw[aE e]at l;have:=aR.CG l;subst this;subst e;simp[PH.set,PH.upd,upd];rw[aC e]at l;have A:=R.hp i z l;simp only[PH.set,PH.upd,upd];rw[aC (λK=>e (R.inj i o z x l B K))];exact A;rw[Hp.HF hlt]at l D;have h1:∃J,h.ph i=some J:=by by_cases u:i=o;subst u;exact⟨x,B⟩;rw[aC u]at l;exact⟨z,l⟩
 have A:∃E,h.ph j=some E:=by by_cases u:j=o;subst u;exact⟨x,B⟩;rw[aC u]at D;exact⟨w,D⟩
 obtain⟨J,h1⟩:=h1;obtain⟨E,A⟩:=A;exact R.inj i j J E h1 A e;rw[arD];exact R.fb i v L;rw[arD];rcases auB l with h1|h1
 exact R.hb z h1;subst h1;exact M;rw[Hp.HF hlt]at l;by_cases u:i=o;subst u;exact R.pc i x B;rw[aC u]at l;exact R.pc i z l
theorem Rl.drop(R:Rl r f h F H)(o:Nat):Rl r f (h.set o .dead) F H:=by
 have u:∀i z,Hp.ph (h.set o .dead) i=some z->h.ph i=some z:=λi z l=>by rw[Hp.kY,asX]at l;by_cases e:o=i;rw[aE e]at l;split at l<;>cases l;rw[aC e]at l;exact l
 refine⟨R.fr,λi z l=>R.hp i z (u i z l),λi j z w l y e=>R.inj i j z w (u i z l) (u j w y) e,λi v x=>?_,λz l=>?_,λi z l=>R.pc i z (u i z l)⟩;rw[arD];exact R.fb i v x;rw[arD];rcases auB l with h1|h1
 exact R.hb z h1;subst h1;trivial
theorem Rl.move(R:Rl r f h F H){o:Nat}{x y:aR}(J:h.ph o=some x)(N:y.Bd h.length)(pre:P2_)(B:PV.eM 0 pre=true) :
  Rl (λi=>if i=h.length then((r o).1,pre)else r i) f (h.set o .dead++[y]) F (H.set (r o).1 (y.ren r pre))/\gV h.length r (λi=>if i=h.length then((r o).1,pre)else r i):=by
 have hlt:=(lO J).2;have E:gV h.length r (λi=>if i=h.length then((r o).1,pre)else r i):=λi hi=>by
  show r i=if i=h.length then((r o).1,pre)else r i
  rw[aC Om]
 have D:(h.set o .dead).length=Z' h:=arD ..;have l:∀i z,i≠Z' h->Hp.ph (h.set o .dead++[y]) i=some z->i≠o/\h.ph i=some z:=λi z hi hz=>by rw[Hp.vS,D,aC hi,Hp.HF hlt]at hz;by_cases e:i=o;rw[aE e]at hz;cases hz;rw[aC e]at hz;exact⟨e,hz⟩
 have L:(h.set o .dead++[y]).length=Z' h+1:=by simp
 refine⟨⟨?_,λi z hz=>?_,λi j z w hz M e=>?_,λi v S=>?_,λz hz=>?_,λi z hz=>?_⟩,E⟩;rw[R.fr];exact PF.oR E R.fb;by_cases e:i=Z' h;rw[Hp.vS,D,aE e]at hz;have:=aR.CG hz;subst this;show(H.set (r o).1 (y.ren r pre)) (if i=h.length then(((r o).1,pre):Nat × P2_)else r i).1=some (y.ren _ (if i=h.length then(((r o).1,pre):Nat × P2_)else r i).2);rw[aE e,<-aR.oR E N];simp[PH.set,PH.upd,upd];obtain⟨h1,u⟩:=l i z e hz;have K:=R.hp i z u;show(H.set (r o).1 (y.ren r pre)) (if i=h.length then(((r o).1,pre):Nat × P2_)else r i).1=some (z.ren _ (if i=h.length then(((r o).1,pre):Nat × P2_)else r i).2);rw[aC e];rw[aR.oR E (R.hb z (asC (lO u).1))]at K;simp only[PH.set,PH.upd,upd];rw[aC (λO=>h1 (R.inj i o z x u J O))];exact K
 try simp only at e
 by_cases A:i=Z' h;by_cases e2:j=Z' h;omega;rw[aE A,aC e2]at e;obtain⟨h1,u⟩:=l j w e2 M;exact absurd (R.inj o j x w J u e).symm h1;by_cases e2:j=Z' h;rw[aC A,aE e2]at e;obtain⟨h1,u⟩:=l i z A hz;exact absurd (R.inj i o z x u J e) h1;rw[aC A,aC e2]at e;exact R.inj i j z w (l i z A hz).2 (l j w e2 M).2 e;rw[L];exact PV.vF (Nat.le_succ _) v (R.fb i v S);rw[L];rcases aqZ.1 hz with hz|hz
 rcases auB hz with h1|h1
 exact(R.hb z h1).mono (Nat.le_succ _);subst h1;trivial;rw[arA]at hz;subst hz;exact N.mono (Nat.le_succ _);show PV.eM 0 (if i=h.length then(((r o).1,pre):Nat × P2_)else r i).2=true;by_cases e:i=Z' h;rw[aE e];exact B;rw[aC e];exact R.pc i z (l i z e hz).2
theorem Rl.put(R:Rl r f h F H){d:O_}{v:PV}(l:f.fits d=true)(u:v.bound h.length=true):Rl r (f.put d v) h (F.put d (v.ren r)) H:=by
 refine⟨?_,R.hp,R.inj,λi w e=>?_,R.hb,R.pc⟩;rw[Fr.Qn l,PF.abN,R.fr]
 ·rw[Fr.Qn l]at e;cases d with
  |none=>exact R.fb i w e
  |some d =>simp only[PF.put,PF.set,upd]at e;split at e;cases e;exact u;exact R.fb i w e
end
end Go.PM
namespace Go.PM
open Go
def aR.bd(n:Nat):aR->Bool
 | .rows _ rs=>PV.eM n rs
 |_=>false
theorem aR.AH{n:Nat}{x:aR}(h:x.bd n=true):x.Bd n:=by
 cases x<;>first|exact h|cases h
def yg(n m bytes:Nat):Bool:=decide (n+m<=maxLen)&&decide ((n+m)*bytes<=140737488355328)
theorem ZG{n m bytes:Nat}(h:yg n m bytes=true):roomFor n m bytes:=by
 simp only[yg,apT,dT_]at h;exact h
def yJ(op:POp)(f:Fr)(h:Hp):Option (PV × Hp):=match op with
 | .apK sh=>some (.map h.length,h++[.map sh λ_=>none])
 |op=>match cK op f.pf with
  |some (e,x)=>if x.bd h.length then some (e h.length,h++[x])else none
  |none=>none
def kS(op:POp)(f:Fr)(h:Hp):Option (PV × Hp):=match op with
 | .store n p x=>match p.ev f.pf,x.ev f.pf with
  |some (.ptr o s i c),some v=>match h[o]? with
   |some (.rows s' rs)=>match rs[i]? with
    |some q=>if(decide (Z' v.cells=n)&&(decide (s'=s)&&(decide (c+Z' v.cells<=s)&&v.cells.all PV.one)))&&aR.bd h.length (.rows s' (rs.set i (setCells q c v.cells)))then
      some (.junk,h.set o (.rows s' (rs.set i (setCells q c v.cells))))else none
    |none=>none
   |_=>none
  |_,_=>none
 | .append size bytes x y=>match x.ev f.pf,y.ev f.pf with
  |some .aG,some b=>match dH h.ph size b with
   |some []=>some (.aG,h)
   |some (a::src)=>if yg 0 (a::src).length bytes&&aR.bd h.length (.rows size (a::src))then some (.osl h.length size 0 (a::src).length,h++[.rows size (a::src)])else none
   |none=>none
  |some (.osl o s off len),some b=>match dH h.ph size b,h[o]? with
   |some src,some (.rows s' rs)=>if(decide (s=size)&&(decide (s'=size)&&(decide (off+len<=Z' rs)&&PV.eM 0 (rs.take off))))&&(yg len src.length bytes&&aR.bd h.length (.rows size ((rs.drop off).take len++src)))then
     some (.osl h.length size 0 (len+Z' src),h.set o .dead++[.rows size ((rs.drop off).take len++src)])else none
   |_,_=>none
  |_,_=>none
 |_=>none
noncomputable def CO(op:POp)(f:Fr)(h:Hp):Option (PV × Hp):=
 if op.clo then
  if op.iR then yJ op f h else if op.eQ then kS op f h else
   match aV op f.pf h.ph with
   |some v=>if v.BU h.length then some (v,h)else none
   |none=>none
 else none
section
variable {r:Ren} {f:Fr} {h h':Hp} {F:PF} {H:PH} {K:R_} {v:PV}
theorem Er{F:PF}{op:POp}{B:Nat->PV}{x:aR}(i:op.clo=true)(e:cK op F=some (B,x))(J:∀sh,op≠.apK sh) :
  ∃mk',cK op (F.ren r)=some (mk',x.ren r [])/\(∀(q:Ren) n,(q n).2=[]->mk' (q n).1=(B n).ren q)/\∀n,(B n).bound (n+1)=true:=by
 cases op<;>try (simp[cK]at e;done)
 case alloc cells =>simp only[cK,asB.injEq,Prod.mk.injEq]at e ⊢;obtain⟨rfl,rfl⟩:=e;refine⟨_,⟨rfl,?_⟩,λq n hq=>by simp only[PV.ren,hq,asG,arG],λn=>by simp[PV.bound]⟩;simp only[aR.ren,aqQ,arL,PV.mK i,atL]
 case box ro y=>
  cases ro with
  |true=>simp[cK]at e
  |false=>
   simp only[cK]at e ⊢;split at e
   ·rename_i w u;rw[dN i u];simp only[yH,wR,apP];split at e
    ·rename_i A;rw[aE A];cases e;exact⟨_,rfl,λq n hq=>by simp only[PV.ren,hq,asG,arG],λn=>by simp[PV.bound]⟩
    ·cases e
   ·cases e
 case aoI ro size len zero parts=>
  cases ro with
  |true=>simp[cK]at e
  |false=>
   simp only[POp.clo,apT]at i;simp only[cK]at e ⊢;split at e
   ·rename_i D;rw[aE D];cases u:gU size (apX len zero) F parts with
    |none=>rw[u]at e;cases e
    |some w =>rw[u]at e;have A:=GI (r:=r) i.2 u;rw[List.map_replicate,PV.mK i.1]at A;rw[A];cases e;exact⟨_,rfl,λq n hq=>by simp only[PV.ren,hq,asG,arG],λn=>by simp[PV.bound]⟩
   ·cases e
 case aoL size bytes zero l c=>
  simp only[POp.clo,apT]at i;simp only[cK]at e ⊢;split at e
  ·rename_i k n M m u A;rw[dN i.2.1 u,dN i.2.2 A];simp only[PV.ren];split at e
   ·rename_i E;rw[aE E];cases e;have L:aR.ren r [] (.rows size (apX n.toNat zero))=.rows size (apX n.toNat zero):=by simp only[aR.ren,List.map_replicate,PV.mK i.1,atL]
    rw[L];exact⟨_,rfl,λq n hq=>by simp only[PV.ren,hq,asG,arG],λn=>by simp[PV.bound]⟩
   ·cases e
  ·cases e
 case apK sh=>exact absurd rfl (J sh)
theorem LH{n:Nat}:∀{a b:P2_},PV.eM n a=true->PV.eM n b=true->PV.eM n (a++b)=true
 |[],_,_,h=>h
 |x::a,b,e,i=>by simp only[PV.eM,asV,apT]at e ⊢;exact⟨e.1,LH e.2 i⟩
theorem XY:∀{l:P2_},PV.eM 0 l=true->∀r:Ren,l.map (λx=>x.map (PV.ren r))=l
 |[],_,_=>rfl
 |x::l,h,r=>by simp only[PV.eM,apT]at h;rw[aqQ,PV.mK h.1,XY h.2]
theorem acB{α:Type}(pre l:List α)(off len:Nat):(pre++l).take (off+Z' pre+len)=(pre++l.take off)++(l.drop off).take len:=by
 rw[List.take_append,aqR Om,show off+Z' pre+len-Z' pre=off+len by omega,List.take_add,aqT]
theorem El{H:PH}{size bytes o s off len:Nat}{y:PV}{K:R_}{src rs:P2_}(i:dH H size y=some src)(l:s=size)(u:roomFor len src.length bytes)(w:H o=some (.rows size rs))(h5:off+len<=Z' rs)
  (e:K (.osl o size off (len+Z' src)) (H.set o (.rows size (rs.take (off+len)++src)))) (x:∀o',H o'=none->K (.osl o' size 0 (len+Z' src)) (H.set o' (.rows size ((rs.drop off).take len++src)))):kM H size bytes (.osl o s off len) y K:=by
 cases off with
 |zero =>rw[aqA]at h5 e;exact⟨src,i,l,rfl,u,rs,w,h5,e,x⟩
 |succ off=>exact⟨src,i,l,u,rs,w,h5,e,x⟩
theorem RX{op:POp}{d:O_}{K:K_}(R:Rl r f h F H)(M:op.clo=true)(e:yJ op f h=some (v,h'))
  (D:∀r' H',gV h.length r r'->Rl r' f h' F H'->v.bound h'.length=true->K (F.put d (v.ren r')) H'):oN (cK op F) d K F H:=by
 by_cases y:∃sh,op=.apK sh;obtain⟨sh,rfl⟩:=y;simp only[yJ,asB.injEq,Prod.mk.injEq]at e;obtain⟨rfl,rfl⟩:=e;refine⟨_,_,rfl,λo A=>?_⟩;obtain⟨l,w⟩:=R.push (x:=.map sh λ_=>none) (λk v O=>by cases O) A;have:=D _ _ w l (by simp[PV.bound]);simpa[PV.ren,aR.ren]using this
 ·have i:(match cK op f.pf with|some (E,x)=>if x.bd h.length then some (E h.length,h++[x])else none|none=>none)=some (v,h'):=by cases op<;>first|exact e|exact absurd ⟨_,rfl⟩ y
  cases u:cK op f.pf with
  |none=>rw[u]at i;cases i
  |some p =>obtain⟨E,x⟩:=p;rw[u]at i;simp only at i;split at i;rename_i hb;cases i;obtain⟨mk',B,J,L⟩:=Er (r:=r) M u (λsh N=>y ⟨sh,N⟩);rw[<-R.fr]at B;refine⟨mk',x.ren r [],B,λo A=>?_⟩;obtain⟨l,w⟩:=R.push (aR.AH hb) A;have:=D _ _ w l (by rw[apV];exact L _);rw[<-J _ _ aX]at this;simpa using this;cases i
theorem JF{op:POp}(R:Rl r f h F H)(u:op.clo=true)(e:kS op f h=some (v,h'))
  (S:∀r' H',gV h.length r r'->Rl r' f h' F H'->v.bound h'.length=true->K (v.ren r') H'):cG op F H K:=by
 have A:=R.fr;cases op<;>try (simp[kS]at e;done)
 case store n p x=>
  simp only[POp.clo,apT]at u;simp only[kS]at e;split at e
  ·rename_i o s i c w M N;split at e
   ·rename_i s' rs E;split at e
    ·rename_i q W;split at e
     ·rename_i h5;simp only[apT,dT_]at h5;obtain⟨⟨h6,rfl,h7,h8⟩,V⟩:=h5;cases e;simp only[cG,A,dN u.1 M,dN u.2 N];have B:h.ph o=some (.rows s' rs):=by rw[Hp.kY,E];rfl
      obtain⟨pre,l,J,hH⟩:=R.hp.ex B;refine⟨by rw[yH,apP];exact h6,_,?_,S r _ (λ_ _=>rfl) (R.D5 B (aR.AH V)) rfl⟩;rw[J];simp only[aR.ren]at hH;simp only[PV.ren,storeAt,hH,l,A7,Rm,aR.ren,yH,wR,apP];rw[aE ⟨trivial,h7,h8⟩,aqE,W];simp only[aqK,asP,HL]
     ·cases e
    ·cases e
   ·cases e
  ·cases e
 case append size bytes x y=>
  simp only[POp.clo,apT]at u;simp only[kS]at e;split at e
  ·rename_i b M N;split at e
   ·rename_i E;cases e;simp only[cG,A,dN u.1 M,dN u.2 N];refine⟨[],HU R.hp E,⟨by simp[maxLen],by simp⟩,λ_=>S r H (λ_ _=>rfl) R rfl,λZ=>absurd rfl Z⟩
   ·rename_i a src E;split at e
    ·rename_i h5;simp only[apT]at h5;cases e;simp only[cG,A,dN u.1 M,dN u.2 N];refine⟨_,HU R.hp E,?_⟩;simp only[PV.ren];refine⟨by rw[apP];exact ZG h5.1,λZ=>by simp at Z,λ_ o B=>?_⟩;obtain⟨L,O⟩:=R.push (aR.AH h5.2) B;have:=S _ _ O L (by simp[PV.bound]);simpa[PV.ren,aR.ren]using this
    ·cases e
   ·cases e
  ·rename_i o s off len b M N;split at e
   ·rename_i src s' rs E W;split at e
    ·rename_i h5;simp only[apT,dT_]at h5;obtain⟨⟨rfl,rfl,h6,V⟩,h7,h8⟩:=h5;cases e;have B:h.ph o=some (.rows s' rs):=by rw[Hp.kY,W];rfl
     simp only[cG,A,dN u.1 M,dN u.2 N];have D:=R.pc o _ B;obtain⟨pre,l,J,U⟩:=R.hp.ex B;rw[J]at D;simp only[aR.ren]at U;simp only[PV.ren];refine El (HU R.hp E) rfl (by rw[apP];exact ZG h7) U (by rw[l,apV,apP];omega) ?_ λo' α=>?_
     ·obtain⟨L,O⟩:=R.move B (aR.AH h8) (pre++rs.take off) (LH D V);have:=S _ _ O L (by simp[PV.bound]);have Y:Z' pre+min off rs.length=off+(r o).2.length:=Om;have X:(rs.take off).map (λx=>x.map (PV.ren r))=rs.take off:=XY V r;rw[l,acB,apP,<-l,<-List.map_take,X];simpa[PV.ren,aR.ren,Y,aqP,List.map_take,List.map_drop,aqT]using this
     ·obtain⟨L,O⟩:=(R.drop o).push (x:=.rows s' ((rs.drop off).take len++src)) (by rw[arD];exact aR.AH h8) α;rw[arD]at O L;have:=S _ _ O L (by simp[PV.bound]);rw[l,LL,apP];simpa[PV.ren,aR.ren,aqP,List.map_take,List.map_drop]using this
    ·cases e
   ·cases e
  ·cases e
end
abbrev gI:=Nat->V_->Hp->Option (PV × Hp)
abbrev KZ:=List (bQ × Bool)->Fr->Hp->Option (Fr × Hp)
noncomputable def XN(call:gI)(op:POp)(f:Fr)(h:Hp):Option (PV × Hp):=match op with
 | .call name args=>if args.all aP.clo then match aP.evs f.pf args with
  |some vs=>call name vs h
  |none=>none
  else none
 | .apF x args=>if x.clo&&args.all aP.clo then match x.ev f.pf,aP.evs f.pf args with
  |some (.fn name cs),some vs=>call name (vs++cs) h
  |_,_=>none
  else none
 |op=>CO op f h
noncomputable def zU(call:gI):List bQ->Fr->Hp->Option (Fr × Hp)
 |[],f,h=>some (f,h)
 |i::rest,f,h=>if f.fits i.dst then match i.guard with
   |none=>match XN call i.op f h with
    |some (v,h')=>zU call rest (f.put i.dst v) h'
    |none=>none
   |some (t,e)=>match f.pf t with
    |some (.bool b)=>if b=e then match XN call i.op f h with
      |some (v,h')=>zU call rest (f.put i.dst v) h'
      |none=>none
     else zU call rest (f.put i.dst (.tup [])) h
    |some (.tup [])=>zU call rest (f.put i.dst (.tup [])) h
    |_=>none
  else none
noncomputable def rL(call:gI)(dr:KZ):Nat->aI->Fr->Hp->Option (lY × Fr × Hp)
 |0,_,_,_=>none
 |n+1,c,f,h=>match c with
  | .skip=>some (.normal,f,h)
  | .region ops=>match zU call ops f h with
   |some (f',h')=>some (.normal,f',h')
   |none=>none
  | .draw ops=>match dr ops f h with
   |some (f',h')=>some (.normal,f',h')
   |none=>none
  | .seq a b=>match rL call dr n a f h with
   |some (.normal,f',h')=>rL call dr n b f' h'
   |x=>x
  | .cond x a b=>if x.clo then match x.ev f.pf with
   |some (.bool t)=>if t then rL call dr n a f h else rL call dr n b f h
   |_=>none
   else none
  | .block id c=>match rL call dr n c f h with
   |some (.exit e,f',h')=>if e=id then some (.normal,f',h')else some (.exit e,f',h')
   |x=>x
  | .loop c=>match rL call dr n c f h with
   |some (.normal,f',h')=>rL call dr n (.loop c) f' h'
   |x=>x
  | .exit id=>some (.exit id,f,h)
  | .ret=>some (.ret,f,h)
def Comes(r:Ren)(n:Nat)(v:PV)(h':Hp)(e:PV)(H':PH):Prop:=
 ∃r',gV n r r'/\Rl r' .nil h' n_ H'/\e=v.ren r'/\v.bound h'.length=true/\n<=Z' h'
def Exact(r:Ren)(h:Hp)(H:PH):Prop:=∀o x,H o=some x->∃i y,h.ph i=some y/\(r i).1=o
def pT(C:Ctx)(call:gI):Prop:=∀name vs h v h',call name vs h=some (v,h')->∀r H,Rl r .nil h n_ H->Exact r h H->PV.bounds h.length vs=true ->
 aJ C name (vs.map (PV.ren r)) H (Comes r h.length v h')
def ip(C:Ctx)(call:gI):Prop:=∀name vs h v h',call name vs h=some (v,h')->∀r f F H d (K:K_),Rl r f h F H->PV.bounds h.length vs=true ->
 (∀r' H',gV h.length r r'->Z' h<=Z' h'->Rl r' f h' F H'->v.bound h'.length=true->K (F.put d (v.ren r')) H')->uW C name (some (vs.map (PV.ren r))) d K F H
def zb(C:Ctx)(dr:KZ):Prop:=∀ops f h f' h',dr ops f h=some (f',h')->∀r F H,Rl r f h F H->∀K:K_,
 (∀r' e H',gV h.length r r'->Z' h<=Z' h'->Rl r' f' h' e H'->K e H')->∃Hs S,PH.le Hs H/\wpD C Hs S ops K F H
theorem gV.trans{n m:Nat}{r r' e:Ren}(h:gV n r r')(l:gV m r' e)(u:n<=m):gV n r e:=
 λi hi=>(h i hi).trans (l i (Nat.lt_of_lt_of_le hi u))
section
variable {C:Ctx} {call:gI} {dr:KZ} {r:Ren} {f f':Fr} {h h':Hp} {F:PF} {H:PH} {v:PV}
theorem Rl.heap(R:Rl r f h F H):Rl r .nil h n_ H:=⟨rfl,R.hp,R.inj,λi v e=>by simp[Fr.pf]at e,R.hb,R.pc⟩
theorem TE{n:Nat}(hb:qr n f):∀{l:List aP}{vs:V_},l.all aP.clo=true->aP.evs f.pf l=some vs->PV.bounds n vs=true
 |[],_,_,e=>by cases e;rfl
 |x::xs,vs,i,e=>by
  simp only[atS,apT]at i;simp only[aP.evs]at e;split at e
  ·rename_i v A w y;cases e;rw[PV.bounds,TE hb i.2 y,arY];cases x with
   |tmp t=>exact hb t v w
   |const u=>cases w;exact PV.vF (apR _) _ i.1
  cases e
theorem RM{n:Nat}:∀{a b:V_},PV.bounds n a=true->PV.bounds n b=true->PV.bounds n (a++b)=true
 |[],_,_,h=>h
 |x::a,b,e,i=>by simp only[PV.bounds,asV,apT]at e ⊢;exact⟨e.1,RM e.2 i⟩
theorem Dx{op:POp}{d:O_}{K:K_}(R:Rl r f h F H)(e:CO op f h=some (v,h'))
  (x:∀r' H',gV h.length r r'->Rl r' f h' F H'->v.bound h'.length=true->K (F.put d (v.ren r')) H') :
  if op.iR then oN (cK op F) d K F H else if op.eQ then cG op F H (λr H'=>K (F.put d r) H')else wU (aV op F H) d K F H:=by
 unfold CO at e;split at e;rename_i u;split at e;rename_i i;rw[aE i];exact RX R u e x;rename_i i;rw[aC i];split at e;rename_i l;rw[aE l];exact JF R u e x;rename_i l;rw[aC l];split at e;rename_i w y;split at e;rename_i hb;replace hb:=PV.yU hb;cases e;have:=UI R.hp u y;rw[<-R.fr]at this;exact⟨_,this,x r H (λ_ _=>rfl) R hb⟩;cases e;cases e;cases e
theorem QD{op:POp}(e:CO op f h=some (v,h')):Z' h<=Z' h':=by
 unfold CO at e;split at e
 ·split at e
  ·by_cases l:∃sh,op=.apK sh
   ·obtain⟨sh,rfl⟩:=l;simp only[yJ,asB.injEq,Prod.mk.injEq]at e;obtain⟨-,rfl⟩:=e;simp
   ·have i:(match cK op f.pf with|some (u,x)=>if x.bd h.length then some (u h.length,h++[x])else none|none=>none)=some (v,h'):=by cases op<;>first|exact e|exact absurd ⟨_,rfl⟩ l
    split at i
    ·split at i<;>cases i;simp
    ·cases i
  ·split at e
   ·cases op<;>try (simp[kS]at e;done)
    all_goals
     simp only[kS]at e
     (repeat' split at e)<;>cases e<;>simp
   ·split at e
    ·split at e<;>cases e;exact apU _
    ·cases e
 ·cases e
theorem F9(J:ip C call){op:POp}{d:O_}{K:K_}(R:Rl r f h F H)(e:XN call op f h=some (v,h'))
  (A:∀r' H',gV h.length r r'->Z' h<=Z' h'->Rl r' f h' F H'->v.bound h'.length=true->K (F.put d (v.ren r')) H'):wpOp C op d K F H:=by
 by_cases y:∃name args,op=.call name args;obtain⟨name,args,rfl⟩:=y;simp only[XN]at e;split at e;rename_i i;split at e;rename_i vs w;have l:=EY (r:=r) i w;rw[<-R.fr]at l;refine .inl ?_;rw[l];simp only[aqK,aqY];exact J _ _ _ _ _ e _ _ _ _ _ _ R (TE R.fb i w) A;cases e;cases e;by_cases w:∃x args,op=.apF x args;obtain⟨x,args,rfl⟩:=w;simp only[XN]at e;split at e;rename_i i;simp only[apT]at i;split at e
 ·rename_i name cs vs l D;have h5:=EY (r:=r) i.2 D;have E:=dN (r:=r) i.1 l;rw[<-R.fr]at h5 E;show wD C (x.ev F) args d K F H;rw[E];simp only[PV.ren,PV.gC,wD];refine .inl ?_;rw[h5];simp only[aqK,<-aqP];refine J _ _ _ _ _ e _ _ _ _ _ _ R (RM (TE R.fb i.2 D) ?_) A;cases x with
  |tmp t=>exact R.fb t _ l
  |const u =>simp only[aP.ev,asB.injEq]at l;subst l;have:=i.1;simp only[aP.clo,PV.bound]at this;exact PV.qL (apR _) _ this
 cases e;cases e;have B:CO op f h=some (v,h'):=by cases op<;>first|exact e|exact absurd ⟨_,_,rfl⟩ y|exact absurd ⟨_,_,rfl⟩ w
 have N:=QD B;have:=Dx (d:=d) (K:=K) R B λr' H' M L hb=>A r' H' M N L hb;cases op<;>first|exact this|exact absurd ⟨_,_,rfl⟩ y|exact absurd ⟨_,_,rfl⟩ w
theorem HM(J:ip C call):∀(ops:List bQ){r:Ren}{f f':Fr}{h h':Hp}{F:PF}{H:PH}{K:K_},zU call ops f h=some (f',h')->Rl r f h F H ->
  (∀r' S H',gV h.length r r'->Z' h<=Z' h'->Rl r' f' h' S H'->K S H')->wpOps C ops K F H
 |[],r,f,f',h,h',F,H,K,e,R,A=>by cases e;exact A r F H (λ_ _=>rfl) (apU _) R
 |i::rest,r,f,f',h,h',F,H,K,e,R,A=>by
  simp only[zU]at e;split at e;rename_i U;have u:∀{e2:(match XN call i.op f h with|some (v,h')=>zU call rest (f.put i.dst v) h'|none=>none)=some (f',h')},wpOp C i.op i.dst (wpOps C rest K) F H:=by intro e2;split at e2;rename_i v h1 Y;refine F9 J R Y λr' H' Z V X hb=>?_;exact HM J rest e2 (X.put U hb) λO B D L N E=>A O B D (Z.trans L V) (aqX V N) E;cases e2
  have l:∀{e2:zU call rest (f.put i.dst (.tup [])) h=some (f',h')},wpOps C rest K (F.put i.dst (.tup [])) H:=by intro e2;exact HM J rest e2 (R.put (v:=.tup []) U rfl) A
  have x:∀t w,f.pf t=some w->F t=some (w.ren r):=λt w y=>by rw[R.fr];simp only[PF.ren,y,aqK]
  simp only[wpOps];split at e;rename_i M;rw[M];exact u (e2:=e);rename_i t W M;rw[M];simp only;split at e;rename_i b hb;rw[x t _ hb];simp only[PV.ren];split at e;rename_i y;rw[aE y];exact u (e2:=e);rename_i y;rw[aC y];exact l (e2:=e);rename_i hb;rw[x t _ hb];exact l (e2:=e);cases e;cases e
theorem L8(hC:ip C call)(hD:zb C dr):∀(n:Nat)(c:aI){r:Ren}{f f':Fr}{h h':Hp}{F:PF}{H:PH}{x:lY}{K:bT},rL call dr n c f h=some (x,f',h')->Rl r f h F H ->
  (∀r' i H',gV h.length r r'->Z' h<=Z' h'->Rl r' f' h' i H'->K x i H')->c.wp C K F H:=by
 intro n
 induction n using Nat.strongRecOn with
 |_ n ih=>
 intro c r f f' h h' F H x K e R l;cases n with
 |zero=>cases e
 |succ n=>
 have J:=ih n (Nat.lt_succ_self n);cases c with
 |skip=>cases e;exact l r F H (λ_ _=>rfl) (apU _) R
 |exit id=>cases e;exact l r F H (λ_ _=>rfl) (apU _) R
 |ret=>cases e;exact l r F H (λ_ _=>rfl) (apU _) R
 |region ops =>simp only[rL]at e;split at e;rename_i f1 A w;cases e;exact HM hC ops w R l;cases e
 |draw ops =>simp only[rL]at e;split at e;rename_i f1 A w;cases e;exact hD ops f h _ _ w r F H R _ l;cases e
 |cond c a b=>
  simp only[rL]at e;split at e;rename_i hc;split at e
  ·rename_i t A;have L:=dN (r:=r) hc A;rw[<-R.fr]at L;simp only[aI.wp,L,PV.ren];cases t with
   |true=>exact J a e R l
   |false=>exact J b e R l
  cases e;cases e
 |seq a b=>
  simp only[rL]at e;cases A:rL call dr n a f h with
  |none=>rw[A]at e;cases e
  |some p=>
   obtain⟨y,f1,g1⟩:=p;rw[A]at e;refine J a A R λr' i H' E B D=>?_;cases y with
   |normal=>exact J b e D λY O S V X U=>l Y O S (E.trans V B) (aqX B X) U
   |exit id=>cases e;exact l r' i H' E B D
   |ret=>cases e;exact l r' i H' E B D
 |block id c=>
  simp only[rL]at e;cases A:rL call dr n c f h with
  |none=>rw[A]at e;cases e
  |some p=>
   obtain⟨y,f1,g1⟩:=p;rw[A]at e;refine J c A R λr' i H' E B D=>?_;cases y with
   |normal=>cases e;exact l r' i H' E B D
   |exit β =>simp only at e;simp only[fE];split at e;rename_i L;rw[aE L];cases e;exact l r' i H' E B D;rename_i L;rw[aC L];cases e;exact l r' i H' E B D
   |ret=>cases e;exact l r' i H' E B D
 |loop c=>
  let α:=Nat × Fr × Hp × Ren × PF × PH
  refine⟨α,λa=>a.2.2.2.2.1,λa=>a.2.2.2.2.2,λa=>a.1<=n+1/\rL call dr a.1 (.loop c) a.2.1 a.2.2.1=some (x,f',h')/\Rl a.2.2.2.1 a.2.1 a.2.2.1 a.2.2.2.2.1 a.2.2.2.2.2/\gV h.length r a.2.2.2.1/\Z' h<=a.2.2.1.length,
   λa=>a.1,(n+1,f,h,r,F,H),F,H,.refl F H,⟨apU _,e,R,λ_ _=>rfl,apU _⟩,λ_ _ N=>N,λ_ _ N=>N,?_⟩
  rintro⟨k,f1,A,r1,F1,H1⟩ ⟨W,w,Z,M,u⟩;simp only at W w Z M u ⊢;cases k with
  |zero=>cases w
  |succ k=>
   simp only[rL]at w;cases L:rL call dr k c f1 A with
   |none=>rw[L]at w;cases w
   |some p=>
    obtain⟨y,f2,g2⟩:=p;rw[L]at w;refine ih k Om c L Z λr' i H' E B D=>?_;cases y with
    |normal=>exact⟨(k,f2,g2,r',i,H'),i,H',.refl i H',⟨by omega,w,D,M.trans E u,aqX u B⟩,Nat.lt_succ_self k,λ_ _ N=>N,λ_ _ N=>N⟩
    |exit id=>cases w;exact l r' i H' (M.trans E u) (aqX u B) D
    |ret=>cases w;exact l r' i H' (M.trans E u) (aqX u B) D
end
mutual
def PV.on(L:Nat->Bool):PV->Bool
 | .osl o _ _ _=>L o
 | .ptr o _ _ _=>L o
 | .map o=>L o
 | .sl _ rows=>PV.rG L rows
 | .aU cs=>PV.ons L cs
 | .fn _ cs=>PV.ons L cs
 | .agg cs=>PV.ons L cs
 | .tup cs=>PV.ons L cs
 | .int _ _=>true
 | .bool _=>true
 | .str _=>true
 | .aG=>true
 | .lit _=>true
 | .junk=>true
def PV.ons(L:Nat->Bool):V_->Bool
 |[]=>true
 |v::vs=>PV.on L v&&PV.ons L vs
def PV.rG(L:Nat->Bool):P2_->Bool
 |[]=>true
 |v::vs=>PV.ons L v&&PV.rG L vs
end
mutual
theorem PV.Db{L:Nat->Bool}{r s:Ren}{t:Nat->Nat}(h:∀i,L i=true->r (t i)=s i):∀v:PV,v.on L=true->(v.ren (up t)).ren r=v.ren s
 | .osl o _ _ _,hb=>by simp only[PV.on]at hb;simp only[PV.ren,<-h o hb,up,asG,arG]
 | .ptr o _ _ _,hb=>by simp only[PV.on]at hb;simp only[PV.ren,<-h o hb,up,asG,arG]
 | .map o,hb=>by simp only[PV.on]at hb;simp only[PV.ren,<-h o hb,up]
 | .sl _ rows,hb=>by simp only[PV.on]at hb;simp only[PV.ren,PV.fq h rows hb]
 | .aU cs,hb=>by simp only[PV.on]at hb;simp only[PV.ren,PV.AR h cs hb]
 | .fn _ cs,hb=>by simp only[PV.on]at hb;simp only[PV.ren,PV.AR h cs hb]
 | .agg cs,hb=>by simp only[PV.on]at hb;simp only[PV.ren,PV.AR h cs hb]
 | .tup cs,hb=>by simp only[PV.on]at hb;simp only[PV.ren,PV.AR h cs hb]
 | .int _ _,_=>rfl
 | .bool _,_=>rfl
 | .str _,_=>rfl
 | .aG,_=>rfl
 | .lit _,_=>rfl
 | .junk,_=>rfl
theorem PV.AR{L:Nat->Bool}{r s:Ren}{t:Nat->Nat}(h:∀i,L i=true->r (t i)=s i):∀l:V_,PV.ons L l=true->PV.mG r (PV.mG (up t) l)=PV.mG s l
 |[],_=>rfl
 |v::vs,hb=>by simp only[PV.ons,apT]at hb;simp only[PV.mG,PV.Db h v hb.1,PV.AR h vs hb.2]
theorem PV.fq{L:Nat->Bool}{r s:Ren}{t:Nat->Nat}(h:∀i,L i=true->r (t i)=s i):∀l:P2_,PV.rG L l=true->PV.mL r (PV.mL (up t) l)=PV.mL s l
 |[],_=>rfl
 |v::vs,hb=>by simp only[PV.rG,apT]at hb;simp only[PV.mL,PV.AR h v hb.1,PV.fq h vs hb.2]
end
mutual
theorem PV.dw{L:Nat->Bool}{t:Ren}{m:Nat}(h:∀i,L i=true->(t i).1<m):∀v:PV,v.on L=true->(v.ren t).bound m=true
 | .osl o _ _ _,hb=>by simp only[PV.on]at hb;simp only[PV.ren,PV.bound,h o hb,decide_true]
 | .ptr o _ _ _,hb=>by simp only[PV.on]at hb;simp only[PV.ren,PV.bound,h o hb,decide_true]
 | .map o,hb=>by simp only[PV.on]at hb;simp only[PV.ren,PV.bound,h o hb,decide_true]
 | .sl _ rows,hb=>by simp only[PV.on]at hb;simp only[PV.ren,PV.bound,PV.OZ h rows hb]
 | .aU cs,hb=>by simp only[PV.on]at hb;simp only[PV.ren,PV.bound,PV.uN h cs hb]
 | .fn _ cs,hb=>by simp only[PV.on]at hb;simp only[PV.ren,PV.bound,PV.uN h cs hb]
 | .agg cs,hb=>by simp only[PV.on]at hb;simp only[PV.ren,PV.bound,PV.uN h cs hb]
 | .tup cs,hb=>by simp only[PV.on]at hb;simp only[PV.ren,PV.bound,PV.uN h cs hb]
 | .int _ _,_=>rfl
 | .bool _,_=>rfl
 | .str _,_=>rfl
 | .aG,_=>rfl
 | .lit _,_=>rfl
 | .junk,_=>rfl
theorem PV.uN{L:Nat->Bool}{t:Ren}{m:Nat}(h:∀i,L i=true->(t i).1<m):∀l:V_,PV.ons L l=true->PV.bounds m (PV.mG t l)=true
 |[],_=>rfl
 |v::vs,hb=>by simp only[PV.ons,apT]at hb;simp only[PV.mG,PV.bounds,PV.dw h v hb.1,PV.uN h vs hb.2,arY]
theorem PV.OZ{L:Nat->Bool}{t:Ren}{m:Nat}(h:∀i,L i=true->(t i).1<m):∀l:P2_,PV.rG L l=true->PV.eM m (PV.mL t l)=true
 |[],_=>rfl
 |v::vs,hb=>by simp only[PV.rG,apT]at hb;simp only[PV.mL,PV.eM,PV.uN h v hb.1,PV.OZ h vs hb.2,arY]
end
mutual
theorem PV.Qa{L L':Nat->Bool}(h:∀i,L i=true->L' i=true):∀v:PV,v.on L=true->v.on L'=true
 | .osl o _ _ _,hb=>h o hb
 | .ptr o _ _ _,hb=>h o hb
 | .map o,hb=>h o hb
 | .sl _ rows,hb=>by simp only[PV.on]at hb ⊢;exact PV.Cw h rows hb
 | .aU cs,hb=>by simp only[PV.on]at hb ⊢;exact PV.FH h cs hb
 | .fn _ cs,hb=>by simp only[PV.on]at hb ⊢;exact PV.FH h cs hb
 | .agg cs,hb=>by simp only[PV.on]at hb ⊢;exact PV.FH h cs hb
 | .tup cs,hb=>by simp only[PV.on]at hb ⊢;exact PV.FH h cs hb
 | .int _ _,_=>rfl
 | .bool _,_=>rfl
 | .str _,_=>rfl
 | .aG,_=>rfl
 | .lit _,_=>rfl
 | .junk,_=>rfl
theorem PV.FH{L L':Nat->Bool}(h:∀i,L i=true->L' i=true):∀l:V_,PV.ons L l=true->PV.ons L' l=true
 |[],_=>rfl
 |v::vs,hb=>by simp only[PV.ons,apT]at hb ⊢;exact⟨PV.Qa h v hb.1,PV.FH h vs hb.2⟩
theorem PV.Cw{L L':Nat->Bool}(h:∀i,L i=true->L' i=true):∀l:P2_,PV.rG L l=true->PV.rG L' l=true
 |[],_=>rfl
 |v::vs,hb=>by simp only[PV.rG,apT]at hb ⊢;exact⟨PV.FH h v hb.1,PV.Cw h vs hb.2⟩
end
mutual
theorem PV.GC{n:Nat}:∀v:PV,v.on (λi=>decide (i<n))=v.bound n
 | .osl o _ _ _=>rfl
 | .ptr o _ _ _=>rfl
 | .map o=>rfl
 | .sl _ rows=>by simp only[PV.on,PV.bound,PV.MR rows]
 | .aU cs=>by simp only[PV.on,PV.bound,PV.xZ cs]
 | .fn _ cs=>by simp only[PV.on,PV.bound,PV.xZ cs]
 | .agg cs=>by simp only[PV.on,PV.bound,PV.xZ cs]
 | .tup cs=>by simp only[PV.on,PV.bound,PV.xZ cs]
 | .int _ _=>rfl
 | .bool _=>rfl
 | .str _=>rfl
 | .aG=>rfl
 | .lit _=>rfl
 | .junk=>rfl
theorem PV.xZ{n:Nat}:∀l:V_,PV.ons (λi=>decide (i<n)) l=PV.bounds n l
 |[]=>rfl
 |v::vs=>by simp only[PV.ons,PV.bounds,PV.GC v,PV.xZ vs]
theorem PV.MR{n:Nat}:∀l:P2_,PV.rG (λi=>decide (i<n)) l=PV.eM n l
 |[]=>rfl
 |v::vs=>by simp only[PV.rG,PV.eM,PV.xZ v,PV.MR vs]
end
theorem PV.Hu{L L':Nat->Bool}(h:∀i,L i=true->L' i=true)(v:PV)(e:v.on L=true):v.on L'=true:=by
 have:=PV.Qa (L:=L) (L':=L') h v;exact this e
def PV.sa(r:Ren)(v:PV):PV:=cond (v.bound 0) v (v.ren r)
theorem PV.PJ(r:Ren)(v:PV):v.sa r=v.ren r:=by
 unfold PV.sa;cases e:v.bound 0 with
 |true=>exact(PV.oJ e r).symm
 |false=>rfl
def PV.onC(L:Nat->Bool)(v:PV):Bool:=cond (v.bound 0) true (v.on L)
theorem PV.Cr{L:Nat->Bool}{v:PV}(h:v.onC L=true):v.on L=true:=by
 unfold PV.onC at h;cases e:v.bound 0 with
 |true =>rw[<-PV.GC]at e;exact PV.Hu (λi hi=>by simp at hi) v e
 |false=>rw[e]at h;exact h
mutual
def PV.back(q:Nat->Nat × Nat):PV->PV
 | .osl o s off len=>.osl (q o).1 s (off-(q o).2) len
 | .ptr o s i c=>.ptr (q o).1 s (i-(q o).2) c
 | .map o=>.map (q o).1
 | .sl s rows=>.sl s (PV.SG q rows)
 | .aU cs=>.aU (PV.sA q cs)
 | .fn n cs=>.fn n (PV.sA q cs)
 | .agg cs=>.agg (PV.sA q cs)
 | .tup cs=>.tup (PV.sA q cs)
 | .int k n=>.int k n
 | .bool b=>.bool b
 | .str s=>.str s
 | .aG=>.aG
 | .lit v=>.lit v
 | .junk=>.junk
def PV.sA(q:Nat->Nat × Nat):V_->V_
 |[]=>[]
 |v::vs=>PV.back q v::PV.sA q vs
def PV.SG(q:Nat->Nat × Nat):P2_->P2_
 |[]=>[]
 |v::vs=>PV.sA q v::PV.SG q vs
end
mutual
theorem PV.MP{L:Nat->Bool}{q:Nat->Nat × Nat}{r:Ren}(h:∀i,L i=true->q (r i).1=(i,(r i).2.length)):∀v:PV,v.on L=true->(v.ren r).back q=v
 | .osl o _ _ _,hb=>by simp only[PV.on]at hb;simp only[PV.ren,PV.back,h o hb,Nat.add_sub_cancel]
 | .ptr o _ _ _,hb=>by simp only[PV.on]at hb;simp only[PV.ren,PV.back,h o hb,Nat.add_sub_cancel]
 | .map o,hb=>by simp only[PV.on]at hb;simp only[PV.ren,PV.back,h o hb]
 | .sl _ rows,hb=>by simp only[PV.on]at hb;simp only[PV.ren,PV.back,PV.MQ h rows hb]
 | .aU cs,hb=>by simp only[PV.on]at hb;simp only[PV.ren,PV.back,PV.tY h cs hb]
 | .fn _ cs,hb=>by simp only[PV.on]at hb;simp only[PV.ren,PV.back,PV.tY h cs hb]
 | .agg cs,hb=>by simp only[PV.on]at hb;simp only[PV.ren,PV.back,PV.tY h cs hb]
 | .tup cs,hb=>by simp only[PV.on]at hb;simp only[PV.ren,PV.back,PV.tY h cs hb]
 | .int _ _,_=>rfl
 | .bool _,_=>rfl
 | .str _,_=>rfl
 | .aG,_=>rfl
 | .lit _,_=>rfl
 | .junk,_=>rfl
theorem PV.tY{L:Nat->Bool}{q:Nat->Nat × Nat}{r:Ren}(h:∀i,L i=true->q (r i).1=(i,(r i).2.length)):∀l:V_,PV.ons L l=true->PV.sA q (PV.mG r l)=l
 |[],_=>rfl
 |v::vs,hb=>by simp only[PV.ons,apT]at hb;simp only[PV.mG,PV.sA,PV.MP h v hb.1,PV.tY h vs hb.2]
theorem PV.MQ{L:Nat->Bool}{q:Nat->Nat × Nat}{r:Ren}(h:∀i,L i=true->q (r i).1=(i,(r i).2.length)):∀l:P2_,PV.rG L l=true->PV.SG q (PV.mL r l)=l
 |[],_=>rfl
 |v::vs,hb=>by simp only[PV.rG,apT]at hb;simp only[PV.mL,PV.SG,PV.tY h v hb.1,PV.MQ h vs hb.2]
end
mutual
def PV.ids:PV->N_->N_
 | .osl o _ _ _,l=>o::l
 | .ptr o _ _ _,l=>o::l
 | .map o,l=>o::l
 | .sl _ rows,l=>PV.Yh rows l
 | .aU cs,l=>PV.qx cs l
 | .fn _ cs,l=>PV.qx cs l
 | .agg cs,l=>PV.qx cs l
 | .tup cs,l=>PV.qx cs l
 | .int _ _,l=>l
 | .bool _,l=>l
 | .str _,l=>l
 | .aG,l=>l
 | .lit _,l=>l
 | .junk,l=>l
def PV.qx:V_->N_->N_
 |[],l=>l
 |v::vs,l=>PV.ids v (PV.qx vs l)
def PV.Yh:P2_->N_->N_
 |[],l=>l
 |v::vs,l=>PV.qx v (PV.Yh vs l)
end
def PV.Um(v:PV)(l:N_):N_:=cond (v.bound 0) l (v.ids l)
def vM:V_->N_->N_
 |[],l=>l
 |v::vs,l=>PV.Um v (vM vs l)
def Bf:P2_->N_->N_
 |[],l=>l
 |v::vs,l=>vM v (Bf vs l)
def UF(L:Nat->Bool):V_->Bool
 |[]=>true
 |v::vs=>v.onC L&&UF L vs
def XD(L:Nat->Bool):P2_->Bool
 |[]=>true
 |v::vs=>UF L v&&XD L vs
theorem OX{L:Nat->Bool}:∀{l:V_},UF L l=true->PV.ons L l=true
 |[],_=>rfl
 |v::vs,h=>by simp only[UF,PV.ons,apT]at h ⊢;exact⟨PV.Cr h.1,OX h.2⟩
theorem zM{L:Nat->Bool}:∀{l:P2_},XD L l=true->PV.rG L l=true
 |[],_=>rfl
 |v::vs,h=>by simp only[XD,PV.rG,apT]at h ⊢;exact⟨OX h.1,zM h.2⟩
theorem PV.aeT{L:Nat->Bool}{v:PV}(h:v.on L=true):v.onC L=true:=by
 unfold PV.onC;rw[h];cases v.bound 0<;>rfl
theorem Cu{L:Nat->Bool}:∀{l:V_},PV.ons L l=true->UF L l=true
 |[],_=>rfl
 |v::vs,h=>by simp only[UF,PV.ons,apT]at h ⊢;exact⟨PV.aeT h.1,Cu h.2⟩
theorem lx{L:Nat->Bool}:∀{l:P2_},PV.rG L l=true->XD L l=true
 |[],_=>rfl
 |v::vs,h=>by simp only[XD,PV.rG,apT]at h ⊢;exact⟨Cu h.1,lx h.2⟩
def XG(r:Ren):V_->V_
 |[]=>[]
 |v::vs=>v.sa r::XG r vs
def UM(r:Ren):P2_->P2_
 |[]=>[]
 |v::vs=>XG r v::UM r vs
theorem EH(r:Ren):∀l,XG r l=PV.mG r l
 |[]=>rfl
 |v::vs=>by rw[XG,PV.mG,PV.PJ,EH r vs]
theorem HK(r:Ren):∀l,UM r l=PV.mL r l
 |[]=>rfl
 |v::vs=>by rw[UM,PV.mL,EH,HK r vs]
mutual
def PV.beq:PV->PV->Bool
 | .osl a b c d,y=>match y with | .osl i l u w=>arR a i&&(arR b l&&(arR c u&&arR d w))|_=>false
 | .ptr a b c d,y=>match y with | .ptr i l u w=>arR a i&&(arR b l&&(arR c u&&arR d w))|_=>false
 | .map a,y=>match y with | .map i=>arR a i|_=>false
 | .sl s rows,y=>match y with | .sl s' rows'=>arR s s'&&PV.WO rows rows'|_=>false
 | .aU cs,y=>match y with | .aU e=>PV.FZ cs e|_=>false
 | .fn n cs,y=>match y with | .fn x e=>arR n x&&PV.FZ cs e|_=>false
 | .agg cs,y=>match y with | .agg e=>PV.FZ cs e|_=>false
 | .tup cs,y=>match y with | .tup e=>PV.FZ cs e|_=>false
 | .int k n,y=>match y with | .int A x=>decide (k=A)&&decide (n=x)|_=>false
 | .bool b,y=>match y with | .bool l=>decide (b=l)|_=>false
 | .str s,y=>match y with | .str s'=>decide (s=s')|_=>false
 | .aG,y=>match y with | .aG=>true|_=>false
 | .lit _,_=>false
 | .junk,y=>match y with | .junk=>true|_=>false
def PV.FZ:V_->V_->Bool
 |[],y=>match y with|[]=>true|_=>false
 |v::vs,y=>match y with|w::e=>PV.beq v w&&PV.FZ vs e|_=>false
def PV.WO:P2_->P2_->Bool
 |[],y=>match y with|[]=>true|_=>false
 |v::vs,y=>match y with|w::e=>PV.FZ v w&&PV.WO vs e|_=>false
end
mutual
theorem PV.beq_eq:∀v w:PV,PV.beq v w=true->v=w
 | .osl _ _ _ _,w,h=>by cases w<;>simp_all [PV.beq]
 | .ptr _ _ _ _,w,h=>by cases w<;>simp_all [PV.beq]
 | .map _,w,h=>by cases w<;>simp_all [PV.beq]
 | .sl s rows,w,h=>by cases w<;>simp only[PV.beq,apT,arO]at h;rw[PV.be _ _ h.2,Nat.eq_of_beq_eq_true h.1]
 | .aU cs,w,h=>by cases w<;>simp only[PV.beq,arO]at h;rw[PV.AI _ _ h]
 | .fn _ cs,w,h=>by cases w<;>simp only[PV.beq,apT,arO]at h;rw[PV.AI _ _ h.2,Nat.eq_of_beq_eq_true h.1]
 | .agg cs,w,h=>by cases w<;>simp only[PV.beq,arO]at h;rw[PV.AI _ _ h]
 | .tup cs,w,h=>by cases w<;>simp only[PV.beq,arO]at h;rw[PV.AI _ _ h]
 | .int _ _,w,h=>by cases w<;>simp_all [PV.beq]
 | .bool _,w,h=>by cases w<;>simp_all [PV.beq]
 | .str _,w,h=>by cases w<;>simp_all [PV.beq]
 | .aG,w,h=>by cases w<;>simp_all [PV.beq]
 | .lit _,_,h=>by simp[PV.beq]at h
 | .junk,w,h=>by cases w<;>simp_all [PV.beq]
theorem PV.AI:∀v w:V_,PV.FZ v w=true->v=w
 |[],w,h=>by cases w<;>simp_all [PV.FZ]
 |v::vs,w,h=>by cases w<;>simp only[PV.FZ,apT,arO]at h;rw[PV.beq_eq _ _ h.1,PV.AI _ _ h.2]
theorem PV.be:∀v w:P2_,PV.WO v w=true->v=w
 |[],w,h=>by cases w<;>simp_all [PV.WO]
 |v::vs,w,h=>by cases w<;>simp only[PV.WO,apT,arO]at h;rw[PV.AI _ _ h.1,PV.be _ _ h.2]
end
def posOf:N_->Nat->Nat
 |[],_=>0
 |x::xs,i=>if arR x i then 0 else posOf xs i+1
def inL:N_->Nat->Bool
 |[],_=>false
 |x::xs,i=>arR x i||inL xs i
def UB:N_->Bool
 |[]=>true
 |x::xs=>!inL xs x&&UB xs
def atN:N_->Nat->Nat
 |[],_=>0
 |x::_,0=>x
 |_::xs,k+1=>atN xs k
theorem AM:∀{l:N_}{i:Nat},inL l i=true->i∈l
 |x::xs,i,h=>by
  simp only[inL,Bool.or_eq_true]at h;rcases h with h|h
  rw[Nat.eq_of_beq_eq_true h];exact atZ ..;exact atK _ (AM h)
theorem vO:∀{l:N_}{i:Nat},i∈l->inL l i=true
 |x::xs,i,h=>by
  simp only[inL,Bool.or_eq_true];rcases aqG.1 h with h|h
  left;rw[h];simp;right;exact vO h
theorem sL:∀{l:N_}{i:Nat},inL l i=true->atN l (posOf l i)=i/\posOf l i<Z' l
 |x::xs,i,h=>by simp only[inL,Bool.or_eq_true]at h;simp only[posOf];by_cases e:arR x i=true;rw[aE e];exact⟨Nat.eq_of_beq_eq_true e,Nat.zero_lt_succ _⟩;rw[aC e];have:=sL (h.resolve_left e);exact⟨this.1,Nat.succ_lt_succ this.2⟩
theorem sU:∀{l:N_}{k:Nat},k<Z' l->inL l (atN l k)=true
 |x::xs,0,_=>by simp[inL,atN]
 |x::xs,k+1,h=>by simp only[inL,atN,Bool.or_eq_true];exact .inr (sU (Nat.lt_of_succ_lt_succ h))
theorem CN:∀{l:N_}{k:Nat},UB l=true->k<Z' l->posOf l (atN l k)=k
 |x::xs,0,_,_=>by simp[posOf,atN]
 |x::xs,k+1,i,h=>by simp only[UB,apT,Bool.not_eq_true']at i;show(if arR x (atN xs k)=true then 0 else posOf xs (atN xs k)+1)=k+1;have u:=sU (Nat.lt_of_succ_lt_succ h);rw[aC (λe=>by rw[Nat.eq_of_beq_eq_true e,u]at i;cases i.1),CN i.2 (Nat.lt_of_succ_lt_succ h)]
theorem xK{β:Type}(g:Nat->β):∀(l:N_)(k:Nat),(l.map g)[k]?=if k<l.length then some (g (atN l k))else none
 |[],k=>by simp
 |x::xs,0=>by simp[atN]
 |x::xs,k+1=>by rw[aqQ,List.getElem?_cons_succ,xK g xs k];simp only[atN,aqV,Nat.succ_lt_succ_iff,Nat.add_lt_add_iff_right]
def aR.on(L:Nat->Bool):aR->Bool
 | .rows _ rs=>XD L rs
 |_=>true
def aR.rn(r:Ren):aR->aR
 | .rows s rs=>.rows s (UM r rs)
 |x=>x
theorem RT{n:Nat}{sh:MSh}{g:jY}(h:aR.Bd n (.map sh g))(r:Ren):(λk=>(g k).map (PV.ren r))=g:=by
 funext k;cases e:g k with
 |none=>rfl
 |some v=>rw[aqK,PV.oJ (h k v e)]
theorem aR.Qz{L:Nat->Bool}{n:Nat}{r s:Ren}{t:Nat->Nat}(h:∀i,L i=true->r (t i)=s i){x:aR}(hb:x.Bd n)(e:x.on L=true)(pre:P2_):(x.rn (up t)).ren r pre=x.ren s pre:=by
 cases x with
 |rows sz rs=>simp only[aR.rn,aR.ren,<-PV.kR,HK];rw[PV.fq h rs (zM e)]
 |map sh g=>simp only[aR.rn,aR.ren,RT hb]
 |loop=>rfl
 |dead=>rfl
def aR.back(q:Nat->Nat × Nat)(n:Nat):aR->aR
 | .rows s rs=>.rows s (PV.SG q (rs.drop n))
 | .map sh g=>.map sh λk=>(g k).map (PV.back q)
 |x=>x
theorem aR.MP{L:Nat->Bool}{n:Nat}{q:Nat->Nat × Nat}{r:Ren}(h:∀i,L i=true->q (r i).1=(i,(r i).2.length)){x:aR}(hb:x.Bd n)(l:x.on L=true)(pre:P2_):(x.ren r pre).back q pre.length=x:=by
 cases x with
 |rows sz rs =>simp only[aR.back,aR.ren,<-PV.kR];have e:=LL pre (PV.mL r rs) 0;rw[aqA]at e;rw[e,asN,PV.MQ h rs (zM l)]
 |map sh g=>
  simp only[aR.back,aR.ren,RT hb];congr 1;funext k;cases e:g k with
  |none=>rfl
  |some v =>have u:v.on (λ_=>false)=true:=PV.Hu (L:=λi=>decide (i<0)) (λi hi=>by simp at hi) v ((PV.GC v).trans (hb k v e));have:=PV.MP (L:=λ_=>false) (q:=q) (r:=r) (λi hi=>by cases hi) v u;rw[PV.oJ (hb k v e)]at this;rw[aqK,this]
 |loop=>rfl
 |dead=>rfl
theorem aR.Yq{L:Nat->Bool}{n m:Nat}{t:Ren}(h:∀i,L i=true->(t i).1<m){x:aR}(hb:x.Bd n)(e:x.on L=true):(x.rn t).Bd m:=by
 cases x with
 |rows sz rs =>show PV.eM m (UM t rs)=true;rw[HK];exact PV.OZ h rs (zM e)
 |map sh g=>exact hb
 |loop=>trivial
 |dead=>trivial
theorem aR.sf{t:Ren}{x y:aR}(h:(x.rn t).live=some y):x.live=some x/\y=x.rn t:=by
 cases x<;>first|(cases h;done)|(cases h;exact⟨rfl,rfl⟩)
def gtH(h:Hp)(i:Nat):aR:=match h[i]? with
 |some x=>x
 |none=>.dead
theorem NP{h:Hp}{i:Nat}{x:aR}(e:(gtH h i).live=some x):h.ph i=some x/\gtH h i=x:=by
 have e2:=aR.CG e;refine⟨?_,e2⟩;unfold gtH at e;rw[Hp.kY];split at e;rename_i y l;rw[l];exact e;cases e
theorem aeU{h:Hp}{i:Nat}{x:aR}(e:h.ph i=some x):gtH h i=x/\x.live=some x:=by
 have l:=lO e;rw[Hp.kY,l.1]at e;refine⟨?_,e⟩;unfold gtH;rw[l.1]
def qX(h:Hp)(t:Ren)(M:N_):Hp:=M.map λi=>(gtH h i).rn t
def EE(M:N_)(h:Hp):Bool:=UB M&&M.all λi=>(gtH h i).on (inL M)
theorem du{M:N_}{h:Hp}(ok:EE M h=true){i:Nat}(hi:inL M i=true):(gtH h i).on (inL M)=true:=by
 simp only[EE,apT,aqM]at ok;exact ok.2 i (AM hi)
theorem HG{h:Hp}{t:Ren}{M:N_}{k:Nat}{x:aR}(e:Hp.ph (qX h t M) k=some x):k<Z' M/\(gtH h (atN M k)).live=some (gtH h (atN M k))/\x=(gtH h (atN M k)).rn t:=by
 rw[Hp.kY,qX,xK]at e;split at e;rename_i i;exact⟨i,aR.sf e⟩;cases e
section
variable {r:Ren} {f:Fr} {h:Hp} {F:PF} {H:PH}
theorem CC(R:Rl r f h F H)(i:Nat):(gtH h i).Bd h.length:=by
 unfold gtH;split;rename_i x e;exact R.hb x (asC e);trivial
theorem Rl.cut(R:Rl r f h F H){M:N_}(ok:EE M h=true):Rl (λk=>r (atN M k)) .nil (qX h (up (posOf M)) M) n_ H:=by
 have A:(qX h (up (posOf M)) M).length=Z' M:=by simp[qX]
 refine⟨rfl,λk x u=>?_,λk l x y u N e=>?_,λi v K=>by simp[Fr.pf]at K,λx u=>?_,λk x u=>?_⟩;obtain⟨B,w,rfl⟩:=HG u;have D:=NP w;rw[aR.Qz (L:=inL M) (s:=r) (t:=posOf M) (λi hi=>by rw[(sL hi).1]) (CC R _) (du ok (sU B))];exact R.hp _ _ D.1;obtain⟨B,w,-⟩:=HG u;obtain⟨J,D,-⟩:=HG N;have E:=R.inj _ _ _ _ (NP w).1 (NP D).1 e;simp only[EE,apT]at ok;rw[<-CN ok.1 B,E,CN ok.1 J];rw[A];obtain⟨i,hi,rfl⟩:=aqJ.1 u;exact aR.Yq (L:=inL M) (t:=up (posOf M)) (λi hi=>(sL hi).2) (CC R _) (du ok (vO hi));obtain⟨B,w,-⟩:=HG u;exact R.pc _ _ (NP w).1
theorem xP(H:PH)(D:N_)(o:Nat):(H.only D) o=if o∈D then H o else none:=rfl
theorem Rl.only(R:Rl r f h F H){D:N_}(l:∀i x,h.ph i=some x->(r i).1∈D):Rl r f h F (H.only D):=by
 refine⟨R.fr,λi x e=>?_,R.inj,R.fb,R.hb,R.pc⟩;rw[xP,aE (l i x e)];exact R.hp i x e
end
def reach(h:Hp):Nat->N_->N_->N_
 |0,_,seen=>seen
 |_+1,[],seen=>seen
 |n+1,i::e,seen=>if inL seen i then reach h n e seen else match gtH h i with
  | .rows _ rs=>reach h n (Bf rs e) (i::seen)
  | .map _ _=>reach h n e (i::seen)
  |_=>reach h n e seen
def wN:Nat->N_->N_
 |0,l=>l
 |n+1,l=>wN n (n::l)
theorem In:∀(n:Nat)(l:N_)(k:Nat),atN (wN n l) k=if k<n then k else atN l (k-n)
 |0,l,k=>by simp[wN]
 |n+1,l,k=>by
  rw[wN,In n (n::l) k];rcases Nat.lt_trichotomy k n with h|h|h
  rw[aE h,aE Om];subst h;rw[aC (Nat.lt_irrefl _),aE Om,asA];rfl;rw[aC Om,aC Om];obtain⟨d,e⟩:∃d,k-n=d+1:=⟨k-n-1,by omega⟩;rw[e,show k-(n+1)=d by omega];rfl
theorem Ea:∀(n:Nat)(l:N_),(wN n l).length=n+Z' l
 |0,l=>by simp[wN]
 |n+1,l=>by rw[wN,Ea n];simp;omega
def ln:Hp->N_->N_
 |[],l=>l
 |x::xs,l=>match x with
  | .rows _ rs=>Bf rs (ln xs l)
  |_=>ln xs l
def trim(n:Nat)(v:PV)(h:Hp):Option (PV × Hp):=
 if arR n h.length then some (v,h)else
 let M:=wN n ((reach h 1000 (PV.Um v (ln (h.take n) [])) []).filter λi=>Nat.ble n i)
 if EE M h&&v.onC (inL M)then some (v.sa (up (posOf M)),qX h (up (posOf M)) M)else none
noncomputable def XO(call:gI):gI:=λname vs h=>match call name vs h with
 |some (v,e)=>trim h.length v e
 |none=>none
theorem Mo{r:Ren}{n:Nat}{v v':PV}{h w:Hp}{y:PV}{H:PH}(e:trim n v h=some (v',w))(x:Comes r n v h y H):Comes r n v' w y H:=by
 unfold trim at e;split at e;cases e;exact x;simp only at e;generalize(reach h 1000 (PV.Um v (ln (h.take n) [])) []).filter (λi=>Nat.ble n i)=N at e;split at e;rename_i l;simp only[apT]at l;replace l:=And.intro l.1 (PV.Cr l.2);rw[PV.PJ]at e;cases e;obtain⟨r',A,R,rfl,hb,B⟩:=x;have u:(qX h (up (posOf (wN n N))) (wN n N)).length=(wN n N).length:=by simp[qX]
 refine⟨λk=>r' (atN (wN n N) k),λi hi=>?_,R.cut l.1,(PV.Db (L:=inL (wN n N)) (s:=r') (t:=posOf (wN n N)) (λi hi=>by rw[(sL hi).1]) _ l.2).symm,?_,?_⟩;show r i=r' (atN (wN n N) i);rw[In,aE hi];exact A i hi;rw[u];exact PV.dw (t:=up (posOf (wN n N))) (λi hi=>(sL hi).2) _ l.2;rw[u,Ea];omega;cases e
variable{C:Ctx}
theorem aJ.yb{name:Nat}{vs:V_}{H:PH}{R i:R_}(h:aJ C name vs H R)(B:∀l H',R l H'->i l H'):aJ C name vs H i:=by
 refine⟨h.1,λE w D A hW e=>(h.2 E w D A hW e).mono λJ K he=>?_⟩;obtain⟨u,pv,x,H',g1,g2,g3,g4,y⟩:=he;exact⟨u,pv,x,H',g1,g2,g3,g4,B _ _ y⟩
theorem W8{call:gI}(l:pT C call):pT C (XO call):=by
 intro name vs h v x e r H R X hb;unfold XO at e;split at e;rename_i w g i;exact(l name vs h w g i r H R X hb).yb λy H' u=>Mo e u;cases e
def aR.wZ:aR->Bool
 | .rows _ _=>true
 | .map _ _=>true
 |_=>false
theorem OB{x:aR}(h:x.wZ=true):x.live=some x:=by
 cases x<;>first|rfl|cases h
def okM(M:N_)(h:Hp):Bool:=EE M h&&M.all λi=>(gtH h i).wZ
def wF(r:Ren)(M:N_):N_:=M.map λi=>(r i).1
def bk(M:N_)(n:Nat)(j:Nat):Nat:=if Nat.blt j M.length then atN M j else n+(j-Z' M)
def CY(M:N_)(h2:Hp)(t:Ren):Nat->Hp->Hp
 |_,[]=>[]
 |i,x::xs=>(if inL M i then(gtH h2 (posOf M i)).rn t else x)::CY M h2 t (i+1) xs
def sY(M:N_)(h h2:Hp):Hp:=(match M with|[]=>h|_=>CY M h2 (up (bk M h.length)) 0 h)++(h2.drop M.length).map (aR.rn (up (bk M h.length)))
theorem Hd(M:N_)(h2:Hp)(t:Ren):∀(h:Hp)(i k:Nat),(CY M h2 t i h)[k]?=(h[k]?).map λx=>if inL M (i+k)then(gtH h2 (posOf M (i+k))).rn t else x
 |[],i,k=>by simp[CY]
 |x::xs,i,0=>by simp[CY]
 |x::xs,i,k+1=>by simp only[CY,List.getElem?_cons_succ];rw[Hd M h2 t xs (i+1) k,show i+1+k=i+(k+1) by omega]
theorem Bq(h2:Hp)(t:Ren):∀(h:Hp)(i:Nat),CY [] h2 t i h=h
 |[],i=>rfl
 |x::xs,i=>by simp[CY,inL,Bq h2 t xs]
theorem GW(M:N_)(h2:Hp)(t:Ren):∀(h:Hp)(i:Nat),(CY M h2 t i h).length=Z' h
 |[],i=>rfl
 |x::xs,i=>by simp[CY,GW M h2 t xs]
theorem Cb(M:N_)(h h2:Hp):sY M h h2=CY M h2 (up (bk M h.length)) 0 h++(h2.drop M.length).map (aR.rn (up (bk M h.length))):=by
 unfold sY;split;rw[Bq];rfl
theorem IS(M:N_)(h h2:Hp):(sY M h h2).length=Z' h+(Z' h2-Z' M):=by
 rw[Cb];simp[GW]
theorem Zy(t:Ren)(l:Hp)(k:Nat):gtH (l.map (aR.rn t)) k=(gtH l k).rn t:=by
 unfold gtH;rw[aqE];cases l[k]?<;>rfl
theorem Uf(l:Hp)(m k:Nat):gtH (l.drop m) k=gtH l (m+k):=by
 unfold gtH;rw[atI]
theorem cw(M:N_)(h h2:Hp)(k:Nat):gtH (sY M h h2) k=if k<h.length then(if inL M k then(gtH h2 (posOf M k)).rn (up (bk M h.length))else gtH h k)else(gtH h2 (Z' M+(k-Z' h))).rn (up (bk M h.length)):=by
 rw[Cb];by_cases e:k<Z' h;rw[aE e];unfold gtH;rw[asE (by rw[GW];exact e),Hd,aqA];rw[apZ e,aqK];by_cases i:inL M k=true;simp only[aE i];rfl;simp only[aC i];rw[aC e];have:gtH (CY M h2 (up (bk M h.length)) 0 h++(h2.drop M.length).map (aR.rn (up (bk M h.length)))) k=gtH ((h2.drop M.length).map (aR.rn (up (bk M h.length)))) (k-Z' h):=by unfold gtH;rw[arS (by rw[GW];omega),GW]
 rw[this,Zy,Uf]
theorem aR.Ye{n:Nat}{x:aR}(h:x.Bd n):x.on (λi=>decide (i<n))=true:=by
 cases x with
 |rows s rs=>exact lx ((PV.MR rs).trans h)
 |map=>rfl
 |loop=>rfl
 |dead=>rfl
theorem tQ(h:Hp)(k:Nat):h.ph k=(gtH h k).live:=by
 unfold gtH;rw[Hp.kY];cases h[k]?<;>rfl
theorem aaK{h:Hp}{x:aR}(l:x∈h):∃k,k<Z' h/\gtH h k=x:=by
 obtain⟨k,i,e⟩:=arF l;exact⟨k,i,by unfold gtH;rw[apZ i,<-e]⟩
section
variable {r:Ren} {f:Fr} {h h2:Hp} {F:PF} {H H':PH} {v rv:PV} {M:N_}
theorem sK(ok:okM M h=true){i:Nat}(hi:inL M i=true):h.ph i=some (gtH h i):=by
 simp only[okM,apT,aqM]at ok;rw[tQ];exact OB (ok.2 i (AM hi))
theorem P9(ok:okM M h=true){i:Nat}(hi:inL M i=true):i<Z' h:=(lO (sK ok hi)).2
theorem Ca(R:Rl r f h F H)(ok:okM M h=true)(hc:Comes (λk=>r (atN M k)) M.length v h2 rv H')(ap:qS H (H.only (wF r M)) H') :
  ∃r',gV h.length r r'/\Z' h<=(sY M h h2).length/\Rl r' f (sY M h h2) F (H.over (H.only (wF r M)) H')/\rv=(v.ren (up (bk M h.length))).ren r'/\(v.ren (up (bk M h.length))).bound (sY M h h2).length=true:=by
 obtain⟨r2,γ,J,rfl,V,ε⟩:=hc;have S:gV h.length r (λi=>if i<h.length then r i else r2 (Z' M+(i-Z' h))):=λi hi=>by
  show r i=if i<h.length then r i else _
  rw[aE hi]
 generalize δ:(λi=>if i<h.length then r i else r2 (Z' M+(i-Z' h)))=r' at S;have X:∀i,Z' h<=i->r' i=r2 (Z' M+(i-Z' h)):=λi hi=>by rw[<-δ];exact aC Om
 have O:∀j,r' (bk M h.length j)=r2 j:=λj=>by unfold bk;by_cases Y:j<Z' M;rw[aE (by simpa[Nat.blt_eq]using Y),<-S _ (P9 ok (sU Y)),<-γ j Y];rw[aC (by simpa[Nat.blt_eq]using Y),X _ Om];congr 1;omega
 have W:∀j,j<Z' h2->bk M h.length j<Z' h+(Z' h2-Z' M):=λj Y=>by unfold bk;by_cases N:j<Z' M;rw[aE (by simpa[Nat.blt_eq]using N)];have:=P9 ok (sU N);omega;rw[aC (by simpa[Nat.blt_eq]using N)];omega
 have β:∀j pre,((gtH h2 j).rn (up (bk M h.length))).ren r' pre=(gtH h2 j).ren r2 pre:=λj pre=>
  aR.Qz (L:=λi=>decide (i<Z' h2)) (λi _=>O i) (CC J j) (aR.Ye (CC J j)) pre
 have K:∀j,((gtH h2 j).rn (up (bk M h.length))).Bd (Z' h+(Z' h2-Z' M)):=λj=>
  aR.Yq (L:=λi=>decide (i<Z' h2)) (t:=up (bk M h.length)) (λi hi=>W i (by simpa using hi)) (CC J j) (aR.Ye (CC J j))
 have u:∀k x,Hp.ph (sY M h h2) k=some x->(h.ph k=some x/\r' k=r k/\H' (r k).1=none/\(H.only (wF r M)) (r k).1=none) \/
   ∃j,h2.ph j=some (gtH h2 j)/\x=(gtH h2 j).rn (up (bk M h.length))/\r' k=r2 j/\k=bk M h.length j:=by
  intro k x A;rw[tQ,cw]at A;by_cases hk:k<Z' h;rw[aE hk]at A;by_cases hm:inL M k=true;rw[aE hm]at A;obtain⟨B,rfl⟩:=aR.sf A;have hp:=sL hm;have Z:k=bk M h.length (posOf M k):=by unfold bk;rw[aE (by simpa[Nat.blt_eq]using hp.2),hp.1]
  refine .inr ⟨posOf M k,by rw[tQ];exact B,rfl,?_,Z⟩;exact(congrArg r' Z).trans (O (posOf M k))
  ·rw[aC hm,<-tQ]at A;have α:(r k).1 ∉ wF r M:=λhc=>by obtain⟨i,hi,e⟩:=aqJ.1 hc;have:=R.inj i k _ _ (sK ok (vO hi)) A e;subst this;exact hm (vO hi)
   have ho:(H.only (wF r M)) (r k).1=none:=by rw[xP,aC α]
   refine .inl ⟨A,(S k hk).symm,?_,ho⟩;cases e:H' (r k).1 with
   |none=>rfl
   |some y =>have:=ap _ y e ho;rw[R.hp k x A]at this;cases this
  rw[aC hk]at A;obtain⟨B,rfl⟩:=aR.sf A;refine .inr ⟨Z' M+(k-Z' h),by rw[tQ];exact B,rfl,X k Om,?_⟩;unfold bk;rw[aC (by simp[Nat.blt_eq])];omega
 refine⟨r',S,by rw[IS];omega,⟨?_,λk x A=>?_,λk l x y A hy e=>?_,λi w hw=>?_,λx A=>?_,λk x A=>?_⟩,(PV.Db (L:=λi=>decide (i<Z' h2)) (λi _=>O i) v ((PV.GC v).trans V)).symm,?_⟩;rw[R.fr];exact PF.oR S R.fb;rcases u k x A with⟨B,D,E,U⟩|⟨j,B,rfl,E,-⟩
 rw[D];have this:=R.hp k x B;rw[aR.oR S (R.hb x (asC (lO B).1))]at this;simp only[PH.over,E,U,this];rw[E,β j];simp only[PH.over,J.hp j _ B];rcases u k x A with⟨B,D,E,U⟩|⟨j,B,rfl,E,U⟩<;>rcases u l y hy with⟨g1,g2,g3,g4⟩|⟨j',g1,rfl,g3,g4⟩
 rw[D,g2]at e;exact R.inj k l _ _ B g1 e;rw[D,g3]at e;rw[e,J.hp j' _ g1]at E;cases E;rw[E,g2]at e;rw[<-e,J.hp j _ B]at g3;cases g3;rw[E,g3]at e;rw[U,g4,J.inj j j' _ _ B g1 e];rw[IS];exact PV.vF (Nat.le_add_right _ _) w (R.fb i w hw);rw[IS];obtain⟨k,hk,rfl⟩:=aaK A;rw[cw];split;split;exact K _;exact(CC R k).mono (Nat.le_add_right _ _);exact K _;rcases u k x A with⟨B,D,E,U⟩|⟨j,B,rfl,E,-⟩
 rw[D];exact R.pc k x B;rw[E];exact J.pc j _ B;rw[IS];exact PV.dw (t:=up (bk M h.length)) (λi hi=>W i (by simpa using hi)) v ((PV.GC v).trans V)
theorem kh {C : Ctx} {call : gI} (hC : pT C call) {name : Nat} {vs : V_} (R : Rl r f h F H) (ok : okM M h = true) (hv : PV.ons (inL M) vs = true)
    (e : call name (PV.mG (up (posOf M)) vs) (qX h (up (posOf M)) M) = some (v, h2)) : aJ C name (vs.map (PV.ren r)) (H.only (wF r M)) (Comes (fun k => r (atN M k)) M.length v h2) := by
  have oks : EE M h = true := by simp only [okM, apT] at ok; exact ok.1
  have hlen : (qX h (up (posOf M)) M).length = M.length := by simp [qX]
  have h1 := hC name _ _ v h2 e (fun k => r (atN M k)) (H.only (wF r M))
    ((R.cut oks).only fun k x hx => List.mem_map_of_mem (AM (sU (HG hx).1))) (fun o x hx => by
      rw [xP] at hx;split at hx
      · rename_i hm
        obtain ⟨i, hi, rfl⟩ := aqJ.1 hm;have hp := sL (vO hi);have hl := sK ok (vO hi);rw [tQ] at hl;refine ⟨posOf M i, (gtH h i).rn (up (posOf M)), ?_, by show (r (atN M (posOf M i))).1 = (r i).1; rw [hp.1]⟩;rw [Hp.kY, qX, xK, aE hp.2, hp.1];show aR.live _ = _;generalize gtH h i = y at hl ⊢;cases y <;> first | rfl | cases hl
      · cases hx) (by rw [hlen]; exact PV.uN (t := up (posOf M)) (fun i hi => (sL hi).2) vs hv)
  rw [hlen] at h1;rw [<- PV.gC, PV.AR (L := inL M) (s := r) (t := posOf M) (fun i hi => by show r (atN M (posOf M i)) = r i; rw [(sL hi).1]) vs hv] at h1;rw [<- PV.gC];exact h1
end
noncomputable def Yg(call:gI)(M:N_)(name:Nat)(vs:V_)(h:Hp):Option (PV × Hp):=
 if okM M h&&UF (inL M) vs then match call name (XG (up (posOf M)) vs) (qX h (up (posOf M)) M)with
  |some (v,h2)=>some (v.sa (up (bk M h.length)),sY M h h2)
  |none=>none
 else none
noncomputable def hand(call:gI):gI:=λname vs h=>Yg call (reach h 1000 (vM vs []) []) name vs h
theorem Z8{call:gI}(B:pT C call):ip C (hand call):=by
 intro name vs h v N e r f F H d K R hb E;unfold hand Yg at e;generalize reach h 1000 (vM vs []) []=M at e;split at e;rename_i i;simp only[apT]at i;rw[EH]at e;split at e;rename_i w h2 e2;rw[PV.PJ]at e;cases e;refine⟨_,H.only (wF r M),_,rfl,λo x l=>?_,kh B R i.1 (OX i.2) e2,λrv H' L A=>?_⟩;rw[xP]at l;split at l;exact l;cases l;obtain⟨r',D,J,y,rfl,u⟩:=Ca R i.1 L A;exact E r' _ D J y u;cases e;cases e
theorem wO{n:Nat}:∀{l:P2_},PV.eM n l=true↔∀x∈l,PV.bounds n x=true
 |[]=>by simp[PV.eM]
 |x::xs=>by simp[PV.eM,wO (l:=xs)]
theorem sB{n:Nat}:∀{l:V_},PV.bounds n l=true↔∀x∈l,x.bound n=true
 |[]=>by simp[PV.bounds]
 |x::xs=>by simp[PV.bounds,sB (l:=xs)]
theorem XF{L:Nat->Bool}:∀{l:V_},PV.ons L l=true↔∀x∈l,x.on L=true
 |[]=>by simp[PV.ons]
 |x::xs=>by simp[PV.ons,XF (l:=xs)]
theorem Cv{L:Nat->Bool}:∀{l:P2_},PV.rG L l=true↔∀x∈l,PV.ons L x=true
 |[]=>by simp[PV.rG]
 |x::xs=>by simp[PV.rG,Cv (l:=xs)]
section
variable {L:Nat->Bool} {r:Ren} {o s n:Nat} {rs pre:P2_}
theorem NM(hp:(r o).2.length=Z' pre)(hi:∀q,L q=true->(r q).1=(r o).1->q=o)(v:PV)(i:v.on L=true):(v.cZ o s rs).ren r=(v.ren r).cZ (r o).1 s (pre++rs.map λx=>x.map (PV.ren r)):=by
 cases v with
 |osl q s' off len =>simp only[PV.on]at i;simp only[PV.cZ,PV.ren];by_cases e:q=o;subst e;rw[aE rfl,aE rfl,hp,LL];simp only[apP,apV];by_cases c:s'=s/\off+len<=Z' rs;rw[aE c,aE ⟨c.1,by omega⟩];simp only[PV.ren,PV.kR,List.map_take,List.map_drop];rw[aC c,aC (λh=>c ⟨h.1,by omega⟩)];rfl;rw[aC e,aC (λh=>e (hi q i h))];rfl
 |_=>rfl
theorem A4(hp:(r o).2.length=Z' pre)(hi:∀q,L q=true->(r q).1=(r o).1->q=o)(v:PV)(e:v.on L=true):(v.nF o s rs).ren r=(v.ren r).nF (r o).1 s (pre++rs.map λx=>x.map (PV.ren r)):=by
 cases v with
 |agg cs =>simp only[PV.on]at e;simp only[PV.nF,PV.ren,PV.gC,asR];congr 1;exact arQ λx i=>NM hp hi x (XF.1 e x i)
 |osl q s' off len=>exact NM hp hi _ e
 |_=>rfl
theorem Zp(hp:(r o).2.length=Z' pre)(hi:∀q,L q=true->(r q).1=(r o).1->q=o)(v:PV)(e:v.on L=true):(v.frz o s rs).ren r=(v.ren r).frz (r o).1 s (pre++rs.map λx=>x.map (PV.ren r)):=by
 cases v with
 |tup cs =>simp only[PV.on]at e;simp only[PV.frz,PV.ren,PV.gC,asR];congr 1;exact arQ λx i=>A4 hp hi x (XF.1 e x i)
 |agg cs=>exact A4 hp hi _ e
 |osl q s' off len=>exact NM hp hi _ e
 |_=>rfl
theorem DP(i:PV.eM n rs=true)(v:PV)(e:v.bound n=true):(v.cZ o s rs).bound n=true:=by
 cases v with
 |osl q s' off len =>simp only[PV.cZ];split;split;simp only[PV.bound];exact wO.2 λx l=>wO.1 i x (List.mem_of_mem_drop (auA l));rfl;exact e
 |_=>exact e
theorem j1(i:PV.eM n rs=true)(v:PV)(e:v.bound n=true):(v.nF o s rs).bound n=true:=by
 cases v with
 |agg cs =>simp only[PV.bound]at e;simp only[PV.nF,PV.bound];refine sB.2 λx l=>?_;obtain⟨y,u,rfl⟩:=aqJ.1 l;exact DP i y (sB.1 e y u)
 |osl q s' off len=>exact DP i _ e
 |_=>exact e
theorem O8(i:PV.eM n rs=true)(v:PV)(e:v.bound n=true):(v.frz o s rs).bound n=true:=by
 cases v with
 |tup cs =>simp only[PV.bound]at e;simp only[PV.frz,PV.bound];refine sB.2 λx l=>?_;obtain⟨y,u,rfl⟩:=aqJ.1 l;exact j1 i y (sB.1 e y u)
 |agg cs=>exact j1 i _ e
 |osl q s' off len=>exact DP i _ e
 |_=>exact e
theorem E6{q:Nat}{ts:P2_}{v:PV}(h:v.bound 0=true):v.cZ q s ts=v:=by
 cases v<;>first|rfl|simp[PV.bound]at h
theorem j4{q:Nat}{ts:P2_}:∀{l:P2_},PV.eM 0 l=true->(l.map λc=>c.map (PV.cZ q s ts))=l
 |[],_=>rfl
 |x::l,h=>by
  simp only[PV.eM,apT]at h;have i:x.map (PV.cZ q s ts)=x:=by
   have e:=h.1;clear h
   induction x with
   |nil=>rfl
   |cons v x u =>simp only[PV.bounds,apT]at e;rw[aqQ,E6 e.1,u e.2]
  rw[aqQ,i,j4 h.2]
theorem Lf(hp:(r o).2.length=Z' pre)(hi:∀q,L q=true->(r q).1=(r o).1->q=o)(x:aR)(u:x.on L=true)(e:P2_)(i:PV.eM 0 e=true):(x.frz o s rs).ren r e=(x.ren r e).frz (r o).1 s (pre++rs.map λx=>x.map (PV.ren r)):=by
 cases x with
 |rows s' rs' =>simp only[aR.on]at u;simp only[aR.frz,aR.ren,asR,aqP,j4 i];congr 2;refine arQ λrow w=>?_;simp only[Function.comp,asR];exact arQ λx l=>NM hp hi x (XF.1 (Cv.1 (zM u) row w) x l)
 |_=>rfl
theorem P6(B:PV.eM n rs=true)(x:aR)(l:x.Bd n):(x.frz o s rs).Bd n:=by
 cases x with
 |rows s' rs' =>refine wO.2 λrow e=>?_;obtain⟨i,w,rfl⟩:=aqJ.1 e;refine sB.2 λy D=>?_;obtain⟨u,A,rfl⟩:=aqJ.1 D;exact DP B u (sB.1 (wO.1 l i w) u A)
 |_=>exact l
end
def LP(L:Nat->Bool)(o s:Nat)(rs:P2_)(x:aR):aR:=if x.on L then x.frz o s rs else .dead
def rE(p:PV × Hp)(o:Nat):PV × Hp:=match gtH p.2 o with
 | .rows s rs=>if PV.eM 0 rs&&p.1.onC (λi=>(gtH p.2 i).wZ)then(p.1.frz o s rs,(p.2.map (LP (λi=>(gtH p.2 i).wZ) o s rs)).set o .dead)else p
 |_=>p
mutual
def PV.K0:PV->N_->N_
 | .osl o _ _ _,l=>o::l
 | .ptr _ _ _ _,l=>l
 | .map _,l=>l
 | .sl _ _,l=>l
 | .aU _,l=>l
 | .fn _ _,l=>l
 | .agg cs,l=>PV.x8 cs l
 | .tup cs,l=>PV.x8 cs l
 | .int _ _,l=>l
 | .bool _,l=>l
 | .str _,l=>l
 | .aG,l=>l
 | .lit _,l=>l
 | .junk,l=>l
def PV.x8:V_->N_->N_
 |[],l=>l
 |v::vs,l=>PV.K0 v (PV.x8 vs l)
end
def Hf:P2_->N_->N_
 |[],l=>l
 |r::rs,l=>PV.x8 r (Hf rs l)
def j3(h:Hp)(n:Nat):Nat->N_->N_
 |0,l=>l
 |d+1,l=>match(l.filter λi=>Nat.ble n i).foldr (λi e=>match gtH h i with | .rows _ rs=>Hf rs e|_=>e) []with
  |[]=>l
  |l'=>j3 h n d l'++l
def O5(n:Nat)(v:PV)(h:Hp):PV × Hp:=((j3 h n 6 (PV.K0 v [])).filter λi=>Nat.ble n i).foldl rE (v,h)
section
variable {r:Ren} {H:PH}
theorem Ug(g:aR->aR)(e:g .dead=.dead)(l:Hp)(k:Nat):gtH (l.map g) k=g (gtH l k):=by
 unfold gtH;rw[aqE];cases l[k]? with
 |none=>exact e.symm
 |some x=>rfl
theorem Pt{x:aR}{L:Nat->Bool}{o s:Nat}{rs:P2_}{y:aR}(h:(LP L o s rs x).live=some y):x.on L=true/\x.live=some x/\y=x.frz o s rs:=by
 unfold LP at h;split at h;rename_i e;refine⟨e,?_,(aR.CG h).symm⟩;cases x<;>first|rfl|cases h
 cases h
theorem O6{p:PV × Hp}(o:Nat)(R:Rl r .nil p.2 n_ H)(hb:p.1.bound p.2.length=true) :
  ∃K M,(∀F H2,jJ K M F H2->jJ (n_.set 0 (p.1.ren r)) H F H2)/\K=n_.set 0 ((rE p o).1.ren r)/\Rl r .nil (rE p o).2 n_ M/\(rE p o).1.bound (rE p o).2.length=true/\(rE p o).2.length=p.2.length:=by
 obtain⟨v,h⟩:=p;simp only at R hb;have A:∃K M,(∀F H2,jJ K M F H2->jJ (n_.set 0 (v.ren r)) H F H2)/\K=n_.set 0 (v.ren r)/\Rl r .nil h n_ M/\v.bound h.length=true/\Z' h=Z' h:=⟨_,H,λ_ _ h=>h,rfl,R,hb,rfl⟩;unfold rE;simp only;split;rename_i s rs Y;split;rename_i J;simp only[apT]at J;replace J:=And.intro J.1 (PV.Cr J.2);have B:h.ph o=some (.rows s rs):=by rw[tQ,Y];rfl
 have O:=(lO B).2;obtain⟨pre,hp,-,S⟩:=R.hp.ex B;simp only[aR.ren]at S;have hi:∀q,(gtH h q).wZ=true->(r q).1=(r o).1->q=o:=λq hq e=>by
  have h1:h.ph q=some (gtH h q):=by rw[tQ];exact OB hq
  exact R.inj _ _ _ _ h1 B e
 have N:PV.eM h.length rs=true:=PV.yV (apR _) _ J.1;have D:((h.map (LP (λi=>(gtH h i).wZ) o s rs)).set o .dead).length=Z' h:=by simp
 have l:∀i x,Hp.ph ((h.map (LP (λi=>(gtH h i).wZ) o s rs)).set o .dead) i=some x->i≠o/\h.ph i=some (gtH h i)/\(gtH h i).on (λi=>(gtH h i).wZ)=true/\x=(gtH h i).frz o s rs:=λi x u=>by rw[Hp.HF (by simpa using O)]at u;split at u;cases u;rename_i E;rw[tQ,Ug _ (by rfl)]at u;obtain⟨h1,U,W⟩:=Pt u;exact⟨E,by rw[tQ];exact U,h1,W⟩
 refine⟨_,H.frz (r o).1 s (pre++rs.map λx=>x.map (PV.ren r)),λF H2 Z=>.step (r o).1 S Z,?_,⟨rfl,λi x u=>?_,λi j x y u V e=>?_,λi w hw=>by simp[Fr.pf]at hw,λx u=>?_,λi x u=>?_⟩,?_,D⟩;funext i;simp only[PF.frz,PF.set,upd];split;rw[aqK,Zp (L:=λi=>(gtH h i).wZ) hp hi v J.2];rfl;obtain⟨E,h1,U,rfl⟩:=l i x u;have X:=R.hp i _ h1;show(if(r i).1=(r o).1 then none else(H (r i).1).map (aR.frz (r o).1 s _))=_;rw[aC (λe=>E (R.inj _ _ _ _ h1 B e)),X,aqK,Lf (L:=λi=>(gtH h i).wZ) hp hi _ U _ (R.pc i _ h1)];exact R.inj _ _ _ _ (l i x u).2.1 (l j y V).2.1 e;rw[D];rcases auB u with h1|h1
 obtain⟨y,V,rfl⟩:=aqJ.1 h1;unfold LP;split;exact P6 N y (R.hb y V);trivial;subst h1;trivial;exact R.pc i _ (l i x u).2.1;rw[D];exact O8 N v hb;exact A;exact A
theorem j2:∀(l:N_){p:PV × Hp}{H:PH},Rl r .nil p.2 n_ H->p.1.bound p.2.length=true ->
  ∃e,jJ (n_.set 0 (p.1.ren r)) H (n_.set 0 ((l.foldl rE p).1.ren r)) e/\Rl r .nil (l.foldl rE p).2 n_ e/\(l.foldl rE p).1.bound (l.foldl rE p).2.length=true/\(l.foldl rE p).2.length=p.2.length
 |[],p,H,R,hb=>⟨H,.refl _ _,R,hb,rfl⟩
 |o::l,p,H,R,hb=>by obtain⟨E,e,D,rfl,w,i,u⟩:=O6 o R hb;obtain⟨H2,x,y,A,B⟩:=j2 l w i;exact⟨H2,D _ _ x,y,A,B.trans u⟩
end
end Go.PM
namespace Go.PM
open Go
def WL(C:Ctx)(k:Nat)(pf:kT):Prop:=∀(args:V_)(H:PH)(R:R_),Z' args<=pf.ntmps->pf.body.wp C (aW pf.res R) (PF.args args) H->aJ C k args H R
theorem Fr.Dv{l:V_}{f:Fr}(h:Fr.args l 0 (Fr.empty 9)=some f):f.pf=PF.args l:=by
 rw[Fr.Gs h];funext i;simp only[Nat.not_lt_zero,if_false,Nat.sub_zero,Fr.Aq,PF.args];cases l[i]?<;>rfl
theorem S7(r:Ren)(l:V_):PF.args (l.map (PV.ren r))=(PF.args l).ren r:=by
 funext i;simp only[PF.args,PF.ren,aqE]
abbrev Orc:=Nat->V_->Option PV
def I2(C:Ctx)(e:Orc):Prop:=∀name vs v,e name vs=some v->aJ C name vs PH.nil (λi _=>i=v)
noncomputable def rM(tab:Nat->Option kT)(e:Orc)(fz:Nat->Bool)(l:gI->KZ)(m:Nat):Nat->gI
 |0=>λ_ _ _=>none
 |n+1=>λname args h=>match e name args with
  |some v=>if v.bound 0&&h.isEmpty then some (v,h)else none
  |none=>match tab name with
  |some pf=>if args.length<=pf.ntmps then match Fr.args args 0 (Fr.empty 9)with
    |none=>none
    |some f=>match rL (hand (XO (rM tab e fz l m n))) (l (XO (rM tab e fz l m n))) m pf.body f h with
    |some (.exit _,_,_)=>none
    |some (_,u,i)=>match dY.evs u.pf i.ph pf.res with
     |some vs=>if(bO vs).BU i.length then some (if fz name then O5 h.length (bO vs) i else(bO vs,i))else none
     |none=>none
    |none=>none
   else none
  |none=>none
section
variable {C:Ctx} {r:Ren} {f:Fr} {h:Hp} {F:PF} {H:PH}
theorem V1{h:PH}(x:JU r h H){F:PF}{q:dY}{v:PV}(e:q.ev F h=some v):q.ev (F.ren r) H=some (v.ren r):=by
 cases q with
 |tmp t=>simp only[dY.ev]at e ⊢;simp only[PF.ren,e,aqK]
 |cell t n=>
  cases n with
  |none =>simp only[dY.ev]at e ⊢;split at e;rename_i p l;simp only[PF.ren,l,aqK];split at e;rename_i w i;have u:=xA x i;simp only[aqQ,arL]at u;simp only[u];cases e;rfl;cases e;cases e
  |some k=>
   simp only[dY.ev]at e ⊢;split at e
   ·rename_i p l;simp only[PF.ren,l,aqK];cases i:loadCells h p k with
    |none=>rw[i]at e;cases e
    |some w =>rw[i]at e;rw[xA x i];cases e;simp only[aqK,PV.ren,PV.gC]
   cases e
theorem u9{h:PH}(i:JU r h H){F:PF}:∀{l:List dY}{vs:V_},dY.evs F h l=some vs->dY.evs (F.ren r) H l=some (vs.map (PV.ren r))
 |[],_,e=>by cases e;rfl
 |q::l,vs,e=>by simp only[dY.evs]at e ⊢;split at e;rename_i v x u w;cases e;rw[V1 i u,u9 i w];rfl;cases e
theorem Fm(vs:V_):bO (vs.map (PV.ren r))=(bO vs).ren r:=by
 unfold bO
 match vs with
 |[]=>rfl
 |[v]=>rfl
 |a::b::l=>simp only[aqQ,PV.ren,PV.gC]
theorem Ig{tab:Nat->Option kT}{E:Orc}{fz:Nat->Bool}{M:gI->KZ}(hO:I2 C E)(hT:∀k pf,tab k=some pf->WL C k pf)(hD:∀call,pT C call->zb C (M call))(m:Nat):∀n,pT C (rM tab E fz M m n)
 |0=>λname vs h v O e=>by cases e
 |n+1=>λname vs h v O e r H R X hb=>by
  have ih:=W8 (Ig (fz:=fz) hO hT hD m n);simp only[rM]at e;split at e;rename_i w W;split at e;rename_i S;simp only[apT,List.isEmpty_iff]at S;obtain⟨S,rfl⟩:=S;cases e;have hH:H=PH.nil:=PH.ext λo=>by
   cases N:H o with
   |none=>rfl
   |some x =>obtain⟨i,y,A,-⟩:=X o x N;simp[Hp.kY]at A
  rw[hH,PV.mK hb];exact(hO name vs v W).yb λrv H' hr=>by subst hr;exact⟨r,λ_ _=>rfl,⟨rfl,λi x B=>by simp[Hp.kY]at B,λi j x y B=>by simp[Hp.kY]at B,λi w Y=>by simp[Fr.pf]at Y,λx B=>(by cases B),λi x B=>by simp[Hp.kY]at B⟩,(PV.oJ S r).symm,S,apU _⟩
  cases e;split at e;rename_i pf ht;split at e;rename_i hl;split at e;cases e;rename_i f0 U;have V:∀(x:lY)(J:Fr)(A:Hp),(∀id,x≠.exit id)->rL (hand (XO (rM tab E fz M m n))) (M (XO (rM tab E fz M m n))) m pf.body f0 h=some (x,J,A) ->
    (match dY.evs J.pf A.ph pf.res with|some vs=>if(bO vs).BU A.length then some (if fz name then O5 h.length (bO vs) A else(bO vs,A))else none|none=>none)=some (v,O)->aJ C name (vs.map (PV.ren r)) H (Comes r h.length v O):=by
   intro x J A B N e2;refine hT name pf ht _ _ _ (by rw[apP];exact hl) ?_;have R0:Rl r f0 h (PF.args (vs.map (PV.ren r))) H:=⟨by rw[Fr.Dv U,S7],R.hp,R.inj,λi w Y=>by
    rw[Fr.Dv U]at Y;simp only[PF.args]at Y;have:∀(l:V_)(i:Nat),PV.bounds h.length l=true->l[i]?=some w->w.bound h.length=true:=by
     intro l
     induction l with
     |nil=>intro i _ hi;simp at hi
     |cons a l α=>
      intro i hb hi;simp only[PV.bounds,apT]at hb;cases i with
      |zero=>simp at hi;subst hi;exact hb.1
      |succ i=>exact α i hb.2 (by simpa using hi)
    exact this vs i hb Y,R.hb,R.pc⟩
   refine L8 (Z8 ih) (hD _ ih) m pf.body N R0 λr' F' H' ha hn Z=>?_;cases h2:dY.evs J.pf A.ph pf.res with
   |none=>rw[h2]at e2;cases e2
   |some K=>
    rw[h2]at e2;simp only at e2;split at e2
    ·rename_i D;replace D:=PV.yU D;simp only[asB.injEq]at e2;have h3:=u9 Z.hp h2;rw[<-Z.fr]at h3;have hR:∃vs,dY.evs F' H' pf.res=some vs/\∃F1 L H2,jJ (n_.set 0 (bO vs)) H' F1 L/\PH.le H2 L/\∃u,F1 0=some u/\Comes r h.length v O u H2:=by refine⟨_,h3,?_⟩;rw[Fm K];split at e2;obtain⟨L,g1,g2,g3,g4⟩:=j2 ((j3 A h.length 6 (PV.K0 (bO K) [])).filter λi=>Nat.ble h.length i) (p:=(bO K,A)) Z.heap D;have e3:((j3 A h.length 6 (PV.K0 (bO K) [])).filter λi=>Nat.ble h.length i).foldl rE (bO K,A)=(v,O):=e2;rw[e3]at g1 g2 g3 g4;exact⟨_,L,L,g1,λ_ _ W=>W,v.ren r',rfl,r',ha,g2,rfl,g3,by rw[g4];exact hn⟩;cases e2;exact⟨_,H',H',.refl _ _,λ_ _ W=>W,(bO K).ren r',rfl,r',ha,Z.heap,rfl,D,hn⟩
     cases x with
     |normal=>exact hR
     |ret=>exact hR
     |exit id=>exact absurd rfl (B id)
    cases e2
  split at e;cases e;rename_i x J A B N;exact V x J A (λid he=>B id he) N e;cases e;cases e;cases e
end
def uK(W:N_):Nat->Hp->Hp
 |_,[]=>[]
 |i,x::xs=>(if W.contains i then .dead else x)::uK W (i+1) xs
theorem YV(W:N_):∀(h:Hp)(i k:Nat)(x:aR),(uK W i h)[k]?=some x->x=.dead\/h[k]?=some x
 |[],_,_,_,e=>by simp[uK]at e
 |y::h,i,0,x,e=>by simp only[uK,List.getElem?_cons_zero,asB.injEq]at e;split at e;exact .inl e.symm;exact .inr (by rw[<-e];rfl)
 |y::h,i,k+1,x,e=>by simp only[uK,List.getElem?_cons_succ]at e ⊢;exact YV W h (i+1) k x e
theorem Hi{W:N_}{h:Hp}{i:Nat}{x:aR}(e:Hp.ph (uK W 0 h) i=some x):h.ph i=some x:=by
 have l:=lO e;rcases YV W h 0 i x l.1 with h2|h2
 subst h2;rw[Hp.kY,l.1]at e;cases e;rw[Hp.kY]at e ⊢;rw[l.1]at e;rw[h2];exact e
def gs(op:POp)(f:Fr):O_:=match op with
 | .store _ p _=>match p.ev f.pf with
  |some (.ptr o _ _ _)=>some o
  |_=>none
 | .append _ _ x _=>match x.ev f.pf with
  |some (.osl o _ _ _)=>some o
  |_=>none
 |_=>none
def Lg(hs:Hp)(op:POp)(f:Fr):Bool:=match gs op f with
 |none=>true
 |some o=>match hs[o]? with
  |none=>true
  |some .dead=>true
  |_=>false
theorem Lh{hs:Hp}{op:POp}{f:Fr}{o:Nat}(h:Lg hs op f=true)(i:gs op f=some o):hs.ph o=none:=by
 unfold Lg at h;rw[i]at h;simp only at h;rw[Hp.kY];split at h;rename_i e;rw[e];rfl;rename_i e;rw[e];rfl;cases h
noncomputable def sC(call:gI)(name:Nat)(vs:V_):Option PV:=
 if PV.bounds 0 vs then match call name vs []with
  |some (v,_)=>if v.bound 0 then some v else none
  |none=>none
 else none
def mp:aR->aR->Bool
 | .rows s rs,y=>match y with | .rows s' rs'=>arR s s'&&PV.WO rs rs'|_=>false
 | .map _ _,_=>false
 |_,_=>true
def aiI(hs:Hp)(M:N_)(h':Hp):Bool:=M.all λi=>mp (gtH hs i) (gtH h' i)
noncomputable def x6(call:gI)(l hs:Hp)(name:Nat)(vs:V_)(h:Hp):Option (PV × Hp):=
 let M:=reach l 1000 (vM vs []) []
 if(M.all λi=>(gtH l i).wZ)&&(okM M h&&UF (inL M) vs)then match call name (XG (up (posOf M)) vs) (qX h (up (posOf M)) M)with
  |some (v,e)=>if(Nat.ble M.length e.length&&v.BU e.length)&&((e.all λx=>x.wZ.not||x.bd e.length)&&aiI hs M (sY M h e))then some (v.sa (up (bk M h.length)),sY M h e)else none
  |none=>none
 else none
noncomputable def mz(call:gI)(e hs:Hp)(op:POp)(st:Bool)(f:Fr)(h:Hp):Option (PV × Hp):=match op with
 | .call name args=>if args.all aP.clo then match aP.evs f.pf args with
  |some vs=>x6 call e hs name vs h
  |none=>none
  else none
 | .apF x args=>if x.clo&&args.all aP.clo then match x.ev f.pf,aP.evs f.pf args with
  |some (.fn name cs),some vs=>x6 call e hs name (vs++cs) h
  |_,_=>none
  else none
 |op=>if op.clo&&Lg hs op f then
   if op.iR then yJ op f h else if op.eQ then kS op f h else
    match aV op f.pf (if st then hs.ph else h.ph)with
    |some v=>if v.BU h.length then some (v,h)else none
    |none=>none
  else none
noncomputable def na(call:gI)(l hs:Hp)(i:bQ)(st:Bool)(f:Fr)(h:Hp):Option (PV × Hp):=match i.guard with
 |none=>mz call l hs i.op st f h
 |some (t,e)=>match f.pf t with
  |some (.bool b)=>if b=e then mz call l hs i.op st f h else some (.tup [],h)
  |some (.tup [])=>some (.tup [],h)
  |_=>none
noncomputable def UU(call:gI)(e hs:Hp):List (bQ × Bool)->Fr->Hp->Option (Fr × Hp)
 |[],f,h=>some (f,h)
 |i::rest,f,h=>if f.fits i.1.dst then match na call e hs i.1 i.2 f h with
   |some (v,h')=>UU call e hs rest (f.put i.1.dst v) h'
   |none=>none
  else none
noncomputable def afR(e:Hp)(i:bQ)(f:Fr)(h h':Hp):N_:=match i.op with
 | .call _ args=>match aP.evs f.pf args with
  |some vs=>(reach e 1000 (vM vs []) []).filter λi=>!mp (gtH h i) (gtH h' i)
  |none=>[]
 | .apF x args=>match x.ev f.pf,aP.evs f.pf args with
  |some (.fn _ cs),some vs=>(reach e 1000 (vM (vs++cs) []) []).filter λi=>!mp (gtH h i) (gtH h' i)
  |_,_=>[]
 |op=>(gs op f).toList
noncomputable def targets(call:gI)(e:Hp):List (bQ × Bool)->Fr->Hp->N_
 |[],_,_=>[]
 |i::rest,f,h=>match na call e [] i.1 false f h with
  |some (v,h')=>afR e i.1 f h h'++targets call e rest (f.put i.1.dst v) h'
  |none=>[]
noncomputable def qT(call:gI):KZ:=λops f h=>
 if ops.any λi=>i.2 then
  if ops.any λi=>i.1.op.eQ then UU call h (uK (targets call h ops f h) 0 h) ops f h
  else match UU call h h ops f h with
   |some x=>some x
   |none=>UU call h (uK (targets call h ops f h) 0 h) ops f h
 else UU call h [] ops f h
structure DI(r:Ren)(hs h:Hp)(Hs:PH):Prop where
 a:∀i x,hs.ph i=some x->h.ph i=some x
 b:∀o x,Hs o=some x->∃i y,hs.ph i=some y/\o=(r i).1/\x=y.ren r (r i).2
 c:JU r hs.ph Hs
section
variable {C:Ctx} {call:gI} {r:Ren} {f f':Fr} {hs h h':Hp} {F:PF} {H Hs:PH} {v:PV}
theorem DI.le(D:DI r hs h Hs)(R:Rl r f h F H):Hs.le H:=λo x l=>by
 obtain⟨i,y,e,rfl,rfl⟩:=D.b o x l;exact R.hp i y (D.a i y e)
theorem DI.next(D:DI r hs h Hs)(R:Rl r f h F H){r':Ren}(w:gV h.length r r')(E:∀i x,hs.ph i=some x->h'.ph i=some x):DI r' hs h' Hs:=by
 have e:∀i y,hs.ph i=some y->r i=r' i/\∀pre,y.ren r pre=y.ren r' pre:=λi y J=>by have l:=lO (D.a i y J);exact⟨w i l.2,λpre=>aR.oR w (R.hb y (asC l.1)) pre⟩
 refine⟨E,λo x u=>?_,λi x u=>?_⟩;obtain⟨i,y,l,A,B⟩:=D.b o x u;refine⟨i,y,l,by rw[A,(e i y l).1],?_⟩;rw[B,(e i y l).1];exact(e i y l).2 _;rw[<-(e i x u).1,<-(e i x u).2];exact D.c i x u
theorem xc{op:POp}(e:yJ op f h=some (v,h')){i:Nat}{x:aR}(u:h.ph i=some x):h'.ph i=some x:=by
 have hlt:=(lO u).2;by_cases w:∃sh,op=.apK sh;obtain⟨sh,rfl⟩:=w;simp only[yJ,asB.injEq,Prod.mk.injEq]at e;obtain⟨-,rfl⟩:=e;rw[Hp.vS,aC Om];exact u;have l:(match cK op f.pf with|some (y,x)=>if x.bd h.length then some (y h.length,h++[x])else none|none=>none)=some (v,h'):=by cases op<;>first|exact e|exact absurd ⟨_,rfl⟩ w
 split at l;split at l<;>cases l;rw[Hp.vS,aC Om];exact u;cases l
theorem nb{op:POp}(e:kS op f h=some (v,h')){i:Nat}{x:aR}(u:h.ph i=some x)(l:gs op f≠some i):h'.ph i=some x:=by
 have hlt:=(lO u).2;cases op<;>try (simp[kS]at e;done)
 case store n p y=>
  simp only[kS]at e;simp only[gs]at l;split at e
  ·rename_i o s j c w A D;rw[A]at l;split at e
   ·rename_i s' rs B;split at e
    ·split at e<;>cases e;rw[Hp.HF ((aqU.1 B).1),aC (λe=>l (by rw[e]))];exact u
    ·cases e
   ·cases e
  ·cases e
 case append size bytes y z=>
  simp only[kS]at e;simp only[gs]at l;split at e
  ·split at e
   ·cases e;exact u
   ·split at e<;>cases e;rw[Hp.vS,aC Om];exact u
   ·cases e
  ·rename_i o s off len b A D;rw[A]at l;split at e
   ·rename_i src s' rs B E;split at e<;>cases e;rw[Hp.vS,aC (by rw[arD];omega),Hp.HF ((aqU.1 E).1),aC (λe=>l (by rw[e]))];exact u
   ·cases e
  ·cases e
theorem Eu(N:pT C call){name:Nat}{vs:V_}(e:sC call name vs=some v) :
  vs.map (PV.ren r)=vs/\v.ren r=v/\v.bound 0=true/\aJ C name vs PH.nil (λS _=>S=v):=by
 unfold sC at e;split at e;rename_i A;split at e;rename_i w M e2;split at e;rename_i B;cases e;refine⟨PV.mK A r,PV.oJ B r,B,?_⟩;have D:=N name vs [] v M e2 (up id) PH.nil ⟨rfl,λi x l=>by simp[Hp.kY]at l,λi j x y l=>by simp[Hp.kY]at l,λi w R=>by simp[Fr.pf]at R,λx l=>(by cases l),λi x l=>by simp[Hp.kY]at l⟩ (λo x l=>by cases l) A;rw[PV.mK A]at D;refine⟨D.1,λE w U O hW J=>(D.2 E w U O hW J).mono λV W he=>?_⟩;obtain⟨u,pv,K,H',g1,g2,g3,g4,r',-,-,L,-,-⟩:=he;exact⟨u,pv,K,H',g1,g2,g3,g4,by rw[L,PV.oJ B]⟩;cases e;cases e;cases e
end
theorem tc(r:Nat->Nat):∀n:Nat,∃b,∀j,j<n->r j<b
 |0=>⟨0,λj e=>absurd e (Nat.not_lt_zero j)⟩
 |n+1=>by
  obtain⟨b,hb⟩:=tc r n;refine⟨b+r n+1,λj e=>?_⟩;rcases Nat.lt_succ_iff_lt_or_eq.1 e with h|h
  have:=hb j h;omega;subst h;omega
theorem aeH(r:Ren)(h:Hp)(hi:∀i j x y,h.ph i=some x->h.ph j=some y->(r i).1=(r j).1->i=j) :
  ∃H:PH,JU r h.ph H/\∀o x,H o=some x->∃i y,h.ph i=some y/\(r i).1=o:=by
 classical
 obtain⟨b,hb⟩:=tc (λi=>(r i).1) h.length;refine⟨⟨λo=>if e:∃i y,h.ph i=some y/\(r i).1=o then some ((Classical.choose (Classical.choose_spec e)).ren r (r (Classical.choose e)).2)else none,b,λo B=>?_⟩,λi x l=>?_,λo x l=>?_⟩;rw[dif_neg];rintro⟨i,y,u,w⟩;have:=hb i (lO u).2;omega;have e:∃j y,h.ph j=some y/\(r j).1=(r i).1:=⟨i,x,l,rfl⟩;show(if e:∃j y,h.ph j=some y/\(r j).1=(r i).1 then some ((Classical.choose (Classical.choose_spec e)).ren r (r (Classical.choose e)).2)else none)=_;rw[dif_pos e];have u:=Classical.choose_spec (Classical.choose_spec e);have w:=hi _ _ _ _ u.1 l u.2;have A:=u.1.symm.trans ((congrArg h.ph.f w).trans l);rw[asB.inj A,congrArg (λj=>(r j).2) w];change(if e:∃j y,h.ph j=some y/\(r j).1=o then some ((Classical.choose (Classical.choose_spec e)).ren r (r (Classical.choose e)).2)else none)=some x at l;split at l;rename_i e;exact e;cases l
theorem Y2{r:Ren}{f:Fr}{h:Hp}{F:PF}{H:PH}(R:Rl r f h F H):∃q:Nat->Nat × Nat,∀i x,h.ph i=some x->q (r i).1=(i,(r i).2.length):=by
 classical
 refine⟨λo=>if e:∃i y,h.ph i=some y/\(r i).1=o then(Classical.choose e,(r (Classical.choose e)).2.length)else(0,0),λi x l=>?_⟩;have e:∃j y,h.ph j=some y/\(r j).1=(r i).1:=⟨i,x,l,rfl⟩;show(if e:∃j y,h.ph j=some y/\(r j).1=(r i).1 then(Classical.choose e,(r (Classical.choose e)).2.length)else(0,0))=_;rw[dif_pos e];obtain⟨y,u,w⟩:=Classical.choose_spec e;rw[R.inj _ _ _ _ u l w]
def ye(q:Nat->Nat × Nat)(r:Ren)(M:N_)(H:PH):Hp:=M.map λi=>match H (r i).1 with
 |some x=>(x.back q (r i).2.length).rn (up (posOf M))
 |none=>.dead
noncomputable def VA(call:gI)(h0:Hp)(q:Nat->Nat × Nat)(r:Ren):Spec:=λname vs=>
 some (wF r (reach h0 1000 (vM (PV.sA q vs) []) []),λi l H'=>∃v e,
  call name (PV.mG (up (posOf (reach h0 1000 (vM (PV.sA q vs) []) []))) (PV.sA q vs)) (ye q r (reach h0 1000 (vM (PV.sA q vs) []) []) i)=some (v,e) /\
  Comes (λk=>r (atN (reach h0 1000 (vM (PV.sA q vs) []) []) k)) (reach h0 1000 (vM (PV.sA q vs) []) []).length v e l H')
theorem Comes.agree{r s:Ren}{n:Nat}{v:PV}{h:Hp}{e:PV}{H:PH}(x:Comes r n v h e H)(w:gV n r s):Comes s n v h e H:=by
 obtain⟨r',l,u⟩:=x;exact⟨r',λi hi=>(w i hi).symm.trans (l i hi),u⟩
theorem Wm{x y:aR}(h:mp x y=true)(e:x.live=some x):x=y:=by
 cases x with
 |rows s rs =>cases y<;>simp only[mp,apT,arO]at h;rw[PV.be _ _ h.2,Nat.eq_of_beq_eq_true h.1]
 |map=>cases h
 |loop=>cases e
 |dead=>cases e
section
variable {C:Ctx} {call:gI} {q:Nat->Nat × Nat} {r0 r:Ren} {f f':Fr} {h0 hs h h':Hp} {F:PF} {H Hs:PH} {v:PV} {K:R_} {st:Bool}
theorem LJ(hC:pT C call)(hq:∀i x,h0.ph i=some x->q (r0 i).1=(i,(r0 i).2.length))(κ:gV h0.length r0 r)(R:Rl r f h F H)(D:DI r hs h Hs){name:Nat}{vs:V_}(e:x6 call h0 hs name vs h=some (v,h'))
  (O:∀r' H',gV h.length r r'->Z' h<=Z' h'->Rl r' f h' F H'->DI r' hs h' Hs->v.bound h'.length=true->K (v.ren r') H') :
  (Kind.call name (some (vs.map (PV.ren r)))).run C Hs (VA call h0 q r0) st K H:=by
 unfold x6 at e;simp only at e;generalize hM:reach h0 1000 (vM vs []) []=M at e;split at e;rename_i δ;simp only[apT,aqM]at δ;obtain⟨ρ,ok,hv⟩:=δ;replace hv:=OX hv;rw[EH]at e;split at e;rename_i w B e2;split at e;rename_i hb;simp only[apT]at hb;obtain⟨⟨ν,V⟩,ξ,ο⟩:=hb;replace V:=PV.yU V;rw[PV.PJ]at e;cases e;have σ:Z' M<=Z' B:=Nat.le_of_ble_eq_true ν;have N:∀i,inL M i=true->h0.ph i=some (gtH h0 i):=λi hi=>by rw[tQ];exact OB (ρ i (AM hi))
 have S:∀i,inL M i=true->r0 i=r i:=λi hi=>κ i (lO (N i hi)).2;have ε:∀i,inL M i=true->q (r i).1=(i,(r i).2.length):=λi hi=>by rw[<-S i hi];exact hq i _ (N i hi)
 have τ:PV.sA q (vs.map (PV.ren r))=vs:=by rw[<-PV.gC,PV.tY (L:=inL M) ε vs hv]
 have β:wF r0 M=wF r M:=arQ λi hi=>by rw[S i (vO hi)]
 have α:∀i,inL M i=true->(H.only (wF r M)) (r i).1=some ((gtH h i).ren r (r i).2):=λi hi=>by rw[xP,aE (show(r i).1∈wF r M from aqJ.2 ⟨i,AM hi,rfl⟩)];exact R.hp i _ (sK ok hi)
 have Y:EE M h=true:=by simp only[okM,apT]at ok;exact ok.1
 have l:ye q r0 M (H.only (wF r M))=qX h (up (posOf M)) M:=by unfold ye qX;refine arQ λi hi=>?_;have W:=vO hi;rw[S i W,α i W];show aR.rn _ (aR.back q _ _)=_;rw[aR.MP (L:=inL M) ε (CC R i) (du Y W)]
 have E:gV M.length (λk=>r0 (atN M k)) (λk=>r (atN M k)):=λk O=>S _ (sU O);have ι:∀x∈B,aR.Bd B.length x:=λx Z=>by
  have:=(aqM.1 ξ) x Z;simp only[Bool.or_eq_true,Bool.not_eq_true']at this;rcases this with h1|h1
  cases x<;>first|trivial|cases h1
  exact aR.AH h1
 refine⟨_,wF r M,λH0 rv H'=>∃v B,call name (PV.mG (up (posOf M)) vs) (ye q r0 M H0)=some (v,B)/\Comes (λk=>r0 (atN M k)) M.length v B rv H',rfl,?_,λo ho=>?_,?_,λG=>?_,λrv H' hr ap=>?_⟩;simp only[VA,τ,hM,β];obtain⟨i,hi,rfl⟩:=aqJ.1 ho;exact⟨_,R.hp i _ (sK ok (vO hi))⟩;exact(kh hC R ok hv e2).yb λrv H' hc=>⟨w,B,by rw[l];exact e2,hc.agree λk O=>(E k O).symm⟩;obtain⟨nG,hG⟩:=G.fin;obtain⟨nH,hH⟩:=H.fin;have η:∀k,k<Z' M->(r (atN M k)).1<nH:=λk O=>by
  rcases aqW (r (atN M k)).1 nH with h1|h1
  exact h1;have:=R.hp _ _ (sK ok (sU O));rw[hH _ h1]at this;cases this
 generalize ζ:(λj=>if j<M.length then r (atN M j)else(nG+nH+j,[]))=r2;have hlt:∀j,j<Z' M->r2 j=r (atN M j):=λj J=>by rw[<-ζ];exact aE J
 have A:∀j,¬j<Z' M->r2 j=(nG+nH+j,[]):=λj J=>by rw[<-ζ];exact aC J
 have U:∀i j x y,B.ph i=some x->B.ph j=some y->(r2 i).1=(r2 j).1->i=j:=λi j x y _ _ he=>by
  by_cases hi:i<Z' M<;>by_cases J:j<Z' M;rw[hlt i hi,hlt j J]at he;have:=R.inj _ _ _ _ (sK ok (sU hi)) (sK ok (sU J)) he;have γ:UB M=true:=by simp only[EE,apT]at Y;exact Y.1
  rw[<-CN γ hi,this,CN γ J];rw[hlt i hi,A j J]at he;have:=η i hi;simp only at he;omega;rw[A i hi,hlt j J]at he;have:=η j J;simp only at he;omega;rw[A i hi,A j J]at he;simp only at he;omega
 obtain⟨H',h1,h3⟩:=aeH r2 B U;refine⟨w.ren r2,H',⟨w,B,by rw[l];exact e2,r2,λk O=>?_,⟨rfl,h1,U,λi u hu=>by simp[Fr.pf]at hu,ι,λi x _=>by by_cases hi:i<Z' M;rw[hlt i hi];exact R.pc _ _ (sK ok (sU hi));rw[A i hi];rfl⟩,rfl,V,σ⟩,λo x Z h4=>?_⟩;rw[hlt k O];exact E k O;obtain⟨i,y,-,rfl⟩:=h3 o x Z;by_cases hi:i<Z' M;rw[hlt i hi,α _ (sU hi)]at h4;cases h4;rw[A i hi];exact hG _ sO_;obtain⟨w',h3,e3,hc⟩:=hr;rw[l,e2]at e3;cases e3;obtain⟨r',ha,hn,R',rfl,μ⟩:=Ca R ok (hc.agree E) ap;have X:∀i x,hs.ph i=some x->Hp.ph (sY M h B) i=some x:=λi x Z=>by have θ:=D.a i x Z;have hlt:=(lO θ).2;by_cases hi:inL M i=true;have h5:=(aqM.1 ο) i (AM hi);have h6:=aeU Z;have h7:=Wm h5 (by rw[h6.1];exact h6.2);rw[tQ,<-h7,h6.1];exact h6.2;rw[tQ,cw,aE hlt,aC hi,<-tQ];exact θ
 have D':=D.next R ha X;exact⟨D'.le R',O r' _ ha hn R' D' μ⟩;cases e;cases e;cases e
theorem ZN(hC:pT C call)(hq:∀i x,h0.ph i=some x->q (r0 i).1=(i,(r0 i).2.length))(M:gV h0.length r0 r){op:POp}(R:Rl r f h F H)(D:DI r hs h Hs)(e:mz call h0 hs op st f h=some (v,h'))
  (N:∀r' H',gV h.length r r'->Z' h<=Z' h'->Rl r' f h' F H'->DI r' hs h' Hs->v.bound h'.length=true->K (v.ren r') H') :
  (op.kind F).run C Hs (VA call h0 q r0) st K H:=by
 by_cases Z:∃name args,op=.call name args;obtain⟨name,args,rfl⟩:=Z;simp only[mz]at e;split at e;rename_i A;split at e;rename_i vs J;have W:=EY (r:=r) A J;rw[<-R.fr]at W;simp only[POp.kind];rw[W];exact LJ hC hq M R D e N;cases e;cases e;by_cases J:∃x args,op=.apF x args;obtain⟨x,args,rfl⟩:=J;simp only[mz]at e;split at e;rename_i A;simp only[apT]at A;split at e;rename_i name cs vs V W;have h5:=EY (r:=r) A.2 W;have h6:=dN (r:=r) A.1 V;rw[<-R.fr]at h5 h6;simp only[POp.kind];rw[h6];simp only[PV.ren,PV.gC];rw[h5];simp only[aqK,<-aqP];exact LJ hC hq M R D e N;cases e;cases e;have l:(if op.clo&&Lg hs op f then if op.iR then yJ op f h else if op.eQ then kS op f h else
   match aV op f.pf (if st then hs.ph else h.ph)with|some v=>if v.BU h.length then some (v,h)else none|none=>none else none)=some (v,h'):=by
  cases op<;>first|exact e|exact absurd ⟨_,_,rfl⟩ Z|exact absurd ⟨_,_,rfl⟩ J
 split at l;rename_i A;simp only[apT]at A;have S:∀i x,hs.ph i=some x->gs op f≠some i:=λi x hx ht=>by rw[Lh A.2 ht]at hx;cases hx
 by_cases V:∃sh x k w,op=.insert sh x k w;obtain⟨sh,x,k,w,rfl⟩:=V;simp[POp.clo]at A;have E:op.kind F=if op.iR then .new (cK op F)else if op.eQ then .write (λH K=>cG op F H K)else .calm (aV op F):=by cases op<;>first|rfl|exact absurd ⟨_,_,rfl⟩ Z|exact absurd ⟨_,_,rfl⟩ J|exact absurd ⟨_,_,_,_,rfl⟩ V
 rw[E];split at l;rename_i O;rw[aE O];have B:Z' h<=Z' h':=QD (op:=op) (f:=f) (v:=v) (by unfold CO;rw[aE A.1,aE O];exact l);obtain⟨mk,x,g1,g2⟩:=RX (d:=some 0) (K:=λF' H'=>∀u,F' 0=some u->K u H') R A.1 l λr' H' L U hb u hu=>by simp only[PF.put,PF.set,Eb]at hu;cases hu;exact N r' H' L B U (D.next R L λi y Y=>xc l (D.a i y Y)) hb
 exact⟨mk,x,g1,λo ho=>g2 o ho _ (by simp[PF.put,PF.set,Eb])⟩;rename_i O;rw[aC O];split at l;rename_i X;rw[aE X];have B:Z' h<=Z' h':=QD (op:=op) (f:=f) (v:=v) (by unfold CO;rw[aE A.1,aC O,aE X];exact l);show cG op F H λrv H'=>Hs.le H'/\K rv H';refine JF (K:=λrv H'=>Hs.le H'/\K rv H') R A.1 l λr' H' L U hb=>?_;have D':=D.next R L λi y Y=>nb l (D.a i y Y) (S i y Y);exact⟨D'.le U,N r' H' L B U D' hb⟩;rename_i X;rw[aC X];split at l;rename_i w g1;split at l
 ·rename_i hb;replace hb:=PV.yU hb;cases l;refine⟨v.ren r,?_,N r H (λ_ _=>rfl) (apU _) R D hb⟩;cases st with
  |true=>
   have:=UI D.c A.1 g1
   rwa[<-R.fr]at this
  |false=>
   have:=UI R.hp A.1 g1
   rwa[<-R.fr]at this
 cases l;cases l;cases l
theorem Dw(E:pT C call)(hq:∀i x,h0.ph i=some x->q (r0 i).1=(i,(r0 i).2.length))(l:gV h0.length r0 r){i:bQ}(R:Rl r f h F H)(D:DI r hs h Hs)(e:na call h0 hs i st f h=some (v,h'))
  (A:∀r' H',gV h.length r r'->Z' h<=Z' h'->Rl r' f h' F H'->DI r' hs h' Hs->v.bound h'.length=true->K (v.ren r') H') :
  (i.kind F).run C Hs (VA call h0 q r0) st K H:=by
 have u:∀t w,f.pf t=some w->F t=some (w.ren r):=λt w y=>by rw[R.fr];simp only[PF.ren,y,aqK]
 unfold na at e;unfold bQ.kind;split at e;rename_i B;rw[B];exact ZN E hq l R D e A;rename_i t J B;rw[B];simp only;split at e;rename_i b hb;rw[u t _ hb];simp only[PV.ren];split at e;rename_i y;rw[aE y];exact ZN E hq l R D e A;rename_i y;rw[aC y];cases e;exact⟨_,rfl,A r H (λ_ _=>rfl) (apU _) R D rfl⟩;rename_i hb;rw[u t _ hb];cases e;exact⟨_,rfl,A r H (λ_ _=>rfl) (apU _) R D rfl⟩;cases e
end
variable{C:Ctx}
theorem mm{call:gI}(O:pT C call){h0 hs:Hp}{Hs:PH}{q:Nat->Nat × Nat}{r0:Ren}(hq:∀i x,h0.ph i=some x->q (r0 i).1=(i,(r0 i).2.length)):∀(ops:List (bQ × Bool)) {r:Ren} {f f':Fr} {h h':Hp} {F:PF} {H:PH} {K:K_},UU call h0 hs ops f h=some (f',h')->gV h0.length r0 r->Z' h0<=Z' h->Rl r f h F H->DI r hs h Hs ->
  (∀r' N H',gV h.length r r'->Z' h<=Z' h'->Rl r' f' h' N H'->K N H')->wpD C Hs (VA call h0 q r0) ops K F H
 |[],r,f,f',h,h',F,H,K,e,_,_,R,D,E=>by cases e;exact E r F H (λ_ _=>rfl) (apU _) R
 |i::rest,r,f,f',h,h',F,H,K,e,l,u,R,D,E=>by simp only[UU]at e;split at e;rename_i X;split at e;rename_i v Y W;refine Dw O hq l R D W λr' H' S J V U hb=>?_;exact mm O hq rest e (l.trans S u) (aqX u J) (V.put X hb) U λM w y B L A=>E M w y (S.trans B J) (aqX J L) A;cases e;cases e
theorem IZ{call:gI}(B:pT C call){hs:Hp}{ops:List (bQ × Bool)}{r:Ren}{f f':Fr}{h h':Hp}{F:PF}{H:PH}{K:K_}(e:UU call h hs ops f h=some (f',h'))(R:Rl r f h F H)
  (l:∀i x,hs.ph i=some x->h.ph i=some x) (E:∀r' w H',gV h.length r r'->Z' h<=Z' h'->Rl r' f' h' w H'->K w H'):∃Hs S,PH.le Hs H/\wpD C Hs S ops K F H:=by
 obtain⟨q,hq⟩:=Y2 R;have D:DI r hs h (H.only (wF r ((apQ h.length).filter λi=>(Hp.ph hs i).isSome))):=by refine⟨l,λo x u=>?_,λi x u=>?_⟩;rw[xP]at u;split at u;rename_i J;obtain⟨i,hi,rfl⟩:=aqJ.1 J;obtain⟨-,hi⟩:=asQ.1 hi;obtain⟨y,A⟩:=Option.isSome_iff_exists.1 hi;refine⟨i,y,A,rfl,?_⟩;have:=R.hp i y (l i y A);rw[this]at u;cases u;rfl;cases u;rw[xP,aE];exact R.hp i x (l i x u);exact aqJ.2 ⟨i,asQ.2 ⟨aqN.2 (lO (l i x u)).2,by rw[u];rfl⟩,rfl⟩
 exact⟨_,_,D.le R,mm B hq ops e (λ_ _=>rfl) (apU _) R D E⟩
theorem Tv(call:gI)(u:pT C call):zb C (qT call):=by
 intro ops f h f' h' e r F H R K w;unfold qT at e;split at e;split at e;exact IZ u e R (λi x l=>Hi l) w;split at e;rename_i p y;cases e;exact IZ u y R (λi x l=>l) w;exact IZ u e R (λi x l=>Hi l) w;exact IZ u e R (λi x l=>by simp[Hp.kY]at l) w
theorem Ma{tab:Nat->Option kT}{e:Orc}{fz:Nat->Bool}(l:I2 C e)(u:∀k pf,tab k=some pf->WL C k pf)(m n:Nat):pT C (rM tab e fz qT m n):=Ig l u (λcall i=>Tv call i) m n
theorem L9{tab:Nat->Option kT}{i:Orc}{fz:Nat->Bool}(l:I2 C i)(u:∀k pf,tab k=some pf->WL C k pf)(m n:Nat){name:Nat}{vs:V_}{v:PV}(e:sC (rM tab i fz qT m n) name vs=some v):aJ C name vs PH.nil (λw _=>w=v):=
 (Eu (r:=up id) (Ma l u m n) e).2.2.2
open Go Go.Na
noncomputable def eX:aB:={ Mm with aoE:=[⟨[118,48],0⟩] }
theorem D1:eX.Ok:=aeS (by decide +kernel)
theorem Rz:xW eX=0:=by decide +kernel
theorem nw:gY eX 5 1=[[0]]/\gK eX 5 1=0:=by decide +kernel
theorem Mn:iX eX (nJ eX 0)=[[0]]/\(fA eX.aoC.length (mY (nJ eX 0)).toNat 0).map cT=[[0]]/\nY eX (nJ eX 0) [0]=true:=by decide +kernel
theorem Ry:Z' eX.aoC<=12/\1<=(nJ eX 0).k/\(nJ eX 0).k<=6/\0<=(nJ eX 0).m/\(nJ eX 0).m<=4:=by decide +kernel
abbrev OrL:=List (Nat × V_ × PV)
def xQ:OrL->Orc
 |[],_,_=>none
 |e::t,name,vs=>cond (arR e.1 name&&PV.FZ vs e.2.1) (some e.2.2) (xQ t name vs)
structure nS(C:Ctx)(L:OrL):Prop where
 go:∀e∈L,aJ C e.1 e.2.1 .nil (aL e.2.2)
section
variable {C:Ctx}
theorem aJ.bare{name:Nat}{vs:V_}{H:PH}{v:PV}(h:aJ C name vs H (λy _=>y=v)):aJ C name vs H (aL v):=by
 refine⟨h.1,λE w A x hW e=>(h.2 E w A x hW e).mono λB D he=>?_⟩;obtain⟨u,pv,i,H',g1,g2,g3,g4,l⟩:=he;exact⟨u,pv,i,.nil,g1,g2.weaken a_,g3,g4.drop a_,l,rfl⟩
theorem nS.nil:nS C []:=⟨λe h=>by cases h⟩
theorem nS.cons{L:OrL}(h:nS C L){n:Nat}{vs:V_}{v:PV}(i:aJ C n vs .nil (aL v)):nS C ((n,vs,v)::L):=by
 refine⟨λe he=>?_⟩;rcases aqG.1 he with rfl|he
 exact i;exact h.go e he
theorem Hw:∀{L:OrL},nS C L->∀{name:Nat}{vs:V_}{v:PV},xQ L name vs=some v->aJ C name vs .nil (aL v)
 |[],_,_,_,_,e=>by cases e
 |(n,l,w)::t,h,name,vs,v,e=>by
  simp only[xQ]at e;cases i:(arR n name&&PV.FZ vs l)with
  |true =>rw[i]at e;simp only[apT]at i;cases e;have:=h.go _ (atZ ..);rw[<-Nat.eq_of_beq_eq_true i.1,PV.AI _ _ i.2];exact this
  |false =>rw[i]at e;exact Hw ⟨λe he=>h.go e (atK _ he)⟩ e
theorem lT{L:OrL}(h:nS C L){tab:Nat->Option kT}{fz:Nat->Bool}(i:∀k pf,tab k=some pf->WL C k pf)(m n:Nat){name:Nat}{vs:V_}{v:PV}(e:sC (rM tab (xQ L) fz qT m n) name vs=some v):aJ C name vs .nil (aL v):=
 aJ.bare (L9 (λ_ _ _ e=>(Hw h e).yb λ_ _ h=>h.1) i m n e)
def isR(o:Option PV)(v:PV):Bool:=match o with
 |some w=>PV.beq w v
 |none=>false
theorem Wk{L:OrL}(h:nS C L){tab:Nat->Option kT}{fz:Nat->Bool}(y:∀k pf,tab k=some pf->WL C k pf)(m n:Nat){α:Type}{l:List α}{name:Nat}{vs:α->V_}{r:α->PV}
  (e:(l.all λx=>isR (sC (rM tab (xQ L) fz qT m n) name (vs x)) (r x))=true):∀x∈l,aJ C name (vs x) .nil (aL (r x)):=λx A=>by
 have i:=aqM.1 e x A;unfold isR at i;split at i;rename_i w u;rw[<-PV.beq_eq _ _ i];exact lT h y m n u;cases i
noncomputable def yl:OrL:=[(27,[.aG,.int .i64 1,.int .i64 0],.agg Mm.cells),(96,[.agg eX.cells],.int .i64 0),(230,[.agg eX.cells,vJ 5 1],.tup [lay [[0]],.int .i64 0])]
theorem W4(u:∀(l:N_),(∀x∈l,x<256)->Z' l<=9223372036854775807->∀aoC aoE:Nat,aoC<=60->aoE<=50 ->
   aJ C 27 [.sl 1 (kL l),.j aoC,.j aoE] .nil (aL (.agg (iJ (l.take 400) aoC aoE 0).1.cells)))
  (i:∀f:aB,f.Ok->aJ C 96 [.agg f.cells] .nil (aL (.j (xW f))))
  (e:∀(f:aB)(lv cnt:Int),f.Ok->aJ C 230 [.agg f.cells,vJ lv cnt] .nil (aL (.tup [lay (gY f lv cnt),.j (gK f lv cnt)]))):nS C yl:=by
 have h:=e eX 5 1 D1;rw[nw.1,nw.2]at h;have w:=i eX D1;rw[Rz]at w;have y:aJ C 27 [.sl 1 (kL []),.j (1:Nat),.j (0:Nat)] .nil (aL (.agg Mm.cells)):=u [] (λx A=>by cases A) aT 1 0 aT aT;exact((nS.nil.cons h).cons w).cons (y.args (.Jr (.nil 1) (.Jr (.refl _) (.Jr (.refl _) .amB))))
theorem R1(u:KY C)(B:∃e i,WM C 229 (xo e i))(A:aJ C 201 [.agg eX.cells,.agg (nJ eX 0).cells,ints [0]] .nil (aL (.bool true))):aJ C 229 [.agg eX.cells,.agg (nJ eX 0).cells] .nil (aL (lay [[0]])):=by
 obtain⟨e,i,r⟩:=B;obtain⟨w,x,h5,y,h7⟩:=Ry;obtain⟨s1,s2,s3⟩:=Mn;have:=(r.go (Af u e i eX w (nJ eX 0) (λset _ l=>by rw[s2,arA]at l;subst l;rw[s3];exact A) x h5 y h7) rfl).seen
 rwa[s1]at this
end
end Go.PM
