/-Lemmas for the law. No condition.-/
import Derived.Test.YtfeiflgckfjohaaGreatDoorIM4
import Derived.Test.YtfeiflgckfjohaaGreatDoorRows
import Derived.KernelRfl
import Derived.LaidMore
import Derived.Stop.Joined
set_option linter.unusedSimpArgs false
set_option linter.unusedVariables false
open Nat renaming reduceEqDiff->γ,reduceAdd->δ,reduceSub->ε,reduceMul->ζ,reduceLT->η,reduceLeDiff->θ,reduceBEq->τ
open Int renaming reduceLT->ι,reduceLE->κ,reduceEq->μ,reduceToNat->ν,reduceAdd->ξ,reduceNeg->ο,reduceBEq->ρ,reduceBNe->σ
open List renaming length_map->asO,range->asP,replicate->asT,length_append->asX,getElem?_eq_getElem->asZ,getElem?_map->atC,mem_cons->atG,all_eq_true->atI,map_append->atK,mem_map->atM,take_of_length_le->atP,mem_range->atQ,map_cons->atU,append_assoc->atV,getElem?_eq_some_iff->atX,length_cons->atZ,append_nil->auA,mem_singleton->auB,mem_append->auC,length_set->auD,getElem?_eq_none->auE,getElem_of_mem->auG,map_nil->auH,getElem?_append_right->auS,mem_of_getElem?->auZ,length_nil->avD,drop_zero->avG,getElem?_append_left->avM,map_congr_left->avO,map_set->avP,map_map->avT,getElem?_set->avY,cons_append->awD,getElem?_drop->awM,mem_cons_of_mem->awN,nil_append->awO,all_cons->awS,mem_filter->awT,mem_of_mem_take->awU,mem_cons_self->axA,mem_or_eq_of_mem_set->axB
open Nat renaming zero_le->asQ,le_refl->asU,zero_add->atA,le_trans->atT,lt_or_ge->atY,add_zero->auI,sub_self->auK,beq->auR,add_assoc->avZ
open Bool renaming and_eq_true->asV,false_eq_true->auQ,and_true->avK,or_eq_true->awY
open Option renaming map_some->atO,some->auY,bind_some->awQ
open List renaming length->Z'
set_option maxRecDepth 100000
set_option maxHeartbeats 800000
open Go.PM.PF renaming nil->n_
noncomputable section
namespace Go.Proofs.YtfeiflgckfjohaaGreatDoor
open Go Go.PM Go.RowKit Go.ChangeShapes Go.WideShapes
noncomputable def C:Ctx:=⟨Tryz.prog,num⟩
def VX:Code->Option (Code × Code)
 | .rangeFunc _ _ a b=>some (a,b)
 | .seq a b=>match VX a with|some x=>some x|none=>VX b
 | .block _ c=>VX c
 |_=>none
def aaJ(c:Option Code):Code:=match c with|some c=>((VX c).getD (.skip,.skip)).1|none=>.skip
def aaK(c:Option Code):Code:=match c with|some c=>((VX c).getD (.skip,.skip)).2|none=>.skip
theorem apM(T:Tbl){k:Nat}{fn:Func}{pf:kJ}(u:C.P.funcs[C.num k]?=some fn)(i:C.P=T.P:=by rfl)(e:C.num=T.num:=by rfl)(x:(fn.name=="runtime.NumGoroutine")=false:=by kernel_rfl)(l:T.func fn=some pf:=by kernel_rfl):bQ C k pf:=λ_ _ _ w h=>UJ i e u x l w h
theorem bW{k:Nat}{ro:N_}{fn:Func}{x}(e:C.P.funcs[C.num k]?=some fn)(l:(fn.name=="runtime.NumGoroutine")=false:=by kernel_rfl):bQ C k (PM.bT ro fn x):=λ_ _ _ i h=>UJ (T:=T ro) rfl rfl e l x.2 i h
theorem aaN(T:Tbl){k:Nat}{fn:Func}{pf:GR}(u:C.P.funcs[C.num k]?=some fn)(l:T.zu fn=some pf)(i:C.P=T.P:=by rfl)(e:C.num=T.num:=by rfl)(x:(fn.name=="runtime.NumGoroutine")=false:=by kernel_rfl):YD C k pf:=λ_ _ _ w h=>Ly i e u x l w h
theorem Tryz.own:ownKnob Tryz.prog.godebug=none:=by kernel_rfl
theorem Tryz.laidOut:laidOutB Tryz.prog=true:=by kernel_rfl
theorem itoa:GP C:=λn u=>by
 refine⟨⟨Tryz.f75,Tryz.func75,by kernel_rfl,by kernel_rfl⟩,λE w vs x hW i=>?_⟩;obtain⟨y⟩:=vs;cases i with
 |cons l e2=>
 cases e2;cases l;refine(Any.strconv_Itoa_small Tryz.acP n u w).mono λe A he=>?_;obtain⟨rfl,rfl⟩:=he;exact⟨_,.str (cT n),E,.nil,rfl,hW,.str ⟨(Lib.decDigits n).toArray⟩,.refl _ _ _,rfl,rfl⟩
set_option maxRecDepth 100000 in
theorem alK:YE C:=⟨λo xs i e=>Ie Tryz.Ws (by kernel_rfl) ⟨_,Tryz.func61,by kernel_rfl,by kernel_rfl⟩ o xs i e⟩
theorem P6{pv:PV}(h:PV.Ty (.sl [.int .u8]) pv):∃l:N_,pv=.sl 1 (kN l)/\(∀x∈l,x<256)/\Z' l<=9223372036854775807:=by
 obtain⟨xs,rfl,B,i⟩:=Ty.Wl h;refine⟨xs.map Int.toNat,?_,?_,?_⟩;unfold Mz kN;rw[avT];congr 1;refine avO λx u=>?_;have:=(i x u).1;simp only[Function.comp];rw[Int.toNat_of_nonneg this];intro y w;obtain⟨x,e,rfl⟩:=atM.1 w;have:=(i x e).2;have A:=(i x e).1;have e:IntKind.u8.max=255:=by decide
 rw[e]at this;omega;rw[asO];have:maxLen<=9223372036854775807:=by decide
 omega
end Go.Proofs.YtfeiflgckfjohaaGreatDoor
namespace Go.PM
open Go
abbrev Ren:=Nat->Nat × P2_
def up(t:Nat->Nat):Ren:=λi=>(t i,[])
mutual
def PV.ren(r:Ren):PV->PV
 | .osl o s off len=>.osl (r o).1 s (off+(r o).2.length) len
 | .ptr o s i c=>.ptr (r o).1 s (i+(r o).2.length) c
 | .map o=>.map (r o).1
 | .sl s rows=>.sl s (PV.mU r rows)
 | .aU cs=>.aU (PV.mQ r cs)
 | .fn n cs=>.fn n (PV.mQ r cs)
 | .agg cs=>.agg (PV.mQ r cs)
 | .tup cs=>.tup (PV.mQ r cs)
 | .int k n=>.int k n
 | .bool b=>.bool b
 | .str s=>.str s
 | .aG=>.aG
 | .lit v=>.lit v
 | .junk=>.junk
def PV.mQ(r:Ren):V_->V_
 |[]=>[]
 |v::vs=>PV.ren r v::PV.mQ r vs
def PV.mU(r:Ren):P2_->P2_
 |[]=>[]
 |v::vs=>PV.mQ r v::PV.mU r vs
end
theorem PV.gJ(r:Ren):∀l,PV.mQ r l=l.map (PV.ren r)
 |[]=>rfl
 |v::vs=>by rw[PV.mQ,PV.gJ r vs];rfl
theorem PV.kT(r:Ren):∀l,PV.mU r l=l.map λx=>x.map (PV.ren r)
 |[]=>rfl
 |v::vs=>by rw[PV.mU,PV.kT r vs,PV.gJ];rfl
mutual
def PV.bound(n:Nat):PV->Bool
 | .osl o _ _ _=>decide (o<n)
 | .ptr o _ _ _=>decide (o<n)
 | .map o=>decide (o<n)
 | .sl _ rows=>PV.eS n rows
 | .aU cs=>PV.bounds n cs
 | .fn _ cs=>PV.bounds n cs
 | .agg cs=>PV.bounds n cs
 | .tup cs=>PV.bounds n cs
 | .int _ _=>true
 | .bool _=>true
 | .str _=>true
 | .aG=>true
 | .lit _=>true
 | .junk=>true
def PV.bounds(n:Nat):V_->Bool
 |[]=>true
 |v::vs=>PV.bound n v&&PV.bounds n vs
def PV.eS(n:Nat):P2_->Bool
 |[]=>true
 |v::vs=>PV.bounds n v&&PV.eS n vs
end
mutual
theorem PV.VV{n:Nat}{r r':Ren}(h:∀i,i<n->r i=r' i):∀v:PV,v.bound n=true->v.ren r=v.ren r'
 | .osl o s off len,hb=>by simp only[PV.bound,dT_]at hb;simp only[PV.ren,h o hb]
 | .ptr o s i c,hb=>by simp only[PV.bound,dT_]at hb;simp only[PV.ren,h o hb]
 | .map o,hb=>by simp only[PV.bound,dT_]at hb;simp only[PV.ren,h o hb]
 | .sl s rows,hb=>by simp only[PV.bound]at hb;simp only[PV.ren,PV.KZ h rows hb]
 | .aU cs,hb=>by simp only[PV.bound]at hb;simp only[PV.ren,PV.tE h cs hb]
 | .fn _ cs,hb=>by simp only[PV.bound]at hb;simp only[PV.ren,PV.tE h cs hb]
 | .agg cs,hb=>by simp only[PV.bound]at hb;simp only[PV.ren,PV.tE h cs hb]
 | .tup cs,hb=>by simp only[PV.bound]at hb;simp only[PV.ren,PV.tE h cs hb]
 | .int _ _,_=>rfl
 | .bool _,_=>rfl
 | .str _,_=>rfl
 | .aG,_=>rfl
 | .lit _,_=>rfl
 | .junk,_=>rfl
theorem PV.tE{n:Nat}{r r':Ren}(h:∀i,i<n->r i=r' i):∀l:V_,PV.bounds n l=true->PV.mQ r l=PV.mQ r' l
 |[],_=>rfl
 |v::vs,hb=>by simp only[PV.bounds,asV]at hb;rw[PV.mQ,PV.mQ,PV.VV h v hb.1,PV.tE h vs hb.2]
theorem PV.KZ{n:Nat}{r r':Ren}(h:∀i,i<n->r i=r' i):∀l:P2_,PV.eS n l=true->PV.mU r l=PV.mU r' l
 |[],_=>rfl
 |v::vs,hb=>by simp only[PV.eS,asV]at hb;rw[PV.mU,PV.mU,PV.tE h v hb.1,PV.KZ h vs hb.2]
end
mutual
theorem PV.Sy:∀v:PV,v.ren (up id)=v
 | .osl o s off len=>rfl
 | .ptr o s i c=>rfl
 | .map o=>rfl
 | .sl s rows=>by simp only[PV.ren,PV.E7 rows]
 | .aU cs=>by simp only[PV.ren,PV.BP cs]
 | .fn _ cs=>by simp only[PV.ren,PV.BP cs]
 | .agg cs=>by simp only[PV.ren,PV.BP cs]
 | .tup cs=>by simp only[PV.ren,PV.BP cs]
 | .int _ _=>rfl
 | .bool _=>rfl
 | .str _=>rfl
 | .aG=>rfl
 | .lit _=>rfl
 | .junk=>rfl
theorem PV.BP:∀l:V_,PV.mQ (up id) l=l
 |[]=>rfl
 |v::vs=>by rw[PV.mQ,PV.Sy v,PV.BP vs]
theorem PV.E7:∀l:P2_,PV.mU (up id) l=l
 |[]=>rfl
 |v::vs=>by rw[PV.mU,PV.BP v,PV.E7 vs]
end
theorem PV.oQ{v:PV}(h:v.bound 0=true)(r:Ren):v.ren r=v:=(PV.VV (r':=up id) (λi hi=>absurd hi (Nat.not_lt_zero i)) v h).trans (PV.Sy v)
theorem PV.mT{l:V_}(h:PV.bounds 0 l=true)(r:Ren):l.map (PV.ren r)=l:=by
 rw[<-PV.gJ];exact(PV.tE (r':=up id) (λi hi=>absurd hi (Nat.not_lt_zero i)) l h).trans (PV.BP l)
theorem yY(r:Ren)(v:PV):(v.ren r).cells=v.cells.map (PV.ren r):=by
 cases v<;>simp only[PV.ren,PV.cells,PV.gJ,atU,auH]
theorem aeB(r:Ren)(v:PV):(v.ren r).one=v.one:=by
 cases v<;>simp only[PV.ren,PV.one]
theorem xF(r:Ren)(l:V_):(l.map (PV.ren r)).all PV.one=l.all PV.one:=by
 rw[List.all_map];congr 1;exact funext λv=>aeB r v
theorem IH(r:Ren):∀(vs:V_)(l:V_)(c:Nat),(setCells l c vs).map (PV.ren r)=setCells (l.map (PV.ren r)) c (vs.map (PV.ren r))
 |[],_,_=>rfl
 |v::vs,l,c=>by simp only[setCells,atU];rw[IH r vs,avP]
theorem aeA{r:Ren}{op:BinOp}{x y v:PV}(h:PV.bin op x y=some v):PV.bin op (x.ren r) (y.ren r)=some (v.ren r):=by
 have e:∀{k:IntKind}{n:Int},(PV.int k n).ren r=.int k n:=rfl;cases x<;>cases y<;>try (cases op<;>simp[PV.bin]at h;done)
 simp only[PV.ren];rw[h];congr 1;revert h;unfold PV.bin;cases op<;>simp only[shift,pG]<;>intro h<;>(repeat' split at h)<;>cases h<;>rfl;simp only[PV.ren];rw[h];congr 1;revert h;unfold PV.bin;cases op<;>simp only[MG]<;>intro h<;>(repeat' split at h)<;>cases h<;>rfl
def aS.ren(r:Ren)(pre:P2_):aS->aS
 | .rows s rs=>.rows s (pre++rs.map λx=>x.map (PV.ren r))
 | .map sh g=>.map sh λk=>(g k).map (PV.ren r)
 | .loop F n t a b=>.loop F n t a b
 | .dead=>.dead
def PF.ren(r:Ren)(F:PF):PF:=λi=>(F i).map (PV.ren r)
def KJ(r:Ren)(h H:PH):Prop:=∀i x,h i=some x->H (r i).1=some (x.ren r (r i).2)
theorem KJ.ex{r:Ren}{h H:PH}(e:KJ r h H){i:Nat}{x:aS}(l:h i=some x):∃pre:P2_,(r i).2.length=Z' pre/\(r i).2=pre/\H (r i).1=some (x.ren r pre):=⟨_,rfl,rfl,e i x l⟩
theorem ML{α:Type}:∀(pre l:List α)(k:Nat),(pre++l).drop (k+Z' pre)=l.drop k
 |[],l,k=>rfl
 |x::pre,l,k=>by rw[atZ,<-avZ];exact ML pre l k
theorem Cz{α:Type}:∀(pre l:List α)(k:Nat),(pre++l)[k+Z' pre]?=l[k]?
 |[],l,k=>rfl
 |x::pre,l,k=>by rw[atZ,<-avZ,awD,List.getElem?_cons_succ];exact Cz pre l k
theorem Tn{α:Type}(y:α):∀(pre l:List α)(k:Nat),(pre++l).set (k+Z' pre) y=pre++l.set k y
 |[],l,k=>rfl
 |x::pre,l,k=>by rw[atZ,<-avZ,awD,List.set_cons_succ,Tn y pre l k];rfl
def aP.clo:aP->Bool
 | .tmp _=>true
 | .const v=>v.bound 0
section
variable {r:Ren} {F:PF} {h H:PH}
theorem dO{x:aP}{v:PV}(i:x.clo=true)(e:x.ev F=some v):x.ev (F.ren r)=some (v.ren r):=by
 cases x with
 |tmp t=>simp only[aP.ev]at e ⊢;simp only[PF.ren,e,atO]
 |const u=>simp only[aP.ev,auY.injEq]at e ⊢;subst e;exact(PV.oQ i r).symm
theorem GB:∀{l:List aP}{vs:V_},l.all aP.clo=true->aP.evs F l=some vs->aP.evs (F.ren r) l=some (vs.map (PV.ren r))
 |[],vs,_,e=>by cases e;rfl
 |x::xs,vs,i,e=>by simp only[awS,asV]at i;simp only[aP.evs]at e ⊢;split at e;rename_i v y u w;cases e;rw[dO i.1 u,GB i.2 w];rfl;cases e
theorem aiL{op:UnOp}{x v:PV}(e:PV.un op x=some v):PV.un op (x.ren r)=some (v.ren r):=by
 unfold PV.un at e;split at e;split at e<;>cases e<;>rfl;split at e<;>cases e;rfl;cases e
theorem vd:∀{l:List (Nat × Nat × aP)}{cells v:V_},(l.all λx=>x.2.2.clo)=true->qN cells F l=some v->qN (cells.map (PV.ren r)) (F.ren r) l=some (v.map (PV.ren r))
 |[],_,_,_,e=>by cases e;rfl
 |(off,size,x)::l,cells,v,i,e=>by simp only[awS,asV]at i;simp only[qN]at e ⊢;split at e;rename_i w u;rw[dO i.1 u];simp only[yY,xF,asO];split at e;rename_i y;rw[aF y,<-IH];exact vd i.2 e;cases e;cases e
theorem HH{size:Nat}:∀{l:List (Nat × aP)}{rows v:P2_},(l.all λx=>x.2.clo)=true->iB size rows F l=some v ->
  iB size (rows.map λx=>x.map (PV.ren r)) (F.ren r) l=some (v.map λx=>x.map (PV.ren r))
 |[],_,_,_,e=>by cases e;rfl
 |(i,x)::l,rows,v,u,e=>by simp only[awS,asV]at u;simp only[iB]at e ⊢;split at e;rename_i w y;rw[dO u.1 y];simp only[yY,xF,asO];split at e;rename_i A;rw[aF A,<-avP];exact HH u.2 e;cases e;cases e
theorem xM(A:KJ r h H){p:PV}{n:Nat}{v:V_}(e:loadCells h p n=some v):loadCells H (p.ren r) n=some (v.map (PV.ren r)):=by
 unfold loadCells at e;split at e;split at e;rename_i o size i c s rs x;obtain⟨pre,l,-,w⟩:=A.ex x;simp only[aS.ren]at w;simp only[PV.ren,loadCells,w,l,Cz];split at e;rename_i u;rw[aF u,atC];split at e;rename_i q y;rw[y];simp only[atO,asO];split at e;rename_i h5;rw[aF h5,<-List.map_drop,<-List.map_take];cases e;rfl;cases e;cases e;cases e;cases e;simp only[PV.ren,loadCells,PV.gJ,asO];split at e;rename_i u;rw[aF u,<-List.map_take];cases e;rfl;cases e;cases e
theorem IQ(y:KJ r h H){s:Nat}{p:PV}{v:P2_}(e:dG h s p=some v):dG H s (p.ren r)=some (v.map λx=>x.map (PV.ren r)):=by
 unfold dG at e;split at e;cases e;rfl;simp only[PV.ren,dG,PV.kT];split at e;rename_i l;rw[aF l];cases e;rfl;cases e;split at e;rename_i l;split at e;rename_i w;obtain⟨pre,i,-,u⟩:=y.ex w;simp only[aS.ren]at u;simp only[PV.ren,dG,u,i,ML,asO,asX];rw[aF l];split at e;rename_i A;rw[aF Om,<-List.map_drop,<-List.map_take];cases e;rfl;cases e;cases e;cases e;cases e
theorem su{d n:Int}{x:Option aP}(l:(x.all aP.clo)=true)(e:bnd F d x=some n):bnd (F.ren r) d x=some n:=by
 cases x with
 |none=>exact e
 |some x=>
  simp only[bnd]at e ⊢;cases i:x.ev F with
  |none=>rw[i]at e;cases e
  |some v =>rw[i]at e;rw[dO (by simpa using l) i];cases v<;>first|exact e|cases e
theorem xx{size:Nat}{x v:PV}{l m:Int}{mx:Option Int}(e:PV.slice size x l m mx=some v):PV.slice size (x.ren r) l m mx=some (v.ren r):=by
 unfold PV.slice at e;split at e;split at e;rename_i i;cases e;simp only[PV.ren,PV.slice];rw[aF i];cases e;split at e;rename_i i;cases e;simp only[PV.ren,PV.slice,PV.kT,asO];rw[aF i,<-List.map_take,<-List.map_drop];cases e;split at e;rename_i i;cases e;simp only[PV.ren,PV.slice];rw[aF i,Nat.add_right_comm];cases e;cases e
theorem M0{x:PV}{b:Bool}(e:PV.tN x=some b):PV.tN (x.ren r)=some b:=by
 unfold PV.tN at e;split at e<;>first|exact e|cases e
theorem Wt{x v:PV}(e:PV.sX x=some v):PV.sX (x.ren r)=some (v.ren r):=by
 unfold PV.sX at e;split at e<;>cases e<;>simp only[PV.ren,PV.sX,PV.kT,asO]
end
def POp.clo:POp->Bool
 | .mv x | .un _ x | .conv _ x | .box _ x | .load _ x | .arP x | .asF _ x | .len x | .isNil _ x | .extract x _=>x.clo
 | .pick c a b=>c.clo&&(a.clo&&b.clo)
 | .bin _ x y | .eqb _ x y | .arT _ x y | .idxA _ _ x y | .asD x y | .arX _ x y | .store _ x y | .append _ _ x y=>x.clo&&y.clo
 | .alloc cells=>PV.bounds 0 cells
 | .build zero parts=>PV.bounds 0 zero&&parts.all λx=>x.2.2.clo
 | .arH _ _ _ zero parts=>PV.bounds 0 zero&&parts.all λx=>x.2.clo
 | .slice _ x lo hi mx=>x.clo&&(lo.all aP.clo&&(hi.all aP.clo&&mx.all aP.clo))
 | .arK _ _ zero l c=>PV.bounds 0 zero&&(l.clo&&c.clo)
 | .mkfn _ l=>l.all aP.clo
 | .call _ l=>l.all aP.clo
 | .asE x l=>x.clo&&l.all aP.clo
 |_=>false
section
variable {r:Ren} {F:PF} {h H:PH}
theorem VQ(J:KJ r h H){op:POp}{v:PV}(A:op.clo=true)(e:aX op F h=some v):aX op (F.ren r) H=some (v.ren r):=by
 cases op<;>try (simp[aX]at e;done)
 all_goals try (simp[POp.clo]at A;done)
 case mv x=>exact dO A e
 case pick c a b=>
  simp only[POp.clo,asV]at A;simp only[aX]at e ⊢;split at e
  ·rename_i t u;rw[dO A.1 u];cases t with
   |true=>exact dO A.2.1 e
   |false=>exact dO A.2.2 e
  ·cases e
 case bin op x y=>
  simp only[POp.clo,asV]at A;simp only[aX]at e ⊢;split at e
  ·rename_i a b u B;rw[dO A.1 u,dO A.2 B];exact aeA e
  ·cases e
 case eqb n x y=>
  simp only[POp.clo,asV]at A;simp only[aX]at e ⊢;split at e
  ·rename_i a b u B;rw[dO A.1 u,dO A.2 B];cases e;rfl
  ·cases e
 case un op x=>
  simp only[aX]at e ⊢;split at e
  ·rename_i a u;rw[dO A u];exact aiL e
  ·cases e
 case conv k x=>
  simp only[aX]at e ⊢;split at e
  ·rename_i L n u;rw[dO A u];cases e;rfl
  ·cases e
 case box ro x=>
  cases ro with
  |false=>simp[aX]at e
  |true=>
   simp only[aX]at e ⊢;split at e
   ·rename_i a u;rw[dO A u];simp only[yY,xF];split at e
    ·rename_i B;rw[aF B];cases e;simp only[PV.ren,PV.gJ]
    ·cases e
   ·cases e
 case build zero parts=>
  simp only[POp.clo,asV]at A;simp only[aX]at e ⊢;cases u:qN zero F parts with
  |none=>rw[u]at e;cases e
  |some w =>rw[u]at e;have B:=vd (r:=r) A.2 u;rw[PV.mT A.1]at B;rw[B];cases e;simp only[atO,PV.ren,PV.gJ]
 case arH ro size len zero parts=>
  cases ro with
  |false=>simp[aX]at e
  |true=>
   simp only[POp.clo,asV]at A;simp only[aX]at e ⊢;split at e
   ·rename_i K;rw[aF K];cases u:iB size (asT len zero) F parts with
    |none=>rw[u]at e;cases e
    |some w =>rw[u]at e;have B:=HH (r:=r) A.2 u;rw[List.map_replicate,PV.mT A.1]at B;rw[B];cases e;simp only[atO,PV.ren,PV.kT]
   ·cases e
 case load n p=>
  cases n with
  |none=>
   simp only[aX]at e ⊢;split at e
   ·rename_i a u;rw[dO A u];split at e
    ·rename_i w B;have D:=xM J B;simp only[atU,auH]at D;simp only[D];cases e;rfl
    ·cases e
   ·cases e
  |some n=>
   simp only[aX]at e ⊢;split at e
   ·rename_i a u;rw[dO A u];cases B:loadCells h a n with
    |none=>rw[B]at e;cases e
    |some w =>rw[B]at e;simp only[xM J B];cases e;simp only[atO,PV.ren,PV.gJ]
   ·cases e
 case arP x=>
  simp only[aX]at e ⊢;split at e
  ·rename_i u;rw[dO A u];cases e;rfl
  ·rename_i u;rw[dO A u];cases e;rfl
  ·cases e
 case asF off x=>
  simp only[aX]at e ⊢;split at e
  ·rename_i u;rw[dO A u];cases e;rfl
  ·rename_i u;rw[dO A u];cases e;simp only[PV.ren,PV.gJ,List.map_drop]
  ·cases e
 case arT size x i=>
  simp only[POp.clo,asV]at A;simp only[aX]at e ⊢;split at e
  ·rename_i s rows k n u B;rw[dO A.1 u,dO A.2 B];simp only[PV.ren,PV.kT];split at e
   ·rename_i D;rw[aF D,atC];split at e
    ·rename_i q E;rw[E];cases e;simp only[atO,PV.ren,PV.gJ]
    ·cases e
   ·cases e
  ·rename_i o s off len k n u B;rw[dO A.1 u,dO A.2 B];simp only[PV.ren];split at e
   ·rename_i D;rw[aF D];cases e;simp only[PV.ren,Nat.add_right_comm]
   ·cases e
  ·cases e
 case idxA n size x i=>
  simp only[POp.clo,asV]at A;simp only[aX]at e ⊢;split at e
  ·rename_i u B;rw[dO A.1 u,dO A.2 B];simp only[PV.ren];split at e
   ·rename_i D;rw[aF D];cases e;rfl
   ·cases e
  ·rename_i u B;rw[dO A.1 u,dO A.2 B];simp only[PV.ren,PV.gJ];split at e
   ·rename_i D;rw[aF D];cases e;simp only[PV.ren,PV.gJ,List.map_drop]
   ·cases e
  ·cases e
 case asD x i=>
  simp only[POp.clo,asV]at A;simp only[aX]at e ⊢;split at e
  ·rename_i s k n u B;rw[dO A.1 u,dO A.2 B];simp only[PV.ren];split at e
   ·rename_i D;rw[aF D];cases E:s[n.toNat]? with
    |none=>rw[E]at e;cases e
    |some b=>rw[E]at e;cases e;rfl
   ·cases e
  ·cases e
 case len x=>
  simp only[aX]at e ⊢;cases u:x.ev F with
  |none=>rw[u]at e;cases e
  |some a=>rw[u]at e;rw[dO A u];exact Wt e
 case isNil n x=>
  simp only[aX]at e ⊢;cases u:x.ev F with
  |none=>rw[u]at e;cases e
  |some a=>
   rw[u]at e;rw[dO A u];simp only[awQ]at e ⊢;cases B:a.tN with
   |none=>rw[B]at e;cases e
   |some b=>rw[B]at e;rw[M0 B];cases e;rfl
 case extract x i=>
  simp only[aX]at e ⊢;split at e
  ·rename_i vs u;rw[dO A u];simp only[PV.ren,PV.gJ];rw[atC,e];rfl
  ·cases e
 case arX mx x y=>
  simp only[POp.clo,asV]at A;simp only[aX]at e ⊢;split at e
  ·rename_i u B;rw[dO A.1 u,dO A.2 B];simp only[PV.ren];split at e
   ·rename_i D;rw[aF D];cases e;rfl
   ·cases e
  ·cases e
 case mkfn name l=>
  simp only[aX]at e ⊢;cases u:aP.evs F l with
  |none=>rw[u]at e;cases e
  |some vs =>rw[u]at e;rw[GB A u];cases e;simp only[atO,PV.ren,PV.gJ]
 case slice size x lo hi mx=>
  simp only[POp.clo,asV]at A;simp only[aX]at e ⊢;split at e
  ·rename_i a u;rw[dO A.1 u];cases a<;>try (simp at e;done)
   all_goals
    simp only[PV.ren,PV.kT,asO]at e ⊢;split at e
    ·rename_i l m B D;rw[su A.2.1 B,su A.2.2.1 D];simp only;cases mx with
     |none =>simp only at e ⊢;have E:=xx (r:=r) e;simpa only [PV.ren,PV.kT]using E
     |some q=>
      simp only at e ⊢;cases h5:bnd F 0 (some q)with
      |none=>rw[h5]at e;cases e
      |some z =>rw[h5]at e;rw[su A.2.2.2 h5];have E:=xx (r:=r) (by simpa using e);simpa only [PV.ren,PV.kT,awQ]using E
    ·cases e
  ·cases e
end
inductive Fr where
 |nil
 |node (v:Option PV) (l r:Fr)
def Fr.pf:Fr->PF
 | .nil,_=>none
 | .node v l r,i=>cond (auR i 0) v (cond (auR (i%2) 1) (l.pf (i/2)) (r.pf (i/2-1)))
def Fr.set:Fr->Nat->PV->Fr
 | .nil,_,_=>.nil
 | .node v l r,i,x=>cond (auR i 0) (.node (some x) l r) (cond (auR (i%2) 1) (.node v (l.set (i/2) x) r) (.node v l (r.set (i/2-1) x)))
def Fr.has:Fr->Nat->Bool
 | .nil,_=>false
 | .node _ l r,i=>cond (auR i 0) true (cond (auR (i%2) 1) (l.has (i/2)) (r.has (i/2-1)))
def Fr.put(l:Fr)(d:O_)(v:PV):Fr:=match d with
 |none=>l
 |some d=>l.set d v
def Fr.fits(l:Fr)(d:O_):Bool:=match d with
 |none=>true
 |some d=>l.has d
theorem By(i j:Nat):auR i j=decide (i=j):=by
 rw[Bool.eq_iff_iff,Nat.beq_eq,dT_]
theorem Fr.pt:∀{l:Fr}{d:Nat}{v:PV},l.has d=true->(l.set d v).pf=λi=>if i=d then some v else l.pf i
 | .nil,d,v,h=>by cases h
 | .node w l r,d,v,h=>by funext i;simp only[Fr.has,Fr.set,By]at h ⊢;by_cases y:d=0;subst y;simp only[decide_true,cond_true,Fr.pf,By];by_cases x:i=0<;>simp[x];simp only[y,decide_false,cond_false]at h ⊢;by_cases A:d%2=1;simp only[A,decide_true,cond_true]at h ⊢;simp only[Fr.pf,By,Fr.pt h];by_cases x:i=0;simp only[x,decide_true,cond_true];rw[aC (λe=>y e.symm)];simp only[x,decide_false,cond_false];by_cases u:i%2=1;simp only[u,decide_true,cond_true];by_cases e:i=d;rw[aF e,aF (by rw[e])];rw[aC e,aC Om];simp only[u,decide_false,cond_false];rw[aC (by intro e;rw[e]at u;exact u A)];simp only[A,decide_false,cond_false]at h ⊢;simp only[Fr.pf,By,Fr.pt h];by_cases x:i=0;simp only[x,decide_true,cond_true];rw[aC (λe=>y e.symm)];simp only[x,decide_false,cond_false];by_cases u:i%2=1;simp only[u,decide_true,cond_true];rw[aC (by intro e;rw[e]at u;exact A u)];simp only[u,decide_false,cond_false];by_cases e:i=d;rw[aF e,aF (by rw[e])];rw[aC e,aC Om]
theorem Fr.Sp{l:Fr}{d:O_}{v:PV}(h:l.fits d=true):(l.put d v).pf=l.pf.put d v:=by
 cases d with
 |none=>rfl
 |some d =>simp only[Fr.put];rw[Fr.pt h];rfl
def Fr.empty:Nat->Fr
 |0=>.nil
 |n+1=>.node none (Fr.empty n) (Fr.empty n)
theorem Fr.Cj:∀(n i:Nat),(Fr.empty n).pf i=none
 |0,i=>rfl
 |n+1,i=>by simp only[Fr.empty,Fr.pf,By];cases decide (i=0)<;>cases decide (i%2=1)<;>simp[Fr.Cj n]
def Fr.args:V_->Nat->Fr->Option Fr
 |[],_,f=>some f
 |v::vs,k,f=>cond (f.has k) (Fr.args vs (k+1) (f.set k v)) none
theorem Fr.I1:∀{vs:V_}{k:Nat}{f g:Fr},Fr.args vs k f=some g->g.pf=λi=>if i<k then f.pf i else match vs[i-k]? with|some v=>some v|none=>f.pf i
 |[],k,f,g,h=>by cases h;funext i;split<;>simp
 |v::vs,k,f,g,h=>by
  simp only[Fr.args]at h;cases e:f.has k with
  |false=>rw[e]at h;cases h
  |true=>
   rw[e]at h;rw[Fr.I1 h,Fr.pt e];funext i;show(if i<k+1 then(if i=k then some v else f.pf i)else match vs[i-(k+1)]? with|some w=>some w|none=>(if i=k then some v else f.pf i))=if i<k then f.pf i else match(v::vs)[i-k]? with|some w=>some w|none=>f.pf i
   rcases Nat.lt_trichotomy i k with c|c|c
   rw[aF Om,aC Om,aF c];subst c;rw[aF Om,aF rfl,aC Om,auK];rfl;rw[aC Om,aC Om,aC Om];obtain⟨d,l⟩:∃d,i-k=d+1:=⟨i-k-1,by omega⟩;rw[l,show i-(k+1)=d by omega];rfl
abbrev Hp:=List aS
def aS.live:aS->Option aS
 | .dead=>none
 | .loop ..=>none
 |x=>some x
def Hp.ph(l:Hp):PH:=⟨λo=>(l[o]?).bind aS.live,Z' l,λo e=>by simp[auE e]⟩
theorem Hp.kX(l:Hp)(o:Nat):l.ph o=(l[o]?).bind aS.live:=rfl
def aS.Bd(n:Nat):aS->Prop
 | .rows _ rs=>PV.eS n rs=true
 | .map _ g=>∀k v,g k=some v->v.bound 0=true
 |_=>True
def s7(n:Nat)(f:Fr):Prop:=∀i v,f.pf i=some v->v.bound n=true
structure Rl(r:Ren)(f:Fr)(h:Hp)(F:PF)(H:PH):Prop where
 fr:F=f.pf.ren r
 hp:KJ r h.ph H
 inj:∀i j x y,h.ph i=some x->h.ph j=some y->(r i).1=(r j).1->i=j
 fb:s7 h.length f
 hb:∀x∈h,aS.Bd h.length x
 pc:∀i x,h.ph i=some x->PV.eS 0 (r i).2=true
def iC(n:Nat)(r r':Ren):Prop:=∀i,i<n->r i=r' i
mutual
theorem PV.vZ{n m:Nat}(h:n<=m):∀v:PV,v.bound n=true->v.bound m=true
 | .osl o s off len,hb=>by simp only[PV.bound,dT_]at hb ⊢;omega
 | .ptr o s i c,hb=>by simp only[PV.bound,dT_]at hb ⊢;omega
 | .map o,hb=>by simp only[PV.bound,dT_]at hb ⊢;omega
 | .sl s rows,hb=>by simp only[PV.bound]at hb ⊢;exact PV.zO h rows hb
 | .aU cs,hb=>by simp only[PV.bound]at hb ⊢;exact PV.rA h cs hb
 | .fn _ cs,hb=>by simp only[PV.bound]at hb ⊢;exact PV.rA h cs hb
 | .agg cs,hb=>by simp only[PV.bound]at hb ⊢;exact PV.rA h cs hb
 | .tup cs,hb=>by simp only[PV.bound]at hb ⊢;exact PV.rA h cs hb
 | .int _ _,_=>rfl
 | .bool _,_=>rfl
 | .str _,_=>rfl
 | .aG,_=>rfl
 | .lit _,_=>rfl
 | .junk,_=>rfl
theorem PV.rA{n m:Nat}(h:n<=m):∀l:V_,PV.bounds n l=true->PV.bounds m l=true
 |[],_=>rfl
 |v::vs,hb=>by simp only[PV.bounds,asV]at hb ⊢;exact⟨PV.vZ h v hb.1,PV.rA h vs hb.2⟩
theorem PV.zO{n m:Nat}(h:n<=m):∀l:P2_,PV.eS n l=true->PV.eS m l=true
 |[],_=>rfl
 |v::vs,hb=>by simp only[PV.eS,asV]at hb ⊢;exact⟨PV.rA h v hb.1,PV.zO h vs hb.2⟩
end
def PV.CS(n:Nat)(v:PV):Bool:=cond (v.bound 0) true (v.bound n)
theorem PV.zN{n:Nat}{v:PV}(h:v.CS n=true):v.bound n=true:=by
 unfold PV.CS at h;cases e:v.bound 0 with
 |true=>exact PV.vZ (asQ _) v e
 |false=>rw[e]at h;exact h
theorem aS.Bd.mono{n m:Nat}(h:n<=m){x:aS}(hb:x.Bd n):x.Bd m:=by
 cases x with
 |rows s rs=>exact PV.zO h rs hb
 |map sh g=>exact hb
 |loop=>trivial
 |dead=>trivial
theorem aS.oZ{n:Nat}{r r':Ren}(h:iC n r r'){x:aS}(hb:x.Bd n)(pre:P2_):x.ren r pre=x.ren r' pre:=by
 cases x with
 |rows s rs=>simp only[aS.ren,<-PV.kT];rw[PV.KZ h rs hb]
 |map sh g=>
  simp only[aS.ren];congr 1;funext k;cases e:g k with
  |none=>rfl
  |some v=>rw[atO,atO,PV.oQ (hb k v e),PV.oQ (hb k v e)]
 |loop=>rfl
 |dead=>rfl
theorem PF.oZ{n:Nat}{r r':Ren}(h:iC n r r'){f:Fr}(hb:s7 n f):f.pf.ren r=f.pf.ren r':=by
 funext i;unfold PF.ren;cases e:f.pf i with
 |none=>rfl
 |some v=>rw[atO,atO,PV.VV h v (hb i v e)]
theorem PF.aeC(r:Ren)(F:PF)(d:O_)(v:PV):(F.put d v).ren r=(F.ren r).put d (v.ren r):=by
 cases d with
 |none=>rfl
 |some d =>funext i;simp only[PF.put,PF.ren,PF.set,upd];split<;>rfl
theorem lY{l:Hp}{o:Nat}{x:aS}(h:l.ph o=some x):l[o]?=some x/\o<Z' l:=by
 rw[Hp.kX]at h;cases e:l[o]? with
 |none=>rw[e]at h;cases h
 |some y=>
  rw[e]at h;have hlt:=(atX.1 e).1;cases y with
  |dead=>cases h
  |loop=>cases h
  |rows=>cases h;exact⟨rfl,hlt⟩
  |map=>cases h;exact⟨rfl,hlt⟩
theorem Hp.HZ{l:Hp}{o:Nat}{x:aS}(u:o<Z' l)(q:Nat):Hp.ph (l.set o x) q=if q=o then x.live else l.ph q:=by
 rw[Hp.kX,Hp.kX,avY];by_cases e:o=q;subst e;rw[aF rfl,aF u,aF rfl];rfl;rw[aC e,aC (λi=>e i.symm)]
theorem Hp.wL{l:Hp}{x:aS}(q:Nat):Hp.ph (l++[x]) q=if q=l.length then x.live else l.ph q:=by
 rw[Hp.kX,Hp.kX];by_cases e:q=Z' l;subst e;rw[aF rfl,auS (asU _),auK];rfl;rw[aC e];rcases atY q l.length with h|h
 rw[avM h];rw[auS h,auE (show[x].length<=q-l.length by simp;omega),auE h]
theorem aS.DC{x y:aS}(h:x.live=some y):x=y:=by
 cases x<;>first|cases h;done|(cases h;rfl)
section
variable {r:Ren} {f:Fr} {h:Hp} {F:PF} {H:PH}
theorem Rl.push(R:Rl r f h F H){x:aS}(E:x.Bd h.length){o:Nat}(L:H o=none) :
  Rl (λi=>if i=h.length then(o,[])else r i) f (h++[x]) F (H.set o (x.ren r []))/\iC h.length r (λi=>if i=h.length then(o,[])else r i):=by
 have A:iC h.length r (λi=>if i=h.length then(o,[])else r i):=λi hi=>by
  show r i=if i=h.length then(o,[])else r i
  rw[aC Om]
 have l:∀i y,h.ph i=some y->(r i).1≠o:=λi y hy e=>by have this:=R.hp i y hy;rw[e,L]at this;cases this
 have D:(h++[x]).length=Z' h+1:=by simp
 refine⟨⟨?_,λi y hy=>?_,λi j y z hy w e=>?_,λi v M=>?_,λy hy=>?_,λi y hy=>?_⟩,A⟩;rw[R.fr];exact PF.oZ A R.fb;rw[Hp.wL]at hy;by_cases e:i=Z' h;rw[aF e]at hy;have:=aS.DC hy;subst this;show(H.set o (x.ren r [])) (if i=h.length then((o,[]):Nat × P2_)else r i).1=some (x.ren _ (if i=h.length then((o,[]):Nat × P2_)else r i).2);rw[aF e,aS.oZ A E];simp[PH.set,PH.upd,upd];rw[aC e]at hy;have B:=R.hp i y hy;show(H.set o (x.ren r [])) (if i=h.length then((o,[]):Nat × P2_)else r i).1=some (y.ren _ (if i=h.length then((o,[]):Nat × P2_)else r i).2);rw[aC e];have J:=lY hy;rw[aS.oZ A (R.hb y (auZ J.1))]at B;have K:=l i y hy;simp only[PH.set,PH.upd,upd];rw[aC K];exact B;rw[Hp.wL]at hy w
 try simp only at e
 by_cases u:i=Z' h;by_cases e2:j=Z' h;omega;rw[aF u,aC e2]at e;rw[aC e2]at w;exact absurd e.symm (l j z w);by_cases e2:j=Z' h;rw[aC u,aF e2]at e;rw[aC u]at hy;exact absurd e (l i y hy);rw[aC u,aC e2]at e;rw[aC u]at hy;rw[aC e2]at w;exact R.inj i j y z hy w e;rw[D];exact PV.vZ (Nat.le_succ _) v (R.fb i v M);rw[D];rcases auC.1 hy with hy|hy
 exact(R.hb y hy).mono (Nat.le_succ _);rw[auB]at hy;subst hy;exact E.mono (Nat.le_succ _);show PV.eS 0 (if i=h.length then((o,[]):Nat × P2_)else r i).2=true;by_cases e:i=Z' h;rw[aF e];rfl;rw[aC e];rw[Hp.wL,aC e]at hy;exact R.pc i y hy
theorem Rl.jk(R:Rl r f h F H){o:Nat}{x y:aS}(B:h.ph o=some x)(M:y.Bd h.length):Rl r f (h.set o y) F (H.set (r o).1 (y.ren r (r o).2)):=by
 have hlt:=(lY B).2;refine⟨R.fr,λi z l=>?_,λi j z w l D e=>?_,λi v L=>?_,λz l=>?_,λi z l=>?_⟩;rw[Hp.HZ hlt]at l;by_cases e:i=o;rw[aF e]at l;have:=aS.DC l;subst this;subst e;simp[PH.set,PH.upd,upd];rw[aC e]at l;have A:=R.hp i z l;simp only[PH.set,PH.upd,upd];rw[aC (λK=>e (R.inj i o z x l B K))];exact A;rw[Hp.HZ hlt]at l D;have h1:∃J,h.ph i=some J:=by by_cases u:i=o;subst u;exact⟨x,B⟩;rw[aC u]at l;exact⟨z,l⟩
 have A:∃E,h.ph j=some E:=by by_cases u:j=o;subst u;exact⟨x,B⟩;rw[aC u]at D;exact⟨w,D⟩
 obtain⟨J,h1⟩:=h1;obtain⟨E,A⟩:=A;exact R.inj i j J E h1 A e;rw[auD];exact R.fb i v L;rw[auD];rcases axB l with h1|h1
 exact R.hb z h1;subst h1;exact M;rw[Hp.HZ hlt]at l;by_cases u:i=o;subst u;exact R.pc i x B;rw[aC u]at l;exact R.pc i z l
theorem Rl.drop(R:Rl r f h F H)(o:Nat):Rl r f (h.set o .dead) F H:=by
 have u:∀i z,Hp.ph (h.set o .dead) i=some z->h.ph i=some z:=λi z l=>by rw[Hp.kX,avY]at l;by_cases e:o=i;rw[aF e]at l;split at l<;>cases l;rw[aC e]at l;exact l
 refine⟨R.fr,λi z l=>R.hp i z (u i z l),λi j z w l y e=>R.inj i j z w (u i z l) (u j w y) e,λi v x=>?_,λz l=>?_,λi z l=>R.pc i z (u i z l)⟩;rw[auD];exact R.fb i v x;rw[auD];rcases axB l with h1|h1
 exact R.hb z h1;subst h1;trivial
theorem Rl.move(R:Rl r f h F H){o:Nat}{x y:aS}(J:h.ph o=some x)(N:y.Bd h.length)(pre:P2_)(B:PV.eS 0 pre=true) :
  Rl (λi=>if i=h.length then((r o).1,pre)else r i) f (h.set o .dead++[y]) F (H.set (r o).1 (y.ren r pre))/\iC h.length r (λi=>if i=h.length then((r o).1,pre)else r i):=by
 have hlt:=(lY J).2;have E:iC h.length r (λi=>if i=h.length then((r o).1,pre)else r i):=λi hi=>by
  show r i=if i=h.length then((r o).1,pre)else r i
  rw[aC Om]
 have D:(h.set o .dead).length=Z' h:=auD ..;have l:∀i z,i≠Z' h->Hp.ph (h.set o .dead++[y]) i=some z->i≠o/\h.ph i=some z:=λi z hi hz=>by rw[Hp.wL,D,aC hi,Hp.HZ hlt]at hz;by_cases e:i=o;rw[aF e]at hz;cases hz;rw[aC e]at hz;exact⟨e,hz⟩
 have L:(h.set o .dead++[y]).length=Z' h+1:=by simp
 refine⟨⟨?_,λi z hz=>?_,λi j z w hz M e=>?_,λi v S=>?_,λz hz=>?_,λi z hz=>?_⟩,E⟩;rw[R.fr];exact PF.oZ E R.fb;by_cases e:i=Z' h;rw[Hp.wL,D,aF e]at hz;have:=aS.DC hz;subst this;show(H.set (r o).1 (y.ren r pre)) (if i=h.length then(((r o).1,pre):Nat × P2_)else r i).1=some (y.ren _ (if i=h.length then(((r o).1,pre):Nat × P2_)else r i).2);rw[aF e,<-aS.oZ E N];simp[PH.set,PH.upd,upd];obtain⟨h1,u⟩:=l i z e hz;have K:=R.hp i z u;show(H.set (r o).1 (y.ren r pre)) (if i=h.length then(((r o).1,pre):Nat × P2_)else r i).1=some (z.ren _ (if i=h.length then(((r o).1,pre):Nat × P2_)else r i).2);rw[aC e];rw[aS.oZ E (R.hb z (auZ (lY u).1))]at K;simp only[PH.set,PH.upd,upd];rw[aC (λO=>h1 (R.inj i o z x u J O))];exact K
 try simp only at e
 by_cases A:i=Z' h;by_cases e2:j=Z' h;omega;rw[aF A,aC e2]at e;obtain⟨h1,u⟩:=l j w e2 M;exact absurd (R.inj o j x w J u e).symm h1;by_cases e2:j=Z' h;rw[aC A,aF e2]at e;obtain⟨h1,u⟩:=l i z A hz;exact absurd (R.inj i o z x u J e) h1;rw[aC A,aC e2]at e;exact R.inj i j z w (l i z A hz).2 (l j w e2 M).2 e;rw[L];exact PV.vZ (Nat.le_succ _) v (R.fb i v S);rw[L];rcases auC.1 hz with hz|hz
 rcases axB hz with h1|h1
 exact(R.hb z h1).mono (Nat.le_succ _);subst h1;trivial;rw[auB]at hz;subst hz;exact N.mono (Nat.le_succ _);show PV.eS 0 (if i=h.length then(((r o).1,pre):Nat × P2_)else r i).2=true;by_cases e:i=Z' h;rw[aF e];exact B;rw[aC e];exact R.pc i z (l i z e hz).2
theorem Rl.put(R:Rl r f h F H){d:O_}{v:PV}(l:f.fits d=true)(u:v.bound h.length=true):Rl r (f.put d v) h (F.put d (v.ren r)) H:=by
 refine⟨?_,R.hp,R.inj,λi w e=>?_,R.hb,R.pc⟩;rw[Fr.Sp l,PF.aeC,R.fr]
 ·rw[Fr.Sp l]at e;cases d with
  |none=>exact R.fb i w e
  |some d =>simp only[PF.put,PF.set,upd]at e;split at e;cases e;exact u;exact R.fb i w e
end
end Go.PM
namespace Go.PM
open Go
def aS.bd(n:Nat):aS->Bool
 | .rows _ rs=>PV.eS n rs
 |_=>false
theorem aS.BD{n:Nat}{x:aS}(h:x.bd n=true):x.Bd n:=by
 cases x<;>first|exact h|cases h
def An(n m bytes:Nat):Bool:=decide (n+m<=maxLen)&&decide ((n+m)*bytes<=140737488355328)
theorem bn{n m bytes:Nat}(h:An n m bytes=true):roomFor n m bytes:=by
 simp only[An,asV,dT_]at h;exact h
def zA(op:POp)(f:Fr)(h:Hp):Option (PV × Hp):=match op with
 | .asJ sh=>some (.map h.length,h++[.map sh λ_=>none])
 |op=>match cQ op f.pf with
  |some (e,x)=>if x.bd h.length then some (e h.length,h++[x])else none
  |none=>none
def kU(op:POp)(f:Fr)(h:Hp):Option (PV × Hp):=match op with
 | .store n p x=>match p.ev f.pf,x.ev f.pf with
  |some (.ptr o s i c),some v=>match h[o]? with
   |some (.rows s' rs)=>match rs[i]? with
    |some q=>if(decide (Z' v.cells=n)&&(decide (s'=s)&&(decide (c+Z' v.cells<=s)&&v.cells.all PV.one)))&&aS.bd h.length (.rows s' (rs.set i (setCells q c v.cells)))then
      some (.junk,h.set o (.rows s' (rs.set i (setCells q c v.cells))))else none
    |none=>none
   |_=>none
  |_,_=>none
 | .append size bytes x y=>match x.ev f.pf,y.ev f.pf with
  |some .aG,some b=>match dG h.ph size b with
   |some []=>some (.aG,h)
   |some (a::src)=>if An 0 (a::src).length bytes&&aS.bd h.length (.rows size (a::src))then some (.osl h.length size 0 (a::src).length,h++[.rows size (a::src)])else none
   |none=>none
  |some (.osl o s off len),some b=>match dG h.ph size b,h[o]? with
   |some src,some (.rows s' rs)=>if(decide (s=size)&&(decide (s'=size)&&(decide (off+len<=Z' rs)&&PV.eS 0 (rs.take off))))&&(An len src.length bytes&&aS.bd h.length (.rows size ((rs.drop off).take len++src)))then
     some (.osl h.length size 0 (len+Z' src),h.set o .dead++[.rows size ((rs.drop off).take len++src)])else none
   |_,_=>none
  |_,_=>none
 |_=>none
noncomputable def DL(op:POp)(f:Fr)(h:Hp):Option (PV × Hp):=
 if op.clo then
  if op.iW then zA op f h else if op.eY then kU op f h else
   match aX op f.pf h.ph with
   |some v=>if v.CS h.length then some (v,h)else none
   |none=>none
 else none
section
variable {r:Ren} {f:Fr} {h h':Hp} {F:PF} {H:PH} {K:R_} {v:PV}
theorem Gv{F:PF}{op:POp}{B:Nat->PV}{x:aS}(i:op.clo=true)(e:cQ op F=some (B,x))(J:∀sh,op≠.asJ sh) :
  ∃mk',cQ op (F.ren r)=some (mk',x.ren r [])/\(∀(q:Ren) n,(q n).2=[]->mk' (q n).1=(B n).ren q)/\∀n,(B n).bound (n+1)=true:=by
 cases op<;>try (simp[cQ]at e;done)
 case alloc cells =>simp only[cQ,auY.injEq,Prod.mk.injEq]at e ⊢;obtain⟨rfl,rfl⟩:=e;refine⟨_,⟨rfl,?_⟩,λq n hq=>by simp only[PV.ren,hq,avD,auI],λn=>by simp[PV.bound]⟩;simp only[aS.ren,atU,auH,PV.mT i,awO]
 case box ro y=>
  cases ro with
  |true=>simp[cQ]at e
  |false=>
   simp only[cQ]at e ⊢;split at e
   ·rename_i w u;rw[dO i u];simp only[yY,xF,asO];split at e
    ·rename_i A;rw[aF A];cases e;exact⟨_,rfl,λq n hq=>by simp only[PV.ren,hq,avD,auI],λn=>by simp[PV.bound]⟩
    ·cases e
   ·cases e
 case arH ro size len zero parts=>
  cases ro with
  |true=>simp[cQ]at e
  |false=>
   simp only[POp.clo,asV]at i;simp only[cQ]at e ⊢;split at e
   ·rename_i D;rw[aF D];cases u:iB size (asT len zero) F parts with
    |none=>rw[u]at e;cases e
    |some w =>rw[u]at e;have A:=HH (r:=r) i.2 u;rw[List.map_replicate,PV.mT i.1]at A;rw[A];cases e;exact⟨_,rfl,λq n hq=>by simp only[PV.ren,hq,avD,auI],λn=>by simp[PV.bound]⟩
   ·cases e
 case arK size bytes zero l c=>
  simp only[POp.clo,asV]at i;simp only[cQ]at e ⊢;split at e
  ·rename_i k n M m u A;rw[dO i.2.1 u,dO i.2.2 A];simp only[PV.ren];split at e
   ·rename_i E;rw[aF E];cases e;have L:aS.ren r [] (.rows size (asT n.toNat zero))=.rows size (asT n.toNat zero):=by simp only[aS.ren,List.map_replicate,PV.mT i.1,awO]
    rw[L];exact⟨_,rfl,λq n hq=>by simp only[PV.ren,hq,avD,auI],λn=>by simp[PV.bound]⟩
   ·cases e
  ·cases e
 case asJ sh=>exact absurd rfl (J sh)
theorem MH{n:Nat}:∀{a b:P2_},PV.eS n a=true->PV.eS n b=true->PV.eS n (a++b)=true
 |[],_,_,h=>h
 |x::a,b,e,i=>by simp only[PV.eS,awD,asV]at e ⊢;exact⟨e.1,MH e.2 i⟩
theorem ZK:∀{l:P2_},PV.eS 0 l=true->∀r:Ren,l.map (λx=>x.map (PV.ren r))=l
 |[],_,_=>rfl
 |x::l,h,r=>by simp only[PV.eS,asV]at h;rw[atU,PV.mT h.1,ZK h.2]
theorem aeP{α:Type}(pre l:List α)(off len:Nat):(pre++l).take (off+Z' pre+len)=(pre++l.take off)++(l.drop off).take len:=by
 rw[List.take_append,atP Om,show off+Z' pre+len-Z' pre=off+len by omega,List.take_add,atV]
theorem Gr{H:PH}{size bytes o s off len:Nat}{y:PV}{K:R_}{src rs:P2_}(i:dG H size y=some src)(l:s=size)(u:roomFor len src.length bytes)(w:H o=some (.rows size rs))(h5:off+len<=Z' rs)
  (e:K (.osl o size off (len+Z' src)) (H.set o (.rows size (rs.take (off+len)++src)))) (x:∀o',H o'=none->K (.osl o' size 0 (len+Z' src)) (H.set o' (.rows size ((rs.drop off).take len++src)))):kP H size bytes (.osl o s off len) y K:=by
 cases off with
 |zero =>rw[atA]at h5 e;exact⟨src,i,l,rfl,u,rs,w,h5,e,x⟩
 |succ off=>exact⟨src,i,l,u,rs,w,h5,e,x⟩
theorem TD{op:POp}{d:O_}{K:K_}(R:Rl r f h F H)(M:op.clo=true)(e:zA op f h=some (v,h'))
  (D:∀r' H',iC h.length r r'->Rl r' f h' F H'->v.bound h'.length=true->K (F.put d (v.ren r')) H'):oU (cQ op F) d K F H:=by
 by_cases y:∃sh,op=.asJ sh;obtain⟨sh,rfl⟩:=y;simp only[zA,auY.injEq,Prod.mk.injEq]at e;obtain⟨rfl,rfl⟩:=e;refine⟨_,_,rfl,λo A=>?_⟩;obtain⟨l,w⟩:=R.push (x:=.map sh λ_=>none) (λk v O=>by cases O) A;have:=D _ _ w l (by simp[PV.bound]);simpa[PV.ren,aS.ren]using this
 ·have i:(match cQ op f.pf with|some (E,x)=>if x.bd h.length then some (E h.length,h++[x])else none|none=>none)=some (v,h'):=by cases op<;>first|exact e|exact absurd ⟨_,rfl⟩ y
  cases u:cQ op f.pf with
  |none=>rw[u]at i;cases i
  |some p =>obtain⟨E,x⟩:=p;rw[u]at i;simp only at i;split at i;rename_i hb;cases i;obtain⟨mk',B,J,L⟩:=Gv (r:=r) M u (λsh N=>y ⟨sh,N⟩);rw[<-R.fr]at B;refine⟨mk',x.ren r [],B,λo A=>?_⟩;obtain⟨l,w⟩:=R.push (aS.BD hb) A;have:=D _ _ w l (by rw[asX];exact L _);rw[<-J _ _ aZ]at this;simpa using this;cases i
theorem JU{op:POp}(R:Rl r f h F H)(u:op.clo=true)(e:kU op f h=some (v,h'))
  (S:∀r' H',iC h.length r r'->Rl r' f h' F H'->v.bound h'.length=true->K (v.ren r') H'):cK op F H K:=by
 have A:=R.fr;cases op<;>try (simp[kU]at e;done)
 case store n p x=>
  simp only[POp.clo,asV]at u;simp only[kU]at e;split at e
  ·rename_i o s i c w M N;split at e
   ·rename_i s' rs E;split at e
    ·rename_i q W;split at e
     ·rename_i h5;simp only[asV,dT_]at h5;obtain⟨⟨h6,rfl,h7,h8⟩,V⟩:=h5;cases e;simp only[cK,A,dO u.1 M,dO u.2 N];have B:h.ph o=some (.rows s' rs):=by rw[Hp.kX,E];rfl
      obtain⟨pre,l,J,hH⟩:=R.hp.ex B;refine⟨by rw[yY,asO];exact h6,_,?_,S r _ (λ_ _=>rfl) (R.jk B (aS.BD V)) rfl⟩;rw[J];simp only[aS.ren]at hH;simp only[PV.ren,storeAt,hH,l,Cz,Tn,aS.ren,yY,xF,asO];rw[aF ⟨trivial,h7,h8⟩,atC,W];simp only[atO,avP,IH]
     ·cases e
    ·cases e
   ·cases e
  ·cases e
 case append size bytes x y=>
  simp only[POp.clo,asV]at u;simp only[kU]at e;split at e
  ·rename_i b M N;split at e
   ·rename_i E;cases e;simp only[cK,A,dO u.1 M,dO u.2 N];refine⟨[],IQ R.hp E,⟨by simp[maxLen],by simp⟩,λ_=>S r H (λ_ _=>rfl) R rfl,λZ=>absurd rfl Z⟩
   ·rename_i a src E;split at e
    ·rename_i h5;simp only[asV]at h5;cases e;simp only[cK,A,dO u.1 M,dO u.2 N];refine⟨_,IQ R.hp E,?_⟩;simp only[PV.ren];refine⟨by rw[asO];exact bn h5.1,λZ=>by simp at Z,λ_ o B=>?_⟩;obtain⟨L,O⟩:=R.push (aS.BD h5.2) B;have:=S _ _ O L (by simp[PV.bound]);simpa[PV.ren,aS.ren]using this
    ·cases e
   ·cases e
  ·rename_i o s off len b M N;split at e
   ·rename_i src s' rs E W;split at e
    ·rename_i h5;simp only[asV,dT_]at h5;obtain⟨⟨rfl,rfl,h6,V⟩,h7,h8⟩:=h5;cases e;have B:h.ph o=some (.rows s' rs):=by rw[Hp.kX,W];rfl
     simp only[cK,A,dO u.1 M,dO u.2 N];have D:=R.pc o _ B;obtain⟨pre,l,J,U⟩:=R.hp.ex B;rw[J]at D;simp only[aS.ren]at U;simp only[PV.ren];refine Gr (IQ R.hp E) rfl (by rw[asO];exact bn h7) U (by rw[l,asX,asO];omega) ?_ λo' α=>?_
     ·obtain⟨L,O⟩:=R.move B (aS.BD h8) (pre++rs.take off) (MH D V);have:=S _ _ O L (by simp[PV.bound]);have Y:Z' pre+min off rs.length=off+(r o).2.length:=Om;have X:(rs.take off).map (λx=>x.map (PV.ren r))=rs.take off:=ZK V r;rw[l,aeP,asO,<-l,<-List.map_take,X];simpa[PV.ren,aS.ren,Y,atK,List.map_take,List.map_drop,atV]using this
     ·obtain⟨L,O⟩:=(R.drop o).push (x:=.rows s' ((rs.drop off).take len++src)) (by rw[auD];exact aS.BD h8) α;rw[auD]at O L;have:=S _ _ O L (by simp[PV.bound]);rw[l,ML,asO];simpa[PV.ren,aS.ren,atK,List.map_take,List.map_drop]using this
    ·cases e
   ·cases e
  ·cases e
end
abbrev gN:=Nat->V_->Hp->Option (PV × Hp)
abbrev MA:=List (bU × Bool)->Fr->Hp->Option (Fr × Hp)
noncomputable def ZA(call:gN)(op:POp)(f:Fr)(h:Hp):Option (PV × Hp):=match op with
 | .call name args=>if args.all aP.clo then match aP.evs f.pf args with
  |some vs=>call name vs h
  |none=>none
  else none
 | .asE x args=>if x.clo&&args.all aP.clo then match x.ev f.pf,aP.evs f.pf args with
  |some (.fn name cs),some vs=>call name (vs++cs) h
  |_,_=>none
  else none
 |op=>DL op f h
noncomputable def AM(call:gN):List bU->Fr->Hp->Option (Fr × Hp)
 |[],f,h=>some (f,h)
 |i::rest,f,h=>if f.fits i.dst then match i.guard with
   |none=>match ZA call i.op f h with
    |some (v,h')=>AM call rest (f.put i.dst v) h'
    |none=>none
   |some (t,e)=>match f.pf t with
    |some (.bool b)=>if b=e then match ZA call i.op f h with
      |some (v,h')=>AM call rest (f.put i.dst v) h'
      |none=>none
     else AM call rest (f.put i.dst (.tup [])) h
    |some (.tup [])=>AM call rest (f.put i.dst (.tup [])) h
    |_=>none
  else none
noncomputable def sC(call:gN)(dr:MA):Nat->aJ->Fr->Hp->Option (lI × Fr × Hp)
 |0,_,_,_=>none
 |n+1,c,f,h=>match c with
  | .skip=>some (.normal,f,h)
  | .region ops=>match AM call ops f h with
   |some (f',h')=>some (.normal,f',h')
   |none=>none
  | .draw ops=>match dr ops f h with
   |some (f',h')=>some (.normal,f',h')
   |none=>none
  | .seq a b=>match sC call dr n a f h with
   |some (.normal,f',h')=>sC call dr n b f' h'
   |x=>x
  | .cond x a b=>if x.clo then match x.ev f.pf with
   |some (.bool t)=>if t then sC call dr n a f h else sC call dr n b f h
   |_=>none
   else none
  | .block id c=>match sC call dr n c f h with
   |some (.exit e,f',h')=>if e=id then some (.normal,f',h')else some (.exit e,f',h')
   |x=>x
  | .loop c=>match sC call dr n c f h with
   |some (.normal,f',h')=>sC call dr n (.loop c) f' h'
   |x=>x
  | .exit id=>some (.exit id,f,h)
  | .ret=>some (.ret,f,h)
def Comes(r:Ren)(n:Nat)(v:PV)(h':Hp)(e:PV)(H':PH):Prop:=
 ∃r',iC n r r'/\Rl r' .nil h' n_ H'/\e=v.ren r'/\v.bound h'.length=true/\n<=Z' h'
def Exact(r:Ren)(h:Hp)(H:PH):Prop:=∀o x,H o=some x->∃i y,h.ph i=some y/\(r i).1=o
def qH(C:Ctx)(call:gN):Prop:=∀name vs h v h',call name vs h=some (v,h')->∀r H,Rl r .nil h n_ H->Exact r h H->PV.bounds h.length vs=true ->
 aH C name (vs.map (PV.ren r)) H (Comes r h.length v h')
def j5(C:Ctx)(call:gN):Prop:=∀name vs h v h',call name vs h=some (v,h')->∀r f F H d (K:K_),Rl r f h F H->PV.bounds h.length vs=true ->
 (∀r' H',iC h.length r r'->Z' h<=Z' h'->Rl r' f h' F H'->v.bound h'.length=true->K (F.put d (v.ren r')) H')->vO C name (some (vs.map (PV.ren r))) d K F H
def Ba(C:Ctx)(dr:MA):Prop:=∀ops f h f' h',dr ops f h=some (f',h')->∀r F H,Rl r f h F H->∀K:K_,
 (∀r' e H',iC h.length r r'->Z' h<=Z' h'->Rl r' f' h' e H'->K e H')->∃Hs S,PH.le Hs H/\wpD C Hs S ops K F H
theorem iC.trans{n m:Nat}{r r' e:Ren}(h:iC n r r')(l:iC m r' e)(u:n<=m):iC n r e:=
 λi hi=>(h i hi).trans (l i (Nat.lt_of_lt_of_le hi u))
section
variable {C:Ctx} {call:gN} {dr:MA} {r:Ren} {f f':Fr} {h h':Hp} {F:PF} {H:PH} {v:PV}
theorem Rl.heap(R:Rl r f h F H):Rl r .nil h n_ H:=⟨rfl,R.hp,R.inj,λi v e=>by simp[Fr.pf]at e,R.hb,R.pc⟩
theorem UL{n:Nat}(hb:s7 n f):∀{l:List aP}{vs:V_},l.all aP.clo=true->aP.evs f.pf l=some vs->PV.bounds n vs=true
 |[],_,_,e=>by cases e;rfl
 |x::xs,vs,i,e=>by
  simp only[awS,asV]at i;simp only[aP.evs]at e;split at e
  ·rename_i v A w y;cases e;rw[PV.bounds,UL hb i.2 y,avK];cases x with
   |tmp t=>exact hb t v w
   |const u=>cases w;exact PV.vZ (asQ _) _ i.1
  cases e
theorem SS{n:Nat}:∀{a b:V_},PV.bounds n a=true->PV.bounds n b=true->PV.bounds n (a++b)=true
 |[],_,_,h=>h
 |x::a,b,e,i=>by simp only[PV.bounds,awD,asV]at e ⊢;exact⟨e.1,SS e.2 i⟩
theorem F7{op:POp}{d:O_}{K:K_}(R:Rl r f h F H)(e:DL op f h=some (v,h'))
  (x:∀r' H',iC h.length r r'->Rl r' f h' F H'->v.bound h'.length=true->K (F.put d (v.ren r')) H') :
  if op.iW then oU (cQ op F) d K F H else if op.eY then cK op F H (λr H'=>K (F.put d r) H')else xH (aX op F H) d K F H:=by
 unfold DL at e;split at e;rename_i u;split at e;rename_i i;rw[aF i];exact TD R u e x;rename_i i;rw[aC i];split at e;rename_i l;rw[aF l];exact JU R u e x;rename_i l;rw[aC l];split at e;rename_i w y;split at e;rename_i hb;replace hb:=PV.zN hb;cases e;have:=VQ R.hp u y;rw[<-R.fr]at this;exact⟨_,this,x r H (λ_ _=>rfl) R hb⟩;cases e;cases e;cases e
theorem RK{op:POp}(e:DL op f h=some (v,h')):Z' h<=Z' h':=by
 unfold DL at e;split at e
 ·split at e
  ·by_cases l:∃sh,op=.asJ sh
   ·obtain⟨sh,rfl⟩:=l;simp only[zA,auY.injEq,Prod.mk.injEq]at e;obtain⟨-,rfl⟩:=e;simp
   ·have i:(match cQ op f.pf with|some (u,x)=>if x.bd h.length then some (u h.length,h++[x])else none|none=>none)=some (v,h'):=by cases op<;>first|exact e|exact absurd ⟨_,rfl⟩ l
    split at i
    ·split at i<;>cases i;simp
    ·cases i
  ·split at e
   ·cases op<;>try (simp[kU]at e;done)
    all_goals
     simp only[kU]at e
     (repeat' split at e)<;>cases e<;>simp
   ·split at e
    ·split at e<;>cases e;exact asU _
    ·cases e
 ·cases e
theorem Ih(J:j5 C call){op:POp}{d:O_}{K:K_}(R:Rl r f h F H)(e:ZA call op f h=some (v,h'))
  (A:∀r' H',iC h.length r r'->Z' h<=Z' h'->Rl r' f h' F H'->v.bound h'.length=true->K (F.put d (v.ren r')) H'):wpOp C op d K F H:=by
 by_cases y:∃name args,op=.call name args;obtain⟨name,args,rfl⟩:=y;simp only[ZA]at e;split at e;rename_i i;split at e;rename_i vs w;have l:=GB (r:=r) i w;rw[<-R.fr]at l;refine .inl ?_;rw[l];simp only[atO,auA];exact J _ _ _ _ _ e _ _ _ _ _ _ R (UL R.fb i w) A;cases e;cases e;by_cases w:∃x args,op=.asE x args;obtain⟨x,args,rfl⟩:=w;simp only[ZA]at e;split at e;rename_i i;simp only[asV]at i;split at e
 ·rename_i name cs vs l D;have h5:=GB (r:=r) i.2 D;have E:=dO (r:=r) i.1 l;rw[<-R.fr]at h5 E;show wS C (x.ev F) args d K F H;rw[E];simp only[PV.ren,PV.gJ,wS];refine .inl ?_;rw[h5];simp only[atO,<-atK];refine J _ _ _ _ _ e _ _ _ _ _ _ R (SS (UL R.fb i.2 D) ?_) A;cases x with
  |tmp t=>exact R.fb t _ l
  |const u =>simp only[aP.ev,auY.injEq]at l;subst l;have:=i.1;simp only[aP.clo,PV.bound]at this;exact PV.rA (asQ _) _ this
 cases e;cases e;have B:DL op f h=some (v,h'):=by cases op<;>first|exact e|exact absurd ⟨_,_,rfl⟩ y|exact absurd ⟨_,_,rfl⟩ w
 have N:=RK B;have:=F7 (d:=d) (K:=K) R B λr' H' M L hb=>A r' H' M N L hb;cases op<;>first|exact this|exact absurd ⟨_,_,rfl⟩ y|exact absurd ⟨_,_,rfl⟩ w
theorem IJ(J:j5 C call):∀(ops:List bU){r:Ren}{f f':Fr}{h h':Hp}{F:PF}{H:PH}{K:K_},AM call ops f h=some (f',h')->Rl r f h F H ->
  (∀r' S H',iC h.length r r'->Z' h<=Z' h'->Rl r' f' h' S H'->K S H')->wpOps C ops K F H
 |[],r,f,f',h,h',F,H,K,e,R,A=>by cases e;exact A r F H (λ_ _=>rfl) (asU _) R
 |i::rest,r,f,f',h,h',F,H,K,e,R,A=>by
  simp only[AM]at e;split at e;rename_i U;have u:∀{e2:(match ZA call i.op f h with|some (v,h')=>AM call rest (f.put i.dst v) h'|none=>none)=some (f',h')},wpOp C i.op i.dst (wpOps C rest K) F H:=by intro e2;split at e2;rename_i v h1 Y;refine Ih J R Y λr' H' Z V X hb=>?_;exact IJ J rest e2 (X.put U hb) λO B D L N E=>A O B D (Z.trans L V) (atT V N) E;cases e2
  have l:∀{e2:AM call rest (f.put i.dst (.tup [])) h=some (f',h')},wpOps C rest K (F.put i.dst (.tup [])) H:=by intro e2;exact IJ J rest e2 (R.put (v:=.tup []) U rfl) A
  have x:∀t w,f.pf t=some w->F t=some (w.ren r):=λt w y=>by rw[R.fr];simp only[PF.ren,y,atO]
  simp only[wpOps];split at e;rename_i M;rw[M];exact u (e2:=e);rename_i t W M;rw[M];simp only;split at e;rename_i b hb;rw[x t _ hb];simp only[PV.ren];split at e;rename_i y;rw[aF y];exact u (e2:=e);rename_i y;rw[aC y];exact l (e2:=e);rename_i hb;rw[x t _ hb];exact l (e2:=e);cases e;cases e
theorem N6(hC:j5 C call)(hD:Ba C dr):∀(n:Nat)(c:aJ){r:Ren}{f f':Fr}{h h':Hp}{F:PF}{H:PH}{x:lI}{K:bP},sC call dr n c f h=some (x,f',h')->Rl r f h F H ->
  (∀r' i H',iC h.length r r'->Z' h<=Z' h'->Rl r' f' h' i H'->K x i H')->c.wp C K F H:=by
 intro n
 induction n using Nat.strongRecOn with
 |_ n ih=>
 intro c r f f' h h' F H x K e R l;cases n with
 |zero=>cases e
 |succ n=>
 have J:=ih n (Nat.lt_succ_self n);cases c with
 |skip=>cases e;exact l r F H (λ_ _=>rfl) (asU _) R
 |exit id=>cases e;exact l r F H (λ_ _=>rfl) (asU _) R
 |ret=>cases e;exact l r F H (λ_ _=>rfl) (asU _) R
 |region ops =>simp only[sC]at e;split at e;rename_i f1 A w;cases e;exact IJ hC ops w R l;cases e
 |draw ops =>simp only[sC]at e;split at e;rename_i f1 A w;cases e;exact hD ops f h _ _ w r F H R _ l;cases e
 |cond c a b=>
  simp only[sC]at e;split at e;rename_i hc;split at e
  ·rename_i t A;have L:=dO (r:=r) hc A;rw[<-R.fr]at L;simp only[aJ.wp,L,PV.ren];cases t with
   |true=>exact J a e R l
   |false=>exact J b e R l
  cases e;cases e
 |seq a b=>
  simp only[sC]at e;cases A:sC call dr n a f h with
  |none=>rw[A]at e;cases e
  |some p=>
   obtain⟨y,f1,g1⟩:=p;rw[A]at e;refine J a A R λr' i H' E B D=>?_;cases y with
   |normal=>exact J b e D λY O S V X U=>l Y O S (E.trans V B) (atT B X) U
   |exit id=>cases e;exact l r' i H' E B D
   |ret=>cases e;exact l r' i H' E B D
 |block id c=>
  simp only[sC]at e;cases A:sC call dr n c f h with
  |none=>rw[A]at e;cases e
  |some p=>
   obtain⟨y,f1,g1⟩:=p;rw[A]at e;refine J c A R λr' i H' E B D=>?_;cases y with
   |normal=>cases e;exact l r' i H' E B D
   |exit β =>simp only at e;simp only[fL];split at e;rename_i L;rw[aF L];cases e;exact l r' i H' E B D;rename_i L;rw[aC L];cases e;exact l r' i H' E B D
   |ret=>cases e;exact l r' i H' E B D
 |loop c=>
  let α:=Nat × Fr × Hp × Ren × PF × PH
  refine⟨α,λa=>a.2.2.2.2.1,λa=>a.2.2.2.2.2,λa=>a.1<=n+1/\sC call dr a.1 (.loop c) a.2.1 a.2.2.1=some (x,f',h')/\Rl a.2.2.2.1 a.2.1 a.2.2.1 a.2.2.2.2.1 a.2.2.2.2.2/\iC h.length r a.2.2.2.1/\Z' h<=a.2.2.1.length,
   λa=>a.1,(n+1,f,h,r,F,H),F,H,.refl F H,⟨asU _,e,R,λ_ _=>rfl,asU _⟩,λ_ _ N=>N,λ_ _ N=>N,?_⟩
  rintro⟨k,f1,A,r1,F1,H1⟩ ⟨W,w,Z,M,u⟩;simp only at W w Z M u ⊢;cases k with
  |zero=>cases w
  |succ k=>
   simp only[sC]at w;cases L:sC call dr k c f1 A with
   |none=>rw[L]at w;cases w
   |some p=>
    obtain⟨y,f2,g2⟩:=p;rw[L]at w;refine ih k Om c L Z λr' i H' E B D=>?_;cases y with
    |normal=>exact⟨(k,f2,g2,r',i,H'),i,H',.refl i H',⟨by omega,w,D,M.trans E u,atT u B⟩,Nat.lt_succ_self k,λ_ _ N=>N,λ_ _ N=>N⟩
    |exit id=>cases w;exact l r' i H' (M.trans E u) (atT u B) D
    |ret=>cases w;exact l r' i H' (M.trans E u) (atT u B) D
end
mutual
def PV.on(L:Nat->Bool):PV->Bool
 | .osl o _ _ _=>L o
 | .ptr o _ _ _=>L o
 | .map o=>L o
 | .sl _ rows=>PV.rZ L rows
 | .aU cs=>PV.ons L cs
 | .fn _ cs=>PV.ons L cs
 | .agg cs=>PV.ons L cs
 | .tup cs=>PV.ons L cs
 | .int _ _=>true
 | .bool _=>true
 | .str _=>true
 | .aG=>true
 | .lit _=>true
 | .junk=>true
def PV.ons(L:Nat->Bool):V_->Bool
 |[]=>true
 |v::vs=>PV.on L v&&PV.ons L vs
def PV.rZ(L:Nat->Bool):P2_->Bool
 |[]=>true
 |v::vs=>PV.ons L v&&PV.rZ L vs
end
mutual
theorem PV.E6{L:Nat->Bool}{r s:Ren}{t:Nat->Nat}(h:∀i,L i=true->r (t i)=s i):∀v:PV,v.on L=true->(v.ren (up t)).ren r=v.ren s
 | .osl o _ _ _,hb=>by simp only[PV.on]at hb;simp only[PV.ren,<-h o hb,up,avD,auI]
 | .ptr o _ _ _,hb=>by simp only[PV.on]at hb;simp only[PV.ren,<-h o hb,up,avD,auI]
 | .map o,hb=>by simp only[PV.on]at hb;simp only[PV.ren,<-h o hb,up]
 | .sl _ rows,hb=>by simp only[PV.on]at hb;simp only[PV.ren,PV.iv h rows hb]
 | .aU cs,hb=>by simp only[PV.on]at hb;simp only[PV.ren,PV.BQ h cs hb]
 | .fn _ cs,hb=>by simp only[PV.on]at hb;simp only[PV.ren,PV.BQ h cs hb]
 | .agg cs,hb=>by simp only[PV.on]at hb;simp only[PV.ren,PV.BQ h cs hb]
 | .tup cs,hb=>by simp only[PV.on]at hb;simp only[PV.ren,PV.BQ h cs hb]
 | .int _ _,_=>rfl
 | .bool _,_=>rfl
 | .str _,_=>rfl
 | .aG,_=>rfl
 | .lit _,_=>rfl
 | .junk,_=>rfl
theorem PV.BQ{L:Nat->Bool}{r s:Ren}{t:Nat->Nat}(h:∀i,L i=true->r (t i)=s i):∀l:V_,PV.ons L l=true->PV.mQ r (PV.mQ (up t) l)=PV.mQ s l
 |[],_=>rfl
 |v::vs,hb=>by simp only[PV.ons,asV]at hb;simp only[PV.mQ,PV.E6 h v hb.1,PV.BQ h vs hb.2]
theorem PV.iv{L:Nat->Bool}{r s:Ren}{t:Nat->Nat}(h:∀i,L i=true->r (t i)=s i):∀l:P2_,PV.rZ L l=true->PV.mU r (PV.mU (up t) l)=PV.mU s l
 |[],_=>rfl
 |v::vs,hb=>by simp only[PV.rZ,asV]at hb;simp only[PV.mU,PV.BQ h v hb.1,PV.iv h vs hb.2]
end
mutual
theorem PV.gr{L:Nat->Bool}{t:Ren}{m:Nat}(h:∀i,L i=true->(t i).1<m):∀v:PV,v.on L=true->(v.ren t).bound m=true
 | .osl o _ _ _,hb=>by simp only[PV.on]at hb;simp only[PV.ren,PV.bound,h o hb,decide_true]
 | .ptr o _ _ _,hb=>by simp only[PV.on]at hb;simp only[PV.ren,PV.bound,h o hb,decide_true]
 | .map o,hb=>by simp only[PV.on]at hb;simp only[PV.ren,PV.bound,h o hb,decide_true]
 | .sl _ rows,hb=>by simp only[PV.on]at hb;simp only[PV.ren,PV.bound,PV.QI h rows hb]
 | .aU cs,hb=>by simp only[PV.on]at hb;simp only[PV.ren,PV.bound,PV.vI h cs hb]
 | .fn _ cs,hb=>by simp only[PV.on]at hb;simp only[PV.ren,PV.bound,PV.vI h cs hb]
 | .agg cs,hb=>by simp only[PV.on]at hb;simp only[PV.ren,PV.bound,PV.vI h cs hb]
 | .tup cs,hb=>by simp only[PV.on]at hb;simp only[PV.ren,PV.bound,PV.vI h cs hb]
 | .int _ _,_=>rfl
 | .bool _,_=>rfl
 | .str _,_=>rfl
 | .aG,_=>rfl
 | .lit _,_=>rfl
 | .junk,_=>rfl
theorem PV.vI{L:Nat->Bool}{t:Ren}{m:Nat}(h:∀i,L i=true->(t i).1<m):∀l:V_,PV.ons L l=true->PV.bounds m (PV.mQ t l)=true
 |[],_=>rfl
 |v::vs,hb=>by simp only[PV.ons,asV]at hb;simp only[PV.mQ,PV.bounds,PV.gr h v hb.1,PV.vI h vs hb.2,avK]
theorem PV.QI{L:Nat->Bool}{t:Ren}{m:Nat}(h:∀i,L i=true->(t i).1<m):∀l:P2_,PV.rZ L l=true->PV.eS m (PV.mU t l)=true
 |[],_=>rfl
 |v::vs,hb=>by simp only[PV.rZ,asV]at hb;simp only[PV.mU,PV.eS,PV.vI h v hb.1,PV.QI h vs hb.2,avK]
end
mutual
theorem PV.Sa{L L':Nat->Bool}(h:∀i,L i=true->L' i=true):∀v:PV,v.on L=true->v.on L'=true
 | .osl o _ _ _,hb=>h o hb
 | .ptr o _ _ _,hb=>h o hb
 | .map o,hb=>h o hb
 | .sl _ rows,hb=>by simp only[PV.on]at hb ⊢;exact PV.Ek h rows hb
 | .aU cs,hb=>by simp only[PV.on]at hb ⊢;exact PV.GJ h cs hb
 | .fn _ cs,hb=>by simp only[PV.on]at hb ⊢;exact PV.GJ h cs hb
 | .agg cs,hb=>by simp only[PV.on]at hb ⊢;exact PV.GJ h cs hb
 | .tup cs,hb=>by simp only[PV.on]at hb ⊢;exact PV.GJ h cs hb
 | .int _ _,_=>rfl
 | .bool _,_=>rfl
 | .str _,_=>rfl
 | .aG,_=>rfl
 | .lit _,_=>rfl
 | .junk,_=>rfl
theorem PV.GJ{L L':Nat->Bool}(h:∀i,L i=true->L' i=true):∀l:V_,PV.ons L l=true->PV.ons L' l=true
 |[],_=>rfl
 |v::vs,hb=>by simp only[PV.ons,asV]at hb ⊢;exact⟨PV.Sa h v hb.1,PV.GJ h vs hb.2⟩
theorem PV.Ek{L L':Nat->Bool}(h:∀i,L i=true->L' i=true):∀l:P2_,PV.rZ L l=true->PV.rZ L' l=true
 |[],_=>rfl
 |v::vs,hb=>by simp only[PV.rZ,asV]at hb ⊢;exact⟨PV.GJ h v hb.1,PV.Ek h vs hb.2⟩
end
mutual
theorem PV.HC{n:Nat}:∀v:PV,v.on (λi=>decide (i<n))=v.bound n
 | .osl o _ _ _=>rfl
 | .ptr o _ _ _=>rfl
 | .map o=>rfl
 | .sl _ rows=>by simp only[PV.on,PV.bound,PV.NP rows]
 | .aU cs=>by simp only[PV.on,PV.bound,PV.yO cs]
 | .fn _ cs=>by simp only[PV.on,PV.bound,PV.yO cs]
 | .agg cs=>by simp only[PV.on,PV.bound,PV.yO cs]
 | .tup cs=>by simp only[PV.on,PV.bound,PV.yO cs]
 | .int _ _=>rfl
 | .bool _=>rfl
 | .str _=>rfl
 | .aG=>rfl
 | .lit _=>rfl
 | .junk=>rfl
theorem PV.yO{n:Nat}:∀l:V_,PV.ons (λi=>decide (i<n)) l=PV.bounds n l
 |[]=>rfl
 |v::vs=>by simp only[PV.ons,PV.bounds,PV.HC v,PV.yO vs]
theorem PV.NP{n:Nat}:∀l:P2_,PV.rZ (λi=>decide (i<n)) l=PV.eS n l
 |[]=>rfl
 |v::vs=>by simp only[PV.rZ,PV.eS,PV.yO v,PV.NP vs]
end
theorem PV.Jz{L L':Nat->Bool}(h:∀i,L i=true->L' i=true)(v:PV)(e:v.on L=true):v.on L'=true:=by
 have:=PV.Sa (L:=L) (L':=L') h v;exact this e
def PV.tz(r:Ren)(v:PV):PV:=cond (v.bound 0) v (v.ren r)
theorem PV.QR(r:Ren)(v:PV):v.tz r=v.ren r:=by
 unfold PV.tz;cases e:v.bound 0 with
 |true=>exact(PV.oQ e r).symm
 |false=>rfl
def PV.onC(L:Nat->Bool)(v:PV):Bool:=cond (v.bound 0) true (v.on L)
theorem PV.Ef{L:Nat->Bool}{v:PV}(h:v.onC L=true):v.on L=true:=by
 unfold PV.onC at h;cases e:v.bound 0 with
 |true =>rw[<-PV.HC]at e;exact PV.Jz (λi hi=>by simp at hi) v e
 |false=>rw[e]at h;exact h
mutual
def PV.back(q:Nat->Nat × Nat):PV->PV
 | .osl o s off len=>.osl (q o).1 s (off-(q o).2) len
 | .ptr o s i c=>.ptr (q o).1 s (i-(q o).2) c
 | .map o=>.map (q o).1
 | .sl s rows=>.sl s (PV.TN q rows)
 | .aU cs=>.aU (PV.sQ q cs)
 | .fn n cs=>.fn n (PV.sQ q cs)
 | .agg cs=>.agg (PV.sQ q cs)
 | .tup cs=>.tup (PV.sQ q cs)
 | .int k n=>.int k n
 | .bool b=>.bool b
 | .str s=>.str s
 | .aG=>.aG
 | .lit v=>.lit v
 | .junk=>.junk
def PV.sQ(q:Nat->Nat × Nat):V_->V_
 |[]=>[]
 |v::vs=>PV.back q v::PV.sQ q vs
def PV.TN(q:Nat->Nat × Nat):P2_->P2_
 |[]=>[]
 |v::vs=>PV.sQ q v::PV.TN q vs
end
mutual
theorem PV.NN{L:Nat->Bool}{q:Nat->Nat × Nat}{r:Ren}(h:∀i,L i=true->q (r i).1=(i,(r i).2.length)):∀v:PV,v.on L=true->(v.ren r).back q=v
 | .osl o _ _ _,hb=>by simp only[PV.on]at hb;simp only[PV.ren,PV.back,h o hb,Nat.add_sub_cancel]
 | .ptr o _ _ _,hb=>by simp only[PV.on]at hb;simp only[PV.ren,PV.back,h o hb,Nat.add_sub_cancel]
 | .map o,hb=>by simp only[PV.on]at hb;simp only[PV.ren,PV.back,h o hb]
 | .sl _ rows,hb=>by simp only[PV.on]at hb;simp only[PV.ren,PV.back,PV.NO h rows hb]
 | .aU cs,hb=>by simp only[PV.on]at hb;simp only[PV.ren,PV.back,PV.uU h cs hb]
 | .fn _ cs,hb=>by simp only[PV.on]at hb;simp only[PV.ren,PV.back,PV.uU h cs hb]
 | .agg cs,hb=>by simp only[PV.on]at hb;simp only[PV.ren,PV.back,PV.uU h cs hb]
 | .tup cs,hb=>by simp only[PV.on]at hb;simp only[PV.ren,PV.back,PV.uU h cs hb]
 | .int _ _,_=>rfl
 | .bool _,_=>rfl
 | .str _,_=>rfl
 | .aG,_=>rfl
 | .lit _,_=>rfl
 | .junk,_=>rfl
theorem PV.uU{L:Nat->Bool}{q:Nat->Nat × Nat}{r:Ren}(h:∀i,L i=true->q (r i).1=(i,(r i).2.length)):∀l:V_,PV.ons L l=true->PV.sQ q (PV.mQ r l)=l
 |[],_=>rfl
 |v::vs,hb=>by simp only[PV.ons,asV]at hb;simp only[PV.mQ,PV.sQ,PV.NN h v hb.1,PV.uU h vs hb.2]
theorem PV.NO{L:Nat->Bool}{q:Nat->Nat × Nat}{r:Ren}(h:∀i,L i=true->q (r i).1=(i,(r i).2.length)):∀l:P2_,PV.rZ L l=true->PV.TN q (PV.mU r l)=l
 |[],_=>rfl
 |v::vs,hb=>by simp only[PV.rZ,asV]at hb;simp only[PV.mU,PV.TN,PV.uU h v hb.1,PV.NO h vs hb.2]
end
mutual
def PV.ids:PV->N_->N_
 | .osl o _ _ _,l=>o::l
 | .ptr o _ _ _,l=>o::l
 | .map o,l=>o::l
 | .sl _ rows,l=>PV.aaB rows l
 | .aU cs,l=>PV.tc cs l
 | .fn _ cs,l=>PV.tc cs l
 | .agg cs,l=>PV.tc cs l
 | .tup cs,l=>PV.tc cs l
 | .int _ _,l=>l
 | .bool _,l=>l
 | .str _,l=>l
 | .aG,l=>l
 | .lit _,l=>l
 | .junk,l=>l
def PV.tc:V_->N_->N_
 |[],l=>l
 |v::vs,l=>PV.ids v (PV.tc vs l)
def PV.aaB:P2_->N_->N_
 |[],l=>l
 |v::vs,l=>PV.tc v (PV.aaB vs l)
end
def PV.Wi(v:PV)(l:N_):N_:=cond (v.bound 0) l (v.ids l)
def wG:V_->N_->N_
 |[],l=>l
 |v::vs,l=>PV.Wi v (wG vs l)
def C5:P2_->N_->N_
 |[],l=>l
 |v::vs,l=>wG v (C5 vs l)
def VN(L:Nat->Bool):V_->Bool
 |[]=>true
 |v::vs=>v.onC L&&VN L vs
def YR(L:Nat->Bool):P2_->Bool
 |[]=>true
 |v::vs=>VN L v&&YR L vs
theorem QG{L:Nat->Bool}:∀{l:V_},VN L l=true->PV.ons L l=true
 |[],_=>rfl
 |v::vs,h=>by simp only[VN,PV.ons,asV]at h ⊢;exact⟨PV.Ef h.1,QG h.2⟩
theorem AE{L:Nat->Bool}:∀{l:P2_},YR L l=true->PV.rZ L l=true
 |[],_=>rfl
 |v::vs,h=>by simp only[YR,PV.rZ,asV]at h ⊢;exact⟨QG h.1,AE h.2⟩
theorem PV.ahK{L:Nat->Bool}{v:PV}(h:v.on L=true):v.onC L=true:=by
 unfold PV.onC;rw[h];cases v.bound 0<;>rfl
theorem Ei{L:Nat->Bool}:∀{l:V_},PV.ons L l=true->VN L l=true
 |[],_=>rfl
 |v::vs,h=>by simp only[VN,PV.ons,asV]at h ⊢;exact⟨PV.ahK h.1,Ei h.2⟩
theorem n0{L:Nat->Bool}:∀{l:P2_},PV.rZ L l=true->YR L l=true
 |[],_=>rfl
 |v::vs,h=>by simp only[YR,PV.rZ,asV]at h ⊢;exact⟨Ei h.1,n0 h.2⟩
def YV(r:Ren):V_->V_
 |[]=>[]
 |v::vs=>v.tz r::YV r vs
def VU(r:Ren):P2_->P2_
 |[]=>[]
 |v::vs=>YV r v::VU r vs
theorem FD(r:Ren):∀l,YV r l=PV.mQ r l
 |[]=>rfl
 |v::vs=>by rw[YV,PV.mQ,PV.QR,FD r vs]
theorem IG(r:Ren):∀l,VU r l=PV.mU r l
 |[]=>rfl
 |v::vs=>by rw[VU,PV.mU,FD,IG r vs]
mutual
def PV.beq:PV->PV->Bool
 | .osl a b c d,y=>match y with | .osl i l u w=>auR a i&&(auR b l&&(auR c u&&auR d w))|_=>false
 | .ptr a b c d,y=>match y with | .ptr i l u w=>auR a i&&(auR b l&&(auR c u&&auR d w))|_=>false
 | .map a,y=>match y with | .map i=>auR a i|_=>false
 | .sl s rows,y=>match y with | .sl s' rows'=>auR s s'&&PV.YF rows rows'|_=>false
 | .aU cs,y=>match y with | .aU e=>PV.GZ cs e|_=>false
 | .fn n cs,y=>match y with | .fn x e=>auR n x&&PV.GZ cs e|_=>false
 | .agg cs,y=>match y with | .agg e=>PV.GZ cs e|_=>false
 | .tup cs,y=>match y with | .tup e=>PV.GZ cs e|_=>false
 | .int k n,y=>match y with | .int A x=>decide (k=A)&&decide (n=x)|_=>false
 | .bool b,y=>match y with | .bool l=>decide (b=l)|_=>false
 | .str s,y=>match y with | .str s'=>decide (s=s')|_=>false
 | .aG,y=>match y with | .aG=>true|_=>false
 | .lit _,_=>false
 | .junk,y=>match y with | .junk=>true|_=>false
def PV.GZ:V_->V_->Bool
 |[],y=>match y with|[]=>true|_=>false
 |v::vs,y=>match y with|w::e=>PV.beq v w&&PV.GZ vs e|_=>false
def PV.YF:P2_->P2_->Bool
 |[],y=>match y with|[]=>true|_=>false
 |v::vs,y=>match y with|w::e=>PV.GZ v w&&PV.YF vs e|_=>false
end
mutual
theorem PV.beq_eq:∀v w:PV,PV.beq v w=true->v=w
 | .osl _ _ _ _,w,h=>by cases w<;>simp_all [PV.beq]
 | .ptr _ _ _ _,w,h=>by cases w<;>simp_all [PV.beq]
 | .map _,w,h=>by cases w<;>simp_all [PV.beq]
 | .sl s rows,w,h=>by cases w<;>simp only[PV.beq,asV,auQ]at h;rw[PV.c8 _ _ h.2,Nat.eq_of_beq_eq_true h.1]
 | .aU cs,w,h=>by cases w<;>simp only[PV.beq,auQ]at h;rw[PV.BE _ _ h]
 | .fn _ cs,w,h=>by cases w<;>simp only[PV.beq,asV,auQ]at h;rw[PV.BE _ _ h.2,Nat.eq_of_beq_eq_true h.1]
 | .agg cs,w,h=>by cases w<;>simp only[PV.beq,auQ]at h;rw[PV.BE _ _ h]
 | .tup cs,w,h=>by cases w<;>simp only[PV.beq,auQ]at h;rw[PV.BE _ _ h]
 | .int _ _,w,h=>by cases w<;>simp_all [PV.beq]
 | .bool _,w,h=>by cases w<;>simp_all [PV.beq]
 | .str _,w,h=>by cases w<;>simp_all [PV.beq]
 | .aG,w,h=>by cases w<;>simp_all [PV.beq]
 | .lit _,_,h=>by simp[PV.beq]at h
 | .junk,w,h=>by cases w<;>simp_all [PV.beq]
theorem PV.BE:∀v w:V_,PV.GZ v w=true->v=w
 |[],w,h=>by cases w<;>simp_all [PV.GZ]
 |v::vs,w,h=>by cases w<;>simp only[PV.GZ,asV,auQ]at h;rw[PV.beq_eq _ _ h.1,PV.BE _ _ h.2]
theorem PV.c8:∀v w:P2_,PV.YF v w=true->v=w
 |[],w,h=>by cases w<;>simp_all [PV.YF]
 |v::vs,w,h=>by cases w<;>simp only[PV.YF,asV,auQ]at h;rw[PV.BE _ _ h.1,PV.c8 _ _ h.2]
end
def posOf:N_->Nat->Nat
 |[],_=>0
 |x::xs,i=>if auR x i then 0 else posOf xs i+1
def inL:N_->Nat->Bool
 |[],_=>false
 |x::xs,i=>auR x i||inL xs i
def VJ:N_->Bool
 |[]=>true
 |x::xs=>!inL xs x&&VJ xs
def atN:N_->Nat->Nat
 |[],_=>0
 |x::_,0=>x
 |_::xs,k+1=>atN xs k
theorem BJ:∀{l:N_}{i:Nat},inL l i=true->i∈l
 |x::xs,i,h=>by
  simp only[inL,awY]at h;rcases h with h|h
  rw[Nat.eq_of_beq_eq_true h];exact axA ..;exact awN _ (BJ h)
theorem wI:∀{l:N_}{i:Nat},i∈l->inL l i=true
 |x::xs,i,h=>by
  simp only[inL,awY];rcases atG.1 h with h|h
  left;rw[h];simp;right;exact wI h
theorem tC:∀{l:N_}{i:Nat},inL l i=true->atN l (posOf l i)=i/\posOf l i<Z' l
 |x::xs,i,h=>by simp only[inL,awY]at h;simp only[posOf];by_cases e:auR x i=true;rw[aF e];exact⟨Nat.eq_of_beq_eq_true e,Nat.zero_lt_succ _⟩;rw[aC e];have:=tC (h.resolve_left e);exact⟨this.1,Nat.succ_lt_succ this.2⟩
theorem tL:∀{l:N_}{k:Nat},k<Z' l->inL l (atN l k)=true
 |x::xs,0,_=>by simp[inL,atN]
 |x::xs,k+1,h=>by simp only[inL,atN,awY];exact .inr (tL (Nat.lt_of_succ_lt_succ h))
theorem DK:∀{l:N_}{k:Nat},VJ l=true->k<Z' l->posOf l (atN l k)=k
 |x::xs,0,_,_=>by simp[posOf,atN]
 |x::xs,k+1,i,h=>by simp only[VJ,asV,Bool.not_eq_true']at i;show(if auR x (atN xs k)=true then 0 else posOf xs (atN xs k)+1)=k+1;have u:=tL (Nat.lt_of_succ_lt_succ h);rw[aC (λe=>by rw[Nat.eq_of_beq_eq_true e,u]at i;cases i.1),DK i.2 (Nat.lt_of_succ_lt_succ h)]
theorem yA{β:Type}(g:Nat->β):∀(l:N_)(k:Nat),(l.map g)[k]?=if k<l.length then some (g (atN l k))else none
 |[],k=>by simp
 |x::xs,0=>by simp[atN]
 |x::xs,k+1=>by rw[atU,List.getElem?_cons_succ,yA g xs k];simp only[atN,atZ,Nat.succ_lt_succ_iff,Nat.add_lt_add_iff_right]
def aS.on(L:Nat->Bool):aS->Bool
 | .rows _ rs=>YR L rs
 |_=>true
def aS.rn(r:Ren):aS->aS
 | .rows s rs=>.rows s (VU r rs)
 |x=>x
theorem SY{n:Nat}{sh:MSh}{g:jY}(h:aS.Bd n (.map sh g))(r:Ren):(λk=>(g k).map (PV.ren r))=g:=by
 funext k;cases e:g k with
 |none=>rfl
 |some v=>rw[atO,PV.oQ (h k v e)]
theorem aS.S3{L:Nat->Bool}{n:Nat}{r s:Ren}{t:Nat->Nat}(h:∀i,L i=true->r (t i)=s i){x:aS}(hb:x.Bd n)(e:x.on L=true)(pre:P2_):(x.rn (up t)).ren r pre=x.ren s pre:=by
 cases x with
 |rows sz rs=>simp only[aS.rn,aS.ren,<-PV.kT,IG];rw[PV.iv h rs (AE e)]
 |map sh g=>simp only[aS.rn,aS.ren,SY hb]
 |loop=>rfl
 |dead=>rfl
def aS.back(q:Nat->Nat × Nat)(n:Nat):aS->aS
 | .rows s rs=>.rows s (PV.TN q (rs.drop n))
 | .map sh g=>.map sh λk=>(g k).map (PV.back q)
 |x=>x
theorem aS.NN{L:Nat->Bool}{n:Nat}{q:Nat->Nat × Nat}{r:Ren}(h:∀i,L i=true->q (r i).1=(i,(r i).2.length)){x:aS}(hb:x.Bd n)(l:x.on L=true)(pre:P2_):(x.ren r pre).back q pre.length=x:=by
 cases x with
 |rows sz rs =>simp only[aS.back,aS.ren,<-PV.kT];have e:=ML pre (PV.mU r rs) 0;rw[atA]at e;rw[e,avG,PV.NO h rs (AE l)]
 |map sh g=>
  simp only[aS.back,aS.ren,SY hb];congr 1;funext k;cases e:g k with
  |none=>rfl
  |some v =>have u:v.on (λ_=>false)=true:=PV.Jz (L:=λi=>decide (i<0)) (λi hi=>by simp at hi) v ((PV.HC v).trans (hb k v e));have:=PV.NN (L:=λ_=>false) (q:=q) (r:=r) (λi hi=>by cases hi) v u;rw[PV.oQ (hb k v e)]at this;rw[atO,this]
 |loop=>rfl
 |dead=>rfl
theorem aS.aaL{L:Nat->Bool}{n m:Nat}{t:Ren}(h:∀i,L i=true->(t i).1<m){x:aS}(hb:x.Bd n)(e:x.on L=true):(x.rn t).Bd m:=by
 cases x with
 |rows sz rs =>show PV.eS m (VU t rs)=true;rw[IG];exact PV.QI h rs (AE e)
 |map sh g=>exact hb
 |loop=>trivial
 |dead=>trivial
theorem aS.t8{t:Ren}{x y:aS}(h:(x.rn t).live=some y):x.live=some x/\y=x.rn t:=by
 cases x<;>first|(cases h;done)|(cases h;exact⟨rfl,rfl⟩)
def gtH(h:Hp)(i:Nat):aS:=match h[i]? with
 |some x=>x
 |none=>.dead
theorem OO{h:Hp}{i:Nat}{x:aS}(e:(gtH h i).live=some x):h.ph i=some x/\gtH h i=x:=by
 have e2:=aS.DC e;refine⟨?_,e2⟩;unfold gtH at e;rw[Hp.kX];split at e;rename_i y l;rw[l];exact e;cases e
theorem ahL{h:Hp}{i:Nat}{x:aS}(e:h.ph i=some x):gtH h i=x/\x.live=some x:=by
 have l:=lY e;rw[Hp.kX,l.1]at e;refine⟨?_,e⟩;unfold gtH;rw[l.1]
def rM(h:Hp)(t:Ren)(M:N_):Hp:=M.map λi=>(gtH h i).rn t
def FB(M:N_)(h:Hp):Bool:=VJ M&&M.all λi=>(gtH h i).on (inL M)
theorem gp{M:N_}{h:Hp}(ok:FB M h=true){i:Nat}(hi:inL M i=true):(gtH h i).on (inL M)=true:=by
 simp only[FB,asV,atI]at ok;exact ok.2 i (BJ hi)
theorem IA{h:Hp}{t:Ren}{M:N_}{k:Nat}{x:aS}(e:Hp.ph (rM h t M) k=some x):k<Z' M/\(gtH h (atN M k)).live=some (gtH h (atN M k))/\x=(gtH h (atN M k)).rn t:=by
 rw[Hp.kX,rM,yA]at e;split at e;rename_i i;exact⟨i,aS.t8 e⟩;cases e
section
variable {r:Ren} {f:Fr} {h:Hp} {F:PF} {H:PH}
theorem CZ(R:Rl r f h F H)(i:Nat):(gtH h i).Bd h.length:=by
 unfold gtH;split;rename_i x e;exact R.hb x (auZ e);trivial
theorem Rl.cut(R:Rl r f h F H){M:N_}(ok:FB M h=true):Rl (λk=>r (atN M k)) .nil (rM h (up (posOf M)) M) n_ H:=by
 have A:(rM h (up (posOf M)) M).length=Z' M:=by simp[rM]
 refine⟨rfl,λk x u=>?_,λk l x y u N e=>?_,λi v K=>by simp[Fr.pf]at K,λx u=>?_,λk x u=>?_⟩;obtain⟨B,w,rfl⟩:=IA u;have D:=OO w;rw[aS.S3 (L:=inL M) (s:=r) (t:=posOf M) (λi hi=>by rw[(tC hi).1]) (CZ R _) (gp ok (tL B))];exact R.hp _ _ D.1;obtain⟨B,w,-⟩:=IA u;obtain⟨J,D,-⟩:=IA N;have E:=R.inj _ _ _ _ (OO w).1 (OO D).1 e;simp only[FB,asV]at ok;rw[<-DK ok.1 B,E,DK ok.1 J];rw[A];obtain⟨i,hi,rfl⟩:=atM.1 u;exact aS.aaL (L:=inL M) (t:=up (posOf M)) (λi hi=>(tC hi).2) (CZ R _) (gp ok (wI hi));obtain⟨B,w,-⟩:=IA u;exact R.pc _ _ (OO w).1
theorem yE(H:PH)(D:N_)(o:Nat):(H.only D) o=if o∈D then H o else none:=rfl
theorem Rl.only(R:Rl r f h F H){D:N_}(l:∀i x,h.ph i=some x->(r i).1∈D):Rl r f h F (H.only D):=by
 refine⟨R.fr,λi x e=>?_,R.inj,R.fb,R.hb,R.pc⟩;rw[yE,aF (l i x e)];exact R.hp i x e
end
def reach(h:Hp):Nat->N_->N_->N_
 |0,_,seen=>seen
 |_+1,[],seen=>seen
 |n+1,i::e,seen=>if inL seen i then reach h n e seen else match gtH h i with
  | .rows _ rs=>reach h n (C5 rs e) (i::seen)
  | .map _ _=>reach h n e (i::seen)
  |_=>reach h n e seen
def xB:Nat->N_->N_
 |0,l=>l
 |n+1,l=>xB n (n::l)
theorem Kh:∀(n:Nat)(l:N_)(k:Nat),atN (xB n l) k=if k<n then k else atN l (k-n)
 |0,l,k=>by simp[xB]
 |n+1,l,k=>by
  rw[xB,Kh n (n::l) k];rcases Nat.lt_trichotomy k n with h|h|h
  rw[aF h,aF Om];subst h;rw[aC (Nat.lt_irrefl _),aF Om,auK];rfl;rw[aC Om,aC Om];obtain⟨d,e⟩:∃d,k-n=d+1:=⟨k-n-1,by omega⟩;rw[e,show k-(n+1)=d by omega];rfl
theorem Gg:∀(n:Nat)(l:N_),(xB n l).length=n+Z' l
 |0,l=>by simp[xB]
 |n+1,l=>by rw[xB,Gg n];simp;omega
def nz:Hp->N_->N_
 |[],l=>l
 |x::xs,l=>match x with
  | .rows _ rs=>C5 rs (nz xs l)
  |_=>nz xs l
def trim(n:Nat)(v:PV)(h:Hp):Option (PV × Hp):=
 if auR n h.length then some (v,h)else
 let M:=xB n ((reach h 1000 (PV.Wi v (nz (h.take n) [])) []).filter λi=>Nat.ble n i)
 if FB M h&&v.onC (inL M)then some (v.tz (up (posOf M)),rM h (up (posOf M)) M)else none
noncomputable def ZB(call:gN):gN:=λname vs h=>match call name vs h with
 |some (v,e)=>trim h.length v e
 |none=>none
theorem Oq{r:Ren}{n:Nat}{v v':PV}{h w:Hp}{y:PV}{H:PH}(e:trim n v h=some (v',w))(x:Comes r n v h y H):Comes r n v' w y H:=by
 unfold trim at e;split at e;cases e;exact x;simp only at e;generalize(reach h 1000 (PV.Wi v (nz (h.take n) [])) []).filter (λi=>Nat.ble n i)=N at e;split at e;rename_i l;simp only[asV]at l;replace l:=And.intro l.1 (PV.Ef l.2);rw[PV.QR]at e;cases e;obtain⟨r',A,R,rfl,hb,B⟩:=x;have u:(rM h (up (posOf (xB n N))) (xB n N)).length=(xB n N).length:=by simp[rM]
 refine⟨λk=>r' (atN (xB n N) k),λi hi=>?_,R.cut l.1,(PV.E6 (L:=inL (xB n N)) (s:=r') (t:=posOf (xB n N)) (λi hi=>by rw[(tC hi).1]) _ l.2).symm,?_,?_⟩;show r i=r' (atN (xB n N) i);rw[Kh,aF hi];exact A i hi;rw[u];exact PV.gr (t:=up (posOf (xB n N))) (λi hi=>(tC hi).2) _ l.2;rw[u,Gg];omega;cases e
variable{C:Ctx}
theorem aH.Ag{name:Nat}{vs:V_}{H:PH}{R i:R_}(h:aH C name vs H R)(B:∀l H',R l H'->i l H'):aH C name vs H i:=by
 refine⟨h.1,λE w D A hW e=>(h.2 E w D A hW e).mono λJ K he=>?_⟩;obtain⟨u,pv,x,H',g1,g2,g3,g4,y⟩:=he;exact⟨u,pv,x,H',g1,g2,g3,g4,B _ _ y⟩
theorem Y0{call:gN}(l:qH C call):qH C (ZB call):=by
 intro name vs h v x e r H R X hb;unfold ZB at e;split at e;rename_i w g i;exact(l name vs h w g i r H R X hb).Ag λy H' u=>Oq e u;cases e
def aS.xL:aS->Bool
 | .rows _ _=>true
 | .map _ _=>true
 |_=>false
theorem PC{x:aS}(h:x.xL=true):x.live=some x:=by
 cases x<;>first|rfl|cases h
def okM(M:N_)(h:Hp):Bool:=FB M h&&M.all λi=>(gtH h i).xL
def wU(r:Ren)(M:N_):N_:=M.map λi=>(r i).1
def bk(M:N_)(n:Nat)(j:Nat):Nat:=if Nat.blt j M.length then atN M j else n+(j-Z' M)
def DT(M:N_)(h2:Hp)(t:Ren):Nat->Hp->Hp
 |_,[]=>[]
 |i,x::xs=>(if inL M i then(gtH h2 (posOf M i)).rn t else x)::DT M h2 t (i+1) xs
def tP(M:N_)(h h2:Hp):Hp:=(match M with|[]=>h|_=>DT M h2 (up (bk M h.length)) 0 h)++(h2.drop M.length).map (aS.rn (up (bk M h.length)))
theorem Jl(M:N_)(h2:Hp)(t:Ren):∀(h:Hp)(i k:Nat),(DT M h2 t i h)[k]?=(h[k]?).map λx=>if inL M (i+k)then(gtH h2 (posOf M (i+k))).rn t else x
 |[],i,k=>by simp[DT]
 |x::xs,i,0=>by simp[DT]
 |x::xs,i,k+1=>by simp only[DT,List.getElem?_cons_succ];rw[Jl M h2 t xs (i+1) k,show i+1+k=i+(k+1) by omega]
theorem Dg(h2:Hp)(t:Ren):∀(h:Hp)(i:Nat),DT [] h2 t i h=h
 |[],i=>rfl
 |x::xs,i=>by simp[DT,inL,Dg h2 t xs]
theorem HP(M:N_)(h2:Hp)(t:Ren):∀(h:Hp)(i:Nat),(DT M h2 t i h).length=Z' h
 |[],i=>rfl
 |x::xs,i=>by simp[DT,HP M h2 t xs]
theorem Dy(M:N_)(h h2:Hp):tP M h h2=DT M h2 (up (bk M h.length)) 0 h++(h2.drop M.length).map (aS.rn (up (bk M h.length))):=by
 unfold tP;split;rw[Dg];rfl
theorem JI(M:N_)(h h2:Hp):(tP M h h2).length=Z' h+(Z' h2-Z' M):=by
 rw[Dy];simp[HP]
theorem acA(t:Ren)(l:Hp)(k:Nat):gtH (l.map (aS.rn t)) k=(gtH l k).rn t:=by
 unfold gtH;rw[atC];cases l[k]?<;>rfl
theorem Wa(l:Hp)(m k:Nat):gtH (l.drop m) k=gtH l (m+k):=by
 unfold gtH;rw[awM]
theorem fq(M:N_)(h h2:Hp)(k:Nat):gtH (tP M h h2) k=if k<h.length then(if inL M k then(gtH h2 (posOf M k)).rn (up (bk M h.length))else gtH h k)else(gtH h2 (Z' M+(k-Z' h))).rn (up (bk M h.length)):=by
 rw[Dy];by_cases e:k<Z' h;rw[aF e];unfold gtH;rw[avM (by rw[HP];exact e),Jl,atA];rw[asZ e,atO];by_cases i:inL M k=true;simp only[aF i];rfl;simp only[aC i];rw[aC e];have:gtH (DT M h2 (up (bk M h.length)) 0 h++(h2.drop M.length).map (aS.rn (up (bk M h.length)))) k=gtH ((h2.drop M.length).map (aS.rn (up (bk M h.length)))) (k-Z' h):=by unfold gtH;rw[auS (by rw[HP];omega),HP]
 rw[this,acA,Wa]
theorem aS.Z8{n:Nat}{x:aS}(h:x.Bd n):x.on (λi=>decide (i<n))=true:=by
 cases x with
 |rows s rs=>exact n0 ((PV.NP rs).trans h)
 |map=>rfl
 |loop=>rfl
 |dead=>rfl
theorem uN(h:Hp)(k:Nat):h.ph k=(gtH h k).live:=by
 unfold gtH;rw[Hp.kX];cases h[k]?<;>rfl
theorem acW{h:Hp}{x:aS}(l:x∈h):∃k,k<Z' h/\gtH h k=x:=by
 obtain⟨k,i,e⟩:=auG l;exact⟨k,i,by unfold gtH;rw[asZ i,<-e]⟩
section
variable {r:Ren} {f:Fr} {h h2:Hp} {F:PF} {H H':PH} {v rv:PV} {M:N_}
theorem sZ(ok:okM M h=true){i:Nat}(hi:inL M i=true):h.ph i=some (gtH h i):=by
 simp only[okM,asV,atI]at ok;rw[uN];exact PC (ok.2 i (BJ hi))
theorem R9(ok:okM M h=true){i:Nat}(hi:inL M i=true):i<Z' h:=(lY (sZ ok hi)).2
theorem Dx(R:Rl r f h F H)(ok:okM M h=true)(hc:Comes (λk=>r (atN M k)) M.length v h2 rv H')(ap:rG H (H.only (wU r M)) H') :
  ∃r',iC h.length r r'/\Z' h<=(tP M h h2).length/\Rl r' f (tP M h h2) F (H.over (H.only (wU r M)) H')/\rv=(v.ren (up (bk M h.length))).ren r'/\(v.ren (up (bk M h.length))).bound (tP M h h2).length=true:=by
 obtain⟨r2,γ,J,rfl,V,ε⟩:=hc;have S:iC h.length r (λi=>if i<h.length then r i else r2 (Z' M+(i-Z' h))):=λi hi=>by
  show r i=if i<h.length then r i else _
  rw[aF hi]
 generalize δ:(λi=>if i<h.length then r i else r2 (Z' M+(i-Z' h)))=r' at S;have X:∀i,Z' h<=i->r' i=r2 (Z' M+(i-Z' h)):=λi hi=>by rw[<-δ];exact aC Om
 have O:∀j,r' (bk M h.length j)=r2 j:=λj=>by unfold bk;by_cases Y:j<Z' M;rw[aF (by simpa[Nat.blt_eq]using Y),<-S _ (R9 ok (tL Y)),<-γ j Y];rw[aC (by simpa[Nat.blt_eq]using Y),X _ Om];congr 1;omega
 have W:∀j,j<Z' h2->bk M h.length j<Z' h+(Z' h2-Z' M):=λj Y=>by unfold bk;by_cases N:j<Z' M;rw[aF (by simpa[Nat.blt_eq]using N)];have:=R9 ok (tL N);omega;rw[aC (by simpa[Nat.blt_eq]using N)];omega
 have β:∀j pre,((gtH h2 j).rn (up (bk M h.length))).ren r' pre=(gtH h2 j).ren r2 pre:=λj pre=>
  aS.S3 (L:=λi=>decide (i<Z' h2)) (λi _=>O i) (CZ J j) (aS.Z8 (CZ J j)) pre
 have K:∀j,((gtH h2 j).rn (up (bk M h.length))).Bd (Z' h+(Z' h2-Z' M)):=λj=>
  aS.aaL (L:=λi=>decide (i<Z' h2)) (t:=up (bk M h.length)) (λi hi=>W i (by simpa using hi)) (CZ J j) (aS.Z8 (CZ J j))
 have u:∀k x,Hp.ph (tP M h h2) k=some x->(h.ph k=some x/\r' k=r k/\H' (r k).1=none/\(H.only (wU r M)) (r k).1=none) \/
   ∃j,h2.ph j=some (gtH h2 j)/\x=(gtH h2 j).rn (up (bk M h.length))/\r' k=r2 j/\k=bk M h.length j:=by
  intro k x A;rw[uN,fq]at A;by_cases hk:k<Z' h;rw[aF hk]at A;by_cases hm:inL M k=true;rw[aF hm]at A;obtain⟨B,rfl⟩:=aS.t8 A;have hp:=tC hm;have Z:k=bk M h.length (posOf M k):=by unfold bk;rw[aF (by simpa[Nat.blt_eq]using hp.2),hp.1]
  refine .inr ⟨posOf M k,by rw[uN];exact B,rfl,?_,Z⟩;exact(congrArg r' Z).trans (O (posOf M k))
  ·rw[aC hm,<-uN]at A;have α:(r k).1 ∉ wU r M:=λhc=>by obtain⟨i,hi,e⟩:=atM.1 hc;have:=R.inj i k _ _ (sZ ok (wI hi)) A e;subst this;exact hm (wI hi)
   have ho:(H.only (wU r M)) (r k).1=none:=by rw[yE,aC α]
   refine .inl ⟨A,(S k hk).symm,?_,ho⟩;cases e:H' (r k).1 with
   |none=>rfl
   |some y =>have:=ap _ y e ho;rw[R.hp k x A]at this;cases this
  rw[aC hk]at A;obtain⟨B,rfl⟩:=aS.t8 A;refine .inr ⟨Z' M+(k-Z' h),by rw[uN];exact B,rfl,X k Om,?_⟩;unfold bk;rw[aC (by simp[Nat.blt_eq])];omega
 refine⟨r',S,by rw[JI];omega,⟨?_,λk x A=>?_,λk l x y A hy e=>?_,λi w hw=>?_,λx A=>?_,λk x A=>?_⟩,(PV.E6 (L:=λi=>decide (i<Z' h2)) (λi _=>O i) v ((PV.HC v).trans V)).symm,?_⟩;rw[R.fr];exact PF.oZ S R.fb;rcases u k x A with⟨B,D,E,U⟩|⟨j,B,rfl,E,-⟩
 rw[D];have this:=R.hp k x B;rw[aS.oZ S (R.hb x (auZ (lY B).1))]at this;simp only[PH.over,E,U,this];rw[E,β j];simp only[PH.over,J.hp j _ B];rcases u k x A with⟨B,D,E,U⟩|⟨j,B,rfl,E,U⟩<;>rcases u l y hy with⟨g1,g2,g3,g4⟩|⟨j',g1,rfl,g3,g4⟩
 rw[D,g2]at e;exact R.inj k l _ _ B g1 e;rw[D,g3]at e;rw[e,J.hp j' _ g1]at E;cases E;rw[E,g2]at e;rw[<-e,J.hp j _ B]at g3;cases g3;rw[E,g3]at e;rw[U,g4,J.inj j j' _ _ B g1 e];rw[JI];exact PV.vZ (Nat.le_add_right _ _) w (R.fb i w hw);rw[JI];obtain⟨k,hk,rfl⟩:=acW A;rw[fq];split;split;exact K _;exact(CZ R k).mono (Nat.le_add_right _ _);exact K _;rcases u k x A with⟨B,D,E,U⟩|⟨j,B,rfl,E,-⟩
 rw[D];exact R.pc k x B;rw[E];exact J.pc j _ B;rw[JI];exact PV.gr (t:=up (bk M h.length)) (λi hi=>W i (by simpa using hi)) v ((PV.HC v).trans V)
theorem mo {C : Ctx} {call : gN} (hC : qH C call) {name : Nat} {vs : V_} (R : Rl r f h F H) (ok : okM M h = true) (hv : PV.ons (inL M) vs = true)
    (e : call name (PV.mQ (up (posOf M)) vs) (rM h (up (posOf M)) M) = some (v, h2)) : aH C name (vs.map (PV.ren r)) (H.only (wU r M)) (Comes (fun k => r (atN M k)) M.length v h2) := by
  have oks : FB M h = true := by simp only [okM, asV] at ok; exact ok.1
  have hlen : (rM h (up (posOf M)) M).length = M.length := by simp [rM]
  have h1 := hC name _ _ v h2 e (fun k => r (atN M k)) (H.only (wU r M))
    ((R.cut oks).only fun k x hx => List.mem_map_of_mem (BJ (tL (IA hx).1))) (fun o x hx => by
      rw [yE] at hx;split at hx
      · rename_i hm
        obtain ⟨i, hi, rfl⟩ := atM.1 hm;have hp := tC (wI hi);have hl := sZ ok (wI hi);rw [uN] at hl;refine ⟨posOf M i, (gtH h i).rn (up (posOf M)), ?_, by show (r (atN M (posOf M i))).1 = (r i).1; rw [hp.1]⟩;rw [Hp.kX, rM, yA, aF hp.2, hp.1];show aS.live _ = _;generalize gtH h i = y at hl ⊢;cases y <;> first | rfl | cases hl
      · cases hx) (by rw [hlen]; exact PV.vI (t := up (posOf M)) (fun i hi => (tC hi).2) vs hv)
  rw [hlen] at h1;rw [<- PV.gJ, PV.BQ (L := inL M) (s := r) (t := posOf M) (fun i hi => by show r (atN M (posOf M i)) = r i; rw [(tC hi).1]) vs hv] at h1;rw [<- PV.gJ];exact h1
end
noncomputable def aaA(call:gN)(M:N_)(name:Nat)(vs:V_)(h:Hp):Option (PV × Hp):=
 if okM M h&&VN (inL M) vs then match call name (YV (up (posOf M)) vs) (rM h (up (posOf M)) M)with
  |some (v,h2)=>some (v.tz (up (bk M h.length)),tP M h h2)
  |none=>none
 else none
noncomputable def hand(call:gN):gN:=λname vs h=>aaA call (reach h 1000 (wG vs []) []) name vs h
theorem acJ{call:gN}(B:qH C call):j5 C (hand call):=by
 intro name vs h v N e r f F H d K R hb E;unfold hand aaA at e;generalize reach h 1000 (wG vs []) []=M at e;split at e;rename_i i;simp only[asV]at i;rw[FD]at e;split at e;rename_i w h2 e2;rw[PV.QR]at e;cases e;refine⟨_,H.only (wU r M),_,rfl,λo x l=>?_,mo B R i.1 (QG i.2) e2,λrv H' L A=>?_⟩;rw[yE]at l;split at l;exact l;cases l;obtain⟨r',D,J,y,rfl,u⟩:=Dx R i.1 L A;exact E r' _ D J y u;cases e;cases e
theorem xC{n:Nat}:∀{l:P2_},PV.eS n l=true↔∀x∈l,PV.bounds n x=true
 |[]=>by simp[PV.eS]
 |x::xs=>by simp[PV.eS,xC (l:=xs)]
theorem sR{n:Nat}:∀{l:V_},PV.bounds n l=true↔∀x∈l,x.bound n=true
 |[]=>by simp[PV.bounds]
 |x::xs=>by simp[PV.bounds,sR (l:=xs)]
theorem YU{L:Nat->Bool}:∀{l:V_},PV.ons L l=true↔∀x∈l,x.on L=true
 |[]=>by simp[PV.ons]
 |x::xs=>by simp[PV.ons,YU (l:=xs)]
theorem Ej{L:Nat->Bool}:∀{l:P2_},PV.rZ L l=true↔∀x∈l,PV.ons L x=true
 |[]=>by simp[PV.rZ]
 |x::xs=>by simp[PV.rZ,Ej (l:=xs)]
section
variable {L:Nat->Bool} {r:Ren} {o s n:Nat} {rs pre:P2_}
theorem OL(hp:(r o).2.length=Z' pre)(hi:∀q,L q=true->(r q).1=(r o).1->q=o)(v:PV)(i:v.on L=true):(v.cO o s rs).ren r=(v.ren r).cO (r o).1 s (pre++rs.map λx=>x.map (PV.ren r)):=by
 cases v with
 |osl q s' off len =>simp only[PV.on]at i;simp only[PV.cO,PV.ren];by_cases e:q=o;subst e;rw[aF rfl,aF rfl,hp,ML];simp only[asO,asX];by_cases c:s'=s/\off+len<=Z' rs;rw[aF c,aF ⟨c.1,by omega⟩];simp only[PV.ren,PV.kT,List.map_take,List.map_drop];rw[aC c,aC (λh=>c ⟨h.1,by omega⟩)];rfl;rw[aC e,aC (λh=>e (hi q i h))];rfl
 |_=>rfl
theorem Cv(hp:(r o).2.length=Z' pre)(hi:∀q,L q=true->(r q).1=(r o).1->q=o)(v:PV)(e:v.on L=true):(v.mM o s rs).ren r=(v.ren r).mM (r o).1 s (pre++rs.map λx=>x.map (PV.ren r)):=by
 cases v with
 |agg cs =>simp only[PV.on]at e;simp only[PV.mM,PV.ren,PV.gJ,avT];congr 1;exact avO λx i=>OL hp hi x (YU.1 e x i)
 |osl q s' off len=>exact OL hp hi _ e
 |_=>rfl
theorem abR(hp:(r o).2.length=Z' pre)(hi:∀q,L q=true->(r q).1=(r o).1->q=o)(v:PV)(e:v.on L=true):(v.frz o s rs).ren r=(v.ren r).frz (r o).1 s (pre++rs.map λx=>x.map (PV.ren r)):=by
 cases v with
 |tup cs =>simp only[PV.on]at e;simp only[PV.frz,PV.ren,PV.gJ,avT];congr 1;exact avO λx i=>Cv hp hi x (YU.1 e x i)
 |agg cs=>exact Cv hp hi _ e
 |osl q s' off len=>exact OL hp hi _ e
 |_=>rfl
theorem EN(i:PV.eS n rs=true)(v:PV)(e:v.bound n=true):(v.cO o s rs).bound n=true:=by
 cases v with
 |osl q s' off len =>simp only[PV.cO];split;split;simp only[PV.bound];exact xC.2 λx l=>xC.1 i x (List.mem_of_mem_drop (awU l));rfl;exact e
 |_=>exact e
theorem l7(i:PV.eS n rs=true)(v:PV)(e:v.bound n=true):(v.mM o s rs).bound n=true:=by
 cases v with
 |agg cs =>simp only[PV.bound]at e;simp only[PV.mM,PV.bound];refine sR.2 λx l=>?_;obtain⟨y,u,rfl⟩:=atM.1 l;exact EN i y (sR.1 e y u)
 |osl q s' off len=>exact EN i _ e
 |_=>exact e
theorem Q6(i:PV.eS n rs=true)(v:PV)(e:v.bound n=true):(v.frz o s rs).bound n=true:=by
 cases v with
 |tup cs =>simp only[PV.bound]at e;simp only[PV.frz,PV.bound];refine sR.2 λx l=>?_;obtain⟨y,u,rfl⟩:=atM.1 l;exact l7 i y (sR.1 e y u)
 |agg cs=>exact l7 i _ e
 |osl q s' off len=>exact EN i _ e
 |_=>exact e
theorem G8{q:Nat}{ts:P2_}{v:PV}(h:v.bound 0=true):v.cO q s ts=v:=by
 cases v<;>first|rfl|simp[PV.bound]at h
theorem ma{q:Nat}{ts:P2_}:∀{l:P2_},PV.eS 0 l=true->(l.map λc=>c.map (PV.cO q s ts))=l
 |[],_=>rfl
 |x::l,h=>by
  simp only[PV.eS,asV]at h;have i:x.map (PV.cO q s ts)=x:=by
   have e:=h.1;clear h
   induction x with
   |nil=>rfl
   |cons v x u =>simp only[PV.bounds,asV]at e;rw[atU,G8 e.1,u e.2]
  rw[atU,i,ma h.2]
theorem Nh(hp:(r o).2.length=Z' pre)(hi:∀q,L q=true->(r q).1=(r o).1->q=o)(x:aS)(u:x.on L=true)(e:P2_)(i:PV.eS 0 e=true):(x.frz o s rs).ren r e=(x.ren r e).frz (r o).1 s (pre++rs.map λx=>x.map (PV.ren r)):=by
 cases x with
 |rows s' rs' =>simp only[aS.on]at u;simp only[aS.frz,aS.ren,avT,atK,ma i];congr 2;refine avO λrow w=>?_;simp only[Function.comp,avT];exact avO λx l=>OL hp hi x (YU.1 (Ej.1 (AE u) row w) x l)
 |_=>rfl
theorem R6(B:PV.eS n rs=true)(x:aS)(l:x.Bd n):(x.frz o s rs).Bd n:=by
 cases x with
 |rows s' rs' =>refine xC.2 λrow e=>?_;obtain⟨i,w,rfl⟩:=atM.1 e;refine sR.2 λy D=>?_;obtain⟨u,A,rfl⟩:=atM.1 D;exact EN B u (sR.1 (xC.1 l i w) u A)
 |_=>exact l
end
def MP(L:Nat->Bool)(o s:Nat)(rs:P2_)(x:aS):aS:=if x.on L then x.frz o s rs else .dead
def rV(p:PV × Hp)(o:Nat):PV × Hp:=match gtH p.2 o with
 | .rows s rs=>if PV.eS 0 rs&&p.1.onC (λi=>(gtH p.2 i).xL)then(p.1.frz o s rs,(p.2.map (MP (λi=>(gtH p.2 i).xL) o s rs)).set o .dead)else p
 |_=>p
mutual
def PV.M4:PV->N_->N_
 | .osl o _ _ _,l=>o::l
 | .ptr _ _ _ _,l=>l
 | .map _,l=>l
 | .sl _ _,l=>l
 | .aU _,l=>l
 | .fn _ _,l=>l
 | .agg cs,l=>PV.Ad cs l
 | .tup cs,l=>PV.Ad cs l
 | .int _ _,l=>l
 | .bool _,l=>l
 | .str _,l=>l
 | .aG,l=>l
 | .lit _,l=>l
 | .junk,l=>l
def PV.Ad:V_->N_->N_
 |[],l=>l
 |v::vs,l=>PV.M4 v (PV.Ad vs l)
end
def Jm:P2_->N_->N_
 |[],l=>l
 |r::rs,l=>PV.Ad r (Jm rs l)
def l9(h:Hp)(n:Nat):Nat->N_->N_
 |0,l=>l
 |d+1,l=>match(l.filter λi=>Nat.ble n i).foldr (λi e=>match gtH h i with | .rows _ rs=>Jm rs e|_=>e) []with
  |[]=>l
  |l'=>l9 h n d l'++l
def Q3(n:Nat)(v:PV)(h:Hp):PV × Hp:=((l9 h n 6 (PV.M4 v [])).filter λi=>Nat.ble n i).foldl rV (v,h)
section
variable {r:Ren} {H:PH}
theorem Wb(g:aS->aS)(e:g .dead=.dead)(l:Hp)(k:Nat):gtH (l.map g) k=g (gtH l k):=by
 unfold gtH;rw[atC];cases l[k]? with
 |none=>exact e.symm
 |some x=>rfl
theorem Rr{x:aS}{L:Nat->Bool}{o s:Nat}{rs:P2_}{y:aS}(h:(MP L o s rs x).live=some y):x.on L=true/\x.live=some x/\y=x.frz o s rs:=by
 unfold MP at h;split at h;rename_i e;refine⟨e,?_,(aS.DC h).symm⟩;cases x<;>first|rfl|cases h
 cases h
theorem Q4{p:PV × Hp}(o:Nat)(R:Rl r .nil p.2 n_ H)(hb:p.1.bound p.2.length=true) :
  ∃K M,(∀F H2,jM K M F H2->jM (n_.set 0 (p.1.ren r)) H F H2)/\K=n_.set 0 ((rV p o).1.ren r)/\Rl r .nil (rV p o).2 n_ M/\(rV p o).1.bound (rV p o).2.length=true/\(rV p o).2.length=p.2.length:=by
 obtain⟨v,h⟩:=p;simp only at R hb;have A:∃K M,(∀F H2,jM K M F H2->jM (n_.set 0 (v.ren r)) H F H2)/\K=n_.set 0 (v.ren r)/\Rl r .nil h n_ M/\v.bound h.length=true/\Z' h=Z' h:=⟨_,H,λ_ _ h=>h,rfl,R,hb,rfl⟩;unfold rV;simp only;split;rename_i s rs Y;split;rename_i J;simp only[asV]at J;replace J:=And.intro J.1 (PV.Ef J.2);have B:h.ph o=some (.rows s rs):=by rw[uN,Y];rfl
 have O:=(lY B).2;obtain⟨pre,hp,-,S⟩:=R.hp.ex B;simp only[aS.ren]at S;have hi:∀q,(gtH h q).xL=true->(r q).1=(r o).1->q=o:=λq hq e=>by
  have h1:h.ph q=some (gtH h q):=by rw[uN];exact PC hq
  exact R.inj _ _ _ _ h1 B e
 have N:PV.eS h.length rs=true:=PV.zO (asQ _) _ J.1;have D:((h.map (MP (λi=>(gtH h i).xL) o s rs)).set o .dead).length=Z' h:=by simp
 have l:∀i x,Hp.ph ((h.map (MP (λi=>(gtH h i).xL) o s rs)).set o .dead) i=some x->i≠o/\h.ph i=some (gtH h i)/\(gtH h i).on (λi=>(gtH h i).xL)=true/\x=(gtH h i).frz o s rs:=λi x u=>by rw[Hp.HZ (by simpa using O)]at u;split at u;cases u;rename_i E;rw[uN,Wb _ (by rfl)]at u;obtain⟨h1,U,W⟩:=Rr u;exact⟨E,by rw[uN];exact U,h1,W⟩
 refine⟨_,H.frz (r o).1 s (pre++rs.map λx=>x.map (PV.ren r)),λF H2 Z=>.step (r o).1 S Z,?_,⟨rfl,λi x u=>?_,λi j x y u V e=>?_,λi w hw=>by simp[Fr.pf]at hw,λx u=>?_,λi x u=>?_⟩,?_,D⟩;funext i;simp only[PF.frz,PF.set,upd];split;rw[atO,abR (L:=λi=>(gtH h i).xL) hp hi v J.2];rfl;obtain⟨E,h1,U,rfl⟩:=l i x u;have X:=R.hp i _ h1;show(if(r i).1=(r o).1 then none else(H (r i).1).map (aS.frz (r o).1 s _))=_;rw[aC (λe=>E (R.inj _ _ _ _ h1 B e)),X,atO,Nh (L:=λi=>(gtH h i).xL) hp hi _ U _ (R.pc i _ h1)];exact R.inj _ _ _ _ (l i x u).2.1 (l j y V).2.1 e;rw[D];rcases axB u with h1|h1
 obtain⟨y,V,rfl⟩:=atM.1 h1;unfold MP;split;exact R6 N y (R.hb y V);trivial;subst h1;trivial;exact R.pc i _ (l i x u).2.1;rw[D];exact Q6 N v hb;exact A;exact A
theorem l8:∀(l:N_){p:PV × Hp}{H:PH},Rl r .nil p.2 n_ H->p.1.bound p.2.length=true ->
  ∃e,jM (n_.set 0 (p.1.ren r)) H (n_.set 0 ((l.foldl rV p).1.ren r)) e/\Rl r .nil (l.foldl rV p).2 n_ e/\(l.foldl rV p).1.bound (l.foldl rV p).2.length=true/\(l.foldl rV p).2.length=p.2.length
 |[],p,H,R,hb=>⟨H,.refl _ _,R,hb,rfl⟩
 |o::l,p,H,R,hb=>by obtain⟨E,e,D,rfl,w,i,u⟩:=Q4 o R hb;obtain⟨H2,x,y,A,B⟩:=l8 l w i;exact⟨H2,D _ _ x,y,A,B.trans u⟩
end
end Go.PM
namespace Go.PM
open Go
def YC(C:Ctx)(k:Nat)(pf:kJ):Prop:=∀(args:V_)(H:PH)(R:R_),Z' args<=pf.ntmps->pf.body.wp C (aV pf.res R) (PF.args args) H->aH C k args H R
theorem Fr.F0{l:V_}{f:Fr}(h:Fr.args l 0 (Fr.empty 9)=some f):f.pf=PF.args l:=by
 rw[Fr.I1 h];funext i;simp only[Nat.not_lt_zero,if_false,Nat.sub_zero,Fr.Cj,PF.args];cases l[i]?<;>rfl
theorem U4(r:Ren)(l:V_):PF.args (l.map (PV.ren r))=(PF.args l).ren r:=by
 funext i;simp only[PF.args,PF.ren,atC]
abbrev Orc:=Nat->V_->Option PV
def Kz(C:Ctx)(e:Orc):Prop:=∀name vs v,e name vs=some v->aH C name vs PH.nil (λi _=>i=v)
noncomputable def sD(tab:Nat->Option kJ)(e:Orc)(fz:Nat->Bool)(l:gN->MA)(m:Nat):Nat->gN
 |0=>λ_ _ _=>none
 |n+1=>λname args h=>match e name args with
  |some v=>if v.bound 0&&h.isEmpty then some (v,h)else none
  |none=>match tab name with
  |some pf=>if args.length<=pf.ntmps then match Fr.args args 0 (Fr.empty 9)with
    |none=>none
    |some f=>match sC (hand (ZB (sD tab e fz l m n))) (l (ZB (sD tab e fz l m n))) m pf.body f h with
    |some (.exit _,_,_)=>none
    |some (_,u,i)=>match dX.evs u.pf i.ph pf.res with
     |some vs=>if(bN vs).CS i.length then some (if fz name then Q3 h.length (bN vs) i else(bN vs,i))else none
     |none=>none
    |none=>none
   else none
  |none=>none
section
variable {C:Ctx} {r:Ren} {f:Fr} {h:Hp} {F:PF} {H:PH}
theorem Xu{h:PH}(x:KJ r h H){F:PF}{q:dX}{v:PV}(e:q.ev F h=some v):q.ev (F.ren r) H=some (v.ren r):=by
 cases q with
 |tmp t=>simp only[dX.ev]at e ⊢;simp only[PF.ren,e,atO]
 |cell t n=>
  cases n with
  |none =>simp only[dX.ev]at e ⊢;split at e;rename_i p l;simp only[PF.ren,l,atO];split at e;rename_i w i;have u:=xM x i;simp only[atU,auH]at u;simp only[u];cases e;rfl;cases e;cases e
  |some k=>
   simp only[dX.ev]at e ⊢;split at e
   ·rename_i p l;simp only[PF.ren,l,atO];cases i:loadCells h p k with
    |none=>rw[i]at e;cases e
    |some w =>rw[i]at e;rw[xM x i];cases e;simp only[atO,PV.ren,PV.gJ]
   cases e
theorem wz{h:PH}(i:KJ r h H){F:PF}:∀{l:List dX}{vs:V_},dX.evs F h l=some vs->dX.evs (F.ren r) H l=some (vs.map (PV.ren r))
 |[],_,e=>by cases e;rfl
 |q::l,vs,e=>by simp only[dX.evs]at e ⊢;split at e;rename_i v x u w;cases e;rw[Xu i u,wz i w];rfl;cases e
theorem Hn(vs:V_):bN (vs.map (PV.ren r))=(bN vs).ren r:=by
 unfold bN
 match vs with
 |[]=>rfl
 |[v]=>rfl
 |a::b::l=>simp only[atU,PV.ren,PV.gJ]
theorem Ka{tab:Nat->Option kJ}{E:Orc}{fz:Nat->Bool}{M:gN->MA}(hO:Kz C E)(hT:∀k pf,tab k=some pf->YC C k pf)(hD:∀call,qH C call->Ba C (M call))(m:Nat):∀n,qH C (sD tab E fz M m n)
 |0=>λname vs h v O e=>by cases e
 |n+1=>λname vs h v O e r H R X hb=>by
  have ih:=Y0 (Ka (fz:=fz) hO hT hD m n);simp only[sD]at e;split at e;rename_i w W;split at e;rename_i S;simp only[asV,List.isEmpty_iff]at S;obtain⟨S,rfl⟩:=S;cases e;have hH:H=PH.nil:=PH.ext λo=>by
   cases N:H o with
   |none=>rfl
   |some x =>obtain⟨i,y,A,-⟩:=X o x N;simp[Hp.kX]at A
  rw[hH,PV.mT hb];exact(hO name vs v W).Ag λrv H' hr=>by subst hr;exact⟨r,λ_ _=>rfl,⟨rfl,λi x B=>by simp[Hp.kX]at B,λi j x y B=>by simp[Hp.kX]at B,λi w Y=>by simp[Fr.pf]at Y,λx B=>(by cases B),λi x B=>by simp[Hp.kX]at B⟩,(PV.oQ S r).symm,S,asU _⟩
  cases e;split at e;rename_i pf ht;split at e;rename_i hl;split at e;cases e;rename_i f0 U;have V:∀(x:lI)(J:Fr)(A:Hp),(∀id,x≠.exit id)->sC (hand (ZB (sD tab E fz M m n))) (M (ZB (sD tab E fz M m n))) m pf.body f0 h=some (x,J,A) ->
    (match dX.evs J.pf A.ph pf.res with|some vs=>if(bN vs).CS A.length then some (if fz name then Q3 h.length (bN vs) A else(bN vs,A))else none|none=>none)=some (v,O)->aH C name (vs.map (PV.ren r)) H (Comes r h.length v O):=by
   intro x J A B N e2;refine hT name pf ht _ _ _ (by rw[asO];exact hl) ?_;have R0:Rl r f0 h (PF.args (vs.map (PV.ren r))) H:=⟨by rw[Fr.F0 U,U4],R.hp,R.inj,λi w Y=>by
    rw[Fr.F0 U]at Y;simp only[PF.args]at Y;have:∀(l:V_)(i:Nat),PV.bounds h.length l=true->l[i]?=some w->w.bound h.length=true:=by
     intro l
     induction l with
     |nil=>intro i _ hi;simp at hi
     |cons a l α=>
      intro i hb hi;simp only[PV.bounds,asV]at hb;cases i with
      |zero=>simp at hi;subst hi;exact hb.1
      |succ i=>exact α i hb.2 (by simpa using hi)
    exact this vs i hb Y,R.hb,R.pc⟩
   refine N6 (acJ ih) (hD _ ih) m pf.body N R0 λr' F' H' ha hn Z=>?_;cases h2:dX.evs J.pf A.ph pf.res with
   |none=>rw[h2]at e2;cases e2
   |some K=>
    rw[h2]at e2;simp only at e2;split at e2
    ·rename_i D;replace D:=PV.zN D;simp only[auY.injEq]at e2;have h3:=wz Z.hp h2;rw[<-Z.fr]at h3;have hR:∃vs,dX.evs F' H' pf.res=some vs/\∃F1 L H2,jM (n_.set 0 (bN vs)) H' F1 L/\PH.le H2 L/\∃u,F1 0=some u/\Comes r h.length v O u H2:=by refine⟨_,h3,?_⟩;rw[Hn K];split at e2;obtain⟨L,g1,g2,g3,g4⟩:=l8 ((l9 A h.length 6 (PV.M4 (bN K) [])).filter λi=>Nat.ble h.length i) (p:=(bN K,A)) Z.heap D;have e3:((l9 A h.length 6 (PV.M4 (bN K) [])).filter λi=>Nat.ble h.length i).foldl rV (bN K,A)=(v,O):=e2;rw[e3]at g1 g2 g3 g4;exact⟨_,L,L,g1,λ_ _ W=>W,v.ren r',rfl,r',ha,g2,rfl,g3,by rw[g4];exact hn⟩;cases e2;exact⟨_,H',H',.refl _ _,λ_ _ W=>W,(bN K).ren r',rfl,r',ha,Z.heap,rfl,D,hn⟩
     cases x with
     |normal=>exact hR
     |ret=>exact hR
     |exit id=>exact absurd rfl (B id)
    cases e2
  split at e;cases e;rename_i x J A B N;exact V x J A (λid he=>B id he) N e;cases e;cases e;cases e
end
def vF(W:N_):Nat->Hp->Hp
 |_,[]=>[]
 |i,x::xs=>(if W.contains i then .dead else x)::vF W (i+1) xs
theorem au(W:N_):∀(h:Hp)(i k:Nat)(x:aS),(vF W i h)[k]?=some x->x=.dead\/h[k]?=some x
 |[],_,_,_,e=>by simp[vF]at e
 |y::h,i,0,x,e=>by simp only[vF,List.getElem?_cons_zero,auY.injEq]at e;split at e;exact .inl e.symm;exact .inr (by rw[<-e];rfl)
 |y::h,i,k+1,x,e=>by simp only[vF,List.getElem?_cons_succ]at e ⊢;exact au W h (i+1) k x e
theorem Jp{W:N_}{h:Hp}{i:Nat}{x:aS}(e:Hp.ph (vF W 0 h) i=some x):h.ph i=some x:=by
 have l:=lY e;rcases au W h 0 i x l.1 with h2|h2
 subst h2;rw[Hp.kX,l.1]at e;cases e;rw[Hp.kX]at e ⊢;rw[l.1]at e;rw[h2];exact e
def ji(op:POp)(f:Fr):O_:=match op with
 | .store _ p _=>match p.ev f.pf with
  |some (.ptr o _ _ _)=>some o
  |_=>none
 | .append _ _ x _=>match x.ev f.pf with
  |some (.osl o _ _ _)=>some o
  |_=>none
 |_=>none
def Ni(hs:Hp)(op:POp)(f:Fr):Bool:=match ji op f with
 |none=>true
 |some o=>match hs[o]? with
  |none=>true
  |some .dead=>true
  |_=>false
theorem Nj{hs:Hp}{op:POp}{f:Fr}{o:Nat}(h:Ni hs op f=true)(i:ji op f=some o):hs.ph o=none:=by
 unfold Ni at h;rw[i]at h;simp only at h;rw[Hp.kX];split at h;rename_i e;rw[e];rfl;rename_i e;rw[e];rfl;cases h
noncomputable def sS(call:gN)(name:Nat)(vs:V_):Option PV:=
 if PV.bounds 0 vs then match call name vs []with
  |some (v,_)=>if v.bound 0 then some v else none
  |none=>none
 else none
def pq:aS->aS->Bool
 | .rows s rs,y=>match y with | .rows s' rs'=>auR s s'&&PV.YF rs rs'|_=>false
 | .map _ _,_=>false
 |_,_=>true
def alD(hs:Hp)(M:N_)(h':Hp):Bool:=M.all λi=>pq (gtH hs i) (gtH h' i)
noncomputable def Ac(call:gN)(l hs:Hp)(name:Nat)(vs:V_)(h:Hp):Option (PV × Hp):=
 let M:=reach l 1000 (wG vs []) []
 if(M.all λi=>(gtH l i).xL)&&(okM M h&&VN (inL M) vs)then match call name (YV (up (posOf M)) vs) (rM h (up (posOf M)) M)with
  |some (v,e)=>if(Nat.ble M.length e.length&&v.CS e.length)&&((e.all λx=>x.xL.not||x.bd e.length)&&alD hs M (tP M h e))then some (v.tz (up (bk M h.length)),tP M h e)else none
  |none=>none
 else none
noncomputable def p6(call:gN)(e hs:Hp)(op:POp)(st:Bool)(f:Fr)(h:Hp):Option (PV × Hp):=match op with
 | .call name args=>if args.all aP.clo then match aP.evs f.pf args with
  |some vs=>Ac call e hs name vs h
  |none=>none
  else none
 | .asE x args=>if x.clo&&args.all aP.clo then match x.ev f.pf,aP.evs f.pf args with
  |some (.fn name cs),some vs=>Ac call e hs name (vs++cs) h
  |_,_=>none
  else none
 |op=>if op.clo&&Ni hs op f then
   if op.iW then zA op f h else if op.eY then kU op f h else
    match aX op f.pf (if st then hs.ph else h.ph)with
    |some v=>if v.CS h.length then some (v,h)else none
    |none=>none
  else none
noncomputable def p7(call:gN)(l hs:Hp)(i:bU)(st:Bool)(f:Fr)(h:Hp):Option (PV × Hp):=match i.guard with
 |none=>p6 call l hs i.op st f h
 |some (t,e)=>match f.pf t with
  |some (.bool b)=>if b=e then p6 call l hs i.op st f h else some (.tup [],h)
  |some (.tup [])=>some (.tup [],h)
  |_=>none
noncomputable def WH(call:gN)(e hs:Hp):List (bU × Bool)->Fr->Hp->Option (Fr × Hp)
 |[],f,h=>some (f,h)
 |i::rest,f,h=>if f.fits i.1.dst then match p7 call e hs i.1 i.2 f h with
   |some (v,h')=>WH call e hs rest (f.put i.1.dst v) h'
   |none=>none
  else none
noncomputable def aiJ(e:Hp)(i:bU)(f:Fr)(h h':Hp):N_:=match i.op with
 | .call _ args=>match aP.evs f.pf args with
  |some vs=>(reach e 1000 (wG vs []) []).filter λi=>!pq (gtH h i) (gtH h' i)
  |none=>[]
 | .asE x args=>match x.ev f.pf,aP.evs f.pf args with
  |some (.fn _ cs),some vs=>(reach e 1000 (wG (vs++cs) []) []).filter λi=>!pq (gtH h i) (gtH h' i)
  |_,_=>[]
 |op=>(ji op f).toList
noncomputable def targets(call:gN)(e:Hp):List (bU × Bool)->Fr->Hp->N_
 |[],_,_=>[]
 |i::rest,f,h=>match p7 call e [] i.1 false f h with
  |some (v,h')=>aiJ e i.1 f h h'++targets call e rest (f.put i.1.dst v) h'
  |none=>[]
noncomputable def rH(call:gN):MA:=λops f h=>
 if ops.any λi=>i.2 then
  if ops.any λi=>i.1.op.eY then WH call h (vF (targets call h ops f h) 0 h) ops f h
  else match WH call h h ops f h with
   |some x=>some x
   |none=>WH call h (vF (targets call h ops f h) 0 h) ops f h
 else WH call h [] ops f h
structure DI(r:Ren)(hs h:Hp)(Hs:PH):Prop where
 a:∀i x,hs.ph i=some x->h.ph i=some x
 b:∀o x,Hs o=some x->∃i y,hs.ph i=some y/\o=(r i).1/\x=y.ren r (r i).2
 c:KJ r hs.ph Hs
section
variable {C:Ctx} {call:gN} {r:Ren} {f f':Fr} {hs h h':Hp} {F:PF} {H Hs:PH} {v:PV}
theorem DI.le(D:DI r hs h Hs)(R:Rl r f h F H):Hs.le H:=λo x l=>by
 obtain⟨i,y,e,rfl,rfl⟩:=D.b o x l;exact R.hp i y (D.a i y e)
theorem DI.next(D:DI r hs h Hs)(R:Rl r f h F H){r':Ren}(w:iC h.length r r')(E:∀i x,hs.ph i=some x->h'.ph i=some x):DI r' hs h' Hs:=by
 have e:∀i y,hs.ph i=some y->r i=r' i/\∀pre,y.ren r pre=y.ren r' pre:=λi y J=>by have l:=lY (D.a i y J);exact⟨w i l.2,λpre=>aS.oZ w (R.hb y (auZ l.1)) pre⟩
 refine⟨E,λo x u=>?_,λi x u=>?_⟩;obtain⟨i,y,l,A,B⟩:=D.b o x u;refine⟨i,y,l,by rw[A,(e i y l).1],?_⟩;rw[B,(e i y l).1];exact(e i y l).2 _;rw[<-(e i x u).1,<-(e i x u).2];exact D.c i x u
theorem y9{op:POp}(e:zA op f h=some (v,h')){i:Nat}{x:aS}(u:h.ph i=some x):h'.ph i=some x:=by
 have hlt:=(lY u).2;by_cases w:∃sh,op=.asJ sh;obtain⟨sh,rfl⟩:=w;simp only[zA,auY.injEq,Prod.mk.injEq]at e;obtain⟨-,rfl⟩:=e;rw[Hp.wL,aC Om];exact u;have l:(match cQ op f.pf with|some (y,x)=>if x.bd h.length then some (y h.length,h++[x])else none|none=>none)=some (v,h'):=by cases op<;>first|exact e|exact absurd ⟨_,rfl⟩ w
 split at l;split at l<;>cases l;rw[Hp.wL,aC Om];exact u;cases l
theorem p8{op:POp}(e:kU op f h=some (v,h')){i:Nat}{x:aS}(u:h.ph i=some x)(l:ji op f≠some i):h'.ph i=some x:=by
 have hlt:=(lY u).2;cases op<;>try (simp[kU]at e;done)
 case store n p y=>
  simp only[kU]at e;simp only[ji]at l;split at e
  ·rename_i o s j c w A D;rw[A]at l;split at e
   ·rename_i s' rs B;split at e
    ·split at e<;>cases e;rw[Hp.HZ ((atX.1 B).1),aC (λe=>l (by rw[e]))];exact u
    ·cases e
   ·cases e
  ·cases e
 case append size bytes y z=>
  simp only[kU]at e;simp only[ji]at l;split at e
  ·split at e
   ·cases e;exact u
   ·split at e<;>cases e;rw[Hp.wL,aC Om];exact u
   ·cases e
  ·rename_i o s off len b A D;rw[A]at l;split at e
   ·rename_i src s' rs B E;split at e<;>cases e;rw[Hp.wL,aC (by rw[auD];omega),Hp.HZ ((atX.1 E).1),aC (λe=>l (by rw[e]))];exact u
   ·cases e
  ·cases e
theorem Gy(N:qH C call){name:Nat}{vs:V_}(e:sS call name vs=some v) :
  vs.map (PV.ren r)=vs/\v.ren r=v/\v.bound 0=true/\aH C name vs PH.nil (λS _=>S=v):=by
 unfold sS at e;split at e;rename_i A;split at e;rename_i w M e2;split at e;rename_i B;cases e;refine⟨PV.mT A r,PV.oQ B r,B,?_⟩;have D:=N name vs [] v M e2 (up id) PH.nil ⟨rfl,λi x l=>by simp[Hp.kX]at l,λi j x y l=>by simp[Hp.kX]at l,λi w R=>by simp[Fr.pf]at R,λx l=>(by cases l),λi x l=>by simp[Hp.kX]at l⟩ (λo x l=>by cases l) A;rw[PV.mT A]at D;refine⟨D.1,λE w U O hW J=>(D.2 E w U O hW J).mono λV W he=>?_⟩;obtain⟨u,pv,K,H',g1,g2,g3,g4,r',-,-,L,-,-⟩:=he;exact⟨u,pv,K,H',g1,g2,g3,g4,by rw[L,PV.oQ B]⟩;cases e;cases e;cases e
end
theorem uw(r:Nat->Nat):∀n:Nat,∃b,∀j,j<n->r j<b
 |0=>⟨0,λj e=>absurd e (Nat.not_lt_zero j)⟩
 |n+1=>by
  obtain⟨b,hb⟩:=uw r n;refine⟨b+r n+1,λj e=>?_⟩;rcases Nat.lt_succ_iff_lt_or_eq.1 e with h|h
  have:=hb j h;omega;subst h;omega
theorem agZ(r:Ren)(h:Hp)(hi:∀i j x y,h.ph i=some x->h.ph j=some y->(r i).1=(r j).1->i=j) :
  ∃H:PH,KJ r h.ph H/\∀o x,H o=some x->∃i y,h.ph i=some y/\(r i).1=o:=by
 classical
 obtain⟨b,hb⟩:=uw (λi=>(r i).1) h.length;refine⟨⟨λo=>if e:∃i y,h.ph i=some y/\(r i).1=o then some ((Classical.choose (Classical.choose_spec e)).ren r (r (Classical.choose e)).2)else none,b,λo B=>?_⟩,λi x l=>?_,λo x l=>?_⟩;rw[dif_neg];rintro⟨i,y,u,w⟩;have:=hb i (lY u).2;omega;have e:∃j y,h.ph j=some y/\(r j).1=(r i).1:=⟨i,x,l,rfl⟩;show(if e:∃j y,h.ph j=some y/\(r j).1=(r i).1 then some ((Classical.choose (Classical.choose_spec e)).ren r (r (Classical.choose e)).2)else none)=_;rw[dif_pos e];have u:=Classical.choose_spec (Classical.choose_spec e);have w:=hi _ _ _ _ u.1 l u.2;have A:=u.1.symm.trans ((congrArg h.ph.f w).trans l);rw[auY.inj A,congrArg (λj=>(r j).2) w];change(if e:∃j y,h.ph j=some y/\(r j).1=o then some ((Classical.choose (Classical.choose_spec e)).ren r (r (Classical.choose e)).2)else none)=some x at l;split at l;rename_i e;exact e;cases l
theorem aaV{r:Ren}{f:Fr}{h:Hp}{F:PF}{H:PH}(R:Rl r f h F H):∃q:Nat->Nat × Nat,∀i x,h.ph i=some x->q (r i).1=(i,(r i).2.length):=by
 classical
 refine⟨λo=>if e:∃i y,h.ph i=some y/\(r i).1=o then(Classical.choose e,(r (Classical.choose e)).2.length)else(0,0),λi x l=>?_⟩;have e:∃j y,h.ph j=some y/\(r j).1=(r i).1:=⟨i,x,l,rfl⟩;show(if e:∃j y,h.ph j=some y/\(r j).1=(r i).1 then(Classical.choose e,(r (Classical.choose e)).2.length)else(0,0))=_;rw[dif_pos e];obtain⟨y,u,w⟩:=Classical.choose_spec e;rw[R.inj _ _ _ _ u l w]
def Ak(q:Nat->Nat × Nat)(r:Ren)(M:N_)(H:PH):Hp:=M.map λi=>match H (r i).1 with
 |some x=>(x.back q (r i).2.length).rn (up (posOf M))
 |none=>.dead
noncomputable def WO(call:gN)(h0:Hp)(q:Nat->Nat × Nat)(r:Ren):Spec:=λname vs=>
 some (wU r (reach h0 1000 (wG (PV.sQ q vs) []) []),λi l H'=>∃v e,
  call name (PV.mQ (up (posOf (reach h0 1000 (wG (PV.sQ q vs) []) []))) (PV.sQ q vs)) (Ak q r (reach h0 1000 (wG (PV.sQ q vs) []) []) i)=some (v,e) /\
  Comes (λk=>r (atN (reach h0 1000 (wG (PV.sQ q vs) []) []) k)) (reach h0 1000 (wG (PV.sQ q vs) []) []).length v e l H')
theorem Comes.agree{r s:Ren}{n:Nat}{v:PV}{h:Hp}{e:PV}{H:PH}(x:Comes r n v h e H)(w:iC n r s):Comes s n v h e H:=by
 obtain⟨r',l,u⟩:=x;exact⟨r',λi hi=>(w i hi).symm.trans (l i hi),u⟩
theorem Yi{x y:aS}(h:pq x y=true)(e:x.live=some x):x=y:=by
 cases x with
 |rows s rs =>cases y<;>simp only[pq,asV,auQ]at h;rw[PV.c8 _ _ h.2,Nat.eq_of_beq_eq_true h.1]
 |map=>cases h
 |loop=>cases e
 |dead=>cases e
section
variable {C:Ctx} {call:gN} {q:Nat->Nat × Nat} {r0 r:Ren} {f f':Fr} {h0 hs h h':Hp} {F:PF} {H Hs:PH} {v:PV} {K:R_} {st:Bool}
theorem MI(hC:qH C call)(hq:∀i x,h0.ph i=some x->q (r0 i).1=(i,(r0 i).2.length))(κ:iC h0.length r0 r)(R:Rl r f h F H)(D:DI r hs h Hs){name:Nat}{vs:V_}(e:Ac call h0 hs name vs h=some (v,h'))
  (O:∀r' H',iC h.length r r'->Z' h<=Z' h'->Rl r' f h' F H'->DI r' hs h' Hs->v.bound h'.length=true->K (v.ren r') H') :
  (Kind.call name (some (vs.map (PV.ren r)))).run C Hs (WO call h0 q r0) st K H:=by
 unfold Ac at e;simp only at e;generalize hM:reach h0 1000 (wG vs []) []=M at e;split at e;rename_i δ;simp only[asV,atI]at δ;obtain⟨ρ,ok,hv⟩:=δ;replace hv:=QG hv;rw[FD]at e;split at e;rename_i w B e2;split at e;rename_i hb;simp only[asV]at hb;obtain⟨⟨ν,V⟩,ξ,ο⟩:=hb;replace V:=PV.zN V;rw[PV.QR]at e;cases e;have σ:Z' M<=Z' B:=Nat.le_of_ble_eq_true ν;have N:∀i,inL M i=true->h0.ph i=some (gtH h0 i):=λi hi=>by rw[uN];exact PC (ρ i (BJ hi))
 have S:∀i,inL M i=true->r0 i=r i:=λi hi=>κ i (lY (N i hi)).2;have ε:∀i,inL M i=true->q (r i).1=(i,(r i).2.length):=λi hi=>by rw[<-S i hi];exact hq i _ (N i hi)
 have τ:PV.sQ q (vs.map (PV.ren r))=vs:=by rw[<-PV.gJ,PV.uU (L:=inL M) ε vs hv]
 have β:wU r0 M=wU r M:=avO λi hi=>by rw[S i (wI hi)]
 have α:∀i,inL M i=true->(H.only (wU r M)) (r i).1=some ((gtH h i).ren r (r i).2):=λi hi=>by rw[yE,aF (show(r i).1∈wU r M from atM.2 ⟨i,BJ hi,rfl⟩)];exact R.hp i _ (sZ ok hi)
 have Y:FB M h=true:=by simp only[okM,asV]at ok;exact ok.1
 have l:Ak q r0 M (H.only (wU r M))=rM h (up (posOf M)) M:=by unfold Ak rM;refine avO λi hi=>?_;have W:=wI hi;rw[S i W,α i W];show aS.rn _ (aS.back q _ _)=_;rw[aS.NN (L:=inL M) ε (CZ R i) (gp Y W)]
 have E:iC M.length (λk=>r0 (atN M k)) (λk=>r (atN M k)):=λk O=>S _ (tL O);have ι:∀x∈B,aS.Bd B.length x:=λx Z=>by
  have:=(atI.1 ξ) x Z;simp only[awY,Bool.not_eq_true']at this;rcases this with h1|h1
  cases x<;>first|trivial|cases h1
  exact aS.BD h1
 refine⟨_,wU r M,λH0 rv H'=>∃v B,call name (PV.mQ (up (posOf M)) vs) (Ak q r0 M H0)=some (v,B)/\Comes (λk=>r0 (atN M k)) M.length v B rv H',rfl,?_,λo ho=>?_,?_,λG=>?_,λrv H' hr ap=>?_⟩;simp only[WO,τ,hM,β];obtain⟨i,hi,rfl⟩:=atM.1 ho;exact⟨_,R.hp i _ (sZ ok (wI hi))⟩;exact(mo hC R ok hv e2).Ag λrv H' hc=>⟨w,B,by rw[l];exact e2,hc.agree λk O=>(E k O).symm⟩;obtain⟨nG,hG⟩:=G.fin;obtain⟨nH,hH⟩:=H.fin;have η:∀k,k<Z' M->(r (atN M k)).1<nH:=λk O=>by
  rcases atY (r (atN M k)).1 nH with h1|h1
  exact h1;have:=R.hp _ _ (sZ ok (tL O));rw[hH _ h1]at this;cases this
 generalize ζ:(λj=>if j<M.length then r (atN M j)else(nG+nH+j,[]))=r2;have hlt:∀j,j<Z' M->r2 j=r (atN M j):=λj J=>by rw[<-ζ];exact aF J
 have A:∀j,¬j<Z' M->r2 j=(nG+nH+j,[]):=λj J=>by rw[<-ζ];exact aC J
 have U:∀i j x y,B.ph i=some x->B.ph j=some y->(r2 i).1=(r2 j).1->i=j:=λi j x y _ _ he=>by
  by_cases hi:i<Z' M<;>by_cases J:j<Z' M;rw[hlt i hi,hlt j J]at he;have:=R.inj _ _ _ _ (sZ ok (tL hi)) (sZ ok (tL J)) he;have γ:VJ M=true:=by simp only[FB,asV]at Y;exact Y.1
  rw[<-DK γ hi,this,DK γ J];rw[hlt i hi,A j J]at he;have:=η i hi;simp only at he;omega;rw[A i hi,hlt j J]at he;have:=η j J;simp only at he;omega;rw[A i hi,A j J]at he;simp only at he;omega
 obtain⟨H',h1,h3⟩:=agZ r2 B U;refine⟨w.ren r2,H',⟨w,B,by rw[l];exact e2,r2,λk O=>?_,⟨rfl,h1,U,λi u hu=>by simp[Fr.pf]at hu,ι,λi x _=>by by_cases hi:i<Z' M;rw[hlt i hi];exact R.pc _ _ (sZ ok (tL hi));rw[A i hi];rfl⟩,rfl,V,σ⟩,λo x Z h4=>?_⟩;rw[hlt k O];exact E k O;obtain⟨i,y,-,rfl⟩:=h3 o x Z;by_cases hi:i<Z' M;rw[hlt i hi,α _ (tL hi)]at h4;cases h4;rw[A i hi];exact hG _ sO_;obtain⟨w',h3,e3,hc⟩:=hr;rw[l,e2]at e3;cases e3;obtain⟨r',ha,hn,R',rfl,μ⟩:=Dx R ok (hc.agree E) ap;have X:∀i x,hs.ph i=some x->Hp.ph (tP M h B) i=some x:=λi x Z=>by have θ:=D.a i x Z;have hlt:=(lY θ).2;by_cases hi:inL M i=true;have h5:=(atI.1 ο) i (BJ hi);have h6:=ahL Z;have h7:=Yi h5 (by rw[h6.1];exact h6.2);rw[uN,<-h7,h6.1];exact h6.2;rw[uN,fq,aF hlt,aC hi,<-uN];exact θ
 have D':=D.next R ha X;exact⟨D'.le R',O r' _ ha hn R' D' μ⟩;cases e;cases e;cases e
theorem bx(hC:qH C call)(hq:∀i x,h0.ph i=some x->q (r0 i).1=(i,(r0 i).2.length))(M:iC h0.length r0 r){op:POp}(R:Rl r f h F H)(D:DI r hs h Hs)(e:p6 call h0 hs op st f h=some (v,h'))
  (N:∀r' H',iC h.length r r'->Z' h<=Z' h'->Rl r' f h' F H'->DI r' hs h' Hs->v.bound h'.length=true->K (v.ren r') H') :
  (op.kind F).run C Hs (WO call h0 q r0) st K H:=by
 by_cases Z:∃name args,op=.call name args;obtain⟨name,args,rfl⟩:=Z;simp only[p6]at e;split at e;rename_i A;split at e;rename_i vs J;have W:=GB (r:=r) A J;rw[<-R.fr]at W;simp only[POp.kind];rw[W];exact MI hC hq M R D e N;cases e;cases e;by_cases J:∃x args,op=.asE x args;obtain⟨x,args,rfl⟩:=J;simp only[p6]at e;split at e;rename_i A;simp only[asV]at A;split at e;rename_i name cs vs V W;have h5:=GB (r:=r) A.2 W;have h6:=dO (r:=r) A.1 V;rw[<-R.fr]at h5 h6;simp only[POp.kind];rw[h6];simp only[PV.ren,PV.gJ];rw[h5];simp only[atO,<-atK];exact MI hC hq M R D e N;cases e;cases e;have l:(if op.clo&&Ni hs op f then if op.iW then zA op f h else if op.eY then kU op f h else
   match aX op f.pf (if st then hs.ph else h.ph)with|some v=>if v.CS h.length then some (v,h)else none|none=>none else none)=some (v,h'):=by
  cases op<;>first|exact e|exact absurd ⟨_,_,rfl⟩ Z|exact absurd ⟨_,_,rfl⟩ J
 split at l;rename_i A;simp only[asV]at A;have S:∀i x,hs.ph i=some x->ji op f≠some i:=λi x hx ht=>by rw[Nj A.2 ht]at hx;cases hx
 by_cases V:∃sh x k w,op=.insert sh x k w;obtain⟨sh,x,k,w,rfl⟩:=V;simp[POp.clo]at A;have E:op.kind F=if op.iW then .new (cQ op F)else if op.eY then .write (λH K=>cK op F H K)else .calm (aX op F):=by cases op<;>first|rfl|exact absurd ⟨_,_,rfl⟩ Z|exact absurd ⟨_,_,rfl⟩ J|exact absurd ⟨_,_,_,_,rfl⟩ V
 rw[E];split at l;rename_i O;rw[aF O];have B:Z' h<=Z' h':=RK (op:=op) (f:=f) (v:=v) (by unfold DL;rw[aF A.1,aF O];exact l);obtain⟨mk,x,g1,g2⟩:=TD (d:=some 0) (K:=λF' H'=>∀u,F' 0=some u->K u H') R A.1 l λr' H' L U hb u hu=>by simp only[PF.put,PF.set,Gh]at hu;cases hu;exact N r' H' L B U (D.next R L λi y Y=>y9 l (D.a i y Y)) hb
 exact⟨mk,x,g1,λo ho=>g2 o ho _ (by simp[PF.put,PF.set,Gh])⟩;rename_i O;rw[aC O];split at l;rename_i X;rw[aF X];have B:Z' h<=Z' h':=RK (op:=op) (f:=f) (v:=v) (by unfold DL;rw[aF A.1,aC O,aF X];exact l);show cK op F H λrv H'=>Hs.le H'/\K rv H';refine JU (K:=λrv H'=>Hs.le H'/\K rv H') R A.1 l λr' H' L U hb=>?_;have D':=D.next R L λi y Y=>p8 l (D.a i y Y) (S i y Y);exact⟨D'.le U,N r' H' L B U D' hb⟩;rename_i X;rw[aC X];split at l;rename_i w g1;split at l
 ·rename_i hb;replace hb:=PV.zN hb;cases l;refine⟨v.ren r,?_,N r H (λ_ _=>rfl) (asU _) R D hb⟩;cases st with
  |true=>
   have:=VQ D.c A.1 g1
   rwa[<-R.fr]at this
  |false=>
   have:=VQ R.hp A.1 g1
   rwa[<-R.fr]at this
 cases l;cases l;cases l
theorem F6(E:qH C call)(hq:∀i x,h0.ph i=some x->q (r0 i).1=(i,(r0 i).2.length))(l:iC h0.length r0 r){i:bU}(R:Rl r f h F H)(D:DI r hs h Hs)(e:p7 call h0 hs i st f h=some (v,h'))
  (A:∀r' H',iC h.length r r'->Z' h<=Z' h'->Rl r' f h' F H'->DI r' hs h' Hs->v.bound h'.length=true->K (v.ren r') H') :
  (i.kind F).run C Hs (WO call h0 q r0) st K H:=by
 have u:∀t w,f.pf t=some w->F t=some (w.ren r):=λt w y=>by rw[R.fr];simp only[PF.ren,y,atO]
 unfold p7 at e;unfold bU.kind;split at e;rename_i B;rw[B];exact bx E hq l R D e A;rename_i t J B;rw[B];simp only;split at e;rename_i b hb;rw[u t _ hb];simp only[PV.ren];split at e;rename_i y;rw[aF y];exact bx E hq l R D e A;rename_i y;rw[aC y];cases e;exact⟨_,rfl,A r H (λ_ _=>rfl) (asU _) R D rfl⟩;rename_i hb;rw[u t _ hb];cases e;exact⟨_,rfl,A r H (λ_ _=>rfl) (asU _) R D rfl⟩;cases e
end
variable{C:Ctx}
theorem pj{call:gN}(O:qH C call){h0 hs:Hp}{Hs:PH}{q:Nat->Nat × Nat}{r0:Ren}(hq:∀i x,h0.ph i=some x->q (r0 i).1=(i,(r0 i).2.length)):∀(ops:List (bU × Bool)) {r:Ren} {f f':Fr} {h h':Hp} {F:PF} {H:PH} {K:K_},WH call h0 hs ops f h=some (f',h')->iC h0.length r0 r->Z' h0<=Z' h->Rl r f h F H->DI r hs h Hs ->
  (∀r' N H',iC h.length r r'->Z' h<=Z' h'->Rl r' f' h' N H'->K N H')->wpD C Hs (WO call h0 q r0) ops K F H
 |[],r,f,f',h,h',F,H,K,e,_,_,R,D,E=>by cases e;exact E r F H (λ_ _=>rfl) (asU _) R
 |i::rest,r,f,f',h,h',F,H,K,e,l,u,R,D,E=>by simp only[WH]at e;split at e;rename_i X;split at e;rename_i v Y W;refine F6 O hq l R D W λr' H' S J V U hb=>?_;exact pj O hq rest e (l.trans S u) (atT u J) (V.put X hb) U λM w y B L A=>E M w y (S.trans B J) (atT J L) A;cases e;cases e
theorem JN{call:gN}(B:qH C call){hs:Hp}{ops:List (bU × Bool)}{r:Ren}{f f':Fr}{h h':Hp}{F:PF}{H:PH}{K:K_}(e:WH call h hs ops f h=some (f',h'))(R:Rl r f h F H)
  (l:∀i x,hs.ph i=some x->h.ph i=some x) (E:∀r' w H',iC h.length r r'->Z' h<=Z' h'->Rl r' f' h' w H'->K w H'):∃Hs S,PH.le Hs H/\wpD C Hs S ops K F H:=by
 obtain⟨q,hq⟩:=aaV R;have D:DI r hs h (H.only (wU r ((asP h.length).filter λi=>(Hp.ph hs i).isSome))):=by refine⟨l,λo x u=>?_,λi x u=>?_⟩;rw[yE]at u;split at u;rename_i J;obtain⟨i,hi,rfl⟩:=atM.1 J;obtain⟨-,hi⟩:=awT.1 hi;obtain⟨y,A⟩:=Option.isSome_iff_exists.1 hi;refine⟨i,y,A,rfl,?_⟩;have:=R.hp i y (l i y A);rw[this]at u;cases u;rfl;cases u;rw[yE,aF];exact R.hp i x (l i x u);exact atM.2 ⟨i,awT.2 ⟨atQ.2 (lY (l i x u)).2,by rw[u];rfl⟩,rfl⟩
 exact⟨_,_,D.le R,pj B hq ops e (λ_ _=>rfl) (asU _) R D E⟩
theorem Vu(call:gN)(u:qH C call):Ba C (rH call):=by
 intro ops f h f' h' e r F H R K w;unfold rH at e;split at e;split at e;exact JN u e R (λi x l=>Jp l) w;split at e;rename_i p y;cases e;exact JN u y R (λi x l=>l) w;exact JN u e R (λi x l=>Jp l) w;exact JN u e R (λi x l=>by simp[Hp.kX]at l) w
theorem N8{tab:Nat->Option kJ}{e:Orc}{fz:Nat->Bool}(l:Kz C e)(u:∀k pf,tab k=some pf->YC C k pf)(m n:Nat):qH C (sD tab e fz rH m n):=Ka l u (λcall i=>Vu call i) m n
theorem N7{tab:Nat->Option kJ}{i:Orc}{fz:Nat->Bool}(l:Kz C i)(u:∀k pf,tab k=some pf->YC C k pf)(m n:Nat){name:Nat}{vs:V_}{v:PV}(e:sS (sD tab i fz rH m n) name vs=some v):aH C name vs PH.nil (λw _=>w=v):=
 (Gy (r:=up id) (N8 l u m n) e).2.2.2
open Go Go.Na
noncomputable def fF:aB:={ On with arD:=[⟨[118,48],0⟩] }
theorem Ga:fF.Ok:=ahJ (by decide +kernel)
theorem Tx:yL fF=0:=by decide +kernel
theorem qg:lR fF 5 1=[[0]]/\fS fF 5 1=0:=by decide +kernel
theorem Oo:gQ fF (mF fF 0)=[[0]]/\(dQ fF.arB.length (gR (mF fF 0)).toNat 0).map cA=[[0]]/\mX fF (mF fF 0) [0]=true:=by decide +kernel
theorem Tw:Z' fF.arB<=12/\1<=(mF fF 0).k/\(mF fF 0).k<=6/\0<=(mF fF 0).m/\(mF fF 0).m<=4:=by decide +kernel
abbrev OrL:=List (Nat × V_ × PV)
def yF:OrL->Orc
 |[],_,_=>none
 |e::t,name,vs=>cond (auR e.1 name&&PV.GZ vs e.2.1) (some e.2.2) (yF t name vs)
structure oF(C:Ctx)(L:OrL):Prop where
 go:∀e∈L,aH C e.1 e.2.1 .nil (aK e.2.2)
section
variable {C:Ctx}
theorem aH.bare{name:Nat}{vs:V_}{H:PH}{v:PV}(h:aH C name vs H (λy _=>y=v)):aH C name vs H (aK v):=by
 refine⟨h.1,λE w A x hW e=>(h.2 E w A x hW e).mono λB D he=>?_⟩;obtain⟨u,pv,i,H',g1,g2,g3,g4,l⟩:=he;exact⟨u,pv,i,.nil,g1,g2.weaken a_,g3,g4.drop a_,l,rfl⟩
theorem oF.nil:oF C []:=⟨λe h=>by cases h⟩
theorem oF.cons{L:OrL}(h:oF C L){n:Nat}{vs:V_}{v:PV}(i:aH C n vs .nil (aK v)):oF C ((n,vs,v)::L):=by
 refine⟨λe he=>?_⟩;rcases atG.1 he with rfl|he
 exact i;exact h.go e he
theorem J0:∀{L:OrL},oF C L->∀{name:Nat}{vs:V_}{v:PV},yF L name vs=some v->aH C name vs .nil (aK v)
 |[],_,_,_,_,e=>by cases e
 |(n,l,w)::t,h,name,vs,v,e=>by
  simp only[yF]at e;cases i:(auR n name&&PV.GZ vs l)with
  |true =>rw[i]at e;simp only[asV]at i;cases e;have:=h.go _ (axA ..);rw[<-Nat.eq_of_beq_eq_true i.1,PV.BE _ _ i.2];exact this
  |false =>rw[i]at e;exact J0 ⟨λe he=>h.go e (awN _ he)⟩ e
theorem mC{L:OrL}(h:oF C L){tab:Nat->Option kJ}{fz:Nat->Bool}(i:∀k pf,tab k=some pf->YC C k pf)(m n:Nat){name:Nat}{vs:V_}{v:PV}(e:sS (sD tab (yF L) fz rH m n) name vs=some v):aH C name vs .nil (aK v):=
 aH.bare (N7 (λ_ _ _ e=>(J0 h e).Ag λ_ _ h=>h.1) i m n e)
def isR(o:Option PV)(v:PV):Bool:=match o with
 |some w=>PV.beq w v
 |none=>false
theorem Yg{L:OrL}(h:oF C L){tab:Nat->Option kJ}{fz:Nat->Bool}(y:∀k pf,tab k=some pf->YC C k pf)(m n:Nat){α:Type}{l:List α}{name:Nat}{vs:α->V_}{r:α->PV}
  (e:(l.all λx=>isR (sS (sD tab (yF L) fz rH m n) name (vs x)) (r x))=true):∀x∈l,aH C name (vs x) .nil (aK (r x)):=λx A=>by
 have i:=atI.1 e x A;unfold isR at i;split at i;rename_i w u;rw[<-PV.beq_eq _ _ i];exact mC h y m n u;cases i
noncomputable def As:OrL:=[(27,[.aG,.int .i64 1,.int .i64 0],.agg On.cells),(96,[.agg fF.cells],.int .i64 0),(230,[.agg fF.cells,rI 5 1],.tup [lay [[0]],.int .i64 0])]
theorem Yx(w:∀(l:N_),(∀x∈l,x<256)->Z' l<=9223372036854775807->∀arB arD:Nat,arB<=60->arD<=50 ->
   aH C 27 [.sl 1 (kN l),.j arB,.j arD] .nil (aK (.agg (jN (l.take 400) arB arD 0).1.cells)))
  (u:∀f:aB,f.Ok->aH C 96 [.agg f.cells] .nil (aK (.j (yL f))))
  (i:∀(f:aB)(lv e:Int),f.Ok->aH C 230 [.agg f.cells,rI lv e] .nil (aK (.tup [lay (lR f lv e),.j (fS f lv e)]))):oF C As:=by
 have h:=i fF 5 1 Ga;rw[qg.1,qg.2]at h;have y:=u fF Ga;rw[Tx]at y;have A:aH C 27 [.sl 1 (kN []),.j (1:Nat),.j (0:Nat)] .nil (aK (.agg On.cells)):=w [] (λx B=>by cases B) aR 1 0 aR aR;exact((oF.nil.cons h).cons y).cons (A.args (.Lt (.nil 1) (.Lt (.refl _) (.Lt (.refl _) .aoX))))
theorem Tz(u:LZ C)(B:∃e i,YD C 229 (zo e i))(A:aH C 201 [.agg fF.cells,.agg (mF fF 0).cells,ints [0]] .nil (aK (.bool true))):aH C 229 [.agg fF.cells,.agg (mF fF 0).cells] .nil (aK (lay [[0]])):=by
 obtain⟨e,i,r⟩:=B;obtain⟨w,x,h5,y,h7⟩:=Tw;obtain⟨s1,s2,s3⟩:=Oo;have:=(r.go (B8 u e i fF w (mF fF 0) (λset _ l=>by rw[s2,auB]at l;subst l;rw[s3];exact A) x h5 y h7) rfl).seen
 rwa[s1]at this
end
end Go.PM
