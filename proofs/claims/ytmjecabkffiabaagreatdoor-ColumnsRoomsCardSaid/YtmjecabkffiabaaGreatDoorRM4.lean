/-Lemmas for the law. No condition.-/
import Derived.Test.YtmjecabkffiabaaGreatDoorRM3
import Derived.RangeFuncRecord
set_option linter.unusedSimpArgs false
set_option linter.unusedVariables false
open Nat renaming reduceEqDiff->γ,reduceAdd->δ,reduceSub->ε,reduceMul->ζ,reduceLT->η,reduceLeDiff->θ,reduceBEq->τ
open Int renaming reduceLT->ι,reduceLE->κ,reduceEq->μ,reduceToNat->ν,reduceAdd->ξ,reduceNeg->ο,reduceBEq->ρ,reduceBNe->σ
open List renaming reduceReplicate->υ
open List renaming getElem?_eq_none->avZ
open Nat renaming le_refl->auG,lt_or_ge->avF,le_trans->avJ
open Bool renaming false_eq_true->awQ
open Array renaming replicate->awO,getElem?_eq_some_iff->ayF,getElem?_eq_getElem->ayK,getD_eq_getD_getElem?->ayQ
open List renaming length->l''
set_option maxRecDepth 100000
set_option maxHeartbeats 800000
noncomputable section
namespace Go.PM
open Go Go.RowKit
def HN(R:PH->Prop):cH
 | .normal,_,H=>R H
 |_,_,_=>False
theorem bZ.putObj{E:Env}{H:PH}{w:World}{l:Nat}{o o':Obj}(hW:bZ E H w)(A:w.heap[l]?=some o)(F:∀c t b,o≠.cells c t b)(J:H l=none):bZ E H (w.putObj l o'):=by
 refine⟨λb cs h=>?_,λq x h=>?_,λq n h=>?_⟩;obtain⟨i,ty,fr,u⟩:=hW.g b cs h;have:b≠l:=λe=>by rw[e,A]at u;exact F _ _ _ (by injection u)
 exact⟨i,ty,fr,(World.putObj_heap_other this).trans u⟩;obtain⟨i,u⟩:=hW.h q x h;have:q≠l:=λe=>by rw[e,J]at h;cases h
 exact⟨by rw[World.putObj_size];exact i,u.mono (.refl E) (World.putObj_heap_other this)⟩;obtain⟨y,ty,fr,i,u⟩:=hW.s q n h;have:q≠l:=λe=>by rw[e,A]at i;exact F _ _ _ (by injection i)
 exact⟨y,ty,fr,(World.putObj_heap_other this).trans i,u⟩
theorem bZ.setObj{E:Env}{H:PH}{w:World}{l:Nat}{o:Obj}{x:aW}(hW:bZ E H w)(u:w.heap[l]?=some o)(F:∀c t b,o≠.cells c t b)(J:SG E w l x):bZ E (H.set l x) w:=by
 refine⟨λb cs h=>?_,λq y h=>?_,hW.s⟩;obtain⟨A,ty,fr,i⟩:=hW.g b cs h;have:¬b=l:=λe=>by rw[e,u]at i;exact F _ _ _ (by injection i)
 refine⟨λy K=>A y ?_,ty,fr,i⟩
 rwa[aT,aB this]at K
 rw[aT]at h;split at h;rename_i e;cases h;subst e;exact⟨(ayF.1 u).1,J⟩;exact hW.h q y h
theorem W5{c:Code}{l m:Nat}{P:Program}{Q:Exit->Act->World->Prop}{i tm':Array Value}{ds:List Deferred}{w:World}(e:i=tm')(h:c.wpIn (Fz (some l)) m P Q { tmps:=tm',defers:=ds } w):c.wpIn (Fence.wide.inRound l) m P Q { tmps:=i,defers:=ds } w:=by
 subst e;exact h
section
variable {C:Ctx} {T:Tbl}
theorem Lp(Y:C.P=T.P)(Q:C.num=T.num){n t l:Nat}{M N:Code}{ι U:aK}(h1:T.code n M=some ι)(h2:T.code n N=some U)(ht:t<n){F:PF}{x:PV}{H:PH}{R:PH->Prop}(hl:H l=none)
  (Ω:ι.wp C (jB C (U.wp C) (HN R)) (F.set t x) H) :
  KJ C l [x] (H.set l (.loop F n t M N)) (λr H'=>r=.bool true/\∃H2,R H2/\H2 l=none/\H'=H2.set l (.loop F n t M N)):=by
 intro E w vs hN hW Ψ;obtain⟨vl⟩:=vs;cases Ψ with
 |cons e1 e2=>
 cases e2;rename_i v;obtain⟨hlt,rec,W,S,θ,η,has,ν,υ,hF⟩:=hW.h l (.loop F n t M N) (by rw[cA]);have Λ:bZ E H w:=hW.weaken λo y ho=>by
  have:¬o=l:=λe=>by rw[e,hl]at ho;cases ho
  rw[aT,aB this];exact ho
 refine⟨rec.fn,_,rec.assign,rec.body,run_yield W (by rw[η];rfl),?_⟩;rw[has,ν,η];refine roundIn_of_wpIn (F:=Fence.wide) trivial ?_;have hA:eP [] n E (F.set t x) { tmps:=rec.tmps.setIfInBounds t v,defers:=[] }:=by refine⟨by simp[υ],rfl,λi pv hi=>?_⟩;rw[mF]at hi;split at hi;rename_i e;cases hi;subst e;simp only[ayQ];rw[Array.getElem?_setIfInBounds_self_of_lt Om];exact e1;rename_i e;simp only[ayQ];rw[Array.getElem?_setIfInBounds_ne (λh=>e h.symm),<-ayQ];exact hF i pv hi
 rw[Y];refine W5 (tm':=rec.tmps.setIfInBounds t v) bC ?_;refine tY (ro:=some l) (fu:=0) Y Q M ι (jB C (U.wp C) (HN R)) _ E (F.set t x) H _ w h1 Ω hA Λ (hN.trans Q) λe E1 F1 H1 a1 K ψ ω u α=>?_;cases e with
 |exit id=>exact α.elim
 |ret=>exact α.elim
 |normal=>
  have δ:K.heap[l]?=some (.loop rec):=(u.block l hlt hl).trans W;have Z:H1 l=none:=by
   cases hh:H1 l with
   |none=>rfl
   |some y=>
    rcases u.new l y hh with⟨z,J⟩|hge
    rw[hl]at J;cases J;omega
  refine⟨_,run_beginRound δ S,?_⟩;have Γ:=ω.putObj (o':=.loop { rec with state:=.busy }) δ (λ_ _ _ h=>by cases h) Z;have V:l<K.heap.size:=(ayF.1 δ).1;have Φ:(K.putObj l (.loop { rec with state:=.busy })).heap[l]?=some (.loop { rec with state:=.busy }):=World.putObj_heap_same V;have φ:(K.putObj l (.loop { rec with state:=.busy })).heap.size=K.heap.size:=World.putObj_size;have ζ:∀b,b≠l->(K.putObj l (.loop { rec with state:=.busy })).heap[b]?=K.heap[b]?:=λb hb=>World.putObj_heap_other hb;have τ:(K.putObj l (.loop { rec with state:=.busy })).os=K.os:=rfl;have χ:(K.putObj l (.loop { rec with state:=.busy })).tape=K.tape:=rfl;have σ:(K.putObj l (.loop { rec with state:=.busy })).output=K.output:=rfl;generalize K.putObj l (.loop { rec with state:=.busy })=w2 at *
  refine tY (ro:=some l) (fu:=0) Y Q N U (HN R) _ E1 F1 H1 a1 w2 h2 α ψ Γ (u.env.num.trans (hN.trans Q)) λe2 E2 F2 H2 a2 w3 a' Δ A β=>?_;cases e2 with
  |exit id=>exact β.elim
  |ret=>exact β.elim
  |normal=>
   have ε:w3.heap[l]?=some (.loop { rec with state:=.busy }):=(A.block l (by rw[φ];exact V) Z).trans Φ;have ρ:l<w3.heap.size:=(ayF.1 ε).1;have μ:H2 l=none:=by
    cases hh:H2 l with
    |none=>rfl
    |some y=>
     rcases A.new l y hh with⟨z,J⟩|hge
     rw[Z]at J;cases J;omega
   have κ:({ { rec with state:=.busy }with state:=if(none:Option Code).isNone then .ready else .done,pending:=none }:Loop)=rec:=by obtain⟨a,b,c,d,e,f,g,h⟩:=rec;simp only at S θ;subst S θ;rfl
   refine⟨_,_,run_endRound none ε,?_⟩;rw[κ];have Θ:=(Δ.putObj (o':=.loop rec) ε (λ_ _ _ h=>by cases h) μ);have ο:(w3.putObj l (.loop rec)).heap[l]?=some (.loop rec):=World.putObj_heap_same ρ;have ξ:E.le E2:=u.env.trans A.env;refine⟨.bool true,.bool true,E2,H2.set l (.loop F n t M N),rfl,Θ.setObj ο (λ_ _ _ h=>by cases h) ⟨rec,ο,S,θ,η,has,ν,υ,λi pv hi=>(hF i pv hi).mono ξ⟩,.bool true,?_,rfl,H2,β,μ,rfl⟩;refine⟨ξ,?_,?_,?_,?_,λb hb hn=>?_,λo y ho=>?_,λb cs hb=>?_⟩;exact A.os.trans (τ.trans u.os);exact A.tape.trans (χ.trans u.tape);exact A.output.trans (σ.trans u.output);have:=u.size;have:=A.size;rw[World.putObj_size];omega;have γ:b≠l:=λe=>by rw[e,cA]at hn;cases hn
   rw[aT,aB γ]at hn;have Ξ:H1 b=none:=by
    cases hh:H1 b with
    |none=>rfl
    |some y=>
     rcases u.new b y hh with⟨z,J⟩|hge
     rw[hn]at J;cases J;omega
   rw[World.putObj_heap_other γ,A.block b (by have:=u.size;omega) Ξ,ζ b γ,u.block b hb hn];rw[aT]at ho;split at ho;rename_i e;exact .inl ⟨_,by rw[e,cA]⟩;rename_i e;rcases A.new o y ho with⟨z,J⟩|hge
   rcases u.new o z J with⟨z2,O⟩|hge
   exact .inl ⟨z2,by rw[aT,aB e];exact O⟩;exact .inr hge;have:=u.size;exact .inr Om;rcases A.newG b cs hb with hg|⟨z,J⟩|hge
   rcases u.newG b cs hg with hg|⟨z,J⟩|hge
   exact .inl hg;have e:¬b=l:=λe=>by rw[e,hl]at J;cases J
   exact .inr (.inl ⟨z,by rw[aT,aB e];exact J⟩);exact .inr (.inr hge);rcases u.new b z J with⟨z2,O⟩|hge
   have e:¬b=l:=λe=>by rw[e,hl]at O;cases O
   exact .inr (.inl ⟨z2,by rw[aT,aB e];exact O⟩);exact .inr (.inr hge);have:=u.size;exact .inr (.inr Om)
end
open Go Go.RowKit
abbrev AQ(D:Nat):Deferred:={ target:=.collected D,args:=#[] }
theorem bZ.alloc{E:Env}{H:PH}{w:World}(hW:bZ E H w)(o:Obj):bZ E H (w.alloc o):=by
 have l:(w.alloc o).heap.size=w.heap.size+1:=World.size_alloc w o;have hb:∀b,b<w.heap.size->(w.alloc o).heap[b]?=w.heap[b]?:=λb hlt=>Below.heap_alloc w o b hlt;exact hW.same Om (λb hlt _=>hb b hlt) (λq x i=>hb q (hW.h q x i).1)
section
variable {C:Ctx} {T:Tbl} {ds:List Deferred} {fu:Nat}
theorem ajL{f:FuncId}{args:Array Value}{w:World}{P:Program}{fn:Func}(u:P.funcs[f]?=some fn)(hb:fn.body.isSome=true)(l:(fn.name=="runtime.NumGoroutine")=false):(callFunc f args).run P w=.ok (.enter f args) w:=by
 have i:fn.body.isNone=false:=by cases h:fn.body<;>simp_all
 simp only[callFunc,Sem.run_bind,Sem.run_pure,Result.andThen_ok,run_program,u,l,i,awQ,if_false]
def D9(C:Ctx)(name:Nat)(cs:V_)(F:PF)(H:PH)(n t:Nat)(i u:Code)(w:PH->Prop):Prop:=
 ∀l,H l=none->aG C name (CC l::cs) (H.set l (.loop F n t i u)) (λ_ H'=>∃H2,w H2/\H2.le H'/\H2 l=none/\H' l=some (.loop F n t i u))
theorem K5(γ:C.P=T.P)(β:C.num=T.num){n t name:Nat}{g:Operand}{pg:aP}{K M:Code}{cs:V_}{E:Env}{F:PF}{H:PH}{a:Act}{w:World}{KH:PH->Prop}{Q:Exit->Act->World->Prop}(hg:T.opd g=some pg)(Δ:pg.ev F=some (.fn name cs))
  (Θ:D9 C name cs F H n t K M KH) (hA:eP ds n E F a) (hW:bZ E H w) (hN:E.num=T.num)
  (hT:∀D E' H2 w',eP (AQ D::ds) n E' F { a with defers:=AQ D::a.defers }->bZ E' H2 w'->Ext E H w E' H2 w'->w'.heap[D]?=some (.deferred (some []))->H2 D=none->w.heap.size<=D->KH H2->Q .normal { a with defers:=AQ D::a.defers } w') :
  (Code.rangeFunc g #[t] K M).wpIn (Fz none) fu T.P Q a w:=by
 have r:=bK hg Δ hA hN;generalize Ω:a.eval g=vg at r;cases r with
 |fn vc ω Γ=>
 have O:∀o x,H o=some x->o<w.heap.size:=λo x ho=>(hW.h o x ho).1;have nD:H w.heap.size=none:=by
  cases h:H w.heap.size with
  |none=>rfl
  |some x=>have:=O _ x h;omega
 have nl:H (w.heap.size+1)=none:=by
  cases h:H (w.heap.size+1)with
  |none=>rfl
  |some x=>have:=O _ x h;omega
 obtain⟨⟨fn,hf,hb,Λ⟩,Y⟩:=Θ (w.heap.size+1) nl;rw[γ]at hf;refine wpIn_rangeFunc λο _=>?_;obtain⟨rec,U⟩:∃rec:Loop,rec={ state:=.ready,pending:=none,fn:=ο,tmps:=a.tmps,params:=#[t],assign:=K,body:=M,defers:=w.heap.size }:=⟨_,rfl⟩;obtain⟨A,l⟩:∃A,(w.alloc (.deferred (some []))).alloc (.loop rec)=A:=⟨_,rfl⟩;have μ:(w.alloc (.deferred (some []))).heap.size=w.heap.size+1:=World.size_alloc _ _;have b':A.heap.size=w.heap.size+2:=by rw[<-l,World.size_alloc,μ]
 have ι:∀b,b<w.heap.size->A.heap[b]?=w.heap[b]?:=λb hb=>by rw[<-l];exact(Below.heap_alloc _ _ b Om).trans (Below.heap_alloc _ _ b hb)
 have σ:A.heap[w.heap.size]?=some (.deferred (some [])):=by rw[<-l];exact(Below.heap_alloc _ _ _ Om).trans (World.alloc_heap_new w _)
 have η:A.heap[w.heap.size+1]?=some (.loop rec):=by
  rw[<-l];have:=World.alloc_heap_new (w.alloc (.deferred (some []))) (.loop rec)
  rwa[μ]at this
 have χ:bZ E H A:=by rw[<-l];exact(hW.alloc _).alloc _
 have ψ:bZ E (H.set (w.heap.size+1) (.loop F n t K M)) A:=χ.setObj η (λ_ _ _ h=>by cases h) (by subst U;exact⟨_,η,rfl,rfl,rfl,rfl,rfl,hA.size,hA.t⟩);have Φ:A.os=w.os:=by rw[<-l];rfl
 have Ψ:A.tape=w.tape:=by rw[<-l];rfl
 have Ξ:A.output=w.output:=by rw[<-l];rfl
 have S:C.num name=E.num name:=by rw[β,hN]
 refine⟨w.heap.size+1,[AQ w.heap.size],A,{ target:=.fn (.func (E.num name)) vc,args:=#[.func (.yield (w.heap.size+1)) #[] #[]] },A,E.num name,#[Value.func (.yield (w.heap.size+1)) #[] #[]]++vc,A,?_,?_,?_,?_,?_,?_⟩;rw[<-l,U];exact run_enterLoop_outer _ _ _ _ _;simp only[resolve,Ω];simp[go_sem];exact λ_ _=>trivial;simp only[invoke];exact ajL (by rw[<-S];exact hf) hb Λ;intro h;cases h;have W:fS E (CC (w.heap.size+1)::cs) (#[Value.func (.yield (w.heap.size+1)) #[] #[]]++vc).toList:=by rw[Array.toList_append];exact .cons (.lit _) (fS.adH (by simpa using ω) λj p u hp hu=>Γ j p u hp (by simpa using hu))
 have hc:=Y E A _ (hN.trans β.symm) ψ W;rw[γ,S]at hc;refine Fz.calls (hc.mono λe w3 he=>?_);obtain⟨v,pv,E',H',rfl,ζ,hr,J,H2,φ,Z,N,υ⟩:=he;obtain⟨a',ξ,θ,ν,κ,-⟩:=ζ.h _ _ υ;have α:w.heap.size≠w.heap.size+1:=Om;have τ:w3.heap[w.heap.size]?=some (.deferred (some [])):=(J.block _ Om (by rw[aT,aB α];exact nD)).trans σ;have ε:H' w.heap.size=none:=by
  cases hh:H' w.heap.size with
  |none=>rfl
  |some y=>
   rcases J.new _ y hh with⟨z,V⟩|hge
   rw[aT,aB α,nD]at V;cases V;omega
 have δ:H2 w.heap.size=none:=by
  cases hh:H2 w.heap.size with
  |none=>rfl
  |some y=>rw[Z _ y hh]at ε;cases ε
 refine⟨ξ.pending,_,run_endLoop θ (by rw[ν];exact λh=>by cases h),?_⟩;rw[κ];simp only;have ρ:eP (AQ w.heap.size::ds) n E' F { a with defers:=AQ w.heap.size::a.defers }:=⟨hA.size,by simp only;rw[hA.defers],λi pv hi=>(hA.t i pv hi).mono J.env⟩;refine hT w.heap.size E' H2 _ ρ ((ζ.weaken Z).putObj θ (λ_ _ _ h=>by cases h) N) ?_ ((World.putObj_heap_other α).trans τ) δ (auG _) φ;refine⟨J.env,J.os.trans Φ,J.tape.trans Ψ,J.output.trans Ξ,?_,λb hb hn=>?_,λo y ho=>?_,λb cs hb=>?_⟩;have:=J.size;rw[World.putObj_size];omega;have h1:b≠w.heap.size+1:=Om;rw[World.putObj_heap_other h1,J.block b Om (by rw[aT,aB h1];exact hn),ι b hb];have h1:o≠w.heap.size+1:=λe=>by rw[e,N]at ho;cases ho
 rcases J.new o y (Z o y ho)with⟨z,V⟩|hge
 rw[aT,aB h1]at V;exact .inl ⟨z,V⟩;exact .inr Om;rcases J.newG b cs hb with h|⟨z,V⟩|hge
 exact .inl h;by_cases h1:b=w.heap.size+1;exact .inr (.inr Om);rw[aT,aB h1]at V;exact .inr (.inl ⟨z,V⟩);exact .inr (.inr Om)
end
open Go Go.RowKit
inductive rA where
 |seq (a:aK) (t:rA)
 |range (g:aP) (n t:Nat) (asg bdy:Code) (pas pbd rest:aK)
def rA.wp (C : Ctx) : rA -> cH -> PF -> PH -> Prop
  | .seq a t, K, F, H => a.wp C (jB C (t.wp C) K) F H
  | .range g n t asg bdy pas pbd rest, K, F, H => ∃ name cs KH, g.ev F = some (.fn name cs) /\
      ((∀ (l : Nat) (x : PV) (J : PH) (J' : PH -> Prop), J l = none -> pas.wp C (jB C (pbd.wp C) (HN J')) (F.set t x) J ->
        KJ C l [x] (J.set l (.loop F n t asg bdy)) (fun r H' => r = .bool true /\ ∃ H2, J' H2 /\ H2 l = none /\ H' = H2.set l (.loop F n t asg bdy))) -> D9 C name cs F H n t asg bdy KH) /\
      ∀ H2, KH H2 -> rest.wp C K F H2
namespace Tbl
variable (T:Tbl)
def tail(n:Nat):Code->Option rA
 | .seq (.rangeFunc g ps i l) rest=>match T.opd g,T.code n i,T.code n l,T.code n rest with
  |some A,some u,some w,some E=>match ps.toList with
   |[t]=>if t<n then some (.range A n t i l u w E)else none
   |_=>none
  |_,_,_,_=>none
 | .seq (.seq a (.block _ (.rangeFunc g ps i l))) rest=>match T.code n a,T.opd g,T.code n i,T.code n l,T.code n rest with
  |some y,some A,some u,some w,some E=>match ps.toList with
   |[t]=>if t<n then some (.seq y (.range A n t i l u w E))else none
   |_=>none
  |_,_,_,_,_=>none
 | .seq a b=>match T.code n a,tail n b with
  |some y,some F=>some (.seq y F)
  |_,_=>none
 |_=>none
end Tbl
section
variable {C:Ctx} {T:Tbl} {fu:Nat}
def FJ(n:Nat)(E:Env)(H:PH)(w:World)(K:cH)(Q:Exit->Act->World->Prop):Prop:=
 ∀ds,(ds=[]\/∃D,ds=[AQ D])->∀e l u H' y i,eP ds n l u y->bZ l H' i->Ext E H w l H' i->(∀D,ds=[AQ D]->i.heap[D]?=some (.deferred (some []))/\H' D=none/\w.heap.size<=D)->K e u H'->Q e.out y i
theorem FJ.after{n:Nat}{E u:Env}{H H':PH}{w A:World}{K:cH}{Q:Exit->Act->World->Prop}(h:FJ n E H w K Q)(y:Ext E H w u H' A):FJ n u H' A K Q:=
 λds i e F J H2 a2 S M hW O l N=>h ds i e F J H2 a2 S M hW (y.trans O) (λD hD=>⟨(l D hD).1,(l D hD).2.1,avJ y.size (l D hD).2.2⟩) N
theorem FJ.plain{n:Nat}{E:Env}{H:PH}{w:World}{K:cH}{Q:Exit->Act->World->Prop}(h:FJ n E H w K Q):SI [] n E H w K Q:=
 λe i l H' u J y hW F A=>h [] (.inl rfl) e i l H' u J y hW F (λD hD=>by cases hD) A
theorem qa(N:C.P=T.P)(M:C.num=T.num){n t:Nat}{g:Operand}{pg:aP}{ps:Array Tmp}{u A rest:Code}{V W pr:aK}{K:cH}{Q Q0:Exit->Act->World->Prop}{E:Env}{F:PF}{H:PH}{a:Act}{w:World}(hQ:∀a w,rest.wpIn (Fz none) fu T.P Q a w->Q0 .normal a w)
  (h1:T.opd g=some pg) (h2:T.code n u=some V) (h3:T.code n A=some W) (h4:T.code n rest=some pr) (h5:ps.toList=[t]) (ht:t<n)
  (η:(rA.range pg n t u A V W pr).wp C K F H) (hA:eP [] n E F a) (hW:bZ E H w) (hN:E.num=T.num) (hT:FJ n E H w K Q) :
  (Code.rangeFunc g ps u A).wpIn (Fz none) fu T.P Q0 a w:=by
 obtain⟨name,cs,KH,k1,k2,k3⟩:=η;have ζ:ps=#[t]:=by obtain⟨l⟩:=ps;simp only at h5;subst h5;rfl
 subst ζ;refine K5 (ds:=[]) N M h1 k1 (k2 λl x J J' hJ hw=>Lp N M h2 h3 ht hJ hw) hA hW hN λD E' H2 w' Y δ S hD U α γ=>?_;refine hQ _ w' ?_;refine tY (ro:=none) (fu:=fu) (ds:=[AQ D]) N M rest pr K Q E' F H2 _ w' h4 (k3 H2 γ) Y δ (S.env.num.trans hN) λe E3 F3 H3 a3 w3 Z ε O β=>?_;refine hT [AQ D] (.inr ⟨D,rfl⟩) e E3 F3 H3 a3 w3 Z ε (S.trans O) (λD' i=>?_) β;injection i with i _
 injection i with i _
 injection i with i
 subst i;have hlt:D<w'.heap.size:=(ayF.1 hD).1;refine⟨(O.block D hlt U).trans hD,?_,α⟩;cases hh:H3 D with
 |none=>rfl
 |some y=>
  rcases O.new D y hh with⟨z,hz⟩|hge
  rw[U]at hz;cases hz;omega
theorem Rf(A:C.P=T.P)(u:C.num=T.num){n:Nat}:∀(c:Code)(t:rA)(K:cH)(Q:Exit->Act->World->Prop)(E:Env)(F:PF)(H:PH)(a:Act)(w:World),
  T.tail n c=some t->t.wp C K F H->eP [] n E F a->bZ E H w->E.num=T.num->FJ n E H w K Q->c.wpIn (Fz none) fu T.P Q a w:=by
 intro c
 induction c with
 |seq x y γ α=>
  intro t K Q E F H a w i O hA hW hN N;unfold Tbl.tail at i;split at i;rename_i g ps J M rest e;cases e;split at i;rename_i pg S U pr e1 e2 e3 e4;split at i;rename_i t0 e5;split at i;rename_i e6;cases i;exact wpIn_seq (qa A u (λ_ _ h=>h) e1 e2 e3 e4 e5 e6 O hA hW hN N);cases i;cases i;cases i;rename_i a0 β g ps J M rest e;cases e;split at i;rename_i pa pg S U pr e0 e1 e2 e3 e4;split at i;rename_i t0 e5;split at i
  ·rename_i e6;cases i;have l:pa.wp C (jB C ((rA.range pg n t0 J M S U pr).wp C) K) F H:=O;refine wpIn_seq (wpIn_seq (tY (ro:=none) (fu:=fu) (ds:=[]) A u a0 pa (jB C ((rA.range pg n t0 J M S U pr).wp C) K) _ E F H a w e0 l hA hW hN λe V W H' Y Z g1 g2 g3 g4=>?_));cases e with
   |normal=>exact wpIn_block (qa A u (λ_ _ h=>h) e1 e2 e3 e4 e5 e6 g4 g1 g2 (g3.env.num.trans hN) (N.after g3))
   |exit id=>exact N.plain (.exit id) V W H' Y Z g1 g2 g3 g4
   |ret=>exact N.plain .ret V W H' Y Z g1 g2 g3 g4
  cases i;cases i;cases i;rename_i a0 b0 _ _ e;cases e;split at i
  ·rename_i pa tb e1 e2;cases i;have l:pa.wp C (jB C (tb.wp C) K) F H:=O;refine wpIn_seq (tY (ro:=none) (fu:=fu) (ds:=[]) A u x pa (jB C (tb.wp C) K) _ E F H a w e1 l hA hW hN λe V W H' Y Z g1 g2 g3 g4=>?_);cases e with
   |normal=>exact α tb K Q V W H' Y Z e2 g4 g1 g2 (g3.env.num.trans hN) (N.after g3)
   |exit id=>exact N.plain (.exit id) V W H' Y Z g1 g2 g3 g4
   |ret=>exact N.plain .ret V W H' Y Z g1 g2 g3 g4
  cases i;cases i
 |_=>intro t K Q E F H a w i;simp[Tbl.tail]at i
end
structure FH where
 nparams:Nat
 ntmps:Nat
 body:rA
 res:List dZ
namespace Tbl
variable (T:Tbl)
def C3(fn:Func):Option FH:=
 match fn.body with
 |some c=>match T.tail fn.ntmps c,T.xl fn.results.toList with
  |some b,some rs=>some ⟨fn.params.size,fn.ntmps,b,rs⟩
  |_,_=>none
 |none=>none
end Tbl
variable{C:Ctx}
theorem Ox{T:Tbl}{H:PH}(O:C.P=T.P)(N:C.num=T.num){name:Nat}{args:V_}{R:R_}{fn:Func}{pf:FH}(hf:C.P.funcs[C.num name]?=some fn)(ε:(fn.name=="runtime.NumGoroutine")=false)
  (l:T.C3 fn=some pf) (V:l'' args<=pf.ntmps) (h:pf.body.wp C (aX pf.res R) (PF.args args) H):aG C name args H R:=by
 unfold Tbl.C3 at l;split at l;rename_i c hb;split at l
 ·rename_i b rs F K;cases l;refine⟨⟨fn,hf,by simp[hb],ε⟩,λE w vs hN hW Z=>?_⟩;have θ:vs.size=l'' args:=by simpa using Z.len
  refine(callsIn_wide (n:=0)).1 (callsIn_of_wp_marks hf hb trivial ?_ rfl);rw[O];have hA:eP [] fn.ntmps E (PF.args args) { tmps:=vs++awO (fn.ntmps-vs.size) undef,defers:=[] }:=by
   refine⟨by simp only at V;simp;omega,rfl,λi pv hi=>?_⟩;have J:i<vs.size:=by
    rw[θ];rcases avF i args.length with h'|h'
    exact h';simp[PF.args,avZ h']at hi
   simp only[ayQ];rw[Array.getElem?_append_left J,ayK J];exact Z.at_ i pv _ hi (by simp[J])
  refine Rf (fu:=0) O N c b (aX rs R) _ E (PF.args args) H _ w F h hA hW (hN.trans N) λds γ e u F' H' a' A M Q y hm hK=>?_;have fin:∀w2,bZ u H' w2->Ext E H w u H' w2->aX rs R .ret F' H'->LeavesIn Fence.wide 0 T.P fn a'.tmps (λe A=>∃v pv u H',e=.returned v/\bZ u H' A/\bE u pv v/\Ext E H w u H' A/\R pv H') [] .returning w2:=by
   rintro w2 S β ⟨ι,W,F1,H1,H2,δ,U,v0,η,hR⟩;obtain⟨us,g1,g2⟩:=PW M S fn.results.toList rs ι K W;have ζ:=p7 g2;obtain⟨E2,k1,k2,k3⟩:=δ.sound S;have Y:=k3 (λ_=>if h:us.toArray.size=1 then us.toArray[0]else .tuple us.toArray) (λi pv hi=>by simp only[PF.set,upd]at hi;split at hi;cases hi;exact ζ;cases hi) 0 v0 η
   refine⟨_,?_,_,v0,E2,H2,rfl,k1.weaken U,Y,(β.trans k2).drop U,hR⟩;rw[qf,Array.mapM_eq_mapM_toList];simp[g1]
  have α:aX rs R .ret F' H'->bodyPostM Fence.wide 0 T.P fn (λe A=>∃v pv u H',e=.returned v/\bZ u H' A/\bE u pv v/\Ext E H w u H' A/\R pv H') .ret a' A:=by
   intro hr;show LeavesInM Fence.wide 0 T.P fn a'.tmps _ a'.defers .returning A;rw[M.defers];rcases γ with rfl|⟨D,rfl⟩
   exact fin A Q y hr;obtain⟨m1,m2,m3⟩:=hm D rfl;refine⟨(λh=>by cases h),.inl ⟨D,_,rfl,run_takeDeferred m1,?_⟩⟩;refine fin _ (Q.putObj m1 (λ_ _ _ h=>by cases h) m2) ⟨y.env,y.os,y.tape,y.output,?_,λb hb hn=>?_,y.new,y.newG⟩ hr;rw[World.putObj_size];exact y.size;rw[World.putObj_heap_other Om];exact y.block b hb hn
  cases e with
  |normal=>exact α hK
  |exit id=>exact hK.elim
  |ret=>exact α hK
 cases l;cases l
end Go.PM
namespace Go.PM
open Go
def jy(C:Ctx)(k:Nat)(pf:FH):Prop:=∀(args:V_)(H:PH)(R:R_),l'' args<=pf.ntmps->pf.body.wp C (aX pf.res R) (PF.args args) H->aG C k args H R
variable{C:Ctx}
theorem jy.go{k:Nat}{pf:FH}(r:jy C k pf){args:V_}{H:PH}{R:R_}(h:pf.body.wp C (aX pf.res R) (PF.args args) H)(i:Nat.ble args.length pf.ntmps=true):aG C k args H R:=r args H R (Nat.le_of_ble_eq_true i) h
end Go.PM
