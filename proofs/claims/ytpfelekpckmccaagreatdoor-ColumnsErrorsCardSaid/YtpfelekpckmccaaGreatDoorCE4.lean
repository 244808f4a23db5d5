/-
  Texts of ours, joined. No condition.
-/
import Derived.Test.YtpfelekpckmccaaGreatDoorCE1
import Derived.Test.YtpfelekpckmccaaGreatDoorCE2
import Derived.Test.YtpfelekpckmccaaGreatDoorCE3
import Derived.RangeFuncRecord
set_option linter.unusedSimpArgs false
set_option linter.unusedVariables false
open Nat renaming reduceEqDiff→γ,reduceAdd→δ,reduceSub→ε,reduceMul→ζ,reduceLT→η,reduceLeDiff→θ,reduceBEq→τ
open Int renaming reduceLT→ι,reduceLE→κ,reduceEq→μ,reduceToNat→ν,reduceAdd→ξ,reduceNeg→ο,reduceBEq→ρ,reduceBNe→σ
open List renaming reduceReplicate→υ
open List renaming getElem?_eq_none→axV
open Nat renaming le_refl→awP,lt_or_ge→axA,le_trans→axT
open Bool renaming false_eq_true→ayQ
open Option renaming map_eq_some_iff→awR
open Array renaming replicate→ayJ,getElem?_eq_some_iff→azW,getElem?_eq_getElem→azZ,getD_eq_getD_getElem?→aAD
open List renaming length→Z'
set_option maxRecDepth 100000
set_option maxHeartbeats 800000
noncomputable section
namespace Go.PM
open Go
section
variable {C:Ctx} {F F':PF} {H:PH}
theorem cW(d:F.le F'){x:aO}{v:PV}(h:x.ev F=some v):x.ev F'=some v:=by
 cases x
 ·exact d _ _ h
 all_goals exact h
theorem GL(d:F.le F'):∀{xs:List aO}{vs:List PV},aO.evs F xs=some vs→aO.evs F' xs=some vs
 |[],_,h=>h
 |x::xs,vs,h=>by
  rw[BB]at h ⊢;cases i:x.ev F with
  |none=>simp[i]at h
  |some v=>
   cases e:aO.evs F xs with
   |none=>simp[e]at h
   |some l =>rw[i,e]at h;rw[cW d i,GL d e];exact h
theorem Ak(d:F.le F'):∀{ps:List (Nat × Nat × aO)}{cs ds:List PV},nY cs F ps=some ds→nY cs F' ps=some ds
 |[],_,_,h=>h
 |(l,size,x)::ps,cs,ds,h=>by
  simp only[nY]at h ⊢;cases e:x.ev F with
  |none=>simp[e]at h
  |some v=>
   rw[e]at h;rw[cW d e];simp only at h ⊢;split at h
   ·rename_i i;rw[aF i];exact Ak d h
   ·cases h
theorem DZ(d:F.le F'){size:Nat}:∀{ps:List (Nat × aO)}{cs ds:List (List PV)},fS size cs F ps=some ds→fS size cs F' ps=some ds
 |[],_,_,h=>h
 |(i,x)::ps,cs,ds,h=>by
  simp only[fS]at h ⊢;cases e:x.ev F with
  |none=>simp[e]at h
  |some v=>
   rw[e]at h;rw[cW d e];simp only at h ⊢;split at h
   ·rename_i l;rw[aF l];exact DZ d h
   ·cases h
theorem NL(e:F.le F'){d n:Int}{x:Option aO}(h:bnd F d x=some n):bnd F' d x=some n:=by
 cases x with
 |none=>exact h
 |some x=>
  simp only[bnd]at h ⊢;cases i:x.ev F with
  |none=>simp[i]at h
  |some v=>rw[cW e i,←i];exact h
theorem G8{op:POp}{v:PV}(A:F.le F')(h:aL op F H=some v):aL op F' H=some v:=by
 cases op
 case mv x=>exact cW A h
 case pick c a b=>
  simp only[aL]at h ⊢;cases K:c.ev F with
  |none=>simp[K]at h
  |some t=>
   rw[K]at h;rw[cW A K];cases t<;>simp only at h ⊢<;>try cases h
   rename_i t;cases t
   ·simp only[ayQ,if_false]at h ⊢;exact cW A h
   ·simp only[if_true]at h ⊢;exact cW A h
 case same x=>
  simp only[aL]at h ⊢;cases e:x.ev F with
  |none=>simp[e]at h
  |some a=>rw[cW A e,←e];exact h
 case un o x=>
  simp only[aL]at h ⊢;cases e:x.ev F with
  |none=>simp[e]at h
  |some a=>rw[cW A e,←e];exact h
 case conv k x=>
  simp only[aL]at h ⊢;cases e:x.ev F with
  |none=>simp[e]at h
  |some a=>rw[cW A e,←e];exact h
 case avN x=>
  simp only[aL]at h ⊢;cases e:x.ev F with
  |none=>simp[e]at h
  |some a=>rw[cW A e,←e];exact h
 case awD o x=>
  simp only[aL]at h ⊢;cases e:x.ev F with
  |none=>simp[e]at h
  |some a=>rw[cW A e,←e];exact h
 case field o n x=>
  simp only[aL]at h ⊢;cases e:x.ev F with
  |none=>simp[e]at h
  |some a=>rw[cW A e,←e];exact h
 case awA x=>
  simp only[aL]at h ⊢;cases e:x.ev F with
  |none=>simp[e]at h
  |some a=>rw[cW A e,←e];exact h
 case isNil n x=>
  simp only[aL]at h ⊢;cases e:x.ev F with
  |none=>simp[e]at h
  |some a=>rw[cW A e,←e];exact h
 case lenM x=>
  simp only[aL]at h ⊢;cases e:x.ev F with
  |none=>simp[e]at h
  |some a=>rw[cW A e,←e];exact h
 case awK x=>
  simp only[aL]at h ⊢;cases e:x.ev F with
  |none=>simp[e]at h
  |some a=>rw[cW A e,←e];exact h
 case extract x i=>
  simp only[aL]at h ⊢;cases e:x.ev F with
  |none=>simp[e]at h
  |some a=>rw[cW A e,←e];exact h
 case avO x=>
  simp only[aL]at h ⊢;cases e:x.ev F with
  |none=>simp[e]at h
  |some a=>rw[cW A e,←e];exact h
 case len x=>
  simp only[aL]at h ⊢;cases e:x.ev F with
  |none=>simp[e]at h
  |some a=>rw[cW A e,←e];exact h
 case box r x=>
  cases r
  ·cases h
  simp only[aL]at h ⊢;cases e:x.ev F with
  |none=>simp[e]at h
  |some a=>rw[cW A e,←e];exact h
 case load n p=>
  cases n
  all_goals
   simp only[aL]at h ⊢;cases e:p.ev F with
   |none=>simp[e]at h
   |some a=>rw[cW A e,←e];exact h
 case bin o x y=>
  simp only[aL]at h ⊢;cases e:x.ev F with
  |none=>simp[e]at h
  |some a=>
   cases B:y.ev F with
   |none=>simp[e,B]at h
   |some b=>rw[cW A e,cW A B,←e,←B];exact h
 case eqb n x y=>
  simp only[aL]at h ⊢;cases e:x.ev F with
  |none=>simp[e]at h
  |some a=>
   cases B:y.ev F with
   |none=>simp[e,B]at h
   |some b=>rw[cW A e,cW A B,←e,←B];exact h
 case eqs n k x y=>
  simp only[aL]at h ⊢;cases e:x.ev F with
  |none=>simp[e]at h
  |some a=>
   cases B:y.ev F with
   |none=>simp[e,B]at h
   |some b=>rw[cW A e,cW A B,←e,←B];exact h
 case avR s x i=>
  simp only[aL]at h ⊢;cases e:x.ev F with
  |none=>simp[e]at h
  |some a=>
   cases B:i.ev F with
   |none=>simp[e,B]at h
   |some b=>rw[cW A e,cW A B,←e,←B];exact h
 case idxA n s x i=>
  simp only[aL]at h ⊢;cases e:x.ev F with
  |none=>simp[e]at h
  |some a=>
   cases B:i.ev F with
   |none=>simp[e,B]at h
   |some b=>rw[cW A e,cW A B,←e,←B];exact h
 case idxV n s g x i=>
  simp only[aL]at h ⊢;cases e:x.ev F with
  |none=>simp[e]at h
  |some a=>
   cases B:i.ev F with
   |none=>simp[e,B]at h
   |some b=>rw[cW A e,cW A B,←e,←B];exact h
 case awB x i=>
  simp only[aL]at h ⊢;cases e:x.ev F with
  |none=>simp[e]at h
  |some a=>
   cases B:i.ev F with
   |none=>simp[e,B]at h
   |some b=>rw[cW A e,cW A B,←e,←B];exact h
 case avV m x y=>
  simp only[aL]at h ⊢;cases e:x.ev F with
  |none=>simp[e]at h
  |some a=>
   cases B:y.ev F with
   |none=>simp[e,B]at h
   |some b=>rw[cW A e,cW A B,←e,←B];exact h
 case lookup sh z x k ok=>
  simp only[aL]at h ⊢;cases e:x.ev F with
  |none=>simp[e]at h
  |some a=>
   cases B:k.ev F with
   |none=>simp[e,B]at h
   |some b=>rw[cW A e,cW A B,←e,←B];exact h
 case build z ps =>simp only[aL,awR]at h ⊢;obtain⟨cs,E,J⟩:=h;exact⟨cs,Ak A E,J⟩
 case avG r s l z ps=>
  cases r
  ·cases h
  simp only[aL]at h ⊢;split at h
  ·rename_i K;rw[aF K];rw[awR]at h ⊢;obtain⟨cs,E,J⟩:=h;exact⟨cs,DZ A E,J⟩
  ·cases h
 case mkfn n cs =>simp only[aL,awR]at h ⊢;obtain⟨vs,E,J⟩:=h;exact⟨vs,GL A E,J⟩
 case sliceA n s x lo hi mx=>
  cases lo<;>cases hi<;>cases mx<;>simp only[aL]at h ⊢<;>try cases h
  cases e:x.ev F with
  |none=>simp[e]at h
  |some a=>rw[cW A e,←e];exact h
 case avX x lo hi=>
  simp only[aL]at h ⊢;cases e:x.ev F with
  |none=>simp[e]at h
  |some a=>
   rw[e]at h;rw[cW A e];cases a<;>simp only at h ⊢<;>try cases h
   cases E:bnd F 0 lo with
   |none=>simp[E]at h
   |some l=>
    rename_i s;cases J:bnd F s.length hi with
    |none=>simp[E,J]at h
    |some u=>rw[NL A E,NL A J,←E,←J];exact h
 case slice s x lo hi mx=>
  simp only[aL]at h ⊢;cases e:x.ev F with
  |none=>simp[e]at h
  |some a=>
   rw[e]at h;rw[cW A e];have N:∀(d:Int)(w:PV),(match bnd F 0 lo,bnd F d hi with
     |some a1,some a2=>match(generalizing:=false) mx with
      |none=>PV.slice s w a1 a2 none
      |some m=>(bnd F 0 (some m)).bind λm=>PV.slice s w a1 a2 (some m)
     |_,_=>none)=some v→(match bnd F' 0 lo,bnd F' d hi with
     |some a1,some a2=>match(generalizing:=false) mx with
      |none=>PV.slice s w a1 a2 none
      |some m=>(bnd F' 0 (some m)).bind λm=>PV.slice s w a1 a2 (some m)
     |_,_=>none)=some v:=by
    intro d w h;cases E:bnd F 0 lo with
    |none=>simp[E]at h
    |some l=>
     cases J:bnd F d hi with
     |none=>simp[E,J]at h
     |some u=>
      rw[E,J]at h;rw[NL A E,NL A J];cases mx with
      |none=>exact h
      |some m=>
       simp only at h ⊢;cases M:bnd F 0 (some m)with
       |none=>simp[M]at h
       |some q=>rw[NL A M,←M];exact h
   cases a<;>simp only at h ⊢<;>first|exact N _ _ h|cases h
 all_goals exact h
theorem yl{op:POp}{r:(Nat→PV) × aR}(d:F.le F')(h:cA op F=some r):cA op F'=some r:=by
 cases op
 case box b x=>
  cases b
  ·simp only[cA]at h ⊢;cases e:x.ev F with
   |none=>simp[e]at h
   |some a=>rw[cW d e,←e];exact h
  ·cases h
 case avG b s l z ps=>
  cases b
  ·simp only[cA]at h ⊢;split at h
   ·rename_i w;rw[aF w];rw[awR]at h ⊢;obtain⟨cs,p,u⟩:=h;exact⟨cs,DZ d p,u⟩
   ·cases h
  ·cases h
 case avI s b z l c=>
  simp only[cA]at h ⊢;cases e:l.ev F with
  |none=>simp[e]at h
  |some a=>
   cases i:c.ev F with
   |none=>simp[e,i]at h
   |some b=>rw[cW d e,cW d i,←e,←i];exact h
 all_goals exact h
theorem Jx{op:POp}{K:PV→PH→Prop}(d:F.le F')(h:bN op F H K):bN op F' H K:=by
 cases op
 case store n x y=>
  simp only[bN]at h ⊢;cases e:x.ev F with
  |none=>simp[e]at h
  |some a=>
   cases i:y.ev F with
   |none=>simp[e,i]at h
   |some b=>rw[cW d e,cW d i];rw[e,i]at h;exact h
 case append s b x y=>
  simp only[bN]at h ⊢;cases e:x.ev F with
  |none=>simp[e]at h
  |some a=>
   cases i:y.ev F with
   |none=>simp[e,i]at h
   |some b=>rw[cW d e,cW d i];rw[e,i]at h;exact h
 case avS sh x y z=>
  simp only[bN]at h ⊢;cases e:x.ev F with
  |none=>simp[e]at h
  |some a=>
   cases i:y.ev F with
   |none=>simp[e,i]at h
   |some b=>
    cases l:z.ev F with
    |none=>simp[e,i,l]at h
    |some c=>rw[cW d e,cW d i,cW d l];rw[e,i,l]at h;exact h
 case insert sh x y z=>
  simp only[bN]at h ⊢;cases e:x.ev F with
  |none=>simp[e]at h
  |some a=>
   cases i:y.ev F with
   |none=>simp[e,i]at h
   |some b=>
    cases l:z.ev F with
    |none=>simp[e,i,l]at h
    |some c=>rw[cW d e,cW d i,cW d l];rw[e,i,l]at h;exact h
 all_goals exact h
theorem PF.amP(d:F.le F')(i:Nat)(v:PV):(F.set i v).le (F'.set i v):=by
 intro j u h;rw[mG]at h ⊢;split at h
 ·rename_i e;rw[aF e];exact h
 ·rename_i e;rw[aC e];exact d j u h
theorem PF.vL(e:F.le F')(d:Option Nat)(v:PV):(F.put d v).le (F'.put d v):=by
 cases d with
 |none=>exact e
 |some d=>exact PF.amP e d v
theorem PF.alN(d:F.le F')(o s:Nat)(rs:List (List PV)):(F.frz o s rs).le (F'.frz o s rs):=by
 intro j u h;rw[sL,awR]at h ⊢;obtain⟨x,e,i⟩:=h;exact⟨x,d j x e,i⟩
theorem PF.le_trans{A B D:PF}(h:A.le B)(k:B.le D):A.le D:=λi v hi=>k i v (h i v hi)
theorem iV.up{i:PF}{l:PH}(h:iV F H i l):∀{F':PF},F.le F'→∃d,iV F' H d l∧i.le d:=by
 induction h with
 |refl F H=>exact λ{F'} e=>⟨F',.refl _ _,e⟩
 |step o w _ x =>intro F' e;obtain⟨d,p,u⟩:=x (PF.alN e o _ _);exact⟨d,.step o w p,u⟩
theorem bw{name:Nat}{args:Option (List PV)}{d:Option Nat}{K1 K2:PF→PH→Prop}(y:∀F F' H,F.le F'→K1 F H→K2 F' H)(i:F.le F'){e:Option (List PV)}(A:∀vs,args=some vs→e=some vs)(h:rE C name args d K1 F H):rE C name e d K2 F' H:=by
 obtain⟨vs,l,R,p,u,w,x⟩:=h;exact⟨vs,l,R,A _ p,u,w,λr H' a b=>y _ _ _ (PF.vL i d r) (x r H' a b)⟩
theorem D4{cs:List PV}{args:List aO}(d:F.le F')(vs:List PV)(h:(aO.evs F args).map (·++cs)=some vs):(aO.evs F' args).map (·++cs)=some vs:=by
 rw[awR]at h ⊢;obtain⟨x,e,i⟩:=h;exact⟨x,GL d e,i⟩
theorem L3{name:Nat}{args:List aO}{cs:List PV}{d:Option Nat}{K1 K2:PF→PH→Prop}(l:∀F F' H,F.le F'→K1 F H→K2 F' H)(e:F.le F')(h:kN C name args cs d K1 F H):kN C name args cs d K2 F' H:=by
 rcases h with h|⟨F1,H1,h1,h2⟩
 ·exact .inl (bw l e (D4 e) h)
 ·obtain⟨i,k1,k2⟩:=h1.up e;exact .inr ⟨i,H1,k1,bw l k2 (D4 k2) h2⟩
theorem PY{op:POp}{d:Option Nat}{K1 K2:PF→PH→Prop}(p:∀F F' H,F.le F'→K1 F H→K2 F' H)(e:F.le F')(h:nL (cA op F) d K1 F H):nL (cA op F') d K2 F' H:=by
 obtain⟨w,x,i,l⟩:=h;exact⟨w,x,yl e i,λo u=>p _ _ _ (PF.vL e d _) (l o u)⟩
theorem ky{op:POp}{d:Option Nat}{K1 K2:PF→PH→Prop}(p:∀F F' H,F.le F'→K1 F H→K2 F' H)(e:F.le F')(h:bW (aL op F H) d K1 F H):bW (aL op F' H) d K2 F' H:=by
 obtain⟨v,i,l⟩:=h;exact⟨v,G8 e i,p _ _ _ (PF.vL e d v) l⟩
theorem xx{op:POp}{d:Option Nat}{K1 K2:PF→PH→Prop}(i:∀F F' H,F.le F'→K1 F H→K2 F' H)(e:F.le F')(h:bN op F H λr H'=>K1 (F.put d r) H'):bN op F' H λr H'=>K2 (F'.put d r) H':=
 Jx e (CD (λv H' l=>i _ _ _ (PF.vL e d v) l) h)
theorem agY{op:POp}{d:Option Nat}{K1 K2:PF→PH→Prop}(i:∀F F' H,F.le F'→K1 F H→K2 F' H)(e:F.le F')(h:wpOp C op d K1 F H):wpOp C op d K2 F' H:=by
 cases op
 case call n a=>exact L3 i e h
 case awC x a=>
  have w:sA C (x.ev F) a d K1 F H:=h;show sA C (x.ev F') a d K2 F' H;cases M:x.ev F with
  |none=>rw[M]at w;exact w.elim
  |some u=>
   rw[cW e M];rw[M]at w;cases u<;>first|exact L3 i e w|exact w.elim|skip
   obtain⟨l,O,A⟩:=w;refine⟨l,O,?_⟩;rcases A with⟨vs,E,R,A,J,K,h5⟩|⟨F1,H1,k1,vs,E,R,A,J,K,h5⟩
   ·exact .inl ⟨vs,E,R,GL e A,J,K,λr H' p q=>i _ _ _ (PF.vL e d r) (h5 r H' p q)⟩
   ·obtain⟨B,k2,N⟩:=k1.up e;exact .inr ⟨B,H1,k2,vs,E,R,GL N A,J,K,λr H' p q=>i _ _ _ (PF.vL N d r) (h5 r H' p q)⟩
 case box r x=>cases r<;>first|exact PY (op:=.box false x) i e h|exact ky (op:=.box true x) i e h
 case avG r s l z ps=>cases r<;>first|exact PY (op:=.avG false s l z ps) i e h|exact ky (op:=.avG true s l z ps) i e h
 case alloc cs=>exact PY (op:=.alloc cs) i e h
 case avI s b z l c=>exact PY (op:=.avI s b z l c) i e h
 case awG sh=>exact PY (op:=.awG sh) i e h
 case store n x y=>exact xx (op:=.store n x y) i e h
 case append s b x y=>exact xx (op:=.append s b x y) i e h
 case avS sh x y z=>exact xx (op:=.avS sh x y z) i e h
 case insert sh x y z=>exact xx (op:=.insert sh x y z) i e h
 all_goals exact ky i e h
theorem QT{K1 K2:PF→PH→Prop}(l:∀F F' H,F.le F'→K1 F H→K2 F' H):∀{ops:List aS}{F F':PF}{H:PH},F.le F'→wpOps C ops K1 F H→wpOps C ops K2 F' H
 |[],_,_,_,i,h=>l _ _ _ i h
 |⟨d,op,none⟩::rest,_,_,_,i,h=>agY (λ_ _ _ a b=>QT l a b) i h
 |⟨d,op,some (t,p)⟩::rest,F,F',H,i,h=>by
  rw[Li]at h ⊢;unfold xR at h;split at h
  ·rename_i b hb;rw[i t _ hb];unfold xR;simp only;split at h
   ·rename_i e;rw[aF e];exact agY (λ_ _ _ a b=>QT l a b) i h
   ·rename_i e;rw[aC e];exact QT l (PF.vL i d _) h
  ·rename_i hb;rw[i t _ hb];exact QT l (PF.vL i d _) h
  ·exact h.elim
theorem Gv{Hs:PH}{S:Spec}{st:Bool}{op:POp}{K:PV→PH→Prop}(d:F.le F')(h:(op.kind F).run C Hs S st K H):(op.kind F').run C Hs S st K H:=by
 have new:∀op:POp,(Kind.new (cA op F)).run C Hs S st K H→(Kind.new (cA op F')).run C Hs S st K H:=λop h=>by obtain⟨M,x,e,i⟩:=h;exact⟨M,x,yl d e,i⟩
 have calm:∀op:POp,(Kind.calm (aL op F)).run C Hs S st K H→(Kind.calm (aL op F')).run C Hs S st K H:=λop h=>by obtain⟨v,e,i⟩:=h;exact⟨v,G8 d e,i⟩
 have J:∀op:POp,(Kind.write λH K=>bN op F H K).run C Hs S st K H→(Kind.write λH K=>bN op F' H K).run C Hs S st K H:=λop h=>Jx (op:=op) d (show bN op F H (λr H'=>Hs.le H'∧K r H')from h);cases op
 case call n a =>obtain⟨vs,D,R,e,i⟩:=h;exact⟨vs,D,R,GL d e,i⟩
 case awC x a=>
  unfold POp.kind at h ⊢;simp only at h ⊢;cases p:x.ev F with
  |none=>rw[p]at h;exact h.elim
  |some u=>
   rw[p]at h;rw[cW d p];cases u<;>simp only at h ⊢<;>first|exact h|skip
   obtain⟨vs,D,R,e,i⟩:=h;exact⟨vs,D,R,D4 d _ e,i⟩
 case insert sh x k v=>
  obtain⟨o,E,B,u,g,e,i⟩:=h;refine⟨o,E,B,u,g,?_,i⟩;cases p:x.ev F with
  |none=>simp[p]at e
  |some a=>
   cases w:k.ev F with
   |none=>simp[p,w]at e
   |some b=>
    cases A:v.ev F with
    |none=>simp[p,w,A]at e
    |some c=>rw[cW d p,cW d w,cW d A];rw[p,w,A]at e;exact e
 case box r x=>cases r<;>first|exact new (.box false x) h|exact calm (.box true x) h
 case avG r s l z ps=>cases r<;>first|exact new (.avG false s l z ps) h|exact calm (.avG true s l z ps) h
 case alloc cs=>exact new (.alloc cs) h
 case avI s b z l c=>exact new (.avI s b z l c) h
 case awG sh=>exact new (.awG sh) h
 case store n x y=>exact J (.store n x y) h
 case append s b x y=>exact J (.append s b x y) h
 case avS sh x y z=>exact J (.avS sh x y z) h
 all_goals exact calm _ h
theorem adI{Hs:PH}{S:Spec}{st:Bool}{i:aS}{K:PV→PH→Prop}(d:F.le F')(h:(i.kind F).run C Hs S st K H):(i.kind F').run C Hs S st K H:=by
 unfold aS.kind at h ⊢;split
 ·rename_i l;rw[l]at h;exact Gv d h
 ·rename_i t p l;rw[l]at h;simp only at h;split at h
  ·rename_i b hb;rw[d t _ hb];simp only;split at h
   ·rename_i e;rw[aF e];exact Gv d h
   ·rename_i e;rw[aC e];exact h
  ·rename_i hb;rw[d t _ hb];exact h
  ·exact h.elim
theorem aaU{Hs:PH}{S:Spec}{K1 K2:PF→PH→Prop}(l:∀F F' H,F.le F'→K1 F H→K2 F' H):∀{ops:List (aS × Bool)}{F F':PF}{H:PH},Hs.le H→F.le F'→wpD C Hs S ops K1 F H→wpD C Hs S ops K2 F' H
 |[],_,_,_,_,d,h=>l _ _ _ d h
 |i::rest,F,F',H,w,d,h=>by have p:(i.1.kind F).run C Hs S i.2 (λv H'=>wpD C Hs S rest K1 (F.put i.1.dst v) H') H:=h;exact adI d (Kind.tH (tD _ _) (λv H' e u=>aaU l e (PF.vL d _ v) u) w p)
class Up(K:cJ):Prop where
 up:∀{e:kZ}{F F':PF}{H:PH},F.le F'→K e F H→K e F' H
theorem MO:∀(c:aD){K1 K2:cJ}(_:∀e F F' H,F.le F'→K1 e F H→K2 e F' H){F F':PF}{H:PH},F.le F'→c.wp C K1 F H→c.wp C K2 F' H
 | .skip,_,_,i,_,_,_,d,h=>i _ _ _ _ d h
 | .region ops,_,_,i,_,_,_,d,h=>QT (i .normal) d h
 | .draw ops,_,_,i,_,_,_,d,⟨Hs,S,u,B⟩=>⟨Hs,S,u,aaU (i .normal) u d B⟩
 | .seq a b,K1,K2,i,_,_,_,d,h=>MO a (K1:=jT C (b.wp C) K1) (K2:=jT C (b.wp C) K2) (λe F F' H p l=>by
   cases e with
   |normal=>exact MO b i p l
   |exit id=>exact i (.exit id) _ _ _ p l
   |ret=>exact i .ret _ _ _ p l) d h
 | .cond c a b,K1,K2,i,F,F',H,d,h=>by
  rw[agK]at h ⊢;unfold SK at h;split at h
  ·rename_i t O;rw[cW d O];unfold SK;simp only;split at h
   ·rename_i e;rw[aF e];exact MO a i d h
   ·rename_i e;rw[aC e];exact MO b i d h
  ·exact h.elim
 | .block id c,K1,K2,i,_,_,_,d,h=>MO c (K1:=gU id K1) (K2:=gU id K2) (λe F F' H p l=>by
   cases e with
   |normal=>exact i .normal _ _ _ p l
   |exit j=>
    rw[DQ]at l ⊢;split at l
    ·rename_i e;rw[aF e];exact i .normal _ _ _ p l
    ·rename_i e;rw[aC e];exact i (.exit j) _ _ _ p l
   |ret=>exact i .ret _ _ _ p l) d h
 | .loop c,K1,K2,i,F,F',H,d,⟨α,y,Hs,A,m,J,Z,E,u,B,K,M,h5⟩=>by
  obtain⟨w,k1,k2⟩:=u.up d;refine⟨α,y,Hs,A,m,J,w,E,k1,B,PF.le_trans K k2,M,λa N=>?_⟩;refine MO c (K1:=lO y Hs A m (m a) K1) (K2:=lO y Hs A m (m a) K2) (λe F F' H p l=>?_) PF.le_refl (h5 a N);cases e with
  |normal =>obtain⟨b,F2,H2,U,V,W,X,Y⟩:=l;obtain⟨x,Q,R⟩:=U.up p;exact⟨b,x,H2,Q,V,W,PF.le_trans X R,Y⟩
  |exit id=>exact i (.exit id) _ _ _ p l
  |ret=>exact i .ret _ _ _ p l
 | .exit id,_,_,i,_,_,_,d,h=>i (.exit id) _ _ _ d h
 | .ret,_,_,i,_,_,_,d,h=>i .ret _ _ _ d h
instance Up.seq{K:cJ}[Up K](b:aD):Up (jT C (b.wp C) K) where
 up {e} {F} {F'} {H} hl hh:=by
  cases e with
  |normal=>exact MO b (λe F F' H a h=>Up.up a h) hl hh
  |exit id=>exact Up.up (K:=K) (e:=.exit id) hl hh
  |ret=>exact Up.up (K:=K) (e:=.ret) hl hh
instance Up.block{K:cJ}[Up K](id:Nat):Up (gU id K) where
 up {e} {F} {F'} {H} hl hh:=by
  cases e with
  |normal=>exact Up.up (K:=K) (e:=.normal) hl hh
  |exit j=>
   rw[DQ]at hh ⊢;split at hh
   ·rename_i e;rw[aF e];exact Up.up (K:=K) (e:=.normal) hl hh
   ·rename_i e;rw[aC e];exact Up.up (K:=K) (e:=.exit j) hl hh
  |ret=>exact Up.up (K:=K) (e:=.ret) hl hh
instance Up.loop{K:cJ}[Up K]{α:Type}(i:α→PF)(Hs:α→PH)(l:α→Prop)(m:α→Nat)(n:Nat):Up (lO i Hs l m n K) where
 up {e} {F} {F'} {H} hl hh:=by
  cases e with
  |normal =>obtain⟨b,E,H2,w,x,y,A,B⟩:=hh;obtain⟨d,p,u⟩:=w.up hl;exact⟨b,d,H2,p,x,y,PF.le_trans A u,B⟩
  |exit id=>exact Up.up (K:=K) (e:=.exit id) hl hh
  |ret=>exact Up.up (K:=K) (e:=.ret) hl hh
theorem amJ{H:PH}(d:F.le F'){x:dJ}{v:PV}(h:x.ev F H=some v):x.ev F' H=some v:=by
 cases x with
 |tmp t=>exact d t v h
 |cell t n=>
  cases n<;>simp only[dJ.ev]at h ⊢<;>(cases e:F t with
   |none=>simp[e]at h
   |some a=>rw[d t a e,←e];exact h)
theorem nu{H:PH}(d:F.le F'):∀{xs:List dJ}{vs:List PV},dJ.evs F H xs=some vs→dJ.evs F' H xs=some vs
 |[],_,h=>h
 |x::xs,vs,h=>by
  rw[mA]at h ⊢;cases i:x.ev F H with
  |none=>simp[i]at h
  |some v=>
   cases e:dJ.evs F H xs with
   |none=>simp[e]at h
   |some l =>rw[i,e]at h;rw[amJ d i,nu d e];exact h
instance Up.ret(res:List dJ)(R:PV→PH→Prop):Up (bD res R) where
 up {e} {F} {F'} {H} hl hh:=by
  cases e with
  |exit id=>exact hh
  |normal=>obtain⟨vs,d,i⟩:=hh;exact⟨vs,nu hl d,i⟩
  |ret=>obtain⟨vs,d,i⟩:=hh;exact⟨vs,nu hl d,i⟩
end
open Go Go.RowKit
def CJ(R:PH→Prop):cJ
 | .normal,_,H=>R H
 |_,_,_=>False
theorem bK.putObj{E:Env}{H:PH}{w:World}{l:Nat}{o o':Obj}(hW:bK E H w)(u:w.heap[l]?=some o)(y:∀c t b,o≠.cells c t b)(A:H l=none):bK E H (w.putObj l o'):=by
 refine⟨λb cs h=>?_,λq x h=>?_,λq n h=>?_⟩
 ·obtain⟨d,ty,fr,i⟩:=hW.g b cs h;have:b≠l:=λe=>by rw[e,u]at i;exact y _ _ _ (by injection i)
  exact⟨d,ty,fr,(World.putObj_heap_other this).trans i⟩
 ·obtain⟨d,i⟩:=hW.h q x h;have:q≠l:=λe=>by rw[e,A]at h;cases h
  exact⟨by rw[World.putObj_size];exact d,i.mono (.refl E) (World.putObj_heap_other this)⟩
 ·obtain⟨p,ty,fr,d,i⟩:=hW.s q n h;have:q≠l:=λe=>by rw[e,u]at d;exact y _ _ _ (by injection d)
  exact⟨p,ty,fr,(World.putObj_heap_other this).trans d,i⟩
theorem bK.setObj{E:Env}{H:PH}{w:World}{l:Nat}{o:Obj}{x:aR}(hW:bK E H w)(i:w.heap[l]?=some o)(u:∀c t b,o≠.cells c t b)(A:NF E w l x):bK E (H.set l x) w:=by
 refine⟨λb cs h=>?_,λq y h=>?_,hW.s⟩
 ·obtain⟨p,ty,fr,d⟩:=hW.g b cs h;have:¬b=l:=λe=>by rw[e,i]at d;exact u _ _ _ (by injection d)
  refine⟨λy B=>p y ?_,ty,fr,d⟩
  rwa[aU,aC this]at B
 ·rw[aU]at h;split at h
  ·rename_i e;cases h;subst e;exact⟨(azW.1 i).1,A⟩
  ·exact hW.h q y h
theorem aaV{c:Code}{l m:Nat}{P:Program}{Q:Exit→Act→World→Prop}{d tm':Array Value}{ds:List Deferred}{w:World}(e:d=tm')(h:c.wpIn (Fz (some l)) m P Q { tmps:=tm',defers:=ds } w):c.wpIn (Fence.wide.inRound l) m P Q { tmps:=d,defers:=ds } w:=by
 subst e;exact h
section
variable {C:Ctx} {T:Tbl}
theorem Ll(V:C.P=T.P)(N:C.num=T.num){n t l:Nat}{J K:Code}{ζ Q:aD}(h1:T.code n J=some ζ)(h2:T.code n K=some Q)(ht:t<n){F:PF}{x:PV}{H:PH}{R:PH→Prop}(hl:H l=none)
  (Ξ:ζ.wp C (jT C (Q.wp C) (CJ R)) (F.set t x) H) :
  GD C l [x] (H.set l (.loop F n t J K)) (λr H'=>r=.bool true∧∃H2,R H2∧H2 l=none∧H'=H2.set l (.loop F n t J K)):=by
 intro E w vs hN hW Λ;obtain⟨vl⟩:=vs;cases Λ with
 |cons e1 e2=>
 cases e2;rename_i v;obtain⟨hlt,rec,U,O,ε,δ,has,ι,ρ,hF⟩:=hW.h l (.loop F n t J K) (by rw[dA]);have Γ:bK E H w:=hW.weaken λo y ho=>by
  have:¬o=l:=λe=>by rw[e,hl]at ho;cases ho
  rw[aU,aC this];exact ho
 refine⟨rec.fn,_,rec.assign,rec.body,run_yield U (by rw[δ];rfl),?_⟩;rw[has,ι,δ];refine roundIn_of_wpIn (F:=Fence.wide) trivial ?_;have hA:dN [] n E (F.set t x) { tmps:=rec.tmps.setIfInBounds t v,defers:=[] }:=by
  refine⟨by simp[ρ],rfl,λi pv hi=>?_⟩;rw[mG]at hi;split at hi
  ·rename_i e;cases hi;subst e;simp only[aAD];rw[Array.getElem?_setIfInBounds_self_of_lt Om];exact e1
  ·rename_i e;simp only[aAD];rw[Array.getElem?_setIfInBounds_ne (λh=>e h.symm),←aAD];exact hF i pv hi
 rw[V];refine aaV (tm':=rec.tmps.setIfInBounds t v) aY ?_;refine rL (ro:=some l) (fu:=0) V N J ζ (jT C (Q.wp C) (CJ R)) _ E (F.set t x) H _ w h1 Ξ hA Γ (hN.trans N) λe E1 F1 H1 a1 B υ φ p X=>?_;cases e with
 |exit id=>exact X.elim
 |ret=>exact X.elim
 |normal=>
  have α:B.heap[l]?=some (.loop rec):=(p.block l hlt hl).trans U;have W:H1 l=none:=by
   cases hh:H1 l with
   |none=>rfl
   |some y=>
    rcases p.new l y hh with⟨z,A⟩|hge
    ·rw[hl]at A;cases A
    ·omega
  refine⟨_,run_beginRound α O,?_⟩;have χ:=φ.putObj (o':=.loop { rec with state:=.busy }) α (λ_ _ _ h=>by cases h) W;have S:l<B.heap.size:=(azW.1 α).1;have Θ:(B.putObj l (.loop { rec with state:=.busy })).heap[l]?=some (.loop { rec with state:=.busy }):=World.putObj_heap_same S;have σ:(B.putObj l (.loop { rec with state:=.busy })).heap.size=B.heap.size:=World.putObj_size;have γ:∀b,b≠l→(B.putObj l (.loop { rec with state:=.busy })).heap[b]?=B.heap[b]?:=λb hb=>World.putObj_heap_other hb;have ο:(B.putObj l (.loop { rec with state:=.busy })).os=B.os:=rfl;have τ:(B.putObj l (.loop { rec with state:=.busy })).tape=B.tape:=rfl;have ξ:(B.putObj l (.loop { rec with state:=.busy })).output=B.output:=rfl;generalize B.putObj l (.loop { rec with state:=.busy })=w2 at *
  refine rL (ro:=some l) (fu:=0) V N K Q (CJ R) _ E1 F1 H1 a1 w2 h2 X υ χ (p.env.num.trans (hN.trans N)) λe2 E2 F2 H2 a2 w3 Φ ψ u Y=>?_;cases e2 with
  |exit id=>exact Y.elim
  |ret=>exact Y.elim
  |normal=>
   have β:w3.heap[l]?=some (.loop { rec with state:=.busy }):=(u.block l (by rw[σ];exact S) W).trans Θ;have ν:l<w3.heap.size:=(azW.1 β).1;have θ:H2 l=none:=by
    cases hh:H2 l with
    |none=>rfl
    |some y=>
     rcases u.new l y hh with⟨z,A⟩|hge
     ·rw[W]at A;cases A
     ·omega
   have η:({ { rec with state:=.busy }with state:=if(none:Option Code).isNone then .ready else .done,pending:=none }:Loop)=rec:=by obtain⟨a,b,c,d,e,f,g,h⟩:=rec;simp only at O ε;subst O ε;rfl
   refine⟨_,_,run_endRound none β,?_⟩;rw[η];have ω:=(ψ.putObj (o':=.loop rec) β (λ_ _ _ h=>by cases h) θ);have μ:(w3.putObj l (.loop rec)).heap[l]?=some (.loop rec):=World.putObj_heap_same ν;have κ:E.le E2:=p.env.trans u.env;refine⟨.bool true,.bool true,E2,H2.set l (.loop F n t J K),rfl,ω.setObj μ (λ_ _ _ h=>by cases h) ⟨rec,μ,O,ε,δ,has,ι,ρ,λi pv hi=>(hF i pv hi).mono κ⟩,.bool true,?_,rfl,H2,Y,θ,rfl⟩;refine⟨κ,?_,?_,?_,?_,λb hb hn=>?_,λo y ho=>?_,λb cs hb=>?_⟩
   ·exact u.os.trans (ο.trans p.os)
   ·exact u.tape.trans (τ.trans p.tape)
   ·exact u.output.trans (ξ.trans p.output)
   ·have:=p.size;have:=u.size;rw[World.putObj_size];omega
   ·have Z:b≠l:=λe=>by rw[e,dA]at hn;cases hn
    rw[aU,aC Z]at hn;have Δ:H1 b=none:=by
     cases hh:H1 b with
     |none=>rfl
     |some y=>
      rcases p.new b y hh with⟨z,A⟩|hge
      ·rw[hn]at A;cases A
      ·omega
    rw[World.putObj_heap_other Z,u.block b (by have:=p.size;omega) Δ,γ b Z,p.block b hb hn]
   ·rw[aU]at ho;split at ho
    ·rename_i e;exact .inl ⟨_,by rw[e,dA]⟩
    ·rename_i e;rcases u.new o y ho with⟨z,A⟩|hge
     ·rcases p.new o z A with⟨z2,M⟩|hge
      ·exact .inl ⟨z2,by rw[aU,aC e];exact M⟩
      ·exact .inr hge
     ·have:=p.size;exact .inr Om
   ·rcases u.newG b cs hb with hg|⟨z,A⟩|hge
    ·rcases p.newG b cs hg with hg|⟨z,A⟩|hge
     ·exact .inl hg
     ·have e:¬b=l:=λe=>by rw[e,hl]at A;cases A
      exact .inr (.inl ⟨z,by rw[aU,aC e];exact A⟩)
     ·exact .inr (.inr hge)
    ·rcases p.new b z A with⟨z2,M⟩|hge
     ·have e:¬b=l:=λe=>by rw[e,hl]at M;cases M
      exact .inr (.inl ⟨z2,by rw[aU,aC e];exact M⟩)
     ·exact .inr (.inr hge)
    ·have:=p.size;exact .inr (.inr Om)
end
open Go Go.RowKit
abbrev xA(D:Nat):Deferred:={ target:=.collected D,args:=#[] }
theorem bK.alloc{E:Env}{H:PH}{w:World}(hW:bK E H w)(o:Obj):bK E H (w.alloc o):=by
 have e:(w.alloc o).heap.size=w.heap.size+1:=World.size_alloc w o;have hb:∀b,b<w.heap.size→(w.alloc o).heap[b]?=w.heap[b]?:=λb hlt=>Below.heap_alloc w o b hlt;exact hW.same Om (λb hlt _=>hb b hlt) (λq x d=>hb q (hW.h q x d).1)
section
variable {C:Ctx} {T:Tbl} {ds:List Deferred} {fu:Nat}
theorem alM{f:FuncId}{args:Array Value}{w:World}{P:Program}{fn:Func}(i:P.funcs[f]?=some fn)(hb:fn.body.isSome=true)(e:(fn.name=="runtime.NumGoroutine")=false):(callFunc f args).run P w=.ok (.enter f args) w:=by
 have d:fn.body.isNone=false:=by cases h:fn.body<;>simp_all
 simp only[callFunc,Sem.run_bind,Sem.run_pure,Result.andThen_ok,run_program,i,e,d,ayQ,if_false]
def x6(C:Ctx)(name:Nat)(cs:List PV)(F:PF)(H:PH)(n t:Nat)(d e:Code)(i:PH→Prop):Prop:=
 ∀l,H l=none→aJ C name (yH l::cs) (H.set l (.loop F n t d e)) (λ_ H'=>∃H2,i H2∧H2.le H'∧H2 l=none∧H' l=some (.loop F n t d e))
theorem K4(β:C.P=T.P)(α:C.num=T.num){n t name:Nat}{g:Operand}{pg:aO}{B J:Code}{cs:List PV}{E:Env}{F:PF}{H:PH}{a:Act}{w:World}{KH:PH→Prop}{Q:Exit→Act→World→Prop}(hg:T.opd g=some pg)(Γ:pg.ev F=some (.fn name cs))
  (Δ:x6 C name cs F H n t B J KH) (Z:dN ds n E F a) (hW:bK E H w) (hN:E.num=T.num)
  (hT:∀D X H2 w',dN (xA D::ds) n X F { a with defers:=xA D::a.defers }→bK X H2 w'→Ext E H w X H2 w'→w'.heap[D]?=some (.deferred (some []))→H2 D=none→w.heap.size≤D→KH H2→Q .normal { a with defers:=xA D::a.defers } w') :
  (Code.rangeFunc g #[t] B J).wpIn (Fz none) fu T.P Q a w:=by
 have r:=aZ hg Γ Z hN;generalize Ψ:a.eval g=vg at r;cases r with
 |fn vc ψ ω=>
 have M:∀o x,H o=some x→o<w.heap.size:=λo x ho=>(hW.h o x ho).1;have nD:H w.heap.size=none:=by
  cases h:H w.heap.size with
  |none=>rfl
  |some x=>have:=M _ x h;omega
 have nl:H (w.heap.size+1)=none:=by
  cases h:H (w.heap.size+1)with
  |none=>rfl
  |some x=>have:=M _ x h;omega
 obtain⟨⟨fn,hf,hb,Θ⟩,U⟩:=Δ (w.heap.size+1) nl;rw[β]at hf;refine wpIn_rangeFunc λξ _=>?_;obtain⟨rec,O⟩:∃rec:Loop,rec={ state:=.ready,pending:=none,fn:=ξ,tmps:=a.tmps,params:=#[t],assign:=B,body:=J,defers:=w.heap.size }:=⟨_,rfl⟩;obtain⟨l,d⟩:∃l,(w.alloc (.deferred (some []))).alloc (.loop rec)=l:=⟨_,rfl⟩;have κ:(w.alloc (.deferred (some []))).heap.size=w.heap.size+1:=World.size_alloc _ _;have a':l.heap.size=w.heap.size+2:=by rw[←d,World.size_alloc,κ]
 have θ:∀b,b<w.heap.size→l.heap[b]?=w.heap[b]?:=λb hb=>by rw[←d];exact(Below.heap_alloc _ _ b Om).trans (Below.heap_alloc _ _ b hb)
 have ρ:l.heap[w.heap.size]?=some (.deferred (some [])):=by rw[←d];exact(Below.heap_alloc _ _ _ Om).trans (World.alloc_heap_new w _)
 have ζ:l.heap[w.heap.size+1]?=some (.loop rec):=by
  rw[←d];have:=World.alloc_heap_new (w.alloc (.deferred (some []))) (.loop rec)
  rwa[κ]at this
 have φ:bK E H l:=by rw[←d];exact(hW.alloc _).alloc _
 have χ:bK E (H.set (w.heap.size+1) (.loop F n t B J)) l:=φ.setObj ζ (λ_ _ _ h=>by cases h) (by subst O;exact⟨_,ζ,rfl,rfl,rfl,rfl,rfl,Z.size,Z.t⟩);have Ξ:l.os=w.os:=by rw[←d];rfl
 have Φ:l.tape=w.tape:=by rw[←d];rfl
 have Λ:l.output=w.output:=by rw[←d];rfl
 have N:C.num name=E.num name:=by rw[α,hN]
 refine⟨w.heap.size+1,[xA w.heap.size],l,{ target:=.fn (.func (E.num name)) vc,args:=#[.func (.yield (w.heap.size+1)) #[] #[]] },l,E.num name,#[Value.func (.yield (w.heap.size+1)) #[] #[]]++vc,l,?_,?_,?_,?_,?_,?_⟩
 ·rw[←d,O];exact run_enterLoop_outer _ _ _ _ _
 ·simp only[resolve,Ψ];simp[go_sem]
 ·exact λ_ _=>trivial
 ·simp only[invoke];exact alM (by rw[←N];exact hf) hb Θ
 ·intro h;cases h
 ·have S:eW E (yH (w.heap.size+1)::cs) (#[Value.func (.yield (w.heap.size+1)) #[] #[]]++vc).toList:=by rw[Array.toList_append];exact .cons (.lit _) (eW.agX (by simpa using ψ) λj p u hp hu=>ω j p u hp (by simpa using hu))
  have hc:=U E l _ (hN.trans α.symm) χ S;rw[β,N]at hc;refine Fz.calls (hc.mono λe w3 he=>?_);obtain⟨v,pv,X,H',rfl,ε,hr,A,H2,υ,V,K,τ⟩:=he;obtain⟨Ω,ν,η,μ,ι,-⟩:=ε.h _ _ τ;have W:w.heap.size≠w.heap.size+1:=Om;have σ:w3.heap[w.heap.size]?=some (.deferred (some [])):=(A.block _ Om (by rw[aU,aC W];exact nD)).trans ρ;have δ:H' w.heap.size=none:=by
   cases hh:H' w.heap.size with
   |none=>rfl
   |some y=>
    rcases A.new _ y hh with⟨z,R⟩|hge
    ·rw[aU,aC W,nD]at R;cases R
    ·omega
  have γ:H2 w.heap.size=none:=by
   cases hh:H2 w.heap.size with
   |none=>rfl
   |some y=>rw[V _ y hh]at δ;cases δ
  refine⟨ν.pending,_,run_endLoop η (by rw[μ];exact λh=>by cases h),?_⟩;rw[ι];simp only;have ο:dN (xA w.heap.size::ds) n X F { a with defers:=xA w.heap.size::a.defers }:=⟨Z.size,by simp only;rw[Z.defers],λi pv hi=>(Z.t i pv hi).mono A.env⟩;refine hT w.heap.size X H2 _ ο ((ε.weaken V).putObj η (λ_ _ _ h=>by cases h) K) ?_ ((World.putObj_heap_other W).trans σ) γ (awP _) υ;refine⟨A.env,A.os.trans Ξ,A.tape.trans Φ,A.output.trans Λ,?_,λb hb hn=>?_,λo y ho=>?_,λb cs hb=>?_⟩
  ·have:=A.size;rw[World.putObj_size];omega
  ·have Y:b≠w.heap.size+1:=Om;rw[World.putObj_heap_other Y,A.block b Om (by rw[aU,aC Y];exact hn),θ b hb]
  ·have Y:o≠w.heap.size+1:=λe=>by rw[e,K]at ho;cases ho
   rcases A.new o y (V o y ho)with⟨z,R⟩|hge
   ·rw[aU,aC Y]at R;exact .inl ⟨z,R⟩
   ·exact .inr Om
  ·rcases A.newG b cs hb with h|⟨z,R⟩|hge
   ·exact .inl h
   ·by_cases Y:b=w.heap.size+1
    ·exact .inr (.inr Om)
    ·rw[aU,aC Y]at R;exact .inr (.inl ⟨z,R⟩)
   ·exact .inr (.inr Om)
end
open Go Go.RowKit
inductive rG where
 |seq (a:aD) (t:rG)
 |range (g:aO) (n t:Nat) (asg bdy:Code) (pas pbd rest:aD)
def rG.wp (C : Ctx) : rG → cJ → PF → PH → Prop
  | .seq a t, K, F, H => a.wp C (jT C (t.wp C) K) F H
  | .range g n t asg bdy pas pbd rest, K, F, H => ∃ name cs KH, g.ev F = some (.fn name cs) ∧
      ((∀ (l : Nat) (x : PV) (J : PH) (J' : PH → Prop), J l = none → pas.wp C (jT C (pbd.wp C) (CJ J')) (F.set t x) J →
        GD C l [x] (J.set l (.loop F n t asg bdy)) (fun r H' => r = .bool true ∧ ∃ H2, J' H2 ∧ H2 l = none ∧ H' = H2.set l (.loop F n t asg bdy))) → x6 C name cs F H n t asg bdy KH) ∧
      ∀ H2, KH H2 → rest.wp C K F H2
namespace Tbl
variable (T:Tbl)
def tail(n:Nat):Code→Option rG
 | .seq (.rangeFunc g ps d e) rest=>match T.opd g,T.code n d,T.code n e,T.code n rest with
  |some u,some i,some l,some w=>match ps.toList with
   |[t]=>if t<n then some (.range u n t d e i l w)else none
   |_=>none
  |_,_,_,_=>none
 | .seq (.seq a (.block _ (.rangeFunc g ps d e))) rest=>match T.code n a,T.opd g,T.code n d,T.code n e,T.code n rest with
  |some p,some u,some i,some l,some w=>match ps.toList with
   |[t]=>if t<n then some (.seq p (.range u n t d e i l w))else none
   |_=>none
  |_,_,_,_,_=>none
 | .seq a b=>match T.code n a,tail n b with
  |some p,some x=>some (.seq p x)
  |_,_=>none
 |_=>none
end Tbl
section
variable {C:Ctx} {T:Tbl} {fu:Nat}
def AS(n:Nat)(E:Env)(H:PH)(w:World)(K:cJ)(Q:Exit→Act→World→Prop):Prop:=
 ∀ds,(ds=[]∨∃D,ds=[xA D])→∀e i l H' p d,dN ds n i l p→bK i H' d→Ext E H w i H' d→(∀D,ds=[xA D]→d.heap[D]?=some (.deferred (some []))∧H' D=none∧w.heap.size≤D)→K e l H'→Q e.out p d
theorem AS.after{n:Nat}{E l:Env}{H H':PH}{w u:World}{K:cJ}{Q:Exit→Act→World→Prop}(h:AS n E H w K Q)(p:Ext E H w l H' u):AS n l H' u K Q:=
 λds d e x y H2 a2 J A hW F i B=>h ds d e x y H2 a2 J A hW (p.trans F) (λD hD=>⟨(i D hD).1,(i D hD).2.1,axT p.size (i D hD).2.2⟩) B
theorem AS.plain{n:Nat}{E:Env}{H:PH}{w:World}{K:cJ}{Q:Exit→Act→World→Prop}(h:AS n E H w K Q):NH [] n E H w K Q:=
 λe d i H' l y p hW x u=>h [] (.inl rfl) e d i H' l y p hW x (λD hD=>by cases hD) u
theorem jd(A:C.P=T.P)(u:C.num=T.num){n t:Nat}{g:Operand}{pg:aO}{ps:Array Tmp}{i p rest:Code}{O R pr:aD}{K:cJ}{Q Q0:Exit→Act→World→Prop}{E:Env}{F:PF}{H:PH}{a:Act}{w:World}(hQ:∀a w,rest.wpIn (Fz none) fu T.P Q a w→Q0 .normal a w)
  (h1:T.opd g=some pg) (h2:T.code n i=some O) (h3:T.code n p=some R) (h4:T.code n rest=some pr) (h5:ps.toList=[t]) (ht:t<n)
  (β:(rG.range pg n t i p O R pr).wp C K F H) (hA:dN [] n E F a) (hW:bK E H w) (hN:E.num=T.num) (hT:AS n E H w K Q) :
  (Code.rangeFunc g ps i p).wpIn (Fz none) fu T.P Q0 a w:=by
 obtain⟨name,cs,KH,k1,k2,k3⟩:=β;have α:ps=#[t]:=by obtain⟨l⟩:=ps;simp only at h5;subst h5;rfl
 subst α;refine K4 (ds:=[]) A u h1 k1 (k2 λl x J J' hJ hw=>Ll A u h2 h3 ht hJ hw) hA hW hN λD E' H2 w' S Y M hD N V X=>?_;refine hQ _ w' ?_;refine rL (ro:=none) (fu:=fu) (ds:=[xA D]) A u rest pr K Q E' F H2 _ w' h4 (k3 H2 X) S Y (M.env.num.trans hN) λe E3 F3 H3 a3 w3 U Z B W=>?_;refine hT [xA D] (.inr ⟨D,rfl⟩) e E3 F3 H3 a3 w3 U Z (M.trans B) (λD' d=>?_) W;injection d with d _
 injection d with d _
 injection d with d
 subst d;have hlt:D<w'.heap.size:=(azW.1 hD).1;refine⟨(B.block D hlt N).trans hD,?_,V⟩;cases hh:H3 D with
 |none=>rfl
 |some y=>
  rcases B.new D y hh with⟨z,hz⟩|hge
  ·rw[N]at hz;cases hz
  ·omega
theorem Wa(p:C.P=T.P)(l:C.num=T.num){n:Nat}:∀(c:Code)(t:rG)(K:cJ)(Q:Exit→Act→World→Prop)(E:Env)(F:PF)(H:PH)(a:Act)(w:World),
  T.tail n c=some t→t.wp C K F H→dN [] n E F a→bK E H w→E.num=T.num→AS n E H w K Q→c.wpIn (Fz none) fu T.P Q a w:=by
 intro c
 induction c with
 |seq x y γ α=>
  intro t K Q E F H a w d J hA hW W B;unfold Tbl.tail at d;split at d
  ·rename_i g ps u A rest e;cases e;split at d
   ·rename_i pg M N pr V e2 Y Z;split at d
    ·rename_i t0 e5;split at d
     ·rename_i e6;cases d;exact wpIn_seq (jd p l (λ_ _ h=>h) V e2 Y Z e5 e6 J hA hW W B)
     ·cases d
    ·cases d
   ·cases d
  ·rename_i a0 β g ps u A rest e;cases e;split at d
   ·rename_i X pg M N pr e0 V e2 Y Z;split at d
    ·rename_i t0 e5;split at d
     ·rename_i e6;cases d;have i:X.wp C (jT C ((rG.range pg n t0 u A M N pr).wp C) K) F H:=J;refine wpIn_seq (wpIn_seq (rL (ro:=none) (fu:=fu) (ds:=[]) p l a0 X (jT C ((rG.range pg n t0 u A M N pr).wp C) K) _ E F H a w e0 i hA hW W λe O R H' S U g1 g2 g3 g4=>?_));cases e with
      |normal=>exact wpIn_block (jd p l (λ_ _ h=>h) V e2 Y Z e5 e6 g4 g1 g2 (g3.env.num.trans W) (B.after g3))
      |exit id=>exact B.plain (.exit id) O R H' S U g1 g2 g3 g4
      |ret=>exact B.plain .ret O R H' S U g1 g2 g3 g4
     ·cases d
    ·cases d
   ·cases d
  ·rename_i a0 b0 _ _ e;cases e;split at d
   ·rename_i X tb V e2;cases d;have i:X.wp C (jT C (tb.wp C) K) F H:=J;refine wpIn_seq (rL (ro:=none) (fu:=fu) (ds:=[]) p l x X (jT C (tb.wp C) K) _ E F H a w V i hA hW W λe O R H' S U g1 g2 g3 g4=>?_);cases e with
    |normal=>exact α tb K Q O R H' S U e2 g4 g1 g2 (g3.env.num.trans W) (B.after g3)
    |exit id=>exact B.plain (.exit id) O R H' S U g1 g2 g3 g4
    |ret=>exact B.plain .ret O R H' S U g1 g2 g3 g4
   ·cases d
  ·cases d
 |_=>intro t K Q E F H a w d;simp[Tbl.tail]at d
end
structure AR where
 nparams:Nat
 ntmps:Nat
 body:rG
 res:List dJ
namespace Tbl
variable (T:Tbl)
def T4(fn:Func):Option AR:=
 match fn.body with
 |some c=>match T.tail fn.ntmps c,T.ns fn.results.toList with
  |some b,some rs=>some ⟨fn.params.size,fn.ntmps,b,rs⟩
  |_,_=>none
 |none=>none
end Tbl
theorem Tt{C:Ctx}{T:Tbl}{H:PH}(J:C.P=T.P)(F:C.num=T.num){name:Nat}{args:List PV}{R:PV→PH→Prop}{fn:Func}{pf:AR}(hf:C.P.funcs[C.num name]?=some fn)(γ:(fn.name=="runtime.NumGoroutine")=false)
  (d:T.T4 fn=some pf) (O:Z' args≤pf.ntmps) (h:pf.body.wp C (bD pf.res R) (PF.args args) H):aJ C name args H R:=by
 unfold Tbl.T4 at d;split at d
 ·rename_i c hb;split at d
  ·rename_i b rs x A;cases d;refine⟨⟨fn,hf,by simp[hb],γ⟩,λE w vs hN hW U=>?_⟩;have ζ:vs.size=Z' args:=by simpa using U.len
   refine(callsIn_wide (n:=0)).1 (callsIn_of_wp_marks hf hb trivial ?_ rfl);rw[J];have hA:dN [] fn.ntmps E (PF.args args) { tmps:=vs++ayJ (fn.ntmps-vs.size) undef,defers:=[] }:=by
    refine⟨by simp only at O;simp;omega,rfl,λi pv hi=>?_⟩;have y:i<vs.size:=by
     rw[ζ];rcases axA i args.length with h'|h'
     ·exact h'
     ·simp[PF.args,axV h']at hi
    simp only[aAD];rw[Array.getElem?_append_left y,azZ y];exact U.at_ i pv _ hi (by simp[y])
   refine Wa (fu:=0) J F c b (bD rs R) _ E (PF.args args) H _ w x h hA hW (hN.trans F) λds α e l F' H' W u B K p hm Z=>?_;have fin:∀X,bK l H' X→Ext E H w l H' X→bD rs R .ret F' H'→LeavesIn Fence.wide 0 T.P fn W.tmps (λe u=>∃v pv l H',e=.returned v∧bK l H' u∧aX l pv v∧Ext E H w l H' u∧R pv H') [] .returning X:=by
    rintro X M Y ⟨η,Q,F1,H1,H2,β,N,v0,ε,hR⟩;obtain⟨us,g1,g2⟩:=LG B M fn.results.toList rs η A Q;have δ:=jb g2;obtain⟨E2,k1,k2,k3⟩:=β.sound M;have S:=k3 (λ_=>if h:us.toArray.size=1 then us.toArray[0]else .tuple us.toArray) (λi pv hi=>by
     simp only[PF.set,upd]at hi;split at hi
     ·cases hi;exact δ
     ·cases hi) 0 v0 ε
    refine⟨_,?_,_,v0,E2,H2,rfl,k1.weaken N,S,(Y.trans k2).drop N,hR⟩;rw[jf,Array.mapM_eq_mapM_toList];simp[g1]
   have V:bD rs R .ret F' H'→bodyPostM Fence.wide 0 T.P fn (λe u=>∃v pv l H',e=.returned v∧bK l H' u∧aX l pv v∧Ext E H w l H' u∧R pv H') .ret W u:=by
    intro hr;show LeavesInM Fence.wide 0 T.P fn W.tmps _ W.defers .returning u;rw[B.defers];rcases α with rfl|⟨D,rfl⟩
    ·exact fin u K p hr
    ·obtain⟨m1,m2,m3⟩:=hm D rfl;refine⟨(λh=>by cases h),.inl ⟨D,_,rfl,run_takeDeferred m1,?_⟩⟩;refine fin _ (K.putObj m1 (λ_ _ _ h=>by cases h) m2) ⟨p.env,p.os,p.tape,p.output,?_,λb hb hn=>?_,p.new,p.newG⟩ hr
     ·rw[World.putObj_size];exact p.size
     ·rw[World.putObj_heap_other Om];exact p.block b hb hn
   cases e with
   |normal=>exact V Z
   |exit id=>exact Z.elim
   |ret=>exact V Z
  ·cases d
 ·cases d
end Go.PM
namespace Go.PM
open Go
def bn(C:Ctx)(k:Nat)(pf:AR):Prop:=∀(args:List PV)(H:PH)(R:PV→PH→Prop),Z' args≤pf.ntmps→pf.body.wp C (bD pf.res R) (PF.args args) H→aJ C k args H R
theorem bn.go{C:Ctx}{k:Nat}{pf:AR}(r:bn C k pf){args:List PV}{H:PH}{R:PV→PH→Prop}(h:pf.body.wp C (bD pf.res R) (PF.args args) H)(d:Nat.ble args.length pf.ntmps=true):aJ C k args H R:=r args H R (Nat.le_of_ble_eq_true d) h
end Go.PM
