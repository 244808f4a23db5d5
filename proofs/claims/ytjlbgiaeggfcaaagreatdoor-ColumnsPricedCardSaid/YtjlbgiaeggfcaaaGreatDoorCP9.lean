/-
  The law of the claim returns true at every input, and its argument reads as it did: the tied card. No condition.
-/
import Derived.Test.YtjlbgiaeggfcaaaGreatDoorCP8
import Derived.Test.YtjlbgiaeggfcaaaGreatDoorTie
import Derived.Test.YtjlbgiaeggfcaaaGreatDoorCards
set_option linter.unusedSimpArgs false
set_option linter.unusedVariables false
open List renaming all_eq_true->bkS,getElem?_eq_some_iff->blQ,mem_of_getElem?->bmK,getElem?_append_left->bmU
open Option renaming some->bmH
set_option maxRecDepth 100000
set_option maxHeartbeats 800000
noncomputable section
namespace Go.Proofs.YtjlbgiaeggfcaaaGreatDoor
open Go Go.PM Go.RowKit Go.ChangeShapes Go.WideShapes
def argKinds:List AT:=[.one (.sl [.int .u8]),.one Ft,.one Ft]
theorem a3F:RM Tryz.prog 8 Tryz.f3.params.toList=some argKinds:=by kernel_rfl
theorem a5G(d:List PV)(h:AT.TyL argKinds d)(e:∀(j:Nat) v w,d[j]?=some v->([1,4,4]:List Nat)[j]?=some w->PV.Len (reachBytes/w) v):aH C 323 d .nil (aF (.bool true)):=by
 match d,h,e with
 |[H,J,K],h,e=>
  obtain⟨i,l,p,-⟩:=h;cases i with|one i=>
  obtain⟨B,rfl,y,A⟩:=aOX i;cases l with|one l=>
  obtain⟨E,rfl,u⟩:=axV ⟨l,e 1 _ 4 rfl rfl⟩;cases p with|one p=>
  obtain⟨F,rfl,x⟩:=axV ⟨p,e 2 _ 4 rfl rfl⟩;exact aKQ aPG itoa DM q B y A E F u.2 x.2 u.1 x.1
theorem acU(os:Os)(args:Array Value):laidMetH Tryz.prog Rows.columnsPricedRow.laid ((World.doorLaid Tryz.prog 400 os).forCall (λ_ _=>0) ⟨#[],args,[]⟩).memory:=
 laidMetH_of_parts3 (fuel:=8) (laidMet_of_run' 8 (by kernel_rfl) (by kernel_rfl)) (by kernel_rfl) (by kernel_rfl)
set_option maxRecDepth 100000 in
theorem aKS(os:Os)(e:os.Started)(H:Type)(enc:TypeId × Value->H) :
  ReturnsInHanded {} Tryz.checked os 3 .any (λw args=>(Rows.columnsPricedSpec.pre enc Tryz.prog Tryz.f3 [] false w args/\laidMetH Tryz.prog Rows.columnsPricedRow.laid w)/\sizedMet enc Tryz.prog Tryz.f3 (OpenSpec.ofChange Rows.columnsPricedSpec) false w args)
   (Rows.columnsPricedSpec.post enc Tryz.prog Tryz.f3 false true false false):=by
 refine returnsInHanded_of_change_and (C:=Tryz.checked) (X:=λw _=>laidMetH Tryz.prog Rows.columnsPricedRow.laid w) (λ_ _ _ A h=>h.of_heap A) Tryz.own e (by kernel_rfl) Tryz.func3
  (ChangeSpec.witness_shaped (enc:=enc) (C:=Tryz.checked) (os:=os) (X:=λw _=>laidMetH Tryz.prog Rows.columnsPricedRow.laid w) false (World.doorLaid Tryz.prog 400 os) #[.slice none 0 0,.slice none 0 0,.slice none 0 0] 8 rfl (World.shaped_of_RefB (by kernel_rfl) (by kernel_rfl)) (by kernel_rfl) (by kernel_rfl) (by kernel_rfl) (acU os _)) ?_
 intro W base args ds J l i hW _ p _ _;have u:((Tryz.f3.params.toList.zip [1,4,4]).all λx=>decide (0<x.2)&&AF Tryz.prog x.2 8 x.1)=true:=by kernel_rfl
 exact Yk (P:=Tryz.prog) (num:=num) (name:=323) (n:=8) (ats:=argKinds) (bt:=4) Tryz.laidOut (by kernel_rfl) (by kernel_rfl) (by kernel_rfl) rfl
  (λds y=>by
   match ds,y with
   |[B,E,F],_=>exact⟨rfl,rfl,rfl⟩)
  (by kernel_rfl) a3F [1,4,4] (λj t w a b=>by have h:=bkS.1 u (t,w) (bmK (List.getElem?_zip_eq_some.2 ⟨a,b⟩));simpa using h) a5G i hW
  (λj t d a b=>DK p j t d (by rw[bmU (blQ.1 a).1];exact a) (by rw[bmU (blQ.1 b).1];exact b))
theorem cv:Rows.ColumnsPricedSaid:=
 OpenClaim.holds_of_wide 3 Tryz.f3 rfl rfl rfl rfl rfl rfl rfl ⟨rfl,rfl,rfl,rfl,rfl⟩ rfl rfl rfl rfl rfl (by kernel_rfl) Tryz.func3 (by kernel_rfl)
  (of_decide_eq_true (by kernel_rfl)) (by unfold Func.isWrapper;first|(rw[aI (by decide +kernel)];kernel_rfl)|(rw[aD (by decide +kernel)];exact⟨rfl,rfl⟩))
  (λos d H enc _=>aKS os d H enc)
theorem columnsPriced_card:Rows.ColumnsPricedCardSaid:=
 Claim7.holds_tied_plain_at .later [] [.data,.data,.data] true (true,"b689222283047f849e1e357ab8d78e3a168c359d837e4fe16737dfd3a0b20585") false
  cv (λ_ h=>by cases h) (by kernel_rfl) (λ_ h=>by cases h) columnsPriced_row_tie rfl ⟨rfl,rfl⟩ (by kernel_rfl) rfl
  (λf fn i e=>by
   obtain rfl:f=3:=bmH.inj ((show Tryz.prog.funcNamed Rows.columnsPricedRow.func=some 3 by kernel_rfl).symm.trans i) |>.symm
   obtain rfl:fn=Tryz.f3:=(bmH.inj (Tryz.func3.symm.trans e)).symm;exact⟨by kernel_rfl,λj t p=>by
    have l:t∈Tryz.f3.params.toList:=by rw[Array.mem_toList_iff];exact Array.mem_of_getElem? p
    have d:(Tryz.f3.params.toList.all λu=>!Tryz.prog.wantsStandIn u)=true:=by kernel_rfl
    exact(show Tryz.prog.wantsStandIn t=false by simpa using bkS.1 d t l)⟩)
  (by kernel_rfl)
#print axioms columnsPriced_card
end Go.Proofs.YtjlbgiaeggfcaaaGreatDoor
