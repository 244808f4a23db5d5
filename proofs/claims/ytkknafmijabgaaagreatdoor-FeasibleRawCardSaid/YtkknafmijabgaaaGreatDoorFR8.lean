/-
  The law of the claim returns true at every input, and its argument reads as it did: the tied card. No condition.
-/
import Derived.Test.YtkknafmijabgaaaGreatDoorFR1
import Derived.Test.YtkknafmijabgaaaGreatDoorFR2
import Derived.Test.YtkknafmijabgaaaGreatDoorFR3
import Derived.Test.YtkknafmijabgaaaGreatDoorFR4
import Derived.Test.YtkknafmijabgaaaGreatDoorFR5
import Derived.Test.YtkknafmijabgaaaGreatDoorFR6
import Derived.Test.YtkknafmijabgaaaGreatDoorFR7
import Derived.Test.YtkknafmijabgaaaGreatDoorTie
import Derived.Test.YtkknafmijabgaaaGreatDoorCards
set_option linter.unusedSimpArgs false
set_option linter.unusedVariables false
open List renaming getElem?_eq_some_iff→a9F,all_eq_true→a9I,mem_of_getElem?→baA,getElem?_append_left→baB
open Option renaming some→baP
set_option maxRecDepth 100000
set_option maxHeartbeats 800000
noncomputable section
namespace Go.Proofs.YtkknafmijabgaaaGreatDoor
open Go Go.PM Go.RowKit Go.ChangeShapes Go.WideShapes
def argKinds:List AT:=[.struct Bv,.one (.sl [.int .i64]),.struct aAD]
theorem aSO:MP Tryz.prog 8 Tryz.f4.params.toList=some argKinds:=by kernel_rfl
theorem aUI (e:List PV) (h:AT.TyL argKinds e) (l:∀ (j:Nat) v w,e[j]?=some v→([4,1,1]:List Nat)[j]?=some w→PV.Len (reachBytes/w) v):aH C 317 e .nil (aI (.bool true)):=by
 match e,h,l with
 | [K,M,N],h,l =>
  obtain⟨y,u,A,-⟩:=h;obtain⟨E,rfl,x,J⟩:=aGD y (l 0 _ 4 rfl rfl);cases u with | one u =>
  obtain⟨F,rfl,-,-⟩:=Ty.aNK u;obtain⟨I,rfl,B⟩:=aSV (by decide) A (l 2 _ 1 rfl rfl);exact aTD aXZ itoa q E x F I B
theorem Qp (os:Os) (args:Array Value):laidMetH Tryz.prog Rows.feasibleRawRow.laid ((World.doorLaid Tryz.prog 400 os).forCall (fun _ _=>0) ⟨#[],args,[]⟩).memory :=
 laidMetH_of_parts3 (fuel:=8) (laidMet_of_run' 8 (by kernel_rfl) (by kernel_rfl)) (by kernel_rfl) (by kernel_rfl)
set_option maxRecDepth 100000 in
theorem aBT (os:Os) (e:os.Started) (H:Type) (enc:TypeId × Value→H) :
  ReturnsInHanded {} Tryz.checked os 4 .any (fun w args=>(Rows.feasibleRawSpec.pre enc Tryz.prog Tryz.f4 [] false w args∧laidMetH Tryz.prog Rows.feasibleRawRow.laid w)∧sizedMet enc Tryz.prog Tryz.f4 (OpenSpec.ofChange Rows.feasibleRawSpec) false w args)
   (Rows.feasibleRawSpec.post enc Tryz.prog Tryz.f4 false true false false):=by
 refine returnsInHanded_of_change_and (C:=Tryz.checked) (X:=fun w _=>laidMetH Tryz.prog Rows.feasibleRawRow.laid w) (fun _ _ _ E h=>h.of_heap E) Tryz.own e (by kernel_rfl) Tryz.func4
  (ChangeSpec.witness_shaped (enc:=enc) (C:=Tryz.checked) (os:=os) (X:=fun w _=>laidMetH Tryz.prog Rows.feasibleRawRow.laid w) false (World.doorLaid Tryz.prog 400 os) #[.agg #[.int .i64 0,.slice none 0 0,.slice none 0 0,.slice none 0 0,.slice none 0 0,.slice none 0 0,.slice none 0 0],.slice none 0 0,.agg #[.slice none 0 0,.slice none 0 0,.slice none 0 0]] 8 rfl (World.shaped_of_RefB (by kernel_rfl) (by kernel_rfl)) (by kernel_rfl) (by kernel_rfl) (by kernel_rfl) (Qp os _)) ?_
 intro W base args ds K u l hW _ y _ _;have A:((Tryz.f4.params.toList.zip [4,1,1]).all fun x=>decide (0<x.2)&&yH Tryz.prog x.2 8 x.1)=true:=by kernel_rfl
 exact Oi (P:=Tryz.prog) (num:=num) (name:=317) (n:=8) (ats:=argKinds) (bt:=4) Tryz.laidOut (by kernel_rfl) (by kernel_rfl) (by kernel_rfl) rfl
  (fun ds B=>by
   match ds,B with
   | [F,I,J],_=>exact⟨rfl,rfl,rfl⟩)
  (by kernel_rfl) aSO [4,1,1] (fun j t w a b=>by have h:=a9I.1 A (t,w) (baA (List.getElem?_zip_eq_some.2 ⟨a,b⟩));simpa using h) aUI l hW
  (fun j t d a b=>AV y j t d (by rw[baB (a9F.1 a).1]; exact a) (by rw[baB (a9F.1 b).1]; exact b))
theorem i8:Rows.FeasibleRawSaid :=
 OpenClaim.holds_of_wide 4 Tryz.f4 rfl rfl rfl rfl rfl rfl rfl ⟨rfl,rfl,rfl,rfl,rfl⟩ rfl rfl rfl rfl rfl (by kernel_rfl) Tryz.func4 (by kernel_rfl)
  (of_decide_eq_true (by kernel_rfl)) (by unfold Func.isWrapper; first | (rw[if_pos (by decide +kernel)]; kernel_rfl) | (rw[if_neg (by decide +kernel)]; exact⟨rfl,rfl⟩))
  (fun os e H enc _=>aBT os e H enc)
theorem feasibleRaw_card:Rows.FeasibleRawCardSaid :=
 Claim7.holds_tied_plain_at .later [] [.data,.data,.data] true (true,"1abc24bc01dfb624e2255950c5e5bd558c8c8f8e9041aaebe6d78b793c91b757") false
  i8 (fun _ h=>by cases h) (by kernel_rfl) (fun _ h=>by cases h) feasibleRaw_row_tie rfl ⟨rfl,rfl⟩ (by kernel_rfl) rfl
  (fun f fn w l=>by
   obtain rfl:f=4:=baP.inj ((show Tryz.prog.funcNamed Rows.feasibleRawRow.func=some 4 by kernel_rfl).symm.trans w) |>.symm
   obtain rfl:fn=Tryz.f4:=(baP.inj (Tryz.func4.symm.trans l)).symm;exact⟨by kernel_rfl,fun j t y=>by
    have x:t∈Tryz.f4.params.toList:=by rw[Array.mem_toList_iff];exact Array.mem_of_getElem? y
    have e:(Tryz.f4.params.toList.all fun u=>!Tryz.prog.wantsStandIn u)=true:=by kernel_rfl
    exact (show Tryz.prog.wantsStandIn t=false by simpa using a9I.1 e t x)⟩)
  (by kernel_rfl)
#print axioms feasibleRaw_card
end Go.Proofs.YtkknafmijabgaaaGreatDoor
