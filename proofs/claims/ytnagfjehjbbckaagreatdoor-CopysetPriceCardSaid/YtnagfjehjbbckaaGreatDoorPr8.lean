/-
  The law of the claim returns true at every input, and its argument reads as it did: the tied card. No condition.
-/
import Derived.Test.YtnagfjehjbbckaaGreatDoorPr1
import Derived.Test.YtnagfjehjbbckaaGreatDoorPr2
import Derived.Test.YtnagfjehjbbckaaGreatDoorPr3
import Derived.Test.YtnagfjehjbbckaaGreatDoorPr4
import Derived.Test.YtnagfjehjbbckaaGreatDoorPr5
import Derived.Test.YtnagfjehjbbckaaGreatDoorPr6
import Derived.Test.YtnagfjehjbbckaaGreatDoorPr7
import Derived.Test.YtnagfjehjbbckaaGreatDoorTie
import Derived.Test.YtnagfjehjbbckaaGreatDoorCards
set_option linter.unusedSimpArgs false
set_option linter.unusedVariables false
open List renaming all_eq_true → aZC, getElem?_eq_some_iff → aZU, getElem?_append_left → a0V, mem_of_getElem? → a1C
open Option renaming some → a0Y
namespace Go.Proofs.YtnagfjehjbbckaaGreatDoor
open Go Go.PM Go.RowKit Go.ChangeShapes Go.WideShapes
def argKinds:List AT:=[.one (.sl [.int .u8]),.one (.int .u8),.one (.int .u8),.one (.int .u8),.one (.sl [.int .i8]),.one Ft]
theorem aGZ:GH Tryz.prog 8 Tryz.f3.params.toList=some argKinds:=by kernel_rfl
theorem aJO (c:List PV) (h:AT.TyL argKinds c) (u:∀ (j:Nat) v w,c[j]?=some v→([1,1,1,1,1,4]:List Nat)[j]?=some w→PV.Len (reachBytes/w) v):aH C 237 c .nil (aF (.bool true)):=by
 match c,h,u with
 | [O,Q,R,S,U,V],h,u =>
  obtain⟨d,e,i,l,p,h5,-⟩:=h;cases d with | one d =>
  obtain⟨F,rfl,y,E⟩:=aqW d;cases e with | one e =>
  obtain⟨H,rfl,b1⟩:=Uv e;cases i with | one i =>
  obtain⟨J,rfl,b2⟩:=Uv i;cases l with | one l =>
  obtain⟨K,rfl,A⟩:=Uv l;cases p with | one p =>
  obtain⟨M,rfl,B⟩:=aOA p;cases h5 with | one h5 =>
  obtain⟨N,rfl,x⟩:=aIK ⟨h5,u 5 _ 4 rfl rfl⟩;exact axN aNT itoa q F y E H J K b1 b2 A M B N x.2 x.1
theorem L0 (os:Os) (args:Array Value):laidMetH Tryz.prog Rows.copysetPriceRow.laid ((World.doorLaid Tryz.prog 400 os).forCall (fun _ _=>0) ⟨#[],args,[]⟩).memory :=
 laidMetH_of_parts3 (fuel:=8) (laidMet_of_run' 8 (by kernel_rfl) (by kernel_rfl)) (by kernel_rfl) (by kernel_rfl)
set_option maxRecDepth 100000 in
theorem anC (os:Os) (c:os.Started) (H:Type) (enc:TypeId × Value→H) :
  ReturnsInHanded {} Tryz.checked os 3 .any (fun w args=>(Rows.copysetPriceSpec.pre enc Tryz.prog Tryz.f3 [] false w args∧laidMetH Tryz.prog Rows.copysetPriceRow.laid w)∧sizedMet enc Tryz.prog Tryz.f3 (OpenSpec.ofChange Rows.copysetPriceSpec) false w args)
   (Rows.copysetPriceSpec.post enc Tryz.prog Tryz.f3 false true false false):=by
 refine returnsInHanded_of_change_and (C:=Tryz.checked) (X:=fun w _=>laidMetH Tryz.prog Rows.copysetPriceRow.laid w) (fun _ _ _ y h=>h.of_heap y) Tryz.own c (by kernel_rfl) Tryz.func3
  (ChangeSpec.witness_shaped (enc:=enc) (C:=Tryz.checked) (os:=os) (X:=fun w _=>laidMetH Tryz.prog Rows.copysetPriceRow.laid w) false (World.doorLaid Tryz.prog 400 os) #[.slice none 0 0,.int .u8 0,.int .u8 0,.int .u8 0,.slice none 0 0,.slice none 0 0] 8 rfl (World.shaped_of_RefB (by kernel_rfl) (by kernel_rfl)) (by kernel_rfl) (by kernel_rfl) (by kernel_rfl) (L0 os _)) ?_
 intro W base args ds M i e hW _ l _ _;have p:((Tryz.f3.params.toList.zip [1,1,1,1,1,4]).all fun x=>decide (0<x.2)&&sX Tryz.prog x.2 8 x.1)=true:=by kernel_rfl
 exact Is (P:=Tryz.prog) (num:=num) (name:=237) (n:=8) (ats:=argKinds) (bt:=4) Tryz.laidOut (by kernel_rfl) (by kernel_rfl) (by kernel_rfl) rfl
  (fun ds u=>by
   match ds,u with
   | [A,B,E,F,J,K],_=>exact⟨rfl,rfl,rfl⟩)
  (by kernel_rfl) aGZ [1,1,1,1,1,4] (fun j t w a b=>by have h:=aZC.1 p (t,w) (a1C (List.getElem?_zip_eq_some.2 ⟨a,b⟩));simpa using h) aJO e hW
  (fun j t d a b=>vJ l j t d (by rw[a0V (aZU.1 a).1]; exact a) (by rw[a0V (aZU.1 b).1]; exact b))
theorem XA:Rows.CopysetPriceSaid :=
 OpenClaim.holds_of_wide 3 Tryz.f3 rfl rfl rfl rfl rfl rfl rfl ⟨rfl,rfl,rfl,rfl,rfl⟩ rfl rfl rfl rfl rfl (by kernel_rfl) Tryz.func3 (by kernel_rfl)
  (of_decide_eq_true (by kernel_rfl)) (by unfold Func.isWrapper; first | (rw[if_pos (by decide +kernel)]; kernel_rfl) | (rw[if_neg (by decide +kernel)]; exact⟨rfl,rfl⟩))
  (fun os c H enc _=>anC os c H enc)
theorem copysetPrice_card:Rows.CopysetPriceCardSaid :=
 Claim7.holds_tied_plain_at .later [] [.data,.data,.data] true (true,"c847c1ff7fce4549af16ae78c93f2bb3124acbe7246b27670d5e773cd9b7e619") false
  XA (fun _ h=>by cases h) (by kernel_rfl) (fun _ h=>by cases h) copysetPrice_row_tie rfl ⟨rfl,rfl⟩ (by kernel_rfl) rfl
  (fun f fn e d=>by
   obtain rfl:f=3:=a0Y.inj ((show Tryz.prog.funcNamed Rows.copysetPriceRow.func=some 3 by kernel_rfl).symm.trans e) |>.symm
   obtain rfl:fn=Tryz.f3:=(a0Y.inj (Tryz.func3.symm.trans d)).symm;exact⟨by kernel_rfl,fun j t l=>by
    have i:t∈Tryz.f3.params.toList:=by rw[Array.mem_toList_iff];exact Array.mem_of_getElem? l
    have c:(Tryz.f3.params.toList.all fun u=>!Tryz.prog.wantsStandIn u)=true:=by kernel_rfl
    exact (show Tryz.prog.wantsStandIn t=false by simpa using aZC.1 c t i)⟩)
  (by kernel_rfl)
#print axioms copysetPrice_card
end Go.Proofs.YtnagfjehjbbckaaGreatDoor
