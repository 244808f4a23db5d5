/-
  The law of the claim returns true at every input, and its argument reads as it did: the tied card. No condition.
-/
import Derived.Test.YtjnaciiebeflnaaGreatDoorGC7
import Derived.Test.YtjnaciiebeflnaaGreatDoorTie
import Derived.Test.YtjnaciiebeflnaaGreatDoorCards
set_option linter.unusedSimpArgs false
set_option linter.unusedVariables false
open List renaming all_eq_true->awA
open Option renaming some->awV
set_option maxRecDepth 100000
set_option maxHeartbeats 800000
noncomputable section
namespace Go.Proofs.YtjnaciiebeflnaaGreatDoor
open Go Go.PM Go.RowKit Go.ChangeShapes Go.WideShapes
def argKinds:List AT:=[.one (.sl [.int .u8]),.one (.sl [.sl [.int .i64]]),.one (.int .i64),.one (.int .i64)]
theorem adS:LW Tryz.prog 8 Tryz.f3.params.toList=some argKinds:=by kernel_rfl
theorem afR(e:V_)(h:AT.TyL argKinds e):aH C 374 e .nil (aL (.bool true)):=by
 match e,h with
 |[J,K,M,N],h=>
  obtain⟨i,l,u,w,-⟩:=h;cases i with|one i=>
  obtain⟨A,rfl,x,y⟩:=R8 i;cases l with|one l=>
  obtain⟨B,rfl⟩:=afT l;cases u with|one u=>
  obtain⟨E,rfl,-⟩:=Ty.YS u;cases w with|one w=>
  obtain⟨F,rfl,-⟩:=Ty.YS w;exact Tg rG itoa aoF YE q A x y B E F
theorem Ea(os:Os)(args:Array Value):laidMetH Tryz.prog Rows.layoutCostRow.laid ((World.doorLaid Tryz.prog 400 os).forCall (λ_ _=>0) ⟨#[],args,[]⟩).memory:=
 laidMetH_of_parts3 (fuel:=8) (laidMet_of_run' 8 (by kernel_rfl) (by kernel_rfl)) (by kernel_rfl) (by kernel_rfl)
set_option maxRecDepth 100000 in
theorem Ow(os:Os)(e:os.Started)(H:Type)(enc:TypeId × Value->H) :
  ReturnsInHanded {} Tryz.checked os 3 .any (λw args=>(Rows.layoutCostSpec.pre enc Tryz.prog Tryz.f3 [] false w args/\laidMetH Tryz.prog Rows.layoutCostRow.laid w)/\sizedMet enc Tryz.prog Tryz.f3 (OpenSpec.ofChange Rows.layoutCostSpec) false w args)
   (Rows.layoutCostSpec.post enc Tryz.prog Tryz.f3 false true false false):=by
 refine returnsInHanded_of_change_and (C:=Tryz.checked) (X:=λw _=>laidMetH Tryz.prog Rows.layoutCostRow.laid w) (λ_ _ _ x h=>h.of_heap x) Tryz.own e (by kernel_rfl) Tryz.func3
  (ChangeSpec.witness_shaped (enc:=enc) (C:=Tryz.checked) (os:=os) (X:=λw _=>laidMetH Tryz.prog Rows.layoutCostRow.laid w) false (World.doorLaid Tryz.prog 400 os) #[.slice none 0 0,.slice none 0 0,.int .i64 0,.int .i64 0] 8 rfl (World.shaped_of_RefB (by kernel_rfl) (by kernel_rfl)) (by kernel_rfl) (by kernel_rfl) (by kernel_rfl) (Ea os _)) ?_
 intro W base args ds F l i hW _ _ _ _;exact Dy (P:=Tryz.prog) (num:=num) (name:=374) (n:=8) (ats:=argKinds) (bt:=4) Tryz.laidOut (by kernel_rfl) (by kernel_rfl) (by kernel_rfl) rfl
  (λds u=>by
   match ds,u with
   |[y,A,B,E],_=>exact⟨rfl,rfl,rfl⟩)
  (by kernel_rfl) adS afR i hW
theorem po:Rows.LayoutCostSaid:=
 OpenClaim.holds_of_wide 3 Tryz.f3 rfl rfl rfl rfl rfl rfl rfl ⟨rfl,rfl,rfl,rfl,rfl⟩ rfl rfl rfl rfl rfl (by kernel_rfl) Tryz.func3 (by kernel_rfl)
  (of_decide_eq_true (by kernel_rfl)) (by unfold Func.isWrapper;first|(rw[aF (by decide +kernel)];kernel_rfl)|(rw[aC (by decide +kernel)];exact⟨rfl,rfl⟩))
  (λos e H enc _=>Ow os e H enc)
theorem layoutCost_card:Rows.LayoutCostCardSaid:=
 Claim7.holds_tied_plain_at .later [] [.data,.data,.data] true (true,"6edb792ae64defe0e17d967aecd93fdf22d25c38389ffec53d3d75db5feda608") false
  po (λ_ h=>by cases h) (by kernel_rfl) (λ_ h=>by cases h) layoutCost_row_tie rfl ⟨rfl,rfl⟩ (by kernel_rfl) rfl
  (λf fn l i=>by
   obtain rfl:f=3:=awV.inj ((show Tryz.prog.funcNamed Rows.layoutCostRow.func=some 3 by kernel_rfl).symm.trans l) |>.symm
   obtain rfl:fn=Tryz.f3:=(awV.inj (Tryz.func3.symm.trans i)).symm;exact⟨by kernel_rfl,λj t x=>by
    have w:t∈Tryz.f3.params.toList:=by rw[Array.mem_toList_iff];exact Array.mem_of_getElem? x
    have e:(Tryz.f3.params.toList.all λu=>!Tryz.prog.wantsStandIn u)=true:=by kernel_rfl
    exact(show Tryz.prog.wantsStandIn t=false by simpa using awA.1 e t w)⟩)
  (by kernel_rfl)
#print axioms layoutCost_card
end Go.Proofs.YtjnaciiebeflnaaGreatDoor
