/-
  The law of the claim returns true at every input, and its argument reads as it did: the tied card. No condition.
-/
import Derived.Test.YtgfeljaimmnmmaaGreatDoorRa1
import Derived.Test.YtgfeljaimmnmmaaGreatDoorRa2
import Derived.Test.YtgfeljaimmnmmaaGreatDoorRa3
import Derived.Test.YtgfeljaimmnmmaaGreatDoorRa4
import Derived.Test.YtgfeljaimmnmmaaGreatDoorRa5
import Derived.Test.YtgfeljaimmnmmaaGreatDoorRa6
import Derived.Test.YtgfeljaimmnmmaaGreatDoorTie
import Derived.Test.YtgfeljaimmnmmaaGreatDoorCards
set_option linter.unusedSimpArgs false
set_option linter.unusedVariables false
open Nat renaming reduceEqDiff → γ, reduceAdd → δ, reduceSub → ε, reduceMul → ζ, reduceLT → η, reduceLeDiff → θ, reduceBEq → τ
open Int renaming reduceLT → ι, reduceLE → κ, reduceEq → μ, reduceToNat → ν, reduceAdd → ξ, reduceNeg → ο, reduceBEq → ρ, reduceBNe → σ
open List renaming reduceReplicate → υ
open List renaming length_map → a6K, range → a6L, getElem_mem → a6M, replicate → a6N, length_append → a6T, mem_cons → a6V, length_singleton → a6X, getElem?_eq_getElem → a6Y, all_eq_true → a7B, getD_eq_getElem?_getD → a7C, length_take → a7D, take_of_length_le → a7F, not_mem_nil → a7G, getElem?_map → a7J, map_append → a7L, take_length → a7M, mem_map → a7N, mem_range → a7P, getElem?_eq_some_iff → a7T, append_assoc → a7V, drop_zero → a7W, getElem?_eq_none → a7Z, map_cons → a8B, length_cons → a8D, take_succ_eq_append_getElem → a8E, append_nil → a8H, drop_eq_getElem_cons → a8I, mem_append → a8J, range' → a8K, Sublist → a8L, length_set → a8M, getElem_map → a8P, length_drop → a8Q, map_nil → a8W, getElem?_append_left → a8Z, mem_singleton → a9A, getElem?_append_right → a9B, getElem_of_mem → a9C, mem_of_getElem? → a9D, length_nil → a9F, nodup_append → a9G, set_append_right → a9H, take_append_drop → a9I, ext_getElem → a9R, range_succ → a9U, all_append → a9X, getElem?_take → a9Y, drop_of_length_le → baE, length_filter_le → baF
open Nat renaming gcd → a6O, zero_le → a6Q, le_refl → a6S, mul_add → a6Z, lt_or_ge → a7H, zero_add → a7I, mul_assoc → a7K, mul_comm → a7O, add_mul → a7Q, mul_le_mul_right → a7R, le_trans → a7U, mod_eq_of_lt → a7X, mod_lt → a8A, pow_succ → a8C, add_zero → a8N, eq_zero_or_pos → a8R, min_eq_left → a8S, mul_le_mul_left → a8T, pos_of_ne_zero → a8U, add_assoc → a8X, pow_pos → a9E, pow_le_pow_right → a9J, div_lt_iff_lt_mul → a9M, sub_self → a9N, succ_mul → a9O, div_add_mod → a9Z, div_eq_of_lt → baA, div_le_self → baB
open Bool renaming not_true → a6P, false_and → a6R, true_and → a6W, not_false → a7A, and_eq_true → a7E, and_false → a7S, and_true → a8V, and_assoc → a9L, and_self → a9Q, false_eq_true → a9T
open Option renaming map_eq_some_iff → a6U, map_some → a7Y, some → a8Y, getD_some → a9K, bind_some → a9V, bind_eq_some_iff → baC
open Array renaming replicate → a8F, length_toList → a9P, getElem?_eq_some_iff → a9S, getElem?_eq_getElem → a9W, getD_eq_getD_getElem? → baD
open Int renaming toNat_natCast → a8G, tdiv → a8O
namespace Go.Proofs.YtgfeljaimmnmmaaGreatDoor
open Go Go.PM Go.RowKit Go.ChangeShapes Go.WideShapes
def argKinds:List AT:=[.struct tv,.one (.int .i64),.one (.sl [.int .i64]),.one (.int .i64),.one (.int .i64)]
theorem aNG:FA Tryz.prog 8 Tryz.f5.params.toList=some argKinds:=by kernel_rfl
theorem aPC (c:List PV) (h:AT.TyL argKinds c) (p:∀ v∈c,PV.Len (reachBytes/4) v):aG C 226 c .nil (aF (.bool true)):=by
 match c,h,p with
 | [w,F,H,J,K],h,p =>
  obtain⟨u,d,e,i,l,-⟩:=h;obtain⟨x,rfl,q,-⟩:=arP u (p w (by simp));cases d with | one d =>
  obtain⟨y,rfl,-⟩:=Ty.tX d;cases e with | one e =>
  obtain⟨A,rfl,-,-⟩:=Ty.aFB e;cases i with | one i =>
  obtain⟨B,rfl,-⟩:=Ty.tX i;cases l with | one l =>
  obtain⟨E,rfl,-⟩:=Ty.tX l;exact a3C aUB itoa a2N x q y A B E
theorem Jn (os:Os) (args:Array Value):laidMetH Tryz.prog Rows.copysetRawRow.laid ((World.doorLaid Tryz.prog 400 os).forCall (fun _ _=>0) ⟨#[],args,[]⟩).memory :=
 laidMetH_of_parts3 (fuel:=8) (laidMet_of_run' 8 (by kernel_rfl) (by kernel_rfl)) (by kernel_rfl) (by kernel_rfl)
set_option maxRecDepth 100000 in
theorem akL (os:Os) (c:os.Started) (H:Type) (enc:TypeId × Value→H) :
  ReturnsInHanded {} Tryz.checked os 5 .any (fun w args=>(Rows.copysetRawSpec.pre enc Tryz.prog Tryz.f5 [] false w args∧laidMetH Tryz.prog Rows.copysetRawRow.laid w)∧sizedMet enc Tryz.prog Tryz.f5 (OpenSpec.ofChange Rows.copysetRawSpec) false w args)
   (Rows.copysetRawSpec.post enc Tryz.prog Tryz.f5 false true false false):=by
 refine returnsInHanded_of_change_and (C:=Tryz.checked) (X:=fun w _=>laidMetH Tryz.prog Rows.copysetRawRow.laid w) (fun _ _ _ q h=>h.of_heap q) Tryz.own c (by kernel_rfl) Tryz.func5
  (ChangeSpec.witness_shaped (enc:=enc) (C:=Tryz.checked) (os:=os) (X:=fun w _=>laidMetH Tryz.prog Rows.copysetRawRow.laid w) false (World.doorLaid Tryz.prog 400 os) #[.agg #[.int .i64 0,.slice none 0 0,.slice none 0 0,.slice none 0 0,.slice none 0 0,.slice none 0 0,.slice none 0 0],.int .i64 0,.slice none 0 0,.int .i64 0,.int .i64 0] 8 rfl (World.shaped_of_RefB (by kernel_rfl) (by kernel_rfl)) (by kernel_rfl) (by kernel_rfl) (by kernel_rfl) (Jn os _)) ?_
 intro W base args ds E i e hW _ l _ _;exact F0 (P:=Tryz.prog) (num:=num) (name:=226) (n:=8) (ats:=argKinds) (bt:=4) Tryz.laidOut (by kernel_rfl) (by kernel_rfl) (by kernel_rfl) rfl
  (fun ds p=>by
   match ds,p with
   | [u,x,y,A,B],_=>exact⟨rfl,rfl,rfl⟩)
  (by kernel_rfl) aNG (aTF Tryz.prog (w:=4) (by decide)) aPC e hW (fun j t d a b=>⟨uL l j t d (by rw[a8Z (a7T.1 a).1]; exact a) (by rw[a8Z (a7T.1 b).1]; exact b),8,a7B.1 (show (Tryz.f5.params.toList.all fun t=>vI Tryz.prog 4 8 t)=true by kernel_rfl) t (a9D a)⟩)
theorem gi:Rows.CopysetRawSaid :=
 OpenClaim.holds_of_wide 5 Tryz.f5 rfl rfl rfl rfl rfl rfl rfl ⟨rfl,rfl,rfl,rfl,rfl⟩ rfl rfl rfl rfl rfl (by kernel_rfl) Tryz.func5 (by kernel_rfl)
  (of_decide_eq_true (by kernel_rfl)) (by unfold Func.isWrapper; first | (rw[if_pos (by decide +kernel)]; kernel_rfl) | (rw[if_neg (by decide +kernel)]; exact⟨rfl,rfl⟩))
  (fun os c H enc _=>akL os c H enc)
theorem copysetRaw_card:Rows.CopysetRawCardSaid :=
 Claim7.holds_tied_plain_at .later [] [.data,.data,.data] true (true,"416719fd36fcf2340e9414b63f7ec7fe803d16726753b5c6cccafeac3546cf3e") false
  gi (fun _ h=>by cases h) (by kernel_rfl) (fun _ h=>by cases h) copysetRaw_row_tie rfl ⟨rfl,rfl⟩ (by kernel_rfl) rfl
  (fun f fn e d=>by
   obtain rfl:f=5:=a8Y.inj ((show Tryz.prog.funcNamed Rows.copysetRawRow.func=some 5 by kernel_rfl).symm.trans e) |>.symm
   obtain rfl:fn=Tryz.f5:=(a8Y.inj (Tryz.func5.symm.trans d)).symm;exact⟨by kernel_rfl,fun j t l=>by
    have i:t∈Tryz.f5.params.toList:=by rw[Array.mem_toList_iff];exact Array.mem_of_getElem? l
    have c:(Tryz.f5.params.toList.all fun u=>!Tryz.prog.wantsStandIn u)=true:=by kernel_rfl
    exact (show Tryz.prog.wantsStandIn t=false by simpa using a7B.1 c t i)⟩)
  (by kernel_rfl)
#print axioms copysetRaw_card
end Go.Proofs.YtgfeljaimmnmmaaGreatDoor
