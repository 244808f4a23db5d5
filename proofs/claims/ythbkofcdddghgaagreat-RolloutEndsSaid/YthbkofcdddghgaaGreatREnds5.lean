/-
  Texts of ours, joined: RwL4 RwL5 RwL6 RwL7 RfW4 R2Code R2W1 R2W2 R2W3 R2W4 R2W5 R2W6 R2W7 R2W8 R3W1 R3W2 R3W3 R8W1 R10W1 R10W2 R10W3 R10W4 R10P1 R10W5 R10W6 R10W7 R10W8 R10W9 R10W10 R10W11 R10W12 Jw1. No condition.
-/
import Derived.Test.YthbkofcdddghgaaGreatREnds1
import Derived.Test.YthbkofcdddghgaaGreatREnds2
import Derived.Test.YthbkofcdddghgaaGreatREnds3
import Derived.Test.YthbkofcdddghgaaGreatREnds4

set_option linter.unusedSimpArgs false
set_option linter.unusedVariables false
open Nat renaming reduceEqDiff → γ, reduceAdd → δ, reduceSub → ε, reduceMul → ζ, reduceLT → η, reduceLeDiff → θ, reduceBEq → τ
open Int renaming reduceLT → ι, reduceLE → κ, reduceEq → μ, reduceToNat → ν, reduceAdd → ξ, reduceNeg → ο, reduceBEq → ρ, reduceBNe → σ
open List renaming reduceReplicate → υ
open List renaming length_map → bIM, range → bIN, replicate → bIP, getElem_mem → bIR, length_append → bIU, getElem?_eq_getElem → bIW, mem_cons → bJA, length_singleton → bJC, take_of_length_le → bJD, length_take → bJF, getD_eq_getElem?_getD → bJG, all_eq_true → bJJ, append_assoc → bJM, take_length → bJN, drop_zero → bJO, getElem?_map → bJQ, not_mem_nil → bJR, mem_map → bJT, mem_singleton → bJU, getElem?_eq_some_iff → bJX, mem_append → bJY, getElem?_eq_none → bJZ, mem_range → bKB, drop_eq_getElem_cons → bKG, length_cons → bKH, length_set → bKI, map_append → bKJ, take_succ_eq_append_getElem → bKK, append_nil → bKM, length_drop → bKN, getElem_of_mem → bKQ, Sublist → bKS, getElem?_append_right → bKT, getElem_map → bKU, map_cons → bKV, nodup_append → bKW, length_nil → bKY, take_append_drop → bKZ, getElem?_append_left → bLC, mem_of_getElem? → bLD, nil_append → bLF, getElem?_take → bLP, drop_of_length_le → bLU, flatten_cons → bLV, getElem?_drop → bLW, length_replicate → bLX, set_append_right → bLY, eq_nil_of_length_eq_zero → bLZ, getElem?_take_of_lt → bMA
open Nat renaming le_refl → bIO, gcd → bIQ, zero_le → bIX, mul_add → bIZ, lt_or_ge → bJE, mul_assoc → bJH, mul_comm → bJK, zero_add → bJL, add_mul → bJP, mul_le_mul_right → bJS, mod_eq_of_lt → bJV, mod_lt → bKA, add_zero → bKD, pow_succ → bKE, min_eq_left → bKO, mul_le_mul_left → bKP, pos_of_ne_zero → bKR, add_assoc → bKX, pow_pos → bLA, div_lt_iff_lt_mul → bLG, sub_self → bLH, eq_zero_or_pos → bLK, div_add_mod → bLQ, div_eq_of_lt → bLR
open Bool renaming false_and → bIS, not_true → bIV, true_and → bIY, not_false → bJB, and_eq_true → bJI, and_false → bKC, and_true → bKL, and_assoc → bLJ, false_eq_true → bLL
open Option renaming map_eq_some_iff → bIT, map_some → bJW, some → bLB, getD_some → bLE, bind_eq_some_iff → bLN, bind_some → bLS
open Array renaming replicate → bKF, length_toList → bLI, getElem?_eq_getElem → bLO, getElem?_eq_some_iff → bLT
open Int renaming toNat_natCast → bLM
namespace Go.PM
open Go Go.Na
def jA (W:List (List Int)) (i:Nat):Nat:=((W.take i).map List.length).sum
theorem aWN {W:List (List Int)} {i:Nat} (h:i<W.length):jA W (i+1)=jA W i+W[i].length:=by
 unfold jA
 rw[bKK h,bKJ,List.sum_append]
 simp
theorem avQ {W:List (List Int)} (i:Nat):jA W i≤W.flatten.length:=by
 unfold jA
 rw[← List.length_flatten]
 exact QM W i
theorem a3V (W:List (List Int)):jA W W.length=W.flatten.length:=by
 unfold jA
 rw[bJN,List.length_flatten]
theorem OT {W:List (List Int)} (hn:W.flatten.Nodup) {p:Int} {i k:Nat} (h1:1≤p) (h5:p≤5) (hi:i<W.length) (hk:k=if p=3∨p=4 then i+1 else i):(rU W p i).length=jA W k:=by
 unfold rU
 rw[if_neg Om,boM hn]
 have:tM W.length p i=k:=by
  unfold tM
  rw[if_pos Om,hk,bLM]
 rw[this]; rfl
def leS (f:aL) (L W:List (List Int)) (e:Int):Spec:=fun name vs=>match name,vs with
 | 24,[.int _ x,.int _ n]=>some ([],fun _=>aE (.int .i64 (wi x n)))
 | 263,_=>some ([],fun _=>aE (.tup [lists W,.int .i64 e]))
 | 26,_=>some ([],fun _=>aE (.bool true))
 | 146,[_,.agg [.int _ p,.int _ w]]=>some ([],fun _=>aE (ints (rU W p w)))
 | _,_=>none
theorem mV {H:PH} {a b:Nat} {x:cP} (h:H a=some x) (k:H b=none):¬ a=b∧¬ b=a:=⟨(fun e=>by rw[e,k] at h; cases h),fun e=>by rw[e,h] at k; cases k⟩
def phN (n i:Nat):Int:=if i<n then 1 else 4
def wvN (n i:Nat):Int:=if i<n then (i:Int) else (n:Int)-1
structure bjS (C:Ctx):Prop extends a3H C where
 waves:∀ (f:aL) (now:List (List Int)) (r:Int),f.Ok→jH now→aD C 263 [.agg f.cells,lay now,.int .i64 r] .nil (aE (wvT f now r))
 begin:∀ n:Int,aD C 144 [.int .i64 n] .nil (aE (qC n))
 step:∀ n p w e:Int,aD C 145 [.int .i64 n,.agg [.int .i64 p,.int .i64 w],.int .i64 e] .nil (aE (jD (fY n p w e)))
 upd:∀ (ws:List (List Int)) (p w:Int),ws.length≤1000000→ws.flatten.length≤1000000→aD C 146 [lists ws,.agg [.int .i64 p,.int .i64 w]] .nil (aE (ints (rU ws p w)))
set_option maxHeartbeats 2000000 in
theorem beL {C:Ctx} (Lb:bjS C) (l:List Int) (T:TpM l) (rv fv:Int) :
  FN.wp C (aU abF.res (aE (.bool true))) (PF.args [ints l,.int .i64 rv,.int .i64 fv]) .nil:=by
 have hC:=btM l
 have bIA:1≤(fM l).bGI.length:=EN l 3 0
 simp only[go_sem,γ,δ,ε,ζ,η,θ,ι,κ,μ,ν,ξ,ο,ρ,σ,τ,υ,reduceIte,reduceCtorEq,FN,azQ,azR,abF]
 refine fD (Lb.made l T) Sq PH.nil_le ?_
 rintro _ _ ⟨o,rfl,rfl⟩ hap
 obtain⟨R,hR⟩:∃ R,aEE l=R:=⟨_,rfl⟩
 rw[hR]
 generalize aYK l=L at *
 generalize fM l=f at *
 generalize PH.eN PH.nil PH.nil _=H0
 have hd:=(VF.of hC.val).small.bGI
 simp only[go_sem,γ,δ,ε,ζ,η,θ,ι,κ,μ,ν,ξ,ο,ρ,σ,τ,υ,reduceIte,reduceCtorEq]
 refine aQ fun o7 ho7=>?_
 obtain⟨A,hA⟩:∃ A,cP.rows 9 [f.cells++[lay L,ints R]]=A:=⟨_,rfl⟩
 have b7:(H0.set o7 (.rows 9 [f.cells++[lay L,ints R]])) o7=some (.rows 9 [f.cells++[lay L,ints R]]):=by rw[dM]
 simp only[go_sem,γ,δ,ε,ζ,η,θ,ι,κ,μ,ν,ξ,ο,ρ,σ,τ,υ,reduceIte,reduceCtorEq,List.cons_append,bLF,bJA,bJR,or_false,forall_eq,forall_eq_or_imp]
 generalize hHe:H0.set o7 (.rows 9 [f.cells++[lay L,ints R]])=H at *
 rw[show (H0.set o7 (.rows 9 [[PV.int IntKind.i64 f.bHW,PV.sl 4 (List.map cI.cells f.bGR),PV.sl 4 (List.map cS.cells f.bGJ),PV.sl 7 (List.map bR.cells f.bGL),PV.sl 3 (List.map cC.cells f.bGI),PV.sl 17 (List.map cY.cells f.bGM),PV.sl 2 (List.map dZ.cells f.bGK),lay L,ints R]]))=H from hHe]
 have hr:=buU rv (show (1:Int)≤2 by decide)
 have hu:=hC.usable hr.1 (Om:wi rv 2≤4)
 have cw:=Lb.waves f L (wi rv 2) hC.ok hC.lay
 have hle7:=PH.aI (H:=PH.nil) (PH.nil_le (H:=H)) b7
 have hw:=a1S f L (wi rv 2)
 refine bT (PH.nil.set o7 (.rows 9 [f.cells++[lay L,ints R]])) (leS f L (kC f L (wi rv 2)) (oC f L (wi rv 2))) hle7 ?_
 simp only[go_sem,γ,δ,ε,ζ,η,θ,ι,κ,μ,ν,ξ,ο,ρ,σ,τ,υ,reduceIte,reduceCtorEq,azS,b7,List.cons_append,bLF]
 refine bK rfl (Lb.within rv 2 bAQ) Ev hle7 ?_
 simp only[go_sem,γ,δ,ε,ζ,η,θ,ι,κ,μ,ν,ξ,ο,ρ,σ,τ,υ,reduceIte,reduceCtorEq,b7,List.cons_append,bLF]
 refine bK rfl cw Ev hle7 ?_
 by_cases c:oC f L (wi rv 2)≠0
 ·simp only[go_sem,γ,δ,ε,ζ,η,θ,ι,κ,μ,ν,ξ,ο,ρ,σ,τ,υ,reduceIte,reduceCtorEq,wvT,VS,cT c,azT]
  refine aA Lb.awak Ev ?_
  simp only[go_sem,γ,δ,ε,ζ,η,θ,ι,κ,μ,ν,ξ,ο,ρ,σ,τ,υ,reduceIte,reduceCtorEq,cT c]
  refine aM (.inr rfl) Ev ?_
  rfl
 have c:oC f L (wi rv 2)=0:=Decidable.not_not.1 c
 obtain⟨-,ha⟩:=KI c
 have e1:kC f L (wi rv 2)=oN f L (wi rv 2) f.bGI.length:=by unfold kC; rw[if_pos c]
 have k:=yM ha f.bGI.length (bIO _)
 rw[← e1] at k
 have hnd:=k.nd
 have hfl:=k.len
 generalize kC f L (wi rv 2)=W at *
 clear k e1 cw ha hu hr
 have hW1:1≤W.length:=by
  cases W with
  | nil=>simp at hfl; omega
  | cons w W=>rw[bKH]; omega
 have cu:∀ p w:Int,aD C 146 [lists W,.agg [.int .i64 p,.int .i64 w]] .nil (aE (ints (rU W p w))):=fun p w=>Lb.upd W p w Om Om
 have w2:IntKind.i64.wrap (2*((W.length:Nat):Int))=((2*W.length:Nat):Int):=by rw[wrap_i64 Om Om]; omega
 have cwi:=Lb.within fv ((2*W.length:Nat):Int) (by unfold InK; rw[show IntKind.i64.min=-9223372036854775808 by decide,show IntKind.i64.max=9223372036854775807 by decide]; omega)
 simp only[go_sem,γ,δ,ε,ζ,η,θ,ι,κ,μ,ν,ξ,ο,ρ,σ,τ,υ,reduceIte,reduceCtorEq,wvT,c,VS,bIM,bP (show (0:Int)=0 from rfl),bF (Om:((W.length:Nat):Int)≠0),azU,w2]
 refine aA cwi Ev ?_
 generalize wi fv ((2*W.length:Nat):Int)=fl at *
 simp only[go_sem,γ,δ,ε,ζ,η,θ,ι,κ,μ,ν,ξ,ο,ρ,σ,τ,υ,reduceIte,reduceCtorEq,azV,bIM]
 refine aA (Lb.begin (W.length:Nat)) Ev ?_
 have eb:qC (W.length:Nat)=.agg [.int .i64 1,.int .i64 0]:=by unfold qC; rw[if_neg Om]
 simp only[go_sem,γ,δ,ε,ζ,η,θ,ι,κ,μ,ν,ξ,ο,ρ,σ,τ,υ,reduceIte,reduceCtorEq,eb]
 refine aQ fun os hos=>?_
 obtain⟨n7s,ns7⟩:=mV b7 hos
 have b7s:(H.set os (.rows 2 [[.int .i64 1,.int .i64 0]])) o7=some (.rows 9 [f.cells++[lay L,ints R]]):=by rw[bH,if_neg n7s]; exact b7
 have bss:(H.set os (.rows 2 [[.int .i64 1,.int .i64 0]])) os=some (.rows 2 [[.int .i64 1,.int .i64 0]]):=by rw[dM]
 have hn:phN W.length 0=1∧wvN W.length 0=0:=by
  unfold phN wvN
  rw[if_pos Om,if_pos Om]; exact⟨rfl,rfl⟩
 simp only[go_sem,γ,δ,ε,ζ,η,θ,ι,κ,μ,ν,ξ,ο,ρ,σ,τ,υ,reduceIte,reduceCtorEq,azW,azX,bJA,bJR,or_false,forall_eq,forall_eq_or_imp]
 generalize H.set os (.rows 2 [[.int .i64 1,.int .i64 0]])=H1 at *
 refine wp_loop (α:=Nat × PH) (fun s=>((((((PF.nil.set 2 (.int .i64 fl)).set 7 (.ptr o7 9 0 0)).set 9 (lists W)).set 11 (.ptr os 2 0 0)).set 12 (.int .i64 (jA W s.1:Nat))).set 13 (.int .i64 s.1))) (fun s=>s.2) (fun s=>s.1≤W.length∧s.2 o7=some (.rows 9 [f.cells++[lay L,ints R]])∧s.2 os=some (.rows 2 [[.int .i64 (phN W.length s.1),.int .i64 (wvN W.length s.1)]])) (fun s=>W.length-s.1) (0,H1)
  ⟨bIX _,b7s,by rw[hn.1,hn.2]; exact bss⟩ (by (repeat' (first|exact PF.nil_le|refine PF.aI ?_ ?_))<;>first|(simp only[go_sem,γ,δ,ε,ζ,η,θ,ι,κ,μ,ν,ξ,ο,ρ,σ,τ,υ,reduceIte,reduceCtorEq,jA,List.take_zero,List.map_nil,List.sum_nil]<;>rfl)|rfl) PH.le_refl ?_
 clear hn bss b7s hos n7s ns7 b7 hle7 hHe
 rintro⟨i,H⟩ ⟨hi,b7,bs⟩
 simp only at hi b7 bs ⊢
 have hnss:¬ o7=os∧¬ os=o7:=⟨(fun e=>by rw[e,bs] at b7; cases b7),fun e=>by rw[← e,bs] at b7; cases b7⟩
 obtain⟨m1,m2⟩:=hnss
 simp only[go_sem,γ,δ,ε,ζ,η,θ,ι,κ,μ,ν,ξ,ο,ρ,σ,τ,υ,reduceIte,reduceCtorEq,amI,azY,bIM]
 by_cases hlt:i<W.length
 ·have bGP:(i:Int)<(W.length:Nat):=by omega
  have hat:(W.map fun w=>[ints w])[i]?=some [ints W[i]]:=by simp[hlt]
  have hds:=aWN hlt
  have hdl:=avQ (W:=W) (i+1)
  have hdl0:=avQ (W:=W) i
  have ep:phN W.length i=1∧wvN W.length i=i:=by
   unfold phN wvN
   rw[if_pos hlt,if_pos hlt]; exact⟨rfl,rfl⟩
  have u1:=OT hnd (p:=1) (k:=i) (by decide) (by decide) hlt (by rw[if_neg (by decide)])
  have u2:=OT hnd (p:=2) (k:=i) (by decide) (by decide) hlt (by rw[if_neg (by decide)])
  have u3:=OT hnd (p:=3) (k:=i+1) (by decide) (by decide) hlt (by rw[if_pos (by decide)])
  have u5:=OT hnd (p:=5) (k:=i) (by decide) (by decide) hlt (by rw[if_neg (by decide)])
  have s1:fY (W.length:Nat) 1 i 1=((2,(i:Int)),0):=by unfold fY; rw[if_neg Om,if_pos (by decide)]
  have s2:fY (W.length:Nat) 2 i 2=((3,(i:Int)),0):=by unfold fY; rw[if_neg Om,if_neg (by decide),if_pos (by decide)]
  have s4:fY (W.length:Nat) 3 i 4=((5,(i:Int)),0):=by
   unfold fY; rw[if_neg Om,if_neg (by decide),if_neg (by decide),if_neg Om,if_neg (by decide),if_pos (by decide)]
  have s5:fY (W.length:Nat) 5 i 1=((0,0),110):=by
   unfold fY; rw[if_neg Om,if_neg (by decide),if_neg (by decide),if_neg Om,if_neg (by decide),if_neg (by decide)]
  have s3:fY (W.length:Nat) 3 i 3=((phN W.length (i+1),wvN W.length (i+1)),0):=by
   have wn:IntKind.i64.wrap (((W.length:Nat):Int)-1)=((W.length:Nat):Int)-1:=wrap_i64 Om Om
   have wi1:IntKind.i64.wrap ((i:Int)+1)=((i+1:Nat):Int):=dE Om
   unfold fY phN wvN
   rw[if_neg Om,if_neg (by decide),if_neg (by decide),wn,wi1]
   by_cases cl:i+1<W.length
   ·rw[if_neg Om,if_pos (by decide),if_pos cl,if_pos cl]
   ·rw[if_pos Om,if_neg cl,if_neg cl]
    have:(i:Int)=((W.length:Nat):Int)-1:=by omega
    rw[this]
  rw[ep.1,ep.2] at bs
  clear ep
  simp only[go_sem,γ,δ,ε,ζ,η,θ,ι,κ,μ,ν,ξ,ο,ρ,σ,τ,υ,reduceIte,reduceCtorEq,bGP,amJ,bs,bP (show (1:Int)=1 from rfl),bP (show (i:Int)=i from rfl)]
  refine aA (cu 1 i) Ev ?_
  simp only[go_sem,γ,δ,ε,ζ,η,θ,ι,κ,μ,ν,ξ,ο,ρ,σ,τ,υ,reduceIte,reduceCtorEq,bIM,u1,bP (show ((jA W i:Nat):Int)=(jA W i:Nat) from rfl),amK,bs]
  refine aA (Lb.step (W.length:Nat) 1 i 1) Ev ?_
  rw[s1]
  simp only[go_sem,γ,δ,ε,ζ,η,θ,ι,κ,μ,ν,ξ,ο,ρ,σ,τ,υ,reduceIte,reduceCtorEq,jD,stV]
  refine aQ fun oa hoa=>?_
  obtain⟨a1,a2⟩:=mV b7 hoa
  obtain⟨a3,a4⟩:=mV bs hoa
  simp only[go_sem,γ,δ,ε,ζ,η,θ,ι,κ,μ,ν,ξ,ο,ρ,σ,τ,υ,reduceIte,reduceCtorEq,bJA,bJR,or_false,forall_eq,forall_eq_or_imp]
  obtain⟨Ha,hHa⟩:∃ Ha,H.set oa (.rows 2 [[.int .i64 2,.int .i64 i]])=Ha:=⟨_,rfl⟩
  have ba:Ha oa=some (.rows 2 [[.int .i64 2,.int .i64 i]]):=by rw[← hHa,dM]
  have ba7:Ha o7=some (.rows 9 [f.cells++[lay L,ints R]]):=by rw[← hHa,bH,if_neg a1]; exact b7
  have bas:Ha os=some (.rows 2 [[.int .i64 1,.int .i64 i]]):=by rw[← hHa,bH,if_neg a3]; exact bs
  rw[hHa]
  simp only[go_sem,γ,δ,ε,ζ,η,θ,ι,κ,μ,ν,ξ,ο,ρ,σ,τ,υ,reduceIte,reduceCtorEq,amL,ba,bP (show (0:Int)=0 from rfl)]
  refine aA (cu 2 i) Ev ?_
  simp only[go_sem,γ,δ,ε,ζ,η,θ,ι,κ,μ,ν,ξ,ο,ρ,σ,τ,υ,reduceIte,reduceCtorEq,bIM,u2,bP (show ((jA W i:Nat):Int)=(jA W i:Nat) from rfl),amM,ba]
  refine aA (Lb.step (W.length:Nat) 2 i 2) Ev ?_
  rw[s2]
  simp only[go_sem,γ,δ,ε,ζ,η,θ,ι,κ,μ,ν,ξ,ο,ρ,σ,τ,υ,reduceIte,reduceCtorEq,jD,stV]
  refine aQ fun ob hob=>?_
  obtain⟨c1,c2⟩:=mV ba7 hob
  obtain⟨c3,c4⟩:=mV bas hob
  simp only[go_sem,γ,δ,ε,ζ,η,θ,ι,κ,μ,ν,ξ,ο,ρ,σ,τ,υ,reduceIte,reduceCtorEq,bJA,bJR,or_false,forall_eq,forall_eq_or_imp]
  obtain⟨Hb,hHb⟩:∃ Hb,Ha.set ob (.rows 2 [[.int .i64 3,.int .i64 i]])=Hb:=⟨_,rfl⟩
  have bb:Hb ob=some (.rows 2 [[.int .i64 3,.int .i64 i]]):=by rw[← hHb,dM]
  have bb7:Hb o7=some (.rows 9 [f.cells++[lay L,ints R]]):=by rw[← hHb,bH,if_neg c1]; exact ba7
  have bbs:Hb os=some (.rows 2 [[.int .i64 1,.int .i64 i]]):=by rw[← hHb,bH,if_neg c3]; exact bas
  rw[hHb]
  refine bT .nil (leS f L W 0) PH.nil_le ?_
  simp only[go_sem,γ,δ,ε,ζ,η,θ,ι,κ,μ,ν,ξ,ο,ρ,σ,τ,υ,reduceIte,reduceCtorEq,amN,bb,bP (show (0:Int)=0 from rfl)]
  refine bK rfl (cu 3 i) Ev PH.nil_le ?_
  have wd:IntKind.i64.wrap (((jA W i:Nat):Int)+((W[i].length:Nat):Int))=((jA W (i+1):Nat):Int):=by
   rw[wrap_i64 Om Om]; omega
  simp only[go_sem,γ,δ,ε,ζ,η,θ,ι,κ,μ,ν,ξ,ο,ρ,σ,τ,υ,reduceIte,reduceCtorEq,bIM,u3,hat,wd,bP (show ((jA W (i+1):Nat):Int)=(jA W (i+1):Nat) from rfl),amO]
  by_cases cf:(i:Int)=fl
  ·simp only[go_sem,γ,δ,ε,ζ,η,θ,ι,κ,μ,ν,ξ,ο,ρ,σ,τ,υ,reduceIte,reduceCtorEq,LO,bS cf,amP,LP,bb,bIM]
   refine aA (Lb.step (W.length:Nat) 3 i 4) Ev ?_
   rw[s4]
   simp only[go_sem,γ,δ,ε,ζ,η,θ,ι,κ,μ,ν,ξ,ο,ρ,σ,τ,υ,reduceIte,reduceCtorEq,jD,stV]
   refine aQ fun oc hoc=>?_
   simp only[go_sem,γ,δ,ε,ζ,η,θ,ι,κ,μ,ν,ξ,ο,ρ,σ,τ,υ,reduceIte,reduceCtorEq,bJA,bJR,or_false,forall_eq,forall_eq_or_imp]
   obtain⟨Hc,hHc⟩:∃ Hc,Hb.set oc (.rows 2 [[.int .i64 5,.int .i64 i]])=Hc:=⟨_,rfl⟩
   have bc:Hc oc=some (.rows 2 [[.int .i64 5,.int .i64 i]]):=by rw[← hHc,dM]
   rw[hHc]
   simp only[go_sem,γ,δ,ε,ζ,η,θ,ι,κ,μ,ν,ξ,ο,ρ,σ,τ,υ,reduceIte,reduceCtorEq,LQ,bP (show (0:Int)=0 from rfl),LS,bS cf,amQ,bc,bIM]
   refine aA (Lb.step (W.length:Nat) 5 i 1) Ev ?_
   rw[s5]
   simp only[go_sem,γ,δ,ε,ζ,η,θ,ι,κ,μ,ν,ξ,ο,ρ,σ,τ,υ,reduceIte,reduceCtorEq,jD,stV]
   refine aQ fun oe hoe=>?_
   obtain⟨e1,e2⟩:=mV bc hoe
   simp only[go_sem,γ,δ,ε,ζ,η,θ,ι,κ,μ,ν,ξ,ο,ρ,σ,τ,υ,reduceIte,reduceCtorEq,bJA,bJR,or_false,forall_eq,forall_eq_or_imp,amR]
   refine aA Lb.awak Ev ?_
   simp only[go_sem,γ,δ,ε,ζ,η,θ,ι,κ,μ,ν,ξ,ο,ρ,σ,τ,υ,reduceIte,reduceCtorEq,bc,e1,e2]
   refine aA (cu 5 i) Ev ?_
   simp only[go_sem,γ,δ,ε,ζ,η,θ,ι,κ,μ,ν,ξ,ο,ρ,σ,τ,υ,reduceIte,reduceCtorEq,bIM,u5,bS (show ((jA W i:Nat):Int)=(jA W i:Nat) from rfl)]
   refine aM (.inr rfl) Ev ?_
   rfl
  ·simp only[go_sem,γ,δ,ε,ζ,η,θ,ι,κ,μ,ν,ξ,ο,ρ,σ,τ,υ,reduceIte,reduceCtorEq,LO,bF cf,LP,bb,bIM]
   refine aA (Lb.step (W.length:Nat) 3 i 3) Ev ?_
   rw[s3]
   obtain⟨ph,hph⟩:∃ ph,phN W.length (i+1)=ph:=⟨_,rfl⟩
   obtain⟨wv,hwv⟩:∃ wv,wvN W.length (i+1)=wv:=⟨_,rfl⟩
   rw[hph,hwv]
   simp only[go_sem,γ,δ,ε,ζ,η,θ,ι,κ,μ,ν,ξ,ο,ρ,σ,τ,υ,reduceIte,reduceCtorEq,jD,stV]
   refine aQ fun oc hoc=>?_
   obtain⟨g1,g2⟩:=mV bb7 hoc
   obtain⟨g3,g4⟩:=mV bbs hoc
   simp only[go_sem,γ,δ,ε,ζ,η,θ,ι,κ,μ,ν,ξ,ο,ρ,σ,τ,υ,reduceIte,reduceCtorEq,bJA,bJR,or_false,forall_eq,forall_eq_or_imp]
   obtain⟨Hc,hHc⟩:∃ Hc,Hb.set oc (.rows 2 [[.int .i64 ph,.int .i64 wv]])=Hc:=⟨_,rfl⟩
   have bc:Hc oc=some (.rows 2 [[.int .i64 ph,.int .i64 wv]]):=by rw[← hHc,dM]
   have bc7:Hc o7=some (.rows 9 [f.cells++[lay L,ints R]]):=by rw[← hHc,bH,if_neg g1]; exact bb7
   have bcs:Hc os=some (.rows 2 [[.int .i64 1,.int .i64 i]]):=by rw[← hHc,bH,if_neg g3]; exact bbs
   rw[hHc]
   simp only[go_sem,γ,δ,ε,ζ,η,θ,ι,κ,μ,ν,ξ,ο,ρ,σ,τ,υ,reduceIte,reduceCtorEq,LQ,bP (show (0:Int)=0 from rfl),LS,bF cf,amS,hat,bIM,wd,amT,bc,bcs,bJA,bJR,or_false,forall_eq,forall_eq_or_imp,amU,wZz i]
   refine aK (i+1,Hc.set os (.rows 2 [[.int .i64 ph,.int .i64 wv]])) ⟨hlt,?_,?_⟩ (by simp only; omega) Lq PH.le_refl
   ·simp only
    rw[bH,if_neg m1]; exact bc7
   ·simp only
    rw[dM,hph,hwv]
 ·have bGP:¬ (i:Int)<(W.length:Nat):=by omega
  have:i=W.length:=by omega
  subst this
  have hle7:=PH.aI (H:=PH.nil) (PH.nil_le (H:=H)) b7
  have ep:phN W.length W.length=4∧wvN W.length W.length=((W.length-1:Nat):Int):=by
   unfold phN wvN
   rw[if_neg Om,if_neg Om]; exact⟨rfl,by omega⟩
  have u4:=OT hnd (p:=4) (i:=W.length-1) (k:=W.length) (by decide) (by decide) Om (by rw[if_pos (by decide)]; omega)
  rw[a3V,hfl] at u4
  rw[ep.1,ep.2] at bs
  simp only[go_sem,γ,δ,ε,ζ,η,θ,ι,κ,μ,ν,ξ,ο,ρ,σ,τ,υ,reduceIte,reduceCtorEq,bGP]
  refine bT (PH.nil.set o7 (.rows 9 [f.cells++[lay L,ints R]])) (leS f L W 0) hle7 ?_
  simp only[go_sem,γ,δ,ε,ζ,η,θ,ι,κ,μ,ν,ξ,ο,ρ,σ,τ,υ,reduceIte,reduceCtorEq,amV]
  refine bK rfl Lb.awak Ev hle7 ?_
  simp only[go_sem,γ,δ,ε,ζ,η,θ,ι,κ,μ,ν,ξ,ο,ρ,σ,τ,υ,reduceIte,reduceCtorEq,bs,bS (show (4:Int)=4 from rfl)]
  refine bK rfl (cu 4 ((W.length-1:Nat):Int)) Ev hle7 ?_
  simp only[go_sem,γ,δ,ε,ζ,η,θ,ι,κ,μ,ν,ξ,ο,ρ,σ,τ,υ,reduceIte,reduceCtorEq,b7,bIM,u4,List.cons_append,bLF,bS (show ((f.bGI.length:Nat):Int)=(f.bGI.length:Nat) from rfl)]
  refine aM (.inr rfl) Ev ?_
  rfl
section
variable {C:Ctx} {K:PF→PH→Prop} {F:PF} {H:PH} {B:List BX} {vo v:PV} {ps:WPs} {w:List Int} {i:Nat} {d:Int}
end
structure Sm (m:Nat) (ps:WPs):Prop where
 num:ps.length≤24
 len:∀ p∈ps,p.2.length≤m
theorem Sm.set {m m':Nat} {ps:WPs} (h:Sm m ps) (i:Nat) {v:PV} {w:List Int} (hw:w.length≤m') (hm:m≤m'):Sm m' (ps.set i (v,w)):=by
 refine⟨by rw[bKI]; exact h.num,fun p hp=>?_⟩
 rcases List.mem_or_eq_of_mem_set hp with hp | rfl
 ·have:=h.len p hp; omega
 ·exact hw
theorem aMR (m:Nat):∀ (ws:List (List Int)),(∀ w∈ws,w.length≤m)→ws.flatten.length≤m*ws.length
 | [],_=>by simp
 | w::ws,h=>by
  have h1:=h w (by simp)
  have h2:=aMR m ws fun u hu=>h u (by simp[hu])
  rw[bLV,bIU,bKH,Nat.mul_succ]
  omega
theorem Sm.flat {m:Nat} {ps:WPs} (h:Sm m ps):(wls ps).flatten.length≤m*24:=by
 have h1:=aMR m (wls ps) fun w hw=>by
  obtain⟨p,hp,rfl⟩:=bJT.1 hw
  exact h.len p hp
 rw[ajZ] at h1
 exact Nat.le_trans h1 (bKP _ h.num)

structure bjP (C:Ctx):Prop where
 UU:∀ (f:aL) (v:Nat),VF f→v<f.bGK.length→aD C 156 [.agg f.cells,.int .i64 v] .nil (aE (.int .i64 (fA f v)))
structure bjT (C:Ctx):Prop where
 valid:∀ f:aL,f.Ok→aD C 161 [.agg f.cells] .nil (aE (.bool (dS f)))
 shape:∀ (f:aL) (l:List (List Int)) (v:Nat),VF f→jH l→v<l.length→v<f.bGK.length→aD C 160 [.agg f.cells,lay l,.int .i64 v] .nil (aE (shV (lZ f l v)))
structure bjQ (C:Ctx):Prop where
 valid:∀ f:aL,f.Ok→aD C 67 [.agg f.cells] .nil (aE (.bool (dS f)))
structure bjR (C:Ctx):Prop where
 valid:∀ f:aL,f.Ok→aD C 67 [.agg f.cells] .nil (aE (.bool (dS f)))
 UU:∀ (f:aL) (v:Nat),VF f→v<f.bGK.length→aD C 82 [.agg f.cells,.int .i64 v] .nil (aE (.int .i64 (fA f v)))
 bad:∀ (f:aL) (row:List Int),row.length≤16777216→aD C 89 [.agg f.cells,ints row] .nil (aE (.int .i64 (CY f row)))
theorem aZU {C:Ctx} (L:bjP C) (f:aL) (hV:VF f) (l:List (List Int)) (hl:jH l) (v:Nat) (hv:v<l.length) (hvf:v<f.bGK.length) :
  zZ.wp C (aU wP.res (bZ (shV (lZ f l v)))) (PF.args [.agg f.cells,lay l,.int .i64 v]) .nil:=by
 have hr:(l.map fun r=>[ints r])[v]?=some [ints l[v]]:=by simp[hv]
 have hg:l.getD v []=l[v]:=by simp[bJG,hv]
 have hrl:(l[v]).length≤16777216:=by
  have h1:=awB l (v+1)
  have:=hl.all
  rw[KO l hv,bIU] at h1
  omega
 unfold lZ
 rw[hg]
 simp only[go_sem,γ,δ,ε,ζ,η,θ,ι,κ,μ,ν,ξ,ο,ρ,σ,τ,υ,reduceIte,reduceCtorEq,zZ,aoY]
 refine aQ fun o ho=>?_
 simp only[go_sem,γ,δ,ε,ζ,η,θ,ι,κ,μ,ν,ξ,ο,ρ,σ,τ,υ,reduceIte,reduceCtorEq]
 refine bT .nil (toS f) PH.nil_le ?_
 generalize l[v]=row at *
 have fin:∀ (x:atV) (F:PF) (H:PH),F 6=some (.ptr o 3 0 0)→F 7=some (.bool true)→H o=some (.rows 3 [x.cells])→aU wP.res (bZ (shV (some x))) .ret F H:=by
  intro x F H h6 h7 hH
  refine aW (.inr rfl) .nil (vs:=[.agg x.cells,.bool true]) ?_ PH.nil_le ⟨.refl _,rfl⟩
  simp only[go_sem,γ,δ,ε,ζ,η,θ,ι,κ,μ,ν,ξ,ο,ρ,σ,τ,υ,reduceIte,reduceCtorEq,wP,h6,h7,hH]
 simp only[go_sem,γ,δ,ε,ζ,η,θ,ι,κ,μ,ν,ξ,ο,ρ,σ,τ,υ,reduceIte,reduceCtorEq,aoZ,hr,bIM]
 refine bK (bgY f v) (L.UU f v hV hvf) Ev PH.nil_le ?_
 by_cases c:((row.length:Nat):Int)=fA f v
 ·rw[if_pos c]
  simp only[go_sem,γ,δ,ε,ζ,η,θ,ι,κ,μ,ν,ξ,ο,ρ,σ,τ,υ,reduceIte,reduceCtorEq,bP c,apB,hr,bIM]
  refine wp_loop (α:=Nat) (fun k=>bhA f o v row k) (fun k=>PH.nil.set o (.rows 3 [[.int .i64 0,.int .i64 0,.int .i64 0]])) (fun k=>k≤row.length∧fO (jQ f) row 0=fO (jQ f) (row.drop k) k) (fun k=>row.length-k) 0 ⟨bIX _,rfl⟩ ?_ PH.le_refl ?_
  ·unfold bhA
   (repeat' (first|exact PF.nil_le|refine PF.aI ?_ ?_))<;>first|(simp only[go_sem,γ,δ,ε,ζ,η,θ,ι,κ,μ,ν,ξ,ο,ρ,σ,τ,υ,reduceIte,reduceCtorEq,bIM]<;>rfl)|rfl
  rintro k ⟨hk,hb⟩
  simp only[go_sem,γ,δ,ε,ζ,η,θ,ι,κ,μ,ν,ξ,ο,ρ,σ,τ,υ,reduceIte,reduceCtorEq,aoX,apC,bhA]
  by_cases hlt:k<row.length
  ·have bGP:(k:Int)<(row.length:Nat):=by omega
   have hrk:(row.map fun n=>[PV.int .i64 n])[k]?=some [.int .i64 row[k]]:=by simp[hlt]
   have hdr:fO (jQ f) (row.drop k) k=if jQ f row[k] then some k else fO (jQ f) (row.drop (k+1)) (k+1):=by
    rw[bKG hlt,fO]
   rw[hdr] at hb
   by_cases c1:row[k] < -1
   ·have hbd:jQ f row[k]=true:=by simp[jQ,c1]
    rw[hbd] at hb
    simp only[go_sem,γ,δ,ε,ζ,η,θ,ι,κ,μ,ν,ξ,ο,ρ,σ,τ,υ,reduceIte,reduceCtorEq,bGP,yD,hrk,yE,c1,OF]
    rw[hb]
    exact fin ⟨1,v,k⟩ _ _ Sq Sq Sq
   ·by_cases c2:row[k]≥(f.bGI.length:Nat)
    ·have hbd:jQ f row[k]=true:=by simp[jQ,c2]
     rw[hbd] at hb
     simp only[go_sem,γ,δ,ε,ζ,η,θ,ι,κ,μ,ν,ξ,ο,ρ,σ,τ,υ,reduceIte,reduceCtorEq,bGP,yD,hrk,yE,c1,bIM,c2,OF]
     rw[hb]
     exact fin ⟨1,v,k⟩ _ _ Sq Sq Sq
    ·have hbd:jQ f row[k]=false:=by simp[jQ]; omega
     rw[hbd] at hb
     simp only[go_sem,γ,δ,ε,ζ,η,θ,ι,κ,μ,ν,ξ,ο,ρ,σ,τ,υ,reduceIte,reduceCtorEq,bGP,yD,hrk,yE,c1,bIM,c2,apD,wZz k]
     refine aK (k+1) ⟨hlt,hb⟩ Om ?_ PH.le_refl
     exact Lq
  ·have bGP:¬ (k:Int)<(row.length:Nat):=by omega
   have:k=row.length:=by omega
   subst this
   rw[List.drop_length,fO] at hb
   simp only[go_sem,γ,δ,ε,ζ,η,θ,ι,κ,μ,ν,ξ,ο,ρ,σ,τ,υ,reduceIte,reduceCtorEq,bGP,adQ]
   rw[hb]
   refine aW (.inr rfl) .nil (vs:=[.agg [.int .i64 0,.int .i64 0,.int .i64 0],.bool false]) ?_ PH.nil_le ⟨.refl _,rfl⟩
   simp only[go_sem,γ,δ,ε,ζ,η,θ,ι,κ,μ,ν,ξ,ο,ρ,σ,τ,υ,reduceIte,reduceCtorEq,wP]
 ·rw[if_neg c]
  simp only[go_sem,γ,δ,ε,ζ,η,θ,ι,κ,μ,ν,ξ,ο,ρ,σ,τ,υ,reduceIte,reduceCtorEq,cT c,apA,hr,bIM]
  exact fin ⟨1,v,(row.length:Nat)⟩ _ _ Sq Sq Sq
theorem aKV {C:Ctx} (L:bjT C) (f:aL) (hf:f.Ok) (l:List (List Int)) (hl:jH l) :
  wO.wp C (aU CJ.res (bZ (.bool (jC f l)))) (PF.args [.agg f.cells,lay l]) .nil:=by
 simp only[go_sem,γ,δ,ε,ζ,η,θ,ι,κ,μ,ν,ξ,ο,ρ,σ,τ,υ,reduceIte,reduceCtorEq,wO,adG,adH,CJ]
 refine aA (L.valid f hf) Ev ?_
 unfold jC
 have hlr:=hl.rows
 cases hv:dS f with
 | false =>
  simp only[go_sem,γ,δ,ε,ζ,η,θ,ι,κ,μ,ν,ξ,ο,ρ,σ,τ,υ,reduceIte,reduceCtorEq,bJB,HC]
  exact bA Ev (by simp only[bIS])
 | true =>
  have hV:=VF.of hv
  by_cases c:l.length=f.bGK.length
  ·have c':(((l.length:Nat):Int) != ((f.bGK.length:Nat):Int))=false:=bP Om
   rw[decide_eq_true c]
   simp only[go_sem,γ,δ,ε,ζ,η,θ,ι,κ,μ,ν,ξ,ο,ρ,σ,τ,υ,reduceIte,reduceCtorEq,bIV,bIM,c',adI]
   generalize hq:(fun v=>(lZ f l v).isNone)=q
   refine wp_loop (α:=Nat) (fun k=>tSF f l k) (fun _=>.nil) (fun k=>k≤l.length∧mI q k) (fun k=>l.length-k) 0 ⟨bIX _,.zero⟩ ?_ PH.nil_le ?_
   ·unfold tSF
    (repeat' (first|exact PF.nil_le|refine PF.aI ?_ ?_))<;>first|(simp only[go_sem,γ,δ,ε,ζ,η,θ,ι,κ,μ,ν,ξ,ο,ρ,σ,τ,υ,reduceIte,reduceCtorEq,bIM]<;>rfl)|rfl
   rintro k ⟨hk,ha⟩
   simp only[go_sem,γ,δ,ε,ζ,η,θ,ι,κ,μ,ν,ξ,ο,ρ,σ,τ,υ,reduceIte,reduceCtorEq,TE,adJ,tSF]
   by_cases hlt:k<l.length
   ·have bGP:(k:Int)<(l.length:Nat):=by omega
    have hqk:q k=(lZ f l k).isNone:=by rw[← hq]
    simp only[go_sem,γ,δ,ε,ζ,η,θ,ι,κ,μ,ν,ξ,ο,ρ,σ,τ,υ,reduceIte,reduceCtorEq,bGP,adK,adL]
    refine aA (L.shape f l k hV hl hlt Om) Ev ?_
    cases hs:lZ f l k with
    | some x =>
     rw[hs] at hqk
     simp only[go_sem,γ,δ,ε,ζ,η,θ,ι,κ,μ,ν,ξ,ο,ρ,σ,τ,υ,reduceIte,reduceCtorEq,shV]
     refine aQ fun o ho=>?_
     simp only[go_sem,γ,δ,ε,ζ,η,θ,ι,κ,μ,ν,ξ,ο,ρ,σ,τ,υ,reduceIte,reduceCtorEq,HD,adM]
     exact bA (b:=false) Ev (by rw[show (bIN l.length).all q=false from dN hlt hqk])
    | none =>
     rw[hs] at hqk
     simp only[go_sem,γ,δ,ε,ζ,η,θ,ι,κ,μ,ν,ξ,ο,ρ,σ,τ,υ,reduceIte,reduceCtorEq,shV]
     refine aQ fun o ho=>?_
     simp only[go_sem,γ,δ,ε,ζ,η,θ,ι,κ,μ,ν,ξ,ο,ρ,σ,τ,υ,reduceIte,reduceCtorEq,HD,adN,wZz k]
     refine aK (k+1) ⟨hlt,ha.step hqk⟩ Om ?_ PH.nil_le
     exact Lq
   ·have bGP:¬ (k:Int)<(l.length:Nat):=by omega
    have:k=l.length:=by omega
    subst this
    simp only[go_sem,γ,δ,ε,ζ,η,θ,ι,κ,μ,ν,ξ,ο,ρ,σ,τ,υ,reduceIte,reduceCtorEq,bGP,TF]
    exact bA (b:=true) Ev (by rw[show (bIN l.length).all q=true from ha])
  ·have c':(((l.length:Nat):Int) != ((f.bGK.length:Nat):Int))=true:=cT Om
   simp only[go_sem,γ,δ,ε,ζ,η,θ,ι,κ,μ,ν,ξ,ο,ρ,σ,τ,υ,reduceIte,reduceCtorEq,bIV,bIM,c',HC]
   exact bA Ev (by rw[decide_eq_false c]; simp only[bIS])
theorem aKT {C:Ctx} (L:bjR C) (f:aL) (hf:f.Ok) (l:List (List Int)) (hl:jH l) :
  wM.wp C (aU CI.res (aE (.bool (jC f l)))) (PF.args [.agg f.cells,lay l]) .nil:=by
 simp only[go_sem,γ,δ,ε,ζ,η,θ,ι,κ,μ,ν,ξ,ο,ρ,σ,τ,υ,reduceIte,reduceCtorEq,wM,acY,acZ,CI]
 refine aA (L.valid f hf) Sq ?_
 unfold jC
 have hlr:=hl.rows
 cases hv:dS f with
 | false =>
  simp only[go_sem,γ,δ,ε,ζ,η,θ,ι,κ,μ,ν,ξ,ο,ρ,σ,τ,υ,reduceIte,reduceCtorEq,bJB,GZ]
  refine aM (.inr rfl) Ev ?_
  simp[aX]
 | true =>
  have hV:=VF.of hv
  by_cases c:l.length=f.bGK.length
  ·have c':(((l.length:Nat):Int) != ((f.bGK.length:Nat):Int))=false:=bP Om
   rw[decide_eq_true c]
   simp only[go_sem,γ,δ,ε,ζ,η,θ,ι,κ,μ,ν,ξ,ο,ρ,σ,τ,υ,reduceIte,reduceCtorEq,bIV,bIM,c',adA]
   generalize hq:(fun v=>(lZ f l v).isNone)=q
   refine wp_loop (α:=Nat) (fun k=>(((PF.nil.set 1 (lay l)).set 2 (.bJ f.cells)).set 5 (.int .i64 k))) (fun _=>.nil) (fun k=>k≤l.length∧mI q k) (fun k=>l.length-k) 0 ⟨bIX _,.zero⟩ Lq PH.nil_le ?_
   rintro k ⟨hk,ha⟩
   simp only[go_sem,γ,δ,ε,ζ,η,θ,ι,κ,μ,ν,ξ,ο,ρ,σ,τ,υ,reduceIte,reduceCtorEq,acX,adB,bIM]
   by_cases hlt:k<l.length
   ·have bGP:(k:Int)<(l.length:Nat):=by omega
    have hqk:q k=(decide (((l[k]).length:Int)=fA f k)&&!decide (CY f l[k]≥0)):=by
     rw[← hq,← show l.getD k []=l[k] by simp[bJG,hlt]]; exact a7W f l k
    have hrl:(l[k]).length≤16777216:=by
     have h1:=awB l (k+1)
     have:=hl.all
     rw[KO l hlt,bIU] at h1
     omega
    have hat:(l.map fun r=>[ints r])[k]?=some [ints l[k]]:=by simp[hlt]
    generalize l[k]=row at *
    simp only[go_sem,γ,δ,ε,ζ,η,θ,ι,κ,μ,ν,ξ,ο,ρ,σ,τ,υ,reduceIte,reduceCtorEq,bGP]
    refine bT .nil (ssS f row) PH.nil_le ?_
    simp only[go_sem,γ,δ,ε,ζ,η,θ,ι,κ,μ,ν,ξ,ο,ρ,σ,τ,υ,reduceIte,reduceCtorEq,adC,hat,bIM]
    refine bK (bgV f row k) (L.UU f k hV Om) Sq PH.nil_le ?_
    by_cases c1:((row.length:Nat):Int)=fA f k
    ·rw[decide_eq_true c1,bIY] at hqk
     simp only[go_sem,γ,δ,ε,ζ,η,θ,ι,κ,μ,ν,ξ,ο,ρ,σ,τ,υ,reduceIte,reduceCtorEq,bP c1,hat]
     refine bK (show ssS f row 89 [.agg f.cells,ints row]=some ([],fun _=>aE (.int .i64 (CY f row))) from rfl) (L.bad f row hrl) Sq PH.nil_le ?_
     by_cases c2:CY f row≥0
     ·rw[decide_eq_true c2] at hqk
      simp only[go_sem,γ,δ,ε,ζ,η,θ,ι,κ,μ,ν,ξ,ο,ρ,σ,τ,υ,reduceIte,reduceCtorEq,c2,HA]
      refine aM (.inr rfl) Ev ?_
      rw[aX,show (bIN l.length).all q=false from dN hlt hqk]
     ·rw[decide_eq_false c2] at hqk
      simp only[go_sem,γ,δ,ε,ζ,η,θ,ι,κ,μ,ν,ξ,ο,ρ,σ,τ,υ,reduceIte,reduceCtorEq,c2,adD,wZz k]
      exact aK (k+1) ⟨hlt,ha.step hqk⟩ Om Lq PH.nil_le
    ·rw[decide_eq_false c1,bIS] at hqk
     simp only[go_sem,γ,δ,ε,ζ,η,θ,ι,κ,μ,ν,ξ,ο,ρ,σ,τ,υ,reduceIte,reduceCtorEq,cT c1,HA]
     refine aM (.inr rfl) Ev ?_
     rw[aX,show (bIN l.length).all q=false from dN hlt hqk]
   ·have bGP:¬ (k:Int)<(l.length:Nat):=by omega
    have:k=l.length:=by omega
    subst this
    simp only[go_sem,γ,δ,ε,ζ,η,θ,ι,κ,μ,ν,ξ,ο,ρ,σ,τ,υ,reduceIte,reduceCtorEq,bGP,adE]
    refine aM (.inr rfl) Ev ?_
    rw[aX,show (bIN l.length).all q=true from ha]
  ·have c':(((l.length:Nat):Int) != ((f.bGK.length:Nat):Int))=true:=cT Om
   simp only[go_sem,γ,δ,ε,ζ,η,θ,ι,κ,μ,ν,ξ,ο,ρ,σ,τ,υ,reduceIte,reduceCtorEq,bIV,bIM,c',GZ]
   refine aM (.inr rfl) Ev ?_
   rw[aX,decide_eq_false c]; simp
theorem aEU {C:Ctx} (L:bjQ C) (f:aL) (hf:f.Ok) (room:List Int) :
  GY.wp C (aU acW.res (kI 1 (bE (acS f room)))) (PF.args [.agg f.cells,ints room]) .nil:=by
 simp only[go_sem,γ,δ,ε,ζ,η,θ,ι,κ,μ,ν,ξ,ο,ρ,σ,τ,υ,reduceIte,reduceCtorEq,GY,aEV,aEW,acW]
 refine aA (L.valid f hf) Sq ?_
 unfold acS
 cases hv:dS f with
 | false =>
  simp only[go_sem,γ,δ,ε,ζ,η,θ,ι,κ,μ,ν,ξ,ο,ρ,σ,τ,υ,reduceIte,reduceCtorEq,bJB,aEX]
  exact CD (.inr rfl) Ev
 | true =>
  have hV:=VF.of hv
  have hd24:=hV.small.bGI
  have hRl:=NR f room
  simp only[go_sem,γ,δ,ε,ζ,η,θ,ι,κ,μ,ν,ξ,ο,ρ,σ,τ,υ,reduceIte,reduceCtorEq,bIV,aEY,aEZ]
  refine wp_loop (α:=Nat × PV × PH) (fun t=>((((PF.nil.set 1 (ints room)).set 2 (.bJ f.cells)).set 5 (t.2.1)).set 6 (.int .i64 t.1))) (fun t=>t.2.2) (fun t=>t.1≤f.bGI.length∧bM t.2.2 1 t.2.1 (bE ((fF f room).take t.1))) (fun t=>f.bGI.length-t.1) (0,.aB,.nil) ⟨bIX _,.nil⟩ Lq PH.nil_le ?_
  rintro⟨k,v,H0⟩ ⟨hk,hO⟩
  simp only at hk hO ⊢
  simp only[go_sem,γ,δ,ε,ζ,η,θ,ι,κ,μ,ν,ξ,ο,ρ,σ,τ,υ,reduceIte,reduceCtorEq,aoW,aFA,bIM]
  by_cases hlt:k<f.bGI.length
  ·have bGP:(k:Int)<(f.bGI.length:Nat):=by omega
   obtain⟨hm,he⟩:=hV.a4E hlt
   have hmo:=hV.model _ (bIR hm)
   rw[he] at hmo
   have h11:(1:Nat)*1≤16777216:=by decide
   have bHE:=aZF f room hlt
   have rest:∀ (x:Int) (F:PF),x=qT f room k→((((((PF.nil.set 1 (ints room)).set 2 (.bJ f.cells)).set 5 (v)).set 6 (.int .i64 k)).set 7 (.int .i64 x)):PF).le F →
     aC.wp C (.region WV) (dX 1 (iH C (aC.wp C (.region OB)) (eF (fun t:Nat × PV × PH=>((((PF.nil.set 1 (ints room)).set 2 (.bJ f.cells)).set 5 (t.2.1)).set 6 (.int .i64 t.1))) (fun t=>t.2.2) (fun t=>t.1≤f.bGI.length∧bM t.2.2 1 t.2.1 (bE ((fF f room).take t.1))) (fun t=>f.bGI.length-t.1) (f.bGI.length-k) (dX 0 (iH C (aC.wp C (.seq (.region OC) .ret)) (aU [.tmp 4] (bZ (ints (fF f room))))))))) F H0:=by
    intro x F hx hF
    refine sI _ (fun _ _ _ _ a b=>Up.up a b) hF ?_
    simp only[go_sem,γ,δ,ε,ζ,η,θ,ι,κ,μ,ν,ξ,ο,ρ,σ,τ,υ,reduceIte,reduceCtorEq,WV,h11]
    refine fR (src:=[[.int .i64 x]]) hO Sq (by unfold roomFor; rw[cZ,bJF]; simp only[bJC,maxLen]; omega) fun v' H' hO' _=>?_
    rw[aXQ,hx,← bHE] at hO'
    simp only[go_sem,γ,δ,ε,ζ,η,θ,ι,κ,μ,ν,ξ,ο,ρ,σ,τ,υ,reduceIte,reduceCtorEq,OB,wZz k]
    exact aK (k+1,v',H') ⟨hlt,hO'⟩ (by simp only; omega) Lq PH.le_refl
   simp only[aC.wp,go_sem] at rest
   simp only[go_sem,γ,δ,ε,ζ,η,θ,ι,κ,μ,ν,ξ,ο,ρ,σ,τ,υ,reduceIte,reduceCtorEq,bGP]
   refine bT .nil eG PH.nil_le ?_
   simp only[go_sem,γ,δ,ε,ζ,η,θ,ι,κ,μ,ν,ξ,ο,ρ,σ,τ,υ,reduceIte,reduceCtorEq,aFB,akY hlt,hV.bqS hlt,a5N hm,he]
   by_cases c:room.length=f.bGI.length
   ·have hrk:k<room.length:=by omega
    have hrr:(room.map fun n=>[PV.int .i64 n])[k]?=some [.int .i64 room[k]]:=by simp[hrk]
    simp only[go_sem,γ,δ,ε,ζ,η,θ,ι,κ,μ,ν,ξ,ο,ρ,σ,τ,υ,reduceIte,reduceCtorEq,WU,bIM,bS (Om:((room.length:Nat):Int)=(f.bGI.length:Nat)),aFC,hrr,max_eq,bmI]
    refine rest _ _ ?_ Lq
    rw[qT,if_pos c,bmH Om,bJG,bIW hrk,bLE]
   ·simp only[go_sem,γ,δ,ε,ζ,η,θ,ι,κ,μ,ν,ξ,ο,ρ,σ,τ,υ,reduceIte,reduceCtorEq,WU,bIM,bF (Om:((room.length:Nat):Int)≠(f.bGI.length:Nat))]
    refine rest _ _ ?_ Lq
    rw[qT,if_neg c]
  ·have bGP:¬ (k:Int)<(f.bGI.length:Nat):=by omega
   have:k=f.bGI.length:=by omega
   subst this
   rw[← hRl,bJN] at hO
   simp only[go_sem,γ,δ,ε,ζ,η,θ,ι,κ,μ,ν,ξ,ο,ρ,σ,τ,υ,reduceIte,reduceCtorEq,bGP,OC]
   exact GQ (.inr rfl) hO Sq
def apL:Rg:=[iZ 4]
def apM:Rg:=[iZ 5]
def apN:Rg:=[iA 6 (.mv (.const (.int .u64 0)))]
def apO:Rg:=[iI 7 0]
def apP:Rg:=[iM 10 7,iM 11 0,iN 12 11,iB 13 .lss 10 12]
def apQ:Rg:=[iM 16 6,iM 8 16]
def apR:Rg:=[iM 17 7,iM 18 1,iN 19 18,iB 20 .lss 17 19]
def apS:Rg:=[iM 21 8,iM 22 1,iM 23 7,iX 24 1 22 23,iL 25 24,iA 26 (.conv .u64 (Tm 25)),iB 27 .add 21 26,iM 8 27]
def OP:Rg:=[iM 28 0,iM 29 7,iX 30 1 28 29,iL 31 30,iA 32 (.conv .u64 (Tm 31)),iM 9 32]
def OQ:Rg:=[iA 6 (.mv (.const (.int .u64 0)))]
def HM:Rg:=[iM 33 9,iM 34 8,iB 35 .lss 33 34]
def HN:Rg:=[iM 36 9,iA 37 (.bin .add (Tm 36) (.const (.int .u64 4294967296))),iM 9 37]
def HO:Rg:=[iA 6 (.mv (.const (.int .u64 1)))]
def uH:Rg:=[iM 38 5,iM 39 9,iM 40 8,iB 41 .sub 39 40,iA 42 (.conv .u32 (Tm 41)),iA 43 (.bGO true 1 1 [(.int .u32 0)] [(0,(Tm 42))]),iA 44 (.append 1 4 (Tm 38) (Tm 43)),iM 5 44]
def uI:Rg:=[iM 14 7,iC 15 .add 14 1,iM 7 15]
def aeB:aC:=(.seq (sq apP (.cond (Tm 13) .skip (.exit 0))) (.seq (.block 1 (sq apQ (.seq (sq apR (.cond (Tm 20) (.region apS) .skip)) (sq OP (sq OQ (.seq (sq HM (.cond (Tm 35) (sq HN (.region HO)) .skip)) (.region uH))))))) (.region uI)))
def aeC:Rg:=[iM 45 5,iK 46 38 45,iM 4 46]
def AO:aC:=(sq apL (sq apM (sq apN (.seq (sq apO (.block 0 (.loop aeB))) (sq aeC .ret)))))
def a8J:List Nat:=[43]
def OO:aV:=⟨2,47,AO,[.tmp 4]⟩
def aGW:Rg:=[iZ 4]
def aGX:Rg:=[iZ 5]
def aGY:Rg:=[iA 6 (.mv (.const (.int .u64 0)))]
def aGZ:Rg:=[iI 7 0]
def aHA:Rg:=[iM 9 7,iM 10 0,iN 11 10,iB 12 .lss 9 11,iM 13 12,gM 14 7 13 false,gM 15 1 13 false,gN 16 15 13 false,gB 17 .lss 14 16 13 false,iQ 18 13 17,iM 19 18,gM 20 6 19 false,iG 21 (.bin .gtr (Tm 20) (.const (.int .u64 0))) 19 false,iQ 22 19 21]
def XA:Rg:=[iM 25 6,iM 8 25]
def XB:Rg:=[iM 26 7,iM 27 0,iN 28 27,iB 29 .lss 26 28]
def XC:Rg:=[iM 30 8,iM 31 0,iM 32 7,iX 33 1 31 32,iL 34 33,iA 35 (.conv .u64 (Tm 34)),iB 36 .add 30 35,iM 8 36]
def HQ:Rg:=[iM 37 7,iM 38 1,iN 39 38,iB 40 .lss 37 39]
def HR:Rg:=[iM 41 8,iM 42 1,iM 43 7,iX 44 1 42 43,iL 45 44,iA 46 (.conv .u64 (Tm 45)),iB 47 .add 41 46,iM 8 47]
def yH:Rg:=[iM 48 5,iM 49 8,iA 50 (.conv .u32 (Tm 49)),iA 51 (.bGO true 1 1 [(.int .u32 0)] [(0,(Tm 50))]),iA 52 (.append 1 4 (Tm 48) (Tm 51)),iM 5 52]
def yI:Rg:=[iM 53 8,iA 54 (.bin .shr (Tm 53) (.const (.int .u64 32))),iM 6 54]
def yJ:Rg:=[iM 23 7,iC 24 .add 23 1,iM 7 24]
def apT:aC:=(.seq (sq aHA (.cond (Tm 22) .skip (.exit 0))) (.seq (.block 1 (sq XA (.seq (sq XB (.cond (Tm 29) (.region XC) .skip)) (.seq (sq HQ (.cond (Tm 40) (.region HR) .skip)) (sq yH (.region yI)))))) (.region yJ)))
def OV:Rg:=[iM 55 5,iK 56 38 55,iM 4 56]
def HP:aC:=(sq aGW (sq aGX (sq aGY (.seq (sq aGZ (.block 0 (.loop apT))) (sq OV .ret)))))
def bhO:List Nat:=[51]
def aeD:aV:=⟨2,57,HP,[.tmp 4]⟩
def apU:Rg:=[iZ 4]
def apV:Rg:=[iM 10 0,iN 11 10,iM 12 1,iN 13 12,iB 14 .add 11 13,iA 15 (.bGS 1 4 [(.int .u32 0)] (Tm 14) (Tm 14)),iM 5 15]
def apW:Rg:=[iI 6 0]
def apX:Rg:=[iM 16 6,iM 17 0,iN 18 17,iB 19 .lss 16 18]
def OZ:Rg:=[iA 7 (.mv (.const (.int .u64 0)))]
def PA:Rg:=[iI 8 0]
def apY:Rg:=[iM 22 8,iM 23 1,iN 24 23,iB 25 .lss 22 24]
def apZ:Rd:=[(iM 28 0,false),(iM 29 6,false),(iX 30 1 28 29,false),(iL 31 30,false),(iA 32 (.conv .u64 (Tm 31)),false),(iM 33 1,false),(iM 34 8,false),(iX 35 1 33 34,false),(iL 36 35,false),(iA 37 (.conv .u64 (Tm 36)),false),(iB 38 .mul 32 37,false),(iM 39 5,false),(iM 40 6,false),(iM 41 8,false),(iB 42 .add 40 41,false),(iX 43 1 39 42,false),(iL 44 43,false),(iA 45 (.conv .u64 (Tm 44)),false),(iB 46 .add 38 45,false),(iM 47 7,false),(iB 48 .add 46 47,false),(iM 9 48,false)]
def aqA:Rg:=[iM 49 5,iM 50 6,iM 51 8,iB 52 .add 50 51,iM 53 9,iA 54 (.conv .u32 (Tm 53)),iX 55 1 49 52,iS 1 55 54]
def aqB:Rg:=[iM 56 9,iA 57 (.bin .shr (Tm 56) (.const (.int .u64 32))),iM 7 57]
def aeF:Rg:=[iM 26 8,iC 27 .add 26 1,iM 8 27]
def HS:aC:=(.seq (sq apY (.cond (Tm 25) .skip (.exit 2))) (.seq (.block 3 (dq apZ (sq aqA (.region aqB)))) (.region aeF)))
def HT:Rg:=[iM 58 5,iM 59 6,iM 60 1,iN 61 60,iB 62 .add 59 61,iM 63 7,iA 64 (.conv .u32 (Tm 63)),iX 65 1 58 62,iS 1 65 64]
def aeG:Rg:=[iM 20 6,iC 21 .add 20 1,iM 6 21]
def aeE:aC:=(.seq (sq apX (.cond (Tm 19) .skip (.exit 0))) (.seq (.block 1 (sq OZ (.seq (sq PA (.block 2 (.loop HS))) (.region HT)))) (.region aeG)))
def aeH:Rg:=[iM 66 5,iK 67 38 66,iM 4 67]
def AP:aC:=(sq apU (sq apV (.seq (sq apW (.block 0 (.loop aeE))) (sq aeH .ret))))
def a8L:List Nat:=[]
def OY:aV:=⟨2,68,AP,[.tmp 4]⟩
def aRZ:Rg:=[iZ 4,iI 5 0]
def aSA:Rg:=[iM 7 0,iK 8 41 7,iM 9 8,gM 10 1 9 false,gK 11 41 10 9 false,iQ 12 9 11]
def ajN:Rg:=[iZ 4,iI 5 2]
def aSB:Rg:=[iM 13 0,iK 14 38 13,iM 15 1,iK 16 38 15,iK2 17 43 14 16,iM 6 17]
def aSC:Rg:=[iM 18 6,iK 19 41 18]
def aSD:Rg:=[iZ 4,iI 5 2]
def aSE:Rg:=[iM 20 6,iM 4 20,iI 5 0]
def OH:aC:=(sq aRZ (.seq (sq aSA (.cond (Tm 12) (sq ajN .ret) .skip)) (sq aSB (.seq (sq aSC (.cond (Tm 19) (sq aSD .ret) .skip)) (sq aSE .ret)))))
def bnZ:List Nat:=[]
def aFP:aV:=⟨2,21,OH,[.tmp 4,.tmp 5]⟩
def aTL:Rg:=[iZ 4,iI 5 0]
def aTM:Rg:=[iM 6 0,iK 7 41 6,iM 8 7,gM 9 1 8 false,gK 10 41 9 8 false,iQ 11 8 10]
def ajT:Rg:=[iZ 4,iI 5 2]
def aTN:Rg:=[iM 12 0,iM 13 1,iK2 14 32 12 13,iC 15 .lss 14 0]
def aTO:Rg:=[iZ 4,iI 5 4]
def aTP:Rg:=[iM 16 0,iK 17 38 16,iM 18 1,iK 19 38 18,iK2 20 42 17 19,iM 4 20,iI 5 0]
def OX:aC:=(sq aTL (.seq (sq aTM (.cond (Tm 11) (sq ajT .ret) .skip)) (.seq (sq aTN (.cond (Tm 15) (sq aTO .ret) .skip)) (sq aTP .ret))))
def boO:List Nat:=[]
def aHB:aV:=⟨2,21,OX,[.tmp 4,.tmp 5]⟩
def aTD:Rg:=[iZ 4,iI 5 0]
def aTE:Rg:=[iM 7 0,iK 8 41 7,iM 9 8,gM 10 1 9 false,gK 11 41 10 9 false,iQ 12 9 11]
def ajQ:Rg:=[iZ 4,iI 5 2]
def aTF:Rg:=[iM 13 0,iK 14 38 13,iM 15 1,iK 16 38 15,iK2 17 44 14 16,iM 6 17]
def aTG:Rg:=[iM 18 6,iK 19 41 18]
def aTH:Rg:=[iZ 4,iI 5 2]
def aTI:Rg:=[iM 20 6,iM 4 20,iI 5 0]
def OR:aC:=(sq aTD (.seq (sq aTE (.cond (Tm 12) (sq ajQ .ret) .skip)) (sq aTF (.seq (sq aTG (.cond (Tm 19) (sq aTH .ret) .skip)) (sq aTI .ret)))))
def boH:List Nat:=[]
def aGT:aV:=⟨2,21,OR,[.tmp 4,.tmp 5]⟩
def aFS:Rg:=[iI 2 0]
def aFT:Rg:=[iM 5 0,iK 6 38 5,iM 0 6]
def aFU:Rg:=[iM 7 0,iN 8 7,iC 9 .eql 8 0]
def aFV:Rg:=[iI 2 0]
def aFW:Rg:=[iM 10 0,iN 11 10,iC 12 .sub 11 1,iA 13 (.bin .mul (Ci 32) (Tm 12)),iM 3 13]
def aFX:Rg:=[iM 14 0,iM 15 0,iN 16 15,iC 17 .sub 16 1,iX 18 1 14 17,iL 19 18,iM 4 19]
def aFY:Rg:=[iM 20 4,iA 21 (.bin .gtr (Tm 20) (.const (.int .u32 0)))]
def aFZ:Rg:=[iM 24 3,iC 25 .add 24 1,iM 3 25]
def aGA:Rg:=[iM 22 4,iA 23 (.bin .quo (Tm 22) (.const (.int .u32 2))),iM 4 23]
def aFR:aC:=(.seq (sq aFY (.cond (Tm 21) .skip (.exit 0))) (.seq (.block 1 (.region aFZ)) (.region aGA)))
def apG:Rg:=[iM 26 3,iM 2 26]
def HG:aC:=(sq aFS (sq aFT (.seq (sq aFU (.cond (Tm 9) (sq aFV .ret) .skip)) (sq aFW (.seq (sq aFX (.block 0 (.loop aFR))) (sq apG .ret))))))
def bhC:List Nat:=[]
def adR:aV:=⟨1,27,HG,[.tmp 2]⟩
def a8M:Rg:=[iZ 4]
def a8N:Rg:=[iM 9 0,iN 10 9,iC 11 .eql 10 0]
def a8O:Rg:=[iZ 4]
def a8P:Rg:=[iM 12 1,iC 13 .quo 12 32,iA 14 (.bGS 1 4 [(.int .u32 0)] (Tm 13) (Tm 13)),iM 5 14]
def a8Q:Rg:=[iA 6 (.mv (.const (.int .u64 0)))]
def a8R:Rg:=[iI 7 0]
def a8S:Rg:=[iM 15 7,iM 16 0,iN 17 16,iB 18 .lss 15 17]
def a8T:Rg:=[iM 21 0,iM 22 7,iX 23 1 21 22,iL 24 23,iA 25 (.conv .u64 (Tm 24)),iM 26 1,iC 27 .rem 26 32,iA 28 (.conv .u64 (Tm 27)),iB 29 .shl 25 28,iM 30 6,iB 31 .or 29 30,iM 8 31]
def a8U:Rg:=[iM 32 5,iM 33 8,iA 34 (.conv .u32 (Tm 33)),iA 35 (.bGO true 1 1 [(.int .u32 0)] [(0,(Tm 34))]),iA 36 (.append 1 4 (Tm 32) (Tm 35)),iM 5 36]
def a8V:Rg:=[iM 37 8,iA 38 (.bin .shr (Tm 37) (.const (.int .u64 32))),iM 6 38]
def aTR:Rg:=[iM 19 7,iC 20 .add 19 1,iM 7 20]
def aTQ:aC:=(.seq (sq a8S (.cond (Tm 18) .skip (.exit 0))) (.seq (.block 1 (sq a8T (sq a8U (.region a8V)))) (.region aTR)))
def aTS:Rg:=[iM 39 5,iM 40 6,iA 41 (.conv .u32 (Tm 40)),iA 42 (.bGO true 1 1 [(.int .u32 0)] [(0,(Tm 41))]),iA 43 (.append 1 4 (Tm 39) (Tm 42)),iK 44 38 43,iM 4 44]
def XE:aC:=(sq a8M (.seq (sq a8N (.cond (Tm 11) (sq a8O .ret) .skip)) (sq a8P (sq a8Q (.seq (sq a8R (.block 0 (.loop aTQ))) (sq aTS .ret))))))
def brS:List Nat:=[35,42]
def uup:aV:=⟨2,45,XE,[.tmp 4]⟩
def aGH:Rg:=[iZ 4]
def aGI:Rg:=[iM 8 1,iC 9 .quo 8 32,iM 10 0,iN 11 10,iB 12 .geq 9 11]
def aGJ:Rg:=[iZ 4]
def aGK:Rg:=[iZ 5]
def aGL:Rg:=[iM 13 1,iC 14 .quo 13 32,iM 6 14]
def aGM:Rg:=[iM 15 6,iM 16 0,iN 17 16,iB 18 .lss 15 17]
def aGN:Rg:=[iM 21 0,iM 22 6,iX 23 1 21 22,iL 24 23,iA 25 (.conv .u64 (Tm 24)),iM 7 25]
def aGO:Rg:=[iM 26 6,iC 27 .add 26 1,iM 28 0,iN 29 28,iB 30 .lss 27 29]
def aGP:Rg:=[iM 31 7,iM 32 0,iM 33 6,iC 34 .add 33 1,iX 35 1 32 34,iL 36 35,iA 37 (.conv .u64 (Tm 36)),iA 38 (.bin .shl (Tm 37) (.const (.int .u64 32))),iB 39 .or 31 38,iM 7 39]
def WY:Rg:=[iM 40 5,iM 41 7,iM 42 1,iC 43 .rem 42 32,iA 44 (.conv .u64 (Tm 43)),iB 45 .shr 41 44,iA 46 (.conv .u32 (Tm 45)),iA 47 (.bGO true 1 1 [(.int .u32 0)] [(0,(Tm 46))]),iA 48 (.append 1 4 (Tm 40) (Tm 47)),iM 5 48]
def OL:Rg:=[iM 19 6,iC 20 .add 19 1,iM 6 20]
def apH:aC:=(.seq (sq aGM (.cond (Tm 18) .skip (.exit 0))) (.seq (.block 1 (sq aGN (.seq (sq aGO (.cond (Tm 30) (.region aGP) .skip)) (.region WY)))) (.region OL)))
def apI:Rg:=[iM 49 5,iK 50 38 49,iM 4 50]
def HK:aC:=(sq aGH (.seq (sq aGI (.cond (Tm 12) (sq aGJ .ret) .skip)) (sq aGK (.seq (sq aGL (.block 0 (.loop apH))) (sq apI .ret)))))
def bhG:List Nat:=[47]
def adZ:aV:=⟨2,51,HK,[.tmp 4]⟩
def aqU:Rg:=[iA 1 (.box true (Tm 0)),iT 2 false]
def aqV:Rg:=[iF 3 2 1,iL 4 3,iK 5 38 4,iN 6 5,iC 7 .gtr 6 0,iM 8 7,gF 9 2 1 8 true,gL 10 9 8 true,gK 11 38 10 8 true,gN 12 11 8 true,gC 13 .leq 12 128 8 true,iP 14 8 13,iM 15 14,gF 16 1 1 15 true,gL 17 16 15 true,gK 18 38 17 15 true,gN 19 18 15 true,gC 20 .leq 19 128 15 true,iP 21 15 20,iM 2 21]
def AU:aC:=(sq aqU (sq aqV .ret))
def baA:List Nat:=[1]
def PK:aV:=⟨1,22,AU,[.tmp 2]⟩
def aqF:Rg:=[iA 1 (.box true (Tm 0)),iT 2 false]
def aqG:Rg:=[iF 3 1 1,iL 4 3,iN 5 4,iC 6 .gtr 5 128,iM 7 6,gF 8 2 1 7 false,gL 9 8 7 false,gN 10 9 7 false,gC 11 .gtr 10 128 7 false,iQ 12 7 11,iM 2 12]
def AQ:aC:=(sq aqF (sq aqG .ret))
def a9J:List Nat:=[1]
def PE:aV:=⟨1,13,AQ,[.tmp 2]⟩
def aHL:Rg:=[iA 1 (.box true (Tm 0)),iA 2 (.alloc [(.bool false),.aB,.aB]),iI 3 0]
def aHM:Rg:=[iO 4 3 1,iK 5 48 4]
def aHN:Rg:=[iA 6 (.build [(.bool false),.aB,.aB] []),iS 3 2 6,iI 3 2]
def aHO:Rg:=[iO 7 3 1,iS 3 2 7,iI 3 0]
def HV:aC:=(sq aHL (.seq (sq aHM (.cond (Tm 5) (sq aHN .ret) .skip)) (sq aHO .ret)))
def biE:List Nat:=[1]
def aeJ:aV:=⟨1,8,HV,[.cell 2 (some 3),.tmp 3]⟩
def aeS:Rg:=[iA 1 (.box true (Tm 0)),iA 2 (.alloc [(.bool false),.aB,.aB]),iI 3 0]
def aeT:Rg:=[iO 4 3 1,iK 5 56 4,iA 6 (.un .not (Tm 5))]
def aeU:Rg:=[iA 7 (.build [(.bool false),.aB,.aB] []),iS 3 2 7,iI 3 1]
def aeV:Rg:=[iF 8 0 1,iL 9 8,iF 10 1 1,iL 11 10,iF 12 2 1,iL 13 12,iA 14 (.call 58 [(Tm 9),(Tm 11),(Tm 13)]),iS 3 2 14,iI 3 0]
def wU:aC:=(sq aeS (.seq (sq aeT (.cond (Tm 6) (sq aeU .ret) .skip)) (sq aeV .ret)))
def a0X:List Nat:=[1]
def CO:aV:=⟨1,15,wU,[.cell 2 (some 3),.tmp 3]⟩
def aqR:Rg:=[iZ 4]
def aqS:Rg:=[iM 8 0,iM 9 1,iK2 10 36 8 9,iM 7 10,iE 11 7 0,iE 12 7 1,iM 5 11,iM 6 12]
def aqT:Rg:=[iM 13 5,iM 4 13]
def AS:aC:=(sq aqR (sq aqS (sq aqT .ret)))
def a9Y:List Nat:=[]
def PJ:aV:=⟨2,14,AS,[.tmp 4]⟩
def aqH:Rg:=[iA 2 (.box true (Tm 0)),iA 3 (.box true (Tm 1)),iI 4 0]
def aqI:Rd:=[(iF 9 1 2,false),(iL 10 9,false),(iF 11 2 3,false),(iL 12 11,false),(iK2 13 60 10 12,true),(iF 14 1 3,true),(iL 15 14,true),(iF 16 2 2,true),(iL 17 16,true),(iK2 18 60 15 17,true),(iM 5 13,false),(iM 6 18,false)]
def aqJ:Rg:=[iF 19 0 2,iL 20 19,iM 21 20,gM 22 5 21 true,gN 23 22 21 true,gC 24 .gtr 23 0 21 true,iP 25 21 24,iF 26 0 3,iL 27 26,iM 28 27,gM 29 6 28 true,gN 30 29 28 true,gC 31 .gtr 30 0 28 true,iP 32 28 31,iM 7 25,iM 8 32]
def aqK:Rg:=[iM 34 7,iM 35 34,gM 36 8 35 true,iG 37 (.un .not (Tm 36)) 35 true,iP 38 35 37,iM 33 38]
def aqL:Rg:=[iI 4 (-1)]
def aqM:Rg:=[iM 40 8,iM 41 40,gM 42 7 41 true,iG 43 (.un .not (Tm 42)) 41 true,iP 44 41 43,iM 39 44]
def aqN:Rg:=[iI 4 1]
def aqO:Rg:=[iM 46 7,iM 45 46]
def aqP:Rg:=[iM 47 6,iM 48 5,iK2 49 32 47 48,iM 4 49]
def aqQ:Rg:=[iM 50 5,iM 51 6,iK2 52 32 50 51,iM 4 52]
def AR:aC:=(sq aqH (dq aqI (sq aqJ (.seq (.block 0 (sq aqK (.cond (Tm 33) (sq aqL .ret) (sq aqM (.cond (Tm 39) (sq aqN .ret) (sq aqO (.cond (Tm 45) (sq aqP .ret) .skip))))))) (sq aqQ .ret)))))
def a9L:List Nat:=[2,3]
def PG:aV:=⟨2,53,AR,[.tmp 4]⟩
def aHR:Rg:=[iA 2 (.box true (Tm 0)),iA 3 (.box true (Tm 1)),iT 4 false]
def aHS:Rg:=[iO 5 3 2,iO 6 3 3,iK2 7 51 5 6,iC 8 .lss 7 0,iM 4 8]
def HW:aC:=(sq aHR (sq aHS .ret))
def biH:List Nat:=[2,3]
def aeL:aV:=⟨2,9,HW,[.tmp 4]⟩
def aIC:Rg:=[iA 2 (.box true (Tm 0)),iA 3 (.box true (Tm 1)),iT 4 false]
def aID:Rg:=[iO 5 3 2,iO 6 3 3,iK2 7 51 5 6,iC 8 .eql 7 0,iM 4 8]
def IB:aC:=(sq aIC (sq aID .ret))
def biL:List Nat:=[2,3]
def aeW:aV:=⟨2,9,IB,[.tmp 4]⟩
def aIE:Rg:=[iA 1 (.box true (Tm 0)),iI 2 0]
def aIF:Rd:=[(iO 3 3 1,true),(iA 4 (.call 47 [(Ci 0)]),true),(iK2 5 51 3 4,true),(iM 2 5,false)]
def IC:aC:=(sq aIE (dq aIF .ret))
def biN:List Nat:=[1]
def aeX:aV:=⟨1,6,IC,[.tmp 2]⟩
def aTT:Rg:=[iA 2 (.box true (Tm 0)),iA 3 (.box true (Tm 1)),iA 4 (.alloc [(.bool false),.aB,.aB]),iI 5 0]
def aTU:Rg:=[iO 15 3 2,iK 16 56 15,iA 17 (.un .not (Tm 16)),iM 18 17,gO 19 3 3 18 false,gK 20 56 19 18 false,iG 21 (.un .not (Tm 20)) 18 false,iQ 22 18 21]
def ajV:Rg:=[iA 23 (.build [(.bool false),.aB,.aB] []),iS 3 4 23,iI 5 1]
def aTV:Rd:=[(iF 24 1 2,false),(iL 25 24,false),(iF 26 2 3,false),(iL 27 26,false),(iK2 28 60 25 27,true),(iF 29 1 3,true),(iL 30 29,true),(iF 31 2 2,true),(iL 32 31,true),(iK2 33 60 30 32,true),(iF 34 2 2,true),(iL 35 34,true),(iF 36 2 3,true),(iL 37 36,true),(iK2 38 60 35 37,true),(iM 6 28,false),(iM 7 33,false),(iM 8 38,false)]
def aTW:Rg:=[iF 39 0 2,iL 40 39,iF 41 0 3,iL 42 41,iA 43 (.eqb false (Tm 40) (Tm 42))]
def aTX:Rg:=[iM 45 6,iM 46 7,iK2 47 30 45 46,iM 44 47,iE 48 44 0,iE 49 44 1,iM 9 48,iM 10 49]
def aTY:Rg:=[iF 50 0 2,iL 51 50,iM 52 9,iM 53 8,iA 54 (.call 58 [(Tm 51),(Tm 52),(Tm 53)]),iK 55 57 54,iE 56 55 0,iE 57 55 1,iS 3 4 56,iM 5 57]
def aTZ:Rg:=[iM 58 6,iM 59 7,iK2 60 32 58 59,iC 61 .geq 60 0]
def aUA:Rg:=[iM 63 6,iM 64 7,iK2 65 37 63 64,iM 62 65,iE 66 62 0,iE 67 62 1,iM 11 66,iM 12 67]
def aUB:Rg:=[iF 68 0 2,iL 69 68,iM 70 11,iM 71 8,iA 72 (.call 58 [(Tm 69),(Tm 70),(Tm 71)]),iK 73 57 72,iE 74 73 0,iE 75 73 1,iS 3 4 74,iM 5 75]
def aHH:Rg:=[iM 77 7,iM 78 6,iK2 79 37 77 78,iM 76 79,iE 80 76 0,iE 81 76 1,iM 13 80,iM 14 81]
def aHI:Rg:=[iF 82 0 3,iL 83 82,iM 84 13,iM 85 8,iA 86 (.call 58 [(Tm 83),(Tm 84),(Tm 85)]),iK 87 57 86,iE 88 87 0,iE 89 87 1,iS 3 4 88,iM 5 89]
def yK:aC:=(sq aTT (.seq (sq aTU (.cond (Tm 22) (sq ajV .ret) .skip)) (dq aTV (.seq (sq aTW (.cond (Tm 43) (sq aTX (sq aTY .ret)) .skip)) (.seq (sq aTZ (.cond (Tm 61) (sq aUA (sq aUB .ret)) .skip)) (sq aHH (sq aHI .ret)))))))
def boQ:List Nat:=[2,3]
def ajU:aV:=⟨2,90,yK,[.cell 4 (some 3),.tmp 5]⟩
def aUG:Rg:=[iA 2 (.alloc [(.bool false),.aB,.aB]),iI 3 0]
def aUH:Rg:=[iA 8 (.call 47 [(Ci 0)]),iA 4 (.alloc [(.bool false),.aB,.aB]),iS 3 4 8]
def aUI:Rg:=[iI 5 0]
def aUJ:Rg:=[iM 9 5,iM 10 0,iN 11 10,iB 12 .lss 9 11]
def aUK:Rd:=[(iO 16 3 4,false),(iM 17 0,false),(iM 18 5,false),(iX 19 3 17 18,false),(iO 20 3 19,false),(iK2 21 46 16 20,true),(iM 15 21,false),(iE 22 15 0,false),(iE 23 15 1,true),(iA 6 (.alloc [(.bool false),.aB,.aB]),true),(iS 3 6 22,true),(iM 7 23,false)]
def ajX:Rg:=[iM 24 7,iC 25 .neq 24 0]
def aUL:Rg:=[iA 26 (.build [(.bool false),.aB,.aB] []),iM 27 7,iS 3 2 26,iM 3 27]
def aUM:Rg:=[iO 28 3 6,iS 3 4 28]
def aUN:Rg:=[iM 13 5,iC 14 .add 13 1,iM 5 14]
def aUF:aC:=(.seq (sq aUJ (.cond (Tm 12) .skip (.exit 0))) (.seq (.block 1 (dq aUK (.seq (sq ajX (.cond (Tm 25) (sq aUL .ret) .skip)) (.region aUM)))) (.region aUN)))
def aIL:Rg:=[iO 29 3 4,iS 3 2 29,iI 3 0]
def PI:aC:=(sq aUG (sq aUH (.seq (sq aUI (.block 0 (.loop aUF))) (sq aIL .ret))))
def boV:List Nat:=[]
def aIK:aV:=⟨1,30,PI,[.cell 2 (some 3),.tmp 3]⟩
def rR:Rg:=[iT 4 false]
def rS:Rg:=[iM 5 0,iC 6 .geq 5 1,iM 7 6,gM 8 0 7 true,gC 9 .leq 8 6 7 true,iP 10 7 9,iM 11 10,gM 12 1 11 true,gC 13 .geq 12 0 11 true,iP 14 11 13,iM 15 14,gM 16 1 15 true,gC 17 .leq 16 4 15 true,iP 18 15 17,iM 19 18,gM 20 0 19 true,gM 21 1 19 true,gB 22 .add 20 21 19 true,gC 23 .leq 22 8 19 true,iP 24 19 23,iM 4 24]
def lS:aC:=(sq rR (sq rS .ret))
def bgR:List Nat:=[]
def uF:aV:=⟨2,25,lS,[.tmp 4]⟩
def afL:Rg:=[iT 2 false]
def afM:Rg:=[iM 3 0,iA 4 (.bin .geq (Tm 3) (.const (.int .u8 97))),iM 5 4,gM 6 0 5 true,iG 7 (.bin .leq (Tm 6) (.const (.int .u8 122))) 5 true,iP 8 5 7,iM 9 8,gM 10 0 9 false,iG 11 (.bin .geq (Tm 10) (.const (.int .u8 65))) 9 false,gM 12 11 9 false,gM 13 0 12 true,iG 14 (.bin .leq (Tm 13) (.const (.int .u8 90))) 12 true,iG 15 (.pick (Tm 12) (Tm 14) (.const (.bool false))) 9 false,iQ 16 9 15,iM 2 16]
def wX:aC:=(sq afL (sq afM .ret))
def a2N:List Nat:=[]
def CR:aV:=⟨1,17,wX,[.tmp 2]⟩
def arG:Rg:=[iT 2 false]
def arH:Rg:=[iM 3 0,iA 4 (.bin .geq (Tm 3) (.const (.int .u8 48))),iM 5 4,gM 6 0 5 true,iG 7 (.bin .leq (Tm 6) (.const (.int .u8 57))) 5 true,iP 8 5 7,iM 2 8]
def AX:aC:=(sq arG (sq arH .ret))
def bbA:List Nat:=[]
def PO:aV:=⟨1,9,AX,[.tmp 2]⟩
def afA:Rg:=[iT 2 false]
def afB:Rg:=[iM 3 0,iK 4 65 3,iM 5 4,gM 6 0 5 false,gK 7 63 6 5 false,iQ 8 5 7,iM 9 8,gM 10 0 9 false,iG 11 (.bin .eql (Tm 10) (.const (.int .u8 45))) 9 false,iQ 12 9 11,iM 13 12,gM 14 0 13 false,iG 15 (.bin .eql (Tm 14) (.const (.int .u8 46))) 13 false,iQ 16 13 15,iM 2 16]
def wV:aC:=(sq afA (sq afB .ret))
def a2J:List Nat:=[]
def CP:aV:=⟨1,17,wV,[.tmp 2]⟩
def afD:Rg:=[iT 2 false]
def afE:Rg:=[iM 4 0,iA 5 (.bHQ (Tm 4)),iC 6 .lss 5 1,iM 7 6,gM 8 0 7 false,iG 9 (.bHQ (Tm 8)) 7 false,gC 10 .gtr 9 16 7 false,iQ 11 7 10,iM 12 11,gM 13 0 12 false,iG 14 (.bHR (Tm 13) (Ci 0)) 12 false,gK 15 65 14 12 false,iG 16 (.un .not (Tm 15)) 12 false,iQ 17 12 16]
def uK:Rg:=[iT 2 false]
def afF:Rg:=[iI 3 0]
def afG:Rg:=[iM 18 3,iM 19 0,iA 20 (.bHQ (Tm 19)),iB 21 .lss 18 20]
def afH:Rg:=[iM 24 0,iM 25 3,iA 26 (.bHR (Tm 24) (Tm 25)),iK 27 64 26,iA 28 (.un .not (Tm 27))]
def afI:Rg:=[iT 2 false]
def afJ:Rg:=[iM 22 3,iC 23 .add 22 1,iM 3 23]
def afC:aC:=(.seq (sq afG (.cond (Tm 21) .skip (.exit 0))) (.seq (.block 1 (sq afH (.cond (Tm 28) (sq afI .ret) .skip))) (.region afJ)))
def afK:Rg:=[iT 2 true]
def wW:aC:=(sq afD (.seq (sq afE (.cond (Tm 17) (sq uK .ret) .skip)) (.seq (sq afF (.block 0 (.loop afC))) (sq afK .ret))))
def a2L:List Nat:=[]
def CQ:aV:=⟨1,29,wW,[.tmp 2]⟩
theorem nM (P:List Nat) (v:Nat):aH P++[[.int .u32 (v:Int)]]=aH (P++[v]):=by simp[aH]
theorem nL {P:List Nat} (h:P.length≤35184372087808):roomFor (aH P).length 1 4:=by
 unfold roomFor
 rw[bU]
 simp only[maxLen]; omega
def RA (a b:List Nat) (v:PV) (c i:Nat):PF:=(((((PF.nil.set 0 (aF a)).set 1 (aF b)).set 5 (v)).set 6 (.int .u64 c)).set 7 (.int .i64 i))
theorem a8I {C:Ctx} (L:nC C) (a b:List Nat) (ha:Lim a) (hb:Lim b) (hle:val b≤val a) (hl:b.length≤a.length) (h1:a.length≤35184372087808) :
  AO.wp C (aU OO.res (bZ (aF (aG (val a-val b))))) (PF.args [aF a,aF b]) .nil:=by
 simp only[go_sem,AO,apL,apM,apN,apO,OO]
 refine wp_loop (α:=List Nat × Nat × PV × PH) (fun s=>RA a b s.2.2.1 s.2.1 s.1.length) (fun s=>s.2.2.2)
  (fun s=>s.1.length≤a.length∧Lim s.1∧s.2.1≤1∧val (a.take s.1.length)+4294967296 ^ s.1.length*s.2.1=val s.1+val (b.take s.1.length)∧bM s.2.2.2 1 s.2.2.1 (aH s.1)) (fun s=>a.length-s.1.length) ([],0,.aB,.nil) ⟨by simp,by simp[Lim],by simp,by simp[val],.nil⟩ ?_ PH.nil_le ?_
 ·unfold RA
  exact Lq
 rintro⟨P,c,v,H0⟩ ⟨hP,bHF,hc,bHB,hO⟩
 simp only at hP bHF hc bHB hO ⊢
 simp only[go_sem,γ,reduceCtorEq,aeB,apP,RA]
 by_cases c1:P.length<a.length
 ·have c1':(P.length:Int)<(a.length:Nat):=by omega
  have hai:=ha _ (bIR c1)
  have hta:=bX a c1
  have hac:(aH a)[P.length]?=some [.int .u32 ((a[P.length]:Nat):Int)]:=bL a c1
  generalize hx:a[P.length]=x at *
  have ex:IntKind.u64.wrap ((x:Nat):Int)=((x:Nat):Int):=bD Om
  have fin:∀ (t:Nat) (F':PF),t<4294967296→val (b.take (P.length+1))=val (b.take P.length)+4294967296 ^ P.length*t →
    F' 0=some (aF a)→F' 1=some (aF b)→F' 5=some v→F' 8=some (.int .u64 (c+t:Nat))→F' 7=some (.int .i64 P.length) →
    ∀ K:cN,(∀ P' c' v' F2 H2,P'.length=P.length+1→Lim P'→c'≤1→val (a.take (P.length+1))+4294967296 ^ P'.length*c'=val P'+val (b.take (P.length+1))→(RA a b v' c' P'.length).le F2→bM H2 1 v' (aH P')→K .normal F2 H2) →
    aC.wp C (.seq (.region OP) (.seq (.region OQ) (.seq (.seq (.region HM) (.cond (.tmp 35) (.seq (.region HN) (.region HO)) .skip)) (.region uH)))) (dX 1 (iH C (aC.wp C (.region uI)) K)) F' H0:=by
   intro t F' ht htb g0 g1 g5 g8 g7 K hK
   have step:∀ (d c':Nat),d<4294967296→c'≤1→x+4294967296*c'=d+(c+t)→val (a.take (P.length+1))+4294967296 ^ (P.length+1)*c'=val (P++[d])+val (b.take (P.length+1)):=by
    intro d c' hd hc' he
    have h2:4294967296 ^ P.length*(x+4294967296*c')=4294967296 ^ P.length*(d+(c+t)):=by rw[he]
    rw[bIZ,bIZ,bIZ] at h2
    rw[gW,bKE,bJH,hta,htb]
    omega
   simp only[go_sem,γ,OP,g0,g7,hac,ex,OQ,HM,g8]
   by_cases c2:x<c+t
   ·have c2':((x:Nat):Int)<((c+t:Nat):Int):=by omega
    have e1:IntKind.u64.wrap ((x:Int)+4294967296)=((x+4294967296:Nat):Int):=by
     rw[show (x:Int)+4294967296=((x+4294967296:Nat):Int) by omega]
     exact bD Om
    have e2:IntKind.u64.wrap (((x+4294967296:Nat):Int)-((c+t:Nat):Int))=((x+4294967296-(c+t):Nat):Int):=by
     rw[show ((x+4294967296:Nat):Int)-((c+t:Nat):Int)=((x+4294967296-(c+t):Nat):Int) by omega]
     exact bD Om
    have e3:IntKind.u32.wrap ((x+4294967296-(c+t):Nat):Int)=((x+4294967296-(c+t):Nat):Int):=by
     rw[cB,bJV Om]
    have hb1:(1:Nat)*1≤16777216:=by decide
    simp only[go_sem,υ,γ,η,ζ,c2',HN,e1,HO,uH,g5,g8,e2,e3,hb1]
    refine fR (src:=[[.int .u32 ((x+4294967296-(c+t):Nat):Int)]]) hO rfl (nL Om) fun v' H' hO' _=>?_
    rw[nM] at hO'
    simp only[go_sem,γ,uI,g7,dE (Om:P.length<9223372036854775807)]
    refine hK _ 1 v' _ H' (by simp) (bHF.app fun y hy=>by simp at hy; subst hy; omega) (bIO _) ?_ ?_ hO'
    ·rw[bIU,bJC]
     exact step _ 1 Om (bIO _) Om
    ·unfold RA
     rw[bIU,bJC]
     exact Lq
   ·have c2':¬ ((x:Nat):Int)<((c+t:Nat):Int):=by omega
    have e2:IntKind.u64.wrap (((x:Nat):Int)-((c+t:Nat):Int))=((x-(c+t):Nat):Int):=by
     rw[show ((x:Nat):Int)-((c+t:Nat):Int)=((x-(c+t):Nat):Int) by omega]
     exact bD Om
    have e3:IntKind.u32.wrap ((x-(c+t):Nat):Int)=((x-(c+t):Nat):Int):=by
     rw[cB,bJV Om]
    have hb1:(1:Nat)*1≤16777216:=by decide
    simp only[go_sem,υ,γ,η,ζ,c2',uH,g5,g8,e2,e3,hb1]
    refine fR (src:=[[.int .u32 ((x-(c+t):Nat):Int)]]) hO rfl (nL Om) fun v' H' hO' _=>?_
    rw[nM] at hO'
    simp only[go_sem,γ,uI,g7,dE (Om:P.length<9223372036854775807)]
    refine hK _ 0 v' _ H' (by simp) (bHF.app fun y hy=>by simp at hy; subst hy; omega) (by decide) ?_ ?_ hO'
    ·rw[bIU,bJC]
     exact step _ 0 Om (by decide) Om
    ·unfold RA
     rw[bIU,bJC]
     exact Lq
  simp only[aC.wp,go_sem] at fin
  simp only[go_sem,γ,reduceCtorEq,c1',apQ,apR]
  by_cases c3:P.length<b.length
  ·have c3':(P.length:Int)<(b.length:Nat):=by omega
   have hbi:=hb _ (bIR c3)
   have htb:=bX b c3
   have eb:IntKind.u64.wrap ((b[P.length]:Nat):Int)=((b[P.length]:Nat):Int):=bD Om
   have es:IntKind.u64.wrap ((c:Int)+(b[P.length]:Int))=((c+b[P.length]:Nat):Int):=eM Om
   simp only[go_sem,γ,reduceCtorEq,c3',apS,bL b c3,eb,es]
   refine fin b[P.length] _ hbi htb rfl rfl rfl rfl rfl _ ?_
   intro P' c' v' F2 H2 e1 e2 e3 e4 e5 e6
   rw[← e1] at e4
   exact aK (α:=List Nat × Nat × PV × PH) (P',c',v',H2) ⟨by simp only; omega,e2,e3,e4,e6⟩ (by simp only; omega) e5 PH.le_refl
  ·have c3':¬ (P.length:Int)<(b.length:Nat):=by omega
   have htb:val (b.take (P.length+1))=val (b.take P.length)+4294967296 ^ P.length*0:=by rw[bJD Om,bJD Om]; simp
   simp only[go_sem,c3']
   refine fin 0 _ (by decide) htb rfl rfl rfl rfl rfl _ ?_
   intro P' c' v' F2 H2 e1 e2 e3 e4 e5 e6
   rw[← e1] at e4
   exact aK (α:=List Nat × Nat × PV × PH) (P',c',v',H2) ⟨by simp only; omega,e2,e3,e4,e6⟩ (by simp only; omega) e5 PH.le_refl
 ·have e:P.length=a.length:=by omega
  have c1':¬ (P.length:Int)<(a.length:Nat):=by omega
  have hV:val P=val a-val b:=by
   rw[e,bJN,bJD hl] at bHB
   have hlt:=eJ bHF
   rw[e] at hlt
   rcases bLK c with h | h
   ·subst h; omega
   ·have:c=1:=by omega
    subst this; omega
  simp only[go_sem,γ,reduceCtorEq,c1',aeC]
  have hs:=L.trim _ bHF Om
  rw[hV] at hs
  refine qY hs hO rfl fun F1 H1 _=>?_
  simp only[go_sem]
  exact aW (.inr rfl) .nil rfl PH.nil_le ⟨.refl _,rfl⟩
def pC (a b:List Nat) (o i:Nat):PF:=((((PF.nil.set 0 (aF a)).set 1 (aF b)).set 5 (.osl o 1 0 (a.length+b.length))).set 6 (.int .i64 i))
def utG (a b:List Nat) (o i c j:Nat):PF:=((((((PF.nil.set 0 (aF a)).set 1 (aF b)).set 5 (.osl o 1 0 (a.length+b.length))).set 6 (.int .i64 i)).set 7 (.int .u64 c)).set 8 (.int .i64 j))
theorem a0B {C:Ctx} (a b:List Nat) (ha:Lim a) (hb:Lim b) (h1:a.length≤35184372087808) (h2:b.length≤35184372087808) (L:List Nat) (i:Nat) (hi:i<a.length) (hI:BI a b L i) (q:Nat) (K:cN) (F:PF) (H:PH) (hF:(pC a b q i).le F) (hH:H q=some (.rows 1 (aH L)))
  (hK:∀ L' F' H',BI a b L' (i+1)→(pC a b q i).le F'→H' q=some (.rows 1 (aH L'))→K .normal F' H') :
  aC.wp C (.block 1 (.seq (.region OZ) (.seq (.seq (.region PA) (.block 2 (.loop HS))) (.region HT)))) K F H:=by
 have f0:=hF 0 _ (by unfold pC; simp only[go_sem,reduceCtorEq]; rfl)
 have f1:=hF 1 _ (by unfold pC; simp only[go_sem,γ,reduceCtorEq]; rfl)
 have f5:=hF 5 _ (by unfold pC; simp only[go_sem,γ,reduceCtorEq]; rfl)
 have f6:=hF 6 _ (by unfold pC; simp only[go_sem,γ,reduceCtorEq]; rfl)
 have hx:=ha _ (bIR hi)
 have hta:=bX a hi
 generalize hxe:a[i]=x at *
 have hax:(aH a)[i]?=some [.int .u32 ((x:Nat):Int)]:=by rw[bL a hi,hxe]
 simp only[go_sem,OZ,PA]
 refine wp_loop (α:=List Nat × Nat × Nat) (fun t=>utG a b q i t.2.1 t.2.2) (fun t=>PH.nil.set q (.rows 1 (aH t.1)))
  (fun t=>t.2.2≤b.length∧t.1.length=a.length+b.length∧Lim t.1∧t.2.1<4294967296∧val t.1+4294967296 ^ (i+t.2.2)*t.2.1=val (a.take i)*val b+4294967296 ^ i*(x*val (b.take t.2.2))∧∀ j y,i+b.length≤j→t.1[j]?=some y→y=0) (fun t=>b.length-t.2.2) (L,0,0)
  ⟨by simp,hI.len,hI.lim,by simp,by simp[val,hI.v],hI.z⟩ ?_ (PH.aI PH.nil_le hH) ?_
 ·unfold utG
  exact Lq
 rintro⟨M,c,j⟩ ⟨hj,hM,bHF,hc,bHB,hz⟩
 simp only at hj hM bHF hc bHB hz
 simp only[go_sem,γ,reduceCtorEq,HS,apY,utG]
 by_cases c1:j<b.length
 ·have c1':(j:Int)<(b.length:Nat):=by omega
  have hy:=hb _ (bIR c1)
  have htb:=bX b c1
  generalize hye:b[j]=y at *
  have hby:(aH b)[j]?=some [.int .u32 ((y:Nat):Int)]:=by rw[bL b c1,hye]
  have hij:i+j<M.length:=by omega
  have hz0:=bHF _ (bIR hij)
  have bIF:=CL hij
  generalize hze:M[i+j]=z at *
  have hMz:(aH M)[i+j]?=some [.int .u32 ((z:Nat):Int)]:=by rw[bL M hij,hze]
  have ex:IntKind.u64.wrap ((x:Nat):Int)=((x:Nat):Int):=bD Om
  have ey:IntKind.u64.wrap ((y:Nat):Int)=((y:Nat):Int):=bD Om
  have ez:IntKind.u64.wrap ((z:Nat):Int)=((z:Nat):Int):=bD Om
  have em:=aOT hx hy
  have hxy:x*y≤4294967295*4294967295:=Nat.mul_le_mul Om Om
  have e1:IntKind.u64.wrap (((x*y:Nat):Int)+(z:Int))=((x*y+z:Nat):Int):=eM Om
  have e2:IntKind.u64.wrap (((x*y+z:Nat):Int)+(c:Int))=((x*y+z+c:Nat):Int):=eM Om
  have eij:IntKind.i64.wrap ((i:Int)+(j:Int))=((i+j:Nat):Int):=fH Om
  have hlt:((i+j:Nat):Int)<((a.length+b.length:Nat):Int):=by omega
  generalize ht:x*y+z+c=t at *
  have htt:t<4294967296*4294967296:=by omega
  have bGV:(aH M).set (i+j) [.int .u32 ((t%4294967296:Nat):Int)]=aH (M.set (i+j) (t%4294967296)):=eT M (i+j) _
  simp only[go_sem,c1']
  refine bT .nil eG PH.nil_le ?_
  simp only[go_sem,γ,reduceCtorEq,apZ,hax,hby,ex,ey,em,eij,hlt,hMz,ez,e1,e2,aqA,cB,bGV,aqB,uG,aeF,wZz j]
  refine aK (M.set (i+j) (t%4294967296),t/4294967296,j+1) ⟨by simp only; omega,by simp only[bKI]; exact hM,bHF.set _ (bKA _ (by decide)),by simp only; omega,?_,afX hz _ _ Om⟩ (by simp only; omega) ?_ (PH.aI PH.nil_le Sq)
  ·simp only
   have h3:=bIF (t%4294967296)
   have h4:4294967296 ^ (i+(j+1))*(t/4294967296)+4294967296 ^ (i+j)*(t%4294967296)=4294967296 ^ (i+j)*t:=by
    rw[← bKX,bKE,bJH,← bIZ,bLQ]
   have h5:4294967296 ^ (i+j)*t=4294967296 ^ (i+j)*(x*y)+4294967296 ^ (i+j)*z+4294967296 ^ (i+j)*c:=by rw[← ht,bIZ,bIZ]
   have h6:4294967296 ^ i*(x*val (b.take (j+1)))=4294967296 ^ i*(x*val (b.take j))+4294967296 ^ (i+j)*(x*y):=by
    rw[htb,bIZ,bIZ,Nat.pow_add]
    congr 1
    rw[Nat.mul_left_comm x,bJH]
   omega
  ·exact Lq
 ·have he:j=b.length:=by omega
  have c1':¬ (j:Int)<(b.length:Nat):=by omega
  subst he
  have hij:i+b.length<M.length:=by omega
  have hz0:M[i+b.length]=0:=hz _ _ (bIO _) (bIW hij)
  have bIF:=CL hij
  have hMz:(aH M)[i+b.length]?=some [.int .u32 ((0:Nat):Int)]:=by rw[bL M hij,hz0]
  have eij:IntKind.i64.wrap ((i:Int)+((b.length:Nat):Int))=((i+b.length:Nat):Int):=fH Om
  have hlt:((i+b.length:Nat):Int)<((a.length+b.length:Nat):Int):=by omega
  have bGV:(aH M).set (i+b.length) [.int .u32 ((c%4294967296:Nat):Int)]=aH (M.set (i+b.length) c):=by
   rw[bJV hc]; exact eT M _ _
  simp only[go_sem,γ,reduceCtorEq,c1',HT,eij,cB,hlt,hMz,bGV]
  refine hK (M.set (i+b.length) c) _ _ ⟨by rw[bKI]; exact hM,bHF.set _ hc,?_,fun j y hj hy=>?_⟩ (by unfold pC; exact Lq) Sq
  ·have h3:=bIF c
   rw[hz0,Nat.mul_zero,bKD] at h3
   rw[h3,bHB,bJN,hta,bJP,bJH]
  ·rw[List.getElem?_set_ne Om] at hy
   exact hz j y Om hy
theorem a8K {C:Ctx} (L:nC C) (a b:List Nat) (ha:Lim a) (hb:Lim b) (h1:a.length≤8388608) (h2:b.length≤8388608) :
  AP.wp C (aU OY.res (bZ (aF (aG (val a*val b))))) (PF.args [aF a,aF b]) .nil:=by
 have hlen:IntKind.i64.wrap (((a.length:Nat):Int)+((b.length:Nat):Int))=((a.length+b.length:Nat):Int):=fH Om
 have hm1:((a.length+b.length:Nat):Int)*((4:Nat):Int)≤140737488355328:=by omega
 have hm2:((a.length+b.length:Nat):Int)≤9223372036854775807:=by omega
 have hz:bIP (a.length+b.length) [PV.int .u32 0]=aH (bIP (a.length+b.length) 0):=by
  simp[aH]
 simp only[go_sem,γ,reduceCtorEq,AP,apU,apV,OY,bIM,hlen,hm1,hm2,hz]
 refine aQ fun o ho=>?_
 simp only[go_sem,γ,apW]
 refine wp_loop (α:=List Nat × Nat) (fun t=>pC a b o t.2) (fun t=>PH.nil.set o (.rows 1 (aH t.1))) (fun t=>t.2≤a.length∧BI a b t.1 t.2) (fun t=>a.length-t.2) (bIP (a.length+b.length) 0,0)
  ⟨by simp,by simp,sS _,by simp[val,pV],fun j x _ hx=>by rw[List.getElem?_replicate] at hx; split at hx<;>simp_all⟩ ?_ (PH.aI PH.nil_le Sq) ?_
 ·unfold pC
  exact Lq
 rintro⟨M,i⟩ ⟨hi,hI⟩
 simp only at hi hI
 simp only[go_sem,γ,reduceCtorEq,aeE,apX,pC]
 by_cases c1:i<a.length
 ·have c1':(i:Int)<(a.length:Nat):=by omega
  have key:=a0B (C:=C) a b ha hb Om Om M i c1 hI o
  simp only[go_sem] at key
  simp only[go_sem,c1']
  refine key _ _ _ (by unfold pC; exact Lq) Sq ?_
  intro L' F' H' hI' hF' hH'
  have g6:=hF' 6 _ (by unfold pC; simp only[go_sem,γ,reduceCtorEq]; rfl)
  have g0:=hF' 0 _ (by unfold pC; simp only[go_sem,reduceCtorEq]; rfl)
  have g1:=hF' 1 _ (by unfold pC; simp only[go_sem,γ,reduceCtorEq]; rfl)
  have g5:=hF' 5 _ (by unfold pC; simp only[go_sem,γ,reduceCtorEq]; rfl)
  simp only[go_sem,γ,aeG,g6,wZz i]
  refine aK (L',i+1) ⟨by simp only; omega,hI'⟩ (by simp only; omega) ?_ (PH.aI PH.nil_le hH')
  exact Lq
 ·have he:i=a.length:=by omega
  subst he
  have c1':¬ ((a.length:Nat):Int)<(a.length:Nat):=by omega
  have hV:val M=val a*val b:=by rw[hI.v,bJN]
  simp only[go_sem,γ,reduceCtorEq,aeH]
  have hs:=L.trim _ hI.lim (by rw[hI.len]; omega)
  rw[hV] at hs
  refine nU (o:=o) (s:=1) (k:=a.length+b.length) (rs:=aH M) (v:=aF (aG (val a*val b))) ?_ rfl Sq (by rw[bU,hI.len]; exact bIO _) ?_
  ·rw[bJD (by rw[bU,hI.len]; exact bIO _)]; exact hs
  ·simp only[go_sem,γ,reduceCtorEq]
   exact aW (.inr rfl) .nil rfl PH.nil_le ⟨.refl _,rfl⟩
structure atS (C:Ctx):Prop extends atP C where
 minus:∀ a b,Lim a→Lim b→val b≤val a→b.length≤a.length→a.length≤35184372087808→aD C 42 [aF a,aF b] .nil (aE (aF (aG (val a-val b))))
 times:∀ a b,Lim a→Lim b→a.length≤8388608→b.length≤8388608→aD C 44 [aF a,aF b] .nil (aE (aF (aG (val a*val b))))
theorem boG {C:Ctx} (L:atS C) (a b:List Nat) (ha:Lim a) (hb:Lim b) (la:a.length≤35184372087808) (lb:b.length≤35184372087808) :
  OR.wp C (aU aGT.res (bZ (opV (dP (val a) (val b)) (val a*val b)))) (PF.args [aF a,aF b]) .nil:=by
 unfold opV
 simp only[go_sem,reduceCtorEq,OR,aTD,aTE,aGT]
 refine aA (L.large a ha la) rfl ?_
 by_cases c1:nl (val a)>512
 ·simp only[go_sem,γ,c1,ajQ]
  rw[if_pos (by simp[dP,c1])]
  exact eC rfl
 simp only[go_sem,γ,c1]
 refine aA (L.large b hb lb) rfl ?_
 by_cases c2:nl (val b)>512
 ·simp only[go_sem,γ,reduceCtorEq,c2,ajQ]
  rw[if_pos (by simp[dP,c2])]
  exact eC rfl
 rw[if_neg (by simp[dP,c1,c2])]
 simp only[go_sem,γ,reduceCtorEq,c2,aTF]
 refine aA (L.trim a ha la) rfl ?_
 simp only[go_sem,γ]
 refine aA (L.trim b hb lb) rfl ?_
 simp only[go_sem]
 have ht:=L.times (aG (val a)) (aG (val b)) (aT _) (aT _) (by rw[aZ]; omega) (by rw[aZ]; omega)
 rw[aR,aR] at ht
 refine aA ht rfl ?_
 have n1:=kA (a:=val a) (b:=val b) (m:=512) (n:=512) Om Om
 have hl:=L.large (aG (val a*val b)) (aT _) (by rw[aZ]; omega)
 rw[aR] at hl
 simp only[go_sem,γ,aTG]
 refine aA hl rfl ?_
 unfold szV szL szE
 by_cases c3:nl (val a*val b)>512
 ·rw[if_pos c3,if_pos c3]
  simp only[go_sem,γ,c3,aTH]
  exact eC rfl
 ·rw[if_neg c3,if_neg c3]
  simp only[go_sem,γ,c3,aTI]
  exact aW (.inr rfl) .nil rfl PH.nil_le ⟨.refl _,rfl⟩
def tU (a:List Nat) (i:Nat):Nat:=a.getD i 0
theorem avA {a:List Nat} (h:Lim a) (i:Nat):tU a i<4294967296:=by
 unfold tU
 rw[bJG]
 rcases bJE i a.length with h1 | h1
 ·rw[bIW h1]; exact h _ (bIR h1)
 ·rw[bJZ h1]; decide
theorem UK {a:List Nat} {i:Nat} (h:i<a.length):tU a i=a[i]:=by simp[tU,bJG,h]
theorem JZ {a:List Nat} {i:Nat} (h:¬ i<a.length):tU a i=0:=by simp[tU,bJG,h]
theorem PB (a:List Nat) (i:Nat):val (a.take (i+1))=val (a.take i)+4294967296 ^ i*tU a i:=by
 rcases bJE i a.length with h | h
 ·rw[UK h]; exact bX a h
 ·rw[JZ Om,bJD Om,bJD Om]; simp
def qW (a b:List Nat) (v:PV) (c i:Nat):PF:=(((((PF.nil.set 0 (aF a)).set 1 (aF b)).set 5 (v)).set 6 (.int .u64 c)).set 7 (.int .i64 i))
theorem bhN {C:Ctx} (L:nC C) (a b:List Nat) (ha:Lim a) (hb:Lim b) (h1:a.length≤8388608) (h2:b.length≤8388608) :
  HP.wp C (aU aeD.res (bZ (aF (aG (val a+val b))))) (PF.args [aF a,aF b]) .nil:=by
 simp only[go_sem,HP,aGW,aGX,aGY,aGZ,aeD]
 refine wp_loop (α:=List Nat × Nat × PV × PH) (fun s=>qW a b s.2.2.1 s.2.1 s.1.length) (fun s=>s.2.2.2)
  (fun s=>s.1.length≤max a.length b.length+1∧(s.1.length≤max a.length b.length∨s.2.1=0)∧Lim s.1∧s.2.1≤1∧val s.1+4294967296 ^ s.1.length*s.2.1=val (a.take s.1.length)+val (b.take s.1.length)∧bM s.2.2.2 1 s.2.2.1 (aH s.1)) (fun s=>max a.length b.length+1-s.1.length) ([],0,.aB,.nil)
  ⟨by simp,by simp,by simp[Lim],by simp,by simp[val],.nil⟩ ?_ PH.nil_le ?_
 ·unfold qW
  exact Lq
 rintro⟨P,c,v,H0⟩ ⟨hP,hPc,bHF,hc,bHB,hO⟩
 simp only at hP hPc bHF hc bHB hO ⊢
 have hda:=avA ha P.length
 have hdb:=avA hb P.length
 have hta:=PB a P.length
 have htb:=PB b P.length
 generalize hx:tU a P.length=x at *
 generalize hy:tU b P.length=y at *
 have ex:IntKind.u64.wrap ((x:Nat):Int)=((x:Nat):Int):=bD Om
 have ey:IntKind.u64.wrap ((y:Nat):Int)=((y:Nat):Int):=bD Om
 have e1:IntKind.u64.wrap ((c:Int)+(x:Int))=((c+x:Nat):Int):=eM Om
 have e2:IntKind.u64.wrap (((c+x:Nat):Int)+(y:Int))=((c+x+y:Nat):Int):=eM Om
 have hra:P.length<a.length→(aH a)[P.length]?=some [.int .u32 ((x:Nat):Int)]:=fun h=>by rw[bL a h,← hx,UK h]
 have hrb:P.length<b.length→(aH b)[P.length]?=some [.int .u32 ((y:Nat):Int)]:=fun h=>by rw[bL b h,← hy,UK h]
 have hxa:¬ P.length<a.length→x=0:=fun h=>by rw[← hx,JZ h]
 have hyb:¬ P.length<b.length→y=0:=fun h=>by rw[← hy,JZ h]
 have body:(P.length≤max a.length b.length)→∀ K:cN,(∀ P' c' v' F2 H2,P'.length=P.length+1→Lim P'→c'≤1→(P.length+1≤max a.length b.length∨c'=0)→val P'+4294967296 ^ P'.length*c'=val (a.take (P.length+1))+val (b.take (P.length+1))→(qW a b v' c' P'.length).le F2→bM H2 1 v' (aH P')→K .normal F2 H2) →
   ∀ F:PF,(qW a b v c P.length).le F→aC.wp C (.seq (.block 1 (.seq (.region XA) (.seq (.seq (.region XB) (.cond (.tmp 29) (.region XC) .skip)) (.seq (.seq (.region HQ) (.cond (.tmp 40) (.region HR) .skip)) (.seq (.region yH) (.region yI)))))) (.region yJ)) K F H0:=by
  intro hle K hK F hF
  have g0:F 0=some (aF a):=hF 0 _ (by unfold qW; simp only[go_sem,reduceCtorEq])
  have g1:F 1=some (aF b):=hF 1 _ (by unfold qW; simp only[go_sem,γ,reduceCtorEq])
  have g5:F 5=some v:=hF 5 _ (by unfold qW; simp only[go_sem,γ,reduceCtorEq])
  have g6:F 6=some (.int .u64 c):=hF 6 _ (by unfold qW; simp only[go_sem,γ,reduceCtorEq])
  have g7:F 7=some (.int .i64 P.length):=hF 7 _ (by unfold qW; simp only[go_sem,γ,reduceCtorEq])
  have fin:∀ F':PF,F' 0=some (aF a)→F' 1=some (aF b)→F' 5=some v→F' 7=some (.int .i64 P.length)→F' 8=some (.int .u64 (c+x+y:Nat)) →
    aC.wp C (.seq (.region yH) (.region yI)) (dX 1 (iH C (aC.wp C (.region yJ)) K)) F' H0:=by
   intro F' q0 q1 q5 q7 q8
   have hb1:(1:Nat)*1≤16777216:=by decide
   generalize ht:c+x+y=t at *
   have htt:t<2*4294967296:=by omega
   simp only[go_sem,υ,γ,η,ζ,yH,q5,q8,hb1,cB]
   refine fR (src:=[[.int .u32 ((t%4294967296:Nat):Int)]]) hO rfl (nL Om) fun v' H' hO' _=>?_
   rw[nM] at hO'
   simp only[go_sem,γ,yI,q8,uG,yJ,q7,dE (Om:P.length<9223372036854775807)]
   refine hK (P++[t%4294967296]) (t/4294967296) v' _ H' (by simp) (bHF.app fun y hy=>by simp at hy; subst hy; omega) Om ?_ ?_ ?_ hO'
   ·rcases bJE P.length (max a.length b.length) with h | h
    ·exact .inl h
    ·right
     have h1:=hxa Om
     have h2:=hyb Om
     omega
   ·rw[gW,bIU,bJC,hta,htb,bKE,bJH,bKX,← bIZ]
    rw[show t%4294967296+4294967296*(t/4294967296)=t from Nat.mod_add_div t 4294967296]
    have h3:4294967296 ^ P.length*t=4294967296 ^ P.length*c+4294967296 ^ P.length*x+4294967296 ^ P.length*y:=by rw[← ht,bIZ,bIZ]
    omega
   ·unfold qW
    rw[bIU,bJC]
    exact Lq
  simp only[aC.wp,go_sem] at fin
  simp only[go_sem,γ,reduceCtorEq,XA,g6,XB,g7,g0]
  by_cases c1:P.length<a.length
  ·have c1':(P.length:Int)<(a.length:Nat):=by omega
   simp only[go_sem,γ,reduceCtorEq,c1',XC,g0,g7,hra c1,ex,e1,HQ,g1]
   by_cases c2:P.length<b.length
   ·have c2':(P.length:Int)<(b.length:Nat):=by omega
    simp only[go_sem,γ,c2',HR,g1,g7,hrb c2,ey,e2]
    exact fin _ (by simp only[go_sem,reduceCtorEq,g0]) (by simp only[go_sem,γ,g1]) (by simp only[go_sem,γ,g5]) (by simp only[go_sem,γ,g7]) rfl
   ·have c2':¬ (P.length:Int)<(b.length:Nat):=by omega
    have h0:=hyb c2
    simp only[go_sem,c2']
    exact fin _ (by simp only[go_sem,reduceCtorEq,g0]) (by simp only[go_sem,γ,g1]) (by simp only[go_sem,γ,g5]) (by simp only[go_sem,γ,g7]) (by simp only[go_sem,γ,h0])
  ·have c1':¬ (P.length:Int)<(a.length:Nat):=by omega
   have h0:=hxa c1
   simp only[go_sem,γ,c1',HQ,g1,g7]
   by_cases c2:P.length<b.length
   ·have c2':(P.length:Int)<(b.length:Nat):=by omega
    have e2':IntKind.u64.wrap ((c:Int)+(y:Int))=((c+x+y:Nat):Int):=by rw[h0]; exact eM Om
    simp only[go_sem,γ,c2',HR,g1,g7,hrb c2,ey,e2']
    exact fin _ (by simp only[go_sem,reduceCtorEq,g0]) (by simp only[go_sem,γ,g1]) (by simp only[go_sem,γ,g5]) (by simp only[go_sem,γ,g7]) rfl
   ·have c2':¬ (P.length:Int)<(b.length:Nat):=by omega
    have h0':=hyb c2
    simp only[go_sem,c2']
    exact fin _ (by simp only[go_sem,reduceCtorEq,g0]) (by simp only[go_sem,γ,g1]) (by simp only[go_sem,γ,g5]) (by simp only[go_sem,γ,g7]) (by simp only[go_sem,γ,h0,h0'])
 simp only[aC.wp,go_sem] at body
 have hexit:¬ P.length<a.length→¬ P.length<b.length→c=0→∀ F:PF,F 5=some v→aC.wp C (.seq (.region OV) .ret) (aU [.tmp 4] (bZ (aF (aG (val a+val b))))) F H0:=by
  intro n1 n2 n3 F f5
  have hV:val P=val a+val b:=by
   rw[n3,bJD Om,bJD Om] at bHB
   omega
  have hs:=L.trim _ bHF Om
  rw[hV] at hs
  simp only[go_sem,OV,f5]
  refine qY hs hO rfl fun F1 H1 _=>?_
  simp only[go_sem]
  exact aW (.inr rfl) .nil rfl PH.nil_le ⟨.refl _,rfl⟩
 simp only[aC.wp,go_sem] at hexit
 simp only[go_sem,γ,reduceCtorEq,apT,aHA,qW]
 by_cases c1:P.length<a.length
 ·have c1':(P.length:Int)<(a.length:Nat):=by omega
  simp only[go_sem,γ,reduceCtorEq,c1']
  refine body Om _ ?_ _ (by unfold qW; exact Lq)
  intro P' c' v' F2 H2 e1 e2 e3 e4 e5 e6 e7
  rw[← e1] at e5 e4
  exact aK (α:=List Nat × Nat × PV × PH) (P',c',v',H2) ⟨by simp only; omega,e4,e2,e3,e5,e7⟩ (by simp only; omega) e6 PH.le_refl
 ·have c1':¬ (P.length:Int)<(a.length:Nat):=by omega
  simp only[go_sem,γ,reduceCtorEq,c1']
  by_cases c2:P.length<b.length
  ·have c2':(P.length:Int)<(b.length:Nat):=by omega
   simp only[go_sem,γ,reduceCtorEq,c2']
   refine body Om _ ?_ _ (by unfold qW; exact Lq)
   intro P' c' v' F2 H2 e1 e2 e3 e4 e5 e6 e7
   rw[← e1] at e5 e4
   exact aK (α:=List Nat × Nat × PV × PH) (P',c',v',H2) ⟨by simp only; omega,e4,e2,e3,e5,e7⟩ (by simp only; omega) e6 PH.le_refl
  ·have c2':¬ (P.length:Int)<(b.length:Nat):=by omega
   simp only[go_sem,γ,reduceCtorEq,c2']
   by_cases c3:c=0
   ·have c3':¬ (c:Int)>0:=by omega
    simp only[go_sem,c3']
    exact hexit c1 c2 c3 _ rfl
   ·have c3':(c:Int)>0:=by omega
    simp only[go_sem,c3']
    refine body Om _ ?_ _ (by unfold qW; exact Lq)
    intro P' c' v' F2 H2 e1 e2 e3 e4 e5 e6 e7
    rw[← e1] at e5 e4
    exact aK (α:=List Nat × Nat × PV × PH) (P',c',v',H2) ⟨by simp only; omega,e4,e2,e3,e5,e7⟩ (by simp only; omega) e6 PH.le_refl
structure XY (C:Ctx):Prop extends atS C where
 plus:∀ a b,Lim a→Lim b→a.length≤8388608→b.length≤8388608→aD C 43 [aF a,aF b] .nil (aE (aF (aG (val a+val b))))
theorem bnY {C:Ctx} (L:XY C) (a b:List Nat) (ha:Lim a) (hb:Lim b) (la:a.length≤35184372087808) (lb:b.length≤35184372087808) :
  OH.wp C (aU aFP.res (bZ (opV (dP (val a) (val b)) (val a+val b)))) (PF.args [aF a,aF b]) .nil:=by
 unfold opV
 simp only[go_sem,reduceCtorEq,OH,aRZ,aSA,aFP]
 refine aA (L.large a ha la) rfl ?_
 by_cases c1:nl (val a)>512
 ·simp only[go_sem,γ,c1,ajN]
  rw[if_pos (by simp[dP,c1])]
  exact eC rfl
 simp only[go_sem,γ,c1]
 refine aA (L.large b hb lb) rfl ?_
 by_cases c2:nl (val b)>512
 ·simp only[go_sem,γ,reduceCtorEq,c2,ajN]
  rw[if_pos (by simp[dP,c2])]
  exact eC rfl
 rw[if_neg (by simp[dP,c1,c2])]
 simp only[go_sem,γ,reduceCtorEq,c2,aSB]
 refine aA (L.trim a ha la) rfl ?_
 simp only[go_sem,γ]
 refine aA (L.trim b hb lb) rfl ?_
 simp only[go_sem]
 have ht:=L.plus (aG (val a)) (aG (val b)) (aT _) (aT _) (by rw[aZ]; omega) (by rw[aZ]; omega)
 rw[aR,aR] at ht
 refine aA ht rfl ?_
 have n1:=aBX (a:=val a) (b:=val b) (m:=512) Om Om
 have hl:=L.large (aG (val a+val b)) (aT _) (by rw[aZ]; omega)
 rw[aR] at hl
 simp only[go_sem,γ,aSC]
 refine aA hl rfl ?_
 unfold szV szL szE
 by_cases c3:nl (val a+val b)>512
 ·rw[if_pos c3,if_pos c3]
  simp only[go_sem,γ,c3,aSD]
  exact eC rfl
 ·rw[if_neg c3,if_neg c3]
  simp only[go_sem,γ,c3,aSE]
  exact aW (.inr rfl) .nil rfl PH.nil_le ⟨.refl _,rfl⟩
theorem boN {C:Ctx} (L:XY C) (a b:List Nat) (ha:Lim a) (hb:Lim b) (la:a.length≤35184372087808) (lb:b.length≤35184372087808) :
  OX.wp C (aU aHB.res (bZ (pB (val a) (val b)))) (PF.args [aF a,aF b]) .nil:=by
 unfold pB
 simp only[go_sem,reduceCtorEq,OX,aTL,aTM,aHB]
 refine aA (L.large a ha la) rfl ?_
 by_cases c1:nl (val a)>512
 ·simp only[go_sem,γ,c1,ajT]
  rw[if_pos (by simp[dP,c1])]
  exact eC rfl
 simp only[go_sem,γ,c1]
 refine aA (L.large b hb lb) rfl ?_
 by_cases c2:nl (val b)>512
 ·simp only[go_sem,γ,reduceCtorEq,c2,ajT]
  rw[if_pos (by simp[dP,c2])]
  exact eC rfl
 rw[if_neg (by simp[dP,c1,c2])]
 simp only[go_sem,γ,reduceCtorEq,c2,aTN]
 refine aA (L.cmp a b ha hb la lb) rfl ?_
 by_cases c3:val a<val b
 ·have:dA (val a) (val b)=-1:=by simp[dA,c3]
  rw[if_pos c3]
  simp only[go_sem,ο,γ,this,show ((-1:Int)<0) by decide,aTO]
  exact eC rfl
 ·have:¬ dA (val a) (val b)<0:=by
   unfold dA
   rw[if_neg c3]
   split<;>decide
  rw[if_neg c3]
  have n1:=eY (Nat.sub_le (val a) (val b))
  have n2:=eY (Om:val b≤val a)
  simp only[go_sem,γ,reduceCtorEq,this,aTP]
  refine aA (L.trim a ha la) rfl ?_
  simp only[go_sem,γ]
  refine aA (L.trim b hb lb) rfl ?_
  simp only[go_sem]
  have ht:=L.minus (aG (val a)) (aG (val b)) (aT _) (aT _) (by rw[aR,aR]; omega) (by rw[aZ,aZ]; exact n2) (by rw[aZ]; omega)
  rw[aR,aR] at ht
  refine aA ht rfl ?_
  rw[wN Om]
  simp only[go_sem,γ]
  exact aW (.inr rfl) .nil rfl PH.nil_le ⟨.refl _,rfl⟩
def aFQ (k:Nat) (v:Nat):PF:=((PF.nil.set 3 (.int .i64 k)).set 4 (.int .u32 v))
theorem bhB {C:Ctx} (L:nC C) (xs:List Nat) (hx:Lim xs) (lx:xs.length≤35184372087808) :
  HG.wp C (aU adR.res (aE (.int .i64 (cD (val xs):Nat)))) (PF.args [aF xs]) .nil:=by
 simp only[go_sem,reduceCtorEq,HG,aFS,aFT,adR]
 refine aA (L.trim xs hx lx) rfl ?_
 have bx:=eS hx
 simp only[go_sem,γ,reduceCtorEq,aFU,bIM,aZ,yG]
 by_cases c1:nl (val xs)=0
 ·simp only[go_sem,decide_eq_true c1,aFV]
  refine aM (.inr rfl) rfl ?_
  have:val xs=0:=fX.1 c1
  simp[aX,this,gY]
 obtain⟨n,hn⟩:∃ n,nl (val xs)=n+1:=⟨nl (val xs)-1,by omega⟩
 obtain⟨t,ht,ht0⟩:=aFO (xs:=aG (val xs)) (aT _) (by rw[aR]; exact hn)
 have htl:t<4294967296:=aT _ t (bLD ht)
 have hv:val xs=val ((aG (val xs)).take n)+4294967296 ^ n*t:=by
  have:=aR (val xs)
  have hnl:n<(aG (val xs)).length:=by rw[aZ]; omega
  have hg:(aG (val xs))[n]=t:=by rw[bIW hnl] at ht; exact bLB.inj ht
  conv=>lhs; rw[← this,← bJD (l:=aG (val xs)) (i:=n+1) (by rw[aZ]; omega)]
  rw[bX _ hnl,hg]
 have hb:cD (val xs)=32*n+cD t:=by
  have h3:=eJ ((aT (val xs)).take n)
  rw[bJF,aZ,bKO Om] at h3
  have hk:=auP (lo:=val ((aG (val xs)).take n)) (k:=32*n) (hi:=t) (by rw[Nat.pow_mul]; exact h3) ht0
  rw[← hk,Nat.pow_mul]
  exact congrArg cD hv
 have bGV:(aH (aG (val xs)))[n]?=some [.int .u32 (t:Nat)]:=by
  simp[aH,ht]
 have e1:IntKind.i64.wrap (((nl (val xs):Nat):Int)-1)=(n:Int):=by rw[wrap_i64 Om Om]; omega
 have e2:IntKind.i64.wrap (32*(n:Int))=((32*n:Nat):Int):=by rw[wrap_i64 Om Om]; omega
 simp only[go_sem,γ,reduceCtorEq,decide_eq_false c1,aFW,aFX,bIM,aZ,e1,e2,bGV]
 refine wp_loop (α:=Nat × Nat) (fun a=>aFQ a.1 a.2) (fun _=>.nil) (fun a=>a.1+cD a.2=32*n+cD t∧a.2<4294967296) (fun a=>a.2) (32*n,t) ⟨rfl,htl⟩ ?_ PH.nil_le ?_
 ·unfold aFQ
  exact Lq
 rintro⟨k,v⟩ ⟨hk,hlt⟩
 simp only at hk hlt
 have hk32:cD t≤32:=(kE t 32).2 htl
 simp only[go_sem,γ,aFR,aFY,aFQ]
 by_cases c2:(v:Int)>0
 ·have hv0:v≠0:=by omega
  have hsh:IntKind.u32.wrap (Int.tdiv (v:Int) 2)=((v/2:Nat):Int):=by
   rw[show Int.tdiv (v:Int) 2=((v/2:Nat):Int) from Int.ofNat_tdiv v 2,cB,bJV Om]
  simp only[go_sem,μ,γ,c2,aFZ,aGA,hsh,wZz k]
  refine aK (k+1,v/2) ⟨?_,?_⟩ (Nat.div_lt_self Om (by decide)) ?_ PH.nil_le
  ·have:=mR hv0
   simp only; omega
  ·simp only; omega
  ·exact Lq
 ·have:v=0:=by omega
  subst this
  simp only[go_sem,γ,c2,apG]
  refine aM (.inr rfl) rfl ?_
  rw[gY] at hk
  simp only[aX,PV.int.injEq,true_and]
  omega
theorem aoS (n:Nat):4294967296 ^ (n/32)*2 ^ (n%32)=2 ^ n:=by
 rw[show (4294967296:Nat)=2 ^ 32 by decide,← Nat.pow_mul,← Nat.pow_add]
 congr 1
 omega
theorem a7Z (n:Nat):IntKind.i64.wrap (Int.tdiv (n:Int) 32)=IntKind.i64.wrap ((n/32:Nat):Int):=by
 rw[show Int.tdiv (n:Int) 32=((n/32:Nat):Int) from Int.ofNat_tdiv n 32]
theorem a8A (n:Nat):Int.tmod (n:Int) 32=((n%32:Nat):Int):=Int.ofNat_tmod n 32
def bhR (a:List Nat) (n:Nat) (v:PV) (c i:Nat):PF:=(((((PF.nil.set 0 (aF a)).set 1 (.int .i64 n)).set 5 (v)).set 6 (.int .u64 c)).set 7 (.int .i64 i))
theorem brR {C:Ctx} (L:nC C) (a:List Nat) (n:Nat) (ha:Lim a) (h1:a.length≤8388608) (hn:n≤8388608) (h0:a.length=0→val a=0) :
  XE.wp C (aU uup.res (kI 1 (aH (aG (val a*2 ^ n))))) (PF.args [aF a,.int .i64 n]) .nil:=by
 simp only[go_sem,γ,reduceCtorEq,XE,a8M,a8N,uup,bIM,yG]
 by_cases c0:a.length=0
 ·simp only[go_sem,decide_eq_true c0,a8O]
  rw[h0 c0,Nat.zero_mul,eU]
  exact CD (.inr rfl) rfl
 have ez:IntKind.i64.wrap (Int.tdiv (n:Int) 32)=((n/32:Nat):Int):=by rw[a7Z,xB Om]
 have em:=a8A n
 have eu:IntKind.u64.wrap ((n%32:Nat):Int)=((n%32:Nat):Int):=bD Om
 have hsp:=aoS n
 have hs:n%32<32:=bKA _ (by decide)
 have hz:n/32≤8388608:=by omega
 generalize hzz:n/32=z at *
 generalize hss:n%32=s at *
 have hm1:((z:Nat):Int)*((4:Nat):Int)≤140737488355328:=by omega
 have hm2:((z:Nat):Int)≤9223372036854775807:=by omega
 have hzr:bIP z [PV.int .u32 0]=aH (bIP z 0):=by
  simp[aH]
 have h2s:2 ^ s≤2147483648:=Nat.pow_le_pow_right (show 0<2 by decide) (Om:s≤31)
 have h2s0:0<2 ^ s:=bLA (by decide)
 simp only[go_sem,μ,γ,decide_eq_false c0,a8P,ez,hm1,hm2,hzr]
 refine aQ fun o ho=>?_
 simp only[go_sem,γ,a8Q,a8R]
 refine wp_loop (α:=List Nat × Nat × Nat × PV × PH) (fun t=>bhR a n t.2.2.2.1 t.2.1 t.2.2.1) (fun t=>t.2.2.2.2)
  (fun t=>t.2.2.1≤a.length∧t.1.length=z+t.2.2.1∧Lim t.1∧t.2.1<2 ^ s∧val t.1+4294967296 ^ t.1.length*t.2.1=val (a.take t.2.2.1)*2 ^ n∧bM t.2.2.2.2 1 t.2.2.2.1 (aH t.1)) (fun t=>a.length-t.2.2.1) (bIP z 0,0,0,.osl o 1 0 z,PH.nil.set o (.rows 1 (aH (bIP z 0))))
  ⟨by simp,by simp,sS _,h2s0,by simp[val,pV],.inr ⟨o,aH (bIP z 0),by rw[bU,bLX],by simp only[go_sem],by rw[bU]; exact bIO _,bJN⟩⟩ ?_ PH.le_refl ?_
 ·unfold bhR
  exact Lq
 rintro⟨P,c,i,v,H0⟩ ⟨hi,hP,bHF,hc,bHB,hO⟩
 simp only at hi hP bHF hc bHB hO ⊢
 simp only[go_sem,γ,reduceCtorEq,aTQ,a8S,bhR]
 by_cases c1:i<a.length
 ·have c1':(i:Int)<(a.length:Nat):=by omega
  have hai:=ha _ (bIR c1)
  have hta:=bX a c1
  have hax:=bL a c1
  generalize hx:a[i]=x at *
  have hxs:x*2 ^ s≤4294967295*2147483648:=Nat.mul_le_mul Om h2s
  have ex:IntKind.u64.wrap ((x:Nat):Int)=((x:Nat):Int):=bD Om
  have hxs':2 ^ s*x=x*2 ^ s:=bJK _ _
  have esh:shift .shl .u64 (x:Int) (s:Int)=some (.int .u64 ((2 ^ s*x:Nat):Int)):=GW Om Om
  have eor:=orI (a:=2 ^ s*x) (b:=c) (n:=c+2 ^ s*x) Om Om (by rw[Nat.or_comm]; exact aCX hc Om) Om
  have hdig:(c+2 ^ s*x)/4294967296<2 ^ s:=by
   rw[bLG (by decide)]
   have:2 ^ s*(x+1)≤2 ^ s*4294967296:=bKP _ Om
   rw[bIZ,Nat.mul_one] at this
   omega
  have hb1:(1:Nat)*1≤16777216:=by decide
  simp only[go_sem,μ,υ,γ,η,ζ,reduceCtorEq,c1',a8T,hax,ex,em,eu,esh,eor,a8U,cB,hb1]
  refine fR (src:=[[.int .u32 (((c+2 ^ s*x)%4294967296:Nat):Int)]]) hO rfl (nL Om) fun v' H' hO' _=>?_
  rw[nM] at hO'
  simp only[go_sem,γ,reduceCtorEq,a8V,uG,aTR,wZz i]
  refine aK (P++[(c+2 ^ s*x)%4294967296],(c+2 ^ s*x)/4294967296,i+1,v',H') ⟨by simp only; omega,by simp; omega,bHF.app fun y hy=>by simp at hy; subst hy; exact bKA _ (by decide),hdig,?_,hO'⟩ (by simp only; omega) ?_ PH.le_refl
  ·simp only
   have hp:4294967296 ^ P.length*(2 ^ s*x)=4294967296 ^ i*x*2 ^ n:=by
    rw[hP,Nat.pow_add,← hsp]
    rw[bJH,Nat.mul_left_comm (4294967296 ^ i),← bJH (4294967296 ^ z),bJK (4294967296 ^ z*2 ^ s),bJH,bJK x]
   rw[gW,bIU,bJC,bKE,bJH,bKX,← bIZ,Nat.mod_add_div,hta,bIZ,bJP,← bKX,bHB,hp]
  ·exact Lq
 ·have e:i=a.length:=by omega
  subst e
  have c1':¬ ((a.length:Nat):Int)<(a.length:Nat):=by omega
  have hb1:(1:Nat)*1≤16777216:=by decide
  have hV:val (P++[c])=val a*2 ^ n:=by
   rw[gW,bHB,bJN]
  have hLc:Lim (P++[c]):=bHF.app fun x hx=>by simp at hx; omega
  have ec:IntKind.u32.wrap ((c:Nat):Int)=((c:Nat):Int):=by rw[cB,bJV Om]
  simp only[go_sem,υ,γ,η,ζ,reduceCtorEq,c1',aTS,ec,hb1]
  refine fR (src:=[[.int .u32 ((c:Nat):Int)]]) hO rfl (nL Om) fun v' H' hO' _=>?_
  rw[nM] at hO'
  have hs:=L.trimM _ hLc (by simp; omega)
  rw[hV] at hs
  refine asX hs hO' rfl fun F1 H1 _ r H2 hr _=>?_
  simp only[go_sem]
  exact a7J (.inr rfl) hr rfl
def OK (a:List Nat) (n:Nat) (v:PV) (i:Nat):PF:=((((PF.nil.set 0 (aF a)).set 1 (.int .i64 n)).set 5 (v)).set 6 (.int .i64 i))
theorem bhF {C:Ctx} (L:nC C) (a:List Nat) (n:Nat) (ha:Lim a) (h1:a.length≤8388608) (hn:n≤1000000000) :
  HK.wp C (aU adZ.res (bZ (aF (aG (val a/2 ^ n))))) (PF.args [aF a,.int .i64 n]) .nil:=by
 have ez:IntKind.i64.wrap (Int.tdiv (n:Int) 32)=((n/32:Nat):Int):=by rw[a7Z,xB Om]
 have em:=a8A n
 have eu:IntKind.u64.wrap ((n%32:Nat):Int)=((n%32:Nat):Int):=bD Om
 have hsp:=aoS n
 have hs:n%32<32:=bKA _ (by decide)
 have hz:n/32≤1000000000:=by omega
 generalize hzz:n/32=z at *
 generalize hss:n%32=s at *
 simp only[go_sem,μ,γ,reduceCtorEq,HK,aGH,aGI,adZ,bIM,ez]
 by_cases c0:a.length≤z
 ·have c0':((z:Nat):Int)≥(a.length:Nat):=by omega
  have hq:val a/2 ^ n=0:=by
   refine bLR (Nat.lt_of_lt_of_le (eJ ha) ?_)
   rw[← hsp]
   exact Nat.le_trans (Nat.pow_le_pow_right (by decide) c0) (Nat.le_mul_of_pos_right _ (bLA (by decide)))
  simp only[go_sem,c0',aGJ]
  rw[hq,eU]
  exact aW (vs:=[.aB]) (.inr rfl) .nil rfl PH.nil_le ⟨.nil 1,rfl⟩
 have c0':¬ ((z:Nat):Int)≥(a.length:Nat):=by omega
 have hR:val a/2 ^ n=val (a.drop z)/2 ^ s:=by
  rw[rV ha Om,← hsp,Nat.div_div_eq_div_mul]
 have hLd:Lim (a.drop z):=ha.drop z
 simp only[go_sem,μ,γ,c0',aGK,aGL,ez]
 refine wp_loop (α:=List Nat × PV × PH) (fun t=>OK a n t.2.1 (z+t.1.length)) (fun t=>t.2.2)
  (fun t=>z+t.1.length≤a.length∧t.1=dL t.1.length (val (a.drop z)/2 ^ s)∧bM t.2.2 1 t.2.1 (aH t.1)) (fun t=>a.length-t.1.length) ([],.aB,.nil)
  ⟨by simp; omega,rfl,.nil⟩ ?_ PH.nil_le ?_
 ·unfold OK
  (repeat' (first|exact PF.nil_le|refine PF.aI ?_ ?_))<;>first|(simp only[go_sem,γ,reduceCtorEq,bKY]<;>rfl)|rfl
 rintro⟨P,v,H0⟩ ⟨hP,hD,hO⟩
 simp only at hP hD hO ⊢
 simp only[go_sem,γ,reduceCtorEq,apH,aGM,OK]
 have hlimP:Lim P:=by rw[hD]; exact kP _ _
 by_cases c1:z+P.length<a.length
 ·have c1':((z+P.length:Nat):Int)<(a.length:Nat):=by omega
  have hai:=ha _ (bIR c1)
  have hax:=bL a c1
  have hkl:P.length≤(a.drop z).length:=by rw[bKN]; omega
  have hvd:=rV hLd hkl
  have hdrop:(a.drop z).drop P.length=a[z+P.length]::a.drop (z+P.length+1):=by
   rw[List.drop_drop,bKG c1]
  generalize hx:a[z+P.length]=x at *
  have ex:IntKind.u64.wrap ((x:Nat):Int)=((x:Nat):Int):=bD Om
  have hb1:(1:Nat)*1≤16777216:=by decide
  have ew:IntKind.i64.wrap (((z+P.length:Nat):Int)+1)=((z+P.length+1:Nat):Int):=dE Om
  have fin:∀ (t:Nat) (F:PF),t<18446744073709551616→val (a.drop z)/4294967296 ^ P.length%(4294967296*4294967296)=t→F 0=some (aF a)→F 1=some (.int .i64 n)→F 5=some v→F 6=some (.int .i64 (z+P.length:Nat))→F 7=some (.int .u64 t) →
    ∀ K:cN,(∀ v' F2 H2,(OK a n v' (z+(P.length+1))).le F2→bM H2 1 v' (aH (P++[t/2 ^ s%4294967296]))→(P++[t/2 ^ s%4294967296])=dL (P.length+1) (val (a.drop z)/2 ^ s)→K .normal F2 H2) →
    aC.wp C (.region WY) (dX 1 (iH C (aC.wp C (.region OL)) K)) F H0:=by
   intro t F ht hte f0 f1 f5 f6 f7 K hK
   have esh:shift .shr .u64 (t:Int) (s:Int)=some (.int .u64 ((t/2 ^ s:Nat):Int)):=brP Om
   simp only[go_sem,μ,υ,γ,η,ζ,WY,f5,f7,f1,em,eu,esh,cB,hb1]
   refine fR (src:=[[.int .u32 ((t/2 ^ s%4294967296:Nat):Int)]]) hO rfl (nL Om) fun v' H' hO' _=>?_
   rw[nM] at hO'
   simp only[go_sem,γ,OL,f6,ew]
   refine hK v' _ H' ?_ hO' ?_
   ·unfold OK
    exact Lq
   ·rw[sO,← hD]
    congr 2
    have e:val (a.drop z)/4294967296 ^ P.length=t%4294967296+4294967296*(t/4294967296+4294967296*(val (a.drop z)/4294967296 ^ P.length/(4294967296*4294967296))):=by
     have:=Nat.mod_add_div (val (a.drop z)/4294967296 ^ P.length) (4294967296*4294967296)
     rw[hte] at this
     have h2:=Nat.mod_add_div t 4294967296
     rw[bIZ,← bKX,h2,← bJH]
     exact this.symm
    have:=TD hs e
    rw[this]
    congr 2
    have h2:=Nat.mod_add_div t 4294967296
    omega
  simp only[aC.wp,go_sem] at fin
  simp only[go_sem,γ,reduceCtorEq,c1',aGN,hax,ex,aGO,ew]
  by_cases c2:z+P.length+1<a.length
  ·have c2':((z+P.length+1:Nat):Int)<(a.length:Nat):=by omega
   have hai2:=ha _ (bIR c2)
   have hax2:=bL a c2
   rw[bKG c2] at hdrop
   generalize hy:a[z+P.length+1]=y at *
   have ey:IntKind.u64.wrap ((y:Nat):Int)=((y:Nat):Int):=bD Om
   have esh:shift .shl .u64 (y:Int) ((32:Nat):Int)=some (.int .u64 ((2 ^ 32*y:Nat):Int)):=GW (by decide) Om
   have eor:=orI (a:=x) (b:=2 ^ 32*y) (n:=x+2 ^ 32*y) Om Om (aCX Om Om) Om
   simp only[go_sem,γ,reduceCtorEq,c2',aGP,ew,hax2,ey,show shift .shl .u64 (y:Int) 32=_ from esh,eor]
   refine fin (x+2 ^ 32*y) _ Om ?_ rfl rfl rfl rfl rfl _ ?_
   ·rw[← hvd,hdrop]
    simp only[val]
    omega
   ·intro v' F2 H2 e1 e2 e3
    refine aK (α:=List Nat × PV × PH) (P++[(x+2 ^ 32*y)/2 ^ s%4294967296],v',H2) ⟨by simp; omega,by simpa using e3,e2⟩ (by simp; omega) ?_ PH.le_refl
    simp only[bIU,bJC]
    exact e1
  ·have c2':¬ ((z+P.length+1:Nat):Int)<(a.length:Nat):=by omega
   rw[bLU (l:=a) (i:=z+P.length+1) Om] at hdrop
   simp only[go_sem,c2']
   refine fin x _ Om ?_ rfl rfl rfl rfl rfl _ ?_
   ·rw[← hvd,hdrop]
    simp only[val]
    omega
   ·intro v' F2 H2 e1 e2 e3
    refine aK (α:=List Nat × PV × PH) (P++[x/2 ^ s%4294967296],v',H2) ⟨by simp; omega,by simpa using e3,e2⟩ (by simp; omega) ?_ PH.le_refl
    simp only[bIU,bJC]
    exact e1
 ·have e:z+P.length=a.length:=by omega
  have c1':¬ ((z+P.length:Nat):Int)<(a.length:Nat):=by omega
  have hV:val P=val (a.drop z)/2 ^ s:=by
   rw[hD]
   refine mF (Nat.lt_of_le_of_lt (Nat.div_le_self _ _) ?_)
   have:=eJ hLd
   rw[bKN] at this
   rw[show P.length=a.length-z by omega]
   exact this
  have hs:=L.trim _ hlimP Om
  rw[hV,← hR] at hs
  simp only[go_sem,γ,reduceCtorEq,c1',apI]
  refine qY hs hO rfl fun F1 H1 _=>?_
  simp only[go_sem]
  exact aW (.inr rfl) .nil rfl PH.nil_le ⟨.refl _,rfl⟩
structure JO (C:Ctx):Prop extends XY C where
 bits:∀ xs,Lim xs→xs.length≤35184372087808→aD C 31 [aF xs] .nil (aE (.int .i64 (cD (val xs):Nat)))
 upM:∀ (a:List Nat) (n:Nat),Lim a→a.length≤8388608→n≤8388608→(a.length=0→val a=0)→aD C 45 [aF a,.int .i64 n] .nil (kI 1 (aH (aG (val a*2 ^ n))))
 down:∀ (a:List Nat) (n:Nat),Lim a→a.length≤8388608→n≤1000000000→aD C 40 [aF a,.int .i64 n] .nil (aE (aF (aG (val a/2 ^ n))))
def udS:Spec:=fun name vs=>match name,vs with
 | 35,[.int _ v]=>some ([],fun _=>aE (aF (aG v.toNat)))
 | 44,[x,y]=>some ([],fun _=>aE (aF (aG (val (gQ x)*val (gQ y)))))
 | 32,[x,.osl q _ _ _]=>some ([q],fun H0 r H'=>H'=H0∧∀ xs,Lim xs→H0 q=some (.rows 1 (aH xs))→r=.int .i64 (dA (val (gQ x)) (val xs)))
 | _,_=>none
theorem bhE (v:Nat):udS 35 [.int .u64 v]=some ([],fun _=>aE (aF (aG v))):=rfl
theorem a8E (x y:List Nat):udS 44 [aF x,aF y]=some ([],fun _=>aE (aF (aG (val x*val y)))):=by
 show some ([],fun _=>aE (aF (aG (val (gQ (aF x))*val (gQ (aF y))))))=_; rw[dW,dW]
theorem bcK (q:Nat) (x L:List Nat):(PH.nil.set q (.rows 1 (aH L)))=(PH.nil.set q (.rows 1 (aH L)))∧∀ xs,Lim xs→(PH.nil.set q (.rows 1 (aH L))) q=some (.rows 1 (aH xs))→(PV.int .i64 (dA (val x) (val L)))=.int .i64 (dA (val (gQ (aF x))) (val xs)):=by
 refine⟨rfl,fun xs hx e=>?_⟩
 rw[dM] at e
 have:aH L=aH xs:=(cP.rows.inj (bLB.inj e)).2
 rw[MI this,dW]
def duF (n o lx:Nat) (y:List Nat) (top oq lq:Nat) (k:Int):PF :=
 ((((((PF.nil.set 10 (.int .i64 n)).set 11 (.osl o 1 0 lx)).set 12 (aF y)).set 13 (.int .u64 top)).set 14 (.osl oq 1 0 lq)).set 15 (.int .i64 k))
abbrev dQ (X:List Nat) (Z:List (List PV)):List (List PV):=aH X++Z
theorem IF {X:List Nat} {Z:List (List PV)} {i:Nat} (h:i<X.length):(dQ X Z)[i]?=some [.int .u32 ((X[i]:Nat):Int)]:=by
 rw[dQ,bLC (by rw[bU]; exact h),bL X h]
theorem arS {X:List Nat} {Z:List (List PV)} {i:Nat} (h:i<X.length) (v:Nat):(dQ X Z).set i [.int .u32 (v:Int)]=dQ (X.set i v) Z:=by
 rw[dQ,List.set_append_left _ _ (by rw[bU]; exact h),eT]
theorem arR {X:List Nat} {Z:List (List PV)} {j m:Nat} (h:j+m≤X.length):((dQ X Z).drop j).take m=aH ((X.drop j).take m):=by
 rw[dQ,List.drop_append_of_le_length (by rw[bU]; omega),List.take_append_of_le_length (by rw[bKN,bU]; omega)]
 unfold aH
 rw[← List.map_drop,← List.map_take]
theorem brQ {C:Ctx} (L:JO C) (n o lx:Nat) (y:List Nat) (top oq lq j:Nat) (X:List Nat) (Z:List (List PV)) (hne:oq≠o) (hy:Lim y) (hX:Lim X) (hlx:X.length=lx) (hl:lx≤5000) (hj:j+(y.length+1)≤lx) (hy0:0<val y)
  (qv:cP) (g0:Nat) (hg:val ((X.drop j).take (y.length+1))/val y≤g0) (hg0:g0<4294967296) (K:cN) (F:PF) (H:PH) (hF:((duF n o lx y top oq lq j).set 17 (.int .u64 g0)).le F) (hH:((PH.nil.set o (.rows 1 (dQ X Z))).set oq qv).le H)
  (hK:∀ F' H',((duF n o lx y top oq lq j).set 17 (.int .u64 (val ((X.drop j).take (y.length+1))/val y:Nat))).le F'→((PH.nil.set o (.rows 1 (dQ X Z))).set oq qv).le H'→K .normal F' H') :
  aC.wp C (.block 4 (.loop sE)) K F H:=by
 have bHN:¬ o=oq:=fun h=>hne h.symm
 have hWl:((X.drop j).take (y.length+1)).length=y.length+1:=by rw[bJF,bKN]; omega
 have hWL:Lim ((X.drop j).take (y.length+1)):=(hX.drop _).take _
 have hcut:=arR (X:=X) (Z:=Z) (j:=j) (m:=y.length+1) Om
 have bII:j+(y.length+1)≤(dQ X Z).length:=by rw[dQ,bIU,bU]; omega
 have hWn:aH ((X.drop j).take (y.length+1))≠[]:=fun h=>by
  have:=congrArg List.length h
  rw[bU,hWl] at this
  simp at this
 generalize hW:(X.drop j).take (y.length+1)=W at *
 generalize hqq:val W/val y=qq at *
 simp only[go_sem]
 refine wp_loop (α:=Nat) (fun g=>(duF n o lx y top oq lq j).set 17 (.int .u64 g)) (fun _=>(PH.nil.set o (.rows 1 (dQ X Z))).set oq qv) (fun g=>qq≤g∧g<4294967296) (fun g=>g) g0 ⟨hg,hg0⟩ hF hH ?_
 rintro g ⟨hge,hlt⟩
 have e1:IntKind.i64.wrap ((j:Int)+((y.length:Nat):Int))=((j+y.length:Nat):Int):=fH Om
 have e2:IntKind.i64.wrap (((j+y.length:Nat):Int)+1)=((j+y.length+1:Nat):Int):=dE Om
 have b1:(j:Int)≤((j+y.length+1:Nat):Int):=by omega
 have b2:((j+y.length+1:Nat):Int)≤(lx:Nat):=by omega
 have b3:j+y.length+1-j=y.length+1:=by omega
 have mk:=L.make g Om
 have tm:=L.times y (aG g) hy (aT _) Om (by
  have h1:nl g≤1:=lO (by rw[Nat.pow_one]; exact hlt)
  rw[aZ]; omega)
 rw[aR] at tm
 have hnt:(aG (val y*g)).length≤35184372087808:=by
  have h1:nl g≤1:=lO (by rw[Nat.pow_one]; exact hlt)
  have h2:=kA (a:=val y) (b:=g) (eS hy) h1
  rw[aZ]; omega
 have cm:=L.cmp (aG (val y*g)) W (aT _) hWL hnt Om
 rw[aR] at cm
 simp only[go_sem,sE]
 refine bT .nil udS PH.nil_le ?_
 simp only[go_sem,γ,TP,duF]
 refine bK (bhE g) mk Sq PH.nil_le ?_
 simp only[go_sem]
 have tS:=a8E y (aG g)
 rw[aR] at tS
 refine bK tS tm Sq PH.nil_le ?_
 simp only[go_sem,γ,reduceCtorEq,bIM,e1,e2,b1,b2,b3]
 refine wY (src:=aH W) ?_ ?_ (fun h=>absurd h hWn) fun _ o' ho'=>?_
 ·simp only[go_sem,bHN,bII,hcut]
 ·unfold roomFor
  rw[bU,hWl]
  simp only[maxLen]; omega
 refine⟨PH.nil_le,?_⟩
 rw[bU,hWl]
 have n1:¬ o'=oq:=(cV.1 ho').1
 refine bcM (o:=o') (s:=1) (rs:=aH W) (vs:=[aF (aG (val y*g)),.osl o' 1 0 (y.length+1)]) (v:=.int .i64 (dA (val y*g) (val W))) rfl (.int _ _) Sq ?_ ?_ ?_ Sq PH.nil_le ?_
 ·rw[bKV,bKV,List.map_nil,pH (by rw[bU,hWl]; exact bIO _),bJD (by rw[bU,hWl]; exact bIO _)]
  exact cm
 ·have:=bcK o' (aG (val y*g)) W
  rw[aR] at this
  exact this
 ·rintro r H' ⟨h1,h2⟩
  have:=h2 W hWL (by rw[dM])
  rw[dW,aR] at this
  exact⟨this,h1⟩
 simp only[go_sem,γ]
 by_cases c:val W<val y*g
 ·have hc:dA (val y*g) (val W)=1:=by
   unfold dA
   rw[if_neg Om,if_pos c]
  have hq:qq<g:=by rw[← hqq]; exact (bLG hy0).2 (by rw[bJK]; exact c)
  have ew:IntKind.u64.wrap ((g:Int)-1)=((g-1:Nat):Int):=by rw[wrap_u64 Om Om]; omega
  simp only[go_sem,γ,hc,show (1:Int)>0 by decide,TQ,ew]
  refine aK (g-1) ⟨by omega,by omega⟩ Om ?_ ?_
  ·exact Lq
  ·refine PH.aI (PH.aI PH.nil_le ?_) ?_
   ·have n2:¬ o=o':=fun h=>by
     subst h
     rw[bH,if_neg bHN,dM] at ho'
     cases ho'
    simp only[go_sem,n2,bHN]
   ·have n3:¬ oq=o':=fun h=>n1 h.symm
    simp only[go_sem,n3]
 ·have hc:¬ dA (val y*g) (val W)>0:=by
   unfold dA
   rw[if_neg c]
   split<;>decide
  have hq:g=qq:=by
   have:g≤qq:=by rw[← hqq]; exact (Nat.le_div_iff_mul_le hy0).2 (by rw[bJK]; omega)
   omega
  simp only[go_sem,hc]
  refine hK _ _ ?_ ?_
  ·unfold duF
   (repeat' (first|exact PF.nil_le|refine PF.aI ?_ ?_))<;>first|(simp only[go_sem,γ,← hq]<;>rfl)|rfl
  ·refine PH.aI (PH.aI PH.nil_le ?_) ?_
   ·have n2:¬ o=o':=fun h=>by
     subst h
     rw[bH,if_neg bHN,dM] at ho'
     cases ho'
    simp only[go_sem,n2,bHN]
   ·have n3:¬ oq=o':=fun h=>n1 h.symm
    simp only[go_sem,n3]
theorem bmD (R k:Nat) (h:k<nl R):∃ h':k<(aG R).length,(aG R)[k]=R/4294967296 ^ k%4294967296:=by
 have hl:k<(aG R).length:=by rw[aZ]; exact h
 refine⟨hl,?_⟩
 have h1:=rV (aT R) (Nat.le_of_lt hl)
 rw[aR,bKG hl] at h1
 have h2:=aT R _ (bIR hl)
 simp only[val] at h1
 rw[← h1,Nat.add_mul_mod_self_left,bJV h2]
theorem beN (R k:Nat) (h:nl R≤k):R/4294967296 ^ k%4294967296=0:=by
 rw[bLR ((gI R k).1 h)]
theorem bnR {A P W Z:List Nat} {i:Nat} (hP:P.length=i) (hi:i<W.length) (v:Nat):(A++(P++W.drop i)++Z).set (A.length+i) v=A++((P++[v])++W.drop (i+1))++Z :=
 MI (by rw[← eT]; exact CF hP hi v)
theorem buS {C:Ctx} (n o lx:Nat) (y:List Nat) (top oq lq j:Nat) (X:List Nat) (Z:List (List PV)) (hne:oq≠o) (hlx:X.length=lx) (hl:lx≤5000) (hj:j+(y.length+1)≤lx)
  (qv:cP) (g R:Nat) (K:cN) (F:PF) (H:PH) (hF:((((duF n o lx y top oq lq j).set 17 (.int .u64 g)).set 18 (aF (aG R))).set 19 (.int .i64 0)).le F) (hH:((PH.nil.set o (.rows 1 (dQ X Z))).set oq qv).le H)
  (hK:∀ F' H',((duF n o lx y top oq lq j).set 17 (.int .u64 g)).le F'→((PH.nil.set o (.rows 1 (dQ (X.take j++dL (y.length+1) R++X.drop (j+(y.length+1))) Z))).set oq qv).le H'→K .normal F' H') :
  aC.wp C (.block 6 (.loop sF)) K F H:=by
 have bHN:¬ o=oq:=fun h=>hne h.symm
 have hA:(X.take j).length=j:=by rw[bJF]; omega
 have hWl:((X.drop j).take (y.length+1)).length=y.length+1:=by rw[bJF,bKN]; omega
 have hZl:(X.drop (j+(y.length+1))).length=lx-(j+(y.length+1)):=by rw[bKN,hlx]
 have hsplit:X.take j++(X.drop j).take (y.length+1)++X.drop (j+(y.length+1))=X:=by
  rw[bJM,← List.drop_drop,bKZ,bKZ]
 rw[← hsplit] at hH
 generalize hAA:X.take j=A at *
 generalize hWW:(X.drop j).take (y.length+1)=W at *
 generalize hZZ:X.drop (j+(y.length+1))=Zx at *
 simp only[go_sem]
 refine wp_loop (α:=List Nat) (fun P=>(((duF n o lx y top oq lq j).set 17 (.int .u64 g)).set 18 (aF (aG R))).set 19 (.int .i64 P.length)) (fun P=>(PH.nil.set o (.rows 1 (dQ (A++(P++W.drop P.length)++Zx) Z))).set oq qv)
  (fun P=>P.length≤y.length+1∧P=dL P.length R) (fun P=>y.length+1-P.length) [] ⟨bIX _,rfl⟩ hF (by simpa using hH) ?_
 rintro P ⟨hP,hD⟩
 simp only[go_sem,γ,sF,TR,duF]
 by_cases c:P.length<y.length+1
 ·have c':(P.length:Int)≤(y.length:Nat):=by omega
  have ei:IntKind.i64.wrap ((j:Int)+(P.length:Int))=((j+P.length:Nat):Int):=fH Om
  have hlen:(A++(P++W.drop P.length)++Zx).length=lx:=by
   simp only[bIU,bKN]; omega
  have hi:j+P.length<(A++(P++W.drop P.length)++Zx).length:=by omega
  have b1:((j+P.length:Nat):Int)<(lx:Nat):=by omega
  have r1:=IF (Z:=Z) hi
  have s1:=arS (Z:=Z) hi 0
  have hi2:j+P.length<((A++(P++W.drop P.length)++Zx).set (j+P.length) 0).length:=by rw[bKI]; exact hi
  have hput:=fun v=>bnR (A:=A) (P:=P) (W:=W) (Z:=Zx) (i:=P.length) rfl Om v
  rw[hA] at hput
  generalize hXX:A++(P++W.drop P.length)++Zx=XX at *
  have r2:(dQ (A++((P++[0])++W.drop (P.length+1))++Zx) Z)[j+P.length]?=some [.int .u32 ((0:Nat):Int)]:=by
   rw[← hput 0,IF hi2,List.getElem_set_self]
  have s2:∀ v,(dQ (A++((P++[0])++W.drop (P.length+1))++Zx) Z).set (j+P.length) [.int .u32 ((v:Nat):Int)]=dQ (A++((P++[v])++W.drop (P.length+1))++Zx) Z:=by
   intro v
   rw[← hput 0,arS hi2,List.set_set,hput]
  have bHK:=sO P.length R
  rw[← hD] at bHK
  have ew:IntKind.i64.wrap ((P.length:Int)+1)=((P.length+1:Nat):Int):=dE Om
  simp only[go_sem,γ,c',TS,ei,b1,bHN,r1,show ([PV.int .u32 (0:Int)])=[PV.int .u32 ((0:Nat):Int)] from rfl,s1,TT,aZ]
  by_cases c2:P.length<nl R
  ·have c2':(P.length:Int)<(nl R:Nat):=by omega
   obtain⟨hl',hv⟩:=bmD R P.length c2
   have hr:=bL (aG R) hl'
   rw[hv] at hr
   simp only[go_sem,γ,c2',TU,hr,ei,b1,bHN,r2,s2,List.set_set,hput,AJ,ew]
   refine aK (P++[R/4294967296 ^ P.length%4294967296]) ⟨by simp; omega,by rw[bIU,bJC]; exact bHK.symm⟩ (by simp; omega) ?_ ?_
   ·rw[bIU,bJC]
    exact Lq
   ·rw[bIU,bJC]
    refine PH.aI (PH.aI PH.nil_le ?_) ?_<;>simp only[go_sem,bHN,show ¬ oq=o from hne]
  ·have c2':¬ (P.length:Int)<(nl R:Nat):=by omega
   have hv:=beN R P.length Om
   rw[hv] at bHK
   simp only[go_sem,γ,c2',hput,AJ,ew]
   refine aK (P++[0]) ⟨by simp; omega,by rw[bIU,bJC]; exact bHK.symm⟩ (by simp; omega) ?_ ?_
   ·rw[bIU,bJC]
    exact Lq
   ·rw[bIU,bJC]
    refine PH.aI (PH.aI PH.nil_le ?_) ?_<;>simp only[go_sem,bHN,show ¬ oq=o from hne]
 ·have c':¬ (P.length:Int)≤(y.length:Nat):=by omega
  have e:P.length=y.length+1:=by omega
  simp only[go_sem,c']
  refine hK _ _ (by unfold duF; exact Lq) ?_
  have h2:A++dL (y.length+1) R++Zx=A++(P++W.drop P.length)++Zx:=by
   rw[bLU Om,bKM,← e,← hD]
  rw[h2]
  exact PH.le_refl
theorem bdY {y W:List Nat} {m:Nat} (hy:Lim y) (hW:Lim W) (hly:y.length=m+1) (hlW:W.length=m+2) (ht:0<y[m]):val W/val y≤(4294967296*W[m+1]+W[m])/y[m]:=by
 have h1:=bX y (Om:m<y.length)
 rw[bJD Om] at h1
 have h2:=bX W (Om:m+1<W.length)
 rw[bJD Om,bX W (Om:m<W.length)] at h2
 have h3:=eJ (hW.take m)
 rw[bJF,bKO Om] at h3
 have hp:0<4294967296 ^ m:=bLA (by decide)
 have hb:4294967296 ^ m*y[m]≤val y:=by omega
 have hpos:0<4294967296 ^ m*y[m]:=Nat.mul_pos hp ht
 have e:val W=val (W.take m)+4294967296 ^ m*(4294967296*W[m+1]+W[m]):=by
  rw[h2,bKE,bIZ,bJH]; omega
 refine Nat.le_trans (Nat.div_le_div_left hb hpos) ?_
 rw[← Nat.div_div_eq_div_mul,e,Nat.add_mul_div_left _ _ hp,bLR h3,bJL]
 exact bIO _
theorem a8F {C:Ctx} (L:JO C) (U0 n o lx lq oq m:Nat) (y z:List Nat) (hne:oq≠o) (hy:Lim y) (hly:y.length=m+1) (ht:0<y[m]) (hlu:lx=lq+(m+1)) (bID:lx≤5000) (X:List Nat) (hI:mN U0 (val y) (m+1) lx lq lq X (bIP lq 0)) (K:cN) (F:PF) (H:PH)
  (hF:(duF n o lx y (y[m]) oq lq ((lq:Int)-1)).le F) (hH:((PH.nil.set o (.rows 1 (dQ X (aH z)))).set oq (.rows 1 (aH (bIP lq 0)))).le H)
  (hK:∀ X' Q' F' H',mN U0 (val y) (m+1) lx lq 0 X' Q'→(duF n o lx y (y[m]) oq lq (-1)).le F'→((PH.nil.set o (.rows 1 (dQ X' (aH z)))).set oq (.rows 1 (aH Q'))).le H'→K .normal F' H') :
  aC.wp C (.block 2 (.loop sG)) K F H:=by
 have bHN:¬ o=oq:=fun h=>hne h.symm
 have hne2:¬ oq=o:=hne
 have hV:val y<4294967296 ^ (m+1):=by have:=eJ hy; rw[hly] at this; exact this
 have hV0:0<val y:=by
  have h1:=bX y (Om:m<y.length)
  rw[bJD Om] at h1
  have:0<4294967296 ^ m*y[m]:=Nat.mul_pos (bLA (by decide)) ht
  omega
 have htl:=hy _ (bIR (Om:m<y.length))
 generalize htop:y[m]=top at *
 simp only[go_sem]
 refine wp_loop (α:=Nat × List Nat × List Nat) (fun t=>duF n o lx y top oq lq ((t.1:Int)-1)) (fun t=>(PH.nil.set o (.rows 1 (dQ t.2.1 (aH z)))).set oq (.rows 1 (aH t.2.2)))
  (fun t=>t.1≤lq∧mN U0 (val y) (m+1) lx lq t.1 t.2.1 t.2.2) (fun t=>t.1) (lq,X,bIP lq 0) ⟨bIO _,hI⟩ hF hH ?_
 rintro⟨k,X,Q⟩ ⟨hk,hI⟩
 simp only at hk hI
 simp only[go_sem,γ,sG,TK,duF]
 by_cases h0:0<k
 ·obtain⟨j,rfl⟩:∃ j,k=j+1:=⟨k-1,by omega⟩
  have hz:((j+1:Nat):Int)-1=(j:Int):=by omega
  have hge:(j:Int)≥0:=by omega
  have dst:=avC hI hV Om hlu
  rw[show m+1+1=m+2 from rfl] at dst
  obtain⟨hlt,hI'⟩:=dst
  have hXl:=hI.lu'
  have hQl:=hI.lq'
  have hWl:((X.drop j).take (m+2)).length=m+2:=by rw[bJF,bKN]; omega
  have hWL:Lim ((X.drop j).take (m+2)):=(hI.limU.drop _).take _
  have hg1:m+1<((X.drop j).take (m+2)).length:=by omega
  have hg0:m<((X.drop j).take (m+2)).length:=by omega
  have a1:j+(m+1)<X.length:=by omega
  have a0:j+m<X.length:=by omega
  have w1:((X.drop j).take (m+2))[m+1]=X[j+(m+1)]:=by simp
  have w0:((X.drop j).take (m+2))[m]=X[j+m]:=by simp
  have hgu:=bdY hy hWL hly hWl (by rw[htop]; exact ht)
  rw[w1,w0,htop] at hgu
  have r1:=IF (Z:=aH z) a1
  have r0:=IF (Z:=aH z) a0
  have l1:=hI.limU _ (bIR a1)
  have l0:=hI.limU _ (bIR a0)
  generalize hx1:X[j+(m+1)]=x1 at *
  generalize hx0:X[j+m]=x0 at *
  have e1:IntKind.i64.wrap ((j:Int)+((y.length:Nat):Int))=((j+(m+1):Nat):Int):=by rw[hly]; exact fH Om
  have e0:IntKind.i64.wrap (((j+(m+1):Nat):Int)-1)=((j+m:Nat):Int):=by rw[wrap_i64 Om Om]; omega
  have b1:((j+(m+1):Nat):Int)<(lx:Nat):=by omega
  have b0:((j+m:Nat):Int)<(lx:Nat):=by omega
  have ex1:IntKind.u64.wrap ((x1:Nat):Int)=((x1:Nat):Int):=bD Om
  have ex0:IntKind.u64.wrap ((x0:Nat):Int)=((x0:Nat):Int):=bD Om
  have esh:shift .shl .u64 (x1:Int) 32=some (.int .u64 ((2 ^ 32*x1:Nat):Int)):=GW (s:=32) Om Om
  have e32:(2:Nat) ^ 32=4294967296:=by decide
  have eor:=orI (a:=2 ^ 32*x1) (b:=x0) (n:=2 ^ 32*x1+x0) Om Om (Nat.two_pow_add_eq_or_of_lt Om x1).symm Om
  rw[e32] at esh eor
  have hdd:¬ ((top:Nat):Int)=0:=by omega
  have hq64:(4294967296*x1+x0)/top<18446744073709551616:=Nat.lt_of_le_of_lt (Nat.div_le_self _ _) Om
  have equo:IntKind.u64.wrap (Int.tdiv ((4294967296*x1+x0:Nat):Int) ((top:Nat):Int))=(((4294967296*x1+x0)/top:Nat):Int):=by
   rw[show Int.tdiv ((4294967296*x1+x0:Nat):Int) ((top:Nat):Int)=(((4294967296*x1+x0)/top:Nat):Int) from rfl]
   exact bD hq64
  have hqB:val ((X.drop j).take (m+2))/val y<4294967296:=(bLG hV0).2 (by rw[bJK]; exact hlt)
  have hcut:=arR (X:=X) (Z:=aH z) (j:=j) (m:=m+2) Om
  have bII:j+(m+2)≤(dQ X (aH z)).length:=by rw[dQ,bIU,bU]; omega
  have hrest:val ((X.drop j).take (m+2))-val y*(val ((X.drop j).take (m+2))/val y)=val ((X.drop j).take (m+2))%val y:=by
   have:=bLQ (val ((X.drop j).take (m+2))) (val y)
   omega
  have hmulle:val y*(val ((X.drop j).take (m+2))/val y)≤val ((X.drop j).take (m+2)):=Nat.mul_div_le _ _
  clear w1 w0
  have gu:=fun g0=>brQ (C:=C) L n o lx y top oq lq j X (aH z) hne hy hI.limU hXl bID Om hV0 (.rows 1 (aH Q)) g0
  rw[hly,show m+1+1=m+2 from rfl] at gu
  generalize hW:(X.drop j).take (m+2)=W at *
  generalize hqq:val W/val y=qq at *
  have hWn:aH W≠[]:=fun h=>by
   have:=congrArg List.length h
   rw[bU,hWl] at this
   simp at this
  have tail:∀ (g0:Nat) (F:PF) (H:PH),qq≤g0→g0<4294967296→((duF n o lx y top oq lq j).set 17 (.int .u64 g0)).le F→((PH.nil.set o (.rows 1 (dQ X (aH z)))).set oq (.rows 1 (aH Q))).le H →
    aC.wp C (.seq (.block 4 (.loop sE)) (.seq (.region AH) (.seq (.seq (.region AI) (.block 6 (.loop sF))) (.region AK)))) (dX 3 (iH C (aC.wp C (.region AL)) (eF (fun (t:Nat × List Nat × List Nat)=>duF n o lx y top oq lq ((t.1:Int)-1)) (fun t=>(PH.nil.set o (.rows 1 (dQ t.2.1 (aH z)))).set oq (.rows 1 (aH t.2.2))) (fun t=>t.1≤lq∧mN U0 (val y) (m+1) lx lq t.1 t.2.1 t.2.2) (fun t=>t.1) (j+1) (dX 2 K)))) F H:=by
   intro g0 F H hg hgB hF hH
   have gu:=gu g0 hg hgB
   simp only[go_sem] at gu
   simp only[go_sem]
   refine gu _ F H hF hH ?_
   intro F1 H1 hF1 hH1
   have f11:F1 11=some (.osl o 1 0 lx):=hF1 11 _ (by unfold duF; simp only[go_sem,γ])
   have f12:F1 12=some (aF y):=hF1 12 _ (by unfold duF; simp only[go_sem,γ])
   have f15:F1 15=some (.int .i64 j):=hF1 15 _ (by unfold duF; simp only[go_sem,γ])
   have f17:F1 17=some (.int .u64 (qq:Nat)):=hF1 17 _ (by unfold duF; simp only[go_sem,γ])
   have f10:F1 10=some (.int .i64 n):=hF1 10 _ (by unfold duF; simp only[go_sem,γ])
   have f13:F1 13=some (.int .u64 top):=hF1 13 _ (by unfold duF; simp only[go_sem,γ])
   have f14:F1 14=some (.osl oq 1 0 lq):=hF1 14 _ (by unfold duF; simp only[go_sem,γ])
   have ho:H1 o=some (.rows 1 (dQ X (aH z))):=hH1 o _ (by simp only[go_sem,bHN])
   have hoq:H1 oq=some (.rows 1 (aH Q)):=hH1 oq _ Sq
   have b3:(j:Int)≤((j+(m+1)+1:Nat):Int):=by omega
   have b4:((j+(m+1)+1:Nat):Int)≤(lx:Nat):=by omega
   have b5:j+(m+1)+1-j=m+2:=by omega
   have e2:IntKind.i64.wrap (((j+(m+1):Nat):Int)+1)=((j+(m+1)+1:Nat):Int):=dE Om
   simp only[go_sem,γ,reduceCtorEq,AH,f11,f15,f12,bIM,e1,e2,b3,b4,b5]
   refine wY (src:=aH W) ?_ ?_ (fun h=>absurd h hWn) fun _ o' ho'=>?_
   ·simp only[go_sem,ho,bII,hcut]
   ·unfold roomFor
    rw[bU,hWl]
    simp only[maxLen]; omega
   rw[bU,hWl]
   have n1:¬ oq=o':=fun h=>by subst h; rw[hoq] at ho'; cases ho'
   have n2:¬ o=o':=fun h=>by subst h; rw[ho] at ho'; cases ho'
   have nq:nl qq≤1:=lO (by rw[Nat.pow_one]; exact hqB)
   have tm:=L.times y (aG qq) hy (aT _) Om (by rw[aZ]; omega)
   rw[aR] at tm
   have nW:=eS hWL
   have mn:=L.minus W (aG (val y*qq)) hWL (aT _) (by rw[aR]; exact hmulle) (by rw[aZ]; exact Nat.le_trans (eY hmulle) nW) Om
   rw[aR,hrest] at mn
   have hWt:(aH W).take (m+2)=aH W:=bJD (by rw[bU]; omega)
   simp only[go_sem,f17]
   refine aA (L.make qq Om) Sq ?_
   simp only[go_sem,f12]
   refine aA tm Sq ?_
   simp only[go_sem]
   refine oO (o:=o') (s:=1) (rs:=aH W) mn Sq (by simp only[go_sem,γ,show m+2≤W.length by omega,hWt]) ?_
   simp only[go_sem,γ,AI]
   have hfx:(dQ X (aH z)).map (fun r=>r.map (PV.dB o' 1 (aH W)))=dQ X (aH z):=by
    have:dQ X (aH z)=aH (X++z):=by simp[dQ,aH]
    rw[this]; exact pG _ _ _ _
   have hfq:(aH Q).map (fun r=>r.map (PV.dB o' 1 (aH W)))=aH Q:=pG _ _ _ _
   have ur:=buS (C:=C) n o lx y top oq lq j X (aH z) hne hXl bID Om (.rows 1 (aH Q)) qq (val W%val y)
   rw[hly,show m+1+1=m+2 from rfl] at ur
   simp only[go_sem] at ur
   refine ur _ _ _ ?_ ?_ ?_
   ·unfold duF
    (repeat' (first|exact PF.nil_le|refine PF.aI ?_ ?_))<;>first|(simp only[go_sem,γ,f10,f11,f12,f13,f14,f15,f17,n1,n2]<;>rfl)|rfl
   ·refine PH.aI (PH.aI PH.nil_le ?_) ?_
    ·simp only[go_sem,bHN,n2,ho,cP.frz,hfx]
    ·simp only[go_sem,n1,hoq,cP.frz,hfq]
   intro F3 H3 hF3 hH3
   have k10:F3 10=some (.int .i64 n):=hF3 10 _ (by unfold duF; simp only[go_sem,γ])
   have k11:F3 11=some (.osl o 1 0 lx):=hF3 11 _ (by unfold duF; simp only[go_sem,γ])
   have k12:F3 12=some (aF y):=hF3 12 _ (by unfold duF; simp only[go_sem,γ])
   have k13:F3 13=some (.int .u64 top):=hF3 13 _ (by unfold duF; simp only[go_sem,γ])
   have k14:F3 14=some (.osl oq 1 0 lq):=hF3 14 _ (by unfold duF; simp only[go_sem,γ])
   have k15:F3 15=some (.int .i64 j):=hF3 15 _ (by unfold duF; simp only[go_sem,γ])
   have k17:F3 17=some (.int .u64 qq):=hF3 17 _ (by unfold duF; simp only[go_sem,γ])
   have ho3:H3 o=some (.rows 1 (dQ (X.take j++dL (m+2) (val W%val y)++X.drop (j+(m+2))) (aH z))):=hH3 o _ (by simp only[go_sem,bHN])
   have hq3:H3 oq=some (.rows 1 (aH Q)):=hH3 oq _ Sq
   have hjq:j<Q.length:=by omega
   have rq:=bL Q hjq
   have hjl:(j:Int)<(lq:Nat):=by omega
   have sq:=eT Q j qq
   have ec:IntKind.u32.wrap ((qq:Nat):Int)=((qq:Nat):Int):=by rw[cB,bJV hqB]
   have ej:IntKind.i64.wrap ((j:Int)-1)=(j:Int)-1:=wrap_i64 Om Om
   simp only[go_sem,γ,AK,k14,k15,k17,hjl,hq3,rq,ec,sq,AL,ej]
   refine aK (α:=Nat × List Nat × List Nat) (j,_,_) ⟨by simp only; omega,hI'⟩ (by simp only; omega) ?_ ?_
   ·unfold duF
    (repeat' (first|exact PF.nil_le|refine PF.aI ?_ ?_))<;>first|(simp only[go_sem,γ,k10,k11,k12,k13,k14]<;>rfl)|rfl
   ·refine PH.aI (PH.aI PH.nil_le ?_) ?_
    ·simp only[go_sem,bHN,ho3]
    ·simp only[go_sem]
  simp only[aC.wp,go_sem] at tail
  simp only[go_sem,hz,hge]
  refine bT .nil eG PH.nil_le ?_
  simp only[go_sem,γ,reduceCtorEq,TL,e1,e0,b1,b0,bHN,r1,r0,ex1,ex0,esh,eor,TM,hdd,equo,TN]
  by_cases c:(4294967296*x1+x0)/top>4294967295
  ·have c':(((4294967296*x1+x0)/top:Nat):Int)>4294967295:=by omega
   simp only[go_sem,c',TO]
   exact tail 4294967295 _ _ Om (by decide) (by unfold duF; exact Lq) PH.le_refl
  ·have c':¬ (((4294967296*x1+x0)/top:Nat):Int)>4294967295:=by omega
   simp only[go_sem,c']
   exact tail _ _ _ hgu Om (by unfold duF; exact Lq) PH.le_refl
 ·have:k=0:=by omega
  subst this
  have hz:¬ ((0:Nat):Int)-1≥0:=by decide
  simp only[go_sem,hz]
  refine hK X Q _ _ hI ?_ PH.le_refl
  unfold duF
  (repeat' (first|exact PF.nil_le|refine PF.aI ?_ ?_))<;>first|(simp only[go_sem,ο,γ,show ((0:Nat):Int)-1=-1 from rfl]<;>rfl)|rfl
def bhD (a:List Nat) (d q k r:Nat):PF:=(((((PF.nil.set 0 (aF a)).set 1 (aF [d])).set 6 (.osl q 1 0 a.length)).set 7 (.int .u64 r)).set 8 (.int .i64 ((k:Int)-1)))
theorem aZW {C:Ctx} (L:JO C) (a:List Nat) (d:Nat) (ha:Lim a) (hd0:0<d) (hd:d<4294967296) (h1:a.length≤1000) (F:PF) (f0:F 0=some (aF a)) (f1:F 1=some (aF [d])) :
  aC.wp C (.seq (.region HH) (.seq (.region HI) (.seq (.seq (.region HJ) (.block 0 (.loop AB))) (.seq (.region AC) .ret)))) (aU [.tmp 4,.tmp 5] (bZ (oA (val a) d))) F .nil:=by
 have hm1:((a.length:Nat):Int)*((4:Nat):Int)≤140737488355328:=by omega
 have hm2:((a.length:Nat):Int)≤9223372036854775807:=by omega
 have hz:bIP a.length [PV.int .u32 0]=aH (bIP a.length 0++[]):=by
  simp[aH]
 simp only[go_sem,γ,HH,f0,bIM,hm1,hm2,hz]
 refine aQ fun o ho=>?_
 simp only[go_sem,γ,reduceCtorEq,HI,HJ,f0,bIM]
 refine wp_loop (α:=Nat × List Nat × Nat) (fun t=>bhD a d o t.1 t.2.2) (fun t=>PH.nil.set o (.rows 1 (aH (bIP t.1 0++t.2.1))))
  (fun t=>t.1+t.2.1.length=a.length∧Lim t.2.1∧t.2.2<d∧val t.2.1*d+t.2.2=val (a.drop t.1)) (fun t=>t.1) (a.length,[],0) ⟨by simp,by simp[Lim],hd0,by simp[val]⟩ ?_ ?_ ?_
 ·unfold bhD
  (repeat' (first|exact PF.nil_le|refine PF.aI ?_ ?_))<;>first|(simp only[go_sem,γ,reduceCtorEq,f0,f1,wrap_i64 (Om:-9223372036854775808≤((a.length:Nat):Int)-1) (Om:((a.length:Nat):Int)-1≤9223372036854775807)]<;>rfl)|rfl
 ·exact PH.aI PH.nil_le Sq
 rintro⟨k,S,r⟩ ⟨hk,bHF,hr,bHB⟩
 simp only at hk bHF hr bHB
 simp only[go_sem,γ,reduceCtorEq,AB,adW,bhD]
 by_cases h0:0<k
 ·obtain⟨m,rfl⟩:∃ m,k=m+1:=⟨k-1,by omega⟩
  have hzz:((m+1:Nat):Int)-1=(m:Int):=by omega
  have hge:(m:Int)≥0:=by omega
  have hml:m<a.length:=by omega
  have hlt:(m:Int)<(a.length:Nat):=by omega
  have hai:=ha _ (bIR hml)
  have hdrop:val (a.drop m)=a[m]+4294967296*val (a.drop (m+1)):=by rw[bKG hml]; rfl
  have hax:=bL a hml
  generalize hx:a[m]=x at *
  have ex:IntKind.u64.wrap ((x:Nat):Int)=((x:Nat):Int):=bD Om
  have ed:IntKind.u64.wrap ((d:Nat):Int)=((d:Nat):Int):=bD Om
  have esh:shift .shl .u64 (r:Int) 32=some (.int .u64 ((2 ^ 32*r:Nat):Int)):=GW (s:=32) Om Om
  have e32:(2:Nat) ^ 32=4294967296:=by decide
  have eor:=orI (a:=2 ^ 32*r) (b:=x) (n:=2 ^ 32*r+x) Om Om (Nat.two_pow_add_eq_or_of_lt Om r).symm Om
  rw[e32] at esh eor
  have hq:(4294967296*r+x)/d<4294967296:=by
   rw[bLG hd0]
   have:4294967296*(r+1)≤4294967296*d:=bKP _ hr
   omega
  have hdd:¬ ((d:Nat):Int)=0:=by omega
  have equo:IntKind.u64.wrap (Int.tdiv ((4294967296*r+x:Nat):Int) ((d:Nat):Int))=(((4294967296*r+x)/d:Nat):Int):=by
   rw[show Int.tdiv ((4294967296*r+x:Nat):Int) ((d:Nat):Int)=(((4294967296*r+x)/d:Nat):Int) from rfl]
   exact bD Om
  have erem:Int.tmod ((4294967296*r+x:Nat):Int) ((d:Nat):Int)=(((4294967296*r+x)%d:Nat):Int):=rfl
  have ec:IntKind.u32.wrap (((4294967296*r+x)/d:Nat):Int)=(((4294967296*r+x)/d:Nat):Int):=by rw[cB,bJV hq]
  have bIH:bIP (m+1) 0++S=bIP m 0++(0::S):=by
   rw[List.replicate_succ',bJM]; rfl
  have hin:(aH (bIP m 0++(0::S)))[m]?=some [.int .u32 ((0:Nat):Int)]:=by
   rw[bL _ (by simp)]; simp
  have bGV:(aH (bIP m 0++(0::S))).set m [.int .u32 (((4294967296*r+x)/d:Nat):Int)]=aH (bIP m 0++(((4294967296*r+x)/d)::S)):=by
   rw[eT,bLY _ _ (by simp)]; simp
  simp only[go_sem,ν,γ,reduceCtorEq,hzz,hge,adX,esh,hax,ex,eor,adY,ed,hdd,equo,ec,hlt,bIH,hin,bGV,TG,erem,TH]
  refine aK (m,((4294967296*r+x)/d)::S,(4294967296*r+x)%d) ⟨by simp only[bKH]; omega,fun y hy=>?_,bKA _ hd0,?_⟩ (by simp only; omega) ?_ (PH.aI PH.nil_le Sq)
  ·rw[bJA] at hy
   rcases hy with rfl | hy
   ·exact hq
   ·exact bHF y hy
  ·simp only[val]
   rw[hdrop,← bHB,bJP,bIZ,bJH]
   have:=bLQ (4294967296*r+x) d
   rw[bJK d] at this
   omega
  ·(repeat' (first|exact PF.nil_le|refine PF.aI ?_ ?_))<;>first|(simp only[go_sem,γ,reduceCtorEq,wrap_i64 (Om:-9223372036854775808≤(m:Int)-1) (Om:(m:Int)-1≤9223372036854775807)]<;>rfl)|rfl
 ·have:k=0:=by omega
  subst this
  have hzz:¬ ((0:Nat):Int)-1≥0:=by decide
  rw[bJO] at bHB
  have hS:S.length=a.length:=by omega
  have hq:val S=val a/d:=by
   rw[← bHB,bJK,Nat.mul_add_div hd0,bLR hr,bKD]
  have hrm:r=val a%d:=by rw[← bHB,bJK,Nat.mul_add_mod,bJV hr]
  have hn0:bIP 0 0++S=S:=by simp
  have hl:=L.trim S bHF Om
  have hSt:(aH S).take a.length=aH S:=bJD (by rw[bU]; omega)
  simp only[go_sem,υ,γ,reduceCtorEq,hzz,AC,bLF]
  refine oO (o:=o) (s:=1) (rs:=aH S) hl Sq (by simp only[go_sem,γ,reduceCtorEq,hSt,show a.length≤S.length by omega]) ?_
  simp only[go_sem,γ,reduceCtorEq]
  refine aA (L.make r Om) Sq ?_
  simp only[go_sem,γ,reduceCtorEq]
  refine aW (vs:=[aF (aG (val S)),aF (aG r)]) (.inr rfl) .nil Ev PH.nil_le ⟨?_,rfl⟩
  rw[hq,hrm]
  exact .refl _
theorem bjW {B m:Nat} (h:nl B=m+1):32*m<cD B∧cD B≤32*(m+1):=by
 refine⟨?_,(kF B (m+1)).2 Om⟩
 rcases bJE (32*m) (cD B) with h1 | h1
 ·exact h1
 ·have:=(kF B m).1 h1
  omega
theorem bjX {B:Nat} (h:B≠0):2 ^ (cD B-1)≤B:=by
 rcases bJE B (2 ^ (cD B-1)) with h1 | h1
 ·have h2:=(kE B _).2 h1
  have h3:cD B≠0:=fun e=>h (iV.1 e)
  omega
 ·exact h1
theorem aZX {C:Ctx} (L:JO C) (A B:Nat) (hB:B≠0) (hA:nl A≤512) (hBl:nl B≤512) :
  wQ.wp C (aU CK.res (bZ (oA A B))) (PF.args [aF (aG A),aF (aG B)]) .nil:=by
 have LA:=aT A
 have LB:=aT B
 have vA:=aR A
 have vB:=aR B
 have lA:(aG A).length=nl A:=rfl
 have lB:(aG B).length=nl B:=rfl
 simp only[go_sem,γ,reduceCtorEq,wQ,adS,adT,CK]
 refine aA (L.cmp _ _ LA LB Om Om) rfl ?_
 rw[vA,vB]
 by_cases c1:A<B
 ·have hc:dA A B<0:=by simp[dA,c1]
  simp only[go_sem,γ,reduceCtorEq,hc,adU]
  refine aA (L.trim _ LA Om) rfl ?_
  rw[vA]
  simp only[go_sem,γ]
  refine aW (vs:=[.aB,aF (aG A)]) (.inr rfl) .nil rfl PH.nil_le ⟨?_,rfl⟩
  rw[oA,bLR c1,bJV c1,eU]
  exact CoL.tup (CoL.cons (.nil 1) (CoL.cons (.refl _) .nil))
 have hc:¬ dA A B<0:=by
  unfold dA
  rw[if_neg c1]
  split<;>decide
 have hB0:0<B:=bKR hB
 have hnB:nl B≠0:=fun h=>hB (fX.1 h)
 simp only[go_sem,γ,hc,adV,bIM,lB]
 by_cases c2:nl B=1
 ·have hBB:B<4294967296:=by have:=(gI B 1).1 Om; simpa using this
  have hlb:aG B=[B]:=mB hB hBB
  have sh:=aZW (C:=C) L (aG A) B LA hB0 hBB Om
  rw[vA] at sh
  simp only[aC.wp,go_sem] at sh
  simp only[go_sem,bS (Om:((nl B:Nat):Int)=1)]
  exact sh _ rfl (by simp only[go_sem,γ,hlb])
 obtain⟨m,hm⟩:∃ m,nl B=m+1:=⟨nl B-1,by omega⟩
 have hm1:1≤m:=by omega
 obtain⟨hb1,hb2⟩:=bjW hm
 obtain⟨n,hn⟩:∃ n,n+cD B=32*(m+1):=⟨32*(m+1)-cD B,by omega⟩
 have hn32:n<32:=by omega
 have hp2:0<2 ^ n:=bLA (by decide)
 have hBlt:B<2 ^ cD B:=(kE B _).1 (bIO _)
 have hBge:=bjX hB
 have hVhi:B*2 ^ n<4294967296 ^ (m+1):=by
  have:B*2 ^ n<2 ^ cD B*2 ^ n:=Nat.mul_lt_mul_of_pos_right hBlt hp2
  rw[← Nat.pow_add,show cD B+n=32*(m+1) by omega,Nat.pow_mul] at this
  exact this
 have hVlo:4294967296 ^ m*2147483648≤B*2 ^ n:=by
  have:2 ^ (cD B-1)*2 ^ n≤B*2 ^ n:=bJS _ hBge
  rw[← Nat.pow_add,show cD B-1+n=32*m+31 by omega,Nat.pow_add,Nat.pow_mul] at this
  exact this
 have nV:nl (B*2 ^ n)=m+1:=by
  have h1:=(gI (B*2 ^ n) (m+1)).2 hVhi
  rcases bJE (nl (B*2 ^ n)) (m+1) with h | h
  ·have:=(gI (B*2 ^ n) m).1 Om
   have hpp:0<4294967296 ^ m:=bLA (by decide)
   omega
  ·omega
 have hV0:B*2 ^ n≠0:=Nat.mul_ne_zero hB Om
 have nU1:nl (A*2 ^ n)≤nl A+1:=kA (bIO _) (lO (by rw[Nat.pow_one]; exact Nat.pow_lt_pow_right (a:=2) (m:=n) (n:=32) (by decide) hn32))
 have hUV:B*2 ^ n≤A*2 ^ n:=bJS _ Om
 have nUV:m+1≤nl (A*2 ^ n):=by rw[← nV]; exact eY hUV
 have hU0:A*2 ^ n≠0:=by omega
 have e32:IntKind.i64.wrap (32*((nl B:Nat):Int))=((32*(m+1):Nat):Int):=by rw[wrap_i64 Om Om]; omega
 have en:IntKind.i64.wrap (((32*(m+1):Nat):Int)-((cD B:Nat):Int))=(n:Int):=by rw[wrap_i64 Om Om]; omega
 have bt:=L.bits (aG B) LB Om
 rw[vB] at bt
 have ua:=L.upM (aG A) n LA Om Om (fun h=>by have:=eJ LA; rw[h] at this; omega)
 have ub:=(L.upM (aG B) n LB Om Om (fun h=>by have:=eJ LB; rw[h] at this; omega)).freeze
 rw[vA] at ua
 rw[vB] at ub
 have tail:∀ (o:Nat) (F:PF) (H:PH),F 0=some (aF (aG A))→F 1=some (aF (aG B))→F 10=some (.int .i64 n)→F 11=some (.osl o 1 0 (nl (A*2 ^ n)+2))→F 12=some (aF (aG (B*2 ^ n)))→H o=some (.rows 1 (aH (aG (A*2 ^ n))++[[.int .u32 0],[.int .u32 0]])) →
   aC.wp C (.seq (.region AD) (.seq (.region AE) (.seq (.region AF) (.seq (.seq (.region AG) (.block 2 (.loop sG))) (.seq (.region AM) .ret))))) (aU [.tmp 4,.tmp 5] (bZ (oA A B))) F H:=by
  intro o F H f0 f1 f10 f11 f12 hH
  have LU:=aT (A*2 ^ n)
  have LV:=aT (B*2 ^ n)
  have vU:=aR (A*2 ^ n)
  have vV:=aR (B*2 ^ n)
  have lU:(aG (A*2 ^ n)).length=nl (A*2 ^ n):=rfl
  have lV:(aG (B*2 ^ n)).length=m+1:=nV
  have eu:IntKind.i64.wrap (((nl (A*2 ^ n):Nat):Int)+1)=((nl (A*2 ^ n)+1:Nat):Int):=dE Om
  have b1:((nl (A*2 ^ n)+1:Nat):Int)≤((nl (A*2 ^ n)+2:Nat):Int):=by omega
  simp only[go_sem,γ,reduceCtorEq,AD,f11,f0,f10]
  refine aA ua.freeze rfl ?_
  obtain⟨lq,hlq⟩:∃ lq,nl (A*2 ^ n)+1-(m+1)=lq:=⟨_,rfl⟩
  have hlx:nl (A*2 ^ n)+1=lq+(m+1):=by omega
  have em:IntKind.i64.wrap (((m+1:Nat):Int)-1)=((m:Nat):Int):=by rw[wrap_i64 Om Om]; omega
  have hmV:m<(aG (B*2 ^ n)).length:=by omega
  have rm:=bL (aG (B*2 ^ n)) hmV
  have tl:=LV _ (bIR hmV)
  have htop:0<(aG (B*2 ^ n))[m]:=by
   have h1:=bX (aG (B*2 ^ n)) hmV
   rw[bJD Om,vV] at h1
   have h2:=eJ (LV.take m)
   rw[bJF,bKO Om] at h2
   have hpp:0<4294967296 ^ m:=bLA (by decide)
   rcases bLK (aG (B*2 ^ n))[m] with h | h
   ·rw[h] at h1; omega
   ·exact h
  have htop31:2147483648≤(aG (B*2 ^ n))[m]:=by
   have h1:=bX (aG (B*2 ^ n)) hmV
   rw[bJD Om,vV] at h1
   have h2:=eJ (LV.take m)
   rw[bJF,bKO Om] at h2
   rcases bJE (aG (B*2 ^ n))[m] 2147483648 with h | h
   ·exfalso
    have h3:4294967296 ^ m*((aG (B*2 ^ n))[m]+1)≤4294967296 ^ m*2147483648:=bKP _ h
    rw[bIZ,Nat.mul_one] at h3
    omega
   ·exact h
  have key0:=a8F (C:=C) L (A*2 ^ n) n o (nl (A*2 ^ n)+1) lq
  have hI:mN (A*2 ^ n) (val (aG (B*2 ^ n))) (m+1) (nl (A*2 ^ n)+1) lq lq (aG (A*2 ^ n)++[0]) (bIP lq 0):=by
   refine⟨by rw[bIU,lU]; rfl,bLX,LU.app fun x hx=>by simp at hx; omega,sS _,?_,?_,fun i x _ hx=>aIS hx⟩
   ·rw[fC,vU,pV]; simp[val]
   ·have hlen:(aG (A*2 ^ n)++[0]).length=nl (A*2 ^ n)+1:=by rw[bIU,lU]; rfl
    have hv0:val (aG (A*2 ^ n)++[0])=A*2 ^ n:=by rw[fC,vU]; simp[val]
    rw[rV (LU.app fun x hx=>by simp at hx; omega) Om,hv0,vV,bLG (bLA (by decide))]
    have h1:A*2 ^ n<4294967296 ^ nl (A*2 ^ n):=(gI _ _).1 (bIO _)
    have hx:nl (A*2 ^ n)=m+lq:=by omega
    rw[hx,Nat.pow_add] at h1
    have h2:4294967296 ^ m*4294967296 ^ lq≤(B*2 ^ n)*4294967296 ^ lq:=bJS _ Om
    omega
  have hrows:aH (aG (A*2 ^ n))++[[PV.int .u32 0],[PV.int .u32 0]]=dQ (aG (A*2 ^ n)++[0]) (aH [0]):=by
   simp[dQ,aH]
  rw[hrows] at hH
  generalize htp:(aG (B*2 ^ n))[m]=top at *
  have et:IntKind.u64.wrap ((top:Nat):Int)=((top:Nat):Int):=bD Om
  have k2:IntKind.i64.wrap (((nl (A*2 ^ n)+1:Nat):Int)-((m+1:Nat):Int))=((lq:Nat):Int):=by rw[wrap_i64 Om Om]; omega
  have k3:((lq:Nat):Int)*((4:Nat):Int)≤140737488355328:=by omega
  have k4:((lq:Nat):Int)≤9223372036854775807:=by omega
  have hz:bIP lq [PV.int .u32 0]=aH (bIP lq 0):=by simp[aH]
  have jq:IntKind.i64.wrap ((lq:Int)-1)=(lq:Int)-1:=wrap_i64 Om Om
  simp only[go_sem,ν,γ,reduceCtorEq,bIM,lU,eu,b1,AE,f12,lV,em,rm,et,AF,k2,k3,k4,hz]
  refine aQ fun oq hoq=>?_
  have hne:oq≠o:=by rintro rfl; rw[hH] at hoq; cases hoq
  have bHN:¬ o=oq:=fun h=>hne h.symm
  have key:=key0 oq m (aG (B*2 ^ n)) [0] hne LV lV (by rw[htp]; exact htop) hlx Om _ hI
  rw[htp] at key
  simp only[go_sem,ο] at key
  simp only[go_sem,γ,AG,jq]
  refine key _ _ _ ?_ ?_ ?_
  ·unfold duF
   exact Lq
  ·refine PH.aI (PH.aI PH.nil_le ?_) ?_
   ·simp only[go_sem,bHN,hH]
   ·simp only[go_sem]
  clear key key0
  intro X Q F1 H1 hI1 hF1 hH1
  have g10:F1 10=some (.int .i64 n):=hF1 10 _ (by unfold duF; simp only[go_sem,ο,γ])
  have g11:F1 11=some (.osl o 1 0 (nl (A*2 ^ n)+1)):=hF1 11 _ (by unfold duF; simp only[go_sem,ο,γ])
  have g14:F1 14=some (.osl oq 1 0 lq):=hF1 14 _ (by unfold duF; simp only[go_sem,ο,γ])
  have ho1:H1 o=some (.rows 1 (dQ X (aH [0]))):=hH1 o _ (by simp only[go_sem,bHN])
  have hq1:H1 oq=some (.rows 1 (aH Q)):=hH1 oq _ Sq
  have hu:val X<val (aG (B*2 ^ n)):=by have:=hI1.r; rwa [bJO] at this
  have hv':=hI1.v
  rw[vV] at hu hv'
  have hQv:val Q=A/B:=by
   have:A*2 ^ n/(B*2 ^ n)=val Q:=by
    rw[← hv',Nat.add_mul_div_right _ _ Om,bLR hu,bJL]
   rw[← this,Nat.mul_div_mul_right _ _ hp2]
  have hUv:val X/2 ^ n=A%B:=by
   have:A*2 ^ n%(B*2 ^ n)=val X:=by rw[← hv',Nat.add_mul_mod_self_right,bJV hu]
   rw[← this,Nat.mul_mod_mul_right,Nat.mul_div_cancel _ hp2]
  have lX:=hI1.lu'
  have lQ:=hI1.lq'
  have hQt:(aH Q).take lq=aH Q:=bJD (by rw[bU]; omega)
  have hXt:(dQ X (aH [0])).take (nl (A*2 ^ n)+1)=aH X:=by
   rw[dQ,List.take_append_of_le_length (by rw[bU]; omega),bJD (by rw[bU]; omega)]
  have hXl:nl (A*2 ^ n)+1≤(dQ X (aH [0])).length:=by rw[dQ,bIU,bU]; omega
  have hfx:(dQ X (aH [0])).map (fun r=>r.map (PV.dB oq 1 (aH Q)))=dQ X (aH [0]):=by
   have:dQ X (aH [0])=aH (X++[0]):=by simp[dQ,aH]
   rw[this]; exact pG _ _ _ _
  have nX:=eS hI1.limU
  have t1:=L.trim Q hI1.limQ Om
  have t2:=L.trim X hI1.limU Om
  have dn:=L.down (aG (val X)) n (aT _) (by rw[aZ]; omega) Om
  rw[aR,hUv] at dn
  rw[hQv] at t1
  generalize aH [0]=Z0 at ho1 hXt hXl hfx
  simp only[go_sem,AM,g14]
  refine oO (o:=oq) (s:=1) (rs:=aH Q) t1 hq1 (by simp only[go_sem,hQt,show lq≤Q.length by omega]) ?_
  simp only[go_sem,γ,g11,bHN]
  refine oO (o:=o) (s:=1) (rs:=dQ X Z0) t2 (by simp only[go_sem,bHN,ho1,cP.frz,hfx]) (by simp only[go_sem,γ,hXt,hXl]) ?_
  simp only[go_sem,γ,g10]
  refine aA dn rfl ?_
  simp only[go_sem,γ]
  exact aW (vs:=[aF (aG (A/B)),aF (aG (A%B))]) (.inr rfl) .nil rfl PH.nil_le ⟨.refl _,rfl⟩
 simp only[aC.wp,go_sem] at tail
 simp only[go_sem,γ,bF (Om:¬ ((nl B:Nat):Int)=1),TI,bIM,lB]
 refine aA bt rfl ?_
 simp only[go_sem,γ,reduceCtorEq,e32,en,TJ]
 refine fD ua rfl PH.nil_le fun r H1 hr _=>?_
 have hb2:(2:Nat)*1≤16777216:=by decide
 rcases hr with ⟨h0,_⟩ | ⟨o,rs,rfl,rfl,hrl,hrt⟩
 ·exfalso
  have:=congrArg List.length h0
  rw[bU,aZ] at this
  simp at this
  omega
 rw[PH.kB]
 rw[bU,aZ] at hrl hrt
 simp only[go_sem,υ,δ,γ,η,ζ,hb2,bU,aZ]
 refine wZ (src:=[[.int .u32 0],[.int .u32 0]]) (rs:=rs) rfl ?_ Sq hrl ?_ fun o' ho'=>?_
 ·unfold roomFor
  simp only[maxLen,bKH,bKY]; omega
 ·rw[hrt]
  simp only[go_sem,δ]
  refine aA ub rfl ?_
  simp only[go_sem,γ]
  exact tail o _ _ rfl rfl rfl rfl rfl Sq
 ·rw[hrt]
  simp only[go_sem,δ]
  refine aA ub rfl ?_
  simp only[go_sem,γ]
  exact tail o' _ _ rfl rfl rfl rfl rfl Sq
structure atA (C:Ctx):Prop extends atR C where
 int:∀ n:Int,cU n→aD C 47 [.int .i64 n] .nil (aE (.agg (mkT n 1).cells))
 mul:∀ a b,Lim a→Lim b→a.length≤35184372087808→b.length≤35184372087808→aD C 36 [aF a,aF b] .nil (aE (opV (dP (val a) (val b)) (val a*val b)))
 add:∀ a b,Lim a→Lim b→a.length≤35184372087808→b.length≤35184372087808→aD C 30 [aF a,aF b] .nil (aE (opV (dP (val a) (val b)) (val a+val b)))
 sub:∀ a b,Lim a→Lim b→a.length≤35184372087808→b.length≤35184372087808→aD C 37 [aF a,aF b] .nil (aE (pB (val a) (val b)))
theorem aqC (a b:Nat):cM a b=(decide (nl b>0)&&(decide (nl b≤128)&&decide (nl a≤128))):=by
 have:=@fX b
 refine Bool.eq_iff_iff.2 ?_
 rw[eV]
 simp only[bJI,decide_eq_true_eq]
 omega
theorem a9Z {C:Ctx} (L:atA C) (neg:Bool) (a b:List Nat) (ha:Lim a) (hb:Lim b) (la:a.length≤35184372087808) (lb:b.length≤35184372087808) :
  AU.wp C (aU PK.res (aE (.bool (cM (val a) (val b))))) (PF.args [.agg (dY neg a b)]) .nil:=by
 rw[aqC]
 simp only[go_sem,γ,AU,aqU,aqV,PK]
 refine aA (L.trim b hb lb) rfl ?_
 simp only[go_sem,γ,bIM,aZ]
 by_cases c1:nl (val b)>0
 ·have c1':((nl (val b):Nat):Int)>0:=by omega
  simp only[go_sem,γ,c1']
  refine aA (L.trim b hb lb) rfl ?_
  simp only[go_sem,γ,bIM,aZ]
  by_cases c2:nl (val b)≤128
  ·have c2':((nl (val b):Nat):Int)≤128:=by omega
   simp only[go_sem,δ,γ,θ,c2']
   refine aA (L.trim a ha la) rfl ?_
   simp only[go_sem,γ,bIM,aZ]
   refine aM (.inr rfl) rfl ?_
   have:decide (((nl (val a):Nat):Int)≤128)=decide (nl (val a)≤128):=by
    refine decide_eq_decide.2 ?_
    omega
   rw[aX,this,decide_eq_true c1,decide_eq_true c2]
   rfl
  ·have c2':¬ ((nl (val b):Nat):Int)≤128:=by omega
   simp only[go_sem,γ,reduceCtorEq,c2']
   refine aM (.inr rfl) rfl ?_
   rw[aX,decide_eq_false c2,bIS,bKC]
 ·have c1':¬ ((nl (val b):Nat):Int)>0:=by omega
  simp only[go_sem,γ,reduceCtorEq,c1']
  refine aM (.inr rfl) rfl ?_
  rw[aX,decide_eq_false c1,bIS]
theorem VT {neg:Bool} {a b:Nat} (h:cM a b=true):fZ neg a b=.ok (kR neg a b):=by
 obtain⟨h1,h2,h3⟩:=eV.1 h
 have e1:=(kF (a/bIQ a b) 128).2 (acD _ h3)
 have e2:=(kF (b/bIQ a b) 128).2 (acD _ h2)
 unfold fZ kR
 rw[if_neg Om]
def aVX (a b:Nat):Bool:=decide (nl a>128)||decide (nl b>128)
theorem a9I {C:Ctx} (neg:Bool) (a b:List Nat) :
  AQ.wp C (aU PE.res (aE (.bool (decide (a.length>128)||decide (b.length>128))))) (PF.args [.agg (dY neg a b)]) .nil:=by
 simp only[go_sem,δ,γ,θ,AQ,aqF,aqG,PE,bIM]
 by_cases c:a.length>128
 ·have c':((a.length:Nat):Int)>128:=by omega
  simp only[go_sem,γ,c']
  refine aM (.inr rfl) rfl ?_
  rw[aX,decide_eq_true c,Bool.true_or]
 ·have c':¬ ((a.length:Nat):Int)>128:=by omega
  simp only[go_sem,γ,reduceCtorEq,c',bIM]
  refine aM (.inr rfl) rfl ?_
  have:decide (((b.length:Nat):Int)>128)=decide (b.length>128):=by
   refine decide_eq_decide.2 ?_
   omega
  rw[aX,this,decide_eq_false c,Bool.false_or]
def avY (x:FV):FR:=if aVX x.2.1 x.2.2 then .error 2 else .ok x
theorem bkQ (neg:Bool) (a b:Nat):avY (kR neg a b)=fZ neg a b:=by
 have e1:=kF (a/bIQ a b) 128
 have e2:=kF (b/bIQ a b) 128
 unfold avY kR fZ aVX
 simp only[Bool.or_eq_true,decide_eq_true_eq]
 by_cases c:nl (a/bIQ a b)>128∨nl (b/bIQ a b)>128
 ·rw[if_pos c,if_pos Om]
 ·rw[if_neg c,if_neg Om]
structure XZ (C:Ctx):Prop extends atA C where
 valid:∀ x:RF,x.Ok→aD C 56 [.agg x.cells] .nil (aE (.bool (cM (val x.num) (val x.den))))
 big:∀ x:FV,aD C 48 [.agg x.rf.cells] .nil (aE (.bool (aVX x.2.1 x.2.2)))
theorem biD {C:Ctx} (L:XZ C) (x:FV):HV.wp C (aU aeJ.res (bZ (frV (avY x)))) (PF.args [.agg x.rf.cells]) .nil:=by
 simp only[go_sem,δ,HV,aHL,aeJ]
 refine aQ fun o ho=>?_
 simp only[go_sem,δ,γ,aHM]
 refine aA (L.big x) rfl ?_
 unfold avY
 cases aVX x.2.1 x.2.2 with
 | true =>
  simp only[go_sem,δ,γ,aHN]
  refine fW ?_
  simp only[go_sem,δ,γ]
 | false =>
  obtain⟨n,a,b⟩:=x
  simp only[go_sem,δ,γ,reduceCtorEq,aHO]
  exact aW (.inr rfl) .nil (vs:=[.agg (FV.rf (n,a,b)).cells,.int .i64 0]) Sq PH.nil_le ⟨.refl _,rfl⟩
theorem a0W {C:Ctx} (L:XZ C) (x:RF) (hx:x.Ok):wU.wp C (aU CO.res (bZ (frV (mG x)))) (PF.args [.agg x.cells]) .nil:=by
 simp only[go_sem,δ,wU,aeS,CO]
 refine aQ fun o ho=>?_
 simp only[go_sem,δ,γ,aeT]
 refine aA (L.valid x hx) rfl ?_
 unfold mG
 cases hv:cM (val x.num) (val x.den) with
 | false =>
  simp only[go_sem,δ,γ,reduceCtorEq,bJB,aeU]
  refine fW ?_
  simp only[go_sem,δ,γ]
 | true =>
  obtain⟨v1,v2,v3⟩:=eV.1 hv
  have e:=VT (neg:=x.neg) hv
  rw[if_pos rfl,e]
  simp only[go_sem,δ,γ,θ,bIV,aeV]
  refine aA (L.lowest x.neg x.num x.den hx.1 hx.2.1 hx.2.2.1 hx.2.2.2 Om Om v1) rfl ?_
  simp only[go_sem,δ,γ]
  exact aW (.inr rfl) .nil (vs:=[.agg (kR x.neg (val x.num) (val x.den)).rf.cells,.int .i64 0]) Sq PH.nil_le ⟨.refl _,rfl⟩
theorem a9X {C:Ctx} (L:atA C) (a b:List Nat) (ha:Lim a) (hb:Lim b) (la:a.length≤35184372087808) (lb:b.length≤35184372087808) (na:nl (val a)≤256) (nb:nl (val b)≤256) :
  AS.wp C (aU PJ.res (aE (aF (aG (val a*val b))))) (PF.args [aF a,aF b]) .nil:=by
 simp only[go_sem,γ,reduceCtorEq,AS,aqR,aqS,PJ]
 refine aA (L.mul a b ha hb la lb) rfl ?_
 have:=kA na nb
 rw[fV Om Om,opV,wN Om]
 simp only[go_sem,γ,reduceCtorEq,aqT]
 refine aM (.inr rfl) rfl ?_
 rfl
structure atT (C:Ctx):Prop extends XZ C where
 fits:∀ x:FV,aD C 57 [.agg x.rf.cells] .nil (aE (frV (avY x)))
 red:∀ x:RF,x.Ok→aD C 52 [.agg x.cells] .nil (aE (frV (mG x)))
 prod:∀ a b,Lim a→Lim b→a.length≤35184372087808→b.length≤35184372087808→nl (val a)≤256→nl (val b)≤256→aD C 60 [aF a,aF b] .nil (aE (aF (aG (val a*val b))))
def RF.valid (x:RF):Prop:=cM (val x.num) (val x.den)=true
def mX (x y:RF):Int:=oY x.neg (val x.num) (val x.den) y.neg (val y.num) (val y.den)
def voS:Spec:=fun name vs=>match name,vs with
 | 60,[x,y]=>some ([],fun _=>aE (aF (aG (val (gQ x)*val (gQ y)))))
 | _,_=>none
theorem tA (a b:List Nat):voS 60 [aF a,aF b]=some ([],fun _=>aE (aF (aG (val a*val b)))):=by
 show some _=_; rw[dW,dW]
theorem akD (a b:Nat):dA b a=- dA a b:=by
 unfold dA
 rcases Nat.lt_trichotomy a b with h | h | h
 ·rw[if_neg Om,if_pos h,if_pos h]; rfl
 ·subst h
  rw[if_neg Om,if_neg Om]; rfl
 ·rw[if_pos h,if_neg Om,if_pos h]
set_option maxHeartbeats 1000000 in
theorem a9K {C : Ctx} (L : atT C) (x y : RF) (hx : x.Ok) (hy : y.Ok) (vx : x.valid) (vy : y.valid) : AR.wp C (aU PG.res (aE (.int .i64 (mX x y)))) (PF.args [.agg x.cells, .agg y.cells]) .nil := by
  obtain ⟨n1, a1, b1⟩ := x
  obtain ⟨n2, a2, b2⟩ := y
  obtain ⟨ha1, hb1, la1, lb1⟩ := hx
  obtain ⟨ha2, hb2, la2, lb2⟩ := hy
  obtain ⟨v1, v2, v3⟩ := eV.1 vx
  obtain ⟨w1, w2, w3⟩ := eV.1 vy
  simp only at ha1 hb1 la1 lb1 ha2 hb2 la2 lb2 v1 v2 v3 w1 w2 w3
  have m1 := kA v3 w2
  have m2 := kA w3 v2
  have hA : decide (val a1 ≠ 0) = decide (nl (val a1 * val b2) > 0) := by
    refine decide_eq_decide.2 ?_
    have := @fX (val a1 * val b2)
    rw [Nat.mul_eq_zero] at this
    omega
  have hB : decide (val a2 ≠ 0) = decide (nl (val a2 * val b1) > 0) := by
    refine decide_eq_decide.2 ?_
    have := @fX (val a2 * val b1)
    rw [Nat.mul_eq_zero] at this
    omega
  unfold mX oY
  simp only [hA, hB]
  simp only[go_sem,ο,γ,AR,aqH,PG]
  refine bT .nil voS PH.nil_le ?_
  simp only[go_sem,ο,δ,γ,θ,aqI]
  refine bK (tA a1 b2) (L.prod a1 b2 ha1 hb2 la1 lb2 Om Om) rfl PH.nil_le ?_
  simp only[go_sem,ο,δ,γ,θ]
  refine bK (tA a2 b1) (L.prod a2 b1 ha2 hb1 la2 lb1 Om Om) rfl PH.nil_le ?_
  have hc := L.cmp (aG (val a1 * val b2)) (aG (val a2 * val b1)) (aT _) (aT _) (by rw [aZ]; omega) (by rw [aZ]; omega)
  have hd := L.cmp (aG (val a2 * val b1)) (aG (val a1 * val b2)) (aT _) (aT _) (by rw [aZ]; omega) (by rw [aZ]; omega)
  rw [aR, aR] at hc hd
  rw [akD (val a1 * val b2)] at hd
  generalize val a1 * val b2 = A at *
  generalize val a2 * val b1 = B at *
  have gA : decide (((nl A : Nat) : Int) > 0) = decide (nl A > 0) := decide_eq_decide.2 Om
  have gB : decide (((nl B : Nat) : Int) > 0) = decide (nl B > 0) := decide_eq_decide.2 Om
  generalize decide (nl A > 0) = p at *
  generalize decide (nl B > 0) = q at *
  cases n1 <;> cases n2 <;> cases p <;> cases q
  all_goals
    simp only[go_sem,ο,δ,γ,θ,reduceCtorEq,aqJ,bIM,aZ,gA,gB,aqK,aqL,aqM,aqN,aqO,aqP,aqQ]
    first
    | (refine aM (.inr rfl) rfl ?_; rfl)
    | (refine aA hc rfl ?_
       simp only[go_sem,γ]
       refine aM (.inr rfl) rfl ?_
       rfl)
    | (refine aA hd rfl ?_
       simp only[go_sem,γ]
       refine aM (.inr rfl) rfl ?_
       rfl)
structure vJ (C:Ctx):Prop extends atT C where
 order:∀ x y:RF,x.Ok→y.Ok→x.valid→y.valid→aD C 51 [.agg x.cells,.agg y.cells] .nil (aE (.int .i64 (mX x y)))
theorem biG {C:Ctx} (L:vJ C) (x y:RF) (hx:x.Ok) (hy:y.Ok) (vx:x.valid) (vy:y.valid):HW.wp C (aU aeL.res (aE (.bool (decide (mX x y<0))))) (PF.args [.agg x.cells,.agg y.cells]) .nil:=by
 simp only[go_sem,δ,γ,HW,aHR,aHS,aeL]
 refine aA (L.order x y hx hy vx vy) rfl ?_
 simp only[go_sem,γ]
 refine aM (.inr rfl) rfl ?_
 rfl
theorem biK {C:Ctx} (L:vJ C) (x y:RF) (hx:x.Ok) (hy:y.Ok) (vx:x.valid) (vy:y.valid):IB.wp C (aU aeW.res (aE (.bool (mX x y==0)))) (PF.args [.agg x.cells,.agg y.cells]) .nil:=by
 simp only[go_sem,δ,γ,IB,aIC,aID,aeW]
 refine aA (L.order x y hx hy vx vy) rfl ?_
 simp only[go_sem,γ]
 refine aM (.inr rfl) rfl ?_
 rfl
theorem BY (n:Int):mkT n 1=⟨decide (n<0),aG n.natAbs,aG 1⟩:=by
 unfold mkT kR FV.rf
 rw[show (1:Int).natAbs=1 from rfl,Nat.gcd_one_right,Nat.div_one,Nat.div_one,show decide ((1:Int)<0)=false from rfl]
 congr 1
 by_cases h:n<0
 ·have:n.natAbs≠0:=by omega
  simp[h,this]
 ·simp[h]
theorem BW (n:Int) (h:cU n):(mkT n 1).Ok∧(mkT n 1).valid:=by
 have h1:nl n.natAbs≤2:=lO (by unfold cU at h; omega)
 rw[BY]
 refine⟨⟨aT _,aT _,?_,?_⟩,?_⟩
 ·simp only[aZ]; omega
 ·simp only[sT]; decide
 ·unfold RF.valid
  simp only[aR]
  rw[aqC]
  have:nl 1=1:=by rw[nl,sT]; rfl
  simp[this]
  omega
def oR (x:RF):Int:=if val x.num=0 then 0 else if x.neg then -1 else 1
theorem bfG (x:RF):mX x (mkT 0 1)=oR x:=by
 rw[BY]
 unfold mX oR oY
 simp only[aR,show (0:Int).natAbs=0 from rfl,Nat.mul_one,Nat.zero_mul]
 by_cases h:val x.num=0
 ·simp[h,dA]
 ·cases x.neg<;>simp[h,dA]
def viS (r:Int):Spec:=fun name _=>if name=47 then some ([],fun _=>aE (.agg (mkT 0 1).cells)) else some ([],fun _=>aE (.int .i64 r))
theorem biM {C:Ctx} (L:vJ C) (x:RF) (hx:x.Ok) (vx:x.valid):IC.wp C (aU aeX.res (aE (.int .i64 (oR x)))) (PF.args [.agg x.cells]) .nil:=by
 have h0:cU 0:=by unfold cU; omega
 have ho:=L.order x (mkT 0 1) hx (BW 0 h0).1 vx (BW 0 h0).2
 rw[bfG] at ho
 simp only[go_sem,IC,aIE,aeX]
 refine bT .nil (viS (oR x)) PH.nil_le ?_
 simp only[go_sem,δ,γ,aIF]
 refine bK rfl (L.int 0 h0) rfl PH.nil_le ?_
 simp only[go_sem]
 refine bK rfl ho rfl PH.nil_le ?_
 simp only[go_sem,γ]
 refine aM (.inr rfl) rfl ?_
 rfl
theorem a8W {C:Ctx} (L:vJ C) (n1 n2:Bool) (a1 b1 a2 b2:List Nat) (ha1:Lim a1) (hb1:Lim b1) (ha2:Lim a2) (hb2:Lim b2)
  (la1:a1.length≤35184372087808) (lb1:b1.length≤35184372087808) (la2:a2.length≤35184372087808) (lb2:b2.length≤35184372087808) :
  yK.wp C (aU ajU.res (bZ (frV (gJ (n1,val a1,val b1) (n2,val a2,val b2))))) (PF.args [.agg (dY n1 a1 b1),.agg (dY n2 a2 b2)]) .nil:=by
 have vx:aD C 56 [.agg (dY n1 a1 b1)] .nil (aE (.bool (cM (val a1) (val b1)))):=L.valid ⟨n1,a1,b1⟩ ⟨ha1,hb1,la1,lb1⟩
 have vy:aD C 56 [.agg (dY n2 a2 b2)] .nil (aE (.bool (cM (val a2) (val b2)))):=L.valid ⟨n2,a2,b2⟩ ⟨ha2,hb2,la2,lb2⟩
 simp only[go_sem,δ,γ,yK,aTT,ajU]
 refine aQ fun o ho=>?_
 simp only[go_sem,δ,γ,aTU]
 refine aA vx rfl ?_
 simp only[gJ]
 cases hv:cM (val a1) (val b1) with
 | false =>
  simp only[go_sem,δ,γ,reduceCtorEq,bJB,ajV,bIS]
  refine fW ?_
  simp only[go_sem,δ,γ]
 | true =>
  obtain⟨v1,v2,v3⟩:=eV.1 hv
  simp only[go_sem,δ,γ,bIV]
  refine aA vy rfl ?_
  cases hw:cM (val a2) (val b2) with
  | false =>
   simp only[go_sem,δ,γ,reduceCtorEq,bJB,ajV,bKC]
   refine fW ?_
   simp only[go_sem,δ,γ]
  | true =>
   obtain⟨w1,w2,w3⟩:=eV.1 hw
   simp only[go_sem,γ,reduceCtorEq,bIV,bKL]
   refine bT .nil voS PH.nil_le ?_
   simp only[go_sem,δ,γ,θ,aTV]
   refine bK (tA a1 b2) (L.prod a1 b2 ha1 hb2 la1 lb2 Om Om) rfl PH.nil_le ?_
   simp only[go_sem,δ,γ,θ]
   refine bK (tA a2 b1) (L.prod a2 b1 ha2 hb1 la2 lb1 Om Om) rfl PH.nil_le ?_
   simp only[go_sem,γ]
   refine bK (tA b1 b2) (L.prod b1 b2 hb1 hb2 lb1 lb2 Om Om) rfl PH.nil_le ?_
   simp only[go_sem,γ]
   have m1:=kA v3 w2
   have m2:=kA w3 v2
   have m3:=kA v2 w2
   have d0:val b1*val b2≠0:=Nat.mul_ne_zero v1 w1
   generalize hA:val a1*val b2=A at *
   generalize hB:val a2*val b1=B at *
   generalize hD:val b1*val b2=D at *
   have fin:∀ (F:PF) (H:PH) (r:FR),(∃ neg' x y e,frV r=.tup [.agg (dY neg' x y),.int .i64 e]∧F 4=some (.ptr o 3 0 0)∧F 5=some (.int .i64 e)∧H o=some (.rows 3 [dY neg' x y]))→aU [.cell 4 (some 3),.tmp 5] (bZ (frV r)) .ret F H:=by
    rintro F H r ⟨neg',x,y,e,he,f4,f5,hH⟩
    rw[he]
    exact aW (.inr rfl) .nil (vs:=[.agg (dY neg' x y),.int .i64 e]) (by simp only[go_sem,δ,f4,f5,hH]) PH.nil_le ⟨.refl _,rfl⟩
   have eb:(n1==n2)=decide (n1=n2):=by cases n1<;>cases n2<;>rfl
   have low:∀ neg x,nl x≤257→aD C 58 [.bool neg,aF (aG x),aF (aG D)] .nil (aE (.agg (kR neg x D).rf.cells)):=by
    intro neg x hx
    have h1:(aG x).length≤35184372087808:=by rw[aZ]; omega
    have h2:(aG D).length≤35184372087808:=by rw[aZ]; omega
    have:=L.lowest neg (aG x) (aG D) (aT _) (aT _) h1 h2
    rw[aR,aR] at this
    exact this Om Om d0
   have fit:∀ neg x,aD C 57 [.agg (kR neg x D).rf.cells] .nil (aE (frV (fZ neg x D))):=fun neg x=>by
    have:=L.fits (kR neg x D)
    rwa [bkQ] at this
   have lA:(aG A).length≤35184372087808:=by rw[aZ]; omega
   have lB:(aG B).length≤35184372087808:=by rw[aZ]; omega
   simp only[go_sem,δ,γ,θ,aTW]
   by_cases c:n1=n2
   ·rw[if_pos c]
    have c':(n1==n2)=true:=by rw[eb,decide_eq_true c]
    simp only[go_sem,γ,c',aTX]
    have hadd:=L.add (aG A) (aG B) (aT _) (aT _) lA lB
    have nab:=aBX m1 m2
    rw[aR,aR,fV Om Om,opV,wN Om] at hadd
    refine aA hadd rfl ?_
    simp only[go_sem,δ,γ,θ,reduceCtorEq,aTY]
    refine aA (low n1 _ Om) rfl ?_
    simp only[go_sem]
    refine aA (fit n1 _) rfl ?_
    obtain⟨neg',x,y,e,hl⟩:=rE (fZ n1 (A+B) D)
    rw[hl]
    simp only[go_sem,δ,γ]
    rw[← hl]
    exact fin _ _ _ ⟨neg',x,y,e,hl,by simp only[go_sem,γ],by simp only[go_sem,γ],by simp only[go_sem]⟩
   ·rw[if_neg c]
    have c':(n1==n2)=false:=by rw[eb,decide_eq_false c]
    simp only[go_sem,γ,c',aTZ]
    have hc:=L.cmp (aG A) (aG B) (aT _) (aT _) lA lB
    rw[aR,aR] at hc
    refine aA hc rfl ?_
    have hsub:∀ X Y:Nat,nl X≤256→nl Y≤256→Y≤X→aD C 37 [aF (aG X),aF (aG Y)] .nil (aE (.tup [aF (aG (X-Y)),.int .i64 0])):=by
     intro X Y h1 h2 h
     have:=L.sub (aG X) (aG Y) (aT _) (aT _) (by rw[aZ]; omega) (by rw[aZ]; omega)
     have h3:=eY (Om:X-Y≤X)
     rw[aR,aR,pB,fV Om Om,if_neg (by decide),if_neg Om,wN Om] at this
     exact this
    by_cases g:B≤A
    ·have g':dA A B≥0:=(QF A B).2 g
     rw[if_pos g]
     simp only[go_sem,γ,g',aUA]
     refine aA (hsub A B Om Om g) rfl ?_
     simp only[go_sem,δ,γ,θ,aUB]
     have h3:=eY (Om:A-B≤A)
     refine aA (low n1 (A-B) Om) rfl ?_
     simp only[go_sem]
     refine aA (fit n1 _) rfl ?_
     obtain⟨neg',x,y,e,hl⟩:=rE (fZ n1 (A-B) D)
     rw[hl]
     simp only[go_sem,δ,γ]
     rw[← hl]
     exact fin _ _ _ ⟨neg',x,y,e,hl,by simp only[go_sem,γ],by simp only[go_sem,γ],by simp only[go_sem]⟩
    ·have g':¬ dA A B≥0:=fun h=>g ((QF A B).1 h)
     rw[if_neg g]
     simp only[go_sem,γ,g',aHH]
     refine aA (hsub B A Om Om Om) rfl ?_
     simp only[go_sem,δ,γ,θ,aHI]
     have h3:=eY (Om:B-A≤B)
     refine aA (low n2 (B-A) Om) rfl ?_
     simp only[go_sem]
     refine aA (fit n2 _) rfl ?_
     obtain⟨neg',x,y,e,hl⟩:=rE (fZ n2 (B-A) D)
     rw[hl]
     simp only[go_sem,δ,γ]
     rw[← hl]
     exact fin _ _ _ ⟨neg',x,y,e,hl,by simp only[go_sem,γ],by simp only[go_sem,γ],by simp only[go_sem]⟩
theorem boP {C:Ctx} (L:vJ C) (x y:RF) (hx:x.Ok) (hy:y.Ok):yK.wp C (aU ajU.res (bZ (frV (gJ x.v y.v)))) (PF.args [.agg x.cells,.agg y.cells]) .nil :=
 a8W L x.neg y.neg x.num x.den y.num y.den hx.1 hx.2.1 hy.1 hy.2.1 hx.2.2.1 hx.2.2.2 hy.2.2.1 hy.2.2.2
structure aVM (C:Ctx):Prop extends vJ C where
 less:∀ x y:RF,x.Ok→y.Ok→x.valid→y.valid→aD C 49 [.agg x.cells,.agg y.cells] .nil (aE (.bool (decide (mX x y<0))))
 same:∀ x y:RF,x.Ok→y.Ok→x.valid→y.valid→aD C 53 [.agg x.cells,.agg y.cells] .nil (aE (.bool (mX x y==0)))
 sign:∀ x:RF,x.Ok→x.valid→aD C 54 [.agg x.cells] .nil (aE (.int .i64 (oR x)))
 plus:∀ x y:RF,x.Ok→y.Ok→aD C 46 [.agg x.cells,.agg y.cells] .nil (aE (frV (gJ x.v y.v)))
def vsF (l:List RF) (o2 o4 k:Nat):PF:=((((PF.nil.set 0 (frs l)).set 2 (.ptr o2 3 0 0)).set 4 (.ptr o4 3 0 0)).set 5 (.int .i64 k))
theorem boU {C:Ctx} (L:aVM C) (l:List RF) (hl:∀ x∈l,x.Ok) (hlen:l.length≤9223372036854775807) :
  PI.wp C (aU aIK.res (bZ (frV (nA (l.map RF.v))))) (PF.args [frs l]) .nil:=by
 have h0:cU 0:=by unfold cU; omega
 have hi:(mkT 0 1).cells=(FV.rf (false,0,1)).cells:=by rw[BY]; rfl
 have hint:=L.int 0 h0
 rw[hi] at hint
 simp only[go_sem,δ,PI,aUG,aIK]
 refine aQ fun o2 ho2=>?_
 have h1:aS (PH.nil.set o2 (.rows 3 [[.bool false,.aB,.aB]])) [(o2,.rows 3 [[.bool false,.aB,.aB]])] []:=aS.nil.new (H:=PH.nil) rfl _
 generalize (PH.nil.set o2 _)=H1 at *
 simp only[go_sem,aUH]
 refine aA hint rfl ?_
 simp only[go_sem,δ]
 refine aQ fun o4 ho4=>?_
 have h2:=h1.new ho4 (.rows 3 [(FV.rf (false,0,1)).cells])
 simp only[go_sem,δ,γ,aUI]
 refine wp_loop (α:=Nat × FV × PH) (fun t=>vsF l o2 o4 t.1) (fun t=>t.2.2) (fun t=>t.1≤l.length∧((l.map RF.v).take t.1).foldlM gJ (false,0,1)=.ok t.2.1∧aS t.2.2 [(o2,.rows 3 [[.bool false,.aB,.aB]]),(o4,.rows 3 [(FV.rf t.2.1).cells])] []∧(FV.rf t.2.1).Ok) (fun t=>l.length-t.1)
  (0,(false,0,1),_) ⟨bIX _,rfl,h2,⟨aT _,aT _,?_,?_⟩⟩ ?_ PH.le_refl ?_
 ·show (aG 0).length≤_
  rw[eU]; simp
 ·show (aG 1).length≤_
  rw[sT]; simp
 ·unfold vsF
  exact Lq
 rintro⟨k,acc,H0⟩ ⟨hk,hf,hH,hacc⟩
 simp only at hk hf hH hacc ⊢
 simp only[go_sem,γ,reduceCtorEq,aUF,aUJ,vsF,bIM]
 by_cases hlt:k<l.length
 ·have bGP:(k:Int)<(l.length:Nat):=by omega
  have hr:(l.map RF.cells)[k]?=some (l[k]).cells:=by simp[hlt]
  have hadd:=L.plus (FV.rf acc) l[k] hacc (hl _ (bIR hlt))
  rw[FV.brH] at hadd
  have bGQ:=SA (f:=gJ) (l.map RF.v) (false,0,1) (k:=k) (by simpa using hlt)
  rw[hf] at bGQ
  simp only[Except.bind,bKU] at bGQ
  have e4:=hH.at 1 rfl
  simp only[go_sem,bGP]
  refine bT .nil (fun _ _=>some ([],fun _=>aE (frV (gJ acc (l[k]).v)))) PH.nil_le ?_
  simp only[go_sem,δ,γ,reduceCtorEq,aUK,e4,hr]
  refine bK rfl hadd rfl PH.nil_le ?_
  cases he:gJ acc (l[k]).v with
  | error e =>
   have he0:e≠0:=by
    revert he
    obtain⟨n1,a1,b1⟩:=acc
    obtain⟨n2,a2,b2⟩:=(l[k]).v
    simp only[gJ,fZ]
    repeat' split
    all_goals (intro h; first | (injection h with h; subst h; decide) | cases h)
   rw[he] at bGQ
   simp only[go_sem,δ,γ,reduceCtorEq,frV]
   refine aQ fun o6 ho6=>?_
   simp only[go_sem,δ,γ,reduceCtorEq]
   refine⟨PH.nil_le,?_⟩
   have h6:=hH.new ho6 (.rows 3 [[.bool false,aF [],aF []]])
   have e2:=h6.at 0 rfl
   simp only[go_sem,δ,γ,reduceCtorEq,ajX,cT he0,aUL,e2]
   rw[nA,aaH _ _ bGQ]
   refine fW ?_
   simp only[go_sem,δ,γ,reduceCtorEq]
  | ok r =>
   rw[he] at bGQ
   obtain⟨rn,ra,rb⟩:=r
   simp only[go_sem,δ,γ,reduceCtorEq,frV]
   refine aQ fun o6 ho6=>?_
   simp only[go_sem,δ,γ,reduceCtorEq]
   refine⟨PH.nil_le,?_⟩
   have h6:=hH.new ho6 (.rows 3 [(FV.rf (rn,ra,rb)).cells])
   have e6:=h6.at 2 rfl
   have e4':=h6.at 1 rfl
   generalize hG:H0.set o6 (.rows 3 [(FV.rf (rn,ra,rb)).cells])=H6 at *
   have hG':H0.set o6 (.rows 3 [[.bool rn,aF (aG ra),aF (aG rb)]])=H6:=hG
   simp only[go_sem,σ,δ,γ,reduceCtorEq,ajX,aUM,hG',e6,e4',aUN,wZz k]
   have h7:=(h6.set 1 rfl (.rows 3 [(FV.rf (rn,ra,rb)).cells])).btZ 2
   refine aK (k+1,(rn,ra,rb),_) ⟨hlt,bGQ,h7,ahK he⟩ (by simp only; omega) ?_ PH.le_refl
   exact Lq
 ·have bGP:¬ (k:Int)<(l.length:Nat):=by omega
  have:k=l.length:=by omega
  subst this
  rw[bJD (by simp)] at hf
  rw[nA,hf]
  have e2:=hH.at 0 rfl
  have e4:=hH.at 1 rfl
  obtain⟨n,a,b⟩:=acc
  simp only[go_sem,δ,γ,reduceCtorEq,bGP,aIL,e4,e2]
  exact aW (.inr rfl) .nil (vs:=[.agg (FV.rf (n,a,b)).cells,.int .i64 0]) Sq PH.nil_le ⟨.refl _,rfl⟩
theorem dge {n:Nat} (k:Nat):decide ((n:Int)≥(k:Int))=decide (k≤n):=decide_eq_decide.2 Om
theorem dle {n:Nat} (k:Nat):decide ((n:Int)≤(k:Int))=decide (n≤k):=decide_eq_decide.2 Om
theorem a2M {C:Ctx} (n:Nat):wX.wp C (aU CR.res (aE (.bool (eR n)))) (PF.args [.int .u8 n]) .nil:=by
 have h1:=dge (n:=n) 97
 have h2:=dle (n:=n) 122
 have h3:=dge (n:=n) 65
 have h4:=dle (n:=n) 90
 simp only[Int.cast_ofNat_Int] at h1 h2 h3 h4
 unfold eR
 generalize decide (97≤n)=a at *
 generalize decide (n≤122)=b at *
 generalize decide (65≤n)=c at *
 generalize decide (n≤90)=d at *
 cases a<;>cases b<;>cases c<;>cases d
 all_goals
  simp only[go_sem,γ,reduceCtorEq,wX,afL,afM,CR,h1,h2,h3,h4]
  refine aM (.inr rfl) rfl ?_
  rfl
theorem baZ {C:Ctx} (n:Nat):AX.wp C (aU PO.res (aE (.bool (kK n)))) (PF.args [.int .u8 n]) .nil:=by
 have h1:=dge (n:=n) 48
 have h2:=dle (n:=n) 57
 simp only[Int.cast_ofNat_Int] at h1 h2
 unfold kK
 generalize decide (48≤n)=a at *
 generalize decide (n≤57)=b at *
 cases a<;>cases b
 all_goals
  simp only[go_sem,γ,reduceCtorEq,AX,arG,arH,PO,h1,h2]
  refine aM (.inr rfl) rfl ?_
  rfl
theorem a2I {C:Ctx} (h1:∀ n:Nat,aD C 65 [.int .u8 n] .nil (aE (.bool (eR n)))) (h2:∀ n:Nat,aD C 63 [.int .u8 n] .nil (aE (.bool (kK n)))) (n:Nat) :
  wV.wp C (aU CP.res (aE (.bool (fB n)))) (PF.args [.int .u8 n]) .nil:=by
 have g1:((n:Int)==45)=decide (n=45):=by by_cases h:n=45<;>simp[h]; omega
 have g2:((n:Int)==46)=decide (n=46):=by by_cases h:n=46<;>simp[h]; omega
 have k1:=h1 n
 have k2:=h2 n
 unfold fB
 generalize decide (n=45)=a at *
 generalize decide (n=46)=b at *
 simp only[go_sem,reduceCtorEq,wV,afA,afB,CP]
 refine aA k1 rfl ?_
 cases eR n with
 | true =>
  simp only[go_sem,γ]
  refine aM (.inr rfl) rfl ?_
  rfl
 | false =>
  simp only[go_sem,γ,reduceCtorEq]
  refine aA k2 rfl ?_
  cases kK n<;>cases a<;>cases b
  all_goals
   simp only[go_sem,γ,reduceCtorEq,g1,g2]
   refine aM (.inr rfl) rfl ?_
   rfl
theorem a2K {C:Ctx} (h1:∀ n:Nat,aD C 65 [.int .u8 n] .nil (aE (.bool (eR n)))) (h2:∀ n:Nat,aD C 64 [.int .u8 n] .nil (aE (.bool (fB n)))) (s:List UInt8) :
  wW.wp C (aU CQ.res (aE (.bool (isName s)))) (PF.args [.str s]) .nil:=by
 simp only[go_sem,γ,reduceCtorEq,wW,afD,afE,CQ]
 cases s with
 | nil =>
  have h0:decide (((0:Nat):Int)<1)=true:=rfl
  simp only[go_sem,γ,uK,bKY,h0]
  refine aM (.inr rfl) rfl ?_
  rfl
 | cons c t =>
  have hz:(c::t)[0]?=some c:=rfl
  have hN:isName (c::t)=(decide ((c::t).length≤16)&&eR c.toNat&&(c::t).all fun c=>fB c.toNat):=rfl
  have hpos:¬ (((c::t).length:Nat):Int)<1:=by simp only[bKH]; omega
  generalize c::t=s at *
  by_cases hl:s.length≤16
  ·have hl':¬ ((s.length:Nat):Int)>16:=by omega
   rw[decide_eq_true hl,bIY] at hN
   have k1:=h1 c.toNat
   simp only[go_sem,ν,γ,reduceCtorEq,hpos,hl',hz,bJW]
   refine aA k1 rfl ?_
   cases hc:eR c.toNat with
   | false =>
    simp only[go_sem,γ,reduceCtorEq,bJB,uK]
    refine aM (.inr rfl) rfl ?_
    rw[aX,hN,hc,bIS]
   | true =>
    rw[hc,bIY] at hN
    simp only[go_sem,γ,reduceCtorEq,bIV,afF]
    refine wp_loop (α:=Nat) (fun k=>((PF.nil.set 0 (.str s)).set 3 (.int .i64 k))) (fun _=>.nil) (fun k=>k≤s.length∧(s.take k).all (fun c=>fB c.toNat)=true) (fun k=>s.length-k) 0 ⟨bIX _,rfl⟩ Lq PH.nil_le ?_
    rintro k ⟨hk,ha⟩
    simp only[go_sem,γ,reduceCtorEq,afC,afG]
    by_cases hlt:k<s.length
    ·have bGP:(k:Int)<(s.length:Nat):=by omega
     have hat:s[k]?=some s[k]:=bIW hlt
     have k2:=h2 (s[k]).toNat
     simp only[go_sem,γ,reduceCtorEq,bGP,afH,hat,bJW]
     refine aA k2 rfl ?_
     cases hi:fB (s[k]).toNat with
     | false =>
      simp only[go_sem,γ,reduceCtorEq,bJB,afI]
      refine aM (.inr rfl) rfl ?_
      rw[aX,hN,mQ hlt hi]
     | true =>
      simp only[go_sem,γ,reduceCtorEq,bIV,afJ,wZz k]
      exact aK (k+1) ⟨hlt,by simpa using mP hlt ha hi⟩ Om Lq PH.le_refl
    ·have bGP:¬ (k:Int)<(s.length:Nat):=by omega
     have:k=s.length:=by omega
     subst this
     rw[bJN] at ha
     simp only[go_sem,bGP,afK]
     refine aM (.inr rfl) rfl ?_
     rw[aX,hN,ha]
  ·have hl':((s.length:Nat):Int)>16:=by omega
   rw[decide_eq_false hl,bIS,bIS] at hN
   simp only[go_sem,γ,reduceCtorEq,hpos,hl',uK]
   refine aM (.inr rfl) rfl ?_
   rw[aX,hN]
def DB (k m:Int):Bool:=within k 1 6&&(within m 0 4&&decide (k+m≤8))
theorem bgQ {C:Ctx} (k m:Int):lS.wp C (aU uF.res (aE (.bool (DB k m)))) (PF.args [.int .i64 k,.int .i64 m]) .nil:=by
 unfold DB within
 by_cases h1:1≤k
 ·by_cases h2:k≤6
  ·by_cases h3:0≤m
   ·by_cases h4:m≤4
    ·have hw:IntKind.i64.wrap (k+m)=k+m:=wrap_i64 Om Om
     simp only[go_sem,γ,reduceCtorEq,lS,rR,rS,uF,ge_iff_le,h1,h2,h3,h4,hw]
     refine aM (.inr rfl) rfl ?_
     simp[aX,h1,h2,h3,h4]
    ·simp only[go_sem,γ,reduceCtorEq,lS,rR,rS,uF,ge_iff_le,h1,h2,h3,h4]
     refine aM (.inr rfl) rfl ?_
     simp[aX,h1,h2,h3,h4]
   ·simp only[go_sem,γ,reduceCtorEq,lS,rR,rS,uF,ge_iff_le,h1,h2,h3]
    refine aM (.inr rfl) rfl ?_
    simp[aX,h1,h2,h3]
  ·simp only[go_sem,γ,reduceCtorEq,lS,rR,rS,uF,ge_iff_le,h1,h2]
   refine aM (.inr rfl) rfl ?_
   simp[aX,h1,h2]
 ·simp only[go_sem,γ,reduceCtorEq,lS,rR,rS,uF,ge_iff_le,h1]
  refine aM (.inr rfl) rfl ?_
  simp[aX,h1]
theorem a3C {C:Ctx} (n lo hi:Int):rC.wp C (aU vI.res (aE (.bool (within n lo hi)))) (PF.args [.int .i64 n,.int .i64 lo,.int .i64 hi]) .nil:=by
 unfold within
 by_cases h:lo≤n
 ·simp only[go_sem,γ,reduceCtorEq,rC,JC,JD,vI,ge_iff_le,h]
  refine aM (.inr rfl) rfl ?_
  simp[aX,h]
 ·simp only[go_sem,γ,reduceCtorEq,rC,JC,JD,vI,ge_iff_le,h]
  refine aM (.inr rfl) rfl ?_
  simp[aX,h]
def mY (a b c d e f:Nat):Bool:=decide (a≤4)&&(decide (b≤4)&&(decide (c≤40)&&(decide (d≤24)&&(decide (e≤4)&&decide (f≤12)))))
theorem bbU {C:Ctx} (a b c d e f:Nat):BD.wp C (aU PY.res (aE (.bool (mY a b c d e f)))) (PF.args [.int .i64 a,.int .i64 b,.int .i64 c,.int .i64 d,.int .i64 e,.int .i64 f]) .nil:=by
 have g:∀ x k:Nat,decide ((x:Int)≤(k:Int))=decide (x≤k):=fun x k=>decide_eq_decide.2 Om
 have h1:=g a 4
 have h2:=g b 4
 have h3:=g c 40
 have h4:=g d 24
 have h5:=g e 4
 have h6:=g f 12
 simp only[Int.cast_ofNat_Int] at h1 h2 h3 h4 h5 h6
 unfold mY
 simp only[go_sem,γ,reduceCtorEq,BD,asD,asE,PY,h1]
 cases decide (a≤4) with
 | false =>
  simp only[go_sem,γ,reduceCtorEq]
  refine aM (.inr rfl) rfl ?_
  rfl
 | true =>
  simp only[go_sem,γ,h2]
  cases decide (b≤4) with
  | false =>
   simp only[go_sem,γ,reduceCtorEq]
   refine aM (.inr rfl) rfl ?_
   rfl
  | true =>
   simp only[go_sem,γ,h3]
   cases decide (c≤40) with
   | false =>
    simp only[go_sem,γ,reduceCtorEq]
    refine aM (.inr rfl) rfl ?_
    rfl
   | true =>
    simp only[go_sem,γ,h4]
    cases decide (d≤24) with
    | false =>
     simp only[go_sem,γ,reduceCtorEq]
     refine aM (.inr rfl) rfl ?_
     rfl
    | true =>
     simp only[go_sem,γ,h5]
     cases decide (e≤4) with
     | false =>
      simp only[go_sem,γ,reduceCtorEq]
      refine aM (.inr rfl) rfl ?_
      rfl
     | true =>
      simp only[go_sem,γ,h6]
      refine aM (.inr rfl) rfl ?_
      rfl
structure XV (C:Ctx):Prop extends aVM C where
 sum:∀ l:List RF,(∀ x∈l,x.Ok)→l.length≤9223372036854775807→aD C 55 [frs l] .nil (aE (frV (nA (l.map RF.v))))
 inn:∀ n lo hi:Int,aD C 76 [.int .i64 n,.int .i64 lo,.int .i64 hi] .nil (aE (.bool (within n lo hi)))
 code:∀ k m:Int,aD C 61 [.int .i64 k,.int .i64 m] .nil (aE (.bool (DB k m)))
def GG (k m q s0 s1 s2 s3 s4:Int):Bool:=DB k m&&(within q k (k+m)&&(decide (s0=0)&&(within s1 0 8&&(within s2 0 8&&(within s3 0 8&&within s4 0 8)))))
theorem bmX (p:cY):GF p=GG p.k p.m p.bHM p.s0 p.s1 p.s2 p.s3 p.s4:=by
 unfold GF GG DB
 have:within p.s0 0 8=true∨p.s0≠0:=by
  by_cases h:p.s0=0
  ·rw[h]; exact .inl rfl
  ·exact .inr h
 simp only[List.all_cons,List.all_nil,bKL]
 rcases this with h | h
 ·rw[h]
  simp only[bIY,bLJ]
 ·simp only[h,decide_false,bIS,bKC]
def spR (s1 s2 s3 s4:Int) (k:Nat):Int:=match k with
 | 1=>s1
 | 2=>s2
 | 3=>s3
 | _=>s4
theorem aLF {C:Ctx} (L:XV C) (k m q s0 s1 s2 s3 s4:Int) :
  tN.wp C (aU xC.res (aE (.bool (GG k m q s0 s1 s2 s3 s4)))) (PF.args [.int .i64 k,.int .i64 m,.int .i64 q,.agg [.int .i64 s0,.int .i64 s1,.int .i64 s2,.int .i64 s3,.int .i64 s4]]) .nil:=by
 obtain⟨X,hX⟩:∃ X,GG k m q s0 s1 s2 s3 s4=X:=⟨_,rfl⟩
 rw[hX]
 unfold GG at hX
 simp only[go_sem,γ,reduceCtorEq,tN,UA,UB,xC]
 refine aA (L.code k m) rfl ?_
 cases h1:DB k m with
 | false =>
  rw[h1,bIS] at hX
  simp only[go_sem,γ,bJB,sJ]
  refine aM (.inr rfl) rfl ?_
  rw[aX,hX]
 | true =>
  rw[h1,bIY] at hX
  have hb:1≤k∧k≤6∧0≤m∧m≤4:=by
   simp only[DB,bJI,within_iff] at h1
   omega
  have hw:IntKind.i64.wrap (k+m)=k+m:=wrap_i64 Om Om
  simp only[go_sem,γ,reduceCtorEq,bIV,hw]
  refine aA (L.inn q k (k+m)) rfl ?_
  cases h2:within q k (k+m) with
  | false =>
   rw[h2,bIS] at hX
   simp only[go_sem,γ,reduceCtorEq,bJB,sJ]
   refine aM (.inr rfl) rfl ?_
   rw[aX,hX]
  | true =>
   rw[h2,bIY] at hX
   have l50:(0:Int)<((5:Nat):Int):=by decide
   by_cases h3:s0=0
   ·rw[decide_eq_true h3,bIY] at hX
    simp only[go_sem,ν,δ,γ,θ,ζ,reduceCtorEq,bIV,l50,bP h3,UC]
    refine wp_loop (α:=Nat) (fun j=>((PF.nil.set 7 (.bJ [.int .i64 s0,.int .i64 s1,.int .i64 s2,.int .i64 s3,.int .i64 s4])).set 9 (.int .i64 j))) (fun _=>.nil) (fun j=>1≤j∧j≤5∧∀ i,1≤i→i<j→within (spR s1 s2 s3 s4 i) 0 8=true) (fun j=>5-j) 1 ⟨by decide,by decide,fun i h1 h2=>by omega⟩ Lq PH.nil_le ?_
    rintro j ⟨hj1,hj5,bHZ⟩
    simp only[go_sem,γ,TZ,UD]
    by_cases hlt:j<5
    ·have bGP:(j:Int)<5:=by omega
     have hlt5:((j:Nat):Int)<((5:Nat):Int):=by omega
     have hin:=L.inn (spR s1 s2 s3 s4 j) 0 8
     obtain⟨c,hc2⟩:∃ c,within (spR s1 s2 s3 s4 j) 0 8=c:=⟨_,rfl⟩
     rw[hc2] at hin
     have bGQ:c=true→∀ i,1≤i→i<j+1→within (spR s1 s2 s3 s4 i) 0 8=true:=fun hc i a b=>by
      by_cases e:i=j
      ·rw[e,hc2,hc]
      ·exact bHZ i a Om
     have bad:c=false→X=false:=by
      intro h
      rw[h] at hc2
      have hc:j=1∨j=2∨j=3∨j=4:=by omega
      rw[← hX]
      rcases hc with rfl | rfl | rfl | rfl<;>(simp only[spR] at hc2; rw[hc2]; simp)
     have hc:j=1∨j=2∨j=3∨j=4:=by omega
     cases c with
     | false =>
      have hXf:=bad rfl
      rcases hc with rfl | rfl | rfl | rfl
      all_goals
       simp only[spR] at hin
       simp only[go_sem,δ,γ,θ,ζ,ε,bGP,BC,hlt5]
       refine aA hin rfl ?_
       simp only[go_sem,γ,bJB,UE]
       refine aM (.inr rfl) rfl ?_
       rw[aX,hXf]
     | true =>
      have hs:=bGQ rfl
      rcases hc with rfl | rfl | rfl | rfl
      all_goals
       simp only[spR] at hin
       simp only[go_sem,δ,γ,θ,ζ,ε,bGP,BC,hlt5]
       refine aA hin rfl ?_
       simp only[go_sem,γ,bIV,UF]
       refine aK (_+1) ⟨by omega,hlt,hs⟩ Om Lq PH.le_refl
    ·have bGP:¬ (j:Int)<5:=by omega
     have:j=5:=by omega
     subst this
     simp only[go_sem,ε,bGP,UG]
     refine aM (.inr rfl) rfl ?_
     have a1:=bHZ 1 (by decide) (by decide)
     have a2:=bHZ 2 (by decide) (by decide)
     have a3:=bHZ 3 (by decide) (by decide)
     have a4:=bHZ 4 (by decide) (by decide)
     simp only[spR] at a1 a2 a3 a4
     rw[aX,← hX,a1,a2,a3,a4]
     rfl
   ·rw[decide_eq_false h3,bIS] at hX
    simp only[go_sem,ν,δ,γ,θ,ζ,reduceCtorEq,bIV,l50,cT h3,sJ]
    refine aM (.inr rfl) rfl ?_
    rw[aX,hX]
theorem nI {x:RF} (h:cG x=true):x.valid:=by
 unfold cG mG at h
 unfold RF.valid
 cases hv:cM (val x.num) (val x.den) with
 | true=>rfl
 | false =>
  rw[hv] at h
  simp at h
theorem bbW {C:Ctx} (L:XV C) (x:RF) (hx:x.Ok):BE.wp C (aU PZ.res (aE (.bool (cG x)))) (PF.args [.agg x.cells]) .nil:=by
 have hr:=L.red x hx
 unfold cG
 simp only[go_sem,δ,γ,BE,asF,asG,PZ]
 refine aA hr rfl ?_
 cases he:mG x with
 | error e =>
  have h0:=aEA he
  simp only[go_sem,δ,γ,frV]
  refine aQ fun o ho=>?_
  simp only[go_sem,δ,γ,reduceCtorEq,yO,bF h0]
  refine aM (.inr rfl) rfl ?_
  rfl
 | ok r =>
  obtain⟨n,a,b⟩:=r
  have ea:=kF a 1
  have eb:=kF b 1
  have da:decide (((nl a:Nat):Int)≤1)=decide (cD a≤32):=decide_eq_decide.2 Om
  have db:decide (((nl b:Nat):Int)≤1)=decide (cD b≤32):=decide_eq_decide.2 Om
  simp only[go_sem,δ,γ,frV]
  refine aQ fun o ho=>?_
  cases n with
  | true =>
   simp only[go_sem,ρ,δ,γ,θ,reduceCtorEq,yO,bIV]
   refine aM (.inr rfl) rfl ?_
   rfl
  | false =>
   simp only[go_sem,ρ,δ,γ,θ,yO,bJB,bIM,aZ,da]
   cases decide (cD a≤32) with
   | false =>
    simp only[go_sem,γ,reduceCtorEq]
    refine aM (.inr rfl) rfl ?_
    rfl
   | true =>
    simp only[go_sem,δ,γ,bIM,aZ,db]
    refine aM (.inr rfl) rfl ?_
    rfl
structure ahF (C:Ctx):Prop extends XV C where
 small:∀ x:RF,x.Ok→aD C 74 [.agg x.cells] .nil (aE (.bool (cG x)))
 nums:∀ k m q s0 s1 s2 s3 s4:Int,aD C 72 [.int .i64 k,.int .i64 m,.int .i64 q,.agg [.int .i64 s0,.int .i64 s1,.int .i64 s2,.int .i64 s3,.int .i64 s4]] .nil (aE (.bool (GG k m q s0 s1 s2 s3 s4)))
 sizes:∀ a b c d e f:Nat,aD C 73 [.int .i64 a,.int .i64 b,.int .i64 c,.int .i64 d,.int .i64 e,.int .i64 f] .nil (aE (.bool (mY a b c d e f)))
theorem aaI {l:List RF} {k:Nat} (h:k<l.length):(l.map RF.cells)[k]?=some (l[k]).cells:=by simp[h]
theorem a3A {C:Ctx} (L:ahF C) (l:List RF) (hl:iY l) (n:Int):xD.wp C (aU CS.res (aE (.bool (decide ((l.length:Int)=n)&&l.all cG)))) (PF.args [frs l,.int .i64 n]) .nil:=by
 have hf:=hl.fits
 unfold Fits at hf
 simp only[go_sem,γ,reduceCtorEq,xD,afZ,agA,CS,bIM]
 by_cases h:((l.length:Nat):Int)=n
 ·rw[decide_eq_true h,bIY]
  subst h
  simp only[go_sem,bP (show ((l.length:Nat):Int)=(l.length:Nat) from rfl),agC]
  refine wp_loop (α:=Nat) (fun k=>(((PF.nil.set 0 (frs l)).set 1 (.int .i64 (l.length:Nat))).set 5 (.int .i64 k))) (fun _=>.nil) (fun k=>k≤l.length∧(l.take k).all cG=true) (fun k=>l.length-k) 0 ⟨bIX _,rfl⟩ Lq PH.nil_le ?_
  rintro k ⟨hk,ha⟩
  simp only[go_sem,γ,reduceCtorEq,afY,agD]
  by_cases hlt:k<l.length
  ·have bGP:(k:Int)<(l.length:Nat):=by omega
   have hs:=L.small l[k] (hl.all _ (bIR hlt))
   simp only[go_sem,δ,γ,reduceCtorEq,bGP,agE,aaI hlt]
   refine aA hs rfl ?_
   cases hi:cG l[k] with
   | false =>
    simp only[go_sem,γ,reduceCtorEq,bJB,agF]
    refine aM (.inr rfl) rfl ?_
    rw[aX,mQ hlt hi]
   | true =>
    have ha2:=bJJ.1 (mP hlt ha hi)
    simp only[go_sem,γ,reduceCtorEq,bIV,agG,wZz k]
    exact aK (k+1) ⟨hlt,ha2⟩ Om Lq PH.le_refl
  ·have bGP:¬ (k:Int)<(l.length:Nat):=by omega
   have:k=l.length:=by omega
   subst this
   rw[bJN] at ha
   simp only[go_sem,bGP,agH]
   refine aM (.inr rfl) rfl ?_
   rw[aX,ha]
 ·rw[decide_eq_false h,bIS]
  simp only[go_sem,cT h,agB]
  refine aM (.inr rfl) rfl ?_
  rfl
structure ahG (C:Ctx):Prop extends ahF C where
 smalls:∀ l:List RF,iY l→∀ n:Int,aD C 75 [frs l,.int .i64 n] .nil (aE (.bool (decide ((l.length:Int)=n)&&l.all cG)))
theorem GX (x:RF):(oR x==0)=!cA x:=by
 unfold oR cA
 by_cases h:val x.num=0
 ·simp[h]
 ·cases x.neg<;>simp[h]
def WS (l:List RF) (m:Int):Bool:=decide ((l.length:Int)=max m 1)&&l.all cG&&l.all cA
theorem bpC {C:Ctx} (L:ahG C) (l:List RF) (hl:iY l) (m:Int):PX.wp C (aU aJG.res (aE (.bool (WS l m)))) (PF.args [frs l,.int .i64 m]) .nil:=by
 have hf:=hl.fits
 unfold Fits at hf
 have hs:=L.smalls l hl (max m 1)
 unfold WS
 simp only[go_sem,γ,reduceCtorEq,PX,aUZ,aVA,aJG,max_eq]
 refine aA hs rfl ?_
 cases h:(decide ((l.length:Int)=max m 1)&&l.all cG) with
 | false =>
  simp only[go_sem,γ,bJB,aVB]
  refine aM (.inr rfl) rfl ?_
  rfl
 | true =>
  rw[bJI] at h
  have bHZ:=bJJ.1 h.2
  simp only[go_sem,γ,bIV,aVC]
  refine wp_loop (α:=Nat) (fun k=>((PF.nil.set 0 (frs l)).set 5 (.int .i64 k))) (fun _=>.nil) (fun k=>k≤l.length∧(l.take k).all cA=true) (fun k=>l.length-k) 0 ⟨bIX _,rfl⟩ Lq PH.nil_le ?_
  rintro k ⟨hk,ha⟩
  simp only[go_sem,γ,reduceCtorEq,aUY,aVD,bIM]
  by_cases hlt:k<l.length
  ·have bGP:(k:Int)<(l.length:Nat):=by omega
   have hm:=bIR hlt
   have hg:=L.sign l[k] (hl.all _ hm) (nI (bHZ _ hm))
   have hz:=GX l[k]
   simp only[go_sem,δ,γ,reduceCtorEq,bGP,aVE,aaI hlt]
   refine aA hg rfl ?_
   cases hi:cA l[k] with
   | false =>
    rw[hi] at hz
    simp only[go_sem,γ,reduceCtorEq,hz,bJB,aVF]
    refine aM (.inr rfl) rfl ?_
    rw[aX,mQ hlt hi]
   | true =>
    rw[hi] at hz
    have ha2:=bJJ.1 (mP hlt ha hi)
    simp only[go_sem,γ,reduceCtorEq,hz,bIV,aVG,wZz k]
    exact aK (k+1) ⟨hlt,ha2⟩ Om Lq PH.le_refl
  ·have bGP:¬ (k:Int)<(l.length:Nat):=by omega
   have:k=l.length:=by omega
   subst this
   rw[bJN] at ha
   simp only[go_sem,bGP,aVH]
   refine aM (.inr rfl) rfl ?_
   rw[aX,ha]
structure ahH (C:Ctx):Prop extends ahG C where
 reps:∀ l:List RF,iY l→∀ m:Int,aD C 66 [frs l,.int .i64 m] .nil (aE (.bool (WS l m)))
def frD:List PV→RF
 | [.bool n,a,b]=>⟨n,gQ a,gQ b⟩
 | _=>⟨false,[],[]⟩
theorem alM (x:RF):frD x.cells=x:=by
 show (⟨x.neg,gQ (aF x.num),gQ (aF x.den)⟩:RF)=x
 rw[dW,dW]
def zdS (r s:Bool):Spec:=fun name vs=>match name,vs with
 | 66,_=>some ([],fun _=>aE (.bool r))
 | 74,[.agg cs]=>some ([],fun _=>aE (.bool (cG (frD cs))))
 | 47,_=>some ([],fun _=>aE (.agg (mkT 1 1).cells))
 | 49,_=>some ([],fun _=>aE (.bool s))
 | _,_=>none
theorem arT (r s:Bool) (x:RF):zdS r s 74 [.agg x.cells]=some ([],fun _=>aE (.bool (cG x))):=by
 show some ([],fun _=>aE (.bool (cG (frD x.cells))))=_
 rw[alM]
theorem a6M (x y:RF):mX y x=- mX x y:=by
 unfold mX oY
 have e:=akD (val x.num*val y.den) (val y.num*val x.den)
 cases x.neg&&decide (val x.num≠0)<;>cases y.neg&&decide (val y.num≠0)<;>simp only[e,Int.neg_neg]<;>rfl
theorem bfE {x:RF} (hx:x.valid):decide (mX (mkT 1 1) x<0)=!rN x:=by
 rw[a6M x]
 unfold rN
 rw[show cM (val x.num) (val x.den)=true from hx,bIY,BY]
 unfold mX
 simp only[aR,show (1:Int).natAbs=1 from rfl,show decide ((1:Int)<0)=false from rfl]
 by_cases h:oY x.neg (val x.num) (val x.den) false 1 1≤0
 ·rw[decide_eq_true h,decide_eq_false Om]; rfl
 ·rw[decide_eq_false h,decide_eq_true Om]; rfl
def KF (m:Int) (rep:List RF) (t h:RF):Bool:=WS rep m&&(cG t&&(rN t&&cG h))
theorem boY {C:Ctx} (L:ahH C) (m:Int) (rep:List RF) (hr:iY rep) (t h:RF) (ht:t.Ok) (hh:h.Ok) :
  PR.wp C (aU aIR.res (aE (.bool (KF m rep t h)))) (PF.args [.int .i64 m,frs rep,.agg t.cells,.agg h.cells]) .nil:=by
 have h1:cU 1:=by unfold cU; omega
 unfold KF
 simp only[go_sem,γ,PR,aUO,aIR]
 refine bT .nil (zdS (WS rep m) (!rN t)) PH.nil_le ?_
 simp only[go_sem,γ,reduceCtorEq,aUP]
 refine bK rfl (L.reps rep hr m) rfl PH.nil_le ?_
 cases WS rep m with
 | false =>
  simp only[go_sem,γ,reduceCtorEq]
  refine aM (.inr rfl) rfl ?_
  rfl
 | true =>
  simp only[go_sem,δ,γ]
  refine bK (arT _ _ t) (L.small t ht) rfl PH.nil_le ?_
  cases hl:cG t with
  | false =>
   simp only[go_sem,γ,reduceCtorEq]
   refine aM (.inr rfl) rfl ?_
   rfl
  | true =>
   have hle:=L.less (mkT 1 1) t (BW 1 h1).1 ht (BW 1 h1).2 (nI hl)
   rw[bfE (nI hl)] at hle
   simp only[go_sem,γ]
   refine bK rfl (L.int 1 h1) rfl PH.nil_le ?_
   simp only[go_sem,δ,γ]
   refine bK rfl hle rfl PH.nil_le ?_
   cases rN t with
   | false =>
    simp only[go_sem,γ,reduceCtorEq,bJB,bIV]
    refine aM (.inr rfl) rfl ?_
    rfl
   | true =>
    simp only[go_sem,δ,γ,bIV,bJB]
    refine bK (arT _ _ h) (L.small h hh) rfl PH.nil_le ?_
    simp only[go_sem,γ]
    refine aM (.inr rfl) rfl ?_
    rfl
theorem bpV (p:cY):xZ p=KF p.m p.repair p.target p.bGU:=by
 unfold xZ KF WS
 have:(p.repair.all fun x=>cG x&&cA x)=(p.repair.all cG&&p.repair.all cA):=by
  induction p.repair with
  | nil=>rfl
  | cons a t ih =>
   simp only[List.all_cons,ih]
   cases cG a<;>cases cA a<;>simp
 rw[this]
 simp only[bLJ]
section
variable {H:PH} {B:List BX} {L:List LI}
theorem aS.aVS (h:aS H B L) (i:Nat) {s b:Nat} {v y:PV} {rows src:List (List PV)} {K:PV→PH→Prop} (hi:L[i]?=some (v,s,rows)) (hy:dO H s y=some src) (hr:roomFor rows.length src.length b)
  (hk:∀ v' H',bM H' s v rows→aS H' B (L.set i (v',s,rows++src))→K v' H'):lT H s b v y K:=by
 rcases h.own i hi with ⟨rfl,rfl⟩ | ⟨q,rs,rfl,h1,h2,h3⟩
 ·exact h.append i hi hy hr fun v' H' h' _=>hk v' H' (.inl ⟨rfl,rfl⟩) h'
 ·have hlen:(rows++src).length=rows.length+src.length:=bIU
  refine⟨src,hy,rfl,rfl,hr,rs,h1,h2,?_,fun o ho=>?_⟩
  ·rw[h3]
   refine hk _ _ (.inr ⟨q,rows++src,rfl,by rw[dM],by rw[hlen]; omega,List.take_left' rfl⟩) (h.yF i hi (.inr ⟨q,rows++src,by rw[hlen],by simp only[bH,if_true],bIO _,bJN⟩) (fun p hp=>by cases hp; exact .inl rfl) fun p _ hp=>?_)
   rw[bH,if_neg (hp q rfl)]
  ·rw[h3]
   have hqo:q≠o:=by rintro rfl; rw[h1] at ho; cases ho
   refine hk _ _ (.inr ⟨q,rs,rfl,by rw[bH,if_neg hqo]; exact h1,h2,h3⟩) (h.yF i hi (.inr ⟨o,rows++src,by rw[hlen],by simp only[bH,if_true],bIO _,bJN⟩) (fun p hp=>by cases hp; exact .inr ho) fun p hpm hp=>?_)
   obtain⟨f1,f2⟩:=h.fresh ho
   have n1:p≠o:=by rintro rfl; exact hpm.elim f1 f2
   rw[bH,if_neg n1]
end
abbrev kM (l:List (List UInt8)):List (List PV):=l.map fun s=>[PV.str s]
def wC:List (List UInt8)→List UInt8→Nat→Int
 | [],_,_=>-1
 | x::t,s,i=>if x==s then (i:Int) else wC t s (i+1)
theorem azL (s:List UInt8):∀ (l:List (List UInt8)) (i:Nat),decide (wC l s i<0)=!l.contains s
 | [],i=>rfl
 | x::t,i=>by
  rw[wC,List.contains_cons,BEq.comm (a:=s)]
  by_cases h:(x==s)=true
  ·rw[if_pos h,h,Bool.true_or,decide_eq_false Om]; rfl
  ·rw[if_neg h,azL s t (i+1)]
   simp only[Bool.not_eq_true] at h
   rw[h,Bool.false_or]
theorem bbR {C:Ctx} (l:List (List UInt8)) (hl:l.length≤1000000) (s:List UInt8):BB.wp C (aU PT.res (aE (.int .i64 (wC l s 0)))) (PF.args [.sl 1 (kM l),.str s]) .nil:=by
 simp only[go_sem,BB,arX,arY,PT]
 refine wp_loop (α:=Nat) (fun k=>(((PF.nil.set 0 (.sl 1 (kM l))).set 1 (.str s)).set 5 (.int .i64 k))) (fun _=>.nil) (fun k=>k≤l.length∧wC l s 0=wC (l.drop k) s k) (fun k=>l.length-k) 0 ⟨bIX _,rfl⟩ Lq PH.nil_le ?_
 rintro k ⟨hk,ha⟩
 simp only[go_sem,γ,reduceCtorEq,arW,arZ,bIM]
 by_cases hlt:k<l.length
 ·have bGP:(k:Int)<(l.length:Nat):=by omega
  have hat:(kM l)[k]?=some [.str l[k]]:=by simp[hlt]
  rw[bKG hlt,wC] at ha
  cases hc:l[k]==s with
  | true =>
   rw[hc,if_pos rfl] at ha
   simp only[go_sem,γ,reduceCtorEq,bGP,PU,hat,hc,asA]
   refine aM (.inr rfl) rfl ?_
   rw[aX,ha]
  | false =>
   rw[hc,if_neg (by decide)] at ha
   simp only[go_sem,γ,reduceCtorEq,bGP,PU,hat,hc,asB,wZz k]
   exact aK (k+1) ⟨hlt,ha⟩ Om Lq PH.le_refl
 ·have bGP:¬ (k:Int)<(l.length:Nat):=by omega
  have:k=l.length:=by omega
  subst this
  rw[List.drop_length,wC] at ha
  simp only[go_sem,ο,bGP,asC]
  refine aM (.inr rfl) rfl ?_
  rw[aX,ha]
structure ahI (C:Ctx):Prop extends ahH C where
 name:∀ s:List UInt8,aD C 62 [.str s] .nil (aE (.bool (isName s)))
 index:∀ (l:List (List UInt8)),l.length≤1000000→∀ s:List UInt8,aD C 71 [.sl 1 (kM l),.str s] .nil (aE (.int .i64 (wC l s 0)))
def gR (l:List (List UInt8)) (s:List UInt8):Bool:=isName s&&!l.contains s
def XT (l:List (List UInt8)) (s:List UInt8) (r:PV) (B:List BX) (L:List LI):Prop:=∃ w',r=.tup [w',.bool (gR l s)]∧B=[]∧L=[(w',1,kM (l++[s]))]
theorem bbP {C:Ctx} (L:ahI C) (l:List (List UInt8)) (hl:l.length≤1000000) (s:List UInt8) (w:PV) (H:PH) (hH:aS H [] [(w,1,kM l)]) :
  BA.wp C (aU PS.res (fun r H'=>∃ B' L',XT l s r B' L'∧aS H' B' L')) (PF.args [w,.str s]) H:=by
 have hix:=L.index l hl s
 have hnm:=L.name s
 have hneg:=azL s l 0
 have h11:(1:Nat)*1≤16777216:=by decide
 have fin:∀ (F:PF) (H':PH) (w':PV) (b:Bool),F 4=some w'→F 5=some (.bool b)→b=gR l s→aS H' [] [(w',1,kM (l++[s]))]→aU [.tmp 4,.tmp 5] (fun r H'=>∃ B' L',XT l s r B' L'∧aS H' B' L') .ret F H':=fun F H' w' b f4 f5 e h' =>
  aW (vs:=[w',.bool b]) (.inr rfl) H' (by simp only[go_sem,f4,f5]) PH.le_refl ⟨[],_,⟨w',by rw[e]; rfl,rfl,rfl⟩,h'⟩
 simp only[go_sem,υ,γ,η,ζ,reduceCtorEq,BA,arU,arV,PS,h11]
 refine hH.aVS 0 (src:=[[.str s]]) rfl rfl (by unfold roomFor; rw[bIM]; simp only[bJC,maxLen]; omega) fun w' H' hO h'=>?_
 have h'':aS H' [] [(w',1,kM (l++[s]))]:=by
  have e:kM (l++[s])=kM l++[[.str s]]:=by simp[kM]
  rw[e]; exact h'
 refine aA hnm rfl ?_
 cases hn:isName s with
 | false =>
  simp only[go_sem,γ,reduceCtorEq]
  exact fin _ _ w' false rfl rfl (by unfold gR; rw[hn,bIS]) h''
 | true =>
  have hfb:gR l s=!l.contains s:=by unfold gR; rw[hn,bIY]
  rcases hO with ⟨z1,rfl⟩ | ⟨q,rs,rfl,q1,q2,q3⟩
  ·simp only[go_sem,γ,reduceCtorEq]
   rw[z1] at hix
   have hix2:aD C 71 [.aB,.str s] .nil (aE (.int .i64 (wC l s 0))):=hix.args (.cons (.nil 1) (.cons (.refl _) .nil))
   refine aA hix2 rfl ?_
   simp only[go_sem,γ,hneg]
   exact fin _ _ w' _ rfl rfl hfb.symm h''
  ·simp only[go_sem,γ,reduceCtorEq]
   refine TX (vs:=[.osl q 1 0 (kM l).length,.str s]) (.int .i64 (wC l s 0)) ?_ q1 Sq ?_
   ·rw[bKV,bKV,List.map_nil,pH q2,q3]
    exact hix
   simp only[go_sem,γ,hneg]
   exact fin _ _ w' _ rfl rfl hfb.symm h''
theorem a7X {x:RF} (h:cG x=true):decide (oR x>0)=cA x:=by
 have hv:=nI h
 unfold cG mG at h
 rw[show cM (val x.num) (val x.den)=true from hv,if_pos rfl,VT hv] at h
 unfold oR cA
 by_cases h0:val x.num=0
 ·simp[h0]
 ·have hq:val x.num/bIQ (val x.num) (val x.den)≠0:=by
   have:=Nat.div_pos (Nat.gcd_le_left (val x.den) (bKR h0)) (Nat.gcd_pos_of_pos_left _ (bKR h0))
   omega
  have hn:x.neg=false:=by
   unfold kR at h
   simp only[hq,ne_eq,not_false_eq_true,decide_true,bKL,bJI] at h
   simpa using h.1
  rw[if_neg h0,hn]
  simp[h0]
structure atN (l:cI):Prop where
 exit:∀ x∈l.exit,cG x=true
 row:∀ r∈l.bGN,∀ x∈r,cG x=true
structure nB (C:Ctx):Prop extends ahI C where
 fresh:∀ (l:List (List UInt8)),l.length≤1000000→∀ (s:List UInt8) (w:PV) (H:PH),aS H [] [(w,1,kM l)]→aD C 70 [w,.str s] H (fun r H'=>∃ B' L',XT l s r B' L'∧aS H' B' L')
theorem nB.pos {C:Ctx} (L:nB C) {x:RF} (hx:x.Ok) (h:cG x=true):∃ n:Int,aD C 54 [.agg x.cells] .nil (aE (.int .i64 n))∧decide (n>0)=cA x:=⟨_,L.sign x hx (nI h),a7X h⟩
def zlF (l:cI) (o r i:Nat):PF:=(((((PF.nil.set 1 (.bJ l.cells)).set 3 (.int .i64 (l.exit.length:Nat))).set 7 (.osl o 1 0 l.exit.length)).set 8 (.int .i64 r)).set 9 (.int .i64 i))
theorem biR {C:Ctx} (L:nB C) (l:cI) (o r i:Nat) (row:List RF) (hri:(l.bGN.map fun r=>[frs r])[i]?=some [frs row]) (bGV:iY row) (hlim:∀ x∈row,cG x=true) (hrl:row.length=l.exit.length) (hi:i<l.exit.length) (hn:l.exit.length≤4) (R1:List Bool) (hR:R1.length=l.exit.length) (K:cN) [Up K] (F:PF) (H:PH)
  (hF:((zlF l o r i).set 10 (.int .i64 0)).le F) (hH:(fT o R1).le H)
  (hK:K (.exit 6) (zlF l o r i) (fT o (cO R1 i row row.length))):aC.wp C (.loop IH) K F H:=by
 refine wp_loop (α:=Nat) (fun k=>(zlF l o r i).set 10 (.int .i64 k)) (fun k=>fT o (cO R1 i row k)) (fun k=>k≤row.length) (fun k=>row.length-k) 0 (bIX _) hF hH ?_
 intro k hk
 have hlen:=qS R1 i row k
 have hstep':∀ h:k<row.length,cO R1 i row (k+1)=(cO R1 i row k).set i ((cO R1 i row k).getD i false||cA row[k]&&(cO R1 i row k).getD k false):=fun h=>by
  simp only[cO,bJG,bJQ,bIW h,bJW,bLE]
 have fin:∀ (b:Bool) (F:PF) (H:PH),k<row.length→fI (cO R1 i row (k+1))=(fI (cO R1 i row k)).set i [.bool b]→((zlF l o r i).set 10 (.int .i64 (k+1:Nat))).le F→H o=some (.rows 1 ((fI (cO R1 i row k)).set i [.bool b])) →
   eF (fun k:Nat=>(zlF l o r i).set 10 (.int .i64 k)) (fun k=>fT o (cO R1 i row k)) (fun k=>k≤row.length) (fun k=>row.length-k) (row.length-k) K .normal F H:=by
  intro b F H hlt hb hF hH
  refine aK (k+1) hlt Om hF ?_
  rw[← hb] at hH
  exact PH.aI PH.nil_le hH
 unfold zlF fT at fin
 simp only[go_sem,γ,IH,aJA,zlF,fT]
 by_cases hlt:k<row.length
 ·have bGP:(k:Int)<(l.exit.length:Nat):=by omega
  have hi':(i:Int)<(l.exit.length:Nat):=by omega
  have hat:=oU (R:=cO R1 i row k) (i:=i) Om
  have hatk:=oU (R:=cO R1 i row k) (i:=k) Om
  have bGQ:=hstep' hlt
  obtain⟨n,hsn,hpos⟩:=L.pos (bGV.all _ (bIR hlt)) (hlim _ (bIR hlt))
  have hfr:=aaI hlt
  generalize hb:(cO R1 i row k).getD i false=b at *
  generalize hc:(cO R1 i row k).getD k false=c at *
  generalize hA:cA row[k]=A at *
  cases b with
  | true =>
   simp only[go_sem,γ,bGP,XN,hi',bJL,hat,II,wZz k]
   exact fin true _ _ hlt (by rw[bGQ,kJ,Bool.true_or]) Lq Sq
  | false =>
   simp only[go_sem,δ,γ,θ,bGP,XN,hi',bJL,hat,hri,hfr]
   refine aA hsn rfl ?_
   cases A with
   | false =>
    simp only[go_sem,γ,reduceCtorEq,hpos,hi',bGP,bJL,hat,hatk,II,wZz k]
    exact fin false _ _ hlt (by rw[bGQ,kJ,Bool.false_or,bIS]) Lq Sq
   | true =>
    simp only[go_sem,γ,reduceCtorEq,hpos,hi',bGP,bJL,hat,hatk,II,wZz k]
    exact fin c _ _ hlt (by rw[bGQ,kJ,Bool.false_or,bIY]) Lq Sq
 ·have bGP:¬ (k:Int)<(l.exit.length:Nat):=by omega
  have:k=row.length:=by omega
  subst this
  simp only[go_sem,bGP]
  refine Up.up ?_ hK
  (repeat' (first|exact PF.nil_le|refine PF.aI ?_ ?_))<;>first|(simp only[go_sem,γ,zlF]<;>rfl)|rfl
theorem biT {C:Ctx} (L:nB C) (l:cI) (hl:l.Ok) (he:xE l) (hm:atN l) (o r:Nat) (R:List Bool) (hR:R.length=l.exit.length) (K:cN) [Up K] (F:PF) (H:PH)
  (hF:(zlF l o r 0).le F) (hH:(fT o R).le H)
  (hK:K (.exit 4) (zlF l o r l.exit.length) (fT o (cW l R l.exit.length))):aC.wp C (.loop XG) K F H:=by
 refine wp_loop (α:=Nat) (fun i=>zlF l o r i) (fun i=>fT o (cW l R i)) (fun i=>i≤l.exit.length) (fun i=>l.exit.length-i) 0 (bIX _) hF hH ?_
 intro i hi
 have hlen:=nO l R i
 have hn:=he.n
 simp only[go_sem,γ,XG,aIZ,zlF,fT]
 by_cases hlt:i<l.exit.length
 ·have bGP:(i:Int)<(l.exit.length:Nat):=by omega
  have hir:i<l.bGN.length:=by rw[he.bGN]; exact hlt
  have hat:=oU (R:=cW l R i) (i:=i) Om
  have hx:=aaI hlt
  have bGV:(l.bGN.map fun r=>[frs r])[i]?=some [frs l.bGN[i]]:=by simp[hir]
  have hrl:(l.bGN[i]).length=l.exit.length:=he.row _ (bIR hir)
  generalize hR1:(cW l R i).set i ((cW l R i).getD i false||cA l.exit[i])=R1
  have hR1l:R1.length=l.exit.length:=by rw[← hR1,bKI]; omega
  have bGQ:cW l R (i+1)=cO R1 i l.bGN[i] (l.bGN[i]).length:=by
   simp only[cW,wK]
   have e1:(l.exit.map cA).getD i false=cA l.exit[i]:=by simp[bJG,hlt]
   have e2:l.bGN.getD i []=l.bGN[i]:=by simp[bJG,hir]
   rw[e1,e2,hR1]
  obtain⟨n,hsn,hpos⟩:=L.pos (hl.exit.all _ (bIR hlt)) (hm.exit _ (bIR hlt))
  have rest:∀ (F:PF) (H:PH),(zlF l o r i).le F→H o=some (.rows 1 (fI R1)) →
    aC.wp C (.seq (.region XM) (.block 6 (.loop IH))) (dX 5 (iH C (aC.wp C (.region XO)) (eF (fun i:Nat=>zlF l o r i) (fun i=>fT o (cW l R i)) (fun i=>i≤l.exit.length) (fun i=>l.exit.length-i) (l.exit.length-i) K))) F H:=by
   intro F H hF hH
   refine sI _ (fun _ _ _ _ a b=>Up.up a b) hF ?_
   simp only[go_sem,XM]
   refine biR L l o r i l.bGN[i] bGV (hl.row _ (bIR hir)) (hm.row _ (bIR hir)) hrl hlt hn R1 hR1l _ _ _ (by (repeat' (first|exact PF.nil_le|refine PF.aI ?_ ?_))<;>first|(simp only[go_sem,γ,zlF]<;>rfl)|rfl) (PH.aI PH.nil_le hH) ?_
   simp only[go_sem,γ,zlF,XO,wZz i]
   exact aK (i+1) hlt Om Lq (by rw[bGQ]; exact PH.le_refl)
  simp only[zlF,fT] at rest
  have rest':=rest
  simp only[aC.wp,go_sem] at rest'
  generalize hb:(cW l R i).getD i false=b at *
  cases b with
  | true =>
   simp only[go_sem,γ,bGP,XL,bGP,bJL,hat]
   refine rest' _ _ Lq ?_
   rw[← hR1]
   simp only[go_sem,kJ,Bool.true_or]
  | false =>
   simp only[go_sem,δ,γ,bGP,XL,bGP,bJL,hat,hx]
   refine aA hsn rfl ?_
   simp only[go_sem,γ,reduceCtorEq,bGP,bJL,hat,hpos]
   refine rest' _ _ Lq ?_
   rw[← hR1]
   simp only[go_sem,kJ,Bool.false_or]
 ·have bGP:¬ (i:Int)<(l.exit.length:Nat):=by omega
  have:i=l.exit.length:=by omega
  subst this
  simp only[go_sem,bGP]
  exact Up.up (by (repeat' (first|exact PF.nil_le|refine PF.aI ?_ ?_))<;>first|(simp only[go_sem,γ,zlF]<;>rfl)|rfl) hK
theorem biS {C:Ctx} (L:nB C) (l:cI) (hl:l.Ok) (he:xE l) (hm:atN l) (o:Nat) (K:cN) [Up K] (F:PF) (H:PH)
  (hF:(((((PF.nil.set 1 (.bJ l.cells)).set 3 (.int .i64 (l.exit.length:Nat))).set 7 (.osl o 1 0 l.exit.length)).set 8 (.int .i64 0)):PF).le F) (hH:(fT o (dD l 0)).le H)
  (hK:K (.exit 2) (((PF.nil.set 3 (.int .i64 (l.exit.length:Nat))).set 7 (.osl o 1 0 l.exit.length))) (fT o (dD l l.exit.length))):aC.wp C (.loop XH) K F H:=by
 have hn:=he.n
 refine wp_loop (α:=Nat) (fun r=>((((PF.nil.set 1 (.bJ l.cells)).set 3 (.int .i64 (l.exit.length:Nat))).set 7 (.osl o 1 0 l.exit.length)).set 8 (.int .i64 r))) (fun r=>fT o (dD l r)) (fun r=>r≤l.exit.length) (fun r=>l.exit.length-r) 0 (bIX _) hF hH ?_
 intro r hr
 have hlen:=nN l r
 simp only[go_sem,γ,XH,aIX]
 by_cases hlt:r<l.exit.length
 ·have bGP:(r:Int)<(l.exit.length:Nat):=by omega
  simp only[go_sem,bGP,aIY]
  refine biT L l hl he hm o r (dD l r) hlen _ _ _ (by (repeat' (first|exact PF.nil_le|refine PF.aI ?_ ?_))<;>first|(simp only[go_sem,γ,zlF]<;>rfl)|rfl) PH.le_refl ?_
  simp only[go_sem,γ,zlF,aJB,wZz r]
  exact aK (r+1) hlt Om Lq PH.le_refl
 ·have bGP:¬ (r:Int)<(l.exit.length:Nat):=by omega
  have:r=l.exit.length:=by omega
  subst this
  simp only[go_sem,bGP]
  exact Up.up Lq hK
theorem brW {C:Ctx} (R:List Bool) (hR:R.length≤4) (o:Nat) (X:Bool) (hX:X=R.all id) (Q:PV→PH→Prop) (hQ:Q=aE (.bool X)) (F:PF) (H:PH)
  (hF:((((PF.nil.set 3 (.int .i64 (R.length:Nat))).set 7 (.osl o 1 0 R.length)).set 11 (.int .i64 0)):PF).le F) (hH:(fT o R).le H):aC.wp C (.loop XI) (dX 8 (iH C (aC.wp C (.seq (.region XQ) .ret)) (aU [.tmp 2] Q))) F H:=by
 subst hX hQ
 refine wp_loop (α:=Nat) (fun k=>(((PF.nil.set 3 (.int .i64 (R.length:Nat))).set 7 (.osl o 1 0 R.length)).set 11 (.int .i64 k))) (fun _=>fT o R) (fun k=>k≤R.length∧(R.take k).all id=true) (fun k=>R.length-k) 0 ⟨bIX _,rfl⟩ hF hH ?_
 rintro k ⟨hk,ha⟩
 simp only[go_sem,γ,XI,aJD,fT]
 by_cases hlt:k<R.length
 ·have bGP:(k:Int)<(R.length:Nat):=by omega
  have hat:=oU (R:=R) (i:=k) hlt
  have hg:R.getD k false=R[k]:=by simp[bJG,hlt]
  rw[hg] at hat
  cases hc:R[k] with
  | false =>
   rw[hc] at hat
   simp only[go_sem,γ,bGP,XP,bJL,hat,bJB,aJE]
   refine aM (.inr rfl) rfl ?_
   rw[aX,mQ hlt (p:=id) hc]
  | true =>
   rw[hc] at hat
   have ha2:=mP hlt ha (p:=id) hc
   simp only[go_sem,γ,bGP,XP,bJL,hat,bIV,aJF,wZz k]
   exact aK (k+1) ⟨hlt,by simpa using bJJ.1 ha2⟩ Om Lq PH.le_refl
 ·have bGP:¬ (k:Int)<(R.length:Nat):=by omega
  have:k=R.length:=by omega
  subst this
  rw[bJN] at ha
  simp only[go_sem,bGP,XQ]
  refine aM (.inr rfl) rfl ?_
  rw[aX,ha]
def Marks (R S:List Bool):Prop:=R.length=S.length∧∀ j:Nat,R[j]?=some true→S[j]?=some true
theorem Marks.brI (R:List Bool):Marks R R:=⟨rfl,fun _ h=>h⟩
theorem Marks.trans {R S T:List Bool} (h:Marks R S) (k:Marks S T):Marks R T:=⟨h.1.trans k.1,fun j a=>k.2 j (h.2 j a)⟩
theorem aAQ (R:List Bool) (i:Nat) (b:Bool):Marks R (R.set i (R.getD i false||b)):=by
 refine⟨by rw[bKI],fun j h=>?_⟩
 rw[List.getElem?_set]
 obtain⟨hj,he⟩:=bJX.1 h
 split
 ·rename_i e
  subst e
  rw[if_pos hj,bJG,h]
  rfl
 ·exact h
theorem anB (R:List Bool) (i:Nat) (row:List RF):∀ k,Marks R (cO R i row k)
 | 0=>Marks.brI R
 | k+1=>(anB R i row k).trans (aAQ _ _ _)
theorem zG (l:cI) (R:List Bool):∀ i,Marks R (cW l R i)
 | 0=>Marks.brI R
 | i+1=>(zG l R i).trans ((aAQ _ _ _).trans (anB _ _ _ _))
theorem aAR:∀ {R S:List Bool},Marks R S→R≠S→R.count true<S.count true
 | [],[],_,h=>absurd rfl h
 | [],_::_,h,_=>by have:=h.1; simp at this
 | _::_,[],h,_=>by have:=h.1; simp at this
 | a::R,b::S,h,hne=>by
  have h0:a=true→b=true:=fun e=>by
   have:=h.2 0 (by rw[e]; rfl)
   simpa using this
  have ht:Marks R S:=⟨by have:=h.1; simpa using this,fun j hj=>by have:=h.2 (j+1) (by simpa using hj); simpa using this⟩
  by_cases e:R=S
  ·subst e
   have:a≠b:=fun e=>hne (by rw[e])
   cases a<;>cases b<;>simp at this h0 ⊢
  ·have:=aAR ht e
   cases a<;>cases b<;>simp at h0 ⊢<;>omega
theorem YL:∀ {R:List Bool},R.length≤R.count true→R.all id=true
 | [],_=>rfl
 | a::R,h=>by
  have h1:=List.count_le_length (a:=true) (l:=R)
  cases a with
  | true =>
   simp only[List.count_cons_self,bKH] at h
   simp only[List.all_cons,id,bIY]
   exact YL Om
  | false =>
   simp at h
   omega
theorem GP (l:cI) {s:Nat} (h:dD l (s+1)=dD l s):∀ d,dD l (s+d)=dD l s
 | 0=>rfl
 | d+1=>by
  show cW l (dD l (s+d)) l.exit.length=_
  rw[GP l h d]
  exact h
theorem acP (l:cI):∀ r,(∃ s,s<r∧dD l (s+1)=dD l s)∨r≤(dD l r).count true
 | 0=>.inr (bIX _)
 | r+1=>by
  rcases acP l r with ⟨s,h1,h2⟩ | h
  ·exact .inl ⟨s,by omega,h2⟩
  ·by_cases e:dD l (r+1)=dD l r
   ·exact .inl ⟨r,by omega,e⟩
   ·have:=aAR (zG l (dD l r) l.exit.length) (fun h=>e h.symm)
    exact .inr (by show r+1≤(cW l (dD l r) l.exit.length).count true; omega)
theorem bkJ (l:cI):tY l=(dD l l.exit.length).all id:=by
 unfold tY
 rcases acP l l.exit.length with ⟨s,h1,h2⟩ | h
 ·obtain⟨d,hd⟩:∃ d,l.exit.length=s+d:=⟨l.exit.length-s,by omega⟩
  rw[show l.exit.length+1=s+(d+1) by omega,hd,GP l h2,GP l h2]
 ·have hf:(dD l l.exit.length).all id=true:=YL (by rw[nN]; exact h)
  have hm:Marks (dD l l.exit.length) (dD l (l.exit.length+1)):=zG l (dD l l.exit.length) l.exit.length
  rw[hf,bJJ]
  intro x hx
  obtain⟨j,hj,rfl⟩:=bKQ hx
  have hj2:j<(dD l l.exit.length).length:=by rw[hm.1]; exact hj
  have:=hm.2 j (by
   rw[bIW hj2]
   have:=bJJ.1 hf _ (bIR hj2)
   simpa using this)
  rw[bIW hj] at this
  simpa using this
def zsS (s:Bool):Spec:=fun name vs=>match name,vs with
 | 47,_=>some ([],fun _=>aE (.agg (mkT 1 1).cells))
 | 53,_=>some ([],fun _=>aE (.bool s))
 | _,_=>none
theorem beI (l:cI):jX l=(within l.start.length 1 4&&((decide ((l.start.length:Int)=l.start.length)&&l.start.all cG)&&((decide ((l.exit.length:Int)=l.start.length)&&l.exit.all cG)&&(decide (l.bGN.length=l.start.length)&&((bIN l.bGN.length).all (oZ l)&&(rT l&&tY l)))))):=by
 rw[aOO,decide_eq_true (rfl:(l.start.length:Int)=l.start.length),bIY]
 have:decide (l.exit.length=l.start.length)=decide ((l.exit.length:Int)=l.start.length):=decide_eq_decide.2 Om
 rw[this]
 cases within l.start.length 1 4<;>cases decide ((l.exit.length:Int)=l.start.length)<;>cases decide (l.bGN.length=l.start.length)<;>cases l.start.all cG<;>cases l.exit.all cG<;>simp[bLJ]
theorem aEF (l:cI) {i:Nat} (h:i<l.bGN.length):oZ l i=((decide (((l.bGN[i]).length:Int)=l.start.length)&&(l.bGN[i]).all cG)&&!((l.bGN[i]).map cA).getD i false):=by
 unfold oZ
 have:l.bGN.getD i []=l.bGN[i]:=by simp[bJG,h]
 rw[this]
 have:decide ((l.bGN[i]).length=l.start.length)=decide (((l.bGN[i]).length:Int)=l.start.length):=decide_eq_decide.2 Om
 rw[this]
theorem bpA {C:Ctx} (L:nB C) (l:cI) (hl:l.Ok):PW.wp C (aU aIT.res (aE (.bool (jX l)))) (PF.args [.agg l.cells]) .nil:=by
 have hX:=beI l
 have fail:∀ (F:PF) (H:PH),jX l=false→F 2=some (.bool false)→aU [.tmp 2] (aE (.bool (jX l))) .ret F H:=fun F H e h=>by
  rw[e]
  exact aW (vs:=[.bool false]) (.inr rfl) .nil (by simp only[go_sem,h]) PH.nil_le ⟨rfl,rfl⟩
 have e1:=L.smalls l.start hl.start l.start.length
 have e2:=L.smalls l.exit hl.exit l.start.length
 simp only[go_sem,δ,γ,θ,PW,aUR,aUS,aIT,bIM,aUT]
 by_cases c1:((l.start.length:Nat):Int)<1
 ·simp only[go_sem,γ,c1,vH]
  exact fail _ _ (by rw[hX,show within l.start.length 1 4=false from by unfold within; rw[decide_eq_false Om,bIS],bIS]) rfl
 by_cases c2:((l.start.length:Nat):Int)>4
 ·simp only[go_sem,γ,reduceCtorEq,c1,c2,vH]
  exact fail _ _ (by rw[hX,show within l.start.length 1 4=false from by unfold within; rw[decide_eq_false (Om:¬ ((l.start.length:Nat):Int)≤4),bKC],bIS]) rfl
 rw[show within l.start.length 1 4=true from by unfold within; rw[decide_eq_true (Om:(1:Int)≤(l.start.length:Nat)),decide_eq_true (Om:((l.start.length:Nat):Int)≤4)]; rfl,bIY] at hX
 simp only[go_sem,δ,γ,θ,reduceCtorEq,c1,c2]
 refine aA e1 rfl ?_
 cases k1:(decide ((l.start.length:Int)=l.start.length)&&l.start.all cG) with
 | false =>
  rw[k1,bIS] at hX
  simp only[go_sem,γ,reduceCtorEq,bJB,vH]
  exact fail _ _ hX rfl
 | true =>
 rw[k1,bIY] at hX
 simp only[go_sem,γ,reduceCtorEq,bIV]
 refine aA e2 rfl ?_
 cases k2:(decide ((l.exit.length:Int)=l.start.length)&&l.exit.all cG) with
 | false =>
  rw[k2,bIS] at hX
  simp only[go_sem,γ,reduceCtorEq,bJB,vH]
  exact fail _ _ hX rfl
 | true =>
 rw[k2,bIY] at hX
 rw[bJI,decide_eq_true_eq] at k2
 have hxl:l.exit.length=l.start.length:=by omega
 have hxlim:=bJJ.1 k2.2
 by_cases c3:l.bGN.length=l.start.length
 case neg =>
  rw[decide_eq_false c3,bIS] at hX
  simp only[go_sem,δ,γ,θ,reduceCtorEq,bIV,bIM,cT (Om:((l.bGN.length:Nat):Int)≠(l.start.length:Nat)),vH]
  exact fail _ _ hX rfl
 rw[decide_eq_true c3,bIY] at hX
 simp only[go_sem,δ,γ,θ,reduceCtorEq,bIV,bIM,bP (Om:((l.bGN.length:Nat):Int)=(l.start.length:Nat)),aUU]
 refine wp_loop (α:=Nat) (fun i=>(((PF.nil.set 1 (.bJ l.cells)).set 3 (.int .i64 (l.start.length:Nat))).set 4 (.int .i64 i))) (fun _=>.nil) (fun i=>i≤l.start.length∧∀ j,j<i→oZ l j=true) (fun i=>l.start.length-i) 0 ⟨bIX _,fun j h=>by omega⟩ Lq PH.nil_le ?_
 rintro i ⟨hi,bHZ⟩
 simp only[go_sem,γ,aUQ,aUV]
 by_cases hlt:i<l.start.length
 ·have bGP:(i:Int)<(l.start.length:Nat):=by omega
  have hir:i<l.bGN.length:=by omega
  have bGV:(l.bGN.map fun r=>[frs r])[i]?=some [frs l.bGN[i]]:=by simp[hir]
  have hro:=hl.row _ (bIR hir)
  have e3:=L.smalls l.bGN[i] hro l.start.length
  have hrp:=aEF l hir
  have bad:oZ l i=false→jX l=false:=fun h=>by
   rw[hX,show (bIN l.bGN.length).all (oZ l)=false from List.all_eq_false.2 ⟨i,bKB.2 hir,by simp[h]⟩,bIS]
  simp only[go_sem,δ,γ,θ,bGP,aUW,bGV]
  refine aA e3 rfl ?_
  cases k3:(decide (((l.bGN[i]).length:Int)=l.start.length)&&(l.bGN[i]).all cG) with
  | false =>
   rw[k3,bIS] at hrp
   simp only[go_sem,γ,bJB,akA]
   exact fail _ _ (bad hrp) rfl
  | true =>
   rw[k3,bIY] at hrp
   rw[bJI,decide_eq_true_eq] at k3
   have hrl:(l.bGN[i]).length=l.start.length:=by omega
   have hik:i<(l.bGN[i]).length:=by omega
   have hm:=bIR hik
   have hs:=L.sign _ (hro.all _ hm) (nI (bJJ.1 k3.2 _ hm))
   have hz:=GX (l.bGN[i])[i]
   have hg:((l.bGN[i]).map cA).getD i false=cA (l.bGN[i])[i]:=by simp[bJG,hik]
   rw[hg] at hrp
   have hz2:(oR (l.bGN[i])[i] != 0)=cA (l.bGN[i])[i]:=by
    rw[bne,hz,Bool.not_not]
   simp only[go_sem,δ,γ,θ,bIV,bGV,aaI hik]
   refine aA hs rfl ?_
   cases k4:cA (l.bGN[i])[i] with
   | true =>
    rw[k4] at hrp hz2
    simp only[go_sem,γ,reduceCtorEq,hz2,akA]
    exact fail _ _ (bad hrp) rfl
   | false =>
    rw[k4] at hrp hz2
    simp only[go_sem,γ,reduceCtorEq,hz2,aUX,wZz i]
    exact aK (i+1) ⟨hlt,fun j hj=>by
     by_cases e:j=i
     ·rw[e]; exact hrp
     ·exact bHZ j Om⟩ Om Lq PH.le_refl
 ·have bGP:¬ (i:Int)<(l.start.length:Nat):=by omega
  have:i=l.start.length:=by omega
  subst this
  have hrows:(bIN l.bGN.length).all (oZ l)=true:=bJJ.2 fun j hj=>bHZ j (by rw[← c3]; exact bKB.1 hj)
  rw[hrows,bIY] at hX
  have hrr:∀ r∈l.bGN,r.length=l.start.length∧∀ x∈r,cG x=true:=fun r hr=>by
   obtain⟨j,hj,rfl⟩:=bKQ hr
   have h:=bHZ j Om
   rw[aEF l hj,bJI,bJI,decide_eq_true_eq] at h
   exact⟨by omega,bJJ.1 h.1.2⟩
  have hlim:atN l:=⟨hxlim,fun r hr=>(hrr r hr).2⟩
  have hend:xE l:=⟨by omega,by omega,fun r hr=>by rw[(hrr r hr).1,hxl]⟩
  have hsum:=L.sum l.start hl.start.all hl.start.fits
  simp only[go_sem,δ,γ,θ,bGP,aIU]
  refine aA hsum rfl ?_
  cases hE:nA (l.start.map RF.v) with
  | error e =>
   have he0:=aFF hE
   have:rT l=false:=by unfold rT; rw[hE]
   rw[this,bIS] at hX
   simp only[go_sem,δ,γ,frV]
   refine aQ fun o ho=>?_
   simp only[go_sem,δ,γ]
   refine bT .nil eG PH.nil_le ?_
   simp only[go_sem,γ,XJ,cT he0,XK]
   exact fail _ _ hX rfl
  | ok r =>
   have hrok:=aRX hE
   have hrv:=adF hE
   obtain⟨n,a,b⟩:=r
   have h1:cU 1:=by unfold cU; omega
   have hsame:=L.same (FV.rf (n,a,b)) (mkT 1 1) hrok (BW 1 h1).1 (by unfold RF.valid FV.rf; simp only[aR]; exact hrv) (BW 1 h1).2
   have hP:rT l=(mX (FV.rf (n,a,b)) (mkT 1 1)==0):=by
    unfold rT
    rw[hE,BY]
    unfold mX FV.rf
    simp only[aR,show (1:Int).natAbs=1 from rfl,show decide ((1:Int)<0)=false from rfl]
    by_cases h:oY n a b false 1 1=0<;>simp[h]
   simp only[go_sem,δ,γ,frV]
   refine aQ fun o ho=>?_
   have hH:aS (PH.nil.set o (.rows 3 [(FV.rf (n,a,b)).cells])) [(o,.rows 3 [(FV.rf (n,a,b)).cells])] []:=aS.nil.new (H:=PH.nil) rfl _
   simp only[go_sem,δ,γ]
   refine bT (PH.nil.set o (.rows 3 [(FV.rf (n,a,b)).cells])) (zsS (mX (FV.rf (n,a,b)) (mkT 1 1)==0)) PH.le_refl ?_
   simp only[go_sem,δ,γ,XJ,bP (show (0:Int)=0 from rfl)]
   refine bK rfl (L.int 1 h1) rfl PH.le_refl ?_
   simp only[go_sem,γ]
   refine bK rfl hsame rfl PH.le_refl ?_
   rw[← hP]
   cases hp:rT l with
   | false =>
    rw[hp,bIS] at hX
    simp only[go_sem,γ,reduceCtorEq,bJB,XK]
    exact fail _ _ hX rfl
   | true =>
    rw[hp,bIY,bkJ] at hX
    have hb1:((l.start.length:Nat):Int)*((1:Nat):Int)≤140737488355328:=by omega
    have hb2:((l.start.length:Nat):Int)≤9223372036854775807:=by omega
    simp only[go_sem,γ,reduceCtorEq,bIV,aIV,hb1,hb2]
    refine aQ fun q hq=>?_
    simp only[go_sem,γ,aIW]
    have hz0:bIP l.start.length [PV.bool false]=fI (dD l 0):=by
     rw[← hxl]
     simp[dD,fI]
    rw[← hxl]
    refine biS L l hl hend hlim q _ _ _ Lq ?_ ?_
    ·refine PH.aI PH.nil_le ?_
     rw[dM,hxl,hz0]
    simp only[go_sem,aJC]
    have hn4:(dD l l.exit.length).length≤4:=by rw[nN]; omega
    refine brW (dD l l.exit.length) hn4 q (jX l) hX _ rfl _ _ ?_ PH.le_refl
    rw[nN]
    exact Lq
structure pE (C:Ctx):Prop extends nB C where
 law:∀ l:cI,l.Ok→aD C 68 [.agg l.cells] .nil (aE (.bool (jX l)))
def okL (base ns:List (List UInt8)) (P:Nat→Bool) (i:Nat):Bool:=gR (base++ns.take i) (ns.getD i [])&&P i
theorem oT {p:Nat→Bool} (k:Nat) (b:Bool):(b&&(bIN (k+1)).all p)=((b&&(bIN k).all p)&&p k):=by
 rw[List.range_succ,List.all_append]
 cases (bIN k).all p<;>cases b<;>simp
theorem oS {p:Nat→Bool} {b:Bool} {i n:Nat} (hi:i≤n) (h:(b&&(bIN i).all p)=false):(b&&(bIN n).all p)=false:=by
 cases b with
 | false=>rfl
 | true =>
  rw[bIY] at h ⊢
  obtain⟨x,hx,hp⟩:=List.all_eq_false.1 h
  exact List.all_eq_false.2 ⟨x,bKB.2 (by have:=bKB.1 hx; omega),hp⟩
structure fQ (H:PH) (w:PV) (base ns:List (List UInt8)) (c:Bool) (i:Nat):Prop where
 ex:∃ names,aS H [] [(w,1,kM names)]∧(c=true→names=base++ns.take i)
section
variable {C:Ctx} {F:PF} {H:PH} {d:Option Nat} {K:PF→PH→Prop}
theorem fQ.call (L:nB C) {w:PV} {base ns:List (List UInt8)} {i:Nat} {B:List BX} {names:List (List UInt8)} (h:aS H B [(w,1,kM names)]) (hl:base.length≤1000) (hi:i≤1000) (hn:names=base++ns.take i) (hin:i<ns.length) {a b:Nat} (bIB:aP.evs F [.tmp a,.tmp b]=some [w,.str ns[i]])
  (hk:∀ w' H',aS H' B [(w',1,kM (names++[ns[i]]))]→fQ H' w' base ns true (i+1)→K (F.put d (.tup [w',.bool (gR (base++ns.take i) (ns.getD i []))])) H'):fU C 70 [.tmp a,.tmp b] [] d K F H:=by
 refine TW (B1:=[]) (B2:=B) (L1:=[(w,1,kM names)]) (L2:=[]) (Q:=XT names ns[i]) h (fun H0 h0=>L.fresh names (by rw[hn,bIU,bJF]; omega) ns[i] w H0 h0) bIB ?_
 rintro r B' L' H' ⟨w',rfl,rfl,rfl⟩ h'
 have hgd:ns.getD i []=ns[i]:=by simp[bJG,hin]
 rw[hgd,← hn] at hk
 refine hk w' H' h' ⟨names++[ns[i]],h'.sub (List.nil_sublist _) (bKS.refl _),fun _=>?_⟩
 rw[bKK hin,← bJM,hn]
end
theorem fQ.ajY {H:PH} {w:PV} {base ns:List (List UInt8)} {c:Bool} {i:Nat} (h:fQ H w base ns true i):fQ H w base ns c i:=by
 obtain⟨names,h1,h3⟩:=h.ex
 exact⟨names,h1,fun _=>h3 rfl⟩
def FL (f:aL):Bool:=(bIN f.bGR.length).all (okL [] (f.bGR.map cI.name) fun i=>(f.bGR.map jX).getD i false)
theorem bpF {C:Ctx} (L:pE C) (f:aL) (hf:f.Ok) (hs:f.bGR.length≤4) (K:cN) [Up K] (F:PF) (H:PH)
  (hF:(((((((((PF.nil.set 1 (.bJ f.cells)).set 3 (.aB)).set 4 (.aB)).set 5 (.aB)).set 6 (.aB)).set 7 (.aB)).set 8 (.bool true)).set 9 (.int .i64 0)):PF).le F)
  (hK:∀ H',K (.exit 0) (((((((PF.nil.set 1 (.bJ f.cells)).set 4 (.aB)).set 5 (.aB)).set 6 (.aB)).set 7 (.aB)).set 8 (.bool (FL f)))) H'):aC.wp C (.loop IJ) K F H:=by
 obtain⟨ok,hok⟩:∃ ok,okL [] (f.bGR.map cI.name) (fun i=>(f.bGR.map jX).getD i false)=ok:=⟨_,rfl⟩
 unfold FL at hK
 rw[hok] at hK
 refine wp_loop (α:=Nat × PV × PH) (fun s=>((((((((PF.nil.set 1 (.bJ f.cells)).set 3 (s.2.1)).set 4 (.aB)).set 5 (.aB)).set 6 (.aB)).set 7 (.aB)).set 8 (.bool (true&&(bIN s.1).all ok))).set 9 (.int .i64 s.1))) (fun s=>s.2.2) (fun s=>s.1≤f.bGR.length∧fQ s.2.2 s.2.1 [] (f.bGR.map cI.name) (true&&(bIN s.1).all ok) s.1) (fun s=>f.bGR.length-s.1)
  (0,.aB,H) ⟨bIX _,⟨[],aS.nil.qN 1,fun _=>rfl⟩⟩ hF PH.le_refl ?_
 rintro⟨i,w,H0⟩ ⟨hi,hG⟩
 simp only at hi hG ⊢
 have fin:∀ (b:Bool) (w':PV) (F':PF) (H':PH),i<f.bGR.length→(true&&(bIN (i+1)).all ok)=b→fQ H' w' [] (f.bGR.map cI.name) true (i+1) →
   (((((((((PF.nil.set 1 (.bJ f.cells)).set 3 (w')).set 4 (.aB)).set 5 (.aB)).set 6 (.aB)).set 7 (.aB)).set 8 (.bool b)).set 9 (.int .i64 (i+1:Nat))):PF).le F' →
   eF (fun s:Nat × PV × PH=>((((((((PF.nil.set 1 (.bJ f.cells)).set 3 (s.2.1)).set 4 (.aB)).set 5 (.aB)).set 6 (.aB)).set 7 (.aB)).set 8 (.bool (true&&(bIN s.1).all ok))).set 9 (.int .i64 s.1))) (fun s=>s.2.2) (fun s=>s.1≤f.bGR.length∧fQ s.2.2 s.2.1 [] (f.bGR.map cI.name) (true&&(bIN s.1).all ok) s.1) (fun s=>f.bGR.length-s.1) (f.bGR.length-i) K .normal F' H' :=
  fun b w' F' H' hlt hb hG' hF'=>aK (i+1,w',H') ⟨hlt,hG'.ajY⟩ (by simp only; omega) (by simp only; rw[hb]; exact hF') PH.le_refl
 have bGQ:=oT (p:=ok) i true
 have stop:(true&&(bIN i).all ok)=(true&&(bIN f.bGR.length).all ok)→K (.exit 0) (((((((PF.nil.set 1 (.bJ f.cells)).set 4 (.aB)).set 5 (.aB)).set 6 (.aB)).set 7 (.aB)).set 8 (.bool (true&&(bIN i).all ok)))) H0:=fun e=>by
  rw[e,bIY]; exact hK H0
 have hacc:=fun h=>oS (p:=ok) (b:=true) hi h
 generalize hc:(true&&(bIN i).all ok)=c at *
 simp only[go_sem,δ,γ,θ,IJ,asM,bIM]
 by_cases hlt:i<f.bGR.length
 ·have bGP:(i:Int)<(f.bGR.length:Nat):=by omega
  cases c with
  | false =>
   simp only[go_sem,γ,bGP]
   exact Up.up Lq (stop (hacc rfl).symm)
  | true =>
   obtain⟨names,g1,g3⟩:=hG.ex
   have hat:(f.bGR.map cI.cells)[i]?=some (f.bGR[i]).cells:=by simp[hlt]
   have hin:i<(f.bGR.map cI.name).length:=by rw[bIM]; exact hlt
   have hoki:ok i=(gR ([]++(f.bGR.map cI.name).take i) ((f.bGR.map cI.name).getD i [])&&jX f.bGR[i]):=by
    rw[← hok]
    unfold okL
    simp[bJG,hlt]
   have hl:=L.law _ (hf.law _ (bIR hlt))
   rw[hoki] at bGQ
   simp only[go_sem,δ,γ,θ,bGP,asN,hat]
   refine fQ.call L.tonB (ns:=f.bGR.map cI.name) g1 (bIX _) Om (g3 rfl) hin (by simp only[go_sem,γ,bKU]) fun w' H1 h1 hG1=>?_
   generalize gR ([]++(f.bGR.map cI.name).take i) ((f.bGR.map cI.name).getD i [])=fb at *
   cases fb with
   | false =>
    simp only[go_sem,γ,reduceCtorEq,QB,QC,wZz i]
    exact fin false w' _ _ hlt (bGQ.trans rfl) hG1 Lq
   | true =>
    simp only[go_sem,δ,γ,θ,QB,hat]
    refine aA hl rfl ?_
    simp only[go_sem,γ,QC,wZz i]
    exact fin _ w' _ _ hlt (bGQ.trans rfl) hG1 Lq
 ·have bGP:¬ (i:Int)<(f.bGR.length:Nat):=by omega
  have:i=f.bGR.length:=by omega
  subst this
  simp only[go_sem,γ,reduceCtorEq,bGP]
  exact Up.up Lq (stop hc.symm)
theorem NY {a b c d e f:Nat} (h:mY a b c d e f=true):a≤4∧b≤4∧c≤40∧d≤24∧e≤4∧f≤12:=by
 simp only[mY,bJI,decide_eq_true_eq] at h
 omega
theorem afN {n:Nat} (h:n≤1000):IntKind.i64.wrap ((n:Int)-1)=(n:Int)-1:=wrap_i64 Om Om
def inS:Spec:=fun name vs=>match name,vs with
 | 76,[.int _ n,.int _ lo,.int _ hi]=>some ([],fun _=>aE (.bool (within n lo hi)))
 | _,_=>none
def aiJ (bGR:Nat) (m:cS):Bool:=within m.bHC 1 16&&(within m.port 1 64&&within m.law 0 ((bGR:Int)-1))
def aHX (pols:Nat) (v:dZ):Bool:=within v.bGW 0 ((pols:Int)-1)
def vD (f:aL):Bool:=(bIN f.bGJ.length).all (okL [] (f.bGJ.map cS.name) fun i=>(f.bGJ.map (aiJ f.bGR.length)).getD i false)
theorem bbZ {C:Ctx} (L:pE C) (f:aL) (hf:f.Ok) (hz:mY f.bGR.length f.bGJ.length f.bGL.length f.bGI.length f.bGM.length f.bGK.length=true) (b:Bool) (K:cN) [Up K] (F:PF) (H:PH)
  (hF:((((((((PF.nil.set 1 (.bJ f.cells)).set 4 (.aB)).set 5 (.aB)).set 6 (.aB)).set 7 (.aB)).set 8 (.bool b)).set 10 (.int .i64 0)):PF).le F)
  (hK:∀ H',K (.exit 2) ((((((PF.nil.set 1 (.bJ f.cells)).set 5 (.aB)).set 6 (.aB)).set 7 (.aB)).set 8 (.bool (b&&vD f)))) H'):aC.wp C (.loop IK) K F H:=by
 obtain⟨hz1,hz2,hz3,hz4,hz5,hz6⟩:=NY hz
 obtain⟨ok,hok⟩:∃ ok,okL [] (f.bGJ.map cS.name) (fun i=>(f.bGJ.map (aiJ f.bGR.length)).getD i false)=ok:=⟨_,rfl⟩
 unfold vD at hK
 rw[hok] at hK
 refine wp_loop (α:=Nat × PV × PH) (fun s=>(((((((PF.nil.set 1 (.bJ f.cells)).set 4 (s.2.1)).set 5 (.aB)).set 6 (.aB)).set 7 (.aB)).set 8 (.bool (b&&(bIN s.1).all ok))).set 10 (.int .i64 s.1))) (fun s=>s.2.2) (fun s=>s.1≤f.bGJ.length∧fQ s.2.2 s.2.1 [] (f.bGJ.map cS.name) (b&&(bIN s.1).all ok) s.1) (fun s=>f.bGJ.length-s.1)
  (0,.aB,H) ⟨bIX _,⟨[],aS.nil.qN 1,fun _=>rfl⟩⟩ (by
   have e:(b&&(bIN 0).all ok)=b:=by cases b<;>rfl
   simp only[e]
   exact hF) PH.le_refl ?_
 rintro⟨i,w,H0⟩ ⟨hi,hG⟩
 simp only at hi hG ⊢
 have fin:∀ (c:Bool) (w':PV) (F':PF) (H':PH),i<f.bGJ.length→(b&&(bIN (i+1)).all ok)=c→fQ H' w' [] (f.bGJ.map cS.name) true (i+1) →
   ((((((((PF.nil.set 1 (.bJ f.cells)).set 4 (w')).set 5 (.aB)).set 6 (.aB)).set 7 (.aB)).set 8 (.bool c)).set 10 (.int .i64 (i+1:Nat))):PF).le F' →
   eF (fun s:Nat × PV × PH=>(((((((PF.nil.set 1 (.bJ f.cells)).set 4 (s.2.1)).set 5 (.aB)).set 6 (.aB)).set 7 (.aB)).set 8 (.bool (b&&(bIN s.1).all ok))).set 10 (.int .i64 s.1))) (fun s=>s.2.2) (fun s=>s.1≤f.bGJ.length∧fQ s.2.2 s.2.1 [] (f.bGJ.map cS.name) (b&&(bIN s.1).all ok) s.1) (fun s=>f.bGJ.length-s.1) (f.bGJ.length-i) K .normal F' H' :=
  fun c w' F' H' hlt hb hG' hF'=>aK (i+1,w',H') ⟨hlt,hG'.ajY⟩ (by simp only; omega) (by simp only; rw[hb]; exact hF') PH.le_refl
 have bGQ:=oT (p:=ok) i b
 have stop:(b&&(bIN i).all ok)=(b&&(bIN f.bGJ.length).all ok)→K (.exit 2) ((((((PF.nil.set 1 (.bJ f.cells)).set 5 (.aB)).set 6 (.aB)).set 7 (.aB)).set 8 (.bool (b&&(bIN i).all ok)))) H0:=fun e=>by
  rw[e]; exact hK H0
 have hacc:=fun h=>oS (p:=ok) (b:=b) hi h
 generalize hc:(b&&(bIN i).all ok)=c at *
 simp only[go_sem,δ,γ,θ,IK,agJ,bIM]
 by_cases hlt:i<f.bGJ.length
 ·have bGP:(i:Int)<(f.bGJ.length:Nat):=by omega
  cases c with
  | false =>
   simp only[go_sem,γ,bGP]
   exact Up.up Lq (stop (hacc rfl).symm)
  | true =>
   obtain⟨names,g1,g3⟩:=hG.ex
   have hat:(f.bGJ.map cS.cells)[i]?=some (f.bGJ[i]).cells:=by simp[hlt]
   have hin:i<(f.bGJ.map cS.name).length:=by rw[bIM]; exact hlt
   have hoki:ok i=(gR ([]++(f.bGJ.map cS.name).take i) ((f.bGJ.map cS.name).getD i [])&&(aiJ f.bGR.length) f.bGJ[i]):=by
    rw[← hok]
    unfold okL
    simp[bJG,hlt]
   rw[hoki] at bGQ
   have bHV:aiJ f.bGR.length f.bGJ[i]=(within (f.bGJ[i]).bHC 1 16&&(within (f.bGJ[i]).port 1 64&&within (f.bGJ[i]).law 0 ((f.bGR.length:Int)-1))):=rfl
   rw[bHV] at bGQ
   simp only[go_sem,δ,γ,θ,bGP,agK,hat]
   refine aQ fun o ho=>?_
   have g4:=g1.new ho (.rows 4 [(f.bGJ[i]).cells])
   have g5:=g4.at 0 rfl
   simp only[go_sem,δ,γ]
   generalize H0.set o (.rows 4 [(f.bGJ[i]).cells])=H2 at *
   simp only[go_sem,δ,γ,θ,agL,g5]
   refine fQ.call L.tonB (ns:=(f.bGJ.map cS.name)) g4 (bIX _) Om (g3 rfl) hin (by simp only[go_sem,γ,bKU]) fun w' H1 h1 hG1=>?_
   have g6:=h1.at 0 rfl
   generalize gR ([]++(f.bGJ.map cS.name).take i) ((f.bGJ.map cS.name).getD i [])=fb at *
   cases fb with
   | false =>
    simp only[go_sem,γ,reduceCtorEq,IM,qZ,wZz i]
    exact fin false w' _ _ hlt (bGQ.trans rfl) hG1 Lq
   | true =>
    simp only[go_sem,δ,γ,θ,IM,g6]
    refine aA (L.inn (f.bGJ[i]).bHC 1 16) rfl ?_
    cases k0:within (f.bGJ[i]).bHC 1 16 with
    | false =>
     simp only[go_sem,γ,reduceCtorEq,qZ,wZz i]
     exact fin false w' _ _ hlt (by rw[bGQ,k0]<;>simp) hG1 Lq
    | true =>
     simp only[go_sem,δ,γ,θ,g6]
     refine aA (L.inn (f.bGJ[i]).port 1 64) rfl ?_
     cases k1:within (f.bGJ[i]).port 1 64 with
     | false =>
      simp only[go_sem,γ,reduceCtorEq,qZ,wZz i]
      exact fin false w' _ _ hlt (by rw[bGQ,k0,k1]<;>simp) hG1 Lq
     | true =>
      simp only[go_sem,δ,γ,θ,g6,bIM,afN (Om:f.bGR.length≤1000)]
      refine aA (L.inn (f.bGJ[i]).law 0 ((f.bGR.length:Int)-1)) rfl ?_
      simp only[go_sem,γ,qZ,wZz i]
      exact fin _ w' _ _ hlt (by rw[bGQ,k0,k1]<;>simp) hG1 Lq
 ·have bGP:¬ (i:Int)<(f.bGJ.length:Nat):=by omega
  have:i=f.bGJ.length:=by omega
  subst this
  simp only[go_sem,γ,reduceCtorEq,bGP]
  exact Up.up Lq (stop hc.symm)
def atJ (f:aL):Bool:=(bIN f.bGK.length).all (okL [] (f.bGK.map dZ.name) fun i=>(f.bGK.map (aHX f.bGM.length)).getD i false)
theorem bpH {C:Ctx} (L:pE C) (f:aL) (hf:f.Ok) (hz:mY f.bGR.length f.bGJ.length f.bGL.length f.bGI.length f.bGM.length f.bGK.length=true) (b:Bool) (K:cN) [Up K] (F:PF) (H:PH)
  (hF:(((((PF.nil.set 1 (.bJ f.cells)).set 7 (.aB)).set 8 (.bool b)).set 21 (.int .i64 0)):PF).le F)
  (hK:∀ H',K (.exit 14) (((PF.nil.set 1 (.bJ f.cells)).set 8 (.bool (b&&atJ f)))) H'):aC.wp C (.loop uP) K F H:=by
 obtain⟨hz1,hz2,hz3,hz4,hz5,hz6⟩:=NY hz
 obtain⟨ok,hok⟩:∃ ok,okL [] (f.bGK.map dZ.name) (fun i=>(f.bGK.map (aHX f.bGM.length)).getD i false)=ok:=⟨_,rfl⟩
 unfold atJ at hK
 rw[hok] at hK
 refine wp_loop (α:=Nat × PV × PH) (fun s=>((((PF.nil.set 1 (.bJ f.cells)).set 7 (s.2.1)).set 8 (.bool (b&&(bIN s.1).all ok))).set 21 (.int .i64 s.1))) (fun s=>s.2.2) (fun s=>s.1≤f.bGK.length∧fQ s.2.2 s.2.1 [] (f.bGK.map dZ.name) (b&&(bIN s.1).all ok) s.1) (fun s=>f.bGK.length-s.1)
  (0,.aB,H) ⟨bIX _,⟨[],aS.nil.qN 1,fun _=>rfl⟩⟩ (by
   have e:(b&&(bIN 0).all ok)=b:=by cases b<;>rfl
   simp only[e]
   exact hF) PH.le_refl ?_
 rintro⟨i,w,H0⟩ ⟨hi,hG⟩
 simp only at hi hG ⊢
 have fin:∀ (c:Bool) (w':PV) (F':PF) (H':PH),i<f.bGK.length→(b&&(bIN (i+1)).all ok)=c→fQ H' w' [] (f.bGK.map dZ.name) true (i+1) →
   (((((PF.nil.set 1 (.bJ f.cells)).set 7 (w')).set 8 (.bool c)).set 21 (.int .i64 (i+1:Nat))):PF).le F' →
   eF (fun s:Nat × PV × PH=>((((PF.nil.set 1 (.bJ f.cells)).set 7 (s.2.1)).set 8 (.bool (b&&(bIN s.1).all ok))).set 21 (.int .i64 s.1))) (fun s=>s.2.2) (fun s=>s.1≤f.bGK.length∧fQ s.2.2 s.2.1 [] (f.bGK.map dZ.name) (b&&(bIN s.1).all ok) s.1) (fun s=>f.bGK.length-s.1) (f.bGK.length-i) K .normal F' H' :=
  fun c w' F' H' hlt hb hG' hF'=>aK (i+1,w',H') ⟨hlt,hG'.ajY⟩ (by simp only; omega) (by simp only; rw[hb]; exact hF') PH.le_refl
 have bGQ:=oT (p:=ok) i b
 have stop:(b&&(bIN i).all ok)=(b&&(bIN f.bGK.length).all ok)→K (.exit 14) (((PF.nil.set 1 (.bJ f.cells)).set 8 (.bool (b&&(bIN i).all ok)))) H0:=fun e=>by
  rw[e]; exact hK H0
 have hacc:=fun h=>oS (p:=ok) (b:=b) hi h
 generalize hc:(b&&(bIN i).all ok)=c at *
 simp only[go_sem,γ,uP,ahB,bIM]
 by_cases hlt:i<f.bGK.length
 ·have bGP:(i:Int)<(f.bGK.length:Nat):=by omega
  cases c with
  | false =>
   simp only[go_sem,γ,bGP]
   exact Up.up Lq (stop (hacc rfl).symm)
  | true =>
   obtain⟨names,g1,g3⟩:=hG.ex
   have hat:(f.bGK.map dZ.cells)[i]?=some (f.bGK[i]).cells:=by simp[hlt]
   have hin:i<(f.bGK.map dZ.name).length:=by rw[bIM]; exact hlt
   have hoki:ok i=(gR ([]++(f.bGK.map dZ.name).take i) ((f.bGK.map dZ.name).getD i [])&&(aHX f.bGM.length) f.bGK[i]):=by
    rw[← hok]
    unfold okL
    simp[bJG,hlt]
   rw[hoki] at bGQ
   have bHV:aHX f.bGM.length f.bGK[i]=within (f.bGK[i]).bGW 0 ((f.bGM.length:Int)-1):=rfl
   rw[bHV] at bGQ
   simp only[go_sem,δ,γ,θ,bGP,ahC,hat]
   refine fQ.call L.tonB (ns:=(f.bGK.map dZ.name)) g1 (bIX _) Om (g3 rfl) hin (by simp only[go_sem,γ,bKU]) fun w' H1 h1 hG1=>?_
   generalize gR ([]++(f.bGK.map dZ.name).take i) ((f.bGK.map dZ.name).getD i [])=fb at *
   cases fb with
   | false =>
    simp only[go_sem,γ]
    refine bT .nil (inS) PH.nil_le ?_
    simp only[go_sem,γ,reduceCtorEq,IZ,JA,wZz i]
    exact fin false w' _ _ hlt (bGQ.trans rfl) hG1 Lq
   | true =>
    simp only[go_sem,γ]
    refine bT .nil (inS) PH.nil_le ?_
    simp only[go_sem,δ,γ,θ,IZ,hat,bIM,afN (Om:f.bGM.length≤1000)]
    refine bK rfl (L.inn (f.bGK[i]).bGW 0 ((f.bGM.length:Int)-1)) rfl PH.nil_le ?_
    simp only[go_sem,γ,JA,wZz i]
    exact fin _ w' _ _ hlt (bGQ.trans rfl) hG1 Lq
 ·have bGP:¬ (i:Int)<(f.bGK.length:Nat):=by omega
  have:i=f.bGK.length:=by omega
  subst this
  simp only[go_sem,γ,reduceCtorEq,bGP]
  exact Up.up Lq (stop hc.symm)
def aXO:Spec:=fun name vs=>match name,vs with
 | 76,[.int _ n,.int _ lo,.int _ hi]=>some ([],fun _=>aE (.bool (within n lo hi)))
 | 74,[.agg cs]=>some ([],fun _=>aE (.bool (cG (frD cs))))
 | _,_=>none
theorem aXP (x:RF):aXO 74 [.agg x.cells]=some ([],fun _=>aE (.bool (cG x))):=by
 show some ([],fun _=>aE (.bool (cG (frD x.cells))))=_
 rw[alM]
def avP (f:aL) (i:Nat) (d:bR):Bool :=
 within d.level 1 4&&(within d.parent 0 i&&(((f.bGL.map bR.level).getD d.parent.toNat 0==IntKind.i64.wrap (d.level-1))&&(within d.bHI 1 64&&cG d.bHA)))
theorem bkH (f:aL) (i:Nat) (d:bR):EG f i d=avP f i d:=by
 unfold EG avP
 have:decide ((f.bGL.map bR.level).getD d.parent.toNat 0=IntKind.i64.wrap (d.level-1))=((f.bGL.map bR.level).getD d.parent.toNat 0==IntKind.i64.wrap (d.level-1)):=by
  generalize (f.bGL.map bR.level).getD d.parent.toNat 0=u
  by_cases h:u=IntKind.i64.wrap (d.level-1)<;>simp[h]
 rw[this]
 cases within d.parent 0 i<;>cases within d.level 1 4<;>cases within d.bHI 1 64<;>simp
def fL (f:aL):List (List UInt8):=(f.bGL.drop 1).map bR.name
def tV (f:aL) (i:Nat):Bool:=match f.bGL[i+1]? with
 | some d=>avP f i d
 | none=>false
def tX (f:aL):Bool:=(bIN (f.bGL.length-1)).all (okL [] (fL f) (tV f))
theorem avO (f:aL):(fL f).length=f.bGL.length-1:=by simp[fL]
theorem bpE {C:Ctx} (L:pE C) (f:aL) (hf:f.Ok) (hz3:f.bGL.length≤40) (h0:0<f.bGL.length) (b:Bool) (K:cN) [Up K] (F:PF) (H:PH)
  (hF:(((((((PF.nil.set 1 (.bJ f.cells)).set 5 (.aB)).set 6 (.aB)).set 7 (.aB)).set 8 (.bool b)).set 13 (.int .i64 1)):PF).le F)
  (hK:∀ w H',fQ H' w [] (fL f) (b&&tX f) (f.bGL.length-1)→K (.exit 4) ((((((PF.nil.set 1 (.bJ f.cells)).set 5 (w)).set 6 (.aB)).set 7 (.aB)).set 8 (.bool (b&&tX f)))) H'):aC.wp C (.loop uL) K F H:=by
 obtain⟨ok,hok⟩:∃ ok,okL [] (fL f) (tV f)=ok:=⟨_,rfl⟩
 unfold tX at hK
 rw[hok] at hK
 obtain⟨n,hn⟩:∃ n,f.bGL.length=n+1:=⟨f.bGL.length-1,by omega⟩
 have hnl:=avO f
 have hn1:f.bGL.length-1=n:=by omega
 rw[hn1] at hK hnl
 refine wp_loop (α:=Nat × PV × PH) (fun s=>((((((PF.nil.set 1 (.bJ f.cells)).set 5 (s.2.1)).set 6 (.aB)).set 7 (.aB)).set 8 (.bool (b&&(bIN s.1).all ok))).set 13 (.int .i64 (s.1+1:Nat)))) (fun s=>s.2.2) (fun s=>s.1≤n∧fQ s.2.2 s.2.1 [] (fL f) (b&&(bIN s.1).all ok) s.1) (fun s=>n-s.1)
  (0,.aB,H) ⟨bIX _,⟨[],aS.nil.qN 1,fun _=>rfl⟩⟩ (by
   have e:(b&&(bIN 0).all ok)=b:=by cases b<;>rfl
   simp only[e]
   exact hF) PH.le_refl ?_
 rintro⟨i,w,H0⟩ ⟨hi,hG⟩
 simp only at hi hG ⊢
 have fin:∀ (c:Bool) (w':PV) (F':PF) (H':PH),i<n→(b&&(bIN (i+1)).all ok)=c→fQ H' w' [] (fL f) true (i+1) →
   (((((((PF.nil.set 1 (.bJ f.cells)).set 5 (w')).set 6 (.aB)).set 7 (.aB)).set 8 (.bool c)).set 13 (.int .i64 (i+1+1:Nat))):PF).le F' →
   eF (fun s:Nat × PV × PH=>((((((PF.nil.set 1 (.bJ f.cells)).set 5 (s.2.1)).set 6 (.aB)).set 7 (.aB)).set 8 (.bool (b&&(bIN s.1).all ok))).set 13 (.int .i64 (s.1+1:Nat)))) (fun s=>s.2.2) (fun s=>s.1≤n∧fQ s.2.2 s.2.1 [] (fL f) (b&&(bIN s.1).all ok) s.1) (fun s=>n-s.1) (n-i) K .normal F' H' :=
  fun c w' F' H' hlt hb hG' hF'=>aK (i+1,w',H') ⟨hlt,hG'.ajY⟩ (by simp only; omega) (by simp only; rw[hb]; exact hF') PH.le_refl
 have bGQ:=oT (p:=ok) i b
 have hacc:=fun h=>oS (p:=ok) (b:=b) hi h
 have stop:(b&&(bIN i).all ok)=(b&&(bIN n).all ok)→((b&&(bIN i).all ok)=true→i=n)→K (.exit 4) ((((((PF.nil.set 1 (.bJ f.cells)).set 5 (w)).set 6 (.aB)).set 7 (.aB)).set 8 (.bool (b&&(bIN i).all ok)))) H0:=fun e e2=>by
  obtain⟨names,g1,g3⟩:=hG.ex
  have:=hK w H0 ⟨names,g1,fun h=>by
   have h':=e.trans h
   rw[g3 h',e2 h']⟩
  rwa [← e] at this
 generalize hc:(b&&(bIN i).all ok)=c at *
 simp only[go_sem,δ,γ,θ,uL,agN,bIM]
 by_cases hlt:i<n
 ·have bGP:((i+1:Nat):Int)<(f.bGL.length:Nat):=by omega
  cases c with
  | false =>
   simp only[go_sem,γ,bGP]
   exact Up.up Lq (stop (hacc rfl).symm (fun h=>by cases h))
  | true =>
   obtain⟨names,g1,g3⟩:=hG.ex
   have hid:i+1<f.bGL.length:=by omega
   have hat:=tW hid
   have hin:i<(fL f).length:=by omega
   have hnm:(fL f)[i]=(f.bGL[i+1]).name:=by simp[fL,Nat.add_comm]
   have hoki:ok i=(gR ([]++(fL f).take i) ((fL f).getD i [])&&avP f i f.bGL[i+1]):=by
    rw[← hok]
    unfold okL tV
    rw[bIW hid]
   have hdo:=hf.dom _ (bIR hid)
   rw[hoki] at bGQ
   unfold avP at bGQ
   have e1:IntKind.i64.wrap (((i+1:Nat):Int)-1)=(i:Nat):=by rw[wrap_i64 Om Om]; omega
   have winc:IntKind.i64.wrap (((i+1:Nat):Int)+1)=((i+1+1:Nat):Int):=dE Om
   have hsm:=L.small _ hdo.1
   simp only[go_sem,δ,γ,θ,bGP,agO,hat]
   refine aQ fun o ho=>?_
   have g4:=g1.new ho (.rows 7 [(f.bGL[i+1]).cells])
   have g5:=g4.at 0 rfl
   simp only[go_sem,δ,γ]
   generalize H0.set o (.rows 7 [(f.bGL[i+1]).cells])=H2 at *
   simp only[go_sem,δ,γ,θ,agP,g5]
   refine fQ.call L.tonB (ns:=fL f) g4 (bIX _) Om (g3 rfl) hin (by simp only[go_sem,γ,hnm]) fun w' H1 h1 hG1=>?_
   have g6:=h1.at 0 rfl
   generalize gR ([]++(fL f).take i) ((fL f).getD i [])=fb at *
   generalize hd:f.bGL[i+1]=dd at *
   cases fb with
   | false =>
    simp only[go_sem,γ]
    refine bT .nil aXO PH.nil_le ?_
    simp only[go_sem,γ,reduceCtorEq,IQ,lW,winc]
    exact fin false w' _ _ hlt (bGQ.trans rfl) hG1 Lq
   | true =>
    simp only[go_sem,γ]
    refine bT .nil aXO PH.nil_le ?_
    simp only[go_sem,δ,γ,θ,reduceCtorEq,IQ,g6]
    refine bK rfl (L.inn dd.level 1 4) rfl PH.nil_le ?_
    cases k0:within dd.level 1 4 with
    | false =>
     simp only[go_sem,γ,reduceCtorEq,lW,winc]
     exact fin false w' _ _ hlt (by rw[bGQ,k0]<;>simp) hG1 Lq
    | true =>
     simp only[go_sem,δ,γ,θ,reduceCtorEq,g6,e1]
     refine bK rfl (L.inn dd.parent 0 (i:Nat)) rfl PH.nil_le ?_
     cases k1:within dd.parent 0 (i:Nat) with
     | false =>
      simp only[go_sem,γ,reduceCtorEq,lW,winc]
      exact fin false w' _ _ hlt (by rw[bGQ,k0,k1]<;>simp) hG1 Lq
     | true =>
      obtain⟨p0,p1⟩:=within_iff.1 k1
      obtain⟨p,hp⟩:∃ p:Nat,dd.parent=p:=⟨dd.parent.toNat,by omega⟩
      have hpd:p<f.bGL.length:=by omega
      obtain⟨lv,hlv⟩:∃ lv,(f.bGL.map bR.level).getD dd.parent.toNat 0=lv:=⟨_,rfl⟩
      have hpl:(f.bGL[p]).level=lv:=by rw[← hlv,hp,bLM,nG hpd]
      rw[hlv] at bGQ
      have hpat:=tW hpd
      simp only[go_sem,δ,γ,θ,reduceCtorEq,g6,hp,hpat,hpl]
      cases k2:lv==IntKind.i64.wrap (dd.level-1) with
      | false =>
       simp only[go_sem,γ,reduceCtorEq,lW,winc]
       exact fin false w' _ _ hlt (by rw[bGQ,k0,k1,k2]<;>simp) hG1 Lq
      | true =>
       simp only[go_sem,δ,γ,θ,reduceCtorEq,g6]
       refine bK rfl (L.inn dd.bHI 1 64) rfl PH.nil_le ?_
       cases k3:within dd.bHI 1 64 with
       | false =>
        simp only[go_sem,γ,reduceCtorEq,lW,winc]
        exact fin false w' _ _ hlt (by rw[bGQ,k0,k1,k2,k3]<;>simp) hG1 Lq
       | true =>
        simp only[go_sem,δ,γ,reduceCtorEq,g6]
        refine bK (aXP _) hsm rfl PH.nil_le ?_
        simp only[go_sem,γ,lW,winc]
        exact fin _ w' _ _ hlt (by rw[bGQ,k0,k1,k2,k3]<;>simp) hG1 Lq
 ·have bGP:¬ ((i+1:Nat):Int)<(f.bGL.length:Nat):=by omega
  have:i=n:=by omega
  subst this
  simp only[go_sem,γ,reduceCtorEq,bGP]
  exact Up.up Lq (stop hc.symm (fun _=>rfl))
def avS (f:aL) (d:cC):Bool:=within d.model 0 ((f.bGJ.length:Int)-1)&&(within d.machine 0 ((f.bGL.length:Int)-1)&&((f.bGL.map bR.level).getD d.machine.toNat 0==4))
def kD (f:aL):List (List UInt8):=f.bGI.map cC.name
def rW (f:aL) (i:Nat):Bool:=match f.bGI[i]? with
 | some d=>avS f d
 | none=>false
def uS (f:aL):Bool:=(bIN f.bGI.length).all (okL (fL f) (kD f) (rW f))
theorem bbY {C:Ctx} (L:pE C) (f:aL) (hf:f.Ok) (hz3:f.bGL.length≤40) (h0:0<f.bGL.length) (hz4:f.bGI.length≤24) (hz2:f.bGJ.length≤4) (b:Bool) (w0:PV) (K:cN) [Up K] (F:PF) (H:PH)
  (hG0:fQ H w0 [] (fL f) b (f.bGL.length-1)) (hF:(((((((PF.nil.set 1 (.bJ f.cells)).set 5 (w0)).set 6 (.aB)).set 7 (.aB)).set 8 (.bool b)).set 15 (.int .i64 0)):PF).le F)
  (hK:∀ H',K (.exit 6) (((((PF.nil.set 1 (.bJ f.cells)).set 6 (.aB)).set 7 (.aB)).set 8 (.bool (b&&uS f)))) H'):aC.wp C (.loop uM) K F H:=by
 obtain⟨ok,hok⟩:∃ ok,okL (fL f) (kD f) (rW f)=ok:=⟨_,rfl⟩
 unfold uS at hK
 rw[hok] at hK
 obtain⟨n,hn⟩:∃ n,f.bGI.length=n:=⟨_,rfl⟩
 have hdl:=avO f
 have hnl:(kD f).length=n:=by simp[kD,hn]
 rw[hn] at hK
 refine wp_loop (α:=Nat × PV × PH) (fun s=>((((((PF.nil.set 1 (.bJ f.cells)).set 5 (s.2.1)).set 6 (.aB)).set 7 (.aB)).set 8 (.bool (b&&(bIN s.1).all ok))).set 15 (.int .i64 s.1))) (fun s=>s.2.2) (fun s=>s.1≤n∧fQ s.2.2 s.2.1 (fL f) (kD f) (b&&(bIN s.1).all ok) s.1) (fun s=>n-s.1)
  (0,w0,H) ⟨bIX _,by
   obtain⟨names,q1,q2⟩:=hG0.ex
   have e:(b&&(bIN 0).all ok)=b:=by cases b<;>rfl
   refine⟨names,q1,fun h=>?_⟩
   simp only[e] at h
   rw[q2 h,bLF,bJD Om]
   simp⟩ (by
   have e:(b&&(bIN 0).all ok)=b:=by cases b<;>rfl
   simp only[e]
   exact hF) PH.le_refl ?_
 rintro⟨i,w,H0⟩ ⟨hi,hG⟩
 simp only at hi hG ⊢
 have fin:∀ (c:Bool) (w':PV) (F':PF) (H':PH),i<n→(b&&(bIN (i+1)).all ok)=c→fQ H' w' (fL f) (kD f) true (i+1) →
   (((((((PF.nil.set 1 (.bJ f.cells)).set 5 (w')).set 6 (.aB)).set 7 (.aB)).set 8 (.bool c)).set 15 (.int .i64 (i+1:Nat))):PF).le F' →
   eF (fun s:Nat × PV × PH=>((((((PF.nil.set 1 (.bJ f.cells)).set 5 (s.2.1)).set 6 (.aB)).set 7 (.aB)).set 8 (.bool (b&&(bIN s.1).all ok))).set 15 (.int .i64 s.1))) (fun s=>s.2.2) (fun s=>s.1≤n∧fQ s.2.2 s.2.1 (fL f) (kD f) (b&&(bIN s.1).all ok) s.1) (fun s=>n-s.1) (n-i) K .normal F' H' :=
  fun c w' F' H' hlt hb hG' hF'=>aK (i+1,w',H') ⟨hlt,hG'.ajY⟩ (by simp only; omega) (by simp only; rw[hb]; exact hF') PH.le_refl
 have bGQ:=oT (p:=ok) i b
 have hacc:=fun h=>oS (p:=ok) (b:=b) hi h
 have stop:(b&&(bIN i).all ok)=(b&&(bIN n).all ok)→K (.exit 6) (((((PF.nil.set 1 (.bJ f.cells)).set 6 (.aB)).set 7 (.aB)).set 8 (.bool (b&&(bIN i).all ok)))) H0:=fun e=>by
  rw[e]; exact hK H0
 generalize hc:(b&&(bIN i).all ok)=c at *
 simp only[go_sem,δ,γ,θ,uM,agQ,bIM]
 by_cases hlt:i<n
 ·have bGP:((i:Nat):Int)<(f.bGI.length:Nat):=by omega
  cases c with
  | false =>
   simp only[go_sem,γ,bGP]
   exact Up.up Lq (stop (hacc rfl).symm)
  | true =>
   obtain⟨names,g1,g3⟩:=hG.ex
   have hid:i<f.bGI.length:=by omega
   have hat:=akY hid
   have hin:i<(kD f).length:=by omega
   have hnm:(kD f)[i]=(f.bGI[i]).name:=by simp[kD]
   have hoki:ok i=(gR (fL f++(kD f).take i) ((kD f).getD i [])&&avS f f.bGI[i]):=by
    rw[← hok]
    unfold okL rW
    rw[bIW hid]
   rw[hoki] at bGQ
   unfold avS at bGQ
   have winc:IntKind.i64.wrap ((i:Int)+1)=((i+1:Nat):Int):=dE Om
   have e1:=afN (Om:f.bGJ.length≤1000)
   have e2:=afN (Om:f.bGL.length≤1000)
   simp only[go_sem,δ,γ,θ,bGP,agR,hat]
   refine aQ fun o ho=>?_
   have g4:=g1.new ho (.rows 3 [(f.bGI[i]).cells])
   have g5:=g4.at 0 rfl
   simp only[go_sem,δ,γ]
   generalize H0.set o (.rows 3 [(f.bGI[i]).cells])=H2 at *
   simp only[go_sem,δ,γ,θ,agS,g5]
   refine fQ.call L.tonB (base:=fL f) (ns:=kD f) g4 Om Om (g3 rfl) hin (by simp only[go_sem,γ,hnm]) fun w' H1 h1 hG1=>?_
   have g6:=h1.at 0 rfl
   generalize gR (fL f++(kD f).take i) ((kD f).getD i [])=fb at *
   generalize hd:f.bGI[i]=dd at *
   cases fb with
   | false =>
    simp only[go_sem,γ,reduceCtorEq,IS,rA,winc]
    exact fin false w' _ _ hlt (bGQ.trans rfl) hG1 Lq
   | true =>
    simp only[go_sem,δ,γ,θ,IS,g6,bIM,e1]
    refine aA (L.inn dd.model 0 ((f.bGJ.length:Int)-1)) rfl ?_
    cases k0:within dd.model 0 ((f.bGJ.length:Int)-1) with
    | false =>
     simp only[go_sem,γ,reduceCtorEq,rA,winc]
     exact fin false w' _ _ hlt (by rw[bGQ,k0]<;>simp) hG1 Lq
    | true =>
     simp only[go_sem,δ,γ,θ,g6,bIM,e2]
     refine aA (L.inn dd.machine 0 ((f.bGL.length:Int)-1)) rfl ?_
     cases k1:within dd.machine 0 ((f.bGL.length:Int)-1) with
     | false =>
      simp only[go_sem,γ,reduceCtorEq,rA,winc]
      exact fin false w' _ _ hlt (by rw[bGQ,k0,k1]<;>simp) hG1 Lq
     | true =>
      obtain⟨p0,p1⟩:=within_iff.1 k1
      obtain⟨p,hp⟩:∃ p:Nat,dd.machine=p:=⟨dd.machine.toNat,by omega⟩
      have hpd:p<f.bGL.length:=by omega
      obtain⟨lv,hlv⟩:∃ lv,(f.bGL.map bR.level).getD dd.machine.toNat 0=lv:=⟨_,rfl⟩
      have hpl:(f.bGL[p]).level=lv:=by rw[← hlv,hp,bLM,nG hpd]
      rw[hlv] at bGQ
      have hpat:=tW hpd
      simp only[go_sem,δ,γ,θ,g6,hp,hpat,hpl,rA,winc]
      exact fin _ w' _ _ hlt (by rw[bGQ,k0,k1]<;>simp) hG1 Lq
 ·have bGP:¬ ((i:Nat):Int)<(f.bGI.length:Nat):=by omega
  have:i=n:=by omega
  subst this
  simp only[go_sem,γ,reduceCtorEq,bGP]
  exact Up.up Lq (stop hc.symm)
theorem VR {xs:List Int} {k:Nat} (h:k<xs.length):(xs.map fun x=>[PV.int .i64 x])[k]?=some [.int .i64 xs[k]]:=by simp[h]
def zpF (f:aL) (w:PV) (o i:Nat) (c:Bool) (j:Nat):PF:=(((((((PF.nil.set 1 (.bJ f.cells)).set 6 (w)).set 7 (.aB)).set 8 (.bool c)).set 17 (.int .i64 i)).set 18 (.ptr o 17 0 0)).set 19 (.int .i64 j))
theorem biU {C:Ctx} (f:aL) (w:PV) (o i:Nat) (p:cY) (hl:p.bGJ.length≤9223372036854775807) (j:Nat) (hj:j<p.bGJ.length) (b:Bool) (K:cN) [Up K] (F:PF) (H:PH) (ho:H o=some (.rows 17 [p.cells])) (hF:((zpF f w o i b j).set 20 (.int .i64 0)).le F)
  (hK:K (.exit 12) (zpF f w o i (b&&(p.bGJ.take j).all fun x=>x != p.bGJ[j]) j) H):aC.wp C (.loop IL) K F H:=by
 refine wp_loop (α:=Nat) (fun k=>(zpF f w o i (b&&(p.bGJ.take k).all fun x=>x != p.bGJ[j]) j).set 20 (.int .i64 k)) (fun _=>H) (fun k=>k≤j) (fun k=>j-k) 0 (bIX _) (by
   have e:(b&&(p.bGJ.take 0).all fun x=>x != p.bGJ[j])=b:=by cases b<;>rfl
   simp only[e]
   exact hF) PH.le_refl ?_
 intro k hk
 have hs:∀ h:k<p.bGJ.length,(b&&(p.bGJ.take (k+1)).all fun x=>x != p.bGJ[j])=((b&&(p.bGJ.take k).all fun x=>x != p.bGJ[j])&&(p.bGJ[k] != p.bGJ[j])):=fun h=>by
  rw[bKK h,List.all_append]
  simp[bLJ]
 have fin:∀ (c:Bool) (F':PF),k<j→(b&&(p.bGJ.take (k+1)).all fun x=>x != p.bGJ[j])=c→((zpF f w o i c j).set 20 (.int .i64 (k+1:Nat))).le F'→eF (fun k:Nat=>(zpF f w o i (b&&(p.bGJ.take k).all fun x=>x != p.bGJ[j]) j).set 20 (.int .i64 k)) (fun _=>H) (fun k=>k≤j) (fun k=>j-k) (j-k) K .normal F' H :=
  fun c F' hlt e h=>aK (k+1) hlt Om (by rw[e]; exact h) PH.le_refl
 unfold zpF at fin
 simp only[go_sem,γ,IL,agZ,zpF]
 by_cases hlt:k<j
 ·have bGP:(k:Int)<(j:Nat):=by omega
  have hk2:k<p.bGJ.length:=by omega
  have hs:=hs hk2
  generalize (b&&(p.bGJ.take k).all fun x=>x != p.bGJ[j])=c at *
  simp only[go_sem,bGP]
  refine bT .nil eG PH.nil_le ?_
  cases c with
  | false =>
   simp only[go_sem,γ,reduceCtorEq,IV,IW,wZz k]
   exact fin false _ hlt (hs.trans rfl) Lq
  | true =>
   simp only[go_sem,δ,γ,θ,reduceCtorEq,IV,ho,VR hk2,VR hj,IW,wZz k]
   exact fin _ _ hlt (hs.trans rfl) Lq
 ·have bGP:¬ (k:Int)<(j:Nat):=by omega
  have:k=j:=by omega
  subst this
  simp only[go_sem,bGP]
  exact Up.up (by (repeat' (first|exact PF.nil_le|refine PF.aI ?_ ?_))<;>first|(simp only[go_sem,γ,zpF]<;>rfl)|rfl) hK
def GN (bGJ:Nat) (ms:List Int) (j:Nat):Bool:=within (ms.getD j 0) 0 ((bGJ:Int)-1)&&(ms.take j).all fun x=>x != ms.getD j 0
theorem bbT {C:Ctx} (L:pE C) (f:aL) (hz2:f.bGJ.length≤4) (w:PV) (o i:Nat) (p:cY) (hl:p.bGJ.length≤9223372036854775807) (b:Bool) (K:cN) [Up K] (F:PF) (H:PH) (ho:H o=some (.rows 17 [p.cells])) (hF:(zpF f w o i b 0).le F)
  (hK:K (.exit 10) ((((((PF.nil.set 1 (.bJ f.cells)).set 6 (w)).set 7 (.aB)).set 8 (.bool (b&&(bIN p.bGJ.length).all (GN f.bGJ.length p.bGJ)))).set 17 (.int .i64 i))) H):aC.wp C (.loop uN) K F H:=by
 obtain⟨ok,hok⟩:∃ ok,GN f.bGJ.length p.bGJ=ok:=⟨_,rfl⟩
 rw[hok] at hK
 refine wp_loop (α:=Nat) (fun j=>zpF f w o i (b&&(bIN j).all ok) j) (fun _=>H) (fun j=>j≤p.bGJ.length) (fun j=>p.bGJ.length-j) 0 (bIX _) (by
   have e:(b&&(bIN 0).all ok)=b:=by cases b<;>rfl
   simp only[e]
   exact hF) PH.le_refl ?_
 intro j hj
 have bGQ:=oT (p:=ok) j b
 have hacc:=fun h=>oS (p:=ok) (b:=b) hj h
 have fin:∀ (c:Bool) (F':PF),j<p.bGJ.length→(b&&(bIN (j+1)).all ok)=c→(zpF f w o i c (j+1)).le F'→eF (fun j:Nat=>zpF f w o i (b&&(bIN j).all ok) j) (fun _=>H) (fun j=>j≤p.bGJ.length) (fun j=>p.bGJ.length-j) (p.bGJ.length-j) K .normal F' H :=
  fun c F' hlt e h=>aK (j+1) hlt Om (by rw[e]; exact h) PH.le_refl
 unfold zpF at fin
 have stop:(b&&(bIN j).all ok)=(b&&(bIN p.bGJ.length).all ok)→K (.exit 10) ((((((PF.nil.set 1 (.bJ f.cells)).set 6 (w)).set 7 (.aB)).set 8 (.bool (b&&(bIN j).all ok))).set 17 (.int .i64 i))) H:=fun e=>by
  rw[e]; exact hK
 generalize hc:(b&&(bIN j).all ok)=c at *
 simp only[go_sem,δ,γ,θ,uN,agW,zpF,ho,bIM]
 by_cases hlt:j<p.bGJ.length
 ·have bGP:(j:Int)<(p.bGJ.length:Nat):=by omega
  cases c with
  | false =>
   simp only[go_sem,γ,bGP]
   exact Up.up Lq (stop (hacc rfl).symm)
  | true =>
   have e1:=afN (Om:f.bGJ.length≤1000)
   have hg:p.bGJ.getD j 0=p.bGJ[j]:=by simp[bJG,hlt]
   have hoj:ok j=(within p.bGJ[j] 0 ((f.bGJ.length:Int)-1)&&(p.bGJ.take j).all fun x=>x != p.bGJ[j]):=by
    rw[← hok]
    unfold GN
    rw[hg]
   rw[hoj] at bGQ
   simp only[go_sem,γ,bGP]
   refine bT .nil aXO PH.nil_le ?_
   simp only[go_sem,δ,γ,θ,reduceCtorEq,agX,ho,VR hlt,bIM,e1]
   refine bK rfl (L.inn p.bGJ[j] 0 ((f.bGJ.length:Int)-1)) Sq PH.nil_le ?_
   simp only[go_sem,γ,agY]
   refine biU f w o i p hl j hlt (within p.bGJ[j] 0 ((f.bGJ.length:Int)-1)) _ _ _ ho (by (repeat' (first|exact PF.nil_le|refine PF.aI ?_ ?_))<;>first|(simp only[go_sem,γ,zpF]<;>rfl)|rfl) ?_
   simp only[go_sem,γ,zpF,ahA,wZz j]
   exact fin _ _ hlt (bGQ.trans rfl) Lq
 ·have bGP:¬ (j:Int)<(p.bGJ.length:Nat):=by omega
  have:j=p.bGJ.length:=by omega
  subst this
  simp only[go_sem,γ,reduceCtorEq,bGP]
  exact Up.up Lq (stop hc.symm)
def aDO (bGJ:Nat) (p:cY):Bool:=GG p.k p.m p.bHM p.s0 p.s1 p.s2 p.s3 p.s4&&(KF p.m p.repair p.target p.bGU&&(decide (p.bGJ.length>0)&&(bIN p.bGJ.length).all (GN bGJ p.bGJ)))
theorem bnC (bGJ:Nat) (p:cY):iD bGJ p=aDO bGJ p:=by
 unfold iD aDO
 rw[bmX,bpV]
 have h1:decide (p.bGJ.length≠0)=decide (p.bGJ.length>0):=decide_eq_decide.2 Om
 have h2:(bIN p.bGJ.length).all (fun j=>within (p.bGJ.getD j 0) 0 ((bGJ:Int)-1)&&!(p.bGJ.take j).contains (p.bGJ.getD j 0))=(bIN p.bGJ.length).all (GN bGJ p.bGJ):=by
  congr 1
  funext j
  unfold GN
  congr 1
  generalize p.bGJ.getD j 0=x
  induction p.bGJ.take j with
  | nil=>rfl
  | cons a t ih =>
   rw[List.contains_cons,List.all_cons,← ih,Bool.not_or,bne,BEq.comm]
 rw[h1,h2]
 cases GG p.k p.m p.bHM p.s0 p.s1 p.s2 p.s3 p.s4<;>cases KF p.m p.repair p.target p.bGU<;>cases decide (p.bGJ.length>0)<;>simp
structure ahJ (C:Ctx):Prop extends pE C where
 dur:∀ (m:Int) (rep:List RF),iY rep→∀ t h:RF,t.Ok→h.Ok→aD C 69 [.int .i64 m,frs rep,.agg t.cells,.agg h.cells] .nil (aE (.bool (KF m rep t h)))
def jL (f:aL):List (List UInt8):=f.bGM.map cY.name
def GM (f:aL) (i:Nat):Bool:=match f.bGM[i]? with
 | some p=>aDO f.bGJ.length p
 | none=>false
def acM (f:aL):Bool:=(bIN f.bGM.length).all (okL [] (jL f) (GM f))
theorem bpG {C:Ctx} (L:ahJ C) (f:aL) (hf:f.Ok) (hz5:f.bGM.length≤4) (hz2:f.bGJ.length≤4) (b:Bool) (K:cN) [Up K] (F:PF) (H:PH)
  (hF:((((((PF.nil.set 1 (.bJ f.cells)).set 6 (.aB)).set 7 (.aB)).set 8 (.bool b)).set 17 (.int .i64 0)):PF).le F)
  (hK:∀ H',K (.exit 8) ((((PF.nil.set 1 (.bJ f.cells)).set 7 (.aB)).set 8 (.bool (b&&acM f)))) H'):aC.wp C (.loop uO) K F H:=by
 obtain⟨ok,hok⟩:∃ ok,okL [] (jL f) (GM f)=ok:=⟨_,rfl⟩
 unfold acM at hK
 rw[hok] at hK
 have hnl:(jL f).length=f.bGM.length:=by simp[jL]
 refine wp_loop (α:=Nat × PV × PH) (fun s=>(((((PF.nil.set 1 (.bJ f.cells)).set 6 (s.2.1)).set 7 (.aB)).set 8 (.bool (b&&(bIN s.1).all ok))).set 17 (.int .i64 s.1))) (fun s=>s.2.2) (fun s=>s.1≤f.bGM.length∧fQ s.2.2 s.2.1 [] (jL f) (b&&(bIN s.1).all ok) s.1) (fun s=>f.bGM.length-s.1)
  (0,.aB,H) ⟨bIX _,⟨[],aS.nil.qN 1,fun _=>rfl⟩⟩ (by
   have e:(b&&(bIN 0).all ok)=b:=by cases b<;>rfl
   simp only[e]
   exact hF) PH.le_refl ?_
 rintro⟨i,w,H0⟩ ⟨hi,hG⟩
 simp only at hi hG ⊢
 have fin:∀ (c:Bool) (w':PV) (F':PF) (H':PH),i<f.bGM.length→(b&&(bIN (i+1)).all ok)=c→fQ H' w' [] (jL f) true (i+1) →
   ((((((PF.nil.set 1 (.bJ f.cells)).set 6 (w')).set 7 (.aB)).set 8 (.bool c)).set 17 (.int .i64 (i+1:Nat))):PF).le F' →
   eF (fun s:Nat × PV × PH=>(((((PF.nil.set 1 (.bJ f.cells)).set 6 (s.2.1)).set 7 (.aB)).set 8 (.bool (b&&(bIN s.1).all ok))).set 17 (.int .i64 s.1))) (fun s=>s.2.2) (fun s=>s.1≤f.bGM.length∧fQ s.2.2 s.2.1 [] (jL f) (b&&(bIN s.1).all ok) s.1) (fun s=>f.bGM.length-s.1) (f.bGM.length-i) K .normal F' H' :=
  fun c w' F' H' hlt hb hG' hF'=>aK (i+1,w',H') ⟨hlt,hG'.ajY⟩ (by simp only; omega) (by simp only; rw[hb]; exact hF') PH.le_refl
 have bGQ:=oT (p:=ok) i b
 have hacc:=fun h=>oS (p:=ok) (b:=b) hi h
 have stop:(b&&(bIN i).all ok)=(b&&(bIN f.bGM.length).all ok)→K (.exit 8) ((((PF.nil.set 1 (.bJ f.cells)).set 7 (.aB)).set 8 (.bool (b&&(bIN i).all ok)))) H0:=fun e=>by
  rw[e]; exact hK H0
 generalize hc:(b&&(bIN i).all ok)=c at *
 simp only[go_sem,δ,γ,θ,uO,agT,bIM]
 by_cases hlt:i<f.bGM.length
 ·have bGP:(i:Int)<(f.bGM.length:Nat):=by omega
  cases c with
  | false =>
   simp only[go_sem,γ,bGP]
   exact Up.up Lq (stop (hacc rfl).symm)
  | true =>
   obtain⟨names,g1,g3⟩:=hG.ex
   have hat:=sC hlt
   have hin:i<(jL f).length:=by omega
   have hnm:(jL f)[i]=(f.bGM[i]).name:=by simp[jL]
   have hoki:ok i=(gR ([]++(jL f).take i) ((jL f).getD i [])&&aDO f.bGJ.length f.bGM[i]):=by
    rw[← hok]
    unfold okL GM
    rw[bIW hlt]
   have hpo:=hf.bGW _ (bIR hlt)
   rw[hoki] at bGQ
   unfold aDO at bGQ
   have winc:IntKind.i64.wrap ((i:Int)+1)=((i+1:Nat):Int):=dE Om
   simp only[go_sem,δ,γ,θ,bGP,agU,hat]
   refine aQ fun o ho=>?_
   have g4:=g1.new ho (.rows 17 [(f.bGM[i]).cells])
   have g5:=g4.at 0 rfl
   simp only[go_sem,δ,γ]
   generalize H0.set o (.rows 17 [(f.bGM[i]).cells])=H2 at *
   simp only[go_sem,δ,γ,θ,agV,g5]
   refine fQ.call L.tonB (ns:=jL f) g4 (bIX _) Om (g3 rfl) hin (by simp only[go_sem,γ,hnm]) fun w' H1 h1 hG1=>?_
   have g6:=h1.at 0 rfl
   generalize gR ([]++(jL f).take i) ((jL f).getD i [])=fb at *
   generalize hd:f.bGM[i]=p at *
   have rest:∀ (c:Bool) (F':PF),(zpF f w' o i c 0).le F'→(c&&(bIN p.bGJ.length).all (GN f.bGJ.length p.bGJ))=(b&&(bIN (i+1)).all ok) →
     aC.wp C (.loop uN) (dX 10 (dX 9 (iH C (aC.wp C (.region IX)) (eF (fun s:Nat × PV × PH=>(((((PF.nil.set 1 (.bJ f.cells)).set 6 (s.2.1)).set 7 (.aB)).set 8 (.bool (b&&(bIN s.1).all ok))).set 17 (.int .i64 s.1))) (fun s=>s.2.2) (fun s=>s.1≤f.bGM.length∧fQ s.2.2 s.2.1 [] (jL f) (b&&(bIN s.1).all ok) s.1) (fun s=>f.bGM.length-s.1) (f.bGM.length-i) K)))) F' H1:=by
    intro c F' hF' hcc
    refine bbT L.topE f hz2 w' o i p hpo.bGJ c _ _ _ g6 hF' ?_
    rw[hcc]
    simp only[go_sem,γ,IX,winc]
    exact fin _ w' _ _ hlt rfl hG1 Lq
   cases fb with
   | false =>
    simp only[go_sem,γ,reduceCtorEq,IU,rB]
    exact rest false _ (by (repeat' (first|exact PF.nil_le|refine PF.aI ?_ ?_))<;>first|(simp only[go_sem,γ,zpF]<;>rfl)|rfl) (by rw[bGQ]; rfl)
   | true =>
    simp only[go_sem,δ,γ,θ,IU,g6]
    refine aA (L.nums p.k p.m p.bHM p.s0 p.s1 p.s2 p.s3 p.s4) Sq ?_
    cases k0:GG p.k p.m p.bHM p.s0 p.s1 p.s2 p.s3 p.s4 with
    | false =>
     simp only[go_sem,γ,reduceCtorEq,rB]
     exact rest false _ (by (repeat' (first|exact PF.nil_le|refine PF.aI ?_ ?_))<;>first|(simp only[go_sem,γ,zpF]<;>rfl)|rfl) (by rw[bGQ,k0]; rfl)
    | true =>
     simp only[go_sem,δ,γ,θ,g6]
     refine aA (L.dur p.m p.repair hpo.repair p.target p.bGU hpo.target hpo.bGU) Sq ?_
     cases k1:KF p.m p.repair p.target p.bGU with
     | false =>
      simp only[go_sem,γ,reduceCtorEq,rB]
      exact rest false _ (by (repeat' (first|exact PF.nil_le|refine PF.aI ?_ ?_))<;>first|(simp only[go_sem,γ,zpF]<;>rfl)|rfl) (by rw[bGQ,k0,k1]; rfl)
     | true =>
      have hgt:decide (((p.bGJ.length:Nat):Int)>0)=decide (p.bGJ.length>0):=decide_eq_decide.2 Om
      simp only[go_sem,δ,γ,θ,g6,bIM,hgt,rB]
      exact rest _ _ (by (repeat' (first|exact PF.nil_le|refine PF.aI ?_ ?_))<;>first|(simp only[go_sem,γ,zpF]<;>rfl)|rfl) (by rw[bGQ,k0,k1]; rfl)
 ·have bGP:¬ (i:Int)<(f.bGM.length:Nat):=by omega
  have:i=f.bGM.length:=by omega
  subst this
  simp only[go_sem,γ,reduceCtorEq,bGP]
  exact Up.up Lq (stop hc.symm)
def nS (r:bR):Bool:=(r.name==[])&&((r.level==0)&&((r.parent==-1)&&((r.bHI==0)&&(cM (val r.bHA.num) (val r.bHA.den)&&(oR r.bHA==0)))))
def aZG (f:aL):Bool:=match f.bGL with
 | []=>false
 | r::_=>nS r
def bgB (f:aL):Bool:=within f.bHW 1 4&&(mY f.bGR.length f.bGJ.length f.bGL.length f.bGI.length f.bGM.length f.bGK.length&&(decide (0<f.bGL.length)&&((((((FL f&&vD f)&&aZG f)&&tX f)&&uS f)&&acM f)&&atJ f)))
theorem aLI (n:Nat) (p q:Nat→Bool):(bIN n).all (fun i=>p i&&q i)=((bIN n).all p&&(bIN n).all q):=by
 induction n with
 | zero=>rfl
 | succ n ih =>
  simp only[List.range_succ,List.all_append,ih,List.all_cons,List.all_nil,bKL]
  cases (bIN n).all p<;>cases (bIN n).all q<;>cases p n<;>simp
theorem vK {α:Type} (l:List α) (p:α→Bool):(bIN l.length).all (fun i=>(l.map p).getD i false)=l.all p:=by
 refine Bool.eq_iff_iff.2 ?_
 rw[bJJ,bJJ]
 constructor
 ·intro h x hx
  obtain⟨i,hi,rfl⟩:=bKQ hx
  have:=h i (bKB.2 hi)
  simpa [bJG,hi] using this
 ·intro h i hi
  have hi:=bKB.1 hi
  simp[bJG,hi,h _ (bIR hi)]
theorem CA (ns:List (List UInt8)) (n:Nat) (hn:ns.length=n) (P:Nat→Bool):(bIN n).all (okL [] ns P)=(distinct ns&&(bIN n).all P):=by
 subst hn
 have:okL [] ns P=fun i=>(isName (ns.getD i [])&&!(ns.take i).contains (ns.getD i []))&&P i:=by
  funext i
  rfl
 rw[this,aLI]
 rfl
theorem bmY (base ns:List (List UInt8)) (P Q:Nat→Bool):((bIN base.length).all (okL [] base P)&&(bIN ns.length).all (okL base ns Q))=(distinct (base++ns)&&((bIN base.length).all P&&(bIN ns.length).all Q)):=by
 have e1:okL base ns Q=fun i=>(isName (ns.getD i [])&&!(base++ns.take i).contains (ns.getD i []))&&Q i:=by
  funext i
  rfl
 have e2:distinct (base++ns)=(distinct base&&(bIN ns.length).all fun i=>isName (ns.getD i [])&&!(base++ns.take i).contains (ns.getD i [])):=by
  unfold distinct
  rw[bIU,List.range_add,List.all_append,List.all_map]
  congr 1
  ·refine Bool.eq_iff_iff.2 ?_
   rw[bJJ,bJJ]
   refine forall_congr' fun i=>forall_congr' fun hi=>?_
   have hi:=bKB.1 hi
   have a1:(base++ns).getD i []=base.getD i []:=by
    simp only[bJG]
    rw[bLC hi]
   have a2:(base++ns).take i=base.take i:=by rw[List.take_append_of_le_length Om]
   rw[a1,a2]
  ·refine Bool.eq_iff_iff.2 ?_
   rw[bJJ,bJJ]
   refine forall_congr' fun i=>forall_congr' fun _=>?_
   have a1:(base++ns).getD (base.length+i) []=ns.getD i []:=by
    simp only[bJG]
    rw[bKT Om]
    congr 2
    omega
   have a2:(base++ns).take (base.length+i)=base++ns.take i:=by rw[List.take_append,bJD Om]; congr 2; omega
   simp only[Function.comp,a1,a2]
 rw[CA base base.length rfl P,e1,aLI,e2]
 cases distinct base<;>cases (bIN base.length).all P<;>simp
theorem bgD (r:bR):(decide (r.name=[])&&decide (r.level=0)&&decide (r.parent=-1)&&decide (r.bHI=0)&&cG r.bHA&&!cA r.bHA)=nS r:=by
 have h1:decide (r.name=[])=(r.name==[]):=by cases r.name<;>rfl
 have h2:decide (r.level=0)=(r.level==0):=by generalize r.level=x; by_cases h:x=0<;>simp[h]
 have h3:decide (r.parent=-1)=(r.parent==-1):=by generalize r.parent=x; by_cases h:x=-1<;>simp[h]
 have h4:decide (r.bHI=0)=(r.bHI==0):=by generalize r.bHI=x; by_cases h:x=0<;>simp[h]
 have h5:(cG r.bHA&&!cA r.bHA)=(cM (val r.bHA.num) (val r.bHA.den)&&(oR r.bHA==0)):=by
  rw[GX]
  by_cases h:val r.bHA.num=0
  ·have ha:cA r.bHA=false:=by unfold cA; simp[h]
   rw[ha]
   simp only[bJB,bKL]
   cases hv:cM (val r.bHA.num) (val r.bHA.den) with
   | false =>
    unfold cG mG
    rw[hv]
    rfl
   | true =>
    obtain⟨v1,-,-⟩:=eV.1 hv
    unfold cG mG
    rw[hv,if_pos rfl,VT hv,h]
    unfold kR
    have hb:val r.bHA.den/bIQ 0 (val r.bHA.den)=1:=by rw[Nat.gcd_zero_left,Nat.div_self (bKR v1)]
    have b0:cD (0/bIQ 0 (val r.bHA.den))=0:=by rw[Nat.zero_div]; exact gY
    have b1:cD 1=1:=by rw[mR (by decide),gY]
    simp only[hb,b0,b1]
    simp
  ·have ha:cA r.bHA=true:=by unfold cA; simp[h]
   rw[ha]
   simp
 unfold nS
 rw[h1,h2,h3,h4]
 simp only[bLJ] at h5 ⊢
 rw[h5]
theorem bdC (f:aL) {r:bR} {t:List bR} (h:f.bGL=r::t):xG f r t=(nS r&&(bIN t.length).all (tV f)):=by
 unfold xG
 rw[bgD]
 congr 2
 funext i
 unfold tV
 rw[h,List.getElem?_cons_succ]
 cases t[i]? with
 | none=>rfl
 | some d=>exact bkH f i d
theorem a3Z (f:aL):f.bGI.all (gD f)=(bIN f.bGI.length).all (rW f):=by
 have:rW f=fun i=>(f.bGI.map (gD f)).getD i false:=by
  funext i
  unfold rW
  rw[bJG,bJQ]
  cases f.bGI[i]? with
  | none=>rfl
  | some d =>
   show avS f d=gD f d
   unfold avS gD
   have:decide ((f.bGL.map bR.level).getD d.machine.toNat 0=4)=((f.bGL.map bR.level).getD d.machine.toNat 0==4):=by
    generalize (f.bGL.map bR.level).getD d.machine.toNat 0=u
    by_cases h:u=4<;>simp[h]
   rw[this,bLJ]
 rw[this,vK]
theorem a6T (f:aL):f.bGM.all (iD f.bGJ.length)=(bIN f.bGM.length).all (GM f):=by
 have:GM f=fun i=>(f.bGM.map (iD f.bGJ.length)).getD i false:=by
  funext i
  unfold GM
  rw[bJG,bJQ]
  cases f.bGM[i]? with
  | none=>rfl
  | some d=>exact (bnC _ d).symm
 rw[this,vK]
theorem bnI (f:aL):bgB f=dS f:=by
 have hm:aiJ f.bGR.length=iW f:=by
  funext m
  unfold aiJ iW
  rw[bLJ]
 have hvv:aHX f.bGM.length=mH f:=rfl
 have hs:(within f.bHW 1 4&&mY f.bGR.length f.bGJ.length f.bGL.length f.bGI.length f.bGM.length f.bGK.length)=lF f:=by
  unfold lF mY
  simp only[bLJ]
 unfold bgB dS FL vD acM atJ
 rw[CA _ _ (by rw[bIM]),CA _ _ (by rw[bIM]),CA _ _ (by rw[jL,bIM]),CA _ _ (by rw[bIM]),vK,vK,vK,hm,hvv,a6T,a3Z,← bLJ,hs]
 unfold mJ aZG
 cases hd:f.bGL with
 | nil=>simp
 | cons r t =>
  have hlen:decide (0<f.bGL.length)=true:=by rw[hd]; simp
  rw[hd] at hlen
  rw[hlen,bIY]
  simp only
  rw[bdC f hd]
  have hn:fL f=(f.bGL.drop 1).map bR.name:=rfl
  rw[hd] at hn
  have hl:(fL f).length=t.length:=by rw[hn]; simp
  have two:=bmY (fL f) (kD f) (tV f) (rW f)
  rw[hl,show (kD f).length=f.bGI.length by simp[kD]] at two
  have e1:tX f=(bIN t.length).all (okL [] (fL f) (tV f)):=by
   unfold tX
   rw[hd]
   rfl
  have e2:uS f=(bIN f.bGI.length).all (okL (fL f) (kD f) (rW f)):=rfl
  rw[e1,e2,← hn]
  rw[show f.bGI.map cC.name=kD f from rfl,show f.bGM.map cY.name=jL f from rfl]
  generalize (bIN t.length).all (okL [] (fL f) (tV f))=a at *
  generalize (bIN f.bGI.length).all (okL (fL f) (kD f) (rW f))=b at *
  generalize distinct (fL f++kD f)=c at *
  generalize (bIN t.length).all (tV f)=d at *
  generalize (bIN f.bGI.length).all (rW f)=e at *
  generalize lF f=s
  generalize nS r=ro
  generalize distinct (f.bGR.map cI.name)=n1
  generalize f.bGR.all jX=n2
  generalize distinct (f.bGJ.map cS.name)=n3
  generalize f.bGJ.all (iW f)=n4
  generalize distinct (jL f)=n5
  generalize (bIN f.bGM.length).all (GM f)=n6
  generalize distinct (f.bGK.map dZ.name)=n7
  generalize f.bGK.all (mH f)=n8
  have:(s&&(((((((n1&&n2)&&(n3&&n4))&&ro)&&a)&&b)&&(n5&&n6))&&(n7&&n8)))=(s&&(ro&&((n1&&n2)&&((n3&&n4)&&((a&&b)&&((n5&&n6)&&(n7&&n8))))))):=by
   cases s<;>cases ro<;>cases n1<;>cases n2<;>cases n3<;>cases n4<;>simp[bLJ]
  rw[this,two]
  cases s<;>cases ro<;>cases n1<;>cases n2<;>cases n3<;>cases n4<;>cases c<;>cases d<;>cases e<;>simp
  cases n5<;>cases n6<;>cases n7<;>cases n8<;>rfl
theorem bgC (f:aL) (h:0<f.bGL.length):aZG f=nS f.bGL[0]:=by
 obtain⟨a,b,c,d,e,g,i⟩:=f
 cases d with
 | nil=>simp at h
 | cons r t=>rfl
theorem bcA {C:Ctx} (L:ahJ C) (f:aL) (hf:f.Ok):BF.wp C (aU QA.res (aE (.bool (dS f)))) (PF.args [.agg f.cells]) .nil:=by
 have hX:=bnI f
 unfold bgB at hX
 have fail:∀ (F:PF) (H:PH),dS f=false→F 2=some (.bool false)→aU [.tmp 2] (aE (.bool (dS f))) .ret F H:=fun F H e h=>by
  rw[e]
  exact aW (vs:=[.bool false]) (.inr rfl) .nil (by simp only[go_sem,h]) PH.nil_le ⟨rfl,rfl⟩
 simp only[go_sem,δ,γ,θ,BF,asH,asI,QA]
 refine aA (L.inn f.bHW 1 4) rfl ?_
 cases k0:within f.bHW 1 4 with
 | false =>
  rw[k0,bIS] at hX
  simp only[go_sem,γ,bJB,yP]
  exact fail _ _ hX.symm rfl
 | true =>
 rw[k0,bIY] at hX
 simp only[go_sem,δ,γ,θ,bIV,bIM]
 refine aA (L.sizes f.bGR.length f.bGJ.length f.bGL.length f.bGI.length f.bGM.length f.bGK.length) rfl ?_
 cases k1:mY f.bGR.length f.bGJ.length f.bGL.length f.bGI.length f.bGM.length f.bGK.length with
 | false =>
  rw[k1,bIS] at hX
  simp only[go_sem,γ,reduceCtorEq,bJB,yP]
  exact fail _ _ hX.symm rfl
 | true =>
 rw[k1,bIY] at hX
 obtain⟨hz1,hz2,hz3,hz4,hz5,hz6⟩:=NY k1
 by_cases h0:f.bGL.length=0
 ·rw[decide_eq_false Om,bIS] at hX
  simp only[go_sem,δ,γ,θ,reduceCtorEq,bIV,bIM,bS (Om:((f.bGL.length:Nat):Int)=0),yP]
  exact fail _ _ hX.symm rfl
 have h00:0<f.bGL.length:=by omega
 rw[decide_eq_true h00,bIY] at hX
 simp only[go_sem,δ,γ,θ,reduceCtorEq,bIV,bIM,bF (Om:((f.bGL.length:Nat):Int)≠0),asJ,asK,asL]
 refine bpF L.topE f hf hz1 _ _ _ Lq fun H1=>?_
 simp only[go_sem,agI]
 refine bbZ L.topE f hf k1 (FL f) _ _ _ Lq fun H2=>?_
 have hd0:=tW h00
 have hsh:=(hf.dom _ (bIR h00)).1
 have hrp:=bgC f h00
 rw[hrp] at hX
 generalize f.bGL[0]=r at *
 have rest:∀ (c:Bool) (F:PF) (H:PH),((((((PF.nil.set 1 (.bJ f.cells)).set 5 (.aB)).set 6 (.aB)).set 7 (.aB)).set 8 (.bool c)):PF).le F→c=((FL f&&vD f)&&nS r) →
   aC.wp C (.seq (.seq (.region IP) (.block 4 (.loop uL))) (.seq (.seq (.region IR) (.block 6 (.loop uM))) (.seq (.seq (.region IT) (.block 8 (.loop uO))) (.seq (.seq (.region IY) (.block 14 (.loop uP))) (.seq (.region JB) .ret))))) (aU [.tmp 2] (aE (.bool (dS f)))) F H:=by
  intro c F H hF hc
  refine sI _ (fun _ _ _ _ a b=>Up.up a b) hF ?_
  simp only[go_sem,IP]
  refine bpE L.topE f hf hz3 h00 c _ _ _ Lq fun w H3 hG=>?_
  simp only[go_sem,IR]
  refine bbY L.topE f hf hz3 h00 hz4 hz2 (c&&tX f) w _ _ _ hG Lq fun H4=>?_
  simp only[go_sem,IT]
  refine bpG L f hf hz5 hz2 ((c&&tX f)&&uS f) _ _ _ Lq fun H5=>?_
  simp only[go_sem,IY]
  refine bpH L.topE f hf k1 (((c&&tX f)&&uS f)&&acM f) _ _ _ Lq fun H6=>?_
  simp only[go_sem,γ,JB]
  refine aW (vs:=[.bool (dS f)]) (.inr rfl) .nil ?_ PH.nil_le ⟨rfl,rfl⟩
  rw[← hX,hc]
  simp only[go_sem,γ]
 simp only[aC.wp,go_sem] at rest
 simp only[go_sem,ν,δ,γ,θ,agM,hd0]
 refine aQ fun o ho=>?_
 have g0:(H2.set o (.rows 7 [r.cells])) o=some (.rows 7 [r.cells]):=dM ..
 simp only[go_sem,δ,γ]
 generalize H2.set o (.rows 7 [r.cells])=H3 at *
 cases k2:(FL f&&vD f) with
 | false =>
  simp only[go_sem,ο,γ,reduceCtorEq,IN]
  exact rest false _ _ Lq (by rw[k2]; rfl)
 | true =>
  simp only[go_sem,ο,δ,γ,θ,IN,g0]
  cases k3:r.name==[] with
  | false =>
   simp only[go_sem,ο,γ,reduceCtorEq]
   exact rest false _ _ Lq (by rw[k2]; unfold nS; rw[k3]; rfl)
  | true =>
   simp only[go_sem,ο,δ,γ,θ,g0]
   cases k4:r.level==0 with
   | false =>
    simp only[go_sem,ο,γ,reduceCtorEq]
    exact rest false _ _ Lq (by rw[k2]; unfold nS; rw[k3,k4]; rfl)
   | true =>
    simp only[go_sem,ο,δ,γ,θ,g0]
    cases k5:r.parent==-1 with
    | false =>
     simp only[go_sem,γ,reduceCtorEq]
     exact rest false _ _ Lq (by rw[k2]; unfold nS; rw[k3,k4,k5]; rfl)
    | true =>
     simp only[go_sem,δ,γ,θ,g0]
     cases k6:r.bHI==0 with
     | false =>
      simp only[go_sem,γ,reduceCtorEq]
      exact rest false _ _ Lq (by rw[k2]; unfold nS; rw[k3,k4,k5,k6]; rfl)
     | true =>
      simp only[go_sem,δ,γ,g0]
      refine aA (L.valid _ hsh) rfl ?_
      cases k7:cM (val r.bHA.num) (val r.bHA.den) with
      | false =>
       simp only[go_sem,γ,reduceCtorEq]
       exact rest false _ _ Lq (by rw[k2]; unfold nS; rw[k3,k4,k5,k6,k7]; rfl)
      | true =>
       simp only[go_sem,δ,γ,g0]
       refine aA (L.sign _ hsh k7) rfl ?_
       simp only[go_sem,γ]
       exact rest _ _ _ Lq (by rw[k2]; unfold nS; rw[k3,k4,k5,k6,k7]; rfl)
structure cJ (C:Ctx):Prop where
 r24:aN C 24 BV
 r26:aN C 26 YB
 r30:aN C 30 aFP
 r31:aN C 31 adR
 r32:aN C 32 aGB
 r33:aN C 33 udiv
 r34:aN C 34 aGQ
 r35:aN C 35 aeA
 r36:aN C 36 aGT
 r37:aN C 37 aHB
 r38:aN C 38 aeI
 r39:aN C 39 CK
 r40:aN C 40 adZ
 r41:aN C 41 ON
 r42:aN C 42 OO
 r43:aN C 43 aeD
 r44:aN C 44 OY
 r45:aN C 45 uup
 r46:aN C 46 ajU
 r47:aN C 47 aHQ
 r48:aN C 48 PE
 r49:aN C 49 aeL
 r50:aN C 50 RI
 r51:aN C 51 PG
 r52:aN C 52 CO
 r53:aN C 53 aeW
 r54:aN C 54 aeX
 r55:aN C 55 aIK
 r56:aN C 56 PK
 r57:aN C 57 aeJ
 r58:aN C 58 CM
 r59:aN C 59 aeY
 r60:aN C 60 PJ
 r61:aN C 61 uF
 r62:aN C 62 CQ
 r63:aN C 63 PO
 r64:aN C 64 CP
 r65:aN C 65 CR
 r66:aN C 66 aJG
 r67:aN C 67 QA
 r68:aN C 68 aIT
 r69:aN C 69 aIR
 r70:aN C 70 PS
 r71:aN C 71 PT
 r72:aN C 72 xC
 r73:aN C 73 PY
 r74:aN C 74 PZ
 r75:aN C 75 CS
 r76:aN C 76 vI
 r82:aN C 82 acV
 r85:aN C 85 acW
 r86:aN C 86 CI
 r89:aN C 89 aEK
 r91:aN C 91 same
 r95:aN C 95 axW
 r96:aN C 96 ayR
 r97:aN C 97 KW
 r98:aN C 98 aaP
 r99:aN C 99 aaQ
 r100:aN C 100 aaR
 r101:aN C 101 gone
 r102:aN C 102 aaS
 r103:aN C 103 KX
 r104:aN C 104 gin
 r105:aN C 105 axY
 r106:aN C 106 axZ
 r107:aN C 107 aaV
 r108:aN C 108 aaW
 r109:aN C 109 LH
 r110:aN C 110 aaX
 r111:aN C 111 ahW
 r112:aN C 112 ayC
 r113:aN C 113 KK
 r114:aN C 114 avW
 r115:aN C 115 QN
 r116:aN C 116 uU
 r117:aN C 117 UW
 r118:aN C 118 KV
 r119:aN C 119 avT
 r120:aN C 120 nF
 r121:aN C 121 KU
 r122:aN C 122 aaO
 r123:aN C 123 QV
 r124:aN C 124 BT
 r125:aN C 125 BU
 r126:aN C 126 vC
 r127:aN C 127 aAV
 r128:aN C 128 abS
 r129:aN C 129 aBL
 r130:aN C 130 aBR
 r131:aN C 131 aBW
 r132:aN C 132 acE
 r133:aN C 133 aCB
 r134:aN C 134 aCK
 r135:aN C 135 acI
 r136:aN C 136 BZ
 r137:aN C 137 MF
 r138:aN C 138 rL
 r139:aN C 139 wH
 r140:aN C 140 MJ
 r141:aN C 141 MK
 r142:aN C 142 sU
 r143:aN C 143 nup
 r144:aN C 144 PM.begin
 r145:aN C 145 PM.step
 r146:aN C 146 aGV
 r153:aN C 153 CJ
 r156:aN C 156 yC
 r160:aN C 160 wP
 r161:aN C 161 OG
 r240:aN C 240 EE
 r241:aN C 241 ZI
 r242:aN C 242 ZU
 r243:aN C 243 auV
 r244:aN C 244 JY
 r245:aN C 245 yC
 r246:aN C 246 BN
 r247:aN C 247 NO
 r248:aN C 248 KC
 r249:aN C 249 ZT
 r250:aN C 250 CC
 r251:aN C 251 acL
 r252:aN C 252 aYM
 r253:aN C 253 ajD
 r254:aN C 254 NO
 r255:aN C 255 aYS
 r257:aN C 257 qk
 r258:aN C 258 QD
 r260:aN C 260 sX
 r261:aN C 261 NI
 r262:aN C 262 PN
 r263:aN C 263 PP
 r264:aN C 264 aIN
 r265:aN C 265 aIP
 r266:aN C 266 a0C
 r267:aN C 267 aIM
 r268:aN C 268 aHK
 r269:aN C 269 aIB
 r270:aN C 270 aZI
 r272:aN C 272 VU
 r277:aN C 277 ND
theorem uD {C:Ctx} (c:cJ C):oP C :=
 have len:∀ xs,Lim xs→xs.length≤35184372087808→aD C 138 [aF xs] .nil (aE (.int .i64 (nl (val xs):Nat))):=fun xs h l=>c.r138.go (aYH xs h l) rfl
 {length:=len
  large:=fun xs h l=>c.r137.go (a5Q xs (len xs h l)) rfl
  sized:=fun xs h l=>(c.r141.go (a5V xs h (len xs h l)) rfl).seen
  trim:=fun xs h l=>(c.r135.go (bfB xs h l (len xs h l)) rfl).seen
  make:=fun v h=>c.r132.go (beY v h len) rfl
  cmp:=fun xs ys hx hy lx ly=>c.r129.go (bmM xs ys hx hy lx ly (len xs hx lx) (len ys hy ly)) rfl }
theorem buI {C:Ctx} (c:cJ C):asZ C :=
 {subtract:=fun A W Z v f o hW hv hl h1 hf bHX=>c.r142.go (aCQ A W Z v f hW hv hl h1 hf bHX o) rfl
  restore:=fun A W Z v o hW hv hl h1=>c.r139.go (aKL A W Z v hW hv hl h1 o) rfl }
theorem beU {C:Ctx} (c:cJ C):atO C :=
 {L:=uD c
  D:=buI c
  up:=fun a s ha hs h1=>c.r143.go (bqX a s ha hs h1) rfl
  short:=fun a d ha h0 hd h1=>c.r140.go (a5T (uD c) a d ha h0 hd h1) rfl
  lengthO:=fun xs o hx hl=>c.r138.go (aKJ xs hx hl o) rfl }
theorem aAU {C:Ctx} (c:cJ C) (A B:Nat) (hB:B≠0) (hA:nl A≤900) (hBl:nl B≤900):aD C 136 [aF (aG A),aF (aG B)] .nil (aE (oA A B)) :=
 (c.r136.go (aYD (beU c) A B hB hA hBl) rfl).seen
theorem wF {C:Ctx} (c:cJ C):pZ C :=
 {uD c with
  bits:=fun xs h l=>c.r128.go (beV xs h l ((uD c).length xs h l)) rfl
  add:=fun xs ys hx hy lx ly=>(c.r127.go (bmJ (uD c) xs ys hx hy lx ly) rfl).seen
  sub:=fun xs ys hx hy lx ly=>(c.r134.go (bmV (uD c) xs ys hx hy lx ly) rfl).seen
  mul:=fun xs ys hx hy lx ly=>(c.r133.go (bmT (uD c) xs ys hx hy lx ly) rfl).seen
  gcd:=fun xs ys hx hy lx ly=>(c.r131.go (bmR (uD c) (aAU c) xs ys hx hy lx ly) rfl).seen
  div:=fun xs ys hx hy lx ly=>(c.r130.go (bmO (uD c) (aAU c) xs ys hx hy lx ly) rfl).seen }
theorem QO {C:Ctx} (c:cJ C):CU C :=
 {wF c with
  times:=fun a b ha hb la lb na nb=>c.r121.go (a4J (wF c) a b ha hb la lb na nb) rfl
  zero:=fun neg a b ha la=>c.r122.go (bdJ (wF c) neg a b ha la) rfl
  valid:=fun neg a b ha hb la lb=>c.r118.go (a4L (wF c) neg a b ha hb la lb) rfl
  abs:=fun v h1 h2=>c.r119.go (bkK (wF c) v h1 h2) rfl
  lowest:=fun neg a b ha hb la lb na nb h0=>(c.r120.go (aWU (wF c) neg a b ha hb la lb na nb h0) rfl).seen }
theorem a4I {C:Ctx} (c:cJ C) (x y:RF) (hx:x.Ok) (hy:y.Ok):aD C 113 [.agg x.cells,.agg y.cells] .nil (aE (frV (gJ x.v y.v))) :=
 (c.r113.go (bkM (QO c) x.neg y.neg x.num x.den y.num y.den hx.1 hx.2.1 hy.1 hy.2.1 hx.2.2.1 hx.2.2.2 hy.2.2.1 hy.2.2.2) rfl).seen
theorem aWW {C:Ctx} (c:cJ C):asY C :=
 {QO c with
  frac:=fun n d hn hd=>(c.r115.go (bdH (QO c) n d hn.1 hn.2 hd.1 hd.2) rfl).seen
  red:=fun x hx=>by
   rw[← aYZ]
   exact (c.r116.go (aWX (QO c) x.neg x.num x.den hx.1 hx.2.1 hx.2.2.1 hx.2.2.2) rfl).seen
  ord:=fun x y hx hy=>(c.r114.go (bkO (QO c) x.neg y.neg x.num x.den y.num y.den hx.1 hx.2.1 hy.1 hy.2.1 hx.2.2.1 hx.2.2.2 hy.2.2.1 hy.2.2.2) rfl).seen
  plus:=a4I c
  tot:=fun l hl=>(c.r117.go (bkU (QO c) (a4I c) l hl.all hl.fits) rfl).seen }
theorem QL {C:Ctx} (c:cJ C):pY C :=
 have inn:∀ n lo hi:Int,aD C 104 [.int .i64 n,.int .i64 lo,.int .i64 hi] .nil (aE (.bool (within n lo hi))):=fun n lo hi=>(c.r104.go (bpY n lo hi) rfl).seen
 have tO:∀ x:RF,x.Ok→aD C 97 [.agg x.cells] .nil (aE (.bool (cA x))):=fun x hx=>(c.r97.go (a4N (wF c) x hx) rfl).seen
 have lim:∀ x:RF,x.Ok→aD C 105 [.agg x.cells] .nil (aE (.bool (cG x))):=fun x hx=>(c.r105.go (blA (aWW c) x hx) rfl).seen
 have letter:∀ n:Nat,aD C 126 [.int .u8 n] .nil (aE (.bool (eR n))):=fun n=>c.r126.go (aXS n) rfl
 have digit:∀ n:Nat,aD C 124 [.int .u8 n] .nil (aE (.bool (kK n))):=fun n=>c.r124.go (a5A n) rfl
 {aWW c with
  inn:=inn
  tO:=tO
  lim:=lim
  one:=fun x hx=>(c.r101.go (blE (aWW c) x hx) rfl).seen
  allf:=fun p fn l hl h=>(c.r99.go (bdN p fn l hl h) rfl).seen
  alli:=fun p fn l hl h=>(c.r100.go (bdP p fn l hl h) rfl).seen
  allb:=fun p fn l hl h=>(c.r98.go (bdL p fn l hl h) rfl).seen
  ends1:=fun b=>(c.r103.go (a4P b) rfl).seen
  num1:=fun n=>(c.r107.go (bdU inn n) rfl).seen
  rate1:=fun x hx=>(c.r109.go (a4S lim tO x hx) rfl).seen
  name:=fun s=>c.r123.go (beP letter (fun n=>c.r125.go (a5I letter digit n) rfl) s) rfl }
theorem a4G {C:Ctx} (c:cJ C):atM C :=
 {QL c with
  num:=fun p hp=>(c.r106.go (blC (QL c) p hp) rfl).seen
  rate:=fun p hp=>(c.r108.go (bdW (QL c) p hp) rfl).seen
  uniq:=fun l hl=>(c.r110.go (bdZ (QL c) l hl) rfl).seen }
theorem a4H {C:Ctx} (c:cJ C):XS C :=
 {a4G c with
  ends:=fun l hl he=>(c.r102.go (bdS (QL c) l hl he) rfl).seen }
theorem bpW {C:Ctx} (c:cJ C):jF C :=
 {a4H c with
  law:=fun l hl=>(c.r95.go (bkY (a4H c) l hl) rfl).seen
  pol:=fun p n hp hn=>(c.r112.go (blG (a4G c) p hp n hn) rfl).seen
  bGT:=fun f hf=>(c.r111.go (bkW (QL c) f hf) rfl).seen }
theorem aMQ {C:Ctx} (c:cJ C) (f:aL) (hf:f.Ok):aD C 96 [.agg f.cells] .nil (aE (.int .i64 (wR f))):=(c.r96.go (blI (bpW c) f hf) rfl).seen
theorem sD {C:Ctx} (c:cJ C):nC C:={ trimM:=fun xs h l=>c.r38.go (bhP xs h l) rfl }
theorem a7D {C:Ctx} (c:cJ C):atP C :=
 {sD c with
  make:=fun v h=>(c.r35.go (bhH (sD c) v h) rfl).seen
  large:=fun xs h l=>(c.r41.go (a8G (sD c) xs h l) rfl).seen
  cmp:=fun xs ys hx hy lx ly=>c.r32.go (boA (sD c) xs ys hx hy lx ly) rfl }
theorem a7F {C:Ctx} (c:cJ C):atS C :=
 {a7D c with
  minus:=fun a b ha hb hle hl h1=>(c.r42.go (a8I (sD c) a b ha hb hle hl h1) rfl).seen
  times:=fun a b ha hb h1 h2=>(c.r44.go (a8K (sD c) a b ha hb h1 h2) rfl).seen }
theorem aDX {C:Ctx} (c:cJ C):XY C :=
 {a7F c with
  plus:=fun a b ha hb h1 h2=>(c.r43.go (bhN (sD c) a b ha hb h1 h2) rfl).seen }
theorem brC {C:Ctx} (c:cJ C):JO C :=
 {aDX c with
  bits:=fun xs h l=>c.r31.go (bhB (sD c) xs h l) rfl
  upM:=fun a n ha h1 hn h0=>c.r45.go (brR (sD c) a n ha h1 hn h0) rfl
  down:=fun a n ha h1 hn=>(c.r40.go (bhF (sD c) a n ha h1 hn) rfl).seen }
theorem aDV {C:Ctx} (c:cJ C):XW C :=
 {a7D c with
  divide:=fun A B hB hA hBl=>(c.r39.go (aZX (brC c) A B hB hA hBl) rfl).seen }
theorem a7E {C:Ctx} (c:cJ C):atQ C :=
 {aDV c with
  gcd:=fun a b ha hb la lb=>(c.r34.go (boE (aDV c) a b ha hb la lb) rfl).seen
  div:=fun a b ha hb la lb=>(c.r33.go (boC (aDV c) a b ha hb la lb) rfl).seen }
theorem bjI {C:Ctx} (c:cJ C):aVL C :=
 {a7E c with
  lowest:=fun neg a b ha hb la lb na nb h0=>(c.r58.go (a0U (a7E c) neg a b ha hb la lb na nb h0) rfl).seen
  size:=fun v hv=>c.r59.go (biO v hv.1 hv.2) rfl }
theorem aDW {C:Ctx} (c:cJ C):atR C :=
 {bjI c with
  fmk:=fun n d hn hd=>(c.r50.go (biI (bjI c) n d hn hd) rfl).seen }
theorem aYX {C:Ctx} (c:cJ C):atA C :=
 {aDW c with
  int:=fun n hn=>(c.r47.go (boR (aDW c) n hn) rfl).seen
  mul:=fun a b ha hb la lb=>(c.r36.go (boG (a7F c) a b ha hb la lb) rfl).seen
  add:=fun a b ha hb la lb=>(c.r30.go (bnY (aDX c) a b ha hb la lb) rfl).seen
  sub:=fun a b ha hb la lb=>(c.r37.go (boN (aDX c) a b ha hb la lb) rfl).seen }
theorem aDY {C:Ctx} (c:cJ C):XZ C :=
 {aYX c with
  valid:=fun x hx=>c.r56.go (a9Z (aYX c) x.neg x.num x.den hx.1 hx.2.1 hx.2.2.1 hx.2.2.2) rfl
  big:=fun x=>c.r48.go (a9I x.1 (aG x.2.1) (aG x.2.2)) rfl }
theorem a7G {C:Ctx} (c:cJ C):atT C :=
 {aDY c with
  fits:=fun x=>(c.r57.go (biD (aDY c) x) rfl).seen
  red:=fun x hx=>(c.r52.go (a0W (aDY c) x hx) rfl).seen
  prod:=fun a b ha hb la lb na nb=>c.r60.go (a9X (aYX c) a b ha hb la lb na nb) rfl }
theorem NM {C:Ctx} (c:cJ C):vJ C :=
 {a7G c with
  order:=fun x y hx hy vx vy=>c.r51.go (a9K (a7G c) x y hx hy vx vy) rfl }
theorem bjJ {C:Ctx} (c:cJ C):aVM C :=
 {NM c with
  less:=fun x y hx hy vx vy=>c.r49.go (biG (NM c) x y hx hy vx vy) rfl
  same:=fun x y hx hy vx vy=>c.r53.go (biK (NM c) x y hx hy vx vy) rfl
  sign:=fun x hx vx=>c.r54.go (biM (NM c) x hx vx) rfl
  plus:=fun x y hx hy=>(c.r46.go (boP (NM c) x y hx hy) rfl).seen }
theorem aDU {C:Ctx} (c:cJ C):XV C :=
 {bjJ c with
  sum:=fun l hl hf=>(c.r55.go (boU (bjJ c) l hl hf) rfl).seen
  inn:=fun n lo hi=>c.r76.go (a3C n lo hi) rfl
  code:=fun k m=>c.r61.go (bgQ k m) rfl }
theorem aQO {C:Ctx} (c:cJ C):ahF C :=
 {aDU c with
  small:=fun x hx=>c.r74.go (bbW (aDU c) x hx) rfl
  nums:=fun k m q s0 s1 s2 s3 s4=>c.r72.go (aLF (aDU c) k m q s0 s1 s2 s3 s4) rfl
  sizes:=fun x1 x2 x3 x4 x5 x6=>c.r73.go (bbU x1 x2 x3 x4 x5 x6) rfl }
theorem aQP {C:Ctx} (c:cJ C):ahG C :=
 {aQO c with
  smalls:=fun l hl n=>c.r75.go (a3A (aQO c) l hl n) rfl }
theorem aQQ {C:Ctx} (c:cJ C):ahH C :=
 {aQP c with
  reps:=fun l hl m=>c.r66.go (bpC (aQP c) l hl m) rfl }
theorem aQR {C:Ctx} (c:cJ C):ahI C :=
 have letter:∀ n:Nat,aD C 65 [.int .u8 n] .nil (aE (.bool (eR n))):=fun n=>c.r65.go (a2M n) rfl
 have digit:∀ n:Nat,aD C 63 [.int .u8 n] .nil (aE (.bool (kK n))):=fun n=>c.r63.go (baZ n) rfl
 {aQQ c with
  name:=fun s=>c.r62.go (a2K letter (fun n=>c.r64.go (a2I letter digit n) rfl) s) rfl
  index:=fun l hl s=>c.r71.go (bbR l hl s) rfl }
theorem aQS {C:Ctx} (c:cJ C):nB C :=
 {aQR c with
  fresh:=fun l hl s w H hH=>c.r70.go (bbP (aQR c) l hl s w H hH) rfl }
theorem bnF {C:Ctx} (c:cJ C):pE C :=
 {aQS c with
  law:=fun l hl=>c.r68.go (bpA (aQS c) l hl) rfl }
theorem bnG {C:Ctx} (c:cJ C):ahJ C :=
 {bnF c with
  dur:=fun m rep hr t h ht hh=>c.r69.go (boY (aQQ c) m rep hr t h ht hh) rfl }
theorem ajH {C:Ctx} (c:cJ C) (f:aL) (hf:f.Ok):aD C 67 [.agg f.cells] .nil (aE (.bool (dS f))):=c.r67.go (bcA (bnG c) f hf) rfl
theorem brG {C:Ctx} (c:cJ C) (f:aL) (l:List (List Int)) (hf:f.Ok) (hl:jH l):aD C 153 [.agg f.cells,lay l] .nil (aE (.bool (jC f l))) :=
 (c.r153.go (aKV ⟨fun f hf=>(c.r161.go (a8C (aMQ c) f hf) rfl).seen,fun f l v hV hl hv hvf=>(c.r160.go (aZU ⟨fun f v hv h=>(c.r156.go (aFJ f hv v h) rfl).seen⟩ f hV l hl v hv hvf) rfl).seen⟩ f hf l hl) rfl).seen
theorem brF {C:Ctx} (c:cJ C):a3G C :=
 {val:=aMQ c
  valid:=ajH c
  shaped:=brG c
  rshaped:=fun f l hf hl=>c.r86.go (aKT ⟨ajH c,fun f v hv h=>(c.r82.go (bgS f hv v h) rfl).seen,fun f row hl=>c.r89.go (bnO f row hl) rfl⟩ f hf l hl) rfl }
theorem aZD {C:Ctx} (c:cJ C) (l:List Int) (x:Int) (h:l.length≤1000000000000000):aD C 260 [ints l,.int .i64 x] .nil (aE (.bool (l.contains x))):=c.r260.go (aDC l x (c.r261.go (a6R l h x) rfl)) rfl
theorem aZE {C:Ctx} (c:cJ C):CV C :=
 {fmk:=(aDW c).fmk
  next:=fun l T o n a hn ha=>c.r240.go (bdA l T.1 T.2 o n a hn ha) rfl }
theorem bjK {C:Ctx} (c:cJ C):oF C :=
 {aZE c with
  frac:=fun n d h1 h2 h0=>c.r241.go (bcR (aZE c) n d h1 h2 h0) rfl
  name:=fun ch n hn=>c.r242.go (bcY ch n hn) rfl }
theorem buP {C:Ctx} (c:cJ C):BG C :=
 {bjK c with
  dom:=fun o7 ext w1 w2 wd w4 w5 w6 ds hds lev par up H0 hH=>c.r243.go (bkA (bjK c) o7 ext w1 w2 wd w4 w5 w6 ds hds lev par up H0 hH) rfl }
theorem bjL {C:Ctx} (c:cJ C):BH C :=
 {aZE c with
  size:=fun f v hV h=>(c.r245.go (aFJ f hV v h) rfl).seen
  has:=fun l x h=>c.r247.go (bnJ l h x) rfl }
theorem buQ {C:Ctx} (c:cJ C):a3F C :=
 {aZE c with
  fleet:=fun l T o vols a hv ha=>exactly (c.r244.go (a3T (buP c) T o vols a hv ha) rfl)
  layout:=fun l T o a f ha hF hV h1=>exactly (c.r246.go (aWK (bjL c) T o a ha f hF hV h1) rfl)
  rooms:=fun l T o a f ha hf hv h1=>exactly (c.r248.go (a3X (bjL c) T o a ha f hv h1 (c.r85.go (aEU ⟨ajH c⟩ f hf []) rfl)) rfl) }
theorem aZC {C:Ctx} (c:cJ C) (s:uQ C):biV C :=
 {begin:=fun n=>c.r144.go (bcF n) rfl
  step:=fun n p w e=>c.r145.go (bnW n p w e) rfl
  same:=fun xs ys h=>c.r91.go (bnM xs ys h) rfl
  upd:=fun ws p w h1 h2=>(c.r146.go (boK s ws h1 h2 p w) rfl).brL }
theorem bjM {C:Ctx} (c:cJ C):aVN C 250 251 :=
 {usable:=fun f now r hf hl=>c.r250.go (aYQ (brF c) f hf now hl r) rfl
  fits:=fun f now r down hu hl hd=>by
   obtain⟨h1,h2,h3,h4⟩:=OW hu
   exact c.r251.go (bfK ⟨aZD c⟩ f (VF.of h1) now hl h2 r h3 h4 down hd) rfl }
theorem bnK {C:Ctx} (c:cJ C) (f:aL) (now:List (List Int)) (r:Int) (hf:f.Ok) (hl:jH now):aD C 262 [.agg f.cells,lay now,.int .i64 r] .nil (aE (.int .i64 (oC f now r))):=c.r262.go (baX (bjM c) f hf now hl r) rfl
theorem bnL {C:Ctx} (c:cJ C) (f:aL) (now:List (List Int)) (r:Int) (hf:f.Ok) (hl:jH now):aD C 263 [.agg f.cells,lay now,.int .i64 r] .nil (aE (wvT f now r)) :=
 (aD.beX (c.r263.go (bbN { bjM c with check:=bnK c,clone:=fun H q rs l h1 h2 h3 h4=>c.r277.go (a6N H q rs l h1 h2 h3 h4) rfl } f hf now hl r) rfl)).seen
theorem brK {C:Ctx} (c:cJ C) (s:uQ C):a3H C :=
 {within:=fun x n hn=>c.r24.go (aXU x n hn) rfl
  awak:=c.r26.go (a3J (aZC c s)) rfl
  made:=fun l T=>c.r249.go (bcW (buQ c) T) rfl }
theorem a7L {C:Ctx} (c:cJ C) (s:uQ C) (r:aN C 274 abF) (l:List Int) (T:TpM l) (n m:Int):aD C 274 [ints l,.int .i64 n,.int .i64 m] .nil (aE (.bool true)) :=
 r.go (beL { brK c s with waves:=bnL c,begin:=(aZC c s).begin,step:=(aZC c s).step,upd:=(aZC c s).upd } l T n m) rfl
end Go.PM
