/-
  Texts of ours, joined: ToW4 ToW5 ToW6 ToW7 ToW8 ToW9 ToW10 MkCode MkW1 Pm35 Pm36 MkW2 MkW3 MkW4 MkW5 MkW6 MkW7 MkW8 MkW9 MkW10 MkW11 MkW12 MkW13 MkW14 MkW15 MkW16 L11W1 R2Code R2W1 R2W2. No condition.
-/
import Derived.Test.YtelckcmlobadkaaGreatDoorJ1
import Derived.Test.YtelckcmlobadkaaGreatDoorJ2
import Derived.Test.YtelckcmlobadkaaGreatDoorJ3

set_option linter.unusedSimpArgs false
set_option linter.unusedVariables false
open Nat renaming reduceEqDiff → γ, reduceAdd → δ, reduceSub → ε, reduceMul → ζ, reduceLT → η, reduceLeDiff → θ, reduceBEq → τ
open Int renaming reduceLT → ι, reduceLE → κ, reduceEq → μ, reduceToNat → ν, reduceAdd → ξ, reduceNeg → ο, reduceBEq → ρ, reduceBNe → σ
open List renaming reduceReplicate → υ
open List renaming length_map → baF, replicate → baH, length_append → baI, length_singleton → baL, getElem_mem → baN, mem_cons → baP, getElem?_eq_getElem → baQ, take_of_length_le → baS, length_take → baV, range → baW, not_mem_nil → baY, drop_zero → bbG, getD_eq_getElem?_getD → bbI, append_assoc → bbJ, map_cons → bbK, mem_map → bbL, getElem?_eq_none → bbO, take_length → bbP, all_eq_true → bbQ, getElem?_eq_some_iff → bbR, getElem?_map → bbU, getElem_map → bbW, getElem_of_mem → bbX, append_nil → bbY, length_drop → bbZ, map_append → bcA, drop_eq_getElem_cons → bcD, mem_append → bcE, mem_range → bcF, Sublist → bcK, length_nil → bcL, map_nil → bcM, length_cons → bcN, take_succ_eq_append_getElem → bcO, mem_of_getElem? → bcS, take_append_drop → bcT, nodup_append → bcU, ext_getElem → bcZ, getElem?_append_left → bdA, length_set → bdB, getElem?_append_right → bdE, getElem?_take → bdF, set_append_right → bdG, drop_of_length_le → bdL
open Nat renaming gcd → baG, le_refl → baJ, mul_add → baO, zero_le → baR, lt_or_ge → baU, mul_assoc → baX, mul_comm → bbA, add_mul → bbD, mul_le_mul_right → bbE, zero_add → bbF, mod_eq_of_lt → bbH, mod_lt → bbM, pow_succ → bbS, eq_zero_or_pos → bcB, min_eq_left → bcC, add_assoc → bcG, add_zero → bcH, mul_le_mul_left → bcI, le_trans → bcP, pos_of_ne_zero → bcQ, pow_pos → bcR, div_lt_iff_lt_mul → bcV, div_le_self → bdC, div_add_mod → bdH, div_eq_of_lt → bdI
open Option renaming map_eq_some_iff → baK, map_some → bbN, some → bcJ, getD_some → bcX, bind_eq_some_iff → bdJ, bind_some → bdM
open Bool renaming not_true → baM, false_and → baT, not_false → baZ, and_eq_true → bbB, true_and → bbC, and_false → bbV, and_true → bcY
open Array renaming replicate → bbT, length_toList → bcW, getElem?_eq_getElem → bdK, getElem?_eq_some_iff → bdN
open Int renaming toNat_natCast → bdD
namespace Go.PM
open Go Go.Na
abbrev lay (l:List (List Int)):PV:=.sl 1 (l.map fun r=>[ints r])
def eC (n:Nat) (xs:List Int):List Int:=(baW n).map fun (d:Nat)=>((xs.count (d:Int):Nat):Int)
theorem gN (n:Nat) (xs:List Int):(eC n xs).length=n:=by simp[eC]
theorem aiU (n:Nat):eC n []=baH n 0:=by
 refine bcZ (by simp[eC]) fun i h1 h2=>by simp[eC]
theorem axC {n:Nat} (xs:List Int) {d:Nat} (h:d<n):(eC n xs)[d]'(by rw[gN]; exact h)=((xs.count (d:Int):Nat):Int):=by simp[eC]
theorem axD {n:Nat} (xs:List Int) {d:Nat} (h:d<n):(eC n xs).set d (((xs.count (d:Int):Nat):Int)+1)=eC n (xs++[(d:Int)]):=by
 refine bcZ (by simp[eC]) fun i h1 h2=>?_
 simp only[eC,List.getElem_set,bbW,List.getElem_range,List.count_append]
 by_cases e:d=i
 ·subst e; simp
 ·have:((d:Nat):Int)≠(i:Int):=by omega
  rw[if_neg e]
  simp[List.count_cons,this]
theorem NI {n:Nat} (xs:List Int) {x:Int} (h:¬ (0≤x∧x<n)):eC n (xs++[x])=eC n xs:=by
 refine bcZ (by simp[eC]) fun i h1 h2=>?_
 simp only[eC,bbW,List.getElem_range,List.count_append]
 have hi:i<n:=by simpa [eC] using h2
 have:x≠(i:Int):=by omega
 simp[List.count_cons,this]
def iV (f:aI) (l:List (List Int)):List Int:=eC f.drives.length l.flatten
structure jG (l:List (List Int)):Prop where
 rows:l.length≤16777216
 all:l.flatten.length≤16777216
theorem EN (l:List (List Int)) {i:Nat} (h:i<l.length):(l.take (i+1)).flatten=(l.take i).flatten++l[i]:=by
 rw[bcO h,List.flatten_append]
 simp only[List.flatten_cons,List.flatten_nil,bbY]
theorem NO (l:List (List Int)) (i:Nat):(l.take i).flatten.length≤l.flatten.length:=by
 have:l.flatten=(l.take i).flatten++(l.drop i).flatten:=by rw[← List.flatten_append,bcT]
 rw[this,baI]; omega
def anH (l:List (List Int)) (n o i:Nat):PF:=((((PF.nil.set 5 (.osl o 1 0 n)).set 14 (lay l)).set 15 (.int .i64 (l.length:Nat))).set 16 (.int .i64 i))
def XN (l:List (List Int)) (n o i:Nat) (row:List Int) (k:Nat):PF:=(((((((PF.nil.set 5 (.osl o 1 0 n)).set 14 (lay l)).set 15 (.int .i64 (l.length:Nat))).set 16 (.int .i64 i)).set 20 (ints row)).set 21 (.int .i64 (row.length:Nat))).set 22 (.int .i64 k))
theorem aMJ {C:Ctx} (f:aI) (hd:f.drives.length≤24) (l:List (List Int)) (hl:jG l) :
  xH.wp C (aZ IA.res (bW (ints (iV f l)))) (PF.args [.agg f.cells,lay l]) .nil:=by
 have hb1:((f.drives.length:Nat):Int)*((8:Nat):Int)≤140737488355328:=by omega
 have hb2:((f.drives.length:Nat):Int)≤9223372036854775807:=by omega
 obtain⟨hl1,hl2⟩:=hl
 simp -implicitDefEqProofs only[go_sem,δ,γ,θ,xH,aeC,aeD,IA,baF,hb1,hb2]
 refine aP fun o ho=>?_
 simp -implicitDefEqProofs only[go_sem,γ,aeE]
 generalize hn:f.drives.length=n at *
 refine wp_loop (α:=Nat) (fun i=>anH l n o i) (fun i=>PH.nil.set o (.rows 1 (dE (eC n (l.take i).flatten)))) (fun i=>i≤l.length) (fun i=>l.length-i) 0 (baR _) ?_ ?_ ?_
 ·unfold anH
  (repeat' (first|exact PF.nil_le|refine PF.aA ?_ ?_))<;>first|(simp -implicitDefEqProofs only[go_sem,γ,baF]<;>rfl)|rfl
 ·refine PH.aA PH.nil_le ?_
  simp -implicitDefEqProofs only[go_sem,List.take_zero,List.flatten_nil]
  rw[aiU,qM]
 intro i hi
 simp -implicitDefEqProofs only[go_sem,γ,VJ,aeF,anH]
 by_cases hlt:i<l.length
 ·have hlt':(i:Int)<(l.length:Nat):=by omega
  have hr:(l.map fun r=>[ints r])[i]?=some [ints l[i]]:=by simp[hlt]
  have hft:=EN l hlt
  have hfl:=NO l (i+1)
  rw[hft,baI] at hfl
  generalize hrow:l[i]=row at *
  simp -implicitDefEqProofs only[go_sem,γ,hlt',aeG,hr,aeH,baF]
  refine wp_loop (α:=Nat) (fun k=>XN l n o i row k) (fun k=>PH.nil.set o (.rows 1 (dE (eC n ((l.take i).flatten++row.take k))))) (fun k=>k≤row.length) (fun k=>row.length-k) 0 (baR _) ?_ ?_ ?_
  ·unfold XN
   (repeat' (first|exact PF.nil_le|refine PF.aA ?_ ?_))<;>first|(simp -implicitDefEqProofs only[go_sem,γ,baF]<;>rfl)|rfl
  ·rw[List.take_zero,bbY]
   exact PH.le_refl
  intro k hk
  simp -implicitDefEqProofs only[go_sem,γ,VI,aeI,XN]
  by_cases hkt:k<row.length
  ·have hkt':(k:Int)<(row.length:Nat):=by omega
   have hrk:(row.map fun n=>[PV.int .i64 n])[k]?=some [.int .i64 row[k]]:=by simp[hkt]
   have htk:(l.take i).flatten++row.take (k+1)=((l.take i).flatten++row.take k)++[row[k]]:=by
    rw[bcO hkt,bbJ]
   have fin:∀ (F:PF),(XN l n o i row (k+1)).le F→∀ H:PH,H o=some (.rows 1 (dE (eC n ((l.take i).flatten++row.take (k+1))))) →
     fV (fun k=>XN l n o i row k) (fun k=>PH.nil.set o (.rows 1 (dE (eC n ((l.take i).flatten++row.take k))))) (fun k=>k≤row.length) (fun k=>row.length-k) (row.length-k)
      (eO 2 (eO 1 (kE C (aC.wp C (.region CI)) (fV (fun i=>anH l n o i) (fun i=>PH.nil.set o (.rows 1 (dE (eC n (l.take i).flatten)))) (fun i=>i≤l.length) (fun i=>l.length-i) (l.length-i) (eO 0 (kE C (aC.wp C (.seq (.region CJ) .ret)) (aZ [.tmp 4] (bW (ints (iV f l)))))))))) .normal F H:=by
    intro F hF H hH
    exact aH (k+1) hkt (by omega) hF (PH.aA PH.nil_le hH)
   unfold XN anH at fin
   generalize hx:row[k]=x at *
   by_cases c1:x≥0
   ·by_cases c2:x<(n:Nat)
    ·obtain⟨d,rfl⟩:∃ d:Nat,x=d:=⟨x.toNat,by omega⟩
     have hdn:d<n:=by omega
     have hat:=tR (l:=eC n ((l.take i).flatten++row.take k)) (i:=d) (by rw[gN]; exact hdn)
     rw[axC _ hdn] at hat
     have hcl:((l.take i).flatten++row.take k).count (d:Int)≤16777216:=by
      refine bcP (List.count_le_length ..) ?_
      rw[baI,baV]; omega
     have hin:=axD ((l.take i).flatten++row.take k) hdn
     rw[← htk] at hin
     have hw:IntKind.i64.wrap (((((l.take i).flatten++row.take k).count (d:Int):Nat):Int)+1)=((((l.take i).flatten++row.take k).count (d:Int):Nat):Int)+1:=wrap_i64 (by omega) (by omega)
     simp -implicitDefEqProofs only[go_sem,γ,hkt',vD,hrk,vE,c1,c2,aeJ,bbF,hat,hw,sO,oA,hin,aL (show k<9223372036854775807 by omega)]
     exact fin _ (by (repeat' (first|exact PF.nil_le|refine PF.aA ?_ ?_))<;>first|(simp -implicitDefEqProofs only[go_sem,γ]<;>rfl)|rfl) _ (by simp -implicitDefEqProofs only[go_sem])
    ·have hout:=NI (n:=n) ((l.take i).flatten++row.take k) (x:=x) (by omega)
     simp -implicitDefEqProofs only[go_sem,γ,hkt',vD,hrk,vE,c1,c2,sO,aL (show k<9223372036854775807 by omega)]
     exact fin _ (by (repeat' (first|exact PF.nil_le|refine PF.aA ?_ ?_))<;>first|(simp -implicitDefEqProofs only[go_sem,γ]<;>rfl)|rfl) _ (by rw[htk,hout]; simp -implicitDefEqProofs only[go_sem])
   ·have hout:=NI (n:=n) ((l.take i).flatten++row.take k) (x:=x) (by omega)
    simp -implicitDefEqProofs only[go_sem,γ,reduceCtorEq,hkt',vD,hrk,vE,c1,sO,aL (show k<9223372036854775807 by omega)]
    exact fin _ (by (repeat' (first|exact PF.nil_le|refine PF.aA ?_ ?_))<;>first|(simp -implicitDefEqProofs only[go_sem,γ]<;>rfl)|rfl) _ (by rw[htk,hout]; simp -implicitDefEqProofs only[go_sem])
  ·have hkt':¬ (k:Int)<(row.length:Nat):=by omega
   have:k=row.length:=by omega
   subst this
   simp -implicitDefEqProofs only[go_sem,γ,reduceCtorEq,hkt',CI,aL (show i<9223372036854775807 by omega),bbP]
   refine aH (i+1) hlt (by omega) ?_ ?_
   ·(repeat' (first|exact PF.nil_le|refine PF.aA ?_ ?_))<;>first|(simp -implicitDefEqProofs only[go_sem,γ]<;>rfl)|rfl
   ·refine PH.aA PH.nil_le ?_
    rw[hft]
    simp -implicitDefEqProofs only[go_sem]
 ·have hlt':¬ (i:Int)<(l.length:Nat):=by omega
  have:i=l.length:=by omega
  subst this
  simp -implicitDefEqProofs only[go_sem,γ,hlt',CJ,bbP]
  refine arR (.inr rfl) (o:=o) (s:=1) (k:=n) (rs:=dE (eC n l.flatten)) rfl (by simp -implicitDefEqProofs only[go_sem]) (by rw[kC,gN]; omega) ⟨?_,rfl⟩
  rw[aFS,baS (by rw[kC,gN]; omega),iV,hn]
  exact .refl _
structure RA (C:Ctx):Prop extends JK C where
 room:∀ (f:aI) (room:List Int),f.Ok→aJ C 152 [.agg f.cells,ints room] .nil (aK (ints (UJ f room)))
 loads:∀ (f:aI) (l:List (List Int)),f.drives.length≤24→jG l→aJ C 157 [.agg f.cells,lay l] .nil (aK (ints (iV f l)))
def anI (f:aI) (l:List (List Int)):List Int:=if cL f then iV f l else []
theorem aLX {C:Ctx} (L:RA C) (f:aI) (hf:f.Ok) (l:List (List Int)) (hl:jG l) :
  xD.wp C (aZ HT.res (bW (ints (anI f l)))) (PF.args [.agg f.cells,lay l]) .nil:=by
 simp -implicitDefEqProofs only[go_sem,δ,γ,xD,adJ,adK,HT]
 refine aB (L.valid f hf) rfl ?_
 unfold anI
 cases hv:cL f with
 | false =>
  simp -implicitDefEqProofs only[go_sem,γ,reduceCtorEq,baZ,adL]
  exact kD rfl
 | true =>
  have hV:=VF.of hv
  simp -implicitDefEqProofs only[go_sem,δ,γ,baM,adM]
  refine aB (L.loads f l hV.small.drives hl) rfl ?_
  simp -implicitDefEqProofs only[go_sem,γ]
  exact aY (.inr rfl) .nil rfl PH.nil_le ⟨.refl _,rfl⟩
end Go.PM
namespace Go.PM
open Go Go.Na
structure gE where
 kind:Int
 vol:Int
 wher:Int
abbrev gE.cells (x:gE):List PV:=[.int .i64 x.kind,.int .i64 x.vol,.int .i64 x.wher]
abbrev QS (l:List gE):PV:=.sl 3 (l.map gE.cells)
def jQ (p:Int→Bool):List Int→Nat→Option Nat
 | [],_=>none
 | x::t,i=>if p x then some i else jQ p t (i+1)
def pT (f:aI) (d:Int):Bool:=decide (d < -1)||decide (d≥(f.drives.length:Nat))
def lW (f:aI) (l:List (List Int)) (v:Nat):Option gE :=
 if ((l.getD v []).length:Int)=JT f v then (jQ (pT f) (l.getD v []) 0).map fun (i:Nat)=>⟨1,v,i⟩ else some ⟨1,v,((l.getD v []).length:Nat)⟩
def shV:Option gE→PV
 | some x=>.tup [.agg x.cells,.bool true]
 | none=>.tup [.agg [.int .i64 0,.int .i64 0,.int .i64 0],.bool false]
def aRM (f:aI) (o:Nat) (v:Nat) (row:List Int) (k:Nat):PF:=((((((PF.nil.set 2 (.int .i64 v)).set 3 (.rptr f.cells)).set 6 (.ptr o 3 0 0)).set 29 (ints row)).set 30 (.int .i64 (row.length:Nat))).set 31 (.int .i64 k))
theorem aMS {C:Ctx} (L:RA C) (f:aI) (hV:VF f) (l:List (List Int)) (hl:jG l) (v:Nat) (hv:v<l.length) (hvf:v<f.volumes.length) :
  xI.wp C (aZ uF.res (bW (shV (lW f l v)))) (PF.args [.agg f.cells,lay l,.int .i64 v]) .nil:=by
 have hr:(l.map fun r=>[ints r])[v]?=some [ints l[v]]:=by simp[hv]
 have hg:l.getD v []=l[v]:=by simp[bbI,hv]
 have hrl:(l[v]).length≤16777216:=by
  have h1:=NO l (v+1)
  have:=hl.all
  rw[EN l hv,baI] at h1
  omega
 unfold lW
 rw[hg]
 simp -implicitDefEqProofs only[go_sem,δ,xI,aeN]
 refine aP fun o ho=>?_
 simp -implicitDefEqProofs only[go_sem]
 refine cC .nil (toS f) PH.nil_le ?_
 generalize l[v]=row at *
 have fin:∀ (x:gE) (F:PF) (H:PH),F 6=some (.ptr o 3 0 0)→F 7=some (.bool true)→H o=some (.rows 3 [x.cells])→aZ uF.res (bW (shV (some x))) .ret F H:=by
  intro x F H h6 h7 hH
  refine aY (.inr rfl) .nil (vs:=[.agg x.cells,.bool true]) ?_ PH.nil_le ⟨.refl _,rfl⟩
  simp -implicitDefEqProofs only[go_sem,δ,uF,h6,h7,hH]
 simp -implicitDefEqProofs only[go_sem,δ,γ,aeO,hr,baF]
 refine cN (aRI f v) (L.frag f v hV hvf) rfl PH.nil_le ?_
 by_cases c:((row.length:Nat):Int)=JT f v
 ·rw[if_pos c]
  simp -implicitDefEqProofs only[go_sem,γ,cH c,aeQ,hr,baF]
  refine wp_loop (α:=Nat) (fun k=>aRM f o v row k) (fun k=>PH.nil.set o (.rows 3 [[.int .i64 0,.int .i64 0,.int .i64 0]])) (fun k=>k≤row.length∧jQ (pT f) row 0=jQ (pT f) (row.drop k) k) (fun k=>row.length-k) 0 ⟨baR _,rfl⟩ ?_ PH.le_refl ?_
  ·unfold aRM
   (repeat' (first|exact PF.nil_le|refine PF.aA ?_ ?_))<;>first|(simp -implicitDefEqProofs only[go_sem,γ,baF]<;>rfl)|rfl
  rintro k ⟨hk,hb⟩
  simp -implicitDefEqProofs only[go_sem,γ,aeM,aeR,aRM]
  by_cases hlt:k<row.length
  ·have hlt':(k:Int)<(row.length:Nat):=by omega
   have hrk:(row.map fun n=>[PV.int .i64 n])[k]?=some [.int .i64 row[k]]:=by simp[hlt]
   have hdr:jQ (pT f) (row.drop k) k=if pT f row[k] then some k else jQ (pT f) (row.drop (k+1)) (k+1):=by
    rw[bcD hlt,jQ]
   rw[hdr] at hb
   by_cases c1:row[k] < -1
   ·have hbd:pT f row[k]=true:=by simp[pT,c1]
    rw[hbd] at hb
    simp -implicitDefEqProofs only[go_sem,ο,δ,γ,θ,hlt',vF,hrk,vG,c1,IC]
    rw[hb]
    exact fin ⟨1,v,k⟩ _ _ rfl rfl (by simp -implicitDefEqProofs only[go_sem])
   ·by_cases c2:row[k]≥(f.drives.length:Nat)
    ·have hbd:pT f row[k]=true:=by simp[pT,c2]
     rw[hbd] at hb
     simp -implicitDefEqProofs only[go_sem,ο,δ,γ,θ,reduceCtorEq,hlt',vF,hrk,vG,c1,baF,c2,IC]
     rw[hb]
     exact fin ⟨1,v,k⟩ _ _ rfl rfl (by simp -implicitDefEqProofs only[go_sem])
    ·have hbd:pT f row[k]=false:=by simp[pT]; omega
     rw[hbd] at hb
     simp -implicitDefEqProofs only[go_sem,ο,δ,γ,θ,reduceCtorEq,hlt',vF,hrk,vG,c1,baF,c2,aeS,aL (show k<9223372036854775807 by omega)]
     refine aH (k+1) ⟨hlt,hb⟩ (by omega) ?_ PH.le_refl
     (repeat' (first|exact PF.nil_le|refine PF.aA ?_ ?_))<;>first|(simp -implicitDefEqProofs only[go_sem,γ]<;>rfl)|rfl
  ·have hlt':¬ (k:Int)<(row.length:Nat):=by omega
   have:k=row.length:=by omega
   subst this
   rw[List.drop_length,jQ] at hb
   simp -implicitDefEqProofs only[go_sem,δ,γ,hlt',VO]
   rw[hb]
   refine aY (.inr rfl) .nil (vs:=[.agg [.int .i64 0,.int .i64 0,.int .i64 0],.bool false]) ?_ PH.nil_le ⟨.refl _,rfl⟩
   simp -implicitDefEqProofs only[go_sem,δ,γ,uF]
 ·rw[if_neg c]
  simp -implicitDefEqProofs only[go_sem,δ,γ,θ,dP c,aeP,hr,baF]
  exact fin ⟨1,v,(row.length:Nat)⟩ _ _ rfl rfl (by simp -implicitDefEqProofs only[go_sem])
structure aiH (C:Ctx):Prop extends RA C where
 shape:∀ (f:aI) (l:List (List Int)) (v:Nat),VF f→jG l→v<l.length→v<f.volumes.length→aJ C 160 [.agg f.cells,lay l,.int .i64 v] .nil (aK (shV (lW f l v)))
def YU (f:aI) (l:List (List Int)):Bool:=cL f&&decide (l.length=f.volumes.length)&&(baW l.length).all fun v=>(lW f l v).isNone
def tSF (f:aI) (l:List (List Int)) (k:Nat):PF:=((((PF.nil.set 1 (lay l)).set 2 (.rptr f.cells)).set 20 (.int .i64 (l.length:Nat))).set 21 (.int .i64 k))
theorem aHH {C:Ctx} (L:aiH C) (f:aI) (hf:f.Ok) (l:List (List Int)) (hl:jG l) :
  uD.wp C (aZ yV.res (bW (.bool (YU f l)))) (PF.args [.agg f.cells,lay l]) .nil:=by
 simp -implicitDefEqProofs only[go_sem,δ,γ,uD,UN,UO,yV]
 refine aB (L.valid f hf) rfl ?_
 unfold YU
 have hlr:=hl.rows
 cases hv:cL f with
 | false =>
  simp -implicitDefEqProofs only[go_sem,γ,baZ,CD]
  exact aS rfl (by simp only[baT])
 | true =>
  have hV:=VF.of hv
  by_cases c:l.length=f.volumes.length
  ·have c':(((l.length:Nat):Int) != ((f.volumes.length:Nat):Int))=false:=cH (by omega)
   rw[decide_eq_true c]
   simp -implicitDefEqProofs only[go_sem,γ,reduceCtorEq,baM,baF,c',UP]
   generalize hq:(fun v=>(lW f l v).isNone)=q
   refine wp_loop (α:=Nat) (fun k=>tSF f l k) (fun _=>.nil) (fun k=>k≤l.length∧mC q k) (fun k=>l.length-k) 0 ⟨baR _,.zero⟩ ?_ PH.nil_le ?_
   ·unfold tSF
    (repeat' (first|exact PF.nil_le|refine PF.aA ?_ ?_))<;>first|(simp -implicitDefEqProofs only[go_sem,γ,baF]<;>rfl)|rfl
   rintro k ⟨hk,ha⟩
   simp -implicitDefEqProofs only[go_sem,γ,ML,UQ,tSF]
   by_cases hlt:k<l.length
   ·have hlt':(k:Int)<(l.length:Nat):=by omega
    have hqk:q k=(lW f l k).isNone:=by rw[← hq]
    simp -implicitDefEqProofs only[go_sem,δ,γ,hlt',UR,US]
    refine aB (L.shape f l k hV hl hlt (by omega)) rfl ?_
    cases hs:lW f l k with
    | some x =>
     rw[hs] at hqk
     simp -implicitDefEqProofs only[go_sem,δ,γ,shV]
     refine aP fun o ho=>?_
     simp -implicitDefEqProofs only[go_sem,δ,γ,CE,UT]
     exact aS (b:=false) rfl (by rw[show (baW l.length).all q=false from dL hlt hqk])
    | none =>
     rw[hs] at hqk
     simp -implicitDefEqProofs only[go_sem,δ,γ,shV]
     refine aP fun o ho=>?_
     simp -implicitDefEqProofs only[go_sem,δ,γ,CE,UU,aL (show k<9223372036854775807 by omega)]
     refine aH (k+1) ⟨hlt,ha.step hqk⟩ (by omega) ?_ PH.nil_le
     (repeat' (first|exact PF.nil_le|refine PF.aA ?_ ?_))<;>first|(simp -implicitDefEqProofs only[go_sem,γ]<;>rfl)|rfl
   ·have hlt':¬ (k:Int)<(l.length:Nat):=by omega
    have:k=l.length:=by omega
    subst this
    simp -implicitDefEqProofs only[go_sem,hlt',MM]
    exact aS (b:=true) rfl (by rw[show (baW l.length).all q=true from ha])
  ·have c':(((l.length:Nat):Int) != ((f.volumes.length:Nat):Int))=true:=dP (by omega)
   simp -implicitDefEqProofs only[go_sem,γ,reduceCtorEq,baM,baF,c',CD]
   exact aS rfl (by rw[decide_eq_false c]; simp only[baT])
end Go.PM
namespace Go.PM
open Go Go.Na
section
variable {C:Ctx} {F:PF} {H:PH}
theorem sS {name:Nat} {vs cs:List PV} {r:PV} {H0:PH} {args:List aM} {d:Option Nat} {K:PF→PH→Prop} (h:aJ C name (vs++cs) H0 (fun r' H'=>r'=r∧H'=H0)) (ha:aM.evs F args=some vs) (hle:H0.le H)
  (hk:K (F.put d r) H):gT C name args cs d K F H:=by
 refine .inl ⟨vs++cs,H0,_,by rw[ha]; rfl,hle,h,?_⟩
 rintro r' H' ⟨rfl,rfl⟩ -
 rw[PH.over_self _ hle]
 exact hk
theorem bA.ne {s s':Nat} {v:PV} {rows:List (List PV)} {o:Nat} {y:List (List PV)} (h:bA H s v rows) (ho:H o=some (.rows s' y)) (hs:s≠s'):∀ l,v≠.osl o s 0 l:=by
 intro l e
 rcases h with ⟨_,h2⟩ | ⟨q,rs,h1,h2,_⟩
 ·rw[h2] at e; cases e
 ·rw[h1] at e
  injection e with e1
  subst e1
  rw[ho] at h2
  injection h2 with h2
  injection h2 with h2
  exact hs h2.symm
theorem bA.set {s s':Nat} {v:PV} {rows:List (List PV)} {o:Nat} {y:List (List PV)} {x:bX} (h:bA H s v rows) (ho:H o=some (.rows s' y)) (hs:s≠s'):bA (H.set o x) s v rows:=by
 have hne:=h.ne ho hs
 rcases h with ⟨h1,h2⟩ | ⟨q,rs,h1,h2,h3,h4⟩
 ·exact .inl ⟨h1,h2⟩
 ·refine .inr ⟨q,rs,h1,?_,h3,h4⟩
  have:q≠o:=by rintro rfl; exact hne _ h1
  simp only[aU,if_neg this,h2]
def Dis (s:Nat) (v u:PV):Prop:=∀ q l q' l',v=.osl q s 0 l→u=.osl q' s 0 l'→q≠q'
theorem Dis.nil {s:Nat}:Dis s .nils .nils:=fun _ _ _ _ h=>by cases h
theorem Dis.symm {s:Nat} {v u:PV} (h:Dis s v u):Dis s u v:=fun q l q' l' h1 h2=>(h q' l' q l h2 h1).symm
theorem jH {s b:Nat} {v u y:PV} {rows rows' src:List (List PV)} {K:PV→PH→Prop} (h:bA H s v rows) (h':bA H s u rows') (hd:Dis s v u) (hy:dH H s y=some src) (hr:roomFor rows.length src.length b)
  (hk:∀ v' H',bA H' s v' (rows++src)→bA H' s u rows'→Dis s v' u→(∀ o s' z,s≠s'→H o=some (.rows s' z)→H' o=some (.rows s' z))→K v' H'):mA H s b v y K:=by
 have other:∀ {H':PH} {t:PV} {r:List (List PV)},bA H s t r→(∀ o x,H o=some x→(∀ l,t=.osl o s 0 l→False)∨H' o=some x)→bA H' s t r:=by
  intro H' t r ht hp
  rcases ht with ⟨a,b⟩ | ⟨q,rs,a,b,c,d⟩
  ·exact .inl ⟨a,b⟩
  ·refine .inr ⟨q,rs,a,?_,c,d⟩
   rcases hp q _ b with e | e
   ·exact (e _ a).elim
   ·exact e
 have gone:∀ {o:Nat} {x:bX},H o=none→H o=some x→False:=fun a b=>by rw[a] at b; cases b
 have hud:∀ {o:Nat} {l:Nat},u=.osl o s 0 l→∃ x,H o=some x:=by
  intro o l e
  rcases h' with ⟨a,b⟩ | ⟨q,rs,a,b,c,d⟩
  ·rw[b] at e; cases e
  ·rw[a] at e; injection e with e; subst e; exact⟨_,b⟩
 rcases h with ⟨rfl,rfl⟩ | ⟨q,rs,rfl,h1,h2,h3⟩
 ·refine⟨src,hy,hr,fun e=>?_,fun e o ho=>?_⟩
  ·subst e
   exact hk _ _ (.inl ⟨rfl,rfl⟩) h' hd fun o s' z _ hz=>hz
  ·refine hk _ _ (.inr ⟨o,src,rfl,by simp only[aU,if_true],baJ _,by simp⟩) (other h' fun o' x hx=>.inr ?_) ?_ fun o' s' z _ hz=>?_
   ·have:o'≠o:=by rintro rfl; exact gone ho hx
    simp only[aU,if_neg this,hx]
   ·intro q l q' l' e1 e2
    injection e1 with e1
    subst e1
    rintro rfl
    obtain⟨x,hx⟩:=hud e2
    exact gone ho hx
   ·have:o'≠o:=by rintro rfl; exact gone ho hz
    simp only[aU,if_neg this,hz]
 ·have hlen:(rows++src).length=rows.length+src.length:=baI
  refine⟨src,hy,rfl,rfl,hr,rs,h1,h2,?_,fun o ho=>?_⟩
  ·rw[h3]
   refine hk _ _ (.inr ⟨q,rows++src,by rw[hlen],by simp only[aU,if_true],baJ _,bbP⟩) (other h' fun o' x hx=>?_) ?_ fun o' s' z hs hz=>?_
   ·by_cases e:o'=q
    ·exact .inl fun l el=>hd q _ o' l rfl el e.symm
    ·exact .inr (by simp only[aU,if_neg e,hx])
   ·intro q1 l q' l' e1 e2
    injection e1 with e1
    subst e1
    exact hd _ _ _ _ rfl e2
   ·have:o'≠q:=by
     rintro rfl
     rw[h1] at hz
     injection hz with hz
     injection hz with hz
     exact hs hz
    simp only[aU,if_neg this,hz]
  ·rw[h3]
   refine hk _ _ (.inr ⟨o,rows++src,by rw[hlen],by simp only[aU,if_true],baJ _,bbP⟩) (other h' fun o' x hx=>?_) ?_ fun o' s' z hs hz=>?_
   ·by_cases e:o'=q
    ·exact .inl fun l el=>hd q _ o' l rfl el e.symm
    ·have e2:o'≠o:=by rintro rfl; exact gone ho hx
     exact .inr (by simp only[aU,if_neg e,if_neg e2,hx])
   ·intro q1 l q' l' e1 e2
    injection e1 with e1
    subst e1
    rintro rfl
    obtain⟨x,hx⟩:=hud e2
    exact gone ho hx
   ·have e1:o'≠q:=by
     rintro rfl
     rw[h1] at hz
     injection hz with hz
     injection hz with hz
     exact hs hz
    have e2:o'≠o:=by rintro rfl; exact gone ho hz
    simp only[aU,if_neg e1,if_neg e2,hz]
end
abbrev dN (l:List gE):List (List PV):=l.map gE.cells
def cE (kind v:Int) (n:Nat) (p:Nat→Bool):List gE:=((baW n).filter p).map fun (i:Nat)=>⟨kind,v,i⟩
theorem lZ (kind v:Int) (n:Nat) (p:Nat→Bool):cE kind v (n+1) p=if p n then cE kind v n p++[⟨kind,v,n⟩] else cE kind v n p:=by
 unfold cE
 rw[List.range_succ,List.filter_append,bcA]
 by_cases h:p n
 ·rw[if_pos h]; simp[h]
 ·rw[if_neg h]; simp[h]
theorem fE (kind v:Int) (n:Nat) (p:Nat→Bool):(cE kind v n p).length≤n:=by
 unfold cE
 rw[baF]
 exact bcP (List.length_filter_le _ _) (by simp)
theorem iJ (l:List gE):(dN l).length=l.length:=by simp[dN]
theorem mS (l:List gE) (x:gE):dN l++[x.cells]=dN (l++[x]):=by simp[dN]
def arC (o5:Nat) (v:Nat):PH:=PH.nil.set o5 (.rows 1 [[.int .i64 v]])
theorem aMW {C:Ctx} (o5 v:Nat) (k w:Int):xK.wp C (aZ II.res (fun r H'=>r=.agg [.int .i64 k,.int .i64 v,.int .i64 w]∧H'=arC o5 v)) (PF.args [.int .i64 k,.int .i64 w,.ptr o5 1 0 0]) (arC o5 v):=by
 simp -implicitDefEqProofs only[go_sem,δ,xK,afF,arC]
 refine aP fun o ho=>?_
 have hne:o5≠o:=by rintro rfl; simp only[aU,if_true] at ho; cases ho
 simp -implicitDefEqProofs only[go_sem,δ,γ,θ,reduceCtorEq,afG,hne]
 refine aY (.inr rfl) (PH.nil.set o5 (.rows 1 [[.int .i64 v]])) (vs:=[.agg [.int .i64 k,.int .i64 v,.int .i64 w]]) ?_ (PH.aA PH.nil_le ?_) ⟨rfl,rfl⟩
 ·simp -implicitDefEqProofs only[go_sem,δ,γ,II]
 ·simp -implicitDefEqProofs only[go_sem,hne]
def JY (f:aI) (i:Nat) (d:Int):Bool:=decide (0≤d)&&decide (cB f d.toNat (lvl f i)=i)
def lN (f:aI) (xs:List Int) (i:Nat):Int:=if i=0 then 0 else ((xs.countP (JY f i):Nat):Int)
def dR (f:aI) (xs:List Int):List Int:=(baW f.domains.length).map (lN f xs)
def nL (f:aI) (xs:List Int) (d:Nat) (k:Nat):List Int:=(baW f.domains.length).map fun i=>if 4-(k:Int)<lvl f i then lN f (xs++[(d:Int)]) i else lN f xs i
theorem rC (f:aI) (xs:List Int):(dR f xs).length=f.domains.length:=by simp[dR]
theorem VF.lO {f:aI} (h:VF f) {i:Nat} (hi:i<f.domains.length):0≤lvl f i∧lvl f i≤4∧(lvl f i=0↔i=0):=by
 rcases bcB i with e | e
 ·subst e; rw[h.root.2.1]; simp
 ·have:=h.dom i e hi
  omega
theorem aIL {f:aI} (h:VF f) (xs:List Int) (d:Nat):nL f xs d 0=dR f xs:=by
 refine bcZ (by simp[nL,dR]) fun i h1 h2=>?_
 simp only[nL,dR,bbW,List.getElem_range]
 have hi:i<f.domains.length:=by simpa [dR] using h2
 have:=h.lO hi
 rw[if_neg (by omega)]
theorem aIK {f:aI} (h:VF f) (xs:List Int) (d:Nat):nL f xs d 4=dR f (xs++[(d:Int)]):=by
 refine bcZ (by simp[nL,dR]) fun i h1 h2=>?_
 simp only[nL,dR,bbW,List.getElem_range]
 have hi:i<f.domains.length:=by simpa [dR] using h2
 have:=h.lO hi
 by_cases e:i=0
 ·subst e
  rw[if_neg (by omega)]
  simp[lN]
 ·rw[if_pos (by omega)]
theorem ZD (f:aI) (xs:List Int) (d:Nat) {i:Nat} (hi:i≠0):lN f (xs++[(d:Int)]) i=lN f xs i+if cB f d (lvl f i)=i then 1 else 0:=by
 unfold lN
 rw[if_neg hi,if_neg hi,List.countP_append]
 by_cases h:cB f d (lvl f i)=i
 ·rw[if_pos h]; simp[JY,h]
 ·rw[if_neg h]; simp[JY,h]
theorem aTG {f:aI} (h:VF f) (xs:List Int) {d:Nat} (hd:d<f.drives.length) {k:Nat} (hk:k<4) :
  (nL f xs d k)[upN f k (fC f d)]?=some (lN f xs (upN f k (fC f d))) ∧
  (nL f xs d k).set (upN f k (fC f d)) (lN f xs (upN f k (fC f d))+1)=nL f xs d (k+1):=by
 obtain⟨u1,u2⟩:=JA h hd (k:=k) (by omega)
 constructor
 ·simp only[nL,bbU,List.getElem?_range u1,bbN]
  rw[if_neg (by omega)]
 ·refine bcZ (by simp[nL]) fun i h1 h2=>?_
  have hi:i<f.domains.length:=by simpa [nL] using h2
  simp only[nL,List.getElem_set,bbW,List.getElem_range]
  have hr:=h.lO hi
  by_cases e:upN f k (fC f d)=i
  ·rw[if_pos e]
   subst e
   rw[if_pos (by omega)]
   have hne:upN f k (fC f d)≠0:=by intro e; rw[e,h.root.2.1] at u2; omega
   rw[ZD f xs d hne,cB,u2]
   have:4-(4-(k:Int)).toNat=k:=by omega
   rw[this,if_pos rfl]
  ·rw[if_neg e]
   by_cases c:4-(k:Int)<lvl f i
   ·rw[if_pos c,if_pos (by omega)]
   ·rw[if_neg c]
    by_cases c2:4-((k+1:Nat):Int)<lvl f i
    ·rw[if_pos c2]
     have hl:lvl f i=4-(k:Int):=by omega
     have hne:i≠0:=by intro e; subst e; rw[h.root.2.1] at hl; omega
     rw[ZD f xs d hne,cB,hl]
     have:4-(4-(k:Int)).toNat=k:=by omega
     rw[this,if_neg e]; simp
    ·rw[if_neg c2]
theorem aTF (f:aI) (xs:List Int) (i:Nat):0≤lN f xs i∧lN f xs i≤xs.length:=by
 unfold lN
 have:=List.countP_le_length (p:=JY f i) (l:=xs)
 split<;>omega
end Go.PM
namespace Go.PM
open Go Go.Na
structure yC (C:Ctx):Prop extends aiH C where
 bad:∀ (o5 v:Nat) (k w:Int),aJ C 159 [.int .i64 k,.int .i64 w,.ptr o5 1 0 0] (arC o5 v) (fun r H'=>r=.agg [.int .i64 k,.int .i64 v,.int .i64 w]∧H'=arC o5 v)
structure Obs where
 o5:Nat
 o7:Nat
 o8:Nat
 oD:Nat
 oB:Nat
structure Obs.Ne (o:Obs):Prop where
 a1:o.o5≠o.oD
 a2:o.o5≠o.oB
 a3:o.o7≠o.oD
 a4:o.o7≠o.oB
 a5:o.o8≠o.oD
 a6:o.o8≠o.oB
 a7:o.oD≠o.oB
structure gM (H:PH) (o:Obs) (v:Nat) (p:cJ) (A:List Bool) (D B:List Int):Prop where
 h5:H o.o5=some (.rows 1 [[.int .i64 v]])
 h7:H o.o7=some (.rows 17 [p.cells])
 h8:H o.o8=some (.rows 1 (eR A))
 hD:H o.oD=some (.rows 1 (dE D))
 hB:H o.oB=some (.rows 1 (dE B))
theorem gM.keep {H H':PH} {o:Obs} {v:Nat} {p:cJ} {A:List Bool} {D B:List Int} (h:gM H o v p A D B) (hk:∀ q s' z,3≠s'→H q=some (.rows s' z)→H' q=some (.rows s' z)):gM H' o v p A D B :=
 ⟨hk _ _ _ (by decide) h.h5,hk _ _ _ (by decide) h.h7,hk _ _ _ (by decide) h.h8,hk _ _ _ (by decide) h.hD,hk _ _ _ (by decide) h.hB⟩
theorem gM.a8S {H:PH} {o:Obs} {v:Nat} {p:cJ} {A:List Bool} {D B:List Int} (h:gM H o v p A D B) (hn:o.Ne) (B':List Int):gM (H.set o.oB (.rows 1 (dE B'))) o v p A D B' :=
 ⟨by simp only[aU,if_neg hn.a2,h.h5],by simp only[aU,if_neg hn.a4,h.h7],by simp only[aU,if_neg hn.a6,h.h8],by simp only[aU,if_neg hn.a7,h.hD],by simp only[aU,if_true]⟩
theorem gM.a8T {H:PH} {o:Obs} {v:Nat} {p:cJ} {A:List Bool} {D B:List Int} (h:gM H o v p A D B) (hn:o.Ne) (D':List Int):gM (H.set o.oD (.rows 1 (dE D'))) o v p A D' B :=
 ⟨by simp only[aU,if_neg hn.a1,h.h5],by simp only[aU,if_neg hn.a3,h.h7],by simp only[aU,if_neg hn.a5,h.h8],by simp only[aU,if_true],by simp only[aU,if_neg (Ne.symm hn.a7),h.hB]⟩
def hJ (f:aI) (o:Obs) (v12 v13:PV) (row:List Int) (k:Nat):PF :=
 ((((((((((((PF.nil.set 3 (.rptr f.cells)).set 5 (.ptr o.o5 1 0 0)).set 7 (.ptr o.o7 17 0 0)).set 8 (.osl o.o8 1 0 f.models.length)).set 11 (.fn 159 [.ptr o.o5 1 0 0])).set 12 (v12)).set 13 (v13)).set 14 (.osl o.oD 1 0 f.drives.length)).set 15 (.osl o.oB 1 0 f.domains.length)).set 62 (ints row)).set 63 (.int .i64 (row.length:Nat))).set 64 (.int .i64 k))
def aGY (f:aI) (o:Obs) (v12 v13:PV) (row:List Int) (k:Nat) (at_:Nat):PF :=
 (((((((((((((PF.nil.set 3 (.rptr f.cells)).set 5 (.ptr o.o5 1 0 0)).set 7 (.ptr o.o7 17 0 0)).set 8 (.osl o.o8 1 0 f.models.length)).set 11 (.fn 159 [.ptr o.o5 1 0 0])).set 12 (v12)).set 13 (v13)).set 14 (.osl o.oD 1 0 f.drives.length)).set 15 (.osl o.oB 1 0 f.domains.length)).set 62 (ints row)).set 63 (.int .i64 (row.length:Nat))).set 64 (.int .i64 k)).set 18 (.int .i64 at_))
theorem aYY {C:Ctx} (f:aI) (hV:VF f) (o:Obs) (hn:o.Ne) (v:Nat) (p:cJ) (A:List Bool) (D:List Int) (v12 v13:PV) (R12 R13:List (List PV)) (row:List Int) (k:Nat) (xs:List Int) (hxs:xs.length≤16777216) (d:Nat) (hd:d<f.drives.length) (K:cD) (F:PF) (H:PH)
  (hF:(aGY f o v12 v13 row k (fC f d)).le F) (hH:gM H o v p A D (dR f xs)) (h12:bA H 3 v12 R12) (h13:bA H 3 v13 R13)
  (hK:∀ F' H',(hJ f o v12 v13 row k).le F'→gM H' o v p A D (dR f (xs++[(d:Int)]))→bA H' 3 v12 R12→bA H' 3 v13 R13→K .normal F' H') :
  aC.wp C (.block 4 (.loop vH)) K F H:=by
 simp -implicitDefEqProofs only[go_sem]
 refine wp_loop (α:=Nat × PH) (fun t=>aGY f o v12 v13 row k (upN f t.1 (fC f d))) (fun t=>t.2) (fun t=>t.1≤4∧gM t.2 o v p A D (nL f xs d t.1)∧bA t.2 3 v12 R12∧bA t.2 3 v13 R13) (fun t=>4-t.1) (0,H) ⟨baR _,by rw[aIL hV]; exact hH,h12,h13⟩ (by rw[upN]; exact hF) PH.le_refl ?_
 rintro⟨j,H0⟩ ⟨hj,hR,g12,g13⟩
 simp only at hj hR g12 g13 ⊢
 obtain⟨u1,u2⟩:=JA hV hd (k:=j) hj
 simp -implicitDefEqProofs only[go_sem,γ,vH,afM,aGY]
 by_cases hlt:j<4
 ·have hne:0<upN f j (fC f d):=by
   rcases bcB (upN f j (fC f d)) with e | e
   ·rw[e,hV.root.2.1] at u2; omega
   ·exact e
  have hc:((upN f j (fC f d):Nat):Int)>0:=by omega
  obtain⟨b1,b2⟩:=aTG hV xs hd hlt
  have hat:(dE (nL f xs d j))[upN f j (fC f d)]?=some [.int .i64 (lN f xs (upN f j (fC f d)))]:=by
   unfold dE; rw[bbU,b1]; rfl
  have hdl:=aTF f xs (upN f j (fC f d))
  have hw:IntKind.i64.wrap (lN f xs (upN f j (fC f d))+1)=lN f xs (upN f j (fC f d))+1:=wrap_i64 (by omega) (by omega)
  have hlN:((upN f j (fC f d):Nat):Int)<(f.domains.length:Nat):=by omega
  simp -implicitDefEqProofs only[go_sem,δ,γ,θ,hc,afN,hlN,bbF,hR.hB,hat,hw,oA,b2,afO,mG u1,UE u1,hV.aCM hne u1]
  refine aH (j+1,_) ⟨hlt,hR.a8S hn _,g12.set hR.hB (by decide),g13.set hR.hB (by decide)⟩ (by simp only; omega) ?_ PH.le_refl
  (repeat' (first|exact PF.nil_le|refine PF.aA ?_ ?_))<;>first|(simp -implicitDefEqProofs only[go_sem,γ,upN]<;>rfl)|rfl
 ·have:j=4:=by omega
  subst this
  have h0:upN f 4 (fC f d)=0:=by
   have:=hV.lO u1
   omega
  have hc:¬ ((upN f 4 (fC f d):Nat):Int)>0:=by omega
  simp -implicitDefEqProofs only[go_sem,ε,hc]
  rw[aIK hV] at hR
  refine hK _ _ ?_ hR g12 g13
  unfold hJ
  (repeat' (first|exact PF.nil_le|refine PF.aA ?_ ?_))<;>first|(simp -implicitDefEqProofs only[go_sem,γ]<;>rfl)|rfl
structure ahP (f:aI) (row:List Int):Prop where
 len:row.length≤16777216
 at_:∀ x∈row,-1≤x∧x<(f.drives.length:Nat)
def home (row:List Int) (i:Nat):Bool:=decide (row.getD i 0<0)
def eH (f:aI) (p:cJ) (row:List Int) (i:Nat):Bool:=decide (0≤row.getD i 0)&&!p.models.contains ((mdl f (row.getD i 0).toNat:Nat):Int)
theorem aIJ (f:aI) (xs:List Int) {x:Int} (h:x<0):dR f (xs++[x])=dR f xs:=by
 refine bcZ (by simp[dR]) fun i h1 h2=>?_
 simp only[dR,bbW,List.getElem_range,lN,List.countP_append]
 have:JY f i x=false:=by simp[JY]; omega
 simp[this]
theorem aQZ {C:Ctx} (L:yC C) (f:aI) (hV:VF f) (o:Obs) (hn:o.Ne) (v:Nat) (p:cJ) (hp:∀ m∈p.models,0≤m∧m<f.models.length) (row:List Int) (hr:ahP f row) (K:cD) (F:PF) (H:PH)
  (hF:(hJ f o .nils .nils row 0).le F) (hH:gM H o v p (marks f.models.length p.models) (eC f.drives.length []) (dR f []))
  (hK:∀ v12 v13 F' H',(hJ f o v12 v13 row row.length).le F'→gM H' o v p (marks f.models.length p.models) (eC f.drives.length row) (dR f row)→bA H' 3 v12 (dN (cE 2 v row.length (home row)))→bA H' 3 v13 (dN (cE 4 v row.length (eH f p row)))→Dis 3 v12 v13→K (.exit 2) F' H') :
  aC.wp C (.loop oK) K F H:=by
 obtain⟨hr1,hr2⟩:=hr
 refine wp_loop (α:=Nat × PV × PV × PH) (fun t=>hJ f o t.2.1 t.2.2.1 row t.1) (fun t=>t.2.2.2)
  (fun t=>t.1≤row.length∧gM t.2.2.2 o v p (marks f.models.length p.models) (eC f.drives.length (row.take t.1)) (dR f (row.take t.1))∧bA t.2.2.2 3 t.2.1 (dN (cE 2 v t.1 (home row)))∧bA t.2.2.2 3 t.2.2.1 (dN (cE 4 v t.1 (eH f p row)))∧Dis 3 t.2.1 t.2.2.1)
  (fun t=>row.length-t.1) (0,.nils,.nils,H) ⟨baR _,by rw[List.take_zero]; exact hH,.nil,.nil,.nil⟩ hF PH.le_refl ?_
 rintro⟨k,v12,v13,H0⟩ ⟨hk,hR,h12,h13,hd⟩
 simp only at hk hR h12 h13 hd ⊢
 by_cases hlt:k<row.length
 ·have hlt':(k:Int)<(row.length:Nat):=by omega
  have hrk:(row.map fun n=>[PV.int .i64 n])[k]?=some [.int .i64 row[k]]:=by simp[hlt]
  have hg:row.getD k 0=row[k]:=by simp[bbI,hlt]
  have htk:row.take (k+1)=row.take k++[row[k]]:=bcO hlt
  have hx:=hr2 row[k] (baN hlt)
  have e2:=lZ 2 v k (home row)
  have e4:=lZ 4 v k (eH f p row)
  have hh:home row k=decide (row[k]<0):=by rw[home,hg]
  have ha:eH f p row k=(decide (0≤row[k])&&!p.models.contains ((mdl f (row[k]).toNat:Nat):Int)):=by rw[eH,hg]
  have l2:=fE 2 v k (home row)
  have l4:=fE 4 v k (eH f p row)
  have fin:∀ v12' v13' (F:PF) (H1:PH),(hJ f o v12' v13' row (k+1)).le F→gM H1 o v p (marks f.models.length p.models) (eC f.drives.length (row.take (k+1))) (dR f (row.take (k+1)))→bA H1 3 v12' (dN (cE 2 v (k+1) (home row)))→bA H1 3 v13' (dN (cE 4 v (k+1) (eH f p row)))→Dis 3 v12' v13' →
    fV (fun (t:Nat × PV × PV × PH)=>hJ f o t.2.1 t.2.2.1 row t.1) (fun t=>t.2.2.2)
     (fun t=>t.1≤row.length∧gM t.2.2.2 o v p (marks f.models.length p.models) (eC f.drives.length (row.take t.1)) (dR f (row.take t.1))∧bA t.2.2.2 3 t.2.1 (dN (cE 2 v t.1 (home row)))∧bA t.2.2.2 3 t.2.2.1 (dN (cE 4 v t.1 (eH f p row)))∧Dis 3 t.2.1 t.2.2.1)
     (fun t=>row.length-t.1) (row.length-k) K .normal F H1 :=
   fun v12' v13' F H1 hF hR h1 h2 h3=>aH (α:=Nat × PV × PV × PH) (k+1,v12',v13',H1) ⟨hlt,hR,h1,h2,h3⟩ (by simp only; omega) hF PH.le_refl
  generalize hxe:row[k]=x at *
  by_cases c:x<0
  ·have o1:=NI (n:=f.drives.length) (row.take k) (x:=x) (by omega)
   have o2:=aIJ f (row.take k) c
   rw[htk,o1,o2] at fin
   rw[if_pos (by rw[hh]; simp[c])] at e2
   rw[if_neg (by rw[ha]; simp; omega)] at e4
   rw[e2,e4] at fin
   simp -implicitDefEqProofs only[go_sem,γ,oK,rN,hJ,hlt',vI,hrk,vJ,c,afK]
   refine⟨159,[.ptr o.o5 1 0 0],rfl,?_⟩
   refine sS (vs:=[.int .i64 2,.int .i64 k]) (L.bad o.o5 v 2 k) rfl (PH.aA PH.nil_le hR.h5) ?_
   have hone:(1:Nat)*3≤16777216:=by decide
   simp -implicitDefEqProofs only[go_sem,υ,δ,γ,η,ζ,hone]
   refine jH (src:=[(⟨2,v,k⟩:gE).cells]) h12 h13 hd rfl (by unfold roomFor; rw[iJ]; simp only[baL,maxLen]; omega) fun v' H' g1 g2 g3 g4=>?_
   rw[mS] at g1
   unfold hJ at fin
   simp -implicitDefEqProofs only[go_sem,γ,vK,aL (show k<9223372036854775807 by omega)]
   exact fin v' v13 _ H' (by (repeat' (first|exact PF.nil_le|refine PF.aA ?_ ?_))<;>first|(simp -implicitDefEqProofs only[go_sem,γ]<;>rfl)|rfl) (hR.keep g4) g1 g2 g3
  ·obtain⟨d,rfl⟩:∃ d:Nat,x=d:=⟨x.toNat,by omega⟩
   have hdl:d<f.drives.length:=by omega
   have hdl':(d:Int)<(f.drives.length:Nat):=by omega
   obtain⟨w1,w2,w3,w4,w5⟩:=hV.drive d hdl
   have c0:(0:Int)≤(d:Int):=by omega
   rw[if_neg (by rw[hh]; simp)] at e2
   rw[decide_eq_true c0,bbC,bdD] at ha
   have hcnt:(row.take k).count (d:Int)≤16777216:=bcP (List.count_le_length ..) (by rw[baV]; omega)
   have hw:IntKind.i64.wrap ((((row.take k).count (d:Int):Nat):Int)+1)=(((row.take k).count (d:Int):Nat):Int)+1:=wrap_i64 (by omega) (by omega)
   have hcat:=tR (l:=eC f.drives.length (row.take k)) (i:=d) (by rw[gN]; exact hdl)
   rw[axC _ hdl] at hcat
   have hcin:=axD (row.take k) hdl
   have hxl:(row.take k).length≤16777216:=by rw[baV]; omega
   rw[e2,htk] at fin
   have tail:∀ v13' (F:PF) (H1:PH),(hJ f o v12 v13' row k).le F→F 17=some (.int .i64 d)→gM H1 o v p (marks f.models.length p.models) (eC f.drives.length (row.take k)) (dR f (row.take k))→bA H1 3 v12 (dN (cE 2 v k (home row)))→bA H1 3 v13' (dN (cE 4 v (k+1) (eH f p row)))→Dis 3 v12 v13' →
     aC.wp C (.seq (.region IM) (.seq (.region IN) (.block 4 (.loop vH)))) (eO 3 (kE C (aC.wp C (.region vK)) (fV (fun (t:Nat × PV × PV × PH)=>hJ f o t.2.1 t.2.2.1 row t.1) (fun t=>t.2.2.2)
     (fun t=>t.1≤row.length∧gM t.2.2.2 o v p (marks f.models.length p.models) (eC f.drives.length (row.take t.1)) (dR f (row.take t.1))∧bA t.2.2.2 3 t.2.1 (dN (cE 2 v t.1 (home row)))∧bA t.2.2.2 3 t.2.2.1 (dN (cE 4 v t.1 (eH f p row)))∧Dis 3 t.2.1 t.2.2.1)
     (fun t=>row.length-t.1) (row.length-k) K))) F H1:=by
    intro v13' F H1 hF f17 hR1 g12 g13 gd
    have f3:F 3=some (.rptr f.cells):=hF 3 _ (by unfold hJ; simp -implicitDefEqProofs only[go_sem,γ])
    have f14:F 14=some (.osl o.oD 1 0 f.drives.length):=hF 14 _ (by unfold hJ; simp -implicitDefEqProofs only[go_sem,γ])
    simp -implicitDefEqProofs only[go_sem,δ,γ,θ,IM,f14,f17,hdl',bbF,hR1.hD,hcat,hw,oA,hcin,IN,f3,rD hdl,hV.aAA hdl]
    have up:=aYY (C:=C) f hV o hn v p (marks f.models.length p.models) (eC f.drives.length (row.take k++[(d:Int)])) v12 v13' (dN (cE 2 v k (home row))) (dN (cE 4 v (k+1) (eH f p row))) row k (row.take k) hxl d hdl
    simp only[aC.wp,go_sem] at up
    refine up _ _ _ ?_ (hR1.a8T hn _) (g12.set hR1.hD (by decide)) (g13.set hR1.hD (by decide)) ?_
    ·have g:=fun (q:Nat) u h=>hF q u h
     unfold hJ at g
     unfold aGY
     refine PF.aA (PF.aA (PF.aA (PF.aA (PF.aA (PF.aA (PF.aA (PF.aA (PF.aA (PF.aA (PF.aA (PF.aA (PF.aA PF.nil_le ?_) ?_) ?_) ?_) ?_) ?_) ?_) ?_) ?_) ?_) ?_) ?_) ?_
     ·simp -implicitDefEqProofs only[go_sem,γ]; exact g 3 _ rfl
     ·simp -implicitDefEqProofs only[go_sem,γ]; exact g 5 _ rfl
     ·simp -implicitDefEqProofs only[go_sem,γ]; exact g 7 _ rfl
     ·simp -implicitDefEqProofs only[go_sem,γ]; exact g 8 _ rfl
     ·simp -implicitDefEqProofs only[go_sem,γ]; exact g 11 _ rfl
     ·simp -implicitDefEqProofs only[go_sem,γ]; exact g 12 _ rfl
     ·simp -implicitDefEqProofs only[go_sem,γ]; exact g 13 _ rfl
     ·simp -implicitDefEqProofs only[go_sem,γ]; exact g 14 _ rfl
     ·simp -implicitDefEqProofs only[go_sem,γ]; exact g 15 _ rfl
     ·simp -implicitDefEqProofs only[go_sem,γ]; exact g 62 _ rfl
     ·simp -implicitDefEqProofs only[go_sem,γ]; exact g 63 _ rfl
     ·simp -implicitDefEqProofs only[go_sem,γ]; exact g 64 _ rfl
     ·simp -implicitDefEqProofs only[go_sem,γ]
    ·intro F' H' hF' hR' g12' g13'
     have g:=fun (q:Nat) u h=>hF' q u h
     unfold hJ at g
     have f64:F' 64=some (.int .i64 k):=g 64 _ rfl
     simp -implicitDefEqProofs only[go_sem,vK,f64,aL (show k<9223372036854775807 by omega)]
     refine fin v12 v13' _ H' ?_ hR' g12' g13' gd
     unfold hJ
     refine PF.aA (PF.aA (PF.aA (PF.aA (PF.aA (PF.aA (PF.aA (PF.aA (PF.aA (PF.aA (PF.aA (PF.aA PF.nil_le ?_) ?_) ?_) ?_) ?_) ?_) ?_) ?_) ?_) ?_) ?_) ?_
     ·simp -implicitDefEqProofs only[go_sem,γ]; exact g 3 _ rfl
     ·simp -implicitDefEqProofs only[go_sem,γ]; exact g 5 _ rfl
     ·simp -implicitDefEqProofs only[go_sem,γ]; exact g 7 _ rfl
     ·simp -implicitDefEqProofs only[go_sem,γ]; exact g 8 _ rfl
     ·simp -implicitDefEqProofs only[go_sem,γ]; exact g 11 _ rfl
     ·simp -implicitDefEqProofs only[go_sem,γ]; exact g 12 _ rfl
     ·simp -implicitDefEqProofs only[go_sem,γ]; exact g 13 _ rfl
     ·simp -implicitDefEqProofs only[go_sem,γ]; exact g 14 _ rfl
     ·simp -implicitDefEqProofs only[go_sem,γ]; exact g 15 _ rfl
     ·simp -implicitDefEqProofs only[go_sem,γ]; exact g 62 _ rfl
     ·simp -implicitDefEqProofs only[go_sem,γ]; exact g 63 _ rfl
     ·simp -implicitDefEqProofs only[go_sem,γ]
   simp only[aC.wp,go_sem] at tail
   have hml:((mdl f d:Nat):Int)<(f.models.length:Nat):=by omega
   have hmk:(eR (marks f.models.length p.models))[mdl f d]?=some [.bool (p.models.contains ((mdl f d:Nat):Int))]:=by
    have:=OQ (n:=f.models.length) (l:=p.models) (m:=((mdl f d:Nat):Int)) (by omega) hml
    rw[bdD] at this
    unfold eR
    rw[bbU,this]; rfl
   cases hb:p.models.contains ((mdl f d:Nat):Int) with
   | true =>
    rw[hb] at hmk ha
    rw[if_neg (by rw[ha]; simp)] at e4
    rw[e4] at tail
    simp -implicitDefEqProofs only[go_sem,δ,γ,θ,oK,rN,hJ,hlt',vI,hrk,vJ,c,IL,rD hdl,hV.aoB hdl,hml,bbF,hR.h8,hmk,baM]
    exact tail v13 _ H0 (by unfold hJ; (repeat' (first|exact PF.nil_le|refine PF.aA ?_ ?_))<;>first|(simp -implicitDefEqProofs only[go_sem,γ]<;>rfl)|rfl) rfl hR h12 h13 hd
   | false =>
    rw[hb] at hmk ha
    rw[if_pos (by rw[ha]; simp)] at e4
    rw[e4] at tail
    simp -implicitDefEqProofs only[go_sem,δ,γ,θ,oK,rN,hJ,hlt',vI,hrk,vJ,c,IL,rD hdl,hV.aoB hdl,hml,bbF,hR.h8,hmk,baZ,afL]
    refine⟨159,[.ptr o.o5 1 0 0],rfl,?_⟩
    refine sS (vs:=[.int .i64 4,.int .i64 k]) (L.bad o.o5 v 4 k) rfl (PH.aA PH.nil_le hR.h5) ?_
    have hone:(1:Nat)*3≤16777216:=by decide
    simp -implicitDefEqProofs only[go_sem,υ,δ,γ,η,ζ,hone]
    refine jH (src:=[(⟨4,v,k⟩:gE).cells]) h13 h12 hd.symm rfl (by unfold roomFor; rw[iJ]; simp only[baL,maxLen]; omega) fun v' H' g1 g2 g3 g4=>?_
    rw[mS] at g1
    exact tail v' _ H' (by unfold hJ; (repeat' (first|exact PF.nil_le|refine PF.aA ?_ ?_))<;>first|(simp -implicitDefEqProofs only[go_sem,γ]<;>rfl)|rfl) rfl (hR.keep g4) g2 g1 g3.symm
 ·have hlt':¬ (k:Int)<(row.length:Nat):=by omega
  have:k=row.length:=by omega
  subst this
  rw[bbP] at hR
  simp -implicitDefEqProofs only[go_sem,γ,oK,rN,hJ,hlt']
  exact hK v12 v13 _ _ (by unfold hJ; (repeat' (first|exact PF.nil_le|refine PF.aA ?_ ?_))<;>first|(simp -implicitDefEqProofs only[go_sem,γ]<;>rfl)|rfl) hR h12 h13 hd
end Go.PM
namespace Go.PM
open Go Go.Na
def nH (f:aI) (row:List Int) (d:Nat):Bool:=decide ((eC f.drives.length row).getD d 0>1)
def dV (f:aI) (p:cJ) (i:Nat):Int:=p.spread (lvl f i).toNat
def rW (f:aI) (p:cJ) (row:List Int) (i:Nat):Bool:=decide (dV f p i>0)&&decide ((dR f row).getD i 0>dV f p i)
def rO (f:aI) (p:cJ) (v:Nat) (row:List Int):List gE :=
 cE 2 v row.length (home row)++cE 3 v f.drives.length (nH f row)++cE 4 v row.length (eH f p row)++cE 5 v f.domains.length (rW f p row)
def BY (f:aI) (o:Obs) (v13 v19:PV) (k:Nat):PF :=
 ((((((((((PF.nil.set 3 (.rptr f.cells)).set 5 (.ptr o.o5 1 0 0)).set 7 (.ptr o.o7 17 0 0)).set 11 (.fn 159 [.ptr o.o5 1 0 0])).set 13 (v13)).set 15 (.osl o.oB 1 0 f.domains.length)).set 19 (v19)).set 121 (.osl o.oD 1 0 f.drives.length)).set 122 (.int .i64 (f.drives.length:Nat))).set 123 (.int .i64 k))
def ahR (f:aI) (o:Obs) (v19:PV) (k:Nat):PF :=
 ((((((((PF.nil.set 3 (.rptr f.cells)).set 5 (.ptr o.o5 1 0 0)).set 7 (.ptr o.o7 17 0 0)).set 11 (.fn 159 [.ptr o.o5 1 0 0])).set 19 (v19)).set 140 (.osl o.oB 1 0 f.domains.length)).set 141 (.int .i64 (f.domains.length:Nat))).set 142 (.int .i64 k))
theorem aLP {C:Ctx} (L:yC C) (f:aI) (hV:VF f) (o:Obs) (v:Nat) (p:cJ) (A:List Bool) (B:List Int) (row:List Int) (l0:List gE) (hl0:l0.length≤16777216) (v13 v19:PV) (R13:List (List PV)) (K:cD) (F:PF) (H:PH)
  (hF:(BY f o v13 v19 0).le F) (hH:gM H o v p A (eC f.drives.length row) B) (h19:bA H 3 v19 (dN l0)) (h13:bA H 3 v13 R13) (hd:Dis 3 v19 v13)
  (hK:∀ v' F' H',(BY f o v13 v' f.drives.length).le F'→gM H' o v p A (eC f.drives.length row) B→bA H' 3 v' (dN (l0++cE 3 v f.drives.length (nH f row)))→bA H' 3 v13 R13→Dis 3 v' v13→K (.exit 6) F' H') :
  aC.wp C (.loop IJ) K F H:=by
 have hs:=hV.small.drives
 refine wp_loop (α:=Nat × PV × PH) (fun t=>BY f o v13 t.2.1 t.1) (fun t=>t.2.2) (fun t=>t.1≤f.drives.length∧gM t.2.2 o v p A (eC f.drives.length row) B∧bA t.2.2 3 t.2.1 (dN (l0++cE 3 v t.1 (nH f row)))∧bA t.2.2 3 v13 R13∧Dis 3 t.2.1 v13) (fun t=>f.drives.length-t.1) (0,v19,H)
  ⟨baR _,hH,by rw[show cE 3 v 0 (nH f row)=[] from rfl,bbY]; exact h19,h13,hd⟩ hF PH.le_refl ?_
 rintro⟨k,v',H0⟩ ⟨hk,hR,g19,g13,gd⟩
 simp only at hk hR g19 g13 gd ⊢
 simp -implicitDefEqProofs only[go_sem,γ,IJ,afR,BY]
 by_cases hlt:k<f.drives.length
 ·have hlt':(k:Int)<(f.drives.length:Nat):=by omega
  have hat:=tR (l:=eC f.drives.length row) (i:=k) (by rw[gN]; exact hlt)
  have hgk:(eC f.drives.length row).getD k 0=(eC f.drives.length row)[k]'(by rw[gN]; exact hlt):=by
   rw[bbI,baQ (by rw[gN]; exact hlt)]; rfl
  have e3:=lZ 3 v k (nH f row)
  have ht:nH f row k=decide ((eC f.drives.length row)[k]'(by rw[gN]; exact hlt)>1):=by rw[nH,hgk]
  have hl3:=fE 3 v k (nH f row)
  simp -implicitDefEqProofs only[go_sem,γ,hlt',afS,bbF,hR.hD,hat,afT]
  by_cases c:(eC f.drives.length row)[k]'(by rw[gN]; exact hlt)>1
  ·rw[if_pos (by rw[ht]; simp[c])] at e3
   simp -implicitDefEqProofs only[go_sem,γ,c,afU]
   refine⟨159,[.ptr o.o5 1 0 0],rfl,?_⟩
   refine sS (vs:=[.int .i64 3,.int .i64 k]) (L.bad o.o5 v 3 k) rfl (PH.aA PH.nil_le hR.h5) ?_
   have hone:(1:Nat)*3≤16777216:=by decide
   simp -implicitDefEqProofs only[go_sem,υ,δ,γ,η,ζ,hone]
   refine jH (src:=[(⟨3,v,k⟩:gE).cells]) g19 g13 gd rfl (by unfold roomFor; rw[iJ,baI]; simp only[baL,maxLen]; omega) fun v' H' k1 k2 k3 k4=>?_
   rw[mS,bbJ,← e3] at k1
   simp -implicitDefEqProofs only[go_sem,γ,IP,aL (show k<9223372036854775807 by omega)]
   refine aH (k+1,v',H') ⟨hlt,hR.keep k4,k1,k2,k3⟩ (by simp only; omega) ?_ PH.le_refl
   (repeat' (first|exact PF.nil_le|refine PF.aA ?_ ?_))<;>first|(simp -implicitDefEqProofs only[go_sem,γ]<;>rfl)|rfl
  ·rw[if_neg (by rw[ht]; simp; omega)] at e3
   rw[← e3] at g19
   simp -implicitDefEqProofs only[go_sem,γ,c,IP,aL (show k<9223372036854775807 by omega)]
   refine aH (k+1,v',H0) ⟨hlt,hR,g19,g13,gd⟩ (by simp only; omega) ?_ PH.le_refl
   (repeat' (first|exact PF.nil_le|refine PF.aA ?_ ?_))<;>first|(simp -implicitDefEqProofs only[go_sem,γ]<;>rfl)|rfl
 ·have hlt':¬ (k:Int)<(f.drives.length:Nat):=by omega
  have:k=f.drives.length:=by omega
  subst this
  simp -implicitDefEqProofs only[go_sem,hlt']
  exact hK v' _ _ (by unfold BY; (repeat' (first|exact PF.nil_le|refine PF.aA ?_ ?_))<;>first|(simp -implicitDefEqProofs only[go_sem,γ]<;>rfl)|rfl) hR g19 g13 gd
theorem aGZ {C:Ctx} (f:aI) (hV:VF f) (o:Obs) (v:Nat) (p:cJ) (A:List Bool) (D B:List Int) (i:Nat) (hi:i<f.domains.length) (K:PF→PH→Prop) (F:PF) (H:PH)
  (hH:gM H o v p A D B) (f3:F 3=some (.rptr f.cells)) (f7:F 7=some (.ptr o.o7 17 0 0)) (f22:F 22=some (.int .i64 i))
  (hK:∀ F':PF,F' 24=some (.int .i64 (dV f p i))→(∀ j,j<147→j≠24→F' j=F j)→K F' H):wpOps C IQ K F H:=by
 obtain⟨l0,l4,-⟩:=hV.lO hi
 have h5:((lvl f i)<((5:Nat):Int)):=by omega
 unfold dV at hK
 simp -implicitDefEqProofs only[go_sem,δ,γ,θ,IQ,f3,f7,f22,mG hi,anW hi,l0,h5,Nat.mul_one]
 have hc:lvl f i=0∨lvl f i=1∨lvl f i=2∨lvl f i=3∨lvl f i=4:=by omega
 have fin:∀ (F':PF),F' 24=some (.int .i64 (p.spread (lvl f i).toNat))→(∀ j,j<147→j≠24→F' j=F j)→K F' H:=hK
 have low:∀ (j:Nat),j<147→j≠147∧j≠148∧j≠149∧j≠150∧j≠151∧j≠152∧j≠153∧j≠154∧j≠155:=by omega
 rcases hc with h | h | h | h | h
 all_goals
  rw[h] at fin ⊢
  simp -implicitDefEqProofs only[go_sem,ν,δ,γ,θ,hH.h7]
  refine fin _ rfl fun j hj hj2=>?_
  obtain⟨n1,n2,n3,n4,n5,n6,n7,n8,n9⟩:=low j hj
  simp -implicitDefEqProofs only[go_sem,hj2,n1,n2,n3,n4,n5,n6,n7,n8,n9]
theorem aLO {C:Ctx} (L:yC C) (f:aI) (hV:VF f) (o:Obs) (v:Nat) (p:cJ) (A:List Bool) (D:List Int) (row:List Int) (l0:List gE) (hl0:l0.length≤100000000) (v19:PV) (K:cD) (F:PF) (H:PH)
  (hF:(ahR f o v19 0).le F) (hH:gM H o v p A D (dR f row)) (h19:bA H 3 v19 (dN l0))
  (hK:∀ v' F' H',F' 19=some v'→bA H' 3 v' (dN (l0++cE 5 v f.domains.length (rW f p row)))→K (.exit 8) F' H') :
  aC.wp C (.loop IK) K F H:=by
 have hs:=hV.small.domains
 refine wp_loop (α:=Nat × PV × PH) (fun t=>ahR f o t.2.1 t.1) (fun t=>t.2.2) (fun t=>t.1≤f.domains.length∧gM t.2.2 o v p A D (dR f row)∧bA t.2.2 3 t.2.1 (dN (l0++cE 5 v t.1 (rW f p row)))) (fun t=>f.domains.length-t.1) (0,v19,H)
  ⟨baR _,hH,by rw[show cE 5 v 0 (rW f p row)=[] from rfl,bbY]; exact h19⟩ hF PH.le_refl ?_
 rintro⟨k,v',H0⟩ ⟨hk,hR,g19⟩
 simp only at hk hR g19 ⊢
 simp -implicitDefEqProofs only[go_sem,γ,IK,afX,ahR]
 by_cases hlt:k<f.domains.length
 ·have hlt':(k:Int)<(f.domains.length:Nat):=by omega
  have hat:=tR (l:=dR f row) (i:=k) (by rw[rC]; exact hlt)
  have hgk:(dR f row).getD k 0=(dR f row)[k]'(by rw[rC]; exact hlt):=by
   rw[bbI,baQ (by rw[rC]; exact hlt)]; rfl
  have e5:=lZ 5 v k (rW f p row)
  have hl5:=fE 5 v k (rW f p row)
  have ht:rW f p row k=(decide (dV f p k>0)&&decide ((dR f row)[k]'(by rw[rC]; exact hlt)>dV f p k)):=by rw[rW,hgk]
  generalize (dR f row)[k]'(by rw[rC]; exact hlt)=cnt at *
  simp -implicitDefEqProofs only[go_sem,γ,hlt',afY,bbF,hR.hB,hat]
  refine aGZ f hV o v p A D (dR f row) k hlt _ _ _ hR rfl rfl rfl fun F' h24 hlow=>?_
  have g:=fun (q:Nat) (h1:q<147) (h2:q≠24)=>hlow q h1 h2
  have q3:=g 3 (by decide) (by decide)
  have q5:=g 5 (by decide) (by decide)
  have q7:=g 7 (by decide) (by decide)
  have q11:=g 11 (by decide) (by decide)
  have q19:=g 19 (by decide) (by decide)
  have aQU:=g 140 (by decide) (by decide)
  have aQV:=g 141 (by decide) (by decide)
  have YP:=g 142 (by decide) (by decide)
  have q22:=g 22 (by decide) (by decide)
  have q23:=g 23 (by decide) (by decide)
  simp -implicitDefEqProofs only [go_sem,Nat.reduceEqDiff,reduceIte] at q3 q5 q7 q11 q19 aQU aQV YP q22 q23
  by_cases c1:dV f p k>0
  ·by_cases c2:cnt>dV f p k
   ·rw[if_pos (by rw[ht]; simp[c1,c2])] at e5
    simp -implicitDefEqProofs only[go_sem,γ,vL,h24,q23,c1,c2,afZ,q19,q11,q22]
    refine⟨159,[.ptr o.o5 1 0 0],rfl,?_⟩
    refine sS (vs:=[.int .i64 5,.int .i64 k]) (L.bad o.o5 v 5 k) rfl (PH.aA PH.nil_le hR.h5) ?_
    have hone:(1:Nat)*3≤16777216:=by decide
    simp -implicitDefEqProofs only[go_sem,υ,δ,γ,η,ζ,hone]
    refine jH (rows':=[]) (u:=.nils) (src:=[(⟨5,v,k⟩:gE).cells]) g19 .nil (fun _ _ _ _ _ h=>by cases h) rfl (by unfold roomFor; rw[iJ,baI]; simp only[baL,maxLen]; omega) fun v' H' k1 k2 k3 k4=>?_
    rw[mS,bbJ,← e5] at k1
    simp -implicitDefEqProofs only[go_sem,γ,vM,YP,aL (show k<9223372036854775807 by omega)]
    refine aH (k+1,v',H') ⟨hlt,hR.keep k4,k1⟩ (by simp only; omega) ?_ PH.le_refl
    repeat' first|exact PF.nil_le|refine PF.aA ?_ ?_|rfl|assumption
   ·rw[if_neg (by rw[ht]; simp; omega)] at e5
    rw[← e5] at g19
    simp -implicitDefEqProofs only[go_sem,γ,vL,h24,q23,c1,c2,vM,YP,aL (show k<9223372036854775807 by omega)]
    refine aH (k+1,v',H0) ⟨hlt,hR,g19⟩ (by simp only; omega) ?_ PH.le_refl
    repeat' first|exact PF.nil_le|refine PF.aA ?_ ?_|rfl|assumption
  ·rw[if_neg (by rw[ht]; simp; omega)] at e5
   rw[← e5] at g19
   simp -implicitDefEqProofs only[go_sem,γ,reduceCtorEq,vL,h24,q23,c1,vM,YP,aL (show k<9223372036854775807 by omega)]
   refine aH (k+1,v',H0) ⟨hlt,hR,g19⟩ (by simp only; omega) ?_ PH.le_refl
   repeat' first|exact PF.nil_le|refine PF.aA ?_ ?_|rfl|assumption
 ·have hlt':¬ (k:Int)<(f.domains.length:Nat):=by omega
  have:k=f.domains.length:=by omega
  subst this
  simp -implicitDefEqProofs only[go_sem,hlt']
  exact hK v' _ _ rfl g19
end Go.PM
namespace Go.PM
open Go Go.Na
theorem aiS (n:Nat):baH n [PV.bool false]=eR (marks n []):=by rw[abN]; simp[eR]
theorem aHZ (n:Nat):baH n [PV.int .i64 0]=dE (eC n []):=by rw[aiU,qM]
theorem aNV (f:aI):baH f.domains.length [PV.int .i64 0]=dE (dR f []):=by
 have:dR f []=baH f.domains.length 0:=by
  refine bcZ (by simp[dR]) fun i h1 h2=>?_
  simp[dR,lN]
 rw[this,qM]
def aGX (f:aI) (l:List (List Int)) (o5 o7 o8:Nat) (ms:List Int) (k:Nat):PF :=
 ((((((((PF.nil.set 1 (lay l)).set 3 (.rptr f.cells)).set 5 (.ptr o5 1 0 0)).set 7 (.ptr o7 17 0 0)).set 8 (.osl o8 1 0 f.models.length)).set 40 (ints ms)).set 41 (.int .i64 (ms.length:Nat))).set 42 (.int .i64 k))
theorem aRP {C:Ctx} (L:yC C) (f:aI) (hV:VF f) (hfit:∀ p∈f.policies,Fits p.models) (l:List (List Int)) (v:Nat) (hv:v<l.length) (hvf:v<f.volumes.length) (hr:ahP f l[v]) :
  CM.wp C (aZ ahT.res (bW (QS (rO f (jA f v) v l[v])))) (PF.args [.agg f.cells,lay l,.int .i64 v]) .nil:=by
 obtain⟨hp,he⟩:=arL hV hvf
 have hpol:=hV.policy _ (baN hp)
 have hms:=hfit _ (baN hp)
 rw[he] at hpol hms
 generalize hpe:jA f v=p at *
 have hpm:=hpol.2.2.2.2.2.2.2
 have hrow:(l.map fun r=>[ints r])[v]?=some [ints l[v]]:=by simp[hv]
 generalize l[v]=row at *
 have hs:=hV.small
 have hb1:((f.models.length:Nat):Int)*((1:Nat):Int)≤140737488355328:=by have:=hs.models; omega
 have hb2:((f.models.length:Nat):Int)≤9223372036854775807:=by have:=hs.models; omega
 have hb3:((f.drives.length:Nat):Int)*((8:Nat):Int)≤140737488355328:=by have:=hs.drives; omega
 have hb4:((f.drives.length:Nat):Int)≤9223372036854775807:=by have:=hs.drives; omega
 have hb5:((f.domains.length:Nat):Int)*((8:Nat):Int)≤140737488355328:=by have:=hs.domains; omega
 have hb6:((f.domains.length:Nat):Int)≤9223372036854775807:=by have:=hs.domains; omega
 simp -implicitDefEqProofs only[go_sem,γ,CM,atH]
 refine aP fun o5 h5=>?_
 simp -implicitDefEqProofs only[go_sem]
 refine cC (PH.nil.set o5 (.rows 1 [[.int .i64 v]])) eE (PH.aA PH.nil_le (by simp -implicitDefEqProofs only[go_sem])) ?_
 simp -implicitDefEqProofs only[go_sem,δ,γ,θ,reduceCtorEq,atI,WQ hvf,hV.aLG hvf,MI hp,he]
 refine aP fun o7 h7=>?_
 have n57:o5≠o7:=by rintro rfl; simp only[aU,if_true] at h7; cases h7
 simp -implicitDefEqProofs only[go_sem,δ,γ,n57]
 refine⟨PH.aA PH.nil_le (by simp -implicitDefEqProofs only[go_sem,n57]),?_⟩
 simp -implicitDefEqProofs only[go_sem,δ,γ,θ,atJ,baF,hb1,hb2]
 refine aP fun o8 h8=>?_
 have n58:o5≠o8:=by rintro rfl; simp only[aU,n57,if_true,if_false] at h8; cases h8
 have n78:o7≠o8:=by rintro rfl; simp only[aU,if_true] at h8; cases h8
 simp -implicitDefEqProofs only[go_sem,δ,γ,θ,atK,n78,baF]
 rw[aiS]
 refine wp_loop (α:=Nat) (fun k=>aGX f l o5 o7 o8 p.models k) (fun k=>((PH.nil.set o5 (.rows 1 [[.int .i64 v]])).set o7 (.rows 17 [p.cells])).set o8 (.rows 1 (eR (marks f.models.length (p.models.take k))))) (fun k=>k≤p.models.length) (fun k=>p.models.length-k) 0 (baR _) ?_ ?_ ?_
 ·unfold aGX
  (repeat' (first|exact PF.nil_le|refine PF.aA ?_ ?_))<;>first|(simp -implicitDefEqProofs only[go_sem,γ,baF]<;>rfl)|rfl
 ·refine PH.aA (PH.aA (PH.aA PH.nil_le ?_) ?_) ?_
  ·simp -implicitDefEqProofs only[go_sem,n57,n58]
  ·simp -implicitDefEqProofs only[go_sem,n78]
  ·simp -implicitDefEqProofs only[go_sem,List.take_zero]
 intro k hk
 simp -implicitDefEqProofs only[go_sem,γ,atG,atL,aGX]
 by_cases hlt:k<p.models.length
 ·have hlt':(k:Int)<(p.models.length:Nat):=by omega
  have hmk:(p.models.map fun n=>[PV.int .i64 n])[k]?=some [.int .i64 p.models[k]]:=by simp[hlt]
  obtain⟨m1,m2⟩:=hpm _ (baN hlt)
  have hbl:(p.models[k]).toNat<(eR (marks f.models.length (p.models.take k))).length:=by rw[ZC,aJW]; omega
  have hbs:(eR (marks f.models.length (p.models.take k)))[(p.models[k]).toNat]?=some [.bool ((p.models.take k).contains p.models[k])]:=by
   unfold eR
   rw[bbU,OQ m1 m2]; rfl
  simp -implicitDefEqProofs only[go_sem,γ,hlt',atM,hmk,atN,m1,m2,bbF,hbs,qZ,abO m1 m2,atO,aL (show k<9223372036854775807 by omega)]
  refine aH (k+1) hlt (by omega) ?_ ?_
  ·(repeat' (first|exact PF.nil_le|refine PF.aA ?_ ?_))<;>first|(simp -implicitDefEqProofs only[go_sem,γ]<;>rfl)|rfl
  ·rw[bcO hlt]
   refine PH.aA (PH.aA (PH.aA PH.nil_le ?_) ?_) ?_
   ·simp -implicitDefEqProofs only[go_sem,n57,n58]
   ·simp -implicitDefEqProofs only[go_sem,n78]
   ·simp -implicitDefEqProofs only[go_sem]
 ·have hlt':¬ (k:Int)<(p.models.length:Nat):=by omega
  have:k=p.models.length:=by omega
  subst this
  simp -implicitDefEqProofs only[go_sem,γ,hlt',atQ,afH,bbP]
  refine cC .nil eE PH.nil_le ?_
  simp -implicitDefEqProofs only[go_sem,δ,γ,θ,afI,baF,hb3,hb4,hb5,hb6]
  refine aP fun oD hD=>?_
  have n5D:o5≠oD:=by rintro rfl; simp only[aU,n57,n58,if_true,if_false] at hD; cases hD
  have n7D:o7≠oD:=by rintro rfl; simp only[aU,n78,if_true,if_false] at hD; cases hD
  have n8D:o8≠oD:=by rintro rfl; simp only[aU,if_true] at hD; cases hD
  simp -implicitDefEqProofs only[go_sem,δ,γ,θ,baF,hb3,hb4,hb5,hb6]
  refine aP fun oB hB=>?_
  have n5B:o5≠oB:=by rintro rfl; simp only[aU,n57,n58,n5D,if_true,if_false] at hB; cases hB
  have n7B:o7≠oB:=by rintro rfl; simp only[aU,n78,n7D,if_true,if_false] at hB; cases hB
  have n8B:o8≠oB:=by rintro rfl; simp only[aU,n8D,if_true,if_false] at hB; cases hB
  have nDB:oD≠oB:=by rintro rfl; simp only[aU,if_true] at hB; cases hB
  rw[aHZ,aNV]
  simp -implicitDefEqProofs only[go_sem,γ,afJ,n57,n58,n5D,n5B,hrow,baF]
  have hne:(⟨o5,o7,o8,oD,oB⟩:Obs).Ne:=⟨n5D,n5B,n7D,n7B,n8D,n8B,nDB⟩
  refine aQZ L f hV ⟨o5,o7,o8,oD,oB⟩ hne v p hpm row hr _ _ _ ?_ ⟨?_,?_,?_,?_,?_⟩ ?_
  ·unfold hJ
   (repeat' (first|exact PF.nil_le|refine PF.aA ?_ ?_))<;>first|(simp -implicitDefEqProofs only[go_sem,γ]<;>rfl)|rfl
  ·simp -implicitDefEqProofs only[go_sem,n57,n58,n5D,n5B]
  ·simp -implicitDefEqProofs only[go_sem,n78,n7D,n7B]
  ·simp -implicitDefEqProofs only[go_sem,n8D,n8B]
  ·simp -implicitDefEqProofs only[go_sem,nDB]
  ·simp -implicitDefEqProofs only[go_sem]
  intro v12 v13 F1 H1 hF1 hR1 g12 g13 gd
  have g:=fun (q:Nat) u h=>hF1 q u h
  unfold hJ at g
  have q3:=g 3 _ rfl
  have q5:=g 5 _ rfl
  have q7:=g 7 _ rfl
  have q11:=g 11 _ rfl
  have q12:=g 12 _ rfl
  have q13:=g 13 _ rfl
  have q14:=g 14 _ rfl
  have q15:=g 15 _ rfl
  simp -implicitDefEqProofs only[go_sem,γ,afP,q12,afQ,q14]
  have l2:=fE 2 v row.length (home row)
  have l3:=fE 3 v f.drives.length (nH f row)
  have l4:=fE 4 v row.length (eH f p row)
  have hr1:=hr.len
  have hd24:=hs.drives
  refine aLP L f hV ⟨o5,o7,o8,oD,oB⟩ v p _ _ row (cE 2 v row.length (home row)) (by omega) v13 v12 _ _ _ H1 ?_ hR1 g12 g13 gd ?_
  ·unfold BY
   repeat' first|exact PF.nil_le|refine PF.aA ?_ ?_|rfl|assumption
  intro v19 F2 H2 hF2 hR2 g19 g13' gd2
  have g:=fun (q:Nat) u h=>hF2 q u h
  unfold BY at g
  have q3:=g 3 _ rfl
  have q5:=g 5 _ rfl
  have q7:=g 7 _ rfl
  have q11:=g 11 _ rfl
  have q13:=g 13 _ rfl
  have q15:=g 15 _ rfl
  have q19:=g 19 _ rfl
  simp -implicitDefEqProofs only[go_sem,γ,afV,q19,q13]
  refine jH g19 g13' gd2 g13'.view (by unfold roomFor; rw[iJ,iJ,baI]; simp only[maxLen]; omega) fun v19' H3 k1 k2 k3 k4=>?_
  simp -implicitDefEqProofs only[go_sem,γ,afW,q15]
  have hvr:dN (cE 2 v row.length (home row)++cE 3 v f.drives.length (nH f row))++dN (cE 4 v row.length (eH f p row))=dN (cE 2 v row.length (home row)++cE 3 v f.drives.length (nH f row)++cE 4 v row.length (eH f p row)):=by
   simp only[dN,bcA]
  rw[hvr] at k1
  refine aLO L f hV ⟨o5,o7,o8,oD,oB⟩ v p _ _ row _ (by simp only[baI]; omega) v19' _ _ H3 ?_ (hR2.keep k4) k1 ?_
  ·unfold ahR
   repeat' first|exact PF.nil_le|refine PF.aA ?_ ?_|rfl|assumption
  intro v20 F4 H4 hF4 hO4
  simp -implicitDefEqProofs only[go_sem,agA,hF4]
  exact mP (.inr rfl) hO4 rfl
end Go.PM
namespace Go.PM
open Go Go.Na
structure aiI (C:Ctx):Prop extends yC C where
 row:∀ (f:aI) (l:List (List Int)) (v:Nat),VF f→(∀ p∈f.policies,Fits p.models)→(h:v<l.length)→v<f.volumes.length→ahP f l[v]→aJ C 158 [.agg f.cells,lay l,.int .i64 v] .nil (aK (QS (rO f (jA f v) v l[v])))
def HG (f:aI) (l:List (List Int)) (v:Nat):List gE:=match lW f l v with
 | some x=>[x]
 | none=>rO f (jA f v) v (l.getD v [])
def qK (f:aI) (l:List (List Int)) (n:Nat):List gE:=(baW n).flatMap (HG f l)
def over (f:aI) (l:List (List Int)) (room:List Int) (d:Nat):Bool:=decide ((iV f l).getD d 0>(lF f room).getD d 0)
def a1Q (f:aI) (l:List (List Int)) (room:List Int):List gE:=qK f l l.length++cE 6 (-1) f.drives.length (over f l room)
def nI (f:aI) (l:List (List Int)) (room:List Int):List gE :=
 if cL f then (if l.length=f.volumes.length then a1Q f l room else [⟨1,-1,(l.length:Nat)⟩]) else []
theorem DM {p:Int→Bool}:∀ {l:List Int} {i:Nat},jQ p l i=none→∀ x∈l,p x=false
 | [],_,_,x,hx=>absurd hx (baY)
 | y::t,i,h,x,hx=>by
  rw[jQ] at h
  split at h
  ·cases h
  ·rename_i hy
   rcases baP.1 hx with rfl | hx
   ·simpa using hy
   ·exact DM h x hx
theorem adH {f:aI} {l:List (List Int)} (hl:jG l) {v:Nat} (hv:v<l.length) (h:lW f l v=none):ahP f l[v]:=by
 have hg:l.getD v []=l[v]:=by simp[bbI,hv]
 unfold lW at h
 rw[hg] at h
 split at h
 ·rw[Option.map_eq_none_iff] at h
  refine⟨?_,fun x hx=>?_⟩
  ·have h1:=NO l (v+1)
   have:=hl.all
   rw[EN l hv,baI] at h1
   omega
  ·have:=DM h x hx
   simp[pT] at this
   omega
 ·cases h
theorem aHV (f:aI) (p:cJ) (v:Nat) (row:List Int):(rO f p v row).length≤2*row.length+f.drives.length+f.domains.length:=by
 unfold rO
 have l2:=fE 2 v row.length (home row)
 have l3:=fE 3 v f.drives.length (nH f row)
 have l4:=fE 4 v row.length (eH f p row)
 have l5:=fE 5 v f.domains.length (rW f p row)
 simp only[baI]
 omega
theorem arD {f:aI} (hs:Small f) {l:List (List Int)} (hl:jG l) {v:Nat} (hv:v<l.length):(HG f l v).length≤100000000:=by
 unfold HG
 split
 ·simp
 ·rename_i h
  have hg:l.getD v []=l[v]:=by simp[bbI,hv]
  have:=aHV f (jA f v) v (l.getD v [])
  have h1:=(adH hl hv h).len
  have:=hs.drives
  have:=hs.domains
  rw[hg] at *
  omega
theorem RL (f:aI) (l:List (List Int)) (n:Nat):qK f l (n+1)=qK f l n++HG f l n:=by
 unfold qK
 rw[List.range_succ,List.flatMap_append]
 simp
theorem EM {f:aI} (hs:Small f) {l:List (List Int)} (hl:jG l):∀ {n:Nat},n≤l.length→(qK f l n).length≤n*100000000
 | 0,_=>by simp[qK]
 | n+1,h=>by
  rw[RL,baI]
  have:=EM hs hl (n:=n) (by omega)
  have:=arD hs hl (v:=n) (by omega)
  omega
def viF (f:aI) (l:List (List Int)) (room:List Int) (v7:PV) (k:Nat):PF:=((((((PF.nil.set 1 (lay l)).set 2 (ints room)).set 3 (.rptr f.cells)).set 7 (v7)).set 30 (.int .i64 (l.length:Nat))).set 31 (.int .i64 k))
def viG (f:aI) (l:List (List Int)) (room:List Int) (v7:PV) (k:Nat):PF:=(((((PF.nil.set 7 (v7)).set 11 (ints (lF f room))).set 58 (ints (iV f l))).set 59 (.int .i64 (f.drives.length:Nat))).set 60 (.int .i64 k))
theorem aNU {C:Ctx} (f:aI) (hV:VF f) (l:List (List Int)) (room:List Int) (l0:List gE) (hl0:l0.length≤2000000000) (v7:PV) (K:cD) (F:PF) (H:PH)
  (hF:(viG f l room v7 0).le F) (hO:bA H 3 v7 (dN l0))
  (hK:∀ v' F' H',F' 7=some v'→bA H' 3 v' (dN (l0++cE 6 (-1) f.drives.length (over f l room)))→K (.exit 3) F' H'):aC.wp C (.loop IE) K F H:=by
 have hs:=hV.small.drives
 refine wp_loop (α:=Nat × PV × PH) (fun t=>viG f l room t.2.1 t.1) (fun t=>t.2.2) (fun t=>t.1≤f.drives.length∧bA t.2.2 3 t.2.1 (dN (l0++cE 6 (-1) t.1 (over f l room)))) (fun t=>f.drives.length-t.1) (0,v7,H)
  ⟨baR _,by rw[show cE 6 (-1) 0 (over f l room)=[] from rfl,bbY]; exact hO⟩ hF PH.le_refl ?_
 rintro⟨k,v',H0⟩ ⟨hk,g7⟩
 simp only at hk g7 ⊢
 simp -implicitDefEqProofs only[go_sem,ο,γ,IE,afA,viG]
 by_cases hlt:k<f.drives.length
 ·have hlt':(k:Int)<(f.drives.length:Nat):=by omega
  have hk1:k<(iV f l).length:=by rw[iV,gN]; exact hlt
  have hk2:k<(lF f room).length:=by rw[adE]; exact hlt
  have a1:((iV f l).map fun n=>[PV.int .i64 n])[k]?=some [.int .i64 (iV f l)[k]]:=by simp[hk1]
  have a2:((lF f room).map fun n=>[PV.int .i64 n])[k]?=some [.int .i64 (lF f room)[k]]:=by simp[hk2]
  have ho:over f l room k=decide ((iV f l)[k]>(lF f room)[k]):=by simp only[over,bbI,baQ hk1,baQ hk2,bcX]
  have e6:=lZ 6 (-1) k (over f l room)
  have l6:=fE 6 (-1) k (over f l room)
  simp -implicitDefEqProofs only[go_sem,ο,γ,hlt',afB,a1,afC,a2]
  by_cases c:(iV f l)[k]>(lF f room)[k]
  ·rw[if_pos (by rw[ho]; simp[c])] at e6
   have hone:(1:Nat)*3≤16777216:=by decide
   simp -implicitDefEqProofs only[go_sem,ο,υ,δ,γ,η,θ,ζ,c,afD,hone]
   refine jH (rows':=[]) (u:=.nils) (src:=[(⟨6,-1,k⟩:gE).cells]) g7 .nil (fun _ _ _ _ _ h=>by cases h) rfl (by unfold roomFor; rw[iJ,baI]; simp only[baL,maxLen]; omega) fun v' H' k1 k2 k3 k4=>?_
   rw[mS,bbJ,← e6] at k1
   simp -implicitDefEqProofs only[go_sem,ο,γ,IH,aL (show k<9223372036854775807 by omega)]
   refine aH (k+1,v',H') ⟨hlt,k1⟩ (by simp only; omega) ?_ PH.le_refl
   (repeat' (first|exact PF.nil_le|refine PF.aA ?_ ?_))<;>first|(simp -implicitDefEqProofs only[go_sem,ο,γ]<;>rfl)|rfl
  ·rw[if_neg (by rw[ho]; simp; omega)] at e6
   rw[← e6] at g7
   simp -implicitDefEqProofs only[go_sem,ο,γ,c,IH,aL (show k<9223372036854775807 by omega)]
   refine aH (k+1,v',H0) ⟨hlt,g7⟩ (by simp only; omega) ?_ PH.le_refl
   (repeat' (first|exact PF.nil_le|refine PF.aA ?_ ?_))<;>first|(simp -implicitDefEqProofs only[go_sem,γ]<;>rfl)|rfl
 ·have hlt':¬ (k:Int)<(f.drives.length:Nat):=by omega
  have:k=f.drives.length:=by omega
  subst this
  simp -implicitDefEqProofs only[go_sem,ο,hlt']
  exact hK v' _ _ rfl g7
theorem aRN {C:Ctx} (L:aiI C) (f:aI) (hf:f.Ok) (l:List (List Int)) (hl:jG l) (room:List Int) :
  CL.wp C (aZ VP.res (bW (QS (nI f l room)))) (PF.args [.agg f.cells,lay l,ints room]) .nil:=by
 simp -implicitDefEqProofs only[go_sem,δ,γ,CL,asX,asY,VP]
 refine aB (L.valid f hf) rfl ?_
 unfold nI
 have hlr:=hl.rows
 have hfit:∀ p∈f.policies,Fits p.models:=fun p hp=>(hf.policy p hp).models
 cases hv:cL f with
 | false =>
  simp -implicitDefEqProofs only[go_sem,ο,γ,reduceCtorEq,baZ,asZ]
  exact mP (rows:=[]) (.inr rfl) .nil rfl
 | true =>
  have hV:=VF.of hv
  by_cases c:l.length=f.volumes.length
  ·have c':(((l.length:Nat):Int) != ((f.volumes.length:Nat):Int))=false:=cH (by omega)
   rw[if_pos c]
   have hv12:=hV.small.volumes
   simp -implicitDefEqProofs only[go_sem,γ,baM,QL,baF,c',atB,atC]
   refine wp_loop (α:=Nat × PV × PH) (fun t=>viF f l room t.2.1 t.1) (fun t=>t.2.2) (fun t=>t.1≤l.length∧bA t.2.2 3 t.2.1 (dN (qK f l t.1))) (fun t=>l.length-t.1) (0,.nils,.nil) ⟨baR _,.nil⟩ ?_ PH.nil_le ?_
   ·unfold viF
    (repeat' (first|exact PF.nil_le|refine PF.aA ?_ ?_))<;>first|(simp -implicitDefEqProofs only[go_sem,γ,baF]<;>rfl)|rfl
   rintro⟨k,v7,H0⟩ ⟨hk,hO⟩
   simp only at hk hO ⊢
   simp -implicitDefEqProofs only[go_sem,γ,aeV,atD,viF]
   by_cases hlt:k<l.length
   ·have hlt':(k:Int)<(l.length:Nat):=by omega
    have hfl:=EM hV.small hl (n:=k) (by omega)
    have hsucc:=RL f l k
    simp -implicitDefEqProofs only[go_sem,δ,γ,hlt',atE,atF]
    refine aB (L.shape f l k hV hl hlt (by omega)) rfl ?_
    cases hsh:lW f l k with
    | some x =>
     have hone:HG f l k=[x]:=by rw[HG,hsh]
     rw[hone] at hsucc
     simp -implicitDefEqProofs only[go_sem,δ,γ,shV]
     refine aP fun o ho=>?_
     have h13:(1:Nat)*3≤16777216:=by decide
     simp -implicitDefEqProofs only[go_sem,υ,δ,γ,η,ζ,IF,aeW,h13]
     refine jH (rows':=[]) (u:=.nils) (src:=[x.cells]) (hO.fresh ho _).1 .nil (fun _ _ _ _ _ h=>by cases h) rfl (by unfold roomFor; rw[iJ]; simp only[baL,maxLen]; omega) fun v' H' k1 k2 k3 k4=>?_
     rw[mS,← hsucc] at k1
     simp -implicitDefEqProofs only[go_sem,γ,IG,aL (show k<9223372036854775807 by omega)]
     refine aH (k+1,v',H') ⟨hlt,k1⟩ (by simp only; omega) ?_ PH.le_refl
     (repeat' (first|exact PF.nil_le|refine PF.aA ?_ ?_))<;>first|(simp -implicitDefEqProofs only[go_sem,γ]<;>rfl)|rfl
    | none =>
     have hg:l.getD k []=l[k]:=by simp[bbI,hlt]
     have hone:HG f l k=rO f (jA f k) k l[k]:=by rw[HG,hsh,hg]
     have hrow:=adH hl hlt hsh
     have hlen:=arD hV.small hl hlt
     rw[hone] at hsucc hlen
     simp -implicitDefEqProofs only[go_sem,δ,γ,shV]
     refine aP fun o ho=>?_
     simp -implicitDefEqProofs only[go_sem,δ,γ,IF,aeX]
     refine aB (L.row f l k hV hfit hlt (by omega) hrow) rfl ?_
     simp -implicitDefEqProofs only[go_sem,γ]
     refine jH (rows':=[]) (u:=.nils) (src:=dN (rO f (jA f k) k l[k])) (hO.fresh ho _).1 .nil (fun _ _ _ _ _ h=>by cases h) rfl (by unfold roomFor; rw[iJ,iJ]; simp only[maxLen]; omega) fun v' H' k1 k2 k3 k4=>?_
     have hvr:dN (qK f l k)++dN (rO f (jA f k) k l[k])=dN (qK f l (k+1)):=by rw[hsucc]; simp only[dN,bcA]
     rw[hvr] at k1
     simp -implicitDefEqProofs only[go_sem,γ,IG,aL (show k<9223372036854775807 by omega)]
     refine aH (k+1,v',H') ⟨hlt,k1⟩ (by simp only; omega) ?_ PH.le_refl
     (repeat' (first|exact PF.nil_le|refine PF.aA ?_ ?_))<;>first|(simp -implicitDefEqProofs only[go_sem,γ]<;>rfl)|rfl
   ·have hlt':¬ (k:Int)<(l.length:Nat):=by omega
    have:k=l.length:=by omega
    subst this
    have hfl:=EM hV.small hl (n:=l.length) (baJ _)
    have hroom:=L.room f room hf
    rw[UJ,hv] at hroom
    have hloads:=L.loads f l hV.small.drives hl
    simp -implicitDefEqProofs only[go_sem,δ,γ,hlt',aeY]
    refine aB hroom rfl ?_
    simp -implicitDefEqProofs only[go_sem,δ,γ,aeZ]
    refine aB hloads rfl ?_
    have hll:(iV f l).length=f.drives.length:=by rw[iV,gN]
    simp -implicitDefEqProofs only[go_sem,γ,baF,hll]
    refine aNU f hV l room (qK f l l.length) (by omega) v7 _ _ H0 ?_ hO ?_
    ·unfold viG
     (repeat' (first|exact PF.nil_le|refine PF.aA ?_ ?_))<;>first|(simp -implicitDefEqProofs only[go_sem,γ]<;>rfl)|rfl
    intro v' F' H' h7 hO'
    simp -implicitDefEqProofs only[go_sem,afE,h7]
    exact mP (.inr rfl) hO' rfl
  ·have c':(((l.length:Nat):Int) != ((f.volumes.length:Nat):Int))=true:=dP (by omega)
   have h13:(1:Nat)*3≤16777216:=by decide
   rw[if_neg c]
   simp -implicitDefEqProofs only[go_sem,ο,υ,δ,γ,η,θ,ζ,baM,QL,baF,c',atA,h13]
   exact aY (.inr rfl) .nil rfl PH.nil_le ⟨.refl _,rfl⟩
structure aSS (C:Ctx):Prop extends aiI C where
 viol:∀ (f:aI) (l:List (List Int)) (room:List Int),f.Ok→jG l→aJ C 154 [.agg f.cells,lay l,ints room] .nil (aK (QS (nI f l room)))
def yK (f:aI) (l:List (List Int)) (room:List Int):Bool:=cL f&&decide ((nI f l room).length=0)
theorem aMH {C:Ctx} (L:aSS C) (f:aI) (hf:f.Ok) (l:List (List Int)) (hl:jG l) (room:List Int) :
  xG.wp C (aZ HZ.res (bW (.bool (yK f l room)))) (PF.args [.agg f.cells,lay l,ints room]) .nil:=by
 simp -implicitDefEqProofs only[go_sem,δ,γ,xG,aeA,aeB,HZ]
 refine aB (L.valid f hf) rfl ?_
 unfold yK
 cases hv:cL f with
 | false =>
  simp -implicitDefEqProofs only[go_sem,γ,reduceCtorEq]
  exact aS rfl rfl
 | true =>
  simp -implicitDefEqProofs only[go_sem,δ,γ]
  refine aB (L.viol f l room hf hl) rfl ?_
  by_cases c:(nI f l room).length=0
  ·simp -implicitDefEqProofs only[go_sem,γ,baF,bS (show (((nI f l room).length:Nat):Int)=0 by omega)]
   exact aS rfl (by simp[c])
  ·simp -implicitDefEqProofs only[go_sem,γ,baF,bE (show (((nI f l room).length:Nat):Int)≠0 by omega)]
   exact aS rfl (by rw[decide_eq_false c])
end Go.PM
namespace Go.PM
open Go
def aAI:Rg:=[iA 2 (.mv (.const (.lit (.pointer none))))]
def aAJ:Rg:=[iM 3 0,iN 4 3,iC 5 .gtr 4 400]
def aAK:Rg:=[iM 6 0,iA 7 (.slice 1 (Tm 6) none (some (Ci 400)) none),iM 0 7]
def XT:Rg:=[iM 8 0,iA 9 (.append 1 1 (.const .nils) (Tm 8)),iA 10 (.build [.nils,(.int .i64 0)] [(0,1,(Tm 9))]),iA 11 (.box false (Tm 10)),iM 2 11]
def GD:aC:=(.seq (.region aAI) (.seq (.seq (.region aAJ) (.cond (Tm 5) (.region aAK) .skip)) (.seq (.region XT) .ret)))
def aVF:List Nat:=[]
def aoY:bD:=⟨1,12,GD,[.tmp 2]⟩
def PG:Rg:=[iI 4 0]
def BH:Rd:=[(iM 5 0,false),(iA 6 (.nilchk (Tm 5)),false),(iF 7 1 6,false),(iL 8 7,false),(iM 9 0,false),(iA 10 (.nilchk (Tm 9)),false),(iF 11 0 10,false),(iL 12 11,false),(iN 13 12,false),(iB 14 .geq 8 13,false),(iM 15 14,false),(iG 16 (.mv (Tm 1)) 15 false,false),(iG 17 (.bin .lss (Tm 16) (Ci 2)) 15 false,false),(iA 18 (.pick (Tm 15) (.const (.bool true)) (Tm 17)),false)]
def PI:Rg:=[iI 4 0]
def aoZ:Rg:=[iM 19 0,iA 20 (.nilchk (Tm 19)),iF 21 1 20,iL 22 21,iC 23 .add 22 1,iA 24 (.nilchk (Tm 19)),iF 25 1 24,iS 1 25 23]
def apA:Rd:=[(iM 26 0,false),(iA 27 (.nilchk (Tm 26)),false),(iF 28 0 27,false),(iL 29 28,false),(iM 30 0,false),(iA 31 (.nilchk (Tm 30)),false),(iF 32 1 31,false),(iL 33 32,false),(iC 34 .sub 33 1,false),(iX 35 1 29 34,false),(iL 36 35,false),(iA 37 (.conv .i64 (Tm 36)),false),(iM 38 1,false),(iB 39 .rem 37 38,false),(iM 4 39,false)]
def sI:aC:=(.seq (.region PG) (.seq (.seq (.draw BH) (.cond (Tm 18) (.seq (.region PI) .ret) .skip)) (.seq (.region aoZ) (.seq (.draw apA) .ret))))
def aQH:List Nat:=[]
def KH:bD:=⟨2,40,sI,[.tmp 4]⟩
def aoD:Rg:=[iA 2 (.alloc [(.bool false),.nils,.nils])]
def aoE:Rg:=[iM 6 0,iA 7 (.call 4 [(Tm 6),(Ci 6)]),iA 8 (.bin .add (Ci 1) (Tm 7)),iM 9 0,iA 10 (.call 4 [(Tm 9),(Ci 8)]),iA 11 (.bin .add (Ci 1) (Tm 10)),iA 12 (.call 50 [(Tm 8),(Tm 11)]),iM 5 12,iA 13 (.extract (Tm 5) 0),iA 14 (.extract (Tm 5) 1),iA 3 (.alloc [(.bool false),.nils,.nils]),iS 3 3 13,iM 4 14]
def aoF:Rg:=[iA 15 (.load (some 3) (Tm 3)),iS 3 2 15]
def BC:aC:=(.seq (.region aoD) (.seq (.region aoE) (.seq (.region aoF) .ret)))
def aQB:List Nat:=[]
def TM:bD:=⟨1,16,BC,[.cell 2 (some 3)]⟩
def aAC:Rg:=[iA 4 (.alloc [(.str []),.nils,.nils,.nils])]
def aAD:Rg:=[iM 16 0,iM 17 1,iA 18 (.call 4 [(Tm 16),(Tm 17)]),iA 19 (.bin .add (Ci 1) (Tm 18)),iM 5 19]
def aAE:Rg:=[iA 6 (.alloc [(.str []),.nils,.nils,.nils])]
def aAF:Rg:=[iI 7 8]
def aAG:Rg:=[iI 8 0]
def aAH:Rg:=[iM 20 8,iM 21 5,iB 22 .lss 20 21]
def XQ:Rg:=[iM 25 7,iM 9 25]
def XR:Rg:=[iM 26 8,iC 27 .add 26 1,iM 28 5,iB 29 .lss 27 28]
def XS:Rg:=[iM 30 0,iM 31 7,iC 32 .add 31 1,iA 33 (.call 4 [(Tm 30),(Tm 32)]),iM 9 33]
def KG:Rg:=[iM 34 7,iM 35 9,iB 36 .sub 34 35,iM 7 36]
def OU:Rg:=[iM 38 9,iA 39 (.call 50 [(Tm 38),(Ci 8)]),iM 37 39,iA 40 (.extract (Tm 37) 0),iA 41 (.extract (Tm 37) 1),iA 10 (.alloc [(.bool false),.nils,.nils]),iS 3 10 40,iM 11 41]
def OV:Rg:=[iF 42 1 6,iL 43 42,iA 44 (.load (some 3) (Tm 10)),iA 45 (.bslice true 3 1 [(.bool false),.nils,.nils] [(0,(Tm 44))]),iA 46 (.append 3 56 (Tm 43) (Tm 45)),iF 47 1 6,iS 1 47 46]
def OW:Rg:=[iM 48 0,iA 49 (.call 1 [(Tm 48)]),iA 12 (.alloc [(.bool false),.nils,.nils]),iS 3 12 49]
def OX:Rg:=[iM 50 8,iC 51 .add 50 1,iM 52 5,iB 53 .lss 51 52,iM 54 53,iG 55 (.mv (Tm 0)) 54 true,iG 56 (.call 4 [(Tm 55),(Ci 3)]) 54 true,iG 57 (.bin .eql (Tm 56) (Ci 0)) 54 true,iA 58 (.pick (Tm 54) (Tm 57) (.const (.bool false)))]
def OY:Rg:=[iA 59 (.call 47 [(Ci 0)]),iS 3 12 59]
def BF:Rg:=[iF 60 3 6,iL 61 60,iA 62 (.load (some 3) (Tm 12)),iA 63 (.bslice true 3 1 [(.bool false),.nils,.nils] [(0,(Tm 62))]),iA 64 (.append 3 56 (Tm 61) (Tm 63)),iF 65 3 6,iS 1 65 64]
def OZ:Rg:=[iA 13 (.mv (.const .nils))]
def PA:Rg:=[iI 14 0]
def aoR:Rg:=[iM 66 14,iM 67 5,iB 68 .lss 66 67]
def aoS:Rg:=[iA 71 (.call 47 [(Ci 0)]),iA 15 (.alloc [(.bool false),.nils,.nils]),iS 3 15 71]
def aoT:Rg:=[iM 72 14,iM 73 8,iC 74 .add 73 1,iB 75 .eql 72 74,iM 76 75,iG 77 (.mv (Tm 14)) 76 false,iG 78 (.mv (Tm 8)) 76 false,iG 79 (.bin .neq (Tm 77) (Tm 78)) 76 false,iG 80 (.mv (Tm 79)) 76 false,iG 81 (.mv (Tm 0)) 80 true,iG 82 (.call 4 [(Tm 81),(Ci 3)]) 80 true,iG 83 (.bin .eql (Tm 82) (Ci 0)) 80 true,iG 84 (.pick (Tm 80) (Tm 83) (.const (.bool false))) 76 false,iA 85 (.pick (Tm 76) (.const (.bool true)) (Tm 84))]
def PB:Rg:=[iM 86 0,iA 87 (.call 1 [(Tm 86)]),iS 3 15 87]
def PC:Rg:=[iM 88 13,iA 89 (.load (some 3) (Tm 15)),iA 90 (.bslice true 3 1 [(.bool false),.nils,.nils] [(0,(Tm 89))]),iA 91 (.append 3 56 (Tm 88) (Tm 90)),iM 13 91]
def PD:Rg:=[iM 69 14,iC 70 .add 69 1,iM 14 70]
def BE:aC:=(.seq (.seq (.region aoR) (.cond (Tm 68) .skip (.exit 2))) (.seq (.block 3 (.seq (.region aoS) (.seq (.seq (.region aoT) (.cond (Tm 85) (.region PB) .skip)) (.region PC)))) (.region PD)))
def PE:Rg:=[iF 92 2 6,iL 93 92,iM 94 13,iA 95 (.bslice true 1 1 [.nils] [(0,(Tm 94))]),iA 96 (.append 1 24 (Tm 93) (Tm 95)),iF 97 2 6,iS 1 97 96]
def aoU:Rg:=[iM 23 8,iC 24 .add 23 1,iM 8 24]
def aoQ:aC:=(.seq (.seq (.region aAH) (.cond (Tm 22) .skip (.exit 0))) (.seq (.block 1 (.seq (.region XQ) (.seq (.seq (.region XR) (.cond (Tm 29) (.region XS) .skip)) (.seq (.region KG) (.seq (.region OU) (.seq (.region OV) (.seq (.region OW) (.seq (.seq (.region OX) (.cond (Tm 58) (.region OY) .skip)) (.seq (.region BF) (.seq (.region OZ) (.seq (.seq (.region PA) (.block 2 (.loop BE))) (.region PE)))))))))))) (.region aoU)))
def aoV:Rg:=[iA 98 (.load (some 4) (Tm 6)),iS 4 4 98]
def GC:aC:=(.seq (.region aAC) (.seq (.region aAD) (.seq (.region aAE) (.seq (.region aAF) (.seq (.seq (.region aAG) (.block 0 (.loop aoQ))) (.seq (.region aoV) .ret))))))
def aVD:List Nat:=[45,63,90,95]
def aoP:bD:=⟨2,99,GC,[.cell 4 (some 4)]⟩
def aAM:Rg:=[iA 4 (.mv (.const .nils))]
def aAN:Rg:=[iA 5 (.mv (.const .nils))]
def aAO:Rg:=[iI 6 0]
def aAP:Rg:=[iM 7 6,iM 8 1,iA 9 (.minmax true (Tm 8) (Ci 1)),iB 10 .lss 7 9]
def aAQ:Rg:=[iM 13 5,iM 14 0,iA 15 (.call 1 [(Tm 14)]),iA 16 (.bslice true 3 1 [(.bool false),.nils,.nils] [(0,(Tm 15))]),iA 17 (.append 3 56 (Tm 13) (Tm 16)),iM 5 17]
def aAR:Rg:=[iM 11 6,iC 12 .add 11 1,iM 6 12]
def aAL:aC:=(.seq (.seq (.region aAP) (.cond (Tm 10) .skip (.exit 0))) (.seq (.block 1 (.region aAQ)) (.region aAR)))
def aAS:Rg:=[iM 18 5,iM 4 18]
def GF:aC:=(.seq (.region aAM) (.seq (.region aAN) (.seq (.seq (.region aAO) (.block 0 (.loop aAL))) (.seq (.region aAS) .ret))))
def aVH:List Nat:=[16]
def apB:bD:=⟨2,19,GF,[.tmp 4]⟩
def aoW:Rg:=[iA 4 (.mv (.const (.str [])))]
def aoX:Rg:=[iM 5 0,iM 6 1,iA 7 (.call 195 [(Tm 6)]),iB 8 .add 5 7,iM 4 8]
def BG:aC:=(.seq (.region aoW) (.seq (.region aoX) .ret))
def aQF:List Nat:=[]
def TN:bD:=⟨2,9,BG,[.tmp 4]⟩
def aoI:Rg:=[iM 12 1,iA 13 (.nilchk (Tm 12)),iF 14 3 13,iL 15 14,iM 16 2,iX 17 7 15 16,iF 18 1 17,iL 19 18,iC 20 .add 19 1,iM 8 20]
def aoJ:Rg:=[iM 21 0,iA 22 (.call 4 [(Tm 21),(Ci 2)]),iA 23 (.bin .add (Ci 1) (Tm 22)),iM 9 23]
def aoK:Rg:=[iM 24 8,iC 25 .eql 24 2]
def aoL:Rg:=[iI 9 1]
def BD:Rg:=[iI 10 0]
def OR:Rg:=[iM 26 10,iM 27 9,iB 28 .lss 26 27]
def OS:Rg:=[iM 31 8,iC 32 .eql 31 5]
def aoM:Rg:=[iM 33 1,iA 34 (.nilchk (Tm 33)),iF 35 4 34,iL 36 35,iN 37 36,iM 38 3,iB 39 .lss 37 38]
def aoN:Rd:=[(iM 40 1,true),(iM 41 1,true),(iA 42 (.nilchk (Tm 41)),true),(iF 43 4 42,true),(iL 44 43,true),(iM 45 1,false),(iA 46 (.nilchk (Tm 45)),false),(iF 47 4 46,false),(iL 48 47,false),(iN 49 48,false),(iA 50 (.call 29 [(.const (.str [100])),(Tm 49)]),true),(iM 51 0,true),(iM 52 1,true),(iA 53 (.nilchk (Tm 52)),true),(iF 54 2 53,true),(iL 55 54,true),(iN 56 55,true),(iA 57 (.call 4 [(Tm 51),(Tm 56)]),true),(iM 58 2,true),(iA 59 (.build [(.str []),(.int .i64 0),(.int .i64 0)] [(0,1,(Tm 50)),(1,1,(Tm 57)),(2,1,(Tm 58))]),false),(iA 60 (.bslice true 3 1 [(.str []),(.int .i64 0),(.int .i64 0)] [(0,(Tm 59))]),false),(iA 61 (.append 3 32 (Tm 44) (Tm 60)),true),(iA 62 (.nilchk (Tm 40)),false),(iF 63 4 62,false)]
def aoO:Rd:=[(iS 1 63 61,true)]
def abY:Rg:=[iM 64 1,iA 65 (.nilchk (Tm 64)),iF 66 4 65,iL 67 66,iN 68 67,iM 69 3,iB 70 .geq 68 69,iM 71 70,iG 72 (.mv (Tm 1)) 71 false,iG 73 (.nilchk (Tm 72)) 71 false,iG 74 (.fieldA 3 (Tm 73)) 71 false,iG 75 (.load none (Tm 74)) 71 false,iG 76 (.len (Tm 75)) 71 false,iG 77 (.bin .geq (Tm 76) (Ci 35)) 71 false,iA 78 (.pick (Tm 71) (.const (.bool true)) (Tm 77))]
def abZ:Rd:=[(iM 79 8,false),(iA 80 (.idxStr (.const (.str [45,115,114,107,109])) (Tm 79)),false),(iA 81 (.bslice true 1 1 [(.int .u8 0)] [(0,(Tm 80))]),false),(iA 82 (.bytes2str (Tm 81)),false),(iM 83 1,false),(iA 84 (.nilchk (Tm 83)),false),(iF 85 3 84,false),(iL 86 85,false),(iN 87 86,false),(iA 88 (.call 29 [(Tm 82),(Tm 87)]),true),(iM 89 8,true),(iM 90 2,true),(iM 91 0,true),(iA 92 (.call 4 [(Tm 91),(Ci 16)]),true),(iA 93 (.bin .add (Ci 1) (Tm 92)),true),(iA 94 (.call 47 [(Ci 0)]),true),(iA 95 (.build [(.str []),(.int .i64 0),(.int .i64 0),(.int .i64 0),(.bool false),.nils,.nils] [(0,1,(Tm 88)),(1,1,(Tm 89)),(2,1,(Tm 90)),(3,1,(Tm 93)),(4,3,(Tm 94))]),false),(iA 11 (.alloc [(.str []),(.int .i64 0),(.int .i64 0),(.int .i64 0),(.bool false),.nils,.nils]),true),(iS 7 11 95,true)]
def acA:Rg:=[iM 96 0,iA 97 (.call 4 [(Tm 96),(Ci 3)]),iC 98 .eql 97 0]
def acB:Rg:=[iM 100 0,iA 101 (.call 4 [(Tm 100),(Ci 6)]),iA 102 (.bin .add (Ci 2) (Tm 101)),iA 103 (.call 50 [(Ci 1),(Tm 102)]),iM 99 103,iA 104 (.extract (Tm 99) 0),iA 105 (.extract (Tm 99) 1),iF 106 4 11,iS 3 106 104]
def GA:Rd:=[(iM 107 1,true),(iM 108 1,false),(iA 109 (.nilchk (Tm 108)),false),(iF 110 3 109,false),(iL 111 110,false),(iA 112 (.load (some 7) (Tm 11)),false),(iA 113 (.bslice true 7 1 [(.str []),(.int .i64 0),(.int .i64 0),(.int .i64 0),(.bool false),.nils,.nils] [(0,(Tm 112))]),false),(iA 114 (.append 7 96 (Tm 111) (Tm 113)),true),(iA 115 (.nilchk (Tm 107)),false),(iF 116 3 115,false),(iS 1 116 114,true)]
def GB:Rg:=[iM 117 0,iM 118 1,iM 119 1,iA 120 (.nilchk (Tm 119)),iF 121 3 120,iL 122 121,iN 123 122,iC 124 .sub 123 1,iM 125 3,iA 126 (.call 7 [(Tm 117),(Tm 118),(Tm 124),(Tm 125)])]
def rI:Rg:=[iM 29 10,iC 30 .add 29 1,iM 10 30]
def rH:aC:=(.seq (.seq (.region OR) (.cond (Tm 28) .skip (.exit 0))) (.seq (.block 1 (.seq (.seq (.region OS) (.cond (Tm 32) (.seq (.seq (.region aoM) (.cond (Tm 39) (.seq (.draw aoN) (.draw aoO)) .skip)) (.exit 1)) .skip)) (.seq (.seq (.region abY) (.cond (Tm 78) .ret .skip)) (.seq (.draw abZ) (.seq (.seq (.region acA) (.cond (Tm 98) (.region acB) .skip)) (.seq (.draw GA) (.region GB))))))) (.region rI)))
def sH:aC:=(.seq (.region aoI) (.seq (.region aoJ) (.seq (.seq (.region aoK) (.cond (Tm 25) (.region aoL) .skip)) (.seq (.region BD) (.block 0 (.loop rH))))))
def aQC:List Nat:=[60,81,113]
def KF:bD:=⟨4,127,sH,[]⟩
def abP:Rg:=[iA 6 (.alloc [(.int .i64 0),.nils,.nils,.nils,.nils,.nils,.nils])]
def abQ:Rg:=[iM 20 0,iA 21 (.call 4 [(Tm 20),(Ci 2)]),iA 22 (.bin .add (Ci 1) (Tm 21)),iA 23 (.build [(.int .i64 0),.nils,.nils,.nils,.nils,.nils,.nils] [(0,1,(Tm 22))]),iA 7 (.alloc [(.int .i64 0),.nils,.nils,.nils,.nils,.nils,.nils]),iS 7 7 23]
def abR:Rg:=[iM 24 0,iA 25 (.call 4 [(Tm 24),(Ci 2)]),iA 26 (.bin .add (Ci 1) (Tm 25)),iM 8 26]
def abS:Rg:=[iI 9 0]
def abT:Rg:=[iM 27 9,iM 28 8,iB 29 .lss 27 28]
def abU:Rg:=[iM 32 0,iA 33 (.call 2 [(Tm 32),(Ci 2)]),iA 10 (.alloc [(.str []),.nils,.nils,.nils]),iS 4 10 33]
def abV:Rg:=[iM 34 9,iA 35 (.call 29 [(.const (.str [108,97,119])),(Tm 34)]),iF 36 0 10,iS 1 36 35]
def abW:Rg:=[iF 37 1 7,iL 38 37,iA 39 (.load (some 4) (Tm 10)),iA 40 (.bslice true 4 1 [(.str []),.nils,.nils,.nils] [(0,(Tm 39))]),iA 41 (.append 4 88 (Tm 38) (Tm 40)),iF 42 1 7,iS 1 42 41]
def abX:Rg:=[iM 30 9,iC 31 .add 30 1,iM 9 31]
def FZ:aC:=(.seq (.seq (.region abT) (.cond (Tm 29) .skip (.exit 0))) (.seq (.block 1 (.seq (.region abU) (.seq (.region abV) (.region abW)))) (.region abX)))
def SQ:Rg:=[iM 43 0,iA 44 (.call 4 [(Tm 43),(Ci 2)]),iA 45 (.bin .add (Ci 1) (Tm 44)),iM 11 45]
def SR:Rg:=[iI 12 0]
def SS:Rg:=[iM 46 12,iM 47 11,iB 48 .lss 46 47]
def ST:Rd:=[(iF 51 2 7,true),(iL 52 51,true),(iM 53 12,false),(iA 54 (.call 29 [(.const (.str [109])),(Tm 53)]),true),(iM 55 0,true),(iA 56 (.call 4 [(Tm 55),(Ci 4)]),true),(iA 57 (.bin .add (Ci 1) (Tm 56)),true),(iM 58 0,true),(iA 59 (.call 4 [(Tm 58),(Ci 8)]),true),(iA 60 (.bin .add (Ci 1) (Tm 59)),true),(iM 61 0,true),(iF 62 1 7,true),(iL 63 62,true),(iN 64 63,true),(iA 65 (.call 4 [(Tm 61),(Tm 64)]),true),(iA 66 (.build [(.str []),(.int .i64 0),(.int .i64 0),(.int .i64 0)] [(0,1,(Tm 54)),(1,1,(Tm 57)),(2,1,(Tm 60)),(3,1,(Tm 65))]),false),(iA 67 (.bslice true 4 1 [(.str []),(.int .i64 0),(.int .i64 0),(.int .i64 0)] [(0,(Tm 66))]),false),(iA 68 (.append 4 40 (Tm 52) (Tm 67)),true),(iF 69 2 7,false)]
def SU:Rd:=[(iS 1 69 68,true)]
def SV:Rg:=[iM 49 12,iC 50 .add 49 1,iM 12 50]
def AR:aC:=(.seq (.seq (.region SS) (.cond (Tm 48) .skip (.exit 2))) (.seq (.block 3 (.seq (.draw ST) (.draw SU))) (.region SV)))
def SW:Rg:=[iA 70 (.call 47 [(Ci 0)]),iA 71 (.build [(.str []),(.int .i64 0),(.int .i64 0),(.int .i64 0),(.bool false),.nils,.nils] [(2,1,(Ci (-1))),(4,3,(Tm 70))]),iA 72 (.bslice false 7 1 [(.str []),(.int .i64 0),(.int .i64 0),(.int .i64 0),(.bool false),.nils,.nils] [(0,(Tm 71))]),iF 73 3 7,iS 1 73 72]
def SX:Rg:=[iM 74 0,iM 75 1,iA 76 (.call 7 [(Tm 74),(Tm 7),(Ci 0),(Tm 75)])]
def SY:Rg:=[iM 77 0,iA 78 (.call 4 [(Tm 77),(Ci 2)]),iA 79 (.bin .add (Ci 1) (Tm 78)),iM 13 79]
def SZ:Rg:=[iI 14 0]
def TA:Rg:=[iM 80 14,iM 81 13,iB 82 .lss 80 81]
def AV:Rg:=[iM 85 14,iA 86 (.call 29 [(.const (.str [112])),(Tm 85)]),iM 87 0,iA 88 (.call 4 [(Tm 87),(Ci 2)]),iA 89 (.bin .add (Ci 1) (Tm 88)),iM 90 0,iA 91 (.call 4 [(Tm 90),(Ci 3)]),iM 92 0,iA 93 (.call 4 [(Tm 92),(Ci 4)]),iA 94 (.bin .add (Ci 1) (Tm 93)),iA 95 (.call 47 [(Tm 94)]),iA 96 (.build [(.str []),(.int .i64 0),(.int .i64 0),(.int .i64 0),(.int .i64 0),(.int .i64 0),(.int .i64 0),(.int .i64 0),(.int .i64 0),.nils,.nils,(.bool false),.nils,.nils,(.bool false),.nils,.nils] [(0,1,(Tm 86)),(1,1,(Tm 89)),(2,1,(Tm 91)),(14,3,(Tm 95))]),iA 15 (.alloc [(.str []),(.int .i64 0),(.int .i64 0),(.int .i64 0),(.int .i64 0),(.int .i64 0),(.int .i64 0),(.int .i64 0),(.int .i64 0),.nils,.nils,(.bool false),.nils,.nils,(.bool false),.nils,.nils]),iS 17 15 96]
def sC:Rd:=[(iF 97 1 15,true),(iL 98 97,true),(iM 99 0,false),(iF 100 2 15,false),(iL 101 100,false),(iC 102 .add 101 1,false),(iA 103 (.call 4 [(Tm 99),(Tm 102)]),true),(iB 104 .add 98 103,false),(iF 105 3 15,false)]
def sD:Rd:=[(iS 1 105 104,true)]
def sE:Rg:=[iM 106 0,iF 107 2 15,iL 108 107,iA 109 (.call 5 [(Tm 106),(Tm 108)]),iF 110 10 15,iS 1 110 109]
def sF:Rg:=[iM 112 0,iA 113 (.call 4 [(Tm 112),(Ci 9)]),iA 114 (.call 50 [(Tm 113),(Ci 8)]),iM 111 114,iA 115 (.extract (Tm 111) 0),iA 116 (.extract (Tm 111) 1),iF 117 11 15,iS 3 117 115]
def AW:Rg:=[iI 16 1]
def TB:Rg:=[iM 118 16,iC 119 .lss 118 5]
def TC:Rg:=[iM 122 0,iA 123 (.call 4 [(Tm 122),(Ci 3)]),iC 124 .eql 123 0]
def TD:Rg:=[iM 125 16,iM 126 0,iA 127 (.call 4 [(Tm 126),(Ci 3)]),iA 128 (.bin .add (Ci 1) (Tm 127)),iF 129 4 15,iA 130 (.idxA 5 1 (Tm 129) (Tm 125)),iS 1 130 128]
def AX:Rg:=[iM 120 16,iC 121 .add 120 1,iM 16 121]
def sB:aC:=(.seq (.seq (.region TB) (.cond (Tm 119) .skip (.exit 6))) (.seq (.block 7 (.seq (.region TC) (.cond (Tm 124) (.region TD) .skip))) (.region AX)))
def AY:Rg:=[iM 131 0,iM 132 11,iA 133 (.call 4 [(Tm 131),(Tm 132)]),iM 17 133]
def AZ:Rg:=[iM 134 17,iA 135 (.bslice false 1 1 [(.int .i64 0)] [(0,(Tm 134))]),iF 136 9 15,iS 1 136 135]
def BA:Rg:=[iM 137 11,iC 138 .gtr 137 1,iM 139 138,iG 140 (.mv (Tm 0)) 139 true,iG 141 (.call 4 [(Tm 140),(Ci 2)]) 139 true,iG 142 (.bin .eql (Tm 141) (Ci 0)) 139 true,iA 143 (.pick (Tm 139) (Tm 142) (.const (.bool false)))]
def BB:Rg:=[iF 144 9 15,iL 145 144,iM 146 17,iA 147 (.bin .sub (Ci 1) (Tm 146)),iA 148 (.bslice true 1 1 [(.int .i64 0)] [(0,(Tm 147))]),iA 149 (.append 1 8 (Tm 145) (Tm 148)),iF 150 9 15,iS 1 150 149]
def sG:Rg:=[iF 151 5 7,iL 152 151,iA 153 (.load (some 17) (Tm 15)),iA 154 (.bslice true 17 1 [(.str []),(.int .i64 0),(.int .i64 0),(.int .i64 0),(.int .i64 0),(.int .i64 0),(.int .i64 0),(.int .i64 0),(.int .i64 0),.nils,.nils,(.bool false),.nils,.nils,(.bool false),.nils,.nils] [(0,(Tm 153))]),iA 155 (.append 17 240 (Tm 152) (Tm 154)),iF 156 5 7,iS 1 156 155]
def TE:Rg:=[iM 83 14,iC 84 .add 83 1,iM 14 84]
def AS:aC:=(.seq (.seq (.region TA) (.cond (Tm 82) .skip (.exit 4))) (.seq (.block 5 (.seq (.region AV) (.seq (.seq (.draw sC) (.draw sD)) (.seq (.region sE) (.seq (.region sF) (.seq (.seq (.region AW) (.block 6 (.loop sB))) (.seq (.region AY) (.seq (.region AZ) (.seq (.seq (.region BA) (.cond (Tm 143) (.region BB) .skip)) (.region sG)))))))))) (.region TE)))
def TF:Rg:=[iM 157 0,iM 158 2,iC 159 .add 158 1,iA 160 (.call 4 [(Tm 157),(Tm 159)]),iM 18 160]
def TG:Rg:=[iI 19 0]
def TH:Rg:=[iM 161 19,iM 162 18,iB 163 .lss 161 162]
def TI:Rd:=[(iF 166 6 7,true),(iL 167 166,true),(iM 168 19,false),(iA 169 (.call 29 [(.const (.str [118])),(Tm 168)]),true),(iM 170 0,true),(iF 171 5 7,true),(iL 172 171,true),(iN 173 172,true),(iA 174 (.call 4 [(Tm 170),(Tm 173)]),true),(iA 175 (.build [(.str []),(.int .i64 0)] [(0,1,(Tm 169)),(1,1,(Tm 174))]),false),(iA 176 (.bslice true 2 1 [(.str []),(.int .i64 0)] [(0,(Tm 175))]),false),(iA 177 (.append 2 24 (Tm 167) (Tm 176)),true),(iF 178 6 7,false)]
def TJ:Rd:=[(iS 1 178 177,true)]
def TK:Rg:=[iM 164 19,iC 165 .add 164 1,iM 19 165]
def AU:aC:=(.seq (.seq (.region TH) (.cond (Tm 163) .skip (.exit 8))) (.seq (.block 9 (.seq (.draw TI) (.draw TJ))) (.region TK)))
def TL:Rg:=[iA 179 (.load (some 7) (Tm 7)),iS 7 6 179]
def wK:aC:=(.seq (.region abP) (.seq (.region abQ) (.seq (.region abR) (.seq (.seq (.region abS) (.block 0 (.loop FZ))) (.seq (.region SQ) (.seq (.seq (.region SR) (.block 2 (.loop AR))) (.seq (.region SW) (.seq (.region SX) (.seq (.region SY) (.seq (.seq (.region SZ) (.block 4 (.loop AS))) (.seq (.region TF) (.seq (.seq (.region TG) (.block 8 (.loop AU))) (.seq (.region TL) .ret)))))))))))))
def aJY:List Nat:=[40,67,148,154,176]
def FY:bD:=⟨3,180,wK,[.cell 6 (some 7)]⟩
def abK:Rg:=[iA 6 (.alloc [(.int .i64 0),.nils,.nils,.nils,.nils,.nils,.nils])]
def abL:Rg:=[iM 7 0,iA 8 (.call 28 [(Tm 7)]),iM 9 1,iM 10 2,iA 11 (.call 0 [(Tm 8),(Tm 9),(Tm 10)]),iS 7 6 11]
def wJ:aC:=(.seq (.region abK) (.seq (.region abL) .ret))
def aJV:List Nat:=[]
def FW:bD:=⟨3,12,wJ,[.cell 6 (some 7)]⟩
end Go.PM
namespace Go.PM
open Go Go.Na
abbrev hQ (l:List Nat):List (List PV):=l.map fun (n:Nat)=>[PV.int .u8 (n:Int)]
theorem JD (l:List Nat):(hQ l).length=l.length:=by simp
theorem aSH (l:List Nat) {i:Nat} (h:i<l.length):(hQ l)[i]?=some [.int .u8 (l[i]:Nat)]:=by simp[h]
abbrev bF (v:PV) (a:Nat):bX:=.rows 2 [[v,.int .i64 a]]
structure Tp (l:List Nat) (v:PV):Prop where
 seen:Seen 1 v (hQ l)
 byte:∀ x∈l,x<256
 len:l.length≤400
def aDX (l:List Nat) (r:PV) (H:PH):Prop:=∃ o v,r=.ptr o 2 0 0∧Tp (l.take 400) v∧H=PH.nil.set o (bF v 0)
theorem ahH {t q s:Nat} {rs:List (List PV)} {F:PF} {H H2:PH} {R:PV→PH→Prop} {v:PV} {e:kG} (he:e=.normal∨e=.ret) (ht:F t=some v) (hq:H q=some (.rows s rs)) (hH:H2.le (H.frz q s rs)) (hR:R (PV.frz q s rs v) H2):aZ [.tmp t] R e F H:=by
 have key:∃ vs,eA.evs F H [.tmp t]=some vs∧∃ F1 H1 H2,gV (PF.nil.set 0 (cU vs)) H F1 H1∧H2.le H1∧∃ u,F1 0=some u∧R u H2:=by
  refine⟨[v],by rw[jR,kW,ht,mQ],_,_,H2,.step q hq (.refl _ _),hH,PV.frz q s rs v,?_,hR⟩
  rw[rF,kP,if_pos rfl,bbN]
  rfl
 rcases he with rfl | rfl<;>exact key
theorem aVE {C:Ctx} (l:List Nat) (hb:∀ x∈l,x<256) (hl:l.length≤9223372036854775807):GD.wp C (aZ aoY.res (aDX l)) (PF.args [.sl 1 (hQ l)]) .nil:=by
 simp -implicitDefEqProofs only[go_sem,γ,reduceCtorEq,GD,aAI,aAJ,aoY,baF]
 have fin:∀ F:PF,F 0=some (.sl 1 (hQ (l.take 400)))→aC.wp C (.seq (.region XT) .ret) (aZ [.tmp 2] (aDX l)) F .nil:=by
  intro F f0
  have htl:(l.take 400).length≤400:=by rw[baV]; omega
  have hbt:∀ x∈l.take 400,x<256:=fun x hx=>hb x (List.mem_of_mem_take hx)
  have hR:∀ o v,Seen 1 v (hQ (l.take 400))→aDX l (.ptr o 2 0 0) (PH.nil.set o (bF v 0)):=fun o v hv=>⟨o,v,rfl,⟨hv,hbt,htl⟩,rfl⟩
  generalize hL:l.take 400=L at *
  simp -implicitDefEqProofs only[go_sem,δ,γ,θ,XT,f0]
  refine uJ (src:=hQ L) rfl ?_ (fun h=>?_) fun h o ho=>?_
  ·unfold roomFor
   rw[JD]
   simp only[maxLen]; omega
  ·simp -implicitDefEqProofs only[go_sem,δ,γ,baP,baY,or_false,forall_eq]
   refine aP fun o ho=>?_
   simp -implicitDefEqProofs only[go_sem,γ]
   exact aY (vs:=[.ptr o 2 0 0]) (.inr rfl) (PH.nil.set o (bF .nils 0)) rfl PH.le_refl (hR o .nils (.inl ⟨h,rfl⟩))
  ·simp -implicitDefEqProofs only[go_sem,δ,γ,baP,baY,or_false,forall_eq]
   refine aP fun p hp=>?_
   have hne:¬ p=o:=(fN.1 hp).1
   have hne':¬ o=p:=fun h=>hne h.symm
   simp -implicitDefEqProofs only[go_sem,γ]
   refine ahH (v:=.ptr p 2 0 0) (q:=o) (s:=1) (rs:=hQ L) (H2:=PH.nil.set p (bF (.sl 1 (hQ L)) 0)) (.inr rfl) rfl (by simp -implicitDefEqProofs only[go_sem,hne']) (PH.aA PH.nil_le ?_) (hR p _ (.inr rfl))
   have h2:(hQ L).take L.length=hQ L:=baS (by rw[JD]; exact baJ _)
   simp -implicitDefEqProofs only[go_sem,hne,bX.frz,PV.cZ,baF,h2]
   rfl
 simp only[aC.wp,go_sem] at fin
 by_cases c:l.length>400
 ·have c':((l.length:Nat):Int)>400:=by omega
  have c2:(400:Int)≤((l.length:Nat):Int):=by omega
  simp -implicitDefEqProofs only[go_sem,κ,ν,γ,reduceCtorEq,c',aAK,baF,c2]
  refine fin _ ?_
  rw[kP,if_pos rfl]
  simp[hQ]
 ·have c':¬ ((l.length:Nat):Int)>400:=by omega
  simp -implicitDefEqProofs only[go_sem,c']
  refine fin _ ?_
  rw[baS (by omega)]
  simp -implicitDefEqProofs only[go_sem,reduceCtorEq]
def QX (l:List Nat) (v:PV) (o n a:Nat) (r:PV) (H:PH):Prop:=r=.int .i64 ((aD l n a).1:Nat)∧H=PH.nil.set o (bF v (aD l n a).2)
theorem aQG {C:Ctx} {l:List Nat} {v:PV} (T:Tp l v) (o n a:Nat) (hn:n≤1000000) (ha:a≤l.length):sI.wp C (aZ KH.res (QX l v o n a)) (PF.args [.ptr o 2 0 0,.int .i64 n]) (PH.nil.set o (bF v a)):=by
 obtain⟨hv,hb,hl⟩:=T
 have zero:(l.length≤a∨n<2)→∀ F,aC.wp C (.seq (.region PI) .ret) (aZ [.tmp 4] (QX l v o n a)) F (PH.nil.set o (bF v a)):=by
  intro h F
  have e:aD l n a=(0,a):=by unfold aD; rw[if_pos h]
  simp -implicitDefEqProofs only[go_sem,PI]
  exact aY (vs:=[.int .i64 0]) (.inr rfl) _ rfl PH.le_refl ⟨by rw[e]; rfl,by rw[e]⟩
 simp only[aC.wp,go_sem] at zero
 rcases hv with ⟨h1,rfl⟩ | rfl
 ·have h0:l.length=0:=by rw[← JD,h1]; rfl
  have hge:(a:Int)≥0:=by omega
  simp -implicitDefEqProofs only[go_sem,sI,PG,KH]
  refine cC .nil eE PH.nil_le ?_
  simp -implicitDefEqProofs only[go_sem,δ,γ,θ,reduceCtorEq,BH,hge]
  exact zero (.inl (by omega)) _
 simp -implicitDefEqProofs only[go_sem,sI,PG,KH]
 refine cC .nil eE PH.nil_le ?_
 by_cases c1:l.length≤a
 ·have c1':(a:Int)≥(l.length:Nat):=by omega
  simp -implicitDefEqProofs only[go_sem,δ,γ,θ,reduceCtorEq,BH,baF,c1']
  exact zero (.inl c1) _
 have c1':¬ (a:Int)≥(l.length:Nat):=by omega
 simp -implicitDefEqProofs only[go_sem,δ,γ,θ,reduceCtorEq,BH,baF,c1']
 by_cases c2:n<2
 ·have c2':(n:Int)<2:=by omega
  simp -implicitDefEqProofs only[go_sem,c2']
  exact zero (.inr c2) _
 have c2':¬ (n:Int)<2:=by omega
 have hal:a<l.length:=by omega
 have e:aD l n a=(l[a]%n,a+1):=by
  unfold aD
  rw[if_neg (by omega)]
  simp[bbI,hal]
 have ew:IntKind.i64.wrap ((a:Int)+1)=((a+1:Nat):Int):=aL (by omega)
 have ep:IntKind.i64.wrap (((a+1:Nat):Int)-1)=((a:Nat):Int):=by rw[wrap_i64 (by omega) (by omega)]; omega
 have hr:=aSH l hal
 have hx:=hb _ (baN hal)
 have eb:IntKind.i64.wrap ((l[a]:Nat):Int)=((l[a]:Nat):Int):=QT (by omega)
 have hn0:¬ ((n:Nat):Int)=0:=by omega
 have em:Int.tmod ((l[a]:Nat):Int) ((n:Nat):Int)=((l[a]%n:Nat):Int):=rfl
 simp -implicitDefEqProofs only[go_sem,δ,γ,reduceCtorEq,c2',aoZ,ew]
 refine cC .nil eE PH.nil_le ?_
 simp -implicitDefEqProofs only[go_sem,δ,γ,θ,reduceCtorEq,apA,ep,hr,eb,hn0,em]
 exact aY (vs:=[.int .i64 (l[a]%n:Nat)]) (.inr rfl) _ rfl PH.le_refl ⟨by rw[e]; rfl,by rw[e]⟩
end Go.PM
namespace Go.PM
open Go
def PV.oid:PV→Option Nat
 | .osl q _ _ _=>some q
 | _=>none
abbrev LI:=PV × Nat × List (List PV)
abbrev BX:=Nat × bX
def dO (B:List BX):List Nat:=B.map (·.1)
def dA (L:List LI):List Nat:=L.filterMap fun x=>x.1.oid
structure aT (H:PH) (B:List BX) (L:List LI):Prop where
 box:∀ b∈B,H b.1=some b.2
 lst:∀ x∈L,bA H x.2.1 x.1 x.2.2
 nd:(dO B++dA L).Nodup
section
variable {C:Ctx} {H:PH} {B:List BX} {L:List LI} {K:PV→PH→Prop}
theorem bA.id {s q:Nat} {v:PV} {rows:List (List PV)} (h:bA H s v rows) (hq:v.oid=some q):∃ rs,H q=some (.rows s rs)∧v=.osl q s 0 rows.length∧rows.length≤rs.length∧rs.take rows.length=rows:=by
 rcases h with ⟨_,rfl⟩ | ⟨p,rs,rfl,h1,h2,h3⟩
 ·cases hq
 ·cases hq
  exact⟨rs,h1,rfl,h2,h3⟩
theorem bA.same {s:Nat} {v:PV} {rows:List (List PV)} {H':PH} (h:bA H s v rows) (hk:∀ q,v.oid=some q→H' q=H q):bA H' s v rows:=by
 rcases h with h | ⟨p,rs,rfl,h1,h2,h3⟩
 ·exact .inl h
 ·exact .inr ⟨p,rs,rfl,by rw[hk p rfl]; exact h1,h2,h3⟩
theorem iW {x:LI} {q:Nat} (h:x∈L) (hq:x.1.oid=some q):q∈dA L:=List.mem_filterMap.2 ⟨x,h,hq⟩
theorem qA {b:BX} (h:b∈B):b.1∈dO B:=bbL.2 ⟨b,h,rfl⟩
theorem aT.nil:aT H [] []:=⟨by simp,by simp,by simp[dO,dA]⟩
theorem aT.at (h:aT H B L) (i:Nat) {o:Nat} {x:bX} (hi:B[i]?=some (o,x)):H o=some x:=h.box _ (bcS hi)
theorem aT.own (h:aT H B L) (i:Nat) {s:Nat} {v:PV} {rows:List (List PV)} (hi:L[i]?=some (v,s,rows)):bA H s v rows:=h.lst _ (bcS hi)
theorem aT.ndB (h:aT H B L):(dO B).Nodup:=(bcU.1 h.nd).1
theorem aT.ndL (h:aT H B L):(dA L).Nodup:=(bcU.1 h.nd).2.1
theorem aT.ndX (h:aT H B L) {o q:Nat} (ho:o∈dO B) (hq:q∈dA L):o≠q:=(bcU.1 h.nd).2.2 o ho q hq
theorem aT.ne (h:aT H B L) (i j:Nat) {o p:Nat} {x y:bX} (hi:B[i]?=some (o,x)) (hj:B[j]?=some (p,y)) (hij:i≠j):o≠p:=by
 intro e
 have h1:(dO B)[i]?=some o:=by unfold dO; rw[bbU,hi]; rfl
 have h2:(dO B)[j]?=some p:=by unfold dO; rw[bbU,hj]; rfl
 obtain⟨li,e1⟩:=bbR.1 h1
 obtain⟨lj,e2⟩:=bbR.1 h2
 have hp:=List.pairwise_iff_getElem.1 h.ndB
 rcases Nat.lt_or_gt_of_ne hij with g | g
 ·exact hp i j li lj g (by rw[e1,e2,e])
 ·exact hp j i lj li g (by rw[e1,e2,e])
theorem aT.neL (h:aT H B L) (i j:Nat) {o q:Nat} {x:bX} {y:LI} (hi:B[i]?=some (o,x)) (hj:L[j]?=some y) (hq:y.1.oid=some q):o≠q :=
 h.ndX (qA (bcS hi)) (iW (bcS hj) hq)
theorem aT.fresh (h:aT H B L) {o:Nat} (ho:H o=none):o ∉ dO B∧o ∉ dA L:=by
 refine⟨fun hm=>?_,fun hm=>?_⟩
 ·obtain⟨b,hb,rfl⟩:=bbL.1 hm
  rw[h.box b hb] at ho; cases ho
 ·obtain⟨x,hx,e⟩:=List.mem_filterMap.1 hm
  obtain⟨rs,h1,_⟩:=(h.lst x hx).id e
  rw[h1] at ho; cases ho
theorem aT.keep (h:aT H B L) {H':PH} (hk:∀ q,q∈dO B∨q∈dA L→H' q=H q):aT H' B L :=
 ⟨fun b hb=>by rw[hk _ (.inl (qA hb))]; exact h.box b hb,fun x hx=>(h.lst x hx).same fun q hq=>hk q (.inr (iW hx hq)),h.nd⟩
theorem aPK {i:Nat} {o:Nat} {x y:bX} (hi:B[i]?=some (o,x)):dO (B.set i (o,y))=dO B:=by
 unfold dO
 rw[List.map_set]
 refine List.ext_getElem? fun j=>?_
 rw[List.getElem?_set]
 split
 ·rename_i e
  subst e
  rw[bbU,hi]
  have:=(bbR.1 hi).1
  simp[this]
 ·rfl
theorem aT.set (h:aT H B L) (i:Nat) {o:Nat} {x:bX} (hi:B[i]?=some (o,x)) (y:bX):aT (H.set o y) (B.set i (o,y)) L:=by
 have hoB:o∈dO B:=qA (bcS hi)
 refine⟨fun b hb=>?_,fun z hz=>(h.lst z hz).same fun q hq=>?_,by rw[aPK hi]; exact h.nd⟩
 ·obtain⟨j,hj⟩:=List.mem_iff_getElem?.1 hb
  rw[List.getElem?_set] at hj
  split at hj
  ·split at hj
   ·cases hj; simp only[aU,if_true]
   ·cases hj
  ·rename_i hne
   have:b.1≠o:=fun e=>h.ne i j hi (show B[j]?=some (b.1,b.2) from hj) hne e.symm
   rw[aU,if_neg this]
   exact h.box b (bcS hj)
 ·have:q≠o:=fun e=>h.ndX hoB (iW hz hq) e.symm
  rw[aU,if_neg this]
theorem aT.new (h:aT H B L) {o:Nat} (ho:H o=none) (y:bX):aT (H.set o y) (B++[(o,y)]) L:=by
 obtain⟨f1,f2⟩:=h.fresh ho
 refine⟨fun b hb=>?_,fun z hz=>(h.lst z hz).same fun q hq=>?_,?_⟩
 ·rw[bcE,List.mem_singleton] at hb
  rcases hb with hb | rfl
  ·have:b.1≠o:=fun e=>f1 (e ▸ qA hb)
   rw[aU,if_neg this]; exact h.box b hb
  ·simp only[aU,if_true]
 ·have:q≠o:=fun e=>f2 (e ▸ iW hz hq)
  rw[aU,if_neg this]
 ·have:=h.nd
  simp only[dO,bcA,bbK,bcM] at *
  rw[bbJ,bcU] at *
  obtain⟨a,b,c⟩:=this
  refine⟨a,?_,fun p hp q hq=>?_⟩
  ·rw[List.singleton_append,List.nodup_cons]; exact⟨f2,b⟩
  ·rw[List.singleton_append,baP] at hq
   rcases hq with rfl | hq
   ·intro e; subst e; exact f1 hp
   ·exact c p hp q hq
theorem iE (L1 L2:List LI):dA (L1++L2)=dA L1++dA L2:=List.filterMap_append ..
theorem aT.wX (h:aT H B L) (s:Nat):aT H B (L++[(.nils,s,[])]):=by
 refine⟨h.box,fun z hz=>?_,?_⟩
 ·rw[bcE,List.mem_singleton] at hz
  rcases hz with hz | rfl
  ·exact h.lst z hz
  ·exact .nil
 ·rw[iE,show dA [((.nils:PV),s,([]:List (List PV)))]=[] from rfl,bbY]; exact h.nd
theorem aT.aYM (h:aT H B L) {o s:Nat} {rows:List (List PV)} (ho:H o=none):aT (H.set o (.rows s rows)) B (L++[(.osl o s 0 rows.length,s,rows)]):=by
 obtain⟨f1,f2⟩:=h.fresh ho
 have hk:=h.keep (H':=H.set o (.rows s rows)) fun q hq=>by
  have:q≠o:=by rintro rfl; exact hq.elim f1 f2
  rw[aU,if_neg this]
 refine⟨hk.box,fun z hz=>?_,?_⟩
 ·rw[bcE,List.mem_singleton] at hz
  rcases hz with hz | rfl
  ·exact hk.lst z hz
  ·exact .inr ⟨o,rows,rfl,by simp only[aU,if_true],baJ _,bbP⟩
 ·rw[iE,show dA [((.osl o s 0 rows.length:PV),s,rows)]=[o] from rfl,← bbJ,bcU]
  refine⟨h.nd,by simp,fun p hp q hq=>?_⟩
  rw[List.mem_singleton] at hq
  subst hq
  rintro rfl
  rcases bcE.1 hp with hp | hp
  ·exact f1 hp
  ·exact f2 hp
theorem amS {i:Nat} {v v':PV} {s s':Nat} {rows rows':List (List PV)} (hi:L[i]?=some (v,s,rows)):∃ L1 L2,L=L1++(v,s,rows)::L2∧L.set i (v',s',rows')=L1++(v',s',rows')::L2:=by
 obtain⟨hl,he⟩:=bbR.1 hi
 refine⟨L.take i,L.drop (i+1),?_,?_⟩
 ·rw[← he,← bcD hl,bcT]
 ·rw[List.set_eq_take_append_cons_drop,if_pos hl]
theorem aT.ahS (h:aT H B L) (i:Nat) {s:Nat} {v:PV} {rows:List (List PV)} (hi:L[i]?=some (v,s,rows)) {s':Nat} {v':PV} {rows':List (List PV)} {H':PH} (ho:bA H' s' v' rows')
  (hid:∀ q,v'.oid=some q→v.oid=some q∨H q=none) (hk:∀ q,q∈dO B∨q∈dA L→(∀ p,v.oid=some p→q≠p)→H' q=H q):aT H' B (L.set i (v',s',rows')):=by
 obtain⟨L1,L2,e1,e2⟩:=amS (v':=v') (s':=s') (rows':=rows') hi
 rw[e2]
 subst e1
 have hnd:=h.nd
 have eL:dA (L1++(v,s,rows)::L2)=dA L1++(v.oid.toList++dA L2):=by
  rw[iE]
  congr 1
  unfold dA
  rw[List.filterMap_cons]
  cases e:v.oid<;>simp
 have eL':dA (L1++(v',s',rows')::L2)=dA L1++(v'.oid.toList++dA L2):=by
  rw[iE]
  congr 1
  unfold dA
  rw[List.filterMap_cons]
  cases e:v'.oid<;>simp
 rw[eL] at hnd
 have other:∀ q,q∈dO B∨q∈dA L1∨q∈dA L2→∀ p,v.oid=some p→q≠p:=by
  intro q hq p hp e
  subst e
  rw[hp] at hnd
  simp only[Option.toList_some] at hnd
  rw[bcU] at hnd
  obtain⟨a,b,c⟩:=hnd
  rw[bcU] at b
  obtain⟨b1,b2,b3⟩:=b
  rw[List.singleton_append,List.nodup_cons] at b2
  rcases hq with hq | hq | hq
  ·exact c q hq q (by simp) rfl
  ·exact b3 q hq q (by simp) rfl
  ·exact b2.1 hq
 have keepq:∀ q,q∈dO B∨q∈dA L1∨q∈dA L2→H' q=H q:=by
  intro q hq
  refine hk q ?_ (other q hq)
  rw[eL]
  simp only[bcE]
  rcases hq with hq | hq | hq
  ·exact .inl hq
  ·exact .inr (.inl hq)
  ·exact .inr (.inr (.inr hq))
 refine⟨fun b hb=>by rw[keepq _ (.inl (qA hb))]; exact h.box b hb,fun z hz=>?_,?_⟩
 ·rw[bcE,baP] at hz
  rcases hz with hz | rfl | hz
  ·exact (h.lst z (by simp[hz])).same fun q hq=>keepq q (.inr (.inl (iW hz hq)))
  ·exact ho
  ·exact (h.lst z (by simp[hz])).same fun q hq=>keepq q (.inr (.inr (iW hz hq)))
 ·rw[eL']
  cases e:v'.oid with
  | none =>
   simp only[Option.toList_none,List.nil_append]
   refine List.Nodup.sublist ?_ hnd
   exact bcK.append (bcK.refl _) (bcK.append (bcK.refl _) (List.sublist_append_right _ _))
  | some q =>
   rcases hid q e with hv | hn
   ·rw[hv] at hnd
    exact hnd
   ·obtain⟨f1,f2⟩:=h.fresh hn
    rw[eL] at f2
    simp only[bcE,not_or] at f2
    have hnd':(dO B++(dA L1++dA L2)).Nodup:=List.Nodup.sublist (bcK.append (bcK.refl _) (bcK.append (bcK.refl _) (List.sublist_append_right _ _))) hnd
    simp only[Option.toList_some]
    rw[bcU] at hnd' ⊢
    obtain⟨a,b,c⟩:=hnd'
    rw[bcU] at b
    obtain⟨b1,b2,b3⟩:=b
    refine⟨a,?_,?_⟩
    ·rw[bcU]
     refine⟨b1,by rw[List.singleton_append,List.nodup_cons]; exact⟨f2.2.2,b2⟩,fun p hp r hr=>?_⟩
     rw[List.singleton_append,baP] at hr
     rcases hr with rfl | hr
     ·rintro rfl; exact f2.1 hp
     ·exact b3 p hp r hr
    ·intro p hp r hr
     rw[bcE,List.singleton_append,baP] at hr
     rcases hr with hr | rfl | hr
     ·exact c p hp r (by simp[hr])
     ·rintro rfl; exact f1 hp
     ·exact c p hp r (by simp[hr])
theorem aT.append (h:aT H B L) (i:Nat) {s b:Nat} {v y:PV} {rows src:List (List PV)} (hi:L[i]?=some (v,s,rows)) (hy:dH H s y=some src) (hr:roomFor rows.length src.length b)
  (hk:∀ v' H',aT H' B (L.set i (v',s,rows++src))→(src≠[]→∃ q,v'=.osl q s 0 (rows++src).length)→K v' H'):mA H s b v y K:=by
 rcases h.own i hi with ⟨rfl,rfl⟩ | ⟨q,rs,rfl,h1,h2,h3⟩
 ·refine⟨src,hy,hr,fun e=>?_,fun e o ho=>?_⟩
  ·subst e
   refine hk _ _ ?_ fun h=>absurd rfl h
   exact h.ahS i hi (.inl ⟨rfl,rfl⟩) (fun q hq=>by cases hq) fun q _ _=>rfl
  ·refine hk _ _ (h.ahS i hi (.inr ⟨o,src,rfl,by simp only[aU,if_true],baJ _,bbP⟩) (fun q hq=>by cases hq; exact .inr ho) fun q hq _=>?_) fun _=>⟨o,rfl⟩
   obtain⟨f1,f2⟩:=h.fresh ho
   have:q≠o:=by rintro rfl; exact hq.elim f1 f2
   rw[aU,if_neg this]
 ·have hlen:(rows++src).length=rows.length+src.length:=baI
  refine⟨src,hy,rfl,rfl,hr,rs,h1,h2,?_,fun o ho=>?_⟩
  ·rw[h3]
   refine hk _ _ (h.ahS i hi (.inr ⟨q,rows++src,by rw[hlen],by simp only[aU,if_true],baJ _,bbP⟩) (fun p hp=>by cases hp; exact .inl rfl) fun p _ hp=>?_) fun _=>⟨q,by rw[hlen]⟩
   rw[aU,if_neg (hp q rfl)]
  ·rw[h3]
   refine hk _ _ (h.ahS i hi (.inr ⟨o,rows++src,by rw[hlen],by simp only[aU,if_true],baJ _,bbP⟩) (fun p hp=>by cases hp; exact .inr ho) fun p hpm hp=>?_) fun _=>⟨o,by rw[hlen]⟩
   obtain⟨f1,f2⟩:=h.fresh ho
   have n1:p≠o:=by rintro rfl; exact hpm.elim f1 f2
   rw[aU,if_neg n1,aU,if_neg (hp q rfl)]
theorem aT.sub (h:aT H B L) {B':List BX} {L':List LI} (hB:B'.Sublist B) (hL:L'.Sublist L):aT H B' L' :=
 ⟨fun b hb=>h.box b (hB.subset hb),fun x hx=>h.lst x (hL.subset hx),List.Nodup.sublist (bcK.append (hB.map _) (hL.filterMap _)) h.nd⟩
theorem aT.a1H (h:aT H B L) (i:Nat):aT H B (L.eraseIdx i):=h.sub (bcK.refl _) (List.eraseIdx_sublist ..)
end
end Go.PM
namespace Go.PM
open Go
section
variable {C:Ctx} {F:PF} {H:PH} {B:List BX} {L:List LI}
theorem aT.KL (h:aT H B L) {q:Nat} (hq:q∈dO B∨q∈dA L):∃ x,H q=some x:=by
 rcases hq with hq | hq
 ·obtain⟨b,hb,rfl⟩:=bbL.1 hq
  exact⟨_,h.box b hb⟩
 ·obtain⟨x,hx,e⟩:=List.mem_filterMap.1 hq
  obtain⟨rs,h1,_⟩:=(h.lst x hx).id e
  exact⟨_,h1⟩
theorem aT.perm (h:aT H B L) {B':List BX} {L':List LI} (hB:B.Perm B') (hL:L.Perm L'):aT H B' L' :=
 ⟨fun b hb=>h.box b (hB.mem_iff.2 hb),fun x hx=>h.lst x (hL.mem_iff.2 hx),(List.Perm.nodup_iff ((hB.map _).append (hL.filterMap _))).1 h.nd⟩
theorem aT.only (h:aT H B L) {B1:List BX} {L1:List LI} (hB:B1.Sublist B) (hL:L1.Sublist L):aT (H.only (dO B1++dA L1)) B1 L1:=by
 refine (h.sub hB hL).keep fun q hq=>?_
 rw[oF]
 rw[if_pos (bcE.2 hq)]
theorem aYO {a b c d:List Nat} (h1:(a++c).Nodup) (h2:(b++d).Nodup) (h3:∀ q,q∈a∨q∈c→q∈b∨q∈d→False):((a++b)++(c++d)).Nodup:=by
 have e:List.Perm ((a++b)++(c++d)) ((a++c)++(b++d)):=by
  rw[bbJ,bbJ]
  exact List.Perm.append_left a (by rw[← bbJ,← bbJ]; exact List.Perm.append_right d List.perm_append_comm)
 rw[e.nodup_iff,bcU]
 refine⟨h1,h2,fun p hp q hq=>?_⟩
 rintro rfl
 exact h3 p (bcE.1 hp) (bcE.1 hq)
theorem aT.frame {H':PH} {B1 B2 B':List BX} {L1 L2 L':List LI} (h:aT H (B1++B2) (L1++L2)) (h':aT H' B' L') (ha:kZ H (H.only (dO B1++dA L1)) H'):aT (H.over (H.only (dO B1++dA L1)) H') (B'++B2) (L'++L2):=by
 have h2:aT H B2 L2:=h.sub (List.sublist_append_right ..) (List.sublist_append_right ..)
 have dis:∀ q,q∈dO B2∨q∈dA L2→¬ (q∈dO B1++dA L1):=by
  intro q hq hm
  have hnd:=h.nd
  rw[show dO (B1++B2)=dO B1++dO B2 from bcA,iE] at hnd
  have e:List.Perm ((dO B1++dO B2)++(dA L1++dA L2)) ((dO B1++dA L1)++(dO B2++dA L2)):=by
   rw[bbJ,bbJ]
   exact List.Perm.append_left _ (by rw[← bbJ,← bbJ]; exact List.Perm.append_right _ List.perm_append_comm)
  rw[e.nodup_iff,bcU] at hnd
  exact hnd.2.2 q hm q (bcE.2 hq) rfl
 have new:∀ q,q∈dO B'∨q∈dA L'→(H.over (H.only (dO B1++dA L1)) H') q=H' q:=by
  intro q hq
  obtain⟨x,hx⟩:=h'.KL hq
  rw[kV,hx]
 have old:∀ q,q∈dO B2∨q∈dA L2→(H.over (H.only (dO B1++dA L1)) H') q=H q:=by
  intro q hq
  obtain⟨x,hx⟩:=h2.KL hq
  have h0:(H.only (dO B1++dA L1)) q=none:=by rw[oF,if_neg (dis q hq)]
  rw[kV]
  cases e:H' q with
  | none=>simp only[h0]
  | some y =>
   have:=ha q y e h0
   rw[hx] at this; cases this
 have k1:=h'.keep new
 have k2:=h2.keep old
 refine⟨fun b hb=>?_,fun x hx=>?_,?_⟩
 ·rcases bcE.1 hb with hb | hb
  ·exact k1.box b hb
  ·exact k2.box b hb
 ·rcases bcE.1 hx with hx | hx
  ·exact k1.lst x hx
  ·exact k2.lst x hx
 ·rw[show dO (B'++B2)=dO B'++dO B2 from bcA,iE]
  refine aYO h'.nd h2.nd fun q hq hq2=>?_
  obtain⟨x,hx⟩:=h'.KL hq
  obtain⟨y,hy⟩:=h2.KL hq2
  have h0:(H.only (dO B1++dA L1)) q=none:=by rw[oF,if_neg (dis q hq2)]
  have:=ha q x hx h0
  rw[hy] at this; cases this
theorem NF {name:Nat} {vs:List PV} {args:List aM} {d:Option Nat} {K:PF→PH→Prop} {B1 B2:List BX} {L1 L2:List LI} {Q:PV→List BX→List LI→Prop} (h:aT H (B1++B2) (L1++L2))
  (hc:∀ H0,aT H0 B1 L1→aJ C name vs H0 (fun r H'=>∃ B' L',Q r B' L'∧aT H' B' L')) (ha:aM.evs F args=some vs)
  (hk:∀ r B' L' H',Q r B' L'→aT H' (B'++B2) (L'++L2)→K (F.put d r) H'):gT C name args [] d K F H:=by
 refine mU (hc (H.only (dO B1++dA L1)) (h.only (List.sublist_append_left ..) (List.sublist_append_left ..))) ha (YO H _) ?_
 rintro r H' ⟨B',L',hq,h'⟩ hap
 exact hk r B' L' _ hq (h.frame h' hap)
theorem aT.DX {B:List BX} {o:Nat} {x:bX} (h:aT H (B++[(o,x)]) L):H o=some x:=h.box (o,x) (by simp)
theorem aT.YT {B:List BX} {o:Nat} {x:bX} (h:aT H (B++[(o,x)]) L) (y:bX):aT (H.set o y) (B++[(o,y)]) L:=by
 have:=h.set B.length (o:=o) (x:=x) (by simp) y
 rwa [bdG _ _ (baJ _),Nat.sub_self] at this
theorem aT.dropLast {B:List BX} {b:BX} (h:aT H (B++[b]) L):aT H B L:=h.sub (List.sublist_append_left ..) (bcK.refl _)
theorem aT.aWA {B:List BX} {o:Nat} {x:bX} (h:aT H ((o,x)::B) L) (y:bX):aT (H.set o y) ((o,y)::B) L:=h.set 0 rfl y
theorem aT.aYA {B:List BX} {o:Nat} {x:bX} (h:aT H ((o,x)::B) L):H o=some x:=h.at 0 rfl
theorem jS {name o:Nat} {x y:bX} {r:PV} {vs:List PV} {args:List aM} {d:Option Nat} {K:PF→PH→Prop} (h:aJ C name vs (PH.nil.set o x) (fun r' H'=>r'=r∧H'=PH.nil.set o y)) (ho:H o=some x) (ha:aM.evs F args=some vs)
  (hk:K (F.put d r) (H.set o y)):gT C name args [] d K F H:=by
 refine mU h ha (PH.aA PH.nil_le ho) ?_
 rintro r' H' ⟨rfl,rfl⟩ -
 rw[PH.pJ]
 exact hk
theorem aOG {Hs:PH} {S:Spec} {name o:Nat} {x y:bX} {r:PV} {vs:List PV} {R:PH→PV→PH→Prop} {args:List aM} {st:Bool} {d:Option Nat} {K:PF→PH→Prop} (hS:S name vs=some ([o],R)) (ho:H o=some x)
  (h:aJ C name vs (PH.nil.set o x) (fun r' H'=>r'=r∧H'=PH.nil.set o y)) (hR1:R (PH.nil.set o x) r (PH.nil.set o y)) (hR2:∀ r' H',R (PH.nil.set o x) r' H'→r'=r∧H'=PH.nil.set o y) (ha:aM.evs F args=some vs)
  (hle:Hs.le (H.set o y)) (hk:K (F.put d r) (H.set o y)):dOp C Hs S st (.call name args) d K F H:=by
 have e:=arE ho
 refine⟨vs,[o],_,ha,hS,fun q hq=>?_,?_,fun G=>⟨r,_,by rw[e]; exact hR1,fun q z hz hn=>?_⟩,fun r' H' hr _=>?_⟩
 ·simp at hq; subst hq; exact⟨x,ho⟩
 ·rw[e]
  exact h.post fun r' H' hr=>⟨r',.refl _,by rw[hr.1,hr.2]; exact hR1⟩
 ·rw[e] at hn
  rw[aU] at hz hn
  split at hn
  ·cases hn
  ·rename_i hne
   rw[if_neg hne] at hz; cases hz
 ·rw[e] at hr
  obtain⟨rfl,rfl⟩:=hR2 r' H' hr
  rw[e,PH.pJ]
  exact⟨hle,hk⟩
theorem aRF {s:Nat} {q z:Nat} {rs:List (List PV)} {v:PV} {rows:List (List PV)} (h:bA H s v rows) (hv:v.oid≠some q):bA (H.frz q z rs) s v (rows.map fun r=>r.map (PV.cZ q z rs)):=by
 rcases h with ⟨rfl,rfl⟩ | ⟨p,rs',rfl,h1,h2,h3⟩
 ·exact .inl ⟨rfl,rfl⟩
 ·have hne:¬ p=q:=fun e=>hv (by rw[e]; rfl)
  refine .inr ⟨p,rs'.map fun r=>r.map (PV.cZ q z rs),by rw[baF],?_,by simpa using h2,?_⟩
  ·rw[JX,if_neg hne,h1]; rfl
  ·rw[baF,← List.map_take,h3]
theorem aT.frz (h:aT H B L) (i:Nat) {q s k:Nat} {rows:List (List PV)} (hi:L[i]?=some (.osl q s 0 k,s,rows)):∃ rs,H q=some (.rows s rs)∧PV.cZ q s rs (.osl q s 0 k)=.sl s rows∧PV.frz q s rs (.osl q s 0 k)=.sl s rows∧(∀ j x,j≠i→L[j]?=some x→PV.cZ q s rs x.1=x.1) ∧
  aT (H.frz q s rs) (B.map fun b=>(b.1,b.2.frz q s rs)) ((L.eraseIdx i).map fun x=>(x.1,x.2.1,x.2.2.map fun r=>r.map (PV.cZ q s rs))):=by
 obtain⟨rs,h1,h2,h3,h4⟩:=(h.own i hi).id rfl
 injection h2 with _ _ _ hk
 subst hk
 have e:PV.frz q s rs (.osl q s 0 rows.length)=.sl s rows:=by rw[yI h3,h4]
 refine⟨rs,h1,e,e,?_⟩
 refine⟨fun j x hji hj=>?_,?_⟩
 ·have hxq:x.1.oid≠some q:=by
   intro hxq
   obtain⟨hl,he⟩:=bbR.1 hi
   obtain⟨hl2,he2⟩:=bbR.1 hj
   have hmem:x∈L.eraseIdx i:=List.mem_eraseIdx_iff_getElem?.2 ⟨j,hji,hj⟩
   have hnd:=h.ndL
   have hs:L=L.take i++(L[i]::L.drop (i+1)):=by rw[← bcD hl,bcT]
   rw[List.eraseIdx_eq_take_drop_succ] at hmem
   rw[hs,iE] at hnd
   have e3:dA (L[i]::L.drop (i+1))=q::dA (L.drop (i+1)):=by rw[he]; rfl
   rw[e3,bcU] at hnd
   obtain⟨a,b,c⟩:=hnd
   rcases bcE.1 hmem with hx | hx
   ·exact c q (iW hx hxq) q (by simp) rfl
   ·exact (List.nodup_cons.1 b).1 (iW hx hxq)
  cases hx:x.1<;>try rfl
  rename_i p z off len
  have:¬ p=q:=fun e=>hxq (by rw[hx,e]; rfl)
  simp only[PV.cZ,if_neg this]
 obtain⟨L1,L2,e1,e2⟩:=amS (v':=.nils) (s':=s) (rows':=rows) hi
 have hil:i=L1.length∨True:=.inr trivial
 have ers:(L.eraseIdx i).Sublist L:=List.eraseIdx_sublist ..
 have hqn:∀ x∈L.eraseIdx i,x.1.oid≠some q:=by
  intro x hx hxq
  obtain⟨hl,he⟩:=bbR.1 hi
  have hnd:=h.ndL
  have hs:L=L.take i++(L[i]::L.drop (i+1)):=by rw[← bcD hl,bcT]
  rw[List.eraseIdx_eq_take_drop_succ] at hx
  rw[hs,iE] at hnd
  have e3:dA (L[i]::L.drop (i+1))=q::dA (L.drop (i+1)):=by
   rw[he]; rfl
  rw[e3,bcU] at hnd
  obtain⟨a,b,c⟩:=hnd
  rcases bcE.1 hx with hx | hx
  ·exact c q (iW hx hxq) q (by simp) rfl
  ·exact (List.nodup_cons.1 b).1 (iW hx hxq)
 refine⟨fun b hb=>?_,fun x hx=>?_,?_⟩
 ·obtain⟨b0,hb0,rfl⟩:=bbL.1 hb
  have:¬ b0.1=q:=h.ndX (qA hb0) (iW (bcS hi) rfl)
  simp only
  rw[JX,if_neg this,h.box b0 hb0]; rfl
 ·obtain⟨x0,hx0,rfl⟩:=bbL.1 hx
  exact aRF (h.lst x0 (ers.subset hx0)) (hqn x0 hx0)
 ·have i1:dO (B.map fun b=>(b.1,b.2.frz q s rs))=dO B:=by unfold dO; rw[List.map_map]; rfl
  have i2:dA ((L.eraseIdx i).map fun x=>(x.1,x.2.1,x.2.2.map fun r=>r.map (PV.cZ q s rs)))=dA (L.eraseIdx i):=by unfold dA; rw[List.filterMap_map]; rfl
  rw[i1,i2]
  exact List.Nodup.sublist (bcK.append (bcK.refl _) (ers.filterMap _)) h.nd
def Flat (rows:List (List PV)):Prop:=∀ q s rs,rows.map (fun r=>r.map (PV.cZ q s rs))=rows
theorem Flat.nil:Flat []:=fun _ _ _=>rfl
theorem Flat.of {rows:List (List PV)} (h:∀ r∈rows,∀ c∈r,∀ q s rs,PV.cZ q s rs c=c):Flat rows:=fun q s rs=>by
 conv=>rhs; rw[← List.map_id rows]
 refine List.map_congr_left fun r hr=>?_
 conv=>rhs; rw[id,← List.map_id r]
 exact List.map_congr_left fun c hc=>h r hr c hc q s rs
theorem Flat.map {α:Type} {f:α→List PV} (l:List α) (h:∀ x,∀ c∈f x,∀ q s rs,PV.cZ q s rs c=c):Flat (l.map f):=Flat.of fun r hr=>by
 obtain⟨x,_,rfl⟩:=bbL.1 hr
 exact h x
theorem Flat.append {r1 r2:List (List PV)} (h1:Flat r1) (h2:Flat r2):Flat (r1++r2):=fun q s rs=>by rw[bcA,h1,h2]
theorem aT.flat {φ:PV→List (List PV)} (h:aT H B L):aT H B L:=h
def uK (v:PV) (H:PH) (R:PV→PH→Prop):Prop:=∃ F1 H1 H2,gV (PF.nil.set 0 v) H F1 H1∧H2.le H1∧∃ u,F1 0=some u∧R u H2
theorem uK.done {v:PV} {H2:PH} {R:PV→PH→Prop} (hR:R v H2) (hle:H2.le H):uK v H R:=⟨_,_,H2,.refl _ _,hle,v,by rw[kP,if_pos rfl],hR⟩
theorem uK.step {v:PV} {q s:Nat} {rs:List (List PV)} {R:PV→PH→Prop} (hq:H q=some (.rows s rs)) (h:uK (PV.frz q s rs v) (H.frz q s rs) R):uK v H R:=by
 obtain⟨F1,H1,H2,h1,h2,h3⟩:=h
 have e:(PF.nil.set 0 v).frz q s rs=PF.nil.set 0 (PV.frz q s rs v):=by
  funext i
  rw[rF,kP,kP]
  split<;>rfl
 exact⟨F1,H1,H2,.step q hq (by rw[e]; exact h1),h2,h3⟩
theorem YR {res:List eA} {R:PV→PH→Prop} {vs:List PV} {e:kG} (he:e=.normal∨e=.ret) (h:eA.evs F H res=some vs) (hf:uK (cU vs) H R):aZ res R e F H:=by
 have key:∃ vs,eA.evs F H res=some vs∧∃ F1 H1 H2,gV (PF.nil.set 0 (cU vs)) H F1 H1∧H2.le H1∧∃ u,F1 0=some u∧R u H2:=⟨vs,h,hf⟩
 rcases he with rfl | rfl<;>exact key
theorem RW {u:PV} (h:u.oid=none) (q s:Nat) (rs:List (List PV)):PV.cZ q s rs u=u:=by
 cases u<;>first | rfl | (simp[PV.oid] at h)
theorem Seen.co {s:Nat} {v:PV} {rows:List (List PV)} (h:Seen s v rows):Co v (.sl s rows):=by
 rcases h with ⟨rfl,rfl⟩ | rfl
 ·exact .nil s
 ·exact .refl _
theorem aT.giveUp:∀ (L:List LI) {H:PH} {B:List BX},aT H B L→(∀ x∈L,Flat x.2.2)→(∀ b∈B,∀ q s rs,bX.frz q s rs b.2=b.2) →
  ∃ (φ:PV→PV) (H1:PH),(∀ x∈L,Seen x.2.1 (φ x.1) x.2.2)∧(∀ u,u.oid=none→φ u=u)∧aT H1 B []∧∀ cs R,uK (.agg (cs.map φ)) H1 R→uK (.agg cs) H R
 | [],H,B,h,_,_=>⟨id,H,by simp,fun _ _=>rfl,h,fun cs R hf=>by rwa [List.map_id] at hf⟩
 | (w,s,rows)::L,H,B,h,hL,hB=>by
  have hflat:∀ q z rs,(L.map fun x=>(x.1,x.2.1,x.2.2.map fun r=>r.map (PV.cZ q z rs)))=L:=fun q z rs=>by
   conv=>rhs; rw[← List.map_id L]
   refine List.map_congr_left fun x hx=>?_
   rw[hL x (by simp[hx]) q z rs]; rfl
  rcases h.own 0 rfl with ⟨h1,h2⟩ | ⟨q,rs,h1,_⟩
  ·obtain⟨φ,H1,k1,k2,k3,k4⟩:=aT.giveUp L (h.a1H 0) (fun x hx=>hL x (by simp[hx])) hB
   refine⟨φ,H1,fun x hx=>?_,k2,k3,k4⟩
   rw[baP] at hx
   rcases hx with rfl | hx
   ·exact .inl ⟨h1,by simp only; rw[h2]; exact k2 _ rfl⟩
   ·exact k1 x hx
  ·subst h1
   obtain⟨rs,z1,z2,z3,z4,z5⟩:=h.frz 0 rfl
   have z6:aT (H.frz q s rs) B L:=by
    have eB:(B.map fun b=>(b.1,b.2.frz q s rs))=B:=by
     conv=>rhs; rw[← List.map_id B]
     refine List.map_congr_left fun b hb=>?_
     rw[hB b hb q s rs]; rfl
    rw[eB] at z5
    have:=z5
    simp only[List.eraseIdx_cons_zero] at this
    rwa [hflat q s rs] at this
   obtain⟨φ,H1,k1,k2,k3,k4⟩:=aT.giveUp L z6 (fun x hx=>hL x (by simp[hx])) hB
   refine⟨fun u=>φ (PV.cZ q s rs u),H1,fun x hx=>?_,fun u hu=>?_,k3,fun cs R hf=>?_⟩
   ·rw[baP] at hx
    rcases hx with rfl | hx
    ·simp only
     rw[z2]
     exact .inr (k2 _ rfl)
    ·obtain⟨j,hj⟩:=List.mem_iff_getElem?.1 hx
     have:=z4 (j+1) x (by omega) (by simpa using hj)
     simp only
     rw[this]
     exact k1 x hx
   ·simp only
    rw[RW hu,k2 u hu]
   ·refine .step z1 ?_
    have e:PV.frz q s rs (.agg cs)=.agg (cs.map (PV.cZ q s rs)):=rfl
    rw[e]
    refine k4 _ R ?_
    rw[List.map_map]
    exact hf
theorem aaK {K:cD} {α:Type} {Fs:α→PF} {Hs:α→PH} {Pr:α→Prop} {m:α→Nat} {n q s:Nat} {rs:List (List PV)} (a:α) (hq:H q=some (.rows s rs)) (h0:Pr a) (hm:m a<n) (hF:(Fs a).le (F.frz q s rs)) (hH:(Hs a).le (H.frz q s rs)):fV Fs Hs Pr m n K .normal F H :=
 ⟨a,_,_,.step q hq (.refl _ _),h0,hm,hF,hH⟩
end
end Go.PM
namespace Go.PM
open Go Go.Na
structure zD (C:Ctx):Prop extends aiG C where
 int:∀ n:Int,dQ n→aJ C 47 [.int .i64 n] .nil (aK (.agg (mkT n 1).cells))
 itoa:∀ n:Nat,n<100→aJ C 195 [.int .i64 n] .nil (aK (.str (bM n)))
 next:∀ (l:List Nat) (v:PV),Tp l v→∀ (o n a:Nat),n≤1000000→a≤l.length→aJ C 4 [.ptr o 2 0 0,.int .i64 n] (PH.nil.set o (bF v a)) (QX l v o n a)
section
variable {C:Ctx} {F:PF} {H:PH} {l:List Nat} {v:PV} {o a:Nat}
theorem cK (Lb:zD C) (T:Tp l v) {n:Nat} {args:List aM} {d:Option Nat} {K:PF→PH→Prop} (hn:n≤1000000) (ha:a≤l.length) (hargs:aM.evs F args=some [.ptr o 2 0 0,.int .i64 n]) (ho:H o=some (bF v a))
  (hk:K (F.put d (.int .i64 ((aD l n a).1:Nat))) (H.set o (bF v (aD l n a).2))):gT C 4 args [] d K F H :=
 jS (Lb.next l v T o n a hn ha) ho hargs hk
end
def aSR (l:List Nat) (v:PV) (o a:Nat) (r:PV) (H:PH):Prop:=r=.agg (eG l a).1.cells∧H=PH.nil.set o (bF v (eG l a).2)
theorem pU (l:List Nat) {a:Nat} (h:a≤l.length):(eG l a).2≤l.length:=bH l 8 (bH l 6 h)
theorem aQA {C:Ctx} (Lb:zD C) {l:List Nat} {v:PV} (T:Tp l v) (o a:Nat) (ha:a≤l.length):BC.wp C (aZ TM.res (aSR l v o a)) (PF.args [.ptr o 2 0 0]) (PH.nil.set o (bF v a)):=by
 simp -implicitDefEqProofs only[go_sem,δ,BC,aoD,TM]
 refine aP fun p hp=>?_
 have n1:¬ p=o:=(fN.1 hp).1
 have n1':¬ o=p:=fun h=>n1 h.symm
 have h1:=bT l (show 0<6 by decide) a
 have a1:=bH l 6 ha
 simp -implicitDefEqProofs only[go_sem,reduceCtorEq,aoE]
 refine cK Lb T (o:=o) (n:=6) (a:=a) (by decide) ha rfl (by simp -implicitDefEqProofs only[go_sem,n1']) ?_
 have e1:IntKind.i64.wrap (1+((aD l 6 a).1:Int))=((1+(aD l 6 a).1:Nat):Int):=by rw[wrap_i64 (by omega) (by omega)]; omega
 simp -implicitDefEqProofs only[go_sem,γ,reduceCtorEq,e1]
 have h2:=bT l (show 0<8 by decide) (aD l 6 a).2
 refine cK Lb T (o:=o) (n:=8) (a:=(aD l 6 a).2) (by decide) a1 rfl (by simp -implicitDefEqProofs only[go_sem]) ?_
 have e2:IntKind.i64.wrap (1+((aD l 8 (aD l 6 a).2).1:Int))=((1+(aD l 8 (aD l 6 a).2).1:Nat):Int):=by rw[wrap_i64 (by omega) (by omega)]; omega
 simp -implicitDefEqProofs only[go_sem,γ,e2]
 refine aB (Lb.fmk ((1+(aD l 6 a).1:Nat):Int) ((1+(aD l 8 (aD l 6 a).2).1:Nat):Int) (by unfold dQ; omega) (by unfold dQ; omega)) rfl ?_
 have hd:¬ ((1+(aD l 8 (aD l 6 a).2).1:Nat):Int)=0:=by omega
 unfold rP
 rw[if_neg hd]
 simp -implicitDefEqProofs only[go_sem,δ,γ]
 refine aP fun q hq=>?_
 have n2:¬ q=o:=(fN.1 hq).1
 have n3:¬ q=p:=(fN.1 (fN.1 hq).2).1
 have n3':¬ p=q:=fun h=>n3 h.symm
 have n2':¬ o=q:=fun h=>n2 h.symm
 simp -implicitDefEqProofs only[go_sem,δ,γ,aoF,n1,n1',n2,n3,n3']
 refine aY (vs:=[.agg (eG l a).1.cells]) (.inr rfl) (PH.nil.set o (bF v (eG l a).2)) ?_ (PH.aA PH.nil_le ?_) ⟨rfl,rfl⟩
 ·simp -implicitDefEqProofs only[go_sem,δ,γ]
  rfl
 ·simp -implicitDefEqProofs only[go_sem,n1',n2']
  rfl
structure aiB (C:Ctx):Prop extends zD C where
 frac:∀ (l:List Nat) (v:PV),Tp l v→∀ (o a:Nat),a≤l.length→aJ C 1 [.ptr o 2 0 0] (PH.nil.set o (bF v a)) (aSR l v o a)
abbrev eT (l:List RF):List (List PV):=l.map RF.cells
theorem rZ (l:List RF) (x:RF):eT l++[x.cells]=eT (l++[x]):=by simp[eT]
theorem zR (l:List RF):Flat (eT l):=Flat.map l fun x c hc q s rs=>by
 simp only[RF.cells,eS,baP,baY,or_false] at hc
 rcases hc with rfl | rfl | rfl<;>rfl
theorem jJ (l:List RF):(eT l).length=l.length:=by simp[eT]
theorem Tp.frz {l:List Nat} {v:PV} (T:Tp l v) (q s:Nat) (rs:List (List PV)):PV.cZ q s rs v=v:=by
 rcases T.seen with ⟨_,rfl⟩ | rfl<;>rfl
theorem yQ (l:List Nat) {a:Nat} (h:a≤l.length):∀ k,(gK l a k).2≤l.length
 | 0=>h
 | k+1=>pU l (yQ l h k)
theorem arP (l:List Nat) (a:Nat):∀ k,(gK l a k).1.length=k
 | 0=>rfl
 | k+1=>by simp only[gK,baI,baL,arP l a k]
def aXV (l:List Nat) (v:PV) (o a k:Nat) (r:PV) (H:PH):Prop:=r=frs (gK l a k).1∧H=PH.nil.set o (bF v (gK l a k).2)
def aGB (o:Nat) (m:Nat) (w:PV) (i:Nat):PF:=((((PF.nil.set 0 (.ptr o 2 0 0)).set 1 (.int .i64 m)).set 5 (w)).set 6 (.int .i64 i))
theorem aVG {C:Ctx} (Lb:aiB C) {l:List Nat} {v:PV} (T:Tp l v) (o a m:Nat) (hm:m≤1000) (ha:a≤l.length):GF.wp C (aZ apB.res (aXV l v o a (max m 1))) (PF.args [.ptr o 2 0 0,.int .i64 m]) (PH.nil.set o (bF v a)):=by
 have hmx:∀ i:Nat,((i:Int)<(if (m:Int)<1 then 1 else (m:Int)))↔i<max m 1:=by
  intro i
  split<;>omega
 simp -implicitDefEqProofs only[go_sem,GF,aAM,aAN,aAO,apB]
 have h0:aT (PH.nil.set o (bF v a)) [(o,bF v a)] [(.nils,3,eT [])]:=(aT.nil.new (H:=PH.nil) rfl (bF v a)).wX 3
 refine wp_loop (α:=Nat × PV × PH) (fun t=>aGB o m t.2.1 t.1) (fun t=>t.2.2) (fun t=>t.1≤max m 1∧aT t.2.2 [(o,bF v (gK l a t.1).2)] [(t.2.1,3,eT (gK l a t.1).1)]) (fun t=>max m 1-t.1) (0,.nils,PH.nil.set o (bF v a)) ⟨baR _,h0⟩ ?_ PH.le_refl ?_
 ·unfold aGB
  (repeat' (first|exact PF.nil_le|refine PF.aA ?_ ?_))<;>first|(simp -implicitDefEqProofs only[go_sem,γ,reduceCtorEq]<;>rfl)|rfl
 rintro⟨k,w,H0⟩ ⟨hk,hH⟩
 simp only at hk hH ⊢
 simp -implicitDefEqProofs only[go_sem,γ,reduceCtorEq,aAL,aAP,aGB]
 have hle:=yQ l ha k
 have hlen:=arP l a k
 by_cases hlt:k<max m 1
 ·have hc:=(hmx k).2 hlt
  simp -implicitDefEqProofs only[go_sem,γ,reduceCtorEq,hc,aAQ]
  refine jS (Lb.frac l v T o _ hle) (hH.at 0 rfl) rfl ?_
  have hH2:=hH.set 0 rfl (bF v (eG l (gK l a k).2).2)
  have h13:(1:Nat)*3≤16777216:=by decide
  simp -implicitDefEqProofs only[go_sem,υ,δ,γ,η,ζ,reduceCtorEq,h13]
  refine hH2.append 0 (src:=[(eG l (gK l a k).2).1.cells]) rfl rfl (by unfold roomFor; rw[jJ,hlen]; simp only[baL,maxLen]; omega) fun w' H' h' _=>?_
  rw[rZ] at h'
  simp -implicitDefEqProofs only[go_sem,γ,reduceCtorEq,aAR,aL (show k<9223372036854775807 by omega)]
  refine aH (k+1,w',H') ⟨hlt,h'⟩ (by simp only; omega) ?_ PH.le_refl
  (repeat' (first|exact PF.nil_le|refine PF.aA ?_ ?_))<;>first|(simp -implicitDefEqProofs only[go_sem,γ,reduceCtorEq]<;>rfl)|rfl
 ·have hc:¬ ((k:Int)<(if (m:Int)<1 then 1 else (m:Int))):=fun h=>hlt ((hmx k).1 h)
  have e:k=max m 1:=by omega
  subst e
  simp -implicitDefEqProofs only[go_sem,γ,reduceCtorEq,hc,aAS]
  have hne:eT (gK l a (max m 1)).1≠[]:=fun h=>by
   have:=congrArg List.length h
   rw[jJ,hlen] at this
   simp at this
  rcases hH.own 0 rfl with ⟨h1,_⟩ | ⟨q,rs,rfl,_⟩
  ·exact absurd h1 hne
  obtain⟨rs,g1,g2,g3,-,g4⟩:=hH.frz 0 rfl
  refine YR (vs:=[.osl q 3 0 (eT (gK l a (max m 1)).1).length]) (.inr rfl) rfl (.step g1 (.done (H2:=PH.nil.set o (bF v (gK l a (max m 1)).2)) ?_ (PH.aA PH.nil_le ?_)))
  ·rw[cU,g3]
   exact⟨rfl,rfl⟩
  ·have:=g4.at 0 rfl
   rw[this]
   simp only[bX.frz,bbK,bcM,T.frz]
   rfl
theorem aQE {C:Ctx} (Lb:zD C) (s:List UInt8) (n:Nat) (hs:s.length≤100) (hn:n<100):BG.wp C (aZ TN.res (aK (.str (s++bM n)))) (PF.args [.str s,.int .i64 n]) .nil:=by
 have hl:(bM n).length≤2:=by
  unfold bM
  rw[Lib.decDigits]
  split
  ·simp
  ·rw[Lib.decDigits,dif_pos (by omega)]; simp
 have hsum:¬ (((s.length+(bM n).length:Nat):Int)>9223372036854775807):=by omega
 simp -implicitDefEqProofs only[go_sem,γ,reduceCtorEq,BG,aoW,aoX,TN]
 refine aB (Lb.itoa n hn) rfl ?_
 simp -implicitDefEqProofs only[go_sem,γ,aEH,hsum]
 refine bZ (.inr rfl) rfl ?_
 rfl
end Go.PM
namespace Go.PM
open Go Go.Na
structure oQ (C:Ctx):Prop extends aiB C where
 rep:∀ (l:List Nat) (v:PV),Tp l v→∀ (o a m:Nat),m≤1000→a≤l.length→aJ C 5 [.ptr o 2 0 0,.int .i64 m] (PH.nil.set o (bF v a)) (aXV l v o a (max m 1))
 name:∀ (s:List UInt8) (n:Nat),s.length≤100→n<100→aJ C 29 [.str s,.int .i64 n] .nil (aK (.str (s++bM n)))
theorem aOA (l:List Nat) (i j:Nat) {a:Nat} (h:a≤l.length):(fR l i j a).2≤l.length:=by
 unfold fR
 split
 ·exact pU l h
 ·split
  ·exact h
  ·simp only
   split
   ·exact pU l (bH l 3 h)
   ·exact bH l 3 h
theorem YS (l:List Nat) (i:Nat) {a:Nat} (h:a≤l.length):∀ j,(cP l i a j).2≤l.length
 | 0=>h
 | j+1=>aOA l i j (YS l i h j)
theorem QF (l:List Nat) (i a:Nat):∀ j,(cP l i a j).1.length=j
 | 0=>rfl
 | j+1=>by simp only[cP,baI,baL,QF l i a j]
theorem OP (l:List Nat) (n i:Nat) (s:vX) (h:s.a≤l.length):(cO l n i s).2≤l.length∧(cO l n i s).1≤s.left:=by
 unfold cO
 split
 ·exact⟨bH l _ h,by have:=bT l (show 0<s.left+1 by omega) s.a; omega⟩
 ·exact⟨h,baJ _⟩
theorem ajC (l:List Nat) (n i:Nat) {a:Nat} (h:a≤l.length):(dT l n i a).2≤l.length:=by
 unfold dT
 simp only
 split
 ·exact bH l 3 (pU l h)
 ·exact pU l h
theorem XM (l:List Nat) (n:Nat) {a:Nat} (h:a≤l.length):∀ i,(eP l n a i).a≤l.length∧(eP l n a i).left≤8∧(eP l n a i).start.length=i∧(eP l n a i).exit.length=i∧(eP l n a i).rates.length=i
 | 0=>⟨h,baJ _,rfl,rfl,rfl⟩
 | i+1=>by
  obtain⟨h1,h2,h3,h4,h5⟩:=XM l n h i
  have hl:=OP l n i (eP l n a i) h1
  refine⟨?_,?_,?_,?_,?_⟩
  ·exact YS l i (ajC l n i hl.1) n
  ·simp only[eP]; omega
  ·simp only[eP,baI,baL,h3]
  ·simp only[eP,baI,baL,h4]
  ·simp only[eP,baI,baL,h5]
abbrev qF (l:List (List RF)):List (List PV):=l.map fun r=>[frs r]
theorem adG (l:List (List RF)):Flat (qF l):=Flat.map l fun x c hc q s rs=>by
 simp only[baP,baY,or_false] at hc
 subst hc; rfl
abbrev ON (w1 w2 w3:PV):bX:=.rows 4 [[.str [],w1,w2,w3]]
abbrev amX:bX:=.rows 4 [[.str [],.nils,.nils,.nils]]
def eJ (o o4 o6 n left i:Nat) (w:PV) (j:Nat):PF:=((((((((PF.nil.set 0 (.ptr o 2 0 0)).set 4 (.ptr o4 4 0 0)).set 5 (.int .i64 n)).set 6 (.ptr o6 4 0 0)).set 7 (.int .i64 left)).set 8 (.int .i64 i)).set 13 (w)).set 14 (.int .i64 j))
def cF (o o4 o6 n left i:Nat):PF:=((((((PF.nil.set 0 (.ptr o 2 0 0)).set 4 (.ptr o4 4 0 0)).set 5 (.int .i64 n)).set 6 (.ptr o6 4 0 0)).set 7 (.int .i64 left)).set 8 (.int .i64 i))
theorem OT {l:List RF} (h:l.length≤1000):roomFor (eT l).length 1 56:=by
 unfold roomFor
 rw[jJ]
 simp only[maxLen]; omega
theorem aQD {C:Ctx} (Lb:oQ C) {l:List Nat} {v:PV} (T:Tp l v) (o o4 o6 n left i a:Nat) (ha:a≤l.length) (hn:n≤100) (hi:i<n) (B:List BX) (L:List LI) (K:cD) (F:PF) (H:PH)
  (hF:(eJ o o4 o6 n left i .nils 0).le F) (hH:aT H ((o,bF v a)::B) L)
  (hK:∀ w F' H',(eJ o o4 o6 n left i w n).le F'→aT H' ((o,bF v (cP l i a n).2)::B) (L++[(w,3,eT (cP l i a n).1)])→K (.exit 2) F' H') :
  aC.wp C (.loop BE) K F H:=by
 refine wp_loop (α:=Nat × PV × PH) (fun t=>eJ o o4 o6 n left i t.2.1 t.1) (fun t=>t.2.2) (fun t=>t.1≤n∧aT t.2.2 ((o,bF v (cP l i a t.1).2)::B) (L++[(t.2.1,3,eT (cP l i a t.1).1)])) (fun t=>n-t.1) (0,.nils,H) ⟨baR _,hH.wX 3⟩ hF PH.le_refl ?_
 rintro⟨j,w,H0⟩ ⟨hj,hH⟩
 simp only at hj hH ⊢
 have hle:=YS l i ha j
 have hlen:=QF l i a j
 have e1:IntKind.i64.wrap ((i:Int)+1)=((i+1:Nat):Int):=aL (by omega)
 simp -implicitDefEqProofs only[go_sem,γ,reduceCtorEq,BE,aoR,eJ]
 by_cases hlt:j<n
 ·have hlt':(j:Int)<(n:Nat):=by omega
  simp -implicitDefEqProofs only[go_sem,hlt',aoS]
  refine aB (Lb.int 0 (by unfold dQ; omega)) rfl ?_
  simp -implicitDefEqProofs only[go_sem,δ]
  refine aP fun p hp=>?_
  have hH1:=hH.new hp (.rows 3 [gL.cells])
  simp -implicitDefEqProofs only[go_sem,δ,γ,reduceCtorEq,aoT,e1]
  have fin:∀ (F':PF) (H':PH),(eJ o o4 o6 n left i w j).le F'→F' 15=some (.ptr p 3 0 0)→aT H' ((o,bF v (fR l i j (cP l i a j).2).2)::B++[(p,.rows 3 [(fR l i j (cP l i a j).2).1.cells])]) (L++[(w,3,eT (cP l i a j).1)]) →
    aC.wp C (.region PC) (eO 3 (kE C (aC.wp C (.region PD)) (fV (fun (t:Nat × PV × PH)=>eJ o o4 o6 n left i t.2.1 t.1) (fun t=>t.2.2) (fun t=>t.1≤n∧aT t.2.2 ((o,bF v (cP l i a t.1).2)::B) (L++[(t.2.1,3,eT (cP l i a t.1).1)])) (fun t=>n-t.1) (n-j) K))) F' H':=by
   intro F' H' hF' f15 hH'
   have f0:F' 0=some (.ptr o 2 0 0):=hF' 0 _ (by unfold eJ; simp -implicitDefEqProofs only[go_sem,reduceCtorEq])
   have f4:F' 4=some (.ptr o4 4 0 0):=hF' 4 _ (by unfold eJ; simp -implicitDefEqProofs only[go_sem,γ,reduceCtorEq])
   have f5:F' 5=some (.int .i64 n):=hF' 5 _ (by unfold eJ; simp -implicitDefEqProofs only[go_sem,γ,reduceCtorEq])
   have f6:F' 6=some (.ptr o6 4 0 0):=hF' 6 _ (by unfold eJ; simp -implicitDefEqProofs only[go_sem,γ,reduceCtorEq])
   have f7:F' 7=some (.int .i64 left):=hF' 7 _ (by unfold eJ; simp -implicitDefEqProofs only[go_sem,γ,reduceCtorEq])
   have f8:F' 8=some (.int .i64 i):=hF' 8 _ (by unfold eJ; simp -implicitDefEqProofs only[go_sem,γ,reduceCtorEq])
   have f13:F' 13=some w:=hF' 13 _ (by unfold eJ; simp -implicitDefEqProofs only[go_sem,γ,reduceCtorEq])
   have f14:F' 14=some (.int .i64 j):=hF' 14 _ (by unfold eJ; simp -implicitDefEqProofs only[go_sem,γ,reduceCtorEq])
   have hbp:H' p=some (.rows 3 [(fR l i j (cP l i a j).2).1.cells]):=hH'.box (p,.rows 3 [(fR l i j (cP l i a j).2).1.cells]) (by simp)
   have h13:(1:Nat)*3≤16777216:=by decide
   simp -implicitDefEqProofs only[go_sem,υ,δ,γ,η,ζ,PC,f13,f15,hbp,h13]
   refine hH'.append (v:=w) (s:=3) (rows:=eT (cP l i a j).1) L.length (src:=[(fR l i j (cP l i a j).2).1.cells]) (by simp) rfl (OT (by omega)) fun w' H2 h2 _=>?_
   rw[rZ,bdG _ _ (baJ _),Nat.sub_self] at h2
   simp -implicitDefEqProofs only[go_sem,γ,PD,f14,aL (show j<9223372036854775807 by omega)]
   refine aH (α:=Nat × PV × PH) (j+1,w',H2) ⟨hlt,h2.sub (List.sublist_append_left ..) (bcK.refl _)⟩ (by simp only; omega) ?_ PH.le_refl
   unfold eJ
   repeat' first|exact PF.nil_le|refine PF.aA ?_ ?_|rfl|assumption
  simp only[aC.wp,go_sem] at fin
  have hstore:∀ x:RF,PH.set (PH.set H0 p (.rows 3 [gL.cells])) p (.rows 3 [x.cells])=PH.set H0 p (.rows 3 [x.cells]):=fun x=>PH.set_set p _ _
  have draw:∀ (F':PF) (H1:PH) (a1:Nat),a1≤l.length→(eJ o o4 o6 n left i w j).le F'→F' 15=some (.ptr p 3 0 0)→aT H1 ((o,bF v a1)::B++[(p,.rows 3 [gL.cells])]) (L++[(w,3,eT (cP l i a j).1)])→fR l i j (cP l i a j).2=eG l a1→∀ K',(∀ F2 H2,(eJ o o4 o6 n left i w j).le F2→F2 15=some (.ptr p 3 0 0)→aT H2 ((o,bF v (fR l i j (cP l i a j).2).2)::B++[(p,.rows 3 [(fR l i j (cP l i a j).2).1.cells])]) (L++[(w,3,eT (cP l i a j).1)])→K' F2 H2) →
    wpOps C PB K' F' H1:=by
   intro F' H1 a1 ha1 hF' f15 hH1 he K' hK'
   have f0:F' 0=some (.ptr o 2 0 0):=hF' 0 _ (by unfold eJ; simp -implicitDefEqProofs only[go_sem,reduceCtorEq])
   simp -implicitDefEqProofs only[go_sem,PB,f0]
   refine jS (Lb.frac l v T o a1 ha1) (hH1.at 0 rfl) rfl ?_
   have hH2:aT (H1.set o (bF v (eG l a1).2)) ((o,bF v (eG l a1).2)::B++[(p,.rows 3 [gL.cells])]) (L++[(w,3,eT (cP l i a j).1)]):=hH1.set 0 rfl _
   have hp2:=hH2.DX
   simp -implicitDefEqProofs only[go_sem,δ,γ,f15,hp2]
   refine hK' _ _ ?_ (by simp -implicitDefEqProofs only[go_sem,γ,f15]) ?_
   ·have g:=fun (q:Nat) u h=>hF' q u h
    unfold eJ at g ⊢
    refine PF.aA (PF.aA (PF.aA (PF.aA (PF.aA (PF.aA (PF.aA (PF.aA PF.nil_le ?_) ?_) ?_) ?_) ?_) ?_) ?_) ?_
    ·simp -implicitDefEqProofs only[go_sem,reduceCtorEq,f0]
    ·simp -implicitDefEqProofs only[go_sem,ξ,ρ,σ,μ,κ,ι,ο,ν,υ,δ,τ,γ,η,θ,ζ,ε,reduceCtorEq,reduceIte,g 4 _ rfl]
    ·simp -implicitDefEqProofs only[go_sem,ξ,ρ,σ,μ,κ,ι,ο,ν,υ,δ,τ,γ,η,θ,ζ,ε,reduceCtorEq,reduceIte,g 5 _ rfl]
    ·simp -implicitDefEqProofs only[go_sem,ξ,ρ,σ,μ,κ,ι,ο,ν,υ,δ,τ,γ,η,θ,ζ,ε,reduceCtorEq,reduceIte,g 6 _ rfl]
    ·simp -implicitDefEqProofs only[go_sem,ξ,ρ,σ,μ,κ,ι,ο,ν,υ,δ,τ,γ,η,θ,ζ,ε,reduceCtorEq,reduceIte,g 7 _ rfl]
    ·simp -implicitDefEqProofs only[go_sem,ξ,ρ,σ,μ,κ,ι,ο,ν,υ,δ,τ,γ,η,θ,ζ,ε,reduceCtorEq,reduceIte,g 8 _ rfl]
    ·simp -implicitDefEqProofs only[go_sem,ξ,ρ,σ,μ,κ,ι,ο,ν,υ,δ,τ,γ,η,θ,ζ,ε,reduceCtorEq,reduceIte,g 13 _ rfl]
    ·simp -implicitDefEqProofs only[go_sem,ξ,ρ,σ,μ,κ,ι,ο,ν,υ,δ,τ,γ,η,θ,ζ,ε,reduceCtorEq,reduceIte,g 14 _ rfl]
   ·rw[he]
    exact hH2.YT (.rows 3 [(eG l a1).1.cells])
  by_cases c1:j=i+1
  ·have he:fR l i j (cP l i a j).2=eG l (cP l i a j).2:=by unfold fR; rw[if_pos c1]
   simp -implicitDefEqProofs only[go_sem,γ,reduceCtorEq,bS (show (j:Int)=((i+1:Nat):Int) by omega)]
   refine draw _ _ _ hle (by unfold eJ; (repeat' (first|exact PF.nil_le|refine PF.aA ?_ ?_))<;>first|(simp -implicitDefEqProofs only[go_sem,γ,reduceCtorEq]<;>rfl)|rfl) rfl hH1 he _ ?_
   intro F2 H2 k1 k2 k3
   exact fin F2 H2 k1 k2 k3
  ·simp -implicitDefEqProofs only[go_sem,γ,reduceCtorEq,bE (show ¬ (j:Int)=((i+1:Nat):Int) by omega)]
   by_cases c2:j=i
   ·have he:fR l i j (cP l i a j).2=(gL,(cP l i a j).2):=by unfold fR; rw[if_neg c1,if_pos c2]
    simp -implicitDefEqProofs only[go_sem,γ,reduceCtorEq,cH (show (j:Int)=(i:Int) by omega)]
    exact fin _ _ (by unfold eJ; (repeat' (first|exact PF.nil_le|refine PF.aA ?_ ?_))<;>first|(simp -implicitDefEqProofs only[go_sem,γ,reduceCtorEq]<;>rfl)|rfl) rfl (by rw[he]; exact hH1)
   ·simp -implicitDefEqProofs only[go_sem,γ,reduceCtorEq,dP (show ¬ (j:Int)=(i:Int) by omega)]
    refine cK Lb.tozD T (o:=o) (n:=3) (a:=(cP l i a j).2) (by decide) hle rfl (hH1.at 0 rfl) ?_
    have hH2:aT _ ((o,bF v (aD l 3 (cP l i a j).2).2)::B++[(p,.rows 3 [gL.cells])]) (L++[(w,3,eT (cP l i a j).1)]):=hH1.set 0 rfl _
    by_cases c3:(aD l 3 (cP l i a j).2).1=0
    ·have he:fR l i j (cP l i a j).2=eG l (aD l 3 (cP l i a j).2).2:=by unfold fR; rw[if_neg c1,if_neg c2]; simp only[c3,if_true]
     simp -implicitDefEqProofs only[go_sem,γ,reduceCtorEq,bS (show (((aD l 3 (cP l i a j).2).1:Nat):Int)=0 by omega)]
     refine draw _ _ _ (bH l 3 hle) (by unfold eJ; (repeat' (first|exact PF.nil_le|refine PF.aA ?_ ?_))<;>first|(simp -implicitDefEqProofs only[go_sem,γ,reduceCtorEq]<;>rfl)|rfl) rfl hH2 he _ ?_
     intro F2 H2 k1 k2 k3
     exact fin F2 H2 k1 k2 k3
    ·have he:fR l i j (cP l i a j).2=(gL,(aD l 3 (cP l i a j).2).2):=by unfold fR; rw[if_neg c1,if_neg c2]; simp only[c3,if_false]
     simp -implicitDefEqProofs only[go_sem,γ,reduceCtorEq,bE (show ¬ (((aD l 3 (cP l i a j).2).1:Nat):Int)=0 by omega)]
     exact fin _ _ (by unfold eJ; (repeat' (first|exact PF.nil_le|refine PF.aA ?_ ?_))<;>first|(simp -implicitDefEqProofs only[go_sem,γ,reduceCtorEq]<;>rfl)|rfl) rfl (by rw[he]; exact hH2)
 ·have hlt':¬ (j:Int)<(n:Nat):=by omega
  have:j=n:=by omega
  subst this
  simp -implicitDefEqProofs only[go_sem,hlt']
  exact hK w _ _ (by unfold eJ; (repeat' (first|exact PF.nil_le|refine PF.aA ?_ ?_))<;>first|(simp -implicitDefEqProofs only[go_sem,γ,reduceCtorEq]<;>rfl)|rfl) hH
end Go.PM
namespace Go.PM
open Go Go.Na
abbrev nG (o o4 o6:Nat) (v w1 w2 w3:PV) (a:Nat):List BX:=[(o,bF v a),(o4,amX),(o6,ON w1 w2 w3)]
abbrev qN (s:vX) (w1 w2 w3:PV):List LI:=[(w1,3,eT s.start),(w2,1,qF s.rates),(w3,3,eT s.exit)]
theorem aKE {C:Ctx} (Lb:oQ C) {l:List Nat} {v:PV} (T:Tp l v) (o o4 o6 n i:Nat) (s:vX) (hs:s.a≤l.length) (hl:s.left≤8) (hn:n≤100) (hi:i<n) (B:List BX) (L:List LI) (rest:aC) (K:cD) (F:PF) (H:PH)
  (hF:(cF o o4 o6 n s.left i).le F) (hH:aT H ((o,bF v s.a)::B) L)
  (hK:∀ F' H',(cF o o4 o6 n (s.left-(cO l n i s).1) i).le F'→F' 9=some (.int .i64 ((cO l n i s).1:Nat))→aT H' ((o,bF v (cO l n i s).2)::B) L→aC.wp C rest K F' H') :
  aC.wp C (.seq (.region XQ) (.seq (.seq (.region XR) (.cond (.tmp 29) (.region XS) .skip)) (.seq (.region KG) rest))) K F H:=by
 have f0:F 0=some (.ptr o 2 0 0):=hF 0 _ (by unfold cF; simp -implicitDefEqProofs only[go_sem,reduceCtorEq])
 have f4:F 4=some (.ptr o4 4 0 0):=hF 4 _ (by unfold cF; simp -implicitDefEqProofs only[go_sem,γ,reduceCtorEq])
 have f5:F 5=some (.int .i64 n):=hF 5 _ (by unfold cF; simp -implicitDefEqProofs only[go_sem,γ,reduceCtorEq])
 have f6:F 6=some (.ptr o6 4 0 0):=hF 6 _ (by unfold cF; simp -implicitDefEqProofs only[go_sem,γ,reduceCtorEq])
 have f7:F 7=some (.int .i64 s.left):=hF 7 _ (by unfold cF; simp -implicitDefEqProofs only[go_sem,γ,reduceCtorEq])
 have f8:F 8=some (.int .i64 i):=hF 8 _ (by unfold cF; simp -implicitDefEqProofs only[go_sem,γ,reduceCtorEq])
 have e1:IntKind.i64.wrap ((i:Int)+1)=((i+1:Nat):Int):=aL (by omega)
 have hk:=(OP l n i s hs).2
 have e9:IntKind.i64.wrap ((s.left:Int)-((cO l n i s).1:Int))=((s.left-(cO l n i s).1:Nat):Int):=by rw[wrap_i64 (by omega) (by omega)]; omega
 simp -implicitDefEqProofs only[go_sem,γ,XQ,f7,XR,f8,f5,e1]
 by_cases c:i+1<n
 ·have c':((i+1:Nat):Int)<(n:Nat):=by omega
  have he:cO l n i s=aD l (s.left+1) s.a:=by unfold cO; rw[if_pos c]
  have el:IntKind.i64.wrap ((s.left:Int)+1)=((s.left+1:Nat):Int):=aL (by omega)
  rw[he] at hK e9
  simp -implicitDefEqProofs only[go_sem,γ,reduceCtorEq,c',XS,f0,f7,el]
  refine cK Lb.tozD T (o:=o) (n:=s.left+1) (a:=s.a) (by omega) hs rfl hH.aYA ?_
  have hH2:=hH.aWA (bF v (aD l (s.left+1) s.a).2)
  simp -implicitDefEqProofs only[go_sem,γ,KG,f7,e9]
  refine hK _ _ ?_ rfl hH2
  unfold cF
  repeat' first|exact PF.nil_le|refine PF.aA ?_ ?_|rfl|assumption
 ·have c':¬ ((i+1:Nat):Int)<(n:Nat):=by omega
  have he:cO l n i s=(s.left,s.a):=by unfold cO; rw[if_neg c]
  rw[he] at hK e9
  simp only at hK e9
  simp -implicitDefEqProofs only[go_sem,γ,c',KG,f7,e9]
  refine hK _ _ ?_ rfl hH
  unfold cF
  repeat' first|exact PF.nil_le|refine PF.aA ?_ ?_|rfl|assumption
theorem aGA {C:Ctx} (Lb:oQ C) {l:List Nat} {v:PV} (o o4 o6 n i left k a:Nat) (hk:k≤8) (hi:i<n) (hn:n≤100) (s:vX) (hs:s.start.length=i) (w1 w2 w3:PV) (B:List BX) (rest:aC) (K:cD) (F:PF) (H:PH)
  (hF:(cF o o4 o6 n left i).le F) (f9:F 9=some (.int .i64 k)) (hH:aT H (nG o o4 o6 v w1 w2 w3 a++B) (qN s w1 w2 w3))
  (hK:∀ w1' F' H' B',(cF o o4 o6 n left i).le F'→aT H' (nG o o4 o6 v w1' w2 w3 a++B') (qN { s with start:=s.start++[mkT (k:Nat) 8] } w1' w2 w3)→aC.wp C rest K F' H') :
  aC.wp C (.seq (.region OU) (.seq (.region OV) rest)) K F H:=by
 have f0:F 0=some (.ptr o 2 0 0):=hF 0 _ (by unfold cF; simp -implicitDefEqProofs only[go_sem,reduceCtorEq])
 have f4:F 4=some (.ptr o4 4 0 0):=hF 4 _ (by unfold cF; simp -implicitDefEqProofs only[go_sem,γ,reduceCtorEq])
 have f5:F 5=some (.int .i64 n):=hF 5 _ (by unfold cF; simp -implicitDefEqProofs only[go_sem,γ,reduceCtorEq])
 have f6:F 6=some (.ptr o6 4 0 0):=hF 6 _ (by unfold cF; simp -implicitDefEqProofs only[go_sem,γ,reduceCtorEq])
 have f7:F 7=some (.int .i64 left):=hF 7 _ (by unfold cF; simp -implicitDefEqProofs only[go_sem,γ,reduceCtorEq])
 have f8:F 8=some (.int .i64 i):=hF 8 _ (by unfold cF; simp -implicitDefEqProofs only[go_sem,γ,reduceCtorEq])
 simp -implicitDefEqProofs only[go_sem,OU,f9]
 refine aB (Lb.fmk (k:Int) 8 (by unfold dQ; omega) (by unfold dQ; omega)) rfl ?_
 unfold rP
 rw[if_neg (by decide)]
 simp -implicitDefEqProofs only[go_sem,δ,γ]
 refine aP fun p hp=>?_
 have hH1:=hH.new hp (.rows 3 [(mkT (k:Nat) 8).cells])
 have g6:=hH1.at 2 rfl
 have gp:=hH1.DX
 have h13:(1:Nat)*3≤16777216:=by decide
 have hst:∀ y,PH.set (PH.set H p (.rows 3 [[PV.bool false,PV.nils,PV.nils]])) p y=PH.set H p y:=fun y=>PH.set_set p _ _
 simp -implicitDefEqProofs only[go_sem,υ,δ,γ,η,θ,ζ,OV,f6,g6,gp,h13]
 refine hH1.append 0 (src:=[(mkT (k:Nat) 8).cells]) rfl rfl (OT (by omega)) fun w1' H2 h2 hw=>?_
 rw[rZ] at h2 hw; rw[jJ] at hw
 obtain⟨q,rfl⟩:=hw (by simp)
 have g6':=h2.at 2 rfl
 simp -implicitDefEqProofs only[go_sem,δ,θ,g6',baP,baY,or_false,forall_eq]
 have h3:=h2.set 2 rfl (ON (.osl q 3 0 (s.start++[mkT (k:Nat) 8]).length) w2 w3)
 refine hK _ _ _ (B++[(p,.rows 3 [(mkT (k:Nat) 8).cells])]) ?_ h3
 unfold cF
 repeat' first|exact PF.nil_le|refine PF.aA ?_ ?_|rfl|assumption
theorem aKD {C:Ctx} (Lb:oQ C) {l:List Nat} {v:PV} (T:Tp l v) (o o4 o6 n i left a:Nat) (ha:a≤l.length) (hi:i<n) (hn:n≤100) (s:vX) (hs:s.exit.length=i) (w1 w2 w3:PV) (B:List BX) (rest:aC) (K:cD) (F:PF) (H:PH)
  (hF:(cF o o4 o6 n left i).le F) (hH:aT H (nG o o4 o6 v w1 w2 w3 a++B) (qN s w1 w2 w3))
  (hK:∀ w3' F' H' B',(cF o o4 o6 n left i).le F'→aT H' (nG o o4 o6 v w1 w2 w3' (dT l n i a).2++B') (qN { s with exit:=s.exit++[(dT l n i a).1] } w1 w2 w3')→aC.wp C rest K F' H') :
  aC.wp C (.seq (.region OW) (.seq (.seq (.region OX) (.cond (.tmp 58) (.region OY) .skip)) (.seq (.region BF) rest))) K F H:=by
 have f0:F 0=some (.ptr o 2 0 0):=hF 0 _ (by unfold cF; simp -implicitDefEqProofs only[go_sem,reduceCtorEq])
 have f4:F 4=some (.ptr o4 4 0 0):=hF 4 _ (by unfold cF; simp -implicitDefEqProofs only[go_sem,γ,reduceCtorEq])
 have f5:F 5=some (.int .i64 n):=hF 5 _ (by unfold cF; simp -implicitDefEqProofs only[go_sem,γ,reduceCtorEq])
 have f6:F 6=some (.ptr o6 4 0 0):=hF 6 _ (by unfold cF; simp -implicitDefEqProofs only[go_sem,γ,reduceCtorEq])
 have f7:F 7=some (.int .i64 left):=hF 7 _ (by unfold cF; simp -implicitDefEqProofs only[go_sem,γ,reduceCtorEq])
 have f8:F 8=some (.int .i64 i):=hF 8 _ (by unfold cF; simp -implicitDefEqProofs only[go_sem,γ,reduceCtorEq])
 have e1:IntKind.i64.wrap ((i:Int)+1)=((i+1:Nat):Int):=aL (by omega)
 simp -implicitDefEqProofs only[go_sem,OW,f0]
 refine jS (Lb.frac l v T o a ha) (hH.at 0 rfl) rfl ?_
 have hH1:=hH.set 0 rfl (bF v (eG l a).2)
 simp -implicitDefEqProofs only[go_sem,δ]
 refine aP fun p hp=>?_
 have hH2:=hH1.new hp (.rows 3 [(eG l a).1.cells])
 simp -implicitDefEqProofs only[go_sem,δ,γ,OX,f8,f5,e1]
 have fin:∀ (F':PF) (H':PH),(cF o o4 o6 n left i).le F'→F' 12=some (.ptr p 3 0 0)→aT H' (nG o o4 o6 v w1 w2 w3 (dT l n i a).2++B++[(p,.rows 3 [(dT l n i a).1.cells])]) (qN s w1 w2 w3)→wpOps C BF (aC.wp C rest K) F' H':=by
  intro F' H' hF' f12 hH'
  have q0:F' 0=some (.ptr o 2 0 0):=hF' 0 _ (by unfold cF; simp -implicitDefEqProofs only[go_sem,reduceCtorEq])
  have q4:F' 4=some (.ptr o4 4 0 0):=hF' 4 _ (by unfold cF; simp -implicitDefEqProofs only[go_sem,γ,reduceCtorEq])
  have q5:F' 5=some (.int .i64 n):=hF' 5 _ (by unfold cF; simp -implicitDefEqProofs only[go_sem,γ,reduceCtorEq])
  have q6:F' 6=some (.ptr o6 4 0 0):=hF' 6 _ (by unfold cF; simp -implicitDefEqProofs only[go_sem,γ,reduceCtorEq])
  have q7:F' 7=some (.int .i64 left):=hF' 7 _ (by unfold cF; simp -implicitDefEqProofs only[go_sem,γ,reduceCtorEq])
  have q8:F' 8=some (.int .i64 i):=hF' 8 _ (by unfold cF; simp -implicitDefEqProofs only[go_sem,γ,reduceCtorEq])
  have g6:=hH'.at 2 rfl
  have gp:=hH'.DX
  have h13:(1:Nat)*3≤16777216:=by decide
  simp -implicitDefEqProofs only[go_sem,υ,δ,γ,η,ζ,BF,q6,g6,f12,gp,h13]
  refine hH'.append 2 (src:=[(dT l n i a).1.cells]) rfl rfl (OT (by omega)) fun w3' H2 h2 hw=>?_
  rw[rZ] at h2 hw; rw[jJ] at hw
  obtain⟨q,rfl⟩:=hw (by simp)
  have g6':=h2.at 2 rfl
  simp -implicitDefEqProofs only[go_sem,δ,g6',baP,baY,or_false,forall_eq]
  have h3:=h2.set 2 rfl (ON w1 w2 (.osl q 3 0 (s.exit++[(dT l n i a).1]).length))
  refine hK _ _ _ (B++[(p,.rows 3 [(dT l n i a).1.cells])]) ?_ h3
  unfold cF
  repeat' first|exact PF.nil_le|refine PF.aA ?_ ?_|rfl|assumption
 by_cases c:i+1<n
 ·have c':((i+1:Nat):Int)<(n:Nat):=by omega
  have hle:=pU l ha
  simp -implicitDefEqProofs only[go_sem,γ,reduceCtorEq,c',f0]
  refine cK Lb.tozD T (o:=o) (n:=3) (a:=(eG l a).2) (by decide) hle rfl (hH2.at 0 rfl) ?_
  have hH3:=hH2.set 0 rfl (bF v (aD l 3 (eG l a).2).2)
  by_cases c3:(aD l 3 (eG l a).2).1=0
  ·have he:dT l n i a=(gL,(aD l 3 (eG l a).2).2):=by unfold dT; simp only[if_pos c,c3,if_true]
   have gp:=aT.DX (B:=nG o o4 o6 v w1 w2 w3 (aD l 3 (eG l a).2).2++B) hH3
   simp -implicitDefEqProofs only[go_sem,γ,bS (show (((aD l 3 (eG l a).2).1:Nat):Int)=0 by omega),OY]
   refine aB (Lb.int 0 (by unfold dQ; omega)) rfl ?_
   simp -implicitDefEqProofs only[go_sem,δ,γ,gp]
   refine fin _ _ ?_ rfl ?_
   ·unfold cF
    repeat' first|exact PF.nil_le|refine PF.aA ?_ ?_|rfl|assumption
   ·rw[he]
    exact aT.YT (B:=nG o o4 o6 v w1 w2 w3 (aD l 3 (eG l a).2).2++B) hH3 (.rows 3 [gL.cells])
  ·have he:dT l n i a=((eG l a).1,(aD l 3 (eG l a).2).2):=by unfold dT; simp only[if_pos c,c3,if_false]
   simp -implicitDefEqProofs only[go_sem,γ,bE (show ¬ (((aD l 3 (eG l a).2).1:Nat):Int)=0 by omega)]
   refine fin _ _ ?_ rfl ?_
   ·unfold cF
    repeat' first|exact PF.nil_le|refine PF.aA ?_ ?_|rfl|assumption
   ·rw[he]
    exact hH3
 ·have c':¬ ((i+1:Nat):Int)<(n:Nat):=by omega
  have he:dT l n i a=eG l a:=by unfold dT; simp only[if_neg c]
  simp -implicitDefEqProofs only[go_sem,γ,reduceCtorEq,c']
  refine fin _ _ ?_ rfl ?_
  ·unfold cF
   repeat' first|exact PF.nil_le|refine PF.aA ?_ ?_|rfl|assumption
  ·rw[he]
   exact hH2
end Go.PM
namespace Go.PM
open Go Go.Na
def aNW (l:List Nat) (v:PV) (o dV a:Nat) (r:PV) (H:PH):Prop:=r=.agg (mX l dV a).1.cells∧H=PH.nil.set o (bF v (mX l dV a).2)
theorem aLQ {l:List (List RF)} (h:l.length≤1000):roomFor (qF l).length 1 24:=by
 unfold roomFor
 simp only[baF,maxLen]; omega
theorem aLR (l:List (List RF)) (x:List RF):qF l++[[frs x]]=qF (l++[x]):=by simp[qF]
theorem aFZ {C:Ctx} (Lb:oQ C) {l:List Nat} {v:PV} (T:Tp l v) (o o4 o6 n left i a:Nat) (ha:a≤l.length) (hn:n≤100) (hi:i<n) (s:vX) (hs:s.rates.length=i) (w1 w2 w3:PV) (B:List BX) (K:cD) (F:PF) (H:PH)
  (hF:(cF o o4 o6 n left i).le F) (hH:aT H (nG o o4 o6 v w1 w2 w3 a++B) (qN s w1 w2 w3))
  (hK:∀ w2' w13 F' H' B',(cF o o4 o6 n left i).le F'→(∃ q,w13=.osl q 3 0 n)→aT H' (nG o o4 o6 v w1 w2' w3 (cP l i a n).2++B') [(w1,3,eT s.start),(w2',1,qF s.rates++[[w13]]),(w3,3,eT s.exit),(w13,3,eT (cP l i a n).1)]→K .normal F' H') :
  aC.wp C (.seq (.region OZ) (.seq (.seq (.region PA) (.block 2 (.loop BE))) (.region PE))) K F H:=by
 have f0:F 0=some (.ptr o 2 0 0):=hF 0 _ (by unfold cF; simp -implicitDefEqProofs only[go_sem,reduceCtorEq])
 have f4:F 4=some (.ptr o4 4 0 0):=hF 4 _ (by unfold cF; simp -implicitDefEqProofs only[go_sem,γ,reduceCtorEq])
 have f5:F 5=some (.int .i64 n):=hF 5 _ (by unfold cF; simp -implicitDefEqProofs only[go_sem,γ,reduceCtorEq])
 have f6:F 6=some (.ptr o6 4 0 0):=hF 6 _ (by unfold cF; simp -implicitDefEqProofs only[go_sem,γ,reduceCtorEq])
 have f7:F 7=some (.int .i64 left):=hF 7 _ (by unfold cF; simp -implicitDefEqProofs only[go_sem,γ,reduceCtorEq])
 have f8:F 8=some (.int .i64 i):=hF 8 _ (by unfold cF; simp -implicitDefEqProofs only[go_sem,γ,reduceCtorEq])
 simp -implicitDefEqProofs only[go_sem,OZ,PA]
 refine aQD (C:=C) Lb T o o4 o6 n left i a ha hn hi ([(o4,amX),(o6,ON w1 w2 w3)]++B) (qN s w1 w2 w3) _ _ H ?_ hH ?_
 ·unfold eJ
  (repeat' (first|exact PF.nil_le|refine PF.aA ?_ ?_))<;>first|(simp -implicitDefEqProofs only[go_sem,γ,reduceCtorEq,f0,f4,f5,f6,f7,f8]<;>rfl)|rfl
 intro w F1 H1 hF1 hH1
 have hlen:=QF l i a n
 have hw:∃ q,w=.osl q 3 0 n:=by
  rcases hH1.own (v:=w) 3 rfl with ⟨h1,_⟩ | ⟨q,rs,h1,_⟩
  ·have:=congrArg List.length h1
   rw[jJ,hlen] at this
   simp at this; omega
  ·rw[jJ,hlen] at h1
   exact⟨q,h1⟩
 obtain⟨q,rfl⟩:=hw
 have g0:F1 0=some (.ptr o 2 0 0):=hF1 0 _ (by unfold eJ; simp -implicitDefEqProofs only[go_sem,reduceCtorEq])
 have g4:F1 4=some (.ptr o4 4 0 0):=hF1 4 _ (by unfold eJ; simp -implicitDefEqProofs only[go_sem,γ,reduceCtorEq])
 have g5:F1 5=some (.int .i64 n):=hF1 5 _ (by unfold eJ; simp -implicitDefEqProofs only[go_sem,γ,reduceCtorEq])
 have g6:F1 6=some (.ptr o6 4 0 0):=hF1 6 _ (by unfold eJ; simp -implicitDefEqProofs only[go_sem,γ,reduceCtorEq])
 have g7:F1 7=some (.int .i64 left):=hF1 7 _ (by unfold eJ; simp -implicitDefEqProofs only[go_sem,γ,reduceCtorEq])
 have g8:F1 8=some (.int .i64 i):=hF1 8 _ (by unfold eJ; simp -implicitDefEqProofs only[go_sem,γ,reduceCtorEq])
 have g13:F1 13=some (.osl q 3 0 n):=hF1 13 _ (by unfold eJ; simp -implicitDefEqProofs only[go_sem,γ,reduceCtorEq])
 have b6:=hH1.at 2 rfl
 have h11:(1:Nat)*1≤16777216:=by decide
 simp -implicitDefEqProofs only[go_sem,υ,δ,γ,η,θ,ζ,PE,g6,b6,g13,h11,baP,baY,or_false,forall_eq]
 refine hH1.append 1 (src:=[[.osl q 3 0 n]]) rfl (by simp -implicitDefEqProofs only[go_sem]) (aLQ (by omega)) fun w2' H2 h2 hw2=>?_
 obtain⟨q2,rfl⟩:=hw2 (by simp)
 have b6':=h2.at 2 rfl
 simp -implicitDefEqProofs only[go_sem,δ,θ,b6',baP,baY,or_false,forall_eq]
 have h3:=h2.set 2 rfl (ON w1 (.osl q2 1 0 (qF s.rates++[[PV.osl q 3 0 n]]).length) w3)
 have hl2:(qF s.rates++[[(PV.osl q 3 0 n:PV)]]).length=s.rates.length+1:=by simp
 rw[hl2] at h3 ⊢
 refine hK (.osl q2 1 0 (s.rates.length+1)) (.osl q 3 0 n) _ _ B ?_ ⟨q,rfl⟩ h3
 unfold cF
 (repeat' (first|exact PF.nil_le|refine PF.aA ?_ ?_))<;>first|(simp -implicitDefEqProofs only[go_sem,γ,reduceCtorEq,g0,g4,g5,g6,g7,g8]<;>rfl)|rfl
theorem aVC {C:Ctx} (Lb:oQ C) {l:List Nat} {v:PV} (T:Tp l v) (o dV a:Nat) (hm:0<dV) (hm2:dV≤50) (ha:a≤l.length):GC.wp C (aZ aoP.res (aNW l v o dV a)) (PF.args [.ptr o 2 0 0,.int .i64 dV]) (PH.nil.set o (bF v a)):=by
 have h0:aT (PH.nil.set o (bF v a)) [(o,bF v a)] []:=aT.nil.new (H:=PH.nil) rfl (bF v a)
 simp -implicitDefEqProofs only[go_sem,δ,GC,aAC,aoP]
 refine aP fun o4 ho4=>?_
 have h1:=h0.new ho4 amX
 simp -implicitDefEqProofs only[go_sem,γ,reduceCtorEq,aAD]
 refine cK Lb.tozD T (o:=o) (n:=dV) (a:=a) (by omega) ha (by simp -implicitDefEqProofs only[go_sem,γ]) (h1.at 0 rfl) ?_
 have h2:=h1.set 0 rfl (bF v (aD l dV a).2)
 have hN:=bT l hm a
 have hNa:=bH l dV ha
 have e1:IntKind.i64.wrap (1+((aD l dV a).1:Int))=((1+(aD l dV a).1:Nat):Int):=by rw[wrap_i64 (by omega) (by omega)]; omega
 have hRT:∀ s:vX,s=eP l (1+(aD l dV a).1) (aD l dV a).2 (1+(aD l dV a).1)→mX l dV a=(⟨[],s.start,s.rates,s.exit⟩,s.a):=fun s hs=>by rw[hs]; rfl
 have hLR:∀ r H,aNW l v o dV a r H↔r=.agg (mX l dV a).1.cells∧H=PH.nil.set o (bF v (mX l dV a).2):=fun _ _=>Iff.rfl
 generalize hn:1+(aD l dV a).1=n at *
 generalize hb:(aD l dV a).2=b at *
 have hn0:0<n:=by omega
 have hn100:n≤100:=by omega
 simp -implicitDefEqProofs only[go_sem,δ,γ,e1,aAE]
 refine aP fun o6 ho6=>?_
 have h3:=((h2.new ho6 amX).wX 3).wX 1
 have h4:=h3.wX 3
 simp -implicitDefEqProofs only[go_sem,aAF,aAG]
 refine wp_loop (α:=Nat × PV × PV × PV × PH) (fun t=>cF o o4 o6 n (eP l n b t.1).left t.1) (fun t=>t.2.2.2.2)
  (fun t=>t.1≤n∧aT t.2.2.2.2 (nG o o4 o6 v t.2.1 t.2.2.1 t.2.2.2.1 (eP l n b t.1).a) (qN (eP l n b t.1) t.2.1 t.2.2.1 t.2.2.2.1)) (fun t=>n-t.1) (0,.nils,.nils,.nils,_) ⟨baR _,h4⟩ ?_ PH.le_refl ?_
 ·unfold cF
  (repeat' (first|exact PF.nil_le|refine PF.aA ?_ ?_))<;>first|(simp -implicitDefEqProofs only[go_sem,γ,reduceCtorEq,eP]<;>rfl)|rfl
 rintro⟨i,w1,w2,w3,H0⟩ ⟨hi,hH⟩
 simp only at hi hH ⊢
 obtain⟨k1,k2,k3,k4,k5⟩:=XM l n hNa i
 simp -implicitDefEqProofs only[go_sem,γ,reduceCtorEq,aoQ,aAH,cF]
 by_cases hlt:i<n
 ·have hlt':(i:Int)<(n:Nat):=by omega
  have hstep:eP l n b (i+1)=⟨(eP l n b i).start++[mkT ((cO l n i (eP l n b i)).1:Nat) 8],(eP l n b i).exit++[(dT l n i (cO l n i (eP l n b i)).2).1],(eP l n b i).rates++[(cP l i (dT l n i (cO l n i (eP l n b i)).2).2 n).1],(eP l n b i).left-(cO l n i (eP l n b i)).1,(cP l i (dT l n i (cO l n i (eP l n b i)).2).2 n).2⟩:=rfl
  have kl:=OP l n i (eP l n b i) k1
  have ke:=ajC l n i kl.1
  generalize hs:eP l n b i=s at *
  simp -implicitDefEqProofs only[go_sem,hlt']
  refine aKE (C:=C) Lb T o o4 o6 n i s k1 k2 hn100 hlt [(o4,amX),(o6,ON w1 w2 w3)] (qN s w1 w2 w3) _ _ _ H0 (by unfold cF; (repeat' (first|exact PF.nil_le|refine PF.aA ?_ ?_))<;>first|(simp -implicitDefEqProofs only[go_sem,γ,reduceCtorEq]<;>rfl)|rfl) hH ?_
  intro F1 H1 hF1 f9 hH1
  refine aGA (C:=C) (l:=l) Lb o o4 o6 n i _ (cO l n i s).1 (cO l n i s).2 (by omega) hlt hn100 s k3 w1 w2 w3 [] _ _ F1 H1 hF1 f9 hH1 ?_
  intro w1' F2 H2 B2 hF2 hH2
  refine aKD (C:=C) Lb T o o4 o6 n i _ (cO l n i s).2 kl.1 hlt hn100 { s with start:=s.start++[mkT ((cO l n i s).1:Nat) 8] } k4 w1' w2 w3 B2 _ _ F2 H2 hF2 hH2 ?_
  intro w3' F3 H3 B3 hF3 hH3
  refine aFZ (C:=C) Lb T o o4 o6 n _ i (dT l n i (cO l n i s).2).2 ke hn100 hlt { s with start:=s.start++[mkT ((cO l n i s).1:Nat) 8],exit:=s.exit++[(dT l n i (cO l n i s).2).1] } k5 w1' w2 w3' B3 _ F3 H3 hF3 hH3 ?_
  rintro w2' w13 F4 H4 B4 hF4 ⟨q,rfl⟩ hH4
  have g0:F4 0=some (.ptr o 2 0 0):=hF4 0 _ (by unfold cF; simp -implicitDefEqProofs only[go_sem,reduceCtorEq])
  have g4:F4 4=some (.ptr o4 4 0 0):=hF4 4 _ (by unfold cF; simp -implicitDefEqProofs only[go_sem,γ,reduceCtorEq])
  have g5:F4 5=some (.int .i64 n):=hF4 5 _ (by unfold cF; simp -implicitDefEqProofs only[go_sem,γ,reduceCtorEq])
  have g6:F4 6=some (.ptr o6 4 0 0):=hF4 6 _ (by unfold cF; simp -implicitDefEqProofs only[go_sem,γ,reduceCtorEq])
  have g7:F4 7=some (.int .i64 (s.left-(cO l n i s).1:Nat)):=hF4 7 _ (by unfold cF; simp -implicitDefEqProofs only[go_sem,γ,reduceCtorEq])
  have g8:F4 8=some (.int .i64 i):=hF4 8 _ (by unfold cF; simp -implicitDefEqProofs only[go_sem,γ,reduceCtorEq])
  obtain⟨rs,z1,z2,z3,z4,z5⟩:=hH4.frz 3 rfl
  have y1:=z4 0 _ (by decide) rfl
  have y2:=z4 1 _ (by decide) rfl
  have y3:=z4 2 _ (by decide) rfl
  simp only at y1 y2 y3
  have y4:=T.frz q 3 rs
  simp -implicitDefEqProofs only[go_sem,γ,aoU,g8,aL (show i<9223372036854775807 by omega)]
  refine aaK (i+1,w1',w2',w3',H4.frz q 3 rs) z1 ⟨hlt,?_⟩ (by simp only; omega) ?_ PH.le_refl
  ·rw[hstep]
   have eB:(nG o o4 o6 v w1' w2' w3' (cP l i (dT l n i (cO l n i s).2).2 n).2).map (fun b=>(b.1,b.2.frz q 3 rs))=nG o o4 o6 v w1' w2' w3' (cP l i (dT l n i (cO l n i s).2).2 n).2:=by
    simp only[bbK,bcM,bX.frz,y1,y2,y3,y4]
    rfl
   have eL:([(w1',3,eT (s.start++[mkT ((cO l n i s).1:Nat) 8])),(w2',1,qF s.rates++[[.osl q 3 0 n]]),(w3',3,eT (s.exit++[(dT l n i (cO l n i s).2).1]))]:List LI).map (fun x=>(x.1,x.2.1,x.2.2.map fun r=>r.map (PV.cZ q 3 rs))) =
     qN ⟨s.start++[mkT ((cO l n i s).1:Nat) 8],s.exit++[(dT l n i (cO l n i s).2).1],s.rates++[(cP l i (dT l n i (cO l n i s).2).2 n).1],s.left-(cO l n i s).1,(cP l i (dT l n i (cO l n i s).2).2 n).2⟩ w1' w2' w3':=by
    have e2:(qF s.rates++[[PV.osl q 3 0 n]]).map (fun r=>r.map (PV.cZ q 3 rs))=qF (s.rates++[(cP l i (dT l n i (cO l n i s).2).2 n).1]):=by
     rw[bcA,adG,bbK,bcM,bbK,bcM,z2,aLR]
    show ([(w1',3,(eT (s.start++[mkT ((cO l n i s).1:Nat) 8])).map (fun r=>r.map (PV.cZ q 3 rs))),(w2',1,(qF s.rates++[[PV.osl q 3 0 n]]).map (fun r=>r.map (PV.cZ q 3 rs))),(w3',3,(eT (s.exit++[(dT l n i (cO l n i s).2).1])).map (fun r=>r.map (PV.cZ q 3 rs)))]:List LI)=_
    rw[zR,e2,zR]
   rw[← eB,← eL]
   exact z5.sub (by rw[bcA]; exact List.sublist_append_left ..) (bcK.refl _)
  ·rw[hstep]
   (repeat' (first|exact PF.nil_le|refine PF.aA ?_ ?_))<;>first|(simp -implicitDefEqProofs only[go_sem,γ,reduceCtorEq,g0,g4,g5,g6,g7,g8]<;>rfl)|rfl
 ·have hlt':¬ (i:Int)<(n:Nat):=by omega
  have:i=n:=by omega
  subst this
  simp -implicitDefEqProofs only[go_sem,γ,reduceCtorEq,hlt',aoV]
  have b4:=hH.at 1 rfl
  have b6:=hH.at 2 rfl
  have osl:∀ {w:PV} {z:Nat} {rows:List (List PV)},rows.length=i→bA H0 z w rows→∃ q,w=.osl q z 0 i:=by
   intro w z rows hr hO
   rcases hO with ⟨h1,_⟩ | ⟨q,rs,h1,_⟩
   ·rw[h1] at hr; simp at hr; omega
   ·exact⟨q,by rw[h1,hr]⟩
  obtain⟨q1,rfl⟩:=osl (by rw[jJ,k3]) (hH.own 0 rfl)
  obtain⟨q2,rfl⟩:=osl (by rw[baF,k5]) (hH.own 1 rfl)
  obtain⟨q3,rfl⟩:=osl (by rw[jJ,k4]) (hH.own 2 rfl)
  have hR:=hRT (eP l i b i) rfl
  simp -implicitDefEqProofs only[go_sem,δ,γ,reduceCtorEq,b6,b4,baP,baY,or_false,forall_eq,forall_eq_or_imp]
  have x1:=hH.set 1 rfl (ON (.osl q1 3 0 i) (.osl q2 1 0 i) (.osl q3 3 0 i))
  obtain⟨r1,s1,s2,s3,s4,s5⟩:=x1.frz 0 rfl
  have u2:=s4 1 _ (by decide) rfl
  have u3:=s4 2 _ (by decide) rfl
  simp only at u2 u3
  have u4:=T.frz q1 3 r1
  obtain⟨r2,t1,t2,t3,t4,t5⟩:=s5.frz 0 rfl
  have m3:=t4 1 _ (by decide) rfl
  simp only at m3
  have m4:=T.frz q2 1 r2
  obtain⟨r3,n1,n2,n3,n4,n5⟩:=t5.frz 0 rfl
  have n4:=T.frz q3 3 r3
  refine YR (vs:=[.agg [.str [],.osl q1 3 0 i,.osl q2 1 0 i,.osl q3 3 0 i]]) (.inr rfl) ?_ (.step s1 (.step t1 (.step n1 (.done (H2:=PH.nil.set o (bF v (eP l i b i).a)) ?_ (PH.aA PH.nil_le ?_)))))
  ·simp -implicitDefEqProofs only[go_sem,δ,γ,reduceCtorEq]
  ·rw[hLR,hR]
   refine⟨?_,rfl⟩
   simp only[cU,PV.frz,PV.pA,bbK,bcM,s2,u2,u3,t2,m3,n2]
   simp only[PV.cZ,zR _ _ _ _,adG _ _ _ _]
  ·have:=n5.at 0 rfl
   rw[this]
   simp only[bX.frz,bbK,bcM,u4,m4,n4]
   rfl
end Go.PM
namespace Go.PM
open Go Go.Na
structure jX (C:Ctx):Prop extends oQ C where
 law:∀ (l:List Nat) (v:PV),Tp l v→∀ (o dV a:Nat),0<dV→dV≤50→a≤l.length→aJ C 2 [.ptr o 2 0 0,.int .i64 dV] (PH.nil.set o (bF v a)) (aNW l v o dV a)
structure GOk (l:List Nat) (drives:Nat) (s:GS):Prop where
 doms:s.doms.length≤35
 drvs:s.drvs.length≤drives
 a:s.a≤l.length
theorem NX {l:List Nat} {mc drives dom:Nat} {s:GS} (h:GOk l drives s):∀ i,GOk l drives (gA l mc drives dom s i)∧(gA l mc drives dom s i).doms=s.doms
 | 0=>⟨h,rfl⟩
 | i+1=>by
  obtain⟨⟨h1,h2,h3⟩,h4⟩:=NX (mc:=mc) (dom:=dom) h i
  simp only[gA]
  split
  ·exact⟨⟨h1,by simp only[baI,baL]; omega,bH l mc h3⟩,h4⟩
  ·exact⟨⟨h1,h2,h3⟩,h4⟩
theorem axH {l:List Nat} {level dom drives:Nat} {s:GS} (h:GOk l drives s) (hf:mI drives s=false):GOk l drives (kA l level dom s)∧∃ x:cG,(kA l level dom s).doms=s.doms++[x]∧x.level=(level:Int)∧x.parent=(dom:Int):=by
 obtain⟨h1,h2,h3⟩:=h
 unfold mI at hf
 rw[Bool.or_eq_false_iff] at hf
 have hd:=of_decide_eq_false hf.2
 refine⟨⟨?_,h2,?_⟩,_,rfl,rfl,rfl⟩
 ·simp only[kA,baI,baL]; omega
 ·have a1:=bH l 3 (bH l 16 h3)
  simp only[kA]
  split
  ·exact bH l 6 a1
  ·exact a1
theorem NY {l:List Nat} {level drives dom:Nat} {rec:Nat→GS→GS} (hrec:∀ d t,GOk l drives t→GOk l drives (rec d t)∧∃ u,(rec d t).doms=t.doms++u) {s:GS} (h:GOk l drives s) :
  ∀ i,GOk l drives (eY l level drives dom rec s i)∧∃ u,(eY l level drives dom rec s i).doms=s.doms++u
 | 0=>⟨h,[],by simp[eY]⟩
 | i+1=>by
  obtain⟨h1,u,h2⟩:=NY hrec h i
  simp only[eY]
  split
  ·exact⟨h1,u,h2⟩
  ·rename_i hf
   obtain⟨g1,x,g2,-⟩:=axH (level:=level) (dom:=dom) h1 (by simpa using hf)
   obtain⟨k1,u',k2⟩:=hrec ((kA l level dom (eY l level drives dom rec s i)).doms.length-1) _ g1
   exact⟨k1,u++[x]++u',by rw[k2,g2,h2]; simp⟩
theorem NZ {l:List Nat} {mc drives:Nat}:∀ (k dom:Nat) {s:GS},GOk l drives s→GOk l drives (dS l mc drives k dom s)∧∃ u,(dS l mc drives k dom s).doms=s.doms++u
 | 0,dom,s,h=>by
  have h0:GOk l drives { s with a:=(aD l 2 s.a).2 }:=⟨h.doms,h.drvs,bH l 2 h.a⟩
  obtain⟨h1,h2⟩:=NX (mc:=mc) (dom:=dom) h0 (1+(aD l 2 s.a).1)
  exact⟨h1,[],by simp only[dS]; rw[h2]; simp⟩
 | k+1,dom,s,h=>by
  have h0:GOk l drives { s with a:=(aD l 2 s.a).2 }:=⟨h.doms,h.drvs,bH l 2 h.a⟩
  exact NY (level:=4-k) (dom:=dom) (fun d t ht=>NZ k d ht) h0 (if 4-k=2 then 1 else 1+(aD l 2 s.a).1)
theorem aFH {l : List Nat} {level drives dom : Nat} {rec : Nat → GS → GS} {s : GS} {i : Nat} (h : mI drives (eY l level drives dom rec s i) = true) : ∀ n, i ≤ n → eY l level drives dom rec s n = eY l level drives dom rec s i := by
  intro n hn
  induction n with
  | zero => have : i = 0 := by omega
            subst this; rfl
  | succ n ih =>
    rcases baU n i with h' | h'
    · have : i = n + 1 := by omega
      subst this; rfl
    · have e := ih h'
      simp only [eY]
      rw [e, if_pos h]
def mkS (l:List Nat) (v:PV):Spec:=fun name vs=>match name,vs with
 | 29,[.str s,.int _ i]=>some ([],fun _=>aK (.str (s++bM i.toNat)))
 | 47,[.int _ n]=>some ([],fun _=>aK (.agg (mkT n 1).cells))
 | 4,[.ptr o _ _ _,.int _ n]=>some ([o],fun H0 r H'=>∀ a,H0 o=some (bF v a)→QX l v o n.toNat a r H')
 | _,_=>none
section
variable {C:Ctx} {F:PF} {H Hs:PH} {l:List Nat} {v:PV} {o a:Nat}
theorem nK (Lb:zD C) (T:Tp l v) {n:Nat} {st:Bool} {args:List aM} {d:Option Nat} {K:PF→PH→Prop} (hn:n≤1000000) (ha:a≤l.length) (hargs:aM.evs F args=some [.ptr o 2 0 0,.int .i64 n]) (ho:H o=some (bF v a))
  (hle:Hs.le (H.set o (bF v (aD l n a).2))) (hk:K (F.put d (.int .i64 ((aD l n a).1:Nat))) (H.set o (bF v (aD l n a).2))):dOp C Hs (mkS l v) st (.call 4 args) d K F H:=by
 refine aOG (x:=bF v a) (y:=bF v (aD l n a).2) (r:=.int .i64 ((aD l n a).1:Nat)) (R:=fun H0 r H'=>∀ a,H0 o=some (bF v a)→QX l v o n a r H') rfl ho (Lb.next l v T o n a hn ha) ?_ ?_ hargs hle hk
 ·intro b hb
  rw[jK] at hb
  injection hb with hb
  injection hb with _ hb
  injection hb with hb _
  injection hb with _ hb
  injection hb with hb _
  injection hb with _ hb
  have:a=b:=by omega
  subst this
  exact⟨rfl,rfl⟩
 ·intro r' H' hr
  exact hr a (by rw[jK])
theorem zI (Lb:oQ C) {s:List UInt8} {n:Nat} {st:Bool} {args:List aM} {d:Option Nat} {K:PF→PH→Prop} (hs:s.length≤100) (hn:n<100) (hargs:aM.evs F args=some [.str s,.int .i64 n]) (hle:Hs.le H) (hk:K (F.put d (.str (s++bM n))) H) :
  dOp C Hs (mkS l v) st (.call 29 args) d K F H :=
 cN (v:=.str (s++bM n)) rfl (Lb.name s n hs hn) hargs hle hk
theorem aTD (Lb:zD C) {n:Int} {st:Bool} {args:List aM} {d:Option Nat} {K:PF→PH→Prop} (hn:dQ n) (hargs:aM.evs F args=some [.int .i64 n]) (hle:Hs.le H) (hk:K (F.put d (.agg (mkT n 1).cells)) H) :
  dOp C Hs (mkS l v) st (.call 47 args) d K F H :=
 cN (v:=.agg (mkT n 1).cells) rfl (Lb.int n hn) hargs hle hk
end
end Go.PM
namespace Go.PM
open Go Go.Na
theorem bA.rT {H:PH} {s:Nat} {v:PV} {rows:List (List PV)} (h:bA H s v rows):PV.rT v=some (.int .i64 (rows.length:Nat)):=by
 rcases h with ⟨rfl,rfl⟩ | ⟨q,rs,rfl,_⟩<;>rfl
abbrev gI (l:List cG):List (List PV):=l.map cG.cells
abbrev jI (l:List cM):List (List PV):=l.map cM.cells
abbrev flB (ext wl wm wd wr wp wv:PV):bX:=.rows 7 [[ext,wl,wm,wd,wr,wp,wv]]
structure GE where
 o:Nat
 fo:Nat
 qm:Nat
 ext:PV
 wl:PV
 wp:PV
 wv:PV
abbrev GE.boxes (G:GE) (v:PV) (mc:Nat) (wd wr:PV) (a:Nat):List BX:=[(G.o,bF v a),(G.fo,flB G.ext G.wl (.osl G.qm 4 0 mc) wd wr G.wp G.wv)]
abbrev iZ (s:GS) (wd wr:PV):List LI:=[(wd,7,gI s.doms),(wr,3,jI s.drvs)]
def dU (G:GE) (dom drives level n i:Nat):PF:=(((((((PF.nil.set 0 (.ptr G.o 2 0 0)).set 1 (.ptr G.fo 7 0 0)).set 2 (.int .i64 dom)).set 3 (.int .i64 drives)).set 8 (.int .i64 level)).set 9 (.int .i64 n)).set 10 (.int .i64 i))
theorem bA.one {H:PH} {s:Nat} {v:PV} {rows:List (List PV)} (h:bA H s v rows) (hn:0<rows.length):∃ q,v=.osl q s 0 rows.length:=by
 rcases h with ⟨rfl,_⟩ | ⟨q,rs,rfl,_⟩
 ·simp at hn
 ·exact⟨q,rfl⟩
theorem aoG {C:Ctx} (Lb:jX C) {l:List Nat} {v:PV} (T:Tp l v) (G:GE) (mc drives dom n:Nat) (hmc:0<mc) (hmc2:mc≤1000) (hdr:drives≤60) (hn:n≤10) (s:GS) (hs:GOk l drives s) (wd wr:PV) (K:cD) (F:PF) (H:PH)
  (hF:(dU G dom drives 5 n 0).le F) (hH:aT H (G.boxes v mc wd wr s.a) (iZ s wd wr))
  (hK:∀ wd' wr' F' H',aT H' (G.boxes v mc wd' wr' (gA l mc drives dom s n).a) (iZ (gA l mc drives dom s n) wd' wr')→K (.exit 0) F' H') :
  aC.wp C (.loop rH) K F H:=by
 refine wp_loop (α:=Nat × PV × PV × PH) (fun t=>dU G dom drives 5 n t.1) (fun t=>t.2.2.2) (fun t=>t.1≤n∧aT t.2.2.2 (G.boxes v mc t.2.1 t.2.2.1 (gA l mc drives dom s t.1).a) (iZ (gA l mc drives dom s t.1) t.2.1 t.2.2.1)) (fun t=>n-t.1) (0,wd,wr,H) ⟨baR _,hH⟩ hF PH.le_refl ?_
 rintro⟨i,wd,wr,H0⟩ ⟨hi,hH⟩
 simp only at hi hH ⊢
 obtain⟨gs,-⟩:=NX (mc:=mc) (dom:=dom) hs i
 have hstep:gA l mc drives dom s (i+1)=(if (gA l mc drives dom s i).drvs.length<drives then { gA l mc drives dom s i with drvs:=(gA l mc drives dom s i).drvs++[⟨[100]++bM (gA l mc drives dom s i).drvs.length,((aD l mc (gA l mc drives dom s i).a).1:Nat),(dom:Nat)⟩],a:=(aD l mc (gA l mc drives dom s i).a).2 } else gA l mc drives dom s i):=rfl
 simp -implicitDefEqProofs only[go_sem,γ,reduceCtorEq,rH,OR,dU]
 by_cases hlt:i<n
 ·have hlt':(i:Int)<(n:Nat):=by omega
  generalize hg:gA l mc drives dom s i=g at *
  have b1:=hH.at 1 rfl
  have lr:=(hH.own 1 rfl).rT
  rw[baF] at lr
  have ei:=aL (show i<9223372036854775807 by omega)
  simp -implicitDefEqProofs only[go_sem,δ,γ,θ,reduceCtorEq,hlt',OS,show (((5:Nat):Int)==5)=true from rfl,aoM,b1,lr]
  by_cases hc:g.drvs.length<drives
  ·have hc':(g.drvs.length:Int)<(drives:Nat):=by omega
   rw[if_pos hc] at hstep
   simp -implicitDefEqProofs only[go_sem,hc']
   have hHs:(PH.nil.set G.fo (flB G.ext G.wl (.osl G.qm 4 0 mc) wd wr G.wp G.wv)).le H0:=PH.aA PH.nil_le b1
   refine cC (PH.nil.set G.fo (flB G.ext G.wl (.osl G.qm 4 0 mc) wd wr G.wp G.wv)) (mkS l v) hHs ?_
   simp -implicitDefEqProofs only[go_sem,δ,γ,θ,reduceCtorEq,aoN,b1,lr]
   refine zI Lb.tooQ (s:=[100]) (n:=g.drvs.length) (by decide) (by have:=gs.drvs; omega) rfl hHs ?_
   simp -implicitDefEqProofs only[go_sem,δ,γ,θ,reduceCtorEq]
   have ho:=hH.at 0 rfl
   have h1:=hH.set 0 rfl (bF v (aD l mc g.a).2)
   have b1':=h1.at 1 rfl
   refine nK Lb.tozD T (o:=G.o) (n:=mc) (a:=g.a) (by omega) gs.a rfl ho (PH.aA PH.nil_le b1') ?_
   have h132:(1:Nat)*3≤16777216:=by decide
   simp -implicitDefEqProofs only[go_sem,υ,δ,γ,η,θ,ζ,reduceCtorEq,h132,baP,baY,or_false,forall_eq,forall_eq_or_imp]
   refine h1.append 1 (src:=[(⟨[100]++bM g.drvs.length,((aD l mc g.a).1:Nat),(dom:Nat)⟩:cM).cells]) rfl rfl (by unfold roomFor; rw[baF]; have:=gs.drvs; simp only[baL,maxLen]; omega) fun wr' H2 h2 hw=>?_
   obtain⟨q,rfl⟩:=hw (by simp)
   have b2:=h2.at 1 rfl
   refine⟨PH.aA PH.nil_le b2,?_⟩
   refine cC .nil eE PH.nil_le ?_
   simp -implicitDefEqProofs only[go_sem,δ,γ,θ,reduceCtorEq,aoO,b2,baP,baY,or_false,forall_eq]
   have h3:=h2.set 1 rfl (flB G.ext G.wl (.osl G.qm 4 0 mc) wd (.osl q 3 0 (jI g.drvs++[(⟨[100]++bM g.drvs.length,((aD l mc g.a).1:Nat),(dom:Nat)⟩:cM).cells]).length) G.wp G.wv)
   refine⟨PH.nil_le,?_⟩
   simp -implicitDefEqProofs only[go_sem,γ,reduceCtorEq,rI,ei]
   refine aH (i+1,wd,.osl q 3 0 (jI g.drvs++[(⟨[100]++bM g.drvs.length,((aD l mc g.a).1:Nat),(dom:Nat)⟩:cM).cells]).length,_) ⟨hlt,?_⟩ (by simp only; omega) ?_ PH.le_refl
   ·rw[hstep]
    have e:jI (g.drvs++[(⟨[100]++bM g.drvs.length,((aD l mc g.a).1:Nat),(dom:Nat)⟩:cM)])=jI g.drvs++[(⟨[100]++bM g.drvs.length,((aD l mc g.a).1:Nat),(dom:Nat)⟩:cM).cells]:=by simp[jI]
    unfold iZ
    simp only
    rw[e]
    exact h3
   ·(repeat' (first|exact PF.nil_le|refine PF.aA ?_ ?_))<;>first|(simp -implicitDefEqProofs only[go_sem,γ,reduceCtorEq]<;>rfl)|rfl
  ·have hc':¬ (g.drvs.length:Int)<(drives:Nat):=by omega
   rw[if_neg hc] at hstep
   simp -implicitDefEqProofs only[go_sem,γ,reduceCtorEq,hc',rI,ei]
   refine aH (i+1,wd,wr,H0) ⟨hlt,by rw[hstep]; exact hH⟩ (by simp only; omega) ?_ PH.le_refl
   (repeat' (first|exact PF.nil_le|refine PF.aA ?_ ?_))<;>first|(simp -implicitDefEqProofs only[go_sem,γ,reduceCtorEq]<;>rfl)|rfl
 ·have hlt':¬ (i:Int)<(n:Nat):=by omega
  have:i=n:=by omega
  subst this
  simp -implicitDefEqProofs only[go_sem,hlt']
  exact hK wd wr _ _ hH
end Go.PM
namespace Go.PM
open Go Go.Na
def aDW (G:GE) (v:PV) (mc:Nat) (s':GS) (r:PV) (B':List BX) (L':List LI):Prop:=r=.tup []∧∃ wd wr,B'=G.boxes v mc wd wr s'.a∧L'=iZ s' wd wr
def QW (C:Ctx) (l:List Nat) (v:PV) (mc drives k:Nat):Prop :=
 ∀ (G:GE) (wd wr:PV) (s:GS) (dom:Nat) (x:cG),GOk l drives s→s.doms[dom]?=some x→x.level=4-(k:Int)→∀ H0,aT H0 (G.boxes v mc wd wr s.a) (iZ s wd wr) →
  aJ C 7 [.ptr G.o 2 0 0,.ptr G.fo 7 0 0,.int .i64 dom,.int .i64 drives] H0 (fun r H'=>∃ B' L',aDW G v mc (dS l mc drives k dom s) r B' L'∧aT H' B' L')
theorem aJK {lv:Nat} (h:lv≤4):([45,115,114,107,109]:List UInt8)[lv]?=some (iK lv):=by
 match lv,h with
 | 0,_=>rfl
 | 1,_=>rfl
 | 2,_=>rfl
 | 3,_=>rfl
 | 4,_=>rfl
theorem LE {C:Ctx} {l:List Nat} {v:PV} (G:GE) (mc drives dom lv n i k p:Nat) (hlv:lv=4-k) (hk:k<4) (hrec:QW C l v mc drives k) (g:GS) (x:cG) (a:Nat) (hg:GOk l drives { g with doms:=g.doms++[x],a:=a }) (hx:x.level=(lv:Nat)) (wd wr:PV) (hdr:drives≤60) (K:cD) (F:PF) (H:PH)
  (hF:(dU G dom drives lv n i).le F) (f11:F 11=some (.ptr p 7 0 0)) (hH:aT H (G.boxes v mc wd wr a++[(p,.rows 7 [x.cells])]) (iZ g wd wr))
  (hK:∀ wd' wr' F' H',(dU G dom drives lv n i).le F'→aT H' (G.boxes v mc wd' wr' (dS l mc drives k g.doms.length { g with doms:=g.doms++[x],a:=a }).a) (iZ (dS l mc drives k g.doms.length { g with doms:=g.doms++[x],a:=a }) wd' wr')→K .normal F' H') :
  aC.wp C (.draw GA) (kE C (aC.wp C (.region GB)) K) F H:=by
 have f0:F 0=some (.ptr G.o 2 0 0):=hF 0 _ (by unfold dU; simp -implicitDefEqProofs only[go_sem,reduceCtorEq])
 have f1:F 1=some (.ptr G.fo 7 0 0):=hF 1 _ (by unfold dU; simp -implicitDefEqProofs only[go_sem,γ,reduceCtorEq])
 have f2:F 2=some (.int .i64 dom):=hF 2 _ (by unfold dU; simp -implicitDefEqProofs only[go_sem,γ,reduceCtorEq])
 have f3:F 3=some (.int .i64 drives):=hF 3 _ (by unfold dU; simp -implicitDefEqProofs only[go_sem,γ,reduceCtorEq])
 have f8:F 8=some (.int .i64 lv):=hF 8 _ (by unfold dU; simp -implicitDefEqProofs only[go_sem,γ,reduceCtorEq])
 have f9:F 9=some (.int .i64 n):=hF 9 _ (by unfold dU; simp -implicitDefEqProofs only[go_sem,γ,reduceCtorEq])
 have f10:F 10=some (.int .i64 i):=hF 10 _ (by unfold dU; simp -implicitDefEqProofs only[go_sem,γ,reduceCtorEq])
 have hdl:=hg.doms
 simp only[baI,baL] at hdl
 have b1:=hH.at 1 rfl
 have b2:=hH.at 2 rfl
 have h17:(1:Nat)*7≤16777216:=by decide
 refine cC .nil eE PH.nil_le ?_
 simp -implicitDefEqProofs only[go_sem,υ,δ,γ,η,θ,ζ,reduceCtorEq,GA,f1,f11,b1,b2,h17,baP,baY,or_false,forall_eq,forall_eq_or_imp]
 refine hH.append 0 (src:=[x.cells]) rfl rfl (by unfold roomFor; rw[baF]; simp only[baL,maxLen]; omega) fun wd' H2 h2 hw=>?_
 obtain⟨q,rfl⟩:=hw (by simp)
 have hl:(gI g.doms++[x.cells]).length=g.doms.length+1:=by simp
 rw[hl] at h2 ⊢
 have c1:=h2.at 1 rfl
 refine⟨PH.nil_le,?_⟩
 simp -implicitDefEqProofs only[go_sem,δ,θ,c1,baP,baY,or_false,forall_eq]
 have h3:=h2.set 1 rfl (flB G.ext G.wl (.osl G.qm 4 0 mc) (.osl q 7 0 (g.doms.length+1)) wr G.wp G.wv)
 have c2:=h3.at 1 rfl
 refine⟨PH.nil_le,?_⟩
 have e:gI (g.doms++[x])=gI g.doms++[x.cells]:=by simp[gI]
 have ew:IntKind.i64.wrap (((g.doms.length+1:Nat):Int)-1)=((g.doms.length:Nat):Int):=by rw[wrap_i64 (by omega) (by omega)]; omega
 simp -implicitDefEqProofs only[go_sem,δ,γ,θ,reduceCtorEq,GB,f0,f1,f3,ew]
 have h4:aT (H2.set G.fo (flB G.ext G.wl (.osl G.qm 4 0 mc) (.osl q 7 0 (g.doms.length+1)) wr G.wp G.wv)) (G.boxes v mc (.osl q 7 0 (g.doms.length+1)) wr a++[(p,.rows 7 [x.cells])]) (iZ { g with doms:=g.doms++[x],a:=a } (.osl q 7 0 (g.doms.length+1)) wr++[]):=by
  unfold iZ
  simp only
  rw[e]
  exact h3
 refine NF h4 (fun H0 hH0=>hrec G _ wr { g with doms:=g.doms++[x],a:=a } g.doms.length x hg (by simp) (by rw[hx]; omega) H0 hH0) rfl ?_
 rintro r B' L' H' ⟨rfl,wd2,wr2,rfl,rfl⟩ hH'
 refine hK wd2 wr2 _ _ ?_ (hH'.sub (List.sublist_append_left ..) (by rw[bbY]; exact bcK.refl _))
 unfold dU
 repeat' first|exact PF.nil_le|refine PF.aA ?_ ?_|rfl|assumption
theorem DN {C:Ctx} (Lb:jX C) {l:List Nat} {v:PV} (T:Tp l v) (G:GE) (mc drives dom n k:Nat) (hk:k<4) (hdr:drives≤60) (hn:n≤10) (hrec:QW C l v mc drives k) (s:GS) (hs:GOk l drives s) (hd0:0<s.doms.length) (wd wr:PV) (K:cD) (F:PF) (H:PH)
  (hF:(dU G dom drives (4-k) n 0).le F) (hH:aT H (G.boxes v mc wd wr s.a) (iZ s wd wr))
  (hK:∀ e wd' wr' F' H',(e=.exit 0∨e=.ret)→aT H' (G.boxes v mc wd' wr' (eY l (4-k) drives dom (dS l mc drives k) s n).a) (iZ (eY l (4-k) drives dom (dS l mc drives k) s n) wd' wr')→K e F' H') :
  aC.wp C (.loop rH) K F H:=by
 obtain⟨lv,hlv⟩:∃ lv,lv=4-k:=⟨_,rfl⟩
 rw[← hlv] at hF hK
 refine wp_loop (α:=Nat × PV × PV × PH) (fun t=>dU G dom drives lv n t.1) (fun t=>t.2.2.2) (fun t=>t.1≤n∧aT t.2.2.2 (G.boxes v mc t.2.1 t.2.2.1 (eY l lv drives dom (dS l mc drives k) s t.1).a) (iZ (eY l lv drives dom (dS l mc drives k) s t.1) t.2.1 t.2.2.1)) (fun t=>n-t.1) (0,wd,wr,H) ⟨baR _,hH⟩ hF PH.le_refl ?_
 rintro⟨i,wd,wr,H0⟩ ⟨hi,hH⟩
 simp only at hi hH ⊢
 obtain⟨gs,u,gu⟩:=NY (level:=lv) (dom:=dom) (fun d t ht=>NZ (mc:=mc) k d ht) hs i
 have hfull:=fun h=>aFH (l:=l) (level:=lv) (drives:=drives) (dom:=dom) (rec:=dS l mc drives k) (s:=s) (i:=i) h n hi
 have hstep:eY l lv drives dom (dS l mc drives k) s (i+1)=(if mI drives (eY l lv drives dom (dS l mc drives k) s i) then eY l lv drives dom (dS l mc drives k) s i else dS l mc drives k ((kA l lv dom (eY l lv drives dom (dS l mc drives k) s i)).doms.length-1) (kA l lv dom (eY l lv drives dom (dS l mc drives k) s i))):=rfl
 simp -implicitDefEqProofs only[go_sem,γ,reduceCtorEq,rH,OR,dU]
 by_cases hlt:i<n
 ·have hlt':(i:Int)<(n:Nat):=by omega
  generalize hg:eY l lv drives dom (dS l mc drives k) s i=g at *
  have gd0:0<g.doms.length:=by rw[gu,baI]; omega
  have b1:=hH.at 1 rfl
  have lr:=(hH.own 1 rfl).rT
  have ld:=(hH.own 0 rfl).rT
  rw[baF] at lr ld
  have ei:=aL (show i<9223372036854775807 by omega)
  simp -implicitDefEqProofs only[go_sem,δ,γ,θ,reduceCtorEq,hlt',OS,bE (show ((lv:Nat):Int)≠5 by omega),abY,b1,lr]
  by_cases c1:drives≤g.drvs.length
  ·have hf:mI drives g=true:=by unfold mI; simp[c1]
   simp -implicitDefEqProofs only[go_sem,γ,reduceCtorEq,show (g.drvs.length:Int)≥(drives:Nat) by omega]
   exact hK _ wd wr _ _ (.inr rfl) (by rw[hfull hf]; exact hH)
  simp -implicitDefEqProofs only[go_sem,δ,γ,θ,reduceCtorEq,show ¬ (g.drvs.length:Int)≥(drives:Nat) by omega,b1,ld]
  by_cases c2:35≤g.doms.length
  ·have hf:mI drives g=true:=by unfold mI; simp[c2]
   simp -implicitDefEqProofs only[go_sem,show (g.doms.length:Int)≥35 by omega]
   exact hK _ wd wr _ _ (.inr rfl) (by rw[hfull hf]; exact hH)
  have hf:mI drives g=false:=by unfold mI; simp[c1,c2]
  rw[if_neg (by rw[hf]; decide)] at hstep
  simp -implicitDefEqProofs only[go_sem,show ¬ (g.doms.length:Int)≥35 by omega]
  have ls:=aJK (show lv≤4 by omega)
  refine cC .nil (mkS l v) PH.nil_le ?_
  have hbr:lM [[PV.int IntKind.u8 (((iK lv).toNat:Nat):Int)]]=some [iK lv]:=by
   simp[lM]
  obtain⟨gg,x0,gx0,-⟩:=axH (level:=lv) (dom:=dom) gs hf
  have hdl:(kA l lv dom g).doms.length-1=g.doms.length:=by rw[gx0]; simp
  rw[hdl] at hstep
  have h1:=hH.set 0 rfl (bF v (aD l 16 g.a).2)
  have a1:=bH l 16 gs.a
  have n1:=bT l (show 0<16 by decide) g.a
  have e1:IntKind.i64.wrap (1+((aD l 16 g.a).1:Int))=((1+(aD l 16 g.a).1:Nat):Int):=by rw[wrap_i64 (by omega) (by omega)]; omega
  simp -implicitDefEqProofs only[go_sem,υ,δ,γ,η,θ,ζ,reduceCtorEq,abZ,ls,hbr,b1,ld]
  refine zI Lb.tooQ (s:=[iK lv]) (n:=g.doms.length) (by simp) (by have:=gs.doms; omega) rfl PH.nil_le ?_
  simp -implicitDefEqProofs only[go_sem,γ,reduceCtorEq]
  refine nK Lb.tozD T (o:=G.o) (n:=16) (a:=g.a) (by omega) gs.a rfl (hH.at 0 rfl) PH.nil_le ?_
  simp -implicitDefEqProofs only[go_sem,γ,reduceCtorEq,e1]
  refine aTD Lb.tozD (n:=0) (by unfold dQ; omega) rfl PH.nil_le ?_
  simp -implicitDefEqProofs only[go_sem,δ,γ,θ,reduceCtorEq,baP,baY,or_false,forall_eq,forall_eq_or_imp]
  refine aP fun p hp=>?_
  have h2:=h1.new hp (.rows 7 [(⟨[iK lv]++bM g.doms.length,(lv:Nat),(dom:Nat),(1+(aD l 16 g.a).1:Nat),gL⟩:cG).cells])
  simp -implicitDefEqProofs only[go_sem,δ,γ,reduceCtorEq,baP,baY,or_false,forall_eq,forall_eq_or_imp]
  refine⟨PH.nil_le,?_⟩
  simp -implicitDefEqProofs only[go_sem,reduceCtorEq,acA]
  refine cK Lb.tozD T (o:=G.o) (n:=3) (a:=(aD l 16 g.a).2) (by decide) a1 rfl (h2.at 0 rfl) ?_
  have h3:=h2.set 0 rfl (bF v (aD l 3 (aD l 16 g.a).2).2)
  have a2:=bH l 3 a1
  by_cases c3:(aD l 3 (aD l 16 g.a).2).1=0
  ·have hd:kA l lv dom g={ g with doms:=g.doms++[⟨[iK lv]++bM g.doms.length,(lv:Nat),(dom:Nat),(1+(aD l 16 g.a).1:Nat),mkT 1 ((2+(aD l 6 (aD l 3 (aD l 16 g.a).2).2).1:Nat):Int)⟩],a:=(aD l 6 (aD l 3 (aD l 16 g.a).2).2).2 }:=by
    unfold kA; simp only[c3,if_true]
   rw[hd] at hstep gg
   have n2:=bT l (show 0<6 by decide) (aD l 3 (aD l 16 g.a).2).2
   have e2:IntKind.i64.wrap (2+((aD l 6 (aD l 3 (aD l 16 g.a).2).2).1:Int))=((2+(aD l 6 (aD l 3 (aD l 16 g.a).2).2).1:Nat):Int):=by rw[wrap_i64 (by omega) (by omega)]; omega
   simp -implicitDefEqProofs only[go_sem,γ,reduceCtorEq,bS (show (((aD l 3 (aD l 16 g.a).2).1:Nat):Int)=0 by omega),acB]
   refine cK Lb.tozD T (o:=G.o) (n:=6) (a:=(aD l 3 (aD l 16 g.a).2).2) (by decide) a2 rfl (h3.at 0 rfl) ?_
   have h4:=h3.set 0 rfl (bF v (aD l 6 (aD l 3 (aD l 16 g.a).2).2).2)
   rw[PH.set_set] at h4
   simp -implicitDefEqProofs only[go_sem,γ,reduceCtorEq,e2]
   refine aB (Lb.fmk 1 ((2+(aD l 6 (aD l 3 (aD l 16 g.a).2).2).1:Nat):Int) (by unfold dQ; omega) (by unfold dQ; omega)) rfl ?_
   unfold rP
   rw[if_neg (by omega)]
   simp -implicitDefEqProofs only[go_sem,δ,γ,reduceCtorEq,show ¬ p=G.o from h4.ne 2 0 rfl rfl (by decide)]
   have h5:=h4.set 2 rfl (.rows 7 [(⟨[iK lv]++bM g.doms.length,(lv:Nat),(dom:Nat),(1+(aD l 16 g.a).1:Nat),mkT 1 ((2+(aD l 6 (aD l 3 (aD l 16 g.a).2).2).1:Nat):Int)⟩:cG).cells])
   try simp only[ZA]
   refine LE G mc drives dom lv n i k p hlv hk hrec g _ _ gg rfl wd wr hdr _ _ _ (by unfold dU; (repeat' (first|exact PF.nil_le|refine PF.aA ?_ ?_))<;>first|(simp -implicitDefEqProofs only[go_sem,γ,reduceCtorEq]<;>rfl)|rfl) rfl h5 ?_
   intro wd' wr' F' H' hF' hH'
   rw[← hstep] at hH'
   have f10:F' 10=some (.int .i64 i):=hF' 10 _ (by unfold dU; simp -implicitDefEqProofs only[go_sem,γ,reduceCtorEq])
   have g0:F' 0=some (.ptr G.o 2 0 0):=hF' 0 _ (by unfold dU; simp -implicitDefEqProofs only[go_sem,reduceCtorEq])
   have g1:F' 1=some (.ptr G.fo 7 0 0):=hF' 1 _ (by unfold dU; simp -implicitDefEqProofs only[go_sem,γ,reduceCtorEq])
   have g2:F' 2=some (.int .i64 dom):=hF' 2 _ (by unfold dU; simp -implicitDefEqProofs only[go_sem,γ,reduceCtorEq])
   have g3:F' 3=some (.int .i64 drives):=hF' 3 _ (by unfold dU; simp -implicitDefEqProofs only[go_sem,γ,reduceCtorEq])
   have g8:F' 8=some (.int .i64 lv):=hF' 8 _ (by unfold dU; simp -implicitDefEqProofs only[go_sem,γ,reduceCtorEq])
   have g9:F' 9=some (.int .i64 n):=hF' 9 _ (by unfold dU; simp -implicitDefEqProofs only[go_sem,γ,reduceCtorEq])
   simp -implicitDefEqProofs only[go_sem,γ,rI,f10,ei]
   refine aH (i+1,wd',wr',H') ⟨hlt,hH'⟩ (by simp only; omega) ?_ PH.le_refl
   repeat' first|exact PF.nil_le|refine PF.aA ?_ ?_|rfl|assumption
  ·have hd:kA l lv dom g={ g with doms:=g.doms++[⟨[iK lv]++bM g.doms.length,(lv:Nat),(dom:Nat),(1+(aD l 16 g.a).1:Nat),gL⟩],a:=(aD l 3 (aD l 16 g.a).2).2 }:=by
    unfold kA; simp only[c3,if_false]
   rw[hd] at hstep gg
   simp -implicitDefEqProofs only[go_sem,γ,reduceCtorEq,bE (show ¬ (((aD l 3 (aD l 16 g.a).2).1:Nat):Int)=0 by omega)]
   try simp only[ZA]
   refine LE G mc drives dom lv n i k p hlv hk hrec g _ _ gg rfl wd wr hdr _ _ _ (by unfold dU; (repeat' (first|exact PF.nil_le|refine PF.aA ?_ ?_))<;>first|(simp -implicitDefEqProofs only[go_sem,γ,reduceCtorEq]<;>rfl)|rfl) rfl h3 ?_
   intro wd' wr' F' H' hF' hH'
   rw[← hstep] at hH'
   have f10:F' 10=some (.int .i64 i):=hF' 10 _ (by unfold dU; simp -implicitDefEqProofs only[go_sem,γ,reduceCtorEq])
   have g0:F' 0=some (.ptr G.o 2 0 0):=hF' 0 _ (by unfold dU; simp -implicitDefEqProofs only[go_sem,reduceCtorEq])
   have g1:F' 1=some (.ptr G.fo 7 0 0):=hF' 1 _ (by unfold dU; simp -implicitDefEqProofs only[go_sem,γ,reduceCtorEq])
   have g2:F' 2=some (.int .i64 dom):=hF' 2 _ (by unfold dU; simp -implicitDefEqProofs only[go_sem,γ,reduceCtorEq])
   have g3:F' 3=some (.int .i64 drives):=hF' 3 _ (by unfold dU; simp -implicitDefEqProofs only[go_sem,γ,reduceCtorEq])
   have g8:F' 8=some (.int .i64 lv):=hF' 8 _ (by unfold dU; simp -implicitDefEqProofs only[go_sem,γ,reduceCtorEq])
   have g9:F' 9=some (.int .i64 n):=hF' 9 _ (by unfold dU; simp -implicitDefEqProofs only[go_sem,γ,reduceCtorEq])
   simp -implicitDefEqProofs only[go_sem,γ,rI,f10,ei]
   refine aH (i+1,wd',wr',H') ⟨hlt,hH'⟩ (by simp only; omega) ?_ PH.le_refl
   repeat' first|exact PF.nil_le|refine PF.aA ?_ ?_|rfl|assumption
 ·have hlt':¬ (i:Int)<(n:Nat):=by omega
  have:i=n:=by omega
  subst this
  simp -implicitDefEqProofs only[go_sem,hlt']
  exact hK _ wd wr _ _ (.inl rfl) hH
end Go.PM
namespace Go.PM
open Go Go.Na
theorem aoH {C:Ctx} (Lb:jX C) {l:List Nat} {v:PV} (T:Tp l v) (mc drives k:Nat) (hmc:0<mc) (hmc2:mc≤1000) (hdr:drives≤60) (hk:k≤4) (hrec:∀ k',k=k'+1→QW C l v mc drives k') (G:GE) (wd wr:PV) (s:GS) (dom:Nat) (x:cG)
  (hs:GOk l drives s) (hx:s.doms[dom]?=some x) (hl:x.level=4-(k:Int)) (H0:PH) (hH:aT H0 (G.boxes v mc wd wr s.a) (iZ s wd wr)) :
  sH.wp C (aZ KF.res (fun r H'=>∃ B' L',aDW G v mc (dS l mc drives k dom s) r B' L'∧aT H' B' L')) (PF.args [.ptr G.o 2 0 0,.ptr G.fo 7 0 0,.int .i64 dom,.int .i64 drives]) H0:=by
 have hd0:dom<s.doms.length:=(bbR.1 hx).1
 have b1:=hH.at 1 rfl
 have fin:∀ (e:kG) (wd' wr':PV) (F':PF) (H':PH),(e=.exit 0∨e=.ret)→aT H' (G.boxes v mc wd' wr' (dS l mc drives k dom s).a) (iZ (dS l mc drives k dom s) wd' wr') →
   eO 0 (aZ KF.res (fun r H'=>∃ B' L',aDW G v mc (dS l mc drives k dom s) r B' L'∧aT H' B' L')) e F' H':=by
  intro e wd' wr' F' H' he hH'
  rcases he with rfl | rfl
  ·rw[avU,if_pos rfl]
   exact aY (vs:=[]) (.inl rfl) H' rfl PH.le_refl ⟨_,_,⟨rfl,wd',wr',rfl,rfl⟩,hH'⟩
  ·exact aY (vs:=[]) (.inr rfl) H' rfl PH.le_refl ⟨_,_,⟨rfl,wd',wr',rfl,rfl⟩,hH'⟩
 obtain⟨q,rs,e1,e2,e3,e4⟩:∃ q rs,wd=.osl q 7 0 s.doms.length∧H0 q=some (.rows 7 rs)∧s.doms.length≤rs.length∧rs.take s.doms.length=gI s.doms:=by
  rcases hH.own 0 rfl with ⟨h1,_⟩ | ⟨q,rs,h1,h2,h3,h4⟩
  ·have:=congrArg List.length h1
   rw[baF] at this
   simp at this; rw[this] at hd0; simp at hd0
  ·rw[baF] at h1 h3 h4
   exact⟨q,rs,h1,h2,h3,h4⟩
 have hrd:rs[dom]?=some x.cells:=by
  have:(gI s.doms)[dom]?=some x.cells:=by simp[gI,hx]
  rw[← e4,List.getElem?_take_of_lt hd0] at this
  exact this
 subst e1
 have c1:(dom:Int)<(s.doms.length:Nat):=by omega
 have ew:IntKind.i64.wrap (x.level+1)=((5-k:Nat):Int):=by rw[hl,wrap_i64 (by omega) (by omega)]; omega
 have nlt:=bT l (show 0<2 by decide) s.a
 have en:IntKind.i64.wrap (1+((aD l 2 s.a).1:Int))=((1+(aD l 2 s.a).1:Nat):Int):=by rw[wrap_i64 (by omega) (by omega)]; omega
 have h1:=hH.set 0 rfl (bF v (aD l 2 s.a).2)
 have hs1:GOk l drives { s with a:=(aD l 2 s.a).2 }:=⟨hs.doms,hs.drvs,bH l 2 hs.a⟩
 have hqo:¬ q=G.o:=fun h=>hH.neL 0 0 rfl rfl rfl h.symm
 simp -implicitDefEqProofs only[go_sem,δ,γ,θ,reduceCtorEq,sH,aoI,b1,c1,e2,hrd,ew,aoJ]
 refine cK Lb.tozD T (o:=G.o) (n:=2) (a:=s.a) (by decide) hs.a (by simp -implicitDefEqProofs only[go_sem,γ]; rfl) (hH.at 0 rfl) ?_
 simp -implicitDefEqProofs only[go_sem,γ,en,aoK]
 cases k with
 | zero =>
  simp -implicitDefEqProofs only[go_sem,bE (show ¬ ((5-0:Nat):Int)=2 by omega),BD]
  refine aoG (C:=C) Lb T G mc drives dom (1+(aD l 2 s.a).1) hmc hmc2 hdr (by omega) { s with a:=(aD l 2 s.a).2 } hs1 _ wr _ _ _ ?_ h1 ?_
  ·unfold dU
   (repeat' (first|exact PF.nil_le|refine PF.aA ?_ ?_))<;>first|(simp -implicitDefEqProofs only[go_sem,γ,reduceCtorEq]<;>rfl)|rfl
  ·intro wd' wr' F' H' hH'
   exact fin _ wd' wr' F' H' (.inl rfl) hH'
 | succ k =>
  have hrc:=hrec k rfl
  by_cases c2:4-k=2
  ·have e5:dS l mc drives (k+1) dom s=eY l (4-k) drives dom (dS l mc drives k) { s with a:=(aD l 2 s.a).2 } 1:=by simp only[dS,if_pos c2]
   simp -implicitDefEqProofs only[go_sem,bS (show ((5-(k+1):Nat):Int)=2 by omega),aoL,BD]
   refine DN (C:=C) Lb T G mc drives dom 1 k (by omega) hdr (by decide) hrc { s with a:=(aD l 2 s.a).2 } hs1 (by simp only; omega) _ wr _ _ _ ?_ h1 ?_
   ·unfold dU
    (repeat' (first|exact PF.nil_le|refine PF.aA ?_ ?_))<;>first|(simp -implicitDefEqProofs only[go_sem,γ,reduceCtorEq,show 4-k=5-(k+1) by omega]<;>rfl)|rfl
   ·intro e wd' wr' F' H' he hH'
    rw[← e5] at hH'
    exact fin e wd' wr' F' H' he hH'
  ·have e5:dS l mc drives (k+1) dom s=eY l (4-k) drives dom (dS l mc drives k) { s with a:=(aD l 2 s.a).2 } (1+(aD l 2 s.a).1):=by simp only[dS,if_neg c2]
   simp -implicitDefEqProofs only[go_sem,bE (show ¬ ((5-(k+1):Nat):Int)=2 by omega),BD]
   refine DN (C:=C) Lb T G mc drives dom (1+(aD l 2 s.a).1) k (by omega) hdr (by omega) hrc { s with a:=(aD l 2 s.a).2 } hs1 (by simp only; omega) _ wr _ _ _ ?_ h1 ?_
   ·unfold dU
    (repeat' (first|exact PF.nil_le|refine PF.aA ?_ ?_))<;>first|(simp -implicitDefEqProofs only[go_sem,γ,reduceCtorEq,show 4-k=5-(k+1) by omega]<;>rfl)|rfl
   ·intro e wd' wr' F' H' he hH'
    rw[← e5] at hH'
    exact fin e wd' wr' F' H' he hH'
theorem alR {C:Ctx} (Lb:jX C) {l:List Nat} {v:PV} (T:Tp l v) (mc drives:Nat) (hmc:0<mc) (hmc2:mc≤1000) (hdr:drives≤60)
  (hE:∀ (args:List PV) (H:PH) (R:PV→PH→Prop),args.length=4→sH.wp C (aZ KF.res R) (PF.args args) H→aJ C 7 args H R):∀ k,k≤4→QW C l v mc drives k
 | 0,h=>fun G wd wr s dom x hs hx hl H0 hH=>hE _ _ _ rfl (aoH Lb T mc drives 0 hmc hmc2 hdr h (fun _ e=>by omega) G wd wr s dom x hs hx hl H0 hH)
 | k+1,h=>fun G wd wr s dom x hs hx hl H0 hH=>hE _ _ _ rfl (aoH Lb T mc drives (k+1) hmc hmc2 hdr h (fun k' e=>by
   have:k'=k:=by omega
   subst this
   exact alR Lb T mc drives hmc hmc2 hdr hE k' (by omega)) G wd wr s dom x hs hx hl H0 hH)
end Go.PM
namespace Go.PM
open Go Go.Na
theorem aUW (l:List Nat) (dV:Nat) {a:Nat} (h:a≤l.length):(mX l dV a).2≤l.length:=(XM l (1+(aD l dV a).1) (bH l dV h) (1+(aD l dV a).1)).1
theorem OO (l:List Nat) {a:Nat} (h:a≤l.length):∀ k,(fL l a k).2≤l.length∧(fL l a k).1.length=k
 | 0=>⟨h,rfl⟩
 | k+1=>by
  obtain⟨h1,h2⟩:=OO l h k
  exact⟨aUW l 2 h1,by simp only[fL,baI,baL,h2]⟩
theorem BI (l:List Nat) (laws:Nat) {a:Nat} (h:a≤l.length):∀ k,(dD l laws a k).2≤l.length∧(dD l laws a k).1.length=k
 | 0=>⟨h,rfl⟩
 | k+1=>by
  obtain⟨h1,h2⟩:=BI l laws h k
  exact⟨bH l laws (bH l 8 (bH l 4 h1)),by simp only[dD,baI,baL,h2]⟩
structure FE where
 o:Nat
 o6:Nat
 o7:Nat
 drives:Nat
 volumes:Nat
abbrev flZ:bX:=flB (.int .i64 0) .nils .nils .nils .nils .nils .nils
abbrev FE.boxes (E:FE) (v ext w1 w2 w3 w4 w5 w6:PV) (a:Nat):List BX:=[(E.o,bF v a),(E.o7,flB ext w1 w2 w3 w4 w5 w6),(E.o6,flZ)]
def eN (E:FE):PF:=(((((PF.nil.set 0 (.ptr E.o 2 0 0)).set 1 (.int .i64 E.drives)).set 2 (.int .i64 E.volumes)).set 6 (.ptr E.o6 7 0 0)).set 7 (.ptr E.o7 7 0 0))
abbrev fK (l:List cI):List (List PV):=l.map cI.cells
abbrev gD (l:List cQ):List (List PV):=l.map cQ.cells
theorem KE {E:FE} {F:PF} (h0:F 0=some (.ptr E.o 2 0 0)) (h1:F 1=some (.int .i64 E.drives)) (h2:F 2=some (.int .i64 E.volumes)) (h6:F 6=some (.ptr E.o6 7 0 0)) (h7:F 7=some (.ptr E.o7 7 0 0)):(eN E).le F :=
 PF.aA (PF.aA (PF.aA (PF.aA (PF.aA PF.nil_le h0) h1) h2) h6) h7
theorem aPX {C:Ctx} (Lb:jX C) {l:List Nat} {v:PV} (T:Tp l v) (E:FE) (n a:Nat) (hn:n≤10) (ha:a≤l.length) (ext:PV) (K:cD) (F:PF) (H:PH)
  (hF:(((eN E).set 8 (.int .i64 n)).set 9 (.int .i64 0)).le F) (hH:aT H (E.boxes v ext .nils .nils .nils .nils .nils .nils a) [])
  (hK:∀ w1 F' H',(eN E).le F'→aT H' (E.boxes v ext w1 .nils .nils .nils .nils .nils (fL l a n).2) [(w1,4,fK (fL l a n).1)]→K (.exit 0) F' H') :
  aC.wp C (.loop FZ) K F H:=by
 refine wp_loop (α:=Nat × PV × PH) (fun t=>((eN E).set 8 (.int .i64 n)).set 9 (.int .i64 t.1)) (fun t=>t.2.2) (fun t=>t.1≤n∧aT t.2.2 (E.boxes v ext t.2.1 .nils .nils .nils .nils .nils (fL l a t.1).2) [(t.2.1,4,fK (fL l a t.1).1)]) (fun t=>n-t.1) (0,.nils,H) ⟨baR _,hH.wX 4⟩ hF PH.le_refl ?_
 rintro⟨i,w1,H0⟩ ⟨hi,hH⟩
 simp only at hi hH ⊢
 obtain⟨k1,k2⟩:=OO l ha i
 have hstep:fL l a (i+1)=((fL l a i).1++[{ (mX l 2 (fL l a i).2).1 with name:=[108,97,119]++bM i }],(mX l 2 (fL l a i).2).2):=rfl
 simp -implicitDefEqProofs only[go_sem,γ,reduceCtorEq,FZ,abT,eN]
 by_cases hlt:i<n
 ·have hlt':(i:Int)<(n:Nat):=by omega
  generalize hg:fL l a i=g at *
  simp -implicitDefEqProofs only[go_sem,reduceCtorEq,hlt',abU]
  refine jS (Lb.law l v T E.o 2 g.2 (by decide) (by decide) k1) (hH.at 0 rfl) rfl ?_
  have h1:=hH.set 0 rfl (bF v (mX l 2 g.2).2)
  generalize hz:mX l 2 g.2=z at *
  simp -implicitDefEqProofs only[go_sem,δ]
  refine aP fun p hp=>?_
  have h2:=h1.new hp (.rows 4 [z.1.cells])
  simp -implicitDefEqProofs only[go_sem,δ,γ,reduceCtorEq,abV,baP,baY,or_false,forall_eq,forall_eq_or_imp]
  refine aB (Lb.name [108,97,119] i (by decide) (by omega)) rfl ?_
  have h3:=h2.set 3 rfl (.rows 4 [({ z.1 with name:=[108,97,119]++bM i }:cI).cells])
  rw[PH.set_set] at h3
  have b1:=h3.at 1 rfl
  have hne:¬ E.o7=p:=h3.ne 1 3 rfl rfl (by decide)
  have hne2:¬ E.o7=E.o:=h3.ne 1 0 rfl rfl (by decide)
  simp only[aU,if_neg hne,if_neg hne2] at b1
  have h14:(1:Nat)*4≤16777216:=by decide
  simp -implicitDefEqProofs only[go_sem,υ,δ,γ,η,θ,ζ,reduceCtorEq,abW,hne,hne2,b1,h14,baP,baY,or_false,forall_eq,forall_eq_or_imp]
  refine h3.append 0 (src:=[({ z.1 with name:=[108,97,119]++bM i }:cI).cells]) rfl rfl (by unfold roomFor; rw[baF]; simp only[baL,maxLen]; omega) fun w' H2 h4 hw=>?_
  obtain⟨q,rfl⟩:=hw (by simp)
  have b2:=h4.at 1 rfl
  simp -implicitDefEqProofs only[go_sem,δ,θ,b2,baP,baY,or_false,forall_eq]
  have h5:=h4.set 1 rfl (flB ext (.osl q 4 0 (fK g.1++[({ z.1 with name:=[108,97,119]++bM i }:cI).cells]).length) .nils .nils .nils .nils .nils)
  simp -implicitDefEqProofs only[go_sem,γ,reduceCtorEq,abX,aL (show i<9223372036854775807 by omega)]
  refine aH (i+1,.osl q 4 0 (fK g.1++[({ z.1 with name:=[108,97,119]++bM i }:cI).cells]).length,_) ⟨hlt,?_⟩ (by simp only; omega) ?_ PH.le_refl
  ·rw[hstep]
   have e:fK (g.1++[{ z.1 with name:=[108,97,119]++bM i }])=fK g.1++[({ z.1 with name:=[108,97,119]++bM i }:cI).cells]:=by simp[fK]
   simp only
   rw[e]
   exact h5.dropLast (B:=E.boxes v ext _ .nils .nils .nils .nils .nils z.2)
  ·(repeat' (first|exact PF.nil_le|refine PF.aA ?_ ?_))<;>first|(simp -implicitDefEqProofs only[go_sem,γ,reduceCtorEq]<;>rfl)|rfl
 ·have hlt':¬ (i:Int)<(n:Nat):=by omega
  have:i=n:=by omega
  subst this
  simp -implicitDefEqProofs only[go_sem,hlt']
  exact hK w1 _ _ (KE rfl rfl rfl rfl rfl) hH
theorem aFW {C:Ctx} (Lb:jX C) {l:List Nat} {v:PV} (T:Tp l v) (E:FE) (n a nl:Nat) (hn:n≤10) (hnl:nl≤1000) (ha:a≤l.length) (ext w1:PV) (laws:List cI) (hlw:laws.length=nl) (K:cD) (F:PF) (H:PH)
  (hF:(((eN E).set 11 (.int .i64 n)).set 12 (.int .i64 0)).le F) (hH:aT H (E.boxes v ext w1 .nils .nils .nils .nils .nils a) [(w1,4,fK laws)])
  (hK:∀ w2 F' H',(eN E).le F'→F' 11=some (.int .i64 n)→aT H' (E.boxes v ext w1 w2 .nils .nils .nils .nils (dD l nl a n).2) [(w1,4,fK laws),(w2,4,gD (dD l nl a n).1)]→K (.exit 2) F' H') :
  aC.wp C (.loop AR) K F H:=by
 refine wp_loop (α:=Nat × PV × PH) (fun t=>((eN E).set 11 (.int .i64 n)).set 12 (.int .i64 t.1)) (fun t=>t.2.2) (fun t=>t.1≤n∧aT t.2.2 (E.boxes v ext w1 t.2.1 .nils .nils .nils .nils (dD l nl a t.1).2) [(w1,4,fK laws),(t.2.1,4,gD (dD l nl a t.1).1)]) (fun t=>n-t.1) (0,.nils,H) ⟨baR _,hH.wX 4⟩ hF PH.le_refl ?_
 rintro⟨i,w2,H0⟩ ⟨hi,hH⟩
 simp only at hi hH ⊢
 obtain⟨k1,k2⟩:=BI l nl ha i
 have hstep:dD l nl a (i+1)=((dD l nl a i).1++[⟨[109]++bM i,(1+(aD l 4 (dD l nl a i).2).1:Nat),(1+(aD l 8 (aD l 4 (dD l nl a i).2).2).1:Nat),((aD l nl (aD l 8 (aD l 4 (dD l nl a i).2).2).2).1:Nat)⟩],(aD l nl (aD l 8 (aD l 4 (dD l nl a i).2).2).2).2):=rfl
 simp -implicitDefEqProofs only[go_sem,γ,reduceCtorEq,AR,SS,eN]
 by_cases hlt:i<n
 ·have hlt':(i:Int)<(n:Nat):=by omega
  generalize hg:dD l nl a i=g at *
  have hx:=bT l (show 0<4 by decide) g.2
  have ax:=bH l 4 k1
  have hy:=bT l (show 0<8 by decide) (aD l 4 g.2).2
  have ay:=bH l 8 ax
  have az:=bH l nl ay
  have h1:=hH.set 0 rfl (bF v (aD l 4 g.2).2)
  have h2:=h1.set 0 rfl (bF v (aD l 8 (aD l 4 g.2).2).2)
  have h3:=h2.set 0 rfl (bF v (aD l nl (aD l 8 (aD l 4 g.2).2).2).2)
  generalize hx0:aD l 4 g.2=x at *
  generalize hy0:aD l 8 x.2=y at *
  generalize hz0:aD l nl y.2=z at *
  have b1:=hH.at 1 rfl
  have lw:=(hH.own 0 rfl).rT
  rw[baF,hlw] at lw
  have hHs:(PH.nil.set E.o7 (flB ext w1 w2 .nils .nils .nils .nils)).le H0:=PH.aA PH.nil_le b1
  have ex:IntKind.i64.wrap (1+(x.1:Int))=((1+x.1:Nat):Int):=by rw[wrap_i64 (by omega) (by omega)]; omega
  have ey:IntKind.i64.wrap (1+(y.1:Int))=((1+y.1:Nat):Int):=by rw[wrap_i64 (by omega) (by omega)]; omega
  simp -implicitDefEqProofs only[go_sem,hlt']
  refine cC (PH.nil.set E.o7 (flB ext w1 w2 .nils .nils .nils .nils)) (mkS l v) hHs ?_
  simp -implicitDefEqProofs only[go_sem,δ,γ,θ,reduceCtorEq,ST]
  refine zI Lb.tooQ (s:=[109]) (n:=i) (by decide) (by omega) rfl hHs ?_
  simp -implicitDefEqProofs only[go_sem,reduceCtorEq]
  refine nK Lb.tozD T (o:=E.o) (n:=4) (a:=g.2) (by decide) k1 rfl (hH.at 0 rfl) ?_ ?_
  ·rw[hx0]; exact PH.aA PH.nil_le (h1.at 1 rfl)
  rw[hx0]
  simp -implicitDefEqProofs only[go_sem,γ,reduceCtorEq,ex]
  refine nK Lb.tozD T (o:=E.o) (n:=8) (a:=x.2) (by decide) ax rfl (h1.at 0 rfl) ?_ ?_
  ·rw[hy0]; exact PH.aA PH.nil_le (h2.at 1 rfl)
  rw[hy0]
  simp -implicitDefEqProofs only[go_sem,δ,γ,θ,reduceCtorEq,ey,lw]
  rw[PH.set_set] at h2
  refine nK Lb.tozD T (o:=E.o) (n:=nl) (a:=y.2) (by omega) ay rfl (h2.at 0 rfl) ?_ ?_
  ·rw[hz0]; exact PH.aA PH.nil_le ((h2.set 0 rfl (bF v z.2)).at 1 rfl)
  rw[hz0]
  have h4:=h2.set 0 rfl (bF v z.2)
  have h14:(1:Nat)*4≤16777216:=by decide
  simp -implicitDefEqProofs only[go_sem,υ,δ,γ,η,θ,ζ,reduceCtorEq,h14,baP,baY,or_false,forall_eq,forall_eq_or_imp]
  rw[PH.set_set] at h4
  refine h4.append 1 (src:=[(⟨[109]++bM i,(1+x.1:Nat),(1+y.1:Nat),(z.1:Nat)⟩:cQ).cells]) rfl rfl (by unfold roomFor; rw[baF]; simp only[baL,maxLen]; omega) fun w' H2 h5 hw=>?_
  obtain⟨q,rfl⟩:=hw (by simp)
  have b2:=h5.at 1 rfl
  refine⟨PH.aA PH.nil_le b2,?_⟩
  refine cC .nil eE PH.nil_le ?_
  simp -implicitDefEqProofs only[go_sem,δ,γ,θ,reduceCtorEq,SU,b2,baP,baY,or_false,forall_eq]
  have h6:=h5.set 1 rfl (flB ext w1 (.osl q 4 0 (gD g.1++[(⟨[109]++bM i,(1+x.1:Nat),(1+y.1:Nat),(z.1:Nat)⟩:cQ).cells]).length) .nils .nils .nils .nils)
  refine⟨PH.nil_le,?_⟩
  simp -implicitDefEqProofs only[go_sem,γ,reduceCtorEq,SV,aL (show i<9223372036854775807 by omega)]
  refine aH (i+1,.osl q 4 0 (gD g.1++[(⟨[109]++bM i,(1+x.1:Nat),(1+y.1:Nat),(z.1:Nat)⟩:cQ).cells]).length,_) ⟨hlt,?_⟩ (by simp only; omega) ?_ PH.le_refl
  ·rw[hstep]
   have e:gD (g.1++[⟨[109]++bM i,(1+x.1:Nat),(1+y.1:Nat),(z.1:Nat)⟩])=gD g.1++[(⟨[109]++bM i,(1+x.1:Nat),(1+y.1:Nat),(z.1:Nat)⟩:cQ).cells]:=by simp[gD]
   simp only
   rw[e]
   exact h6
  ·(repeat' (first|exact PF.nil_le|refine PF.aA ?_ ?_))<;>first|(simp -implicitDefEqProofs only[go_sem,γ,reduceCtorEq]<;>rfl)|rfl
 ·have hlt':¬ (i:Int)<(n:Nat):=by omega
  have:i=n:=by omega
  subst this
  simp -implicitDefEqProofs only[go_sem,hlt']
  exact hK w2 _ _ (KE rfl rfl rfl rfl rfl) rfl hH
end Go.PM
namespace Go.PM
open Go Go.Na
abbrev rV (x:cJ) (w:PV):List PV:=[.str x.name,.int .i64 x.k,.int .i64 x.m,.int .i64 x.quorum,.int .i64 x.s0,.int .i64 x.s1,.int .i64 x.s2,.int .i64 x.s3,.int .i64 x.s4,w,frs x.repair,
 .bool x.target.neg,aF x.target.num,aF x.target.den,.bool x.horizon.neg,aF x.horizon.num,aF x.horizon.den]
def XP (E:FE) (mc n i:Nat):PF:=(((eN E).set 11 (.int .i64 mc)).set 13 (.int .i64 n)).set 14 (.int .i64 i)
structure PAt (E:FE) (mc n i:Nat) (F:PF):Prop where
 f0:F 0=some (.ptr E.o 2 0 0)
 f1:F 1=some (.int .i64 E.drives)
 f2:F 2=some (.int .i64 E.volumes)
 f6:F 6=some (.ptr E.o6 7 0 0)
 f7:F 7=some (.ptr E.o7 7 0 0)
 f11:F 11=some (.int .i64 mc)
 f13:F 13=some (.int .i64 n)
 f14:F 14=some (.int .i64 i)
def mZ (l:List Nat) (a:Nat):Nat→List Int × Nat
 | 0=>([],a)
 | j+1=>let s:=mZ l a j
  let t:=fG l s.2
  (s.1++[t.1],t.2)
theorem pN (l:List Nat) {a:Nat} (h:a≤l.length):(fG l a).2≤l.length:=by
 unfold fG
 simp only
 split
 ·exact bH l 3 (bH l 3 h)
 ·exact bH l 3 h
theorem YW (l:List Nat) {a:Nat} (h:a≤l.length):∀ j,(mZ l a j).2≤l.length∧(mZ l a j).1.length=j
 | 0=>⟨h,rfl⟩
 | j+1=>by
  obtain⟨h1,h2⟩:=YW l h j
  exact⟨pN l h1,by simp only[mZ,baI,baL,h2]⟩
abbrev mY (pre post:List PV) (s:List Int):List PV:=pre++(s.map fun x=>PV.int .i64 x)++baH (4-s.length) (.int .i64 0)++post
theorem aWD {pre post:List PV} {s:List Int} (hp:pre.length=5) (hs:s.length<4) (x:Int):(mY pre post s).set (5+s.length) (.int .i64 x)=mY pre post (s++[x]):=by
 obtain⟨k,hk⟩:∃ k,4-s.length=k+1:=⟨3-s.length,by omega⟩
 unfold mY
 rw[baI,baL,show 4-(s.length+1)=k by omega,hk,List.replicate_succ,bcA,bbK,bcM]
 rw[List.set_append_left _ _ (by simp[hp]),bdG _ _ (by simp[hp])]
 have:5+s.length-(pre++s.map fun x=>PV.int .i64 x).length=0:=by simp[hp]
 rw[this,List.set_cons_zero]
 simp
theorem aRC {pre post:List PV} {s:List Int} (hp:pre.length=5) (hs:s.length<4):mY pre post s=mY pre post (s++[0]):=by
 obtain⟨k,hk⟩:∃ k,4-s.length=k+1:=⟨3-s.length,by omega⟩
 unfold mY
 rw[baI,baL,show 4-(s.length+1)=k by omega,hk,List.replicate_succ,bcA,bbK,bcM]
 simp
theorem aFX {C:Ctx} (Lb:jX C) {l:List Nat} {v:PV} (T:Tp l v) (E:FE) (mc n i a p:Nat) (ha:a≤l.length) (B:List BX) (L:List LI) (pre post:List PV) (hpre:pre.length=5) (hpost:post.length=8) (K:cD) (F:PF) (H:PH)
  (hF:PAt E mc n i F) (f15:F 15=some (.ptr p 17 0 0)) (f16:F 16=some (.int .i64 1)) (hH:aT H ((E.o,bF v a)::B++[(p,.rows 17 [mY pre post []])]) L)
  (hK:∀ F' H',PAt E mc n i F'→F' 15=some (.ptr p 17 0 0)→aT H' ((E.o,bF v (mZ l a 4).2)::B++[(p,.rows 17 [mY pre post (mZ l a 4).1])]) L→K (.exit 6) F' H') :
  aC.wp C (.loop sB) K F H:=by
 refine wp_loop (α:=Nat × PH) (fun t=>((XP E mc n i).set 15 (.ptr p 17 0 0)).set 16 (.int .i64 (t.1+1:Nat))) (fun t=>t.2) (fun t=>t.1≤4∧aT t.2 ((E.o,bF v (mZ l a t.1).2)::B++[(p,.rows 17 [mY pre post (mZ l a t.1).1])]) L) (fun t=>4-t.1) (0,H) ⟨baR _,hH⟩ ?_ PH.le_refl ?_
 ·unfold XP eN
  (repeat' (first|exact PF.nil_le|refine PF.aA ?_ ?_))<;>first|(simp -implicitDefEqProofs only[go_sem,hF.f0,hF.f1,hF.f2,hF.f6,hF.f7,hF.f11,hF.f13,hF.f14,f15,f16]<;>rfl)|rfl
 rintro⟨j,H0⟩ ⟨hj,hH⟩
 simp only at hj hH ⊢
 obtain⟨k1,k2⟩:=YW l ha j
 have hstep:mZ l a (j+1)=((mZ l a j).1++[(fG l (mZ l a j).2).1],(fG l (mZ l a j).2).2):=rfl
 simp -implicitDefEqProofs only[go_sem,γ,reduceCtorEq,sB,TB,XP,eN]
 by_cases hlt:j<4
 ·generalize hg:mZ l a j=g at *
  have ei:=aL (show j+1<9223372036854775807 by omega)
  simp -implicitDefEqProofs only[go_sem,reduceCtorEq,show ((j+1:Nat):Int)<5 by omega,TC]
  refine cK Lb.tozD T (o:=E.o) (n:=3) (a:=g.2) (by decide) k1 (by simp -implicitDefEqProofs only[go_sem,γ,reduceCtorEq]; rfl) (hH.at 0 rfl) ?_
  have h1:aT _ ((E.o,bF v (aD l 3 g.2).2)::B++[(p,.rows 17 [mY pre post g.1])]) L:=hH.set 0 rfl (bF v (aD l 3 g.2).2)
  by_cases c:(aD l 3 g.2).1=0
  ·have hs:fG l g.2=(((1+(aD l 3 (aD l 3 g.2).2).1:Nat):Int),(aD l 3 (aD l 3 g.2).2).2):=by unfold fG; simp only[c,if_true]
   have n2:=bT l (show 0<3 by decide) (aD l 3 g.2).2
   have e2:IntKind.i64.wrap (1+((aD l 3 (aD l 3 g.2).2).1:Int))=((1+(aD l 3 (aD l 3 g.2).2).1:Nat):Int):=by rw[wrap_i64 (by omega) (by omega)]; omega
   simp -implicitDefEqProofs only[go_sem,γ,reduceCtorEq,bS (show (((aD l 3 g.2).1:Nat):Int)=0 by omega),TD]
   refine cK Lb.tozD T (o:=E.o) (n:=3) (a:=(aD l 3 g.2).2) (by decide) (bH l 3 k1) (by simp -implicitDefEqProofs only[go_sem,γ,reduceCtorEq]; rfl) (h1.at 0 rfl) ?_
   have h2:aT _ ((E.o,bF v (aD l 3 (aD l 3 g.2).2).2)::B++[(p,.rows 17 [mY pre post g.1])]) L:=h1.set 0 rfl (bF v (aD l 3 (aD l 3 g.2).2).2)
   have bp:=h2.DX
   rw[PH.set_set] at bp h2
   have hpo:¬ p=E.o:=fun h=>by
    have hnd:=h2.ndB
    simp[dO,h] at hnd
   simp only[aU,if_neg hpo] at bp
   have hj5:((j+1:Nat):Int)<((5:Nat):Int):=by omega
   have h0j:(0:Int)≤((j+1:Nat):Int):=by omega
   have hlen:(mY pre post g.1).length=17:=by simp[mY,hpre,hpost,k2]; omega
   have hset:=aWD (pre:=pre) (post:=post) (s:=g.1) hpre (by omega) ((1+(aD l 3 (aD l 3 g.2).2).1:Nat):Int)
   rw[k2] at hset
   have hidx:4+(j+1)*1=5+j:=by omega
   have hle17:5+j+1≤17:=by omega
   simp -implicitDefEqProofs only[go_sem,γ,reduceCtorEq,e2,hj5,h0j,hidx,hpo,bp,hle17,baP,baY,or_false,forall_eq,hset,AX,ei]
   refine aH (j+1,_) ⟨hlt,?_⟩ (by simp only; omega) ?_ PH.le_refl
   ·rw[hstep,hs]
    exact h2.YT _
   ·(repeat' (first|exact PF.nil_le|refine PF.aA ?_ ?_))<;>first|(simp -implicitDefEqProofs only[go_sem,γ,reduceCtorEq]<;>rfl)|rfl
  ·have hs:fG l g.2=(0,(aD l 3 g.2).2):=by unfold fG; simp only[c,if_false]
   simp -implicitDefEqProofs only[go_sem,γ,reduceCtorEq,bE (show ¬ (((aD l 3 g.2).1:Nat):Int)=0 by omega),AX,ei]
   refine aH (j+1,_) ⟨hlt,?_⟩ (by simp only; omega) ?_ PH.le_refl
   ·rw[aRC (pre:=pre) (post:=post) (s:=g.1) hpre (by omega)] at h1
    rw[hstep,hs]
    exact h1
   ·(repeat' (first|exact PF.nil_le|refine PF.aA ?_ ?_))<;>first|(simp -implicitDefEqProofs only[go_sem,γ,reduceCtorEq]<;>rfl)|rfl
 ·have:j=4:=by omega
  subst this
  simp -implicitDefEqProofs only[go_sem,δ,ε,show ¬ ((4+1:Nat):Int)<5 by decide]
  exact hK _ _ ⟨by simp -implicitDefEqProofs only[go_sem,reduceCtorEq],by simp -implicitDefEqProofs only[go_sem,γ,reduceCtorEq],by simp -implicitDefEqProofs only[go_sem,γ,reduceCtorEq],by simp -implicitDefEqProofs only[go_sem,γ,reduceCtorEq],by simp -implicitDefEqProofs only[go_sem,γ,reduceCtorEq],by simp -implicitDefEqProofs only[go_sem,γ,reduceCtorEq],by simp -implicitDefEqProofs only[go_sem,γ,reduceCtorEq],by simp -implicitDefEqProofs only[go_sem,γ,reduceCtorEq]⟩ (by simp -implicitDefEqProofs only[go_sem,γ,reduceCtorEq]) hH
end Go.PM
namespace Go.PM
open Go Go.Na
theorem aT.lL {E:FE} {v ext w1 w2 w3 w4 w5 w6:PV} {a:Nat} {H:PH} {B:List BX} {L:List LI} (h:aT H (E.boxes v ext w1 w2 w3 w4 w5 w6 a++B) L) (b:Nat):aT (H.set E.o (bF v b)) (E.boxes v ext w1 w2 w3 w4 w5 w6 b++B) L:=h.set 0 rfl _
abbrev QE (s:List UInt8) (k m q:Int) (w r t1 t2 t3:PV) (h:RF):List PV:=[.str s,.int .i64 k,.int .i64 m,.int .i64 q,.int .i64 0,.int .i64 0,.int .i64 0,.int .i64 0,.int .i64 0,w,r,t1,t2,t3,.bool h.neg,aF h.num,aF h.den]
theorem aPY {C : Ctx} (Lb : jX C) {l : List Nat} {v : PV} (T : Tp l v) (E : FE) (mc n i a : Nat) (ha : a ≤ l.length) (hi : i < 50) (ext w1 w2 w3 w4 w5 w6 : PV) (L : List LI) (rest : aC) (K : cD) (F : PF) (H : PH)
    (hF : PAt E mc n i F) (hH : aT H (E.boxes v ext w1 w2 w3 w4 w5 w6 a) L)
    (hK : ∀ p F' H', PAt E mc n i F' → F' 15 = some (.ptr p 17 0 0) →
      (let k := aD l 2 a; let m := aD l 3 k.2; let h := aD l 4 m.2; let q := aD l (m.1 + 1) h.2; let r := gK l q.2 (max m.1 1); let g := aD l 9 r.2
       aT H' (E.boxes v ext w1 w2 w3 w4 w5 w6 g.2 ++ [(p, .rows 17 [mY [.str ([112] ++ bM i), .int .i64 (1 + k.1 : Nat), .int .i64 (m.1 : Nat), .int .i64 (1 + k.1 + q.1 : Nat), .int .i64 0]
        ([.nils, frs r.1] ++ (mkT (g.1 : Nat) 8).cells ++ (mkT ((1 + h.1 : Nat) : Int) 1).cells) []])]) L) → aC.wp C rest K F' H') :
    aC.wp C (.seq (.region AV) (.seq (.seq (.draw sC) (.draw sD)) (.seq (.region sE) (.seq (.region sF) rest)))) K F H := by
  obtain ⟨f0, f1, f2, f6, f7, f11, f13, f14⟩ := hF
  have nk := bT l (show 0 < 2 by decide) a
  have ak := bH l 2 ha
  have nm := bT l (show 0 < 3 by decide) (aD l 2 a).2
  have am := bH l 3 ak
  simp only at hK
  generalize hk : aD l 2 a = k at *
  generalize hm : aD l 3 k.2 = m at *
  have nh := bT l (show 0 < 4 by decide) m.2
  have ah := bH l 4 am
  generalize hh : aD l 4 m.2 = h at *
  have nq := bT l (show 0 < m.1 + 1 by omega) h.2
  have aq := bH l (m.1 + 1) ah
  generalize hq : aD l (m.1 + 1) h.2 = q at *
  have ar := yQ l aq (max m.1 1)
  generalize hr : gK l q.2 (max m.1 1) = r at *
  have ng := bT l (show 0 < 9 by decide) r.2
  have ag := bH l 9 ar
  generalize hg : aD l 9 r.2 = g at *
  have ek : IntKind.i64.wrap (1 + (k.1 : Int)) = ((1 + k.1 : Nat) : Int) := by rw [wrap_i64 (by omega) (by omega)]; omega
  have eh : IntKind.i64.wrap (1 + (h.1 : Int)) = ((1 + h.1 : Nat) : Int) := by rw [wrap_i64 (by omega) (by omega)]; omega
  have em : IntKind.i64.wrap ((m.1 : Int) + 1) = ((m.1 + 1 : Nat) : Int) := aL (by omega)
  have eq' : IntKind.i64.wrap (((1 + k.1 : Nat) : Int) + (q.1 : Int)) = ((1 + k.1 + q.1 : Nat) : Int) := by rw [wrap_i64 (by omega) (by omega)]; omega
  have h0 : aT H (E.boxes v ext w1 w2 w3 w4 w5 w6 a ++ []) L := by rw [bbY]; exact hH
  simp -implicitDefEqProofs only[go_sem,AV,f14]
  refine aB (Lb.name [112] i (by decide) (by omega)) rfl ?_
  simp -implicitDefEqProofs only[go_sem,reduceCtorEq,f0]
  refine cK Lb.tozD T (o := E.o) (n := 2) (a := a) (by decide) ha rfl (h0.at 0 rfl) ?_
  have g1 := h0.lL k.2
  rw [hk]
  simp -implicitDefEqProofs only[go_sem,γ,reduceCtorEq,ek,f0]
  refine cK Lb.tozD T (o := E.o) (n := 3) (a := k.2) (by decide) ak rfl (g1.at 0 rfl) ?_
  have g2 := g1.lL m.2
  rw [hm]
  rw [PH.set_set] at g2
  simp -implicitDefEqProofs only[go_sem,reduceCtorEq,f0]
  refine cK Lb.tozD T (o := E.o) (n := 4) (a := m.2) (by decide) am rfl (g2.at 0 rfl) ?_
  have g3 := g2.lL h.2
  rw [hh]
  rw [PH.set_set] at g3
  simp -implicitDefEqProofs only[go_sem,γ,eh]
  refine aB (Lb.int ((1 + h.1 : Nat) : Int) (by unfold dQ; omega)) rfl ?_
  simp -implicitDefEqProofs only[go_sem,δ,γ,θ,baP,baY,or_false,forall_eq,forall_eq_or_imp]
  refine aP fun p hp => ?_
  have g4 := g3.new hp (.rows 17 [QE ([112] ++ bM i) (1 + k.1 : Nat) (m.1 : Nat) 0 .nils .nils (.bool false) .nils .nils (mkT ((1 + h.1 : Nat) : Int) 1)])
  have hpo : ¬ p = E.o := g4.ne 3 0 rfl rfl (by decide)
  have hop : ¬ E.o = p := fun e => hpo e.symm
  have q2 : ∀ (F2 : PF) (H2 : PH), PAt E mc n i F2 → F2 15 = some (.ptr p 17 0 0) → aT H2 (E.boxes v ext w1 w2 w3 w4 w5 w6 h.2 ++ [(p, .rows 17 [QE ([112] ++ bM i) (1 + k.1 : Nat) (m.1 : Nat) 0 .nils .nils (.bool false) .nils .nils (mkT ((1 + h.1 : Nat) : Int) 1)])]) L →
      aC.wp C (.seq (.seq (.draw sC) (.draw sD)) (.seq (.region sE) (.seq (.region sF) rest))) K F2 H2 := by
    intro F2 H2 hF2 f15 hH2
    obtain ⟨f0, f1, f2, f6, f7, f11, f13, f14⟩ := hF2
    have bp := hH2.at 3 rfl
    have hHs : (PH.nil.set p (.rows 17 [QE ([112] ++ bM i) (1 + k.1 : Nat) (m.1 : Nat) 0 .nils .nils (.bool false) .nils .nils (mkT ((1 + h.1 : Nat) : Int) 1)])).le H2 := PH.aA PH.nil_le bp
    simp -implicitDefEqProofs only[go_sem]
    refine cC _ (mkS l v) hHs ?_
    simp -implicitDefEqProofs only[go_sem,δ,γ,θ,reduceCtorEq,sC,f15,bp,em,f0]
    refine nK Lb.tozD T (o := E.o) (n := m.1 + 1) (a := h.2) (by omega) ah rfl (hH2.at 0 rfl) ?_ ?_
    · rw [hq]; exact PH.aA PH.nil_le ((hH2.lL q.2).at 3 rfl)
    rw [hq]
    have g5 := hH2.lL q.2
    simp -implicitDefEqProofs only[go_sem,γ,eq',f15]
    refine cC .nil eE PH.nil_le ?_
    simp -implicitDefEqProofs only[go_sem,δ,γ,θ,sD,hpo,bp]
    refine ⟨PH.nil_le, ?_⟩
    have g6 : aT _ (E.boxes v ext w1 w2 w3 w4 w5 w6 q.2 ++ [(p, .rows 17 [QE ([112] ++ bM i) (1 + k.1 : Nat) (m.1 : Nat) (1 + k.1 + q.1 : Nat) .nils .nils (.bool false) .nils .nils (mkT ((1 + h.1 : Nat) : Int) 1)])]) L := g5.set 3 rfl (.rows 17 [QE ([112] ++ bM i) (1 + k.1 : Nat) (m.1 : Nat) (1 + k.1 + q.1 : Nat) .nils .nils (.bool false) .nils .nils (mkT ((1 + h.1 : Nat) : Int) 1)])
    have bq := g6.at 3 rfl
    simp -implicitDefEqProofs only[go_sem,δ,γ,θ,reduceCtorEq,sE,f0,f15]
    refine jS (Lb.rep l v T E.o q.2 m.1 (by omega) aq) (g6.at 0 rfl) rfl ?_
    have g7 := g6.lL r.2
    rw [hr]
    simp -implicitDefEqProofs only[go_sem,δ,γ,θ,hpo,f15]
    have g8 : aT _ (E.boxes v ext w1 w2 w3 w4 w5 w6 r.2 ++ [(p, .rows 17 [QE ([112] ++ bM i) (1 + k.1 : Nat) (m.1 : Nat) (1 + k.1 + q.1 : Nat) .nils (frs r.1) (.bool false) .nils .nils (mkT ((1 + h.1 : Nat) : Int) 1)])]) L := g7.set 3 rfl (.rows 17 [QE ([112] ++ bM i) (1 + k.1 : Nat) (m.1 : Nat) (1 + k.1 + q.1 : Nat) .nils (frs r.1) (.bool false) .nils .nils (mkT ((1 + h.1 : Nat) : Int) 1)])
    simp -implicitDefEqProofs only[go_sem,reduceCtorEq,sF,f0]
    refine cK Lb.tozD T (o := E.o) (n := 9) (a := r.2) (by decide) ar rfl (g8.at 0 rfl) ?_
    have g9 := g8.lL g.2
    rw [hg]
    simp -implicitDefEqProofs only[go_sem]
    refine aB (Lb.fmk (g.1 : Int) 8 (by unfold dQ; omega) (by unfold dQ; omega)) rfl ?_
    unfold rP
    rw [if_neg (by decide)]
    simp -implicitDefEqProofs only[go_sem,δ,γ,θ,f15,hpo]
    have g10 := g9.set 3 rfl (.rows 17 [mY [.str ([112] ++ bM i), .int .i64 (1 + k.1 : Nat), .int .i64 (m.1 : Nat), .int .i64 (1 + k.1 + q.1 : Nat), .int .i64 0]
        ([.nils, frs r.1] ++ (mkT (g.1 : Nat) 8).cells ++ (mkT ((1 + h.1 : Nat) : Int) 1).cells) []])
    refine hK p _ _ ⟨by simp -implicitDefEqProofs only[go_sem,reduceCtorEq,f0], by simp -implicitDefEqProofs only[go_sem,γ,f1], by simp -implicitDefEqProofs only[go_sem,γ,f2], by simp -implicitDefEqProofs only[go_sem,γ,f6], by simp -implicitDefEqProofs only[go_sem,γ,f7], by simp -implicitDefEqProofs only[go_sem,γ,f11], by simp -implicitDefEqProofs only[go_sem,γ,f13], by simp -implicitDefEqProofs only[go_sem,γ,f14]⟩ (by simp -implicitDefEqProofs only[go_sem,γ,f15]) g10
  simp only [aC.wp, go_sem] at q2
  simp -implicitDefEqProofs only[go_sem,δ,γ,baP,baY,or_false,forall_eq,forall_eq_or_imp]
  exact q2 _ _ ⟨by simp -implicitDefEqProofs only[go_sem,reduceCtorEq,f0], by simp -implicitDefEqProofs only[go_sem,γ,f1], by simp -implicitDefEqProofs only[go_sem,γ,f2], by simp -implicitDefEqProofs only[go_sem,γ,f6], by simp -implicitDefEqProofs only[go_sem,γ,f7], by simp -implicitDefEqProofs only[go_sem,γ,f11], by simp -implicitDefEqProofs only[go_sem,γ,f13], by simp -implicitDefEqProofs only[go_sem,γ,f14]⟩ rfl g4
end Go.PM
namespace Go.PM
open Go Go.Na
abbrev FE.lists (w1 w2 w3 w4 w5:PV) (lw:List cI) (md:List cQ) (dm:List cG) (dv:List cM) (pr:List (List PV)):List LI:=[(w1,4,fK lw),(w2,4,gD md),(w3,7,gI dm),(w4,3,jI dv),(w5,17,pr)]
theorem aPZ {C:Ctx} (Lb:jX C) {l:List Nat} {v:PV} (T:Tp l v) (E:FE) (mc n i a:Nat) (ha:a≤l.length) (hmc:0<mc) (hmc2:mc≤50) (ext w1 w2 w3 w4 w5:PV) (lw:List cI) (md:List cQ) (dm:List cG) (dv:List cM) (pr:List (List PV)) (hpr:pr.length≤50)
  (s:List UInt8) (k m q:Int) (r t h:RF) (rl:List RF) (p:Nat) (K:cD) (F:PF) (H:PH)
  (hF:PAt E mc n i F) (f15:F 15=some (.ptr p 17 0 0))
  (hH:aT H (E.boxes v ext w1 w2 w3 w4 w5 .nils a++[(p,.rows 17 [mY [.str s,.int .i64 k,.int .i64 m,.int .i64 q,.int .i64 0] ([.nils,frs rl]++t.cells++h.cells) []])]) (FE.lists w1 w2 w3 w4 w5 lw md dm dv pr))
  (hK:(let sp:=mZ l a 4; let f:=aD l mc sp.2; let b:=aD l 2 f.2
   let ms:List Int × Nat:=if 1<mc then (if b.1=0 then ([(f.1:Int),1-(f.1:Int)],b.2) else ([(f.1:Int)],b.2)) else ([(f.1:Int)],f.2)
   ∀ (w w5':PV) (F':PF) (H':PH) (B':List BX),PAt E mc n i F'→(∃ o,w=.osl o 1 0 ms.1.length)→aT H' (E.boxes v ext w1 w2 w3 w4 w5' .nils ms.2++B')
    (FE.lists w1 w2 w3 w4 w5' lw md dm dv (pr++[rV ⟨s,k,m,q,0,(sp.1.getD 0 0),(sp.1.getD 1 0),(sp.1.getD 2 0),(sp.1.getD 3 0),ms.1,rl,t,h⟩ w])++[(w,1,dE ms.1)])→K .normal F' H')) :
  aC.wp C (.seq (.seq (.region AW) (.block 6 (.loop sB))) (.seq (.region AY) (.seq (.region AZ) (.seq (.seq (.region BA) (.cond (.tmp 143) (.region BB) .skip)) (.region sG))))) K F H:=by
 obtain⟨f0,f1,f2,f6,f7,f11,f13,f14⟩:=hF
 simp -implicitDefEqProofs only[go_sem,AW]
 refine aFX (C:=C) Lb T E mc n i a p ha [(E.o7,flB ext w1 w2 w3 w4 w5 .nils),(E.o6,flZ)] _ _ _ rfl rfl _ _ H ⟨by simp -implicitDefEqProofs only[go_sem,reduceCtorEq,f0],by simp -implicitDefEqProofs only[go_sem,γ,f1],by simp -implicitDefEqProofs only[go_sem,γ,f2],by simp -implicitDefEqProofs only[go_sem,γ,f6],by simp -implicitDefEqProofs only[go_sem,γ,f7],by simp -implicitDefEqProofs only[go_sem,γ,f11],by simp -implicitDefEqProofs only[go_sem,γ,f13],by simp -implicitDefEqProofs only[go_sem,γ,f14]⟩ (by simp -implicitDefEqProofs only[go_sem,γ,f15]) rfl hH ?_
 clear f0 f1 f2 f6 f7 f11 f13 f14 f15 hH
 intro F1 H1 hF1 f15 hH1
 obtain⟨f0,f1,f2,f6,f7,f11,f13,f14⟩:=hF1
 obtain⟨as',ls⟩:=YW l ha 4
 have hsp:∃ x1 x2 x3 x4,(mZ l a 4).1=[x1,x2,x3,x4]:=⟨_,_,_,_,rfl⟩
 simp only at hK
 generalize hspg:mZ l a 4=sp at *
 obtain⟨x1,x2,x3,x4,hx⟩:=hsp
 rw[hx] at hK hH1
 replace hH1:aT H1 (E.boxes v ext w1 w2 w3 w4 w5 .nils sp.2++[(p,.rows 17 [rV ⟨s,k,m,q,0,x1,x2,x3,x4,[],rl,t,h⟩ .nils])]) (FE.lists w1 w2 w3 w4 w5 lw md dm dv pr):=hH1
 have nf:=bT l hmc sp.2
 have af:=bH l mc as'
 generalize hf:aD l mc sp.2=f at *
 have ab:=bH l 2 af
 generalize hb:aD l 2 f.2=b at *
 have hpo:¬ p=E.o:=hH1.ne 3 0 rfl rfl (by decide)
 have hp7:¬ p=E.o7:=hH1.ne 3 1 rfl rfl (by decide)
 have h7p:¬ E.o7=p:=fun e=>hp7 e.symm
 have h7o:¬ E.o7=E.o:=hH1.ne 1 0 rfl rfl (by decide)
 simp -implicitDefEqProofs only[go_sem,γ,AY,f0,f11]
 refine cK Lb.tozD T (o:=E.o) (n:=mc) (a:=sp.2) (by omega) as' rfl (hH1.at 0 rfl) ?_
 have h2:=hH1.set 0 rfl (bF v f.2)
 rw[hf]
 simp -implicitDefEqProofs only[go_sem,υ,γ,η,θ,ζ,AZ]
 refine aP fun o ho=>?_
 have h3:=h2.aYM (s:=1) (rows:=dE [(f.1:Int)]) ho
 have b3:=h3.at 3 rfl
 have ob:¬ p=o:=h3.neL 3 5 rfl rfl rfl
 have o7b:¬ E.o7=o:=h3.neL 1 5 rfl rfl rfl
 have oob:¬ E.o=o:=h3.neL 0 5 rfl rfl rfl
 simp only[aU,if_neg ob,if_neg hpo] at b3
 simp -implicitDefEqProofs only[go_sem,δ,γ,θ,f15,ob,hpo,b3,baP,baY,or_false,forall_eq]
 have h4:=h3.set 3 rfl (.rows 17 [rV ⟨s,k,m,q,0,x1,x2,x3,x4,[],rl,t,h⟩ (.osl o 1 0 1)])
 have fin:∀ (w:PV) (ms:List Int) (a':Nat) (F':PF) (H':PH),PAt E mc n i F'→F' 15=some (.ptr p 17 0 0)→(∃ o,w=.osl o 1 0 ms.length) →
   aT H' (E.boxes v ext w1 w2 w3 w4 w5 .nils a'++[(p,.rows 17 [rV ⟨s,k,m,q,0,x1,x2,x3,x4,ms,rl,t,h⟩ w])]) (FE.lists w1 w2 w3 w4 w5 lw md dm dv pr++[(w,1,dE ms)]) →
   (∀ (w5':PV) (F2:PF) (H2:PH),PAt E mc n i F2→aT H2 (E.boxes v ext w1 w2 w3 w4 w5' .nils a'++[(p,.rows 17 [rV ⟨s,k,m,q,0,x1,x2,x3,x4,ms,rl,t,h⟩ w])]) (FE.lists w1 w2 w3 w4 w5' lw md dm dv (pr++[rV ⟨s,k,m,q,0,x1,x2,x3,x4,ms,rl,t,h⟩ w])++[(w,1,dE ms)])→K .normal F2 H2) →
   wpOps C sG (K .normal) F' H':=by
  intro w ms a' F' H' hF' f15 hw hH' hK'
  obtain⟨wo,rfl⟩:=hw
  obtain⟨f0,f1,f2,f6,f7,f11,f13,f14⟩:=hF'
  have c1:=hH'.at 1 rfl
  have c3:=hH'.at 3 rfl
  have h17:(1:Nat)*17≤16777216:=by decide
  simp -implicitDefEqProofs only[go_sem,υ,δ,γ,η,θ,ζ,sG,f7,f15,c1,c3,h17,baP,baY,or_false,forall_eq,forall_eq_or_imp]
  refine hH'.append 4 (src:=[rV ⟨s,k,m,q,0,x1,x2,x3,x4,ms,rl,t,h⟩ (.osl wo 1 0 ms.length)]) rfl rfl (by unfold roomFor; simp only[baL,maxLen]; omega) fun w5' H2 h5 hw5=>?_
  obtain⟨q5,rfl⟩:=hw5 (by simp)
  have c2:=h5.at 1 rfl
  simp -implicitDefEqProofs only[go_sem,δ,θ,c2,baP,baY,or_false,forall_eq]
  exact hK' _ _ _ ⟨by simp -implicitDefEqProofs only[go_sem,reduceCtorEq,f0],by simp -implicitDefEqProofs only[go_sem,γ,f1],by simp -implicitDefEqProofs only[go_sem,γ,f2],by simp -implicitDefEqProofs only[go_sem,γ,f6],by simp -implicitDefEqProofs only[go_sem,γ,f7],by simp -implicitDefEqProofs only[go_sem,γ,f11],by simp -implicitDefEqProofs only[go_sem,γ,f13],by simp -implicitDefEqProofs only[go_sem,γ,f14]⟩ (h5.set 1 rfl (flB ext w1 w2 w3 w4 _ .nils))
 simp -implicitDefEqProofs only[go_sem,γ,BA,f11]
 by_cases c:1<mc
 ·have c':(mc:Int)>1:=by omega
  simp -implicitDefEqProofs only[go_sem,γ,reduceCtorEq,c',f0]
  refine cK Lb.tozD T (o:=E.o) (n:=2) (a:=f.2) (by decide) af rfl (h4.at 0 rfl) ?_
  have h5:=h4.set 0 rfl (bF v b.2)
  rw[hb]
  by_cases c2:b.1=0
  ·have c2':((b.1:Nat):Int)=0:=by omega
   rw[if_pos c,if_pos c2] at hK
   have e1:IntKind.i64.wrap (1-(f.1:Int))=1-(f.1:Int):=wrap_i64 (by omega) (by omega)
   have c3:=h5.at 3 rfl
   have h11:(1:Nat)*1≤16777216:=by decide
   simp -implicitDefEqProofs only[go_sem,υ,δ,γ,η,θ,ζ,bS c2',BB,f15,hpo,e1,h11]
   refine h5.append 5 (src:=[[.int .i64 (1-(f.1:Int))]]) rfl rfl (by unfold roomFor; simp only[dE,baF,baL,maxLen]; omega) fun w' H2 h6 hw=>?_
   obtain⟨q2,rfl⟩:=hw (by simp)
   have c4:=h6.at 3 rfl
   simp -implicitDefEqProofs only[go_sem,δ,θ,c4,f15,baP,baY,or_false,forall_eq]
   have h7:=h6.set 3 rfl (.rows 17 [rV ⟨s,k,m,q,0,x1,x2,x3,x4,[(f.1:Int),1-(f.1:Int)],rl,t,h⟩ (.osl q2 1 0 2)])
   exact fin (.osl q2 1 0 2) [(f.1:Int),1-(f.1:Int)] b.2 _ _ ⟨by simp -implicitDefEqProofs only[go_sem,reduceCtorEq,f0],by simp -implicitDefEqProofs only[go_sem,γ,f1],by simp -implicitDefEqProofs only[go_sem,γ,f2],by simp -implicitDefEqProofs only[go_sem,γ,f6],by simp -implicitDefEqProofs only[go_sem,γ,f7],by simp -implicitDefEqProofs only[go_sem,γ,f11],by simp -implicitDefEqProofs only[go_sem,γ,f13],by simp -implicitDefEqProofs only[go_sem,γ,f14]⟩ (by simp -implicitDefEqProofs only[go_sem,γ,f15]) ⟨q2,rfl⟩ h7 (fun w5' F2 H2 g1 g2=>hK _ w5' F2 H2 _ g1 ⟨q2,rfl⟩ g2)
  ·have c2':¬ ((b.1:Nat):Int)=0:=by omega
   rw[if_pos c,if_neg c2] at hK
   simp -implicitDefEqProofs only[go_sem,γ,bE c2']
   exact fin (.osl o 1 0 1) [(f.1:Int)] b.2 _ _ ⟨by simp -implicitDefEqProofs only[go_sem,reduceCtorEq,f0],by simp -implicitDefEqProofs only[go_sem,γ,f1],by simp -implicitDefEqProofs only[go_sem,γ,f2],by simp -implicitDefEqProofs only[go_sem,γ,f6],by simp -implicitDefEqProofs only[go_sem,γ,f7],by simp -implicitDefEqProofs only[go_sem,γ,f11],by simp -implicitDefEqProofs only[go_sem,γ,f13],by simp -implicitDefEqProofs only[go_sem,γ,f14]⟩ (by simp -implicitDefEqProofs only[go_sem,γ,f15]) ⟨o,rfl⟩ h5 (fun w5' F2 H2 g1 g2=>hK _ w5' F2 H2 _ g1 ⟨o,rfl⟩ g2)
 ·have c':¬ (mc:Int)>1:=by omega
  rw[if_neg c] at hK
  simp -implicitDefEqProofs only[go_sem,γ,reduceCtorEq,c']
  exact fin (.osl o 1 0 1) [(f.1:Int)] f.2 _ _ ⟨by simp -implicitDefEqProofs only[go_sem,reduceCtorEq,f0],by simp -implicitDefEqProofs only[go_sem,γ,f1],by simp -implicitDefEqProofs only[go_sem,γ,f2],by simp -implicitDefEqProofs only[go_sem,γ,f6],by simp -implicitDefEqProofs only[go_sem,γ,f7],by simp -implicitDefEqProofs only[go_sem,γ,f11],by simp -implicitDefEqProofs only[go_sem,γ,f13],by simp -implicitDefEqProofs only[go_sem,γ,f14]⟩ (by simp -implicitDefEqProofs only[go_sem,γ,f15]) ⟨o,rfl⟩ h4 (fun w5' F2 H2 g1 g2=>hK _ w5' F2 H2 _ g1 ⟨o,rfl⟩ g2)
end Go.PM
namespace Go.PM
open Go Go.Na
abbrev jB (l:List cJ):List (List PV):=l.map cJ.cells
abbrev kR (l:List fF):List (List PV):=l.map fF.cells
theorem mO {rows:List (List PV)} (h:∀ r∈rows,∀ c∈r,c.oid=none):Flat rows:=Flat.of fun r hr c hc q s rs=>RW (h r hr c hc) q s rs
theorem azZ (l:List cI):Flat (fK l):=mO fun r hr c hc=>by
 obtain⟨x,_,rfl⟩:=bbL.1 hr
 simp only[cI.cells,baP,baY,or_false] at hc
 rcases hc with rfl | rfl | rfl | rfl<;>rfl
theorem aAB (l:List cQ):Flat (gD l):=mO fun r hr c hc=>by
 obtain⟨x,_,rfl⟩:=bbL.1 hr
 simp only[cQ.cells,baP,baY,or_false] at hc
 rcases hc with rfl | rfl | rfl | rfl<;>rfl
theorem axG (l:List cG):Flat (gI l):=mO fun r hr c hc=>by
 obtain⟨x,_,rfl⟩:=bbL.1 hr
 simp only[cG.cells,baP,baY,or_false] at hc
 rcases hc with rfl | rfl | rfl | rfl | rfl | rfl | rfl<;>rfl
theorem axJ (l:List cM):Flat (jI l):=mO fun r hr c hc=>by
 obtain⟨x,_,rfl⟩:=bbL.1 hr
 simp only[cM.cells,baP,baY,or_false] at hc
 rcases hc with rfl | rfl | rfl<;>rfl
theorem aXN (l:List fF):Flat (kR l):=mO fun r hr c hc=>by
 obtain⟨x,_,rfl⟩:=bbL.1 hr
 simp only[fF.cells,baP,baY,or_false] at hc
 rcases hc with rfl | rfl<;>rfl
theorem aCN (l:List cJ):Flat (jB l):=mO fun r hr c hc=>by
 obtain⟨x,_,rfl⟩:=bbL.1 hr
 simp only[cJ.cells,baP,baY,or_false] at hc
 rcases hc with rfl | rfl | rfl | rfl | rfl | rfl | rfl | rfl | rfl | rfl | rfl | rfl | rfl | rfl | rfl | rfl | rfl<;>rfl
theorem aGT (l:List Nat) (mc i:Nat) {a:Nat} (h:a≤l.length):(jF l mc i a).2≤l.length:=by
 have h1:=bH l 9 (yQ l (bH l ((aD l 3 (aD l 2 a).2).1+1) (bH l 4 (bH l 3 (bH l 2 h)))) (max (aD l 3 (aD l 2 a).2).1 1))
 have h2:=bH l mc (pN l (pN l (pN l (pN l h1))))
 unfold jF
 simp only
 split
 ·split
  ·exact bH l 2 h2
  ·exact bH l 2 h2
 ·exact h2
theorem tZ (l:List Nat) (mc:Nat) {a:Nat} (h:a≤l.length):∀ k,(cR l mc a k).2≤l.length∧(cR l mc a k).1.length=k
 | 0=>⟨h,rfl⟩
 | k+1=>by
  obtain⟨h1,h2⟩:=tZ l mc h k
  exact⟨aGT l mc k h1,by simp only[cR,baI,baL,h2]⟩
theorem NE (l:List Nat) (pc:Nat) {a:Nat} (h:a≤l.length):∀ k,(dJ l pc a k).2≤l.length∧(dJ l pc a k).1.length=k
 | 0=>⟨h,rfl⟩
 | k+1=>by
  obtain⟨h1,h2⟩:=NE l pc h k
  exact⟨bH l pc h1,by simp only[dJ,baI,baL,h2]⟩
theorem aoC {C:Ctx} (Lb:jX C) {l:List Nat} {v:PV} (T:Tp l v) (E:FE) (mc n a:Nat) (hn:n≤10) (hmc:0<mc) (hmc2:mc≤50) (ha:a≤l.length) (x0:Int) (w1 w2 w3 w4:PV) (lw:List cI) (md:List cQ) (dm:List cG) (dv:List cM) (K:cD) (F:PF) (H:PH)
  (hF:PAt E mc n 0 F) (hH:aT H (E.boxes v (.int .i64 x0) w1 w2 w3 w4 .nils .nils a) [(w1,4,fK lw),(w2,4,gD md),(w3,7,gI dm),(w4,3,jI dv)])
  (hK:∀ w5 F' H',(eN E).le F'→aT H' (E.boxes v (.int .i64 x0) w1 w2 w3 w4 w5 .nils (cR l mc a n).2) (FE.lists w1 w2 w3 w4 w5 lw md dm dv (jB (cR l mc a n).1))→K (.exit 4) F' H') :
  aC.wp C (.loop AS) K F H:=by
 refine wp_loop (α:=Nat × PV × PH) (fun t=>XP E mc n t.1) (fun t=>t.2.2) (fun t=>t.1≤n∧aT t.2.2 (E.boxes v (.int .i64 x0) w1 w2 w3 w4 t.2.1 .nils (cR l mc a t.1).2) (FE.lists w1 w2 w3 w4 t.2.1 lw md dm dv (jB (cR l mc a t.1).1))) (fun t=>n-t.1) (0,.nils,H) ⟨baR _,hH.wX 17⟩ ?_ PH.le_refl ?_
 ·unfold XP eN
  (repeat' (first|exact PF.nil_le|refine PF.aA ?_ ?_))<;>first|(simp -implicitDefEqProofs only[go_sem,hF.f0,hF.f1,hF.f2,hF.f6,hF.f7,hF.f11,hF.f13,hF.f14]<;>rfl)|rfl
 rintro⟨i,w5,H0⟩ ⟨hi,hH⟩
 simp only at hi hH ⊢
 obtain⟨k1,k2⟩:=tZ l mc ha i
 have hstep:cR l mc a (i+1)=((cR l mc a i).1++[(jF l mc i (cR l mc a i).2).1],(jF l mc i (cR l mc a i).2).2):=rfl
 simp -implicitDefEqProofs only[go_sem,γ,reduceCtorEq,AS,TA,XP,eN]
 by_cases hlt:i<n
 ·have hlt':(i:Int)<(n:Nat):=by omega
  generalize hg:cR l mc a i=g at *
  simp -implicitDefEqProofs only[go_sem,hlt']
  refine aPY (C:=C) Lb T E mc n i g.2 k1 (by omega) (.int .i64 x0) w1 w2 w3 w4 w5 .nils _ _ _ _ H0 ⟨by simp -implicitDefEqProofs only[go_sem,reduceCtorEq],by simp -implicitDefEqProofs only[go_sem,γ,reduceCtorEq],by simp -implicitDefEqProofs only[go_sem,γ,reduceCtorEq],by simp -implicitDefEqProofs only[go_sem,γ,reduceCtorEq],by simp -implicitDefEqProofs only[go_sem,γ,reduceCtorEq],by simp -implicitDefEqProofs only[go_sem,γ,reduceCtorEq],by simp -implicitDefEqProofs only[go_sem,γ,reduceCtorEq],by simp -implicitDefEqProofs only[go_sem,γ,reduceCtorEq]⟩ hH ?_
  intro p F1 H1 hF1 f15 hH1
  simp only at hH1
  have hpT:jF l mc i g.2=_:=rfl
  have hgle:=bH l 9 (yQ l (bH l ((aD l 3 (aD l 2 g.2).2).1+1) (bH l 4 (bH l 3 (bH l 2 k1)))) (max (aD l 3 (aD l 2 g.2).2).1 1))
  refine aPZ (C:=C) Lb T E mc n i _ hgle hmc hmc2 (.int .i64 x0) w1 w2 w3 w4 w5 lw md dm dv _ (by rw[baF,k2]; omega) _ _ _ _ (mkT 0 1) _ _ _ p _ F1 H1 hF1 f15 hH1 ?_
  intro sp f b ms w w5' F2 H2 B' hF2 hw hH2
  obtain⟨o,rfl⟩:=hw
  have hP:jF l mc i g.2=(⟨[112]++bM i,(1+(aD l 2 g.2).1:Nat),((aD l 3 (aD l 2 g.2).2).1:Nat),(1+(aD l 2 g.2).1+(aD l ((aD l 3 (aD l 2 g.2).2).1+1) (aD l 4 (aD l 3 (aD l 2 g.2).2).2).2).1:Nat),0,sp.1.getD 0 0,sp.1.getD 1 0,sp.1.getD 2 0,sp.1.getD 3 0,ms.1,(gK l (aD l ((aD l 3 (aD l 2 g.2).2).1+1) (aD l 4 (aD l 3 (aD l 2 g.2).2).2).2).2 (max (aD l 3 (aD l 2 g.2).2).1 1)).1,mkT ((aD l 9 (gK l (aD l ((aD l 3 (aD l 2 g.2).2).1+1) (aD l 4 (aD l 3 (aD l 2 g.2).2).2).2).2 (max (aD l 3 (aD l 2 g.2).2).1 1)).2).1:Nat) 8,mkT ((1+(aD l 4 (aD l 3 (aD l 2 g.2).2).2).1:Nat):Int) 1⟩,ms.2):=rfl
  rw[hP] at hstep
  generalize hPP:(⟨[112]++bM i,(1+(aD l 2 g.2).1:Nat),((aD l 3 (aD l 2 g.2).2).1:Nat),(1+(aD l 2 g.2).1+(aD l ((aD l 3 (aD l 2 g.2).2).1+1) (aD l 4 (aD l 3 (aD l 2 g.2).2).2).2).1:Nat),0,sp.1.getD 0 0,sp.1.getD 1 0,sp.1.getD 2 0,sp.1.getD 3 0,ms.1,(gK l (aD l ((aD l 3 (aD l 2 g.2).2).1+1) (aD l 4 (aD l 3 (aD l 2 g.2).2).2).2).2 (max (aD l 3 (aD l 2 g.2).2).1 1)).1,mkT ((aD l 9 (gK l (aD l ((aD l 3 (aD l 2 g.2).2).1+1) (aD l 4 (aD l 3 (aD l 2 g.2).2).2).2).2 (max (aD l 3 (aD l 2 g.2).2).1 1)).2).1:Nat) 8,mkT ((1+(aD l 4 (aD l 3 (aD l 2 g.2).2).2).1:Nat):Int) 1⟩:cJ)=P at *
  have hPm:P.models=ms.1:=by rw[← hPP]
  obtain⟨rs,z1,z2,z3,z4,z5⟩:=hH2.frz 5 rfl
  have y1:=z4 0 _ (by decide) rfl
  have y2:=z4 1 _ (by decide) rfl
  have y3:=z4 2 _ (by decide) rfl
  have y4:=z4 3 _ (by decide) rfl
  have y5:=z4 4 _ (by decide) rfl
  simp only at y1 y2 y3 y4 y5
  have y0:=T.frz o 1 rs
  obtain⟨f0,f1,f2,f6,f7,f11,f13,f14⟩:=hF2
  simp -implicitDefEqProofs only[go_sem,γ,TE,f14,aL (show i<9223372036854775807 by omega)]
  refine aaK (i+1,w5',H2.frz o 1 rs) z1 ⟨hlt,?_⟩ (by simp only; omega) ?_ PH.le_refl
  ·rw[hstep]
   have eB:(E.boxes v (.int .i64 x0) w1 w2 w3 w4 w5' .nils ms.2).map (fun b=>(b.1,b.2.frz o 1 rs))=E.boxes v (.int .i64 x0) w1 w2 w3 w4 w5' .nils ms.2:=by
    show [(E.o,bX.rows 2 [[PV.cZ o 1 rs v,.int .i64 ms.2]]),(E.o7,bX.rows 7 [[.int .i64 x0,PV.cZ o 1 rs w1,PV.cZ o 1 rs w2,PV.cZ o 1 rs w3,PV.cZ o 1 rs w4,PV.cZ o 1 rs w5',.nils]]),(E.o6,flZ)]=_
    rw[y0,y1,y2,y3,y4,y5]
   have e5:(jB g.1++[rV P (.osl o 1 0 ms.1.length)]).map (fun r=>r.map (PV.cZ o 1 rs))=jB (g.1++[P]):=by
    rw[bcA,aCN]
    have:([rV P (.osl o 1 0 ms.1.length)]:List (List PV)).map (fun r=>r.map (PV.cZ o 1 rs))=[P.cells]:=by
     show [[PV.str P.name,.int .i64 P.k,.int .i64 P.m,.int .i64 P.quorum,.int .i64 P.s0,.int .i64 P.s1,.int .i64 P.s2,.int .i64 P.s3,.int .i64 P.s4,PV.cZ o 1 rs (.osl o 1 0 ms.1.length),frs P.repair,.bool P.target.neg,aF P.target.num,aF P.target.den,.bool P.horizon.neg,aF P.horizon.num,aF P.horizon.den]]=_
     rw[z2,← hPm]
     rfl
    rw[this]
    simp[jB]
   have eL:(FE.lists w1 w2 w3 w4 w5' lw md dm dv (jB g.1++[rV P (.osl o 1 0 ms.1.length)])).map (fun x=>(x.1,x.2.1,x.2.2.map fun r=>r.map (PV.cZ o 1 rs)))=FE.lists w1 w2 w3 w4 w5' lw md dm dv (jB (g.1++[P])):=by
    show [(w1,4,(fK lw).map _),(w2,4,(gD md).map _),(w3,7,(gI dm).map _),(w4,3,(jI dv).map _),(w5',17,(jB g.1++[rV P (.osl o 1 0 ms.1.length)]).map _)]=_
    rw[azZ,aAB,axG,axJ,e5]
   rw[← eB,← eL]
   exact z5.sub (by rw[bcA]; exact List.sublist_append_left ..) (bcK.refl _)
  ·(repeat' (first|exact PF.nil_le|refine PF.aA ?_ ?_))<;>first|(simp -implicitDefEqProofs only[go_sem,γ,reduceCtorEq,f0,f1,f2,f6,f7,f11,f13]<;>rfl)|rfl
 ·have hlt':¬ (i:Int)<(n:Nat):=by omega
  have:i=n:=by omega
  subst this
  simp -implicitDefEqProofs only[go_sem,hlt']
  exact hK w5 _ _ (KE (by simp -implicitDefEqProofs only[go_sem,reduceCtorEq]) (by simp -implicitDefEqProofs only[go_sem,γ,reduceCtorEq]) (by simp -implicitDefEqProofs only[go_sem,γ,reduceCtorEq]) (by simp -implicitDefEqProofs only[go_sem,γ,reduceCtorEq]) (by simp -implicitDefEqProofs only[go_sem,γ,reduceCtorEq])) hH
end Go.PM
namespace Go.PM
open Go Go.Na
theorem awG {C:Ctx} (Lb:jX C) {l:List Nat} {v:PV} (T:Tp l v) (E:FE) (pc n a:Nat) (hn:n≤60) (hpc:pc≤50) (ha:a≤l.length) (ext w1 w2 w3 w4 w5:PV) (pr:List cJ) (hpr:pr.length=pc) (L:List LI) (K:cD) (F:PF) (H:PH)
  (hF:(((eN E).set 18 (.int .i64 n)).set 19 (.int .i64 0)).le F) (hH:aT H (E.boxes v ext w1 w2 w3 w4 w5 .nils a) ((w5,17,jB pr)::L))
  (hK:∀ w6 F' H',(eN E).le F'→aT H' (E.boxes v ext w1 w2 w3 w4 w5 w6 (dJ l pc a n).2) ((w5,17,jB pr)::L++[(w6,2,kR (dJ l pc a n).1)])→K (.exit 8) F' H') :
  aC.wp C (.loop AU) K F H:=by
 refine wp_loop (α:=Nat × PV × PH) (fun t=>((eN E).set 18 (.int .i64 n)).set 19 (.int .i64 t.1)) (fun t=>t.2.2) (fun t=>t.1≤n∧aT t.2.2 (E.boxes v ext w1 w2 w3 w4 w5 t.2.1 (dJ l pc a t.1).2) ((w5,17,jB pr)::L++[(t.2.1,2,kR (dJ l pc a t.1).1)])) (fun t=>n-t.1) (0,.nils,H) ⟨baR _,hH.wX 2⟩ hF PH.le_refl ?_
 rintro⟨i,w6,H0⟩ ⟨hi,hH⟩
 simp only at hi hH ⊢
 obtain⟨k1,k2⟩:=NE l pc ha i
 have hstep:dJ l pc a (i+1)=((dJ l pc a i).1++[⟨[118]++bM i,((aD l pc (dJ l pc a i).2).1:Nat)⟩],(aD l pc (dJ l pc a i).2).2):=rfl
 simp -implicitDefEqProofs only[go_sem,γ,reduceCtorEq,AU,TH,eN]
 by_cases hlt:i<n
 ·have hlt':(i:Int)<(n:Nat):=by omega
  generalize hg:dJ l pc a i=g at *
  have h1:=hH.set 0 rfl (bF v (aD l pc g.2).2)
  generalize hz0:aD l pc g.2=z at *
  have b1:=hH.at 1 rfl
  have lw:=(hH.own 0 rfl).rT
  rw[baF,hpr] at lw
  have hHs:(PH.nil.set E.o7 (flB ext w1 w2 w3 w4 w5 w6)).le H0:=PH.aA PH.nil_le b1
  simp -implicitDefEqProofs only[go_sem,hlt']
  refine cC (PH.nil.set E.o7 (flB ext w1 w2 w3 w4 w5 w6)) (mkS l v) hHs ?_
  simp -implicitDefEqProofs only[go_sem,δ,γ,reduceCtorEq,TI]
  refine zI Lb.tooQ (s:=[118]) (n:=i) (by decide) (by omega) rfl hHs ?_
  simp -implicitDefEqProofs only[go_sem,δ,γ,θ,reduceCtorEq,lw]
  refine nK Lb.tozD T (o:=E.o) (n:=pc) (a:=g.2) (by omega) k1 rfl (hH.at 0 rfl) ?_ ?_
  ·rw[hz0]; exact PH.aA PH.nil_le (h1.at 1 rfl)
  rw[hz0]
  have h12:(1:Nat)*2≤16777216:=by decide
  simp -implicitDefEqProofs only[go_sem,υ,δ,γ,η,θ,ζ,reduceCtorEq,h12,baP,baY,or_false,forall_eq,forall_eq_or_imp]
  refine h1.append (v:=w6) (s:=2) (rows:=kR g.1) (L.length+1) (src:=[(⟨[118]++bM i,(z.1:Nat)⟩:fF).cells]) (by simp) rfl (by unfold roomFor; rw[baF]; simp only[baL,maxLen]; omega) fun w' H2 h5 hw=>?_
  obtain⟨q,rfl⟩:=hw (by simp)
  rw[show ((w5,17,jB pr)::L++[(w6,2,kR g.1)])=((w5,17,jB pr)::L)++[(w6,2,kR g.1)] from rfl,bdG _ _ (by simp),show L.length+1-((w5,17,jB pr)::L).length=0 by simp] at h5
  have b2:=h5.at 1 rfl
  refine⟨PH.aA PH.nil_le b2,?_⟩
  refine cC .nil eE PH.nil_le ?_
  simp -implicitDefEqProofs only[go_sem,δ,γ,reduceCtorEq,TJ,b2,baP,baY,or_false,forall_eq]
  have h6:=h5.set 1 rfl (flB ext w1 w2 w3 w4 w5 (.osl q 2 0 (kR g.1++[(⟨[118]++bM i,(z.1:Nat)⟩:fF).cells]).length))
  refine⟨PH.nil_le,?_⟩
  simp -implicitDefEqProofs only[go_sem,γ,reduceCtorEq,TK,aL (show i<9223372036854775807 by omega)]
  refine aH (i+1,.osl q 2 0 (kR g.1++[(⟨[118]++bM i,(z.1:Nat)⟩:fF).cells]).length,_) ⟨hlt,?_⟩ (by simp only; omega) ?_ PH.le_refl
  ·rw[hstep]
   have e:kR (g.1++[⟨[118]++bM i,(z.1:Nat)⟩])=kR g.1++[(⟨[118]++bM i,(z.1:Nat)⟩:fF).cells]:=by simp[kR]
   simp only
   rw[e]
   exact h6
  ·(repeat' (first|exact PF.nil_le|refine PF.aA ?_ ?_))<;>first|(simp -implicitDefEqProofs only[go_sem,γ,reduceCtorEq]<;>rfl)|rfl
 ·have hlt':¬ (i:Int)<(n:Nat):=by omega
  have:i=n:=by omega
  subst this
  simp -implicitDefEqProofs only[go_sem,hlt']
  exact hK w6 _ _ (KE rfl rfl rfl rfl rfl) hH
def DU (l:List Nat) (v:PV) (o drives volumes a:Nat) (r:PV) (H:PH):Prop:=Co r (.agg (fT l drives volumes a).1.cells)∧H=PH.nil.set o (bF v (fT l drives volumes a).2)
structure aiC (C:Ctx):Prop extends jX C where
 grow:∀ (l:List Nat) (v:PV),Tp l v→∀ (mc drives:Nat),0<mc→mc≤1000→drives≤60→QW C l v mc drives 4
theorem aJX {C:Ctx} (Lb:aiC C) {l:List Nat} {v:PV} (T:Tp l v) (o drives volumes a:Nat) (hdr:drives≤60) (hvo:volumes≤50) (ha:a≤l.length) :
  wK.wp C (aZ FY.res (DU l v o drives volumes a)) (PF.args [.ptr o 2 0 0,.int .i64 drives,.int .i64 volumes]) (PH.nil.set o (bF v a)):=by
 have hT:fT l drives volumes a=fT l drives volumes a:=rfl
 conv at hT=>rhs; unfold fT
 dsimp only at hT
 have hR:∀ r H,DU l v o drives volumes a r H↔Co r (.agg (fT l drives volumes a).1.cells)∧H=PH.nil.set o (bF v (fT l drives volumes a).2):=fun _ _=>Iff.rfl
 have ne:=bT l (show 0<2 by decide) a
 have ae:=bH l 2 ha
 generalize he:aD l 2 a=e at *
 have nlw:=bT l (show 0<2 by decide) e.2
 have alw:=bH l 2 ae
 generalize hlw:aD l 2 e.2=lw at *
 obtain⟨alaws,llaws⟩:=OO l alw (1+lw.1)
 generalize hlaws:fL l lw.2 (1+lw.1)=laws at *
 have nmd:=bT l (show 0<2 by decide) laws.2
 have amd:=bH l 2 alaws
 generalize hmd:aD l 2 laws.2=md at *
 obtain⟨amodels,lmodels⟩:=BI l (1+lw.1) amd (1+md.1)
 generalize hmodels:dD l (1+lw.1) md.2 (1+md.1)=models at *
 have hG0:GOk l drives ⟨[jV],[],models.2⟩:=⟨by simp,baR _,amodels⟩
 obtain⟨hG,-⟩:=NZ (mc:=1+md.1) 4 0 hG0
 generalize hg:dS l (1+md.1) drives 4 0 ⟨[jV],[],models.2⟩=g at *
 have npl:=bT l (show 0<2 by decide) g.a
 have apl:=bH l 2 hG.a
 generalize hpl:aD l 2 g.a=pl at *
 obtain⟨apols,lpols⟩:=tZ l (1+md.1) apl (1+pl.1)
 generalize hpols:cR l (1+md.1) pl.2 (1+pl.1)=pols at *
 have nvo:=bT l (show 0<volumes+1 by omega) pols.2
 have avo:=bH l (volumes+1) apols
 generalize hvo':aD l (volumes+1) pols.2=vo at *
 generalize hvols:dJ l (1+pl.1) vo.2 vo.1=vols at *
 have ee:IntKind.i64.wrap (1+(e.1:Int))=((1+e.1:Nat):Int):=by rw[wrap_i64 (by omega) (by omega)]; omega
 have elw:IntKind.i64.wrap (1+(lw.1:Int))=((1+lw.1:Nat):Int):=by rw[wrap_i64 (by omega) (by omega)]; omega
 have emd:IntKind.i64.wrap (1+(md.1:Int))=((1+md.1:Nat):Int):=by rw[wrap_i64 (by omega) (by omega)]; omega
 have epl:IntKind.i64.wrap (1+(pl.1:Int))=((1+pl.1:Nat):Int):=by rw[wrap_i64 (by omega) (by omega)]; omega
 have evo:IntKind.i64.wrap ((volumes:Int)+1)=((volumes+1:Nat):Int):=aL (by omega)
 have h0:aT (PH.nil.set o (bF v a)) [(o,bF v a)] []:=aT.nil.new (H:=PH.nil) rfl (bF v a)
 simp -implicitDefEqProofs only[go_sem,δ,wK,abP,FY]
 refine aP fun o6 ho6=>?_
 have h1:=h0.new ho6 flZ
 simp -implicitDefEqProofs only[go_sem,reduceCtorEq,abQ]
 refine cK Lb.tozD T (o:=o) (n:=2) (a:=a) (by decide) ha rfl (h1.at 0 rfl) ?_
 have h2:=h1.set 0 rfl (bF v e.2)
 rw[he]
 simp -implicitDefEqProofs only[go_sem,δ,γ,θ,ee]
 refine aP fun o7 ho7=>?_
 have h3:=h2.new ho7 (flB (.int .i64 (1+e.1:Nat)) .nils .nils .nils .nils .nils .nils)
 simp -implicitDefEqProofs only[go_sem,δ,γ,reduceCtorEq,abR,baP,baY,or_false,forall_eq,forall_eq_or_imp]
 refine cK Lb.tozD T (o:=o) (n:=2) (a:=e.2) (by decide) ae rfl (h3.at 0 rfl) ?_
 have h4:=h3.set 0 rfl (bF v lw.2)
 rw[hlw]
 have h5:=h4.perm (B':=FE.boxes ⟨o,o6,o7,drives,volumes⟩ v (.int .i64 (1+e.1:Nat)) .nils .nils .nils .nils .nils .nils lw.2) (L':=[]) (List.Perm.cons _ (List.Perm.swap _ _ _)) (List.Perm.refl _)
 obtain⟨E,hE⟩:∃ E:FE,E=⟨o,o6,o7,drives,volumes⟩:=⟨_,rfl⟩
 rw[← hE] at h5
 simp -implicitDefEqProofs only[go_sem,γ,elw,abS]
 refine aPX (C:=C) Lb.tojX T E (1+lw.1) lw.2 (by omega) alw _ _ _ _ ?_ h5 ?_
 ·rw[hE]
  unfold eN
  (repeat' (first|exact PF.nil_le|refine PF.aA ?_ ?_))<;>first|(simp -implicitDefEqProofs only[go_sem,γ,reduceCtorEq]<;>rfl)|rfl
 clear h5 h4 h3 h2 h1 h0 ho6 ho7
 intro w1 F1 H1 hF1 h1
 rw[hlaws] at h1
 have f0:F1 0=some (.ptr o 2 0 0):=hF1 0 _ (by rw[hE]; unfold eN; simp -implicitDefEqProofs only[go_sem,reduceCtorEq])
 have f1:F1 1=some (.int .i64 drives):=hF1 1 _ (by rw[hE]; unfold eN; simp -implicitDefEqProofs only[go_sem,γ,reduceCtorEq])
 have f2:F1 2=some (.int .i64 volumes):=hF1 2 _ (by rw[hE]; unfold eN; simp -implicitDefEqProofs only[go_sem,γ,reduceCtorEq])
 have f6:F1 6=some (.ptr o6 7 0 0):=hF1 6 _ (by rw[hE]; unfold eN; simp -implicitDefEqProofs only[go_sem,γ,reduceCtorEq])
 have f7:F1 7=some (.ptr o7 7 0 0):=hF1 7 _ (by rw[hE]; unfold eN; simp -implicitDefEqProofs only[go_sem,γ,reduceCtorEq])
 have q0:=h1.at 0 rfl
 rw[hE] at q0
 simp -implicitDefEqProofs only[go_sem,SQ,f0]
 refine cK Lb.tozD T (o:=o) (n:=2) (a:=laws.2) (by decide) alaws rfl q0 ?_
 have h2:=h1.set 0 rfl (bF v md.2)
 rw[hmd]
 simp -implicitDefEqProofs only[go_sem,γ,emd,SR]
 refine aFW (C:=C) Lb.tojX T E (1+md.1) md.2 (1+lw.1) (by omega) (by omega) amd (.int .i64 (1+e.1:Nat)) w1 laws.1 llaws _ _ _ ?_ (by rw[hE] at h2 ⊢; exact h2) ?_
 ·rw[hE]
  unfold eN
  repeat' first|exact PF.nil_le|refine PF.aA ?_ ?_|rfl|assumption
 clear q0 h2 h1 f0 f1 f2 f6 f7 hF1
 intro w2 F2 H2 hF2 f11 h2
 rw[hmodels] at h2
 have f0:F2 0=some (.ptr o 2 0 0):=hF2 0 _ (by rw[hE]; unfold eN; simp -implicitDefEqProofs only[go_sem,reduceCtorEq])
 have f1:F2 1=some (.int .i64 drives):=hF2 1 _ (by rw[hE]; unfold eN; simp -implicitDefEqProofs only[go_sem,γ,reduceCtorEq])
 have f2:F2 2=some (.int .i64 volumes):=hF2 2 _ (by rw[hE]; unfold eN; simp -implicitDefEqProofs only[go_sem,γ,reduceCtorEq])
 have f6:F2 6=some (.ptr o6 7 0 0):=hF2 6 _ (by rw[hE]; unfold eN; simp -implicitDefEqProofs only[go_sem,γ,reduceCtorEq])
 have f7:F2 7=some (.ptr o7 7 0 0):=hF2 7 _ (by rw[hE]; unfold eN; simp -implicitDefEqProofs only[go_sem,γ,reduceCtorEq])
 obtain⟨qm,hqm⟩:=(h2.own 1 rfl).one (by rw[baF]; omega)
 rw[baF,lmodels] at hqm
 subst hqm
 have h17:(1:Nat)*7≤16777216:=by decide
 simp -implicitDefEqProofs only[go_sem,ο,SW]
 refine aB (Lb.int 0 (by unfold dQ; omega)) rfl ?_
 simp -implicitDefEqProofs only[go_sem,ο,υ,δ,γ,η,θ,ζ,baP,baY,or_false,forall_eq,forall_eq_or_imp,h17]
 refine aP fun od hod=>?_
 have h3:=h2.aYM (s:=7) (rows:=gI [jV]) hod
 have b7:=h2.at 1 rfl
 rw[hE] at b7
 have n7:¬ o7=od:=by
  have:=h3.neL 1 2 rfl rfl rfl
  rw[hE] at this; exact this
 simp -implicitDefEqProofs only[go_sem,ο,δ,γ,θ,f7,b7,n7,baP,baY,or_false,forall_eq]
 have h4:=(h3.set 1 rfl (flB (.int .i64 (1+e.1:Nat)) w1 (.osl qm 4 0 (1+md.1)) (.osl od 7 0 1) .nils .nils .nils)).wX 3
 rw[hE] at h4
 have h5:=h4.perm (B':=(GE.mk o o7 qm (.int .i64 (1+e.1:Nat)) w1 .nils .nils).boxes v (1+md.1) (.osl od 7 0 1) .nils models.2++[(o6,flZ)]) (L':=iZ ⟨[jV],[],models.2⟩ (.osl od 7 0 1) .nils++[(w1,4,fK laws.1),(.osl qm 4 0 (1+md.1),4,gD models.1)]) (List.Perm.refl _)
  (List.perm_append_comm (l₁:=[(w1,4,fK laws.1),(.osl qm 4 0 (1+md.1),4,gD models.1)]) (l₂:=iZ ⟨[jV],[],models.2⟩ (.osl od 7 0 1) .nils))
 simp -implicitDefEqProofs only[go_sem,ο,γ,reduceCtorEq,SX,f0,f1,f7]
 refine NF h5 (fun H0 hH0=>Lb.grow l v T (1+md.1) drives (by omega) (by omega) hdr (GE.mk o o7 qm (.int .i64 (1+e.1:Nat)) w1 .nils .nils) (.osl od 7 0 1) .nils ⟨[jV],[],models.2⟩ 0 jV hG0 rfl rfl H0 hH0) (by simp -implicitDefEqProofs only[go_sem,ο,γ,f0,f1,f7]; rfl) ?_
 rintro r B' L' H3 ⟨rfl,w3,w4,rfl,rfl⟩ h6
 rw[hg] at h6
 have h7:=h6.perm (B':=E.boxes v (.int .i64 (1+e.1:Nat)) w1 (.osl qm 4 0 (1+md.1)) w3 w4 .nils .nils g.a) (L':=[(w1,4,fK laws.1),(.osl qm 4 0 (1+md.1),4,gD models.1),(w3,7,gI g.doms),(w4,3,jI g.drvs)]) (by rw[hE]; exact List.Perm.refl _)
  (List.perm_append_comm (l₁:=iZ g w3 w4) (l₂:=[(w1,4,fK laws.1),(.osl qm 4 0 (1+md.1),4,gD models.1)]))
 have q0:=h7.at 0 rfl
 rw[hE] at q0
 simp -implicitDefEqProofs only[go_sem,ο,reduceCtorEq,SY,f0]
 refine cK Lb.tozD T (o:=o) (n:=2) (a:=g.a) (by decide) hG.a rfl q0 ?_
 have h8:=h7.set 0 rfl (bF v pl.2)
 rw[hpl]
 simp -implicitDefEqProofs only[go_sem,ο,γ,epl,SZ]
 refine aoC (C:=C) Lb.tojX T E (1+md.1) (1+pl.1) pl.2 (by omega) (by omega) (by omega) apl ((1+e.1:Nat):Int) w1 (.osl qm 4 0 (1+md.1)) w3 w4 laws.1 models.1 g.doms g.drvs _ _ _ (by rw[hE]; exact⟨by simp -implicitDefEqProofs only[go_sem,ο,reduceCtorEq,f0],by simp -implicitDefEqProofs only[go_sem,ο,γ,f1],by simp -implicitDefEqProofs only[go_sem,ο,γ,f2],by simp -implicitDefEqProofs only[go_sem,ο,γ,f6],by simp -implicitDefEqProofs only[go_sem,ο,γ,f7],by simp -implicitDefEqProofs only[go_sem,ο,γ,f11],by simp -implicitDefEqProofs only[go_sem,ο,γ],by simp -implicitDefEqProofs only[go_sem,ο,γ]; rfl⟩) (by rw[hE] at h8 ⊢; exact h8) ?_
 clear h8 h7 h6 h5 h4 h3 h2 q0 b7 f0 f1 f2 f6 f7 hF2
 intro w5 F4 H4 hF4 h1
 rw[hpols] at h1
 have f0:F4 0=some (.ptr o 2 0 0):=hF4 0 _ (by rw[hE]; unfold eN; simp -implicitDefEqProofs only[go_sem,reduceCtorEq])
 have f1:F4 1=some (.int .i64 drives):=hF4 1 _ (by rw[hE]; unfold eN; simp -implicitDefEqProofs only[go_sem,γ,reduceCtorEq])
 have f2:F4 2=some (.int .i64 volumes):=hF4 2 _ (by rw[hE]; unfold eN; simp -implicitDefEqProofs only[go_sem,γ,reduceCtorEq])
 have f6:F4 6=some (.ptr o6 7 0 0):=hF4 6 _ (by rw[hE]; unfold eN; simp -implicitDefEqProofs only[go_sem,γ,reduceCtorEq])
 have f7:F4 7=some (.ptr o7 7 0 0):=hF4 7 _ (by rw[hE]; unfold eN; simp -implicitDefEqProofs only[go_sem,γ,reduceCtorEq])
 have q0:=h1.at 0 rfl
 rw[hE] at q0
 simp -implicitDefEqProofs only[go_sem,γ,TF,f0,f2,evo]
 refine cK Lb.tozD T (o:=o) (n:=volumes+1) (a:=pols.2) (by omega) apols rfl q0 ?_
 have h2:=h1.set 0 rfl (bF v vo.2)
 rw[hvo']
 have h3:=h2.perm (B':=E.boxes v (.int .i64 (1+e.1:Nat)) w1 (.osl qm 4 0 (1+md.1)) w3 w4 w5 .nils vo.2) (L':=(w5,17,jB pols.1)::[(w1,4,fK laws.1),(.osl qm 4 0 (1+md.1),4,gD models.1),(w3,7,gI g.doms),(w4,3,jI g.drvs)]) (List.Perm.refl _)
  (List.perm_append_comm (l₁:=[(w1,4,fK laws.1),(.osl qm 4 0 (1+md.1),4,gD models.1),(w3,7,gI g.doms),(w4,3,jI g.drvs)]) (l₂:=[(w5,17,jB pols.1)]))
 simp -implicitDefEqProofs only[go_sem,γ,TG]
 refine awG (C:=C) Lb.tojX T E (1+pl.1) vo.1 vo.2 (by omega) (by omega) avo _ _ _ _ _ w5 pols.1 lpols _ _ _ _ ?_ (by rw[hE] at h3 ⊢; exact h3) ?_
 ·rw[hE]
  unfold eN
  repeat' first|exact PF.nil_le|refine PF.aA ?_ ?_|rfl|assumption
 clear h3 h2 h1 q0 f0 f1 f2 f6 f7 hF4
 intro w6 F5 H5 hF5 h1
 rw[hvols] at h1
 have f6:F5 6=some (.ptr o6 7 0 0):=hF5 6 _ (by rw[hE]; unfold eN; simp -implicitDefEqProofs only[go_sem,γ,reduceCtorEq])
 have f7:F5 7=some (.ptr o7 7 0 0):=hF5 7 _ (by rw[hE]; unfold eN; simp -implicitDefEqProofs only[go_sem,γ,reduceCtorEq])
 rw[hE] at h1
 have b7:=h1.at 1 rfl
 have b6:=h1.at 2 rfl
 have one:∀ (x:PV),x∈[w1,w3,w4,w5,w6]→(∃ q s n,x=.osl q s 0 n)∨x=.nils:=by
  intro x hx
  have key:∀ {s:Nat} {rows:List (List PV)},bA H5 s x rows→(∃ q s n,x=.osl q s 0 n)∨x=.nils:=by
   rintro s rows (⟨_,h⟩ | ⟨q,rs,h,_⟩)
   ·exact .inr h
   ·exact .inl ⟨q,s,_,h⟩
  simp only[baP,baY,or_false] at hx
  rcases hx with rfl | rfl | rfl | rfl | rfl
  ·exact key (h1.own 1 rfl)
  ·exact key (h1.own 3 rfl)
  ·exact key (h1.own 4 rfl)
  ·exact key (h1.own 0 rfl)
  ·exact key (h1.own 5 rfl)
 have one':∀ (x:PV),x∈[w1,w3,w4,w5,w6]→PV.one x=true:=fun x hx=>by
  rcases one x hx with ⟨q,s,n,rfl⟩ | rfl<;>rfl
 have o1:=one' w1 (by simp)
 have o3:=one' w3 (by simp)
 have o4:=one' w4 (by simp)
 have o5:=one' w5 (by simp)
 have o6':=one' w6 (by simp)
 simp only[PV.one] at o1 o3 o4 o5 o6'
 simp -implicitDefEqProofs only[go_sem,δ,γ,TL,f6,f7,b7,b6,baP,baY,or_false,forall_eq,forall_eq_or_imp,o1,o3,o4,o5,o6']
 have h2:=h1.set 2 rfl (flB (.int .i64 (1+e.1:Nat)) w1 (.osl qm 4 0 (1+md.1)) w3 w4 w5 w6)
 have h3:=h2.sub (B':=[(o,bF v vols.2)]) (bcK.cons_cons _ (List.nil_sublist _)) (bcK.refl _)
 obtain⟨φ,H6,k1,k2,k3,k4⟩:=aT.giveUp _ h3 (fun x hx=>by
  simp only[List.cons_append,List.nil_append,baP,baY,or_false] at hx
  rcases hx with rfl | rfl | rfl | rfl | rfl | rfl
  ·exact aCN _
  ·exact azZ _
  ·exact aAB _
  ·exact axG _
  ·exact axJ _
  ·exact aXN _) (fun b hb q s rs=>by
  simp only[baP,baY,or_false] at hb
  subst hb
  simp only[bX.frz,bbK,bcM,T.frz]
  rfl)
 refine YR (vs:=[.agg [.int .i64 (1+e.1:Nat),w1,.osl qm 4 0 (1+md.1),w3,w4,w5,w6]]) (.inr rfl) (by simp -implicitDefEqProofs only[go_sem,δ,γ,f6]) (k4 _ _ (.done (H2:=PH.nil.set o (bF v vols.2)) ?_ (PH.aA PH.nil_le (k3.at 0 rfl))))
 rw[hR,hT]
 refine⟨CoL.agg ?_,rfl⟩
 have s5:=k1 (w5,17,jB pols.1) (by simp)
 have s1:=k1 (w1,4,fK laws.1) (by simp)
 have s2:=k1 (.osl qm 4 0 (1+md.1),4,gD models.1) (by simp)
 have s3:=k1 (w3,7,gI g.doms) (by simp)
 have s4:=k1 (w4,3,jI g.drvs) (by simp)
 have s6:=k1 (w6,2,kR vols.1) (by simp)
 have s0:φ (.int .i64 (1+e.1:Nat))=.int .i64 (1+e.1:Nat):=k2 _ rfl
 show CoL [φ (.int .i64 (1+e.1:Nat)),φ w1,φ (.osl qm 4 0 (1+md.1)),φ w3,φ w4,φ w5,φ w6] _
 rw[s0]
 exact CoL.cons (.refl _) (CoL.cons s1.co (CoL.cons s2.co (CoL.cons s3.co (CoL.cons s4.co (CoL.cons s5.co (CoL.cons s6.co .nil))))))
end Go.PM
namespace Go.PM
open Go Go.Na
structure aIA (C:Ctx):Prop extends aiC C where
 new:∀ (l:List Nat),(∀ x∈l,x<256)→l.length≤9223372036854775807→aJ C 28 [.sl 1 (hQ l)] .nil (aDX l)
 fleet:∀ (l:List Nat) (v:PV),Tp l v→∀ (o drives volumes a:Nat),drives≤60→volumes≤50→a≤l.length →
  aJ C 0 [.ptr o 2 0 0,.int .i64 drives,.int .i64 volumes] (PH.nil.set o (bF v a)) (fun r H=>r=.agg (fT l drives volumes a).1.cells∧H=PH.nil.set o (bF v (fT l drives volumes a).2))
theorem DU.exact {C:Ctx} {name:Nat} {args:List PV} {H:PH} {l:List Nat} {v:PV} {o drives volumes a:Nat} (h:aJ C name args H (DU l v o drives volumes a)):aJ C name args H (fun r H=>r=.agg (fT l drives volumes a).1.cells∧H=PH.nil.set o (bF v (fT l drives volumes a).2)) :=
 h.post fun r H' hr=>⟨_,hr.1,rfl,hr.2⟩
theorem aJU {C:Ctx} (Lb:aIA C) (l:List Nat) (hb:∀ x∈l,x<256) (hl:l.length≤9223372036854775807) (drives volumes:Nat) (hdr:drives≤60) (hvo:volumes≤50) :
  wJ.wp C (aZ FW.res (bW (.agg (fT (l.take 400) drives volumes 0).1.cells))) (PF.args [.sl 1 (hQ l),.int .i64 drives,.int .i64 volumes]) .nil:=by
 simp -implicitDefEqProofs only[go_sem,δ,wJ,abK,FW]
 refine aP fun o6 ho6=>?_
 simp -implicitDefEqProofs only[go_sem,reduceCtorEq,abL]
 refine mU (Lb.new l hb hl) rfl PH.nil_le ?_
 rintro r H' ⟨o,v,rfl,T,rfl⟩ ha
 have hne:¬ o6=o:=by
  intro e
  subst e
  have:=ha o6 (bF v 0) (by rw[aU,if_pos rfl]) rfl
  rw[aU,if_pos rfl] at this
  cases this
 rw[PH.lT]
 simp -implicitDefEqProofs only[go_sem,γ]
 refine jS (Lb.fleet _ v T o drives volumes 0 hdr hvo (baR _)) (by rw[aU,if_pos rfl]) rfl ?_
 simp -implicitDefEqProofs only[go_sem,δ,γ,hne]
 exact aY (vs:=[.agg (fT (l.take 400) drives volumes 0).1.cells]) (.inr rfl) .nil (by simp -implicitDefEqProofs only[go_sem,δ,γ]) PH.nil_le ⟨.refl _,rfl⟩
end Go.PM
namespace Go.PM
open Go Go.Na
theorem CoL.aGI:CoL [] []:=⟨rfl,fun j p q h=>by simp at h⟩
theorem CoL.jT {p q:PV} {ps qs:List PV} (h:Co p q) (hs:CoL ps qs):CoL (p::ps) (q::qs):=by
 refine⟨by simp[hs.len],fun j x y a b=>?_⟩
 cases j with
 | zero =>
  simp only[List.getElem?_cons_zero,bcJ.injEq] at a b
  subst a; subst b; exact h
 | succ j=>exact hs.at_ j x y (by simpa using a) (by simpa using b)
theorem aJ.amW {C:Ctx} {name:Nat} {R:PV→PH→Prop} {x y:PV} {s:Nat} (h:aJ C name [x,y,.sl s []] .nil R):aJ C name [x,y,.nils] .nil R :=
 h.args (.jT (.refl _) (.jT (.refl _) (.jT (.nil s) .aGI)))
theorem aJ.seen {C:Ctx} {name:Nat} {args:List PV} {H:PH} {v:PV} (h:aJ C name args H (bW v)):aJ C name args H (aK v) :=
 h.post fun r H' hr=>⟨v,hr.1,rfl,hr.2⟩
structure oO (C:Ctx):Prop where
 at_:∀ f:aI,f.Ok→∀ d level:Int,aJ C 147 [.agg f.cells,.int .i64 d,.int .i64 level] .nil (aK (.int .i64 (atP f d level)))
 child:∀ f:aI,f.Ok→∀ d:Int,aJ C 148 [.agg f.cells,.int .i64 d] .nil (aK (ints (gC f d)))
 drives:∀ f:aI,f.Ok→∀ d:Int,aJ C 149 [.agg f.cells,.int .i64 d] .nil (aK (ints (eX f d)))
 holds:∀ (f:aI) (l:List (List Int)) (room:List Int),f.Ok→jG l→aJ C 150 [.agg f.cells,lay l,ints room] .nil (aK (.bool (yK f l room)))
 loads:∀ (f:aI) (l:List (List Int)),f.Ok→jG l→aJ C 151 [.agg f.cells,lay l] .nil (aK (ints (anI f l)))
 room:∀ (f:aI) (room:List Int),f.Ok→aJ C 152 [.agg f.cells,ints room] .nil (aK (ints (UJ f room)))
 shaped:∀ (f:aI) (l:List (List Int)),f.Ok→jG l→aJ C 153 [.agg f.cells,lay l] .nil (aK (.bool (YU f l)))
 viol:∀ (f:aI) (l:List (List Int)) (room:List Int),f.Ok→jG l→aJ C 154 [.agg f.cells,lay l,ints room] .nil (aK (QS (nI f l room)))
 fleet:∀ (l:List Nat),(∀ x∈l,x<256)→l.length≤9223372036854775807→∀ drives volumes:Nat,drives≤60→volumes≤50 →
  aJ C 27 [.sl 1 (hQ l),.int .i64 drives,.int .i64 volumes] .nil (aK (.agg (fT (l.take 400) drives volumes 0).1.cells))
theorem XB {f:aI} {vs:List fF} (h:cL f=true) (hl:vs.length≤12) (hv:vs.all (kY f)=true) (hd:distinct (vs.map fF.name)=true):cL { f with volumes:=vs }=true:=by
 unfold cL at h ⊢
 simp only[bbB] at h ⊢
 obtain⟨⟨⟨h1,h2⟩,⟨⟨⟨h3,h4⟩,h5⟩,h6⟩,h7⟩,⟨⟨⟨h8,h9⟩,h10⟩,h11⟩,h12⟩:=h
 refine⟨⟨⟨?_,h2⟩,⟨⟨⟨h3,h4⟩,h5⟩,h6⟩,hv⟩,⟨⟨⟨h8,h9⟩,h10⟩,h11⟩,hd⟩
 unfold lY at h1 ⊢
 simp only[bbB] at h1 ⊢
 exact⟨h1.1,decide_eq_true hl⟩
theorem awK {f:aI} {vs:List fF} (h:f.Ok) (hl:vs.length≤12) (hv:∀ x∈vs,dQ x.policy):({ f with volumes:=vs }:aI).Ok :=
 ⟨h.laws,h.models,h.domains,h.drives,h.policies,show vs.length≤_ by omega,h.law,h.dom,h.drive,h.policy,hv⟩
noncomputable def jO:aI:={ (fT [] 1 0 0).1 with volumes:=[⟨[118,48],0⟩] }
theorem pM:cL jO=true:=XB (tJ [] 1 0 0 (by decide) (by decide)).1 (by decide) (by decide +kernel) (by decide +kernel)
theorem vC:jO.Ok:=awK (tJ [] 1 0 0 (by decide) (by decide)).2 (by decide) (fun x hx=>by
 rw[List.mem_singleton] at hx
 subst hx
 unfold dQ
 decide)
theorem aJO {C:Ctx} (L:oO C):wI.wp C (aZ FI.res (aK (.agg jO.cells))) (PF.args []) .nil:=by
 simp -implicitDefEqProofs only[go_sem,δ,wI,aaL,FI]
 refine aP fun o0 h0=>?_
 simp -implicitDefEqProofs only[go_sem,aaM]
 have h:=L.fleet [] (fun x hx=>by cases hx) (by decide) 1 0 (by decide) (by decide)
 refine aB (h.args (.jT (.nil 1) (.jT (.refl _) (.jT (.refl _) .aGI)))) rfl ?_
 simp -implicitDefEqProofs only[go_sem,δ]
 refine aP fun o1 h1=>?_
 have n1:¬ o0=o1:=by
  intro e
  subst e
  rw[aU,if_pos rfl] at h1
  cases h1
 have n2:¬ o1=o0:=fun e=>n1 e.symm
 simp -implicitDefEqProofs only[go_sem,δ,γ,reduceCtorEq,n1,n2]
 have h12:(1:Nat)*2≤16777216:=by decide
 simp -implicitDefEqProofs only[go_sem,υ,δ,γ,η,θ,ζ,reduceCtorEq,aaN,h12,n1,n2,baP,baY,or_false,forall_eq,aaO]
 refine bZ (.inr rfl) (vs:=[.agg jO.cells]) ?_ rfl
 simp -implicitDefEqProofs only[go_sem,δ,reduceCtorEq,n1,n2]
 rfl
theorem aRB:atP jO 0 4=4:=by
 unfold atP
 rw[if_pos ⟨pM,by decide,by decide +kernel,by decide,by decide⟩]
 decide +kernel
theorem asB:eX jO 0=[0]:=by
 unfold eX
 rw[if_pos ⟨pM,by decide,by decide +kernel⟩]
 decide +kernel
theorem aHD:(nI jO [[-1]] []).map gE.cells=[[.int .i64 2,.int .i64 0,.int .i64 0]]:=by
 unfold nI
 rw[if_pos pM,if_pos (by decide +kernel)]
 rfl
theorem awP:yK jO [[0]] []=true:=by
 unfold yK nI
 rw[pM,if_pos rfl,if_pos (by decide +kernel)]
 decide +kernel
def yP:aI:=⟨0,[],[],[],[],[],[]⟩
theorem aGP:yP.Ok:=⟨by decide,by decide,by decide,by decide,by decide,by decide,(fun _ h=>by cases h),(fun _ h=>by cases h),(fun _ h=>by cases h),(fun _ h=>by cases h),(fun _ h=>by cases h)⟩
theorem ahF:yK yP [] []=false:=rfl
theorem aGO:Co (.agg [.int .i64 0,.nils,.nils,.nils,.nils,.nils,.nils]) (.agg yP.cells):=by
 have:CoL [.int .i64 0,.nils,.nils,.nils,.nils,.nils,.nils] yP.cells :=
  .jT (.refl _) (.jT (.nil _) (.jT (.nil _) (.jT (.nil _) (.jT (.nil _) (.jT (.nil _) (.jT (.nil _) .aGI))))))
 exact .agg this.len this.at_
theorem wF {l:List (List Int)} (h:l.length≤16777216) (h2:l.flatten.length≤16777216):jG l:=⟨h,h2⟩
theorem aJG {C:Ctx} (L:oO C) (hs:aJ C 23 [] .nil (aK (.agg jO.cells))):wE.wp C (aZ FG.res (aK (.bool true))) (PF.args []) .nil:=by
 simp -implicitDefEqProofs only[go_sem,wE,aaB,aaC,FG]
 refine aB hs rfl ?_
 simp -implicitDefEqProofs only[go_sem,δ]
 refine aP fun o1 h1=>?_
 have h12:(1:Nat)*1≤16777216:=by decide
 have hv:=L.viol jO [[-1]] [] vC (wF (by decide) (by decide))
 have hh:=L.holds jO [[0]] [] vC (wF (by decide) (by decide))
 have hn:=L.holds yP [] [] aGP (wF (by decide) (by decide))
 rw[awP] at hh
 rw[ahF] at hn
 rw[show QS (nI jO [[-1]] [])=.sl 3 [[.int .i64 2,.int .i64 0,.int .i64 0]] from by unfold QS; rw[aHD]] at hv
 simp -implicitDefEqProofs only[go_sem,ο,υ,δ,γ,η,ζ,reduceCtorEq,aaD,h12]
 refine aB hv.amW rfl ?_
 have c1:(((1:Nat):Int)==1)=true:=rfl
 have ha:=L.at_ jO vC 0 4
 rw[aRB] at ha
 have hd:=L.drives jO vC 0
 rw[asB] at hd
 simp -implicitDefEqProofs only[go_sem,ο,δ,γ,reduceCtorEq,aaE]
 refine aB ha rfl ?_
 simp -implicitDefEqProofs only[go_sem,ρ,ο,δ,γ,reduceCtorEq]
 refine aB hd rfl ?_
 simp -implicitDefEqProofs only[go_sem,ρ,ο,ν,υ,δ,γ,η,θ,ζ,reduceCtorEq,h12,c1]
 refine aB hh.amW rfl ?_
 simp -implicitDefEqProofs only[go_sem,ο,γ,reduceCtorEq]
 refine aB (hn.args (.jT aGO (.jT (.nil 1) (.jT (.nil 1) .aGI)))) rfl ?_
 simp -implicitDefEqProofs only[go_sem,ο,γ,reduceCtorEq]
 refine bZ (.inr rfl) rfl ?_
 rfl
end Go.PM
namespace Go.PM
open Go
def agG:Rg:=[iA 4 (.mv (.const .nils))]
def agH:Rg:=[iA 5 (.mv (.const .nils))]
def agI:Rg:=[iA 6 (.mv (.const (.int .u64 0)))]
def agJ:Rg:=[iI 7 0]
def agK:Rg:=[iM 10 7,iM 11 0,iN 12 11,iB 13 .lss 10 12]
def agL:Rg:=[iM 16 6,iM 8 16]
def agM:Rg:=[iM 17 7,iM 18 1,iN 19 18,iB 20 .lss 17 19]
def agN:Rg:=[iM 21 8,iM 22 1,iM 23 7,iX 24 1 22 23,iL 25 24,iA 26 (.conv .u64 (Tm 25)),iB 27 .add 21 26,iM 8 27]
def IY:Rg:=[iM 28 0,iM 29 7,iX 30 1 28 29,iL 31 30,iA 32 (.conv .u64 (Tm 31)),iM 9 32]
def IZ:Rg:=[iA 6 (.mv (.const (.int .u64 0)))]
def CU:Rg:=[iM 33 9,iM 34 8,iB 35 .lss 33 34]
def CV:Rg:=[iM 36 9,iA 37 (.bin .add (Tm 36) (.const (.int .u64 4294967296))),iM 9 37]
def CW:Rg:=[iA 6 (.mv (.const (.int .u64 1)))]
def sP:Rg:=[iM 38 5,iM 39 9,iM 40 8,iB 41 .sub 39 40,iA 42 (.conv .u32 (Tm 41)),iA 43 (.bslice true 1 1 [(.int .u32 0)] [(0,(Tm 42))]),iA 44 (.append 1 4 (Tm 38) (Tm 43)),iM 5 44]
def sQ:Rg:=[iM 14 7,iC 15 .add 14 1,iM 7 15]
def WA:aC:=(.seq (.seq (.region agK) (.cond (Tm 13) .skip (.exit 0))) (.seq (.block 1 (.seq (.region agL) (.seq (.seq (.region agM) (.cond (Tm 20) (.region agN) .skip)) (.seq (.region IY) (.seq (.region IZ) (.seq (.seq (.region CU) (.cond (Tm 35) (.seq (.region CV) (.region CW)) .skip)) (.region sP))))))) (.region sQ)))
def WB:Rg:=[iM 45 5,iA 46 (.call 38 [(Tm 45)]),iM 4 46]
def xY:aC:=(.seq (.region agG) (.seq (.region agH) (.seq (.region agI) (.seq (.seq (.region agJ) (.block 0 (.loop WA))) (.seq (.region WB) .ret)))))
def aNE:List Nat:=[43]
def IX:bD:=⟨2,47,xY,[.tmp 4]⟩
def auV:Rg:=[iA 4 (.mv (.const .nils))]
def auW:Rg:=[iA 5 (.mv (.const .nils))]
def auX:Rg:=[iA 6 (.mv (.const (.int .u64 0)))]
def auY:Rg:=[iI 7 0]
def auZ:Rg:=[iM 9 7,iM 10 0,iN 11 10,iB 12 .lss 9 11,iM 13 12,iG 14 (.mv (Tm 7)) 13 false,iG 15 (.mv (Tm 1)) 13 false,iG 16 (.len (Tm 15)) 13 false,iG 17 (.bin .lss (Tm 14) (Tm 16)) 13 false,iA 18 (.pick (Tm 13) (.const (.bool true)) (Tm 17)),iM 19 18,iG 20 (.mv (Tm 6)) 19 false,iG 21 (.bin .gtr (Tm 20) (.const (.int .u64 0))) 19 false,iA 22 (.pick (Tm 19) (.const (.bool true)) (Tm 21))]
def QN:Rg:=[iM 25 6,iM 8 25]
def QO:Rg:=[iM 26 7,iM 27 0,iN 28 27,iB 29 .lss 26 28]
def QP:Rg:=[iM 30 8,iM 31 0,iM 32 7,iX 33 1 31 32,iL 34 33,iA 35 (.conv .u64 (Tm 34)),iB 36 .add 30 35,iM 8 36]
def CY:Rg:=[iM 37 7,iM 38 1,iN 39 38,iB 40 .lss 37 39]
def CZ:Rg:=[iM 41 8,iM 42 1,iM 43 7,iX 44 1 42 43,iL 45 44,iA 46 (.conv .u64 (Tm 45)),iB 47 .add 41 46,iM 8 47]
def vO:Rg:=[iM 48 5,iM 49 8,iA 50 (.conv .u32 (Tm 49)),iA 51 (.bslice true 1 1 [(.int .u32 0)] [(0,(Tm 50))]),iA 52 (.append 1 4 (Tm 48) (Tm 51)),iM 5 52]
def vP:Rg:=[iM 53 8,iA 54 (.bin .shr (Tm 53) (.const (.int .u64 32))),iM 6 54]
def vQ:Rg:=[iM 23 7,iC 24 .add 23 1,iM 7 24]
def agO:aC:=(.seq (.seq (.region auZ) (.cond (Tm 22) .skip (.exit 0))) (.seq (.block 1 (.seq (.region QN) (.seq (.seq (.region QO) (.cond (Tm 29) (.region QP) .skip)) (.seq (.seq (.region CY) (.cond (Tm 40) (.region CZ) .skip)) (.seq (.region vO) (.region vP)))))) (.region vQ)))
def JC:Rg:=[iM 55 5,iA 56 (.call 38 [(Tm 55)]),iM 4 56]
def CX:aC:=(.seq (.region auV) (.seq (.region auW) (.seq (.region auX) (.seq (.seq (.region auY) (.block 0 (.loop agO))) (.seq (.region JC) .ret)))))
def aSG:List Nat:=[51]
def WD:bD:=⟨2,57,CX,[.tmp 4]⟩
def agP:Rg:=[iA 4 (.mv (.const .nils))]
def agQ:Rg:=[iM 10 0,iN 11 10,iM 12 1,iN 13 12,iB 14 .add 11 13,iA 15 (.mkslice 1 4 [(.int .u32 0)] (Tm 14) (Tm 14)),iM 5 15]
def agR:Rg:=[iI 6 0]
def agS:Rg:=[iM 16 6,iM 17 0,iN 18 17,iB 19 .lss 16 18]
def JF:Rg:=[iA 7 (.mv (.const (.int .u64 0)))]
def JG:Rg:=[iI 8 0]
def agT:Rg:=[iM 22 8,iM 23 1,iN 24 23,iB 25 .lss 22 24]
def agU:Rd:=[(iM 28 0,false),(iM 29 6,false),(iX 30 1 28 29,false),(iL 31 30,false),(iA 32 (.conv .u64 (Tm 31)),false),(iM 33 1,false),(iM 34 8,false),(iX 35 1 33 34,false),(iL 36 35,false),(iA 37 (.conv .u64 (Tm 36)),false),(iB 38 .mul 32 37,false),(iM 39 5,false),(iM 40 6,false),(iM 41 8,false),(iB 42 .add 40 41,false),(iX 43 1 39 42,false),(iL 44 43,false),(iA 45 (.conv .u64 (Tm 44)),false),(iB 46 .add 38 45,false),(iM 47 7,false),(iB 48 .add 46 47,false),(iM 9 48,false)]
def agV:Rg:=[iM 49 5,iM 50 6,iM 51 8,iB 52 .add 50 51,iM 53 9,iA 54 (.conv .u32 (Tm 53)),iX 55 1 49 52,iS 1 55 54]
def agW:Rg:=[iM 56 9,iA 57 (.bin .shr (Tm 56) (.const (.int .u64 32))),iM 7 57]
def WF:Rg:=[iM 26 8,iC 27 .add 26 1,iM 8 27]
def DA:aC:=(.seq (.seq (.region agT) (.cond (Tm 25) .skip (.exit 2))) (.seq (.block 3 (.seq (.draw agU) (.seq (.region agV) (.region agW)))) (.region WF)))
def DB:Rg:=[iM 58 5,iM 59 6,iM 60 1,iN 61 60,iB 62 .add 59 61,iM 63 7,iA 64 (.conv .u32 (Tm 63)),iX 65 1 58 62,iS 1 65 64]
def WG:Rg:=[iM 20 6,iC 21 .add 20 1,iM 6 21]
def WE:aC:=(.seq (.seq (.region agS) (.cond (Tm 19) .skip (.exit 0))) (.seq (.block 1 (.seq (.region JF) (.seq (.seq (.region JG) (.block 2 (.loop DA))) (.region DB)))) (.region WG)))
def WH:Rg:=[iM 66 5,iA 67 (.call 38 [(Tm 66)]),iM 4 67]
def xZ:aC:=(.seq (.region agP) (.seq (.region agQ) (.seq (.seq (.region agR) (.block 0 (.loop WE))) (.seq (.region WH) .ret))))
def aNI:List Nat:=[]
def JE:bD:=⟨2,68,xZ,[.tmp 4]⟩
def aWG:Rg:=[iA 4 (.mv (.const .nils)),iI 5 0]
def aWH:Rg:=[iM 7 0,iA 8 (.call 41 [(Tm 7)]),iM 9 8,iG 10 (.mv (Tm 1)) 9 false,iG 11 (.call 41 [(Tm 10)]) 9 false,iA 12 (.pick (Tm 9) (.const (.bool true)) (Tm 11))]
def aWI:Rg:=[iA 4 (.mv (.const .nils)),iI 5 2]
def aWJ:Rg:=[iM 13 0,iA 14 (.call 38 [(Tm 13)]),iM 15 1,iA 16 (.call 38 [(Tm 15)]),iA 17 (.call 43 [(Tm 14),(Tm 16)]),iM 6 17]
def aWK:Rg:=[iM 18 6,iA 19 (.call 41 [(Tm 18)])]
def aWL:Rg:=[iA 4 (.mv (.const .nils)),iI 5 2]
def aWM:Rg:=[iM 20 6,iM 4 20,iI 5 0]
def aMY:aC:=(.seq (.region aWG) (.seq (.seq (.region aWH) (.cond (Tm 12) (.seq (.region aWI) .ret) .skip)) (.seq (.region aWJ) (.seq (.seq (.region aWK) (.cond (Tm 19) (.seq (.region aWL) .ret) .skip)) (.seq (.region aWM) .ret)))))
def aWN:List Nat:=[]
def aRR:bD:=⟨2,21,aMY,[.tmp 4,.tmp 5]⟩
def aXE:Rg:=[iA 4 (.mv (.const .nils)),iI 5 0]
def aXF:Rg:=[iM 6 0,iA 7 (.call 41 [(Tm 6)]),iM 8 7,iG 9 (.mv (Tm 1)) 8 false,iG 10 (.call 41 [(Tm 9)]) 8 false,iA 11 (.pick (Tm 8) (.const (.bool true)) (Tm 10))]
def aXG:Rg:=[iA 4 (.mv (.const .nils)),iI 5 2]
def aXH:Rg:=[iM 12 0,iM 13 1,iA 14 (.call 32 [(Tm 12),(Tm 13)]),iC 15 .lss 14 0]
def aXI:Rg:=[iA 4 (.mv (.const .nils)),iI 5 4]
def aXJ:Rg:=[iM 16 0,iA 17 (.call 38 [(Tm 16)]),iM 18 1,iA 19 (.call 38 [(Tm 18)]),iA 20 (.call 42 [(Tm 17),(Tm 19)]),iM 4 20,iI 5 0]
def aNG:aC:=(.seq (.region aXE) (.seq (.seq (.region aXF) (.cond (Tm 11) (.seq (.region aXG) .ret) .skip)) (.seq (.seq (.region aXH) (.cond (Tm 15) (.seq (.region aXI) .ret) .skip)) (.seq (.region aXJ) .ret))))
def aXK:List Nat:=[]
def aSI:bD:=⟨2,21,aNG,[.tmp 4,.tmp 5]⟩
def aWU:Rg:=[iA 4 (.mv (.const .nils)),iI 5 0]
def aWV:Rg:=[iM 7 0,iA 8 (.call 41 [(Tm 7)]),iM 9 8,iG 10 (.mv (Tm 1)) 9 false,iG 11 (.call 41 [(Tm 10)]) 9 false,iA 12 (.pick (Tm 9) (.const (.bool true)) (Tm 11))]
def aWW:Rg:=[iA 4 (.mv (.const .nils)),iI 5 2]
def aWX:Rg:=[iM 13 0,iA 14 (.call 38 [(Tm 13)]),iM 15 1,iA 16 (.call 38 [(Tm 15)]),iA 17 (.call 44 [(Tm 14),(Tm 16)]),iM 6 17]
def aWY:Rg:=[iM 18 6,iA 19 (.call 41 [(Tm 18)])]
def aWZ:Rg:=[iA 4 (.mv (.const .nils)),iI 5 2]
def aXA:Rg:=[iM 20 6,iM 4 20,iI 5 0]
def aNF:aC:=(.seq (.region aWU) (.seq (.seq (.region aWV) (.cond (Tm 12) (.seq (.region aWW) .ret) .skip)) (.seq (.region aWX) (.seq (.seq (.region aWY) (.cond (Tm 19) (.seq (.region aWZ) .ret) .skip)) (.seq (.region aXA) .ret)))))
def aXB:List Nat:=[]
def aSA:bD:=⟨2,21,aNF,[.tmp 4,.tmp 5]⟩
def atT:Rg:=[iI 2 0]
def atU:Rg:=[iM 5 0,iA 6 (.call 38 [(Tm 5)]),iM 0 6]
def atV:Rg:=[iM 7 0,iN 8 7,iC 9 .eql 8 0]
def atW:Rg:=[iI 2 0]
def atX:Rg:=[iM 10 0,iN 11 10,iC 12 .sub 11 1,iA 13 (.bin .mul (Ci 32) (Tm 12)),iM 3 13]
def atY:Rg:=[iM 14 0,iM 15 0,iN 16 15,iC 17 .sub 16 1,iX 18 1 14 17,iL 19 18,iM 4 19]
def atZ:Rg:=[iM 20 4,iA 21 (.bin .gtr (Tm 20) (.const (.int .u32 0)))]
def auA:Rg:=[iM 24 3,iC 25 .add 24 1,iM 3 25]
def auB:Rg:=[iM 22 4,iA 23 (.bin .quo (Tm 22) (.const (.int .u32 2))),iM 4 23]
def atS:aC:=(.seq (.seq (.region atZ) (.cond (Tm 21) .skip (.exit 0))) (.seq (.block 1 (.region auA)) (.region auB)))
def agB:Rg:=[iM 26 3,iM 2 26]
def CN:aC:=(.seq (.region atT) (.seq (.region atU) (.seq (.seq (.region atV) (.cond (Tm 9) (.seq (.region atW) .ret) .skip)) (.seq (.region atX) (.seq (.seq (.region atY) (.block 0 (.loop atS))) (.seq (.region agB) .ret))))))
def aRT:List Nat:=[]
def VQ:bD:=⟨1,27,CN,[.tmp 2]⟩
def aNJ:Rg:=[iA 4 (.mv (.const .nils))]
def aNK:Rg:=[iM 9 0,iN 10 9,iC 11 .eql 10 0]
def aNL:Rg:=[iA 4 (.mv (.const .nils))]
def aNM:Rg:=[iM 12 1,iC 13 .quo 12 32,iA 14 (.mkslice 1 4 [(.int .u32 0)] (Tm 13) (Tm 13)),iM 5 14]
def aNN:Rg:=[iA 6 (.mv (.const (.int .u64 0)))]
def aNO:Rg:=[iI 7 0]
def aNP:Rg:=[iM 15 7,iM 16 0,iN 17 16,iB 18 .lss 15 17]
def aNQ:Rg:=[iM 21 0,iM 22 7,iX 23 1 21 22,iL 24 23,iA 25 (.conv .u64 (Tm 24)),iM 26 1,iC 27 .rem 26 32,iA 28 (.conv .u64 (Tm 27)),iB 29 .shl 25 28,iM 30 6,iB 31 .or 29 30,iM 8 31]
def aNR:Rg:=[iM 32 5,iM 33 8,iA 34 (.conv .u32 (Tm 33)),iA 35 (.bslice true 1 1 [(.int .u32 0)] [(0,(Tm 34))]),iA 36 (.append 1 4 (Tm 32) (Tm 35)),iM 5 36]
def aNS:Rg:=[iM 37 8,iA 38 (.bin .shr (Tm 37) (.const (.int .u64 32))),iM 6 38]
def aDR:Rg:=[iM 19 7,iC 20 .add 19 1,iM 7 20]
def aDQ:aC:=(.seq (.seq (.region aNP) (.cond (Tm 18) .skip (.exit 0))) (.seq (.block 1 (.seq (.region aNQ) (.seq (.region aNR) (.region aNS)))) (.region aDR)))
def aDS:Rg:=[iM 39 5,iM 40 6,iA 41 (.conv .u32 (Tm 40)),iA 42 (.bslice true 1 1 [(.int .u32 0)] [(0,(Tm 41))]),iA 43 (.append 1 4 (Tm 39) (Tm 42)),iA 44 (.call 38 [(Tm 43)]),iM 4 44]
def QR:aC:=(.seq (.region aNJ) (.seq (.seq (.region aNK) (.cond (Tm 11) (.seq (.region aNL) .ret) .skip)) (.seq (.region aNM) (.seq (.region aNN) (.seq (.seq (.region aNO) (.block 0 (.loop aDQ))) (.seq (.region aDS) .ret))))))
def aZG:List Nat:=[35,42]
def uup:bD:=⟨2,45,QR,[.tmp 4]⟩
def auI:Rg:=[iA 4 (.mv (.const .nils))]
def auJ:Rg:=[iM 8 1,iC 9 .quo 8 32,iM 10 0,iN 11 10,iB 12 .geq 9 11]
def auK:Rg:=[iA 4 (.mv (.const .nils))]
def auL:Rg:=[iA 5 (.mv (.const .nils))]
def auM:Rg:=[iM 13 1,iC 14 .quo 13 32,iM 6 14]
def auN:Rg:=[iM 15 6,iM 16 0,iN 17 16,iB 18 .lss 15 17]
def auO:Rg:=[iM 21 0,iM 22 6,iX 23 1 21 22,iL 24 23,iA 25 (.conv .u64 (Tm 24)),iM 7 25]
def auP:Rg:=[iM 26 6,iC 27 .add 26 1,iM 28 0,iN 29 28,iB 30 .lss 27 29]
def auQ:Rg:=[iM 31 7,iM 32 0,iM 33 6,iC 34 .add 33 1,iX 35 1 32 34,iL 36 35,iA 37 (.conv .u64 (Tm 36)),iA 38 (.bin .shl (Tm 37) (.const (.int .u64 32))),iB 39 .or 31 38,iM 7 39]
def QM:Rg:=[iM 40 5,iM 41 7,iM 42 1,iC 43 .rem 42 32,iA 44 (.conv .u64 (Tm 43)),iB 45 .shr 41 44,iA 46 (.conv .u32 (Tm 45)),iA 47 (.bslice true 1 1 [(.int .u32 0)] [(0,(Tm 46))]),iA 48 (.append 1 4 (Tm 40) (Tm 47)),iM 5 48]
def IU:Rg:=[iM 19 6,iC 20 .add 19 1,iM 6 20]
def agC:aC:=(.seq (.seq (.region auN) (.cond (Tm 18) .skip (.exit 0))) (.seq (.block 1 (.seq (.region auO) (.seq (.seq (.region auP) (.cond (Tm 30) (.region auQ) .skip)) (.region QM)))) (.region IU)))
def agD:Rg:=[iM 49 5,iA 50 (.call 38 [(Tm 49)]),iM 4 50]
def CR:aC:=(.seq (.region auI) (.seq (.seq (.region auJ) (.cond (Tm 12) (.seq (.region auK) .ret) .skip)) (.seq (.region auL) (.seq (.seq (.region auM) (.block 0 (.loop agC))) (.seq (.region agD) .ret)))))
def aRX:List Nat:=[47]
def VY:bD:=⟨2,51,CR,[.tmp 4]⟩
end Go.PM
namespace Go.PM
open Go Go.Na
theorem mN (P:List Nat) (v:Nat):aE P++[[.int .u32 (v:Int)]]=aE (P++[v]):=by simp[aE]
theorem mM {P:List Nat} (h:P.length≤16777216):roomFor (aE P).length 1 4:=by
 unfold roomFor
 rw[bN]
 simp only[maxLen]; omega
def KM (a b:List Nat) (v:PV) (c i:Nat):PF:=(((((PF.nil.set 0 (aF a)).set 1 (aF b)).set 5 (v)).set 6 (.int .u64 c)).set 7 (.int .i64 i))
theorem aND {C:Ctx} (L:mE C) (a b:List Nat) (ha:Lim a) (hb:Lim b) (hle:val b≤val a) (hl:b.length≤a.length) (h1:a.length≤16777216) :
  xY.wp C (aZ IX.res (bW (aF (aG (val a-val b))))) (PF.args [aF a,aF b]) .nil:=by
 simp -implicitDefEqProofs only[go_sem,xY,agG,agH,agI,agJ,IX]
 refine wp_loop (α:=List Nat × Nat × PV × PH) (fun s=>KM a b s.2.2.1 s.2.1 s.1.length) (fun s=>s.2.2.2)
  (fun s=>s.1.length≤a.length∧Lim s.1∧s.2.1≤1∧val (a.take s.1.length)+4294967296 ^ s.1.length*s.2.1=val s.1+val (b.take s.1.length)∧bA s.2.2.2 1 s.2.2.1 (aE s.1)) (fun s=>a.length-s.1.length) ([],0,.nils,.nil) ⟨by simp,by simp[Lim],by simp,by simp[val],.nil⟩ ?_ PH.nil_le ?_
 ·unfold KM
  (repeat' (first|exact PF.nil_le|refine PF.aA ?_ ?_))<;>first|(simp -implicitDefEqProofs only[go_sem,γ,reduceCtorEq]<;>rfl)|rfl
 rintro⟨P,c,v,H0⟩ ⟨hP,hLim,hc,hval,hO⟩
 simp only at hP hLim hc hval hO ⊢
 simp -implicitDefEqProofs only[go_sem,γ,reduceCtorEq,WA,agK,KM]
 by_cases c1:P.length<a.length
 ·have c1':(P.length:Int)<(a.length:Nat):=by omega
  have hai:=ha _ (baN c1)
  have hta:=bQ a c1
  have hac:(aE a)[P.length]?=some [.int .u32 ((a[P.length]:Nat):Int)]:=bJ a c1
  generalize hx:a[P.length]=x at *
  have ex:IntKind.u64.wrap ((x:Nat):Int)=((x:Nat):Int):=aW (by omega)
  have fin:∀ (t:Nat) (F':PF),t<4294967296→val (b.take (P.length+1))=val (b.take P.length)+4294967296 ^ P.length*t →
    F' 0=some (aF a)→F' 1=some (aF b)→F' 5=some v→F' 8=some (.int .u64 (c+t:Nat))→F' 7=some (.int .i64 P.length) →
    ∀ K:cD,(∀ P' c' v' F2 H2,P'.length=P.length+1→Lim P'→c'≤1→val (a.take (P.length+1))+4294967296 ^ P'.length*c'=val P'+val (b.take (P.length+1))→(KM a b v' c' P'.length).le F2→bA H2 1 v' (aE P')→K .normal F2 H2) →
    aC.wp C (.seq (.region IY) (.seq (.region IZ) (.seq (.seq (.region CU) (.cond (.tmp 35) (.seq (.region CV) (.region CW)) .skip)) (.region sP)))) (eO 1 (kE C (aC.wp C (.region sQ)) K)) F' H0:=by
   intro t F' ht htb g0 g1 g5 g8 g7 K hK
   have step:∀ (d c':Nat),d<4294967296→c'≤1→x+4294967296*c'=d+(c+t)→val (a.take (P.length+1))+4294967296 ^ (P.length+1)*c'=val (P++[d])+val (b.take (P.length+1)):=by
    intro d c' hd hc' he
    have h2:4294967296 ^ P.length*(x+4294967296*c')=4294967296 ^ P.length*(d+(c+t)):=by rw[he]
    rw[baO,baO,baO] at h2
    rw[fX,bbS,baX,hta,htb]
    omega
   simp -implicitDefEqProofs only[go_sem,γ,IY,g0,g7,hac,ex,IZ,CU,g8]
   by_cases c2:x<c+t
   ·have c2':((x:Nat):Int)<((c+t:Nat):Int):=by omega
    have e1:IntKind.u64.wrap ((x:Int)+4294967296)=((x+4294967296:Nat):Int):=by
     rw[show (x:Int)+4294967296=((x+4294967296:Nat):Int) by omega]
     exact aW (by omega)
    have e2:IntKind.u64.wrap (((x+4294967296:Nat):Int)-((c+t:Nat):Int))=((x+4294967296-(c+t):Nat):Int):=by
     rw[show ((x+4294967296:Nat):Int)-((c+t:Nat):Int)=((x+4294967296-(c+t):Nat):Int) by omega]
     exact aW (by omega)
    have e3:IntKind.u32.wrap ((x+4294967296-(c+t):Nat):Int)=((x+4294967296-(c+t):Nat):Int):=by
     rw[bV,bbH (by omega)]
    have hb1:(1:Nat)*1≤16777216:=by decide
    simp -implicitDefEqProofs only[go_sem,υ,γ,η,ζ,c2',CV,e1,CW,sP,g5,g8,e2,e3,hb1]
    refine eZ (src:=[[.int .u32 ((x+4294967296-(c+t):Nat):Int)]]) hO rfl (mM (by omega)) fun v' H' hO' _=>?_
    rw[mN] at hO'
    simp -implicitDefEqProofs only[go_sem,γ,sQ,g7,aL (show P.length<9223372036854775807 by omega)]
    refine hK _ 1 v' _ H' (by simp) (hLim.app fun y hy=>by simp at hy; subst hy; omega) (baJ _) ?_ ?_ hO'
    ·rw[baI,baL]
     exact step _ 1 (by omega) (baJ _) (by omega)
    ·unfold KM
     rw[baI,baL]
     repeat' first|exact PF.nil_le|refine PF.aA ?_ ?_|rfl|assumption
   ·have c2':¬ ((x:Nat):Int)<((c+t:Nat):Int):=by omega
    have e2:IntKind.u64.wrap (((x:Nat):Int)-((c+t:Nat):Int))=((x-(c+t):Nat):Int):=by
     rw[show ((x:Nat):Int)-((c+t:Nat):Int)=((x-(c+t):Nat):Int) by omega]
     exact aW (by omega)
    have e3:IntKind.u32.wrap ((x-(c+t):Nat):Int)=((x-(c+t):Nat):Int):=by
     rw[bV,bbH (by omega)]
    have hb1:(1:Nat)*1≤16777216:=by decide
    simp -implicitDefEqProofs only[go_sem,υ,γ,η,ζ,c2',sP,g5,g8,e2,e3,hb1]
    refine eZ (src:=[[.int .u32 ((x-(c+t):Nat):Int)]]) hO rfl (mM (by omega)) fun v' H' hO' _=>?_
    rw[mN] at hO'
    simp -implicitDefEqProofs only[go_sem,γ,sQ,g7,aL (show P.length<9223372036854775807 by omega)]
    refine hK _ 0 v' _ H' (by simp) (hLim.app fun y hy=>by simp at hy; subst hy; omega) (by decide) ?_ ?_ hO'
    ·rw[baI,baL]
     exact step _ 0 (by omega) (by decide) (by omega)
    ·unfold KM
     rw[baI,baL]
     repeat' first|exact PF.nil_le|refine PF.aA ?_ ?_|rfl|assumption
  simp only[aC.wp,go_sem] at fin
  simp -implicitDefEqProofs only[go_sem,γ,reduceCtorEq,c1',agL,agM]
  by_cases c3:P.length<b.length
  ·have c3':(P.length:Int)<(b.length:Nat):=by omega
   have hbi:=hb _ (baN c3)
   have htb:=bQ b c3
   have eb:IntKind.u64.wrap ((b[P.length]:Nat):Int)=((b[P.length]:Nat):Int):=aW (by omega)
   have es:IntKind.u64.wrap ((c:Int)+(b[P.length]:Int))=((c+b[P.length]:Nat):Int):=dZ (by omega)
   simp -implicitDefEqProofs only[go_sem,γ,reduceCtorEq,c3',agN,bJ b c3,eb,es]
   refine fin b[P.length] _ hbi htb rfl rfl rfl rfl rfl _ ?_
   intro P' c' v' F2 H2 e1 e2 e3 e4 e5 e6
   rw[← e1] at e4
   exact aH (α:=List Nat × Nat × PV × PH) (P',c',v',H2) ⟨by simp only; omega,e2,e3,e4,e6⟩ (by simp only; omega) e5 PH.le_refl
  ·have c3':¬ (P.length:Int)<(b.length:Nat):=by omega
   have htb:val (b.take (P.length+1))=val (b.take P.length)+4294967296 ^ P.length*0:=by rw[baS (by omega),baS (by omega)]; simp
   simp -implicitDefEqProofs only[go_sem,c3']
   refine fin 0 _ (by decide) htb rfl rfl rfl rfl rfl _ ?_
   intro P' c' v' F2 H2 e1 e2 e3 e4 e5 e6
   rw[← e1] at e4
   exact aH (α:=List Nat × Nat × PV × PH) (P',c',v',H2) ⟨by simp only; omega,e2,e3,e4,e6⟩ (by simp only; omega) e5 PH.le_refl
 ·have e:P.length=a.length:=by omega
  have c1':¬ (P.length:Int)<(a.length:Nat):=by omega
  have hV:val P=val a-val b:=by
   rw[e,bbP,baS hl] at hval
   have hlt:=dY hLim
   rw[e] at hlt
   rcases bcB c with h | h
   ·subst h; omega
   ·have:c=1:=by omega
    subst this; omega
  simp -implicitDefEqProofs only[go_sem,γ,reduceCtorEq,c1',WB]
  have hs:=L.trim _ hLim (by omega)
  rw[hV] at hs
  refine pQ hs hO rfl fun F1 H1 _=>?_
  simp -implicitDefEqProofs only[go_sem]
  exact aY (.inr rfl) .nil rfl PH.nil_le ⟨.refl _,rfl⟩
end Go.PM
namespace Go.PM
open Go Go.Na
def nT (a b:List Nat) (o i:Nat):PF:=((((PF.nil.set 0 (aF a)).set 1 (aF b)).set 5 (.osl o 1 0 (a.length+b.length))).set 6 (.int .i64 i))
def utG (a b:List Nat) (o i c j:Nat):PF:=((((((PF.nil.set 0 (aF a)).set 1 (aF b)).set 5 (.osl o 1 0 (a.length+b.length))).set 6 (.int .i64 i)).set 7 (.int .u64 c)).set 8 (.int .i64 j))
theorem aHR {C:Ctx} (a b:List Nat) (ha:Lim a) (hb:Lim b) (h1:a.length≤16777216) (h2:b.length≤16777216) (L:List Nat) (i:Nat) (hi:i<a.length) (hI:yB a b L i) (q:Nat) (K:cD) (F:PF) (H:PH) (hF:(nT a b q i).le F) (hH:H q=some (.rows 1 (aE L)))
  (hK:∀ L' F' H',yB a b L' (i+1)→(nT a b q i).le F'→H' q=some (.rows 1 (aE L'))→K .normal F' H') :
  aC.wp C (.block 1 (.seq (.region JF) (.seq (.seq (.region JG) (.block 2 (.loop DA))) (.region DB)))) K F H:=by
 have f0:=hF 0 _ (by unfold nT; simp -implicitDefEqProofs only[go_sem,reduceCtorEq]; rfl)
 have f1:=hF 1 _ (by unfold nT; simp -implicitDefEqProofs only[go_sem,γ,reduceCtorEq]; rfl)
 have f5:=hF 5 _ (by unfold nT; simp -implicitDefEqProofs only[go_sem,γ,reduceCtorEq]; rfl)
 have f6:=hF 6 _ (by unfold nT; simp -implicitDefEqProofs only[go_sem,γ,reduceCtorEq]; rfl)
 have hx:=ha _ (baN hi)
 have hta:=bQ a hi
 generalize hxe:a[i]=x at *
 have hax:(aE a)[i]?=some [.int .u32 ((x:Nat):Int)]:=by rw[bJ a hi,hxe]
 simp -implicitDefEqProofs only[go_sem,JF,JG]
 refine wp_loop (α:=List Nat × Nat × Nat) (fun t=>utG a b q i t.2.1 t.2.2) (fun t=>PH.nil.set q (.rows 1 (aE t.1)))
  (fun t=>t.2.2≤b.length∧t.1.length=a.length+b.length∧Lim t.1∧t.2.1<4294967296∧val t.1+4294967296 ^ (i+t.2.2)*t.2.1=val (a.take i)*val b+4294967296 ^ i*(x*val (b.take t.2.2))∧∀ j y,i+b.length≤j→t.1[j]?=some y→y=0) (fun t=>b.length-t.2.2) (L,0,0)
  ⟨by simp,hI.len,hI.lim,by simp,by simp[val,hI.v],hI.z⟩ ?_ (PH.aA PH.nil_le hH) ?_
 ·unfold utG
  repeat' first|exact PF.nil_le|refine PF.aA ?_ ?_|rfl|assumption
 rintro⟨M,c,j⟩ ⟨hj,hM,hLim,hc,hval,hz⟩
 simp only at hj hM hLim hc hval hz
 simp -implicitDefEqProofs only[go_sem,γ,reduceCtorEq,DA,agT,utG]
 by_cases c1:j<b.length
 ·have c1':(j:Int)<(b.length:Nat):=by omega
  have hy:=hb _ (baN c1)
  have htb:=bQ b c1
  generalize hye:b[j]=y at *
  have hby:(aE b)[j]?=some [.int .u32 ((y:Nat):Int)]:=by rw[bJ b c1,hye]
  have hij:i+j<M.length:=by omega
  have hz0:=hLim _ (baN hij)
  have hset:=yZ hij
  generalize hze:M[i+j]=z at *
  have hMz:(aE M)[i+j]?=some [.int .u32 ((z:Nat):Int)]:=by rw[bJ M hij,hze]
  have ex:IntKind.u64.wrap ((x:Nat):Int)=((x:Nat):Int):=aW (by omega)
  have ey:IntKind.u64.wrap ((y:Nat):Int)=((y:Nat):Int):=aW (by omega)
  have ez:IntKind.u64.wrap ((z:Nat):Int)=((z:Nat):Int):=aW (by omega)
  have em:=aAT hx hy
  have hxy:x*y≤4294967295*4294967295:=Nat.mul_le_mul (by omega) (by omega)
  have e1:IntKind.u64.wrap (((x*y:Nat):Int)+(z:Int))=((x*y+z:Nat):Int):=dZ (by omega)
  have e2:IntKind.u64.wrap (((x*y+z:Nat):Int)+(c:Int))=((x*y+z+c:Nat):Int):=dZ (by omega)
  have eij:IntKind.i64.wrap ((i:Int)+(j:Int))=((i+j:Nat):Int):=fD (by omega)
  have hlt:((i+j:Nat):Int)<((a.length+b.length:Nat):Int):=by omega
  generalize ht:x*y+z+c=t at *
  have htt:t<4294967296*4294967296:=by omega
  have hrow:(aE M).set (i+j) [.int .u32 ((t%4294967296:Nat):Int)]=aE (M.set (i+j) (t%4294967296)):=eM M (i+j) _
  simp -implicitDefEqProofs only[go_sem,c1']
  refine cC .nil eE PH.nil_le ?_
  simp -implicitDefEqProofs only[go_sem,γ,reduceCtorEq,agU,hax,hby,ex,ey,em,eij,hlt,hMz,ez,e1,e2,agV,bV,hrow,agW,sL,WF,aL (show j<9223372036854775807 by omega)]
  refine aH (M.set (i+j) (t%4294967296),t/4294967296,j+1) ⟨by simp only; omega,by simp only[bdB]; exact hM,hLim.set _ (bbM _ (by decide)),by simp only; omega,?_,WT hz _ _ (by omega)⟩ (by simp only; omega) ?_ (PH.aA PH.nil_le (by simp -implicitDefEqProofs only[go_sem]))
  ·simp only
   have h3:=hset (t%4294967296)
   have h4:4294967296 ^ (i+(j+1))*(t/4294967296)+4294967296 ^ (i+j)*(t%4294967296)=4294967296 ^ (i+j)*t:=by
    rw[← bcG,bbS,baX,← baO,bdH]
   have h5:4294967296 ^ (i+j)*t=4294967296 ^ (i+j)*(x*y)+4294967296 ^ (i+j)*z+4294967296 ^ (i+j)*c:=by rw[← ht,baO,baO]
   have h6:4294967296 ^ i*(x*val (b.take (j+1)))=4294967296 ^ i*(x*val (b.take j))+4294967296 ^ (i+j)*(x*y):=by
    rw[htb,baO,baO,Nat.pow_add]
    congr 1
    rw[Nat.mul_left_comm x,baX]
   omega
  ·(repeat' (first|exact PF.nil_le|refine PF.aA ?_ ?_))<;>first|(simp -implicitDefEqProofs only[go_sem,γ,reduceCtorEq]<;>rfl)|rfl
 ·have he:j=b.length:=by omega
  have c1':¬ (j:Int)<(b.length:Nat):=by omega
  subst he
  have hij:i+b.length<M.length:=by omega
  have hz0:M[i+b.length]=0:=hz _ _ (baJ _) (baQ hij)
  have hset:=yZ hij
  have hMz:(aE M)[i+b.length]?=some [.int .u32 ((0:Nat):Int)]:=by rw[bJ M hij,hz0]
  have eij:IntKind.i64.wrap ((i:Int)+((b.length:Nat):Int))=((i+b.length:Nat):Int):=fD (by omega)
  have hlt:((i+b.length:Nat):Int)<((a.length+b.length:Nat):Int):=by omega
  have hrow:(aE M).set (i+b.length) [.int .u32 ((c%4294967296:Nat):Int)]=aE (M.set (i+b.length) c):=by
   rw[bbH hc]; exact eM M _ _
  simp -implicitDefEqProofs only[go_sem,γ,reduceCtorEq,c1',DB,eij,bV,hlt,hMz,hrow]
  refine hK (M.set (i+b.length) c) _ _ ⟨by rw[bdB]; exact hM,hLim.set _ hc,?_,fun j y hj hy=>?_⟩ (by unfold nT; (repeat' (first|exact PF.nil_le|refine PF.aA ?_ ?_))<;>first|(simp -implicitDefEqProofs only[go_sem,γ,reduceCtorEq]<;>rfl)|rfl) (by simp -implicitDefEqProofs only[go_sem])
  ·have h3:=hset c
   rw[hz0,Nat.mul_zero,bcH] at h3
   rw[h3,hval,bbP,hta,bbD,baX]
  ·rw[List.getElem?_set_ne (by omega)] at hy
   exact hz j y (by omega) hy
theorem aNH {C:Ctx} (L:mE C) (a b:List Nat) (ha:Lim a) (hb:Lim b) (h1:a.length≤8388608) (h2:b.length≤8388608) :
  xZ.wp C (aZ JE.res (bW (aF (aG (val a*val b))))) (PF.args [aF a,aF b]) .nil:=by
 have hlen:IntKind.i64.wrap (((a.length:Nat):Int)+((b.length:Nat):Int))=((a.length+b.length:Nat):Int):=fD (by omega)
 have hm1:((a.length+b.length:Nat):Int)*((4:Nat):Int)≤140737488355328:=by omega
 have hm2:((a.length+b.length:Nat):Int)≤9223372036854775807:=by omega
 have hz:baH (a.length+b.length) [PV.int .u32 0]=aE (baH (a.length+b.length) 0):=by
  simp[aE]
 simp -implicitDefEqProofs only[go_sem,γ,reduceCtorEq,xZ,agP,agQ,JE,baF,hlen,hm1,hm2,hz]
 refine aP fun o ho=>?_
 simp -implicitDefEqProofs only[go_sem,γ,agR]
 refine wp_loop (α:=List Nat × Nat) (fun t=>nT a b o t.2) (fun t=>PH.nil.set o (.rows 1 (aE t.1))) (fun t=>t.2≤a.length∧yB a b t.1 t.2) (fun t=>a.length-t.2) (baH (a.length+b.length) 0,0)
  ⟨by simp,by simp,rG _,by simp[val,oL],fun j x _ hx=>by rw[List.getElem?_replicate] at hx; split at hx<;>simp_all⟩ ?_ (PH.aA PH.nil_le (by simp -implicitDefEqProofs only[go_sem])) ?_
 ·unfold nT
  (repeat' (first|exact PF.nil_le|refine PF.aA ?_ ?_))<;>first|(simp -implicitDefEqProofs only[go_sem,γ,reduceCtorEq]<;>rfl)|rfl
 rintro⟨M,i⟩ ⟨hi,hI⟩
 simp only at hi hI
 simp -implicitDefEqProofs only[go_sem,γ,reduceCtorEq,WE,agS,nT]
 by_cases c1:i<a.length
 ·have c1':(i:Int)<(a.length:Nat):=by omega
  have key:=aHR (C:=C) a b ha hb (by omega) (by omega) M i c1 hI o
  simp -implicitDefEqProofs only[go_sem] at key
  simp -implicitDefEqProofs only[go_sem,c1']
  refine key _ _ _ (by unfold nT; (repeat' (first|exact PF.nil_le|refine PF.aA ?_ ?_))<;>first|(simp -implicitDefEqProofs only[go_sem,γ,reduceCtorEq]<;>rfl)|rfl) (by simp -implicitDefEqProofs only[go_sem]) ?_
  intro L' F' H' hI' hF' hH'
  have g6:=hF' 6 _ (by unfold nT; simp -implicitDefEqProofs only[go_sem,γ,reduceCtorEq]; rfl)
  have g0:=hF' 0 _ (by unfold nT; simp -implicitDefEqProofs only[go_sem,reduceCtorEq]; rfl)
  have g1:=hF' 1 _ (by unfold nT; simp -implicitDefEqProofs only[go_sem,γ,reduceCtorEq]; rfl)
  have g5:=hF' 5 _ (by unfold nT; simp -implicitDefEqProofs only[go_sem,γ,reduceCtorEq]; rfl)
  simp -implicitDefEqProofs only[go_sem,γ,WG,g6,aL (show i<9223372036854775807 by omega)]
  refine aH (L',i+1) ⟨by simp only; omega,hI'⟩ (by simp only; omega) ?_ (PH.aA PH.nil_le hH')
  repeat' first|exact PF.nil_le|refine PF.aA ?_ ?_|rfl|assumption
 ·have he:i=a.length:=by omega
  subst he
  have c1':¬ ((a.length:Nat):Int)<(a.length:Nat):=by omega
  have hV:val M=val a*val b:=by rw[hI.v,bbP]
  simp -implicitDefEqProofs only[go_sem,γ,reduceCtorEq,WH]
  have hs:=L.trim _ hI.lim (by rw[hI.len]; omega)
  rw[hV] at hs
  refine mT (o:=o) (s:=1) (k:=a.length+b.length) (rs:=aE M) (v:=aF (aG (val a*val b))) ?_ rfl (by simp -implicitDefEqProofs only[go_sem]) (by rw[bN,hI.len]; exact baJ _) ?_
  ·rw[baS (by rw[bN,hI.len]; exact baJ _)]; exact hs
  ·simp -implicitDefEqProofs only[go_sem,γ,reduceCtorEq]
   exact aY (.inr rfl) .nil rfl PH.nil_le ⟨.refl _,rfl⟩
structure aIB (C:Ctx):Prop extends aiE C where
 minus:∀ a b,Lim a→Lim b→val b≤val a→b.length≤a.length→a.length≤16777216→aJ C 42 [aF a,aF b] .nil (aK (aF (aG (val a-val b))))
 times:∀ a b,Lim a→Lim b→a.length≤8388608→b.length≤8388608→aJ C 44 [aF a,aF b] .nil (aK (aF (aG (val a*val b))))
end Go.PM
