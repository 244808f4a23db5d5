/-
  Texts of ours, joined. No condition.
-/
import Derived.Test.YtkknafmijabgaaaGreatDoorFR1
import Derived.Test.YtkknafmijabgaaaGreatDoorFR2
import Derived.Test.YtkknafmijabgaaaGreatDoorFR3
import Derived.Test.YtkknafmijabgaaaGreatDoorFR4
import Derived.Test.YtkknafmijabgaaaGreatDoorFR5

set_option linter.unusedSimpArgs false
set_option linter.unusedVariables false
open Nat renaming reduceEqDiff→γ,reduceAdd→δ,reduceSub→ε,reduceMul→ζ,reduceLT→η,reduceLeDiff→θ,reduceBEq→τ
open Int renaming reduceLT→ι,reduceLE→κ,reduceEq→μ,reduceToNat→ν,reduceAdd→ξ,reduceNeg→ο,reduceBEq→ρ,reduceBNe→σ
open List renaming reduceReplicate→υ
open List renaming range→a8D,length_map→a8E,replicate→a8F,getElem_mem→a8G,length_append→a8H,getElem?_eq_getElem→a8L,getD_eq_getElem?_getD→a8M,length_singleton→a8N,mem_cons→a8S,take_of_length_le→a8V,length_take→a8W,getElem?_map→a8Y,mem_range→a9B,not_mem_nil→a9D,getElem?_eq_some_iff→a9F,mem_map→a9G,mem_singleton→a9K,append_assoc→a9L,take_length→a9M,mem_append→a9N,getElem?_eq_none→a9S,map_append→a9U,append_nil→a9W,length_set→a9X,length_cons→a9Y,length_drop→a9Z,mem_of_getElem?→baA,getElem?_append_left→baB,getElem?_append_right→baD,Sublist→baE,take_succ_eq_append_getElem→baF,length_range→baJ,map_congr_left→baM,Perm→baQ,getElem?_range→baS,range_succ→baT,length_nil→baX,getElem?_take→baZ,mem_cons_of_mem→bbB,nil_append→bbK,getElem?_drop→bbO,length_replicate→bbP,mem_append_left→bbQ,cons_append→bbR,mem_filter→bbS,getElem?_set→bbV,contains_iff_mem→bcA,getElem?_replicate→bcC
open Nat renaming le_refl→a8J,zero_le→a8K,zero_add→a8R,lt_or_ge→a8Z,mul_le_mul_right→a9H,add_zero→a9P,le_trans→baK,succ_mul→baL,eq_zero_or_pos→baN,mul_le_mul→bbT,lt_of_lt_of_le→bcE
open Bool renaming not_true→a8Q,true_and→a8U,not_false→a8X,and_eq_true→a9A,and_false→a9Q,and_true→baI
open Option renaming map_some→a9J,getD_some→baW
open Int renaming toNat_natCast→bbI
set_option maxRecDepth 100000
set_option maxHeartbeats 800000
noncomputable section
namespace Go.PM
open Go
abbrev WPs:=List (PV × List Int)
def dR (ps:WPs):List (List PV):=ps.map fun p=>[p.1]
def hC (ps:WPs):List LI:=ps.map fun p=>(p.1,1,bU p.2)
def wls (ps:WPs):List (List Int):=ps.map (·.2)
def sK (e:PV) (ps:WPs):List LI:=(e,1,dR ps)::hC ps
section
variable {H:PH} {B:List BX}
theorem CC (ps:WPs):(dR ps).length=ps.length:=a8E _
theorem FH {ps:WPs} {i:Nat} {v:PV} {w:List Int} (hi:ps[i]?=some (v,w)):(hC ps)[i]?=some (v,1,bU w):=by
 unfold hC;rw[a8Y,hi]; rfl
theorem xA {ps:WPs} {i:Nat} {v:PV} {w:List Int} (hi:ps[i]?=some (v,w)):(dR ps)[i]?=some [v]:=by
 unfold dR;rw[a8Y,hi]; rfl
theorem aM.Pb (h:aM H B []):aM H B (sK .aD []):=h.kB 1
theorem aM.inner {e:PV} {ps:WPs} (h:aM H B (sK e ps)) {i:Nat} {v:PV} {w:List Int} (hi:ps[i]?=some (v,w)):cR H 1 v (bU w):=h.own (i+1) (FH hi)
theorem aM.outer {e:PV} {ps:WPs} (h:aM H B (sK e ps)):cR H 1 e (dR ps):=h.own 0 rfl
theorem GO (a b:List Int):bU (a++b)=bU a++bU b:=a9U
theorem aM.aSH {x:PV} {ps:WPs} (h:aM H B (sK x ps)) {i b:Nat} {v y:PV} {w src:List Int} {K:PV→PH→Prop} (hi:ps[i]?=some (v,w)) (I:fL H 1 y=some (bU src)) (E:roomFor w.length src.length b) (l:src≠[])
  (A:∀ q H',aM H' B ((x,1,dR ps)::(hC ps).set i (.osl q 1 0 (w++src).length,1,bU (w++src)))→K (.osl q 1 0 (w++src).length) H'):oF H 1 b v y K:=by
 have j:bU src≠[]:=fun e=>l (List.map_eq_nil_iff.1 e);refine h.append (i+1) (FH hi) I (by rw[iV,iV]; exact E) fun v' H' u F=>?_;obtain⟨q,rfl⟩:=F j;rw[← GO,iV] at u ⊢;exact A q H' u
theorem aM.aJV {j n i:Nat} {ps:WPs} {v':PV} {l:List Int} (h:aM H B ((.osl j 1 0 n,1,dR ps)::(hC ps).set i (v',1,bU l))) :
  ∃ rs,H j=some (.rows 1 rs)∧n≤rs.length∧rs.take n=dR ps∧aM (H.set j (.rows 1 (rs.set i [v']))) B (sK (.osl j 1 0 n) (ps.set i (v',l))):=by
 obtain⟨rs,u,w,x,y⟩:=h.store 0 rfl i [v'];refine⟨rs,u,w,x,?_⟩;have e:sK (.osl j 1 0 n) (ps.set i (v',l))=((.osl j 1 0 n,1,dR ps)::(hC ps).set i (v',1,bU l)).set 0 (.osl j 1 0 n,1,(dR ps).set i [v']):=by unfold sK dR hC;rw[List.map_set,List.map_set];rfl
 rw[e];exact y
def oH (e:List (List PV)) (ws:List (List Int)):Prop:=e.length=ws.length∧∀ (i:Nat) r w,e[i]?=some r→ws[i]?=some w→r=[ints w]∨(r=[.aD]∧w=[])
theorem oH.nil:oH [] []:=⟨rfl,fun i r w h=>by cases h⟩
theorem oH.snoc {l:List (List PV)} {ws:List (List Int)} {u:PV} {w:List Int} (h:oH l ws) (y:u=ints w∨(u=.aD∧w=[])):oH (l++[[u]]) (ws++[w]):=by
 refine⟨by simp[h.1],fun i r x e j=>?_⟩;rcases Nat.lt_trichotomy i l.length with c | c | c
 ·rw[baB c] at e;rw[baB (by rw[← h.1]; exact c)] at j;exact h.2 i r x e j
 ·subst c;rw[baD (a8J _),Nat.sub_self] at e;rw[h.1,baD (a8J _),Nat.sub_self] at j;cases e; cases j;rcases y with rfl | ⟨rfl,rfl⟩
  ·exact .inl rfl
  ·exact .inr ⟨rfl,rfl⟩
 ·rw[baD Om,a9S (by simp; omega)] at e;cases e
theorem oH.flat {j:List (List PV)} {ws:List (List Int)} (h:oH j ws):Flat j:=Flat.of fun r u c e q s rs=>by
 obtain⟨i,hi⟩:=List.mem_iff_getElem?.1 u;have l:=(a9F.1 hi).1;rcases h.2 i r _ hi (a8L (by rw[← h.1]; exact l)) with rfl | ⟨rfl,-⟩
 ·rw[a9K] at e; subst e; rfl
 ·rw[a9K] at e; subst e; rfl
theorem oH.co {y:List (List PV)} {ws:List (List Int)} (h:oH y ws):Co (.sl 1 y) (lists ws):=by
 have x:∀ (i:Nat) r t,y[i]?=some r→(ws.map fun w=>[ints w])[i]?=some t→∃ w,t=[ints w]∧(r=[ints w]∨(r=[.aD]∧w=[])):=fun i r t u e=>by
  rw[a8Y] at e;cases E:ws[i]? with
  | none=>rw[E] at e; cases e
  | some w =>rw[E] at e;cases e;exact⟨w,rfl,h.2 i r w u E⟩
 refine .sl (by rw[a8E,h.1]) (fun i r t u e=>?_) (fun i j p q l hq=>?_)
 ·obtain⟨w,rfl,A | ⟨A,-⟩⟩:=x i r t u e<;>subst A<;>rfl
 ·unfold at2 at l hq;cases u:y[i]? with
  | none=>rw[u] at l; cases l
  | some r =>
   cases e:(ws.map fun w=>[ints w])[i]? with
   | none=>rw[e] at hq; cases hq
   | some t =>
    rw[u] at l;rw[e] at hq;obtain⟨w,rfl,A⟩:=x i r t u e;rcases A with rfl | ⟨rfl,rfl⟩
    ·have:some p=some q:=l.symm.trans hq;cases this;exact .refl _
    ·cases j with
     | zero=>cases l; cases hq; exact .nil 1
     | succ j=>cases l
end
def Fx (u:PV):Prop:=∀ q s rs,PV.frz q s rs u=u
theorem Fx.int (k:IntKind) (n:Int):Fx (.int k n):=fun _ _ _=>rfl
theorem Fx.bool (b:Bool):Fx (.bool b):=fun _ _ _=>rfl
theorem Fx.sl (n:Nat) (r:List (List PV)):Fx (.sl n r):=fun _ _ _=>rfl
theorem Fx.aD:Fx .aD:=fun _ _ _=>rfl
theorem Fx.ptr (q z i c:Nat):Fx (.ptr q z i c):=fun _ _ _=>rfl
theorem Fx.bO (c:List PV):Fx (.bO c):=fun _ _ _=>rfl
theorem cR.cQ {H:PH} {s:Nat} {v:PV} {rows:List (List PV)} (h:cR H s v rows) (q z:Nat) (rs:List (List PV)):PV.frz q z rs v=PV.cQ q z rs v:=by
 rcases h with ⟨-,rfl⟩ | ⟨p,rs',rfl,-⟩<;>rfl
def LW (φ:PV→PV) (F:PF):PF:=fun i=>(F i).map φ
theorem vL (φ:PV→PV) (F:PF) (i:Nat):LW φ F i=(F i).map φ:=rfl
theorem QP:∀ (ps:WPs) {H:PH} {B:List BX} {A:PV} (y:List (List PV)) (l:List (List Int)),oH y l→aM H B ((A,1,y++dR ps)::hC ps)→(∀ b∈B,∀ q s rs,bZ.frz q s rs b.2=b.2) →
  ∃ (φ:PV→PV) (E:PH),Co (φ A) (lists (l++wls ps))∧(∀ u,Fx u→φ u=u)∧(∀ e:Int,φ (.tup [A,.int .i64 e])=.tup [φ A,.int .i64 e])∧aM E B []∧(∀ F:PF,kP F H (LW φ F) E)∧∀ o,(H o=none∨A.oid=some o∨∃ p∈ps,p.1.oid=some o)→E o=none
 | [],H,B,A,y,l,J,h,hB=>by
  have M:y++dR []=y:=a9W y;have e1:l++wls []=l:=a9W l;rw[M] at h;rw[e1];rcases h.own 0 rfl with ⟨R,rfl⟩ | ⟨q,rs,rfl,_⟩
  ·refine⟨id,H,?_,fun _ _=>rfl,fun _=>rfl,h.be 0,fun F=>?_,fun o ho=>?_⟩
   ·subst R;have:l=[]:=List.length_eq_zero_iff.1 J.1.symm;subst this;exact .nil 1
   ·have:LW id F=F:=funext fun i=>by rw[vL]; simp
    rw[this];exact .refl _ _
   ·rcases ho with ho | ho | ⟨p,hp,-⟩
    ·exact ho
    ·cases ho
    ·cases hp
  ·obtain⟨rs,X,Y,Z,z4,K⟩:=h.frz 0 rfl;refine⟨PV.frz q 1 rs,H.frz q 1 rs,?_,fun u N=>N _ _ _,fun e=>?_,?_,fun F=>.step q X (.refl _ _),fun o ho=>?_⟩
   ·rw[Z]; exact J.co
   ·show PV.tup [PV.cQ q 1 rs (.osl q 1 0 y.length),.int .i64 e]=_;rw[Y,Z]
   ·have O:(B.map fun b=>(b.1,b.2.frz q 1 rs))=B:=by
     conv=>rhs; rw[← List.map_id B]
     refine baM fun b hb=>?_;rw[hB b hb q 1 rs]; rfl
    rw[O] at K;exact K
   ·rw[FG];rcases ho with ho | ho | ⟨p,hp,-⟩
    ·rw[ho]; split<;>rfl
    ·have:q=o:=by injection ho
     rw[if_pos this.symm]
    ·cases hp
 | (v,w)::ps,H,B,A,y,l,J,h,hB=>by
  have eo:∀ u:PV,y++[[u]]++dR ps=y++[u]::dR ps:=fun u=>by rw[a9L]; rfl
  have ew:l++[w]++wls ps=l++wls ((v,w)::ps):=by rw[a9L]; rfl
  have ho:cR H 1 v (bU w):=h.own 1 rfl;rcases ho with ⟨R,rfl⟩ | ⟨q,rs,rfl,_⟩
  ·have hw:w=[]:=List.map_eq_nil_iff.1 R;have h2:=h.be 1;obtain⟨φ,E,k1,k2,S,U,V,W⟩:=QP ps (y++[[.aD]]) (l++[w]) (J.snoc (.inr ⟨rfl,hw⟩)) (by rw[eo]; exact h2) hB;rw[ew] at k1;refine⟨φ,E,k1,k2,S,U,V,fun o ho=>W o ?_⟩;rcases ho with ho | ho | ⟨p,hp,ho⟩
   ·exact .inl ho
   ·exact .inr (.inl ho)
   ·rcases a8S.1 hp with rfl | hp
    ·cases ho
    ·exact .inr (.inr ⟨p,hp,ho⟩)
  ·obtain⟨rs,X,Y,Z,z4,K⟩:=h.frz 1 rfl;have O:(B.map fun b=>(b.1,b.2.frz q 1 rs))=B:=by
    conv=>rhs; rw[← List.map_id B]
    refine baM fun b hb=>?_;rw[hB b hb q 1 rs]; rfl
   have y0:PV.cQ q 1 rs A=A:=z4 0 _ (by decide) rfl;have I:PV.frz q 1 rs A=A:=((h.own 0 rfl).cQ q 1 rs).trans y0;have yp:∀ p∈ps,PV.cQ q 1 rs p.1=p.1:=fun p hp=>by obtain⟨j,hj⟩:=List.mem_iff_getElem?.1 hp;exact z4 (j+2) (p.1,1,bU p.2) Om (FH hj)
   have er:(y++dR ((.osl q 1 0 (bU w).length,w)::ps)).map (fun r=>r.map (PV.cQ q 1 rs))=y++[[ints w]]++dR ps:=by
    rw[a9U,J.flat,a9L];congr 1;show [PV.cQ q 1 rs (.osl q 1 0 (bU w).length)]::(dR ps).map _=_;rw[Y];have:(dR ps).map (fun r=>r.map (PV.cQ q 1 rs))=dR ps:=by unfold dR;rw[List.map_map];refine baM fun p hp=>?_;show [PV.cQ q 1 rs p.1]=_;rw[yp p hp]
    rw[this];rfl
   have ei:(hC ps).map (fun x=>(x.1,x.2.1,x.2.2.map fun r=>r.map (PV.cQ q 1 rs)))=hC ps:=by unfold hC;rw[List.map_map];refine baM fun p _=>?_;show (p.1,1,(bU p.2).map fun r=>r.map (PV.cQ q 1 rs))=_;rw[show (bU p.2).map (fun r=>r.map (PV.cQ q 1 rs))=bU p.2 from Flat.map p.2 (fun x c hc q s rs=>by rw[a9K] at hc; subst hc; rfl) q 1 rs]
   have z6:aM (H.frz q 1 rs) B ((A,1,y++[[ints w]]++dR ps)::hC ps):=by rw[O] at K;have z7:aM (H.frz q 1 rs) B ((A,1,(y++dR ((.osl q 1 0 (bU w).length,w)::ps)).map (fun r=>r.map (PV.cQ q 1 rs)))::(hC ps).map (fun x=>(x.1,x.2.1,x.2.2.map fun r=>r.map (PV.cQ q 1 rs)))):=K;rw[er,ei] at z7;exact z7
   obtain⟨φ,E,k1,k2,S,U,V,W⟩:=QP ps (y++[[ints w]]) (l++[w]) (J.snoc (.inl rfl)) z6 hB;rw[ew] at k1;refine⟨fun u=>φ (PV.frz q 1 rs u),E,?_,fun u N=>?_,fun e=>?_,U,fun F=>.step q X ?_,fun o ho=>W o ?_⟩
   ·simp only;rw[I]; exact k1
   ·simp only;rw[N,k2 u N]
   ·simp only;rw[I];have yt:PV.frz q 1 rs (.tup [A,.int .i64 e])=.tup [PV.frz q 1 rs A,.int .i64 e]:=by rcases h.own 0 rfl with ⟨-,M⟩ | ⟨p,rs',M,-⟩<;>(subst M; rfl)
    rw[yt,I,S]
   ·have:LW (fun u=>φ (PV.frz q 1 rs u)) F=LW φ (F.frz q 1 rs):=funext fun i=>by rw[vL,vL,rM,Option.map_map];rfl
    rw[this];exact V _
   ·rw[FG];rcases ho with ho | ho | ⟨p,hp,ho⟩
    ·left; rw[ho]; split<;>rfl
    ·exact .inr (.inl ho)
    ·rcases a8S.1 hp with rfl | hp
     ·have:q=o:=by injection ho
      left; rw[if_pos this.symm]
     ·exact .inr (.inr ⟨p,hp,ho⟩)
theorem CD {res:List eS} {F:PF} {H:PH} {l:PV} {ps:WPs} {c:Int} {e:mY} (he:e=.normal∨e=.ret) (h:eS.evs F H res=some [l,.int .i64 c]) (w:aM H [] (sK l ps)):aT res (cP (.tup [lists (wls ps),.int .i64 c])) e F H:=by
 obtain⟨φ,A,k1,-,x,-,y,-⟩:=QP ps [] [] .nil w (fun b hb=>by cases hb);refine pE he h ⟨_,_,.nil,y _,a_,φ (cB [l,.int .i64 c]),?_,?_⟩
 ·rw[vL,oJ,if_pos rfl]; rfl
 ·show cP _ (φ (.tup [l,.int .i64 c])) .nil;rw[x];refine⟨.tup rfl fun j p q u hq=>?_,rfl⟩
  match j with
  | 0=>cases u; cases hq; exact k1
  | 1=>cases u; cases hq; exact .refl _
  | j+2=>cases u
open Go Go.Na
theorem wV {H:PH} {o q s:Nat} {rs:List (List PV)} {x:bZ} (h:H o=some x) (e:¬ o=q) (j:bZ.frz q s rs x=x):(H.frz q s rs) o=some x:=by
 show (if o=q then none else (H o).map (bZ.frz q s rs))=some x;rw[if_neg e,h,a9J,j]
theorem wU {q s:Nat} {rs r:List (List PV)} (h:Flat r) (z:Nat):bZ.frz q s rs (.rows z r)=.rows z r:=by
 show bZ.rows z (r.map fun c=>c.map (PV.cQ q s rs))=_;rw[h]
theorem Fh {H H2:PH} {b e m:Nat} {j l:List (List PV)} {R:PV→PH→Prop} (hb:H b=some (.rows 1 j)) (he:H e=some (.rows 1 l)) (u:¬ e=b) (x:Flat l) (A:j.length=m) (le:l.length=m)
  (w:H2.le ((H.frz b 1 j).frz e 1 l)) (y:R (.tup [.sl 1 j,.sl 1 l]) H2):sA (.tup [.osl b 1 0 m,.osl e 1 0 m]) H R:=by
 have B:PV.frz b 1 j (.tup [.osl b 1 0 m,.osl e 1 0 m])=.tup [.sl 1 j,.osl e 1 0 m]:=by simp[PV.frz,PV.tX,PV.cQ,u,← A]
 have E:PV.frz e 1 l (.tup [.sl 1 j,.osl e 1 0 m])=.tup [.sl 1 j,.sl 1 l]:=by simp[PV.frz,PV.tX,PV.cQ,← le]
 refine .step hb ?_;rw[B];refine .step (wV he u (wU x 1)) ?_;rw[E];exact .done y w
theorem aAN (l:List Bool):Flat (aZ l):=Flat.map l fun x c e q s rs=>by
 rw[a9K] at e;subst e;rfl
abbrev mJ (e:List (List PV)):PV:=.sl 1 e
theorem oH.at {j:List (List PV)} {ws:List (List Int)} (h:oH j ws) {i:Nat} (hi:i<ws.length):∃ u,j[i]?=some [u]∧(u=ints (ws.getD i [])∨(u=.aD∧ws.getD i []=[])):=by
 have l:i<j.length:=by rw[h.1]; exact hi
 have w:ws.getD i []=ws[i]:=by rw[a8M,a8L hi]; rfl
 rw[w];rcases h.2 i j[i] ws[i] (a8L l) (a8L hi) with e | ⟨e,e2⟩
 ·exact⟨_,by rw[a8L l,e],.inl rfl⟩
 ·exact⟨_,by rw[a8L l,e],.inr ⟨rfl,e2⟩⟩
theorem aHF {C : Ctx} (hends : ∀ (n : bY) (so fo : Nat) (xs : List Nat) (out : PV) (s : cT), eU n → ¬ so = fo → pG n xs → s.1 < n.arcs.length → aH C 294 [.ptr so 6 0 0, .int .i64 (stI s)] (sH n so fo xs out) (fun r H' => r = .tup [.int .i64 ((fP n s : Nat) : Int), .int .i64 ((dO n xs s : Nat) : Int)] ∧ H' = sH n so fo xs out))
    (n : bY) (hn : eU n) (so fo : Nat) (hne : ¬ so = fo) (xs : List Nat) (hx : pG n xs) (fs : List (List PV)) (outL : List (List Int)) (hSh : oH fs outL) (hO : O3 n outL) :
    JU.wp C (aT Xu.res (aFK n so fo xs (mJ fs))) (PF.args [.ptr so 6 0 0]) (sH n so fo xs (mJ fs)) := by
  have a7P : ¬ fo = so := fun e => hne e.symm;have hfew := hn.few;have hsrc := hn.source;have hb1 : (n.nodes : Int) * ((8 : Nat) : Int) ≤ 140737488355328 := Om;have hb2 : (n.nodes : Int) ≤ 9223372036854775807 := Om;have hb3 : (n.nodes : Int) * ((1 : Nat) : Int) ≤ 140737488355328 := Om;have hs1 : (n.source : Int) < (n.nodes : Nat) := Om;simp only[go_sem,JU,Hd,Xu];refine aV .nil cA a_ ?_;simp only[go_sem,He,hne,a7P,hb1,hb2,hb3];refine aO fun b hb => ?_;simp only[go_sem];have b1 : ¬ so = b := fun e => by rw [← e, aS, if_neg hne, bS] at hb; cases hb
  have b2 : ¬ fo = b := fun e => by rw [← e, bS] at hb; cases hb
  have b1' : ¬ b = so := fun e => b1 e.symm;have b2' : ¬ b = fo := fun e => b2 e.symm;simp only[go_sem,hne,a7P,b1,b2,hb1,hb2,hb3];refine aO fun e he => ?_;have e1 : ¬ so = e := fun e0 => by rw [← e0, aS, if_neg b1, aS, if_neg hne, bS] at he; cases he
  have e2 : ¬ fo = e := fun e0 => by rw [← e0, aS, if_neg b2, bS] at he; cases he
  have e3 : ¬ b = e := fun e0 => by rw [← e0, bS] at he; cases he
  have e1' : ¬ e = so := fun e0 => e1 e0.symm;have e2' : ¬ e = fo := fun e0 => e2 e0.symm;have e3' : ¬ e = b := fun e0 => e3 e0.symm;have hrl : n.source < (a8F n.nodes [PV.bool false]).length := by simpa using hsrc
  simp only[go_sem,Hf,hne,a7P,b1,b2,e1,e2,e3,hs1,bcC,bbP,hsrc,a8R];have hsoX : (sH n so fo xs (mJ fs)) so = some (xD n fo xs.length (mJ fs)) := by rw [aS, if_neg hne, bS]
  have hfoX : (sH n so fo xs (mJ fs)) fo = some (.rows 1 (eV xs)) := by rw [bS]
  have hXe : (sH n so fo xs (mJ fs)) e = none := by rw [aS, if_neg e3'] at he; exact he
  simp only[go_sem,Hg,hne,a7P,b1,b2,e1,e2,e3];refine aO fun q hq => ?_;have q1 : ¬ so = q := fun e0 => by rw [← e0, aS, if_neg e1, aS, if_neg b1, aS, if_neg hne, bS] at hq; cases hq
  have q2 : ¬ fo = q := fun e0 => by rw [← e0, aS, if_neg e2, aS, if_neg b2, bS] at hq; cases hq
  have q3 : ¬ b = q := fun e0 => by rw [← e0, aS, if_neg e3, bS] at hq; cases hq
  have q4 : ¬ e = q := fun e0 => by rw [← e0, bS] at hq; cases hq
  have hXq : (sH n so fo xs (mJ fs)) q = none := by rw [aS, if_neg (fun h => q4 h.symm), aS, if_neg (fun h => q3 h.symm)] at hq; exact hq
  simp only[go_sem];rw [Qd stI n (fun _ => (0, true)), acC];refine wp_loop (α := RS) (fun a => ((((PF.nil.set 0 (.ptr so 6 0 0)).set 4 (.osl b 1 0 n.nodes)).set 5 (.osl e 1 0 n.nodes)).set 6 (a.v))) (fun a => a.H) (fun a => pI n xs (sH n so fo xs (mJ fs)) stI b e a ∧ a.d = a.k) (fun a => n.nodes - a.k)
    ⟨[n.source], 0, fun _ => (0, true), .osl q 1 0 1, q, (((sH n so fo xs (mJ fs)).set b (.rows 1 (bU (byL stI n [n.source] (fun _ => (0, true)))))).set e (.rows 1 (aZ (seL n [n.source])))).set q (.rows 1 [[.int .i64 (n.source : Nat)]]), 0⟩
    ⟨⟨x5 hn xs _, Es n xs _, a8J _, a8K _, sJ (sJ (sJ (fun _ _ h => h) hb) hXe) hXq,
      by rw [aS, if_neg q3, aS, if_neg e3, bS], by rw [aS, if_neg q4, bS], ⟨[[.int .i64 (n.source : Nat)]], 0, rfl, by rw [bS], by simp, rfl⟩, hXq, fun h => q3 h.symm, fun h => q4 h.symm⟩, rfl⟩ Lq (fun _ _ h => h) ?_
  rintro a ⟨hI, hdk⟩;obtain ⟨rs, off, hv, hq1, hq2, hq3⟩ := hI.hq;rw [a8E, a9Z] at hv hq2 hq3;simp only[go_sem,vd,Hh,hv];by_cases hk : a.k < a.Q.length
  · have c0 : ((a.Q.length - a.k : Nat) : Int) > 0 := Om
    have hw : a.Q[a.k] < n.nodes := hI.seen.lt _ (a8G hk);have hwo : a.Q[a.k] < outL.length := by rw [hO.len]; exact hw
    have hwi : ((a.Q[a.k] : Nat) : Int) < (outL.length : Nat) := Om;have hc0 : (0 : Int) < ((a.Q.length - a.k : Nat) : Int) := c0;have hrs : rs[off]? = some [.int .i64 ((a.Q[a.k] : Nat) : Int)] := by
      have h5 : ((rs.drop off).take (a.Q.length - a.k))[0]? = (eV (a.Q.drop a.k))[0]? := by rw [hq3]
      rw [baZ, if_pos Om, bbO, a9P, a8Y, bbO, a9P, a8L hk] at h5;exact h5
    obtain ⟨lv, hol, hlv⟩ := hSh.at hwo;have hlen : PV.yO lv = some (.int .i64 ((outL.getD a.Q[a.k] []).length : Nat)) := by
      rcases hlv with rfl | ⟨rfl, e⟩
      · simp [PV.yO]
      · rw [e]; rfl
    simp only[go_sem,c0];refine aV .nil cA a_ ?_;simp only[go_sem,Hi,(hI.base _ _ hsoX),hc0,hq1,a9P,hrs,hol,hlen];have hLf := hO.few a.Q[a.k];have hLo := hO.only a.Q[a.k];have hLa := fun s h => hO.all s h;generalize hL : outL.getD a.Q[a.k] [] = L at *
    have hkn := HC hI.seen;refine wp_loop (α := RS × Nat) (fun c => (((((((PF.nil.set 0 (.ptr so 6 0 0)).set 4 (.osl b 1 0 n.nodes)).set 5 (.osl e 1 0 n.nodes)).set 6 (c.1.v)).set 49 (lv)).set 50 (.int .i64 (L.length : Nat))).set 51 (.int .i64 (c.2 : Nat)))) (fun c => c.1.H)
      (fun c => pI n xs (sH n so fo xs (mJ fs)) stI b e c.1 ∧ c.1.d = a.k ∧ c.1.k = a.k ∧ c.1.Q[a.k]? = some a.Q[a.k] ∧ c.2 ≤ L.length ∧ ∀ s : cT, s.1 < n.arcs.length → stI s ∈ L.take c.2 → 0 < dO n xs s → fP n s ∈ c.1.Q) (fun c => L.length - c.2) (a, 0)
      ⟨hI, hdk, rfl, a8L hk, a8K _, fun s _ h => by simp at h⟩ (by (repeat' (first|exact c_|refine d_ ?_ ?_)) <;> first|(simp only[go_sem,hv] <;> rfl)|rfl) (fun _ _ h => h) ?_
    rintro ⟨a', j⟩ ⟨hI', hd', hk', hQk, hj, a7W⟩;dsimp only at hI' hd' hk' hQk hj a7W;simp only[go_sem,vb,Hj];by_cases hlt : j < L.length
    · have a6W : (j : Int) < (L.length : Nat) := Om
      obtain ⟨s, hs1, hs2, hs3⟩ := hLo L[j] (a8G hlt);have hLj : (L.map fun n => [PV.int .i64 n])[j]? = some [.int .i64 (stI s)] := by rw [a8Y, a8L hlt, hs3]; rfl
      have htake : L.take (j + 1) = L.take j ++ [stI s] := by rw [baF hlt, hs3]
      have hwQ : a.Q[a.k] ∈ a'.Q := baA hQk;have hto : fP n s < n.nodes := by have := hn.ends _ (a8G hs1);rw [nC hs1] at this;unfold fP;split <;> omega
      have hto' : ((fP n s : Nat) : Int) < (n.nodes : Nat) := Om;have hstI : ∀ s2 : cT, stI s2 = stI s → s2 = s := fun s2 h => by
        obtain ⟨i2, b2⟩ := s2;obtain ⟨i1, b1⟩ := s;unfold stI at h;cases b1 <;> cases b2 <;> simp only [reduceIte, reduceCtorEq] at h ⊢
        · rw [show i2 = i1 by omega]
        · omega
        · omega
        · rw [show i2 = i1 by omega]
      have hlv' : lv = ints L := by
        rcases hlv with e | ⟨_, e⟩
        · exact e
        · rw [e] at hlt; exact absurd hlt (Nat.not_lt_zero _)
      subst hlv';simp only[go_sem,a6W,Hk,hLj,Hl];refine dV (hends n so fo xs (mJ fs) s hn hne hx hs1) Ev (hI'.base) ?_;rintro r H' ⟨rfl, rfl⟩ -;rw [PH.over_self _ (hI'.base)];have hmore : ∀ Q2 : List Nat, (∀ v ∈ a'.Q, v ∈ Q2) → (0 < dO n xs s → fP n s ∈ Q2) → ∀ s2 : cT, s2.1 < n.arcs.length → stI s2 ∈ L.take (j + 1) → 0 < dO n xs s2 → fP n s2 ∈ Q2 := fun Q2 g1 g2 s2 g3 g4 g5 => by
        rw [htake] at g4;rcases a9N.1 g4 with g | g
        · exact g1 _ (a7W s2 g3 g g5)
        · have := hstI s2 (a9K.1 g)
          subst this;exact g2 g5
      have hjw := wZz j;by_cases hr : 0 < dO n xs s
      · have hr' : ((dO n xs s : Nat) : Int) > 0 := Om
        have hsel : fP n s < (seL n a'.Q).length := by rw [AM]; exact hto
        have hbyl : fP n s < (byL stI n a'.Q a'.way).length := by rw [MQ]; exact hto
        have hbr := eP hsel;rw [NL hto] at hbr;have hir := AD hbyl;cases hc : a'.Q.contains (fP n s) with
        | true =>rw [hc] at hbr;have hin : fP n s ∈ a'.Q := bcA.1 hc;simp only[go_sem,IJ,hr',hto',hI'.he,hbr,a8R,DX,hjw];exact aG (a', j + 1) ⟨hI', hd', hk', hQk, hlt, hmore _ (fun _ h => h) fun _ => hin⟩ (by dsimp only; omega) Lq (fun _ _ h => h)
        | false =>
          rw [hc] at hbr;have hnin : fP n s ∉ a'.Q := fun h => by rw [bcA.2 h] at hc; cases hc
          have hsQ : n.source ∈ a'.Q := by obtain ⟨t, ht⟩ := hI'.seen.first; rw [ht]; simp
          simp only[go_sem,IJ,hr',hto',hI'.he,hI'.hb,hbr,hir,a8R,e3,e3',ve,vf,iD,rV,Do,Bk hsQ hnin];refine pI.step hn hI' ⟨hb, hXe, e3⟩ hs1 (by rw [hs2]; exact hwQ) hnin hr fun a2 hI2 hQ2 hk2 hd2 => ?_;simp only[go_sem,DX,hjw];have hQk2 : a2.Q[a.k]? = some a.Q[a.k] := by obtain ⟨l1, l2⟩ := a9F.1 hQk;rw [hQ2, baB l1];exact hQk
          exact aG (a2, j + 1) ⟨hI2, hd2.trans hd', hk2.trans hk', hQk2, hlt, hmore _ (fun v h => by rw [hQ2]; exact bbQ _ h) fun _ => by rw [hQ2]; simp⟩ (by dsimp only; omega) Lq (fun _ _ h => h)
      · have hr' : ¬ ((dO n xs s : Nat) : Int) > 0 := Om
        simp only[go_sem,IJ,hr',DX,hjw];exact aG (a', j + 1) ⟨hI', hd', hk', hQk, hlt, hmore _ (fun _ h => h) fun h => absurd h hr⟩ (by dsimp only; omega) Lq (fun _ _ h => h)
    · have a6W : ¬ (j : Int) < (L.length : Nat) := Om
      obtain ⟨rs', off', hv', hq1', hq2', hq3'⟩ := hI'.hq;obtain ⟨l1, l2⟩ := a9F.1 hQk;rw [a8E, a9Z, hk'] at hv' hq2' hq3';have hc1 : (1 : Int) ≤ ((a'.Q.length - a.k : Nat) : Int) := Om;simp only[go_sem,a6W,vg,hv',hc1,Int.le_refl];have hLt : L.take j = L := a8V Om;have hdn : FT n xs a'.Q (a.k + 1) := Er (by rw [← hd']; exact hI'.done) hQk fun s g1 g2 g3 => by refine a7W s g1 ?_ g3;have := hLa s g1;rw [g2, hL] at this;rw [hLt];exact this
      have hfl : (eV (a'.Q.drop (a.k + 1))).length = a'.Q.length - a.k - 1 := by rw [a8E, a9Z, Nat.sub_sub]
      have hsl := HC hI'.seen;refine aG ⟨a'.Q, a.k + 1, a'.way, .osl a'.q 1 (off' + 1) (a'.Q.length - a.k - 1), a'.q, a'.H, a.k + 1⟩ ⟨⟨hI'.seen, hdn, a8J _, by dsimp only; omega, hI'.base, hI'.hb, hI'.he, ⟨rs', off' + 1, by rw [hfl], hq1', by rw [hfl]; omega, ?_⟩, hI'.ne⟩, rfl⟩ (by dsimp only; omega) Lq (fun _ _ h => h);rw [hfl];have h7 := congrArg (List.drop 1) hq3';rw [List.drop_take, List.drop_drop] at h7;rw [h7];show List.drop 1 (List.map _ _) = _;rw [← List.map_drop, List.drop_drop]
  · have c0 : ¬ ((a.Q.length - a.k : Nat) : Int) > 0 := Om
    have hkk : a.k = a.Q.length := by have := hI.k; omega
    simp only[go_sem,c0,vh];have hfo : ∀ q, ¬ fo = q → ∀ rs, bZ.frz q 1 rs (xD n fo xs.length (mJ fs)) = xD n fo xs.length (mJ fs) := fun q hq rs => by simp [bZ.frz, PV.cQ, hq]
    refine pE (vs := [.osl b 1 0 n.nodes, .osl e 1 0 n.nodes]) (.inr rfl) Ev ?_;refine Fh (H2 := sH n so fo xs (mJ fs)) hI.hb hI.he e3' (aAN _) (by unfold bU; rw [a8E, MQ]) (by rw [gE, AM]) ?_ ⟨a.Q, a.way, hI.seen, by rw [← hkk, ← hdk]; exact hI.done, rfl, rfl⟩;have flx : Flat (eV xs) := Flat.map xs fun x c hc q s rs => by rw [a9K] at hc;subst hc;rfl
    exact e_ (e_ a_ (wV (wV (hI.base _ _ hsoX) b1 (hfo b b2 _)) e1 (hfo e e2 _))) (wV (wV (hI.base _ _ hfoX) b2 (wU flx 1)) e2 (wU flx 1))
theorem aRY {n:bY} {Q:List Nat} {way:Nat→cT} {v:Nat} (h:v<n.nodes) (j:v∈Q) (e:v≠n.source):((byL stI n Q way).map fun x=>[PV.int .i64 x])[v]?=some [.int .i64 (stI (way v))]:=by
 unfold byL;rw[a8Y,a8Y,baS h,a9J,a9J,if_pos ⟨j,e⟩]
theorem room_le {n:bY} (l:eU n) {xs:List Nat} (u:pG n xs) {s:cT} (e:s.1<n.arcs.length):dO n xs s≤2147483647:=by
 have j:=(l.ends _ (a8G e)).2.2;rw[nC e] at j;have w:=u.le _ e;unfold dO;split<;>omega
theorem IP (xs:List Nat) (i x:Nat):(eV xs).set i [.int .i64 (x:Nat)]=eV (xs.set i x):=by
 exact (List.map_set ..).symm
theorem hZ.in {n:bY} {xs:List Nat} (h:hZ n xs):pG n xs:=⟨h.len,fun i hi=>by
 have e:i<xs.length:=by rw[h.len]; exact hi
 have:=h.le i n.arcs[i] xs[i] (a8L hi) (a8L e);rw[nC hi] at this;rw[a8M,a8L e];exact this⟩
def aXK (n:bY) (l fo:Nat) (xs:List Nat) (out:PV) (r:PV) (H:PH):Prop :=
 ∃ (j:List Nat) (e:Nat),0<e∧hZ n j∧jF n j=jF n xs+e∧r=.int .i64 (e:Nat)∧H=sH n l fo j out
theorem aUO {C:Ctx} (Z:∀ (n:bY) (l fo:Nat) (xs:List Nat) (out:PV) (s:cT),eU n→¬ l=fo→pG n xs→s.1<n.arcs.length→aH C 294 [.ptr l 6 0 0,.int .i64 (stI s)] (sH n l fo xs out) (fun r H'=>r=.tup [.int .i64 ((fP n s:Nat):Int),.int .i64 ((dO n xs s:Nat):Int)]∧H'=sH n l fo xs out))
  (y:∀ (n:bY) (l fo:Nat) (xs:List Nat) (out:PV) (s:cT),eU n→¬ l=fo→s.1<n.arcs.length→aH C 295 [.ptr l 6 0 0,.int .i64 (stI s)] (sH n l fo xs out) (fun r H'=>r=.int .i64 ((dK n s:Nat):Int)∧H'=sH n l fo xs out))
  (n:bY) (I:eU n) (l fo:Nat) (w:¬ l=fo) (xs:List Nat) (hF:hZ n xs) (out:PV) (Q:List Nat) (way:Nat→cT) (hS:qF n xs Q way) (γ:n.sink∈Q) :
  WP.wp C (aT aNS.res (aXK n l fo xs out)) (PF.args [.ptr l 6 0 0,ints (byL stI n Q way)]) (sH n l fo xs out):=by
 have A:¬ fo=l:=fun e=>w e.symm;have hx:=hF.in;obtain⟨L0,W,-⟩:=Em hS _ n.sink rfl γ;simp only[go_sem,WP,aoT,aNS,aoU,aoV,w,A];refine wp_loop (α:=Nat × List cT × List cT × Int) (fun c=>((((PF.nil.set 0 (.ptr l 6 0 0)).set 1 (ints (byL stI n Q way))).set 5 (.int .i64 c.2.2.2)).set 6 (.int .i64 (c.1:Nat)))) (fun _=>sH n l fo xs out)
  (fun c=>c.1∈Q∧vO n Q way c.1 c.2.1∧c.2.2.1++c.2.1=L0∧(c.2.2.1=[]→c.2.2.2=-1)∧(c.2.2.1≠[]→0<c.2.2.2∧c.2.2.2≤2147483647∧∀ s∈c.2.2.1,c.2.2.2≤dO n xs s)) (fun c=>c.2.1.length) (n.sink,L0,[],-1)
  ⟨γ,W,rfl,fun _=>rfl,fun h=>absurd rfl h⟩ Lq (fun _ _ h=>h) ?_
 rintro⟨v,L,P,z⟩ ⟨hv,hB,O,κ,δ⟩;dsimp only at hv hB O κ δ;simp only[go_sem,aoS,aoW,w,A];have σ:=hS.lt v hv;have χ:(v:Int)<(n.nodes:Nat):=Om;by_cases R:v=n.source
 ·have hL:L=[]:=by
   cases hB with
   | nil=>rfl
   | cons _ h _=>exact absurd R h
  subst hL;rw[a9W] at O;subst O;have Y:(v:Int)=n.source:=Om;have ξ:P≠[]:=by
   rintro rfl;have:=I.apart;generalize hk:n.sink=k at *
   cases W;exact this rfl
  obtain⟨z0,z1,F⟩:=δ ξ;obtain⟨j,rfl⟩:∃ j:Nat,z=j:=⟨z.toNat,by omega⟩;simp only[go_sem,bJ Y,aoY,w,A];refine wp_loop (α:=Nat × List cT × List Nat) (fun c=>((((PF.nil.set 0 (.ptr l 6 0 0)).set 1 (ints (byL stI n Q way))).set 5 (.int .i64 (j:Nat))).set 9 (.int .i64 (c.1:Nat)))) (fun c=>sH n l fo c.2.2 out)
   (fun c=>c.1∈Q∧vO n Q way c.1 c.2.1∧aw n xs c.2.2 j c.1 c.2.1∧∀ s∈c.2.1,j≤dO n xs s) (fun c=>c.2.1.length) (n.sink,P,xs)
   ⟨γ,W,Hb hF j P,fun s M=>by have:=F s M; omega⟩ Lq (fun _ _ h=>h) ?_
  rintro⟨u,L,x⟩ ⟨hu,J,hM,E⟩;dsimp only at hu J hM E;simp only[go_sem,Wf,Wg,w,A];have ρ:=hS.lt u hu;have φ:(u:Int)<(n.nodes:Nat):=Om;by_cases N:u=n.source
  ·have hL:L=[]:=by
    cases J with
    | nil=>rfl
    | cons _ h _=>exact absurd N h
   subst hL;subst N;obtain⟨k1,k2⟩:=W9 I hF hM;simp only[go_sem,bJ (show (n.source:Int)=n.source from rfl),Wj];exact bA (vs:=[.int .i64 (j:Nat)]) (.inr rfl) (sH n l fo x out) rfl (fun _ _ h=>h) ⟨x,j,by omega,k1,k2,rfl,rfl⟩
  ·have ε:¬ (u:Int)=n.source:=Om;have ν:=J;cases J with
   | nil=>exact absurd rfl N
   | @cons _ L _ _ J =>
   have ο:=E _ (List.mem_cons_self ..);obtain⟨g1,g2,g3⟩:=Xa hS hM ν hu ο;obtain⟨s1,s2,s3,s4,s5⟩:=hS.way u hu N;have β:=hM.same _ (List.mem_cons_self ..);have B:=aRY (way:=way) ρ hu N;generalize M:way u=s at *
   obtain⟨i,S⟩:=s;have s1:i<n.arcs.length:=s1;have ι:i<x.length:=by rw[hM.len]; exact s1
   have θ:(i:Int)<(x.length:Nat):=Om;have τ:=room_le I hx (s:=(i,S)) s1;have ψ:=hx.le i s1;have X:=(I.ends _ (a8G s1)).2.2;rw[nC s1] at X;have hk:=I.num;dsimp only at β;have η:((sH n l fo x out).set fo (.rows 1 (eV (push j x (i,S)))))=sH n l fo (push j x (i,S)) out:=by show (((PH.nil.set l (xD n fo x.length out)).set fo _).set fo _)=(PH.nil.set l (xD n fo (push j x (i,S)).length out)).set fo _;rw[PH.set_set,m8]
   have V:((PH.nil.set l (xD n fo x.length out)).set fo (.rows 1 (eV (push j x (i,S)))))=sH n l fo (push j x (i,S)) out:=by show _=(PH.nil.set l (xD n fo (push j x (i,S)).length out)).set fo _;rw[m8]
   have U:∀ s∈L,j≤dO n xs s:=fun s M=>E s (bbB _ M);cases S with
   | true =>
    have e0:stI (i,true)=(i:Int):=rfl;have hp:push j x (i,true)=x.set i (x.getD i 0+j):=rfl;have e2:dO n xs (i,true)=(bR n i).cap-xs.getD i 0:=rfl;have ew:IntKind.i64.wrap (((x.getD i 0:Nat):Int)+((j:Nat):Int))=((x.getD i 0+j:Nat):Int):=by rw[wrap_i64 Om Om]; omega
    simp only[go_sem,cM ε,kr,B,ku,e0,show (i:Int)≥0 by omega,Wh,w,A,θ,jP ι,ew,IP,a8R];rw[← hp]
    first | rw[η] | rw[V]
    simp only[go_sem,kw,B];refine dV (y n l fo _ out (i,true) I w s1) rfl (fun _ _ h=>h) ?_;rintro r H' ⟨rfl,rfl⟩ -;rw[PH.over_self _ (fun _ _ h=>h)];simp only[go_sem];exact aG (dK n (i,true),L,push j x (i,true)) ⟨g1,g2,g3,U⟩ (by simp) Lq (fun _ _ h=>h)
   | false =>
    have e0:stI (i,false)=-1-(i:Int):=rfl;have hp:push j x (i,false)=x.set i (x.getD i 0-j):=rfl;have e2:dO n xs (i,false)=xs.getD i 0:=rfl;have ei:IntKind.i64.wrap (-1-(-1-(i:Int)))=(i:Int):=by rw[wrap_i64 Om Om]; omega
    have ew:IntKind.i64.wrap (((x.getD i 0:Nat):Int)-((j:Nat):Int))=((x.getD i 0-j:Nat):Int):=by rw[wrap_i64 Om Om]; omega
    simp only[go_sem,cM ε,kr,B,ku,e0,show ¬ (-1-(i:Int))≥0 by omega,Wi,ei,w,A,θ,jP ι,ew,IP,a8R];rw[← hp]
    first | rw[η] | rw[V]
    simp only[go_sem,kw,B,← e0];refine dV (y n l fo _ out (i,false) I w s1) rfl (fun _ _ h=>h) ?_;rintro r H' ⟨rfl,rfl⟩ -;rw[PH.over_self _ (fun _ _ h=>h)];simp only[go_sem];exact aG (dK n (i,false),L,push j x (i,false)) ⟨g1,g2,g3,U⟩ (by simp) Lq (fun _ _ h=>h)
 ·have Y:¬ (v:Int)=n.source:=Om;cases hB with
  | nil=>exact absurd rfl R
  | @cons _ L _ _ hB =>
  obtain⟨s1,s2,s3,s4,s5⟩:=hS.way v hv R;have B:=aRY (way:=way) σ hv R;have υ:=room_le I hx s1;simp only[go_sem,cM Y,aoX,B];refine dV (Z n l fo xs out (way v) I w hx s1) rfl (fun _ _ h=>h) ?_;rintro r H' ⟨rfl,rfl⟩ -;rw[PH.over_self _ (fun _ _ h=>h)];have K:∀ F:Int,0<F→F≤dO n xs (way v)→(∀ s∈P,F≤dO n xs s)→dK n (way v)∈Q∧vO n Q way (dK n (way v)) L∧(P++[way v])++L=L0∧(P++[way v]=[]→F=-1)∧(P++[way v]≠[]→0<F∧F≤2147483647∧∀ s∈P++[way v],F≤dO n xs s):=fun F h0 h1 h2 =>
   ⟨s4,hB,by rw[a9L]; exact O,fun h=>by simp at h,fun _=>⟨h0,by omega,fun s M=>by
    rcases a9N.1 M with g | g
    ·exact h2 s g
    ·rw[a9K] at g; subst g; exact h1⟩⟩
  by_cases hP:P=[]
  ·have hz:=κ hP;subst hz;simp only[go_sem,b9,Ce,ca,B];refine dV (y n l fo xs out (way v) I w s1) rfl (fun _ _ h=>h) ?_;rintro r H' ⟨rfl,rfl⟩ -;rw[PH.over_self _ (fun _ _ h=>h)];simp only[go_sem];exact aG (dK n (way v),L,P++[way v],((dO n xs (way v):Nat):Int)) (K ((dO n xs (way v):Nat):Int) Om (Int.le_refl _) fun s M=>by rw[hP] at M; cases M) (by simp) Lq (fun _ _ h=>h)
  ·obtain⟨z0,z1,F⟩:=δ hP;have μ:¬ z<0:=Om;by_cases ζ:((dO n xs (way v):Nat):Int)<z
   ·simp only[go_sem,b9,μ,ζ,Ce,ca,B];refine dV (y n l fo xs out (way v) I w s1) rfl (fun _ _ h=>h) ?_;rintro r H' ⟨rfl,rfl⟩ -;rw[PH.over_self _ (fun _ _ h=>h)];simp only[go_sem];exact aG (dK n (way v),L,P++[way v],((dO n xs (way v):Nat):Int)) (K ((dO n xs (way v):Nat):Int) Om (Int.le_refl _) fun s M=>by have:=F s M; omega) (by simp) Lq (fun _ _ h=>h)
   ·simp only[go_sem,b9,μ,ζ,ca,B];refine dV (y n l fo xs out (way v) I w s1) rfl (fun _ _ h=>h) ?_;rintro r H' ⟨rfl,rfl⟩ -;rw[PH.over_self _ (fun _ _ h=>h)];simp only[go_sem];exact aG (dK n (way v),L,P++[way v],z) (K z z0 Om F) (by simp) Lq (fun _ _ h=>h)
theorem Im:∀ {l:List bN} {xs:List Nat} (a:bN) (x w:Nat),l.length=xs.length→gI (l++[a]) (xs++[x]) w=gI l xs w+(if a.src=w then (x:Int) else 0)-(if a.dst=w then (x:Int) else 0)
 | [],[],a,x,w,_=>by show (if a.src=w then (x:Int) else 0)-(if a.dst=w then (x:Int) else 0)+0=0+(if a.src=w then (x:Int) else 0)-(if a.dst=w then (x:Int) else 0);omega
 | b::l,y::xs,a,x,w,h=>by rw[bbR,bbR,gI,gI,Im (l:=l) (xs:=xs) a x w (by simpa using h)];omega
def sL (n:bY) (xs:List Nat) (k w:Nat):Int:=gI (n.arcs.take k) (xs.take k) w
def GT (n:bY) (xs:List Nat) (k:Nat):List Int:=(a8D n.nodes).map (sL n xs k)
theorem In {n:bY} {xs:List Nat} (l:pG n xs) {k:Nat} (j:k<n.arcs.length) (w:Nat):sL n xs (k+1) w=sL n xs k w+(if (bR n k).src=w then ((xs.getD k 0:Nat):Int) else 0)-(if (bR n k).dst=w then ((xs.getD k 0:Nat):Int) else 0):=by
 have e:k<xs.length:=by rw[l.len]; exact j
 unfold sL;rw[baF j,baF e,Im _ _ _ (by rw[a8W,a8W,l.len]),nC j];rw[a8M,a8L e]; rfl
theorem QR {n:bY} (l:eU n) {xs:List Nat} (j:pG n xs) (w:Nat):∀ (k:Nat),k≤n.arcs.length→-((k:Int)*2147483647)≤sL n xs k w∧sL n xs k w≤(k:Int)*2147483647
 | 0,_=>by have:sL n xs 0 w=0:=rfl;omega
 | k+1,h=>by have x:=QR l j w k Om;have e:k<n.arcs.length:=Om;have y:=j.le k e;have u:=(l.ends _ (a8G e)).2.2;rw[nC e] at u;rw[In j e w];split<;>split<;>omega
theorem aIP {C:Ctx} (hc:∀ n:bY,eU n→aH C 299 [.agg n.cells] .nil (aI (.bool true))) (n:bY) (M:eU n) (xs:List Nat) (hF:hZ n xs) :
  KR.wp C (aT Zm.res (aI (.tup [.int .i64 (jF n xs),.bool true]))) (PF.args [.agg n.cells,.sl 1 (eV xs)]) .nil:=by
 have N:=hF.in;have ο:=M.few;have hk:=M.num;have Z:(n.nodes:Int)*((8:Nat):Int)≤140737488355328:=Om;have β:(n.nodes:Int)≤9223372036854775807:=Om;have hl:(xs.length:Int)=(n.arcs.length:Nat):=by have:=N.len; omega
 have hz:a8F n.nodes [PV.int .i64 0]=bU (GT n xs 0):=by
  refine List.ext_getElem? fun i=>?_;unfold bU GT;rw[bcC,a8Y,a8Y];by_cases l:i<n.nodes
  ·rw[if_pos l,baS l]; rfl
  ·rw[if_neg l,a9S (by simpa using l)]; rfl
 simp only[go_sem,KR,J7,Zm,J8];refine aB (hc n M) rfl ?_;simp only[go_sem,a8E,bJ hl,J9,Z,β];refine aO fun b hb=>?_;simp only[go_sem,Ka];rw[hz];refine wp_loop (α:=Nat) (fun k=>((((PF.nil.set 1 (.sl 1 (eV xs))).set 2 (.bO n.cells)).set 6 (.osl b 1 0 n.nodes)).set 7 (.int .i64 (k:Nat)))) (fun k=>PH.nil.set b (.rows 1 (bU (GT n xs k)))) (fun k=>k≤n.arcs.length) (fun k=>n.arcs.length-k) 0 (a8K _) Lq (fun _ _ h=>h) ?_;intro k O;simp only[go_sem,xn,Kb,a8E];by_cases hlt:k<n.arcs.length
 ·have R:k<xs.length:=by rw[N.len]; exact hlt
  have E:(k:Int)<(xs.length:Nat):=Om;obtain⟨e1,e2,e3⟩:=M.ends _ (a8G hlt);rw[nC hlt] at e1 e2 e3;have ε:=N.le k hlt;have S:¬ ((xs.getD k 0:Nat):Int)<0:=Om;have U:¬ ((xs.getD k 0:Nat):Int)>((bR n k).cap:Int):=Om;have V:(((bR n k).src:Nat):Int)<(n.nodes:Nat):=Om;have W:(((bR n k).dst:Nat):Int)<(n.nodes:Nat):=Om;simp only[go_sem,E,Kc,kD hlt];refine aO fun p hp=>?_;have F:¬ p=b:=fun e=>by rw[e,bS] at hp; cases hp
  have y:¬ b=p:=fun e=>F e.symm;simp only[go_sem,F,y];refine aV .nil cA a_ ?_;simp only[go_sem,Kd,F,y,jP R,S,U];obtain⟨r1,r2⟩:=QR M N (bR n k).src k O;obtain⟨r3,r4⟩:=QR M N (bR n k).dst k O;have I:=In N hlt;have ξ:=ε;generalize μ:xs.getD k 0=x at *
  generalize ν:bR n k=a at *
  have A:∀ (g:Nat→Int) (t:Nat),t<n.nodes→(bU ((a8D n.nodes).map g))[t]?=some [.int .i64 (g t)]:=fun g t ht=>by unfold bU;rw[a8Y,a8Y,baS ht]; rfl
  let g1:Nat→Int:=fun w=>sL n xs k w+(if a.src=w then (x:Int) else 0)
  have γ:g1 a.src=sL n xs k a.src+x:=by show _+(if a.src=a.src then (x:Int) else 0)=_; rw[if_pos rfl]
  have η:(bU (GT n xs k)).set a.src [.int .i64 (sL n xs k a.src+x)]=bU ((a8D n.nodes).map g1):=by rw[rV];unfold GT;rw[qE (sL n xs k) g1 n.nodes a.src _ γ fun v hv=>by show _+(if a.src=v then (x:Int) else 0)=_; rw[if_neg fun e=>hv e.symm,Int.add_zero]]
  have θ:(bU ((a8D n.nodes).map g1)).set a.dst [.int .i64 (g1 a.dst-x)]=bU (GT n xs (k+1)):=by rw[rV];unfold GT;rw[qE g1 (sL n xs (k+1)) n.nodes a.dst (g1 a.dst-x) (by rw[I,if_pos rfl]) fun v hv=>by rw[I,if_neg (c:=a.dst=v) (fun e=>hv e.symm),Int.sub_zero]]
  have X:(bU (GT n xs k))[a.src]?=some [.int .i64 (sL n xs k a.src)]:=A _ _ e1;have Y:(bU ((a8D n.nodes).map g1))[a.dst]?=some [.int .i64 (g1 a.dst)]:=A _ _ e2;have ρ:g1 a.dst=sL n xs k a.dst∨g1 a.dst=sL n xs k a.dst+x:=by
   show _+(if a.src=a.dst then (x:Int) else 0)=_∨_+(if a.src=a.dst then (x:Int) else 0)=_;split
   ·exact .inr rfl
   ·exact .inl (Int.add_zero _)
  have ι:IntKind.i64.wrap (sL n xs k a.src+(x:Int))=sL n xs k a.src+x:=wrap_i64 Om Om;have κ:IntKind.i64.wrap (g1 a.dst-(x:Int))=g1 a.dst-x:=wrap_i64 Om Om;have B:=wZz k;have J:=jP R;rw[μ] at J;generalize g1=g2 at *
  refine aV .nil cA a_ ?_;simp only[go_sem,Ke,F,y,V,a8R,X,J,ι,η];refine⟨a_,?_⟩;refine aV .nil cA a_ ?_;simp only[go_sem,xp,F,y,W,a8R,Y,J,κ,θ];refine⟨a_,?_⟩;simp only[go_sem,xq,B];exact aG (k+1) hlt Om Lq (e_ a_ (by rw[bS]))
 ·have E:¬ (k:Int)<(xs.length:Nat):=Om;have δ:k=n.arcs.length:=Om;subst δ;simp only[go_sem,E,xr];have K:∀ w,sL n xs n.arcs.length w=gI n.arcs xs w:=fun w=>by unfold sL;rw[a8V (a8J _),a8V (by rw[N.len]; exact a8J _)]
  have A:∀ t,t<n.nodes→(bU (GT n xs n.arcs.length))[t]?=some [.int .i64 (gI n.arcs xs t)]:=fun t ht=>by unfold bU GT;rw[a8Y,a8Y,baS ht,← K]; rfl
  refine wp_loop (α:=Nat) (fun i=>((((PF.nil.set 1 (.sl 1 (eV xs))).set 2 (.bO n.cells)).set 6 (.osl b 1 0 n.nodes)).set 9 (.int .i64 (i:Nat)))) (fun _=>PH.nil.set b (.rows 1 (bU (GT n xs n.arcs.length)))) (fun i=>i≤n.nodes) (fun i=>n.nodes-i) 0 (a8K _) Lq (fun _ _ h=>h) ?_;intro i hi;simp only[go_sem,xo,xt];by_cases u:i<n.nodes
  ·have j:(i:Int)<(n.nodes:Nat):=Om;have B:=wZz i;by_cases S:i=n.source
   ·simp only[go_sem,j,EA,bJ (Om:((i:Nat):Int)=n.source),EB,B];exact aG (i+1) u Om Lq (fun _ _ h=>h)
   ·by_cases U:i=n.sink
    ·simp only[go_sem,j,EA,cM (Om:¬ ((i:Nat):Int)=n.source),bJ (Om:((i:Nat):Int)=n.sink),EB,B];exact aG (i+1) u Om Lq (fun _ _ h=>h)
    ·have h0:=A i u;rw[hF.node i u S U] at h0;simp only[go_sem,j,EA,cM (Om:¬ ((i:Nat):Int)=n.source),cM (Om:¬ ((i:Nat):Int)=n.sink),a8R,h0,EB,B];exact aG (i+1) u Om Lq (fun _ _ h=>h)
  ·have j:¬ (i:Int)<(n.nodes:Nat):=Om;have hs:=M.source;have ζ:(n.source:Int)<(n.nodes:Nat):=Om;simp only[go_sem,j,xu,ζ,a8R,A n.source hs];refine aR (.inr rfl) rfl ?_;rfl
theorem wp_cut {C:Ctx} {a c:aC} {K:cI} [Up K] {F:PF} {H:PH} {α:Type} (u:α→PF) (Hs:α→PH) (P:α→Prop) (w:a.wp C (fun e l H'=>e=.normal∧∃ x,P x∧(u x).le l∧Hs x=H') F H)
  (y:∀ x,P x→c.wp C K (u x) (Hs x)):a.wp C (jY C (c.wp C) K) F H:=by
 refine sQ a (fun e I J H' j B=>?_) (fun i v h=>h) w;obtain⟨rfl,x,E,A,rfl⟩:=B;exact sQ c (fun e F l H a h=>Up.up a h) (PF.le_trans A j) (y x E)
def stO (m:Nat) (s:cT):Int:=if s.2=true then (s.1:Int) else ((m+s.1:Nat):Int)
abbrev oX (fo:Nat) (xs:List Nat):PH:=PH.nil.set fo (.rows 1 (eV xs))
def aFJ (n:bY) (fo:Nat) (xs:List Nat) (r:PV) (H:PH):Prop :=
 ∃ Q way,qF n xs Q way∧FT n xs Q Q.length∧r=.tup [.sl 1 (aZ (seL n Q)),ints (byL (stO n.arcs.length) n Q way)]∧H=oX fo xs
theorem pI.new {n:bY} {xs:List Nat} {X:PH} {cd:cT→Int} {b e:Nat} {a:RS} (h:pI n xs X cd b e a) {p:Nat} (w:a.H p=none) (y:bZ):pI n xs X cd b e { a with H:=a.H.set p y }:=by
 have l:∀ o x,a.H o=some x→(a.H.set p y) o=some x:=fun o x j=>by rw[aS,if_neg (fun u=>by subst u; rw[w] at j; cases j)]; exact j
 exact⟨h.seen,h.done,h.dk,h.k,fun o x j=>l o x (h.base o x j),l _ _ h.hb,l _ _ h.he,h.hq.ext fun x A=>l _ x A,h.ne⟩
theorem pI.box {n:bY} {xs:List Nat} {X:PH} {cd:cT→Int} {b e:Nat} {a:RS} (h:pI n xs X cd b e a) {p:Nat} (A:a.H p=none) (y:bZ):pI n xs (X.set p y) cd b e { a with H:=a.H.set p y }:=by
 have u:∀ o x,a.H o=some x→(a.H.set p y) o=some x:=fun o x j=>by rw[aS,if_neg (fun l=>by subst l; rw[A] at j; cases j)]; exact j
 have hq:a.q≠p:=fun l=>by obtain⟨rs,E,_,w,_⟩:=h.hq;rw[l,A] at w; cases w
 refine⟨h.seen,h.done,h.dk,h.k,fun o x j=>?_,u _ _ h.hb,u _ _ h.he,h.hq.ext fun x B=>u _ x B,?_,h.ne.2⟩
 ·show (a.H.set p y) o=some x;rw[aS] at j ⊢;by_cases l:o=p
  ·rw[if_pos l] at j ⊢; exact j
  ·rw[if_neg l] at j ⊢; exact h.base o x j
 ·rw[aS,if_neg hq]; exact h.ne.1
theorem pI.unbox {n:bY} {xs:List Nat} {X:PH} {cd:cT→Int} {b e:Nat} {a:RS} {p:Nat} {y:bZ} (h:pI n xs (X.set p y) cd b e a) (w:X p=none):pI n xs X cd b e a:=by
 have u:∀ o x,X o=some x→(X.set p y) o=some x:=fun o x j=>by rw[aS,if_neg (fun l=>by subst l; rw[w] at j; cases j)]; exact j
 refine⟨h.seen,h.done,h.dk,h.k,fun o x j=>h.base o x (u o x j),h.hb,h.he,h.hq,?_,h.ne.2⟩;have:=h.ne.1;rw[aS] at this;split at this
 ·cases this
 ·exact this
theorem aWW {C:Ctx} {a1 a2 c:aC} {K:cI} [Up K] {F:PF} {H:PH} {α:Type} (j:α→PF) (Hs:α→PH) (P:α→Prop) (u:a1.wp C (jY C (a2.wp C) (fun e l H'=>e=.normal∧∃ x,P x∧(j x).le l∧Hs x=H')) F H)
  (w:∀ x,P x→c.wp C K (j x) (Hs x)):a1.wp C (jY C (a2.wp C) (jY C (c.wp C) K)) F H:=wp_cut (a:=.seq a1 a2) j Hs P u w
theorem aIJ {C : Ctx} (n : bY) (hn : eU n) (fo : Nat) (xs : List Nat) (hx : pG n xs) :
    KO.wp C (aT Zk.res (aFJ n fo xs)) (PF.args [.agg n.cells, .osl fo 1 0 xs.length]) (oX fo xs) := by
  have hfew := hn.few;have hsrc := hn.source;have hmany := hn.num;have hb1 : (n.nodes : Int) * ((8 : Nat) : Int) ≤ 140737488355328 := Om;have hb2 : (n.nodes : Int) ≤ 9223372036854775807 := Om;have hb3 : (n.nodes : Int) * ((1 : Nat) : Int) ≤ 140737488355328 := Om;have hs1 : (n.source : Int) < (n.nodes : Nat) := Om;simp only[go_sem,KO,Je,Zk];refine aV .nil cA a_ ?_;simp only[go_sem,Jf,hb1,hb2,hb3];refine aO fun e he => ?_;have e1 : ¬ fo = e := fun e0 => by rw [← e0, bS] at he; cases he
  have e1' : ¬ e = fo := fun e0 => e1 e0.symm;simp only[go_sem,hb1,hb2,hb3];refine aO fun b hb => ?_;have b1 : ¬ fo = b := fun e0 => by rw [← e0, aS, if_neg e1, bS] at hb; cases hb
  have b2 : ¬ e = b := fun e0 => by rw [← e0, bS] at hb; cases hb
  have b2' : ¬ b = e := fun e0 => b2 e0.symm;have hXb : (oX fo xs) b = none := by rw [aS, if_neg b2'] at hb; exact hb
  simp only[go_sem,Jg,b2,b2',hs1,bcC,bbP,hsrc,a8R,Jh];refine aO fun q hq => ?_;have q3 : ¬ b = q := fun e0 => by rw [← e0, aS, if_neg b2', bS] at hq; cases hq
  have q4 : ¬ e = q := fun e0 => by rw [← e0, bS] at hq; cases hq
  have hXq : (oX fo xs) q = none := by rw [aS, if_neg (fun h => q4 h.symm), aS, if_neg (fun h => q3 h.symm), aS, if_neg (fun h => q4 h.symm)] at hq; exact hq
  have hfoX : (oX fo xs) fo = some (.rows 1 (eV xs)) := by rw [bS]
  simp only[go_sem];rw [Qd (stO n.arcs.length) n (fun _ => (0, true)), acC];refine wp_loop (α := RS) (fun a => (((((PF.nil.set 1 (.osl fo 1 0 xs.length)).set 2 (.bO n.cells)).set 6 (.osl e 1 0 n.nodes)).set 7 (.osl b 1 0 n.nodes)).set 8 (a.v))) (fun a => a.H) (fun a => pI n xs (oX fo xs) (stO n.arcs.length) b e a ∧ a.d = a.k) (fun a => n.nodes - a.k)
    ⟨[n.source], 0, fun _ => (0, true), .osl q 1 0 1, q, ((((oX fo xs).set e (.rows 1 (a8F n.nodes [.bool false]))).set b (.rows 1 (bU (byL (stO n.arcs.length) n [n.source] (fun _ => (0, true)))))).set e (.rows 1 (aZ (seL n [n.source])))).set q (.rows 1 [[.int .i64 (n.source : Nat)]]), 0⟩
    ⟨⟨x5 hn xs _, Es n xs _, a8J _, a8K _, sJ (sJ (sJ (sJ (fun _ _ h => h) he) hXb) he) hXq,
      by rw [aS, if_neg q3, aS, if_neg b2', bS], by rw [aS, if_neg q4, bS], ⟨[[.int .i64 (n.source : Nat)]], 0, rfl, by rw [bS], by simp, rfl⟩, hXq, fun h => q3 h.symm, fun h => q4 h.symm⟩, rfl⟩ Lq (fun _ _ h => h) ?_
  rintro a ⟨hI, hdk⟩;obtain ⟨rs, off, hv, hq1, hq2, hq3⟩ := hI.hq;rw [a8E, a9Z] at hv hq2 hq3;simp only[go_sem,wu,Ji,hv];by_cases hk : a.k < a.Q.length
  · have c0 : ((a.Q.length - a.k : Nat) : Int) > 0 := Om
    have hc0 : (0 : Int) < ((a.Q.length - a.k : Nat) : Int) := c0;have hc1 : (1 : Int) ≤ ((a.Q.length - a.k : Nat) : Int) := Om;have hrs : rs[off]? = some [.int .i64 ((a.Q[a.k] : Nat) : Int)] := by
      have h5 : ((rs.drop off).take (a.Q.length - a.k))[0]? = (eV (a.Q.drop a.k))[0]? := by rw [hq3]
      rw [baZ, if_pos Om, bbO, a9P, a8Y, bbO, a9P, a8L hk] at h5;exact h5
    simp only[go_sem,c0,Jj,hc0,hq1,a9P,hrs,Jk,hc1,Int.le_refl,Jl];have hkn := HC hI.seen;have hI0 : pI n xs (oX fo xs) (stO n.arcs.length) b e ⟨a.Q, a.k + 1, a.way, .osl a.q 1 (off + 1) (a.Q.length - a.k - 1), a.q, a.H, a.d⟩ := by
      have hfl : (eV (a.Q.drop (a.k + 1))).length = a.Q.length - a.k - 1 := by rw [a8E, a9Z, Nat.sub_sub]
      refine ⟨hI.seen, hI.done, Nat.le_succ_of_le hI.dk, hk, hI.base, hI.hb, hI.he, ⟨rs, off + 1, by rw [hfl], hq1, by rw [hfl]; omega, ?_⟩, hI.ne⟩;rw [hfl];have h7 := congrArg (List.drop 1) hq3;rw [List.drop_take, List.drop_drop] at h7;rw [h7];show List.drop 1 (List.map _ _) = _;rw [← List.map_drop, List.drop_drop]
    refine wp_loop (α := RS × Nat) (fun c => (((((((PF.nil.set 1 (.osl fo 1 0 xs.length)).set 2 (.bO n.cells)).set 6 (.osl e 1 0 n.nodes)).set 7 (.osl b 1 0 n.nodes)).set 8 (c.1.v)).set 9 (.int .i64 ((a.Q[a.k] : Nat) : Int))).set 10 (.int .i64 (c.2 : Nat)))) (fun c => c.1.H)
      (fun c => pI n xs (oX fo xs) (stO n.arcs.length) b e c.1 ∧ c.1.d = a.k ∧ c.1.k = a.k + 1 ∧ c.1.Q[a.k]? = some a.Q[a.k] ∧ c.2 ≤ n.arcs.length ∧ ∀ s : cT, s.1 < c.2 → dK n s = a.Q[a.k] → 0 < dO n xs s → fP n s ∈ c.1.Q) (fun c => n.arcs.length - c.2) (⟨a.Q, a.k + 1, a.way, .osl a.q 1 (off + 1) (a.Q.length - a.k - 1), a.q, a.H, a.d⟩, 0)
      ⟨hI0, hdk, rfl, a8L hk, a8K _, fun s h => by omega⟩ Lq (fun _ _ h => h) ?_
    rintro ⟨a', j⟩ ⟨hI', hd', hk', hQk, hj, a7W⟩;dsimp only at hI' hd' hk' hQk hj a7W;simp only[go_sem,wt,Jm,a8E];by_cases hlt : j < n.arcs.length
    · have a6W : (j : Int) < (n.arcs.length : Nat) := Om
      have hjx : j < xs.length := by rw [hx.len]; exact hlt
      have hjx' : (j : Int) < (xs.length : Nat) := Om;have hm := hn.num;obtain ⟨z1, z2, z3⟩ := hn.ends _ (a8G hlt);rw [nC hlt] at z1 z2 z3;have z1' : (((bR n j).src : Nat) : Int) < (n.nodes : Nat) := Om;have z2' : (((bR n j).dst : Nat) : Int) < (n.nodes : Nat) := Om;have hxle := hx.le j hlt;have hjw := wZz j;have hmw : IntKind.i64.wrap ((n.arcs.length : Int) + (j : Int)) = ((n.arcs.length + j : Nat) : Int) := by rw [wrap_i64 Om Om]; omega
      have hwQ : a.Q[a.k] ∈ a'.Q := baA hQk;simp only[go_sem,a6W,Jn,kD hlt];refine aO fun p hp => ?_;have hXp : (oX fo xs) p = none := by
        cases hxp : (oX fo xs) p with
        | none => rfl
        | some y => rw [hI'.base _ _ hxp] at hp; cases hp
      have p1 : ¬ p = fo := fun e0 => by rw [e0, hfoX] at hXp; cases hXp
      have p1' : ¬ fo = p := fun e0 => p1 e0.symm;have p2 : ¬ p = e := fun e0 => by rw [e0, hI'.he] at hp; cases hp
      have p2' : ¬ e = p := fun e0 => p2 e0.symm;have p3 : ¬ p = b := fun e0 => by rw [e0, hI'.hb] at hp; cases hp
      have p3' : ¬ b = p := fun e0 => p3 e0.symm;simp only[go_sem];have hI1 := hI'.box hp (.rows 4 [(bR n j).cells]);have hQk1 : ({ a' with H := a'.H.set p (.rows 4 [(bR n j).cells]) } : RS).Q[a.k]? = some a.Q[a.k] := hQk;have hd1 : ({ a' with H := a'.H.set p (.rows 4 [(bR n j).cells]) } : RS).d = a.k := hd';have hk1 : ({ a' with H := a'.H.set p (.rows 4 [(bR n j).cells]) } : RS).k = a.k + 1 := hk';have hX1 : ((oX fo xs).set p (.rows 4 [(bR n j).cells])) b = none ∧ ((oX fo xs).set p (.rows 4 [(bR n j).cells])) e = none ∧ ¬ b = e := ⟨by rw [aS, if_neg p3']; exact hXb, by rw [aS, if_neg p2']; exact he, b2'⟩;have hQs : ∀ Q : List Nat, Q[a.k]? = some a.Q[a.k] → ∀ t, (Q ++ [t])[a.k]? = some a.Q[a.k] := fun Q h t => by obtain ⟨l1, l2⟩ := a9F.1 h;rw [baB l1]; exact h
      have hsrcQ : ∀ c : RS, pI n xs ((oX fo xs).set p (.rows 4 [(bR n j).cells])) (stO n.arcs.length) b e c → n.source ∈ c.Q := fun c h => by obtain ⟨t, ht⟩ := h.seen.first; rw [ht]; simp
      refine aWW (α := RS) (fun c => ((((((((PF.nil.set 1 (.osl fo 1 0 xs.length)).set 2 (.bO n.cells)).set 6 (.osl e 1 0 n.nodes)).set 7 (.osl b 1 0 n.nodes)).set 8 (c.v)).set 9 (.int .i64 ((a.Q[a.k] : Nat) : Int))).set 10 (.int .i64 (j : Nat))).set 11 (.ptr p 4 0 0))) (fun c => c.H)
        (fun c => pI n xs ((oX fo xs).set p (.rows 4 [(bR n j).cells])) (stO n.arcs.length) b e c ∧ c.d = a.k ∧ c.k = a.k + 1 ∧ c.Q[a.k]? = some a.Q[a.k] ∧ (∀ v ∈ a'.Q, v ∈ c.Q) ∧ ((bR n j).src = a.Q[a.k] → xs.getD j 0 < (bR n j).cap → (bR n j).dst ∈ c.Q)) ?_ ?_
      · have hel : (bR n j).dst < (seL n a'.Q).length := by rw [AM]; exact z2
        have hbl : (bR n j).dst < (byL (stO n.arcs.length) n a'.Q a'.way).length := by rw [MQ]; exact z2
        have hbr := eP hel;rw [NL z2] at hbr;have hir := AD hbl;by_cases c1 : (bR n j).src = a.Q[a.k]
        · have c1' : ((((bR n j).src : Nat) : Int) == ((a.Q[a.k] : Nat) : Int)) = true := bP Om
          cases hc : a'.Q.contains (bR n j).dst with
          | true =>rw [hc] at hbr;refine aV .nil cA a_ ?_;simp only[go_sem,yX,c1',p2,p2',z2',hI'.he,a8R,hbr];exact ⟨_, ⟨hI1, hd1, hk1, hQk1, fun _ h => h, fun _ _ => bcA.1 hc⟩, by exact Lq, rfl⟩
          | false =>
            rw [hc] at hbr;have hnin : (bR n j).dst ∉ a'.Q := fun h => by rw [bcA.2 h] at hc; cases hc
            by_cases c3 : xs.getD j 0 < (bR n j).cap
            · have c3' : ((xs.getD j 0 : Nat) : Int) < ((bR n j).cap : Int) := Om
              have hs1 : (bU (byL (stO n.arcs.length) n a'.Q a'.way)).set (bR n j).dst [.int .i64 (j : Int)] = bU (byL (stO n.arcs.length) n (a'.Q ++ [(bR n j).dst]) (HL a'.way (bR n j).dst (j, true))) := by rw [rV]; exact congrArg bU (Bk (s := (j, true)) (by obtain ⟨t, ht⟩ := hI'.seen.first; rw [ht]; simp) hnin)
              refine aV .nil cA a_ ?_;simp only[go_sem,yX,c1',p2,p2',z2',hI'.he,a8R,hbr,p1,p1',hI'.base _ _ hfoX,hjx',jP hjx,c3'];refine aV (PH.nil.set p (.rows 4 [(bR n j).cells])) cA (e_ a_ (by rw [bS])) ?_;simp only[go_sem,ww,p2,p2',z2',hI'.he,a8R,hbr];refine ⟨e_ a_ (by rw [aS, if_neg p2, bS]), ?_⟩;refine aV .nil cA a_ ?_;simp only[go_sem,wx,b2,b2',p3,p3',hI'.hb,a8R,hir,hs1,iD,Do];refine ⟨a_, ?_⟩;simp only[go_sem,wy,p2,p2',p3,p3'];refine pI.step hn hI1 hX1 (s := (j, true)) hlt (by rw [show dK n (j, true) = (bR n j).src from rfl, c1]; exact hwQ) hnin (by show 0 < (bR n j).cap - xs.getD j 0; omega) fun a2 g1 g2 g3 g4 => ?_;exact ⟨a2, ⟨g1, g4.trans hd', g3.trans hk', by rw [g2]; exact hQs _ hQk _, fun v h => by rw [g2]; exact bbQ _ h, fun _ _ => by rw [g2]; exact List.mem_append_right _ (a9K.2 rfl)⟩, by exact Lq, rfl⟩
            · have c3' : ¬ ((xs.getD j 0 : Nat) : Int) < ((bR n j).cap : Int) := Om
              refine aV .nil cA a_ ?_;simp only[go_sem,yX,c1',p2,p2',z2',hI'.he,a8R,hbr,p1,p1',hI'.base _ _ hfoX,hjx',jP hjx,c3'];exact ⟨_, ⟨hI1, hd1, hk1, hQk1, fun _ h => h, fun _ h => absurd h c3⟩, by exact Lq, rfl⟩
        · have c1' : ((((bR n j).src : Nat) : Int) == ((a.Q[a.k] : Nat) : Int)) = false := bD Om
          refine aV .nil cA a_ ?_;simp only[go_sem,yX,c1'];exact ⟨_, ⟨hI1, hd1, hk1, hQk1, fun _ h => h, fun h => absurd h c1⟩, by exact Lq, rfl⟩
      · rintro a2 ⟨hI2, hd2, hk2, hQk2, hup, hf⟩
        have hpp : a2.H p = some (.rows 4 [(bR n j).cells]) := hI2.base _ _ (by rw [bS]);have hfo2 : a2.H fo = some (.rows 1 (eV xs)) := hI2.base _ _ (by rw [aS, if_neg p1']; exact hfoX);have hel : (bR n j).src < (seL n a2.Q).length := by rw [AM]; exact z1
        have hbl : (bR n j).src < (byL (stO n.arcs.length) n a2.Q a2.way).length := by rw [MQ]; exact z1
        have hbr := eP hel;rw [NL z1] at hbr;have hir := AD hbl;have hend : ∀ c : RS, pI n xs ((oX fo xs).set p (.rows 4 [(bR n j).cells])) (stO n.arcs.length) b e c → (∀ v ∈ a2.Q, v ∈ c.Q) → ((bR n j).dst = a.Q[a.k] → 0 < xs.getD j 0 → (bR n j).src ∈ c.Q) → ∀ s : cT, s.1 < j + 1 → dK n s = a.Q[a.k] → 0 < dO n xs s → fP n s ∈ c.Q := fun c _ g2 g3 s g4 g5 g6 => by
          rcases a8Z s.1 j with h | h
          · exact g2 _ (hup _ (a7W s h g5 g6))
          · obtain ⟨i, bb⟩ := s
            have hij : i = j := by have : i < j + 1 := g4; have : j ≤ i := h; omega
            subst hij;cases bb with
            | true => exact g2 _ (hf g5 (by have : 0 < (bR n i).cap - xs.getD i 0 := g6; omega))
            | false => exact g3 g5 g6
        by_cases c1 : (bR n j).dst = a.Q[a.k]
        · have c1' : ((((bR n j).dst : Nat) : Int) == ((a.Q[a.k] : Nat) : Int)) = true := bP Om
          cases hc : a2.Q.contains (bR n j).src with
          | true =>rw [hc] at hbr;simp only[go_sem,yY,c1',hpp,z1',hI2.he,a8R,hbr,yZ,hjw];exact aG (a2, j + 1) ⟨hI2.unbox hXp, hd2, hk2, hQk2, hlt, hend a2 hI2 (fun _ h => h) fun _ _ => bcA.1 hc⟩ (by dsimp only; omega) Lq (fun _ _ h => h)
          | false =>
            rw [hc] at hbr;have hnin : (bR n j).src ∉ a2.Q := fun h => by rw [bcA.2 h] at hc; cases hc
            by_cases c3 : 0 < xs.getD j 0
            · have c3' : ((xs.getD j 0 : Nat) : Int) > 0 := Om
              have hs1 : (bU (byL (stO n.arcs.length) n a2.Q a2.way)).set (bR n j).src [.int .i64 ((n.arcs.length + j : Nat) : Int)] = bU (byL (stO n.arcs.length) n (a2.Q ++ [(bR n j).src]) (HL a2.way (bR n j).src (j, false))) := by rw [rV]; exact congrArg bU (Bk (s := (j, false)) (hsrcQ _ hI2) hnin)
              simp only[go_sem,yY,c1',hpp,z1',hI2.he,a8R,hbr,hfo2,hjx',jP hjx,c3'];refine aV (PH.nil.set p (.rows 4 [(bR n j).cells])) cA (e_ a_ hpp) ?_;simp only[go_sem,wz,p2,p2',hpp,z1',hI2.he,a8R,hbr,a8E,hmw];refine ⟨e_ a_ (by rw [aS, if_neg p2]; exact hpp), ?_⟩;refine aV .nil cA a_ ?_;simp only[go_sem,w9,b2,b2',p3,p3',hI2.hb,a8R,hir,hs1,iD,Do];refine ⟨a_, ?_⟩;simp only[go_sem,xa,p2,p2',p3,p3',hpp];refine pI.step hn hI2 hX1 (s := (j, false)) hlt (by rw [show dK n (j, false) = (bR n j).dst from rfl, c1]; exact baA hQk2) hnin c3 fun a3 g1 g2 g3 g4 => ?_;simp only[go_sem,yZ,hjw];exact aG (a3, j + 1) ⟨g1.unbox hXp, g4.trans hd2, g3.trans hk2, by rw [g2]; exact hQs _ hQk2 _, hlt, hend a3 g1 (fun v h => by rw [g2]; exact bbQ _ h) fun _ _ => by rw [g2]; exact List.mem_append_right _ (a9K.2 rfl)⟩ (by dsimp only; omega) Lq (fun _ _ h => h)
            · have c3' : ¬ ((xs.getD j 0 : Nat) : Int) > 0 := Om
              simp only[go_sem,yY,c1',hpp,z1',hI2.he,a8R,hbr,hfo2,hjx',jP hjx,c3',yZ,hjw];exact aG (a2, j + 1) ⟨hI2.unbox hXp, hd2, hk2, hQk2, hlt, hend a2 hI2 (fun _ h => h) fun _ h => absurd h c3⟩ (by dsimp only; omega) Lq (fun _ _ h => h)
        · have c1' : ((((bR n j).dst : Nat) : Int) == ((a.Q[a.k] : Nat) : Int)) = false := bD Om
          simp only[go_sem,yY,c1',hpp,yZ,hjw];exact aG (a2, j + 1) ⟨hI2.unbox hXp, hd2, hk2, hQk2, hlt, hend a2 hI2 (fun _ h => h) fun h => absurd h c1⟩ (by dsimp only; omega) Lq (fun _ _ h => h)
    · have a6W : ¬ (j : Int) < (n.arcs.length : Nat) := Om
      have hdn : FT n xs a'.Q (a.k + 1) := Er (by rw [← hd']; exact hI'.done) hQk fun s g1 g2 g3 => a7W s Om g2 g3;have hsl := HC hI'.seen;obtain ⟨l1, l2⟩ := a9F.1 hQk;simp only[go_sem,a6W];exact aG { a' with d := a.k + 1 } ⟨⟨hI'.seen, hdn, by show a.k + 1 ≤ a'.k; omega, hI'.k, hI'.base, hI'.hb, hI'.he, hI'.hq, hI'.ne⟩, hk'.symm⟩ (by show n.nodes - a'.k < n.nodes - a.k; omega) Lq (fun _ _ h => h)
  · have c0 : ¬ ((a.Q.length - a.k : Nat) : Int) > 0 := Om
    have hkk : a.k = a.Q.length := by have := hI.k; omega
    simp only[go_sem,c0,xb];refine pE (vs := [.osl e 1 0 n.nodes, .osl b 1 0 n.nodes]) (.inr rfl) rfl ?_;refine Fh (H2 := oX fo xs) hI.he hI.hb b2' (Flat.map _ fun x c hc q s rs => by rw [a9K] at hc; subst hc; rfl) (by rw [gE, AM]) (by unfold bU; rw [a8E, MQ]) ?_ ⟨a.Q, a.way, hI.seen, by rw [← hkk, ← hdk]; exact hI.done, rfl, rfl⟩;have flx : Flat (eV xs) := Flat.map xs fun x c hc q s rs => by rw [a9K] at hc;subst hc;rfl
    exact e_ a_ (wV (wV (hI.base _ _ hfoX) e1 (wU flx 1)) b1 (wU flx 1))
theorem aFO {cd:cT→Int} {n:bY} {Q:List Nat} {way:Nat→cT} {v:Nat} (h:v<n.nodes) (j:v∈Q) (e:v≠n.source):((byL cd n Q way).map fun x=>[PV.int .i64 x])[v]?=some [.int .i64 (cd (way v))]:=by
 unfold byL;rw[a8Y,a8Y,baS h,a9J,a9J,if_pos ⟨j,e⟩]
def VA (n:bY) (r:PV) (H:PH):Prop :=
 ∃ xs S,hZ n xs∧jF n xs=dQ S n.arcs∧S n.source=true∧S n.sink=false∧r=.tup [.sl 1 (eV xs),.int .i64 (jF n xs),.sl 1 (aZ ((a8D n.nodes).map S)),.int .i64 0]∧H=PH.nil
def azY (n:bY):Nat:=dQ (fun v=>decide (v=n.source)) n.arcs
theorem afS {n:bY} (j:eU n) {xs:List Nat} (h:hZ n xs):jF n xs≤azY n:=h.aGV j (by simp) (by simpa using fun e=>j.apart e.symm)
theorem EE (m:Nat):a8F m [PV.int .i64 0]=eV (a8F m 0):=by
 show _=List.map _ (a8F m 0);rw[List.map_replicate]; rfl
theorem aIK {C:Ctx} (S:∀ n:bY,eU n→aH C 299 [.agg n.cells] .nil (aI (.bool true)))
  (U:∀ (n:bY) (xs:List Nat),eU n→hZ n xs→aH C 300 [.agg n.cells,.sl 1 (eV xs)] .nil (aI (.tup [.int .i64 (jF n xs),.bool true])))
  (O:∀ (n:bY) (fo:Nat) (xs:List Nat),eU n→pG n xs→aH C 302 [.agg n.cells,.osl fo 1 0 n.arcs.length] (oX fo xs) (aFJ n fo xs))
  (n:bY) (x:eU n):KP.wp C (aT GR.res (VA n)) (PF.args [.agg n.cells]) .nil:=by
 have hm:=x.num;have ο:(n.arcs.length:Int)*((8:Nat):Int)≤140737488355328:=Om;have ρ:(n.arcs.length:Int)≤9223372036854775807:=Om;have Θ:(n.sink:Int)<(n.nodes:Nat):=by have:=x.sink; omega
 simp only[go_sem,KP,Jp,GR,Jq];refine aB (S n x) rfl ?_;simp only[go_sem,Jr,a8E,ο,ρ];refine aO fun fo ω=>?_;simp only[go_sem];rw[EE];refine wp_loop (α:=List Nat) (fun _=>((PF.nil.set 1 (.bO n.cells)).set 6 (.osl fo 1 0 n.arcs.length))) (fun xs=>oX fo xs) (fun xs=>hZ n xs) (fun xs=>(azY n-jF n xs).toNat) (a8F n.arcs.length 0) (HW n).1 Lq (fun _ _ h=>h) ?_;intro xs Z;have hx:=Z.in;have κ:=Z.len;simp only[go_sem,xe,Js];refine dV (O n fo xs x hx) rfl (fun _ _ h=>h) ?_;rintro r H' ⟨Q,way,W,hD,rfl,rfl⟩ -;rw[PH.over_self _ (fun _ _ h=>h)];have I:=eP (R:=seL n Q) (i:=n.sink) (by rw[AM]; exact x.sink);rw[NL x.sink] at I;cases hc:Q.contains n.sink with
 | false =>
  rw[hc] at I;simp only[go_sem,YC,I,Jt];have ι:n.sink ∉ Q:=fun h=>by rw[bcA.2 h] at hc; cases hc
  have hT:(eV xs).take n.arcs.length=eV xs:=a8V (by rw[a8E,κ]; exact a8J _);have θ:n.arcs.length≤xs.length:=Om;refine tH (o:=fo) (s:=1) (rs:=eV xs) (U n xs x Z) Sq (by simp only[go_sem,hT,θ]; rfl) ?_;simp only[go_sem,Ju,hT,θ];refine bA (vs:=[.sl 1 (eV xs),.int .i64 (jF n xs),.sl 1 (aZ (seL n Q)),.int .i64 0]) (.inr rfl) .nil rfl a_ ⟨xs,fun v=>Q.contains v,Z,acE x Z W hD ι,?_,hc,rfl,rfl⟩;obtain⟨t,ht⟩:=W.first;rw[ht]; simp
 | true =>
  rw[hc] at I;have J:n.sink∈Q:=bcA.1 hc;simp only[go_sem,YC,I,Jv,Jw];obtain⟨L0,ζ,-⟩:=Em W _ n.sink rfl J;refine wp_loop (α:=Nat × List cT × List cT × Int) (fun c=>(((((PF.nil.set 1 (.bO n.cells)).set 6 (.osl fo 1 0 n.arcs.length)).set 8 (ints (byL (stO n.arcs.length) n Q way))).set 11 (.int .i64 c.2.2.2)).set 12 (.int .i64 (c.1:Nat)))) (fun _=>oX fo xs)
   (fun c=>c.1∈Q∧vO n Q way c.1 c.2.1∧c.2.2.1++c.2.1=L0∧0<c.2.2.2∧c.2.2.2≤2147483647∧∀ s∈c.2.2.1,c.2.2.2≤dO n xs s) (fun c=>c.2.1.length) (n.sink,L0,[],2147483647)
   ⟨J,ζ,rfl,(show (0:Int)<2147483647 by decide),(show (2147483647:Int)≤2147483647 by decide),fun s h=>by cases h⟩ Lq (fun _ _ h=>h) ?_
  rintro⟨v,L,P,z⟩ ⟨hv,hB,M,δ,φ,ε⟩;dsimp only at hv hB M δ φ ε;have υ:=W.lt v hv;have Ξ:(v:Int)<(n.nodes:Nat):=Om;simp only[go_sem,xc,xf];by_cases V:v=n.source
  ·have hL:L=[]:=by
    cases hB with
    | nil=>rfl
    | cons _ h _=>exact absurd V h
   subst hL;rw[a9W] at M;subst M;have N:(v:Int)=n.source:=Om;obtain⟨e,rfl⟩:∃ e:Nat,z=e:=⟨z.toNat,by omega⟩;simp only[go_sem,bJ N,xg];refine wp_loop (α:=Nat × List cT × List Nat) (fun c=>(((((PF.nil.set 1 (.bO n.cells)).set 6 (.osl fo 1 0 n.arcs.length)).set 8 (ints (byL (stO n.arcs.length) n Q way))).set 11 (.int .i64 (e:Nat))).set 14 (.int .i64 (c.1:Nat)))) (fun c=>oX fo c.2.2)
    (fun c=>c.1∈Q∧vO n Q way c.1 c.2.1∧aw n xs c.2.2 e c.1 c.2.1∧∀ s∈c.2.1,e≤dO n xs s) (fun c=>c.2.1.length) (n.sink,P,xs)
    ⟨J,ζ,Hb Z e P,fun s hs=>by have:=ε s hs; omega⟩ Lq (fun _ _ h=>h) ?_
   rintro⟨u,L,A⟩ ⟨hu,E,hM,l⟩;dsimp only at hu E hM l;simp only[go_sem,xd,xh];have τ:=W.lt u hu;have Λ:(u:Int)<(n.nodes:Nat):=Om;by_cases K:u=n.source
   ·have hL:L=[]:=by
     cases E with
     | nil=>rfl
     | cons _ h _=>exact absurd K h
    subst hL;subst K;obtain⟨k1,k2⟩:=W9 x Z hM;have ψ:=afS x k1;simp only[go_sem,bJ (show (n.source:Int)=n.source from rfl)];exact aG A k1 Om Lq (fun _ _ h=>h)
   ·have η:¬ (u:Int)=n.source:=Om;have ξ:=E;cases E with
    | nil=>exact absurd rfl K
    | @cons _ L _ _ E =>
    have σ:=l _ (List.mem_cons_self ..);obtain⟨g1,g2,g3⟩:=Xa W hM ξ hu σ;obtain⟨s1,s2,s3,s4,s5⟩:=W.way u hu K;have γ:=hM.same _ (List.mem_cons_self ..);have F:=aFO (cd:=stO n.arcs.length) (way:=way) τ hu K;generalize hs:way u=s at *
    obtain⟨i,bb⟩:=s;have s1:i<n.arcs.length:=s1;have ν:i<A.length:=by rw[hM.len]; exact s1
    have μ:(i:Int)<(n.arcs.length:Nat):=Om;have χ:=room_le x hx (s:=(i,bb)) s1;have B:=hx.le i s1;have j:=(x.ends _ (a8G s1)).2.2;rw[nC s1] at j;dsimp only at γ;have X:∀ s∈L,e≤dO n xs s:=fun s hs=>l s (bbB _ hs);cases bb with
    | true =>
     have Y:stO n.arcs.length (i,true)=(i:Int):=rfl;have hp:push e A (i,true)=A.set i (A.getD i 0+e):=rfl;have e2:dO n xs (i,true)=(bR n i).cap-xs.getD i 0:=rfl;have ew:IntKind.i64.wrap (((A.getD i 0:Nat):Int)+((e:Nat):Int))=((A.getD i 0+e:Nat):Int):=by rw[wrap_i64 Om Om]; omega
     simp only[go_sem,cM η,RI,F,Y,RJ,a8E,μ,xi,jP ν,a8R,ew,IP,PH.set_set,xj,kD s1];rw[← hp];exact aG (dK n (i,true),L,push e A (i,true)) ⟨g1,g2,g3,X⟩ (by simp) Lq (fun _ _ h=>h)
    | false =>
     have Y:stO n.arcs.length (i,false)=((n.arcs.length+i:Nat):Int):=rfl;have hp:push e A (i,false)=A.set i (A.getD i 0-e):=rfl;have e2:dO n xs (i,false)=xs.getD i 0:=rfl;have β:¬ ((n.arcs.length+i:Nat):Int)<(n.arcs.length:Nat):=Om;have ei:IntKind.i64.wrap (((n.arcs.length+i:Nat):Int)-(n.arcs.length:Int))=(i:Int):=by rw[wrap_i64 Om Om]; omega
     have ew:IntKind.i64.wrap (((A.getD i 0:Nat):Int)-((e:Nat):Int))=((A.getD i 0-e:Nat):Int):=by rw[wrap_i64 Om Om]; omega
     simp only[go_sem,cM η,RI,F,Y,RJ,a8E,β];refine aV .nil cA a_ ?_;simp only[go_sem,xk,a8E,ei,μ,jP ν,a8R,ew,IP,PH.set_set];rw[← hp];refine⟨a_,?_⟩;simp only[go_sem,xl,a8E,ei,kD s1];exact aG (dK n (i,false),L,push e A (i,false)) ⟨g1,g2,g3,X⟩ (by simp) Lq (fun _ _ h=>h)
  ·have N:¬ (v:Int)=n.source:=Om;cases hB with
   | nil=>exact absurd rfl V
   | @cons _ L _ _ hB =>
   obtain⟨s1,s2,s3,s4,s5⟩:=W.way v hv V;have F:=aFO (cd:=stO n.arcs.length) (way:=way) υ hv V;have Δ:=room_le x hx s1;have w:∀ z2:Int,0<z2→z2≤z→z2≤dO n xs (way v)→dK n (way v)∈Q∧vO n Q way (dK n (way v)) L∧(P++[way v])++L=L0∧0<z2∧z2≤2147483647∧∀ s∈P++[way v],z2≤dO n xs s:=fun z2 h0 h1 h2 =>
    ⟨s4,hB,by rw[a9L]; exact M,h0,by omega,fun s hs=>by
     rcases a9N.1 hs with g | g
     ·have:=ε s g; omega
     ·rw[a9K] at g; subst g; exact h2⟩
   generalize hs:way v=s at *
   obtain⟨i,bb⟩:=s;have s1:i<n.arcs.length:=s1;have y:i<xs.length:=by rw[κ]; exact s1
   have B:(i:Int)<(n.arcs.length:Nat):=Om;have Γ:=hx.le i s1;have j:=(x.ends _ (a8G s1)).2.2;rw[nC s1] at j;cases bb with
   | true =>
    have Y:stO n.arcs.length (i,true)=(i:Int):=rfl;have e2:dO n xs (i,true)=(bR n i).cap-xs.getD i 0:=rfl;have ew:IntKind.i64.wrap (((bR n i).cap:Int)-((xs.getD i 0:Nat):Int))=((dO n xs (i,true):Nat):Int):=by rw[wrap_i64 Om Om,e2]; omega
    simp only[go_sem,cM N,RD,F,Y,RE,a8E,B];refine aV .nil cA a_ ?_;by_cases hlt:((dO n xs (i,true):Nat):Int)<z
    ·simp only[go_sem,RG,kD s1,B,jP y,a8R,ew,hlt];exact aG (dK n (i,true),L,P++[(i,true)],((dO n xs (i,true):Nat):Int)) (w ((dO n xs (i,true):Nat):Int) Om Om (Int.le_refl _)) (by simp) Lq (fun _ _ h=>h)
    ·simp only[go_sem,RG,kD s1,B,jP y,a8R,ew,hlt];exact aG (dK n (i,true),L,P++[(i,true)],z) (w z δ (Int.le_refl _) Om) (by simp) Lq (fun _ _ h=>h)
   | false =>
    have Y:stO n.arcs.length (i,false)=((n.arcs.length+i:Nat):Int):=rfl;have e2:dO n xs (i,false)=xs.getD i 0:=rfl;have β:¬ ((n.arcs.length+i:Nat):Int)<(n.arcs.length:Nat):=Om;have ei:IntKind.i64.wrap (((n.arcs.length+i:Nat):Int)-(n.arcs.length:Int))=(i:Int):=by rw[wrap_i64 Om Om]; omega
    simp only[go_sem,cM N,RD,F,Y,RE,a8E,β];refine aV .nil cA a_ ?_;by_cases hlt:((xs.getD i 0:Nat):Int)<z
    ·simp only[go_sem,RH,a8E,ei,kD s1,B,jP y,a8R,hlt];exact aG (dK n (i,false),L,P++[(i,false)],((xs.getD i 0:Nat):Int)) (w ((xs.getD i 0:Nat):Int) Om Om (Int.le_refl _)) (by simp) Lq (fun _ _ h=>h)
    ·simp only[go_sem,RH,a8E,ei,kD s1,B,jP y,a8R,hlt];exact aG (dK n (i,false),L,P++[(i,false)],z) (w z δ (Int.le_refl _) Om) (by simp) Lq (fun _ _ h=>h)
theorem mh:∀ (ps:WPs) {H:PH} {B:List BX} {J:PV} (y:List (List PV)) (l:List (List Int)),oH y l→aM H B ((J,1,y++dR ps)::hC ps)→(∀ b∈B,∀ q∈eF (hC ps),∀ s rs,bZ.frz q s rs b.2=b.2) →
  ∃ (φ:PV→PV) (I:PH) (A:List (List PV)),oH A (l++wls ps)∧aM I B [(J,1,A)]∧(∀ u,Fx u→φ u=u)∧∀ F,kP F H (LW φ F) I
 | [],H,B,J,y,l,K,h,_=>⟨id,H,y,by rw[show wls []=[] from rfl,a9W]; exact K,by rw[show y++dR []=y from a9W _] at h; exact h,fun _ _=>rfl,fun F=>by
   have:LW id F=F:=funext fun i=>by rw[vL,Option.map_id]; rfl
   rw[this]; exact .refl _ _⟩
 | (v,w)::ps,H,B,J,y,l,K,h,hB=>by
  have eo:∀ u:PV,y++[[u]]++dR ps=y++[u]::dR ps:=fun u=>by rw[a9L]; rfl
  have S:l++[w]++wls ps=l++wls ((v,w)::ps):=by rw[a9L]; rfl
  have ho:cR H 1 v (bU w):=h.own 1 rfl;have E:∀ q,q∈eF (hC ps)→q∈eF (hC ((v,w)::ps)):=fun q hq=>by obtain⟨x,hx,e⟩:=List.mem_filterMap.1 hq;exact List.mem_filterMap.2 ⟨x,bbB _ hx,e⟩
  rcases ho with ⟨h1,rfl⟩ | ⟨q,rs,rfl,_⟩
  ·have hw:w=[]:=List.map_eq_nil_iff.1 h1;have h2:=h.be 1;obtain⟨φ,I,A,k1,k2,O,R⟩:=mh ps (y++[[.aD]]) (l++[w]) (K.snoc (.inr ⟨rfl,hw⟩)) (by rw[eo]; exact h2) (fun b hb q hq=>hB b hb q (E q hq));rw[S] at k1;exact⟨φ,I,A,k1,k2,O,R⟩
  ·obtain⟨rs,z1,z2,z3,z4,W⟩:=h.frz 1 rfl;have N:q∈eF (hC ((.osl q 1 0 (bU w).length,w)::ps)):=List.mem_filterMap.2 ⟨_,List.mem_cons_self ..,rfl⟩;have Y:(B.map fun b=>(b.1,b.2.frz q 1 rs))=B:=by
    conv=>rhs; rw[← List.map_id B]
    refine baM fun b hb=>?_;rw[hB b hb q N 1 rs]; rfl
   have yp:∀ p∈ps,PV.cQ q 1 rs p.1=p.1:=fun p M=>by obtain⟨j,hj⟩:=List.mem_iff_getElem?.1 M;exact z4 (j+2) (p.1,1,bU p.2) Om (FH hj)
   have er:(y++dR ((.osl q 1 0 (bU w).length,w)::ps)).map (fun r=>r.map (PV.cQ q 1 rs))=y++[[ints w]]++dR ps:=by
    rw[a9U,K.flat,a9L];congr 1;show [PV.cQ q 1 rs (.osl q 1 0 (bU w).length)]::(dR ps).map _=_;rw[z2];have:(dR ps).map (fun r=>r.map (PV.cQ q 1 rs))=dR ps:=by unfold dR;rw[List.map_map];refine baM fun p M=>?_;show [PV.cQ q 1 rs p.1]=_;rw[yp p M]
    rw[this];rfl
   have Z:(hC ps).map (fun x=>(x.1,x.2.1,x.2.2.map fun r=>r.map (PV.cQ q 1 rs)))=hC ps:=by unfold hC;rw[List.map_map];refine baM fun p _=>?_;show (p.1,1,(bU p.2).map fun r=>r.map (PV.cQ q 1 rs))=_;rw[show (bU p.2).map (fun r=>r.map (PV.cQ q 1 rs))=bU p.2 from Flat.map p.2 (fun x c U q s rs=>by rw[a9K] at U; subst U; rfl) q 1 rs]
   have z6:aM (H.frz q 1 rs) B ((J,1,y++[[ints w]]++dR ps)::hC ps):=by rw[Y] at W;have X:aM (H.frz q 1 rs) B ((J,1,(y++dR ((.osl q 1 0 (bU w).length,w)::ps)).map (fun r=>r.map (PV.cQ q 1 rs)))::(hC ps).map (fun x=>(x.1,x.2.1,x.2.2.map fun r=>r.map (PV.cQ q 1 rs)))):=W;rw[er,Z] at X;exact X
   obtain⟨φ,I,A,k1,k2,O,R⟩:=mh ps (y++[[ints w]]) (l++[w]) (K.snoc (.inl rfl)) z6 (fun b hb q hq=>hB b hb q (E q hq));rw[S] at k1;refine⟨fun u=>φ (PV.frz q 1 rs u),I,A,k1,k2,fun u V=>?_,fun F=>.step q z1 ?_⟩
   ·simp only;rw[V,O u V]
   ·have:LW (fun u=>φ (PV.frz q 1 rs u)) F=LW φ (F.frz q 1 rs):=funext fun i=>by rw[vL,vL,rM,Option.map_map];rfl
    rw[this];exact R _
theorem ajM {C:Ctx} {c:aC} {K:cI} {F l:PF} {H u:PH} (B:kP F H l u) (h:aC.wp C (.loop c) K l u):aC.wp C (.loop c) K F H:=by
 obtain⟨α,x,Hs,y,m,A,w,H2,j,e⟩:=h;exact⟨α,x,Hs,y,m,A,w,H2,B.trans j,e⟩
theorem aEL {φ:PV→PV} (j:∀ u,Fx u→φ u=u) {F:PF} {i o s:Nat} {rs:List (List PV)} {u:PV} (h:F i=some u) (e:Fx u):((LW φ F).frz o s rs) i=some u:=by
 rw[rM,vL,h,a9J,a9J,j u e,e]
theorem aM.aCP {H:PH} {B:List BX} {L:List LI} (h:aM H B L):∀ N:Nat,aM H B (L++a8F N (.aD,1,[]))
 | 0=>by rw[List.replicate_zero,a9W]; exact h
 | N+1=>by rw[List.replicate_succ',← a9L];exact (h.aCP N).kB 1
structure CN (n:bY) (T:cT→Prop) (c:Nat) (ws:List (List Int)):Prop where
 len:ws.length=n.nodes
 all:∀ s:cT,T s→stI s∈ws.getD (dK n s) []
 only:∀ v c,c∈ws.getD v []→∃ s:cT,T s∧dK n s=v∧c=stI s
 few:∀ v,(ws.getD v []).length≤c
theorem CN.add {n:bY} {T:cT→Prop} {c:Nat} {ws:List (List Int)} (h:CN n T c ws) {s0:cT} (l:dK n s0<n.nodes) :
  CN n (fun s=>T s∨s=s0) (c+1) (ws.set (dK n s0) (ws.getD (dK n s0) []++[stI s0])):=by
 have E:dK n s0<ws.length:=by rw[h.len]; exact l
 have j:∀ v,(ws.set (dK n s0) (ws.getD (dK n s0) []++[stI s0])).getD v []=if v=dK n s0 then ws.getD v []++[stI s0] else ws.getD v []:=fun v=>by
  rw[a8M,bbV];by_cases e:v=dK n s0
  ·subst e;rw[if_pos rfl,if_pos E,if_pos rfl]; rfl
  ·rw[if_neg (fun B=>e B.symm),if_neg e,← a8M]
 refine⟨by rw[a9X]; exact h.len,fun s l=>?_,fun v x u=>?_,fun v=>?_⟩
 ·rw[j];rcases l with l | rfl
  ·split
   ·exact bbQ _ (h.all s l)
   ·exact h.all s l
  ·rw[if_pos rfl]; simp
 ·rw[j] at u;split at u
  ·rename_i e;rcases a9N.1 u with g | g
   ·obtain⟨s,w,y,A⟩:=h.only v x g;exact⟨s,.inl w,y,A⟩
   ·rw[a9K] at g;exact⟨s0,.inr rfl,e.symm,g⟩
  ·obtain⟨s,w,y,A⟩:=h.only v x u;exact⟨s,.inl w,y,A⟩
 ·have:=h.few v;rw[j];split
  ·rw[a8H,a8N]; omega
  ·omega
theorem CN.zero (n:bY):CN n (fun s=>s.1<0) 0 (a8F n.nodes []):=by
 have:∀ v,(a8F n.nodes ([]:List Int)).getD v []=[]:=fun v=>by rw[a8M,bcC];split<;>rfl
 exact⟨by simp,fun s j=>absurd j (Nat.not_lt_zero _),fun v c e=>(by rw[this] at e; cases e),fun v=>by rw[this]; exact a8J _⟩
theorem CN.ok {n:bY} (e:eU n) {ws:List (List Int)} (h:CN n (fun s=>s.1<n.arcs.length) (2*n.arcs.length) ws):O3 n ws :=
 ⟨h.len,h.all,h.only,fun v=>by have:=h.few v; have:=e.num; omega⟩
theorem cx (ps:WPs) (i:Nat) (p:PV × List Int):wls (ps.set i p)=(wls ps).set i p.2:=List.map_set ..
theorem cw {ps:WPs} {i:Nat} {p:PV × List Int} (h:ps[i]?=some p):(wls ps).getD i []=p.2:=by
 unfold wls;rw[a8M,a8Y,h]; rfl
theorem aST {n:bY} (e:eU n):azY n≤2500*2147483647:=by
 have j:=Bm (fun v=>decide (v=n.source)) (M:=2147483647) (l:=n.arcs) fun a u=>(e.ends a u).2.2;exact baK j (a9H 2147483647 e.num)
structure aXN where
 k:Nat
 ps:WPs
 H:PH
abbrev aSC (n:bY) (j fo e:Nat):List BX:=[(fo,.rows 1 (eV (a8F n.arcs.length 0))),(j,xD n fo n.arcs.length (.osl e 1 0 n.nodes))]
structure a0B (n:bY) (so fo oo:Nat) (a:aXN):Prop where
 k:a.k≤n.arcs.length
 len:a.ps.length=n.nodes
 heap:aM a.H (aSC n so fo oo) (sK (.osl oo 1 0 n.nodes) a.ps)
 out:CN n (fun s=>s.1<a.k) (2*a.k) (wls a.ps)
theorem arQ {H:PH} {B:List BX} {u N:Nat} {ps:WPs} (h:aM H B (sK (.osl u 1 0 N) ps)) (E:ps.length=N) {i:Nat} (hi:i<N):∃ rs v w,H u=some (.rows 1 rs)∧ps[i]?=some (v,w)∧rs[i]?=some [v]:=by
 obtain⟨rs,x,y,A,j⟩:=h.outer.id rfl;rw[CC] at y A j;have e:i<ps.length:=Om;refine⟨rs,(ps[i]).1,(ps[i]).2,x,a8L e,?_⟩;have h5:=congrArg (fun l=>l[i]?) j
 try simp only at h5
 rw[baZ,if_pos e] at h5;rw[h5];exact xA (a8L e)
theorem aHG {C:Ctx} (Y:∀ n:bY,eU n→aH C 292 [.agg n.cells] .nil (aI (.bool true)))
  (X:∀ (n:bY) (j fo:Nat) (xs:List Nat) (y:List (List PV)) (ε:List (List Int)),eU n→¬ j=fo→pG n xs→oH y ε→O3 n ε→aH C 296 [.ptr j 6 0 0] (sH n j fo xs (mJ y)) (aFK n j fo xs (mJ y)))
  (κ:∀ (n:bY) (j fo:Nat) (xs:List Nat) (out:PV) (Q:List Nat) (way:Nat→cT),eU n→¬ j=fo→hZ n xs→qF n xs Q way→n.sink∈Q→aH C 297 [.ptr j 6 0 0,ints (byL stI n Q way)] (sH n j fo xs out) (aXK n j fo xs out))
  (n:bY) (J:eU n):JV.wp C (aT Xv.res (VA n)) (PF.args [.agg n.cells]) .nil:=by
 have hm:=J.num;have j':=J.few;have μ:(n.arcs.length:Int)*((8:Nat):Int)≤140737488355328:=Om;have ν:(n.arcs.length:Int)≤9223372036854775807:=Om;have ξ:(n.nodes:Int)*((24:Nat):Int)≤140737488355328:=Om;have ο:(n.nodes:Int)≤9223372036854775807:=Om;have o':(n.sink:Int)<(n.nodes:Nat):=by have:=J.sink; omega
 simp only[go_sem,JV,Hn,Xv,Ho];refine aB (Y n J) rfl ?_;simp only[go_sem];refine aV .nil cA a_ ?_;simp only[go_sem,Hp,a8E,μ,ν,ξ,ο];refine aO fun fo Ω=>?_;simp only[go_sem,μ,ν,ξ,ο];refine aO fun u τ=>?_;simp only[go_sem];refine aO fun j A=>?_;have V:¬ j=fo:=fun e=>by
  rw[e,aS] at A;split at A
  ·cases A
  ·rw[bS] at A;cases A
 simp only[go_sem,Hq,a8E];rw[EE];have h0:aM PH.nil ([]:List BX) ([]:List LI):=aM.nil;have h1:=(h0.new Ω (.rows 1 (eV (a8F n.arcs.length 0))));rw[EE] at τ;have S:=(h1.Cy (s:=1) (rows:=a8F n.nodes [.aD]) τ);rw[EE] at A;have h3:=(S.new A (xD n fo n.arcs.length (.osl u 1 0 n.nodes)));have h4:=h3.aCP n.nodes;have e4:([]++[((.osl u 1 0 (a8F n.nodes [PV.aD]).length:PV),1,a8F n.nodes [PV.aD])]:List LI)++a8F n.nodes (.aD,1,[])=sK (.osl u 1 0 n.nodes) (a8F n.nodes (.aD,[])):=by unfold sK dR hC;rw[List.map_replicate,List.map_replicate,bbP]; rfl
 rw[e4] at h4;refine wp_loop (α:=aXN) (fun a=>(((((PF.nil.set 1 (.bO n.cells)).set 6 (.ptr j 6 0 0)).set 26 (Bh n.arcs)).set 27 (.int .i64 (n.arcs.length:Nat))).set 28 (.int .i64 (a.k:Nat)))) (fun a=>a.H) (a0B n j fo u) (fun a=>n.arcs.length-a.k) ⟨0,a8F n.nodes (.aD,[]),_⟩
  ⟨a8K _,bbP,h4,by
   have:wls (a8F n.nodes ((.aD,[]):PV × List Int))=a8F n.nodes []:=by unfold wls; rw[List.map_replicate]
   show CN n _ _ (wls (a8F n.nodes ((.aD,[]):PV × List Int)));rw[this];exact CN.zero n⟩ Lq (fun _ _ h=>h) ?_
 rintro⟨k,ps,H⟩ ⟨hk,ζ,hH,hO⟩;dsimp only at hk ζ hH hO;simp only[go_sem,vi,Hr];by_cases hlt:k<n.arcs.length
 ·have M:(k:Int)<(n.arcs.length:Nat):=Om;obtain⟨z1,z2,z3⟩:=J.ends _ (a8G hlt);rw[nC hlt] at z1 z2 z3;have Δ:(((bR n k).src:Nat):Int)<(n.nodes:Nat):=Om;have Θ:(((bR n k).dst:Nat):Int)<(n.nodes:Nat):=Om;have b':=wZz k;have c':IntKind.i64.wrap (-1-(k:Int))=-1-(k:Int):=wrap_i64 Om Om;simp only[go_sem,M,Ht,kD hlt];refine aO fun p hp=>?_;have k':H fo=some _:=hH.at 0 rfl;have O:H j=some _:=hH.at 1 rfl;have p1:¬ j=p:=fun e0=>by rw[e0,hp] at O; cases O
  have Γ:¬ p=j:=fun e0=>p1 e0.symm;have F:=hH.new hp (.rows 4 [(bR n k).cells]);obtain⟨rs,v,w,g1,g2,g3⟩:=arQ F ζ z1;have I:(wls ps).getD (bR n k).src []=w:=cw g2;have Z:=hO.few (bR n k).src;rw[I] at Z;have ω:(H.set p (.rows 4 [(bR n k).cells])) j=some _:=F.at 1 rfl;have υ:(H.set p (.rows 4 [(bR n k).cells])) p=some _:=F.at 2 rfl;have op:¬ u=p:=fun e0=>by rw[e0,υ] at g1; injection g1 with g1; injection g1 with g1; cases g1
  simp only[go_sem];refine aV ((PH.nil.set j (xD n fo n.arcs.length (.osl u 1 0 n.nodes))).set p (.rows 4 [(bR n k).cells])) cA (e_ (e_ a_ ω) υ) ?_;rw[aS,if_neg op] at g1;simp only[go_sem,Hu,p1,Γ,op,O,Δ,g1,a8R,g3];refine F.aSH (src:=[(k:Int)]) g2 (by simp[fL,bU]) (by unfold roomFor; simp only[a8N,maxLen]; omega) (by simp) fun q H2 S=>?_;refine⟨e_ (e_ a_ (S.at 1 rfl)) (S.at 2 rfl),?_⟩
  try simp only[go_sem,Δ]
  refine aV .nil cA a_ ?_;obtain⟨rs2,j1,j2,j3,j4⟩:=S.aJV;have W:rs2[(bR n k).src]?=some [v]:=by
   have h5:=congrArg (fun l=>l[(bR n k).src]?) j3
   try simp only at h5
   rw[baZ,if_pos z1] at h5;rw[h5]; exact xA g2
  simp only[go_sem,Hv,j1,a8R,W];refine⟨a_,?_⟩;generalize γ:ps.set (bR n k).src (.osl q 1 0 (w++[(k:Int)]).length,w++[(k:Int)])=K at *
  have β:K.length=n.nodes:=by rw[← γ,a9X]; exact ζ
  have θ:CN n (fun s=>s.1<k∨s=(k,true)) (2*k+1) (wls K):=by have:=hO.add (s0:=(k,true)) z1;rw[show dK n (k,true)=(bR n k).src from rfl,I] at this;rw[← γ,cx];exact this
  generalize H2.set u (.rows 1 (rs2.set (bR n k).src [.osl q 1 0 (w++[(k:Int)]).length]))=H3 at *
  clear j1 j2 j3 W S g1 g2 g3 I Z;obtain⟨rs,v2,w2,g1,g2,g3⟩:=arQ j4 β z2;have I:(wls K).getD (bR n k).dst []=w2:=cw g2;have Z:=θ.few (bR n k).dst;rw[I] at Z;have δ:H3 j=some _:=j4.at 1 rfl;have χ:H3 p=some _:=j4.at 2 rfl;refine aV ((PH.nil.set j (xD n fo n.arcs.length (.osl u 1 0 n.nodes))).set p (.rows 4 [(bR n k).cells])) cA (e_ (e_ a_ δ) χ) ?_;simp only[go_sem,Hw,p1,Γ,op,δ,χ,Θ,g1,a8R,g3,c'];refine j4.aSH (src:=[-1-(k:Int)]) g2 (by simp[fL,bU]) (by unfold roomFor; simp only[a8N,maxLen]; omega) (by simp) fun q2 H4 h4=>?_;refine⟨e_ (e_ a_ (h4.at 1 rfl)) (h4.at 2 rfl),?_⟩
  try simp only[go_sem,Θ]
  refine aV .nil cA a_ ?_;obtain⟨rs2,i1,i2,i3,i4⟩:=h4.aJV;have W:rs2[(bR n k).dst]?=some [v2]:=by
   have h5:=congrArg (fun l=>l[(bR n k).dst]?) i3
   try simp only at h5
   rw[baZ,if_pos z2] at h5;rw[h5]; exact xA g2
  simp only[go_sem,vk,i1,a8R,W];refine⟨a_,?_⟩;simp only[go_sem,vl,b'];have U:CN n (fun s=>(s.1<k∨s=(k,true))∨s=(k,false)) (2*k+1+1) (wls (K.set (bR n k).dst (.osl q2 1 0 (w2++[-1-(k:Int)]).length,w2++[-1-(k:Int)]))):=by have:=θ.add (s0:=(k,false)) z2;rw[show dK n (k,false)=(bR n k).dst from rfl,I] at this;rw[cx];exact this
  refine aG ⟨k+1,K.set (bR n k).dst (.osl q2 1 0 (w2++[-1-(k:Int)]).length,w2++[-1-(k:Int)]),_⟩ ⟨hlt,by show (K.set _ _).length=_; rw[a9X]; exact β,aM.dropLast (B:=aSC n j fo u) i4,⟨U.len,fun s hs=>U.all s ?_,fun v c E=>?_,fun v=>by have:=U.few v; show _≤2*(k+1); omega⟩⟩ (by show n.arcs.length-(k+1)<n.arcs.length-k; omega) Lq (fun _ _ h=>h)
  ·obtain⟨i,b⟩:=s;have hs:i<k+1:=hs;rcases a8Z i k with c | c
   ·exact .inl (.inl c)
   ·have:i=k:=Om;subst this;cases b
    ·exact .inr rfl
    ·exact .inl (.inr rfl)
  ·obtain⟨s,h1,S,h3⟩:=U.only v c E;refine⟨s,?_,S,h3⟩;rcases h1 with (h1 | rfl) | rfl
   ·exact Nat.lt_succ_of_lt h1
   ·exact Nat.lt_succ_self _
   ·exact Nat.lt_succ_self _
 ·have M:¬ (k:Int)<(n.arcs.length:Nat):=Om;have a':k=n.arcs.length:=Om;subst a';have Ψ:O3 n (wls ps):=hO.ok J;have e':∀ q∈eF (hC ps),¬ fo=q∧¬ u=q:=fun q hq=>by refine⟨hH.ndX (o:=fo) (by simp[eZ]) (by show q∈u::eF (hC ps); exact bbB _ hq),fun e=>?_⟩;have h5:(u::eF (hC ps)).Nodup:=hH.ndL;exact (List.nodup_cons.1 h5).1 (e ▸ hq)
  obtain⟨φ,H1,y,ι,F,g',hz⟩:=mh ps [] [] .nil (show aM H _ ((.osl u 1 0 n.nodes,1,[]++dR ps)::hC ps) from hH) (fun b hb q hq s rs=>by
   obtain⟨q1,q2⟩:=e' q hq;rcases a8S.1 hb with rfl | hb
   ·exact wU (Flat.map _ fun x c E q s rs=>by rw[a9K] at E; subst E; rfl) 1
   ·rw[a9K] at hb;subst hb;simp[bZ.frz,PV.cQ,q1,q2])
  rw[bbK] at ι;obtain⟨rs,y1,y2,y3,y4,y5⟩:=F.frz 0 rfl;have of:¬ fo=u:=fun e=>by have:=hH.ndX (o:=fo) (q:=u) (by simp[eZ]) (by simp[eF,sK,PV.oid]);exact this e
  have Ξ:bZ.frz u 1 rs (.rows 1 (eV (a8F n.arcs.length 0)))=.rows 1 (eV (a8F n.arcs.length 0)):=wU (Flat.map _ fun x c E q s rs=>by rw[a9K] at E; subst E; rfl) 1;have Φ:bZ.frz u 1 rs (xD n fo n.arcs.length (.osl u 1 0 n.nodes))=xD n fo n.arcs.length (mJ y):=by show bZ.rows 6 [[_,_,_,_,PV.cQ u 1 rs (.osl fo 1 0 n.arcs.length),PV.cQ u 1 rs (.osl u 1 0 n.nodes)]]=_;rw[y2];simp[PV.cQ,of]
  have h':(H1.frz u 1 rs) fo=some (.rows 1 (eV (a8F n.arcs.length 0))):=by have:=y5.at 0 rfl; rw[Ξ] at this; exact this
  have i':(H1.frz u 1 rs) j=some (xD n fo n.arcs.length (mJ y)):=by have:=y5.at 1 rfl; rw[Φ] at this; exact this
  simp only[go_sem,M,vm];refine ajM ((hz _).trans (.step u y1 (.refl _ _))) ?_;refine wp_loop (α:=List Nat) (fun xs=>(((PF.nil.set 1 (.bO n.cells)).set 6 (.ptr j 6 0 0)).set 9 (.int .i64 (jF n xs)))) (fun xs=>sH n j fo xs (mJ y)) (fun xs=>hZ n xs∧0≤jF n xs) (fun xs=>(azY n-jF n xs).toNat) (a8F n.arcs.length 0) ⟨(HW n).1,by rw[(HW n).2]; decide⟩
   (d_ (d_ (d_ c_ (aEL g' rfl (Fx.bO _))) (aEL g' rfl (Fx.ptr _ _ _ _))) (aEL g' (by simp only[go_sem,(HW n).2]) (Fx.int _ _))) (e_ (e_ a_ (by rw[bbP]; exact i')) h') ?_
  rintro xs ⟨hF,p'⟩;have hx:=hF.in;have q':=hF.len;simp only[go_sem,vj,vn];refine dV (X n j fo xs y (wls ps) J V hx ι Ψ) rfl (fun _ _ h=>h) ?_;rintro r H' ⟨Q,way,hS,hD,rfl,rfl⟩ -;rw[PH.over_self _ (fun _ _ h=>h)];have N:=eP (R:=seL n Q) (i:=n.sink) (by rw[AM]; exact J.sink);rw[NL J.sink] at N;have ρ:¬ fo=j:=fun e=>V e.symm;cases E:Q.contains n.sink with
  | false =>
   rw[E] at N;simp only[go_sem,QM,N,vp,V,ρ];have σ:n.sink ∉ Q:=fun h=>by rw[bcA.2 h] at E; cases E
   refine pE (vs:=[.osl fo 1 0 xs.length,.int .i64 (jF n xs),.sl 1 (aZ (seL n Q)),.int .i64 0]) (.inr rfl) rfl ?_;refine sA.step (q:=fo) (s:=1) (rs:=eV xs) (by rw[bS]) ?_;have ev:PV.frz fo 1 (eV xs) (cB [.osl fo 1 0 xs.length,.int .i64 (jF n xs),.sl 1 (aZ (seL n Q)),.int .i64 0])=.tup [.sl 1 (eV xs),.int .i64 (jF n xs),.sl 1 (aZ (seL n Q)),.int .i64 0]:=by have hT:(eV xs).take xs.length=eV xs:=a8V (by rw[a8E]; exact a8J _);simp[cB,PV.frz,PV.tX,PV.cQ,hT]
   rw[ev];refine sA.done (H2:=.nil) ⟨xs,fun v=>Q.contains v,hF,acE J hF hS hD σ,?_,E,rfl,rfl⟩ a_;obtain⟨t,ht⟩:=hS.first;rw[ht]; simp
  | true =>
   rw[E] at N;have ψ:n.sink∈Q:=bcA.1 E;simp only[go_sem,QM,N,vq];refine dV (κ n j fo xs (mJ y) Q way J V hF hS ψ) rfl (fun _ _ h=>h) ?_;rintro r H' ⟨ys,Λ,ha,η,hv,rfl,rfl⟩ l';have d':(sH n j fo xs (mJ y)).over (sH n j fo xs (mJ y)) (sH n j fo ys (mJ y))=sH n j fo ys (mJ y):=PH.ext fun o=>by
    show (match (sH n j fo ys (mJ y)) o with | some x=>some x | none=>match (sH n j fo xs (mJ y)) o with | some _=>some .dead | none=>(sH n j fo xs (mJ y)) o)=(sH n j fo ys (mJ y)) o;have e1:∀ (zs:List Nat),¬ o=fo→¬ o=j→(sH n j fo zs (mJ y)) o=none:=fun zs h1 S=>by rw[aS,if_neg h1,aS,if_neg S]; rfl
    by_cases c1:o=fo
    ·subst c1; rw[bS]
    ·by_cases c2:o=j
     ·subst c2; rw[aS,if_neg c1,bS]
     ·rw[e1 ys c1 c2,e1 xs c1 c2]
   rw[d'];have m':=afS J η;have n':=aST J;have f':IntKind.i64.wrap (jF n xs+((Λ:Nat):Int))=jF n ys:=by rw[wrap_i64 Om Om,hv]
   simp only[go_sem,f'];exact aG ys ⟨η,by omega⟩ Om Lq (fun _ _ h=>h)
def nK (f:aE) (l:List bN) (xs:List Nat) (k:Nat):List (List Int):=(a8D f.a6R.length).map fun v=>nA f v (l.take k) (xs.take k)
theorem kk (f:aE) (l:List bN) (xs:List Nat) (k:Nat):(nK f l xs k).length=f.a6R.length:=by simp[nK]
theorem Gi (f:aE) (l:List bN) (xs:List Nat):nK f l xs 0=a8F f.a6R.length []:=by
 refine List.ext_getElem (by simp[nK]) fun i e j=>?_;simp[nK,nA]
theorem Vn {f:aE} {l:List bN} {xs:List Nat} (h:xs.length=l.length):nK f l xs l.length=CP f l xs:=by
 unfold nK CP;rw[a9M,a8V Om]
theorem RY (f:aE) (v:Nat) {l:List bN} {xs:List Nat} (u:xs.length=l.length) {k:Nat} (j:k<l.length):nA f v (l.take (k+1)) (xs.take (k+1))=nA f v (l.take k) (xs.take k)++zC f v l[k] (xs.getD k 0):=by
 have e:k<xs.length:=Om;rw[baF j,baF e,uF f v _ _ (by rw[a8W,a8W,u])];rw[show xs.getD k 0=xs[k] by simp[a8M,e]];simp[nA]
theorem Gh {f:aE} {l:List bN} {xs:List Nat} (j:xs.length=l.length) {k:Nat} (e:k<l.length) (h:l[k].dst<aY f 0∨xs.getD k 0=0):nK f l xs (k+1)=nK f l xs k:=by
 unfold nK;refine baM fun v _=>?_;rw[RY f v j e];have:zC f v l[k] (xs.getD k 0)=[]:=by
  unfold zC YF;rcases h with h | h
  ·rw[decide_eq_false Om]; rfl
  ·rw[h]; simp
 rw[this,a9W]
theorem Vo {f:aE} {l:List bN} {xs:List Nat} (u:xs.length=l.length) {k:Nat} (j:k<l.length) (w:aY f 0≤l[k].dst) (x:xs.getD k 0≠0) (B:EO f l[k]<f.a6R.length) :
  (nK f l xs k).set (EO f l[k]) ((nK f l xs k).getD (EO f l[k]) []++[((l[k].dst-aY f 0:Nat):Int)])=nK f l xs (k+1):=by
 have y:(nK f l xs k).getD (EO f l[k]) []=nA f (EO f l[k]) (l.take k) (xs.take k):=by unfold nK;rw[a8M,a8Y,baS B]; rfl
 rw[y];unfold nK;refine qE _ _ _ _ _ ?_ fun v A=>?_
 ·rw[RY f _ u j];unfold zC YF;rw[decide_eq_true w,decide_eq_true x,decide_eq_true rfl]; rfl
 ·rw[RY f _ u j];unfold zC YF;rw[decide_eq_false (show ¬ EO f l[k]=v from fun e=>A e.symm),a9Q,a9Q];simp
theorem ajR {f:aE} (hV:VF f) {room:List Int} {a:bN} (ha:a∈eE f room) (h:aY f 0≤a.dst):∃ v d,v<f.a6R.length∧d<f.a6P.length∧a=eG f v d:=by
 unfold eE at ha;rcases a9N.1 ha with ha | ha
 ·obtain⟨v,e,ha⟩:=List.mem_flatMap.1 ha;have e:=a9B.1 e;unfold fI at ha;rcases a8S.1 ha with rfl | ha
  ·have:=(iU hV e hV.root.1).2;simp only[bV,if_true] at this;simp only at h;omega
  ·rcases a9N.1 ha with ha | ha
   ·obtain⟨i,hi,rfl⟩:=a9G.1 ha;have:=a9B.1 hi;have:=(iU (i:=i+1) hV e Om).2;simp only[kA] at h;omega
   ·obtain⟨d,j,rfl⟩:=a9G.1 ha;exact⟨v,d,e,a9B.1 (bbS.1 j).1,rfl⟩
 ·obtain⟨d,j,rfl⟩:=a9G.1 ha;simp only[nP,aY] at h;omega
theorem kp {f:aE} (hV:VF f) {d:Nat} (u:d<f.a6P.length):0<fF f d∧fF f d<f.a6S.length:=by
 have j:=hV.drive d u;refine⟨?_,j.2.2.2.1⟩;rcases baN (fF f d) with e | e
 ·have l:=j.2.2.2.2;rw[e,hV.root.2.1] at l;omega
 ·exact e
theorem aWG {f:aE} (hV:VF f) {v d:Nat} (e:d<f.a6P.length):2+f.a6R.length≤(eG f v d).src:=by
 have:=kp hV e;simp only[eG,bV];rw[if_neg Om];omega
theorem aM.aXW {H:PH} {B:List BX} {L:List LI} {o s:Nat} {rows:List (List PV)} (h:aM H ((o,.rows s rows)::B) L):aM H B ((.osl o s 0 rows.length,s,rows)::L):=by
 refine⟨fun b hb=>h.box b (bbB _ hb),fun x hx=>?_,?_⟩
 ·rcases a8S.1 hx with rfl | hx
  ·exact .inr ⟨o,rows,rfl,h.box _ (List.mem_cons_self ..),a8J _,a9M⟩
  ·exact h.lst x hx
 ·have e:eF ((.osl o s 0 rows.length,s,rows)::L)=o::eF L:=rfl;rw[e];exact (List.perm_middle.nodup_iff).2 h.nd
theorem aM.aSF {H:PH} {B:List BX} (h:aM H B []) (N:Nat):aM H B (hC (a8F N ((.aD,[]):PV × List Int))):=by
 have j:=h.aCP N;have e:hC (a8F N ((.aD,[]):PV × List Int))=[]++a8F N (.aD,1,[]):=by unfold hC;rw[List.map_replicate]; rfl
 rw[e]; exact j
theorem Ld {res:List eS} {R A:PV→PH→Prop} {e:mY} {F:PF} {H:PH} (B:∀ r H',R r H'→A r H') (h:aT res R e F H):aT res A e F H:=by
 cases e with
 | exit=>exact h
 | normal =>obtain⟨vs,u,j,l,H2,w,x,v,y,h5⟩:=h;exact⟨vs,u,j,l,H2,w,x,v,y,B _ _ h5⟩
 | ret =>obtain⟨vs,u,j,l,H2,w,x,v,y,h5⟩:=h;exact⟨vs,u,j,l,H2,w,x,v,y,B _ _ h5⟩
def zU (f:aE) (room:List Int) (ws:List (List Int)) (c:Int):Prop :=
 (dL f=false∧ws=[]∧c=1)∨(dL f=true∧(∃ u,xZ f room u∧ws=wX f u)∧c=0)∨(dL f=true∧¬ CL f room∧ws=[]∧c=12)
def qx (f:aE) (room:List Int) (r:PV) (H:PH):Prop:=∃ ws c,zU f room ws c∧cP (.tup [lists ws,.int .i64 c]) r H
def Pv (f:aE) (room:List Int) (r:PV) (H:PH):Prop:=∃ ws c,zU f room ws c∧r=.tup [lists ws,.int .i64 c]∧H=PH.nil
theorem aH.place {C:Ctx} {name:Nat} {args:List PV} {f:aE} {room:List Int} (h:aH C name args .nil (qx f room)):aH C name args .nil (Pv f room) :=
 h.post fun r H' ⟨ws,c,e,j,l⟩=>⟨_,j,ws,c,e,rfl,l⟩
structure UX (C:Ctx):Prop extends pH C where
 net:∀ (f:aE) (room:List Int),f.Ok→aH C 286 [.agg f.cells,ints room] .nil (aI (tI f room))
 solve:∀ n:bY,eU n→aH C 298 [.agg n.cells] .nil (VA n)
 demand:∀ f:aE,VF f→aH C 287 [.agg f.cells] .nil (aI (.int .i64 ((oO f:Nat):Int)))
theorem pg (f:aE) (v:Nat):∀ (l:List bN) (xs:List Nat),(nA f v l xs).length≤l.length
 | [],_=>by simp[nA]
 | _::_,[]=>by simp[nA]
 | a::l,x::xs=>by
  have e:=pg f v l xs;have j:(zC f v a x).length≤1:=by unfold zC; split<;>simp
  rw[nA,a8H,a9Y];omega
def plF (f:aE) (n:bY) (xs:List Nat) (e j k:Nat):PF:=((((((PF.nil.set 8 (.sl 1 (eV xs))).set 12 (.ptr e 2 0 0)).set 13 (.osl j 1 0 f.a6R.length)).set 49 (Bh n.arcs)).set 50 (.int .i64 (n.arcs.length:Nat))).set 51 (.int .i64 (k:Nat)))
theorem aiP {C:Ctx} (Lb:UX C) {K:cI} [Up K] (f:aE) (hV:VF f) (room:List Int) (xs:List Nat) (hx:pG (cJ f room) xs) (e I:Nat) {F:PF} {H:PH}
  (hH:aM H [(I,.rows 1 (dR (a8F f.a6R.length (.aD,[])))),(e,gR f)] (hC (a8F f.a6R.length (.aD,[])))) (hF:(plF f (cJ f room) xs e I 0).le F)
  (hK:∀ ps H',aM H' [(e,gR f)] (sK (.osl I 1 0 f.a6R.length) ps)→wls ps=CP f (eE f room) xs→K (.exit 0) ((PF.nil.set 13 (.osl I 1 0 f.a6R.length))) H'):aC.wp C (.loop OK) K F H:=by
 have hs:=hV.small;have hr:=hV.root;have hn:=wB hV room;have hm:=hn.num;have ρ:=hn.few;have Y:xs.length=(eE f room).length:=hx.len;refine wp_loop (α:=Nat × WPs × PH) (fun s=>plF f (cJ f room) xs e I s.1) (fun s=>s.2.2) (fun s=>s.1≤(cJ f room).arcs.length∧wls s.2.1=nK f (eE f room) xs s.1∧aM s.2.2 [(I,.rows 1 (dR s.2.1)),(e,gR f)] (hC s.2.1)) (fun s=>(cJ f room).arcs.length-s.1) (0,a8F f.a6R.length (.aD,[]),H) ⟨a8K _,?_,hH⟩ hF b_ ?_
 ·rw[Gi];unfold wls;simp only[List.map_replicate]
 rintro⟨k,ps,H0⟩ ⟨hk,j,hH⟩;simp only at hk j hH;have ξ:ps.length=f.a6R.length:=by have:=congrArg List.length j;rw[kk] at this;unfold wls at this;rw[a8E] at this;exact this
 simp only[go_sem,OK,sw,plF];by_cases hlt:k<(cJ f room).arcs.length
 ·have J:(k:Int)<((cJ f room).arcs.length:Nat):=Om;have V:=wZz k;have U:k<(eE f room).length:=hlt;have μ:k<xs.length:=Om;have γ:=kD hlt;have ι:bR (cJ f room) k=(eE f room)[k]:=(nC hlt).symm;rw[ι] at γ;have κ:=a8G U;obtain⟨z1,z2,z3⟩:=hn.ends _ (a8G hlt);have z1:((eE f room)[k]).src<(cJ f room).nodes:=z1;have z2:((eE f room)[k]).dst<(cJ f room).nodes:=z2;have τ:aY f 0≤(cJ f room).nodes:=by show aY f 0≤aY f f.a6P.length; unfold aY; omega
  have W:=Gh (f:=f) (l:=eE f room) (xs:=xs) Y U;have A:=Vo (f:=f) (l:=eE f room) (xs:=xs) Y U;have δ:=ajR hV (room:=room) κ;generalize (eE f room)[k]=a at *
  simp only[go_sem,J,sx,γ];refine hH.sC fun q H1 h1=>?_;have q1:=h1.pK;have O:=h1.vK (.rows 4 [a.cells]);simp only[go_sem,q1];generalize H1.set q (.rows 4 [[.int .i64 a.src,.int .i64 a.dst,.int .i64 a.cap,.int .i64 0]])=H2 at *
  have E:H2 q=some (.rows 4 [a.cells]):=O.pK;have N:H2 e=some (gR f):=O.at 1 rfl;have β:H2 I=some (.rows 1 (dR ps)):=O.at 0 rfl;have S:(a.dst<aY f 0∨xs.getD k 0=0)→gP (fun s:Nat × WPs × PH=>plF f (cJ f room) xs e I s.1) (fun s=>s.2.2) (fun s=>s.1≤(cJ f room).arcs.length∧wls s.2.1=nK f (eE f room) xs s.1∧aM s.2.2 [(I,.rows 1 (dR s.2.1)),(e,gR f)] (hC s.2.1)) (fun s=>(cJ f room).arcs.length-s.1) ((cJ f room).arcs.length-k) K .normal (plF f (cJ f room) xs e I (k+1)) H2:=fun h =>
   aG (k+1,ps,H2) ⟨hlt,by rw[W h]; exact j,aM.dropLast (B:=[(I,.rows 1 (dR ps)),(e,gR f)]) O⟩ (by simp only; omega) (fun _ _ h=>h) b_
  refine aV (PH.nil.set q (.rows 4 [a.cells])) (FZ f [] (fun _ _=>True)) (e_ a_ E) ?_;by_cases c1:a.dst<aY f 0
  ·have M:(a.dst:Int)<((aY f 0:Nat):Int):=Om;simp only[go_sem,OL,N];refine GC Lb.topH hs (i:=0) (by decide) rfl (e_ a_ E) ?_;simp only[go_sem,M,DH,V];exact Up.up (by unfold plF; exact Lq) (S (.inl c1))
  ·have M:¬ (a.dst:Int)<((aY f 0:Nat):Int):=Om;simp only[go_sem,OL,N];refine GC Lb.topH hs (i:=0) (by decide) rfl (e_ a_ E) ?_;have θ:=jP μ;by_cases c2:xs.getD k 0=0
   ·simp only[go_sem,M,θ,bP (Om:((xs.getD k 0:Nat):Int)=0),DH,V];exact Up.up (by unfold plF; exact Lq) (S (.inr c2))
   ·obtain⟨v,d,hv,hd,rfl⟩:=δ Om;have X:=zb hV (v:=v) hd;have A:=A Om c2 (by rw[X]; exact hv);rw[X] at A;have σ:=aWG hV (v:=v) hd;have υ:=kp hV hd;have φ:=hs.a6S;have χ:=hs.a6R;have w1:IntKind.i64.wrap (((eG f v d).src:Int)-2)=(((eG f v d).src-2:Nat):Int):=by rw[wrap_i64 Om Om]; omega
    have w2:IntKind.i64.wrap ((((eG f v d).src-2:Nat):Int)-(f.a6R.length:Nat))=(((eG f v d).src-2-f.a6R.length:Nat):Int):=by rw[wrap_i64 Om Om]; omega
    have w3:IntKind.i64.wrap ((f.a6S.length:Int)-1)=((f.a6S.length-1:Nat):Int):=by rw[wrap_i64 Om Om]; omega
    have w4:¬ ((f.a6S.length-1:Nat):Int)=0:=Om;have w5:Int.tdiv (((eG f v d).src-2-f.a6R.length:Nat):Int) ((f.a6S.length-1:Nat):Int)=((v:Nat):Int):=by exact (Int.ofNat_tdiv _ _).symm.trans (congrArg (fun x:Nat=>(x:Int)) X)
    have w6:IntKind.i64.wrap ((v:Nat):Int)=((v:Nat):Int):=wrap_i64 Om Om;have w7:IntKind.i64.wrap (((eG f v d).dst:Int)-((aY f 0:Nat):Int))=(d:Int):=by
     have:(eG f v d).dst=aY f 0+d:=by simp only[eG,aY]; omega
     rw[wrap_i64 Om Om,this]; omega
    simp only[go_sem,M,θ,bD (Om:¬ ((xs.getD k 0:Nat):Int)=0),sy,E,N,w1,w2,w3,w4,w5,w6];have ζ:v<ps.length:=Om;obtain⟨u,w,R⟩:∃ u w,ps[v]?=some (u,w):=⟨(ps[v]).1,(ps[v]).2,a8L ζ⟩;have η:(wls ps).getD v []=w:=cw R;have ε:(v:Int)<(f.a6R.length:Nat):=Om;have ο:¬ I=q:=O.ne 0 2 rfl rfl (by decide);obtain⟨Hs,s1,s2,Z⟩:=tr (x:=.rows 1 (dR ps)) (y:=.rows 4 [(eG f v d).cells]) ο;refine aV Hs (FZ f [] (fun _ _=>True)) (Z _ β E) ?_;simp only[go_sem,s7,N,ε,s1,s2,a8R,xA R];refine GC Lb.topH hs (i:=0) (by decide) rfl (Z _ β E) ?_;simp only[go_sem,w7];have ω:w.length≤k:=by
     have h9:w=(nK f (eE f room) xs k).getD v []:=by rw[← j,η]
     rw[h9];unfold nK;rw[a8M,a8Y,baS hv];exact baK (pg f v _ _) (by rw[a8W]; omega)
    refine O.append v (FH R) (src:=bU [(d:Int)]) rfl (by unfold roomFor; rw[iV,iV]; simp only[a8N,maxLen]; omega) fun u' H3 h3 hu=>?_;obtain⟨q',rfl⟩:=hu (by simp[bU]);rw[← GO] at h3 ⊢;refine⟨Z _ (h3.at 0 rfl) (h3.at 2 rfl),?_⟩;simp only[go_sem,ε];refine aV .nil cA a_ ?_;have e3:=h3.at 0 rfl;have ν:v<(dR ps).length:=by rw[CC]; exact ζ
    simp only[go_sem,s8,e3,a8R,xA R,ν];refine⟨a_,?_⟩;simp only[go_sem,DH,V];have h4:=h3.set 0 rfl (.rows 1 ((dR ps).set v [.osl q' 1 0 (bU (w++[(d:Int)])).length]));generalize ψ:PV.osl q' 1 0 (bU (w++[(d:Int)])).length=u' at *
    refine aG (k+1,ps.set v (u',w++[(d:Int)]),_) ⟨hlt,?_,?_⟩ (by simp only; omega) Lq b_
    ·simp only;rw[cx,← A,j,← η,j];have:((eG f v d).dst-aY f 0:Nat)=d:=by simp only[eG,aY]; omega
     rw[this]
    ·simp only;have e5:dR (ps.set v (u',w++[(d:Int)]))=(dR ps).set v [u']:=List.map_set ..;have e6:hC (ps.set v (u',w++[(d:Int)]))=(hC ps).set v (u',1,bU (w++[(d:Int)])):=List.map_set ..;rw[e5,e6];exact aM.dropLast (B:=[(I,.rows 1 ((dR ps).set v [u'])),(e,gR f)]) h4
 ·have J:¬ (k:Int)<((cJ f room).arcs.length:Nat):=Om;have:k=(cJ f room).arcs.length:=Om;subst this;simp only[go_sem,J];have O:=hH.aXW;rw[CC,ξ] at O;refine Up.up Lq (hK ps H0 O ?_);rw[j];exact Vn Y
theorem NF {res:List eS} {f:aE} {room:List Int} {ws:List (List Int)} {c:Int} {e:mY} {F:PF} {H:PH} (j:zU f room ws c) (h:aT res (cP (.tup [lists ws,.int .i64 c])) e F H):aT res (qx f room) e F H :=
 Ld (fun r H' l=>⟨ws,c,j,l⟩) h
theorem EH {f:aE} (hV:VF f) {room:List Int} {xs:List Nat} {S:Nat→Bool} (u:hZ (cJ f room) xs) (e:jF (cJ f room) xs=dQ S (cJ f room).arcs) (j:S (cJ f room).source=true) (l:S (cJ f room).sink=false):¬ jF (cJ f room) xs<(oO f:Int)↔CL f room:=by
 rw[Int.not_lt];exact Ex hV u j l e
theorem Ey {f:aE} (hV:VF f) {room:List Int} {xs:List Nat} (e:hZ (cJ f room) xs) (h:¬ jF (cJ f room) xs<(oO f:Int)):∃ u,xZ f room u∧CP f (eE f room) xs=wX f u:=by
 obtain⟨s,g,j,t,rfl⟩:=sg f room e.len;exact⟨nT f j,Q9 hV e (Int.not_lt.1 h),aNN hV room s g j t⟩
theorem aGH {C:Ctx} (x:UX C) (f:aE) (hf:f.Ok) (room:List Int) :
  JI.wp C (aT R4.res (qx f room)) (PF.args [.agg f.cells,ints room]) .nil:=by
 simp only[go_sem,JI,E4,R4,E5];refine aB (x.net f room hf) rfl ?_;simp only[go_sem,tI];refine aO fun q hq=>?_;have R:aM (PH.nil.set q fX) [(q,fX)] []:=aM.nil.new hq fX;generalize (PH.nil.set q fX)=Y at *
 have q1:=R.at 0 rfl;have l:=R.set 0 rfl (nN (sM f room));simp only[go_sem,q1];generalize Y.set q (.rows 4 [(sM f room).cells])=H2 at *
 have X:=l.at 0 rfl;cases e:dL f with
 | false =>simp only[go_sem,VY,xO e,E6];refine NF (ws:=[]) (c:=1) (.inl ⟨e,rfl,rfl⟩) ?_;exact CD (.inr rfl) rfl (aM.Pb (l.uQ 0))
 | true =>
  have hV:=VF.of e;have W:=hV.small;have hn:=wB hV room;have E:(f.a6R.length:Int)*((24:Nat):Int)≤140737488355328:=by have:=W.a6R; omega
  have F:(f.a6R.length:Int)≤9223372036854775807:=by have:=W.a6R; omega
  have I:(0:Int)≤(f.a6R.length:Int):=Om;rw[uZ e] at X l;simp only[go_sem,VY,nM e,E7,X];refine dV (x.solve _ hn) rfl a_ ?_;rintro r H' ⟨xs,S,y,w,A,B,rfl,rfl⟩ -;rw[PH.kG];have J:=EH hV y w A B;simp only[go_sem,E8];refine aB (x.demand f hV) rfl ?_;by_cases hlt:jF (cJ f room) xs<((oO f:Nat):Int)
  ·simp only[go_sem,hlt,E9];refine NF (ws:=[]) (c:=12) (.inr (.inr ⟨e,fun h=>J.2 h hlt,rfl,rfl⟩)) ?_;exact CD (.inr rfl) rfl (aM.Pb (l.uQ 0))
  ·obtain⟨u,hA,K⟩:=Ey hV y hlt;simp only[go_sem,hlt,Fa,a8E];refine l.sC fun j Z U=>?_;have g3:=U.at 1 rfl;have h4:=U.set 1 rfl (gR f);simp only[go_sem,g3];generalize Z.set j (.rows 2 [[.int .i64 (f.a6R.length:Nat),.int .i64 (f.a6S.length:Nat)]])=H4 at *
   simp only[go_sem,Fb,a8E,E,F,I,Int.le_refl,bbI];refine aO fun N M=>?_;have h5:=h4.new M (.rows 1 (a8F f.a6R.length [.aD]));generalize H4.set N (.rows 1 (a8F f.a6R.length [.aD]))=O at *
   have V:aM O [(N,.rows 1 (a8F f.a6R.length [.aD])),(j,gR f),(q,nN (cJ f room))] []:=by refine h5.perm ?_ (baQ.refl _);exact (List.reverse_perm _).symm
   have q5:=V.at 2 rfl;have eo:dR (a8F f.a6R.length ((.aD,[]):PV × List Int))=a8F f.a6R.length [.aD]:=by unfold dR; rw[List.map_replicate]
   simp only[go_sem,Fc,q5];refine aiP x f hV room xs y.in j N (H:=O) (by rw[eo]; exact (V.uQ 2).aSF _) (by unfold plF; (repeat' (first|exact c_|refine d_ ?_ ?_))<;>first|(simp only[go_sem,a8E]<;>rfl)|rfl) fun ps H6 h7 hw=>?_;simp only[go_sem,s9];refine NF (ws:=wls ps) (c:=0) (.inr (.inl ⟨e,⟨u,hA,by rw[hw,K]⟩,rfl⟩)) ?_;exact CD (.inr rfl) rfl (h7.uQ 0)
theorem aM.aBC:∀ (L:List LI) {H:PH} {B:List BX},aM H B L→(∀ x∈L,Flat x.2.2)→(∀ b∈B,∀ q s rs,bZ.frz q s rs b.2=b.2) →
  ∃ (φ:PV→PV) (y:PH),(∀ x∈L,Seen x.2.1 (φ x.1) x.2.2)∧(∀ u,u.oid=none→φ u=u)∧aM y B []∧∀ cs (b:Bool) R,sA (.tup [.agg (cs.map φ),.bool b]) y R→sA (.tup [.agg cs,.bool b]) H R
 | [],H,B,h,_,_=>⟨id,H,by simp,fun _ _=>rfl,h,fun cs b R F=>by rwa [List.map_id] at F⟩
 | (w,s,rows)::L,H,B,h,E,hB=>by
  have l:∀ q z rs,(L.map fun x=>(x.1,x.2.1,x.2.2.map fun r=>r.map (PV.cQ q z rs)))=L:=fun q z rs=>by
   conv=>rhs; rw[← List.map_id L]
   refine baM fun x hx=>?_;rw[E x (by simp[hx]) q z rs]; rfl
  rcases h.own 0 rfl with ⟨A,O⟩ | ⟨q,rs,A,_⟩
  ·obtain⟨φ,y,k1,k2,I,J⟩:=aM.aBC L (h.be 0) (fun x hx=>E x (by simp[hx])) hB;refine⟨φ,y,fun x hx=>?_,k2,I,J⟩;rw[a8S] at hx;rcases hx with rfl | hx
   ·exact .inl ⟨A,by simp only; rw[O]; exact k2 _ rfl⟩
   ·exact k1 x hx
  ·subst A;obtain⟨rs,U,V,Y,W,M⟩:=h.frz 0 rfl;have X:aM (H.frz q s rs) B L:=by
    have N:(B.map fun b=>(b.1,b.2.frz q s rs))=B:=by
     conv=>rhs; rw[← List.map_id B]
     refine baM fun b hb=>?_;rw[hB b hb q s rs]; rfl
    rw[N] at M;have:=M;simp only[List.eraseIdx_cons_zero] at this
    rwa [l q s rs] at this
   obtain⟨φ,y,k1,k2,I,J⟩:=aM.aBC L X (fun x hx=>E x (by simp[hx])) hB;refine⟨fun u=>φ (PV.cQ q s rs u),y,fun x hx=>?_,fun u K=>?_,I,fun cs b R F=>?_⟩
   ·rw[a8S] at hx;rcases hx with rfl | hx
    ·simp only;rw[V];exact .inr (k2 _ rfl)
    ·obtain⟨j,S⟩:=List.mem_iff_getElem?.1 hx;have:=W (j+1) x Om (by simpa using S);simp only;rw[this];exact k1 x hx
   ·simp only;rw[ON K,k2 u K]
   ·refine .step U ?_;have e:PV.frz q s rs (.tup [.agg cs,.bool b])=.tup [.agg (cs.map (PV.cQ q s rs)),.bool b]:=rfl;rw[e];refine J _ b R ?_;rw[List.map_map];exact F
def qG (e:List (List PV)) (ws:List (List Bool)):Prop:=e.length=ws.length∧∀ (i:Nat) r w,e[i]?=some r→ws[i]?=some w→r=[iJ w]∨(r=[.aD]∧w=[])
theorem qG.nil:qG [] []:=⟨rfl,fun i r w h=>by cases h⟩
theorem qG.snoc {l:List (List PV)} {ws:List (List Bool)} {u:PV} {w:List Bool} (h:qG l ws) (y:u=iJ w∨(u=.aD∧w=[])):qG (l++[[u]]) (ws++[w]):=by
 refine⟨by simp[h.1],fun i r x e j=>?_⟩;rcases Nat.lt_trichotomy i l.length with c | c | c
 ·rw[baB c] at e;rw[baB (by rw[← h.1]; exact c)] at j;exact h.2 i r x e j
 ·subst c;rw[baD (a8J _),Nat.sub_self] at e;rw[h.1,baD (a8J _),Nat.sub_self] at j;cases e; cases j;rcases y with rfl | ⟨rfl,rfl⟩
  ·exact .inl rfl
  ·exact .inr ⟨rfl,rfl⟩
 ·rw[baD Om,a9S (by simp; omega)] at e;cases e
theorem qG.flat {j:List (List PV)} {ws:List (List Bool)} (h:qG j ws):Flat j:=Flat.of fun r u c e q s rs=>by
 obtain⟨i,hi⟩:=List.mem_iff_getElem?.1 u;have l:=(a9F.1 hi).1;rcases h.2 i r _ hi (a8L (by rw[← h.1]; exact l)) with rfl | ⟨rfl,-⟩
 ·rw[a9K] at e; subst e; rfl
 ·rw[a9K] at e; subst e; rfl
abbrev rj (ws:List (List Bool)):PV:=.sl 1 (ws.map fun w=>[iJ w])
theorem qG.co {y:List (List PV)} {ws:List (List Bool)} (h:qG y ws):Co (.sl 1 y) (rj ws):=by
 have x:∀ (i:Nat) r t,y[i]?=some r→(ws.map fun w=>[iJ w])[i]?=some t→∃ w,t=[iJ w]∧(r=[iJ w]∨(r=[.aD]∧w=[])):=fun i r t u e=>by
  rw[a8Y] at e;cases B:ws[i]? with
  | none=>rw[B] at e; cases e
  | some w =>rw[B] at e;cases e;exact⟨w,rfl,h.2 i r w u B⟩
 refine .sl (by rw[a8E,h.1]) (fun i r t u e=>?_) (fun i j p q l hq=>?_)
 ·obtain⟨w,rfl,A | ⟨A,-⟩⟩:=x i r t u e<;>subst A<;>rfl
 ·unfold at2 at l hq;cases u:y[i]? with
  | none=>rw[u] at l; cases l
  | some r =>
   cases e:(ws.map fun w=>[iJ w])[i]? with
   | none=>rw[e] at hq; cases hq
   | some t =>
    rw[u] at l;rw[e] at hq;obtain⟨w,rfl,A⟩:=x i r t u e;rcases A with rfl | ⟨rfl,rfl⟩
    ·have:some p=some q:=l.symm.trans hq;cases this;exact .refl _
    ·cases j with
     | zero=>cases l; cases hq; exact .nil 1
     | succ j=>cases l
abbrev eO.cells (c:eO):List PV:=[iJ c.vols,rj c.a6Z,iJ c.a7J]
theorem DA (l:List Bool):Flat (aZ l):=Flat.map l fun x c e q s rs=>by rw[a9K] at e; subst e; rfl
theorem RR {res:List eS} {F:PF} {H:PH} {y u w:PV} {V R:List Bool} {A:List (List PV)} {ws:List (List Bool)} {b:Bool} {e:mY} (he:e=.normal∨e=.ret) (h:eS.evs F H res=some [.agg [y,u,w],.bool b])
  (B:qG A ws) (N:aM H [] [(y,1,aZ V),(u,1,A),(w,1,aZ R)]):aT res (cP (.tup [.agg (eO.cells ⟨V,ws,R⟩),.bool b])) e F H:=by
 obtain⟨φ,S,k1,-,-,O⟩:=aM.aBC _ N (fun x I=>by
  simp only[a8S,a9D,or_false] at I;rcases I with rfl | rfl | rfl
  ·exact DA V
  ·exact B.flat
  ·exact DA R) (fun b hb=>by cases hb)
 refine pE he h ?_;refine O [y,u,w] b _ (.done (H2:=.nil) ⟨?_,rfl⟩ a_);have J:=(k1 (y,1,aZ V) (by simp)).co;have K:Co (φ u) (rj ws):=by
  rcases k1 (u,1,A) (by simp) with ⟨E,h2⟩ | h2
  ·simp only at E h2;rw[h2];have:ws=[]:=List.length_eq_zero_iff.1 (by rw[← B.1,E]; rfl);subst this;exact .nil 1
  ·simp only at h2;rw[h2]; exact B.co
 have M:=(k1 (w,1,aZ R) (by simp)).co;refine .tup rfl fun j p q l hq=>?_
 match j with
 | 0 =>
  cases l; cases hq;refine .agg rfl fun j p q l hq=>?_
  match j with
  | 0=>cases l; cases hq; exact J
  | 1=>cases l; cases hq; exact K
  | 2=>cases l; cases hq; exact M
  | j+3=>cases l
 | 1=>cases l; cases hq; exact .refl _
 | j+2=>cases l
def VM:eO:=⟨[],[],[]⟩
def ay (f:aE) (room:List Int) (c:eO) (b:Bool):Prop :=
 (dL f=false∧c=VM∧b=false)∨(dL f=true∧CL f room∧c=VM∧b=false)∨(dL f=true∧¬ CL f room∧tV f room c=true∧b=true)
def azL (f:aE) (room:List Int) (r:PV) (H:PH):Prop:=∃ c b,ay f room c b∧cP (.tup [.agg c.cells,.bool b]) r H
def aLO (f:aE) (room:List Int) (r:PV) (H:PH):Prop:=∃ c b,ay f room c b∧r=.tup [.agg c.cells,.bool b]∧H=PH.nil
theorem aH.why {C:Ctx} {name:Nat} {args:List PV} {f:aE} {room:List Int} (h:aH C name args .nil (azL f room)):aH C name args .nil (aLO f room) :=
 h.post fun r H' ⟨ws,c,e,j,l⟩=>⟨_,j,ws,c,e,rfl,l⟩
theorem D5 {res:List eS} {f:aE} {room:List Int} {c:eO} {b:Bool} {e:mY} {F:PF} {H:PH} (j:ay f room c b) (h:aT res (cP (.tup [.agg c.cells,.bool b])) e F H):aT res (azL f room) e F H :=
 Ld (fun r H' l=>⟨c,b,j,l⟩) h
abbrev dY (l e j:PV):bZ:=.rows 3 [[l,e,j]]
def sD (f:aE) (S:Nat→Bool) (k:Nat):List Bool:=(a8D k).map fun v=>S (bV f v 0)
def mC (f:aE) (S:Nat→Bool) (v k:Nat):List Bool:=(a8D k).map fun i=>S (bV f v (i+1))
def yI (f:aE) (S:Nat→Bool) (k:Nat):List (List Bool):=(a8D k).map fun v=>mC f S v (f.a6S.length-1)
def wR (f:aE) (S:Nat→Bool) (k:Nat):List Bool:=(a8D k).map fun d=>S (aY f d)
theorem lM {α:Type} (g:Nat→α) (k:Nat):(a8D (k+1)).map g=(a8D k).map g++[g k]:=by rw[baT,a9U]; rfl
theorem uO (l:List Bool) (b:Bool):aZ l++[[.bool b]]=aZ (l++[b]):=by simp[aZ]
theorem Qg (f:aE) (S:Nat→Bool):AX f S=⟨sD f S f.a6R.length,yI f S f.a6R.length,wR f S f.a6P.length⟩:=rfl
theorem AN {S:Nat→Bool} {N i:Nat} (h:i<N):(aZ ((a8D N).map S))[i]?=some [.bool (S i)]:=by
 rw[eP (by simp[h])];rw[a8M,a8Y,baS h]; rfl
def rg (v:PV):Prop:=∀ (E e:Env) (u:Value),bB E v u→bB e v u
theorem rg.pair (n:Int) (b:Bool):rg (.tup [.int .i64 n,.bool b]):=fun E y u h=>by
 cases h with
 | tup vs l w =>
  refine .tup vs l fun j p v e x=>?_;have:=w j p v e x
  match j with
  | 0=>cases e; cases this; exact .int _ _
  | 1=>cases e; cases this; exact .bool _
  | j+2=>cases e
theorem aH.aSB {C:Ctx} {name o s:Nat} {rs:List (List PV)} {args:List PV} {v:PV} (V:rg v) (h:aH C name (args.map (PV.frz o s rs)) .nil (aI v)) :
  aH C name args (PH.nil.set o (.rows s rs)) (fun r H'=>r=v∧H'=PH.nil.set o (.rows s rs)):=by
 refine⟨h.1,fun E w vs M hW F=>?_⟩;have W:kP (PF.args args) (PH.nil.set o (.rows s rs)) _ _:=.step o (s:=s) (rs:=rs) (by simp only[aS,if_true]) (.refl _ _);obtain⟨J,k1,k2,X⟩:=W.sound hW;rw[Bx] at k1 k2;have B:=F.len;have I:fT J (args.map (PV.frz o s rs)) vs.toList:=by
  refine fT.of _ _ (by rw[a8E]; exact B) fun i p u R U=>?_;have:=X (fun i=>(vs.toList[i]?).getD undef) (fun j q K=>by have O:=(a9F.1 K).1;have A:j<vs.toList.length:=Om;simp only[a8L A,baW];exact F.at_ j q _ K (a8L A)) i p (by rw[rM,args_at,← a8Y]; exact R)
  simp only[U,baW] at this;exact this
 refine (h.2 J w vs (k2.env.num.trans M) k1 I).mono fun e Y he=>?_;obtain⟨u,pv,Z,H2,rfl,N,S,y,rfl,rfl⟩:=he;have l:∀ b,b<w.heap.size→Y.heap[b]?=w.heap[b]?:=fun b hb=>y.block b hb rfl;exact⟨u,pv,E,_,rfl,hW.same y.size (fun b hb _=>l b hb) (fun q x hq=>l q (hW.h q x hq).1),V _ _ _ S,⟨.refl E,y.os,y.tape,y.output,y.size,fun b hb _=>l b hb,fun q x hq=>.inl ⟨x,hq⟩,fun b cs hb=>.inl hb⟩,rfl,rfl⟩
def aXX (name:Nat) (v:PV):Spec:=fun e vs=>if e=name then match vs with
 | [_,.osl o _ _ _]=>some ([o],fun G r H'=>r=v∧H'=G)
 | _=>none
 else none
def sT (f:aE) (room:List Int) (c:eO):Bool:=dL f&&tV f room c
def x2 (f:aE) (c:eO) (k:Nat):Prop:=∀ r∈c.a6Z.take k,r.length=f.a6S.length-1
theorem aJM {f:aE} {c:eO} {k:Nat} (h:x2 f c k):(c.a6Z.take k).flatten.length≤k*(f.a6S.length-1):=by
 rw[BS h];exact a9H _ (by rw[a8W]; omega)
theorem acL {f:aE} {c:eO} {k:Nat} (e:k<c.a6Z.length) (h:c.a6Z[k].length≠f.a6S.length-1):c.shape f=false:=by
 cases j:c.shape f with
 | false=>rfl
 | true=>exact absurd ((CE.1 j).r _ (a8G e)) h
def aLU (f:aE) (c:eO) (o7:Nat) (v:PV) (k:Nat):PF:=(((((((PF.nil.set 3 (.bO f.cells)).set 5 (.bO c.cells)).set 7 (.ptr o7 4 0 0)).set 9 (v)).set 54 (rj c.a6Z)).set 55 (.int .i64 (c.a6Z.length:Nat))).set 56 (.int .i64 (k:Nat)))
theorem aTG {C:Ctx} (Lb:UX C) (I:∀ (n:bY) (cut:List Bool),eU n→au n cut→aH C 293 [.agg n.cells,iJ cut] .nil (aI (.tup [.int .i64 ((dQ (fun w=>cut.getD w false) n.arcs:Nat):Int),.bool true])))
  (f:aE) (hf:f.Ok) (room:List Int) (c:eO) (hc:c.vols.length≤1000000∧c.a6Z.length≤1000000∧c.a7J.length≤1000000) :
  VS.wp C (aT aMG.res (aI (.bool (sT f room c)))) (PF.args [.agg f.cells,ints room,.agg c.cells]) .nil:=by
 have B:sT f room c=(dL f&&(c.shape f&&decide (dQ (vQ c) (eE f room)<oO f))):=rfl;obtain⟨δ,ε,ζ⟩:=hc;simp only[go_sem,VS,akT,aMG,akU];refine aB (Lb.net f room hf) rfl ?_;simp only[go_sem,tI];refine aO fun q hq=>?_;have h1:aM (PH.nil.set q fX) [(q,fX)] []:=aM.nil.new hq fX;generalize (PH.nil.set q fX)=H1 at *
 have q1:=h1.at 0 rfl;have h2:=h1.set 0 rfl (nN (sM f room));simp only[go_sem,q1];generalize H1.set q (.rows 4 [(sM f room).cells])=H2 at *
 cases A:dL f with
 | false =>simp only[go_sem,EY,xO A,MT];exact jV (b:=false) rfl (by rw[B,A]; rfl)
 | true =>
  have hV:=VF.of A;have hs:=hV.small;have hr:=hV.root;have θ:=hs.a6S;have ι:=hs.a6P;have κ:=hs.a6R;have hn:=wB hV room;rw[uZ A] at h2;rw[A,a8U] at B;by_cases c1:c.vols.length=f.a6R.length
  ·by_cases c2:c.a6Z.length=f.a6R.length
   ·by_cases c3:c.a7J.length=f.a6P.length
    ·simp only[go_sem,EY,nM A,eO.cells,a8E,bJ (Om:(c.vols.length:Int)=(f.a6R.length:Nat)),bJ (Om:(c.a6Z.length:Int)=(f.a6R.length:Nat)),bJ (Om:(c.a7J.length:Int)=(f.a6P.length:Nat)),akV];refine aO fun o ho=>?_;have h3:=h2.Cy (s:=1) (rows:=[[.bool true],[.bool false]]) ho;generalize H2.set o (.rows 1 [[.bool true],[.bool false]])=H3 at *
     simp only[go_sem];refine h3.append 0 (src:=aZ c.vols) rfl rfl (by unfold roomFor; rw[gE]; simp only[a9Y,baX,maxLen]; omega) fun v4 H4 h4 _=>?_;simp only[go_sem,akW,a8E];refine wp_loop (α:=Nat × PV × PH) (fun s=>aLU f c q s.2.1 s.1) (fun s=>s.2.2) (fun s=>s.1≤c.a6Z.length∧x2 f c s.1∧aM s.2.2 [(q,nN (cJ f room))] [(s.2.1,1,aZ (true::false::(c.vols++(c.a6Z.take s.1).flatten)))]) (fun s=>c.a6Z.length-s.1) (0,v4,H4) ⟨a8K _,fun r h=>by simp at h,by simpa using h4⟩ (by unfold aLU; (repeat' (first|exact c_|refine d_ ?_ ?_))<;>first|(simp only[go_sem,a8E,eO.cells]<;>rfl)|rfl) b_ ?_;rintro⟨k,v,H5⟩ ⟨hk,y,F⟩;simp only at hk y F;have Y:=aJM y;have η:k*(f.a6S.length-1)≤12*40:=bbT Om Om;simp only[go_sem,Qw,akX,aLU];by_cases hlt:k<c.a6Z.length
     ·have l:(k:Int)<(c.a6Z.length:Nat):=Om;have β:=wZz k;have W:(c.a6Z.map fun w=>[iJ w])[k]?=some [iJ c.a6Z[k]]:=by simp[hlt]
      have hw:IntKind.i64.wrap ((f.a6S.length:Int)-1)=((f.a6S.length-1:Nat):Int):=by rw[wrap_i64 Om Om]; omega
      have J:c.a6Z.take (k+1)=c.a6Z.take k++[c.a6Z[k]]:=baF hlt;have γ:=acL (f:=f) hlt;generalize c.a6Z[k]=row at *
      simp only[go_sem,l,akY,W,akZ,a8E,hw];by_cases cr:row.length=f.a6S.length-1
      ·simp only[go_sem,bJ (Om:(row.length:Int)=((f.a6S.length-1:Nat):Int)),Qx];refine F.append 0 (src:=aZ row) rfl rfl (by unfold roomFor; rw[gE,gE]; simp only[a9Y,a8H,maxLen]; omega) fun v' H' S _=>?_;simp only[go_sem,Qy,β];refine aG (k+1,v',H') ⟨hlt,?_,?_⟩ (by simp only; omega) Lq b_
       ·intro r hr;simp only at hr;rw[J] at hr;rcases a9N.1 hr with hr | hr
        ·exact y r hr
        ·rw[a9K] at hr; subst hr; exact cr
       ·simp only;have O:aZ (true::false::(c.vols++(c.a6Z.take (k+1)).flatten))=aZ (true::false::(c.vols++(c.a6Z.take k).flatten))++aZ row:=by rw[J];simp[aZ]
        show aM H' _ [(v',1,aZ (true::false::(c.vols++(c.a6Z.take (k+1)).flatten)))];rw[O];exact S
      ·simp only[go_sem,cM (Om:¬ (row.length:Int)=((f.a6S.length-1:Nat):Int)),alA];exact jV (b:=false) rfl (by rw[B,γ cr]; rfl)
     ·have l:¬ (k:Int)<(c.a6Z.length:Nat):=Om;have Z:k=c.a6Z.length:=Om;subst Z;have e:Shape f c:=⟨c1,c2,c3,by have:=y; unfold x2 at this; rwa [a9M] at this⟩;rw[a9M] at F Y;have E:H5 q=some (nN (cJ f room)):=F.at 0 rfl;have j:rK c=true::false::(c.vols++(c.a6Z.flatten++c.a7J)):=rfl;have U:au (cJ f room) (rK c):=⟨aLY hV e,rfl,rfl⟩;have X:=I (cJ f room) (rK c) hn U;simp only[go_sem,l];refine aV (PH.nil.set q (nN (cJ f room))) (aXX 293 (.tup [.int .i64 ((dQ (fun w=>(rK c).getD w false) (cJ f room).arcs:Nat):Int),.bool true])) (e_ a_ E) ?_;simp only[go_sem,Qz,E];refine F.append 0 (src:=aZ c.a7J) rfl rfl (by unfold roomFor; rw[gE,gE]; simp only[a9Y,a8H,maxLen]; omega) fun v' H' S _=>?_;have O:aZ (true::false::(c.vols++c.a6Z.flatten))++aZ c.a7J=aZ (rK c):=by rw[j];simp[aZ]
      have u:aM H' [(q,nN (cJ f room))] [(v',1,aZ (rK c))]:=by rw[← O]; exact S
      obtain⟨p,rfl⟩:=(u.own 0 rfl).one (by rw[gE,j]; simp);obtain⟨rs,r1,r2,r3,r4⟩:=(u.own 0 rfl).id rfl;refine⟨e_ a_ (u.at 0 rfl),?_⟩;refine NZ (o:=p) (x:=.rows 1 rs) (v:=.tup [.int .i64 ((dQ (fun w=>(rK c).getD w false) (cJ f room).arcs:Nat):Int),.bool true]) (vs:=[.agg (cJ f room).cells,.osl p 1 0 (aZ (rK c)).length]) (R:=fun G r H'=>r=(.tup [.int .i64 ((dQ (fun w=>(rK c).getD w false) (cJ f room).arcs:Nat):Int),.bool true])∧H'=G) (by unfold aXX; rw[if_pos rfl]) r1 (aH.aSB (rg.pair _ _) ?_) ⟨rfl,rfl⟩ (fun r H' h=>h) rfl (e_ a_ (u.at 0 rfl)) ?_
      ·have e3:([.agg (cJ f room).cells,.osl p 1 0 (aZ (rK c)).length]:List PV).map (PV.frz p 1 rs)=[.agg (cJ f room).cells,iJ (rK c)]:=by show [PV.agg _,PV.frz p 1 rs (.osl p 1 0 (aZ (rK c)).length)]=_;rw[xM r3,r4]; rfl
       rw[e3];exact X
      ·rw[CE.2 e,a8U] at B;have V:sT f room c=decide (((dQ (fun w=>(rK c).getD w false) (cJ f room).arcs:Nat):Int)<((oO f:Nat):Int)):=by rw[B];exact decide_eq_decide.2 ⟨fun h=>Int.ofNat_lt.2 h,fun h=>Int.ofNat_lt.1 h⟩
       generalize dQ (fun w=>(rK c).getD w false) (cJ f room).arcs=cp at *
       simp only[go_sem,Q0];refine aB (Lb.demand f hV) rfl ?_;simp only[go_sem];exact jV rfl V.symm
    ·have N:¬ (c.a7J.length:Int)=(f.a6P.length:Nat):=Om;simp only[go_sem,EY,nM A,eO.cells,a8E,bJ (Om:(c.vols.length:Int)=(f.a6R.length:Nat)),bJ (Om:(c.a6Z.length:Int)=(f.a6R.length:Nat)),cM N,MT];exact jV (b:=false) rfl (by rw[B,eO.shape,decide_eq_false c3]; simp)
   ·have M:¬ (c.a6Z.length:Int)=(f.a6R.length:Nat):=Om;simp only[go_sem,EY,nM A,eO.cells,a8E,bJ (Om:(c.vols.length:Int)=(f.a6R.length:Nat)),cM M,MT];exact jV (b:=false) rfl (by rw[B,eO.shape,decide_eq_false c2]; simp)
  ·have K:¬ (c.vols.length:Int)=(f.a6R.length:Nat):=Om;simp only[go_sem,EY,nM A,eO.cells,a8E,cM K,MT];exact jV (b:=false) rfl (by rw[B,eO.shape,decide_eq_false c1]; simp)
theorem x9:fV.a6R.length=1∧fV.a6P.length=1:=by decide +kernel
theorem aDO:wM fV [[0]]:=⟨by decide +kernel,by decide +kernel,by decide +kernel⟩
theorem x7:CL fV []:=(aMJ mL).2 ⟨_,aDO,ajF⟩
theorem x8:¬ CL fV [0]:=by
 rintro⟨u,A⟩;obtain⟨j,l⟩:=x9;have e:(0:Nat)<fV.a6R.length:=Om;have w:(0:Nat)<fV.a6P.length:=Om;have a1:=A.num 0 e;have a2:=A.room 0 w;have a3:=(mO (VF.of mL) e).2.1;have a4:RX fV [0] 0=0:=by decide +kernel
 rw[l] at a1;rw[j,a4] at a2;have x:gQ (u 0) 1=one (u 0 0):=by simp[gQ,cX]
 have y:gQ (fun v=>u v 0) 1=one (u 0 0):=by simp[gQ,cX]
 omega
theorem aJX {u:Nat→Nat→Bool} (A:xZ fV [] u):wX fV u=[[0]]:=by
 obtain⟨w,e⟩:=x9;have j:(0:Nat)<fV.a6R.length:=Om;have a1:=A.num 0 j;have a3:=(mO (VF.of mL) j).2.1;rw[e] at a1;have l:gQ (u 0) 1=one (u 0 0):=by simp[gQ,cX]
 have x:u 0 0=true:=by
  cases h:u 0 0 with
  | true=>rfl
  | false=>rw[l,h,BF] at a1; omega
 unfold wX rP;rw[w,e];simp[x,X1,baT]
theorem ajG {ws:List (List Int)} {c:Int} (h:zU fV [] ws c):ws=[[0]]∧c=0:=by
 rcases h with ⟨h,-⟩ | ⟨-,⟨u,A,rfl⟩,rfl⟩ | ⟨-,h,-⟩
 ·rw[mL] at h; cases h
 ·exact⟨aJX A,rfl⟩
 ·exact absurd x7 h
theorem aDP {ws:List (List Int)} {c:Int} (h:zU fV [0] ws c):ws=[]∧c=12:=by
 rcases h with ⟨h,-⟩ | ⟨-,⟨u,A,-⟩,-⟩ | ⟨-,-,h⟩
 ·rw[mL] at h; cases h
 ·exact absurd ⟨u,A⟩ x8
 ·exact h
def pJ (c:eO):Prop:=c.vols.length≤1000000∧c.a6Z.length≤1000000∧c.a7J.length≤1000000
theorem pJ.of {f:aE} (hV:VF f) {c:eO} (h:Shape f c):pJ c:=by
 have e:=h.v;have j:=h.i;have l:=h.d;have u:=hV.small.a6R;have h5:=hV.small.a6P;unfold pJ;omega
theorem aiM {f:aE} {room:List Int} {c:eO} (h:tV f room c=true):Shape f c:=by
 unfold tV at h;rw[a9A] at h;exact CE.1 h.1
theorem aJY {c:eO} {b:Bool} (h:ay fV [0] c b):b=true∧tV fV [0] c=true∧tV fV [] c=false∧pJ c:=by
 have hV:=VF.of mL;rcases h with ⟨h,-⟩ | ⟨-,h,-⟩ | ⟨-,-,h,rfl⟩
 ·rw[mL] at h; cases h
 ·exact absurd h x8
 ·refine⟨rfl,h,?_,.of hV (aiM h)⟩;cases e:tV fV [] c with
  | false=>rfl
  | true=>exact absurd x7 (check_sound hV e)
structure Pn (C:Ctx):Prop where
 fleet:∀ (l:List Nat),(∀ x∈l,x<256)→l.length≤9223372036854775807→∀ a6P a6R:Nat,a6P≤60→a6R≤50 →
  aH C 27 [.sl 1 (sP l),.int .i64 a6P,.int .i64 a6R] .nil (aI (.agg (pP (l.take 400) a6P a6R 0).1.cells))
 place:∀ (f:aE) (room:List Int),f.Ok→aH C 288 [.agg f.cells,ints room] .nil (Pv f room)
 why:∀ (f:aE) (room:List Int),f.Ok→aH C 289 [.agg f.cells,ints room] .nil (aLO f room)
 chk:∀ (f:aE) (room:List Int) (c:eO),f.Ok→pJ c→aH C 290 [.agg f.cells,ints room,.agg c.cells] .nil (aI (.bool (sT f room c)))
theorem aLC {C:Ctx} (L:Pn C):MG.wp C (aT ahG.res (aI (.bool true))) (PF.args []) .nil:=by
 have h:=L.fleet [] (fun x I=>by cases I) (by decide) 1 0 (by decide) (by decide);have J:=(L.place fV [] xS).args (args:=[.agg fV.cells,.aD]) (.HT (.refl _) (.HT (.nil 1) .aOT));have K:=L.place fV [0] xS;have M:=L.why fV [0] xS;simp only[go_sem,MG,Nk,Nl,ahG];refine aB (h.args (.HT (.nil 1) (.HT (.refl _) (.HT (.refl _) .aOT)))) rfl ?_;simp only[go_sem];refine aO fun o V=>?_;simp only[go_sem,Nm,a8S,a9D,or_false,forall_eq];show wpOps C ZZ _ _ (PH.nil.set o (.rows 7 [fV.cells]));have u:(PH.nil.set o (.rows 7 [fV.cells])) o=some (.rows 7 [fV.cells]):=by rw[bS]
 generalize U:(PH.nil.set o (.rows 7 [fV.cells]))=S at *
 have F:=xS;have w:=mL;have N:=fun ws c h=>ajG (ws:=ws) (c:=c) h;have O:=fun ws c h=>aDP (ws:=ws) (c:=c) h;have R:=fun c b h=>aJY (c:=c) (b:=b) h;have B:=fun c=>L.chk fV [0] c xS;have E:=fun c (h:pJ c)=>(L.chk fV [] c xS h).args (args:=[.agg fV.cells,.aD,.agg c.cells]) (.HT (.refl _) (.HT (.nil 1) (.HT (.refl _) .aOT)));generalize fV=f at *
 simp only[go_sem,ZZ,u];refine dV J rfl a_ ?_;rintro r H' ⟨ws,c,A,rfl,rfl⟩ -;rw[PH.kG];obtain⟨rfl,rfl⟩:=N _ _ A;simp only[go_sem,Nn,u];refine dV K rfl a_ ?_;rintro r H' ⟨ws,c,A,rfl,rfl⟩ -;rw[PH.kG];obtain⟨rfl,rfl⟩:=O _ _ A;simp only[go_sem,No,u];refine dV M rfl a_ ?_;rintro r H' ⟨ct,b,A,rfl,rfl⟩ -;rw[PH.kG];obtain⟨rfl,g1,g2,g3⟩:=R _ _ A;have k1:=B ct g3;have k2:=E ct g3;rw[sT,w,a8U,g1] at k1;rw[sT,w,a8U,g2] at k2;simp only[go_sem];refine aO fun o2 y=>?_;have l:¬ o=o2:=fun e=>by rw[← e,u] at y; cases y
 have j:¬ o2=o:=fun e=>l e.symm;simp only[go_sem,Np,u,l,j,bP (show (0:Int)=0 from rfl),bP (show (12:Int)=12 from rfl),bP (show ((1:Nat):Int)=1 from rfl),a8E,a9Y,baX];refine aB k1 rfl ?_;simp only[go_sem,u,l,j];refine aB k2 rfl ?_;simp only[go_sem];refine aR (.inr rfl) rfl ?_;rfl
theorem aOR (f:aE) (room:List Int):(sM f room).arcs.length≤2500:=by
 cases e:dL f with
 | false=>rw[Cw e]; exact a8K _
 | true=>rw[uZ e]; exact (wB (VF.of e) room).num
theorem aIT {f:aE} {room:List Int} {w A:List (List Int)} {j l:Int} (x:zU f room w j) (y:zU f room A l):j=l∧(j=0∨w.length=0):=by
 rcases x with ⟨a,rfl,rfl⟩ | ⟨a,⟨u,b,-⟩,rfl⟩ | ⟨a,b,rfl,rfl⟩<;>rcases y with ⟨e,-,rfl⟩ | ⟨e,⟨u',b',-⟩,rfl⟩ | ⟨e,b',-,rfl⟩
 ·exact⟨rfl,.inr rfl⟩
 ·rw[a] at e; cases e
 ·rw[a] at e; cases e
 ·rw[a] at e; cases e
 ·exact⟨rfl,.inl rfl⟩
 ·exact absurd ⟨u,b⟩ b'
 ·rw[a] at e; cases e
 ·exact absurd ⟨u',b'⟩ b
 ·exact⟨rfl,.inr rfl⟩
theorem aWU {f:aE} {room:List Int} {x y:eO} {j l:Bool} (u:ay f room x j) (w:ay f room y l):j=l:=by
 rcases u with ⟨a,-,rfl⟩ | ⟨a,b,-,rfl⟩ | ⟨a,b,-,rfl⟩<;>rcases w with ⟨e,-,rfl⟩ | ⟨e,b',-,rfl⟩ | ⟨e,b',-,rfl⟩
 ·rfl
 ·rfl
 ·rw[a] at e; cases e
 ·rfl
 ·rfl
 ·exact absurd b b'
 ·rw[a] at e; cases e
 ·exact absurd b' b
 ·rfl
structure Po (C:Ctx):Prop extends Pn C where
 awake:aH C 312 [] .nil (aI (.bool true))
 net:∀ (f:aE) (room:List Int),f.Ok→aH C 286 [.agg f.cells,ints room] .nil (aI (tI f room))
 GY:∀ (f:aE) (room:List Int),f.Ok→aH C 307 [.agg f.cells,ints room] .nil (aI (tI f room))
 same:∀ n:bY,n.arcs.length≤2500→aH C 313 [.agg n.cells,.agg n.cells] .nil (aI (.bool true))
 NH:∀ (f:aE) (room:List Int),f.Ok→aH C 309 [.agg f.cells,ints room] .nil (Pv f room)
 Dh:∀ (f:aE) (room:List Int),f.Ok→aH C 310 [.agg f.cells,ints room] .nil (aLO f room)
 Dg:∀ (f:aE) (room:List Int) (c:eO),f.Ok→pJ c→aH C 311 [.agg f.cells,ints room,.agg c.cells] .nil (aI (.bool (sT f room c)))
def feS (b:Bool):Spec:=fun name _=>if name=290∨name=311 then some ([],fun _=>aI (.bool b)) else some ([],fun _=>aI (.bool true))
def aFB:aC:=(.seq (.region Ed) (.seq (.region Ee) (.seq (.region Ef) (.seq (.region Eg) (.seq (.region Eh) (.seq (.region Ei) (.seq (.draw Ej) .ret)))))))
theorem aFC:aj=.seq (.region Eb) (.seq (.seq (.region Ec) (.cond (.tmp 67) (.seq (.region cz) .ret) .skip)) aFB):=rfl
theorem aLG {C:Ctx} (j:Po C) (f:aE) (l:f.Ok) (room:List Int) (c:eO) (u:pJ c) {F:PF} (hF:((((PF.nil.set 1 (ints room)).set 3 (.bO f.cells)).set 5 (.bO c.cells))).le F):aFB.wp C (aT [.tmp 6] (aI (.bool true))) F .nil:=by
 have U:=j.net f room l;have V:=j.GY f room l;have h4:=j.same (sM f room) (aOR _ _);unfold tI at U V;generalize sM f room=n at *
 generalize aCM f=e at *
 have k1:=j.chk f room c l u;have k2:=j.Dg f room c l u;refine sQ _ (fun _ _ _ _ a b=>Up.up a b) hF ?_;simp only[go_sem,aFB,Ed];refine aB U rfl ?_;simp only[go_sem];refine aM.nil.sC fun o7 Y g1=>?_;have e1:=g1.at 0 rfl;have g2:=g1.set 0 rfl (nN n);simp only[go_sem,e1];generalize Y.set o7 (.rows 4 [n.cells])=H2 at *
 simp only[go_sem,Ee];refine aB V rfl ?_;simp only[go_sem];refine g2.sC fun o9 Z g3=>?_;have e3:=g3.at 1 rfl;have g4:=g3.set 1 rfl (nN n);simp only[go_sem,e3];generalize Z.set o9 (.rows 4 [n.cells])=H4 at *
 simp only[go_sem,Ef];refine dV (j.place f room l) rfl a_ ?_;rintro r H' ⟨N,M,x,rfl,rfl⟩ -;rw[PH.kG];simp only[go_sem,Eg];refine dV (j.NH f room l) rfl a_ ?_;rintro r H' ⟨α,p2,y,rfl,rfl⟩ -;rw[PH.kG];obtain⟨rfl,A⟩:=aIT x y;simp only[go_sem,Eh];refine dV (j.why f room l) rfl a_ ?_;rintro r H' ⟨W,b1,B,rfl,rfl⟩ -;rw[PH.kG];simp only[go_sem];refine g4.sC fun J H5 O=>?_;have e5:=O.at 2 rfl;have g6:=O.set 2 rfl (.rows 3 [W.cells]);simp only[go_sem,e5];generalize H5.set J (.rows 3 [W.cells])=H6 at *
 simp only[go_sem,Ei];refine dV (j.Dh f room l) rfl a_ ?_;rintro r H' ⟨X,b2,E,rfl,rfl⟩ -;rw[PH.kG];have hb:=aWU B E;subst hb;simp only[go_sem];refine g6.sC fun K H7 R=>?_;have e7:=R.at 3 rfl;have S:=R.set 3 rfl (.rows 3 [X.cells]);simp only[go_sem,e7];generalize H7.set K (.rows 3 [X.cells])=H8 at *
 have q1:=S.at 0 rfl;have q2:=S.at 1 rfl;refine aV _ (feS (sT f room c)) b_ ?_;simp only[go_sem,Ej,bP (show e=e from rfl),q1,q2];refine cC rfl h4 rfl b_ ?_;simp only[go_sem,bP (show M=M from rfl),beq_self_eq_true];refine cC (by rfl) k1 rfl b_ ?_;simp only[go_sem];refine cC (by rfl) k2 rfl b_ ?_;simp only[go_sem,beq_self_eq_true];by_cases I:M=0
 ·simp only[go_sem,bP I];refine cC rfl j.awake rfl b_ ?_;simp only[go_sem];exact jV rfl rfl
 ·have w:(N.length:Int)=0:=by have:=A.resolve_left I; omega
  simp only[go_sem,bD I,a8E,bP w];refine cC rfl j.awake rfl b_ ?_;simp only[go_sem];exact jV rfl rfl
theorem aXA {C:Ctx} (y:Po C) (f:aE) (N:f.Ok) (room:List Int) (c:eO) (I:c.vols.length≤1000000000000000∧c.a6Z.length≤1000000000000000∧c.a7J.length≤1000000000000000) :
  aj.wp C (aT aFA.res (aI (.bool true))) (PF.args [.agg f.cells,ints room,.agg c.cells]) .nil:=by
 obtain⟨J,K,M⟩:=I;have early:∀ F:PF,wpOps C cz (aC.wp C .ret (aT [.tmp 6] (aI (.bool true)))) F .nil:=by intro F;simp only[go_sem,cz];refine aB y.awake rfl ?_;simp only[go_sem];exact jV rfl rfl
 rw[aFC];simp only[go_sem,Eb,Ec,aFA,a8E];by_cases e:IntKind.i64.wrap (IntKind.i64.wrap ((f.a6X.length:Int)+(f.a6Q.length:Nat))+(f.a6T.length:Nat))>12
 ·simp only[go_sem,e];exact early _
 by_cases j:(f.a6S.length:Int)>30
 ·simp only[go_sem,e,j,a8E];exact early _
 by_cases l:(f.a6P.length:Int)>20
 ·simp only[go_sem,e,j,l,a8E];exact early _
 by_cases u:(f.a6R.length:Int)>10
 ·simp only[go_sem,e,j,l,u,a8E];exact early _
 by_cases w:(room.length:Int)>30
 ·simp only[go_sem,e,j,l,u,w,a8E];exact early _
 have B:IntKind.i64.wrap ((c.vols.length:Int)+(c.a6Z.length:Nat))=((c.vols.length+c.a6Z.length:Nat):Int):=by rw[wrap_i64 Om Om]; omega
 have E:IntKind.i64.wrap (((c.vols.length+c.a6Z.length:Nat):Int)+(c.a7J.length:Nat))=((c.vols.length+c.a6Z.length+c.a7J.length:Nat):Int):=by rw[wrap_i64 Om Om]; omega
 by_cases A:((c.vols.length+c.a6Z.length+c.a7J.length:Nat):Int)>100
 ·simp only[go_sem,e,j,l,u,w,a8E,B,E,A];exact early _
 have x:pJ c:=by unfold pJ; omega
 simp only[go_sem,e,j,l,u,w,a8E,B,E,A];exact aLG y f N room c x Lq
structure vP (C:Ctx):Prop where
 node:∀ (f:aE),Small f→0<f.a6S.length→∀ v i:Nat,v≤100→i≤100→aH C 304 [.agg f.cells,.int .i64 (v:Nat),.int .i64 (i:Nat)] .nil (aI (.int .i64 ((bV f v i:Nat):Int)))
 drv:∀ (f:aE),Small f→∀ d:Nat,d≤100→aH C 305 [.agg f.cells,.int .i64 (d:Nat)] .nil (aI (.int .i64 ((aY f d:Nat):Int)))
 total:∀ f:aE,VF f→aH C 306 [.agg f.cells] .nil (aI (.int .i64 ((oO f:Nat):Int)))
 qvalid:∀ f:aE,f.Ok→aH C 67 [.agg f.cells] .nil (aI (.bool (dL f)))
 allowed:∀ (f:aE) (p:dX) (d:Nat),VF f→Fits p.a6Q→d<f.a6P.length→aH C 77 [.agg p.cells,.agg f.cells,.int .i64 d] .nil (aI (.bool (p.a6Q.contains ((mdl f d:Nat):Int))))
 qroom:∀ (f:aE) (room:List Int),f.Ok→aH C 85 [.agg f.cells,ints room] .nil (aI (ints (IR f room)))
def quS (f:aE):Spec:=fun name vs=>match name,vs with
 | 304,[_,.int _ v,.int _ i]=>some ([],fun _=>aI (.int .i64 ((bV f v.toNat i.toNat:Nat):Int)))
 | 305,[_,.int _ d]=>some ([],fun _=>aI (.int .i64 ((aY f d.toNat:Nat):Int)))
 | _,_=>none
section
variable {C:Ctx} {F:PF} {H Hs:PH} {st:Bool} {f:aE} {args:List aP} {d:Option Nat} {K:PF→PH→Prop}
theorem rT (j:vP C) (x:Small f) (l:0<f.a6S.length) {v i:Nat} (y:v≤100) (hi:i≤100) (u:aP.evs F args=some [.agg f.cells,.int .i64 (v:Nat),.int .i64 (i:Nat)]) (e:Hs.le H) (w:K (F.put d (.int .i64 ((bV f v i:Nat):Int))) H):dOp C Hs (quS f) st (.call 304 args) d K F H :=
 cC (v:=.int .i64 ((bV f v i:Nat):Int)) (by rfl) (j.node f x l v i y hi) u e w
theorem GD (j:vP C) (w:Small f) {i:Nat} (hi:i≤100) (l:aP.evs F args=some [.agg f.cells,.int .i64 (i:Nat)]) (e:Hs.le H) (u:K (F.put d (.int .i64 ((aY f i:Nat):Int))) H):dOp C Hs (quS f) st (.call 305 args) d K F H :=
 cC (v:=.int .i64 ((aY f i:Nat):Int)) (by rfl) (j.drv f w i hi) l e u
end
theorem CZ {H:PH} {B:List BX} {v:PV} {l:List bN} {K:PV→PH→Prop} (a:bN) (h:aM H B [(v,4,l.map bN.cells)]) (w:l.length≤1000000) (u:∀ q n H',aM H' B [(.osl q 4 0 n,4,(l++[a]).map bN.cells)]→K (.osl q 4 0 n) H'):oF H 4 32 v (.sl 4 [a.cells]) K:=by
 refine h.append 0 (src:=[a.cells]) rfl rfl (by unfold roomFor; rw[a8E]; simp only[a8N,maxLen]; omega) fun v' H' j e=>?_;obtain⟨q,hq⟩:=e (by simp);generalize ((l.map bN.cells++[a.cells]).length)=n at hq;subst hq;refine u q n H' ?_;rw[a9U];exact j
structure QO where
 o:Nat
 z:Nat
 p:Nat
def nY (f:aE) (room:List Int) (e:QO) (k:Nat):PF:=(((((PF.nil.set 1 (ints room)).set 2 (.bO f.cells)).set 4 (.ptr e.z 4 0 0)).set 6 (.ptr e.o 4 0 0)).set 7 (.int .i64 (k:Nat)))
def GX (f:aE) (room:List Int) (e:QO) (k i:Nat):PF:=((nY f room e k).set 8 (.ptr e.p 17 0 0)).set 9 (.int .i64 ((i+1:Nat):Int))
def nt (f:aE) (room:List Int) (e:QO) (k i:Nat):PF:=((nY f room e k).set 8 (.ptr e.p 17 0 0)).set 11 (.int .i64 (i:Nat))
theorem ajA {C:Ctx} (f:aE) (p:dX) {i:Nat} (hi:i<f.a6S.length) (I:0≤lvl f i) (J:lvl f i<5) {op:Nat} (K:PF→PH→Prop) (F:PF) (H:PH) (x:F 2=some (.bO f.cells)) (y:F 9=some (.int .i64 (i:Nat))) (h8:F 8=some (.ptr op 17 0 0)) (u:H op=some (qY p))
  (w:∀ e:PF,e 10=some (.int .i64 (p.spread (lvl f i).toNat))→(∀ G:PF,G.le F→(∀ j,62≤j→j<71→G j=none)→G 10=none→G.le e)→K e H):wpOps C nz K F H:=by
 have h5:lvl f i<((5:Nat):Int):=Om;simp only[go_sem,nz,x,y,h8,oQ hi,V6 hi,I,h5,Nat.mul_one];have B:lvl f i=0∨lvl f i=1∨lvl f i=2∨lvl f i=3∨lvl f i=4:=Om;have fin:∀ e:PF,e 10=some (.int .i64 (p.spread (lvl f i).toNat))→(∀ G:PF,G.le F→(∀ j,62≤j→j<71→G j=none)→G 10=none→G.le e)→K e H:=w;clear w;rcases B with h | h | h | h | h
 all_goals
  rw[h] at fin ⊢;simp only[go_sem,u];refine fin _ rfl fun G A E l=>?_
  repeat' (first | exact A | exact l | (exact E _ (by decide) (by decide)) | refine MZ ?_ ?_)
theorem aIZ {C:Ctx} (Lb:vP C) {K:cI} [Up K] (f:aE) (hV:VF f) (room:List Int) (e:QO) (N k:Nat) (hk:k<f.a6R.length) (pre:List bN) (γ:pre.length≤900000) {F:PF} {H:PH} {B:List BX} (v:PV)
  (E:B[0]?=some (e.p,qY (cO f k)))
  (w:aM H ((e.o,cN N v)::B) [(v,4,pre.map bN.cells)]) (hF:(GX f room e k 0).le F)
  (hK:∀ v' H',aM H' ((e.o,cN N v')::B) [(v',4,(pre++(a8D (f.a6S.length-1)).map (kA f k)).map bN.cells)]→K (.exit 2) ((nY f room e k).set 8 (.ptr e.p 17 0 0)) H'):aC.wp C (.loop nu) K F H:=by
 have R:=hV.small;have hr:=hV.root;have ε:=R.a6S;have ζ:=R.a6R;have δ:¬ e.o=e.p:=w.ne 0 1 rfl E (by decide);refine wp_loop (α:=Nat × PV × PH) (fun s=>GX f room e k s.1) (fun s=>s.2.2) (fun s=>s.1+1≤f.a6S.length∧aM s.2.2 ((e.o,cN N s.2.1)::B) [(s.2.1,4,(pre++(a8D s.1).map (kA f k)).map bN.cells)]) (fun s=>f.a6S.length-s.1) (0,v,H) ⟨by have:=hr.1; omega,by simpa using w⟩ hF b_ ?_;rintro⟨i,v,H0⟩ ⟨hi,w⟩;simp only at hi w;simp only[go_sem,nu,aaF,GX,nY,a8E];by_cases hlt:i+1<f.a6S.length
 ·have u:((i+1:Nat):Int)<(f.a6S.length:Nat):=Om;have Z:=dW (Om:i+1<9223372036854775807);obtain⟨d1,d2,d3,d4,d5⟩:=hV.dom (i+1) Om hlt;have β:=hV.Dc (Om:0<i+1) hlt;have A:H0 e.p=some (qY (cO f k)):=w.at 1 E;have V:H0 e.o=some (cN N v):=w.at 0 rfl;obtain⟨b1,b2,b3,b4⟩:=mO hV hk;obtain⟨hp,he⟩:=qZ hV hk;have x:=hV.a7C _ (a8G hp);rw[he] at x;have U:IntKind.i64.wrap ((cO f k).k+(cO f k).m)=((fE f k:Nat):Int):=by rw[b3]; exact wrap_i64 Om Om
  have η:=x.2.2.2.2.2.2.1 (lvl f (i+1)).toNat;have l:((uX f k (i+1):Nat):Int)=if (cO f k).spread (lvl f (i+1)).toNat=0 then ((fE f k:Nat):Int) else (cO f k).spread (lvl f (i+1)).toNat:=by
   unfold uX fW;split
   ·rfl
   ·omega
  simp only[go_sem,u];refine ajA f (cO f k) hlt Om Om (op:=e.p) _ _ _ rfl rfl rfl A fun F1 y J=>?_;have Y:=J (GX f room e k i) (by (repeat' (first|exact c_|refine d_ ?_ ?_))<;>first|(simp only[go_sem,GX,nY]<;>rfl)|rfl) (fun j O h2=>by have:j=62∨j=63∨j=64∨j=65∨j=66∨j=67∨j=68∨j=69∨j=70:=Om;rcases this with rfl | rfl | rfl | rfl | rfl | rfl | rfl | rfl | rfl<;>rfl) rfl
  clear J;have I:∀ S:PF,((GX f room e k i).set 10 (.int .i64 ((uX f k (i+1):Nat):Int))).le S →
    aC.wp C (.draw n6) (jY C (aC.wp C (.draw n8)) (fR 3 (jY C (aC.wp C (.region n9)) (gP (fun s:Nat × PV × PH=>GX f room e k s.1) (fun s=>s.2.2) (fun s=>s.1+1≤f.a6S.length∧aM s.2.2 ((e.o,cN N s.2.1)::B) [(s.2.1,4,(pre++(a8D s.1).map (kA f k)).map bN.cells)]) (fun s=>f.a6S.length-s.1) (f.a6S.length-i) K)))) S H0:=by
   intro S X;refine sQ _ (fun _ _ _ _ a b=>Up.up a b) X ?_;refine aV (PH.nil.set e.o (cN N v)) (quS f) (e_ a_ V) ?_;simp only[go_sem,n6,GX,nY,oQ hlt,Zp hlt,β];refine rT Lb R hr.1 (v:=k) (i:=jO f (i+1)) Om Om rfl (e_ a_ V) ?_;simp only[go_sem];refine rT Lb R hr.1 (v:=k) (i:=i+1) Om Om rfl (e_ a_ V) ?_;simp only[go_sem];refine CZ (kA f k i) w (by rw[a8H,a8E,baJ]; omega) fun q n H1 O=>?_;refine⟨e_ a_ (O.at 0 rfl),?_⟩;have W:=O.at 0 rfl;refine aV .nil cA a_ ?_;simp only[go_sem,n8,W];refine⟨a_,?_⟩;have h2:=O.set 0 rfl (cN N (.osl q 4 0 n));simp only[go_sem,n9,Z];refine aG (i+1,.osl q 4 0 n,_) ⟨hlt,?_⟩ (by simp only; omega) (by (repeat' (first|exact c_|refine d_ ?_ ?_))<;>first|(simp only[go_sem,GX,nY]<;>rfl)|rfl) b_;simp only;rw[NW];exact h2
  by_cases M:(cO f k).spread (lvl f (i+1)).toNat=0
  ·rw[if_pos M] at l;have f8:=Y 8 _ rfl;simp only[go_sem,n0,y,bP M,aaG,f8,A,U];refine I _ (d_ ?_ (by simp only[go_sem,l]))
   repeat' (first | exact Y | refine MZ ?_ rfl)
  ·rw[if_neg M] at l;simp only[go_sem,n0,y,bD M];refine I _ (d_ ?_ (by simp only[go_sem,y,l]))
   repeat' (first | exact Y | refine MZ ?_ rfl)
 ·have u:¬ ((i+1:Nat):Int)<(f.a6S.length:Nat):=Om;have:i=f.a6S.length-1:=Om;subst this;simp only[go_sem,u];exact Up.up (by (repeat' (first|exact c_|refine d_ ?_ ?_))<;>first|(simp only[go_sem,GX,nY]<;>rfl)|rfl) (hK v H0 w)
theorem aJA {C:Ctx} (A:vP C) {K:cI} [Up K] (f:aE) (hV:VF f) (room:List Int) (e:QO) (N k:Nat) (hk:k<f.a6R.length) (w:Fits (cO f k).a6Q) (pre:List bN) (U:pre.length≤900000) {F:PF} {H:PH} {B:List BX} (v:PV)
  (O:B[0]?=some (e.p,qY (cO f k)))
  (l:aM H ((e.o,cN N v)::B) [(v,4,pre.map bN.cells)]) (X:(nt f room e k 0).le F)
  (Y:∀ v' H',aM H' ((e.o,cN N v')::B) [(v',4,(pre++((a8D f.a6P.length).filter (okD f k)).map (eG f k)).map bN.cells)]→K (.exit 4) (nY f room e k) H'):aC.wp C (.loop nv) K F H:=by
 have y:=hV.small;have Z:=hV.root;have β:=y.a6S;have γ:=y.a6P;have δ:=y.a6R;refine wp_loop (α:=Nat × PV × PH) (fun s=>nt f room e k s.1) (fun s=>s.2.2) (fun s=>s.1≤f.a6P.length∧aM s.2.2 ((e.o,cN N s.2.1)::B) [(s.2.1,4,(pre++((a8D s.1).filter (okD f k)).map (eG f k)).map bN.cells)]) (fun s=>f.a6P.length-s.1) (0,v,H) ⟨a8K _,by simpa using l⟩ X b_ ?_;rintro⟨i,v,H0⟩ ⟨hi,l⟩;simp only at hi l;simp only[go_sem,nv,aaI,nt,nY,a8E];by_cases hlt:i<f.a6P.length
 ·have j:(i:Int)<(f.a6P.length:Nat):=Om;have x:=wZz i;obtain⟨d1,d2,d3,d4,d5⟩:=hV.drive i hlt;have S:okD f k i=(cO f k).a6Q.contains ((mdl f i:Nat):Int):=rfl;have E:H0 e.p=some (qY (cO f k)):=l.at 1 O;have I:H0 e.o=some (cN N v):=l.at 0 rfl;have u:=db (okD f k) i;simp only[go_sem,j,aaJ,E];refine aB (A.allowed f (cO f k) i hV w hlt) rfl ?_;rw[← S];cases hb:okD f k i with
  | false =>rw[hb,if_neg (by decide),a9W] at u;rw[← u] at l;simp only[go_sem,oa,x];exact aG (i+1,v,H0) ⟨hlt,l⟩ (by simp only; omega) (by (repeat' (first|exact c_|refine d_ ?_ ?_))<;>first|(simp only[go_sem,nt,nY]<;>rfl)|rfl) b_
  | true =>
   rw[hb,if_pos rfl] at u;have R:=List.length_filter_le (okD f k) (a8D i);rw[baJ] at R;simp only[go_sem];refine aV (PH.nil.set e.o (cN N v)) (quS f) (e_ a_ I) ?_;simp only[go_sem,aaK,qJ hlt,hV.b8 hlt];refine rT A y Z.1 (v:=k) (i:=fF f i) Om Om rfl (e_ a_ I) ?_;simp only[go_sem];refine GD A y (i:=i) Om rfl (e_ a_ I) ?_;simp only[go_sem];refine CZ (eG f k i) l (by rw[a8H,a8E]; omega) fun q n H1 M=>?_;refine⟨e_ a_ (M.at 0 rfl),?_⟩;have J:=M.at 0 rfl;refine aV .nil cA a_ ?_;simp only[go_sem,aaL,J];refine⟨a_,?_⟩;have W:=M.set 0 rfl (cN N (.osl q 4 0 n));simp only[go_sem,oa,x];refine aG (i+1,.osl q 4 0 n,_) ⟨hlt,?_⟩ (by simp only; omega) (by (repeat' (first|exact c_|refine d_ ?_ ?_))<;>first|(simp only[go_sem,nt,nY]<;>rfl)|rfl) b_;simp only;have V:pre++((a8D (i+1)).filter (okD f k)).map (eG f k)=pre++((a8D i).filter (okD f k)).map (eG f k)++[eG f k i]:=by rw[u,a9U,← a9L]; rfl
   rw[V];exact W
 ·have j:¬ (i:Int)<(f.a6P.length:Nat):=Om;have:i=f.a6P.length:=Om;subst this;simp only[go_sem,j];exact Up.up (by (repeat' (first|exact c_|refine d_ ?_ ?_))<;>first|(simp only[go_sem,nt,nY]<;>rfl)|rfl) (Y v H0 l)
theorem aJB {C:Ctx} (J:vP C) {K:cI} [Up K] (f:aE) (hf:f.Ok) (hV:VF f) (room:List Int) (o z:Nat) (N:Nat) {F:PF} {H:PH}
  (u:aM H [(o,cN N .aD),(z,fX)] [(.aD,4,[])]) (hF:(nY f room ⟨o,z,0⟩ 0).le F)
  (hK:∀ v' H',aM H' [(o,cN N v'),(z,fX)] [(v',4,((a8D f.a6R.length).flatMap (fI f)).map bN.cells)]→K (.exit 0) (nY f room ⟨o,z,0⟩ f.a6R.length) H'):aC.wp C (.loop nw) K F H:=by
 have A:=hV.small;have hr:=hV.root;have γ:=A.a6S;have δ:=A.a6P;have ε:=A.a6R;refine wp_loop (α:=Nat × PV × PH) (fun s=>nY f room ⟨o,z,0⟩ s.1) (fun s=>s.2.2) (fun s=>s.1≤f.a6R.length∧aM s.2.2 [(o,cN N s.2.1),(z,fX)] [(s.2.1,4,((a8D s.1).flatMap (fI f)).map bN.cells)]) (fun s=>f.a6R.length-s.1) (0,.aD,H) ⟨a8K _,by simpa using u⟩ hF b_ ?_;rintro⟨k,v,H0⟩ ⟨hk,u⟩;simp only at hk u;simp only[go_sem,nw,auN,nY,a8E];by_cases hlt:k<f.a6R.length
 ·have e:(k:Int)<(f.a6R.length:Nat):=Om;have S:=wZz k;obtain⟨V,he⟩:=qZ hV hlt;have j:=(hf.a7C _ (a8G V)).a6Q;rw[he] at j;have w:=hV.a7C _ (a8G V);rw[he] at w;obtain⟨b1,b2,b3,b4⟩:=mO hV hlt;have M:IntKind.i64.wrap ((cO f k).k+(cO f k).m)=((fE f k:Nat):Int):=by rw[b3]; exact wrap_i64 Om Om
  have β:=CG A k;simp only[go_sem,e];refine aV .nil cA a_ ?_;simp only[go_sem,auO,zM hlt,hV.YE hlt,tC V,he];refine u.sC fun p Z Y=>?_;have g1:=Y.pK;have h2:=Y.vK (qY (cO f k));simp only[go_sem,g1];refine⟨a_,?_⟩;generalize Z.set p (.rows 17 [(cO f k).cells])=H2 at *
  have E:aM H2 [(o,cN N v),(p,qY (cO f k)),(z,fX)] [(v,4,((a8D k).flatMap (fI f)).map bN.cells)]:=by refine h2.perm ?_ (baQ.refl _);exact .cons _ (.swap _ _ _)
  have W:H2 o=some (cN N v):=E.at 0 rfl;have X:H2 p=some (qY (cO f k)):=E.at 1 rfl;have U:¬ o=p:=E.ne 0 1 rfl rfl (by decide);obtain⟨Hs,so,sp,l⟩:=tr (x:=cN N v) (y:=qY (cO f k)) U;refine aV Hs (quS f) (l _ W X) ?_;simp only[go_sem,auP,so];refine rT J A hr.1 (v:=k) (i:=0) Om Om rfl (l _ W X) ?_;simp only[go_sem,sp,M];refine CZ (⟨0,bV f k 0,fE f k⟩:bN) E Om fun q n H3 I=>?_;refine⟨l _ (I.at 0 rfl) (I.at 1 rfl),?_⟩;have O:=I.at 0 rfl;refine aV .nil cA a_ ?_;simp only[go_sem,auQ,O];refine⟨a_,?_⟩;have h5:=I.set 0 rfl (cN N (.osl q 4 0 n));simp only[go_sem,auR];refine aIZ J f hV room ⟨o,z,p⟩ N k hlt ((a8D k).flatMap (fI f)++[(⟨0,bV f k 0,fE f k⟩:bN)]) (by rw[a8H,a8N]; omega) (.osl q 4 0 n) (B:=[(p,qY (cO f k)),(z,fX)]) rfl h5 (by (repeat' (first|exact c_|refine d_ ?_ ?_))<;>first|(simp only[go_sem,GX,nY]<;>rfl)|rfl) fun v2 H8 h9=>?_;simp only[go_sem,aaH,nY];refine aJA J f hV room ⟨o,z,p⟩ N k hlt j ((a8D k).flatMap (fI f)++[(⟨0,bV f k 0,fE f k⟩:bN)]++(a8D (f.a6S.length-1)).map (kA f k)) (by rw[a8H,a8H,a8N,a8E,baJ]; omega) (B:=[(p,qY (cO f k)),(z,fX)]) v2 rfl h9 (by (repeat' (first|exact c_|refine d_ ?_ ?_))<;>first|(simp only[go_sem,nt,nY]<;>rfl)|rfl) fun v3 H9 R=>?_;simp only[go_sem,aaM,nY,S];refine aG (k+1,v3,H9) ⟨hlt,?_⟩ (by simp only; omega) (by (repeat' (first|exact c_|refine d_ ?_ ?_))<;>first|(simp only[go_sem,nY]<;>rfl)|rfl) b_;simp only;have ev:(a8D (k+1)).flatMap (fI f)=(a8D k).flatMap (fI f)++[(⟨0,bV f k 0,fE f k⟩:bN)]++(a8D (f.a6S.length-1)).map (kA f k)++((a8D f.a6P.length).filter (okD f k)).map (eG f k):=by rw[TG];unfold fI;simp[bV]
  rw[ev];exact R.uQ 1
 ·have e:¬ (k:Int)<(f.a6R.length:Nat):=Om;have:k=f.a6R.length:=Om;subst this;simp only[go_sem,e];exact Up.up (by (repeat' (first|exact c_|refine d_ ?_ ?_))<;>first|(simp only[go_sem,nY]<;>rfl)|rfl) (hK v H0 u)
theorem aDC {C:Ctx} (I:vP C) {K:cI} [Up K] (f:aE) (hV:VF f) (room:List Int) (o z N:Nat) (pre:List bN) (B:pre.length≤900000) {F:PF} {H:PH} (v:PV)
  (j:aM H [(o,cN N v),(z,fX)] [(v,4,pre.map bN.cells)])
  (M:((((((PF.nil.set 2 (.bO f.cells)).set 4 (.ptr z 4 0 0)).set 6 (.ptr o 4 0 0)).set 12 (.sl 1 (bU (mZ f room)))).set 13 (.int .i64 0))).le F)
  (O:∀ v' H',aM H' [(o,cN N v'),(z,fX)] [(v',4,(pre++(a8D f.a6P.length).map (nP f room)).map bN.cells)]→K (.exit 6) (((PF.nil.set 4 (.ptr z 4 0 0)).set 6 (.ptr o 4 0 0))) H'):aC.wp C (.loop ny) K F H:=by
 have E:=hV.small;have R:=E.a6P;refine wp_loop (α:=Nat × PV × PH) (fun s=>(((((PF.nil.set 2 (.bO f.cells)).set 4 (.ptr z 4 0 0)).set 6 (.ptr o 4 0 0)).set 12 (.sl 1 (bU (mZ f room)))).set 13 (.int .i64 (s.1:Nat)))) (fun s=>s.2.2) (fun s=>s.1≤f.a6P.length∧aM s.2.2 [(o,cN N s.2.1),(z,fX)] [(s.2.1,4,(pre++(a8D s.1).map (nP f room)).map bN.cells)]) (fun s=>f.a6P.length-s.1) (0,v,H) ⟨a8K _,by simpa using j⟩ M b_ ?_;rintro⟨i,v,H0⟩ ⟨hi,j⟩;simp only at hi j;simp only[go_sem,ny,aaP,a8E];by_cases hlt:i<f.a6P.length
 ·have e:(i:Int)<(f.a6P.length:Nat):=Om;have x:=wZz i;have y:i<(mZ f room).length:=by rw[rX]; exact hlt
  have l:=AD y;obtain⟨r1,r2⟩:=zF hV room hlt;rw[RW,← r2] at l;have A:=j.at 0 rfl;simp only[go_sem,e];refine aV (PH.nil.set o (cN N v)) (quS f) (e_ a_ A) ?_;simp only[go_sem,aaQ];refine GD I E (i:=i) Om rfl (e_ a_ A) ?_;simp only[go_sem,l,iV,rX,e];refine CZ (nP f room i) j (by rw[a8H,a8E,baJ]; omega) fun q n S w=>?_;refine⟨e_ a_ (w.at 0 rfl),?_⟩;have u:=w.at 0 rfl;refine aV .nil cA a_ ?_;simp only[go_sem,aaR,u];refine⟨a_,?_⟩;have J:=w.set 0 rfl (cN N (.osl q 4 0 n));simp only[go_sem,aaS,x];refine aG (i+1,.osl q 4 0 n,_) ⟨hlt,?_⟩ (by simp only; omega) Lq b_;simp only;rw[NW];exact J
 ·have e:¬ (i:Int)<(f.a6P.length:Nat):=Om;have:i=f.a6P.length:=Om;subst this;simp only[go_sem,e];exact Up.up Lq (O v H0 j)
theorem aVV {C:Ctx} (l:vP C) (f:aE) (y:f.Ok) (room:List Int) :
  YK.wp C (aT GY.res (cP (tI f room))) (PF.args [.agg f.cells,ints room]) .nil:=by
 simp only[go_sem,YK,auI,GY];refine aO fun z N=>?_;simp only[go_sem,auJ];refine aB (l.qvalid f y) rfl ?_;have x:aM (PH.nil.set z fX) [(z,fX)] []:=aM.nil.new N fX;generalize (PH.nil.set z fX)=R at *
 have I:=x.at 0 rfl;cases j:dL f with
 | false =>simp only[go_sem,a8X,auK,I];rw[tI,Cw j,xO j];have J:=(x.set 0 rfl fX).kB 4;refine pE (vs:=[.agg [.int .i64 0,.int .i64 0,.int .i64 0,.aD],.int .i64 1]) (.inr rfl) Sq ?_;exact bo J
 | true =>
  have hV:=VF.of j;have w:=hV.small;rw[tI,uZ j,nM j];simp only[go_sem,a8Q,auL,a8E];refine aB (l.drv f w f.a6P.length (by have:=w.a6P; omega)) rfl ?_;simp only[go_sem];refine x.sC fun o E A=>?_;have g4:=A.at 1 rfl;have h5:=A.set 1 rfl (cN (aY f f.a6P.length) .aD);simp only[go_sem,g4];generalize E.set o (.rows 4 [[.int .i64 ((aY f f.a6P.length:Nat):Int),.int .i64 0,.int .i64 1,.aD]])=F at *
  have K:aM F [(o,cN (aY f f.a6P.length) .aD),(z,fX)] [(.aD,4,[])]:=by refine (h5.kB 4).perm ?_ (baQ.refl _);exact (List.reverse_perm _).symm
  simp only[go_sem,auM];refine aJB l f y hV room o z _ K (by (repeat' (first|exact c_|refine d_ ?_ ?_))<;>first|(simp only[go_sem,nY]<;>rfl)|rfl) fun O S h7=>?_;have u:=l.qroom f room y;rw[IR,if_pos j] at u;simp only[go_sem,aaN,nY];refine aB u rfl ?_;simp only[go_sem,aaO];refine aDC l f hV room o z _ ((a8D f.a6R.length).flatMap (fI f)) (by have:=CG w f.a6R.length; have:=w.a6R; omega) O h7 Lq fun B U h8=>?_;have a7:=h8.at 0 rfl;have a4:=h8.at 1 rfl;have M:=h8.set 1 rfl (cN (aY f f.a6P.length) B);simp only[go_sem,aaT,a7,a4];refine⟨_,if_pos ?_,?_⟩
  ·rcases h8.own 0 rfl with ⟨_,e⟩ | ⟨q,rs,e,_⟩<;>rw[e]
  refine pE (vs:=[.agg [.int .i64 ((aY f f.a6P.length:Nat):Int),.int .i64 0,.int .i64 1,B],.int .i64 0]) (.inr rfl) Sq ?_;exact bo M
theorem aDG {res:List eS} {F:PF} {H:PH} {j:PV} {ps:WPs} {e:mY} (he:e=.normal∨e=.ret) (h:eS.evs F H res=some [j]) (l:aM H [] (sK j ps)):aT res (cP (lists (wls ps))) e F H:=by
 obtain⟨φ,w,k1,-,-,-,u,-⟩:=QP ps [] [] .nil l (fun b hb=>by cases hb);refine pE he h ⟨_,_,.nil,u _,a_,φ (cB [j]),?_,?_⟩
 ·rw[vL,oJ,if_pos rfl]; rfl
 ·exact⟨k1,rfl⟩
theorem aFR {f:aE} {v w i:Nat} (e:0<i) (hi:i<f.a6S.length) (h:bV f v i=bV f w i):v=w:=by
 unfold bV at h;rw[if_neg Om,if_neg Om] at h;rcases Nat.lt_trichotomy v w with c | c | c
 ·have:=a9H (f.a6S.length-1) (Om:v+1≤w);rw[baL] at this;omega
 ·exact c
 ·have:=a9H (f.a6S.length-1) (Om:w+1≤v);rw[baL] at this;omega
def vT (f:aE) (n:bY) (xs:List Nat) (e k:Nat):PF:=(((((PF.nil.set 2 (.sl 1 (eV xs))).set 3 (.bO f.cells)).set 4 (.bO n.cells)).set 7 (.osl e 1 0 f.a6R.length)).set 8 (.int .i64 (k:Nat)))
def nc (f:aE) (n:bY) (xs:List Nat) (e k:Nat) (d j:Nat):PF:=((vT f n xs e k).set 9 (.int .i64 (d:Nat))).set 10 (.int .i64 (j:Nat))
theorem aPN {C:Ctx} (Lb:vP C) {K:cI} [Up K] (f:aE) (hV:VF f) (room:List Int) (xs:List Nat) (M k v d:Nat) (hk:k<(cJ f room).arcs.length) (hv:v<f.a6R.length) (hd:d<f.a6P.length) (ha:bR (cJ f room) k=eG f v d) (W Y:List (List Int)) (hW:W.length=f.a6R.length) (δ:(W.getD v []).length≤1000000)
  (R:W.set v (W.getD v []++[(d:Int)])=Y) (ps:WPs) (l:wls ps=W) {F:PF} {H:PH} (E:aM H [(M,.rows 1 (dR ps))] (hC ps)) (hF:(nc f (cJ f room) xs M k d 0).le F)
  (hK:∀ J H',wls J=Y→aM H' [(M,.rows 1 (dR J))] (hC J)→K (.exit 2) (vT f (cJ f room) xs M k) H'):aC.wp C (.loop nj) K F H:=by
 have hs:=hV.small;have hr:=hV.root;have θ:=hs.a6S;have ι:=hs.a6R;have X:=kp hV hd;refine wp_loop (α:=Nat × WPs × PH) (fun s=>nc f (cJ f room) xs M k d s.1) (fun s=>s.2.2) (fun s=>s.1≤f.a6R.length∧wls s.2.1=(if v<s.1 then Y else W)∧aM s.2.2 [(M,.rows 1 (dR s.2.1))] (hC s.2.1)) (fun s=>f.a6R.length-s.1) (0,ps,H) ⟨a8K _,by simpa using l,E⟩ hF b_ ?_;rintro⟨j,ps,H0⟩ ⟨hj,l,E⟩;simp only at hj l E;have O:Y.length=f.a6R.length:=by rw[← R,a9X,hW]
 have η:ps.length=f.a6R.length:=by
  have:=congrArg List.length l;unfold wls at this;rw[a8E] at this;rw[this];split
  ·exact O
  ·exact hW
 simp only[go_sem,nj,auE,nc,vT,a8E];by_cases hlt:j<f.a6R.length
 ·have y:(j:Int)<(f.a6R.length:Nat):=Om;have V:=wZz j;have S:=kD hk;rw[ha] at S;have ζ:(k:Int)<((cJ f room).arcs.length:Nat):=Om;have ε:(d:Int)<(f.a6P.length:Nat):=Om;simp only[go_sem,y];refine aV .nil (quS f) a_ ?_;simp only[go_sem,auF,S,qJ hd,hV.b8 hd];refine rT Lb hs hr.1 (v:=j) (i:=fF f d) Om Om rfl a_ ?_;have B:(eG f v d).src=bV f v (fF f d):=rfl;by_cases c:j=v
  ·subst c;rw[if_neg (Nat.lt_irrefl _)] at l;have U:j<ps.length:=Om;obtain⟨u,w,A⟩:∃ u w,ps[j]?=some (u,w):=⟨(ps[j]).1,(ps[j]).2,a8L U⟩;have I:(wls ps).getD j []=w:=cw A;rw[l] at I;have Z:=E.at 0 rfl;simp only[go_sem,bP (show (((eG f j d).src:Nat):Int)=((bV f j (fF f d):Nat):Int) by rw[B]),auG,y,Z,a8R,xA A];refine E.append j (FH A) (src:=bU [(d:Int)]) rfl (by unfold roomFor; rw[iV,iV,← I]; simp only[a8N,maxLen]; omega) fun N H3 h3 hu=>?_;obtain⟨q',rfl⟩:=hu (by simp[bU]);rw[← GO] at h3 ⊢;have e3:=h3.at 0 rfl;have γ:j<(dR ps).length:=by rw[CC]; exact U
   have h4:=h3.set 0 rfl (.rows 1 ((dR ps).set j [.osl q' 1 0 (bU (w++[(d:Int)])).length]));generalize (bU (w++[(d:Int)])).length=nn at *
   simp only[go_sem,y,e3,a8R,xA A,γ];refine⟨_,if_pos (fun x hx=>by rw[a9K] at hx; subst hx; rfl),?_⟩;generalize κ:PV.osl q' 1 0 nn=N at *
   simp only[go_sem,np,V];refine aG (j+1,ps.set j (N,w++[(d:Int)]),_) ⟨hlt,?_,?_⟩ (by simp only; omega) (by (repeat' (first|exact c_|refine d_ ?_ ?_))<;>first|(simp only[go_sem,nc,vT]<;>rfl)|rfl) b_
   ·simp only;rw[if_pos (Nat.lt_succ_self _),cx,l,← I];exact R
   ·simp only;have e5:dR (ps.set j (N,w++[(d:Int)]))=(dR ps).set j [N]:=List.map_set ..;have e6:hC (ps.set j (N,w++[(d:Int)]))=(hC ps).set j (N,1,bU (w++[(d:Int)])):=List.map_set ..;rw[e5,e6];exact h4
  ·have β:¬ (((eG f v d).src:Nat):Int)=((bV f j (fF f d):Nat):Int):=by rw[B];intro e;exact c (aFR X.1 X.2 Om).symm
   simp only[go_sem,bD β,np,V];refine aG (j+1,ps,H0) ⟨hlt,?_,E⟩ (by simp only; omega) (by (repeat' (first|exact c_|refine d_ ?_ ?_))<;>first|(simp only[go_sem,nc,vT]<;>rfl)|rfl) b_;simp only;rw[l];by_cases c2:v<j
   ·rw[if_pos c2,if_pos Om]
   ·rw[if_neg c2,if_neg Om]
 ·have y:¬ (j:Int)<(f.a6R.length:Nat):=Om;rw[if_pos Om] at l;simp only[go_sem,y];exact Up.up (by (repeat' (first|exact c_|refine d_ ?_ ?_))<;>first|(simp only[go_sem,nc,vT]<;>rfl)|rfl) (hK ps H0 l E)
theorem aVU {C:Ctx} (Lb:vP C) (f:aE) (hV:VF f) (room:List Int) (xs:List Nat) (hx:pG (cJ f room) xs) :
  YJ.wp C (aT ni.res (cP (lists (CP f (eE f room) xs)))) (PF.args [.agg f.cells,.agg (cJ f room).cells,.sl 1 (eV xs)]) .nil:=by
 have hs:=hV.small;have ι:=hs.a6R;have hn:=wB hV room;have hm:=hn.num;have η:=hn.few;have F:xs.length=(eE f room).length:=hx.len;have V:(f.a6R.length:Int)*((24:Nat):Int)≤140737488355328:=Om;have W:(f.a6R.length:Int)≤9223372036854775807:=Om;have X:(0:Int)≤(f.a6R.length:Int):=Om;have eo:dR (a8F f.a6R.length ((.aD,[]):PV × List Int))=a8F f.a6R.length [.aD]:=by unfold dR; rw[List.map_replicate]
 simp only[go_sem,YJ,atY,ni,atZ,a8E,V,W,X,Int.le_refl,bbI];refine aO fun I γ=>?_;have h1:=(aM.nil.new γ (.rows 1 (a8F f.a6R.length [.aD]))).aSF f.a6R.length;generalize PH.nil.set I (.rows 1 (a8F f.a6R.length [.aD]))=H1 at *
 rw[← eo] at h1;simp only[go_sem,auA];refine wp_loop (α:=Nat × WPs × PH) (fun s=>vT f (cJ f room) xs I s.1) (fun s=>s.2.2) (fun s=>s.1≤(cJ f room).arcs.length∧wls s.2.1=nK f (eE f room) xs s.1∧aM s.2.2 [(I,.rows 1 (dR s.2.1))] (hC s.2.1)) (fun s=>(cJ f room).arcs.length-s.1) (0,a8F f.a6R.length (.aD,[]),H1) ⟨a8K _,?_,h1⟩ (by (repeat' (first|exact c_|refine d_ ?_ ?_))<;>first|(simp only[go_sem,vT]<;>rfl)|rfl) b_ ?_
 ·rw[Gi];unfold wls;simp only[List.map_replicate]
 rintro⟨k,ps,H0⟩ ⟨hk,x,U⟩;simp only at hk x U;have δ:ps.length=f.a6R.length:=by have:=congrArg List.length x;rw[kk] at this;unfold wls at this;rw[a8E] at this;exact this
 simp only[go_sem,aaE,auB,vT,a8E];by_cases hlt:k<(cJ f room).arcs.length
 ·have w:(k:Int)<((cJ f room).arcs.length:Nat):=Om;have B:=wZz k;have A:k<(eE f room).length:=hlt;have β:k<xs.length:=Om;have K:=kD hlt;have J:bR (cJ f room) k=(eE f room)[k]:=(nC hlt).symm;rw[J] at K;have Z:=a8G A;obtain⟨z1,z2,z3⟩:=hn.ends _ (a8G hlt);have z1:((eE f room)[k]).src<(cJ f room).nodes:=z1;have z2:((eE f room)[k]).dst<(cJ f room).nodes:=z2;have θ:aY f 0≤(cJ f room).nodes:=by show aY f 0≤aY f f.a6P.length; unfold aY; omega
  have E:=Gh (f:=f) (l:=eE f room) (xs:=xs) F A;have j:=Vo (f:=f) (l:=eE f room) (xs:=xs) F A;have N:=ajR hV (room:=room) Z;generalize (eE f room)[k]=a at *
  have y:(a.dst<aY f 0∨xs.getD k 0=0)→gP (fun s:Nat × WPs × PH=>vT f (cJ f room) xs I s.1) (fun s=>s.2.2) (fun s=>s.1≤(cJ f room).arcs.length∧wls s.2.1=nK f (eE f room) xs s.1∧aM s.2.2 [(I,.rows 1 (dR s.2.1))] (hC s.2.1)) (fun s=>(cJ f room).arcs.length-s.1) ((cJ f room).arcs.length-k) (fR 0 (jY C (aC.wp C (.seq (.region nr) .ret)) (aT ni.res (cP (lists (CP f (eE f room) xs)))))) .normal (vT f (cJ f room) xs I (k+1)) H0:=fun h =>
   aG (k+1,ps,H0) ⟨hlt,by rw[E h]; exact x,U⟩ (by simp only; omega) (fun _ _ h=>h) b_
  have w7:IntKind.i64.wrap ((a.dst:Int)-((aY f 0:Nat):Int))=(a.dst:Int)-((aY f 0:Nat):Int):=wrap_i64 Om Om;simp only[go_sem,w];refine aV .nil (quS f) a_ ?_;simp only[go_sem,auC,K];refine GD Lb hs (i:=0) (by decide) rfl a_ ?_;by_cases c1:a.dst<aY f 0
  ·have u:(a.dst:Int)-((aY f 0:Nat):Int)<0:=Om;simp only[go_sem,w7,ck,u,RN,B];exact Up.up (by unfold vT; exact Lq) (y (.inl c1))
  ·have u:¬ (a.dst:Int)-((aY f 0:Nat):Int)<0:=Om;have S:=jP β;by_cases c2:xs.getD k 0=0
   ·simp only[go_sem,w7,ck,u,S,bP (Om:((xs.getD k 0:Nat):Int)=0),RN,B];exact Up.up (by unfold vT; exact Lq) (y (.inr c2))
   ·obtain⟨v,d,hv,hd,rfl⟩:=N Om;have R:=zb hV (v:=v) hd;have j:=j Om c2 (by rw[R]; exact hv);rw[R] at j;have Y:((eG f v d).dst-aY f 0:Nat)=d:=by simp only[eG,aY]; omega
    have M:((eG f v d).dst:Int)-((aY f 0:Nat):Int)=(d:Int):=Om;rw[Y] at j;rw[M] at u;have ε:((nK f (eE f room) xs k).getD v []).length≤1000000:=by unfold nK;rw[a8M,a8Y,baS hv];exact baK (pg f v _ _) (by rw[a8W]; omega)
    have w8:IntKind.i64.wrap (d:Int)=(d:Int):=wrap_i64 Om Om;simp only[go_sem,M,w8,ck,u,S,bD (Om:¬ ((xs.getD k 0:Nat):Int)=0),auD];refine aPN Lb f hV room xs I k v d hlt hv hd J (nK f (eE f room) xs k) (nK f (eE f room) xs (k+1)) (kk ..) ε j ps x U (by (repeat' (first|exact c_|refine d_ ?_ ?_))<;>first|(simp only[go_sem,nc,vT]<;>rfl)|rfl) fun ζ H' O h'=>?_;simp only[go_sem,RN,vT,B];exact aG (k+1,ζ,H') ⟨hlt,O,h'⟩ (by simp only; omega) (by (repeat' (first|exact c_|refine d_ ?_ ?_))<;>first|(simp only[go_sem,vT]<;>rfl)|rfl) b_
 ·have w:¬ (k:Int)<((cJ f room).arcs.length:Nat):=Om;have:k=(cJ f room).arcs.length:=Om;subst this;have h2:=U.aXW;rw[CC,δ] at h2;have e:CP f (eE f room) xs=wls ps:=by rw[x]; exact (Vn F).symm
  rw[e];simp only[go_sem,w,nr];exact aDG (.inr rfl) rfl h2
structure azI (C:Ctx):Prop extends vP C where
 GY:∀ (f:aE) (room:List Int),f.Ok→aH C 307 [.agg f.cells,ints room] .nil (aI (tI f room))
 GR:∀ n:bY,eU n→aH C 303 [.agg n.cells] .nil (VA n)
 ni:∀ (f:aE) (room:List Int) (xs:List Nat),VF f→pG (cJ f room) xs→aH C 308 [.agg f.cells,.agg (cJ f room).cells,.sl 1 (eV xs)] .nil (aI (lists (CP f (eE f room) xs)))
theorem aJC {C:Ctx} (l:azI C) (f:aE) (M:f.Ok) (room:List Int) :
  KT.wp C (aT NH.res (qx f room)) (PF.args [.agg f.cells,ints room]) .nil:=by
 simp only[go_sem,KT,Km,NH,Ko];refine aB (l.GY f room M) rfl ?_;simp only[go_sem,tI];refine aO fun q hq=>?_;have I:aM (PH.nil.set q fX) [(q,fX)] []:=aM.nil.new hq fX;generalize (PH.nil.set q fX)=J at *
 have O:=I.at 0 rfl;have w:=I.set 0 rfl (nN (sM f room));simp only[go_sem,O];generalize J.set q (.rows 4 [(sM f room).cells])=H2 at *
 have F:=w.at 0 rfl;cases e:dL f with
 | false =>simp only[go_sem,YL,xO e,Kp];refine NF (ws:=[]) (c:=1) (.inl ⟨e,rfl,rfl⟩) ?_;exact CD (.inr rfl) rfl (aM.Pb (w.uQ 0))
 | true =>
  have hV:=VF.of e;have R:=hV.small;have N:=wB hV room;rw[uZ e] at F w;simp only[go_sem,YL,nM e,Kq,F];refine dV (l.GR _ N) rfl a_ ?_;rintro r H' ⟨xs,S,x,j,y,A,rfl,rfl⟩ -;rw[PH.kG];have B:=EH hV x j y A;simp only[go_sem,Kr];refine aB (l.total f hV) rfl ?_;by_cases hlt:jF (cJ f room) xs<((oO f:Nat):Int)
  ·simp only[go_sem,hlt,Ks];refine NF (ws:=[]) (c:=12) (.inr (.inr ⟨e,fun h=>B.2 h hlt,rfl,rfl⟩)) ?_;exact CD (.inr rfl) rfl (aM.Pb (w.uQ 0))
  ·obtain⟨u,K,E⟩:=Ey hV x hlt;simp only[go_sem,hlt,Kt,F];refine aB (l.ni f room xs hV x.in) rfl ?_;simp only[go_sem];refine NF (ws:=CP f (eE f room) xs) (c:=0) (.inr (.inl ⟨e,⟨u,K,E⟩,rfl⟩)) ?_;exact bA (vs:=[lists (CP f (eE f room) xs),.int .i64 0]) (.inr rfl) .nil rfl a_ ⟨.refl _,rfl⟩
def sS (c:eO) (L:List Bool) (Q:Nat→Prop):Prop:=∀ x,Q x→L.getD x false=vQ c x
theorem sS.set {c:eO} {L:List Bool} {Q:Nat→Prop} (h:sS c L Q) {x:Nat} (l:x<L.length) {b:Bool} (hb:b=vQ c x):sS c (L.set x b) (fun y=>Q y∨y=x):=fun y u=>by
 rw[a8M,bbV];by_cases e:x=y
 ·subst e;rw[if_pos rfl,if_pos l]; exact hb
 ·rw[if_neg e,← a8M];exact h y (u.resolve_right fun j=>e j.symm)
def qN (f:aE) (k:Nat) (x:Nat):Prop:=x=0∨x=1∨∃ v i,v<k∧i<f.a6S.length∧x=bV f v i
def qR (f:aE) (k:Nat) (x:Nat):Prop:=qN f f.a6R.length x∨∃ d,d<k∧x=aY f d
def GW (f:aE) (c:eO) (o7 e N k:Nat):PF:=(((((PF.nil.set 3 (.bO f.cells)).set 5 (.bO c.cells)).set 7 (.ptr o7 4 0 0)).set 9 (.osl e 1 0 N)).set 10 (.int .i64 (k:Nat)))
def Df (f:aE) (c:eO) (o7 e N k i:Nat):PF:=(GW f c o7 e N k).set 11 (.int .i64 ((i+1:Nat):Int))
def YG (f:aE) (c:eO) (o7 e N k:Nat):PF:=(((((PF.nil.set 3 (.bO f.cells)).set 5 (.bO c.cells)).set 7 (.ptr o7 4 0 0)).set 9 (.osl e 1 0 N)).set 12 (.int .i64 (k:Nat)))
def qcH (n:bY) (o7 e:Nat) (L:List Bool):PH:=(PH.nil.set o7 (nN n)).set e (.rows 1 (aZ L))
theorem aPL {C:Ctx} (Lb:vP C) {K:cI} [Up K] (f:aE) (hV:VF f) (n:bY) (c:eO) (o7 e:Nat) (β:¬ o7=e) (N:Nat) (hN:N=aY f f.a6P.length) (k:Nat) (Y:k<f.a6R.length) (row:List Bool) (y:c.a6Z[k]?=some row) (δ:row.length=f.a6S.length-1) (γ:c.a6Z.length=f.a6R.length) (L:List Bool) (B:L.length=N) (Q:Nat→Prop) (E:Shape f c→sS c L Q) {F:PF}
  (hF:(Df f c o7 e N k 0).le F)
  (hK:∀ L',L'.length=N→(Shape f c→sS c L' (fun x=>Q x∨∃ i,i<f.a6S.length-1∧x=bV f k (i+1)))→K (.exit 2) (GW f c o7 e N k) (qcH n o7 e L')):aC.wp C (.loop na) K F (qcH n o7 e L):=by
 have X:=hV.small;have Z:=hV.root;have ε:=X.a6S;have ζ:=X.a6R;refine wp_loop (α:=Nat × List Bool) (fun s=>Df f c o7 e N k s.1) (fun s=>qcH n o7 e s.2) (fun s=>s.1+1≤f.a6S.length∧s.2.length=N∧(Shape f c→sS c s.2 (fun x=>Q x∨∃ i,i<s.1∧x=bV f k (i+1)))) (fun s=>f.a6S.length-s.1) (0,L) ⟨by have:=Z.1; omega,B,fun h x A=>E h x (A.resolve_right fun ⟨i,hi,_⟩=>by omega)⟩ hF b_ ?_;rintro⟨i,L⟩ ⟨hi,B,E⟩;simp only at hi B E;simp only[go_sem,na,Z2,Df,GW,a8E];by_cases hlt:i+1<f.a6S.length
 ·have u:((i+1:Nat):Int)<(f.a6S.length:Nat):=Om;have V:=dW (Om:i+1<9223372036854775807);have I:IntKind.i64.wrap (((i+1:Nat):Int)-1)=(i:Int):=by rw[wrap_i64 Om Om]; omega
  obtain⟨d1,d2⟩:=iU hV Y hlt;have d3:bV f k (i+1)<N:=bcE d2 (by rw[hN]; unfold aY; omega);have d4:((bV f k (i+1):Nat):Int)<(N:Nat):=Om;have d5:=eP (R:=L) (i:=bV f k (i+1)) Om;have J:(c.a6Z.map fun w=>[iJ w])[k]?=some [iJ row]:=by rw[a8Y,y]; rfl
  have W:(k:Int)<(c.a6Z.length:Nat):=Om;have U:i<row.length:=Om;have S:(i:Int)<(row.length:Nat):=Om;have M:(row.map fun b=>[PV.bool b])[i]?=some [.bool (row.getD i false)]:=eP U;simp only[go_sem,u];refine aV .nil (quS f) a_ ?_;simp only[go_sem,Z3];refine rT Lb X Z.1 (v:=k) (i:=i+1) Om Om rfl a_ ?_;simp only[go_sem,a8E,W,J,I,S,M,d4];refine aV .nil cA a_ ?_;have e9:(qcH n o7 e L) e=some (.rows 1 (aZ L)):=by unfold qcH; rw[bS]
  have O:(qcH n o7 e L).set e (.rows 1 ((aZ L).set (bV f k (i+1)) [.bool (row.getD i false)]))=qcH n o7 e (L.set (bV f k (i+1)) (row.getD i false)):=by unfold qcH;rw[PH.set_set,iD]
  simp only[go_sem,Z4,e9,a8R,d5,O];refine⟨a_,?_⟩;simp only[go_sem,Z5,V];refine aG (i+1,L.set (bV f k (i+1)) (row.getD i false)) ⟨hlt,by simp only[a9X]; exact B,fun h x A=>?_⟩ (by simp only; omega) (by (repeat' (first|exact c_|refine d_ ?_ ?_))<;>first|(simp only[go_sem,Df,GW]<;>rfl)|rfl) b_;refine (E h).set Om ?_ x ?_
  ·rw[ajV h Y Om,a8M (l:=c.a6Z),y]; rfl
  ·rcases A with A | ⟨j,hj,A⟩
   ·exact .inl (.inl A)
   ·simp only at hj;rcases a8Z j i with c1 | c1
    ·exact .inl (.inr ⟨j,c1,A⟩)
    ·have:j=i:=Om;subst this;exact .inr A
 ·have u:¬ ((i+1:Nat):Int)<(f.a6S.length:Nat):=Om;have:i=f.a6S.length-1:=Om;subst this;simp only[go_sem,u];exact Up.up (by (repeat' (first|exact c_|refine d_ ?_ ?_))<;>first|(simp only[go_sem,Df,GW]<;>rfl)|rfl) (hK L B E)
theorem aIY {C:Ctx} (O:vP C) {K:cI} [Up K] (f:aE) (hV:VF f) (n:bY) (c:eO) (A:Shape f c) (o7 e:Nat) (W:¬ o7=e) (N:Nat) (Z:N=aY f f.a6P.length) (L:List Bool) (w:L.length=N) (y:sS c L (qN f f.a6R.length)) {F:PF}
  (X:(YG f c o7 e N 0).le F)
  (Y:∀ L',L'.length=N→sS c L' (qR f f.a6P.length)→K (.exit 4) (YG f c o7 e N f.a6P.length) (qcH n o7 e L')):aC.wp C (.loop nb) K F (qcH n o7 e L):=by
 have M:=hV.small;have γ:=M.a6P;refine wp_loop (α:=Nat × List Bool) (fun s=>YG f c o7 e N s.1) (fun s=>qcH n o7 e s.2) (fun s=>s.1≤f.a6P.length∧s.2.length=N∧sS c s.2 (qR f s.1)) (fun s=>f.a6P.length-s.1) (0,L) ⟨a8K _,w,fun x u=>y x (u.resolve_right fun ⟨i,hi,_⟩=>by omega)⟩ X b_ ?_;rintro⟨i,L⟩ ⟨hi,w,y⟩;simp only at hi w y;simp only[go_sem,nb,Z8,YG,a8E];by_cases hlt:i<f.a6P.length
 ·have l:(i:Int)<(f.a6P.length:Nat):=Om;have J:=wZz i;have d3:aY f i<N:=by rw[Z]; unfold aY; omega
  have S:((aY f i:Nat):Int)<(N:Nat):=Om;have U:=eP (R:=L) (i:=aY f i) Om;have β:=A.d;have I:(i:Int)<(c.a7J.length:Nat):=Om;have B:(c.a7J.map fun b=>[PV.bool b])[i]?=some [.bool (c.a7J.getD i false)]:=eP Om;simp only[go_sem,l];refine aV .nil (quS f) a_ ?_;simp only[go_sem,Z9];refine GD O M (i:=i) Om rfl a_ ?_;simp only[go_sem,a8E,I,B,S];refine aV .nil cA a_ ?_;have V:(qcH n o7 e L) e=some (.rows 1 (aZ L)):=by unfold qcH; rw[bS]
  have E:(qcH n o7 e L).set e (.rows 1 ((aZ L).set (aY f i) [.bool (c.a7J.getD i false)]))=qcH n o7 e (L.set (aY f i) (c.a7J.getD i false)):=by unfold qcH;rw[PH.set_set,iD]
  simp only[go_sem,aaA,V,a8R,U,E];refine⟨a_,?_⟩;simp only[go_sem,aaB,J];refine aG (i+1,L.set (aY f i) (c.a7J.getD i false)) ⟨hlt,by simp only[a9X]; exact w,fun x u=>?_⟩ (by simp only; omega) (by (repeat' (first|exact c_|refine d_ ?_ ?_))<;>first|(simp only[go_sem,YG]<;>rfl)|rfl) b_;refine y.set Om (ajW hV A).symm x ?_;rcases u with u | ⟨j,hj,u⟩
  ·exact .inl (.inl u)
  ·simp only at hj;rcases a8Z j i with c1 | c1
   ·exact .inl (.inr ⟨j,c1,u⟩)
   ·have:j=i:=Om;subst this;exact .inr u
 ·have l:¬ (i:Int)<(f.a6P.length:Nat):=Om;have:i=f.a6P.length:=Om;subst this;simp only[go_sem,l];exact Up.up (by (repeat' (first|exact c_|refine d_ ?_ ?_))<;>first|(simp only[go_sem,YG]<;>rfl)|rfl) (Y L w y)
theorem aiK (n:Nat):a8F n [PV.bool false]=aZ (a8F n false):=by
 show _=List.map _ (a8F n false);rw[List.map_replicate]
theorem aVS {C:Ctx} (N:azI C) (U:∀ (n:bY) (cut:List Bool),eU n→au n cut→aH C 301 [.agg n.cells,iJ cut] .nil (aI (.tup [.int .i64 ((dQ (fun w=>cut.getD w false) n.arcs:Nat):Int),.bool true])))
  (f:aE) (hf:f.Ok) (room:List Int) (c:eO) (hc:c.vols.length≤1000000∧c.a6Z.length≤1000000∧c.a7J.length≤1000000) :
  YH.wp C (aT Dg.res (aI (.bool (sT f room c)))) (PF.args [.agg f.cells,ints room,.agg c.cells]) .nil:=by
 have J:sT f room c=(dL f&&(c.shape f&&decide (dQ (vQ c) (eE f room)<oO f))):=rfl;obtain⟨Φ,Ψ,Ω⟩:=hc;simp only[go_sem,YH,atL,Dg,atM];refine aB (N.GY f room hf) rfl ?_;simp only[go_sem,tI];refine aO fun q hq=>?_;have h1:aM (PH.nil.set q fX) [(q,fX)] []:=aM.nil.new hq fX;cases E:dL f with
 | false =>
  generalize (PH.nil.set q fX)=H1 at *
  have q1:=h1.at 0 rfl;simp only[go_sem,q1];generalize H1.set q (.rows 4 [(sM f room).cells])=H2 at *
  simp only[go_sem,FN,xO E,NG];exact jV (b:=false) rfl (by rw[J,E]; rfl)
 | true =>
  have hV:=VF.of E;have hs:=hV.small;have hr:=hV.root;have a':=hs.a6S;have b':=hs.a6P;have c':=hs.a6R;have hn:=wB hV room;have Λ:=hn.few;have Ξ:=hn.two;have ψ:(cJ f room).nodes=aY f f.a6P.length:=rfl;rw[E,a8U] at J;have Γ:=uZ E room;simp only[go_sem,Γ];by_cases c1:c.vols.length=f.a6R.length
  ·by_cases Z:c.a6Z.length=f.a6R.length
   ·by_cases c3:c.a7J.length=f.a6P.length
    ·have μ:((aY f f.a6P.length:Nat):Int)*((1:Nat):Int)≤140737488355328:=Om;have ν:((aY f f.a6P.length:Nat):Int)≤9223372036854775807:=Om;have ξ:(0:Int)≤((aY f f.a6P.length:Nat):Int):=Om;simp only[go_sem,FN,nM E,a8E,bJ (Om:(c.vols.length:Int)=(f.a6R.length:Nat)),bJ (Om:(c.a6Z.length:Int)=(f.a6R.length:Nat)),bJ (Om:(c.a7J.length:Int)=(f.a6P.length:Nat)),atN,ψ,μ,ν,ξ,Int.le_refl,bbI];refine aO fun o ho=>?_;rw[aiK];have I:¬ q=o:=fun e=>by rw[← e,bS] at ho; cases ho
     have ε:(0:Int)<((aY f f.a6P.length:Nat):Int):=Om;have Θ:=eP (R:=a8F (aY f f.a6P.length) false) (i:=0) (by rw[bbP]; omega);generalize A:(a8F (aY f f.a6P.length) false).set 0 true=M;have S:M.length=aY f f.a6P.length:=by rw[← A,a9X,bbP]
     have O:sS c M (qN f 0):=fun x hx=>by
      rcases hx with rfl | rfl | ⟨v,i,E,_⟩
      ·rw[← A,a8M,List.getElem?_set_self (by rw[bbP]; omega)]; rfl
      ·rw[← A,a8M,List.getElem?_set_ne (by decide),bcC];split<;>rfl
      ·omega
     have η:((PH.nil.set q (.rows 4 [(cJ f room).cells])).set o (.rows 1 ((aZ (a8F (aY f f.a6P.length) false)).set 0 [.bool true])))=qcH (cJ f room) q o M:=by unfold qcH;rw[iD,A]
     simp only[go_sem,atO,ε,a8R,Θ];have χ:(qcH (cJ f room) q o M).le ((PH.nil.set q (.rows 4 [(cJ f room).cells])).set o (.rows 1 ((aZ (a8F (aY f f.a6P.length) false)).set 0 [.bool true]))):=by rw[η]; exact b_
     simp only[go_sem,atP];refine wp_loop (α:=Nat × List Bool) (fun s=>GW f c q o (aY f f.a6P.length) s.1) (fun s=>qcH (cJ f room) q o s.2) (fun s=>s.1≤f.a6R.length∧x2 f c s.1∧s.2.length=aY f f.a6P.length∧(Shape f c→sS c s.2 (qN f s.1))) (fun s=>f.a6R.length-s.1) (0,M) ⟨a8K _,fun r h=>by simp at h,S,fun _=>O⟩ (by (repeat' (first|exact c_|refine d_ ?_ ?_))<;>first|(simp only[go_sem,GW]<;>rfl)|rfl) (by first | exact χ | (unfold qcH; exact e_ (e_ a_ (by simp only[go_sem,I])) (by simp only[go_sem,iD,A]))) ?_;rintro⟨k,L⟩ ⟨hk,K,hL,hQ⟩;simp only at hk K hL hQ;simp only[go_sem,Zx,atQ,GW,a8E];by_cases hlt:k<f.a6R.length
     ·have B:(k:Int)<(f.a6R.length:Nat):=Om;have φ:=wZz k;have F:k<c.a6Z.length:=Om;have X:(k:Int)<(c.a6Z.length:Nat):=Om;have κ:(c.a6Z.map fun w=>[iJ w])[k]?=some [iJ c.a6Z[k]]:=by simp[F]
      have W:c.a6Z[k]?=some c.a6Z[k]:=a8L F;have hw:IntKind.i64.wrap ((f.a6S.length:Int)-1)=((f.a6S.length-1:Nat):Int):=by rw[wrap_i64 Om Om]; omega
      have Δ:c.a6Z.take (k+1)=c.a6Z.take k++[c.a6Z[k]]:=baF F;have ω:=acL (f:=f) F;generalize c.a6Z[k]=row at *
      simp only[go_sem,B];refine aV .nil cA a_ ?_;simp only[go_sem,atS,a8E,X,κ,hw];by_cases cr:row.length=f.a6S.length-1
      ·simp only[go_sem,bJ (Om:(row.length:Int)=((f.a6S.length-1:Nat):Int))];have d2:=(iU hV hlt hr.1).2;have d3:bV f k 0<aY f f.a6P.length:=bcE d2 (by unfold aY; omega);have d4:((bV f k 0:Nat):Int)<((aY f f.a6P.length:Nat):Int):=Om;have d5:=eP (R:=L) (i:=bV f k 0) Om;have υ:(k:Int)<(c.vols.length:Nat):=Om;have ο:(c.vols.map fun b=>[PV.bool b])[k]?=some [.bool (c.vols.getD k false)]:=eP Om;have e9:(qcH (cJ f room) q o L) o=some (.rows 1 (aZ L)):=by unfold qcH; rw[bS]
       have σ:(qcH (cJ f room) q o L).set o (.rows 1 ((aZ L).set (bV f k 0) [.bool (c.vols.getD k false)]))=qcH (cJ f room) q o (L.set (bV f k 0) (c.vols.getD k false)):=by unfold qcH;rw[PH.set_set,iD]
       refine aV .nil (quS f) a_ ?_;simp only[go_sem,Zy];refine rT N.tovP hs hr.1 (v:=k) (i:=0) Om Om rfl a_ ?_;simp only[go_sem,a8E,υ,ο,d4];refine aV .nil cA a_ ?_;simp only[go_sem,Zz,e9,a8R,d5,σ];refine⟨a_,?_⟩;have ι:Shape f c→sS c (L.set (bV f k 0) (c.vols.getD k false)) (fun y=>qN f k y∨y=bV f k 0):=fun h=>(hQ h).set Om (ajX h hlt).symm;simp only[go_sem,Z1];refine aPL N.tovP f hV (cJ f room) c q o I _ rfl k hlt row W cr Z (L.set (bV f k 0) (c.vols.getD k false)) (by rw[a9X]; exact hL) _ ι (by (repeat' (first|exact c_|refine d_ ?_ ?_))<;>first|(simp only[go_sem,Df,GW]<;>rfl)|rfl) fun L' u l=>?_;simp only[go_sem,Z6,GW,φ];refine aG (k+1,L') ⟨hlt,?_,u,fun h x hx=>l h x ?_⟩ (by simp only; omega) (by (repeat' (first|exact c_|refine d_ ?_ ?_))<;>first|(simp only[go_sem,GW]<;>rfl)|rfl) b_
       ·intro r hr;simp only at hr;rw[Δ] at hr;rcases a9N.1 hr with hr | hr
        ·exact K r hr
        ·rw[a9K] at hr; subst hr; exact cr
       ·simp only at hx;rcases hx with hx | hx | ⟨v,i,g1,g2,g3⟩
        ·exact .inl (.inl (.inl hx))
        ·exact .inl (.inl (.inr (.inl hx)))
        ·rcases a8Z v k with c4 | c4
         ·exact .inl (.inl (.inr (.inr ⟨v,i,c4,g2,g3⟩)))
         ·have:v=k:=Om;subst this;cases i with
          | zero=>exact .inl (.inr g3)
          | succ i=>exact .inr ⟨i,by omega,g3⟩
      ·simp only[go_sem,cM (Om:¬ (row.length:Int)=((f.a6S.length-1:Nat):Int)),atT];exact jV (b:=false) rfl (by rw[J,ω cr]; rfl)
     ·have B:¬ (k:Int)<(f.a6R.length:Nat):=Om;have τ:k=f.a6R.length:=Om;subst τ;have j:Shape f c:=⟨c1,Z,c3,by have:=K; unfold x2 at this; rwa [← Z,a9M] at this⟩;simp only[go_sem,B,Z7];refine aIY N.tovP f hV (cJ f room) c j q o I _ rfl L hL (hQ j) (by (repeat' (first|exact c_|refine d_ ?_ ?_))<;>first|(simp only[go_sem,YG]<;>rfl)|rfl) fun L' u l=>?_;have ζ:au (cJ f room) L':=⟨u,l 0 (.inl (.inl rfl)),l 1 (.inl (.inr (.inl rfl)))⟩;have V:=U (cJ f room) L' hn ζ;have ρ:dQ (fun w=>L'.getD w false) (cJ f room).arcs=dQ (vQ c) (eE f room):=Qe hV room (l 0 (.inl (.inl rfl))) (l 1 (.inl (.inr (.inl rfl)))) (fun v i g1 g2=>l _ (.inl (.inr (.inr ⟨v,i,g1,g2,rfl⟩)))) fun d g1=>l _ (.inr ⟨d,g1,rfl⟩);rw[ρ] at V;have e7:(qcH (cJ f room) q o L') q=some (.rows 4 [(cJ f room).cells]):=by unfold qcH; rw[aS,if_neg I,bS]
      have e9:(qcH (cJ f room) q o L') o=some (.rows 1 (aZ L')):=by unfold qcH; rw[bS]
      have Y:PH.le (PH.nil.set o (.rows 1 (aZ L'))) (qcH (cJ f room) q o L'):=e_ a_ e9;simp only[go_sem,aaC,YG,e7];refine dV (H0:=PH.nil.set o (.rows 1 (aZ L'))) (vs:=[.agg (cJ f room).cells,.osl o 1 0 (aY f f.a6P.length)]) (aH.aSB (rg.pair _ _) (v:=.tup [.int .i64 ((dQ (vQ c) (eE f room):Nat):Int),.bool true]) ?_) rfl Y ?_
      ·have e3:([.agg (cJ f room).cells,.osl o 1 0 (aY f f.a6P.length)]:List PV).map (PV.frz o 1 (aZ L'))=[.agg (cJ f room).cells,iJ L']:=by show [PV.agg _,PV.frz o 1 (aZ L') (.osl o 1 0 (aY f f.a6P.length))]=_;rw[xM (by rw[gE,u]; exact a8J _),a8V (by rw[gE,u]; exact a8J _)]; rfl
       rw[e3];exact V
      ·rintro r H' ⟨rfl,rfl⟩ -;rw[PH.over_self _ Y];rw[CE.2 j,a8U] at J;have θ:sT f room c=decide (((dQ (vQ c) (eE f room):Nat):Int)<((oO f:Nat):Int)):=by rw[J];exact decide_eq_decide.2 ⟨fun h=>Int.ofNat_lt.2 h,fun h=>Int.ofNat_lt.1 h⟩
       generalize dQ (vQ c) (eE f room)=cp at *
       simp only[go_sem,aaD];refine aB (N.total f hV) rfl ?_;simp only[go_sem];exact jV rfl θ.symm
    ·have δ:¬ (c.a7J.length:Int)=(f.a6P.length:Nat):=Om;simp only[go_sem,FN,nM E,a8E,bJ (Om:(c.vols.length:Int)=(f.a6R.length:Nat)),bJ (Om:(c.a6Z.length:Int)=(f.a6R.length:Nat)),cM δ,NG];exact jV (b:=false) rfl (by rw[J,eO.shape,decide_eq_false c3]; simp)
   ·have γ:¬ (c.a6Z.length:Int)=(f.a6R.length:Nat):=Om;simp only[go_sem,FN,nM E,a8E,bJ (Om:(c.vols.length:Int)=(f.a6R.length:Nat)),cM γ,NG];exact jV (b:=false) rfl (by rw[J,eO.shape,decide_eq_false Z]; simp)
  ·have β:¬ (c.vols.length:Int)=(f.a6R.length:Nat):=Om;simp only[go_sem,FN,nM E,a8E,cM β,NG];exact jV (b:=false) rfl (by rw[J,eO.shape,decide_eq_false c1]; simp)
def qwF (f:aE) (S:Nat→Bool) (z c k:Nat):PF:=(((((PF.nil.set 2 (.bO f.cells)).set 4 (.ptr z 3 0 0)).set 10 (.sl 1 (aZ ((a8D (aY f f.a6P.length)).map S)))).set 12 (.ptr c 3 0 0)).set 13 (.int .i64 (k:Nat)))
def qwG (f:aE) (S:Nat→Bool) (z c k:Nat) (w:PV) (i:Nat):PF:=((qwF f S z c k).set 14 w).set 15 (.int .i64 ((i+1:Nat):Int))
def qwD (f:aE) (S:Nat→Bool) (z c k:Nat):PF:=(((((PF.nil.set 2 (.bO f.cells)).set 4 (.ptr z 3 0 0)).set 10 (.sl 1 (aZ ((a8D (aY f f.a6P.length)).map S)))).set 12 (.ptr c 3 0 0)).set 16 (.int .i64 (k:Nat)))
theorem aPP {C:Ctx} (M:vP C) {K:cI} [Up K] (f:aE) (hV:VF f) (S:Nat→Bool) (z c k:Nat) (W:k<f.a6R.length) (u L1:LI) (B:List BX) {F:PF} {H:PH}
  (j:aM H B [u,L1,(.aD,1,[])]) (U:(qwG f S z c k .aD 0).le F)
  (V:∀ l H',aM H' B [u,L1,(l,1,aZ (mC f S k (f.a6S.length-1)))]→K (.exit 2) ((qwF f S z c k).set 14 l) H'):aC.wp C (.loop og) K F H:=by
 have y:=hV.small;have J:=hV.root;have X:=y.a6S;have Y:=y.a6R;refine wp_loop (α:=Nat × PV × PH) (fun s=>qwG f S z c k s.2.1 s.1) (fun s=>s.2.2) (fun s=>s.1+1≤f.a6S.length∧aM s.2.2 B [u,L1,(s.2.1,1,aZ (mC f S k s.1))]) (fun s=>f.a6S.length-s.1) (0,.aD,H) ⟨by have:=J.1; omega,j⟩ U b_ ?_;rintro⟨i,w,H0⟩ ⟨hi,j⟩;simp only at hi j;simp only[go_sem,og,abC,qwG,qwF,a8E];by_cases hlt:i+1<f.a6S.length
 ·have e:((i+1:Nat):Int)<(f.a6S.length:Nat):=Om;have x:=dW (Om:i+1<9223372036854775807);obtain⟨Z,N⟩:=iU hV W hlt;have O:bV f k (i+1)<aY f f.a6P.length:=bcE N (by unfold aY; omega);have R:((bV f k (i+1):Nat):Int)<((aY f f.a6P.length:Nat):Int):=Om;have A:=AN (S:=S) O;have E:(mC f S k i).length=i:=by simp[mC]
  simp only[go_sem,e,abD];refine aB (M.node f y J.1 k (i+1) Om Om) rfl ?_;simp only[go_sem,a8E,baJ,R,A];refine j.append 2 (src:=[[.bool (S (bV f k (i+1)))]]) rfl rfl (by unfold roomFor; rw[gE,E]; simp only[a8N,maxLen]; omega) fun l H' I _=>?_;rw[uO,show mC f S k i++[S (bV f k (i+1))]=mC f S k (i+1) from (lM _ _).symm] at I;simp only[go_sem,abE,x];exact aG (i+1,l,H') ⟨hlt,I⟩ (by simp only; omega) (by (repeat' (first|exact c_|refine d_ ?_ ?_))<;>first|(simp only[go_sem,qwG,qwF]<;>rfl)|rfl) b_
 ·have e:¬ ((i+1:Nat):Int)<(f.a6S.length:Nat):=Om;have:i=f.a6S.length-1:=Om;subst this;simp only[go_sem,e];exact Up.up (by (repeat' (first|exact c_|refine d_ ?_ ?_))<;>first|(simp only[go_sem,qwG,qwF]<;>rfl)|rfl) (V w H0 j)
theorem aJF {C:Ctx} (Lb:vP C) {K:cI} [Up K] (f:aE) (hV:VF f) (S:Nat→Bool) (z c:Nat) {F:PF} {H:PH}
  (M:aM H [(c,dY .aD .aD .aD),(z,dY .aD .aD .aD)] [(.aD,1,[]),(.aD,1,[])]) (hF:(qwF f S z c 0).le F)
  (hK:∀ N I e H',qG e (yI f S f.a6R.length)→aM H' [(c,dY N I .aD),(z,dY .aD .aD .aD)] [(N,1,aZ (sD f S f.a6R.length)),(I,1,e)]→K (.exit 0) (qwF f S z c f.a6R.length) H'):aC.wp C (.loop oi) K F H:=by
 have hs:=hV.small;have hr:=hV.root;have ι:=hs.a6S;have κ:=hs.a6R;refine wp_loop (α:=Nat × PV × PV × List (List PV) × PH) (fun s=>qwF f S z c s.1) (fun s=>s.2.2.2.2) (fun s=>s.1≤f.a6R.length∧qG s.2.2.2.1 (yI f S s.1)∧aM s.2.2.2.2 [(c,dY s.2.1 s.2.2.1 .aD),(z,dY .aD .aD .aD)] [(s.2.1,1,aZ (sD f S s.1)),(s.2.2.1,1,s.2.2.2.1)]) (fun s=>f.a6R.length-s.1) (0,.aD,.aD,[],H) ⟨a8K _,.nil,M⟩ hF b_ ?_;rintro⟨k,N,I,e,H0⟩ ⟨hk,j,M⟩;simp only at hk j M;simp only[go_sem,oi,avB,qwF,a8E];by_cases hlt:k<f.a6R.length
 ·have A:(k:Int)<(f.a6R.length:Nat):=Om;have U:=wZz k;have d2:=(iU hV hlt hr.1).2;have d3:bV f k 0<aY f f.a6P.length:=bcE d2 (by unfold aY; omega);have d4:((bV f k 0:Nat):Int)<((aY f f.a6P.length:Nat):Int):=Om;have ε:=AN (S:=S) d3;have ζ:(sD f S k).length=k:=by simp[sD]
  have R:e.length=k:=by rw[j.1]; simp[yI]
  have ec:H0 c=some (dY N I .aD):=M.at 0 rfl;simp only[go_sem,A];refine aV (PH.nil.set c (dY N I .aD)) (quS f) (e_ a_ ec) ?_;simp only[go_sem,aaY];refine rT Lb hs hr.1 (v:=k) (i:=0) Om Om rfl (e_ a_ ec) ?_;simp only[go_sem,a8E,baJ,d4,ε];refine M.append 0 (src:=[[.bool (S (bV f k 0))]]) rfl rfl (by unfold roomFor; rw[gE,ζ]; simp only[a8N,maxLen]; omega) fun μ H1 Z E=>?_;obtain⟨u,V⟩:=E (by simp);rw[uO,show sD f S k++[S (bV f k 0)]=sD f S (k+1) from (lM _ _).symm] at Z;refine⟨e_ a_ (Z.at 0 rfl),?_⟩;refine aV .nil cA a_ ?_;have γ:=Z.at 0 rfl;generalize θ:((aZ (sD f S k)++[[PV.bool (S (bV f k 0))]]).length)=l at V;subst V;simp only[go_sem,aaZ,γ];refine⟨a_,?_⟩;have h2:=Z.set 0 rfl (dY (.osl u 1 0 l) I .aD);generalize H1.set c (.rows 3 [[.osl u 1 0 l,I,.aD]])=H2 at *
  have h3:=h2.kB 1;simp only[go_sem,abA,abB];refine aPP Lb f hV S z c k hlt _ _ _ h3 (by (repeat' (first|exact c_|refine d_ ?_ ?_))<;>first|(simp only[go_sem,qwG,qwF]<;>rfl)|rfl) fun w' H4 h4=>?_;have O:=h4.at 0 rfl;have W:yI f S (k+1)=yI f S k++[mC f S k (f.a6S.length-1)]:=lM _ _;rcases h4.own 2 rfl with ⟨hz,rfl⟩ | ⟨q,rs0,rfl,-⟩
  ·have η:mC f S k (f.a6S.length-1)=[]:=List.map_eq_nil_iff.1 hz;simp only[go_sem,oq,qwF,O];refine h4.append 1 (src:=[[.aD]]) rfl rfl (by unfold roomFor; rw[R]; simp only[a8N,maxLen]; omega) fun β H5 h5 E=>?_;obtain⟨y,B⟩:=E (by simp);have J:=h5.at 0 rfl;generalize δ:(e++[[PV.aD]]).length=w at B;subst B;have h6:=h5.set 0 rfl (dY (.osl u 1 0 l) (.osl y 1 0 w) .aD);simp only[go_sem,J];generalize H5.set c (.rows 3 [[.osl u 1 0 l,.osl y 1 0 w,.aD]])=Y at *
   refine⟨_,if_pos (fun x X=>by rw[a9K] at X; subst X; rfl),?_⟩;simp only[go_sem,ot,U];refine aG (k+1,PV.osl u 1 0 l,PV.osl y 1 0 w,e++[[PV.aD]],Y) ⟨hlt,?_,h6.be 2⟩ (by simp only; omega) (by (repeat' (first|exact c_|refine d_ ?_ ?_))<;>first|(simp only[go_sem,qwF]<;>rfl)|rfl) b_;simp only;rw[W,η];exact j.snoc (.inr ⟨rfl,rfl⟩)
  ·simp only[go_sem,oq,qwF,O];refine h4.append 1 (src:=[[.osl q 1 0 (aZ (mC f S k (f.a6S.length-1))).length]]) rfl Sq (by unfold roomFor; rw[R]; simp only[a8N,maxLen]; omega) fun β H5 h5 E=>?_;obtain⟨y,B⟩:=E (by simp);have J:=h5.at 0 rfl;generalize δ:(e++[[PV.osl q 1 0 (aZ (mC f S k (f.a6S.length-1))).length]]).length=w at B;subst B;have h6:=h5.set 0 rfl (dY (.osl u 1 0 l) (.osl y 1 0 w) .aD);simp only[go_sem,J];generalize H5.set c (.rows 3 [[.osl u 1 0 l,.osl y 1 0 w,.aD]])=Y at *
   refine⟨_,if_pos (fun x X=>by rw[a9K] at X; subst X; rfl),?_⟩;obtain⟨rs,z1,z2,z3,z4,z5⟩:=h6.frz 2 rfl;have y0:=z4 0 _ (by decide) rfl;have y1:=z4 1 _ (by decide) rfl;simp only at y0 y1;simp only[go_sem,ot,U];refine IH (k+1,PV.osl u 1 0 l,PV.osl y 1 0 w,e++[[iJ (mC f S k (f.a6S.length-1))]],Y.frz q 1 rs) z1 ⟨hlt,?_,?_⟩ (by simp only; omega) (by (repeat' (first|exact c_|refine d_ ?_ ?_))<;>first|(simp only[go_sem,qwF]<;>rfl)|rfl) b_
   ·simp only;rw[W];exact j.snoc (.inl rfl)
   ·simp only;have eB:([(c,dY (.osl u 1 0 l) (.osl y 1 0 w) .aD),(z,dY .aD .aD .aD)]:List BX).map (fun b=>(b.1,b.2.frz q 1 rs))=[(c,dY (.osl u 1 0 l) (.osl y 1 0 w) .aD),(z,dY .aD .aD .aD)]:=by show [(c,bZ.rows 3 [[PV.cQ q 1 rs (.osl u 1 0 l),PV.cQ q 1 rs (.osl y 1 0 w),.aD]]),(z,dY .aD .aD .aD)]=_;rw[y0,y1]
    have e5:(e++[[PV.osl q 1 0 (aZ (mC f S k (f.a6S.length-1))).length]]).map (fun r=>r.map (PV.cQ q 1 rs))=e++[[iJ (mC f S k (f.a6S.length-1))]]:=by rw[a9U,j.flat];show e++[[PV.cQ q 1 rs (.osl q 1 0 (aZ (mC f S k (f.a6S.length-1))).length)]]=_;rw[z2]
    have z6:aM (Y.frz q 1 rs) ([(c,dY (.osl u 1 0 l) (.osl y 1 0 w) .aD),(z,dY .aD .aD .aD)].map (fun b=>(b.1,b.2.frz q 1 rs))) [(.osl u 1 0 l,1,(aZ (sD f S (k+1))).map fun r=>r.map (PV.cQ q 1 rs)),(.osl y 1 0 w,1,(e++[[PV.osl q 1 0 (aZ (mC f S k (f.a6S.length-1))).length]]).map fun r=>r.map (PV.cQ q 1 rs))]:=z5;rw[eB,e5,DA] at z6;exact z6
 ·have A:¬ (k:Int)<(f.a6R.length:Nat):=Om;have:k=f.a6R.length:=Om;subst this;simp only[go_sem,A];exact Up.up (by (repeat' (first|exact c_|refine d_ ?_ ?_))<;>first|(simp only[go_sem,qwF]<;>rfl)|rfl) (hK N I e H0 j M)
theorem aJE {C:Ctx} (W:vP C) {K:cI} [Up K] (f:aE) (hV:VF f) (S:Nat→Bool) (z c:Nat) (A:LI) (j w:PV) (E:List (List PV)) {F:PF} {H:PH}
  (l:aM H [(c,dY w j .aD),(z,dY .aD .aD .aD)] [A,(j,1,E),(.aD,1,[])]) (hF:(qwD f S z c 0).le F)
  (hK:∀ u H',aM H' [(c,dY w j u),(z,dY .aD .aD .aD)] [A,(j,1,E),(u,1,aZ (wR f S f.a6P.length))]→K (.exit 4) (qwD f S z c f.a6P.length) H'):aC.wp C (.loop oj) K F H:=by
 have R:=hV.small;have γ:=R.a6P;refine wp_loop (α:=Nat × PV × PH) (fun s=>qwD f S z c s.1) (fun s=>s.2.2) (fun s=>s.1≤f.a6P.length∧aM s.2.2 [(c,dY w j s.2.1),(z,dY .aD .aD .aD)] [A,(j,1,E),(s.2.1,1,aZ (wR f S s.1))]) (fun s=>f.a6P.length-s.1) (0,.aD,H) ⟨a8K _,l⟩ hF b_ ?_;rintro⟨k,u,H0⟩ ⟨hk,l⟩;simp only at hk l;simp only[go_sem,oj,abG,qwD,a8E];by_cases hlt:k<f.a6P.length
 ·have e:(k:Int)<(f.a6P.length:Nat):=Om;have I:=wZz k;have X:aY f k<aY f f.a6P.length:=by unfold aY; omega
  have Y:((aY f k:Nat):Int)<((aY f f.a6P.length:Nat):Int):=Om;have J:=AN (S:=S) X;have N:(wR f S k).length=k:=by simp[wR]
  have O:H0 c=some (dY w j u):=l.at 0 rfl;simp only[go_sem,e];refine aV (PH.nil.set c (dY w j u)) (quS f) (e_ a_ O) ?_;simp only[go_sem,abH];refine GD W R (i:=k) Om rfl (e_ a_ O) ?_;simp only[go_sem,a8E,baJ,Y,J];refine l.append 2 (src:=[[.bool (S (aY f k))]]) rfl rfl (by unfold roomFor; rw[gE,N]; simp only[a8N,maxLen]; omega) fun δ H1 y M=>?_;obtain⟨V,x⟩:=M (by simp);rw[uO,show wR f S k++[S (aY f k)]=wR f S (k+1) from (lM _ _).symm] at y;refine⟨e_ a_ (y.at 0 rfl),?_⟩;refine aV .nil cA a_ ?_;have B:=y.at 0 rfl;generalize β:((aZ (wR f S k)++[[PV.bool (S (aY f k))]]).length)=U at x;subst x;simp only[go_sem,abI,B];refine⟨a_,?_⟩;have Z:=y.set 0 rfl (dY w j (.osl V 1 0 U));simp only[go_sem,abJ,I];exact aG (k+1,.osl V 1 0 U,_) ⟨hlt,Z⟩ (by simp only; omega) (by (repeat' (first|exact c_|refine d_ ?_ ?_))<;>first|(simp only[go_sem,qwD]<;>rfl)|rfl) b_
 ·have e:¬ (k:Int)<(f.a6P.length:Nat):=Om;have:k=f.a6P.length:=Om;subst this;simp only[go_sem,e];exact Up.up (by (repeat' (first|exact c_|refine d_ ?_ ?_))<;>first|(simp only[go_sem,qwD]<;>rfl)|rfl) (hK u H0 l)
theorem aVW {C:Ctx} (w:azI C) (f:aE) (hf:f.Ok) (room:List Int) :
  YM.wp C (aT Dh.res (azL f room)) (PF.args [.agg f.cells,ints room]) .nil:=by
 simp only[go_sem,YM,auT,Dh];refine aO fun z hz=>?_;have h0:aM (PH.nil.set z (dY .aD .aD .aD)) [(z,dY .aD .aD .aD)] []:=aM.nil.new hz (dY .aD .aD .aD);generalize (PH.nil.set z (.rows 3 [[.aD,.aD,.aD]]))=H0 at *
 simp only[go_sem,auU];refine aB (w.GY f room hf) rfl ?_;simp only[go_sem,tI];refine h0.sC fun q H1 X=>?_;have Z:=X.at 1 rfl;have x:=X.set 1 rfl (nN (sM f room));simp only[go_sem,Z];generalize H1.set q (.rows 4 [(sM f room).cells])=H2 at *
 have q2:=x.at 1 rfl;have z2:=x.at 0 rfl;have Y:∀ (F:PF) (H:PH),aM H [(z,dY .aD .aD .aD),(q,nN (sM f room))] []→F 4=some (.ptr z 3 0 0)→F 5=some (.bool false)→aT [.cell 4 (some 3),.tmp 5] (cP (.tup [.agg (eO.cells VM),.bool false])) .ret F H:=by intro F H h f4 f5;have e0:=h.at 0 rfl;have h':aM H [] [(.aD,1,aZ []),(.aD,1,[]),(.aD,1,aZ [])]:=(((h.sub (List.nil_sublist _) (baE.refl _)).kB 1).kB 1).kB 1;exact RR (.inr rfl) (by simp only[go_sem,f4,f5,e0]) .nil h'
 cases l:dL f with
 | false =>simp only[go_sem,Di,xO l,auV,z2];refine D5 (c:=VM) (b:=false) (.inl ⟨l,rfl,rfl⟩) ?_;exact Y _ _ (x.set 0 rfl (dY .aD .aD .aD)) rfl rfl
 | true =>
  have hV:=VF.of l;have hs:=hV.small;have hn:=wB hV room;have N:=q2;rw[uZ l] at N;simp only[go_sem,Di,nM l,auW,N];refine dV (w.GR _ hn) rfl a_ ?_;rintro r H' ⟨xs,S,K,j,y,A,rfl,rfl⟩ -;rw[PH.kG];have E:=EH hV K j y A;have α:=aKT hV K;simp only[go_sem,auX];refine aB (w.total f hV) rfl ?_;by_cases B:jF (cJ f room) xs=((oO f:Nat):Int)
  ·simp only[go_sem,bP B,auY,z2];refine D5 (c:=VM) (b:=false) (.inr (.inl ⟨l,E.1 Om,rfl,rfl⟩)) ?_;exact Y _ _ (x.set 0 rfl (dY .aD .aD .aD)) rfl rfl
  ·have I:¬ CL f room:=fun h=>E.2 h Om;simp only[go_sem,bD B,auZ];refine x.sC fun u H5 h5=>?_;have h6:aM H5 [(u,dY .aD .aD .aD),(z,dY .aD .aD .aD)] [(.aD,1,[]),(.aD,1,[])]:=by refine ((((h5.uQ 1).kB 1).kB 1).perm ?_ (baQ.refl _));exact .swap _ _ _
   simp only[go_sem,avA];refine aJF w.tovP f hV S z u h6 (by (repeat' (first|exact c_|refine d_ ?_ ?_))<;>first|(simp only[go_sem,qwF]<;>rfl)|rfl) fun O R fs H6 M h7=>?_;simp only[go_sem,abF,qwF];refine aJE w.tovP f hV S z u (O,1,aZ (sD f S f.a6R.length)) R O fs (h7.kB 1) (by (repeat' (first|exact c_|refine d_ ?_ ?_))<;>first|(simp only[go_sem,qwD]<;>rfl)|rfl) fun rv H7 h8=>?_;have ec:=h8.at 0 rfl;have ez:=h8.at 1 rfl;have J:=h8.set 1 rfl (dY O R rv);simp only[go_sem,abK,qwD,ec,ez];have e:=Nh hV K (S:=S) y A j I;rw[Qg] at e;refine⟨_,if_pos ?_,?_⟩
   ·rcases J.own 0 rfl with ⟨_,U⟩ | ⟨Z,rs1,U,_⟩<;>rcases J.own 1 rfl with ⟨_,V⟩ | ⟨q2,rs2,V,_⟩<;>rcases J.own 2 rfl with ⟨_,W⟩ | ⟨N,rs3,W,_⟩<;>rw[U,V,W]<;>rfl
   refine D5 (b:=true) (.inr (.inr ⟨l,I,e,rfl⟩)) ?_;exact RR (.inr rfl) Sq M (J.sub (List.nil_sublist _) (baE.refl _))
theorem aRP {C:Ctx} (n:bY) (u:n.arcs.length≤2500):TT.wp C (aT aFD.res (aI (.bool true))) (PF.args [.agg n.cells,.agg n.cells]) .nil:=by
 have a1:=bJ (show (n.nodes:Int)=n.nodes from rfl);have a2:=bJ (show (n.source:Int)=n.source from rfl);have a3:=bJ (show (n.sink:Int)=n.sink from rfl);have a4:=bJ (show (n.arcs.length:Int)=n.arcs.length from rfl);simp only[go_sem,TT,ahX,aFD,ahY,a1,a2,a3,a8E,a4,ahZ];refine wp_loop (α:=Nat) (fun k=>(((PF.nil.set 2 (.bO n.cells)).set 3 (.bO n.cells)).set 5 (.int .i64 (k:Nat)))) (fun _=>.nil) (fun k=>k≤n.arcs.length) (fun k=>n.arcs.length-k) 0 (a8K _) Lq a_ ?_;intro k l;simp only[go_sem,ahW,aiA,a8E];by_cases hlt:k<n.arcs.length
 ·have e:(k:Int)<(n.arcs.length:Nat):=Om;have j:∀ x:Nat,(((x:Nat):Int)==((x:Nat):Int))=true:=fun x=>bP rfl;simp only[go_sem,e];refine aV .nil cA a_ ?_;simp only[go_sem,aiB,xJ hlt,j,beq_self_eq_true,Bool.and_self,baI,a8Q];simp only[go_sem,aiC,wZz k];exact aG (k+1) hlt Om Lq a_
 ·have e:¬ (k:Int)<(n.arcs.length:Nat):=Om;simp only[go_sem,e,aiD];refine aR (.inr rfl) rfl ?_;rfl
structure WO where
 z:Nat
 n:Nat
 c:Nat
def xG (f:aE) (S:Nat→Bool) (e:WO) (k:Nat):PF:=(((((((PF.nil.set 2 (.bO f.cells)).set 4 (.ptr e.z 3 0 0)).set 10 (.sl 1 (aZ ((a8D (aY f f.a6P.length)).map S)))).set 12 (.ptr e.n 2 0 0)).set 13 (.ptr e.c 3 0 0)).set 48 (.int .i64 (f.a6R.length:Nat))).set 49 (.int .i64 (k:Nat)))
def D4 (f:aE) (S:Nat→Bool) (e:WO) (k:Nat) (w:PV) (i:Nat):PF:=(((xG f S e k).set 14 (.int .i64 (k:Nat))).set 15 w).set 16 (.int .i64 ((i+1:Nat):Int))
def ZV (f:aE) (S:Nat→Bool) (e:WO) (k:Nat):PF:=((((((PF.nil.set 4 (.ptr e.z 3 0 0)).set 10 (.sl 1 (aZ ((a8D (aY f f.a6P.length)).map S)))).set 12 (.ptr e.n 2 0 0)).set 13 (.ptr e.c 3 0 0)).set 93 (.int .i64 (f.a6P.length:Nat))).set 94 (.int .i64 (k:Nat)))
theorem aMQ {C:Ctx} (R:pH C) {K:cI} [Up K] (f:aE) (hV:VF f) (S:Nat→Bool) (e:WO) (k:Nat) (hk:k<f.a6R.length) (y L1:LI) (B:List BX) (w:PV) (x:∃ q n,w=.osl q 1 0 n) {F:PF} {H:PH}
  (Y:B[0]?=some (e.n,gR f)) (l:aM H B [y,L1,(w,1,[])]) (Z:(D4 f S e k w 0).le F)
  (hK:∀ u H',(∃ q n,u=.osl q 1 0 n)→aM H' B [y,L1,(u,1,aZ (mC f S k (f.a6S.length-1)))]→K (.exit 2) ((xG f S e k).set 15 u) H'):aC.wp C (.loop jm) K F H:=by
 have E:=hV.small;have O:=hV.root;have β:=E.a6S;have γ:=E.a6R;refine wp_loop (α:=Nat × PV × PH) (fun s=>D4 f S e k s.2.1 s.1) (fun s=>s.2.2) (fun s=>s.1+1≤f.a6S.length∧(∃ q n,s.2.1=.osl q 1 0 n)∧aM s.2.2 B [y,L1,(s.2.1,1,aZ (mC f S k s.1))]) (fun s=>f.a6S.length-s.1) (0,w,H) ⟨by have:=O.1; omega,x,l⟩ Z b_ ?_;rintro⟨i,w,H0⟩ ⟨hi,x,l⟩;simp only at hi x l;simp only[go_sem,jm,Sj,D4,xG,a8E];by_cases hlt:i+1<f.a6S.length
 ·have j:((i+1:Nat):Int)<(f.a6S.length:Nat):=Om;have A:=dW (Om:i+1<9223372036854775807);have X:H0 e.n=some (gR f):=l.at 0 Y;obtain⟨d1,U⟩:=iU hV hk hlt;have V:bV f k (i+1)<aY f f.a6P.length:=bcE U (by unfold aY; omega);have W:((bV f k (i+1):Nat):Int)<((aY f f.a6P.length:Nat):Int):=Om;have I:=AN (S:=S) V;have M:(mC f S k i).length=i:=by simp[mC]
  simp only[go_sem,j,Sk,X];refine aB (R.dom f E O.1 k (i+1) Om Om) rfl ?_;simp only[go_sem,a8E,baJ,W,I];refine l.append 2 (src:=[[.bool (S (bV f k (i+1)))]]) rfl rfl (by unfold roomFor; rw[gE,M]; simp only[a8N,maxLen]; omega) fun u H' N J=>?_;obtain⟨q,hq⟩:=J (by simp);rw[uO,show mC f S k i++[S (bV f k (i+1))]=mC f S k (i+1) from (lM _ _).symm] at N;simp only[go_sem,Sl,A];exact aG (i+1,u,H') ⟨hlt,⟨q,_,hq⟩,N⟩ (by simp only; omega) (by (repeat' (first|exact c_|refine d_ ?_ ?_))<;>first|(simp only[go_sem,D4,xG]<;>rfl)|rfl) b_
 ·have j:¬ ((i+1:Nat):Int)<(f.a6S.length:Nat):=Om;have:i=f.a6S.length-1:=Om;subst this;simp only[go_sem,j];exact Up.up (by (repeat' (first|exact c_|refine d_ ?_ ?_))<;>first|(simp only[go_sem,D4,xG]<;>rfl)|rfl) (hK w H0 x l)
theorem aGL {C:Ctx} (Lb:pH C) {K:cI} [Up K] (f:aE) (hV:VF f) (S:Nat→Bool) (e:WO) {F:PF} {H:PH}
  (I:aM H [(e.n,gR f),(e.c,dY .aD .aD .aD),(e.z,dY .aD .aD .aD)] [(.aD,1,[]),(.aD,1,[])]) (hF:(xG f S e 0).le F)
  (hK:∀ M A j H',qG j (yI f S f.a6R.length)→aM H' [(e.n,gR f),(e.c,dY M A .aD),(e.z,dY .aD .aD .aD)] [(M,1,aZ (sD f S f.a6R.length)),(A,1,j)]→K (.exit 0) (xG f S e f.a6R.length) H'):aC.wp C (.loop jn) K F H:=by
 have hs:=hV.small;have hr:=hV.root;have ν:=hs.a6S;have ξ:=hs.a6R;have Y:(f.a6S.length:Int)*((1:Nat):Int)≤140737488355328:=Om;have Z:(f.a6S.length:Int)≤9223372036854775807:=Om;have β:(0:Int)≤(f.a6S.length:Int):=Om;refine wp_loop (α:=Nat × PV × PV × List (List PV) × PH) (fun s=>xG f S e s.1) (fun s=>s.2.2.2.2) (fun s=>s.1≤f.a6R.length∧qG s.2.2.2.1 (yI f S s.1)∧aM s.2.2.2.2 [(e.n,gR f),(e.c,dY s.2.1 s.2.2.1 .aD),(e.z,dY .aD .aD .aD)] [(s.2.1,1,aZ (sD f S s.1)),(s.2.2.1,1,s.2.2.2.1)]) (fun s=>f.a6R.length-s.1) (0,.aD,.aD,[],H) ⟨a8K _,.nil,I⟩ hF b_ ?_;rintro⟨k,M,A,j,H0⟩ ⟨hk,u,I⟩;simp only at hk u I;simp only[go_sem,jn,Sd,xG];by_cases hlt:k<f.a6R.length
 ·have l:(k:Int)<(f.a6R.length:Nat):=Om;have δ:=wZz k;have d2:=(iU hV hlt hr.1).2;have d3:2+k<aY f f.a6P.length:=by rw[aFS] at d2; exact bcE d2 (by unfold aY; omega)
  have d4:((2+k:Nat):Int)<((aY f f.a6P.length:Nat):Int):=Om;have ζ:=AN (S:=S) d3;have η:(sD f S k).length=k:=by simp[sD]
  have γ:j.length=k:=by rw[u.1]; simp[yI]
  have e6:H0 e.n=some (gR f):=I.at 0 rfl;have ec:H0 e.c=some (dY M A .aD):=I.at 1 rfl;simp only[go_sem,l,Se];refine aV (PH.nil.set e.c (dY M A .aD)) (FZ f [] (fun _ _=>True)) (e_ a_ ec) ?_;simp only[go_sem,Sf,e6];refine Qh Lb (v:=k) Om rfl (e_ a_ ec) ?_;simp only[go_sem,a8E,baJ,d4,ζ];refine I.append 0 (src:=[[.bool (S (2+k))]]) rfl rfl (by unfold roomFor; rw[gE,η]; simp only[a8N,maxLen]; omega) fun ο H1 R J=>?_;obtain⟨y,N⟩:=J (by simp);rw[uO,show sD f S k++[S (2+k)]=sD f S (k+1) from (lM _ _).symm] at R;refine⟨e_ a_ (R.at 1 rfl),?_⟩;refine aV .nil cA a_ ?_;have U:=R.at 1 rfl;generalize κ:((aZ (sD f S k)++[[PV.bool (S (2+k))]]).length)=w at N;subst N;simp only[go_sem,Sg,U];refine⟨a_,?_⟩;have h2:=R.set 1 rfl (dY (.osl y 1 0 w) A .aD);generalize H1.set e.c (.rows 3 [[.osl y 1 0 w,A,.aD]])=H2 at *
  simp only[go_sem,Sh,a8E,Y,Z,β,Int.le_refl,bbI];refine aO fun qr ε=>?_;have h3:=h2.Cy (s:=1) (rows:=[]) ε;simp only[go_sem,Si];refine aMQ Lb f hV S e k hlt _ _ _ (.osl qr 1 0 0) ⟨_,_,rfl⟩ rfl h3 (by (repeat' (first|exact c_|refine d_ ?_ ?_))<;>first|(simp only[go_sem,D4,xG]<;>rfl)|rfl) fun w' H4 θ X=>?_;obtain⟨q,n,rfl⟩:=θ;have V:=X.at 1 rfl;have hn:n=(aZ (mC f S k (f.a6S.length-1))).length:=by obtain⟨rs,-,e2,-⟩:=(X.own 2 rfl).id rfl;injection e2
  simp only[go_sem,Sm,xG,V];refine X.append 1 (src:=[[.osl q 1 0 n]]) rfl rfl (by unfold roomFor; rw[γ]; simp only[a8N,maxLen]; omega) fun ι H5 h5 J=>?_;obtain⟨E,O⟩:=J (by simp);have W:=h5.at 1 rfl;generalize μ:(j++[[PV.osl q 1 0 n]]).length=B at O;subst O;have h6:=h5.set 1 rfl (dY (.osl y 1 0 w) (.osl E 1 0 B) .aD);simp only[go_sem,W];generalize H5.set e.c (.rows 3 [[.osl y 1 0 w,.osl E 1 0 B,.aD]])=H6 at *
  refine⟨_,if_pos (fun x hx=>by rw[a9K] at hx; subst hx; rfl),?_⟩;subst hn;obtain⟨rs,z1,z2,z3,z4,z5⟩:=h6.frz 2 rfl;have y0:=z4 0 _ (by decide) rfl;have y1:=z4 1 _ (by decide) rfl;simp only at y0 y1;simp only[go_sem,Sn,δ];refine IH (k+1,PV.osl y 1 0 w,PV.osl E 1 0 B,j++[[iJ (mC f S k (f.a6S.length-1))]],H6.frz q 1 rs) z1 ⟨hlt,?_,?_⟩ (by simp only; omega) (by (repeat' (first|exact c_|refine d_ ?_ ?_))<;>first|(simp only[go_sem,xG]<;>rfl)|rfl) b_
  ·simp only;rw[show yI f S (k+1)=yI f S k++[mC f S k (f.a6S.length-1)] from lM _ _];exact u.snoc (.inl rfl)
  ·simp only;have eB:([(e.n,gR f),(e.c,dY (.osl y 1 0 w) (.osl E 1 0 B) .aD),(e.z,dY .aD .aD .aD)]:List BX).map (fun b=>(b.1,b.2.frz q 1 rs))=[(e.n,gR f),(e.c,dY (.osl y 1 0 w) (.osl E 1 0 B) .aD),(e.z,dY .aD .aD .aD)]:=by show [(e.n,gR f),(e.c,bZ.rows 3 [[PV.cQ q 1 rs (.osl y 1 0 w),PV.cQ q 1 rs (.osl E 1 0 B),.aD]]),(e.z,dY .aD .aD .aD)]=_;rw[y0,y1]
   have e5:(j++[[PV.osl q 1 0 (aZ (mC f S k (f.a6S.length-1))).length]]).map (fun r=>r.map (PV.cQ q 1 rs))=j++[[iJ (mC f S k (f.a6S.length-1))]]:=by rw[a9U,u.flat];show j++[[PV.cQ q 1 rs (.osl q 1 0 (aZ (mC f S k (f.a6S.length-1))).length)]]=_;rw[z2]
   have z6:aM (H6.frz q 1 rs) ([(e.n,gR f),(e.c,dY (.osl y 1 0 w) (.osl E 1 0 B) .aD),(e.z,dY .aD .aD .aD)].map (fun b=>(b.1,b.2.frz q 1 rs))) [(.osl y 1 0 w,1,(aZ (sD f S (k+1))).map fun r=>r.map (PV.cQ q 1 rs)),(.osl E 1 0 B,1,(j++[[PV.osl q 1 0 (aZ (mC f S k (f.a6S.length-1))).length]]).map fun r=>r.map (PV.cQ q 1 rs))]:=z5;rw[eB,e5,DA] at z6;exact z6
 ·have l:¬ (k:Int)<(f.a6R.length:Nat):=Om;have:k=f.a6R.length:=Om;subst this;simp only[go_sem,l];exact Up.up (by (repeat' (first|exact c_|refine d_ ?_ ?_))<;>first|(simp only[go_sem,xG]<;>rfl)|rfl) (hK M A j H0 u I)
theorem aGK {C:Ctx} (X:pH C) {K:cI} [Up K] (f:aE) (hV:VF f) (S:Nat→Bool) (e:WO) (B:LI) (l x:PV) (I:List (List PV)) {F:PF} {H:PH}
  (u:aM H [(e.n,gR f),(e.c,dY x l .aD),(e.z,dY .aD .aD .aD)] [B,(l,1,I),(.aD,1,[])]) (hF:(ZV f S e 0).le F)
  (hK:∀ w H',aM H' [(e.n,gR f),(e.c,dY x l w),(e.z,dY .aD .aD .aD)] [B,(l,1,I),(w,1,aZ (wR f S f.a6P.length))]→K (.exit 4) (ZV f S e f.a6P.length) H'):aC.wp C (.loop jo) K F H:=by
 have U:=hV.small;have γ:=U.a6P;refine wp_loop (α:=Nat × PV × PH) (fun s=>ZV f S e s.1) (fun s=>s.2.2) (fun s=>s.1≤f.a6P.length∧aM s.2.2 [(e.n,gR f),(e.c,dY x l s.2.1),(e.z,dY .aD .aD .aD)] [B,(l,1,I),(s.2.1,1,aZ (wR f S s.1))]) (fun s=>f.a6P.length-s.1) (0,.aD,H) ⟨a8K _,u⟩ hF b_ ?_;rintro⟨k,w,H0⟩ ⟨hk,u⟩;simp only at hk u;simp only[go_sem,jo,Sp,ZV];by_cases hlt:k<f.a6P.length
 ·have j:(k:Int)<(f.a6P.length:Nat):=Om;have J:=wZz k;have Y:aY f k<aY f f.a6P.length:=by unfold aY; omega
  have Z:((aY f k:Nat):Int)<((aY f f.a6P.length:Nat):Int):=Om;have M:=AN (S:=S) Y;have O:(wR f S k).length=k:=by simp[wR]
  have e6:H0 e.n=some (gR f):=u.at 0 rfl;have R:H0 e.c=some (dY x l w):=u.at 1 rfl;simp only[go_sem,j,Sr];refine aV (PH.nil.set e.c (dY x l w)) (FZ f [] (fun _ _=>True)) (e_ a_ R) ?_;simp only[go_sem,Ss,e6];refine GC X U (i:=k) Om rfl (e_ a_ R) ?_;simp only[go_sem,a8E,baJ,Z,M];refine u.append 2 (src:=[[.bool (S (aY f k))]]) rfl rfl (by unfold roomFor; rw[gE,O]; simp only[a8N,maxLen]; omega) fun δ H1 A N=>?_;obtain⟨W,y⟩:=N (by simp);rw[uO,show wR f S k++[S (aY f k)]=wR f S (k+1) from (lM _ _).symm] at A;refine⟨e_ a_ (A.at 1 rfl),?_⟩;refine aV .nil cA a_ ?_;have E:=A.at 1 rfl;generalize β:((aZ (wR f S k)++[[PV.bool (S (aY f k))]]).length)=V at y;subst y;simp only[go_sem,St,E];refine⟨a_,?_⟩;have h2:=A.set 1 rfl (dY x l (.osl W 1 0 V));simp only[go_sem,Su,J];exact aG (k+1,.osl W 1 0 V,_) ⟨hlt,h2⟩ (by simp only; omega) (by (repeat' (first|exact c_|refine d_ ?_ ?_))<;>first|(simp only[go_sem,ZV]<;>rfl)|rfl) b_
 ·have j:¬ (k:Int)<(f.a6P.length:Nat):=Om;have:k=f.a6P.length:=Om;subst this;simp only[go_sem,j];exact Up.up (by (repeat' (first|exact c_|refine d_ ?_ ?_))<;>first|(simp only[go_sem,ZV]<;>rfl)|rfl) (hK w H0 u)
theorem aTQ {C:Ctx} (x:UX C) (f:aE) (hf:f.Ok) (room:List Int) :
  WA.wp C (aT aMP.res (azL f room)) (PF.args [.agg f.cells,ints room]) .nil:=by
 simp only[go_sem,WA,amL,aMP];refine aO fun z hz=>?_;have h0:aM (PH.nil.set z (dY .aD .aD .aD)) [(z,dY .aD .aD .aD)] []:=aM.nil.new hz (dY .aD .aD .aD);generalize (PH.nil.set z (.rows 3 [[.aD,.aD,.aD]]))=H0 at *
 simp only[go_sem,amM];refine aB (x.net f room hf) rfl ?_;simp only[go_sem,tI];refine h0.sC fun q H1 Y=>?_;have q1:=Y.at 1 rfl;have y:=Y.set 1 rfl (nN (sM f room));simp only[go_sem,q1];generalize H1.set q (.rows 4 [(sM f room).cells])=H2 at *
 have q2:=y.at 1 rfl;have z2:=y.at 0 rfl;have no:∀ (F:PF) (H:PH),aM H [(z,dY .aD .aD .aD),(q,nN (sM f room))] []→F 4=some (.ptr z 3 0 0)→F 5=some (.bool false)→aT [.cell 4 (some 3),.tmp 5] (cP (.tup [.agg (eO.cells VM),.bool false])) .ret F H:=by intro F H h f4 f5;have e0:=h.at 0 rfl;have h':aM H [] [(.aD,1,aZ []),(.aD,1,[]),(.aD,1,aZ [])]:=(((h.sub (List.nil_sublist _) (baE.refl _)).kB 1).kB 1).kB 1;exact RR (.inr rfl) (by simp only[go_sem,f4,f5,e0]) .nil h'
 cases w:dL f with
 | false =>simp only[go_sem,Bz,xO w,amN,z2];refine D5 (c:=VM) (b:=false) (.inl ⟨w,rfl,rfl⟩) ?_;exact no _ _ (y.set 0 rfl (dY .aD .aD .aD)) rfl rfl
 | true =>
  have hV:=VF.of w;have hs:=hV.small;have hn:=wB hV room;have O:=q2;rw[uZ w] at O;simp only[go_sem,Bz,nM w,amO,O];refine dV (x.solve _ hn) rfl a_ ?_;rintro r H' ⟨xs,S,M,u,A,B,rfl,rfl⟩ -;rw[PH.kG];have I:=EH hV M u A B;have α:=aKT hV M;simp only[go_sem,amP];refine aB (x.demand f hV) rfl ?_;by_cases E:jF (cJ f room) xs=((oO f:Nat):Int)
  ·simp only[go_sem,bP E,amQ,z2];refine D5 (c:=VM) (b:=false) (.inr (.inl ⟨w,I.1 Om,rfl,rfl⟩)) ?_;exact no _ _ (y.set 0 rfl (dY .aD .aD .aD)) rfl rfl
  ·have J:¬ CL f room:=fun h=>I.2 h Om;simp only[go_sem,bD E,amR,a8E];refine y.sC fun e H3 Z=>?_;have g3:=Z.at 2 rfl;have h4:=Z.set 2 rfl (gR f);simp only[go_sem,g3];generalize H3.set e (.rows 2 [[.int .i64 (f.a6R.length:Nat),.int .i64 (f.a6S.length:Nat)]])=H4 at *
   simp only[go_sem,amS];refine h4.sC fun j H5 h5=>?_;have h6:aM H5 [(e,gR f),(j,dY .aD .aD .aD),(z,dY .aD .aD .aD)] [(.aD,1,[]),(.aD,1,[])]:=by refine ((((h5.uQ 1).kB 1).kB 1).perm ?_ (baQ.refl _));exact List.perm_append_comm (l₁:=[(z,dY .aD .aD .aD)]) (l₂:=[(e,gR f),(j,dY .aD .aD .aD)])
   simp only[go_sem,amT,a8E];refine aGL x.topH f hV S ⟨z,e,j⟩ h6 (by (repeat' (first|exact c_|refine d_ ?_ ?_))<;>first|(simp only[go_sem,xG]<;>rfl)|rfl) fun R U fs H6 N h7=>?_;simp only[go_sem,So,xG,a8E];refine aGK x.topH f hV S ⟨z,e,j⟩ (R,1,aZ (sD f S f.a6R.length)) U R fs (h7.kB 1) (by (repeat' (first|exact c_|refine d_ ?_ ?_))<;>first|(simp only[go_sem,ZV]<;>rfl)|rfl) fun rv H7 h8=>?_;have ec:=h8.at 1 rfl;have ez:=h8.at 2 rfl;have K:=h8.set 2 rfl (dY R U rv);simp only[go_sem,Sv,ZV,ec,ez];have l:=Nh hV M (S:=S) A B u J;rw[Qg] at l;refine⟨_,if_pos ?_,?_⟩
   ·rcases K.own 0 rfl with ⟨_,V⟩ | ⟨q1,rs1,V,_⟩<;>rcases K.own 1 rfl with ⟨_,W⟩ | ⟨q2,rs2,W,_⟩<;>rcases K.own 2 rfl with ⟨_,X⟩ | ⟨O,rs3,X,_⟩<;>rw[V,W,X]<;>rfl
   refine D5 (b:=true) (.inr (.inr ⟨w,J,l,rfl⟩)) ?_;exact RR (.inr rfl) Sq N (K.sub (List.nil_sublist _) (baE.refl _))
theorem aTI {C : Ctx} (f : aE) (hV : VF f) : VU.wp C (aT aMI.res (aI (.int .i64 ((oO f : Nat) : Int)))) (PF.args [.agg f.cells]) .nil := by
  have hs := hV.small.a6R;simp only[go_sem,VU,alI,alJ,alK,aMI,a8E];refine wp_loop (α := Nat) (fun k => (((((PF.nil.set 1 (.bO f.cells)).set 3 (.int .i64 ((cX (fE f) k : Nat) : Int))).set 7 (.sl 2 (f.a6R.map fZ.cells))).set 8 (.int .i64 (f.a6R.length : Nat))).set 9 (.int .i64 (k : Nat)))) (fun _ => .nil) (fun k => k ≤ f.a6R.length) (fun k => f.a6R.length - k) 0 (a8K _) (by (repeat' (first|exact c_|refine d_ ?_ ?_)) <;> first|(simp only[go_sem,cX] <;> rfl)|rfl) a_ ?_;intro k hk;simp only[go_sem,alH,alL];by_cases hlt : k < f.a6R.length
  · have a6W : (k : Int) < (f.a6R.length : Nat) := Om
    obtain ⟨b1, b2, b3, -⟩ := mO hV hlt;have b4 := ajP hV k hk;obtain ⟨hp, he⟩ := qZ hV hlt;have hpol := hV.a7C _ (a8G hp);rw [he] at hpol;have e0 : IntKind.i64.wrap ((cO f k).k + (cO f k).m) = pV f k := wrap_i64 Om Om;have e : IntKind.i64.wrap (((cX (fE f) k : Nat) : Int) + pV f k) = ((cX (fE f) (k + 1) : Nat) : Int) := by rw [cX, ← b3, wrap_i64 Om Om]; omega
    simp only[go_sem,a6W,alM,zM hlt];refine aO fun o ho => ?_;simp only[go_sem];refine aV .nil cA a_ ?_;simp only[go_sem,alN,hV.YE hlt,tC hp,he,e0,e,Bu,wZz k]
    first
      | exact aG (k + 1) hlt Om Lq a_
      | (refine ⟨a_, ?_⟩
         simp only[go_sem,Bu,wZz k];exact aG (k + 1) hlt Om Lq a_)
  · have a6W : ¬ (k : Int) < (f.a6R.length : Nat) := Om
    have : k = f.a6R.length := Om;subst this;simp only[go_sem,a6W,alO];refine aR (.inr rfl) rfl ?_;rfl
structure cL (C:Ctx):Prop where
 r0:bH C 0 Wu
 r1:bH C 1 aBY
 r2:bH C 2 aOD
 r4:bH C 4 Pa
 r5:bH C 5 aOJ
 r7:bH C 7 O9
 r27:bH C 27 V7
 r28:bH C 28 aOG
 r29:bH C 29 aCB
 r30:bH C 30 aQG
 r31:bH C 31 aDW
 r32:bH C 32 aQI
 r33:bH C 33 udiv
 r34:bH C 34 aQM
 r35:bH C 35 aEC
 r36:bH C 36 aQO
 r37:bH C 37 aQV
 r38:bH C 38 aEG
 r39:bH C 39 Du
 r40:bH C 40 aEA
 r41:bH C 41 aeX
 r42:bH C 42 afB
 r43:bH C 43 aEE
 r44:bH C 44 afJ
 r45:bH C 45 uup
 r46:bH C 46 aEH
 r47:bH C 47 aRA
 r48:bH C 48 agA
 r49:bH C 49 aEN
 r50:bH C 50 Pi
 r51:bH C 51 agL
 r52:bH C 52 D1
 r53:bH C 53 aEQ
 r54:bH C 54 aER
 r55:bH C 55 aRG
 r56:bH C 56 agZ
 r57:bH C 57 aEK
 r58:bH C 58 D0
 r59:bH C 59 aES
 r60:bH C 60 agY
 r61:bH C 61 SA
 r62:bH C 62 D7
 r63:bH C 63 ahA
 r64:bH C 64 D6
 r65:bH C 65 D8
 r66:bH C 66 aRO
 r67:bH C 67 aiG
 r68:bH C 68 aRM
 r69:bH C 69 aRI
 r70:bH C 70 ahI
 r71:bH C 71 ahJ
 r72:bH C 72 qo
 r73:bH C 73 aiE
 r74:bH C 74 aiF
 r75:bH C 75 Ek
 r76:bH C 76 c7
 r77:bH C 77 pj
 r82:bH C 82 aDM
 r85:bH C 85 aDS
 r88:bH C 88 abZ
 r95:bH C 95 aMX
 r96:bH C 96 aNF
 r97:bH C 97 Sz
 r98:bH C 98 aAV
 r99:bH C 99 aAW
 r100:bH C 100 aAX
 r101:bH C 101 gone
 r102:bH C 102 aBB
 r103:bH C 103 T1
 r104:bH C 104 gin
 r105:bH C 105 aMY
 r106:bH C 106 aMZ
 r107:bH C 107 aBD
 r108:bH C 108 aBE
 r109:bH C 109 Ui
 r110:bH C 110 aBH
 r111:bH C 111 aAZ
 r112:bH C 112 aNB
 r113:bH C 113 Bp
 r114:bH C 114 aMH
 r115:bH C 115 O5
 r116:bH C 116 bk
 r117:bH C 117 R8
 r118:bH C 118 Sb
 r119:bH C 119 aMF
 r120:bH C 120 zW
 r121:bH C 121 Sa
 r122:bH C 122 aAT
 r123:bH C 123 O6
 r124:bH C 124 tw
 r125:bH C 125 tz
 r126:bH C 126 bz
 r127:bH C 127 aOK
 r128:bH C 128 aCG
 r129:bH C 129 aON
 r130:bH C 130 aOO
 r131:bH C 131 aOS
 r132:bH C 132 aCT
 r133:bH C 133 aOV
 r134:bH C 134 aOX
 r135:bH C 135 aCV
 r136:bH C 136 Ct
 r137:bH C 137 Yp
 r138:bH C 138 ND
 r139:bH C 139 mq
 r140:bH C 140 Y3
 r141:bH C 141 Y4
 r142:bH C 142 XJ
 r143:bH C 143 nup
 r152:bH C 152 aDV
 r156:bH C 156 aDU
 r161:bH C 161 adV
 r282:bH C 282 aPA
 r283:bH C 283 aCL
 r284:bH C 284 aOP
 r285:bH C 285 aOL
 r286:bH C 286 aMM
 r287:bH C 287 aMI
 r288:bH C 288 R4
 r289:bH C 289 aMP
 r290:bH C 290 aMG
 r291:bH C 291 aCC
 r292:bH C 292 Xw
 r293:bH C 293 aNV
 r294:bH C 294 O8
 r295:bH C 295 O7
 r296:bH C 296 Xu
 r297:bH C 297 aNS
 r298:bH C 298 Xv
 r299:bH C 299 Zl
 r300:bH C 300 Zm
 r301:bH C 301 aPB
 r302:bH C 302 Zk
 r303:bH C 303 GR
 r304:bH C 304 Pc
 r305:bH C 305 aPM
 r306:bH C 306 aaX
 r307:bH C 307 GY
 r308:bH C 308 ni
 r309:bH C 309 NH
 r310:bH C 310 Dh
 r311:bH C 311 Dg
 r312:bH C 312 ahG
 r313:bH C 313 aFD
namespace Z
theorem uY {C:Ctx} (c:cL C):wG C :=
 have len:∀ xs,Lim xs→xs.length≤35184372087808→aH C 138 [aK xs] .nil (aI (.int .i64 (nl (val xs):Nat))):=fun xs h l=>c.r138.go (aCS xs h l) rfl
 {length:=len
  large:=fun xs h l=>c.r137.go (aHO xs (len xs h l)) rfl
  sized:=fun xs h l=>(c.r141.go (aHR xs h (len xs h l)) rfl).seen
  trim:=fun xs h l=>(c.r135.go (aOY xs h l (len xs h l)) rfl).seen
  make:=fun v h=>c.r132.go (aOU v h len) rfl
  cmp:=fun xs x e j u w=>c.r129.go (aUZ xs x e j u w (len xs e u) (len x j w)) rfl }
theorem aUV {C:Ctx} (c:cL C):O2 C :=
 {subtract:=fun A W Z v f o hW u l j w e=>c.r142.go (Za A W Z v f hW u l j w e o) rfl
  restore:=fun A W Z v o hW u l j=>c.r139.go (aiY A W Z v hW u l j o) rfl }
theorem aCE {C:Ctx} (c:cL C):Pu C :=
 {L:=uY c
  D:=aUV c
  up:=fun a s j x e=>c.r143.go (aYM a s j x e) rfl
  short:=fun a d j l u e=>c.r140.go (aHQ (uY c) a d j l u e) rfl
  lengthO:=fun xs o y w=>c.r138.go (aiX xs y w o) rfl }
theorem vu {C:Ctx} (c:cL C) (A B:Nat) (hB:B≠0) (j:nl A≤900) (e:nl B≤900):aH C 136 [aK (aJ A),aK (aJ B)] .nil (aI (vS A B)) :=
 (c.r136.go (aCK (aCE c) A B hB j e) rfl).seen
theorem wY {C:Ctx} (c:cL C):yC C :=
 {uY c with
  bits:=fun xs h l=>c.r128.go (aOM xs h l ((uY c).length xs h l)) rfl
  add:=fun xs x e j u w=>(c.r127.go (aUW (uY c) xs x e j u w) rfl).seen
  sub:=fun xs x e j u w=>(c.r134.go (aVH (uY c) xs x e j u w) rfl).seen
  mul:=fun xs x e j u w=>(c.r133.go (aVG (uY c) xs x e j u w) rfl).seen
  gcd:=fun xs x e j u w=>(c.r131.go (aVF (uY c) (vu c) xs x e j u w) rfl).seen
  div:=fun xs x e j u w=>(c.r130.go (aVA (uY c) (vu c) xs x e j u w) rfl).seen }
theorem FB {C:Ctx} (c:cL C):NR C :=
 {wY c with
  times:=fun a b e hb j l u w=>c.r121.go (aGI (wY c) a b e hb j l u w) rfl
  zero:=fun neg a b e j=>c.r122.go (aMR (wY c) neg a b e j) rfl
  valid:=fun neg a b e hb j l=>c.r118.go (aGJ (wY c) neg a b e hb j l) rfl
  abs:=fun v y A=>c.r119.go (aTE (wY c) v y A) rfl
  lowest:=fun neg a b e hb j l u w x=>(c.r120.go (aAO (wY c) neg a b e hb j l u w x) rfl).seen }
theorem R5 {C:Ctx} (c:cL C) (x y:RF) (e:x.Ok) (j:y.Ok):aH C 113 [.agg x.cells,.agg y.cells] .nil (aI (frV (lT x.v y.v))) :=
 (c.r113.go (aTF (FB c) x.neg y.neg x.num x.den y.num y.den e.1 e.2.1 j.1 j.2.1 e.2.2.1 e.2.2.2 j.2.2.1 j.2.2.2) rfl).seen
theorem Bw {C:Ctx} (c:cL C):O1 C :=
 {FB c with
  frac:=fun n d A u=>(c.r115.go (aML (FB c) n d A.1 A.2 u.1 u.2) rfl).seen
  red:=fun x e=>by rw[← aDE];exact (c.r116.go (aAR (FB c) x.neg x.num x.den e.1 e.2.1 e.2.2.1 e.2.2.2) rfl).seen
  ord:=fun x y e j=>(c.r114.go (aTH (FB c) x.neg y.neg x.num x.den y.num y.den e.1 e.2.1 j.1 j.2.1 e.2.2.1 e.2.2.2 j.2.2.1 j.2.2.2) rfl).seen
  plus:=R5 c
  tot:=fun l w=>(c.r117.go (aTP (FB c) (R5 c) l w.all w.fits) rfl).seen }
theorem FA {C:Ctx} (c:cL C):yA C :=
 have inn:∀ n lo hi:Int,aH C 104 [.int .i64 n,.int .i64 lo,.int .i64 hi] .nil (aI (.bool (within n lo hi))):=fun n lo hi=>(c.r104.go (aYD n lo hi) rfl).seen;have yE:∀ x:RF,x.Ok→aH C 97 [.agg x.cells] .nil (aI (.bool (dH x))):=fun x u=>(c.r97.go (aGM (wY c) x u) rfl).seen;have lim:∀ x:RF,x.Ok→aH C 105 [.agg x.cells] .nil (aI (.bool (dP x))):=fun x u=>(c.r105.go (aTT (Bw c) x u) rfl).seen;have e:∀ n:Nat,aH C 126 [.int .u8 n] .nil (aI (.bool (jJ n))):=fun n=>c.r126.go (aBU n) rfl;have j:∀ n:Nat,aH C 124 [.int .u8 n] .nil (aI (.bool (qI n))):=fun n=>c.r124.go (aGU n) rfl
 {Bw c with
  inn:=inn
  yE:=yE
  lim:=lim
  one:=fun x u=>(c.r101.go (aTV (Bw c) x u) rfl).seen
  allf:=fun p fn l w h=>(c.r99.go (aMT p fn l w h) rfl).seen
  alli:=fun p fn l w h=>(c.r100.go (aMU p fn l w h) rfl).seen
  allb:=fun p fn l w h=>(c.r98.go (aMS p fn l w h) rfl).seen
  ends1:=fun b=>(c.r103.go (aGN b) rfl).seen
  num1:=fun n=>(c.r107.go (aNA inn n) rfl).seen
  rate1:=fun x u=>(c.r109.go (aGQ lim yE x u) rfl).seen
  name:=fun s=>c.r123.go (aNQ e (fun n=>c.r125.go (aGY e j n) rfl) s) rfl }
theorem Q4 {C:Ctx} (c:cL C):Pp C :=
 {FA c with
  num:=fun p e=>(c.r106.go (aTU (FA c) p e) rfl).seen
  rate:=fun p e=>(c.r108.go (aNC (FA c) p e) rfl).seen
  uniq:=fun l j=>(c.r110.go (aNE (FA c) l j) rfl).seen }
theorem Q5 {C:Ctx} (c:cL C):qp C :=
 {Q4 c with
  ends:=fun l e he=>(c.r102.go (aMW (FA c) l e he) rfl).seen }
theorem aMK {C:Ctx} (c:cL C):oG C :=
 {Q5 c with
  law:=fun l j=>(c.r95.go (aTS (Q5 c) l j) rfl).seen
  pol:=fun p n w u=>(c.r112.go (aTW (Q4 c) p w n u) rfl).seen
  a6Z:=fun f e=>(c.r111.go (aTR (FA c) f e) rfl).seen }
theorem Ez {C:Ctx} (c:cL C) (f:aE) (e:f.Ok):aH C 96 [.agg f.cells] .nil (aI (.int .i64 (CW f))):=(c.r96.go (aTX (aMK c) f e) rfl).seen
theorem aWH {C:Ctx} (c:cL C):aRV C :=
 {valid:=fun f e=>(c.r161.go (aKB (Ez c) f e) rfl).seen
  R6:=fun f v j h=>(c.r156.go (aQD f j v h) rfl).seen }
theorem tD {C:Ctx} (c:cL C):uN C:={ trimM:=fun xs h l=>c.r38.go (aQW xs h l) rfl }
theorem abL {C:Ctx} (c:cL C):Pw C :=
 {tD c with
  make:=fun v h=>(c.r35.go (aQN (tD c) v h) rfl).seen
  large:=fun xs h l=>(c.r41.go (aKE (tD c) xs h l) rfl).seen
  cmp:=fun xs x e j u w=>c.r32.go (aWJ (tD c) xs x e j u w) rfl }
theorem abN {C:Ctx} (c:cL C):Py C :=
 {abL c with
  minus:=fun a b j hb l w e=>(c.r42.go (aKF (tD c) a b j hb l w e) rfl).seen
  times:=fun a b j hb e u=>(c.r44.go (aKG (tD c) a b j hb e u) rfl).seen }
theorem oz {C:Ctx} (c:cL C):rc C :=
 {abN c with
  plus:=fun a b l hb e j=>(c.r43.go (aQT (tD c) a b l hb e j) rfl).seen }
theorem aPQ {C:Ctx} (c:cL C):UZ C :=
 {oz c with
  bits:=fun xs h l=>c.r31.go (aQH (tD c) xs h l) rfl
  upM:=fun a n j e u w=>c.r45.go (aYY (tD c) a n j e u w) rfl
  down:=fun a n j e u=>(c.r40.go (aQL (tD c) a n j e u) rfl).seen }
theorem ow {C:Ctx} (c:cL C):qz C :=
 {abL c with
  divide:=fun A B hB j e=>(c.r39.go (aDZ (aPQ c) A B hB j e) rfl).seen }
theorem abM {C:Ctx} (c:cL C):Px C :=
 {ow c with
  gcd:=fun a b e hb j l=>(c.r34.go (aWL (ow c) a b e hb j l) rfl).seen
  div:=fun a b e hb j l=>(c.r33.go (aWK (ow c) a b e hb j l) rfl).seen }
theorem avD {C:Ctx} (c:cL C):azJ C :=
 {abM c with
  lowest:=fun neg a b l hb u w x y j=>(c.r58.go (aEO (abM c) neg a b l hb u w x y j) rfl).seen
  size:=fun v e=>c.r59.go (aRF v e.1 e.2) rfl }
theorem RO {C:Ctx} (c:cL C):q9 C :=
 {avD c with
  fmk:=fun n d j e=>(c.r50.go (aRC (avD c) n d j e) rfl).seen }
theorem Cg {C:Ctx} (c:cL C) (hi:FU C):NT C :=
 {RO c with
  int:=fun n e=>(c.r47.go (axS (RO c) n e) rfl).seen
  itoa:=hi
  next:=fun l v T o n a e j=>c.r4.go (aOH T o n a e j) rfl }
theorem Xb {C:Ctx} (c:cL C) (hi:FU C):Ps C :=
 {Cg c hi with
  frac:=fun l v T o a e=>c.r1.go (aOA (Cg c hi) T o a e) rfl }
theorem Xc {C:Ctx} (c:cL C) (hi:FU C):yB C :=
 {Xb c hi with
  rep:=fun l v T o a m j e=>c.r5.go (aUU (Xb c hi) T o a m j e) rfl
  name:=fun s n w u=>c.r29.go (aOF (Cg c hi) s n w u) rfl }
theorem Xd {C:Ctx} (c:cL C) (hi:FU C):rI C :=
 {Xc c hi with
  law:=fun l v T o fW a u e j=>c.r2.go (aUS (Xc c hi) T o fW a u e j) rfl }
theorem Xe {C:Ctx} (c:cL C) (hi:FU C):Pt C :=
 {Xd c hi with
  grow:=fun l v T mc a6P e j u=>Um (Xd c hi) T mc a6P e j u (fun args H R w h=>c.r7 args H R (by rw[w]; decide) h) 4 (a8J _) }
theorem aOB {C:Ctx} (c:cL C) (hi:FU C):aFG C :=
 {Xe c hi with
  new:=fun l hb w=>c.r28.go (aUT l hb w) rfl
  fleet:=fun l v T o a6P a6R a e j u=>UW.exact (c.r0.go (aHB (Xe c hi) T o a6P a6R a e j u) rfl) }
theorem Dj {C:Ctx} (c:cL C):O4 C :=
 {RO c with
  int:=fun n u=>(c.r47.go (axS (RO c) n u) rfl).seen
  mul:=fun a b e hb j l=>(c.r36.go (aWM (abN c) a b e hb j l) rfl).seen
  add:=fun a b e hb j l=>(c.r30.go (aWI (oz c) a b e hb j l) rfl).seen
  sub:=fun a b e hb j l=>(c.r37.go (aWP (oz c) a b e hb j l) rfl).seen }
theorem pd {C:Ctx} (c:cL C):re C :=
 {Dj c with
  valid:=fun x e=>c.r56.go (aKY (Dj c) x.neg x.num x.den e.1 e.2.1 e.2.2.1 e.2.2.2) rfl
  big:=fun x=>c.r48.go (aKV x.1 (aJ x.2.1) (aJ x.2.2)) rfl }
theorem abO {C:Ctx} (c:cL C):Pz C :=
 {pd c with
  fits:=fun x=>(c.r57.go (aQY (pd c) x) rfl).seen
  red:=fun x j=>(c.r52.go (aEP (pd c) x j) rfl).seen
  prod:=fun a b e hb l u w y=>c.r60.go (aKX (Dj c) a b e hb l u w y) rfl }
theorem GZ {C:Ctx} (c:cL C):FW C :=
 {abO c with
  order:=fun x y e j l u=>c.r51.go (aKW (abO c) x y e j l u) rfl }
theorem avE {C:Ctx} (c:cL C):azK C :=
 {GZ c with
  less:=fun x y e j l u=>c.r49.go (aRB (GZ c) x y e j l u) rfl
  same:=fun x y e j l u=>c.r53.go (aRD (GZ c) x y e j l u) rfl
  sign:=fun x e l=>c.r54.go (aRE (GZ c) x e l) rfl
  plus:=fun x y e j=>(c.r46.go (aWQ (GZ c) x y e j) rfl).seen }
theorem ou {C:Ctx} (c:cL C):qy C :=
 {avE c with
  sum:=fun l j e=>(c.r55.go (aWT (avE c) l j e) rfl).seen
  inn:=fun n lo hi=>c.r76.go (aFF n lo hi) rfl
  code:=fun k m=>c.r61.go (aPW k m) rfl }
theorem K6 {C:Ctx} (c:cL C):Bb C :=
 {ou c with
  small:=fun x e=>c.r74.go (aLI (ou c) x e) rfl
  nums:=fun k m q s0 s1 s2 s3 s4=>c.r72.go (ajO (ou c) k m q s0 s1 s2 s3 s4) rfl
  sizes:=fun j l u w y A=>c.r73.go (aLH j l u w y A) rfl }
theorem K7 {C:Ctx} (c:cL C):Bc C :=
 {K6 c with
  smalls:=fun l e n=>c.r75.go (aFE (K6 c) l e n) rfl }
theorem K8 {C:Ctx} (c:cL C):Bd C :=
 {K7 c with
  reps:=fun l e m=>c.r66.go (aXB (K7 c) l e m) rfl }
theorem K9 {C:Ctx} (c:cL C):Be C :=
 have e:∀ n:Nat,aH C 65 [.int .u8 n] .nil (aI (.bool (jJ n))):=fun n=>c.r65.go (aEV n) rfl;have j:∀ n:Nat,aH C 63 [.int .u8 n] .nil (aI (.bool (qI n))):=fun n=>c.r63.go (aKZ n) rfl
 {K8 c with
  name:=fun s=>c.r62.go (aEU e (fun n=>c.r64.go (aET e j n) rfl) s) rfl
  index:=fun l u s=>c.r71.go (aLE l u s) rfl }
theorem La {C:Ctx} (c:cL C):uM C :=
 {K9 c with
  fresh:=fun l j s w H e=>c.r70.go (aLD (K9 c) l j s w H e) rfl }
theorem aJG {C:Ctx} (c:cL C):xI C :=
 {La c with
  law:=fun l e=>c.r68.go (aWZ (La c) l e) rfl }
theorem aJH {C:Ctx} (c:cL C):Bf C :=
 {aJG c with
  dur:=fun m rep j t h l e=>c.r69.go (aWY (K8 c) m rep j t h l e) rfl }
theorem ov {C:Ctx} (c:cL C):aFI C :=
 {valid:=fun f w=>c.r67.go (aLL (aJH c) f w) rfl
  yE:=fun f d level e u j l=>c.r88.go (aJP f e d u level j l) rfl
  R6:=fun f v e h=>(c.r82.go (aPY f e v h) rfl).seen }
theorem aIX {C:Ctx} (c:cL C) (f:aE) (v:Nat) (e:v≤100):aH C 282 [.agg (wK f),.int .i64 (v:Nat)] .nil (aI (.int .i64 ((2+v:Nat):Int))):=c.r282.go (aVJ f v e) rfl
theorem Kj {C:Ctx} (c:cL C):pH C :=
 {vol:=aIX c
  dom:=fun f j e v i y hi=>c.r283.go (aVB (aIX c) f j e v i y hi) rfl
  drv:=fun f j d e=>c.r284.go (aVC f j d e) rfl
  arc:=fun o N a v l x H u=>c.r285.go (aUY o N a.src a.dst a.cap v l x H u) rfl
  valid:=Ez c
  roomM:=fun f room w=>c.r152.go (aQF (aWH c) f w room) rfl }
theorem atI {C:Ctx} (c:cL C) (n:bY) (e:eU n):aH C 292 [.agg n.cells] .nil (aI (.bool true)):=c.r292.go (aHI (fun n o x j=>c.r291.go (aOI n o x j) rfl) n e) rfl
theorem atH {C:Ctx} (c:cL C) (n:bY) (e fo:Nat) (xs:List Nat) (out:PV) (s:cT) (l:eU n) (j:¬ e=fo) (w:pG n xs) (u:s.1<n.arcs.length):aH C 294 [.ptr e 6 0 0,.int .i64 (stI s)] (sH n e fo xs out) (fun r H'=>r=.tup [.int .i64 ((fP n s:Nat):Int),.int .i64 ((dO n xs s:Nat):Int)]∧H'=sH n e fo xs out):=c.r294.go (aNW n l e fo j xs w out s u) rfl
theorem aPK {C:Ctx} (c:cL C) (n:bY) (j:eU n):aH C 298 [.agg n.cells] .nil (VA n) :=
 c.r298.go (aHG (atI c) (fun n u fo xs y l j e I w B=>c.r296.go (aHF (atH c) n j u fo e xs I y l w B) rfl)
  (fun n u fo xs out Q way j e A E x=>c.r297.go (aUO (atH c) (fun n u fo xs out s j e F=>c.r295.go (aNU n j u fo e xs out s F) rfl) n j u fo e xs A out Q way E x) rfl) n j) rfl
theorem xx {C:Ctx} (c:cL C):UX C :=
 {Kj c with
  net:=fun f room e=>(c.r286.go (aTL (Kj c) f e room) rfl).aDL
  solve:=aPK c
  demand:=fun f hV=>c.r287.go (aTI f hV) rfl }
theorem atJ {C:Ctx} (c:cL C) (hi:FU C):Pn C :=
 {fleet:=fun l hb y a6P a6R j w=>(c.r27.go (aGZ (aOB c hi) l hb y a6P a6R j w) rfl).seen
  place:=fun f room e=>(c.r288.go (aGH (xx c) f e room) rfl).place
  why:=fun f room e=>(c.r289.go (aTQ (xx c) f e room) rfl).why
  chk:=fun f room ct e u=>c.r290.go (aTG (xx c) (fun n cut A x=>c.r293.go (aUQ (atI c) n A cut x) rfl) f e room ct u) rfl }
theorem aPJ {C:Ctx} (c:cL C) (hi:FU C):aH C 312 [] .nil (aI (.bool true)):=c.r312.go (aLC (atJ c hi)) rfl
theorem Zw {C:Ctx} (c:cL C):vP C :=
 {node:=fun f j e v i w hi=>c.r304.go (aPO f j e v i w hi) rfl
  drv:=fun f j d e=>c.r305.go (aVT f j d e) rfl
  total:=fun f hV=>c.r306.go (aJD (ov c).R6 f hV) rfl
  qvalid:=(ov c).valid
  allowed:=fun f p d hV u e=>c.r77.go (ajC f hV p u d e) rfl
  qroom:=fun f room l=>(c.r85.go (aQA (ov c) f l room) rfl).seen }
theorem atK {C:Ctx} (c:cL C) (f:aE) (room:List Int) (e:f.Ok):aH C 307 [.agg f.cells,ints room] .nil (aI (tI f room)):=(c.r307.go (aVV (Zw c) f e room) rfl).aDL
theorem Dd {C:Ctx} (c:cL C) (n:bY) (e:eU n):aH C 299 [.agg n.cells] .nil (aI (.bool true)):=c.r299.go (aIM n e) rfl
theorem De {C:Ctx} (c:cL C):azI C :=
 {Zw c with
  GY:=atK c
  GR:=fun n e=>c.r303.go (aIK (Dd c) (fun n xs e l=>c.r300.go (aIP (Dd c) n e xs l) rfl) (fun n fo xs e j=>by rw[← j.len]; exact c.r302.go (aIJ n e fo xs j) rfl) n e) rfl
  ni:=fun f room xs hV j=>(c.r308.go (aVU (Zw c) f hV room xs j) rfl).aDL }
theorem aVR {C:Ctx} (c:cL C) (f:aE) (room:List Int) (ct:eO) (l:f.Ok) (e:pJ ct):aH C 311 [.agg f.cells,ints room,.agg ct.cells] .nil (aI (.bool (sT f room ct))):=c.r311.go (aVS (De c) (fun n cut u j=>c.r301.go (aVK (Dd c) n u cut j) rfl) f l room ct e) rfl
theorem aYP {C:Ctx} (c:cL C) (hi:FU C):Po C :=
 {atJ c hi with
  awake:=aPJ c hi
  net:=(xx c).net
  GY:=atK c
  same:=fun n j=>c.r313.go (aRP n j) rfl
  NH:=fun f room e=>(c.r309.go (aJC (De c) f e room) rfl).place
  Dh:=fun f room e=>(c.r310.go (aVW (De c) f e room) rfl).why
  Dg:=aVR c }
end Z
theorem aTD {C:Ctx} (c:cL C) (hi:FU C) (r:bH C 317 aFA) (f:aE) (j:f.Ok) (room:List Int) (ct:eO) (e:ct.vols.length≤1000000000000000∧ct.a6Z.length≤1000000000000000∧ct.a7J.length≤1000000000000000):aH C 317 [.agg f.cells,ints room,.agg ct.cells] .nil (aI (.bool true)):=r.go (aXA (Z.aYP c hi) f j room ct e) rfl
end Go.PM
