/-
  Texts of ours, joined. No condition.
-/
import Derived.Test.YtkknafmijabgaaaGreatDoorFG1
import Derived.Test.YtkknafmijabgaaaGreatDoorFG2
import Derived.Test.YtkknafmijabgaaaGreatDoorFG3
import Derived.Test.YtkknafmijabgaaaGreatDoorFG4
import Derived.Test.YtkknafmijabgaaaGreatDoorFG5

set_option linter.unusedSimpArgs false
set_option linter.unusedVariables false
open Nat renaming reduceEqDiff → γ, reduceAdd → δ, reduceSub → ε, reduceMul → ζ, reduceLT → η, reduceLeDiff → θ
open Int renaming reduceLT → ι, reduceLE → κ, reduceEq → μ, reduceToNat → ν, reduceAdd → ξ, reduceNeg → ο, reduceBEq → ρ
open List renaming length_map → aAA, range → aAB, length_append → aAE, getElem_mem → aAG, getElem?_eq_getElem → aAH, length_singleton → aAI, mem_cons → aAK, getD_eq_getElem?_getD → aAL, length_take → aAN, take_of_length_le → aAQ, getElem?_map → aAT, mem_range → aAU, mem_map → aAW, not_mem_nil → aAY, getElem?_eq_some_iff → aBD, append_assoc → aBE, map_cons → aBG, mem_append → aBH, mem_singleton → aBL, getElem?_eq_none → aBN, map_append → aBO, length_drop → aBR, take_length → aBT, length_cons → aBV, length_set → aBW, getElem?_append_right → aBY, getElem?_append_left → aCB, map_congr_left → aCC, Sublist → aCG, drop_eq_getElem_cons → aCK, length_nil → aCL, take_succ_eq_append_getElem → aCM, Perm → aCO, range_succ → aCS, getElem?_range → aCV, length_range → aDD, map_map → aDE, map_set → aDL, getElem?_drop → aDO, set_append_right → aDQ, set_cons_zero → aDX
open Nat renaming le_refl → aAF, zero_le → aAP, zero_add → aAX, mul_le_mul_right → aBC, add_zero → aBP, min_eq_left → aCF, mul_le_mul → aDJ
open Option renaming getD_some → aCU
open Bool renaming and_eq_true → aAO, true_and → aBB
open Int renaming toNat_natCast → aDK
namespace Go.PM
open Go Go.Na
theorem aK.Ti:∀ (L:List LI) {H:PH} {B:List BX},aK H B L→(∀ x∈L,Flat x.2.2)→(∀ b∈B,∀ q s rs,bF.frz q s rs b.2=b.2) →
  ∃ (φ:PV→PV) (y:PH),(∀ x∈L,Seen x.2.1 (φ x.1) x.2.2)∧(∀ u,u.oid=none→φ u=u)∧aK y B []∧∀ cs (b:Bool) R,nU (.tup [.agg (cs.map φ),.bool b]) y R→nU (.tup [.agg cs,.bool b]) H R
 | [],H,B,h,_,_=>⟨id,H,by simp,fun _ _=>rfl,h,fun cs b R F=>by rwa [List.map_id] at F⟩
 | (w,s,rows)::L,H,B,h,E,hB=>by
  have l:∀ q z rs,(L.map fun x=>(x.1,x.2.1,x.2.2.map fun r=>r.map (PV.bP q z rs)))=L:=fun q z rs=>by
   conv=>rhs; rw[← List.map_id L]
   refine aCC fun x hx=>?_;rw[E x (by simp[hx]) q z rs]; rfl
  rcases h.own 0 rfl with ⟨A,O⟩ | ⟨q,rs,A,_⟩
  ·obtain⟨φ,y,k1,k2,I,J⟩:=aK.Ti L (h.ET 0) (fun x hx=>E x (by simp[hx])) hB;refine⟨φ,y,fun x hx=>?_,k2,I,J⟩;rw[aAK] at hx;rcases hx with rfl | hx
   ·exact .inl ⟨A,by simp only; rw[O]; exact k2 _ rfl⟩
   ·exact k1 x hx
  ·subst A;obtain⟨rs,U,V,Y,W,M⟩:=h.frz 0 rfl;have X:aK (H.frz q s rs) B L:=by
    have N:(B.map fun b=>(b.1,b.2.frz q s rs))=B:=by
     conv=>rhs; rw[← List.map_id B]
     refine aCC fun b hb=>?_;rw[hB b hb q s rs]; rfl
    rw[N] at M;have:=M;simp only[List.eraseIdx_cons_zero] at this
    rwa [l q s rs] at this
   obtain⟨φ,y,k1,k2,I,J⟩:=aK.Ti L X (fun x hx=>E x (by simp[hx])) hB;refine⟨fun u=>φ (PV.bP q s rs u),y,fun x hx=>?_,fun u K=>?_,I,fun cs b R F=>?_⟩
   ·rw[aAK] at hx;rcases hx with rfl | hx
    ·simp only;rw[V];exact .inr (k2 _ rfl)
    ·obtain⟨j,S⟩:=List.mem_iff_getElem?.1 hx;have:=W (j+1) x Om (by simpa using S);simp only;rw[this];exact k1 x hx
   ·simp only;rw[FH K,k2 u K]
   ·refine .step U ?_;have e:PV.frz q s rs (.tup [.agg cs,.bool b])=.tup [.agg (cs.map (PV.bP q s rs)),.bool b]:=rfl;rw[e];refine J _ b R ?_;rw[aDE];exact F
def oI (e:List (List PV)) (ws:List (List Bool)):Prop:=e.length=ws.length∧∀ (i:Nat) r w,e[i]?=some r→ws[i]?=some w→r=[kK w]∨(r=[.aA]∧w=[])
theorem oI.nil:oI [] []:=⟨rfl,fun i r w h=>by cases h⟩
theorem oI.snoc {l:List (List PV)} {ws:List (List Bool)} {u:PV} {w:List Bool} (h:oI l ws) (y:u=kK w∨(u=.aA∧w=[])):oI (l++[[u]]) (ws++[w]):=by
 refine⟨by simp[h.1],fun i r x e j=>?_⟩;rcases Nat.lt_trichotomy i l.length with c | c | c
 ·rw[aCB c] at e;rw[aCB (by rw[← h.1]; exact c)] at j;exact h.2 i r x e j
 ·subst c;rw[aBY (aAF _),Nat.sub_self] at e;rw[h.1,aBY (aAF _),Nat.sub_self] at j;cases e; cases j;rcases y with rfl | ⟨rfl,rfl⟩
  ·exact .inl rfl
  ·exact .inr ⟨rfl,rfl⟩
 ·rw[aBY Om,aBN (by simp; omega)] at e;cases e
theorem oI.flat {j:List (List PV)} {ws:List (List Bool)} (h:oI j ws):Flat j:=Flat.of fun r u c e q s rs=>by
 obtain⟨i,hi⟩:=List.mem_iff_getElem?.1 u;have l:=(aBD.1 hi).1;rcases h.2 i r _ hi (aAH (by rw[← h.1]; exact l)) with rfl | ⟨rfl,-⟩
 ·rw[aBL] at e; subst e; rfl
 ·rw[aBL] at e; subst e; rfl
abbrev YK (ws:List (List Bool)):PV:=.sl 1 (ws.map fun w=>[kK w])
theorem oI.co {y:List (List PV)} {ws:List (List Bool)} (h:oI y ws):Co (.sl 1 y) (YK ws):=by
 have x:∀ (i:Nat) r t,y[i]?=some r→(ws.map fun w=>[kK w])[i]?=some t→∃ w,t=[kK w]∧(r=[kK w]∨(r=[.aA]∧w=[])):=fun i r t u e=>by
  rw[aAT] at e;cases B:ws[i]? with
  | none=>rw[B] at e; cases e
  | some w =>rw[B] at e;cases e;exact⟨w,rfl,h.2 i r w u B⟩
 refine .sl (by rw[aAA,h.1]) (fun i r t u e=>?_) (fun i j p q l hq=>?_)
 ·obtain⟨w,rfl,A | ⟨A,-⟩⟩:=x i r t u e<;>subst A<;>rfl
 ·unfold at2 at l hq;cases u:y[i]? with
  | none=>rw[u] at l; cases l
  | some r =>
   cases e:(ws.map fun w=>[kK w])[i]? with
   | none=>rw[e] at hq; cases hq
   | some t =>
    rw[u] at l;rw[e] at hq;obtain⟨w,rfl,A⟩:=x i r t u e;rcases A with rfl | ⟨rfl,rfl⟩
    ·have:some p=some q:=l.symm.trans hq;cases this;exact .refl _
    ·cases j with
     | zero=>cases l; cases hq; exact .nil 1
     | succ j=>cases l
abbrev fL.cells (c:fL):List PV:=[kK c.vols,YK c.ayW,kK c.azG]
theorem EN (l:List Bool):Flat (bD l):=Flat.map l fun x c e q s rs=>by rw[aBL] at e; subst e; rfl
theorem Gi {res:List dT} {F:PF} {H:PH} {y u w:PV} {V R:List Bool} {A:List (List PV)} {ws:List (List Bool)} {b:Bool} {e:kC} (he:e=.normal∨e=.ret) (h:dT.evs F H res=some [.agg [y,u,w],.bool b])
  (B:oI A ws) (N:aK H [] [(y,1,bD V),(u,1,A),(w,1,bD R)]):aT res (cL (.tup [.agg (fL.cells ⟨V,ws,R⟩),.bool b])) e F H:=by
 obtain⟨φ,S,k1,-,-,O⟩:=aK.Ti _ N (fun x I=>by
  simp only[aAK,aAY,or_false] at I;rcases I with rfl | rfl | rfl
  ·exact EN V
  ·exact B.flat
  ·exact EN R) (fun b hb=>by cases hb)
 refine oR he h ?_;refine O [y,u,w] b _ (.done (H2:=.nil) ⟨?_,rfl⟩ a_);have J:=(k1 (y,1,bD V) (by simp)).co;have K:Co (φ u) (YK ws):=by
  rcases k1 (u,1,A) (by simp) with ⟨E,h2⟩ | h2
  ·simp only at E h2;rw[h2];have:ws=[]:=List.length_eq_zero_iff.1 (by rw[← B.1,E]; rfl);subst this;exact .nil 1
  ·simp only at h2;rw[h2]; exact B.co
 have M:=(k1 (w,1,bD R) (by simp)).co;refine .tup rfl fun j p q l hq=>?_
 match j with
 | 0 =>
  cases l; cases hq;refine .agg rfl fun j p q l hq=>?_
  match j with
  | 0=>cases l; cases hq; exact J
  | 1=>cases l; cases hq; exact K
  | 2=>cases l; cases hq; exact M
  | j+3=>cases l
 | 1=>cases l; cases hq; exact .refl _
 | j+2=>cases l
def vy:fL:=⟨[],[],[]⟩
def uh (f:aC) (room:List Int) (c:fL) (b:Bool):Prop :=
 (cV f=false∧c=vy∧b=false)∨(cV f=true∧mK f room∧c=vy∧b=false)∨(cV f=true∧¬ mK f room∧pG f room c=true∧b=true)
def aaV (f:aC) (room:List Int) (r:PV) (H:PH):Prop:=∃ c b,uh f room c b∧cL (.tup [.agg c.cells,.bool b]) r H
def aoU (f:aC) (room:List Int) (r:PV) (H:PH):Prop:=∃ c b,uh f room c b∧r=.tup [.agg c.cells,.bool b]∧H=PH.nil
theorem aG.why {C:Ctx} {name:Nat} {args:List PV} {f:aC} {room:List Int} (h:aG C name args .nil (aaV f room)):aG C name args .nil (aoU f room) :=
 h.post fun r H' ⟨ws,c,e,j,l⟩=>⟨_,j,ws,c,e,rfl,l⟩
theorem ahV {res:List dT} {f:aC} {room:List Int} {c:fL} {b:Bool} {e:kC} {F:PF} {H:PH} (j:uh f room c b) (h:aT res (cL (.tup [.agg c.cells,.bool b])) e F H):aT res (aaV f room) e F H :=
 q9 (fun r H' l=>⟨c,b,j,l⟩) h
abbrev gJ (l e j:PV):bF:=.rows 3 [[l,e,j]]
def BF (f:aC) (S:Nat→Bool) (k:Nat):List Bool:=(aAB k).map fun v=>S (cO f v 0)
def sR (f:aC) (S:Nat→Bool) (v k:Nat):List Bool:=(aAB k).map fun i=>S (cO f v (i+1))
def PL (f:aC) (S:Nat→Bool) (k:Nat):List (List Bool):=(aAB k).map fun v=>sR f S v (f.ayP.length-1)
def KP (f:aC) (S:Nat→Bool) (k:Nat):List Bool:=(aAB k).map fun d=>S (bG f d)
theorem nK {α:Type} (g:Nat→α) (k:Nat):(aAB (k+1)).map g=(aAB k).map g++[g k]:=by rw[aCS,aBO]; rfl
theorem EO (l:List Bool) (b:Bool):bD l++[[.bool b]]=bD (l++[b]):=by simp[bD]
theorem abJ (f:aC) (S:Nat→Bool):uZ f S=⟨BF f S f.ayO.length,PL f S f.ayO.length,KP f S f.ayM.length⟩:=rfl
theorem XK {S:Nat→Bool} {N i:Nat} (h:i<N):(bD ((aAB N).map S))[i]?=some [.bool (S i)]:=by
 rw[lO (by simp[h])];rw[aAL,aAT,aCV h]; rfl
def ug (v:PV):Prop:=∀ (E e:Env) (u:Value),aR E v u→aR e v u
theorem ug.pair (n:Int) (b:Bool):ug (.tup [.int .i64 n,.bool b]):=fun E y u h=>by
 cases h with
 | tup vs l w =>
  refine .tup vs l fun j p v e x=>?_;have:=w j p v e x
  match j with
  | 0=>cases e; cases this; exact .int _ _
  | 1=>cases e; cases this; exact .bool _
  | j+2=>cases e
theorem aG.asX {C:Ctx} {name o s:Nat} {rs:List (List PV)} {args:List PV} {v:PV} (V:ug v) (h:aG C name (args.map (PV.frz o s rs)) .nil (aM v)) :
  aG C name args (PH.nil.set o (.rows s rs)) (fun r H'=>r=v∧H'=PH.nil.set o (.rows s rs)):=by
 refine⟨h.1,fun E w vs M hW F=>?_⟩;have W:iU (PF.args args) (PH.nil.set o (.rows s rs)) _ _:=.step o (s:=s) (rs:=rs) (by simp only[aQ,if_true]) (.refl _ _);obtain⟨J,k1,k2,X⟩:=W.sound hW;rw[ii] at k1 k2;have B:=F.len;have I:eO J (args.map (PV.frz o s rs)) vs.toList:=by
  refine eO.of _ _ (by rw[aAA]; exact B) fun i p u R U=>?_;have:=X (fun i=>(vs.toList[i]?).getD undef) (fun j q K=>by have O:=(aBD.1 K).1;have A:j<vs.toList.length:=Om;simp only[aAH A,aCU];exact F.at_ j q _ K (aAH A)) i p (by rw[kF,args_at,← aAT]; exact R)
  simp only[U,aCU] at this;exact this
 refine (h.2 J w vs (k2.env.num.trans M) k1 I).mono fun e Y he=>?_;obtain⟨u,pv,Z,H2,rfl,N,S,y,rfl,rfl⟩:=he;have l:∀ b,b<w.heap.size→Y.heap[b]?=w.heap[b]?:=fun b hb=>y.block b hb rfl;exact⟨u,pv,E,_,rfl,hW.same y.size (fun b hb _=>l b hb) (fun q x hq=>l q (hW.h q x hq).1),V _ _ _ S,⟨.refl E,y.os,y.tape,y.output,y.size,fun b hb _=>l b hb,fun q x hq=>.inl ⟨x,hq⟩,fun b cs hb=>.inl hb⟩,rfl,rfl⟩
def apC (name:Nat) (v:PV):Spec:=fun e vs=>if e=name then match vs with
 | [_,.osl o _ _ _]=>some ([o],fun G r H'=>r=v∧H'=G)
 | _=>none
 else none
def DN (f:aC) (room:List Int) (c:fL):Bool:=cV f&&pG f room c
def Va (f:aC) (c:fL) (k:Nat):Prop:=∀ r∈c.ayW.take k,r.length=f.ayP.length-1
theorem Zm {f:aC} {c:fL} {k:Nat} (h:Va f c k):(c.ayW.take k).flatten.length≤k*(f.ayP.length-1):=by
 rw[wA h];exact aBC _ (by rw[aAN]; omega)
theorem agJ {f:aC} {c:fL} {k:Nat} (e:k<c.ayW.length) (h:c.ayW[k].length≠f.ayP.length-1):c.shape f=false:=by
 cases j:c.shape f with
 | false=>rfl
 | true=>exact absurd ((AU.1 j).r _ (aAG e)) h
def abE (f:aC) (c:fL) (o7:Nat) (v:PV) (k:Nat):PF:=(((((((PF.nil.set 3 (.dH f.cells)).set 5 (.dH c.cells)).set 7 (.ptr o7 4 0 0)).set 9 (v)).set 54 (YK c.ayW)).set 55 (.int .i64 (c.ayW.length:Nat))).set 56 (.int .i64 (k:Nat)))
theorem ajW {C:Ctx} (Lb:KC C) (I:∀ (n:cB) (cut:List Bool),fN n→R2 n cut→aG C 293 [.agg n.cells,kK cut] .nil (aM (.tup [.int .i64 ((dA (fun w=>cut.getD w false) n.arcs:Nat):Int),.bool true])))
  (f:aC) (hf:f.Ok) (room:List Int) (c:fL) (hc:c.vols.length≤1000000∧c.ayW.length≤1000000∧c.azG.length≤1000000) :
  KV.wp C (aT abV.res (aM (.bool (DN f room c)))) (PF.args [.agg f.cells,ints room,.agg c.cells]) .nil:=by
 have B:DN f room c=(cV f&&(c.shape f&&decide (dA (EP c) (fK f room)<oV f))):=rfl;obtain⟨δ,ε,ζ⟩:=hc;simp only[go_sem,KV,Ld,abV,Le];refine aB (Lb.net f room hf) rfl ?_;simp only[go_sem,WJ];refine aP fun q hq=>?_;have h1:aK (PH.nil.set q kS) [(q,kS)] []:=aK.nil.new hq kS;generalize (PH.nil.set q kS)=H1 at *
 have q1:=h1.at 0 rfl;have h2:=h1.set 0 rfl (pA (CG f room));simp only[go_sem,q1];generalize H1.set q (.rows 4 [(CG f room).cells])=H2 at *
 cases A:cV f with
 | false =>simp only[go_sem,yH,QG A,DP];exact nS (b:=false) rfl (by rw[B,A]; rfl)
 | true =>
  have hV:=VF.of A;have hs:=hV.small;have hr:=hV.root;have θ:=hs.ayP;have ι:=hs.ayM;have κ:=hs.ayO;have hn:=MP hV room;rw[QI A] at h2;rw[A,aBB] at B;by_cases c1:c.vols.length=f.ayO.length
  ·by_cases c2:c.ayW.length=f.ayO.length
   ·by_cases c3:c.azG.length=f.ayM.length
    ·simp only[go_sem,yH,uJ A,fL.cells,aAA,cM (Om:(c.vols.length:Int)=(f.ayO.length:Nat)),cM (Om:(c.ayW.length:Int)=(f.ayO.length:Nat)),cM (Om:(c.azG.length:Int)=(f.ayM.length:Nat)),Lf];refine aP fun o ho=>?_;have h3:=h2.jm (s:=1) (rows:=[[.bool true],[.bool false]]) ho;generalize H2.set o (.rows 1 [[.bool true],[.bool false]])=H3 at *
     simp only[go_sem];refine h3.append 0 (src:=bD c.vols) rfl rfl (by unfold roomFor; rw[iW]; simp only[aBV,aCL,maxLen]; omega) fun v4 H4 h4 _=>?_;simp only[go_sem,Lg,aAA];refine wp_loop (α:=Nat × PV × PH) (fun s=>abE f c q s.2.1 s.1) (fun s=>s.2.2) (fun s=>s.1≤c.ayW.length∧Va f c s.1∧aK s.2.2 [(q,pA (dY f room))] [(s.2.1,1,bD (true::false::(c.vols++(c.ayW.take s.1).flatten)))]) (fun s=>c.ayW.length-s.1) (0,v4,H4) ⟨aAP _,fun r h=>by simp at h,by simpa using h4⟩ (by unfold abE; (repeat' (first|exact c_|refine d_ ?_ ?_))<;>first|(simp only[go_sem,aAA,fL.cells]<;>rfl)|rfl) b_ ?_;rintro⟨k,v,H5⟩ ⟨hk,y,F⟩;simp only at hk y F;have Y:=Zm y;have η:k*(f.ayP.length-1)≤12*40:=aDJ Om Om;simp only[go_sem,wk,Lh,abE];by_cases hlt:k<c.ayW.length
     ·have l:(k:Int)<(c.ayW.length:Nat):=Om;have β:=wZz k;have W:(c.ayW.map fun w=>[kK w])[k]?=some [kK c.ayW[k]]:=by simp[hlt]
      have hw:IntKind.i64.wrap ((f.ayP.length:Int)-1)=((f.ayP.length-1:Nat):Int):=by rw[wrap_i64 Om Om]; omega
      have J:c.ayW.take (k+1)=c.ayW.take k++[c.ayW[k]]:=aCM hlt;have γ:=agJ (f:=f) hlt;generalize c.ayW[k]=row at *
      simp only[go_sem,l,Li,W,Lj,aAA,hw];by_cases cr:row.length=f.ayP.length-1
      ·simp only[go_sem,cM (Om:(row.length:Int)=((f.ayP.length-1:Nat):Int)),wm];refine F.append 0 (src:=bD row) rfl rfl (by unfold roomFor; rw[iW,iW]; simp only[aBV,aAE,maxLen]; omega) fun v' H' S _=>?_;simp only[go_sem,wn,β];refine aL (k+1,v',H') ⟨hlt,?_,?_⟩ (by simp only; omega) Lq b_
       ·intro r hr;simp only at hr;rw[J] at hr;rcases aBH.1 hr with hr | hr
        ·exact y r hr
        ·rw[aBL] at hr; subst hr; exact cr
       ·simp only;have O:bD (true::false::(c.vols++(c.ayW.take (k+1)).flatten))=bD (true::false::(c.vols++(c.ayW.take k).flatten))++bD row:=by rw[J];simp[bD]
        show aK H' _ [(v',1,bD (true::false::(c.vols++(c.ayW.take (k+1)).flatten)))];rw[O];exact S
      ·simp only[go_sem,dP (Om:¬ (row.length:Int)=((f.ayP.length-1:Nat):Int)),Lk];exact nS (b:=false) rfl (by rw[B,γ cr]; rfl)
     ·have l:¬ (k:Int)<(c.ayW.length:Nat):=Om;have Z:k=c.ayW.length:=Om;subst Z;have e:Shape f c:=⟨c1,c2,c3,by have:=y; unfold Va at this; rwa [aBT] at this⟩;rw[aBT] at F Y;have E:H5 q=some (pA (dY f room)):=F.at 0 rfl;have j:nG c=true::false::(c.vols++(c.ayW.flatten++c.azG)):=rfl;have U:R2 (dY f room) (nG c):=⟨abI hV e,rfl,rfl⟩;have X:=I (dY f room) (nG c) hn U;simp only[go_sem,l];refine bN (PH.nil.set q (pA (dY f room))) (apC 293 (.tup [.int .i64 ((dA (fun w=>(nG c).getD w false) (dY f room).arcs:Nat):Int),.bool true])) (e_ a_ E) ?_;simp only[go_sem,wq,E];refine F.append 0 (src:=bD c.azG) rfl rfl (by unfold roomFor; rw[iW,iW]; simp only[aBV,aAE,maxLen]; omega) fun v' H' S _=>?_;have O:bD (true::false::(c.vols++c.ayW.flatten))++bD c.azG=bD (nG c):=by rw[j];simp[bD]
      have u:aK H' [(q,pA (dY f room))] [(v',1,bD (nG c))]:=by rw[← O]; exact S
      obtain⟨p,rfl⟩:=(u.own 0 rfl).one (by rw[iW,j]; simp);obtain⟨rs,r1,r2,r3,r4⟩:=(u.own 0 rfl).id rfl;refine⟨e_ a_ (u.at 0 rfl),?_⟩;refine ER (o:=p) (x:=.rows 1 rs) (v:=.tup [.int .i64 ((dA (fun w=>(nG c).getD w false) (dY f room).arcs:Nat):Int),.bool true]) (vs:=[.agg (dY f room).cells,.osl p 1 0 (bD (nG c)).length]) (R:=fun G r H'=>r=(.tup [.int .i64 ((dA (fun w=>(nG c).getD w false) (dY f room).arcs:Nat):Int),.bool true])∧H'=G) (by unfold apC; rw[if_pos rfl]) r1 (aG.asX (ug.pair _ _) ?_) ⟨rfl,rfl⟩ (fun r H' h=>h) rfl (e_ a_ (u.at 0 rfl)) ?_
      ·have e3:([.agg (dY f room).cells,.osl p 1 0 (bD (nG c)).length]:List PV).map (PV.frz p 1 rs)=[.agg (dY f room).cells,kK (nG c)]:=by show [PV.agg _,PV.frz p 1 rs (.osl p 1 0 (bD (nG c)).length)]=_;rw[rT r3,r4]; rfl
       rw[e3];exact X
      ·rw[AU.2 e,aBB] at B;have V:DN f room c=decide (((dA (fun w=>(nG c).getD w false) (dY f room).arcs:Nat):Int)<((oV f:Nat):Int)):=by rw[B];exact decide_eq_decide.2 ⟨fun h=>Int.ofNat_lt.2 h,fun h=>Int.ofNat_lt.1 h⟩
       generalize dA (fun w=>(nG c).getD w false) (dY f room).arcs=cp at *
       simp only[go_sem,wr];refine aB (Lb.demand f hV) rfl ?_;simp only[go_sem];exact nS rfl V.symm
    ·have N:¬ (c.azG.length:Int)=(f.ayM.length:Nat):=Om;simp only[go_sem,yH,uJ A,fL.cells,aAA,cM (Om:(c.vols.length:Int)=(f.ayO.length:Nat)),cM (Om:(c.ayW.length:Int)=(f.ayO.length:Nat)),dP N,DP];exact nS (b:=false) rfl (by rw[B,fL.shape,decide_eq_false c3]; simp)
   ·have M:¬ (c.ayW.length:Int)=(f.ayO.length:Nat):=Om;simp only[go_sem,yH,uJ A,fL.cells,aAA,cM (Om:(c.vols.length:Int)=(f.ayO.length:Nat)),dP M,DP];exact nS (b:=false) rfl (by rw[B,fL.shape,decide_eq_false c2]; simp)
  ·have K:¬ (c.vols.length:Int)=(f.ayO.length:Nat):=Om;simp only[go_sem,yH,uJ A,fL.cells,aAA,dP K,DP];exact nS (b:=false) rfl (by rw[B,fL.shape,decide_eq_false c1]; simp)
theorem dp:eR.ayO.length=1∧eR.ayM.length=1:=by decide +kernel
theorem Vg:qY eR [[0]]:=⟨by decide +kernel,by decide +kernel,by decide +kernel⟩
theorem dj:mK eR []:=(abY jN).2 ⟨_,Vg,J9⟩
theorem dl:¬ mK eR [0]:=by
 rintro⟨u,A⟩;obtain⟨j,l⟩:=dp;have e:(0:Nat)<eR.ayO.length:=Om;have w:(0:Nat)<eR.ayM.length:=Om;have a1:=A.num 0 e;have a2:=A.room 0 w;have a3:=(mY (VF.of jN) e).2.1;have a4:tM eR [0] 0=0:=by decide +kernel
 rw[l] at a1;rw[j,a4] at a2;have x:eT (u 0) 1=one (u 0 0):=by simp[eT,cH]
 have y:eT (fun v=>u v 0) 1=one (u 0 0):=by simp[eT,cH]
 omega
theorem Zw {u:Nat→Nat→Bool} (A:sG eR [] u):rG eR u=[[0]]:=by
 obtain⟨w,e⟩:=dp;have j:(0:Nat)<eR.ayO.length:=Om;have a1:=A.num 0 j;have a3:=(mY (VF.of jN) j).2.1;rw[e] at a1;have l:eT (u 0) 1=one (u 0 0):=by simp[eT,cH]
 have x:u 0 0=true:=by
  cases h:u 0 0 with
  | true=>rfl
  | false=>rw[l,h,vK] at a1; omega
 unfold rG nN;rw[w,e];simp[x,iH,aCS]
theorem Ka {ws:List (List Int)} {c:Int} (h:tW eR [] ws c):ws=[[0]]∧c=0:=by
 rcases h with ⟨h,-⟩ | ⟨-,⟨u,A,rfl⟩,rfl⟩ | ⟨-,h,-⟩
 ·rw[jN] at h; cases h
 ·exact⟨Zw A,rfl⟩
 ·exact absurd dj h
theorem Vh {ws:List (List Int)} {c:Int} (h:tW eR [0] ws c):ws=[]∧c=12:=by
 rcases h with ⟨h,-⟩ | ⟨-,⟨u,A,-⟩,-⟩ | ⟨-,-,h⟩
 ·rw[jN] at h; cases h
 ·exact absurd ⟨u,A⟩ dl
 ·exact h
def tX (c:fL):Prop:=c.vols.length≤1000000∧c.ayW.length≤1000000∧c.azG.length≤1000000
theorem tX.of {f:aC} (hV:VF f) {c:fL} (h:Shape f c):tX c:=by
 have e:=h.v;have j:=h.i;have l:=h.d;have u:=hV.small.ayO;have h5:=hV.small.ayM;unfold tX;omega
theorem Jl {f:aC} {room:List Int} {c:fL} (h:pG f room c=true):Shape f c:=by
 unfold pG at h;rw[aAO] at h;exact AU.1 h.1
theorem Zx {c:fL} {b:Bool} (h:uh eR [0] c b):b=true∧pG eR [0] c=true∧pG eR [] c=false∧tX c:=by
 have hV:=VF.of jN;rcases h with ⟨h,-⟩ | ⟨-,h,-⟩ | ⟨-,-,h,rfl⟩
 ·rw[jN] at h; cases h
 ·exact absurd h dl
 ·refine⟨rfl,h,?_,.of hV (Jl h)⟩;cases e:pG eR [] c with
  | false=>rfl
  | true=>exact absurd dj (check_sound hV e)
structure Wb (C:Ctx):Prop where
 fleet:∀ (l:List Nat),(∀ x∈l,x<256)→l.length≤9223372036854775807→∀ ayM ayO:Nat,ayM≤60→ayO≤50 →
  aG C 27 [.sl 1 (fQ l),.int .i64 ayM,.int .i64 ayO] .nil (aM (.agg (gW (l.take 400) ayM ayO 0).1.cells))
 place:∀ (f:aC) (room:List Int),f.Ok→aG C 288 [.agg f.cells,ints room] .nil (va f room)
 why:∀ (f:aC) (room:List Int),f.Ok→aG C 289 [.agg f.cells,ints room] .nil (aoU f room)
 chk:∀ (f:aC) (room:List Int) (c:fL),f.Ok→tX c→aG C 290 [.agg f.cells,ints room,.agg c.cells] .nil (aM (.bool (DN f room c)))
theorem aaP {C:Ctx} (L:Wb C):DI.wp C (aT Je.res (aM (.bool true))) (PF.args []) .nil:=by
 have h:=L.fleet [] (fun x I=>by cases I) (by decide) 1 0 (by decide) (by decide);have J:=(L.place eR [] rZ).args (args:=[.agg eR.cells,.aA]) (.uY (.refl _) (.uY (.nil 1) .Uq));have K:=L.place eR [0] rZ;have M:=L.why eR [0] rZ;simp only[go_sem,DI,tb,tc,Je];refine aB (h.args (.uY (.nil 1) (.uY (.refl _) (.uY (.refl _) .Uq)))) rfl ?_;simp only[go_sem];refine aP fun o V=>?_;simp only[go_sem,td,aAK,aAY,or_false,forall_eq];show wpOps C OX _ _ (PH.nil.set o (.rows 7 [eR.cells]));have u:(PH.nil.set o (.rows 7 [eR.cells])) o=some (.rows 7 [eR.cells]):=by rw[cG]
 generalize U:(PH.nil.set o (.rows 7 [eR.cells]))=S at *
 have F:=rZ;have w:=jN;have N:=fun ws c h=>Ka (ws:=ws) (c:=c) h;have O:=fun ws c h=>Vh (ws:=ws) (c:=c) h;have R:=fun c b h=>Zx (c:=c) (b:=b) h;have B:=fun c=>L.chk eR [0] c rZ;have E:=fun c (h:tX c)=>(L.chk eR [] c rZ h).args (args:=[.agg eR.cells,.aA,.agg c.cells]) (.uY (.refl _) (.uY (.nil 1) (.uY (.refl _) .Uq)));generalize eR=f at *
 simp only[go_sem,OX,u];refine dS J rfl a_ ?_;rintro r H' ⟨ws,c,A,rfl,rfl⟩ -;rw[PH.jK];obtain⟨rfl,rfl⟩:=N _ _ A;simp only[go_sem,te,u];refine dS K rfl a_ ?_;rintro r H' ⟨ws,c,A,rfl,rfl⟩ -;rw[PH.jK];obtain⟨rfl,rfl⟩:=O _ _ A;simp only[go_sem,tf,u];refine dS M rfl a_ ?_;rintro r H' ⟨ct,b,A,rfl,rfl⟩ -;rw[PH.jK];obtain⟨rfl,g1,g2,g3⟩:=R _ _ A;have k1:=B ct g3;have k2:=E ct g3;rw[DN,w,aBB,g1] at k1;rw[DN,w,aBB,g2] at k2;simp only[go_sem];refine aP fun o2 y=>?_;have l:¬ o=o2:=fun e=>by rw[← e,u] at y; cases y
 have j:¬ o2=o:=fun e=>l e.symm;simp only[go_sem,tg,u,l,j,bO (show (0:Int)=0 from rfl),bO (show (12:Int)=12 from rfl),bO (show ((1:Nat):Int)=1 from rfl),aAA,aBV,aCL];refine aB k1 rfl ?_;simp only[go_sem,u,l,j];refine aB k2 rfl ?_;simp only[go_sem];refine cD (.inr rfl) rfl ?_;rfl




structure Wc (C:Ctx):Prop where
 new:∀ (l:List Nat),(∀ x∈l,x<256)→l.length≤9223372036854775807→aG C 28 [.sl 1 (fQ l)] .nil (gm l)
 tfleet:∀ (l:List Nat) (v:PV),Tp l v→∀ (o ayM ayO a:Nat),ayM≤60→ayO≤50→a≤l.length →
  aG C 0 [.ptr o 2 0 0,.int .i64 ayM,.int .i64 ayO] (PH.nil.set o (aS v a)) (fun r H=>r=.agg (gW l ayM ayO a).1.cells∧H=PH.nil.set o (aS v (gW l ayM ayO a).2))
 QQ:∀ (l:List Nat) (v:PV),Tp l v→∀ (o a:Nat) (f:aC),f.ayM.length≤1000→a≤l.length→aG C 6 [.ptr o 2 0 0,.agg f.cells] (PH.nil.set o (aS v a)) (fun r H=>r=ints (qE l f a).1∧H=PH.nil.set o (aS v (qE l f a).2))
theorem aK.atC {C:Ctx} {F:PF} {H:PH} {B:List BX} {L:List LI} {args:List aN} {d:Option Nat} {K:PF→PH→Prop} (h:aK H B L) {l:List Nat} (w:aG C 28 [.sl 1 (fQ l)] .nil (gm l)) (j:aN.evs F args=some [.sl 1 (fQ l)]) (u:∀ o v H',Tp (l.take 400) v→aK H' (B++[(o,aS v 0)]) L→K (F.put d (.ptr o 2 0 0)) H'):fU C 28 args [] d K F H:=by
 refine dS w j a_ ?_;rintro r H' ⟨o,v,rfl,T,rfl⟩ e;rw[PH.nL];exact u o v _ T (h.new (e o (aS v 0) (by rw[cG]) rfl) _)
theorem de {f:aC} {room:List Int} {ws:List (List Int)} {c:Int} (h:tW f room ws c) (e:mK f room) (j:cV f=true):c=0:=by
 rcases h with ⟨a,-⟩ | ⟨-,-,rfl⟩ | ⟨-,b,-⟩
 ·rw[j] at a; cases a
 ·rfl
 ·exact absurd e b
theorem Jh {f:aC} {r G:List Int} (h:mK f r) (j:r.length=f.ayM.length) (l:G.length=r.length) (e:∀ d,d<r.length→r.getD d 0≤G.getD d 0):mK f G:=W7 h fun d u=>by
 have:=e d Om;unfold mD;rw[if_pos j,if_pos Om];omega
def jZ (r:List Int) (m:List Nat) (d:Nat):Int:=r.getD d 0+(if d<m.length then ((m.getD d 0%3:Nat):Int) else 0)
def kA (r:List Int) (m:List Nat) (k:Nat):List Int:=(aAB k).map (jZ r m)
theorem QU (r:List Int) (m:List Nat) (k:Nat):(kA r m k).length=k:=by simp[kA]
theorem Se (r:List Int) (m:List Nat) {d:Nat} (h:d<r.length):r.getD d 0≤(kA r m r.length).getD d 0:=by
 have e:(kA r m r.length).getD d 0=jZ r m d:=by unfold kA;rw[aAL,aAT,aCV h]; rfl
 rw[e];unfold jZ;split<;>omega
theorem akG {f:aC} (K:f.Ok) (R:cV f=true) (lev:Nat):(xA f lev).Ok:=by
 have V:=(VF.of R).small.ayN;obtain⟨a1,a2,a3,a4,a5,a6,a7,a8,y,e,l⟩:=K;refine⟨a1,a2,a3,a4,?_,a6,a7,a8,y,fun x w=>?_,l⟩
 ·show Fits (f.ayQ.map _);unfold Fits;rw[aAA];exact a5
 ·have w:x∈f.ayQ.map (pU f.ayN.length lev):=w;obtain⟨p,O,rfl⟩:=aAW.1 w;obtain⟨A,B,E,S,U,F,I,J⟩:=e p O;have N:(iH (aAB f.ayN.length)).length=f.ayN.length:=by simp[iH]
  refine⟨A,B,E,?_,fun m u=>?_,F,I,J⟩
  ·show Fits (iH (aAB f.ayN.length));unfold Fits;rw[N];omega
  ·have u:m∈iH (aAB f.ayN.length):=u;obtain⟨j,M,rfl⟩:=aAW.1 u;have:=aAU.1 M;unfold dO;omega
def kB (p:cC) (lev:Nat) (v:PV):List PV:=(p.cells.set (4+lev) (.int .i64 0)).set 9 v
theorem Xh (n lev:Nat) (e:1≤lev) (j:lev≤4) (p:cC):kB p lev (ints (iH (aAB n)))=(pU n lev p).cells:=by
 have:lev=1∨lev=2∨lev=3∨lev=4:=Om;rcases this with rfl | rfl | rfl | rfl<;>rfl
def jC (ps:List cC) (n lev i:Nat):List (List PV):=(ps.take i).map (fun p=>(pU n lev p).cells)++(ps.drop i).map cC.cells
theorem F8 (ps:List cC) (n lev:Nat):jC ps n lev 0=ps.map cC.cells:=by simp[jC]
theorem J4 (ps:List cC) (n lev:Nat):jC ps n lev ps.length=(ps.map (pU n lev)).map cC.cells:=by simp[jC]
theorem SJ (ps:List cC) (n lev:Nat) {i:Nat} (h:i≤ps.length):(jC ps n lev i).length=ps.length:=by
 unfold jC;rw[aAE,aAA,aAA,aAN,aBR];omega
theorem U4 {ps:List cC} {n lev i:Nat} (h:i<ps.length):(jC ps n lev i)[i]?=some (ps[i]).cells:=by
 unfold jC;rw[aBY (by rw[aAA,aAN]; omega),aAA,aAN,aCF Om,Nat.sub_self,aAT,aDO,aBP,aAH h]; rfl
theorem J5 {ps:List cC} {n lev i:Nat} (h:i<ps.length):(jC ps n lev i).set i (pU n lev ps[i]).cells=jC ps n lev (i+1):=by
 unfold jC;rw[aDQ _ _ (by rw[aAA,aAN]; omega),aAA,aAN,aCF Om,Nat.sub_self];rw[aCK h,aBG,aDX,aCM h,aBO,aBE]; rfl
theorem S7 (f:aC) (lev:Nat):(xA f lev).cells=[.int .i64 f.azS,.sl 4 (f.ayU.map cT.cells),.sl 4 (f.ayN.map dD.cells),.sl 7 (f.ayP.map cP.cells),.sl 3 (f.ayM.map cZ.cells),.sl 17 (jC f.ayQ f.ayN.length lev f.ayQ.length),.sl 2 (f.ayO.map gI.cells)]:=by
 rw[J4]; rfl
structure EH (C:Ctx):Prop extends Wc C where
 awake:aG C 312 [] .nil (aM (.bool true))
 place:∀ (f:aC) (room:List Int),f.Ok→aG C 288 [.agg f.cells,ints room] .nil (va f room)
 roomM:∀ (f:aC) (room:List Int),f.Ok→aG C 152 [.agg f.cells,ints room] .nil (mN 1 (bT (QO f room)))
theorem TC {C:Ctx} {F:PF} {H:PH} {name o s:Nat} {rs:List (List PV)} {vs:List PV} {R:PV→PH→Prop} {args:List aN} {d:Option Nat} {K:PF→PH→Prop} (h:aG C name vs .nil R) (l:H o=some (.rows s rs))
  (j:aN.evs (F.frz o s rs) args=some vs) (e:∀ r H',R r H'→kJ (H.frz o s rs) .nil H'→K ((F.frz o s rs).put d r) ((H.frz o s rs).over .nil H')):fU C name args [] d K F H:=by
 refine .inr ⟨_,_,.step o l (.refl _ _),vs,.nil,R,?_,a_,h,e⟩;rw[j]; simp
def zgF (m:List Nat) (lev:Nat) (q:Nat) (room:List Int) (c:Int) (w:PV) (d:Nat):PF:=(((((((PF.nil.set 1 (.sl 1 (fQ m))).set 2 (.int .u8 (lev:Nat))).set 8 (.ptr q 7 0 0)).set 9 (ints room)).set 11 (.int .i64 c)).set 12 (w)).set 13 (.int .i64 (d:Nat)))
theorem Kh {C:Ctx} {K:cK} [Up K] (m:List Nat) (hb:∀ x∈m,x<256) (lev q:Nat) (room:List Int) (hr:room.length≤1000) (U:∀ d,d<room.length→0≤room.getD d 0∧room.getD d 0≤1000) (c:Int) {F:PF} {H:PH} {B:List BX}
  (u:aK H B [(.aA,1,[])]) (Y:(zgF m lev q room c .aA 0).le F)
  (Z:∀ w H',aK H' B [(w,1,bT (kA room m room.length))]→K (.exit 0) (zgF m lev q room c w room.length) H'):aE.wp C (.loop yA) K F H:=by
 refine wp_loop (α:=Nat × PV × PH) (fun s=>zgF m lev q room c s.2.1 s.1) (fun s=>s.2.2) (fun s=>s.1≤room.length∧aK s.2.2 B [(s.2.1,1,bT (kA room m s.1))]) (fun s=>room.length-s.1) (0,.aA,H) ⟨aAP _,u⟩ Y b_ ?_;rintro⟨d,w,X⟩ ⟨hd,u⟩;simp only at hd u;simp only[go_sem,yA,th,zgF,aAA];by_cases hlt:d<room.length
 ·have e:(d:Int)<(room.length:Nat):=Om;have E:=wZz d;obtain⟨r1,r2⟩:=U d hlt;have A:(room.map fun x=>[PV.int .i64 x])[d]?=some [.int .i64 (room.getD d 0)]:=by rw[aAT,aAH hlt,aAL,aAH hlt]; rfl
  have N:bT (kA room m d)++[[.int .i64 (jZ room m d)]]=bT (kA room m (d+1)):=by rw[show kA room m (d+1)=kA room m d++[jZ room m d] from nK _ _,sY]; rfl
  have I:=QU room m d;by_cases J:d<m.length
  ·have j:(d:Int)<(m.length:Nat):=Om;have O:jZ room m d=room.getD d 0+((m.getD d 0%3:Nat):Int):=by unfold jZ; rw[if_pos J]
   have S:=hb _ (aAG J);have M:m.getD d 0=m[d]:=by rw[aAL,aAH J]; rfl
   have R:(fQ m)[d]?=some [.int .u8 ((m.getD d 0:Nat):Int)]:=by unfold fQ;rw[aAT,aAH J,M]; rfl
   rw[← M] at S;generalize m.getD d 0=x at *
   have w1:IntKind.i64.wrap ((x:Nat):Int)=((x:Nat):Int):=wrap_i64 Om Om;have w2:Int.tmod ((x:Nat):Int) 3=((x%3:Nat):Int):=by rw[Int.tmod_eq_emod_of_nonneg Om]; omega
   have w3:IntKind.i64.wrap ((x%3:Nat):Int)=((x%3:Nat):Int):=wrap_i64 Om Om;have W:IntKind.i64.wrap (room.getD d 0+((x%3:Nat):Int))=jZ room m d:=by rw[O,wrap_i64 Om Om]
   have l:(fQ m).length=m.length:=by unfold fQ; rw[aAA]
   simp only[go_sem,e,PG,PI,l,j,ga,R,w1,w2,w3,JL,aAA,A,W];refine u.append 0 (src:=[[.int .i64 (jZ room m d)]]) rfl rfl (by unfold roomFor; rw[eU,I]; simp only[aAI,maxLen]; omega) fun V H' y _=>?_;rw[N] at y;simp only[go_sem,JM,E];exact aL (d+1,V,H') ⟨hlt,y⟩ (by simp only; omega) (by (repeat' (first|exact c_|refine d_ ?_ ?_))<;>first|(simp only[go_sem,zgF]<;>rfl)|rfl) b_
  ·have j:¬ (d:Int)<(m.length:Nat):=Om;have O:jZ room m d=room.getD d 0:=by unfold jZ; rw[if_neg J]; omega
   have W:IntKind.i64.wrap (room.getD d 0+0)=jZ room m d:=by rw[O,wrap_i64 Om Om]; omega
   have l:(fQ m).length=m.length:=by unfold fQ; rw[aAA]
   simp only[go_sem,e,PG,PI,l,j,JL,aAA,A,W];refine u.append 0 (src:=[[.int .i64 (jZ room m d)]]) rfl rfl (by unfold roomFor; rw[eU,I]; simp only[aAI,maxLen]; omega) fun V H' y _=>?_;rw[N] at y;simp only[go_sem,JM,E];exact aL (d+1,V,H') ⟨hlt,y⟩ (by simp only; omega) (by (repeat' (first|exact c_|refine d_ ?_ ?_))<;>first|(simp only[go_sem,zgF]<;>rfl)|rfl) b_
 ·have e:¬ (d:Int)<(room.length:Nat):=Om;have:d=room.length:=Om;subst this;simp only[go_sem,e];exact Up.up (by (repeat' (first|exact c_|refine d_ ?_ ?_))<;>first|(simp only[go_sem,zgF]<;>rfl)|rfl) (Z w X u)
abbrev zY (f:aC) (v:PV):bF:=.rows 7 [[.int .i64 f.azS,.sl 4 (f.ayU.map cT.cells),.sl 4 (f.ayN.map dD.cells),.sl 7 (f.ayP.map cP.cells),.sl 3 (f.ayM.map cZ.cells),v,.sl 2 (f.ayO.map gI.cells)]]
structure GO where
 q:Nat
 b:Nat
 p:Nat
def zhF (lev:Nat) (e:GO) (room:List Int) (c g:Int) (i:Nat):PF:=(((((((PF.nil.set 2 (.int .u8 (lev:Nat))).set 8 (.ptr e.q 7 0 0)).set 9 (ints room)).set 11 (.int .i64 c)).set 16 (.int .i64 g)).set 17 (.ptr e.b 7 0 0)).set 18 (.int .i64 (i:Nat)))
def zhG (lev:Nat) (e:GO) (room:List Int) (c g:Int) (i k:Nat):PF:=(zhF lev e room c g i).set 19 (.int .i64 (k:Nat))
abbrev zhB (f:aC) (e:GO) (rows:List (List PV)):List BX:=[(e.p,.rows 17 rows),(e.b,zY f (.osl e.p 17 0 f.ayQ.length)),(e.q,.rows 7 [f.cells])]
theorem t8 {C:Ctx} {K:cK} [Up K] (f:aC) (hV:VF f) (lev L:Nat) (e:GO) (room:List Int) (c g:Int) (i:Nat) (hi:i<f.ayQ.length) (R:List (List PV)) (hR:R.length=f.ayQ.length) (p:cC) {F:PF} {H:PH}
  (l:aK H (zhB f e (R.set i (kB p L .aA))) [(.aA,1,[])]) (hF:(zhG lev e room c g i 0).le F)
  (hK:∀ w H',aK H' (zhB f e (R.set i (kB p L w))) [(w,1,bT (iH (aAB f.ayN.length)))]→K (.exit 4) (zhF lev e room c g i) H'):aE.wp C (.loop JK) K F H:=by
 have hs:=hV.small;have δ:=hs.ayN;refine wp_loop (α:=Nat × PV × PH) (fun s=>zhG lev e room c g i s.1) (fun s=>s.2.2) (fun s=>s.1≤f.ayN.length∧aK s.2.2 (zhB f e (R.set i (kB p L s.2.1))) [(s.2.1,1,bT (iH (aAB s.1)))]) (fun s=>f.ayN.length-s.1) (0,.aA,H) ⟨aAP _,l⟩ hF b_ ?_;rintro⟨k,w,B⟩ ⟨hk,l⟩;simp only at hk l;have J:B e.q=some (.rows 7 [f.cells]):=l.at 2 rfl;have V:B e.b=some (zY f (.osl e.p 17 0 f.ayQ.length)):=l.at 1 rfl;have Y:B e.p=some (.rows 17 (R.set i (kB p L w))):=l.at 0 rfl;simp only[go_sem,JK,gg,zhG,zhF,J,aAA];by_cases hlt:k<f.ayN.length
 ·have j:(k:Int)<(f.ayN.length:Nat):=Om;have N:=wZz k;have M:(i:Int)<(f.ayQ.length:Nat):=Om;have u:(R.set i (kB p L w))[i]?=some (kB p L w):=List.getElem?_set_self Om;have U:bT (iH (aAB k))++[[.int .i64 (k:Nat)]]=bT (iH (aAB (k+1))):=by rw[aCS];unfold iH;rw[aBO,sY]; rfl
  have O:(iH (aAB k)).length=k:=by simp[iH]
  have y:∀ v,(kB p L v).length=17:=fun v=>by unfold kB;rw[aBW,aBW]; rfl
  have h9:∀ v,(if 10≤(kB p L v).length then some (List.take 1 (List.drop 9 (kB p L v))) else none)=some [v]:=fun v=>by
   have x:9<(kB p L v).length:=by rw[y]; decide
   rw[if_pos (show 10≤(kB p L v).length from x),aCK x,List.take_succ_cons,List.take_zero];have hg:(kB p L v)[9]?=some v:=by unfold kB;rw[List.getElem?_set_self (by rw[aBW]; exact (by decide:9<17))]
   rw[(aBD.1 hg).2]
  have S:∀ v v',(kB p L v).set 9 v'=kB p L v':=fun v v'=>by unfold kB;rw[List.set_set]
  simp only[go_sem,j];refine bN (PH.nil.set e.b (zY f (.osl e.p 17 0 f.ayQ.length))) dC (e_ a_ V) ?_;simp only[go_sem,gh,V,Y,M,aAX,u,h9];refine l.append 0 (src:=[[.int .i64 (k:Nat)]]) rfl rfl (by unfold roomFor; rw[eU,O]; simp only[aAI,maxLen]; omega) fun w' H1 E hw=>?_;obtain⟨X,A⟩:=hw (by simp);rw[U] at E;generalize γ:(bT (iH (aAB k))++[[PV.int .i64 ((k:Nat):Int)]]).length=W at A;subst A;refine⟨e_ a_ (E.at 1 rfl),?_⟩;refine bN .nil dC a_ ?_;have I:=E.at 0 rfl;have β:i<(R.set i (kB p L w)).length:=by rw[aBW]; omega
  simp only[go_sem,gi,I,aAX,u,S,List.set_set,y];refine⟨a_,?_⟩;have Z:=E.set 0 rfl (.rows 17 (R.set i (kB p L (.osl X 1 0 W))));simp only[go_sem,gj,N];exact aL (k+1,.osl X 1 0 W,_) ⟨hlt,Z⟩ (by simp only; omega) (by (repeat' (first|exact c_|refine d_ ?_ ?_))<;>first|(simp only[go_sem,zhG,zhF]<;>rfl)|rfl) b_
 ·have j:¬ (k:Int)<(f.ayN.length:Nat):=Om;have:k=f.ayN.length:=Om;subst this;simp only[go_sem,j];exact Up.up (by (repeat' (first|exact c_|refine d_ ?_ ?_))<;>first|(simp only[go_sem,zhG,zhF]<;>rfl)|rfl) (hK w B l)
theorem XB (p:cC):∀ c∈p.cells,∀ q s rs,PV.bP q s rs c=c:=fun c e q s rs=>by
 simp only[cC.cells,aAK,aAY,or_false] at e;rcases e with rfl | rfl | rfl | rfl | rfl | rfl | rfl | rfl | rfl | rfl | rfl | rfl | rfl | rfl | rfl | rfl | rfl<;>rfl
theorem F7 (ps:List cC) (n lev i:Nat):Flat (jC ps n lev i):=Flat.append (Flat.map _ fun x=>XB _) (Flat.map _ fun x=>XB _)
theorem acF (p:cC) (L:Nat) (v:PV) (q s:Nat) (rs:List (List PV)):(kB p L v).map (PV.bP q s rs)=kB p L (PV.bP q s rs v):=by
 have e:p.cells.map (PV.bP q s rs)=p.cells:=by
  conv=>rhs; rw[← List.map_id p.cells]
  exact aCC fun c j=>XB p c j q s rs
 unfold kB;rw[aDL,aDL,e]; rfl
theorem Ki {C:Ctx} {K:cK} [Up K] (f:aC) (hV:VF f) (Z:0<f.ayN.length) (lev:Nat) (hl:lev<256) (e:GO) (room:List Int) (c g:Int) {F:PF} {H:PH}
  (l:aK H (zhB f e (f.ayQ.map cC.cells)) []) (hF:(zhF lev e room c g 0).le F)
  (hK:∀ H',aK H' (zhB f e (jC f.ayQ f.ayN.length (1+lev%4) f.ayQ.length)) []→K (.exit 2) (zhF lev e room c g f.ayQ.length) H'):aE.wp C (.loop yB) K F H:=by
 have hs:=hV.small;have δ:=hs.ayN;have ε:=hs.ayQ;refine wp_loop (α:=Nat × PH) (fun s=>zhF lev e room c g s.1) (fun s=>s.2) (fun s=>s.1≤f.ayQ.length∧aK s.2 (zhB f e (jC f.ayQ f.ayN.length (1+lev%4) s.1)) []) (fun s=>f.ayQ.length-s.1) (0,H) ⟨aAP _,by simp only; rw[F8]; exact l⟩ hF b_ ?_;rintro⟨i,A⟩ ⟨hi,l⟩;simp only at hi l;have Y:A e.b=some (zY f (.osl e.p 17 0 f.ayQ.length)):=l.at 1 rfl;simp only[go_sem,yB,gb,zhF,Y];by_cases hlt:i<f.ayQ.length
 ·have j:(i:Int)<(f.ayQ.length:Nat):=Om;have V:=wZz i;have N:=SJ f.ayQ f.ayN.length (1+lev%4) hi;have J:=U4 (n:=f.ayN.length) (lev:=1+lev%4) hlt;have O:=J5 (n:=f.ayN.length) (lev:=1+lev%4) hlt;have ep:=l.at 0 rfl;have w1:IntKind.i64.wrap ((lev:Nat):Int)=((lev:Nat):Int):=wrap_i64 Om Om;have w2:Int.tmod ((lev:Nat):Int) 4=((lev%4:Nat):Int):=by rw[Int.tmod_eq_emod_of_nonneg Om]; omega
  have w3:IntKind.i64.wrap ((lev%4:Nat):Int)=((lev%4:Nat):Int):=wrap_i64 Om Om;have w4:IntKind.i64.wrap (1+((lev%4:Nat):Int))=((1+lev%4:Nat):Int):=by rw[wrap_i64 Om Om]; omega
  have w5:((1+lev%4:Nat):Int)<((5:Nat):Int):=Om;have u:=Xh f.ayN.length (1+lev%4) Om Om f.ayQ[i];have M:=F7 f.ayQ f.ayN.length (1+lev%4) i;generalize f.ayQ[i]=p at *
  generalize jC f.ayQ f.ayN.length (1+lev%4) i=R at *
  generalize hL:1+lev%4=L at *
  have β:L<5:=Om;simp only[go_sem,j,gd,Y,w1,w2,w3,w4,w5,ep,J,aAX,Nat.mul_one,aDK];refine⟨_,if_pos Om,?_⟩;have x:=l.set 0 rfl (.rows 17 (R.set i (p.cells.set (4+L) (.int .i64 0))));have γ:¬ e.b=e.p:=x.ne 1 0 rfl rfl (by decide);have y:(R.set i (p.cells.set (4+L) (PV.int .i64 0)))[i]?=some (p.cells.set (4+L) (.int .i64 0)):=List.getElem?_set_self Om;have S:(p.cells.set (4+L) (PV.int .i64 0)).length=17:=by rw[aBW]; rfl
  have U:(p.cells.set (4+L) (PV.int .i64 0)).set 9 .aA=kB p L .aA:=rfl;have x:aK (A.set e.p (.rows 17 (R.set i (p.cells.set (4+L) (.int .i64 0))))) (zhB f e (R.set i (p.cells.set (4+L) (.int .i64 0)))) []:=x;generalize p.cells.set (4+L) (PV.int .i64 0)=cl at *
  generalize A.set e.p (.rows 17 (R.set i cl))=H1 at *
  have B:=x.at 1 rfl;have E:=x.at 0 rfl;simp only[go_sem,ge,B,E,j,aAX,y,S,List.set_set,U];have h2:=(x.set 0 rfl (.rows 17 (R.set i (kB p L .aA)))).mB 1;simp only[go_sem,gf];refine t8 f hV lev L e room c g i hlt R N p h2 (by (repeat' (first|exact c_|refine d_ ?_ ?_))<;>first|(simp only[go_sem,zhG,zhF]<;>rfl)|rfl) fun w X I=>?_;obtain⟨qm,rfl⟩:=(I.own 0 rfl).one (by rw[eU]; simp[iH]; omega);obtain⟨rs,z1,z2,-,-,z5⟩:=I.frz 0 rfl;simp only[go_sem,gk,zhF,V];refine AJ (i+1,X.frz qm 1 rs) z1 ⟨hlt,?_⟩ (by simp only; omega) (by (repeat' (first|exact c_|refine d_ ?_ ?_))<;>first|(simp only[go_sem,zhF]<;>rfl)|rfl) b_;simp only;have W:¬ e.p=qm:=I.neL 0 0 rfl rfl rfl;have eB:(zhB f e (R.set i (kB p L (.osl qm 1 0 (bT (iH (aAB f.ayN.length))).length)))).map (fun b=>(b.1,b.2.frz qm 1 rs))=zhB f e (R.set i (pU f.ayN.length L p).cells):=by show [(e.p,bF.rows 17 ((R.set i _).map fun r=>r.map (PV.bP qm 1 rs))),(e.b,bF.rows 7 [[_,_,_,_,_,PV.bP qm 1 rs (.osl e.p 17 0 f.ayQ.length),_]]),_]=_;rw[aDL,M,acF,z2,← u];simp only[PV.bP,if_neg W];rfl
  have z6:aK (X.frz qm 1 rs) ((zhB f e (R.set i (kB p L (.osl qm 1 0 (bT (iH (aAB f.ayN.length))).length)))).map (fun b=>(b.1,b.2.frz qm 1 rs))) []:=z5;rw[eB,O] at z6;exact z6
 ·have j:¬ (i:Int)<(f.ayQ.length:Nat):=Om;have:i=f.ayQ.length:=Om;subst this;simp only[go_sem,j];exact Up.up (by (repeat' (first|exact c_|refine d_ ?_ ?_))<;>first|(simp only[go_sem,zhF]<;>rfl)|rfl) (hK A l)

theorem RK (l:List Nat) (lc a:Nat):∀ k,(eI l lc a k).1.length=k
 | 0=>rfl
 | k+1=>by show ((eI l lc a k).1++[_]).length=k+1;rw[aAE,RK l lc a k]; rfl
theorem W4 (l:List Nat) (d v:Nat):0<(fT l d v).ayN.length:=by
 have:∃ n,(fT l d v).ayN.length=1+n:=⟨_,RK _ _ _ _⟩;omega
theorem aK.aiX {H:PH} {B:List BX} {L:List LI} {o s b:Nat} {y:PV} {src:List (List PV)} {K:PV→PH→Prop} (h:aK H ((o,.rows s [])::B) L) (A:eJ H s y=some src) (x:roomFor 0 src.length b)
  (l:∀ e H',aK H' ((e,.rows s src)::B) L→K (.osl e s 0 src.length) H'):mG H s b (.osl o s 0 0) y K:=by
 refine OV (rs:=[]) A x (h.at 0 rfl) (aAF _) ?_ fun e j=>?_
 ·rw[aAX];exact l o _ (h.set 0 rfl _)
 ·rw[aAX];have u:=(h.new j (.rows s ([]++src))).vC 0;have w:aK (H.set e (.rows s ([]++src))) (B++[(e,.rows s src)]) L:=u;exact l e _ (w.perm List.perm_append_comm (aCO.refl _))
def XZ:aE:=(.seq (.region JN) (.seq (.region JO) (.seq (.seq (.region JP) (.block 2 (.loop yB))) (.seq (.region JQ) (.seq (.region yD) .ret)))))
def XY:aE:=(.seq (.region PC) (.seq (.region PD) (.seq (.seq (.region PE) (.block 0 (.loop yA))) (.seq (.region yC) XZ))))
theorem Jg:DJ=.seq (.region OY) (.seq (.region OZ) (.seq (.region PA) (.seq (.draw PB) XY))):=rfl
theorem TF {C:Ctx} (l:EH C) (f:aC) (hf:f.Ok) (I:cV f=true) (j:0<f.ayN.length) (lev:Nat) (hl:lev<256) (q:Nat) (room:List Int) (c g:Int) (A:c=0→g=0∧mK f room) {F:PF} {H:PH}
  (O:aK H [(q,.rows 7 [f.cells])] []) (hF:((((((PF.nil.set 2 (.int .u8 (lev:Nat))).set 8 (.ptr q 7 0 0)).set 9 (ints room)).set 11 (.int .i64 c)).set 16 (.int .i64 g))).le F):XZ.wp C (aT [.tmp 6] (aM (.bool true))) F H:=by
 have hV:=VF.of I;have β:=hV.small.ayQ;have hp:=l.place (xA f (1+lev%4)) room (akG hf I _);refine vQ _ (fun _ _ _ _ a b=>Up.up a b) hF ?_;have W:=O.at 0 rfl;simp only[go_sem,XZ,JN,W];refine O.sQ fun b U M=>?_;have X:=M.at 1 rfl;have h2:=M.set 1 rfl (zY f (.sl 17 (f.ayQ.map cC.cells)));simp only[go_sem,X];generalize U.set b (.rows 7 [f.cells])=H2 at *
 simp only[go_sem,JO];refine h2.sQ fun p K u=>?_;have u:aK K [(q,.rows 7 [f.cells]),(b,zY f (.sl 17 (f.ayQ.map cC.cells))),(p,.rows 17 [])] []:=u;have N:aK K [(p,.rows 17 []),(b,zY f (.sl 17 (f.ayQ.map cC.cells))),(q,.rows 7 [f.cells])] []:=u.perm (List.reverse_perm _).symm (aCO.refl _);have Y:=N.at 2 rfl;simp only[go_sem,Y];refine N.aiX (src:=f.ayQ.map cC.cells) rfl (by unfold roomFor; rw[aAA]; simp only[maxLen]; omega) fun e V h5=>?_;have Z:=h5.at 1 rfl;have h6:=h5.set 1 rfl (zY f (.osl e 17 0 f.ayQ.length));simp only[go_sem,Z,aAA];refine⟨_,if_pos (fun x S=>by rw[aBL] at S; subst S; rfl),?_⟩;generalize V.set b (.rows 7 [[.int .i64 f.azS,.sl 4 (f.ayU.map cT.cells),.sl 4 (f.ayN.map dD.cells),.sl 7 (f.ayP.map cP.cells),.sl 3 (f.ayM.map cZ.cells),.osl e 17 0 f.ayQ.length,.sl 2 (f.ayO.map gI.cells)]])=H5 at *
 simp only[go_sem,JP];refine Ki f hV j lev hl ⟨q,b,e⟩ room c g h6 (by (repeat' (first|exact c_|refine d_ ?_ ?_))<;>first|(simp only[go_sem,zhF]<;>rfl)|rfl) fun H6 h7=>?_;have e5:=h7.at 1 rfl;have e6:=h7.at 0 rfl;simp only[go_sem,JQ,zhF,e5];have α:=SJ f.ayQ f.ayN.length (1+lev%4) (aAF _);have B:=S7 f (1+lev%4);generalize jC f.ayQ f.ayN.length (1+lev%4) f.ayQ.length=R at *
 have J:PV.bP e 17 R (.osl e 17 0 f.ayQ.length)=.sl 17 R:=by have h9:PV.bP e 17 R (.osl e 17 0 f.ayQ.length)=.sl 17 (R.take f.ayQ.length):=rT (o:=e) Om;rw[h9,aAQ Om]
 have ea:PV.frz e 17 R (.agg [.int .i64 f.azS,.sl 4 (f.ayU.map cT.cells),.sl 4 (f.ayN.map dD.cells),.sl 7 (f.ayP.map cP.cells),.sl 3 (f.ayM.map cZ.cells),.osl e 17 0 f.ayQ.length,.sl 2 (f.ayO.map gI.cells)])=.agg (xA f (1+lev%4)).cells:=by rw[B];show PV.agg [_,_,_,_,_,PV.bP e 17 R (.osl e 17 0 f.ayQ.length),_]=_;rw[J]; rfl
 have eb:PV.frz e 17 R (ints room)=ints room:=rfl;refine TC (o:=e) (s:=17) (rs:=R) hp e6 ?_ ?_
 ·rw[nZ,nZ,yG,vZ,vZ,kF,kF];simp only[go_sem,ea,eb]
 ·rintro r H' ⟨ws,p2,E,rfl,rfl⟩ -;rw[PH.jK];by_cases y:c=0
  ·obtain⟨hg,w⟩:=A y;have h0:=de E (St hV (1+lev%4) w) (akH I);simp only[go_sem,yD,cM y,bO hg,bO h0];refine aB l.awake rfl ?_;simp only[go_sem];exact nS rfl rfl
  ·simp only[go_sem,yD,dP y];refine aB l.awake rfl ?_;simp only[go_sem];exact nS rfl rfl
theorem Wa {C:Ctx} (J:EH C) (f:aC) (K:f.Ok) (I:cV f=true) (j:0<f.ayN.length) (m:List Nat) (hb:∀ x∈m,x<256) (lev:Nat) (X:lev<256) (q:Nat) (room:List Int) (S:room.length=f.ayM.length) (U:∀ d,d<room.length→0≤room.getD d 0∧room.getD d 0≤1000) {F:PF} {H:PH}
  (W:aK H [(q,.rows 7 [f.cells])] []) (hF:(((((PF.nil.set 1 (.sl 1 (fQ m))).set 2 (.int .u8 (lev:Nat))).set 8 (.ptr q 7 0 0)).set 9 (ints room))).le F):XY.wp C (aT [.tmp 6] (aM (.bool true))) F H:=by
 have hV:=VF.of I;have α:=hV.small.ayM;have O:=J.place f room K;have y:=J.place f (kA room m room.length) K;refine vQ _ (fun _ _ _ _ a b=>Up.up a b) hF ?_;have Y:=W.at 0 rfl;simp only[go_sem,XY,PC,Y];refine dS O rfl a_ ?_;rintro r H' ⟨ws,c,R,rfl,rfl⟩ -;rw[PH.jK];simp only[go_sem,PD,PE];refine Kh m hb lev q room Om U c (W.mB 1) (by (repeat' (first|exact c_|refine d_ ?_ ?_))<;>first|(simp only[go_sem,zgF]<;>rfl)|rfl) fun w V E=>?_;have M:=E.at 0 rfl;have l:∀ e g,tW f (kA room m room.length) e g→c=0→g=0∧mK f room:=fun e g hg hc=>by
  rcases R with ⟨a,-⟩ | ⟨-,⟨u,A,-⟩,-⟩ | ⟨-,-,-,rfl⟩
  ·rw[I] at a; cases a
  ·exact⟨de hg (Jh ⟨u,A⟩ S (QU ..) fun d hd=>Se room m hd) I,u,A⟩
  ·cases hc
 rcases E.own 0 rfl with ⟨hz,rfl⟩ | ⟨p,rs,rfl,ho,hle,htk⟩
 ·have N:kA room m room.length=[]:=List.map_eq_nil_iff.1 hz;rw[N] at y l;simp only[go_sem,yC,zgF,M];refine dS (y.args (args:=[.agg f.cells,.aA]) (.uY (.refl _) (.uY (.nil 1) .Uq))) rfl a_ ?_;rintro r H' ⟨e,g,B,rfl,rfl⟩ -;rw[PH.jK];simp only[go_sem];exact TF J f K I j lev X q room c g (l _ _ B) (E.ET 0) Lq
 ·have hq:¬ q=p:=E.neL 0 0 rfl rfl rfl;have h2:=(E.ET 0);rw[eU] at hle htk;generalize kA room m room.length=G at *
  have Z:PV.frz p 1 rs (.osl p 1 0 (bT G).length)=ints G:=by rw[eU,rT hle,htk]; rfl
  have ef:PV.frz p 1 rs (.agg f.cells)=.agg f.cells:=rfl;have h3:aK (V.frz p 1 rs) [(q,.rows 7 [f.cells])] []:=by refine⟨fun b hb=>?_,fun x hx=>(by cases hx),(by simp[dU,cY])⟩;rw[aBL] at hb;subst hb;show (V.frz p 1 rs) q=some (.rows 7 [f.cells]);rw[uG,if_neg hq,M]; rfl
  simp only[go_sem,yC,zgF,M];refine TC (o:=p) (s:=1) (rs:=rs) y ho ?_ ?_
  ·rw[nZ,nZ,yG,vZ,vZ,kF,kF];simp only[go_sem,Z,ef]
  ·rintro r H' ⟨e,g,B,rfl,rfl⟩ -;rw[PH.jK];simp only[go_sem];exact TF J f K I j lev X q room c g (l _ _ B) h3 Lq
theorem aaR {C:Ctx} (w:EH C) (l m:List Nat) (hb:∀ x∈l,x<256) (hl:l.length≤9223372036854775807) (J:∀ x∈m,x<256) (hm:m.length≤9223372036854775807) (lev:Nat) (A:lev<256) :
  DJ.wp C (aT fz.res (aM (.bool true))) (PF.args [.sl 1 (fQ l),.sl 1 (fQ m),.int .u8 (lev:Nat)]) .nil:=by
 obtain⟨N,V⟩:=abT l (d:=8) (v:=3) (by decide) (by decide);have hV:=VF.of N;have hd:=hV.small.ayM;have B:=W4 l 8 3;have a1:=Xa (l.take 400) 8 3 (aAP _);have k0:∀ v,Tp (l.take 400) v→∀ o,aG C 0 [.ptr o 2 0 0,.int .i64 (8:Nat),.int .i64 (3:Nat)] (PH.nil.set o (aS v 0)) (fun r H=>r=.agg (fT l 8 3).cells∧H=PH.nil.set o (aS v (faT l 8 3))):=fun v T o=>w.tfleet (l.take 400) v T o 8 3 0 (by decide) (by decide) (aAP _);have k2:=fun v T o=>w.QQ (l.take 400) v T o (faT l 8 3) (fT l 8 3) Om a1;have W:=(w.roomM (fT l 8 3) (qE (l.take 400) (fT l 8 3) (faT l 8 3)).1 V).freeze;rw[QO,if_pos N] at W;generalize (qE (l.take 400) (fT l 8 3) (faT l 8 3))=e at *
 generalize faT l 8 3=E at *
 generalize fT l 8 3=f at *
 have K:=wJ f e.1;have M:∀ d,d<(lE f e.1).length→0≤(lE f e.1).getD d 0∧(lE f e.1).getD d 0≤1000:=fun d h=>by rw[aAL,aAH h,aCU,XG];have:=rc hV e.1 (d:=d) Om;omega
 rw[Jg];simp only[go_sem,OY,OZ,fz];refine aK.nil.atC (w.new l hb hl) rfl fun o v X T F=>?_;have F:aK X [(o,aS v 0)] []:=F;simp only[go_sem,PA];refine F.awG 0 rfl (k0 v T o) rfl fun H2 h2=>?_;simp only[go_sem];refine h2.sQ fun q Y S=>?_;have Z:=S.at 1 rfl;have I:=S.set 1 rfl (.rows 7 [f.cells]);simp only[go_sem,Z];generalize Y.set q (.rows 7 [f.cells])=O at *
 have R:=I.at 1 rfl;have y:(PH.nil.set q (.rows 7 [f.cells])).le O:=e_ a_ R;refine bN (PH.nil.set q (.rows 7 [f.cells])) (tpS 6 E e.2 e.1 fun _=>aM (.sl 1 (bT (lE f e.1)))) y ?_;have U:=I.set 0 rfl (aS v e.2);have j:=e_ (a_ (H:=O.set o (aS v e.2))) (U.at 1 rfl);simp only[go_sem,PB,R];refine abL (I.at 0 rfl) (k2 v T o) rfl j ?_;simp only[go_sem];refine Ws (u:=.sl 1 (bT (lE f e.1))) (by decide) rfl W rfl j ?_;simp only[go_sem];exact Wa w f V N B m J lev A q (lE f e.1) K M (U.vC 0) Lq
structure WO where
 z:Nat
 n:Nat
 c:Nat
def rM (f:aC) (S:Nat→Bool) (e:WO) (k:Nat):PF:=(((((((PF.nil.set 2 (.dH f.cells)).set 4 (.ptr e.z 3 0 0)).set 10 (.sl 1 (bD ((aAB (bG f f.ayM.length)).map S)))).set 12 (.ptr e.n 2 0 0)).set 13 (.ptr e.c 3 0 0)).set 48 (.int .i64 (f.ayO.length:Nat))).set 49 (.int .i64 (k:Nat)))
def kj (f:aC) (S:Nat→Bool) (e:WO) (k:Nat) (w:PV) (i:Nat):PF:=(((rM f S e k).set 14 (.int .i64 (k:Nat))).set 15 w).set 16 (.int .i64 ((i+1:Nat):Int))
def OU (f:aC) (S:Nat→Bool) (e:WO) (k:Nat):PF:=((((((PF.nil.set 4 (.ptr e.z 3 0 0)).set 10 (.sl 1 (bD ((aAB (bG f f.ayM.length)).map S)))).set 12 (.ptr e.n 2 0 0)).set 13 (.ptr e.c 3 0 0)).set 93 (.int .i64 (f.ayM.length:Nat))).set 94 (.int .i64 (k:Nat)))
theorem acH {C:Ctx} (U:lM C) {K:cK} [Up K] (f:aC) (hV:VF f) (S:Nat→Bool) (e:WO) (k:Nat) (hk:k<f.ayO.length) (y L1:LI) (B:List BX) (w:PV) (x:∃ q n,w=.osl q 1 0 n) {F:PF} {H:PH}
  (Z:B[0]?=some (e.n,eZ f)) (l:aK H B [y,L1,(w,1,[])]) (hF:(kj f S e k w 0).le F)
  (hK:∀ u H',(∃ q n,u=.osl q 1 0 n)→aK H' B [y,L1,(u,1,bD (sR f S k (f.ayP.length-1)))]→K (.exit 2) ((rM f S e k).set 15 u) H'):aE.wp C (.loop UB) K F H:=by
 have E:=hV.small;have R:=hV.root;have β:=E.ayP;have γ:=E.ayO;refine wp_loop (α:=Nat × PV × PH) (fun s=>kj f S e k s.2.1 s.1) (fun s=>s.2.2) (fun s=>s.1+1≤f.ayP.length∧(∃ q n,s.2.1=.osl q 1 0 n)∧aK s.2.2 B [y,L1,(s.2.1,1,bD (sR f S k s.1))]) (fun s=>f.ayP.length-s.1) (0,w,H) ⟨by have:=R.1; omega,x,l⟩ hF b_ ?_;rintro⟨i,w,N⟩ ⟨hi,x,l⟩;simp only at hi x l;simp only[go_sem,UB,yh,kj,rM,aAA];by_cases hlt:i+1<f.ayP.length
 ·have j:((i+1:Nat):Int)<(f.ayP.length:Nat):=Om;have A:=dN (Om:i+1<9223372036854775807);have Y:N e.n=some (eZ f):=l.at 0 Z;obtain⟨d1,V⟩:=hC hV hk hlt;have W:cO f k (i+1)<bG f f.ayM.length:=Nat.lt_of_lt_of_le V (by unfold bG; omega);have X:((cO f k (i+1):Nat):Int)<((bG f f.ayM.length:Nat):Int):=Om;have I:=XK (S:=S) W;have M:(sR f S k i).length=i:=by simp[sR]
  simp only[go_sem,j,yi,Y];refine aB (U.dom f E R.1 k (i+1) Om Om) rfl ?_;simp only[go_sem,aAA,aDD,X,I];refine l.append 2 (src:=[[.bool (S (cO f k (i+1)))]]) rfl rfl (by unfold roomFor; rw[iW,M]; simp only[aAI,maxLen]; omega) fun u H' O J=>?_;obtain⟨q,hq⟩:=J (by simp);rw[EO,show sR f S k i++[S (cO f k (i+1))]=sR f S k (i+1) from (nK _ _).symm] at O;simp only[go_sem,yj,A];exact aL (i+1,u,H') ⟨hlt,⟨q,_,hq⟩,O⟩ (by simp only; omega) (by (repeat' (first|exact c_|refine d_ ?_ ?_))<;>first|(simp only[go_sem,kj,rM]<;>rfl)|rfl) b_
 ·have j:¬ ((i+1:Nat):Int)<(f.ayP.length:Nat):=Om;have:i=f.ayP.length-1:=Om;subst this;simp only[go_sem,j];exact Up.up (by (repeat' (first|exact c_|refine d_ ?_ ?_))<;>first|(simp only[go_sem,kj,rM]<;>rfl)|rfl) (hK w N x l)
theorem Xo {C:Ctx} (Lb:lM C) {K:cK} [Up K] (f:aC) (hV:VF f) (S:Nat→Bool) (e:WO) {F:PF} {H:PH}
  (I:aK H [(e.n,eZ f),(e.c,gJ .aA .aA .aA),(e.z,gJ .aA .aA .aA)] [(.aA,1,[]),(.aA,1,[])]) (hF:(rM f S e 0).le F)
  (hK:∀ M A j H',oI j (PL f S f.ayO.length)→aK H' [(e.n,eZ f),(e.c,gJ M A .aA),(e.z,gJ .aA .aA .aA)] [(M,1,bD (BF f S f.ayO.length)),(A,1,j)]→K (.exit 0) (rM f S e f.ayO.length) H'):aE.wp C (.loop UC) K F H:=by
 have hs:=hV.small;have hr:=hV.root;have ξ:=hs.ayP;have ο:=hs.ayO;have Z:(f.ayP.length:Int)*((1:Nat):Int)≤140737488355328:=Om;have β:(f.ayP.length:Int)≤9223372036854775807:=Om;have γ:(0:Int)≤(f.ayP.length:Int):=Om;refine wp_loop (α:=Nat × PV × PV × List (List PV) × PH) (fun s=>rM f S e s.1) (fun s=>s.2.2.2.2) (fun s=>s.1≤f.ayO.length∧oI s.2.2.2.1 (PL f S s.1)∧aK s.2.2.2.2 [(e.n,eZ f),(e.c,gJ s.2.1 s.2.2.1 .aA),(e.z,gJ .aA .aA .aA)] [(s.2.1,1,bD (BF f S s.1)),(s.2.2.1,1,s.2.2.2.1)]) (fun s=>f.ayO.length-s.1) (0,.aA,.aA,[],H) ⟨aAP _,.nil,I⟩ hF b_ ?_;rintro⟨k,M,A,j,U⟩ ⟨hk,u,I⟩;simp only at hk u I;simp only[go_sem,UC,yb,rM];by_cases hlt:k<f.ayO.length
 ·have l:(k:Int)<(f.ayO.length:Nat):=Om;have ε:=wZz k;have d2:=(hC hV hlt hr.1).2;have d3:2+k<bG f f.ayM.length:=by rw[Wt] at d2; exact Nat.lt_of_lt_of_le d2 (by unfold bG; omega)
  have d4:((2+k:Nat):Int)<((bG f f.ayM.length:Nat):Int):=Om;have η:=XK (S:=S) d3;have θ:(BF f S k).length=k:=by simp[BF]
  have δ:j.length=k:=by rw[u.1]; simp[PL]
  have e6:U e.n=some (eZ f):=I.at 0 rfl;have ec:U e.c=some (gJ M A .aA):=I.at 1 rfl;simp only[go_sem,l,yc];refine bN (PH.nil.set e.c (gJ M A .aA)) (yV f [] (fun _ _=>True)) (e_ a_ ec) ?_;simp only[go_sem,yd,e6];refine vz Lb (v:=k) Om rfl (e_ a_ ec) ?_;simp only[go_sem,aAA,aDD,d4,η];refine I.append 0 (src:=[[.bool (S (2+k))]]) rfl rfl (by unfold roomFor; rw[iW,θ]; simp only[aAI,maxLen]; omega) fun ρ H1 R J=>?_;obtain⟨y,N⟩:=J (by simp);rw[EO,show BF f S k++[S (2+k)]=BF f S (k+1) from (nK _ _).symm] at R;refine⟨e_ a_ (R.at 1 rfl),?_⟩;refine bN .nil dC a_ ?_;have V:=R.at 1 rfl;generalize μ:((bD (BF f S k)++[[PV.bool (S (2+k))]]).length)=w at N;subst N;simp only[go_sem,ye,V];refine⟨a_,?_⟩;have h2:=R.set 1 rfl (gJ (.osl y 1 0 w) A .aA);generalize H1.set e.c (.rows 3 [[.osl y 1 0 w,A,.aA]])=H2 at *
  simp only[go_sem,yf,aAA,Z,β,γ,Int.le_refl,aDK];refine aP fun qr ζ=>?_;have h3:=h2.jm (s:=1) (rows:=[]) ζ;simp only[go_sem,yg];refine acH Lb f hV S e k hlt _ _ _ (.osl qr 1 0 0) ⟨_,_,rfl⟩ rfl h3 (by (repeat' (first|exact c_|refine d_ ?_ ?_))<;>first|(simp only[go_sem,kj,rM]<;>rfl)|rfl) fun w' H4 ι Y=>?_;obtain⟨q,n,rfl⟩:=ι;have W:=Y.at 1 rfl;have hn:n=(bD (sR f S k (f.ayP.length-1))).length:=by obtain⟨rs,-,e2,-⟩:=(Y.own 2 rfl).id rfl;injection e2
  simp only[go_sem,yk,rM,W];refine Y.append 1 (src:=[[.osl q 1 0 n]]) rfl rfl (by unfold roomFor; rw[δ]; simp only[aAI,maxLen]; omega) fun κ H5 h5 J=>?_;obtain⟨E,O⟩:=J (by simp);have X:=h5.at 1 rfl;generalize ν:(j++[[PV.osl q 1 0 n]]).length=B at O;subst O;have h6:=h5.set 1 rfl (gJ (.osl y 1 0 w) (.osl E 1 0 B) .aA);simp only[go_sem,X];generalize H5.set e.c (.rows 3 [[.osl y 1 0 w,.osl E 1 0 B,.aA]])=H6 at *
  refine⟨_,if_pos (fun x hx=>by rw[aBL] at hx; subst hx; rfl),?_⟩;subst hn;obtain⟨rs,z1,z2,z3,z4,z5⟩:=h6.frz 2 rfl;have y0:=z4 0 _ (by decide) rfl;have y1:=z4 1 _ (by decide) rfl;simp only at y0 y1;simp only[go_sem,yl,ε];refine AJ (k+1,PV.osl y 1 0 w,PV.osl E 1 0 B,j++[[kK (sR f S k (f.ayP.length-1))]],H6.frz q 1 rs) z1 ⟨hlt,?_,?_⟩ (by simp only; omega) (by (repeat' (first|exact c_|refine d_ ?_ ?_))<;>first|(simp only[go_sem,rM]<;>rfl)|rfl) b_
  ·simp only;rw[show PL f S (k+1)=PL f S k++[sR f S k (f.ayP.length-1)] from nK _ _];exact u.snoc (.inl rfl)
  ·simp only;have eB:([(e.n,eZ f),(e.c,gJ (.osl y 1 0 w) (.osl E 1 0 B) .aA),(e.z,gJ .aA .aA .aA)]:List BX).map (fun b=>(b.1,b.2.frz q 1 rs))=[(e.n,eZ f),(e.c,gJ (.osl y 1 0 w) (.osl E 1 0 B) .aA),(e.z,gJ .aA .aA .aA)]:=by show [(e.n,eZ f),(e.c,bF.rows 3 [[PV.bP q 1 rs (.osl y 1 0 w),PV.bP q 1 rs (.osl E 1 0 B),.aA]]),(e.z,gJ .aA .aA .aA)]=_;rw[y0,y1]
   have e5:(j++[[PV.osl q 1 0 (bD (sR f S k (f.ayP.length-1))).length]]).map (fun r=>r.map (PV.bP q 1 rs))=j++[[kK (sR f S k (f.ayP.length-1))]]:=by rw[aBO,u.flat];show j++[[PV.bP q 1 rs (.osl q 1 0 (bD (sR f S k (f.ayP.length-1))).length)]]=_;rw[z2]
   have z6:aK (H6.frz q 1 rs) ([(e.n,eZ f),(e.c,gJ (.osl y 1 0 w) (.osl E 1 0 B) .aA),(e.z,gJ .aA .aA .aA)].map (fun b=>(b.1,b.2.frz q 1 rs))) [(.osl y 1 0 w,1,(bD (BF f S (k+1))).map fun r=>r.map (PV.bP q 1 rs)),(.osl E 1 0 B,1,(j++[[PV.osl q 1 0 (bD (sR f S k (f.ayP.length-1))).length]]).map fun r=>r.map (PV.bP q 1 rs))]:=z5;rw[eB,e5,EN] at z6;exact z6
 ·have l:¬ (k:Int)<(f.ayO.length:Nat):=Om;have:k=f.ayO.length:=Om;subst this;simp only[go_sem,l];exact Up.up (by (repeat' (first|exact c_|refine d_ ?_ ?_))<;>first|(simp only[go_sem,rM]<;>rfl)|rfl) (hK M A j U u I)
theorem Xn {C:Ctx} (Y:lM C) {K:cK} [Up K] (f:aC) (hV:VF f) (S:Nat→Bool) (e:WO) (E:LI) (l x:PV) (J:List (List PV)) {F:PF} {H:PH}
  (u:aK H [(e.n,eZ f),(e.c,gJ x l .aA),(e.z,gJ .aA .aA .aA)] [E,(l,1,J),(.aA,1,[])]) (hF:(OU f S e 0).le F)
  (hK:∀ w H',aK H' [(e.n,eZ f),(e.c,gJ x l w),(e.z,gJ .aA .aA .aA)] [E,(l,1,J),(w,1,bD (KP f S f.ayM.length))]→K (.exit 4) (OU f S e f.ayM.length) H'):aE.wp C (.loop UD) K F H:=by
 have V:=hV.small;have γ:=V.ayM;refine wp_loop (α:=Nat × PV × PH) (fun s=>OU f S e s.1) (fun s=>s.2.2) (fun s=>s.1≤f.ayM.length∧aK s.2.2 [(e.n,eZ f),(e.c,gJ x l s.2.1),(e.z,gJ .aA .aA .aA)] [E,(l,1,J),(s.2.1,1,bD (KP f S s.1))]) (fun s=>f.ayM.length-s.1) (0,.aA,H) ⟨aAP _,u⟩ hF b_ ?_;rintro⟨k,w,B⟩ ⟨hk,u⟩;simp only at hk u;simp only[go_sem,UD,yn,OU];by_cases hlt:k<f.ayM.length
 ·have j:(k:Int)<(f.ayM.length:Nat):=Om;have M:=wZz k;have Z:bG f k<bG f f.ayM.length:=by unfold bG; omega
  have d4:((bG f k:Nat):Int)<((bG f f.ayM.length:Nat):Int):=Om;have N:=XK (S:=S) Z;have R:(KP f S k).length=k:=by simp[KP]
  have e6:B e.n=some (eZ f):=u.at 0 rfl;have U:B e.c=some (gJ x l w):=u.at 1 rfl;simp only[go_sem,j,yo];refine bN (PH.nil.set e.c (gJ x l w)) (yV f [] (fun _ _=>True)) (e_ a_ U) ?_;simp only[go_sem,yq,e6];refine yY Y V (i:=k) Om rfl (e_ a_ U) ?_;simp only[go_sem,aAA,aDD,d4,N];refine u.append 2 (src:=[[.bool (S (bG f k))]]) rfl rfl (by unfold roomFor; rw[iW,R]; simp only[aAI,maxLen]; omega) fun δ H1 A O=>?_;obtain⟨X,y⟩:=O (by simp);rw[EO,show KP f S k++[S (bG f k)]=KP f S (k+1) from (nK _ _).symm] at A;refine⟨e_ a_ (A.at 1 rfl),?_⟩;refine bN .nil dC a_ ?_;have I:=A.at 1 rfl;generalize β:((bD (KP f S k)++[[PV.bool (S (bG f k))]]).length)=W at y;subst y;simp only[go_sem,yr,I];refine⟨a_,?_⟩;have h2:=A.set 1 rfl (gJ x l (.osl X 1 0 W));simp only[go_sem,yu,M];exact aL (k+1,.osl X 1 0 W,_) ⟨hlt,h2⟩ (by simp only; omega) (by (repeat' (first|exact c_|refine d_ ?_ ?_))<;>first|(simp only[go_sem,OU]<;>rfl)|rfl) b_
 ·have j:¬ (k:Int)<(f.ayM.length:Nat):=Om;have:k=f.ayM.length:=Om;subst this;simp only[go_sem,j];exact Up.up (by (repeat' (first|exact c_|refine d_ ?_ ?_))<;>first|(simp only[go_sem,OU]<;>rfl)|rfl) (hK w B u)
theorem akL {C:Ctx} (x:KC C) (f:aC) (hf:f.Ok) (room:List Int) :
  LJ.wp C (aT acG.res (aaV f room)) (PF.args [.agg f.cells,ints room]) .nil:=by
 simp only[go_sem,LJ,Mm,acG];refine aP fun z hz=>?_;have h0:aK (PH.nil.set z (gJ .aA .aA .aA)) [(z,gJ .aA .aA .aA)] []:=aK.nil.new hz (gJ .aA .aA .aA);generalize (PH.nil.set z (.rows 3 [[.aA,.aA,.aA]]))=H0 at *
 simp only[go_sem,Mn];refine aB (x.net f room hf) rfl ?_;simp only[go_sem,WJ];refine h0.sQ fun q H1 Y=>?_;have q1:=Y.at 1 rfl;have y:=Y.set 1 rfl (pA (CG f room));simp only[go_sem,q1];generalize H1.set q (.rows 4 [(CG f room).cells])=H2 at *
 have q2:=y.at 1 rfl;have z2:=y.at 0 rfl;have no:∀ (F:PF) (H:PH),aK H [(z,gJ .aA .aA .aA),(q,pA (CG f room))] []→F 4=some (.ptr z 3 0 0)→F 5=some (.bool false)→aT [.cell 4 (some 3),.tmp 5] (cL (.tup [.agg (fL.cells vy),.bool false])) .ret F H:=by intro F H h f4 f5;have e0:=h.at 0 rfl;have h':aK H [] [(.aA,1,bD []),(.aA,1,[]),(.aA,1,bD [])]:=(((h.sub (List.nil_sublist _) (aCG.refl _)).mB 1).mB 1).mB 1;exact Gi (.inr rfl) (by simp only[go_sem,f4,f5,e0]) .nil h'
 cases w:cV f with
 | false =>simp only[go_sem,ik,QG w,Mo,z2];refine ahV (c:=vy) (b:=false) (.inl ⟨w,rfl,rfl⟩) ?_;exact no _ _ (y.set 0 rfl (gJ .aA .aA .aA)) rfl rfl
 | true =>
  have hV:=VF.of w;have hs:=hV.small;have hn:=MP hV room;have O:=q2;rw[QI w] at O;simp only[go_sem,ik,uJ w,Mp,O];refine dS (x.solve _ hn) rfl a_ ?_;rintro r H' ⟨xs,S,M,u,A,B,rfl,rfl⟩ -;rw[PH.jK];have I:=dr hV M u A B;have α:=aqN hV M;simp only[go_sem,Mq];refine aB (x.demand f hV) rfl ?_;by_cases E:iJ (dY f room) xs=((oV f:Nat):Int)
  ·simp only[go_sem,bO E,Mr,z2];refine ahV (c:=vy) (b:=false) (.inr (.inl ⟨w,I.1 Om,rfl,rfl⟩)) ?_;exact no _ _ (y.set 0 rfl (gJ .aA .aA .aA)) rfl rfl
  ·have J:¬ mK f room:=fun h=>I.2 h Om;simp only[go_sem,bC E,Ms,aAA];refine y.sQ fun e H3 Z=>?_;have g3:=Z.at 2 rfl;have h4:=Z.set 2 rfl (eZ f);simp only[go_sem,g3];generalize H3.set e (.rows 2 [[.int .i64 (f.ayO.length:Nat),.int .i64 (f.ayP.length:Nat)]])=H4 at *
   simp only[go_sem,Mt];refine h4.sQ fun j H5 h5=>?_;have h6:aK H5 [(e,eZ f),(j,gJ .aA .aA .aA),(z,gJ .aA .aA .aA)] [(.aA,1,[]),(.aA,1,[])]:=by refine ((((h5.vC 1).mB 1).mB 1).perm ?_ (aCO.refl _));exact List.perm_append_comm (l₁:=[(z,gJ .aA .aA .aA)]) (l₂:=[(e,eZ f),(j,gJ .aA .aA .aA)])
   simp only[go_sem,Mu,aAA];refine Xo x.tolM f hV S ⟨z,e,j⟩ h6 (by (repeat' (first|exact c_|refine d_ ?_ ?_))<;>first|(simp only[go_sem,rM]<;>rfl)|rfl) fun R U fs H6 N h7=>?_;simp only[go_sem,ym,rM,aAA];refine Xn x.tolM f hV S ⟨z,e,j⟩ (R,1,bD (BF f S f.ayO.length)) U R fs (h7.mB 1) (by (repeat' (first|exact c_|refine d_ ?_ ?_))<;>first|(simp only[go_sem,OU]<;>rfl)|rfl) fun rv H7 h8=>?_;have ec:=h8.at 1 rfl;have ez:=h8.at 2 rfl;have K:=h8.set 2 rfl (gJ R U rv);simp only[go_sem,yv,OU,ec,ez];have l:=aaM hV M (S:=S) A B u J;rw[abJ] at l;refine⟨_,if_pos ?_,?_⟩
   ·rcases K.own 0 rfl with ⟨_,V⟩ | ⟨q1,rs1,V,_⟩<;>rcases K.own 1 rfl with ⟨_,W⟩ | ⟨q2,rs2,W,_⟩<;>rcases K.own 2 rfl with ⟨_,X⟩ | ⟨O,rs3,X,_⟩<;>rw[V,W,X]<;>rfl
   refine ahV (b:=true) (.inr (.inr ⟨w,J,l,rfl⟩)) ?_;exact Gi (.inr rfl) Sq N (K.sub (List.nil_sublist _) (aCG.refl _))
theorem akA {C : Ctx} (f : aC) (hV : VF f) : KX.wp C (aT abX.res (aM (.int .i64 ((oV f : Nat) : Int)))) (PF.args [.agg f.cells]) .nil := by
  have hs := hV.small.ayO;simp only[go_sem,KX,Lr,Ls,Lt,abX,aAA];refine wp_loop (α := Nat) (fun k => (((((PF.nil.set 1 (.dH f.cells)).set 3 (.int .i64 ((cH (eX f) k : Nat) : Int))).set 7 (.sl 2 (f.ayO.map gI.cells))).set 8 (.int .i64 (f.ayO.length : Nat))).set 9 (.int .i64 (k : Nat)))) (fun _ => .nil) (fun k => k ≤ f.ayO.length) (fun k => f.ayO.length - k) 0 (aAP _) (by (repeat' (first|exact c_|refine d_ ?_ ?_)) <;> first|(simp only[go_sem,cH] <;> rfl)|rfl) a_ ?_;intro k hk;simp only[go_sem,Lp,Lu];by_cases hlt : k < f.ayO.length
  · have ayT : (k : Int) < (f.ayO.length : Nat) := Om
    obtain ⟨b1, b2, b3, -⟩ := mY hV hlt;have b4 := aiW hV k hk;obtain ⟨hp, he⟩ := pM hV hlt;have hpol := hV.ayZ _ (aAG hp);rw [he] at hpol;have e0 : IntKind.i64.wrap ((cR f k).k + (cR f k).m) = oE f k := wrap_i64 Om Om;have e : IntKind.i64.wrap (((cH (eX f) k : Nat) : Int) + oE f k) = ((cH (eX f) (k + 1) : Nat) : Int) := by rw [cH, ← b3, wrap_i64 Om Om]; omega
    simp only[go_sem,ayT,Lw,JE hlt];refine aP fun o ho => ?_;simp only[go_sem];refine bN .nil dC a_ ?_;simp only[go_sem,Lx,hV.F9 hlt,CL hp,he,e0,e,ie,wZz k]
    first
      | exact aL (k + 1) hlt Om Lq a_
      | (refine ⟨a_, ?_⟩
         simp only[go_sem,ie,wZz k];exact aL (k + 1) hlt Om Lq a_)
  · have ayT : ¬ (k : Int) < (f.ayO.length : Nat) := Om
    have : k = f.ayO.length := Om;subst this;simp only[go_sem,ayT,Ly];refine cD (.inr rfl) rfl ?_;rfl
structure cS (C:Ctx):Prop where
 r0:bR C 0 Cx
 r1:bR C 1 T7
 r2:bR C 2 aeL
 r4:bR C 4 uo
 r5:bR C 5 aeU
 r6:bR C 6 Ud
 r7:bR C 7 um
 r27:bR C 27 Cc
 r28:bR C 28 aeP
 r29:bR C 29 Ua
 r31:bR C 31 Vn
 r32:bR C 32 agW
 r33:bR C 33 udiv
 r34:bR C 34 ahB
 r35:bR C 35 Vv
 r38:bR C 38 Vz
 r39:bR C 39 kf
 r40:bR C 40 Vt
 r41:bR C 41 Ii
 r42:bR C 42 Il
 r43:bR C 43 Vx
 r44:bR C 44 Is
 r45:bR C 45 uup
 r47:bR C 47 ahQ
 r50:bR C 50 ux
 r58:bR C 58 ki
 r59:bR C 59 V6
 r95:bR C 95 acT
 r96:bR C 96 adE
 r97:bR C 97 yy
 r98:bR C 98 Tb
 r99:bR C 99 Tc
 r100:bR C 100 Td
 r101:bR C 101 gone
 r102:bR C 102 Th
 r103:bR C 103 Aa
 r104:bR C 104 gin
 r105:bR C 105 acU
 r106:bR C 106 acV
 r107:bR C 107 Tj
 r108:bR C 108 Tk
 r109:bR C 109 Ao
 r110:bR C 110 To
 r111:bR C 111 Tf
 r112:bR C 112 acY
 r113:bR C 113 gy
 r114:bR C 114 abW
 r115:bR C 115 ui
 r116:bR C 116 PR
 r117:bR C 117 x7
 r118:bR C 118 ya
 r119:bR C 119 abU
 r120:bR C 120 uA
 r121:bR C 121 x9
 r122:bR C 122 S9
 r123:bR C 123 uj
 r124:bR C 124 ZU
 r125:bR C 125 ZX
 r126:bR C 126 PY
 r127:bR C 127 aeX
 r128:bR C 128 Ug
 r129:bR C 129 afB
 r130:bR C 130 afC
 r131:bR C 131 afG
 r132:bR C 132 Uw
 r133:bR C 133 afJ
 r134:bR C 134 afM
 r135:bR C 135 Uy
 r136:bR C 136 ji
 r137:bR C 137 Eu
 r138:bR C 138 DX
 r139:bR C 139 WR
 r140:bR C 140 Fa
 r141:bR C 141 Fb
 r142:bR C 142 MW
 r143:bR C 143 nup
 r152:bR C 152 QQ
 r156:bR C 156 Vm
 r161:bR C 161 Hg
 r282:bR C 282 afQ
 r283:bR C 283 Um
 r284:bR C 284 afD
 r285:bR C 285 aeY
 r286:bR C 286 acC
 r287:bR C 287 abX
 r288:bR C 288 x4
 r289:bR C 289 acG
 r290:bR C 290 abV
 r291:bR C 291 Ub
 r292:bR C 292 D3
 r293:bR C 293 adZ
 r294:bR C 294 ul
 r295:bR C 295 uk
 r296:bR C 296 Dq
 r297:bR C 297 adV
 r298:bR C 298 D2
 r312:bR C 312 Je
namespace Z
theorem pZ {C:Ctx} (c:cS C):qT C :=
 have len:∀ xs,Lim xs→xs.length≤35184372087808→aG C 138 [aI xs] .nil (aM (.int .i64 (nl (val xs):Nat))):=fun xs h l=>c.r138.go (Uu xs h l) rfl
 {length:=len
  large:=fun xs h l=>c.r137.go (Yt xs (len xs h l)) rfl
  sized:=fun xs h l=>(c.r141.go (Yy xs h (len xs h l)) rfl).seen
  trim:=fun xs h l=>(c.r135.go (afN xs h l (len xs h l)) rfl).seen
  make:=fun v h=>c.r132.go (afH v h len) rfl
  cmp:=fun xs x e j u w=>c.r129.go (amJ xs x e j u w (len xs e u) (len x j w)) rfl }
theorem amD {C:Ctx} (c:cS C):ud C :=
 {subtract:=fun A W Z v f o hW u l j w e=>c.r142.go (Fi A W Z v f hW u l j w e o) rfl
  restore:=fun A W Z v o hW u l j=>c.r139.go (J1 A W Z v hW u l j o) rfl }
theorem Ue {C:Ctx} (c:cS C):u9 C :=
 {L:=pZ c
  D:=amD c
  up:=fun a s j x e=>c.r143.go (apU a s j x e) rfl
  short:=fun a d j l u e=>c.r140.go (Yw (pZ c) a d j l u e) rfl
  lengthO:=fun xs o y w=>c.r138.go (J0 xs y w o) rfl }
theorem ci {C:Ctx} (c:cS C) (A B:Nat) (hB:B≠0) (j:nl A≤900) (e:nl B≤900):aG C 136 [aI (aJ A),aI (aJ B)] .nil (aM (qI A B)) :=
 (c.r136.go (Uk (Ue c) A B hB j e) rfl).seen
theorem rH {C:Ctx} (c:cS C):sM C :=
 {pZ c with
  bits:=fun xs h l=>c.r128.go (aeZ xs h l ((pZ c).length xs h l)) rfl
  add:=fun xs x e j u w=>(c.r127.go (amE (pZ c) xs x e j u w) rfl).seen
  sub:=fun xs x e j u w=>(c.r134.go (amY (pZ c) xs x e j u w) rfl).seen
  mul:=fun xs x e j u w=>(c.r133.go (amW (pZ c) xs x e j u w) rfl).seen
  gcd:=fun xs x e j u w=>(c.r131.go (amU (pZ c) (ci c) xs x e j u w) rfl).seen
  div:=fun xs x e j u w=>(c.r130.go (amL (pZ c) (ci c) xs x e j u w) rfl).seen }
theorem yK {C:Ctx} (c:cS C):EI C :=
 {rH c with
  times:=fun a b e hb j l u w=>c.r121.go (Xj (rH c) a b e hb j l u w) rfl
  zero:=fun neg a b e j=>c.r122.go (acI (rH c) neg a b e j) rfl
  valid:=fun neg a b e hb j l=>c.r118.go (Xl (rH c) neg a b e hb j l) rfl
  abs:=fun v y A=>c.r119.go (ajS (rH c) v y A) rfl
  lowest:=fun neg a b e hb j l u w x=>(c.r120.go (Sz (rH c) neg a b e hb j l u w x) rfl).seen }
theorem x5 {C:Ctx} (c:cS C) (x y:RF) (e:x.Ok) (j:y.Ok):aG C 113 [.agg x.cells,.agg y.cells] .nil (aM (frV (kN x.v y.v))) :=
 (c.r113.go (ajU (yK c) x.neg y.neg x.num x.den y.num y.den e.1 e.2.1 j.1 j.2.1 e.2.2.1 e.2.2.2 j.2.2.1 j.2.2.2) rfl).seen
theorem ig {C:Ctx} (c:cS C):uc C :=
 {yK c with
  frac:=fun n d A u=>(c.r115.go (acA (yK c) n d A.1 A.2 u.1 u.2) rfl).seen
  red:=fun x e=>by rw[← U7];exact (c.r116.go (S5 (yK c) x.neg x.num x.den e.1 e.2.1 e.2.2.1 e.2.2.2) rfl).seen
  ord:=fun x y e j=>(c.r114.go (ajY (yK c) x.neg y.neg x.num x.den y.num y.den e.1 e.2.1 j.1 j.2.1 e.2.2.1 e.2.2.2 j.2.2.1 j.2.2.2) rfl).seen
  plus:=x5 c
  tot:=fun l w=>(c.r117.go (akJ (yK c) (x5 c) l w.all w.fits) rfl).seen }
theorem yJ {C:Ctx} (c:cS C):sI C :=
 have inn:∀ n lo hi:Int,aG C 104 [.int .i64 n,.int .i64 lo,.int .i64 hi] .nil (aM (.bool (within n lo hi))):=fun n lo hi=>(c.r104.go (apI n lo hi) rfl).seen;have uX:∀ x:RF,x.Ok→aG C 97 [.agg x.cells] .nil (aM (.bool (bS x))):=fun x u=>(c.r97.go (Xp (rH c) x u) rfl).seen;have lim:∀ x:RF,x.Ok→aG C 105 [.agg x.cells] .nil (aM (.bool (fJ x))):=fun x u=>(c.r105.go (akR (ig c) x u) rfl).seen;have e:∀ n:Nat,aG C 126 [.int .u8 n] .nil (aM (.bool (jB n))):=fun n=>c.r126.go (T2 n) rfl;have j:∀ n:Nat,aG C 124 [.int .u8 n] .nil (aM (.bool (sT n))):=fun n=>c.r124.go (X1 n) rfl
 {ig c with
  inn:=inn
  uX:=uX
  lim:=lim
  one:=fun x u=>(c.r101.go (akV (ig c) x u) rfl).seen
  allf:=fun p fn l w h=>(c.r99.go (acM p fn l w h) rfl).seen
  alli:=fun p fn l w h=>(c.r100.go (acO p fn l w h) rfl).seen
  allb:=fun p fn l w h=>(c.r98.go (acK p fn l w h) rfl).seen
  ends1:=fun b=>(c.r103.go (Xr b) rfl).seen
  num1:=fun n=>(c.r107.go (acW inn n) rfl).seen
  rate1:=fun x u=>(c.r109.go (Xu lim uX x u) rfl).seen
  name:=fun s=>c.r123.go (adR e (fun n=>c.r125.go (X6 e j n) rfl) s) rfl }
theorem wu {C:Ctx} (c:cS C):u5 C :=
 {yJ c with
  num:=fun p e=>(c.r106.go (akT (yJ c) p e) rfl).seen
  rate:=fun p e=>(c.r108.go (acZ (yJ c) p e) rfl).seen
  uniq:=fun l j=>(c.r110.go (adC (yJ c) l j) rfl).seen }
theorem ww {C:Ctx} (c:cS C):YB C :=
 {wu c with
  ends:=fun l e he=>(c.r102.go (acR (yJ c) l e he) rfl).seen }
theorem abZ {C:Ctx} (c:cS C):kT C :=
 {ww c with
  law:=fun l j=>(c.r95.go (akP (ww c) l j) rfl).seen
  pol:=fun p n w u=>(c.r112.go (akX (wu c) p w n u) rfl).seen
  ayW:=fun f e=>(c.r111.go (akN (yJ c) f e) rfl).seen }
theorem kz {C:Ctx} (c:cS C) (f:aC) (e:f.Ok):aG C 96 [.agg f.cells] .nil (aM (.int .i64 (wW f))):=(c.r96.go (alA (abZ c) f e) rfl).seen
theorem anR {C:Ctx} (c:cS C):aiA C :=
 {valid:=fun f e=>(c.r161.go (Z1 (kz c) f e) rfl).seen
  apG:=fun f v j h=>(c.r156.go (agO f j v h) rfl).seen }
theorem oQ {C:Ctx} (c:cS C):pR C:={ trimM:=fun xs h l=>c.r38.go (ahL xs h l) rfl }
theorem Gc {C:Ctx} (c:cS C):vd C :=
 {oQ c with
  make:=fun v h=>(c.r35.go (ahC (oQ c) v h) rfl).seen
  large:=fun xs h l=>(c.r41.go (Z5 (oQ c) xs h l) rfl).seen
  cmp:=fun xs x e j u w=>c.r32.go (anS (oQ c) xs x e j u w) rfl }
theorem afZ {C:Ctx} (c:cS C):Wg C :=
 {Gc c with
  minus:=fun a b j hb l w e=>(c.r42.go (Z7 (oQ c) a b j hb l w e) rfl).seen
  times:=fun a b j hb e u=>(c.r44.go (Z9 (oQ c) a b j hb e u) rfl).seen }
theorem agA {C:Ctx} (c:cS C):Wh C :=
 {afZ c with
  plus:=fun a b l hb e j=>(c.r43.go (ahI (oQ c) a b l hb e j) rfl).seen }
theorem agB {C:Ctx} (c:cS C):KE C :=
 {agA c with
  bits:=fun xs h l=>c.r31.go (agU (oQ c) xs h l) rfl
  upM:=fun a n j e u w=>c.r45.go (aqL (oQ c) a n j e u w) rfl
  down:=fun a n j e u=>(c.r40.go (agZ (oQ c) a n j e u) rfl).seen }
theorem XF {C:Ctx} (c:cS C):YG C :=
 {Gc c with
  divide:=fun A B hB j e=>(c.r39.go (Vq (agB c) A B hB j e) rfl).seen }
theorem Gd {C:Ctx} (c:cS C):ve C :=
 {XF c with
  gcd:=fun a b e hb j l=>(c.r34.go (anW (XF c) a b e hb j l) rfl).seen
  div:=fun a b e hb j l=>(c.r33.go (anU (XF c) a b e hb j l) rfl).seen }
theorem Qx {C:Ctx} (c:cS C):R4 C :=
 {Gd c with
  lowest:=fun neg a b l hb u w x y j=>(c.r58.go (V4 (Gd c) neg a b l hb u w x y j) rfl).seen
  size:=fun v e=>c.r59.go (ahT v e.1 e.2) rfl }
theorem Ge {C:Ctx} (c:cS C):YH C :=
 {Qx c with
  fmk:=fun n d j e=>(c.r50.go (ahR (Qx c) n d j e) rfl).seen }
theorem QD {C:Ctx} (c:cS C) (hi:wO C):zX C :=
 {Ge c with
  int:=fun n e=>(c.r47.go (aoA (Ge c) n e) rfl).seen
  itoa:=hi
  next:=fun l v T o n a e j=>c.r4.go (aeQ T o n a e j) rfl }
theorem Da {C:Ctx} (c:cS C) (hi:wO C):u6 C :=
 {QD c hi with
  frac:=fun l v T o a e=>c.r1.go (aeF (QD c hi) T o a e) rfl }
theorem Db {C:Ctx} (c:cS C) (hi:wO C):sL C :=
 {Da c hi with
  rep:=fun l v T o a m j e=>c.r5.go (amB (Da c hi) T o a m j e) rfl
  name:=fun s n w u=>c.r29.go (aeN (QD c hi) s n w u) rfl }
theorem Dc {C:Ctx} (c:cS C) (hi:wO C):nD C :=
 {Db c hi with
  law:=fun l v T o eM a u e j=>c.r2.go (alX (Db c hi) T o eM a u e j) rfl }
theorem Dd {C:Ctx} (c:cS C) (hi:wO C):u7 C :=
 {Dc c hi with
  grow:=fun l v T mc ayM e j u=>Av (Dc c hi) T mc ayM e j u (fun args H R w h=>c.r7 args H R (by rw[w]; decide) h) 4 (aAF _) }
theorem VM {C:Ctx} (c:cS C) (hi:wO C):We C :=
 {Dd c hi with
  new:=fun l hb w=>c.r28.go (alZ l hb w) rfl
  fleet:=fun l v T o ayM ayO a e j u=>KB.exact (c.r0.go (Yc (Dd c hi) T o ayM ayO a e j u) rfl) }
theorem Zi {C:Ctx} (c:cS C) (f:aC) (v:Nat) (e:v≤100):aG C 282 [.agg (qX f),.int .i64 (v:Nat)] .nil (aM (.int .i64 ((2+v:Nat):Int))):=c.r282.go (anA f v e) rfl
theorem NQ {C:Ctx} (c:cS C):lM C :=
 {vol:=Zi c
  dom:=fun f j e v i y hi=>c.r283.go (amN (Zi c) f j e v i y hi) rfl
  drv:=fun f j d e=>c.r284.go (amP f j d e) rfl
  arc:=fun o N a v l x H u=>c.r285.go (amH o N a.src a.dst a.cap v l x H u) rfl
  valid:=kz c
  roomM:=fun f room w=>c.r152.go (agS (anR c) f w room) rfl }
theorem Qv {C:Ctx} (c:cS C) (n:cB) (e:fN n):aG C 292 [.agg n.cells] .nil (aM (.bool true)):=c.r292.go (Yn (fun n o x j=>c.r291.go (aeS n o x j) rfl) n e) rfl
theorem Qu {C:Ctx} (c:cS C) (n:cB) (e fo:Nat) (xs:List Nat) (out:PV) (s:cJ) (l:fN n) (j:¬ e=fo) (w:sJ n xs) (u:s.1<n.arcs.length):aG C 294 [.ptr e 6 0 0,.int .i64 (stI s)] (sH n e fo xs out) (fun r H'=>r=.tup [.int .i64 ((eP n s:Nat):Int),.int .i64 ((eC n xs s:Nat):Int)]∧H'=sH n e fo xs out):=c.r294.go (aeA n l e fo j xs w out s u) rfl
theorem afY {C:Ctx} (c:cS C) (n:cB) (j:fN n):aG C 298 [.agg n.cells] .nil (vf n) :=
 c.r298.go (Yk (Qv c) (fun n u fo xs y l j e I w B=>c.r296.go (Yi (Qu c) n j u fo e xs I y l w B) rfl)
  (fun n u fo xs out Q way j e A E x=>c.r297.go (alR (Qu c) (fun n u fo xs out s j e F=>c.r295.go (adX n j u fo e xs out s F) rfl) n j u fo e xs A out Q way E x) rfl) n j) rfl
theorem Gb {C:Ctx} (c:cS C):KC C :=
 {NQ c with
  net:=fun f room e=>(c.r286.go (akD (NQ c) f e room) rfl).aqD
  solve:=afY c
  demand:=fun f hV=>c.r287.go (akA f hV) rfl }
theorem Qw {C:Ctx} (c:cS C) (hi:wO C):Wb C :=
 {fleet:=fun l hb y ayM ayO j w=>(c.r27.go (X8 (VM c hi) l hb y ayM ayO j w) rfl).seen
  place:=fun f room e=>(c.r288.go (Xe (Gb c) f e room) rfl).place
  why:=fun f room e=>(c.r289.go (akL (Gb c) f e room) rfl).why
  chk:=fun f room ct e u=>c.r290.go (ajW (Gb c) (fun n cut A x=>c.r293.go (alT (Qv c) n A cut x) rfl) f e room ct u) rfl }
theorem afX {C:Ctx} (c:cS C) (hi:wO C):aG C 312 [] .nil (aM (.bool true)):=c.r312.go (aaP (Qw c hi)) rfl
theorem anE {C:Ctx} (c:cS C) (hi:wO C):Wc C :=
 {new:=(VM c hi).new
  tfleet:=(VM c hi).fleet
  QQ:=fun l v T o a f j e=>exactly (c.r6.go (aeV (QD c hi) T o a f j e) rfl) }
theorem aqA {C:Ctx} (c:cS C) (hi:wO C):EH C :=
 {anE c hi with
  awake:=afX c hi
  place:=(Qw c hi).place
  roomM:=(NQ c).roomM }
end Z
theorem W3 {C:Ctx} (c:cS C) (hi:wO C) (r:bR C 319 fz) (l m:List Nat) (hb:∀ x∈l,x<256) (u:l.length≤9223372036854775807) (j:∀ x∈m,x<256) (w:m.length≤9223372036854775807) (lev:Nat) (e:lev<256):aG C 319 [.sl 1 (fQ l),.sl 1 (fQ m),.int .u8 lev] .nil (aM (.bool true)):=r.go (aaR (Z.aqA c hi) l m hb u j w lev e) rfl
end Go.PM
