/-
  Texts of ours, joined. No condition.
-/
import Derived.Test.YtkknafmijabgaaaGreatDoorFR1
import Derived.Test.YtkknafmijabgaaaGreatDoorFR2
import Derived.Test.YtkknafmijabgaaaGreatDoorFR3
import Derived.Test.YtkknafmijabgaaaGreatDoorFR4
import Derived.Test.YtkknafmijabgaaaGreatDoorRows
import Derived.Test.YtkknafmijabgaaaGreatDoorProg
import Derived.KernelRfl
import Derived.ProofKit
import Derived.WalkKit
import Derived.LaidMore
import Derived.OpenShut
import Derived.Stop.Joined
import Derived.Shelf.Sort.Plain
import Derived.Shelf.Slices.CompactI
import Derived.Shelf.Slices.In.SortNone
set_option linter.unusedSimpArgs false
set_option linter.unusedVariables false
open Nat renaming reduceEqDiff→γ,reduceAdd→δ,reduceSub→ε,reduceMul→ζ,reduceLT→η,reduceLeDiff→θ
open Int renaming reduceLT→ι,reduceLE→κ,reduceEq→μ,reduceBEq→ρ
open List renaming range→a8D,length_map→a8E,replicate→a8F,getElem_mem→a8G,length_append→a8H,getElem?_eq_getElem→a8L,getD_eq_getElem?_getD→a8M,length_singleton→a8N,mem_cons→a8S,take_of_length_le→a8V,length_take→a8W,getElem?_map→a8Y,mem_range→a9B,getElem?_eq_some_iff→a9F,mem_map→a9G,all_eq_true→a9I,mem_singleton→a9K,append_assoc→a9L,take_length→a9M,mem_append→a9N,drop_zero→a9R,getElem?_eq_none→a9S,map_cons→a9T,map_append→a9U,append_nil→a9W,length_set→a9X,length_cons→a9Y,length_drop→a9Z,mem_of_getElem?→baA,getElem?_append_left→baB,getElem?_append_right→baD,Sublist→baE,take_succ_eq_append_getElem→baF,length_range→baJ,map_congr_left→baM,Perm→baQ,drop_eq_getElem_cons→baR,getElem?_range→baS,range_succ→baT,length_nil→baX,map_nil→bbA,mem_cons_of_mem→bbB,take_append_drop→bbC,getElem_map→bbF,nodup_append→bbG,getElem_of_mem→bbJ,nil_append→bbK,mem_append_left→bbQ,cons_append→bbR,mem_filter→bbS,getElem?_set→bbV,contains_iff_mem→bcA,getElem?_replicate→bcC,sublist_append_left→bcD
open Nat renaming gcd→a8I,le_refl→a8J,zero_le→a8K,zero_add→a8R,mul_add→a8T,lt_or_ge→a8Z,mul_comm→a9E,mul_le_mul_right→a9H,add_zero→a9P,le_trans→baK,succ_mul→baL,eq_zero_or_pos→baN,min_eq_left→baO,pos_of_ne_zero→baV,div_eq_of_lt→bbL,mul_le_mul→bbT
open Bool renaming false_and→a8O,not_true→a8Q,true_and→a8U,not_false→a8X,and_eq_true→a9A,and_false→a9Q,and_true→baI,false_eq_true→bbH,and_assoc→bbN
open Option renaming map_some→a9J,some→baP,getD_some→baW
open Int renaming toNat_natCast→bbI
set_option maxRecDepth 100000
set_option maxHeartbeats 800000
noncomputable section
namespace Go.Proofs.YtkknafmijabgaaaGreatDoor
open Go Go.PM Go.RowKit Go.ChangeShapes Go.WideShapes
noncomputable def C:Ctx:=⟨Tryz.prog,num⟩
theorem bL (T:Tbl) {k:Nat} {fn:Func} {e:aW} (w:C.P.funcs[C.num k]?=some fn) (l:C.P=T.P:=by rfl) (j:C.num=T.num:=by rfl) (y:(fn.name=="runtime.NumGoroutine")=false:=by kernel_rfl) (u:T.func fn=some e:=by kernel_rfl):bH C k e:=fun _ _ _ x h=>aFX l j w y u x h
theorem Tryz.own:ownKnob Tryz.prog.godebug=none:=by kernel_rfl
theorem Tryz.laidOut:laidOutB Tryz.prog=true:=by kernel_rfl
theorem itoa:FU C:=fun n x=>by
 refine⟨⟨Tryz.f79,Tryz.func79,by kernel_rfl,by kernel_rfl⟩,fun E w vs y hW j=>?_⟩;obtain⟨A⟩:=vs;cases j with
 | cons l u =>
 cases u;cases l;refine (Any.strconv_Itoa_small Tryz.aUL n x w).mono fun e B he=>?_;obtain⟨rfl,rfl⟩:=he;exact⟨_,.str (dU n),E,.nil,rfl,hW,.str ⟨(Lib.decDigits n).toArray⟩,.refl _ _ _,rfl,rfl⟩
end Go.Proofs.YtkknafmijabgaaaGreatDoor
namespace Go.PM
open Go Go.Na
theorem ri {f:aE} (h:VF f) {d:Nat} (e:d<f.a6P.length) {lev:Int} (j:0≤lev) (l:lev≤4):mB f d lev<f.a6S.length∧lvl f (mB f d lev)=lev:=by
 unfold mB;obtain⟨a,b⟩:=ZI h e (k:=4-lev.toNat) Om;refine⟨a,?_⟩;rw[b]; omega
theorem Gp {f:aE} (h:VF f) {i:Nat} (hi:i<f.a6S.length):0≤lvl f i∧lvl f i≤4:=by
 rcases baN i with e | e
 ·rw[e,h.root.2.1]; omega
 ·have:=h.dom i e hi; omega


theorem apL (a b:Nat):mkT (a:Int) (b:Int)=⟨false,aJ (a/a8I a b),aJ (b/a8I a b)⟩:=by
 have e:decide ((a:Int)<0)=false:=decide_eq_false Om;have j:decide ((b:Int)<0)=false:=decide_eq_false Om;unfold mkT qX FV.rf;rw[e,j,Int.natAbs_natCast,Int.natAbs_natCast];rfl
structure SmF (x:RF) (p q:Nat):Prop where
 eq:x=⟨false,aJ (p/a8I p q),aJ (q/a8I p q)⟩
 a:p≤64
 b:q≤64
 pos:0<q
theorem SmF.mk' {a b:Nat} (e:a≤64) (hb:b≤64) (h:0<b):SmF (mkT (a:Int) (b:Int)) a b:=⟨apL a b,e,hb,h⟩
theorem SmF.num {x:RF} {a b:Nat} (h:SmF x a b):val x.num=a/a8I a b:=by rw[h.eq,aU]
theorem SmF.den {x:RF} {a b:Nat} (h:SmF x a b):val x.den=b/a8I a b:=by rw[h.eq,aU]
theorem SmF.v {x:RF} {a b:Nat} (h:SmF x a b):x.v=(false,a/a8I a b,b/a8I a b):=by
 unfold RF.v;rw[h.num,h.den,h.eq]
theorem SmF.Ze {x:RF} {a b:Nat} (_:SmF x a b):a/a8I a b≤a:=Nat.div_le_self ..
theorem SmF.Qi {x:RF} {a b:Nat} (_:SmF x a b):b/a8I a b≤b:=Nat.div_le_self ..
theorem SmF.den_pos {x:RF} {a b:Nat} (h:SmF x a b):0<b/a8I a b:=Nat.div_pos (Nat.le_of_dvd h.pos (Nat.gcd_dvd_right a b)) (Nat.gcd_pos_of_pos_right a h.pos)
theorem EW {n:Nat} (h:n≤4096):dJ n≤32:=(qC n 32).2 Om
theorem aiI {n:Nat} (h:0<n):0<dJ n:=by
 rcases baN (dJ n) with e | e
 ·rw[nG] at e; omega
 ·exact e
theorem ZQ {a b:Nat} (j:a≤4096) (hb:b≤4096) (h:0<b):dS a b=true:=by
 have l:=EW j;have u:=EW hb;have e:=aiI h;unfold dS;rw[decide_eq_true e,decide_eq_true (Om:dJ b≤4096),decide_eq_true (Om:dJ a≤4096)];rfl
theorem aUN {n:Bool} {a b:Nat} (e:a≤4096) (hb:b≤4096):lG n a b=.ok (n&&decide (a/a8I a b≠0),a/a8I a b,b/a8I a b):=by
 have j:=EW (baK (Nat.div_le_self a (a8I a b)) e);have l:=EW (baK (Nat.div_le_self b (a8I a b)) hb);unfold lG;rw[if_neg Om]
theorem SmF.lim {x:RF} {a b:Nat} (h:SmF x a b):dP x=true:=by
 have w:=h.Ze;have y:=h.Qi;have e:=h.den_pos;have:=h.a;have:=h.b;have j:x.neg=false:=by rw[h.eq]
 unfold dP tJ;rw[h.num,h.den,j,ZQ Om Om e,if_pos rfl,aUN Om Om];have l:=Nat.div_le_self (a/a8I a b) (a8I (a/a8I a b) (b/a8I a b));have u:=Nat.div_le_self (b/a8I a b) (a8I (a/a8I a b) (b/a8I a b));simp only[a8O,a8X,a8U,a9A,decide_eq_true_eq];exact⟨EW Om,EW Om⟩
theorem SmF.yE {x:RF} {a b:Nat} (h:SmF x a b) (e:0<a):dH x=true:=by
 unfold dH;rw[h.num];exact decide_eq_true (Nat.ne_of_gt (Nat.div_pos (Nat.le_of_dvd e (Nat.gcd_dvd_left a b)) (Nat.gcd_pos_of_pos_right a h.pos)))
theorem SmF.zero {x:RF} {b:Nat} (h:SmF x 0 b):dH x=false:=by
 unfold dH;rw[h.num,Nat.zero_div];rfl
theorem SmF.one {x:RF} {a b:Nat} (h:SmF x a b) (e:a≤b):CR x=true:=by
 have u:=h.Ze;have w:=h.Qi;have j:=h.den_pos;have:=h.a;have:=h.b;have l:x.neg=false:=by rw[h.eq]
 unfold CR;rw[h.num,h.den,l,ZQ Om Om j];have:a/a8I a b≤b/a8I a b:=Nat.div_le_div_right e;show (true&&decide (eQ (a/a8I a b*1) (1*(b/a8I a b))≤0))=true;rw[Nat.mul_one,Nat.one_mul,a8U];refine decide_eq_true ?_;unfold eQ;split
 ·decide
 ·split
  ·omega
  ·decide
theorem SmF.ok {x:RF} {a b:Nat} (h:SmF x a b):x.Ok:=by
 have e:=h.Ze;have j:=h.Qi;have:=h.a;have:=h.b;have k1:nl (a/a8I a b)≤1:=(lS _ _).2 Om;have k2:nl (b/a8I a b)≤1:=(lS _ _).2 Om;rw[h.eq];refine⟨aX _,aX _,?_,?_⟩
 ·show (aJ _).length≤_;rw[bC]; omega
 ·show (aJ _).length≤_;rw[bC]; omega
structure aXM (x:RF):Prop where
 lim:dP x=true
 ok:x.Ok
theorem SmF.o {x:RF} {a b:Nat} (h:SmF x a b):aXM x:=⟨h.lim,h.ok⟩
abbrev lvs (ds:List dB):List Int:=ds.map dB.level
def a3I (ds:List dB) (i:Nat) (d:dB):Prop:=∃ lev p u:Nat,d.name=[sY lev]++dU (i+1)∧d.level=lev∧1≤lev∧lev≤4∧d.parent=p∧p≤i∧(lvs ds)[p]?=some ((lev:Int)-1)∧d.a7K=u∧1≤u∧u≤16∧aXM d.a7F
def a3K (ds:List dB) (mc i:Nat) (d:eT):Prop:=∃ m c:Nat,d.name=[100]++dU i∧d.model=m∧m<mc∧d.machine=c∧(lvs ds)[c]?=some 4
structure GV (mc a6P:Nat) (s:GS):Prop where
 len:s.a6Z.length≤35
 a7J:s.a7J.length≤a6P
 root:s.a6Z[0]?=some BH
 dom:∀ i (hi:i+1<s.a6Z.length),a3I s.a6Z i s.a6Z[i+1]
 drv:∀ i (hi:i<s.a7J.length),a3K s.a6Z mc i s.a7J[i]
theorem GV.a {mc a6P:Nat} {s:GS} (h:GV mc a6P s) (x:Nat):GV mc a6P { s with a:=x }:=⟨h.len,h.a7J,h.root,h.dom,h.drv⟩
theorem aoQ {ds:List dB} {p:Nat} {x:Int} {t:List dB} (h:(lvs ds)[p]?=some x):(lvs (ds++t))[p]?=some x:=by
 unfold lvs at *
 rw[a9U,baB]
 ·exact h
 ·exact (a9F.1 h).1



theorem aPY {C:Ctx} (f:aE) (j:VF f) (v:Nat) (h:v<f.a6R.length) :
  SC.wp C (aT aDM.res (cP (.int .i64 (pV f v)))) (PF.args [.agg f.cells,.int .i64 v]) .nil:=by
 obtain⟨l,he⟩:=qZ j h;have e:=j.a7C _ (a8G l);rw[he] at e;have u:IntKind.i64.wrap ((cO f v).k+(cO f v).m)=(cO f v).k+(cO f v).m:=wrap_i64 Om Om;simp only[go_sem,SC,acG,aDM];refine aV .nil cA a_ ?_;simp only[go_sem,acH,zM h,j.YE h,tC l,he];refine aO fun o w=>?_;simp only[go_sem,acI,u];refine⟨a_,?_⟩;exact rB (n:=(cO f v).k+(cO f v).m) Ev rfl

structure wM (f:aE) (L:List (List Int)):Prop where
 len:L.length=f.a6R.length
 row:∀ v (h:v<L.length),((L[v].length:Nat):Int)=pV f v
 home:∀ r∈L,∀ x∈r,-1≤x∧x<f.a6P.length
theorem wM.a1F {f:aE} {L:List (List Int)} (h:wM f L) (hV:VF f):∀ k,k≤L.length→(L.take k).flatten.length≤k*8:=by
 have y:=h.len;intro k
 induction k with
 | zero=>intro _; simp
 | succ k w =>intro j;rw[aGC L j,a8H];have x:=w Om;have l:=h.row k j;obtain⟨u,he⟩:=qZ hV (Om:k<f.a6R.length);have e:=hV.a7C _ (a8G u);rw[he] at e;unfold pV at l;omega
theorem wM.ok {f:aE} (hV:VF f) {L:List (List Int)} (h:wM f L):a0A L:=by
 have j:=hV.small.a6R;have e:=h.len;have:=h.a1F hV L.length (a8J _);rw[a9M] at this;exact⟨by omega,by omega⟩
section
variable {H:PH} {B:List BX} {L:List LI}
end
theorem wE {k v:Int} {n:Nat} {p:Nat→Bool}:AS k v n p=[]↔∀ i,i<n→p i=false:=by
 unfold AS;rw[List.map_eq_nil_iff,List.filter_eq_nil_iff];constructor
 ·intro h i hi;have:=h i (a9B.2 hi);simpa using this
 ·intro h i hi;rw[h i (a9B.1 hi)];decide
theorem aGR {f:aE} {l:List (List Int)} {room:List Int} (j:dL f=true) (e:l.length=f.a6R.length) :
  BV f l room=true↔aAM f l l.length=[]∧∀ d,d<f.a6P.length→over f l room d=false:=by
 unfold BV aEM aSJ;rw[j,if_pos rfl,if_pos e,a8U,decide_eq_true_eq,List.length_eq_zero_iff,List.append_eq_nil_iff,wE]
theorem de {p:Int→Bool}:∀ {l:List Int} {i:Nat},(∀ x∈l,p x=false)→OF p l i=none
 | [],_,_=>rfl
 | y::t,i,h=>by rw[OF,h y (by simp),if_neg (by decide)];exact de fun x e=>h x (by simp[e])
theorem wM.shape {f:aE} {L:List (List Int)} (h:wM f L) {v:Nat} (j:v<L.length):acK f L v=none:=by
 have e:L.getD v []=L[v]:=by simp[a8M,j]
 unfold acK;rw[e,if_pos (h.row v j),de]
 ·rfl
 ·intro x l;have:=h.home _ (a8G j) x l;simp[aXV];omega
section
variable {H:PH} {B:List BX} {L:List LI} {s:Nat} {rows:List (List PV)}
theorem rF.some (s:Nat) (rows:List (List PV)) (G:PH):∃ r H',rF s rows r H'∧oL G .nil H':=by
 obtain⟨o,l⟩:=G.fresh;refine⟨.osl o s 0 rows.length,PH.nil.set o (.rows s rows),.inr ⟨o,rows,rfl,rfl,a8J _,a9M⟩,fun q x j _=>?_⟩;rw[aS] at j;split at j
 ·rename_i e; rw[e]; exact l
 ·cases j
end

section
variable {C:Ctx} {F:PF} {H Hs:PH} {tn a a2:Nat} {raw:List Int} {R:Nat→PV→PH→Prop} {st:Bool} {args:List aP} {d:Option Nat} {K:PF→PH→Prop}
end
section
variable {C:Ctx} {F:PF} {H:PH} {B:List BX} {L:List LI} {args:List aP} {d:Option Nat} {K:PF→PH→Prop}
theorem aM.sC (h:aM H B L) {x:bZ} {e:Nat→PV} (j:∀ o H',aM H' (B++[(o,x)]) L→K (F.put d (e o)) H'):qU (some (e,x)) d K F H:=aO fun o l=>j o _ (h.new l x)
end
theorem aJL {f:aE} (hV:VF f) (room:List Int) {d:Nat} (e:d<f.a6P.length):0≤pU f room d∧pU f room d≤ext f d∧1≤ext f d∧ext f d≤16:=by
 obtain⟨j,he⟩:=hV.Qt e;have:=hV.model _ (a8G j);rw[he] at this;unfold pU;split
 ·omega
 ·omega

theorem wM.move {f:aE} {L:List (List Int)} (h:wM f L) {x k d:Nat} (w:x<L.length) (A:d<f.a6P.length):wM f (L.set x (L[x].set k d)):=by
 refine⟨by rw[a9X]; exact h.len,fun v u=>?_,fun r j=>?_⟩
 ·rw[a9X] at u;have:=h.row v u;rw[List.getElem_set];split
  ·rename_i e;subst e;rw[a9X]; exact this
  ·exact this
 ·rcases List.mem_or_eq_of_mem_set j with j | rfl
  ·exact h.home r j
  ·intro y l;rcases List.mem_or_eq_of_mem_set l with l | rfl
   ·exact h.home _ (a8G w) y l
   ·omega


structure O4 (C:Ctx):Prop extends q9 C where
 int:∀ n:Int,eJ n→aH C 47 [.int .i64 n] .nil (aI (.agg (mkT n 1).cells))
 mul:∀ a b,Lim a→Lim b→a.length≤35184372087808→b.length≤35184372087808→aH C 36 [aK a,aK b] .nil (aI (opV (fD (val a) (val b)) (val a*val b)))
 add:∀ a b,Lim a→Lim b→a.length≤35184372087808→b.length≤35184372087808→aH C 30 [aK a,aK b] .nil (aI (opV (fD (val a) (val b)) (val a+val b)))
 sub:∀ a b,Lim a→Lim b→a.length≤35184372087808→b.length≤35184372087808→aH C 37 [aK a,aK b] .nil (aI (xE (val a) (val b)))
theorem Mp (a b:Nat):dS a b=(decide (nl b>0)&&(decide (nl b≤128)&&decide (nl a≤128))):=by
 have:=@kX b;refine Bool.eq_iff_iff.2 ?_;rw[jG];simp only[a9A,decide_eq_true_eq];omega
theorem aKY {C:Ctx} (L:O4 C) (neg:Bool) (a b:List Nat) (x:Lim a) (hb:Lim b) (y:a.length≤35184372087808) (w:b.length≤35184372087808) :
  MB.wp C (aT agZ.res (aI (.bool (dS (val a) (val b))))) (PF.args [.agg (fS neg a b)]) .nil:=by
 rw[Mp];simp only[go_sem,MB,M9,Nb,agZ];refine aB (L.trim b hb w) rfl ?_;simp only[go_sem,a8E,bC];by_cases l:nl (val b)>0
 ·have e:((nl (val b):Nat):Int)>0:=Om;simp only[go_sem,e];refine aB (L.trim b hb w) rfl ?_;simp only[go_sem,a8E,bC];by_cases u:nl (val b)≤128
  ·have j:((nl (val b):Nat):Int)≤128:=Om;simp only[go_sem,j];refine aB (L.trim a x y) rfl ?_;simp only[go_sem,a8E,bC];refine aR (.inr rfl) rfl ?_;have:decide (((nl (val a):Nat):Int)≤128)=decide (nl (val a)≤128):=by refine decide_eq_decide.2 ?_;omega
   rw[cB,this,decide_eq_true l,decide_eq_true u];rfl
  ·have j:¬ ((nl (val b):Nat):Int)≤128:=Om;simp only[go_sem,j];refine aR (.inr rfl) rfl ?_;rw[cB,decide_eq_false u,a8O,a9Q]
 ·have e:¬ ((nl (val b):Nat):Int)>0:=Om;simp only[go_sem,e];refine aR (.inr rfl) rfl ?_;rw[cB,decide_eq_false l,a8O]
theorem ko {neg:Bool} {a b:Nat} (h:dS a b=true):lG neg a b=.ok (qX neg a b):=by
 obtain⟨w,e,j⟩:=jG.1 h;have l:=(qD (a/a8I a b) 128).2 (wj _ j);have u:=(qD (b/a8I a b) 128).2 (wj _ e);unfold lG qX;rw[if_neg Om]
def azU (a b:Nat):Bool:=decide (nl a>128)||decide (nl b>128)
theorem aKV {C:Ctx} (neg:Bool) (a b:List Nat) :
  LX.wp C (aT agA.res (aI (.bool (decide (a.length>128)||decide (b.length>128))))) (PF.args [.agg (fS neg a b)]) .nil:=by
 simp only[go_sem,LX,Mr,Ms,agA,a8E];by_cases c:a.length>128
 ·have e:(a.length:Int)>128:=Om;simp only[go_sem,e];refine aR (.inr rfl) rfl ?_;rw[cB,decide_eq_true c,Bool.true_or]
 ·have e:¬ (a.length:Int)>128:=Om;simp only[go_sem,e,a8E];refine aR (.inr rfl) rfl ?_;have:decide ((b.length:Int)>128)=decide (b.length>128):=by refine decide_eq_decide.2 ?_;omega
  rw[cB,this,decide_eq_false c,Bool.false_or]
def Q3 (x:FV):FR:=if azU x.2.1 x.2.2 then .error 2 else .ok x
theorem aTJ (neg:Bool) (a b:Nat):Q3 (qX neg a b)=lG neg a b:=by
 have e:=qD (a/a8I a b) 128;have j:=qD (b/a8I a b) 128;unfold Q3 qX lG azU;simp only[Bool.or_eq_true,decide_eq_true_eq];by_cases c:nl (a/a8I a b)>128∨nl (b/a8I a b)>128
 ·rw[if_pos c,if_pos Om]
 ·rw[if_neg c,if_neg Om]
structure re (C:Ctx):Prop extends O4 C where
 valid:∀ x:RF,x.Ok→aH C 56 [.agg x.cells] .nil (aI (.bool (dS (val x.num) (val x.den))))
 big:∀ x:FV,aH C 48 [.agg x.rf.cells] .nil (aI (.bool (azU x.2.1 x.2.2)))
theorem aQY {C:Ctx} (L:re C) (x:FV):TF.wp C (aT aEK.res (cP (frV (Q3 x)))) (PF.args [.agg x.rf.cells]) .nil:=by
 simp only[go_sem,TF,afU,aEK];refine aO fun o e=>?_;simp only[go_sem,afV];refine aB (L.big x) rfl ?_;unfold Q3;cases azU x.2.1 x.2.2 with
 | true =>simp only[go_sem,afW];refine kW ?_;simp only[go_sem]
 | false =>obtain⟨n,a,b⟩:=x;simp only[go_sem,afX];exact bA (.inr rfl) .nil (vs:=[.agg (FV.rf (n,a,b)).cells,.int .i64 0]) Sq a_ ⟨.refl _,rfl⟩
theorem aEP {C:Ctx} (L:re C) (x:RF) (j:x.Ok):HK.wp C (aT D1.res (cP (frV (tJ x)))) (PF.args [.agg x.cells]) .nil:=by
 simp only[go_sem,HK,zc,D1];refine aO fun o w=>?_;simp only[go_sem,zd];refine aB (L.valid x j) rfl ?_;unfold tJ;cases l:dS (val x.num) (val x.den) with
 | false =>simp only[go_sem,a8X,ze];refine kW ?_;simp only[go_sem]
 | true =>obtain⟨u,y,A⟩:=jG.1 l;have e:=ko (neg:=x.neg) l;rw[if_pos rfl,e];simp only[go_sem,a8Q,zf];refine aB (L.lowest x.neg x.num x.den j.1 j.2.1 j.2.2.1 j.2.2.2 Om Om u) rfl ?_;simp only[go_sem];exact bA (.inr rfl) .nil (vs:=[.agg (qX x.neg (val x.num) (val x.den)).rf.cells,.int .i64 0]) Sq a_ ⟨.refl _,rfl⟩
theorem aKX {C:Ctx} (L:O4 C) (a b:List Nat) (e:Lim a) (hb:Lim b) (j:a.length≤35184372087808) (l:b.length≤35184372087808) (u:nl (val a)≤256) (w:nl (val b)≤256) :
  LZ.wp C (aT agY.res (aI (aK (aJ (val a*val b))))) (PF.args [aK a,aK b]) .nil:=by
 simp only[go_sem,LZ,M5,M6,agY];refine aB (L.mul a b e hb j l) rfl ?_;have:=pT u w;rw[kV Om Om,opV,HG Om];simp only[go_sem,M7];refine aR (.inr rfl) rfl ?_;rfl
structure Pz (C:Ctx):Prop extends re C where
 fits:∀ x:FV,aH C 57 [.agg x.rf.cells] .nil (aI (frV (Q3 x)))
 red:∀ x:RF,x.Ok→aH C 52 [.agg x.cells] .nil (aI (frV (tJ x)))
 prod:∀ a b,Lim a→Lim b→a.length≤35184372087808→b.length≤35184372087808→nl (val a)≤256→nl (val b)≤256→aH C 60 [aK a,aK b] .nil (aI (aK (aJ (val a*val b))))
def RF.valid (x:RF):Prop:=dS (val x.num) (val x.den)=true
def uC (x y:RF):Int:=wZ x.neg (val x.num) (val x.den) y.neg (val y.num) (val y.den)
def voS:Spec:=fun name vs=>match name,vs with
 | 60,[x,y]=>some ([],fun _=>aI (aK (aJ (val (mD x)*val (mD y)))))
 | _,_=>none
theorem CI (a b:List Nat):voS 60 [aK a,aK b]=some ([],fun _=>aI (aK (aJ (val a*val b)))):=by
 show some _=_; rw[fQ,fQ]
theorem Ep (a b:Nat):eQ b a=- eQ a b:=by
 unfold eQ;rcases Nat.lt_trichotomy a b with h | h | h
 ·rw[if_neg Om,if_pos h,if_pos h]; rfl
 ·subst h;rw[if_neg Om,if_neg Om]; rfl
 ·rw[if_pos h,if_neg Om,if_pos h]
set_option maxHeartbeats 1000000 in
theorem aKW {C : Ctx} (L : Pz C) (x y : RF) (hx : x.Ok) (hy : y.Ok) (vx : x.valid) (vy : y.valid) : LY.wp C (aT agL.res (aI (.int .i64 (uC x y)))) (PF.args [.agg x.cells, .agg y.cells]) .nil := by
  obtain ⟨n1, a1, b1⟩ := x;obtain ⟨n2, a2, b2⟩ := y;obtain ⟨ha1, hb1, la1, lb1⟩ := hx;obtain ⟨ha2, hb2, la2, lb2⟩ := hy;obtain ⟨v1, v2, v3⟩ := jG.1 vx;obtain ⟨w1, w2, w3⟩ := jG.1 vy;simp only at ha1 hb1 la1 lb1 ha2 hb2 la2 lb2 v1 v2 v3 w1 w2 w3;have m1 := pT v3 w2;have m2 := pT w3 v2;have hA : decide (val a1 ≠ 0) = decide (nl (val a1 * val b2) > 0) := by refine decide_eq_decide.2 ?_;have := @kX (val a1 * val b2);rw [Nat.mul_eq_zero] at this;omega
  have hB : decide (val a2 ≠ 0) = decide (nl (val a2 * val b1) > 0) := by refine decide_eq_decide.2 ?_;have := @kX (val a2 * val b1);rw [Nat.mul_eq_zero] at this;omega
  unfold uC wZ;simp only [hA, hB];simp only[go_sem,LY,Mu,agL];refine aV .nil voS a_ ?_;simp only[go_sem,Mv];refine cC (CI a1 b2) (L.prod a1 b2 ha1 hb2 la1 lb2 Om Om) rfl a_ ?_;simp only[go_sem];refine cC (CI a2 b1) (L.prod a2 b1 ha2 hb1 la2 lb1 Om Om) rfl a_ ?_;have hc := L.cmp (aJ (val a1 * val b2)) (aJ (val a2 * val b1)) (aX _) (aX _) (by rw [bC]; omega) (by rw [bC]; omega);have hd := L.cmp (aJ (val a2 * val b1)) (aJ (val a1 * val b2)) (aX _) (aX _) (by rw [bC]; omega) (by rw [bC]; omega);rw [aU, aU] at hc hd;rw [Ep (val a1 * val b2)] at hd;generalize val a1 * val b2 = A at *
  generalize val a2 * val b1 = B at *
  have gA : decide (((nl A : Nat) : Int) > 0) = decide (nl A > 0) := decide_eq_decide.2 Om;have gB : decide (((nl B : Nat) : Int) > 0) = decide (nl B > 0) := decide_eq_decide.2 Om;generalize decide (nl A > 0) = p at *
  generalize decide (nl B > 0) = q at *
  cases n1 <;> cases n2 <;> cases p <;> cases q
  all_goals
    simp only[go_sem,Mw,a8E,bC,gA,gB,Mx,My,Mz,M0,M1,M2,M3]
    first
    | (refine aR (.inr rfl) rfl ?_; rfl)
    | (refine aB hc rfl ?_
       simp only[go_sem];refine aR (.inr rfl) rfl ?_;rfl)
    | (refine aB hd rfl ?_
       simp only[go_sem];refine aR (.inr rfl) rfl ?_;rfl)
structure FW (C:Ctx):Prop extends Pz C where
 order:∀ x y:RF,x.Ok→y.Ok→x.valid→y.valid→aH C 51 [.agg x.cells,.agg y.cells] .nil (aI (.int .i64 (uC x y)))
theorem aRB {C:Ctx} (L:FW C) (x y:RF) (e:x.Ok) (j:y.Ok) (l:x.valid) (u:y.valid):TH.wp C (aT aEN.res (aI (.bool (decide (uC x y<0))))) (PF.args [.agg x.cells,.agg y.cells]) .nil:=by
 simp only[go_sem,TH,agB,agC,aEN];refine aB (L.order x y e j l u) rfl ?_;simp only[go_sem];refine aR (.inr rfl) rfl ?_;rfl
theorem aRD {C:Ctx} (L:FW C) (x y:RF) (e:x.Ok) (j:y.Ok) (l:x.valid) (u:y.valid):TL.wp C (aT aEQ.res (aI (.bool (uC x y==0)))) (PF.args [.agg x.cells,.agg y.cells]) .nil:=by
 simp only[go_sem,TL,agM,agN,aEQ];refine aB (L.order x y e j l u) rfl ?_;simp only[go_sem];refine aR (.inr rfl) rfl ?_;rfl
theorem NC (n:Int):mkT n 1=⟨decide (n<0),aJ n.natAbs,aJ 1⟩:=by
 unfold mkT qX FV.rf;rw[show (1:Int).natAbs=1 from rfl,Nat.gcd_one_right,Nat.div_one,Nat.div_one,show decide ((1:Int)<0)=false from rfl];congr 1;by_cases h:n<0
 ·have:n.natAbs≠0:=Om;simp[h,this]
 ·simp[h]
theorem NA (n:Int) (h:eJ n):(mkT n 1).Ok∧(mkT n 1).valid:=by
 have e:nl n.natAbs≤2:=sN (by unfold eJ at h; omega);rw[NC];refine⟨⟨aX _,aX _,?_,?_⟩,?_⟩
 ·simp only[bC]; omega
 ·simp only[BY]; decide
 ·unfold RF.valid;simp only[aU];rw[Mp];have:nl 1=1:=by rw[nl,BY]; rfl
  simp[this];omega
def wL (x:RF):Int:=if val x.num=0 then 0 else if x.neg then -1 else 1
theorem aPF (x:RF):uC x (mkT 0 1)=wL x:=by
 rw[NC];unfold uC wL wZ;simp only[aU,show (0:Int).natAbs=0 from rfl,Nat.mul_one,Nat.zero_mul];by_cases h:val x.num=0
 ·simp[h,eQ]
 ·cases x.neg<;>simp[h,eQ]
def viS (r:Int):Spec:=fun name _=>if name=47 then some ([],fun _=>aI (.agg (mkT 0 1).cells)) else some ([],fun _=>aI (.int .i64 r))
theorem aRE {C:Ctx} (L:FW C) (x:RF) (l:x.Ok) (u:x.valid):TM.wp C (aT aER.res (aI (.int .i64 (wL x)))) (PF.args [.agg x.cells]) .nil:=by
 have e:eJ 0:=by unfold eJ; omega
 have j:=L.order x (mkT 0 1) l (NA 0 e).1 u (NA 0 e).2;rw[aPF] at j;simp only[go_sem,TM,agP,aER];refine aV .nil (viS (wL x)) a_ ?_;simp only[go_sem,agQ];refine cC rfl (L.int 0 e) rfl a_ ?_;simp only[go_sem];refine cC rfl j rfl a_ ?_;simp only[go_sem];refine aR (.inr rfl) rfl ?_;rfl
theorem aKS {C:Ctx} (L:FW C) (l E:Bool) (a1 u a2 w:List Nat) (U:Lim a1) (N:Lim u) (V:Lim a2) (O:Lim w)
  (W:a1.length≤35184372087808) (R:u.length≤35184372087808) (Z:a2.length≤35184372087808) (S:w.length≤35184372087808) :
  JB.wp C (aT aEH.res (cP (frV (lT (l,val a1,val u) (E,val a2,val w))))) (PF.args [.agg (fS l a1 u),.agg (fS E a2 w)]) .nil:=by
 have vx:aH C 56 [.agg (fS l a1 u)] .nil (aI (.bool (dS (val a1) (val u)))):=L.valid ⟨l,a1,u⟩ ⟨U,N,W,R⟩;have vy:aH C 56 [.agg (fS E a2 w)] .nil (aI (.bool (dS (val a2) (val w)))):=L.valid ⟨E,a2,w⟩ ⟨V,O,Z,S⟩;simp only[go_sem,JB,axI,aEH];refine aO fun o ho=>?_;simp only[go_sem,axJ];refine aB vx rfl ?_;simp only[lT];cases hv:dS (val a1) (val u) with
 | false =>simp only[go_sem,a8X,Dy,a8O];refine kW ?_;simp only[go_sem]
 | true =>
  obtain⟨v1,v2,v3⟩:=jG.1 hv;simp only[go_sem,a8Q];refine aB vy rfl ?_;cases hw:dS (val a2) (val w) with
  | false =>simp only[go_sem,a8X,Dy,a9Q];refine kW ?_;simp only[go_sem]
  | true =>
   obtain⟨w1,w2,w3⟩:=jG.1 hw;simp only[go_sem,a8Q,baI];refine aV .nil voS a_ ?_;simp only[go_sem,axK];refine cC (CI a1 w) (L.prod a1 w U O W S Om Om) rfl a_ ?_;simp only[go_sem];refine cC (CI a2 u) (L.prod a2 u V N Z R Om Om) rfl a_ ?_;simp only[go_sem];refine cC (CI u w) (L.prod u w N O R S Om Om) rfl a_ ?_;simp only[go_sem];have m1:=pT v3 w2;have m2:=pT w3 v2;have m3:=pT v2 w2;have d0:val u*val w≠0:=Nat.mul_ne_zero v1 w1;generalize hA:val a1*val w=A at *
   generalize hB:val a2*val u=B at *
   generalize hD:val u*val w=D at *
   have fin:∀ (F:PF) (H:PH) (r:FR),(∃ j x y e,frV r=.tup [.agg (fS j x y),.int .i64 e]∧F 4=some (.ptr o 3 0 0)∧F 5=some (.int .i64 e)∧H o=some (.rows 3 [fS j x y]))→aT [.cell 4 (some 3),.tmp 5] (cP (frV r)) .ret F H:=by rintro F H r ⟨j,x,y,e,he,f4,f5,hH⟩;rw[he];exact bA (.inr rfl) .nil (vs:=[.agg (fS j x y),.int .i64 e]) (by simp only[go_sem,f4,f5,hH]) a_ ⟨.refl _,rfl⟩
   have eb:(l==E)=decide (l=E):=by cases l<;>cases E<;>rfl
   have low:∀ neg x,nl x≤257→aH C 58 [.bool neg,aK (aJ x),aK (aJ D)] .nil (aI (.agg (qX neg x D).rf.cells)):=by
    intro neg x hx;have h1:(aJ x).length≤35184372087808:=by rw[bC]; omega
    have h2:(aJ D).length≤35184372087808:=by rw[bC]; omega
    have:=L.lowest neg (aJ x) (aJ D) (aX _) (aX _) h1 h2;rw[aU,aU] at this;exact this Om Om d0
   have M:∀ neg x,aH C 57 [.agg (qX neg x D).rf.cells] .nil (aI (frV (lG neg x D))):=fun neg x=>by
    have:=L.fits (qX neg x D)
    rwa [aTJ] at this
   have lA:(aJ A).length≤35184372087808:=by rw[bC]; omega
   have lB:(aJ B).length≤35184372087808:=by rw[bC]; omega
   simp only[go_sem,axL];by_cases c:l=E
   ·rw[if_pos c];have c':(l==E)=true:=by rw[eb,decide_eq_true c]
    simp only[go_sem,c',axM];have J:=L.add (aJ A) (aJ B) (aX _) (aX _) lA lB;have α:=Yo m1 m2;rw[aU,aU,kV Om Om,opV,HG Om] at J;refine aB J rfl ?_;simp only[go_sem,axN];refine aB (low l _ Om) rfl ?_;simp only[go_sem];refine aB (M l _) rfl ?_;obtain⟨j,x,y,e,I⟩:=zX (lG l (A+B) D);rw[I];simp only[go_sem];rw[← I];exact fin _ _ _ ⟨j,x,y,e,I,by simp only[go_sem],by simp only[go_sem],by simp only[go_sem]⟩
   ·rw[if_neg c];have c':(l==E)=false:=by rw[eb,decide_eq_false c]
    simp only[go_sem,c',axO];have hc:=L.cmp (aJ A) (aJ B) (aX _) (aX _) lA lB;rw[aU,aU] at hc;refine aB hc rfl ?_;have K:∀ X Y:Nat,nl X≤256→nl Y≤256→Y≤X→aH C 37 [aK (aJ X),aK (aJ Y)] .nil (aI (.tup [aK (aJ (X-Y)),.int .i64 0])):=by intro X Y h1 h2 h;have:=L.sub (aJ X) (aJ Y) (aX _) (aX _) (by rw[bC]; omega) (by rw[bC]; omega);have h3:=jK (Om:X-Y≤X);rw[aU,aU,xE,kV Om Om,if_neg (by decide),if_neg Om,HG Om] at this;exact this
    by_cases g:B≤A
    ·have g':eQ A B≥0:=(ba A B).2 g;rw[if_pos g];simp only[go_sem,g',axP];refine aB (K A B Om Om g) rfl ?_;simp only[go_sem,axQ];have h3:=jK (Om:A-B≤A);refine aB (low l (A-B) Om) rfl ?_;simp only[go_sem];refine aB (M l _) rfl ?_;obtain⟨j,x,y,e,I⟩:=zX (lG l (A-B) D);rw[I];simp only[go_sem];rw[← I];exact fin _ _ _ ⟨j,x,y,e,I,by simp only[go_sem],by simp only[go_sem],by simp only[go_sem]⟩
    ·have g':¬ eQ A B≥0:=fun h=>g ((ba A B).1 h);rw[if_neg g];simp only[go_sem,g',afQ];refine aB (K B A Om Om Om) rfl ?_;simp only[go_sem,afR];have h3:=jK (Om:B-A≤B);refine aB (low E (B-A) Om) rfl ?_;simp only[go_sem];refine aB (M E _) rfl ?_;obtain⟨j,x,y,e,I⟩:=zX (lG E (B-A) D);rw[I];simp only[go_sem];rw[← I];exact fin _ _ _ ⟨j,x,y,e,I,by simp only[go_sem],by simp only[go_sem],by simp only[go_sem]⟩
theorem aWQ {C:Ctx} (L:FW C) (x y:RF) (e:x.Ok) (j:y.Ok):JB.wp C (aT aEH.res (cP (frV (lT x.v y.v)))) (PF.args [.agg x.cells,.agg y.cells]) .nil :=
 aKS L x.neg y.neg x.num x.den y.num y.den e.1 e.2.1 j.1 j.2.1 e.2.2.1 e.2.2.2 j.2.2.1 j.2.2.2
structure azK (C:Ctx):Prop extends FW C where
 less:∀ x y:RF,x.Ok→y.Ok→x.valid→y.valid→aH C 49 [.agg x.cells,.agg y.cells] .nil (aI (.bool (decide (uC x y<0))))
 same:∀ x y:RF,x.Ok→y.Ok→x.valid→y.valid→aH C 53 [.agg x.cells,.agg y.cells] .nil (aI (.bool (uC x y==0)))
 sign:∀ x:RF,x.Ok→x.valid→aH C 54 [.agg x.cells] .nil (aI (.int .i64 (wL x)))
 plus:∀ x y:RF,x.Ok→y.Ok→aH C 46 [.agg x.cells,.agg y.cells] .nil (aI (frV (lT x.v y.v)))
def vsF (l:List RF) (o2 o4 k:Nat):PF:=((((PF.nil.set 0 (frs l)).set 2 (.ptr o2 3 0 0)).set 4 (.ptr o4 3 0 0)).set 5 (.int .i64 k))
theorem aWT {C:Ctx} (L:azK C) (l:List RF) (hl:∀ x∈l,x.Ok) (X:l.length≤9223372036854775807) :
  ZU.wp C (aT aRG.res (cP (frV (uH (l.map RF.v))))) (PF.args [frs l]) .nil:=by
 have h0:eJ 0:=by unfold eJ; omega
 have hi:(mkT 0 1).cells=(FV.rf (false,0,1)).cells:=by rw[NC]; rfl
 have B:=L.int 0 h0;rw[hi] at B;simp only[go_sem,ZU,axY,aRG];refine aO fun o2 β=>?_;have h1:aM (PH.nil.set o2 (.rows 3 [[.bool false,.aD,.aD]])) [(o2,.rows 3 [[.bool false,.aD,.aD]])] []:=aM.nil.new (H:=PH.nil) rfl _;generalize (PH.nil.set o2 _)=H1 at *
 simp only[go_sem,axZ];refine aB B rfl ?_;simp only[go_sem];refine aO fun o4 W=>?_;have h2:=h1.new W (.rows 3 [(FV.rf (false,0,1)).cells]);simp only[go_sem,ayA];refine wp_loop (α:=Nat × FV × PH) (fun t=>vsF l o2 o4 t.1) (fun t=>t.2.2) (fun t=>t.1≤l.length∧((l.map RF.v).take t.1).foldlM lT (false,0,1)=.ok t.2.1∧aM t.2.2 [(o2,.rows 3 [[.bool false,.aD,.aD]]),(o4,.rows 3 [(FV.rf t.2.1).cells])] []∧(FV.rf t.2.1).Ok) (fun t=>l.length-t.1)
  (0,(false,0,1),_) ⟨a8K _,rfl,h2,⟨aX _,aX _,?_,?_⟩⟩ ?_ b_ ?_
 ·show (aJ 0).length≤_;rw[jD]; simp
 ·show (aJ 1).length≤_;rw[BY]; simp
 ·unfold vsF;exact Lq
 rintro⟨k,u,H0⟩ ⟨hk,N,F,y⟩;simp only at hk N F y ⊢;simp only[go_sem,axX,ayB,vsF,a8E];by_cases hlt:k<l.length
 ·have w:(k:Int)<(l.length:Nat):=Om;have hr:(l.map RF.cells)[k]?=some (l[k]).cells:=by simp[hlt]
  have A:=L.plus (FV.rf u) l[k] y (hl _ (a8G hlt));rw[FV.aYS] at A;have j:=dh (f:=lT) (l.map RF.v) (false,0,1) (k:=k) (by simpa using hlt);rw[N] at j;simp only[Except.bind,bbF] at j;have R:=F.at 1 rfl;simp only[go_sem,w];refine aV .nil (fun _ _=>some ([],fun _=>aI (frV (lT u (l[k]).v)))) a_ ?_;simp only[go_sem,ayC,R,hr];refine cC rfl A rfl a_ ?_;cases he:lT u (l[k]).v with
  | error e =>
   have V:e≠0:=by
    revert he;obtain⟨n1,a1,b1⟩:=u;obtain⟨n2,a2,b2⟩:=(l[k]).v;simp only[lT,lG]
    repeat' split
    all_goals (intro h; first | (injection h with h; subst h; decide) | cases h)
   rw[he] at j;simp only[go_sem,frV];refine aO fun o6 E=>?_;simp only[go_sem];refine⟨a_,?_⟩;have I:=F.new E (.rows 3 [[.bool false,aK [],aK []]]);have O:=I.at 0 rfl;simp only[go_sem,D2,cM V,ayD,O];rw[uH,sv _ _ j];refine kW ?_;simp only[go_sem]
  | ok r =>
   rw[he] at j;obtain⟨M,J,K⟩:=r;simp only[go_sem,frV];refine aO fun o6 E=>?_;simp only[go_sem];refine⟨a_,?_⟩;have I:=F.new E (.rows 3 [(FV.rf (M,J,K)).cells]);have Z:=I.at 2 rfl;have S:=I.at 1 rfl;generalize hG:H0.set o6 (.rows 3 [(FV.rf (M,J,K)).cells])=Y at *
   have U:H0.set o6 (.rows 3 [[.bool M,aK (aJ J),aK (aJ K)]])=Y:=hG;simp only[go_sem,D2,ayE,U,Z,S,ayF,wZz k];have h7:=(I.set 1 rfl (.rows 3 [(FV.rf (M,J,K)).cells])).uQ 2;refine aG (k+1,(M,J,K),_) ⟨hlt,j,h7,Bg he⟩ (by simp only; omega) ?_ b_;exact Lq
 ·have w:¬ (k:Int)<(l.length:Nat):=Om;have:k=l.length:=Om;subst this;rw[a8V (by simp)] at N;rw[uH,N];have O:=F.at 0 rfl;have R:=F.at 1 rfl;obtain⟨n,a,b⟩:=u;simp only[go_sem,w,agX,R,O];exact bA (.inr rfl) .nil (vs:=[.agg (FV.rf (n,a,b)).cells,.int .i64 0]) Sq a_ ⟨.refl _,rfl⟩
theorem dge {n:Nat} (k:Nat):decide ((n:Int)≥(k:Int))=decide (k≤n):=decide_eq_decide.2 Om
theorem dle {n:Nat} (k:Nat):decide ((n:Int)≤(k:Int))=decide (n≤k):=decide_eq_decide.2 Om
theorem aEV {C:Ctx} (n:Nat):HO.wp C (aT D8.res (aI (.bool (jJ n)))) (PF.args [.int .u8 n]) .nil:=by
 have e:=dge (n:=n) 97;have j:=dle (n:=n) 122;have l:=dge (n:=n) 65;have u:=dle (n:=n) 90;simp only[Int.cast_ofNat_Int] at e j l u;unfold jJ;generalize decide (97≤n)=a at *
 generalize decide (n≤122)=b at *
 generalize decide (65≤n)=c at *
 generalize decide (n≤90)=d at *
 cases a<;>cases b<;>cases c<;>cases d
 all_goals
  simp only[go_sem,HO,zy,zz,D8,e,j,l,u];refine aR (.inr rfl) rfl ?_;rfl
theorem aKZ {C:Ctx} (n:Nat):MD.wp C (aT ahA.res (aI (.bool (qI n)))) (PF.args [.int .u8 n]) .nil:=by
 have e:=dge (n:=n) 48;have j:=dle (n:=n) 57;simp only[Int.cast_ofNat_Int] at e j;unfold qI;generalize decide (48≤n)=a at *
 generalize decide (n≤57)=b at *
 cases a<;>cases b
 all_goals
  simp only[go_sem,MD,Nd,Nf,ahA,e,j];refine aR (.inr rfl) rfl ?_;rfl
theorem aET {C:Ctx} (e:∀ n:Nat,aH C 65 [.int .u8 n] .nil (aI (.bool (jJ n)))) (j:∀ n:Nat,aH C 63 [.int .u8 n] .nil (aI (.bool (qI n)))) (n:Nat) :
  HM.wp C (aT D6.res (aI (.bool (lL n)))) (PF.args [.int .u8 n]) .nil:=by
 have g1:((n:Int)==45)=decide (n=45):=by by_cases h:n=45<;>simp[h]; omega
 have g2:((n:Int)==46)=decide (n=46):=by by_cases h:n=46<;>simp[h]; omega
 have k1:=e n;have k2:=j n;unfold lL;generalize decide (n=45)=a at *
 generalize decide (n=46)=b at *
 simp only[go_sem,HM,zj,zk,D6];refine aB k1 rfl ?_;cases jJ n with
 | true =>simp only[go_sem];refine aR (.inr rfl) rfl ?_;rfl
 | false =>
  simp only[go_sem];refine aB k2 rfl ?_;cases qI n<;>cases a<;>cases b
  all_goals
   simp only[go_sem,g1,g2];refine aR (.inr rfl) rfl ?_;rfl
theorem aEU {C:Ctx} (E:∀ n:Nat,aH C 65 [.int .u8 n] .nil (aI (.bool (jJ n)))) (F:∀ n:Nat,aH C 64 [.int .u8 n] .nil (aI (.bool (lL n)))) (s:List UInt8) :
  HN.wp C (aT D7.res (aI (.bool (isName s)))) (PF.args [.str s]) .nil:=by
 simp only[go_sem,HN,zn,zo,D7];cases s with
 | nil =>have B:decide (((0:Nat):Int)<1)=true:=rfl;simp only[go_sem,EQ,baX,B];refine aR (.inr rfl) rfl ?_;rfl
 | cons c t =>
  have I:(c::t)[0]?=some c:=rfl;have l:isName (c::t)=(decide ((c::t).length≤16)&&jJ c.toNat&&(c::t).all fun c=>lL c.toNat):=rfl;have j:¬ (((c::t).length:Nat):Int)<1:=by simp only[a9Y]; omega
  generalize c::t=s at *
  by_cases A:s.length≤16
  ·have u:¬ (s.length:Int)>16:=Om;rw[decide_eq_true A,a8U] at l;have k1:=E c.toNat;simp only[go_sem,j,u,I,a9J];refine aB k1 rfl ?_;cases y:jJ c.toNat with
   | false =>simp only[go_sem,a8X,EQ];refine aR (.inr rfl) rfl ?_;rw[cB,l,y,a8O]
   | true =>
    rw[y,a8U] at l;simp only[go_sem,a8Q,zp];refine wp_loop (α:=Nat) (fun k=>((PF.nil.set 0 (.str s)).set 3 (.int .i64 k))) (fun _=>.nil) (fun k=>k≤s.length∧(s.take k).all (fun c=>lL c.toNat)=true) (fun k=>s.length-k) 0 ⟨a8K _,rfl⟩ Lq a_ ?_;rintro k ⟨J,w⟩;simp only[go_sem,zm,zq];by_cases hlt:k<s.length
    ·have e:(k:Int)<(s.length:Nat):=Om;have x:s[k]?=some s[k]:=a8L hlt;have k2:=F (s[k]).toNat;simp only[go_sem,e,zr,x,a9J];refine aB k2 rfl ?_;cases hi:lL (s[k]).toNat with
     | false =>simp only[go_sem,a8X,zt];refine aR (.inr rfl) rfl ?_;rw[cB,l,tQ hlt hi]
     | true =>simp only[go_sem,a8Q,zu,wZz k];exact aG (k+1) ⟨hlt,by simpa using tP hlt w hi⟩ Om Lq b_
    ·have e:¬ (k:Int)<(s.length:Nat):=Om;have:k=s.length:=Om;subst this;rw[a9M] at w;simp only[go_sem,e,zw];refine aR (.inr rfl) rfl ?_;rw[cB,l,w]
  ·have u:(s.length:Int)>16:=Om;rw[decide_eq_false A,a8O,a8O] at l;simp only[go_sem,j,u,EQ];refine aR (.inr rfl) rfl ?_;rw[cB,l]
def NX (k m:Int):Bool:=within k 1 6&&(within m 0 4&&decide (k+m≤8))
theorem aPW {C:Ctx} (k m:Int):sO.wp C (aT SA.res (aI (.bool (NX k m)))) (PF.args [.int .i64 k,.int .i64 m]) .nil:=by
 unfold NX within;by_cases e:1≤k
 ·by_cases j:k≤6
  ·by_cases l:0≤m
   ·by_cases u:m≤4
    ·have w:IntKind.i64.wrap (k+m)=k+m:=wrap_i64 Om Om;simp only[go_sem,sO,AK,AL,SA,ge_iff_le,e,j,l,u,w];refine aR (.inr rfl) rfl ?_;simp[cB,e,j,l,u]
    ·simp only[go_sem,sO,AK,AL,SA,ge_iff_le,e,j,l,u];refine aR (.inr rfl) rfl ?_;simp[cB,e,j,l,u]
   ·simp only[go_sem,sO,AK,AL,SA,ge_iff_le,e,j,l];refine aR (.inr rfl) rfl ?_;simp[cB,e,j,l]
  ·simp only[go_sem,sO,AK,AL,SA,ge_iff_le,e,j];refine aR (.inr rfl) rfl ?_;simp[cB,e,j]
 ·simp only[go_sem,sO,AK,AL,SA,ge_iff_le,e];refine aR (.inr rfl) rfl ?_;simp[cB,e]
def N9:List Nat:=[1]
def MM:=bM N9 Proofs.Tryz.f69
def N7:=aA MM 0
def N8:=aA MM 1
def JD:=aA MM 2
def ML:aC:=(sq N7 (sq N8 (sq JD .ret)))
def aiF:aW:=⟨1,29,ML,[.tmp 2]⟩
def Am:List Nat:=[]
def mQ:=bM Am Proofs.Tryz.f100
def Ad:=aA mQ 0
def Ae:=aA mQ 1
def Af:=aA mQ 2
def Ag:=aA mQ 3
def Ah:=aA mQ 4
def Ai:=aA mQ 5
def Aj:=aA mQ 6
def Ak:=aA mQ 7
def Ac:aC:=(.seq (sq Ah (.cond (Tm 12) .skip (.exit 0))) (.seq (.block 1 (sq Ai (.cond (Tm 20) (sq Aj .ret) .skip))) (.region Ak)))
def Al:=aA mQ 8
def HR:aC:=(sq Ad (.seq (sq Ae (.cond (Tm 9) (sq Af .ret) .skip)) (.seq (sq Ag (.block 0 (.loop Ac))) (sq Al .ret))))
def Ek:aW:=⟨2,21,HR,[.tmp 4]⟩
def ayT:List Nat:=[1]
def eD:=bM ayT Proofs.Tryz.f66
def ayM:=aA eD 0
def ayN:=aA eD 1
def ayO:=aA eD 2
def FS:=aA eD 3
def ayP:=aA eD 4
def ayQ:=aA eD 5
def ayR:=aA eD 6
def Ea:=aA eD 7
def ayS:=aA eD 8
def ayL:aC:=(.seq (sq ayQ (.cond (Tm 44) .skip (.exit 0))) (.seq (.block 1 (sq ayR (.cond (Tm 66) (sq Ea .ret) .skip))) (.region ayS)))
def ahK:=aA eD 9
def qf:=bT eD 0
def qg:=aA eD 10
def ahL:=aA eD 11
def ahM:=aA eD 12
def ahN:=aA eD 13
def ahO:=aA eD 14
def ahP:=aA eD 15
def qh:=aA eD 16
def qi:=aA eD 17
def ahQ:=aA eD 18
def qj:=aA eD 19
def TS:=aA eD 20
def TR:aC:=(.seq (sq ahQ (.cond (Tm 111) .skip (.exit 6))) (.seq (.block 7 (.region qj)) (.region TS)))
def qk:=aA eD 21
def qc:aC:=(.seq (sq ahP (.cond (Tm 90) .skip (.exit 4))) (.seq (.block 5 (sq qh (sq qi (.block 6 (.loop TR))))) (.region qk)))
def ahR:=aA eD 22
def qd:aC:=(.seq (sq ahN (.cond (Tm 85) .skip (.exit 2))) (.seq (.block 3 (sq ahO (.block 4 (.loop qc)))) (.region ahR)))
def ahS:=aA eD 23
def ahT:=aA eD 24
def ql:=aA eD 25
def ahU:=aA eD 26
def ahV:=aA eD 27
def qe:aC:=(.seq (sq ahT (.cond (Tm 141) .skip (.exit 8))) (.seq (.block 9 (sq ql (.cond (Tm 148) (sq ahU .ret) .skip))) (.region ahV)))
def qn:=aA eD 28
def ai:aC:=(sq ayM (sq ayN (.seq (sq ayO (.cond (Tm 41) (sq FS .ret) .skip)) (.seq (sq ayP (.block 0 (.loop ayL))) (.seq (sq ahK (dq qf (.cond (Tm 80) (sq qg .ret) .skip))) (sq ahL (.seq (sq ahM (.block 2 (.loop qd))) (.seq (sq ahS (.block 8 (.loop qe))) (sq qn .ret)))))))))
def aRM:aW:=⟨1,149,ai,[.tmp 2]⟩
def azF:List Nat:=[]
def qV:=bM azF Proofs.Tryz.f107
def ayW:=aA qV 0
def ayX:=aA qV 1
def ayY:=aA qV 2
def ayZ:=aA qV 3
def azA:=aA qV 4
def azB:=aA qV 5
def azC:=aA qV 6
def azD:=aA qV 7
def ayV:aC:=(.seq (sq azA (.cond (Tm 14) .skip (.exit 0))) (.seq (.block 1 (sq azB (.cond (Tm 22) (sq azC .ret) .skip))) (.region azD)))
def azE:=aA qV 8
def al:aC:=(sq ayW (.seq (sq ayX (.cond (Tm 10) (sq ayY .ret) .skip)) (.seq (sq ayZ (.block 0 (.loop ayV))) (sq azE .ret))))
def aRO:aW:=⟨2,23,al,[.tmp 4]⟩
def A9:List Nat:=[]
def ap:=bM A9 Proofs.Tryz.f63
def UM:=aA ap 0
def UN:=aA ap 1
def zT:aC:=(sq UM (sq UN .ret))
def c7:aW:=⟨3,15,zT,[.tmp 6]⟩
def N6:List Nat:=[]
def iw:=bM N6 Proofs.Tryz.f64
def N4:=aA iw 0
def N5:=aA iw 1
def MK:aC:=(sq N4 (sq N5 .ret))
def aiE:aW:=⟨6,35,MK,[.tmp 12]⟩
def iv:List Nat:=[7]
def lE:=bM iv Proofs.Tryz.f70
def ik:=aA lE 0
def im:=aA lE 1
def BM:=aA lE 2
def io:=aA lE 3
def ip:=aA lE 4
def MJ:=aA lE 5
def iq:=aA lE 6
def ir:=aA lE 7
def ij:aC:=(.seq (sq ip (.cond (Tm 29) .skip (.exit 0))) (.seq (.block 1 (sq MJ (.cond (Tm 36) (sq iq .ret) .skip))) (.region ir)))
def iu:=aA lE 8
def CY:aC:=(sq ik (.seq (sq im (.cond (Tm 27) (sq BM .ret) .skip)) (.seq (sq io (.block 0 (.loop ij))) (sq iu .ret))))
def qo:aW:=⟨4,37,CY,[.tmp 8]⟩
def ayK:List Nat:=[6,7]
def Ns:=bM ayK Proofs.Tryz.f71
def ayI:=aA Ns 0
def ayJ:=bT Ns 0
def aa:aC:=(sq ayI (dq ayJ .ret))
def aRI:aW:=⟨4,26,aa,[.tmp 8]⟩
def N3:List Nat:=[]
def rE:=bM N3 Proofs.Tryz.f99
def Nx:=aA rE 0
def Ny:=aA rE 1
def Nz:=aA rE 2
def ac:=aA rE 3
def N0:=aA rE 4
def N1:=aA rE 5
def Nw:aC:=(.seq (sq Nz (.cond (Tm 9) .skip (.exit 0))) (.seq (.block 1 (sq ac (.cond (Tm 17) (sq N0 .ret) .skip))) (.region N1)))
def N2:=aA rE 6
def MI:aC:=(sq Nx (.seq (sq Ny (.block 0 (.loop Nw))) (sq N2 .ret)))
def ahJ:aW:=⟨2,19,MI,[.tmp 4]⟩
def Oh:List Nat:=[1]
def bQ:=bM Oh Proofs.Tryz.f36
def Oa:=aA bQ 0
def Ob:=aA bQ 1
def JE:=aA bQ 2
def Oc:=aA bQ 3
def Od:=aA bQ 4
def Oe:=aA bQ 5
def Of:=aA bQ 6
def Og:=aA bQ 7
def an:=aA bQ 8
def ao:=aA bQ 9
def TU:aC:=(.seq (sq Of (.cond (Tm 61) .skip (.exit 0))) (.seq (.block 1 (sq Og (.region an))) (.region ao)))
def An:=aA bQ 10
def Ao:=aA bQ 11
def Ap:=aA bQ 12
def Aq:=aA bQ 13
def TX:=aA bQ 14
def zQ:=aA bQ 15
def TV:aC:=(.seq (sq Ao (.cond (Tm 91) .skip (.exit 2))) (.seq (.block 3 (sq Ap (sq Aq (.region TX)))) (.region zQ)))
def Ar:=aA bQ 16
def TY:=aA bQ 17
def TZ:=aA bQ 18
def As:=aA bQ 19
def Au:=aA bQ 20
def Av:=aA bQ 21
def UA:=bT bQ 0
def sR:=aA bQ 22
def ER:aC:=(.seq (sq As (.cond (Tm 169) .skip (.exit 4))) (.seq (.block 5 (sq Au (sq Av (.draw UA)))) (.region sR)))
def UB:=aA bQ 23
def Aw:=aA bQ 24
def Ax:=aA bQ 25
def Ay:=aA bQ 26
def UC:=aA bQ 27
def zR:=aA bQ 28
def ES:aC:=(.seq (sq Aw (.cond (Tm 227) .skip (.exit 6))) (.seq (.block 7 (sq Ax (sq Ay (.region UC)))) (.region zR)))
def UD:=aA bQ 29
def Az:=aA bQ 30
def A0:=aA bQ 31
def A1:=aA bQ 32
def UE:=aA bQ 33
def zS:=aA bQ 34
def A2:=aA bQ 35
def A3:=bT bQ 1
def A4:=aA bQ 36
def A5:=aA bQ 37
def UF:=bT bQ 2
def UG:=aA bQ 38
def TW:aC:=(.seq (sq A5 (.cond (Tm 344) .skip (.exit 12))) (.seq (.block 13 (.draw UF)) (.region UG)))
def A6:=aA bQ 39
def ET:aC:=(.seq (sq A2 (.cond (Tm 329) .skip (.exit 10))) (.seq (.block 11 (dq A3 (sq A4 (.block 12 (.loop TW))))) (.region A6)))
def UH:=aA bQ 40
def EU:aC:=(.seq (sq Az (.cond (Tm 278) .skip (.exit 8))) (.seq (.block 9 (sq A0 (sq A1 (sq UE (sq zS (.block 10 (.loop ET))))))) (.region UH)))
def UI:=aA bQ 41
def A7:=aA bQ 42
def A8:=aA bQ 43
def UJ:=bT bQ 3
def UK:=aA bQ 44
def EV:aC:=(.seq (sq A7 (.cond (Tm 368) .skip (.exit 14))) (.seq (.block 15 (sq A8 (.draw UJ))) (.region UK)))
def UL:=aA bQ 45
def MN:aC:=(sq Oa (.seq (sq Ob (.cond (Tm 53) (sq JE .ret) .skip)) (sq Oc (sq Od (.seq (sq Oe (.block 0 (.loop TU))) (.seq (sq An (.block 2 (.loop TV))) (sq Ar (sq TY (.seq (sq TZ (.block 4 (.loop ER))) (.seq (sq UB (.block 6 (.loop ES))) (.seq (sq UD (.block 8 (.loop EU))) (.seq (sq UI (.block 14 (.loop EV))) (sq UL .ret)))))))))))))
def aiG:aW:=⟨1,397,MN,[.tmp 2]⟩
def Nv:List Nat:=[8]
def ii:=bM Nv Proofs.Tryz.f65
def Nt:=aA ii 0
def Nu:=aA ii 1
def MH:aC:=(sq Nt (sq Nu .ret))
def ahI:aW:=⟨2,18,MH,[.tmp 4,.tmp 5]⟩
theorem aFF {C:Ctx} (n lo hi:Int):zT.wp C (aT c7.res (aI (.bool (within n lo hi)))) (PF.args [.int .i64 n,.int .i64 lo,.int .i64 hi]) .nil:=by
 unfold within;by_cases h:lo≤n
 ·simp only[go_sem,zT,UM,UN,c7,ge_iff_le,h];refine aR (.inr rfl) rfl ?_;simp[cB,h]
 ·simp only[go_sem,zT,UM,UN,c7,ge_iff_le,h];refine aR (.inr rfl) rfl ?_;simp[cB,h]
def uG (a b c d e f:Nat):Bool:=decide (a≤4)&&(decide (b≤4)&&(decide (c≤40)&&(decide (d≤24)&&(decide (e≤4)&&decide (f≤12)))))
theorem aLH {C:Ctx} (a b c d e f:Nat):MK.wp C (aT aiE.res (aI (.bool (uG a b c d e f)))) (PF.args [.int .i64 a,.int .i64 b,.int .i64 c,.int .i64 d,.int .i64 e,.int .i64 f]) .nil:=by
 have g:∀ x k:Nat,decide ((x:Int)≤(k:Int))=decide (x≤k):=fun x k=>decide_eq_decide.2 Om;have j:=g a 4;have l:=g b 4;have u:=g c 40;have w:=g d 24;have h5:=g e 4;have y:=g f 12;simp only[Int.cast_ofNat_Int] at j l u w h5 y;unfold uG;simp only[go_sem,MK,N4,N5,aiE,j];cases decide (a≤4) with
 | false =>simp only[go_sem];refine aR (.inr rfl) rfl ?_;rfl
 | true =>
  simp only[go_sem,l];cases decide (b≤4) with
  | false =>simp only[go_sem];refine aR (.inr rfl) rfl ?_;rfl
  | true =>
   simp only[go_sem,u];cases decide (c≤40) with
   | false =>simp only[go_sem];refine aR (.inr rfl) rfl ?_;rfl
   | true =>
    simp only[go_sem,w];cases decide (d≤24) with
    | false =>simp only[go_sem];refine aR (.inr rfl) rfl ?_;rfl
    | true =>
     simp only[go_sem,h5];cases decide (e≤4) with
     | false =>simp only[go_sem];refine aR (.inr rfl) rfl ?_;rfl
     | true =>simp only[go_sem,y];refine aR (.inr rfl) rfl ?_;rfl
structure qy (C:Ctx):Prop extends azK C where
 sum:∀ l:List RF,(∀ x∈l,x.Ok)→l.length≤9223372036854775807→aH C 55 [frs l] .nil (aI (frV (uH (l.map RF.v))))
 inn:∀ n lo hi:Int,aH C 76 [.int .i64 n,.int .i64 lo,.int .i64 hi] .nil (aI (.bool (within n lo hi)))
 code:∀ k m:Int,aH C 61 [.int .i64 k,.int .i64 m] .nil (aI (.bool (NX k m)))
def RA (k m q s0 s1 s2 s3 s4:Int):Bool:=NX k m&&(within q k (k+m)&&(decide (s0=0)&&(within s1 0 8&&(within s2 0 8&&(within s3 0 8&&within s4 0 8)))))
theorem aVI (p:dX):XV p=RA p.k p.m p.a7O p.s0 p.s1 p.s2 p.s3 p.s4:=by
 unfold XV RA NX;have:within p.s0 0 8=true∨p.s0≠0:=by
  by_cases h:p.s0=0
  ·rw[h]; exact .inl rfl
  ·exact .inr h
 simp only[List.all_cons,List.all_nil,baI];rcases this with h | h
 ·rw[h];simp only[a8U,bbN]
 ·simp only[h,decide_false,a8O,a9Q]
def spR (s1 s2 s3 s4:Int) (k:Nat):Int:=match k with
 | 1=>s1
 | 2=>s2
 | 3=>s3
 | _=>s4
theorem ajO {C:Ctx} (L:qy C) (k m q s0 s1 s2 s3 s4:Int) :
  CY.wp C (aT qo.res (aI (.bool (RA k m q s0 s1 s2 s3 s4)))) (PF.args [.int .i64 k,.int .i64 m,.int .i64 q,.agg [.int .i64 s0,.int .i64 s1,.int .i64 s2,.int .i64 s3,.int .i64 s4]]) .nil:=by
 obtain⟨X,w⟩:∃ X,RA k m q s0 s1 s2 s3 s4=X:=⟨_,rfl⟩;rw[w];unfold RA at w;simp only[go_sem,CY,ik,im,qo];refine aB (L.code k m) rfl ?_;cases I:NX k m with
 | false =>rw[I,a8O] at w;simp only[go_sem,a8X,BM];refine aR (.inr rfl) rfl ?_;rw[cB,w]
 | true =>
  rw[I,a8U] at w;have hb:1≤k∧k≤6∧0≤m∧m≤4:=by simp only[NX,a9A,within_iff] at I;omega
  have U:IntKind.i64.wrap (k+m)=k+m:=wrap_i64 Om Om;simp only[go_sem,a8Q,U];refine aB (L.inn q k (k+m)) rfl ?_;cases M:within q k (k+m) with
  | false =>rw[M,a8O] at w;simp only[go_sem,a8X,BM];refine aR (.inr rfl) rfl ?_;rw[cB,w]
  | true =>
   rw[M,a8U] at w;have F:(0:Int)<((5:Nat):Int):=by decide
   by_cases J:s0=0
   ·rw[decide_eq_true J,a8U] at w;simp only[go_sem,a8Q,F,bJ J,io];refine wp_loop (α:=Nat) (fun j=>((PF.nil.set 7 (.bO [.int .i64 s0,.int .i64 s1,.int .i64 s2,.int .i64 s3,.int .i64 s4])).set 9 (.int .i64 j))) (fun _=>.nil) (fun j=>1≤j∧j≤5∧∀ i,1≤i→i<j→within (spR s1 s2 s3 s4 i) 0 8=true) (fun j=>5-j) 1 ⟨by decide,by decide,fun i I M=>by omega⟩ Lq a_ ?_;rintro j ⟨O,R,l⟩;simp only[go_sem,ij,ip];by_cases hlt:j<5
    ·have u:(j:Int)<5:=Om;have A:((j:Nat):Int)<((5:Nat):Int):=Om;have y:=L.inn (spR s1 s2 s3 s4 j) 0 8;obtain⟨c,x⟩:∃ c,within (spR s1 s2 s3 s4 j) 0 8=c:=⟨_,rfl⟩;rw[x] at y;have B:c=true→∀ i,1≤i→i<j+1→within (spR s1 s2 s3 s4 i) 0 8=true:=fun E i a b=>by
      by_cases e:i=j
      ·rw[e,x,E]
      ·exact l i a Om
     have K:c=false→X=false:=by intro h;rw[h] at x;have E:j=1∨j=2∨j=3∨j=4:=Om;rw[← w];rcases E with rfl | rfl | rfl | rfl<;>(simp only[spR] at x; rw[x]; simp)
     have E:j=1∨j=2∨j=3∨j=4:=Om;cases c with
     | false =>
      have N:=K rfl;rcases E with rfl | rfl | rfl | rfl
      all_goals
       simp only[spR] at y;simp only[go_sem,u,MJ,A];refine aB y rfl ?_;simp only[go_sem,a8X,iq];refine aR (.inr rfl) rfl ?_;rw[cB,N]
     | true =>
      have S:=B rfl;rcases E with rfl | rfl | rfl | rfl
      all_goals
       simp only[spR] at y;simp only[go_sem,u,MJ,A];refine aB y rfl ?_;simp only[go_sem,a8Q,ir];refine aG (_+1) ⟨by omega,hlt,S⟩ Om Lq b_
    ·have u:¬ (j:Int)<5:=Om;have:j=5:=Om;subst this;simp only[go_sem,u,iu];refine aR (.inr rfl) rfl ?_;have a1:=l 1 (by decide) (by decide);have a2:=l 2 (by decide) (by decide);have a3:=l 3 (by decide) (by decide);have a4:=l 4 (by decide) (by decide);simp only[spR] at a1 a2 a3 a4;rw[cB,← w,a1,a2,a3,a4];rfl
   ·rw[decide_eq_false J,a8O] at w;simp only[go_sem,a8Q,F,cM J,BM];refine aR (.inr rfl) rfl ?_;rw[cB,w]
theorem uU {x:RF} (h:dP x=true):x.valid:=by
 unfold dP tJ at h;unfold RF.valid;cases e:dS (val x.num) (val x.den) with
 | true=>rfl
 | false =>rw[e] at h;simp at h
theorem aLI {C:Ctx} (L:qy C) (x:RF) (A:x.Ok):ML.wp C (aT aiF.res (aI (.bool (dP x)))) (PF.args [.agg x.cells]) .nil:=by
 have y:=L.red x A;unfold dP;simp only[go_sem,ML,N7,N8,aiF];refine aB y rfl ?_;cases he:tJ x with
 | error e =>have u:=abQ he;simp only[go_sem,frV];refine aO fun o w=>?_;simp only[go_sem,JD,bD u];refine aR (.inr rfl) rfl ?_;rfl
 | ok r =>
  obtain⟨n,a,b⟩:=r;have B:=qD a 1;have E:=qD b 1;have j:decide (((nl a:Nat):Int)≤1)=decide (dJ a≤32):=decide_eq_decide.2 Om;have l:decide (((nl b:Nat):Int)≤1)=decide (dJ b≤32):=decide_eq_decide.2 Om;simp only[go_sem,frV];refine aO fun o w=>?_;cases n with
  | true =>simp only[go_sem,JD,a8Q];refine aR (.inr rfl) rfl ?_;rfl
  | false =>
   simp only[go_sem,JD,a8X,a8E,bC,j];cases decide (dJ a≤32) with
   | false =>simp only[go_sem];refine aR (.inr rfl) rfl ?_;rfl
   | true =>simp only[go_sem,a8E,bC,l];refine aR (.inr rfl) rfl ?_;rfl
structure Bb (C:Ctx):Prop extends qy C where
 small:∀ x:RF,x.Ok→aH C 74 [.agg x.cells] .nil (aI (.bool (dP x)))
 nums:∀ k m q s0 s1 s2 s3 s4:Int,aH C 72 [.int .i64 k,.int .i64 m,.int .i64 q,.agg [.int .i64 s0,.int .i64 s1,.int .i64 s2,.int .i64 s3,.int .i64 s4]] .nil (aI (.bool (RA k m q s0 s1 s2 s3 s4)))
 sizes:∀ a b c d e f:Nat,aH C 73 [.int .i64 a,.int .i64 b,.int .i64 c,.int .i64 d,.int .i64 e,.int .i64 f] .nil (aI (.bool (uG a b c d e f)))
theorem ta {l:List RF} {k:Nat} (h:k<l.length):(l.map RF.cells)[k]?=some (l[k]).cells:=by simp[h]
theorem aFE {C:Ctx} (L:Bb C) (l:List RF) (w:lI l) (n:Int):HR.wp C (aT Ek.res (aI (.bool (decide ((l.length:Int)=n)&&l.all dP)))) (PF.args [frs l,.int .i64 n]) .nil:=by
 have x:=w.fits;unfold Fits at x;simp only[go_sem,HR,Ad,Ae,Ek,a8E];by_cases h:(l.length:Int)=n
 ·rw[decide_eq_true h,a8U];subst h;simp only[go_sem,bJ (show (l.length:Int)=(l.length:Nat) from rfl),Ag];refine wp_loop (α:=Nat) (fun k=>(((PF.nil.set 0 (frs l)).set 1 (.int .i64 (l.length:Nat))).set 5 (.int .i64 k))) (fun _=>.nil) (fun k=>k≤l.length∧(l.take k).all dP=true) (fun k=>l.length-k) 0 ⟨a8K _,rfl⟩ Lq a_ ?_;rintro k ⟨A,j⟩;simp only[go_sem,Ac,Ah];by_cases hlt:k<l.length
  ·have e:(k:Int)<(l.length:Nat):=Om;have y:=L.small l[k] (w.all _ (a8G hlt));simp only[go_sem,e,Ai,ta hlt];refine aB y rfl ?_;cases hi:dP l[k] with
   | false =>simp only[go_sem,a8X,Aj];refine aR (.inr rfl) rfl ?_;rw[cB,tQ hlt hi]
   | true =>have u:=a9I.1 (tP hlt j hi);simp only[go_sem,a8Q,Ak,wZz k];exact aG (k+1) ⟨hlt,u⟩ Om Lq b_
  ·have e:¬ (k:Int)<(l.length:Nat):=Om;have:k=l.length:=Om;subst this;rw[a9M] at j;simp only[go_sem,e,Al];refine aR (.inr rfl) rfl ?_;rw[cB,j]
 ·rw[decide_eq_false h,a8O];simp only[go_sem,cM h,Af];refine aR (.inr rfl) rfl ?_;rfl
structure Bc (C:Ctx):Prop extends Bb C where
 smalls:∀ l:List RF,lI l→∀ n:Int,aH C 75 [frs l,.int .i64 n] .nil (aI (.bool (decide ((l.length:Int)=n)&&l.all dP)))
theorem SF (x:RF):(wL x==0)=!dH x:=by
 unfold wL dH;by_cases h:val x.num=0
 ·simp[h]
 ·cases x.neg<;>simp[h]
def pe (l:List RF) (m:Int):Bool:=decide ((l.length:Int)=max m 1)&&l.all dP&&l.all dH
theorem aXB {C:Ctx} (L:Bc C) (l:List RF) (y:lI l) (m:Int):al.wp C (aT aRO.res (aI (.bool (pe l m)))) (PF.args [frs l,.int .i64 m]) .nil:=by
 have B:=y.fits;unfold Fits at B;have F:=L.smalls l y (max m 1);unfold pe;simp only[go_sem,al,ayW,ayX,aRO,max_eq];refine aB F rfl ?_;cases h:(decide ((l.length:Int)=max m 1)&&l.all dP) with
 | false =>simp only[go_sem,a8X,ayY];refine aR (.inr rfl) rfl ?_;rfl
 | true =>
  rw[a9A] at h;have j:=a9I.1 h.2;simp only[go_sem,a8Q,ayZ];refine wp_loop (α:=Nat) (fun k=>((PF.nil.set 0 (frs l)).set 5 (.int .i64 k))) (fun _=>.nil) (fun k=>k≤l.length∧(l.take k).all dH=true) (fun k=>l.length-k) 0 ⟨a8K _,rfl⟩ Lq a_ ?_;rintro k ⟨I,w⟩;simp only[go_sem,ayV,azA,a8E];by_cases hlt:k<l.length
  ·have e:(k:Int)<(l.length:Nat):=Om;have A:=a8G hlt;have E:=L.sign l[k] (y.all _ A) (uU (j _ A));have u:=SF l[k];simp only[go_sem,e,azB,ta hlt];refine aB E rfl ?_;cases hi:dH l[k] with
   | false =>rw[hi] at u;simp only[go_sem,u,a8X,azC];refine aR (.inr rfl) rfl ?_;rw[cB,tQ hlt hi]
   | true =>rw[hi] at u;have x:=a9I.1 (tP hlt w hi);simp only[go_sem,u,a8Q,azD,wZz k];exact aG (k+1) ⟨hlt,x⟩ Om Lq b_
  ·have e:¬ (k:Int)<(l.length:Nat):=Om;have:k=l.length:=Om;subst this;rw[a9M] at w;simp only[go_sem,e,azE];refine aR (.inr rfl) rfl ?_;rw[cB,w]
structure Bd (C:Ctx):Prop extends Bc C where
 reps:∀ l:List RF,lI l→∀ m:Int,aH C 66 [frs l,.int .i64 m] .nil (aI (.bool (pe l m)))
def frD:List PV→RF
 | [.bool n,a,b]=>⟨n,mD a,mD b⟩
 | _=>⟨false,[],[]⟩
theorem Ff (x:RF):frD x.cells=x:=by
 show (⟨x.neg,mD (aK x.num),mD (aK x.den)⟩:RF)=x;rw[fQ,fQ]
def zdS (r s:Bool):Spec:=fun name vs=>match name,vs with
 | 66,_=>some ([],fun _=>aI (.bool r))
 | 74,[.agg cs]=>some ([],fun _=>aI (.bool (dP (frD cs))))
 | 47,_=>some ([],fun _=>aI (.agg (mkT 1 1).cells))
 | 49,_=>some ([],fun _=>aI (.bool s))
 | _,_=>none
theorem Nr (r s:Bool) (x:RF):zdS r s 74 [.agg x.cells]=some ([],fun _=>aI (.bool (dP x))):=by
 show some ([],fun _=>aI (.bool (dP (frD x.cells))))=_;rw[Ff]
theorem aII (x y:RF):uC y x=- uC x y:=by
 unfold uC wZ;have e:=Ep (val x.num*val y.den) (val y.num*val x.den);cases x.neg&&decide (val x.num≠0)<;>cases y.neg&&decide (val y.num≠0)<;>simp only[e,Int.neg_neg]<;>rfl
theorem aPD {x:RF} (e:x.valid):decide (uC (mkT 1 1) x<0)=!CR x:=by
 rw[aII x];unfold CR;rw[show dS (val x.num) (val x.den)=true from e,a8U,NC];unfold uC;simp only[aU,show (1:Int).natAbs=1 from rfl,show decide ((1:Int)<0)=false from rfl];by_cases h:wZ x.neg (val x.num) (val x.den) false 1 1≤0
 ·rw[decide_eq_true h,decide_eq_false Om]; rfl
 ·rw[decide_eq_false h,decide_eq_true Om]; rfl
def VO (m:Int) (rep:List RF) (t h:RF):Bool:=pe rep m&&(dP t&&(CR t&&dP h))
theorem aWY {C:Ctx} (L:Bd C) (m:Int) (rep:List RF) (x:lI rep) (t h:RF) (u:t.Ok) (w:h.Ok) :
  aa.wp C (aT aRI.res (aI (.bool (VO m rep t h)))) (PF.args [.int .i64 m,frs rep,.agg t.cells,.agg h.cells]) .nil:=by
 have j:eJ 1:=by unfold eJ; omega
 unfold VO;simp only[go_sem,aa,ayI,aRI];refine aV .nil (zdS (pe rep m) (!CR t)) a_ ?_;simp only[go_sem,ayJ];refine cC rfl (L.reps rep x m) rfl a_ ?_;cases pe rep m with
 | false =>simp only[go_sem];refine aR (.inr rfl) rfl ?_;rfl
 | true =>
  simp only[go_sem];refine cC (Nr _ _ t) (L.small t u) rfl a_ ?_;cases l:dP t with
  | false =>simp only[go_sem];refine aR (.inr rfl) rfl ?_;rfl
  | true =>
   have e:=L.less (mkT 1 1) t (NA 1 j).1 u (NA 1 j).2 (uU l);rw[aPD (uU l)] at e;simp only[go_sem];refine cC rfl (L.int 1 j) rfl a_ ?_;simp only[go_sem];refine cC rfl e rfl a_ ?_;cases CR t with
   | false =>simp only[go_sem,a8X,a8Q];refine aR (.inr rfl) rfl ?_;rfl
   | true =>simp only[go_sem,a8Q,a8X];refine cC (Nr _ _ h) (L.small h w) rfl a_ ?_;simp only[go_sem];refine aR (.inr rfl) rfl ?_;rfl
theorem aYB (p:dX):RP p=VO p.m p.repair p.target p.a7A:=by
 unfold RP VO pe;have:(p.repair.all fun x=>dP x&&dH x)=(p.repair.all dP&&p.repair.all dH):=by
  induction p.repair with
  | nil=>rfl
  | cons a t e =>simp only[List.all_cons,e];cases dP a<;>cases dH a<;>simp
 rw[this];simp only[bbN]
section
variable {H:PH} {B:List BX} {L:List LI}
theorem aM.azQ (h:aM H B L) (i:Nat) {s b:Nat} {v y:PV} {rows src:List (List PV)} {K:PV→PH→Prop} (hi:L[i]?=some (v,s,rows)) (E:fL H s y=some src) (A:roomFor rows.length src.length b)
  (u:∀ v' H',cR H' s v rows→aM H' B (L.set i (v',s,rows++src))→K v' H'):oF H s b v y K:=by
 rcases h.own i hi with ⟨rfl,rfl⟩ | ⟨q,rs,rfl,h1,h2,h3⟩
 ·exact h.append i hi E A fun v' H' F _=>u v' H' (.inl ⟨rfl,rfl⟩) F
 ·have e:(rows++src).length=rows.length+src.length:=a8H;refine⟨src,E,rfl,rfl,A,rs,h1,h2,?_,fun o l=>?_⟩
  ·rw[h3];refine u _ _ (.inr ⟨q,rows++src,rfl,by rw[bS],by rw[e]; omega,List.take_left' rfl⟩) (h.SO i hi (.inr ⟨q,rows++src,by rw[e],by simp only[aS,if_true],a8J _,a9M⟩) (fun p j=>by cases j; exact .inl rfl) fun p _ j=>?_);rw[aS,if_neg (j q rfl)]
  ·rw[h3];have x:q≠o:=by rintro rfl; rw[h1] at l; cases l
   refine u _ _ (.inr ⟨q,rs,rfl,by rw[aS,if_neg x]; exact h1,h2,h3⟩) (h.SO i hi (.inr ⟨o,rows++src,by rw[e],by simp only[aS,if_true],a8J _,a9M⟩) (fun p j=>by cases j; exact .inr l) fun p w j=>?_);obtain⟨f1,f2⟩:=h.fresh l;have I:p≠o:=by rintro rfl; exact w.elim f1 f2
   rw[aS,if_neg I]
end
abbrev qT (l:List (List UInt8)):List (List PV):=l.map fun s=>[PV.str s]
def GN:List (List UInt8)→List UInt8→Nat→Int
 | [],_,_=>-1
 | x::t,s,i=>if x==s then (i:Int) else GN t s (i+1)
theorem Vh (s:List UInt8):∀ (l:List (List UInt8)) (i:Nat),decide (GN l s i<0)=!l.contains s
 | [],i=>rfl
 | x::t,i=>by
  rw[GN,List.contains_cons,BEq.comm (a:=s)];by_cases h:(x==s)=true
  ·rw[if_pos h,h,Bool.true_or,decide_eq_false Om]; rfl
  ·rw[if_neg h,Vh s t (i+1)];simp only[Bool.not_eq_true] at h;rw[h,Bool.false_or]
theorem aLE {C:Ctx} (l:List (List UInt8)) (y:l.length≤1000000) (s:List UInt8):MI.wp C (aT ahJ.res (aI (.int .i64 (GN l s 0)))) (PF.args [.sl 1 (qT l),.str s]) .nil:=by
 simp only[go_sem,MI,Nx,Ny,ahJ];refine wp_loop (α:=Nat) (fun k=>(((PF.nil.set 0 (.sl 1 (qT l))).set 1 (.str s)).set 5 (.int .i64 k))) (fun _=>.nil) (fun k=>k≤l.length∧GN l s 0=GN (l.drop k) s k) (fun k=>l.length-k) 0 ⟨a8K _,rfl⟩ Lq a_ ?_;rintro k ⟨x,j⟩;simp only[go_sem,Nw,Nz,a8E];by_cases hlt:k<l.length
 ·have e:(k:Int)<(l.length:Nat):=Om;have u:(qT l)[k]?=some [.str l[k]]:=by simp[hlt]
  rw[baR hlt,GN] at j;cases w:l[k]==s with
  | true =>rw[w,if_pos rfl] at j;simp only[go_sem,e,ac,u,w,N0];refine aR (.inr rfl) rfl ?_;rw[cB,j]
  | false =>rw[w,if_neg (by decide)] at j;simp only[go_sem,e,ac,u,w,N1,wZz k];exact aG (k+1) ⟨hlt,j⟩ Om Lq b_
 ·have e:¬ (k:Int)<(l.length:Nat):=Om;have:k=l.length:=Om;subst this;rw[List.drop_length,GN] at j;simp only[go_sem,e,N2];refine aR (.inr rfl) rfl ?_;rw[cB,j]
structure Be (C:Ctx):Prop extends Bd C where
 name:∀ s:List UInt8,aH C 62 [.str s] .nil (aI (.bool (isName s)))
 index:∀ (l:List (List UInt8)),l.length≤1000000→∀ s:List UInt8,aH C 71 [.sl 1 (qT l),.str s] .nil (aI (.int .i64 (GN l s 0)))
def mF (l:List (List UInt8)) (s:List UInt8):Bool:=isName s&&!l.contains s
def qq (l:List (List UInt8)) (s:List UInt8) (r:PV) (B:List BX) (L:List LI):Prop:=∃ e,r=.tup [e,.bool (mF l s)]∧B=[]∧L=[(e,1,qT (l++[s]))]
theorem aLD {C:Ctx} (L:Be C) (l:List (List UInt8)) (U:l.length≤1000000) (s:List UInt8) (w:PV) (H:PH) (R:aM H [] [(w,1,qT l)]) :
  MH.wp C (aT ahI.res (fun r H'=>∃ B' L',qq l s r B' L'∧aM H' B' L')) (PF.args [w,.str s]) H:=by
 have y:=L.index l U s;have K:=L.name s;have u:=Vh s l 0;have J:(1:Nat)*1≤16777216:=by decide
 have fin:∀ (F:PF) (H':PH) (j:PV) (b:Bool),F 4=some j→F 5=some (.bool b)→b=mF l s→aM H' [] [(j,1,qT (l++[s]))]→aT [.tmp 4,.tmp 5] (fun r H'=>∃ B' L',qq l s r B' L'∧aM H' B' L') .ret F H':=fun F H' j b N O e I =>
  bA (vs:=[j,.bool b]) (.inr rfl) H' (by simp only[go_sem,N,O]) b_ ⟨[],_,⟨j,by rw[e]; rfl,rfl,rfl⟩,I⟩
 simp only[go_sem,MH,Nt,Nu,ahI,J];refine R.azQ 0 (src:=[[.str s]]) rfl rfl (by unfold roomFor; rw[a8E]; simp only[a8N,maxLen]; omega) fun j H' S I=>?_;have x:aM H' [] [(j,1,qT (l++[s]))]:=by
  have e:qT (l++[s])=qT l++[[.str s]]:=by simp[qT]
  rw[e]; exact I
 refine aB K rfl ?_;cases M:isName s with
 | false =>simp only[go_sem];exact fin _ _ j false rfl rfl (by unfold mF; rw[M,a8O]) x
 | true =>
  have A:mF l s=!l.contains s:=by unfold mF; rw[M,a8U]
  rcases S with ⟨V,rfl⟩ | ⟨q,rs,rfl,q1,q2,q3⟩
  ·simp only[go_sem];rw[V] at y;have E:aH C 71 [.aD,.str s] .nil (aI (.int .i64 (GN l s 0))):=y.args (.cons (.nil 1) (.cons (.refl _) .nil));refine aB E rfl ?_;simp only[go_sem,u];exact fin _ _ j _ rfl rfl A.symm x
  ·simp only[go_sem];refine ajI (vs:=[.osl q 1 0 (qT l).length,.str s]) (.int .i64 (GN l s 0)) ?_ q1 Sq ?_
   ·rw[a9T,a9T,bbA,xM q2,q3];exact y
   simp only[go_sem,u];exact fin _ _ j _ rfl rfl A.symm x
theorem aJW {x:RF} (h:dP x=true):decide (wL x>0)=dH x:=by
 have j:=uU h;unfold dP tJ at h;rw[show dS (val x.num) (val x.den)=true from j,if_pos rfl,ko j] at h;unfold wL dH;by_cases e:val x.num=0
 ·simp[e]
 ·have hq:val x.num/a8I (val x.num) (val x.den)≠0:=by have:=Nat.div_pos (Nat.gcd_le_left (val x.den) (baV e)) (Nat.gcd_pos_of_pos_left _ (baV e));omega
  have l:x.neg=false:=by unfold qX at h;simp only[hq,ne_eq,not_false_eq_true,decide_true,baI,a9A] at h;simpa using h.1
  rw[if_neg e,l];simp[e]
structure Pq (l:dC):Prop where
 exit:∀ x∈l.exit,dP x=true
 row:∀ r∈l.a6U,∀ x∈r,dP x=true
structure uM (C:Ctx):Prop extends Be C where
 fresh:∀ (l:List (List UInt8)),l.length≤1000000→∀ (s:List UInt8) (w:PV) (H:PH),aM H [] [(w,1,qT l)]→aH C 70 [w,.str s] H (fun r H'=>∃ B' L',qq l s r B' L'∧aM H' B' L')
theorem uM.pos {C:Ctx} (L:uM C) {x:RF} (e:x.Ok) (h:dP x=true):∃ n:Int,aH C 54 [.agg x.cells] .nil (aI (.int .i64 n))∧decide (n>0)=dH x:=⟨_,L.sign x e (uU h),aJW h⟩
def zlF (l:dC) (o r i:Nat):PF:=(((((PF.nil.set 1 (.bO l.cells)).set 3 (.int .i64 (l.exit.length:Nat))).set 7 (.osl o 1 0 l.exit.length)).set 8 (.int .i64 r)).set 9 (.int .i64 i))
theorem aRJ {C:Ctx} (L:uM C) (l:dC) (o r i:Nat) (row:List RF) (U:(l.a6U.map fun r=>[frs r])[i]?=some [frs row]) (M:lI row) (J:∀ x∈row,dP x=true) (Y:row.length=l.exit.length) (hi:i<l.exit.length) (hn:l.exit.length≤4) (j:List Bool) (hR:j.length=l.exit.length) (K:cI) [Up K] (F:PF) (H:PH)
  (O:((zlF l o r i).set 10 (.int .i64 0)).le F) (N:(kS o j).le H)
  (X:K (.exit 6) (zlF l o r i) (kS o (dT j i row row.length))):aC.wp C (.loop TR) K F H:=by
 refine wp_loop (α:=Nat) (fun k=>(zlF l o r i).set 10 (.int .i64 k)) (fun k=>kS o (dT j i row k)) (fun k=>k≤row.length) (fun k=>row.length-k) 0 (a8K _) O N ?_;intro k hk;have W:=zE j i row k;have B:∀ h:k<row.length,dT j i row (k+1)=(dT j i row k).set i ((dT j i row k).getD i false||dH row[k]&&(dT j i row k).getD k false):=fun h=>by simp only[dT,a8M,a8Y,a8L h,a9J,baW]
 have fin:∀ (b:Bool) (F:PF) (H:PH),k<row.length→aZ (dT j i row (k+1))=(aZ (dT j i row k)).set i [.bool b]→((zlF l o r i).set 10 (.int .i64 (k+1:Nat))).le F→H o=some (.rows 1 ((aZ (dT j i row k)).set i [.bool b])) →
   gP (fun k:Nat=>(zlF l o r i).set 10 (.int .i64 k)) (fun k=>kS o (dT j i row k)) (fun k=>k≤row.length) (fun k=>row.length-k) (row.length-k) K .normal F H:=by
  intro b F H hlt hb O N;refine aG (k+1) hlt Om O ?_;rw[← hb] at N;exact e_ a_ N
 unfold zlF kS at fin;simp only[go_sem,TR,ahQ,zlF,kS];by_cases hlt:k<row.length
 ·have e:(k:Int)<(l.exit.length:Nat):=Om;have y:(i:Int)<(l.exit.length:Nat):=Om;have w:=eP (R:=dT j i row k) (i:=i) Om;have E:=eP (R:=dT j i row k) (i:=k) Om;have u:=B hlt;obtain⟨n,V,I⟩:=L.pos (M.all _ (a8G hlt)) (J _ (a8G hlt));have S:=ta hlt;generalize hb:(dT j i row k).getD i false=b at *
  generalize hc:(dT j i row k).getD k false=c at *
  generalize Z:dH row[k]=A at *
  cases b with
  | true =>simp only[go_sem,e,qj,y,a8R,w,TS,wZz k];exact fin true _ _ hlt (by rw[u,iD,Bool.true_or]) Lq Sq
  | false =>
   simp only[go_sem,e,qj,y,a8R,w,U,S];refine aB V rfl ?_;cases A with
   | false =>simp only[go_sem,I,y,e,a8R,w,E,TS,wZz k];exact fin false _ _ hlt (by rw[u,iD,Bool.false_or,a8O]) Lq Sq
   | true =>simp only[go_sem,I,y,e,a8R,w,E,TS,wZz k];exact fin c _ _ hlt (by rw[u,iD,Bool.false_or,a8U]) Lq Sq
 ·have e:¬ (k:Int)<(l.exit.length:Nat):=Om;have:k=row.length:=Om;subst this;simp only[go_sem,e];refine Up.up ?_ X
  (repeat' (first|exact c_|refine d_ ?_ ?_))<;>first|(simp only[go_sem,zlF]<;>rfl)|rfl
theorem aRL {C:Ctx} (L:uM C) (l:dC) (U:l.Ok) (he:HS l) (W:Pq l) (o r:Nat) (R:List Bool) (hR:R.length=l.exit.length) (K:cI) [Up K] (F:PF) (H:PH)
  (M:(zlF l o r 0).le F) (N:(kS o R).le H)
  (Z:K (.exit 4) (zlF l o r l.exit.length) (kS o (eK l R l.exit.length))):aC.wp C (.loop qc) K F H:=by
 refine wp_loop (α:=Nat) (fun i=>zlF l o r i) (fun i=>kS o (eK l R i)) (fun i=>i≤l.exit.length) (fun i=>l.exit.length-i) 0 (a8K _) M N ?_;intro i hi;have V:=vH l R i;have hn:=he.n;simp only[go_sem,qc,ahP,zlF,kS];by_cases hlt:i<l.exit.length
 ·have e:(i:Int)<(l.exit.length:Nat):=Om;have u:i<l.a6U.length:=by rw[he.a6U]; exact hlt
  have y:=eP (R:=eK l R i) (i:=i) Om;have hx:=ta hlt;have I:(l.a6U.map fun r=>[frs r])[i]?=some [frs l.a6U[i]]:=by simp[u]
  have O:(l.a6U[i]).length=l.exit.length:=he.row _ (a8G u);generalize w:(eK l R i).set i ((eK l R i).getD i false||dH l.exit[i])=J;have B:J.length=l.exit.length:=by rw[← w,a9X]; omega
  have A:eK l R (i+1)=dT J i l.a6U[i] (l.a6U[i]).length:=by
   simp only[eK,HA];have X:(l.exit.map dH).getD i false=dH l.exit[i]:=by simp[a8M,hlt]
   have Y:l.a6U.getD i []=l.a6U[i]:=by simp[a8M,u]
   rw[X,Y,w]
  obtain⟨n,S,E⟩:=L.pos (U.exit.all _ (a8G hlt)) (W.exit _ (a8G hlt));have x:∀ (F:PF) (H:PH),(zlF l o r i).le F→H o=some (.rows 1 (aZ J)) →
    aC.wp C (.seq (.region qi) (.block 6 (.loop TR))) (fR 5 (jY C (aC.wp C (.region qk)) (gP (fun i:Nat=>zlF l o r i) (fun i=>kS o (eK l R i)) (fun i=>i≤l.exit.length) (fun i=>l.exit.length-i) (l.exit.length-i) K))) F H:=by
   intro F H M N;refine sQ _ (fun _ _ _ _ a b=>Up.up a b) M ?_;simp only[go_sem,qi];refine aRJ L l o r i l.a6U[i] I (U.row _ (a8G u)) (W.row _ (a8G u)) O hlt hn J B _ _ _ (by (repeat' (first|exact c_|refine d_ ?_ ?_))<;>first|(simp only[go_sem,zlF]<;>rfl)|rfl) (e_ a_ N) ?_;simp only[go_sem,zlF,qk,wZz i];exact aG (i+1) hlt Om Lq (by rw[A]; exact b_)
  simp only[zlF,kS] at x;have j:=x;simp only[aC.wp,go_sem] at j;generalize hb:(eK l R i).getD i false=b at *
  cases b with
  | true =>simp only[go_sem,e,qh,e,a8R,y];refine j _ _ Lq ?_;rw[← w];simp only[go_sem,iD,Bool.true_or]
  | false =>simp only[go_sem,e,qh,e,a8R,y,hx];refine aB S rfl ?_;simp only[go_sem,e,a8R,y,E];refine j _ _ Lq ?_;rw[← w];simp only[go_sem,iD,Bool.false_or]
 ·have e:¬ (i:Int)<(l.exit.length:Nat):=Om;have:i=l.exit.length:=Om;subst this;simp only[go_sem,e];exact Up.up (by (repeat' (first|exact c_|refine d_ ?_ ?_))<;>first|(simp only[go_sem,zlF]<;>rfl)|rfl) Z
theorem aRK {C:Ctx} (L:uM C) (l:dC) (y:l.Ok) (he:HS l) (A:Pq l) (o:Nat) (K:cI) [Up K] (F:PF) (H:PH)
  (u:(((((PF.nil.set 1 (.bO l.cells)).set 3 (.int .i64 (l.exit.length:Nat))).set 7 (.osl o 1 0 l.exit.length)).set 8 (.int .i64 0)):PF).le F) (w:(kS o (eR l 0)).le H)
  (x:K (.exit 2) (((PF.nil.set 3 (.int .i64 (l.exit.length:Nat))).set 7 (.osl o 1 0 l.exit.length))) (kS o (eR l l.exit.length))):aC.wp C (.loop qd) K F H:=by
 have B:=he.n;refine wp_loop (α:=Nat) (fun r=>((((PF.nil.set 1 (.bO l.cells)).set 3 (.int .i64 (l.exit.length:Nat))).set 7 (.osl o 1 0 l.exit.length)).set 8 (.int .i64 r))) (fun r=>kS o (eR l r)) (fun r=>r≤l.exit.length) (fun r=>l.exit.length-r) 0 (a8K _) u w ?_;intro r E;have j:=vG l r;simp only[go_sem,qd,ahN];by_cases hlt:r<l.exit.length
 ·have e:(r:Int)<(l.exit.length:Nat):=Om;simp only[go_sem,e,ahO];refine aRL L l y he A o r (eR l r) j _ _ _ (by (repeat' (first|exact c_|refine d_ ?_ ?_))<;>first|(simp only[go_sem,zlF]<;>rfl)|rfl) b_ ?_;simp only[go_sem,zlF,ahR,wZz r];exact aG (r+1) hlt Om Lq b_
 ·have e:¬ (r:Int)<(l.exit.length:Nat):=Om;have:r=l.exit.length:=Om;subst this;simp only[go_sem,e];exact Up.up Lq x
theorem aZD {C:Ctx} (R:List Bool) (I:R.length≤4) (o:Nat) (X:Bool) (B:X=R.all id) (Q:PV→PH→Prop) (A:Q=aI (.bool X)) (F:PF) (H:PH)
  (x:((((PF.nil.set 3 (.int .i64 (R.length:Nat))).set 7 (.osl o 1 0 R.length)).set 11 (.int .i64 0)):PF).le F) (y:(kS o R).le H):aC.wp C (.loop qe) (fR 8 (jY C (aC.wp C (.seq (.region qn) .ret)) (aT [.tmp 2] Q))) F H:=by
 subst B A;refine wp_loop (α:=Nat) (fun k=>(((PF.nil.set 3 (.int .i64 (R.length:Nat))).set 7 (.osl o 1 0 R.length)).set 11 (.int .i64 k))) (fun _=>kS o R) (fun k=>k≤R.length∧(R.take k).all id=true) (fun k=>R.length-k) 0 ⟨a8K _,rfl⟩ x y ?_;rintro k ⟨J,u⟩;simp only[go_sem,qe,ahT,kS];by_cases hlt:k<R.length
 ·have e:(k:Int)<(R.length:Nat):=Om;have j:=eP (R:=R) (i:=k) hlt;have E:R.getD k false=R[k]:=by simp[a8M,hlt]
  rw[E] at j;cases l:R[k] with
  | false =>rw[l] at j;simp only[go_sem,e,ql,a8R,j,a8X,ahU];refine aR (.inr rfl) rfl ?_;rw[cB,tQ hlt (p:=id) l]
  | true =>rw[l] at j;have w:=tP hlt u (p:=id) l;simp only[go_sem,e,ql,a8R,j,a8Q,ahV,wZz k];exact aG (k+1) ⟨hlt,by simpa using a9I.1 w⟩ Om Lq b_
 ·have e:¬ (k:Int)<(R.length:Nat):=Om;have:k=R.length:=Om;subst this;rw[a9M] at u;simp only[go_sem,e,qn];refine aR (.inr rfl) rfl ?_;rw[cB,u]
def Marks (R S:List Bool):Prop:=R.length=S.length∧∀ j:Nat,R[j]?=some true→S[j]?=some true
theorem Marks.aYT (R:List Bool):Marks R R:=⟨rfl,fun _ h=>h⟩
theorem Marks.trans {R S T:List Bool} (h:Marks R S) (k:Marks S T):Marks R T:=⟨h.1.trans k.1,fun j a=>k.2 j (h.2 j a)⟩
theorem Wb (R:List Bool) (i:Nat) (b:Bool):Marks R (R.set i (R.getD i false||b)):=by
 refine⟨by rw[a9X],fun j h=>?_⟩;rw[bbV];obtain⟨l,he⟩:=a9F.1 h;split
 ·rename_i e;subst e;rw[if_pos l,a8M,h];rfl
 ·exact h
theorem Gv (R:List Bool) (i:Nat) (row:List RF):∀ k,Marks R (dT R i row k)
 | 0=>Marks.aYT R
 | k+1=>(Gv R i row k).trans (Wb _ _ _)
theorem JS (l:dC) (R:List Bool):∀ i,Marks R (eK l R i)
 | 0=>Marks.aYT R
 | i+1=>(JS l R i).trans ((Wb _ _ _).trans (Gv _ _ _ _))
theorem Wc:∀ {R S:List Bool},Marks R S→R≠S→R.count true<S.count true
 | [],[],_,h=>absurd rfl h
 | [],_::_,h,_=>by have:=h.1; simp at this
 | _::_,[],h,_=>by have:=h.1; simp at this
 | a::R,b::S,h,l=>by
  have u:a=true→b=true:=fun e=>by have:=h.2 0 (by rw[e]; rfl);simpa using this
  have x:Marks R S:=⟨by have:=h.1; simpa using this,fun j w=>by have:=h.2 (j+1) (by simpa using w); simpa using this⟩;by_cases e:R=S
  ·subst e;have:a≠b:=fun e=>l (by rw[e]);cases a<;>cases b<;>simp at this u ⊢
  ·have:=Wc x e;cases a<;>cases b<;>simp at u ⊢<;>omega
theorem sa:∀ {R:List Bool},R.length≤R.count true→R.all id=true
 | [],_=>rfl
 | a::R,h=>by
  have e:=List.count_le_length (a:=true) (l:=R);cases a with
  | true =>simp only[List.count_cons_self,a9Y] at h;simp only[List.all_cons,id,a8U];exact sa Om
  | false =>simp at h;omega
theorem RQ (l:dC) {s:Nat} (h:eR l (s+1)=eR l s):∀ d,eR l (s+d)=eR l s
 | 0=>rfl
 | d+1=>by show eK l (eR l (s+d)) l.exit.length=_;rw[RQ l h d];exact h
theorem xy (l:dC):∀ r,(∃ s,s<r∧eR l (s+1)=eR l s)∨r≤(eR l r).count true
 | 0=>.inr (a8K _)
 | r+1=>by
  rcases xy l r with ⟨s,u,j⟩ | h
  ·exact .inl ⟨s,by omega,j⟩
  ·by_cases e:eR l (r+1)=eR l r
   ·exact .inl ⟨r,by omega,e⟩
   ·have:=Wc (JS l (eR l r) l.exit.length) (fun h=>e h.symm);exact .inr (by show r+1≤(eK l (eR l r) l.exit.length).count true; omega)
theorem aTC (l:dC):DE l=(eR l l.exit.length).all id:=by
 unfold DE;rcases xy l l.exit.length with ⟨s,F,u⟩ | h
 ·obtain⟨d,B⟩:∃ d,l.exit.length=s+d:=⟨l.exit.length-s,by omega⟩;rw[show l.exit.length+1=s+(d+1) by omega,B,RQ l u,RQ l u]
 ·have w:(eR l l.exit.length).all id=true:=sa (by rw[vG]; exact h);have A:Marks (eR l l.exit.length) (eR l (l.exit.length+1)):=JS l (eR l l.exit.length) l.exit.length;rw[w,a9I];intro x E;obtain⟨j,y,rfl⟩:=bbJ E;have e:j<(eR l l.exit.length).length:=by rw[A.1]; exact y
  have:=A.2 j (by rw[a8L e];have:=a9I.1 w _ (a8G e);simpa using this);rw[a8L y] at this;simpa using this
def zsS (s:Bool):Spec:=fun name vs=>match name,vs with
 | 47,_=>some ([],fun _=>aI (.agg (mkT 1 1).cells))
 | 53,_=>some ([],fun _=>aI (.bool s))
 | _,_=>none
theorem aNM (l:dC):qB l=(within l.start.length 1 4&&((decide ((l.start.length:Int)=l.start.length)&&l.start.all dP)&&((decide ((l.exit.length:Int)=l.start.length)&&l.exit.all dP)&&(decide (l.a6U.length=l.start.length)&&((a8D l.a6U.length).all (xB l)&&(AQ l&&DE l)))))):=by
 rw[aoN,decide_eq_true (rfl:(l.start.length:Int)=l.start.length),a8U];have:decide (l.exit.length=l.start.length)=decide ((l.exit.length:Int)=l.start.length):=decide_eq_decide.2 Om;rw[this];cases within l.start.length 1 4<;>cases decide ((l.exit.length:Int)=l.start.length)<;>cases decide (l.a6U.length=l.start.length)<;>cases l.start.all dP<;>cases l.exit.all dP<;>simp[bbN]
theorem abU (l:dC) {i:Nat} (h:i<l.a6U.length):xB l i=((decide (((l.a6U[i]).length:Int)=l.start.length)&&(l.a6U[i]).all dP)&&!((l.a6U[i]).map dH).getD i false):=by
 unfold xB;have:l.a6U.getD i []=l.a6U[i]:=by simp[a8M,h]
 rw[this];have:decide ((l.a6U[i]).length=l.start.length)=decide (((l.a6U[i]).length:Int)=l.start.length):=decide_eq_decide.2 Om;rw[this]
theorem aWZ {C:Ctx} (L:uM C) (l:dC) (R:l.Ok):ai.wp C (aT aRM.res (aI (.bool (qB l)))) (PF.args [.agg l.cells]) .nil:=by
 have u:=aNM l;have fail:∀ (F:PF) (H:PH),qB l=false→F 2=some (.bool false)→aT [.tmp 2] (aI (.bool (qB l))) .ret F H:=fun F H e h=>by rw[e];exact bA (vs:=[.bool false]) (.inr rfl) .nil (by simp only[go_sem,h]) a_ ⟨rfl,rfl⟩
 have e1:=L.smalls l.start R.start l.start.length;have e2:=L.smalls l.exit R.exit l.start.length;simp only[go_sem,ai,ayM,ayN,aRM,a8E,ayO];by_cases c1:(l.start.length:Int)<1
 ·simp only[go_sem,c1,FS];exact fail _ _ (by rw[u,show within l.start.length 1 4=false from by unfold within; rw[decide_eq_false Om,a8O],a8O]) rfl
 by_cases c2:(l.start.length:Int)>4
 ·simp only[go_sem,c1,c2,FS];exact fail _ _ (by rw[u,show within l.start.length 1 4=false from by unfold within; rw[decide_eq_false (Om:¬ (l.start.length:Int)≤4),a9Q],a8O]) rfl
 rw[show within l.start.length 1 4=true from by unfold within; rw[decide_eq_true (Om:(1:Int)≤(l.start.length:Nat)),decide_eq_true (Om:(l.start.length:Int)≤4)]; rfl,a8U] at u;simp only[go_sem,c1,c2];refine aB e1 rfl ?_;cases k1:(decide ((l.start.length:Int)=l.start.length)&&l.start.all dP) with
 | false =>rw[k1,a8O] at u;simp only[go_sem,a8X,FS];exact fail _ _ u rfl
 | true =>
 rw[k1,a8U] at u;simp only[go_sem,a8Q];refine aB e2 rfl ?_;cases k2:(decide ((l.exit.length:Int)=l.start.length)&&l.exit.all dP) with
 | false =>rw[k2,a8O] at u;simp only[go_sem,a8X,FS];exact fail _ _ u rfl
 | true =>
 rw[k2,a8U] at u;rw[a9A,decide_eq_true_eq] at k2;have E:l.exit.length=l.start.length:=Om;have O:=a9I.1 k2.2;by_cases c3:l.a6U.length=l.start.length
 case neg =>rw[decide_eq_false c3,a8O] at u;simp only[go_sem,a8Q,a8E,cM (Om:(l.a6U.length:Int)≠(l.start.length:Nat)),FS];exact fail _ _ u rfl
 rw[decide_eq_true c3,a8U] at u;simp only[go_sem,a8Q,a8E,bJ (Om:(l.a6U.length:Int)=(l.start.length:Nat)),ayP];refine wp_loop (α:=Nat) (fun i=>(((PF.nil.set 1 (.bO l.cells)).set 3 (.int .i64 (l.start.length:Nat))).set 4 (.int .i64 i))) (fun _=>.nil) (fun i=>i≤l.start.length∧∀ j,j<i→xB l j=true) (fun i=>l.start.length-i) 0 ⟨a8K _,fun j h=>by omega⟩ Lq a_ ?_;rintro i ⟨hi,y⟩;simp only[go_sem,ayL,ayQ];by_cases hlt:i<l.start.length
 ·have A:(i:Int)<(l.start.length:Nat):=Om;have B:i<l.a6U.length:=Om;have J:(l.a6U.map fun r=>[frs r])[i]?=some [frs l.a6U[i]]:=by simp[B]
  have Y:=R.row _ (a8G B);have e3:=L.smalls l.a6U[i] Y l.start.length;have w:=abU l B;have S:xB l i=false→qB l=false:=fun h=>by rw[u,show (a8D l.a6U.length).all (xB l)=false from List.all_eq_false.2 ⟨i,a9B.2 B,by simp[h]⟩,a8O]
  simp only[go_sem,A,ayR,J];refine aB e3 rfl ?_;cases k3:(decide (((l.a6U[i]).length:Int)=l.start.length)&&(l.a6U[i]).all dP) with
  | false =>rw[k3,a8O] at w;simp only[go_sem,a8X,Ea];exact fail _ _ (S w) rfl
  | true =>
   rw[k3,a8U] at w;rw[a9A,decide_eq_true_eq] at k3;have κ:(l.a6U[i]).length=l.start.length:=Om;have K:i<(l.a6U[i]).length:=Om;have hm:=a8G K;have hs:=L.sign _ (Y.all _ hm) (uU (a9I.1 k3.2 _ hm));have hz:=SF (l.a6U[i])[i];have hg:((l.a6U[i]).map dH).getD i false=dH (l.a6U[i])[i]:=by simp[a8M,K]
   rw[hg] at w;have I:(wL (l.a6U[i])[i] != 0)=dH (l.a6U[i])[i]:=by rw[bne,hz,Bool.not_not]
   simp only[go_sem,a8Q,J,ta K];refine aB hs rfl ?_;cases k4:dH (l.a6U[i])[i] with
   | true =>rw[k4] at w I;simp only[go_sem,I,Ea];exact fail _ _ (S w) rfl
   | false =>
    rw[k4] at w I;simp only[go_sem,I,ayS,wZz i];exact aG (i+1) ⟨hlt,fun j hj=>by
     by_cases e:j=i
     ·rw[e]; exact w
     ·exact y j Om⟩ Om Lq b_
 ·have A:¬ (i:Int)<(l.start.length:Nat):=Om;have:i=l.start.length:=Om;subst this;have M:(a8D l.a6U.length).all (xB l)=true:=a9I.2 fun j hj=>y j (by rw[← c3]; exact a9B.1 hj);rw[M,a8U] at u;have β:∀ r∈l.a6U,r.length=l.start.length∧∀ x∈r,dP x=true:=fun r X=>by obtain⟨j,hj,rfl⟩:=bbJ X;have h:=y j Om;rw[abU l hj,a9A,a9A,decide_eq_true_eq] at h;exact⟨by omega,a9I.1 h.1.2⟩
  have W:Pq l:=⟨O,fun r X=>(β r X).2⟩;have V:HS l:=⟨by omega,by omega,fun r X=>by rw[(β r X).1,E]⟩;have γ:=L.sum l.start R.start.all R.start.fits;simp only[go_sem,A,ahK];refine aB γ rfl ?_;cases U:uH (l.start.map RF.v) with
  | error e =>
   have ζ:=adA U;have:AQ l=false:=by unfold AQ; rw[U]
   rw[this,a8O] at u;simp only[go_sem,frV];refine aO fun o ho=>?_;simp only[go_sem];refine aV .nil cA a_ ?_;simp only[go_sem,qf,cM ζ,qg];exact fail _ _ u rfl
  | ok r =>
   have Z:=avF U;have θ:=ya U;obtain⟨n,a,b⟩:=r;have h1:eJ 1:=by unfold eJ; omega
   have N:=L.same (FV.rf (n,a,b)) (mkT 1 1) Z (NA 1 h1).1 (by unfold RF.valid FV.rf; simp only[aU]; exact θ) (NA 1 h1).2;have hP:AQ l=(uC (FV.rf (n,a,b)) (mkT 1 1)==0):=by unfold AQ;rw[U,NC];unfold uC FV.rf;simp only[aU,show (1:Int).natAbs=1 from rfl,show decide ((1:Int)<0)=false from rfl];by_cases h:wZ n a b false 1 1=0<;>simp[h]
   simp only[go_sem,frV];refine aO fun o ho=>?_;have hH:aM (PH.nil.set o (.rows 3 [(FV.rf (n,a,b)).cells])) [(o,.rows 3 [(FV.rf (n,a,b)).cells])] []:=aM.nil.new (H:=PH.nil) rfl _;simp only[go_sem];refine aV (PH.nil.set o (.rows 3 [(FV.rf (n,a,b)).cells])) (zsS (uC (FV.rf (n,a,b)) (mkT 1 1)==0)) b_ ?_;simp only[go_sem,qf,bJ (show (0:Int)=0 from rfl)];refine cC rfl (L.int 1 h1) rfl b_ ?_;simp only[go_sem];refine cC rfl N rfl b_ ?_;rw[← hP];cases hp:AQ l with
   | false =>rw[hp,a8O] at u;simp only[go_sem,a8X,qg];exact fail _ _ u rfl
   | true =>
    rw[hp,a8U,aTC] at u;have δ:(l.start.length:Int)*((1:Nat):Int)≤140737488355328:=Om;have ε:(l.start.length:Int)≤9223372036854775807:=Om;simp only[go_sem,a8Q,ahL,δ,ε];refine aO fun q hq=>?_;simp only[go_sem,ahM];have ι:a8F l.start.length [PV.bool false]=aZ (eR l 0):=by rw[← E];simp[eR,aZ]
    rw[← E];refine aRK L l R V W q _ _ _ Lq ?_ ?_
    ·refine e_ a_ ?_;rw[bS,E,ι]
    simp only[go_sem,ahS];have η:(eR l l.exit.length).length≤4:=by rw[vG]; omega
    refine aZD (eR l l.exit.length) η q (qB l) u _ rfl _ _ ?_ b_;rw[vG];exact Lq
structure xI (C:Ctx):Prop extends uM C where
 law:∀ l:dC,l.Ok→aH C 68 [.agg l.cells] .nil (aI (.bool (qB l)))
def okL (base ns:List (List UInt8)) (P:Nat→Bool) (i:Nat):Bool:=mF (base++ns.take i) (ns.getD i [])&&P i
theorem wO {p:Nat→Bool} (k:Nat) (b:Bool):(b&&(a8D (k+1)).all p)=((b&&(a8D k).all p)&&p k):=by
 rw[baT,List.all_append];cases (a8D k).all p<;>cases b<;>simp
theorem wN {p:Nat→Bool} {b:Bool} {i n:Nat} (hi:i≤n) (h:(b&&(a8D i).all p)=false):(b&&(a8D n).all p)=false:=by
 cases b with
 | false=>rfl
 | true =>rw[a8U] at h ⊢;obtain⟨x,j,e⟩:=List.all_eq_false.1 h;exact List.all_eq_false.2 ⟨x,a9B.2 (by have:=a9B.1 j; omega),e⟩
structure kO (H:PH) (w:PV) (base ns:List (List UInt8)) (c:Bool) (i:Nat):Prop where
 ex:∃ names,aM H [] [(w,1,qT names)]∧(c=true→names=base++ns.take i)
section
variable {C:Ctx} {F:PF} {H:PH} {d:Option Nat} {K:PF→PH→Prop}
theorem kO.call (L:uM C) {w:PV} {base ns:List (List UInt8)} {i:Nat} {B:List BX} {e:List (List UInt8)} (h:aM H B [(w,1,qT e)]) (J:base.length≤1000) (hi:i≤1000) (y:e=base++ns.take i) (l:i<ns.length) {a b:Nat} (j:aP.evs F [.tmp a,.tmp b]=some [w,.str ns[i]])
  (E:∀ u H',aM H' B [(u,1,qT (e++[ns[i]]))]→kO H' u base ns true (i+1)→K (F.put d (.tup [u,.bool (mF (base++ns.take i) (ns.getD i []))])) H'):jU C 70 [.tmp a,.tmp b] [] d K F H:=by
 refine MF (B1:=[]) (B2:=B) (L1:=[(w,1,qT e)]) (L2:=[]) (Q:=qq e ns[i]) h (fun H0 I=>L.fresh e (by rw[y,a8H,a8W]; omega) ns[i] w H0 I) j ?_;rintro r B' L' H' ⟨u,rfl,rfl,rfl⟩ A;have x:ns.getD i []=ns[i]:=by simp[a8M,l]
 rw[x,← y] at E;refine E u H' A ⟨e++[ns[i]],A.sub (List.nil_sublist _) (baE.refl _),fun _=>?_⟩;rw[baF l,← a9L,y]
end
theorem kO.D3 {H:PH} {w:PV} {base ns:List (List UInt8)} {c:Bool} {i:Nat} (h:kO H w base ns true i):kO H w base ns c i:=by
 obtain⟨e,j,l⟩:=h.ex;exact⟨e,j,fun _=>l rfl⟩
def PJ (f:aE):Bool:=(a8D f.a6X.length).all (okL [] (f.a6X.map dC.name) fun i=>(f.a6X.map qB).getD i false)
theorem aXD {C:Ctx} (L:xI C) (f:aE) (Y:f.Ok) (hs:f.a6X.length≤4) (K:cI) [Up K] (F:PF) (H:PH)
  (W:(((((((((PF.nil.set 1 (.bO f.cells)).set 3 (.aD)).set 4 (.aD)).set 5 (.aD)).set 6 (.aD)).set 7 (.aD)).set 8 (.bool true)).set 9 (.int .i64 0)):PF).le F)
  (O:∀ H',K (.exit 0) (((((((PF.nil.set 1 (.bO f.cells)).set 4 (.aD)).set 5 (.aD)).set 6 (.aD)).set 7 (.aD)).set 8 (.bool (PJ f)))) H'):aC.wp C (.loop TU) K F H:=by
 obtain⟨ok,E⟩:∃ ok,okL [] (f.a6X.map dC.name) (fun i=>(f.a6X.map qB).getD i false)=ok:=⟨_,rfl⟩;unfold PJ at O;rw[E] at O;refine wp_loop (α:=Nat × PV × PH) (fun s=>((((((((PF.nil.set 1 (.bO f.cells)).set 3 (s.2.1)).set 4 (.aD)).set 5 (.aD)).set 6 (.aD)).set 7 (.aD)).set 8 (.bool (true&&(a8D s.1).all ok))).set 9 (.int .i64 s.1))) (fun s=>s.2.2) (fun s=>s.1≤f.a6X.length∧kO s.2.2 s.2.1 [] (f.a6X.map dC.name) (true&&(a8D s.1).all ok) s.1) (fun s=>f.a6X.length-s.1)
  (0,.aD,H) ⟨a8K _,⟨[],aM.nil.kB 1,fun _=>rfl⟩⟩ W b_ ?_
 rintro⟨i,w,H0⟩ ⟨hi,U⟩;simp only at hi U ⊢;have fin:∀ (b:Bool) (x:PV) (J:PF) (H':PH),i<f.a6X.length→(true&&(a8D (i+1)).all ok)=b→kO H' x [] (f.a6X.map dC.name) true (i+1) →
   (((((((((PF.nil.set 1 (.bO f.cells)).set 3 (x)).set 4 (.aD)).set 5 (.aD)).set 6 (.aD)).set 7 (.aD)).set 8 (.bool b)).set 9 (.int .i64 (i+1:Nat))):PF).le J →
   gP (fun s:Nat × PV × PH=>((((((((PF.nil.set 1 (.bO f.cells)).set 3 (s.2.1)).set 4 (.aD)).set 5 (.aD)).set 6 (.aD)).set 7 (.aD)).set 8 (.bool (true&&(a8D s.1).all ok))).set 9 (.int .i64 s.1))) (fun s=>s.2.2) (fun s=>s.1≤f.a6X.length∧kO s.2.2 s.2.1 [] (f.a6X.map dC.name) (true&&(a8D s.1).all ok) s.1) (fun s=>f.a6X.length-s.1) (f.a6X.length-i) K .normal J H' :=
  fun b x J H' hlt hb N M=>aG (i+1,x,H') ⟨hlt,N.D3⟩ (by simp only; omega) (by simp only; rw[hb]; exact M) b_
 have j:=wO (p:=ok) i true;have u:(true&&(a8D i).all ok)=(true&&(a8D f.a6X.length).all ok)→K (.exit 0) (((((((PF.nil.set 1 (.bO f.cells)).set 4 (.aD)).set 5 (.aD)).set 6 (.aD)).set 7 (.aD)).set 8 (.bool (true&&(a8D i).all ok)))) H0:=fun e=>by rw[e,a8U]; exact O H0
 have A:=fun h=>wN (p:=ok) (b:=true) hi h;generalize X:(true&&(a8D i).all ok)=c at *
 simp only[go_sem,TU,Of,a8E];by_cases hlt:i<f.a6X.length
 ·have l:(i:Int)<(f.a6X.length:Nat):=Om;cases c with
  | false =>simp only[go_sem,l];exact Up.up Lq (u (A rfl).symm)
  | true =>
   obtain⟨S,g1,g3⟩:=U.ex;have B:(f.a6X.map dC.cells)[i]?=some (f.a6X[i]).cells:=by simp[hlt]
   have R:i<(f.a6X.map dC.name).length:=by rw[a8E]; exact hlt
   have I:ok i=(mF ([]++(f.a6X.map dC.name).take i) ((f.a6X.map dC.name).getD i [])&&qB f.a6X[i]):=by rw[← E];unfold okL;simp[a8M,hlt]
   have Z:=L.law _ (Y.law _ (a8G hlt));rw[I] at j;simp only[go_sem,l,Og,B];refine kO.call L.touM (ns:=f.a6X.map dC.name) g1 (a8K _) Om (g3 rfl) R (by simp only[go_sem,bbF]) fun x H1 h1 y=>?_;generalize mF ([]++(f.a6X.map dC.name).take i) ((f.a6X.map dC.name).getD i [])=V at *
   cases V with
   | false =>simp only[go_sem,an,ao,wZz i];exact fin false x _ _ hlt (j.trans rfl) y Lq
   | true =>simp only[go_sem,an,B];refine aB Z rfl ?_;simp only[go_sem,ao,wZz i];exact fin _ x _ _ hlt (j.trans rfl) y Lq
 ·have l:¬ (i:Int)<(f.a6X.length:Nat):=Om;have:i=f.a6X.length:=Om;subst this;simp only[go_sem,l];exact Up.up Lq (u X.symm)
theorem YR {a b c d e f:Nat} (h:uG a b c d e f=true):a≤4∧b≤4∧c≤40∧d≤24∧e≤4∧f≤12:=by
 simp only[uG,a9A,decide_eq_true_eq] at h;omega
theorem Aa {n:Nat} (h:n≤1000):IntKind.i64.wrap ((n:Int)-1)=(n:Int)-1:=wrap_i64 Om Om
def inS:Spec:=fun name vs=>match name,vs with
 | 76,[.int _ n,.int _ lo,.int _ hi]=>some ([],fun _=>aI (.bool (within n lo hi)))
 | _,_=>none
def Cm (a6X:Nat) (m:dN):Bool:=within m.a7G 1 16&&(within m.port 1 64&&within m.law 0 ((a6X:Int)-1))
def agK (pols:Nat) (v:fZ):Bool:=within v.a7C 0 ((pols:Int)-1)
def FJ (f:aE):Bool:=(a8D f.a6Q.length).all (okL [] (f.a6Q.map dN.name) fun i=>(f.a6Q.map (Cm f.a6X.length)).getD i false)
theorem aLK {C:Ctx} (L:xI C) (f:aE) (hf:f.Ok) (hz:uG f.a6X.length f.a6Q.length f.a6S.length f.a6P.length f.a6T.length f.a6R.length=true) (b:Bool) (K:cI) [Up K] (F:PF) (H:PH)
  (hF:((((((((PF.nil.set 1 (.bO f.cells)).set 4 (.aD)).set 5 (.aD)).set 6 (.aD)).set 7 (.aD)).set 8 (.bool b)).set 10 (.int .i64 0)):PF).le F)
  (R:∀ H',K (.exit 2) ((((((PF.nil.set 1 (.bO f.cells)).set 5 (.aD)).set 6 (.aD)).set 7 (.aD)).set 8 (.bool (b&&FJ f)))) H'):aC.wp C (.loop TV) K F H:=by
 obtain⟨β,γ,δ,ε,ζ,η⟩:=YR hz;obtain⟨ok,E⟩:∃ ok,okL [] (f.a6Q.map dN.name) (fun i=>(f.a6Q.map (Cm f.a6X.length)).getD i false)=ok:=⟨_,rfl⟩;unfold FJ at R;rw[E] at R;refine wp_loop (α:=Nat × PV × PH) (fun s=>(((((((PF.nil.set 1 (.bO f.cells)).set 4 (s.2.1)).set 5 (.aD)).set 6 (.aD)).set 7 (.aD)).set 8 (.bool (b&&(a8D s.1).all ok))).set 10 (.int .i64 s.1))) (fun s=>s.2.2) (fun s=>s.1≤f.a6Q.length∧kO s.2.2 s.2.1 [] (f.a6Q.map dN.name) (b&&(a8D s.1).all ok) s.1) (fun s=>f.a6Q.length-s.1)
  (0,.aD,H) ⟨a8K _,⟨[],aM.nil.kB 1,fun _=>rfl⟩⟩ (by
   have e:(b&&(a8D 0).all ok)=b:=by cases b<;>rfl
   simp only[e];exact hF) b_ ?_
 rintro⟨i,w,H0⟩ ⟨hi,X⟩;simp only at hi X ⊢;have fin:∀ (c:Bool) (x:PV) (J:PF) (H':PH),i<f.a6Q.length→(b&&(a8D (i+1)).all ok)=c→kO H' x [] (f.a6Q.map dN.name) true (i+1) →
   ((((((((PF.nil.set 1 (.bO f.cells)).set 4 (x)).set 5 (.aD)).set 6 (.aD)).set 7 (.aD)).set 8 (.bool c)).set 10 (.int .i64 (i+1:Nat))):PF).le J →
   gP (fun s:Nat × PV × PH=>(((((((PF.nil.set 1 (.bO f.cells)).set 4 (s.2.1)).set 5 (.aD)).set 6 (.aD)).set 7 (.aD)).set 8 (.bool (b&&(a8D s.1).all ok))).set 10 (.int .i64 s.1))) (fun s=>s.2.2) (fun s=>s.1≤f.a6Q.length∧kO s.2.2 s.2.1 [] (f.a6Q.map dN.name) (b&&(a8D s.1).all ok) s.1) (fun s=>f.a6Q.length-s.1) (f.a6Q.length-i) K .normal J H' :=
  fun c x J H' hlt hb O N=>aG (i+1,x,H') ⟨hlt,O.D3⟩ (by simp only; omega) (by simp only; rw[hb]; exact N) b_
 have j:=wO (p:=ok) i b;have y:(b&&(a8D i).all ok)=(b&&(a8D f.a6Q.length).all ok)→K (.exit 2) ((((((PF.nil.set 1 (.bO f.cells)).set 5 (.aD)).set 6 (.aD)).set 7 (.aD)).set 8 (.bool (b&&(a8D i).all ok)))) H0:=fun e=>by rw[e]; exact R H0
 have B:=fun h=>wN (p:=ok) (b:=b) hi h;generalize hc:(b&&(a8D i).all ok)=c at *
 simp only[go_sem,TV,Ao,a8E];by_cases hlt:i<f.a6Q.length
 ·have l:(i:Int)<(f.a6Q.length:Nat):=Om;cases c with
  | false =>simp only[go_sem,l];exact Up.up Lq (y (B rfl).symm)
  | true =>
   obtain⟨W,g1,g3⟩:=X.ex;have S:(f.a6Q.map dN.cells)[i]?=some (f.a6Q[i]).cells:=by simp[hlt]
   have U:i<(f.a6Q.map dN.name).length:=by rw[a8E]; exact hlt
   have I:ok i=(mF ([]++(f.a6Q.map dN.name).take i) ((f.a6Q.map dN.name).getD i [])&&(Cm f.a6X.length) f.a6Q[i]):=by rw[← E];unfold okL;simp[a8M,hlt]
   rw[I] at j;have A:Cm f.a6X.length f.a6Q[i]=(within (f.a6Q[i]).a7G 1 16&&(within (f.a6Q[i]).port 1 64&&within (f.a6Q[i]).law 0 ((f.a6X.length:Int)-1))):=rfl;rw[A] at j;simp only[go_sem,l,Ap,S];refine aO fun o ho=>?_;have g4:=g1.new ho (.rows 4 [(f.a6Q[i]).cells]);have Z:=g4.at 0 rfl;simp only[go_sem];generalize H0.set o (.rows 4 [(f.a6Q[i]).cells])=H2 at *
   simp only[go_sem,Aq,Z];refine kO.call L.touM (ns:=(f.a6Q.map dN.name)) g4 (a8K _) Om (g3 rfl) U (by simp only[go_sem,bbF]) fun x H1 h1 u=>?_;have M:=h1.at 0 rfl;generalize mF ([]++(f.a6Q.map dN.name).take i) ((f.a6Q.map dN.name).getD i [])=Y at *
   cases Y with
   | false =>simp only[go_sem,TX,zQ,wZz i];exact fin false x _ _ hlt (j.trans rfl) u Lq
   | true =>
    simp only[go_sem,TX,M];refine aB (L.inn (f.a6Q[i]).a7G 1 16) rfl ?_;cases V:within (f.a6Q[i]).a7G 1 16 with
    | false =>simp only[go_sem,zQ,wZz i];exact fin false x _ _ hlt (by rw[j,V]<;>simp) u Lq
    | true =>
     simp only[go_sem,M];refine aB (L.inn (f.a6Q[i]).port 1 64) rfl ?_;cases k1:within (f.a6Q[i]).port 1 64 with
     | false =>simp only[go_sem,zQ,wZz i];exact fin false x _ _ hlt (by rw[j,V,k1]<;>simp) u Lq
     | true =>simp only[go_sem,M,a8E,Aa (Om:f.a6X.length≤1000)];refine aB (L.inn (f.a6Q[i]).law 0 ((f.a6X.length:Int)-1)) rfl ?_;simp only[go_sem,zQ,wZz i];exact fin _ x _ _ hlt (by rw[j,V,k1]<;>simp) u Lq
 ·have l:¬ (i:Int)<(f.a6Q.length:Nat):=Om;have:i=f.a6Q.length:=Om;subst this;simp only[go_sem,l];exact Up.up Lq (y hc.symm)
def Pj (f:aE):Bool:=(a8D f.a6R.length).all (okL [] (f.a6R.map fZ.name) fun i=>(f.a6R.map (agK f.a6T.length)).getD i false)
theorem aXF {C:Ctx} (L:xI C) (f:aE) (hf:f.Ok) (Z:uG f.a6X.length f.a6Q.length f.a6S.length f.a6P.length f.a6T.length f.a6R.length=true) (b:Bool) (K:cI) [Up K] (F:PF) (H:PH)
  (X:(((((PF.nil.set 1 (.bO f.cells)).set 7 (.aD)).set 8 (.bool b)).set 21 (.int .i64 0)):PF).le F)
  (R:∀ H',K (.exit 14) (((PF.nil.set 1 (.bO f.cells)).set 8 (.bool (b&&Pj f)))) H'):aC.wp C (.loop EV) K F H:=by
 obtain⟨β,γ,δ,ε,ζ,η⟩:=YR Z;obtain⟨ok,I⟩:∃ ok,okL [] (f.a6R.map fZ.name) (fun i=>(f.a6R.map (agK f.a6T.length)).getD i false)=ok:=⟨_,rfl⟩;unfold Pj at R;rw[I] at R;refine wp_loop (α:=Nat × PV × PH) (fun s=>((((PF.nil.set 1 (.bO f.cells)).set 7 (s.2.1)).set 8 (.bool (b&&(a8D s.1).all ok))).set 21 (.int .i64 s.1))) (fun s=>s.2.2) (fun s=>s.1≤f.a6R.length∧kO s.2.2 s.2.1 [] (f.a6R.map fZ.name) (b&&(a8D s.1).all ok) s.1) (fun s=>f.a6R.length-s.1)
  (0,.aD,H) ⟨a8K _,⟨[],aM.nil.kB 1,fun _=>rfl⟩⟩ (by
   have e:(b&&(a8D 0).all ok)=b:=by cases b<;>rfl
   simp only[e];exact X) b_ ?_
 rintro⟨i,w,H0⟩ ⟨hi,V⟩;simp only at hi V ⊢;have fin:∀ (c:Bool) (y:PV) (M:PF) (H':PH),i<f.a6R.length→(b&&(a8D (i+1)).all ok)=c→kO H' y [] (f.a6R.map fZ.name) true (i+1) →
   (((((PF.nil.set 1 (.bO f.cells)).set 7 (y)).set 8 (.bool c)).set 21 (.int .i64 (i+1:Nat))):PF).le M →
   gP (fun s:Nat × PV × PH=>((((PF.nil.set 1 (.bO f.cells)).set 7 (s.2.1)).set 8 (.bool (b&&(a8D s.1).all ok))).set 21 (.int .i64 s.1))) (fun s=>s.2.2) (fun s=>s.1≤f.a6R.length∧kO s.2.2 s.2.1 [] (f.a6R.map fZ.name) (b&&(a8D s.1).all ok) s.1) (fun s=>f.a6R.length-s.1) (f.a6R.length-i) K .normal M H' :=
  fun c y M H' hlt hb O N=>aG (i+1,y,H') ⟨hlt,O.D3⟩ (by simp only; omega) (by simp only; rw[hb]; exact N) b_
 have j:=wO (p:=ok) i b;have u:(b&&(a8D i).all ok)=(b&&(a8D f.a6R.length).all ok)→K (.exit 14) (((PF.nil.set 1 (.bO f.cells)).set 8 (.bool (b&&(a8D i).all ok)))) H0:=fun e=>by rw[e]; exact R H0
 have B:=fun h=>wN (p:=ok) (b:=b) hi h;generalize Y:(b&&(a8D i).all ok)=c at *
 simp only[go_sem,EV,A7,a8E];by_cases hlt:i<f.a6R.length
 ·have l:(i:Int)<(f.a6R.length:Nat):=Om;cases c with
  | false =>simp only[go_sem,l];exact Up.up Lq (u (B rfl).symm)
  | true =>
   obtain⟨U,g1,g3⟩:=V.ex;have E:(f.a6R.map fZ.cells)[i]?=some (f.a6R[i]).cells:=by simp[hlt]
   have S:i<(f.a6R.map fZ.name).length:=by rw[a8E]; exact hlt
   have J:ok i=(mF ([]++(f.a6R.map fZ.name).take i) ((f.a6R.map fZ.name).getD i [])&&(agK f.a6T.length) f.a6R[i]):=by rw[← I];unfold okL;simp[a8M,hlt]
   rw[J] at j;have x:agK f.a6T.length f.a6R[i]=within (f.a6R[i]).a7C 0 ((f.a6T.length:Int)-1):=rfl;rw[x] at j;simp only[go_sem,l,A8,E];refine kO.call L.touM (ns:=(f.a6R.map fZ.name)) g1 (a8K _) Om (g3 rfl) S (by simp only[go_sem,bbF]) fun y H1 h1 A=>?_;generalize mF ([]++(f.a6R.map fZ.name).take i) ((f.a6R.map fZ.name).getD i [])=W at *
   cases W with
   | false =>simp only[go_sem];refine aV .nil (inS) a_ ?_;simp only[go_sem,UJ,UK,wZz i];exact fin false y _ _ hlt (j.trans rfl) A Lq
   | true =>simp only[go_sem];refine aV .nil (inS) a_ ?_;simp only[go_sem,UJ,E,a8E,Aa (Om:f.a6T.length≤1000)];refine cC rfl (L.inn (f.a6R[i]).a7C 0 ((f.a6T.length:Int)-1)) rfl a_ ?_;simp only[go_sem,UK,wZz i];exact fin _ y _ _ hlt (j.trans rfl) A Lq
 ·have l:¬ (i:Int)<(f.a6R.length:Nat):=Om;have:i=f.a6R.length:=Om;subst this;simp only[go_sem,l];exact Up.up Lq (u Y.symm)
def aBQ:Spec:=fun name vs=>match name,vs with
 | 76,[.int _ n,.int _ lo,.int _ hi]=>some ([],fun _=>aI (.bool (within n lo hi)))
 | 74,[.agg cs]=>some ([],fun _=>aI (.bool (dP (frD cs))))
 | _,_=>none
theorem aBR (x:RF):aBQ 74 [.agg x.cells]=some ([],fun _=>aI (.bool (dP x))):=by
 show some ([],fun _=>aI (.bool (dP (frD x.cells))))=_;rw[Ff]
def Qo (f:aE) (i:Nat) (d:dB):Bool :=
 within d.level 1 4&&(within d.parent 0 i&&(((f.a6S.map dB.level).getD d.parent.toNat 0==IntKind.i64.wrap (d.level-1))&&(within d.a7K 1 64&&dP d.a7F)))
theorem aTA (f:aE) (i:Nat) (d:dB):i5 f i d=Qo f i d:=by
 unfold i5 Qo;have:decide ((f.a6S.map dB.level).getD d.parent.toNat 0=IntKind.i64.wrap (d.level-1))=((f.a6S.map dB.level).getD d.parent.toNat 0==IntKind.i64.wrap (d.level-1)):=by generalize (f.a6S.map dB.level).getD d.parent.toNat 0=u;by_cases h:u=IntKind.i64.wrap (d.level-1)<;>simp[h]
 rw[this];cases within d.parent 0 i<;>cases within d.level 1 4<;>cases within d.a7K 1 64<;>simp
def kE (f:aE):List (List UInt8):=(f.a6S.drop 1).map dB.name
def DC (f:aE) (i:Nat):Bool:=match f.a6S[i+1]? with
 | some d=>Qo f i d
 | none=>false
def DD (f:aE):Bool:=(a8D (f.a6S.length-1)).all (okL [] (kE f) (DC f))
theorem Qn (f:aE):(kE f).length=f.a6S.length-1:=by simp[kE]
theorem aXC {C:Ctx} (L:xI C) (f:aE) (hf:f.Ok) (μ:f.a6S.length≤40) (h0:0<f.a6S.length) (b:Bool) (K:cI) [Up K] (F:PF) (H:PH)
  (hF:(((((((PF.nil.set 1 (.bO f.cells)).set 5 (.aD)).set 6 (.aD)).set 7 (.aD)).set 8 (.bool b)).set 13 (.int .i64 1)):PF).le F)
  (W:∀ w H',kO H' w [] (kE f) (b&&DD f) (f.a6S.length-1)→K (.exit 4) ((((((PF.nil.set 1 (.bO f.cells)).set 5 (w)).set 6 (.aD)).set 7 (.aD)).set 8 (.bool (b&&DD f)))) H'):aC.wp C (.loop ER) K F H:=by
 obtain⟨ok,O⟩:∃ ok,okL [] (kE f) (DC f)=ok:=⟨_,rfl⟩;unfold DD at W;rw[O] at W;obtain⟨n,hn⟩:∃ n,f.a6S.length=n+1:=⟨f.a6S.length-1,by omega⟩;have η:=Qn f;have ζ:f.a6S.length-1=n:=Om;rw[ζ] at W η;refine wp_loop (α:=Nat × PV × PH) (fun s=>((((((PF.nil.set 1 (.bO f.cells)).set 5 (s.2.1)).set 6 (.aD)).set 7 (.aD)).set 8 (.bool (b&&(a8D s.1).all ok))).set 13 (.int .i64 (s.1+1:Nat)))) (fun s=>s.2.2) (fun s=>s.1≤n∧kO s.2.2 s.2.1 [] (kE f) (b&&(a8D s.1).all ok) s.1) (fun s=>n-s.1)
  (0,.aD,H) ⟨a8K _,⟨[],aM.nil.kB 1,fun _=>rfl⟩⟩ (by
   have e:(b&&(a8D 0).all ok)=b:=by cases b<;>rfl
   simp only[e];exact hF) b_ ?_
 rintro⟨i,w,H0⟩ ⟨hi,hG⟩;simp only at hi hG ⊢;have fin:∀ (c:Bool) (A:PV) (Y:PF) (H':PH),i<n→(b&&(a8D (i+1)).all ok)=c→kO H' A [] (kE f) true (i+1) →
   (((((((PF.nil.set 1 (.bO f.cells)).set 5 (A)).set 6 (.aD)).set 7 (.aD)).set 8 (.bool c)).set 13 (.int .i64 (i+1+1:Nat))):PF).le Y →
   gP (fun s:Nat × PV × PH=>((((((PF.nil.set 1 (.bO f.cells)).set 5 (s.2.1)).set 6 (.aD)).set 7 (.aD)).set 8 (.bool (b&&(a8D s.1).all ok))).set 13 (.int .i64 (s.1+1:Nat)))) (fun s=>s.2.2) (fun s=>s.1≤n∧kO s.2.2 s.2.1 [] (kE f) (b&&(a8D s.1).all ok) s.1) (fun s=>n-s.1) (n-i) K .normal Y H' :=
  fun c A Y H' hlt hb β Z=>aG (i+1,A,H') ⟨hlt,β.D3⟩ (by simp only; omega) (by simp only; rw[hb]; exact Z) b_
 have j:=wO (p:=ok) i b;have M:=fun h=>wN (p:=ok) (b:=b) hi h;have E:(b&&(a8D i).all ok)=(b&&(a8D n).all ok)→((b&&(a8D i).all ok)=true→i=n)→K (.exit 4) ((((((PF.nil.set 1 (.bO f.cells)).set 5 (w)).set 6 (.aD)).set 7 (.aD)).set 8 (.bool (b&&(a8D i).all ok)))) H0:=fun e e2=>by
  obtain⟨y,g1,g3⟩:=hG.ex;have:=W w H0 ⟨y,g1,fun h=>by have h':=e.trans h;rw[g3 h',e2 h']⟩
  rwa [← e] at this
 generalize hc:(b&&(a8D i).all ok)=c at *
 simp only[go_sem,ER,As,a8E];by_cases hlt:i<n
 ·have u:((i+1:Nat):Int)<(f.a6S.length:Nat):=Om;cases c with
  | false =>simp only[go_sem,u];exact Up.up Lq (E (M rfl).symm (fun h=>by cases h))
  | true =>
   obtain⟨y,g1,g3⟩:=hG.ex;have I:i+1<f.a6S.length:=Om;have γ:=oQ I;have ε:i<(kE f).length:=Om;have θ:(kE f)[i]=(f.a6S[i+1]).name:=by simp[kE,Nat.add_comm]
   have R:ok i=(mF ([]++(kE f).take i) ((kE f).getD i [])&&Qo f i f.a6S[i+1]):=by rw[← O];unfold okL DC;rw[a8L I]
   have δ:=hf.dom _ (a8G I);rw[R] at j;unfold Qo at j;have e1:IntKind.i64.wrap (((i+1:Nat):Int)-1)=(i:Nat):=by rw[wrap_i64 Om Om]; omega
   have l:IntKind.i64.wrap (((i+1:Nat):Int)+1)=((i+1+1:Nat):Int):=dW Om;have κ:=L.small _ δ.1;simp only[go_sem,u,Au,γ];refine aO fun o ho=>?_;have g4:=g1.new ho (.rows 7 [(f.a6S[i+1]).cells]);have g5:=g4.at 0 rfl;simp only[go_sem];generalize H0.set o (.rows 7 [(f.a6S[i+1]).cells])=H2 at *
   simp only[go_sem,Av,g5];refine kO.call L.touM (ns:=kE f) g4 (a8K _) Om (g3 rfl) ε (by simp only[go_sem,θ]) fun A H1 h1 x=>?_;have J:=h1.at 0 rfl;generalize mF ([]++(kE f).take i) ((kE f).getD i [])=fb at *
   generalize hd:f.a6S[i+1]=B at *
   cases fb with
   | false =>simp only[go_sem];refine aV .nil aBQ a_ ?_;simp only[go_sem,UA,sR,l];exact fin false A _ _ hlt (j.trans rfl) x Lq
   | true =>
    simp only[go_sem];refine aV .nil aBQ a_ ?_;simp only[go_sem,UA,J];refine cC rfl (L.inn B.level 1 4) rfl a_ ?_;cases V:within B.level 1 4 with
    | false =>simp only[go_sem,sR,l];exact fin false A _ _ hlt (by rw[j,V]<;>simp) x Lq
    | true =>
     simp only[go_sem,J,e1];refine cC rfl (L.inn B.parent 0 (i:Nat)) rfl a_ ?_;cases k1:within B.parent 0 (i:Nat) with
     | false =>simp only[go_sem,sR,l];exact fin false A _ _ hlt (by rw[j,V,k1]<;>simp) x Lq
     | true =>
      obtain⟨p0,p1⟩:=within_iff.1 k1;obtain⟨p,hp⟩:∃ p:Nat,B.parent=p:=⟨B.parent.toNat,by omega⟩;have U:p<f.a6S.length:=Om;obtain⟨X,N⟩:∃ X,(f.a6S.map dB.level).getD B.parent.toNat 0=X:=⟨_,rfl⟩;have ι:(f.a6S[p]).level=X:=by rw[← N,hp,bbI,getD_at U]
      rw[N] at j;have S:=oQ U;simp only[go_sem,J,hp,S,ι];cases k2:X==IntKind.i64.wrap (B.level-1) with
      | false =>simp only[go_sem,sR,l];exact fin false A _ _ hlt (by rw[j,V,k1,k2]<;>simp) x Lq
      | true =>
       simp only[go_sem,J];refine cC rfl (L.inn B.a7K 1 64) rfl a_ ?_;cases k3:within B.a7K 1 64 with
       | false =>simp only[go_sem,sR,l];exact fin false A _ _ hlt (by rw[j,V,k1,k2,k3]<;>simp) x Lq
       | true =>simp only[go_sem,J];refine cC (aBR _) κ rfl a_ ?_;simp only[go_sem,sR,l];exact fin _ A _ _ hlt (by rw[j,V,k1,k2,k3]<;>simp) x Lq
 ·have u:¬ ((i+1:Nat):Int)<(f.a6S.length:Nat):=Om;have:i=n:=Om;subst this;simp only[go_sem,u];exact Up.up Lq (E hc.symm (fun _=>rfl))
def Qr (f:aE) (d:eT):Bool:=within d.model 0 ((f.a6Q.length:Int)-1)&&(within d.machine 0 ((f.a6S.length:Int)-1)&&((f.a6S.map dB.level).getD d.machine.toNat 0==4))
def qA (f:aE):List (List UInt8):=f.a6P.map eT.name
def AY (f:aE) (i:Nat):Bool:=match f.a6P[i]? with
 | some d=>Qr f d
 | none=>false
def EX (f:aE):Bool:=(a8D f.a6P.length).all (okL (kE f) (qA f) (AY f))
theorem aLJ {C:Ctx} (L:xI C) (f:aE) (hf:f.Ok) (ι:f.a6S.length≤40) (h0:0<f.a6S.length) (κ:f.a6P.length≤24) (θ:f.a6Q.length≤4) (b:Bool) (w0:PV) (K:cI) [Up K] (F:PF) (H:PH)
  (Z:kO H w0 [] (kE f) b (f.a6S.length-1)) (hF:(((((((PF.nil.set 1 (.bO f.cells)).set 5 (w0)).set 6 (.aD)).set 7 (.aD)).set 8 (.bool b)).set 15 (.int .i64 0)):PF).le F)
  (U:∀ H',K (.exit 6) (((((PF.nil.set 1 (.bO f.cells)).set 6 (.aD)).set 7 (.aD)).set 8 (.bool (b&&EX f)))) H'):aC.wp C (.loop ES) K F H:=by
 obtain⟨ok,N⟩:∃ ok,okL (kE f) (qA f) (AY f)=ok:=⟨_,rfl⟩;unfold EX at U;rw[N] at U;obtain⟨n,hn⟩:∃ n,f.a6P.length=n:=⟨_,rfl⟩;have ζ:=Qn f;have η:(qA f).length=n:=by simp[qA,hn]
 rw[hn] at U;refine wp_loop (α:=Nat × PV × PH) (fun s=>((((((PF.nil.set 1 (.bO f.cells)).set 5 (s.2.1)).set 6 (.aD)).set 7 (.aD)).set 8 (.bool (b&&(a8D s.1).all ok))).set 15 (.int .i64 s.1))) (fun s=>s.2.2) (fun s=>s.1≤n∧kO s.2.2 s.2.1 (kE f) (qA f) (b&&(a8D s.1).all ok) s.1) (fun s=>n-s.1)
  (0,w0,H) ⟨a8K _,by
   obtain⟨x,q1,q2⟩:=Z.ex;have e:(b&&(a8D 0).all ok)=b:=by cases b<;>rfl
   refine⟨x,q1,fun h=>?_⟩;simp only[e] at h;rw[q2 h,bbK,a8V Om];simp⟩ (by
   have e:(b&&(a8D 0).all ok)=b:=by cases b<;>rfl
   simp only[e];exact hF) b_ ?_
 rintro⟨i,w,H0⟩ ⟨hi,hG⟩;simp only at hi hG ⊢;have fin:∀ (c:Bool) (A:PV) (V:PF) (H':PH),i<n→(b&&(a8D (i+1)).all ok)=c→kO H' A (kE f) (qA f) true (i+1) →
   (((((((PF.nil.set 1 (.bO f.cells)).set 5 (A)).set 6 (.aD)).set 7 (.aD)).set 8 (.bool c)).set 15 (.int .i64 (i+1:Nat))):PF).le V →
   gP (fun s:Nat × PV × PH=>((((((PF.nil.set 1 (.bO f.cells)).set 5 (s.2.1)).set 6 (.aD)).set 7 (.aD)).set 8 (.bool (b&&(a8D s.1).all ok))).set 15 (.int .i64 s.1))) (fun s=>s.2.2) (fun s=>s.1≤n∧kO s.2.2 s.2.1 (kE f) (qA f) (b&&(a8D s.1).all ok) s.1) (fun s=>n-s.1) (n-i) K .normal V H' :=
  fun c A V H' hlt hb Y X=>aG (i+1,A,H') ⟨hlt,Y.D3⟩ (by simp only; omega) (by simp only; rw[hb]; exact X) b_
 have j:=wO (p:=ok) i b;have I:=fun h=>wN (p:=ok) (b:=b) hi h;have B:(b&&(a8D i).all ok)=(b&&(a8D n).all ok)→K (.exit 6) (((((PF.nil.set 1 (.bO f.cells)).set 6 (.aD)).set 7 (.aD)).set 8 (.bool (b&&(a8D i).all ok)))) H0:=fun e=>by rw[e]; exact U H0
 generalize hc:(b&&(a8D i).all ok)=c at *
 simp only[go_sem,ES,Aw,a8E];by_cases hlt:i<n
 ·have l:((i:Nat):Int)<(f.a6P.length:Nat):=Om;cases c with
  | false =>simp only[go_sem,l];exact Up.up Lq (B (I rfl).symm)
  | true =>
   obtain⟨x,g1,g3⟩:=hG.ex;have J:i<f.a6P.length:=Om;have β:=qJ J;have γ:i<(qA f).length:=Om;have δ:(qA f)[i]=(f.a6P[i]).name:=by simp[qA]
   have O:ok i=(mF (kE f++(qA f).take i) ((qA f).getD i [])&&Qr f f.a6P[i]):=by rw[← N];unfold okL AY;rw[a8L J]
   rw[O] at j;unfold Qr at j;have u:IntKind.i64.wrap ((i:Int)+1)=((i+1:Nat):Int):=dW Om;have e1:=Aa (Om:f.a6Q.length≤1000);have e2:=Aa (Om:f.a6S.length≤1000);simp only[go_sem,l,Ax,β];refine aO fun o ho=>?_;have g4:=g1.new ho (.rows 3 [(f.a6P[i]).cells]);have g5:=g4.at 0 rfl;simp only[go_sem];generalize H0.set o (.rows 3 [(f.a6P[i]).cells])=H2 at *
   simp only[go_sem,Ay,g5];refine kO.call L.touM (base:=kE f) (ns:=qA f) g4 Om Om (g3 rfl) γ (by simp only[go_sem,δ]) fun A H1 h1 y=>?_;have W:=h1.at 0 rfl;generalize mF (kE f++(qA f).take i) ((qA f).getD i [])=fb at *
   generalize hd:f.a6P[i]=E at *
   cases fb with
   | false =>simp only[go_sem,UC,zR,u];exact fin false A _ _ hlt (j.trans rfl) y Lq
   | true =>
    simp only[go_sem,UC,W,a8E,e1];refine aB (L.inn E.model 0 ((f.a6Q.length:Int)-1)) rfl ?_;cases k0:within E.model 0 ((f.a6Q.length:Int)-1) with
    | false =>simp only[go_sem,zR,u];exact fin false A _ _ hlt (by rw[j,k0]<;>simp) y Lq
    | true =>
     simp only[go_sem,W,a8E,e2];refine aB (L.inn E.machine 0 ((f.a6S.length:Int)-1)) rfl ?_;cases k1:within E.machine 0 ((f.a6S.length:Int)-1) with
     | false =>simp only[go_sem,zR,u];exact fin false A _ _ hlt (by rw[j,k0,k1]<;>simp) y Lq
     | true =>
      obtain⟨p0,p1⟩:=within_iff.1 k1;obtain⟨p,hp⟩:∃ p:Nat,E.machine=p:=⟨E.machine.toNat,by omega⟩;have S:p<f.a6S.length:=Om;obtain⟨lv,M⟩:∃ lv,(f.a6S.map dB.level).getD E.machine.toNat 0=lv:=⟨_,rfl⟩;have ε:(f.a6S[p]).level=lv:=by rw[← M,hp,bbI,getD_at S]
      rw[M] at j;have R:=oQ S;simp only[go_sem,W,hp,R,ε,zR,u];exact fin _ A _ _ hlt (by rw[j,k0,k1]<;>simp) y Lq
 ·have l:¬ ((i:Nat):Int)<(f.a6P.length:Nat):=Om;have:i=n:=Om;subst this;simp only[go_sem,l];exact Up.up Lq (B hc.symm)
theorem kh {xs:List Int} {k:Nat} (h:k<xs.length):(xs.map fun x=>[PV.int .i64 x])[k]?=some [.int .i64 xs[k]]:=by simp[h]
def zpF (f:aE) (w:PV) (o i:Nat) (c:Bool) (j:Nat):PF:=(((((((PF.nil.set 1 (.bO f.cells)).set 6 (w)).set 7 (.aD)).set 8 (.bool c)).set 17 (.int .i64 i)).set 18 (.ptr o 17 0 0)).set 19 (.int .i64 j))
theorem aRN {C:Ctx} (f:aE) (w:PV) (o i:Nat) (p:dX) (N:p.a6Q.length≤9223372036854775807) (j:Nat) (I:j<p.a6Q.length) (b:Bool) (K:cI) [Up K] (F:PF) (H:PH) (J:H o=some (.rows 17 [p.cells])) (B:((zpF f w o i b j).set 20 (.int .i64 0)).le F)
  (E:K (.exit 12) (zpF f w o i (b&&(p.a6Q.take j).all fun x=>x != p.a6Q[j]) j) H):aC.wp C (.loop TW) K F H:=by
 refine wp_loop (α:=Nat) (fun k=>(zpF f w o i (b&&(p.a6Q.take k).all fun x=>x != p.a6Q[j]) j).set 20 (.int .i64 k)) (fun _=>H) (fun k=>k≤j) (fun k=>j-k) 0 (a8K _) (by
   have e:(b&&(p.a6Q.take 0).all fun x=>x != p.a6Q[j])=b:=by cases b<;>rfl
   simp only[e];exact B) b_ ?_
 intro k M;have y:∀ h:k<p.a6Q.length,(b&&(p.a6Q.take (k+1)).all fun x=>x != p.a6Q[j])=((b&&(p.a6Q.take k).all fun x=>x != p.a6Q[j])&&(p.a6Q[k] != p.a6Q[j])):=fun h=>by rw[baF h,List.all_append];simp[bbN]
 have fin:∀ (c:Bool) (A:PF),k<j→(b&&(p.a6Q.take (k+1)).all fun x=>x != p.a6Q[j])=c→((zpF f w o i c j).set 20 (.int .i64 (k+1:Nat))).le A→gP (fun k:Nat=>(zpF f w o i (b&&(p.a6Q.take k).all fun x=>x != p.a6Q[j]) j).set 20 (.int .i64 k)) (fun _=>H) (fun k=>k≤j) (fun k=>j-k) (j-k) K .normal A H :=
  fun c A hlt e h=>aG (k+1) hlt Om (by rw[e]; exact h) b_
 unfold zpF at fin;simp only[go_sem,TW,A5,zpF];by_cases hlt:k<j
 ·have l:(k:Int)<(j:Nat):=Om;have u:k<p.a6Q.length:=Om;have y:=y u;generalize (b&&(p.a6Q.take k).all fun x=>x != p.a6Q[j])=c at *
  simp only[go_sem,l];refine aV .nil cA a_ ?_;cases c with
  | false =>simp only[go_sem,UF,UG,wZz k];exact fin false _ hlt (y.trans rfl) Lq
  | true =>simp only[go_sem,UF,J,kh u,kh I,UG,wZz k];exact fin _ _ hlt (y.trans rfl) Lq
 ·have l:¬ (k:Int)<(j:Nat):=Om;have:k=j:=Om;subst this;simp only[go_sem,l];exact Up.up (by (repeat' (first|exact c_|refine d_ ?_ ?_))<;>first|(simp only[go_sem,zpF]<;>rfl)|rfl) E
def RM (a6Q:Nat) (ms:List Int) (j:Nat):Bool:=within (ms.getD j 0) 0 ((a6Q:Int)-1)&&(ms.take j).all fun x=>x != ms.getD j 0
theorem aLF {C:Ctx} (L:xI C) (f:aE) (W:f.a6Q.length≤4) (w:PV) (o i:Nat) (p:dX) (V:p.a6Q.length≤9223372036854775807) (b:Bool) (K:cI) [Up K] (F:PF) (H:PH) (I:H o=some (.rows 17 [p.cells])) (O:(zpF f w o i b 0).le F)
  (M:K (.exit 10) ((((((PF.nil.set 1 (.bO f.cells)).set 6 (w)).set 7 (.aD)).set 8 (.bool (b&&(a8D p.a6Q.length).all (RM f.a6Q.length p.a6Q)))).set 17 (.int .i64 i))) H):aC.wp C (.loop ET) K F H:=by
 obtain⟨ok,B⟩:∃ ok,RM f.a6Q.length p.a6Q=ok:=⟨_,rfl⟩;rw[B] at M;refine wp_loop (α:=Nat) (fun j=>zpF f w o i (b&&(a8D j).all ok) j) (fun _=>H) (fun j=>j≤p.a6Q.length) (fun j=>p.a6Q.length-j) 0 (a8K _) (by
   have e:(b&&(a8D 0).all ok)=b:=by cases b<;>rfl
   simp only[e];exact O) b_ ?_
 intro j U;have u:=wO (p:=ok) j b;have A:=fun h=>wN (p:=ok) (b:=b) U h;have fin:∀ (c:Bool) (E:PF),j<p.a6Q.length→(b&&(a8D (j+1)).all ok)=c→(zpF f w o i c (j+1)).le E→gP (fun j:Nat=>zpF f w o i (b&&(a8D j).all ok) j) (fun _=>H) (fun j=>j≤p.a6Q.length) (fun j=>p.a6Q.length-j) (p.a6Q.length-j) K .normal E H :=
  fun c E hlt e h=>aG (j+1) hlt Om (by rw[e]; exact h) b_
 unfold zpF at fin;have y:(b&&(a8D j).all ok)=(b&&(a8D p.a6Q.length).all ok)→K (.exit 10) ((((((PF.nil.set 1 (.bO f.cells)).set 6 (w)).set 7 (.aD)).set 8 (.bool (b&&(a8D j).all ok))).set 17 (.int .i64 i))) H:=fun e=>by rw[e]; exact M
 generalize R:(b&&(a8D j).all ok)=c at *
 simp only[go_sem,ET,A2,zpF,I,a8E];by_cases hlt:j<p.a6Q.length
 ·have l:(j:Int)<(p.a6Q.length:Nat):=Om;cases c with
  | false =>simp only[go_sem,l];exact Up.up Lq (y (A rfl).symm)
  | true =>
   have N:=Aa (Om:f.a6Q.length≤1000);have S:p.a6Q.getD j 0=p.a6Q[j]:=by simp[a8M,hlt]
   have J:ok j=(within p.a6Q[j] 0 ((f.a6Q.length:Int)-1)&&(p.a6Q.take j).all fun x=>x != p.a6Q[j]):=by rw[← B];unfold RM;rw[S]
   rw[J] at u;simp only[go_sem,l];refine aV .nil aBQ a_ ?_;simp only[go_sem,A3,I,kh hlt,a8E,N];refine cC rfl (L.inn p.a6Q[j] 0 ((f.a6Q.length:Int)-1)) Sq a_ ?_;simp only[go_sem,A4];refine aRN f w o i p V j hlt (within p.a6Q[j] 0 ((f.a6Q.length:Int)-1)) _ _ _ I (by (repeat' (first|exact c_|refine d_ ?_ ?_))<;>first|(simp only[go_sem,zpF]<;>rfl)|rfl) ?_;simp only[go_sem,zpF,A6,wZz j];exact fin _ _ hlt (u.trans rfl) Lq
 ·have l:¬ (j:Int)<(p.a6Q.length:Nat):=Om;have:j=p.a6Q.length:=Om;subst this;simp only[go_sem,l];exact Up.up Lq (y R.symm)
def Zu (a6Q:Nat) (p:dX):Bool:=RA p.k p.m p.a7O p.s0 p.s1 p.s2 p.s3 p.s4&&(VO p.m p.repair p.target p.a7A&&(decide (p.a6Q.length>0)&&(a8D p.a6Q.length).all (RM a6Q p.a6Q)))
theorem aVP (a6Q:Nat) (p:dX):oU a6Q p=Zu a6Q p:=by
 unfold oU Zu;rw[aVI,aYB];have e:decide (p.a6Q.length≠0)=decide (p.a6Q.length>0):=decide_eq_decide.2 Om;have l:(a8D p.a6Q.length).all (fun j=>within (p.a6Q.getD j 0) 0 ((a6Q:Int)-1)&&!(p.a6Q.take j).contains (p.a6Q.getD j 0))=(a8D p.a6Q.length).all (RM a6Q p.a6Q):=by
  congr 1;funext j;unfold RM;congr 1;generalize p.a6Q.getD j 0=x
  induction p.a6Q.take j with
  | nil=>rfl
  | cons a t u =>rw[List.contains_cons,List.all_cons,← u,Bool.not_or,bne,BEq.comm]
 rw[e,l];cases RA p.k p.m p.a7O p.s0 p.s1 p.s2 p.s3 p.s4<;>cases VO p.m p.repair p.target p.a7A<;>cases decide (p.a6Q.length>0)<;>simp
structure Bf (C:Ctx):Prop extends xI C where
 dur:∀ (m:Int) (rep:List RF),lI rep→∀ t h:RF,t.Ok→h.Ok→aH C 69 [.int .i64 m,frs rep,.agg t.cells,.agg h.cells] .nil (aI (.bool (VO m rep t h)))
def oT (f:aE):List (List UInt8):=f.a6T.map dX.name
def RL (f:aE) (i:Nat):Bool:=match f.a6T[i]? with
 | some p=>Zu f.a6Q.length p
 | none=>false
def xw (f:aE):Bool:=(a8D f.a6T.length).all (okL [] (oT f) (RL f))
theorem aXE {C:Ctx} (L:Bf C) (f:aE) (hf:f.Ok) (ε:f.a6T.length≤4) (β:f.a6Q.length≤4) (b:Bool) (K:cI) [Up K] (F:PF) (H:PH)
  (hF:((((((PF.nil.set 1 (.bO f.cells)).set 6 (.aD)).set 7 (.aD)).set 8 (.bool b)).set 17 (.int .i64 0)):PF).le F)
  (U:∀ H',K (.exit 8) ((((PF.nil.set 1 (.bO f.cells)).set 7 (.aD)).set 8 (.bool (b&&xw f)))) H'):aC.wp C (.loop EU) K F H:=by
 obtain⟨ok,J⟩:∃ ok,okL [] (oT f) (RL f)=ok:=⟨_,rfl⟩;unfold xw at U;rw[J] at U;have δ:(oT f).length=f.a6T.length:=by simp[oT]
 refine wp_loop (α:=Nat × PV × PH) (fun s=>(((((PF.nil.set 1 (.bO f.cells)).set 6 (s.2.1)).set 7 (.aD)).set 8 (.bool (b&&(a8D s.1).all ok))).set 17 (.int .i64 s.1))) (fun s=>s.2.2) (fun s=>s.1≤f.a6T.length∧kO s.2.2 s.2.1 [] (oT f) (b&&(a8D s.1).all ok) s.1) (fun s=>f.a6T.length-s.1)
  (0,.aD,H) ⟨a8K _,⟨[],aM.nil.kB 1,fun _=>rfl⟩⟩ (by
   have e:(b&&(a8D 0).all ok)=b:=by cases b<;>rfl
   simp only[e];exact hF) b_ ?_
 rintro⟨i,w,H0⟩ ⟨hi,hG⟩;simp only at hi hG ⊢;have fin:∀ (c:Bool) (A:PV) (B:PF) (H':PH),i<f.a6T.length→(b&&(a8D (i+1)).all ok)=c→kO H' A [] (oT f) true (i+1) →
   ((((((PF.nil.set 1 (.bO f.cells)).set 6 (A)).set 7 (.aD)).set 8 (.bool c)).set 17 (.int .i64 (i+1:Nat))):PF).le B →
   gP (fun s:Nat × PV × PH=>(((((PF.nil.set 1 (.bO f.cells)).set 6 (s.2.1)).set 7 (.aD)).set 8 (.bool (b&&(a8D s.1).all ok))).set 17 (.int .i64 s.1))) (fun s=>s.2.2) (fun s=>s.1≤f.a6T.length∧kO s.2.2 s.2.1 [] (oT f) (b&&(a8D s.1).all ok) s.1) (fun s=>f.a6T.length-s.1) (f.a6T.length-i) K .normal B H' :=
  fun c A B H' hlt hb R E=>aG (i+1,A,H') ⟨hlt,R.D3⟩ (by simp only; omega) (by simp only; rw[hb]; exact E) b_
 have j:=wO (p:=ok) i b;have I:=fun h=>wN (p:=ok) (b:=b) hi h;have y:(b&&(a8D i).all ok)=(b&&(a8D f.a6T.length).all ok)→K (.exit 8) ((((PF.nil.set 1 (.bO f.cells)).set 7 (.aD)).set 8 (.bool (b&&(a8D i).all ok)))) H0:=fun e=>by rw[e]; exact U H0
 generalize hc:(b&&(a8D i).all ok)=c at *
 simp only[go_sem,EU,Az,a8E];by_cases hlt:i<f.a6T.length
 ·have l:(i:Int)<(f.a6T.length:Nat):=Om;cases c with
  | false =>simp only[go_sem,l];exact Up.up Lq (y (I rfl).symm)
  | true =>
   obtain⟨γ,g1,g3⟩:=hG.ex;have V:=tC hlt;have Y:i<(oT f).length:=Om;have Z:(oT f)[i]=(f.a6T[i]).name:=by simp[oT]
   have M:ok i=(mF ([]++(oT f).take i) ((oT f).getD i [])&&Zu f.a6Q.length f.a6T[i]):=by rw[← J];unfold okL RL;rw[a8L hlt]
   have x:=hf.a7C _ (a8G hlt);rw[M] at j;unfold Zu at j;have N:IntKind.i64.wrap ((i:Int)+1)=((i+1:Nat):Int):=dW Om;simp only[go_sem,l,A0,V];refine aO fun o ho=>?_;have g4:=g1.new ho (.rows 17 [(f.a6T[i]).cells]);have g5:=g4.at 0 rfl;simp only[go_sem];generalize H0.set o (.rows 17 [(f.a6T[i]).cells])=H2 at *
   simp only[go_sem,A1,g5];refine kO.call L.touM (ns:=oT f) g4 (a8K _) Om (g3 rfl) Y (by simp only[go_sem,Z]) fun A H1 h1 S=>?_;have O:=h1.at 0 rfl;generalize mF ([]++(oT f).take i) ((oT f).getD i [])=fb at *
   generalize hd:f.a6T[i]=p at *
   have u:∀ (c:Bool) (B:PF),(zpF f A o i c 0).le B→(c&&(a8D p.a6Q.length).all (RM f.a6Q.length p.a6Q))=(b&&(a8D (i+1)).all ok) →
     aC.wp C (.loop ET) (fR 10 (fR 9 (jY C (aC.wp C (.region UH)) (gP (fun s:Nat × PV × PH=>(((((PF.nil.set 1 (.bO f.cells)).set 6 (s.2.1)).set 7 (.aD)).set 8 (.bool (b&&(a8D s.1).all ok))).set 17 (.int .i64 s.1))) (fun s=>s.2.2) (fun s=>s.1≤f.a6T.length∧kO s.2.2 s.2.1 [] (oT f) (b&&(a8D s.1).all ok) s.1) (fun s=>f.a6T.length-s.1) (f.a6T.length-i) K)))) B H1:=by
    intro c B E W;refine aLF L.toxI f β A o i p x.a6Q c _ _ _ O E ?_;rw[W];simp only[go_sem,UH,N];exact fin _ A _ _ hlt rfl S Lq
   cases fb with
   | false =>simp only[go_sem,UE,zS];exact u false _ (by (repeat' (first|exact c_|refine d_ ?_ ?_))<;>first|(simp only[go_sem,zpF]<;>rfl)|rfl) (by rw[j]; rfl)
   | true =>
    simp only[go_sem,UE,O];refine aB (L.nums p.k p.m p.a7O p.s0 p.s1 p.s2 p.s3 p.s4) Sq ?_;cases k0:RA p.k p.m p.a7O p.s0 p.s1 p.s2 p.s3 p.s4 with
    | false =>simp only[go_sem,zS];exact u false _ (by (repeat' (first|exact c_|refine d_ ?_ ?_))<;>first|(simp only[go_sem,zpF]<;>rfl)|rfl) (by rw[j,k0]; rfl)
    | true =>
     simp only[go_sem,O];refine aB (L.dur p.m p.repair x.repair p.target p.a7A x.target x.a7A) Sq ?_;cases k1:VO p.m p.repair p.target p.a7A with
     | false =>simp only[go_sem,zS];exact u false _ (by (repeat' (first|exact c_|refine d_ ?_ ?_))<;>first|(simp only[go_sem,zpF]<;>rfl)|rfl) (by rw[j,k0,k1]; rfl)
     | true =>have X:decide ((p.a6Q.length:Int)>0)=decide (p.a6Q.length>0):=decide_eq_decide.2 Om;simp only[go_sem,O,a8E,X,zS];exact u _ _ (by (repeat' (first|exact c_|refine d_ ?_ ?_))<;>first|(simp only[go_sem,zpF]<;>rfl)|rfl) (by rw[j,k0,k1]; rfl)
 ·have l:¬ (i:Int)<(f.a6T.length:Nat):=Om;have:i=f.a6T.length:=Om;subst this;simp only[go_sem,l];exact Up.up Lq (y hc.symm)
def vI (r:dB):Bool:=(r.name==[])&&((r.level==0)&&((r.parent==-1)&&((r.a7K==0)&&(dS (val r.a7F.num) (val r.a7F.den)&&(wL r.a7F==0)))))
def aDI (f:aE):Bool:=match f.a6S with
 | []=>false
 | r::_=>vI r
def aPR (f:aE):Bool:=within f.a7V 1 4&&(uG f.a6X.length f.a6Q.length f.a6S.length f.a6P.length f.a6T.length f.a6R.length&&(decide (0<f.a6S.length)&&((((((PJ f&&FJ f)&&aDI f)&&DD f)&&EX f)&&xw f)&&Pj f)))
theorem ajQ (n:Nat) (p q:Nat→Bool):(a8D n).all (fun i=>p i&&q i)=((a8D n).all p&&(a8D n).all q):=by
 induction n with
 | zero=>rfl
 | succ n e =>simp only[baT,List.all_append,e,List.all_cons,List.all_nil,baI];cases (a8D n).all p<;>cases (a8D n).all q<;>cases p n<;>simp
theorem FX {α:Type} (l:List α) (p:α→Bool):(a8D l.length).all (fun i=>(l.map p).getD i false)=l.all p:=by
 refine Bool.eq_iff_iff.2 ?_;rw[a9I,a9I];constructor
 ·intro h x e;obtain⟨i,hi,rfl⟩:=bbJ e;have:=h i (a9B.2 hi);simpa [a8M,hi] using this
 ·intro h i hi;have hi:=a9B.1 hi;simp[a8M,hi,h _ (a8G hi)]
theorem NE (ns:List (List UInt8)) (n:Nat) (e:ns.length=n) (P:Nat→Bool):(a8D n).all (okL [] ns P)=(distinct ns&&(a8D n).all P):=by
 subst e;have:okL [] ns P=fun i=>(isName (ns.getD i [])&&!(ns.take i).contains (ns.getD i []))&&P i:=by funext i;rfl
 rw[this,ajQ];rfl
theorem aVM (base ns:List (List UInt8)) (P Q:Nat→Bool):((a8D base.length).all (okL [] base P)&&(a8D ns.length).all (okL base ns Q))=(distinct (base++ns)&&((a8D base.length).all P&&(a8D ns.length).all Q)):=by
 have e:okL base ns Q=fun i=>(isName (ns.getD i [])&&!(base++ns.take i).contains (ns.getD i []))&&Q i:=by funext i;rfl
 have j:distinct (base++ns)=(distinct base&&(a8D ns.length).all fun i=>isName (ns.getD i [])&&!(base++ns.take i).contains (ns.getD i [])):=by
  unfold distinct;rw[a8H,List.range_add,List.all_append,List.all_map];congr 1
  ·refine Bool.eq_iff_iff.2 ?_;rw[a9I,a9I];refine forall_congr' fun i=>forall_congr' fun hi=>?_;have hi:=a9B.1 hi;have a1:(base++ns).getD i []=base.getD i []:=by simp only[a8M];rw[baB hi]
   have a2:(base++ns).take i=base.take i:=by rw[List.take_append_of_le_length Om]
   rw[a1,a2]
  ·refine Bool.eq_iff_iff.2 ?_;rw[a9I,a9I];refine forall_congr' fun i=>forall_congr' fun _=>?_;have a1:(base++ns).getD (base.length+i) []=ns.getD i []:=by simp only[a8M];rw[baD Om];congr 2;omega
   have a2:(base++ns).take (base.length+i)=base++ns.take i:=by rw[List.take_append,a8V Om]; congr 2; omega
   simp only[Function.comp,a1,a2]
 rw[NE base base.length rfl P,e,ajQ,j];cases distinct base<;>cases (a8D base.length).all P<;>simp
theorem aPU (r:dB):(decide (r.name=[])&&decide (r.level=0)&&decide (r.parent=-1)&&decide (r.a7K=0)&&dP r.a7F&&!dH r.a7F)=vI r:=by
 have w:decide (r.name=[])=(r.name==[]):=by cases r.name<;>rfl
 have y:decide (r.level=0)=(r.level==0):=by generalize r.level=x; by_cases h:x=0<;>simp[h]
 have A:decide (r.parent=-1)=(r.parent==-1):=by generalize r.parent=x; by_cases h:x=-1<;>simp[h]
 have B:decide (r.a7K=0)=(r.a7K==0):=by generalize r.a7K=x; by_cases h:x=0<;>simp[h]
 have h5:(dP r.a7F&&!dH r.a7F)=(dS (val r.a7F.num) (val r.a7F.den)&&(wL r.a7F==0)):=by
  rw[SF];by_cases h:val r.a7F.num=0
  ·have j:dH r.a7F=false:=by unfold dH; simp[h]
   rw[j];simp only[a8X,baI];cases e:dS (val r.a7F.num) (val r.a7F.den) with
   | false =>unfold dP tJ;rw[e];rfl
   | true =>
    obtain⟨E,-,-⟩:=jG.1 e;unfold dP tJ;rw[e,if_pos rfl,ko e,h];unfold qX;have hb:val r.a7F.den/a8I 0 (val r.a7F.den)=1:=by rw[Nat.gcd_zero_left,Nat.div_self (baV E)]
    have l:dJ (0/a8I 0 (val r.a7F.den))=0:=by rw[Nat.zero_div]; exact mS
    have u:dJ 1=1:=by rw[tR (by decide),mS]
    simp only[hb,l,u];simp
  ·have j:dH r.a7F=true:=by unfold dH; simp[h]
   rw[j];simp
 unfold vI;rw[w,y,A,B];simp only[bbN] at h5 ⊢;rw[h5]
theorem aMD (f:aE) {r:dB} {t:List dB} (h:f.a6S=r::t):bd f r t=(vI r&&(a8D t.length).all (DC f)):=by
 unfold bd;rw[aPU];congr 2;funext i;unfold DC;rw[h,List.getElem?_cons_succ];cases t[i]? with
 | none=>rfl
 | some d=>exact aTA f i d
theorem aFW (f:aE):f.a6P.all (mE f)=(a8D f.a6P.length).all (AY f):=by
 have:AY f=fun i=>(f.a6P.map (mE f)).getD i false:=by
  funext i;unfold AY;rw[a8M,a8Y];cases f.a6P[i]? with
  | none=>rfl
  | some d =>
   show Qr f d=mE f d;unfold Qr mE;have:decide ((f.a6S.map dB.level).getD d.machine.toNat 0=4)=((f.a6S.map dB.level).getD d.machine.toNat 0==4):=by generalize (f.a6S.map dB.level).getD d.machine.toNat 0=u;by_cases h:u=4<;>simp[h]
   rw[this,bbN]
 rw[this,FX]
theorem aIU (f:aE):f.a6T.all (oU f.a6Q.length)=(a8D f.a6T.length).all (RL f):=by
 have:RL f=fun i=>(f.a6T.map (oU f.a6Q.length)).getD i false:=by
  funext i;unfold RL;rw[a8M,a8Y];cases f.a6T[i]? with
  | none=>rfl
  | some d=>exact (aVP _ d).symm
 rw[this,FX]
theorem aVY (f:aE):aPR f=dL f:=by
 have O:Cm f.a6X.length=oI f:=by funext m;unfold Cm oI;rw[bbN]
 have B:agK f.a6T.length=tK f:=rfl;have R:(within f.a7V 1 4&&uG f.a6X.length f.a6Q.length f.a6S.length f.a6P.length f.a6T.length f.a6R.length)=sV f:=by unfold sV uG;simp only[bbN]
 unfold aPR dL PJ FJ xw Pj;rw[NE _ _ (by rw[a8E]),NE _ _ (by rw[a8E]),NE _ _ (by rw[oT,a8E]),NE _ _ (by rw[a8E]),FX,FX,FX,O,B,aIU,aFW,← bbN,R];unfold wH aDI;cases l:f.a6S with
 | nil=>simp
 | cons r t =>
  have j:decide (0<f.a6S.length)=true:=by rw[l]; simp
  rw[l] at j;rw[j,a8U];simp only;rw[aMD f l];have A:kE f=(f.a6S.drop 1).map dB.name:=rfl;rw[l] at A;have N:(kE f).length=t.length:=by rw[A]; simp
  have two:=aVM (kE f) (qA f) (DC f) (AY f);rw[N,show (qA f).length=f.a6P.length by simp[qA]] at two;have K:DD f=(a8D t.length).all (okL [] (kE f) (DC f)):=by unfold DD;rw[l];rfl
  have M:EX f=(a8D f.a6P.length).all (okL (kE f) (qA f) (AY f)):=rfl;rw[K,M,← A];rw[show f.a6P.map eT.name=qA f from rfl,show f.a6T.map dX.name=oT f from rfl];generalize (a8D t.length).all (okL [] (kE f) (DC f))=a at *
  generalize (a8D f.a6P.length).all (okL (kE f) (qA f) (AY f))=b at *
  generalize distinct (kE f++qA f)=c at *
  generalize (a8D t.length).all (DC f)=d at *
  generalize (a8D f.a6P.length).all (AY f)=e at *
  generalize sV f=s;generalize vI r=ro;generalize distinct (f.a6X.map dC.name)=u;generalize f.a6X.all qB=w;generalize distinct (f.a6Q.map dN.name)=x;generalize f.a6Q.all (oI f)=y;generalize distinct (oT f)=E;generalize (a8D f.a6T.length).all (RL f)=F;generalize distinct (f.a6R.map fZ.name)=I;generalize f.a6R.all (tK f)=J;have:(s&&(((((((u&&w)&&(x&&y))&&ro)&&a)&&b)&&(E&&F))&&(I&&J)))=(s&&(ro&&((u&&w)&&((x&&y)&&((a&&b)&&((E&&F)&&(I&&J))))))):=by cases s<;>cases ro<;>cases u<;>cases w<;>cases x<;>cases y<;>simp[bbN]
  rw[this,two];cases s<;>cases ro<;>cases u<;>cases w<;>cases x<;>cases y<;>cases c<;>cases d<;>cases e<;>simp;cases E<;>cases F<;>cases I<;>cases J<;>rfl
theorem aPT (f:aE) (h:0<f.a6S.length):aDI f=vI f.a6S[0]:=by
 obtain⟨a,b,c,d,e,g,i⟩:=f;cases d with
 | nil=>simp at h
 | cons r t=>rfl
theorem aLL {C:Ctx} (L:Bf C) (f:aE) (x:f.Ok):MN.wp C (aT aiG.res (aI (.bool (dL f)))) (PF.args [.agg f.cells]) .nil:=by
 have u:=aVY f;unfold aPR at u;have fail:∀ (F:PF) (H:PH),dL f=false→F 2=some (.bool false)→aT [.tmp 2] (aI (.bool (dL f))) .ret F H:=fun F H e h=>by rw[e];exact bA (vs:=[.bool false]) (.inr rfl) .nil (by simp only[go_sem,h]) a_ ⟨rfl,rfl⟩
 simp only[go_sem,MN,Oa,Ob,aiG];refine aB (L.inn f.a7V 1 4) rfl ?_;cases V:within f.a7V 1 4 with
 | false =>rw[V,a8O] at u;simp only[go_sem,a8X,JE];exact fail _ _ u.symm rfl
 | true =>
 rw[V,a8U] at u;simp only[go_sem,a8Q,a8E];refine aB (L.sizes f.a6X.length f.a6Q.length f.a6S.length f.a6P.length f.a6T.length f.a6R.length) rfl ?_;cases k1:uG f.a6X.length f.a6Q.length f.a6S.length f.a6P.length f.a6T.length f.a6R.length with
 | false =>rw[k1,a8O] at u;simp only[go_sem,a8X,JE];exact fail _ _ u.symm rfl
 | true =>
 rw[k1,a8U] at u;obtain⟨N,B,E,O,R,α⟩:=YR k1;by_cases h0:f.a6S.length=0
 ·rw[decide_eq_false Om,a8O] at u;simp only[go_sem,a8Q,a8E,bP (Om:(f.a6S.length:Int)=0),JE];exact fail _ _ u.symm rfl
 have l:0<f.a6S.length:=Om;rw[decide_eq_true l,a8U] at u;simp only[go_sem,a8Q,a8E,bD (Om:(f.a6S.length:Int)≠0),Oc,Od,Oe];refine aXD L.toxI f x N _ _ _ Lq fun H1=>?_;simp only[go_sem,An];refine aLK L.toxI f x k1 (PJ f) _ _ _ Lq fun H2=>?_;have K:=oQ l;have A:=(x.dom _ (a8G l)).1;have M:=aPT f l;rw[M] at u;generalize f.a6S[0]=r at *
 have j:∀ (c:Bool) (F:PF) (H:PH),((((((PF.nil.set 1 (.bO f.cells)).set 5 (.aD)).set 6 (.aD)).set 7 (.aD)).set 8 (.bool c)):PF).le F→c=((PJ f&&FJ f)&&vI r) →
   aC.wp C (.seq (.seq (.region TZ) (.block 4 (.loop ER))) (.seq (.seq (.region UB) (.block 6 (.loop ES))) (.seq (.seq (.region UD) (.block 8 (.loop EU))) (.seq (.seq (.region UI) (.block 14 (.loop EV))) (.seq (.region UL) .ret))))) (aT [.tmp 2] (aI (.bool (dL f)))) F H:=by
  intro c F H X Z;refine sQ _ (fun _ _ _ _ a b=>Up.up a b) X ?_;simp only[go_sem,TZ];refine aXC L.toxI f x E l c _ _ _ Lq fun w W Y=>?_;simp only[go_sem,UB];refine aLJ L.toxI f x E l O B (c&&DD f) w _ _ _ Y Lq fun H4=>?_;simp only[go_sem,UD];refine aXE L f x R B ((c&&DD f)&&EX f) _ _ _ Lq fun H5=>?_;simp only[go_sem,UI];refine aXF L.toxI f x k1 (((c&&DD f)&&EX f)&&xw f) _ _ _ Lq fun H6=>?_;simp only[go_sem,UL];refine bA (vs:=[.bool (dL f)]) (.inr rfl) .nil ?_ a_ ⟨rfl,rfl⟩;rw[← u,Z];simp only[go_sem]
 simp only[aC.wp,go_sem] at j;simp only[go_sem,Ar,K];refine aO fun o ho=>?_;have g0:(H2.set o (.rows 7 [r.cells])) o=some (.rows 7 [r.cells]):=bS ..;simp only[go_sem];generalize H2.set o (.rows 7 [r.cells])=W at *
 cases k2:(PJ f&&FJ f) with
 | false =>simp only[go_sem,TY];exact j false _ _ Lq (by rw[k2]; rfl)
 | true =>
  simp only[go_sem,TY,g0];cases y:r.name==[] with
  | false =>simp only[go_sem];exact j false _ _ Lq (by rw[k2]; unfold vI; rw[y]; rfl)
  | true =>
   simp only[go_sem,g0];cases I:r.level==0 with
   | false =>simp only[go_sem];exact j false _ _ Lq (by rw[k2]; unfold vI; rw[y,I]; rfl)
   | true =>
    simp only[go_sem,g0];cases J:r.parent==-1 with
    | false =>simp only[go_sem];exact j false _ _ Lq (by rw[k2]; unfold vI; rw[y,I,J]; rfl)
    | true =>
     simp only[go_sem,g0];cases S:r.a7K==0 with
     | false =>simp only[go_sem];exact j false _ _ Lq (by rw[k2]; unfold vI; rw[y,I,J,S]; rfl)
     | true =>
      simp only[go_sem,g0];refine aB (L.valid _ A) rfl ?_;cases U:dS (val r.a7F.num) (val r.a7F.den) with
      | false =>simp only[go_sem];exact j false _ _ Lq (by rw[k2]; unfold vI; rw[y,I,J,S,U]; rfl)
      | true =>simp only[go_sem,g0];refine aB (L.sign _ A U) rfl ?_;simp only[go_sem];exact j _ _ _ Lq (by rw[k2]; unfold vI; rw[y,I,J,S,U]; rfl)
def acY:List Nat:=[2,44]
def kZ:=bM acY Proofs.Tryz.f40
def acQ:=aA kZ 0
def acR:=aA kZ 1
def acS:=aA kZ 2
def acT:=aA kZ 3
def acU:=aA kZ 4
def acV:=aA kZ 5
def acW:=bT kZ 0
def po:=aA kZ 6
def acX:=aA kZ 7
def pq:=aA kZ 8
def YU:=aA kZ 9
def Lp:aC:=(.seq (sq acV (.cond (Tm 15) .skip (.exit 0))) (.seq (.block 1 (dq acW (.seq (sq po (.cond (Tm 34) (.region acX) .skip)) (.region pq)))) (.region YU)))
def YV:=aA kZ 10
def SG:aC:=(sq acQ (.seq (sq acR (.cond (Tm 10) (sq acS .ret) .skip)) (sq acT (.seq (sq acU (.block 0 (.loop Lp))) (sq YV .ret)))))
def aDS:aW:=⟨2,47,SG,[.tmp 4]⟩
def Lm:List Nat:=[3]
def wD:=bM Lm Proofs.Tryz.f145
def Lh:=aA wD 0
def Li:=aA wD 1
def Lj:=aA wD 2
def Lk:=aA wD 3
def Lg:aC:=(.seq (sq Lj (.cond (Tm 21) .skip (.exit 0))) (.block 1 (.region Lk)))
def Ll:=aA wD 4
def KV:aC:=(sq Lh (sq Li (.seq (.block 0 (.loop Lg)) (sq Ll .ret))))
def abZ:aW:=⟨3,29,KV,[.tmp 6]⟩
def gd:List Nat:=[3,4]
def oA:=bM gd Proofs.Tryz.f39
def fw:=aA oA 0
def fx:=aA oA 1
def fy:=aA oA 2
def KW:=bT oA 0
def fz:=aA oA 3
def ga:=aA oA 4
def fv:aC:=(.seq (sq fy (.cond (Tm 12) .skip (.exit 0))) (.seq (.block 1 (dq KW (.cond (Tm 26) (sq fz .ret) .skip))) (.region ga)))
def gb:=aA oA 5
def CV:aC:=(sq fw (.seq (sq fx (.block 0 (.loop fv))) (sq gb .ret)))
def pj:aW:=⟨3,27,CV,[.tmp 6]⟩
theorem aJP {C:Ctx} (f:aE) (l:VF f) (d:Nat) (h:d<f.a6P.length) (level:Int) (y:0≤level) (A:level≤4) :
  KV.wp C (aT abZ.res (aI (.int .i64 (mB f d level:Nat)))) (PF.args [.agg f.cells,.int .i64 d,.int .i64 level]) .nil:=by
 simp only[go_sem,KV,Lh,Li,abZ,qJ h,l.b8 h];refine wp_loop (α:=Nat) (fun k=>(((PF.nil.set 2 (.int .i64 level)).set 3 (.bO f.cells)).set 7 (.int .i64 (upN f k (fF f d))))) (fun _=>.nil) (fun k=>k≤4-level.toNat) (fun k=>4-level.toNat-k) 0 (a8K _) (by (repeat' (first|exact c_|refine d_ ?_ ?_))<;>first|(simp only[go_sem,upN]<;>rfl)|rfl) a_ ?_;intro k B;obtain⟨j,x⟩:=ZI l h (k:=k) Om;simp only[go_sem,Lg,Lj,oQ j,V6 j];by_cases hlt:k<4-level.toNat
 ·have u:lvl f (upN f k (fF f d))>level:=by rw[x]; omega
  have w:0<upN f k (fF f d):=by
   rcases baN (upN f k (fF f d)) with e | e
   ·rw[e,l.root.2.1] at x; omega
   ·exact e
  simp only[go_sem,u,Lk,oQ j,Zp j,l.Dc w j];exact aG (k+1) hlt Om (by (repeat' (first|exact c_|refine d_ ?_ ?_))<;>first|(simp only[go_sem,upN]<;>rfl)|rfl) a_
 ·have u:¬ lvl f (upN f k (fF f d))>level:=by rw[x]; omega
  have:k=4-level.toNat:=Om;subst this;simp only[go_sem,u,Ll];refine aR (.inr rfl) Ev ?_;rfl
structure aXO (C:Ctx):Prop where
 valid:∀ f:aE,f.Ok→aH C 67 [.agg f.cells] .nil (aI (.bool (dL f)))
 yE:∀ (f:aE) (d:Nat) (level:Int),VF f→d<f.a6P.length→0≤level→level≤4→aH C 88 [.agg f.cells,.int .i64 d,.int .i64 level] .nil (aI (.int .i64 (mB f d level:Nat)))
structure aFI (C:Ctx):Prop extends aXO C where
 R6:∀ (f:aE) (v:Nat),VF f→v<f.a6R.length→aH C 82 [.agg f.cells,.int .i64 v] .nil (aI (.int .i64 (pV f v)))
theorem aUP {r e:Int} (h:0≤e):max 0 (min r e)=min (max r 0) e:=Om
theorem aDH (f:aE) (room:List Int) {k:Nat} (h:k<f.a6P.length):(mZ f room).take (k+1)=(mZ f room).take k++[pU f room k]:=by
 have e:k<(mZ f room).length:=by rw[rX]; exact h
 rw[baF e,RW]
theorem aQA {C:Ctx} (L:aFI C) (f:aE) (N:f.Ok) (room:List Int) :
  SG.wp C (aT aDS.res (cP (ints (IR f room)))) (PF.args [.agg f.cells,ints room]) .nil:=by
 simp only[go_sem,SG,acQ,acR,aDS];refine aB (L.valid f N) Sq ?_;unfold IR;cases R:dL f with
 | false =>simp only[go_sem,a8X,acS];exact abT Ev
 | true =>
  have hV:=VF.of R;have J:=hV.small.a6P;have B:=rX f room;simp only[go_sem,a8Q,acT,acU];refine wp_loop (α:=Nat × PV × PH) (fun t=>((((PF.nil.set 1 (ints room)).set 2 (.bO f.cells)).set 5 (t.2.1)).set 6 (.int .i64 t.1))) (fun t=>t.2.2) (fun t=>t.1≤f.a6P.length∧cR t.2.2 1 t.2.1 (bU ((mZ f room).take t.1))) (fun t=>f.a6P.length-t.1) (0,.aD,.nil) ⟨a8K _,.nil⟩ Lq a_ ?_;rintro⟨k,v,H0⟩ ⟨O,y⟩;simp only at O y ⊢;simp only[go_sem,Lp,acV,a8E];by_cases hlt:k<f.a6P.length
  ·have e:(k:Int)<(f.a6P.length:Nat):=Om;obtain⟨K,he⟩:=hV.Qt hlt;have E:=hV.model _ (a8G K);rw[he] at E;have A:(1:Nat)*1≤16777216:=by decide
   have l:=aDH f room hlt;have j:∀ (x:Int) (F:PF),x=pU f room k→((((((PF.nil.set 1 (ints room)).set 2 (.bO f.cells)).set 5 (v)).set 6 (.int .i64 k)).set 7 (.int .i64 x)):PF).le F →
     aC.wp C (.region pq) (fR 1 (jY C (aC.wp C (.region YU)) (gP (fun t:Nat × PV × PH=>((((PF.nil.set 1 (ints room)).set 2 (.bO f.cells)).set 5 (t.2.1)).set 6 (.int .i64 t.1))) (fun t=>t.2.2) (fun t=>t.1≤f.a6P.length∧cR t.2.2 1 t.2.1 (bU ((mZ f room).take t.1))) (fun t=>f.a6P.length-t.1) (f.a6P.length-k) (fR 0 (jY C (aC.wp C (.seq (.region YV) .ret)) (aT [.tmp 4] (cP (ints (mZ f room))))))))) F H0:=by
    intro x F S M;refine sQ _ (fun _ _ _ _ a b=>Up.up a b) M ?_;simp only[go_sem,pq,A];refine kR (src:=[[.int .i64 x]]) y Sq (by unfold roomFor; rw[iV,a8W]; simp only[a8N,maxLen]; omega) fun v' H' u _=>?_;rw[aBS,S,← l] at u;simp only[go_sem,YU,wZz k];exact aG (k+1,v',H') ⟨hlt,u⟩ (by simp only; omega) Lq b_
   simp only[aC.wp,go_sem] at j;simp only[go_sem,e];refine aV .nil cA a_ ?_;simp only[go_sem,acW,qJ hlt,hV.WR hlt,Hc K,he];by_cases c:room.length=f.a6P.length
   ·have w:k<room.length:=Om;have I:(room.map fun n=>[PV.int .i64 n])[k]?=some [.int .i64 room[k]]:=by simp[w]
    simp only[go_sem,po,a8E,bP (Om:(room.length:Int)=(f.a6P.length:Nat)),acX,I,max_eq,apK];refine j _ _ ?_ Lq;rw[pU,if_pos c,aUP Om,a8M,a8L w,baW]
   ·simp only[go_sem,po,a8E,bD (Om:(room.length:Int)≠(f.a6P.length:Nat))];refine j _ _ ?_ Lq;rw[pU,if_neg c]
  ·have e:¬ (k:Int)<(f.a6P.length:Nat):=Om;have:k=f.a6P.length:=Om;subst this;rw[← B,a9M] at y;simp only[go_sem,e,YV];exact Dl y Sq
theorem ajC {C:Ctx} (f:aE) (hV:VF f) (p:dX) (y:Fits p.a6Q) (d:Nat) (w:d<f.a6P.length) :
  CV.wp C (aT pj.res (aI (.bool (p.a6Q.contains ((mdl f d:Nat):Int))))) (PF.args [.agg p.cells,.agg f.cells,.int .i64 d]) .nil:=by
 have A:p.a6Q.length≤9223372036854775807:=y;simp only[go_sem,CV,fw,fx,pj];refine wp_loop (α:=Nat) (fun k=>((((PF.nil.set 2 (.int .i64 d)).set 3 (.bO p.cells)).set 4 (.bO f.cells)).set 7 (.int .i64 k))) (fun _=>.nil) (fun k=>k≤p.a6Q.length∧p.a6Q.contains ((mdl f d:Nat):Int)=(p.a6Q.drop k).contains ((mdl f d:Nat):Int)) (fun k=>p.a6Q.length-k) 0 ⟨a8K _,rfl⟩ Lq a_ ?_;rintro k ⟨B,l⟩;simp only[go_sem,fv,fy,a8E];by_cases hlt:k<p.a6Q.length
 ·have j:(k:Int)<(p.a6Q.length:Nat):=Om;have u:(p.a6Q.map fun x=>[PV.int .i64 x])[k]?=some [.int .i64 p.a6Q[k]]:=by simp[hlt]
  rw[baR hlt,List.contains_cons] at l;have e:(p.a6Q[k]==((mdl f d:Nat):Int))=(((mdl f d:Nat):Int)==p.a6Q[k]):=BEq.comm;simp only[go_sem,j];refine aV .nil cA a_ ?_;cases c:((mdl f d:Nat):Int)==p.a6Q[k] with
  | true =>rw[c] at e;rw[c,Bool.true_or] at l;simp only[go_sem,KW,u,qJ w,hV.WR w,e,fz];refine aR (.inr rfl) Ev ?_;rw[cB,l]
  | false =>rw[c] at e;rw[c,Bool.false_or] at l;simp only[go_sem,KW,u,qJ w,hV.WR w,e,ga,wZz k];exact aG (k+1) ⟨hlt,l⟩ Om Lq b_
 ·have j:¬ (k:Int)<(p.a6Q.length:Nat):=Om;have:k=p.a6Q.length:=Om;subst this;rw[List.drop_length] at l;simp only[go_sem,j,gb];refine aR (.inr rfl) Ev ?_;rw[cB,l];rfl







structure bN where
 src:Nat
 dst:Nat
 cap:Nat
abbrev bN.cells (a:bN):List PV:=[.int .i64 a.src,.int .i64 a.dst,.int .i64 a.cap,.int .i64 0]
abbrev Bh (l:List bN):PV:=.sl 4 (l.map bN.cells)
structure bY where
 nodes:Nat
 source:Nat
 sink:Nat
 arcs:List bN
abbrev bY.cells (n:bY):List PV:=[.int .i64 n.nodes,.int .i64 n.source,.int .i64 n.sink,Bh n.arcs]
structure eU (n:bY):Prop where
 two:2≤n.nodes
 few:n.nodes≤700
 num:n.arcs.length≤2500
 source:n.source<n.nodes
 sink:n.sink<n.nodes
 apart:n.source≠n.sink
 ends:∀ a∈n.arcs,a.src<n.nodes∧a.dst<n.nodes∧a.cap≤2147483647
def gI:List bN→List Nat→Nat→Int
 | a::l,x::xs,v=>(if a.src=v then (x:Int) else 0)-(if a.dst=v then (x:Int) else 0)+gI l xs v
 | _,_,_=>0
def zA (S:Nat→Bool):List bN→List Nat→Int
 | a::l,x::xs=>(if S a.src=true∧S a.dst=false then (x:Int) else 0)-(if S a.src=false∧S a.dst=true then (x:Int) else 0)+zA S l xs
 | _,_=>0
def rS (S:Nat→Bool) (g:Nat→Int):Nat→Int
 | 0=>0
 | n+1=>rS S g n+if S n=true then g n else 0
theorem p4 (S:Nat→Bool) (g h:Nat→Int):∀ n,rS S (fun v=>g v+h v) n=rS S g n+rS S h n
 | 0=>rfl
 | n+1=>by rw[rS,rS,rS,p4 S g h n];split<;>omega
theorem EI {S:Nat→Bool} {g h:Nat→Int}:∀ {n:Nat},(∀ v,v<n→S v=true→g v=h v)→rS S g n=rS S h n
 | 0,_=>rfl
 | n+1,e=>by
  rw[rS,rS,EI (n:=n) fun v j=>e v Om];split
  ·rename_i c; rw[e n Om c]
  ·rfl
theorem IW (S:Nat→Bool):∀ n,rS S (fun _=>0) n=0
 | 0=>rfl
 | n+1=>by rw[rS,IW S n]; split<;>rfl
theorem SJ (S:Nat→Bool) (a:Nat) (x:Int):∀ {n:Nat},a<n→rS S (fun v=>if a=v then x else 0) n=if S a=true then x else 0
 | 0,h=>by omega
 | n+1,h=>by
  rw[rS];by_cases e:a=n
  ·subst e;rw[EI (h:=fun _=>0) (n:=a) fun v j _=>by rw[if_neg Om],IW,if_pos rfl];omega
  ·rw[SJ S a x (n:=n) Om,if_neg e];split<;>split<;>omega
theorem avH (S:Nat→Bool) {N:Nat}:∀ {l:List bN} {xs:List Nat},(∀ a∈l,a.src<N∧a.dst<N)→rS S (gI l xs) N=zA S l xs
 | [],_,_=>IW S N
 | _::_,[],_=>IW S N
 | a::l,x::xs,h=>by
  obtain⟨j,u⟩:=h a (by simp);have w:=avH S (l:=l) (xs:=xs) fun b hb=>h b (bbB _ hb);have e:rS S (gI (a::l) (x::xs)) N=rS S (fun v=>if a.src=v then (x:Int) else 0) N+(rS S (fun v=>if a.dst=v then -(x:Int) else 0) N+rS S (gI l xs) N):=by rw[← p4,← p4];refine EI fun v _ _=>?_;rw[gI];split<;>split<;>omega
  rw[e,SJ S _ _ j,SJ S _ _ u,w,zA];cases S a.src<;>cases S a.dst<;>simp<;>omega
structure hZ (n:bY) (xs:List Nat):Prop where
 len:xs.length=n.arcs.length
 le:∀ (i:Nat) a x,n.arcs[i]?=some a→xs[i]?=some x→x≤a.cap
 node:∀ v,v<n.nodes→v≠n.source→v≠n.sink→gI n.arcs xs v=0
def jF (n:bY) (xs:List Nat):Int:=gI n.arcs xs n.source
def dQ (S:Nat→Bool):List bN→Nat
 | []=>0
 | a::l=>(if S a.src=true∧S a.dst=false then a.cap else 0)+dQ S l
theorem hZ.cut {n:bY} (j:eU n) {xs:List Nat} (h:hZ n xs) {S:Nat→Bool} (w:S n.source=true) (x:S n.sink=false):zA S n.arcs xs=jF n xs:=by
 rw[← avH S (N:=n.nodes) fun a l=>⟨(j.ends a l).1,(j.ends a l).2.1⟩];rw[EI (h:=fun v=>if n.source=v then jF n xs else 0) fun v y u=>?_,SJ S _ _ j.source,if_pos w];by_cases e:n.source=v
 ·subst e; rw[if_pos rfl]; rfl
 ·rw[if_neg e];exact h.node v y (fun c=>e c.symm) fun c=>by rw[c,x] at u; cases u
theorem atF (S:Nat→Bool):∀ {l:List bN} {xs:List Nat},(∀ (i:Nat) a x,l[i]?=some a→xs[i]?=some x→x≤a.cap)→zA S l xs≤dQ S l
 | [],_,_=>by simp[zA,dQ]
 | _::_,[],_=>by simp[zA]
 | a::l,x::xs,h=>by have j:=h 0 a x rfl rfl;have u:=atF S (l:=l) (xs:=xs) fun i b y hb e=>h (i+1) b y (by simpa using hb) (by simpa using e);rw[zA,dQ];split<;>split<;>omega
theorem hZ.aGV {n:bY} (l:eU n) {xs:List Nat} (h:hZ n xs) {S:Nat→Bool} (e:S n.source=true) (j:S n.sink=false):jF n xs≤dQ S n.arcs:=by
 rw[← h.cut l e j];exact atF S h.le
theorem atE (S:Nat→Bool):∀ {l:List bN} {xs:List Nat},xs.length=l.length→(∀ (i:Nat) a x,l[i]?=some a→xs[i]?=some x→(S a.src=true→S a.dst=false→x=a.cap)∧(S a.src=false→S a.dst=true→x=0))→zA S l xs=dQ S l
 | [],_,_,_=>by simp[zA,dQ]
 | _::_,[],h,_=>by simp at h
 | a::l,x::xs,w,h=>by
  have e:=h 0 a x rfl rfl;have B:=atE S (l:=l) (xs:=xs) (by simpa using w) fun i b y hb A=>h (i+1) b y (by simpa using hb) (by simpa using A);rw[zA,dQ,B];cases u:S a.src<;>cases j:S a.dst
  ·simp
  ·have:=e.2 u j;simp; omega
  ·have:=e.1 u j;simp; omega
  ·simp
theorem hZ.full {n:bY} (u:eU n) {xs:List Nat} (h:hZ n xs) {S:Nat→Bool} (e:S n.source=true) (j:S n.sink=false)
  (l:∀ (i:Nat) a x,n.arcs[i]?=some a→xs[i]?=some x→(S a.src=true→S a.dst=false→x=a.cap)∧(S a.src=false→S a.dst=true→x=0)):jF n xs=dQ S n.arcs:=by
 rw[← h.cut u e j];exact atE S h.len l
theorem arR:∀ {l:List bN} {xs:List Nat} {i:Nat} {a:bN} {x:Nat} (y:Nat),l[i]?=some a→xs[i]?=some x→∀ v,gI l (xs.set i y) v=gI l xs v+(if a.src=v then (y:Int)-x else 0)-(if a.dst=v then (y:Int)-x else 0)
 | [],_,_,_,_,_,h,_,_=>by simp at h
 | _::_,[],_,_,_,_,_,h,_=>by simp at h
 | b::l,z::xs,0,a,x,y,e,j,v=>by simp only[List.getElem?_cons_zero,baP.injEq] at e j;subst e; subst j;rw[List.set_cons_zero,gI,gI];split<;>split<;>omega
 | b::l,z::xs,i+1,a,x,y,e,j,v=>by rw[List.set_cons_succ,gI,gI,arR (l:=l) (xs:=xs) y (by simpa using e) (by simpa using j) v];omega
theorem Yn (l:List bN):∀ (n:Nat) (v:Nat),gI l (a8F n 0) v=0:=by
 induction l with
 | nil=>intro n v; cases n<;>rfl
 | cons a l e =>
  intro n v;cases n with
  | zero=>rfl
  | succ n =>rw[List.replicate_succ,gI,e];split<;>split<;>rfl
theorem HW (n:bY):hZ n (a8F n.arcs.length 0)∧jF n (a8F n.arcs.length 0)=0:=by
 refine⟨⟨by simp,fun i a x _ e=>?_,fun v _ _ _=>Yn _ _ _⟩,Yn _ _ _⟩;have:=baA e;rw[List.eq_of_mem_replicate this];exact a8K _
def asS:List Nat:=[2]
def Jb:=bM asS Proofs.Tryz.f34
def asQ:=aA Jb 0
def asR:=aA Jb 1
def XW:aC:=(sq asQ (sq asR .ret))
def aPA:aW:=⟨2,7,XW,[.tmp 4]⟩
def arM:List Nat:=[3]
def IL:=bM arM Proofs.Tryz.f35
def Cu:=aA IL 0
def Cv:=aA IL 1
def arK:=aA IL 2
def arL:=aA IL 3
def IK:aC:=(sq Cu (.seq (sq Cv (.cond (Tm 8) (sq arK .ret) .skip)) (sq arL .ret)))
def aCL:aW:=⟨3,24,IK,[.tmp 6]⟩
def arP:List Nat:=[2]
def Il:=bM arP Proofs.Tryz.f32
def arN:=aA Il 0
def arO:=aA Il 1
def XD:aC:=(sq arN (sq arO .ret))
def aOP:aW:=⟨2,13,XD,[.tmp 4]⟩
def aqQ:List Nat:=[13]
def aHL:=bM aqQ Proofs.Tryz.f33
def aqP:=aA aHL 0
def WZ:aC:=(.region aqP)
def aOL:aW:=⟨3,16,WZ,[]⟩
def amA:List Nat:=[2]
def dD:=bM amA Proofs.Tryz.f12
def alQ:=aA dD 0
def alR:=aA dD 1
def alS:=aA dD 2
def alT:=aA dD 3
def alU:=aA dD 4
def alV:=aA dD 5
def alW:=aA dD 6
def alX:=aA dD 7
def alY:=aA dD 8
def alZ:=aA dD 9
def Rh:=aA dD 10
def Ri:=aA dD 11
def Rj:=aA dD 12
def Rk:=aA dD 13
def Rl:=aA dD 14
def Rm:=aA dD 15
def i9:aC:=(sq Rj (.seq (.cond (Tm 62) .skip (.exit 2)) (.seq (.block 3 (sq Rk (.region Rl))) (.region Rm))))
def Rn:=bT dD 0
def Ro:=aA dD 16
def Rp:=aA dD 17
def Rq:=aA dD 18
def je:=aA dD 19
def jf:=aA dD 20
def jg:=aA dD 21
def Rr:=aA dD 22
def jh:=bT dD 1
def OJ:=aA dD 23
def ja:aC:=(sq Rp (.seq (.cond (Tm 83) .skip (.exit 4)) (.seq (.block 5 (sq Rq (.seq (sq je (.cond (Tm 88) (.exit 5) .skip)) (sq jf (.seq (sq jg (.cond (Tm 95) (.region Rr) .skip)) (.draw jh)))))) (.region OJ))))
def Rs:=aA dD 24
def Rt:=aA dD 25
def Ru:=aA dD 26
def Rv:=aA dD 27
def Rw:=bT dD 2
def ji:=aA dD 28
def jb:aC:=(sq Rt (.seq (.cond (Tm 118) .skip (.exit 6)) (.seq (.block 7 (sq Ru (sq Rv (.cond (Tm 126) (.draw Rw) .skip)))) (.region ji))))
def Rx:=aA dD 29
def jc:aC:=(sq alX (.seq (.cond (Tm 44) .skip (.exit 0)) (.seq (.block 1 (sq alY (sq alZ (sq Rh (.seq (sq Ri (.block 2 (.loop i9))) (dq Rn (.seq (sq Ro (.block 4 (.loop ja))) (sq Rs (.block 6 (.loop jb)))))))))) (.region Rx))))
def Ry:=aA dD 30
def Rz:=aA dD 31
def R0:=aA dD 32
def R1:=aA dD 33
def R2:=aA dD 34
def jd:aC:=(sq Rz (.seq (.cond (Tm 144) .skip (.exit 8)) (.seq (.block 9 (sq R0 (.region R1))) (.region R2))))
def R3:=aA dD 35
def VX:aC:=(sq alQ (.seq (sq alR (.cond (Tm 24) (sq alS .ret) .skip)) (sq alT (sq alU (sq alV (.seq (sq alW (.block 0 (.loop jc))) (.seq (sq Ry (.block 8 (.loop jd))) (sq R3 .ret))))))))
def aMM:aW:=⟨2,156,VX,[.cell 4 (some 4),.tmp 5]⟩
def alP:List Nat:=[1]
def rU:=bM alP Proofs.Tryz.f42
def alI:=aA rU 0
def alJ:=aA rU 1
def alK:=aA rU 2
def alL:=aA rU 3
def alM:=aA rU 4
def alN:=bT rU 0
def Bu:=aA rU 5
def alH:aC:=(sq alL (.seq (.cond (Tm 10) .skip (.exit 0)) (.seq (.block 1 (sq alM (.draw alN))) (.region Bu))))
def alO:=aA rU 6
def VU:aC:=(sq alI (sq alJ (.seq (sq alK (.block 0 (.loop alH))) (sq alO .ret))))
def aMI:aW:=⟨1,32,VU,[.tmp 2]⟩
def Fe:List Nat:=[2,89]
def fN:=bM Fe Proofs.Tryz.f15
def E4:=aA fN 0
def E5:=aA fN 1
def VY:=aA fN 2
def E6:=aA fN 3
def E7:=aA fN 4
def E8:=aA fN 5
def E9:=aA fN 6
def Fa:=aA fN 7
def Fb:=aA fN 8
def Fc:=aA fN 9
def sw:=aA fN 10
def sx:=aA fN 11
def OL:=bT fN 0
def sy:=aA fN 12
def s7:=bT fN 1
def s8:=bT fN 2
def DH:=aA fN 13
def OK:aC:=(sq sw (.seq (.cond (Tm 52) .skip (.exit 0)) (.seq (.block 1 (sq sx (.seq (dq OL (.cond (Tm 67) (.exit 1) .skip)) (sq sy (dq s7 (.draw s8)))))) (.region DH))))
def s9:=aA fN 14
def JI:aC:=(sq E4 (sq E5 (.seq (sq VY (.cond (Tm 24) (sq E6 .ret) .skip)) (sq E7 (.seq (sq E8 (.cond (Tm 36) (sq E9 .ret) .skip)) (sq Fa (sq Fb (.seq (sq Fc (.block 0 (.loop OK))) (sq s9 .ret)))))))))
def R4:aW:=⟨2,94,JI,[.tmp 4,.tmp 5]⟩
def amU:List Nat:=[2,60,82,87,105]
def eI:=bM amU Proofs.Tryz.f17
def amL:=aA eI 0
def amM:=aA eI 1
def Bz:=aA eI 2
def amN:=aA eI 3
def amO:=aA eI 4
def amP:=aA eI 5
def amQ:=aA eI 6
def amR:=aA eI 7
def amS:=aA eI 8
def amT:=aA eI 9
def Sd:=aA eI 10
def Se:=aA eI 11
def Sf:=bT eI 0
def Sg:=bT eI 1
def Sh:=aA eI 12
def Si:=aA eI 13
def Sj:=aA eI 14
def Sk:=aA eI 15
def Sl:=aA eI 16
def jm:aC:=(.seq (sq Sj (.cond (Tm 71) .skip (.exit 2))) (.seq (.block 3 (.region Sk)) (.region Sl)))
def Sm:=aA eI 17
def Sn:=aA eI 18
def jn:aC:=(sq Sd (.seq (.cond (Tm 50) .skip (.exit 0)) (.seq (.block 1 (sq Se (.seq (dq Sf (.draw Sg)) (sq Sh (.seq (sq Si (.block 2 (.loop jm))) (.region Sm)))))) (.region Sn))))
def So:=aA eI 19
def Sp:=aA eI 20
def Sr:=aA eI 21
def Ss:=bT eI 2
def St:=bT eI 3
def Su:=aA eI 22
def jo:aC:=(sq Sp (.seq (.cond (Tm 95) .skip (.exit 4)) (.seq (.block 5 (sq Sr (dq Ss (.draw St)))) (.region Su))))
def Sv:=aA eI 23
def WA:aC:=(sq amL (sq amM (.seq (sq Bz (.cond (Tm 25) (sq amN .ret) .skip)) (sq amO (.seq (sq amP (.cond (Tm 37) (sq amQ .ret) .skip)) (sq amR (sq amS (.seq (sq amT (.block 0 (.loop jn))) (.seq (sq So (.block 4 (.loop jo))) (sq Sv .ret))))))))))
def aMP:aW:=⟨2,110,WA,[.cell 4 (some 3),.tmp 5]⟩
def alB:List Nat:=[3,5]
def kI:=bM alB Proofs.Tryz.f19
def akT:=aA kI 0
def akU:=aA kI 1
def EY:=aA kI 2
def MT:=aA kI 3
def akV:=aA kI 4
def akW:=aA kI 5
def akX:=aA kI 6
def akY:=aA kI 7
def akZ:=aA kI 8
def alA:=aA kI 9
def Qx:=aA kI 10
def Qy:=aA kI 11
def Qw:aC:=(sq akX (.seq (.cond (Tm 57) .skip (.exit 0)) (.seq (.block 1 (sq akY (.seq (sq akZ (.cond (Tm 66) (sq alA .ret) .skip)) (.region Qx)))) (.region Qy))))
def Qz:=bT kI 0
def Q0:=aA kI 12
def VS:aC:=(sq akT (sq akU (.seq (sq EY (.cond (Tm 48) (sq MT .ret) .skip)) (sq akV (.seq (sq akW (.block 0 (.loop Qw))) (dq Qz (sq Q0 .ret)))))))
def aMG:aW:=⟨3,87,VS,[.tmp 6]⟩
def Xt:List Nat:=[]
def va:=bM Xt Proofs.Tryz.f109
def Xr:=aA va 0
def Xs:=aA va 1
def QK:aC:=(sq Xr (sq Xs .ret))
def aCC:aW:=⟨1,12,QK,[.tmp 3]⟩
def Ih:List Nat:=[]
def kU:=bM Ih Proofs.Tryz.f72
def Hy:=aA kU 0
def Hz:=aA kU 1
def Ia:=aA kU 2
def aHJ:=aA kU 3
def Ib:=aA kU 4
def Ic:=aA kU 5
def Ie:=aA kU 6
def If:=aA kU 7
def aHK:=aA kU 8
def Ig:=aA kU 9
def vr:aC:=(sq Ic (.seq (.cond (Tm 46) .skip (.exit 0)) (.seq (.block 1 (sq Ie (sq If (.cond (Tm 70) (sq aHK .ret) .skip)))) (.region Ig))))
def vt:=aA kU 10
def JW:aC:=(sq Hy (sq Hz (.seq (sq Ia (.cond (Tm 41) (sq aHJ .ret) .skip)) (.seq (sq Ib (.block 0 (.loop vr))) (sq vt .ret)))))
def Xw:aW:=⟨1,72,JW,[.tmp 2]⟩
def apI:List Nat:=[2]
def nL:=bM apI Proofs.Tryz.f46
def apA:=aA nL 0
def apB:=aA nL 1
def aUR:=aA nL 2
def apC:=aA nL 3
def apD:=aA nL 4
def apE:=aA nL 5
def apF:=aA nL 6
def apG:=aA nL 7
def apH:=aA nL 8
def cb:=aA nL 9
def Wn:aC:=(sq apE (.seq (.cond (Tm 38) .skip (.exit 0)) (.seq (.block 1 (sq apF (sq apG (.cond (Tm 53) (.region apH) .skip)))) (.region cb))))
def Wo:=aA nL 10
def WQ:aC:=(sq apA (.seq (sq apB (.cond (Tm 33) (sq aUR .ret) .skip)) (sq apC (.seq (sq apD (.block 0 (.loop Wn))) (sq Wo .ret)))))
def aNV:aW:=⟨2,60,WQ,[.tmp 4,.tmp 5]⟩
def Ws:List Nat:=[]
def DN:=bM Ws Proofs.Tryz.f110
def kz:=aA DN 0
def k6:=aA DN 1
def Wp:=bT DN 0
def Wq:=bT DN 1
def DM:aC:=(sq kz (.seq (sq k6 (.cond (Tm 7) (dq Wp .ret) .skip)) (dq Wq .ret)))
def O8:aW:=⟨2,52,DM,[.tmp 4,.tmp 5]⟩
def Wm:List Nat:=[]
def DL:=bM Wm Proofs.Tryz.f111
def kx:=aA DL 0
def ky:=aA DL 1
def Wk:=aA DL 2
def Wl:=aA DL 3
def DK:aC:=(sq kx (.seq (sq ky (.cond (Tm 6) (sq Wk .ret) .skip)) (sq Wl .ret)))
def O7:aW:=⟨2,26,DK,[.tmp 4]⟩
def Hm:List Nat:=[79]
def hJ:=bM Hm Proofs.Tryz.f73
def Hd:=aA hJ 0
def He:=bT hJ 0
def Hf:=aA hJ 1
def Hg:=aA hJ 2
def Hh:=aA hJ 3
def Hi:=bT hJ 1
def Hj:=aA hJ 4
def Hk:=aA hJ 5
def Hl:=aA hJ 6
def IJ:=aA hJ 7
def ve:=aA hJ 8
def vf:=aA hJ 9
def DX:=aA hJ 10
def vb:aC:=(sq Hj (.seq (.cond (Tm 52) .skip (.exit 2)) (.seq (.block 3 (sq Hk (sq Hl (sq IJ (.cond (Tm 69) (sq ve (.region vf)) .skip))))) (.region DX))))
def vg:=aA hJ 11
def vd:aC:=(.seq (sq Hh (.cond (Tm 38) .skip (.exit 0))) (.seq (.block 1 (dq Hi (.block 2 (.loop vb)))) (.region vg)))
def vh:=aA hJ 12
def JU:aC:=(sq Hd (dq He (sq Hf (.seq (sq Hg (.block 0 (.loop vd))) (sq vh .ret)))))
def Xu:aW:=⟨1,84,JU,[.tmp 2,.tmp 3]⟩
def aoZ:List Nat:=[]
def jM:=bM aoZ Proofs.Tryz.f74
def aoT:=aA jM 0
def aoU:=aA jM 1
def aoV:=aA jM 2
def aoW:=aA jM 3
def aoX:=aA jM 4
def b9:=aA jM 5
def Ce:=aA jM 6
def ca:=aA jM 7
def aoS:aC:=(.seq (sq aoW (.cond (Tm 22) .skip (.exit 0))) (.seq (.block 1 (sq aoX (sq b9 (.cond (Tm 44) (.region Ce) .skip)))) (.region ca)))
def aoY:=aA jM 8
def Wg:=aA jM 9
def kr:=aA jM 10
def ku:=aA jM 11
def Wh:=aA jM 12
def Wi:=aA jM 13
def kw:=aA jM 14
def Wf:aC:=(.seq (sq Wg (.cond (Tm 57) .skip (.exit 2))) (.seq (.block 3 (sq kr (sq ku (.cond (Tm 69) (.region Wh) (.region Wi))))) (.region kw)))
def Wj:=aA jM 15
def WP:aC:=(sq aoT (sq aoU (.seq (sq aoV (.block 0 (.loop aoS))) (.seq (sq aoY (.block 2 (.loop Wf))) (sq Wj .ret)))))
def aNS:aW:=⟨2,92,WP,[.tmp 4]⟩
def Hx:List Nat:=[1,48,67]
def fU:=bM Hx Proofs.Tryz.f41
def Hn:=aA fU 0
def Ho:=aA fU 1
def aHH:=aA fU 2
def Hp:=bT fU 0
def Hq:=aA fU 3
def Hr:=aA fU 4
def Ht:=aA fU 5
def Hu:=bT fU 1
def Hv:=bT fU 2
def Hw:=bT fU 3
def vk:=bT fU 4
def vl:=aA fU 6
def vi:aC:=(sq Hr (.seq (.cond (Tm 29) .skip (.exit 0)) (.seq (.block 1 (sq Ht (.seq (dq Hu (.draw Hv)) (dq Hw (.draw vk))))) (.region vl))))
def vm:=aA fU 7
def vn:=aA fU 8
def QM:=aA fU 9
def vp:=aA fU 10
def vq:=aA fU 11
def vj:aC:=(.block 3 (sq vn (.seq (sq QM (.cond (Tm 81) (sq vp .ret) .skip)) (.region vq))))
def JV:aC:=(sq Hn (.seq (sq Ho (.cond (Tm 14) (sq aHH .ret) .skip)) (dq Hp (.seq (sq Hq (.block 0 (.loop vi))) (sq vm (.block 2 (.loop vj)))))))
def Xv:aW:=⟨1,93,JV,[.tmp 2,.tmp 3,.tmp 4,.tmp 5]⟩
def J6:List Nat:=[1]
def lZ:=bM J6 Proofs.Tryz.f75
def Jz:=aA lZ 0
def J0:=aA lZ 1
def aIN:=aA lZ 2
def J1:=aA lZ 3
def J2:=aA lZ 4
def J3:=aA lZ 5
def J4:=aA lZ 6
def aIO:=aA lZ 7
def J5:=aA lZ 8
def Jy:aC:=(.seq (sq J2 (.cond (Tm 54) .skip (.exit 0))) (.seq (.block 1 (sq J3 (sq J4 (.cond (Tm 93) (sq aIO .ret) .skip)))) (.region J5)))
def xm:=aA lZ 9
def KQ:aC:=(sq Jz (.seq (sq J0 (.cond (Tm 49) (sq aIN .ret) .skip)) (.seq (sq J1 (.block 0 (.loop Jy))) (sq xm .ret))))
def Zl:aW:=⟨1,94,KQ,[.tmp 2]⟩
def Kf:List Nat:=[2]
def fO:=bM Kf Proofs.Tryz.f77
def J7:=aA fO 0
def J8:=aA fO 1
def aIQ:=aA fO 2
def J9:=aA fO 3
def Ka:=aA fO 4
def Kb:=aA fO 5
def Kc:=aA fO 6
def Kd:=bT fO 0
def aIR:=aA fO 7
def Ke:=bT fO 1
def xp:=bT fO 2
def xq:=aA fO 8
def xn:aC:=(.seq (sq Kb (.cond (Tm 27) .skip (.exit 0))) (.seq (.block 1 (sq Kc (.seq (dq Kd (.cond (Tm 48) (sq aIR .ret) .skip)) (dq Ke (.draw xp))))) (.region xq)))
def xr:=aA fO 9
def xt:=aA fO 10
def EA:=aA fO 11
def aCY:=aA fO 12
def EB:=aA fO 13
def xo:aC:=(.seq (sq xt (.cond (Tm 80) .skip (.exit 2))) (.seq (.block 3 (sq EA (.cond (Tm 99) (sq aCY .ret) .skip))) (.region EB)))
def xu:=aA fO 14
def KR:aC:=(sq J7 (.seq (sq J8 (.cond (Tm 20) (sq aIQ .ret) .skip)) (sq J9 (.seq (sq Ka (.block 0 (.loop xn))) (.seq (sq xr (.block 2 (.loop xo))) (sq xu .ret))))))
def Zm:aW:=⟨2,105,KR,[.tmp 4,.tmp 5]⟩
def atB:List Nat:=[2]
def oZ:=bM atB Proofs.Tryz.f47
def asU:=aA oZ 0
def asV:=aA oZ 1
def aVL:=aA oZ 2
def asW:=aA oZ 3
def asX:=aA oZ 4
def asY:=aA oZ 5
def asZ:=aA oZ 6
def atA:=aA oZ 7
def ci:=aA oZ 8
def asT:aC:=(.seq (sq asY (.cond (Tm 37) .skip (.exit 0))) (.seq (.block 1 (sq asZ (.cond (Tm 60) (.region atA) .skip))) (.region ci)))
def Zf:=aA oZ 9
def XY:aC:=(sq asU (.seq (sq asV (.cond (Tm 32) (sq aVL .ret) .skip)) (sq asW (.seq (sq asX (.block 0 (.loop asT))) (sq Zf .ret)))))
def aPB:aW:=⟨2,70,XY,[.tmp 4,.tmp 5]⟩
def Jo:List Nat:=[2,78,115]
def fA:=bM Jo Proofs.Tryz.f76
def Je:=aA fA 0
def Jf:=bT fA 0
def Jg:=aA fA 1
def Jh:=aA fA 2
def Ji:=aA fA 3
def Jj:=aA fA 4
def Jk:=aA fA 5
def Jl:=aA fA 6
def Jm:=aA fA 7
def Jn:=aA fA 8
def yX:=bT fA 1
def ww:=bT fA 2
def wx:=bT fA 3
def wy:=aA fA 9
def yY:=aA fA 10
def wz:=bT fA 4
def w9:=bT fA 5
def xa:=aA fA 11
def yZ:=aA fA 12
def wt:aC:=(.seq (sq Jm (.cond (Tm 37) .skip (.exit 2))) (.seq (.block 3 (sq Jn (.seq (dq yX (.cond (Tm 65) (.seq (dq ww (.draw wx)) (.region wy)) .skip)) (sq yY (.cond (Tm 98) (.seq (dq wz (.draw w9)) (.region xa)) .skip))))) (.region yZ)))
def wu:aC:=(.seq (sq Ji (.cond (Tm 27) .skip (.exit 0))) (.block 1 (sq Jj (sq Jk (sq Jl (.block 2 (.loop wt)))))))
def xb:=aA fA 13
def KO:aC:=(sq Je (dq Jf (sq Jg (sq Jh (.seq (.block 0 (.loop wu)) (sq xb .ret))))))
def Zk:aW:=⟨2,119,KO,[.tmp 4,.tmp 5]⟩
def Jx:List Nat:=[1]
def eH:=bM Jx Proofs.Tryz.f43
def Jp:=aA eH 0
def Jq:=aA eH 1
def aIL:=aA eH 2
def Jr:=aA eH 3
def Js:=aA eH 4
def YC:=aA eH 5
def Jt:=aA eH 6
def Ju:=aA eH 7
def Jv:=aA eH 8
def Jw:=aA eH 9
def xf:=aA eH 10
def RD:=aA eH 11
def RE:=aA eH 12
def RG:=bT eH 0
def RH:=bT eH 1
def xc:aC:=(.seq (sq xf (.cond (Tm 49) .skip (.exit 2))) (.block 3 (sq RD (sq RE (.cond (Tm 58) (.draw RG) (.draw RH))))))
def xg:=aA eH 13
def xh:=aA eH 14
def RI:=aA eH 15
def RJ:=aA eH 16
def xi:=aA eH 17
def xj:=aA eH 18
def xk:=bT eH 2
def xl:=aA eH 19
def xd:aC:=(.seq (sq xh (.cond (Tm 103) .skip (.exit 4))) (.block 5 (sq RI (sq RJ (.cond (Tm 112) (sq xi (.region xj)) (dq xk (.region xl)))))))
def xe:aC:=(.block 1 (sq Js (.seq (sq YC (.cond (Tm 34) (sq Jt (sq Ju .ret)) .skip)) (sq Jv (.seq (sq Jw (.block 2 (.loop xc))) (sq xg (.block 4 (.loop xd))))))))
def KP:aC:=(sq Jp (.seq (sq Jq (.cond (Tm 18) (sq aIL .ret) .skip)) (sq Jr (.block 0 (.loop xe)))))
def GR:aW:=⟨1,155,KP,[.tmp 2,.tmp 3,.tmp 4,.tmp 5]⟩
def aaW:List Nat:=[3]
def ED:=bM aaW Proofs.Tryz.f38
def oc:=aA ED 0
def oe:=aA ED 1
def aaU:=aA ED 2
def aaV:=aA ED 3
def EC:aC:=(sq oc (.seq (sq oe (.cond (Tm 8) (sq aaU .ret) .skip)) (sq aaV .ret)))
def Pc:aW:=⟨3,25,EC,[.tmp 6]⟩
def atX:List Nat:=[2]
def Kl:=bM atX Proofs.Tryz.f37
def atV:=aA Kl 0
def atW:=aA Kl 1
def YI:aC:=(sq atV (sq atW .ret))
def aPM:aW:=⟨2,15,YI,[.tmp 4]⟩
def K5:List Nat:=[1]
def rA:=bM K5 Proofs.Tryz.f44
def Kw:=aA rA 0
def Kx:=aA rA 1
def Ky:=aA rA 2
def Kz:=aA rA 3
def K0:=aA rA 4
def K3:=aA rA 5
def Kv:aC:=(.seq (sq Kz (.cond (Tm 9) .skip (.exit 0))) (.seq (.block 1 (.region K0)) (.region K3)))
def K4:=aA rA 6
def KU:aC:=(sq Kw (sq Kx (.seq (sq Ky (.block 0 (.loop Kv))) (sq K4 .ret))))
def aaX:aW:=⟨1,18,KU,[.tmp 2]⟩
def auS:List Nat:=[2,52,95,124,147]
def eA:=bM auS Proofs.Tryz.f13
def auI:=aA eA 0
def auJ:=aA eA 1
def auK:=aA eA 2
def auL:=aA eA 3
def auM:=aA eA 4
def auN:=aA eA 5
def auO:=bT eA 0
def auP:=bT eA 1
def auQ:=bT eA 2
def auR:=aA eA 6
def aaF:=aA eA 7
def nz:=aA eA 8
def n0:=aA eA 9
def aaG:=aA eA 10
def n6:=bT eA 3
def n8:=bT eA 4
def n9:=aA eA 11
def nu:aC:=(.seq (sq aaF (.cond (Tm 59) .skip (.exit 2))) (.seq (.block 3 (sq nz (.seq (sq n0 (.cond (Tm 72) (.region aaG) .skip)) (dq n6 (.draw n8))))) (.region n9)))
def aaH:=aA eA 12
def aaI:=aA eA 13
def aaJ:=aA eA 14
def aaK:=bT eA 5
def aaL:=bT eA 6
def oa:=aA eA 15
def nv:aC:=(.seq (sq aaI (.cond (Tm 102) .skip (.exit 4))) (.seq (.block 5 (sq aaJ (.cond (Tm 108) (dq aaK (.draw aaL)) .skip))) (.region oa)))
def aaM:=aA eA 16
def nw:aC:=(.seq (sq auN (.cond (Tm 28) .skip (.exit 0))) (.seq (.block 1 (dq auO (.seq (dq auP (.draw auQ)) (.seq (sq auR (.block 2 (.loop nu))) (sq aaH (.block 4 (.loop nv))))))) (.region aaM)))
def aaN:=aA eA 17
def aaO:=aA eA 18
def aaP:=aA eA 19
def aaQ:=bT eA 7
def aaR:=bT eA 8
def aaS:=aA eA 20
def ny:aC:=(.seq (sq aaP (.cond (Tm 134) .skip (.exit 6))) (.seq (.block 7 (dq aaQ (.draw aaR))) (.region aaS)))
def aaT:=aA eA 21
def YK:aC:=(sq auI (.seq (sq auJ (.cond (Tm 16) (sq auK .ret) .skip)) (sq auL (.seq (sq auM (.block 0 (.loop nw))) (sq aaN (.seq (sq aaO (.block 6 (.loop ny))) (sq aaT .ret)))))))
def GY:aW:=⟨2,151,YK,[.cell 4 (some 4),.tmp 5]⟩
def auH:List Nat:=[3,4,70]
def lO:=bM auH Proofs.Tryz.f45
def atY:=aA lO 0
def atZ:=aA lO 1
def auA:=aA lO 2
def auB:=aA lO 3
def auC:=bT lO 0
def ck:=aA lO 4
def auD:=aA lO 5
def auE:=aA lO 6
def auF:=bT lO 1
def auG:=aA lO 7
def np:=aA lO 8
def nj:aC:=(.seq (sq auE (.cond (Tm 44) .skip (.exit 2))) (.seq (.block 3 (dq auF (.cond (Tm 62) (.region auG) .skip))) (.region np)))
def RN:=aA lO 9
def aaE:aC:=(.seq (sq auB (.cond (Tm 19) .skip (.exit 0))) (.seq (.block 1 (dq auC (.seq (sq ck (.cond (Tm 39) (.exit 1) .skip)) (sq auD (.block 2 (.loop nj)))))) (.region RN)))
def nr:=aA lO 10
def YJ:aC:=(sq atY (sq atZ (.seq (sq auA (.block 0 (.loop aaE))) (sq nr .ret))))
def ni:aW:=⟨3,74,YJ,[.tmp 6]⟩
def Ku:List Nat:=[2]
def pA:=bM Ku Proofs.Tryz.f16
def Km:=aA pA 0
def Ko:=aA pA 1
def YL:=aA pA 2
def Kp:=aA pA 3
def Kq:=aA pA 4
def Kr:=aA pA 5
def Ks:=aA pA 6
def Kt:=aA pA 7
def KT:aC:=(sq Km (sq Ko (.seq (sq YL (.cond (Tm 19) (sq Kp .ret) .skip)) (sq Kq (.seq (sq Kr (.cond (Tm 31) (sq Ks .ret) .skip)) (sq Kt .ret))))))
def NH:aW:=⟨2,36,KT,[.tmp 4,.tmp 5]⟩
def avC:List Nat:=[2,53,71,76,94]
def eX:=bM avC Proofs.Tryz.f18
def auT:=aA eX 0
def auU:=aA eX 1
def Di:=aA eX 2
def auV:=aA eX 3
def auW:=aA eX 4
def auX:=aA eX 5
def auY:=aA eX 6
def auZ:=aA eX 7
def avA:=aA eX 8
def avB:=aA eX 9
def aaY:=bT eX 0
def aaZ:=bT eX 1
def abA:=aA eX 10
def abB:=aA eX 11
def abC:=aA eX 12
def abD:=aA eX 13
def abE:=aA eX 14
def og:aC:=(.seq (sq abC (.cond (Tm 60) .skip (.exit 2))) (.seq (.block 3 (.region abD)) (.region abE)))
def oq:=aA eX 15
def ot:=aA eX 16
def oi:aC:=(.seq (sq avB (.cond (Tm 42) .skip (.exit 0))) (.seq (.block 1 (.seq (dq aaY (.draw aaZ)) (sq abA (.seq (sq abB (.block 2 (.loop og))) (.region oq))))) (.region ot)))
def abF:=aA eX 17
def abG:=aA eX 18
def abH:=bT eX 2
def abI:=bT eX 3
def abJ:=aA eX 19
def oj:aC:=(.seq (sq abG (.cond (Tm 83) .skip (.exit 4))) (.seq (.block 5 (dq abH (.draw abI))) (.region abJ)))
def abK:=aA eX 20
def YM:aC:=(sq auT (sq auU (.seq (sq Di (.cond (Tm 24) (sq auV .ret) .skip)) (sq auW (.seq (sq auX (.cond (Tm 36) (sq auY .ret) .skip)) (sq auZ (.seq (sq avA (.block 0 (.loop oi))) (.seq (sq abF (.block 4 (.loop oj))) (sq abK .ret)))))))))
def Dh:aW:=⟨2,98,YM,[.cell 4 (some 3),.tmp 5]⟩
def atU:List Nat:=[3,5]
def eW:=bM atU Proofs.Tryz.f20
def atL:=aA eW 0
def atM:=aA eW 1
def FN:=aA eW 2
def NG:=aA eW 3
def atN:=aA eW 4
def atO:=aA eW 5
def atP:=aA eW 6
def atQ:=aA eW 7
def atS:=bT eW 0
def atT:=aA eW 8
def Zy:=bT eW 1
def Zz:=bT eW 2
def Z1:=aA eW 9
def Z2:=aA eW 10
def Z3:=bT eW 3
def Z4:=bT eW 4
def Z5:=aA eW 11
def na:aC:=(.seq (sq Z2 (.cond (Tm 87) .skip (.exit 2))) (.seq (.block 3 (dq Z3 (.draw Z4))) (.region Z5)))
def Z6:=aA eW 12
def Zx:aC:=(.seq (sq atQ (.cond (Tm 59) .skip (.exit 0))) (.seq (.block 1 (.seq (dq atS (.cond (Tm 72) (sq atT .ret) .skip)) (.seq (dq Zy (.draw Zz)) (sq Z1 (.block 2 (.loop na)))))) (.region Z6)))
def Z7:=aA eW 13
def Z8:=aA eW 14
def Z9:=bT eW 5
def aaA:=bT eW 6
def aaB:=aA eW 15
def nb:aC:=(.seq (sq Z8 (.cond (Tm 109) .skip (.exit 4))) (.seq (.block 5 (dq Z9 (.draw aaA))) (.region aaB)))
def aaC:=aA eW 16
def aaD:=aA eW 17
def YH:aC:=(sq atL (sq atM (.seq (sq FN (.cond (Tm 49) (sq NG .ret) .skip)) (sq atN (sq atO (.seq (sq atP (.block 0 (.loop Zx))) (.seq (sq Z7 (.block 4 (.loop nb))) (sq aaC (sq aaD .ret)))))))))
def Dg:aW:=⟨3,135,YH,[.tmp 6]⟩
def Nq:List Nat:=[10,19,25,60]
def rD:=bM Nq Proofs.Tryz.f11
def Nk:=aA rD 0
def Nl:=aA rD 1
def Nm:=aA rD 2
def ZZ:=aA rD 3
def Nn:=aA rD 4
def No:=aA rD 5
def Np:=aA rD 6
def MG:aC:=(sq Nk (sq Nl (sq Nm (sq ZZ (sq Nn (sq No (sq Np .ret)))))))
def ahG:aW:=⟨0,70,MG,[.tmp 0]⟩
def ahX:Rg:=[iA 2 (.box true (Tm 0)),iA 3 (.box true (Tm 1)),iT 4 false]
def ahY:Rg:=[iF 6 0 2,iL 7 6,iF 8 0 3,iL 9 8,iB 10 .neq 7 9,iM 11 10,gF 12 1 2 11 false,gL 13 12 11 false,gF 14 1 3 11 false,gL 15 14 11 false,gB 16 .neq 13 15 11 false,iQ 17 11 16,iM 18 17,gF 19 2 2 18 false,gL 20 19 18 false,gF 21 2 3 18 false,gL 22 21 18 false,gB 23 .neq 20 22 18 false,iQ 24 18 23,iM 25 24,gF 26 3 2 25 false,gL 27 26 25 false,gN 28 27 25 false,gF 29 3 3 25 false,gL 30 29 25 false,gN 31 30 25 false,gB 32 .neq 28 31 25 false,iQ 33 25 32]
def aRQ:Rg:=[iT 4 false]
def ahZ:Rg:=[iI 5 0]
def aiA:Rg:=[iM 34 5,iF 35 3 2,iL 36 35,iN 37 36,iB 38 .lss 34 37]
def aiB:Rd:=[(iF 41 3 2,false),(iL 42 41,false),(iM 43 5,false),(iX 44 4 42 43,false),(iO 45 4 44,false),(iF 46 3 3,false),(iL 47 46,false),(iM 48 5,false),(iX 49 4 47 48,false),(iO 50 4 49,false),(iA 51 (.eqs true [.int,.int,.int,.int] (Tm 45) (Tm 50)),false)]
def aRR:Rg:=[iT 4 false]
def aiC:Rg:=[iM 39 5,iC 40 .add 39 1,iM 5 40]
def ahW:aC:=(.seq (sq aiA (.cond (Tm 38) .skip (.exit 0))) (.seq (.block 1 (dq aiB (.cond (Tm 51) (sq aRR .ret) .skip))) (.region aiC)))
def aiD:Rg:=[iT 4 true]
def TT:aC:=(sq ahX (.seq (sq ahY (.cond (Tm 33) (sq aRQ .ret) .skip)) (.seq (sq ahZ (.block 0 (.loop ahW))) (sq aiD .ret))))
def aRS:List Nat:=[2,3]
def aFD:aW:=⟨2,52,TT,[.tmp 4]⟩
def ayU:List Nat:=[3,5]
def pD:=bM ayU Proofs.Tryz.f4
def Eb:=aA pD 0
def Ec:=aA pD 1
def cz:=aA pD 2
def Ed:=aA pD 3
def Ee:=aA pD 4
def Ef:=aA pD 5
def Eg:=aA pD 6
def Eh:=aA pD 7
def Ei:=aA pD 8
def Ej:=bT pD 0
def aj:aC:=(sq Eb (.seq (sq Ec (.cond (Tm 67) (sq cz .ret) .skip)) (sq Ed (sq Ee (sq Ef (sq Eg (sq Eh (sq Ei (dq Ej .ret)))))))))
def aFA:aW:=⟨3,146,aj,[.tmp 6]⟩
def yD (H:PH) (s:Nat) (q:Nat) (v:PV) (rows:List (List PV)):Prop :=
 ∃ rs e,v=.osl q s e rows.length∧H q=some (.rows s rs)∧e+rows.length≤rs.length∧(rs.drop e).take rows.length=rows
section
variable {H:PH} {s b q:Nat} {v y:PV} {rows src:List (List PV)}
theorem yD.ext {H':PH} (h:yD H s q v rows) (A:∀ x,H q=some x→H' q=some x):yD H' s q v rows:=by
 obtain⟨rs,e,j,l,u,w⟩:=h;exact⟨rs,e,j,A _ l,u,w⟩
theorem yD.tail {r:List PV} (h:yD H s q v (r::rows)):∃ v',PV.slice s v 1 ((rows.length+1:Nat):Int) none=some v'∧yD H s q v' rows:=by
 obtain⟨rs,e,rfl,l,u,j⟩:=h;rw[a9Y] at u j;refine⟨.osl q s (e+1) rows.length,?_,rs,e+1,rfl,l,by omega,?_⟩
 ·unfold PV.slice;show (if s=s∧(0:Int)≤1∧(1:Int)≤((rows.length+1:Nat):Int)∧((rows.length+1:Nat):Int)≤((r::rows).length:Nat)∧((none:Option Int)=none∨(none:Option Int)=some ((rows.length+1:Nat):Int)) then some (PV.osl q s (e+(1:Int).toNat) (((rows.length+1:Nat):Int).toNat-(1:Int).toNat)) else none)=_;rw[if_pos ⟨rfl,by omega,by omega,by rw[a9Y]; omega,.inl rfl⟩];rfl
 ·have:=congrArg (List.drop 1) j;rw[List.drop_take,List.drop_drop,Nat.add_sub_cancel] at this;exact this
theorem yD.append {K:PV→PH→Prop} (h:yD H s q v rows) (R:fL H s y=some src) (O:roomFor rows.length src.length b)
  (N:∀ J v' H',yD H' s J v' (rows++src)→(J=q∨H J=none)→(∀ o x,o≠q→H o=some x→H' o=some x)→(∀ o,o≠J→H o=none→H' o=none)→K v' H'):oF H s b v y K:=by
 obtain⟨rs,j,rfl,M,I,E⟩:=h;have A:(rows++src).length=rows.length+src.length:=a8H;have F:∀ j,j+rows.length≤rs.length→(rs.drop j).take rows.length=rows→K (.osl q s j (rows.length+src.length)) (H.set q (.rows s (rs.take (j+rows.length)++src))):=fun j I E=>by
  refine N q _ _ ⟨rs.take (j+rows.length)++src,j,by rw[A],by simp only[aS,if_true],by rw[a8H,a8H,a8W]; omega,?_⟩ (.inl rfl) (fun o x l w=>by simp only[aS,if_neg l,w]) fun o l w=>by simp only[aS,if_neg l,w]
  have e:(rs.take (j+rows.length)).drop j=rows:=by rw[List.drop_take,Nat.add_sub_cancel_left,E]
  rw[List.drop_append_of_le_length (by rw[a8W]; omega),e];exact a9M
 have B:∀ o,H o=none→K (.osl o s 0 (rows.length+src.length)) (H.set o (.rows s (rows++src))):=fun o w=>by
  refine N o _ _ ⟨rows++src,0,by rw[A],by simp only[aS,if_true],by omega,by rw[a9R,a9M]⟩ (.inr w) (fun S x l u=>?_) fun S l u=>by simp only[aS,if_neg l,u]
  have:S≠o:=by rintro rfl; rw[w] at u; cases u
  simp only[aS,if_neg this,u]
 cases j with
 | zero =>
  refine⟨src,R,rfl,rfl,O,rs,M,by omega,?_,fun o w=>?_⟩
  ·have:=F 0 I E
   rwa [a8R] at this
  ·rw[a9R] at E;rw[E];exact B o w
 | succ j =>refine⟨src,R,rfl,O,rs,M,I,F _ I E,fun o w=>?_⟩;rw[E];exact B o w
end
section
variable {C:Ctx} {F:PF} {H:PH}
theorem ie {name:Nat} {vs cs:List PV} {H0:PH} {R:PV→PH→Prop} {args:List aP} {d:Option Nat} {K:PF→PH→Prop} (h:aH C name (vs++cs) H0 R) (j:aP.evs F args=some vs) (e:H0.le H)
  (l:∀ r H',R r H'→oL H H0 H'→K (F.put d r) (H.over H0 H')):jU C name args cs d K F H :=
 .inl ⟨vs++cs,H0,R,by rw[j]; rfl,e,h,l⟩
theorem ahD {name o:Nat} {x y:bZ} {r:PV} {vs cs:List PV} {args:List aP} {d:Option Nat} {K:PF→PH→Prop} (h:aH C name (vs++cs) (PH.nil.set o x) (fun e H'=>e=r∧H'=PH.nil.set o y)) (u:H o=some x) (j:aP.evs F args=some vs)
  (l:K (F.put d r) (H.set o y)):jU C name args cs d K F H:=by
 refine ie h j (e_ a_ u) ?_;rintro e H' ⟨rfl,rfl⟩ -;rw[PH.uE];exact l
theorem ahC {name:Nat} {vs cs:List PV} {args:List aP} {d:Option Nat} {K:PF→PH→Prop} {B1 B2:List BX} {L1 L2:List LI} {Q:PV→List BX→List LI→Prop} (h:aM H (B1++B2) (L1++L2))
  (u:∀ H0,aM H0 B1 L1→aH C name (vs++cs) H0 (fun r H'=>∃ B' L',Q r B' L'∧aM H' B' L')) (l:aP.evs F args=some vs)
  (w:∀ r B' L' H',Q r B' L'→aM H' (B'++B2) (L'++L2)→K (F.put d r) H'):jU C name args cs d K F H:=by
 refine ie (u (H.only (eZ B1++eF L1)) (h.only (bcD ..) (bcD ..))) l (cj H _) ?_;rintro r H' ⟨B',L',hq,j⟩ e;exact w r B' L' _ hq (h.frame j e)
theorem zO {name o:Nat} {x:bZ} {r:PV} {vs cs:List PV} {args:List aP} {d:Option Nat} {K:PF→PH→Prop} (h:aH C name (vs++cs) (PH.nil.set o x) (fun u H'=>u=r∧H'=PH.nil.set o x)) (e:H o=some x) (j:aP.evs F args=some vs)
  (l:K (F.put d r) H):jU C name args cs d K F H:=by
 refine ahD h e j ?_;rw[PH.aPX e];exact l
end
theorem xJ {l:List bN} {k:Nat} (h:k<l.length):(l.map bN.cells)[k]?=some (l[k]).cells:=by simp[h]
abbrev nN (n:bY):bZ:=.rows 4 [n.cells]
theorem aOI {C:Ctx} (n:bY) (o x:Nat) (l:x<n.nodes):QK.wp C (aT aCC.res (fun r H'=>r=.bool true∧H'=PH.nil.set o (nN n))) (PF.args [.int .i64 (x:Nat),.ptr o 4 0 0]) (PH.nil.set o (nN n)):=by
 have e:(0:Int)≤(x:Int):=Om;have j:(x:Int)<(n.nodes:Nat):=Om;simp only[go_sem,QK,Xr,aCC,Xs,e,j];exact bA (vs:=[.bool true]) (.inr rfl) _ Ev (fun _ _ h=>h) ⟨rfl,rfl⟩
theorem aHI {C:Ctx} (y:∀ (n:bY) (o x:Nat),x<n.nodes→aH C 291 [.int .i64 (x:Nat),.ptr o 4 0 0] (PH.nil.set o (nN n)) (fun r H'=>r=.bool true∧H'=PH.nil.set o (nN n))) (n:bY) (w:eU n) :
  JW.wp C (aT Xw.res (aI (.bool true))) (PF.args [.agg n.cells]) .nil:=by
 have a1:¬ (n.nodes:Int)<2:=by have:=w.two; omega
 have a2:¬ (n.nodes:Int)>700:=by have:=w.few; omega
 have a3:¬ (n.arcs.length:Int)>2500:=by have:=w.num; omega
 have a4:¬ (n.source:Int)=n.sink:=by have:=w.apart; omega
 have M:=w.num;simp only[go_sem,JW,Hy,Xw];refine aO fun o N=>?_;simp only[go_sem,Hz,Ia,a1,a2,a3,a8E];refine zO (vs:=[.int .i64 (n.source:Nat)]) (cs:=[.ptr o 4 0 0]) (y n o n.source w.source) (by rw[bS]) Ev ?_;simp only[go_sem];refine zO (vs:=[.int .i64 (n.sink:Nat)]) (cs:=[.ptr o 4 0 0]) (y n o n.sink w.sink) (by rw[bS]) Ev ?_;simp only[go_sem,bD a4,Ib,a8E];refine wp_loop (α:=Nat) (fun k=>(((((PF.nil.set 1 (.ptr o 4 0 0)).set 3 (.fn 291 [.ptr o 4 0 0])).set 43 (Bh n.arcs)).set 44 (.int .i64 (n.arcs.length:Nat))).set 45 (.int .i64 (k:Nat)))) (fun _=>PH.nil.set o (nN n)) (fun k=>k≤n.arcs.length) (fun k=>n.arcs.length-k) 0 (a8K _) Lq (fun _ _ h=>h) ?_;intro k J;simp only[go_sem,vr,Ic];by_cases hlt:k<n.arcs.length
 ·have u:(k:Int)<(n.arcs.length:Nat):=Om;obtain⟨F,I,K⟩:=w.ends _ (a8G hlt);simp only[go_sem,u,Ie,xJ hlt];refine aO fun p A=>?_;have l:¬ p=o:=fun e=>by rw[e,bS] at A; cases A
  have j:¬ o=p:=fun e=>l e.symm;simp only[go_sem,l,j,If];refine zO (vs:=[.int .i64 ((n.arcs[k]).src:Nat)]) (cs:=[.ptr o 4 0 0]) (y n o _ F) (by simp only[go_sem,l,j]) Ev ?_;simp only[go_sem];refine zO (vs:=[.int .i64 ((n.arcs[k]).dst:Nat)]) (cs:=[.ptr o 4 0 0]) (y n o _ I) (by simp only[go_sem,l,j]) Ev ?_;have B:¬ ((n.arcs[k]).cap:Int)<0:=Om;have E:¬ ((n.arcs[k]).cap:Int)>2147483647:=Om;simp only[go_sem,l,j,B,E,Ig,wZz k];exact aG (k+1) hlt Om Lq (e_ a_ (by simp only[go_sem,l,j]))
 ·have u:¬ (k:Int)<(n.arcs.length:Nat):=Om;simp only[go_sem,u,vt];refine aR (.inr rfl) Ev ?_;rfl
structure au (n:bY) (cut:List Bool):Prop where
 len:cut.length=n.nodes
 src:cut.getD n.source false=true
 snk:cut.getD n.sink false=false
theorem En (S:Nat→Bool) (l:List bN) {k:Nat} (h:k<l.length):dQ S (l.take (k+1))=dQ S (l.take k)+if S (l[k]).src=true∧S (l[k]).dst=false then (l[k]).cap else 0:=by
 have e:∀ (a b:List bN),dQ S (a++b)=dQ S a+dQ S b:=by
  intro a
  induction a with
  | nil=>intro b; simp[dQ]
  | cons x a j=>intro b; rw[bbR,dQ,dQ,j]; omega
 rw[baF h,e];simp[dQ]
theorem Bm (S:Nat→Bool) {M:Nat}:∀ {l:List bN},(∀ a∈l,a.cap≤M)→dQ S l≤l.length*M
 | [],_=>a8K _
 | a::l,h=>by have e:=h a (by simp);have j:=Bm S (l:=l) fun b hb=>h b (by simp[hb]);rw[dQ,a9Y,baL];split<;>omega
theorem Eo {n:bY} (e:eU n) (S:Nat→Bool) (k:Nat):dQ S (n.arcs.take k)≤5368709117500:=by
 have w:=Bm S (M:=2147483647) (l:=n.arcs.take k) fun a u=>(e.ends a (List.mem_of_mem_take u)).2.2;have j:(n.arcs.take k).length≤2500:=baK (by rw[a8W]; omega) e.num;have x:(n.arcs.take k).length*2147483647≤2500*2147483647:=a9H _ j;omega
theorem aUQ {C:Ctx} (O:∀ n:bY,eU n→aH C 292 [.agg n.cells] .nil (aI (.bool true))) (n:bY) (u:eU n) (cut:List Bool) (l:au n cut) :
  WQ.wp C (aT aNV.res (aI (.tup [.int .i64 ((dQ (fun w=>cut.getD w false) n.arcs:Nat):Int),.bool true]))) (PF.args [.agg n.cells,iJ cut]) .nil:=by
 have a1:(cut.length:Int)=n.nodes:=by have:=l.len; omega
 have I:n.source<cut.length:=by rw[l.len]; exact u.source
 have J:n.sink<cut.length:=by rw[l.len]; exact u.sink
 have U:=u.num;have x:iJ cut=.sl 1 (aZ cut):=rfl;rw[x];simp only[go_sem,WQ,apA,aNV,apB];refine aB (O n u) Ev ?_;simp only[go_sem,gE,bJ a1,eP I,eP J,l.src,l.snk,apC,apD,a8E];refine wp_loop (α:=Nat) (fun k=>((((((PF.nil.set 1 (.sl 1 (aZ cut))).set 2 (.bO n.cells)).set 6 (.int .i64 ((dQ (fun w=>cut.getD w false) (n.arcs.take k):Nat):Int))).set 35 (Bh n.arcs)).set 36 (.int .i64 (n.arcs.length:Nat))).set 37 (.int .i64 (k:Nat)))) (fun _=>.nil) (fun k=>k≤n.arcs.length) (fun k=>n.arcs.length-k) 0 (a8K _) Lq a_ ?_;intro k R;simp only[go_sem,Wn,apE];by_cases hlt:k<n.arcs.length
 ·have j:(k:Int)<(n.arcs.length:Nat):=Om;obtain⟨M,N,S⟩:=u.ends _ (a8G hlt);have K:(n.arcs[k]).src<cut.length:=by rw[l.len]; exact M
  have B:(n.arcs[k]).dst<cut.length:=by rw[l.len]; exact N
  have y:=En (fun w=>cut.getD w false) n.arcs hlt;have hb:=Eo u (fun w=>cut.getD w false) (k+1);simp only[go_sem,j,apF,xJ hlt];refine aO fun p V=>?_;simp only[go_sem,apG,eP K,eP B];cases E:cut.getD (n.arcs[k]).src false with
  | false =>rw[if_neg (by rw[E]; rintro⟨h,-⟩; cases h),a9P] at y;simp only[go_sem,cb,wZz k];exact aG (k+1) hlt Om (by (repeat' (first|exact c_|refine d_ ?_ ?_))<;>first|(simp only[go_sem,y]<;>rfl)|rfl) a_
  | true =>
   simp only[go_sem,eP B];cases F:cut.getD (n.arcs[k]).dst false with
   | true =>rw[if_neg (by rw[F]; rintro⟨-,h⟩; cases h),a9P] at y;simp only[go_sem,cb,wZz k];exact aG (k+1) hlt Om (by (repeat' (first|exact c_|refine d_ ?_ ?_))<;>first|(simp only[go_sem,y]<;>rfl)|rfl) a_
   | false =>
    rw[if_pos ⟨E,F⟩] at y;have e:IntKind.i64.wrap (((dQ (fun w=>cut.getD w false) (n.arcs.take k):Nat):Int)+((n.arcs[k]).cap:Int))=((dQ (fun w=>cut.getD w false) (n.arcs.take (k+1)):Nat):Int):=by rw[wrap_i64 Om Om]; omega
    simp only[go_sem,apH,e,cb,wZz k];exact aG (k+1) hlt Om Lq a_
 ·have j:¬ (k:Int)<(n.arcs.length:Nat):=Om;have A:n.arcs.take k=n.arcs:=a8V Om;simp only[go_sem,j,Wo,A];refine aR (.inr rfl) Ev ?_;rfl
abbrev cN (N:Nat) (v:PV):bZ:=.rows 4 [[.int .i64 (N:Nat),.int .i64 0,.int .i64 1,v]]
theorem aUY {C:Ctx} (o N x y z:Nat) (v:PV) (l:List bN) (F:l.length≤1000000) (H:PH) (w:aM H [(o,cN N v)] [(v,4,l.map bN.cells)]) :
  WZ.wp C (aT aOL.res (fun r H'=>∃ (B':List BX) (L':List LI),(r=.tup []∧∃ v',B'=[(o,cN N v')]∧L'=[(v',4,(l++[(⟨x,y,z⟩:bN)]).map bN.cells)])∧aM H' B' L')) (PF.args [.int .i64 (x:Nat),.int .i64 (y:Nat),.int .i64 (z:Nat),.ptr o 4 0 0]) H:=by
 have E:=w.at 0 rfl;simp only[go_sem,WZ,aqP,aOL,E];refine w.append 0 rfl (src:=[bN.cells ⟨x,y,z⟩]) rfl ?_ fun v' H' u j=>?_
 ·unfold roomFor;rw[a8E,a8N];simp only[maxLen];omega
 obtain⟨q,hq⟩:=j (by simp);have e:=u.at 0 rfl;have B:=u.set 0 rfl (cN N v');generalize ((l.map bN.cells++[bN.cells ⟨x,y,z⟩]).length)=len at hq;subst hq;simp only[go_sem,e];refine⟨H'.set o (cN N (.osl q 4 0 len)),if_pos (fun x A=>by rw[a9K] at A; subst A; rfl),?_⟩;refine bA (vs:=[]) (.inl rfl) (H'.set o (cN N (.osl q 4 0 len))) rfl (fun _ _ h=>h) ⟨[(o,cN N (.osl q 4 0 len))],_,⟨rfl,_,rfl,rfl⟩,?_⟩;rw[a9U];exact B
def IM (n:Nat):List Nat→Option (List Nat)
 | []=>none
 | x::t=>match IM n t with
  | some u=>some (x::u)
  | none=>if x+1+t.length=n then none else some (List.range' (x+1) (t.length+1))
theorem Io {n:Nat}:∀ {s u:List Nat},IM n s=some u→u.length=s.length
 | [],_,h=>by cases h
 | x::t,u,h=>by
  rw[IM] at h;split at h
  ·rename_i v e;cases h;simp[Io e]
  ·split at h
   ·cases h
   ·cases h;simp
inductive ix (n:Nat):List Nat→List (List Nat)→Prop
 | last {s:List Nat} (h:IM n s=none):ix n s [s]
 | step {s t:List Nat} {l:List (List Nat)} (h:IM n s=some t) (w:ix n t l):ix n s (s::l)
theorem ix.map {n x k:Nat} {e:List (List Nat)} (y:(x+1+k=n∧e=[])∨(x+1+k≠n∧ix n (List.range' (x+1) (k+1)) e)) {t:List Nat} {l:List (List Nat)} (w:ix n t l) (j:t.length=k):ix n (x::t) (l.map (x::·)++e):=by
 induction w with
 | @last s h =>
  rcases y with ⟨u,rfl⟩ | ⟨u,h2⟩
  ·exact .last (by rw[IM,h]; simp only; rw[if_pos (by rw[j]; exact u)])
  ·exact .step (by rw[IM,h]; simp only; rw[if_neg (by rw[j]; exact u),j]) h2
 | @step s t l h _ A=>exact .step (by rw[IM,h]) (A (by rw[Io h,j]))
def aXR (f:aE) (p:dX) (d:Int):Bool:=p.a6Q.contains ((mdl f d.toNat:Nat):Int)
def X1 (s:List Nat):List Int:=s.map fun (x:Nat)=>(x:Int)
def cX (g:Nat→Nat):Nat→Nat
 | 0=>0
 | n+1=>cX g n+g n
theorem AO (g h:Nat→Nat):∀ n,cX (fun k=>g k+h k) n=cX g n+cX h n
 | 0=>rfl
 | n+1=>by rw[cX,cX,cX,AO g h n]; omega
theorem AP {g h:Nat→Nat}:∀ {n:Nat},(∀ k,k<n→g k≤h k)→cX g n≤cX h n
 | 0,_=>a8J _
 | n+1,e=>by rw[cX,cX];exact Nat.add_le_add (AP fun k j=>e k Om) (e n Om)
theorem fH {g h:Nat→Nat}:∀ {n:Nat},(∀ k,k<n→g k=h k)→cX g n=cX h n
 | 0,_=>rfl
 | n+1,e=>by rw[cX,cX,fH (n:=n) fun k j=>e k Om,e n Om]
theorem rY:∀ n,cX (fun _=>0) n=0
 | 0=>rfl
 | n+1=>by rw[cX,rY n]
theorem IV (g:Nat→Nat→Nat) (n:Nat):∀ m,cX (fun v=>cX (g v) n) m=cX (fun d=>cX (fun v=>g v d) m) n
 | 0=>by rw[cX];exact (rY n).symm
 | m+1=>by rw[cX,IV g n m,← AO]; rfl
theorem avG {g:Nat→Nat}:∀ {n k:Nat},k<n→g k≤cX g n
 | 0,_,h=>by omega
 | n+1,k,h=>by
  rw[cX];by_cases e:k=n
  ·subst e; omega
  ·have:=avG (g:=g) (n:=n) (k:=k) Om; omega
theorem SI (c:Nat) (g:Nat→Nat):∀ n,cX (fun k=>c*g k) n=c*cX g n
 | 0=>rfl
 | n+1=>by rw[cX,cX,SI c g n,a8T]
def one (b:Bool):Nat:=if b=true then 1 else 0
theorem BG:one true=1:=rfl
theorem BF:one false=0:=rfl
def gQ (p:Nat→Bool) (n:Nat):Nat:=cX (fun k=>one (p k)) n
theorem r9 (p:Nat→Bool):∀ n,gQ p n=(a8D n).countP p
 | 0=>rfl
 | n+1=>by rw[baT,List.countP_append,← r9 p n,gQ,cX];cases h:p n<;>simp[one,h,gQ]
def bV (f:aE) (v i:Nat):Nat:=if i=0 then 2+v else 2+f.a6R.length+v*(f.a6S.length-1)+i-1
def aY (f:aE) (d:Nat):Nat:=2+f.a6R.length*f.a6S.length+d
def fE (f:aE) (v:Nat):Nat:=(pV f v).toNat
def uX (f:aE) (v i:Nat):Nat:=if fW f (cO f v) i=0 then fE f v else (fW f (cO f v) i).toNat
def RX (f:aE) (room:List Int) (d:Nat):Nat:=(pU f room d).toNat
def okD (f:aE) (v d:Nat):Bool:=aXR f (cO f v) d
def kA (f:aE) (v k:Nat):bN:=⟨bV f v (jO f (k+1)),bV f v (k+1),uX f v (k+1)⟩
def eG (f:aE) (v d:Nat):bN:=⟨bV f v (fF f d),aY f d,1⟩
def fI (f:aE) (v:Nat):List bN:=⟨0,2+v,fE f v⟩::((a8D (f.a6S.length-1)).map (kA f v)++((a8D f.a6P.length).filter (okD f v)).map (eG f v))
def nP (f:aE) (room:List Int) (d:Nat):bN:=⟨aY f d,1,RX f room d⟩
def eE (f:aE) (room:List Int):List bN:=(a8D f.a6R.length).flatMap (fI f)++(a8D f.a6P.length).map (nP f room)
def cJ (f:aE) (room:List Int):bY:=⟨aY f f.a6P.length,0,1,eE f room⟩
def oO (f:aE):Nat:=cX (fE f) f.a6R.length
theorem mO {f:aE} (h:VF f) {v:Nat} (l:v<f.a6R.length):fE f v≤8∧1≤fE f v∧(fE f v:Int)=pV f v∧∀ i,uX f v i≤8:=by
 obtain⟨j,he⟩:=qZ h l;have e:=h.a7C _ (a8G j);rw[he] at e;have u:pV f v=(cO f v).k+(cO f v).m:=rfl;unfold uX fE;refine⟨by omega,by omega,by omega,fun i=>?_⟩;have:=e.2.2.2.2.2.2.1 (lvl f i).toNat;unfold fW;split<;>omega
theorem zF {f:aE} (h:VF f) (room:List Int) {d:Nat} (e:d<f.a6P.length):RX f room d≤16∧(RX f room d:Int)=pU f room d:=by
 have:=aJL h room e;unfold RX;omega
theorem iU {f:aE} (h:VF f) {v i:Nat} (j:v<f.a6R.length) (hi:i<f.a6S.length):2≤bV f v i∧bV f v i<aY f 0:=by
 have u:=h.root.1;have e:(v+1)*(f.a6S.length-1)≤f.a6R.length*(f.a6S.length-1):=a9H _ j;rw[baL] at e;have l:f.a6R.length*f.a6S.length=f.a6R.length*(f.a6S.length-1)+f.a6R.length:=by
  conv=>lhs; rw[show f.a6S.length=(f.a6S.length-1)+1 by omega,Nat.mul_succ]
 unfold bV aY;split<;>omega
theorem agJ (f:aE) (v:Nat):(fI f v).length≤f.a6S.length+f.a6P.length+1:=by
 unfold fI;rw[a9Y,a8H,a8E,a8E,baJ];have:=List.length_filter_le (okD f v) (a8D f.a6P.length);rw[baJ] at this;omega
theorem aOQ (f:aE) (room:List Int):(eE f room).length≤f.a6R.length*(f.a6S.length+f.a6P.length+1)+f.a6P.length:=by
 unfold eE;rw[a8H,a8E,baJ];have e:∀ n,((a8D n).flatMap (fI f)).length≤n*(f.a6S.length+f.a6P.length+1):=by
  intro n
  induction n with
  | zero=>simp
  | succ n j =>rw[baT,List.flatMap_append,a8H,baL];have:=agJ f n;simp only[List.flatMap_cons,List.flatMap_nil,a9W];omega
 have:=e f.a6R.length;omega
theorem wB {f:aE} (h:VF f) (room:List Int):eU (cJ f room):=by
 obtain⟨s1,s2,s3,s4,N,O⟩:=h.small;have I:aY f f.a6P.length=aY f 0+f.a6P.length:=by unfold aY; omega
 have K:f.a6R.length*f.a6S.length≤12*40:=bbT Om Om;have A:=h.root.1;have hb:aY f 0=2+f.a6R.length*f.a6S.length:=rfl;refine⟨?_,?_,?_,?_,?_,(show (0:Nat)≠1 by decide),fun a ha=>?_⟩
 ·show 2≤aY f f.a6P.length;omega
 ·show aY f f.a6P.length≤700;omega
 ·refine baK (aOQ f room) ?_;have:f.a6R.length*(f.a6S.length+f.a6P.length+1)≤12*(40+24+1):=bbT Om Om;omega
 ·show 0<aY f f.a6P.length;omega
 ·show 1<aY f f.a6P.length;omega
 ·show a.src<aY f f.a6P.length∧a.dst<aY f f.a6P.length∧a.cap≤2147483647;have u:∀ d,d<f.a6P.length→aY f d<aY f f.a6P.length:=fun d u=>by unfold aY; omega
  rcases a9N.1 (show a∈eE f room from ha) with ha | ha
  ·obtain⟨v,l,ha⟩:=List.mem_flatMap.1 ha;have l:=a9B.1 l;obtain⟨B,E,F,x⟩:=mO h l;rcases a8S.1 ha with rfl | ha
   ·have:=(iU h l A).2;simp only[bV,if_true] at this;simp only;exact⟨by omega,by omega,by omega⟩
   ·rcases a9N.1 ha with ha | ha
    ·obtain⟨k,w,rfl⟩:=a9G.1 ha;have w:=a9B.1 w;have M:=(h.dom (k+1) Om Om).2.1;have y:=(iU h l (i:=jO f (k+1)) Om).2;have J:=(iU h l (i:=k+1) Om).2;have:=x (k+1);simp only[kA];exact⟨by omega,by omega,by omega⟩
    ·obtain⟨d,j,rfl⟩:=a9G.1 ha;have e:=a9B.1 (bbS.1 j).1;have y:=(iU h l (i:=fF f d) (h.drive d e).2.2.2.1).2;have:=u d e;simp only[eG];exact⟨by omega,this,by omega⟩
  ·obtain⟨d,j,rfl⟩:=a9G.1 ha;have e:=a9B.1 j;have:=u d e;have:=zF h room e;simp only[nP];exact⟨by omega,by omega,by omega⟩
def inD (f:aE) (i d:Nat):Bool:=decide (mB f d (lvl f i)=i)
structure xZ (f:aE) (room:List Int) (u:Nat→Nat→Bool):Prop where
 num:∀ v,v<f.a6R.length→gQ (u v) f.a6P.length=fE f v
 ok:∀ v d,v<f.a6R.length→d<f.a6P.length→u v d=true→okD f v d=true
 bound:∀ v i,v<f.a6R.length→0<i→i<f.a6S.length→fW f (cO f v) i≠0→gQ (fun d=>u v d&&inD f i d) f.a6P.length≤(fW f (cO f v) i).toNat
 room:∀ d,d<f.a6P.length→gQ (fun v=>u v d) f.a6R.length≤RX f room d
theorem oV (S:Nat→Bool):∀ l m:List bN,dQ S (l++m)=dQ S l+dQ S m
 | [],m=>by simp[dQ]
 | a::l,m=>by rw[bbR,dQ,dQ,oV S l m]; omega
def kC (S:Nat→Bool) (a:bN):Nat:=if S a.src=true∧S a.dst=false then a.cap else 0
theorem GB (S:Nat→Bool) (F:Nat→bN):∀ n,dQ S ((a8D n).map F)=cX (fun k=>kC S (F k)) n
 | 0=>rfl
 | n+1=>by rw[baT,a9U,oV,GB S F n,cX]; rfl
theorem VK (S:Nat→Bool) (F:Nat→List bN):∀ n,dQ S ((a8D n).flatMap F)=cX (fun k=>dQ S (F k)) n
 | 0=>rfl
 | n+1=>by rw[baT,List.flatMap_append,oV,VK S F n,cX];simp
theorem JG (S:Nat→Bool) (F:Nat→bN) (p:Nat→Bool):∀ n,dQ S (((a8D n).filter p).map F)=cX (fun k=>if p k=true then kC S (F k) else 0) n
 | 0=>rfl
 | n+1=>by rw[baT,List.filter_append,a9U,oV,JG S F p n,cX];cases h:p n<;>simp[h,dQ,kC]
theorem aCW (a b:Bool) (h:a=true→b=true):one a≤one b:=by
 cases a<;>cases b<;>simp_all [one]
theorem atD (a b:Bool):one (a&&b)=one a*one b:=by cases a<;>cases b<;>rfl
theorem aFQ {f:aE} (h:VF f) {d:Nat} (x:d<f.a6P.length) (S:Nat→Bool) (D:Nat→Nat) (w:S (D 0)=true):∀ k,k≤4→S (D (upN f k (fF f d)))=false→∃ i,0<i∧i<f.a6S.length∧inD f i d=true∧S (D (jO f i))=true∧S (D i)=false:=by
 have u:upN f 4 (fF f d)=0:=by
  obtain⟨a,b⟩:=ZI h x (k:=4) (a8J _);rcases baN (upN f 4 (fF f d)) with e | e
  ·exact e
  ·have:=(h.dom _ e a).2.2.2.1;omega
 intro k A j;obtain⟨m,E⟩:∃ m,m=4-k:=⟨_,rfl⟩
 induction m generalizing k with
 | zero =>have:k=4:=Om;subst this;rw[u,w] at j;cases j
 | succ m B =>
  cases y:S (D (upN f (k+1) (fF f d))) with
  | false=>exact B (k+1) Om y Om
  | true =>
   obtain⟨a,b⟩:=ZI h x A;have l:0<upN f k (fF f d):=by
    rcases baN (upN f k (fF f d)) with e | e
    ·rw[e,w] at j; cases j
    ·exact e
   refine⟨upN f k (fF f d),l,a,?_,y,j⟩;unfold inD mB;rw[b,decide_eq_true_eq];congr 1;omega
theorem xZ.vol {f:aE} (h:VF f) {room:List Int} {u:Nat→Nat→Bool} (A:xZ f room u) (S:Nat→Bool) (K:S 0=true) {v:Nat} (B:v<f.a6R.length) :
  fE f v≤dQ S (fI f v)+cX (fun d=>one (u v d)*one (S (aY f d))) f.a6P.length:=by
 have N:dQ S (fI f v)=kC S ⟨0,2+v,fE f v⟩+(cX (fun k=>kC S (kA f v k)) (f.a6S.length-1)+cX (fun d=>if okD f v d=true then kC S (eG f v d) else 0) f.a6P.length):=by unfold fI;rw[dQ,oV,GB,JG]; rfl
 rw[N];cases J:S (2+v) with
 | false =>
  have:kC S ⟨0,2+v,fE f v⟩=fE f v:=by unfold kC; simp[K,J]
  omega
 | true =>
  have j:S (bV f v 0)=true:=J;have each:∀ d,d<f.a6P.length→one (u v d)≤one (u v d)*one (S (aY f d))+((if okD f v d=true then kC S (eG f v d) else 0)+cX (fun k=>one (u v d&&inD f (k+1) d)*one (S (bV f v (jO f (k+1)))&&!S (bV f v (k+1)))) (f.a6S.length-1)):=by
   intro d F;cases R:u v d with
   | false=>exact a8K _
   | true =>
    have y:=A.ok v d B F R;cases M:S (aY f d) with
    | true=>rw[BG]; omega
    | false =>
     cases E:S (bV f v (fF f d)) with
     | true =>
      have:kC S (eG f v d)=1:=by unfold kC eG; simp[M,E]
      rw[if_pos y,this,BG,BF]; omega
     | false =>obtain⟨i,X,Y,U,V,W⟩:=aFQ h F S (bV f v) j 0 Om E;have I:=avG (g:=fun k=>one (true&&inD f (k+1) d)*one (S (bV f v (jO f (k+1)))&&!S (bV f v (k+1)))) (n:=f.a6S.length-1) (k:=i-1) Om;simp only[show i-1+1=i by omega,U,V,W,BG,Bool.and_self,a8X] at I;rw[BG,BF];omega
  have l:=A.num v B;have w:=AP (n:=f.a6P.length) each;rw[AO,AO,IV] at w;have x:cX (fun k=>cX (fun d=>one (u v d&&inD f (k+1) d)*one (S (bV f v (jO f (k+1)))&&!S (bV f v (k+1)))) f.a6P.length) (f.a6S.length-1)≤cX (fun k=>kC S (kA f v k)) (f.a6S.length-1):=by
   refine AP fun k I=>?_;have e:cX (fun d=>one (u v d&&inD f (k+1) d)*one (S (bV f v (jO f (k+1)))&&!S (bV f v (k+1)))) f.a6P.length=one (S (bV f v (jO f (k+1)))&&!S (bV f v (k+1)))*gQ (fun d=>u v d&&inD f (k+1) d) f.a6P.length:=by unfold gQ;rw[← SI];exact fH fun d _=>a9E _ _
   rw[e];unfold kC kA;simp only;cases g1:S (bV f v (jO f (k+1)))<;>cases g2:S (bV f v (k+1))<;>simp only[BG,BF,a9Q,a8O,a8X,a8Q,Bool.and_self,bbH,if_false,if_true,Nat.zero_mul,Nat.one_mul,and_false,false_and,and_self,a8J,a8K,reduceCtorEq];unfold uX;split
   ·have:gQ (fun d=>u v d&&inD f (k+1) d) f.a6P.length≤gQ (u v) f.a6P.length:=AP fun d _=>aCW _ _ fun h=>by rw[a9A] at h; exact h.1
    omega
   ·rename_i O;exact A.bound v (k+1) B Om Om O
  unfold gQ at l;omega
theorem xZ.cut {f:aE} (h:VF f) {room:List Int} {u:Nat→Nat→Bool} (A:xZ f room u) (S:Nat→Bool) (l:S 0=true) (w:S 1=false):oO f≤dQ S (eE f room):=by
 unfold eE;rw[oV,VK,GB];have j:oO f≤cX (fun v=>dQ S (fI f v)+cX (fun d=>one (u v d)*one (S (aY f d))) f.a6P.length) f.a6R.length:=AP fun v y=>A.vol h S l y;rw[AO,IV] at j;have B:cX (fun d=>cX (fun v=>one (u v d)*one (S (aY f d))) f.a6R.length) f.a6P.length≤cX (fun k=>kC S (nP f room k)) f.a6P.length:=by
  refine AP fun d x=>?_;have e:cX (fun v=>one (u v d)*one (S (aY f d))) f.a6R.length=one (S (aY f d))*gQ (fun v=>u v d) f.a6R.length:=by unfold gQ;rw[← SI];exact fH fun v _=>a9E _ _
  rw[e];have:=A.room d x;unfold kC nP;simp only[w];cases S (aY f d) with
  | false=>simp[BF]
  | true=>simp[BG]; exact this
 omega
def fC (g:Nat→Int):Nat→Int
 | 0=>0
 | n+1=>fC g n+g n
theorem adB (g h:Nat→Int):∀ n,fC (fun k=>g k+h k) n=fC g n+fC h n
 | 0=>rfl
 | n+1=>by rw[fC,fC,fC,adB g h n]; omega
theorem fG {g h:Nat→Int}:∀ {n:Nat},(∀ k,k<n→g k=h k)→fC g n=fC h n
 | 0,_=>rfl
 | n+1,e=>by rw[fC,fC,fG (n:=n) fun k j=>e k Om,e n Om]
theorem pB:∀ n,fC (fun _=>0) n=0
 | 0=>rfl
 | n+1=>by rw[fC,pB n]; rfl
theorem HF (g:Nat→Int) (a:Nat):∀ {n:Nat},a<n→fC (fun k=>if k=a then g k else 0) n=g a
 | 0,h=>by omega
 | n+1,h=>by
  rw[fC];by_cases e:n=a
  ·subst e;rw[fG (h:=fun _=>0) (n:=n) fun k j=>by rw[if_neg Om],pB,if_pos rfl];omega
  ·rw[HF g a (n:=n) Om,if_neg e];omega
theorem HE (g:Nat→Nat):∀ n,fC (fun k=>(g k:Int)) n=(cX g n:Int)
 | 0=>rfl
 | n+1=>by rw[fC,cX,HE g n]; simp
theorem pw (g:Nat→Int):∀ n,fC (fun k=>- g k) n=- fC g n
 | 0=>rfl
 | n+1=>by rw[fC,fC,pw g n]; omega
def jN (a:bN) (x:Nat) (w:Nat):Int:=(if a.src=w then (x:Int) else 0)-(if a.dst=w then (x:Int) else 0)
theorem DY (w:Nat):∀ {l:List bN} {xs:List Nat} (m:List bN) (e:List Nat),l.length=xs.length→gI (l++m) (xs++e) w=gI l xs w+gI m e w
 | [],[],m,e,_=>by simp[gI]
 | [],_::_,_,_,h=>by simp at h
 | _::_,[],_,_,h=>by simp at h
 | a::l,x::xs,m,e,h=>by rw[bbR,bbR,gI,gI,DY w m e (by simpa using h)];omega
theorem Cx (w:Nat) (L:List Nat) (F:Nat→bN) (y:Nat→Nat):gI (L.map F) (L.map y) w=(L.map fun k=>jN (F k) (y k) w).sum:=by
 induction L with
 | nil=>rfl
 | cons a L e=>rw[a9T,a9T,gI,e,a9T,List.sum_cons]; rfl
theorem YX (g:Nat→Int):∀ n,((a8D n).map g).sum=fC g n
 | 0=>rfl
 | n+1=>by rw[baT,a9U,List.sum_append,YX g n,fC]; simp
theorem yb (g:Nat→Int) (p:Nat→Bool):∀ n,(((a8D n).filter p).map g).sum=fC (fun k=>if p k=true then g k else 0) n
 | 0=>rfl
 | n+1=>by rw[baT,List.filter_append,a9U,List.sum_append,yb g p n,fC];cases h:p n<;>simp[h]
theorem Ym (w:Nat) (F:Nat→List bN) (X:Nat→List Nat):∀ n,(∀ v,v<n→(F v).length=(X v).length)→gI ((a8D n).flatMap F) ((a8D n).flatMap X) w=fC (fun v=>gI (F v) (X v) w) n
 | 0,_=>rfl
 | n+1,h=>by
  have j:((a8D n).flatMap F).length=((a8D n).flatMap X).length:=by rw[List.length_flatMap,List.length_flatMap];congr 1;exact baM fun v e=>h v (by have:=a9B.1 e; omega)
  rw[baT,List.flatMap_append,List.flatMap_append,DY w _ _ j,Ym w F X n fun v e=>h v Om,fC];simp
theorem PK:∀ {L:List Nat} {Y:List Nat},L.Nodup→Y.length=L.length→∃ h:Nat→Nat,Y=L.map h
 | [],[],_,_=>⟨fun _=>0,rfl⟩
 | [],_::_,_,h=>by simp at h
 | _::_,[],_,h=>by simp at h
 | a::L,y::Y,x,w=>by obtain⟨j,l⟩:=List.nodup_cons.1 x;obtain⟨h,rfl⟩:=PK l (show Y.length=L.length by simpa using w);refine⟨fun d=>if d=a then y else h d,?_⟩;rw[a9T];refine List.cons_eq_cons.2 ⟨(if_pos rfl).symm,baM fun d u=>?_⟩;have:¬ d=a:=fun e=>j (by rw[← e]; exact u);exact (if_neg this).symm
theorem Q8 (F:Nat→List bN):∀ (n:Nat) (xs:List Nat),xs.length=((a8D n).flatMap F).length→∃ X:Nat→List Nat,xs=(a8D n).flatMap X∧∀ v,v<n→(X v).length=(F v).length
 | 0,xs,h=>⟨fun _=>[],by
   have:xs=[]:=by simpa using h
   rw[this]; rfl,fun v j=>by omega⟩
 | n+1,xs,h=>by
  rw[baT,List.flatMap_append,a8H] at h;have l:([n].flatMap F).length=(F n).length:=by simp
  rw[l] at h;obtain⟨X,u,w⟩:=Q8 F n (xs.take ((a8D n).flatMap F).length) (by rw[a8W]; omega);refine⟨fun v=>if v=n then xs.drop ((a8D n).flatMap F).length else X v,?_,fun v j=>?_⟩
  ·rw[baT,List.flatMap_append];have e:(a8D n).flatMap (fun v=>if v=n then xs.drop ((a8D n).flatMap F).length else X v)=(a8D n).flatMap X:=by rw[List.flatMap_def,List.flatMap_def];congr 1;exact baM fun v j=>by rw[if_neg (by have:=a9B.1 j; omega)]
   rw[e,← u];simp
  ·by_cases e:v=n
   ·subst e;simp only[if_true];rw[a9Z]; omega
   ·simp only[if_neg e];exact w v Om
def uL (f:aE) (s:Nat→Nat) (g h:Nat→Nat→Nat) (v:Nat):List Nat:=s v::((a8D (f.a6S.length-1)).map (g v)++((a8D f.a6P.length).filter (okD f v)).map (h v))
def sF (f:aE) (s:Nat→Nat) (g h:Nat→Nat→Nat) (t:Nat→Nat):List Nat:=(a8D f.a6R.length).flatMap (uL f s g h)++(a8D f.a6P.length).map t
theorem AU (f:aE) (s:Nat→Nat) (g h:Nat→Nat→Nat) (v:Nat):(fI f v).length=(uL f s g h v).length:=by
 unfold fI uL;simp
theorem sg (f:aE) (room:List Int) {xs:List Nat} (y:xs.length=(eE f room).length):∃ s g h t,xs=sF f s g h t:=by
 unfold eE at y;rw[a8H,a8E,baJ] at y;obtain⟨X,B,x⟩:=Q8 (fI f) f.a6R.length (xs.take ((a8D f.a6R.length).flatMap (fI f)).length) (by rw[a8W]; omega);obtain⟨t,I⟩:=PK (L:=a8D f.a6P.length) (Y:=xs.drop ((a8D f.a6R.length).flatMap (fI f)).length) List.nodup_range (by rw[a9Z,baJ]; omega);have each:∀ v,v<f.a6R.length→∃ s0 g0 w,X v=s0::((a8D (f.a6S.length-1)).map g0++((a8D f.a6P.length).filter (okD f v)).map w):=by
  intro v u;have j:=x v u;unfold fI at j;rw[a9Y,a8H,a8E,a8E,baJ] at j;cases A:X v with
  | nil=>rw[A] at j; simp at j
  | cons s0 Y =>rw[A,a9Y] at j;obtain⟨g0,E⟩:=PK (L:=a8D (f.a6S.length-1)) (Y:=Y.take (f.a6S.length-1)) List.nodup_range (by rw[a8W,baJ]; omega);obtain⟨w,F⟩:=PK (L:=(a8D f.a6P.length).filter (okD f v)) (Y:=Y.drop (f.a6S.length-1)) (List.nodup_range.filter _) (by rw[a9Z]; omega);exact⟨s0,g0,w,by rw[← E,← F,bbC]⟩
 have l:∀ v,∃ q:Nat × (Nat→Nat) × (Nat→Nat),v<f.a6R.length→X v=q.1::((a8D (f.a6S.length-1)).map q.2.1++((a8D f.a6P.length).filter (okD f v)).map q.2.2):=fun v=>by
  by_cases u:v<f.a6R.length
  ·obtain⟨a,b,c,e⟩:=each v u;exact⟨(a,b,c),fun _=>e⟩
  ·exact⟨(0,fun _=>0,fun _=>0),fun h=>absurd h u⟩
 refine⟨fun v=>(Classical.choose (l v)).1,fun v=>(Classical.choose (l v)).2.1,fun v=>(Classical.choose (l v)).2.2,t,?_⟩;unfold sF;rw[← I];have e:(a8D f.a6R.length).flatMap (uL f (fun v=>(Classical.choose (l v)).1) (fun v=>(Classical.choose (l v)).2.1) (fun v=>(Classical.choose (l v)).2.2))=(a8D f.a6R.length).flatMap X:=by rw[List.flatMap_def,List.flatMap_def];congr 1;exact baM fun v u=>(Classical.choose_spec (l v) (a9B.1 u)).symm
 rw[e,← B,bbC]
theorem tW {f:aE} {v i v' j:Nat} (F:v<f.a6R.length) (y:v'<f.a6R.length) (hi:i<f.a6S.length) (x:j<f.a6S.length) (e:bV f v i=bV f v' j):v=v'∧i=j:=by
 unfold bV at e;split at e<;>split at e
 ·omega
 ·omega
 ·omega
 ·rename_i B E;have l:0<f.a6S.length-1:=Om;have w:v*(f.a6S.length-1)+(i-1)=v'*(f.a6S.length-1)+(j-1):=Om;have u:(v*(f.a6S.length-1)+(i-1))/(f.a6S.length-1)=v:=by rw[a9E,Nat.mul_add_div l,bbL Om,a9P]
  have A:(v'*(f.a6S.length-1)+(j-1))/(f.a6S.length-1)=v':=by rw[a9E,Nat.mul_add_div l,bbL Om,a9P]
  rw[w,A] at u;subst u;exact⟨rfl,by omega⟩
theorem ch (f:aE) (s:Nat→Nat) (g h:Nat→Nat→Nat) (v w:Nat):gI (fI f v) (uL f s g h v) w=jN ⟨0,2+v,fE f v⟩ (s v) w+(fC (fun k=>jN (kA f v k) (g v k) w) (f.a6S.length-1)+fC (fun d=>if okD f v d=true then jN (eG f v d) (h v d) w else 0) f.a6P.length):=by
 unfold fI uL;rw[gI,DY _ _ _ (by simp),Cx,Cx,YX,yb]; rfl
theorem mi (f:aE) (room:List Int) (s:Nat→Nat) (g h:Nat→Nat→Nat) (t:Nat→Nat) (w:Nat):gI (eE f room) (sF f s g h t) w=fC (fun v=>gI (fI f v) (uL f s g h v) w) f.a6R.length+fC (fun d=>jN (nP f room d) (t d) w) f.a6P.length:=by
 unfold eE sF;rw[DY,Ym _ _ _ _ fun v _=>AU f s g h v,Cx,YX];rw[List.length_flatMap,List.length_flatMap];congr 1;exact baM fun v _=>AU f s g h v
theorem aCN {f:aE} (hV:VF f) (room:List Int) (s:Nat→Nat) (g h:Nat→Nat→Nat) (t:Nat→Nat):gI (eE f room) (sF f s g h t) 0=(cX s f.a6R.length:Nat):=by
 rw[mi,← HE];have l:fC (fun d=>jN (nP f room d) (t d) 0) f.a6P.length=0:=by rw[fG (h:=fun _=>0) fun d j=>?_,pB];unfold jN nP aY;simp only;rw[if_neg Om,if_neg Om]; rfl
 rw[l,Int.add_zero];refine fG fun v e=>?_;rw[ch];have u:fC (fun k=>jN (kA f v k) (g v k) 0) (f.a6S.length-1)=0:=by rw[fG (h:=fun _=>0) fun k A=>?_,pB];have x:=(iU hV e (i:=jO f (k+1)) (by have:=(hV.dom (k+1) Om Om).2.1; omega)).1;have y:=(iU hV e (i:=k+1) Om).1;unfold jN kA;simp only;rw[if_neg Om,if_neg Om]; rfl
 have w:fC (fun d=>if okD f v d=true then jN (eG f v d) (h v d) 0 else 0) f.a6P.length=0:=by
  rw[fG (h:=fun _=>0) fun d j=>?_,pB];have x:=(iU hV e (i:=fF f d) (hV.drive d j).2.2.2.1).1;have z:jN (eG f v d) (h v d) 0=0:=by unfold jN eG aY;simp only;rw[if_neg Om,if_neg Om]; rfl
  rw[z];split<;>rfl
 rw[u,w];unfold jN;simp only;rw[if_pos trivial,if_neg Om];omega
theorem aVD {f:aE} (hV:VF f) (room:List Int) (s:Nat→Nat) (g h:Nat→Nat→Nat) (t:Nat→Nat) {v i:Nat} (j:v<f.a6R.length) (hi:i<f.a6S.length) :
  gI (eE f room) (sF f s g h t) (bV f v i)=fC (fun k=>if jO f (k+1)=i then (g v k:Int) else 0) (f.a6S.length-1)+fC (fun d=>if okD f v d=true∧fF f d=i then (h v d:Int) else 0) f.a6P.length-(if i=0 then (s v:Int) else (g v (i-1):Int)):=by
 obtain⟨S,B⟩:=iU hV j hi;rw[mi];have M:fC (fun d=>jN (nP f room d) (t d) (bV f v i)) f.a6P.length=0:=by rw[fG (h:=fun _=>0) fun d u=>?_,pB];unfold jN nP;unfold aY at B ⊢;simp only;rw[if_neg Om,if_neg Om]; rfl
 have N:fC (fun v'=>gI (fI f v') (uL f s g h v') (bV f v i)) f.a6R.length=gI (fI f v) (uL f s g h v) (bV f v i):=by
  have:=HF (fun v'=>gI (fI f v') (uL f s g h v') (bV f v i)) v j;rw[← this];refine fG fun v' l=>?_;by_cases e:v'=v
  ·rw[if_pos e]
  rw[if_neg e,ch];have a1:jN ⟨0,2+v',fE f v'⟩ (s v') (bV f v i)=0:=by have O:bV f v' 0≠bV f v i:=fun h=>e (tW l j hV.root.1 hi h).1;have y:2+v'≠bV f v i:=O;unfold jN;simp only;rw[if_neg Om,if_neg y]; rfl
  have a2:fC (fun k=>jN (kA f v' k) (g v' k) (bV f v i)) (f.a6S.length-1)=0:=by rw[fG (h:=fun _=>0) fun k A=>?_,pB];have R:=(hV.dom (k+1) Om Om).2.1;unfold jN kA;simp only;rw[if_neg fun h=>e (tW l j Om hi h).1,if_neg fun h=>e (tW l j Om hi h).1]; rfl
  have a3:fC (fun d=>if okD f v' d=true then jN (eG f v' d) (h v' d) (bV f v i) else 0) f.a6P.length=0:=by
   rw[fG (h:=fun _=>0) fun d u=>?_,pB];have z:jN (eG f v' d) (h v' d) (bV f v i)=0:=by unfold jN eG;simp only;rw[if_neg fun h=>e (tW l j (hV.drive d u).2.2.2.1 hi h).1,if_neg (show ¬ aY f d=bV f v i by unfold aY at B ⊢; omega)]; rfl
   rw[z];split<;>rfl
  rw[a1,a2,a3]; rfl
 rw[M,N,Int.add_zero,ch];have E:jN ⟨0,2+v,fE f v⟩ (s v) (bV f v i)=- if i=0 then (s v:Int) else 0:=by
  unfold jN;simp only;rw[if_neg Om];by_cases e:i=0
  ·subst e;rw[if_pos rfl,if_pos (show 2+v=bV f v 0 from rfl)];omega
  ·have:¬ 2+v=bV f v i:=fun h=>e ((tW j j hV.root.1 hi (show bV f v 0=bV f v i from h)).2).symm;rw[if_neg e,if_neg this]; rfl
 have F:fC (fun k=>jN (kA f v k) (g v k) (bV f v i)) (f.a6S.length-1)=fC (fun k=>if jO f (k+1)=i then (g v k:Int) else 0) (f.a6S.length-1)-(if i=0 then 0 else (g v (i-1):Int)):=by
  have w:fC (fun k=>if k+1=i then (g v k:Int) else 0) (f.a6S.length-1)=if i=0 then 0 else (g v (i-1):Int):=by
   by_cases e:i=0
   ·subst e;rw[if_pos rfl,fG (h:=fun _=>0) fun k A=>by rw[if_neg Om],pB]
   ·rw[if_neg e,← HF (fun k=>(g v k:Int)) (i-1) (n:=f.a6S.length-1) Om];refine fG fun k A=>?_;by_cases c:k+1=i
    ·rw[if_pos c,if_pos Om]
    ·rw[if_neg c,if_neg Om]
  have:fC (fun k=>jN (kA f v k) (g v k) (bV f v i)) (f.a6S.length-1)=fC (fun k=>(if jO f (k+1)=i then (g v k:Int) else 0)+- (if k+1=i then (g v k:Int) else 0)) (f.a6S.length-1):=by refine fG fun k A=>?_;have R:=(hV.dom (k+1) Om Om).2.1;unfold jN kA;simp only;have x:bV f v (jO f (k+1))=bV f v i↔jO f (k+1)=i:=⟨fun h=>(tW j j Om hi h).2,fun h=>by rw[h]⟩;have K:bV f v (k+1)=bV f v i↔k+1=i:=⟨fun h=>(tW j j Om hi h).2,fun h=>by rw[h]⟩;simp only[x,K];omega
  rw[this,adB,pw,w]; rfl
 have I:fC (fun d=>if okD f v d=true then jN (eG f v d) (h v d) (bV f v i) else 0) f.a6P.length=fC (fun d=>if okD f v d=true∧fF f d=i then (h v d:Int) else 0) f.a6P.length:=by refine fG fun d u=>?_;have x:bV f v (fF f d)=bV f v i↔fF f d=i:=⟨fun h=>(tW j j (hV.drive d u).2.2.2.1 hi h).2,fun h=>by rw[h]⟩;unfold jN eG;simp only[x];rw[if_neg (show ¬ aY f d=bV f v i by unfold aY at B ⊢; omega)];by_cases w:okD f v d=true<;>by_cases J:fF f d=i<;>simp[w,J]
 rw[E,F,I];split<;>omega
theorem aVE {f:aE} (hV:VF f) (room:List Int) (s:Nat→Nat) (g h:Nat→Nat→Nat) (t:Nat→Nat) {d:Nat} (x:d<f.a6P.length) :
  gI (eE f room) (sF f s g h t) (aY f d)=(t d:Int)-fC (fun v=>if okD f v d=true then (h v d:Int) else 0) f.a6R.length:=by
 rw[mi];have u:∀ v i,v<f.a6R.length→i<f.a6S.length→bV f v i≠aY f d:=fun v i l hi e=>by have:=(iU hV l hi).2;unfold aY at this e;omega
 have y:fC (fun j=>jN (nP f room j) (t j) (aY f d)) f.a6P.length=(t d:Int):=by
  rw[← HF (fun j=>(t j:Int)) d x];refine fG fun j _=>?_;unfold jN nP aY;simp only;rw[if_neg (Om:¬ 1=2+f.a6R.length*f.a6S.length+d)];by_cases e:j=d
  ·rw[if_pos e,if_pos Om]; omega
  ·rw[if_neg e,if_neg Om]; rfl
 have A:fC (fun v=>gI (fI f v) (uL f s g h v) (aY f d)) f.a6R.length=fC (fun v=>- (if okD f v d=true then (h v d:Int) else 0)) f.a6R.length:=by
  refine fG fun v l=>?_;rw[ch];have a1:jN ⟨0,2+v,fE f v⟩ (s v) (aY f d)=0:=by have B:2+v≠aY f d:=u v 0 l hV.root.1;unfold jN;simp only;rw[if_neg (by unfold aY; omega),if_neg B]; rfl
  have a2:fC (fun k=>jN (kA f v k) (g v k) (aY f d)) (f.a6S.length-1)=0:=by rw[fG (h:=fun _=>0) fun k E=>?_,pB];have F:=(hV.dom (k+1) Om Om).2.1;unfold jN kA;simp only;rw[if_neg (u v _ l Om),if_neg (u v _ l Om)]; rfl
  have a3:fC (fun j=>if okD f v j=true then jN (eG f v j) (h v j) (aY f d) else 0) f.a6P.length=- (if okD f v d=true then (h v d:Int) else 0):=by
   have:=HF (fun j=>- (if okD f v j=true then (h v j:Int) else 0)) d x;rw[← this];refine fG fun j w=>?_;unfold jN eG;simp only;rw[if_neg (u v _ l (hV.drive j w).2.2.2.1)];by_cases e:j=d
   ·subst e;rw[if_pos rfl,if_pos rfl];split<;>omega
   ·rw[if_neg (show ¬ aY f j=aY f d by unfold aY; omega),if_neg e];split<;>rfl
  rw[a1,a2,a3]; omega
 rw[y,A,pw]; omega
theorem azM {f:aE} (h:VF f) {d:Nat} (e:d<f.a6P.length):mB f d 4=fF f d:=by
 unfold mB;rfl
theorem aQE {f:aE} (h:VF f) {d i:Nat} (l:d<f.a6P.length) (hi:i<f.a6S.length):one (inD f i d)=cX (fun k=>one (decide (jO f (k+1)=i)&&inD f (k+1) d)) (f.a6S.length-1)+one (decide (fF f d=i)):=by
 have N:=h.Gp hi;have I:=h.drive d l;by_cases c:lvl f i=4
 ·have j:cX (fun k=>one (decide (jO f (k+1)=i)&&inD f (k+1) d)) (f.a6S.length-1)=0:=by
   rw[fH (h:=fun _=>0) fun k A=>?_,rY];obtain⟨g1,g2,g3,g4,F⟩:=h.dom (k+1) Om Om;have:¬ jO f (k+1)=i:=fun e=>by rw[e] at g3; omega
   rw[decide_eq_false this,a8O]; rfl
  rw[j,a8R];unfold inD;rw[c,azM h l]
 ·have j:¬ fF f d=i:=fun e=>c (by rw[← e]; exact I.2.2.2.2);obtain⟨a1,a2⟩:=ri h l (lev:=lvl f i+1) Om Om;have M:0<mB f d (lvl f i+1):=by
   rcases baN (mB f d (lvl f i+1)) with e | e
   ·rw[e,h.root.2.1] at a2; omega
   ·exact e
  have J:jO f (mB f d (lvl f i+1))=mB f d (lvl f i):=by unfold mB;rw[show 4-(lvl f i).toNat=(4-(lvl f i+1).toNat)+1 by omega,upN]
  rw[decide_eq_false j,show one false=0 from rfl,a9P];have B:∀ k,k<f.a6S.length-1→one (decide (jO f (k+1)=i)&&inD f (k+1) d)=if k=mB f d (lvl f i+1)-1 then one (inD f i d) else 0:=by
   intro k A;obtain⟨g1,g2,g3,g4,F⟩:=h.dom (k+1) Om Om;by_cases e:k=mB f d (lvl f i+1)-1
   ·rw[if_pos e];have y:k+1=mB f d (lvl f i+1):=Om;have t:inD f (k+1) d=true:=by unfold inD;rw[y,a2,decide_eq_true_eq]
    rw[t,baI,y,J]; rfl
   ·rw[if_neg e];by_cases w:jO f (k+1)=i
    ·have:inD f (k+1) d=false:=by unfold inD;rw[decide_eq_false_iff_not];intro E;rw[w] at g3;rw[show lvl f (k+1)=lvl f i+1 by omega] at E;omega
     rw[this,a9Q]; rfl
    ·rw[decide_eq_false w,a8O]; rfl
  rw[fH B];have u:∀ (n a x:Nat),a<n→cX (fun k=>if k=a then x else 0) n=x:=by
   intro n
   induction n with
   | zero=>intro a x h; omega
   | succ n K =>
    intro a x h;rw[cX];by_cases e:n=a
    ·subst e;rw[fH (h:=fun _=>0) fun k A=>by rw[if_neg Om],rY,if_pos rfl]; omega
    ·rw[K a x Om,if_neg e]; rfl
  rw[u _ _ _ Om]
structure aSL (f:aE) (room:List Int) (s:Nat→Nat) (g h:Nat→Nat→Nat) (t:Nat→Nat):Prop where
 s:∀ v,v<f.a6R.length→s v≤fE f v
 g:∀ v k,v<f.a6R.length→k<f.a6S.length-1→g v k≤uX f v (k+1)
 h:∀ v d,v<f.a6R.length→d<f.a6P.length→okD f v d=true→h v d≤1
 t:∀ d,d<f.a6P.length→t d≤RX f room d
theorem WL {l m:List bN} {xs u:List Nat} (w:l.length=xs.length) (h:∀ (i:Nat) a x,(l++m)[i]?=some a→(xs++u)[i]?=some x→x≤a.cap) :
  (∀ (i:Nat) a x,l[i]?=some a→xs[i]?=some x→x≤a.cap)∧∀ (i:Nat) a x,m[i]?=some a→u[i]?=some x→x≤a.cap:=by
 constructor
 ·intro i a x e j;have y:=(a9F.1 e).1;exact h i a x (by rw[baB y]; exact e) (by rw[baB Om]; exact j)
 ·intro i a x e j;exact h (l.length+i) a x (by rw[baD Om,Nat.add_sub_cancel_left]; exact e) (by rw[baD Om,w,Nat.add_sub_cancel_left]; exact j)
theorem Vp {L:List Nat} {F:Nat→bN} {y:Nat→Nat} (h:∀ (i:Nat) a x,(L.map F)[i]?=some a→(L.map y)[i]?=some x→x≤a.cap):∀ k∈L,y k≤(F k).cap:=by
 intro k e;obtain⟨i,hi,rfl⟩:=bbJ e;exact h i _ _ (by rw[a8Y,a8L hi]; rfl) (by rw[a8Y,a8L hi]; rfl)
theorem aoO {F:Nat→List bN} {X:Nat→List Nat}:∀ {n:Nat},(∀ v,v<n→(F v).length=(X v).length)→(∀ (i:Nat) a x,((a8D n).flatMap F)[i]?=some a→((a8D n).flatMap X)[i]?=some x→x≤a.cap)→∀ v,v<n→∀ (i:Nat) a x,(F v)[i]?=some a→(X v)[i]?=some x→x≤a.cap
 | 0,_,_,v,l=>by omega
 | n+1,u,h,v,l=>by
  rw[baT,List.flatMap_append,List.flatMap_append] at h;have j:((a8D n).flatMap F).length=((a8D n).flatMap X).length:=by rw[List.length_flatMap,List.length_flatMap];congr 1;exact baM fun v l=>u v (by have:=a9B.1 l; omega)
  obtain⟨w,y⟩:=WL j h;by_cases e:v=n
  ·subst e;simpa using y
  ·exact aoO (fun v l=>u v Om) w v Om
theorem aPG {f:aE} {room:List Int} {s:Nat→Nat} {g h:Nat→Nat→Nat} {t:Nat→Nat} (l:∀ (i:Nat) a x,(eE f room)[i]?=some a→(sF f s g h t)[i]?=some x→x≤a.cap):aSL f room s g h t:=by
 unfold eE sF at l;have u:((a8D f.a6R.length).flatMap (fI f)).length=((a8D f.a6R.length).flatMap (uL f s g h)).length:=by rw[List.length_flatMap,List.length_flatMap];congr 1;exact baM fun v _=>AU f s g h v
 obtain⟨A,B⟩:=WL u l;have E:=aoO (fun v _=>AU f s g h v) A;have F:=Vp B;have each:∀ v,v<f.a6R.length→s v≤fE f v∧(∀ k,k<f.a6S.length-1→g v k≤uX f v (k+1))∧∀ d,d<f.a6P.length→okD f v d=true→h v d≤1:=by intro v e;have h5:=E v e;unfold fI uL at h5;refine⟨h5 0 _ _ rfl rfl,?_⟩;have I:∀ (i:Nat) a x,((a8D (f.a6S.length-1)).map (kA f v)++((a8D f.a6P.length).filter (okD f v)).map (eG f v))[i]?=some a→((a8D (f.a6S.length-1)).map (g v)++((a8D f.a6P.length).filter (okD f v)).map (h v))[i]?=some x→x≤a.cap:=fun i a x J M=>h5 (i+1) a x (by simpa using J) (by simpa using M);obtain⟨h7,h8⟩:=WL (by simp) I;exact⟨fun k w=>Vp h7 k (a9B.2 w),fun d j y=>Vp h8 d (bbS.2 ⟨a9B.2 j,y⟩)⟩
 exact⟨fun v e=>(each v e).1,fun v k e w=>(each v e).2.1 k w,fun v d e j K=>(each v e).2.2 d j K,fun d j=>F d (a9B.2 j)⟩
def nT (f:aE) (h:Nat→Nat→Nat) (v d:Nat):Bool:=okD f v d&&decide (h v d≠0)
theorem Q9 {f:aE} (hV:VF f) {room:List Int} {s:Nat→Nat} {g h:Nat→Nat→Nat} {t:Nat→Nat} (M:hZ (cJ f room) (sF f s g h t)) (y:(oO f:Int)≤jF (cJ f room) (sF f s g h t)):xZ f room (nT f h):=by
 have P:=aPG M.le;have I:∀ v,v<f.a6R.length→s v=fE f v:=by
  have u:jF (cJ f room) (sF f s g h t)=(cX s f.a6R.length:Nat):=aCN hV room s g h t;rw[u] at y;have B:oO f≤cX s f.a6R.length:=Om;clear y u;unfold oO at B;have F:=P.s;generalize f.a6R.length=n at *
  induction n with
  | zero=>intro v j; omega
  | succ n K =>
   rw[cX,cX] at B;have Y:=F n Om;have Z:cX s n≤cX (fE f) n:=AP fun v j=>F v Om;intro v j;by_cases e:v=n
   ·subst e; omega
   ·exact K Om (fun v j=>F v Om) v Om
 have nodes:∀ w,2≤w→w<aY f f.a6P.length→gI (eE f room) (sF f s g h t) w=0:=fun w u B=>M.node w B (by show w≠0; omega) (by show w≠1; omega);have x:∀ v d,v<f.a6R.length→d<f.a6P.length→one (nT f h v d)=if okD f v d=true then h v d else 0:=by
  intro v d j l;unfold nT;cases W:okD f v d with
  | false=>rfl
  | true =>
   have:=P.h v d j l W;simp only[a8U,if_true];by_cases e:h v d=0
   ·rw[e]; rfl
   ·rw[decide_eq_true e];have:h v d=1:=Om;rw[this]; rfl
 have below:∀ v,v<f.a6R.length→∀ (m i:Nat),f.a6S.length-i=m→i<f.a6S.length→(if i=0 then s v else g v (i-1))=gQ (fun d=>nT f h v d&&inD f i d) f.a6P.length:=by
  intro v j m
  induction m using Nat.strongRecOn with
  | ind m K =>
   intro i N hi;have A:=nodes (bV f v i) (iU hV j hi).1 (by have:=(iU hV j hi).2; unfold aY at this ⊢; omega);rw[aVD hV room s g h t j hi] at A;have E:fC (fun k=>if jO f (k+1)=i then (g v k:Int) else 0) (f.a6S.length-1)=(cX (fun k=>if jO f (k+1)=i then gQ (fun d=>nT f h v d&&inD f (k+1) d) f.a6P.length else 0) (f.a6S.length-1):Nat):=by
    rw[← HE];refine fG fun k V=>?_;by_cases c:jO f (k+1)=i
    ·have hp:=(hV.dom (k+1) Om Om).2.1;have:=K (f.a6S.length-(k+1)) Om (k+1) rfl Om;rw[if_neg Om,Nat.add_sub_cancel] at this;rw[if_pos c,if_pos c,this]
    ·rw[if_neg c,if_neg c]; rfl
   have S:fC (fun d=>if okD f v d=true∧fF f d=i then (h v d:Int) else 0) f.a6P.length=(cX (fun d=>one (nT f h v d)*one (decide (fF f d=i))) f.a6P.length:Nat):=by rw[← HE];refine fG fun d l=>?_;rw[x v d j l];by_cases O:okD f v d=true<;>by_cases R:fF f d=i<;>simp[O,R,BG,BF]
   have U:gQ (fun d=>nT f h v d&&inD f i d) f.a6P.length=cX (fun k=>if jO f (k+1)=i then gQ (fun d=>nT f h v d&&inD f (k+1) d) f.a6P.length else 0) (f.a6S.length-1)+cX (fun d=>one (nT f h v d)*one (decide (fF f d=i))) f.a6P.length:=by
    have a1:gQ (fun d=>nT f h v d&&inD f i d) f.a6P.length=cX (fun d=>cX (fun k=>one (nT f h v d)*one (decide (jO f (k+1)=i)&&inD f (k+1) d)) (f.a6S.length-1)+one (nT f h v d)*one (decide (fF f d=i))) f.a6P.length:=by unfold gQ;refine fH fun d l=>?_;rw[atD,aQE hV l hi,a8T,SI]
    rw[a1,AO,IV];congr 1;refine fH fun k V=>?_;by_cases c:jO f (k+1)=i
    ·rw[if_pos c,decide_eq_true c];unfold gQ;exact fH fun d _=>by rw[a8U]; exact (atD _ _).symm
    ·rw[if_neg c,decide_eq_false c,fH (h:=fun _=>0) fun d _=>by rw[a8O]; rfl,rY]
   rw[E,S] at A;rw[U];split<;>rename_i c
   ·rw[if_pos c] at A; omega
   ·rw[if_neg c] at A; omega
 have root:∀ d,d<f.a6P.length→inD f 0 d=true:=fun d l=>by
  unfold inD;rw[hV.root.2.1,decide_eq_true_eq];obtain⟨a,b⟩:=ri hV l (lev:=0) Om Om;rcases baN (mB f d 0) with e | e
  ·exact e
  ·have:=(hV.dom _ e a).2.2.2.1;omega
 refine⟨fun v j=>?_,fun v d j l J=>?_,fun v i j X hi N=>?_,fun d l=>?_⟩
 ·have:=below v j _ 0 rfl hV.root.1;rw[if_pos rfl,I v j] at this;rw[this];unfold gQ;exact fH fun d l=>by show one _=one (nT f h v d&&inD f 0 d); rw[root d l,baI]
 ·unfold nT at J;rw[a9A] at J;exact J.1
 ·have:=below v j _ i rfl hi;rw[if_neg Om] at this;rw[← this];have u:=P.g v (i-1) j Om;rw[show i-1+1=i by omega] at u;unfold uX at u;rw[if_neg N] at u;exact u
 ·have A:=nodes (aY f d) (by unfold aY; omega) (by unfold aY; omega);rw[aVE hV room s g h t l] at A;have E:fC (fun v=>if okD f v d=true then (h v d:Int) else 0) f.a6R.length=(gQ (fun v=>nT f h v d) f.a6R.length:Nat):=by unfold gQ;rw[← HE];refine fG fun v j=>?_;rw[x v d j l];split<;>rfl
  rw[E] at A;have:=P.t d l;omega
theorem cv {f:aE} {p:dX} {v:Nat} {row:List Int}:ZT f p v row=[]↔(∀ i,i<row.length→0≤row.getD i 0)∧(∀ d,d<f.a6P.length→row.count (d:Int)≤1)∧(∀ i,i<row.length→0≤row.getD i 0→p.a6Q.contains ((mdl f (row.getD i 0).toNat:Nat):Int)=true)∧∀ i,i<f.a6S.length→fW f p i>0→Bo f row i≤fW f p i:=by
 have e:∀ d,d<f.a6P.length→(Qf f.a6P.length row).getD d 0=(row.count (d:Int):Nat):=fun d h=>by simp[Qf,a8M,h]
 have j:∀ i,i<f.a6S.length→(aAF f row).getD i 0=Bo f row i:=fun i h=>by simp[aAF,a8M,h]
 unfold ZT;rw[List.append_eq_nil_iff,List.append_eq_nil_iff,List.append_eq_nil_iff,wE,wE,wE,wE,and_assoc,and_assoc];refine and_congr ?_ (and_congr ?_ (and_congr ?_ ?_))
 ·refine forall_congr' fun i=>forall_congr' fun hi=>?_;unfold home;rw[decide_eq_false_iff_not]; omega
 ·refine forall_congr' fun d=>forall_congr' fun l=>?_;unfold aSI;rw[e d l,decide_eq_false_iff_not]; omega
 ·refine forall_congr' fun i=>forall_congr' fun hi=>?_;unfold wm;by_cases c:0≤row.getD i 0<;>simp[c]
 ·refine forall_congr' fun i=>forall_congr' fun hi=>?_;unfold aRZ;rw[j i hi,Bool.and_eq_false_iff,decide_eq_false_iff_not,decide_eq_false_iff_not];omega
theorem afZ {f:aE} (j:dL f=true) {l:List (List Int)} (u:wM f l) (room:List Int):BV f l room=true↔(∀ v (h:v<l.length),ZT f (cO f v) v l[v]=[])∧∀ d,d<f.a6P.length→((l.flatten.count (d:Int):Nat):Int)≤pU f room d:=by
 rw[aGR j u.len];refine and_congr ?_ ?_
 ·unfold aAM;rw[List.flatMap_eq_nil_iff];constructor
  ·intro h v j;have:=h v (a9B.2 j);unfold aPC at this;rw[u.shape j] at this;have e:l.getD v []=l[v]:=by simp[a8M,j]
   rw[e] at this;exact this
  ·intro h v A;have j:=a9B.1 A;unfold aPC;rw[u.shape j];have e:l.getD v []=l[v]:=by simp[a8M,j]
   simp only;rw[e];exact h v j
 ·refine forall_congr' fun d=>forall_congr' fun w=>?_;have x:(V1 f l).getD d 0=(l.flatten.count (d:Int):Nat):=by simp[V1,Qf,a8M,w]
  have y:(mZ f room).getD d 0=pU f room d:=by simp[mZ,a8M,w]
  unfold over;rw[x,y,decide_eq_false_iff_not];omega
theorem count_flatten (d:Int):∀ l:List (List Int),l.flatten.count d=cX (fun v=>(l.getD v []).count d) l.length:=by
 intro l;obtain⟨r,rfl⟩:∃ r,l=List.reverse r:=⟨l.reverse,by simp⟩
 induction r with
 | nil=>rfl
 | cons x r j =>
  rw[List.reverse_cons,List.flatten_append,List.count_append,j,a8H,a8N,cX];congr 1
  ·refine fH fun v e=>?_;rw[a8M,a8M,baB e]
  ·rw[a8M,baD (a8J _)];simp
theorem YO {n:Nat} {row:List Int} (u:∀ x∈row,0≤x∧x<n) (J:∀ d:Nat,d<n→row.count (d:Int)≤1) (p:Int→Bool):row.countP p=gQ (fun d=>row.contains (d:Int)&&p d) n:=by
 have E:∀ m:Nat,row.countP (fun x=>decide (x<(m:Int))&&p x)=gQ (fun d=>row.contains (d:Int)&&p d) (min m n):=by
  intro m
  induction m with
  | zero =>rw[Nat.zero_min];show _=0;rw[List.countP_eq_zero];intro x l;have:=(u x l).1;simp only[a9A,decide_eq_true_eq];omega
  | succ m A =>
   by_cases c:m<n
   ·rw[baO Om] at A ⊢;have e:row.countP (fun x=>decide (x<((m+1:Nat):Int))&&p x)=row.countP (fun x=>decide (x<(m:Int))&&p x)+row.countP (fun x=>decide (x=(m:Int))&&p x):=by
     clear A J u
     induction row with
     | nil=>rfl
     | cons y t B =>
      rw[List.countP_cons,List.countP_cons,List.countP_cons,B];have:((if (decide (y<((m+1:Nat):Int))&&p y)=true then 1 else 0):Nat)=(if (decide (y<(m:Int))&&p y)=true then 1 else 0)+(if (decide (y=(m:Int))&&p y)=true then 1 else 0):=by
       cases p y with
       | false=>simp
       | true =>
        simp only[baI,decide_eq_true_eq];by_cases F:y<(m:Int)
        ·rw[if_pos F,if_pos Om,if_neg Om]
        ·rw[if_neg F];by_cases I:y=(m:Int)
         ·rw[if_pos I,if_pos Om]
         ·rw[if_neg I,if_neg Om]
      omega
    rw[e,A,gQ,gQ,cX];congr 1;have K:=J m c;by_cases j:p m=true
    ·have:row.countP (fun x=>decide (x=(m:Int))&&p x)=row.count (m:Int):=by unfold List.count;refine List.countP_congr fun x _=>?_;simp only[a9A,decide_eq_true_eq,beq_iff_eq];exact⟨fun h=>h.1,fun h=>⟨h,by rw[h]; exact j⟩⟩
     rw[this,j,baI];by_cases w:(m:Int)∈row
     ·have M:=List.count_pos_iff.2 w;have h5:row.contains (m:Int)=true:=by simpa using w
      rw[h5,BG]; omega
     ·have h5:row.contains (m:Int)=false:=by simpa using w
      rw[h5,BF,List.count_eq_zero_of_not_mem w]
    ·have j:p m=false:=by simpa using j
     rw[j,a9Q,BF,List.countP_eq_zero];intro x l;simp only[a9A,decide_eq_true_eq];rintro⟨rfl,h⟩;rw[j] at h; cases h
   ·have e:row.countP (fun x=>decide (x<((m+1:Nat):Int))&&p x)=row.countP (fun x=>decide (x<(m:Int))&&p x):=by refine List.countP_congr fun x l=>?_;have:=u x l;simp only[a9A,decide_eq_true_eq];exact⟨fun h=>⟨by omega,h.2⟩,fun h=>⟨by omega,h.2⟩⟩
    rw[e,A,Nat.min_eq_right Om,Nat.min_eq_right Om]
 have:=E n;rw[Nat.min_self] at this;rw[← this];refine List.countP_congr fun x l=>?_;have:=u x l;simp only[a9A,decide_eq_true_eq];exact⟨fun h=>⟨by omega,h⟩,fun h=>h.2⟩
theorem Ge (f:aE) (i d:Nat):PG f i (d:Int)=inD f i d:=by
 unfold PG inD;rw[decide_eq_true (Om:(0:Int)≤(d:Int)),a8U,bbI]
def iy (l:List (List Int)) (v d:Nat):Bool:=(l.getD v []).contains (d:Int)
theorem aUK {f:aE} (V:dL f=true) {l:List (List Int)} (I:wM f l) {room:List Int} (h:BV f l room=true):xZ f room (iy l):=by
 have hV:=VF.of V;obtain⟨y,A⟩:=(afZ V I room).1 h;have O:∀ v,v<f.a6R.length→∃ row,l.getD v []=row∧(∀ x∈row,0≤x∧x<(f.a6P.length:Nat))∧(∀ d:Nat,d<f.a6P.length→row.count (d:Int)≤1)∧ZT f (cO f v) v row=[]∧(row.length:Int)=pV f v:=by
  intro v j;have u:v<l.length:=by rw[I.len]; exact j
  have e:l.getD v []=l[v]:=by simp[a8M,u]
  obtain⟨a1,a2,-,-⟩:=cv.1 (y v u);refine⟨l[v],e,fun x W=>?_,a2,y v u,I.row v u⟩;obtain⟨i,hi,rfl⟩:=bbJ W;have:=a1 i hi;have g:l[v].getD i 0=l[v][i]:=by simp[a8M,hi]
  rw[g] at this;exact⟨this,(I.home _ (a8G u) _ W).2⟩
 refine⟨fun v j=>?_,fun v d j N R=>?_,fun v i j h0 hi U=>?_,fun d N=>?_⟩
 ·obtain⟨row,e,E,B,F,J⟩:=O v j;have:=YO E B fun _=>true;rw[List.countP_true] at this;unfold iy fE;rw[← J,bbI,this,e];unfold gQ;exact fH fun d _=>by dsimp only; rw[baI]
 ·obtain⟨row,e,E,B,F,J⟩:=O v j;obtain⟨-,-,a3,-⟩:=cv.1 F;unfold iy at R;rw[e] at R;have U:(d:Int)∈row:=by simpa using R
  obtain⟨i,hi,he⟩:=bbJ U;have g:row.getD i 0=(d:Int):=by simp[a8M,hi,he]
  have:=a3 i hi (by rw[g]; omega);rw[g] at this;exact this
 ·obtain⟨row,e,E,B,F,J⟩:=O v j;obtain⟨-,-,-,a4⟩:=cv.1 F;obtain⟨hp,he⟩:=qZ hV j;have w:=hV.a7C _ (a8G hp);rw[he] at w;have Z:0≤fW f (cO f v) i:=(w.2.2.2.2.2.2.1 _).1;have K:=a4 i hi Om;have h5:=YO E B (PG f i);unfold Bo at K;rw[if_neg Om,h5] at K;have Y:gQ (fun d=>row.contains (d:Int)&&PG f i d) f.a6P.length=gQ (fun d=>iy l v d&&inD f i d) f.a6P.length:=by unfold gQ iy;rw[e];exact fH fun d _=>by dsimp only; rw[Ge]
  rw[Y] at K;omega
 ·have S:=A d N;rw[count_flatten,I.len] at S;have X:cX (fun v=>(l.getD v []).count (d:Int)) f.a6R.length=gQ (fun v=>iy l v d) f.a6R.length:=by
   unfold gQ iy;refine fH fun v j=>?_;obtain⟨row,e,E,B,F,J⟩:=O v j;dsimp only;rw[e];by_cases M:(d:Int)∈row
   ·have K:=List.count_pos_iff.2 M;have h5:row.contains (d:Int)=true:=by simpa using M
    have:=B d N;rw[h5,BG]; omega
   ·have h5:row.contains (d:Int)=false:=by simpa using M
    rw[h5,BF,List.count_eq_zero_of_not_mem M]
  rw[X] at S;have:=zF hV room N;omega
def rP (f:aE) (u:Nat→Nat→Bool) (v:Nat):List Int:=X1 ((a8D f.a6P.length).filter (u v))
def wX (f:aE) (u:Nat→Nat→Bool):List (List Int):=(a8D f.a6R.length).map (rP f u)
theorem abV (f:aE) (u:Nat→Nat→Bool) (v:Nat) {d:Nat} (j:d<f.a6P.length):(rP f u v).contains (d:Int)=u v d:=by
 refine Bool.eq_iff_iff.2 ?_;simp only[bcA];unfold rP X1;rw[a9G];constructor
 ·rintro⟨e,he,h⟩;have:e=d:=Om;subst this;exact (bbS.1 he).2
 ·intro h;exact⟨d,bbS.2 ⟨a9B.2 j,h⟩,rfl⟩
theorem cq (f:aE) (u:Nat→Nat→Bool) (v:Nat):(∀ x∈rP f u v,0≤x∧x<(f.a6P.length:Nat))∧(rP f u v).Nodup∧(rP f u v).length=gQ (u v) f.a6P.length:=by
 refine⟨fun x l=>?_,?_,?_⟩
 ·obtain⟨d,j,rfl⟩:=a9G.1 l;have:=a9B.1 (bbS.1 j).1;omega
 ·exact List.Pairwise.map _ (fun a b h e=>h Om) (List.nodup_range.filter (u v))
 ·unfold rP X1;rw[a8E,r9,List.countP_eq_length_filter]
theorem aSP {f:aE} (O:dL f=true) {room:List Int} {u:Nat→Nat→Bool} (A:xZ f room u):wM f (wX f u)∧BV f (wX f u) room=true:=by
 have hV:=VF.of O;have y:(wX f u).length=f.a6R.length:=by unfold wX; rw[a8E,baJ]
 have J:∀ v (h:v<(wX f u).length),(wX f u)[v]=rP f u v:=fun v h=>(bbF _).trans (by rw[List.getElem_range]);have N:wM f (wX f u):=by
  refine⟨y,fun v h=>?_,fun r W x I=>?_⟩
  ·have j:v<f.a6R.length:=by rw[← y]; exact h
   rw[J v h,(cq f u v).2.2,A.num v j,(mO hV j).2.2.1]
  ·obtain⟨v,-,rfl⟩:=a9G.1 W;have:=(cq f u v).1 x I;omega
 refine⟨N,(afZ O N room).2 ⟨fun v h=>?_,fun d l=>?_⟩⟩
 ·have j:v<f.a6R.length:=by rw[← y]; exact h
  rw[J v h];obtain⟨B,E,S⟩:=cq f u v;have K:∀ i (h:i<(rP f u v).length),(rP f u v).getD i 0=(rP f u v)[i]:=fun i h=>by simp[a8M,h]
  refine cv.2 ⟨fun i hi=>?_,fun d l=>List.nodup_iff_count.1 E _,fun i hi X=>?_,fun i hi Z=>?_⟩
  ·rw[K i hi];exact (B _ (a8G hi)).1
  ·rw[K i hi];have I:=a8G hi;have hb:=B _ I;obtain⟨d,l,he⟩:=a9G.1 I;have w:=bbS.1 l;have:=A.ok v d j (a9B.1 w.1) w.2;rw[← he];exact this
  ·by_cases R:i=0
   ·unfold Bo;rw[if_pos R]; omega
   ·unfold Bo;rw[if_neg R,YO B (fun d _=>List.nodup_iff_count.1 E _) (PG f i)];have h5:=A.bound v i j Om hi Om;have V:gQ (fun d=>(rP f u v).contains (d:Int)&&PG f i d) f.a6P.length=gQ (fun d=>u v d&&inD f i d) f.a6P.length:=by unfold gQ;exact fH fun d l=>by dsimp only; rw[abV f u v l,Ge]
    rw[V];omega
 ·rw[count_flatten,y];have U:cX (fun v=>((wX f u).getD v []).count (d:Int)) f.a6R.length=gQ (fun v=>u v d) f.a6R.length:=by
   unfold gQ;refine fH fun v j=>?_;have e:(wX f u).getD v []=rP f u v:=by rw[a8M,a8L (by rw[y]; exact j),baW,J]
   dsimp only;rw[e];obtain⟨B,E,S⟩:=cq f u v;have M:=abV f u v l;by_cases F:(d:Int)∈rP f u v
   ·have Y:=List.count_pos_iff.2 F;have h5:(rP f u v).contains (d:Int)=true:=by simpa using F
    have:=List.nodup_iff_count.1 E (d:Int);rw[← M,h5,BG]; omega
   ·have h5:(rP f u v).contains (d:Int)=false:=by simpa using F
    rw[← M,h5,BF,List.count_eq_zero_of_not_mem F]
  rw[U];have h7:=A.room d l;have:=zF hV room l;omega
def CL (f:aE) (room:List Int):Prop:=∃ u,xZ f room u
theorem aMJ {f:aE} (e:dL f=true) {room:List Int}:CL f room↔∃ l,wM f l∧BV f l room=true :=
 ⟨fun ⟨_,A⟩=>⟨_,aSP e A⟩,fun ⟨_,j,h⟩=>⟨_,aUK e j h⟩⟩
theorem Ex {f:aE} (hV:VF f) {room:List Int} {xs:List Nat} (e:hZ (cJ f room) xs) {S:Nat→Bool} (j:S 0=true) (l:S 1=false) (x:jF (cJ f room) xs=dQ S (eE f room)):(oO f:Int)≤jF (cJ f room) xs↔CL f room:=by
 constructor
 ·intro h;obtain⟨s,g,w,t,rfl⟩:=sg f room e.len;exact⟨_,Q9 hV e h⟩
 ·rintro⟨u,A⟩;have:=A.cut hV S j l;omega
theorem aDQ {f:aE} (hV:VF f) (room:List Int):dQ (fun w=>decide (w=0)) (eE f room)=oO f:=by
 unfold eE;rw[oV,VK,GB];have l:cX (fun k=>kC (fun w=>decide (w=0)) (nP f room k)) f.a6P.length=0:=by rw[fH (h:=fun _=>0) fun d e=>?_,rY];unfold kC nP aY;simp
 rw[l,a9P];refine fH fun v j=>?_;unfold fI;rw[dQ,oV,GB,JG];have u:cX (fun k=>kC (fun w=>decide (w=0)) (kA f v k)) (f.a6S.length-1)=0:=by rw[fH (h:=fun _=>0) fun k A=>?_,rY];have y:=(iU hV j (i:=jO f (k+1)) (by have:=(hV.dom (k+1) Om Om).2.1; omega)).1;unfold kC kA;simp only;rw[if_neg fun h=>by have:=of_decide_eq_true h.1; omega]
 have x:cX (fun d=>if okD f v d=true then kC (fun w=>decide (w=0)) (eG f v d) else 0) f.a6P.length=0:=by
  rw[fH (h:=fun _=>0) fun d e=>?_,rY];have y:=(iU hV j (i:=fF f d) (hV.drive d e).2.2.2.1).1;have z:kC (fun w=>decide (w=0)) (eG f v d)=0:=by unfold kC eG;simp only;rw[if_neg fun h=>by have:=of_decide_eq_true h.1; omega]
  rw[z];split<;>rfl
 rw[u,x];simp
theorem aKT {f:aE} (hV:VF f) {room:List Int} {xs:List Nat} (e:hZ (cJ f room) xs):jF (cJ f room) xs≤oO f:=by
 have:=e.aGV (wB hV room) (S:=fun w=>decide (w=0)) rfl rfl;rw[show dQ (fun w=>decide (w=0)) (cJ f room).arcs=oO f from aDQ hV room] at this;exact this

def EO (f:aE) (a:bN):Nat:=(a.src-2-f.a6R.length)/(f.a6S.length-1)
def YF (f:aE) (v:Nat) (a:bN) (x:Nat):Bool:=decide (aY f 0≤a.dst)&&(decide (x≠0)&&decide (EO f a=v))
def zC (f:aE) (v:Nat) (a:bN) (x:Nat):List Int:=if YF f v a x=true then [((a.dst-aY f 0:Nat):Int)] else []
def nA (f:aE) (v:Nat):List bN→List Nat→List Int
 | a::l,x::xs=>zC f v a x++nA f v l xs
 | _,_=>[]
def CP (f:aE) (l:List bN) (xs:List Nat):List (List Int):=(a8D f.a6R.length).map fun v=>nA f v l xs
theorem uF (f:aE) (v:Nat):∀ {u:List bN} {w:List Nat} (e:List bN) (j:List Nat),u.length=w.length→nA f v (u++e) (w++j)=nA f v u w++nA f v e j
 | [],[],e,j,_=>rfl
 | a::l,x::xs,e,j,h=>by rw[bbR,bbR,nA,nA,uF f v e j (by simpa using h),a9L]
theorem IS {α:Type} (f:aE) (v:Nat) (a:α→bN) (x:α→Nat):∀ (L:List α),nA f v (L.map a) (L.map x)=L.flatMap fun k=>zC f v (a k) (x k)
 | []=>rfl
 | k::L=>by rw[a9T,a9T,nA,IS f v a x L,List.flatMap_cons]
theorem flatMap_nil {α β:Type} {g:α→List β}:∀ {L:List α},(∀ k∈L,g k=[])→L.flatMap g=[]
 | [],_=>rfl
 | k::L,h=>by rw[List.flatMap_cons,h k (by simp),flatMap_nil fun j e=>h j (by simp[e])]; rfl
theorem df {β:Type} {R:List β} {v:Nat}:∀ {n:Nat},v<n→((a8D n).flatMap fun k=>if k=v then R else [])=R
 | 0,h=>by omega
 | n+1,h=>by
  rw[baT,List.flatMap_append];by_cases e:v=n
  ·subst e;rw[flatMap_nil fun k j=>if_neg (by have:=a9B.1 j; omega)];simp
  ·rw[df (n:=n) Om];simp[show n≠v by omega]
theorem m9 {f:aE} {v:Nat} {a:bN} {x:Nat} (h:a.dst<aY f 0):zC f v a x=[]:=by
 unfold zC YF;rw[decide_eq_false Om,a8O]; rfl
theorem zb {f:aE} (h:VF f) {v d:Nat} (j:d<f.a6P.length):EO f (eG f v d)=v:=by
 have w:=(h.drive d j).2.2.2;have x:=w.2;have y:=h.root;have l:fF f d≠0:=fun e=>by have u:=(h.drive d j).2.2.2.2;rw[e] at u;have:=y.2.1;omega
 have hlt:fF f d<f.a6S.length:=by have:=(h.drive d j).2.2;omega
 unfold EO eG bV;simp only;rw[if_neg l,show 2+f.a6R.length+v*(f.a6S.length-1)+fF f d-1-2-f.a6R.length=(fF f d-1)+v*(f.a6S.length-1) by omega,Nat.add_mul_div_right _ _ Om,bbL Om,a8R]
theorem aVZ {f:aE} (h:VF f) (s:Nat→Nat) (g l:Nat→Nat→Nat) {v w:Nat} (A:w<f.a6R.length):nA f v (fI f w) (uL f s g l w)=if w=v then rP f (nT f l) v else []:=by
 unfold fI uL;rw[nA,m9 (by have:=iU h A h.root.1; simp only[bV,if_true] at this; exact this.2),bbK,uF _ _ _ _ (by simp),IS,IS];rw[flatMap_nil fun k B=>m9 (by have:=a9B.1 B; exact (iU (i:=k+1) h A Om).2),bbK];by_cases e:w=v
 ·subst e;rw[if_pos rfl];unfold rP X1;have:∀ L:List Nat,(∀ d∈L,d<f.a6P.length)→((L.filter (okD f w)).flatMap fun d=>zC f w (eG f w d) (l w d))=(L.filter (nT f l w)).map (fun d:Nat=>(d:Int)):=by
   intro L
   induction L with
   | nil=>intro _; rfl
   | cons d L u =>
    intro x;have j:=x d (by simp);have u:=u fun d j=>x d (by simp[j]);rw[List.filter_cons,List.filter_cons];cases y:okD f w d with
    | false=>rw[show nT f l w d=false by unfold nT; rw[y]; rfl]; exact u
    | true =>
     have E:YF f w (eG f w d) (l w d)=nT f l w d:=by unfold YF nT;rw[zb h j,y,decide_eq_true rfl,baI,decide_eq_true (show aY f 0≤(eG f w d).dst by show aY f 0≤aY f d; unfold aY; omega)]
     rw[if_pos rfl,List.flatMap_cons,u];unfold zC;rw[E];cases nT f l w d with
     | false=>rfl
     | true =>rw[if_pos rfl,if_pos rfl,a9T,show (eG f w d).dst-aY f 0=d by show aY f d-aY f 0=d; unfold aY; omega]; rfl
  exact this _ fun d j=>a9B.1 j
 ·rw[if_neg e];refine flatMap_nil fun d j=>?_;have j:=a9B.1 (bbS.1 j).1;unfold zC YF;rw[zb h j,decide_eq_false e,a9Q,a9Q]; rfl
theorem aNN {f:aE} (h:VF f) (room:List Int) (s:Nat→Nat) (g e:Nat→Nat→Nat) (t:Nat→Nat):CP f (eE f room) (sF f s g e t)=wX f (nT f e):=by
 unfold CP wX;refine baM fun v j=>?_;have j:=a9B.1 j;have u:∀ L:List Nat,(∀ w∈L,w<f.a6R.length)→(L.flatMap (fI f)).length=(L.flatMap (uL f s g e)).length∧nA f v (L.flatMap (fI f)) (L.flatMap (uL f s g e))=L.flatMap fun w=>if w=v then rP f (nT f e) v else []:=by
  intro L
  induction L with
  | nil=>intro _; exact⟨rfl,rfl⟩
  | cons w L B =>
   intro x;obtain⟨y,A⟩:=B fun w l=>x w (by simp[l]);refine⟨?_,?_⟩
   ·rw[List.flatMap_cons,List.flatMap_cons,a8H,a8H,y,AU f s g e w]
   ·rw[List.flatMap_cons,List.flatMap_cons,List.flatMap_cons,uF _ _ _ _ (AU f s g e w),A,aVZ h s g e (x w (by simp))]
 obtain⟨k1,k2⟩:=u (a8D f.a6R.length) fun w l=>a9B.1 l;unfold eE sF;rw[uF _ _ _ _ k1,k2,df j,IS,flatMap_nil,a9W];intro d _;exact m9 (by show 1<aY f 0; unfold aY; omega)
structure eO where
 vols:List Bool
 a6Z:List (List Bool)
 a7J:List Bool
def eO.shape (f:aE) (c:eO):Bool:=decide (c.vols.length=f.a6R.length)&&(decide (c.a6Z.length=f.a6R.length)&&(decide (c.a7J.length=f.a6P.length)&&c.a6Z.all fun r=>decide (r.length=f.a6S.length-1)))
def rK (c:eO):List Bool:=true::false::(c.vols++(c.a6Z.flatten++c.a7J))
def vQ (c:eO) (w:Nat):Bool:=(rK c).getD w false
def tV (f:aE) (room:List Int) (c:eO):Bool:=c.shape f&&decide (dQ (vQ c) (eE f room)<oO f)
def AX (f:aE) (S:Nat→Bool):eO:=⟨(a8D f.a6R.length).map fun v=>S (bV f v 0),(a8D f.a6R.length).map fun v=>(a8D (f.a6S.length-1)).map fun i=>S (bV f v (i+1)),(a8D f.a6P.length).map fun d=>S (aY f d)⟩
structure Shape (f:aE) (c:eO):Prop where
 v:c.vols.length=f.a6R.length
 i:c.a6Z.length=f.a6R.length
 d:c.a7J.length=f.a6P.length
 r:∀ r∈c.a6Z,r.length=f.a6S.length-1
theorem CE {f:aE} {c:eO}:c.shape f=true↔Shape f c:=by
 unfold eO.shape;simp only[a9A,decide_eq_true_eq,a9I];exact⟨fun ⟨a,b,d,e⟩=>⟨a,b,d,e⟩,fun ⟨a,b,d,e⟩=>⟨a,b,d,e⟩⟩
theorem BS {α:Type} {n:Nat}:∀ {l:List (List α)},(∀ r∈l,r.length=n)→l.flatten.length=l.length*n
 | [],_=>by simp
 | r::l,h=>by rw[List.flatten_cons,a8H,h r (by simp),BS fun r e=>h r (by simp[e]),a9Y,baL];omega
theorem E0 {α:Type} {z:α} {n:Nat}:∀ {l:List (List α)} {v i:Nat},(∀ r∈l,r.length=n)→v<l.length→i<n→l.flatten.getD (v*n+i) z=(l.getD v []).getD i z
 | [],v,i,_,e,_=>by simp at e
 | r::l,0,i,h,_,hi=>by have:=h r (by simp);rw[List.flatten_cons,a8M,baB Om,Nat.zero_mul,a8R,← a8M]; rfl
 | r::l,v+1,i,h,e,hi=>by have u:=h r (by simp);rw[List.flatten_cons,a8M,baD (by rw[baL]; omega),show (v+1)*n+i-r.length=v*n+i by rw[baL]; omega,← a8M,E0 (fun r j=>h r (by simp[j])) (by simpa using e) hi]; rfl
theorem aSX (c:eO):vQ c 0=true:=rfl
theorem aSW (c:eO):vQ c 1=false:=rfl
theorem ajX {f:aE} {c:eO} (h:Shape f c) {v:Nat} (e:v<f.a6R.length):vQ c (bV f v 0)=c.vols.getD v false:=by
 show (rK c).getD (2+v) false=_;rw[show 2+v=v+1+1 by omega];show (c.vols++(c.a6Z.flatten++c.a7J)).getD v false=_;rw[a8M,baB (by rw[h.v]; exact e),← a8M]
theorem ajV {f:aE} {c:eO} (h:Shape f c) {v i:Nat} (e:v<f.a6R.length) (hi:i<f.a6S.length-1):vQ c (bV f v (i+1))=(c.a6Z.getD v []).getD i false:=by
 show (rK c).getD (bV f v (i+1)) false=_;unfold bV;rw[if_neg Om,show 2+f.a6R.length+v*(f.a6S.length-1)+(i+1)-1=(f.a6R.length+(v*(f.a6S.length-1)+i))+1+1 by omega];show (c.vols++(c.a6Z.flatten++c.a7J)).getD _ false=_;have j:=BS h.r;rw[h.i] at j;have hb:(v+1)*(f.a6S.length-1)≤f.a6R.length*(f.a6S.length-1):=a9H _ e;rw[baL] at hb;rw[a8M,baD (by rw[h.v]; omega),h.v,Nat.add_sub_cancel_left,baB Om,← a8M];exact E0 h.r (by rw[h.i]; exact e) hi
theorem ajW {f:aE} (hV:VF f) {c:eO} (h:Shape f c) {d:Nat}:vQ c (aY f d)=c.a7J.getD d false:=by
 show (rK c).getD (aY f d) false=_;have l:=hV.root.1;have j:f.a6R.length*f.a6S.length=f.a6R.length*(f.a6S.length-1)+f.a6R.length:=by
  conv=>lhs; rw[show f.a6S.length=(f.a6S.length-1)+1 by omega,Nat.mul_succ]
 unfold aY;rw[show 2+f.a6R.length*f.a6S.length+d=(f.a6R.length+(f.a6R.length*(f.a6S.length-1)+d))+1+1 by omega];show (c.vols++(c.a6Z.flatten++c.a7J)).getD _ false=_;have e:=BS h.r;rw[h.i] at e;rw[a8M,baD (by rw[h.v]; omega),h.v,Nat.add_sub_cancel_left,baD Om,e,Nat.add_sub_cancel_left,← a8M]
theorem aLY {f:aE} (hV:VF f) {c:eO} (h:Shape f c):(rK c).length=aY f f.a6P.length:=by
 have j:=hV.root.1;have e:f.a6R.length*f.a6S.length=f.a6R.length*(f.a6S.length-1)+f.a6R.length:=by
  conv=>lhs; rw[show f.a6S.length=(f.a6S.length-1)+1 by omega,Nat.mul_succ]
 unfold rK aY;rw[a9Y,a9Y,a8H,a8H,BS h.r,h.v,h.i,h.d];omega
theorem acM (f:aE) (S:Nat→Bool):Shape f (AX f S):=by
 refine⟨by simp[AX],by simp[AX],by simp[AX],fun r e=>?_⟩;obtain⟨v,-,rfl⟩:=a9G.1 e;simp
theorem ru {S T:Nat→Bool}:∀ {l:List bN},(∀ a∈l,S a.src=T a.src∧S a.dst=T a.dst)→dQ S l=dQ T l
 | [],_=>rfl
 | a::l,h=>by rw[dQ,dQ,(h a (by simp)).1,(h a (by simp)).2,ru fun b hb=>h b (by simp[hb])]
theorem Qe {f:aE} (hV:VF f) (room:List Int) {S T:Nat→Bool} (x:S 0=T 0) (y:S 1=T 1) (u:∀ v i,v<f.a6R.length→i<f.a6S.length→S (bV f v i)=T (bV f v i)) (w:∀ d,d<f.a6P.length→S (aY f d)=T (aY f d)):dQ S (eE f room)=dQ T (eE f room):=by
 have j:=hV.root.1;refine ru fun a ha=>?_;rcases a9N.1 ha with ha | ha
 ·obtain⟨v,l,ha⟩:=List.mem_flatMap.1 ha;have l:=a9B.1 l;rcases a8S.1 ha with rfl | ha
  ·exact⟨x,u v 0 l j⟩
  rcases a9N.1 ha with ha | ha
  ·obtain⟨k,e,rfl⟩:=a9G.1 ha;have e:=a9B.1 e;exact⟨u v _ l (by have:=(hV.dom (k+1) Om Om).2.1; omega),u v (k+1) l Om⟩
  ·obtain⟨d,e,rfl⟩:=a9G.1 ha;have e:=a9B.1 (bbS.1 e).1;exact⟨u v _ l (by have:=(hV.drive d e).2.2; omega),w d e⟩
 ·obtain⟨d,e,rfl⟩:=a9G.1 ha;exact⟨w d (a9B.1 e),y⟩
theorem aXY {f:aE} (hV:VF f) (room:List Int) {S:Nat→Bool} (l:S 0=true) (u:S 1=false):dQ (vQ (AX f S)) (eE f room)=dQ S (eE f room):=by
 have j:=acM f S;refine Qe hV room (by rw[l]; rfl) (by rw[u]; rfl) (fun v i e hi=>?_) fun d w=>?_
 ·cases i with
  | zero=>rw[ajX j e]; simp[AX,e]
  | succ i =>rw[ajV j e Om];have:i<f.a6S.length-1:=Om;simp[AX,e,this]
 ·rw[ajW hV j]; simp[AX,w]
theorem check_sound {f:aE} (hV:VF f) {room:List Int} {c:eO} (h:tV f room c=true):¬ CL f room:=by
 rintro⟨u,A⟩;unfold tV at h;rw[a9A,decide_eq_true_eq] at h;have:=A.cut hV (vQ c) (aSX c) (aSW c);omega
theorem Nh {f:aE} (hV:VF f) {room:List Int} {xs:List Nat} (l:hZ (cJ f room) xs) {S:Nat→Bool} (e:S 0=true) (j:S 1=false) (u:jF (cJ f room) xs=dQ S (eE f room)) (w:¬ CL f room):tV f room (AX f S)=true:=by
 have h:=mt (Ex hV l e j u).1 w;unfold tV;rw[CE.2 (acM f S),aXY hV room e j,a8U,decide_eq_true_eq];omega

abbrev wK (f:aE):List PV:=[.int .i64 (f.a6R.length:Nat),.int .i64 (f.a6S.length:Nat)]
theorem aVJ {C:Ctx} (f:aE) (v:Nat) (j:v≤100):XW.wp C (aT aPA.res (aI (.int .i64 ((2+v:Nat):Int)))) (PF.args [.agg (wK f),.int .i64 (v:Nat)]) .nil:=by
 have e:IntKind.i64.wrap (2+(v:Int))=((2+v:Nat):Int):=by rw[wrap_i64 Om Om]; omega
 simp only[go_sem,XW,asQ,asR,aPA,e];refine aR (.inr rfl) rfl ?_;rfl
theorem aqH {a b:Nat} (j:a≤100) (hb:b≤100):IntKind.i64.wrap ((a:Int)*(b:Int))=((a*b:Nat):Int)∧a*b≤10000:=by
 have e:a*b≤100*100:=bbT j hb;rw[← Int.natCast_mul,wrap_i64 Om Om];exact⟨rfl,e⟩
theorem Y1 {f:aE} (u:Small f) {v i:Nat} (w:v≤100) (hi:i≤100) (e:i≠0) (y:0<f.a6S.length) :
  IntKind.i64.wrap (IntKind.i64.wrap (IntKind.i64.wrap (IntKind.i64.wrap (2+(f.a6R.length:Int))+IntKind.i64.wrap ((v:Int)*IntKind.i64.wrap ((f.a6S.length:Int)-1)))+(i:Int))-1)=((bV f v i:Nat):Int):=by
 obtain⟨s1,s2,s3,s4,A,B⟩:=u;rw[wrap_i64 (n:=(f.a6S.length:Int)-1) Om Om,show (f.a6S.length:Int)-1=((f.a6S.length-1:Nat):Int) by omega];obtain⟨j,x⟩:=aqH (a:=v) (b:=f.a6S.length-1) w Om;rw[j];have l:bV f v i=2+f.a6R.length+v*(f.a6S.length-1)+i-1:=by unfold bV; rw[if_neg e]
 rw[l];generalize v*(f.a6S.length-1)=z at *
 rw[wrap_i64 (n:=2+(f.a6R.length:Int)) Om Om,wrap_i64 (n:=2+(f.a6R.length:Int)+(z:Int)) Om Om,wrap_i64 (n:=2+(f.a6R.length:Int)+(z:Int)+(i:Int)) Om Om,wrap_i64 Om Om];omega
theorem akC {f:aE} (j:Small f) {d:Nat} (u:d≤100) :
  IntKind.i64.wrap (IntKind.i64.wrap (2+IntKind.i64.wrap ((f.a6R.length:Int)*(f.a6S.length:Int)))+(d:Int))=((aY f d:Nat):Int):=by
 obtain⟨s1,s2,s3,s4,w,x⟩:=j;obtain⟨e,l⟩:=aqH (a:=f.a6R.length) (b:=f.a6S.length) Om Om;rw[e];unfold aY;generalize f.a6R.length*f.a6S.length=z at *
 rw[wrap_i64 (n:=2+(z:Int)) Om Om,wrap_i64 Om Om];omega
theorem aFS (f:aE) (v:Nat):bV f v 0=2+v:=rfl
theorem aVB {C:Ctx} (u:∀ (f:aE) (v:Nat),v≤100→aH C 282 [.agg (wK f),.int .i64 (v:Nat)] .nil (aI (.int .i64 ((2+v:Nat):Int)))) (f:aE) (x:Small f) (w:0<f.a6S.length) (v i:Nat) (l:v≤100) (hi:i≤100) :
  IK.wp C (aT aCL.res (aI (.int .i64 ((bV f v i:Nat):Int)))) (PF.args [.agg (wK f),.int .i64 (v:Nat),.int .i64 (i:Nat)]) .nil:=by
 by_cases j:i=0
 ·subst j;simp only[go_sem,IK,Cu,Cv,aCL,arK,Int.natCast_zero,bP (show ((0:Nat):Int)=0 from rfl)];refine aB (u f v l) rfl ?_;simp only[go_sem];refine aR (.inr rfl) rfl ?_;rfl
 ·have e:=Y1 x l hi j w;simp only[go_sem,IK,Cu,Cv,aCL,bD (Om:¬ ((i:Nat):Int)=0),arL,e];refine aR (.inr rfl) rfl ?_;rfl
theorem aVC {C:Ctx} (f:aE) (l:Small f) (d:Nat) (j:d≤100):XD.wp C (aT aOP.res (aI (.int .i64 ((aY f d:Nat):Int)))) (PF.args [.agg (wK f),.int .i64 (d:Nat)]) .nil:=by
 have e:=akC l j;simp only[go_sem,XD,arN,arO,aOP,e];refine aR (.inr rfl) rfl ?_;rfl
theorem aPO {C:Ctx} (f:aE) (u:Small f) (l:0<f.a6S.length) (v i:Nat) (w:v≤100) (hi:i≤100) :
  EC.wp C (aT Pc.res (aI (.int .i64 ((bV f v i:Nat):Int)))) (PF.args [.agg f.cells,.int .i64 (v:Nat),.int .i64 (i:Nat)]) .nil:=by
 by_cases j:i=0
 ·subst j;have e:IntKind.i64.wrap (2+(v:Int))=((2+v:Nat):Int):=by rw[wrap_i64 Om Om]; omega
  simp only[go_sem,EC,oc,oe,Pc,aaU,Int.natCast_zero,bP (show ((0:Nat):Int)=0 from rfl),e];refine aR (.inr rfl) rfl ?_;rfl
 ·have e:=Y1 u w hi j l;simp only[go_sem,EC,oc,oe,Pc,bD (Om:¬ ((i:Nat):Int)=0),aaV,a8E,e];refine aR (.inr rfl) rfl ?_;rfl
theorem aVT {C:Ctx} (f:aE) (l:Small f) (d:Nat) (j:d≤100):YI.wp C (aT aPM.res (aI (.int .i64 ((aY f d:Nat):Int)))) (PF.args [.agg f.cells,.int .i64 (d:Nat)]) .nil:=by
 have e:=akC l j;simp only[go_sem,YI,atV,atW,aPM,a8E,e];refine aR (.inr rfl) rfl ?_;rfl
theorem ajP {f:aE} (hV:VF f) (k:Nat) (j:k≤f.a6R.length):cX (fE f) k≤8*k:=by
 induction k with
 | zero=>exact a8J _
 | succ k e =>have:=(mO hV (v:=k) Om).1;have:=e Om;rw[cX];omega
theorem aJD {C:Ctx} (u:∀ (f:aE) (v:Nat),VF f→v<f.a6R.length→aH C 82 [.agg f.cells,.int .i64 (v:Nat)] .nil (aI (.int .i64 (pV f v)))) (f:aE) (hV:VF f) :
  KU.wp C (aT aaX.res (aI (.int .i64 ((oO f:Nat):Int)))) (PF.args [.agg f.cells]) .nil:=by
 have B:=hV.small.a6R;simp only[go_sem,KU,Kw,Kx,Ky,aaX];refine wp_loop (α:=Nat) (fun k=>(((PF.nil.set 1 (.bO f.cells)).set 3 (.int .i64 ((cX (fE f) k:Nat):Int))).set 4 (.int .i64 (k:Nat)))) (fun _=>.nil) (fun k=>k≤f.a6R.length) (fun k=>f.a6R.length-k) 0 (a8K _) (by (repeat' (first|exact c_|refine d_ ?_ ?_))<;>first|(simp only[go_sem,cX]<;>rfl)|rfl) a_ ?_;intro k w;simp only[go_sem,Kv,Kz,a8E];by_cases hlt:k<f.a6R.length
 ·have j:(k:Int)<(f.a6R.length:Nat):=Om;obtain⟨x,y,l,-⟩:=mO hV hlt;have A:=ajP hV k w;have e:IntKind.i64.wrap (((cX (fE f) k:Nat):Int)+pV f k)=((cX (fE f) (k+1):Nat):Int):=by rw[cX,← l,wrap_i64 Om Om]; omega
  simp only[go_sem,j,K0];refine aB (u f k hV hlt) rfl ?_;simp only[go_sem,e,K3,wZz k];exact aG (k+1) hlt Om Lq a_
 ·have j:¬ (k:Int)<(f.a6R.length:Nat):=Om;have:k=f.a6R.length:=Om;subst this;simp only[go_sem,j,K4];refine aR (.inr rfl) rfl ?_;rfl








theorem jV {t:Nat} {b j:Bool} {F:PF} {H:PH} (h:F t=some (.bool b)) (e:b=j):aT [.tmp t] (aI (.bool j)) .ret F H:=by
 subst e;exact bA (.inr rfl) .nil (vs:=[.bool b]) (by rw[nZ,rO,h,tE]) a_ ⟨rfl,rfl⟩
abbrev gR (f:aE):bZ:=.rows 2 [wK f]
abbrev fX:bZ:=.rows 4 [[.int .i64 0,.int .i64 0,.int .i64 0,.aD]]
abbrev qY (p:dX):bZ:=.rows 17 [p.cells]
def Ba (o N:Nat) (l:List bN) (a:bN) (r:PV) (H':PH):Prop:=∃ (B':List BX) (L':List LI),(r=.tup []∧∃ v',B'=[(o,cN N v')]∧L'=[(v',4,(l++[a]).map bN.cells)])∧aM H' B' L'
structure pH (C:Ctx):Prop where
 vol:∀ (f:aE) (v:Nat),v≤100→aH C 282 [.agg (wK f),.int .i64 (v:Nat)] .nil (aI (.int .i64 ((2+v:Nat):Int)))
 dom:∀ (f:aE),Small f→0<f.a6S.length→∀ v i:Nat,v≤100→i≤100→aH C 283 [.agg (wK f),.int .i64 (v:Nat),.int .i64 (i:Nat)] .nil (aI (.int .i64 ((bV f v i:Nat):Int)))
 drv:∀ (f:aE),Small f→∀ d:Nat,d≤100→aH C 284 [.agg (wK f),.int .i64 (d:Nat)] .nil (aI (.int .i64 ((aY f d:Nat):Int)))
 arc:∀ (o N:Nat) (a:bN) (v:PV) (l:List bN),l.length≤1000000→∀ H,aM H [(o,cN N v)] [(v,4,l.map bN.cells)]→aH C 285 [.int .i64 (a.src:Nat),.int .i64 (a.dst:Nat),.int .i64 (a.cap:Nat),.ptr o 4 0 0] H (Ba o N l a)
 valid:∀ f:aE,f.Ok→aH C 96 [.agg f.cells] .nil (aI (.int .i64 (CW f)))
 roomM:∀ (f:aE) (room:List Int),f.Ok→aH C 152 [.agg f.cells,ints room] .nil (rF 1 (bU (IR f room)))
theorem aXS (o N:Nat) (l:List bN) (a:bN) (G A:PH) (D:List Nat) (hD:o∈D) (J:∃ x,A o=some x):∃ r H',Ba o N l a r H'∧oL G (A.only D) H':=by
 obtain⟨q,u,w⟩:=PH.aMO G o;have I:=(aM.nil.new (H:=PH.nil) (o:=o) rfl (cN N (.osl q 4 0 ((l++[a]).map bN.cells).length))).Cy (s:=4) (rows:=(l++[a]).map bN.cells) (o:=q) (by rw[aS,if_neg w]; rfl);refine⟨.tup [],_,⟨_,_,⟨rfl,_,rfl,rfl⟩,I⟩,fun p x j E=>?_⟩;rw[aS] at j;by_cases e:p=q
 ·subst e; exact u
 ·rw[if_neg e,aS] at j;by_cases B:p=o
  ·subst B;obtain⟨y,M⟩:=J;rw[vE,if_pos hD,M] at E;cases E
  ·rw[if_neg B] at j; cases j
def FZ (f:aE) (D:List Nat) (Q:PV→PH→Prop):Spec:=fun name vs=>match name,vs with
 | 285,_=>some (D,fun _=>Q)
 | 282,[_,.int _ v]=>some ([],fun _=>aI (.int .i64 ((2+v.toNat:Nat):Int)))
 | 283,[_,.int _ v,.int _ i]=>some ([],fun _=>aI (.int .i64 ((bV f v.toNat i.toNat:Nat):Int)))
 | 284,[_,.int _ d]=>some ([],fun _=>aI (.int .i64 ((aY f d.toNat:Nat):Int)))
 | _,_=>none
section
variable {C:Ctx} {F:PF} {H Hs:PH} {st:Bool} {f:aE} {D:List Nat} {Q:PV→PH→Prop} {args:List aP} {d:Option Nat} {K:PF→PH→Prop}
theorem Qh (j:pH C) {v:Nat} (w:v≤100) (l:aP.evs F args=some [.agg (wK f),.int .i64 (v:Nat)]) (e:Hs.le H) (u:K (F.put d (.int .i64 ((2+v:Nat):Int))) H):dOp C Hs (FZ f D Q) st (.call 282 args) d K F H :=
 cC (v:=.int .i64 ((2+v:Nat):Int)) (by rfl) (j.vol f v w) l e u
theorem iz (j:pH C) (x:Small f) (l:0<f.a6S.length) {v i:Nat} (y:v≤100) (hi:i≤100) (u:aP.evs F args=some [.agg (wK f),.int .i64 (v:Nat),.int .i64 (i:Nat)]) (e:Hs.le H) (w:K (F.put d (.int .i64 ((bV f v i:Nat):Int))) H):dOp C Hs (FZ f D Q) st (.call 283 args) d K F H :=
 cC (v:=.int .i64 ((bV f v i:Nat):Int)) (by rfl) (j.dom f x l v i y hi) u e w
theorem GC (j:pH C) (w:Small f) {i:Nat} (hi:i≤100) (l:aP.evs F args=some [.agg (wK f),.int .i64 (i:Nat)]) (e:Hs.le H) (u:K (F.put d (.int .i64 ((aY f i:Nat):Int))) H):dOp C Hs (FZ f D Q) st (.call 284 args) d K F H :=
 cC (v:=.int .i64 ((aY f i:Nat):Int)) (by rfl) (j.drv f w i hi) l e u
theorem Bn (y:pH C) {o N:Nat} {v:PV} {l:List bN} (a:bN) (E:l.length≤1000000) {B2:List BX} (h:aM H ((o,cN N v)::B2) [(v,4,l.map bN.cells)]) {x:aP} (J:x.ev F=some (.fn 285 [.ptr o 4 0 0]))
  (A:aP.evs F args=some [.int .i64 (a.src:Nat),.int .i64 (a.dst:Nat),.int .i64 (a.cap:Nat)])
  (B:∀ v' H',aM H' ((o,cN N v')::B2) [(v',4,(l++[a]).map bN.cells)]→Hs.le H'∧K (F.put d (.tup [])) H') :
  dOp C Hs (FZ f (eZ [(o,cN N v)]++eF [(v,4,l.map bN.cells)]) (Ba o N l a)) st (.a7T x args) d K F H:=by
 have w:aM H ([(o,cN N v)]++B2) ([(v,4,l.map bN.cells)]++[]):=h;have I:H o=some (cN N v):=h.at 0 rfl;have e:POp.kind (.a7T x args) F=.call 285 (some [.int .i64 (a.src:Nat),.int .i64 (a.dst:Nat),.int .i64 (a.cap:Nat),.ptr o 4 0 0]):=by simp only[POp.kind,J,A,a9J,bbR,bbK]
 unfold dOp;rw[e];refine⟨_,_,_,rfl,rfl,fun q hq=>?_,y.arc o N a v l E _ (w.only (bcD ..) (bcD ..)),fun G=>aXS o N l a G H _ (by simp[eZ]) ⟨_,I⟩,?_⟩
 ·rcases a9N.1 hq with hq | hq
  ·exact h.FP (.inl (by simp only[eZ,a9T,a8S]; left; simpa [eZ] using hq))
  ·exact h.FP (.inr hq)
 ·rintro r H' ⟨B',L',⟨rfl,v',rfl,rfl⟩,j⟩ u;exact B v' _ (w.frame j u)
theorem aEW (e:pH C) {o N:Nat} {v:PV} {l:List bN} (a:bN) (y:l.length≤1000000) {B2:List BX} (h:aM H ((o,cN N v)::B2) [(v,4,l.map bN.cells)])
  (w:aP.evs F args=some [.int .i64 (a.src:Nat),.int .i64 (a.dst:Nat),.int .i64 (a.cap:Nat)])
  (x:∀ v' H',aM H' ((o,cN N v')::B2) [(v',4,(l++[a]).map bN.cells)]→K (F.put d (.tup [])) H'):jU C 285 args [.ptr o 4 0 0] d K F H:=by
 refine ahC (B1:=[(o,cN N v)]) (B2:=B2) (L1:=[(v,4,l.map bN.cells)]) (L2:=[]) h (Q:=fun r B' L'=>r=.tup []∧∃ v',B'=[(o,cN N v')]∧L'=[(v',4,(l++[a]).map bN.cells)]) (fun H0 u=>e.arc o N a v l y H0 u) w ?_;rintro r B' L' H' ⟨rfl,v',rfl,rfl⟩ j;exact x v' H' j
end
theorem tr {a b:Nat} {x y:bZ} (h:¬ a=b):∃ Hs:PH,Hs a=some x∧Hs b=some y∧∀ H':PH,H' a=some x→H' b=some y→Hs.le H' :=
 ⟨(PH.nil.set a x).set b y,by rw[aS,if_neg h,bS],bS _ _,fun H' e j=>e_ (e_ a_ e) j⟩
structure NO where
 o:Nat
 n:Nat
 z:Nat
 p:Nat
 m:Nat
def jI (f:aE) (room:List Int) (e:NO) (k:Nat):PF:=(((((((((PF.nil.set 1 (ints room)).set 2 (.bO f.cells)).set 4 (.ptr e.z 4 0 0)).set 6 (.ptr e.n 2 0 0)).set 7 (.ptr e.o 4 0 0)).set 8 (.fn 285 [.ptr e.o 4 0 0])).set 41 (.sl 2 (f.a6R.map fZ.cells))).set 42 (.int .i64 (f.a6R.length:Nat))).set 43 (.int .i64 (k:Nat)))
def qS (f:aE) (room:List Int) (e:NO) (k:Nat):PF:=(((jI f room e k).set 9 (.int .i64 (k:Nat))).set 11 (.ptr e.p 17 0 0)).set 12 (.osl e.m 1 0 f.a6Q.length)
def cg (f:aE) (room:List Int) (e:NO) (k:Nat) (p:dX) (j:Nat):PF:=(((qS f room e k).set 59 (ints p.a6Q)).set 60 (.int .i64 (p.a6Q.length:Nat))).set 61 (.int .i64 (j:Nat))
def wJ (f:aE) (room:List Int) (e:NO) (k i:Nat):PF:=(((qS f room e k).set 80 (.sl 7 (f.a6S.map dB.cells))).set 81 (.int .i64 (f.a6S.length:Nat))).set 82 (.int .i64 (i:Nat))
def QQ (f:aE) (room:List Int) (e:NO) (k i:Nat):PF:=((((((jI f room e k).set 9 (.int .i64 (k:Nat))).set 12 (.osl e.m 1 0 f.a6Q.length))).set 115 (.sl 3 (f.a6P.map eT.cells))).set 116 (.int .i64 (f.a6P.length:Nat))).set 117 (.int .i64 (i:Nat))
theorem aAP {C:Ctx} {K:cI} [Up K] (f:aE) (room:List Int) (e:NO) (k:Nat) (p:dX) (Z:∀ m∈p.a6Q,0≤m∧m<f.a6Q.length) (U:p.a6Q.length≤9223372036854775807) {F:PF} {H:PH} {B:List BX} {L:List LI} (b:Nat)
  (hb:B[b]?=some (e.m,.rows 1 (aZ (marks f.a6Q.length [])))) (w:aM H B L) (W:(cg f room e k p 0).le F)
  (X:∀ H',aM H' (B.set b (e.m,.rows 1 (aZ (marks f.a6Q.length p.a6Q)))) L→K (.exit 2) (qS f room e k) H'):aC.wp C (.loop i9) K F H:=by
 refine wp_loop (α:=Nat × PH) (fun s=>cg f room e k p s.1) (fun s=>s.2) (fun s=>s.1≤p.a6Q.length∧aM s.2 (B.set b (e.m,.rows 1 (aZ (marks f.a6Q.length (p.a6Q.take s.1))))) L) (fun s=>p.a6Q.length-s.1) (0,H) ⟨a8K _,?_⟩ W b_ ?_
 ·rw[List.take_zero];have V:B.set b (e.m,.rows 1 (aZ (marks f.a6Q.length [])))=B:=by obtain⟨h1,A⟩:=a9F.1 hb;rw[← A,List.set_getElem_self]
  rw[V]; exact w
 rintro⟨j,H0⟩ ⟨Y,w⟩;simp only at Y w;have E:b<B.length:=(a9F.1 hb).1;have x:(B.set b (e.m,bZ.rows 1 (aZ (marks f.a6Q.length (p.a6Q.take j)))))[b]?=some (e.m,.rows 1 (aZ (marks f.a6Q.length (p.a6Q.take j)))):=List.getElem?_set_self E;simp only[go_sem,i9,Rj,cg,qS,jI];by_cases hlt:j<p.a6Q.length
 ·have u:(j:Int)<(p.a6Q.length:Nat):=Om;have N:(p.a6Q.map fun n=>[PV.int .i64 n])[j]?=some [.int .i64 p.a6Q[j]]:=by simp[hlt]
  obtain⟨R,S⟩:=Z _ (a8G hlt);have O:p.a6Q.take (j+1)=p.a6Q.take j++[p.a6Q[j]]:=baF hlt;have J:(p.a6Q[j]).toNat<(aZ (marks f.a6Q.length (p.a6Q.take j))).length:=by rw[gE,aHA]; omega
  have I:(aZ (marks f.a6Q.length (p.a6Q.take j)))[(p.a6Q[j]).toNat]?=some [.bool ((p.a6Q.take j).contains p.a6Q[j])]:=by unfold aZ;rw[a8Y,kq R S]; rfl
  have M:=w.at b x;have A:=w.set b x (.rows 1 (aZ (marks f.a6Q.length (p.a6Q.take (j+1)))));rw[List.set_set] at A;have y:=Gw (l:=p.a6Q.take j) R S;rw[← O] at y;simp only[go_sem,u,Rk,N,Rl,R,S,a8R,M,I,J,iD,y,Rm,wZz j];exact aG (j+1,H0.set e.m (.rows 1 (aZ (marks f.a6Q.length (p.a6Q.take (j+1)))))) ⟨hlt,A⟩ (by simp only; omega) (by (repeat' (first|exact c_|refine d_ ?_ ?_))<;>first|(simp only[go_sem,cg,qS,jI]<;>rfl)|rfl) b_
 ·have u:¬ (j:Int)<(p.a6Q.length:Nat):=Om;have:j=p.a6Q.length:=Om;subst this;rw[a9M] at w;simp only[go_sem,u];exact Up.up (by (repeat' (first|exact c_|refine d_ ?_ ?_))<;>first|(simp only[go_sem,cg,qS,jI]<;>rfl)|rfl) (X H0 w)
theorem NW (pre:List bN) (g:Nat→bN) (k:Nat):pre++(a8D (k+1)).map g=pre++(a8D k).map g++[g k]:=by
 rw[baT,a9U,a9L]; rfl
theorem MZ {G F:PF} {i:Nat} {v:PV} (h:G.le F) (hi:G i=none):G.le (F.set i v):=fun j x l=>by
 rw[oJ];by_cases e:j=i
 ·subst e; rw[hi] at l; cases l
 ·rw[if_neg e]; exact h j x l
theorem aCO {C:Ctx} (f:aE) (p:dX) {i:Nat} (hi:i<f.a6S.length) (I:0≤lvl f i) (J:lvl f i<5) {q op:Nat} (K:PF→PH→Prop) (F:PF) (H:PH) (u:F 16=some (.ptr q 7 0 0)) (hq:H q=some (.rows 7 [(f.a6S[i]).cells])) (l:F 11=some (.ptr op 17 0 0)) (x:H op=some (qY p))
  (y:∀ e:PF,e 17=some (.int .i64 (p.spread (lvl f i).toNat))→(∀ G:PF,G.le F→(∀ j,89≤j→j<94→G j=none)→G 17=none→G.le e)→K e H):wpOps C jf K F H:=by
 have h5:lvl f i<((5:Nat):Int):=Om;simp only[go_sem,jf,u,hq,l,V6 hi,I,h5,Nat.mul_one];have B:lvl f i=0∨lvl f i=1∨lvl f i=2∨lvl f i=3∨lvl f i=4:=Om;have fin:∀ e:PF,e 17=some (.int .i64 (p.spread (lvl f i).toNat))→(∀ G:PF,G.le F→(∀ j,89≤j→j<94→G j=none)→G 17=none→G.le e)→K e H:=y;clear y;rcases B with h | h | h | h | h
 all_goals
  rw[h] at fin ⊢;simp only[go_sem,x];refine fin _ rfl fun G A E w=>?_
  repeat' (first | exact A | exact w | (exact E _ (by decide) (by decide)) | refine MZ ?_ ?_)
theorem aGE {C:Ctx} (Lb:pH C) {K:cI} [Up K] (f:aE) (hV:VF f) (room:List Int) (e:NO) (N k:Nat) (hk:k<f.a6R.length) (pre:List bN) (η:pre.length≤900000) {F:PF} {H:PH} {B:List BX} (v:PV)
  (h6:B[0]?=some (e.n,gR f)) (M:B[1]?=some (e.p,qY (cO f k)))
  (R:aM H ((e.o,cN N v)::B) [(v,4,pre.map bN.cells)]) (hF:(wJ f room e k 0).le F)
  (hK:∀ v' H',aM H' ((e.o,cN N v')::B) [(v',4,(pre++(a8D (f.a6S.length-1)).map (kA f k)).map bN.cells)]→K (.exit 4) (qS f room e k) H'):aC.wp C (.loop ja) K F H:=by
 have Y:=hV.small;have hr:=hV.root;have θ:=Y.a6S;have ι:=Y.a6R;have ε:¬ e.n=e.p:=R.ne 1 2 h6 M (by decide);obtain⟨Hs,s6,μ,E⟩:=tr (x:=gR f) (y:=qY (cO f k)) ε;refine wp_loop (α:=Nat × PV × PH) (fun s=>wJ f room e k s.1) (fun s=>s.2.2) (fun s=>s.1≤f.a6S.length∧aM s.2.2 ((e.o,cN N s.2.1)::B) [(s.2.1,4,(pre++(a8D (s.1-1)).map (kA f k)).map bN.cells)]) (fun s=>f.a6S.length-s.1) (0,v,H) ⟨a8K _,by simpa using R⟩ hF b_ ?_;rintro⟨i,v,H0⟩ ⟨hi,R⟩;simp only at hi R;simp only[go_sem,ja,Rp,wJ,qS,jI];by_cases hlt:i<f.a6S.length
 ·have A:(i:Int)<(f.a6S.length:Nat):=Om;have δ:=wZz i;simp only[go_sem,A,Rq,oQ hlt];refine R.sC fun q H1 h1=>?_;have q1:=h1.pK;have O:=h1.vK (.rows 7 [(f.a6S[i]).cells]);simp only[go_sem,q1];generalize H1.set q (.rows 7 [(f.a6S[i]).cells])=H2 at *
  have S:=O.pK;by_cases h0:i=0
  ·subst h0;simp only[go_sem,je,Int.natCast_zero,bP (show (0:Int)=0 from rfl),OJ];exact aG (1,v,H2) ⟨hr.1,O.dropLast⟩ (by simp only; omega) (by (repeat' (first|exact c_|refine d_ ?_ ?_))<;>first|(simp only[go_sem,wJ,qS,jI]<;>rfl)|rfl) b_
  ·have c0:=bD (Om:¬ ((i:Nat):Int)=0);obtain⟨l,rfl⟩:∃ l,i=l+1:=⟨i-1,by omega⟩;obtain⟨d1,d2,d3,d4,d5⟩:=hV.dom (l+1) Om hlt;have ζ:=hV.Dc (Om:0<l+1) hlt;have h5:lvl f (l+1)<((5:Nat):Int):=Om;have l0:(0:Int)≤lvl f (l+1):=Om;have w:H2 e.p=some (qY (cO f k)):=O.box _ (by refine bbQ _ (bbB _ (baA M)))
   have X:H2 e.n=some (gR f):=O.box _ (by refine bbQ _ (bbB _ (baA h6)));obtain⟨b1,b2,b3,b4⟩:=mO hV hk;obtain⟨hp,he⟩:=qZ hV hk;have I:=hV.a7C _ (a8G hp);rw[he] at I;have β:IntKind.i64.wrap ((cO f k).k+(cO f k).m)=((fE f k:Nat):Int):=by rw[b3]; exact wrap_i64 Om Om
   have κ:=I.2.2.2.2.2.2.1 (lvl f (l+1)).toNat;have u:((uX f k (l+1):Nat):Int)=if (cO f k).spread (lvl f (l+1)).toNat=0 then ((fE f k:Nat):Int) else (cO f k).spread (lvl f (l+1)).toNat:=by
    unfold uX fW;split
    ·rfl
    ·omega
   simp only[go_sem,je,c0];refine aCO f (cO f k) hlt l0 Om (q:=q) (op:=e.p) _ _ _ rfl S rfl w fun F1 J V=>?_;have hG:=V (((wJ f room e k (l+1)).set 15 (.int .i64 ((l+1:Nat):Int))).set 16 (.ptr q 7 0 0)) (by (repeat' (first|exact c_|refine d_ ?_ ?_))<;>first|(simp only[go_sem,wJ,qS,jI]<;>rfl)|rfl) (fun j h1 O=>by have:j=89∨j=90∨j=91∨j=92∨j=93:=Om;rcases this with rfl | rfl | rfl | rfl | rfl<;>rfl) rfl
   clear V;have U:∀ Z:PF,((((wJ f room e k (l+1)).set 15 (.int .i64 ((l+1:Nat):Int))).set 16 (.ptr q 7 0 0)).set 17 (.int .i64 ((uX f k (l+1):Nat):Int))).le Z →
     aC.wp C (.draw jh) (fR 5 (jY C (aC.wp C (.region OJ)) (gP (fun s:Nat × PV × PH=>wJ f room e k s.1) (fun s=>s.2.2) (fun s=>s.1≤f.a6S.length∧aM s.2.2 ((e.o,cN N s.2.1)::B) [(s.2.1,4,(pre++(a8D (s.1-1)).map (kA f k)).map bN.cells)]) (fun s=>f.a6S.length-s.1) (f.a6S.length-(l+1)) K))) Z H2:=by
    intro Z γ;refine sQ _ (fun _ _ _ _ a b=>Up.up a b) γ ?_;refine aV Hs (FZ f (eZ [(e.o,cN N v)]++eF [(v,4,(pre++(a8D l).map (kA f k)).map bN.cells)]) (Ba e.o N (pre++(a8D l).map (kA f k)) (kA f k l))) (E _ X w) ?_;simp only[go_sem,jh,wJ,qS,jI,X,S,s6];refine iz Lb Y hr.1 (v:=k) (i:=jO f (l+1)) Om Om (by simp only[go_sem,Zp hlt,ζ]) (E _ X w) ?_;simp only[go_sem,s6];refine iz Lb Y hr.1 (v:=k) (i:=l+1) Om Om rfl (E _ X w) ?_;simp only[go_sem];refine Bn Lb (kA f k l) (v:=v) (B2:=B++[(q,.rows 7 [(f.a6S[l+1]).cells])]) (by rw[a8H,a8E,baJ]; omega) O rfl rfl fun v' H' h'=>⟨E _ (h'.box _ (bbB _ (bbQ _ (baA h6)))) (h'.box _ (bbB _ (bbQ _ (baA M)))),?_⟩;simp only[go_sem,OJ,δ];refine aG (l+1+1,v',H') ⟨hlt,?_⟩ (by simp only; omega) (by (repeat' (first|exact c_|refine d_ ?_ ?_))<;>first|(simp only[go_sem,wJ,qS,jI]<;>rfl)|rfl) b_;simp only;rw[show l+1+1-1=l+1 from rfl,NW];exact aM.dropLast (B:=(e.o,cN N v')::B) h'
   by_cases W:(cO f k).spread (lvl f (l+1)).toNat=0
   ·rw[if_pos W] at u;have f11:=hG 11 _ rfl;simp only[go_sem,jg,J,bP W,Rr,f11,w,β];refine U _ (d_ ?_ (by simp only[go_sem,u]))
    repeat' (first | exact hG | refine MZ ?_ rfl)
   ·rw[if_neg W] at u;simp only[go_sem,jg,J,bD W];refine U _ (d_ ?_ (by simp only[go_sem,J,u]))
    repeat' (first | exact hG | refine MZ ?_ rfl)
 ·have A:¬ (i:Int)<(f.a6S.length:Nat):=Om;have:i=f.a6S.length:=Om;subst this;simp only[go_sem,A];exact Up.up (by (repeat' (first|exact c_|refine d_ ?_ ?_))<;>first|(simp only[go_sem,wJ,qS,jI]<;>rfl)|rfl) (hK v H0 R)
theorem db (p:Nat→Bool) (k:Nat):(a8D (k+1)).filter p=(a8D k).filter p++if p k=true then [k] else []:=by
 rw[baT,List.filter_append,List.filter_cons,List.filter_nil]
theorem aGF {C:Ctx} (J:pH C) {K:cI} [Up K] (f:aE) (hV:VF f) (room:List Int) (e:NO) (N k:Nat) (hk:k<f.a6R.length) (pre:List bN) (Z:pre.length≤900000) {F:PF} {H:PH} {B:List BX} (v:PV)
  (Y:B[0]?=some (e.n,gR f)) (O:B[1]?=some (e.m,.rows 1 (aZ (marks f.a6Q.length (cO f k).a6Q))))
  (y:aM H ((e.o,cN N v)::B) [(v,4,pre.map bN.cells)]) (hF:(QQ f room e k 0).le F)
  (hK:∀ v' H',aM H' ((e.o,cN N v')::B) [(v',4,(pre++((a8D f.a6P.length).filter (okD f k)).map (eG f k)).map bN.cells)]→K (.exit 6) (jI f room e k) H'):aC.wp C (.loop jb) K F H:=by
 have E:=hV.small;have hr:=hV.root;have β:=E.a6S;have γ:=E.a6P;have δ:=E.a6R;refine wp_loop (α:=Nat × PV × PH) (fun s=>QQ f room e k s.1) (fun s=>s.2.2) (fun s=>s.1≤f.a6P.length∧aM s.2.2 ((e.o,cN N s.2.1)::B) [(s.2.1,4,(pre++((a8D s.1).filter (okD f k)).map (eG f k)).map bN.cells)]) (fun s=>f.a6P.length-s.1) (0,v,H) ⟨a8K _,by simpa using y⟩ hF b_ ?_;rintro⟨i,v,H0⟩ ⟨hi,y⟩;simp only at hi y;simp only[go_sem,jb,Rt,QQ,jI];by_cases hlt:i<f.a6P.length
 ·have j:(i:Int)<(f.a6P.length:Nat):=Om;have A:=wZz i;obtain⟨d1,d2,d3,d4,d5⟩:=hV.drive i hlt;have S:(aZ (marks f.a6Q.length (cO f k).a6Q))[mdl f i]?=some [.bool ((cO f k).a6Q.contains ((mdl f i:Nat):Int))]:=by have:=kq (n:=f.a6Q.length) (l:=(cO f k).a6Q) (m:=((mdl f i:Nat):Int)) Om Om;rw[bbI] at this;unfold aZ;rw[a8Y,this]; rfl
  have V:okD f k i=(cO f k).a6Q.contains ((mdl f i:Nat):Int):=rfl;have U:((mdl f i:Nat):Int)<(f.a6Q.length:Nat):=Om;simp only[go_sem,j,Ru,qJ hlt];refine y.sC fun q H1 X=>?_;have q1:=X.pK;have w:=X.vK (.rows 3 [(f.a6P[i]).cells]);simp only[go_sem,q1];generalize H1.set q (.rows 3 [(f.a6P[i]).cells])=H2 at *
  have x:=w.pK;have M:H2 e.m=some _:=w.box _ (bbQ _ (bbB _ (baA O)));have I:H2 e.n=some (gR f):=w.box _ (bbQ _ (bbB _ (baA Y)));have u:=db (okD f k) i;simp only[go_sem,Rv,x,hV.WR hlt,U,M,a8R,S];rw[← V];cases hb:okD f k i with
  | false =>rw[hb,if_neg (by decide),a9W] at u;rw[← u] at w;simp only[go_sem,ji,A];exact aG (i+1,v,H2) ⟨hlt,w.dropLast⟩ (by simp only; omega) (by (repeat' (first|exact c_|refine d_ ?_ ?_))<;>first|(simp only[go_sem,QQ,jI]<;>rfl)|rfl) b_
  | true =>
   rw[hb,if_pos rfl] at u;simp only[go_sem];refine aV (PH.nil.set e.n (gR f)) (FZ f (eZ [(e.o,cN N v)]++eF [(v,4,(pre++((a8D i).filter (okD f k)).map (eG f k)).map bN.cells)]) (Ba e.o N (pre++((a8D i).filter (okD f k)).map (eG f k)) (eG f k i))) (e_ a_ I) ?_;have R:=List.length_filter_le (okD f k) (a8D i);rw[baJ] at R;simp only[go_sem,Rw,I,x];refine iz J E hr.1 (v:=k) (i:=fF f i) Om Om (by simp only[go_sem,hV.b8 hlt]) (e_ a_ I) ?_;simp only[go_sem];refine GC J E (i:=i) Om rfl (e_ a_ I) ?_;simp only[go_sem];refine Bn J (eG f k i) (v:=v) (B2:=B++[(q,.rows 3 [(f.a6P[i]).cells])]) (by rw[a8H,a8E]; omega) w rfl rfl fun v' H' W=>⟨e_ a_ (W.box _ (bbB _ (bbQ _ (baA Y)))),?_⟩;simp only[go_sem,ji,A];refine aG (i+1,v',H') ⟨hlt,?_⟩ (by simp only; omega) (by (repeat' (first|exact c_|refine d_ ?_ ?_))<;>first|(simp only[go_sem,QQ,jI]<;>rfl)|rfl) b_;simp only;have e2:pre++((a8D (i+1)).filter (okD f k)).map (eG f k)=pre++((a8D i).filter (okD f k)).map (eG f k)++[eG f k i]:=by rw[u,a9U,← a9L]; rfl
   rw[e2];exact aM.dropLast (B:=(e.o,cN N v')::B) W
 ·have j:¬ (i:Int)<(f.a6P.length:Nat):=Om;have:i=f.a6P.length:=Om;subst this;simp only[go_sem,j];exact Up.up (by (repeat' (first|exact c_|refine d_ ?_ ?_))<;>first|(simp only[go_sem,QQ,jI]<;>rfl)|rfl) (hK v H0 y)
theorem TG (f:aE) (k:Nat):(a8D (k+1)).flatMap (fI f)=(a8D k).flatMap (fI f)++fI f k:=by
 rw[baT,List.flatMap_append,List.flatMap_cons,List.flatMap_nil,a9W]
theorem CG {f:aE} (e:Small f):∀ k,((a8D k).flatMap (fI f)).length≤k*65
 | 0=>a8J _
 | k+1=>by have j:=CG e k;have l:=agJ f k;have u:=e.a6S;have w:=e.a6P;rw[TG,a8H];omega
theorem aGG {C:Ctx} (S:pH C) {K:cI} [Up K] (f:aE) (hf:f.Ok) (hV:VF f) (room:List Int) (o n z:Nat) (N:Nat) {F:PF} {H:PH}
  (J:aM H [(o,cN N .aD),(n,gR f),(z,fX)] [(.aD,4,[])]) (hF:(jI f room ⟨o,n,z,0,0⟩ 0).le F)
  (hK:∀ v' H',aM H' [(o,cN N v'),(n,gR f),(z,fX)] [(v',4,((a8D f.a6R.length).flatMap (fI f)).map bN.cells)]→K (.exit 0) (jI f room ⟨o,n,z,0,0⟩ f.a6R.length) H'):aC.wp C (.loop jc) K F H:=by
 have I:=hV.small;have hr:=hV.root;have η:=I.a6S;have θ:=I.a6P;have ι:=I.a6R;have Z:(f.a6Q.length:Int)*((1:Nat):Int)≤140737488355328:=by have:=I.a6Q; omega
 have β:(f.a6Q.length:Int)≤9223372036854775807:=by have:=I.a6Q; omega
 have γ:(0:Int)≤(f.a6Q.length:Int):=Om;refine wp_loop (α:=Nat × PV × PH) (fun s=>jI f room ⟨o,n,z,0,0⟩ s.1) (fun s=>s.2.2) (fun s=>s.1≤f.a6R.length∧aM s.2.2 [(o,cN N s.2.1),(n,gR f),(z,fX)] [(s.2.1,4,((a8D s.1).flatMap (fI f)).map bN.cells)]) (fun s=>f.a6R.length-s.1) (0,.aD,H) ⟨a8K _,by simpa using J⟩ hF b_ ?_;rintro⟨k,v,H0⟩ ⟨hk,J⟩;simp only at hk J;simp only[go_sem,jc,alX,jI];by_cases hlt:k<f.a6R.length
 ·have u:(k:Int)<(f.a6R.length:Nat):=Om;have δ:=wZz k;obtain⟨hp,he⟩:=qZ hV hlt;have A:=hV.a7C _ (a8G hp);have l:=(hf.a7C _ (a8G hp)).a6Q;rw[he] at A l;have l:(cO f k).a6Q.length≤9223372036854775807:=by first | exact l | (have:=l; omega)
  obtain⟨b1,b2,b3,b4⟩:=mO hV hlt;have X:IntKind.i64.wrap ((cO f k).k+(cO f k).m)=((fE f k:Nat):Int):=by rw[b3]; exact wrap_i64 Om Om
  have ζ:=CG I k;simp only[go_sem,u,alY,zM hlt];refine J.sC fun O H1 h1=>?_;have g1:=h1.pK;have h2:=h1.vK (.rows 2 [(f.a6R[k]).cells]);simp only[go_sem,g1];generalize H1.set O (.rows 2 [(f.a6R[k]).cells])=H2 at *
  have V:=h2.pK;simp only[go_sem,alZ,V,hV.YE hlt,tC hp,he];refine h2.sC fun e H3 h3=>?_;have g2:=h3.pK;have h4:=h3.vK (qY (cO f k));simp only[go_sem,g2];generalize H3.set e (.rows 17 [(cO f k).cells])=H4 at *
  simp only[go_sem,Rh,a8E,Z,β,γ,Int.le_refl,bbI];refine aO fun j M=>?_;rw[Qc];have h5:=h4.new M (.rows 1 (aZ (marks f.a6Q.length [])));generalize H4.set j (.rows 1 (aZ (marks f.a6Q.length [])))=H5 at *
  have w:=h5.at 4 rfl;simp only[go_sem,Ri,w];refine aAP f room ⟨o,n,z,e,j⟩ k (cO f k) A.2.2.2.2.2.2.2 l 5 rfl h5 (by (repeat' (first|exact c_|refine d_ ?_ ?_))<;>first|(simp only[go_sem,cg,qS,jI]<;>rfl)|rfl) fun H6 U=>?_;have U:aM H6 [(o,cN N v),(n,gR f),(z,fX),(O,.rows 2 [(f.a6R[k]).cells]),(e,qY (cO f k)),(j,.rows 1 (aZ (marks f.a6Q.length (cO f k).a6Q)))] [(v,4,((a8D k).flatMap (fI f)).map bN.cells)]:=U;have h7:aM H6 [(o,cN N v),(n,gR f),(e,qY (cO f k)),(j,.rows 1 (aZ (marks f.a6Q.length (cO f k).a6Q))),(z,fX)] [(v,4,((a8D k).flatMap (fI f)).map bN.cells)]:=by refine (U.uQ 3).perm ?_ (baQ.refl _);show baQ [_,_,_,_,_] _;exact .cons _ (.cons _ (((List.perm_append_comm (l₁:=[(z,fX)]) (l₂:=[(e,qY (cO f k)),(j,.rows 1 (aZ (marks f.a6Q.length (cO f k).a6Q)))])))))
  clear U;have W:=h7.at 1 rfl;have w:=h7.at 2 rfl;have ε:¬ n=e:=h7.ne 1 2 rfl rfl (by decide);obtain⟨Hs,s6,R,E⟩:=tr (x:=gR f) (y:=qY (cO f k)) ε;simp only[go_sem];refine aV Hs (FZ f (eZ [(o,cN N v)]++eF [(v,4,((a8D k).flatMap (fI f)).map bN.cells)]) (Ba o N ((a8D k).flatMap (fI f)) ⟨0,2+k,fE f k⟩)) (E _ W w) ?_;simp only[go_sem,Rn,qS,jI,W,R];refine Qh S (v:=k) Om rfl (E _ W w) ?_;simp only[go_sem,R,X];refine Bn S ⟨0,2+k,fE f k⟩ (v:=v) (B2:=[(n,gR f),(e,qY (cO f k)),(j,.rows 1 (aZ (marks f.a6Q.length (cO f k).a6Q))),(z,fX)]) Om h7 rfl rfl fun v1 H7 h8=>⟨E _ (h8.at 1 rfl) (h8.at 2 rfl),?_⟩;simp only[go_sem,Ro];refine aGE S f hV room ⟨o,n,z,e,j⟩ N k hlt ((a8D k).flatMap (fI f)++[(⟨0,2+k,fE f k⟩:bN)]) (by rw[a8H,a8N]; omega) v1 rfl rfl h8 (by (repeat' (first|exact c_|refine d_ ?_ ?_))<;>first|(simp only[go_sem,wJ,qS,jI]<;>rfl)|rfl) fun v2 H8 h9=>?_;simp only[go_sem,Rs,qS,jI];refine aGF S f hV room ⟨o,n,z,e,j⟩ N k hlt ((a8D k).flatMap (fI f)++[(⟨0,2+k,fE f k⟩:bN)]++(a8D (f.a6S.length-1)).map (kA f k)) (by rw[a8H,a8H,a8N,a8E,baJ]; omega) (B:=[(n,gR f),(j,.rows 1 (aZ (marks f.a6Q.length (cO f k).a6Q))),(z,fX)]) v2 rfl rfl (h9.uQ 2) (by (repeat' (first|exact c_|refine d_ ?_ ?_))<;>first|(simp only[go_sem,QQ,jI]<;>rfl)|rfl) fun v3 H9 Y=>?_;simp only[go_sem,Rx,jI,δ];refine aG (k+1,v3,H9) ⟨hlt,?_⟩ (by simp only; omega) (by (repeat' (first|exact c_|refine d_ ?_ ?_))<;>first|(simp only[go_sem,jI]<;>rfl)|rfl) b_;simp only;have ev:(a8D (k+1)).flatMap (fI f)=(a8D k).flatMap (fI f)++[(⟨0,2+k,fE f k⟩:bN)]++(a8D (f.a6S.length-1)).map (kA f k)++((a8D f.a6P.length).filter (okD f k)).map (eG f k):=by rw[TG];unfold fI;simp
  rw[ev];exact Y.uQ 2
 ·have u:¬ (k:Int)<(f.a6R.length:Nat):=Om;have:k=f.a6R.length:=Om;subst this;simp only[go_sem,u];exact Up.up (by (repeat' (first|exact c_|refine d_ ?_ ?_))<;>first|(simp only[go_sem,jI]<;>rfl)|rfl) (hK v H0 J)
def sM (f:aE) (room:List Int):bY:=if dL f=true then cJ f room else ⟨0,0,0,[]⟩
def aCM (f:aE):Int:=if dL f=true then 0 else 1
def tI (f:aE) (room:List Int):PV:=.tup [.agg (sM f room).cells,.int .i64 (aCM f)]
theorem uZ {f:aE} (h:dL f=true) (room:List Int):sM f room=cJ f room:=if_pos h
theorem nM {f:aE} (h:dL f=true):aCM f=0:=if_pos h
theorem xO {f:aE} (h:dL f=false):aCM f=1:=if_neg (by rw[h]; decide)
theorem Cw {f:aE} (h:dL f=false) (room:List Int):sM f room=⟨0,0,0,[]⟩:=if_neg (by rw[h]; decide)
theorem coL {a b:PV} (h:Co a b) (x y z w:PV):Co (.tup [.agg [x,y,z,a],w]) (.tup [.agg [x,y,z,b],w]):=by
 refine .tup rfl fun j p q e hq=>?_
 match j with
 | 0 =>
  cases e; cases hq;refine .agg rfl fun j p q e hq=>?_
  match j with
  | 0=>cases e; cases hq; exact .refl _
  | 1=>cases e; cases hq; exact .refl _
  | 2=>cases e; cases hq; exact .refl _
  | 3=>cases e; cases hq; exact h
  | j+4=>cases e
 | 1=>cases e; cases hq; exact .refl _
 | j+2=>cases e
theorem bo {H:PH} {B:List BX} {v:PV} {rows:List (List PV)} {a b c e:Int} (h:aM H B [(v,4,rows)]):sA (.tup [.agg [.int .i64 a,.int .i64 b,.int .i64 c,v],.int .i64 e]) H (cP (.tup [.agg [.int .i64 a,.int .i64 b,.int .i64 c,.sl 4 rows],.int .i64 e])):=by
 rcases h.own 0 rfl with ⟨j,rfl⟩ | ⟨q,rs,rfl,_⟩
 ·subst j;exact .done (H2:=.nil) ⟨coL (.nil 4) _ _ _ _,rfl⟩ a_
 ·obtain⟨rs,l,u,-,-,-⟩:=h.frz 0 rfl;refine .step l ?_;show sA (.tup [.agg [.int .i64 a,.int .i64 b,.int .i64 c,PV.cQ q 4 rs (.osl q 4 0 rows.length)],.int .i64 e]) _ _;rw[u];exact .done (H2:=.nil) ⟨.refl _,rfl⟩ a_
theorem aAQ {C:Ctx} (x:pH C) {K:cI} [Up K] (f:aE) (hV:VF f) (room:List Int) (o n z N:Nat) (pre:List bN) (y:pre.length≤900000) {F:PF} {H:PH} (v:PV)
  (j:aM H [(o,cN N v),(n,gR f),(z,fX)] [(v,4,pre.map bN.cells)])
  (I:((((((((PF.nil.set 4 (.ptr z 4 0 0)).set 6 (.ptr n 2 0 0)).set 7 (.ptr o 4 0 0)).set 8 (.fn 285 [.ptr o 4 0 0])).set 141 (.sl 1 (bU (mZ f room)))).set 142 (.int .i64 (f.a6P.length:Nat))).set 143 (.int .i64 0))).le F)
  (J:∀ v' H',aM H' [(o,cN N v'),(n,gR f),(z,fX)] [(v',4,(pre++(a8D f.a6P.length).map (nP f room)).map bN.cells)]→K (.exit 8) (((PF.nil.set 4 (.ptr z 4 0 0)).set 7 (.ptr o 4 0 0))) H'):aC.wp C (.loop jd) K F H:=by
 have A:=hV.small;have M:=A.a6P;refine wp_loop (α:=Nat × PV × PH) (fun s=>(((((((PF.nil.set 4 (.ptr z 4 0 0)).set 6 (.ptr n 2 0 0)).set 7 (.ptr o 4 0 0)).set 8 (.fn 285 [.ptr o 4 0 0])).set 141 (.sl 1 (bU (mZ f room)))).set 142 (.int .i64 (f.a6P.length:Nat))).set 143 (.int .i64 (s.1:Nat)))) (fun s=>s.2.2) (fun s=>s.1≤f.a6P.length∧aM s.2.2 [(o,cN N s.2.1),(n,gR f),(z,fX)] [(s.2.1,4,(pre++(a8D s.1).map (nP f room)).map bN.cells)]) (fun s=>f.a6P.length-s.1) (0,v,H) ⟨a8K _,by simpa using j⟩ I b_ ?_;rintro⟨i,v,H0⟩ ⟨hi,j⟩;simp only at hi j;simp only[go_sem,jd,Rz];by_cases hlt:i<f.a6P.length
 ·have e:(i:Int)<(f.a6P.length:Nat):=Om;have u:=wZz i;have w:i<(mZ f room).length:=by rw[rX]; exact hlt
  have l:=AD w;obtain⟨r1,r2⟩:=zF hV room hlt;rw[RW,← r2] at l;have B:=j.at 1 rfl;simp only[go_sem,e,R0,l,R1,B];refine aB (x.drv f A i Om) rfl ?_;simp only[go_sem];refine aEW x (nP f room i) (by rw[a8H,a8E,baJ]; omega) j rfl fun v' H' E=>?_;simp only[go_sem,R2,u];refine aG (i+1,v',H') ⟨hlt,?_⟩ (by simp only; omega) Lq b_;simp only;rw[NW];exact E
 ·have e:¬ (i:Int)<(f.a6P.length:Nat):=Om;have:i=f.a6P.length:=Om;subst this;simp only[go_sem,e];exact Up.up Lq (J v H0 j)
theorem aTL {C:Ctx} (l:pH C) (f:aE) (A:f.Ok) (room:List Int) :
  VX.wp C (aT aMM.res (cP (tI f room))) (PF.args [.agg f.cells,ints room]) .nil:=by
 simp only[go_sem,VX,alQ,aMM];refine aO fun z S=>?_;simp only[go_sem,alR];refine aB (l.valid f A) rfl ?_;have y:aM (PH.nil.set z fX) [(z,fX)] []:=aM.nil.new S fX;generalize (PH.nil.set z fX)=V at *
 have M:=y.at 0 rfl;cases j:dL f with
 | false =>simp only[go_sem,yv j,alS,M];rw[tI,Cw j,xO j];have w:=(y.set 0 rfl fX).kB 4;refine pE (vs:=[.agg [.int .i64 0,.int .i64 0,.int .i64 0,.aD],.int .i64 1]) (.inr rfl) Sq ?_;exact bo w
 | true =>
  have hV:=VF.of j;have x:=hV.small;have B:CW f=0:=by rw[CW,j]; rfl
  rw[tI,uZ j,nM j];simp only[go_sem,B,alT,a8E];refine y.sC fun n H2 w=>?_;have g2:=w.at 1 rfl;have E:=w.set 1 rfl (gR f);simp only[go_sem,g2];generalize H2.set n (.rows 2 [[.int .i64 (f.a6R.length:Nat),.int .i64 (f.a6S.length:Nat)]])=W at *
  have N:=E.at 1 rfl;simp only[go_sem,alU,N,a8E];refine aB (l.drv f x f.a6P.length (by have:=x.a6P; omega)) rfl ?_;simp only[go_sem];refine E.sC fun o J F=>?_;have g4:=F.at 2 rfl;have h5:=F.set 2 rfl (cN (aY f f.a6P.length) .aD);simp only[go_sem,g4];generalize J.set o (.rows 4 [[.int .i64 ((aY f f.a6P.length:Nat):Int),.int .i64 0,.int .i64 1,.aD]])=K at *
  have O:aM K [(o,cN (aY f f.a6P.length) .aD),(n,gR f),(z,fX)] [(.aD,4,[])]:=by refine (h5.kB 4).perm ?_ (baQ.refl _);exact (List.reverse_perm _).symm
  simp only[go_sem,alV,alW];refine aGG l f A hV room o n z _ O (by (repeat' (first|exact c_|refine d_ ?_ ?_))<;>first|(simp only[go_sem,jI]<;>rfl)|rfl) fun U X h7=>?_;have u:=(l.roomM f room A).freeze;rw[IR,if_pos j] at u;simp only[go_sem,Ry,jI];refine aB u rfl ?_;simp only[go_sem,iV,rX];refine aAQ l f hV room o n z _ ((a8D f.a6R.length).flatMap (fI f)) (by have:=CG x f.a6R.length; have:=x.a6R; omega) U h7 (by (repeat' (first|exact c_|refine d_ ?_ ?_))<;>first|(simp only[go_sem,iV,rX]<;>rfl)|rfl) fun I Y h8=>?_;have a7:=h8.at 0 rfl;have a4:=h8.at 2 rfl;have R:=h8.set 2 rfl (cN (aY f f.a6P.length) I);simp only[go_sem,R3,a7,a4];refine⟨_,if_pos ?_,?_⟩
  ·rcases h8.own 0 rfl with ⟨_,e⟩ | ⟨q,rs,e,_⟩<;>rw[e]
  refine pE (vs:=[.agg [.int .i64 ((aY f f.a6P.length:Nat):Int),.int .i64 0,.int .i64 1,I],.int .i64 0]) (.inr rfl) Sq ?_;exact bo R
theorem aIM {C:Ctx} (n:bY) (j:eU n):KQ.wp C (aT Zl.res (aI (.bool true))) (PF.args [.agg n.cells]) .nil:=by
 have a1:¬ (n.nodes:Int)<2:=by have:=j.two; omega
 have a2:¬ (n.nodes:Int)>700:=by have:=j.few; omega
 have a3:¬ (n.arcs.length:Int)>2500:=by have:=j.num; omega
 have a4:¬ (n.source:Int)=n.sink:=by have:=j.apart; omega
 have a5:¬ (n.source:Int)<0:=Om;have a6:¬ (n.source:Int)≥n.nodes:=by have:=j.source; omega
 have a7:¬ (n.sink:Int)<0:=Om;have a8:¬ (n.sink:Int)≥n.nodes:=by have:=j.sink; omega
 have J:=j.num;simp only[go_sem,KQ,Jz,Zl,J0,a1,a2,a3,a5,a6,a7,a8,bD a4,J1,a8E];refine wp_loop (α:=Nat) (fun k=>((PF.nil.set 1 (.bO n.cells)).set 3 (.int .i64 (k:Nat)))) (fun _=>.nil) (fun k=>k≤n.arcs.length) (fun k=>n.arcs.length-k) 0 (a8K _) Lq a_ ?_;intro k B;simp only[go_sem,Jy,J2,a8E];by_cases hlt:k<n.arcs.length
 ·have e:(k:Int)<(n.arcs.length:Nat):=Om;obtain⟨E,F,I⟩:=j.ends _ (a8G hlt);have l:¬ ((n.arcs[k]).src:Int)<0:=Om;have u:¬ ((n.arcs[k]).src:Int)≥n.nodes:=Om;have w:¬ ((n.arcs[k]).dst:Int)<0:=Om;have x:¬ ((n.arcs[k]).dst:Int)≥n.nodes:=Om;have y:¬ ((n.arcs[k]).cap:Int)<0:=Om;have A:¬ ((n.arcs[k]).cap:Int)>2147483647:=Om;simp only[go_sem,e,J3,xJ hlt];refine aO fun p K=>?_;simp only[go_sem,J4,l,u,w,x,y,A,J5,wZz k];exact aG (k+1) hlt Om Lq a_
 ·have e:¬ (k:Int)<(n.arcs.length:Nat):=Om;simp only[go_sem,e,xm];refine aR (.inr rfl) Ev ?_;rfl
theorem aVK {C:Ctx} (O:∀ n:bY,eU n→aH C 299 [.agg n.cells] .nil (aI (.bool true))) (n:bY) (u:eU n) (cut:List Bool) (l:au n cut) :
  XY.wp C (aT aPB.res (aI (.tup [.int .i64 ((dQ (fun w=>cut.getD w false) n.arcs:Nat):Int),.bool true]))) (PF.args [.agg n.cells,iJ cut]) .nil:=by
 have a1:(cut.length:Int)=n.nodes:=by have:=l.len; omega
 have I:n.source<cut.length:=by rw[l.len]; exact u.source
 have J:n.sink<cut.length:=by rw[l.len]; exact u.sink
 have U:=u.num;have x:iJ cut=.sl 1 (aZ cut):=rfl;rw[x];simp only[go_sem,XY,asU,aPB,asV];refine aB (O n u) Ev ?_;simp only[go_sem,gE,bJ a1,eP I,eP J,l.src,l.snk,asW,asX];refine wp_loop (α:=Nat) (fun k=>((((PF.nil.set 1 (.sl 1 (aZ cut))).set 2 (.bO n.cells)).set 6 (.int .i64 ((dQ (fun w=>cut.getD w false) (n.arcs.take k):Nat):Int))).set 7 (.int .i64 (k:Nat)))) (fun _=>.nil) (fun k=>k≤n.arcs.length) (fun k=>n.arcs.length-k) 0 (a8K _) Lq a_ ?_;intro k R;simp only[go_sem,asT,asY,a8E];by_cases hlt:k<n.arcs.length
 ·have j:(k:Int)<(n.arcs.length:Nat):=Om;obtain⟨M,N,S⟩:=u.ends _ (a8G hlt);have K:(n.arcs[k]).src<cut.length:=by rw[l.len]; exact M
  have B:(n.arcs[k]).dst<cut.length:=by rw[l.len]; exact N
  have y:=En (fun w=>cut.getD w false) n.arcs hlt;have hb:=Eo u (fun w=>cut.getD w false) (k+1);simp only[go_sem,j,asZ,xJ hlt,eP K,eP B];cases E:cut.getD (n.arcs[k]).src false with
  | false =>rw[if_neg (by rw[E]; rintro⟨h,-⟩; cases h),a9P] at y;simp only[go_sem,ci,wZz k];exact aG (k+1) hlt Om (by (repeat' (first|exact c_|refine d_ ?_ ?_))<;>first|(simp only[go_sem,y]<;>rfl)|rfl) a_
  | true =>
   simp only[go_sem,xJ hlt,eP B];cases F:cut.getD (n.arcs[k]).dst false with
   | true =>rw[if_neg (by rw[F]; rintro⟨-,h⟩; cases h),a9P] at y;simp only[go_sem,ci,wZz k];exact aG (k+1) hlt Om (by (repeat' (first|exact c_|refine d_ ?_ ?_))<;>first|(simp only[go_sem,y]<;>rfl)|rfl) a_
   | false =>
    rw[if_pos ⟨E,F⟩] at y;have e:IntKind.i64.wrap (((dQ (fun w=>cut.getD w false) (n.arcs.take k):Nat):Int)+((n.arcs[k]).cap:Int))=((dQ (fun w=>cut.getD w false) (n.arcs.take (k+1)):Nat):Int):=by rw[wrap_i64 Om Om]; omega
    simp only[go_sem,atA,xJ hlt,e,ci,wZz k];exact aG (k+1) hlt Om Lq a_
 ·have j:¬ (k:Int)<(n.arcs.length:Nat):=Om;have A:n.arcs.take k=n.arcs:=a8V Om;simp only[go_sem,j,Zf,A];refine aR (.inr rfl) Ev ?_;rfl
abbrev cT:=Nat × Bool
def noA:bN:=⟨0,0,0⟩
def bR (n:bY) (i:Nat):bN:=n.arcs.getD i noA
def fP (n:bY) (s:cT):Nat:=if s.2=true then (bR n s.1).dst else (bR n s.1).src
def dK (n:bY) (s:cT):Nat:=if s.2=true then (bR n s.1).src else (bR n s.1).dst
def dO (n:bY) (xs:List Nat) (s:cT):Nat:=if s.2=true then (bR n s.1).cap-xs.getD s.1 0 else xs.getD s.1 0
structure qF (n:bY) (xs:List Nat) (Q:List Nat) (way:Nat→cT):Prop where
 first:∃ t,Q=n.source::t
 nd:Q.Nodup
 lt:∀ v∈Q,v<n.nodes
 way:∀ v∈Q,v≠n.source→(way v).1<n.arcs.length∧fP n (way v)=v∧0<dO n xs (way v)∧dK n (way v)∈Q∧Q.idxOf (dK n (way v))<Q.idxOf v
def FT (n:bY) (xs:List Nat) (Q:List Nat) (k:Nat):Prop:=∀ v∈Q.take k,∀ s:cT,s.1<n.arcs.length→dK n s=v→0<dO n xs s→fP n s∈Q
theorem wP {n:bY} {i:Nat} {a:bN} (h:n.arcs[i]?=some a):bR n i=a:=by unfold bR; rw[a8M,h]; rfl
theorem acE {n:bY} (B:eU n) {xs:List Nat} (w:hZ n xs) {Q:List Nat} {way:Nat→cT} (y:qF n xs Q way) (hD:FT n xs Q Q.length) (E:n.sink ∉ Q):jF n xs=dQ (fun v=>Q.contains v) n.arcs:=by
 obtain⟨t,F⟩:=y.first;refine w.full B (by rw[F]; simp) (by simpa using E) fun i a x e u=>⟨fun j l=>?_,fun j l=>?_⟩
 ·have hi:=(a9F.1 e).1;have j:a.src∈Q:=by simpa using j
  have l:a.dst ∉ Q:=by simpa using l
  have A:=w.le i a x e u;rcases a8Z x a.cap with c | c
  ·refine absurd (hD a.src (by rw[a9M]; exact j) (i,true) hi ?_ ?_) ?_
   ·unfold dK; rw[if_pos rfl,wP e]
   ·unfold dO;rw[if_pos rfl,wP e,a8M,u];simp only[baW]; omega
   ·unfold fP;rw[if_pos rfl,wP e]; exact l
  ·omega
 ·have hi:=(a9F.1 e).1;have j:a.src ∉ Q:=by simpa using j
  have l:a.dst∈Q:=by simpa using l
  rcases baN x with c | c
  ·exact c
  ·refine absurd (hD a.dst (by rw[a9M]; exact l) (i,false) hi ?_ ?_) ?_
   ·unfold dK; rw[if_neg (show ¬ (false=true) by decide),wP e]
   ·unfold dO;rw[if_neg (show ¬ (false=true) by decide),a8M,u];exact c
   ·unfold fP;rw[if_neg (show ¬ (false=true) by decide),wP e]; exact j
inductive vO (n:bY) (Q:List Nat) (way:Nat→cT):Nat→List cT→Prop
 | nil:vO n Q way n.source []
 | cons {v:Nat} {L:List cT} (hv:v∈Q) (hne:v≠n.source) (h:vO n Q way (dK n (way v)) L):vO n Q way v (way v::L)
theorem Em {n:bY} {xs Q:List Nat} {way:Nat→cT} (w:qF n xs Q way):∀ (m v:Nat),Q.idxOf v=m→v∈Q→∃ L,vO n Q way v L∧L.length≤m:=by
 intro m
 induction m using Nat.strongRecOn with
 | ind m x =>
  intro v F j;by_cases e:v=n.source
  ·subst e;exact⟨[],.nil,a8K _⟩
  ·obtain⟨y,A,B,l,h5⟩:=w.way v j e;obtain⟨L,u,E⟩:=x _ Om (dK n (way v)) rfl l;exact⟨way v::L,.cons j e u,by simp; omega⟩
theorem vO.a4D {n:bY} {xs Q:List Nat} {way:Nat→cT} (x:qF n xs Q way):∀ {v:Nat} {L:List cT},vO n Q way v L→v∈Q→∀ s∈L,s.1<n.arcs.length∧0<dO n xs s∧Q.idxOf (dK n s)<Q.idxOf (fP n s)∧Q.idxOf (fP n s)≤Q.idxOf v:=by
 intro v L h
 induction h with
 | nil=>intro _ s hs; cases hs
 | @cons v L y e h A =>
  intro _ s hs;obtain⟨l,j,u,w,h5⟩:=x.way v y e;rcases a8S.1 hs with rfl | hs
  ·exact⟨l,u,by rw[j]; exact h5,by rw[j]; exact a8J _⟩
  ·obtain⟨g1,g2,g3,g4⟩:=A w s hs;exact⟨g1,g2,g3,by omega⟩
theorem vO.apart {n:bY} {xs Q:List Nat} {way:Nat→cT} (w:qF n xs Q way) {v:Nat} {s:cT} {L:List cT} (h:vO n Q way v (s::L)) (B:v∈Q):∀ s'∈L,s'.1≠s.1:=by
 intro s' u e;cases h with
 | cons _ l h =>
  obtain⟨E,y,F,A,h5⟩:=w.way v B l;obtain⟨g1,g2,g3,g4⟩:=h.a4D w A s' u;have x:Q.idxOf (dK n (way v))<Q.idxOf (fP n (way v)):=by rw[y]; exact h5
  unfold fP dK at x g3 g4;rw[e] at g3 g4;have I:=g4;cases hb:(way v).2<;>cases j:s'.2<;>simp only[hb,j,bbH,if_true,if_false] at x g3 g4<;>omega
def push (e:Nat) (j:List Nat) (s:cT):List Nat:=j.set s.1 (if s.2=true then j.getD s.1 0+e else j.getD s.1 0-e)
theorem m8 (e:Nat) (j:List Nat) (s:cT):(push e j s).length=j.length:=by unfold push; rw[a9X]
structure aw (n:bY) (xs ys:List Nat) (amt v:Nat) (L:List cT):Prop where
 len:ys.length=n.arcs.length
 le:∀ (i:Nat) a x,n.arcs[i]?=some a→ys[i]?=some x→x≤a.cap
 net:∀ w,gI n.arcs ys w=gI n.arcs xs w-(if w=n.sink then (amt:Int) else 0)+(if w=v then (amt:Int) else 0)
 same:∀ s∈L,ys.getD s.1 0=xs.getD s.1 0
theorem Hb {n:bY} {xs:List Nat} (j:hZ n xs) (e:Nat) (L:List cT):aw n xs xs e n.sink L:=⟨j.len,j.le,fun w=>by split<;>omega,fun _ _=>rfl⟩
theorem Xa {n:bY} {xs K Q:List Nat} {way:Nat→cT} (R:qF n xs Q way) {j v:Nat} {s:cT} {L:List cT} (l:aw n xs K j v (s::L)) (hB:vO n Q way v (s::L)) (U:v∈Q) (E:j≤dO n xs s) :
  dK n s∈Q∧vO n Q way (dK n s) L∧aw n xs (push j K s) j (dK n s) L:=by
 have M:=hB.apart R U;cases hB with
 | cons _ N hB =>
  obtain⟨O,B,W,V,h5⟩:=R.way v U N;generalize way v=s at *
  have u:n.arcs[s.1]?=some (bR n s.1):=by unfold bR; rw[a8M,a8L O]; rfl
  have I:s.1<K.length:=by rw[l.len]; exact O
  have F:K[s.1]?=some (K.getD s.1 0):=by rw[a8M,a8L I]; rfl
  have y:=l.same s (by simp);have S:=l.le _ _ _ u F;unfold dO at E;rw[← y] at E;refine⟨V,hB,by rw[m8]; exact l.len,fun i a x hi A=>?_,fun w=>?_,fun s' J=>?_⟩
  ·unfold push at A;by_cases e:i=s.1
   ·subst e;rw[List.getElem?_set_self I] at A;rw[u] at hi;cases hi;simp only[baP.injEq] at A;subst A;cases hb:s.2 with
    | true=>rw[hb,if_pos rfl] at E; rw[if_pos rfl]; omega
    | false=>rw[if_neg (by decide)]; omega
   ·rw[List.getElem?_set_ne (fun h=>e h.symm)] at A;exact l.le i a x hi A
  ·unfold push;rw[arR _ u F,l.net];unfold fP at B;unfold dK;cases hb:s.2 with
   | true =>rw[hb,if_pos rfl] at E B;simp only[if_true];rw[B];split<;>split<;>split<;>split<;>omega
   | false =>rw[hb,if_neg (by decide)] at E B;simp only[bbH,if_false];rw[B];split<;>split<;>split<;>split<;>omega
  ·unfold push;have:=M s' J;rw[a8M,List.getElem?_set_ne (fun h=>this h.symm),← a8M];exact l.same s' (bbB _ J)
theorem W9 {n:bY} (y:eU n) {xs l:List Nat} (x:hZ n xs) {e:Nat} {L:List cT} (j:aw n xs l e n.source L):hZ n l∧jF n l=jF n xs+e:=by
 refine⟨⟨j.len,j.le,fun v A u w=>?_⟩,?_⟩
 ·rw[j.net,x.node v A u w,if_neg w,if_neg u]; rfl
 ·unfold jF;rw[j.net,if_neg y.apart,if_pos rfl]; omega
abbrev eV (xs:List Nat):List (List PV):=xs.map fun x=>[PV.int .i64 ((x:Nat):Int)]
theorem jP {xs:List Nat} {i:Nat} (h:i<xs.length):(eV xs)[i]?=some [.int .i64 ((xs.getD i 0:Nat):Int)]:=by
 rw[a8Y,a8L h,a8M,a8L h]; rfl
abbrev xD (n:bY) (fo m:Nat) (out:PV):bZ:=.rows 6 [[.int .i64 (n.nodes:Nat),.int .i64 (n.source:Nat),.int .i64 (n.sink:Nat),Bh n.arcs,.osl fo 1 0 m,out]]
abbrev sH (n:bY) (e fo:Nat) (xs:List Nat) (out:PV):PH:=(PH.nil.set e (xD n fo xs.length out)).set fo (.rows 1 (eV xs))
def stI (s:cT):Int:=if s.2=true then (s.1:Int) else -1-(s.1:Int)
structure pG (n:bY) (xs:List Nat):Prop where
 len:xs.length=n.arcs.length
 le:∀ i,i<n.arcs.length→xs.getD i 0≤(bR n i).cap
theorem nC {n:bY} {i:Nat} (h:i<n.arcs.length):n.arcs[i]=bR n i:=(wP (a8L h)).symm
theorem kD {n:bY} {i:Nat} (h:i<n.arcs.length):(n.arcs.map bN.cells)[i]?=some (bR n i).cells:=by rw[xJ h,nC h]
theorem aNW {C:Ctx} (n:bY) (K:eU n) (w fo:Nat) (u:¬ w=fo) (xs:List Nat) (M:pG n xs) (out:PV) (s:cT) (l:s.1<n.arcs.length) :
  DM.wp C (aT O8.res (fun r H'=>r=.tup [.int .i64 ((fP n s:Nat):Int),.int .i64 ((dO n xs s:Nat):Int)]∧H'=sH n w fo xs out)) (PF.args [.ptr w 6 0 0,.int .i64 (stI s)]) (sH n w fo xs out):=by
 have j:¬ fo=w:=fun e=>u e.symm;obtain⟨i,b⟩:=s;have l:i<n.arcs.length:=l;have A:i<xs.length:=by rw[M.len]; exact l
 have y:(i:Int)<(xs.length:Nat):=Om;have N:=M.le i l;have x:=(K.ends _ (a8G l)).2.2;rw[nC l] at x;have O:=K.num;cases b with
 | true =>
  have E:stI (i,true)=(i:Int):=rfl;have F:fP n (i,true)=(bR n i).dst:=rfl;have I:dO n xs (i,true)=(bR n i).cap-xs.getD i 0:=rfl;rw[E,F,I];have B:(i:Int)≥0:=Om;have J:IntKind.i64.wrap (((bR n i).cap:Int)-((xs.getD i 0:Nat):Int))=(((bR n i).cap-xs.getD i 0:Nat):Int):=by rw[wrap_i64 Om Om]; omega
  simp only[go_sem,DM,kz,O8,k6,B];refine aV .nil cA a_ ?_;simp only[go_sem,Wp,u,j,kD l,y,jP A,J];exact bA (vs:=[.int .i64 (((bR n i).dst:Nat):Int),.int .i64 (((bR n i).cap-xs.getD i 0:Nat):Int)]) (.inr rfl) (sH n w fo xs out) rfl (fun _ _ h=>h) ⟨rfl,rfl⟩
 | false =>
  have E:stI (i,false)=-1-(i:Int):=rfl;have F:fP n (i,false)=(bR n i).src:=rfl;have I:dO n xs (i,false)=xs.getD i 0:=rfl;rw[E,F,I];have B:¬ (-1-(i:Int))≥0:=Om;have J:IntKind.i64.wrap (-1-(-1-(i:Int)))=(i:Int):=by rw[wrap_i64 Om Om]; omega
  simp only[go_sem,DM,kz,O8,k6,B];refine aV .nil cA a_ ?_;simp only[go_sem,Wq,u,j,J,kD l,y,jP A];exact bA (vs:=[.int .i64 (((bR n i).src:Nat):Int),.int .i64 ((xs.getD i 0:Nat):Int)]) (.inr rfl) (sH n w fo xs out) rfl (fun _ _ h=>h) ⟨rfl,rfl⟩
theorem aNU {C:Ctx} (n:bY) (E:eU n) (u fo:Nat) (l:¬ u=fo) (xs:List Nat) (out:PV) (s:cT) (w:s.1<n.arcs.length) :
  DK.wp C (aT O7.res (fun r H'=>r=.int .i64 ((dK n s:Nat):Int)∧H'=sH n u fo xs out)) (PF.args [.ptr u 6 0 0,.int .i64 (stI s)]) (sH n u fo xs out):=by
 have j:¬ fo=u:=fun e=>l e.symm;obtain⟨i,b⟩:=s;have w:i<n.arcs.length:=w;have F:=E.num;cases b with
 | true =>have y:stI (i,true)=(i:Int):=rfl;have A:dK n (i,true)=(bR n i).src:=rfl;rw[y,A];have x:(i:Int)≥0:=Om;simp only[go_sem,DK,kx,O7,ky,x,Wk,l,j,kD w];exact bA (vs:=[.int .i64 (((bR n i).src:Nat):Int)]) (.inr rfl) (sH n u fo xs out) rfl (fun _ _ h=>h) ⟨rfl,rfl⟩
 | false =>
  have y:stI (i,false)=-1-(i:Int):=rfl;have A:dK n (i,false)=(bR n i).dst:=rfl;rw[y,A];have x:¬ (-1-(i:Int))≥0:=Om;have B:IntKind.i64.wrap (-1-(-1-(i:Int)))=(i:Int):=by rw[wrap_i64 Om Om]; omega
  simp only[go_sem,DK,kx,O7,ky,x,Wl,l,j,B,kD w];exact bA (vs:=[.int .i64 (((bR n i).dst:Nat):Int)]) (.inr rfl) (sH n u fo xs out) rfl (fun _ _ h=>h) ⟨rfl,rfl⟩
def HL (way:Nat→cT) (v:Nat) (s:cT):Nat→cT:=fun w=>if w=v then s else way w
theorem x5 {n:bY} (l:eU n) (xs:List Nat) (way:Nat→cT):qF n xs [n.source] way:=by
 refine⟨⟨[],rfl⟩,by simp,fun v e=>?_,fun v e j=>?_⟩
 ·rw[a9K] at e;subst e;exact l.source
 ·exact absurd (a9K.1 e) j
theorem kg {Q:List Nat} {v a:Nat} (h:v∈Q):(Q++[a]).idxOf v=Q.idxOf v:=by
 rw[List.idxOf_append,if_pos h]
theorem aJT {n:bY} (N:eU n) {xs Q:List Nat} {way:Nat→cT} (j:qF n xs Q way) {s:cT} (w:s.1<n.arcs.length) (l:dK n s∈Q) (x:fP n s ∉ Q) (O:0<dO n xs s) :
  qF n xs (Q++[fP n s]) (HL way (fP n s) s):=by
 obtain⟨t,K⟩:=j.first;have y:fP n s<n.nodes:=by have:=N.ends _ (a8G w);rw[show n.arcs[s.1]=bR n s.1 from (wP (a8L w)).symm] at this;unfold fP;split<;>omega
 refine⟨⟨t++[fP n s],by rw[K]; rfl⟩,?_,fun v A=>?_,fun v A u=>?_⟩
 ·rw[bbG];refine⟨j.nd,by simp,fun a M b hb=>?_⟩;rw[a9K] at hb;subst hb;rintro rfl;exact x M
 ·rcases a9N.1 A with h | h
  ·exact j.lt v h
  ·rw[a9K] at h;subst h;exact y
 ·rcases a9N.1 A with h | h
  ·have B:v≠fP n s:=fun e=>x (e ▸ h);obtain⟨E,I,J,F,h5⟩:=j.way v h u;unfold HL;rw[if_neg B];exact⟨E,I,J,bbQ _ F,by rw[kg F,kg h]; exact h5⟩
  ·rw[a9K] at h;subst h;unfold HL;rw[if_pos rfl];refine⟨w,rfl,O,bbQ _ l,?_⟩;rw[kg l];have E:=List.idxOf_lt_length_of_mem l;rw[List.idxOf_append,if_neg x];omega
theorem V5:∀ (n:Nat) (Q:List Nat),Q.Nodup→(∀ v∈Q,v<n)→Q.length≤n
 | 0,[],_,_=>a8J _
 | 0,v::Q,_,h=>absurd (h v (by simp)) Om
 | n+1,Q,l,h=>by
  by_cases e:n∈Q
  ·have u:=V5 n (Q.erase n) (l.erase n) fun v j=>by have x:=(l.mem_erase_iff).1 j;have:=h v x.2;omega
   rw[List.length_erase_of_mem e] at u;omega
  ·have u:=V5 n Q l fun v j=>by have:=h v j;have:v≠n:=fun w=>e (w ▸ j);omega
   omega
theorem HC {n:bY} {xs Q:List Nat} {way:Nat→cT} (e:qF n xs Q way):Q.length≤n.nodes:=V5 _ _ e.nd e.lt
theorem Es (n:bY) (xs Q:List Nat):FT n xs Q 0:=fun v e=>by simp at e
theorem aFT {n:bY} {xs Q:List Nat} {k:Nat} (h:FT n xs Q k) (w:k≤Q.length) (a:Nat):FT n xs (Q++[a]) k:=fun v e s j l u=>by
 rw[List.take_append_of_le_length w] at e;exact bbQ _ (h v e s j l u)
theorem Er {n:bY} {xs Q:List Nat} {k v:Nat} (h:FT n xs Q k) (B:Q[k]?=some v) (j:∀ s:cT,s.1<n.arcs.length→dK n s=v→0<dO n xs s→fP n s∈Q):FT n xs Q (k+1):=fun w y s l u x=>by
 obtain⟨A,e⟩:=a9F.1 B;rw[baF A,e] at y;rcases a9N.1 y with g | g
 ·exact h w g s l u x
 ·rw[a9K] at g;subst g;exact j s l u x
structure O3 (n:bY) (outL:List (List Int)):Prop where
 len:outL.length=n.nodes
 all:∀ s:cT,s.1<n.arcs.length→stI s∈outL.getD (dK n s) []
 only:∀ v c,c∈outL.getD v []→∃ s:cT,s.1<n.arcs.length∧dK n s=v∧c=stI s
 few:∀ v,(outL.getD v []).length≤1000000
def byL (cd:cT→Int) (n:bY) (Q:List Nat) (way:Nat→cT):List Int:=(a8D n.nodes).map fun v=>if v∈Q∧v≠n.source then cd (way v) else 0
def seL (n:bY) (Q:List Nat):List Bool:=(a8D n.nodes).map fun v=>Q.contains v
theorem qE {α:Type} (g h:Nat→α) (N t:Nat) (x:α) (w:h t=x) (u:∀ v,v≠t→h v=g v):((a8D N).map g).set t x=(a8D N).map h:=by
 refine List.ext_getElem? fun i=>?_;rw[bbV,a8E,baJ,a8Y,a8Y];by_cases e:t=i
 ·subst e;rw[if_pos rfl];by_cases l:t<N
  ·rw[if_pos l,baS l,← w]; rfl
  ·rw[if_neg l,a9S (by simpa using l)]; rfl
 ·rw[if_neg e];by_cases l:i<N
  ·rw[baS l,a9J,a9J,u i fun j=>e j.symm]
  ·rw[a9S (by simpa using l)]; rfl
theorem Bk {cd:cT→Int} {n:bY} {Q:List Nat} {way:Nat→cT} {t:Nat} {s:cT} (l:n.source∈Q) (u:t ∉ Q):(byL cd n Q way).set t (cd s)=byL cd n (Q++[t]) (HL way t s):=by
 refine qE _ _ _ _ _ ?_ fun v j=>?_
 ·have:t≠n.source:=fun e=>u (e ▸ l);rw[if_pos ⟨by simp,this⟩,HL,if_pos rfl]
 ·rw[HL,if_neg j];have:(v∈Q++[t])↔v∈Q:=by simp[j]
  simp only[this]
theorem Do (n:bY) (Q:List Nat) (t:Nat):(seL n Q).set t true=seL n (Q++[t]):=by
 refine qE _ _ _ _ _ ?_ fun v e=>?_
 ·simp
 ·simp[e]
theorem Qd (cd:cT→Int) (n:bY) (way:Nat→cT):a8F n.nodes [PV.int .i64 0]=bU (byL cd n [n.source] way):=by
 refine List.ext_getElem? fun i=>?_;unfold bU byL;rw[bcC,a8Y,a8Y];by_cases l:i<n.nodes
 ·rw[if_pos l,baS l,a9J,a9J,if_neg (by simp)]
 ·rw[if_neg l,a9S (by simpa using l)]; rfl
theorem acC (n:bY):(a8F n.nodes [PV.bool false]).set n.source [PV.bool true]=aZ (seL n [n.source]):=by
 have w:a8F n.nodes [PV.bool false]=(a8D n.nodes).map fun _=>[PV.bool false]:=by
  refine List.ext_getElem? fun i=>?_;rw[bcC,a8Y];by_cases l:i<n.nodes
  ·rw[if_pos l,baS l]; rfl
  ·rw[if_neg l,a9S (by simpa using l)]; rfl
 have j:[n.source].contains n.source=true:=by simp
 have u:∀ v,v≠n.source→[n.source].contains v=false:=by intro v e; simp[e]
 have x:=qE (fun _=>[PV.bool false]) (fun v=>[PV.bool ([n.source].contains v)]) n.nodes n.source [PV.bool true] (by rw[j]) (fun v e=>by rw[u v e]);rw[w,x];unfold aZ seL;rw[List.map_map]; rfl
theorem MQ (cd:cT→Int) (n:bY) (Q:List Nat) (way:Nat→cT):(byL cd n Q way).length=n.nodes:=by simp[byL]
theorem AM (n:bY) (Q:List Nat):(seL n Q).length=n.nodes:=by simp[seL]
theorem NL {n:bY} {Q:List Nat} {v:Nat} (h:v<n.nodes):(seL n Q).getD v false=Q.contains v:=by
 unfold seL;rw[a8M,a8Y,baS h]; rfl
structure RS where
 Q:List Nat
 k:Nat
 way:Nat→cT
 v:PV
 q:Nat
 H:PH
 d:Nat
structure pI (n:bY) (xs:List Nat) (X:PH) (cd:cT→Int) (b e:Nat) (a:RS):Prop where
 seen:qF n xs a.Q a.way
 done:FT n xs a.Q a.d
 dk:a.d≤a.k
 k:a.k≤a.Q.length
 base:X.le a.H
 hb:a.H b=some (.rows 1 (bU (byL cd n a.Q a.way)))
 he:a.H e=some (.rows 1 (aZ (seL n a.Q)))
 hq:yD a.H 1 a.q a.v (eV (a.Q.drop a.k))
 ne:X a.q=none∧a.q≠b∧a.q≠e
theorem sJ {X H:PH} {o:Nat} {y:bZ} (h:X.le H) (j:X o=none):X.le (H.set o y):=fun q x hq=>by
 rw[aS,if_neg (fun e=>by subst e; rw[j] at hq; cases hq)];exact h q x hq
def aFK (n:bY) (e fo:Nat) (xs:List Nat) (out:PV) (r:PV) (H:PH):Prop :=
 ∃ Q way,qF n xs Q way∧FT n xs Q Q.length∧r=.tup [ints (byL stI n Q way),.sl 1 (aZ (seL n Q))]∧H=sH n e fo xs out
theorem pI.step {n:bY} (U:eU n) {xs:List Nat} {X:PH} {cd:cT→Int} {b e:Nat} {a:RS} (h:pI n xs X cd b e a) (hd:X b=none∧X e=none∧¬ b=e) {s:cT} (hs:s.1<n.arcs.length) (hf:dK n s∈a.Q) (ht:fP n s ∉ a.Q) (hr:0<dO n xs s)
  {K:PV→PH→Prop} (hK:∀ w:RS,pI n xs X cd b e w→w.Q=a.Q++[fP n s]→w.k=a.k→w.d=a.d→K w.v w.H) :
  oF ((a.H.set e (.rows 1 (aZ (seL n (a.Q++[fP n s]))))).set b (.rows 1 (bU (byL cd n (a.Q++[fP n s]) (HL a.way (fP n s) s))))) 1 8 a.v (.sl 1 [[.int .i64 ((fP n s:Nat):Int)]]) K:=by
 obtain⟨W,Y,Z⟩:=hd;obtain⟨V,N,O⟩:=h.ne;have R:=aJT U h.seen hs hf ht hr;have y:=HC R;rw[a8H,a8N] at y;have S:=U.few;have hq:yD ((a.H.set e (.rows 1 (aZ (seL n (a.Q++[fP n s]))))).set b (.rows 1 (bU (byL cd n (a.Q++[fP n s]) (HL a.way (fP n s) s))))) 1 a.q a.v (eV (a.Q.drop a.k)):=h.hq.ext fun x j=>by rw[aS,if_neg N,aS,if_neg O]; exact j
 refine hq.append (src:=[[.int .i64 ((fP n s:Nat):Int)]]) rfl ?_ fun E v' H' g1 g2 g3 g4=>?_
 ·unfold roomFor;rw[a8E,a9Z,a8N];simp only[maxLen];omega
 have J:∀ o x,o≠a.q→a.H o=some x→o≠b→o≠e→H' o=some x:=fun o x hq M hb he=>g3 o x hq (by rw[aS,if_neg hb,aS,if_neg he]; exact M);have I:eV (a.Q.drop a.k)++[[PV.int .i64 ((fP n s:Nat):Int)]]=eV ((a.Q++[fP n s]).drop a.k):=by rw[List.drop_append_of_le_length h.k,show ∀ A B:List Nat,eV (A++B)=eV A++eV B from fun A B=>a9U]; rfl
 rw[I] at g1;have u:∀ o x,a.H o=some x→o≠a.q→E≠o:=fun o x M hq l=>by
  subst l;rcases g2 with g | g
  ·exact hq g
  ·rw[aS] at g;split at g
   ·cases g
   ·rw[aS] at g;split at g
    ·cases g
    ·rw[M] at g; cases g
 have F:X E=none:=by
  cases j:X E with
  | none=>rfl
  | some x=>exact absurd rfl (u E x (h.base _ _ j) fun l=>by rw[l,V] at j; cases j)
 refine hK ⟨a.Q++[fP n s],a.k,HL a.way (fP n s) s,v',E,H',a.d⟩ ⟨R,aFT h.done (baK h.dk h.k) _,h.dk,?_,fun o x j=>J o x (fun l=>by rw[l,V] at j; cases j) (h.base _ _ j) (fun l=>by rw[l,W] at j; cases j) (fun l=>by rw[l,Y] at j; cases j),?_,?_,g1,?_⟩ rfl rfl rfl
 ·have:=h.k;show a.k≤(a.Q++[fP n s]).length;rw[a8H];omega
 ·exact g3 b _ N.symm (by rw[bS])
 ·exact g3 e _ O.symm (by rw[aS,if_neg (fun l=>Z l.symm),bS])
 ·exact⟨F,u _ _ h.hb N.symm,u _ _ h.he O.symm⟩

def aSE (c:UInt8) (n:Nat):List UInt8:=[c,UInt8.ofNat (97+n/26%26),UInt8.ofNat (97+n%26)]
def Qm (ds:List dB) (level parent a7K:Nat):List dB:=ds++[⟨aSE 110 ds.length,(level:Nat),(parent:Nat),(a7K:Nat),pZ⟩]
theorem aOC (a b:Nat) (l:a<4294967296) (hb:b<4294967296):(mkT (a:Int) (b:Int)).Ok:=by
 rw[apL];have e:=Nat.div_le_self a (a8I a b);have j:=Nat.div_le_self b (a8I a b);have k1:nl (a/a8I a b)≤1:=(lS _ _).2 Om;have k2:nl (b/a8I a b)≤1:=(lS _ _).2 Om;refine⟨aX _,aX _,?_,?_⟩
 ·show (aJ _).length≤_;rw[bC]; omega
 ·show (aJ _).length≤_;rw[bC]; omega
theorem Vj {n:Nat} (h:n≤1000000):eJ (n:Int):=by unfold eJ; omega
def Pm (ds:List dB):Prop:=∀ x∈ds,x.a7F.Ok∧eJ x.level∧eJ x.parent
theorem Pm.dom {ds:List dB} (h:Pm ds) {level parent a7K:Nat} (j:level≤1000) (l:parent≤1000):Pm (Qm ds level parent a7K):=fun x e=>by
 unfold Qm at e;rw[a9N,a9K] at e;rcases e with e | rfl
 ·exact h x e
 ·exact⟨aOC 0 1 (by decide) (by decide),Vj Om,Vj Om⟩
structure FM (f:aE):Prop where
 ok:f.Ok
 km:∀ p∈f.a6T,1≤p.k∧p.k≤2∧0≤p.m∧p.m≤2
 a6P:f.a6P.length≤9
 pols:1≤f.a6T.length∧f.a6T.length≤2
 vols:∀ x∈f.a6R,0≤x.a7C∧x.a7C<f.a6T.length
theorem FM.pol {f:aE} (h:FM f) {v:Nat} (j:v<f.a6R.length):CU f v<f.a6T.length∧cO f v∈f.a6T:=by
 have l:=h.vols _ (a8G j);have u:CU f v=(f.a6R[v]).a7C.toNat:=by rw[CU,getD_at j]
 have e:CU f v<f.a6T.length:=Om;refine⟨e,?_⟩;unfold cO;rw[a8M,a8L e,baW];exact a8G e
theorem FM.R6 {f:aE} (h:FM f) {v:Nat} (e:v<f.a6R.length):1≤pV f v∧pV f v≤4:=by
 have:=h.km _ (h.pol e).2;unfold pV;omega
abbrev a1L (l:List Int) (a:Nat):bZ:=.rows 2 [[ints l,.int .i64 (a:Nat)]]
section
variable {C:Ctx} {F:PF} {H Hs:PH} {l:List Int} {o a:Nat}
end
structure ME where
 o:Nat
 o4:Nat
 o5:Nat
 vols:Nat
abbrev ME.boxes (E:ME) (l:List Int) (ext e j u w wp wv:PV) (a:Nat):List BX:=[(E.o5,flB ext e j u w wp wv),(E.o,a1L l a),(E.o4,flZ)]





def a3J (ds:List dB) (i:Nat) (d:dB):Prop:=∃ lev p u:Nat,d.name=aSE 110 (i+1)∧d.level=lev∧1≤lev∧lev≤4∧d.parent=p∧p≤i∧(lvs ds)[p]?=some ((lev:Int)-1)∧d.a7K=u∧1≤u∧u≤64∧d.a7F=pZ
structure DV (ds:List dB):Prop where
 root:ds[0]?=some BH
 dom:∀ i (hi:i+1<ds.length),a3J ds i ds[i+1]
theorem DV.new {ds:List dB} (h:DV ds) {level parent up:Nat} (x:1≤level) (y:level≤4) (e:(lvs ds)[parent]?=some ((level:Int)-1)) (B:1≤up) (E:up≤64) :
  DV (Qm ds level parent up)∧(lvs (Qm ds level parent up))[ds.length]?=some (level:Int):=by
 have A:parent<ds.length:=by
  have:=(a9F.1 e).1
  rwa [a8E] at this
 unfold Qm;refine⟨⟨by rw[baB Om]; exact h.root,fun i hi=>?_⟩,?_⟩
 ·simp only[a8H,a8N] at hi;by_cases hlt:i+1<ds.length
  ·rw[List.getElem_append_left hlt];obtain⟨lev,p,v,g1,g2,g3,g4,j,l,u,w⟩:=h.dom i hlt;exact⟨lev,p,v,g1,g2,g3,g4,j,l,aoQ u,w⟩
  ·have:i+1=ds.length:=Om;rw[List.getElem_append_right Om];simp only[List.getElem_singleton];exact⟨level,parent,up,by rw[this],rfl,x,y,rfl,by omega,aoQ e,rfl,B,E,rfl⟩
 ·unfold lvs;rw[a9U,baD (by rw[a8E]; exact a8J _),a8E,Nat.sub_self];rfl




theorem aM.store {H:PH} {B:List BX} {L:List LI} (h:aM H B L) (i:Nat) {q s n:Nat} {rows:List (List PV)} (hi:L[i]?=some (.osl q s 0 n,s,rows)) (k:Nat) (c:List PV) :
  ∃ rs,H q=some (.rows s rs)∧n≤rs.length∧rs.take n=rows∧aM (H.set q (.rows s (rs.set k c))) B (L.set i (.osl q s 0 n,s,rows.set k c)):=by
 obtain⟨rs,u,w,j,l⟩:=(h.own i hi).id rfl;injection w with _ _ _ x
 subst x;refine⟨rs,u,j,l,h.SO i hi (.inr ⟨q,rs.set k c,by rw[a9X],by rw[bS],by rw[a9X,a9X]; exact j,by rw[a9X,List.take_set,l]⟩) (fun p e=>.inl e) fun p _ e=>?_⟩;have:p≠q:=e q rfl;rw[aS,if_neg this]

open Go Go.RowKit Go.Sort Go.Shelf Go.Proofs
section
variable {E:Env} {H:PH} {w:World}
end
section
variable {C:Ctx} {ρ:Ren} {name:Nat}
end
abbrev lists (ws:List (List Int)):PV:=.sl 1 (ws.map fun w=>[ints w])
end Go.PM
