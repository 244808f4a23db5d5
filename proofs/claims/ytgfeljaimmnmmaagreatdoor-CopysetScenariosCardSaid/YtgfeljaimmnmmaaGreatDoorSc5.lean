/-
  Texts of ours, joined: R10W11 R10W12 R11Code R11W1 R11W2 R11W3 R11W4 R11W5 R11W6 L11W14 L11W15 Jn5 Pm40 Pm41 Pm42 CsCode CsPlain CsP2 CyW1 CyW2 CyW3 CyW4 RfCode RfPlain R17Code RhW1 RfW1 RfW2 CyW5 CyW6 CyW7 CsP3 RfP2 RfP3 R. No condition.
-/
import Derived.Test.YtgfeljaimmnmmaaGreatDoorSc1
import Derived.Test.YtgfeljaimmnmmaaGreatDoorSc2
import Derived.Test.YtgfeljaimmnmmaaGreatDoorSc3
import Derived.Test.YtgfeljaimmnmmaaGreatDoorSc4
import Derived.RangeFuncRecord
import Derived.Lib.SlicesCompact
import Derived.Shelf.Sort.Plain
import Derived.Shelf.Slices.CompactI
import Derived.Shelf.Slices.In.SortNone
set_option linter.unusedSimpArgs false
set_option linter.unusedVariables false
open Nat renaming reduceEqDiff → γ, reduceAdd → δ, reduceSub → ε, reduceMul → ζ, reduceLT → η, reduceLeDiff → θ, reduceBEq → τ
open Int renaming reduceLT → ι, reduceLE → κ, reduceEq → μ, reduceToNat → ν, reduceAdd → ξ, reduceNeg → ο, reduceBEq → ρ, reduceBNe → σ
open List renaming reduceReplicate → υ
open List renaming length_map → a7G, range → a7H, getElem_mem → a7J, replicate → a7K, length_append → a7O, length_singleton → a7S, mem_cons → a7T, getElem?_eq_getElem → a7U, all_eq_true → a7W, getD_eq_getElem?_getD → a7Z, length_take → a8A, not_mem_nil → a8B, take_of_length_le → a8C, getElem?_map → a8F, map_append → a8G, take_length → a8I, mem_map → a8J, mem_range → a8K, getElem?_eq_some_iff → a8P, append_assoc → a8Q, drop_zero → a8R, getElem_of_mem → a8S, map_cons → a8U, getElem?_eq_none → a8X, length_cons → a8Y, getElem_map → a9B, mem_append → a9C, take_succ_eq_append_getElem → a9E, append_nil → a9G, drop_eq_getElem_cons → a9H, range' → a9I, length_drop → a9J, Sublist → a9K, length_set → a9L, map_nil → a9P, length_nil → a9W, mem_singleton → a9X, getElem?_append_right → a9Y, getElem?_append_left → a9Z, nodup_append → baA, mem_of_getElem? → baC, set_append_right → baD, take_append_drop → baE, ext_getElem → baO, range_succ → baS, getElem?_take → baU, drop_of_length_le → bbA, map_congr_left → bbB, set_cons_zero → bbC, getElem_append_right → bbD
open Nat renaming gcd → a7I, le_refl → a7M, zero_le → a7N, mul_add → a7V, lt_or_ge → a8D, zero_add → a8E, mul_assoc → a8H, mul_comm → a8L, add_mul → a8M, mul_le_mul_right → a8N, mod_eq_of_lt → a8T, le_trans → a8V, mod_lt → a8Z, pow_succ → a9D, add_zero → a9M, eq_zero_or_pos → a9Q, add_assoc → a9R, min_eq_left → a9S, mul_le_mul_left → a9T, pos_of_ne_zero → a9U, pow_pos → baB, div_le_self → baF, sub_self → baG, div_lt_iff_lt_mul → baK, pow_le_pow_right → baL, succ_mul → baM, mul_le_mul → baP, div_add_mod → baV, div_eq_of_lt → baW
open Bool renaming not_true → a7L, false_and → a7P, true_and → a7R, and_eq_true → a7X, not_false → a7Y, and_false → a8O, and_true → a9N, and_assoc → baI, and_self → baJ, false_eq_true → baR
open Option renaming map_eq_some_iff → a7Q, map_some → a8W, some → a9V, getD_some → baH, bind_eq_some_iff → baX, bind_some → baY
open Int renaming toNat_natCast → a9A, tdiv → a9O
open Array renaming replicate → a9F, length_toList → baN, getElem?_eq_some_iff → baQ, getElem?_eq_getElem → baT, getD_eq_getD_getElem? → baZ
namespace Go.PM
open Go Go.Na
def qM (r:cD):Bool:=(r.name==[])&&((r.level==0)&&((r.parent==-1)&&((r.a6P==0)&&(cU (val r.a6K.num) (val r.a6K.den)&&(rD r.a6K==0)))))
def anH (f:aE):Bool:=match f.a5Y with
 | []=>false
 | r::_=>qM r
def aID (f:aE):Bool:=within f.a6Z 1 4&&(pQ f.a6C.length f.a5W.length f.a5Y.length f.a5V.length f.a5Z.length f.a5X.length&&(decide (0<f.a5Y.length)&&((((((IR f&&yJ f)&&anH f)&&wU f)&&yA f)&&ml f)&&Hw f)))
theorem Xw (n:Nat) (p q:Nat→Bool):(a7H n).all (fun i=>p i&&q i)=((a7H n).all p&&(a7H n).all q):=by
 induction n with
 | zero=>rfl
 | succ n c =>simp only[baS,List.all_append,c,List.all_cons,List.all_nil,a9N];cases (a7H n).all p<;>cases (a7H n).all q<;>cases p n<;>simp
theorem yW {α:Type} (l:List α) (p:α→Bool):(a7H l.length).all (fun i=>(l.map p).getD i false)=l.all p:=by
 refine Bool.eq_iff_iff.2 ?_;rw[a7W,a7W];constructor
 ·intro h x c;obtain⟨i,hi,rfl⟩:=a8S c;have:=h i (a8K.2 hi);simpa [a7Z,hi] using this
 ·intro h i hi;have hi:=a8K.1 hi;simp[a7Z,hi,h _ (a7J hi)]
theorem FY (ns:List (List UInt8)) (n:Nat) (c:ns.length=n) (P:Nat→Bool):(a7H n).all (okL [] ns P)=(distinct ns&&(a7H n).all P):=by
 subst c;have:okL [] ns P=fun i=>(isName (ns.getD i [])&&!(ns.take i).contains (ns.getD i []))&&P i:=by funext i;rfl
 rw[this,Xw];rfl
theorem aQZ (base ns:List (List UInt8)) (P Q:Nat→Bool):((a7H base.length).all (okL [] base P)&&(a7H ns.length).all (okL base ns Q))=(distinct (base++ns)&&((a7H base.length).all P&&(a7H ns.length).all Q)):=by
 have c:okL base ns Q=fun i=>(isName (ns.getD i [])&&!(base++ns.take i).contains (ns.getD i []))&&Q i:=by funext i;rfl
 have d:distinct (base++ns)=(distinct base&&(a7H ns.length).all fun i=>isName (ns.getD i [])&&!(base++ns.take i).contains (ns.getD i [])):=by
  unfold distinct;rw[a7O,List.range_add,List.all_append,List.all_map];congr 1
  ·refine Bool.eq_iff_iff.2 ?_;rw[a7W,a7W];refine forall_congr' fun i=>forall_congr' fun hi=>?_;have hi:=a8K.1 hi;have a1:(base++ns).getD i []=base.getD i []:=by simp only[a7Z];rw[a9Z hi]
   have a2:(base++ns).take i=base.take i:=by rw[List.take_append_of_le_length Om]
   rw[a1,a2]
  ·refine Bool.eq_iff_iff.2 ?_;rw[a7W,a7W];refine forall_congr' fun i=>forall_congr' fun _=>?_;have a1:(base++ns).getD (base.length+i) []=ns.getD i []:=by simp only[a7Z];rw[a9Y Om];congr 2;omega
   have a2:(base++ns).take (base.length+i)=base++ns.take i:=by rw[List.take_append,a8C Om]; congr 2; omega
   simp only[Function.comp,a1,a2]
 rw[FY base base.length rfl P,c,Xw,d];cases distinct base<;>cases (a7H base.length).all P<;>simp
theorem aIJ (r:cD):(decide (r.name=[])&&decide (r.level=0)&&decide (r.parent=-1)&&decide (r.a6P=0)&&cS r.a6K&&!bG r.a6K)=qM r:=by
 have i:decide (r.name=[])=(r.name==[]):=by cases r.name<;>rfl
 have l:decide (r.level=0)=(r.level==0):=by generalize r.level=x; by_cases h:x=0<;>simp[h]
 have p:decide (r.parent=-1)=(r.parent==-1):=by generalize r.parent=x; by_cases h:x=-1<;>simp[h]
 have q:decide (r.a6P=0)=(r.a6P==0):=by generalize r.a6P=x; by_cases h:x=0<;>simp[h]
 have h5:(cS r.a6K&&!bG r.a6K)=(cU (val r.a6K.num) (val r.a6K.den)&&(rD r.a6K==0)):=by
  rw[LG];by_cases h:val r.a6K.num=0
  ·have d:bG r.a6K=false:=by unfold bG; simp[h]
   rw[d];simp only[a7Y,a9N];cases c:cU (val r.a6K.num) (val r.a6K.den) with
   | false =>unfold cS oO;rw[c];rfl
   | true =>
    obtain⟨w,-,-⟩:=fR.1 c;unfold cS oO;rw[c,if_pos rfl,bf c,h];unfold mO;have u:val r.a6K.den/a7I 0 (val r.a6K.den)=1:=by rw[Nat.gcd_zero_left,Nat.div_self (a9U w)]
    have e:cM (0/a7I 0 (val r.a6K.den))=0:=by rw[Nat.zero_div]; exact jN
    have b1:cM 1=1:=by rw[pD (by decide),jN]
    simp only[u,e,b1];simp
  ·have d:bG r.a6K=true:=by unfold bG; simp[h]
   rw[d];simp
 unfold qM;rw[i,l,p,q];simp only[baI] at h5 ⊢;rw[h5]
theorem aET (f:aE) {r:cD} {t:List cD} (h:f.a5Y=r::t):BB f r t=(qM r&&(a7H t.length).all (wT f)):=by
 unfold BB;rw[aIJ];congr 2;funext i;unfold wT;rw[h,List.getElem?_cons_succ];cases t[i]? with
 | none=>rfl
 | some d=>exact aOW f i d
theorem asA (f:aE):f.a5V.all (iR f)=(a7H f.a5V.length).all (uS f):=by
 have:uS f=fun i=>(f.a5V.map (iR f)).getD i false:=by
  funext i;unfold uS;rw[a7Z,a8F];cases f.a5V[i]? with
  | none=>rfl
  | some d =>
   show J6 f d=iR f d;unfold J6 iR;have:decide ((f.a5Y.map cD.level).getD d.machine.toNat 0=4)=((f.a5Y.map cD.level).getD d.machine.toNat 0==4):=by generalize (f.a5Y.map cD.level).getD d.machine.toNat 0=u;by_cases h:u=4<;>simp[h]
   rw[this,baI]
 rw[this,yW]
theorem avF (f:aE):f.a5Z.all (jJ f.a5W.length)=(a7H f.a5Z.length).all (KJ f):=by
 have:KJ f=fun i=>(f.a5Z.map (jJ f.a5W.length)).getD i false:=by
  funext i;unfold KJ;rw[a7Z,a8F];cases f.a5Z[i]? with
  | none=>rfl
  | some d=>exact (aRF _ d).symm
 rw[this,yW]
theorem aRM (f:aE):aID f=dQ f:=by
 have N:ve f.a6C.length=kB f:=by funext m;unfold ve kB;rw[baI]
 have A:Uv f.a5Z.length=nU f:=rfl;have O:(within f.a6Z 1 4&&pQ f.a6C.length f.a5W.length f.a5Y.length f.a5V.length f.a5Z.length f.a5X.length)=nE f:=by unfold nE pQ;simp only[baI]
 unfold aID dQ IR yJ ml Hw;rw[FY _ _ (by rw[a7G]),FY _ _ (by rw[a7G]),FY _ _ (by rw[kT,a7G]),FY _ _ (by rw[a7G]),yW,yW,yW,N,A,avF,asA,← baI,O];unfold nL anH;cases l:f.a5Y with
 | nil=>simp
 | cons r t =>
  have i:decide (0<f.a5Y.length)=true:=by rw[l]; simp
  rw[l] at i;rw[i,a7R];simp only;rw[aET f l];have y:gS f=(f.a5Y.drop 1).map cD.name:=rfl;rw[l] at y;have M:(gS f).length=t.length:=by rw[y]; simp
  have p:=aQZ (gS f) (lP f) (wT f) (uS f);rw[M,show (lP f).length=f.a5V.length by simp[lP]] at p;have J:wU f=(a7H t.length).all (okL [] (gS f) (wT f)):=by unfold wU;rw[l];rfl
  have K:yA f=(a7H f.a5V.length).all (okL (gS f) (lP f) (uS f)):=rfl;rw[J,K,← y];rw[show f.a5V.map dH.name=lP f from rfl,show f.a5Z.map bS.name=kT f from rfl];generalize (a7H t.length).all (okL [] (gS f) (wT f))=a at *
  generalize (a7H f.a5V.length).all (okL (gS f) (lP f) (uS f))=b at *
  generalize distinct (gS f++lP f)=c at *
  generalize (a7H t.length).all (wT f)=d at *
  generalize (a7H f.a5V.length).all (uS f)=e at *
  generalize nE f=s;generalize qM r=ro;generalize distinct (f.a6C.map cE.name)=q;generalize f.a6C.all jZ=u;generalize distinct (f.a5W.map cT.name)=w;generalize f.a5W.all (kB f)=x;generalize distinct (kT f)=B;generalize (a7H f.a5Z.length).all (KJ f)=E;generalize distinct (f.a5X.map eW.name)=F;generalize f.a5X.all (nU f)=H;have:(s&&(((((((q&&u)&&(w&&x))&&ro)&&a)&&b)&&(B&&E))&&(F&&H)))=(s&&(ro&&((q&&u)&&((w&&x)&&((a&&b)&&((B&&E)&&(F&&H))))))):=by cases s<;>cases ro<;>cases q<;>cases u<;>cases w<;>cases x<;>simp[baI]
  rw[this,p];cases s<;>cases ro<;>cases q<;>cases u<;>cases w<;>cases x<;>cases c<;>cases d<;>cases e<;>simp;cases B<;>cases E<;>cases F<;>cases H<;>rfl
theorem aII (f:aE) (h:0<f.a5Y.length):anH f=qM f.a5Y[0]:=by
 obtain⟨a,b,c,d,e,g,i⟩:=f;cases d with
 | nil=>simp at h
 | cons r t=>rfl
theorem aCZ {C:Ctx} (L:UL C) (f:aE) (l:f.Ok):FA.wp C (aV sx.res (aF (.bool (dQ f)))) (PF.args [.agg f.cells]) .nil:=by
 have i:=aRM f;unfold aID at i;have fail:∀ (F:PF) (H:PH),dQ f=false→F 2=some (.bool false)→aV [.tmp 2] (aF (.bool (dQ f))) .ret F H:=fun F H e h=>by rw[e];exact bA (vs:=[.bool false]) (.inr rfl) .nil (by simp only[go_sem,h]) a_ ⟨rfl,rfl⟩
 simp only[go_sem,FA,Ge,Gf,sx];refine aA (L.inn f.a6Z 1 4) rfl ?_;cases Q:within f.a6Z 1 4 with
 | false =>rw[Q,a7P] at i;simp only[go_sem,a7Y,CF];exact fail _ _ i.symm rfl
 | true =>
 rw[Q,a7R] at i;simp only[go_sem,a7L,a7G];refine aA (L.sizes f.a6C.length f.a5W.length f.a5Y.length f.a5V.length f.a5Z.length f.a5X.length) rfl ?_;cases k1:pQ f.a6C.length f.a5W.length f.a5Y.length f.a5V.length f.a5Z.length f.a5X.length with
 | false =>rw[k1,a7P] at i;simp only[go_sem,a7Y,CF];exact fail _ _ i.symm rfl
 | true =>
 rw[k1,a7R] at i;obtain⟨J,u,x,K,M,W⟩:=TA k1;by_cases h0:f.a5Y.length=0
 ·rw[decide_eq_false Om,a7P] at i;simp only[go_sem,a7L,a7G,bL (Om:(f.a5Y.length:Int)=0),CF];exact fail _ _ i.symm rfl
 have d:0<f.a5Y.length:=Om;rw[decide_eq_true d,a7R] at i;simp only[go_sem,a7L,a7G,bF (Om:(f.a5Y.length:Int)≠0),Gg,Gh,Gi];refine aUD L.topU f l J _ _ _ Lq fun X=>?_;simp only[go_sem,sy];refine aCY L.topU f l k1 (IR f) _ _ _ Lq fun H2=>?_;have B:=fG d;have q:=(l.dom _ (a7J d)).1;have E:=aII f d;rw[E] at i;generalize f.a5Y[0]=r at *
 have rest:∀ (c:Bool) (F:PF) (H:PH),((((((PF.nil.set 1 (.bH f.cells)).set 5 (.aB)).set 6 (.aB)).set 7 (.aB)).set 8 (.bool c)):PF).le F→c=((IR f&&yJ f)&&qM r) →
   aC.wp C (.seq (.seq (.region MY) (.block 4 (.loop xS))) (.seq (.seq (.region NA) (.block 6 (.loop xT))) (.seq (.seq (.region NC) (.block 8 (.loop xV))) (.seq (.seq (.region NH) (.block 14 (.loop xW))) (.seq (.region NK) .ret))))) (aV [.tmp 2] (aF (.bool (dQ f)))) F H:=by
  intro c F H S V;refine xR _ (fun _ _ _ _ a b=>Up.up a b) S ?_;simp only[go_sem,MY];refine aUC L.topU f l x d c _ _ _ Lq fun w R U=>?_;simp only[go_sem,NA];refine aCX L.topU f l x d K u (c&&wU f) w _ _ _ U Lq fun Y=>?_;simp only[go_sem,NC];refine aUE L f l M u ((c&&wU f)&&yA f) _ _ _ Lq fun Z=>?_;simp only[go_sem,NH];refine aUF L.topU f l k1 (((c&&wU f)&&yA f)&&ml f) _ _ _ Lq fun H6=>?_;simp only[go_sem,NK];refine bA (vs:=[.bool (dQ f)]) (.inr rfl) .nil ?_ a_ ⟨rfl,rfl⟩;rw[← i,V];simp only[go_sem]
 simp only[aC.wp,go_sem] at rest;simp only[go_sem,ta,B];refine aR fun o ho=>?_;have g0:(H2.set o (.rows 7 [r.cells])) o=some (.rows 7 [r.cells]):=cP ..;simp only[go_sem];generalize H2.set o (.rows 7 [r.cells])=R at *
 cases k2:(IR f&&yJ f) with
 | false =>simp only[go_sem,MX];exact rest false _ _ Lq (by rw[k2]; rfl)
 | true =>
  simp only[go_sem,MX,g0];cases p:r.name==[] with
  | false =>simp only[go_sem];exact rest false _ _ Lq (by rw[k2]; unfold qM; rw[p]; rfl)
  | true =>
   simp only[go_sem,g0];cases y:r.level==0 with
   | false =>simp only[go_sem];exact rest false _ _ Lq (by rw[k2]; unfold qM; rw[p,y]; rfl)
   | true =>
    simp only[go_sem,g0];cases A:r.parent==-1 with
    | false =>simp only[go_sem];exact rest false _ _ Lq (by rw[k2]; unfold qM; rw[p,y,A]; rfl)
    | true =>
     simp only[go_sem,g0];cases N:r.a6P==0 with
     | false =>simp only[go_sem];exact rest false _ _ Lq (by rw[k2]; unfold qM; rw[p,y,A,N]; rfl)
     | true =>
      simp only[go_sem,g0];refine aA (L.valid _ q) rfl ?_;cases O:cU (val r.a6K.num) (val r.a6K.den) with
      | false =>simp only[go_sem];exact rest false _ _ Lq (by rw[k2]; unfold qM; rw[p,y,A,N,O]; rfl)
      | true =>simp only[go_sem,g0];refine aA (L.sign _ q O) rfl ?_;simp only[go_sem];exact rest _ _ _ Lq (by rw[k2]; unfold qM; rw[p,y,A,N,O]; rfl)
def aIZ:Rg:=[iA 2 (.box true (Tm 0)),iZ 4]
def aJA:Rg:=[iO 8 7 2,iK 9 67 8,iA 10 (.un .not (Tm 9))]
def aJB:Rg:=[iZ 4]
def aJC:Rg:=[iZ 5]
def aJD:Rg:=[iI 6 0]
def aJE:Rg:=[iM 11 6,iF 12 4 2,iL 13 12,iN 14 13,iB 15 .lss 11 14]
def aJF:Rd:=[(iF 18 2 2,false),(iL 19 18,false),(iF 20 4 2,false),(iL 21 20,false),(iM 22 6,false),(iX 23 3 21 22,false),(iF 24 1 23,false),(iL 25 24,false),(iX 26 4 19 25,false),(iF 27 1 26,false),(iL 28 27,false),(iM 7 28,false)]
def aJG:Rg:=[iM 29 1,iN 30 29,iF 31 4 2,iL 32 31,iN 33 32,iB 34 .eql 30 33]
def aJH:Rg:=[iM 35 1,iM 36 6,iX 37 1 35 36,iL 38 37,iM 39 7,iA 40 (.a6Q false (Tm 38) (Tm 39)),iA 41 (.a6Q true (Ci 0) (Tm 40)),iM 7 41]
def aJI:Rg:=[iM 42 5,iM 43 7,iA 44 (.a6B true 1 1 [zI] [(0,(Tm 43))]),iA 45 (.append 1 8 (Tm 42) (Tm 44)),iM 5 45]
def axE:Rg:=[iM 16 6,iC 17 .add 16 1,iM 6 17]
def axD:aC:=(.seq (sq aJE (.cond (Tm 15) .skip (.exit 0))) (.seq (.block 1 (dq aJF (.seq (sq aJG (.cond (Tm 34) (.region aJH) .skip)) (.region aJI)))) (.region axE)))
def axF:Rg:=[iM 46 5,iM 4 46]
def anW:aC:=(sq aIZ (.seq (sq aJA (.cond (Tm 10) (sq aJB .ret) .skip)) (sq aJC (.seq (sq aJD (.block 0 (.loop axD))) (sq axF .ret)))))
def a0E:aS:=⟨2,47,anW,[.tmp 4]⟩
def Dj:Rg:=[iA 3 (.box true (Tm 0)),iI 6 0]
def Dk:Rg:=[iF 8 4 3,iL 9 8,iM 10 1,iX 11 3 9 10,iF 12 2 11,iL 13 12,iM 7 13]
def Dl:Rg:=[iF 14 3 3,iL 15 14,iM 16 7,iX 17 7 15 16,iF 18 1 17,iL 19 18,iM 20 2,iB 21 .gtr 19 20]
def Dm:Rg:=[iF 22 3 3,iL 23 22,iM 24 7,iX 25 7 23 24,iF 26 2 25,iL 27 26,iM 7 27]
def Di:aC:=(.seq (sq Dl (.cond (Tm 21) .skip (.exit 0))) (.block 1 (.region Dm)))
def Dn:Rg:=[iM 28 7,iM 6 28]
def DU:aC:=(sq Dj (sq Dk (.seq (.block 0 (.loop Di)) (sq Dn .ret))))
def avV:List Nat:=[3]
def n6:aS:=⟨3,29,DU,[.tmp 6]⟩
def aWJ:Rg:=[iA 3 (.box true (Tm 0)),iI 6 0]
def aWK:Rg:=[iO 7 7 3,iK 8 67 7,iA 9 (.un .not (Tm 8)),iM 10 9,gM 11 1 10 false,gC 12 .lss 11 0 10 false,iQ 13 10 12,iM 14 13,gM 15 1 14 false,gF 16 4 3 14 false,gL 17 16 14 false,gN 18 17 14 false,gB 19 .geq 15 18 14 false,iQ 20 14 19,iM 21 20,gM 22 2 21 false,gC 23 .lss 22 0 21 false,iQ 24 21 23,iM 25 24,gM 26 2 25 false,gC 27 .gtr 26 4 25 false,iQ 28 25 27]
def aWL:Rg:=[iI 6 (-1)]
def aWM:Rg:=[iO 29 7 3,iM 30 1,iM 31 2,iA 32 (.call 88 [(Tm 29),(Tm 30),(Tm 31)]),iM 6 32]
def aIP:aC:=(sq aWJ (.seq (sq aWK (.cond (Tm 28) (sq aWL .ret) .skip)) (sq aWM .ret)))
def sat:aS:=⟨3,33,aIP,[.tmp 6]⟩
def oa:Rg:=[iA 2 (.box true (Tm 0)),iZ 4]
def oc:Rg:=[iZ 5]
def oe:Rg:=[iO 7 7 2,iK 8 67 7,iA 9 (.un .not (Tm 8)),iM 10 9,gM 11 1 10 false,gC 12 .lss 11 0 10 false,iQ 13 10 12,iM 14 13,gM 15 1 14 false,gF 16 3 2 14 false,gL 17 16 14 false,gN 18 17 14 false,gB 19 .geq 15 18 14 false,iQ 20 14 19]
def xK:Rg:=[iZ 4]
def og:Rg:=[iI 6 0]
def oi:Rg:=[iM 21 6,iF 22 4 2,iL 23 22,iN 24 23,iB 25 .lss 21 24]
def oj:Rd:=[(iO 28 7 2,false),(iM 29 6,false),(iF 30 3 2,false),(iL 31 30,false),(iM 32 1,false),(iX 33 7 31 32,false),(iF 34 1 33,false),(iL 35 34,false),(iA 36 (.call 88 [(Tm 28),(Tm 29),(Tm 35)]),true),(iM 37 1,true),(iB 38 .eql 36 37,false)]
def oo:Rg:=[iM 39 5,iM 40 6,iA 41 (.a6B true 1 1 [zI] [(0,(Tm 40))]),iA 42 (.append 1 8 (Tm 39) (Tm 41)),iM 5 42]
def LC:Rg:=[iM 26 6,iC 27 .add 26 1,iM 6 27]
def n9:aC:=(.seq (sq oi (.cond (Tm 25) .skip (.exit 0))) (.seq (.block 1 (dq oj (.cond (Tm 38) (.region oo) .skip))) (.region LC)))
def XY:Rg:=[iM 43 5,iM 4 43]
def AC:aC:=(sq oa (sq oc (.seq (sq oe (.cond (Tm 20) (sq xK .ret) .skip)) (.seq (sq og (.block 0 (.loop n9))) (sq XY .ret)))))
def anM:List Nat:=[2,41]
def VK:aS:=⟨2,44,AC,[.tmp 4]⟩
def avZ:Rg:=[iA 2 (.box true (Tm 0)),iZ 4]
def awA:Rg:=[iZ 5]
def awB:Rg:=[iO 7 7 2,iK 8 67 7,iA 9 (.un .not (Tm 8)),iM 10 9,gM 11 1 10 false,gC 12 .lss 11 0 10 false,iQ 13 10 12]
def awC:Rg:=[iZ 4]
def awD:Rg:=[iI 6 1]
def awE:Rg:=[iM 14 6,iF 15 3 2,iL 16 15,iN 17 16,iB 18 .lss 14 17]
def awF:Rg:=[iF 21 3 2,iL 22 21,iM 23 6,iX 24 7 22 23,iF 25 2 24,iL 26 25,iM 27 1,iB 28 .eql 26 27]
def awG:Rg:=[iM 29 5,iM 30 6,iA 31 (.a6B true 1 1 [zI] [(0,(Tm 30))]),iA 32 (.append 1 8 (Tm 29) (Tm 31)),iM 5 32]
def awH:Rg:=[iM 19 6,iC 20 .add 19 1,iM 6 20]
def avY:aC:=(.seq (sq awE (.cond (Tm 18) .skip (.exit 0))) (.seq (.block 1 (sq awF (.cond (Tm 28) (.region awG) .skip))) (.region awH)))
def anK:Rg:=[iM 33 5,iM 4 33]
def W3:aC:=(sq avZ (sq awA (.seq (sq awB (.cond (Tm 13) (sq awC .ret) .skip)) (.seq (sq awD (.block 0 (.loop avY))) (sq anK .ret)))))
def aWO:aS:=⟨2,34,W3,[.tmp 4]⟩
def awS:Rg:=[iA 2 (.box true (Tm 0)),iZ 4]
def awT:Rg:=[iO 8 7 2,iK 9 67 8,iA 10 (.un .not (Tm 9))]
def awU:Rg:=[iZ 4]
def awV:Rg:=[iF 11 4 2,iL 12 11,iN 13 12,iA 14 (.a6D 1 8 [zI] (Tm 13) (Tm 13)),iM 5 14]
def awW:Rg:=[iI 6 0]
def awX:Rg:=[iM 15 6,iM 16 1,iN 17 16,iB 18 .lss 15 17]
def awY:Rg:=[iI 7 0]
def awZ:Rg:=[iM 21 7,iM 22 1,iM 23 6,iX 24 1 22 23,iL 25 24,iN 26 25,iB 27 .lss 21 26]
def axA:Rg:=[iM 30 1,iM 31 6,iX 32 1 30 31,iL 33 32,iM 34 7,iX 35 1 33 34,iL 36 35,iC 37 .geq 36 0,iM 38 37,gM 39 1 38 true,gM 40 6 38 true,iG 41 (.a6M 1 (Tm 39) (Tm 40)) 38 true,gL 42 41 38 true,gM 43 7 38 true,iG 44 (.a6M 1 (Tm 42) (Tm 43)) 38 true,gL 45 44 38 true,gM 46 5 38 true,gN 47 46 38 true,gB 48 .lss 45 47 38 true,iP 49 38 48]
def axB:Rg:=[iM 50 5,iM 51 1,iM 52 6,iX 53 1 51 52,iL 54 53,iM 55 7,iX 56 1 54 55,iL 57 56,iX 58 1 50 57,iL 59 58,iC 60 .add 59 1,iX 61 1 50 57,iS 1 61 60]
def anS:Rg:=[iM 28 7,iC 29 .add 28 1,iM 7 29]
def anQ:aC:=(.seq (sq awZ (.cond (Tm 27) .skip (.exit 2))) (.seq (.block 3 (sq axA (.cond (Tm 49) (.region axB) .skip))) (.region anS)))
def anT:Rg:=[iM 19 6,iC 20 .add 19 1,iM 6 20]
def anR:aC:=(.seq (sq awX (.cond (Tm 18) .skip (.exit 0))) (.seq (.block 1 (sq awY (.block 2 (.loop anQ)))) (.region anT)))
def anU:Rg:=[iM 62 5,iM 4 62]
def W6:aC:=(sq awS (.seq (sq awT (.cond (Tm 10) (sq awU .ret) .skip)) (sq awV (.seq (sq awW (.block 0 (.loop anR))) (sq anU .ret)))))
def aWW:aS:=⟨2,63,W6,[.tmp 4]⟩
def aSA:Rg:=[iA 2 (.box true (Tm 0)),iI 4 0]
def aSB:Rg:=[iI 5 0]
def aSC:Rg:=[iM 6 5,iM 7 1,iN 8 7,iB 9 .lss 6 8]
def aSD:Rd:=[(iM 12 1,false),(iM 13 5,false),(iX 14 1 12 13,false),(iL 15 14,false),(iC 16 .lss 15 (-1),false),(iM 17 16,false),(gM 18 1 17 false,false),(gM 19 5 17 false,false),(iG 20 (.a6M 1 (Tm 18) (Tm 19)) 17 false,false),(gL 21 20 17 false,false),(gF 22 4 2 17 false,false),(gL 23 22 17 false,false),(gN 24 23 17 false,false),(gB 25 .geq 21 24 17 false,false),(iQ 26 17 25,false)]
def aSE:Rg:=[iM 27 5,iM 4 27]
def aSF:Rg:=[iM 10 5,iC 11 .add 10 1,iM 5 11]
def aRZ:aC:=(.seq (sq aSC (.cond (Tm 9) .skip (.exit 0))) (.seq (.block 1 (dq aSD (.cond (Tm 26) (sq aSE .ret) .skip))) (.region aSF)))
def aSG:Rg:=[iI 4 (-1)]
def avX:aC:=(sq aSA (.seq (sq aSB (.block 0 (.loop aRZ))) (sq aSG .ret)))
def a3M:aS:=⟨2,28,avX,[.tmp 4]⟩
def anY:Rg:=[iA 2 (.box true (Tm 0)),iT 4 false]
def anZ:Rg:=[iO 6 7 2,iK 7 67 6,iA 8 (.un .not (Tm 7)),iM 9 8,gM 10 1 9 false,gN 11 10 9 false,gF 12 6 2 9 false,gL 13 12 9 false,gN 14 13 9 false,gB 15 .neq 11 14 9 false,iQ 16 9 15]
def aoA:Rg:=[iT 4 false]
def aoB:Rg:=[iI 5 0]
def aoC:Rg:=[iM 17 5,iM 18 1,iN 19 18,iB 20 .lss 17 19]
def aoD:Rd:=[(iM 23 1,true),(iM 24 5,true),(iX 25 1 23 24,true),(iL 26 25,true),(iN 27 26,true),(iO 28 7 2,false),(iM 29 5,false),(iK2 30 82 28 29,true),(iB 31 .neq 27 30,false),(iM 32 31,false),(gO 33 7 2 32 false,false),(gM 34 1 32 false,false),(gM 35 5 32 false,false),(iG 36 (.a6M 1 (Tm 34) (Tm 35)) 32 false,false),(gL 37 36 32 false,false),(gK2 38 89 33 37 32 false,true),(gC 39 .geq 38 0 32 false,false),(iQ 40 32 39,false)]
def aoE:Rg:=[iT 4 false]
def aoF:Rg:=[iM 21 5,iC 22 .add 21 1,iM 5 22]
def anX:aC:=(.seq (sq aoC (.cond (Tm 20) .skip (.exit 0))) (.seq (.block 1 (dq aoD (.cond (Tm 40) (sq aoE .ret) .skip))) (.region aoF)))
def aoG:Rg:=[iT 4 true]
def Ss:aC:=(sq anY (.seq (sq anZ (.cond (Tm 16) (sq aoA .ret) .skip)) (.seq (sq aoB (.block 0 (.loop anX))) (sq aoG .ret))))
def aSY:aS:=⟨2,41,Ss,[.tmp 4]⟩
def XQ:Rg:=[iA 3 (.box true (Tm 0)),iA 4 (.box true (Tm 1)),iT 6 false]
def XR:Rg:=[iI 7 0]
def XS:Rg:=[iM 8 7,iF 9 9 3,iL 10 9,iN 11 10,iB 12 .lss 8 11]
def DW:Rd:=[(iF 15 9 3,false),(iL 16 15,false),(iM 17 7,false),(iX 18 1 16 17,false),(iL 19 18,false),(iF 20 4 4,false),(iL 21 20,false),(iM 22 2,false),(iX 23 3 21 22,false),(iF 24 1 23,false),(iL 25 24,false),(iB 26 .eql 19 25,false)]
def XT:Rg:=[iT 6 true]
def XU:Rg:=[iM 13 7,iC 14 .add 13 1,iM 7 14]
def XP:aC:=(.seq (sq XS (.cond (Tm 12) .skip (.exit 0))) (.seq (.block 1 (dq DW (.cond (Tm 26) (sq XT .ret) .skip))) (.region XU)))
def XV:Rg:=[iT 6 false]
def wI:aC:=(sq XQ (.seq (sq XR (.block 0 (.loop XP))) (sq XV .ret)))
def W0:List Nat:=[3,4]
def KZ:aS:=⟨3,27,wI,[.tmp 6]⟩
def Dp:Rg:=[iA 3 (.box true (Tm 0)),iI 6 0]
def Dq:Rg:=[iI 7 0]
def Dr:Rg:=[iI 8 0]
def Ds:Rg:=[iM 9 8,iM 10 1,iN 11 10,iB 12 .lss 9 11]
def SX:Rd:=[(iM 15 1,false),(iM 16 8,false),(iX 17 1 15 16,false),(iL 18 17,false),(iC 19 .geq 18 0,false),(iM 20 19,false),(gO 21 7 3 20 true,false),(gM 22 1 20 true,false),(gM 23 8 20 true,false),(iG 24 (.a6M 1 (Tm 22) (Tm 23)) 20 true,false),(gL 25 24 20 true,false),(gF 26 3 3 20 true,false),(gL 27 26 20 true,false),(gM 28 2 20 true,false),(iG 29 (.a6M 7 (Tm 27) (Tm 28)) 20 true,false),(gF 30 1 29 20 true,false),(gL 31 30 20 true,false),(iG 32 (.call 88 [(Tm 21),(Tm 25),(Tm 31)]) 20 true,true),(gM 33 2 20 true,true),(gB 34 .eql 32 33 20 true,false),(iP 35 20 34,false)]
def Dt:Rg:=[iM 36 7,iC 37 .add 36 1,iM 7 37]
def BU:Rg:=[iM 13 8,iC 14 .add 13 1,iM 8 14]
def Do:aC:=(.seq (sq Ds (.cond (Tm 12) .skip (.exit 0))) (.seq (.block 1 (dq SX (.cond (Tm 35) (.region Dt) .skip))) (.region BU)))
def SY:Rg:=[iM 38 7,iM 6 38]
def DX:aC:=(sq Dp (sq Dq (.seq (sq Dr (.block 0 (.loop Do))) (sq SY .ret))))
def awJ:List Nat:=[3]
def n8:aS:=⟨3,39,DX,[.tmp 6]⟩
def aSO:Rg:=[iA 3 (.box true (Tm 0)),iZ 6]
def aSP:Rg:=[iM 17 2,iN 18 17,iO 19 7 3,iM 20 1,iK2 21 82 19 20,iB 22 .neq 18 21]
def aSQ:Rg:=[iM 23 1,iM 24 2,iN 25 24,iA 26 (.build [zI,zI,zI] [(0,1,(Ci 1)),(1,1,(Tm 23)),(2,1,(Tm 25))]),iA 27 (.a6B true 3 1 [zI,zI,zI] [(0,(Tm 26))]),iM 6 27]
def aSR:Rg:=[iO 28 7 3,iM 29 2,iK2 30 89 28 29,iM 7 30]
def aSS:Rg:=[iM 31 7,iC 32 .geq 31 0]
def aST:Rg:=[iM 33 1,iM 34 7,iA 35 (.build [zI,zI,zI] [(0,1,(Ci 1)),(1,1,(Tm 33)),(2,1,(Tm 34))]),iA 36 (.a6B true 3 1 [zI,zI,zI] [(0,(Tm 35))]),iM 6 36]
def aSU:Rg:=[iZ 8]
def aSV:Rg:=[iI 9 0]
def aSW:Rg:=[iM 37 9,iM 38 2,iN 39 38,iB 40 .lss 37 39]
def aSX:Rg:=[iM 43 2,iM 44 9,iX 45 1 43 44,iL 46 45,iC 47 .eql 46 (-1)]
def aJO:Rg:=[iM 48 8,iM 49 1,iM 50 9,iA 51 (.build [zI,zI,zI] [(0,1,(Ci 2)),(1,1,(Tm 49)),(2,1,(Tm 50))]),iA 52 (.a6B true 3 1 [zI,zI,zI] [(0,(Tm 51))]),iA 53 (.append 3 24 (Tm 48) (Tm 52)),iM 8 53]
def aJP:Rg:=[iM 41 9,iC 42 .add 41 1,iM 9 42]
def aJJ:aC:=(.seq (sq aSW (.cond (Tm 40) .skip (.exit 0))) (.seq (.block 1 (sq aSX (.cond (Tm 47) (.region aJO) .skip))) (.region aJP)))
def aJQ:Rg:=[iI 10 0]
def aJR:Rg:=[iM 54 10,iF 55 4 3,iL 56 55,iN 57 56,iB 58 .lss 54 57]
def aJS:Rg:=[iI 11 0]
def aJT:Rg:=[iI 12 0]
def aJU:Rg:=[iM 61 12,iM 62 2,iN 63 62,iB 64 .lss 61 63]
def aJV:Rg:=[iM 67 2,iM 68 12,iX 69 1 67 68,iL 70 69,iM 71 10,iB 72 .eql 70 71]
def aJW:Rg:=[iM 73 11,iC 74 .add 73 1,iM 11 74]
def aJX:Rg:=[iM 65 12,iC 66 .add 65 1,iM 12 66]
def aJK:aC:=(.seq (sq aJU (.cond (Tm 64) .skip (.exit 4))) (.seq (.block 5 (sq aJV (.cond (Tm 72) (.region aJW) .skip))) (.region aJX)))
def aJY:Rg:=[iM 75 11,iC 76 .gtr 75 1]
def aJZ:Rg:=[iM 77 8,iM 78 1,iM 79 10,iA 80 (.build [zI,zI,zI] [(0,1,(Ci 3)),(1,1,(Tm 78)),(2,1,(Tm 79))]),iA 81 (.a6B true 3 1 [zI,zI,zI] [(0,(Tm 80))]),iA 82 (.append 3 24 (Tm 77) (Tm 81)),iM 8 82]
def aKA:Rg:=[iM 59 10,iC 60 .add 59 1,iM 10 60]
def aJL:aC:=(.seq (sq aJR (.cond (Tm 58) .skip (.exit 2))) (.seq (.block 3 (sq aJS (.seq (sq aJT (.block 4 (.loop aJK))) (sq aJY (.cond (Tm 76) (.region aJZ) .skip))))) (.region aKA)))
def aKB:Rd:=[(iF 83 5 3,false),(iL 84 83,false),(iF 85 6 3,false),(iL 86 85,false),(iM 87 1,false),(iX 88 2 86 87,false),(iF 89 1 88,false),(iL 90 89,false),(iX 91 17 84 90,false),(iO 92 17 91,false),(iA 13 (.alloc [(.str []),zI,zI,zI,zI,zI,zI,zI,zI,.aB,.aB,zB,.aB,.aB,zB,.aB,.aB]),true),(iS 17 13 92,true)]
def aKC:Rg:=[iI 14 0]
def aKD:Rg:=[iM 93 14,iM 94 2,iN 95 94,iB 96 .lss 93 95]
def aKE:Rd:=[(iM 99 2,false),(iM 100 14,false),(iX 101 1 99 100,false),(iL 102 101,false),(iC 103 .geq 102 0,false),(iM 104 103,false),(gO 105 17 13 104 true,false),(gO 106 7 3 104 true,false),(gM 107 2 104 true,false),(gM 108 14 104 true,false),(iG 109 (.a6M 1 (Tm 107) (Tm 108)) 104 true,false),(gL 110 109 104 true,false),(iG 111 (.call 77 [(Tm 105),(Tm 106),(Tm 110)]) 104 true,true),(iG 112 (.un .not (Tm 111)) 104 true,false),(iP 113 104 112,false)]
def aKF:Rg:=[iM 114 8,iM 115 1,iM 116 14,iA 117 (.build [zI,zI,zI] [(0,1,(Ci 4)),(1,1,(Tm 115)),(2,1,(Tm 116))]),iA 118 (.a6B true 3 1 [zI,zI,zI] [(0,(Tm 117))]),iA 119 (.append 3 24 (Tm 114) (Tm 118)),iM 8 119]
def aKG:Rg:=[iM 97 14,iC 98 .add 97 1,iM 14 98]
def aJM:aC:=(.seq (sq aKD (.cond (Tm 96) .skip (.exit 6))) (.seq (.block 7 (dq aKE (.cond (Tm 113) (.region aKF) .skip))) (.region aKG)))
def aKH:Rg:=[iI 15 1]
def aKI:Rg:=[iM 120 15,iF 121 3 3,iL 122 121,iN 123 122,iB 124 .lss 120 123]
def aKJ:Rg:=[iF 127 3 3,iL 128 127,iM 129 15,iX 130 7 128 129,iF 131 1 130,iL 132 131,iF 133 4 13,iA 134 (.idxA 5 1 (Tm 133) (Tm 132)),iL 135 134,iM 16 135]
def aKK:Rg:=[iM 136 16,iC 137 .gtr 136 0,iM 138 137,gO 139 7 3 138 true,gM 140 2 138 true,gM 141 15 138 true,iG 142 (.call 80 [(Tm 139),(Tm 140),(Tm 141)]) 138 true,gM 143 16 138 true,gB 144 .gtr 142 143 138 true,iP 145 138 144]
def aKL:Rg:=[iM 146 8,iM 147 1,iM 148 15,iA 149 (.build [zI,zI,zI] [(0,1,(Ci 5)),(1,1,(Tm 147)),(2,1,(Tm 148))]),iA 150 (.a6B true 3 1 [zI,zI,zI] [(0,(Tm 149))]),iA 151 (.append 3 24 (Tm 146) (Tm 150)),iM 8 151]
def aKM:Rg:=[iM 125 15,iC 126 .add 125 1,iM 15 126]
def aJN:aC:=(.seq (sq aKI (.cond (Tm 124) .skip (.exit 8))) (.seq (.block 9 (sq aKJ (sq aKK (.cond (Tm 145) (.region aKL) .skip)))) (.region aKM)))
def aKN:Rg:=[iM 152 8,iM 6 152]
def axG:aC:=(sq aSO (.seq (sq aSP (.cond (Tm 22) (sq aSQ .ret) .skip)) (.seq (sq aSR (sq aSS (.cond (Tm 32) (sq aST .ret) .skip))) (sq aSU (.seq (sq aSV (.block 0 (.loop aJJ))) (.seq (sq aJQ (.block 2 (.loop aJL))) (dq aKB (.seq (sq aKC (.block 6 (.loop aJM))) (.seq (sq aKH (.block 8 (.loop aJN))) (sq aKN .ret))))))))))
def a3P:aS:=⟨3,153,axG,[.tmp 6]⟩
def aKR:Rg:=[iA 3 (.box true (Tm 0)),iZ 6]
def aKS:Rg:=[iO 12 7 3,iK 13 67 12,iA 14 (.un .not (Tm 13))]
def aKT:Rg:=[iZ 6]
def aKU:Rg:=[iM 15 1,iN 16 15,iF 17 6 3,iL 18 17,iN 19 18,iB 20 .neq 16 19]
def aKV:Rg:=[iM 21 1,iN 22 21,iA 23 (.build [zI,zI,zI] [(0,1,(Ci 1)),(1,1,(Ci (-1))),(2,1,(Tm 22))]),iA 24 (.a6B true 3 1 [zI,zI,zI] [(0,(Tm 23))]),iM 6 24]
def aKW:Rg:=[iZ 7]
def aKX:Rg:=[iI 8 0]
def aKY:Rg:=[iM 25 8,iM 26 1,iN 27 26,iB 28 .lss 25 27]
def aKZ:Rd:=[(iM 31 7,true),(iO 32 7 3,false),(iM 33 8,false),(iM 34 1,false),(iM 35 8,false),(iX 36 1 34 35,false),(iL 37 36,false),(iA 38 (.call 90 [(Tm 32),(Tm 33),(Tm 37)]),true),(iA 39 (.append 3 24 (Tm 31) (Tm 38)),true),(iM 7 39,false)]
def aLA:Rg:=[iM 29 8,iC 30 .add 29 1,iM 8 30]
def axJ:aC:=(.seq (sq aKY (.cond (Tm 28) .skip (.exit 0))) (.seq (.block 1 (.draw aKZ)) (.region aLA)))
def axL:Rd:=[(iO 40 7 3,false),(iM 41 2,false),(iK2 42 85 40 41,true),(iO 43 7 3,true),(iM 44 1,true),(iK2 45 84 43 44,true),(iM 9 42,false),(iM 10 45,false)]
def axM:Rg:=[iI 11 0]
def axN:Rg:=[iM 46 11,iM 47 9,iN 48 47,iB 49 .lss 46 48]
def axO:Rd:=[(iM 52 10,false),(iM 53 11,false),(iX 54 1 52 53,false),(iL 55 54,false),(iM 56 9,false),(iM 57 11,false),(iX 58 1 56 57,false),(iL 59 58,false),(iB 60 .gtr 55 59,false)]
def axP:Rg:=[iM 61 7,iM 62 11,iA 63 (.build [zI,zI,zI] [(0,1,(Ci 6)),(1,1,(Ci (-1))),(2,1,(Tm 62))]),iA 64 (.a6B true 3 1 [zI,zI,zI] [(0,(Tm 63))]),iA 65 (.append 3 24 (Tm 61) (Tm 64)),iM 7 65]
def axQ:Rg:=[iM 50 11,iC 51 .add 50 1,iM 11 51]
def axK:aC:=(.seq (sq axN (.cond (Tm 49) .skip (.exit 2))) (.seq (.block 3 (dq axO (.cond (Tm 60) (.region axP) .skip))) (.region axQ)))
def axR:Rg:=[iM 66 7,iM 6 66]
def aoH:aC:=(sq aKR (.seq (sq aKS (.cond (Tm 14) (sq aKT .ret) .skip)) (.seq (sq aKU (.cond (Tm 20) (sq aKV .ret) .skip)) (sq aKW (.seq (sq aKX (.block 0 (.loop axJ))) (dq axL (.seq (sq axM (.block 2 (.loop axK))) (sq axR .ret))))))))
def a0F:aS:=⟨3,67,aoH,[.tmp 6]⟩
def awP:Rg:=[iA 3 (.box true (Tm 0)),iT 6 false]
def awQ:Rg:=[iO 7 7 3,iK 8 67 7,iM 9 8,gO 10 7 3 9 true,gM 11 1 9 true,gM 12 2 9 true,iG 13 (.call 87 [(Tm 10),(Tm 11),(Tm 12)]) 9 true,gN 14 13 9 true,gC 15 .eql 14 0 9 true,iP 16 9 15,iM 6 16]
def W4:aC:=(sq awP (sq awQ .ret))
def aWS:aS:=⟨3,17,W4,[.tmp 6]⟩
theorem avU {C:Ctx} (f:aE) (i:VF f) (d:Nat) (h:d<f.a5V.length) (level:Int) (u:0≤level) (w:level≤4) :
  DU.wp C (aV n6.res (aF (.int .i64 (cO f d level:Nat)))) (PF.args [.agg f.cells,.int .i64 d,.int .i64 level]) .nil:=by
 simp only[go_sem,DU,Dj,Dk,n6,pH h,i.u6 h];refine wp_loop (α:=Nat) (fun k=>(((PF.nil.set 2 (.int .i64 level)).set 3 (.bH f.cells)).set 7 (.int .i64 (upN f k (dK f d))))) (fun _=>.nil) (fun k=>k≤4-level.toNat) (fun k=>4-level.toNat-k) 0 (a7N _) (by (repeat' (first|exact c_|refine d_ ?_ ?_))<;>first|(simp only[go_sem,upN]<;>rfl)|rfl) a_ ?_;intro k x;obtain⟨c,q⟩:=GJ i h (k:=k) Om;simp only[go_sem,Di,Dl,fG c,sV c];by_cases hlt:k<4-level.toNat
 ·have l:lvl f (upN f k (dK f d))>level:=by rw[q]; omega
  have p:0<upN f k (dK f d):=by
   rcases a9Q (upN f k (dK f d)) with e | e
   ·rw[e,i.root.2.1] at q; omega
   ·exact e
  simp only[go_sem,l,Dm,fG c,mi c,i.wc p c];exact aD (k+1) hlt Om (by (repeat' (first|exact c_|refine d_ ?_ ?_))<;>first|(simp only[go_sem,upN]<;>rfl)|rfl) a_
 ·have l:¬ lvl f (upN f k (dK f d))>level:=by rw[q]; omega
  have:k=4-level.toNat:=Om;subst this;simp only[go_sem,l,Dn];refine aQ (.inr rfl) Ev ?_;rfl
structure Ig (C:Ctx):Prop where
 valid:∀ f:aE,f.Ok→aH C 67 [.agg f.cells] .nil (aF (.bool (dQ f)))
 lK:∀ (f:aE) (d:Nat) (level:Int),VF f→d<f.a5V.length→0≤level→level≤4→aH C 88 [.agg f.cells,.int .i64 d,.int .i64 level] .nil (aF (.int .i64 (cO f d level:Nat)))
def soS (f:aE):Spec:=fun name vs=>match name,vs with
 | 88,[_,.int _ d,.int _ l]=>some ([],fun _=>aF (.int .i64 (cO f d.toNat l:Nat)))
 | 82,[_,.int _ v]=>some ([],fun _=>aF (.int .i64 (akF f v.toNat)))
 | _,_=>none
theorem Dv (f:aE) (d:Nat) (l:Int):soS f 88 [.agg f.cells,.int .i64 d,.int .i64 l]=some ([],fun _=>aF (.int .i64 (cO f d l:Nat))):=rfl
theorem atU {f:aE} (hV:VF f) {n:Nat} (c:n<f.a5Y.length):0≤lvl f n∧lvl f n≤4:=by
 rcases a9Q n with e | e
 ·rw[e,hV.root.2.1]; decide
 ·have:=hV.dom n e c; omega
theorem anL {C:Ctx} (L:Ig C) (f:aE) (H:f.Ok) (dom:Int) :
  AC.wp C (aV VK.res (bY (ints (FK f dom)))) (PF.args [.agg f.cells,.int .i64 dom]) .nil:=by
 simp only[go_sem,AC,oa,oc,oe,VK];refine aA (L.valid f H) Sq ?_;unfold FK;cases M:dQ f with
 | false =>simp only[go_sem,a7Y,xK];rw[if_neg (by simp)];exact AA Ev
 | true =>
  have hV:=VF.of M;by_cases x:dom<0
  ·simp only[go_sem,a7L,x,xK];rw[if_neg Om];exact AA Ev
  ·by_cases B:dom≥(f.a5Y.length:Nat)
   ·simp only[go_sem,a7L,x,a7G,B,xK];rw[if_neg Om];exact AA Ev
   ·obtain⟨n,rfl⟩:∃ n:Nat,dom=n:=⟨dom.toNat,by omega⟩;have A:n<f.a5Y.length:=Om;have E:=hV.small.a5V;have l:=atU hV A;simp only[go_sem,a7L,x,a7G,B,og];rw[if_pos Om];generalize K:(fun d=>decide ((cO f d (lvl f n):Nat)=n))=p;refine wp_loop (α:=Nat × PV × PH) (fun t=>((((PF.nil.set 1 (.int .i64 n)).set 2 (.bH f.cells)).set 5 (t.2.1)).set 6 (.int .i64 t.1))) (fun t=>t.2.2) (fun t=>t.1≤f.a5V.length∧bQ t.2.2 1 t.2.1 (aY (pick t.1 p))) (fun t=>f.a5V.length-t.1) (0,.aB,.nil) ⟨a7N _,.nil⟩ Lq a_ ?_;rintro⟨k,v,F⟩ ⟨J,q⟩;simp only at J q ⊢;simp only[go_sem,n9,oi,a7G];by_cases hlt:k<f.a5V.length
    ·have i:(k:Int)<(f.a5V.length:Nat):=Om;simp only[go_sem,i];refine bW .nil (soS f) a_ ?_;simp only[go_sem,oj,fG A,sV A];refine bP (Dv f k (lvl f n)) (L.lK f k (lvl f n) hV hlt l.1 l.2) Sq a_ ?_;have w:p k=decide ((cO f k (lvl f n):Nat)=n):=by rw[← K]
     have e:=avE k p;have y:(1:Nat)*1≤16777216:=by decide
     by_cases c:cO f k (lvl f n)=n
     ·rw[if_pos (by rw[w]; simp[c])] at e;simp only[go_sem,bL (show ((cO f k (lvl f n):Nat):Int)=(n:Int) by omega),oo,y];refine fI (src:=[[.int .i64 k]]) q Sq (by unfold roomFor; have:=aHX k p; rw[dC]; simp only[a7S,maxLen]; omega) fun v' H' u _=>?_;rw[alE,← e] at u;simp only[go_sem,LC,wZz k];exact aD (k+1,v',H') ⟨hlt,u⟩ (by simp only; omega) Lq b_
     ·rw[if_neg (by rw[w]; simp[c])] at e;simp only[go_sem,bF (show ((cO f k (lvl f n):Nat):Int)≠(n:Int) by omega),LC,wZz k];rw[← e] at q;exact aD (k+1,v,F) ⟨hlt,q⟩ (by simp only; omega) Lq b_
    ·have i:¬ (k:Int)<(f.a5V.length:Nat):=Om;have:k=f.a5V.length:=Om;subst this;simp only[go_sem,i,XY];exact wr q Sq
theorem Wz {C:Ctx} (f:aE) (hV:VF f) (p:bS) (w:Fits p.a5W) (d:Nat) (u:d<f.a5V.length) :
  wI.wp C (aV KZ.res (aF (.bool (p.a5W.contains ((mdl f d:Nat):Int))))) (PF.args [.agg p.cells,.agg f.cells,.int .i64 d]) .nil:=by
 have y:p.a5W.length≤9223372036854775807:=w;simp only[go_sem,wI,XQ,XR,KZ];refine wp_loop (α:=Nat) (fun k=>((((PF.nil.set 2 (.int .i64 d)).set 3 (.bH p.cells)).set 4 (.bH f.cells)).set 7 (.int .i64 k))) (fun _=>.nil) (fun k=>k≤p.a5W.length∧p.a5W.contains ((mdl f d:Nat):Int)=(p.a5W.drop k).contains ((mdl f d:Nat):Int)) (fun k=>p.a5W.length-k) 0 ⟨a7N _,rfl⟩ Lq a_ ?_;rintro k ⟨A,l⟩;simp only[go_sem,XP,XS,a7G];by_cases hlt:k<p.a5W.length
 ·have i:(k:Int)<(p.a5W.length:Nat):=Om;have q:(p.a5W.map fun x=>[PV.int .i64 x])[k]?=some [.int .i64 p.a5W[k]]:=by simp[hlt]
  rw[a9H hlt,List.contains_cons] at l;have e:(p.a5W[k]==((mdl f d:Nat):Int))=(((mdl f d:Nat):Int)==p.a5W[k]):=BEq.comm;simp only[go_sem,i];refine bW .nil eT a_ ?_;cases c:((mdl f d:Nat):Int)==p.a5W[k] with
  | true =>rw[c] at e;rw[c,Bool.true_or] at l;simp only[go_sem,DW,q,pH u,hV.kc u,e,XT];refine aQ (.inr rfl) Ev ?_;rw[bO,l]
  | false =>rw[c] at e;rw[c,Bool.false_or] at l;simp only[go_sem,DW,q,pH u,hV.kc u,e,XU,wZz k];exact aD (k+1) ⟨hlt,l⟩ Om Lq b_
 ·have i:¬ (k:Int)<(p.a5W.length:Nat):=Om;have:k=p.a5W.length:=Om;subst this;rw[List.drop_length] at l;simp only[go_sem,i,XV];refine aQ (.inr rfl) Ev ?_;rw[bO,l];rfl
theorem Vu {p:Int→Bool} {xs:List Int} {k:Nat} (h:k<xs.length):(xs.take (k+1)).countP p=(xs.take k).countP p+if p xs[k] then 1 else 0:=by
 rw[a9E h,List.countP_append];by_cases c:p xs[k]<;>simp[List.countP_cons,c]
theorem awI {C:Ctx} (L:Ig C) (f:aE) (hV:VF f) (row:List Int) (J:G2 f row) (n:Nat) (E:n<f.a5Y.length) :
  DX.wp C (aV n8.res (aF (.int .i64 (row.countP (lM f n):Nat)))) (PF.args [.agg f.cells,ints row,.int .i64 n]) .nil:=by
 have H:=J.len;have u:=atU hV E;simp only[go_sem,DX,Dp,Dq,Dr,n8];refine wp_loop (α:=Nat) (fun k=>(((((PF.nil.set 1 (ints row)).set 2 (.int .i64 n)).set 3 (.bH f.cells)).set 7 (.int .i64 ((row.take k).countP (lM f n):Nat))).set 8 (.int .i64 k))) (fun _=>.nil) (fun k=>k≤row.length) (fun k=>row.length-k) 0 (a7N _) Lq a_ ?_;intro k N;simp only[go_sem,Do,Ds,a7G];by_cases hlt:k<row.length
 ·have i:(k:Int)<(row.length:Nat):=Om;have y:(row.map fun x=>[PV.int .i64 x])[k]?=some [.int .i64 row[k]]:=by simp[hlt]
  have O:=J.at_ _ (a7J hlt);have w:=Vu (p:=lM f n) hlt;have M:(row.take k).countP (lM f n)≤16777216:=by have:=List.countP_le_length (p:=lM f n) (l:=row.take k);rw[a8A] at this;omega
  have q:lM f n row[k]=(decide (0≤row[k])&&decide (cO f row[k].toNat (lvl f n)=n)):=rfl;have fin:∀ (c:Nat) (A:PF),(row.take (k+1)).countP (lM f n)=c→((((((PF.nil.set 1 (ints row)).set 2 (.int .i64 n)).set 3 (.bH f.cells)).set 7 (.int .i64 c)).set 8 (.int .i64 (k+1:Nat))):PF).le A→fJ (fun k:Nat=>(((((PF.nil.set 1 (ints row)).set 2 (.int .i64 n)).set 3 (.bH f.cells)).set 7 (.int .i64 ((row.take k).countP (lM f n):Nat))).set 8 (.int .i64 k))) (fun _=>.nil) (fun k=>k≤row.length) (fun k=>row.length-k) (row.length-k) (eX 0 (gE C (aC.wp C (.seq (.region SY) .ret)) (aV [.tmp 6] (aF (.int .i64 (row.countP (lM f n):Nat)))))) .normal A .nil :=
   fun c A e h=>aD (k+1) hlt Om (by rw[e]; exact h) b_
  generalize (row.take k).countP (lM f n)=c at *
  generalize row[k]=x at *
  simp only[go_sem,i];refine bW .nil (soS f) a_ ?_;by_cases B:x≥0
  ·obtain⟨d,rfl⟩:∃ d:Nat,x=d:=⟨x.toNat,by omega⟩;have K:d<f.a5V.length:=Om;rw[decide_eq_true (Om:(0:Int)≤d),a7R,a9A] at q;rw[q] at w;simp only[go_sem,SX,y,B,fG E,sV E];refine bP (Dv f d (lvl f n)) (L.lK f d (lvl f n) hV K u.1 u.2) Sq a_ ?_;by_cases F:cO f d (lvl f n)=n
   ·rw[decide_eq_true F,if_pos rfl] at w;simp only[go_sem,bL (show ((cO f d (lvl f n):Nat):Int)=(n:Int) by omega),Dt,wZz c,BU,wZz k];exact fin (c+1) _ w Lq
   ·rw[decide_eq_false F,if_neg (by decide),a9M] at w;simp only[go_sem,bF (show ((cO f d (lvl f n):Nat):Int)≠(n:Int) by omega),BU,wZz k];exact fin c _ w Lq
  ·rw[decide_eq_false (show ¬ 0≤x from B),a7P] at q;rw[q,if_neg (by decide),a9M] at w;simp only[go_sem,SX,y,B,BU,wZz k];exact fin c _ w Lq
 ·have i:¬ (k:Int)<(row.length:Nat):=Om;have:k=row.length:=Om;subst this;simp only[go_sem,i,SY,a8I];refine aQ (.inr rfl) Ev ?_;rfl




theorem aEV {C:Ctx} (l:List Int) (e:Fits l):HM.wp C (aV G3.res (aF (.bool true))) (PF.args [ints l,ints l]) .nil:=by
 have i:l.length≤9223372036854775807:=e;simp only[go_sem,HM,J8,J9,G3,a7G,cC (show (l.length:Int)=(l.length:Nat) from rfl),Ka];refine wp_loop (α:=Nat) (fun k=>(((PF.nil.set 0 (ints l)).set 1 (ints l)).set 5 (.int .i64 k))) (fun _=>.nil) (fun k=>k≤l.length) (fun k=>l.length-k) 0 (a7N _) Lq a_ ?_;intro k p;simp only[go_sem,J7,Kb,a7G];by_cases hlt:k<l.length
 ·have c:(k:Int)<(l.length:Nat):=Om;have d:(l.map fun x=>[PV.int .i64 x])[k]?=some [.int .i64 l[k]]:=by simp[hlt]
  simp only[go_sem,c];refine bW .nil eT a_ ?_;simp only[go_sem,Kc,d,cC (show l[k]=l[k] from rfl),Kd,wZz k];exact aD (k+1) hlt Om Lq b_
 ·have c:¬ (k:Int)<(l.length:Nat):=Om;simp only[go_sem,c,Ke];refine aQ (.inr rfl) rfl ?_;rfl

structure mX (C:Ctx):Prop extends aUK C where
 r19:aM C 19 aPZ
 r21:aM C 21 aVT
 r22:aM C 22 aZY
 r46:aM C 46 Uc
 r48:aM C 48 qc
 r49:aM C 49 Hv
 r51:aM C 51 ql
 r52:aM C 52 VS
 r53:aM C 53 Hx
 r54:aM C 54 Hy
 r55:aM C 55 aqI
 r56:aM C 56 qv
 r57:aM C 57 Hu
 r60:aM C 60 qu
 r61:aM C 61 BT
 r62:aM C 62 VU
 r63:aM C 63 qx
 r64:aM C 64 VT
 r65:aM C 65 VV
 r66:aM C 66 aqV
 r67:aM C 67 sx
 r68:aM C 68 aqU
 r69:aM C 69 aqT
 r70:aM C 70 sa
 r71:aM C 71 sb
 r72:aM C 72 MS
 r73:aM C 73 sd
 r74:aM C 74 se
 r75:aM C 75 VW
 r76:aM C 76 GN
 r77:aM C 77 KZ
 r78:aM C 78 sat
 r79:aM C 79 aWO
 r80:aM C 80 n8
 r81:aM C 81 VK
 r83:aM C 83 aWS
 r84:aM C 84 aWW
 r85:aM C 85 a0E
 r86:aM C 86 aSY
 r87:aM C 87 a0F
 r88:aM C 88 n6
 r89:aM C 89 a3M
 r90:aM C 90 a3P
 r94:aM C 94 G3
theorem KM {C:Ctx} (c:mX C):fz C :=
 {tE c.tofV with
  int:=fun n p=>(c.r47.go (VQ (tE c.tofV) n p) rfl).seen
  mul:=fun a b d e i l=>(c.r36.go (afY (RZ c.tofV) a b d e i l) rfl).seen
  add:=fun a b d e i l=>(c.r30.go (aeQ (zY c.tofV) a b d e i l) rfl).seen
  sub:=fun a b d e i l=>(c.r37.go (agG (zY c.tofV) a b d e i l) rfl).seen }
theorem zZ {C:Ctx} (c:mX C):OC C :=
 {KM c with
  valid:=fun x d=>c.r56.go (Ff (KM c) x.neg x.num x.den d.1 d.2.1 d.2.2.1 d.2.2.2) rfl
  big:=fun x=>c.r48.go (Et x.1 (aI x.2.1) (aI x.2.2)) rfl }
theorem SA {C:Ctx} (c:mX C):ga C :=
 {zZ c with
  fits:=fun x=>(c.r57.go (Ug (zZ c) x) rfl).seen
  red:=fun x i=>(c.r52.go (qn (zZ c) x i) rfl).seen
  prod:=fun a b d e l p q u=>c.r60.go (Fb (KM c) a b d e l p q u) rfl }
theorem pO {C:Ctx} (c:mX C):vJ C :=
 {SA c with
  order:=fun x y d e i l=>c.r51.go (Ex (SA c) x y d e i l) rfl }
theorem mo {C:Ctx} (c:mX C):G1 C :=
 {pO c with
  less:=fun x y d e i l=>c.r49.go (Um (pO c) x y d e i l) rfl
  same:=fun x y d e i l=>c.r53.go (Uw (pO c) x y d e i l) rfl
  sign:=fun x d i=>c.r54.go (Uz (pO c) x d i) rfl
  plus:=fun x y d e=>(c.r46.go (agP (pO c) x y d e) rfl).seen }
theorem zW {C:Ctx} (c:mX C):NY C :=
 {mo c with
  sum:=fun l e d=>(c.r55.go (ahD (mo c) l e d) rfl).seen
  inn:=fun n lo hi=>c.r76.go (tx n lo hi) rfl
  code:=fun k m=>c.r61.go (Sk k m) rfl }
theorem FZ {C:Ctx} (c:mX C):UH C :=
 {zW c with
  small:=fun x d=>c.r74.go (Gb (zW c) x d) rfl
  nums:=fun k m q s0 s1 s2 s3 s4=>c.r72.go (YS (zW c) k m q s0 s1 s2 s3 s4) rfl
  sizes:=fun e i l p u w=>c.r73.go (F8 e i l p u w) rfl }
theorem GA {C:Ctx} (c:mX C):UI C :=
 {FZ c with
  smalls:=fun l d n=>c.r75.go (sg (FZ c) l d n) rfl }
theorem GB {C:Ctx} (c:mX C):UJ C :=
 {GA c with
  reps:=fun l d m=>c.r66.go (aiB (GA c) l d m) rfl }
theorem GC {C:Ctx} (c:mX C):UK C :=
 have d:∀ n:Nat,aH C 65 [.int .u8 n] .nil (aF (.bool (eO n))):=fun n=>c.r65.go (rv n) rfl;have e:∀ n:Nat,aH C 63 [.int .u8 n] .nil (aF (.bool (kK n))):=fun n=>c.r63.go (Fj n) rfl
 {GB c with
  name:=fun s=>c.r62.go (re d (fun n=>c.r64.go (qy d e n) rfl) s) rfl
  index:=fun l i s=>c.r71.go (Fu l i s) rfl }
theorem GD {C:Ctx} (c:mX C):oG C :=
 {GC c with
  fresh:=fun l e s w H d=>c.r70.go (Fp (GC c) l e s w H d) rfl }
theorem wd {C:Ctx} (c:mX C):pU C :=
 {GD c with
  law:=fun l d=>c.r68.go (ahS (GD c) l d) rfl }
theorem adP {C:Ctx} (c:mX C):UL C :=
 {wd c with
  dur:=fun m rep e t h i d=>c.r69.go (ahO (GB c) m rep e t h i d) rfl }
open Go Go.RowKit
def BC (R:PH→Prop):bR
 | .normal,_,H=>R H
 | _,_,_=>False
theorem bM.putObj {E:Env} {H:PH} {w:World} {l:Nat} {o o':Obj} (hW:bM E H w) (y:w.heap[l]?=some o) (A:∀ c t b,o≠.cells c t b) (B:H l=none):bM E H (w.putObj l o'):=by
 refine⟨fun b cs h=>?_,fun q x h=>?_,fun q n h=>?_⟩
 ·obtain⟨d,ty,u,i⟩:=hW.g b cs h;have:b≠l:=fun e=>by rw[e,y] at i; exact A _ _ _ (by injection i)
  exact⟨d,ty,u,(World.putObj_heap_other this).trans i⟩
 ·obtain⟨d,i⟩:=hW.h q x h;have:q≠l:=fun e=>by rw[e,B] at h; cases h
  exact⟨by rw[World.putObj_size]; exact d,i.mono (.refl E) (World.putObj_heap_other this)⟩
 ·obtain⟨p,ty,u,d,i⟩:=hW.s q n h;have:q≠l:=fun e=>by rw[e,y] at d; exact A _ _ _ (by injection d)
  exact⟨p,ty,u,(World.putObj_heap_other this).trans d,i⟩
theorem bM.setObj {E:Env} {H:PH} {w:World} {l:Nat} {o:Obj} {x:cG} (hW:bM E H w) (i:w.heap[l]?=some o) (A:∀ c t b,o≠.cells c t b) (B:NX E w l x):bM E (H.set l x) w:=by
 refine⟨fun b cs h=>?_,fun q y h=>?_,hW.s⟩
 ·obtain⟨u,ty,p,d⟩:=hW.g b cs h;have:¬ b=l:=fun e=>by rw[e,i] at d; exact A _ _ _ (by injection d)
  refine⟨fun y F=>u y ?_,ty,p,d⟩
  rwa [aT,if_neg this] at F
 ·rw[aT] at h;split at h
  ·rename_i e;cases h;subst e;exact⟨(baQ.1 i).1,B⟩
  ·exact hW.h q y h
theorem aCO {c:Code} {l m:Nat} {P:Program} {Q:Exit→Act→World→Prop} {d tm':Array Value} {ds:List Deferred} {w:World} (e:d=tm') (h:c.wpIn (Fz (some l)) m P Q { tmps:=tm',defers:=ds } w):c.wpIn (Fence.wide.inRound l) m P Q { tmps:=d,defers:=ds } w:=by
 subst e; exact h
section
variable {C:Ctx} {T:Tbl}
theorem Xu (U:C.P=T.P) (M:C.num=T.num) {n t l:Nat} {B J:Code} {ε O:aC} (h1:T.code n B=some ε) (h2:T.code n J=some O) (ht:t<n) {F:PF} {x:PV} {H:PH} {R:PH→Prop} (hl:H l=none)
  (Λ:ε.wp C (gE C (O.wp C) (BC R)) (F.set t x) H) :
  FG C l [x] (H.set l (.loop F n t B J)) (fun r H'=>r=.bool true∧∃ H2,R H2∧H2 l=none∧H'=H2.set l (.loop F n t B J)):=by
 intro E w vs hN hW Θ;obtain⟨vl⟩:=vs;cases Θ with
 | cons e1 e2 =>
 cases e2;rename_i v;obtain⟨hlt,rec,S,N,δ,γ,has,θ,ο,hF⟩:=hW.h l (.loop F n t B J) (by rw[cP]);have ω:bM E H w:=hW.weaken fun o y ho=>by
  have:¬ o=l:=fun e=>by rw[e,hl] at ho; cases ho
  rw[aT,if_neg this]; exact ho
 refine⟨rec.fn,_,rec.assign,rec.body,run_yield S (by rw[γ]; rfl),?_⟩;rw[has,θ,γ];refine roundIn_of_wpIn (F:=Fence.wide) trivial ?_;have hA:dL [] n E (F.set t x) { tmps:=rec.tmps.setIfInBounds t v,defers:=[] }:=by
  refine⟨by simp[ο],rfl,fun i pv hi=>?_⟩;rw[kD] at hi;split at hi
  ·rename_i e;cases hi;subst e;simp only[baZ];rw[Array.getElem?_setIfInBounds_self_of_lt Om];exact e1
  ·rename_i e;simp only[baZ];rw[Array.getElem?_setIfInBounds_ne (fun h=>e h.symm),← baZ];exact hF i pv hi
 rw[U];refine aCO (tm':=rec.tmps.setIfInBounds t v) (by simp) ?_;refine pW (ro:=some l) (fu:=0) U M B ε (gE C (O.wp C) (BC R)) _ E (F.set t x) H _ w h1 Λ hA ω (hN.trans M) fun e E1 F1 H1 a1 A τ υ p W=>?_;cases e with
 | exit id=>exact W.elim
 | ret=>exact W.elim
 | normal =>
  have Z:A.heap[l]?=some (.loop rec):=(p.block l hlt hl).trans S;have V:H1 l=none:=by
   cases hh:H1 l with
   | none=>rfl
   | some y =>
    rcases p.new l y hh with ⟨z,u⟩ | hge
    ·rw[hl] at u; cases u
    ·omega
  refine⟨_,run_beginRound Z N,?_⟩;have φ:=υ.putObj (o':=.loop { rec with state:=.busy }) Z (fun _ _ _ h=>by cases h) V;have Q:l<A.heap.size:=(baQ.1 Z).1;have Δ:(A.putObj l (.loop { rec with state:=.busy })).heap[l]?=some (.loop { rec with state:=.busy }):=World.putObj_heap_same Q;have ρ:(A.putObj l (.loop { rec with state:=.busy })).heap.size=A.heap.size:=World.putObj_size;have β:∀ b,b≠l→(A.putObj l (.loop { rec with state:=.busy })).heap[b]?=A.heap[b]?:=fun b hb=>World.putObj_heap_other hb;have ξ:(A.putObj l (.loop { rec with state:=.busy })).os=A.os:=rfl;have σ:(A.putObj l (.loop { rec with state:=.busy })).tape=A.tape:=rfl;have ν:(A.putObj l (.loop { rec with state:=.busy })).output=A.output:=rfl;generalize A.putObj l (.loop { rec with state:=.busy })=w2 at *
  refine pW (ro:=some l) (fu:=0) U M J O (BC R) _ E1 F1 H1 a1 w2 h2 W τ φ (p.env.num.trans (hN.trans M)) fun e2 E2 F2 H2 a2 w3 Ξ χ q X=>?_;cases e2 with
  | exit id=>exact X.elim
  | ret=>exact X.elim
  | normal =>
   have α:w3.heap[l]?=some (.loop { rec with state:=.busy }):=(q.block l (by rw[ρ]; exact Q) V).trans Δ;have μ:l<w3.heap.size:=(baQ.1 α).1;have η:H2 l=none:=by
    cases hh:H2 l with
    | none=>rfl
    | some y =>
     rcases q.new l y hh with ⟨z,u⟩ | hge
     ·rw[V] at u; cases u
     ·omega
   have ζ:({ { rec with state:=.busy } with state:=if (none:Option Code).isNone then .ready else .done,pending:=none }:Loop)=rec:=by obtain⟨a,b,c,d,e,f,g,h⟩:=rec;simp only at N δ;subst N δ;rfl
   refine⟨_,_,run_endRound none α,?_⟩;rw[ζ];have ψ:=(χ.putObj (o':=.loop rec) α (fun _ _ _ h=>by cases h) η);have κ:(w3.putObj l (.loop rec)).heap[l]?=some (.loop rec):=World.putObj_heap_same μ;have ι:E.le E2:=p.env.trans q.env;refine⟨.bool true,.bool true,E2,H2.set l (.loop F n t B J),rfl,ψ.setObj κ (fun _ _ _ h=>by cases h) ⟨rec,κ,N,δ,γ,has,θ,ο,fun i pv hi=>(hF i pv hi).mono ι⟩,.bool true,?_,rfl,H2,X,η,rfl⟩;refine⟨ι,?_,?_,?_,?_,fun b hb hn=>?_,fun o y ho=>?_,fun b cs hb=>?_⟩
   ·exact q.os.trans (ξ.trans p.os)
   ·exact q.tape.trans (σ.trans p.tape)
   ·exact q.output.trans (ν.trans p.output)
   ·have:=p.size;have:=q.size;rw[World.putObj_size];omega
   ·have Y:b≠l:=fun e=>by rw[e,cP] at hn; cases hn
    rw[aT,if_neg Y] at hn;have Γ:H1 b=none:=by
     cases hh:H1 b with
     | none=>rfl
     | some y =>
      rcases p.new b y hh with ⟨z,u⟩ | hge
      ·rw[hn] at u; cases u
      ·omega
    rw[World.putObj_heap_other Y,q.block b (by have:=p.size; omega) Γ,β b Y,p.block b hb hn]
   ·rw[aT] at ho;split at ho
    ·rename_i e;exact .inl ⟨_,by rw[e,cP]⟩
    ·rename_i e;rcases q.new o y ho with ⟨z,u⟩ | hge
     ·rcases p.new o z u with ⟨z2,K⟩ | hge
      ·exact .inl ⟨z2,by rw[aT,if_neg e]; exact K⟩
      ·exact .inr hge
     ·have:=p.size;exact .inr Om
   ·rcases q.newG b cs hb with hg | ⟨z,u⟩ | hge
    ·rcases p.newG b cs hg with hg | ⟨z,u⟩ | hge
     ·exact .inl hg
     ·have e:¬ b=l:=fun e=>by rw[e,hl] at u; cases u
      exact .inr (.inl ⟨z,by rw[aT,if_neg e]; exact u⟩)
     ·exact .inr (.inr hge)
    ·rcases p.new b z u with ⟨z2,K⟩ | hge
     ·have e:¬ b=l:=fun e=>by rw[e,hl] at K; cases K
      exact .inr (.inl ⟨z2,by rw[aT,if_neg e]; exact K⟩)
     ·exact .inr (.inr hge)
    ·have:=p.size;exact .inr (.inr Om)
end
open Go Go.RowKit
abbrev uX (D:Nat):Deferred:={ target:=.collected D,args:=#[] }
theorem bM.alloc {E:Env} {H:PH} {w:World} (hW:bM E H w) (o:Obj):bM E H (w.alloc o):=by
 have e:(w.alloc o).heap.size=w.heap.size+1:=World.size_alloc w o;have c:∀ b,b<w.heap.size→(w.alloc o).heap[b]?=w.heap[b]?:=fun b hlt=>Below.heap_alloc w o b hlt;exact hW.same Om (fun b hlt _=>c b hlt) (fun q x d=>c q (hW.h q x d).1)
section
variable {C:Ctx} {T:Tbl} {ds:List Deferred} {fu:Nat}
theorem aVA {f:FuncId} {args:Array Value} {w:World} {P:Program} {fn:Func} (e:P.funcs[f]?=some fn) (i:fn.body.isSome=true) (d:(fn.name=="runtime.NumGoroutine")=false):(callFunc f args).run P w=.ok (.enter f args) w:=by
 have c:fn.body.isNone=false:=by cases h:fn.body<;>simp_all
 simp only[callFunc,Sem.run_bind,Sem.run_pure,Result.andThen_ok,run_program,e,d,c,baR,if_false]
def Id (C:Ctx) (name:Nat) (cs:List PV) (F:PF) (H:PH) (n t:Nat) (c d:Code) (e:PH→Prop):Prop :=
 ∀ l,H l=none→aH C name (wD l::cs) (H.set l (.loop F n t c d)) (fun _ H'=>∃ H2,e H2∧H2.le H'∧H2 l=none∧H' l=some (.loop F n t c d))
theorem Ww (α:C.P=T.P) (Z:C.num=T.num) {n t name:Nat} {g:Operand} {pg:aP} {q A:Code} {cs:List PV} {E:Env} {F:PF} {H:PH} {a:Act} {w:World} {KH:PH→Prop} {Q:Exit→Act→World→Prop} (hg:T.opd g=some pg) (ω:pg.ev F=some (.fn name cs))
  (Γ:Id C name cs F H n t q A KH) (Y:dL ds n E F a) (hW:bM E H w) (hN:E.num=T.num)
  (hT:∀ D W H2 w',dL (uX D::ds) n W F { a with defers:=uX D::a.defers }→bM W H2 w'→Ext E H w W H2 w'→w'.heap[D]?=some (.deferred (some []))→H2 D=none→w.heap.size≤D→KH H2→Q .normal { a with defers:=uX D::a.defers } w') :
  (Code.rangeFunc g #[t] q A).wpIn (Fz none) fu T.P Q a w:=by
 have r:=bC hg ω Y hN;generalize Φ:a.eval g=vg at r;cases r with
 | fn vc χ ψ =>
 have J:∀ o x,H o=some x→o<w.heap.size:=fun o x ho=>(hW.h o x ho).1;have nD:H w.heap.size=none:=by
  cases h:H w.heap.size with
  | none=>rfl
  | some x=>have:=J _ x h; omega
 have nl:H (w.heap.size+1)=none:=by
  cases h:H (w.heap.size+1) with
  | none=>rfl
  | some x=>have:=J _ x h; omega
 obtain⟨⟨fn,hf,R,Δ⟩,S⟩:=Γ (w.heap.size+1) nl;rw[α] at hf;refine wpIn_rangeFunc fun ν _=>?_;obtain⟨rec,M⟩:∃ rec:Loop,rec={ state:=.ready,pending:=none,fn:=ν,tmps:=a.tmps,params:=#[t],assign:=q,body:=A,defers:=w.heap.size }:=⟨_,rfl⟩;obtain⟨d,c⟩:∃ d,(w.alloc (.deferred (some []))).alloc (.loop rec)=d:=⟨_,rfl⟩;have ι:(w.alloc (.deferred (some []))).heap.size=w.heap.size+1:=World.size_alloc _ _;have Ω:d.heap.size=w.heap.size+2:=by rw[← c,World.size_alloc,ι]
 have η:∀ b,b<w.heap.size→d.heap[b]?=w.heap[b]?:=fun b R=>by rw[← c];exact (Below.heap_alloc _ _ b Om).trans (Below.heap_alloc _ _ b R)
 have ο:d.heap[w.heap.size]?=some (.deferred (some [])):=by rw[← c];exact (Below.heap_alloc _ _ _ Om).trans (World.alloc_heap_new w _)
 have ε:d.heap[w.heap.size+1]?=some (.loop rec):=by
  rw[← c];have:=World.alloc_heap_new (w.alloc (.deferred (some []))) (.loop rec)
  rwa [ι] at this
 have υ:bM E H d:=by rw[← c]; exact (hW.alloc _).alloc _
 have φ:bM E (H.set (w.heap.size+1) (.loop F n t q A)) d:=υ.setObj ε (fun _ _ _ h=>by cases h) (by subst M;exact⟨_,ε,rfl,rfl,rfl,rfl,rfl,Y.size,Y.t⟩);have Λ:d.os=w.os:=by rw[← c]; rfl
 have Ξ:d.tape=w.tape:=by rw[← c]; rfl
 have Θ:d.output=w.output:=by rw[← c]; rfl
 have K:C.num name=E.num name:=by rw[Z,hN]
 refine⟨w.heap.size+1,[uX w.heap.size],d,{ target:=.fn (.func (E.num name)) vc,args:=#[.func (.yield (w.heap.size+1)) #[] #[]] },d,E.num name,#[Value.func (.yield (w.heap.size+1)) #[] #[]]++vc,d,?_,?_,?_,?_,?_,?_⟩
 ·rw[← c,M];exact run_enterLoop_outer _ _ _ _ _
 ·simp only[resolve,Φ];simp[go_sem]
 ·exact fun _ _=>trivial
 ·simp only[invoke];exact aVA (by rw[← K]; exact hf) R Δ
 ·intro h; cases h
 ·have O:eJ E (wD (w.heap.size+1)::cs) (#[Value.func (.yield (w.heap.size+1)) #[] #[]]++vc).toList:=by rw[Array.toList_append];exact .cons (.lit _) (eJ.aNS (by simpa using χ) fun j p u hp hu=>ψ j p u hp (by simpa using hu))
  have hc:=S E d _ (hN.trans Z.symm) φ O;rw[α,K] at hc;refine Fz.calls (hc.mono fun e w3 he=>?_);obtain⟨v,pv,W,H',rfl,δ,hr,l,H2,τ,U,B,σ⟩:=he;obtain⟨Ψ,μ,ζ,κ,θ,-⟩:=δ.h _ _ σ;have V:w.heap.size≠w.heap.size+1:=Om;have ρ:w3.heap[w.heap.size]?=some (.deferred (some [])):=(l.block _ Om (by rw[aT,if_neg V]; exact nD)).trans ο;have γ:H' w.heap.size=none:=by
   cases hh:H' w.heap.size with
   | none=>rfl
   | some y =>
    rcases l.new _ y hh with ⟨z,N⟩ | hge
    ·rw[aT,if_neg V,nD] at N; cases N
    ·omega
  have β:H2 w.heap.size=none:=by
   cases hh:H2 w.heap.size with
   | none=>rfl
   | some y=>rw[U _ y hh] at γ; cases γ
  refine⟨μ.pending,_,run_endLoop ζ (by rw[κ]; exact fun h=>by cases h),?_⟩;rw[θ];simp only;have ξ:dL (uX w.heap.size::ds) n W F { a with defers:=uX w.heap.size::a.defers }:=⟨Y.size,by simp only; rw[Y.defers],fun i pv hi=>(Y.t i pv hi).mono l.env⟩;refine hT w.heap.size W H2 _ ξ ((δ.weaken U).putObj ζ (fun _ _ _ h=>by cases h) B) ?_ ((World.putObj_heap_other V).trans ρ) β (a7M _) τ;refine⟨l.env,l.os.trans Λ,l.tape.trans Ξ,l.output.trans Θ,?_,fun b R hn=>?_,fun o y ho=>?_,fun b cs R=>?_⟩
  ·have:=l.size;rw[World.putObj_size]; omega
  ·have X:b≠w.heap.size+1:=Om;rw[World.putObj_heap_other X,l.block b Om (by rw[aT,if_neg X]; exact hn),η b R]
  ·have X:o≠w.heap.size+1:=fun e=>by rw[e,B] at ho; cases ho
   rcases l.new o y (U o y ho) with ⟨z,N⟩ | hge
   ·rw[aT,if_neg X] at N;exact .inl ⟨z,N⟩
   ·exact .inr Om
  ·rcases l.newG b cs R with h | ⟨z,N⟩ | hge
   ·exact .inl h
   ·by_cases X:b=w.heap.size+1
    ·exact .inr (.inr Om)
    ·rw[aT,if_neg X] at N;exact .inr (.inl ⟨z,N⟩)
   ·exact .inr (.inr Om)
end
open Go Go.RowKit
inductive pT where
 | seq (a:aC) (t:pT)
 | range (g:aP) (n t:Nat) (asg bdy:Code) (pas pbd rest:aC)
def pT.wp (C : Ctx) : pT → bR → PF → PH → Prop
  | .seq a t, K, F, H => a.wp C (gE C (t.wp C) K) F H
  | .range g n t asg bdy pas pbd rest, K, F, H => ∃ name cs KH, g.ev F = some (.fn name cs) ∧
      ((∀ (l : Nat) (x : PV) (J : PH) (J' : PH → Prop), J l = none → pas.wp C (gE C (pbd.wp C) (BC J')) (F.set t x) J →
        FG C l [x] (J.set l (.loop F n t asg bdy)) (fun r H' => r = .bool true ∧ ∃ H2, J' H2 ∧ H2 l = none ∧ H' = H2.set l (.loop F n t asg bdy))) → Id C name cs F H n t asg bdy KH) ∧
      ∀ H2, KH H2 → rest.wp C K F H2
namespace Tbl
variable (T:Tbl)
def tail (n:Nat):Code→Option pT
 | .seq (.rangeFunc g ps c d) rest=>match T.opd g,T.code n c,T.code n d,T.code n rest with
  | some p,some e,some i,some q=>match ps.toList with
   | [t]=>if t<n then some (.range p n t c d e i q) else none
   | _=>none
  | _,_,_,_=>none
 | .seq (.seq a (.block _ (.rangeFunc g ps c d))) rest=>match T.code n a,T.opd g,T.code n c,T.code n d,T.code n rest with
  | some l,some p,some e,some i,some q=>match ps.toList with
   | [t]=>if t<n then some (.seq l (.range p n t c d e i q)) else none
   | _=>none
  | _,_,_,_,_=>none
 | .seq a b=>match T.code n a,tail n b with
  | some l,some u=>some (.seq l u)
  | _,_=>none
 | _=>none
end Tbl
section
variable {C:Ctx} {T:Tbl} {fu:Nat}
def yV (n:Nat) (E:Env) (H:PH) (w:World) (K:bR) (Q:Exit→Act→World→Prop):Prop :=
 ∀ ds,(ds=[]∨∃ D,ds=[uX D])→∀ e d i H' l c,dL ds n d i l→bM d H' c→Ext E H w d H' c→(∀ D,ds=[uX D]→c.heap[D]?=some (.deferred (some []))∧H' D=none∧w.heap.size≤D)→K e i H'→Q e.out l c
theorem yV.after {n:Nat} {E i:Env} {H H':PH} {w p:World} {K:bR} {Q:Exit→Act→World→Prop} (h:yV n E H w K Q) (l:Ext E H w i H' p):yV n i H' p K Q :=
 fun ds c e q u H2 a2 B x hW A d y=>h ds c e q u H2 a2 B x hW (l.trans A) (fun D hD=>⟨(d D hD).1,(d D hD).2.1,a8V l.size (d D hD).2.2⟩) y
theorem yV.plain {n:Nat} {E:Env} {H:PH} {w:World} {K:bR} {Q:Exit→Act→World→Prop} (h:yV n E H w K Q):OD [] n E H w K Q :=
 fun e c d H' i u l hW q p=>h [] (.inl rfl) e c d H' i u l hW q (fun D hD=>by cases hD) p
theorem mp (q:C.P=T.P) (p:C.num=T.num) {n t:Nat} {g:Operand} {pg:aP} {ps:Array Tmp} {d i rest:Code} {M N pr:aC} {K:bR} {Q Q0:Exit→Act→World→Prop} {E:Env} {F:PF} {H:PH} {a:Act} {w:World} (hQ:∀ a w,rest.wpIn (Fz none) fu T.P Q a w→Q0 .normal a w)
  (h1:T.opd g=some pg) (h2:T.code n d=some M) (h3:T.code n i=some N) (h4:T.code n rest=some pr) (h5:ps.toList=[t]) (ht:t<n)
  (Z:(pT.range pg n t d i M N pr).wp C K F H) (hA:dL [] n E F a) (hW:bM E H w) (hN:E.num=T.num) (hT:yV n E H w K Q) :
  (Code.rangeFunc g ps d i).wpIn (Fz none) fu T.P Q0 a w:=by
 obtain⟨name,cs,KH,k1,k2,k3⟩:=Z;have Y:ps=#[t]:=by obtain⟨l⟩:=ps;simp only at h5;subst h5;rfl
 subst Y;refine Ww (ds:=[]) q p h1 k1 (k2 fun l x J J' hJ hw=>Xu q p h2 h3 ht hJ hw) hA hW hN fun D E' H2 w' O W A hD B S V=>?_;refine hQ _ w' ?_;refine pW (ro:=none) (fu:=fu) (ds:=[uX D]) q p rest pr K Q E' F H2 _ w' h4 (k3 H2 V) O W (A.env.num.trans hN) fun e E3 F3 H3 a3 w3 R X u U=>?_;refine hT [uX D] (.inr ⟨D,rfl⟩) e E3 F3 H3 a3 w3 R X (A.trans u) (fun D' c=>?_) U;injection c with c _
 injection c with c _
 injection c with c
 subst c;have hlt:D<w'.heap.size:=(baQ.1 hD).1;refine⟨(u.block D hlt B).trans hD,?_,S⟩;cases hh:H3 D with
 | none=>rfl
 | some y =>
  rcases u.new D y hh with ⟨z,hz⟩ | hge
  ·rw[B] at hz; cases hz
  ·omega
theorem aoT (p:C.P=T.P) (l:C.num=T.num) {n:Nat}:∀ (c:Code) (t:pT) (K:bR) (Q:Exit→Act→World→Prop) (E:Env) (F:PF) (H:PH) (a:Act) (w:World),
  T.tail n c=some t→t.wp C K F H→dL [] n E F a→bM E H w→E.num=T.num→yV n E H w K Q→c.wpIn (Fz none) fu T.P Q a w:=by
 intro c
 induction c with
 | seq x y γ α =>
  intro t K Q E F H a w d B hA hW W A;unfold Tbl.tail at d;split at d
  ·rename_i g ps q u rest e;cases e;split at d
   ·rename_i pg J M pr U V Y Z;split at d
    ·rename_i t0 e5;split at d
     ·rename_i e6;cases d;exact wpIn_seq (mp p l (fun _ _ h=>h) U V Y Z e5 e6 B hA hW W A)
     ·cases d
    ·cases d
   ·cases d
  ·rename_i a0 β g ps q u rest e;cases e;split at d
   ·rename_i X pg J M pr e0 U V Y Z;split at d
    ·rename_i t0 e5;split at d
     ·rename_i e6;cases d;have i:X.wp C (gE C ((pT.range pg n t0 q u J M pr).wp C) K) F H:=B;refine wpIn_seq (wpIn_seq (pW (ro:=none) (fu:=fu) (ds:=[]) p l a0 X (gE C ((pT.range pg n t0 q u J M pr).wp C) K) _ E F H a w e0 i hA hW W fun e N O H' R S g1 g2 g3 g4=>?_));cases e with
      | normal=>exact wpIn_block (mp p l (fun _ _ h=>h) U V Y Z e5 e6 g4 g1 g2 (g3.env.num.trans W) (A.after g3))
      | exit id=>exact A.plain (.exit id) N O H' R S g1 g2 g3 g4
      | ret=>exact A.plain .ret N O H' R S g1 g2 g3 g4
     ·cases d
    ·cases d
   ·cases d
  ·rename_i a0 b0 _ _ e;cases e;split at d
   ·rename_i X tb U V;cases d;have i:X.wp C (gE C (tb.wp C) K) F H:=B;refine wpIn_seq (pW (ro:=none) (fu:=fu) (ds:=[]) p l x X (gE C (tb.wp C) K) _ E F H a w U i hA hW W fun e N O H' R S g1 g2 g3 g4=>?_);cases e with
    | normal=>exact α tb K Q N O H' R S V g4 g1 g2 (g3.env.num.trans W) (A.after g3)
    | exit id=>exact A.plain (.exit id) N O H' R S g1 g2 g3 g4
    | ret=>exact A.plain .ret N O H' R S g1 g2 g3 g4
   ·cases d
  ·cases d
 | _=>intro t K Q E F H a w d; simp[Tbl.tail] at d
end
structure yU where
 nparams:Nat
 ntmps:Nat
 body:pT
 res:List dV
namespace Tbl
variable (T:Tbl)
def akI (fn:Func):Option yU :=
 match fn.body with
 | some c=>match T.tail fn.ntmps c,T.wn fn.results.toList with
  | some b,some rs=>some ⟨fn.params.size,fn.ntmps,b,rs⟩
  | _,_=>none
 | none=>none
end Tbl
theorem ajV {C:Ctx} {T:Tbl} {H:PH} (F:C.P=T.P) (B:C.num=T.num) {name:Nat} {args:List PV} {R:PV→PH→Prop} {fn:Func} {X:yU} (hf:C.P.funcs[C.num name]?=some fn) (γ:(fn.name=="runtime.NumGoroutine")=false)
  (d:T.akI fn=some X) (N:args.length≤X.ntmps) (h:X.body.wp C (aV X.res R) (PF.args args) H):aH C name args H R:=by
 unfold Tbl.akI at d;split at d
 ·rename_i c W;split at d
  ·rename_i b rs u y;cases d;refine⟨⟨fn,hf,by simp[W],γ⟩,fun E w vs hN hW S=>?_⟩;have ζ:vs.size=args.length:=by simpa using S.len
   refine (callsIn_wide (n:=0)).1 (callsIn_of_wp_marks hf W trivial ?_ rfl);rw[F];have hA:dL [] fn.ntmps E (PF.args args) { tmps:=vs++a9F (fn.ntmps-vs.size) undef,defers:=[] }:=by
    refine⟨by simp only at N; simp; omega,rfl,fun i pv hi=>?_⟩;have x:i<vs.size:=by
     rw[ζ];rcases a8D i args.length with h' | h'
     ·exact h'
     ·simp[PF.args,a8X h'] at hi
    simp only[baZ];rw[Array.getElem?_append_left x,baT x];exact S.at_ i pv _ hi (by simp[x])
   refine aoT (fu:=0) F B c b (aV rs R) _ E (PF.args args) H _ w u h hA hW (hN.trans B) fun ds α e l F' H' V q A J p hm hK=>?_;have fin:∀ Y,bM l H' Y→Ext E H w l H' Y→aV rs R .ret F' H'→LeavesIn Fence.wide 0 T.P fn V.tmps (fun e q=>∃ v pv l H',e=.returned v∧bM l H' q∧aZ l pv v∧Ext E H w l H' q∧R pv H') [] .returning Y:=by
    rintro Y K Z ⟨η,O,F1,H1,H2,β,M,v0,ε,hR⟩;obtain⟨us,g1,g2⟩:=KQ A K fn.results.toList rs η y O;have δ:=mh g2;obtain⟨E2,k1,k2,k3⟩:=β.sound K;have Q:=k3 (fun _=>if h:us.toArray.size=1 then us.toArray[0] else .tuple us.toArray) (fun i pv hi=>by
     simp only[PF.set,upd] at hi;split at hi
     ·cases hi; exact δ
     ·cases hi) 0 v0 ε
    refine⟨_,?_,_,v0,E2,H2,rfl,k1.weaken M,Q,(Z.trans k2).drop M,hR⟩;rw[na,Array.mapM_eq_mapM_toList];simp[g1]
   have U:aV rs R .ret F' H'→bodyPostM Fence.wide 0 T.P fn (fun e q=>∃ v pv l H',e=.returned v∧bM l H' q∧aZ l pv v∧Ext E H w l H' q∧R pv H') .ret V q:=by
    intro hr;show LeavesInM Fence.wide 0 T.P fn V.tmps _ V.defers .returning q;rw[A.defers];rcases α with rfl | ⟨D,rfl⟩
    ·exact fin q J p hr
    ·obtain⟨m1,m2,m3⟩:=hm D rfl;refine⟨(fun h=>by cases h),.inl ⟨D,_,rfl,run_takeDeferred m1,?_⟩⟩;refine fin _ (J.putObj m1 (fun _ _ _ h=>by cases h) m2) ⟨p.env,p.os,p.tape,p.output,?_,fun b W hn=>?_,p.new,p.newG⟩ hr
     ·rw[World.putObj_size]; exact p.size
     ·rw[World.putObj_heap_other Om]; exact p.block b W hn
   cases e with
   | normal=>exact U hK
   | exit id=>exact hK.elim
   | ret=>exact U hK
  ·cases d
 ·cases d
end Go.PM
namespace Go.PM
open Go
def X0:Rg:=[iA 3 (.box true (Tm 0)),iA 4 (.box true (Tm 1)),iT 6 false]
def X1:Rg:=[iF 15 2 3,iL 16 15,iN 17 16,iA 18 (.a6D 1 1 [zB] (Tm 17) (Tm 17)),iM 7 18]
def X2:Rg:=[iF 19 9 4,iL 20 19,iN 21 20,iI 22 0]
def X3:Rg:=[iB 23 .lss 22 21]
def X4:Rg:=[iX 24 1 20 22,iL 25 24,iM 9 25]
def X5:Rg:=[iM 26 7,iM 27 9,iX 28 1 26 27,⟨none,.store 1 (Tm 28) (.const (.bool true)),none⟩]
def X6:Rg:=[iC 29 .add 22 1,iM 22 29]
def Xz:aC:=(sq X3 (.seq (.cond (Tm 23) .skip (.exit 0)) (.seq (.block 1 (sq X4 (.region X5))) (.region X6))))
def X7:Rg:=[iF 30 3 3,iL 31 30,iN 32 31,iA 33 (.a6D 1 8 [zI] (Tm 32) (Tm 32)),iM 10 33]
def X8:Rg:=[iM 34 2,iN 35 34,iI 36 0]
def GQ:Rg:=[iB 37 .lss 36 35]
def ZE:Rg:=[iX 38 1 34 36,iL 39 38,iM 12 39]
def ZF:Rg:=[iM 40 7,iF 41 4 3,iL 42 41,iM 43 12,iX 44 3 42 43,iF 45 1 44,iL 46 45,iX 47 1 40 46,iL 48 47,iA 49 (.un .not (Tm 48))]
def It:Rg:=[iT 6 false]
def Iu:Rg:=[iF 50 4 3,iL 51 50,iM 52 12,iX 53 3 51 52,iF 54 2 53,iL 55 54,iM 13 55]
def Iv:Rg:=[iM 56 13,iC 57 .gtr 56 0]
def Iw:Rg:=[iM 64 10,iM 65 13,iX 66 1 64 65,iL 67 66,iC 68 .add 67 1,iX 69 1 64 65,iS 1 69 68]
def Ix:Rg:=[iF 70 3 3,iL 71 70,iM 72 13,iX 73 7 71 72,iF 74 1 73,iL 75 74,iF 76 4 4,iA 77 (.idxA 5 1 (Tm 76) (Tm 75)),iL 78 77,iM 14 78]
def GR:Rg:=[iM 79 14,iC 80 .gtr 79 0,iM 81 80,gM 82 10 81 true,gM 83 13 81 true,iG 84 (.a6M 1 (Tm 82) (Tm 83)) 81 true,gL 85 84 81 true,gM 86 14 81 true,gB 87 .gtr 85 86 81 true,iP 88 81 87]
def Iy:Rg:=[iT 6 false]
def ZG:Rg:=[iF 58 3 3,iL 59 58,iM 60 13,iX 61 7 59 60,iF 62 2 61,iL 63 62,iM 13 63]
def ZD:aC:=(.seq (sq Iv (.cond (Tm 57) .skip (.exit 4))) (.seq (.block 5 (sq Iw (sq Ix (sq GR (.cond (Tm 88) (sq Iy .ret) .skip))))) (.region ZG)))
def Iz:Rg:=[iC 89 .add 36 1,iM 36 89]
def zA:aC:=(sq GQ (.seq (.cond (Tm 37) .skip (.exit 2)) (.seq (.block 3 (sq ZE (.seq (sq ZF (.cond (Tm 49) (sq It .ret) .skip)) (sq Iu (.block 4 (.loop ZD)))))) (.region Iz))))
def I0:Rg:=[iT 6 true]
def OM:aC:=(sq X0 (sq X1 (.seq (sq X2 (.block 0 (.loop Xz))) (sq X7 (.seq (sq X8 (.block 2 (.loop zA))) (sq I0 .ret))))))
def aOK:List Nat:=[3,4]
def aDQ:aS:=⟨3,90,OM,[.tmp 6]⟩
def Ya:Rg:=[iT 6 false]
def Yb:Rg:=[iM 9 0,iN 10 9,iI 11 0]
def ud:Rg:=[iB 12 .lss 11 10]
def Yc:Rg:=[iM 13 11,iX 14 1 9 11,iL 15 14,iM 7 13,iM 8 15]
def xZ:Rg:=[iM 16 8,iC 17 .lss 16 0,iM 18 17,gM 19 8 18 false,gM 20 2 18 false,gB 21 .geq 19 20 18 false,iQ 22 18 21,iM 23 22,gM 24 7 23 false,gC 25 .gtr 24 0 23 false,gM 26 25 23 false,gM 27 0 26 true,gM 28 7 26 true,gC 29 .sub 28 1 26 true,iG 30 (.a6M 1 (Tm 27) (Tm 29)) 26 true,gL 31 30 26 true,gM 32 8 26 true,gB 33 .geq 31 32 26 true,iG 34 (.pick (Tm 26) (Tm 33) (.const zB)) 23 false,iQ 35 23 34]
def UM:Rg:=[iT 6 false]
def ue:Rg:=[iC 36 .add 11 1,iM 11 36]
def uc:aC:=(sq ud (.seq (.cond (Tm 12) .skip (.exit 0)) (.seq (.block 1 (sq Yc (sq xZ (.cond (Tm 35) (sq UM .ret) .skip)))) (.region ue))))
def Yd:Rg:=[iM 37 0,iN 38 37,iM 39 1,iB 40 .eql 38 39,iM 6 40]
def OP:aC:=(sq Ya (.seq (sq Yb (.block 0 (.loop uc))) (sq Yd .ret)))
def aOO:List Nat:=[]
def aDT:aS:=⟨3,41,OP,[.tmp 6]⟩
def xy:Rg:=[iA 2 (.box true (Tm 0)),iT 4 false]
def xz:Rg:=[iO 5 7 2,iK 6 96 5,iC 7 .eql 6 0,iM 8 7,gM 9 1 8 true,gC 10 .geq 9 0 8 true,iP 11 8 10,iM 12 11,gM 13 1 12 true,gF 14 5 2 12 true,gL 15 14 12 true,gN 16 15 12 true,gB 17 .lss 13 16 12 true,iP 18 12 17,iM 4 18]
def CL:aC:=(sq xy (sq xz .ret))
def arN:List Nat:=[2]
def I4:aS:=⟨2,19,CL,[.tmp 4]⟩
def xn:Rg:=[iA 3 (.box true (Tm 0)),iT 6 false]
def xo:Rg:=[iO 8 7 3,iM 9 1,iK2 10 203 8 9,iA 11 (.un .not (Tm 10))]
def xp:Rg:=[iT 6 false]
def xq:Rg:=[iF 12 5 3,iL 13 12,iM 14 1,iX 15 17 13 14,iO 16 17 15,iA 7 (.alloc [(.str []),zI,zI,zI,zI,zI,zI,zI,zI,.aB,.aB,zB,.aB,.aB,zB,.aB,.aB]),iS 17 7 16]
def xr:Rg:=[iM 17 2,iF 18 1 7,iL 19 18,iF 20 2 7,iL 21 20,iB 22 .add 19 21,iF 23 4 3,iL 24 23,iN 25 24,iA 26 (.call 202 [(Tm 17),(Tm 22),(Tm 25)]),iM 27 26,gO 28 7 3 27 true,gO 29 17 7 27 true,gM 30 2 27 true,iG 31 (.call 201 [(Tm 28),(Tm 29),(Tm 30)]) 27 true,iP 32 27 31,iM 6 32]
def CJ:aC:=(sq xn (.seq (sq xo (.cond (Tm 11) (sq xp .ret) .skip)) (sq xq (sq xr .ret))))
def arI:List Nat:=[3]
def I1:aS:=⟨3,33,CJ,[.tmp 6]⟩
def xt:Rg:=[iA 2 (.box true (Tm 0)),iZ 4,iI 5 0]
def xu:Rg:=[iO 7 7 2,iM 8 1,iK2 9 203 7 8,iA 10 (.un .not (Tm 9)),iM 6 10]
def xv:Rg:=[iZ 4,iI 5 1]
def ON:Rg:=[iF 12 4 2,iL 13 12,iN 14 13,iC 15 .gtr 14 12,iM 11 15]
def xw:Rg:=[iZ 4,iI 5 2]
def xx:Rd:=[(iO 16 7 2,false),(iF 17 5 2,false),(iL 18 17,false),(iM 19 1,false),(iX 20 17 18 19,false),(iO 21 17 20,false),(iK2 22 229 16 21,true),(iM 4 22,false),(iI 5 0,false)]
def CK:aC:=(sq xt (.seq (.block 0 (sq xu (.cond (Tm 6) (sq xv .ret) (sq ON (.cond (Tm 11) (sq xw .ret) .skip))))) (dq xx .ret)))
def arK:List Nat:=[2]
def call17:aS:=⟨2,23,CK,[.tmp 4,.tmp 5]⟩
def yo:Rg:=[iA 2 (.box true (Tm 0)),iZ 4]
def yq:Rg:=[iZ 5]
def yr:Rg:=[iM 13 1,iC 14 .eql 13 5]
def yu:Rg:=[iF 15 4 2,iL 16 15,iN 17 16,iI 18 0]
def yv:Rg:=[iB 19 .lss 18 17]
def yw:Rg:=[iM 20 18,iM 6 20]
def yx:Rg:=[iM 21 5,iM 22 6,iA 23 (.a6B true 1 1 [zI] [(0,(Tm 22))]),iA 24 (.a6B true 1 1 [.aB] [(0,(Tm 23))]),iA 25 (.append 1 24 (Tm 21) (Tm 24)),iM 5 25]
def yy:Rg:=[iC 26 .add 18 1,iM 18 26]
def yn:aC:=(sq yv (.seq (.cond (Tm 19) .skip (.exit 0)) (.seq (.block 1 (sq yw (.region yx))) (.region yy))))
def yz:Rg:=[iM 27 5,iM 4 27]
def ij:Rg:=[iF 28 3 2,iL 29 28,iN 30 29,iA 31 (.a6D 1 8 [zI] (Tm 30) (Tm 30)),iM 7 31]
def ik:Rg:=[iF 32 3 2,iL 33 32,iN 34 33,iI 35 0]
def im:Rg:=[iB 36 .lss 35 34]
def io:Rg:=[iM 37 35,iX 38 7 33 35,iO 39 7 38,iA 9 (.alloc [(.str []),zI,zI,zI,zB,.aB,.aB]),iM 8 37,iS 7 9 39]
def ip:Rg:=[iF 40 1 9,iL 41 40,iM 42 1,iB 43 .eql 41 42]
def iq:Rg:=[iM 44 7,iM 45 8,iM 46 5,iN 47 46,iX 48 1 44 45,iS 1 48 47]
def ir:Rg:=[iM 49 5,iA 50 (.a6B true 1 1 [.aB] [(0,(.const .aB))]),iA 51 (.append 1 24 (Tm 49) (Tm 50)),iM 5 51]
def HC:Rg:=[iC 52 .add 35 1,iM 35 52]
def ig:aC:=(sq im (.seq (.cond (Tm 36) .skip (.exit 2)) (.seq (.block 3 (sq io (sq ip (.cond (Tm 43) (sq iq (.region ir)) .skip)))) (.region HC))))
def it:Rg:=[iF 53 4 2,iL 54 53,iN 55 54,iI 56 0]
def iu:Rg:=[iB 57 .lss 56 55]
def iv:Rg:=[iM 58 56,iX 59 3 54 56,iO 60 3 59,iA 11 (.alloc [(.str []),zI,zI]),iM 10 58,iS 3 11 60]
def iw:Rg:=[iF 61 2 11,iL 62 61,iM 12 62]
def HD:Rg:=[iF 63 3 2,iL 64 63,iM 65 12,iX 66 7 64 65,iF 67 1 66,iL 68 67,iM 69 1,iB 70 .gtr 68 69]
def ix:Rg:=[iF 71 3 2,iL 72 71,iM 73 12,iX 74 7 72 73,iF 75 2 74,iL 76 75,iM 12 76]
def wN:aC:=(.seq (sq HD (.cond (Tm 70) .skip (.exit 6))) (.block 7 (.region ix)))
def iy:Rd:=[(iM 77 5,true),(iM 78 7,true),(iM 79 12,true),(iX 80 1 78 79,true),(iL 81 80,true),(iM 82 5,false),(iM 83 7,false),(iM 84 12,false),(iX 85 1 83 84,false),(iL 86 85,false),(iX 87 1 82 86,false),(iL 88 87,false),(iM 89 10,false),(iA 90 (.a6B true 1 1 [zI] [(0,(Tm 89))]),false),(iA 91 (.append 1 8 (Tm 88) (Tm 90)),true),(iX 92 1 77 81,false)]
def iz:Rd:=[(iS 1 92 91,true)]
def i0:Rg:=[iC 93 .add 56 1,iM 56 93]
def ii:aC:=(sq iu (.seq (.cond (Tm 57) .skip (.exit 4)) (.seq (.block 5 (sq iv (sq iw (.seq (.block 6 (.loop wN)) (dq iy (.draw iz)))))) (.region i0))))
def i4:Rg:=[iM 94 5,iM 4 94]
def CN:aC:=(sq yo (sq yq (.seq (sq yr (.cond (Tm 14) (.seq (sq yu (.block 0 (.loop yn))) (sq yz .ret)) .skip)) (sq ij (.seq (sq ik (.block 2 (.loop ig))) (.seq (sq it (.block 4 (.loop ii))) (sq i4 .ret)))))))
def arS:List Nat:=[2,23,24,50,90]
def Ju:aS:=⟨2,95,CN,[.tmp 4]⟩
def gh:Rg:=[iI 4 0]
def gi:Rg:=[iI 5 1]
def gj:Rg:=[iI 6 0]
def gk:Rg:=[iM 7 6,iM 8 1,iB 9 .lss 7 8]
def gl:Rg:=[iM 12 5,iM 13 0,iM 14 6,iB 15 .sub 13 14,iB 16 .mul 12 15,iM 17 6,iC 18 .add 17 1,iB 19 .quo 16 18,iM 5 19]
def gm:Rg:=[iM 10 6,iC 11 .add 10 1,iM 6 11]
def gg:aC:=(.seq (sq gk (.cond (Tm 9) .skip (.exit 0))) (.seq (.block 1 (.region gl)) (.region gm)))
def gn:Rg:=[iM 20 5,iA 21 (.a6Q true (Tm 20) (Ci 0)),iM 4 21]
def zC:aC:=(sq gh (sq gi (.seq (sq gj (.block 0 (.loop gg))) (sq gn .ret))))
def ajH:List Nat:=[]
def ug:aS:=⟨2,22,zC,[.tmp 4]⟩
def I5:Rg:=[iI 6 0]
def I6:Rg:=[iI 7 0]
def I7:Rg:=[iM 14 0,iN 15 14,iI 16 0]
def ZH:Rg:=[iB 17 .lss 16 15]
def I8:Rg:=[iX 18 1 14 16,iL 19 18,iM 9 19]
def I9:Rg:=[iI 10 0,iI 11 0]
def Ja:Rg:=[iM 20 9,iN 21 20,iI 22 0]
def ZI:Rg:=[iB 23 .lss 22 21]
def Jb:Rg:=[iX 24 1 20 22,iL 25 24,iM 13 25]
def GU:Rg:=[iM 26 11,iM 27 1,iN 28 27,iB 29 .lss 26 28,iM 30 29,gM 31 1 30 true,gM 32 11 30 true,iG 33 (.a6M 1 (Tm 31) (Tm 32)) 30 true,gL 34 33 30 true,gM 35 13 30 true,gB 36 .lss 34 35 30 true,iP 37 30 36]
def x2:Rg:=[iM 38 11,iC 39 .add 38 1,iM 11 39]
def vM:aC:=(.seq (sq GU (.cond (Tm 37) .skip (.exit 4))) (.block 5 (.region x2)))
def AX:Rg:=[iM 40 11,iM 41 1,iN 42 41,iB 43 .lss 40 42,iM 44 43,gM 45 1 44 true,gM 46 11 44 true,iG 47 (.a6M 1 (Tm 45) (Tm 46)) 44 true,gL 48 47 44 true,gM 49 13 44 true,gB 50 .eql 48 49 44 true,iP 51 44 50]
def x3:Rg:=[iM 52 10,iC 53 .add 52 1,iM 10 53]
def AY:Rg:=[iC 54 .add 22 1,iM 22 54]
def AW:aC:=(sq ZI (.seq (.cond (Tm 23) .skip (.exit 2)) (.seq (.block 3 (sq Jb (.seq (.block 4 (.loop vM)) (sq AX (.cond (Tm 51) (.region x3) .skip))))) (.region AY))))
def OS:Rg:=[iM 55 10,iM 56 2,iB 57 .gtr 55 56]
def x4:Rg:=[iM 58 7,iC 59 .add 58 1,iM 7 59]
def OT:Rg:=[iC 60 .add 16 1,iM 16 60]
def OR:aC:=(sq ZH (.seq (.cond (Tm 17) .skip (.exit 0)) (.seq (.block 1 (sq I8 (sq I9 (.seq (sq Ja (.block 2 (.loop AW))) (sq OS (.cond (Tm 57) (.region x4) .skip)))))) (.region OT))))
def x5:Rg:=[iM 61 7,iM 6 61]
def GT:aC:=(sq I5 (sq I6 (.seq (sq I7 (.block 0 (.loop OR))) (sq x5 .ret))))
def aEB:List Nat:=[]
def ajI:aS:=⟨3,62,GT,[.tmp 6]⟩
def gt:Rg:=[iA 4 (.box true (Tm 0)),iA 7 (.box true (Tm 3)),iI 8 0,iI 9 0]
def gv:Rg:=[iO 13 7 4,iO 14 2 7,iK2 15 230 13 14,iM 12 15,iE 16 12 0,iE 17 12 1,iM 10 16,iM 11 17]
def GW:Rg:=[iM 19 11,iC 20 .neq 19 0,iM 18 20]
def gw:Rg:=[iM 21 11,iI 8 0,iM 9 21]
def gx:Rg:=[iO 23 7 4,iM 24 1,iM 25 2,iA 26 (.call 204 [(Tm 23),(Tm 24),(Tm 25)]),iA 27 (.un .not (Tm 26)),iM 22 27]
def gy:Rg:=[iI 8 0,iI 9 1]
def gz:Rg:=[iM 28 10,iM 29 2,iF 30 5 4,iL 31 30,iM 32 1,iX 33 17 31 32,iF 34 2 33,iL 35 34,iA 36 (.call 208 [(Tm 28),(Tm 29),(Tm 35)]),iM 8 36,iI 9 0]
def zD:aC:=(sq gt (sq gv (.seq (.block 0 (sq GW (.cond (Tm 18) (sq gw .ret) (sq gx (.cond (Tm 22) (sq gy .ret) .skip))))) (sq gz .ret))))
def ajL:List Nat:=[4,7]
def uh:aS:=⟨4,37,zD,[.tmp 8,.tmp 9]⟩
def Js:Rg:=[iA 2 (.box false (Tm 0)),iA 3 (.box false (Tm 1)),iA 4 (.mv (.const (.lit .nilFunc)))]
def Jt:Rg:=[iA 5 (.mkfn 211 [(Tm 2),(Tm 3)]),iM 4 5]
def HB:aC:=(sq Js (sq Jt .ret))
def aEL:List Nat:=[]
def ajR:aS:=⟨2,6,HB,[.tmp 4]⟩
def y6:Rg:=[iL 8 1,iL 9 2,iB 10 .gtr 8 9]
def y7:Rg:=[iL 11 1,iA 12 (.a6D 1 8 [zI] (Tm 11) (Tm 11)),iM 4 12]
def y8:Rg:=[iM 13 4,iN 14 13,iI 15 0]
def y9:Rg:=[iB 16 .lss 15 14]
def za:Rg:=[iM 17 15,iM 5 17]
def zb:Rg:=[iM 18 4,iM 19 5,iM 20 5,iX 21 1 18 19,iS 1 21 20]
def zc:Rg:=[iC 22 .add 15 1,iM 15 22]
def PD:aC:=(sq y9 (.seq (.cond (Tm 16) .skip (.exit 0)) (.seq (.block 1 (sq za (.region zb))) (.region zc))))
def PE:Rg:=[iM 23 0,iM 24 4,iA 25 (.append 1 8 (.const .aB) (Tm 24)),iA 26 (.a6X (Tm 23) [(Tm 25)])]
def PG:Rg:=[iL 27 1,iC 28 .sub 27 1,iM 6 28]
def sJ:Rd:=[(iM 29 6,false),(iC 30 .geq 29 0,false),(iM 31 30,false),(gM 32 4 31 true,false),(gM 33 6 31 true,false),(iG 34 (.a6M 1 (Tm 32) (Tm 33)) 31 true,false),(gL 35 34 31 true,false),(gL 36 2 31 true,false),(gL 37 1 31 true,false),(gB 38 .sub 36 37 31 true,false),(gM 39 6 31 true,false),(gB 40 .add 38 39 31 true,false),(gB 41 .eql 35 40 31 true,false),(iP 42 31 41,false)]
def HE:Rg:=[iM 43 6,iC 44 .sub 43 1,iM 6 44]
def wO:aC:=(.seq (dq sJ (.cond (Tm 42) .skip (.exit 4))) (.block 5 (.region HE)))
def wQ:Rg:=[iM 45 6,iC 46 .lss 45 0]
def HF:Rg:=[iM 47 4,iM 48 6,iX 49 1 47 48,iL 50 49,iC 51 .add 50 1,iX 52 1 47 48,iS 1 52 51]
def HG:Rg:=[iM 53 6,iC 54 .add 53 1,iM 7 54]
def wR:Rg:=[iM 55 7,iL 56 1,iB 57 .lss 55 56]
def HH:Rg:=[iM 60 4,iM 61 7,iM 62 4,iM 63 7,iC 64 .sub 63 1,iX 65 1 62 64,iL 66 65,iC 67 .add 66 1,iX 68 1 60 61,iS 1 68 67]
def HI:Rg:=[iM 58 7,iC 59 .add 58 1,iM 7 59]
def wP:aC:=(.seq (sq wR (.cond (Tm 57) .skip (.exit 6))) (.seq (.block 7 (.region HH)) (.region HI)))
def i5:aC:=(.seq (sq PE (.cond (Tm 26) .skip (.exit 2))) (.block 3 (sq PG (.seq (.block 4 (.loop wO)) (.seq (sq wQ (.cond (Tm 46) .ret .skip)) (sq HF (sq HG (.block 6 (.loop wP)))))))))
def CO:aC:=(.seq (sq y6 (.cond (Tm 10) .ret .skip)) (sq y7 (.seq (sq y8 (.block 0 (.loop PD))) (.block 2 (.loop i5)))))
def arV:List Nat:=[]
def Jv:aS:=⟨1,69,CO,[]⟩
def Kg:Rg:=[iT 4 false]
def Kh:Rg:=[iM 6 0,iN 7 6,iM 8 1,iN 9 8,iB 10 .neq 7 9]
def aFD:Rg:=[iT 4 false]
def Ki:Rg:=[iI 5 0]
def Kj:Rg:=[iM 11 5,iM 12 0,iN 13 12,iB 14 .lss 11 13]
def Kl:Rd:=[(iM 17 0,false),(iM 18 5,false),(iX 19 1 17 18,false),(iL 20 19,false),(iM 21 1,false),(iM 22 5,false),(iX 23 1 21 22,false),(iL 24 23,false),(iK2 25 94 20 24,true),(iA 26 (.un .not (Tm 25)),false)]
def aFE:Rg:=[iT 4 false]
def Km:Rg:=[iM 15 5,iC 16 .add 15 1,iM 5 16]
def Kf:aC:=(.seq (sq Kj (.cond (Tm 14) .skip (.exit 0))) (.seq (.block 1 (dq Kl (.cond (Tm 26) (sq aFE .ret) .skip))) (.region Km)))
def Ko:Rg:=[iT 4 true]
def HO:aC:=(sq Kg (.seq (sq Kh (.cond (Tm 10) (sq aFD .ret) .skip)) (.seq (sq Ki (.block 0 (.loop Kf))) (sq Ko .ret))))
def aFF:List Nat:=[]
def ajY:aS:=⟨2,27,HO,[.tmp 4]⟩
open Go Go.Na
def cQ (n:Nat):Nat→Nat→List (List Nat)
 | 0,_=>[[]]
 | k+1,a=>(a9I a (n-k-a)).flatMap fun i=>(cQ n k (i+1)).map (i::·)
def mT (n:Nat):List Nat→Option (List Nat)
 | []=>none
 | x::t=>match mT n t with
  | some u=>some (x::u)
  | none=>if x+1+t.length=n then none else some (a9I (x+1) (t.length+1))
theorem Bj {n:Nat}:∀ {s u:List Nat},mT n s=some u→u.length=s.length
 | [],_,h=>by cases h
 | x::t,u,h=>by
  rw[mT] at h;split at h
  ·rename_i v c;cases h;simp[Bj c]
  ·split at h
   ·cases h
   ·cases h;simp
inductive nJ (n:Nat):List Nat→List (List Nat)→Prop
 | last {s:List Nat} (h:mT n s=none):nJ n s [s]
 | step {s t:List Nat} {l:List (List Nat)} (h:mT n s=some t) (w:nJ n t l):nJ n s (s::l)
theorem nJ.map {n x k:Nat} {rest:List (List Nat)} (e:(x+1+k=n∧rest=[])∨(x+1+k≠n∧nJ n (a9I (x+1) (k+1)) rest)) {t:List Nat} {l:List (List Nat)} (w:nJ n t l) (c:t.length=k):nJ n (x::t) (l.map (x::·)++rest):=by
 induction w with
 | @last s h =>
  rcases e with ⟨d,rfl⟩ | ⟨d,h2⟩
  ·exact .last (by rw[mT,h]; simp only; rw[if_pos (by rw[c]; exact d)])
  ·exact .step (by rw[mT,h]; simp only; rw[if_neg (by rw[c]; exact d),c]) h2
 | @step s t l h _ i=>exact .step (by rw[mT,h]) (i (by rw[Bj h,c]))
theorem TX (n:Nat):∀ (k a:Nat),a+k≤n→nJ n (a9I a k) (cQ n k a)
 | 0,a,_=>.last rfl
 | k+1,a,h=>by
  rw[cQ];obtain⟨m,d⟩:∃ m,n-k-a=m+1:=⟨n-k-a-1,by omega⟩;rw[d];clear h
  induction m generalizing a with
  | zero =>have:=nJ.map (n:=n) (x:=a) (k:=k) (rest:=[]) (.inl ⟨by omega,rfl⟩) (TX n k (a+1) Om) List.length_range';rw[List.range'_succ (n:=0),List.flatMap_cons];exact this
  | succ m e =>rw[List.range'_succ (n:=m+1),List.flatMap_cons];have c:=e (a+1) Om;exact nJ.map (.inr ⟨by omega,c⟩) (TX n k (a+1) Om) List.length_range'
theorem JR {n:Nat}:∀ {s:List Nat},(∀ i (h:i<s.length),s[i]+s.length=n+i)→mT n s=none
 | [],_=>rfl
 | x::t,h=>by rw[mT,JR (s:=t) fun i hi=>by have:=h (i+1) (by simpa using hi);simp only[List.getElem_cons_succ,a8Y] at this;omega];have c:=h 0 (by simp);simp only[List.getElem_cons_zero,a8Y] at c;simp only;rw[if_pos Om]
theorem P7 {n:Nat}:∀ {s:List Nat} (i:Nat) (hi:i<s.length),(∀ j (h:j<s.length),i<j→s[j]+s.length=n+j)→s[i]+s.length≠n+i→mT n s=some (s.take i++a9I (s[i]+1) (s.length-i))
 | [],i,hi,_,_=>by cases hi
 | x::t,0,_,h,c=>by rw[mT,JR (s:=t) fun i hi=>by have:=h (i+1) (by simpa using hi) Om;simp only[List.getElem_cons_succ,a8Y] at this;omega];simp only[List.getElem_cons_zero,a8Y] at c ⊢;rw[if_neg Om];rfl
 | x::t,i+1,hi,h,c=>by
  have d:i<t.length:=by simpa using hi
  simp only[List.getElem_cons_succ,a8Y] at c;rw[mT,P7 (s:=t) i d (fun j l e=>by have:=h (j+1) (by simpa using l) Om;simp only[List.getElem_cons_succ,a8Y] at this;omega) Om];simp only[List.getElem_cons_succ,a8Y,List.take_succ_cons,List.cons_append];rw[show t.length+1-(i+1)=t.length-i by omega]
theorem nT (n:Nat):∀ (k a:Nat),∀ s∈cQ n k a,s.length=k∧(∀ x∈s,a≤x∧x<n)∧s.Pairwise (· < ·)
 | 0,a,s,h=>by rw[cQ,a9X] at h;subst h;exact⟨rfl,(fun x hx=>by cases hx),.nil⟩
 | k+1,a,s,h=>by
  rw[cQ,List.mem_flatMap] at h;obtain⟨i,hi,h⟩:=h;rw[a8J] at h;obtain⟨t,l,rfl⟩:=h;rw[List.mem_range'_1] at hi;obtain⟨d,c,e⟩:=nT n k (i+1) t l;refine⟨by simp[d],fun x hx=>?_,List.pairwise_cons.2 ⟨fun y p=>by have:=(c y p).1; omega,e⟩⟩;rcases a7T.1 hx with rfl | hx
  ·omega
  ·have:=c x hx; omega
theorem rQ (n:Nat):∀ (k a:Nat),(cQ n k a).length≤2 ^ (n-a)
 | 0,a=>by rw[cQ]; exact Nat.one_le_two_pow
 | k+1,a=>by
  rw[cQ];have c:∀ (m a:Nat),m+a≤n→((a9I a m).flatMap fun i=>(cQ n k (i+1)).map (i::·)).length+2 ^ (n-a-m)≤2 ^ (n-a):=by
   intro m
   induction m with
   | zero=>intro a _; simp
   | succ m d =>
    intro a h;rw[List.range'_succ,List.flatMap_cons,a7O,a7G];have e:=rQ n k (a+1);have l:=d (a+1) Om;rw[show n-a-(m+1)=n-(a+1)-m by omega];have p:2 ^ (n-a)=2 ^ (n-(a+1))+2 ^ (n-(a+1)):=by rw[show n-a=(n-(a+1))+1 by omega,a9D]; omega
    omega
  rcases a8D n a with h | h
  ·rw[show n-k-a=0 by omega]; simp
  ·exact a8V (Nat.le_add_right _ _) (c (n-k-a) a Om)
def gW (f:aE) (p:bS) (set:List Int):Bool:=(a7H f.a5Y.length).all fun i=>!(decide (dZ f p i>0)&&decide (fE f set i>dZ f p i))
def mC (f:aE) (p:bS) (d:Int):Bool:=p.a5W.contains ((mdl f d.toNat:Nat):Int)
def lO (f:aE) (p:bS) (set:List Int):Bool:=set.all (mC f p)&&gW f p set
def kP (set:List Int) (top:Int) (i:Nat):Bool:=(decide (0≤set.getD i 0)&&decide (set.getD i 0<top))&&(decide (i=0)||decide (set.getD (i-1) 0<set.getD i 0))
def mK (set:List Int) (n top:Int):Bool:=decide ((set.length:Int)=n)&&(a7H set.length).all (kP set top)
def fY (f:aE) (a6H:Int):bS:=f.a5Z.getD a6H.toNat aNR
def gP (p:bS):Int:=p.k+p.m
def gR (f:aE) (a6H:Int):Bool:=dQ f&&(decide (0≤a6H)&&decide (a6H<f.a5Z.length))
def pA (f:aE) (a6H:Int) (set:List Int):Bool:=gR f a6H&&(mK set (gP (fY f a6H)) f.a5V.length&&lO f (fY f a6H) set)
def bK (s:List Nat):List Int:=s.map fun (x:Nat)=>(x:Int)
def oV (f:aE) (p:bS):List (List Int):=((cQ f.a5V.length (gP p).toNat 0).map bK).filter (lO f p)
def fB (f:aE) (level:Int):List (List Int) :=
 if level=5 then (a7H f.a5V.length).map fun (d:Nat)=>[(d:Int)]
 else ((a7H f.a5Y.length).filter fun i=>decide (lvl f i=level)).map fun i=>bK ((a7H f.a5V.length).filter fun d=>decide (cO f d level=i))
def dD (m:Int):Nat→Int
 | 0=>1
 | i+1=>a9O (dD m i*(m-i)) (i+1)
def jF (u:List (List Int)) (s:List Nat) (d:Nat):Bool:=s.any fun i=>(u.getD i []).contains (d:Int)
def nP (f:aE) (u:List (List Int)) (count:Nat):List (List Int):=(cQ u.length count 0).map fun s=>bK ((a7H f.a5V.length).filter (jF u s))
def iY (s set:List Int):Nat:=set.countP fun d=>s.contains d
def sT (sc:List (List Int)) (set:List Int) (m:Int):Nat:=sc.countP fun s=>decide (((iY s set:Nat):Int)>m)
theorem xm:∀ {s t:List Int},s.Nodup→t.Nodup→iY s t=iY t s
 | [],t,_,_=>by simp[iY]
 | d::s,t,q,u=>by
  obtain⟨A,B⟩:=List.nodup_cons.1 q;have l:=xm B u;unfold iY at l ⊢;rw[List.countP_cons,← l];clear l q
  induction t with
  | nil=>simp
  | cons x t p =>
   obtain⟨k1,k2⟩:=List.nodup_cons.1 u;have:=p k2;rw[List.countP_cons,List.countP_cons,this];by_cases e:x=d
   ·subst e;have c:(x::s).contains x=true:=by simp
    have i:s.contains x=false:=by simpa using A
    have w:t.contains x=false:=by simpa using k1
    have y:(x::t).contains x=true:=by simp
    simp only[c,i,w,y]
   ·have c:(d::s).contains x=s.contains x:=by simp[e]
    have i:(x::t).contains d=t.contains d:=by have:¬ d=x:=fun h=>e h.symm;simp[this]
    rw[c,i];omega
def eD (set:List Int) (d:Int):Nat:=(set.takeWhile fun x=>decide (x<d)).length
theorem wy (set:List Int) (d:Int):eD set d≤set.length:=(List.takeWhile_prefix _).length_le
theorem LD (set:List Int) (d:Int) {i:Nat} (h:i<eD set d):set[i]'(Nat.lt_of_lt_of_le h (wy set d))<d:=by
 have u:=List.takeWhile_prefix (p:=fun x=>decide (x<d)) (l:=set);have e:(set.takeWhile fun x=>decide (x<d))[i]∈set.takeWhile fun x=>decide (x<d):=a7J h;have q:=List.all_takeWhile (p:=fun x=>decide (x<d)) (l:=set);have c:=a7W.1 q _ e;rw[u.getElem h] at c;exact of_decide_eq_true c
theorem aeM (set:List Int) (d:Int) (h:eD set d<set.length):¬ set[eD set d]<d:=by
 induction set with
 | nil=>simp at h
 | cons x t i =>
  by_cases c:x<d
  ·have e:eD (x::t) d=eD t d+1:=by simp[eD,List.takeWhile_cons,c]
   simp only[e,List.getElem_cons_succ];exact i (by rw[e] at h; simpa using h)
  ·have e:eD (x::t) d=0:=by simp[eD,List.takeWhile_cons,c]
   simp only[e,List.getElem_cons_zero];exact c
theorem aIS {set:List Int} (q:set.Pairwise (· < ·)) (d:Int):set.contains d=(decide (eD set d<set.length)&&decide (set.getD (eD set d) 0=d)):=by
 by_cases h:eD set d<set.length
 ·have u:=aeM set d h;rw[decide_eq_true h,a7R,a7Z,a7U h,baH];by_cases e:set[eD set d]=d
  ·rw[decide_eq_true e];simp only[List.contains_iff_mem];exact e ▸ a7J h
  ·rw[decide_eq_false e];simp only[Bool.eq_false_iff,ne_eq,List.contains_iff_mem];intro p;obtain⟨i,hi,l⟩:=a8S p;rcases Nat.lt_trichotomy i (eD set d) with c | c | c
   ·have:=LD set d c; omega
   ·subst c; exact e l
   ·have:=List.pairwise_iff_getElem.1 q _ _ h hi c;omega
 ·rw[decide_eq_false h,a7P];simp only[Bool.eq_false_iff,ne_eq,List.contains_iff_mem];intro p;obtain⟨i,hi,l⟩:=a8S p;have:=LD set d (i:=i) Om;omega
theorem awK (set:List Int) {d e:Int} (h:d≤e):eD set d≤eD set e:=by
 induction set with
 | nil=>simp[eD]
 | cons x t l =>
  by_cases c:x<d
  ·have i:x<e:=Om;simp only[eD,List.takeWhile_cons,c,i,decide_true,if_true,a8Y] at l ⊢;omega
  ·simp[eD,List.takeWhile_cons,c]
theorem Pj (a b:List Nat):bK (a++b)=bK a++bK b:=a8G
theorem eQ (a:List Nat):(bK a).length=a.length:=a7G _
theorem uF {a:List Nat} {i:Nat} (h:i<a.length):(aY (bK a))[i]?=some [PV.int .i64 (a[i]:Nat)]:=by
 unfold aY bK;rw[a8F,a8F,a7U h];rfl
theorem cj (a:List Nat) (i x:Nat):(aY (bK a)).set i [PV.int .i64 (x:Nat)]=aY (bK (a.set i x)):=by
 unfold aY bK;rw[List.map_set,List.map_set]
theorem axI {top n:Nat} (h:top<n):cQ top n 0=[]:=by
 cases n with
 | zero=>omega
 | succ n =>rw[cQ,show top-n-0=0 by omega];rfl
theorem nJ.head {n:Nat} {s:List Nat} {l:List (List Nat)} (h:nJ n s l):∃ r,l=s::r:=by
 cases h with
 | last=>exact⟨_,rfl⟩
 | step=>exact⟨_,rfl⟩
def oS (n i:Nat):List Nat:=a9I 0 i++a7K (n-i) 0
theorem akD (n:Nat):oS n 0=a7K n 0:=by unfold oS; simp
theorem asG {n i:Nat} (h:i≤n):(oS n i).length=n:=by unfold oS; simp; omega
theorem akC (n:Nat):oS n n=a9I 0 n:=by unfold oS; simp
theorem asH {n i:Nat} (h:i<n):(oS n i).set i i=oS n (i+1):=by
 unfold oS;obtain⟨m,c⟩:∃ m,n-i=m+1:=⟨n-i-1,by omega⟩;rw[c,List.replicate_succ,baD _ _ (by simp),List.length_range',baG,bbC,show n-(i+1)=m by omega,List.range'_concat];simp
def onU (s:List Nat) (j y m:Nat):List Nat:=s.take j++a9I y (m-j)++s.drop m
theorem adN {s:List Nat} {j y m:Nat} (c:j≤m) (d:m≤s.length):(onU s j y m).length=s.length:=by
 unfold onU; simp; omega
theorem aRA {s:List Nat} {j y:Nat} (h:j<s.length):s.set j y=onU s j y (j+1):=by
 unfold onU;rw[List.set_eq_take_append_cons_drop,if_pos h,show j+1-j=1 by omega];simp
theorem aHT {s:List Nat} {j y m:Nat} (e:j<m) (d:m≤s.length):∃ h,(onU s j y m)[m-1]'h=y+(m-1-j):=by
 refine⟨by rw[adN Om d]; omega,?_⟩;unfold onU;have c:(s.take j).length=j:=by rw[a8A]; omega
 rw[List.getElem_append_left (by simp; omega),bbD Om];simp[c]
theorem aRB {s:List Nat} {j y m:Nat} (e:j≤m) (d:m<s.length):(onU s j y m).set m (y+(m-j))=onU s j y (m+1):=by
 unfold onU;have c:(s.take j++a9I y (m-j)).length=m:=by simp; omega
 rw[baD _ _ Om,c,baG,a9H d,bbC,show m+1-j=(m-j)+1 by omega,List.range'_concat];simp
theorem aHS {s:List Nat} {j y:Nat}:onU s j y s.length=s.take j++a9I y (s.length-j):=by
 unfold onU; simp
theorem aOP {C:Ctx} {K:bR} [Up K] {n o1 o2 q:Nat} {y:PV} {F:PF} {H:PH} (E:n≤1000) (x:H q=some (.rows 1 (aY (bK (oS n 0))))) (u:(((((((PF.nil.set 0 (y)).set 1 (.ptr o1 1 0 0)).set 2 (.ptr o2 1 0 0)).set 4 (.osl q 1 0 n)).set 14 (.int .i64 n)).set 15 (.int .i64 0))).le F)
  (w:K (.exit 0) (((((PF.nil.set 0 (y)).set 1 (.ptr o1 1 0 0)).set 2 (.ptr o2 1 0 0)).set 4 (.osl q 1 0 n))) (H.set q (.rows 1 (aY (bK (a9I 0 n)))))):aC.wp C (.loop PD) K F H:=by
 refine wp_loop (α:=Nat × PH) (fun s=>((((((PF.nil.set 0 (y)).set 1 (.ptr o1 1 0 0)).set 2 (.ptr o2 1 0 0)).set 4 (.osl q 1 0 n)).set 14 (.int .i64 n)).set 15 (.int .i64 s.1))) (fun s=>s.2) (fun s=>s.1≤n∧s.2=H.set q (.rows 1 (aY (bK (oS n s.1))))) (fun s=>n-s.1) (0,H) ⟨a7N _,?_⟩ u b_ ?_
 ·refine PH.ext fun o=>?_;show H o=(H.set q _) o;rw[aT];split
  ·rename_i e; rw[e,x]
  ·rfl
 rintro⟨i,A⟩ ⟨hi,p⟩;simp only at hi p;subst p;simp only[go_sem,PD,y9];by_cases hlt:i<n
 ·have c:(i:Int)<(n:Nat):=Om;have B:=asG hi;have d:=uF (a:=oS n i) (i:=i) Om;have l:i<(aY (bK (oS n i))).length:=by rw[dC,eQ]; omega
  simp only[go_sem,c,za,zb,d,l,a8E,cj,asH hlt,zc,wZz i];exact aD (i+1,_) ⟨hlt,rfl⟩ (by simp only; omega) Lq b_
 ·have c:¬ (i:Int)<(n:Nat):=Om;have:i=n:=Om;subst this;rw[akC];simp only[go_sem,c];exact Up.up Lq w
def cyF (y:PV) (o1 o2 q n:Nat):PF:=((((PF.nil.set 0 (y)).set 1 (.ptr o1 1 0 0)).set 2 (.ptr o2 1 0 0)).set 4 (.osl q 1 0 n))
theorem arU {C:Ctx} {K:bR} [Up K] {n top o1 o2 q:Nat} {y:PV} {s:List Nat} (V:s.length=n) (U:n≤1000) (W:top≤1000) (Q:n≤top) {F:PF} {H:PH} (b1:H o1=some (.rows 1 [[.int .i64 n]])) (b2:H o2=some (.rows 1 [[.int .i64 top]])) (E:H q=some (.rows 1 (aY (bK s))))
  (O:((cyF y o1 o2 q n).set 6 (.int .i64 ((n:Int)-1))).le F)
  (A:∀ m,m≤n→(∀ i (h:i<s.length),m≤i→s[i]+n=top+i)→(0<m→∀ (h:m-1<s.length),s[m-1]+n≠top+(m-1))→K (.exit 4) ((cyF y o1 o2 q n).set 6 (.int .i64 ((m:Int)-1))) H):aC.wp C (.loop wO) K F H:=by
 refine wp_loop (α:=Nat) (fun m=>(cyF y o1 o2 q n).set 6 (.int .i64 ((m:Int)-1))) (fun _=>H) (fun m=>m≤n∧∀ i (h:i<s.length),m≤i→s[i]+n=top+i) (fun m=>m) n ⟨a7M _,fun i h S=>by omega⟩ O b_ ?_;rintro m ⟨B,d⟩;rw[show wO=(.seq (.seq (.draw sJ) (.cond (.tmp 42) .skip (.exit 4))) (.block 5 (.region HE))) from rfl];simp only[go_sem];refine bW .nil eT a_ ?_;by_cases N:m=0
 ·subst N;simp only[go_sem,sJ,cyF,show ¬ ((0:Nat):Int)-1≥0 by omega];refine Up.up ?_ (A 0 B d (fun h=>by omega));unfold cyF;exact Lq
 ·obtain⟨k,rfl⟩:∃ k,m=k+1:=⟨m-1,by omega⟩;have w:(((k+1:Nat):Int)-1)=(k:Int):=Om;have x:k<s.length:=Om;have p:=uF x;have u:k<(aY (bK s)).length:=by rw[dC,eQ]; omega
  have J:IntKind.i64.wrap ((top:Int)-(n:Int))=(top:Int)-n:=wrap_i64 Om Om;have M:IntKind.i64.wrap ((top:Int)-(n:Int)+(k:Int))=(top:Int)-n+k:=wrap_i64 Om Om;have l:(k:Int)<(n:Nat):=Om;by_cases c:s[k]+n=top+k
  ·simp only[go_sem,sJ,cyF,w,show (k:Int)≥0 by omega,E,p,u,l,b1,b2,a8E,J,M,bL (Om:((s[k]:Nat):Int)=(top:Int)-n+k),HE];have R:IntKind.i64.wrap ((k:Int)-1)=(k:Int)-1:=wrap_i64 Om Om;refine aD k ⟨by omega,fun i h hi=>?_⟩ Om (by (repeat' (first|exact c_|refine d_ ?_ ?_))<;>first|(simp only[go_sem,R]<;>rfl)|rfl) b_;by_cases e:i=k
   ·subst e; exact c
   ·exact d i h Om
  ·simp only[go_sem,sJ,cyF,w,show (k:Int)≥0 by omega,E,p,u,l,b1,b2,a8E,J,M,bF (Om:((s[k]:Nat):Int)≠(top:Int)-n+k)];refine Up.up ?_ (A (k+1) B d (fun _ h=>c));unfold cyF
   (repeat' (first|exact c_|refine d_ ?_ ?_))<;>first|(simp only[go_sem,w]<;>rfl)|rfl
theorem aOQ {C:Ctx} {K:bR} [Up K] {n o1 o2 q j x:Nat} {y:PV} {s:List Nat} (V:s.length=n) (hn:n≤1000) (hx:x≤1000000) (R:j<n) {F:PF} {H:PH} (b1:H o1=some (.rows 1 [[.int .i64 n]])) (J:¬ o1=q) (U:H q=some (.rows 1 (aY (bK (onU s j x (j+1))))))
  (N:((cyF y o1 o2 q n).set 7 (.int .i64 (j+1:Nat))).le F)
  (O:K (.exit 6) (cyF y o1 o2 q n) (H.set q (.rows 1 (aY (bK (s.take j++a9I x (n-j))))))):aC.wp C (.loop wP) K F H:=by
 refine wp_loop (α:=Nat × PH) (fun m=>(cyF y o1 o2 q n).set 7 (.int .i64 m.1)) (fun m=>m.2) (fun m=>j+1≤m.1∧m.1≤n∧m.2=H.set q (.rows 1 (aY (bK (onU s j x m.1))))) (fun m=>n-m.1) (j+1,H) ⟨a7M _,R,?_⟩ N b_ ?_
 ·refine PH.ext fun o=>?_;show H o=(H.set q _) o;rw[aT];split
  ·rename_i e; rw[e,U]
  ·rfl
 rintro⟨m,Y⟩ ⟨A,B,M⟩;simp only at A B M;subst M;have u:¬ q=o1:=fun e=>J e.symm;rw[show wP=(.seq (.seq (.region wR) (.cond (.tmp 57) .skip (.exit 6))) (.seq (.block 7 (.region HH)) (.region HI))) from rfl];by_cases hlt:m<n
 ·have c:(m:Int)<(n:Nat):=Om;obtain⟨S,Q⟩:=aHT (s:=s) (j:=j) (y:=x) (m:=m) Om Om;have d:=uF S;rw[Q] at d;have Z:=adN (s:=s) (j:=j) (y:=x) (m:=m) Om Om;have w:m-1<(aY (bK (onU s j x m))).length:=by rw[dC,eQ]; omega
  have l:m<(aY (bK (onU s j x m))).length:=by rw[dC,eQ]; omega
  have i:(aY (bK (onU s j x m)))[m]?=some [PV.int .i64 ((onU s j x m)[m]'Om:Nat)]:=uF Om;have W:IntKind.i64.wrap ((m:Int)-1)=((m-1:Nat):Int):=by rw[wrap_i64 Om Om]; omega
  have X:IntKind.i64.wrap (((x+(m-1-j):Nat):Int)+1)=((x+(m-j):Nat):Int):=by rw[wrap_i64 Om Om]; omega
  have p:((m-1:Nat):Int)<(n:Nat):=Om;have E:=aRB (s:=s) (j:=j) (y:=x) (m:=m) Om Om;simp only[go_sem,wR,cyF,b1,J,u,c,HH,W,p,d,w,a8E,X,i,l,cj,E,HI,wZz m];refine aD (m+1,_) ⟨by simp only; omega,hlt,rfl⟩ (by simp only; omega) Lq b_
 ·have c:¬ (m:Int)<(n:Nat):=Om;have:m=n:=Om;subst this;have e:=aHS (s:=s) (j:=j) (y:=x);rw[V] at e;rw[e];simp only[go_sem,wR,cyF,b1,J,u,c];refine Up.up ?_ O;unfold cyF;exact Lq
theorem nJ.done {n:Nat} {s:List Nat} {l:List (List Nat)} (h:nJ n s l) (d:mT n s=none):l=[s]:=by
 cases h with
 | last=>rfl
 | step c=>rw[d] at c; cases c
theorem nJ.next {n:Nat} {s t:List Nat} {l:List (List Nat)} (h:nJ n s l) (d:mT n s=some t):∃ r,l=s::r∧nJ n t r:=by
 cases h with
 | last c=>rw[d] at c; cases c
 | step c w=>rw[d] at c; cases c; exact⟨_,rfl,w⟩
structure aDB (J:Nat→PH→Prop) (ss:List (List Nat)) (top n o1 o2 q k:Nat) (s:List Nat) (G H:PH):Prop where
 lt:k<ss.length
 walk:nJ top s (ss.drop k)
 len:s.length=n
 rng:∀ x∈s,x<top
 j:J k G
 le:G.le H
 g1:G o1=none
 g2:G o2=none
 gq:G q=none
 b1:H o1=some (.rows 1 [[.int .i64 n]])
 b2:H o2=some (.rows 1 [[.int .i64 top]])
 bq:H q=some (.rows 1 (aY (bK s)))
theorem aDZ {C:Ctx} {l o1 o2 n top:Nat} (J:Nat→PH→Prop) (d:List (List Nat)) (R:d=cQ top n 0) (h1:1≤n) (hn:n≤1000) (ht:top≤1000)
  (hY:∀ k (hk:k<d.length) G c,J k G→G c=none→FG C l [.osl c 1 0 n] (G.set c (.rows 1 (aY (bK d[k])))) (fun r H'=>r=.bool true∧J (k+1) H'))
  {M H:PH} (W:J 0 M) (p:M.le H) (b1:H o1=some (.rows 1 [[.int .i64 n]])) (b2:H o2=some (.rows 1 [[.int .i64 top]])) (g1:M o1=none) (g2:M o2=none) :
  CO.wp C (aV Jv.res (fun _ H'=>∃ G,J d.length G∧G.le H')) (PF.args [wD l,.ptr o1 1 0 0,.ptr o2 1 0 0]) H:=by
 simp only[go_sem,CO,y6,Jv,b1,b2];by_cases c:n>top
 ·have:d=[]:=by rw[R]; exact axI c
  subst this;simp only[go_sem,show (n:Int)>(top:Nat) by omega];exact bA (vs:=[]) (.inr rfl) M rfl p ⟨M,W,b_⟩
 simp only[go_sem,show ¬ (n:Int)>(top:Nat) by omega,y7,b1,show (0:Int)≤n by omega,Int.le_refl,show (n:Int)*((8:Nat):Int)≤140737488355328 by omega,show (n:Int)≤9223372036854775807 by omega,a9A];refine aR fun q Q=>?_;obtain⟨a1,υ⟩:¬ o1=q∧¬ q=o1:=⟨(fun e=>by rw[e,Q] at b1; cases b1),fun e=>by rw[← e,Q] at b1; cases b1⟩;obtain⟨a2,φ⟩:¬ o2=q∧¬ q=o2:=⟨(fun e=>by rw[e,Q] at b2; cases b2),fun e=>by rw[← e,Q] at b2; cases b2⟩;have ez:a7K n [PV.int .i64 0]=aY (bK (oS n 0)):=by rw[akD];unfold aY bK;rw[List.map_replicate,List.map_replicate];rfl
 rw[ez];simp only[go_sem,y8];refine aOP (n:=n) (o1:=o1) (o2:=o2) (q:=q) (y:=wD l) hn (by rw[cP]) Lq ?_;rw[PH.set_set];have Z:M q=none:=by
  cases h:M q with
  | none=>rfl
  | some x=>rw[p q x h] at Q; cases Q
 have hw:=TX top n 0 Om;rw[← R] at hw;obtain⟨r0,ε⟩:=hw.head;have N:=nT top n 0;rw[← R] at N;simp only[go_sem];refine wp_loop (α:=Nat × List Nat × PH × PH) (fun _=>cyF (wD l) o1 o2 q n) (fun x=>x.2.2.2) (fun x=>aDB J d top n o1 o2 q x.1 x.2.1 x.2.2.1 x.2.2.2) (fun x=>d.length-x.1) (0,a9I 0 n,M,H.set q (.rows 1 (aY (bK (a9I 0 n))))) ?_ (by unfold cyF; exact Lq) b_ ?_
 ·exact⟨(by simp only; rw[ε]; simp),hw,List.length_range',(fun x hx=>by rw[List.mem_range'_1] at hx; omega),W,PH.le_trans p (PH.QH _ Q),g1,g2,Z,(by simp only; rw[aT,if_neg a1]; exact b1),(by simp only; rw[aT,if_neg a2]; exact b2),(by simp only; rw[cP])⟩
 clear b1 b2 g1 g2 Z Q p W hw ε ez;rintro⟨k,s,G,H⟩ A;have A:aDB J d top n o1 o2 q k s G H:=A;obtain⟨hlt,U,w,ζ,W,p,g1,g2,gq,b1,b2,bq⟩:=A;have B:d.drop k=d[k]::d.drop (k+1):=a9H hlt;have σ:d[k]=s:=by obtain⟨r,F⟩:=U.head;rw[B] at F;injection F
 have S:dX H 1 (.osl q 1 0 n)=some (aY (bK s)):=by
  have:=(show bQ H 1 (.osl q 1 0 (aY (bK s)).length) (aY (bK s)) from .inr ⟨q,_,rfl,bq,a7M _,a8I⟩).view
  rwa [dC,eQ,w] at this
 rw[show i5=(.seq (.seq (.region PE) (.cond (.tmp 26) .skip (.exit 2))) (.block 3 (.seq (.region PG) (.seq (.block 4 (.loop wO)) (.seq (.seq (.region wQ) (.cond (.tmp 46) .ret .skip)) (.seq (.region HF) (.seq (.region HG) (.block 6 (.loop wP))))))))) from rfl];simp only[go_sem,PE,cyF];refine tO S (by unfold roomFor; rw[dC,eQ]; simp only[maxLen]; omega) (fun h=>?_) fun _ c hc=>?_
 ·have:=congrArg List.length h;rw[dC,eQ,w] at this;simp at this;omega
 rw[dC,eQ,w];have θ:G c=none:=by
  cases h:G c with
  | none=>rfl
  | some x=>rw[p c x h] at hc; cases hc
 have hy:=hY k hlt G c W θ;rw[σ] at hy;have ne:∀ {b:Nat} {x:cG},H b=some x→¬ b=c:=fun V e=>by rw[e,hc] at V; cases V
 refine⟨l,rfl,.inl ⟨_,G.set c (.rows 1 (aY (bK s))),_,Ev,?_,hy,?_⟩⟩
 ·intro o x K;rw[aT] at K ⊢;split at K
  ·rename_i e; rw[if_pos e]; exact K
  ·rename_i e; rw[if_neg e]; exact p o x K
 rintro _ H' ⟨rfl,X⟩ ι;have keep:∀ {b:Nat} {x:cG},H b=some x→G b=none→H' b=none∧((H.set c (.rows 1 (aY (bK s)))).over (G.set c (.rows 1 (aY (bK s)))) H') b=some x:=fun {b} {x} V hg=>by
  have e:=ne V;have h':H' b=none:=by
   cases h:H' b with
   | none=>rfl
   | some y =>have:=ι b y h (by rw[aT,if_neg e]; exact hg);rw[aT,if_neg e,V] at this;cases this
  refine⟨h',?_⟩;rw[gV,h'];simp only[aT,if_neg e,hg,V]
 obtain⟨k1,d1⟩:=keep b1 g1;obtain⟨k2,d2⟩:=keep b2 g2;obtain⟨kq,dq⟩:=keep bq gq;have O:H'.le ((H.set c (.rows 1 (aY (bK s)))).over (G.set c (.rows 1 (aY (bK s)))) H'):=fun o x K=>by rw[gV,K]
 generalize (H.set c (.rows 1 (aY (bK s)))).over (G.set c (.rows 1 (aY (bK s)))) H'=H2 at *
 have w1:IntKind.i64.wrap ((n:Int)-1)=(n:Int)-1:=wrap_i64 Om Om;simp only[go_sem,PG,d1,w1];refine arU (n:=n) (top:=top) (o1:=o1) (o2:=o2) (q:=q) (y:=wD l) (s:=s) w hn ht Om d1 d2 dq (by unfold cyF; exact Lq) fun m hm E β=>?_;by_cases m0:m=0
 ·subst m0;have ο:mT top s=none:=JR fun i hi=>by have:=E i hi (a7N _); omega
  have Y:k+1=d.length:=by have:=congrArg List.length (U.done ο);rw[a9J,a7S] at this;omega
  simp only[go_sem,cyF,wQ,show ((0:Nat):Int)-1<0 by omega];exact bA (vs:=[]) (.inr rfl) H' rfl O ⟨H',by rw[← Y]; exact X,b_⟩
 ·obtain⟨j,rfl⟩:∃ j,m=j+1:=⟨m-1,by omega⟩;have u:j<s.length:=Om;have ξ:(j:Int)<(n:Nat):=Om;have e0:(((j+1:Nat):Int)-1)=(j:Int):=Om;have γ:=P7 (n:=top) (s:=s) j u (fun i hi ν=>by have:=E i hi ν; omega) (by have:=β (Nat.succ_pos _) u; simp only[Nat.add_sub_cancel] at this; omega);rw[w] at γ;have χ:=ζ s[j] (a7J u);have κ:=uF u;have μ:j<(aY (bK s)).length:=by rw[dC,eQ]; exact u
  have w2:IntKind.i64.wrap (((s[j]:Nat):Int)+1)=((s[j]+1:Nat):Int):=cZ Om;have δ:=aRA (s:=s) (j:=j) (y:=s[j]+1) u;simp only[go_sem,cyF,wQ,e0,show ¬ (j:Int)<0 by omega,HF,dq,κ,μ,ξ,a8E,w2,cj,δ,HG,wZz j];refine aOQ (n:=n) (o1:=o1) (o2:=o2) (q:=q) (j:=j) (x:=s[j]+1) (y:=wD l) (s:=s) w hn Om Om (by rw[aT,if_neg a1]; exact d1) a1 (by rw[cP]) (by unfold cyF; exact Lq) ?_;rw[PH.set_set];have a6R:k+1<d.length∧nJ top (s.take j++a9I (s[j]+1) (n-j)) (d.drop (k+1)):=by
   obtain⟨r,F,η⟩:=U.next γ;rw[B] at F;injection F with _ F
   rw[F];refine⟨?_,η⟩;obtain⟨r2,ρ⟩:=η.head;have:=congrArg List.length F;rw[ρ,a9J,a8Y] at this;omega
  have τ:aDB J d top n o1 o2 q (k+1) (s.take j++a9I (s[j]+1) (n-j)) H' (H2.set q (.rows 1 (aY (bK (s.take j++a9I (s[j]+1) (n-j)))))):={
      lt:=a6R.1
      walk:=a6R.2
      len:=by simp; omega
      rng:=fun x hx=>by
       have h2:=N (d[k+1]'a6R.1) (a7J _);have h3:d[k+1]'a6R.1=s.take j++a9I (s[j]+1) (n-j):=by obtain⟨r,F⟩:=a6R.2.head;rw[a9H a6R.1] at F;injection F
       rw[h3] at h2;exact (h2.2.1 x hx).2
      j:=X
      le:=fun o x K=>by
       have:¬ o=q:=fun e=>by rw[e,kq] at K; cases K
       rw[aT,if_neg this];exact O o x K
      g1:=k1,g2:=k2,gq:=kq
      b1:=by rw[aT,if_neg a1]; exact d1
      b2:=by rw[aT,if_neg a2]; exact d2
      bq:=by rw[cP] }
  simp only[go_sem,cyF];exact aD (k+1,s.take j++a9I (s[j]+1) (n-j),H',H2.set q (.rows 1 (aY (bK (s.take j++a9I (s[j]+1) (n-j)))))) τ (by simp only; omega) Lq b_
def lS (f:aE) (p:bS) (xs:List Int) (i:Nat):Bool:=!(decide (dZ f p i>0)&&decide (fE f xs i>dZ f p i))
theorem tK (f:aE) (p:bS) (xs:List Int):gW f p xs=(a7H f.a5Y.length).all (lS f p xs):=rfl
theorem arW (f:aE) (xs ys:List Int) (i:Nat):fE f xs i≤fE f (xs++ys) i:=by
 unfold fE;rw[List.countP_append];split<;>omega
theorem auY {f:aE} {p:bS} {xs ys:List Int} {i:Nat} (h:lS f p xs i=false):lS f p (xs++ys) i=false:=by
 have:=arW f xs ys i;unfold lS at h ⊢;simp only[Bool.not_eq_false',a7X,decide_eq_true_eq] at h ⊢;omega
theorem LH {f:aE} {p:bS} {xs:List Int} {i:Nat} (hi:i<f.a5Y.length) (h:lS f p xs i=false):gW f p xs=false:=by
 rw[tK];simp only[List.all_eq_false,a8K];exact⟨i,hi,by rw[h]; simp⟩
theorem Sr {f:aE} {p:bS} {xs ys:List Int} (h:gW f p xs=false):gW f p (xs++ys)=false:=by
 rw[tK] at h;simp only[List.all_eq_false,a8K] at h;obtain⟨i,hi,h⟩:=h;exact LH hi (auY (by simpa using h))
theorem W7 (f:aE) (p:bS):gW f p []=true:=by
 rw[tK];simp only[a7W,a8K];intro i _;unfold lS fE;simp;omega
theorem ot {f:aE} (hV:VF f) {p:bS} {xs:List Int} (h:∀ i,i<f.a5Y.length→0<lvl f i→lS f p xs i=true):gW f p xs=true:=by
 rw[tK];simp only[a7W,a8K];intro i hi;have c:=hV.kA hi;by_cases e:i=0
 ·unfold lS fE;rw[if_pos e];simp;omega
 ·exact h i hi Om
theorem aQY {f:aE} {p:bS} {xs:List Int} (h:gW f p xs=true) {i:Nat} (hi:i<f.a5Y.length):lS f p xs i=true:=by
 rw[tK] at h;exact a7W.1 h i (a8K.2 hi)
theorem Dw (p:bS) (t:List PV) {n:Nat} (h:n<5):(if 1≤(List.drop n (PV.int .i64 p.s0::PV.int .i64 p.s1::PV.int .i64 p.s2::PV.int .i64 p.s3::PV.int .i64 p.s4::t)).length then some (List.take 1 (List.drop n (PV.int .i64 p.s0::PV.int .i64 p.s1::PV.int .i64 p.s2::PV.int .i64 p.s3::PV.int .i64 p.s4::t))) else none)=some [PV.int .i64 (p.spread n)]:=by
 have:n=0∨n=1∨n=2∨n=3∨n=4:=Om;rcases this with rfl | rfl | rfl | rfl | rfl<;>simp[bS.spread]
def GP (f:aE) (p:bS) (c oD:Nat) (set:List Int) (k:Nat):PF:=(((((((PF.nil.set 3 (.bH f.cells)).set 4 (.bH p.cells)).set 7 (.osl c 1 0 f.a5W.length)).set 10 (.osl oD 1 0 f.a5Y.length)).set 34 (ints set)).set 35 (.int .i64 (set.length:Nat))).set 36 (.int .i64 k))
def ajC (f:aE) (p:bS) (c oD:Nat) (set:List Int) (k:Nat) (at_:Nat):PF:=((((((((PF.nil.set 3 (.bH f.cells)).set 4 (.bH p.cells)).set 7 (.osl c 1 0 f.a5W.length)).set 10 (.osl oD 1 0 f.a5Y.length)).set 34 (ints set)).set 35 (.int .i64 (set.length:Nat))).set 36 (.int .i64 k)).set 13 (.int .i64 at_))
theorem aOL {C:Ctx} {K:bR} [Up K] (f:aE) (hV:VF f) (p:bS) (oA oD:Nat) (set:List Int) (k:Nat) (xs:List Int) (ζ:xs.length≤16777216) (β:gW f p xs=true) (d:Nat) (hd:d<f.a5V.length) {F:PF} {H:PH}
  (hF:(ajC f p oA oD set k (dK f d)).le F) (hD:H oD=some (.rows 1 (aY (mD f xs))))
  (hR:∀ F' H',F' 6=some (.bool false)→gW f p (xs++[(d:Int)])=false→K .ret F' H')
  (hK:gW f p (xs++[(d:Int)])=true→K (.exit 4) (GP f p oA oD set k) (H.set oD (.rows 1 (aY (mD f (xs++[(d:Int)])))))) :
  aC.wp C (.loop ZD) K F H:=by
 refine wp_loop (α:=Nat × PH) (fun t=>ajC f p oA oD set k (upN f t.1 (dK f d))) (fun t=>t.2) (fun t=>t.1≤4∧t.2=H.set oD (.rows 1 (aY (mM f xs d t.1)))∧∀ i,i<f.a5Y.length→4-(t.1:Int)<lvl f i→lS f p (xs++[(d:Int)]) i=true) (fun t=>4-t.1) (0,H) ⟨a7N _,?_,?_⟩ (by rw[upN]; exact hF) b_ ?_
 ·rw[arY hV];refine PH.ext fun o=>?_;show H o=(H.set oD _) o;rw[aT];split
  ·rename_i e; rw[e,hD]
  ·rfl
 ·intro i hi hl;have:=(hV.kA hi).2.1;simp only at hl;omega
 rintro⟨j,H0⟩ ⟨hj,hH,q⟩;simp only at hj hH q;subst hH;obtain⟨w,U⟩:=GJ hV hd (k:=j) hj;simp only[go_sem,ZD,Iv,ajC];by_cases hlt:j<4
 ·have Z:0<upN f j (dK f d):=by
   rcases a9Q (upN f j (dK f d)) with e | e
   ·rw[e,hV.root.2.1] at U; omega
   ·exact e
  have V:((upN f j (dK f d):Nat):Int)>0:=Om;obtain⟨b1,b2⟩:=aOV hV xs hd hlt;have M:(aY (mM f xs d j))[upN f j (dK f d)]?=some [.int .i64 (fE f xs (upN f j (dK f d)))]:=by unfold aY; rw[a8F,b1]; rfl
  have δ:=aOU f xs (upN f j (dK f d));have hw:IntKind.i64.wrap (fE f xs (upN f j (dK f d))+1)=fE f xs (upN f j (dK f d))+1:=wrap_i64 Om Om;have x:((upN f j (dK f d):Nat):Int)<(f.a5Y.length:Nat):=Om;have X:upN f j (dK f d)<(aY (mM f xs d j)).length:=by rw[dC,aER]; exact w
  have Q:fE f (xs++[(d:Int)]) (upN f j (dK f d))=fE f xs (upN f j (dK f d))+1:=by rw[AZ f xs d Om,cO,U,show 4-(4-(j:Int)).toNat=j by omega,if_pos rfl]
  have l:lS f p (xs++[(d:Int)]) (upN f j (dK f d))=!(decide (dZ f p (upN f j (dK f d))>0)&&decide (fE f xs (upN f j (dK f d))+1>dZ f p (upN f j (dK f d)))):=by rw[lS,Q]
  have a6R:lS f p (xs++[(d:Int)]) (upN f j (dK f d))=true→∀ i,i<f.a5Y.length→4-((j+1:Nat):Int)<lvl f i→lS f p (xs++[(d:Int)]) i=true:=by
   intro h i hi hl;by_cases e:i=upN f j (dK f d)
   ·rw[e]; exact h
   ·by_cases c:4-(j:Int)<lvl f i
    ·exact q i hi c
    ·have O:lvl f i=4-(j:Int):=Om;have W:i≠0:=by intro e; subst e; rw[hV.root.2.1] at O; omega
     have E:fE f (xs++[(d:Int)]) i=fE f xs i:=by rw[AZ f xs d W,cO,O,show 4-(4-(j:Int)).toNat=j by omega,if_neg (fun h=>e h.symm)]; simp
     have:=aQY β hi;unfold lS at this ⊢;rw[E]; exact this
  have N:lS f p (xs++[(d:Int)]) (upN f j (dK f d))=false→gW f p (xs++[(d:Int)])=false:=LH w;have Y:dZ f p (upN f j (dK f d))=p.spread (4-(j:Int)).toNat:=by rw[dZ,U]
  rw[Y] at l;have γ:=M;have B:(aY (mM f xs d j)).set (upN f j (dK f d)) [.int .i64 (fE f xs (upN f j (dK f d))+1)]=aY (mM f xs d (j+1)):=by rw[Af,b2]
  have y:(aY (mM f xs d (j+1)))[upN f j (dK f d)]?=some [.int .i64 (fE f xs (upN f j (dK f d))+1)]:=by rw[← B,List.getElem?_set_self X]
  have R:upN f (j+1) (dK f d)=KG f (upN f j (dK f d)):=rfl;have A:=hV.wc Z w;generalize ε:upN f j (dK f d)=u at *
  generalize fE f xs u=dc at *
  have l0:(0:Int)≤4-(j:Int):=Om;have h5:4-(j:Int)<((5:Nat):Int):=Om;simp only[go_sem,V,Iw,x,a8E,M,hw,B,Ix,fG w,sV w,U,l0,h5,Nat.mul_one];rw[Dw p _ (Om:(4-(j:Int)).toNat<5)];by_cases J:p.spread (4-(j:Int)).toNat>0
  ·by_cases S:dc+1>p.spread (4-(j:Int)).toNat
   ·simp only[go_sem,GR,J,S,x,y,a8E,Iy];exact hR _ _ Sq (N (by rw[l,decide_eq_true J,decide_eq_true S]; rfl))
   ·simp only[go_sem,GR,J,S,x,y,a8E,ZG,fG w,mi w,A];exact aD (j+1,_) ⟨hlt,rfl,a6R (by rw[l,decide_eq_false S,a8O]; rfl)⟩ (by simp only; omega) (by (repeat' (first|exact c_|refine d_ ?_ ?_))<;>first|(simp only[go_sem,R]<;>rfl)|rfl) b_
  ·simp only[go_sem,GR,J,ZG,x,a8E,fG w,mi w,A];exact aD (j+1,_) ⟨hlt,rfl,a6R (by rw[l,decide_eq_false J]; rfl)⟩ (by simp only; omega) (by (repeat' (first|exact c_|refine d_ ?_ ?_))<;>first|(simp only[go_sem,R]<;>rfl)|rfl) b_
 ·have:j=4:=Om;subst this;have h0:upN f 4 (dK f d)=0:=by have:=hV.kA w;omega
  have V:¬ ((upN f 4 (dK f d):Nat):Int)>0:=Om;simp only[go_sem,V];rw[arX hV];refine Up.up ?_ (hK (ot hV fun i hi h=>q i hi (by simpa using h)));unfold GP;exact Lq
theorem aDF {f:aE} {p:bS} {set:List Int} {d:Int} (c:d∈set) (h:mC f p d=false):lO f p set=false:=by
 unfold lO;have:set.all (mC f p)=false:=by simp only[List.all_eq_false];exact⟨d,c,by rw[h]; simp⟩
 rw[this]; rfl
theorem aDE {f:aE} {p:bS} {set:List Int} {k:Nat} (h:gW f p (set.take k)=false):lO f p set=false:=by
 have:=Sr (ys:=set.drop k) h;rw[baE] at this;unfold lO;rw[this,a8O]
def aiM (f:aE) (set:List Int):Prop:=set.length≤16777216∧∀ x∈set,0≤x∧x<(f.a5V.length:Nat)
theorem arG {C:Ctx} {K:bR} [Up K] (f:aE) (hV:VF f) (p:bS) (M oD:Nat) (hn:M≠oD) (set:List Int) (hs:aiM f set) {F:PF} {H:PH}
  (Y:(GP f p M oD set 0).le F) (J:H M=some (.rows 1 (dJ (marks f.a5W.length p.a5W)))) (hD:H oD=some (.rows 1 (aY (mD f []))))
  (U:∀ N H',N 6=some (.bool false)→lO f p set=false→K .ret N H')
  (Z:∀ N H',lO f p set=true→K (.exit 2) N H') :
  aC.wp C (.loop zA) K F H:=by
 obtain⟨β,S⟩:=hs;refine wp_loop (α:=Nat × PH) (fun t=>GP f p M oD set t.1) (fun t=>t.2) (fun t=>t.1≤set.length∧t.2 M=some (.rows 1 (dJ (marks f.a5W.length p.a5W)))∧t.2 oD=some (.rows 1 (aY (mD f (set.take t.1))))∧(set.take t.1).all (mC f p)=true∧gW f p (set.take t.1)=true) (fun t=>set.length-t.1) (0,H) ⟨a7N _,J,hD,rfl,W7 f p⟩ Y b_ ?_;rintro⟨k,W⟩ ⟨hk,J,hD,e,w⟩;simp only at hk J hD e w;by_cases hlt:k<set.length
 ·have i:(k:Int)<(set.length:Nat):=Om;have R:(set.map fun n=>[PV.int .i64 n])[k]?=some [.int .i64 set[k]]:=by simp[hlt]
  have A:set.take (k+1)=set.take k++[set[k]]:=a9E hlt;have hx:=S set[k] (a7J hlt);have hm:=a7J hlt;generalize γ:set[k]=x at *
  obtain⟨d,rfl⟩:∃ d:Nat,x=d:=⟨x.toNat,by omega⟩;have c:d<f.a5V.length:=Om;have B:(d:Int)<(f.a5V.length:Nat):=Om;obtain⟨w1,w2,w3,w4,w5⟩:=hV.drive d c;have E:((mdl f d:Nat):Int)<(f.a5W.length:Nat):=Om;have u:(dJ (marks f.a5W.length p.a5W))[mdl f d]?=some [.bool (p.a5W.contains ((mdl f d:Nat):Int))]:=by have:=zQ (n:=f.a5W.length) (l:=p.a5W) (m:=((mdl f d:Nat):Int)) Om E;rw[a9A] at this;unfold dJ;rw[a8F,this]; rfl
  have q:mC f p (d:Int)=p.a5W.contains ((mdl f d:Nat):Int):=by rw[mC,a9A]
  cases V:p.a5W.contains ((mdl f d:Nat):Int) with
  | false =>rw[V] at u q;simp only[go_sem,zA,GQ,GP,i,ZE,R,ZF,pH c,B,hV.kc c,E,a8E,J,u,a7Y,It];exact U _ _ Sq (aDF hm q)
  | true =>
   rw[V] at u q;simp only[go_sem,zA,GQ,GP,i,ZE,R,ZF,pH c,B,hV.kc c,E,a8E,J,u,a7L,Iu,hV.u6 c];have up:=fun {K:bR} [Up K] {F:PF} {H:PH}=>aOL (C:=C) (K:=K) f hV p M oD set k (set.take k) (by rw[a8A]; omega) w d c (F:=F) (H:=H);refine up (by unfold ajC; exact Lq) hD ?_ ?_
   ·intro N H' X O;simp only[go_sem];exact U _ _ X (aDE (k:=k+1) (by rw[A]; exact O))
   ·intro Q;simp only[go_sem,GP,Iz,wZz k];refine aD (k+1,W.set oD (.rows 1 (aY (mD f (set.take k++[(d:Int)]))))) ⟨hlt,?_,?_,?_,by rw[A]; exact Q⟩ (by simp only; omega) Lq b_
    ·simp only[aT,if_neg hn]; exact J
    ·simp only[cP,A]
    ·rw[A];intro y hy;rcases a9C.1 hy with h | h
     ·exact a7W.1 e y h
     ·rw[a9X.1 h]; exact q
 ·have i:¬ (k:Int)<(set.length:Nat):=Om;have:k=set.length:=Om;subst this;rw[a8I] at e w;simp only[go_sem,zA,GQ,GP,i];exact Z _ _ (by rw[lO,e,w]; rfl)

def aZS (down:List Int) (d:Int):Bool:=decide (0≤d)&&down.contains d
def aZT (down:List Int) (d:Int):Bool:=decide (0≤d)&&!down.contains d
def a3F (down row:List Int):Bool:=row.any (aZS down)
def aRC (down row:List Int):Nat:=row.countP (aZT down)
def aWT (f:aE) (c:Int) (down:List Int) (v:Nat) (row:List Int):Bool:=a3F down row&&decide (((aRC down row:Nat):Int)<(KL f v).k+c)
def aZU (f:aE) (d:List (List Int)) (c:Int) (down:List Int) (n:Nat):Bool:=(a7H n).all fun v=>!aWT f c down v (d.getD v [])
def G4 (f:aE) (d:List (List Int)) (c:Int) (down:List Int):Bool:=aZU f d c down d.length
def adQ:Rg:=[iA 3 (.box true (Tm 0)),iA 4 (.box true (Tm 1)),iT 6 false]
def adR:Rg:=[iM 10 2,iN 11 10,iF 12 1 4,iL 13 12,iF 14 2 4,iL 15 14,iB 16 .add 13 15,iB 17 .neq 11 16]
def adS:Rg:=[iT 6 false]
def adT:Rg:=[iI 7 0]
def wg:Rg:=[iM 18 7,iM 19 2,iN 20 19,iB 21 .lss 18 20]
def yN:Rd:=[(iM 24 2,false),(iM 25 7,false),(iX 26 1 24 25,false),(iL 27 26,false),(iC 28 .lss 27 0,false),(iM 29 28,false),(gM 30 2 29 false,false),(gM 31 7 29 false,false),(iG 32 (.a6M 1 (Tm 30) (Tm 31)) 29 false,false),(gL 33 32 29 false,false),(gF 34 4 3 29 false,false),(gL 35 34 29 false,false),(gN 36 35 29 false,false),(gB 37 .geq 33 36 29 false,false),(iQ 38 29 37,false),(iM 39 38,false),(gM 40 7 39 false,false),(gC 41 .gtr 40 0 39 false,false),(gM 42 41 39 false,false),(gM 43 2 42 true,false),(gM 44 7 42 true,false),(iG 45 (.a6M 1 (Tm 43) (Tm 44)) 42 true,false),(gL 46 45 42 true,false),(gM 47 2 42 true,false),(gM 48 7 42 true,false),(gC 49 .sub 48 1 42 true,false),(iG 50 (.a6M 1 (Tm 47) (Tm 49)) 42 true,false),(gL 51 50 42 true,false),(gB 52 .leq 46 51 42 true,false),(iG 53 (.pick (Tm 42) (Tm 52) (.const zB)) 39 false,false),(iQ 54 39 53,false),(iM 55 54,false),(gO 56 17 4 55 false,false),(gO 57 7 3 55 false,false),(gM 58 2 55 false,false),(gM 59 7 55 false,false),(iG 60 (.a6M 1 (Tm 58) (Tm 59)) 55 false,false),(gL 61 60 55 false,false),(iG 62 (.call 77 [(Tm 56),(Tm 57),(Tm 61)]) 55 false,true),(iG 63 (.un .not (Tm 62)) 55 false,false),(iQ 64 55 63,false)]
def yO:Rg:=[iT 6 false]
def wh:Rg:=[iM 22 7,iC 23 .add 22 1,iM 7 23]
def we:aC:=(.seq (sq wg (.cond (Tm 21) .skip (.exit 0))) (.seq (.block 1 (dq yN (.cond (Tm 64) (sq yO .ret) .skip))) (.region wh)))
def adU:Rg:=[iI 8 1]
def Rk:Rg:=[iM 65 8,iF 66 3 3,iL 67 66,iN 68 67,iB 69 .lss 65 68]
def Rl:Rg:=[iF 72 3 3,iL 73 72,iM 74 8,iX 75 7 73 74,iF 76 1 75,iL 77 76,iF 78 4 4,iA 79 (.idxA 5 1 (Tm 78) (Tm 77)),iL 80 79,iM 9 80]
def da:Rg:=[iM 81 9,iC 82 .gtr 81 0,iM 83 82,gO 84 7 3 83 true,gM 85 2 83 true,gM 86 8 83 true,iG 87 (.call 80 [(Tm 84),(Tm 85),(Tm 86)]) 83 true,gM 88 9 83 true,gB 89 .gtr 87 88 83 true,iP 90 83 89]
def Rm:Rg:=[iT 6 false]
def db:Rg:=[iM 70 8,iC 71 .add 70 1,iM 8 71]
def c9:aC:=(.seq (sq Rk (.cond (Tm 69) .skip (.exit 2))) (.seq (.block 3 (sq Rl (sq da (.cond (Tm 90) (sq Rm .ret) .skip)))) (.region db)))
def Rn:Rg:=[iT 6 true]
def SB:aC:=(sq adQ (.seq (sq adR (.cond (Tm 17) (sq adS .ret) .skip)) (.seq (sq adT (.block 0 (.loop we))) (.seq (sq adU (.block 2 (.loop c9))) (sq Rn .ret)))))
def aRI:List Nat:=[3,4]
def aIC:aS:=⟨3,91,SB,[.tmp 6]⟩
def Ch:Rg:=[iA 3 (.box true (Tm 0)),iT 6 false]
def Cj:Rd:=[(iO 7 7 3,false),(iK 8 67 7,true),(iM 9 8,false),(gM 10 1 9 true,false),(gC 11 .geq 10 0 9 true,false),(iP 12 9 11,false),(iM 13 12,false),(gM 14 1 13 true,false),(gF 15 5 3 13 true,false),(gL 16 15 13 true,false),(gN 17 16 13 true,false),(gB 18 .lss 14 17 13 true,false),(iP 19 13 18,false),(iM 20 19,false),(gO 21 7 3 20 true,false),(gF 22 5 3 20 true,false),(gL 23 22 20 true,false),(gM 24 1 20 true,false),(iG 25 (.a6M 17 (Tm 23) (Tm 24)) 20 true,false),(gO 26 17 25 20 true,false),(gM 27 2 20 true,false),(iG 28 (.call 213 [(Tm 21),(Tm 26),(Tm 27)]) 20 true,true),(iP 29 20 28,false),(iM 6 29,false)]
def DS:aC:=(sq Ch (dq Cj .ret))
def avJ:List Nat:=[3]
def SC:aS:=⟨3,30,DS,[.tmp 6]⟩
def KN:Rg:=[iZ 6]
def KO:Rg:=[iM 11 2,iC 12 .eql 11 0]
def mr:Rg:=[iA 13 (.a6B true 1 1 [.aB] [(0,(.const .aB))]),iM 6 13]
def mu:Rg:=[iZ 7]
def mw:Rg:=[iM 14 0,iM 8 14]
def my:Rg:=[iM 15 8,iM 16 2,iB 17 .add 15 16,iM 18 1,iB 19 .leq 17 18]
def mz:Rg:=[iM 22 8,iC 23 .add 22 1,iM 24 1,iM 25 2,iC 26 .sub 25 1,iA 27 (.call 215 [(Tm 23),(Tm 24),(Tm 26)]),iM 9 27]
def m5:Rg:=[iI 10 0]
def m6:Rg:=[iM 28 10,iM 29 9,iN 30 29,iB 31 .lss 28 30]
def m7:Rg:=[iM 34 7,iM 35 8,iA 36 (.a6B false 1 1 [zI] [(0,(Tm 35))]),iM 37 9,iM 38 10,iX 39 1 37 38,iL 40 39,iA 41 (.append 1 8 (Tm 36) (Tm 40)),iA 42 (.a6B true 1 1 [.aB] [(0,(Tm 41))]),iA 43 (.append 1 24 (Tm 34) (Tm 42)),iM 7 43]
def XM:Rg:=[iM 32 10,iC 33 .add 32 1,iM 10 33]
def XK:aC:=(.seq (sq m6 (.cond (Tm 31) .skip (.exit 2))) (.seq (.block 3 (.region m7)) (.region XM)))
def XN:Rg:=[iM 20 8,iC 21 .add 20 1,iM 8 21]
def XL:aC:=(.seq (sq my (.cond (Tm 19) .skip (.exit 0))) (.seq (.block 1 (sq mz (sq m5 (.block 2 (.loop XK))))) (.region XN)))
def XO:Rg:=[iM 44 7,iM 6 44]
def tF:aC:=(sq KN (.seq (sq KO (.cond (Tm 12) (sq mr .ret) .skip)) (sq mu (.seq (sq mw (.block 0 (.loop XL))) (sq XO .ret)))))
def anB:List Nat:=[13,42]
def VG:aS:=⟨3,45,tF,[.tmp 6]⟩
def adV:Rg:=[iA 2 (.box true (Tm 0)),iZ 4,iI 5 0]
def adW:Rg:=[iO 10 7 2,iK 11 67 10,iA 12 (.un .not (Tm 11)),iM 13 12,gM 14 1 13 false,gC 15 .lss 14 0 13 false,iQ 16 13 15,iM 17 16,gM 18 1 17 false,gF 19 5 2 17 false,gL 20 19 17 false,gN 21 20 17 false,gB 22 .geq 18 21 17 false,iQ 23 17 22]
def VE:Rg:=[iZ 4,iI 5 1]
def wj:Rg:=[iF 24 4 2,iL 25 24,iN 26 25,iC 27 .gtr 26 12]
def adX:Rg:=[iZ 4,iI 5 2]
def adY:Rg:=[iF 28 5 2,iL 29 28,iM 30 1,iX 31 17 29 30,iO 32 17 31,iA 6 (.alloc [(.str []),zI,zI,zI,zI,zI,zI,zI,zI,.aB,.aB,zB,.aB,.aB,zB,.aB,.aB]),iS 17 6 32]
def adZ:Rg:=[iZ 7]
def aeA:Rg:=[iF 33 4 2,iL 34 33,iN 35 34,iF 36 1 6,iL 37 36,iF 38 2 6,iL 39 38,iB 40 .add 37 39,iA 41 (.call 215 [(Ci 0),(Tm 35),(Tm 40)]),iM 8 41]
def aeB:Rg:=[iI 9 0]
def aeC:Rg:=[iM 42 9,iM 43 8,iN 44 43,iB 45 .lss 42 44]
def Rq:Rd:=[(iO 48 7 2,false),(iO 49 17 6,false),(iM 50 8,false),(iM 51 9,false),(iX 52 1 50 51,false),(iL 53 52,false),(iA 54 (.call 213 [(Tm 48),(Tm 49),(Tm 53)]),true)]
def Rr:Rg:=[iM 55 7,iM 56 8,iM 57 9,iX 58 1 56 57,iL 59 58,iA 60 (.a6B true 1 1 [.aB] [(0,(Tm 59))]),iA 61 (.append 1 24 (Tm 55) (Tm 60)),iM 7 61]
def dd:Rg:=[iM 46 9,iC 47 .add 46 1,iM 9 47]
def Rp:aC:=(.seq (sq aeC (.cond (Tm 45) .skip (.exit 0))) (.seq (.block 1 (dq Rq (.cond (Tm 54) (.region Rr) .skip))) (.region dd)))
def Rs:Rg:=[iM 62 7,iM 4 62,iI 5 0]
def SD:aC:=(sq adV (.seq (sq adW (.cond (Tm 23) (sq VE .ret) .skip)) (.seq (sq wj (.cond (Tm 27) (sq adX .ret) .skip)) (sq adY (sq adZ (sq aeA (.seq (sq aeB (.block 0 (.loop Rp))) (sq Rs .ret))))))))
def aRK:List Nat:=[2,60]
def Ro:aS:=⟨2,63,SD,[.tmp 4,.tmp 5]⟩
def C9:Rg:=[iA 2 (.box true (Tm 0)),iZ 4]
def Da:Rg:=[iZ 5]
def Db:Rg:=[iM 8 1,iC 9 .eql 8 5]
def Dc:Rg:=[iI 6 0]
def Dd:Rg:=[iM 10 6,iF 11 4 2,iL 12 11,iN 13 12,iB 14 .lss 10 13]
def De:Rg:=[iM 17 5,iM 18 6,iA 19 (.a6B true 1 1 [zI] [(0,(Tm 18))]),iA 20 (.a6B true 1 1 [.aB] [(0,(Tm 19))]),iA 21 (.append 1 24 (Tm 17) (Tm 20)),iM 5 21]
def Df:Rg:=[iM 15 6,iC 16 .add 15 1,iM 6 16]
def C8:aC:=(.seq (sq Dd (.cond (Tm 14) .skip (.exit 0))) (.seq (.block 1 (.region De)) (.region Df)))
def Dg:Rg:=[iM 22 5,iM 4 22]
def Dh:Rg:=[iI 7 0]
def nw:Rg:=[iM 23 7,iF 24 3 2,iL 25 24,iN 26 25,iB 27 .lss 23 26]
def ny:Rg:=[iF 30 3 2,iL 31 30,iM 32 7,iX 33 7 31 32,iF 34 1 33,iL 35 34,iM 36 1,iB 37 .eql 35 36]
def nz:Rg:=[iM 38 5,iO 39 7 2,iM 40 7,iK2 41 81 39 40,iA 42 (.a6B true 1 1 [.aB] [(0,(Tm 41))]),iA 43 (.append 1 24 (Tm 38) (Tm 42)),iM 5 43]
def KY:Rg:=[iM 28 7,iC 29 .add 28 1,iM 7 29]
def nv:aC:=(.seq (sq nw (.cond (Tm 27) .skip (.exit 2))) (.seq (.block 3 (sq ny (.cond (Tm 37) (.region nz) .skip))) (.region KY)))
def n0:Rg:=[iM 44 5,iM 4 44]
def DT:aC:=(sq C9 (sq Da (.seq (sq Db (.cond (Tm 9) (.seq (sq Dc (.block 0 (.loop C8))) (sq Dg .ret)) .skip)) (.seq (sq Dh (.block 2 (.loop nv))) (sq n0 .ret)))))
def avT:List Nat:=[2,19,20,42]
def Sh:aS:=⟨2,45,DT,[.tmp 4]⟩
def aeF:Rg:=[iT 4 false]
def aeG:Rg:=[iI 5 0]
def aeH:Rg:=[iM 6 5,iM 7 0,iN 8 7,iB 9 .lss 6 8]
def wu:Rg:=[iM 12 0,iM 13 5,iX 14 1 12 13,iL 15 14,iM 16 1,iB 17 .eql 15 16]
def aeI:Rg:=[iT 4 true]
def aeJ:Rg:=[iM 10 5,iC 11 .add 10 1,iM 5 11]
def aeE:aC:=(.seq (sq aeH (.cond (Tm 9) .skip (.exit 0))) (.seq (.block 1 (sq wu (.cond (Tm 17) (sq aeI .ret) .skip))) (.region aeJ)))
def aeK:Rg:=[iT 4 false]
def SH:aC:=(sq aeF (.seq (sq aeG (.block 0 (.loop aeE))) (sq aeK .ret)))
def aRO:List Nat:=[]
def aIF:aS:=⟨2,18,SH,[.tmp 4]⟩
def R6:Rg:=[iA 2 (.box true (Tm 0)),iA 3 (.box true (Tm 1)),iZ 4,iI 5 0]
def R7:Rg:=[iO 16 7 2,iK 17 67 16,iA 18 (.un .not (Tm 17)),iM 19 18,gF 20 0 3 19 false,gL 21 20 19 false,gC 22 .lss 21 1 19 false,iQ 23 19 22,iM 24 23,gF 25 0 3 24 false,gL 26 25 24 false,gC 27 .gtr 26 5 24 false,iQ 28 24 27,iM 29 28,gF 30 1 3 29 false,gL 31 30 29 false,gC 32 .lss 31 1 29 false,iQ 33 29 32,iM 34 33,gF 35 1 3 34 false,gL 36 35 34 false,gC 37 .gtr 36 3 34 false,iQ 38 34 37]
def uJ:Rg:=[iZ 4,iI 5 1]
def dh:Rg:=[iF 39 4 2,iL 40 39,iN 41 40,iC 42 .gtr 41 12]
def R8:Rg:=[iZ 4,iI 5 2]
def R9:Rg:=[iO 43 7 2,iF 44 0 3,iL 45 44,iK2 46 217 43 45,iM 6 46]
def Sa:Rg:=[iI 7 1]
def Sb:Rg:=[iI 8 0]
def Sd:Rg:=[iM 47 8,iF 48 1 3,iL 49 48,iB 50 .lss 47 49]
def Se:Rg:=[iM 53 7,iM 54 6,iN 55 54,iM 56 8,iB 57 .sub 55 56,iB 58 .mul 53 57,iM 59 8,iC 60 .add 59 1,iB 61 .quo 58 60,iM 7 61]
def Cu:Rg:=[iM 51 8,iC 52 .add 51 1,iM 8 52]
def Ct:aC:=(.seq (sq Sd (.cond (Tm 50) .skip (.exit 0))) (.seq (.block 1 (.region Se)) (.region Cu)))
def SP:Rg:=[iM 62 7,iC 63 .gtr 62 512]
def Cv:Rg:=[iZ 4,iI 5 2]
def Cw:Rg:=[iM 64 6,iN 65 64,iF 66 1 3,iL 67 66,iA 68 (.call 215 [(Ci 0),(Tm 65),(Tm 67)]),iM 9 68]
def Cx:Rg:=[iZ 10]
def Cy:Rg:=[iI 11 0]
def Cz:Rg:=[iM 69 11,iM 70 9,iN 71 70,iB 72 .lss 69 71]
def C0:Rg:=[iZ 12]
def C1:Rg:=[iI 13 0]
def C2:Rg:=[iM 75 13,iF 76 4 2,iL 77 76,iN 78 77,iB 79 .lss 75 78]
def C3:Rg:=[iT 14 false]
def C4:Rg:=[iI 15 0]
def C5:Rg:=[iM 82 15,iM 83 9,iM 84 11,iX 85 1 83 84,iL 86 85,iN 87 86,iB 88 .lss 82 87]
def SQ:Rg:=[iM 91 14,iM 92 91,gM 93 6 92 false,gM 94 9 92 false,gM 95 11 92 false,iG 96 (.a6M 1 (Tm 94) (Tm 95)) 92 false,gL 97 96 92 false,gM 98 15 92 false,iG 99 (.a6M 1 (Tm 97) (Tm 98)) 92 false,gL 100 99 92 false,iG 101 (.a6M 1 (Tm 93) (Tm 100)) 92 false,gL 102 101 92 false,gM 103 13 92 false,gK2 104 218 102 103 92 false,iQ 105 92 104,iM 14 105]
def SR:Rg:=[iM 89 15,iC 90 .add 89 1,iM 15 90]
def SM:aC:=(.seq (sq C5 (.cond (Tm 88) .skip (.exit 6))) (.seq (.block 7 (.region SQ)) (.region SR)))
def SS:Rg:=[iM 106 14]
def C6:Rg:=[iM 107 12,iM 108 13,iA 109 (.a6B true 1 1 [zI] [(0,(Tm 108))]),iA 110 (.append 1 8 (Tm 107) (Tm 109)),iM 12 110]
def ST:Rg:=[iM 80 13,iC 81 .add 80 1,iM 13 81]
def SN:aC:=(.seq (sq C2 (.cond (Tm 79) .skip (.exit 4))) (.seq (.block 5 (sq C3 (.seq (sq C4 (.block 6 (.loop SM))) (sq SS (.cond (Tm 106) (.region C6) .skip))))) (.region ST)))
def SU:Rg:=[iM 111 10,iM 112 12,iA 113 (.a6B true 1 1 [.aB] [(0,(Tm 112))]),iA 114 (.append 1 24 (Tm 111) (Tm 113)),iM 10 114]
def SV:Rg:=[iM 73 11,iC 74 .add 73 1,iM 11 74]
def SO:aC:=(.seq (sq Cz (.cond (Tm 72) .skip (.exit 2))) (.seq (.block 3 (sq C0 (.seq (sq C1 (.block 4 (.loop SN))) (.region SU)))) (.region SV)))
def C7:Rg:=[iM 115 10,iM 4 115,iI 5 0]
def KW:aC:=(sq R6 (.seq (sq R7 (.cond (Tm 38) (sq uJ .ret) .skip)) (.seq (sq dh (.cond (Tm 42) (sq R8 .ret) .skip)) (sq R9 (sq Sa (.seq (sq Sb (.block 0 (.loop Ct))) (.seq (sq SP (.cond (Tm 63) (sq Cv .ret) .skip)) (sq Cw (sq Cx (.seq (sq Cy (.block 2 (.loop SO))) (sq C7 .ret)))))))))))
def aIN:List Nat:=[2,3,109,113]
def VJ:aS:=⟨2,116,KW,[.tmp 4,.tmp 5]⟩
def Rw:Rg:=[iI 6 0]
def Rx:Rg:=[iI 7 0]
def Ry:Rg:=[iI 8 0]
def Rz:Rg:=[iM 11 8,iM 12 0,iN 13 12,iB 14 .lss 11 13]
def R0:Rg:=[iI 9 0]
def R1:Rg:=[iI 10 0]
def R2:Rg:=[iM 17 10,iM 18 1,iN 19 18,iB 20 .lss 17 19]
def R3:Rd:=[(iM 23 0,false),(iM 24 8,false),(iX 25 1 23 24,false),(iL 26 25,false),(iM 27 1,false),(iM 28 10,false),(iX 29 1 27 28,false),(iL 30 29,false),(iK2 31 218 26 30,true)]
def R4:Rg:=[iM 32 9,iC 33 .add 32 1,iM 9 33]
def df:Rg:=[iM 21 10,iC 22 .add 21 1,iM 10 22]
def Cl:aC:=(.seq (sq R2 (.cond (Tm 20) .skip (.exit 2))) (.seq (.block 3 (dq R3 (.cond (Tm 31) (.region R4) .skip))) (.region df)))
def SI:Rg:=[iM 34 9,iM 35 2,iB 36 .gtr 34 35]
def Cn:Rg:=[iM 37 7,iC 38 .add 37 1,iM 7 38]
def SJ:Rg:=[iM 15 8,iC 16 .add 15 1,iM 8 16]
def Cm:aC:=(.seq (sq Rz (.cond (Tm 14) .skip (.exit 0))) (.seq (.block 1 (sq R0 (.seq (sq R1 (.block 2 (.loop Cl))) (sq SI (.cond (Tm 36) (.region Cn) .skip))))) (.region SJ)))
def Cp:Rg:=[iM 39 7,iM 6 39]
def KV:aC:=(sq Rw (sq Rx (.seq (sq Ry (.block 0 (.loop Cm))) (sq Cp .ret))))
def aIH:List Nat:=[]
def anG:aS:=⟨3,40,KV,[.tmp 6]⟩
def nc:Rg:=[iA 4 (.box true (Tm 0)),iA 7 (.box true (Tm 3)),iI 8 0,iI 9 0]
def ni:Rg:=[iO 13 7 4,iO 14 2 7,iK2 15 219 13 14,iM 12 15,iE 16 12 0,iE 17 12 1,iM 10 16,iM 11 17]
def KU:Rg:=[iM 18 11,iC 19 .neq 18 0]
def nj:Rg:=[iM 20 11,iI 8 0,iM 9 20]
def nn:Rg:=[iO 21 7 4,iM 22 1,iM 23 2,iA 24 (.call 214 [(Tm 21),(Tm 22),(Tm 23)]),iA 25 (.un .not (Tm 24))]
def np:Rg:=[iI 8 0,iI 9 1]
def nr:Rg:=[iM 26 10,iM 27 2,iF 28 5 4,iL 29 28,iM 30 1,iX 31 17 29 30,iF 32 2 31,iL 33 32,iA 34 (.call 220 [(Tm 26),(Tm 27),(Tm 33)]),iM 8 34,iI 9 0]
def AB:aC:=(sq nc (sq ni (.seq (sq KU (.cond (Tm 19) (sq nj .ret) .skip)) (.seq (sq nn (.cond (Tm 25) (sq np .ret) .skip)) (sq nr .ret)))))
def anF:List Nat:=[4,7]
def ww:aS:=⟨4,35,AB,[.tmp 8,.tmp 9]⟩
theorem aFT {xs:List Int} {k:Nat} {d:Int} (h:k<xs.length):(xs.take (k+1)).contains d=((xs.take k).contains d||decide (xs[k]=d)):=by
 rw[Bool.eq_iff_iff];rw[List.contains_iff_mem,a9E h,a9C,a9X,Bool.or_eq_true,List.contains_iff_mem,decide_eq_true_eq];exact⟨fun h=>h.imp id Eq.symm,fun h=>h.imp id Eq.symm⟩
theorem aRN {C:Ctx} (l:List Int) (w:l.length≤1000000000000000) (x:Int):SH.wp C (aV aIF.res (aF (.bool (l.contains x)))) (PF.args [ints l,.int .i64 x]) .nil:=by
 simp only[go_sem,SH,aeF,aeG,aIF];refine wp_loop (α:=Nat) (fun k=>(((PF.nil.set 0 (ints l)).set 1 (.int .i64 x)).set 5 (.int .i64 k))) (fun _=>.nil) (fun k=>k≤l.length∧(l.take k).contains x=false) (fun k=>l.length-k) 0 ⟨a7N _,by simp⟩ Lq a_ ?_;rintro k ⟨u,p⟩;simp only[go_sem,aeE,aeH,a7G];by_cases hlt:k<l.length
 ·have e:(k:Int)<(l.length:Nat):=Om;have i:(l.map fun n=>[PV.int .i64 n])[k]?=some [.int .i64 l[k]]:=by simp[hlt]
  have q:=aFT (d:=x) hlt;by_cases c:l[k]=x
  ·simp only[go_sem,e,wu,i,bL c,aeI];refine aQ (.inr rfl) rfl ?_;rw[bO];exact congrArg PV.bool (List.contains_iff_mem.2 (c ▸ a7J hlt)).symm
  ·simp only[go_sem,e,wu,i,bF c,aeJ,wZz k];exact aD (k+1) ⟨hlt,by rw[q,p]; simp[c]⟩ Om Lq b_
 ·have e:¬ (k:Int)<(l.length:Nat):=Om;have:k=l.length:=Om;subst this;rw[a8I] at p;simp only[go_sem,e,aeK];refine aQ (.inr rfl) rfl ?_;rw[bO,p]


theorem dT {t:Nat} {b c:Bool} {F:PF} {H:PH} (h:F t=some (.bool b)) (e:b=c):aV [.tmp t] (aF (.bool c)) .ret F H:=by
 subst e;exact bA (.inr rfl) .nil (vs:=[.bool b]) (by rw[kI,nC,h,oK]) a_ ⟨rfl,rfl⟩
theorem aOJ {C:Ctx} (f:aE) (hV:VF f) (p:bS) (R:∀ m∈p.a5W,0≤m∧m<f.a5W.length) (i:Fits p.a5W) (set:List Int) (S:aiM f set) :
  OM.wp C (aV aDQ.res (aF (.bool (lO f p set)))) (PF.args [.agg f.cells,.agg p.cells,ints set]) .nil:=by
 have d:=hV.small;have q:(f.a5W.length:Int)*((1:Nat):Int)≤140737488355328:=by have:=d.a5W; omega
 have u:(f.a5W.length:Int)≤9223372036854775807:=by have:=d.a5W; omega
 have w:(0:Int)≤(f.a5W.length:Int):=Om;have A:(f.a5Y.length:Int)*((8:Nat):Int)≤140737488355328:=by have:=d.a5Y; omega
 have B:(f.a5Y.length:Int)≤9223372036854775807:=by have:=d.a5Y; omega
 have E:(0:Int)≤(f.a5Y.length:Int):=Om;simp only[go_sem,OM,X0,X1,aDQ,a7G,q,u,w,Int.le_refl,a9A];refine aR fun l U=>?_;rw[OK];simp only[go_sem,X2,a7G];refine wp_loop (α:=Nat) (fun k=>(((((((PF.nil.set 2 (ints set)).set 3 (.bH f.cells)).set 4 (.bH p.cells)).set 7 (.osl l 1 0 f.a5W.length)).set 20 (ints p.a5W)).set 21 (.int .i64 (p.a5W.length:Nat))).set 22 (.int .i64 k))) (fun k=>PH.nil.set l (.rows 1 (dJ (marks f.a5W.length (p.a5W.take k))))) (fun k=>k≤p.a5W.length) (fun k=>p.a5W.length-k) 0 (a7N _) Lq (by rw[List.take_zero]; exact b_) ?_;intro k V;simp only[go_sem,Xz,X3];by_cases hlt:k<p.a5W.length
 ·have c:(k:Int)<(p.a5W.length:Nat):=Om;have F:(p.a5W.map fun n=>[PV.int .i64 n])[k]?=some [.int .i64 p.a5W[k]]:=by simp[hlt]
  obtain⟨J,K⟩:=R _ (a7J hlt);have x:(p.a5W[k]).toNat<(dJ (marks f.a5W.length (p.a5W.take k))).length:=by rw[AV,QJ]; omega
  have y:(dJ (marks f.a5W.length (p.a5W.take k)))[(p.a5W[k]).toNat]?=some [.bool ((p.a5W.take k).contains p.a5W[k])]:=by unfold dJ;rw[a8F,zQ J K]; rfl
  have M:p.a5W.length≤9223372036854775807:=by have:=i; omega
  simp only[go_sem,c,X4,F,X5,J,K,a8E,y,x,jX,QK J K,X6,wZz k];refine aD (k+1) hlt Om Lq ?_;rw[a9E hlt];exact b_
 ·have c:¬ (k:Int)<(p.a5W.length:Nat):=Om;have:k=p.a5W.length:=Om;subst this;rw[a8I];simp only[go_sem,c,X7,a7G,A,B,E,Int.le_refl,a9A];refine aR fun oD hD=>?_;have N:l≠oD:=by rintro rfl; simp only[cP] at hD; cases hD
  rw[aCR];simp only[go_sem,X8,a7G];refine arG (C:=C) f hV p l oD N set S (by unfold GP; (repeat' (first|exact c_|refine d_ ?_ ?_))<;>first|(simp only[go_sem,a7G]<;>rfl)|rfl) (by simp only[aT,if_neg N,if_true]) (by rw[cP]) ?_ ?_
  ·intro O H' Q e;simp only[go_sem];exact dT Q e.symm
  ·intro O H' H;simp only[go_sem,I0];exact dT Sq H.symm
theorem arD (set:List Int) (top:Int) {k:Nat}:(a7H (k+1)).all (kP set top)=((a7H k).all (kP set top)&&kP set top k):=by
 rw[baS,List.all_append]; simp
theorem aON {C:Ctx} (set:List Int) (O:set.length≤1000000000000000) (n top:Int) :
  OP.wp C (aV aDT.res (aF (.bool (mK set n top)))) (PF.args [ints set,.int .i64 n,.int .i64 top]) .nil:=by
 have A:mK set n top=(decide ((set.length:Int)=n)&&(a7H set.length).all (kP set top)):=rfl;simp only[go_sem,OP,Ya,Yb,aDT,a7G];refine wp_loop (α:=Nat) (fun k=>((((((PF.nil.set 0 (ints set)).set 1 (.int .i64 n)).set 2 (.int .i64 top)).set 9 (ints set)).set 10 (.int .i64 (set.length:Nat))).set 11 (.int .i64 k))) (fun _=>.nil) (fun k=>k≤set.length∧(a7H k).all (kP set top)=true) (fun k=>set.length-k) 0 ⟨a7N _,rfl⟩ Lq a_ ?_;rintro k ⟨N,d⟩;have i:k<set.length→kP set top k=false→mK set n top=false:=by
  intro h K;rw[A];have:(a7H set.length).all (kP set top)=false:=by simp only[List.all_eq_false,a8K];exact⟨k,h,by rw[K]; simp⟩
  rw[this,a8O]
 by_cases hlt:k<set.length
 ·have c:(k:Int)<(set.length:Nat):=Om;have B:(set.map fun n=>[PV.int .i64 n])[k]?=some [.int .i64 set[k]]:=by simp[hlt]
  have M:set.getD k 0=set[k]:=by simp[a7Z,hlt]
  have l:kP set top k=((decide (0≤set[k])&&decide (set[k]<top))&&(decide (k=0)||decide (set.getD (k-1) 0<set[k]))):=by rw[kP,M]
  have a6R:kP set top k=true→(a7H (k+1)).all (kP set top)=true:=fun h=>by rw[arD,d,h]; rfl
  generalize set[k]=x at *
  simp only[go_sem,uc,ud,c,Yc,B];by_cases p:x<0
  ·simp only[go_sem,xZ,p,UM];exact dT Sq (i hlt (by rw[l,decide_eq_false (Om:¬ 0≤x)]; rfl)).symm
  by_cases w:x≥top
  ·simp only[go_sem,xZ,p,w,UM];exact dT Sq (i hlt (by rw[l,decide_eq_false (Om:¬ x<top),a8O]; rfl)).symm
  rw[decide_eq_true (Om:0≤x),decide_eq_true (Om:x<top),a9N,a7R] at l;by_cases F:k=0
  ·subst F;simp only[go_sem,xZ,p,w,show ¬ ((0:Nat):Int)>0 by omega,ue,wZz 0];exact aD 1 ⟨hlt,a7W.1 (a6R (by rw[l]; rfl))⟩ Om Lq a_
  obtain⟨j,rfl⟩:∃ j,k=j+1:=⟨k-1,by omega⟩;have J:IntKind.i64.wrap (((j+1:Nat):Int)-1)=(j:Int):=by rw[wrap_i64 Om Om]; omega
  have q:j<set.length:=Om;have e:(j:Int)<(set.length:Nat):=Om;have u:(set.map fun n=>[PV.int .i64 n])[j]?=some [.int .i64 set[j]]:=by simp[q]
  have E:set.getD (j+1-1) 0=set[j]:=by simp[a7Z,q]
  rw[E,decide_eq_false F,Bool.false_or] at l;generalize set[j]=y at *
  by_cases H:y≥x
  ·simp only[go_sem,xZ,p,w,show ((j+1:Nat):Int)>0 by omega,J,u,e,H,UM];exact dT Sq (i hlt (by rw[l,decide_eq_false (Om:¬ y<x)])).symm
  ·simp only[go_sem,xZ,p,w,show ((j+1:Nat):Int)>0 by omega,J,u,e,H,ue,cZ (Om:j+1<9223372036854775807)];exact aD (j+1+1) ⟨hlt,a7W.1 (a6R (by rw[l,decide_eq_true (Om:y<x)]))⟩ Om Lq a_
 ·have c:¬ (k:Int)<(set.length:Nat):=Om;have:k=set.length:=Om;subst this;rw[d,a9N] at A;simp only[go_sem,uc,ud,c,Yd,a7G];exact dT (b:=decide ((set.length:Int)=n)) (by simp only[go_sem]; rfl) A.symm
theorem pJ {f:aE} {a6H:Int} (h:gR f a6H=true):VF f∧0≤a6H∧a6H.toNat<f.a5Z.length∧a6H=(a6H.toNat:Nat):=by
 unfold gR at h;simp only[a7X,decide_eq_true_eq] at h;exact⟨VF.of h.1,h.2.1,by omega,by omega⟩
theorem pI {f:aE} {a6H:Int} (h:gR f a6H=true):fY f a6H∈f.a5Z∧f.a5Z[a6H.toNat]?=some (fY f a6H):=by
 obtain⟨_,_,c,_⟩:=pJ h;have e:fY f a6H=f.a5Z[a6H.toNat]:=by simp[fY,a7Z,c]
 rw[e];exact⟨a7J c,a7U c⟩
theorem arM {C:Ctx} (val:∀ f:aE,f.Ok→aH C 96 [.agg f.cells] .nil (aF (.int .i64 (wJ f)))) (f:aE) (l:f.Ok) (a6H:Int) :
  CL.wp C (aV I4.res (aF (.bool (gR f a6H)))) (PF.args [.agg f.cells,.int .i64 a6H]) .nil:=by
 have i:=val f l;unfold wJ at i;simp only[go_sem,CL,xy,xz,I4];refine aA i Ev ?_;have d:gR f a6H=(dQ f&&(decide (0≤a6H)&&decide (a6H<f.a5Z.length))):=rfl;cases e:dQ f with
 | false =>rw[e,a7P] at d;simp only[go_sem,bF (show (1:Int)≠0 by decide)];exact dT Sq d.symm
 | true =>
  rw[e,a7R] at d;by_cases c:a6H≥0
  ·rw[decide_eq_true (Om:0≤a6H),a7R] at d;simp only[go_sem,bL (show (0:Int)=0 from rfl),c,a7G];exact dT (b:=decide (a6H<f.a5Z.length)) Sq d.symm
  ·rw[decide_eq_false (Om:¬ 0≤a6H),a7P] at d;simp only[go_sem,bL (show (0:Int)=0 from rfl),c,a7G];exact dT Sq d.symm
structure aiL (C:Ctx):Prop where
 adm:∀ (f:aE) (p:bS) (set:List Int),VF f→(∀ m∈p.a5W,0≤m∧m<f.a5W.length)→Fits p.a5W→aiM f set→aH C 201 [.agg f.cells,.agg p.cells,ints set] .nil (aF (.bool (lO f p set)))
 asc:∀ (set:List Int) (n top:Int),set.length≤1000000000000000→aH C 202 [ints set,.int .i64 n,.int .i64 top] .nil (aF (.bool (mK set n top)))
 known:∀ (f:aE) (a6H:Int),f.Ok→aH C 203 [.agg f.cells,.int .i64 a6H] .nil (aF (.bool (gR f a6H)))
theorem aDH {set:List Int} {n top:Int} (h:mK set n top=true):(set.length:Int)=n:=by
 unfold mK at h;simp only[a7X,decide_eq_true_eq] at h;exact h.1
theorem aOF {set:List Int} {n top:Int} (h:mK set n top=true):∀ x∈set,0≤x∧x<top:=by
 unfold mK at h;simp only[a7X,decide_eq_true_eq,a7W,a8K] at h;intro x d;obtain⟨i,hi,rfl⟩:=a8S d;have:=h.2 i hi;unfold kP at this;simp only[a7X,decide_eq_true_eq] at this;have c:set.getD i 0=set[i]:=by simp[a7Z,hi]
 rw[c] at this;exact this.1
theorem arH {C:Ctx} (x:aiL C) (f:aE) (B:f.Ok) (a6H:Int) (set:List Int) (H:set.length≤1000000000000000) :
  CJ.wp C (aV I1.res (aF (.bool (pA f a6H set)))) (PF.args [.agg f.cells,.int .i64 a6H,ints set]) .nil:=by
 have c:pA f a6H set=(gR f a6H&&(mK set (gP (fY f a6H)) f.a5V.length&&lO f (fY f a6H) set)):=rfl;simp only[go_sem,CJ,xn,xo,I1];refine aA (x.known f a6H B) Ev ?_;cases w:gR f a6H with
 | false =>rw[w,a7P] at c;simp only[go_sem,xp];exact dT Sq c.symm
 | true =>
  rw[w,a7R] at c;obtain⟨hV,E,M,K⟩:=pJ w;obtain⟨i,y⟩:=pI w;have l:=hV.a6H _ i;have e:=(B.a6H _ i).a5W;have d:(f.a5Z.map bS.cells)[a6H.toNat]?=some (fY f a6H).cells:=by rw[a8F,y]; rfl
  generalize fY f a6H=p at *
  have hlt:a6H<(f.a5Z.length:Nat):=Om;have J:IntKind.i64.wrap (p.k+p.m)=p.k+p.m:=wrap_i64 Om Om;simp only[go_sem,a7L,xq,E,hlt,a7G,d];refine aR fun q N=>?_;simp only[go_sem,xr,a7G,J];refine aA (x.asc set (p.k+p.m) f.a5V.length H) Ev ?_;have A:gP p=p.k+p.m:=rfl;rw[A] at c;cases u:mK set (p.k+p.m) f.a5V.length with
  | false =>rw[u,a7P] at c;simp only[go_sem];exact dT Sq c.symm
  | true =>rw[u,a7R] at c;have F:=aDH u;simp only[go_sem];refine aA (x.adm f p set hV l.2.2.2.2.2.2.2 e ⟨by omega,aOF u⟩) Ev ?_;simp only[go_sem];exact dT Sq c.symm
theorem wL {m:Nat} (d:m≤1000):∀ i,i≤1000→(dD m i).natAbs≤1000 ^ i
 | 0,_=>a7M _
 | i+1,h=>by have e:=wL d i Om;have c:((m:Int)-(i:Int)).natAbs≤1000:=Om;rw[dD,Int.natAbs_tdiv,Int.natAbs_mul,a9D];exact a8V (baF _ _) (baP e c)
theorem wM {m:Nat} (c:m≤1000) {i:Nat} (hi:i≤3):-1000000000≤dD m i∧dD m i≤1000000000:=by
 have h:=wL c i Om;have:1000 ^ i≤1000 ^ 3:=baL Om hi;have e:(1000:Nat) ^ 3=1000000000:=by decide
 omega
theorem ajG {C:Ctx} (m n:Nat) (l:m≤1000) (K:n≤3) :
  zC.wp C (aV ug.res (aF (.int .i64 (max (dD m n) 0)))) (PF.args [.int .i64 m,.int .i64 n]) .nil:=by
 simp only[go_sem,zC,gh,gi,gj,ug];refine wp_loop (α:=Nat) (fun k=>((((PF.nil.set 0 (.int .i64 m)).set 1 (.int .i64 n)).set 5 (.int .i64 (dD m k))).set 6 (.int .i64 k))) (fun _=>.nil) (fun k=>k≤n) (fun k=>n-k) 0 (a7N _) (by (repeat' (first|exact c_|refine d_ ?_ ?_))<;>first|(simp only[go_sem,dD]<;>rfl)|rfl) a_ ?_;intro k J;simp only[go_sem,gg,gk];by_cases hlt:k<n
 ·have c:(k:Int)<(n:Nat):=Om;obtain⟨b1,b2⟩:=wM l (i:=k) Om;have A:=wL l k Om;have y:((m:Int)-(k:Int)).natAbs≤1000:=Om;have d:=baP (a8V A (baL Om (Om:k≤2))) y;rw[← Int.natAbs_mul] at d;have e:(1000:Nat) ^ 2*1000=1000000000:=by decide
  have B:IntKind.i64.wrap ((m:Int)-(k:Int))=(m:Int)-k:=wrap_i64 Om Om;have E:IntKind.i64.wrap (dD m k*((m:Int)-(k:Int)))=dD m k*((m:Int)-k):=wrap_i64 Om Om;have F:IntKind.i64.wrap ((k:Int)+1)=(k:Int)+1:=wrap_i64 Om Om;have q:¬ ((k:Int)+1)=0:=Om;obtain⟨w,x⟩:=wM l (i:=k+1) Om;have u:dD m (k+1)=a9O (dD m k*((m:Int)-k)) ((k:Int)+1):=by rw[dD]
  rw[u] at w x;have H:IntKind.i64.wrap (a9O (dD m k*((m:Int)-k)) ((k:Int)+1))=a9O (dD m k*((m:Int)-k)) ((k:Int)+1):=wrap_i64 Om Om;simp only[go_sem,c,gl,B,E,F,q,H];simp only[go_sem,gm,wZz k];exact aD (k+1) hlt Om (by (repeat' (first|exact c_|refine d_ ?_ ?_))<;>first|(simp only[go_sem,u]<;>rfl)|rfl) a_
 ·have c:¬ (k:Int)<(n:Nat):=Om;have:k=n:=Om;subst this;simp only[go_sem,c,gn];have p:(if dD m k<0 then 0 else dD m k)=max (dD m k) 0:=by split<;>omega
  rw[p];refine aQ (.inr rfl) Ev ?_;rfl
def sP (k:Nat) (b:Bool):Nat:=if b then k+1 else k
theorem uR {α:Type} (q:α→Bool) (l:List α) {i:Nat} (h:i<l.length):(l.take (i+1)).countP q=sP ((l.take i).countP q) (q l[i]):=by
 rw[a9E h,List.countP_append];unfold sP;cases c:q l[i]<;>simp[c]
def BM (sc:List (List Int)) (set:List Int) (m:Int) (n i:Nat):PF:=((((((PF.nil.set 1 (ints set)).set 2 (.int .i64 m)).set 7 (.int .i64 n)).set 14 (lay sc)).set 15 (.int .i64 (sc.length:Nat))).set 16 (.int .i64 i))
def mG (sc:List (List Int)) (set:List Int) (m:Int) (n i:Nat) (b:Nat) (s:List Int) (j:Nat):PF:=((((((((((PF.nil.set 1 (ints set)).set 2 (.int .i64 m)).set 7 (.int .i64 n)).set 14 (lay sc)).set 15 (.int .i64 (sc.length:Nat))).set 16 (.int .i64 i)).set 10 (.int .i64 b)).set 20 (ints s)).set 21 (.int .i64 (s.length:Nat))).set 22 (.int .i64 j))
theorem ajJ {C:Ctx} {K:bR} [Up K] (sc:List (List Int)) (set:List Int) (A:set.length≤1000000000000000) (m:Int) (n i b:Nat) (s:List Int) (j:Nat) (d:Int) (k:Nat) (w:k≤eD set d) {F:PF} {H:PH}
  (x:(((mG sc set m n i b s j).set 13 (.int .i64 d)).set 11 (.int .i64 k)).le F)
  (u:K (.exit 4) (((mG sc set m n i b s j).set 13 (.int .i64 d)).set 11 (.int .i64 (eD set d:Nat))) H) :
  aC.wp C (.loop vM) K F H:=by
 refine wp_loop (α:=Nat) (fun k=>((mG sc set m n i b s j).set 13 (.int .i64 d)).set 11 (.int .i64 k)) (fun _=>H) (fun k=>k≤eD set d) (fun k=>eD set d-k) k w x b_ ?_;intro k w;have y:=wy set d;by_cases hlt:k<set.length
 ·have l:(k:Int)<(set.length:Nat):=Om;have p:(set.map fun n=>[PV.int .i64 n])[k]?=some [.int .i64 set[k]]:=by simp[hlt]
  by_cases c:k<eD set d
  ·have q:set[k]<d:=LD set d c;simp only[go_sem,vM,GU,mG,a7G,l,p,q,x2,wZz k];exact aD (k+1) c Om Lq b_
  ·have e:k=eD set d:=Om;subst e;have q:¬ set[eD set d]<d:=aeM set d hlt;simp only[go_sem,vM,GU,mG,a7G,l,p,q];refine Up.up ?_ u;unfold mG;exact Lq
 ·have l:¬ (k:Int)<(set.length:Nat):=Om;have e:k=eD set d:=Om;subst e;simp only[go_sem,vM,GU,mG,a7G,l];refine Up.up ?_ u;unfold mG;exact Lq
theorem arO {C:Ctx} {K:bR} [Up K] (sc:List (List Int)) (set:List Int) (S:set.length≤1000000000000000) (V:set.Pairwise (· < ·)) (m:Int) (n i:Nat) (s:List Int) (W:s.length≤1000000000000000) (B:s.Pairwise (· < ·)) {F:PF} {H:PH}
  (J:((mG sc set m n i 0 s 0).set 11 (.int .i64 0)).le F)
  (M:K (.exit 2) ((BM sc set m n i).set 10 (.int .i64 (iY set s:Nat))) H) :
  aC.wp C (.loop AW) K F H:=by
 refine wp_loop (α:=Nat × Nat) (fun t=>(mG sc set m n i ((s.take t.1).countP fun d=>set.contains d) s t.1).set 11 (.int .i64 t.2)) (fun _=>H) (fun t=>t.1≤s.length∧∀ d∈s.drop t.1,t.2≤eD set d) (fun t=>s.length-t.1) (0,0) ⟨a7N _,fun d _=>a7N _⟩ (by simpa using J) b_ ?_;rintro⟨j,k⟩ ⟨R,E⟩;simp only at R E;by_cases hlt:j<s.length
 ·have q:(j:Int)<(s.length:Nat):=Om;have y:(s.map fun n=>[PV.int .i64 n])[j]?=some [.int .i64 s[j]]:=by simp[hlt]
  have l:=uR (fun d=>set.contains d) s hlt;have p:s.drop j=s[j]::s.drop (j+1):=a9H hlt;have A:k≤eD set s[j]:=E _ (by rw[p]; exact List.mem_cons_self ..);have a6R:∀ d∈s.drop (j+1),eD set s[j]≤eD set d:=by intro d O;have:=B.sublist (List.drop_sublist j s);rw[p,List.pairwise_cons] at this;exact awK set (Int.le_of_lt (this.1 d O))
  have e:=aIS V s[j];have N:(s.take j).countP (fun d=>set.contains d)≤j:=a8V List.countP_le_length (by rw[a8A]; omega);generalize (s.take j).countP (fun d=>set.contains d)=b at *
  generalize s[j]=d at *
  simp only[go_sem,AW,ZI,mG,q,Jb,y];have X:=fun {K:bR} [Up K] {F:PF}=>ajJ (C:=C) (K:=K) sc set S m n i b s j d k A (F:=F) (H:=H);refine X (by unfold mG; exact Lq) ?_;have U:=wy set d;by_cases c:eD set d<set.length
  ·have w:((eD set d:Nat):Int)<(set.length:Nat):=Om;have u:(set.map fun n=>[PV.int .i64 n])[eD set d]?=some [.int .i64 set[eD set d]]:=by simp[c]
   have Q:set.getD (eD set d) 0=set[eD set d]:=by simp[a7Z,c]
   rw[decide_eq_true c,a7R,Q] at e;by_cases x:set[eD set d]=d
   ·rw[decide_eq_true x] at e;rw[e] at l;simp only[go_sem,mG,AX,a7G,w,u,bL x,x3,wZz b,AY,wZz j];exact aD (j+1,eD set d) ⟨hlt,a6R⟩ (by simp only; omega) (by (repeat' (first|exact c_|refine d_ ?_ ?_))<;>first|(simp only[go_sem,l,sP]<;>rfl)|rfl) b_
   ·rw[decide_eq_false x] at e;rw[e] at l;simp only[go_sem,mG,AX,a7G,w,u,bF x,AY,wZz j];exact aD (j+1,eD set d) ⟨hlt,a6R⟩ (by simp only; omega) (by (repeat' (first|exact c_|refine d_ ?_ ?_))<;>first|(simp only[go_sem,l,sP]<;>rfl)|rfl) b_
  ·have w:¬ ((eD set d:Nat):Int)<(set.length:Nat):=Om;rw[decide_eq_false c,a7P] at e;rw[e] at l;simp only[go_sem,mG,AX,a7G,w,AY,wZz j];exact aD (j+1,eD set d) ⟨hlt,a6R⟩ (by simp only; omega) (by (repeat' (first|exact c_|refine d_ ?_ ?_))<;>first|(simp only[go_sem,l,sP]<;>rfl)|rfl) b_
 ·have q:¬ (j:Int)<(s.length:Nat):=Om;have:j=s.length:=Om;subst this;simp only[go_sem,AW,ZI,mG,q,a8I];refine Up.up ?_ M;unfold BM iY;exact Lq
theorem aEA {C:Ctx} (sc:List (List Int)) (y:sc.length≤1000000000000000) (q:∀ s∈sc,s.length≤1000000000000000∧s.Pairwise (· < ·)) (set:List Int) (x:set.length≤1000000000000000) (u:set.Pairwise (· < ·)) (m:Int) :
  GT.wp C (aV ajI.res (aF (.int .i64 (sT sc set m:Nat)))) (PF.args [lay sc,ints set,.int .i64 m]) .nil:=by
 simp only[go_sem,GT,I5,I6,I7,ajI,a7G];refine wp_loop (α:=Nat) (fun i=>BM sc set m ((sc.take i).countP fun s=>decide (((iY s set:Nat):Int)>m)) i) (fun _=>.nil) (fun i=>i≤sc.length) (fun i=>sc.length-i) 0 (a7N _) (by unfold BM; exact Lq) a_ ?_;intro i hi;by_cases hlt:i<sc.length
 ·have e:(i:Int)<(sc.length:Nat):=Om;have p:(sc.map fun r=>[ints r])[i]?=some [ints sc[i]]:=by simp[hlt]
  have d:=uR (fun s=>decide (((iY s set:Nat):Int)>m)) sc hlt;obtain⟨k1,k2⟩:=q sc[i] (a7J hlt);have w:(sc.take i).countP (fun s=>decide (((iY s set:Nat):Int)>m))≤i:=a8V List.countP_le_length (by rw[a8A]; omega);generalize (sc.take i).countP (fun s=>decide (((iY s set:Nat):Int)>m))=n at *
  generalize sc[i]=s at *
  have l:iY set s=iY s set:=xm (u.imp (fun h=>by omega)) (k2.imp (fun h=>by omega));simp only[go_sem,OR,ZH,BM,e,I8,p,I9,Ja,a7G];have one:=fun {K:bR} [Up K] {F:PF} {H:PH}=>arO (C:=C) (K:=K) sc set x u m n i s k1 k2 (F:=F) (H:=H);refine one (by unfold mG; exact Lq) ?_;rw[l];by_cases c:((iY s set:Nat):Int)>m
  ·rw[decide_eq_true c] at d;simp only[go_sem,BM,OS,c,x4,wZz n,OT,wZz i];exact aD (i+1) hlt Om (by (repeat' (first|exact c_|refine d_ ?_ ?_))<;>first|(simp only[go_sem,d,sP]<;>rfl)|rfl) a_
  ·rw[decide_eq_false c] at d;simp only[go_sem,BM,OS,c,OT,wZz i];exact aD (i+1) hlt Om (by (repeat' (first|exact c_|refine d_ ?_ ?_))<;>first|(simp only[go_sem,d,sP]<;>rfl)|rfl) a_
 ·have e:¬ (i:Int)<(sc.length:Nat):=Om;have:i=sc.length:=Om;subst this;rw[a8I];simp only[go_sem,OR,ZH,BM,e,x5];refine aQ (.inr rfl) Ev ?_;rfl
def Kept (f:aE) (p:bS) (xs:List Int):Prop:=∀ i,i<f.a5Y.length→dZ f p i>0→fE f xs i≤dZ f p i
theorem Kept.nil (f:aE) (p:bS):Kept f p []:=fun i _ h=>by
 have:fE f [] i=0:=by unfold fE; split<;>simp
 omega
def yT (f:aE) (p:bS) (xs:List Int) (d:Nat) (k:Nat):Prop:=∀ i,i<f.a5Y.length→4-(k:Int)<lvl f i→dZ f p i>0→fE f (xs++[(d:Int)]) i≤dZ f p i
theorem yT.zero {f:aE} (hV:VF f) {p:bS} (xs:List Int) (d:Nat):yT f p xs d 0:=fun i hi h _=>by
 have:=hV.kA hi;omega
theorem yT.done {f:aE} (hV:VF f) {p:bS} (l:dZ f p 0≤0) {xs:List Int} {d:Nat} (h:yT f p xs d 4):Kept f p (xs++[(d:Int)]):=fun i hi c=>by
 have:=hV.kA hi;by_cases e:i=0
 ·subst e; omega
 ·exact h i hi Om c
theorem yT.next {f:aE} (hV:VF f) {p:bS} {xs:List Int} {d k:Nat} (x:d<f.a5V.length) (y:k<4) (u:Kept f p xs) (h:yT f p xs d k) (w:dZ f p (upN f k (dK f d))>0→fE f (xs++[(d:Int)]) (upN f k (dK f d))≤dZ f p (upN f k (dK f d))):yT f p xs d (k+1):=fun i hi A q=>by
 by_cases e:4-(k:Int)<lvl f i
 ·exact h i hi e q
 have l:lvl f i=4-(k:Int):=Om;by_cases c:i=upN f k (dK f d)
 ·subst c; exact w q
 have:fE f (xs++[(d:Int)]) i=fE f xs i:=by
  unfold fE;split
  ·rfl
  ·rw[List.countP_append,List.countP_cons,List.countP_nil];have:lM f i (d:Int)=false:=by unfold lM cO;rw[l,show (4-(4-(k:Int)).toNat)=k by omega,a9A];simp[show ¬ upN f k (dK f d)=i from fun h=>c h.symm]
   rw[this];simp
 rw[this];exact u i hi q
theorem asI {q:Nat→Bool} {n:Nat}:∀ {i:Nat},i<n→q i=true→((a7H n).filter q)[(a7H i).countP q]?=some i:=by
 intro i hi c;have e:a7H n=a7H i++(i::a9I (i+1) (n-i-1)):=by rw[List.range_eq_range',List.range_eq_range',show i::a9I (i+1) (n-i-1)=a9I i (n-i-1+1) from rfl];have:=List.range'_append (s:=0) (m:=i) (n:=n-i-1+1) (step:=1);rw[Nat.one_mul,a8E] at this;rw[this];congr 1;omega
 rw[e,List.filter_append,List.filter_cons_of_pos c,List.countP_eq_length_filter,a9Y (a7M _),baG];rfl
def InR (l:List Int) (n:Nat):Prop:=∀ x∈l,0≤x∧x<(n:Int)
def TY (f:aE) (c:List (List Int)) (r:Int) (l:List Int):Bool:=!l.isEmpty&&G4 f c r l
def aIA (f:aE) (e:List (List Int)) (r:Int) (c:List (List Int)) (d:Nat):List (List Int):=match c.findIdx? (fun l=>G4 f e r (l++[(d:Int)])) with
 | some i=>c.set i (c.getD i []++[(d:Int)])
 | none=>c++[[(d:Int)]]
def qw (f:aE) (c:List (List Int)) (r:Int):Nat→List (List Int)
 | 0=>[]
 | d+1=>aIA f c r (qw f c r d) d
def arC (f:aE) (c:List (List Int)) (r:Int):Bool:=(a7H f.a5V.length).all fun d=>G4 f c r [(d:Int)]
theorem set_perm:∀ (c:List (List Int)) (i:Nat) (x:Int),i<c.length→((c.set i (c.getD i []++[x])).flatten).Perm (c.flatten++[x])
 | [],i,x,h=>by cases h
 | l::c,0,x,_=>by simp only[bbC,List.getD_cons_zero,List.flatten_cons,a8Q];exact List.Perm.append_left _ List.perm_append_comm
 | l::c,i+1,x,h=>by have:=set_perm c i x (by simpa using h);simp only[List.set_cons_succ,List.getD_cons_succ,List.flatten_cons,a8Q];exact List.Perm.append_left _ this
structure Ik (f:aE) (now:List (List Int)) (r:Int) (n:Nat) (w:List (List Int)):Prop where
 ok:∀ l∈w,TY f now r l=true
 len:w.flatten.length=n
 nd:w.flatten.Nodup
 rng:InR w.flatten n
theorem Ik.put {f:aE} {c:List (List Int)} {r:Int} {n:Nat} {w:List (List Int)} (h:Ik f c r n w) (q:G4 f c r [(n:Int)]=true):Ik f c r (n+1) (aIA f c r w n):=by
 have p:∀ u:List (List Int),u.flatten.Perm (w.flatten++[(n:Int)])→(∀ l∈u,TY f c r l=true)→Ik f c r (n+1) u:=fun u e y=>by
  refine⟨y,by rw[e.length_eq,a7O,h.len]; rfl,e.nodup_iff.2 ?_,fun x A=>?_⟩
  ·rw[baA];refine⟨h.nd,by simp,fun a q b B=>?_⟩;rw[a9X] at B;subst B;have:=h.rng a q;omega
  ·have:=e.mem_iff.1 A;rw[a9C,a9X] at this;rcases this with A | rfl
   ·have:=h.rng x A; omega
   ·omega
 unfold aIA;split
 ·rename_i i hi;obtain⟨hlt,e,-⟩:=List.findIdx?_eq_some_iff_getElem.1 hi;refine p _ (set_perm w i n hlt) fun l d=>?_;rcases List.mem_or_eq_of_mem_set d with d | rfl
  ·exact h.ok l d
  ·unfold TY;rw[a7Z,a7U hlt,baH,e];simp
 ·refine p _ (by rw[List.flatten_append]; simp) fun l d=>?_;rw[a9C,a9X] at d;rcases d with d | rfl
  ·exact h.ok l d
  ·unfold TY;rw[q]; rfl
theorem Fi {f:aE} {c:List (List Int)} {r:Int} (e:arC f c r=true):∀ d,d≤f.a5V.length→Ik f c r d (qw f c r d)
 | 0,_=>⟨(fun l h=>by cases h),rfl,.nil,fun x h=>by cases h⟩
 | d+1,i=>(Fi e d Om).put (a7W.1 e d (a8K.2 Om))
end Go.PM
namespace Go.RO
open Go
def ins (x:Int):List Int→List Int
 | []=>[x]
 | y::ys=>if y<x then y::ins x ys else if y=x then y::ys else x::y::ys
end Go.RO
namespace Go.PM
open Go Go.Na






def aNQ (c:UInt8) (n:Nat):List UInt8:=[c,UInt8.ofNat (97+n/26%26),UInt8.ofNat (97+n%26)]
def J1 (ds:List cD) (level parent a6P:Nat):List cD:=ds++[⟨aNQ 110 ds.length,(level:Nat),(parent:Nat),(a6P:Nat),jQ⟩]
theorem aGX (a b:Nat) (e:a<4294967296) (i:b<4294967296):(mkT (a:Int) (b:Int)).Ok:=by
 rw[aaT];have c:=baF a (a7I a b);have d:=baF b (a7I a b);have k1:nl (a/a7I a b)≤1:=(jB _ _).2 Om;have k2:nl (b/a7I a b)≤1:=(jB _ _).2 Om;refine⟨aX _,aX _,?_,?_⟩
 ·show (aI _).length≤_;rw[bB]; omega
 ·show (aI _).length≤_;rw[bB]; omega
theorem Nu {n:Nat} (h:n≤1000000):dB (n:Int):=by unfold dB; omega
def Ic (ds:List cD):Prop:=∀ x∈ds,x.a6K.Ok∧dB x.level∧dB x.parent
theorem Ic.dom {ds:List cD} (h:Ic ds) {level parent a6P:Nat} (d:level≤1000) (e:parent≤1000):Ic (J1 ds level parent a6P):=fun x c=>by
 unfold J1 at c;rw[a9C,a9X] at c;rcases c with c | rfl
 ·exact h x c
 ·exact⟨aGX 0 1 (by decide) (by decide),Nu Om,Nu Om⟩
structure FM (f:aE):Prop where
 ok:f.Ok
 km:∀ p∈f.a5Z,1≤p.k∧p.k≤2∧0≤p.m∧p.m≤2
 a5V:f.a5V.length≤9
 pols:1≤f.a5Z.length∧f.a5Z.length≤2
 vols:∀ x∈f.a5X,0≤x.a6H∧x.a6H<f.a5Z.length
theorem FM.pol {f:aE} (h:FM f) {v:Nat} (d:v<f.a5X.length):DR f v<f.a5Z.length∧KL f v∈f.a5Z:=by
 have e:=h.vols _ (a7J d);have i:DR f v=(f.a5X[v]).a6H.toNat:=by rw[DR,getD_at d]
 have c:DR f v<f.a5Z.length:=Om;refine⟨c,?_⟩;unfold KL;rw[a7Z,a7U c,baH];exact a7J c
abbrev a0G (l:List Int) (a:Nat):cG:=.rows 2 [[ints l,.int .i64 (a:Nat)]]
section
variable {C:Ctx} {F:PF} {H Hs:PH} {l:List Int} {o a:Nat}
end
structure ME where
 o:Nat
 o4:Nat
 o5:Nat
 vols:Nat
abbrev ME.boxes (E:ME) (l:List Int) (ext c d e i wp wv:PV) (a:Nat):List BX:=[(E.o5,flB ext c d e i wp wv),(E.o,a0G l a),(E.o4,flZ)]





def a2L (ds:List cD) (i:Nat) (d:cD):Prop:=∃ c p u:Nat,d.name=aNQ 110 (i+1)∧d.level=c∧1≤c∧c≤4∧d.parent=p∧p≤i∧(lvs ds)[p]?=some ((c:Int)-1)∧d.a6P=u∧1≤u∧u≤64∧d.a6K=jQ
structure DV (ds:List cD):Prop where
 root:ds[0]?=some mI
 dom:∀ i (hi:i+1<ds.length),a2L ds i ds[i+1]
theorem DV.new {ds:List cD} (h:DV ds) {level parent up:Nat} (w:1≤level) (x:level≤4) (d:(lvs ds)[parent]?=some ((level:Int)-1)) (A:1≤up) (B:up≤64) :
  DV (J1 ds level parent up)∧(lvs (J1 ds level parent up))[ds.length]?=some (level:Int):=by
 have y:parent<ds.length:=by
  have:=(a8P.1 d).1
  rwa [a7G] at this
 unfold J1;refine⟨⟨by rw[a9Z Om]; exact h.root,fun i hi=>?_⟩,?_⟩
 ·simp only[a7O,a7S] at hi;by_cases hlt:i+1<ds.length
  ·rw[List.getElem_append_left hlt];obtain⟨c,p,v,g1,g2,g3,g4,e,l,q,u⟩:=h.dom i hlt;exact⟨c,p,v,g1,g2,g3,g4,e,l,yI q,u⟩
  ·have:i+1=ds.length:=Om;rw[bbD Om];simp only[List.getElem_singleton];exact⟨level,parent,up,by rw[this],rfl,w,x,rfl,by omega,yI d,rfl,A,B,rfl⟩
 ·unfold lvs;rw[a8G,a9Y (by rw[a7G]; exact a7M _),a7G,baG];rfl




theorem aN.store {H:PH} {B:List BX} {L:List LI} (h:aN H B L) (i:Nat) {q s n:Nat} {rows:List (List PV)} (hi:L[i]?=some (.osl q s 0 n,s,rows)) (k:Nat) (c:List PV) :
  ∃ rs,H q=some (.rows s rs)∧n≤rs.length∧rs.take n=rows∧aN (H.set q (.rows s (rs.set k c))) B (L.set i (.osl q s 0 n,s,rows.set k c)):=by
 obtain⟨rs,u,w,e,l⟩:=(h.own i hi).id rfl;injection w with _ _ _ x
 subst x;refine⟨rs,u,e,l,h.LL i hi (.inr ⟨q,rs.set k c,by rw[a9L],by rw[cP],by rw[a9L,a9L]; exact e,by rw[a9L,List.take_set,l]⟩) (fun p d=>.inl d) fun p _ d=>?_⟩;have:p≠q:=d q rfl;rw[aT,if_neg this]
def aSZ:Rg:=[iA 4 (.box false (Tm 1)),iA 6 (.alloc [zI,zI]),iI 7 0]
def aTA:Rg:=[iF 10 1 4,iL 11 10,iC 12 .lss 11 0,iM 13 12,gF 14 1 4 13 false,gL 15 14 13 false,gM 16 0 13 false,gB 17 .geq 15 16 13 false,iQ 18 13 17]
def aTB:Rg:=[iA 19 (.build [zI,zI] []),iS 2 6 19,iI 7 110]
def aTC:Rd:=[(iA 21 (.a7B (true,[.int .i64,.int .i64])),true),(iA 22 (.build [zI,zI] [(0,1,(Ci 1)),(1,1,(Ci 1))]),true),(⟨none,.insert (true,[.int .i64,.int .i64]) (Tm 21) (Tm 22) (Ci 2),none⟩,true),(iA 23 (.build [zI,zI] [(0,1,(Ci 2)),(1,1,(Ci 2))]),true),(⟨none,.insert (true,[.int .i64,.int .i64]) (Tm 21) (Tm 23) (Ci 3),none⟩,true),(iA 24 (.build [zI,zI] [(0,1,(Ci 3)),(1,1,(Ci 3))]),true),(⟨none,.insert (true,[.int .i64,.int .i64]) (Tm 21) (Tm 24) (Ci 1),none⟩,true),(iA 25 (.build [zI,zI] [(0,1,(Ci 3)),(1,1,(Ci 4))]),true),(⟨none,.insert (true,[.int .i64,.int .i64]) (Tm 21) (Tm 25) (Ci 5),none⟩,true),(iM 26 21,false),(iF 27 0 4,true),(iL 28 27,true),(iM 29 2,true),(iA 30 (.build [zI,zI] [(0,1,(Tm 28)),(1,1,(Tm 29))]),true),(iA 31 (.lookup (true,[.int .i64,.int .i64]) zI (Tm 26) (Tm 30) true),false),(iM 20 31,false),(iE 32 20 0,false),(iE 33 20 1,false),(iM 8 32,false),(iM 9 33,false)]
def aTD:Rg:=[iM 40 9,iA 41 (.un .not (Tm 40)),iM 39 41]
def aTE:Rg:=[iA 42 (.build [zI,zI] []),iS 2 6 42,iI 7 110]
def aTF:Rg:=[iM 44 2,iC 45 .neq 44 3,iM 43 45]
def aTG:Rg:=[iM 46 8,iF 47 0 4,iS 1 47 46]
def aTH:Rg:=[iF 49 1 4,iL 50 49,iM 51 0,iC 52 .sub 51 1,iB 53 .eql 50 52,iM 48 53]
def aTI:Rg:=[iF 54 0 4,⟨none,.store 1 (Tm 54) (Ci 4),none⟩]
def aKO:Rg:=[iM 34 8,iF 35 1 4,iL 36 35,iC 37 .add 36 1,iA 38 (.build [zI,zI] [(0,1,(Tm 34)),(1,1,(Tm 37))]),iS 2 4 38]
def aKP:Rg:=[iO 55 2 4,iS 2 6 55,iI 7 0]
def axH:aC:=(sq aSZ (.seq (sq aTA (.cond (Tm 18) (sq aTB .ret) .skip)) (dq aTC (.seq (.block 0 (sq aTD (.cond (Tm 39) (sq aTE .ret) (sq aTF (.cond (Tm 43) (.region aTG) (sq aTH (.cond (Tm 48) (.region aTI) (.region aKO)))))))) (sq aKP .ret)))))
def step:aS:=⟨3,56,axH,[.cell 6 (some 2),.tmp 7]⟩
def aRQ:Rg:=[iT 4 false]
def aRR:Rg:=[iM 6 0,iN 7 6,iM 8 1,iN 9 8,iB 10 .neq 7 9]
def aRS:Rg:=[iT 4 false]
def aRT:Rg:=[iI 5 0]
def aRU:Rg:=[iM 11 5,iM 12 0,iN 13 12,iB 14 .lss 11 13]
def aRV:Rd:=[(iM 17 0,false),(iM 18 5,false),(iX 19 1 17 18,false),(iL 20 19,false),(iM 21 1,false),(iM 22 5,false),(iX 23 1 21 22,false),(iL 24 23,false),(iB 25 .neq 20 24,false)]
def aRW:Rg:=[iT 4 false]
def aRX:Rg:=[iM 15 5,iC 16 .add 15 1,iM 5 16]
def aRP:aC:=(.seq (sq aRU (.cond (Tm 14) .skip (.exit 0))) (.seq (.block 1 (dq aRV (.cond (Tm 25) (sq aRW .ret) .skip))) (.region aRX)))
def aRY:Rg:=[iT 4 true]
def avW:aC:=(sq aRQ (.seq (sq aRR (.cond (Tm 10) (sq aRS .ret) .skip)) (.seq (sq aRT (.block 0 (.loop aRP))) (sq aRY .ret))))
def same:aS:=⟨2,26,avW,[.tmp 4]⟩
def aDJ:Rg:=[iT 0 false]
def aDK:Rg:=[iA 10 (.call 144 [(Ci 1)]),iA 1 (.alloc [zI,zI]),iS 2 1 10]
def aDL:Rg:=[iO 12 2 1,iA 13 (.call 145 [(Ci 1),(Tm 12),(Ci 1)]),iM 11 13,iE 14 11 0,iE 15 11 1,iA 2 (.alloc [zI,zI]),iS 2 2 14,iM 3 15]
def aDM:Rg:=[iO 17 2 2,iA 18 (.call 145 [(Ci 1),(Tm 17),(Ci 2)]),iM 16 18,iE 19 16 0,iE 20 16 1,iA 4 (.alloc [zI,zI]),iS 2 4 19,iM 5 20]
def aDN:Rg:=[iO 22 2 4,iA 23 (.call 145 [(Ci 1),(Tm 22),(Ci 3)]),iM 21 23,iE 24 21 0,iE 25 21 1,iA 6 (.alloc [zI,zI]),iS 2 6 24,iM 7 25]
def aDO:Rg:=[iO 27 2 6,iA 28 (.call 145 [(Ci 1),(Tm 27),(Ci 1)]),iM 26 28,iE 29 26 0,iE 30 26 1,iA 8 (.alloc [zI,zI]),iS 2 8 29,iM 9 30]
def aDP:Rg:=[iO 31 2 1,iA 32 (.build [zI,zI] [(0,1,(Ci 1))]),iA 33 (.eqs false [.int,.int] (Tm 31) (Tm 32)),iM 34 33,gM 35 3 34 true,gC 36 .eql 35 0 34 true,iP 37 34 36,iM 38 37,gM 39 5 38 true,gC 40 .eql 39 0 38 true,iP 41 38 40,iM 42 41,gM 43 7 42 true,gC 44 .eql 43 0 42 true,iP 45 42 44,iM 46 45,gM 47 9 46 true,gC 48 .eql 47 110 46 true,iP 49 46 48,iM 50 49,gO 51 2 6 50 true,iG 52 (.build [zI,zI] [(0,1,(Ci 4))]) 50 true,iG 53 (.eqs false [.int,.int] (Tm 51) (Tm 52)) 50 true,iP 54 50 53,iM 55 54,iG 56 (.a6B true 1 2 [zI] [(0,(Ci 2)),(1,(Ci 1))]) 55 true,iG 57 (.a6B true 1 1 [.aB] [(0,(Tm 56))]) 55 true,gO 58 2 6 55 true,gK2 59 146 57 58 55 true,iG 60 (.a6B true 1 2 [zI] [(0,(Ci 1)),(1,(Ci 2))]) 55 true,gK2 61 91 59 60 55 true,iP 62 55 61,iM 63 62,iG 64 (.call 144 [(Ci 0)]) 63 true,iG 65 (.build [zI,zI] [(0,1,(Ci 4))]) 63 true,iG 66 (.eqs false [.int,.int] (Tm 64) (Tm 65)) 63 true,iP 67 63 66,iM 0 67]
def aiY:aC:=(sq aDJ (sq aDK (sq aDL (sq aDM (sq aDN (sq aDO (sq aDP .ret)))))))
def aiX:aS:=⟨0,68,aiY,[.tmp 0]⟩
def aVG:Rg:=[iA 5 (.box true (Tm 1)),iT 8 false]
def aVH:Rg:=[iM 20 3,iN 21 20,iC 22 .gtr 21 20]
def aVI:Rg:=[iA 23 (.call 26 []),iM 8 23]
def aVJ:Rg:=[iI 9 0]
def aVK:Rg:=[iM 24 9,iM 25 3,iN 26 25,iB 27 .lss 24 26]
def aVL:Rg:=[iM 30 3,iM 31 9,iX 32 1 30 31,iL 33 32,iN 34 33,iC 35 .gtr 34 20]
def aVM:Rg:=[iA 36 (.call 26 []),iM 8 36]
def aVN:Rg:=[iM 28 9,iC 29 .add 28 1,iM 9 29]
def aVF:aC:=(.seq (sq aVK (.cond (Tm 27) .skip (.exit 0))) (.seq (.block 1 (sq aVL (.cond (Tm 35) (sq aVM .ret) .skip))) (.region aVN)))
def aVO:Rg:=[iM 37 0,iA 38 (.call 24 [(Tm 37),(Ci 5)]),iM 10 38]
def aQC:Rd:=[(iF 39 0 5,false),(iL 40 39,false),(iA 41 (.call 24 [(Tm 40),(Ci 5)]),true),(iA 42 (.bin .add (Ci 1) (Tm 41)),true),(iF 43 1 5,true),(iL 44 43,true),(iA 45 (.call 24 [(Tm 44),(Ci 5)]),true),(iA 46 (.build [zI,zI] [(0,1,(Tm 42)),(1,1,(Tm 45))]),false),(iA 11 (.alloc [zI,zI]),true),(iS 2 11 46,true)]
def aQD:Rg:=[iM 48 0,iO 49 2 5,iM 50 2,iA 51 (.call 145 [(Tm 48),(Tm 49),(Tm 50)]),iM 47 51,iE 52 47 0,iE 53 47 1,iA 12 (.alloc [zI,zI]),iS 2 12 52,iM 13 53]
def aQE:Rg:=[iM 55 0,iO 56 2 5,iM 57 2,iA 58 (.call 92 [(Tm 55),(Tm 56),(Tm 57)]),iM 54 58,iE 59 54 0,iE 60 54 1,iA 14 (.alloc [zI,zI]),iS 2 14 59,iM 15 60]
def aQF:Rd:=[(iM 62 10,true),(iO 63 2 11,true),(iM 64 2,false),(iA 65 (.call 24 [(Tm 64),(Ci 4)]),true),(iA 66 (.bin .add (Ci 1) (Tm 65)),false),(iA 67 (.call 145 [(Tm 62),(Tm 63),(Tm 66)]),true),(iM 61 67,false),(iE 68 61 0,false),(iE 69 61 1,true),(iA 16 (.alloc [zI,zI]),true),(iS 2 16 68,true),(iM 17 69,false)]
def aQG:Rd:=[(iM 71 10,true),(iO 72 2 11,true),(iM 73 2,false),(iA 74 (.call 24 [(Tm 73),(Ci 4)]),true),(iA 75 (.bin .add (Ci 1) (Tm 74)),false),(iA 76 (.call 92 [(Tm 71),(Tm 72),(Tm 75)]),true),(iM 70 76,false),(iE 77 70 0,false),(iE 78 70 1,true),(iA 18 (.alloc [zI,zI]),true),(iS 2 18 77,true),(iM 19 78,false)]
def aQH:Rd:=[(iA 79 (.call 26 []),true),(iM 80 79,false),(gO 81 2 12 80 true,false),(gO 82 2 14 80 true,false),(iG 83 (.eqs false [.int,.int] (Tm 81) (Tm 82)) 80 true,false),(iP 84 80 83,false),(iM 85 84,false),(gM 86 13 85 true,false),(gM 87 15 85 true,false),(gB 88 .eql 86 87 85 true,false),(iP 89 85 88,false),(iM 90 89,false),(gO 91 2 16 90 true,false),(gO 92 2 18 90 true,false),(iG 93 (.eqs false [.int,.int] (Tm 91) (Tm 92)) 90 true,false),(iP 94 90 93,false),(iM 95 94,false),(gM 96 17 95 true,false),(gM 97 19 95 true,false),(gB 98 .eql 96 97 95 true,false),(iP 99 95 98,false),(iM 100 99,false),(gM 101 3 100 true,false),(gO 102 2 5 100 true,false),(gK2 103 146 101 102 100 true,true),(gM 104 3 100 true,true),(gO 105 2 5 100 true,true),(gK2 106 93 104 105 100 true,true),(gK2 107 91 103 106 100 true,true),(iP 108 100 107,false),(iM 109 108,false),(gM 110 3 109 true,false),(gO 111 2 11 109 true,false),(gK2 112 146 110 111 109 true,true),(gM 113 3 109 true,true),(gO 114 2 11 109 true,true),(gK2 115 93 113 114 109 true,true),(gK2 116 91 112 115 109 true,true),(iP 117 109 116,false),(iM 8 117,false)]
def aGA:aC:=(sq aVG (.seq (sq aVH (.cond (Tm 22) (sq aVI .ret) .skip)) (.seq (sq aVJ (.block 0 (.loop aVF))) (sq aVO (dq aQC (sq aQD (sq aQE (dq aQF (dq aQG (dq aQH .ret))))))))))
def law:aS:=⟨4,118,aGA,[.tmp 8]⟩
open Go Go.RowKit Go.Sort Go.Shelf Go.Proofs
section
variable {E:Env} {H:PH} {w:World}
end
section
variable {C:Ctx} {ρ:Ren} {name:Nat}
end
abbrev lists (c:List (List Int)):PV:=.sl 1 (c.map fun w=>[ints w])
abbrev WPs:=List (PV × List Int)
def cY (ps:WPs):List (List PV):=ps.map fun p=>[p.1]
def mN (ps:WPs):List LI:=ps.map fun p=>(p.1,1,aY p.2)
def wls (ps:WPs):List (List Int):=ps.map (·.2)
def dO (c:PV) (ps:WPs):List LI:=(c,1,cY ps)::mN ps
section
variable {H:PH} {B:List BX}
theorem kX (ps:WPs):(cY ps).length=ps.length:=a7G _
theorem uz {ps:WPs} {i:Nat} {v:PV} {w:List Int} (hi:ps[i]?=some (v,w)):(mN ps)[i]?=some (v,1,aY w):=by
 unfold mN;rw[a8F,hi]; rfl
theorem Q6 {ps:WPs} {i:Nat} {v:PV} {w:List Int} (hi:ps[i]?=some (v,w)):(cY ps)[i]?=some [v]:=by
 unfold cY;rw[a8F,hi]; rfl
theorem aN.sY (h:aN H B []):aN H B (dO .aB []):=h.nB 1
theorem aN.inner {c:PV} {ps:WPs} (h:aN H B (dO c ps)) {i:Nat} {v:PV} {w:List Int} (hi:ps[i]?=some (v,w)):bQ H 1 v (aY w):=h.own (i+1) (uz hi)
theorem aN.outer {c:PV} {ps:WPs} (h:aN H B (dO c ps)):bQ H 1 c (cY ps):=h.own 0 rfl
theorem zP (a b:List Int):aY (a++b)=aY a++aY b:=a8G
theorem aN.a0B {p:PV} {ps:WPs} (h:aN H B (dO p ps)) {i b:Nat} {v y:PV} {w src:List Int} {K:PV→PH→Prop} (hi:ps[i]?=some (v,w)) (E:dX H 1 y=some (aY src)) (x:roomFor w.length src.length b) (d:src≠[])
  (u:∀ q H',aN H' B ((p,1,cY ps)::(mN ps).set i (.osl q 1 0 (w++src).length,1,aY (w++src)))→K (.osl q 1 0 (w++src).length) H'):mP H 1 b v y K:=by
 have c:aY src≠[]:=fun e=>d (List.map_eq_nil_iff.1 e);refine h.append (i+1) (uz hi) E (by rw[dC,dC]; exact x) fun v' H' l A=>?_;obtain⟨q,rfl⟩:=A c;rw[← zP,dC] at l ⊢;exact u q H' l
theorem aN.aWU {c n i:Nat} {ps:WPs} {v':PV} {d:List Int} (h:aN H B ((.osl c 1 0 n,1,cY ps)::(mN ps).set i (v',1,aY d))) :
  ∃ rs,H c=some (.rows 1 rs)∧n≤rs.length∧rs.take n=cY ps∧aN (H.set c (.rows 1 (rs.set i [v']))) B (dO (.osl c 1 0 n) (ps.set i (v',d))):=by
 obtain⟨rs,l,p,q,u⟩:=h.store 0 rfl i [v'];refine⟨rs,l,p,q,?_⟩;have e:dO (.osl c 1 0 n) (ps.set i (v',d))=((.osl c 1 0 n,1,cY ps)::(mN ps).set i (v',1,aY d)).set 0 (.osl c 1 0 n,1,(cY ps).set i [v']):=by unfold dO cY mN;rw[List.map_set,List.map_set];rfl
 rw[e];exact u
theorem aN.aQN {c:PV} {ps:WPs} {b:Nat} {y:PV} {K:PV→PH→Prop} (h:aN H B (dO c ps)) (w:dX H 1 y=some [[.aB]]) (p:roomFor ps.length 1 b)
  (l:∀ q H',aN H' B (dO (.osl q 1 0 (ps.length+1)) (ps++[(.aB,[])]))→K (.osl q 1 0 (ps.length+1)) H'):mP H 1 b c y K:=by
 refine h.append 0 (src:=[[.aB]]) rfl w (by rw[kX]; exact p) fun v' H' i u=>?_;obtain⟨q,rfl⟩:=u (by simp);have d:=i.nB 1;rw[a7O,kX] at d ⊢;refine l q H' ?_;have e:dO (.osl q 1 0 (ps.length+1)) (ps++[(.aB,[])])=(((c,1,cY ps)::mN ps).set 0 (.osl q 1 0 (ps.length+1),1,cY ps++[[.aB]]))++[(.aB,1,[])]:=by unfold dO cY mN;rw[a8G,a8G];rfl
 rw[e];exact d
def nZ (c:List (List PV)) (d:List (List Int)):Prop:=c.length=d.length∧∀ (i:Nat) r w,c[i]?=some r→d[i]?=some w→r=[ints w]∨(r=[.aB]∧w=[])
theorem nZ.nil:nZ [] []:=⟨rfl,fun i r w h=>by cases h⟩
theorem nZ.snoc {l:List (List PV)} {p:List (List Int)} {u:PV} {w:List Int} (h:nZ l p) (q:u=ints w∨(u=.aB∧w=[])):nZ (l++[[u]]) (p++[w]):=by
 refine⟨by simp[h.1],fun i r x d e=>?_⟩;rcases Nat.lt_trichotomy i l.length with c | c | c
 ·rw[a9Z c] at d;rw[a9Z (by rw[← h.1]; exact c)] at e;exact h.2 i r x d e
 ·subst c;rw[a9Y (a7M _),baG] at d;rw[h.1,a9Y (a7M _),baG] at e;cases d; cases e;rcases q with rfl | ⟨rfl,rfl⟩
  ·exact .inl rfl
  ·exact .inr ⟨rfl,rfl⟩
 ·rw[a9Y Om,a8X (by simp; omega)] at d;cases d
theorem nZ.flat {e:List (List PV)} {u:List (List Int)} (h:nZ e u):Flat e:=Flat.of fun r p c d q s rs=>by
 obtain⟨i,hi⟩:=List.mem_iff_getElem?.1 p;have l:=(a8P.1 hi).1;rcases h.2 i r _ hi (a7U (by rw[← h.1]; exact l)) with rfl | ⟨rfl,-⟩
 ·rw[a9X] at d; subst d; rfl
 ·rw[a9X] at d; subst d; rfl
theorem nZ.co {y:List (List PV)} {x:List (List Int)} (h:nZ y x):Co (.sl 1 y) (lists x):=by
 have u:∀ (i:Nat) r t,y[i]?=some r→(x.map fun w=>[ints w])[i]?=some t→∃ w,t=[ints w]∧(r=[ints w]∨(r=[.aB]∧w=[])):=fun i r t e c=>by
  rw[a8F] at c;cases E:x[i]? with
  | none=>rw[E] at c; cases c
  | some w =>rw[E] at c;cases c;exact⟨w,rfl,h.2 i r w e E⟩
 refine .sl (by rw[a7G,h.1]) (fun i r t e c=>?_) (fun i j p q d l=>?_)
 ·obtain⟨w,rfl,A | ⟨A,-⟩⟩:=u i r t e c<;>subst A<;>rfl
 ·unfold at2 at d l;cases e:y[i]? with
  | none=>rw[e] at d; cases d
  | some r =>
   cases c:(x.map fun w=>[ints w])[i]? with
   | none=>rw[c] at l; cases l
   | some t =>
    rw[e] at d;rw[c] at l;obtain⟨w,rfl,A⟩:=u i r t e c;rcases A with rfl | ⟨rfl,rfl⟩
    ·have:some p=some q:=d.symm.trans l;cases this;exact .refl _
    ·cases j with
     | zero=>cases d; cases l; exact .nil 1
     | succ j=>cases d
end
def Fx (u:PV):Prop:=∀ q s rs,PV.frz q s rs u=u
theorem Fx.int (k:IntKind) (n:Int):Fx (.int k n):=fun _ _ _=>rfl
theorem Fx.bool (b:Bool):Fx (.bool b):=fun _ _ _=>rfl
theorem Fx.sl (n:Nat) (r:List (List PV)):Fx (.sl n r):=fun _ _ _=>rfl
theorem Fx.aB:Fx .aB:=fun _ _ _=>rfl
theorem Fx.ptr (q z i c:Nat):Fx (.ptr q z i c):=fun _ _ _=>rfl
theorem Fx.bH (c:List PV):Fx (.bH c):=fun _ _ _=>rfl
theorem bQ.dE {H:PH} {s:Nat} {v:PV} {rows:List (List PV)} (h:bQ H s v rows) (q z:Nat) (rs:List (List PV)):PV.frz q z rs v=PV.dE q z rs v:=by
 rcases h with ⟨-,rfl⟩ | ⟨p,rs',rfl,-⟩<;>rfl
def Ul (φ:PV→PV) (F:PF):PF:=fun i=>(F i).map φ
theorem yR (φ:PV→PV) (F:PF) (i:Nat):Ul φ F i=(F i).map φ:=rfl
theorem zT:∀ (ps:WPs) {H:PH} {B:List BX} {y:PV} (l:List (List PV)) (d:List (List Int)),nZ l d→aN H B ((y,1,l++cY ps)::mN ps)→(∀ b∈B,∀ q s rs,cG.frz q s rs b.2=b.2) →
  ∃ (φ:PV→PV) (A:PH),Co (φ y) (lists (d++wls ps))∧(∀ u,Fx u→φ u=u)∧(∀ e:Int,φ (.tup [y,.int .i64 e])=.tup [φ y,.int .i64 e])∧aN A B []∧(∀ F:PF,jD F H (Ul φ F) A)∧∀ o,(H o=none∨y.oid=some o∨∃ p∈ps,p.1.oid=some o)→A o=none
 | [],H,B,y,l,d,J,h,hB=>by
  have M:l++cY []=l:=a9G l;have e1:d++wls []=d:=a9G d;rw[M] at h;rw[e1];rcases h.own 0 rfl with ⟨Q,rfl⟩ | ⟨q,rs,rfl,_⟩
  ·refine⟨id,H,?_,fun _ _=>rfl,fun _=>rfl,h.ajU 0,fun F=>?_,fun o ho=>?_⟩
   ·subst Q;have:d=[]:=List.length_eq_zero_iff.1 J.1.symm;subst this;exact .nil 1
   ·have:Ul id F=F:=funext fun i=>by rw[yR]; simp
    rw[this];exact .refl _ _
   ·rcases ho with ho | ho | ⟨p,hp,-⟩
    ·exact ho
    ·cases ho
    ·cases hp
  ·obtain⟨rs,X,Y,Z,z4,K⟩:=h.frz 0 rfl;refine⟨PV.frz q 1 rs,H.frz q 1 rs,?_,fun u N=>N _ _ _,fun e=>?_,?_,fun F=>.step q X (.refl _ _),fun o ho=>?_⟩
   ·rw[Z]; exact J.co
   ·show PV.tup [PV.dE q 1 rs (.osl q 1 0 l.length),.int .i64 e]=_;rw[Y,Z]
   ·have O:(B.map fun b=>(b.1,b.2.frz q 1 rs))=B:=by
     conv=>rhs; rw[← List.map_id B]
     refine bbB fun b R=>?_;rw[hB b R q 1 rs]; rfl
    rw[O] at K;exact K
   ·rw[yF];rcases ho with ho | ho | ⟨p,hp,-⟩
    ·rw[ho]; split<;>rfl
    ·have:q=o:=by injection ho
     rw[if_pos this.symm]
    ·cases hp
 | (v,w)::ps,H,B,y,l,d,J,h,hB=>by
  have eo:∀ u:PV,l++[[u]]++cY ps=l++[u]::cY ps:=fun u=>by rw[a8Q]; rfl
  have ew:d++[w]++wls ps=d++wls ((v,w)::ps):=by rw[a8Q]; rfl
  have ho:bQ H 1 v (aY w):=h.own 1 rfl;rcases ho with ⟨Q,rfl⟩ | ⟨q,rs,rfl,_⟩
  ·have hw:w=[]:=List.map_eq_nil_iff.1 Q;have h2:=h.ajU 1;obtain⟨φ,A,k1,k2,S,U,V,W⟩:=zT ps (l++[[.aB]]) (d++[w]) (J.snoc (.inr ⟨rfl,hw⟩)) (by rw[eo]; exact h2) hB;rw[ew] at k1;refine⟨φ,A,k1,k2,S,U,V,fun o ho=>W o ?_⟩;rcases ho with ho | ho | ⟨p,hp,ho⟩
   ·exact .inl ho
   ·exact .inr (.inl ho)
   ·rcases a7T.1 hp with rfl | hp
    ·cases ho
    ·exact .inr (.inr ⟨p,hp,ho⟩)
  ·obtain⟨rs,X,Y,Z,z4,K⟩:=h.frz 1 rfl;have O:(B.map fun b=>(b.1,b.2.frz q 1 rs))=B:=by
    conv=>rhs; rw[← List.map_id B]
    refine bbB fun b R=>?_;rw[hB b R q 1 rs]; rfl
   have y0:PV.dE q 1 rs y=y:=z4 0 _ (by decide) rfl;have E:PV.frz q 1 rs y=y:=((h.own 0 rfl).dE q 1 rs).trans y0;have yp:∀ p∈ps,PV.dE q 1 rs p.1=p.1:=fun p hp=>by obtain⟨j,hj⟩:=List.mem_iff_getElem?.1 hp;exact z4 (j+2) (p.1,1,aY p.2) Om (uz hj)
   have er:(l++cY ((.osl q 1 0 (aY w).length,w)::ps)).map (fun r=>r.map (PV.dE q 1 rs))=l++[[ints w]]++cY ps:=by
    rw[a8G,J.flat,a8Q];congr 1;show [PV.dE q 1 rs (.osl q 1 0 (aY w).length)]::(cY ps).map _=_;rw[Y];have:(cY ps).map (fun r=>r.map (PV.dE q 1 rs))=cY ps:=by unfold cY;rw[List.map_map];refine bbB fun p hp=>?_;show [PV.dE q 1 rs p.1]=_;rw[yp p hp]
    rw[this];rfl
   have ei:(mN ps).map (fun x=>(x.1,x.2.1,x.2.2.map fun r=>r.map (PV.dE q 1 rs)))=mN ps:=by unfold mN;rw[List.map_map];refine bbB fun p _=>?_;show (p.1,1,(aY p.2).map fun r=>r.map (PV.dE q 1 rs))=_;rw[show (aY p.2).map (fun r=>r.map (PV.dE q 1 rs))=aY p.2 from Flat.map p.2 (fun x c hc q s rs=>by rw[a9X] at hc; subst hc; rfl) q 1 rs]
   have z6:aN (H.frz q 1 rs) B ((y,1,l++[[ints w]]++cY ps)::mN ps):=by rw[O] at K;have z7:aN (H.frz q 1 rs) B ((y,1,(l++cY ((.osl q 1 0 (aY w).length,w)::ps)).map (fun r=>r.map (PV.dE q 1 rs)))::(mN ps).map (fun x=>(x.1,x.2.1,x.2.2.map fun r=>r.map (PV.dE q 1 rs)))):=K;rw[er,ei] at z7;exact z7
   obtain⟨φ,A,k1,k2,S,U,V,W⟩:=zT ps (l++[[ints w]]) (d++[w]) (J.snoc (.inl rfl)) z6 hB;rw[ew] at k1;refine⟨fun u=>φ (PV.frz q 1 rs u),A,?_,fun u N=>?_,fun e=>?_,U,fun F=>.step q X ?_,fun o ho=>W o ?_⟩
   ·simp only;rw[E]; exact k1
   ·simp only;rw[N,k2 u N]
   ·simp only;rw[E];have yt:PV.frz q 1 rs (.tup [y,.int .i64 e])=.tup [PV.frz q 1 rs y,.int .i64 e]:=by rcases h.own 0 rfl with ⟨-,M⟩ | ⟨p,rs',M,-⟩<;>(subst M; rfl)
    rw[yt,E,S]
   ·have:Ul (fun u=>φ (PV.frz q 1 rs u)) F=Ul φ (F.frz q 1 rs):=funext fun i=>by rw[yR,yR,qW,Option.map_map];rfl
    rw[this];exact V _
   ·rw[yF];rcases ho with ho | ho | ⟨p,hp,ho⟩
    ·left; rw[ho]; split<;>rfl
    ·exact .inr (.inl ho)
    ·rcases a7T.1 hp with rfl | hp
     ·have:q=o:=by injection ho
      left; rw[if_pos this.symm]
     ·exact .inr (.inr ⟨p,hp,ho⟩)
theorem nI {res:List dV} {F:PF} {H:PH} {d:PV} {ps:WPs} {c:Int} {e:kM} (x:e=.normal∨e=.ret) (h:dV.evs F H res=some [d,.int .i64 c]) (u:aN H [] (dO d ps)):aV res (bY (.tup [lists (wls ps),.int .i64 c])) e F H:=by
 obtain⟨φ,B,k1,-,y,-,A,-⟩:=zT ps [] [] .nil u (fun b w=>by cases w);refine yP x h ⟨_,_,.nil,A _,a_,φ (bO [d,.int .i64 c]),?_,?_⟩
 ·rw[yR,kD,if_pos rfl]; rfl
 ·show bY _ (φ (.tup [d,.int .i64 c])) .nil;rw[y];refine⟨.tup rfl fun j p q i l=>?_,rfl⟩
  match j with
  | 0=>cases i; cases l; exact k1
  | 1=>cases i; cases l; exact .refl _
  | j+2=>cases i
theorem bQ.lenOf {H:PH} {v:PV} {rows:List (List PV)} {s:Nat} (h:bQ H s v rows):PV.sR v=some (.int .i64 (rows.length:Nat)):=by
 rcases h with ⟨rfl,rfl⟩ | ⟨q,rs,rfl,-⟩<;>rfl
theorem aN.aVX {H:PH} {B:List BX} {e:PV} {ps:WPs} (h:aN H B (dO e ps)) {i:Nat} (hi:i<ps.length) :
  ∃ d rs,e=.osl d 1 0 ps.length∧H d=some (.rows 1 rs)∧rs[i]?=some [ps[i].1]∧i<rs.length:=by
 rcases h.outer with ⟨c,-⟩ | ⟨q,rs,rfl,c,h2,h3⟩
 ·have:(cY ps).length=0:=by rw[c]; rfl
  rw[kX] at this;omega
 ·rw[kX] at h2 h3;refine⟨q,rs,by rw[kX],c,?_,by omega⟩;have:=Q6 (ps:=ps) (i:=i) (v:=ps[i].1) (w:=ps[i].2) (by rw[a7U hi]);rw[← h3,List.getElem?_take_of_lt hi] at this;exact this
theorem aN.aQT {H:PH} {B:List BX} {c:PV} {ps:WPs} (h:aN H B (dO c ps)):PV.sR c=some (.int .i64 (ps.length:Nat)):=by
 have:=h.outer.lenOf
 rwa [kX] at this
theorem uP (ps:WPs):(wls ps).length=ps.length:=a7G _
theorem KR {res:List dV} {F:PF} {H:PH} {c:PV} {ps:WPs} {e:kM} (l:e=.normal∨e=.ret) (h:dV.evs F H res=some [c]) (d:aN H [] (dO c ps)):aV res (bY (lists (wls ps))) e F H:=by
 obtain⟨φ,q,k1,-,-,-,p,-⟩:=zT ps [] [] .nil d (fun b i=>by cases i);refine yP l h ⟨_,_,.nil,p _,a_,φ (bO [c]),?_,?_⟩
 ·rw[yR,kD,if_pos rfl]; rfl
 ·exact⟨k1,rfl⟩
def IQ (f:aE) (lv:Int) (i:Nat):Bool:=decide (lvl f i=lv)
def BA (f:aE) (lv:Int):List Nat:=(a7H f.a5Y.length).filter (IQ f lv)
def eE (f:aE) (lv:Int) (i:Nat):Nat:=(a7H i).countP (IQ f lv)
def fF (f:aE) (lv:Int) (k:Nat):List Int:=(a7H f.a5Y.length).map fun i=>if i<k∧lvl f i=lv then ((eE f lv i:Nat):Int) else 0
def nA (f:aE) (lv:Int) (d i:Nat):List Nat:=(a7H d).filter fun e=>decide (cO f e lv=i)
def oE (f:aE) (lv:Int) (d:Nat):List (List Int):=(BA f lv).map fun i=>bK (nA f lv d i)
theorem du (f:aE) {lv:Int} (h:lv≠5):fB f lv=oE f lv f.a5V.length:=by
 unfold fB;rw[if_neg h]; rfl
theorem Ef (f:aE):fB f 5=(a7H f.a5V.length).map fun (d:Nat)=>[(d:Int)]:=by
 unfold fB;rw[if_pos rfl]
theorem amZ (f:aE) (lv:Int) (k:Nat):(fF f lv k).length=f.a5Y.length:=by unfold fF; simp
theorem Wt (f:aE) (lv:Int):fF f lv 0=a7K f.a5Y.length 0:=by
 unfold fF;refine baO (by simp) fun i c d=>?_;simp
theorem Cf {f:aE} {lv:Int} {k i:Nat} (hi:i<f.a5Y.length):(fF f lv k)[i]?=some (if i<k∧lvl f i=lv then ((eE f lv i:Nat):Int) else 0):=by
 unfold fF;rw[a8F,List.getElem?_range hi]; rfl
theorem amY {f:aE} {lv:Int} {k:Nat} (h:lvl f k=lv):(fF f lv k).set k ((eE f lv k:Nat):Int)=fF f lv (k+1):=by
 refine baO (by simp[fF]) fun i c d=>?_;simp only[fF,List.getElem_set,a9B,List.getElem_range];by_cases e:k=i
 ·subst e; rw[if_pos rfl,if_pos ⟨by omega,h⟩]
 ·rw[if_neg e];have:i<k↔i<k+1:=Om;simp only[this]
theorem Ws {f:aE} {lv:Int} {k:Nat} (h:lvl f k≠lv):fF f lv k=fF f lv (k+1):=by
 refine baO (by simp[fF]) fun i c d=>?_;simp only[fF,a9B,List.getElem_range];by_cases e:k=i
 ·subst e; rw[if_neg Om,if_neg (fun x=>h x.2)]
 ·have:i<k↔i<k+1:=Om;simp only[this]
theorem apZ {f:aE} {lv:Int} {k:Nat} (h:lvl f k=lv):eE f lv (k+1)=eE f lv k+1:=by
 unfold eE IQ;rw[baS,List.countP_append]; simp[h]
theorem Xn {f:aE} {lv:Int} {k:Nat} (h:lvl f k≠lv):eE f lv (k+1)=eE f lv k:=by
 unfold eE IQ;rw[baS,List.countP_append]; simp[h]
theorem aBS (f:aE) (lv:Int) (k:Nat):eE f lv k≤k:=a8V List.countP_le_length (by simp)
theorem agF {f:aE} {lv:Int} {a:Nat} (c:a<f.a5Y.length) (h:lvl f a=lv):(BA f lv)[eE f lv a]?=some a:=asI (q:=IQ f lv) c (by rw[IQ,decide_eq_true h])
theorem V2 (f:aE) (lv:Int) (d i:Nat):nA f lv (d+1) i=if cO f d lv=i then nA f lv d i++[d] else nA f lv d i:=by
 unfold nA;rw[baS,List.filter_append];by_cases h:cO f d lv=i<;>simp[h]
theorem j3 (f:aE) (lv:Int) (d i:Nat):(nA f lv d i).length≤d:=a8V (List.length_filter_le ..) (by simp)
theorem aES (f:aE) (lv:Int):(BA f lv).Nodup:=List.nodup_range.filter _
theorem aMR {f:aE} {lv:Int} {d:Nat} (B:cO f d lv<f.a5Y.length) (h:lvl f (cO f d lv)=lv) {ps:WPs} (q:wls ps=oE f lv d) {v:PV} {w:List Int} (hi:ps[eE f lv (cO f d lv)]?=some (v,w)) (v':PV) :
  w.length≤d∧wls (ps.set (eE f lv (cO f d lv)) (v',w++[(d:Int)]))=oE f lv (d+1):=by
 have l:=agF B h;have u:w=bK (nA f lv d (cO f d lv)):=by
  have c:(wls ps)[eE f lv (cO f d lv)]?=some w:=by unfold wls; rw[a8F,hi]; rfl
  rw[q,oE,a8F,l] at c;injection c with c
  exact c.symm
 refine⟨by rw[u]; unfold bK; rw[a7G]; exact j3 ..,?_⟩;have p:wls (ps.set (eE f lv (cO f d lv)) (v',w++[(d:Int)]))=(oE f lv d).set (eE f lv (cO f d lv)) (w++[(d:Int)]):=by rw[← q];unfold wls;rw[List.map_set]
 rw[p,u];unfold oE;refine baO (by simp) fun i c p=>?_;have il:i<(BA f lv).length:=by simpa using p
 rw[List.getElem_set];simp only[a9B];rw[V2];obtain⟨E,x⟩:=a8P.1 l;by_cases e:eE f lv (cO f d lv)=i
 ·subst e;rw[if_pos rfl,x,if_pos rfl];unfold bK;rw[a8G]; rfl
 ·rw[if_neg e,if_neg];intro y;have A:(BA f lv)[eE f lv (cO f d lv)]=(BA f lv)[i]:=x.trans y;exact e ((List.getElem_inj (aES f lv)).1 A)
def xH (n:Nat):List (List PV):=(a7H n).map fun (d:Nat)=>[ints [(d:Int)]]
theorem Cq (n:Nat):(xH n).length=n:=by unfold xH; simp
theorem nu (n:Nat):xH (n+1)=xH n++[[ints [(n:Int)]]]:=by unfold xH; rw[baS,a8G]; rfl
theorem Ee (f:aE):lay (fB f 5)=.sl 1 (xH f.a5V.length):=by
 rw[Ef];unfold xH;show PV.sl 1 (List.map _ (List.map _ _))=_;rw[List.map_map];rfl
theorem Xm (f:aE) (lv:Int):oE f lv 0=a7K (eE f lv f.a5Y.length) []:=by
 unfold oE eE;rw[List.countP_eq_length_filter];refine baO (by simp[BA]) fun i c d=>?_;simp[nA,bK]
theorem p5 (f:aE) (lv:Int) (d:Nat):(oE f lv d).length=(BA f lv).length:=by unfold oE; simp
def unB (f:aE) (lv:Int) (c:Nat) (d:PV) (k:Nat):PF:=(((((((PF.nil.set 1 (.int .i64 lv)).set 2 (.bH f.cells)).set 5 (d)).set 7 (.osl c 1 0 f.a5Y.length)).set 33 (.sl 7 (f.a5Y.map cD.cells))).set 34 (.int .i64 (f.a5Y.length:Nat))).set 35 (.int .i64 k))
def unC (f:aE) (lv:Int) (c:Nat) (e:PV) (d:Nat):PF:=(((((((PF.nil.set 1 (.int .i64 lv)).set 2 (.bH f.cells)).set 5 (e)).set 7 (.osl c 1 0 f.a5Y.length)).set 54 (.sl 3 (f.a5V.map dH.cells))).set 55 (.int .i64 (f.a5V.length:Nat))).set 56 (.int .i64 d))
def unE (f:aE) (lv:Int) (c:Nat) (e:PV) (d at_:Nat):PF:=(((((((((PF.nil.set 1 (.int .i64 lv)).set 2 (.bH f.cells)).set 5 (e)).set 7 (.osl c 1 0 f.a5Y.length)).set 54 (.sl 3 (f.a5V.map dH.cells))).set 55 (.int .i64 (f.a5V.length:Nat))).set 56 (.int .i64 d)).set 10 (.int .i64 d)).set 12 (.int .i64 at_))
theorem arT {C:Ctx} {K:bR} [Up K] (f:aE) (hV:VF f) (lv:Int) (M:1≤lv) (N:lv≤4) (x:Nat) (A:PV) (d:Nat) (J:d<f.a5V.length) {F:PF} {H:PH}
  (E:(unE f lv x A d (dK f d)).le F) (B:K (.exit 6) (unE f lv x A d (cO f d lv)) H):aC.wp C (.loop wN) K F H:=by
 refine wp_loop (α:=Nat) (fun j=>unE f lv x A d (upN f j (dK f d))) (fun _=>H) (fun j=>(j:Int)≤4-lv) (fun j=>4-j) 0 Om (by rw[upN]; exact E) b_ ?_;intro j O;obtain⟨l,y⟩:=GJ hV J (k:=j) Om;have p:((upN f j (dK f d):Nat):Int)<(f.a5Y.length:Nat):=Om;by_cases c:(j:Int)<4-lv
 ·have i:4-(j:Int)>lv:=Om;have u:0<upN f j (dK f d):=by
   rcases a9Q (upN f j (dK f d)) with e | e
   ·rw[e,hV.root.2.1] at y; omega
   ·exact e
  have w:upN f (j+1) (dK f d)=KG f (upN f j (dK f d)):=rfl;have q:=hV.wc u l;simp only[go_sem,wN,HD,unE,p,fG l,sV l,y,i,ix,mi l,q];exact aD (j+1) Om Om (by (repeat' (first|exact c_|refine d_ ?_ ?_))<;>first|(simp only[go_sem,w]<;>rfl)|rfl) b_
 ·have i:¬ 4-(j:Int)>lv:=Om;have e:cO f d lv=upN f j (dK f d):=by rw[cO,show 4-lv.toNat=j by omega]
  rw[e] at B;simp only[go_sem,wN,HD,unE,p,fG l,sV l,y,i];refine Up.up ?_ B;unfold unE;exact Lq
theorem arR {C:Ctx} (f:aE) (hV:VF f) (lv:Int) (h1:1≤lv) (h5:lv≤5) :
  CN.wp C (aV Ju.res (bY (lay (fB f lv)))) (PF.args [.agg f.cells,.int .i64 lv]) .nil:=by
 have Z:=hV.small;have hd:=Z.a5V;have μ:=Z.a5Y;simp only[go_sem,CN,yo,yq,yr,Ju];by_cases c5:lv=5
 ·subst c5;rw[Ee];simp only[go_sem,bL (show (5:Int)=5 from rfl),yu,a7G];refine wp_loop (α:=Nat × PV × PH) (fun s=>(((PF.nil.set 5 (s.2.1)).set 17 (.int .i64 (f.a5V.length:Nat))).set 18 (.int .i64 s.1))) (fun s=>s.2.2) (fun s=>s.1≤f.a5V.length∧bQ s.2.2 1 s.2.1 (xH s.1)) (fun s=>f.a5V.length-s.1) (0,.aB,.nil) ⟨a7N _,.nil⟩ Lq b_ ?_;rintro⟨k,v,H⟩ ⟨hk,hO⟩;simp only at hk hO;simp only[go_sem,yn,yv];by_cases hlt:k<f.a5V.length
  ·have e:(k:Int)<(f.a5V.length:Nat):=Om;simp only[go_sem,e,yw,yx];refine fI (src:=[[ints [(k:Int)]]]) hO (by simp only[go_sem]; rfl) (by unfold roomFor; rw[Cq]; simp only[a7S,maxLen]; omega) fun v' H' V _=>?_;rw[← nu] at V;simp only[go_sem,yy,wZz k];exact aD (k+1,v',H') ⟨hlt,V⟩ (by simp only; omega) Lq b_
  ·have e:¬ (k:Int)<(f.a5V.length:Nat):=Om;have:k=f.a5V.length:=Om;subst this;simp only[go_sem,e,yz];exact qL (.inr rfl) hO Sq
 have h4:lv≤4:=Om;rw[du f c5];have δ:(f.a5Y.length:Int)*((8:Nat):Int)≤140737488355328:=Om;have ε:(f.a5Y.length:Int)≤9223372036854775807:=Om;have ζ:(0:Int)≤(f.a5Y.length:Int):=Om;simp only[go_sem,bF c5,ij,a7G,δ,ε,ζ,Int.le_refl,a9A];refine aR fun A hP=>?_;have ez:a7K f.a5Y.length [PV.int .i64 0]=aY (fF f lv 0):=by rw[Wt,WG]
 rw[ez];have U:aN (PH.nil.set A (.rows 1 (aY (fF f lv 0)))) [(A,.rows 1 (aY (fF f lv 0)))] (dO .aB []):=((aN.nil (H:=PH.nil)).new hP _).sY;simp only[go_sem,ik,a7G];refine wp_loop (α:=Nat × PV × WPs × PH) (fun s=>unB f lv A s.2.1 s.1) (fun s=>s.2.2.2) (fun s=>s.1≤f.a5Y.length∧wls s.2.2.1=a7K (eE f lv s.1) []∧aN s.2.2.2 [(A,.rows 1 (aY (fF f lv s.1)))] (dO s.2.1 s.2.2.1)) (fun s=>f.a5Y.length-s.1) (0,.aB,[],_) ⟨a7N _,rfl,U⟩ (by unfold unB; exact Lq) b_ ?_;clear U ez hP;rintro⟨i,vo,ps,H⟩ ⟨hi,l,p⟩;simp only at hi l p;simp only[go_sem,ig,im,unB];by_cases hlt:i<f.a5Y.length
 ·have e:(i:Int)<(f.a5Y.length:Nat):=Om;have ι:ps.length=eE f lv i:=by have:=congrArg List.length l;rw[uP,List.length_replicate] at this;exact this
  have Q:=aBS f lv i;simp only[go_sem,e,io,fG hlt];refine aR fun q R=>?_;have E:=p.at 0 rfl;have n1:¬ A=q:=by rintro rfl; rw[E] at R; cases R
  have M:=fun x=>p.new R x;simp only[go_sem,ip,sV hlt];by_cases c:lvl f i=lv
  ·have X:=p.aQT;have B:=Cf (f:=f) (lv:=lv) (k:=i) hlt;have y:(aY (fF f lv i))[i]?=some [.int .i64 (if i<i∧lvl f i=lv then ((eE f lv i:Nat):Int) else 0)]:=by unfold aY; rw[a8F,B]; rfl
   have θ:i<(aY (fF f lv i)).length:=by rw[dC,amZ]; exact hlt
   have S:(aY (fF f lv i)).set i [.int .i64 (ps.length:Nat)]=aY (fF f lv (i+1)):=by rw[Af,ι,amY c]
   have h3:=fun x=>(M x).set 0 rfl (.rows 1 (aY (fF f lv (i+1))));simp only[go_sem,bL c,iq,X,e,n1,E,y,θ,a8E,S,ir];refine (h3 _).aQN Sq (by unfold roomFor; simp only[maxLen]; omega) fun q2 H2 h4=>?_;simp only[go_sem,HC,wZz i];refine aD (i+1,PV.osl q2 1 0 (ps.length+1),ps++[(PV.aB,[])],H2) ⟨hlt,?_,h4.sM 1⟩ (by simp only; omega) Lq b_;simp only;rw[apZ c,List.replicate_succ'];unfold wls at l ⊢;rw[a8G,l]; rfl
  ·have S:fF f lv i=fF f lv (i+1):=Ws c;simp only[go_sem,bF c,HC,wZz i];refine aD (i+1,vo,ps,_) ⟨hlt,?_,?_⟩ (by simp only; omega) Lq b_
   ·simp only; rw[Xn c]; exact l
   ·simp only; rw[← S]; exact (M _).sM 1
 have e:¬ (i:Int)<(f.a5Y.length:Nat):=Om;have:i=f.a5Y.length:=Om;subst this;rw[← Xm] at l;simp only[go_sem,e,it,a7G];refine wp_loop (α:=Nat × PV × WPs × PH) (fun s=>unC f lv A s.2.1 s.1) (fun s=>s.2.2.2) (fun s=>s.1≤f.a5V.length∧wls s.2.2.1=oE f lv s.1∧aN s.2.2.2 [(A,.rows 1 (aY (fF f lv f.a5Y.length)))] (dO s.2.1 s.2.2.1)) (fun s=>f.a5V.length-s.1) (0,vo,ps,H) ⟨a7N _,l,p⟩ (by unfold unC; exact Lq) b_ ?_;clear l p hi hlt e;rintro⟨d,vo,ps,H⟩ ⟨η,l,p⟩;simp only at η l p;simp only[go_sem,ii,iu,unC];by_cases hlt:d<f.a5V.length
 ·have e:(d:Int)<(f.a5V.length:Nat):=Om;simp only[go_sem,e,iv,pH hlt];refine aR fun q R=>?_;have E:=p.at 0 rfl;have n1:¬ A=q:=by rintro rfl; rw[E] at R; cases R
  have M:=fun x=>(p.new R x).sM 1;simp only[go_sem,iw,hV.u6 hlt];generalize hx:cG.rows 3 _=x;have M:=M x;have N:=M.at 0 rfl;generalize H.set q x=H1 at *
  have up:=fun {K:bR} [Up K] {F:PF} {H:PH}=>arT (C:=C) (K:=K) f hV lv h1 h4 A vo d hlt (F:=F) (H:=H);refine up (by unfold unE; exact Lq) ?_;obtain⟨a1,a2⟩:=GJ hV hlt (k:=4-lv.toNat) Om;have a3:lvl f (cO f d lv)=lv:=by rw[cO,a2]; omega
  have a1:cO f d lv<f.a5Y.length:=a1;have γ:((cO f d lv:Nat):Int)<(f.a5Y.length:Nat):=Om;have B:=Cf (f:=f) (lv:=lv) (k:=f.a5Y.length) a1;rw[if_pos ⟨a1,a3⟩] at B;have y:(aY (fF f lv f.a5Y.length))[cO f d lv]?=some [.int .i64 (eE f lv (cO f d lv):Nat)]:=by unfold aY; rw[a8F,B]; rfl
  have J:eE f lv (cO f d lv)<ps.length:=by have:=(a8P.1 (agF a1 a3)).1;rw[← uP,l,p5];exact this
  have O:=fun v'=>aMR (ps:=ps) a1 a3 l (a7U J) v';have Q:ps[eE f lv (cO f d lv)]?=some (ps[eE f lv (cO f d lv)].1,ps[eE f lv (cO f d lv)].2):=by rw[a7U J]
  have ν:ps[eE f lv (cO f d lv)]=(ps[eE f lv (cO f d lv)].1,ps[eE f lv (cO f d lv)].2):=rfl;obtain⟨qo,rs,rfl,b1,b2,b3⟩:=M.aVX J;generalize ps[eE f lv (cO f d lv)].2=w at *
  generalize ps[eE f lv (cO f d lv)].1=v at *
  generalize eE f lv (cO f d lv)=u at *
  have β:(u:Int)<(ps.length:Nat):=Om;have ξ:=(O .aB).1;simp only[go_sem,unE];refine bW (PH.nil.set A (.rows 1 (aY (fF f lv f.a5Y.length)))) eT (PH.aK a_ N) ?_;simp only[go_sem,iy,γ,N,y,a8E,β,b1,b2,b3];refine M.a0B (src:=[(d:Int)]) Q (by simp only[go_sem]; rfl) (by unfold roomFor; simp only[a7S,maxLen]; omega) (by simp) fun q2 H2 h5=>?_;have Y:=h5.at 0 rfl;refine⟨PH.aK a_ Y,?_⟩;obtain⟨rs2,e1,e2,e3,h6⟩:=h5.aWU;have κ:u<rs2.length:=Om;have W:rs2[u]?=some [v]:=by have:=Q6 Q;rw[← e3,List.getElem?_take_of_lt J] at this;exact this
  refine bW .nil eT a_ ?_;simp only[go_sem,iz,e1,κ,W,i0,wZz d];refine⟨a_,?_⟩;refine aD (d+1,PV.osl qo 1 0 ps.length,ps.set u (PV.osl q2 1 0 (w++[(d:Int)]).length,w++[(d:Int)]),H2.set qo (.rows 1 (rs2.set u [.osl q2 1 0 (w++[(d:Int)]).length]))) ⟨hlt,(O _).2,h6⟩ (by simp only; omega) Lq (by simp only; exact b_)
 ·have e:¬ (d:Int)<(f.a5V.length:Nat):=Om;have:d=f.a5V.length:=Om;subst this;simp only[go_sem,e,i4];rw[← l];exact KR (.inr rfl) Sq (p.sM 0)
def Jl:List aU:=[
 ⟨(some 2),.box true (.tmp 0),none⟩,
 ⟨(some 3),.box true (.tmp 1),none⟩,
 ⟨(some 4),.mv (.const .aB),none⟩]
def Jm:List aU:=[
 ⟨(some 5),.alloc [.aB],none⟩]
def Jn:List aU:=[
 ⟨(some 7),.a6Y 1 (.tmp 3),none⟩,
 ⟨(some 8),.load none (.tmp 7),none⟩,
 ⟨(some 9),.a6Y 2 (.tmp 3),none⟩,
 ⟨(some 10),.load none (.tmp 9),none⟩,
 ⟨(some 11),.bin .add (.tmp 8) (.tmp 10),none⟩,
 ⟨(some 12),.a6Y 4 (.tmp 2),none⟩,
 ⟨(some 13),.load none (.tmp 12),none⟩,
 ⟨(some 14),.len (.tmp 13),none⟩,
 ⟨(some 15),.call 210 [(.tmp 11),(.tmp 14)],none⟩]
def Jo:List aU:=[
 ⟨(some 6),.mv (.tmp 16),none⟩]
def Jp:List aU:=[
 ⟨(some 17),.load (some 7) (.tmp 2),none⟩,
 ⟨(some 18),.load (some 17) (.tmp 3),none⟩,
 ⟨(some 19),.mv (.tmp 6),none⟩,
 ⟨(some 20),.call 201 [(.tmp 17),(.tmp 18),(.tmp 19)],none⟩]
def Jq:List aU:=[
 ⟨(some 21),.load none (.tmp 5),none⟩,
 ⟨(some 22),.mv (.tmp 6),none⟩,
 ⟨(some 23),.a6B true 1 1 [.aB] [(0,(.tmp 22))],none⟩,
 ⟨(some 24),.append 1 24 (.tmp 21) (.tmp 23),none⟩,
 ⟨none,.store 1 (.tmp 5) (.tmp 24),none⟩]
def Jr:List aU:=[
 ⟨(some 25),.load none (.tmp 5),none⟩,
 ⟨(some 4),.mv (.tmp 25),none⟩]
def yl:aC:=(.region Jo)
def ym:aC:=(.block 1 (.seq (.region Jp) (.cond (.tmp 20) (.region Jq) .skip)))
def ie:aC:=(.seq (.region Jr) .ret)
def HA (c d:Code):pT:=(.seq (.region Jl) (.seq (.region Jm) (.seq (.region Jn) (.range (.tmp 15) 26 16 c d yl ym ie))))
def aEJ:List Nat:=[2,3,23]
def ajQ (c d:Code):yU:=⟨2,26,HA c d,[.tmp 4]⟩
def Jd:List aU:=[
 ⟨(some 2),.box true (.tmp 0),none⟩,
 ⟨(some 3),.box true (.tmp 1),none⟩,
 ⟨(some 4),.mv (.const .aB),none⟩,
 ⟨(some 5),.mv (.const (.int .i64 0)),none⟩]
def Je:List aU:=[
 ⟨(some 17),.load (some 7) (.tmp 2),none⟩,
 ⟨(some 18),.call 96 [(.tmp 17)],none⟩,
 ⟨(some 19),.bin .neq (.tmp 18) (.const (.int .i64 0)),none⟩,
 ⟨(some 20),.mv (.tmp 19),none⟩,
 ⟨(some 21),.a6Y 0 (.tmp 3),(some (20,false))⟩,
 ⟨(some 22),.load none (.tmp 21),(some (20,false))⟩,
 ⟨(some 23),.bin .lss (.tmp 22) (.const (.int .i64 1)),(some (20,false))⟩,
 ⟨(some 24),.pick (.tmp 20) (.const (.bool true)) (.tmp 23),none⟩,
 ⟨(some 25),.mv (.tmp 24),none⟩,
 ⟨(some 26),.a6Y 0 (.tmp 3),(some (25,false))⟩,
 ⟨(some 27),.load none (.tmp 26),(some (25,false))⟩,
 ⟨(some 28),.bin .gtr (.tmp 27) (.const (.int .i64 5)),(some (25,false))⟩,
 ⟨(some 29),.pick (.tmp 25) (.const (.bool true)) (.tmp 28),none⟩,
 ⟨(some 30),.mv (.tmp 29),none⟩,
 ⟨(some 31),.a6Y 1 (.tmp 3),(some (30,false))⟩,
 ⟨(some 32),.load none (.tmp 31),(some (30,false))⟩,
 ⟨(some 33),.bin .lss (.tmp 32) (.const (.int .i64 1)),(some (30,false))⟩,
 ⟨(some 34),.pick (.tmp 30) (.const (.bool true)) (.tmp 33),none⟩,
 ⟨(some 35),.mv (.tmp 34),none⟩,
 ⟨(some 36),.a6Y 1 (.tmp 3),(some (35,false))⟩,
 ⟨(some 37),.load none (.tmp 36),(some (35,false))⟩,
 ⟨(some 38),.bin .gtr (.tmp 37) (.const (.int .i64 3)),(some (35,false))⟩,
 ⟨(some 39),.pick (.tmp 35) (.const (.bool true)) (.tmp 38),none⟩]
def tW:List aU:=[
 ⟨(some 4),.mv (.const .aB),none⟩,
 ⟨(some 5),.mv (.const (.int .i64 1)),none⟩]
def Jf:List aU:=[
 ⟨(some 40),.load (some 7) (.tmp 2),none⟩,
 ⟨(some 41),.a6Y 0 (.tmp 3),none⟩,
 ⟨(some 42),.load none (.tmp 41),none⟩,
 ⟨(some 43),.call 206 [(.tmp 40),(.tmp 42)],none⟩,
 ⟨(some 6),.alloc [.aB],none⟩,
 ⟨none,.store 1 (.tmp 6) (.tmp 43),none⟩]
def Jg:List aU:=[
 ⟨(some 44),.a6Y 4 (.tmp 2),none⟩,
 ⟨(some 45),.load none (.tmp 44),none⟩,
 ⟨(some 46),.len (.tmp 45),none⟩,
 ⟨(some 47),.bin .gtr (.tmp 46) (.const (.int .i64 12)),none⟩,
 ⟨(some 48),.mv (.tmp 47),none⟩,
 ⟨(some 49),.load none (.tmp 6),(some (48,false))⟩,
 ⟨(some 50),.len (.tmp 49),(some (48,false))⟩,
 ⟨(some 51),.a6Y 1 (.tmp 3),(some (48,false))⟩,
 ⟨(some 52),.load none (.tmp 51),(some (48,false))⟩,
 ⟨(some 53),.call 207 [(.tmp 50),(.tmp 52)],(some (48,false))⟩,
 ⟨(some 54),.bin .gtr (.tmp 53) (.const (.int .i64 512)),(some (48,false))⟩,
 ⟨(some 55),.pick (.tmp 48) (.const (.bool true)) (.tmp 54),none⟩]
def ZJ:List aU:=[
 ⟨(some 4),.mv (.const .aB),none⟩,
 ⟨(some 5),.mv (.const (.int .i64 2)),none⟩]
def Jh:List aU:=[
 ⟨(some 7),.alloc [.aB],none⟩]
def Ji:List aU:=[
 ⟨(some 56),.a6Y 1 (.tmp 3),none⟩,
 ⟨(some 57),.load none (.tmp 56),none⟩,
 ⟨(some 58),.load none (.tmp 6),none⟩,
 ⟨(some 59),.len (.tmp 58),none⟩,
 ⟨(some 60),.call 210 [(.tmp 57),(.tmp 59)],none⟩]
def Jj:List aU:=[
 ⟨(some 8),.mv (.tmp 61),none⟩]
def Jk:List aU:=[
 ⟨(some 62),.a6Y 4 (.tmp 2),none⟩,
 ⟨(some 63),.load none (.tmp 62),none⟩,
 ⟨(some 64),.len (.tmp 63),none⟩,
 ⟨(some 65),.a6D 1 1 [(.bool false)] (.tmp 64) (.tmp 64),none⟩,
 ⟨(some 9),.mv (.tmp 65),none⟩]
def x7:List aU:=[
 ⟨(some 66),.mv (.tmp 8),none⟩,
 ⟨(some 67),.len (.tmp 66),none⟩,
 ⟨(some 68),.mv (.const (.int .i64 0)),none⟩]
def x8:List aU:=[
 ⟨(some 69),.bin .lss (.tmp 68) (.tmp 67),none⟩]
def x9:List aU:=[
 ⟨(some 70),.a6M 1 (.tmp 66) (.tmp 68),none⟩,
 ⟨(some 71),.load none (.tmp 70),none⟩,
 ⟨(some 11),.mv (.tmp 71),none⟩]
def ya:List aU:=[
 ⟨(some 72),.load none (.tmp 6),none⟩,
 ⟨(some 73),.mv (.tmp 11),none⟩,
 ⟨(some 74),.a6M 1 (.tmp 72) (.tmp 73),none⟩,
 ⟨(some 75),.load none (.tmp 74),none⟩,
 ⟨(some 76),.len (.tmp 75),none⟩,
 ⟨(some 77),.mv (.const (.int .i64 0)),none⟩]
def yb:List aU:=[
 ⟨(some 78),.bin .lss (.tmp 77) (.tmp 76),none⟩]
def yc:List aU:=[
 ⟨(some 79),.a6M 1 (.tmp 75) (.tmp 77),none⟩,
 ⟨(some 80),.load none (.tmp 79),none⟩,
 ⟨(some 13),.mv (.tmp 80),none⟩]
def yd:List aU:=[
 ⟨(some 81),.mv (.tmp 9),none⟩,
 ⟨(some 82),.mv (.tmp 13),none⟩,
 ⟨(some 83),.a6M 1 (.tmp 81) (.tmp 82),none⟩,
 ⟨none,.store 1 (.tmp 83) (.const (.bool true)),none⟩]
def ye:List aU:=[
 ⟨(some 84),.bin .add (.tmp 77) (.const (.int .i64 1)),none⟩,
 ⟨(some 77),.mv (.tmp 84),none⟩]
def OW:aC:=(.seq (.region yb) (.seq (.cond (.tmp 78) .skip (.exit 4)) (.seq (.block 5 (.seq (.region yc) (.region yd))) (.region ye))))
def yf:List aU:=[
 ⟨(some 85),.bin .add (.tmp 68) (.const (.int .i64 1)),none⟩,
 ⟨(some 68),.mv (.tmp 85),none⟩]
def OX:aC:=(.seq (.region x8) (.seq (.cond (.tmp 69) .skip (.exit 2)) (.seq (.block 3 (.seq (.region x9) (.seq (.region ya) (.block 4 (.loop OW))))) (.region yf))))
def yg:List aU:=[
 ⟨(some 14),.mv (.const .aB),none⟩]
def yh:List aU:=[
 ⟨(some 86),.mv (.tmp 9),none⟩,
 ⟨(some 87),.len (.tmp 86),none⟩,
 ⟨(some 88),.mv (.const (.int .i64 0)),none⟩]
def yi:List aU:=[
 ⟨(some 89),.bin .lss (.tmp 88) (.tmp 87),none⟩]
def OZ:List aU:=[
 ⟨(some 90),.mv (.tmp 88),none⟩,
 ⟨(some 91),.a6M 1 (.tmp 86) (.tmp 88),none⟩,
 ⟨(some 92),.load none (.tmp 91),none⟩,
 ⟨(some 15),.mv (.tmp 90),none⟩,
 ⟨(some 16),.mv (.tmp 92),none⟩]
def PA:List aU:=[
 ⟨(some 93),.mv (.tmp 16),none⟩]
def yj:List aU:=[
 ⟨(some 94),.mv (.tmp 14),none⟩,
 ⟨(some 95),.mv (.tmp 15),none⟩,
 ⟨(some 96),.a6B true 1 1 [(.int .i64 0)] [(0,(.tmp 95))],none⟩,
 ⟨(some 97),.append 1 8 (.tmp 94) (.tmp 96),none⟩,
 ⟨(some 14),.mv (.tmp 97),none⟩]
def PB:List aU:=[
 ⟨(some 98),.bin .add (.tmp 88) (.const (.int .i64 1)),none⟩,
 ⟨(some 88),.mv (.tmp 98),none⟩]
def OY:aC:=(.seq (.region yi) (.seq (.cond (.tmp 89) .skip (.exit 6)) (.seq (.block 7 (.seq (.region OZ) (.seq (.region PA) (.cond (.tmp 93) (.region yj) .skip)))) (.region PB))))
def PC:List aU:=[
 ⟨(some 99),.load none (.tmp 7),none⟩,
 ⟨(some 100),.mv (.tmp 14),none⟩,
 ⟨(some 101),.a6B true 1 1 [.aB] [(0,(.tmp 100))],none⟩,
 ⟨(some 102),.append 1 24 (.tmp 99) (.tmp 101),none⟩,
 ⟨none,.store 1 (.tmp 7) (.tmp 102),none⟩]
def yk:List aU:=[
 ⟨(some 103),.load none (.tmp 7),none⟩,
 ⟨(some 4),.mv (.tmp 103),none⟩,
 ⟨(some 5),.mv (.const (.int .i64 0)),none⟩]
def OU:aC:=(.region Jj)
def OV:aC:=(.block 1 (.seq (.region Jk) (.seq (.seq (.region x7) (.block 2 (.loop OX))) (.seq (.region yg) (.seq (.seq (.region yh) (.block 6 (.loop OY))) (.region PC))))))
def ic:aC:=(.seq (.region yk) .ret)
def GZ (c d:Code):pT:=(.seq (.region Jd) (.seq (.seq (.region Je) (.cond (.tmp 39) (.seq (.region tW) .ret) .skip)) (.seq (.region Jf) (.seq (.seq (.region Jg) (.cond (.tmp 55) (.seq (.region ZJ) .ret) .skip)) (.seq (.region Jh) (.seq (.region Ji) (.range (.tmp 60) 104 61 c d OU OV ic)))))))
def aEH:List Nat:=[2,3,96,101]
def ajP (c d:Code):yU:=⟨2,104,GZ c d,[.tmp 4,.tmp 5]⟩
theorem atC {C:Ctx} {H:PH} {name:Nat} {pre:List PV} {v u:PV} {l:List Int} (w:Plain u) (p:∀ x∈pre,Fx x) (i:bQ H 1 v (aY l)) (c:l≠[]) (h:aH C name (pre++[ints l]) .nil (aF u)) :
  ∃ q,v=.osl q 1 0 l.length∧(∃ x,H q=some x)∧aH C name (pre++[v]) (H.only [q]) (fun r H'=>r=u∧H'=H.only [q]):=by
 rcases i with ⟨d,-⟩ | ⟨q,rs,rfl,h1,h2,h3⟩
 ·exact absurd (List.map_eq_nil_iff.1 d) c
 ·rw[dC] at h2 h3 ⊢;refine⟨q,rfl,⟨_,h1⟩,?_⟩;rw[cz h1];refine aH.aGB w ?_;have e:pre.map (PV.frz q 1 rs)=pre:=by
   conv=>rhs; rw[← List.map_id pre]
   exact bbB fun x y=>p x y q 1 rs
  rw[a8G,e,a8U,a9P,tZ h2,h3];exact h
theorem yH {α:Type} (L:List α) (x:α) (n:Nat) (h:L.length=n):(L++[x])[n]?=some x:=by
 subst h; simp
theorem BN (c:PV) (ps:WPs):(dO c ps).length=ps.length+1:=by unfold dO mN; simp
structure aUR (f:aE) (now:List (List Int)) (r:Int) (d:Nat) (ps:WPs):Prop where
 eq:wls ps=qw f now r d
 num:ps.length≤d
 len:∀ i (h:i<ps.length),1≤(ps[i].2).length∧(ps[i].2).length≤d
theorem aUR.of {f:aE} {c:List (List Int)} {r:Int} (q:arC f c r=true) {d:Nat} (u:d≤f.a5V.length) {ps:WPs} (h:wls ps=qw f c r d):aUR f c r d ps:=by
 have k:=Fi q d u;rw[← h] at k;have e:∀ i (h:i<ps.length),ps[i].2∈wls ps:=fun i hi=>a8J.2 ⟨ps[i],a7J hi,rfl⟩;have ne:∀ l∈wls ps,1≤l.length:=fun l y=>by
  have:=k.ok l y;unfold TY at this;cases l with
  | nil=>cases this
  | cons x xs=>rw[a8Y]; omega
 refine⟨h,?_,fun i hi=>⟨ne _ (e i hi),?_⟩⟩
 ·have p:(wls ps).length≤(wls ps).flatten.length:=by
   generalize wls ps=w at ne
   induction w with
   | nil=>exact a7M _
   | cons l w B =>have:=B fun x A=>ne x (List.mem_cons_of_mem _ A);have:=ne l (by simp);rw[List.flatten_cons,a7O,a8Y];omega
  rw[uP,k.len] at p;exact p
 ·have:=(List.sublist_flatten_of_mem (e i hi)).length_le;rw[k.len] at this;exact this
def aUP (n top:Int) (r:PV) (H':PH):Prop:=∃ o1 o2,o1≠o2∧r=.fn 211 [.ptr o1 1 0 0,.ptr o2 1 0 0]∧H'=(PH.nil.set o1 (.rows 1 [[.int .i64 n]])).set o2 (.rows 1 [[.int .i64 top]])
theorem aEK {C:Ctx} (n top:Int):HB.wp C (aV ajR.res (aUP n top)) (PF.args [.int .i64 n,.int .i64 top]) .nil:=by
 simp only[go_sem,HB,Js,ajR];refine aR fun o1 e=>?_;simp only[go_sem];refine aR fun o2 c=>?_;have d:o1≠o2:=by rintro rfl; simp only[cP] at c; cases c
 simp only[go_sem,Jt];exact bA (.inr rfl) _ (vs:=[.fn 211 [.ptr o1 1 0 0,.ptr o2 1 0 0]]) Sq b_ ⟨o1,o2,d,rfl,rfl⟩
structure fg (C:Ctx):Prop extends aiL C where
 subs:∀ n top:Int,aH C 210 [.int .i64 n,.int .i64 top] .nil (aUP n top)
 iter:∀ (l o1 o2 n top:Nat) (J:Nat→PH→Prop) (ss:List (List Nat)),ss=cQ top n 0→1≤n→n≤1000→top≤1000 →
  (∀ k (hk:k<ss.length) G c,J k G→G c=none→FG C l [.osl c 1 0 n] (G.set c (.rows 1 (aY (bK ss[k])))) (fun r H'=>r=.bool true∧J (k+1) H')) →
  ∀ G0 H:PH,J 0 G0→G0.le H→H o1=some (.rows 1 [[.int .i64 n]])→H o2=some (.rows 1 [[.int .i64 top]])→G0 o1=none→G0 o2=none→aH C 211 [wD l,.ptr o1 1 0 0,.ptr o2 1 0 0] H (fun _ H'=>∃ G,J ss.length G∧G.le H')
theorem j4 {C:Ctx} (Lb:fg C) {F:PF} {H:PH} {n m t o1 o2 top:Nat} {d i:Code} {O Q:aC} {A:List (List Nat)} (X:A=cQ top n 0) (h1:1≤n) (hn:n≤1000) (ht:top≤1000) (α:o1≠o2)
  (I:Nat→PH→Prop) (u:PH) (hI:I 0 u) (N:u.le H) (b1:H o1=some (.rows 1 [[.int .i64 n]])) (b2:H o2=some (.rows 1 [[.int .i64 top]])) (g1:u o1=none) (g2:u o2=none)
  (hY:∀ (l:Nat) (x:PV) (J:PH) (Y:PH→Prop),J l=none→O.wp C (gE C (Q.wp C) (BC Y)) (F.set t x) J→FG C l [x] (J.set l (.loop F m t d i)) (fun r H'=>r=.bool true∧∃ H2,Y H2∧H2 l=none∧H'=H2.set l (.loop F m t d i)))
  (hb:∀ k (Z:k<A.length) G c,I k G→G c=none→O.wp C (gE C (Q.wp C) (BC (I (k+1)))) (F.set t (.osl c 1 0 n)) (G.set c (.rows 1 (aY (bK A[k]))))) :
  Id C 211 [.ptr o1 1 0 0,.ptr o2 1 0 0] F H m t d i (I A.length):=by
 intro l R;have E:u l=none:=by
  cases h:u l with
  | none=>rfl
  | some x=>rw[N l x h] at R; cases R
 have n1:¬ o1=l:=fun e=>by rw[e,R] at b1; cases b1
 have n2:¬ o2=l:=fun e=>by rw[e,R] at b2; cases b2
 refine (Lb.iter l o1 o2 n top (fun k G=>∃ p,I k p∧p l=none∧G=p.set l (.loop F m t d i)) A X h1 hn ht ?_ (u.set l (.loop F m t d i)) (H.set l (.loop F m t d i)) ⟨u,hI,E,rfl⟩ ?_ ?_ ?_ ?_ ?_).post ?_
 ·rintro k Z G c ⟨p,B,q,rfl⟩ U;have K:¬ c=l:=fun e=>by rw[e,cP] at U; cases U
  have M:¬ l=c:=fun e=>K e.symm;have V:p c=none:=by rwa [aT,if_neg K] at U
  have:=hY l (.osl c 1 0 n) (p.set c (.rows 1 (aY (bK A[k])))) (I (k+1)) (by rw[aT,if_neg M]; exact q) (hb k Z p c B V);have e:(p.set c (.rows 1 (aY (bK A[k])))).set l (.loop F m t d i)=(p.set l (.loop F m t d i)).set c (.rows 1 (aY (bK A[k]))):=by
   refine PH.ext fun o=>?_;simp only[aT];by_cases S:o=l
   ·subst S; rw[if_pos rfl,if_neg M,if_pos rfl]
   ·rw[if_neg S,if_neg S]
  rw[e] at this;exact this
 ·intro o x y;rw[aT] at y ⊢;split at y
  ·rename_i e; rw[if_pos e]; exact y
  ·rename_i e; rw[if_neg e]; exact N o x y
 ·rw[aT,if_neg n1]; exact b1
 ·rw[aT,if_neg n2]; exact b2
 ·rw[aT,if_neg n1]; exact g1
 ·rw[aT,if_neg n2]; exact g2
 ·rintro r H' ⟨G,⟨p,B,q,rfl⟩,w⟩;have W:H' l=some (.loop F m t d i):=w l _ (by rw[cP]);exact⟨r,.refl _,p,B,(fun o x y=>w o x (by
   have:¬ o=l:=fun e=>by rw[e,q] at y; cases y
   rw[aT,if_neg this]; exact y)),q,W⟩
def aNN (d:Nat) (e:List (List Int)) (G:PH):Prop:=∃ c ps,aN G [(d,.rows 1 [[c]])] (dO c ps)∧wls ps=e
theorem aEI {C:Ctx} (Lb:fg C) (J K:Code) (f:aE) (hV:VF f) (hd:f.a5V.length≤12) (p:bS) (hp:∀ m∈p.a5W,0≤m∧m<f.a5W.length) (S:Fits p.a5W) (hk:1≤p.k) (ν:p.k≤6) (hm:0≤p.m) (ξ:p.m≤4) :
  (HA J K).wp C (aV (ajQ J K).res (bY (lay (oV f p)))) (PF.args [.agg f.cells,.agg p.cells]) .nil:=by
 obtain⟨n,hn⟩:∃ n:Nat,(n:Int)=gP p:=⟨(p.k+p.m).toNat,by unfold gP; omega⟩;have β:1≤n∧n≤10:=by unfold gP at hn; omega
 have hw:IntKind.i64.wrap (p.k+p.m)=(n:Int):=by rw[hn]; exact wrap_i64 Om Om
 simp only[go_sem,HA,pT.wp,Jl,Jm,ajQ];refine aR fun B γ=>?_;simp only[go_sem,Jn,hw,a7G];refine kU (Lb.subs n f.a5V.length) Sq a_ ?_;rintro r H' ⟨o1,o2,l,rfl,rfl⟩ R;have W:¬ B=o1:=fun e=>by have:=R o1 _ (by rw[aT,if_neg l,cP]) rfl;rw[← e,cP] at this; cases this
 have X:¬ B=o2:=fun e=>by have:=R o2 _ (by rw[cP]) rfl;rw[← e,cP] at this; cases this
 have κ:¬ o2=o1:=fun e=>l e.symm;simp only[go_sem];generalize N:PF.set _ 15 _=F;have f2:F 2=some (.bH f.cells):=by rw[← N]; simp only[go_sem]
 have f3:F 3=some (.bH p.cells):=by rw[← N]; simp only[go_sem]
 have f5:F 5=some (.ptr B 1 0 0):=by rw[← N]; simp only[go_sem]
 have μ:F 15=some (.fn 211 [.ptr o1 1 0 0,.ptr o2 1 0 0]):=by rw[← N]; simp only[go_sem]
 clear N;have ε:cQ f.a5V.length n 0=cQ f.a5V.length (gP p).toNat 0:=by rw[← hn]; rfl
 have Q:=nT f.a5V.length n 0;have hE:oV f p=((cQ f.a5V.length n 0).map bK).filter (lO f p):=by rw[ε]; rfl
 refine⟨211,[.ptr o1 1 0 0,.ptr o2 1 0 0],aNN B (((((cQ f.a5V.length n 0).take (cQ f.a5V.length n 0).length)).map bK).filter (lO f p)),rfl,fun hY=>?_,fun H2 O=>?_⟩
 ·refine j4 (m:=26) (t:=16) Lb rfl β.1 Om Om l (fun k=>aNN B ((((cQ f.a5V.length n 0).take k).map bK).filter (lO f p))) (PH.nil.set B (.rows 1 [[.aB]])) ⟨.aB,[],((aN.nil (H:=PH.nil)).new γ _).sY,rfl⟩ ?_ ?_ ?_ ?_ ?_ hY ?_
  ·intro o x Z;rw[aT] at Z;split at Z
   ·rename_i e;rw[gV]; simp only[aT,e,if_neg W,if_neg X,UV,if_true];exact Z
   ·cases Z
  ·rw[gV]; simp only[aT,if_neg l,if_true]
  ·rw[gV]; simp only[aT,if_true]
  ·rw[aT,if_neg (fun e=>W e.symm)]; rfl
  ·rw[aT,if_neg (fun e=>X e.symm)]; rfl
  rintro k hk G c ⟨vo,ps,E,w⟩ hc;have δ:=Q _ (a7J hk);have ζ:(cQ f.a5V.length n 0).take (k+1)=(cQ f.a5V.length n 0).take k++[(cQ f.a5V.length n 0)[k]]:=a9E hk;generalize (cQ f.a5V.length n 0)[k]=s at *
  obtain⟨sl,Y,-⟩:=δ;have i:((((cQ f.a5V.length n 0).take (k+1)).map bK).filter (lO f p))=wls ps++if lO f p (bK s) then [bK s] else []:=by rw[ζ,a8G,List.filter_append,w];congr 1;by_cases c:lO f p (bK s)<;>simp[c]
  have U:(aY (bK s)).length=n:=by rw[dC,eQ,sl]
  have M:=E.amO (s:=1) (rows:=aY (bK s)) hc;have hO:bQ (G.set c (.rows 1 (aY (bK s)))) 1 (.osl c 1 0 n) (aY (bK s)):=by
   have:=M.own ((dO vo ps).length) (yH _ _ _ rfl)
   rwa [U] at this
  have ο:ps.length≤4096:=by
   rw[← uP,w];refine a8V (List.length_filter_le ..) ?_;rw[a7G,a8A];have h1:=rQ f.a5V.length n 0;have M:2 ^ (f.a5V.length-0)≤2 ^ 12:=baL Om Om;have e:(2:Nat) ^ 12=4096:=by decide
   omega
  have d:=Lb.adm f p (bK s) hV hp S ⟨by rw[eQ]; omega,fun x V=>by obtain⟨y,hy,rfl⟩:=a8J.1 V;have:=Y y hy;omega⟩;obtain⟨q,e1,V,d⟩:=atC (C:=C) (name:=201) (pre:=[.agg f.cells,.agg p.cells]) (u:=.bool (lO f p (bK s))) (.bool _) (fun x V=>by
   simp only[a7T,a8B,or_false] at V;rcases V with rfl | rfl
   ·exact fun _ _ _=>rfl
   ·exact fun _ _ _=>rfl) hO (fun e=>by have:=congrArg List.length e; rw[eQ,sl] at this; simp at this; omega) d
  have eq:c=q:=by injection e1
  subst eq;have ι:=M.at 0 rfl;have θ:¬ B=c:=fun e=>by have:=E.at 0 rfl; rw[e,hc] at this; cases this
  simp only[go_sem,yl,Jo,ym,Jp,f2,f3];refine aqM (cs:=[]) (vs:=[.agg f.cells,.agg p.cells,.osl c 1 0 n]) (by rw[a9G]; exact d) Sq (VD _ _) ?_;cases A:lO f p (bK s) with
  | true =>
   rw[A,if_pos rfl] at i;simp only[go_sem,Jq,f5,θ,E.at 0 rfl];refine M.append 0 (rows:=cY ps) (src:=[[.osl c 1 0 n]]) rfl Sq (by unfold roomFor; rw[kX]; simp only[a7S,maxLen]; omega) fun v' H' h3 η=>?_;obtain⟨q2,rfl⟩:=η (by simp);have α:=h3.at 0 rfl;have h4:=h3.set 0 rfl (cG.rows 1 [[PV.osl q2 1 0 (cY ps++[[PV.osl c 1 0 n]]).length]]);simp only[go_sem,α,f5,a7T,a8B,or_false,forall_eq];refine⟨PV.osl q2 1 0 (cY ps++[[PV.osl c 1 0 n]]).length,ps++[(.osl c 1 0 n,bK s)],?_,?_⟩
   ·have e:dO (.osl q2 1 0 (cY ps++[[PV.osl c 1 0 n]]).length) (ps++[(PV.osl c 1 0 n,bK s)])=((dO vo ps)++[(PV.osl c 1 0 (aY (bK s)).length,1,aY (bK s))]).set 0 (.osl q2 1 0 (cY ps++[[PV.osl c 1 0 n]]).length,1,cY ps++[[PV.osl c 1 0 n]]):=by rw[U];unfold dO cY mN;rw[a8G,a8G];rfl
    rw[e];exact h4
   ·rw[i];unfold wls;rw[a8G]; rfl
  | false =>rw[A,if_neg (by decide),a9G] at i;simp only[go_sem];exact⟨vo,ps,M.sub (a9K.refl _) (List.sublist_append_left ..),i.symm⟩
 ·rw[a8I,← hE] at O;obtain⟨vo,ps,E,w⟩:=O;have hb:=E.at 0 rfl;simp only[go_sem,ie,Jr,f5,hb];rw[← w];exact KR (.inr rfl) Sq (E.sM 0)
def rF (f:aE) (a6H:Int):Int:=if gR f a6H then (if f.a5V.length>12 then 2 else 0) else 1
def CH (f:aE) (a6H:Int):List (List Int):=if rF f a6H=0 then oV f (fY f a6H) else []
structure Ia (C:Ctx):Prop extends fg C where
 sets:∀ (f:aE) (p:bS),VF f→f.a5V.length≤12→(∀ m∈p.a5W,0≤m∧m<f.a5W.length)→Fits p.a5W→1≤p.k→p.k≤6→0≤p.m→p.m≤4→aH C 229 [.agg f.cells,.agg p.cells] .nil (aF (lay (oV f p)))
def cyS (r:PV):Spec:=fun _ _=>some ([],fun _=>aF r)
theorem arJ {C:Ctx} (w:Ia C) (f:aE) (x:f.Ok) (a6H:Int) :
  CK.wp C (aV call17.res (bY (.tup [lay (CH f a6H),.int .i64 (rF f a6H)]))) (PF.args [.agg f.cells,.int .i64 a6H]) .nil:=by
 have hB:CH f a6H=if rF f a6H=0 then oV f (fY f a6H) else []:=rfl
 have e:rF f a6H=if gR f a6H then (if f.a5V.length>12 then 2 else 0) else 1:=rfl
 simp only[go_sem,CK,xt,xu,call17];refine aA (w.known f a6H x) Ev ?_;cases q:gR f a6H with
 | false =>rw[q,if_neg (by decide)] at e;rw[e,if_neg (by decide)] at hB;rw[hB,e];simp only[go_sem,a7Y,xv];exact nI (.inr rfl) Sq (aN.sY aN.nil)
 | true =>
  rw[q,if_pos rfl] at e;obtain⟨hV,y,B,A⟩:=pJ q;obtain⟨p,u⟩:=pI q;have d:=hV.a6H _ p;have l:=(x.a6H _ p).a5W;have i:(f.a5Z.map bS.cells)[a6H.toNat]?=some (fY f a6H).cells:=by rw[a8F,u]; rfl
  have hlt:a6H<(f.a5Z.length:Nat):=Om;by_cases c:f.a5V.length>12
  ·rw[if_pos c] at e;rw[e,if_neg (by decide)] at hB;rw[hB,e];simp only[go_sem,a7L,ON,a7G,show (f.a5V.length:Int)>12 by omega,xw];exact nI (.inr rfl) Sq (aN.sY aN.nil)
  ·rw[if_neg c] at e;rw[e,if_pos rfl] at hB;rw[hB,e];simp only[go_sem,a7L,ON,a7G,show ¬ (f.a5V.length:Int)>12 by omega];refine bW .nil (cyS (lay (oV f (fY f a6H)))) a_ ?_;simp only[go_sem,xx,y,hlt,a7G,i];refine bP rfl (w.sets f (fY f a6H) hV Om d.2.2.2.2.2.2.2 l d.1 d.2.1 d.2.2.1 d.2.2.2.1) Sq a_ ?_;simp only[go_sem];exact bA (.inr rfl) .nil (vs:=[lay (oV f (fY f a6H)),.int .i64 0]) Sq a_ (aF.aWP ⟨rfl,rfl⟩)
structure UOk (n:Nat) (U:List (List Int)):Prop where
 len:U.length≤1000
 at_:∀ u∈U,u.length≤1000∧∀ d∈u,0≤d∧d<n
def nH (U:List (List Int)) (s:List Nat):List Int:=s.flatMap fun i=>U.getD i []
theorem Tx (U:List (List Int)) (s:List Nat) {i:Nat} (h:i<s.length):nH U (s.take (i+1))=nH U (s.take i)++U.getD s[i] []:=by
 unfold nH;rw[a9E h,List.flatMap_append]; simp
theorem Xo (U:List (List Int)) (s:List Nat) (d:Nat):(nH U s).contains (d:Int)=jF U s d:=by
 unfold nH jF
 induction s with
 | nil=>rfl
 | cons i s c=>rw[List.flatMap_cons,List.contains_append,c,List.any_cons]
theorem arQ {C:Ctx} {K:bR} [Up K] (W V q c nd n i:Nat) (E:PV) (u:List Int) (β:u.length≤1000) (hu:∀ d∈u,0≤d∧d<nd) (l:List Int) {F:PF} {H:PH} {B:List BX} {L:List LI}
  (w:aN H B L) (b:Nat) (Y:B[b]?=some (q,.rows 1 (dJ (marks nd l))))
  (Z:(((((((((((PF.nil.set 2 (E)).set 6 (.ptr W 1 0 0)).set 7 (.ptr V 1 0 0)).set 9 (.osl q 1 0 nd)).set 66 (.osl c 1 0 n)).set 67 (.int .i64 n)).set 68 (.int .i64 i)).set 75 (ints u)).set 76 (.int .i64 (u.length:Nat))).set 77 (.int .i64 0))).le F)
  (hK:∀ H',aN H' (B.set b (q,.rows 1 (dJ (marks nd (l++u))))) L→K (.exit 4) ((((((((PF.nil.set 2 (E)).set 6 (.ptr W 1 0 0)).set 7 (.ptr V 1 0 0)).set 9 (.osl q 1 0 nd)).set 66 (.osl c 1 0 n)).set 67 (.int .i64 n)).set 68 (.int .i64 i))) H') :
  aC.wp C (.loop OW) K F H:=by
 refine wp_loop (α:=Nat × PH) (fun s=>((((((((((PF.nil.set 2 (E)).set 6 (.ptr W 1 0 0)).set 7 (.ptr V 1 0 0)).set 9 (.osl q 1 0 nd)).set 66 (.osl c 1 0 n)).set 67 (.int .i64 n)).set 68 (.int .i64 i)).set 75 (ints u)).set 76 (.int .i64 (u.length:Nat))).set 77 (.int .i64 s.1))) (fun s=>s.2) (fun s=>s.1≤u.length∧aN s.2 (B.set b (q,.rows 1 (dJ (marks nd (l++u.take s.1))))) L) (fun s=>u.length-s.1) (0,H) ⟨a7N _,?_⟩ Z b_ ?_
 ·rw[List.take_zero,a9G];have e:B.set b (q,.rows 1 (dJ (marks nd l)))=B:=by obtain⟨h1,A⟩:=a8P.1 Y;rw[← A,List.set_getElem_self]
  rw[e]; exact w
 rintro⟨j,X⟩ ⟨hj,w⟩;simp only at hj w;have J:b<B.length:=(a8P.1 Y).1;have x:(B.set b (q,cG.rows 1 (dJ (marks nd (l++u.take j)))))[b]?=some (q,.rows 1 (dJ (marks nd (l++u.take j)))):=List.getElem?_set_self J;simp only[go_sem,OW,yb];by_cases hlt:j<u.length
 ·have p:(j:Int)<(u.length:Nat):=Om;have Q:(u.map fun n=>[PV.int .i64 n])[j]?=some [.int .i64 u[j]]:=by simp[hlt]
  obtain⟨S,U⟩:=hu _ (a7J hlt);have R:u.take (j+1)=u.take j++[u[j]]:=a9E hlt;have N:(u[j]).toNat<(dJ (marks nd (l++u.take j))).length:=by rw[AV,QJ]; omega
  have M:(dJ (marks nd (l++u.take j)))[(u[j]).toNat]?=some [.bool ((l++u.take j).contains u[j])]:=by unfold dJ;rw[a8F,zQ S U]; rfl
  have O:=w.at b x;have A:=w.set b x (.rows 1 (dJ (marks nd (l++u.take (j+1)))));rw[List.set_set] at A;have y:=QK (l:=l++u.take j) S U;rw[a8Q,← R] at y;simp only[go_sem,p,yc,Q,yd,S,U,a8E,O,M,N,jX,y,ye,wZz j];exact aD (j+1,X.set q (.rows 1 (dJ (marks nd (l++u.take (j+1)))))) ⟨hlt,A⟩ (by simp only; omega) Lq b_
 ·have p:¬ (j:Int)<(u.length:Nat):=Om;have:j=u.length:=Om;subst this;rw[a8I] at w;simp only[go_sem,p];exact Up.up Lq (hK X w)
def scB (d i c e:Nat) (p:PV) (U:List (List Int)) (s:List Nat) (nd:Nat) (l:List Int):List BX:=[(d,.rows 1 [[p]]),(i,.rows 1 [[lay U]]),(c,.rows 1 (aY (bK s))),(e,.rows 1 (dJ (marks nd l)))]
theorem Vv {C:Ctx} {K:bR} [Up K] (w p q c nd n:Nat) (A S:PV) (U:List (List Int)) (Z:UOk nd U) (s:List Nat) (hs:s.length=n) (O:∀ x∈s,x<U.length) (hn:n≤1000) {F:PF} {H:PH} {L:List LI}
  (l:aN H (scB p w c q S U s nd []) L)
  (X:((((((((PF.nil.set 2 (A)).set 6 (.ptr w 1 0 0)).set 7 (.ptr p 1 0 0)).set 9 (.osl q 1 0 nd)).set 66 (.osl c 1 0 n)).set 67 (.int .i64 n)).set 68 (.int .i64 0))).le F)
  (Y:∀ H',aN H' (scB p w c q S U s nd (nH U s)) L→K (.exit 2) (((((PF.nil.set 2 (A)).set 6 (.ptr w 1 0 0)).set 7 (.ptr p 1 0 0)).set 9 (.osl q 1 0 nd))) H') :
  aC.wp C (.loop OX) K F H:=by
 refine wp_loop (α:=Nat × PH) (fun t=>(((((((PF.nil.set 2 (A)).set 6 (.ptr w 1 0 0)).set 7 (.ptr p 1 0 0)).set 9 (.osl q 1 0 nd)).set 66 (.osl c 1 0 n)).set 67 (.int .i64 n)).set 68 (.int .i64 t.1))) (fun t=>t.2) (fun t=>t.1≤s.length∧aN t.2 (scB p w c q S U s nd (nH U (s.take t.1))) L) (fun t=>s.length-t.1) (0,H) ⟨a7N _,l⟩ X b_ ?_;rintro⟨i,W⟩ ⟨hi,l⟩;simp only at hi l;simp only[go_sem,OX,x8];by_cases hlt:i<s.length
 ·have d:(i:Int)<(n:Nat):=Om;have hc:=l.at 2 rfl;have N:=l.at 1 rfl;have J:=uF hlt;have M:i<(aY (bK s)).length:=by rw[dC,eQ]; exact hlt
  have Q:=O s[i] (a7J hlt);have R:((s[i]:Nat):Int)<(U.length:Nat):=Om;have e:=Tx U s hlt;have y:=Z.at_ U[s[i]] (a7J Q);have E:U.getD s[i] []=U[s[i]]:=by simp[a7Z,Q]
  have B:(U.map fun r=>[ints r])[s[i]]?=some [ints U[s[i]]]:=by simp[Q]
  rw[E] at e;generalize U[s[i]]=u at *
  generalize s[i]=x at *
  simp only[go_sem,d,x9,hc,J,M,a8E,ya,N,R,a7G,B];have one:=fun {K:bR} [Up K] {F:PF}=>arQ (C:=C) (K:=K) w p q c nd n i A u y.1 y.2 (nH U (s.take i)) (F:=F) l 3 rfl;refine one (by (repeat' (first|exact c_|refine d_ ?_ ?_))<;>first|(simp only[go_sem,a7G]<;>rfl)|rfl) fun H' V=>?_;rw[← e] at V;simp only[go_sem,yf,wZz i];exact aD (i+1,H') ⟨hlt,V⟩ (by simp only; omega) Lq b_
 ·have d:¬ (i:Int)<(n:Nat):=Om;have:i=s.length:=Om;subst this;rw[a8I] at l;simp only[go_sem,d];exact Up.up Lq (Y W l)
def scD (l:List Int) (k:Nat):List Int:=bK ((a7H k).filter fun d=>l.contains (d:Int))
theorem aIQ (l:List Int) (k:Nat):scD l (k+1)=if l.contains (k:Int) then scD l k++[(k:Int)] else scD l k:=by
 unfold scD;rw[baS,List.filter_append,Pj];by_cases h:l.contains (k:Int)
 ·rw[if_pos h]; simp[bK] at h ⊢; simp[h]
 ·rw[if_neg h]; simp[bK] at h ⊢; simp[h]
theorem aSH (l:List Int) (k:Nat):(scD l k).length≤k:=by
 unfold scD;rw[eQ];exact a8V (List.length_filter_le ..) (by simp)
theorem Jc {C:Ctx} {K:bR} [Up K] (u q A c nd:Nat) (V:nd≤1000) (B E:PV) (U:List (List Int)) (s:List Nat) (l:List Int) {F:PF} {H:PH} {L:List LI}
  (i:aN H (scB q u c A E U s nd l) L)
  (Q:((((((((PF.nil.set 2 (B)).set 6 (.ptr u 1 0 0)).set 7 (.ptr q 1 0 0)).set 14 (.aB)).set 86 (.osl A 1 0 nd)).set 87 (.int .i64 nd)).set 88 (.int .i64 0))).le F)
  (R:∀ v H',aN H' (scB q u c A E U s nd l) (L++[(v,1,aY (scD l nd))])→K (.exit 6) (((((PF.nil.set 2 (B)).set 6 (.ptr u 1 0 0)).set 7 (.ptr q 1 0 0)).set 14 (v))) H') :
  aC.wp C (.loop OY) K F H:=by
 refine wp_loop (α:=Nat × PV × PH) (fun t=>(((((((PF.nil.set 2 (B)).set 6 (.ptr u 1 0 0)).set 7 (.ptr q 1 0 0)).set 14 (t.2.1)).set 86 (.osl A 1 0 nd)).set 87 (.int .i64 nd)).set 88 (.int .i64 t.1))) (fun t=>t.2.2) (fun t=>t.1≤nd∧aN t.2.2 (scB q u c A E U s nd l) (L++[(t.2.1,1,aY (scD l t.1))])) (fun t=>nd-t.1) (0,.aB,H) ⟨a7N _,i.nB 1⟩ Q b_ ?_;clear i;rintro⟨k,v,J⟩ ⟨S,i⟩;simp only at S i;simp only[go_sem,OY,yi];by_cases hlt:k<nd
 ·have e:(k:Int)<(nd:Nat):=Om;have x:=i.at 3 rfl;have d:=aIQ l k;have O:=aSH l k;have w:k<(dJ (marks nd l)).length:=by rw[AV,QJ]; exact hlt
  have p:(dJ (marks nd l))[k]?=some [.bool (l.contains (k:Int))]:=by have:=zQ (n:=nd) (l:=l) (m:=(k:Int)) Om e;rw[a9A] at this;unfold dJ;rw[a8F,this]; rfl
  cases N:l.contains (k:Int) with
  | true =>
   rw[N] at p d;rw[if_pos rfl] at d;simp only[go_sem,e,OZ,x,p,w,a8E,PA,yj];refine i.append L.length (rows:=aY (scD l k)) (src:=[[.int .i64 k]]) (yH _ _ _ rfl) Sq (by unfold roomFor; rw[dC]; simp only[a7S,maxLen]; omega) fun v' H' M _=>?_;have y:aY (scD l k)++[[.int .i64 k]]=aY (scD l (k+1)):=by rw[d,zP]; rfl
   rw[y,baD _ _ (a7M _),baG] at M;simp only[go_sem,PB,wZz k];exact aD (k+1,v',H') ⟨hlt,M⟩ (by simp only; omega) Lq b_
  | false =>rw[N] at p d;rw[if_neg (by decide)] at d;rw[← d] at i;simp only[go_sem,e,OZ,x,p,w,a8E,PA,PB,wZz k];exact aD (k+1,v,J) ⟨hlt,i⟩ (by simp only; omega) Lq b_
 ·have e:¬ (k:Int)<(nd:Nat):=Om;have:k=nd:=Om;subst this;simp only[go_sem,e];exact Up.up Lq (R v J i)
def eK (f:aE) (lv c:Int):Int:=if dQ f&&(decide (1≤lv)&&decide (lv≤5)&&decide (1≤c)&&decide (c≤3)) then (if 12<f.a5V.length∨512<dD ((fB f lv).length:Nat) c.toNat then 2 else 0) else 1
def iD (f:aE) (lv c:Int):List (List Int):=if eK f lv c=0 then nP f (fB f lv) c.toNat else []
structure Ib (C:Ctx):Prop extends Ia C where
 val:∀ f:aE,f.Ok→aH C 96 [.agg f.cells] .nil (aF (.int .i64 (wJ f)))
 units:∀ (f:aE) (lv:Int),VF f→1≤lv→lv≤5→aH C 206 [.agg f.cells,.int .i64 lv] .nil (aF (lay (fB f lv)))
 choose:∀ m n:Nat,m≤1000→n≤3→aH C 207 [.int .i64 m,.int .i64 n] .nil (aF (.int .i64 (max (dD m n) 0)))
theorem AG {f:aE} (hV:VF f) (lv:Int):UOk f.a5V.length (fB f lv)∧(fB f lv).length≤40:=by
 have B:=hV.small.a5V;have q:=hV.small.a5Y;by_cases c:lv=5
 ·subst c;rw[Ef];refine⟨⟨by simp; omega,fun u l=>?_⟩,by simp; omega⟩;obtain⟨d,e,rfl⟩:=a8J.1 l;rw[a8K] at e;refine⟨by simp,fun x p=>?_⟩;rw[a9X] at p;omega
 ·rw[du f c];have w:(oE f lv f.a5V.length).length≤40:=by rw[p5];exact a8V (List.length_filter_le ..) (by simp; omega)
  refine⟨⟨by omega,fun u l=>?_⟩,w⟩;obtain⟨i,-,rfl⟩:=a8J.1 l;refine⟨by rw[eQ]; have:=j3 f lv f.a5V.length i; omega,fun x p=>?_⟩;obtain⟨y,A,rfl⟩:=a8J.1 p;have:=a8K.1 (List.mem_filter.1 A).1;omega
theorem aWN (U:List (List Int)) (s:List Nat) (nd:Nat):scD (nH U s) nd=bK ((a7H nd).filter (jF U s)):=by
 unfold scD;congr 2;funext d;exact Xo U s d
instance upDone {R:PH→Prop}:Up (BC R):=⟨fun {e F c H} _ h=>by cases e<;>exact h⟩
def Ih (d e:Nat) (U:List (List Int)) (i:List (List Int)) (G:PH):Prop:=∃ c ps,aN G [(d,.rows 1 [[c]]),(e,.rows 1 [[lay U]])] (dO c ps)∧wls ps=i
theorem Vw {C:Ctx} (f:aE) (hV:VF f) (U:List (List Int)) (hU:UOk f.a5V.length U) (X:U.length≤40) (n:Nat) (α:1≤n) (hn:n≤3) (B l:Nat) (F:PF) (f2:F 2=some (.bH f.cells)) (f6:F 6=some (.ptr B 1 0 0)) (f7:F 7=some (.ptr l 1 0 0)) (k:Nat) (Y:k<(cQ U.length n 0).length) (G:PH) (c:Nat)
  (hI:Ih l B U (((cQ U.length n 0).take k).map fun s=>bK ((a7H f.a5V.length).filter (jF U s))) G) (hc:G c=none) :
  OU.wp C (gE C (OV.wp C) (BC (Ih l B U (((cQ U.length n 0).take (k+1)).map fun s=>bK ((a7H f.a5V.length).filter (jF U s)))))) (F.set 61 (.osl c 1 0 n)) (G.set c (.rows 1 (aY (bK (cQ U.length n 0)[k])))):=by
 obtain⟨u,ps,hH,Z⟩:=hI;have y:=hV.small;have M:(f.a5V.length:Int)*((1:Nat):Int)≤140737488355328:=by have:=y.a5V; omega
 have N:(f.a5V.length:Int)≤9223372036854775807:=by have:=y.a5V; omega
 have d:(0:Int)≤(f.a5V.length:Int):=Om;have Q:=nT U.length n 0 _ (a7J Y);have R:(cQ U.length n 0).take (k+1)=(cQ U.length n 0).take k++[(cQ U.length n 0)[k]]:=a9E Y;have β:ps.length≤1099511627776:=by
  rw[← uP,Z,a7G,a8A];have h1:=rQ U.length n 0;have V:2 ^ (U.length-0)≤2 ^ 40:=baL Om Om;have e:(2:Nat) ^ 40=1099511627776:=by decide
  omega
 generalize (cQ U.length n 0)[k]=s at *
 obtain⟨sl,J,-⟩:=Q;rw[R,a8G,← Z];have V:=hH.new hc (.rows 1 (aY (bK s)));simp only[go_sem,OU,Jj,OV,Jk,f2,a7G,M,N,d,Int.le_refl,a9A];refine aR fun S O=>?_;rw[OK];have h3:=V.new O (.rows 1 (dJ (marks f.a5V.length [])));simp only[go_sem,x7];have mk:=fun {K:bR} [Up K] {F:PF} {H:PH}=>Vv (C:=C) (K:=K) B l S c f.a5V.length n (.bH f.cells) u U hU s sl (fun x hx=>(J x hx).2) Om (F:=F) (H:=H) (L:=dO u ps);refine mk h3 (by (repeat' (first|exact c_|refine d_ ?_ ?_))<;>first|(simp only[go_sem,f2,f6,f7]<;>rfl)|rfl) fun H1 h4=>?_;simp only[go_sem,yg,yh];have dr:=fun {K:bR} [Up K] {F:PF} {H:PH}=>Jc (C:=C) (K:=K) B l S c f.a5V.length (by have:=y.a5V; omega) (.bH f.cells) u U s (nH U s) (F:=F) (H:=H) (L:=dO u ps);refine dr h4 Lq fun v H2 h5=>?_;have W:=h5.own (dO u ps).length (yH _ _ _ rfl);have E:=h5.at 0 rfl;rw[aWN] at h5 W;generalize hD:bK ((a7H f.a5V.length).filter (jF U s))=D at *
 have fin:∀ (i:Nat) (H':PH),aN H' (scB l B c S u U s f.a5V.length (nH U s)) ((dO u ps++[(v,1,aY D)]).set 0 (PV.osl i 1 0 (cY ps++[[v]]).length,1,cY ps++[[v]]))→Ih l B U (wls ps++[D]) (H'.set l (.rows 1 [[PV.osl i 1 0 (cY ps++[[v]]).length]])):=by
  intro i H' w;have h7:=w.set 0 rfl (cG.rows 1 [[PV.osl i 1 0 (cY ps++[[v]]).length]]);refine⟨PV.osl i 1 0 (cY ps++[[v]]).length,ps++[(v,D)],?_,?_⟩
  ·have e:dO (PV.osl i 1 0 (cY ps++[[v]]).length) (ps++[(v,D)])=(dO u ps++[(v,1,aY D)]).set 0 (PV.osl i 1 0 (cY ps++[[v]]).length,1,cY ps++[[v]]):=by unfold dO cY mN;rw[a8G,a8G];rfl
   rw[e];exact (h7.sM 3).sM 2
  ·unfold wls;rw[a8G]; rfl
 have p:roomFor (cY ps).length 1 24:=by unfold roomFor; rw[kX]; simp only[maxLen]; omega
 rcases W with ⟨-,rfl⟩ | ⟨q,rs,rfl,-,-,-⟩
 ·simp only[go_sem,PC,E,a7T,a8B,or_false,forall_eq];refine h5.append 0 (rows:=cY ps) (src:=[[PV.aB]]) rfl Sq p fun v' H' w A=>?_;obtain⟨i,rfl⟩:=A (by simp);have d:=w.at 0 rfl;simp only[go_sem,d,a7T,a8B,or_false,forall_eq];exact fin i H' w
 ·simp only[go_sem,PC,E,a7T,a8B,or_false,forall_eq];refine h5.append 0 (rows:=cY ps) (src:=[[PV.osl q 1 0 (aY D).length]]) rfl Sq p fun v' H' w A=>?_;obtain⟨i,rfl⟩:=A (by simp);have d:=w.at 0 rfl;simp only[go_sem,d,a7T,a8B,or_false,forall_eq];exact fin i H' w
abbrev pX (lv c:Int):PV:=.agg [.int .i64 lv,.int .i64 c]
theorem aEG {C:Ctx} (J:Ib C) (K M:Code) (f:aE) (hf:f.Ok) (lv d:Int) :
  (GZ K M).wp C (aV (ajP K M).res (bY (.tup [lay (iD f lv d),.int .i64 (eK f lv d)]))) (PF.args [.agg f.cells,pX lv d]) .nil:=by
 have hB:iD f lv d=if eK f lv d=0 then nP f (fB f lv) d.toNat else []:=rfl
 have O:eK f lv d=if dQ f&&(decide (1≤lv)&&decide (lv≤5)&&decide (1≤d)&&decide (d≤3)) then (if 12<f.a5V.length∨512<dD ((fB f lv).length:Nat) d.toNat then 2 else 0) else 1:=rfl
 have hv:=J.val f hf;unfold wJ at hv;have l:∀ (e:Int) (F:PF) (H:PH),e≠0→eK f lv d=e→F 4=some .aB→F 5=some (.int .i64 e)→aV [.tmp 4,.tmp 5] (bY (.tup [lay (iD f lv d),.int .i64 (eK f lv d)])) .ret F H:=by intro e F H he i h2 h3;rw[i,if_neg he] at hB;rw[hB,i];exact nI (H:=H) (.inr rfl) (by simp only[go_sem,h2,h3]) (show aN H [] (dO .aB []) from aN.sY aN.nil)
 have X:(dQ f&&(decide (1≤lv)&&decide (lv≤5)&&decide (1≤d)&&decide (d≤3)))=false→eK f lv d=1:=fun h=>by rw[O,h]; rfl
 simp only[go_sem,GZ,pT.wp,Jd,Je,ajP];refine aA hv Ev ?_;cases hp:dQ f with
 | false =>have i:=X (by rw[hp]; rfl);simp only[go_sem,dN (show (1:Int)≠0 by decide),tW];exact l 1 _ _ (by decide) i Sq Sq
 | true =>
  have hV:=VF.of hp;by_cases N:lv<1
  ·have i:=X (by rw[decide_eq_false (Om:¬ 1≤lv)]; simp);simp only[go_sem,cC (show (0:Int)=0 from rfl),N,tW];exact l 1 _ _ (by decide) i Sq Sq
  by_cases c2:lv>5
  ·have i:=X (by rw[decide_eq_false (Om:¬ lv≤5)]; simp);simp only[go_sem,cC (show (0:Int)=0 from rfl),N,c2,tW];exact l 1 _ _ (by decide) i Sq Sq
  by_cases c3:d<1
  ·have i:=X (by rw[decide_eq_false (Om:¬ 1≤d)]; simp);simp only[go_sem,cC (show (0:Int)=0 from rfl),N,c2,c3,tW];exact l 1 _ _ (by decide) i Sq Sq
  by_cases c4:d>3
  ·have i:=X (by rw[decide_eq_false (Om:¬ d≤3)]; simp);simp only[go_sem,cC (show (0:Int)=0 from rfl),N,c2,c3,c4,tW];exact l 1 _ _ (by decide) i Sq Sq
  obtain⟨n,rfl⟩:∃ n:Nat,d=n:=⟨d.toNat,by omega⟩;rw[hp,decide_eq_true (Om:1≤lv),decide_eq_true (Om:lv≤5),decide_eq_true (Om:(1:Int)≤(n:Int)),decide_eq_true (Om:(n:Int)≤3),baJ,baJ,baJ,baJ,if_pos rfl,a9A] at O;rw[a9A] at hB;obtain⟨hU,R⟩:=AG hV lv;have w:=J.units f lv hV Om Om;generalize fB f lv=U at *
  simp only[go_sem,cC (show (0:Int)=0 from rfl),N,c2,c3,c4,Jf];refine aA w Ev ?_;simp only[go_sem];refine aR fun q δ=>?_;simp only[go_sem,Jg,a7G];by_cases c5:12<f.a5V.length
  ·have i:eK f lv n=2:=by rw[O,if_pos (.inl c5)]
   simp only[go_sem,show (f.a5V.length:Int)>12 by omega,ZJ];exact l 2 _ _ (by decide) i Sq Sq
  simp only[go_sem,show ¬ (f.a5V.length:Int)>12 by omega];refine aA (J.choose U.length n Om Om) Ev ?_;by_cases c6:512<dD (U.length:Nat) n
  ·have i:eK f lv n=2:=by rw[O,if_pos (.inr c6)]
   simp only[go_sem,show max (dD (U.length:Nat) n) 0>512 by omega,ZJ];exact l 2 _ _ (by decide) i Sq Sq
  have i:eK f lv n=0:=by rw[O,if_neg (fun h=>h.elim c5 c6)]
  rw[i,if_pos rfl] at hB;rw[hB,i];simp only[go_sem,show ¬ max (dD (U.length:Nat) n) 0>512 by omega,Jh];refine aR fun p E=>?_;have ζ:¬ p=q:=by rintro rfl; rw[cP] at E; cases E
  have y:¬ q=p:=fun e=>ζ e.symm;simp only[go_sem,Ji,y,a7G];refine kU (J.subs n U.length) Sq a_ ?_;rintro r H' ⟨o1,o2,B,rfl,rfl⟩ γ;have α:∀ o x,(((PH.nil.set o1 (.rows 1 [[.int .i64 n]])).set o2 (.rows 1 [[.int .i64 (U.length:Nat)]])):PH) o=some x→¬ p=o∧¬ q=o:=fun o x h=>by
   have:=γ o x h rfl;refine⟨fun e=>?_,fun e=>?_⟩
   ·rw[← e,cP] at this; cases this
   ·rw[← e,aT,if_neg y,cP] at this; cases this
  obtain⟨V,Y⟩:=α o1 _ (by rw[aT,if_neg B,cP]);obtain⟨W,Z⟩:=α o2 _ (by rw[cP]);simp only[go_sem];generalize Q:PF.set _ 60 _=F;have f2:F 2=some (.bH f.cells):=by rw[← Q]; simp only[go_sem]
  have f6:F 6=some (.ptr q 1 0 0):=by rw[← Q]; simp only[go_sem]
  have f7:F 7=some (.ptr p 1 0 0):=by rw[← Q]; simp only[go_sem]
  have η:F 60=some (.fn 211 [.ptr o1 1 0 0,.ptr o2 1 0 0]):=by rw[← Q]; simp only[go_sem]
  clear Q;have A:nP f U n=((cQ U.length n 0).take (cQ U.length n 0).length).map fun s=>bK ((a7H f.a5V.length).filter (jF U s)):=by rw[a8I]; rfl
  have u:aN ((PH.nil.set q (.rows 1 [[lay U]])).set p (.rows 1 [[.aB]])) [(p,.rows 1 [[.aB]]),(q,.rows 1 [[lay U]])] (dO .aB []):=((((aN.nil (H:=PH.nil)).new δ _).new E _).perm (List.Perm.swap _ _ _) (List.Perm.refl _)).sY;refine⟨211,[.ptr o1 1 0 0,.ptr o2 1 0 0],Ih p q U (nP f U n),rfl,fun hY=>?_,fun H2 β=>?_⟩
  ·rw[A];refine j4 (m:=104) (t:=61) J.tofg rfl Om Om Om B (fun k=>Ih p q U (((cQ U.length n 0).take k).map fun s=>bK ((a7H f.a5V.length).filter (jF U s)))) ((PH.nil.set q (.rows 1 [[lay U]])).set p (.rows 1 [[.aB]])) ⟨.aB,[],u,rfl⟩ ?_ ?_ ?_ ?_ ?_ hY fun k hk G c hI hc=>Vw f hV U hU R n Om Om q p F f2 f6 f7 k hk G c hI hc
   ·intro o x S;rw[gV];have e1:¬ o=o1:=fun e=>by rw[e,aT,if_neg (fun h=>V h.symm),aT,if_neg (fun h=>Y h.symm)] at S; cases S
    have e2:¬ o=o2:=fun e=>by rw[e,aT,if_neg (fun h=>W h.symm),aT,if_neg (fun h=>Z h.symm)] at S; cases S
    have:((PH.nil.set o1 (.rows 1 [[.int .i64 n]])).set o2 (.rows 1 [[.int .i64 (U.length:Nat)]]):PH) o=none:=by rw[aT,if_neg e2,aT,if_neg e1]; rfl
    rw[this];exact S
   ·rw[gV]; simp only[aT,if_neg B,if_true]
   ·rw[gV]; simp only[aT,if_true]
   ·rw[aT,if_neg (fun e=>V e.symm),aT,if_neg (fun e=>Y e.symm)]; rfl
   ·rw[aT,if_neg (fun e=>W e.symm),aT,if_neg (fun e=>Z e.symm)]; rfl
  ·obtain⟨vo,ps,hH,ε⟩:=β;have hb:=hH.at 0 rfl;simp only[go_sem,ic,yk,f7,hb];rw[← ε];exact nI (.inr rfl) Sq ((hH.sM 0).sM 0)
theorem Vp {set:List Int} {n top:Int} (h:mK set n top=true):set.Pairwise (· < ·):=by
 unfold mK at h;simp only[a7X,decide_eq_true_eq,a7W,a8K] at h;have c:∀ i (hi:i+1<set.length),set[i]<set[i+1]:=by
  intro i hi;have:=h.2 (i+1) hi;unfold kP at this;have g1:set.getD (i+1) 0=set[i+1]:=by simp[a7Z,hi]
  have g2:set.getD (i+1-1) 0=set[i]:=by simp[a7Z,show i<set.length by omega]
  rw[g1,g2] at this;simp only[a7X,Bool.or_eq_true,decide_eq_true_eq] at this;rcases this.2 with h | h
  ·omega
  ·exact h
 rw[List.pairwise_iff_getElem];intro i j hi q e;obtain⟨d,rfl⟩:∃ d,j=i+1+d:=⟨j-i-1,by omega⟩;clear e
 induction d with
 | zero=>exact c i q
 | succ d u =>have l:=u Om;have p:=c (i+1+d) Om;exact Int.lt_trans l p
theorem Wo {l:List Nat} (h:l.Pairwise (· < ·)):(bK l).Pairwise (· < ·):=by
 unfold bK;rw[List.pairwise_map];exact h.imp fun h=>by omega
theorem di {f:aE} (hV:VF f) (U:List (List Int)) (l:U.length≤40) (n:Nat):(nP f U n).length≤1099511627776∧∀ s∈nP f U n,s.length≤24∧s.Pairwise (· < ·):=by
 have p:=hV.small.a5V;unfold nP;constructor
 ·rw[a7G];have d:=rQ U.length n 0;have i:2 ^ (U.length-0)≤2 ^ 40:=baL Om Om;have e:(2:Nat) ^ 40=1099511627776:=by decide
  omega
 ·intro s c;obtain⟨t,-,rfl⟩:=a8J.1 c;refine⟨?_,Wo (List.pairwise_lt_range.filter _)⟩;rw[eQ];exact a8V (List.length_filter_le ..) (by simp; omega)
def mR (f:aE) (a6H:Int) (set:List Int) (lv c:Int):Int:=if eK f lv c≠0 then eK f lv c else if pA f a6H set then 0 else 1
def uW (f:aE) (a6H:Int) (set:List Int) (lv c:Int):Nat:=if mR f a6H set lv c=0 then sT (iD f lv c) set (fY f a6H).m else 0
structure arA (C:Ctx):Prop extends Ib C where
 tH:∀ (f:aE) (lv cnt:Int),f.Ok→aH C 230 [.agg f.cells,pX lv cnt] .nil (aF (.tup [lay (iD f lv cnt),.int .i64 (eK f lv cnt)]))
 admis:∀ (f:aE) (a6H:Int) (set:List Int),f.Ok→set.length≤1000000000000000→aH C 204 [.agg f.cells,.int .i64 a6H,ints set] .nil (aF (.bool (pA f a6H set)))
 loss:∀ (sc:List (List Int)) (set:List Int) (m:Int),sc.length≤1000000000000000→(∀ s∈sc,s.length≤1000000000000000∧s.Pairwise (· < ·))→set.length≤1000000000000000→set.Pairwise (· < ·)→aH C 208 [lay sc,ints set,.int .i64 m] .nil (aF (.int .i64 (sT sc set m:Nat)))
theorem ajK {C:Ctx} (p:arA C) (f:aE) (x:f.Ok) (a6H:Int) (set:List Int) (y:set.length≤1000000000000000) (lv d:Int) :
  zD.wp C (aV uh.res (aF (.tup [.int .i64 (uW f a6H set lv d:Nat),.int .i64 (mR f a6H set lv d)]))) (PF.args [.agg f.cells,.int .i64 a6H,ints set,pX lv d]) .nil:=by
 have hB:uW f a6H set lv d=if mR f a6H set lv d=0 then sT (iD f lv d) set (fY f a6H).m else 0:=rfl
 have e:mR f a6H set lv d=if eK f lv d≠0 then eK f lv d else if pA f a6H set then 0 else 1:=rfl
 simp only[go_sem,zD,gt,gv,uh];refine aA (p.tH f lv d x) Ev ?_;by_cases c:eK f lv d≠0
 ·rw[if_pos c] at e;rw[e,if_neg c] at hB;simp only[go_sem,GW,dN c,gw];refine aQ (.inr rfl) Ev ?_;rw[hB,e]; rfl
 have c:eK f lv d=0:=Decidable.not_not.1 c;rw[if_neg (fun h=>h c)] at e;simp only[go_sem,GW,c,cC (show (0:Int)=0 from rfl),gx];refine aA (p.admis f a6H set x y) Ev ?_;cases i:pA f a6H set with
 | false =>rw[i,if_neg (by decide)] at e;rw[e,if_neg (by decide)] at hB;simp only[go_sem,a7Y,gy];refine aQ (.inr rfl) Ev ?_;rw[hB,e]; rfl
 | true =>
  rw[i,if_pos rfl] at e;rw[e,if_pos rfl] at hB;have u:gR f a6H=true∧mK set (gP (fY f a6H)) f.a5V.length=true:=by unfold pA at i;simp only[a7X] at i;exact⟨i.1,i.2.1⟩
  obtain⟨hV,B,H,F⟩:=pJ u.1;obtain⟨E,q⟩:=pI u.1;have l:(f.a5Z.map bS.cells)[a6H.toNat]?=some (fY f a6H).cells:=by rw[a8F,q]; rfl
  have hlt:a6H<(f.a5Z.length:Nat):=Om;have w:iD f lv d=nP f (fB f lv) d.toNat:=by unfold iD; rw[if_pos c]
  obtain⟨k1,k2⟩:=di hV (fB f lv) (AG hV lv).2 d.toNat;rw[← w] at k1 k2;simp only[go_sem,a7L,gz,B,hlt,a7G,l];refine aA (p.loss (iD f lv d) set (fY f a6H).m Om (fun s A=>⟨by have:=(k2 s A).1; omega,(k2 s A).2⟩) y (Vp u.2)) Ev ?_;simp only[go_sem];refine aQ (.inr rfl) Ev ?_;rw[hB,e]; rfl
def Bb:Rg:=[iT 0 false]
def Bc:Rg:=[iA 10 (.call 27 [(.const .aB),(Ci 1),(Ci 0)]),iA 1 (.alloc [zI,.aB,.aB,.aB,.aB,.aB,.aB]),iS 7 1 10]
def Bd:Rg:=[iO 12 7 1,iA 13 (.call 205 [(Tm 12),(Ci 0)]),iM 11 13,iE 14 11 0,iE 15 11 1,iM 2 14,iM 3 15]
def Be:Rg:=[iO 17 7 1,iA 18 (.build [zI,zI] [(0,1,(Ci 5)),(1,1,(Ci 1))]),iK2 19 230 17 18,iM 16 19,iE 20 16 0,iE 21 16 1,iM 4 20,iM 5 21]
def Bf:Rg:=[iO 23 7 1,iA 24 (.a6B true 1 1 [zI] [(0,(Ci 0))]),iA 25 (.build [zI,zI] [(0,1,(Ci 1)),(1,1,(Ci 1))]),iA 26 (.call 209 [(Tm 23),(Ci 0),(Tm 24),(Tm 25)]),iM 22 26,iE 27 22 0,iE 28 22 1,iM 6 27,iM 7 28]
def Bg:Rg:=[iO 30 7 1,iA 31 (.call 205 [(Tm 30),(Ci 5)]),iM 29 31,iE 32 29 0,iE 33 29 1,iM 8 32,iM 9 33]
def Bh:Rg:=[iM 34 3,iC 35 .eql 34 0,iM 36 35,gM 37 2 36 true,iG 38 (.a6B true 1 1 [zI] [(0,(Ci 0))]) 36 true,iG 39 (.a6B true 1 1 [.aB] [(0,(Tm 38))]) 36 true,gK2 40 212 37 39 36 true,iP 41 36 40,iM 42 41,gM 43 5 42 true,gC 44 .eql 43 0 42 true,iP 45 42 44,iM 46 45,gM 47 4 46 true,iG 48 (.a6B true 1 1 [zI] [(0,(Ci 0))]) 46 true,iG 49 (.a6B true 1 1 [.aB] [(0,(Tm 48))]) 46 true,gK2 50 212 47 49 46 true,iP 51 46 50,iM 52 51,gM 53 7 52 true,gC 54 .eql 53 0 52 true,iP 55 52 54,iM 56 55,gM 57 6 56 true,gC 58 .eql 57 1 56 true,iP 59 56 58,iM 60 59,gM 61 9 60 true,gC 62 .eql 61 1 60 true,iP 63 60 62,iM 0 63]
def DA:aC:=(sq Bb (sq Bc (sq Bd (sq Be (sq Bf (sq Bg (sq Bh .ret)))))))
def auC:List Nat:=[24,38,39,48,49]
def Pl:aS:=⟨0,64,DA,[.tmp 0]⟩
def Bk:Rg:=[iA 4 (.alloc [zI,zI])]
def Bl:Rg:=[iM 5 0,iA 6 (.conv .i64 (Tm 5)),iC 7 .rem 6 5,iA 8 (.bin .add (Ci 1) (Tm 7)),iM 9 1,iA 10 (.conv .i64 (Tm 9)),iC 11 .rem 10 3,iA 12 (.bin .add (Ci 1) (Tm 11)),iA 13 (.build [zI,zI] [(0,1,(Tm 8)),(1,1,(Tm 12))]),iS 2 4 13]
def DN:aC:=(sq Bk (sq Bl .ret))
def auF:List Nat:=[]
def P8:aS:=⟨2,14,DN,[.cell 4 (some 2)]⟩
def Qm:Rg:=[iT 6 false]
def Qn:Rg:=[iM 13 0,iA 14 (.call 27 [(Tm 13),(Ci 14),(Ci 0)]),iA 7 (.alloc [zI,.aB,.aB,.aB,.aB,.aB,.aB]),iS 7 7 14]
def Qo:Rg:=[iM 15 1,iM 16 2,iA 17 (.build [zI,zI] [(0,1,(Tm 15)),(1,1,(Tm 16))]),iA 8 (.alloc [zI,zI]),iS 2 8 17]
def Qp:Rg:=[iO 19 7 7,iO 20 2 8,iK2 21 230 19 20,iM 18 21,iE 22 18 0,iE 23 18 1,iM 9 22,iM 10 23]
def Qq:Rg:=[iO 25 7 7,iO 26 2 8,iK2 27 219 25 26,iM 24 27,iE 28 24 0,iE 29 24 1,iM 11 28,iM 12 29]
def Qr:Rg:=[iM 30 10,iM 31 12,iB 32 .eql 30 31,iM 33 32,gM 34 9 33 true,gM 35 11 33 true,gK2 36 212 34 35 33 true,iP 37 33 36,iM 38 37,iG 39 (.call 222 []) 38 true,iP 40 38 39,iM 6 40]
def JZ:aC:=(sq Qm (sq Qn (sq Qo (sq Qp (sq Qq (sq Qr .ret))))))
def aHP:List Nat:=[]
def Hh:aS:=⟨3,41,JZ,[.tmp 6]⟩
structure aNL (C:Ctx):Prop where
 same1:∀ l:List Int,Fits l→aH C 94 [ints l,ints l] .nil (aF (.bool true))
 fleet:∀ (l:List Nat),(∀ x∈l,x<256)→l.length≤9223372036854775807→∀ a5V a5X:Nat,a5V≤60→a5X≤50 →
  aH C 27 [.sl 1 (kF l),.int .i64 a5V,.int .i64 a5X] .nil (aF (.agg (jG (l.take 400) a5V a5X 0).1.cells))
 all:∀ (f:aE) (a6H:Int),f.Ok→aH C 205 [.agg f.cells,.int .i64 a6H] .nil (aF (.tup [lay (CH f a6H),.int .i64 (rF f a6H)]))
 tH:∀ (f:aE) (lv cnt:Int),f.Ok→aH C 230 [.agg f.cells,pX lv cnt] .nil (aF (.tup [lay (iD f lv cnt),.int .i64 (eK f lv cnt)]))
 loss:∀ (f:aE) (a6H:Int) (set:List Int) (lv cnt:Int),f.Ok→set.length≤1000000000000000→aH C 209 [.agg f.cells,.int .i64 a6H,ints set,pX lv cnt] .nil (aF (.tup [.int .i64 (uW f a6H set lv cnt:Nat),.int .i64 (mR f a6H set lv cnt)]))
theorem aFC {C:Ctx} (same1:∀ l:List Int,Fits l→aH C 94 [ints l,ints l] .nil (aF (.bool true))) (a:List (List Int)) (i:a.length≤9000000000000000000) (e:∀ w∈a,w.length≤9000000000000000000) :
  HO.wp C (aV ajY.res (aF (.bool true))) (PF.args [lay a,lay a]) .nil:=by
 simp only[go_sem,HO,Kg,Kh,ajY,a7G,cC (show (a.length:Int)=(a.length:Nat) from rfl),Ki];refine wp_loop (α:=Nat) (fun k=>(((PF.nil.set 0 (lay a)).set 1 (lay a)).set 5 (.int .i64 k))) (fun _=>.nil) (fun k=>k≤a.length) (fun k=>a.length-k) 0 (a7N _) Lq a_ ?_;intro k p;simp only[go_sem,Kf,Kj,a7G];by_cases hlt:k<a.length
 ·have c:(k:Int)<(a.length:Nat):=Om;have d:(a.map fun w=>[ints w])[k]?=some [ints a[k]]:=by simp[hlt]
  have q:=e a[k] (a7J hlt);generalize a[k]=x at *
  simp only[go_sem,c];refine bW .nil (cyS (.bool true)) a_ ?_;simp only[go_sem,Kl,d,a7G];refine bP rfl (same1 x Om) Sq a_ ?_;simp only[go_sem,a7L,Km,wZz k];exact aD (k+1) hlt Om Lq a_
 ·have c:¬ (k:Int)<(a.length:Nat):=Om;simp only[go_sem,c,Ko];refine aQ (.inr rfl) Ev ?_;rfl
noncomputable def oW:aE:=(jG [] 1 0 0).1
theorem VM:oW.Ok:=aWB (by decide +kernel)
theorem dp:CH oW 0=[[0]]∧rF oW 0=0∧rF oW 5=1:=by decide +kernel
theorem Dy:iD oW 5 1=[[0]]∧eK oW 5 1=0:=by decide +kernel
theorem Dx:uW oW 0 [0] 1 1=1∧mR oW 0 [0] 1 1=0:=by decide +kernel
structure H9 (C:Ctx):Prop extends aNL C where
 sets:∀ a:List (List Int),a.length≤9000000000000000000→(∀ w∈a,w.length≤9000000000000000000)→aH C 212 [lay a,lay a] .nil (aF (.bool true))
theorem auE {C:Ctx} (a b:Nat) (w:a<256) (x:b<256):DN.wp C (aV P8.res (aF (pX (1+a%5:Nat) (1+b%3:Nat)))) (PF.args [.int .u8 a,.int .u8 b]) .nil:=by
 have e:IntKind.i64.wrap (a:Int)=a:=wrap_i64 Om Om;have i:IntKind.i64.wrap (b:Int)=b:=wrap_i64 Om Om;have c:Int.tmod (a:Int) 5=((a%5:Nat):Int):=by rw[Int.tmod_eq_emod_of_nonneg Om]; omega
 have d:Int.tmod (b:Int) 3=((b%3:Nat):Int):=by rw[Int.tmod_eq_emod_of_nonneg Om]; omega
 have l:IntKind.i64.wrap ((a%5:Nat):Int)=((a%5:Nat):Int):=wrap_i64 Om Om;have p:IntKind.i64.wrap ((b%3:Nat):Int)=((b%3:Nat):Int):=wrap_i64 Om Om;have q:IntKind.i64.wrap (1+((a%5:Nat):Int))=((1+a%5:Nat):Int):=by rw[wrap_i64 Om Om]; omega
 have u:IntKind.i64.wrap (1+((b%3:Nat):Int))=((1+b%3:Nat):Int):=by rw[wrap_i64 Om Om]; omega
 simp only[go_sem,DN,Bk,P8];refine aR fun o y=>?_;simp only[go_sem,Bl,e,i,c,d,l,p,q,u,a7T,a8B,or_false,forall_eq,forall_eq_or_imp];refine aQ (.inr rfl) (vs:=[pX (1+a%5:Nat) (1+b%3:Nat)]) ?_ rfl;simp only[go_sem]
theorem auB {C:Ctx} (L:H9 C):DA.wp C (aV Pl.res (aF (.bool true))) (PF.args []) .nil:=by
 have p:=L.fleet [] (fun x q=>by cases q) (by decide) 1 0 (by decide) (by decide);have c:aH C 27 [.sl 1 (kF []),.int .i64 (1:Nat),.int .i64 (0:Nat)] .nil (aF (.agg oW.cells)):=p;have d:=L.all oW 0 VM;rw[dp.1,dp.2.1] at d;have e:=L.tH oW 5 1 VM;rw[Dy.1,Dy.2] at e;have i:=L.loss oW 0 [0] 1 1 VM (by decide);rw[Dx.1,Dx.2] at i;have l:=L.all oW 5 VM;rw[dp.2.2] at l;have h5:=L.sets [[0]] (by decide) (by decide);generalize oW=f at *
 simp only[go_sem,DA,Bb,Bc,Pl];refine aA (c.args (.ajO (.nil 1) (.ajO (.refl _) (.ajO (.refl _) .a3H)))) (by simp only[go_sem]; rfl) ?_;simp only[go_sem];refine aR fun o u=>?_;simp only[go_sem,Bd];refine aA d Sq ?_;simp only[go_sem,Be];refine aA e Sq ?_;simp only[go_sem,Bf];refine aA i (by simp only[go_sem]; rfl) ?_;simp only[go_sem,Bg];refine aA l Sq ?_;simp only[go_sem,Bh,bL (show (0:Int)=0 from rfl)];refine aA h5 (by simp only[go_sem]; rfl) ?_;simp only[go_sem,bL (show (0:Int)=0 from rfl)];refine aA h5 (by simp only[go_sem]; rfl) ?_;simp only[go_sem,bL (show (0:Int)=0 from rfl),bL (show ((1:Nat):Int)=1 from rfl),bL (show (1:Int)=1 from rfl)];refine aQ (.inr rfl) Ev ?_;rfl
theorem W9 (n k a:Nat) (h:a<n):cQ n (k+1) a=(cQ n k (a+1)).map (a::·)++cQ n (k+1) (a+1):=by
 rw[cQ];by_cases c:n-k-a=0
 ·have d:n-k-(a+1)=0:=Om;rw[cQ,c,d];have:cQ n k (a+1)=[]:=by
   cases k with
   | zero=>omega
   | succ k=>rw[cQ,show n-k-(a+1)=0 by omega]; rfl
  rw[this]; rfl
 ·obtain⟨m,e⟩:∃ m,n-k-a=m+1:=⟨n-k-a-1,by omega⟩;rw[cQ,e,List.range'_succ,List.flatMap_cons,show n-k-(a+1)=m by omega]
def Grow (P:List Nat→Bool):Prop:=∀ s t:List Nat,(∀ x∈s,x∈t)→P s=true→P t=true
theorem Grow.cons {P:List Nat→Bool} (h:Grow P) (a:Nat):Grow fun s=>P (a::s):=fun s t c i =>
 h (a::s) (a::t) (fun x d=>(a7T.1 d).elim (fun e=>e ▸ List.mem_cons_self) fun d=>List.mem_cons_of_mem _ (c x d)) i
def iJ (n k a:Nat) (P:List Nat→Bool):Nat:=(cQ n k a).countP P
theorem zE (n k a:Nat) (h:a<n) (P:List Nat→Bool):iJ n (k+1) a P=iJ n k (a+1) (fun s=>P (a::s))+iJ n (k+1) (a+1) P:=by
 unfold iJ;rw[W9 n k a h,List.countP_append,List.countP_map];rfl
theorem arP (n k a:Nat) {P Q:List Nat→Bool} (h:∀ s,P s=true→Q s=true):iJ n k a P≤iJ n k a Q:=List.countP_mono_left fun s _ c=>h s c
theorem CM (n a:Nat) (P:List Nat→Bool):iJ n 0 a P=if P [] then 1 else 0:=by
 unfold iJ; rw[cQ,List.countP_cons,List.countP_nil,a8E]
theorem GX (n:Nat):∀ (m k a:Nat) (P:List Nat→Bool),Grow P→a+m=n→(m-k)*iJ n k a P≤(k+1)*iJ n (k+1) a P
 | 0,k,a,P,_,_=>by rw[Nat.zero_sub,Nat.zero_mul]; exact a7N _
 | m+1,0,a,P,d,h=>by
  rw[zE n 0 a Om,CM,CM];have l:=GX n m 0 (a+1) P d Om;rw[CM] at l;cases i:P [] with
  | false=>rw[if_neg (by simp)]; omega
  | true =>have p:P [a]=true:=d [] [a] (fun x e=>by cases e) i;rw[if_pos i] at l;rw[if_pos rfl,if_pos p];omega
 | m+1,k+1,a,P,d,h=>by
  have A:=GX n m (k+1) (a+1) P d Om;have B:=GX n m k (a+1) (fun s=>P (a::s)) (d.cons a) Om;have q:=arP n (k+1) (a+1) (P:=P) (Q:=fun s=>P (a::s)) fun s u=>d s (a::s) (fun x e=>List.mem_cons_of_mem _ e) u;rw[zE n k a Om,zE n (k+1) a Om];generalize iJ n (k+1) (a+1) P=x at *
  generalize iJ n (k+1+1) (a+1) P=y at *
  generalize iJ n k (a+1) (fun s=>P (a::s))=z at *
  generalize iJ n (k+1) (a+1) (fun s=>P (a::s))=w at *
  rw[show m+1-(k+1)=m-k by omega,a7V,a7V];have E:(m-k)*x≤(m-(k+1))*x+x:=by
   rcases a8D k m with c | c
   ·rw[show m-k=(m-(k+1))+1 by omega,baM]; exact a7M _
   ·rw[show m-k=0 by omega,Nat.zero_mul]; exact a7N _
  have F:(k+1+1)*w=(k+1)*w+w:=baM _ _;omega
theorem aEE {n k:Nat} {P:List Nat→Bool} (e:Grow P) (h:2*k+1≤n):iJ n k 0 P≤iJ n (k+1) 0 P:=by
 have c:=GX n n k 0 P e Om;have d:(k+1)*iJ n k 0 P≤(n-k)*iJ n k 0 P:=a8N _ Om;exact Nat.le_of_mul_le_mul_left (a8V d c) Om
theorem Oa (f:aE) (u:List (List Int)) (k:Nat) (set:List Int) (m:Int):sT (nP f u k) set m=iJ u.length k 0 fun s=>decide (((iY (bK ((a7H f.a5V.length).filter (jF u s))) set:Nat):Int)>m):=by
 unfold sT nP iJ;rw[List.countP_map];rfl
theorem atO {f:aE} {u:List (List Int)} {k:Nat} {set:List Int} {m:Int} (h:2*k+1≤u.length):sT (nP f u k) set m≤sT (nP f u (k+1)) set m:=by
 rw[Oa,Oa];refine aEE (fun s t l q=>?_) h;have w:=of_decide_eq_true q;refine decide_eq_true ?_;have:iY (bK ((a7H f.a5V.length).filter (jF u s))) set≤iY (bK ((a7H f.a5V.length).filter (jF u t))) set:=by unfold iY;refine List.countP_mono_left fun d _ e=>?_;rw[List.contains_iff_mem] at e ⊢;unfold bK at e ⊢;rw[a8J] at e ⊢;obtain⟨x,c,rfl⟩:=e;refine⟨x,?_,rfl⟩;rw[List.mem_filter] at c ⊢;refine⟨c.1,?_⟩;unfold jF at c ⊢;rw[List.any_eq_true] at c ⊢;obtain⟨-,i,hi,p⟩:=c;exact⟨i,l i hi,p⟩
 omega
def lvC (L:Int) (ds:List cD):Nat:=ds.countP fun x=>decide (x.level=L)
theorem aGQ (f:aE) (L:Int):((a7H f.a5Y.length).filter fun i=>decide (lvl f i=L)).length=lvC L f.a5Y:=by
 rw[← List.countP_eq_length_filter];unfold lvC lvl;have c:∀ (ds:List cD),(a7H ds.length).countP (fun i=>decide ((ds.map cD.level).getD i 0=L))=ds.countP fun x=>decide (x.level=L):=by
  intro ds
  induction ds with
  | nil=>rfl
  | cons d ds e =>rw[a8Y,List.range_succ_eq_map,List.countP_cons,List.countP_map,List.countP_cons,← e];rfl
 exact c f.a5Y
theorem I3:∀ m:Fin 10,∀ c:Fin 4,dD (m.val:Int) c.val≤512:=by decide
theorem aBT (f:aE) (lv:Int):(fB f lv).length=if lv=5 then f.a5V.length else lvC lv f.a5Y:=by
 unfold fB;split
 ·simp
 ·rw[a7G]; exact aGQ f lv
structure AS (f:aE):Prop where
 ok:f.Ok
 valid:dQ f=true
 a5V:f.a5V.length≤9
 lv:∀ L:Int,1≤L→L≤4→lvC L f.a5Y≤8
theorem AS.num {f:aE} (h:AS f) {lv:Int} (c:1≤lv) (h5:lv≤5):(fB f lv).length≤9:=by
 rw[aBT];split
 ·exact h.a5V
 ·have:=h.lv lv c Om; omega
theorem AS.tH {f:aE} (h:AS f) {lv:Int} (d:1≤lv) (h5:lv≤5) {c:Nat} (i:1≤c) (l:c≤3):eK f lv c=0:=by
 have p:=h.num d h5;have e:=I3 ⟨(fB f lv).length,by omega⟩ ⟨c,by omega⟩;simp only at e;unfold eK;rw[h.valid,decide_eq_true d,decide_eq_true h5,decide_eq_true (Om:(1:Int)≤(c:Int)),decide_eq_true (Om:(c:Int)≤3),baJ,baJ,baJ,baJ,if_pos rfl,a9A,if_neg];have:=h.a5V;omega
theorem AS.all {f:aE} (h:AS f) {p:Int} (d:gR f p=true):rF f p=0∧CH f p=oV f (fY f p):=by
 have c:rF f p=0:=by unfold rF;rw[d,if_pos rfl,if_neg];have:=h.a5V;omega
 exact⟨c,by unfold CH; rw[if_pos c]⟩
theorem aDI {s:List Nat} {n top:Nat} (l:s.length=n) (p:∀ x∈s,x<top) (q:s.Pairwise (· < ·)):mK (bK s) n top=true:=by
 unfold mK;rw[eQ,l,decide_eq_true rfl,a7R];simp only[a7W,a8K];intro i hi;have d:i<s.length:=Om;have g:(bK s).getD i 0=(s[i]:Nat):=by unfold bK; simp[a7Z,d]
 unfold kP;rw[g];have u:=p _ (a7J d);simp only[a7X,Bool.or_eq_true,decide_eq_true_eq];refine⟨by omega,?_⟩;by_cases c:i=0
 ·exact .inl c
 ·right;have e:i-1<s.length:=Om;have g2:(bK s).getD (i-1) 0=(s[i-1]:Nat):=by unfold bK; simp[a7Z,e]
  rw[g2];have:=List.pairwise_iff_getElem.1 q (i-1) i e d Om;omega
theorem aIT {f:aE} {p:Int} (c:gR f p=true) {set:List Int} (h:set∈oV f (fY f p)):pA f p set=true∧set.length≤8:=by
 obtain⟨hV,-⟩:=pJ c;have d:=hV.a6H _ (pI c).1;unfold oV at h;rw[List.mem_filter] at h;obtain⟨i,l⟩:=h;obtain⟨s,q,rfl⟩:=a8J.1 i;obtain⟨k1,k2,w⟩:=nT _ _ _ _ q;have e:((gP (fY f p)).toNat:Int)=gP (fY f p):=by unfold gP; omega
 have:=aDI k1 (fun x u=>(k2 x u).2) w;rw[e] at this;refine⟨by unfold pA; rw[c,this,l]; rfl,?_⟩;rw[eQ,k1];unfold gP; omega
theorem AS.more {f:aE} (h:AS f) {p:Int} (u:gR f p=true) {lv:Int} (i:1≤lv) (h5:lv≤5) {c:Nat} (q:1≤c) (y:c≤2) (w:2*c+1≤(fB f lv).length) {set:List Int} (x:set∈oV f (fY f p)) :
  mR f p set lv c=0∧mR f p set lv ((c+1:Nat):Int)=0∧uW f p set lv c≤uW f p set lv ((c+1:Nat):Int):=by
 have s1:=h.tH i h5 q (Om:c≤3);have s2:=h.tH i h5 (Om:1≤c+1) (Om:c+1≤3);obtain⟨l,-⟩:=aIT u x;have d:mR f p set lv c=0:=by unfold mR; rw[s1,l]; rfl
 have e:mR f p set lv ((c+1:Nat):Int)=0:=by unfold mR; rw[s2,l]; rfl
 refine⟨d,e,?_⟩;unfold uW iD;rw[if_pos d,if_pos e,if_pos s1,if_pos s2,a9A,a9A];exact atO w
structure aqZ (C:Ctx):Prop extends H9 C where
 aiX:aH C 222 [] .nil (aF (.bool true))
 fails:∀ a b:Nat,a<256→b<256→aH C 223 [.int .u8 a,.int .u8 b] .nil (aF (pX (1+a%5:Nat) (1+b%3:Nat)))
def chT (n k a i:Nat):List (List Nat):=(a9I a (i-a)).flatMap fun x=>(cQ n k (x+1)).map (x::·)
theorem aDY (n k a:Nat):chT n k a a=[]:=by unfold chT; rw[baG]; rfl
theorem aDX (n k a:Nat) {i:Nat} (h:a≤i):chT n k a (i+1)=chT n k a i++(cQ n k (i+1)).map (i::·):=by
 unfold chT;rw[show i+1-a=(i-a)+1 by omega,List.range'_concat,List.flatMap_append,Nat.one_mul,show a+(i-a)=i by omega];simp
theorem aDW (n k a i:Nat) (h:i=a∨i≤n-k) (c:n≤i+k):chT n k a i=cQ n (k+1) a:=by
 unfold chT;rw[cQ,show i-a=n-k-a by omega]
theorem aUW (n k a:Nat) {i:Nat} (h:a≤i) (e:i+k<n):(chT n k a (i+1)).length≤(cQ n (k+1) a).length:=by
 obtain⟨d,c⟩:∃ d,n-k-a=(i+1-a)+d:=⟨n-k-a-(i+1-a),by omega⟩;unfold chT;rw[cQ,c,← List.range'_append (s:=a) (m:=i+1-a) (n:=d) (step:=1),List.flatMap_append,a7O];omega
def fQ (l:List (List Nat)):List (List Int):=l.map bK
theorem Pk (a b:List (List Nat)):fQ (a++b)=fQ a++fQ b:=a8G
theorem mq {C:Ctx} (k a n:Nat) (hk:k≤10) (ha:a≤1000) (hn:n≤40) (rec:∀ E X:Nat,E≤1000→k=X+1→aH C 215 [.int .i64 E,.int .i64 n,.int .i64 X] .nil (aF (lay (fQ (cQ n X E))))) :
  tF.wp C (aV VG.res (bY (lay (fQ (cQ n k a))))) (PF.args [.int .i64 a,.int .i64 n,.int .i64 k]) .nil:=by
 cases k with
 | zero =>simp only[go_sem,tF,KN,KO,bL (show ((0:Nat):Int)=0 from rfl),mr,VG];refine bA (.inr rfl) .nil (vs:=[.sl 1 [[.aB]]]) Sq a_ ⟨?_,rfl⟩;exact (nZ.nil.snoc (u:=.aB) (w:=[]) (.inr ⟨rfl,rfl⟩)).co
 | succ k =>
  have M:=fun (E:Nat) (h:E≤1000)=>rec E k h rfl;clear rec;have ζ:=rQ n (k+1) a;have Z:2 ^ (n-a)≤2 ^ 40:=baL Om Om;have β:(2:Nat) ^ 40=1099511627776:=by decide
  have wk:IntKind.i64.wrap (((k+1:Nat):Int)-1)=(k:Int):=by rw[wrap_i64 Om Om]; omega
  simp only[go_sem,tF,KN,KO,bF (Om:((k+1:Nat):Int)≠0),mu,mw,VG];refine wp_loop (α:=Nat × PV × WPs × PH) (fun s=>((((PF.nil.set 1 (.int .i64 n)).set 2 (.int .i64 (k+1:Nat))).set 7 (s.2.1)).set 8 (.int .i64 s.1))) (fun s=>s.2.2.2) (fun s=>a≤s.1∧(s.1=a∨s.1≤n-k)∧wls s.2.2.1=fQ (chT n k a s.1)∧aN s.2.2.2 [] (dO s.2.1 s.2.2.1)) (fun s=>n-s.1) (a,.aB,[],.nil) ⟨a7M _,.inl rfl,by simp only; rw[aDY]; rfl,aN.sY aN.nil⟩ Lq b_ ?_;rintro⟨i,Q,ps,H⟩ ⟨A,K,p,y⟩;simp only at A K p y;have wi:IntKind.i64.wrap ((i:Int)+((k+1:Nat):Int))=(i:Int)+((k+1:Nat):Int):=wrap_i64 Om Om;simp only[go_sem,XL,my,wi];by_cases c:i+(k+1)≤n
  ·have S:(i:Int)+((k+1:Nat):Int)≤(n:Nat):=Om;have d:=aDX n k a A;have J:=aUW n k a A (Om:i+k<n);have hr:=M (i+1) Om;have F:=nT n k (i+1);generalize cQ n k (i+1)=R at *
   have γ:R.length≤1099511627776:=by rw[d,a7O,a7G] at J;omega
   simp only[go_sem,S,mz,wZz i,wk];refine aA hr Sq ?_;simp only[go_sem,m5];refine wp_loop (α:=Nat × PV × WPs × PH) (fun s=>((((((PF.nil.set 1 (.int .i64 n)).set 2 (.int .i64 (k+1:Nat))).set 7 (s.2.1)).set 8 (.int .i64 i)).set 9 (lay (fQ R))).set 10 (.int .i64 s.1))) (fun s=>s.2.2.2) (fun s=>s.1≤R.length∧wls s.2.2.1=fQ (chT n k a i++(R.take s.1).map (i::·))∧aN s.2.2.2 [] (dO s.2.1 s.2.2.1)) (fun s=>R.length-s.1) (0,Q,ps,H) ⟨a7N _,by simp only; rw[p]; simp,y⟩ Lq b_ ?_;clear p y;rintro⟨j,Q,ps,H⟩ ⟨hj,p,y⟩;simp only at hj p y;have B:(fQ R).length=R.length:=a7G _;simp only[go_sem,XK,m6,a7G,B];by_cases x:j<R.length
   ·have l:(j:Int)<(R.length:Nat):=Om;have V:((fQ R).map fun r=>[ints r])[j]?=some [ints (bK R[j])]:=by unfold fQ; simp[x]
    have W:R.take (j+1)=R.take j++[R[j]]:=a9E x;have ε:=(F _ (a7J x)).1;have δ:ps.length≤1099511627776:=by have U:=congrArg List.length p;rw[uP] at U;unfold fQ at U;rw[a7G,a7O,a7G,a8A] at U;rw[d,a7O,a7G] at J;omega
    generalize R[j]=r at *
    simp only[go_sem,l,m7];refine aR fun o ho=>?_;have h2:=y.amO (s:=1) (rows:=aY [(i:Int)]) ho;simp only[go_sem,l,B,a7G,V];refine h2.append (ps.length+1) (rows:=aY [(i:Int)]) (src:=aY (bK r)) (yH _ _ _ (BN _ _)) rfl (by unfold roomFor; rw[dC,dC,eQ]; simp only[a7S,maxLen]; omega) fun v' H' O _=>?_;have N:aY [(i:Int)]++aY (bK r)=aY (bK (i::r)):=rfl;rw[N] at O;have hO:bQ H' 1 v' (aY (bK (i::r))):=O.own (ps.length+1) (by rw[List.getElem?_set_self (by rw[a7O,BN]; simp)]);rcases hO with ⟨h0,-⟩ | ⟨q,rs,rfl,-,-,-⟩
    ·cases h0
    rw[baD _ _ (by rw[BN]; exact a7M _),BN,baG] at O;simp only[go_sem,a7T,a8B,or_false,forall_eq];refine O.append 0 (rows:=cY ps) (src:=[[PV.osl q 1 0 (aY (bK (i::r))).length]]) rfl Sq (by unfold roomFor; rw[kX]; simp only[a7S,maxLen]; omega) fun Y H2 h4 _=>?_;simp only[go_sem,XM,wZz j];refine aD (j+1,Y,ps++[(PV.osl q 1 0 (aY (bK (i::r))).length,bK (i::r))],H2) ⟨x,?_,?_⟩ (by simp only; omega) (by (repeat' (first|exact c_|refine d_ ?_ ?_))<;>first|(simp only[go_sem,B]<;>rfl)|rfl) b_
    ·simp only;rw[W,a8G,← a8Q,Pk,← p];unfold wls;rw[a8G]; rfl
    ·have e:dO Y (ps++[(PV.osl q 1 0 (aY (bK (i::r))).length,bK (i::r))])=((dO Q ps)++[(PV.osl q 1 0 (aY (bK (i::r))).length,1,aY (bK (i::r)))]).set 0 (Y,1,cY ps++[[PV.osl q 1 0 (aY (bK (i::r))).length]]):=by unfold dO cY mN;rw[a8G,a8G];rfl
     simp only;rw[e];exact h4
   ·have l:¬ (j:Int)<(R.length:Nat):=Om;have:j=R.length:=Om;subst this;rw[a8I,← d] at p;simp only[go_sem,l,XN,wZz i];exact aD (i+1,Q,ps,H) ⟨by simp only; omega,.inr (by simp only; omega),p,y⟩ (by simp only; omega) Lq b_
  ·have S:¬ (i:Int)+((k+1:Nat):Int)≤(n:Nat):=Om;rw[aDW n k a i K Om] at p;simp only[go_sem,S,XO];rw[← p];exact KR (.inr rfl) Sq y
structure Gy (C:Ctx):Prop where
 allowed:∀ (f:aE) (p:bS) (d:Nat),VF f→Fits p.a5W→d<f.a5V.length→aH C 77 [.agg p.cells,.agg f.cells,.int .i64 d] .nil (aF (.bool (p.a5W.contains ((mdl f d:Nat):Int))))
 count:∀ (f:aE) (row:List Int) (n:Nat),VF f→G2 f row→n<f.a5Y.length→aH C 80 [.agg f.cells,ints row,.int .i64 n] .nil (aF (.int .i64 (row.countP (lM f n):Nat)))
 valid:∀ f:aE,f.Ok→aH C 67 [.agg f.cells] .nil (aF (.bool (dQ f)))
def kE (f:aE) (p:bS) (set:List Int):Bool:=mK set (gP p) f.a5V.length&&lO f p set
def jT (f:aE) (p:bS) (set:List Int) (i:Nat):Bool:=kP set f.a5V.length i&&mC f p (set.getD i 0)
theorem Rj {f:aE} {p:bS} {set:List Int} (q:(set.length:Int)=gP p):kE f p set=((a7H set.length).all (jT f p set)&&gW f p set):=by
 unfold kE mK lO;rw[decide_eq_true q,a7R,← baI];congr 1;have e:set.all (mC f p)=(a7H set.length).all fun i=>mC f p (set.getD i 0):=by
  rw[Bool.eq_iff_iff,a7W,a7W];constructor
  ·intro h i hi;have hi:=a8K.1 hi;have c:set.getD i 0=set[i]:=by simp[a7Z,hi]
   rw[c]; exact h _ (a7J hi)
  ·intro h x u;obtain⟨i,hi,rfl⟩:=a8S u;have c:set.getD i 0=set[i]:=by simp[a7Z,hi]
   have:=h i (a8K.2 hi)
   rwa [c] at this
 rw[e,Bool.eq_iff_iff,a7X,a7W,a7W,a7W];constructor
 ·rintro⟨d,l⟩ i hi;unfold jT; rw[d i hi,l i hi]; rfl
 ·intro h;refine⟨fun i hi=>?_,fun i hi=>?_⟩
  ·have:=h i hi; unfold jT at this; rw[a7X] at this; exact this.1
  ·have:=h i hi; unfold jT at this; rw[a7X] at this; exact this.2
theorem aRG {f:aE} {p:bS} {set:List Int} (c:(set.length:Int)=gP p) {i:Nat} (hi:i<set.length) (h:jT f p set i=false):kE f p set=false:=by
 rw[Rj c];have:(a7H set.length).all (jT f p set)=false:=by simp only[List.all_eq_false,a8K];exact⟨i,hi,by rw[h]; simp⟩
 rw[this,a7P]
theorem Ri (f:aE) (p:bS) (set:List Int) (k:Nat):(a7H (k+1)).all (jT f p set)=((a7H k).all (jT f p set)&&jT f p set k):=by
 rw[baS,List.all_append]; simp
theorem Wv {C:Ctx} {K:bR} [Up K] (L:Gy C) (f:aE) (hV:VF f) (p:bS) (set:List Int) (U:G2 f set) {F:PF} {H:PH}
  (M:(((((PF.nil.set 2 (ints set)).set 3 (.bH f.cells)).set 4 (.bH p.cells)).set 8 (.int .i64 1))).le F)
  (O:∀ x H',x 6=some (.bool false)→gW f p set=false→K .ret x H')
  (N:∀ x H',gW f p set=true→K (.exit 2) x H'):aC.wp C (.loop c9) K F H:=by
 have R:=hV.small.a5Y;have u:=hV.root.1;refine wp_loop (α:=Nat) (fun k=>((((PF.nil.set 2 (ints set)).set 3 (.bH f.cells)).set 4 (.bH p.cells)).set 8 (.int .i64 k))) (fun _=>H) (fun k=>1≤k∧k≤f.a5Y.length∧∀ i,1≤i→i<k→lS f p set i=true) (fun k=>f.a5Y.length-k) 1 ⟨a7M _,u,fun i J X=>by omega⟩ M b_ ?_;rintro k ⟨J,Y,d⟩;simp only[go_sem,c9,Rk,a7G];by_cases hlt:k<f.a5Y.length
 ·have c:(k:Int)<(f.a5Y.length:Nat):=Om;have E:=hV.kA hlt;have V:0≤lvl f k:=E.1;have W:lvl f k<((5:Nat):Int):=Om;have l:=L.count f set k hV U hlt;have Q:fE f set k=((set.countP (lM f k):Nat):Int):=by unfold fE; rw[if_neg Om]
  rw[← Q] at l;have q:lS f p set k=!(decide (p.spread (lvl f k).toNat>0)&&decide (fE f set k>p.spread (lvl f k).toNat)):=by rw[lS,dZ]
  have a6R:lS f p set k=true→∀ i,1≤i→i<k+1→lS f p set i=true:=fun h i B S=>by
   by_cases e:i=k
   ·rw[e]; exact h
   ·exact d i B Om
  have w:lS f p set k=false→gW f p set=false:=LH hlt;simp only[go_sem,c,Rl,fG hlt,sV hlt,V,W,Nat.mul_one];rw[Dw p _ (Om:(lvl f k).toNat<5)];by_cases y:p.spread (lvl f k).toNat>0
  ·simp only[go_sem,da,y];refine aA l Sq ?_;by_cases A:fE f set k>p.spread (lvl f k).toNat
   ·simp only[go_sem,A,Rm];exact O _ _ Sq (w (by rw[q,decide_eq_true y,decide_eq_true A]; rfl))
   ·simp only[go_sem,A,db,wZz k];exact aD (k+1) ⟨by omega,hlt,a6R (by rw[q,decide_eq_false A,a8O]; rfl)⟩ Om Lq b_
  ·simp only[go_sem,da,y,db,wZz k];exact aD (k+1) ⟨by omega,hlt,a6R (by rw[q,decide_eq_false y]; rfl)⟩ Om Lq b_
 ·have c:¬ (k:Int)<(f.a5Y.length:Nat):=Om;simp only[go_sem,c];refine N _ _ (ot hV fun i hi h=>d i ?_ Om);have:=hV.kA hi;rcases a9Q i with e | e
  ·have:=this.2.2.2 e; omega
  ·omega
theorem aRH {C:Ctx} (L:Gy C) (f:aE) (hV:VF f) (p:bS) (H:Fits p.a5W) (hk:1≤p.k) (β:p.k≤6) (hm:0≤p.m) (γ:p.m≤4) (set:List Int) (hl:set.length≤1000000000000000) :
  SB.wp C (aV aIC.res (aF (.bool (kE f p set)))) (PF.args [.agg f.cells,.agg p.cells,ints set]) .nil:=by
 have hw:IntKind.i64.wrap (p.k+p.m)=p.k+p.m:=wrap_i64 Om Om;have M:gP p=p.k+p.m:=rfl;simp only[go_sem,SB,adQ,adR,aIC,a7G,hw];by_cases O:(set.length:Int)=p.k+p.m
 ·have w:(set.length:Int)=gP p:=by rw[M]; exact O
  simp only[go_sem,cC O,adT];refine wp_loop (α:=Nat) (fun k=>((((PF.nil.set 2 (ints set)).set 3 (.bH f.cells)).set 4 (.bH p.cells)).set 7 (.int .i64 k))) (fun _=>.nil) (fun k=>k≤set.length∧(a7H k).all (jT f p set)=true) (fun k=>set.length-k) 0 ⟨a7N _,rfl⟩ Lq a_ ?_;rintro k ⟨hk,l⟩;by_cases hlt:k<set.length
  ·have c:(k:Int)<(set.length:Nat):=Om;have q:(set.map fun n=>[PV.int .i64 n])[k]?=some [.int .i64 set[k]]:=by simp[hlt]
   have S:set.getD k 0=set[k]:=by simp[a7Z,hlt]
   have d:jT f p set k=(((decide (0≤set[k])&&decide (set[k]<(f.a5V.length:Nat)))&&(decide (k=0)||decide (set.getD (k-1) 0<set[k])))&&mC f p set[k]):=by rw[jT,kP,S]
   have a6R:jT f p set k=true→(a7H (k+1)).all (jT f p set)=true:=fun h=>by rw[Ri,l,h]; rfl
   have e:=aRG (f:=f) (p:=p) w hlt;have fin:∀ (x:Int) (b:Bool),x=set[k]→0≤x→x<(f.a5V.length:Nat)→aH C 77 [.agg p.cells,.agg f.cells,.int .i64 x] .nil (aF (.bool (mC f p x))):=fun x b _ h0 Q=>by have:=L.allowed f p x.toNat hV H Om;rw[show (x.toNat:Int)=x by omega] at this;exact this
   have fin:=fin set[k] true rfl;generalize set[k]=x at *
   simp only[go_sem,we,wg,c,a7G];refine bW .nil (cyS (.bool (mC f p x))) a_ ?_;by_cases A:x<0
   ·simp only[go_sem,yN,q,c,A,a7G,yO];exact dT Sq (e (by rw[d,decide_eq_false (Om:¬ 0≤x)]; rfl)).symm
   by_cases N:x≥(f.a5V.length:Nat)
   ·simp only[go_sem,yN,q,c,A,N,a7G,yO];exact dT Sq (e (by rw[d,decide_eq_false (Om:¬ x<(f.a5V.length:Nat)),a8O]; rfl)).symm
   rw[decide_eq_true (Om:0≤x),decide_eq_true (Om:x<(f.a5V.length:Nat)),a9N,a7R] at d;have B:=fin Om Om;by_cases W:k=0
   ·subst W;rw[decide_eq_true rfl,Bool.true_or,a7R] at d;simp only[go_sem,yN,q,c,A,N,a7G,show ¬ ((0:Nat):Int)>0 by omega];refine bP rfl B Sq a_ ?_;cases E:mC f p x with
    | true =>rw[E] at d;simp only[go_sem,a7L,wh,wZz 0];exact aD 1 ⟨hlt,a7W.1 (a6R d)⟩ Om Lq a_
    | false =>rw[E] at d;simp only[go_sem,a7Y,yO];exact dT Sq (e d).symm
   obtain⟨j,rfl⟩:∃ j,k=j+1:=⟨k-1,by omega⟩;have Y:IntKind.i64.wrap (((j+1:Nat):Int)-1)=(j:Int):=by rw[wrap_i64 Om Om]; omega
   have J:j<set.length:=Om;have u:(j:Int)<(set.length:Nat):=Om;have K:(set.map fun n=>[PV.int .i64 n])[j]?=some [.int .i64 set[j]]:=by simp[J]
   have U:set.getD (j+1-1) 0=set[j]:=by simp[a7Z,J]
   rw[U,decide_eq_false W,Bool.false_or] at d;generalize set[j]=y at *
   by_cases X:x≤y
   ·simp only[go_sem,yN,q,c,A,N,a7G,show ((j+1:Nat):Int)>0 by omega,Y,K,u,X,yO];exact dT Sq (e (by rw[d,decide_eq_false (Om:¬ y<x)]; rfl)).symm
   rw[decide_eq_true (Om:y<x),a7R] at d;simp only[go_sem,yN,q,c,A,N,a7G,show ((j+1:Nat):Int)>0 by omega,Y,K,u,X];refine bP rfl B Sq a_ ?_;cases E:mC f p x with
   | true =>rw[E] at d;simp only[go_sem,a7L,wh,cZ (Om:j+1<9223372036854775807)];exact aD (j+1+1) ⟨hlt,a7W.1 (a6R d)⟩ Om Lq a_
   | false =>rw[E] at d;simp only[go_sem,a7Y,yO];exact dT Sq (e d).symm
  ·have c:¬ (k:Int)<(set.length:Nat):=Om;have:k=set.length:=Om;subst this;have R:=Rj (f:=f) (p:=p) w;rw[l,a7R] at R;have hr:G2 f set:=⟨by omega,fun x hx=>by
    obtain⟨i,hi,rfl⟩:=a8S hx;have Q:=a7W.1 l i (a8K.2 hi);unfold jT kP at Q;have S:set.getD i 0=set[i]:=by simp[a7Z,hi]
    rw[S] at Q;simp only[a7X,decide_eq_true_eq] at Q;omega⟩
   simp only[go_sem,we,wg,c,a7G,adU];refine Wv (C:=C) L f hV p set hr Lq ?_ ?_
   ·intro Z H' h6 F;simp only[go_sem];exact dT h6 (R.trans F).symm
   ·intro Z H' V;simp only[go_sem,Rn];exact dT Sq (R.trans V).symm
 ·simp only[go_sem,dN O,adS];exact dT Sq (show kE f p set=false by unfold kE mK; rw[decide_eq_false (show ¬ (set.length:Int)=gP p from fun h=>O (by rw[h,M]))]; rfl).symm
structure fh (C:Ctx):Prop extends Gy C where
 adm:∀ (f:aE) (p:bS) (set:List Int),VF f→Fits p.a5W→1≤p.k→p.k≤6→0≤p.m→p.m≤4→set.length≤1000000000000000→aH C 213 [.agg f.cells,.agg p.cells,ints set] .nil (aF (.bool (kE f p set)))
 choose:∀ k a n:Nat,k≤10→a≤1000→n≤40→aH C 215 [.int .i64 a,.int .i64 n,.int .i64 k] .nil (aF (lay (fQ (cQ n k a))))
def a2O (name:Nat) (r d:PV):Spec:=fun c _=>if c=name then some ([],fun _=>aF r) else some ([],fun _=>aF d)
theorem avI {C:Ctx} (L:fh C) (f:aE) (x:f.Ok) (a6H:Int) (set:List Int) (A:set.length≤1000000000000000) :
  DS.wp C (aV SC.res (aF (.bool (pA f a6H set)))) (PF.args [.agg f.cells,.int .i64 a6H,ints set]) .nil:=by
 have e:pA f a6H set=(gR f a6H&&kE f (fY f a6H) set):=rfl;have d:gR f a6H=(dQ f&&(decide (0≤a6H)&&decide (a6H<f.a5Z.length))):=rfl;simp only[go_sem,DS,Ch,SC];refine bW .nil (a2O 67 (.bool (dQ f)) (.bool (kE f (fY f a6H) set))) a_ ?_;simp only[go_sem,Cj];refine bP rfl (L.valid f x) Sq a_ ?_;cases y:dQ f with
 | false =>rw[y,a7P] at d;rw[d,a7P] at e;simp only[go_sem];exact dT Sq e.symm
 | true =>
  rw[y,a7R] at d;by_cases u:a6H≥0
  ·rw[decide_eq_true (Om:0≤a6H),a7R] at d;by_cases q:a6H<(f.a5Z.length:Nat)
   ·rw[decide_eq_true q] at d;rw[d,a7R] at e;obtain⟨hV,B,F,E⟩:=pJ d;obtain⟨p,w⟩:=pI d;have c:=hV.a6H _ p;have l:=(x.a6H _ p).a5W;have i:(f.a5Z.map bS.cells)[a6H.toNat]?=some (fY f a6H).cells:=by rw[a8F,w]; rfl
    simp only[go_sem,u,q,a7G,i];refine bP rfl (L.adm f (fY f a6H) set hV l c.1 c.2.1 c.2.2.1 c.2.2.2.1 A) Sq a_ ?_;simp only[go_sem];exact dT Sq e.symm
   ·rw[decide_eq_false q] at d;rw[d,a7P] at e;simp only[go_sem,u,q,a7G];exact dT Sq e.symm
  ·rw[decide_eq_false (Om:¬ 0≤a6H),a7P] at d;rw[d,a7P] at e;simp only[go_sem,u,a7G];exact dT Sq e.symm
theorem aIU {f:aE} (hV:VF f) (p:bS) (y:1≤p.k) (A:0≤p.m):oV f p=(fQ (cQ f.a5V.length (gP p).toNat 0)).filter (kE f p):=by
 unfold oV fQ;refine List.filter_congr fun x q=>?_;obtain⟨s,u,rfl⟩:=a8J.1 q;obtain⟨k1,k2,w⟩:=nT _ _ _ _ u;have e:((gP p).toNat:Int)=gP p:=by unfold gP; omega
 have h:mK (bK s) (gP p) f.a5V.length=true:=by
  rw[← e];unfold mK;rw[eQ,k1,decide_eq_true rfl,a7R];simp only[a7W,a8K];intro i hi;have d:i<s.length:=Om;have g:(bK s).getD i 0=(s[i]:Nat):=by unfold bK; simp[a7Z,d]
  unfold kP;rw[g];have q:=(k2 _ (a7J d)).2;simp only[a7X,Bool.or_eq_true,decide_eq_true_eq];refine⟨by omega,?_⟩;by_cases c:i=0
  ·exact .inl c
  ·right;have l:i-1<s.length:=Om;have g2:(bK s).getD (i-1) 0=(s[i-1]:Nat):=by unfold bK; simp[a7Z,l]
   rw[g2];have:=List.pairwise_iff_getElem.1 w (i-1) i l d Om;omega
 unfold kE;rw[h,a7R]
def mU (c:List (List Int)):List (List PV):=c.map fun w=>[ints w]
theorem SK (c:List (List Int)):(mU c).length=c.length:=a7G _
theorem Wy (d:List (List Int)):nZ (mU d) d:=by
 refine⟨SK d,fun i r w c e=>.inl ?_⟩;unfold mU at c;rw[a8F,e] at c;injection c with c
 exact c.symm
theorem anD {res:List dV} {F:PF} {H:PH} {i:PV} {d:List (List Int)} {c:Int} {e:kM} (A:e=.normal∨e=.ret) (h:dV.evs F H res=some [i,.int .i64 c]) (x:aN H [] [(i,1,mU d)]):aV res (bY (.tup [lists d,.int .i64 c])) e F H:=by
 have l:aN H [] ((i,1,mU d++cY [])::mN []):=by rw[show mU d++cY []=mU d from a9G _]; exact x
 obtain⟨φ,J,k1,-,B,-,E,-⟩:=zT [] (mU d) d (Wy d) l (fun b y=>by cases y);rw[show d++wls []=d from a9G _] at k1;refine yP A h ⟨_,_,.nil,E _,a_,φ (bO [i,.int .i64 c]),?_,?_⟩
 ·rw[yR,kD,if_pos rfl]; rfl
 ·show bY _ (φ (.tup [i,.int .i64 c])) .nil;rw[B];refine⟨.tup rfl fun j p q u w=>?_,rfl⟩
  match j with
  | 0=>cases u; cases w; exact k1
  | 1=>cases u; cases w; exact .refl _
  | j+2=>cases u
theorem aRJ {C:Ctx} (L:fh C) (f:aE) (hf:f.Ok) (a6H:Int) :
  SD.wp C (aV Ro.res (bY (.tup [lay (CH f a6H),.int .i64 (rF f a6H)]))) (PF.args [.agg f.cells,.int .i64 a6H]) .nil:=by
 have hB:CH f a6H=if rF f a6H=0 then oV f (fY f a6H) else []:=rfl
 have l:rF f a6H=if gR f a6H then (if f.a5V.length>12 then 2 else 0) else 1:=rfl
 have x:gR f a6H=(dQ f&&(decide (0≤a6H)&&decide (a6H<f.a5Z.length))):=rfl;have Q:∀ F:PF,gR f a6H=false→F 4=some .aB→F 5=some (.int .i64 1)→aV [.tmp 4,.tmp 5] (bY (.tup [lay (CH f a6H),.int .i64 (rF f a6H)])) .ret F .nil:=by intro F hk h1 h2;rw[hk,if_neg (by decide)] at l;rw[l,if_neg (by decide)] at hB;rw[hB,l];exact nI (.inr rfl) (by simp only[go_sem,h1,h2]) (aN.sY aN.nil)
 simp only[go_sem,SD,adV,adW,Ro];refine aA (L.valid f hf) Ev ?_;cases hp:dQ f with
 | false =>simp only[go_sem,a7Y,VE];exact Q _ (by rw[x,hp]; rfl) Sq Sq
 | true =>
 rw[hp,a7R] at x;by_cases O:a6H<0
 ·simp only[go_sem,a7L,O,VE];exact Q _ (by rw[x,decide_eq_false (Om:¬ 0≤a6H)]; rfl) Sq Sq
 by_cases R:a6H≥(f.a5Z.length:Nat)
 ·simp only[go_sem,a7L,O,R,a7G,VE];exact Q _ (by rw[x,decide_eq_false (Om:¬ a6H<(f.a5Z.length:Nat)),a8O]) Sq Sq
 rw[decide_eq_true (Om:0≤a6H),decide_eq_true (Om:a6H<(f.a5Z.length:Nat)),baJ] at x;rw[x,if_pos rfl] at l;obtain⟨hV,h0,hm,he⟩:=pJ x;obtain⟨N,U⟩:=pI x;have d:=hV.a6H _ N;have M:=(hf.a6H _ N).a5W;have K:(f.a5Z.map bS.cells)[a6H.toNat]?=some (fY f a6H).cells:=by rw[a8F,U]; rfl
 by_cases c:f.a5V.length>12
 ·rw[if_pos c] at l;rw[l,if_neg (by decide)] at hB;rw[hB,l];simp only[go_sem,a7L,O,R,a7G,wj,show (f.a5V.length:Int)>12 by omega,adX];exact nI (.inr rfl) Sq (aN.sY aN.nil)
 rw[if_neg c] at l;rw[l,if_pos rfl,aIU hV _ d.1 d.2.2.1] at hB;rw[hB,l];clear hB l Q;generalize fY f a6H=p at *
 obtain⟨n,W⟩:∃ n:Nat,(n:Int)=gP p:=⟨(p.k+p.m).toNat,by unfold gP; omega⟩;have ε:1≤n∧n≤10:=by unfold gP at W; omega
 have hw:IntKind.i64.wrap (p.k+p.m)=(n:Int):=by rw[W]; exact wrap_i64 Om Om
 have hlt:a6H<(f.a5Z.length:Nat):=Om;have V:=L.choose n 0 f.a5V.length Om Om Om;have E:=fun (set:List Int) (hs:set.length≤1000000000000000)=>L.adm f p set hV M d.1 d.2.1 d.2.2.1 d.2.2.2.1 hs;have J:=nT f.a5V.length n 0;have η:=rQ f.a5V.length n 0;have β:2 ^ (f.a5V.length-0)≤2 ^ 12:=baL Om Om;have γ:(2:Nat) ^ 12=4096:=by decide
 rw[← W,a9A];generalize cQ f.a5V.length n 0=S at *
 simp only[go_sem,a7L,O,R,a7G,wj,show ¬ (f.a5V.length:Int)>12 by omega,adY,h0,hlt,K];refine aR fun q hq=>?_;simp only[go_sem,adZ,aeA,a7G,hw];refine aA V (by simp only[go_sem]; rfl) ?_;simp only[go_sem,aeB];have B:aN (PH.nil.set q (.rows 17 [p.cells])) [(q,.rows 17 [p.cells])] [(.aB,1,mU [])]:=((aN.nil (H:=PH.nil)).new hq _).nB 1;refine wp_loop (α:=Nat × PV × PH) (fun s=>(((((PF.nil.set 2 (.bH f.cells)).set 6 (.ptr q 17 0 0)).set 7 (s.2.1)).set 8 (lay (fQ S))).set 9 (.int .i64 s.1))) (fun s=>s.2.2) (fun s=>s.1≤S.length∧aN s.2.2 [(q,.rows 17 [p.cells])] [(s.2.1,1,mU ((fQ (S.take s.1)).filter (kE f p)))]) (fun s=>S.length-s.1) (0,.aB,_) ⟨a7N _,B⟩ Lq b_ ?_;clear B hq;rintro⟨j,v,H⟩ ⟨hj,A⟩;simp only at hj A;have u:(fQ S).length=S.length:=a7G _;simp only[go_sem,Rp,aeC,a7G,u];by_cases w:j<S.length
 ·have e:(j:Int)<(S.length:Nat):=Om;have y:((fQ S).map fun r=>[ints r])[j]?=some [ints (bK S[j])]:=by unfold fQ; simp[w]
  have Y:S.take (j+1)=S.take j++[S[j]]:=a9E w;have ζ:=(J _ (a7J w)).1;generalize S[j]=r at *
  have i:(fQ (S.take (j+1))).filter (kE f p)=(fQ (S.take j)).filter (kE f p)++if kE f p (bK r) then [bK r] else []:=by rw[Y,Pk,List.filter_append];congr 1;unfold fQ;by_cases cc:kE f p (bK r)<;>simp[cc]
  have δ:((fQ (S.take j)).filter (kE f p)).length≤4096:=by refine a8V (List.length_filter_le ..) ?_;unfold fQ;rw[a7G,a8A]; omega
  have X:=A.at 0 rfl;simp only[go_sem,e];refine bW .nil (cyS (.bool (kE f p (bK r)))) a_ ?_;simp only[go_sem,Rq,X,e,u,a7G,y];refine bP rfl (E (bK r) (by rw[eQ]; omega)) Sq a_ ?_;cases hb:kE f p (bK r) with
  | true =>rw[hb,if_pos rfl] at i;simp only[go_sem,Rr,e,u,a7G,y];refine A.append 0 (rows:=mU ((fQ (S.take j)).filter (kE f p))) (src:=[[ints (bK r)]]) rfl Sq (by unfold roomFor; rw[SK]; simp only[a7S,maxLen]; omega) fun v' H' Z _=>?_;simp only[go_sem,dd,wZz j];refine aD (j+1,v',H') ⟨w,?_⟩ (by simp only; omega) (by (repeat' (first|exact c_|refine d_ ?_ ?_))<;>first|(simp only[go_sem,u]<;>rfl)|rfl) b_;simp only;rw[i];unfold mU at Z ⊢;rw[a8G];exact Z
  | false =>rw[hb,if_neg (by decide),a9G] at i;simp only[go_sem,dd,wZz j];refine aD (j+1,v,H) ⟨w,?_⟩ (by simp only; omega) (by (repeat' (first|exact c_|refine d_ ?_ ?_))<;>first|(simp only[go_sem,u]<;>rfl)|rfl) b_;simp only;rw[i];exact A
 ·have e:¬ (j:Int)<(S.length:Nat):=Om;have:j=S.length:=Om;subst this;rw[a8I] at A;simp only[go_sem,e,Rs];exact anD (.inr rfl) Sq (A.sM 0)
structure fi (C:Ctx):Prop extends fh C where
 a5V:∀ (f:aE) (dom:Int),f.Ok→aH C 81 [.agg f.cells,.int .i64 dom] .nil (aF (ints (FK f dom)))
 has:∀ (l:List Int) (x:Int),l.length≤1000000000000000→aH C 218 [ints l,.int .i64 x] .nil (aF (.bool (l.contains x)))
theorem Vy {f:aE} (c:dQ f=true) {lv:Int} {i:Nat} (hi:i<f.a5Y.length) (h:lvl f i=lv):FK f i=bK (nA f lv f.a5V.length i):=by
 unfold FK;rw[if_pos ⟨c,by omega,by omega⟩];subst h;rfl
def xI (f:aE) (lv:Int) (k:Nat):List (List Int):=((a7H k).filter (IQ f lv)).map fun i=>bK (nA f lv f.a5V.length i)
theorem anI (f:aE) (lv:Int) (k:Nat):xI f lv (k+1)=if lvl f k=lv then xI f lv k++[bK (nA f lv f.a5V.length k)] else xI f lv k:=by
 unfold xI;rw[baS,List.filter_append,a8G];by_cases h:lvl f k=lv
 ·rw[if_pos h]; simp[IQ,h]
 ·rw[if_neg h]; simp[IQ,h]
theorem avN (f:aE) (lv:Int) (k:Nat):(xI f lv k).length≤k:=by
 unfold xI;rw[a7G];exact a8V (List.length_filter_le ..) (by simp)
theorem avS {C:Ctx} (L:fi C) (f:aE) (A:f.Ok) (x:dQ f=true) (lv:Int) (E:1≤lv) (h5:lv≤5) :
  DT.wp C (aV Sh.res (bY (lay (fB f lv)))) (PF.args [.agg f.cells,.int .i64 lv]) .nil:=by
 have hV:=VF.of x;have F:=hV.small.a5V;have y:=hV.small.a5Y;simp only[go_sem,DT,C9,Da,Db,Sh];by_cases u:lv=5
 ·subst u;rw[Ee];simp only[go_sem,bL (show (5:Int)=5 from rfl),Dc];refine wp_loop (α:=Nat × PV × PH) (fun s=>(((PF.nil.set 2 (.bH f.cells)).set 5 (s.2.1)).set 6 (.int .i64 s.1))) (fun s=>s.2.2) (fun s=>s.1≤f.a5V.length∧bQ s.2.2 1 s.2.1 (xH s.1)) (fun s=>f.a5V.length-s.1) (0,.aB,.nil) ⟨a7N _,.nil⟩ Lq b_ ?_;rintro⟨k,v,H⟩ ⟨w,p⟩;simp only at w p;simp only[go_sem,C8,Dd,a7G];by_cases hlt:k<f.a5V.length
  ·have d:(k:Int)<(f.a5V.length:Nat):=Om;simp only[go_sem,d,De];refine fI (src:=[[ints [(k:Int)]]]) p (by simp only[go_sem]; rfl) (by unfold roomFor; rw[Cq]; simp only[a7S,maxLen]; omega) fun v' H' l _=>?_;rw[← nu] at l;simp only[go_sem,Df,wZz k];exact aD (k+1,v',H') ⟨hlt,l⟩ (by simp only; omega) Lq b_
  ·have d:¬ (k:Int)<(f.a5V.length:Nat):=Om;have:k=f.a5V.length:=Om;subst this;simp only[go_sem,d,Dg];exact qL (.inr rfl) p Sq
 rw[du f u];simp only[go_sem,bF u,Dh];refine wp_loop (α:=Nat × PV × PH) (fun s=>((((PF.nil.set 1 (.int .i64 lv)).set 2 (.bH f.cells)).set 5 (s.2.1)).set 7 (.int .i64 s.1))) (fun s=>s.2.2) (fun s=>s.1≤f.a5Y.length∧bQ s.2.2 1 s.2.1 (mU (xI f lv s.1))) (fun s=>f.a5Y.length-s.1) (0,.aB,.nil) ⟨a7N _,.nil⟩ Lq b_ ?_;rintro⟨k,v,H⟩ ⟨w,p⟩;simp only at w p;simp only[go_sem,nv,nw,a7G];by_cases hlt:k<f.a5Y.length
 ·have d:(k:Int)<(f.a5Y.length:Nat):=Om;have i:=anI f lv k;have B:=avN f lv k;simp only[go_sem,d,ny,fG hlt,sV hlt];by_cases c:lvl f k=lv
  ·rw[if_pos c] at i;have q:=L.a5V f k A;rw[Vy x hlt c] at q;simp only[go_sem,bL c,nz];refine aA q Sq ?_;simp only[go_sem];refine fI (src:=[[ints (bK (nA f lv f.a5V.length k))]]) p Sq (by unfold roomFor; rw[SK]; simp only[a7S,maxLen]; omega) fun v' H' l _=>?_;have e:mU (xI f lv k)++[[ints (bK (nA f lv f.a5V.length k))]]=mU (xI f lv (k+1)):=by rw[i]; unfold mU; rw[a8G]; rfl
   rw[e] at l;simp only[go_sem,KY,wZz k];exact aD (k+1,v',H') ⟨hlt,l⟩ (by simp only; omega) Lq b_
  ·rw[if_neg c] at i;rw[← i] at p;simp only[go_sem,bF c,KY,wZz k];exact aD (k+1,v,H) ⟨hlt,p⟩ (by simp only; omega) Lq b_
 ·have d:¬ (k:Int)<(f.a5Y.length:Nat):=Om;have:k=f.a5Y.length:=Om;subst this;simp only[go_sem,d,n0];exact qL (.inr rfl) p Sq
theorem aIG {C:Ctx} (L:fi C) (sc:List (List Int)) (H:sc.length≤1000000000000000) (A:∀ s∈sc,s.length≤1000000000000000) (set:List Int) (K:set.length≤1000000000000000) (m:Int) :
  KV.wp C (aV anG.res (aF (.int .i64 (sT sc set m:Nat)))) (PF.args [lay sc,ints set,.int .i64 m]) .nil:=by
 simp only[go_sem,KV,Rw,Rx,Ry,anG];refine wp_loop (α:=Nat) (fun i=>(((((PF.nil.set 0 (lay sc)).set 1 (ints set)).set 2 (.int .i64 m)).set 7 (.int .i64 ((sc.take i).countP fun s=>decide (((iY s set:Nat):Int)>m):Nat))).set 8 (.int .i64 i))) (fun _=>.nil) (fun i=>i≤sc.length) (fun i=>sc.length-i) 0 (a7N _) Lq a_ ?_;intro i hi;simp only[go_sem,Cm,Rz,a7G];by_cases hlt:i<sc.length
 ·have q:(i:Int)<(sc.length:Nat):=Om;have w:(sc.map fun r=>[ints r])[i]?=some [ints sc[i]]:=by simp[hlt]
  have p:=uR (fun s=>decide (((iY s set:Nat):Int)>m)) sc hlt;have k1:=A sc[i] (a7J hlt);have F:(sc.take i).countP (fun s=>decide (((iY s set:Nat):Int)>m))≤i:=a8V List.countP_le_length (by rw[a8A]; omega);generalize (sc.take i).countP (fun s=>decide (((iY s set:Nat):Int)>m))=n at *
  generalize sc[i]=s at *
  simp only[go_sem,q,R0,R1];refine wp_loop (α:=Nat) (fun j=>(((((((PF.nil.set 0 (lay sc)).set 1 (ints set)).set 2 (.int .i64 m)).set 7 (.int .i64 n)).set 8 (.int .i64 i)).set 9 (.int .i64 ((set.take j).countP fun d=>s.contains d:Nat))).set 10 (.int .i64 j))) (fun _=>.nil) (fun j=>j≤set.length) (fun j=>set.length-j) 0 (a7N _) Lq a_ ?_;intro j J;simp only[go_sem,Cl,R2,a7G];by_cases u:j<set.length
  ·have l:(j:Int)<(set.length:Nat):=Om;have y:(set.map fun n=>[PV.int .i64 n])[j]?=some [.int .i64 set[j]]:=by simp[u]
   have e:=uR (fun d=>s.contains d) set u;have E:(set.take j).countP (fun d=>s.contains d)≤j:=a8V List.countP_le_length (by rw[a8A]; omega);generalize (set.take j).countP (fun d=>s.contains d)=b at *
   generalize set[j]=d at *
   simp only[go_sem,l];refine bW .nil (cyS (.bool (s.contains d))) a_ ?_;simp only[go_sem,R3,q,w,a7G,l,y];refine bP rfl (L.has s d k1) Sq a_ ?_;cases B:s.contains d with
   | true =>rw[B] at e;simp only[go_sem,R4,wZz b,df,wZz j];exact aD (j+1) u Om (by (repeat' (first|exact c_|refine d_ ?_ ?_))<;>first|(simp only[go_sem,e,sP]<;>rfl)|rfl) a_
   | false =>rw[B] at e;simp only[go_sem,df,wZz j];exact aD (j+1) u Om (by (repeat' (first|exact c_|refine d_ ?_ ?_))<;>first|(simp only[go_sem,e,sP]<;>rfl)|rfl) a_
  ·have l:¬ (j:Int)<(set.length:Nat):=Om;have:j=set.length:=Om;subst this;have x:set.countP (fun d=>s.contains d)=iY s set:=rfl;rw[a8I,x];by_cases c:((iY s set:Nat):Int)>m
   ·rw[decide_eq_true c] at p;simp only[go_sem,l,SI,c,Cn,wZz n,SJ,wZz i];exact aD (i+1) hlt Om (by (repeat' (first|exact c_|refine d_ ?_ ?_))<;>first|(simp only[go_sem,p,sP]<;>rfl)|rfl) a_
   ·rw[decide_eq_false c] at p;simp only[go_sem,l,SI,c,SJ,wZz i];exact aD (i+1) hlt Om (by (repeat' (first|exact c_|refine d_ ?_ ?_))<;>first|(simp only[go_sem,p,sP]<;>rfl)|rfl) a_
 ·have q:¬ (i:Int)<(sc.length:Nat):=Om;have:i=sc.length:=Om;subst this;rw[a8I];simp only[go_sem,q,Cp];refine aQ (.inr rfl) Ev ?_;rfl
structure FB (C:Ctx):Prop extends fi C where
 units:∀ (f:aE) (lv:Int),f.Ok→dQ f=true→1≤lv→lv≤5→aH C 217 [.agg f.cells,.int .i64 lv] .nil (aF (lay (fB f lv)))
theorem aIL {C:Ctx} {K:bR} [Up K] (L:FB C) (w:PV) (U:List (List Int)) {n:Nat} (W:UOk n U) (S:List (List Nat)) (j:Nat) (Z:j<S.length) (s:List Nat) (X:S[j]?=some s) (J:∀ x∈s,x<U.length) (Y:s.length≤1000) (O v:PV) (d:Nat) {F:PF} {H:PH}
  (R:((((((((((PF.nil.set 2 (w)).set 6 (lay U)).set 9 (lay (fQ S))).set 10 (O)).set 11 (.int .i64 j)).set 12 (v)).set 13 (.int .i64 d)).set 14 (.bool false)).set 15 (.int .i64 0))).le F)
  (V:K (.exit 6) (((((((((PF.nil.set 2 (w)).set 6 (lay U)).set 9 (lay (fQ S))).set 10 (O)).set 11 (.int .i64 j)).set 12 (v)).set 13 (.int .i64 d)).set 14 (.bool (jF U s d)))) H):aC.wp C (.loop SM) K F H:=by
 have p:(j:Int)<(S.length:Nat):=Om;have i:(fQ S).length=S.length:=a7G _;have l:((fQ S).map fun r=>[ints r])[j]?=some [ints (bK s)]:=by unfold fQ; rw[a8F,a8F,X]; rfl
 have q:(bK s).length=s.length:=eQ s;refine wp_loop (α:=Nat) (fun k=>(((((((((PF.nil.set 2 (w)).set 6 (lay U)).set 9 (lay (fQ S))).set 10 (O)).set 11 (.int .i64 j)).set 12 (v)).set 13 (.int .i64 d)).set 14 (.bool (jF U (s.take k) d))).set 15 (.int .i64 k))) (fun _=>H) (fun k=>k≤s.length) (fun k=>s.length-k) 0 (a7N _) R b_ ?_;intro k hk;simp only[go_sem,SM,C5,p,i,a7G,l,q];by_cases hlt:k<s.length
 ·have e:(k:Int)<(s.length:Nat):=Om;have E:((bK s).map fun n=>[PV.int .i64 n])[k]?=some [.int .i64 (s[k]:Nat)]:=uF hlt;have M:=J s[k] (a7J hlt);have N:((s[k]:Nat):Int)<(U.length:Nat):=Om;have B:=W.at_ U[s[k]] (a7J M);have A:U.getD s[k] []=U[s[k]]:=by simp[a7Z,M]
  have y:(U.map fun r=>[ints r])[s[k]]?=some [ints U[s[k]]]:=by simp[M]
  have c:jF U (s.take (k+1)) d=(jF U (s.take k) d||(U[s[k]]).contains (d:Int)):=by unfold jF;rw[a9E hlt,List.any_append,← A]; simp
  generalize U[s[k]]=u at *
  generalize s[k]=x at *
  cases Q:jF U (s.take k) d with
  | true =>rw[Q,Bool.true_or] at c;simp only[go_sem,e,SQ,SR,wZz k];exact aD (k+1) hlt Om (by (repeat' (first|exact c_|refine d_ ?_ ?_))<;>first|(simp only[go_sem,c,i]<;>rfl)|rfl) b_
  | false =>rw[Q,Bool.false_or] at c;simp only[go_sem,e,SQ,p,i,a7G,l,q,E,N,y];refine aA (L.has u d (by have:=B.1; omega)) Sq ?_;simp only[go_sem,SR,wZz k];exact aD (k+1) hlt Om (by (repeat' (first|exact c_|refine d_ ?_ ?_))<;>first|(simp only[go_sem,c,i]<;>rfl)|rfl) b_
 ·have e:¬ (k:Int)<(s.length:Nat):=Om;have:k=s.length:=Om;subst this;rw[a8I];simp only[go_sem,e];exact Up.up (by (repeat' (first|exact c_|refine d_ ?_ ?_))<;>first|(simp only[go_sem,i]<;>rfl)|rfl) V
def dnL (U:List (List Int)) (s:List Nat) (d:Nat):List Int:=bK ((a7H d).filter (jF U s))
theorem aEQ (U:List (List Int)) (s:List Nat) (d:Nat):dnL U s (d+1)=if jF U s d then dnL U s d++[(d:Int)] else dnL U s d:=by
 unfold dnL;rw[baS,List.filter_append,Pj];by_cases h:jF U s d
 ·rw[if_pos h]; simp[bK,h]
 ·rw[if_neg h]; simp[bK,h]
theorem aOT (U:List (List Int)) (s:List Nat) (d:Nat):(dnL U s d).length≤d:=by
 unfold dnL;rw[eQ];exact a8V (List.length_filter_le ..) (by simp)
theorem avR {C:Ctx} {K:bR} [Up K] (L:FB C) (f:aE) (R:f.a5V.length≤24) (U:List (List Int)) {n:Nat} (N:UOk n U) (S:List (List Nat)) (j:Nat) (O:j<S.length) (s:List Nat) (Q:S[j]?=some s) (w:∀ x∈s,x<U.length) (u:s.length≤1000) (p:PV) {F:PF} {H:PH} {Ls:List LI}
  (i:aN H [] Ls)
  (J:((((((((PF.nil.set 2 (.bH f.cells)).set 6 (lay U)).set 9 (lay (fQ S))).set 10 (p)).set 11 (.int .i64 j)).set 12 (.aB)).set 13 (.int .i64 0))).le F)
  (M:∀ v H',aN H' [] (Ls++[(v,1,aY (dnL U s f.a5V.length))])→K (.exit 4) (((((((PF.nil.set 2 (.bH f.cells)).set 6 (lay U)).set 9 (lay (fQ S))).set 10 (p)).set 11 (.int .i64 j)).set 12 (v))) H'):aC.wp C (.loop SN) K F H:=by
 refine wp_loop (α:=Nat × PV × PH) (fun t=>(((((((PF.nil.set 2 (.bH f.cells)).set 6 (lay U)).set 9 (lay (fQ S))).set 10 (p)).set 11 (.int .i64 j)).set 12 (t.2.1)).set 13 (.int .i64 t.1))) (fun t=>t.2.2) (fun t=>t.1≤f.a5V.length∧aN t.2.2 [] (Ls++[(t.2.1,1,aY (dnL U s t.1))])) (fun t=>f.a5V.length-t.1) (0,.aB,H) ⟨a7N _,i.nB 1⟩ J b_ ?_;clear i;rintro⟨d,v,y⟩ ⟨q,i⟩;simp only at q i;simp only[go_sem,SN,C2,a7G];by_cases hlt:d<f.a5V.length
 ·have e:(d:Int)<(f.a5V.length:Nat):=Om;have c:=aEQ U s d;have E:=aOT U s d;simp only[go_sem,e,C3,C4];have inn:=fun {K:bR} [Up K] {F:PF} {H:PH}=>aIL (C:=C) (K:=K) L (.bH f.cells) U N S j O s Q w u p v d (F:=F) (H:=H);refine inn Lq ?_;cases B:jF U s d with
  | true =>
   rw[B,if_pos rfl] at c;simp only[go_sem,SS,C6];refine i.append Ls.length (rows:=aY (dnL U s d)) (src:=[[.int .i64 d]]) (yH _ _ _ rfl) Sq (by unfold roomFor; rw[dC]; simp only[a7S,maxLen]; omega) fun v' H' A _=>?_;have l:aY (dnL U s d)++[[.int .i64 d]]=aY (dnL U s (d+1)):=by rw[c,zP]; rfl
   rw[l,baD _ _ (a7M _),baG] at A;simp only[go_sem,ST,wZz d];exact aD (d+1,v',H') ⟨hlt,A⟩ (by simp only; omega) Lq b_
  | false =>rw[B,if_neg (by decide)] at c;rw[← c] at i;simp only[go_sem,SS,ST,wZz d];exact aD (d+1,v,y) ⟨hlt,i⟩ (by simp only; omega) Lq b_
 ·have e:¬ (d:Int)<(f.a5V.length:Nat):=Om;have:d=f.a5V.length:=Om;subst this;simp only[go_sem,e];exact Up.up Lq (M v y i)
theorem avQ {C:Ctx} {K:bR} [Up K] (L:FB C) (f:aE) (Q:f.a5V.length≤24) (U:List (List Int)) {n:Nat} (O:UOk n U) (S:List (List Nat)) (M:∀ s∈S,s.length≤1000∧∀ x∈s,x<U.length) (N:S.length≤1099511627776) {F:PF} {H:PH}
  (B:((((((PF.nil.set 2 (.bH f.cells)).set 6 (lay U)).set 9 (lay (fQ S))).set 10 (.aB)).set 11 (.int .i64 0))).le F)
  (E:∀ l ps H',aN H' [] (dO l ps)→wls ps=S.map (fun s=>dnL U s f.a5V.length)→K (.exit 2) ((PF.nil.set 10 (l))) H'):aC.wp C (.loop SO) K F H:=by
 refine wp_loop (α:=Nat × PV × WPs × PH) (fun t=>(((((PF.nil.set 2 (.bH f.cells)).set 6 (lay U)).set 9 (lay (fQ S))).set 10 (t.2.1)).set 11 (.int .i64 t.1))) (fun t=>t.2.2.2) (fun t=>t.1≤S.length∧wls t.2.2.1=(S.take t.1).map (fun s=>dnL U s f.a5V.length)∧aN t.2.2.2 [] (dO t.2.1 t.2.2.1)) (fun t=>S.length-t.1) (0,.aB,[],.nil) ⟨a7N _,rfl,aN.sY aN.nil⟩ B a_ ?_;rintro⟨j,l,ps,H⟩ ⟨R,y,A⟩;simp only at R y A;have i:(fQ S).length=S.length:=a7G _;simp only[go_sem,SO,Cz,a7G,i];by_cases hlt:j<S.length
 ·have c:(j:Int)<(S.length:Nat):=Om;obtain⟨s1,s2⟩:=M S[j] (a7J hlt);have V:ps.length≤1099511627776:=by rw[← uP,y,a7G,a8A]; omega
  have w:(S.take (j+1)).map (fun s=>dnL U s f.a5V.length)=wls ps++[dnL U S[j] f.a5V.length]:=by rw[a9E hlt,a8G,← y]; rfl
  have one:=fun {K:bR} [Up K] {F:PF} {H:PH}=>avR (C:=C) (K:=K) L f Q U O S j hlt S[j] (a7U hlt) s2 s1 l (F:=F) (H:=H) (Ls:=dO l ps);simp only[go_sem,c,C0,C1];refine one A (by (repeat' (first|exact c_|refine d_ ?_ ?_))<;>first|(simp only[go_sem,i]<;>rfl)|rfl) fun v H2 h5=>?_;have J:=h5.own (dO l ps).length (yH _ _ _ rfl);generalize dnL U S[j] f.a5V.length=D at *
  have p:roomFor (cY ps).length 1 24:=by unfold roomFor; rw[kX]; simp only[maxLen]; omega
  have fin:∀ (d:PV) (H':PH),aN H' [] ((dO l ps++[(v,1,aY D)]).set 0 (d,1,cY ps++[[v]]))→aN H' [] (dO d (ps++[(v,D)]))∧wls (ps++[(v,D)])=wls ps++[D]:=by
   intro d H' u;refine⟨?_,?_⟩
   ·have e:dO d (ps++[(v,D)])=(dO l ps++[(v,1,aY D)]).set 0 (d,1,cY ps++[[v]]):=by unfold dO cY mN;rw[a8G,a8G];rfl
    rw[e];exact u
   ·unfold wls;rw[a8G]; rfl
  rcases J with ⟨-,rfl⟩ | ⟨q,rs,rfl,-,-,-⟩
  ·simp only[go_sem,SU,a7T,a8B,or_false,forall_eq];refine h5.append 0 (rows:=cY ps) (src:=[[PV.aB]]) rfl Sq p fun d H' u _=>?_;obtain⟨k1,k2⟩:=fin d H' u;simp only[go_sem,SV,wZz j];exact aD (j+1,d,_,H') ⟨hlt,k2.trans w.symm,k1⟩ (by simp only; omega) (by (repeat' (first|exact c_|refine d_ ?_ ?_))<;>first|(simp only[go_sem,i]<;>rfl)|rfl) b_
  ·simp only[go_sem,SU,a7T,a8B,or_false,forall_eq];refine h5.append 0 (rows:=cY ps) (src:=[[PV.osl q 1 0 (aY D).length]]) rfl Sq p fun d H' u _=>?_;obtain⟨k1,k2⟩:=fin d H' u;simp only[go_sem,SV,wZz j];exact aD (j+1,d,_,H') ⟨hlt,k2.trans w.symm,k1⟩ (by simp only; omega) (by (repeat' (first|exact c_|refine d_ ?_ ?_))<;>first|(simp only[go_sem,i]<;>rfl)|rfl) b_
 ·have c:¬ (j:Int)<(S.length:Nat):=Om;have:j=S.length:=Om;subst this;rw[a8I] at y;simp only[go_sem,c];exact Up.up Lq (E l ps H A y)
theorem aIM {C:Ctx} (L:FB C) (f:aE) (X:f.Ok) (lv c:Int) :
  KW.wp C (aV VJ.res (bY (.tup [lay (iD f lv c),.int .i64 (eK f lv c)]))) (PF.args [.agg f.cells,pX lv c]) .nil:=by
 have hB:iD f lv c=if eK f lv c=0 then nP f (fB f lv) c.toNat else []:=rfl
 have A:eK f lv c=if dQ f&&(decide (1≤lv)&&decide (lv≤5)&&decide (1≤c)&&decide (c≤3)) then (if 12<f.a5V.length∨512<dD ((fB f lv).length:Nat) c.toNat then 2 else 0) else 1:=rfl
 have l:∀ (e:Int) (F:PF),e≠0→eK f lv c=e→F 4=some .aB→F 5=some (.int .i64 e)→aV [.tmp 4,.tmp 5] (bY (.tup [lay (iD f lv c),.int .i64 (eK f lv c)])) .ret F .nil:=by intro e F he d h2 h3;rw[d,if_neg he] at hB;rw[hB,d];exact nI (.inr rfl) (by simp only[go_sem,h2,h3]) (aN.sY aN.nil)
 have E:(dQ f&&(decide (1≤lv)&&decide (lv≤5)&&decide (1≤c)&&decide (c≤3)))=false→eK f lv c=1:=fun h=>by rw[A,h]; rfl
 simp only[go_sem,KW,R6,R7,VJ];refine aA (L.valid f X) Ev ?_;cases J:dQ f with
 | false =>have d:=E (by rw[J]; rfl);simp only[go_sem,a7Y,uJ];exact l 1 _ (by decide) d Sq Sq
 | true =>
  have hV:=VF.of J;by_cases w:lv<1
  ·have d:=E (by rw[decide_eq_false (Om:¬ 1≤lv)]; simp);simp only[go_sem,a7L,w,uJ];exact l 1 _ (by decide) d Sq Sq
  by_cases y:lv>5
  ·have d:=E (by rw[decide_eq_false (Om:¬ lv≤5)]; simp);simp only[go_sem,a7L,w,y,uJ];exact l 1 _ (by decide) d Sq Sq
  by_cases H:c<1
  ·have d:=E (by rw[decide_eq_false (Om:¬ 1≤c)]; simp);simp only[go_sem,a7L,w,y,H,uJ];exact l 1 _ (by decide) d Sq Sq
  by_cases M:c>3
  ·have d:=E (by rw[decide_eq_false (Om:¬ c≤3)]; simp);simp only[go_sem,a7L,w,y,H,M,uJ];exact l 1 _ (by decide) d Sq Sq
  obtain⟨n,rfl⟩:∃ n:Nat,c=n:=⟨c.toNat,by omega⟩;rw[J,decide_eq_true (Om:1≤lv),decide_eq_true (Om:lv≤5),decide_eq_true (Om:(1:Int)≤(n:Int)),decide_eq_true (Om:(n:Int)≤3),baJ,baJ,baJ,baJ,if_pos rfl,a9A] at A;rw[a9A] at hB;obtain⟨hU,W⟩:=AG hV lv;have q:=L.units f lv X J Om Om;generalize fB f lv=U at *
  by_cases R:12<f.a5V.length
  ·have d:eK f lv n=2:=by rw[A,if_pos (.inl R)]
   simp only[go_sem,a7L,w,y,H,M,dh,a7G,show (f.a5V.length:Int)>12 by omega,R8];exact l 2 _ (by decide) d Sq Sq
  simp only[go_sem,a7L,w,y,H,M,dh,a7G,show ¬ (f.a5V.length:Int)>12 by omega,R9];refine aA q Ev ?_;simp only[go_sem,Sa,Sb];refine wp_loop (α:=Nat) (fun k=>(((((PF.nil.set 2 (.bH f.cells)).set 3 (.bH [.int .i64 lv,.int .i64 n])).set 6 (lay U)).set 7 (.int .i64 (dD (U.length:Nat) k))).set 8 (.int .i64 k))) (fun _=>.nil) (fun k=>k≤n) (fun k=>n-k) 0 (a7N _) (by (repeat' (first|exact c_|refine d_ ?_ ?_))<;>first|(simp only[go_sem,dD]<;>rfl)|rfl) a_ ?_;intro k hk;have O:U.length≤1000:=Om;simp only[go_sem,Ct,Sd];by_cases hlt:k<n
  ·have p:(k:Int)<(n:Nat):=Om;obtain⟨b1,b2⟩:=wM O (i:=k) Om;have K:=wL O k Om;have hb:((U.length:Int)-(k:Int)).natAbs≤1000:=Om;have B:=baP (a8V K (baL Om (Om:k≤2))) hb;rw[← Int.natAbs_mul] at B;have e:(1000:Nat) ^ 2*1000=1000000000:=by decide
   have w1:IntKind.i64.wrap ((U.length:Int)-(k:Int))=(U.length:Int)-k:=wrap_i64 Om Om;have w2:IntKind.i64.wrap (dD (U.length:Nat) k*((U.length:Int)-(k:Int)))=dD (U.length:Nat) k*((U.length:Int)-k):=wrap_i64 Om Om;have w3:IntKind.i64.wrap ((k:Int)+1)=(k:Int)+1:=wrap_i64 Om Om;have Q:¬ ((k:Int)+1)=0:=Om;obtain⟨b3,b4⟩:=wM O (i:=k+1) Om;have Z:dD (U.length:Nat) (k+1)=a9O (dD (U.length:Nat) k*((U.length:Int)-k)) ((k:Int)+1):=by rw[dD]
   rw[Z] at b3 b4;have w4:IntKind.i64.wrap (a9O (dD (U.length:Nat) k*((U.length:Int)-k)) ((k:Int)+1))=a9O (dD (U.length:Nat) k*((U.length:Int)-k)) ((k:Int)+1):=wrap_i64 Om Om;simp only[go_sem,p,Se,a7G,w1,w2,w3,Q,w4,Cu,wZz k];exact aD (k+1) hlt Om (by (repeat' (first|exact c_|refine d_ ?_ ?_))<;>first|(simp only[go_sem,Z]<;>rfl)|rfl) a_
  have p:¬ (k:Int)<(n:Nat):=Om;have:k=n:=Om;subst this;by_cases V:512<dD (U.length:Nat) k
  ·have d:eK f lv k=2:=by rw[A,if_pos (.inr V)]
   simp only[go_sem,p,SP,show dD (U.length:Nat) k>512 by omega,Cv];exact l 2 _ (by decide) d Sq Sq
  have d:eK f lv k=0:=by rw[A,if_neg (fun h=>h.elim R V)]
  rw[d,if_pos rfl] at hB;rw[hB,d];have N:=L.choose k 0 U.length Om Om Om;have u:=nT U.length k 0;have γ:=rQ U.length k 0;have Y:2 ^ (U.length-0)≤2 ^ 40:=baL Om Om;have β:(2:Nat) ^ 40=1099511627776:=by decide
  have hP:nP f U k=(cQ U.length k 0).map fun s=>dnL U s f.a5V.length:=rfl;rw[hP];generalize cQ U.length k 0=S at *
  simp only[go_sem,p,SP,show ¬ dD (U.length:Nat) k>512 by omega,Cw,a7G];refine aA N (by simp only[go_sem]; rfl) ?_;simp only[go_sem,Cx,Cy];refine avQ (C:=C) L f Om U hU S (fun s K=>⟨by have:=(u s K).1; omega,fun x hx=>((u s K).2.1 x hx).2⟩) Om Lq fun vo ps H' hH hw=>?_;simp only[go_sem,C7];rw[← hw];exact nI (.inr rfl) Sq hH
structure arB (C:Ctx):Prop extends FB C where
 tH:∀ (f:aE) (lv cnt:Int),f.Ok→aH C 219 [.agg f.cells,pX lv cnt] .nil (aF (.tup [lay (iD f lv cnt),.int .i64 (eK f lv cnt)]))
 admis:∀ (f:aE) (a6H:Int) (set:List Int),f.Ok→set.length≤1000000000000000→aH C 214 [.agg f.cells,.int .i64 a6H,ints set] .nil (aF (.bool (pA f a6H set)))
 lost:∀ (sc:List (List Int)) (set:List Int) (m:Int),sc.length≤1000000000000000→(∀ s∈sc,s.length≤1000000000000000)→set.length≤1000000000000000→aH C 220 [lay sc,ints set,.int .i64 m] .nil (aF (.int .i64 (sT sc set m:Nat)))
theorem anE {C:Ctx} (p:arB C) (f:aE) (w:f.Ok) (a6H:Int) (set:List Int) (x:set.length≤1000000000000000) (lv d:Int) :
  AB.wp C (aV ww.res (aF (.tup [.int .i64 (uW f a6H set lv d:Nat),.int .i64 (mR f a6H set lv d)]))) (PF.args [.agg f.cells,.int .i64 a6H,ints set,pX lv d]) .nil:=by
 have hB:uW f a6H set lv d=if mR f a6H set lv d=0 then sT (iD f lv d) set (fY f a6H).m else 0:=rfl
 have e:mR f a6H set lv d=if eK f lv d≠0 then eK f lv d else if pA f a6H set then 0 else 1:=rfl
 simp only[go_sem,AB,nc,ni,ww];refine aA (p.tH f lv d w) Ev ?_;by_cases c:eK f lv d≠0
 ·rw[if_pos c] at e;rw[e,if_neg c] at hB;simp only[go_sem,KU,dN c,nj];refine aQ (.inr rfl) Ev ?_;rw[hB,e]; rfl
 have c:eK f lv d=0:=Decidable.not_not.1 c;rw[if_neg (fun h=>h c)] at e;simp only[go_sem,KU,c,cC (show (0:Int)=0 from rfl),nn];refine aA (p.admis f a6H set w x) Ev ?_;cases i:pA f a6H set with
 | false =>rw[i,if_neg (by decide)] at e;rw[e,if_neg (by decide)] at hB;simp only[go_sem,a7Y,np];refine aQ (.inr rfl) Ev ?_;rw[hB,e]; rfl
 | true =>
  rw[i,if_pos rfl] at e;rw[e,if_pos rfl] at hB;have y:gR f a6H=true:=by unfold pA at i;simp only[a7X] at i;exact i.1
  obtain⟨hV,A,H,F⟩:=pJ y;obtain⟨B,q⟩:=pI y;have l:(f.a5Z.map bS.cells)[a6H.toNat]?=some (fY f a6H).cells:=by rw[a8F,q]; rfl
  have hlt:a6H<(f.a5Z.length:Nat):=Om;have u:iD f lv d=nP f (fB f lv) d.toNat:=by unfold iD; rw[if_pos c]
  obtain⟨k1,k2⟩:=di hV (fB f lv) (AG hV lv).2 d.toNat;rw[← u] at k1 k2;simp only[go_sem,a7L,nr,A,hlt,a7G,l];refine aA (p.lost (iD f lv d) set (fY f a6H).m Om (fun s E=>by have:=(k2 s E).1; omega) x) Ev ?_;simp only[go_sem];refine aQ (.inr rfl) Ev ?_;rw[hB,e]; rfl
structure aqY (C:Ctx):Prop extends aqZ C where
 Ro:∀ (f:aE) (a6H:Int),f.Ok→aH C 216 [.agg f.cells,.int .i64 a6H] .nil (aF (.tup [lay (CH f a6H),.int .i64 (rF f a6H)]))
 VJ:∀ (f:aE) (lv cnt:Int),f.Ok→aH C 219 [.agg f.cells,pX lv cnt] .nil (aF (.tup [lay (iD f lv cnt),.int .i64 (eK f lv cnt)]))
 admis:∀ (f:aE) (a6H:Int) (set:List Int),f.Ok→set.length≤1000000000000000→aH C 204 [.agg f.cells,.int .i64 a6H,ints set] .nil (aF (.bool (pA f a6H set)))
 SC:∀ (f:aE) (a6H:Int) (set:List Int),f.Ok→set.length≤1000000000000000→aH C 214 [.agg f.cells,.int .i64 a6H,ints set] .nil (aF (.bool (pA f a6H set)))
 rloss:∀ (f:aE) (a6H:Int) (set:List Int) (lv cnt:Int),f.Ok→set.length≤1000000000000000→aH C 221 [.agg f.cells,.int .i64 a6H,ints set,pX lv cnt] .nil (aF (.tup [.int .i64 (uW f a6H set lv cnt:Nat),.int .i64 (mR f a6H set lv cnt)]))
theorem W2 (f:aE) (lv c:Int):(iD f lv c).length≤1099511627776∧∀ w∈iD f lv c,w.length≤1000:=by
 unfold iD;split
 ·rename_i h;unfold eK at h;split at h
  ·rename_i e;simp only[a7X] at e;have hV:=VF.of e.1;obtain⟨k1,k2⟩:=di hV (fB f lv) (AG hV lv).2 c.toNat;exact⟨k1,fun w d=>by have:=(k2 w d).1; omega⟩
  ·cases h
 ·exact⟨by simp,fun w d=>by cases d⟩
theorem aHO {C:Ctx} (d:aqY C) (l:List Nat) (y:∀ x∈l,x<256) (A:l.length≤9223372036854775807) (lv c:Int) :
  JZ.wp C (aV Hh.res (aF (.bool true))) (PF.args [.sl 1 (kF l),.int .i64 lv,.int .i64 c]) .nil:=by
 have p:=d.fleet l y A 14 0 (by decide) (by decide);obtain⟨-,q⟩:=Kx (l.take 400) 14 0 0 (by decide) (by decide);generalize (jG (l.take 400) 14 0 0).1=f at *
 obtain⟨a1,a2⟩:=W2 f lv c;have k1:=d.tH f lv c q;have k2:=d.VJ f lv c q;have E:=d.sets (iD f lv c) Om (fun w B=>by have:=a2 w B; omega);simp only[go_sem,JZ,Qm,Qn,Hh];refine aA p (by simp only[go_sem]; rfl) ?_;simp only[go_sem];refine aR fun o F=>?_;simp only[go_sem,Qo];refine aR fun o8 i=>?_;have u:¬ o=o8:=fun e=>by rw[← e,cP] at i; cases i
 simp only[go_sem,a7T,a8B,or_false,forall_eq,forall_eq_or_imp,Qp,u];refine aA k1 Sq ?_;simp only[go_sem,Qq,u];refine aA k2 Sq ?_;simp only[go_sem,Qr,bL (show eK f lv c=eK f lv c from rfl)];refine aA E Sq ?_;simp only[go_sem];refine aA d.aiX Ev ?_;simp only[go_sem];exact dT Sq rfl

end Go.PM
