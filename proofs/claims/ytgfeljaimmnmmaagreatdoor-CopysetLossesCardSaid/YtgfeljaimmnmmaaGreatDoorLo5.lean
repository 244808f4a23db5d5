/-
  Texts of ours, joined: R10W11 R10W12 R11Code R11W1 R11W2 R11W3 R11W4 R11W5 R11W6 L11W14 L11W15 Jn5 Pm40 Pm41 Pm42 CsCode CsPlain CsP2 CyW1 CyW2 CyW3 CyW4 RfCode RfPlain R17Code RhW1 RfW1 RfW2 CyW5 CyW6 CyW7 CsP3 RfP2 RfP3 R. No condition.
-/
import Derived.Test.YtgfeljaimmnmmaaGreatDoorLo1
import Derived.Test.YtgfeljaimmnmmaaGreatDoorLo2
import Derived.Test.YtgfeljaimmnmmaaGreatDoorLo3
import Derived.Test.YtgfeljaimmnmmaaGreatDoorLo4
import Derived.RangeFuncRecord
import Derived.Lib.SlicesCompact
import Derived.Shelf.Sort.Plain
import Derived.Shelf.Slices.CompactI
import Derived.Shelf.Slices.In.SortNone
set_option linter.unusedSimpArgs false
set_option linter.unusedVariables false
open Nat renaming reduceEqDiff → γ, reduceAdd → δ, reduceSub → ε, reduceMul → ζ, reduceLT → η, reduceLeDiff → θ, reduceBEq → τ
open Int renaming reduceLT → ι, reduceLE → κ, reduceEq → μ, reduceToNat → ν, reduceAdd → ξ, reduceNeg → ο, reduceBEq → ρ, reduceBNe → σ
open List renaming reduceReplicate → υ
open List renaming length_map → a7W, range → a7X, getElem_mem → a7Z, replicate → a8A, length_append → a8E, length_singleton → a8I, mem_cons → a8J, getElem?_eq_getElem → a8K, all_eq_true → a8M, getD_eq_getElem?_getD → a8P, length_take → a8Q, not_mem_nil → a8R, take_of_length_le → a8S, getElem?_map → a8V, map_append → a8W, take_length → a8Y, mem_map → a8Z, mem_range → a9A, getElem?_eq_some_iff → a9F, append_assoc → a9G, drop_zero → a9H, getElem_of_mem → a9I, map_cons → a9L, getElem?_eq_none → a9N, length_cons → a9O, getElem_map → a9R, mem_append → a9S, take_succ_eq_append_getElem → a9U, append_nil → a9W, drop_eq_getElem_cons → a9X, range' → a9Y, length_drop → a9Z, Sublist → baA, length_set → baB, map_nil → baF, length_nil → baM, mem_singleton → baN, getElem?_append_right → baO, getElem?_append_left → baP, nodup_append → baQ, mem_of_getElem? → baS, set_append_right → baT, take_append_drop → baU, ext_getElem → bbE, range_succ → bbI, getElem?_take → bbK, drop_of_length_le → bbQ, map_congr_left → bbR, set_cons_zero → bbS, length_filter_le → bbT, getElem_append_right → bbU
open Nat renaming gcd → a7Y, zero_le → a8C, le_refl → a8D, mul_add → a8L, lt_or_ge → a8T, zero_add → a8U, mul_assoc → a8X, mul_comm → a9B, add_mul → a9C, mul_le_mul_right → a9D, le_trans → a9J, mod_eq_of_lt → a9K, mod_lt → a9P, pow_succ → a9T, add_zero → baC, eq_zero_or_pos → baG, add_assoc → baH, min_eq_left → baI, mul_le_mul_left → baJ, pos_of_ne_zero → baK, pow_pos → baR, div_le_self → baV, pow_le_pow_right → baW, sub_self → baX, div_lt_iff_lt_mul → bbB, succ_mul → bbC, mul_le_mul → bbF, div_add_mod → bbL, div_eq_of_lt → bbM
open Bool renaming not_true → a8B, false_and → a8F, true_and → a8H, not_false → a8N, and_eq_true → a8O, and_false → a9E, and_true → baD, and_assoc → baZ, and_self → bbA, false_eq_true → bbH
open Option renaming map_eq_some_iff → a8G, map_some → a9M, some → baL, getD_some → baY, bind_eq_some_iff → bbN, bind_some → bbO
open Int renaming toNat_natCast → a9Q, tdiv → baE
open Array renaming replicate → a9V, length_toList → bbD, getElem?_eq_some_iff → bbG, getElem?_eq_getElem → bbJ, getD_eq_getD_getElem? → bbP
namespace Go.PM
open Go Go.Na
def qO (r:cD):Bool:=(r.name==[])&&((r.level==0)&&((r.parent==-1)&&((r.a7F==0)&&(cU (val r.a7A.num) (val r.a7A.den)&&(rG r.a7A==0)))))
def aoA (f:aE):Bool:=match f.a6O with
 | []=>false
 | r::_=>qO r
def aIT (f:aE):Bool:=within f.a7P 1 4&&(pR f.a6S.length f.a6M.length f.a6O.length f.a6L.length f.a6P.length f.a6N.length&&(decide (0<f.a6O.length)&&((((((IQ f&&yK f)&&aoA f)&&wV f)&&yB f)&&nb f)&&In f)))
theorem Yd (n:Nat) (p q:Nat→Bool):(a7X n).all (fun i=>p i&&q i)=((a7X n).all p&&(a7X n).all q):=by
 induction n with
 | zero=>rfl
 | succ n c =>simp only[bbI,List.all_append,c,List.all_cons,List.all_nil,baD];cases (a7X n).all p<;>cases (a7X n).all q<;>cases p n<;>simp
theorem yX {α:Type} (l:List α) (p:α→Bool):(a7X l.length).all (fun i=>(l.map p).getD i false)=l.all p:=by
 refine Bool.eq_iff_iff.2 ?_;rw[a8M,a8M];constructor
 ·intro h x c;obtain⟨i,hi,rfl⟩:=a9I c;have:=h i (a9A.2 hi);simpa [a8P,hi] using this
 ·intro h i hi;have hi:=a9A.1 hi;simp[a8P,hi,h _ (a7Z hi)]
theorem FX (ns:List (List UInt8)) (n:Nat) (c:ns.length=n) (P:Nat→Bool):(a7X n).all (okL [] ns P)=(distinct ns&&(a7X n).all P):=by
 subst c;have:okL [] ns P=fun i=>(isName (ns.getD i [])&&!(ns.take i).contains (ns.getD i []))&&P i:=by funext i;rfl
 rw[this,Yd];rfl
theorem aRP (base ns:List (List UInt8)) (P Q:Nat→Bool):((a7X base.length).all (okL [] base P)&&(a7X ns.length).all (okL base ns Q))=(distinct (base++ns)&&((a7X base.length).all P&&(a7X ns.length).all Q)):=by
 have c:okL base ns Q=fun i=>(isName (ns.getD i [])&&!(base++ns.take i).contains (ns.getD i []))&&Q i:=by funext i;rfl
 have d:distinct (base++ns)=(distinct base&&(a7X ns.length).all fun i=>isName (ns.getD i [])&&!(base++ns.take i).contains (ns.getD i [])):=by
  unfold distinct;rw[a8E,List.range_add,List.all_append,List.all_map];congr 1
  ·refine Bool.eq_iff_iff.2 ?_;rw[a8M,a8M];refine forall_congr' fun i=>forall_congr' fun hi=>?_;have hi:=a9A.1 hi;have a1:(base++ns).getD i []=base.getD i []:=by simp only[a8P];rw[baP hi]
   have a2:(base++ns).take i=base.take i:=by rw[List.take_append_of_le_length Om]
   rw[a1,a2]
  ·refine Bool.eq_iff_iff.2 ?_;rw[a8M,a8M];refine forall_congr' fun i=>forall_congr' fun _=>?_;have a1:(base++ns).getD (base.length+i) []=ns.getD i []:=by simp only[a8P];rw[baO Om];congr 2;omega
   have a2:(base++ns).take (base.length+i)=base++ns.take i:=by rw[List.take_append,a8S Om]; congr 2; omega
   simp only[Function.comp,a1,a2]
 rw[FX base base.length rfl P,c,Yd,d];cases distinct base<;>cases (a7X base.length).all P<;>simp
theorem aIZ (r:cD):(decide (r.name=[])&&decide (r.level=0)&&decide (r.parent=-1)&&decide (r.a7F=0)&&cS r.a7A&&!bG r.a7A)=qO r:=by
 have i:decide (r.name=[])=(r.name==[]):=by cases r.name<;>rfl
 have l:decide (r.level=0)=(r.level==0):=by generalize r.level=x; by_cases h:x=0<;>simp[h]
 have p:decide (r.parent=-1)=(r.parent==-1):=by generalize r.parent=x; by_cases h:x=-1<;>simp[h]
 have q:decide (r.a7F=0)=(r.a7F==0):=by generalize r.a7F=x; by_cases h:x=0<;>simp[h]
 have h5:(cS r.a7A&&!bG r.a7A)=(cU (val r.a7A.num) (val r.a7A.den)&&(rG r.a7A==0)):=by
  rw[LE];by_cases h:val r.a7A.num=0
  ·have d:bG r.a7A=false:=by unfold bG; simp[h]
   rw[d];simp only[a8N,baD];cases c:cU (val r.a7A.num) (val r.a7A.den) with
   | false =>unfold cS oR;rw[c];rfl
   | true =>
    obtain⟨w,-,-⟩:=fR.1 c;unfold cS oR;rw[c,if_pos rfl,br c,h];unfold mP;have u:val r.a7A.den/a7Y 0 (val r.a7A.den)=1:=by rw[Nat.gcd_zero_left,Nat.div_self (baK w)]
    have e:cM (0/a7Y 0 (val r.a7A.den))=0:=by rw[Nat.zero_div]; exact jM
    have b1:cM 1=1:=by rw[pG (by decide),jM]
    simp only[u,e,b1];simp
  ·have d:bG r.a7A=true:=by unfold bG; simp[h]
   rw[d];simp
 unfold qO;rw[i,l,p,q];simp only[baZ] at h5 ⊢;rw[h5]
theorem aFM (f:aE) {r:cD} {t:List cD} (h:f.a6O=r::t):BC f r t=(qO r&&(a7X t.length).all (wU f)):=by
 unfold BC;rw[aIZ];congr 2;funext i;unfold wU;rw[h,List.getElem?_cons_succ];cases t[i]? with
 | none=>rfl
 | some d=>exact aPM f i d
theorem asT (f:aE):f.a6L.all (iR f)=(a7X f.a6L.length).all (uU f):=by
 have:uU f=fun i=>(f.a6L.map (iR f)).getD i false:=by
  funext i;unfold uU;rw[a8P,a8V];cases f.a6L[i]? with
  | none=>rfl
  | some d =>
   show Ks f d=iR f d;unfold Ks iR;have:decide ((f.a6O.map cD.level).getD d.machine.toNat 0=4)=((f.a6O.map cD.level).getD d.machine.toNat 0==4):=by generalize (f.a6O.map cD.level).getD d.machine.toNat 0=u;by_cases h:u=4<;>simp[h]
   rw[this,baZ]
 rw[this,yX]
theorem avY (f:aE):f.a6P.all (jI f.a6M.length)=(a7X f.a6P.length).all (KG f):=by
 have:KG f=fun i=>(f.a6P.map (jI f.a6M.length)).getD i false:=by
  funext i;unfold KG;rw[a8P,a8V];cases f.a6P[i]? with
  | none=>rfl
  | some d=>exact (aRV _ d).symm
 rw[this,yX]
theorem aSC (f:aE):aIT f=dS f:=by
 have N:wb f.a6S.length=kB f:=by funext m;unfold wb kB;rw[baZ]
 have A:Vc f.a6P.length=oC f:=rfl;have O:(within f.a7P 1 4&&pR f.a6S.length f.a6M.length f.a6O.length f.a6L.length f.a6P.length f.a6N.length)=nF f:=by unfold nF pR;simp only[baZ]
 unfold aIT dS IQ yK nb In;rw[FX _ _ (by rw[a7W]),FX _ _ (by rw[a7W]),FX _ _ (by rw[kT,a7W]),FX _ _ (by rw[a7W]),yX,yX,yX,N,A,avY,asT,← baZ,O];unfold nN aoA;cases l:f.a6O with
 | nil=>simp
 | cons r t =>
  have i:decide (0<f.a6O.length)=true:=by rw[l]; simp
  rw[l] at i;rw[i,a8H];simp only;rw[aFM f l];have y:gS f=(f.a6O.drop 1).map cD.name:=rfl;rw[l] at y;have M:(gS f).length=t.length:=by rw[y]; simp
  have p:=aRP (gS f) (lS f) (wU f) (uU f);rw[M,show (lS f).length=f.a6L.length by simp[lS]] at p;have J:wV f=(a7X t.length).all (okL [] (gS f) (wU f)):=by unfold wV;rw[l];rfl
  have K:yB f=(a7X f.a6L.length).all (okL (gS f) (lS f) (uU f)):=rfl;rw[J,K,← y];rw[show f.a6L.map dH.name=lS f from rfl,show f.a6P.map bS.name=kT f from rfl];generalize (a7X t.length).all (okL [] (gS f) (wU f))=a at *
  generalize (a7X f.a6L.length).all (okL (gS f) (lS f) (uU f))=b at *
  generalize distinct (gS f++lS f)=c at *
  generalize (a7X t.length).all (wU f)=d at *
  generalize (a7X f.a6L.length).all (uU f)=e at *
  generalize nF f=s;generalize qO r=ro;generalize distinct (f.a6S.map cE.name)=q;generalize f.a6S.all jZ=u;generalize distinct (f.a6M.map cT.name)=w;generalize f.a6M.all (kB f)=x;generalize distinct (kT f)=B;generalize (a7X f.a6P.length).all (KG f)=E;generalize distinct (f.a6N.map eW.name)=F;generalize f.a6N.all (oC f)=H;have:(s&&(((((((q&&u)&&(w&&x))&&ro)&&a)&&b)&&(B&&E))&&(F&&H)))=(s&&(ro&&((q&&u)&&((w&&x)&&((a&&b)&&((B&&E)&&(F&&H))))))):=by cases s<;>cases ro<;>cases q<;>cases u<;>cases w<;>cases x<;>simp[baZ]
  rw[this,p];cases s<;>cases ro<;>cases q<;>cases u<;>cases w<;>cases x<;>cases c<;>cases d<;>cases e<;>simp;cases B<;>cases E<;>cases F<;>cases H<;>rfl
theorem aIY (f:aE) (h:0<f.a6O.length):aoA f=qO f.a6O[0]:=by
 obtain⟨a,b,c,d,e,g,i⟩:=f;cases d with
 | nil=>simp at h
 | cons r t=>rfl
theorem aDS {C:Ctx} (L:UM C) (f:aE) (l:f.Ok):FA.wp C (aV tt.res (aF (.bool (dS f)))) (PF.args [.agg f.cells]) .nil:=by
 have i:=aSC f;unfold aIT at i;have fail:∀ (F:PF) (H:PH),dS f=false→F 2=some (.bool false)→aV [.tmp 2] (aF (.bool (dS f))) .ret F H:=fun F H e h=>by rw[e];exact bA (vs:=[.bool false]) (.inr rfl) .nil (by simp only[go_sem,h]) a_ ⟨rfl,rfl⟩
 simp only[go_sem,FA,Gz,G1,tt];refine aA (L.inn f.a7P 1 4) rfl ?_;cases Q:within f.a7P 1 4 with
 | false =>rw[Q,a8F] at i;simp only[go_sem,a8N,CG];exact fail _ _ i.symm rfl
 | true =>
 rw[Q,a8H] at i;simp only[go_sem,a8B,a7W];refine aA (L.sizes f.a6S.length f.a6M.length f.a6O.length f.a6L.length f.a6P.length f.a6N.length) rfl ?_;cases k1:pR f.a6S.length f.a6M.length f.a6O.length f.a6L.length f.a6P.length f.a6N.length with
 | false =>rw[k1,a8F] at i;simp only[go_sem,a8N,CG];exact fail _ _ i.symm rfl
 | true =>
 rw[k1,a8H] at i;obtain⟨J,u,x,K,M,W⟩:=TB k1;by_cases h0:f.a6O.length=0
 ·rw[decide_eq_false Om,a8F] at i;simp only[go_sem,a8B,a7W,bL (Om:(f.a6O.length:Int)=0),CG];exact fail _ _ i.symm rfl
 have d:0<f.a6O.length:=Om;rw[decide_eq_true d,a8H] at i;simp only[go_sem,a8B,a7W,bF (Om:(f.a6O.length:Int)≠0),G2,G3,G4];refine aUU L.topW f l J _ _ _ Lq fun X=>?_;simp only[go_sem,tu];refine aDR L.topW f l k1 (IQ f) _ _ _ Lq fun H2=>?_;have B:=fG d;have q:=(l.dom _ (a7Z d)).1;have E:=aIY f d;rw[E] at i;generalize f.a6O[0]=r at *
 have rest:∀ (c:Bool) (F:PF) (H:PH),((((((PF.nil.set 1 (.bH f.cells)).set 5 (.aB)).set 6 (.aB)).set 7 (.aB)).set 8 (.bool c)):PF).le F→c=((IQ f&&yK f)&&qO r) →
   aC.wp C (.seq (.seq (.region MX) (.block 4 (.loop xT))) (.seq (.seq (.region MZ) (.block 6 (.loop xU))) (.seq (.seq (.region NB) (.block 8 (.loop xW))) (.seq (.seq (.region NG) (.block 14 (.loop xX))) (.seq (.region NJ) .ret))))) (aV [.tmp 2] (aF (.bool (dS f)))) F H:=by
  intro c F H S V;refine xS _ (fun _ _ _ _ a b=>Up.up a b) S ?_;simp only[go_sem,MX];refine aUT L.topW f l x d c _ _ _ Lq fun w R U=>?_;simp only[go_sem,MZ];refine aDQ L.topW f l x d K u (c&&wV f) w _ _ _ U Lq fun Y=>?_;simp only[go_sem,NB];refine aUV L f l M u ((c&&wV f)&&yB f) _ _ _ Lq fun Z=>?_;simp only[go_sem,NG];refine aUW L.topW f l k1 (((c&&wV f)&&yB f)&&nb f) _ _ _ Lq fun H6=>?_;simp only[go_sem,NJ];refine bA (vs:=[.bool (dS f)]) (.inr rfl) .nil ?_ a_ ⟨rfl,rfl⟩;rw[← i,V];simp only[go_sem]
 simp only[aC.wp,go_sem] at rest;simp only[go_sem,tz,B];refine aR fun o ho=>?_;have g0:(H2.set o (.rows 7 [r.cells])) o=some (.rows 7 [r.cells]):=cO ..;simp only[go_sem];generalize H2.set o (.rows 7 [r.cells])=R at *
 cases k2:(IQ f&&yK f) with
 | false =>simp only[go_sem,MW];exact rest false _ _ Lq (by rw[k2]; rfl)
 | true =>
  simp only[go_sem,MW,g0];cases p:r.name==[] with
  | false =>simp only[go_sem];exact rest false _ _ Lq (by rw[k2]; unfold qO; rw[p]; rfl)
  | true =>
   simp only[go_sem,g0];cases y:r.level==0 with
   | false =>simp only[go_sem];exact rest false _ _ Lq (by rw[k2]; unfold qO; rw[p,y]; rfl)
   | true =>
    simp only[go_sem,g0];cases A:r.parent==-1 with
    | false =>simp only[go_sem];exact rest false _ _ Lq (by rw[k2]; unfold qO; rw[p,y,A]; rfl)
    | true =>
     simp only[go_sem,g0];cases N:r.a7F==0 with
     | false =>simp only[go_sem];exact rest false _ _ Lq (by rw[k2]; unfold qO; rw[p,y,A,N]; rfl)
     | true =>
      simp only[go_sem,g0];refine aA (L.valid _ q) rfl ?_;cases O:cU (val r.a7A.num) (val r.a7A.den) with
      | false =>simp only[go_sem];exact rest false _ _ Lq (by rw[k2]; unfold qO; rw[p,y,A,N,O]; rfl)
      | true =>simp only[go_sem,g0];refine aA (L.sign _ q O) rfl ?_;simp only[go_sem];exact rest _ _ _ Lq (by rw[k2]; unfold qO; rw[p,y,A,N,O]; rfl)
def aJP:Rg:=[iA 2 (.box true (Tm 0)),iZ 4]
def aJQ:Rg:=[iO 8 7 2,iK 9 67 8,iA 10 (.un .not (Tm 9))]
def aJR:Rg:=[iZ 4]
def aJS:Rg:=[iZ 5]
def aJT:Rg:=[iI 6 0]
def aJU:Rg:=[iM 11 6,iF 12 4 2,iL 13 12,iN 14 13,iB 15 .lss 11 14]
def aJV:Rd:=[(iF 18 2 2,false),(iL 19 18,false),(iF 20 4 2,false),(iL 21 20,false),(iM 22 6,false),(iX 23 3 21 22,false),(iF 24 1 23,false),(iL 25 24,false),(iX 26 4 19 25,false),(iF 27 1 26,false),(iL 28 27,false),(iM 7 28,false)]
def aJW:Rg:=[iM 29 1,iN 30 29,iF 31 4 2,iL 32 31,iN 33 32,iB 34 .eql 30 33]
def aJX:Rg:=[iM 35 1,iM 36 6,iX 37 1 35 36,iL 38 37,iM 39 7,iA 40 (.a7G false (Tm 38) (Tm 39)),iA 41 (.a7G true (Ci 0) (Tm 40)),iM 7 41]
def aJY:Rg:=[iM 42 5,iM 43 7,iA 44 (.a6R true 1 1 [zI] [(0,(Tm 43))]),iA 45 (.append 1 8 (Tm 42) (Tm 44)),iM 5 45]
def axX:Rg:=[iM 16 6,iC 17 .add 16 1,iM 6 17]
def axW:aC:=(.seq (sq aJU (.cond (Tm 15) .skip (.exit 0))) (.seq (.block 1 (dq aJV (.seq (sq aJW (.cond (Tm 34) (.region aJX) .skip)) (.region aJY)))) (.region axX)))
def axY:Rg:=[iM 46 5,iM 4 46]
def aoP:aC:=(sq aJP (.seq (sq aJQ (.cond (Tm 10) (sq aJR .ret) .skip)) (sq aJS (.seq (sq aJT (.block 0 (.loop axW))) (sq axY .ret)))))
def a0V:aS:=⟨2,47,aoP,[.tmp 4]⟩
def D3:Rg:=[iA 3 (.box true (Tm 0)),iI 6 0]
def D4:Rg:=[iF 8 4 3,iL 9 8,iM 10 1,iX 11 3 9 10,iF 12 2 11,iL 13 12,iM 7 13]
def D5:Rg:=[iF 14 3 3,iL 15 14,iM 16 7,iX 17 7 15 16,iF 18 1 17,iL 19 18,iM 20 2,iB 21 .gtr 19 20]
def D6:Rg:=[iF 22 3 3,iL 23 22,iM 24 7,iX 25 7 23 24,iF 26 2 25,iL 27 26,iM 7 27]
def D2:aC:=(.seq (sq D5 (.cond (Tm 21) .skip (.exit 0))) (.block 1 (.region D6)))
def D7:Rg:=[iM 28 7,iM 6 28]
def DU:aC:=(sq D3 (sq D4 (.seq (.block 0 (.loop D2)) (sq D7 .ret))))
def awO:List Nat:=[3]
def pd:aS:=⟨3,29,DU,[.tmp 6]⟩
def aXA:Rg:=[iA 3 (.box true (Tm 0)),iI 6 0]
def aXB:Rg:=[iO 7 7 3,iK 8 67 7,iA 9 (.un .not (Tm 8)),iM 10 9,gM 11 1 10 false,gC 12 .lss 11 0 10 false,iQ 13 10 12,iM 14 13,gM 15 1 14 false,gF 16 4 3 14 false,gL 17 16 14 false,gN 18 17 14 false,gB 19 .geq 15 18 14 false,iQ 20 14 19,iM 21 20,gM 22 2 21 false,gC 23 .lss 22 0 21 false,iQ 24 21 23,iM 25 24,gM 26 2 25 false,gC 27 .gtr 26 4 25 false,iQ 28 25 27]
def aXC:Rg:=[iI 6 (-1)]
def aXD:Rg:=[iO 29 7 3,iM 30 1,iM 31 2,iA 32 (.call 88 [(Tm 29),(Tm 30),(Tm 31)]),iM 6 32]
def aJF:aC:=(sq aXA (.seq (sq aXB (.cond (Tm 28) (sq aXC .ret) .skip)) (sq aXD .ret)))
def sat:aS:=⟨3,33,aJF,[.tmp 6]⟩
def pj:Rg:=[iA 2 (.box true (Tm 0)),iZ 4]
def pn:Rg:=[iZ 5]
def po:Rg:=[iO 7 7 2,iK 8 67 7,iA 9 (.un .not (Tm 8)),iM 10 9,gM 11 1 10 false,gC 12 .lss 11 0 10 false,iQ 13 10 12,iM 14 13,gM 15 1 14 false,gF 16 3 2 14 false,gL 17 16 14 false,gN 18 17 14 false,gB 19 .geq 15 18 14 false,iQ 20 14 19]
def xL:Rg:=[iZ 4]
def pq:Rg:=[iI 6 0]
def pt:Rg:=[iM 21 6,iF 22 4 2,iL 23 22,iN 24 23,iB 25 .lss 21 24]
def pu:Rd:=[(iO 28 7 2,false),(iM 29 6,false),(iF 30 3 2,false),(iL 31 30,false),(iM 32 1,false),(iX 33 7 31 32,false),(iF 34 1 33,false),(iL 35 34,false),(iA 36 (.call 88 [(Tm 28),(Tm 29),(Tm 35)]),true),(iM 37 1,true),(iB 38 .eql 36 37,false)]
def pw:Rg:=[iM 39 5,iM 40 6,iA 41 (.a6R true 1 1 [zI] [(0,(Tm 40))]),iA 42 (.append 1 8 (Tm 39) (Tm 41)),iM 5 42]
def KY:Rg:=[iM 26 6,iC 27 .add 26 1,iM 6 27]
def pi:aC:=(.seq (sq pt (.cond (Tm 25) .skip (.exit 0))) (.seq (.block 1 (dq pu (.cond (Tm 38) (.region pw) .skip))) (.region KY)))
def YF:Rg:=[iM 43 5,iM 4 43]
def AE:aC:=(sq pj (sq pn (.seq (sq po (.cond (Tm 20) (sq xL .ret) .skip)) (.seq (sq pq (.block 0 (.loop pi))) (sq YF .ret)))))
def aoF:List Nat:=[2,41]
def VK:aS:=⟨2,44,AE,[.tmp 4]⟩
def awS:Rg:=[iA 2 (.box true (Tm 0)),iZ 4]
def awT:Rg:=[iZ 5]
def awU:Rg:=[iO 7 7 2,iK 8 67 7,iA 9 (.un .not (Tm 8)),iM 10 9,gM 11 1 10 false,gC 12 .lss 11 0 10 false,iQ 13 10 12]
def awV:Rg:=[iZ 4]
def awW:Rg:=[iI 6 1]
def awX:Rg:=[iM 14 6,iF 15 3 2,iL 16 15,iN 17 16,iB 18 .lss 14 17]
def awY:Rg:=[iF 21 3 2,iL 22 21,iM 23 6,iX 24 7 22 23,iF 25 2 24,iL 26 25,iM 27 1,iB 28 .eql 26 27]
def awZ:Rg:=[iM 29 5,iM 30 6,iA 31 (.a6R true 1 1 [zI] [(0,(Tm 30))]),iA 32 (.append 1 8 (Tm 29) (Tm 31)),iM 5 32]
def axA:Rg:=[iM 19 6,iC 20 .add 19 1,iM 6 20]
def awR:aC:=(.seq (sq awX (.cond (Tm 18) .skip (.exit 0))) (.seq (.block 1 (sq awY (.cond (Tm 28) (.region awZ) .skip))) (.region axA)))
def aoD:Rg:=[iM 33 5,iM 4 33]
def Xk:aC:=(sq awS (sq awT (.seq (sq awU (.cond (Tm 13) (sq awV .ret) .skip)) (.seq (sq awW (.block 0 (.loop awR))) (sq aoD .ret)))))
def aXF:aS:=⟨2,34,Xk,[.tmp 4]⟩
def axL:Rg:=[iA 2 (.box true (Tm 0)),iZ 4]
def axM:Rg:=[iO 8 7 2,iK 9 67 8,iA 10 (.un .not (Tm 9))]
def axN:Rg:=[iZ 4]
def axO:Rg:=[iF 11 4 2,iL 12 11,iN 13 12,iA 14 (.a6T 1 8 [zI] (Tm 13) (Tm 13)),iM 5 14]
def axP:Rg:=[iI 6 0]
def axQ:Rg:=[iM 15 6,iM 16 1,iN 17 16,iB 18 .lss 15 17]
def axR:Rg:=[iI 7 0]
def axS:Rg:=[iM 21 7,iM 22 1,iM 23 6,iX 24 1 22 23,iL 25 24,iN 26 25,iB 27 .lss 21 26]
def axT:Rg:=[iM 30 1,iM 31 6,iX 32 1 30 31,iL 33 32,iM 34 7,iX 35 1 33 34,iL 36 35,iC 37 .geq 36 0,iM 38 37,gM 39 1 38 true,gM 40 6 38 true,iG 41 (.a7C 1 (Tm 39) (Tm 40)) 38 true,gL 42 41 38 true,gM 43 7 38 true,iG 44 (.a7C 1 (Tm 42) (Tm 43)) 38 true,gL 45 44 38 true,gM 46 5 38 true,gN 47 46 38 true,gB 48 .lss 45 47 38 true,iP 49 38 48]
def axU:Rg:=[iM 50 5,iM 51 1,iM 52 6,iX 53 1 51 52,iL 54 53,iM 55 7,iX 56 1 54 55,iL 57 56,iX 58 1 50 57,iL 59 58,iC 60 .add 59 1,iX 61 1 50 57,iS 1 61 60]
def aoL:Rg:=[iM 28 7,iC 29 .add 28 1,iM 7 29]
def aoJ:aC:=(.seq (sq axS (.cond (Tm 27) .skip (.exit 2))) (.seq (.block 3 (sq axT (.cond (Tm 49) (.region axU) .skip))) (.region aoL)))
def aoM:Rg:=[iM 19 6,iC 20 .add 19 1,iM 6 20]
def aoK:aC:=(.seq (sq axQ (.cond (Tm 18) .skip (.exit 0))) (.seq (.block 1 (sq axR (.block 2 (.loop aoJ)))) (.region aoM)))
def aoN:Rg:=[iM 62 5,iM 4 62]
def Xn:aC:=(sq axL (.seq (sq axM (.cond (Tm 10) (sq axN .ret) .skip)) (sq axO (.seq (sq axP (.block 0 (.loop aoK))) (sq aoN .ret)))))
def aXN:aS:=⟨2,63,Xn,[.tmp 4]⟩
def aSQ:Rg:=[iA 2 (.box true (Tm 0)),iI 4 0]
def aSR:Rg:=[iI 5 0]
def aSS:Rg:=[iM 6 5,iM 7 1,iN 8 7,iB 9 .lss 6 8]
def aST:Rd:=[(iM 12 1,false),(iM 13 5,false),(iX 14 1 12 13,false),(iL 15 14,false),(iC 16 .lss 15 (-1),false),(iM 17 16,false),(gM 18 1 17 false,false),(gM 19 5 17 false,false),(iG 20 (.a7C 1 (Tm 18) (Tm 19)) 17 false,false),(gL 21 20 17 false,false),(gF 22 4 2 17 false,false),(gL 23 22 17 false,false),(gN 24 23 17 false,false),(gB 25 .geq 21 24 17 false,false),(iQ 26 17 25,false)]
def aSU:Rg:=[iM 27 5,iM 4 27]
def aSV:Rg:=[iM 10 5,iC 11 .add 10 1,iM 5 11]
def aSP:aC:=(.seq (sq aSS (.cond (Tm 9) .skip (.exit 0))) (.seq (.block 1 (dq aST (.cond (Tm 26) (sq aSU .ret) .skip))) (.region aSV)))
def aSW:Rg:=[iI 4 (-1)]
def awQ:aC:=(sq aSQ (.seq (sq aSR (.block 0 (.loop aSP))) (sq aSW .ret)))
def a4C:aS:=⟨2,28,awQ,[.tmp 4]⟩
def aoR:Rg:=[iA 2 (.box true (Tm 0)),iT 4 false]
def aoS:Rg:=[iO 6 7 2,iK 7 67 6,iA 8 (.un .not (Tm 7)),iM 9 8,gM 10 1 9 false,gN 11 10 9 false,gF 12 6 2 9 false,gL 13 12 9 false,gN 14 13 9 false,gB 15 .neq 11 14 9 false,iQ 16 9 15]
def aoT:Rg:=[iT 4 false]
def aoU:Rg:=[iI 5 0]
def aoV:Rg:=[iM 17 5,iM 18 1,iN 19 18,iB 20 .lss 17 19]
def aoW:Rd:=[(iM 23 1,true),(iM 24 5,true),(iX 25 1 23 24,true),(iL 26 25,true),(iN 27 26,true),(iO 28 7 2,false),(iM 29 5,false),(iK2 30 82 28 29,true),(iB 31 .neq 27 30,false),(iM 32 31,false),(gO 33 7 2 32 false,false),(gM 34 1 32 false,false),(gM 35 5 32 false,false),(iG 36 (.a7C 1 (Tm 34) (Tm 35)) 32 false,false),(gL 37 36 32 false,false),(gK2 38 89 33 37 32 false,true),(gC 39 .geq 38 0 32 false,false),(iQ 40 32 39,false)]
def aoX:Rg:=[iT 4 false]
def aoY:Rg:=[iM 21 5,iC 22 .add 21 1,iM 5 22]
def aoQ:aC:=(.seq (sq aoV (.cond (Tm 20) .skip (.exit 0))) (.seq (.block 1 (dq aoW (.cond (Tm 40) (sq aoX .ret) .skip))) (.region aoY)))
def aoZ:Rg:=[iT 4 true]
def S8:aC:=(sq aoR (.seq (sq aoS (.cond (Tm 16) (sq aoT .ret) .skip)) (.seq (sq aoU (.block 0 (.loop aoQ))) (sq aoZ .ret))))
def aTO:aS:=⟨2,41,S8,[.tmp 4]⟩
def XY:Rg:=[iA 3 (.box true (Tm 0)),iA 4 (.box true (Tm 1)),iT 6 false]
def XZ:Rg:=[iI 7 0]
def YA:Rg:=[iM 8 7,iF 9 9 3,iL 10 9,iN 11 10,iB 12 .lss 8 11]
def DW:Rd:=[(iF 15 9 3,false),(iL 16 15,false),(iM 17 7,false),(iX 18 1 16 17,false),(iL 19 18,false),(iF 20 4 4,false),(iL 21 20,false),(iM 22 2,false),(iX 23 3 21 22,false),(iF 24 1 23,false),(iL 25 24,false),(iB 26 .eql 19 25,false)]
def YB:Rg:=[iT 6 true]
def YC:Rg:=[iM 13 7,iC 14 .add 13 1,iM 7 14]
def XW:aC:=(.seq (sq YA (.cond (Tm 12) .skip (.exit 0))) (.seq (.block 1 (dq DW (.cond (Tm 26) (sq YB .ret) .skip))) (.region YC)))
def YD:Rg:=[iT 6 false]
def wJ:aC:=(sq XY (.seq (sq XZ (.block 0 (.loop XW))) (sq YD .ret)))
def Xi:List Nat:=[3,4]
def KX:aS:=⟨3,27,wJ,[.tmp 6]⟩
def D9:Rg:=[iA 3 (.box true (Tm 0)),iI 6 0]
def Ea:Rg:=[iI 7 0]
def Eb:Rg:=[iI 8 0]
def Ec:Rg:=[iM 9 8,iM 10 1,iN 11 10,iB 12 .lss 9 11]
def SY:Rd:=[(iM 15 1,false),(iM 16 8,false),(iX 17 1 15 16,false),(iL 18 17,false),(iC 19 .geq 18 0,false),(iM 20 19,false),(gO 21 7 3 20 true,false),(gM 22 1 20 true,false),(gM 23 8 20 true,false),(iG 24 (.a7C 1 (Tm 22) (Tm 23)) 20 true,false),(gL 25 24 20 true,false),(gF 26 3 3 20 true,false),(gL 27 26 20 true,false),(gM 28 2 20 true,false),(iG 29 (.a7C 7 (Tm 27) (Tm 28)) 20 true,false),(gF 30 1 29 20 true,false),(gL 31 30 20 true,false),(iG 32 (.call 88 [(Tm 21),(Tm 25),(Tm 31)]) 20 true,true),(gM 33 2 20 true,true),(gB 34 .eql 32 33 20 true,false),(iP 35 20 34,false)]
def Ed:Rg:=[iM 36 7,iC 37 .add 36 1,iM 7 37]
def BV:Rg:=[iM 13 8,iC 14 .add 13 1,iM 8 14]
def D8:aC:=(.seq (sq Ec (.cond (Tm 12) .skip (.exit 0))) (.seq (.block 1 (dq SY (.cond (Tm 35) (.region Ed) .skip))) (.region BV)))
def SZ:Rg:=[iM 38 7,iM 6 38]
def DX:aC:=(sq D9 (sq Ea (.seq (sq Eb (.block 0 (.loop D8))) (sq SZ .ret))))
def axC:List Nat:=[3]
def pe:aS:=⟨3,39,DX,[.tmp 6]⟩
def aTE:Rg:=[iA 3 (.box true (Tm 0)),iZ 6]
def aTF:Rg:=[iM 17 2,iN 18 17,iO 19 7 3,iM 20 1,iK2 21 82 19 20,iB 22 .neq 18 21]
def aTG:Rg:=[iM 23 1,iM 24 2,iN 25 24,iA 26 (.build [zI,zI,zI] [(0,1,(Ci 1)),(1,1,(Tm 23)),(2,1,(Tm 25))]),iA 27 (.a6R true 3 1 [zI,zI,zI] [(0,(Tm 26))]),iM 6 27]
def aTH:Rg:=[iO 28 7 3,iM 29 2,iK2 30 89 28 29,iM 7 30]
def aTI:Rg:=[iM 31 7,iC 32 .geq 31 0]
def aTJ:Rg:=[iM 33 1,iM 34 7,iA 35 (.build [zI,zI,zI] [(0,1,(Ci 1)),(1,1,(Tm 33)),(2,1,(Tm 34))]),iA 36 (.a6R true 3 1 [zI,zI,zI] [(0,(Tm 35))]),iM 6 36]
def aTK:Rg:=[iZ 8]
def aTL:Rg:=[iI 9 0]
def aTM:Rg:=[iM 37 9,iM 38 2,iN 39 38,iB 40 .lss 37 39]
def aTN:Rg:=[iM 43 2,iM 44 9,iX 45 1 43 44,iL 46 45,iC 47 .eql 46 (-1)]
def aKE:Rg:=[iM 48 8,iM 49 1,iM 50 9,iA 51 (.build [zI,zI,zI] [(0,1,(Ci 2)),(1,1,(Tm 49)),(2,1,(Tm 50))]),iA 52 (.a6R true 3 1 [zI,zI,zI] [(0,(Tm 51))]),iA 53 (.append 3 24 (Tm 48) (Tm 52)),iM 8 53]
def aKF:Rg:=[iM 41 9,iC 42 .add 41 1,iM 9 42]
def aJZ:aC:=(.seq (sq aTM (.cond (Tm 40) .skip (.exit 0))) (.seq (.block 1 (sq aTN (.cond (Tm 47) (.region aKE) .skip))) (.region aKF)))
def aKG:Rg:=[iI 10 0]
def aKH:Rg:=[iM 54 10,iF 55 4 3,iL 56 55,iN 57 56,iB 58 .lss 54 57]
def aKI:Rg:=[iI 11 0]
def aKJ:Rg:=[iI 12 0]
def aKK:Rg:=[iM 61 12,iM 62 2,iN 63 62,iB 64 .lss 61 63]
def aKL:Rg:=[iM 67 2,iM 68 12,iX 69 1 67 68,iL 70 69,iM 71 10,iB 72 .eql 70 71]
def aKM:Rg:=[iM 73 11,iC 74 .add 73 1,iM 11 74]
def aKN:Rg:=[iM 65 12,iC 66 .add 65 1,iM 12 66]
def aKA:aC:=(.seq (sq aKK (.cond (Tm 64) .skip (.exit 4))) (.seq (.block 5 (sq aKL (.cond (Tm 72) (.region aKM) .skip))) (.region aKN)))
def aKO:Rg:=[iM 75 11,iC 76 .gtr 75 1]
def aKP:Rg:=[iM 77 8,iM 78 1,iM 79 10,iA 80 (.build [zI,zI,zI] [(0,1,(Ci 3)),(1,1,(Tm 78)),(2,1,(Tm 79))]),iA 81 (.a6R true 3 1 [zI,zI,zI] [(0,(Tm 80))]),iA 82 (.append 3 24 (Tm 77) (Tm 81)),iM 8 82]
def aKQ:Rg:=[iM 59 10,iC 60 .add 59 1,iM 10 60]
def aKB:aC:=(.seq (sq aKH (.cond (Tm 58) .skip (.exit 2))) (.seq (.block 3 (sq aKI (.seq (sq aKJ (.block 4 (.loop aKA))) (sq aKO (.cond (Tm 76) (.region aKP) .skip))))) (.region aKQ)))
def aKR:Rd:=[(iF 83 5 3,false),(iL 84 83,false),(iF 85 6 3,false),(iL 86 85,false),(iM 87 1,false),(iX 88 2 86 87,false),(iF 89 1 88,false),(iL 90 89,false),(iX 91 17 84 90,false),(iO 92 17 91,false),(iA 13 (.alloc [(.str []),zI,zI,zI,zI,zI,zI,zI,zI,.aB,.aB,zB,.aB,.aB,zB,.aB,.aB]),true),(iS 17 13 92,true)]
def aKS:Rg:=[iI 14 0]
def aKT:Rg:=[iM 93 14,iM 94 2,iN 95 94,iB 96 .lss 93 95]
def aKU:Rd:=[(iM 99 2,false),(iM 100 14,false),(iX 101 1 99 100,false),(iL 102 101,false),(iC 103 .geq 102 0,false),(iM 104 103,false),(gO 105 17 13 104 true,false),(gO 106 7 3 104 true,false),(gM 107 2 104 true,false),(gM 108 14 104 true,false),(iG 109 (.a7C 1 (Tm 107) (Tm 108)) 104 true,false),(gL 110 109 104 true,false),(iG 111 (.call 77 [(Tm 105),(Tm 106),(Tm 110)]) 104 true,true),(iG 112 (.un .not (Tm 111)) 104 true,false),(iP 113 104 112,false)]
def aKV:Rg:=[iM 114 8,iM 115 1,iM 116 14,iA 117 (.build [zI,zI,zI] [(0,1,(Ci 4)),(1,1,(Tm 115)),(2,1,(Tm 116))]),iA 118 (.a6R true 3 1 [zI,zI,zI] [(0,(Tm 117))]),iA 119 (.append 3 24 (Tm 114) (Tm 118)),iM 8 119]
def aKW:Rg:=[iM 97 14,iC 98 .add 97 1,iM 14 98]
def aKC:aC:=(.seq (sq aKT (.cond (Tm 96) .skip (.exit 6))) (.seq (.block 7 (dq aKU (.cond (Tm 113) (.region aKV) .skip))) (.region aKW)))
def aKX:Rg:=[iI 15 1]
def aKY:Rg:=[iM 120 15,iF 121 3 3,iL 122 121,iN 123 122,iB 124 .lss 120 123]
def aKZ:Rg:=[iF 127 3 3,iL 128 127,iM 129 15,iX 130 7 128 129,iF 131 1 130,iL 132 131,iF 133 4 13,iA 134 (.idxA 5 1 (Tm 133) (Tm 132)),iL 135 134,iM 16 135]
def aLA:Rg:=[iM 136 16,iC 137 .gtr 136 0,iM 138 137,gO 139 7 3 138 true,gM 140 2 138 true,gM 141 15 138 true,iG 142 (.call 80 [(Tm 139),(Tm 140),(Tm 141)]) 138 true,gM 143 16 138 true,gB 144 .gtr 142 143 138 true,iP 145 138 144]
def aLB:Rg:=[iM 146 8,iM 147 1,iM 148 15,iA 149 (.build [zI,zI,zI] [(0,1,(Ci 5)),(1,1,(Tm 147)),(2,1,(Tm 148))]),iA 150 (.a6R true 3 1 [zI,zI,zI] [(0,(Tm 149))]),iA 151 (.append 3 24 (Tm 146) (Tm 150)),iM 8 151]
def aLC:Rg:=[iM 125 15,iC 126 .add 125 1,iM 15 126]
def aKD:aC:=(.seq (sq aKY (.cond (Tm 124) .skip (.exit 8))) (.seq (.block 9 (sq aKZ (sq aLA (.cond (Tm 145) (.region aLB) .skip)))) (.region aLC)))
def aLD:Rg:=[iM 152 8,iM 6 152]
def axZ:aC:=(sq aTE (.seq (sq aTF (.cond (Tm 22) (sq aTG .ret) .skip)) (.seq (sq aTH (sq aTI (.cond (Tm 32) (sq aTJ .ret) .skip))) (sq aTK (.seq (sq aTL (.block 0 (.loop aJZ))) (.seq (sq aKG (.block 2 (.loop aKB))) (dq aKR (.seq (sq aKS (.block 6 (.loop aKC))) (.seq (sq aKX (.block 8 (.loop aKD))) (sq aLD .ret))))))))))
def a4F:aS:=⟨3,153,axZ,[.tmp 6]⟩
def aLH:Rg:=[iA 3 (.box true (Tm 0)),iZ 6]
def aLI:Rg:=[iO 12 7 3,iK 13 67 12,iA 14 (.un .not (Tm 13))]
def aLJ:Rg:=[iZ 6]
def aLK:Rg:=[iM 15 1,iN 16 15,iF 17 6 3,iL 18 17,iN 19 18,iB 20 .neq 16 19]
def aLL:Rg:=[iM 21 1,iN 22 21,iA 23 (.build [zI,zI,zI] [(0,1,(Ci 1)),(1,1,(Ci (-1))),(2,1,(Tm 22))]),iA 24 (.a6R true 3 1 [zI,zI,zI] [(0,(Tm 23))]),iM 6 24]
def aLM:Rg:=[iZ 7]
def aLN:Rg:=[iI 8 0]
def aLO:Rg:=[iM 25 8,iM 26 1,iN 27 26,iB 28 .lss 25 27]
def aLP:Rd:=[(iM 31 7,true),(iO 32 7 3,false),(iM 33 8,false),(iM 34 1,false),(iM 35 8,false),(iX 36 1 34 35,false),(iL 37 36,false),(iA 38 (.call 90 [(Tm 32),(Tm 33),(Tm 37)]),true),(iA 39 (.append 3 24 (Tm 31) (Tm 38)),true),(iM 7 39,false)]
def aLQ:Rg:=[iM 29 8,iC 30 .add 29 1,iM 8 30]
def ayC:aC:=(.seq (sq aLO (.cond (Tm 28) .skip (.exit 0))) (.seq (.block 1 (.draw aLP)) (.region aLQ)))
def ayE:Rd:=[(iO 40 7 3,false),(iM 41 2,false),(iK2 42 85 40 41,true),(iO 43 7 3,true),(iM 44 1,true),(iK2 45 84 43 44,true),(iM 9 42,false),(iM 10 45,false)]
def ayF:Rg:=[iI 11 0]
def ayG:Rg:=[iM 46 11,iM 47 9,iN 48 47,iB 49 .lss 46 48]
def ayH:Rd:=[(iM 52 10,false),(iM 53 11,false),(iX 54 1 52 53,false),(iL 55 54,false),(iM 56 9,false),(iM 57 11,false),(iX 58 1 56 57,false),(iL 59 58,false),(iB 60 .gtr 55 59,false)]
def ayI:Rg:=[iM 61 7,iM 62 11,iA 63 (.build [zI,zI,zI] [(0,1,(Ci 6)),(1,1,(Ci (-1))),(2,1,(Tm 62))]),iA 64 (.a6R true 3 1 [zI,zI,zI] [(0,(Tm 63))]),iA 65 (.append 3 24 (Tm 61) (Tm 64)),iM 7 65]
def ayJ:Rg:=[iM 50 11,iC 51 .add 50 1,iM 11 51]
def ayD:aC:=(.seq (sq ayG (.cond (Tm 49) .skip (.exit 2))) (.seq (.block 3 (dq ayH (.cond (Tm 60) (.region ayI) .skip))) (.region ayJ)))
def ayK:Rg:=[iM 66 7,iM 6 66]
def apA:aC:=(sq aLH (.seq (sq aLI (.cond (Tm 14) (sq aLJ .ret) .skip)) (.seq (sq aLK (.cond (Tm 20) (sq aLL .ret) .skip)) (sq aLM (.seq (sq aLN (.block 0 (.loop ayC))) (dq ayE (.seq (sq ayF (.block 2 (.loop ayD))) (sq ayK .ret))))))))
def a0W:aS:=⟨3,67,apA,[.tmp 6]⟩
def axI:Rg:=[iA 3 (.box true (Tm 0)),iT 6 false]
def axJ:Rg:=[iO 7 7 3,iK 8 67 7,iM 9 8,gO 10 7 3 9 true,gM 11 1 9 true,gM 12 2 9 true,iG 13 (.call 87 [(Tm 10),(Tm 11),(Tm 12)]) 9 true,gN 14 13 9 true,gC 15 .eql 14 0 9 true,iP 16 9 15,iM 6 16]
def Xl:aC:=(sq axI (sq axJ .ret))
def aXJ:aS:=⟨3,17,Xl,[.tmp 6]⟩
theorem awN {C:Ctx} (f:aE) (i:VF f) (d:Nat) (h:d<f.a6L.length) (level:Int) (u:0≤level) (w:level≤4) :
  DU.wp C (aV pd.res (aF (.int .i64 (cP f d level:Nat)))) (PF.args [.agg f.cells,.int .i64 d,.int .i64 level]) .nil:=by
 simp only[go_sem,DU,D3,D4,pd,pK h,i.vw h];refine wp_loop (α:=Nat) (fun k=>(((PF.nil.set 2 (.int .i64 level)).set 3 (.bH f.cells)).set 7 (.int .i64 (upN f k (dK f d))))) (fun _=>.nil) (fun k=>k≤4-level.toNat) (fun k=>4-level.toNat-k) 0 (a8C _) (by (repeat' (first|exact c_|refine d_ ?_ ?_))<;>first|(simp only[go_sem,upN]<;>rfl)|rfl) a_ ?_;intro k x;obtain⟨c,q⟩:=GI i h (k:=k) Om;simp only[go_sem,D2,D5,fG c,sX c];by_cases hlt:k<4-level.toNat
 ·have l:lvl f (upN f k (dK f d))>level:=by rw[q]; omega
  have p:0<upN f k (dK f d):=by
   rcases baG (upN f k (dK f d)) with e | e
   ·rw[e,i.root.2.1] at q; omega
   ·exact e
  simp only[go_sem,l,D6,fG c,m9 c,i.xb p c];exact aD (k+1) hlt Om (by (repeat' (first|exact c_|refine d_ ?_ ?_))<;>first|(simp only[go_sem,upN]<;>rfl)|rfl) a_
 ·have l:¬ lvl f (upN f k (dK f d))>level:=by rw[q]; omega
  have:k=4-level.toNat:=Om;subst this;simp only[go_sem,l,D7];refine aQ (.inr rfl) Ev ?_;rfl
structure I0 (C:Ctx):Prop where
 valid:∀ f:aE,f.Ok→aH C 67 [.agg f.cells] .nil (aF (.bool (dS f)))
 lK:∀ (f:aE) (d:Nat) (level:Int),VF f→d<f.a6L.length→0≤level→level≤4→aH C 88 [.agg f.cells,.int .i64 d,.int .i64 level] .nil (aF (.int .i64 (cP f d level:Nat)))
def soS (f:aE):Spec:=fun name vs=>match name,vs with
 | 88,[_,.int _ d,.int _ l]=>some ([],fun _=>aF (.int .i64 (cP f d.toNat l:Nat)))
 | 82,[_,.int _ v]=>some ([],fun _=>aF (.int .i64 (akW f v.toNat)))
 | _,_=>none
theorem Ef (f:aE) (d:Nat) (l:Int):soS f 88 [.agg f.cells,.int .i64 d,.int .i64 l]=some ([],fun _=>aF (.int .i64 (cP f d l:Nat))):=rfl
theorem auN {f:aE} (hV:VF f) {n:Nat} (c:n<f.a6O.length):0≤lvl f n∧lvl f n≤4:=by
 rcases baG n with e | e
 ·rw[e,hV.root.2.1]; decide
 ·have:=hV.dom n e c; omega
theorem aoE {C:Ctx} (L:I0 C) (f:aE) (H:f.Ok) (dom:Int) :
  AE.wp C (aV VK.res (bZ (ints (FJ f dom)))) (PF.args [.agg f.cells,.int .i64 dom]) .nil:=by
 simp only[go_sem,AE,pj,pn,po,VK];refine aA (L.valid f H) Sq ?_;unfold FJ;cases M:dS f with
 | false =>simp only[go_sem,a8N,xL];rw[if_neg (by simp)];exact AC Ev
 | true =>
  have hV:=VF.of M;by_cases x:dom<0
  ·simp only[go_sem,a8B,x,xL];rw[if_neg Om];exact AC Ev
  ·by_cases B:dom≥(f.a6O.length:Nat)
   ·simp only[go_sem,a8B,x,a7W,B,xL];rw[if_neg Om];exact AC Ev
   ·obtain⟨n,rfl⟩:∃ n:Nat,dom=n:=⟨dom.toNat,by omega⟩;have A:n<f.a6O.length:=Om;have E:=hV.small.a6L;have l:=auN hV A;simp only[go_sem,a8B,x,a7W,B,pq];rw[if_pos Om];generalize K:(fun d=>decide ((cP f d (lvl f n):Nat)=n))=p;refine wp_loop (α:=Nat × PV × PH) (fun t=>((((PF.nil.set 1 (.int .i64 n)).set 2 (.bH f.cells)).set 5 (t.2.1)).set 6 (.int .i64 t.1))) (fun t=>t.2.2) (fun t=>t.1≤f.a6L.length∧bQ t.2.2 1 t.2.1 (aY (pick t.1 p))) (fun t=>f.a6L.length-t.1) (0,.aB,.nil) ⟨a8C _,.nil⟩ Lq a_ ?_;rintro⟨k,v,F⟩ ⟨J,q⟩;simp only at J q ⊢;simp only[go_sem,pi,pt,a7W];by_cases hlt:k<f.a6L.length
    ·have i:(k:Int)<(f.a6L.length:Nat):=Om;simp only[go_sem,i];refine bV .nil (soS f) a_ ?_;simp only[go_sem,pu,fG A,sX A];refine bO (Ef f k (lvl f n)) (L.lK f k (lvl f n) hV hlt l.1 l.2) Sq a_ ?_;have w:p k=decide ((cP f k (lvl f n):Nat)=n):=by rw[← K]
     have e:=avX k p;have y:(1:Nat)*1≤16777216:=by decide
     by_cases c:cP f k (lvl f n)=n
     ·rw[if_pos (by rw[w]; simp[c])] at e;simp only[go_sem,bL (show ((cP f k (lvl f n):Nat):Int)=(n:Int) by omega),pw,y];refine fI (src:=[[.int .i64 k]]) q Sq (by unfold roomFor; have:=aIN k p; rw[dC]; simp only[a8I,maxLen]; omega) fun v' H' u _=>?_;rw[alV,← e] at u;simp only[go_sem,KY,wZz k];exact aD (k+1,v',H') ⟨hlt,u⟩ (by simp only; omega) Lq b_
     ·rw[if_neg (by rw[w]; simp[c])] at e;simp only[go_sem,bF (show ((cP f k (lvl f n):Nat):Int)≠(n:Int) by omega),KY,wZz k];rw[← e] at q;exact aD (k+1,v,F) ⟨hlt,q⟩ (by simp only; omega) Lq b_
    ·have i:¬ (k:Int)<(f.a6L.length:Nat):=Om;have:k=f.a6L.length:=Om;subst this;simp only[go_sem,i,YF];exact xl q Sq
theorem Xh {C:Ctx} (f:aE) (hV:VF f) (p:bS) (w:Fits p.a6M) (d:Nat) (u:d<f.a6L.length) :
  wJ.wp C (aV KX.res (aF (.bool (p.a6M.contains ((mdl f d:Nat):Int))))) (PF.args [.agg p.cells,.agg f.cells,.int .i64 d]) .nil:=by
 have y:p.a6M.length≤9223372036854775807:=w;simp only[go_sem,wJ,XY,XZ,KX];refine wp_loop (α:=Nat) (fun k=>((((PF.nil.set 2 (.int .i64 d)).set 3 (.bH p.cells)).set 4 (.bH f.cells)).set 7 (.int .i64 k))) (fun _=>.nil) (fun k=>k≤p.a6M.length∧p.a6M.contains ((mdl f d:Nat):Int)=(p.a6M.drop k).contains ((mdl f d:Nat):Int)) (fun k=>p.a6M.length-k) 0 ⟨a8C _,rfl⟩ Lq a_ ?_;rintro k ⟨A,l⟩;simp only[go_sem,XW,YA,a7W];by_cases hlt:k<p.a6M.length
 ·have i:(k:Int)<(p.a6M.length:Nat):=Om;have q:(p.a6M.map fun x=>[PV.int .i64 x])[k]?=some [.int .i64 p.a6M[k]]:=by simp[hlt]
  rw[a9X hlt,List.contains_cons] at l;have e:(p.a6M[k]==((mdl f d:Nat):Int))=(((mdl f d:Nat):Int)==p.a6M[k]):=BEq.comm;simp only[go_sem,i];refine bV .nil eT a_ ?_;cases c:((mdl f d:Nat):Int)==p.a6M[k] with
  | true =>rw[c] at e;rw[c,Bool.true_or] at l;simp only[go_sem,DW,q,pK u,hV.kj u,e,YB];refine aQ (.inr rfl) Ev ?_;rw[bP,l]
  | false =>rw[c] at e;rw[c,Bool.false_or] at l;simp only[go_sem,DW,q,pK u,hV.kj u,e,YC,wZz k];exact aD (k+1) ⟨hlt,l⟩ Om Lq b_
 ·have i:¬ (k:Int)<(p.a6M.length:Nat):=Om;have:k=p.a6M.length:=Om;subst this;rw[List.drop_length] at l;simp only[go_sem,i,YD];refine aQ (.inr rfl) Ev ?_;rw[bP,l];rfl
theorem Wa {p:Int→Bool} {xs:List Int} {k:Nat} (h:k<xs.length):(xs.take (k+1)).countP p=(xs.take k).countP p+if p xs[k] then 1 else 0:=by
 rw[a9U h,List.countP_append];by_cases c:p xs[k]<;>simp[List.countP_cons,c]
theorem axB {C:Ctx} (L:I0 C) (f:aE) (hV:VF f) (row:List Int) (J:Hm f row) (n:Nat) (E:n<f.a6O.length) :
  DX.wp C (aV pe.res (aF (.int .i64 (row.countP (lM f n):Nat)))) (PF.args [.agg f.cells,ints row,.int .i64 n]) .nil:=by
 have H:=J.len;have u:=auN hV E;simp only[go_sem,DX,D9,Ea,Eb,pe];refine wp_loop (α:=Nat) (fun k=>(((((PF.nil.set 1 (ints row)).set 2 (.int .i64 n)).set 3 (.bH f.cells)).set 7 (.int .i64 ((row.take k).countP (lM f n):Nat))).set 8 (.int .i64 k))) (fun _=>.nil) (fun k=>k≤row.length) (fun k=>row.length-k) 0 (a8C _) Lq a_ ?_;intro k N;simp only[go_sem,D8,Ec,a7W];by_cases hlt:k<row.length
 ·have i:(k:Int)<(row.length:Nat):=Om;have y:(row.map fun x=>[PV.int .i64 x])[k]?=some [.int .i64 row[k]]:=by simp[hlt]
  have O:=J.at_ _ (a7Z hlt);have w:=Wa (p:=lM f n) hlt;have M:(row.take k).countP (lM f n)≤16777216:=by have:=List.countP_le_length (p:=lM f n) (l:=row.take k);rw[a8Q] at this;omega
  have q:lM f n row[k]=(decide (0≤row[k])&&decide (cP f row[k].toNat (lvl f n)=n)):=rfl;have fin:∀ (c:Nat) (A:PF),(row.take (k+1)).countP (lM f n)=c→((((((PF.nil.set 1 (ints row)).set 2 (.int .i64 n)).set 3 (.bH f.cells)).set 7 (.int .i64 c)).set 8 (.int .i64 (k+1:Nat))):PF).le A→fJ (fun k:Nat=>(((((PF.nil.set 1 (ints row)).set 2 (.int .i64 n)).set 3 (.bH f.cells)).set 7 (.int .i64 ((row.take k).countP (lM f n):Nat))).set 8 (.int .i64 k))) (fun _=>.nil) (fun k=>k≤row.length) (fun k=>row.length-k) (row.length-k) (eX 0 (gG C (aC.wp C (.seq (.region SZ) .ret)) (aV [.tmp 6] (aF (.int .i64 (row.countP (lM f n):Nat)))))) .normal A .nil :=
   fun c A e h=>aD (k+1) hlt Om (by rw[e]; exact h) b_
  generalize (row.take k).countP (lM f n)=c at *
  generalize row[k]=x at *
  simp only[go_sem,i];refine bV .nil (soS f) a_ ?_;by_cases B:x≥0
  ·obtain⟨d,rfl⟩:∃ d:Nat,x=d:=⟨x.toNat,by omega⟩;have K:d<f.a6L.length:=Om;rw[decide_eq_true (Om:(0:Int)≤d),a8H,a9Q] at q;rw[q] at w;simp only[go_sem,SY,y,B,fG E,sX E];refine bO (Ef f d (lvl f n)) (L.lK f d (lvl f n) hV K u.1 u.2) Sq a_ ?_;by_cases F:cP f d (lvl f n)=n
   ·rw[decide_eq_true F,if_pos rfl] at w;simp only[go_sem,bL (show ((cP f d (lvl f n):Nat):Int)=(n:Int) by omega),Ed,wZz c,BV,wZz k];exact fin (c+1) _ w Lq
   ·rw[decide_eq_false F,if_neg (by decide),baC] at w;simp only[go_sem,bF (show ((cP f d (lvl f n):Nat):Int)≠(n:Int) by omega),BV,wZz k];exact fin c _ w Lq
  ·rw[decide_eq_false (show ¬ 0≤x from B),a8F] at q;rw[q,if_neg (by decide),baC] at w;simp only[go_sem,SY,y,B,BV,wZz k];exact fin c _ w Lq
 ·have i:¬ (k:Int)<(row.length:Nat):=Om;have:k=row.length:=Om;subst this;simp only[go_sem,i,SZ,a8Y];refine aQ (.inr rfl) Ev ?_;rfl




theorem aFO {C:Ctx} (l:List Int) (e:Fits l):HL.wp C (aV Ho.res (aF (.bool true))) (PF.args [ints l,ints l]) .nil:=by
 have i:l.length≤9223372036854775807:=e;simp only[go_sem,HL,Ku,Kv,Ho,a7W,bY (show (l.length:Int)=(l.length:Nat) from rfl),Kw];refine wp_loop (α:=Nat) (fun k=>(((PF.nil.set 0 (ints l)).set 1 (ints l)).set 5 (.int .i64 k))) (fun _=>.nil) (fun k=>k≤l.length) (fun k=>l.length-k) 0 (a8C _) Lq a_ ?_;intro k p;simp only[go_sem,Kt,Kx,a7W];by_cases hlt:k<l.length
 ·have c:(k:Int)<(l.length:Nat):=Om;have d:(l.map fun x=>[PV.int .i64 x])[k]?=some [.int .i64 l[k]]:=by simp[hlt]
  simp only[go_sem,c];refine bV .nil eT a_ ?_;simp only[go_sem,Ky,d,bY (show l[k]=l[k] from rfl),Kz,wZz k];exact aD (k+1) hlt Om Lq b_
 ·have c:¬ (k:Int)<(l.length:Nat):=Om;simp only[go_sem,c,K0];refine aQ (.inr rfl) rfl ?_;rfl

structure mY (C:Ctx):Prop extends aVB C where
 r19:aM C 19 aQP
 r21:aM C 21 aWK
 r22:aM C 22 a0P
 r46:aM C 46 Ut
 r48:aM C 48 qx
 r49:aM C 49 Im
 r51:aM C 51 rj
 r52:aM C 52 VS
 r53:aM C 53 Io
 r54:aM C 54 Ip
 r55:aM C 55 arB
 r56:aM C 56 ry
 r57:aM C 57 Il
 r60:aM C 60 rx
 r61:aM C 61 BU
 r62:aM C 62 VU
 r63:aM C 63 r8
 r64:aM C 64 VT
 r65:aM C 65 VV
 r66:aM C 66 arO
 r67:aM C 67 tt
 r68:aM C 68 arN
 r69:aM C 69 arM
 r70:aM C 70 s8
 r71:aM C 71 s9
 r72:aM C 72 MR
 r73:aM C 73 ta
 r74:aM C 74 tc
 r75:aM C 75 VW
 r76:aM C 76 GM
 r77:aM C 77 KX
 r78:aM C 78 sat
 r79:aM C 79 aXF
 r80:aM C 80 pe
 r81:aM C 81 VK
 r83:aM C 83 aXJ
 r84:aM C 84 aXN
 r85:aM C 85 a0V
 r86:aM C 86 aTO
 r87:aM C 87 a0W
 r88:aM C 88 pd
 r89:aM C 89 a4C
 r90:aM C 90 a4F
 r94:aM C 94 Ho
theorem KK {C:Ctx} (c:mY C):gg C :=
 {tG c.tofW with
  int:=fun n p=>(c.r47.go (VQ (tG c.tofW) n p) rfl).seen
  mul:=fun a b d e i l=>(c.r36.go (agP (SA c.tofW) a b d e i l) rfl).seen
  add:=fun a b d e i l=>(c.r30.go (afH (AA c.tofW) a b d e i l) rfl).seen
  sub:=fun a b d e i l=>(c.r37.go (agX (AA c.tofW) a b d e i l) rfl).seen }
theorem AB {C:Ctx} (c:mY C):OC C :=
 {KK c with
  valid:=fun x d=>c.r56.go (F7 (KK c) x.neg x.num x.den d.1 d.2.1 d.2.2.1 d.2.2.2) rfl
  big:=fun x=>c.r48.go (Fh x.1 (aI x.2.1) (aI x.2.2)) rfl }
theorem SB {C:Ctx} (c:mY C):gh C :=
 {AB c with
  fits:=fun x=>(c.r57.go (Ux (AB c) x) rfl).seen
  red:=fun x i=>(c.r52.go (rk (AB c) x i) rfl).seen
  prod:=fun a b d e l p q u=>c.r60.go (Fw (KK c) a b d e l p q u) rfl }
theorem pP {C:Ctx} (c:mY C):vK C :=
 {SB c with
  order:=fun x y d e i l=>c.r51.go (Fk (SB c) x y d e i l) rfl }
theorem ni {C:Ctx} (c:mY C):Hl C :=
 {pP c with
  less:=fun x y d e i l=>c.r49.go (U4 (pP c) x y d e i l) rfl
  same:=fun x y d e i l=>c.r53.go (Vd (pP c) x y d e i l) rfl
  sign:=fun x d i=>c.r54.go (Vg (pP c) x d i) rfl
  plus:=fun x y d e=>(c.r46.go (ahG (pP c) x y d e) rfl).seen }
theorem zY {C:Ctx} (c:mY C):NY C :=
 {ni c with
  sum:=fun l e d=>(c.r55.go (ahU (ni c) l e d) rfl).seen
  inn:=fun n lo hi=>c.r76.go (uu n lo hi) rfl
  code:=fun k m=>c.r61.go (S0 k m) rfl }
theorem FY {C:Ctx} (c:mY C):UI C :=
 {zY c with
  small:=fun x d=>c.r74.go (Gw (zY c) x d) rfl
  nums:=fun k m q s0 s1 s2 s3 s4=>c.r72.go (YZ (zY c) k m q s0 s1 s2 s3 s4) rfl
  sizes:=fun e i l p u w=>c.r73.go (Gt e i l p u w) rfl }
theorem FZ {C:Ctx} (c:mY C):UJ C :=
 {FY c with
  smalls:=fun l d n=>c.r75.go (te (FY c) l d n) rfl }
theorem GA {C:Ctx} (c:mY C):UK C :=
 {FZ c with
  reps:=fun l d m=>c.r66.go (aiS (FZ c) l d m) rfl }
theorem GB {C:Ctx} (c:mY C):UL C :=
 have d:∀ n:Nat,aH C 65 [.int .u8 n] .nil (aF (.bool (eO n))):=fun n=>c.r65.go (su n) rfl;have e:∀ n:Nat,aH C 63 [.int .u8 n] .nil (aF (.bool (kK n))):=fun n=>c.r63.go (Gb n) rfl
 {GA c with
  name:=fun s=>c.r62.go (se d (fun n=>c.r64.go (r9 d e n) rfl) s) rfl
  index:=fun l i s=>c.r71.go (Gl l i s) rfl }
theorem GC {C:Ctx} (c:mY C):oJ C :=
 {GB c with
  fresh:=fun l e s w H d=>c.r70.go (Gh (GB c) l e s w H d) rfl }
theorem xc {C:Ctx} (c:mY C):pW C :=
 {GC c with
  law:=fun l d=>c.r68.go (aiJ (GC c) l d) rfl }
theorem aeG {C:Ctx} (c:mY C):UM C :=
 {xc c with
  dur:=fun m rep e t h i d=>c.r69.go (aiF (GA c) m rep e t h i d) rfl }
open Go Go.RowKit
def BD (R:PH→Prop):bR
 | .normal,_,H=>R H
 | _,_,_=>False
theorem bM.putObj {E:Env} {H:PH} {w:World} {l:Nat} {o o':Obj} (hW:bM E H w) (y:w.heap[l]?=some o) (A:∀ c t b,o≠.cells c t b) (B:H l=none):bM E H (w.putObj l o'):=by
 refine⟨fun b cs h=>?_,fun q x h=>?_,fun q n h=>?_⟩
 ·obtain⟨d,ty,u,i⟩:=hW.g b cs h;have:b≠l:=fun e=>by rw[e,y] at i; exact A _ _ _ (by injection i)
  exact⟨d,ty,u,(World.putObj_heap_other this).trans i⟩
 ·obtain⟨d,i⟩:=hW.h q x h;have:q≠l:=fun e=>by rw[e,B] at h; cases h
  exact⟨by rw[World.putObj_size]; exact d,i.mono (.refl E) (World.putObj_heap_other this)⟩
 ·obtain⟨p,ty,u,d,i⟩:=hW.s q n h;have:q≠l:=fun e=>by rw[e,y] at d; exact A _ _ _ (by injection d)
  exact⟨p,ty,u,(World.putObj_heap_other this).trans d,i⟩
theorem bM.setObj {E:Env} {H:PH} {w:World} {l:Nat} {o:Obj} {x:cG} (hW:bM E H w) (i:w.heap[l]?=some o) (A:∀ c t b,o≠.cells c t b) (B:NX E w l x):bM E (H.set l x) w:=by
 refine⟨fun b cs h=>?_,fun q y h=>?_,hW.s⟩
 ·obtain⟨u,ty,p,d⟩:=hW.g b cs h;have:¬ b=l:=fun e=>by rw[e,i] at d; exact A _ _ _ (by injection d)
  refine⟨fun y F=>u y ?_,ty,p,d⟩
  rwa [aT,if_neg this] at F
 ·rw[aT] at h;split at h
  ·rename_i e;cases h;subst e;exact⟨(bbG.1 i).1,B⟩
  ·exact hW.h q y h
theorem aDH {c:Code} {l m:Nat} {P:Program} {Q:Exit→Act→World→Prop} {d tm':Array Value} {ds:List Deferred} {w:World} (e:d=tm') (h:c.wpIn (Fz (some l)) m P Q { tmps:=tm',defers:=ds } w):c.wpIn (Fence.wide.inRound l) m P Q { tmps:=d,defers:=ds } w:=by
 subst e; exact h
section
variable {C:Ctx} {T:Tbl}
theorem Yb (U:C.P=T.P) (M:C.num=T.num) {n t l:Nat} {B J:Code} {ε O:aC} (h1:T.code n B=some ε) (h2:T.code n J=some O) (ht:t<n) {F:PF} {x:PV} {H:PH} {R:PH→Prop} (hl:H l=none)
  (Λ:ε.wp C (gG C (O.wp C) (BD R)) (F.set t x) H) :
  FG C l [x] (H.set l (.loop F n t B J)) (fun r H'=>r=.bool true∧∃ H2,R H2∧H2 l=none∧H'=H2.set l (.loop F n t B J)):=by
 intro E w vs hN hW Θ;obtain⟨vl⟩:=vs;cases Θ with
 | cons e1 e2 =>
 cases e2;rename_i v;obtain⟨hlt,rec,S,N,δ,γ,has,θ,ο,hF⟩:=hW.h l (.loop F n t B J) (by rw[cO]);have ω:bM E H w:=hW.weaken fun o y ho=>by
  have:¬ o=l:=fun e=>by rw[e,hl] at ho; cases ho
  rw[aT,if_neg this]; exact ho
 refine⟨rec.fn,_,rec.assign,rec.body,run_yield S (by rw[γ]; rfl),?_⟩;rw[has,θ,γ];refine roundIn_of_wpIn (F:=Fence.wide) trivial ?_;have hA:dL [] n E (F.set t x) { tmps:=rec.tmps.setIfInBounds t v,defers:=[] }:=by
  refine⟨by simp[ο],rfl,fun i pv hi=>?_⟩;rw[kD] at hi;split at hi
  ·rename_i e;cases hi;subst e;simp only[bbP];rw[Array.getElem?_setIfInBounds_self_of_lt Om];exact e1
  ·rename_i e;simp only[bbP];rw[Array.getElem?_setIfInBounds_ne (fun h=>e h.symm),← bbP];exact hF i pv hi
 rw[U];refine aDH (tm':=rec.tmps.setIfInBounds t v) (by simp) ?_;refine pY (ro:=some l) (fu:=0) U M B ε (gG C (O.wp C) (BD R)) _ E (F.set t x) H _ w h1 Λ hA ω (hN.trans M) fun e E1 F1 H1 a1 A τ υ p W=>?_;cases e with
 | exit id=>exact W.elim
 | ret=>exact W.elim
 | normal =>
  have Z:A.heap[l]?=some (.loop rec):=(p.block l hlt hl).trans S;have V:H1 l=none:=by
   cases hh:H1 l with
   | none=>rfl
   | some y =>
    rcases p.new l y hh with ⟨z,u⟩ | hge
    ·rw[hl] at u; cases u
    ·omega
  refine⟨_,run_beginRound Z N,?_⟩;have φ:=υ.putObj (o':=.loop { rec with state:=.busy }) Z (fun _ _ _ h=>by cases h) V;have Q:l<A.heap.size:=(bbG.1 Z).1;have Δ:(A.putObj l (.loop { rec with state:=.busy })).heap[l]?=some (.loop { rec with state:=.busy }):=World.putObj_heap_same Q;have ρ:(A.putObj l (.loop { rec with state:=.busy })).heap.size=A.heap.size:=World.putObj_size;have β:∀ b,b≠l→(A.putObj l (.loop { rec with state:=.busy })).heap[b]?=A.heap[b]?:=fun b hb=>World.putObj_heap_other hb;have ξ:(A.putObj l (.loop { rec with state:=.busy })).os=A.os:=rfl;have σ:(A.putObj l (.loop { rec with state:=.busy })).tape=A.tape:=rfl;have ν:(A.putObj l (.loop { rec with state:=.busy })).output=A.output:=rfl;generalize A.putObj l (.loop { rec with state:=.busy })=w2 at *
  refine pY (ro:=some l) (fu:=0) U M J O (BD R) _ E1 F1 H1 a1 w2 h2 W τ φ (p.env.num.trans (hN.trans M)) fun e2 E2 F2 H2 a2 w3 Ξ χ q X=>?_;cases e2 with
  | exit id=>exact X.elim
  | ret=>exact X.elim
  | normal =>
   have α:w3.heap[l]?=some (.loop { rec with state:=.busy }):=(q.block l (by rw[ρ]; exact Q) V).trans Δ;have μ:l<w3.heap.size:=(bbG.1 α).1;have η:H2 l=none:=by
    cases hh:H2 l with
    | none=>rfl
    | some y =>
     rcases q.new l y hh with ⟨z,u⟩ | hge
     ·rw[V] at u; cases u
     ·omega
   have ζ:({ { rec with state:=.busy } with state:=if (none:Option Code).isNone then .ready else .done,pending:=none }:Loop)=rec:=by obtain⟨a,b,c,d,e,f,g,h⟩:=rec;simp only at N δ;subst N δ;rfl
   refine⟨_,_,run_endRound none α,?_⟩;rw[ζ];have ψ:=(χ.putObj (o':=.loop rec) α (fun _ _ _ h=>by cases h) η);have κ:(w3.putObj l (.loop rec)).heap[l]?=some (.loop rec):=World.putObj_heap_same μ;have ι:E.le E2:=p.env.trans q.env;refine⟨.bool true,.bool true,E2,H2.set l (.loop F n t B J),rfl,ψ.setObj κ (fun _ _ _ h=>by cases h) ⟨rec,κ,N,δ,γ,has,θ,ο,fun i pv hi=>(hF i pv hi).mono ι⟩,.bool true,?_,rfl,H2,X,η,rfl⟩;refine⟨ι,?_,?_,?_,?_,fun b hb hn=>?_,fun o y ho=>?_,fun b cs hb=>?_⟩
   ·exact q.os.trans (ξ.trans p.os)
   ·exact q.tape.trans (σ.trans p.tape)
   ·exact q.output.trans (ν.trans p.output)
   ·have:=p.size;have:=q.size;rw[World.putObj_size];omega
   ·have Y:b≠l:=fun e=>by rw[e,cO] at hn; cases hn
    rw[aT,if_neg Y] at hn;have Γ:H1 b=none:=by
     cases hh:H1 b with
     | none=>rfl
     | some y =>
      rcases p.new b y hh with ⟨z,u⟩ | hge
      ·rw[hn] at u; cases u
      ·omega
    rw[World.putObj_heap_other Y,q.block b (by have:=p.size; omega) Γ,β b Y,p.block b hb hn]
   ·rw[aT] at ho;split at ho
    ·rename_i e;exact .inl ⟨_,by rw[e,cO]⟩
    ·rename_i e;rcases q.new o y ho with ⟨z,u⟩ | hge
     ·rcases p.new o z u with ⟨z2,K⟩ | hge
      ·exact .inl ⟨z2,by rw[aT,if_neg e]; exact K⟩
      ·exact .inr hge
     ·have:=p.size;exact .inr Om
   ·rcases q.newG b cs hb with hg | ⟨z,u⟩ | hge
    ·rcases p.newG b cs hg with hg | ⟨z,u⟩ | hge
     ·exact .inl hg
     ·have e:¬ b=l:=fun e=>by rw[e,hl] at u; cases u
      exact .inr (.inl ⟨z,by rw[aT,if_neg e]; exact u⟩)
     ·exact .inr (.inr hge)
    ·rcases p.new b z u with ⟨z2,K⟩ | hge
     ·have e:¬ b=l:=fun e=>by rw[e,hl] at K; cases K
      exact .inr (.inl ⟨z2,by rw[aT,if_neg e]; exact K⟩)
     ·exact .inr (.inr hge)
    ·have:=p.size;exact .inr (.inr Om)
end
open Go Go.RowKit
abbrev uY (D:Nat):Deferred:={ target:=.collected D,args:=#[] }
theorem bM.alloc {E:Env} {H:PH} {w:World} (hW:bM E H w) (o:Obj):bM E H (w.alloc o):=by
 have e:(w.alloc o).heap.size=w.heap.size+1:=World.size_alloc w o;have c:∀ b,b<w.heap.size→(w.alloc o).heap[b]?=w.heap[b]?:=fun b hlt=>Below.heap_alloc w o b hlt;exact hW.same Om (fun b hlt _=>c b hlt) (fun q x d=>c q (hW.h q x d).1)
section
variable {C:Ctx} {T:Tbl} {ds:List Deferred} {fu:Nat}
theorem aVR {f:FuncId} {args:Array Value} {w:World} {P:Program} {fn:Func} (e:P.funcs[f]?=some fn) (i:fn.body.isSome=true) (d:(fn.name=="runtime.NumGoroutine")=false):(callFunc f args).run P w=.ok (.enter f args) w:=by
 have c:fn.body.isNone=false:=by cases h:fn.body<;>simp_all
 simp only[callFunc,Sem.run_bind,Sem.run_pure,Result.andThen_ok,run_program,e,d,c,bbH,if_false]
def Ix (C:Ctx) (name:Nat) (cs:List PV) (F:PF) (H:PH) (n t:Nat) (c d:Code) (e:PH→Prop):Prop :=
 ∀ l,H l=none→aH C name (wE l::cs) (H.set l (.loop F n t c d)) (fun _ H'=>∃ H2,e H2∧H2.le H'∧H2 l=none∧H' l=some (.loop F n t c d))
theorem Xe (α:C.P=T.P) (Z:C.num=T.num) {n t name:Nat} {g:Operand} {pg:aP} {q A:Code} {cs:List PV} {E:Env} {F:PF} {H:PH} {a:Act} {w:World} {KH:PH→Prop} {Q:Exit→Act→World→Prop} (hg:T.opd g=some pg) (ω:pg.ev F=some (.fn name cs))
  (Γ:Ix C name cs F H n t q A KH) (Y:dL ds n E F a) (hW:bM E H w) (hN:E.num=T.num)
  (hT:∀ D W H2 w',dL (uY D::ds) n W F { a with defers:=uY D::a.defers }→bM W H2 w'→Ext E H w W H2 w'→w'.heap[D]?=some (.deferred (some []))→H2 D=none→w.heap.size≤D→KH H2→Q .normal { a with defers:=uY D::a.defers } w') :
  (Code.rangeFunc g #[t] q A).wpIn (Fz none) fu T.P Q a w:=by
 have r:=bC hg ω Y hN;generalize Φ:a.eval g=vg at r;cases r with
 | fn vc χ ψ =>
 have J:∀ o x,H o=some x→o<w.heap.size:=fun o x ho=>(hW.h o x ho).1;have nD:H w.heap.size=none:=by
  cases h:H w.heap.size with
  | none=>rfl
  | some x=>have:=J _ x h; omega
 have nl:H (w.heap.size+1)=none:=by
  cases h:H (w.heap.size+1) with
  | none=>rfl
  | some x=>have:=J _ x h; omega
 obtain⟨⟨fn,hf,R,Δ⟩,S⟩:=Γ (w.heap.size+1) nl;rw[α] at hf;refine wpIn_rangeFunc fun ν _=>?_;obtain⟨rec,M⟩:∃ rec:Loop,rec={ state:=.ready,pending:=none,fn:=ν,tmps:=a.tmps,params:=#[t],assign:=q,body:=A,defers:=w.heap.size }:=⟨_,rfl⟩;obtain⟨d,c⟩:∃ d,(w.alloc (.deferred (some []))).alloc (.loop rec)=d:=⟨_,rfl⟩;have ι:(w.alloc (.deferred (some []))).heap.size=w.heap.size+1:=World.size_alloc _ _;have Ω:d.heap.size=w.heap.size+2:=by rw[← c,World.size_alloc,ι]
 have η:∀ b,b<w.heap.size→d.heap[b]?=w.heap[b]?:=fun b R=>by rw[← c];exact (Below.heap_alloc _ _ b Om).trans (Below.heap_alloc _ _ b R)
 have ο:d.heap[w.heap.size]?=some (.deferred (some [])):=by rw[← c];exact (Below.heap_alloc _ _ _ Om).trans (World.alloc_heap_new w _)
 have ε:d.heap[w.heap.size+1]?=some (.loop rec):=by
  rw[← c];have:=World.alloc_heap_new (w.alloc (.deferred (some []))) (.loop rec)
  rwa [ι] at this
 have υ:bM E H d:=by rw[← c]; exact (hW.alloc _).alloc _
 have φ:bM E (H.set (w.heap.size+1) (.loop F n t q A)) d:=υ.setObj ε (fun _ _ _ h=>by cases h) (by subst M;exact⟨_,ε,rfl,rfl,rfl,rfl,rfl,Y.size,Y.t⟩);have Λ:d.os=w.os:=by rw[← c]; rfl
 have Ξ:d.tape=w.tape:=by rw[← c]; rfl
 have Θ:d.output=w.output:=by rw[← c]; rfl
 have K:C.num name=E.num name:=by rw[Z,hN]
 refine⟨w.heap.size+1,[uY w.heap.size],d,{ target:=.fn (.func (E.num name)) vc,args:=#[.func (.yield (w.heap.size+1)) #[] #[]] },d,E.num name,#[Value.func (.yield (w.heap.size+1)) #[] #[]]++vc,d,?_,?_,?_,?_,?_,?_⟩
 ·rw[← c,M];exact run_enterLoop_outer _ _ _ _ _
 ·simp only[resolve,Φ];simp[go_sem]
 ·exact fun _ _=>trivial
 ·simp only[invoke];exact aVR (by rw[← K]; exact hf) R Δ
 ·intro h; cases h
 ·have O:eJ E (wE (w.heap.size+1)::cs) (#[Value.func (.yield (w.heap.size+1)) #[] #[]]++vc).toList:=by rw[Array.toList_append];exact .cons (.lit _) (eJ.aOI (by simpa using χ) fun j p u hp hu=>ψ j p u hp (by simpa using hu))
  have hc:=S E d _ (hN.trans Z.symm) φ O;rw[α,K] at hc;refine Fz.calls (hc.mono fun e w3 he=>?_);obtain⟨v,pv,W,H',rfl,δ,hr,l,H2,τ,U,B,σ⟩:=he;obtain⟨Ψ,μ,ζ,κ,θ,-⟩:=δ.h _ _ σ;have V:w.heap.size≠w.heap.size+1:=Om;have ρ:w3.heap[w.heap.size]?=some (.deferred (some [])):=(l.block _ Om (by rw[aT,if_neg V]; exact nD)).trans ο;have γ:H' w.heap.size=none:=by
   cases hh:H' w.heap.size with
   | none=>rfl
   | some y =>
    rcases l.new _ y hh with ⟨z,N⟩ | hge
    ·rw[aT,if_neg V,nD] at N; cases N
    ·omega
  have β:H2 w.heap.size=none:=by
   cases hh:H2 w.heap.size with
   | none=>rfl
   | some y=>rw[U _ y hh] at γ; cases γ
  refine⟨μ.pending,_,run_endLoop ζ (by rw[κ]; exact fun h=>by cases h),?_⟩;rw[θ];simp only;have ξ:dL (uY w.heap.size::ds) n W F { a with defers:=uY w.heap.size::a.defers }:=⟨Y.size,by simp only; rw[Y.defers],fun i pv hi=>(Y.t i pv hi).mono l.env⟩;refine hT w.heap.size W H2 _ ξ ((δ.weaken U).putObj ζ (fun _ _ _ h=>by cases h) B) ?_ ((World.putObj_heap_other V).trans ρ) β (a8D _) τ;refine⟨l.env,l.os.trans Λ,l.tape.trans Ξ,l.output.trans Θ,?_,fun b R hn=>?_,fun o y ho=>?_,fun b cs R=>?_⟩
  ·have:=l.size;rw[World.putObj_size]; omega
  ·have X:b≠w.heap.size+1:=Om;rw[World.putObj_heap_other X,l.block b Om (by rw[aT,if_neg X]; exact hn),η b R]
  ·have X:o≠w.heap.size+1:=fun e=>by rw[e,B] at ho; cases ho
   rcases l.new o y (U o y ho) with ⟨z,N⟩ | hge
   ·rw[aT,if_neg X] at N;exact .inl ⟨z,N⟩
   ·exact .inr Om
  ·rcases l.newG b cs R with h | ⟨z,N⟩ | hge
   ·exact .inl h
   ·by_cases X:b=w.heap.size+1
    ·exact .inr (.inr Om)
    ·rw[aT,if_neg X] at N;exact .inr (.inl ⟨z,N⟩)
   ·exact .inr (.inr Om)
end
open Go Go.RowKit
inductive pV where
 | seq (a:aC) (t:pV)
 | range (g:aP) (n t:Nat) (asg bdy:Code) (pas pbd rest:aC)
def pV.wp (C : Ctx) : pV → bR → PF → PH → Prop
  | .seq a t, K, F, H => a.wp C (gG C (t.wp C) K) F H
  | .range g n t asg bdy pas pbd rest, K, F, H => ∃ name cs KH, g.ev F = some (.fn name cs) ∧
      ((∀ (l : Nat) (x : PV) (J : PH) (J' : PH → Prop), J l = none → pas.wp C (gG C (pbd.wp C) (BD J')) (F.set t x) J →
        FG C l [x] (J.set l (.loop F n t asg bdy)) (fun r H' => r = .bool true ∧ ∃ H2, J' H2 ∧ H2 l = none ∧ H' = H2.set l (.loop F n t asg bdy))) → Ix C name cs F H n t asg bdy KH) ∧
      ∀ H2, KH H2 → rest.wp C K F H2
namespace Tbl
variable (T:Tbl)
def tail (n:Nat):Code→Option pV
 | .seq (.rangeFunc g ps c d) rest=>match T.opd g,T.code n c,T.code n d,T.code n rest with
  | some p,some e,some i,some q=>match ps.toList with
   | [t]=>if t<n then some (.range p n t c d e i q) else none
   | _=>none
  | _,_,_,_=>none
 | .seq (.seq a (.block _ (.rangeFunc g ps c d))) rest=>match T.code n a,T.opd g,T.code n c,T.code n d,T.code n rest with
  | some l,some p,some e,some i,some q=>match ps.toList with
   | [t]=>if t<n then some (.seq l (.range p n t c d e i q)) else none
   | _=>none
  | _,_,_,_,_=>none
 | .seq a b=>match T.code n a,tail n b with
  | some l,some u=>some (.seq l u)
  | _,_=>none
 | _=>none
end Tbl
section
variable {C:Ctx} {T:Tbl} {fu:Nat}
def yW (n:Nat) (E:Env) (H:PH) (w:World) (K:bR) (Q:Exit→Act→World→Prop):Prop :=
 ∀ ds,(ds=[]∨∃ D,ds=[uY D])→∀ e d i H' l c,dL ds n d i l→bM d H' c→Ext E H w d H' c→(∀ D,ds=[uY D]→c.heap[D]?=some (.deferred (some []))∧H' D=none∧w.heap.size≤D)→K e i H'→Q e.out l c
theorem yW.after {n:Nat} {E i:Env} {H H':PH} {w p:World} {K:bR} {Q:Exit→Act→World→Prop} (h:yW n E H w K Q) (l:Ext E H w i H' p):yW n i H' p K Q :=
 fun ds c e q u H2 a2 B x hW A d y=>h ds c e q u H2 a2 B x hW (l.trans A) (fun D hD=>⟨(d D hD).1,(d D hD).2.1,a9J l.size (d D hD).2.2⟩) y
theorem yW.plain {n:Nat} {E:Env} {H:PH} {w:World} {K:bR} {Q:Exit→Act→World→Prop} (h:yW n E H w K Q):OD [] n E H w K Q :=
 fun e c d H' i u l hW q p=>h [] (.inl rfl) e c d H' i u l hW q (fun D hD=>by cases hD) p
theorem nj (q:C.P=T.P) (p:C.num=T.num) {n t:Nat} {g:Operand} {pg:aP} {ps:Array Tmp} {d i rest:Code} {M N pr:aC} {K:bR} {Q Q0:Exit→Act→World→Prop} {E:Env} {F:PF} {H:PH} {a:Act} {w:World} (hQ:∀ a w,rest.wpIn (Fz none) fu T.P Q a w→Q0 .normal a w)
  (h1:T.opd g=some pg) (h2:T.code n d=some M) (h3:T.code n i=some N) (h4:T.code n rest=some pr) (h5:ps.toList=[t]) (ht:t<n)
  (Z:(pV.range pg n t d i M N pr).wp C K F H) (hA:dL [] n E F a) (hW:bM E H w) (hN:E.num=T.num) (hT:yW n E H w K Q) :
  (Code.rangeFunc g ps d i).wpIn (Fz none) fu T.P Q0 a w:=by
 obtain⟨name,cs,KH,k1,k2,k3⟩:=Z;have Y:ps=#[t]:=by obtain⟨l⟩:=ps;simp only at h5;subst h5;rfl
 subst Y;refine Xe (ds:=[]) q p h1 k1 (k2 fun l x J J' hJ hw=>Yb q p h2 h3 ht hJ hw) hA hW hN fun D E' H2 w' O W A hD B S V=>?_;refine hQ _ w' ?_;refine pY (ro:=none) (fu:=fu) (ds:=[uY D]) q p rest pr K Q E' F H2 _ w' h4 (k3 H2 V) O W (A.env.num.trans hN) fun e E3 F3 H3 a3 w3 R X u U=>?_;refine hT [uY D] (.inr ⟨D,rfl⟩) e E3 F3 H3 a3 w3 R X (A.trans u) (fun D' c=>?_) U;injection c with c _
 injection c with c _
 injection c with c
 subst c;have hlt:D<w'.heap.size:=(bbG.1 hD).1;refine⟨(u.block D hlt B).trans hD,?_,S⟩;cases hh:H3 D with
 | none=>rfl
 | some y =>
  rcases u.new D y hh with ⟨z,hz⟩ | hge
  ·rw[B] at hz; cases hz
  ·omega
theorem apM (p:C.P=T.P) (l:C.num=T.num) {n:Nat}:∀ (c:Code) (t:pV) (K:bR) (Q:Exit→Act→World→Prop) (E:Env) (F:PF) (H:PH) (a:Act) (w:World),
  T.tail n c=some t→t.wp C K F H→dL [] n E F a→bM E H w→E.num=T.num→yW n E H w K Q→c.wpIn (Fz none) fu T.P Q a w:=by
 intro c
 induction c with
 | seq x y γ α =>
  intro t K Q E F H a w d B hA hW W A;unfold Tbl.tail at d;split at d
  ·rename_i g ps q u rest e;cases e;split at d
   ·rename_i pg J M pr U V Y Z;split at d
    ·rename_i t0 e5;split at d
     ·rename_i e6;cases d;exact wpIn_seq (nj p l (fun _ _ h=>h) U V Y Z e5 e6 B hA hW W A)
     ·cases d
    ·cases d
   ·cases d
  ·rename_i a0 β g ps q u rest e;cases e;split at d
   ·rename_i X pg J M pr e0 U V Y Z;split at d
    ·rename_i t0 e5;split at d
     ·rename_i e6;cases d;have i:X.wp C (gG C ((pV.range pg n t0 q u J M pr).wp C) K) F H:=B;refine wpIn_seq (wpIn_seq (pY (ro:=none) (fu:=fu) (ds:=[]) p l a0 X (gG C ((pV.range pg n t0 q u J M pr).wp C) K) _ E F H a w e0 i hA hW W fun e N O H' R S g1 g2 g3 g4=>?_));cases e with
      | normal=>exact wpIn_block (nj p l (fun _ _ h=>h) U V Y Z e5 e6 g4 g1 g2 (g3.env.num.trans W) (A.after g3))
      | exit id=>exact A.plain (.exit id) N O H' R S g1 g2 g3 g4
      | ret=>exact A.plain .ret N O H' R S g1 g2 g3 g4
     ·cases d
    ·cases d
   ·cases d
  ·rename_i a0 b0 _ _ e;cases e;split at d
   ·rename_i X tb U V;cases d;have i:X.wp C (gG C (tb.wp C) K) F H:=B;refine wpIn_seq (pY (ro:=none) (fu:=fu) (ds:=[]) p l x X (gG C (tb.wp C) K) _ E F H a w U i hA hW W fun e N O H' R S g1 g2 g3 g4=>?_);cases e with
    | normal=>exact α tb K Q N O H' R S V g4 g1 g2 (g3.env.num.trans W) (A.after g3)
    | exit id=>exact A.plain (.exit id) N O H' R S g1 g2 g3 g4
    | ret=>exact A.plain .ret N O H' R S g1 g2 g3 g4
   ·cases d
  ·cases d
 | _=>intro t K Q E F H a w d; simp[Tbl.tail] at d
end
structure yV where
 nparams:Nat
 ntmps:Nat
 body:pV
 res:List dV
namespace Tbl
variable (T:Tbl)
def akZ (fn:Func):Option yV :=
 match fn.body with
 | some c=>match T.tail fn.ntmps c,T.xj fn.results.toList with
  | some b,some rs=>some ⟨fn.params.size,fn.ntmps,b,rs⟩
  | _,_=>none
 | none=>none
end Tbl
theorem akM {C:Ctx} {T:Tbl} {H:PH} (F:C.P=T.P) (B:C.num=T.num) {name:Nat} {args:List PV} {R:PV→PH→Prop} {fn:Func} {X:yV} (hf:C.P.funcs[C.num name]?=some fn) (γ:(fn.name=="runtime.NumGoroutine")=false)
  (d:T.akZ fn=some X) (N:args.length≤X.ntmps) (h:X.body.wp C (aV X.res R) (PF.args args) H):aH C name args H R:=by
 unfold Tbl.akZ at d;split at d
 ·rename_i c W;split at d
  ·rename_i b rs u y;cases d;refine⟨⟨fn,hf,by simp[W],γ⟩,fun E w vs hN hW S=>?_⟩;have ζ:vs.size=args.length:=by simpa using S.len
   refine (callsIn_wide (n:=0)).1 (callsIn_of_wp_marks hf W trivial ?_ rfl);rw[F];have hA:dL [] fn.ntmps E (PF.args args) { tmps:=vs++a9V (fn.ntmps-vs.size) undef,defers:=[] }:=by
    refine⟨by simp only at N; simp; omega,rfl,fun i pv hi=>?_⟩;have x:i<vs.size:=by
     rw[ζ];rcases a8T i args.length with h' | h'
     ·exact h'
     ·simp[PF.args,a9N h'] at hi
    simp only[bbP];rw[Array.getElem?_append_left x,bbJ x];exact S.at_ i pv _ hi (by simp[x])
   refine apM (fu:=0) F B c b (aV rs R) _ E (PF.args args) H _ w u h hA hW (hN.trans B) fun ds α e l F' H' V q A J p hm hK=>?_;have fin:∀ Y,bM l H' Y→Ext E H w l H' Y→aV rs R .ret F' H'→LeavesIn Fence.wide 0 T.P fn V.tmps (fun e q=>∃ v pv l H',e=.returned v∧bM l H' q∧aZ l pv v∧Ext E H w l H' q∧R pv H') [] .returning Y:=by
    rintro Y K Z ⟨η,O,F1,H1,H2,β,M,v0,ε,hR⟩;obtain⟨us,g1,g2⟩:=KO A K fn.results.toList rs η y O;have δ:=m8 g2;obtain⟨E2,k1,k2,k3⟩:=β.sound K;have Q:=k3 (fun _=>if h:us.toArray.size=1 then us.toArray[0] else .tuple us.toArray) (fun i pv hi=>by
     simp only[PF.set,upd] at hi;split at hi
     ·cases hi; exact δ
     ·cases hi) 0 v0 ε
    refine⟨_,?_,_,v0,E2,H2,rfl,k1.weaken M,Q,(Z.trans k2).drop M,hR⟩;rw[n8,Array.mapM_eq_mapM_toList];simp[g1]
   have U:aV rs R .ret F' H'→bodyPostM Fence.wide 0 T.P fn (fun e q=>∃ v pv l H',e=.returned v∧bM l H' q∧aZ l pv v∧Ext E H w l H' q∧R pv H') .ret V q:=by
    intro hr;show LeavesInM Fence.wide 0 T.P fn V.tmps _ V.defers .returning q;rw[A.defers];rcases α with rfl | ⟨D,rfl⟩
    ·exact fin q J p hr
    ·obtain⟨m1,m2,m3⟩:=hm D rfl;refine⟨(fun h=>by cases h),.inl ⟨D,_,rfl,run_takeDeferred m1,?_⟩⟩;refine fin _ (J.putObj m1 (fun _ _ _ h=>by cases h) m2) ⟨p.env,p.os,p.tape,p.output,?_,fun b W hn=>?_,p.new,p.newG⟩ hr
     ·rw[World.putObj_size]; exact p.size
     ·rw[World.putObj_heap_other Om]; exact p.block b W hn
   cases e with
   | normal=>exact U hK
   | exit id=>exact hK.elim
   | ret=>exact U hK
  ·cases d
 ·cases d
end Go.PM
namespace Go.PM
open Go
def Yh:Rg:=[iA 3 (.box true (Tm 0)),iA 4 (.box true (Tm 1)),iT 6 false]
def Yi:Rg:=[iF 15 2 3,iL 16 15,iN 17 16,iA 18 (.a6T 1 1 [zB] (Tm 17) (Tm 17)),iM 7 18]
def Yj:Rg:=[iF 19 9 4,iL 20 19,iN 21 20,iI 22 0]
def Yk:Rg:=[iB 23 .lss 22 21]
def Yl:Rg:=[iX 24 1 20 22,iL 25 24,iM 9 25]
def Ym:Rg:=[iM 26 7,iM 27 9,iX 28 1 26 27,⟨none,.store 1 (Tm 28) (.const (.bool true)),none⟩]
def Yn:Rg:=[iC 29 .add 22 1,iM 22 29]
def Yg:aC:=(sq Yk (.seq (.cond (Tm 23) .skip (.exit 0)) (.seq (.block 1 (sq Yl (.region Ym))) (.region Yn))))
def Yo:Rg:=[iF 30 3 3,iL 31 30,iN 32 31,iA 33 (.a6T 1 8 [zI] (Tm 32) (Tm 32)),iM 10 33]
def Yp:Rg:=[iM 34 2,iN 35 34,iI 36 0]
def GP:Rg:=[iB 37 .lss 36 35]
def ZL:Rg:=[iX 38 1 34 36,iL 39 38,iM 12 39]
def ZM:Rg:=[iM 40 7,iF 41 4 3,iL 42 41,iM 43 12,iX 44 3 42 43,iF 45 1 44,iL 46 45,iX 47 1 40 46,iL 48 47,iA 49 (.un .not (Tm 48))]
def Jd:Rg:=[iT 6 false]
def Je:Rg:=[iF 50 4 3,iL 51 50,iM 52 12,iX 53 3 51 52,iF 54 2 53,iL 55 54,iM 13 55]
def Jf:Rg:=[iM 56 13,iC 57 .gtr 56 0]
def Jg:Rg:=[iM 64 10,iM 65 13,iX 66 1 64 65,iL 67 66,iC 68 .add 67 1,iX 69 1 64 65,iS 1 69 68]
def Jh:Rg:=[iF 70 3 3,iL 71 70,iM 72 13,iX 73 7 71 72,iF 74 1 73,iL 75 74,iF 76 4 4,iA 77 (.idxA 5 1 (Tm 76) (Tm 75)),iL 78 77,iM 14 78]
def GQ:Rg:=[iM 79 14,iC 80 .gtr 79 0,iM 81 80,gM 82 10 81 true,gM 83 13 81 true,iG 84 (.a7C 1 (Tm 82) (Tm 83)) 81 true,gL 85 84 81 true,gM 86 14 81 true,gB 87 .gtr 85 86 81 true,iP 88 81 87]
def Ji:Rg:=[iT 6 false]
def ZN:Rg:=[iF 58 3 3,iL 59 58,iM 60 13,iX 61 7 59 60,iF 62 2 61,iL 63 62,iM 13 63]
def ZK:aC:=(.seq (sq Jf (.cond (Tm 57) .skip (.exit 4))) (.seq (.block 5 (sq Jg (sq Jh (sq GQ (.cond (Tm 88) (sq Ji .ret) .skip))))) (.region ZN)))
def Jj:Rg:=[iC 89 .add 36 1,iM 36 89]
def zC:aC:=(sq GP (.seq (.cond (Tm 37) .skip (.exit 2)) (.seq (.block 3 (sq ZL (.seq (sq ZM (.cond (Tm 49) (sq Jd .ret) .skip)) (sq Je (.block 4 (.loop ZK)))))) (.region Jj))))
def Jk:Rg:=[iT 6 true]
def OM:aC:=(sq Yh (sq Yi (.seq (sq Yj (.block 0 (.loop Yg))) (sq Yo (.seq (sq Yp (.block 2 (.loop zC))) (sq Jk .ret))))))
def aPA:List Nat:=[3,4]
def aEJ:aS:=⟨3,90,OM,[.tmp 6]⟩
def Yr:Rg:=[iT 6 false]
def Ys:Rg:=[iM 9 0,iN 10 9,iI 11 0]
def u0:Rg:=[iB 12 .lss 11 10]
def Yt:Rg:=[iM 13 11,iX 14 1 9 11,iL 15 14,iM 7 13,iM 8 15]
def yA:Rg:=[iM 16 8,iC 17 .lss 16 0,iM 18 17,gM 19 8 18 false,gM 20 2 18 false,gB 21 .geq 19 20 18 false,iQ 22 18 21,iM 23 22,gM 24 7 23 false,gC 25 .gtr 24 0 23 false,gM 26 25 23 false,gM 27 0 26 true,gM 28 7 26 true,gC 29 .sub 28 1 26 true,iG 30 (.a7C 1 (Tm 27) (Tm 29)) 26 true,gL 31 30 26 true,gM 32 8 26 true,gB 33 .geq 31 32 26 true,iG 34 (.pick (Tm 26) (Tm 33) (.const zB)) 23 false,iQ 35 23 34]
def UN:Rg:=[iT 6 false]
def u1:Rg:=[iC 36 .add 11 1,iM 11 36]
def uz:aC:=(sq u0 (.seq (.cond (Tm 12) .skip (.exit 0)) (.seq (.block 1 (sq Yt (sq yA (.cond (Tm 35) (sq UN .ret) .skip)))) (.region u1))))
def Yu:Rg:=[iM 37 0,iN 38 37,iM 39 1,iB 40 .eql 38 39,iM 6 40]
def OP:aC:=(sq Yr (.seq (sq Ys (.block 0 (.loop uz))) (sq Yu .ret)))
def aPE:List Nat:=[]
def aEM:aS:=⟨3,41,OP,[.tmp 6]⟩
def yk:Rg:=[iA 2 (.box true (Tm 0)),iT 4 false]
def yl:Rg:=[iO 5 7 2,iK 6 96 5,iC 7 .eql 6 0,iM 8 7,gM 9 1 8 true,gC 10 .geq 9 0 8 true,iP 11 8 10,iM 12 11,gM 13 1 12 true,gF 14 5 2 12 true,gL 15 14 12 true,gN 16 15 12 true,gB 17 .lss 13 16 12 true,iP 18 12 17,iM 4 18]
def CL:aC:=(sq yk (sq yl .ret))
def asG:List Nat:=[2]
def Jo:aS:=⟨2,19,CL,[.tmp 4]⟩
def ya:Rg:=[iA 3 (.box true (Tm 0)),iT 6 false]
def yb:Rg:=[iO 8 7 3,iM 9 1,iK2 10 203 8 9,iA 11 (.un .not (Tm 10))]
def yc:Rg:=[iT 6 false]
def yd:Rg:=[iF 12 5 3,iL 13 12,iM 14 1,iX 15 17 13 14,iO 16 17 15,iA 7 (.alloc [(.str []),zI,zI,zI,zI,zI,zI,zI,zI,.aB,.aB,zB,.aB,.aB,zB,.aB,.aB]),iS 17 7 16]
def ye:Rg:=[iM 17 2,iF 18 1 7,iL 19 18,iF 20 2 7,iL 21 20,iB 22 .add 19 21,iF 23 4 3,iL 24 23,iN 25 24,iA 26 (.call 202 [(Tm 17),(Tm 22),(Tm 25)]),iM 27 26,gO 28 7 3 27 true,gO 29 17 7 27 true,gM 30 2 27 true,iG 31 (.call 201 [(Tm 28),(Tm 29),(Tm 30)]) 27 true,iP 32 27 31,iM 6 32]
def CJ:aC:=(sq ya (.seq (sq yb (.cond (Tm 11) (sq yc .ret) .skip)) (sq yd (sq ye .ret))))
def asB:List Nat:=[3]
def Jl:aS:=⟨3,33,CJ,[.tmp 6]⟩
def yf:Rg:=[iA 2 (.box true (Tm 0)),iZ 4,iI 5 0]
def yg:Rg:=[iO 7 7 2,iM 8 1,iK2 9 203 7 8,iA 10 (.un .not (Tm 9)),iM 6 10]
def yh:Rg:=[iZ 4,iI 5 1]
def ON:Rg:=[iF 12 4 2,iL 13 12,iN 14 13,iC 15 .gtr 14 12,iM 11 15]
def yi:Rg:=[iZ 4,iI 5 2]
def yj:Rd:=[(iO 16 7 2,false),(iF 17 5 2,false),(iL 18 17,false),(iM 19 1,false),(iX 20 17 18 19,false),(iO 21 17 20,false),(iK2 22 229 16 21,true),(iM 4 22,false),(iI 5 0,false)]
def CK:aC:=(sq yf (.seq (.block 0 (sq yg (.cond (Tm 6) (sq yh .ret) (sq ON (.cond (Tm 11) (sq yi .ret) .skip))))) (dq yj .ret)))
def asD:List Nat:=[2]
def call17:aS:=⟨2,23,CK,[.tmp 4,.tmp 5]⟩
def zh:Rg:=[iA 2 (.box true (Tm 0)),iZ 4]
def zi:Rg:=[iZ 5]
def zj:Rg:=[iM 13 1,iC 14 .eql 13 5]
def zk:Rg:=[iF 15 4 2,iL 16 15,iN 17 16,iI 18 0]
def zl:Rg:=[iB 19 .lss 18 17]
def zm:Rg:=[iM 20 18,iM 6 20]
def zn:Rg:=[iM 21 5,iM 22 6,iA 23 (.a6R true 1 1 [zI] [(0,(Tm 22))]),iA 24 (.a6R true 1 1 [.aB] [(0,(Tm 23))]),iA 25 (.append 1 24 (Tm 21) (Tm 24)),iM 5 25]
def zo:Rg:=[iC 26 .add 18 1,iM 18 26]
def zg:aC:=(sq zl (.seq (.cond (Tm 19) .skip (.exit 0)) (.seq (.block 1 (sq zm (.region zn))) (.region zo))))
def zp:Rg:=[iM 27 5,iM 4 27]
def ir:Rg:=[iF 28 3 2,iL 29 28,iN 30 29,iA 31 (.a6T 1 8 [zI] (Tm 30) (Tm 30)),iM 7 31]
def it:Rg:=[iF 32 3 2,iL 33 32,iN 34 33,iI 35 0]
def iu:Rg:=[iB 36 .lss 35 34]
def iv:Rg:=[iM 37 35,iX 38 7 33 35,iO 39 7 38,iA 9 (.alloc [(.str []),zI,zI,zI,zB,.aB,.aB]),iM 8 37,iS 7 9 39]
def iw:Rg:=[iF 40 1 9,iL 41 40,iM 42 1,iB 43 .eql 41 42]
def ix:Rg:=[iM 44 7,iM 45 8,iM 46 5,iN 47 46,iX 48 1 44 45,iS 1 48 47]
def iy:Rg:=[iM 49 5,iA 50 (.a6R true 1 1 [.aB] [(0,(.const .aB))]),iA 51 (.append 1 24 (Tm 49) (Tm 50)),iM 5 51]
def HB:Rg:=[iC 52 .add 35 1,iM 35 52]
def ip:aC:=(sq iu (.seq (.cond (Tm 36) .skip (.exit 2)) (.seq (.block 3 (sq iv (sq iw (.cond (Tm 43) (sq ix (.region iy)) .skip)))) (.region HB))))
def iz:Rg:=[iF 53 4 2,iL 54 53,iN 55 54,iI 56 0]
def i0:Rg:=[iB 57 .lss 56 55]
def i4:Rg:=[iM 58 56,iX 59 3 54 56,iO 60 3 59,iA 11 (.alloc [(.str []),zI,zI]),iM 10 58,iS 3 11 60]
def i5:Rg:=[iF 61 2 11,iL 62 61,iM 12 62]
def HC:Rg:=[iF 63 3 2,iL 64 63,iM 65 12,iX 66 7 64 65,iF 67 1 66,iL 68 67,iM 69 1,iB 70 .gtr 68 69]
def i6:Rg:=[iF 71 3 2,iL 72 71,iM 73 12,iX 74 7 72 73,iF 75 2 74,iL 76 75,iM 12 76]
def wO:aC:=(.seq (sq HC (.cond (Tm 70) .skip (.exit 6))) (.block 7 (.region i6)))
def i7:Rd:=[(iM 77 5,true),(iM 78 7,true),(iM 79 12,true),(iX 80 1 78 79,true),(iL 81 80,true),(iM 82 5,false),(iM 83 7,false),(iM 84 12,false),(iX 85 1 83 84,false),(iL 86 85,false),(iX 87 1 82 86,false),(iL 88 87,false),(iM 89 10,false),(iA 90 (.a6R true 1 1 [zI] [(0,(Tm 89))]),false),(iA 91 (.append 1 8 (Tm 88) (Tm 90)),true),(iX 92 1 77 81,false)]
def i8:Rd:=[(iS 1 92 91,true)]
def i9:Rg:=[iC 93 .add 56 1,iM 56 93]
def iq:aC:=(sq i0 (.seq (.cond (Tm 57) .skip (.exit 4)) (.seq (.block 5 (sq i4 (sq i5 (.seq (.block 6 (.loop wO)) (dq i7 (.draw i8)))))) (.region i9))))
def ja:Rg:=[iM 94 5,iM 4 94]
def CN:aC:=(sq zh (sq zi (.seq (sq zj (.cond (Tm 14) (.seq (sq zk (.block 0 (.loop zg))) (sq zp .ret)) .skip)) (sq ir (.seq (sq it (.block 2 (.loop ip))) (.seq (sq iz (.block 4 (.loop iq))) (sq ja .ret)))))))
def asL:List Nat:=[2,23,24,50,90]
def Ke:aS:=⟨2,95,CN,[.tmp 4]⟩
def gn:Rg:=[iI 4 0]
def gp:Rg:=[iI 5 1]
def gr:Rg:=[iI 6 0]
def gs:Rg:=[iM 7 6,iM 8 1,iB 9 .lss 7 8]
def gt:Rg:=[iM 12 5,iM 13 0,iM 14 6,iB 15 .sub 13 14,iB 16 .mul 12 15,iM 17 6,iC 18 .add 17 1,iB 19 .quo 16 18,iM 5 19]
def gv:Rg:=[iM 10 6,iC 11 .add 10 1,iM 6 11]
def gm:aC:=(.seq (sq gs (.cond (Tm 9) .skip (.exit 0))) (.seq (.block 1 (.region gt)) (.region gv)))
def gw:Rg:=[iM 20 5,iA 21 (.a7G true (Tm 20) (Ci 0)),iM 4 21]
def zD:aC:=(sq gn (sq gp (.seq (sq gr (.block 0 (.loop gm))) (sq gw .ret))))
def ajY:List Nat:=[]
def u5:aS:=⟨2,22,zD,[.tmp 4]⟩
def Jp:Rg:=[iI 6 0]
def Jq:Rg:=[iI 7 0]
def Jr:Rg:=[iM 14 0,iN 15 14,iI 16 0]
def ZO:Rg:=[iB 17 .lss 16 15]
def Js:Rg:=[iX 18 1 14 16,iL 19 18,iM 9 19]
def Jt:Rg:=[iI 10 0,iI 11 0]
def Ju:Rg:=[iM 20 9,iN 21 20,iI 22 0]
def ZP:Rg:=[iB 23 .lss 22 21]
def Jv:Rg:=[iX 24 1 20 22,iL 25 24,iM 13 25]
def GT:Rg:=[iM 26 11,iM 27 1,iN 28 27,iB 29 .lss 26 28,iM 30 29,gM 31 1 30 true,gM 32 11 30 true,iG 33 (.a7C 1 (Tm 31) (Tm 32)) 30 true,gL 34 33 30 true,gM 35 13 30 true,gB 36 .lss 34 35 30 true,iP 37 30 36]
def ym:Rg:=[iM 38 11,iC 39 .add 38 1,iM 11 39]
def vN:aC:=(.seq (sq GT (.cond (Tm 37) .skip (.exit 4))) (.block 5 (.region ym)))
def AY:Rg:=[iM 40 11,iM 41 1,iN 42 41,iB 43 .lss 40 42,iM 44 43,gM 45 1 44 true,gM 46 11 44 true,iG 47 (.a7C 1 (Tm 45) (Tm 46)) 44 true,gL 48 47 44 true,gM 49 13 44 true,gB 50 .eql 48 49 44 true,iP 51 44 50]
def yn:Rg:=[iM 52 10,iC 53 .add 52 1,iM 10 53]
def AZ:Rg:=[iC 54 .add 22 1,iM 22 54]
def AX:aC:=(sq ZP (.seq (.cond (Tm 23) .skip (.exit 2)) (.seq (.block 3 (sq Jv (.seq (.block 4 (.loop vN)) (sq AY (.cond (Tm 51) (.region yn) .skip))))) (.region AZ))))
def OS:Rg:=[iM 55 10,iM 56 2,iB 57 .gtr 55 56]
def yo:Rg:=[iM 58 7,iC 59 .add 58 1,iM 7 59]
def OT:Rg:=[iC 60 .add 16 1,iM 16 60]
def OR:aC:=(sq ZO (.seq (.cond (Tm 17) .skip (.exit 0)) (.seq (.block 1 (sq Js (sq Jt (.seq (sq Ju (.block 2 (.loop AX))) (sq OS (.cond (Tm 57) (.region yo) .skip)))))) (.region OT))))
def yq:Rg:=[iM 61 7,iM 6 61]
def GR:aC:=(sq Jp (sq Jq (.seq (sq Jr (.block 0 (.loop OR))) (sq yq .ret))))
def aEU:List Nat:=[]
def ajZ:aS:=⟨3,62,GR,[.tmp 6]⟩
def ia:Rg:=[iA 4 (.box true (Tm 0)),iA 7 (.box true (Tm 3)),iI 8 0,iI 9 0]
def ib:Rg:=[iO 13 7 4,iO 14 2 7,iK2 15 230 13 14,iM 12 15,iE 16 12 0,iE 17 12 1,iM 10 16,iM 11 17]
def GU:Rg:=[iM 19 11,iC 20 .neq 19 0,iM 18 20]
def ic:Rg:=[iM 21 11,iI 8 0,iM 9 21]
def ie:Rg:=[iO 23 7 4,iM 24 1,iM 25 2,iA 26 (.call 204 [(Tm 23),(Tm 24),(Tm 25)]),iA 27 (.un .not (Tm 26)),iM 22 27]
def ig:Rg:=[iI 8 0,iI 9 1]
def ii:Rg:=[iM 28 10,iM 29 2,iF 30 5 4,iL 31 30,iM 32 1,iX 33 17 31 32,iF 34 2 33,iL 35 34,iA 36 (.call 208 [(Tm 28),(Tm 29),(Tm 35)]),iM 8 36,iI 9 0]
def zE:aC:=(sq ia (sq ib (.seq (.block 0 (sq GU (.cond (Tm 18) (sq ic .ret) (sq ie (.cond (Tm 22) (sq ig .ret) .skip))))) (sq ii .ret))))
def akC:List Nat:=[4,7]
def u6:aS:=⟨4,37,zE,[.tmp 8,.tmp 9]⟩
def Kc:Rg:=[iA 2 (.box false (Tm 0)),iA 3 (.box false (Tm 1)),iA 4 (.mv (.const (.lit .nilFunc)))]
def Kd:Rg:=[iA 5 (.mkfn 211 [(Tm 2),(Tm 3)]),iM 4 5]
def HA:aC:=(sq Kc (sq Kd .ret))
def aFE:List Nat:=[]
def akI:aS:=⟨2,6,HA,[.tmp 4]⟩
def zq:Rg:=[iL 8 1,iL 9 2,iB 10 .gtr 8 9]
def zr:Rg:=[iL 11 1,iA 12 (.a6T 1 8 [zI] (Tm 11) (Tm 11)),iM 4 12]
def zt:Rg:=[iM 13 4,iN 14 13,iI 15 0]
def zu:Rg:=[iB 16 .lss 15 14]
def zw:Rg:=[iM 17 15,iM 5 17]
def zx:Rg:=[iM 18 4,iM 19 5,iM 20 5,iX 21 1 18 19,iS 1 21 20]
def zy:Rg:=[iC 22 .add 15 1,iM 15 22]
def PE:aC:=(sq zu (.seq (.cond (Tm 16) .skip (.exit 0)) (.seq (.block 1 (sq zw (.region zx))) (.region zy))))
def PG:Rg:=[iM 23 0,iM 24 4,iA 25 (.append 1 8 (.const .aB) (Tm 24)),iA 26 (.a7N (Tm 23) [(Tm 25)])]
def PI:Rg:=[iL 27 1,iC 28 .sub 27 1,iM 6 28]
def sL:Rd:=[(iM 29 6,false),(iC 30 .geq 29 0,false),(iM 31 30,false),(gM 32 4 31 true,false),(gM 33 6 31 true,false),(iG 34 (.a7C 1 (Tm 32) (Tm 33)) 31 true,false),(gL 35 34 31 true,false),(gL 36 2 31 true,false),(gL 37 1 31 true,false),(gB 38 .sub 36 37 31 true,false),(gM 39 6 31 true,false),(gB 40 .add 38 39 31 true,false),(gB 41 .eql 35 40 31 true,false),(iP 42 31 41,false)]
def HD:Rg:=[iM 43 6,iC 44 .sub 43 1,iM 6 44]
def wP:aC:=(.seq (dq sL (.cond (Tm 42) .skip (.exit 4))) (.block 5 (.region HD)))
def wR:Rg:=[iM 45 6,iC 46 .lss 45 0]
def HE:Rg:=[iM 47 4,iM 48 6,iX 49 1 47 48,iL 50 49,iC 51 .add 50 1,iX 52 1 47 48,iS 1 52 51]
def HF:Rg:=[iM 53 6,iC 54 .add 53 1,iM 7 54]
def wS:Rg:=[iM 55 7,iL 56 1,iB 57 .lss 55 56]
def HG:Rg:=[iM 60 4,iM 61 7,iM 62 4,iM 63 7,iC 64 .sub 63 1,iX 65 1 62 64,iL 66 65,iC 67 .add 66 1,iX 68 1 60 61,iS 1 68 67]
def HH:Rg:=[iM 58 7,iC 59 .add 58 1,iM 7 59]
def wQ:aC:=(.seq (sq wS (.cond (Tm 57) .skip (.exit 6))) (.seq (.block 7 (.region HG)) (.region HH)))
def jb:aC:=(.seq (sq PG (.cond (Tm 26) .skip (.exit 2))) (.block 3 (sq PI (.seq (.block 4 (.loop wP)) (.seq (sq wR (.cond (Tm 46) .ret .skip)) (sq HE (sq HF (.block 6 (.loop wQ)))))))))
def CO:aC:=(.seq (sq zq (.cond (Tm 10) .ret .skip)) (sq zr (.seq (sq zt (.block 0 (.loop PE))) (.block 2 (.loop jb)))))
def asO:List Nat:=[]
def Kf:aS:=⟨1,69,CO,[]⟩
def K4:Rg:=[iT 4 false]
def K5:Rg:=[iM 6 0,iN 7 6,iM 8 1,iN 9 8,iB 10 .neq 7 9]
def aFW:Rg:=[iT 4 false]
def K6:Rg:=[iI 5 0]
def K7:Rg:=[iM 11 5,iM 12 0,iN 13 12,iB 14 .lss 11 13]
def K8:Rd:=[(iM 17 0,false),(iM 18 5,false),(iX 19 1 17 18,false),(iL 20 19,false),(iM 21 1,false),(iM 22 5,false),(iX 23 1 21 22,false),(iL 24 23,false),(iK2 25 94 20 24,true),(iA 26 (.un .not (Tm 25)),false)]
def aFX:Rg:=[iT 4 false]
def K9:Rg:=[iM 15 5,iC 16 .add 15 1,iM 5 16]
def K3:aC:=(.seq (sq K7 (.cond (Tm 14) .skip (.exit 0))) (.seq (.block 1 (dq K8 (.cond (Tm 26) (sq aFX .ret) .skip))) (.region K9)))
def La:Rg:=[iT 4 true]
def HN:aC:=(sq K4 (.seq (sq K5 (.cond (Tm 10) (sq aFW .ret) .skip)) (.seq (sq K6 (.block 0 (.loop K3))) (sq La .ret))))
def aFY:List Nat:=[]
def akP:aS:=⟨2,27,HN,[.tmp 4]⟩
open Go Go.Na
def cQ (n:Nat):Nat→Nat→List (List Nat)
 | 0,_=>[[]]
 | k+1,a=>(a9Y a (n-k-a)).flatMap fun i=>(cQ n k (i+1)).map (i::·)
def mU (n:Nat):List Nat→Option (List Nat)
 | []=>none
 | x::t=>match mU n t with
  | some u=>some (x::u)
  | none=>if x+1+t.length=n then none else some (a9Y (x+1) (t.length+1))
theorem B7 {n:Nat}:∀ {s u:List Nat},mU n s=some u→u.length=s.length
 | [],_,h=>by cases h
 | x::t,u,h=>by
  rw[mU] at h;split at h
  ·rename_i v c;cases h;simp[B7 c]
  ·split at h
   ·cases h
   ·cases h;simp
inductive nL (n:Nat):List Nat→List (List Nat)→Prop
 | last {s:List Nat} (h:mU n s=none):nL n s [s]
 | step {s t:List Nat} {l:List (List Nat)} (h:mU n s=some t) (w:nL n t l):nL n s (s::l)
theorem nL.map {n x k:Nat} {rest:List (List Nat)} (e:(x+1+k=n∧rest=[])∨(x+1+k≠n∧nL n (a9Y (x+1) (k+1)) rest)) {t:List Nat} {l:List (List Nat)} (w:nL n t l) (c:t.length=k):nL n (x::t) (l.map (x::·)++rest):=by
 induction w with
 | @last s h =>
  rcases e with ⟨d,rfl⟩ | ⟨d,h2⟩
  ·exact .last (by rw[mU,h]; simp only; rw[if_pos (by rw[c]; exact d)])
  ·exact .step (by rw[mU,h]; simp only; rw[if_neg (by rw[c]; exact d),c]) h2
 | @step s t l h _ i=>exact .step (by rw[mU,h]) (i (by rw[B7 h,c]))
theorem TY (n:Nat):∀ (k a:Nat),a+k≤n→nL n (a9Y a k) (cQ n k a)
 | 0,a,_=>.last rfl
 | k+1,a,h=>by
  rw[cQ];obtain⟨m,d⟩:∃ m,n-k-a=m+1:=⟨n-k-a-1,by omega⟩;rw[d];clear h
  induction m generalizing a with
  | zero =>have:=nL.map (n:=n) (x:=a) (k:=k) (rest:=[]) (.inl ⟨by omega,rfl⟩) (TY n k (a+1) Om) List.length_range';rw[List.range'_succ (n:=0),List.flatMap_cons];exact this
  | succ m e =>rw[List.range'_succ (n:=m+1),List.flatMap_cons];have c:=e (a+1) Om;exact nL.map (.inr ⟨by omega,c⟩) (TY n k (a+1) Om) List.length_range'
theorem JQ {n:Nat}:∀ {s:List Nat},(∀ i (h:i<s.length),s[i]+s.length=n+i)→mU n s=none
 | [],_=>rfl
 | x::t,h=>by rw[mU,JQ (s:=t) fun i hi=>by have:=h (i+1) (by simpa using hi);simp only[List.getElem_cons_succ,a9O] at this;omega];have c:=h 0 (by simp);simp only[List.getElem_cons_zero,a9O] at c;simp only;rw[if_pos Om]
theorem Qs {n:Nat}:∀ {s:List Nat} (i:Nat) (hi:i<s.length),(∀ j (h:j<s.length),i<j→s[j]+s.length=n+j)→s[i]+s.length≠n+i→mU n s=some (s.take i++a9Y (s[i]+1) (s.length-i))
 | [],i,hi,_,_=>by cases hi
 | x::t,0,_,h,c=>by rw[mU,JQ (s:=t) fun i hi=>by have:=h (i+1) (by simpa using hi) Om;simp only[List.getElem_cons_succ,a9O] at this;omega];simp only[List.getElem_cons_zero,a9O] at c ⊢;rw[if_neg Om];rfl
 | x::t,i+1,hi,h,c=>by
  have d:i<t.length:=by simpa using hi
  simp only[List.getElem_cons_succ,a9O] at c;rw[mU,Qs (s:=t) i d (fun j l e=>by have:=h (j+1) (by simpa using l) Om;simp only[List.getElem_cons_succ,a9O] at this;omega) Om];simp only[List.getElem_cons_succ,a9O,List.take_succ_cons,List.cons_append];rw[show t.length+1-(i+1)=t.length-i by omega]
theorem mQ (n:Nat):∀ (k a:Nat),∀ s∈cQ n k a,s.length=k∧(∀ x∈s,a≤x∧x<n)∧s.Pairwise (· < ·)
 | 0,a,s,h=>by rw[cQ,baN] at h;subst h;exact⟨rfl,(fun x hx=>by cases hx),.nil⟩
 | k+1,a,s,h=>by
  rw[cQ,List.mem_flatMap] at h;obtain⟨i,hi,h⟩:=h;rw[a8Z] at h;obtain⟨t,l,rfl⟩:=h;rw[List.mem_range'_1] at hi;obtain⟨d,c,e⟩:=mQ n k (i+1) t l;refine⟨by simp[d],fun x hx=>?_,List.pairwise_cons.2 ⟨fun y p=>by have:=(c y p).1; omega,e⟩⟩;rcases a8J.1 hx with rfl | hx
  ·omega
  ·have:=c x hx; omega
theorem pS (n:Nat):∀ (k a:Nat),(cQ n k a).length≤2 ^ (n-a)
 | 0,a=>by rw[cQ]; exact Nat.one_le_two_pow
 | k+1,a=>by
  rw[cQ];have c:∀ (m a:Nat),m+a≤n→((a9Y a m).flatMap fun i=>(cQ n k (i+1)).map (i::·)).length+2 ^ (n-a-m)≤2 ^ (n-a):=by
   intro m
   induction m with
   | zero=>intro a _; simp
   | succ m d =>
    intro a h;rw[List.range'_succ,List.flatMap_cons,a8E,a7W];have e:=pS n k (a+1);have l:=d (a+1) Om;rw[show n-a-(m+1)=n-(a+1)-m by omega];have p:2 ^ (n-a)=2 ^ (n-(a+1))+2 ^ (n-(a+1)):=by rw[show n-a=(n-(a+1))+1 by omega,a9T]; omega
    omega
  rcases a8T n a with h | h
  ·rw[show n-k-a=0 by omega]; simp
  ·exact a9J (Nat.le_add_right _ _) (c (n-k-a) a Om)
def gW (f:aE) (p:bS) (set:List Int):Bool:=(a7X f.a6O.length).all fun i=>!(decide (dZ f p i>0)&&decide (fD f set i>dZ f p i))
def mD (f:aE) (p:bS) (d:Int):Bool:=p.a6M.contains ((mdl f d.toNat:Nat):Int)
def lP (f:aE) (p:bS) (set:List Int):Bool:=set.all (mD f p)&&gW f p set
def kP (set:List Int) (top:Int) (i:Nat):Bool:=(decide (0≤set.getD i 0)&&decide (set.getD i 0<top))&&(decide (i=0)||decide (set.getD (i-1) 0<set.getD i 0))
def mL (set:List Int) (n top:Int):Bool:=decide ((set.length:Int)=n)&&(a7X set.length).all (kP set top)
def fV (f:aE) (a6X:Int):bS:=f.a6P.getD a6X.toNat aOH
def fY (p:bS):Int:=p.k+p.m
def gR (f:aE) (a6X:Int):Bool:=dS f&&(decide (0≤a6X)&&decide (a6X<f.a6P.length))
def pC (f:aE) (a6X:Int) (set:List Int):Bool:=gR f a6X&&(mL set (fY (fV f a6X)) f.a6L.length&&lP f (fV f a6X) set)
def bK (s:List Nat):List Int:=s.map fun (x:Nat)=>(x:Int)
def nZ (f:aE) (p:bS):List (List Int):=((cQ f.a6L.length (fY p).toNat 0).map bK).filter (lP f p)
def fF (f:aE) (level:Int):List (List Int) :=
 if level=5 then (a7X f.a6L.length).map fun (d:Nat)=>[(d:Int)]
 else ((a7X f.a6O.length).filter fun i=>decide (lvl f i=level)).map fun i=>bK ((a7X f.a6L.length).filter fun d=>decide (cP f d level=i))
def dD (m:Int):Nat→Int
 | 0=>1
 | i+1=>baE (dD m i*(m-i)) (i+1)
def jF (u:List (List Int)) (s:List Nat) (d:Nat):Bool:=s.any fun i=>(u.getD i []).contains (d:Int)
def nU (f:aE) (u:List (List Int)) (count:Nat):List (List Int):=(cQ u.length count 0).map fun s=>bK ((a7X f.a6L.length).filter (jF u s))
def iY (s set:List Int):Nat:=set.countP fun d=>s.contains d
def sV (sc:List (List Int)) (set:List Int) (m:Int):Nat:=sc.countP fun s=>decide (((iY s set:Nat):Int)>m)
theorem x9:∀ {s t:List Int},s.Nodup→t.Nodup→iY s t=iY t s
 | [],t,_,_=>by simp[iY]
 | d::s,t,q,u=>by
  obtain⟨A,B⟩:=List.nodup_cons.1 q;have l:=x9 B u;unfold iY at l ⊢;rw[List.countP_cons,← l];clear l q
  induction t with
  | nil=>simp
  | cons x t p =>
   obtain⟨k1,k2⟩:=List.nodup_cons.1 u;have:=p k2;rw[List.countP_cons,List.countP_cons,this];by_cases e:x=d
   ·subst e;have c:(x::s).contains x=true:=by simp
    have i:s.contains x=false:=by simpa using A
    have w:t.contains x=false:=by simpa using k1
    have y:(x::t).contains x=true:=by simp
    simp only[c,i,w,y]
   ·have c:(d::s).contains x=s.contains x:=by simp[e]
    have i:(x::t).contains d=t.contains d:=by have:¬ d=x:=fun h=>e h.symm;simp[this]
    rw[c,i];omega
def eD (set:List Int) (d:Int):Nat:=(set.takeWhile fun x=>decide (x<d)).length
theorem xq (set:List Int) (d:Int):eD set d≤set.length:=(List.takeWhile_prefix _).length_le
theorem KZ (set:List Int) (d:Int) {i:Nat} (h:i<eD set d):set[i]'(Nat.lt_of_lt_of_le h (xq set d))<d:=by
 have u:=List.takeWhile_prefix (p:=fun x=>decide (x<d)) (l:=set);have e:(set.takeWhile fun x=>decide (x<d))[i]∈set.takeWhile fun x=>decide (x<d):=a7Z h;have q:=List.all_takeWhile (p:=fun x=>decide (x<d)) (l:=set);have c:=a8M.1 q _ e;rw[u.getElem h] at c;exact of_decide_eq_true c
theorem afD (set:List Int) (d:Int) (h:eD set d<set.length):¬ set[eD set d]<d:=by
 induction set with
 | nil=>simp at h
 | cons x t i =>
  by_cases c:x<d
  ·have e:eD (x::t) d=eD t d+1:=by simp[eD,List.takeWhile_cons,c]
   simp only[e,List.getElem_cons_succ];exact i (by rw[e] at h; simpa using h)
  ·have e:eD (x::t) d=0:=by simp[eD,List.takeWhile_cons,c]
   simp only[e,List.getElem_cons_zero];exact c
theorem aJI {set:List Int} (q:set.Pairwise (· < ·)) (d:Int):set.contains d=(decide (eD set d<set.length)&&decide (set.getD (eD set d) 0=d)):=by
 by_cases h:eD set d<set.length
 ·have u:=afD set d h;rw[decide_eq_true h,a8H,a8P,a8K h,baY];by_cases e:set[eD set d]=d
  ·rw[decide_eq_true e];simp only[List.contains_iff_mem];exact e ▸ a7Z h
  ·rw[decide_eq_false e];simp only[Bool.eq_false_iff,ne_eq,List.contains_iff_mem];intro p;obtain⟨i,hi,l⟩:=a9I p;rcases Nat.lt_trichotomy i (eD set d) with c | c | c
   ·have:=KZ set d c; omega
   ·subst c; exact e l
   ·have:=List.pairwise_iff_getElem.1 q _ _ h hi c;omega
 ·rw[decide_eq_false h,a8F];simp only[Bool.eq_false_iff,ne_eq,List.contains_iff_mem];intro p;obtain⟨i,hi,l⟩:=a9I p;have:=KZ set d (i:=i) Om;omega
theorem axD (set:List Int) {d e:Int} (h:d≤e):eD set d≤eD set e:=by
 induction set with
 | nil=>simp[eD]
 | cons x t l =>
  by_cases c:x<d
  ·have i:x<e:=Om;simp only[eD,List.takeWhile_cons,c,i,decide_true,if_true,a9O] at l ⊢;omega
  ·simp[eD,List.takeWhile_cons,c]
theorem P5 (a b:List Nat):bK (a++b)=bK a++bK b:=a8W
theorem eK (a:List Nat):(bK a).length=a.length:=a7W _
theorem uG {a:List Nat} {i:Nat} (h:i<a.length):(aY (bK a))[i]?=some [PV.int .i64 (a[i]:Nat)]:=by
 unfold aY bK;rw[a8V,a8V,a8K h];rfl
theorem cu (a:List Nat) (i x:Nat):(aY (bK a)).set i [PV.int .i64 (x:Nat)]=aY (bK (a.set i x)):=by
 unfold aY bK;rw[List.map_set,List.map_set]
theorem ayB {top n:Nat} (h:top<n):cQ top n 0=[]:=by
 cases n with
 | zero=>omega
 | succ n =>rw[cQ,show top-n-0=0 by omega];rfl
theorem nL.head {n:Nat} {s:List Nat} {l:List (List Nat)} (h:nL n s l):∃ r,l=s::r:=by
 cases h with
 | last=>exact⟨_,rfl⟩
 | step=>exact⟨_,rfl⟩
def oV (n i:Nat):List Nat:=a9Y 0 i++a8A (n-i) 0
theorem akU (n:Nat):oV n 0=a8A n 0:=by unfold oV; simp
theorem asZ {n i:Nat} (h:i≤n):(oV n i).length=n:=by unfold oV; simp; omega
theorem akT (n:Nat):oV n n=a9Y 0 n:=by unfold oV; simp
theorem atA {n i:Nat} (h:i<n):(oV n i).set i i=oV n (i+1):=by
 unfold oV;obtain⟨m,c⟩:∃ m,n-i=m+1:=⟨n-i-1,by omega⟩;rw[c,List.replicate_succ,baT _ _ (by simp),List.length_range',baX,bbS,show n-(i+1)=m by omega,List.range'_concat];simp
def onU (s:List Nat) (j y m:Nat):List Nat:=s.take j++a9Y y (m-j)++s.drop m
theorem aeE {s:List Nat} {j y m:Nat} (c:j≤m) (d:m≤s.length):(onU s j y m).length=s.length:=by
 unfold onU; simp; omega
theorem aRQ {s:List Nat} {j y:Nat} (h:j<s.length):s.set j y=onU s j y (j+1):=by
 unfold onU;rw[List.set_eq_take_append_cons_drop,if_pos h,show j+1-j=1 by omega];simp
theorem aIJ {s:List Nat} {j y m:Nat} (e:j<m) (d:m≤s.length):∃ h,(onU s j y m)[m-1]'h=y+(m-1-j):=by
 refine⟨by rw[aeE Om d]; omega,?_⟩;unfold onU;have c:(s.take j).length=j:=by rw[a8Q]; omega
 rw[List.getElem_append_left (by simp; omega),bbU Om];simp[c]
theorem aRR {s:List Nat} {j y m:Nat} (e:j≤m) (d:m<s.length):(onU s j y m).set m (y+(m-j))=onU s j y (m+1):=by
 unfold onU;have c:(s.take j++a9Y y (m-j)).length=m:=by simp; omega
 rw[baT _ _ Om,c,baX,a9X d,bbS,show m+1-j=(m-j)+1 by omega,List.range'_concat];simp
theorem aII {s:List Nat} {j y:Nat}:onU s j y s.length=s.take j++a9Y y (s.length-j):=by
 unfold onU; simp
theorem aPF {C:Ctx} {K:bR} [Up K] {n o1 o2 q:Nat} {y:PV} {F:PF} {H:PH} (E:n≤1000) (x:H q=some (.rows 1 (aY (bK (oV n 0))))) (u:(((((((PF.nil.set 0 (y)).set 1 (.ptr o1 1 0 0)).set 2 (.ptr o2 1 0 0)).set 4 (.osl q 1 0 n)).set 14 (.int .i64 n)).set 15 (.int .i64 0))).le F)
  (w:K (.exit 0) (((((PF.nil.set 0 (y)).set 1 (.ptr o1 1 0 0)).set 2 (.ptr o2 1 0 0)).set 4 (.osl q 1 0 n))) (H.set q (.rows 1 (aY (bK (a9Y 0 n)))))):aC.wp C (.loop PE) K F H:=by
 refine wp_loop (α:=Nat × PH) (fun s=>((((((PF.nil.set 0 (y)).set 1 (.ptr o1 1 0 0)).set 2 (.ptr o2 1 0 0)).set 4 (.osl q 1 0 n)).set 14 (.int .i64 n)).set 15 (.int .i64 s.1))) (fun s=>s.2) (fun s=>s.1≤n∧s.2=H.set q (.rows 1 (aY (bK (oV n s.1))))) (fun s=>n-s.1) (0,H) ⟨a8C _,?_⟩ u b_ ?_
 ·refine PH.ext fun o=>?_;show H o=(H.set q _) o;rw[aT];split
  ·rename_i e; rw[e,x]
  ·rfl
 rintro⟨i,A⟩ ⟨hi,p⟩;simp only at hi p;subst p;simp only[go_sem,PE,zu];by_cases hlt:i<n
 ·have c:(i:Int)<(n:Nat):=Om;have B:=asZ hi;have d:=uG (a:=oV n i) (i:=i) Om;have l:i<(aY (bK (oV n i))).length:=by rw[dC,eK]; omega
  simp only[go_sem,c,zw,zx,d,l,a8U,cu,atA hlt,zy,wZz i];exact aD (i+1,_) ⟨hlt,rfl⟩ (by simp only; omega) Lq b_
 ·have c:¬ (i:Int)<(n:Nat):=Om;have:i=n:=Om;subst this;rw[akT];simp only[go_sem,c];exact Up.up Lq w
def cyF (y:PV) (o1 o2 q n:Nat):PF:=((((PF.nil.set 0 (y)).set 1 (.ptr o1 1 0 0)).set 2 (.ptr o2 1 0 0)).set 4 (.osl q 1 0 n))
theorem asN {C:Ctx} {K:bR} [Up K] {n top o1 o2 q:Nat} {y:PV} {s:List Nat} (V:s.length=n) (U:n≤1000) (W:top≤1000) (Q:n≤top) {F:PF} {H:PH} (b1:H o1=some (.rows 1 [[.int .i64 n]])) (b2:H o2=some (.rows 1 [[.int .i64 top]])) (E:H q=some (.rows 1 (aY (bK s))))
  (O:((cyF y o1 o2 q n).set 6 (.int .i64 ((n:Int)-1))).le F)
  (A:∀ m,m≤n→(∀ i (h:i<s.length),m≤i→s[i]+n=top+i)→(0<m→∀ (h:m-1<s.length),s[m-1]+n≠top+(m-1))→K (.exit 4) ((cyF y o1 o2 q n).set 6 (.int .i64 ((m:Int)-1))) H):aC.wp C (.loop wP) K F H:=by
 refine wp_loop (α:=Nat) (fun m=>(cyF y o1 o2 q n).set 6 (.int .i64 ((m:Int)-1))) (fun _=>H) (fun m=>m≤n∧∀ i (h:i<s.length),m≤i→s[i]+n=top+i) (fun m=>m) n ⟨a8D _,fun i h S=>by omega⟩ O b_ ?_;rintro m ⟨B,d⟩;rw[show wP=(.seq (.seq (.draw sL) (.cond (.tmp 42) .skip (.exit 4))) (.block 5 (.region HD))) from rfl];simp only[go_sem];refine bV .nil eT a_ ?_;by_cases N:m=0
 ·subst N;simp only[go_sem,sL,cyF,show ¬ ((0:Nat):Int)-1≥0 by omega];refine Up.up ?_ (A 0 B d (fun h=>by omega));unfold cyF;exact Lq
 ·obtain⟨k,rfl⟩:∃ k,m=k+1:=⟨m-1,by omega⟩;have w:(((k+1:Nat):Int)-1)=(k:Int):=Om;have x:k<s.length:=Om;have p:=uG x;have u:k<(aY (bK s)).length:=by rw[dC,eK]; omega
  have J:IntKind.i64.wrap ((top:Int)-(n:Int))=(top:Int)-n:=wrap_i64 Om Om;have M:IntKind.i64.wrap ((top:Int)-(n:Int)+(k:Int))=(top:Int)-n+k:=wrap_i64 Om Om;have l:(k:Int)<(n:Nat):=Om;by_cases c:s[k]+n=top+k
  ·simp only[go_sem,sL,cyF,w,show (k:Int)≥0 by omega,E,p,u,l,b1,b2,a8U,J,M,bL (Om:((s[k]:Nat):Int)=(top:Int)-n+k),HD];have R:IntKind.i64.wrap ((k:Int)-1)=(k:Int)-1:=wrap_i64 Om Om;refine aD k ⟨by omega,fun i h hi=>?_⟩ Om (by (repeat' (first|exact c_|refine d_ ?_ ?_))<;>first|(simp only[go_sem,R]<;>rfl)|rfl) b_;by_cases e:i=k
   ·subst e; exact c
   ·exact d i h Om
  ·simp only[go_sem,sL,cyF,w,show (k:Int)≥0 by omega,E,p,u,l,b1,b2,a8U,J,M,bF (Om:((s[k]:Nat):Int)≠(top:Int)-n+k)];refine Up.up ?_ (A (k+1) B d (fun _ h=>c));unfold cyF
   (repeat' (first|exact c_|refine d_ ?_ ?_))<;>first|(simp only[go_sem,w]<;>rfl)|rfl
theorem aPG {C:Ctx} {K:bR} [Up K] {n o1 o2 q j x:Nat} {y:PV} {s:List Nat} (V:s.length=n) (hn:n≤1000) (hx:x≤1000000) (R:j<n) {F:PF} {H:PH} (b1:H o1=some (.rows 1 [[.int .i64 n]])) (J:¬ o1=q) (U:H q=some (.rows 1 (aY (bK (onU s j x (j+1))))))
  (N:((cyF y o1 o2 q n).set 7 (.int .i64 (j+1:Nat))).le F)
  (O:K (.exit 6) (cyF y o1 o2 q n) (H.set q (.rows 1 (aY (bK (s.take j++a9Y x (n-j))))))):aC.wp C (.loop wQ) K F H:=by
 refine wp_loop (α:=Nat × PH) (fun m=>(cyF y o1 o2 q n).set 7 (.int .i64 m.1)) (fun m=>m.2) (fun m=>j+1≤m.1∧m.1≤n∧m.2=H.set q (.rows 1 (aY (bK (onU s j x m.1))))) (fun m=>n-m.1) (j+1,H) ⟨a8D _,R,?_⟩ N b_ ?_
 ·refine PH.ext fun o=>?_;show H o=(H.set q _) o;rw[aT];split
  ·rename_i e; rw[e,U]
  ·rfl
 rintro⟨m,Y⟩ ⟨A,B,M⟩;simp only at A B M;subst M;have u:¬ q=o1:=fun e=>J e.symm;rw[show wQ=(.seq (.seq (.region wS) (.cond (.tmp 57) .skip (.exit 6))) (.seq (.block 7 (.region HG)) (.region HH))) from rfl];by_cases hlt:m<n
 ·have c:(m:Int)<(n:Nat):=Om;obtain⟨S,Q⟩:=aIJ (s:=s) (j:=j) (y:=x) (m:=m) Om Om;have d:=uG S;rw[Q] at d;have Z:=aeE (s:=s) (j:=j) (y:=x) (m:=m) Om Om;have w:m-1<(aY (bK (onU s j x m))).length:=by rw[dC,eK]; omega
  have l:m<(aY (bK (onU s j x m))).length:=by rw[dC,eK]; omega
  have i:(aY (bK (onU s j x m)))[m]?=some [PV.int .i64 ((onU s j x m)[m]'Om:Nat)]:=uG Om;have W:IntKind.i64.wrap ((m:Int)-1)=((m-1:Nat):Int):=by rw[wrap_i64 Om Om]; omega
  have X:IntKind.i64.wrap (((x+(m-1-j):Nat):Int)+1)=((x+(m-j):Nat):Int):=by rw[wrap_i64 Om Om]; omega
  have p:((m-1:Nat):Int)<(n:Nat):=Om;have E:=aRR (s:=s) (j:=j) (y:=x) (m:=m) Om Om;simp only[go_sem,wS,cyF,b1,J,u,c,HG,W,p,d,w,a8U,X,i,l,cu,E,HH,wZz m];refine aD (m+1,_) ⟨by simp only; omega,hlt,rfl⟩ (by simp only; omega) Lq b_
 ·have c:¬ (m:Int)<(n:Nat):=Om;have:m=n:=Om;subst this;have e:=aII (s:=s) (j:=j) (y:=x);rw[V] at e;rw[e];simp only[go_sem,wS,cyF,b1,J,u,c];refine Up.up ?_ O;unfold cyF;exact Lq
theorem nL.done {n:Nat} {s:List Nat} {l:List (List Nat)} (h:nL n s l) (d:mU n s=none):l=[s]:=by
 cases h with
 | last=>rfl
 | step c=>rw[d] at c; cases c
theorem nL.next {n:Nat} {s t:List Nat} {l:List (List Nat)} (h:nL n s l) (d:mU n s=some t):∃ r,l=s::r∧nL n t r:=by
 cases h with
 | last c=>rw[d] at c; cases c
 | step c w=>rw[d] at c; cases c; exact⟨_,rfl,w⟩
structure aDU (J:Nat→PH→Prop) (ss:List (List Nat)) (top n o1 o2 q k:Nat) (s:List Nat) (G H:PH):Prop where
 lt:k<ss.length
 walk:nL top s (ss.drop k)
 len:s.length=n
 rng:∀ x∈s,x<top
 j:J k G
 le:G.le H
 g1:G o1=none
 g2:G o2=none
 gq:G q=none
 b1:H o1=some (.rows 1 [[.int .i64 n]])
 b2:H o2=some (.rows 1 [[.int .i64 top]])
 bq:H q=some (.rows 1 (aY (bK s)))
theorem aES {C:Ctx} {l o1 o2 n top:Nat} (J:Nat→PH→Prop) (d:List (List Nat)) (R:d=cQ top n 0) (h1:1≤n) (hn:n≤1000) (ht:top≤1000)
  (hY:∀ k (hk:k<d.length) G c,J k G→G c=none→FG C l [.osl c 1 0 n] (G.set c (.rows 1 (aY (bK d[k])))) (fun r H'=>r=.bool true∧J (k+1) H'))
  {M H:PH} (W:J 0 M) (p:M.le H) (b1:H o1=some (.rows 1 [[.int .i64 n]])) (b2:H o2=some (.rows 1 [[.int .i64 top]])) (g1:M o1=none) (g2:M o2=none) :
  CO.wp C (aV Kf.res (fun _ H'=>∃ G,J d.length G∧G.le H')) (PF.args [wE l,.ptr o1 1 0 0,.ptr o2 1 0 0]) H:=by
 simp only[go_sem,CO,zq,Kf,b1,b2];by_cases c:n>top
 ·have:d=[]:=by rw[R]; exact ayB c
  subst this;simp only[go_sem,show (n:Int)>(top:Nat) by omega];exact bA (vs:=[]) (.inr rfl) M rfl p ⟨M,W,b_⟩
 simp only[go_sem,show ¬ (n:Int)>(top:Nat) by omega,zr,b1,show (0:Int)≤n by omega,Int.le_refl,show (n:Int)*((8:Nat):Int)≤140737488355328 by omega,show (n:Int)≤9223372036854775807 by omega,a9Q];refine aR fun q Q=>?_;obtain⟨a1,υ⟩:¬ o1=q∧¬ q=o1:=⟨(fun e=>by rw[e,Q] at b1; cases b1),fun e=>by rw[← e,Q] at b1; cases b1⟩;obtain⟨a2,φ⟩:¬ o2=q∧¬ q=o2:=⟨(fun e=>by rw[e,Q] at b2; cases b2),fun e=>by rw[← e,Q] at b2; cases b2⟩;have ez:a8A n [PV.int .i64 0]=aY (bK (oV n 0)):=by rw[akU];unfold aY bK;rw[List.map_replicate,List.map_replicate];rfl
 rw[ez];simp only[go_sem,zt];refine aPF (n:=n) (o1:=o1) (o2:=o2) (q:=q) (y:=wE l) hn (by rw[cO]) Lq ?_;rw[PH.set_set];have Z:M q=none:=by
  cases h:M q with
  | none=>rfl
  | some x=>rw[p q x h] at Q; cases Q
 have hw:=TY top n 0 Om;rw[← R] at hw;obtain⟨r0,ε⟩:=hw.head;have N:=mQ top n 0;rw[← R] at N;simp only[go_sem];refine wp_loop (α:=Nat × List Nat × PH × PH) (fun _=>cyF (wE l) o1 o2 q n) (fun x=>x.2.2.2) (fun x=>aDU J d top n o1 o2 q x.1 x.2.1 x.2.2.1 x.2.2.2) (fun x=>d.length-x.1) (0,a9Y 0 n,M,H.set q (.rows 1 (aY (bK (a9Y 0 n))))) ?_ (by unfold cyF; exact Lq) b_ ?_
 ·exact⟨(by simp only; rw[ε]; simp),hw,List.length_range',(fun x hx=>by rw[List.mem_range'_1] at hx; omega),W,PH.le_trans p (PH.QI _ Q),g1,g2,Z,(by simp only; rw[aT,if_neg a1]; exact b1),(by simp only; rw[aT,if_neg a2]; exact b2),(by simp only; rw[cO])⟩
 clear b1 b2 g1 g2 Z Q p W hw ε ez;rintro⟨k,s,G,H⟩ A;have A:aDU J d top n o1 o2 q k s G H:=A;obtain⟨hlt,U,w,ζ,W,p,g1,g2,gq,b1,b2,bq⟩:=A;have B:d.drop k=d[k]::d.drop (k+1):=a9X hlt;have σ:d[k]=s:=by obtain⟨r,F⟩:=U.head;rw[B] at F;injection F
 have S:dX H 1 (.osl q 1 0 n)=some (aY (bK s)):=by
  have:=(show bQ H 1 (.osl q 1 0 (aY (bK s)).length) (aY (bK s)) from .inr ⟨q,_,rfl,bq,a8D _,a8Y⟩).view
  rwa [dC,eK,w] at this
 rw[show jb=(.seq (.seq (.region PG) (.cond (.tmp 26) .skip (.exit 2))) (.block 3 (.seq (.region PI) (.seq (.block 4 (.loop wP)) (.seq (.seq (.region wR) (.cond (.tmp 46) .ret .skip)) (.seq (.region HE) (.seq (.region HF) (.block 6 (.loop wQ))))))))) from rfl];simp only[go_sem,PG,cyF];refine tP S (by unfold roomFor; rw[dC,eK]; simp only[maxLen]; omega) (fun h=>?_) fun _ c hc=>?_
 ·have:=congrArg List.length h;rw[dC,eK,w] at this;simp at this;omega
 rw[dC,eK,w];have θ:G c=none:=by
  cases h:G c with
  | none=>rfl
  | some x=>rw[p c x h] at hc; cases hc
 have hy:=hY k hlt G c W θ;rw[σ] at hy;have ne:∀ {b:Nat} {x:cG},H b=some x→¬ b=c:=fun V e=>by rw[e,hc] at V; cases V
 refine⟨l,rfl,.inl ⟨_,G.set c (.rows 1 (aY (bK s))),_,Ev,?_,hy,?_⟩⟩
 ·intro o x K;rw[aT] at K ⊢;split at K
  ·rename_i e; rw[if_pos e]; exact K
  ·rename_i e; rw[if_neg e]; exact p o x K
 rintro _ H' ⟨rfl,X⟩ ι;have keep:∀ {b:Nat} {x:cG},H b=some x→G b=none→H' b=none∧((H.set c (.rows 1 (aY (bK s)))).over (G.set c (.rows 1 (aY (bK s)))) H') b=some x:=fun {b} {x} V hg=>by
  have e:=ne V;have h':H' b=none:=by
   cases h:H' b with
   | none=>rfl
   | some y =>have:=ι b y h (by rw[aT,if_neg e]; exact hg);rw[aT,if_neg e,V] at this;cases this
  refine⟨h',?_⟩;rw[gV,h'];simp only[aT,if_neg e,hg,V]
 obtain⟨k1,d1⟩:=keep b1 g1;obtain⟨k2,d2⟩:=keep b2 g2;obtain⟨kq,dq⟩:=keep bq gq;have O:H'.le ((H.set c (.rows 1 (aY (bK s)))).over (G.set c (.rows 1 (aY (bK s)))) H'):=fun o x K=>by rw[gV,K]
 generalize (H.set c (.rows 1 (aY (bK s)))).over (G.set c (.rows 1 (aY (bK s)))) H'=H2 at *
 have w1:IntKind.i64.wrap ((n:Int)-1)=(n:Int)-1:=wrap_i64 Om Om;simp only[go_sem,PI,d1,w1];refine asN (n:=n) (top:=top) (o1:=o1) (o2:=o2) (q:=q) (y:=wE l) (s:=s) w hn ht Om d1 d2 dq (by unfold cyF; exact Lq) fun m hm E β=>?_;by_cases m0:m=0
 ·subst m0;have ο:mU top s=none:=JQ fun i hi=>by have:=E i hi (a8C _); omega
  have Y:k+1=d.length:=by have:=congrArg List.length (U.done ο);rw[a9Z,a8I] at this;omega
  simp only[go_sem,cyF,wR,show ((0:Nat):Int)-1<0 by omega];exact bA (vs:=[]) (.inr rfl) H' rfl O ⟨H',by rw[← Y]; exact X,b_⟩
 ·obtain⟨j,rfl⟩:∃ j,m=j+1:=⟨m-1,by omega⟩;have u:j<s.length:=Om;have ξ:(j:Int)<(n:Nat):=Om;have e0:(((j+1:Nat):Int)-1)=(j:Int):=Om;have γ:=Qs (n:=top) (s:=s) j u (fun i hi ν=>by have:=E i hi ν; omega) (by have:=β (Nat.succ_pos _) u; simp only[Nat.add_sub_cancel] at this; omega);rw[w] at γ;have χ:=ζ s[j] (a7Z u);have κ:=uG u;have μ:j<(aY (bK s)).length:=by rw[dC,eK]; exact u
  have w2:IntKind.i64.wrap (((s[j]:Nat):Int)+1)=((s[j]+1:Nat):Int):=cZ Om;have δ:=aRQ (s:=s) (j:=j) (y:=s[j]+1) u;simp only[go_sem,cyF,wR,e0,show ¬ (j:Int)<0 by omega,HE,dq,κ,μ,ξ,a8U,w2,cu,δ,HF,wZz j];refine aPG (n:=n) (o1:=o1) (o2:=o2) (q:=q) (j:=j) (x:=s[j]+1) (y:=wE l) (s:=s) w hn Om Om (by rw[aT,if_neg a1]; exact d1) a1 (by rw[cO]) (by unfold cyF; exact Lq) ?_;rw[PH.set_set];have a7H:k+1<d.length∧nL top (s.take j++a9Y (s[j]+1) (n-j)) (d.drop (k+1)):=by
   obtain⟨r,F,η⟩:=U.next γ;rw[B] at F;injection F with _ F
   rw[F];refine⟨?_,η⟩;obtain⟨r2,ρ⟩:=η.head;have:=congrArg List.length F;rw[ρ,a9Z,a9O] at this;omega
  have τ:aDU J d top n o1 o2 q (k+1) (s.take j++a9Y (s[j]+1) (n-j)) H' (H2.set q (.rows 1 (aY (bK (s.take j++a9Y (s[j]+1) (n-j)))))):={
      lt:=a7H.1
      walk:=a7H.2
      len:=by simp; omega
      rng:=fun x hx=>by
       have h2:=N (d[k+1]'a7H.1) (a7Z _);have h3:d[k+1]'a7H.1=s.take j++a9Y (s[j]+1) (n-j):=by obtain⟨r,F⟩:=a7H.2.head;rw[a9X a7H.1] at F;injection F
       rw[h3] at h2;exact (h2.2.1 x hx).2
      j:=X
      le:=fun o x K=>by
       have:¬ o=q:=fun e=>by rw[e,kq] at K; cases K
       rw[aT,if_neg this];exact O o x K
      g1:=k1,g2:=k2,gq:=kq
      b1:=by rw[aT,if_neg a1]; exact d1
      b2:=by rw[aT,if_neg a2]; exact d2
      bq:=by rw[cO] }
  simp only[go_sem,cyF];exact aD (k+1,s.take j++a9Y (s[j]+1) (n-j),H',H2.set q (.rows 1 (aY (bK (s.take j++a9Y (s[j]+1) (n-j)))))) τ (by simp only; omega) Lq b_
def lT (f:aE) (p:bS) (xs:List Int) (i:Nat):Bool:=!(decide (dZ f p i>0)&&decide (fD f xs i>dZ f p i))
theorem tL (f:aE) (p:bS) (xs:List Int):gW f p xs=(a7X f.a6O.length).all (lT f p xs):=rfl
theorem asP (f:aE) (xs ys:List Int) (i:Nat):fD f xs i≤fD f (xs++ys) i:=by
 unfold fD;rw[List.countP_append];split<;>omega
theorem avR {f:aE} {p:bS} {xs ys:List Int} {i:Nat} (h:lT f p xs i=false):lT f p (xs++ys) i=false:=by
 have:=asP f xs ys i;unfold lT at h ⊢;simp only[Bool.not_eq_false',a8O,decide_eq_true_eq] at h ⊢;omega
theorem LF {f:aE} {p:bS} {xs:List Int} {i:Nat} (hi:i<f.a6O.length) (h:lT f p xs i=false):gW f p xs=false:=by
 rw[tL];simp only[List.all_eq_false,a9A];exact⟨i,hi,by rw[h]; simp⟩
theorem S7 {f:aE} {p:bS} {xs ys:List Int} (h:gW f p xs=false):gW f p (xs++ys)=false:=by
 rw[tL] at h;simp only[List.all_eq_false,a9A] at h;obtain⟨i,hi,h⟩:=h;exact LF hi (avR (by simpa using h))
theorem Xo (f:aE) (p:bS):gW f p []=true:=by
 rw[tL];simp only[a8M,a9A];intro i _;unfold lT fD;simp;omega
theorem p5 {f:aE} (hV:VF f) {p:bS} {xs:List Int} (h:∀ i,i<f.a6O.length→0<lvl f i→lT f p xs i=true):gW f p xs=true:=by
 rw[tL];simp only[a8M,a9A];intro i hi;have c:=hV.kA hi;by_cases e:i=0
 ·unfold lT fD;rw[if_pos e];simp;omega
 ·exact h i hi Om
theorem aRO {f:aE} {p:bS} {xs:List Int} (h:gW f p xs=true) {i:Nat} (hi:i<f.a6O.length):lT f p xs i=true:=by
 rw[tL] at h;exact a8M.1 h i (a9A.2 hi)
theorem Eg (p:bS) (t:List PV) {n:Nat} (h:n<5):(if 1≤(List.drop n (PV.int .i64 p.s0::PV.int .i64 p.s1::PV.int .i64 p.s2::PV.int .i64 p.s3::PV.int .i64 p.s4::t)).length then some (List.take 1 (List.drop n (PV.int .i64 p.s0::PV.int .i64 p.s1::PV.int .i64 p.s2::PV.int .i64 p.s3::PV.int .i64 p.s4::t))) else none)=some [PV.int .i64 (p.spread n)]:=by
 have:n=0∨n=1∨n=2∨n=3∨n=4:=Om;rcases this with rfl | rfl | rfl | rfl | rfl<;>simp[bS.spread]
def GO (f:aE) (p:bS) (c oD:Nat) (set:List Int) (k:Nat):PF:=(((((((PF.nil.set 3 (.bH f.cells)).set 4 (.bH p.cells)).set 7 (.osl c 1 0 f.a6M.length)).set 10 (.osl oD 1 0 f.a6O.length)).set 34 (ints set)).set 35 (.int .i64 (set.length:Nat))).set 36 (.int .i64 k))
def ajT (f:aE) (p:bS) (c oD:Nat) (set:List Int) (k:Nat) (at_:Nat):PF:=((((((((PF.nil.set 3 (.bH f.cells)).set 4 (.bH p.cells)).set 7 (.osl c 1 0 f.a6M.length)).set 10 (.osl oD 1 0 f.a6O.length)).set 34 (ints set)).set 35 (.int .i64 (set.length:Nat))).set 36 (.int .i64 k)).set 13 (.int .i64 at_))
theorem aPB {C:Ctx} {K:bR} [Up K] (f:aE) (hV:VF f) (p:bS) (oA oD:Nat) (set:List Int) (k:Nat) (xs:List Int) (ζ:xs.length≤16777216) (β:gW f p xs=true) (d:Nat) (hd:d<f.a6L.length) {F:PF} {H:PH}
  (hF:(ajT f p oA oD set k (dK f d)).le F) (hD:H oD=some (.rows 1 (aY (mE f xs))))
  (hR:∀ F' H',F' 6=some (.bool false)→gW f p (xs++[(d:Int)])=false→K .ret F' H')
  (hK:gW f p (xs++[(d:Int)])=true→K (.exit 4) (GO f p oA oD set k) (H.set oD (.rows 1 (aY (mE f (xs++[(d:Int)])))))) :
  aC.wp C (.loop ZK) K F H:=by
 refine wp_loop (α:=Nat × PH) (fun t=>ajT f p oA oD set k (upN f t.1 (dK f d))) (fun t=>t.2) (fun t=>t.1≤4∧t.2=H.set oD (.rows 1 (aY (mN f xs d t.1)))∧∀ i,i<f.a6O.length→4-(t.1:Int)<lvl f i→lT f p (xs++[(d:Int)]) i=true) (fun t=>4-t.1) (0,H) ⟨a8C _,?_,?_⟩ (by rw[upN]; exact hF) b_ ?_
 ·rw[asR hV];refine PH.ext fun o=>?_;show H o=(H.set oD _) o;rw[aT];split
  ·rename_i e; rw[e,hD]
  ·rfl
 ·intro i hi hl;have:=(hV.kA hi).2.1;simp only at hl;omega
 rintro⟨j,H0⟩ ⟨hj,hH,q⟩;simp only at hj hH q;subst hH;obtain⟨w,U⟩:=GI hV hd (k:=j) hj;simp only[go_sem,ZK,Jf,ajT];by_cases hlt:j<4
 ·have Z:0<upN f j (dK f d):=by
   rcases baG (upN f j (dK f d)) with e | e
   ·rw[e,hV.root.2.1] at U; omega
   ·exact e
  have V:((upN f j (dK f d):Nat):Int)>0:=Om;obtain⟨b1,b2⟩:=aPL hV xs hd hlt;have M:(aY (mN f xs d j))[upN f j (dK f d)]?=some [.int .i64 (fD f xs (upN f j (dK f d)))]:=by unfold aY; rw[a8V,b1]; rfl
  have δ:=aPK f xs (upN f j (dK f d));have hw:IntKind.i64.wrap (fD f xs (upN f j (dK f d))+1)=fD f xs (upN f j (dK f d))+1:=wrap_i64 Om Om;have x:((upN f j (dK f d):Nat):Int)<(f.a6O.length:Nat):=Om;have X:upN f j (dK f d)<(aY (mN f xs d j)).length:=by rw[dC,aFK]; exact w
  have Q:fD f (xs++[(d:Int)]) (upN f j (dK f d))=fD f xs (upN f j (dK f d))+1:=by rw[BA f xs d Om,cP,U,show 4-(4-(j:Int)).toNat=j by omega,if_pos rfl]
  have l:lT f p (xs++[(d:Int)]) (upN f j (dK f d))=!(decide (dZ f p (upN f j (dK f d))>0)&&decide (fD f xs (upN f j (dK f d))+1>dZ f p (upN f j (dK f d)))):=by rw[lT,Q]
  have a7H:lT f p (xs++[(d:Int)]) (upN f j (dK f d))=true→∀ i,i<f.a6O.length→4-((j+1:Nat):Int)<lvl f i→lT f p (xs++[(d:Int)]) i=true:=by
   intro h i hi hl;by_cases e:i=upN f j (dK f d)
   ·rw[e]; exact h
   ·by_cases c:4-(j:Int)<lvl f i
    ·exact q i hi c
    ·have O:lvl f i=4-(j:Int):=Om;have W:i≠0:=by intro e; subst e; rw[hV.root.2.1] at O; omega
     have E:fD f (xs++[(d:Int)]) i=fD f xs i:=by rw[BA f xs d W,cP,O,show 4-(4-(j:Int)).toNat=j by omega,if_neg (fun h=>e h.symm)]; simp
     have:=aRO β hi;unfold lT at this ⊢;rw[E]; exact this
  have N:lT f p (xs++[(d:Int)]) (upN f j (dK f d))=false→gW f p (xs++[(d:Int)])=false:=LF w;have Y:dZ f p (upN f j (dK f d))=p.spread (4-(j:Int)).toNat:=by rw[dZ,U]
  rw[Y] at l;have γ:=M;have B:(aY (mN f xs d j)).set (upN f j (dK f d)) [.int .i64 (fD f xs (upN f j (dK f d))+1)]=aY (mN f xs d (j+1)):=by rw[Az,b2]
  have y:(aY (mN f xs d (j+1)))[upN f j (dK f d)]?=some [.int .i64 (fD f xs (upN f j (dK f d))+1)]:=by rw[← B,List.getElem?_set_self X]
  have R:upN f (j+1) (dK f d)=KE f (upN f j (dK f d)):=rfl;have A:=hV.xb Z w;generalize ε:upN f j (dK f d)=u at *
  generalize fD f xs u=dc at *
  have l0:(0:Int)≤4-(j:Int):=Om;have h5:4-(j:Int)<((5:Nat):Int):=Om;simp only[go_sem,V,Jg,x,a8U,M,hw,B,Jh,fG w,sX w,U,l0,h5,Nat.mul_one];rw[Eg p _ (Om:(4-(j:Int)).toNat<5)];by_cases J:p.spread (4-(j:Int)).toNat>0
  ·by_cases S:dc+1>p.spread (4-(j:Int)).toNat
   ·simp only[go_sem,GQ,J,S,x,y,a8U,Ji];exact hR _ _ Sq (N (by rw[l,decide_eq_true J,decide_eq_true S]; rfl))
   ·simp only[go_sem,GQ,J,S,x,y,a8U,ZN,fG w,m9 w,A];exact aD (j+1,_) ⟨hlt,rfl,a7H (by rw[l,decide_eq_false S,a9E]; rfl)⟩ (by simp only; omega) (by (repeat' (first|exact c_|refine d_ ?_ ?_))<;>first|(simp only[go_sem,R]<;>rfl)|rfl) b_
  ·simp only[go_sem,GQ,J,ZN,x,a8U,fG w,m9 w,A];exact aD (j+1,_) ⟨hlt,rfl,a7H (by rw[l,decide_eq_false J]; rfl)⟩ (by simp only; omega) (by (repeat' (first|exact c_|refine d_ ?_ ?_))<;>first|(simp only[go_sem,R]<;>rfl)|rfl) b_
 ·have:j=4:=Om;subst this;have h0:upN f 4 (dK f d)=0:=by have:=hV.kA w;omega
  have V:¬ ((upN f 4 (dK f d):Nat):Int)>0:=Om;simp only[go_sem,V];rw[asQ hV];refine Up.up ?_ (hK (p5 hV fun i hi h=>q i hi (by simpa using h)));unfold GO;exact Lq
theorem aDY {f:aE} {p:bS} {set:List Int} {d:Int} (c:d∈set) (h:mD f p d=false):lP f p set=false:=by
 unfold lP;have:set.all (mD f p)=false:=by simp only[List.all_eq_false];exact⟨d,c,by rw[h]; simp⟩
 rw[this]; rfl
theorem aDX {f:aE} {p:bS} {set:List Int} {k:Nat} (h:gW f p (set.take k)=false):lP f p set=false:=by
 have:=S7 (ys:=set.drop k) h;rw[baU] at this;unfold lP;rw[this,a9E]
def ajD (f:aE) (set:List Int):Prop:=set.length≤16777216∧∀ x∈set,0≤x∧x<(f.a6L.length:Nat)
theorem arZ {C:Ctx} {K:bR} [Up K] (f:aE) (hV:VF f) (p:bS) (M oD:Nat) (hn:M≠oD) (set:List Int) (hs:ajD f set) {F:PF} {H:PH}
  (Y:(GO f p M oD set 0).le F) (J:H M=some (.rows 1 (dJ (marks f.a6M.length p.a6M)))) (hD:H oD=some (.rows 1 (aY (mE f []))))
  (U:∀ N H',N 6=some (.bool false)→lP f p set=false→K .ret N H')
  (Z:∀ N H',lP f p set=true→K (.exit 2) N H') :
  aC.wp C (.loop zC) K F H:=by
 obtain⟨β,S⟩:=hs;refine wp_loop (α:=Nat × PH) (fun t=>GO f p M oD set t.1) (fun t=>t.2) (fun t=>t.1≤set.length∧t.2 M=some (.rows 1 (dJ (marks f.a6M.length p.a6M)))∧t.2 oD=some (.rows 1 (aY (mE f (set.take t.1))))∧(set.take t.1).all (mD f p)=true∧gW f p (set.take t.1)=true) (fun t=>set.length-t.1) (0,H) ⟨a8C _,J,hD,rfl,Xo f p⟩ Y b_ ?_;rintro⟨k,W⟩ ⟨hk,J,hD,e,w⟩;simp only at hk J hD e w;by_cases hlt:k<set.length
 ·have i:(k:Int)<(set.length:Nat):=Om;have R:(set.map fun n=>[PV.int .i64 n])[k]?=some [.int .i64 set[k]]:=by simp[hlt]
  have A:set.take (k+1)=set.take k++[set[k]]:=a9U hlt;have hx:=S set[k] (a7Z hlt);have hm:=a7Z hlt;generalize γ:set[k]=x at *
  obtain⟨d,rfl⟩:∃ d:Nat,x=d:=⟨x.toNat,by omega⟩;have c:d<f.a6L.length:=Om;have B:(d:Int)<(f.a6L.length:Nat):=Om;obtain⟨w1,w2,w3,w4,w5⟩:=hV.drive d c;have E:((mdl f d:Nat):Int)<(f.a6M.length:Nat):=Om;have u:(dJ (marks f.a6M.length p.a6M))[mdl f d]?=some [.bool (p.a6M.contains ((mdl f d:Nat):Int))]:=by have:=zR (n:=f.a6M.length) (l:=p.a6M) (m:=((mdl f d:Nat):Int)) Om E;rw[a9Q] at this;unfold dJ;rw[a8V,this]; rfl
  have q:mD f p (d:Int)=p.a6M.contains ((mdl f d:Nat):Int):=by rw[mD,a9Q]
  cases V:p.a6M.contains ((mdl f d:Nat):Int) with
  | false =>rw[V] at u q;simp only[go_sem,zC,GP,GO,i,ZL,R,ZM,pK c,B,hV.kj c,E,a8U,J,u,a8N,Jd];exact U _ _ Sq (aDY hm q)
  | true =>
   rw[V] at u q;simp only[go_sem,zC,GP,GO,i,ZL,R,ZM,pK c,B,hV.kj c,E,a8U,J,u,a8B,Je,hV.vw c];have up:=fun {K:bR} [Up K] {F:PF} {H:PH}=>aPB (C:=C) (K:=K) f hV p M oD set k (set.take k) (by rw[a8Q]; omega) w d c (F:=F) (H:=H);refine up (by unfold ajT; exact Lq) hD ?_ ?_
   ·intro N H' X O;simp only[go_sem];exact U _ _ X (aDX (k:=k+1) (by rw[A]; exact O))
   ·intro Q;simp only[go_sem,GO,Jj,wZz k];refine aD (k+1,W.set oD (.rows 1 (aY (mE f (set.take k++[(d:Int)]))))) ⟨hlt,?_,?_,?_,by rw[A]; exact Q⟩ (by simp only; omega) Lq b_
    ·simp only[aT,if_neg hn]; exact J
    ·simp only[cO,A]
    ·rw[A];intro y hy;rcases a9S.1 hy with h | h
     ·exact a8M.1 e y h
     ·rw[baN.1 h]; exact q
 ·have i:¬ (k:Int)<(set.length:Nat):=Om;have:k=set.length:=Om;subst this;rw[a8Y] at e w;simp only[go_sem,zC,GP,GO,i];exact Z _ _ (by rw[lP,e,w]; rfl)

def a0J (down:List Int) (d:Int):Bool:=decide (0≤d)&&down.contains d
def a0K (down:List Int) (d:Int):Bool:=decide (0≤d)&&!down.contains d
def a3V (down row:List Int):Bool:=row.any (a0J down)
def aRS (down row:List Int):Nat:=row.countP (a0K down)
def aXK (f:aE) (c:Int) (down:List Int) (v:Nat) (row:List Int):Bool:=a3V down row&&decide (((aRS down row:Nat):Int)<(KJ f v).k+c)
def a0L (f:aE) (d:List (List Int)) (c:Int) (down:List Int) (n:Nat):Bool:=(a7X n).all fun v=>!aXK f c down v (d.getD v [])
def Hp (f:aE) (d:List (List Int)) (c:Int) (down:List Int):Bool:=a0L f d c down d.length
def aeH:Rg:=[iA 3 (.box true (Tm 0)),iA 4 (.box true (Tm 1)),iT 6 false]
def aeI:Rg:=[iM 10 2,iN 11 10,iF 12 1 4,iL 13 12,iF 14 2 4,iL 15 14,iB 16 .add 13 15,iB 17 .neq 11 16]
def aeJ:Rg:=[iT 6 false]
def aeK:Rg:=[iI 7 0]
def xe:Rg:=[iM 18 7,iM 19 2,iN 20 19,iB 21 .lss 18 20]
def yO:Rd:=[(iM 24 2,false),(iM 25 7,false),(iX 26 1 24 25,false),(iL 27 26,false),(iC 28 .lss 27 0,false),(iM 29 28,false),(gM 30 2 29 false,false),(gM 31 7 29 false,false),(iG 32 (.a7C 1 (Tm 30) (Tm 31)) 29 false,false),(gL 33 32 29 false,false),(gF 34 4 3 29 false,false),(gL 35 34 29 false,false),(gN 36 35 29 false,false),(gB 37 .geq 33 36 29 false,false),(iQ 38 29 37,false),(iM 39 38,false),(gM 40 7 39 false,false),(gC 41 .gtr 40 0 39 false,false),(gM 42 41 39 false,false),(gM 43 2 42 true,false),(gM 44 7 42 true,false),(iG 45 (.a7C 1 (Tm 43) (Tm 44)) 42 true,false),(gL 46 45 42 true,false),(gM 47 2 42 true,false),(gM 48 7 42 true,false),(gC 49 .sub 48 1 42 true,false),(iG 50 (.a7C 1 (Tm 47) (Tm 49)) 42 true,false),(gL 51 50 42 true,false),(gB 52 .leq 46 51 42 true,false),(iG 53 (.pick (Tm 42) (Tm 52) (.const zB)) 39 false,false),(iQ 54 39 53,false),(iM 55 54,false),(gO 56 17 4 55 false,false),(gO 57 7 3 55 false,false),(gM 58 2 55 false,false),(gM 59 7 55 false,false),(iG 60 (.a7C 1 (Tm 58) (Tm 59)) 55 false,false),(gL 61 60 55 false,false),(iG 62 (.call 77 [(Tm 56),(Tm 57),(Tm 61)]) 55 false,true),(iG 63 (.un .not (Tm 62)) 55 false,false),(iQ 64 55 63,false)]
def yP:Rg:=[iT 6 false]
def xf:Rg:=[iM 22 7,iC 23 .add 22 1,iM 7 23]
def xd:aC:=(.seq (sq xe (.cond (Tm 21) .skip (.exit 0))) (.seq (.block 1 (dq yO (.cond (Tm 64) (sq yP .ret) .skip))) (.region xf)))
def aeL:Rg:=[iI 8 1]
def Rz:Rg:=[iM 65 8,iF 66 3 3,iL 67 66,iN 68 67,iB 69 .lss 65 68]
def R0:Rg:=[iF 72 3 3,iL 73 72,iM 74 8,iX 75 7 73 74,iF 76 1 75,iL 77 76,iF 78 4 4,iA 79 (.idxA 5 1 (Tm 78) (Tm 77)),iL 80 79,iM 9 80]
def di:Rg:=[iM 81 9,iC 82 .gtr 81 0,iM 83 82,gO 84 7 3 83 true,gM 85 2 83 true,gM 86 8 83 true,iG 87 (.call 80 [(Tm 84),(Tm 85),(Tm 86)]) 83 true,gM 88 9 83 true,gB 89 .gtr 87 88 83 true,iP 90 83 89]
def R1:Rg:=[iT 6 false]
def dj:Rg:=[iM 70 8,iC 71 .add 70 1,iM 8 71]
def dh:aC:=(.seq (sq Rz (.cond (Tm 69) .skip (.exit 2))) (.seq (.block 3 (sq R0 (sq di (.cond (Tm 90) (sq R1 .ret) .skip)))) (.region dj)))
def R2:Rg:=[iT 6 true]
def SC:aC:=(sq aeH (.seq (sq aeI (.cond (Tm 17) (sq aeJ .ret) .skip)) (.seq (sq aeK (.block 0 (.loop xd))) (.seq (sq aeL (.block 2 (.loop dh))) (sq R2 .ret)))))
def aRY:List Nat:=[3,4]
def aIS:aS:=⟨3,91,SC,[.tmp 6]⟩
def C3:Rg:=[iA 3 (.box true (Tm 0)),iT 6 false]
def C4:Rd:=[(iO 7 7 3,false),(iK 8 67 7,true),(iM 9 8,false),(gM 10 1 9 true,false),(gC 11 .geq 10 0 9 true,false),(iP 12 9 11,false),(iM 13 12,false),(gM 14 1 13 true,false),(gF 15 5 3 13 true,false),(gL 16 15 13 true,false),(gN 17 16 13 true,false),(gB 18 .lss 14 17 13 true,false),(iP 19 13 18,false),(iM 20 19,false),(gO 21 7 3 20 true,false),(gF 22 5 3 20 true,false),(gL 23 22 20 true,false),(gM 24 1 20 true,false),(iG 25 (.a7C 17 (Tm 23) (Tm 24)) 20 true,false),(gO 26 17 25 20 true,false),(gM 27 2 20 true,false),(iG 28 (.call 213 [(Tm 21),(Tm 26),(Tm 27)]) 20 true,true),(iP 29 20 28,false),(iM 6 29,false)]
def DS:aC:=(sq C3 (dq C4 .ret))
def awC:List Nat:=[3]
def SD:aS:=⟨3,30,DS,[.tmp 6]⟩
def KL:Rg:=[iZ 6]
def KM:Rg:=[iM 11 2,iC 12 .eql 11 0]
def np:Rg:=[iA 13 (.a6R true 1 1 [.aB] [(0,(.const .aB))]),iM 6 13]
def nr:Rg:=[iZ 7]
def nt:Rg:=[iM 14 0,iM 8 14]
def nu:Rg:=[iM 15 8,iM 16 2,iB 17 .add 15 16,iM 18 1,iB 19 .leq 17 18]
def nv:Rg:=[iM 22 8,iC 23 .add 22 1,iM 24 1,iM 25 2,iC 26 .sub 25 1,iA 27 (.call 215 [(Tm 23),(Tm 24),(Tm 26)]),iM 9 27]
def nw:Rg:=[iI 10 0]
def ny:Rg:=[iM 28 10,iM 29 9,iN 30 29,iB 31 .lss 28 30]
def nz:Rg:=[iM 34 7,iM 35 8,iA 36 (.a6R false 1 1 [zI] [(0,(Tm 35))]),iM 37 9,iM 38 10,iX 39 1 37 38,iL 40 39,iA 41 (.append 1 8 (Tm 36) (Tm 40)),iA 42 (.a6R true 1 1 [.aB] [(0,(Tm 41))]),iA 43 (.append 1 24 (Tm 34) (Tm 42)),iM 7 43]
def XT:Rg:=[iM 32 10,iC 33 .add 32 1,iM 10 33]
def XR:aC:=(.seq (sq ny (.cond (Tm 31) .skip (.exit 2))) (.seq (.block 3 (.region nz)) (.region XT)))
def XU:Rg:=[iM 20 8,iC 21 .add 20 1,iM 8 21]
def XS:aC:=(.seq (sq nu (.cond (Tm 19) .skip (.exit 0))) (.seq (.block 1 (sq nv (sq nw (.block 2 (.loop XR))))) (.region XU)))
def XV:Rg:=[iM 44 7,iM 6 44]
def tH:aC:=(sq KL (.seq (sq KM (.cond (Tm 12) (sq np .ret) .skip)) (sq nr (.seq (sq nt (.block 0 (.loop XS))) (sq XV .ret)))))
def anU:List Nat:=[13,42]
def VH:aS:=⟨3,45,tH,[.tmp 6]⟩
def aeM:Rg:=[iA 2 (.box true (Tm 0)),iZ 4,iI 5 0]
def aeN:Rg:=[iO 10 7 2,iK 11 67 10,iA 12 (.un .not (Tm 11)),iM 13 12,gM 14 1 13 false,gC 15 .lss 14 0 13 false,iQ 16 13 15,iM 17 16,gM 18 1 17 false,gF 19 5 2 17 false,gL 20 19 17 false,gN 21 20 17 false,gB 22 .geq 18 21 17 false,iQ 23 17 22]
def VG:Rg:=[iZ 4,iI 5 1]
def xh:Rg:=[iF 24 4 2,iL 25 24,iN 26 25,iC 27 .gtr 26 12]
def aeO:Rg:=[iZ 4,iI 5 2]
def aeP:Rg:=[iF 28 5 2,iL 29 28,iM 30 1,iX 31 17 29 30,iO 32 17 31,iA 6 (.alloc [(.str []),zI,zI,zI,zI,zI,zI,zI,zI,.aB,.aB,zB,.aB,.aB,zB,.aB,.aB]),iS 17 6 32]
def aeQ:Rg:=[iZ 7]
def aeR:Rg:=[iF 33 4 2,iL 34 33,iN 35 34,iF 36 1 6,iL 37 36,iF 38 2 6,iL 39 38,iB 40 .add 37 39,iA 41 (.call 215 [(Ci 0),(Tm 35),(Tm 40)]),iM 8 41]
def aeS:Rg:=[iI 9 0]
def aeT:Rg:=[iM 42 9,iM 43 8,iN 44 43,iB 45 .lss 42 44]
def R4:Rd:=[(iO 48 7 2,false),(iO 49 17 6,false),(iM 50 8,false),(iM 51 9,false),(iX 52 1 50 51,false),(iL 53 52,false),(iA 54 (.call 213 [(Tm 48),(Tm 49),(Tm 53)]),true)]
def R5:Rg:=[iM 55 7,iM 56 8,iM 57 9,iX 58 1 56 57,iL 59 58,iA 60 (.a6R true 1 1 [.aB] [(0,(Tm 59))]),iA 61 (.append 1 24 (Tm 55) (Tm 60)),iM 7 61]
def dk:Rg:=[iM 46 9,iC 47 .add 46 1,iM 9 47]
def R3:aC:=(.seq (sq aeT (.cond (Tm 45) .skip (.exit 0))) (.seq (.block 1 (dq R4 (.cond (Tm 54) (.region R5) .skip))) (.region dk)))
def R6:Rg:=[iM 62 7,iM 4 62,iI 5 0]
def SE:aC:=(sq aeM (.seq (sq aeN (.cond (Tm 23) (sq VG .ret) .skip)) (.seq (sq xh (.cond (Tm 27) (sq aeO .ret) .skip)) (sq aeP (sq aeQ (sq aeR (.seq (sq aeS (.block 0 (.loop R3))) (sq R6 .ret))))))))
def aSA:List Nat:=[2,60]
def xg:aS:=⟨2,63,SE,[.tmp 4,.tmp 5]⟩
def Dt:Rg:=[iA 2 (.box true (Tm 0)),iZ 4]
def Du:Rg:=[iZ 5]
def Dv:Rg:=[iM 8 1,iC 9 .eql 8 5]
def Dw:Rg:=[iI 6 0]
def Dx:Rg:=[iM 10 6,iF 11 4 2,iL 12 11,iN 13 12,iB 14 .lss 10 13]
def Dy:Rg:=[iM 17 5,iM 18 6,iA 19 (.a6R true 1 1 [zI] [(0,(Tm 18))]),iA 20 (.a6R true 1 1 [.aB] [(0,(Tm 19))]),iA 21 (.append 1 24 (Tm 17) (Tm 20)),iM 5 21]
def Dz:Rg:=[iM 15 6,iC 16 .add 15 1,iM 6 16]
def Ds:aC:=(.seq (sq Dx (.cond (Tm 14) .skip (.exit 0))) (.seq (.block 1 (.region Dy)) (.region Dz)))
def D0:Rg:=[iM 22 5,iM 4 22]
def D1:Rg:=[iI 7 0]
def ov:Rg:=[iM 23 7,iF 24 3 2,iL 25 24,iN 26 25,iB 27 .lss 23 26]
def ow:Rg:=[iF 30 3 2,iL 31 30,iM 32 7,iX 33 7 31 32,iF 34 1 33,iL 35 34,iM 36 1,iB 37 .eql 35 36]
def oz:Rg:=[iM 38 5,iO 39 7 2,iM 40 7,iK2 41 81 39 40,iA 42 (.a6R true 1 1 [.aB] [(0,(Tm 41))]),iA 43 (.append 1 24 (Tm 38) (Tm 42)),iM 5 43]
def KW:Rg:=[iM 28 7,iC 29 .add 28 1,iM 7 29]
def ou:aC:=(.seq (sq ov (.cond (Tm 27) .skip (.exit 2))) (.seq (.block 3 (sq ow (.cond (Tm 37) (.region oz) .skip))) (.region KW)))
def o9:Rg:=[iM 44 5,iM 4 44]
def DT:aC:=(sq Dt (sq Du (.seq (sq Dv (.cond (Tm 9) (.seq (sq Dw (.block 0 (.loop Ds))) (sq D0 .ret)) .skip)) (.seq (sq D1 (.block 2 (.loop ou))) (sq o9 .ret)))))
def awM:List Nat:=[2,19,20,42]
def Sw:aS:=⟨2,45,DT,[.tmp 4]⟩
def aeW:Rg:=[iT 4 false]
def aeX:Rg:=[iI 5 0]
def aeY:Rg:=[iM 6 5,iM 7 0,iN 8 7,iB 9 .lss 6 8]
def xn:Rg:=[iM 12 0,iM 13 5,iX 14 1 12 13,iL 15 14,iM 16 1,iB 17 .eql 15 16]
def aeZ:Rg:=[iT 4 true]
def afA:Rg:=[iM 10 5,iC 11 .add 10 1,iM 5 11]
def aeV:aC:=(.seq (sq aeY (.cond (Tm 9) .skip (.exit 0))) (.seq (.block 1 (sq xn (.cond (Tm 17) (sq aeZ .ret) .skip))) (.region afA)))
def afB:Rg:=[iT 4 false]
def SI:aC:=(sq aeW (.seq (sq aeX (.block 0 (.loop aeV))) (sq afB .ret)))
def aSE:List Nat:=[]
def aIV:aS:=⟨2,18,SI,[.tmp 4]⟩
def Sl:Rg:=[iA 2 (.box true (Tm 0)),iA 3 (.box true (Tm 1)),iZ 4,iI 5 0]
def Sm:Rg:=[iO 16 7 2,iK 17 67 16,iA 18 (.un .not (Tm 17)),iM 19 18,gF 20 0 3 19 false,gL 21 20 19 false,gC 22 .lss 21 1 19 false,iQ 23 19 22,iM 24 23,gF 25 0 3 24 false,gL 26 25 24 false,gC 27 .gtr 26 5 24 false,iQ 28 24 27,iM 29 28,gF 30 1 3 29 false,gL 31 30 29 false,gC 32 .lss 31 1 29 false,iQ 33 29 32,iM 34 33,gF 35 1 3 34 false,gL 36 35 34 false,gC 37 .gtr 36 3 34 false,iQ 38 34 37]
def uK:Rg:=[iZ 4,iI 5 1]
def du:Rg:=[iF 39 4 2,iL 40 39,iN 41 40,iC 42 .gtr 41 12]
def Sn:Rg:=[iZ 4,iI 5 2]
def So:Rg:=[iO 43 7 2,iF 44 0 3,iL 45 44,iK2 46 217 43 45,iM 6 46]
def Sp:Rg:=[iI 7 1]
def Sr:Rg:=[iI 8 0]
def Ss:Rg:=[iM 47 8,iF 48 1 3,iL 49 48,iB 50 .lss 47 49]
def St:Rg:=[iM 53 7,iM 54 6,iN 55 54,iM 56 8,iB 57 .sub 55 56,iB 58 .mul 53 57,iM 59 8,iC 60 .add 59 1,iB 61 .quo 58 60,iM 7 61]
def De:Rg:=[iM 51 8,iC 52 .add 51 1,iM 8 52]
def Dd:aC:=(.seq (sq Ss (.cond (Tm 50) .skip (.exit 0))) (.seq (.block 1 (.region St)) (.region De)))
def SQ:Rg:=[iM 62 7,iC 63 .gtr 62 512]
def Df:Rg:=[iZ 4,iI 5 2]
def Dg:Rg:=[iM 64 6,iN 65 64,iF 66 1 3,iL 67 66,iA 68 (.call 215 [(Ci 0),(Tm 65),(Tm 67)]),iM 9 68]
def Dh:Rg:=[iZ 10]
def Di:Rg:=[iI 11 0]
def Dj:Rg:=[iM 69 11,iM 70 9,iN 71 70,iB 72 .lss 69 71]
def Dk:Rg:=[iZ 12]
def Dl:Rg:=[iI 13 0]
def Dm:Rg:=[iM 75 13,iF 76 4 2,iL 77 76,iN 78 77,iB 79 .lss 75 78]
def Dn:Rg:=[iT 14 false]
def Do:Rg:=[iI 15 0]
def Dp:Rg:=[iM 82 15,iM 83 9,iM 84 11,iX 85 1 83 84,iL 86 85,iN 87 86,iB 88 .lss 82 87]
def SR:Rg:=[iM 91 14,iM 92 91,gM 93 6 92 false,gM 94 9 92 false,gM 95 11 92 false,iG 96 (.a7C 1 (Tm 94) (Tm 95)) 92 false,gL 97 96 92 false,gM 98 15 92 false,iG 99 (.a7C 1 (Tm 97) (Tm 98)) 92 false,gL 100 99 92 false,iG 101 (.a7C 1 (Tm 93) (Tm 100)) 92 false,gL 102 101 92 false,gM 103 13 92 false,gK2 104 218 102 103 92 false,iQ 105 92 104,iM 14 105]
def SS:Rg:=[iM 89 15,iC 90 .add 89 1,iM 15 90]
def SN:aC:=(.seq (sq Dp (.cond (Tm 88) .skip (.exit 6))) (.seq (.block 7 (.region SR)) (.region SS)))
def ST:Rg:=[iM 106 14]
def Dq:Rg:=[iM 107 12,iM 108 13,iA 109 (.a6R true 1 1 [zI] [(0,(Tm 108))]),iA 110 (.append 1 8 (Tm 107) (Tm 109)),iM 12 110]
def SU:Rg:=[iM 80 13,iC 81 .add 80 1,iM 13 81]
def SO:aC:=(.seq (sq Dm (.cond (Tm 79) .skip (.exit 4))) (.seq (.block 5 (sq Dn (.seq (sq Do (.block 6 (.loop SN))) (sq ST (.cond (Tm 106) (.region Dq) .skip))))) (.region SU)))
def SV:Rg:=[iM 111 10,iM 112 12,iA 113 (.a6R true 1 1 [.aB] [(0,(Tm 112))]),iA 114 (.append 1 24 (Tm 111) (Tm 113)),iM 10 114]
def SW:Rg:=[iM 73 11,iC 74 .add 73 1,iM 11 74]
def SP:aC:=(.seq (sq Dj (.cond (Tm 72) .skip (.exit 2))) (.seq (.block 3 (sq Dk (.seq (sq Dl (.block 4 (.loop SO))) (.region SV)))) (.region SW)))
def Dr:Rg:=[iM 115 10,iM 4 115,iI 5 0]
def KU:aC:=(sq Sl (.seq (sq Sm (.cond (Tm 38) (sq uK .ret) .skip)) (.seq (sq du (.cond (Tm 42) (sq Sn .ret) .skip)) (sq So (sq Sp (.seq (sq Sr (.block 0 (.loop Dd))) (.seq (sq SQ (.cond (Tm 63) (sq Df .ret) .skip)) (sq Dg (sq Dh (.seq (sq Di (.block 2 (.loop SP))) (sq Dr .ret)))))))))))
def aJD:List Nat:=[2,3,109,113]
def ot:aS:=⟨2,116,KU,[.tmp 4,.tmp 5]⟩
def Sa:Rg:=[iI 6 0]
def Sb:Rg:=[iI 7 0]
def Sd:Rg:=[iI 8 0]
def Se:Rg:=[iM 11 8,iM 12 0,iN 13 12,iB 14 .lss 11 13]
def Sf:Rg:=[iI 9 0]
def Sg:Rg:=[iI 10 0]
def Sh:Rg:=[iM 17 10,iM 18 1,iN 19 18,iB 20 .lss 17 19]
def Si:Rd:=[(iM 23 0,false),(iM 24 8,false),(iX 25 1 23 24,false),(iL 26 25,false),(iM 27 1,false),(iM 28 10,false),(iX 29 1 27 28,false),(iL 30 29,false),(iK2 31 218 26 30,true)]
def Sj:Rg:=[iM 32 9,iC 33 .add 32 1,iM 9 33]
def dp:Rg:=[iM 21 10,iC 22 .add 21 1,iM 10 22]
def C6:aC:=(.seq (sq Sh (.cond (Tm 20) .skip (.exit 2))) (.seq (.block 3 (dq Si (.cond (Tm 31) (.region Sj) .skip))) (.region dp)))
def SJ:Rg:=[iM 34 9,iM 35 2,iB 36 .gtr 34 35]
def C8:Rg:=[iM 37 7,iC 38 .add 37 1,iM 7 38]
def SK:Rg:=[iM 15 8,iC 16 .add 15 1,iM 8 16]
def C7:aC:=(.seq (sq Se (.cond (Tm 14) .skip (.exit 0))) (.seq (.block 1 (sq Sf (.seq (sq Sg (.block 2 (.loop C6))) (sq SJ (.cond (Tm 36) (.region C8) .skip))))) (.region SK)))
def C9:Rg:=[iM 39 7,iM 6 39]
def KT:aC:=(sq Sa (sq Sb (.seq (sq Sd (.block 0 (.loop C7))) (sq C9 .ret))))
def aIX:List Nat:=[]
def anZ:aS:=⟨3,40,KT,[.tmp 6]⟩
def oa:Rg:=[iA 4 (.box true (Tm 0)),iA 7 (.box true (Tm 3)),iI 8 0,iI 9 0]
def oc:Rg:=[iO 13 7 4,iO 14 2 7,iK2 15 219 13 14,iM 12 15,iE 16 12 0,iE 17 12 1,iM 10 16,iM 11 17]
def KR:Rg:=[iM 18 11,iC 19 .neq 18 0]
def oe:Rg:=[iM 20 11,iI 8 0,iM 9 20]
def og:Rg:=[iO 21 7 4,iM 22 1,iM 23 2,iA 24 (.call 214 [(Tm 21),(Tm 22),(Tm 23)]),iA 25 (.un .not (Tm 24))]
def oi:Rg:=[iI 8 0,iI 9 1]
def oj:Rg:=[iM 26 10,iM 27 2,iF 28 5 4,iL 29 28,iM 30 1,iX 31 17 29 30,iF 32 2 31,iL 33 32,iA 34 (.call 220 [(Tm 26),(Tm 27),(Tm 33)]),iM 8 34,iI 9 0]
def AD:aC:=(sq oa (sq oc (.seq (sq KR (.cond (Tm 19) (sq oe .ret) .skip)) (.seq (sq og (.cond (Tm 25) (sq oi .ret) .skip)) (sq oj .ret)))))
def anY:List Nat:=[4,7]
def xo:aS:=⟨4,35,AD,[.tmp 8,.tmp 9]⟩
theorem aGM {xs:List Int} {k:Nat} {d:Int} (h:k<xs.length):(xs.take (k+1)).contains d=((xs.take k).contains d||decide (xs[k]=d)):=by
 rw[Bool.eq_iff_iff];rw[List.contains_iff_mem,a9U h,a9S,baN,Bool.or_eq_true,List.contains_iff_mem,decide_eq_true_eq];exact⟨fun h=>h.imp id Eq.symm,fun h=>h.imp id Eq.symm⟩
theorem aSD {C:Ctx} (l:List Int) (w:l.length≤1000000000000000) (x:Int):SI.wp C (aV aIV.res (aF (.bool (l.contains x)))) (PF.args [ints l,.int .i64 x]) .nil:=by
 simp only[go_sem,SI,aeW,aeX,aIV];refine wp_loop (α:=Nat) (fun k=>(((PF.nil.set 0 (ints l)).set 1 (.int .i64 x)).set 5 (.int .i64 k))) (fun _=>.nil) (fun k=>k≤l.length∧(l.take k).contains x=false) (fun k=>l.length-k) 0 ⟨a8C _,by simp⟩ Lq a_ ?_;rintro k ⟨u,p⟩;simp only[go_sem,aeV,aeY,a7W];by_cases hlt:k<l.length
 ·have e:(k:Int)<(l.length:Nat):=Om;have i:(l.map fun n=>[PV.int .i64 n])[k]?=some [.int .i64 l[k]]:=by simp[hlt]
  have q:=aGM (d:=x) hlt;by_cases c:l[k]=x
  ·simp only[go_sem,e,xn,i,bL c,aeZ];refine aQ (.inr rfl) rfl ?_;rw[bP];exact congrArg PV.bool (List.contains_iff_mem.2 (c ▸ a7Z hlt)).symm
  ·simp only[go_sem,e,xn,i,bF c,afA,wZz k];exact aD (k+1) ⟨hlt,by rw[q,p]; simp[c]⟩ Om Lq b_
 ·have e:¬ (k:Int)<(l.length:Nat):=Om;have:k=l.length:=Om;subst this;rw[a8Y] at p;simp only[go_sem,e,afB];refine aQ (.inr rfl) rfl ?_;rw[bP,p]


theorem dR {t:Nat} {b c:Bool} {F:PF} {H:PH} (h:F t=some (.bool b)) (e:b=c):aV [.tmp t] (aF (.bool c)) .ret F H:=by
 subst e;exact bA (.inr rfl) .nil (vs:=[.bool b]) (by rw[kI,nE,h,oN]) a_ ⟨rfl,rfl⟩
theorem aOZ {C:Ctx} (f:aE) (hV:VF f) (p:bS) (R:∀ m∈p.a6M,0≤m∧m<f.a6M.length) (i:Fits p.a6M) (set:List Int) (S:ajD f set) :
  OM.wp C (aV aEJ.res (aF (.bool (lP f p set)))) (PF.args [.agg f.cells,.agg p.cells,ints set]) .nil:=by
 have d:=hV.small;have q:(f.a6M.length:Int)*((1:Nat):Int)≤140737488355328:=by have:=d.a6M; omega
 have u:(f.a6M.length:Int)≤9223372036854775807:=by have:=d.a6M; omega
 have w:(0:Int)≤(f.a6M.length:Int):=Om;have A:(f.a6O.length:Int)*((8:Nat):Int)≤140737488355328:=by have:=d.a6O; omega
 have B:(f.a6O.length:Int)≤9223372036854775807:=by have:=d.a6O; omega
 have E:(0:Int)≤(f.a6O.length:Int):=Om;simp only[go_sem,OM,Yh,Yi,aEJ,a7W,q,u,w,Int.le_refl,a9Q];refine aR fun l U=>?_;rw[OK];simp only[go_sem,Yj,a7W];refine wp_loop (α:=Nat) (fun k=>(((((((PF.nil.set 2 (ints set)).set 3 (.bH f.cells)).set 4 (.bH p.cells)).set 7 (.osl l 1 0 f.a6M.length)).set 20 (ints p.a6M)).set 21 (.int .i64 (p.a6M.length:Nat))).set 22 (.int .i64 k))) (fun k=>PH.nil.set l (.rows 1 (dJ (marks f.a6M.length (p.a6M.take k))))) (fun k=>k≤p.a6M.length) (fun k=>p.a6M.length-k) 0 (a8C _) Lq (by rw[List.take_zero]; exact b_) ?_;intro k V;simp only[go_sem,Yg,Yk];by_cases hlt:k<p.a6M.length
 ·have c:(k:Int)<(p.a6M.length:Nat):=Om;have F:(p.a6M.map fun n=>[PV.int .i64 n])[k]?=some [.int .i64 p.a6M[k]]:=by simp[hlt]
  obtain⟨J,K⟩:=R _ (a7Z hlt);have x:(p.a6M[k]).toNat<(dJ (marks f.a6M.length (p.a6M.take k))).length:=by rw[AW,QK]; omega
  have y:(dJ (marks f.a6M.length (p.a6M.take k)))[(p.a6M[k]).toNat]?=some [.bool ((p.a6M.take k).contains p.a6M[k])]:=by unfold dJ;rw[a8V,zR J K]; rfl
  have M:p.a6M.length≤9223372036854775807:=by have:=i; omega
  simp only[go_sem,c,Yl,F,Ym,J,K,a8U,y,x,jX,QL J K,Yn,wZz k];refine aD (k+1) hlt Om Lq ?_;rw[a9U hlt];exact b_
 ·have c:¬ (k:Int)<(p.a6M.length:Nat):=Om;have:k=p.a6M.length:=Om;subst this;rw[a8Y];simp only[go_sem,c,Yo,a7W,A,B,E,Int.le_refl,a9Q];refine aR fun oD hD=>?_;have N:l≠oD:=by rintro rfl; simp only[cO] at hD; cases hD
  rw[aDK];simp only[go_sem,Yp,a7W];refine arZ (C:=C) f hV p l oD N set S (by unfold GO; (repeat' (first|exact c_|refine d_ ?_ ?_))<;>first|(simp only[go_sem,a7W]<;>rfl)|rfl) (by simp only[aT,if_neg N,if_true]) (by rw[cO]) ?_ ?_
  ·intro O H' Q e;simp only[go_sem];exact dR Q e.symm
  ·intro O H' H;simp only[go_sem,Jk];exact dR Sq H.symm
theorem arW (set:List Int) (top:Int) {k:Nat}:(a7X (k+1)).all (kP set top)=((a7X k).all (kP set top)&&kP set top k):=by
 rw[bbI,List.all_append]; simp
theorem aPD {C:Ctx} (set:List Int) (O:set.length≤1000000000000000) (n top:Int) :
  OP.wp C (aV aEM.res (aF (.bool (mL set n top)))) (PF.args [ints set,.int .i64 n,.int .i64 top]) .nil:=by
 have A:mL set n top=(decide ((set.length:Int)=n)&&(a7X set.length).all (kP set top)):=rfl;simp only[go_sem,OP,Yr,Ys,aEM,a7W];refine wp_loop (α:=Nat) (fun k=>((((((PF.nil.set 0 (ints set)).set 1 (.int .i64 n)).set 2 (.int .i64 top)).set 9 (ints set)).set 10 (.int .i64 (set.length:Nat))).set 11 (.int .i64 k))) (fun _=>.nil) (fun k=>k≤set.length∧(a7X k).all (kP set top)=true) (fun k=>set.length-k) 0 ⟨a8C _,rfl⟩ Lq a_ ?_;rintro k ⟨N,d⟩;have i:k<set.length→kP set top k=false→mL set n top=false:=by
  intro h K;rw[A];have:(a7X set.length).all (kP set top)=false:=by simp only[List.all_eq_false,a9A];exact⟨k,h,by rw[K]; simp⟩
  rw[this,a9E]
 by_cases hlt:k<set.length
 ·have c:(k:Int)<(set.length:Nat):=Om;have B:(set.map fun n=>[PV.int .i64 n])[k]?=some [.int .i64 set[k]]:=by simp[hlt]
  have M:set.getD k 0=set[k]:=by simp[a8P,hlt]
  have l:kP set top k=((decide (0≤set[k])&&decide (set[k]<top))&&(decide (k=0)||decide (set.getD (k-1) 0<set[k]))):=by rw[kP,M]
  have a7H:kP set top k=true→(a7X (k+1)).all (kP set top)=true:=fun h=>by rw[arW,d,h]; rfl
  generalize set[k]=x at *
  simp only[go_sem,uz,u0,c,Yt,B];by_cases p:x<0
  ·simp only[go_sem,yA,p,UN];exact dR Sq (i hlt (by rw[l,decide_eq_false (Om:¬ 0≤x)]; rfl)).symm
  by_cases w:x≥top
  ·simp only[go_sem,yA,p,w,UN];exact dR Sq (i hlt (by rw[l,decide_eq_false (Om:¬ x<top),a9E]; rfl)).symm
  rw[decide_eq_true (Om:0≤x),decide_eq_true (Om:x<top),baD,a8H] at l;by_cases F:k=0
  ·subst F;simp only[go_sem,yA,p,w,show ¬ ((0:Nat):Int)>0 by omega,u1,wZz 0];exact aD 1 ⟨hlt,a8M.1 (a7H (by rw[l]; rfl))⟩ Om Lq a_
  obtain⟨j,rfl⟩:∃ j,k=j+1:=⟨k-1,by omega⟩;have J:IntKind.i64.wrap (((j+1:Nat):Int)-1)=(j:Int):=by rw[wrap_i64 Om Om]; omega
  have q:j<set.length:=Om;have e:(j:Int)<(set.length:Nat):=Om;have u:(set.map fun n=>[PV.int .i64 n])[j]?=some [.int .i64 set[j]]:=by simp[q]
  have E:set.getD (j+1-1) 0=set[j]:=by simp[a8P,q]
  rw[E,decide_eq_false F,Bool.false_or] at l;generalize set[j]=y at *
  by_cases H:y≥x
  ·simp only[go_sem,yA,p,w,show ((j+1:Nat):Int)>0 by omega,J,u,e,H,UN];exact dR Sq (i hlt (by rw[l,decide_eq_false (Om:¬ y<x)])).symm
  ·simp only[go_sem,yA,p,w,show ((j+1:Nat):Int)>0 by omega,J,u,e,H,u1,cZ (Om:j+1<9223372036854775807)];exact aD (j+1+1) ⟨hlt,a8M.1 (a7H (by rw[l,decide_eq_true (Om:y<x)]))⟩ Om Lq a_
 ·have c:¬ (k:Int)<(set.length:Nat):=Om;have:k=set.length:=Om;subst this;rw[d,baD] at A;simp only[go_sem,uz,u0,c,Yu,a7W];exact dR (b:=decide ((set.length:Int)=n)) (by simp only[go_sem]; rfl) A.symm
theorem nS {f:aE} {a6X:Int} (h:gR f a6X=true):VF f∧0≤a6X∧a6X.toNat<f.a6P.length∧a6X=(a6X.toNat:Nat):=by
 unfold gR at h;simp only[a8O,decide_eq_true_eq] at h;exact⟨VF.of h.1,h.2.1,by omega,by omega⟩
theorem nJ {f:aE} {a6X:Int} (h:gR f a6X=true):fV f a6X∈f.a6P∧f.a6P[a6X.toNat]?=some (fV f a6X):=by
 obtain⟨_,_,c,_⟩:=nS h;have e:fV f a6X=f.a6P[a6X.toNat]:=by simp[fV,a8P,c]
 rw[e];exact⟨a7Z c,a8K c⟩
theorem asF {C:Ctx} (val:∀ f:aE,f.Ok→aH C 96 [.agg f.cells] .nil (aF (.int .i64 (wK f)))) (f:aE) (l:f.Ok) (a6X:Int) :
  CL.wp C (aV Jo.res (aF (.bool (gR f a6X)))) (PF.args [.agg f.cells,.int .i64 a6X]) .nil:=by
 have i:=val f l;unfold wK at i;simp only[go_sem,CL,yk,yl,Jo];refine aA i Ev ?_;have d:gR f a6X=(dS f&&(decide (0≤a6X)&&decide (a6X<f.a6P.length))):=rfl;cases e:dS f with
 | false =>rw[e,a8F] at d;simp only[go_sem,bF (show (1:Int)≠0 by decide)];exact dR Sq d.symm
 | true =>
  rw[e,a8H] at d;by_cases c:a6X≥0
  ·rw[decide_eq_true (Om:0≤a6X),a8H] at d;simp only[go_sem,bL (show (0:Int)=0 from rfl),c,a7W];exact dR (b:=decide (a6X<f.a6P.length)) Sq d.symm
  ·rw[decide_eq_false (Om:¬ 0≤a6X),a8F] at d;simp only[go_sem,bL (show (0:Int)=0 from rfl),c,a7W];exact dR Sq d.symm
structure ajC (C:Ctx):Prop where
 adm:∀ (f:aE) (p:bS) (set:List Int),VF f→(∀ m∈p.a6M,0≤m∧m<f.a6M.length)→Fits p.a6M→ajD f set→aH C 201 [.agg f.cells,.agg p.cells,ints set] .nil (aF (.bool (lP f p set)))
 asc:∀ (set:List Int) (n top:Int),set.length≤1000000000000000→aH C 202 [ints set,.int .i64 n,.int .i64 top] .nil (aF (.bool (mL set n top)))
 known:∀ (f:aE) (a6X:Int),f.Ok→aH C 203 [.agg f.cells,.int .i64 a6X] .nil (aF (.bool (gR f a6X)))
theorem aEA {set:List Int} {n top:Int} (h:mL set n top=true):(set.length:Int)=n:=by
 unfold mL at h;simp only[a8O,decide_eq_true_eq] at h;exact h.1
theorem aOV {set:List Int} {n top:Int} (h:mL set n top=true):∀ x∈set,0≤x∧x<top:=by
 unfold mL at h;simp only[a8O,decide_eq_true_eq,a8M,a9A] at h;intro x d;obtain⟨i,hi,rfl⟩:=a9I d;have:=h.2 i hi;unfold kP at this;simp only[a8O,decide_eq_true_eq] at this;have c:set.getD i 0=set[i]:=by simp[a8P,hi]
 rw[c] at this;exact this.1
theorem asA {C:Ctx} (x:ajC C) (f:aE) (B:f.Ok) (a6X:Int) (set:List Int) (H:set.length≤1000000000000000) :
  CJ.wp C (aV Jl.res (aF (.bool (pC f a6X set)))) (PF.args [.agg f.cells,.int .i64 a6X,ints set]) .nil:=by
 have c:pC f a6X set=(gR f a6X&&(mL set (fY (fV f a6X)) f.a6L.length&&lP f (fV f a6X) set)):=rfl;simp only[go_sem,CJ,ya,yb,Jl];refine aA (x.known f a6X B) Ev ?_;cases w:gR f a6X with
 | false =>rw[w,a8F] at c;simp only[go_sem,yc];exact dR Sq c.symm
 | true =>
  rw[w,a8H] at c;obtain⟨hV,E,M,K⟩:=nS w;obtain⟨i,y⟩:=nJ w;have l:=hV.a6X _ i;have e:=(B.a6X _ i).a6M;have d:(f.a6P.map bS.cells)[a6X.toNat]?=some (fV f a6X).cells:=by rw[a8V,y]; rfl
  generalize fV f a6X=p at *
  have hlt:a6X<(f.a6P.length:Nat):=Om;have J:IntKind.i64.wrap (p.k+p.m)=p.k+p.m:=wrap_i64 Om Om;simp only[go_sem,a8B,yd,E,hlt,a7W,d];refine aR fun q N=>?_;simp only[go_sem,ye,a7W,J];refine aA (x.asc set (p.k+p.m) f.a6L.length H) Ev ?_;have A:fY p=p.k+p.m:=rfl;rw[A] at c;cases u:mL set (p.k+p.m) f.a6L.length with
  | false =>rw[u,a8F] at c;simp only[go_sem];exact dR Sq c.symm
  | true =>rw[u,a8H] at c;have F:=aEA u;simp only[go_sem];refine aA (x.adm f p set hV l.2.2.2.2.2.2.2 e ⟨by omega,aOV u⟩) Ev ?_;simp only[go_sem];exact dR Sq c.symm
theorem wM {m:Nat} (d:m≤1000):∀ i,i≤1000→(dD m i).natAbs≤1000 ^ i
 | 0,_=>a8D _
 | i+1,h=>by have e:=wM d i Om;have c:((m:Int)-(i:Int)).natAbs≤1000:=Om;rw[dD,Int.natAbs_tdiv,Int.natAbs_mul,a9T];exact a9J (baV _ _) (bbF e c)
theorem wN {m:Nat} (c:m≤1000) {i:Nat} (hi:i≤3):-1000000000≤dD m i∧dD m i≤1000000000:=by
 have h:=wM c i Om;have:1000 ^ i≤1000 ^ 3:=baW Om hi;have e:(1000:Nat) ^ 3=1000000000:=by decide
 omega
theorem ajX {C:Ctx} (m n:Nat) (l:m≤1000) (K:n≤3) :
  zD.wp C (aV u5.res (aF (.int .i64 (max (dD m n) 0)))) (PF.args [.int .i64 m,.int .i64 n]) .nil:=by
 simp only[go_sem,zD,gn,gp,gr,u5];refine wp_loop (α:=Nat) (fun k=>((((PF.nil.set 0 (.int .i64 m)).set 1 (.int .i64 n)).set 5 (.int .i64 (dD m k))).set 6 (.int .i64 k))) (fun _=>.nil) (fun k=>k≤n) (fun k=>n-k) 0 (a8C _) (by (repeat' (first|exact c_|refine d_ ?_ ?_))<;>first|(simp only[go_sem,dD]<;>rfl)|rfl) a_ ?_;intro k J;simp only[go_sem,gm,gs];by_cases hlt:k<n
 ·have c:(k:Int)<(n:Nat):=Om;obtain⟨b1,b2⟩:=wN l (i:=k) Om;have A:=wM l k Om;have y:((m:Int)-(k:Int)).natAbs≤1000:=Om;have d:=bbF (a9J A (baW Om (Om:k≤2))) y;rw[← Int.natAbs_mul] at d;have e:(1000:Nat) ^ 2*1000=1000000000:=by decide
  have B:IntKind.i64.wrap ((m:Int)-(k:Int))=(m:Int)-k:=wrap_i64 Om Om;have E:IntKind.i64.wrap (dD m k*((m:Int)-(k:Int)))=dD m k*((m:Int)-k):=wrap_i64 Om Om;have F:IntKind.i64.wrap ((k:Int)+1)=(k:Int)+1:=wrap_i64 Om Om;have q:¬ ((k:Int)+1)=0:=Om;obtain⟨w,x⟩:=wN l (i:=k+1) Om;have u:dD m (k+1)=baE (dD m k*((m:Int)-k)) ((k:Int)+1):=by rw[dD]
  rw[u] at w x;have H:IntKind.i64.wrap (baE (dD m k*((m:Int)-k)) ((k:Int)+1))=baE (dD m k*((m:Int)-k)) ((k:Int)+1):=wrap_i64 Om Om;simp only[go_sem,c,gt,B,E,F,q,H];simp only[go_sem,gv,wZz k];exact aD (k+1) hlt Om (by (repeat' (first|exact c_|refine d_ ?_ ?_))<;>first|(simp only[go_sem,u]<;>rfl)|rfl) a_
 ·have c:¬ (k:Int)<(n:Nat):=Om;have:k=n:=Om;subst this;simp only[go_sem,c,gw];have p:(if dD m k<0 then 0 else dD m k)=max (dD m k) 0:=by split<;>omega
  rw[p];refine aQ (.inr rfl) Ev ?_;rfl
def sR (k:Nat) (b:Bool):Nat:=if b then k+1 else k
theorem uT {α:Type} (q:α→Bool) (l:List α) {i:Nat} (h:i<l.length):(l.take (i+1)).countP q=sR ((l.take i).countP q) (q l[i]):=by
 rw[a9U h,List.countP_append];unfold sR;cases c:q l[i]<;>simp[c]
def BN (sc:List (List Int)) (set:List Int) (m:Int) (n i:Nat):PF:=((((((PF.nil.set 1 (ints set)).set 2 (.int .i64 m)).set 7 (.int .i64 n)).set 14 (lay sc)).set 15 (.int .i64 (sc.length:Nat))).set 16 (.int .i64 i))
def mH (sc:List (List Int)) (set:List Int) (m:Int) (n i:Nat) (b:Nat) (s:List Int) (j:Nat):PF:=((((((((((PF.nil.set 1 (ints set)).set 2 (.int .i64 m)).set 7 (.int .i64 n)).set 14 (lay sc)).set 15 (.int .i64 (sc.length:Nat))).set 16 (.int .i64 i)).set 10 (.int .i64 b)).set 20 (ints s)).set 21 (.int .i64 (s.length:Nat))).set 22 (.int .i64 j))
theorem akA {C:Ctx} {K:bR} [Up K] (sc:List (List Int)) (set:List Int) (A:set.length≤1000000000000000) (m:Int) (n i b:Nat) (s:List Int) (j:Nat) (d:Int) (k:Nat) (w:k≤eD set d) {F:PF} {H:PH}
  (x:(((mH sc set m n i b s j).set 13 (.int .i64 d)).set 11 (.int .i64 k)).le F)
  (u:K (.exit 4) (((mH sc set m n i b s j).set 13 (.int .i64 d)).set 11 (.int .i64 (eD set d:Nat))) H) :
  aC.wp C (.loop vN) K F H:=by
 refine wp_loop (α:=Nat) (fun k=>((mH sc set m n i b s j).set 13 (.int .i64 d)).set 11 (.int .i64 k)) (fun _=>H) (fun k=>k≤eD set d) (fun k=>eD set d-k) k w x b_ ?_;intro k w;have y:=xq set d;by_cases hlt:k<set.length
 ·have l:(k:Int)<(set.length:Nat):=Om;have p:(set.map fun n=>[PV.int .i64 n])[k]?=some [.int .i64 set[k]]:=by simp[hlt]
  by_cases c:k<eD set d
  ·have q:set[k]<d:=KZ set d c;simp only[go_sem,vN,GT,mH,a7W,l,p,q,ym,wZz k];exact aD (k+1) c Om Lq b_
  ·have e:k=eD set d:=Om;subst e;have q:¬ set[eD set d]<d:=afD set d hlt;simp only[go_sem,vN,GT,mH,a7W,l,p,q];refine Up.up ?_ u;unfold mH;exact Lq
 ·have l:¬ (k:Int)<(set.length:Nat):=Om;have e:k=eD set d:=Om;subst e;simp only[go_sem,vN,GT,mH,a7W,l];refine Up.up ?_ u;unfold mH;exact Lq
theorem asH {C:Ctx} {K:bR} [Up K] (sc:List (List Int)) (set:List Int) (S:set.length≤1000000000000000) (V:set.Pairwise (· < ·)) (m:Int) (n i:Nat) (s:List Int) (W:s.length≤1000000000000000) (B:s.Pairwise (· < ·)) {F:PF} {H:PH}
  (J:((mH sc set m n i 0 s 0).set 11 (.int .i64 0)).le F)
  (M:K (.exit 2) ((BN sc set m n i).set 10 (.int .i64 (iY set s:Nat))) H) :
  aC.wp C (.loop AX) K F H:=by
 refine wp_loop (α:=Nat × Nat) (fun t=>(mH sc set m n i ((s.take t.1).countP fun d=>set.contains d) s t.1).set 11 (.int .i64 t.2)) (fun _=>H) (fun t=>t.1≤s.length∧∀ d∈s.drop t.1,t.2≤eD set d) (fun t=>s.length-t.1) (0,0) ⟨a8C _,fun d _=>a8C _⟩ (by simpa using J) b_ ?_;rintro⟨j,k⟩ ⟨R,E⟩;simp only at R E;by_cases hlt:j<s.length
 ·have q:(j:Int)<(s.length:Nat):=Om;have y:(s.map fun n=>[PV.int .i64 n])[j]?=some [.int .i64 s[j]]:=by simp[hlt]
  have l:=uT (fun d=>set.contains d) s hlt;have p:s.drop j=s[j]::s.drop (j+1):=a9X hlt;have A:k≤eD set s[j]:=E _ (by rw[p]; exact List.mem_cons_self ..);have a7H:∀ d∈s.drop (j+1),eD set s[j]≤eD set d:=by intro d O;have:=B.sublist (List.drop_sublist j s);rw[p,List.pairwise_cons] at this;exact axD set (Int.le_of_lt (this.1 d O))
  have e:=aJI V s[j];have N:(s.take j).countP (fun d=>set.contains d)≤j:=a9J List.countP_le_length (by rw[a8Q]; omega);generalize (s.take j).countP (fun d=>set.contains d)=b at *
  generalize s[j]=d at *
  simp only[go_sem,AX,ZP,mH,q,Jv,y];have X:=fun {K:bR} [Up K] {F:PF}=>akA (C:=C) (K:=K) sc set S m n i b s j d k A (F:=F) (H:=H);refine X (by unfold mH; exact Lq) ?_;have U:=xq set d;by_cases c:eD set d<set.length
  ·have w:((eD set d:Nat):Int)<(set.length:Nat):=Om;have u:(set.map fun n=>[PV.int .i64 n])[eD set d]?=some [.int .i64 set[eD set d]]:=by simp[c]
   have Q:set.getD (eD set d) 0=set[eD set d]:=by simp[a8P,c]
   rw[decide_eq_true c,a8H,Q] at e;by_cases x:set[eD set d]=d
   ·rw[decide_eq_true x] at e;rw[e] at l;simp only[go_sem,mH,AY,a7W,w,u,bL x,yn,wZz b,AZ,wZz j];exact aD (j+1,eD set d) ⟨hlt,a7H⟩ (by simp only; omega) (by (repeat' (first|exact c_|refine d_ ?_ ?_))<;>first|(simp only[go_sem,l,sR]<;>rfl)|rfl) b_
   ·rw[decide_eq_false x] at e;rw[e] at l;simp only[go_sem,mH,AY,a7W,w,u,bF x,AZ,wZz j];exact aD (j+1,eD set d) ⟨hlt,a7H⟩ (by simp only; omega) (by (repeat' (first|exact c_|refine d_ ?_ ?_))<;>first|(simp only[go_sem,l,sR]<;>rfl)|rfl) b_
  ·have w:¬ ((eD set d:Nat):Int)<(set.length:Nat):=Om;rw[decide_eq_false c,a8F] at e;rw[e] at l;simp only[go_sem,mH,AY,a7W,w,AZ,wZz j];exact aD (j+1,eD set d) ⟨hlt,a7H⟩ (by simp only; omega) (by (repeat' (first|exact c_|refine d_ ?_ ?_))<;>first|(simp only[go_sem,l,sR]<;>rfl)|rfl) b_
 ·have q:¬ (j:Int)<(s.length:Nat):=Om;have:j=s.length:=Om;subst this;simp only[go_sem,AX,ZP,mH,q,a8Y];refine Up.up ?_ M;unfold BN iY;exact Lq
theorem aET {C:Ctx} (sc:List (List Int)) (y:sc.length≤1000000000000000) (q:∀ s∈sc,s.length≤1000000000000000∧s.Pairwise (· < ·)) (set:List Int) (x:set.length≤1000000000000000) (u:set.Pairwise (· < ·)) (m:Int) :
  GR.wp C (aV ajZ.res (aF (.int .i64 (sV sc set m:Nat)))) (PF.args [lay sc,ints set,.int .i64 m]) .nil:=by
 simp only[go_sem,GR,Jp,Jq,Jr,ajZ,a7W];refine wp_loop (α:=Nat) (fun i=>BN sc set m ((sc.take i).countP fun s=>decide (((iY s set:Nat):Int)>m)) i) (fun _=>.nil) (fun i=>i≤sc.length) (fun i=>sc.length-i) 0 (a8C _) (by unfold BN; exact Lq) a_ ?_;intro i hi;by_cases hlt:i<sc.length
 ·have e:(i:Int)<(sc.length:Nat):=Om;have p:(sc.map fun r=>[ints r])[i]?=some [ints sc[i]]:=by simp[hlt]
  have d:=uT (fun s=>decide (((iY s set:Nat):Int)>m)) sc hlt;obtain⟨k1,k2⟩:=q sc[i] (a7Z hlt);have w:(sc.take i).countP (fun s=>decide (((iY s set:Nat):Int)>m))≤i:=a9J List.countP_le_length (by rw[a8Q]; omega);generalize (sc.take i).countP (fun s=>decide (((iY s set:Nat):Int)>m))=n at *
  generalize sc[i]=s at *
  have l:iY set s=iY s set:=x9 (u.imp (fun h=>by omega)) (k2.imp (fun h=>by omega));simp only[go_sem,OR,ZO,BN,e,Js,p,Jt,Ju,a7W];have one:=fun {K:bR} [Up K] {F:PF} {H:PH}=>asH (C:=C) (K:=K) sc set x u m n i s k1 k2 (F:=F) (H:=H);refine one (by unfold mH; exact Lq) ?_;rw[l];by_cases c:((iY s set:Nat):Int)>m
  ·rw[decide_eq_true c] at d;simp only[go_sem,BN,OS,c,yo,wZz n,OT,wZz i];exact aD (i+1) hlt Om (by (repeat' (first|exact c_|refine d_ ?_ ?_))<;>first|(simp only[go_sem,d,sR]<;>rfl)|rfl) a_
  ·rw[decide_eq_false c] at d;simp only[go_sem,BN,OS,c,OT,wZz i];exact aD (i+1) hlt Om (by (repeat' (first|exact c_|refine d_ ?_ ?_))<;>first|(simp only[go_sem,d,sR]<;>rfl)|rfl) a_
 ·have e:¬ (i:Int)<(sc.length:Nat):=Om;have:i=sc.length:=Om;subst this;rw[a8Y];simp only[go_sem,OR,ZO,BN,e,yq];refine aQ (.inr rfl) Ev ?_;rfl
def Kept (f:aE) (p:bS) (xs:List Int):Prop:=∀ i,i<f.a6O.length→dZ f p i>0→fD f xs i≤dZ f p i
theorem Kept.nil (f:aE) (p:bS):Kept f p []:=fun i _ h=>by
 have:fD f [] i=0:=by unfold fD; split<;>simp
 omega
def yU (f:aE) (p:bS) (xs:List Int) (d:Nat) (k:Nat):Prop:=∀ i,i<f.a6O.length→4-(k:Int)<lvl f i→dZ f p i>0→fD f (xs++[(d:Int)]) i≤dZ f p i
theorem yU.zero {f:aE} (hV:VF f) {p:bS} (xs:List Int) (d:Nat):yU f p xs d 0:=fun i hi h _=>by
 have:=hV.kA hi;omega
theorem yU.done {f:aE} (hV:VF f) {p:bS} (l:dZ f p 0≤0) {xs:List Int} {d:Nat} (h:yU f p xs d 4):Kept f p (xs++[(d:Int)]):=fun i hi c=>by
 have:=hV.kA hi;by_cases e:i=0
 ·subst e; omega
 ·exact h i hi Om c
theorem yU.next {f:aE} (hV:VF f) {p:bS} {xs:List Int} {d k:Nat} (x:d<f.a6L.length) (y:k<4) (u:Kept f p xs) (h:yU f p xs d k) (w:dZ f p (upN f k (dK f d))>0→fD f (xs++[(d:Int)]) (upN f k (dK f d))≤dZ f p (upN f k (dK f d))):yU f p xs d (k+1):=fun i hi A q=>by
 by_cases e:4-(k:Int)<lvl f i
 ·exact h i hi e q
 have l:lvl f i=4-(k:Int):=Om;by_cases c:i=upN f k (dK f d)
 ·subst c; exact w q
 have:fD f (xs++[(d:Int)]) i=fD f xs i:=by
  unfold fD;split
  ·rfl
  ·rw[List.countP_append,List.countP_cons,List.countP_nil];have:lM f i (d:Int)=false:=by unfold lM cP;rw[l,show (4-(4-(k:Int)).toNat)=k by omega,a9Q];simp[show ¬ upN f k (dK f d)=i from fun h=>c h.symm]
   rw[this];simp
 rw[this];exact u i hi q
theorem atB {q:Nat→Bool} {n:Nat}:∀ {i:Nat},i<n→q i=true→((a7X n).filter q)[(a7X i).countP q]?=some i:=by
 intro i hi c;have e:a7X n=a7X i++(i::a9Y (i+1) (n-i-1)):=by rw[List.range_eq_range',List.range_eq_range',show i::a9Y (i+1) (n-i-1)=a9Y i (n-i-1+1) from rfl];have:=List.range'_append (s:=0) (m:=i) (n:=n-i-1+1) (step:=1);rw[Nat.one_mul,a8U] at this;rw[this];congr 1;omega
 rw[e,List.filter_append,List.filter_cons_of_pos c,List.countP_eq_length_filter,baO (a8D _),baX];rfl
def InR (l:List Int) (n:Nat):Prop:=∀ x∈l,0≤x∧x<(n:Int)
def TZ (f:aE) (c:List (List Int)) (r:Int) (l:List Int):Bool:=!l.isEmpty&&Hp f c r l
def aIQ (f:aE) (e:List (List Int)) (r:Int) (c:List (List Int)) (d:Nat):List (List Int):=match c.findIdx? (fun l=>Hp f e r (l++[(d:Int)])) with
 | some i=>c.set i (c.getD i []++[(d:Int)])
 | none=>c++[[(d:Int)]]
def rz (f:aE) (c:List (List Int)) (r:Int):Nat→List (List Int)
 | 0=>[]
 | d+1=>aIQ f c r (rz f c r d) d
def arV (f:aE) (c:List (List Int)) (r:Int):Bool:=(a7X f.a6L.length).all fun d=>Hp f c r [(d:Int)]
theorem set_perm:∀ (c:List (List Int)) (i:Nat) (x:Int),i<c.length→((c.set i (c.getD i []++[x])).flatten).Perm (c.flatten++[x])
 | [],i,x,h=>by cases h
 | l::c,0,x,_=>by simp only[bbS,List.getD_cons_zero,List.flatten_cons,a9G];exact List.Perm.append_left _ List.perm_append_comm
 | l::c,i+1,x,h=>by have:=set_perm c i x (by simpa using h);simp only[List.set_cons_succ,List.getD_cons_succ,List.flatten_cons,a9G];exact List.Perm.append_left _ this
structure I4 (f:aE) (now:List (List Int)) (r:Int) (n:Nat) (w:List (List Int)):Prop where
 ok:∀ l∈w,TZ f now r l=true
 len:w.flatten.length=n
 nd:w.flatten.Nodup
 rng:InR w.flatten n
theorem I4.put {f:aE} {c:List (List Int)} {r:Int} {n:Nat} {w:List (List Int)} (h:I4 f c r n w) (q:Hp f c r [(n:Int)]=true):I4 f c r (n+1) (aIQ f c r w n):=by
 have p:∀ u:List (List Int),u.flatten.Perm (w.flatten++[(n:Int)])→(∀ l∈u,TZ f c r l=true)→I4 f c r (n+1) u:=fun u e y=>by
  refine⟨y,by rw[e.length_eq,a8E,h.len]; rfl,e.nodup_iff.2 ?_,fun x A=>?_⟩
  ·rw[baQ];refine⟨h.nd,by simp,fun a q b B=>?_⟩;rw[baN] at B;subst B;have:=h.rng a q;omega
  ·have:=e.mem_iff.1 A;rw[a9S,baN] at this;rcases this with A | rfl
   ·have:=h.rng x A; omega
   ·omega
 unfold aIQ;split
 ·rename_i i hi;obtain⟨hlt,e,-⟩:=List.findIdx?_eq_some_iff_getElem.1 hi;refine p _ (set_perm w i n hlt) fun l d=>?_;rcases List.mem_or_eq_of_mem_set d with d | rfl
  ·exact h.ok l d
  ·unfold TZ;rw[a8P,a8K hlt,baY,e];simp
 ·refine p _ (by rw[List.flatten_append]; simp) fun l d=>?_;rw[a9S,baN] at d;rcases d with d | rfl
  ·exact h.ok l d
  ·unfold TZ;rw[q]; rfl
theorem Ga {f:aE} {c:List (List Int)} {r:Int} (e:arV f c r=true):∀ d,d≤f.a6L.length→I4 f c r d (rz f c r d)
 | 0,_=>⟨(fun l h=>by cases h),rfl,.nil,fun x h=>by cases h⟩
 | d+1,i=>(Ga e d Om).put (a8M.1 e d (a9A.2 Om))
end Go.PM
namespace Go.RO
open Go
def ins (x:Int):List Int→List Int
 | []=>[x]
 | y::ys=>if y<x then y::ins x ys else if y=x then y::ys else x::y::ys
end Go.RO
namespace Go.PM
open Go Go.Na






def aOG (c:UInt8) (n:Nat):List UInt8:=[c,UInt8.ofNat (97+n/26%26),UInt8.ofNat (97+n%26)]
def Km (ds:List cD) (level parent a7F:Nat):List cD:=ds++[⟨aOG 110 ds.length,(level:Nat),(parent:Nat),(a7F:Nat),jP⟩]
theorem aHP (a b:Nat) (e:a<4294967296) (i:b<4294967296):(mkT (a:Int) (b:Int)).Ok:=by
 rw[abK];have c:=baV a (a7Y a b);have d:=baV b (a7Y a b);have k1:nl (a/a7Y a b)≤1:=(jB _ _).2 Om;have k2:nl (b/a7Y a b)≤1:=(jB _ _).2 Om;refine⟨aX _,aX _,?_,?_⟩
 ·show (aI _).length≤_;rw[bB]; omega
 ·show (aI _).length≤_;rw[bB]; omega
theorem Oe {n:Nat} (h:n≤1000000):dB (n:Int):=by unfold dB; omega
def Iw (ds:List cD):Prop:=∀ x∈ds,x.a7A.Ok∧dB x.level∧dB x.parent
theorem Iw.dom {ds:List cD} (h:Iw ds) {level parent a7F:Nat} (d:level≤1000) (e:parent≤1000):Iw (Km ds level parent a7F):=fun x c=>by
 unfold Km at c;rw[a9S,baN] at c;rcases c with c | rfl
 ·exact h x c
 ·exact⟨aHP 0 1 (by decide) (by decide),Oe Om,Oe Om⟩
structure FM (f:aE):Prop where
 ok:f.Ok
 km:∀ p∈f.a6P,1≤p.k∧p.k≤2∧0≤p.m∧p.m≤2
 a6L:f.a6L.length≤9
 pols:1≤f.a6P.length∧f.a6P.length≤2
 vols:∀ x∈f.a6N,0≤x.a6X∧x.a6X<f.a6P.length
theorem FM.pol {f:aE} (h:FM f) {v:Nat} (d:v<f.a6N.length):DR f v<f.a6P.length∧KJ f v∈f.a6P:=by
 have e:=h.vols _ (a7Z d);have i:DR f v=(f.a6N[v]).a6X.toNat:=by rw[DR,getD_at d]
 have c:DR f v<f.a6P.length:=Om;refine⟨c,?_⟩;unfold KJ;rw[a8P,a8K c,baY];exact a7Z c
abbrev a0X (l:List Int) (a:Nat):cG:=.rows 2 [[ints l,.int .i64 (a:Nat)]]
section
variable {C:Ctx} {F:PF} {H Hs:PH} {l:List Int} {o a:Nat}
end
structure ME where
 o:Nat
 o4:Nat
 o5:Nat
 vols:Nat
abbrev ME.boxes (E:ME) (l:List Int) (ext c d e i wp wv:PV) (a:Nat):List BX:=[(E.o5,flB ext c d e i wp wv),(E.o,a0X l a),(E.o4,flZ)]





def a3B (ds:List cD) (i:Nat) (d:cD):Prop:=∃ c p u:Nat,d.name=aOG 110 (i+1)∧d.level=c∧1≤c∧c≤4∧d.parent=p∧p≤i∧(lvs ds)[p]?=some ((c:Int)-1)∧d.a7F=u∧1≤u∧u≤64∧d.a7A=jP
structure DV (ds:List cD):Prop where
 root:ds[0]?=some mJ
 dom:∀ i (hi:i+1<ds.length),a3B ds i ds[i+1]
theorem DV.new {ds:List cD} (h:DV ds) {level parent up:Nat} (w:1≤level) (x:level≤4) (d:(lvs ds)[parent]?=some ((level:Int)-1)) (A:1≤up) (B:up≤64) :
  DV (Km ds level parent up)∧(lvs (Km ds level parent up))[ds.length]?=some (level:Int):=by
 have y:parent<ds.length:=by
  have:=(a9F.1 d).1
  rwa [a7W] at this
 unfold Km;refine⟨⟨by rw[baP Om]; exact h.root,fun i hi=>?_⟩,?_⟩
 ·simp only[a8E,a8I] at hi;by_cases hlt:i+1<ds.length
  ·rw[List.getElem_append_left hlt];obtain⟨c,p,v,g1,g2,g3,g4,e,l,q,u⟩:=h.dom i hlt;exact⟨c,p,v,g1,g2,g3,g4,e,l,yJ q,u⟩
  ·have:i+1=ds.length:=Om;rw[bbU Om];simp only[List.getElem_singleton];exact⟨level,parent,up,by rw[this],rfl,w,x,rfl,by omega,yJ d,rfl,A,B,rfl⟩
 ·unfold lvs;rw[a8W,baO (by rw[a7W]; exact a8D _),a7W,baX];rfl




theorem aN.store {H:PH} {B:List BX} {L:List LI} (h:aN H B L) (i:Nat) {q s n:Nat} {rows:List (List PV)} (hi:L[i]?=some (.osl q s 0 n,s,rows)) (k:Nat) (c:List PV) :
  ∃ rs,H q=some (.rows s rs)∧n≤rs.length∧rs.take n=rows∧aN (H.set q (.rows s (rs.set k c))) B (L.set i (.osl q s 0 n,s,rows.set k c)):=by
 obtain⟨rs,u,w,e,l⟩:=(h.own i hi).id rfl;injection w with _ _ _ x
 subst x;refine⟨rs,u,e,l,h.LJ i hi (.inr ⟨q,rs.set k c,by rw[baB],by rw[cO],by rw[baB,baB]; exact e,by rw[baB,List.take_set,l]⟩) (fun p d=>.inl d) fun p _ d=>?_⟩;have:p≠q:=d q rfl;rw[aT,if_neg this]
def aTP:Rg:=[iA 4 (.box false (Tm 1)),iA 6 (.alloc [zI,zI]),iI 7 0]
def aTQ:Rg:=[iF 10 1 4,iL 11 10,iC 12 .lss 11 0,iM 13 12,gF 14 1 4 13 false,gL 15 14 13 false,gM 16 0 13 false,gB 17 .geq 15 16 13 false,iQ 18 13 17]
def aTR:Rg:=[iA 19 (.build [zI,zI] []),iS 2 6 19,iI 7 110]
def aTS:Rd:=[(iA 21 (.a7R (true,[.int .i64,.int .i64])),true),(iA 22 (.build [zI,zI] [(0,1,(Ci 1)),(1,1,(Ci 1))]),true),(⟨none,.insert (true,[.int .i64,.int .i64]) (Tm 21) (Tm 22) (Ci 2),none⟩,true),(iA 23 (.build [zI,zI] [(0,1,(Ci 2)),(1,1,(Ci 2))]),true),(⟨none,.insert (true,[.int .i64,.int .i64]) (Tm 21) (Tm 23) (Ci 3),none⟩,true),(iA 24 (.build [zI,zI] [(0,1,(Ci 3)),(1,1,(Ci 3))]),true),(⟨none,.insert (true,[.int .i64,.int .i64]) (Tm 21) (Tm 24) (Ci 1),none⟩,true),(iA 25 (.build [zI,zI] [(0,1,(Ci 3)),(1,1,(Ci 4))]),true),(⟨none,.insert (true,[.int .i64,.int .i64]) (Tm 21) (Tm 25) (Ci 5),none⟩,true),(iM 26 21,false),(iF 27 0 4,true),(iL 28 27,true),(iM 29 2,true),(iA 30 (.build [zI,zI] [(0,1,(Tm 28)),(1,1,(Tm 29))]),true),(iA 31 (.lookup (true,[.int .i64,.int .i64]) zI (Tm 26) (Tm 30) true),false),(iM 20 31,false),(iE 32 20 0,false),(iE 33 20 1,false),(iM 8 32,false),(iM 9 33,false)]
def aTT:Rg:=[iM 40 9,iA 41 (.un .not (Tm 40)),iM 39 41]
def aTU:Rg:=[iA 42 (.build [zI,zI] []),iS 2 6 42,iI 7 110]
def aTV:Rg:=[iM 44 2,iC 45 .neq 44 3,iM 43 45]
def aTW:Rg:=[iM 46 8,iF 47 0 4,iS 1 47 46]
def aTX:Rg:=[iF 49 1 4,iL 50 49,iM 51 0,iC 52 .sub 51 1,iB 53 .eql 50 52,iM 48 53]
def aTY:Rg:=[iF 54 0 4,⟨none,.store 1 (Tm 54) (Ci 4),none⟩]
def aLE:Rg:=[iM 34 8,iF 35 1 4,iL 36 35,iC 37 .add 36 1,iA 38 (.build [zI,zI] [(0,1,(Tm 34)),(1,1,(Tm 37))]),iS 2 4 38]
def aLF:Rg:=[iO 55 2 4,iS 2 6 55,iI 7 0]
def ayA:aC:=(sq aTP (.seq (sq aTQ (.cond (Tm 18) (sq aTR .ret) .skip)) (dq aTS (.seq (.block 0 (sq aTT (.cond (Tm 39) (sq aTU .ret) (sq aTV (.cond (Tm 43) (.region aTW) (sq aTX (.cond (Tm 48) (.region aTY) (.region aLE)))))))) (sq aLF .ret)))))
def step:aS:=⟨3,56,ayA,[.cell 6 (some 2),.tmp 7]⟩
def aSG:Rg:=[iT 4 false]
def aSH:Rg:=[iM 6 0,iN 7 6,iM 8 1,iN 9 8,iB 10 .neq 7 9]
def aSI:Rg:=[iT 4 false]
def aSJ:Rg:=[iI 5 0]
def aSK:Rg:=[iM 11 5,iM 12 0,iN 13 12,iB 14 .lss 11 13]
def aSL:Rd:=[(iM 17 0,false),(iM 18 5,false),(iX 19 1 17 18,false),(iL 20 19,false),(iM 21 1,false),(iM 22 5,false),(iX 23 1 21 22,false),(iL 24 23,false),(iB 25 .neq 20 24,false)]
def aSM:Rg:=[iT 4 false]
def aSN:Rg:=[iM 15 5,iC 16 .add 15 1,iM 5 16]
def aSF:aC:=(.seq (sq aSK (.cond (Tm 14) .skip (.exit 0))) (.seq (.block 1 (dq aSL (.cond (Tm 25) (sq aSM .ret) .skip))) (.region aSN)))
def aSO:Rg:=[iT 4 true]
def awP:aC:=(sq aSG (.seq (sq aSH (.cond (Tm 10) (sq aSI .ret) .skip)) (.seq (sq aSJ (.block 0 (.loop aSF))) (sq aSO .ret))))
def same:aS:=⟨2,26,awP,[.tmp 4]⟩
def aEC:Rg:=[iT 0 false]
def aED:Rg:=[iA 10 (.call 144 [(Ci 1)]),iA 1 (.alloc [zI,zI]),iS 2 1 10]
def aEE:Rg:=[iO 12 2 1,iA 13 (.call 145 [(Ci 1),(Tm 12),(Ci 1)]),iM 11 13,iE 14 11 0,iE 15 11 1,iA 2 (.alloc [zI,zI]),iS 2 2 14,iM 3 15]
def aEF:Rg:=[iO 17 2 2,iA 18 (.call 145 [(Ci 1),(Tm 17),(Ci 2)]),iM 16 18,iE 19 16 0,iE 20 16 1,iA 4 (.alloc [zI,zI]),iS 2 4 19,iM 5 20]
def aEG:Rg:=[iO 22 2 4,iA 23 (.call 145 [(Ci 1),(Tm 22),(Ci 3)]),iM 21 23,iE 24 21 0,iE 25 21 1,iA 6 (.alloc [zI,zI]),iS 2 6 24,iM 7 25]
def aEH:Rg:=[iO 27 2 6,iA 28 (.call 145 [(Ci 1),(Tm 27),(Ci 1)]),iM 26 28,iE 29 26 0,iE 30 26 1,iA 8 (.alloc [zI,zI]),iS 2 8 29,iM 9 30]
def aEI:Rg:=[iO 31 2 1,iA 32 (.build [zI,zI] [(0,1,(Ci 1))]),iA 33 (.eqs false [.int,.int] (Tm 31) (Tm 32)),iM 34 33,gM 35 3 34 true,gC 36 .eql 35 0 34 true,iP 37 34 36,iM 38 37,gM 39 5 38 true,gC 40 .eql 39 0 38 true,iP 41 38 40,iM 42 41,gM 43 7 42 true,gC 44 .eql 43 0 42 true,iP 45 42 44,iM 46 45,gM 47 9 46 true,gC 48 .eql 47 110 46 true,iP 49 46 48,iM 50 49,gO 51 2 6 50 true,iG 52 (.build [zI,zI] [(0,1,(Ci 4))]) 50 true,iG 53 (.eqs false [.int,.int] (Tm 51) (Tm 52)) 50 true,iP 54 50 53,iM 55 54,iG 56 (.a6R true 1 2 [zI] [(0,(Ci 2)),(1,(Ci 1))]) 55 true,iG 57 (.a6R true 1 1 [.aB] [(0,(Tm 56))]) 55 true,gO 58 2 6 55 true,gK2 59 146 57 58 55 true,iG 60 (.a6R true 1 2 [zI] [(0,(Ci 1)),(1,(Ci 2))]) 55 true,gK2 61 91 59 60 55 true,iP 62 55 61,iM 63 62,iG 64 (.call 144 [(Ci 0)]) 63 true,iG 65 (.build [zI,zI] [(0,1,(Ci 4))]) 63 true,iG 66 (.eqs false [.int,.int] (Tm 64) (Tm 65)) 63 true,iP 67 63 66,iM 0 67]
def ajP:aC:=(sq aEC (sq aED (sq aEE (sq aEF (sq aEG (sq aEH (sq aEI .ret)))))))
def Hn:aS:=⟨0,68,ajP,[.tmp 0]⟩
def aVX:Rg:=[iA 5 (.box true (Tm 1)),iT 8 false]
def aVY:Rg:=[iM 20 3,iN 21 20,iC 22 .gtr 21 20]
def aVZ:Rg:=[iA 23 (.call 26 []),iM 8 23]
def aWA:Rg:=[iI 9 0]
def aWB:Rg:=[iM 24 9,iM 25 3,iN 26 25,iB 27 .lss 24 26]
def aWC:Rg:=[iM 30 3,iM 31 9,iX 32 1 30 31,iL 33 32,iN 34 33,iC 35 .gtr 34 20]
def aWD:Rg:=[iA 36 (.call 26 []),iM 8 36]
def aWE:Rg:=[iM 28 9,iC 29 .add 28 1,iM 9 29]
def aVW:aC:=(.seq (sq aWB (.cond (Tm 27) .skip (.exit 0))) (.seq (.block 1 (sq aWC (.cond (Tm 35) (sq aWD .ret) .skip))) (.region aWE)))
def aWF:Rg:=[iM 37 0,iA 38 (.call 24 [(Tm 37),(Ci 5)]),iM 10 38]
def aQS:Rd:=[(iF 39 0 5,false),(iL 40 39,false),(iA 41 (.call 24 [(Tm 40),(Ci 5)]),true),(iA 42 (.bin .add (Ci 1) (Tm 41)),true),(iF 43 1 5,true),(iL 44 43,true),(iA 45 (.call 24 [(Tm 44),(Ci 5)]),true),(iA 46 (.build [zI,zI] [(0,1,(Tm 42)),(1,1,(Tm 45))]),false),(iA 11 (.alloc [zI,zI]),true),(iS 2 11 46,true)]
def aQT:Rg:=[iM 48 0,iO 49 2 5,iM 50 2,iA 51 (.call 145 [(Tm 48),(Tm 49),(Tm 50)]),iM 47 51,iE 52 47 0,iE 53 47 1,iA 12 (.alloc [zI,zI]),iS 2 12 52,iM 13 53]
def aQU:Rg:=[iM 55 0,iO 56 2 5,iM 57 2,iA 58 (.call 92 [(Tm 55),(Tm 56),(Tm 57)]),iM 54 58,iE 59 54 0,iE 60 54 1,iA 14 (.alloc [zI,zI]),iS 2 14 59,iM 15 60]
def aQV:Rd:=[(iM 62 10,true),(iO 63 2 11,true),(iM 64 2,false),(iA 65 (.call 24 [(Tm 64),(Ci 4)]),true),(iA 66 (.bin .add (Ci 1) (Tm 65)),false),(iA 67 (.call 145 [(Tm 62),(Tm 63),(Tm 66)]),true),(iM 61 67,false),(iE 68 61 0,false),(iE 69 61 1,true),(iA 16 (.alloc [zI,zI]),true),(iS 2 16 68,true),(iM 17 69,false)]
def aQW:Rd:=[(iM 71 10,true),(iO 72 2 11,true),(iM 73 2,false),(iA 74 (.call 24 [(Tm 73),(Ci 4)]),true),(iA 75 (.bin .add (Ci 1) (Tm 74)),false),(iA 76 (.call 92 [(Tm 71),(Tm 72),(Tm 75)]),true),(iM 70 76,false),(iE 77 70 0,false),(iE 78 70 1,true),(iA 18 (.alloc [zI,zI]),true),(iS 2 18 77,true),(iM 19 78,false)]
def aQX:Rd:=[(iA 79 (.call 26 []),true),(iM 80 79,false),(gO 81 2 12 80 true,false),(gO 82 2 14 80 true,false),(iG 83 (.eqs false [.int,.int] (Tm 81) (Tm 82)) 80 true,false),(iP 84 80 83,false),(iM 85 84,false),(gM 86 13 85 true,false),(gM 87 15 85 true,false),(gB 88 .eql 86 87 85 true,false),(iP 89 85 88,false),(iM 90 89,false),(gO 91 2 16 90 true,false),(gO 92 2 18 90 true,false),(iG 93 (.eqs false [.int,.int] (Tm 91) (Tm 92)) 90 true,false),(iP 94 90 93,false),(iM 95 94,false),(gM 96 17 95 true,false),(gM 97 19 95 true,false),(gB 98 .eql 96 97 95 true,false),(iP 99 95 98,false),(iM 100 99,false),(gM 101 3 100 true,false),(gO 102 2 5 100 true,false),(gK2 103 146 101 102 100 true,true),(gM 104 3 100 true,true),(gO 105 2 5 100 true,true),(gK2 106 93 104 105 100 true,true),(gK2 107 91 103 106 100 true,true),(iP 108 100 107,false),(iM 109 108,false),(gM 110 3 109 true,false),(gO 111 2 11 109 true,false),(gK2 112 146 110 111 109 true,true),(gM 113 3 109 true,true),(gO 114 2 11 109 true,true),(gK2 115 93 113 114 109 true,true),(gK2 116 91 112 115 109 true,true),(iP 117 109 116,false),(iM 8 117,false)]
def aGS:aC:=(sq aVX (.seq (sq aVY (.cond (Tm 22) (sq aVZ .ret) .skip)) (.seq (sq aWA (.block 0 (.loop aVW))) (sq aWF (dq aQS (sq aQT (sq aQU (dq aQV (dq aQW (dq aQX .ret))))))))))
def law:aS:=⟨4,118,aGS,[.tmp 8]⟩
open Go Go.RowKit Go.Sort Go.Shelf Go.Proofs
section
variable {E:Env} {H:PH} {w:World}
end
section
variable {C:Ctx} {ρ:Ren} {name:Nat}
end
abbrev lists (c:List (List Int)):PV:=.sl 1 (c.map fun w=>[ints w])
abbrev WPs:=List (PV × List Int)
def cY (ps:WPs):List (List PV):=ps.map fun p=>[p.1]
def mO (ps:WPs):List LI:=ps.map fun p=>(p.1,1,aY p.2)
def wls (ps:WPs):List (List Int):=ps.map (·.2)
def dP (c:PV) (ps:WPs):List LI:=(c,1,cY ps)::mO ps
section
variable {H:PH} {B:List BX}
theorem kX (ps:WPs):(cY ps).length=ps.length:=a7W _
theorem vp {ps:WPs} {i:Nat} {v:PV} {w:List Int} (hi:ps[i]?=some (v,w)):(mO ps)[i]?=some (v,1,aY w):=by
 unfold mO;rw[a8V,hi]; rfl
theorem Rn {ps:WPs} {i:Nat} {v:PV} {w:List Int} (hi:ps[i]?=some (v,w)):(cY ps)[i]?=some [v]:=by
 unfold cY;rw[a8V,hi]; rfl
theorem aN.tA (h:aN H B []):aN H B (dP .aB []):=h.nC 1
theorem aN.inner {c:PV} {ps:WPs} (h:aN H B (dP c ps)) {i:Nat} {v:PV} {w:List Int} (hi:ps[i]?=some (v,w)):bQ H 1 v (aY w):=h.own (i+1) (vp hi)
theorem aN.outer {c:PV} {ps:WPs} (h:aN H B (dP c ps)):bQ H 1 c (cY ps):=h.own 0 rfl
theorem zQ (a b:List Int):aY (a++b)=aY a++aY b:=a8W
theorem aN.a0S {p:PV} {ps:WPs} (h:aN H B (dP p ps)) {i b:Nat} {v y:PV} {w src:List Int} {K:PV→PH→Prop} (hi:ps[i]?=some (v,w)) (E:dX H 1 y=some (aY src)) (x:roomFor w.length src.length b) (d:src≠[])
  (u:∀ q H',aN H' B ((p,1,cY ps)::(mO ps).set i (.osl q 1 0 (w++src).length,1,aY (w++src)))→K (.osl q 1 0 (w++src).length) H'):mR H 1 b v y K:=by
 have c:aY src≠[]:=fun e=>d (List.map_eq_nil_iff.1 e);refine h.append (i+1) (vp hi) E (by rw[dC,dC]; exact x) fun v' H' l A=>?_;obtain⟨q,rfl⟩:=A c;rw[← zQ,dC] at l ⊢;exact u q H' l
theorem aN.aXL {c n i:Nat} {ps:WPs} {v':PV} {d:List Int} (h:aN H B ((.osl c 1 0 n,1,cY ps)::(mO ps).set i (v',1,aY d))) :
  ∃ rs,H c=some (.rows 1 rs)∧n≤rs.length∧rs.take n=cY ps∧aN (H.set c (.rows 1 (rs.set i [v']))) B (dP (.osl c 1 0 n) (ps.set i (v',d))):=by
 obtain⟨rs,l,p,q,u⟩:=h.store 0 rfl i [v'];refine⟨rs,l,p,q,?_⟩;have e:dP (.osl c 1 0 n) (ps.set i (v',d))=((.osl c 1 0 n,1,cY ps)::(mO ps).set i (v',1,aY d)).set 0 (.osl c 1 0 n,1,(cY ps).set i [v']):=by unfold dP cY mO;rw[List.map_set,List.map_set];rfl
 rw[e];exact u
theorem aN.aRD {c:PV} {ps:WPs} {b:Nat} {y:PV} {K:PV→PH→Prop} (h:aN H B (dP c ps)) (w:dX H 1 y=some [[.aB]]) (p:roomFor ps.length 1 b)
  (l:∀ q H',aN H' B (dP (.osl q 1 0 (ps.length+1)) (ps++[(.aB,[])]))→K (.osl q 1 0 (ps.length+1)) H'):mR H 1 b c y K:=by
 refine h.append 0 (src:=[[.aB]]) rfl w (by rw[kX]; exact p) fun v' H' i u=>?_;obtain⟨q,rfl⟩:=u (by simp);have d:=i.nC 1;rw[a8E,kX] at d ⊢;refine l q H' ?_;have e:dP (.osl q 1 0 (ps.length+1)) (ps++[(.aB,[])])=(((c,1,cY ps)::mO ps).set 0 (.osl q 1 0 (ps.length+1),1,cY ps++[[.aB]]))++[(.aB,1,[])]:=by unfold dP cY mO;rw[a8W,a8W];rfl
 rw[e];exact d
def oF (c:List (List PV)) (d:List (List Int)):Prop:=c.length=d.length∧∀ (i:Nat) r w,c[i]?=some r→d[i]?=some w→r=[ints w]∨(r=[.aB]∧w=[])
theorem oF.nil:oF [] []:=⟨rfl,fun i r w h=>by cases h⟩
theorem oF.snoc {l:List (List PV)} {p:List (List Int)} {u:PV} {w:List Int} (h:oF l p) (q:u=ints w∨(u=.aB∧w=[])):oF (l++[[u]]) (p++[w]):=by
 refine⟨by simp[h.1],fun i r x d e=>?_⟩;rcases Nat.lt_trichotomy i l.length with c | c | c
 ·rw[baP c] at d;rw[baP (by rw[← h.1]; exact c)] at e;exact h.2 i r x d e
 ·subst c;rw[baO (a8D _),baX] at d;rw[h.1,baO (a8D _),baX] at e;cases d; cases e;rcases q with rfl | ⟨rfl,rfl⟩
  ·exact .inl rfl
  ·exact .inr ⟨rfl,rfl⟩
 ·rw[baO Om,a9N (by simp; omega)] at d;cases d
theorem oF.flat {e:List (List PV)} {u:List (List Int)} (h:oF e u):Flat e:=Flat.of fun r p c d q s rs=>by
 obtain⟨i,hi⟩:=List.mem_iff_getElem?.1 p;have l:=(a9F.1 hi).1;rcases h.2 i r _ hi (a8K (by rw[← h.1]; exact l)) with rfl | ⟨rfl,-⟩
 ·rw[baN] at d; subst d; rfl
 ·rw[baN] at d; subst d; rfl
theorem oF.co {y:List (List PV)} {x:List (List Int)} (h:oF y x):Co (.sl 1 y) (lists x):=by
 have u:∀ (i:Nat) r t,y[i]?=some r→(x.map fun w=>[ints w])[i]?=some t→∃ w,t=[ints w]∧(r=[ints w]∨(r=[.aB]∧w=[])):=fun i r t e c=>by
  rw[a8V] at c;cases E:x[i]? with
  | none=>rw[E] at c; cases c
  | some w =>rw[E] at c;cases c;exact⟨w,rfl,h.2 i r w e E⟩
 refine .sl (by rw[a7W,h.1]) (fun i r t e c=>?_) (fun i j p q d l=>?_)
 ·obtain⟨w,rfl,A | ⟨A,-⟩⟩:=u i r t e c<;>subst A<;>rfl
 ·unfold at2 at d l;cases e:y[i]? with
  | none=>rw[e] at d; cases d
  | some r =>
   cases c:(x.map fun w=>[ints w])[i]? with
   | none=>rw[c] at l; cases l
   | some t =>
    rw[e] at d;rw[c] at l;obtain⟨w,rfl,A⟩:=u i r t e c;rcases A with rfl | ⟨rfl,rfl⟩
    ·have:some p=some q:=d.symm.trans l;cases this;exact .refl _
    ·cases j with
     | zero=>cases d; cases l; exact .nil 1
     | succ j=>cases d
end
def Fx (u:PV):Prop:=∀ q s rs,PV.frz q s rs u=u
theorem Fx.int (k:IntKind) (n:Int):Fx (.int k n):=fun _ _ _=>rfl
theorem Fx.bool (b:Bool):Fx (.bool b):=fun _ _ _=>rfl
theorem Fx.sl (n:Nat) (r:List (List PV)):Fx (.sl n r):=fun _ _ _=>rfl
theorem Fx.aB:Fx .aB:=fun _ _ _=>rfl
theorem Fx.ptr (q z i c:Nat):Fx (.ptr q z i c):=fun _ _ _=>rfl
theorem Fx.bH (c:List PV):Fx (.bH c):=fun _ _ _=>rfl
theorem bQ.dE {H:PH} {s:Nat} {v:PV} {rows:List (List PV)} (h:bQ H s v rows) (q z:Nat) (rs:List (List PV)):PV.frz q z rs v=PV.dE q z rs v:=by
 rcases h with ⟨-,rfl⟩ | ⟨p,rs',rfl,-⟩<;>rfl
def U3 (φ:PV→PV) (F:PF):PF:=fun i=>(F i).map φ
theorem yS (φ:PV→PV) (F:PF) (i:Nat):U3 φ F i=(F i).map φ:=rfl
theorem zU:∀ (ps:WPs) {H:PH} {B:List BX} {y:PV} (l:List (List PV)) (d:List (List Int)),oF l d→aN H B ((y,1,l++cY ps)::mO ps)→(∀ b∈B,∀ q s rs,cG.frz q s rs b.2=b.2) →
  ∃ (φ:PV→PV) (A:PH),Co (φ y) (lists (d++wls ps))∧(∀ u,Fx u→φ u=u)∧(∀ e:Int,φ (.tup [y,.int .i64 e])=.tup [φ y,.int .i64 e])∧aN A B []∧(∀ F:PF,jD F H (U3 φ F) A)∧∀ o,(H o=none∨y.oid=some o∨∃ p∈ps,p.1.oid=some o)→A o=none
 | [],H,B,y,l,d,J,h,hB=>by
  have M:l++cY []=l:=a9W l;have e1:d++wls []=d:=a9W d;rw[M] at h;rw[e1];rcases h.own 0 rfl with ⟨Q,rfl⟩ | ⟨q,rs,rfl,_⟩
  ·refine⟨id,H,?_,fun _ _=>rfl,fun _=>rfl,h.akL 0,fun F=>?_,fun o ho=>?_⟩
   ·subst Q;have:d=[]:=List.length_eq_zero_iff.1 J.1.symm;subst this;exact .nil 1
   ·have:U3 id F=F:=funext fun i=>by rw[yS]; simp
    rw[this];exact .refl _ _
   ·rcases ho with ho | ho | ⟨p,hp,-⟩
    ·exact ho
    ·cases ho
    ·cases hp
  ·obtain⟨rs,X,Y,Z,z4,K⟩:=h.frz 0 rfl;refine⟨PV.frz q 1 rs,H.frz q 1 rs,?_,fun u N=>N _ _ _,fun e=>?_,?_,fun F=>.step q X (.refl _ _),fun o ho=>?_⟩
   ·rw[Z]; exact J.co
   ·show PV.tup [PV.dE q 1 rs (.osl q 1 0 l.length),.int .i64 e]=_;rw[Y,Z]
   ·have O:(B.map fun b=>(b.1,b.2.frz q 1 rs))=B:=by
     conv=>rhs; rw[← List.map_id B]
     refine bbR fun b R=>?_;rw[hB b R q 1 rs]; rfl
    rw[O] at K;exact K
   ·rw[yG];rcases ho with ho | ho | ⟨p,hp,-⟩
    ·rw[ho]; split<;>rfl
    ·have:q=o:=by injection ho
     rw[if_pos this.symm]
    ·cases hp
 | (v,w)::ps,H,B,y,l,d,J,h,hB=>by
  have eo:∀ u:PV,l++[[u]]++cY ps=l++[u]::cY ps:=fun u=>by rw[a9G]; rfl
  have ew:d++[w]++wls ps=d++wls ((v,w)::ps):=by rw[a9G]; rfl
  have ho:bQ H 1 v (aY w):=h.own 1 rfl;rcases ho with ⟨Q,rfl⟩ | ⟨q,rs,rfl,_⟩
  ·have hw:w=[]:=List.map_eq_nil_iff.1 Q;have h2:=h.akL 1;obtain⟨φ,A,k1,k2,S,U,V,W⟩:=zU ps (l++[[.aB]]) (d++[w]) (J.snoc (.inr ⟨rfl,hw⟩)) (by rw[eo]; exact h2) hB;rw[ew] at k1;refine⟨φ,A,k1,k2,S,U,V,fun o ho=>W o ?_⟩;rcases ho with ho | ho | ⟨p,hp,ho⟩
   ·exact .inl ho
   ·exact .inr (.inl ho)
   ·rcases a8J.1 hp with rfl | hp
    ·cases ho
    ·exact .inr (.inr ⟨p,hp,ho⟩)
  ·obtain⟨rs,X,Y,Z,z4,K⟩:=h.frz 1 rfl;have O:(B.map fun b=>(b.1,b.2.frz q 1 rs))=B:=by
    conv=>rhs; rw[← List.map_id B]
    refine bbR fun b R=>?_;rw[hB b R q 1 rs]; rfl
   have y0:PV.dE q 1 rs y=y:=z4 0 _ (by decide) rfl;have E:PV.frz q 1 rs y=y:=((h.own 0 rfl).dE q 1 rs).trans y0;have yp:∀ p∈ps,PV.dE q 1 rs p.1=p.1:=fun p hp=>by obtain⟨j,hj⟩:=List.mem_iff_getElem?.1 hp;exact z4 (j+2) (p.1,1,aY p.2) Om (vp hj)
   have er:(l++cY ((.osl q 1 0 (aY w).length,w)::ps)).map (fun r=>r.map (PV.dE q 1 rs))=l++[[ints w]]++cY ps:=by
    rw[a8W,J.flat,a9G];congr 1;show [PV.dE q 1 rs (.osl q 1 0 (aY w).length)]::(cY ps).map _=_;rw[Y];have:(cY ps).map (fun r=>r.map (PV.dE q 1 rs))=cY ps:=by unfold cY;rw[List.map_map];refine bbR fun p hp=>?_;show [PV.dE q 1 rs p.1]=_;rw[yp p hp]
    rw[this];rfl
   have ei:(mO ps).map (fun x=>(x.1,x.2.1,x.2.2.map fun r=>r.map (PV.dE q 1 rs)))=mO ps:=by unfold mO;rw[List.map_map];refine bbR fun p _=>?_;show (p.1,1,(aY p.2).map fun r=>r.map (PV.dE q 1 rs))=_;rw[show (aY p.2).map (fun r=>r.map (PV.dE q 1 rs))=aY p.2 from Flat.map p.2 (fun x c hc q s rs=>by rw[baN] at hc; subst hc; rfl) q 1 rs]
   have z6:aN (H.frz q 1 rs) B ((y,1,l++[[ints w]]++cY ps)::mO ps):=by rw[O] at K;have z7:aN (H.frz q 1 rs) B ((y,1,(l++cY ((.osl q 1 0 (aY w).length,w)::ps)).map (fun r=>r.map (PV.dE q 1 rs)))::(mO ps).map (fun x=>(x.1,x.2.1,x.2.2.map fun r=>r.map (PV.dE q 1 rs)))):=K;rw[er,ei] at z7;exact z7
   obtain⟨φ,A,k1,k2,S,U,V,W⟩:=zU ps (l++[[ints w]]) (d++[w]) (J.snoc (.inl rfl)) z6 hB;rw[ew] at k1;refine⟨fun u=>φ (PV.frz q 1 rs u),A,?_,fun u N=>?_,fun e=>?_,U,fun F=>.step q X ?_,fun o ho=>W o ?_⟩
   ·simp only;rw[E]; exact k1
   ·simp only;rw[N,k2 u N]
   ·simp only;rw[E];have yt:PV.frz q 1 rs (.tup [y,.int .i64 e])=.tup [PV.frz q 1 rs y,.int .i64 e]:=by rcases h.own 0 rfl with ⟨-,M⟩ | ⟨p,rs',M,-⟩<;>(subst M; rfl)
    rw[yt,E,S]
   ·have:U3 (fun u=>φ (PV.frz q 1 rs u)) F=U3 φ (F.frz q 1 rs):=funext fun i=>by rw[yS,yS,qY,Option.map_map];rfl
    rw[this];exact V _
   ·rw[yG];rcases ho with ho | ho | ⟨p,hp,ho⟩
    ·left; rw[ho]; split<;>rfl
    ·exact .inr (.inl ho)
    ·rcases a8J.1 hp with rfl | hp
     ·have:q=o:=by injection ho
      left; rw[if_pos this.symm]
     ·exact .inr (.inr ⟨p,hp,ho⟩)
theorem nK {res:List dV} {F:PF} {H:PH} {d:PV} {ps:WPs} {c:Int} {e:kM} (x:e=.normal∨e=.ret) (h:dV.evs F H res=some [d,.int .i64 c]) (u:aN H [] (dP d ps)):aV res (bZ (.tup [lists (wls ps),.int .i64 c])) e F H:=by
 obtain⟨φ,B,k1,-,y,-,A,-⟩:=zU ps [] [] .nil u (fun b w=>by cases w);refine yQ x h ⟨_,_,.nil,A _,a_,φ (bP [d,.int .i64 c]),?_,?_⟩
 ·rw[yS,kD,if_pos rfl]; rfl
 ·show bZ _ (φ (.tup [d,.int .i64 c])) .nil;rw[y];refine⟨.tup rfl fun j p q i l=>?_,rfl⟩
  match j with
  | 0=>cases i; cases l; exact k1
  | 1=>cases i; cases l; exact .refl _
  | j+2=>cases i
theorem bQ.lenOf {H:PH} {v:PV} {rows:List (List PV)} {s:Nat} (h:bQ H s v rows):PV.sT v=some (.int .i64 (rows.length:Nat)):=by
 rcases h with ⟨rfl,rfl⟩ | ⟨q,rs,rfl,-⟩<;>rfl
theorem aN.aWO {H:PH} {B:List BX} {e:PV} {ps:WPs} (h:aN H B (dP e ps)) {i:Nat} (hi:i<ps.length) :
  ∃ d rs,e=.osl d 1 0 ps.length∧H d=some (.rows 1 rs)∧rs[i]?=some [ps[i].1]∧i<rs.length:=by
 rcases h.outer with ⟨c,-⟩ | ⟨q,rs,rfl,c,h2,h3⟩
 ·have:(cY ps).length=0:=by rw[c]; rfl
  rw[kX] at this;omega
 ·rw[kX] at h2 h3;refine⟨q,rs,by rw[kX],c,?_,by omega⟩;have:=Rn (ps:=ps) (i:=i) (v:=ps[i].1) (w:=ps[i].2) (by rw[a8K hi]);rw[← h3,List.getElem?_take_of_lt hi] at this;exact this
theorem aN.aRJ {H:PH} {B:List BX} {c:PV} {ps:WPs} (h:aN H B (dP c ps)):PV.sT c=some (.int .i64 (ps.length:Nat)):=by
 have:=h.outer.lenOf
 rwa [kX] at this
theorem uR (ps:WPs):(wls ps).length=ps.length:=a7W _
theorem KP {res:List dV} {F:PF} {H:PH} {c:PV} {ps:WPs} {e:kM} (l:e=.normal∨e=.ret) (h:dV.evs F H res=some [c]) (d:aN H [] (dP c ps)):aV res (bZ (lists (wls ps))) e F H:=by
 obtain⟨φ,q,k1,-,-,-,p,-⟩:=zU ps [] [] .nil d (fun b i=>by cases i);refine yQ l h ⟨_,_,.nil,p _,a_,φ (bP [c]),?_,?_⟩
 ·rw[yS,kD,if_pos rfl]; rfl
 ·exact⟨k1,rfl⟩
def IP (f:aE) (lv:Int) (i:Nat):Bool:=decide (lvl f i=lv)
def BB (f:aE) (lv:Int):List Nat:=(a7X f.a6O.length).filter (IP f lv)
def eE (f:aE) (lv:Int) (i:Nat):Nat:=(a7X i).countP (IP f lv)
def fE (f:aE) (lv:Int) (k:Nat):List Int:=(a7X f.a6O.length).map fun i=>if i<k∧lvl f i=lv then ((eE f lv i:Nat):Int) else 0
def nB (f:aE) (lv:Int) (d i:Nat):List Nat:=(a7X d).filter fun e=>decide (cP f e lv=i)
def oH (f:aE) (lv:Int) (d:Nat):List (List Int):=(BB f lv).map fun i=>bK (nB f lv d i)
theorem d6 (f:aE) {lv:Int} (h:lv≠5):fF f lv=oH f lv f.a6L.length:=by
 unfold fF;rw[if_neg h]; rfl
theorem E4 (f:aE):fF f 5=(a7X f.a6L.length).map fun (d:Nat)=>[(d:Int)]:=by
 unfold fF;rw[if_pos rfl]
theorem anS (f:aE) (lv:Int) (k:Nat):(fE f lv k).length=f.a6O.length:=by unfold fE; simp
theorem Xb (f:aE) (lv:Int):fE f lv 0=a8A f.a6O.length 0:=by
 unfold fE;refine bbE (by simp) fun i c d=>?_;simp
theorem C1 {f:aE} {lv:Int} {k i:Nat} (hi:i<f.a6O.length):(fE f lv k)[i]?=some (if i<k∧lvl f i=lv then ((eE f lv i:Nat):Int) else 0):=by
 unfold fE;rw[a8V,List.getElem?_range hi]; rfl
theorem anR {f:aE} {lv:Int} {k:Nat} (h:lvl f k=lv):(fE f lv k).set k ((eE f lv k:Nat):Int)=fE f lv (k+1):=by
 refine bbE (by simp[fE]) fun i c d=>?_;simp only[fE,List.getElem_set,a9R,List.getElem_range];by_cases e:k=i
 ·subst e; rw[if_pos rfl,if_pos ⟨by omega,h⟩]
 ·rw[if_neg e];have:i<k↔i<k+1:=Om;simp only[this]
theorem Xa {f:aE} {lv:Int} {k:Nat} (h:lvl f k≠lv):fE f lv k=fE f lv (k+1):=by
 refine bbE (by simp[fE]) fun i c d=>?_;simp only[fE,a9R,List.getElem_range];by_cases e:k=i
 ·subst e; rw[if_neg Om,if_neg (fun x=>h x.2)]
 ·have:i<k↔i<k+1:=Om;simp only[this]
theorem aqS {f:aE} {lv:Int} {k:Nat} (h:lvl f k=lv):eE f lv (k+1)=eE f lv k+1:=by
 unfold eE IP;rw[bbI,List.countP_append]; simp[h]
theorem X4 {f:aE} {lv:Int} {k:Nat} (h:lvl f k≠lv):eE f lv (k+1)=eE f lv k:=by
 unfold eE IP;rw[bbI,List.countP_append]; simp[h]
theorem aCL (f:aE) (lv:Int) (k:Nat):eE f lv k≤k:=a9J List.countP_le_length (by simp)
theorem agW {f:aE} {lv:Int} {a:Nat} (c:a<f.a6O.length) (h:lvl f a=lv):(BB f lv)[eE f lv a]?=some a:=atB (q:=IP f lv) c (by rw[IP,decide_eq_true h])
theorem Wj (f:aE) (lv:Int) (d i:Nat):nB f lv (d+1) i=if cP f d lv=i then nB f lv d i++[d] else nB f lv d i:=by
 unfold nB;rw[bbI,List.filter_append];by_cases h:cP f d lv=i<;>simp[h]
theorem j9 (f:aE) (lv:Int) (d i:Nat):(nB f lv d i).length≤d:=a9J (bbT ..) (by simp)
theorem aFL (f:aE) (lv:Int):(BB f lv).Nodup:=List.nodup_range.filter _
theorem aNH {f:aE} {lv:Int} {d:Nat} (B:cP f d lv<f.a6O.length) (h:lvl f (cP f d lv)=lv) {ps:WPs} (q:wls ps=oH f lv d) {v:PV} {w:List Int} (hi:ps[eE f lv (cP f d lv)]?=some (v,w)) (v':PV) :
  w.length≤d∧wls (ps.set (eE f lv (cP f d lv)) (v',w++[(d:Int)]))=oH f lv (d+1):=by
 have l:=agW B h;have u:w=bK (nB f lv d (cP f d lv)):=by
  have c:(wls ps)[eE f lv (cP f d lv)]?=some w:=by unfold wls; rw[a8V,hi]; rfl
  rw[q,oH,a8V,l] at c;injection c with c
  exact c.symm
 refine⟨by rw[u]; unfold bK; rw[a7W]; exact j9 ..,?_⟩;have p:wls (ps.set (eE f lv (cP f d lv)) (v',w++[(d:Int)]))=(oH f lv d).set (eE f lv (cP f d lv)) (w++[(d:Int)]):=by rw[← q];unfold wls;rw[List.map_set]
 rw[p,u];unfold oH;refine bbE (by simp) fun i c p=>?_;have il:i<(BB f lv).length:=by simpa using p
 rw[List.getElem_set];simp only[a9R];rw[Wj];obtain⟨E,x⟩:=a9F.1 l;by_cases e:eE f lv (cP f d lv)=i
 ·subst e;rw[if_pos rfl,x,if_pos rfl];unfold bK;rw[a8W]; rfl
 ·rw[if_neg e,if_neg];intro y;have A:(BB f lv)[eE f lv (cP f d lv)]=(BB f lv)[i]:=x.trans y;exact e ((List.getElem_inj (aFL f lv)).1 A)
def xI (n:Nat):List (List PV):=(a7X n).map fun (d:Nat)=>[ints [(d:Int)]]
theorem Da (n:Nat):(xI n).length=n:=by unfold xI; simp
theorem oq (n:Nat):xI (n+1)=xI n++[[ints [(n:Int)]]]:=by unfold xI; rw[bbI,a8W]; rfl
theorem E0 (f:aE):lay (fF f 5)=.sl 1 (xI f.a6L.length):=by
 rw[E4];unfold xI;show PV.sl 1 (List.map _ (List.map _ _))=_;rw[List.map_map];rfl
theorem X3 (f:aE) (lv:Int):oH f lv 0=a8A (eE f lv f.a6O.length) []:=by
 unfold oH eE;rw[List.countP_eq_length_filter];refine bbE (by simp[BB]) fun i c d=>?_;simp[nB,bK]
theorem qp (f:aE) (lv:Int) (d:Nat):(oH f lv d).length=(BB f lv).length:=by unfold oH; simp
def unB (f:aE) (lv:Int) (c:Nat) (d:PV) (k:Nat):PF:=(((((((PF.nil.set 1 (.int .i64 lv)).set 2 (.bH f.cells)).set 5 (d)).set 7 (.osl c 1 0 f.a6O.length)).set 33 (.sl 7 (f.a6O.map cD.cells))).set 34 (.int .i64 (f.a6O.length:Nat))).set 35 (.int .i64 k))
def unC (f:aE) (lv:Int) (c:Nat) (e:PV) (d:Nat):PF:=(((((((PF.nil.set 1 (.int .i64 lv)).set 2 (.bH f.cells)).set 5 (e)).set 7 (.osl c 1 0 f.a6O.length)).set 54 (.sl 3 (f.a6L.map dH.cells))).set 55 (.int .i64 (f.a6L.length:Nat))).set 56 (.int .i64 d))
def unE (f:aE) (lv:Int) (c:Nat) (e:PV) (d at_:Nat):PF:=(((((((((PF.nil.set 1 (.int .i64 lv)).set 2 (.bH f.cells)).set 5 (e)).set 7 (.osl c 1 0 f.a6O.length)).set 54 (.sl 3 (f.a6L.map dH.cells))).set 55 (.int .i64 (f.a6L.length:Nat))).set 56 (.int .i64 d)).set 10 (.int .i64 d)).set 12 (.int .i64 at_))
theorem asM {C:Ctx} {K:bR} [Up K] (f:aE) (hV:VF f) (lv:Int) (M:1≤lv) (N:lv≤4) (x:Nat) (A:PV) (d:Nat) (J:d<f.a6L.length) {F:PF} {H:PH}
  (E:(unE f lv x A d (dK f d)).le F) (B:K (.exit 6) (unE f lv x A d (cP f d lv)) H):aC.wp C (.loop wO) K F H:=by
 refine wp_loop (α:=Nat) (fun j=>unE f lv x A d (upN f j (dK f d))) (fun _=>H) (fun j=>(j:Int)≤4-lv) (fun j=>4-j) 0 Om (by rw[upN]; exact E) b_ ?_;intro j O;obtain⟨l,y⟩:=GI hV J (k:=j) Om;have p:((upN f j (dK f d):Nat):Int)<(f.a6O.length:Nat):=Om;by_cases c:(j:Int)<4-lv
 ·have i:4-(j:Int)>lv:=Om;have u:0<upN f j (dK f d):=by
   rcases baG (upN f j (dK f d)) with e | e
   ·rw[e,hV.root.2.1] at y; omega
   ·exact e
  have w:upN f (j+1) (dK f d)=KE f (upN f j (dK f d)):=rfl;have q:=hV.xb u l;simp only[go_sem,wO,HC,unE,p,fG l,sX l,y,i,i6,m9 l,q];exact aD (j+1) Om Om (by (repeat' (first|exact c_|refine d_ ?_ ?_))<;>first|(simp only[go_sem,w]<;>rfl)|rfl) b_
 ·have i:¬ 4-(j:Int)>lv:=Om;have e:cP f d lv=upN f j (dK f d):=by rw[cP,show 4-lv.toNat=j by omega]
  rw[e] at B;simp only[go_sem,wO,HC,unE,p,fG l,sX l,y,i];refine Up.up ?_ B;unfold unE;exact Lq
theorem asK {C:Ctx} (f:aE) (hV:VF f) (lv:Int) (h1:1≤lv) (h5:lv≤5) :
  CN.wp C (aV Ke.res (bZ (lay (fF f lv)))) (PF.args [.agg f.cells,.int .i64 lv]) .nil:=by
 have Z:=hV.small;have hd:=Z.a6L;have μ:=Z.a6O;simp only[go_sem,CN,zh,zi,zj,Ke];by_cases c5:lv=5
 ·subst c5;rw[E0];simp only[go_sem,bL (show (5:Int)=5 from rfl),zk,a7W];refine wp_loop (α:=Nat × PV × PH) (fun s=>(((PF.nil.set 5 (s.2.1)).set 17 (.int .i64 (f.a6L.length:Nat))).set 18 (.int .i64 s.1))) (fun s=>s.2.2) (fun s=>s.1≤f.a6L.length∧bQ s.2.2 1 s.2.1 (xI s.1)) (fun s=>f.a6L.length-s.1) (0,.aB,.nil) ⟨a8C _,.nil⟩ Lq b_ ?_;rintro⟨k,v,H⟩ ⟨hk,hO⟩;simp only at hk hO;simp only[go_sem,zg,zl];by_cases hlt:k<f.a6L.length
  ·have e:(k:Int)<(f.a6L.length:Nat):=Om;simp only[go_sem,e,zm,zn];refine fI (src:=[[ints [(k:Int)]]]) hO (by simp only[go_sem]; rfl) (by unfold roomFor; rw[Da]; simp only[a8I,maxLen]; omega) fun v' H' V _=>?_;rw[← oq] at V;simp only[go_sem,zo,wZz k];exact aD (k+1,v',H') ⟨hlt,V⟩ (by simp only; omega) Lq b_
  ·have e:¬ (k:Int)<(f.a6L.length:Nat):=Om;have:k=f.a6L.length:=Om;subst this;simp only[go_sem,e,zp];exact qN (.inr rfl) hO Sq
 have h4:lv≤4:=Om;rw[d6 f c5];have δ:(f.a6O.length:Int)*((8:Nat):Int)≤140737488355328:=Om;have ε:(f.a6O.length:Int)≤9223372036854775807:=Om;have ζ:(0:Int)≤(f.a6O.length:Int):=Om;simp only[go_sem,bF c5,ir,a7W,δ,ε,ζ,Int.le_refl,a9Q];refine aR fun A hP=>?_;have ez:a8A f.a6O.length [PV.int .i64 0]=aY (fE f lv 0):=by rw[Xb,WG]
 rw[ez];have U:aN (PH.nil.set A (.rows 1 (aY (fE f lv 0)))) [(A,.rows 1 (aY (fE f lv 0)))] (dP .aB []):=((aN.nil (H:=PH.nil)).new hP _).tA;simp only[go_sem,it,a7W];refine wp_loop (α:=Nat × PV × WPs × PH) (fun s=>unB f lv A s.2.1 s.1) (fun s=>s.2.2.2) (fun s=>s.1≤f.a6O.length∧wls s.2.2.1=a8A (eE f lv s.1) []∧aN s.2.2.2 [(A,.rows 1 (aY (fE f lv s.1)))] (dP s.2.1 s.2.2.1)) (fun s=>f.a6O.length-s.1) (0,.aB,[],_) ⟨a8C _,rfl,U⟩ (by unfold unB; exact Lq) b_ ?_;clear U ez hP;rintro⟨i,vo,ps,H⟩ ⟨hi,l,p⟩;simp only at hi l p;simp only[go_sem,ip,iu,unB];by_cases hlt:i<f.a6O.length
 ·have e:(i:Int)<(f.a6O.length:Nat):=Om;have ι:ps.length=eE f lv i:=by have:=congrArg List.length l;rw[uR,List.length_replicate] at this;exact this
  have Q:=aCL f lv i;simp only[go_sem,e,iv,fG hlt];refine aR fun q R=>?_;have E:=p.at 0 rfl;have n1:¬ A=q:=by rintro rfl; rw[E] at R; cases R
  have M:=fun x=>p.new R x;simp only[go_sem,iw,sX hlt];by_cases c:lvl f i=lv
  ·have X:=p.aRJ;have B:=C1 (f:=f) (lv:=lv) (k:=i) hlt;have y:(aY (fE f lv i))[i]?=some [.int .i64 (if i<i∧lvl f i=lv then ((eE f lv i:Nat):Int) else 0)]:=by unfold aY; rw[a8V,B]; rfl
   have θ:i<(aY (fE f lv i)).length:=by rw[dC,anS]; exact hlt
   have S:(aY (fE f lv i)).set i [.int .i64 (ps.length:Nat)]=aY (fE f lv (i+1)):=by rw[Az,ι,anR c]
   have h3:=fun x=>(M x).set 0 rfl (.rows 1 (aY (fE f lv (i+1))));simp only[go_sem,bL c,ix,X,e,n1,E,y,θ,a8U,S,iy];refine (h3 _).aRD Sq (by unfold roomFor; simp only[maxLen]; omega) fun q2 H2 h4=>?_;simp only[go_sem,HB,wZz i];refine aD (i+1,PV.osl q2 1 0 (ps.length+1),ps++[(PV.aB,[])],H2) ⟨hlt,?_,h4.sO 1⟩ (by simp only; omega) Lq b_;simp only;rw[aqS c,List.replicate_succ'];unfold wls at l ⊢;rw[a8W,l]; rfl
  ·have S:fE f lv i=fE f lv (i+1):=Xa c;simp only[go_sem,bF c,HB,wZz i];refine aD (i+1,vo,ps,_) ⟨hlt,?_,?_⟩ (by simp only; omega) Lq b_
   ·simp only; rw[X4 c]; exact l
   ·simp only; rw[← S]; exact (M _).sO 1
 have e:¬ (i:Int)<(f.a6O.length:Nat):=Om;have:i=f.a6O.length:=Om;subst this;rw[← X3] at l;simp only[go_sem,e,iz,a7W];refine wp_loop (α:=Nat × PV × WPs × PH) (fun s=>unC f lv A s.2.1 s.1) (fun s=>s.2.2.2) (fun s=>s.1≤f.a6L.length∧wls s.2.2.1=oH f lv s.1∧aN s.2.2.2 [(A,.rows 1 (aY (fE f lv f.a6O.length)))] (dP s.2.1 s.2.2.1)) (fun s=>f.a6L.length-s.1) (0,vo,ps,H) ⟨a8C _,l,p⟩ (by unfold unC; exact Lq) b_ ?_;clear l p hi hlt e;rintro⟨d,vo,ps,H⟩ ⟨η,l,p⟩;simp only at η l p;simp only[go_sem,iq,i0,unC];by_cases hlt:d<f.a6L.length
 ·have e:(d:Int)<(f.a6L.length:Nat):=Om;simp only[go_sem,e,i4,pK hlt];refine aR fun q R=>?_;have E:=p.at 0 rfl;have n1:¬ A=q:=by rintro rfl; rw[E] at R; cases R
  have M:=fun x=>(p.new R x).sO 1;simp only[go_sem,i5,hV.vw hlt];generalize hx:cG.rows 3 _=x;have M:=M x;have N:=M.at 0 rfl;generalize H.set q x=H1 at *
  have up:=fun {K:bR} [Up K] {F:PF} {H:PH}=>asM (C:=C) (K:=K) f hV lv h1 h4 A vo d hlt (F:=F) (H:=H);refine up (by unfold unE; exact Lq) ?_;obtain⟨a1,a2⟩:=GI hV hlt (k:=4-lv.toNat) Om;have a3:lvl f (cP f d lv)=lv:=by rw[cP,a2]; omega
  have a1:cP f d lv<f.a6O.length:=a1;have γ:((cP f d lv:Nat):Int)<(f.a6O.length:Nat):=Om;have B:=C1 (f:=f) (lv:=lv) (k:=f.a6O.length) a1;rw[if_pos ⟨a1,a3⟩] at B;have y:(aY (fE f lv f.a6O.length))[cP f d lv]?=some [.int .i64 (eE f lv (cP f d lv):Nat)]:=by unfold aY; rw[a8V,B]; rfl
  have J:eE f lv (cP f d lv)<ps.length:=by have:=(a9F.1 (agW a1 a3)).1;rw[← uR,l,qp];exact this
  have O:=fun v'=>aNH (ps:=ps) a1 a3 l (a8K J) v';have Q:ps[eE f lv (cP f d lv)]?=some (ps[eE f lv (cP f d lv)].1,ps[eE f lv (cP f d lv)].2):=by rw[a8K J]
  have ν:ps[eE f lv (cP f d lv)]=(ps[eE f lv (cP f d lv)].1,ps[eE f lv (cP f d lv)].2):=rfl;obtain⟨qo,rs,rfl,b1,b2,b3⟩:=M.aWO J;generalize ps[eE f lv (cP f d lv)].2=w at *
  generalize ps[eE f lv (cP f d lv)].1=v at *
  generalize eE f lv (cP f d lv)=u at *
  have β:(u:Int)<(ps.length:Nat):=Om;have ξ:=(O .aB).1;simp only[go_sem,unE];refine bV (PH.nil.set A (.rows 1 (aY (fE f lv f.a6O.length)))) eT (PH.aK a_ N) ?_;simp only[go_sem,i7,γ,N,y,a8U,β,b1,b2,b3];refine M.a0S (src:=[(d:Int)]) Q (by simp only[go_sem]; rfl) (by unfold roomFor; simp only[a8I,maxLen]; omega) (by simp) fun q2 H2 h5=>?_;have Y:=h5.at 0 rfl;refine⟨PH.aK a_ Y,?_⟩;obtain⟨rs2,e1,e2,e3,h6⟩:=h5.aXL;have κ:u<rs2.length:=Om;have W:rs2[u]?=some [v]:=by have:=Rn Q;rw[← e3,List.getElem?_take_of_lt J] at this;exact this
  refine bV .nil eT a_ ?_;simp only[go_sem,i8,e1,κ,W,i9,wZz d];refine⟨a_,?_⟩;refine aD (d+1,PV.osl qo 1 0 ps.length,ps.set u (PV.osl q2 1 0 (w++[(d:Int)]).length,w++[(d:Int)]),H2.set qo (.rows 1 (rs2.set u [.osl q2 1 0 (w++[(d:Int)]).length]))) ⟨hlt,(O _).2,h6⟩ (by simp only; omega) Lq (by simp only; exact b_)
 ·have e:¬ (d:Int)<(f.a6L.length:Nat):=Om;have:d=f.a6L.length:=Om;subst this;simp only[go_sem,e,ja];rw[← l];exact KP (.inr rfl) Sq (p.sO 0)
def J5:List aU:=[
 ⟨(some 2),.box true (.tmp 0),none⟩,
 ⟨(some 3),.box true (.tmp 1),none⟩,
 ⟨(some 4),.mv (.const .aB),none⟩]
def J6:List aU:=[
 ⟨(some 5),.alloc [.aB],none⟩]
def J7:List aU:=[
 ⟨(some 7),.a7O 1 (.tmp 3),none⟩,
 ⟨(some 8),.load none (.tmp 7),none⟩,
 ⟨(some 9),.a7O 2 (.tmp 3),none⟩,
 ⟨(some 10),.load none (.tmp 9),none⟩,
 ⟨(some 11),.bin .add (.tmp 8) (.tmp 10),none⟩,
 ⟨(some 12),.a7O 4 (.tmp 2),none⟩,
 ⟨(some 13),.load none (.tmp 12),none⟩,
 ⟨(some 14),.len (.tmp 13),none⟩,
 ⟨(some 15),.call 210 [(.tmp 11),(.tmp 14)],none⟩]
def J8:List aU:=[
 ⟨(some 6),.mv (.tmp 16),none⟩]
def J9:List aU:=[
 ⟨(some 17),.load (some 7) (.tmp 2),none⟩,
 ⟨(some 18),.load (some 17) (.tmp 3),none⟩,
 ⟨(some 19),.mv (.tmp 6),none⟩,
 ⟨(some 20),.call 201 [(.tmp 17),(.tmp 18),(.tmp 19)],none⟩]
def Ka:List aU:=[
 ⟨(some 21),.load none (.tmp 5),none⟩,
 ⟨(some 22),.mv (.tmp 6),none⟩,
 ⟨(some 23),.a6R true 1 1 [.aB] [(0,(.tmp 22))],none⟩,
 ⟨(some 24),.append 1 24 (.tmp 21) (.tmp 23),none⟩,
 ⟨none,.store 1 (.tmp 5) (.tmp 24),none⟩]
def Kb:List aU:=[
 ⟨(some 25),.load none (.tmp 5),none⟩,
 ⟨(some 4),.mv (.tmp 25),none⟩]
def ze:aC:=(.region J8)
def zf:aC:=(.block 1 (.seq (.region J9) (.cond (.tmp 20) (.region Ka) .skip)))
def io:aC:=(.seq (.region Kb) .ret)
def GZ (c d:Code):pV:=(.seq (.region J5) (.seq (.region J6) (.seq (.region J7) (.range (.tmp 15) 26 16 c d ze zf io))))
def aFC:List Nat:=[2,3,23]
def akH (c d:Code):yV:=⟨2,26,GZ c d,[.tmp 4]⟩
def Jx:List aU:=[
 ⟨(some 2),.box true (.tmp 0),none⟩,
 ⟨(some 3),.box true (.tmp 1),none⟩,
 ⟨(some 4),.mv (.const .aB),none⟩,
 ⟨(some 5),.mv (.const (.int .i64 0)),none⟩]
def Jy:List aU:=[
 ⟨(some 17),.load (some 7) (.tmp 2),none⟩,
 ⟨(some 18),.call 96 [(.tmp 17)],none⟩,
 ⟨(some 19),.bin .neq (.tmp 18) (.const (.int .i64 0)),none⟩,
 ⟨(some 20),.mv (.tmp 19),none⟩,
 ⟨(some 21),.a7O 0 (.tmp 3),(some (20,false))⟩,
 ⟨(some 22),.load none (.tmp 21),(some (20,false))⟩,
 ⟨(some 23),.bin .lss (.tmp 22) (.const (.int .i64 1)),(some (20,false))⟩,
 ⟨(some 24),.pick (.tmp 20) (.const (.bool true)) (.tmp 23),none⟩,
 ⟨(some 25),.mv (.tmp 24),none⟩,
 ⟨(some 26),.a7O 0 (.tmp 3),(some (25,false))⟩,
 ⟨(some 27),.load none (.tmp 26),(some (25,false))⟩,
 ⟨(some 28),.bin .gtr (.tmp 27) (.const (.int .i64 5)),(some (25,false))⟩,
 ⟨(some 29),.pick (.tmp 25) (.const (.bool true)) (.tmp 28),none⟩,
 ⟨(some 30),.mv (.tmp 29),none⟩,
 ⟨(some 31),.a7O 1 (.tmp 3),(some (30,false))⟩,
 ⟨(some 32),.load none (.tmp 31),(some (30,false))⟩,
 ⟨(some 33),.bin .lss (.tmp 32) (.const (.int .i64 1)),(some (30,false))⟩,
 ⟨(some 34),.pick (.tmp 30) (.const (.bool true)) (.tmp 33),none⟩,
 ⟨(some 35),.mv (.tmp 34),none⟩,
 ⟨(some 36),.a7O 1 (.tmp 3),(some (35,false))⟩,
 ⟨(some 37),.load none (.tmp 36),(some (35,false))⟩,
 ⟨(some 38),.bin .gtr (.tmp 37) (.const (.int .i64 3)),(some (35,false))⟩,
 ⟨(some 39),.pick (.tmp 35) (.const (.bool true)) (.tmp 38),none⟩]
def tX:List aU:=[
 ⟨(some 4),.mv (.const .aB),none⟩,
 ⟨(some 5),.mv (.const (.int .i64 1)),none⟩]
def Jz:List aU:=[
 ⟨(some 40),.load (some 7) (.tmp 2),none⟩,
 ⟨(some 41),.a7O 0 (.tmp 3),none⟩,
 ⟨(some 42),.load none (.tmp 41),none⟩,
 ⟨(some 43),.call 206 [(.tmp 40),(.tmp 42)],none⟩,
 ⟨(some 6),.alloc [.aB],none⟩,
 ⟨none,.store 1 (.tmp 6) (.tmp 43),none⟩]
def J0:List aU:=[
 ⟨(some 44),.a7O 4 (.tmp 2),none⟩,
 ⟨(some 45),.load none (.tmp 44),none⟩,
 ⟨(some 46),.len (.tmp 45),none⟩,
 ⟨(some 47),.bin .gtr (.tmp 46) (.const (.int .i64 12)),none⟩,
 ⟨(some 48),.mv (.tmp 47),none⟩,
 ⟨(some 49),.load none (.tmp 6),(some (48,false))⟩,
 ⟨(some 50),.len (.tmp 49),(some (48,false))⟩,
 ⟨(some 51),.a7O 1 (.tmp 3),(some (48,false))⟩,
 ⟨(some 52),.load none (.tmp 51),(some (48,false))⟩,
 ⟨(some 53),.call 207 [(.tmp 50),(.tmp 52)],(some (48,false))⟩,
 ⟨(some 54),.bin .gtr (.tmp 53) (.const (.int .i64 512)),(some (48,false))⟩,
 ⟨(some 55),.pick (.tmp 48) (.const (.bool true)) (.tmp 54),none⟩]
def ZQ:List aU:=[
 ⟨(some 4),.mv (.const .aB),none⟩,
 ⟨(some 5),.mv (.const (.int .i64 2)),none⟩]
def J1:List aU:=[
 ⟨(some 7),.alloc [.aB],none⟩]
def J2:List aU:=[
 ⟨(some 56),.a7O 1 (.tmp 3),none⟩,
 ⟨(some 57),.load none (.tmp 56),none⟩,
 ⟨(some 58),.load none (.tmp 6),none⟩,
 ⟨(some 59),.len (.tmp 58),none⟩,
 ⟨(some 60),.call 210 [(.tmp 57),(.tmp 59)],none⟩]
def J3:List aU:=[
 ⟨(some 8),.mv (.tmp 61),none⟩]
def J4:List aU:=[
 ⟨(some 62),.a7O 4 (.tmp 2),none⟩,
 ⟨(some 63),.load none (.tmp 62),none⟩,
 ⟨(some 64),.len (.tmp 63),none⟩,
 ⟨(some 65),.a6T 1 1 [(.bool false)] (.tmp 64) (.tmp 64),none⟩,
 ⟨(some 9),.mv (.tmp 65),none⟩]
def yu:List aU:=[
 ⟨(some 66),.mv (.tmp 8),none⟩,
 ⟨(some 67),.len (.tmp 66),none⟩,
 ⟨(some 68),.mv (.const (.int .i64 0)),none⟩]
def yv:List aU:=[
 ⟨(some 69),.bin .lss (.tmp 68) (.tmp 67),none⟩]
def yw:List aU:=[
 ⟨(some 70),.a7C 1 (.tmp 66) (.tmp 68),none⟩,
 ⟨(some 71),.load none (.tmp 70),none⟩,
 ⟨(some 11),.mv (.tmp 71),none⟩]
def yx:List aU:=[
 ⟨(some 72),.load none (.tmp 6),none⟩,
 ⟨(some 73),.mv (.tmp 11),none⟩,
 ⟨(some 74),.a7C 1 (.tmp 72) (.tmp 73),none⟩,
 ⟨(some 75),.load none (.tmp 74),none⟩,
 ⟨(some 76),.len (.tmp 75),none⟩,
 ⟨(some 77),.mv (.const (.int .i64 0)),none⟩]
def yy:List aU:=[
 ⟨(some 78),.bin .lss (.tmp 77) (.tmp 76),none⟩]
def yz:List aU:=[
 ⟨(some 79),.a7C 1 (.tmp 75) (.tmp 77),none⟩,
 ⟨(some 80),.load none (.tmp 79),none⟩,
 ⟨(some 13),.mv (.tmp 80),none⟩]
def y6:List aU:=[
 ⟨(some 81),.mv (.tmp 9),none⟩,
 ⟨(some 82),.mv (.tmp 13),none⟩,
 ⟨(some 83),.a7C 1 (.tmp 81) (.tmp 82),none⟩,
 ⟨none,.store 1 (.tmp 83) (.const (.bool true)),none⟩]
def y7:List aU:=[
 ⟨(some 84),.bin .add (.tmp 77) (.const (.int .i64 1)),none⟩,
 ⟨(some 77),.mv (.tmp 84),none⟩]
def OX:aC:=(.seq (.region yy) (.seq (.cond (.tmp 78) .skip (.exit 4)) (.seq (.block 5 (.seq (.region yz) (.region y6))) (.region y7))))
def y8:List aU:=[
 ⟨(some 85),.bin .add (.tmp 68) (.const (.int .i64 1)),none⟩,
 ⟨(some 68),.mv (.tmp 85),none⟩]
def OY:aC:=(.seq (.region yv) (.seq (.cond (.tmp 69) .skip (.exit 2)) (.seq (.block 3 (.seq (.region yw) (.seq (.region yx) (.block 4 (.loop OX))))) (.region y8))))
def y9:List aU:=[
 ⟨(some 14),.mv (.const .aB),none⟩]
def za:List aU:=[
 ⟨(some 86),.mv (.tmp 9),none⟩,
 ⟨(some 87),.len (.tmp 86),none⟩,
 ⟨(some 88),.mv (.const (.int .i64 0)),none⟩]
def zb:List aU:=[
 ⟨(some 89),.bin .lss (.tmp 88) (.tmp 87),none⟩]
def PA:List aU:=[
 ⟨(some 90),.mv (.tmp 88),none⟩,
 ⟨(some 91),.a7C 1 (.tmp 86) (.tmp 88),none⟩,
 ⟨(some 92),.load none (.tmp 91),none⟩,
 ⟨(some 15),.mv (.tmp 90),none⟩,
 ⟨(some 16),.mv (.tmp 92),none⟩]
def PB:List aU:=[
 ⟨(some 93),.mv (.tmp 16),none⟩]
def zc:List aU:=[
 ⟨(some 94),.mv (.tmp 14),none⟩,
 ⟨(some 95),.mv (.tmp 15),none⟩,
 ⟨(some 96),.a6R true 1 1 [(.int .i64 0)] [(0,(.tmp 95))],none⟩,
 ⟨(some 97),.append 1 8 (.tmp 94) (.tmp 96),none⟩,
 ⟨(some 14),.mv (.tmp 97),none⟩]
def PC:List aU:=[
 ⟨(some 98),.bin .add (.tmp 88) (.const (.int .i64 1)),none⟩,
 ⟨(some 88),.mv (.tmp 98),none⟩]
def OZ:aC:=(.seq (.region zb) (.seq (.cond (.tmp 89) .skip (.exit 6)) (.seq (.block 7 (.seq (.region PA) (.seq (.region PB) (.cond (.tmp 93) (.region zc) .skip)))) (.region PC))))
def PD:List aU:=[
 ⟨(some 99),.load none (.tmp 7),none⟩,
 ⟨(some 100),.mv (.tmp 14),none⟩,
 ⟨(some 101),.a6R true 1 1 [.aB] [(0,(.tmp 100))],none⟩,
 ⟨(some 102),.append 1 24 (.tmp 99) (.tmp 101),none⟩,
 ⟨none,.store 1 (.tmp 7) (.tmp 102),none⟩]
def zd:List aU:=[
 ⟨(some 103),.load none (.tmp 7),none⟩,
 ⟨(some 4),.mv (.tmp 103),none⟩,
 ⟨(some 5),.mv (.const (.int .i64 0)),none⟩]
def OV:aC:=(.region J3)
def OW:aC:=(.block 1 (.seq (.region J4) (.seq (.seq (.region yu) (.block 2 (.loop OY))) (.seq (.region y9) (.seq (.seq (.region za) (.block 6 (.loop OZ))) (.region PD))))))
def im:aC:=(.seq (.region zd) .ret)
def GY (c d:Code):pV:=(.seq (.region Jx) (.seq (.seq (.region Jy) (.cond (.tmp 39) (.seq (.region tX) .ret) .skip)) (.seq (.region Jz) (.seq (.seq (.region J0) (.cond (.tmp 55) (.seq (.region ZQ) .ret) .skip)) (.seq (.region J1) (.seq (.region J2) (.range (.tmp 60) 104 61 c d OV OW im)))))))
def aFA:List Nat:=[2,3,96,101]
def akG (c d:Code):yV:=⟨2,104,GY c d,[.tmp 4,.tmp 5]⟩
theorem atW {C:Ctx} {H:PH} {name:Nat} {pre:List PV} {v u:PV} {l:List Int} (w:Plain u) (p:∀ x∈pre,Fx x) (i:bQ H 1 v (aY l)) (c:l≠[]) (h:aH C name (pre++[ints l]) .nil (aF u)) :
  ∃ q,v=.osl q 1 0 l.length∧(∃ x,H q=some x)∧aH C name (pre++[v]) (H.only [q]) (fun r H'=>r=u∧H'=H.only [q]):=by
 rcases i with ⟨d,-⟩ | ⟨q,rs,rfl,h1,h2,h3⟩
 ·exact absurd (List.map_eq_nil_iff.1 d) c
 ·rw[dC] at h2 h3 ⊢;refine⟨q,rfl,⟨_,h1⟩,?_⟩;rw[de h1];refine aH.aGT w ?_;have e:pre.map (PV.frz q 1 rs)=pre:=by
   conv=>rhs; rw[← List.map_id pre]
   exact bbR fun x y=>p x y q 1 rs
  rw[a8W,e,a9L,baF,uA h2,h3];exact h
theorem yI {α:Type} (L:List α) (x:α) (n:Nat) (h:L.length=n):(L++[x])[n]?=some x:=by
 subst h; simp
theorem BO (c:PV) (ps:WPs):(dP c ps).length=ps.length+1:=by unfold dP mO; simp
structure aVI (f:aE) (now:List (List Int)) (r:Int) (d:Nat) (ps:WPs):Prop where
 eq:wls ps=rz f now r d
 num:ps.length≤d
 len:∀ i (h:i<ps.length),1≤(ps[i].2).length∧(ps[i].2).length≤d
theorem aVI.of {f:aE} {c:List (List Int)} {r:Int} (q:arV f c r=true) {d:Nat} (u:d≤f.a6L.length) {ps:WPs} (h:wls ps=rz f c r d):aVI f c r d ps:=by
 have k:=Ga q d u;rw[← h] at k;have e:∀ i (h:i<ps.length),ps[i].2∈wls ps:=fun i hi=>a8Z.2 ⟨ps[i],a7Z hi,rfl⟩;have ne:∀ l∈wls ps,1≤l.length:=fun l y=>by
  have:=k.ok l y;unfold TZ at this;cases l with
  | nil=>cases this
  | cons x xs=>rw[a9O]; omega
 refine⟨h,?_,fun i hi=>⟨ne _ (e i hi),?_⟩⟩
 ·have p:(wls ps).length≤(wls ps).flatten.length:=by
   generalize wls ps=w at ne
   induction w with
   | nil=>exact a8D _
   | cons l w B =>have:=B fun x A=>ne x (List.mem_cons_of_mem _ A);have:=ne l (by simp);rw[List.flatten_cons,a8E,a9O];omega
  rw[uR,k.len] at p;exact p
 ·have:=(List.sublist_flatten_of_mem (e i hi)).length_le;rw[k.len] at this;exact this
def aVG (n top:Int) (r:PV) (H':PH):Prop:=∃ o1 o2,o1≠o2∧r=.fn 211 [.ptr o1 1 0 0,.ptr o2 1 0 0]∧H'=(PH.nil.set o1 (.rows 1 [[.int .i64 n]])).set o2 (.rows 1 [[.int .i64 top]])
theorem aFD {C:Ctx} (n top:Int):HA.wp C (aV akI.res (aVG n top)) (PF.args [.int .i64 n,.int .i64 top]) .nil:=by
 simp only[go_sem,HA,Kc,akI];refine aR fun o1 e=>?_;simp only[go_sem];refine aR fun o2 c=>?_;have d:o1≠o2:=by rintro rfl; simp only[cO] at c; cases c
 simp only[go_sem,Kd];exact bA (.inr rfl) _ (vs:=[.fn 211 [.ptr o1 1 0 0,.ptr o2 1 0 0]]) Sq b_ ⟨o1,o2,d,rfl,rfl⟩
structure fm (C:Ctx):Prop extends ajC C where
 subs:∀ n top:Int,aH C 210 [.int .i64 n,.int .i64 top] .nil (aVG n top)
 iter:∀ (l o1 o2 n top:Nat) (J:Nat→PH→Prop) (ss:List (List Nat)),ss=cQ top n 0→1≤n→n≤1000→top≤1000 →
  (∀ k (hk:k<ss.length) G c,J k G→G c=none→FG C l [.osl c 1 0 n] (G.set c (.rows 1 (aY (bK ss[k])))) (fun r H'=>r=.bool true∧J (k+1) H')) →
  ∀ G0 H:PH,J 0 G0→G0.le H→H o1=some (.rows 1 [[.int .i64 n]])→H o2=some (.rows 1 [[.int .i64 top]])→G0 o1=none→G0 o2=none→aH C 211 [wE l,.ptr o1 1 0 0,.ptr o2 1 0 0] H (fun _ H'=>∃ G,J ss.length G∧G.le H')
theorem ka {C:Ctx} (Lb:fm C) {F:PF} {H:PH} {n m t o1 o2 top:Nat} {d i:Code} {O Q:aC} {A:List (List Nat)} (X:A=cQ top n 0) (h1:1≤n) (hn:n≤1000) (ht:top≤1000) (α:o1≠o2)
  (I:Nat→PH→Prop) (u:PH) (hI:I 0 u) (N:u.le H) (b1:H o1=some (.rows 1 [[.int .i64 n]])) (b2:H o2=some (.rows 1 [[.int .i64 top]])) (g1:u o1=none) (g2:u o2=none)
  (hY:∀ (l:Nat) (x:PV) (J:PH) (Y:PH→Prop),J l=none→O.wp C (gG C (Q.wp C) (BD Y)) (F.set t x) J→FG C l [x] (J.set l (.loop F m t d i)) (fun r H'=>r=.bool true∧∃ H2,Y H2∧H2 l=none∧H'=H2.set l (.loop F m t d i)))
  (hb:∀ k (Z:k<A.length) G c,I k G→G c=none→O.wp C (gG C (Q.wp C) (BD (I (k+1)))) (F.set t (.osl c 1 0 n)) (G.set c (.rows 1 (aY (bK A[k]))))) :
  Ix C 211 [.ptr o1 1 0 0,.ptr o2 1 0 0] F H m t d i (I A.length):=by
 intro l R;have E:u l=none:=by
  cases h:u l with
  | none=>rfl
  | some x=>rw[N l x h] at R; cases R
 have n1:¬ o1=l:=fun e=>by rw[e,R] at b1; cases b1
 have n2:¬ o2=l:=fun e=>by rw[e,R] at b2; cases b2
 refine (Lb.iter l o1 o2 n top (fun k G=>∃ p,I k p∧p l=none∧G=p.set l (.loop F m t d i)) A X h1 hn ht ?_ (u.set l (.loop F m t d i)) (H.set l (.loop F m t d i)) ⟨u,hI,E,rfl⟩ ?_ ?_ ?_ ?_ ?_).post ?_
 ·rintro k Z G c ⟨p,B,q,rfl⟩ U;have K:¬ c=l:=fun e=>by rw[e,cO] at U; cases U
  have M:¬ l=c:=fun e=>K e.symm;have V:p c=none:=by rwa [aT,if_neg K] at U
  have:=hY l (.osl c 1 0 n) (p.set c (.rows 1 (aY (bK A[k])))) (I (k+1)) (by rw[aT,if_neg M]; exact q) (hb k Z p c B V);have e:(p.set c (.rows 1 (aY (bK A[k])))).set l (.loop F m t d i)=(p.set l (.loop F m t d i)).set c (.rows 1 (aY (bK A[k]))):=by
   refine PH.ext fun o=>?_;simp only[aT];by_cases S:o=l
   ·subst S; rw[if_pos rfl,if_neg M,if_pos rfl]
   ·rw[if_neg S,if_neg S]
  rw[e] at this;exact this
 ·intro o x y;rw[aT] at y ⊢;split at y
  ·rename_i e; rw[if_pos e]; exact y
  ·rename_i e; rw[if_neg e]; exact N o x y
 ·rw[aT,if_neg n1]; exact b1
 ·rw[aT,if_neg n2]; exact b2
 ·rw[aT,if_neg n1]; exact g1
 ·rw[aT,if_neg n2]; exact g2
 ·rintro r H' ⟨G,⟨p,B,q,rfl⟩,w⟩;have W:H' l=some (.loop F m t d i):=w l _ (by rw[cO]);exact⟨r,.refl _,p,B,(fun o x y=>w o x (by
   have:¬ o=l:=fun e=>by rw[e,q] at y; cases y
   rw[aT,if_neg this]; exact y)),q,W⟩
def aOD (d:Nat) (e:List (List Int)) (G:PH):Prop:=∃ c ps,aN G [(d,.rows 1 [[c]])] (dP c ps)∧wls ps=e
theorem aFB {C:Ctx} (Lb:fm C) (J K:Code) (f:aE) (hV:VF f) (hd:f.a6L.length≤12) (p:bS) (hp:∀ m∈p.a6M,0≤m∧m<f.a6M.length) (S:Fits p.a6M) (hk:1≤p.k) (ν:p.k≤6) (hm:0≤p.m) (ξ:p.m≤4) :
  (GZ J K).wp C (aV (akH J K).res (bZ (lay (nZ f p)))) (PF.args [.agg f.cells,.agg p.cells]) .nil:=by
 obtain⟨n,hn⟩:∃ n:Nat,(n:Int)=fY p:=⟨(p.k+p.m).toNat,by unfold fY; omega⟩;have β:1≤n∧n≤10:=by unfold fY at hn; omega
 have hw:IntKind.i64.wrap (p.k+p.m)=(n:Int):=by rw[hn]; exact wrap_i64 Om Om
 simp only[go_sem,GZ,pV.wp,J5,J6,akH];refine aR fun B γ=>?_;simp only[go_sem,J7,hw,a7W];refine kU (Lb.subs n f.a6L.length) Sq a_ ?_;rintro r H' ⟨o1,o2,l,rfl,rfl⟩ R;have W:¬ B=o1:=fun e=>by have:=R o1 _ (by rw[aT,if_neg l,cO]) rfl;rw[← e,cO] at this; cases this
 have X:¬ B=o2:=fun e=>by have:=R o2 _ (by rw[cO]) rfl;rw[← e,cO] at this; cases this
 have κ:¬ o2=o1:=fun e=>l e.symm;simp only[go_sem];generalize N:PF.set _ 15 _=F;have f2:F 2=some (.bH f.cells):=by rw[← N]; simp only[go_sem]
 have f3:F 3=some (.bH p.cells):=by rw[← N]; simp only[go_sem]
 have f5:F 5=some (.ptr B 1 0 0):=by rw[← N]; simp only[go_sem]
 have μ:F 15=some (.fn 211 [.ptr o1 1 0 0,.ptr o2 1 0 0]):=by rw[← N]; simp only[go_sem]
 clear N;have ε:cQ f.a6L.length n 0=cQ f.a6L.length (fY p).toNat 0:=by rw[← hn]; rfl
 have Q:=mQ f.a6L.length n 0;have hE:nZ f p=((cQ f.a6L.length n 0).map bK).filter (lP f p):=by rw[ε]; rfl
 refine⟨211,[.ptr o1 1 0 0,.ptr o2 1 0 0],aOD B (((((cQ f.a6L.length n 0).take (cQ f.a6L.length n 0).length)).map bK).filter (lP f p)),rfl,fun hY=>?_,fun H2 O=>?_⟩
 ·refine ka (m:=26) (t:=16) Lb rfl β.1 Om Om l (fun k=>aOD B ((((cQ f.a6L.length n 0).take k).map bK).filter (lP f p))) (PH.nil.set B (.rows 1 [[.aB]])) ⟨.aB,[],((aN.nil (H:=PH.nil)).new γ _).tA,rfl⟩ ?_ ?_ ?_ ?_ ?_ hY ?_
  ·intro o x Z;rw[aT] at Z;split at Z
   ·rename_i e;rw[gV]; simp only[aT,e,if_neg W,if_neg X,UW,if_true];exact Z
   ·cases Z
  ·rw[gV]; simp only[aT,if_neg l,if_true]
  ·rw[gV]; simp only[aT,if_true]
  ·rw[aT,if_neg (fun e=>W e.symm)]; rfl
  ·rw[aT,if_neg (fun e=>X e.symm)]; rfl
  rintro k hk G c ⟨vo,ps,E,w⟩ hc;have δ:=Q _ (a7Z hk);have ζ:(cQ f.a6L.length n 0).take (k+1)=(cQ f.a6L.length n 0).take k++[(cQ f.a6L.length n 0)[k]]:=a9U hk;generalize (cQ f.a6L.length n 0)[k]=s at *
  obtain⟨sl,Y,-⟩:=δ;have i:((((cQ f.a6L.length n 0).take (k+1)).map bK).filter (lP f p))=wls ps++if lP f p (bK s) then [bK s] else []:=by rw[ζ,a8W,List.filter_append,w];congr 1;by_cases c:lP f p (bK s)<;>simp[c]
  have U:(aY (bK s)).length=n:=by rw[dC,eK,sl]
  have M:=E.anF (s:=1) (rows:=aY (bK s)) hc;have hO:bQ (G.set c (.rows 1 (aY (bK s)))) 1 (.osl c 1 0 n) (aY (bK s)):=by
   have:=M.own ((dP vo ps).length) (yI _ _ _ rfl)
   rwa [U] at this
  have ο:ps.length≤4096:=by
   rw[← uR,w];refine a9J (bbT ..) ?_;rw[a7W,a8Q];have h1:=pS f.a6L.length n 0;have M:2 ^ (f.a6L.length-0)≤2 ^ 12:=baW Om Om;have e:(2:Nat) ^ 12=4096:=by decide
   omega
  have d:=Lb.adm f p (bK s) hV hp S ⟨by rw[eK]; omega,fun x V=>by obtain⟨y,hy,rfl⟩:=a8Z.1 V;have:=Y y hy;omega⟩;obtain⟨q,e1,V,d⟩:=atW (C:=C) (name:=201) (pre:=[.agg f.cells,.agg p.cells]) (u:=.bool (lP f p (bK s))) (.bool _) (fun x V=>by
   simp only[a8J,a8R,or_false] at V;rcases V with rfl | rfl
   ·exact fun _ _ _=>rfl
   ·exact fun _ _ _=>rfl) hO (fun e=>by have:=congrArg List.length e; rw[eK,sl] at this; simp at this; omega) d
  have eq:c=q:=by injection e1
  subst eq;have ι:=M.at 0 rfl;have θ:¬ B=c:=fun e=>by have:=E.at 0 rfl; rw[e,hc] at this; cases this
  simp only[go_sem,ze,J8,zf,J9,f2,f3];refine arF (cs:=[]) (vs:=[.agg f.cells,.agg p.cells,.osl c 1 0 n]) (by rw[a9W]; exact d) Sq (VE _ _) ?_;cases A:lP f p (bK s) with
  | true =>
   rw[A,if_pos rfl] at i;simp only[go_sem,Ka,f5,θ,E.at 0 rfl];refine M.append 0 (rows:=cY ps) (src:=[[.osl c 1 0 n]]) rfl Sq (by unfold roomFor; rw[kX]; simp only[a8I,maxLen]; omega) fun v' H' h3 η=>?_;obtain⟨q2,rfl⟩:=η (by simp);have α:=h3.at 0 rfl;have h4:=h3.set 0 rfl (cG.rows 1 [[PV.osl q2 1 0 (cY ps++[[PV.osl c 1 0 n]]).length]]);simp only[go_sem,α,f5,a8J,a8R,or_false,forall_eq];refine⟨PV.osl q2 1 0 (cY ps++[[PV.osl c 1 0 n]]).length,ps++[(.osl c 1 0 n,bK s)],?_,?_⟩
   ·have e:dP (.osl q2 1 0 (cY ps++[[PV.osl c 1 0 n]]).length) (ps++[(PV.osl c 1 0 n,bK s)])=((dP vo ps)++[(PV.osl c 1 0 (aY (bK s)).length,1,aY (bK s))]).set 0 (.osl q2 1 0 (cY ps++[[PV.osl c 1 0 n]]).length,1,cY ps++[[PV.osl c 1 0 n]]):=by rw[U];unfold dP cY mO;rw[a8W,a8W];rfl
    rw[e];exact h4
   ·rw[i];unfold wls;rw[a8W]; rfl
  | false =>rw[A,if_neg (by decide),a9W] at i;simp only[go_sem];exact⟨vo,ps,M.sub (baA.refl _) (List.sublist_append_left ..),i.symm⟩
 ·rw[a8Y,← hE] at O;obtain⟨vo,ps,E,w⟩:=O;have hb:=E.at 0 rfl;simp only[go_sem,io,Kb,f5,hb];rw[← w];exact KP (.inr rfl) Sq (E.sO 0)
def pD (f:aE) (a6X:Int):Int:=if gR f a6X then (if f.a6L.length>12 then 2 else 0) else 1
def sI (f:aE) (a6X:Int):List (List Int):=if pD f a6X=0 then nZ f (fV f a6X) else []
structure Iu (C:Ctx):Prop extends fm C where
 sets:∀ (f:aE) (p:bS),VF f→f.a6L.length≤12→(∀ m∈p.a6M,0≤m∧m<f.a6M.length)→Fits p.a6M→1≤p.k→p.k≤6→0≤p.m→p.m≤4→aH C 229 [.agg f.cells,.agg p.cells] .nil (aF (lay (nZ f p)))
def cyS (r:PV):Spec:=fun _ _=>some ([],fun _=>aF r)
theorem asC {C:Ctx} (w:Iu C) (f:aE) (x:f.Ok) (a6X:Int) :
  CK.wp C (aV call17.res (bZ (.tup [lay (sI f a6X),.int .i64 (pD f a6X)]))) (PF.args [.agg f.cells,.int .i64 a6X]) .nil:=by
 have hB:sI f a6X=if pD f a6X=0 then nZ f (fV f a6X) else []:=rfl
 have e:pD f a6X=if gR f a6X then (if f.a6L.length>12 then 2 else 0) else 1:=rfl
 simp only[go_sem,CK,yf,yg,call17];refine aA (w.known f a6X x) Ev ?_;cases q:gR f a6X with
 | false =>rw[q,if_neg (by decide)] at e;rw[e,if_neg (by decide)] at hB;rw[hB,e];simp only[go_sem,a8N,yh];exact nK (.inr rfl) Sq (aN.tA aN.nil)
 | true =>
  rw[q,if_pos rfl] at e;obtain⟨hV,y,B,A⟩:=nS q;obtain⟨p,u⟩:=nJ q;have d:=hV.a6X _ p;have l:=(x.a6X _ p).a6M;have i:(f.a6P.map bS.cells)[a6X.toNat]?=some (fV f a6X).cells:=by rw[a8V,u]; rfl
  have hlt:a6X<(f.a6P.length:Nat):=Om;by_cases c:f.a6L.length>12
  ·rw[if_pos c] at e;rw[e,if_neg (by decide)] at hB;rw[hB,e];simp only[go_sem,a8B,ON,a7W,show (f.a6L.length:Int)>12 by omega,yi];exact nK (.inr rfl) Sq (aN.tA aN.nil)
  ·rw[if_neg c] at e;rw[e,if_pos rfl] at hB;rw[hB,e];simp only[go_sem,a8B,ON,a7W,show ¬ (f.a6L.length:Int)>12 by omega];refine bV .nil (cyS (lay (nZ f (fV f a6X)))) a_ ?_;simp only[go_sem,yj,y,hlt,a7W,i];refine bO rfl (w.sets f (fV f a6X) hV Om d.2.2.2.2.2.2.2 l d.1 d.2.1 d.2.2.1 d.2.2.2.1) Sq a_ ?_;simp only[go_sem];exact bA (.inr rfl) .nil (vs:=[lay (nZ f (fV f a6X)),.int .i64 0]) Sq a_ (aF.aXG ⟨rfl,rfl⟩)
structure UOk (n:Nat) (U:List (List Int)):Prop where
 len:U.length≤1000
 at_:∀ u∈U,u.length≤1000∧∀ d∈u,0≤d∧d<n
def nI (U:List (List Int)) (s:List Nat):List Int:=s.flatMap fun i=>U.getD i []
theorem Ue (U:List (List Int)) (s:List Nat) {i:Nat} (h:i<s.length):nI U (s.take (i+1))=nI U (s.take i)++U.getD s[i] []:=by
 unfold nI;rw[a9U h,List.flatMap_append]; simp
theorem X5 (U:List (List Int)) (s:List Nat) (d:Nat):(nI U s).contains (d:Int)=jF U s d:=by
 unfold nI jF
 induction s with
 | nil=>rfl
 | cons i s c=>rw[List.flatMap_cons,List.contains_append,c,List.any_cons]
theorem asJ {C:Ctx} {K:bR} [Up K] (W V q c nd n i:Nat) (E:PV) (u:List Int) (β:u.length≤1000) (hu:∀ d∈u,0≤d∧d<nd) (l:List Int) {F:PF} {H:PH} {B:List BX} {L:List LI}
  (w:aN H B L) (b:Nat) (Y:B[b]?=some (q,.rows 1 (dJ (marks nd l))))
  (Z:(((((((((((PF.nil.set 2 (E)).set 6 (.ptr W 1 0 0)).set 7 (.ptr V 1 0 0)).set 9 (.osl q 1 0 nd)).set 66 (.osl c 1 0 n)).set 67 (.int .i64 n)).set 68 (.int .i64 i)).set 75 (ints u)).set 76 (.int .i64 (u.length:Nat))).set 77 (.int .i64 0))).le F)
  (hK:∀ H',aN H' (B.set b (q,.rows 1 (dJ (marks nd (l++u))))) L→K (.exit 4) ((((((((PF.nil.set 2 (E)).set 6 (.ptr W 1 0 0)).set 7 (.ptr V 1 0 0)).set 9 (.osl q 1 0 nd)).set 66 (.osl c 1 0 n)).set 67 (.int .i64 n)).set 68 (.int .i64 i))) H') :
  aC.wp C (.loop OX) K F H:=by
 refine wp_loop (α:=Nat × PH) (fun s=>((((((((((PF.nil.set 2 (E)).set 6 (.ptr W 1 0 0)).set 7 (.ptr V 1 0 0)).set 9 (.osl q 1 0 nd)).set 66 (.osl c 1 0 n)).set 67 (.int .i64 n)).set 68 (.int .i64 i)).set 75 (ints u)).set 76 (.int .i64 (u.length:Nat))).set 77 (.int .i64 s.1))) (fun s=>s.2) (fun s=>s.1≤u.length∧aN s.2 (B.set b (q,.rows 1 (dJ (marks nd (l++u.take s.1))))) L) (fun s=>u.length-s.1) (0,H) ⟨a8C _,?_⟩ Z b_ ?_
 ·rw[List.take_zero,a9W];have e:B.set b (q,.rows 1 (dJ (marks nd l)))=B:=by obtain⟨h1,A⟩:=a9F.1 Y;rw[← A,List.set_getElem_self]
  rw[e]; exact w
 rintro⟨j,X⟩ ⟨hj,w⟩;simp only at hj w;have J:b<B.length:=(a9F.1 Y).1;have x:(B.set b (q,cG.rows 1 (dJ (marks nd (l++u.take j)))))[b]?=some (q,.rows 1 (dJ (marks nd (l++u.take j)))):=List.getElem?_set_self J;simp only[go_sem,OX,yy];by_cases hlt:j<u.length
 ·have p:(j:Int)<(u.length:Nat):=Om;have Q:(u.map fun n=>[PV.int .i64 n])[j]?=some [.int .i64 u[j]]:=by simp[hlt]
  obtain⟨S,U⟩:=hu _ (a7Z hlt);have R:u.take (j+1)=u.take j++[u[j]]:=a9U hlt;have N:(u[j]).toNat<(dJ (marks nd (l++u.take j))).length:=by rw[AW,QK]; omega
  have M:(dJ (marks nd (l++u.take j)))[(u[j]).toNat]?=some [.bool ((l++u.take j).contains u[j])]:=by unfold dJ;rw[a8V,zR S U]; rfl
  have O:=w.at b x;have A:=w.set b x (.rows 1 (dJ (marks nd (l++u.take (j+1)))));rw[List.set_set] at A;have y:=QL (l:=l++u.take j) S U;rw[a9G,← R] at y;simp only[go_sem,p,yz,Q,y6,S,U,a8U,O,M,N,jX,y,y7,wZz j];exact aD (j+1,X.set q (.rows 1 (dJ (marks nd (l++u.take (j+1)))))) ⟨hlt,A⟩ (by simp only; omega) Lq b_
 ·have p:¬ (j:Int)<(u.length:Nat):=Om;have:j=u.length:=Om;subst this;rw[a8Y] at w;simp only[go_sem,p];exact Up.up Lq (hK X w)
def scB (d i c e:Nat) (p:PV) (U:List (List Int)) (s:List Nat) (nd:Nat) (l:List Int):List BX:=[(d,.rows 1 [[p]]),(i,.rows 1 [[lay U]]),(c,.rows 1 (aY (bK s))),(e,.rows 1 (dJ (marks nd l)))]
theorem Wb {C:Ctx} {K:bR} [Up K] (w p q c nd n:Nat) (A S:PV) (U:List (List Int)) (Z:UOk nd U) (s:List Nat) (hs:s.length=n) (O:∀ x∈s,x<U.length) (hn:n≤1000) {F:PF} {H:PH} {L:List LI}
  (l:aN H (scB p w c q S U s nd []) L)
  (X:((((((((PF.nil.set 2 (A)).set 6 (.ptr w 1 0 0)).set 7 (.ptr p 1 0 0)).set 9 (.osl q 1 0 nd)).set 66 (.osl c 1 0 n)).set 67 (.int .i64 n)).set 68 (.int .i64 0))).le F)
  (Y:∀ H',aN H' (scB p w c q S U s nd (nI U s)) L→K (.exit 2) (((((PF.nil.set 2 (A)).set 6 (.ptr w 1 0 0)).set 7 (.ptr p 1 0 0)).set 9 (.osl q 1 0 nd))) H') :
  aC.wp C (.loop OY) K F H:=by
 refine wp_loop (α:=Nat × PH) (fun t=>(((((((PF.nil.set 2 (A)).set 6 (.ptr w 1 0 0)).set 7 (.ptr p 1 0 0)).set 9 (.osl q 1 0 nd)).set 66 (.osl c 1 0 n)).set 67 (.int .i64 n)).set 68 (.int .i64 t.1))) (fun t=>t.2) (fun t=>t.1≤s.length∧aN t.2 (scB p w c q S U s nd (nI U (s.take t.1))) L) (fun t=>s.length-t.1) (0,H) ⟨a8C _,l⟩ X b_ ?_;rintro⟨i,W⟩ ⟨hi,l⟩;simp only at hi l;simp only[go_sem,OY,yv];by_cases hlt:i<s.length
 ·have d:(i:Int)<(n:Nat):=Om;have hc:=l.at 2 rfl;have N:=l.at 1 rfl;have J:=uG hlt;have M:i<(aY (bK s)).length:=by rw[dC,eK]; exact hlt
  have Q:=O s[i] (a7Z hlt);have R:((s[i]:Nat):Int)<(U.length:Nat):=Om;have e:=Ue U s hlt;have y:=Z.at_ U[s[i]] (a7Z Q);have E:U.getD s[i] []=U[s[i]]:=by simp[a8P,Q]
  have B:(U.map fun r=>[ints r])[s[i]]?=some [ints U[s[i]]]:=by simp[Q]
  rw[E] at e;generalize U[s[i]]=u at *
  generalize s[i]=x at *
  simp only[go_sem,d,yw,hc,J,M,a8U,yx,N,R,a7W,B];have one:=fun {K:bR} [Up K] {F:PF}=>asJ (C:=C) (K:=K) w p q c nd n i A u y.1 y.2 (nI U (s.take i)) (F:=F) l 3 rfl;refine one (by (repeat' (first|exact c_|refine d_ ?_ ?_))<;>first|(simp only[go_sem,a7W]<;>rfl)|rfl) fun H' V=>?_;rw[← e] at V;simp only[go_sem,y8,wZz i];exact aD (i+1,H') ⟨hlt,V⟩ (by simp only; omega) Lq b_
 ·have d:¬ (i:Int)<(n:Nat):=Om;have:i=s.length:=Om;subst this;rw[a8Y] at l;simp only[go_sem,d];exact Up.up Lq (Y W l)
def scD (l:List Int) (k:Nat):List Int:=bK ((a7X k).filter fun d=>l.contains (d:Int))
theorem aJG (l:List Int) (k:Nat):scD l (k+1)=if l.contains (k:Int) then scD l k++[(k:Int)] else scD l k:=by
 unfold scD;rw[bbI,List.filter_append,P5];by_cases h:l.contains (k:Int)
 ·rw[if_pos h]; simp[bK] at h ⊢; simp[h]
 ·rw[if_neg h]; simp[bK] at h ⊢; simp[h]
theorem aSX (l:List Int) (k:Nat):(scD l k).length≤k:=by
 unfold scD;rw[eK];exact a9J (bbT ..) (by simp)
theorem Jw {C:Ctx} {K:bR} [Up K] (u q A c nd:Nat) (V:nd≤1000) (B E:PV) (U:List (List Int)) (s:List Nat) (l:List Int) {F:PF} {H:PH} {L:List LI}
  (i:aN H (scB q u c A E U s nd l) L)
  (Q:((((((((PF.nil.set 2 (B)).set 6 (.ptr u 1 0 0)).set 7 (.ptr q 1 0 0)).set 14 (.aB)).set 86 (.osl A 1 0 nd)).set 87 (.int .i64 nd)).set 88 (.int .i64 0))).le F)
  (R:∀ v H',aN H' (scB q u c A E U s nd l) (L++[(v,1,aY (scD l nd))])→K (.exit 6) (((((PF.nil.set 2 (B)).set 6 (.ptr u 1 0 0)).set 7 (.ptr q 1 0 0)).set 14 (v))) H') :
  aC.wp C (.loop OZ) K F H:=by
 refine wp_loop (α:=Nat × PV × PH) (fun t=>(((((((PF.nil.set 2 (B)).set 6 (.ptr u 1 0 0)).set 7 (.ptr q 1 0 0)).set 14 (t.2.1)).set 86 (.osl A 1 0 nd)).set 87 (.int .i64 nd)).set 88 (.int .i64 t.1))) (fun t=>t.2.2) (fun t=>t.1≤nd∧aN t.2.2 (scB q u c A E U s nd l) (L++[(t.2.1,1,aY (scD l t.1))])) (fun t=>nd-t.1) (0,.aB,H) ⟨a8C _,i.nC 1⟩ Q b_ ?_;clear i;rintro⟨k,v,J⟩ ⟨S,i⟩;simp only at S i;simp only[go_sem,OZ,zb];by_cases hlt:k<nd
 ·have e:(k:Int)<(nd:Nat):=Om;have x:=i.at 3 rfl;have d:=aJG l k;have O:=aSX l k;have w:k<(dJ (marks nd l)).length:=by rw[AW,QK]; exact hlt
  have p:(dJ (marks nd l))[k]?=some [.bool (l.contains (k:Int))]:=by have:=zR (n:=nd) (l:=l) (m:=(k:Int)) Om e;rw[a9Q] at this;unfold dJ;rw[a8V,this]; rfl
  cases N:l.contains (k:Int) with
  | true =>
   rw[N] at p d;rw[if_pos rfl] at d;simp only[go_sem,e,PA,x,p,w,a8U,PB,zc];refine i.append L.length (rows:=aY (scD l k)) (src:=[[.int .i64 k]]) (yI _ _ _ rfl) Sq (by unfold roomFor; rw[dC]; simp only[a8I,maxLen]; omega) fun v' H' M _=>?_;have y:aY (scD l k)++[[.int .i64 k]]=aY (scD l (k+1)):=by rw[d,zQ]; rfl
   rw[y,baT _ _ (a8D _),baX] at M;simp only[go_sem,PC,wZz k];exact aD (k+1,v',H') ⟨hlt,M⟩ (by simp only; omega) Lq b_
  | false =>rw[N] at p d;rw[if_neg (by decide)] at d;rw[← d] at i;simp only[go_sem,e,PA,x,p,w,a8U,PB,PC,wZz k];exact aD (k+1,v,J) ⟨hlt,i⟩ (by simp only; omega) Lq b_
 ·have e:¬ (k:Int)<(nd:Nat):=Om;have:k=nd:=Om;subst this;simp only[go_sem,e];exact Up.up Lq (R v J i)
def eS (f:aE) (lv c:Int):Int:=if dS f&&(decide (1≤lv)&&decide (lv≤5)&&decide (1≤c)&&decide (c≤3)) then (if 12<f.a6L.length∨512<dD ((fF f lv).length:Nat) c.toNat then 2 else 0) else 1
def jU (f:aE) (lv c:Int):List (List Int):=if eS f lv c=0 then nU f (fF f lv) c.toNat else []
structure Iv (C:Ctx):Prop extends Iu C where
 val:∀ f:aE,f.Ok→aH C 96 [.agg f.cells] .nil (aF (.int .i64 (wK f)))
 units:∀ (f:aE) (lv:Int),VF f→1≤lv→lv≤5→aH C 206 [.agg f.cells,.int .i64 lv] .nil (aF (lay (fF f lv)))
 choose:∀ m n:Nat,m≤1000→n≤3→aH C 207 [.int .i64 m,.int .i64 n] .nil (aF (.int .i64 (max (dD m n) 0)))
theorem LW {f:aE} (hV:VF f) (lv:Int):UOk f.a6L.length (fF f lv)∧(fF f lv).length≤40:=by
 have B:=hV.small.a6L;have q:=hV.small.a6O;by_cases c:lv=5
 ·subst c;rw[E4];refine⟨⟨by simp; omega,fun u l=>?_⟩,by simp; omega⟩;obtain⟨d,e,rfl⟩:=a8Z.1 l;rw[a9A] at e;refine⟨by simp,fun x p=>?_⟩;rw[baN] at p;omega
 ·rw[d6 f c];have w:(oH f lv f.a6L.length).length≤40:=by rw[qp];exact a9J (bbT ..) (by simp; omega)
  refine⟨⟨by omega,fun u l=>?_⟩,w⟩;obtain⟨i,-,rfl⟩:=a8Z.1 l;refine⟨by rw[eK]; have:=j9 f lv f.a6L.length i; omega,fun x p=>?_⟩;obtain⟨y,A,rfl⟩:=a8Z.1 p;have:=a9A.1 (List.mem_filter.1 A).1;omega
theorem aXE (U:List (List Int)) (s:List Nat) (nd:Nat):scD (nI U s) nd=bK ((a7X nd).filter (jF U s)):=by
 unfold scD;congr 2;funext d;exact X5 U s d
instance upDone {R:PH→Prop}:Up (BD R):=⟨fun {e F c H} _ h=>by cases e<;>exact h⟩
def I1 (d e:Nat) (U:List (List Int)) (i:List (List Int)) (G:PH):Prop:=∃ c ps,aN G [(d,.rows 1 [[c]]),(e,.rows 1 [[lay U]])] (dP c ps)∧wls ps=i
theorem Wc {C:Ctx} (f:aE) (hV:VF f) (U:List (List Int)) (hU:UOk f.a6L.length U) (X:U.length≤40) (n:Nat) (α:1≤n) (hn:n≤3) (B l:Nat) (F:PF) (f2:F 2=some (.bH f.cells)) (f6:F 6=some (.ptr B 1 0 0)) (f7:F 7=some (.ptr l 1 0 0)) (k:Nat) (Y:k<(cQ U.length n 0).length) (G:PH) (c:Nat)
  (hI:I1 l B U (((cQ U.length n 0).take k).map fun s=>bK ((a7X f.a6L.length).filter (jF U s))) G) (hc:G c=none) :
  OV.wp C (gG C (OW.wp C) (BD (I1 l B U (((cQ U.length n 0).take (k+1)).map fun s=>bK ((a7X f.a6L.length).filter (jF U s)))))) (F.set 61 (.osl c 1 0 n)) (G.set c (.rows 1 (aY (bK (cQ U.length n 0)[k])))):=by
 obtain⟨u,ps,hH,Z⟩:=hI;have y:=hV.small;have M:(f.a6L.length:Int)*((1:Nat):Int)≤140737488355328:=by have:=y.a6L; omega
 have N:(f.a6L.length:Int)≤9223372036854775807:=by have:=y.a6L; omega
 have d:(0:Int)≤(f.a6L.length:Int):=Om;have Q:=mQ U.length n 0 _ (a7Z Y);have R:(cQ U.length n 0).take (k+1)=(cQ U.length n 0).take k++[(cQ U.length n 0)[k]]:=a9U Y;have β:ps.length≤1099511627776:=by
  rw[← uR,Z,a7W,a8Q];have h1:=pS U.length n 0;have V:2 ^ (U.length-0)≤2 ^ 40:=baW Om Om;have e:(2:Nat) ^ 40=1099511627776:=by decide
  omega
 generalize (cQ U.length n 0)[k]=s at *
 obtain⟨sl,J,-⟩:=Q;rw[R,a8W,← Z];have V:=hH.new hc (.rows 1 (aY (bK s)));simp only[go_sem,OV,J3,OW,J4,f2,a7W,M,N,d,Int.le_refl,a9Q];refine aR fun S O=>?_;rw[OK];have h3:=V.new O (.rows 1 (dJ (marks f.a6L.length [])));simp only[go_sem,yu];have mk:=fun {K:bR} [Up K] {F:PF} {H:PH}=>Wb (C:=C) (K:=K) B l S c f.a6L.length n (.bH f.cells) u U hU s sl (fun x hx=>(J x hx).2) Om (F:=F) (H:=H) (L:=dP u ps);refine mk h3 (by (repeat' (first|exact c_|refine d_ ?_ ?_))<;>first|(simp only[go_sem,f2,f6,f7]<;>rfl)|rfl) fun H1 h4=>?_;simp only[go_sem,y9,za];have dr:=fun {K:bR} [Up K] {F:PF} {H:PH}=>Jw (C:=C) (K:=K) B l S c f.a6L.length (by have:=y.a6L; omega) (.bH f.cells) u U s (nI U s) (F:=F) (H:=H) (L:=dP u ps);refine dr h4 Lq fun v H2 h5=>?_;have W:=h5.own (dP u ps).length (yI _ _ _ rfl);have E:=h5.at 0 rfl;rw[aXE] at h5 W;generalize hD:bK ((a7X f.a6L.length).filter (jF U s))=D at *
 have fin:∀ (i:Nat) (H':PH),aN H' (scB l B c S u U s f.a6L.length (nI U s)) ((dP u ps++[(v,1,aY D)]).set 0 (PV.osl i 1 0 (cY ps++[[v]]).length,1,cY ps++[[v]]))→I1 l B U (wls ps++[D]) (H'.set l (.rows 1 [[PV.osl i 1 0 (cY ps++[[v]]).length]])):=by
  intro i H' w;have h7:=w.set 0 rfl (cG.rows 1 [[PV.osl i 1 0 (cY ps++[[v]]).length]]);refine⟨PV.osl i 1 0 (cY ps++[[v]]).length,ps++[(v,D)],?_,?_⟩
  ·have e:dP (PV.osl i 1 0 (cY ps++[[v]]).length) (ps++[(v,D)])=(dP u ps++[(v,1,aY D)]).set 0 (PV.osl i 1 0 (cY ps++[[v]]).length,1,cY ps++[[v]]):=by unfold dP cY mO;rw[a8W,a8W];rfl
   rw[e];exact (h7.sO 3).sO 2
  ·unfold wls;rw[a8W]; rfl
 have p:roomFor (cY ps).length 1 24:=by unfold roomFor; rw[kX]; simp only[maxLen]; omega
 rcases W with ⟨-,rfl⟩ | ⟨q,rs,rfl,-,-,-⟩
 ·simp only[go_sem,PD,E,a8J,a8R,or_false,forall_eq];refine h5.append 0 (rows:=cY ps) (src:=[[PV.aB]]) rfl Sq p fun v' H' w A=>?_;obtain⟨i,rfl⟩:=A (by simp);have d:=w.at 0 rfl;simp only[go_sem,d,a8J,a8R,or_false,forall_eq];exact fin i H' w
 ·simp only[go_sem,PD,E,a8J,a8R,or_false,forall_eq];refine h5.append 0 (rows:=cY ps) (src:=[[PV.osl q 1 0 (aY D).length]]) rfl Sq p fun v' H' w A=>?_;obtain⟨i,rfl⟩:=A (by simp);have d:=w.at 0 rfl;simp only[go_sem,d,a8J,a8R,or_false,forall_eq];exact fin i H' w
abbrev pZ (lv c:Int):PV:=.agg [.int .i64 lv,.int .i64 c]
theorem aEZ {C:Ctx} (J:Iv C) (K M:Code) (f:aE) (hf:f.Ok) (lv d:Int) :
  (GY K M).wp C (aV (akG K M).res (bZ (.tup [lay (jU f lv d),.int .i64 (eS f lv d)]))) (PF.args [.agg f.cells,pZ lv d]) .nil:=by
 have hB:jU f lv d=if eS f lv d=0 then nU f (fF f lv) d.toNat else []:=rfl
 have O:eS f lv d=if dS f&&(decide (1≤lv)&&decide (lv≤5)&&decide (1≤d)&&decide (d≤3)) then (if 12<f.a6L.length∨512<dD ((fF f lv).length:Nat) d.toNat then 2 else 0) else 1:=rfl
 have hv:=J.val f hf;unfold wK at hv;have l:∀ (e:Int) (F:PF) (H:PH),e≠0→eS f lv d=e→F 4=some .aB→F 5=some (.int .i64 e)→aV [.tmp 4,.tmp 5] (bZ (.tup [lay (jU f lv d),.int .i64 (eS f lv d)])) .ret F H:=by intro e F H he i h2 h3;rw[i,if_neg he] at hB;rw[hB,i];exact nK (H:=H) (.inr rfl) (by simp only[go_sem,h2,h3]) (show aN H [] (dP .aB []) from aN.tA aN.nil)
 have X:(dS f&&(decide (1≤lv)&&decide (lv≤5)&&decide (1≤d)&&decide (d≤3)))=false→eS f lv d=1:=fun h=>by rw[O,h]; rfl
 simp only[go_sem,GY,pV.wp,Jx,Jy,akG];refine aA hv Ev ?_;cases hp:dS f with
 | false =>have i:=X (by rw[hp]; rfl);simp only[go_sem,dN (show (1:Int)≠0 by decide),tX];exact l 1 _ _ (by decide) i Sq Sq
 | true =>
  have hV:=VF.of hp;by_cases N:lv<1
  ·have i:=X (by rw[decide_eq_false (Om:¬ 1≤lv)]; simp);simp only[go_sem,bY (show (0:Int)=0 from rfl),N,tX];exact l 1 _ _ (by decide) i Sq Sq
  by_cases c2:lv>5
  ·have i:=X (by rw[decide_eq_false (Om:¬ lv≤5)]; simp);simp only[go_sem,bY (show (0:Int)=0 from rfl),N,c2,tX];exact l 1 _ _ (by decide) i Sq Sq
  by_cases c3:d<1
  ·have i:=X (by rw[decide_eq_false (Om:¬ 1≤d)]; simp);simp only[go_sem,bY (show (0:Int)=0 from rfl),N,c2,c3,tX];exact l 1 _ _ (by decide) i Sq Sq
  by_cases c4:d>3
  ·have i:=X (by rw[decide_eq_false (Om:¬ d≤3)]; simp);simp only[go_sem,bY (show (0:Int)=0 from rfl),N,c2,c3,c4,tX];exact l 1 _ _ (by decide) i Sq Sq
  obtain⟨n,rfl⟩:∃ n:Nat,d=n:=⟨d.toNat,by omega⟩;rw[hp,decide_eq_true (Om:1≤lv),decide_eq_true (Om:lv≤5),decide_eq_true (Om:(1:Int)≤(n:Int)),decide_eq_true (Om:(n:Int)≤3),bbA,bbA,bbA,bbA,if_pos rfl,a9Q] at O;rw[a9Q] at hB;obtain⟨hU,R⟩:=LW hV lv;have w:=J.units f lv hV Om Om;generalize fF f lv=U at *
  simp only[go_sem,bY (show (0:Int)=0 from rfl),N,c2,c3,c4,Jz];refine aA w Ev ?_;simp only[go_sem];refine aR fun q δ=>?_;simp only[go_sem,J0,a7W];by_cases c5:12<f.a6L.length
  ·have i:eS f lv n=2:=by rw[O,if_pos (.inl c5)]
   simp only[go_sem,show (f.a6L.length:Int)>12 by omega,ZQ];exact l 2 _ _ (by decide) i Sq Sq
  simp only[go_sem,show ¬ (f.a6L.length:Int)>12 by omega];refine aA (J.choose U.length n Om Om) Ev ?_;by_cases c6:512<dD (U.length:Nat) n
  ·have i:eS f lv n=2:=by rw[O,if_pos (.inr c6)]
   simp only[go_sem,show max (dD (U.length:Nat) n) 0>512 by omega,ZQ];exact l 2 _ _ (by decide) i Sq Sq
  have i:eS f lv n=0:=by rw[O,if_neg (fun h=>h.elim c5 c6)]
  rw[i,if_pos rfl] at hB;rw[hB,i];simp only[go_sem,show ¬ max (dD (U.length:Nat) n) 0>512 by omega,J1];refine aR fun p E=>?_;have ζ:¬ p=q:=by rintro rfl; rw[cO] at E; cases E
  have y:¬ q=p:=fun e=>ζ e.symm;simp only[go_sem,J2,y,a7W];refine kU (J.subs n U.length) Sq a_ ?_;rintro r H' ⟨o1,o2,B,rfl,rfl⟩ γ;have α:∀ o x,(((PH.nil.set o1 (.rows 1 [[.int .i64 n]])).set o2 (.rows 1 [[.int .i64 (U.length:Nat)]])):PH) o=some x→¬ p=o∧¬ q=o:=fun o x h=>by
   have:=γ o x h rfl;refine⟨fun e=>?_,fun e=>?_⟩
   ·rw[← e,cO] at this; cases this
   ·rw[← e,aT,if_neg y,cO] at this; cases this
  obtain⟨V,Y⟩:=α o1 _ (by rw[aT,if_neg B,cO]);obtain⟨W,Z⟩:=α o2 _ (by rw[cO]);simp only[go_sem];generalize Q:PF.set _ 60 _=F;have f2:F 2=some (.bH f.cells):=by rw[← Q]; simp only[go_sem]
  have f6:F 6=some (.ptr q 1 0 0):=by rw[← Q]; simp only[go_sem]
  have f7:F 7=some (.ptr p 1 0 0):=by rw[← Q]; simp only[go_sem]
  have η:F 60=some (.fn 211 [.ptr o1 1 0 0,.ptr o2 1 0 0]):=by rw[← Q]; simp only[go_sem]
  clear Q;have A:nU f U n=((cQ U.length n 0).take (cQ U.length n 0).length).map fun s=>bK ((a7X f.a6L.length).filter (jF U s)):=by rw[a8Y]; rfl
  have u:aN ((PH.nil.set q (.rows 1 [[lay U]])).set p (.rows 1 [[.aB]])) [(p,.rows 1 [[.aB]]),(q,.rows 1 [[lay U]])] (dP .aB []):=((((aN.nil (H:=PH.nil)).new δ _).new E _).perm (List.Perm.swap _ _ _) (List.Perm.refl _)).tA;refine⟨211,[.ptr o1 1 0 0,.ptr o2 1 0 0],I1 p q U (nU f U n),rfl,fun hY=>?_,fun H2 β=>?_⟩
  ·rw[A];refine ka (m:=104) (t:=61) J.tofm rfl Om Om Om B (fun k=>I1 p q U (((cQ U.length n 0).take k).map fun s=>bK ((a7X f.a6L.length).filter (jF U s)))) ((PH.nil.set q (.rows 1 [[lay U]])).set p (.rows 1 [[.aB]])) ⟨.aB,[],u,rfl⟩ ?_ ?_ ?_ ?_ ?_ hY fun k hk G c hI hc=>Wc f hV U hU R n Om Om q p F f2 f6 f7 k hk G c hI hc
   ·intro o x S;rw[gV];have e1:¬ o=o1:=fun e=>by rw[e,aT,if_neg (fun h=>V h.symm),aT,if_neg (fun h=>Y h.symm)] at S; cases S
    have e2:¬ o=o2:=fun e=>by rw[e,aT,if_neg (fun h=>W h.symm),aT,if_neg (fun h=>Z h.symm)] at S; cases S
    have:((PH.nil.set o1 (.rows 1 [[.int .i64 n]])).set o2 (.rows 1 [[.int .i64 (U.length:Nat)]]):PH) o=none:=by rw[aT,if_neg e2,aT,if_neg e1]; rfl
    rw[this];exact S
   ·rw[gV]; simp only[aT,if_neg B,if_true]
   ·rw[gV]; simp only[aT,if_true]
   ·rw[aT,if_neg (fun e=>V e.symm),aT,if_neg (fun e=>Y e.symm)]; rfl
   ·rw[aT,if_neg (fun e=>W e.symm),aT,if_neg (fun e=>Z e.symm)]; rfl
  ·obtain⟨vo,ps,hH,ε⟩:=β;have hb:=hH.at 0 rfl;simp only[go_sem,im,zd,f7,hb];rw[← ε];exact nK (.inr rfl) Sq ((hH.sO 0).sO 0)
theorem V6 {set:List Int} {n top:Int} (h:mL set n top=true):set.Pairwise (· < ·):=by
 unfold mL at h;simp only[a8O,decide_eq_true_eq,a8M,a9A] at h;have c:∀ i (hi:i+1<set.length),set[i]<set[i+1]:=by
  intro i hi;have:=h.2 (i+1) hi;unfold kP at this;have g1:set.getD (i+1) 0=set[i+1]:=by simp[a8P,hi]
  have g2:set.getD (i+1-1) 0=set[i]:=by simp[a8P,show i<set.length by omega]
  rw[g1,g2] at this;simp only[a8O,Bool.or_eq_true,decide_eq_true_eq] at this;rcases this.2 with h | h
  ·omega
  ·exact h
 rw[List.pairwise_iff_getElem];intro i j hi q e;obtain⟨d,rfl⟩:∃ d,j=i+1+d:=⟨j-i-1,by omega⟩;clear e
 induction d with
 | zero=>exact c i q
 | succ d u =>have l:=u Om;have p:=c (i+1+d) Om;exact Int.lt_trans l p
theorem W6 {l:List Nat} (h:l.Pairwise (· < ·)):(bK l).Pairwise (· < ·):=by
 unfold bK;rw[List.pairwise_map];exact h.imp fun h=>by omega
theorem Sz {f:aE} (hV:VF f) (U:List (List Int)) (l:U.length≤40) (n:Nat):(nU f U n).length≤1099511627776∧∀ s∈nU f U n,s.length≤24∧s.Pairwise (· < ·):=by
 have p:=hV.small.a6L;unfold nU;constructor
 ·rw[a7W];have d:=pS U.length n 0;have i:2 ^ (U.length-0)≤2 ^ 40:=baW Om Om;have e:(2:Nat) ^ 40=1099511627776:=by decide
  omega
 ·intro s c;obtain⟨t,-,rfl⟩:=a8Z.1 c;refine⟨?_,W6 (List.pairwise_lt_range.filter _)⟩;rw[eK];exact a9J (bbT ..) (by simp; omega)
def lN (f:aE) (a6X:Int) (set:List Int) (lv c:Int):Int:=if eS f lv c≠0 then eS f lv c else if pC f a6X set then 0 else 1
def rF (f:aE) (a6X:Int) (set:List Int) (lv c:Int):Nat:=if lN f a6X set lv c=0 then sV (jU f lv c) set (fV f a6X).m else 0
structure arT (C:Ctx):Prop extends Iv C where
 uM:∀ (f:aE) (lv cnt:Int),f.Ok→aH C 230 [.agg f.cells,pZ lv cnt] .nil (aF (.tup [lay (jU f lv cnt),.int .i64 (eS f lv cnt)]))
 admis:∀ (f:aE) (a6X:Int) (set:List Int),f.Ok→set.length≤1000000000000000→aH C 204 [.agg f.cells,.int .i64 a6X,ints set] .nil (aF (.bool (pC f a6X set)))
 loss:∀ (sc:List (List Int)) (set:List Int) (m:Int),sc.length≤1000000000000000→(∀ s∈sc,s.length≤1000000000000000∧s.Pairwise (· < ·))→set.length≤1000000000000000→set.Pairwise (· < ·)→aH C 208 [lay sc,ints set,.int .i64 m] .nil (aF (.int .i64 (sV sc set m:Nat)))
theorem akB {C:Ctx} (p:arT C) (f:aE) (x:f.Ok) (a6X:Int) (set:List Int) (y:set.length≤1000000000000000) (lv d:Int) :
  zE.wp C (aV u6.res (aF (.tup [.int .i64 (rF f a6X set lv d:Nat),.int .i64 (lN f a6X set lv d)]))) (PF.args [.agg f.cells,.int .i64 a6X,ints set,pZ lv d]) .nil:=by
 have hB:rF f a6X set lv d=if lN f a6X set lv d=0 then sV (jU f lv d) set (fV f a6X).m else 0:=rfl
 have e:lN f a6X set lv d=if eS f lv d≠0 then eS f lv d else if pC f a6X set then 0 else 1:=rfl
 simp only[go_sem,zE,ia,ib,u6];refine aA (p.uM f lv d x) Ev ?_;by_cases c:eS f lv d≠0
 ·rw[if_pos c] at e;rw[e,if_neg c] at hB;simp only[go_sem,GU,dN c,ic];refine aQ (.inr rfl) Ev ?_;rw[hB,e]; rfl
 have c:eS f lv d=0:=Decidable.not_not.1 c;rw[if_neg (fun h=>h c)] at e;simp only[go_sem,GU,c,bY (show (0:Int)=0 from rfl),ie];refine aA (p.admis f a6X set x y) Ev ?_;cases i:pC f a6X set with
 | false =>rw[i,if_neg (by decide)] at e;rw[e,if_neg (by decide)] at hB;simp only[go_sem,a8N,ig];refine aQ (.inr rfl) Ev ?_;rw[hB,e]; rfl
 | true =>
  rw[i,if_pos rfl] at e;rw[e,if_pos rfl] at hB;have u:gR f a6X=true∧mL set (fY (fV f a6X)) f.a6L.length=true:=by unfold pC at i;simp only[a8O] at i;exact⟨i.1,i.2.1⟩
  obtain⟨hV,B,H,F⟩:=nS u.1;obtain⟨E,q⟩:=nJ u.1;have l:(f.a6P.map bS.cells)[a6X.toNat]?=some (fV f a6X).cells:=by rw[a8V,q]; rfl
  have hlt:a6X<(f.a6P.length:Nat):=Om;have w:jU f lv d=nU f (fF f lv) d.toNat:=by unfold jU; rw[if_pos c]
  obtain⟨k1,k2⟩:=Sz hV (fF f lv) (LW hV lv).2 d.toNat;rw[← w] at k1 k2;simp only[go_sem,a8B,ii,B,hlt,a7W,l];refine aA (p.loss (jU f lv d) set (fV f a6X).m Om (fun s A=>⟨by have:=(k2 s A).1; omega,(k2 s A).2⟩) y (V6 u.2)) Ev ?_;simp only[go_sem];refine aQ (.inr rfl) Ev ?_;rw[hB,e]; rfl
def Bv:Rg:=[iT 0 false]
def Bw:Rg:=[iA 10 (.call 27 [(.const .aB),(Ci 1),(Ci 0)]),iA 1 (.alloc [zI,.aB,.aB,.aB,.aB,.aB,.aB]),iS 7 1 10]
def Bx:Rg:=[iO 12 7 1,iA 13 (.call 205 [(Tm 12),(Ci 0)]),iM 11 13,iE 14 11 0,iE 15 11 1,iM 2 14,iM 3 15]
def By:Rg:=[iO 17 7 1,iA 18 (.build [zI,zI] [(0,1,(Ci 5)),(1,1,(Ci 1))]),iK2 19 230 17 18,iM 16 19,iE 20 16 0,iE 21 16 1,iM 4 20,iM 5 21]
def Bz:Rg:=[iO 23 7 1,iA 24 (.a6R true 1 1 [zI] [(0,(Ci 0))]),iA 25 (.build [zI,zI] [(0,1,(Ci 1)),(1,1,(Ci 1))]),iA 26 (.call 209 [(Tm 23),(Ci 0),(Tm 24),(Tm 25)]),iM 22 26,iE 27 22 0,iE 28 22 1,iM 6 27,iM 7 28]
def B0:Rg:=[iO 30 7 1,iA 31 (.call 205 [(Tm 30),(Ci 5)]),iM 29 31,iE 32 29 0,iE 33 29 1,iM 8 32,iM 9 33]
def B5:Rg:=[iM 34 3,iC 35 .eql 34 0,iM 36 35,gM 37 2 36 true,iG 38 (.a6R true 1 1 [zI] [(0,(Ci 0))]) 36 true,iG 39 (.a6R true 1 1 [.aB] [(0,(Tm 38))]) 36 true,gK2 40 212 37 39 36 true,iP 41 36 40,iM 42 41,gM 43 5 42 true,gC 44 .eql 43 0 42 true,iP 45 42 44,iM 46 45,gM 47 4 46 true,iG 48 (.a6R true 1 1 [zI] [(0,(Ci 0))]) 46 true,iG 49 (.a6R true 1 1 [.aB] [(0,(Tm 48))]) 46 true,gK2 50 212 47 49 46 true,iP 51 46 50,iM 52 51,gM 53 7 52 true,gC 54 .eql 53 0 52 true,iP 55 52 54,iM 56 55,gM 57 6 56 true,gC 58 .eql 57 1 56 true,iP 59 56 58,iM 60 59,gM 61 9 60 true,gC 62 .eql 61 1 60 true,iP 63 60 62,iM 0 63]
def DA:aC:=(sq Bv (sq Bw (sq Bx (sq By (sq Bz (sq B0 (sq B5 .ret)))))))
def auV:List Nat:=[24,38,39,48,49]
def P7:aS:=⟨0,64,DA,[.tmp 0]⟩
def B8:Rg:=[iA 4 (.alloc [zI,zI])]
def B9:Rg:=[iM 5 0,iA 6 (.conv .i64 (Tm 5)),iC 7 .rem 6 5,iA 8 (.bin .add (Ci 1) (Tm 7)),iM 9 1,iA 10 (.conv .i64 (Tm 9)),iC 11 .rem 10 3,iA 12 (.bin .add (Ci 1) (Tm 11)),iA 13 (.build [zI,zI] [(0,1,(Tm 8)),(1,1,(Tm 12))]),iS 2 4 13]
def DN:aC:=(sq B8 (sq B9 .ret))
def auY:List Nat:=[]
def Qt:aS:=⟨2,14,DN,[.cell 4 (some 2)]⟩
def mj:Rg:=[iT 10 false]
def ml:Rg:=[iM 25 0,iA 26 (.call 27 [(Tm 25),(Ci 7),(Ci 0)]),iA 11 (.alloc [zI,.aB,.aB,.aB,.aB,.aB,.aB]),iS 7 11 26]
def mm:Rg:=[iM 27 1,iA 28 (.conv .i64 (Tm 27)),iF 29 5 11,iL 30 29,iN 31 30,iB 32 .rem 28 31,iM 12 32]
def mo:Rg:=[iM 33 2,iM 34 3,iK2 35 223 33 34,iA 13 (.alloc [zI,zI]),iS 2 13 35]
def mp:Rg:=[iO 37 7 11,iM 38 12,iK2 39 216 37 38,iM 36 39,iE 40 36 0,iE 41 36 1,iM 14 40,iM 15 41]
def mq:Rg:=[iI 16 0]
def mr:Rg:=[iM 42 16,iM 43 14,iN 44 43,iB 45 .lss 42 44]
def mu:Rd:=[(iO 49 7 11,false),(iM 50 12,false),(iM 51 14,false),(iM 52 16,false),(iX 53 1 51 52,false),(iL 54 53,false),(iO 55 2 13,false),(iA 56 (.call 209 [(Tm 49),(Tm 50),(Tm 54),(Tm 55)]),true),(iM 48 56,false),(iE 57 48 0,false),(iE 58 48 1,false),(iM 17 57,false),(iM 18 58,false)]
def mw:Rd:=[(iO 60 7 11,false),(iM 61 12,false),(iM 62 14,false),(iM 63 16,false),(iX 64 1 62 63,false),(iL 65 64,false),(iO 66 2 13,false),(iA 67 (.call 221 [(Tm 60),(Tm 61),(Tm 65),(Tm 66)]),true),(iM 59 67,false),(iE 68 59 0,false),(iE 69 59 1,false),(iM 19 68,false),(iM 20 69,false)]
def my:Rg:=[iM 70 18,iM 71 20,iB 72 .neq 70 71,iM 73 72,gM 74 17 73 false,gM 75 19 73 false,gB 76 .neq 74 75 73 false,iQ 77 73 76]
def W7:Rg:=[iT 10 false]
def XA:Rg:=[iM 46 16,iC 47 .add 46 1,iM 16 47]
def WZ:aC:=(.seq (sq mr (.cond (Tm 45) .skip (.exit 0))) (.seq (.block 1 (dq mu (dq mw (sq my (.cond (Tm 77) (sq W7 .ret) .skip))))) (.region XA)))
def XB:Rg:=[iM 78 4,iN 79 78,iC 80 .gtr 79 20]
def XC:Rg:=[iA 81 (.call 222 []),iM 10 81]
def XD:Rg:=[iO 83 7 11,iM 84 12,iM 85 4,iO 86 2 13,iA 87 (.call 209 [(Tm 83),(Tm 84),(Tm 85),(Tm 86)]),iM 82 87,iE 88 82 0,iE 89 82 1,iM 21 88,iM 22 89]
def XE:Rg:=[iO 91 7 11,iM 92 12,iM 93 4,iO 94 2 13,iA 95 (.call 221 [(Tm 91),(Tm 92),(Tm 93),(Tm 94)]),iM 90 95,iE 96 90 0,iE 97 90 1,iM 23 96,iM 24 97]
def XF:Rg:=[iM 98 22,iM 99 24,iB 100 .eql 98 99,iM 101 100,gM 102 21 101 true,gM 103 23 101 true,gB 104 .eql 102 103 101 true,iP 105 101 104,iM 106 105,iG 107 (.call 222 []) 106 true,iP 108 106 107,iM 10 108]
def zV:aC:=(sq mj (sq ml (sq mm (sq mo (sq mp (.seq (sq mq (.block 0 (.loop WZ))) (.seq (sq XB (.cond (Tm 80) (sq XC .ret) .skip)) (sq XD (sq XE (sq XF .ret))))))))))
def anL:List Nat:=[]
def VD:aS:=⟨5,109,zV,[.tmp 10]⟩
structure aOB (C:Ctx):Prop where
 same1:∀ l:List Int,Fits l→aH C 94 [ints l,ints l] .nil (aF (.bool true))
 fleet:∀ (l:List Nat),(∀ x∈l,x<256)→l.length≤9223372036854775807→∀ a6L a6N:Nat,a6L≤60→a6N≤50 →
  aH C 27 [.sl 1 (kF l),.int .i64 a6L,.int .i64 a6N] .nil (aF (.agg (gZ (l.take 400) a6L a6N 0).1.cells))
 all:∀ (f:aE) (a6X:Int),f.Ok→aH C 205 [.agg f.cells,.int .i64 a6X] .nil (aF (.tup [lay (sI f a6X),.int .i64 (pD f a6X)]))
 uM:∀ (f:aE) (lv cnt:Int),f.Ok→aH C 230 [.agg f.cells,pZ lv cnt] .nil (aF (.tup [lay (jU f lv cnt),.int .i64 (eS f lv cnt)]))
 loss:∀ (f:aE) (a6X:Int) (set:List Int) (lv cnt:Int),f.Ok→set.length≤1000000000000000→aH C 209 [.agg f.cells,.int .i64 a6X,ints set,pZ lv cnt] .nil (aF (.tup [.int .i64 (rF f a6X set lv cnt:Nat),.int .i64 (lN f a6X set lv cnt)]))
theorem aFV {C:Ctx} (same1:∀ l:List Int,Fits l→aH C 94 [ints l,ints l] .nil (aF (.bool true))) (a:List (List Int)) (i:a.length≤9000000000000000000) (e:∀ w∈a,w.length≤9000000000000000000) :
  HN.wp C (aV akP.res (aF (.bool true))) (PF.args [lay a,lay a]) .nil:=by
 simp only[go_sem,HN,K4,K5,akP,a7W,bY (show (a.length:Int)=(a.length:Nat) from rfl),K6];refine wp_loop (α:=Nat) (fun k=>(((PF.nil.set 0 (lay a)).set 1 (lay a)).set 5 (.int .i64 k))) (fun _=>.nil) (fun k=>k≤a.length) (fun k=>a.length-k) 0 (a8C _) Lq a_ ?_;intro k p;simp only[go_sem,K3,K7,a7W];by_cases hlt:k<a.length
 ·have c:(k:Int)<(a.length:Nat):=Om;have d:(a.map fun w=>[ints w])[k]?=some [ints a[k]]:=by simp[hlt]
  have q:=e a[k] (a7Z hlt);generalize a[k]=x at *
  simp only[go_sem,c];refine bV .nil (cyS (.bool true)) a_ ?_;simp only[go_sem,K8,d,a7W];refine bO rfl (same1 x Om) Sq a_ ?_;simp only[go_sem,a8B,K9,wZz k];exact aD (k+1) hlt Om Lq a_
 ·have c:¬ (k:Int)<(a.length:Nat):=Om;simp only[go_sem,c,La];refine aQ (.inr rfl) Ev ?_;rfl
noncomputable def oY:aE:=(gZ [] 1 0 0).1
theorem VM:oY.Ok:=aWS (by decide +kernel)
theorem dz:sI oY 0=[[0]]∧pD oY 0=0∧pD oY 5=1:=by decide +kernel
theorem Ei:jU oY 5 1=[[0]]∧eS oY 5 1=0:=by decide +kernel
theorem Eh:rF oY 0 [0] 1 1=1∧lN oY 0 [0] 1 1=0:=by decide +kernel
structure It (C:Ctx):Prop extends aOB C where
 sets:∀ a:List (List Int),a.length≤9000000000000000000→(∀ w∈a,w.length≤9000000000000000000)→aH C 212 [lay a,lay a] .nil (aF (.bool true))
theorem auX {C:Ctx} (a b:Nat) (w:a<256) (x:b<256):DN.wp C (aV Qt.res (aF (pZ (1+a%5:Nat) (1+b%3:Nat)))) (PF.args [.int .u8 a,.int .u8 b]) .nil:=by
 have e:IntKind.i64.wrap (a:Int)=a:=wrap_i64 Om Om;have i:IntKind.i64.wrap (b:Int)=b:=wrap_i64 Om Om;have c:Int.tmod (a:Int) 5=((a%5:Nat):Int):=by rw[Int.tmod_eq_emod_of_nonneg Om]; omega
 have d:Int.tmod (b:Int) 3=((b%3:Nat):Int):=by rw[Int.tmod_eq_emod_of_nonneg Om]; omega
 have l:IntKind.i64.wrap ((a%5:Nat):Int)=((a%5:Nat):Int):=wrap_i64 Om Om;have p:IntKind.i64.wrap ((b%3:Nat):Int)=((b%3:Nat):Int):=wrap_i64 Om Om;have q:IntKind.i64.wrap (1+((a%5:Nat):Int))=((1+a%5:Nat):Int):=by rw[wrap_i64 Om Om]; omega
 have u:IntKind.i64.wrap (1+((b%3:Nat):Int))=((1+b%3:Nat):Int):=by rw[wrap_i64 Om Om]; omega
 simp only[go_sem,DN,B8,Qt];refine aR fun o y=>?_;simp only[go_sem,B9,e,i,c,d,l,p,q,u,a8J,a8R,or_false,forall_eq,forall_eq_or_imp];refine aQ (.inr rfl) (vs:=[pZ (1+a%5:Nat) (1+b%3:Nat)]) ?_ rfl;simp only[go_sem]
theorem auU {C:Ctx} (L:It C):DA.wp C (aV P7.res (aF (.bool true))) (PF.args []) .nil:=by
 have p:=L.fleet [] (fun x q=>by cases q) (by decide) 1 0 (by decide) (by decide);have c:aH C 27 [.sl 1 (kF []),.int .i64 (1:Nat),.int .i64 (0:Nat)] .nil (aF (.agg oY.cells)):=p;have d:=L.all oY 0 VM;rw[dz.1,dz.2.1] at d;have e:=L.uM oY 5 1 VM;rw[Ei.1,Ei.2] at e;have i:=L.loss oY 0 [0] 1 1 VM (by decide);rw[Eh.1,Eh.2] at i;have l:=L.all oY 5 VM;rw[dz.2.2] at l;have h5:=L.sets [[0]] (by decide) (by decide);generalize oY=f at *
 simp only[go_sem,DA,Bv,Bw,P7];refine aA (c.args (.akF (.nil 1) (.akF (.refl _) (.akF (.refl _) .a3X)))) (by simp only[go_sem]; rfl) ?_;simp only[go_sem];refine aR fun o u=>?_;simp only[go_sem,Bx];refine aA d Sq ?_;simp only[go_sem,By];refine aA e Sq ?_;simp only[go_sem,Bz];refine aA i (by simp only[go_sem]; rfl) ?_;simp only[go_sem,B0];refine aA l Sq ?_;simp only[go_sem,B5,bL (show (0:Int)=0 from rfl)];refine aA h5 (by simp only[go_sem]; rfl) ?_;simp only[go_sem,bL (show (0:Int)=0 from rfl)];refine aA h5 (by simp only[go_sem]; rfl) ?_;simp only[go_sem,bL (show (0:Int)=0 from rfl),bL (show ((1:Nat):Int)=1 from rfl),bL (show (1:Int)=1 from rfl)];refine aQ (.inr rfl) Ev ?_;rfl
theorem Xq (n k a:Nat) (h:a<n):cQ n (k+1) a=(cQ n k (a+1)).map (a::·)++cQ n (k+1) (a+1):=by
 rw[cQ];by_cases c:n-k-a=0
 ·have d:n-k-(a+1)=0:=Om;rw[cQ,c,d];have:cQ n k (a+1)=[]:=by
   cases k with
   | zero=>omega
   | succ k=>rw[cQ,show n-k-(a+1)=0 by omega]; rfl
  rw[this]; rfl
 ·obtain⟨m,e⟩:∃ m,n-k-a=m+1:=⟨n-k-a-1,by omega⟩;rw[cQ,e,List.range'_succ,List.flatMap_cons,show n-k-(a+1)=m by omega]
def Grow (P:List Nat→Bool):Prop:=∀ s t:List Nat,(∀ x∈s,x∈t)→P s=true→P t=true
theorem Grow.cons {P:List Nat→Bool} (h:Grow P) (a:Nat):Grow fun s=>P (a::s):=fun s t c i =>
 h (a::s) (a::t) (fun x d=>(a8J.1 d).elim (fun e=>e ▸ List.mem_cons_self) fun d=>List.mem_cons_of_mem _ (c x d)) i
def iJ (n k a:Nat) (P:List Nat→Bool):Nat:=(cQ n k a).countP P
theorem zF (n k a:Nat) (h:a<n) (P:List Nat→Bool):iJ n (k+1) a P=iJ n k (a+1) (fun s=>P (a::s))+iJ n (k+1) (a+1) P:=by
 unfold iJ;rw[Xq n k a h,List.countP_append,List.countP_map];rfl
theorem asI (n k a:Nat) {P Q:List Nat→Bool} (h:∀ s,P s=true→Q s=true):iJ n k a P≤iJ n k a Q:=List.countP_mono_left fun s _ c=>h s c
theorem CM (n a:Nat) (P:List Nat→Bool):iJ n 0 a P=if P [] then 1 else 0:=by
 unfold iJ; rw[cQ,List.countP_cons,List.countP_nil,a8U]
theorem GW (n:Nat):∀ (m k a:Nat) (P:List Nat→Bool),Grow P→a+m=n→(m-k)*iJ n k a P≤(k+1)*iJ n (k+1) a P
 | 0,k,a,P,_,_=>by rw[Nat.zero_sub,Nat.zero_mul]; exact a8C _
 | m+1,0,a,P,d,h=>by
  rw[zF n 0 a Om,CM,CM];have l:=GW n m 0 (a+1) P d Om;rw[CM] at l;cases i:P [] with
  | false=>rw[if_neg (by simp)]; omega
  | true =>have p:P [a]=true:=d [] [a] (fun x e=>by cases e) i;rw[if_pos i] at l;rw[if_pos rfl,if_pos p];omega
 | m+1,k+1,a,P,d,h=>by
  have A:=GW n m (k+1) (a+1) P d Om;have B:=GW n m k (a+1) (fun s=>P (a::s)) (d.cons a) Om;have q:=asI n (k+1) (a+1) (P:=P) (Q:=fun s=>P (a::s)) fun s u=>d s (a::s) (fun x e=>List.mem_cons_of_mem _ e) u;rw[zF n k a Om,zF n (k+1) a Om];generalize iJ n (k+1) (a+1) P=x at *
  generalize iJ n (k+1+1) (a+1) P=y at *
  generalize iJ n k (a+1) (fun s=>P (a::s))=z at *
  generalize iJ n (k+1) (a+1) (fun s=>P (a::s))=w at *
  rw[show m+1-(k+1)=m-k by omega,a8L,a8L];have E:(m-k)*x≤(m-(k+1))*x+x:=by
   rcases a8T k m with c | c
   ·rw[show m-k=(m-(k+1))+1 by omega,bbC]; exact a8D _
   ·rw[show m-k=0 by omega,Nat.zero_mul]; exact a8C _
  have F:(k+1+1)*w=(k+1)*w+w:=bbC _ _;omega
theorem aEX {n k:Nat} {P:List Nat→Bool} (e:Grow P) (h:2*k+1≤n):iJ n k 0 P≤iJ n (k+1) 0 P:=by
 have c:=GW n n k 0 P e Om;have d:(k+1)*iJ n k 0 P≤(n-k)*iJ n k 0 P:=a9D _ Om;exact Nat.le_of_mul_le_mul_left (a9J d c) Om
theorem Oz (f:aE) (u:List (List Int)) (k:Nat) (set:List Int) (m:Int):sV (nU f u k) set m=iJ u.length k 0 fun s=>decide (((iY (bK ((a7X f.a6L.length).filter (jF u s))) set:Nat):Int)>m):=by
 unfold sV nU iJ;rw[List.countP_map];rfl
theorem auI {f:aE} {u:List (List Int)} {k:Nat} {set:List Int} {m:Int} (h:2*k+1≤u.length):sV (nU f u k) set m≤sV (nU f u (k+1)) set m:=by
 rw[Oz,Oz];refine aEX (fun s t l q=>?_) h;have w:=of_decide_eq_true q;refine decide_eq_true ?_;have:iY (bK ((a7X f.a6L.length).filter (jF u s))) set≤iY (bK ((a7X f.a6L.length).filter (jF u t))) set:=by unfold iY;refine List.countP_mono_left fun d _ e=>?_;rw[List.contains_iff_mem] at e ⊢;unfold bK at e ⊢;rw[a8Z] at e ⊢;obtain⟨x,c,rfl⟩:=e;refine⟨x,?_,rfl⟩;rw[List.mem_filter] at c ⊢;refine⟨c.1,?_⟩;unfold jF at c ⊢;rw[List.any_eq_true] at c ⊢;obtain⟨-,i,hi,p⟩:=c;exact⟨i,l i hi,p⟩
 omega
def lvC (L:Int) (ds:List cD):Nat:=ds.countP fun x=>decide (x.level=L)
theorem aHI (f:aE) (L:Int):((a7X f.a6O.length).filter fun i=>decide (lvl f i=L)).length=lvC L f.a6O:=by
 rw[← List.countP_eq_length_filter];unfold lvC lvl;have c:∀ (ds:List cD),(a7X ds.length).countP (fun i=>decide ((ds.map cD.level).getD i 0=L))=ds.countP fun x=>decide (x.level=L):=by
  intro ds
  induction ds with
  | nil=>rfl
  | cons d ds e =>rw[a9O,List.range_succ_eq_map,List.countP_cons,List.countP_map,List.countP_cons,← e];rfl
 exact c f.a6O
theorem Jn:∀ m:Fin 10,∀ c:Fin 4,dD (m.val:Int) c.val≤512:=by decide
theorem NV (l:List Nat) (a6M a:Nat):∀ k,(dO l a6M a k).1.length=k
 | 0=>rfl
 | k+1=>by have:=NV l a6M a k;rw[dO];simp[this]
theorem Wf (l:List Nat) (a6L a6N a:Nat):1≤(gZ l a6L a6N a).1.a6P.length:=by
 unfold gZ;simp only;rw[NV];omega
theorem aCM (f:aE) (lv:Int):(fF f lv).length=if lv=5 then f.a6L.length else lvC lv f.a6O:=by
 unfold fF;split
 ·simp
 ·rw[a7W]; exact aHI f lv
structure AU (f:aE):Prop where
 ok:f.Ok
 valid:dS f=true
 a6L:f.a6L.length≤9
 lv:∀ L:Int,1≤L→L≤4→lvC L f.a6O≤8
theorem AU.num {f:aE} (h:AU f) {lv:Int} (c:1≤lv) (h5:lv≤5):(fF f lv).length≤9:=by
 rw[aCM];split
 ·exact h.a6L
 ·have:=h.lv lv c Om; omega
theorem AU.uM {f:aE} (h:AU f) {lv:Int} (d:1≤lv) (h5:lv≤5) {c:Nat} (i:1≤c) (l:c≤3):eS f lv c=0:=by
 have p:=h.num d h5;have e:=Jn ⟨(fF f lv).length,by omega⟩ ⟨c,by omega⟩;simp only at e;unfold eS;rw[h.valid,decide_eq_true d,decide_eq_true h5,decide_eq_true (Om:(1:Int)≤(c:Int)),decide_eq_true (Om:(c:Int)≤3),bbA,bbA,bbA,bbA,if_pos rfl,a9Q,if_neg];have:=h.a6L;omega
theorem AU.all {f:aE} (h:AU f) {p:Int} (d:gR f p=true):pD f p=0∧sI f p=nZ f (fV f p):=by
 have c:pD f p=0:=by unfold pD;rw[d,if_pos rfl,if_neg];have:=h.a6L;omega
 exact⟨c,by unfold sI; rw[if_pos c]⟩
theorem aEB {s:List Nat} {n top:Nat} (l:s.length=n) (p:∀ x∈s,x<top) (q:s.Pairwise (· < ·)):mL (bK s) n top=true:=by
 unfold mL;rw[eK,l,decide_eq_true rfl,a8H];simp only[a8M,a9A];intro i hi;have d:i<s.length:=Om;have g:(bK s).getD i 0=(s[i]:Nat):=by unfold bK; simp[a8P,d]
 unfold kP;rw[g];have u:=p _ (a7Z d);simp only[a8O,Bool.or_eq_true,decide_eq_true_eq];refine⟨by omega,?_⟩;by_cases c:i=0
 ·exact .inl c
 ·right;have e:i-1<s.length:=Om;have g2:(bK s).getD (i-1) 0=(s[i-1]:Nat):=by unfold bK; simp[a8P,e]
  rw[g2];have:=List.pairwise_iff_getElem.1 q (i-1) i e d Om;omega
theorem aJJ {f:aE} {p:Int} (c:gR f p=true) {set:List Int} (h:set∈nZ f (fV f p)):pC f p set=true∧set.length≤8:=by
 obtain⟨hV,-⟩:=nS c;have d:=hV.a6X _ (nJ c).1;unfold nZ at h;rw[List.mem_filter] at h;obtain⟨i,l⟩:=h;obtain⟨s,q,rfl⟩:=a8Z.1 i;obtain⟨k1,k2,w⟩:=mQ _ _ _ _ q;have e:((fY (fV f p)).toNat:Int)=fY (fV f p):=by unfold fY; omega
 have:=aEB k1 (fun x u=>(k2 x u).2) w;rw[e] at this;refine⟨by unfold pC; rw[c,this,l]; rfl,?_⟩;rw[eK,k1];unfold fY; omega
theorem AU.more {f:aE} (h:AU f) {p:Int} (u:gR f p=true) {lv:Int} (i:1≤lv) (h5:lv≤5) {c:Nat} (q:1≤c) (y:c≤2) (w:2*c+1≤(fF f lv).length) {set:List Int} (x:set∈nZ f (fV f p)) :
  lN f p set lv c=0∧lN f p set lv ((c+1:Nat):Int)=0∧rF f p set lv c≤rF f p set lv ((c+1:Nat):Int):=by
 have s1:=h.uM i h5 q (Om:c≤3);have s2:=h.uM i h5 (Om:1≤c+1) (Om:c+1≤3);obtain⟨l,-⟩:=aJJ u x;have d:lN f p set lv c=0:=by unfold lN; rw[s1,l]; rfl
 have e:lN f p set lv ((c+1:Nat):Int)=0:=by unfold lN; rw[s2,l]; rfl
 refine⟨d,e,?_⟩;unfold rF jU;rw[if_pos d,if_pos e,if_pos s1,if_pos s2,a9Q,a9Q];exact auI w
structure arS (C:Ctx):Prop extends It C where
 Hn:aH C 222 [] .nil (aF (.bool true))
 fails:∀ a b:Nat,a<256→b<256→aH C 223 [.int .u8 a,.int .u8 b] .nil (aF (pZ (1+a%5:Nat) (1+b%3:Nat)))
def chT (n k a i:Nat):List (List Nat):=(a9Y a (i-a)).flatMap fun x=>(cQ n k (x+1)).map (x::·)
theorem aER (n k a:Nat):chT n k a a=[]:=by unfold chT; rw[baX]; rfl
theorem aEQ (n k a:Nat) {i:Nat} (h:a≤i):chT n k a (i+1)=chT n k a i++(cQ n k (i+1)).map (i::·):=by
 unfold chT;rw[show i+1-a=(i-a)+1 by omega,List.range'_concat,List.flatMap_append,Nat.one_mul,show a+(i-a)=i by omega];simp
theorem aEP (n k a i:Nat) (h:i=a∨i≤n-k) (c:n≤i+k):chT n k a i=cQ n (k+1) a:=by
 unfold chT;rw[cQ,show i-a=n-k-a by omega]
theorem aVN (n k a:Nat) {i:Nat} (h:a≤i) (e:i+k<n):(chT n k a (i+1)).length≤(cQ n (k+1) a).length:=by
 obtain⟨d,c⟩:∃ d,n-k-a=(i+1-a)+d:=⟨n-k-a-(i+1-a),by omega⟩;unfold chT;rw[cQ,c,← List.range'_append (s:=a) (m:=i+1-a) (n:=d) (step:=1),List.flatMap_append,a8E];omega
def fQ (l:List (List Nat)):List (List Int):=l.map bK
theorem P6 (a b:List (List Nat)):fQ (a++b)=fQ a++fQ b:=a8W
theorem nn {C:Ctx} (k a n:Nat) (hk:k≤10) (ha:a≤1000) (hn:n≤40) (rec:∀ E X:Nat,E≤1000→k=X+1→aH C 215 [.int .i64 E,.int .i64 n,.int .i64 X] .nil (aF (lay (fQ (cQ n X E))))) :
  tH.wp C (aV VH.res (bZ (lay (fQ (cQ n k a))))) (PF.args [.int .i64 a,.int .i64 n,.int .i64 k]) .nil:=by
 cases k with
 | zero =>simp only[go_sem,tH,KL,KM,bL (show ((0:Nat):Int)=0 from rfl),np,VH];refine bA (.inr rfl) .nil (vs:=[.sl 1 [[.aB]]]) Sq a_ ⟨?_,rfl⟩;exact (oF.nil.snoc (u:=.aB) (w:=[]) (.inr ⟨rfl,rfl⟩)).co
 | succ k =>
  have M:=fun (E:Nat) (h:E≤1000)=>rec E k h rfl;clear rec;have ζ:=pS n (k+1) a;have Z:2 ^ (n-a)≤2 ^ 40:=baW Om Om;have β:(2:Nat) ^ 40=1099511627776:=by decide
  have wk:IntKind.i64.wrap (((k+1:Nat):Int)-1)=(k:Int):=by rw[wrap_i64 Om Om]; omega
  simp only[go_sem,tH,KL,KM,bF (Om:((k+1:Nat):Int)≠0),nr,nt,VH];refine wp_loop (α:=Nat × PV × WPs × PH) (fun s=>((((PF.nil.set 1 (.int .i64 n)).set 2 (.int .i64 (k+1:Nat))).set 7 (s.2.1)).set 8 (.int .i64 s.1))) (fun s=>s.2.2.2) (fun s=>a≤s.1∧(s.1=a∨s.1≤n-k)∧wls s.2.2.1=fQ (chT n k a s.1)∧aN s.2.2.2 [] (dP s.2.1 s.2.2.1)) (fun s=>n-s.1) (a,.aB,[],.nil) ⟨a8D _,.inl rfl,by simp only; rw[aER]; rfl,aN.tA aN.nil⟩ Lq b_ ?_;rintro⟨i,Q,ps,H⟩ ⟨A,K,p,y⟩;simp only at A K p y;have wi:IntKind.i64.wrap ((i:Int)+((k+1:Nat):Int))=(i:Int)+((k+1:Nat):Int):=wrap_i64 Om Om;simp only[go_sem,XS,nu,wi];by_cases c:i+(k+1)≤n
  ·have S:(i:Int)+((k+1:Nat):Int)≤(n:Nat):=Om;have d:=aEQ n k a A;have J:=aVN n k a A (Om:i+k<n);have hr:=M (i+1) Om;have F:=mQ n k (i+1);generalize cQ n k (i+1)=R at *
   have γ:R.length≤1099511627776:=by rw[d,a8E,a7W] at J;omega
   simp only[go_sem,S,nv,wZz i,wk];refine aA hr Sq ?_;simp only[go_sem,nw];refine wp_loop (α:=Nat × PV × WPs × PH) (fun s=>((((((PF.nil.set 1 (.int .i64 n)).set 2 (.int .i64 (k+1:Nat))).set 7 (s.2.1)).set 8 (.int .i64 i)).set 9 (lay (fQ R))).set 10 (.int .i64 s.1))) (fun s=>s.2.2.2) (fun s=>s.1≤R.length∧wls s.2.2.1=fQ (chT n k a i++(R.take s.1).map (i::·))∧aN s.2.2.2 [] (dP s.2.1 s.2.2.1)) (fun s=>R.length-s.1) (0,Q,ps,H) ⟨a8C _,by simp only; rw[p]; simp,y⟩ Lq b_ ?_;clear p y;rintro⟨j,Q,ps,H⟩ ⟨hj,p,y⟩;simp only at hj p y;have B:(fQ R).length=R.length:=a7W _;simp only[go_sem,XR,ny,a7W,B];by_cases x:j<R.length
   ·have l:(j:Int)<(R.length:Nat):=Om;have V:((fQ R).map fun r=>[ints r])[j]?=some [ints (bK R[j])]:=by unfold fQ; simp[x]
    have W:R.take (j+1)=R.take j++[R[j]]:=a9U x;have ε:=(F _ (a7Z x)).1;have δ:ps.length≤1099511627776:=by have U:=congrArg List.length p;rw[uR] at U;unfold fQ at U;rw[a7W,a8E,a7W,a8Q] at U;rw[d,a8E,a7W] at J;omega
    generalize R[j]=r at *
    simp only[go_sem,l,nz];refine aR fun o ho=>?_;have h2:=y.anF (s:=1) (rows:=aY [(i:Int)]) ho;simp only[go_sem,l,B,a7W,V];refine h2.append (ps.length+1) (rows:=aY [(i:Int)]) (src:=aY (bK r)) (yI _ _ _ (BO _ _)) rfl (by unfold roomFor; rw[dC,dC,eK]; simp only[a8I,maxLen]; omega) fun v' H' O _=>?_;have N:aY [(i:Int)]++aY (bK r)=aY (bK (i::r)):=rfl;rw[N] at O;have hO:bQ H' 1 v' (aY (bK (i::r))):=O.own (ps.length+1) (by rw[List.getElem?_set_self (by rw[a8E,BO]; simp)]);rcases hO with ⟨h0,-⟩ | ⟨q,rs,rfl,-,-,-⟩
    ·cases h0
    rw[baT _ _ (by rw[BO]; exact a8D _),BO,baX] at O;simp only[go_sem,a8J,a8R,or_false,forall_eq];refine O.append 0 (rows:=cY ps) (src:=[[PV.osl q 1 0 (aY (bK (i::r))).length]]) rfl Sq (by unfold roomFor; rw[kX]; simp only[a8I,maxLen]; omega) fun Y H2 h4 _=>?_;simp only[go_sem,XT,wZz j];refine aD (j+1,Y,ps++[(PV.osl q 1 0 (aY (bK (i::r))).length,bK (i::r))],H2) ⟨x,?_,?_⟩ (by simp only; omega) (by (repeat' (first|exact c_|refine d_ ?_ ?_))<;>first|(simp only[go_sem,B]<;>rfl)|rfl) b_
    ·simp only;rw[W,a8W,← a9G,P6,← p];unfold wls;rw[a8W]; rfl
    ·have e:dP Y (ps++[(PV.osl q 1 0 (aY (bK (i::r))).length,bK (i::r))])=((dP Q ps)++[(PV.osl q 1 0 (aY (bK (i::r))).length,1,aY (bK (i::r)))]).set 0 (Y,1,cY ps++[[PV.osl q 1 0 (aY (bK (i::r))).length]]):=by unfold dP cY mO;rw[a8W,a8W];rfl
     simp only;rw[e];exact h4
   ·have l:¬ (j:Int)<(R.length:Nat):=Om;have:j=R.length:=Om;subst this;rw[a8Y,← d] at p;simp only[go_sem,l,XU,wZz i];exact aD (i+1,Q,ps,H) ⟨by simp only; omega,.inr (by simp only; omega),p,y⟩ (by simp only; omega) Lq b_
  ·have S:¬ (i:Int)+((k+1:Nat):Int)≤(n:Nat):=Om;rw[aEP n k a i K Om] at p;simp only[go_sem,S,XV];rw[← p];exact KP (.inr rfl) Sq y
structure Hj (C:Ctx):Prop where
 allowed:∀ (f:aE) (p:bS) (d:Nat),VF f→Fits p.a6M→d<f.a6L.length→aH C 77 [.agg p.cells,.agg f.cells,.int .i64 d] .nil (aF (.bool (p.a6M.contains ((mdl f d:Nat):Int))))
 count:∀ (f:aE) (row:List Int) (n:Nat),VF f→Hm f row→n<f.a6O.length→aH C 80 [.agg f.cells,ints row,.int .i64 n] .nil (aF (.int .i64 (row.countP (lM f n):Nat)))
 valid:∀ f:aE,f.Ok→aH C 67 [.agg f.cells] .nil (aF (.bool (dS f)))
def kE (f:aE) (p:bS) (set:List Int):Bool:=mL set (fY p) f.a6L.length&&lP f p set
def jS (f:aE) (p:bS) (set:List Int) (i:Nat):Bool:=kP set f.a6L.length i&&mD f p (set.getD i 0)
theorem Ry {f:aE} {p:bS} {set:List Int} (q:(set.length:Int)=fY p):kE f p set=((a7X set.length).all (jS f p set)&&gW f p set):=by
 unfold kE mL lP;rw[decide_eq_true q,a8H,← baZ];congr 1;have e:set.all (mD f p)=(a7X set.length).all fun i=>mD f p (set.getD i 0):=by
  rw[Bool.eq_iff_iff,a8M,a8M];constructor
  ·intro h i hi;have hi:=a9A.1 hi;have c:set.getD i 0=set[i]:=by simp[a8P,hi]
   rw[c]; exact h _ (a7Z hi)
  ·intro h x u;obtain⟨i,hi,rfl⟩:=a9I u;have c:set.getD i 0=set[i]:=by simp[a8P,hi]
   have:=h i (a9A.2 hi)
   rwa [c] at this
 rw[e,Bool.eq_iff_iff,a8O,a8M,a8M,a8M];constructor
 ·rintro⟨d,l⟩ i hi;unfold jS; rw[d i hi,l i hi]; rfl
 ·intro h;refine⟨fun i hi=>?_,fun i hi=>?_⟩
  ·have:=h i hi; unfold jS at this; rw[a8O] at this; exact this.1
  ·have:=h i hi; unfold jS at this; rw[a8O] at this; exact this.2
theorem aRW {f:aE} {p:bS} {set:List Int} (c:(set.length:Int)=fY p) {i:Nat} (hi:i<set.length) (h:jS f p set i=false):kE f p set=false:=by
 rw[Ry c];have:(a7X set.length).all (jS f p set)=false:=by simp only[List.all_eq_false,a9A];exact⟨i,hi,by rw[h]; simp⟩
 rw[this,a8F]
theorem Rx (f:aE) (p:bS) (set:List Int) (k:Nat):(a7X (k+1)).all (jS f p set)=((a7X k).all (jS f p set)&&jS f p set k):=by
 rw[bbI,List.all_append]; simp
theorem Xd {C:Ctx} {K:bR} [Up K] (L:Hj C) (f:aE) (hV:VF f) (p:bS) (set:List Int) (U:Hm f set) {F:PF} {H:PH}
  (M:(((((PF.nil.set 2 (ints set)).set 3 (.bH f.cells)).set 4 (.bH p.cells)).set 8 (.int .i64 1))).le F)
  (O:∀ x H',x 6=some (.bool false)→gW f p set=false→K .ret x H')
  (N:∀ x H',gW f p set=true→K (.exit 2) x H'):aC.wp C (.loop dh) K F H:=by
 have R:=hV.small.a6O;have u:=hV.root.1;refine wp_loop (α:=Nat) (fun k=>((((PF.nil.set 2 (ints set)).set 3 (.bH f.cells)).set 4 (.bH p.cells)).set 8 (.int .i64 k))) (fun _=>H) (fun k=>1≤k∧k≤f.a6O.length∧∀ i,1≤i→i<k→lT f p set i=true) (fun k=>f.a6O.length-k) 1 ⟨a8D _,u,fun i J X=>by omega⟩ M b_ ?_;rintro k ⟨J,Y,d⟩;simp only[go_sem,dh,Rz,a7W];by_cases hlt:k<f.a6O.length
 ·have c:(k:Int)<(f.a6O.length:Nat):=Om;have E:=hV.kA hlt;have V:0≤lvl f k:=E.1;have W:lvl f k<((5:Nat):Int):=Om;have l:=L.count f set k hV U hlt;have Q:fD f set k=((set.countP (lM f k):Nat):Int):=by unfold fD; rw[if_neg Om]
  rw[← Q] at l;have q:lT f p set k=!(decide (p.spread (lvl f k).toNat>0)&&decide (fD f set k>p.spread (lvl f k).toNat)):=by rw[lT,dZ]
  have a7H:lT f p set k=true→∀ i,1≤i→i<k+1→lT f p set i=true:=fun h i B S=>by
   by_cases e:i=k
   ·rw[e]; exact h
   ·exact d i B Om
  have w:lT f p set k=false→gW f p set=false:=LF hlt;simp only[go_sem,c,R0,fG hlt,sX hlt,V,W,Nat.mul_one];rw[Eg p _ (Om:(lvl f k).toNat<5)];by_cases y:p.spread (lvl f k).toNat>0
  ·simp only[go_sem,di,y];refine aA l Sq ?_;by_cases A:fD f set k>p.spread (lvl f k).toNat
   ·simp only[go_sem,A,R1];exact O _ _ Sq (w (by rw[q,decide_eq_true y,decide_eq_true A]; rfl))
   ·simp only[go_sem,A,dj,wZz k];exact aD (k+1) ⟨by omega,hlt,a7H (by rw[q,decide_eq_false A,a9E]; rfl)⟩ Om Lq b_
  ·simp only[go_sem,di,y,dj,wZz k];exact aD (k+1) ⟨by omega,hlt,a7H (by rw[q,decide_eq_false y]; rfl)⟩ Om Lq b_
 ·have c:¬ (k:Int)<(f.a6O.length:Nat):=Om;simp only[go_sem,c];refine N _ _ (p5 hV fun i hi h=>d i ?_ Om);have:=hV.kA hi;rcases baG i with e | e
  ·have:=this.2.2.2 e; omega
  ·omega
theorem aRX {C:Ctx} (L:Hj C) (f:aE) (hV:VF f) (p:bS) (H:Fits p.a6M) (hk:1≤p.k) (β:p.k≤6) (hm:0≤p.m) (γ:p.m≤4) (set:List Int) (hl:set.length≤1000000000000000) :
  SC.wp C (aV aIS.res (aF (.bool (kE f p set)))) (PF.args [.agg f.cells,.agg p.cells,ints set]) .nil:=by
 have hw:IntKind.i64.wrap (p.k+p.m)=p.k+p.m:=wrap_i64 Om Om;have M:fY p=p.k+p.m:=rfl;simp only[go_sem,SC,aeH,aeI,aIS,a7W,hw];by_cases O:(set.length:Int)=p.k+p.m
 ·have w:(set.length:Int)=fY p:=by rw[M]; exact O
  simp only[go_sem,bY O,aeK];refine wp_loop (α:=Nat) (fun k=>((((PF.nil.set 2 (ints set)).set 3 (.bH f.cells)).set 4 (.bH p.cells)).set 7 (.int .i64 k))) (fun _=>.nil) (fun k=>k≤set.length∧(a7X k).all (jS f p set)=true) (fun k=>set.length-k) 0 ⟨a8C _,rfl⟩ Lq a_ ?_;rintro k ⟨hk,l⟩;by_cases hlt:k<set.length
  ·have c:(k:Int)<(set.length:Nat):=Om;have q:(set.map fun n=>[PV.int .i64 n])[k]?=some [.int .i64 set[k]]:=by simp[hlt]
   have S:set.getD k 0=set[k]:=by simp[a8P,hlt]
   have d:jS f p set k=(((decide (0≤set[k])&&decide (set[k]<(f.a6L.length:Nat)))&&(decide (k=0)||decide (set.getD (k-1) 0<set[k])))&&mD f p set[k]):=by rw[jS,kP,S]
   have a7H:jS f p set k=true→(a7X (k+1)).all (jS f p set)=true:=fun h=>by rw[Rx,l,h]; rfl
   have e:=aRW (f:=f) (p:=p) w hlt;have fin:∀ (x:Int) (b:Bool),x=set[k]→0≤x→x<(f.a6L.length:Nat)→aH C 77 [.agg p.cells,.agg f.cells,.int .i64 x] .nil (aF (.bool (mD f p x))):=fun x b _ h0 Q=>by have:=L.allowed f p x.toNat hV H Om;rw[show (x.toNat:Int)=x by omega] at this;exact this
   have fin:=fin set[k] true rfl;generalize set[k]=x at *
   simp only[go_sem,xd,xe,c,a7W];refine bV .nil (cyS (.bool (mD f p x))) a_ ?_;by_cases A:x<0
   ·simp only[go_sem,yO,q,c,A,a7W,yP];exact dR Sq (e (by rw[d,decide_eq_false (Om:¬ 0≤x)]; rfl)).symm
   by_cases N:x≥(f.a6L.length:Nat)
   ·simp only[go_sem,yO,q,c,A,N,a7W,yP];exact dR Sq (e (by rw[d,decide_eq_false (Om:¬ x<(f.a6L.length:Nat)),a9E]; rfl)).symm
   rw[decide_eq_true (Om:0≤x),decide_eq_true (Om:x<(f.a6L.length:Nat)),baD,a8H] at d;have B:=fin Om Om;by_cases W:k=0
   ·subst W;rw[decide_eq_true rfl,Bool.true_or,a8H] at d;simp only[go_sem,yO,q,c,A,N,a7W,show ¬ ((0:Nat):Int)>0 by omega];refine bO rfl B Sq a_ ?_;cases E:mD f p x with
    | true =>rw[E] at d;simp only[go_sem,a8B,xf,wZz 0];exact aD 1 ⟨hlt,a8M.1 (a7H d)⟩ Om Lq a_
    | false =>rw[E] at d;simp only[go_sem,a8N,yP];exact dR Sq (e d).symm
   obtain⟨j,rfl⟩:∃ j,k=j+1:=⟨k-1,by omega⟩;have Y:IntKind.i64.wrap (((j+1:Nat):Int)-1)=(j:Int):=by rw[wrap_i64 Om Om]; omega
   have J:j<set.length:=Om;have u:(j:Int)<(set.length:Nat):=Om;have K:(set.map fun n=>[PV.int .i64 n])[j]?=some [.int .i64 set[j]]:=by simp[J]
   have U:set.getD (j+1-1) 0=set[j]:=by simp[a8P,J]
   rw[U,decide_eq_false W,Bool.false_or] at d;generalize set[j]=y at *
   by_cases X:x≤y
   ·simp only[go_sem,yO,q,c,A,N,a7W,show ((j+1:Nat):Int)>0 by omega,Y,K,u,X,yP];exact dR Sq (e (by rw[d,decide_eq_false (Om:¬ y<x)]; rfl)).symm
   rw[decide_eq_true (Om:y<x),a8H] at d;simp only[go_sem,yO,q,c,A,N,a7W,show ((j+1:Nat):Int)>0 by omega,Y,K,u,X];refine bO rfl B Sq a_ ?_;cases E:mD f p x with
   | true =>rw[E] at d;simp only[go_sem,a8B,xf,cZ (Om:j+1<9223372036854775807)];exact aD (j+1+1) ⟨hlt,a8M.1 (a7H d)⟩ Om Lq a_
   | false =>rw[E] at d;simp only[go_sem,a8N,yP];exact dR Sq (e d).symm
  ·have c:¬ (k:Int)<(set.length:Nat):=Om;have:k=set.length:=Om;subst this;have R:=Ry (f:=f) (p:=p) w;rw[l,a8H] at R;have hr:Hm f set:=⟨by omega,fun x hx=>by
    obtain⟨i,hi,rfl⟩:=a9I hx;have Q:=a8M.1 l i (a9A.2 hi);unfold jS kP at Q;have S:set.getD i 0=set[i]:=by simp[a8P,hi]
    rw[S] at Q;simp only[a8O,decide_eq_true_eq] at Q;omega⟩
   simp only[go_sem,xd,xe,c,a7W,aeL];refine Xd (C:=C) L f hV p set hr Lq ?_ ?_
   ·intro Z H' h6 F;simp only[go_sem];exact dR h6 (R.trans F).symm
   ·intro Z H' V;simp only[go_sem,R2];exact dR Sq (R.trans V).symm
 ·simp only[go_sem,dN O,aeJ];exact dR Sq (show kE f p set=false by unfold kE mL; rw[decide_eq_false (show ¬ (set.length:Int)=fY p from fun h=>O (by rw[h,M]))]; rfl).symm
structure fp (C:Ctx):Prop extends Hj C where
 adm:∀ (f:aE) (p:bS) (set:List Int),VF f→Fits p.a6M→1≤p.k→p.k≤6→0≤p.m→p.m≤4→set.length≤1000000000000000→aH C 213 [.agg f.cells,.agg p.cells,ints set] .nil (aF (.bool (kE f p set)))
 choose:∀ k a n:Nat,k≤10→a≤1000→n≤40→aH C 215 [.int .i64 a,.int .i64 n,.int .i64 k] .nil (aF (lay (fQ (cQ n k a))))
def a3E (name:Nat) (r d:PV):Spec:=fun c _=>if c=name then some ([],fun _=>aF r) else some ([],fun _=>aF d)
theorem awB {C:Ctx} (L:fp C) (f:aE) (x:f.Ok) (a6X:Int) (set:List Int) (A:set.length≤1000000000000000) :
  DS.wp C (aV SD.res (aF (.bool (pC f a6X set)))) (PF.args [.agg f.cells,.int .i64 a6X,ints set]) .nil:=by
 have e:pC f a6X set=(gR f a6X&&kE f (fV f a6X) set):=rfl;have d:gR f a6X=(dS f&&(decide (0≤a6X)&&decide (a6X<f.a6P.length))):=rfl;simp only[go_sem,DS,C3,SD];refine bV .nil (a3E 67 (.bool (dS f)) (.bool (kE f (fV f a6X) set))) a_ ?_;simp only[go_sem,C4];refine bO rfl (L.valid f x) Sq a_ ?_;cases y:dS f with
 | false =>rw[y,a8F] at d;rw[d,a8F] at e;simp only[go_sem];exact dR Sq e.symm
 | true =>
  rw[y,a8H] at d;by_cases u:a6X≥0
  ·rw[decide_eq_true (Om:0≤a6X),a8H] at d;by_cases q:a6X<(f.a6P.length:Nat)
   ·rw[decide_eq_true q] at d;rw[d,a8H] at e;obtain⟨hV,B,F,E⟩:=nS d;obtain⟨p,w⟩:=nJ d;have c:=hV.a6X _ p;have l:=(x.a6X _ p).a6M;have i:(f.a6P.map bS.cells)[a6X.toNat]?=some (fV f a6X).cells:=by rw[a8V,w]; rfl
    simp only[go_sem,u,q,a7W,i];refine bO rfl (L.adm f (fV f a6X) set hV l c.1 c.2.1 c.2.2.1 c.2.2.2.1 A) Sq a_ ?_;simp only[go_sem];exact dR Sq e.symm
   ·rw[decide_eq_false q] at d;rw[d,a8F] at e;simp only[go_sem,u,q,a7W];exact dR Sq e.symm
  ·rw[decide_eq_false (Om:¬ 0≤a6X),a8F] at d;rw[d,a8F] at e;simp only[go_sem,u,a7W];exact dR Sq e.symm
theorem aJK {f:aE} (hV:VF f) (p:bS) (y:1≤p.k) (A:0≤p.m):nZ f p=(fQ (cQ f.a6L.length (fY p).toNat 0)).filter (kE f p):=by
 unfold nZ fQ;refine List.filter_congr fun x q=>?_;obtain⟨s,u,rfl⟩:=a8Z.1 q;obtain⟨k1,k2,w⟩:=mQ _ _ _ _ u;have e:((fY p).toNat:Int)=fY p:=by unfold fY; omega
 have h:mL (bK s) (fY p) f.a6L.length=true:=by
  rw[← e];unfold mL;rw[eK,k1,decide_eq_true rfl,a8H];simp only[a8M,a9A];intro i hi;have d:i<s.length:=Om;have g:(bK s).getD i 0=(s[i]:Nat):=by unfold bK; simp[a8P,d]
  unfold kP;rw[g];have q:=(k2 _ (a7Z d)).2;simp only[a8O,Bool.or_eq_true,decide_eq_true_eq];refine⟨by omega,?_⟩;by_cases c:i=0
  ·exact .inl c
  ·right;have l:i-1<s.length:=Om;have g2:(bK s).getD (i-1) 0=(s[i-1]:Nat):=by unfold bK; simp[a8P,l]
   rw[g2];have:=List.pairwise_iff_getElem.1 w (i-1) i l d Om;omega
 unfold kE;rw[h,a8H]
def mV (c:List (List Int)):List (List PV):=c.map fun w=>[ints w]
theorem SL (c:List (List Int)):(mV c).length=c.length:=a7W _
theorem Xg (d:List (List Int)):oF (mV d) d:=by
 refine⟨SL d,fun i r w c e=>.inl ?_⟩;unfold mV at c;rw[a8V,e] at c;injection c with c
 exact c.symm
theorem anW {res:List dV} {F:PF} {H:PH} {i:PV} {d:List (List Int)} {c:Int} {e:kM} (A:e=.normal∨e=.ret) (h:dV.evs F H res=some [i,.int .i64 c]) (x:aN H [] [(i,1,mV d)]):aV res (bZ (.tup [lists d,.int .i64 c])) e F H:=by
 have l:aN H [] ((i,1,mV d++cY [])::mO []):=by rw[show mV d++cY []=mV d from a9W _]; exact x
 obtain⟨φ,J,k1,-,B,-,E,-⟩:=zU [] (mV d) d (Xg d) l (fun b y=>by cases y);rw[show d++wls []=d from a9W _] at k1;refine yQ A h ⟨_,_,.nil,E _,a_,φ (bP [i,.int .i64 c]),?_,?_⟩
 ·rw[yS,kD,if_pos rfl]; rfl
 ·show bZ _ (φ (.tup [i,.int .i64 c])) .nil;rw[B];refine⟨.tup rfl fun j p q u w=>?_,rfl⟩
  match j with
  | 0=>cases u; cases w; exact k1
  | 1=>cases u; cases w; exact .refl _
  | j+2=>cases u
theorem aRZ {C:Ctx} (L:fp C) (f:aE) (hf:f.Ok) (a6X:Int) :
  SE.wp C (aV xg.res (bZ (.tup [lay (sI f a6X),.int .i64 (pD f a6X)]))) (PF.args [.agg f.cells,.int .i64 a6X]) .nil:=by
 have hB:sI f a6X=if pD f a6X=0 then nZ f (fV f a6X) else []:=rfl
 have l:pD f a6X=if gR f a6X then (if f.a6L.length>12 then 2 else 0) else 1:=rfl
 have x:gR f a6X=(dS f&&(decide (0≤a6X)&&decide (a6X<f.a6P.length))):=rfl;have Q:∀ F:PF,gR f a6X=false→F 4=some .aB→F 5=some (.int .i64 1)→aV [.tmp 4,.tmp 5] (bZ (.tup [lay (sI f a6X),.int .i64 (pD f a6X)])) .ret F .nil:=by intro F hk h1 h2;rw[hk,if_neg (by decide)] at l;rw[l,if_neg (by decide)] at hB;rw[hB,l];exact nK (.inr rfl) (by simp only[go_sem,h1,h2]) (aN.tA aN.nil)
 simp only[go_sem,SE,aeM,aeN,xg];refine aA (L.valid f hf) Ev ?_;cases hp:dS f with
 | false =>simp only[go_sem,a8N,VG];exact Q _ (by rw[x,hp]; rfl) Sq Sq
 | true =>
 rw[hp,a8H] at x;by_cases O:a6X<0
 ·simp only[go_sem,a8B,O,VG];exact Q _ (by rw[x,decide_eq_false (Om:¬ 0≤a6X)]; rfl) Sq Sq
 by_cases R:a6X≥(f.a6P.length:Nat)
 ·simp only[go_sem,a8B,O,R,a7W,VG];exact Q _ (by rw[x,decide_eq_false (Om:¬ a6X<(f.a6P.length:Nat)),a9E]) Sq Sq
 rw[decide_eq_true (Om:0≤a6X),decide_eq_true (Om:a6X<(f.a6P.length:Nat)),bbA] at x;rw[x,if_pos rfl] at l;obtain⟨hV,h0,hm,he⟩:=nS x;obtain⟨N,U⟩:=nJ x;have d:=hV.a6X _ N;have M:=(hf.a6X _ N).a6M;have K:(f.a6P.map bS.cells)[a6X.toNat]?=some (fV f a6X).cells:=by rw[a8V,U]; rfl
 by_cases c:f.a6L.length>12
 ·rw[if_pos c] at l;rw[l,if_neg (by decide)] at hB;rw[hB,l];simp only[go_sem,a8B,O,R,a7W,xh,show (f.a6L.length:Int)>12 by omega,aeO];exact nK (.inr rfl) Sq (aN.tA aN.nil)
 rw[if_neg c] at l;rw[l,if_pos rfl,aJK hV _ d.1 d.2.2.1] at hB;rw[hB,l];clear hB l Q;generalize fV f a6X=p at *
 obtain⟨n,W⟩:∃ n:Nat,(n:Int)=fY p:=⟨(p.k+p.m).toNat,by unfold fY; omega⟩;have ε:1≤n∧n≤10:=by unfold fY at W; omega
 have hw:IntKind.i64.wrap (p.k+p.m)=(n:Int):=by rw[W]; exact wrap_i64 Om Om
 have hlt:a6X<(f.a6P.length:Nat):=Om;have V:=L.choose n 0 f.a6L.length Om Om Om;have E:=fun (set:List Int) (hs:set.length≤1000000000000000)=>L.adm f p set hV M d.1 d.2.1 d.2.2.1 d.2.2.2.1 hs;have J:=mQ f.a6L.length n 0;have η:=pS f.a6L.length n 0;have β:2 ^ (f.a6L.length-0)≤2 ^ 12:=baW Om Om;have γ:(2:Nat) ^ 12=4096:=by decide
 rw[← W,a9Q];generalize cQ f.a6L.length n 0=S at *
 simp only[go_sem,a8B,O,R,a7W,xh,show ¬ (f.a6L.length:Int)>12 by omega,aeP,h0,hlt,K];refine aR fun q hq=>?_;simp only[go_sem,aeQ,aeR,a7W,hw];refine aA V (by simp only[go_sem]; rfl) ?_;simp only[go_sem,aeS];have B:aN (PH.nil.set q (.rows 17 [p.cells])) [(q,.rows 17 [p.cells])] [(.aB,1,mV [])]:=((aN.nil (H:=PH.nil)).new hq _).nC 1;refine wp_loop (α:=Nat × PV × PH) (fun s=>(((((PF.nil.set 2 (.bH f.cells)).set 6 (.ptr q 17 0 0)).set 7 (s.2.1)).set 8 (lay (fQ S))).set 9 (.int .i64 s.1))) (fun s=>s.2.2) (fun s=>s.1≤S.length∧aN s.2.2 [(q,.rows 17 [p.cells])] [(s.2.1,1,mV ((fQ (S.take s.1)).filter (kE f p)))]) (fun s=>S.length-s.1) (0,.aB,_) ⟨a8C _,B⟩ Lq b_ ?_;clear B hq;rintro⟨j,v,H⟩ ⟨hj,A⟩;simp only at hj A;have u:(fQ S).length=S.length:=a7W _;simp only[go_sem,R3,aeT,a7W,u];by_cases w:j<S.length
 ·have e:(j:Int)<(S.length:Nat):=Om;have y:((fQ S).map fun r=>[ints r])[j]?=some [ints (bK S[j])]:=by unfold fQ; simp[w]
  have Y:S.take (j+1)=S.take j++[S[j]]:=a9U w;have ζ:=(J _ (a7Z w)).1;generalize S[j]=r at *
  have i:(fQ (S.take (j+1))).filter (kE f p)=(fQ (S.take j)).filter (kE f p)++if kE f p (bK r) then [bK r] else []:=by rw[Y,P6,List.filter_append];congr 1;unfold fQ;by_cases cc:kE f p (bK r)<;>simp[cc]
  have δ:((fQ (S.take j)).filter (kE f p)).length≤4096:=by refine a9J (bbT ..) ?_;unfold fQ;rw[a7W,a8Q]; omega
  have X:=A.at 0 rfl;simp only[go_sem,e];refine bV .nil (cyS (.bool (kE f p (bK r)))) a_ ?_;simp only[go_sem,R4,X,e,u,a7W,y];refine bO rfl (E (bK r) (by rw[eK]; omega)) Sq a_ ?_;cases hb:kE f p (bK r) with
  | true =>rw[hb,if_pos rfl] at i;simp only[go_sem,R5,e,u,a7W,y];refine A.append 0 (rows:=mV ((fQ (S.take j)).filter (kE f p))) (src:=[[ints (bK r)]]) rfl Sq (by unfold roomFor; rw[SL]; simp only[a8I,maxLen]; omega) fun v' H' Z _=>?_;simp only[go_sem,dk,wZz j];refine aD (j+1,v',H') ⟨w,?_⟩ (by simp only; omega) (by (repeat' (first|exact c_|refine d_ ?_ ?_))<;>first|(simp only[go_sem,u]<;>rfl)|rfl) b_;simp only;rw[i];unfold mV at Z ⊢;rw[a8W];exact Z
  | false =>rw[hb,if_neg (by decide),a9W] at i;simp only[go_sem,dk,wZz j];refine aD (j+1,v,H) ⟨w,?_⟩ (by simp only; omega) (by (repeat' (first|exact c_|refine d_ ?_ ?_))<;>first|(simp only[go_sem,u]<;>rfl)|rfl) b_;simp only;rw[i];exact A
 ·have e:¬ (j:Int)<(S.length:Nat):=Om;have:j=S.length:=Om;subst this;rw[a8Y] at A;simp only[go_sem,e,R6];exact anW (.inr rfl) Sq (A.sO 0)
structure fq (C:Ctx):Prop extends fp C where
 a6L:∀ (f:aE) (dom:Int),f.Ok→aH C 81 [.agg f.cells,.int .i64 dom] .nil (aF (ints (FJ f dom)))
 has:∀ (l:List Int) (x:Int),l.length≤1000000000000000→aH C 218 [ints l,.int .i64 x] .nil (aF (.bool (l.contains x)))
theorem We {f:aE} (c:dS f=true) {lv:Int} {i:Nat} (hi:i<f.a6O.length) (h:lvl f i=lv):FJ f i=bK (nB f lv f.a6L.length i):=by
 unfold FJ;rw[if_pos ⟨c,by omega,by omega⟩];subst h;rfl
def xJ (f:aE) (lv:Int) (k:Nat):List (List Int):=((a7X k).filter (IP f lv)).map fun i=>bK (nB f lv f.a6L.length i)
theorem aoB (f:aE) (lv:Int) (k:Nat):xJ f lv (k+1)=if lvl f k=lv then xJ f lv k++[bK (nB f lv f.a6L.length k)] else xJ f lv k:=by
 unfold xJ;rw[bbI,List.filter_append,a8W];by_cases h:lvl f k=lv
 ·rw[if_pos h]; simp[IP,h]
 ·rw[if_neg h]; simp[IP,h]
theorem awG (f:aE) (lv:Int) (k:Nat):(xJ f lv k).length≤k:=by
 unfold xJ;rw[a7W];exact a9J (bbT ..) (by simp)
theorem awL {C:Ctx} (L:fq C) (f:aE) (A:f.Ok) (x:dS f=true) (lv:Int) (E:1≤lv) (h5:lv≤5) :
  DT.wp C (aV Sw.res (bZ (lay (fF f lv)))) (PF.args [.agg f.cells,.int .i64 lv]) .nil:=by
 have hV:=VF.of x;have F:=hV.small.a6L;have y:=hV.small.a6O;simp only[go_sem,DT,Dt,Du,Dv,Sw];by_cases u:lv=5
 ·subst u;rw[E0];simp only[go_sem,bL (show (5:Int)=5 from rfl),Dw];refine wp_loop (α:=Nat × PV × PH) (fun s=>(((PF.nil.set 2 (.bH f.cells)).set 5 (s.2.1)).set 6 (.int .i64 s.1))) (fun s=>s.2.2) (fun s=>s.1≤f.a6L.length∧bQ s.2.2 1 s.2.1 (xI s.1)) (fun s=>f.a6L.length-s.1) (0,.aB,.nil) ⟨a8C _,.nil⟩ Lq b_ ?_;rintro⟨k,v,H⟩ ⟨w,p⟩;simp only at w p;simp only[go_sem,Ds,Dx,a7W];by_cases hlt:k<f.a6L.length
  ·have d:(k:Int)<(f.a6L.length:Nat):=Om;simp only[go_sem,d,Dy];refine fI (src:=[[ints [(k:Int)]]]) p (by simp only[go_sem]; rfl) (by unfold roomFor; rw[Da]; simp only[a8I,maxLen]; omega) fun v' H' l _=>?_;rw[← oq] at l;simp only[go_sem,Dz,wZz k];exact aD (k+1,v',H') ⟨hlt,l⟩ (by simp only; omega) Lq b_
  ·have d:¬ (k:Int)<(f.a6L.length:Nat):=Om;have:k=f.a6L.length:=Om;subst this;simp only[go_sem,d,D0];exact qN (.inr rfl) p Sq
 rw[d6 f u];simp only[go_sem,bF u,D1];refine wp_loop (α:=Nat × PV × PH) (fun s=>((((PF.nil.set 1 (.int .i64 lv)).set 2 (.bH f.cells)).set 5 (s.2.1)).set 7 (.int .i64 s.1))) (fun s=>s.2.2) (fun s=>s.1≤f.a6O.length∧bQ s.2.2 1 s.2.1 (mV (xJ f lv s.1))) (fun s=>f.a6O.length-s.1) (0,.aB,.nil) ⟨a8C _,.nil⟩ Lq b_ ?_;rintro⟨k,v,H⟩ ⟨w,p⟩;simp only at w p;simp only[go_sem,ou,ov,a7W];by_cases hlt:k<f.a6O.length
 ·have d:(k:Int)<(f.a6O.length:Nat):=Om;have i:=aoB f lv k;have B:=awG f lv k;simp only[go_sem,d,ow,fG hlt,sX hlt];by_cases c:lvl f k=lv
  ·rw[if_pos c] at i;have q:=L.a6L f k A;rw[We x hlt c] at q;simp only[go_sem,bL c,oz];refine aA q Sq ?_;simp only[go_sem];refine fI (src:=[[ints (bK (nB f lv f.a6L.length k))]]) p Sq (by unfold roomFor; rw[SL]; simp only[a8I,maxLen]; omega) fun v' H' l _=>?_;have e:mV (xJ f lv k)++[[ints (bK (nB f lv f.a6L.length k))]]=mV (xJ f lv (k+1)):=by rw[i]; unfold mV; rw[a8W]; rfl
   rw[e] at l;simp only[go_sem,KW,wZz k];exact aD (k+1,v',H') ⟨hlt,l⟩ (by simp only; omega) Lq b_
  ·rw[if_neg c] at i;rw[← i] at p;simp only[go_sem,bF c,KW,wZz k];exact aD (k+1,v,H) ⟨hlt,p⟩ (by simp only; omega) Lq b_
 ·have d:¬ (k:Int)<(f.a6O.length:Nat):=Om;have:k=f.a6O.length:=Om;subst this;simp only[go_sem,d,o9];exact qN (.inr rfl) p Sq
theorem aIW {C:Ctx} (L:fq C) (sc:List (List Int)) (H:sc.length≤1000000000000000) (A:∀ s∈sc,s.length≤1000000000000000) (set:List Int) (K:set.length≤1000000000000000) (m:Int) :
  KT.wp C (aV anZ.res (aF (.int .i64 (sV sc set m:Nat)))) (PF.args [lay sc,ints set,.int .i64 m]) .nil:=by
 simp only[go_sem,KT,Sa,Sb,Sd,anZ];refine wp_loop (α:=Nat) (fun i=>(((((PF.nil.set 0 (lay sc)).set 1 (ints set)).set 2 (.int .i64 m)).set 7 (.int .i64 ((sc.take i).countP fun s=>decide (((iY s set:Nat):Int)>m):Nat))).set 8 (.int .i64 i))) (fun _=>.nil) (fun i=>i≤sc.length) (fun i=>sc.length-i) 0 (a8C _) Lq a_ ?_;intro i hi;simp only[go_sem,C7,Se,a7W];by_cases hlt:i<sc.length
 ·have q:(i:Int)<(sc.length:Nat):=Om;have w:(sc.map fun r=>[ints r])[i]?=some [ints sc[i]]:=by simp[hlt]
  have p:=uT (fun s=>decide (((iY s set:Nat):Int)>m)) sc hlt;have k1:=A sc[i] (a7Z hlt);have F:(sc.take i).countP (fun s=>decide (((iY s set:Nat):Int)>m))≤i:=a9J List.countP_le_length (by rw[a8Q]; omega);generalize (sc.take i).countP (fun s=>decide (((iY s set:Nat):Int)>m))=n at *
  generalize sc[i]=s at *
  simp only[go_sem,q,Sf,Sg];refine wp_loop (α:=Nat) (fun j=>(((((((PF.nil.set 0 (lay sc)).set 1 (ints set)).set 2 (.int .i64 m)).set 7 (.int .i64 n)).set 8 (.int .i64 i)).set 9 (.int .i64 ((set.take j).countP fun d=>s.contains d:Nat))).set 10 (.int .i64 j))) (fun _=>.nil) (fun j=>j≤set.length) (fun j=>set.length-j) 0 (a8C _) Lq a_ ?_;intro j J;simp only[go_sem,C6,Sh,a7W];by_cases u:j<set.length
  ·have l:(j:Int)<(set.length:Nat):=Om;have y:(set.map fun n=>[PV.int .i64 n])[j]?=some [.int .i64 set[j]]:=by simp[u]
   have e:=uT (fun d=>s.contains d) set u;have E:(set.take j).countP (fun d=>s.contains d)≤j:=a9J List.countP_le_length (by rw[a8Q]; omega);generalize (set.take j).countP (fun d=>s.contains d)=b at *
   generalize set[j]=d at *
   simp only[go_sem,l];refine bV .nil (cyS (.bool (s.contains d))) a_ ?_;simp only[go_sem,Si,q,w,a7W,l,y];refine bO rfl (L.has s d k1) Sq a_ ?_;cases B:s.contains d with
   | true =>rw[B] at e;simp only[go_sem,Sj,wZz b,dp,wZz j];exact aD (j+1) u Om (by (repeat' (first|exact c_|refine d_ ?_ ?_))<;>first|(simp only[go_sem,e,sR]<;>rfl)|rfl) a_
   | false =>rw[B] at e;simp only[go_sem,dp,wZz j];exact aD (j+1) u Om (by (repeat' (first|exact c_|refine d_ ?_ ?_))<;>first|(simp only[go_sem,e,sR]<;>rfl)|rfl) a_
  ·have l:¬ (j:Int)<(set.length:Nat):=Om;have:j=set.length:=Om;subst this;have x:set.countP (fun d=>s.contains d)=iY s set:=rfl;rw[a8Y,x];by_cases c:((iY s set:Nat):Int)>m
   ·rw[decide_eq_true c] at p;simp only[go_sem,l,SJ,c,C8,wZz n,SK,wZz i];exact aD (i+1) hlt Om (by (repeat' (first|exact c_|refine d_ ?_ ?_))<;>first|(simp only[go_sem,p,sR]<;>rfl)|rfl) a_
   ·rw[decide_eq_false c] at p;simp only[go_sem,l,SJ,c,SK,wZz i];exact aD (i+1) hlt Om (by (repeat' (first|exact c_|refine d_ ?_ ?_))<;>first|(simp only[go_sem,p,sR]<;>rfl)|rfl) a_
 ·have q:¬ (i:Int)<(sc.length:Nat):=Om;have:i=sc.length:=Om;subst this;rw[a8Y];simp only[go_sem,q,C9];refine aQ (.inr rfl) Ev ?_;rfl
structure FB (C:Ctx):Prop extends fq C where
 units:∀ (f:aE) (lv:Int),f.Ok→dS f=true→1≤lv→lv≤5→aH C 217 [.agg f.cells,.int .i64 lv] .nil (aF (lay (fF f lv)))
theorem aJB {C:Ctx} {K:bR} [Up K] (L:FB C) (w:PV) (U:List (List Int)) {n:Nat} (W:UOk n U) (S:List (List Nat)) (j:Nat) (Z:j<S.length) (s:List Nat) (X:S[j]?=some s) (J:∀ x∈s,x<U.length) (Y:s.length≤1000) (O v:PV) (d:Nat) {F:PF} {H:PH}
  (R:((((((((((PF.nil.set 2 (w)).set 6 (lay U)).set 9 (lay (fQ S))).set 10 (O)).set 11 (.int .i64 j)).set 12 (v)).set 13 (.int .i64 d)).set 14 (.bool false)).set 15 (.int .i64 0))).le F)
  (V:K (.exit 6) (((((((((PF.nil.set 2 (w)).set 6 (lay U)).set 9 (lay (fQ S))).set 10 (O)).set 11 (.int .i64 j)).set 12 (v)).set 13 (.int .i64 d)).set 14 (.bool (jF U s d)))) H):aC.wp C (.loop SN) K F H:=by
 have p:(j:Int)<(S.length:Nat):=Om;have i:(fQ S).length=S.length:=a7W _;have l:((fQ S).map fun r=>[ints r])[j]?=some [ints (bK s)]:=by unfold fQ; rw[a8V,a8V,X]; rfl
 have q:(bK s).length=s.length:=eK s;refine wp_loop (α:=Nat) (fun k=>(((((((((PF.nil.set 2 (w)).set 6 (lay U)).set 9 (lay (fQ S))).set 10 (O)).set 11 (.int .i64 j)).set 12 (v)).set 13 (.int .i64 d)).set 14 (.bool (jF U (s.take k) d))).set 15 (.int .i64 k))) (fun _=>H) (fun k=>k≤s.length) (fun k=>s.length-k) 0 (a8C _) R b_ ?_;intro k hk;simp only[go_sem,SN,Dp,p,i,a7W,l,q];by_cases hlt:k<s.length
 ·have e:(k:Int)<(s.length:Nat):=Om;have E:((bK s).map fun n=>[PV.int .i64 n])[k]?=some [.int .i64 (s[k]:Nat)]:=uG hlt;have M:=J s[k] (a7Z hlt);have N:((s[k]:Nat):Int)<(U.length:Nat):=Om;have B:=W.at_ U[s[k]] (a7Z M);have A:U.getD s[k] []=U[s[k]]:=by simp[a8P,M]
  have y:(U.map fun r=>[ints r])[s[k]]?=some [ints U[s[k]]]:=by simp[M]
  have c:jF U (s.take (k+1)) d=(jF U (s.take k) d||(U[s[k]]).contains (d:Int)):=by unfold jF;rw[a9U hlt,List.any_append,← A]; simp
  generalize U[s[k]]=u at *
  generalize s[k]=x at *
  cases Q:jF U (s.take k) d with
  | true =>rw[Q,Bool.true_or] at c;simp only[go_sem,e,SR,SS,wZz k];exact aD (k+1) hlt Om (by (repeat' (first|exact c_|refine d_ ?_ ?_))<;>first|(simp only[go_sem,c,i]<;>rfl)|rfl) b_
  | false =>rw[Q,Bool.false_or] at c;simp only[go_sem,e,SR,p,i,a7W,l,q,E,N,y];refine aA (L.has u d (by have:=B.1; omega)) Sq ?_;simp only[go_sem,SS,wZz k];exact aD (k+1) hlt Om (by (repeat' (first|exact c_|refine d_ ?_ ?_))<;>first|(simp only[go_sem,c,i]<;>rfl)|rfl) b_
 ·have e:¬ (k:Int)<(s.length:Nat):=Om;have:k=s.length:=Om;subst this;rw[a8Y];simp only[go_sem,e];exact Up.up (by (repeat' (first|exact c_|refine d_ ?_ ?_))<;>first|(simp only[go_sem,i]<;>rfl)|rfl) V
def dnL (U:List (List Int)) (s:List Nat) (d:Nat):List Int:=bK ((a7X d).filter (jF U s))
theorem aFJ (U:List (List Int)) (s:List Nat) (d:Nat):dnL U s (d+1)=if jF U s d then dnL U s d++[(d:Int)] else dnL U s d:=by
 unfold dnL;rw[bbI,List.filter_append,P5];by_cases h:jF U s d
 ·rw[if_pos h]; simp[bK,h]
 ·rw[if_neg h]; simp[bK,h]
theorem aPJ (U:List (List Int)) (s:List Nat) (d:Nat):(dnL U s d).length≤d:=by
 unfold dnL;rw[eK];exact a9J (bbT ..) (by simp)
theorem awK {C:Ctx} {K:bR} [Up K] (L:FB C) (f:aE) (R:f.a6L.length≤24) (U:List (List Int)) {n:Nat} (N:UOk n U) (S:List (List Nat)) (j:Nat) (O:j<S.length) (s:List Nat) (Q:S[j]?=some s) (w:∀ x∈s,x<U.length) (u:s.length≤1000) (p:PV) {F:PF} {H:PH} {Ls:List LI}
  (i:aN H [] Ls)
  (J:((((((((PF.nil.set 2 (.bH f.cells)).set 6 (lay U)).set 9 (lay (fQ S))).set 10 (p)).set 11 (.int .i64 j)).set 12 (.aB)).set 13 (.int .i64 0))).le F)
  (M:∀ v H',aN H' [] (Ls++[(v,1,aY (dnL U s f.a6L.length))])→K (.exit 4) (((((((PF.nil.set 2 (.bH f.cells)).set 6 (lay U)).set 9 (lay (fQ S))).set 10 (p)).set 11 (.int .i64 j)).set 12 (v))) H'):aC.wp C (.loop SO) K F H:=by
 refine wp_loop (α:=Nat × PV × PH) (fun t=>(((((((PF.nil.set 2 (.bH f.cells)).set 6 (lay U)).set 9 (lay (fQ S))).set 10 (p)).set 11 (.int .i64 j)).set 12 (t.2.1)).set 13 (.int .i64 t.1))) (fun t=>t.2.2) (fun t=>t.1≤f.a6L.length∧aN t.2.2 [] (Ls++[(t.2.1,1,aY (dnL U s t.1))])) (fun t=>f.a6L.length-t.1) (0,.aB,H) ⟨a8C _,i.nC 1⟩ J b_ ?_;clear i;rintro⟨d,v,y⟩ ⟨q,i⟩;simp only at q i;simp only[go_sem,SO,Dm,a7W];by_cases hlt:d<f.a6L.length
 ·have e:(d:Int)<(f.a6L.length:Nat):=Om;have c:=aFJ U s d;have E:=aPJ U s d;simp only[go_sem,e,Dn,Do];have inn:=fun {K:bR} [Up K] {F:PF} {H:PH}=>aJB (C:=C) (K:=K) L (.bH f.cells) U N S j O s Q w u p v d (F:=F) (H:=H);refine inn Lq ?_;cases B:jF U s d with
  | true =>
   rw[B,if_pos rfl] at c;simp only[go_sem,ST,Dq];refine i.append Ls.length (rows:=aY (dnL U s d)) (src:=[[.int .i64 d]]) (yI _ _ _ rfl) Sq (by unfold roomFor; rw[dC]; simp only[a8I,maxLen]; omega) fun v' H' A _=>?_;have l:aY (dnL U s d)++[[.int .i64 d]]=aY (dnL U s (d+1)):=by rw[c,zQ]; rfl
   rw[l,baT _ _ (a8D _),baX] at A;simp only[go_sem,SU,wZz d];exact aD (d+1,v',H') ⟨hlt,A⟩ (by simp only; omega) Lq b_
  | false =>rw[B,if_neg (by decide)] at c;rw[← c] at i;simp only[go_sem,ST,SU,wZz d];exact aD (d+1,v,y) ⟨hlt,i⟩ (by simp only; omega) Lq b_
 ·have e:¬ (d:Int)<(f.a6L.length:Nat):=Om;have:d=f.a6L.length:=Om;subst this;simp only[go_sem,e];exact Up.up Lq (M v y i)
theorem awJ {C:Ctx} {K:bR} [Up K] (L:FB C) (f:aE) (Q:f.a6L.length≤24) (U:List (List Int)) {n:Nat} (O:UOk n U) (S:List (List Nat)) (M:∀ s∈S,s.length≤1000∧∀ x∈s,x<U.length) (N:S.length≤1099511627776) {F:PF} {H:PH}
  (B:((((((PF.nil.set 2 (.bH f.cells)).set 6 (lay U)).set 9 (lay (fQ S))).set 10 (.aB)).set 11 (.int .i64 0))).le F)
  (E:∀ l ps H',aN H' [] (dP l ps)→wls ps=S.map (fun s=>dnL U s f.a6L.length)→K (.exit 2) ((PF.nil.set 10 (l))) H'):aC.wp C (.loop SP) K F H:=by
 refine wp_loop (α:=Nat × PV × WPs × PH) (fun t=>(((((PF.nil.set 2 (.bH f.cells)).set 6 (lay U)).set 9 (lay (fQ S))).set 10 (t.2.1)).set 11 (.int .i64 t.1))) (fun t=>t.2.2.2) (fun t=>t.1≤S.length∧wls t.2.2.1=(S.take t.1).map (fun s=>dnL U s f.a6L.length)∧aN t.2.2.2 [] (dP t.2.1 t.2.2.1)) (fun t=>S.length-t.1) (0,.aB,[],.nil) ⟨a8C _,rfl,aN.tA aN.nil⟩ B a_ ?_;rintro⟨j,l,ps,H⟩ ⟨R,y,A⟩;simp only at R y A;have i:(fQ S).length=S.length:=a7W _;simp only[go_sem,SP,Dj,a7W,i];by_cases hlt:j<S.length
 ·have c:(j:Int)<(S.length:Nat):=Om;obtain⟨s1,s2⟩:=M S[j] (a7Z hlt);have V:ps.length≤1099511627776:=by rw[← uR,y,a7W,a8Q]; omega
  have w:(S.take (j+1)).map (fun s=>dnL U s f.a6L.length)=wls ps++[dnL U S[j] f.a6L.length]:=by rw[a9U hlt,a8W,← y]; rfl
  have one:=fun {K:bR} [Up K] {F:PF} {H:PH}=>awK (C:=C) (K:=K) L f Q U O S j hlt S[j] (a8K hlt) s2 s1 l (F:=F) (H:=H) (Ls:=dP l ps);simp only[go_sem,c,Dk,Dl];refine one A (by (repeat' (first|exact c_|refine d_ ?_ ?_))<;>first|(simp only[go_sem,i]<;>rfl)|rfl) fun v H2 h5=>?_;have J:=h5.own (dP l ps).length (yI _ _ _ rfl);generalize dnL U S[j] f.a6L.length=D at *
  have p:roomFor (cY ps).length 1 24:=by unfold roomFor; rw[kX]; simp only[maxLen]; omega
  have fin:∀ (d:PV) (H':PH),aN H' [] ((dP l ps++[(v,1,aY D)]).set 0 (d,1,cY ps++[[v]]))→aN H' [] (dP d (ps++[(v,D)]))∧wls (ps++[(v,D)])=wls ps++[D]:=by
   intro d H' u;refine⟨?_,?_⟩
   ·have e:dP d (ps++[(v,D)])=(dP l ps++[(v,1,aY D)]).set 0 (d,1,cY ps++[[v]]):=by unfold dP cY mO;rw[a8W,a8W];rfl
    rw[e];exact u
   ·unfold wls;rw[a8W]; rfl
  rcases J with ⟨-,rfl⟩ | ⟨q,rs,rfl,-,-,-⟩
  ·simp only[go_sem,SV,a8J,a8R,or_false,forall_eq];refine h5.append 0 (rows:=cY ps) (src:=[[PV.aB]]) rfl Sq p fun d H' u _=>?_;obtain⟨k1,k2⟩:=fin d H' u;simp only[go_sem,SW,wZz j];exact aD (j+1,d,_,H') ⟨hlt,k2.trans w.symm,k1⟩ (by simp only; omega) (by (repeat' (first|exact c_|refine d_ ?_ ?_))<;>first|(simp only[go_sem,i]<;>rfl)|rfl) b_
  ·simp only[go_sem,SV,a8J,a8R,or_false,forall_eq];refine h5.append 0 (rows:=cY ps) (src:=[[PV.osl q 1 0 (aY D).length]]) rfl Sq p fun d H' u _=>?_;obtain⟨k1,k2⟩:=fin d H' u;simp only[go_sem,SW,wZz j];exact aD (j+1,d,_,H') ⟨hlt,k2.trans w.symm,k1⟩ (by simp only; omega) (by (repeat' (first|exact c_|refine d_ ?_ ?_))<;>first|(simp only[go_sem,i]<;>rfl)|rfl) b_
 ·have c:¬ (j:Int)<(S.length:Nat):=Om;have:j=S.length:=Om;subst this;rw[a8Y] at y;simp only[go_sem,c];exact Up.up Lq (E l ps H A y)
theorem aJC {C:Ctx} (L:FB C) (f:aE) (X:f.Ok) (lv c:Int) :
  KU.wp C (aV ot.res (bZ (.tup [lay (jU f lv c),.int .i64 (eS f lv c)]))) (PF.args [.agg f.cells,pZ lv c]) .nil:=by
 have hB:jU f lv c=if eS f lv c=0 then nU f (fF f lv) c.toNat else []:=rfl
 have A:eS f lv c=if dS f&&(decide (1≤lv)&&decide (lv≤5)&&decide (1≤c)&&decide (c≤3)) then (if 12<f.a6L.length∨512<dD ((fF f lv).length:Nat) c.toNat then 2 else 0) else 1:=rfl
 have l:∀ (e:Int) (F:PF),e≠0→eS f lv c=e→F 4=some .aB→F 5=some (.int .i64 e)→aV [.tmp 4,.tmp 5] (bZ (.tup [lay (jU f lv c),.int .i64 (eS f lv c)])) .ret F .nil:=by intro e F he d h2 h3;rw[d,if_neg he] at hB;rw[hB,d];exact nK (.inr rfl) (by simp only[go_sem,h2,h3]) (aN.tA aN.nil)
 have E:(dS f&&(decide (1≤lv)&&decide (lv≤5)&&decide (1≤c)&&decide (c≤3)))=false→eS f lv c=1:=fun h=>by rw[A,h]; rfl
 simp only[go_sem,KU,Sl,Sm,ot];refine aA (L.valid f X) Ev ?_;cases J:dS f with
 | false =>have d:=E (by rw[J]; rfl);simp only[go_sem,a8N,uK];exact l 1 _ (by decide) d Sq Sq
 | true =>
  have hV:=VF.of J;by_cases w:lv<1
  ·have d:=E (by rw[decide_eq_false (Om:¬ 1≤lv)]; simp);simp only[go_sem,a8B,w,uK];exact l 1 _ (by decide) d Sq Sq
  by_cases y:lv>5
  ·have d:=E (by rw[decide_eq_false (Om:¬ lv≤5)]; simp);simp only[go_sem,a8B,w,y,uK];exact l 1 _ (by decide) d Sq Sq
  by_cases H:c<1
  ·have d:=E (by rw[decide_eq_false (Om:¬ 1≤c)]; simp);simp only[go_sem,a8B,w,y,H,uK];exact l 1 _ (by decide) d Sq Sq
  by_cases M:c>3
  ·have d:=E (by rw[decide_eq_false (Om:¬ c≤3)]; simp);simp only[go_sem,a8B,w,y,H,M,uK];exact l 1 _ (by decide) d Sq Sq
  obtain⟨n,rfl⟩:∃ n:Nat,c=n:=⟨c.toNat,by omega⟩;rw[J,decide_eq_true (Om:1≤lv),decide_eq_true (Om:lv≤5),decide_eq_true (Om:(1:Int)≤(n:Int)),decide_eq_true (Om:(n:Int)≤3),bbA,bbA,bbA,bbA,if_pos rfl,a9Q] at A;rw[a9Q] at hB;obtain⟨hU,W⟩:=LW hV lv;have q:=L.units f lv X J Om Om;generalize fF f lv=U at *
  by_cases R:12<f.a6L.length
  ·have d:eS f lv n=2:=by rw[A,if_pos (.inl R)]
   simp only[go_sem,a8B,w,y,H,M,du,a7W,show (f.a6L.length:Int)>12 by omega,Sn];exact l 2 _ (by decide) d Sq Sq
  simp only[go_sem,a8B,w,y,H,M,du,a7W,show ¬ (f.a6L.length:Int)>12 by omega,So];refine aA q Ev ?_;simp only[go_sem,Sp,Sr];refine wp_loop (α:=Nat) (fun k=>(((((PF.nil.set 2 (.bH f.cells)).set 3 (.bH [.int .i64 lv,.int .i64 n])).set 6 (lay U)).set 7 (.int .i64 (dD (U.length:Nat) k))).set 8 (.int .i64 k))) (fun _=>.nil) (fun k=>k≤n) (fun k=>n-k) 0 (a8C _) (by (repeat' (first|exact c_|refine d_ ?_ ?_))<;>first|(simp only[go_sem,dD]<;>rfl)|rfl) a_ ?_;intro k hk;have O:U.length≤1000:=Om;simp only[go_sem,Dd,Ss];by_cases hlt:k<n
  ·have p:(k:Int)<(n:Nat):=Om;obtain⟨b1,b2⟩:=wN O (i:=k) Om;have K:=wM O k Om;have hb:((U.length:Int)-(k:Int)).natAbs≤1000:=Om;have B:=bbF (a9J K (baW Om (Om:k≤2))) hb;rw[← Int.natAbs_mul] at B;have e:(1000:Nat) ^ 2*1000=1000000000:=by decide
   have w1:IntKind.i64.wrap ((U.length:Int)-(k:Int))=(U.length:Int)-k:=wrap_i64 Om Om;have w2:IntKind.i64.wrap (dD (U.length:Nat) k*((U.length:Int)-(k:Int)))=dD (U.length:Nat) k*((U.length:Int)-k):=wrap_i64 Om Om;have w3:IntKind.i64.wrap ((k:Int)+1)=(k:Int)+1:=wrap_i64 Om Om;have Q:¬ ((k:Int)+1)=0:=Om;obtain⟨b3,b4⟩:=wN O (i:=k+1) Om;have Z:dD (U.length:Nat) (k+1)=baE (dD (U.length:Nat) k*((U.length:Int)-k)) ((k:Int)+1):=by rw[dD]
   rw[Z] at b3 b4;have w4:IntKind.i64.wrap (baE (dD (U.length:Nat) k*((U.length:Int)-k)) ((k:Int)+1))=baE (dD (U.length:Nat) k*((U.length:Int)-k)) ((k:Int)+1):=wrap_i64 Om Om;simp only[go_sem,p,St,a7W,w1,w2,w3,Q,w4,De,wZz k];exact aD (k+1) hlt Om (by (repeat' (first|exact c_|refine d_ ?_ ?_))<;>first|(simp only[go_sem,Z]<;>rfl)|rfl) a_
  have p:¬ (k:Int)<(n:Nat):=Om;have:k=n:=Om;subst this;by_cases V:512<dD (U.length:Nat) k
  ·have d:eS f lv k=2:=by rw[A,if_pos (.inr V)]
   simp only[go_sem,p,SQ,show dD (U.length:Nat) k>512 by omega,Df];exact l 2 _ (by decide) d Sq Sq
  have d:eS f lv k=0:=by rw[A,if_neg (fun h=>h.elim R V)]
  rw[d,if_pos rfl] at hB;rw[hB,d];have N:=L.choose k 0 U.length Om Om Om;have u:=mQ U.length k 0;have γ:=pS U.length k 0;have Y:2 ^ (U.length-0)≤2 ^ 40:=baW Om Om;have β:(2:Nat) ^ 40=1099511627776:=by decide
  have hP:nU f U k=(cQ U.length k 0).map fun s=>dnL U s f.a6L.length:=rfl;rw[hP];generalize cQ U.length k 0=S at *
  simp only[go_sem,p,SQ,show ¬ dD (U.length:Nat) k>512 by omega,Dg,a7W];refine aA N (by simp only[go_sem]; rfl) ?_;simp only[go_sem,Dh,Di];refine awJ (C:=C) L f Om U hU S (fun s K=>⟨by have:=(u s K).1; omega,fun x hx=>((u s K).2.1 x hx).2⟩) Om Lq fun vo ps H' hH hw=>?_;simp only[go_sem,Dr];rw[← hw];exact nK (.inr rfl) Sq hH
structure arU (C:Ctx):Prop extends FB C where
 uM:∀ (f:aE) (lv cnt:Int),f.Ok→aH C 219 [.agg f.cells,pZ lv cnt] .nil (aF (.tup [lay (jU f lv cnt),.int .i64 (eS f lv cnt)]))
 admis:∀ (f:aE) (a6X:Int) (set:List Int),f.Ok→set.length≤1000000000000000→aH C 214 [.agg f.cells,.int .i64 a6X,ints set] .nil (aF (.bool (pC f a6X set)))
 lost:∀ (sc:List (List Int)) (set:List Int) (m:Int),sc.length≤1000000000000000→(∀ s∈sc,s.length≤1000000000000000)→set.length≤1000000000000000→aH C 220 [lay sc,ints set,.int .i64 m] .nil (aF (.int .i64 (sV sc set m:Nat)))
theorem anX {C:Ctx} (p:arU C) (f:aE) (w:f.Ok) (a6X:Int) (set:List Int) (x:set.length≤1000000000000000) (lv d:Int) :
  AD.wp C (aV xo.res (aF (.tup [.int .i64 (rF f a6X set lv d:Nat),.int .i64 (lN f a6X set lv d)]))) (PF.args [.agg f.cells,.int .i64 a6X,ints set,pZ lv d]) .nil:=by
 have hB:rF f a6X set lv d=if lN f a6X set lv d=0 then sV (jU f lv d) set (fV f a6X).m else 0:=rfl
 have e:lN f a6X set lv d=if eS f lv d≠0 then eS f lv d else if pC f a6X set then 0 else 1:=rfl
 simp only[go_sem,AD,oa,oc,xo];refine aA (p.uM f lv d w) Ev ?_;by_cases c:eS f lv d≠0
 ·rw[if_pos c] at e;rw[e,if_neg c] at hB;simp only[go_sem,KR,dN c,oe];refine aQ (.inr rfl) Ev ?_;rw[hB,e]; rfl
 have c:eS f lv d=0:=Decidable.not_not.1 c;rw[if_neg (fun h=>h c)] at e;simp only[go_sem,KR,c,bY (show (0:Int)=0 from rfl),og];refine aA (p.admis f a6X set w x) Ev ?_;cases i:pC f a6X set with
 | false =>rw[i,if_neg (by decide)] at e;rw[e,if_neg (by decide)] at hB;simp only[go_sem,a8N,oi];refine aQ (.inr rfl) Ev ?_;rw[hB,e]; rfl
 | true =>
  rw[i,if_pos rfl] at e;rw[e,if_pos rfl] at hB;have y:gR f a6X=true:=by unfold pC at i;simp only[a8O] at i;exact i.1
  obtain⟨hV,A,H,F⟩:=nS y;obtain⟨B,q⟩:=nJ y;have l:(f.a6P.map bS.cells)[a6X.toNat]?=some (fV f a6X).cells:=by rw[a8V,q]; rfl
  have hlt:a6X<(f.a6P.length:Nat):=Om;have u:jU f lv d=nU f (fF f lv) d.toNat:=by unfold jU; rw[if_pos c]
  obtain⟨k1,k2⟩:=Sz hV (fF f lv) (LW hV lv).2 d.toNat;rw[← u] at k1 k2;simp only[go_sem,a8B,oj,A,hlt,a7W,l];refine aA (p.lost (jU f lv d) set (fV f a6X).m Om (fun s E=>by have:=(k2 s E).1; omega) x) Ev ?_;simp only[go_sem];refine aQ (.inr rfl) Ev ?_;rw[hB,e]; rfl
end Go.PM
