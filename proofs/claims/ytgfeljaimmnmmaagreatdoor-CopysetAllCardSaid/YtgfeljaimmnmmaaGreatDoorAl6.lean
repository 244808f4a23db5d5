/-
  Texts of ours, joined: CyL2 CyL3 CyL4 Jy1 Jy2. No condition.
-/
import Derived.Test.YtgfeljaimmnmmaaGreatDoorAl1
import Derived.Test.YtgfeljaimmnmmaaGreatDoorAl2
import Derived.Test.YtgfeljaimmnmmaaGreatDoorAl3
import Derived.Test.YtgfeljaimmnmmaaGreatDoorAl4
import Derived.Test.YtgfeljaimmnmmaaGreatDoorAl5

set_option linter.unusedSimpArgs false
set_option linter.unusedVariables false
open Nat renaming reduceEqDiff → γ, reduceAdd → δ, reduceSub → ε, reduceMul → ζ, reduceLT → η, reduceLeDiff → θ, reduceBEq → τ
open Int renaming reduceLT → ι, reduceLE → κ, reduceEq → μ, reduceToNat → ν, reduceAdd → ξ, reduceNeg → ο, reduceBEq → ρ, reduceBNe → σ
open List renaming reduceReplicate → υ
open List renaming length_map → a7I, range → a7J, getElem_mem → a7L, replicate → a7M, length_append → a7Q, length_singleton → a7U, mem_cons → a7V, getElem?_eq_getElem → a7W, all_eq_true → a7Y, getD_eq_getElem?_getD → a8B, length_take → a8C, take_of_length_le → a8D, not_mem_nil → a8E, getElem?_map → a8H, map_append → a8I, take_length → a8K, mem_map → a8L, mem_range → a8M, getElem?_eq_some_iff → a8R, append_assoc → a8S, drop_zero → a8T, getElem_of_mem → a8U, map_cons → a8X, getElem?_eq_none → a8Z, length_cons → a9A, getElem_map → a9D, mem_append → a9E, take_succ_eq_append_getElem → a9G, append_nil → a9I, drop_eq_getElem_cons → a9J, range' → a9K, length_drop → a9L, Sublist → a9M, length_set → a9N, map_nil → a9R, length_nil → a9Y, mem_singleton → a9Z, getElem?_append_right → baA, getElem?_append_left → baB, nodup_append → baC, mem_of_getElem? → baE, set_append_right → baF, take_append_drop → baG, ext_getElem → baQ, range_succ → baU, getElem?_take → baW, drop_of_length_le → bbC, map_congr_left → bbD, set_cons_zero → bbE, length_filter_le → bbF, getElem_append_right → bbG
open Nat renaming gcd → a7K, le_refl → a7O, zero_le → a7P, mul_add → a7X, lt_or_ge → a8F, zero_add → a8G, mul_assoc → a8J, mul_comm → a8N, add_mul → a8O, mul_le_mul_right → a8P, le_trans → a8V, mod_eq_of_lt → a8W, mod_lt → a9B, pow_succ → a9F, add_zero → a9O, eq_zero_or_pos → a9S, add_assoc → a9T, min_eq_left → a9U, mul_le_mul_left → a9V, pos_of_ne_zero → a9W, pow_pos → baD, div_le_self → baH, pow_le_pow_right → baI, sub_self → baJ, div_lt_iff_lt_mul → baN, succ_mul → baO, mul_le_mul → baR, div_add_mod → baX, div_eq_of_lt → baY
open Bool renaming not_true → a7N, false_and → a7R, true_and → a7T, not_false → a7Z, and_eq_true → a8A, and_false → a8Q, and_true → a9P, and_assoc → baL, and_self → baM, false_eq_true → baT
open Option renaming map_eq_some_iff → a7S, map_some → a8Y, some → a9X, getD_some → baK, bind_eq_some_iff → baZ, bind_some → bbA
open Int renaming toNat_natCast → a9C, tdiv → a9Q
open Array renaming replicate → a9H, length_toList → baP, getElem?_eq_some_iff → baS, getElem?_eq_getElem → baV, getD_eq_getD_getElem? → bbB
namespace Go.PM
open Go Go.Na
structure arA (C:Ctx):Prop extends arB C where
 wh:∀ (f:aE) (a6J:Int),f.Ok→aH C 216 [.agg f.cells,.int .i64 a6J] .nil (aF (.tup [lay (sH f a6J),.int .i64 (oS f a6J)]))
 nr:∀ (f:aE) (lv cnt:Int),f.Ok→aH C 219 [.agg f.cells,pZ lv cnt] .nil (aF (.tup [lay (jU f lv cnt),.int .i64 (eS f lv cnt)]))
 admis:∀ (f:aE) (a6J:Int) (set:List Int),f.Ok→set.length≤1000000000000000→aH C 204 [.agg f.cells,.int .i64 a6J,ints set] .nil (aF (.bool (oR f a6J set)))
 GC:∀ (f:aE) (a6J:Int) (set:List Int),f.Ok→set.length≤1000000000000000→aH C 214 [.agg f.cells,.int .i64 a6J,ints set] .nil (aF (.bool (oR f a6J set)))
 rloss:∀ (f:aE) (a6J:Int) (set:List Int) (lv cnt:Int),f.Ok→set.length≤1000000000000000→aH C 221 [.agg f.cells,.int .i64 a6J,ints set,pZ lv cnt] .nil (aF (.tup [.int .i64 (uX f a6J set lv cnt:Nat),.int .i64 (mS f a6J set lv cnt)]))
theorem aiR (f:aE) (a6J:Int):(sH f a6J).length≤4096∧∀ w∈sH f a6J,w.length≤1000:=by
 unfold sH;split
 ·rename_i h;unfold oS at h;split at h
  ·rename_i d;split at h
   ·cases h
   ·rename_i u;obtain⟨hV,-⟩:=nS d;have i:=hV.a6J _ (nJ d).1;unfold nZ;constructor
    ·refine a8V (bbF ..) ?_;rw[a7I];have p:=pS f.a5X.length (fY (fV f a6J)).toNat 0;have q:2 ^ (f.a5X.length-0)≤2 ^ 12:=baI Om Om;have e:(2:Nat) ^ 12=4096:=by decide
     omega
    ·intro w c;obtain⟨s,l,rfl⟩:=a8L.1 (List.mem_filter.1 c).1;rw[eK,(mP _ _ _ _ l).1];unfold fY; omega
  ·cases h
 ·exact⟨by simp,fun w c=>by cases c⟩
def a2P (b:Bool):Spec:=fun c _=>match c with
 | 204 | 214=>some ([],fun _=>aF (.bool b))
 | _=>some ([],fun _=>aF (.bool true))
theorem aQP {C:Ctx} (d:arA C) (l:List Nat) (p:∀ x∈l,x<256) (q:l.length≤9223372036854775807) (a6J:Int) (set:List Int) :
  QW.wp C (aV amI.res (aF (.bool true))) (PF.args [.sl 1 (kF l),.int .i64 a6J,ints set]) .nil:=by
 have i:=d.fleet l p q 9 0 (by decide) (by decide);obtain⟨-,e⟩:=Kx (l.take 400) 9 0 0 (by decide) (by decide);generalize (jF (l.take 400) 9 0 0).1=f at *
 obtain⟨a1,a2⟩:=aiR f a6J;have k1:=d.all f a6J e;have k2:=d.wh f a6J e;have y:=d.sets (sH f a6J) Om (fun w u=>by have:=a2 w u; omega);simp only[go_sem,QW,abQ,abR,amI,a7I];by_cases c:(set.length:Int)>30
 ·simp only[go_sem,c,abS];refine aA d.G3 Ev ?_;simp only[go_sem];exact dQ Sq rfl
 have A:=d.admis f a6J set e Om;have B:=d.GC f a6J set e Om;simp only[go_sem,c,abT];refine aA i (by simp only[go_sem]; rfl) ?_;simp only[go_sem];refine aR fun o E=>?_;simp only[go_sem,abU];refine aA k1 Sq ?_;simp only[go_sem,abV];refine aA k2 Sq ?_;simp only[go_sem];refine bW _ (a2P (oR f a6J set)) b_ ?_;simp only[go_sem,abW,bL (show oS f a6J=oS f a6J from rfl)];refine bN rfl y Sq b_ ?_;simp only[go_sem];refine bN rfl A Sq b_ ?_;simp only[go_sem];refine bN rfl B Sq b_ ?_;simp only[go_sem,beq_self_eq_true];refine bN rfl d.G3 Ev b_ ?_;simp only[go_sem];exact dQ Sq rfl


def fx (C:Ctx) (k:Nat) (c:yV):Prop:=∀ (args:List PV) (H:PH) (R:PV→PH→Prop),args.length≤c.ntmps→c.body.wp C (aV c.res R) (PF.args args) H→aH C k args H R
theorem fx.go {C:Ctx} {k:Nat} {c:yV} (r:fx C k c) {args:List PV} {H:PH} {R:PV→PH→Prop} (h:c.body.wp C (aV c.res R) (PF.args args) H) (d:Nat.ble args.length c.ntmps=true):aH C k args H R:=r args H R (Nat.le_of_ble_eq_true d) h
structure cI (C:Ctx):Prop where
 r0:aM C 0 ka
 r1:aM C 1 He
 r2:aM C 2 alP
 r4:aM C 4 lg
 r5:aM C 5 amD
 r7:aM C 7 lf
 r27:aM C 27 j6
 r28:aM C 28 amC
 r29:aM C 29 Hf
 r30:aM C 30 apS
 r31:aM C 31 Hj
 r32:aM C 32 apT
 r33:aM C 33 udiv
 r34:aM C 34 apX
 r35:aM C 35 Hl
 r36:aM C 36 apZ
 r37:aM C 37 aqC
 r38:aM C 38 Hn
 r39:aM C 39 VK
 r40:aM C 40 Hk
 r41:aM C 41 pn
 r42:aM C 42 po
 r43:aM C 43 Hm
 r44:aM C 44 p4
 r45:aM C 45 uup
 r46:aM C 46 T7
 r47:aM C 47 aqH
 r48:aM C 48 qa
 r49:aM C 49 Hv
 r50:aM C 50 qi
 r51:aM C 51 qj
 r52:aM C 52 VP
 r53:aM C 53 Hx
 r54:aM C 54 Hy
 r55:aM C 55 aqK
 r56:aM C 56 qt
 r57:aM C 57 Hu
 r58:aM C 58 VO
 r59:aM C 59 Hz
 r60:aM C 60 qr
 r61:aM C 61 BT
 r62:aM C 62 VR
 r63:aM C 63 qv
 r64:aM C 64 VQ
 r65:aM C 65 VS
 r66:aM C 66 aqX
 r67:aM C 67 sv
 r68:aM C 68 aqW
 r69:aM C 69 aqV
 r70:aM C 70 r8
 r71:aM C 71 r9
 r72:aM C 72 MR
 r73:aM C 73 sa
 r74:aM C 74 sb
 r75:aM C 75 VT
 r76:aM C 76 GM
 r77:aM C 77 KX
 r80:aM C 80 n0
 r81:aM C 81 VH
 r88:aM C 88 nz
 r94:aM C 94 G4
 r95:aM C 95 akN
 r96:aM C 96 akT
 r97:aM C 97 jp
 r98:aM C 98 G7
 r99:aM C 99 G8
 r100:aM C 100 G9
 r101:aM C 101 gone
 r102:aM C 102 Ha
 r103:aM C 103 jr
 r104:aM C 104 gin
 r105:aM C 105 akO
 r106:aM C 106 akP
 r107:aM C 107 Hb
 r108:aM C 108 Hc
 r109:aM C 109 ju
 r110:aM C 110 Hd
 r111:aM C 111 Ma
 r112:aM C 112 akQ
 r113:aM C 113 ZJ
 r114:aM C 114 akB
 r115:aM C 115 jd
 r116:aM C 116 FO
 r117:aM C 117 ul
 r118:aM C 118 jo
 r119:aM C 119 akA
 r120:aM C 120 rU
 r121:aM C 121 jn
 r122:aM C 122 G6
 r123:aM C 123 j4
 r124:aM C 124 QF
 r125:aM C 125 QH
 r126:aM C 126 FS
 r127:aM C 127 amH
 r128:aM C 128 Hg
 r129:aM C 129 amK
 r130:aM C 130 amM
 r131:aM C 131 amR
 r132:aM C 132 Hh
 r133:aM C 133 amV
 r134:aM C 134 amX
 r135:aM C 135 Hi
 r136:aM C 136 VA
 r137:aM C 137 l6
 r138:aM C 138 yM
 r139:aM C 139 JX
 r140:aM C 140 l8
 r141:aM C 141 ma
 r142:aM C 142 BO
 r143:aM C 143 nup
 r201:aM C 201 aDS
 r202:aM C 202 aDV
 r203:aM C 203 I4
 r204:aM C 204 I1
 r205:aM C 205 call17
 r206:aM C 206 Ju
 r207:aM C 207 ud
 r208:aM C 208 ajJ
 r209:aM C 209 ue
 r210:aM C 210 ajS
 r211:aM C 211 Jv
 r212:aM C 212 ajZ
 r213:aM C 213 aIB
 r214:aM C 214 GC
 r215:aM C 215 VD
 r216:aM C 216 wh
 r217:aM C 217 Sa
 r218:aM C 218 aIE
 r219:aM C 219 nr
 r220:aM C 220 anI
 r221:aM C 221 ww
 r222:aM C 222 Pm
 r223:aM C 223 P9
 r229:∃ asg bdy,fx C 229 (ajR asg bdy)
 r230:∃ asg bdy,fx C 230 (ajQ asg bdy)
namespace Y
theorem kR {C:Ctx} (c:cI C):pU C :=
 have len:∀ xs,Lim xs→xs.length≤35184372087808→aH C 138 [aJ xs] .nil (aF (.int .i64 (nl (val xs):Nat))):=fun xs h l=>c.r138.go (l7 xs h l) rfl
 {length:=len
  large:=fun xs h l=>c.r137.go (Bm xs (len xs h l)) rfl
  sized:=fun xs h l=>(c.r141.go (B5 xs h (len xs h l)) rfl).seen
  trim:=fun xs h l=>(c.r135.go (Qt xs h l (len xs h l)) rfl).seen
  make:=fun v h=>c.r132.go (Qb v h len) rfl
  cmp:=fun xs ys d e i p=>c.r129.go (abX xs ys d e i p (len xs d i) (len ys e p)) rfl }
theorem amG {C:Ctx} (c:cI C):fl C :=
 {subtract:=fun A W Z v f o hW l i e p d=>c.r142.go (RH A W Z v f hW l i e p d o) rfl
  restore:=fun A W Z v o hW l i e=>c.r139.go (WX A W Z v hW l i e o) rfl }
theorem b8 {C:Ctx} (c:cI C):YZ C :=
 {L:=kR c
  D:=amG c
  up:=fun a s i u e=>c.r143.go (auO a s i u e) rfl
  short:=fun a d i l p e=>c.r140.go (Br (kR c) a d i l p e) rfl
  lengthO:=fun xs o w q=>c.r138.go (WV xs w q o) rfl }
theorem zS {C:Ctx} (c:cI C) (A B:Nat) (hB:B≠0) (e:nl A≤900) (d:nl B≤900):aH C 136 [aJ (aI A),aJ (aI B)] .nil (aF (pJ A B)) :=
 (c.r136.go (lk (b8 c) A B hB e d) rfl).seen
theorem lI {C:Ctx} (c:cI C):qW C :=
 {kR c with
  bits:=fun xs h l=>c.r128.go (Pp xs h l ((kR c).length xs h l)) rfl
  add:=fun xs ys d e i p=>(c.r127.go (abJ (kR c) xs ys d e i p) rfl).seen
  sub:=fun xs ys d e i p=>(c.r134.go (adD (kR c) xs ys d e i p) rfl).seen
  mul:=fun xs ys d e i p=>(c.r133.go (acY (kR c) xs ys d e i p) rfl).seen
  gcd:=fun xs ys d e i p=>(c.r131.go (acQ (kR c) (zS c) xs ys d e i p) rfl).seen
  div:=fun xs ys d e i p=>(c.r130.go (acI (kR c) (zS c) xs ys d e i p) rfl).seen }
theorem qC {C:Ctx} (c:cI C):AQ C :=
 {lI c with
  times:=fun a b d i e l p q=>c.r121.go (zi (lI c) a b d i e l p q) rfl
  zero:=fun neg a b d e=>c.r122.go (K7 (lI c) neg a b d e) rfl
  valid:=fun neg a b d i e l=>c.r118.go (zm (lI c) neg a b d i e l) rfl
  abs:=fun v w x=>c.r119.go (Ye (lI c) v w x) rfl
  lowest:=fun neg a b d i e l p q u=>(c.r120.go (i7 (lI c) neg a b d i e l p q u) rfl).seen }
theorem PS {C:Ctx} (c:cI C) (x y:RF) (d:x.Ok) (e:y.Ok):aH C 113 [.agg x.cells,.agg y.cells] .nil (aF (frV (gJ x.v y.v))) :=
 (c.r113.go (Yj (qC c) x.neg y.neg x.num x.den y.num y.den d.1 d.2.1 e.1 e.2.1 d.2.2.1 d.2.2.2 e.2.2.1 e.2.2.2) rfl).seen
theorem HU {C:Ctx} (c:cI C):fg C :=
 {qC c with
  frac:=fun n d u p=>(c.r115.go (Ky (qC c) n d u.1 u.2 p.1 p.2) rfl).seen
  red:=fun x e=>by rw[← m6];exact (c.r116.go (jg (qC c) x.neg x.num x.den e.1 e.2.1 e.2.2.1 e.2.2.2) rfl).seen
  ord:=fun x y e i=>(c.r114.go (Yt (qC c) x.neg y.neg x.num x.den y.num y.den e.1 e.2.1 i.1 i.2.1 e.2.2.1 e.2.2.2 i.2.2.1 i.2.2.2) rfl).seen
  plus:=PS c
  tot:=fun l q=>(c.r117.go (Yz (qC c) (PS c) l q.all q.fits) rfl).seen }
theorem qB {C:Ctx} (c:cI C):rD C :=
 have inn:∀ n lo hi:Int,aH C 104 [.int .i64 n,.int .i64 lo,.int .i64 hi] .nil (aF (.bool (within n lo hi))):=fun n lo hi=>(c.r104.go (asQ n lo hi) rfl).seen;have lK:∀ x:RF,x.Ok→aH C 97 [.agg x.cells] .nil (aF (.bool (bG x))):=fun x i=>(c.r97.go (zp (lI c) x i) rfl).seen;have lim:∀ x:RF,x.Ok→aH C 105 [.agg x.cells] .nil (aF (.bool (cS x))):=fun x i=>(c.r105.go (Zp (HU c) x i) rfl).seen;have d:∀ n:Nat,aH C 126 [.int .u8 n] .nil (aF (.bool (eO n))):=fun n=>c.r126.go (j3 n) rfl;have e:∀ n:Nat,aH C 124 [.int .u8 n] .nil (aF (.bool (kK n))):=fun n=>c.r124.go (Aj n) rfl
 {HU c with
  inn:=inn
  lK:=lK
  lim:=lim
  one:=fun x i=>(c.r101.go (Zw (HU c) x i) rfl).seen
  allf:=fun p fn l q h=>(c.r99.go (Lm p fn l q h) rfl).seen
  alli:=fun p fn l q h=>(c.r100.go (Lz p fn l q h) rfl).seen
  allb:=fun p fn l q h=>(c.r98.go (Lc p fn l q h) rfl).seen
  ends1:=fun b=>(c.r103.go (zt b) rfl).seen
  num1:=fun n=>(c.r107.go (Mn inn n) rfl).seen
  rate1:=fun x i=>(c.r109.go (Aa lim lK x i) rfl).seen
  name:=fun s=>c.r123.go (N3 d (fun n=>c.r125.go (Al d e n) rfl) s) rfl }
theorem PP {C:Ctx} (c:cI C):ff C :=
 {qB c with
  num:=fun p d=>(c.r106.go (Zs (qB c) p d) rfl).seen
  rate:=fun p d=>(c.r108.go (Mt (qB c) p d) rfl).seen
  uniq:=fun l e=>(c.r110.go (M0 (qB c) l e) rfl).seen }
theorem PQ {C:Ctx} (c:cI C):NV C :=
 {PP c with
  ends:=fun l e d=>(c.r102.go (Me (qB c) l e d) rfl).seen }
theorem Ku {C:Ctx} (c:cI C):jV C :=
 {PQ c with
  law:=fun l e=>(c.r95.go (Zg (PQ c) l e) rfl).seen
  pol:=fun p n q i=>(c.r112.go (Z1 (PP c) p q n i) rfl).seen
  a6G:=fun f d=>(c.r111.go (Y9 (qB c) f d) rfl).seen }
theorem uk {C:Ctx} (c:cI C) (f:aE) (d:f.Ok):aH C 96 [.agg f.cells] .nil (aF (.int .i64 (wK f))):=(c.r96.go (aaA (Ku c) f d) rfl).seen
theorem jT {C:Ctx} (c:cI C):oV C:={ trimM:=fun xs h l=>c.r38.go (T2 xs h l) rfl }
theorem RX {C:Ctx} (c:cI C):fp C :=
 {jT c with
  make:=fun v h=>(c.r35.go (To (jT c) v h) rfl).seen
  large:=fun xs h l=>(c.r41.go (D2 (jT c) xs h l) rfl).seen
  cmp:=fun xs ys d e i p=>c.r32.go (aeY (jT c) xs ys d e i p) rfl }
theorem RZ {C:Ctx} (c:cI C):ft C :=
 {RX c with
  minus:=fun a b e i l q d=>(c.r42.go (D5 (jT c) a b e i l q d) rfl).seen
  times:=fun a b e i d p=>(c.r44.go (Eh (jT c) a b e i d p) rfl).seen }
theorem zZ {C:Ctx} (c:cI C):OA C :=
 {RZ c with
  plus:=fun a b i l d e=>(c.r43.go (Tu (jT c) a b i l d e) rfl).seen }
theorem Ra {C:Ctx} (c:cI C):FD C :=
 {zZ c with
  bits:=fun xs h l=>c.r31.go (Sx (jT c) xs h l) rfl
  upM:=fun a n e d i p=>c.r45.go (aBX (jT c) a n e d i p) rfl
  down:=fun a n e d i=>(c.r40.go (Td (jT c) a n e d i) rfl).seen }
theorem zY {C:Ctx} (c:cI C):NY C :=
 {RX c with
  divide:=fun A B hB e d=>(c.r39.go (ov (Ra c) A B hB e d) rfl).seen }
theorem RY {C:Ctx} (c:cI C):fq C :=
 {zY c with
  gcd:=fun a b d e i l=>(c.r34.go (afR (zY c) a b d e i l) rfl).seen
  div:=fun a b d e i l=>(c.r33.go (afJ (zY c) a b d e i l) rfl).seen }
theorem mi {C:Ctx} (c:cI C):Gz C :=
 {RY c with
  lowest:=fun neg a b i l p q u w e=>(c.r58.go (qb (RY c) neg a b i l p q u w e) rfl).seen
  size:=fun v d=>c.r59.go (Ux v d.1 d.2) rfl }
theorem tF {C:Ctx} (c:cI C):NZ C :=
 {mi c with
  fmk:=fun n d i e=>(c.r50.go (Uk (mi c) n d i e) rfl).seen }
theorem JJ {C:Ctx} (c:cI C) (hi:oQ C):AU C :=
 {tF c with
  int:=fun n d=>(c.r47.go (VN (tF c) n d) rfl).seen
  itoa:=hi
  next:=fun l v T o n a d e=>c.r4.go (Pd T o n a d e) rfl }
theorem QO {C:Ctx} (c:cI C) (hi:oQ C):fj C :=
 {JJ c hi with
  frac:=fun l v T o a d=>c.r1.go (Oo (JJ c hi) T o a d) rfl }
theorem QP {C:Ctx} (c:cI C) (hi:oQ C):qV C :=
 {QO c hi with
  rep:=fun l v T o a m e d=>c.r5.go (abA (QO c hi) T o a m e d) rfl
  name:=fun s n p i=>c.r29.go (Pa (JJ c hi) s n p i) rfl }
theorem QQ {C:Ctx} (c:cI C) (hi:oQ C):mA C :=
 {QP c hi with
  law:=fun l v T o dZ a i d e=>c.r2.go (aaO (QP c hi) T o dZ a i d e) rfl }
theorem QR {C:Ctx} (c:cI C) (hi:oQ C):fk C :=
 {QQ c hi with
  grow:=fun l v T mc a5X d e i=>ZW (QQ c hi) T mc a5X d e i (fun args H R p h=>c.r7 args H R (by rw[p]; decide) h) 4 (a7O _) }
theorem auA {C:Ctx} (c:cI C) (hi:oQ C):If C :=
 {QR c hi with
  new:=fun l p q=>c.r28.go (aaV l p q) rfl
  fleet:=fun l v T o a5X a5Z a d e i=>FB.exact (c.r0.go (Av (QR c hi) T o a5X a5Z a d e i) rfl) }
theorem KK {C:Ctx} (c:cI C):fv C :=
 {tF c with
  int:=fun n p=>(c.r47.go (VN (tF c) n p) rfl).seen
  mul:=fun a b d e i l=>(c.r36.go (afZ (RZ c) a b d e i l) rfl).seen
  add:=fun a b d e i l=>(c.r30.go (aeR (zZ c) a b d e i l) rfl).seen
  sub:=fun a b d e i l=>(c.r37.go (agH (zZ c) a b d e i l) rfl).seen }
theorem AA {C:Ctx} (c:cI C):OB C :=
 {KK c with
  valid:=fun x d=>c.r56.go (Ff (KK c) x.neg x.num x.den d.1 d.2.1 d.2.2.1 d.2.2.2) rfl
  big:=fun x=>c.r48.go (Et x.1 (aI x.2.1) (aI x.2.2)) rfl }
theorem SA {C:Ctx} (c:cI C):fw C :=
 {AA c with
  fits:=fun x=>(c.r57.go (Ub (AA c) x) rfl).seen
  red:=fun x i=>(c.r52.go (qk (AA c) x i) rfl).seen
  prod:=fun a b d e l p q u=>c.r60.go (Fb (KK c) a b d e l p q u) rfl }
theorem pP {C:Ctx} (c:cI C):vK C :=
 {SA c with
  order:=fun x y d e i l=>c.r51.go (Ex (SA c) x y d e i l) rfl }
theorem mj {C:Ctx} (c:cI C):G1 C :=
 {pP c with
  less:=fun x y d e i l=>c.r49.go (Uh (pP c) x y d e i l) rfl
  same:=fun x y d e i l=>c.r53.go (Ur (pP c) x y d e i l) rfl
  sign:=fun x d i=>c.r54.go (Uu (pP c) x d i) rfl
  plus:=fun x y d e=>(c.r46.go (agQ (pP c) x y d e) rfl).seen }
theorem zX {C:Ctx} (c:cI C):NX C :=
 {mj c with
  sum:=fun l e d=>(c.r55.go (ahE (mj c) l e d) rfl).seen
  inn:=fun n lo hi=>c.r76.go (tv n lo hi) rfl
  code:=fun k m=>c.r61.go (Sf k m) rfl }
theorem FX {C:Ctx} (c:cI C):UG C :=
 {zX c with
  small:=fun x d=>c.r74.go (Gb (zX c) x d) rfl
  nums:=fun k m q s0 s1 s2 s3 s4=>c.r72.go (YP (zX c) k m q s0 s1 s2 s3 s4) rfl
  sizes:=fun e i l p u w=>c.r73.go (F8 e i l p u w) rfl }
theorem FY {C:Ctx} (c:cI C):UH C :=
 {FX c with
  smalls:=fun l d n=>c.r75.go (se (FX c) l d n) rfl }
theorem FZ {C:Ctx} (c:cI C):UI C :=
 {FY c with
  reps:=fun l d m=>c.r66.go (aiC (FY c) l d m) rfl }
theorem GA {C:Ctx} (c:cI C):UJ C :=
 have d:∀ n:Nat,aH C 65 [.int .u8 n] .nil (aF (.bool (eO n))):=fun n=>c.r65.go (rt n) rfl;have e:∀ n:Nat,aH C 63 [.int .u8 n] .nil (aF (.bool (kK n))):=fun n=>c.r63.go (Fj n) rfl
 {FZ c with
  name:=fun s=>c.r62.go (q9 d (fun n=>c.r64.go (qw d e n) rfl) s) rfl
  index:=fun l i s=>c.r71.go (Fu l i s) rfl }
theorem GB {C:Ctx} (c:cI C):oJ C :=
 {GA c with
  fresh:=fun l e s w H d=>c.r70.go (Fp (GA c) l e s w H d) rfl }
theorem wc {C:Ctx} (c:cI C):pW C :=
 {GB c with
  law:=fun l d=>c.r68.go (ahT (GB c) l d) rfl }
theorem adQ {C:Ctx} (c:cI C):UK C :=
 {wc c with
  dur:=fun m rep e t h i d=>c.r69.go (ahP (FZ c) m rep e t h i d) rfl }
theorem aCR {C:Ctx} (c:cI C) (f:aE) (d:f.Ok):aH C 67 [.agg f.cells] .nil (aF (.bool (dR f))):=c.r67.go (aDB (adQ c) f d) rfl
theorem aXR {C:Ctx} (c:cI C):aiM C :=
 {adm:=fun f p set hV l d q=>c.r201.go (aOI f hV p l d set q) rfl
  asc:=fun set n top i=>c.r202.go (aOM set i n top) rfl
  known:=fun f a6J e=>c.r203.go (arO (uk c) f e a6J) rfl }
theorem aNX {C:Ctx} (c:cI C):fa C :=
 {aXR c with
  subs:=fun n top=>c.r210.go (aEM n top) rfl
  iter:=fun l o1 o2 n top J x e i u w q y H p d b1 b2 g1 g2=>c.r211.go (aEB J x e i u w q p d b1 b2 g1 g2) rfl }
theorem aNY {C:Ctx} (c:cI C):Ia C :=
 {aNX c with
  sets:=fun f p hV u y d w l x q=>by obtain⟨e,i,r⟩:=c.r229;exact (r.go (aEK (aNX c) e i f hV u p y d w l x q) rfl).seen }
theorem aNZ {C:Ctx} (c:cI C):Ib C :=
 {aNY c with
  val:=uk c
  units:=fun f lv hV d h5=>(c.r206.go (arT f hV lv d h5) rfl).seen
  choose:=fun m n e i=>c.r207.go (ajH m n e i) rfl }
theorem aqR {C:Ctx} (c:cI C):arC C :=
 {aNZ c with
  uL:=fun f lv i l=>by obtain⟨d,e,r⟩:=c.r230;exact (r.go (aEI (aNZ c) d e f l lv i) rfl).seen
  admis:=fun f a6J set l x=>c.r204.go (arJ (aXR c) f l a6J set x) rfl
  loss:=fun sc set m p q u w=>c.r208.go (aEC sc p q set u w m) rfl }
theorem aXQ {C:Ctx} (c:cI C) (hi:oQ C):aNK C :=
 {same1:=fun l d=>c.r94.go (aEX l d) rfl
  fleet:=fun l u d a5X a5Z i q=>(c.r27.go (atX (auA c hi) l u d a5X a5Z i q) rfl).seen
  all:=fun f a6J p=>(c.r205.go (arL (aNY c) f p a6J) rfl).seen
  uL:=(aqR c).uL
  loss:=fun f a6J set lv e p d=>c.r209.go (ajL (aqR c) f p a6J set d lv e) rfl }
theorem aNW {C:Ctx} (c:cI C) (hi:oQ C):H9 C :=
 { aXQ c hi with sets:=fun a d e=>c.r212.go (aFE (aXQ c hi).same1 a d e) rfl }
theorem a1A {C:Ctx} (c:cI C) (hi:oQ C):arB C :=
 {aNW c hi with
  G3:=c.r222.go (auD (aNW c hi)) rfl
  fails:=fun a b d e=>c.r223.go (auG a b d e) rfl }
theorem aXS {C:Ctx} (c:cI C):Ig C :=
 {valid:=aCR c
  lK:=fun f d level p l e i=>c.r88.go (avW f p d l level e i) rfl }
theorem aXT {C:Ctx} (c:cI C):Gy C :=
 {allowed:=fun f p d hV e i=>c.r77.go (Wu f hV p e d i) rfl
  count:=fun f row n hV q l=>c.r80.go (awK (aXS c) f hV row q n l) rfl
  valid:=aCR c }
theorem ahO {C:Ctx} (c:cI C):∀ k a n:Nat,k≤10→a≤1000→n≤40→aH C 215 [.int .i64 a,.int .i64 n,.int .i64 k] .nil (aF (lay (fQ (cP n k a))))
 | 0,a,n,l,i,d=>(c.r215.go (mm 0 a n l i d fun _ _ _ h=>by cases h) rfl).seen
 | k+1,a,n,l,i,d=>(c.r215.go (mm (k+1) a n l i d fun p q h e=>by cases e; exact ahO c k p n Om h d) rfl).seen
theorem aqS {C:Ctx} (c:cI C):fc C :=
 {aXT c with
  adm:=fun f p set hV d l e u i q=>c.r213.go (aRI (aXT c) f hV p d l e u i set q) rfl
  choose:=ahO c }
theorem aqT {C:Ctx} (c:cI C):fe C :=
 {aqS c with
  a5X:=fun f dom d=>(c.r81.go (anN (aXS c) f d dom) rfl).seen
  has:=fun l x h=>c.r218.go (aRO l h x) rfl }
theorem aOA {C:Ctx} (c:cI C):FA C :=
 { aqT c with units:=fun f lv e i d h5=>(c.r217.go (avU (aqT c) f e i lv d h5) rfl).seen }
theorem aqU {C:Ctx} (c:cI C):arD C :=
 {aOA c with
  uL:=fun f lv d e=>(c.r219.go (aIL (aOA c) f e lv d) rfl).seen
  admis:=fun f a6J set e q=>c.r214.go (avK (aqS c) f e a6J set q) rfl
  lost:=fun sc set m i l p=>c.r220.go (aIF (aqT c) sc i l set p m) rfl }
theorem a0Z {C:Ctx} (c:cI C) (hi:oQ C):arA C :=
 {a1A c hi with
  wh:=fun f a6J e=>(c.r216.go (aRK (aqS c) f e a6J) rfl).seen
  nr:=(aqU c).uL
  admis:=(aqR c).admis
  GC:=(aqU c).admis
  rloss:=fun f a6J set lv d e i=>c.r221.go (anG (aqU c) f e a6J set i lv d) rfl }
end Y
theorem a4A {C:Ctx} (c:cI C) (hi:oQ C) (r:aM C 224 amI) (l:List Nat) (d:∀ x∈l,x<256) (e:l.length≤9223372036854775807) (a6J:Int) (set:List Int):aH C 224 [.sl 1 (kF l),.int .i64 a6J,ints set] .nil (aF (.bool true)) :=
 r.go (aQP (Y.a0Z c hi) l d e a6J set) rfl
end Go.PM
