/-
  Texts of ours, joined: Jy1 Jy2. No condition.
-/
import Derived.Test.YtgfeljaimmnmmaaGreatDoorSc1
import Derived.Test.YtgfeljaimmnmmaaGreatDoorSc2
import Derived.Test.YtgfeljaimmnmmaaGreatDoorSc3
import Derived.Test.YtgfeljaimmnmmaaGreatDoorSc4
import Derived.Test.YtgfeljaimmnmmaaGreatDoorSc5

set_option linter.unusedSimpArgs false
set_option linter.unusedVariables false
open Nat renaming reduceEqDiff → γ, reduceAdd → δ, reduceSub → ε, reduceMul → ζ, reduceLT → η, reduceLeDiff → θ, reduceBEq → τ
open Int renaming reduceLT → ι, reduceLE → κ, reduceEq → μ, reduceToNat → ν, reduceAdd → ξ, reduceNeg → ο, reduceBEq → ρ, reduceBNe → σ
open List renaming reduceReplicate → υ
open List renaming length_map → a7G, range → a7H, getElem_mem → a7J, replicate → a7K, length_append → a7O, length_singleton → a7S, mem_cons → a7T, getElem?_eq_getElem → a7U, all_eq_true → a7W, getD_eq_getElem?_getD → a7Z, length_take → a8A, not_mem_nil → a8B, take_of_length_le → a8C, getElem?_map → a8F, map_append → a8G, take_length → a8I, mem_map → a8J, mem_range → a8K, getElem?_eq_some_iff → a8P, append_assoc → a8Q, drop_zero → a8R, getElem_of_mem → a8S, map_cons → a8U, getElem?_eq_none → a8X, length_cons → a8Y, getElem_map → a9B, mem_append → a9C, take_succ_eq_append_getElem → a9E, append_nil → a9G, drop_eq_getElem_cons → a9H, range' → a9I, length_drop → a9J, Sublist → a9K, length_set → a9L, map_nil → a9P, length_nil → a9W, mem_singleton → a9X, getElem?_append_right → a9Y, getElem?_append_left → a9Z, nodup_append → baA, mem_of_getElem? → baC, set_append_right → baD, take_append_drop → baE, ext_getElem → baO, range_succ → baS, getElem?_take → baU, drop_of_length_le → bbA, map_congr_left → bbB, set_cons_zero → bbC, getElem_append_right → bbD
open Nat renaming gcd → a7I, le_refl → a7M, zero_le → a7N, mul_add → a7V, lt_or_ge → a8D, zero_add → a8E, mul_assoc → a8H, mul_comm → a8L, add_mul → a8M, mul_le_mul_right → a8N, mod_eq_of_lt → a8T, le_trans → a8V, mod_lt → a8Z, pow_succ → a9D, add_zero → a9M, eq_zero_or_pos → a9Q, add_assoc → a9R, min_eq_left → a9S, mul_le_mul_left → a9T, pos_of_ne_zero → a9U, pow_pos → baB, div_le_self → baF, sub_self → baG, div_lt_iff_lt_mul → baK, pow_le_pow_right → baL, succ_mul → baM, mul_le_mul → baP, div_add_mod → baV, div_eq_of_lt → baW
open Bool renaming not_true → a7L, false_and → a7P, true_and → a7R, and_eq_true → a7X, not_false → a7Y, and_false → a8O, and_true → a9N, and_assoc → baI, and_self → baJ, false_eq_true → baR
open Option renaming map_eq_some_iff → a7Q, map_some → a8W, some → a9V, getD_some → baH, bind_eq_some_iff → baX, bind_some → baY
open Int renaming toNat_natCast → a9A, tdiv → a9O
open Array renaming replicate → a9F, length_toList → baN, getElem?_eq_some_iff → baQ, getElem?_eq_getElem → baT, getD_eq_getD_getElem? → baZ
namespace Go.PM
open Go Go.Na
def gb (C:Ctx) (k:Nat) (c:yU):Prop:=∀ (args:List PV) (H:PH) (R:PV→PH→Prop),args.length≤c.ntmps→c.body.wp C (aV c.res R) (PF.args args) H→aH C k args H R
theorem gb.go {C:Ctx} {k:Nat} {c:yU} (r:gb C k c) {args:List PV} {H:PH} {R:PV→PH→Prop} (h:c.body.wp C (aV c.res R) (PF.args args) H) (d:Nat.ble args.length c.ntmps=true):aH C k args H R:=r args H R (Nat.le_of_ble_eq_true d) h
structure cI (C:Ctx):Prop where
 r0:aM C 0 kd
 r1:aM C 1 Hd
 r2:aM C 2 alO
 r4:aM C 4 lk
 r5:aM C 5 amC
 r7:aM C 7 lj
 r27:aM C 27 j9
 r28:aM C 28 amB
 r29:aM C 29 He
 r30:aM C 30 apQ
 r31:aM C 31 Hj
 r32:aM C 32 apR
 r33:aM C 33 udiv
 r34:aM C 34 apV
 r35:aM C 35 Hl
 r36:aM C 36 apX
 r37:aM C 37 aqA
 r38:aM C 38 Hn
 r39:aM C 39 VN
 r40:aM C 40 Hk
 r41:aM C 41 pq
 r42:aM C 42 pt
 r43:aM C 43 Hm
 r44:aM C 44 p6
 r45:aM C 45 uup
 r46:aM C 46 Uc
 r47:aM C 47 aqF
 r48:aM C 48 qc
 r49:aM C 49 Hv
 r50:aM C 50 qk
 r51:aM C 51 ql
 r52:aM C 52 VS
 r53:aM C 53 Hx
 r54:aM C 54 Hy
 r55:aM C 55 aqI
 r56:aM C 56 qv
 r57:aM C 57 Hu
 r58:aM C 58 VR
 r59:aM C 59 Hz
 r60:aM C 60 qu
 r61:aM C 61 BT
 r62:aM C 62 VU
 r63:aM C 63 qx
 r64:aM C 64 VT
 r65:aM C 65 VV
 r66:aM C 66 aqV
 r67:aM C 67 sx
 r68:aM C 68 aqU
 r69:aM C 69 aqT
 r70:aM C 70 sa
 r71:aM C 71 sb
 r72:aM C 72 MS
 r73:aM C 73 sd
 r74:aM C 74 se
 r75:aM C 75 VW
 r76:aM C 76 GN
 r77:aM C 77 KZ
 r80:aM C 80 n8
 r81:aM C 81 VK
 r88:aM C 88 n6
 r94:aM C 94 G3
 r95:aM C 95 akM
 r96:aM C 96 akS
 r97:aM C 97 jt
 r98:aM C 98 G6
 r99:aM C 99 G7
 r100:aM C 100 G8
 r101:aM C 101 gone
 r102:aM C 102 G9
 r103:aM C 103 ju
 r104:aM C 104 gin
 r105:aM C 105 akN
 r106:aM C 106 akO
 r107:aM C 107 Ha
 r108:aM C 108 Hb
 r109:aM C 109 jx
 r110:aM C 110 Hc
 r111:aM C 111 Ma
 r112:aM C 112 akP
 r113:aM C 113 ZM
 r114:aM C 114 akA
 r115:aM C 115 jg
 r116:aM C 116 FQ
 r117:aM C 117 uo
 r118:aM C 118 js
 r119:aM C 119 ajZ
 r120:aM C 120 rU
 r121:aM C 121 jr
 r122:aM C 122 G5
 r123:aM C 123 j7
 r124:aM C 124 QG
 r125:aM C 125 QI
 r126:aM C 126 FU
 r127:aM C 127 amG
 r128:aM C 128 Hf
 r129:aM C 129 amI
 r130:aM C 130 amK
 r131:aM C 131 amP
 r132:aM C 132 Hg
 r133:aM C 133 amT
 r134:aM C 134 amV
 r135:aM C 135 Hi
 r136:aM C 136 VC
 r137:aM C 137 l9
 r138:aM C 138 yL
 r139:aM C 139 JY
 r140:aM C 140 mb
 r141:aM C 141 mf
 r142:aM C 142 BO
 r143:aM C 143 nup
 r201:aM C 201 aDQ
 r202:aM C 202 aDT
 r203:aM C 203 I4
 r204:aM C 204 I1
 r205:aM C 205 call17
 r206:aM C 206 Ju
 r207:aM C 207 ug
 r208:aM C 208 ajI
 r209:aM C 209 uh
 r210:aM C 210 ajR
 r211:aM C 211 Jv
 r212:aM C 212 ajY
 r213:aM C 213 aIC
 r214:aM C 214 SC
 r215:aM C 215 VG
 r216:aM C 216 Ro
 r217:aM C 217 Sh
 r218:aM C 218 aIF
 r219:aM C 219 VJ
 r220:aM C 220 anG
 r221:aM C 221 ww
 r222:aM C 222 Pl
 r223:aM C 223 P8
 r229:∃ asg bdy,gb C 229 (ajQ asg bdy)
 r230:∃ asg bdy,gb C 230 (ajP asg bdy)
namespace Y
theorem kR {C:Ctx} (c:cI C):pS C :=
 have len:∀ xs,Lim xs→xs.length≤35184372087808→aH C 138 [aJ xs] .nil (aF (.int .i64 (nl (val xs):Nat))):=fun xs h l=>c.r138.go (ma xs h l) rfl
 {length:=len
  large:=fun xs h l=>c.r137.go (Bm xs (len xs h l)) rfl
  sized:=fun xs h l=>(c.r141.go (B5 xs h (len xs h l)) rfl).seen
  trim:=fun xs h l=>(c.r135.go (Qy xs h l (len xs h l)) rfl).seen
  make:=fun v h=>c.r132.go (Qa v h len) rfl
  cmp:=fun xs ys d e i p=>c.r129.go (abW xs ys d e i p (len xs d i) (len ys e p)) rfl }
theorem amF {C:Ctx} (c:cI C):ft C :=
 {subtract:=fun A W Z v f o hW l i e p d=>c.r142.go (RH A W Z v f hW l i e p d o) rfl
  restore:=fun A W Z v o hW l i e=>c.r139.go (XA A W Z v hW l i e o) rfl }
theorem cb {C:Ctx} (c:cI C):ZC C :=
 {L:=kR c
  D:=amF c
  up:=fun a s i u e=>c.r143.go (auM a s i u e) rfl
  short:=fun a d i l p e=>c.r140.go (Br (kR c) a d i l p e) rfl
  lengthO:=fun xs o w q=>c.r138.go (WY xs w q o) rfl }
theorem zR {C:Ctx} (c:cI C) (A B:Nat) (hB:B≠0) (e:nl A≤900) (d:nl B≤900):aH C 136 [aJ (aI A),aJ (aI B)] .nil (aF (pG A B)) :=
 (c.r136.go (ln (cb c) A B hB e d) rfl).seen
theorem lI {C:Ctx} (c:cI C):qU C :=
 {kR c with
  bits:=fun xs h l=>c.r128.go (Po xs h l ((kR c).length xs h l)) rfl
  add:=fun xs ys d e i p=>(c.r127.go (abP (kR c) xs ys d e i p) rfl).seen
  sub:=fun xs ys d e i p=>(c.r134.go (adC (kR c) xs ys d e i p) rfl).seen
  mul:=fun xs ys d e i p=>(c.r133.go (acX (kR c) xs ys d e i p) rfl).seen
  gcd:=fun xs ys d e i p=>(c.r131.go (acP (kR c) (zR c) xs ys d e i p) rfl).seen
  div:=fun xs ys d e i p=>(c.r130.go (acH (kR c) (zR c) xs ys d e i p) rfl).seen }
theorem qA {C:Ctx} (c:cI C):AQ C :=
 {lI c with
  times:=fun a b d i e l p q=>c.r121.go (zi (lI c) a b d i e l p q) rfl
  zero:=fun neg a b d e=>c.r122.go (K7 (lI c) neg a b d e) rfl
  valid:=fun neg a b d i e l=>c.r118.go (zm (lI c) neg a b d i e l) rfl
  abs:=fun v w x=>c.r119.go (Yk (lI c) v w x) rfl
  lowest:=fun neg a b d i e l p q u=>(c.r120.go (ja (lI c) neg a b d i e l p q u) rfl).seen }
theorem PT {C:Ctx} (c:cI C) (x y:RF) (d:x.Ok) (e:y.Ok):aH C 113 [.agg x.cells,.agg y.cells] .nil (aF (frV (gI x.v y.v))) :=
 (c.r113.go (Yp (qA c) x.neg y.neg x.num x.den y.num y.den d.1 d.2.1 e.1 e.2.1 d.2.2.1 d.2.2.2 e.2.2.1 e.2.2.2) rfl).seen
theorem HV {C:Ctx} (c:cI C):fk C :=
 {qA c with
  frac:=fun n d u p=>(c.r115.go (Ky (qA c) n d u.1 u.2 p.1 p.2) rfl).seen
  red:=fun x e=>by rw[← m9];exact (c.r116.go (jj (qA c) x.neg x.num x.den e.1 e.2.1 e.2.2.1 e.2.2.2) rfl).seen
  ord:=fun x y e i=>(c.r114.go (Yz (qA c) x.neg y.neg x.num x.den y.num y.den e.1 e.2.1 i.1 i.2.1 e.2.2.1 e.2.2.2 i.2.2.1 i.2.2.2) rfl).seen
  plus:=PT c
  tot:=fun l q=>(c.r117.go (Y5 (qA c) (PT c) l q.all q.fits) rfl).seen }
theorem pZ {C:Ctx} (c:cI C):rB C :=
 have inn:∀ n lo hi:Int,aH C 104 [.int .i64 n,.int .i64 lo,.int .i64 hi] .nil (aF (.bool (within n lo hi))):=fun n lo hi=>(c.r104.go (asO n lo hi) rfl).seen;have lK:∀ x:RF,x.Ok→aH C 97 [.agg x.cells] .nil (aF (.bool (bG x))):=fun x i=>(c.r97.go (zp (lI c) x i) rfl).seen;have lim:∀ x:RF,x.Ok→aH C 105 [.agg x.cells] .nil (aF (.bool (cS x))):=fun x i=>(c.r105.go (Zv (HV c) x i) rfl).seen;have d:∀ n:Nat,aH C 126 [.int .u8 n] .nil (aF (.bool (eO n))):=fun n=>c.r126.go (j6 n) rfl;have e:∀ n:Nat,aH C 124 [.int .u8 n] .nil (aF (.bool (kK n))):=fun n=>c.r124.go (Aj n) rfl
 {HV c with
  inn:=inn
  lK:=lK
  lim:=lim
  one:=fun x i=>(c.r101.go (Z3 (HV c) x i) rfl).seen
  allf:=fun p fn l q h=>(c.r99.go (Lm p fn l q h) rfl).seen
  alli:=fun p fn l q h=>(c.r100.go (Lz p fn l q h) rfl).seen
  allb:=fun p fn l q h=>(c.r98.go (Lc p fn l q h) rfl).seen
  ends1:=fun b=>(c.r103.go (zt b) rfl).seen
  num1:=fun n=>(c.r107.go (Mn inn n) rfl).seen
  rate1:=fun x i=>(c.r109.go (Aa lim lK x i) rfl).seen
  name:=fun s=>c.r123.go (N2 d (fun n=>c.r125.go (Al d e n) rfl) s) rfl }
theorem PQ {C:Ctx} (c:cI C):fj C :=
 {pZ c with
  num:=fun p d=>(c.r106.go (Zy (pZ c) p d) rfl).seen
  rate:=fun p d=>(c.r108.go (Mt (pZ c) p d) rfl).seen
  uniq:=fun l e=>(c.r110.go (M0 (pZ c) l e) rfl).seen }
theorem PR {C:Ctx} (c:cI C):NW C :=
 {PQ c with
  ends:=fun l e d=>(c.r102.go (Me (pZ c) l e d) rfl).seen }
theorem Ku {C:Ctx} (c:cI C):jV C :=
 {PR c with
  law:=fun l e=>(c.r95.go (Zm (PR c) l e) rfl).seen
  pol:=fun p n q i=>(c.r112.go (Z7 (PQ c) p q n i) rfl).seen
  a6E:=fun f d=>(c.r111.go (Zf (pZ c) f d) rfl).seen }
theorem um {C:Ctx} (c:cI C) (f:aE) (d:f.Ok):aH C 96 [.agg f.cells] .nil (aF (.int .i64 (wJ f))):=(c.r96.go (aaG (Ku c) f d) rfl).seen
theorem jU {C:Ctx} (c:cI C):oQ C:={ trimM:=fun xs h l=>c.r38.go (T7 xs h l) rfl }
theorem RX {C:Ctx} (c:cI C):fw C :=
 {jU c with
  make:=fun v h=>(c.r35.go (Tu (jU c) v h) rfl).seen
  large:=fun xs h l=>(c.r41.go (D2 (jU c) xs h l) rfl).seen
  cmp:=fun xs ys d e i p=>c.r32.go (aeX (jU c) xs ys d e i p) rfl }
theorem RZ {C:Ctx} (c:cI C):fy C :=
 {RX c with
  minus:=fun a b e i l q d=>(c.r42.go (D5 (jU c) a b e i l q d) rfl).seen
  times:=fun a b e i d p=>(c.r44.go (Eh (jU c) a b e i d p) rfl).seen }
theorem zY {C:Ctx} (c:cI C):OB C :=
 {RZ c with
  plus:=fun a b i l d e=>(c.r43.go (T0 (jU c) a b i l d e) rfl).seen }
theorem Rh {C:Ctx} (c:cI C):FF C :=
 {zY c with
  bits:=fun xs h l=>c.r31.go (S3 (jU c) xs h l) rfl
  upM:=fun a n e d i p=>c.r45.go (aBV (jU c) a n e d i p) rfl
  down:=fun a n e d i=>(c.r40.go (Ti (jU c) a n e d i) rfl).seen }
theorem zX {C:Ctx} (c:cI C):NZ C :=
 {RX c with
  divide:=fun A B hB e d=>(c.r39.go (oz (Rh c) A B hB e d) rfl).seen }
theorem RY {C:Ctx} (c:cI C):fx C :=
 {zX c with
  gcd:=fun a b d e i l=>(c.r34.go (afQ (zX c) a b d e i l) rfl).seen
  div:=fun a b d e i l=>(c.r33.go (afI (zX c) a b d e i l) rfl).seen }
theorem mm {C:Ctx} (c:cI C):Gz C :=
 {RY c with
  lowest:=fun neg a b i l p q u w e=>(c.r58.go (qd (RY c) neg a b i l p q u w e) rfl).seen
  size:=fun v d=>c.r59.go (U3 v d.1 d.2) rfl }
theorem tE {C:Ctx} (c:cI C):OA C :=
 {mm c with
  fmk:=fun n d i e=>(c.r50.go (Uq (mm c) n d i e) rfl).seen }
theorem JK {C:Ctx} (c:cI C) (hi:oN C):AU C :=
 {tE c with
  int:=fun n d=>(c.r47.go (VQ (tE c) n d) rfl).seen
  itoa:=hi
  next:=fun l v T o n a d e=>c.r4.go (Pc T o n a d e) rfl }
theorem QP {C:Ctx} (c:cI C) (hi:oN C):fp C :=
 {JK c hi with
  frac:=fun l v T o a d=>c.r1.go (On (JK c hi) T o a d) rfl }
theorem QQ {C:Ctx} (c:cI C) (hi:oN C):qT C :=
 {QP c hi with
  rep:=fun l v T o a m e d=>c.r5.go (abG (QP c hi) T o a m e d) rfl
  name:=fun s n p i=>c.r29.go (O9 (JK c hi) s n p i) rfl }
theorem QR {C:Ctx} (c:cI C) (hi:oN C):mA C :=
 {QQ c hi with
  law:=fun l v T o dZ a i d e=>c.r2.go (aaU (QQ c hi) T o dZ a i d e) rfl }
theorem QS {C:Ctx} (c:cI C) (hi:oN C):fq C :=
 {QR c hi with
  grow:=fun l v T mc a5V d e i=>ZZ (QR c hi) T mc a5V d e i (fun args H R p h=>c.r7 args H R (by rw[p]; decide) h) 4 (a7M _) }
theorem atY {C:Ctx} (c:cI C) (hi:oN C):If C :=
 {QS c hi with
  new:=fun l p q=>c.r28.go (abB l p q) rfl
  fleet:=fun l v T o a5V a5X a d e i=>FC.exact (c.r0.go (Av (QS c hi) T o a5V a5X a d e i) rfl) }
theorem KM {C:Ctx} (c:cI C):fz C :=
 {tE c with
  int:=fun n p=>(c.r47.go (VQ (tE c) n p) rfl).seen
  mul:=fun a b d e i l=>(c.r36.go (afY (RZ c) a b d e i l) rfl).seen
  add:=fun a b d e i l=>(c.r30.go (aeQ (zY c) a b d e i l) rfl).seen
  sub:=fun a b d e i l=>(c.r37.go (agG (zY c) a b d e i l) rfl).seen }
theorem zZ {C:Ctx} (c:cI C):OC C :=
 {KM c with
  valid:=fun x d=>c.r56.go (Ff (KM c) x.neg x.num x.den d.1 d.2.1 d.2.2.1 d.2.2.2) rfl
  big:=fun x=>c.r48.go (Et x.1 (aI x.2.1) (aI x.2.2)) rfl }
theorem SA {C:Ctx} (c:cI C):ga C :=
 {zZ c with
  fits:=fun x=>(c.r57.go (Ug (zZ c) x) rfl).seen
  red:=fun x i=>(c.r52.go (qn (zZ c) x i) rfl).seen
  prod:=fun a b d e l p q u=>c.r60.go (Fb (KM c) a b d e l p q u) rfl }
theorem pO {C:Ctx} (c:cI C):vJ C :=
 {SA c with
  order:=fun x y d e i l=>c.r51.go (Ex (SA c) x y d e i l) rfl }
theorem mo {C:Ctx} (c:cI C):G1 C :=
 {pO c with
  less:=fun x y d e i l=>c.r49.go (Um (pO c) x y d e i l) rfl
  same:=fun x y d e i l=>c.r53.go (Uw (pO c) x y d e i l) rfl
  sign:=fun x d i=>c.r54.go (Uz (pO c) x d i) rfl
  plus:=fun x y d e=>(c.r46.go (agP (pO c) x y d e) rfl).seen }
theorem zW {C:Ctx} (c:cI C):NY C :=
 {mo c with
  sum:=fun l e d=>(c.r55.go (ahD (mo c) l e d) rfl).seen
  inn:=fun n lo hi=>c.r76.go (tx n lo hi) rfl
  code:=fun k m=>c.r61.go (Sk k m) rfl }
theorem FZ {C:Ctx} (c:cI C):UH C :=
 {zW c with
  small:=fun x d=>c.r74.go (Gb (zW c) x d) rfl
  nums:=fun k m q s0 s1 s2 s3 s4=>c.r72.go (YS (zW c) k m q s0 s1 s2 s3 s4) rfl
  sizes:=fun e i l p u w=>c.r73.go (F8 e i l p u w) rfl }
theorem GA {C:Ctx} (c:cI C):UI C :=
 {FZ c with
  smalls:=fun l d n=>c.r75.go (sg (FZ c) l d n) rfl }
theorem GB {C:Ctx} (c:cI C):UJ C :=
 {GA c with
  reps:=fun l d m=>c.r66.go (aiB (GA c) l d m) rfl }
theorem GC {C:Ctx} (c:cI C):UK C :=
 have d:∀ n:Nat,aH C 65 [.int .u8 n] .nil (aF (.bool (eO n))):=fun n=>c.r65.go (rv n) rfl;have e:∀ n:Nat,aH C 63 [.int .u8 n] .nil (aF (.bool (kK n))):=fun n=>c.r63.go (Fj n) rfl
 {GB c with
  name:=fun s=>c.r62.go (re d (fun n=>c.r64.go (qy d e n) rfl) s) rfl
  index:=fun l i s=>c.r71.go (Fu l i s) rfl }
theorem GD {C:Ctx} (c:cI C):oG C :=
 {GC c with
  fresh:=fun l e s w H d=>c.r70.go (Fp (GC c) l e s w H d) rfl }
theorem wd {C:Ctx} (c:cI C):pU C :=
 {GD c with
  law:=fun l d=>c.r68.go (ahS (GD c) l d) rfl }
theorem adP {C:Ctx} (c:cI C):UL C :=
 {wd c with
  dur:=fun m rep e t h i d=>c.r69.go (ahO (GB c) m rep e t h i d) rfl }
theorem aCP {C:Ctx} (c:cI C) (f:aE) (d:f.Ok):aH C 67 [.agg f.cells] .nil (aF (.bool (dQ f))):=c.r67.go (aCZ (adP c) f d) rfl
theorem aXQ {C:Ctx} (c:cI C):aiL C :=
 {adm:=fun f p set hV l d q=>c.r201.go (aOJ f hV p l d set q) rfl
  asc:=fun set n top i=>c.r202.go (aON set i n top) rfl
  known:=fun f a6H e=>c.r203.go (arM (um c) f e a6H) rfl }
theorem aNY {C:Ctx} (c:cI C):fg C :=
 {aXQ c with
  subs:=fun n top=>c.r210.go (aEK n top) rfl
  iter:=fun l o1 o2 n top J x e i u w q y H p d b1 b2 g1 g2=>c.r211.go (aDZ J x e i u w q p d b1 b2 g1 g2) rfl }
theorem aNZ {C:Ctx} (c:cI C):Ia C :=
 {aNY c with
  sets:=fun f p hV u y d w l x q=>by obtain⟨e,i,r⟩:=c.r229;exact (r.go (aEI (aNY c) e i f hV u p y d w l x q) rfl).seen }
theorem aOA {C:Ctx} (c:cI C):Ib C :=
 {aNZ c with
  val:=um c
  units:=fun f lv hV d h5=>(c.r206.go (arR f hV lv d h5) rfl).seen
  choose:=fun m n e i=>c.r207.go (ajG m n e i) rfl }
theorem aqP {C:Ctx} (c:cI C):arA C :=
 {aOA c with
  tH:=fun f lv i l=>by obtain⟨d,e,r⟩:=c.r230;exact (r.go (aEG (aOA c) d e f l lv i) rfl).seen
  admis:=fun f a6H set l x=>c.r204.go (arH (aXQ c) f l a6H set x) rfl
  loss:=fun sc set m p q u w=>c.r208.go (aEA sc p q set u w m) rfl }
theorem aXP {C:Ctx} (c:cI C) (hi:oN C):aNL C :=
 {same1:=fun l d=>c.r94.go (aEV l d) rfl
  fleet:=fun l u d a5V a5X i q=>(c.r27.go (atV (atY c hi) l u d a5V a5X i q) rfl).seen
  all:=fun f a6H p=>(c.r205.go (arJ (aNZ c) f p a6H) rfl).seen
  tH:=(aqP c).tH
  loss:=fun f a6H set lv e p d=>c.r209.go (ajK (aqP c) f p a6H set d lv e) rfl }
theorem aNX {C:Ctx} (c:cI C) (hi:oN C):H9 C :=
 { aXP c hi with sets:=fun a d e=>c.r212.go (aFC (aXP c hi).same1 a d e) rfl }
theorem a0Z {C:Ctx} (c:cI C) (hi:oN C):aqZ C :=
 {aNX c hi with
  aiX:=c.r222.go (auB (aNX c hi)) rfl
  fails:=fun a b d e=>c.r223.go (auE a b d e) rfl }
theorem aXR {C:Ctx} (c:cI C):Ig C :=
 {valid:=aCP c
  lK:=fun f d level p l e i=>c.r88.go (avU f p d l level e i) rfl }
theorem aXS {C:Ctx} (c:cI C):Gy C :=
 {allowed:=fun f p d hV e i=>c.r77.go (Wz f hV p e d i) rfl
  count:=fun f row n hV q l=>c.r80.go (awI (aXR c) f hV row q n l) rfl
  valid:=aCP c }
theorem ahN {C:Ctx} (c:cI C):∀ k a n:Nat,k≤10→a≤1000→n≤40→aH C 215 [.int .i64 a,.int .i64 n,.int .i64 k] .nil (aF (lay (fQ (cQ n k a))))
 | 0,a,n,l,i,d=>(c.r215.go (mq 0 a n l i d fun _ _ _ h=>by cases h) rfl).seen
 | k+1,a,n,l,i,d=>(c.r215.go (mq (k+1) a n l i d fun p q h e=>by cases e; exact ahN c k p n Om h d) rfl).seen
theorem aqQ {C:Ctx} (c:cI C):fh C :=
 {aXS c with
  adm:=fun f p set hV d l e u i q=>c.r213.go (aRH (aXS c) f hV p d l e u i set q) rfl
  choose:=ahN c }
theorem aqR {C:Ctx} (c:cI C):fi C :=
 {aqQ c with
  a5V:=fun f dom d=>(c.r81.go (anL (aXR c) f d dom) rfl).seen
  has:=fun l x h=>c.r218.go (aRN l h x) rfl }
theorem aOB {C:Ctx} (c:cI C):FB C :=
 { aqR c with units:=fun f lv e i d h5=>(c.r217.go (avS (aqR c) f e i lv d h5) rfl).seen }
theorem aqS {C:Ctx} (c:cI C):arB C :=
 {aOB c with
  tH:=fun f lv d e=>(c.r219.go (aIM (aOB c) f e lv d) rfl).seen
  admis:=fun f a6H set e q=>c.r214.go (avI (aqQ c) f e a6H set q) rfl
  lost:=fun sc set m i l p=>c.r220.go (aIG (aqR c) sc i l set p m) rfl }
theorem a0Y {C:Ctx} (c:cI C) (hi:oN C):aqY C :=
 {a0Z c hi with
  Ro:=fun f a6H e=>(c.r216.go (aRJ (aqQ c) f e a6H) rfl).seen
  VJ:=(aqS c).tH
  admis:=(aqP c).admis
  SC:=(aqS c).admis
  rloss:=fun f a6H set lv d e i=>c.r221.go (anE (aqS c) f e a6H set i lv d) rfl }
end Y
theorem a1A {C:Ctx} (c:cI C) (hi:oN C) (r:aM C 225 Hh) (l:List Nat) (e:∀ x∈l,x<256) (i:l.length≤9223372036854775807) (lv d:Int):aH C 225 [.sl 1 (kF l),.int .i64 lv,.int .i64 d] .nil (aF (.bool true)) :=
 r.go (aHO (Y.a0Y c hi) l e i lv d) rfl
end Go.PM
