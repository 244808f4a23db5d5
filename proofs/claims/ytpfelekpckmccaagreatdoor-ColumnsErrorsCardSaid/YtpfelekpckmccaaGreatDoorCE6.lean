/-
  Texts of ours, joined. No condition.
-/
import Derived.Test.YtpfelekpckmccaaGreatDoorCE1
import Derived.Test.YtpfelekpckmccaaGreatDoorCE2
import Derived.Test.YtpfelekpckmccaaGreatDoorCE3
import Derived.Test.YtpfelekpckmccaaGreatDoorCE4
import Derived.Test.YtpfelekpckmccaaGreatDoorCE5

set_option linter.unusedSimpArgs false
set_option linter.unusedVariables false
open Nat renaming le_refl→awP
open List renaming length→Z'
set_option maxRecDepth 100000
set_option maxHeartbeats 800000
noncomputable section
namespace Go.PM
open Go Go.Na
structure bJ(C:Ctx):Prop where
 r0:cK C 0 Eb
 r1:cK C 1 U5
 r2:cK C 2 adY
 r4:cK C 4 xm
 r5:cK C 5 aeD
 r7:cK C 7 xl
 r27:cK C 27 D2
 r28:cK C 28 aeB
 r29:cK C 29 U8
 r31:cK C 31 Wf
 r32:cK C 32 afQ
 r33:cK C 33 udiv
 r34:cK C 34 afU
 r35:cK C 35 Wl
 r38:cK C 38 Wq
 r39:cK C 39 oa
 r40:cK C 40 Wj
 r41:cK C 41 I1
 r42:cK C 42 I4
 r43:cK C 43 Wo
 r44:cK C 44 Jf
 r45:cK C 45 uup
 r47:cK C 47 agH
 r50:cK C 50 xw
 r58:cK C 58 og
 r59:cK C 59 Ww
 r95:cK C 95 acT
 r96:cK C 96 adD
 r97:cK C 97 A4
 r98:cK C 98 T7
 r99:cK C 99 T8
 r100:cK C 100 T9
 r101:cK C 101 gone
 r102:cK C 102 Ud
 r103:cK C 103 B0
 r104:cK C 104 gin
 r105:cK C 105 acU
 r106:cK C 106 acV
 r107:cK C 107 Ue
 r108:cK C 108 Uf
 r109:cK C 109 Cj
 r110:cK C 110 Ui
 r111:cK C 111 Ub
 r112:cK C 112 acX
 r113:cK C 113 lf
 r114:cK C 114 acK
 r115:cK C 115 xh
 r116:cK C 116 SS
 r117:cK C 117 Ay
 r118:cK C 118 A1
 r119:cK C 119 acJ
 r120:cK C 120 wG
 r121:cK C 121 A0
 r122:cK C 122 T5
 r123:cK C 123 xk
 r124:cK C 124 fv
 r125:cK C 125 gf
 r126:cK C 126 TD
 r127:cK C 127 aeE
 r128:cK C 128 Vc
 r129:cK C 129 aeH
 r130:cK C 130 aeI
 r131:cK C 131 aeK
 r132:cK C 132 Vk
 r133:cK C 133 aeM
 r134:cK C 134 aeO
 r135:cK C 135 Vm
 r136:cK C 136 mw
 r137:cK C 137 F6
 r138:cK C 138 GR
 r139:cK C 139 ZH
 r140:cK C 140 Gi
 r141:cK C 141 Gj
 r142:cK C 142 QF
 r143:cK C 143 nup
 r201:cK C 201 abH
 r202:cK C 202 abK
 r203:cK C 203 zb
 r205:cK C 205 call17
 r206:cK C 206 zx
 r207:cK C 207 k7
 r210:cK C 210 To
 r211:cK C 211 zy
 r330:cK C 330 la
 r333:cK C 333 zt
 r334:cK C 334 y9
 r229:∃asg bdy,bn C 229 (Sp asg bdy)
 r230:∃asg bdy,bn C 230 (So asg bdy)
namespace L
theorem rU{C:Ctx}(c:bJ C):sU C:=
 have len:∀xs,Lim xs→Z' xs≤35184372087808→aJ C 138 [aI xs] .nil (aQ (.int .i64 (nl (val xs):Nat))):=λxs h l=>c.r138.go (Vj xs h l) rfl
 {length:=len
  large:=λxs h l=>c.r137.go (Yz xs (len xs h l)) rfl
  sized:=λxs h l=>(c.r141.go (Y2 xs h (len xs h l)) rfl).seen
  trim:=λxs h l=>(c.r135.go (aeP xs h l (len xs h l)) rfl).seen
  make:=λv h=>c.r132.go (aeL v h len) rfl
  cmp:=λxs ys d e i p=>c.r129.go (ajL xs ys d e i p (len xs d i) (len ys e p)) rfl }
theorem ajI{C:Ctx}(c:bJ C):xd C:=
 {subtract:=λA W Z v f o hW l i e p d=>c.r142.go (Gq A W Z v f hW l i e p d o) rfl
  restore:=λA W Z v o hW l i e=>c.r139.go (Kx A W Z v hW l i e o) rfl }
theorem Va{C:Ctx}(c:bJ C):ya C:=
 {L:=rU c
  D:=ajI c
  up:=λa s i w e=>c.r143.go (amB a s i w e) rfl
  short:=λa d i l p e=>c.r140.go (Y1 (rU c) a d i l p e) rfl
  lengthO:=λxs o x u=>c.r138.go (Kw xs x u o) rfl }
theorem ip{C:Ctx}(c:bJ C)(A B:Nat)(hB:B≠0)(e:nl A≤900)(d:nl B≤900):aJ C 136 [aI (aK A),aI (aK B)] .nil (aQ (sD A B)):=
 (c.r136.go (Vg (Va c) A B hB e d) rfl).seen
theorem tF{C:Ctx}(c:bJ C):uJ C:=
 {rU c with
  bits:=λxs h l=>c.r128.go (aeG xs h l ((rU c).length xs h l)) rfl
  add:=λxs ys d e i p=>(c.r127.go (ajJ (rU c) xs ys d e i p) rfl).seen
  sub:=λxs ys d e i p=>(c.r134.go (ajQ (rU c) xs ys d e i p) rfl).seen
  mul:=λxs ys d e i p=>(c.r133.go (ajP (rU c) xs ys d e i p) rfl).seen
  gcd:=λxs ys d e i p=>(c.r131.go (ajO (rU c) (ip c) xs ys d e i p) rfl).seen
  div:=λxs ys d e i p=>(c.r130.go (ajM (rU c) (ip c) xs ys d e i p) rfl).seen }
theorem AD{C:Ctx}(c:bJ C):HE C:=
 {tF c with
  times:=λa b d hb e i l p=>c.r121.go (Yc (tF c) a b d hb e i l p) rfl
  zero:=λneg a b d e=>c.r122.go (acN (tF c) neg a b d e) rfl
  valid:=λneg a b d hb e i=>c.r118.go (Yd (tF c) neg a b d hb e i) rfl
  abs:=λv w x=>c.r119.go (ahX (tF c) v w x) rfl
  lowest:=λneg a b d hb e i l p u=>(c.r120.go (T0 (tF c) neg a b d hb e i l p u) rfl).seen }
theorem Av{C:Ctx}(c:bJ C)(x y:RF)(d:x.Ok)(e:y.Ok):aJ C 113 [.agg x.cells,.agg y.cells] .nil (aQ (frV (lW x.v y.v))):=
 (c.r113.go (ahY (AD c) x.neg y.neg x.num x.den y.num y.den d.1 d.2.1 e.1 e.2.1 d.2.2.1 d.2.2.2 e.2.2.1 e.2.2.2) rfl).seen
theorem SQ{C:Ctx}(c:bJ C):bc C:=
 {AD c with
  frac:=λn d w p=>(c.r115.go (acM (AD c) n d w.1 w.2 p.1 p.2) rfl).seen
  red:=λx e=>by rw[←Vy];exact(c.r116.go (T2 (AD c) x.neg x.num x.den e.1 e.2.1 e.2.2.1 e.2.2.2) rfl).seen
  ord:=λx y e i=>(c.r114.go (ahZ (AD c) x.neg y.neg x.num x.den y.num y.den e.1 e.2.1 i.1 i.2.1 e.2.2.1 e.2.2.2 i.2.2.1 i.2.2.2) rfl).seen
  plus:=Av c
  tot:=λl u=>(c.r117.go (aiE (AD c) (Av c) l u.all u.fits) rfl).seen }
theorem AC{C:Ctx}(c:bJ C):uG C:=
 have inn:∀n lo hi:Int,aJ C 104 [.int .i64 n,.int .i64 lo,.int .i64 hi] .nil (aQ (.bool (within n lo hi))):=λn lo hi=>(c.r104.go (alO n lo hi) rfl).seen;have wW:∀x:RF,x.Ok→aJ C 97 [.agg x.cells] .nil (aQ (.bool (cE x))):=λx i=>(c.r97.go (Ye (tF c) x i) rfl).seen;have lim:∀x:RF,x.Ok→aJ C 105 [.agg x.cells] .nil (aQ (.bool (jA x))):=λx i=>(c.r105.go (aiH (SQ c) x i) rfl).seen;have d:∀n:Nat,aJ C 126 [.int .u8 n] .nil (aQ (.bool (jZ n))):=λn=>c.r126.go (Uz n) rfl;have e:∀n:Nat,aJ C 124 [.int .u8 n] .nil (aQ (.bool (uQ n))):=λn=>c.r124.go (Yk n) rfl
 {SQ c with
  inn:=inn
  wW:=wW
  lim:=lim
  one:=λx i=>(c.r101.go (aiJ (SQ c) x i) rfl).seen
  allf:=λp fn l u h=>(c.r99.go (acP p fn l u h) rfl).seen
  alli:=λp fn l u h=>(c.r100.go (acQ p fn l u h) rfl).seen
  allb:=λp fn l u h=>(c.r98.go (acO p fn l u h) rfl).seen
  ends1:=λb=>(c.r103.go (Yf b) rfl).seen
  num1:=λn=>(c.r107.go (acW inn n) rfl).seen
  rate1:=λx i=>(c.r109.go (Yh lim wW x i) rfl).seen
  name:=λs=>c.r123.go (adO d (λn=>c.r125.go (Yo d e n) rfl) s) rfl }
theorem Al{C:Ctx}(c:bJ C):x5 C:=
 {AC c with
  num:=λp hp=>(c.r106.go (aiI (AC c) p hp) rfl).seen
  rate:=λp hp=>(c.r108.go (acY (AC c) p hp) rfl).seen
  uniq:=λl d=>(c.r110.go (adC (AC c) l d) rfl).seen }
theorem Am{C:Ctx}(c:bJ C):bb C:=
 {Al c with
  ends:=λl e d=>(c.r102.go (acS (AC c) l e d) rfl).seen }
theorem acL{C:Ctx}(c:bJ C):mD C:=
 {Am c with
  law:=λl e=>(c.r95.go (aiG (Am c) l e) rfl).seen
  pol:=λp n hp i=>(c.r112.go (aiK (Al c) p hp n i) rfl).seen
  avJ:=λf d=>(c.r111.go (aiF (AC c) f d) rfl).seen }
theorem OP{C:Ctx}(c:bJ C)(f:aM)(d:f.Ok):aJ C 96 [.agg f.cells] .nil (aQ (.int .i64 (wU f))):=(c.r96.go (aiN (acL c) f d) rfl).seen
theorem pZ{C:Ctx}(c:bJ C):rH C:={ trimM:=λxs h l=>c.r38.go (agE xs h l) rfl }
theorem Hc{C:Ctx}(c:bJ C):yb C:=
 {pZ c with
  make:=λv h=>(c.r35.go (afV (pZ c) v h) rfl).seen
  large:=λxs h l=>(c.r41.go (aaD (pZ c) xs h l) rfl).seen
  cmp:=λxs ys d e i p=>c.r32.go (akM (pZ c) xs ys d e i p) rfl }
theorem aeZ{C:Ctx}(c:bJ C):W3 C:=
 {Hc c with
  minus:=λa b e hb i p d=>(c.r42.go (aaE (pZ c) a b e hb i p d) rfl).seen
  times:=λa b e hb d l=>(c.r44.go (aaI (pZ c) a b e hb d l) rfl).seen }
theorem afA{C:Ctx}(c:bJ C):W4 C:=
 {aeZ c with
  plus:=λa b i hb d e=>(c.r43.go (agC (pZ c) a b i hb d e) rfl).seen }
theorem afB{C:Ctx}(c:bJ C):NG C:=
 {afA c with
  bits:=λxs h l=>c.r31.go (afP (pZ c) xs h l) rfl
  upM:=λa n e d i p=>c.r45.go (amY (pZ c) a n e d i p) rfl
  down:=λa n e d i=>(c.r40.go (afT (pZ c) a n e d i) rfl).seen }
theorem ZV{C:Ctx}(c:bJ C):bi C:=
 {Hc c with
  divide:=λA B hB e d=>(c.r39.go (Wi (afB c) A B hB e d) rfl).seen }
theorem Hd{C:Ctx}(c:bJ C):yc C:=
 {ZV c with
  gcd:=λa b d hb e i=>(c.r34.go (akO (ZV c) a b d hb e i) rfl).seen
  div:=λa b d hb e i=>(c.r33.go (akN (ZV c) a b d hb e i) rfl).seen }
theorem Ql{C:Ctx}(c:bJ C):Rx C:=
 {Hd c with
  lowest:=λneg a b i hb l p u w e=>(c.r58.go (Wv (Hd c) neg a b i hb l p u w e) rfl).seen
  size:=λv d=>c.r59.go (agJ v d.1 d.2) rfl }
theorem He{C:Ctx}(c:bJ C):yd C:=
 {Ql c with
  fmk:=λn d i e=>(c.r50.go (agI (Ql c) n d i e) rfl).seen }
theorem mg{C:Ctx}(c:bJ C)(hi:yI C):HF C:=
 {He c with
  int:=λn d=>(c.r47.go (akR (He c) n d) rfl).seen
  itoa:=hi
  next:=λl v T o n a d e=>c.r4.go (aeC T o n a d e) rfl }
theorem Eo{C:Ctx}(c:bJ C)(hi:yI C):x8 C:=
 {mg c hi with
  frac:=λl v T o a d=>c.r1.go (adV (mg c hi) T o a d) rfl }
theorem Ep{C:Ctx}(c:bJ C)(hi:yI C):uI C:=
 {Eo c hi with
  rep:=λl v T o a m e d=>c.r5.go (ajH (Eo c hi) T o a m e d) rfl
  name:=λs n p i=>c.r29.go (aeA (mg c hi) s n p i) rfl }
theorem Er{C:Ctx}(c:bJ C)(hi:yI C):oS C:=
 {Ep c hi with
  law:=λl v T o eQ a i d e=>c.r2.go (ajE (Ep c hi) T o eQ a i d e) rfl }
theorem Es{C:Ctx}(c:bJ C)(hi:yI C):x9 C:=
 {Er c hi with
  grow:=λl v T mc avA d e i=>Cq (Er c hi) T mc avA d e i (λargs H R p h=>c.r7 args H R (by rw[p];decide) h) 4 (awP _) }
theorem adW{C:Ctx}(c:bJ C)(hi:yI C):W2 C:=
 {Es c hi with
  new:=λl hb p=>c.r28.go (ajF l hb p) rfl
  fleet:=λl v T o avA avC a d e i=>ND.exact (c.r0.go (Yt (Es c hi) T o avA avC a d e i) rfl) }
theorem anC{C:Ctx}(c:bJ C):agL C:=
 {adm:=λf p set hV hp d l=>c.r201.go (ahK f hV p hp d set l) rfl
  asc:=λset n top i=>c.r202.go (ahN set i n top) rfl
  known:=λf avM e=>c.r203.go (Xk (OP c) f e avM) rfl }
theorem Rs{C:Ctx}(c:bJ C):ay C:=
 {anC c with
  subs:=λn top=>c.r210.go (abW n top) rfl
  iter:=λl o1 o2 n top J y e i w x u A H p d b1 b2 g1 g2=>c.r211.go (abN J y e i w x u p d b1 b2 g1 g2) rfl }
theorem oj{C:Ctx}(c:bJ C):x2 C:=
 {Rs c with
  sets:=λf p hV w hp d x l y u=>by obtain⟨e,i,r⟩:=c.r229;exact(r.go (abU (Rs c) e i f hV w p hp d x l y u) rfl).seen }
theorem akU{C:Ctx}(c:bJ C):W1 C:=
 {oj c with
  val:=OP c
  units:=λf lv hV d h5=>(c.r206.go (Xu f hV lv d h5) rfl).seen
  choose:=λm n e i=>c.r207.go (Se m n e i) rfl }
theorem Oc{C:Ctx}(c:bJ C)(f:aM)(lv d:Int)(l:f.Ok):aJ C 230 [.agg f.cells,uV lv d] .nil (aQ (.tup [lay (zO f lv d),.int .i64 (iH f lv d)])):=by
 obtain⟨e,i,r⟩:=c.r230;exact(r.go (abS (akU c) e i f l lv d) rfl).seen
theorem agU{C:Ctx}(c:bJ C)(hi:yI C):xe C:=
 {SQ c with
  fleet:=λl hb p avA avC d e=>(c.r27.go (Yr (adW c hi) l hb p avA avC d e) rfl).seen
  val:=OP c
  all:=λf avM i=>(c.r205.go (Xb (oj c) f i avM) rfl).seen
  FF:=Oc c
  sets:=(oj c).sets }
theorem Dl{C:Ctx}(c:bJ C)(hi:yI C):xc C:={ fleet:=(agU c hi).fleet,FF:=Oc c }
theorem Ob{C:Ctx}(c:bJ C)(hi:yI C):xz C:=
 {Dl c hi with
  solve:=λf lv d i e=>c.r333.go (Sr (Dl c hi) f i lv d e) rfl
  priced:=λf lv d i e=>c.r330.go (J4 (Dl c hi) f i lv d e) rfl }
theorem aiX{C:Ctx}(c:bJ C)(hi:yI C)(e:aJ C 332 [] .nil (aQ (.bool true))):W0 C:=
 {Ob c hi with
  check:=λf lv d l i=>c.r334.go (Sd (Ob c hi) f l lv d i) rfl
  bo:=e }
end L
theorem Uu{C:Ctx}(c:bJ C)(hi:yI C)(e:aJ C 332 [] .nil (aQ (.bool true)))(r:cK C 324 TC)(l:List Nat)(hb:∀x∈l,x<256)(i:Z' l≤9223372036854775807)(lv d:Int) :
  aJ C 324 [.sl 1 (lF l),.int .i64 lv,.int .i64 d] .nil (aQ (.bool true)):=r.go (Ux (L.aiX c hi e) l hb i lv d) rfl
end Go.PM
