/-
  Texts of ours, joined: CyL2 CyL3 CyL4 Jy1 Jy2. No condition.
-/
import Derived.Test.YtgfeljaimmnmmaaGreatDoorLo1
import Derived.Test.YtgfeljaimmnmmaaGreatDoorLo2
import Derived.Test.YtgfeljaimmnmmaaGreatDoorLo3
import Derived.Test.YtgfeljaimmnmmaaGreatDoorLo4
import Derived.Test.YtgfeljaimmnmmaaGreatDoorLo5

set_option linter.unusedSimpArgs false
set_option linter.unusedVariables false
open Nat renaming reduceEqDiff → γ, reduceAdd → δ, reduceSub → ε, reduceMul → ζ, reduceLT → η, reduceLeDiff → θ, reduceBEq → τ
open Int renaming reduceLT → ι, reduceLE → κ, reduceEq → μ, reduceToNat → ν, reduceAdd → ξ, reduceNeg → ο, reduceBEq → ρ, reduceBNe → σ
open List renaming reduceReplicate → υ
open List renaming length_map → a7W, range → a7X, getElem_mem → a7Z, replicate → a8A, length_append → a8E, length_singleton → a8I, mem_cons → a8J, getElem?_eq_getElem → a8K, all_eq_true → a8M, getD_eq_getElem?_getD → a8P, length_take → a8Q, not_mem_nil → a8R, take_of_length_le → a8S, getElem?_map → a8V, map_append → a8W, take_length → a8Y, mem_map → a8Z, mem_range → a9A, getElem?_eq_some_iff → a9F, append_assoc → a9G, drop_zero → a9H, getElem_of_mem → a9I, map_cons → a9L, getElem?_eq_none → a9N, length_cons → a9O, getElem_map → a9R, mem_append → a9S, take_succ_eq_append_getElem → a9U, append_nil → a9W, drop_eq_getElem_cons → a9X, range' → a9Y, length_drop → a9Z, Sublist → baA, length_set → baB, map_nil → baF, length_nil → baM, mem_singleton → baN, getElem?_append_right → baO, getElem?_append_left → baP, nodup_append → baQ, mem_of_getElem? → baS, set_append_right → baT, take_append_drop → baU, ext_getElem → bbE, range_succ → bbI, getElem?_take → bbK, drop_of_length_le → bbQ, map_congr_left → bbR, set_cons_zero → bbS, length_filter_le → bbT, getElem_append_right → bbU
open Nat renaming gcd → a7Y, zero_le → a8C, le_refl → a8D, mul_add → a8L, lt_or_ge → a8T, zero_add → a8U, mul_assoc → a8X, mul_comm → a9B, add_mul → a9C, mul_le_mul_right → a9D, le_trans → a9J, mod_eq_of_lt → a9K, mod_lt → a9P, pow_succ → a9T, add_zero → baC, eq_zero_or_pos → baG, add_assoc → baH, min_eq_left → baI, mul_le_mul_left → baJ, pos_of_ne_zero → baK, pow_pos → baR, div_le_self → baV, pow_le_pow_right → baW, sub_self → baX, div_lt_iff_lt_mul → bbB, succ_mul → bbC, mul_le_mul → bbF, div_add_mod → bbL, div_eq_of_lt → bbM
open Bool renaming not_true → a8B, false_and → a8F, true_and → a8H, not_false → a8N, and_eq_true → a8O, and_false → a9E, and_true → baD, and_assoc → baZ, and_self → bbA, false_eq_true → bbH
open Option renaming map_eq_some_iff → a8G, map_some → a9M, some → baL, getD_some → baY, bind_eq_some_iff → bbN, bind_some → bbO
open Int renaming toNat_natCast → a9Q, tdiv → baE
open Array renaming replicate → a9V, length_toList → bbD, getElem?_eq_some_iff → bbG, getElem?_eq_getElem → bbJ, getD_eq_getD_getElem? → bbP
namespace Go.PM
open Go Go.Na
structure arR (C:Ctx):Prop extends arS C where
 xg:∀ (f:aE) (a6X:Int),f.Ok→aH C 216 [.agg f.cells,.int .i64 a6X] .nil (aF (.tup [lay (sI f a6X),.int .i64 (pD f a6X)]))
 ot:∀ (f:aE) (lv cnt:Int),f.Ok→aH C 219 [.agg f.cells,pZ lv cnt] .nil (aF (.tup [lay (jU f lv cnt),.int .i64 (eS f lv cnt)]))
 admis:∀ (f:aE) (a6X:Int) (set:List Int),f.Ok→set.length≤1000000000000000→aH C 204 [.agg f.cells,.int .i64 a6X,ints set] .nil (aF (.bool (pC f a6X set)))
 SD:∀ (f:aE) (a6X:Int) (set:List Int),f.Ok→set.length≤1000000000000000→aH C 214 [.agg f.cells,.int .i64 a6X,ints set] .nil (aF (.bool (pC f a6X set)))
 rloss:∀ (f:aE) (a6X:Int) (set:List Int) (lv cnt:Int),f.Ok→set.length≤1000000000000000→aH C 221 [.agg f.cells,.int .i64 a6X,ints set,pZ lv cnt] .nil (aF (.tup [.int .i64 (rF f a6X set lv cnt:Nat),.int .i64 (lN f a6X set lv cnt)]))
theorem ajH (f:aE) (a6X:Int):(sI f a6X).length≤4096∧∀ w∈sI f a6X,w.length≤1000:=by
 unfold sI;split
 ·rename_i h;unfold pD at h;split at h
  ·rename_i d;split at h
   ·cases h
   ·rename_i u;obtain⟨hV,-⟩:=nS d;have i:=hV.a6X _ (nJ d).1;unfold nZ;constructor
    ·refine a9J (bbT ..) ?_;rw[a7W];have p:=pS f.a6L.length (fY (fV f a6X)).toNat 0;have q:2 ^ (f.a6L.length-0)≤2 ^ 12:=baW Om Om;have e:(2:Nat) ^ 12=4096:=by decide
     omega
    ·intro w c;obtain⟨s,l,rfl⟩:=a8Z.1 (List.mem_filter.1 c).1;rw[eK,(mQ _ _ _ _ l).1];unfold fY; omega
  ·cases h
 ·exact⟨by simp,fun w c=>by cases c⟩

theorem anK {C:Ctx} (u:arR C) (l:List Nat) (Z:∀ x∈l,x<256) (hl:l.length≤9223372036854775807) (p E y:Nat) (hp:p<256) (V:E<256) (S:y<256) (set:List Int) :
  zV.wp C (aV VD.res (aF (.bool true))) (PF.args [.sl 1 (kF l),.int .u8 p,.int .u8 E,.int .u8 y,ints set]) .nil:=by
 have U:=u.fleet l Z hl 7 0 (by decide) (by decide);obtain⟨hv,N⟩:=Lk (l.take 400) 7 0 0 (by decide) (by decide);have X:=Wf (l.take 400) 7 0 0;generalize (gZ (l.take 400) 7 0 0).1=f at *
 have hV:=VF.of hv;have β:=hV.small.a6P;have B:=u.fails E y V S;have ql:=Nat.mod_le p f.a6P.length;have w1:IntKind.i64.wrap (p:Int)=p:=wrap_i64 Om Om;have t1:Int.tmod (p:Int) (f.a6P.length:Nat)=((p%f.a6P.length:Nat):Int):=by rw[Int.tmod_eq_emod_of_nonneg Om]; omega
 have w2:IntKind.i64.wrap ((p%f.a6P.length:Nat):Int)=((p%f.a6P.length:Nat):Int):=wrap_i64 Om Om;have W:¬ (f.a6P.length:Int)=0:=Om;generalize p%f.a6P.length=q at *
 generalize 1+E%5=lv at *
 generalize 1+y%3=w at *
 obtain⟨a1,a2⟩:=ajH f q;have K:=u.xg f q N;generalize pD f q=ae at *
 generalize sI f q=i at *
 simp only[go_sem,zV,mj,ml,VD];refine aA U (by simp only[go_sem]; rfl) ?_;simp only[go_sem];refine aR fun Q h9=>?_;simp only[go_sem,mm,w1,a7W,W,t1,w2,mo];refine aA B Sq ?_;simp only[go_sem];refine aR fun F J=>?_;have Y:¬ Q=F:=fun e=>by rw[← e,cO] at J; cases J
 simp only[go_sem,a8J,a8R,or_false,forall_eq,forall_eq_or_imp,mp,Y];refine aA K Sq ?_;simp only[go_sem,mq];generalize R:(PH.nil.set Q _).set F _=H;have O:H Q=some (.rows 7 [f.cells]):=by rw[← R]; simp only[aT,if_neg Y,if_true]
 have A:H F=some (.rows 2 [[.int .i64 lv,.int .i64 w]]):=by rw[← R]; simp only[cO]
 clear R;refine wp_loop (α:=Nat) (fun k=>((((((PF.nil.set 4 (ints set)).set 11 (.ptr Q 7 0 0)).set 12 (.int .i64 q)).set 13 (.ptr F 2 0 0)).set 14 (lay i)).set 16 (.int .i64 k))) (fun _=>H) (fun k=>k≤i.length) (fun k=>i.length-k) 0 (a8C _) Lq b_ ?_;intro k hk;simp only[go_sem,WZ,mr,a7W];by_cases hlt:k<i.length
 ·have d:(k:Int)<(i.length:Nat):=Om;have M:(i.map fun r=>[ints r])[k]?=some [ints i[k]]:=by simp[hlt]
  have γ:=a2 i[k] (a7Z hlt);generalize i[k]=s at *
  have k1:=u.loss f q s lv w N Om;have k2:=u.rloss f q s lv w N Om;generalize rF f q s lv w=x at *
  generalize lN f q s lv w=e at *
  simp only[go_sem,d];refine bV H (cyS (.tup [.int .i64 x,.int .i64 e])) b_ ?_;simp only[go_sem,mu,O,A,d,M,a7W];refine bO rfl k1 Sq b_ ?_;simp only[go_sem];refine bV H (cyS (.tup [.int .i64 x,.int .i64 e])) b_ ?_;simp only[go_sem,mw,O,A,d,M,a7W];refine bO rfl k2 Sq b_ ?_;simp only[go_sem,my,bY (show e=e from rfl),bY (show (x:Int)=x from rfl),XA,wZz k];exact aD (k+1) hlt Om Lq b_
 have d:¬ (k:Int)<(i.length:Nat):=Om;simp only[go_sem,d,XB,a7W];by_cases c:(set.length:Int)>20
 ·simp only[go_sem,c,XC];refine aA u.Hn Ev ?_;simp only[go_sem];exact dR Sq rfl
 have k1:=u.loss f q set lv w N Om;have k2:=u.rloss f q set lv w N Om;generalize rF f q set lv w=x at *
 generalize lN f q set lv w=e at *
 simp only[go_sem,c,XD,O,A];refine aA k1 Sq ?_;simp only[go_sem,XE,O,A];refine aA k2 Sq ?_;simp only[go_sem,XF,bL (show e=e from rfl),bL (show (x:Int)=x from rfl)];refine aA u.Hn Ev ?_;simp only[go_sem];exact dR Sq rfl
def gi (C:Ctx) (k:Nat) (c:yV):Prop:=∀ (args:List PV) (H:PH) (R:PV→PH→Prop),args.length≤c.ntmps→c.body.wp C (aV c.res R) (PF.args args) H→aH C k args H R
theorem gi.go {C:Ctx} {k:Nat} {c:yV} (r:gi C k c) {args:List PV} {H:PH} {R:PV→PH→Prop} (h:c.body.wp C (aV c.res R) (PF.args args) H) (d:Nat.ble args.length c.ntmps=true):aH C k args H R:=r args H R (Nat.le_of_ble_eq_true d) h
structure cI (C:Ctx):Prop where
 r0:aM C 0 kk
 r1:aM C 1 Hz
 r2:aM C 2 amF
 r4:aM C 4 lz
 r5:aM C 5 amT
 r7:aM C 7 ly
 r27:aM C 27 kg
 r28:aM C 28 amS
 r29:aM C 29 H7
 r30:aM C 30 aqJ
 r31:aM C 31 Ib
 r32:aM C 32 aqK
 r33:aM C 33 udiv
 r34:aM C 34 aqO
 r35:aM C 35 Id
 r36:aM C 36 aqQ
 r37:aM C 37 aqT
 r38:aM C 38 If
 r39:aM C 39 VN
 r40:aM C 40 Ic
 r41:aM C 41 qh
 r42:aM C 42 qi
 r43:aM C 43 Ie
 r44:aM C 44 qq
 r45:aM C 45 uup
 r46:aM C 46 Ut
 r47:aM C 47 aqY
 r48:aM C 48 qx
 r49:aM C 49 Im
 r50:aM C 50 ri
 r51:aM C 51 rj
 r52:aM C 52 VS
 r53:aM C 53 Io
 r54:aM C 54 Ip
 r55:aM C 55 arB
 r56:aM C 56 ry
 r57:aM C 57 Il
 r58:aM C 58 VR
 r59:aM C 59 Iq
 r60:aM C 60 rx
 r61:aM C 61 BU
 r62:aM C 62 VU
 r63:aM C 63 r8
 r64:aM C 64 VT
 r65:aM C 65 VV
 r66:aM C 66 arO
 r67:aM C 67 tt
 r68:aM C 68 arN
 r69:aM C 69 arM
 r70:aM C 70 s8
 r71:aM C 71 s9
 r72:aM C 72 MR
 r73:aM C 73 ta
 r74:aM C 74 tc
 r75:aM C 75 VW
 r76:aM C 76 GM
 r77:aM C 77 KX
 r80:aM C 80 pe
 r81:aM C 81 VK
 r88:aM C 88 pd
 r94:aM C 94 Ho
 r95:aM C 95 alD
 r96:aM C 96 alJ
 r97:aM C 97 jz
 r98:aM C 98 Hr
 r99:aM C 99 Ht
 r100:aM C 100 Hu
 r101:aM C 101 gone
 r102:aM C 102 Hv
 r103:aM C 103 j2
 r104:aM C 104 gin
 r105:aM C 105 alE
 r106:aM C 106 alF
 r107:aM C 107 Hw
 r108:aM C 108 Hx
 r109:aM C 109 j5
 r110:aM C 110 Hy
 r111:aM C 111 Mu
 r112:aM C 112 alG
 r113:aM C 113 ZT
 r114:aM C 114 akR
 r115:aM C 115 jm
 r116:aM C 116 FP
 r117:aM C 117 ve
 r118:aM C 118 jy
 r119:aM C 119 akQ
 r120:aM C 120 rV
 r121:aM C 121 jx
 r122:aM C 122 Hq
 r123:aM C 123 kd
 r124:aM C 124 QH
 r125:aM C 125 QJ
 r126:aM C 126 FT
 r127:aM C 127 amX
 r128:aM C 128 H8
 r129:aM C 129 amZ
 r130:aM C 130 anB
 r131:aM C 131 anG
 r132:aM C 132 H9
 r133:aM C 133 anM
 r134:aM C 134 anO
 r135:aM C 135 Ia
 r136:aM C 136 VC
 r137:aM C 137 mh
 r138:aM C 138 yM
 r139:aM C 139 JX
 r140:aM C 140 mz
 r141:aM C 141 m6
 r142:aM C 142 BP
 r143:aM C 143 nup
 r201:aM C 201 aEJ
 r202:aM C 202 aEM
 r203:aM C 203 Jo
 r204:aM C 204 Jl
 r205:aM C 205 call17
 r206:aM C 206 Ke
 r207:aM C 207 u5
 r208:aM C 208 ajZ
 r209:aM C 209 u6
 r210:aM C 210 akI
 r211:aM C 211 Kf
 r212:aM C 212 akP
 r213:aM C 213 aIS
 r214:aM C 214 SD
 r215:aM C 215 VH
 r216:aM C 216 xg
 r217:aM C 217 Sw
 r218:aM C 218 aIV
 r219:aM C 219 ot
 r220:aM C 220 anZ
 r221:aM C 221 xo
 r222:aM C 222 P7
 r223:aM C 223 Qt
 r229:∃ asg bdy,gi C 229 (akH asg bdy)
 r230:∃ asg bdy,gi C 230 (akG asg bdy)
namespace Y
theorem kR {C:Ctx} (c:cI C):pU C :=
 have len:∀ xs,Lim xs→xs.length≤35184372087808→aH C 138 [aJ xs] .nil (aF (.int .i64 (nl (val xs):Nat))):=fun xs h l=>c.r138.go (mi xs h l) rfl
 {length:=len
  large:=fun xs h l=>c.r137.go (Ca xs (len xs h l)) rfl
  sized:=fun xs h l=>(c.r141.go (Cr xs h (len xs h l)) rfl).seen
  trim:=fun xs h l=>(c.r135.go (Rf xs h l (len xs h l)) rfl).seen
  make:=fun v h=>c.r132.go (Qv v h len) rfl
  cmp:=fun xs ys d e i p=>c.r129.go (acN xs ys d e i p (len xs d i) (len ys e p)) rfl }
theorem amW {C:Ctx} (c:cI C):ga C :=
 {subtract:=fun A W Z v f o hW l i e p d=>c.r142.go (RI A W Z v f hW l i e p d o) rfl
  restore:=fun A W Z v o hW l i e=>c.r139.go (XH A W Z v hW l i e o) rfl }
theorem cj {C:Ctx} (c:cI C):ZJ C :=
 {L:=kR c
  D:=amW c
  up:=fun a s i u e=>c.r143.go (avF a s i u e) rfl
  short:=fun a d i l p e=>c.r140.go (Cf (kR c) a d i l p e) rfl
  lengthO:=fun xs o w q=>c.r138.go (WY xs w q o) rfl }
theorem zS {C:Ctx} (c:cI C) (A B:Nat) (hB:B≠0) (e:nl A≤900) (d:nl B≤900):aH C 136 [aJ (aI A),aJ (aI B)] .nil (aF (pJ A B)) :=
 (c.r136.go (l4 (cj c) A B hB e d) rfl).seen
theorem lI {C:Ctx} (c:cI C):qW C :=
 {kR c with
  bits:=fun xs h l=>c.r128.go (Qa xs h l ((kR c).length xs h l)) rfl
  add:=fun xs ys d e i p=>(c.r127.go (acG (kR c) xs ys d e i p) rfl).seen
  sub:=fun xs ys d e i p=>(c.r134.go (adT (kR c) xs ys d e i p) rfl).seen
  mul:=fun xs ys d e i p=>(c.r133.go (adO (kR c) xs ys d e i p) rfl).seen
  gcd:=fun xs ys d e i p=>(c.r131.go (adG (kR c) (zS c) xs ys d e i p) rfl).seen
  div:=fun xs ys d e i p=>(c.r130.go (acY (kR c) (zS c) xs ys d e i p) rfl).seen }
theorem qC {C:Ctx} (c:cI C):AR C :=
 {lI c with
  times:=fun a b d i e l p q=>c.r121.go (Ad (lI c) a b d i e l p q) rfl
  zero:=fun neg a b d e=>c.r122.go (Lu (lI c) neg a b d e) rfl
  valid:=fun neg a b d i e l=>c.r118.go (Ah (lI c) neg a b d i e l) rfl
  abs:=fun v w x=>c.r119.go (Y1 (lI c) v w x) rfl
  lowest:=fun neg a b d i e l p q u=>(c.r120.go (jg (lI c) neg a b d i e l p q u) rfl).seen }
theorem PU {C:Ctx} (c:cI C) (x y:RF) (d:x.Ok) (e:y.Ok):aH C 113 [.agg x.cells,.agg y.cells] .nil (aF (frV (gJ x.v y.v))) :=
 (c.r113.go (Y6 (qC c) x.neg y.neg x.num x.den y.num y.den d.1 d.2.1 e.1 e.2.1 d.2.2.1 d.2.2.2 e.2.2.1 e.2.2.2) rfl).seen
theorem HU {C:Ctx} (c:cI C):fv C :=
 {qC c with
  frac:=fun n d u p=>(c.r115.go (Ll (qC c) n d u.1 u.2 p.1 p.2) rfl).seen
  red:=fun x e=>by rw[← n6];exact (c.r116.go (jp (qC c) x.neg x.num x.den e.1 e.2.1 e.2.2.1 e.2.2.2) rfl).seen
  ord:=fun x y e i=>(c.r114.go (Zg (qC c) x.neg y.neg x.num x.den y.num y.den e.1 e.2.1 i.1 i.2.1 e.2.2.1 e.2.2.2 i.2.2.1 i.2.2.2) rfl).seen
  plus:=PU c
  tot:=fun l q=>(c.r117.go (Zm (qC c) (PU c) l q.all q.fits) rfl).seen }
theorem qB {C:Ctx} (c:cI C):rD C :=
 have inn:∀ n lo hi:Int,aH C 104 [.int .i64 n,.int .i64 lo,.int .i64 hi] .nil (aF (.bool (within n lo hi))):=fun n lo hi=>(c.r104.go (atH n lo hi) rfl).seen;have lK:∀ x:RF,x.Ok→aH C 97 [.agg x.cells] .nil (aF (.bool (bG x))):=fun x i=>(c.r97.go (Ak (lI c) x i) rfl).seen;have lim:∀ x:RF,x.Ok→aH C 105 [.agg x.cells] .nil (aF (.bool (cS x))):=fun x i=>(c.r105.go (aaD (HU c) x i) rfl).seen;have d:∀ n:Nat,aH C 126 [.int .u8 n] .nil (aF (.bool (eO n))):=fun n=>c.r126.go (kc n) rfl;have e:∀ n:Nat,aH C 124 [.int .u8 n] .nil (aF (.bool (kK n))):=fun n=>c.r124.go (A3 n) rfl
 {HU c with
  inn:=inn
  lK:=lK
  lim:=lim
  one:=fun x i=>(c.r101.go (aaK (HU c) x i) rfl).seen
  allf:=fun p fn l q h=>(c.r99.go (Mb p fn l q h) rfl).seen
  alli:=fun p fn l q h=>(c.r100.go (Ml p fn l q h) rfl).seen
  allb:=fun p fn l q h=>(c.r98.go (Lz p fn l q h) rfl).seen
  ends1:=fun b=>(c.r103.go (An b) rfl).seen
  num1:=fun n=>(c.r107.go (M7 inn n) rfl).seen
  rate1:=fun x i=>(c.r109.go (Au lim lK x i) rfl).seen
  name:=fun s=>c.r123.go (Oq d (fun n=>c.r125.go (A5 d e n) rfl) s) rfl }
theorem PR {C:Ctx} (c:cI C):ft C :=
 {qB c with
  num:=fun p d=>(c.r106.go (aaG (qB c) p d) rfl).seen
  rate:=fun p d=>(c.r108.go (Nf (qB c) p d) rfl).seen
  uniq:=fun l e=>(c.r110.go (Nm (qB c) l e) rfl).seen }
theorem PS {C:Ctx} (c:cI C):NW C :=
 {PR c with
  ends:=fun l e d=>(c.r102.go (My (qB c) l e d) rfl).seen }
theorem Lh {C:Ctx} (c:cI C):jV C :=
 {PS c with
  law:=fun l e=>(c.r95.go (Z4 (PS c) l e) rfl).seen
  pol:=fun p n q i=>(c.r112.go (aaO (PR c) p q n i) rfl).seen
  a6U:=fun f d=>(c.r111.go (Zw (qB c) f d) rfl).seen }
theorem vd {C:Ctx} (c:cI C) (f:aE) (d:f.Ok):aH C 96 [.agg f.cells] .nil (aF (.int .i64 (wK f))):=(c.r96.go (aaX (Lh c) f d) rfl).seen
theorem jT {C:Ctx} (c:cI C):oT C:={ trimM:=fun xs h l=>c.r38.go (Un xs h l) rfl }
theorem RY {C:Ctx} (c:cI C):gd C :=
 {jT c with
  make:=fun v h=>(c.r35.go (Ub (jT c) v h) rfl).seen
  large:=fun xs h l=>(c.r41.go (Em (jT c) xs h l) rfl).seen
  cmp:=fun xs ys d e i p=>c.r32.go (afO (jT c) xs ys d e i p) rfl }
theorem SA {C:Ctx} (c:cI C):gf C :=
 {RY c with
  minus:=fun a b e i l q d=>(c.r42.go (Ep (jT c) a b e i l q d) rfl).seen
  times:=fun a b e i d p=>(c.r44.go (E6 (jT c) a b e i d p) rfl).seen }
theorem AA {C:Ctx} (c:cI C):OB C :=
 {SA c with
  plus:=fun a b i l d e=>(c.r43.go (Ug (jT c) a b i l d e) rfl).seen }
theorem Rw {C:Ctx} (c:cI C):FF C :=
 {AA c with
  bits:=fun xs h l=>c.r31.go (Tj (jT c) xs h l) rfl
  upM:=fun a n e d i p=>c.r45.go (aCO (jT c) a n e d i p) rfl
  down:=fun a n e d i=>(c.r40.go (T1 (jT c) a n e d i) rfl).seen }
theorem zZ {C:Ctx} (c:cI C):NZ C :=
 {RY c with
  divide:=fun A B hB e d=>(c.r39.go (p9 (Rw c) A B hB e d) rfl).seen }
theorem RZ {C:Ctx} (c:cI C):ge C :=
 {zZ c with
  gcd:=fun a b d e i l=>(c.r34.go (agH (zZ c) a b d e i l) rfl).seen
  div:=fun a b d e i l=>(c.r33.go (afZ (zZ c) a b d e i l) rfl).seen }
theorem nc {C:Ctx} (c:cI C):Hk C :=
 {RZ c with
  lowest:=fun neg a b i l p q u w e=>(c.r58.go (qy (RZ c) neg a b i l p q u w e) rfl).seen
  size:=fun v d=>c.r59.go (Vj v d.1 d.2) rfl }
theorem tG {C:Ctx} (c:cI C):OA C :=
 {nc c with
  fmk:=fun n d i e=>(c.r50.go (U7 (nc c) n d i e) rfl).seen }
theorem JJ {C:Ctx} (c:cI C) (hi:oQ C):AV C :=
 {tG c with
  int:=fun n d=>(c.r47.go (VQ (tG c) n d) rfl).seen
  itoa:=hi
  next:=fun l v T o n a d e=>c.r4.go (Py T o n a d e) rfl }
theorem QQ {C:Ctx} (c:cI C) (hi:oQ C):fy C :=
 {JJ c hi with
  frac:=fun l v T o a d=>c.r1.go (Pa (JJ c hi) T o a d) rfl }
theorem QR {C:Ctx} (c:cI C) (hi:oQ C):qV C :=
 {QQ c hi with
  rep:=fun l v T o a m e d=>c.r5.go (abX (QQ c hi) T o a m e d) rfl
  name:=fun s n p i=>c.r29.go (Pv (JJ c hi) s n p i) rfl }
theorem QS {C:Ctx} (c:cI C) (hi:oQ C):mB C :=
 {QR c hi with
  law:=fun l v T o dZ a i d e=>c.r2.go (abL (QR c hi) T o dZ a i d e) rfl }
theorem QT {C:Ctx} (c:cI C) (hi:oQ C):fz C :=
 {QS c hi with
  grow:=fun l v T mc a6L d e i=>ao (QS c hi) T mc a6L d e i (fun args H R p h=>c.r7 args H R (by rw[p]; decide) h) 4 (a8D _) }
theorem auR {C:Ctx} (c:cI C) (hi:oQ C):Iz C :=
 {QT c hi with
  new:=fun l p q=>c.r28.go (abS l p q) rfl
  fleet:=fun l v T o a6L a6N a d e i=>FC.exact (c.r0.go (Bf (QT c hi) T o a6L a6N a d e i) rfl) }
theorem KK {C:Ctx} (c:cI C):gg C :=
 {tG c with
  int:=fun n p=>(c.r47.go (VQ (tG c) n p) rfl).seen
  mul:=fun a b d e i l=>(c.r36.go (agP (SA c) a b d e i l) rfl).seen
  add:=fun a b d e i l=>(c.r30.go (afH (AA c) a b d e i l) rfl).seen
  sub:=fun a b d e i l=>(c.r37.go (agX (AA c) a b d e i l) rfl).seen }
theorem AB {C:Ctx} (c:cI C):OC C :=
 {KK c with
  valid:=fun x d=>c.r56.go (F7 (KK c) x.neg x.num x.den d.1 d.2.1 d.2.2.1 d.2.2.2) rfl
  big:=fun x=>c.r48.go (Fh x.1 (aI x.2.1) (aI x.2.2)) rfl }
theorem SB {C:Ctx} (c:cI C):gh C :=
 {AB c with
  fits:=fun x=>(c.r57.go (Ux (AB c) x) rfl).seen
  red:=fun x i=>(c.r52.go (rk (AB c) x i) rfl).seen
  prod:=fun a b d e l p q u=>c.r60.go (Fw (KK c) a b d e l p q u) rfl }
theorem pP {C:Ctx} (c:cI C):vK C :=
 {SB c with
  order:=fun x y d e i l=>c.r51.go (Fk (SB c) x y d e i l) rfl }
theorem ni {C:Ctx} (c:cI C):Hl C :=
 {pP c with
  less:=fun x y d e i l=>c.r49.go (U4 (pP c) x y d e i l) rfl
  same:=fun x y d e i l=>c.r53.go (Vd (pP c) x y d e i l) rfl
  sign:=fun x d i=>c.r54.go (Vg (pP c) x d i) rfl
  plus:=fun x y d e=>(c.r46.go (ahG (pP c) x y d e) rfl).seen }
theorem zY {C:Ctx} (c:cI C):NY C :=
 {ni c with
  sum:=fun l e d=>(c.r55.go (ahU (ni c) l e d) rfl).seen
  inn:=fun n lo hi=>c.r76.go (uu n lo hi) rfl
  code:=fun k m=>c.r61.go (S0 k m) rfl }
theorem FY {C:Ctx} (c:cI C):UI C :=
 {zY c with
  small:=fun x d=>c.r74.go (Gw (zY c) x d) rfl
  nums:=fun k m q s0 s1 s2 s3 s4=>c.r72.go (YZ (zY c) k m q s0 s1 s2 s3 s4) rfl
  sizes:=fun e i l p u w=>c.r73.go (Gt e i l p u w) rfl }
theorem FZ {C:Ctx} (c:cI C):UJ C :=
 {FY c with
  smalls:=fun l d n=>c.r75.go (te (FY c) l d n) rfl }
theorem GA {C:Ctx} (c:cI C):UK C :=
 {FZ c with
  reps:=fun l d m=>c.r66.go (aiS (FZ c) l d m) rfl }
theorem GB {C:Ctx} (c:cI C):UL C :=
 have d:∀ n:Nat,aH C 65 [.int .u8 n] .nil (aF (.bool (eO n))):=fun n=>c.r65.go (su n) rfl;have e:∀ n:Nat,aH C 63 [.int .u8 n] .nil (aF (.bool (kK n))):=fun n=>c.r63.go (Gb n) rfl
 {GA c with
  name:=fun s=>c.r62.go (se d (fun n=>c.r64.go (r9 d e n) rfl) s) rfl
  index:=fun l i s=>c.r71.go (Gl l i s) rfl }
theorem GC {C:Ctx} (c:cI C):oJ C :=
 {GB c with
  fresh:=fun l e s w H d=>c.r70.go (Gh (GB c) l e s w H d) rfl }
theorem xc {C:Ctx} (c:cI C):pW C :=
 {GC c with
  law:=fun l d=>c.r68.go (aiJ (GC c) l d) rfl }
theorem aeG {C:Ctx} (c:cI C):UM C :=
 {xc c with
  dur:=fun m rep e t h i d=>c.r69.go (aiF (GA c) m rep e t h i d) rfl }
theorem aDI {C:Ctx} (c:cI C) (f:aE) (d:f.Ok):aH C 67 [.agg f.cells] .nil (aF (.bool (dS f))):=c.r67.go (aDS (aeG c) f d) rfl
theorem aYH {C:Ctx} (c:cI C):ajC C :=
 {adm:=fun f p set hV l d q=>c.r201.go (aOZ f hV p l d set q) rfl
  asc:=fun set n top i=>c.r202.go (aPD set i n top) rfl
  known:=fun f a6X e=>c.r203.go (asF (vd c) f e a6X) rfl }
theorem aOO {C:Ctx} (c:cI C):fm C :=
 {aYH c with
  subs:=fun n top=>c.r210.go (aFD n top) rfl
  iter:=fun l o1 o2 n top J x e i u w q y H p d b1 b2 g1 g2=>c.r211.go (aES J x e i u w q p d b1 b2 g1 g2) rfl }
theorem aOP {C:Ctx} (c:cI C):Iu C :=
 {aOO c with
  sets:=fun f p hV u y d w l x q=>by obtain⟨e,i,r⟩:=c.r229;exact (r.go (aFB (aOO c) e i f hV u p y d w l x q) rfl).seen }
theorem aOQ {C:Ctx} (c:cI C):Iv C :=
 {aOP c with
  val:=vd c
  units:=fun f lv hV d h5=>(c.r206.go (asK f hV lv d h5) rfl).seen
  choose:=fun m n e i=>c.r207.go (ajX m n e i) rfl }
theorem arI {C:Ctx} (c:cI C):arT C :=
 {aOQ c with
  uM:=fun f lv i l=>by obtain⟨d,e,r⟩:=c.r230;exact (r.go (aEZ (aOQ c) d e f l lv i) rfl).seen
  admis:=fun f a6X set l x=>c.r204.go (asA (aYH c) f l a6X set x) rfl
  loss:=fun sc set m p q u w=>c.r208.go (aET sc p q set u w m) rfl }
theorem aYG {C:Ctx} (c:cI C) (hi:oQ C):aOB C :=
 {same1:=fun l d=>c.r94.go (aFO l d) rfl
  fleet:=fun l u d a6L a6N i q=>(c.r27.go (auO (auR c hi) l u d a6L a6N i q) rfl).seen
  all:=fun f a6X p=>(c.r205.go (asC (aOP c) f p a6X) rfl).seen
  uM:=(arI c).uM
  loss:=fun f a6X set lv e p d=>c.r209.go (akB (arI c) f p a6X set d lv e) rfl }
theorem aON {C:Ctx} (c:cI C) (hi:oQ C):It C :=
 { aYG c hi with sets:=fun a d e=>c.r212.go (aFV (aYG c hi).same1 a d e) rfl }
theorem a1Q {C:Ctx} (c:cI C) (hi:oQ C):arS C :=
 {aON c hi with
  Hn:=c.r222.go (auU (aON c hi)) rfl
  fails:=fun a b d e=>c.r223.go (auX a b d e) rfl }
theorem aYI {C:Ctx} (c:cI C):I0 C :=
 {valid:=aDI c
  lK:=fun f d level p l e i=>c.r88.go (awN f p d l level e i) rfl }
theorem aYJ {C:Ctx} (c:cI C):Hj C :=
 {allowed:=fun f p d hV e i=>c.r77.go (Xh f hV p e d i) rfl
  count:=fun f row n hV q l=>c.r80.go (axB (aYI c) f hV row q n l) rfl
  valid:=aDI c }
theorem aiE {C:Ctx} (c:cI C):∀ k a n:Nat,k≤10→a≤1000→n≤40→aH C 215 [.int .i64 a,.int .i64 n,.int .i64 k] .nil (aF (lay (fQ (cQ n k a))))
 | 0,a,n,l,i,d=>(c.r215.go (nn 0 a n l i d fun _ _ _ h=>by cases h) rfl).seen
 | k+1,a,n,l,i,d=>(c.r215.go (nn (k+1) a n l i d fun p q h e=>by cases e; exact aiE c k p n Om h d) rfl).seen
theorem arJ {C:Ctx} (c:cI C):fp C :=
 {aYJ c with
  adm:=fun f p set hV d l e u i q=>c.r213.go (aRX (aYJ c) f hV p d l e u i set q) rfl
  choose:=aiE c }
theorem arK {C:Ctx} (c:cI C):fq C :=
 {arJ c with
  a6L:=fun f dom d=>(c.r81.go (aoE (aYI c) f d dom) rfl).seen
  has:=fun l x h=>c.r218.go (aSD l h x) rfl }
theorem aOR {C:Ctx} (c:cI C):FB C :=
 { arK c with units:=fun f lv e i d h5=>(c.r217.go (awL (arK c) f e i lv d h5) rfl).seen }
theorem arL {C:Ctx} (c:cI C):arU C :=
 {aOR c with
  uM:=fun f lv d e=>(c.r219.go (aJC (aOR c) f e lv d) rfl).seen
  admis:=fun f a6X set e q=>c.r214.go (awB (arJ c) f e a6X set q) rfl
  lost:=fun sc set m i l p=>c.r220.go (aIW (arK c) sc i l set p m) rfl }
theorem a1P {C:Ctx} (c:cI C) (hi:oQ C):arR C :=
 {a1Q c hi with
  xg:=fun f a6X e=>(c.r216.go (aRZ (arJ c) f e a6X) rfl).seen
  ot:=(arL c).uM
  admis:=(arI c).admis
  SD:=(arL c).admis
  rloss:=fun f a6X set lv d e i=>c.r221.go (anX (arL c) f e a6X set i lv d) rfl }
end Y
theorem aUP {C:Ctx} (c:cI C) (hi:oQ C) (r:aM C 227 VD) (l:List Nat) (q:∀ x∈l,x<256) (u:l.length≤9223372036854775807) (p lv d:Nat) (w:p<256) (i:lv<256) (e:d<256) (set:List Int):aH C 227 [.sl 1 (kF l),.int .u8 p,.int .u8 lv,.int .u8 d,ints set] .nil (aF (.bool true)) :=
 r.go (anK (Y.a1P c hi) l q u p lv d w i e set) rfl
end Go.PM
