/-Lemmas for the law. No condition.-/
import Derived.Test.YtjlbgiaeggfcaaaGreatDoorCP6

set_option linter.unusedSimpArgs false
set_option linter.unusedVariables false
open List renaming length_map->bkG,mem_cons->bkX,not_mem_nil->blD
open Bool renaming and_eq_true->bkI
open Nat renaming zero_le->bkL,le_refl->bkN,le_trans->blH,beq->bmL
open List renaming length->Z'
set_option maxRecDepth 100000
set_option maxHeartbeats 800000
noncomputable section
namespace Go.PM
open Go Go.Na
def mu:List (List PV)->Option (List Nat)
 |[]=>some []
 |r::rs=>match r with
  |[.int .u32 (.ofNat n)]=>if Nat.blt n 4294967296 then match mu rs with
   |some l=>some (n::l)
   |none=>none
   else none
  |_=>none
def AU:PV->Option (List Nat)
 | .aK=>some []
 | .sl s rows=>if bmL s 1&&Nat.ble rows.length 1000 then mu rows else none
 |_=>none
def amZ:List PV->Option RF
 |[.bool n,a,b]=>match AU a,AU b with
  |some x,some y=>some ⟨n,x,y⟩
  |_,_=>none
 |_=>none
theorem Gf:∀{rs:List (List PV)}{l:List Nat},mu rs=some l->rs=l.map (λ(n:Nat)=>[PV.int .u32 (n:Int)])/\Lim l
 |[],l,h=>by cases h;exact⟨rfl,λx d=>by cases d⟩
 |r::rs,l,h=>by
  simp only[mu]at h;split at h
  ·split at h
   ·rename_i n w;split at h
    ·rename_i y i;cases h;obtain⟨p,u⟩:=Gf i;refine⟨by rw[p];rfl,λx d=>?_⟩;rcases bkX.1 d with e|e
     ·subst e;exact of_decide_eq_true (by simpa[Nat.blt_eq]using w)
     ·exact u x e
    ·cases h
   ·cases h
  ·cases h
structure a8N(v:PV)(l:List Nat):Prop where
 co:Co v (aN l)
 lim:Lim l
 len:Z' l<=1000
theorem vL{v:PV}{l:List Nat}(h:AU v=some l):a8N v l:=by
 unfold AU at h;split at h
 ·cases h;exact⟨.nil 1,λx u=>(blD u).elim,bkL _⟩
 ·split at h
  ·rename_i s rows d;simp only[bkI]at d;obtain⟨e,p⟩:=Gf h;have i:=Nat.le_of_ble_eq_true d.2;rw[e,bkG]at i;refine⟨?_,p,i⟩;rw[Nat.eq_of_beq_eq_true d.1,e];exact .refl _
  ·cases h
 ·cases h
structure bfJ(cs:List PV)(x:RF):Prop where
 co:CoL cs x.cells
 ok:x.Ok
theorem Of{cs:List PV}{x:RF}(h:amZ cs=some x):bfJ cs x:=by
 unfold amZ at h;split at h
 ·split at h
  ·rename_i a b _ _ d e;cases h;have k1:=vL d;have k2:=vL e;exact⟨.cons (.refl _) (.cons k1.co (.cons k2.co .nil)),k1.lim,k2.lim,blH k1.len aU,blH k2.len aU⟩
  ·cases h
 ·cases h
noncomputable def kX:aE:={ aNF with biX:=[⟨[118,48],0⟩] }
theorem zo:kX.Ok:=a9O (by decide +kernel)
theorem jx:FI kX 0=[[0]]/\vC kX 0=0/\uP kX=0:=by decide +kernel
theorem Jq:fH kX 5 1=[[0]]/\eZ kX 5 1=0:=by decide +kernel
theorem avB:cQ kX=true:=by decide +kernel
theorem aNG:gP kX (dS kX 0)=[[0]]:=by decide +kernel
theorem aTM:Z' kX.biV<=12/\(∀m∈(dS kX 0).biW,0<=m/\m<Z' kX.biW)/\(dS kX 0).biW.length<=99/\1<=(dS kX 0).k/\(dS kX 0).k<=6/\0<=(dS kX 0).m/\(dS kX 0).m<=4:=by decide +kernel
structure Y2(C:Ctx):Prop extends zW C where
 fleet:∀(l:List Nat),(∀x∈l,x<256)->Z' l<=9223372036854775807->∀biV biX:Nat,biV<=60->biX<=50 ->
  aH C 27 [.sl 1 (mG l),.int .i64 biV,.int .i64 biX] .nil (aF (.agg (kO (l.take 400) biV biX 0).1.cells))
 val:∀f:aE,f.Ok->aH C 96 [.agg f.cells] .nil (aF (.int .i64 (uP f)))
 all:∀(f:aE)(bjH:Int),f.Ok->aH C 205 [.agg f.cells,.int .i64 bjH] .nil (aF (.tup [lay (FI f bjH),.int .i64 (vC f bjH)]))
 tU:∀(f:aE)(lv cnt:Int),f.Ok->aH C 230 [.agg f.cells,oI lv cnt] .nil (aF (.tup [lay (fH f lv cnt),.int .i64 (eZ f lv cnt)]))
 sets:∀(f:aE)(p:cJ),VF f->Z' f.biV<=12->(∀m∈p.biW,0<=m/\m<Z' f.biW)->Fits p.biW->1<=p.k->p.k<=6->0<=p.m->p.m<=4->aH C 229 [.agg f.cells,.agg p.cells] .nil (aF (lay (gP f p)))
def or1(g:RF->PV)(vs:List PV):Option PV:=match vs with
 |[.agg x]=>match amZ x with
  |some a=>some (g a)
  |none=>none
 |_=>none
def or2(g:RF->RF->PV)(vs:List PV):Option PV:=match vs with
 |[.agg x,.agg y]=>match amZ x with
  |some a=>match amZ y with
   |some b=>some (g a b)
   |none=>none
  |none=>none
 |_=>none
def orE(vs d:List PV)(v:PV):Option PV:=if PV.NX vs d then some v else none
noncomputable def alW:Orc:=λname vs=>match name with
 |113=>or2 (λa b=>frV (gJ a.v b.v)) vs
 |114=>or2 (λa b=>wJ a.neg (val a.num) (val a.den) b.neg (val b.num) (val b.den)) vs
 |115=>match vs with
  |[.int .i64 n,.int .i64 d]=>if decide (dJ n)&&decide (dJ d)then some (MV n d)else none
  |_=>none
 |116=>or1 (λa=>frV (mY a)) vs
 |118=>or1 (λa=>.bool (cB (val a.num) (val a.den))) vs
 |120=>match vs with
  |[.bool neg,x,y]=>match AU x with
   |some a=>match AU y with
    |some b=>if decide (nl (val a)<=512)&&(decide (nl (val b)<=512)&&!bmL (val b) 0)then some (CR neg (val a) (val b))else none
    |none=>none
   |none=>none
  |_=>none
 |121=>match vs with
  |[x,y]=>match AU x with
   |some a=>match AU y with
    |some b=>if decide (nl (val a)<=256)&&decide (nl (val b)<=256)then some (aN (aM (val a*val b)))else none
    |none=>none
   |none=>none
  |_=>none
 |128=>match vs with
  |[x]=>match AU x with
   |some a=>some (.int .i64 (dC (val a):Nat))
   |none=>none
  |_=>none
 |27=>orE vs [.aK,.int .i64 1,.int .i64 0] (.agg aNF.cells)
 |96=>orE vs [.agg kX.cells] (.int .i64 0)
 |205=>orE vs [.agg kX.cells,.int .i64 0] (.tup [lay [[0]],.int .i64 0])
 |230=>orE vs [.agg kX.cells,oI 5 1] (.tup [lay [[0]],.int .i64 0])
 |229=>orE vs [.agg kX.cells,.agg (dS kX 0).cells] (lay [[0]])
 |_=>none
section
variable {C:Ctx}
theorem aSB{name:Nat}{g:RF->PV}(h:∀x:RF,x.Ok->aH C name [.agg x.cells] .nil (aF (g x))){vs:List PV}{v:PV}(e:or1 g vs=some v):aH C name vs .nil (aF v):=by
 unfold or1 at e;split at e
 ·split at e
  ·rename_i a d;cases e;have k:=Of d;exact(h a k.ok).args (.cons (CoL.agg k.co) .nil)
  ·cases e
 ·cases e
theorem aSC{name:Nat}{g:RF->RF->PV}(h:∀x y:RF,x.Ok->y.Ok->aH C name [.agg x.cells,.agg y.cells] .nil (aF (g x y))){vs:List PV}{v:PV}(e:or2 g vs=some v):aH C name vs .nil (aF v):=by
 unfold or2 at e;split at e
 ·split at e
  ·rename_i a d;split at e
   ·rename_i b i;cases e;have k:=Of d;have k2:=Of i;exact(h a b k.ok k2.ok).args (.cons (CoL.agg k.co) (.cons (CoL.agg k2.co) .nil))
   ·cases e
  ·cases e
 ·cases e
theorem ik{name:Nat}{vs d:List PV}{v w:PV}(h:aH C name d .nil (aF w))(e:orE vs d w=some v):aH C name vs .nil (aF v):=by
 unfold orE at e;split at e
 ·rename_i i;cases e;rw[PV.CE _ _ i];exact h
 ·cases e
theorem aMC(L:Y2 C){name:Nat}{vs:List PV}{v:PV}(e:alW name vs=some v):aH C name vs .nil (aF v):=by
 unfold alW at e;split at e
 ·exact aSC L.plus e
 ·exact aSC L.ord e
 ·split at e
  ·split at e
   ·rename_i d;simp only[bkI,dT_]at d;cases e;exact L.frac _ _ d.1 d.2
   ·cases e
  ·cases e
 ·exact aSB L.red e
 ·exact aSB (λx l=>L.valid x.neg x.num x.den l.1 l.2.1 l.2.2.1 l.2.2.2) e
 ·split at e
  ·split at e
   ·rename_i a i;split at e
    ·rename_i b p;split at e
     ·rename_i d;simp only[bkI,dT_,Bool.not_eq_true']at d;cases e;have k1:=vL i;have k2:=vL p;exact(L.lowest _ a b k1.lim k2.lim (blH k1.len aU) (blH k2.len aU) d.1 d.2.1 (λw=>by rw[w]at d;simp at d)).args (.cons (.refl _) (.cons k1.co (.cons k2.co .nil)))
     ·cases e
    ·cases e
   ·cases e
  ·cases e
 ·split at e
  ·split at e
   ·rename_i a i;split at e
    ·rename_i b p;split at e
     ·rename_i d;simp only[bkI,dT_]at d;cases e;have k1:=vL i;have k2:=vL p;exact(L.times a b k1.lim k2.lim (blH k1.len aU) (blH k2.len aU) d.1 d.2).args (.cons k1.co (.cons k2.co .nil))
     ·cases e
    ·cases e
   ·cases e
  ·cases e
 ·split at e
  ·split at e
   ·rename_i a i;cases e;have k1:=vL i;exact(L.bits a k1.lim (blH k1.len aU)).args (.cons k1.co .nil)
   ·cases e
  ·cases e
 ·have B:=L.fleet [] (λx l=>by cases l) aU 1 0 aU aU;have u:aH C 27 [.sl 1 (mG []),.int .i64 (1:Nat),.int .i64 (0:Nat)] .nil (aF (.agg aNF.cells)):=B;exact ik (u.args (.aIR (.nil 1) (.aIR (.refl _) (.aIR (.refl _) .bgH)))) e
 ·have h:=L.val kX zo;rw[jx.2.2]at h;exact ik h e
 ·have h:=L.all kX 0 zo;rw[jx.1,jx.2.1]at h;exact ik h e
 ·have h:=L.tU kX 5 1 zo;rw[Jq.1,Jq.2]at h;exact ik h e
 ·obtain⟨i,p,E,y,h5,A,h7⟩:=aTM;have h:=L.sets kX (dS kX 0) (VF.of avB) i p (by unfold Fits;omega) y h5 A h7;rw[aNG]at h;exact ik h e
 ·cases e
theorem a6K(L:Y2 C):Y3 C alW:=λ_ _ _ e=>(aMC L e).Zf λ_ _ h=>h.1
theorem aH.bare{name:Nat}{vs:List PV}{H:PH}{v:PV}(h:aH C name vs H (λx _=>x=v)):aH C name vs H (aF v):=by
 refine⟨h.1,λE w y l hW d=>(h.2 E w y l hW d).mono λA B p=>?_⟩;obtain⟨u,pv,e,H',g1,g2,g3,g4,i⟩:=p;exact⟨u,pv,e,.nil,g1,g2.weaken a_,g3,g4.drop a_,i,rfl⟩
theorem aSZ(L:Y2 C){tab:Nat->Option bB}{fz:Nat->Bool}(d:∀k pf,tab k=some pf->Az C k pf)(m n:Nat){name:Nat}{vs:List PV}{v:PV}(e:A4 (PU tab alW fz l8 m n) name vs=some v):aH C name vs .nil (aF v):=
 aH.bare (aMW (a6K L) d m n e)
end
structure NV(C:Ctx):Prop where
 r0:bQ C 0 aiF
 r1:bQ C 1 aLD
 r2:bQ C 2 aYT
 r4:bQ C 4 Ze
 r5:bQ C 5 aYY
 r6:bQ C 6 aLI
 r7:bQ C 7 Zd
 r27:bQ C 27 ahU
 r28:bQ C 28 aYW
 r29:bQ C 29 aLG
 r30:bQ C 30 a0T
 r31:bQ C 31 aNI
 r32:bQ C 32 a0V
 r33:bQ C 33 udiv
 r34:bQ C 34 a0Z
 r35:bQ C 35 aNO
 r36:bQ C 36 a1B
 r37:bQ C 37 a1J
 r38:bQ C 38 aNT
 r39:bQ C 39 Ox
 r40:bQ C 40 aNM
 r41:bQ C 41 aqO
 r42:bQ C 42 aqR
 r43:bQ C 43 aNR
 r44:bQ C 44 arB
 r45:bQ C 45 uup
 r46:bQ C 46 aNU
 r47:bQ C 47 a1O
 r48:bQ C 48 arQ
 r49:bQ C 49 aNY
 r50:bQ C 50 Zo
 r51:bQ C 51 arZ
 r52:bQ C 52 O6
 r53:bQ C 53 aOB
 r54:bQ C 54 aOC
 r55:bQ C 55 a1V
 r56:bQ C 56 asK
 r57:bQ C 57 aNX
 r58:bQ C 58 O4
 r59:bQ C 59 aOD
 r60:bQ C 60 asJ
 r61:bQ C 61 YC
 r62:bQ C 62 Pb
 r63:bQ C 63 asL
 r64:bQ C 64 Pa
 r65:bQ C 65 Pc
 r66:bQ C 66 a2F
 r67:bQ C 67 atH
 r68:bQ C 68 a2D
 r69:bQ C 69 a1Z
 r70:bQ C 70 asR
 r71:bQ C 71 asS
 r72:bQ C 72 Ak
 r73:bQ C 73 atF
 r74:bQ C 74 atG
 r75:bQ C 75 Pi
 r76:bQ C 76 ny
 r77:bQ C 77 zf
 r80:bQ C 80 aoE
 r81:bQ C 81 On
 r85:bQ C 85 aNC
 r88:bQ C 88 aoC
 r95:bQ C 95 aXM
 r96:bQ C 96 aXW
 r97:bQ C 97 adY
 r98:bQ C 98 aJS
 r99:bQ C 99 aJT
 r100:bQ C 100 aJU
 r101:bQ C 101 gone
 r102:bQ C 102 aJY
 r103:bQ C 103 afD
 r104:bQ C 104 gin
 r105:bQ C 105 aXN
 r106:bQ C 106 aXO
 r107:bQ C 107 aJZ
 r108:bQ C 108 aKA
 r109:bQ C 109 afS
 r110:bQ C 110 aKD
 r111:bQ C 111 aJW
 r112:bQ C 112 aXQ
 r113:bQ C 113 Mn
 r114:bQ C 114 aWZ
 r115:bQ C 115 Y9
 r116:bQ C 116 me
 r117:bQ C 117 adS
 r118:bQ C 118 adV
 r119:bQ C 119 aWY
 r120:bQ C 120 CI
 r121:bQ C 121 adU
 r122:bQ C 122 aJQ
 r123:bQ C 123 Zc
 r124:bQ C 124 Eo
 r125:bQ C 125 Ep
 r126:bQ C 126 mm
 r127:bQ C 127 aZA
 r128:bQ C 128 aLL
 r129:bQ C 129 aZC
 r130:bQ C 130 aZD
 r131:bQ C 131 aZE
 r132:bQ C 132 aLU
 r133:bQ C 133 aZG
 r134:bQ C 134 aZI
 r135:bQ C 135 aLW
 r136:bQ C 136 No
 r137:bQ C 137 akS
 r138:bQ C 138 SF
 r139:bQ C 139 yh
 r140:bQ C 140 alE
 r141:bQ C 141 alF
 r142:bQ C 142 gn
 r143:bQ C 143 nup
 r152:bQ C 152 nt
 r161:bQ C 161 apO
 r201:bQ C 201 aVO
 r203:bQ C 203 aaW
 r205:bQ C 205 call17
 r206:bQ C 206 acK
 r207:bQ C 207 Mh
 r208:bQ C 208 aIN
 r210:bQ C 210 aIY
 r211:bQ C 211 acL
 r213:bQ C 213 aZW
 r215:bQ C 215 na
 r216:bQ C 216 aZX
 r217:bQ C 217 aoA
 r218:bQ C 218 aZZ
 r219:bQ C 219 aMU
 r220:bQ C 220 aMM
 r231:bQ C 231 abK
 r232:bQ C 232 Mj
 r233:bQ C 233 anP
 r234:bQ C 234 Oh
 r235:bQ C 235 aJD
 r236:bQ C 236 aWU
 r278:bQ C 278 Mu
 r279:bQ C 279 adO
 r280:bQ C 280 O7
 r281:bQ C 281 a1R
 r326:bQ C 326 Y7
 r327:bQ C 327 M8
 r328:bQ C 328 aaU
 r329:bQ C 329 KP
 r330:bQ C 330 Mk
 r331:bQ C 331 DB
 r335:bQ C 335 Ml
 r336:bQ C 336 Mi
 r337:bQ C 337 vp
 r338:bQ C 338 aIS
 r339:bQ C 339 Ol
 r340:bQ C 340 Oa
 r341:bQ C 341 aMQ
 r348:bQ C 348 acH
 r349:bQ C 349 aXD
 r350:bQ C 350 a1Q
 r229:∃asg bdy,A0 C 229 (aIX asg bdy)
 r230:∃asg bdy,A0 C 230 (aIW asg bdy)
namespace L
theorem Zg{f:aE}(h:cQ f=true):Z' f.biZ<=1000/\Z' f.biX<=1000/\Z' f.biV<=1000:=by
 have d:=(VF.of h).small.biZ;have e:=(VF.of h).small.biX;have i:=(VF.of h).small.biV;omega
theorem a2V{f:aE}(room:List Int)(h:cQ f=true):vh (rW f room)/\(rW f room).length=Z' f.biV:=by
 rw[rW,aI h];exact⟨aSS (VF.of h) room,NF f room⟩
variable {C:Ctx} (c:NV C)
include c
theorem wS:xX C:=
 have len:∀xs,Lim xs->Z' xs<=35184372087808->aH C 138 [aN xs] .nil (aF (.int .i64 (nl (val xs):Nat))):=λxs h l=>c.r138.go (aLT xs h l) rfl
 {length:=len
  large:=λxs h l=>c.r137.go (aRD xs (len xs h l)) rfl
  sized:=λxs h l=>(c.r141.go (aRG xs h (len xs h l)) rfl).seen
  trim:=λxs h l=>(c.r135.go (aZJ xs h l (len xs h l)) rfl).seen
  make:=λv h=>c.r132.go (aZF v h len) rfl
  cmp:=λxs ys d e i p=>c.r129.go (a5X xs ys d e i p (len xs d i) (len ys e p)) rfl }
theorem a5U:Y1 C:=
 {subtract:=λA W Z v f o hW l i e p d=>c.r142.go (alL A W Z v f hW l i e p d o) rfl
  restore:=λA W Z v o hW l i e=>c.r139.go (auI A W Z v hW l i e o) rfl }
theorem aLJ:Z3 C:=
 {L:=wS c
  D:=a5U c
  up:=λa s i w e=>c.r143.go (a9N a s i w e) rfl
  short:=λa d i l p e=>c.r140.go (aRF (wS c) a d i l p e) rfl
  lengthO:=λxs o x u=>c.r138.go (auH xs x u o) rfl }
theorem Gd(A B:Nat)(hB:B≠0)(e:nl A<=900)(d:nl B<=900):aH C 136 [aN (aM A),aN (aM B)] .nil (aF (xE A B)):=
 (c.r136.go (aLP (aLJ c) A B hB e d) rfl).seen
theorem yO:zZ C:=
 {wS c with
  bits:=λxs h l=>c.r128.go (aZB xs h l ((wS c).length xs h l)) rfl
  add:=λxs ys d e i p=>(c.r127.go (a5V (wS c) xs ys d e i p) rfl).seen
  sub:=λxs ys d e i p=>(c.r134.go (a6D (wS c) xs ys d e i p) rfl).seen
  mul:=λxs ys d e i p=>(c.r133.go (a6C (wS c) xs ys d e i p) rfl).seen
  gcd:=λxs ys d e i p=>(c.r131.go (a6B (wS c) (Gd c) xs ys d e i p) rfl).seen
  div:=λxs ys d e i p=>(c.r130.go (a5Y (wS c) (Gd c) xs ys d e i p) rfl).seen }
theorem II:LS C:=
 {yO c with
  times:=λa b d hb e i l p=>c.r121.go (aQF (yO c) a b d hb e i l p) rfl
  zero:=λneg a b d e=>c.r122.go (aXG (yO c) neg a b d e) rfl
  valid:=λneg a b d hb e i=>c.r118.go (aQG (yO c) neg a b d hb e i) rfl
  abs:=λv w x=>c.r119.go (a4A (yO c) v w x) rfl
  lowest:=λneg a b d hb e i l p u=>(c.r120.go (aJL (yO c) neg a b d hb e i l p u) rfl).seen }
theorem adP(x y:RF)(d:x.Ok)(e:y.Ok):aH C 113 [.agg x.cells,.agg y.cells] .nil (aF (frV (gJ x.v y.v))):=
 (c.r113.go (a4B (II c) x.neg y.neg x.num x.den y.num y.den d.1 d.2.1 e.1 e.2.1 d.2.2.1 d.2.2.2 e.2.2.1 e.2.2.2) rfl).seen
theorem qB:zW C:=
 {II c with
  frac:=λn d w p=>(c.r115.go (aXC (II c) n d w.1 w.2 p.1 p.2) rfl).seen
  red:=λx e=>by rw[<-aMK];exact(c.r116.go (aJN (II c) x.neg x.num x.den e.1 e.2.1 e.2.2.1 e.2.2.2) rfl).seen
  ord:=λx y e i=>(c.r114.go (a4C (II c) x.neg y.neg x.num x.den y.num y.den e.1 e.2.1 i.1 i.2.1 e.2.2.1 e.2.2.2 i.2.2.1 i.2.2.2) rfl).seen
  plus:=adP c
  tot:=λl u=>(c.r117.go (a4L (II c) (adP c) l u.all u.fits) rfl).seen }
theorem IH:zV C:=
 have inn:∀n lo hi:Int,aH C 104 [.int .i64 n,.int .i64 lo,.int .i64 hi] .nil (aF (.bool (within n lo hi))):=λn lo hi=>(c.r104.go (a9B n lo hi) rfl).seen;have uR:∀x:RF,x.Ok->aH C 97 [.agg x.cells] .nil (aF (.bool (bZ x))):=λx i=>(c.r97.go (aQH (yO c) x i) rfl).seen;have lim:∀x:RF,x.Ok->aH C 105 [.agg x.cells] .nil (aF (.bool (dX x))):=λx i=>(c.r105.go (a4O (qB c) x i) rfl).seen;have d:∀n:Nat,aH C 126 [.int .u8 n] .nil (aF (.bool (gX n))):=λn=>c.r126.go (aKV n) rfl;have e:∀n:Nat,aH C 124 [.int .u8 n] .nil (aF (.bool (rI n))):=λn=>c.r124.go (aQN n) rfl
 {qB c with
  inn:=inn
  uR:=uR
  lim:=lim
  one:=λx i=>(c.r101.go (a4Q (qB c) x i) rfl).seen
  allf:=λp fn l u h=>(c.r99.go (aXI p fn l u h) rfl).seen
  alli:=λp fn l u h=>(c.r100.go (aXJ p fn l u h) rfl).seen
  allb:=λp fn l u h=>(c.r98.go (aXH p fn l u h) rfl).seen
  ends1:=λb=>(c.r103.go (aQI b) rfl).seen
  num1:=λn=>(c.r107.go (aXP inn n) rfl).seen
  rate1:=λx i=>(c.r109.go (aQK lim uR x i) rfl).seen
  name:=λs=>c.r123.go (aYK d (λn=>c.r125.go (aQR d e n) rfl) s) rfl }
theorem adG:Zx C:=
 {IH c with
  num:=λp hp=>(c.r106.go (a4P (IH c) p hp) rfl).seen
  rate:=λp hp=>(c.r108.go (aXR (IH c) p hp) rfl).seen
  uniq:=λl d=>(c.r110.go (aXV (IH c) l d) rfl).seen }
theorem adH:An C:=
 {adG c with
  ends:=λl e d=>(c.r102.go (aXL (IH c) l e d) rfl).seen }
theorem aXB:pK C:=
 {adH c with
  law:=λl e=>(c.r95.go (a4N (adH c) l e) rfl).seen
  pol:=λp n hp i=>(c.r112.go (a4R (adG c) p hp n i) rfl).seen
  bjE:=λf d=>(c.r111.go (a4M (IH c) f d) rfl).seen }
theorem EO(f:aE)(d:f.Ok):aH C 96 [.agg f.cells] .nil (aF (.int .i64 (uP f))):=(c.r96.go (a4U (aXB c) f d) rfl).seen
theorem sY:uQ C:={ trimM:=λxs h l=>c.r38.go (a1K xs h l) rfl }
theorem amI:Z5 C:=
 {sY c with
  make:=λv h=>(c.r35.go (a1A (sY c) v h) rfl).seen
  large:=λxs h l=>(c.r41.go (aTS (sY c) xs h l) rfl).seen
  cmp:=λxs ys d e i p=>c.r32.go (a7K (sY c) xs ys d e i p) rfl }
theorem amK:Z7 C:=
 {amI c with
  minus:=λa b e hb i p d=>(c.r42.go (aTT (sY c) a b e hb i p d) rfl).seen
  times:=λa b e hb d l=>(c.r44.go (aTW (sY c) a b e hb d l) rfl).seen }
theorem yy:Aw C:=
 {amK c with
  plus:=λa b i hb d e=>(c.r43.go (a1H (sY c) a b i hb d e) rfl).seen }
theorem aZV:b9 C:=
 {yy c with
  bits:=λxs h l=>c.r31.go (a0U (sY c) xs h l) rfl
  upM:=λa n e d i p=>c.r45.go (baQ (sY c) a n e d i p) rfl
  down:=λa n e d i=>(c.r40.go (a0Y (sY c) a n e d i) rfl).seen }
theorem yx:Au C:=
 {amI c with
  divide:=λA B hB e d=>(c.r39.go (aNL (aZV c) A B hB e d) rfl).seen }
theorem amJ:Z6 C:=
 {yx c with
  gcd:=λa b d hb e i=>(c.r34.go (a7M (yx c) a b d hb e i) rfl).seen
  div:=λa b d hb e i=>(c.r33.go (a7L (yx c) a b d hb e i) rfl).seen }
theorem N3:aHW C:=
 {amJ c with
  lowest:=λneg a b i hb l p u w e=>(c.r58.go (aNZ (amJ c) neg a b i hb l p u w e) rfl).seen
  size:=λv d=>c.r59.go (a1U v d.1 d.2) rfl }
theorem KO:Av C:=
 {N3 c with
  fmk:=λn d i e=>(c.r50.go (arT (N3 c) n d i e) rfl).seen }
theorem SD(hi:JB C):LY C:=
 {KO c with
  int:=λn d=>(c.r47.go (O3 (KO c) n d) rfl).seen
  itoa:=hi
  next:=λl v T o n a d e=>c.r4.go (aYX T o n a d e) rfl }
theorem aiS(hi:JB C):Z1 C:=
 {SD c hi with
  frac:=λl v T o a d=>c.r1.go (aYR (SD c hi) T o a d) rfl }
theorem aiT(hi:JB C):zY C:=
 {aiS c hi with
  rep:=λl v T o a m e d=>c.r5.go (a5R (aiS c hi) T o a m e d) rfl
  name:=λs n p i=>c.r29.go (aYV (SD c hi) s n p i) rfl }
theorem aiU(hi:JB C):sO C:=
 {aiT c hi with
  law:=λl v T o fS a i d e=>c.r2.go (a5O (aiT c hi) T o fS a i d e) rfl }
theorem aiV(hi:JB C):Z2 C:=
 {aiU c hi with
  grow:=λl v T mc biV d e i=>afY (aiU c hi) T mc biV d e i (λargs H R p h=>c.r7 args H R (by rw[p];decide) h) 4 (bkN _) }
theorem xl(hi:JB C):aOR C:=
 {aiV c hi with
  new:=λl hb p=>c.r28.go (a5P l hb p) rfl
  fleet:=λl v T o biV biX a d e i=>bx.exact (c.r0.go (aQW (aiV c hi) T o biV biX a d e i) rfl) }
theorem N4:Y4 C:=
 {KO c with
  int:=λn l=>(c.r47.go (O3 (KO c) n l) rfl).seen
  mul:=λa b d hb e i=>(c.r36.go (a7N (amK c) a b d hb e i) rfl).seen
  add:=λa b d hb e i=>(c.r30.go (a7J (yy c) a b d hb e i) rfl).seen
  sub:=λa b d hb e i=>(c.r37.go (a7Q (yy c) a b d hb e i) rfl).seen }
theorem yz:Ax C:=
 {N4 c with
  valid:=λx d=>c.r56.go (aUM (N4 c) x.neg x.num x.den d.1 d.2.1 d.2.2.1 d.2.2.2) rfl
  big:=λx=>c.r48.go (aUJ x.1 (aM x.2.1) (aM x.2.2)) rfl }
theorem XG:Ay C:=
 {yz c with
  fits:=λx=>(c.r57.go (a1M (yz c) x) rfl).seen
  red:=λx e=>(c.r52.go (aOA (yz c) x e) rfl).seen
  prod:=λa b d hb i l p u=>c.r60.go (aUL (N4 c) a b d hb i l p u) rfl }
theorem CZ:EG C:=
 {XG c with
  order:=λx y d e i l=>c.r51.go (aUK (XG c) x y d e i l) rfl }
theorem CY:aHX C:=
 {CZ c with
  less:=λx y d e i l=>c.r49.go (a1P (CZ c) x y d e i l) rfl
  same:=λx y d e i l=>c.r53.go (a1S (CZ c) x y d e i l) rfl
  sign:=λx d i=>c.r54.go (a1T (CZ c) x d i) rfl
  plus:=λx y d e=>(c.r46.go (a7R (CZ c) x y d e) rfl).seen }
theorem yw:As C:=
 {CY c with
  sum:=λl e d=>(c.r55.go (a7W (CY c) l e d) rfl).seen
  inn:=λn lo hi=>c.r76.go (aOL n lo hi) rfl
  code:=λk m=>c.r61.go (a0L k m) rfl }
theorem T8:L9 C:=
 {yw c with
  small:=λx d=>c.r74.go (aUY (yw c) x d) rfl
  nums:=λk m q s0 s1 s2 s3 s4=>c.r72.go (avM (yw c) k m q s0 s1 s2 s3 s4) rfl
  sizes:=λe i l p u w=>c.r73.go (aUX e i l p u w) rfl }
theorem T9:Ma C:=
 {T8 c with
  smalls:=λl d n=>c.r75.go (aOK (T8 c) l d n) rfl }
theorem Ua:Mb C:=
 {T9 c with
  reps:=λl d m=>c.r66.go (a8C (T9 c) l d m) rfl }
theorem Ub:Mc C:=
 have d:∀n:Nat,aH C 65 [.int .u8 n] .nil (aF (.bool (gX n))):=λn=>c.r65.go (aOG n) rfl;have e:∀n:Nat,aH C 63 [.int .u8 n] .nil (aF (.bool (rI n))):=λn=>c.r63.go (aUN n) rfl
 {Ua c with
  name:=λs=>c.r62.go (aOF d (λn=>c.r64.go (aOE d e n) rfl) s) rfl
  index:=λl i s=>c.r71.go (aUV l i s) rfl }
theorem Uc:wF C:=
 {Ub c with
  fresh:=λl e s w H d=>c.r70.go (aUU (Ub c) l e s w H d) rfl }
theorem aSK:yX C:=
 {Uc c with
  law:=λl d=>c.r68.go (a8B (Uc c) l d) rfl }
theorem aSL:Md C:=
 {aSK c with
  dur:=λm rep e t h i d=>c.r69.go (a8A (Ua c) m rep e t h i d) rfl }
theorem ZO(f:aE)(d:f.Ok):aH C 67 [.agg f.cells] .nil (aF (.bool (cQ f))):=c.r67.go (aVB (aSL c) f d) rfl
theorem baU:aOO C:=
 {adm:=λf p set hV hp d i=>c.r201.go (a3K f hV p hp d set i) rfl
  known:=λf bjH e=>c.r203.go (aPC (EO c) f e bjH) rfl }
theorem aGV:Al C:=
 {baU c with
  subs:=λn top=>c.r210.go (aWI n top) rfl
  iter:=λl o1 o2 n top J y e i w x u A H p d b1 b2 g1 g2=>c.r211.go (aVW J y e i w x u p d b1 b2 g1 g2) rfl }
theorem Pe:Zt C:=
 {aGV c with
  sets:=λf p hV w hp d x l y u=>by obtain⟨e,i,r⟩:=c.r229;exact(r.go (aWG (aGV c) e i f hV w p hp d x l y u) rfl).seen }
theorem Pf:Zu C:=
 {Pe c with
  val:=EO c
  units:=λf lv hV d h5=>(c.r206.go (aPK f hV lv d h5) rfl).seen
  choose:=λm n e i=>c.r207.go (aIM m n e i) rfl }
theorem aGW:aOP C:=
 {Pf c with
  tU:=λf lv cnt w=>by obtain⟨d,e,r⟩:=c.r230;exact(r.go (abR (Pf c) d e f w lv cnt) rfl).seen
  loss:=λsc set m i l p u=>c.r208.go (aVX sc i l set p u m) rfl }
theorem aUQ:Z4 C:=
 {valid:=ZO c
  uR:=λf d level p l e i=>c.r88.go (aTB f p d l level e i) rfl }
theorem aUR:Y0 C:=
 {allowed:=λf p d hV e i=>c.r77.go (auU f hV p e d i) rfl
  count:=λf row n hV u l=>c.r80.go (aTC (aUQ c) f hV row u n l) rfl
  valid:=ZO c }
theorem Xx:∀k a n:Nat,k<=10->a<=1000->n<=40->aH C 215 [.int .i64 a,.int .i64 n,.int .i64 k] .nil (aF (lay (jU (dT n k a))))
 |0,a,n,l,i,d=>(c.r215.go (Hb 0 a n l i d λ_ _ _ h=>by cases h) rfl).seen
 |k+1,a,n,l,i,d=>(c.r215.go (Hb (k+1) a n l i d λp u h e=>by cases e;exact Xx k p n Om h d) rfl).seen
theorem aGX:aOQ C:=
 {aUR c with
  adm:=λf p set hV d l e w i u=>c.r213.go (a6S (aUR c) f hV p d l e w i set u) rfl
  choose:=Xx c }
theorem Pg:Am C:=
 {aGX c with
  biV:=λf dom d=>(c.r81.go (aMY (aUQ c) f d dom) rfl).seen
  has:=λl x h=>c.r218.go (a6Y l h x) rfl }
theorem a7Z:bw C:=
 { Pg c with units:=λf lv e i d h5=>(c.r217.go (aTA (Pg c) f e i lv d h5) rfl).seen }
theorem a5E(f:aE)(lv cnt:Int)(i:f.Ok):aH C 230 [.agg f.cells,oI lv cnt] .nil (aF (.tup [lay (fH f lv cnt),.int .i64 (eZ f lv cnt)])):=by
 obtain⟨d,e,r⟩:=c.r230;exact(r.go (abR (Pf c) d e f i lv cnt) rfl).seen
theorem bdD(hi:JB C):Y2 C:=
 {qB c with
  fleet:=λl hb p biV biX d e=>(c.r27.go (aQV (xl c hi) l hb p biV biX d e) rfl).seen
  val:=EO c
  all:=λf bjH i=>(c.r205.go (aOZ (Pe c) f i bjH) rfl).seen
  tU:=a5E c
  sets:=(Pe c).sets }
theorem a1X(x:RF):aH C 279 [.agg x.cells] .nil (aF (.agg x.WK.cells)):=c.r279.go (aQB x) rfl
theorem baV(x:RF)(d:x.Ok):aH C 281 [.agg x.cells] .nil (aF (.agg x.opp.cells)):=c.r281.go (a7U (sY c) x d) rfl
theorem baW(x y:RF)(d:x.Ok)(e:y.Ok):aH C 280 [.agg x.cells,.agg y.cells] .nil (aF (frV (vX x.v y.v))):=c.r280.go (a7V (CY c).plus (baV c) x y d e) rfl
theorem bdW:aVD C:=
 {aGW c with
  fr:=qB c
  Mu:=λx y d e=>c.r278.go (a4K (qB c) (a1X c) x y d e) rfl
  price1:=λx d=>c.r232.go (aIT (qB c) x d) rfl }
theorem a1Y(f:aE)(bjH lv cnt:Int)(prices:List RF)(l:f.Ok)(d:∀x∈prices,x.Ok)(e:∀x∈prices,nl (val x.num)<=8/\nl (val x.den)<=8)(i:Z' prices<=1000000):aH C 231 [.agg f.cells,.int .i64 bjH,oI lv cnt,frs prices] .nil (aF (sX f bjH lv cnt prices)):=
 (c.r231.go (aPH (bdW c) f l bjH lv cnt prices d e i) rfl).seen
theorem asP(n:Int)(h:dJ n):aH C 47 [.int .i64 n] .nil (aF (.agg (mkT n 1).cells)):=(c.r47.go (O3 (KO c) n h) rfl).seen
theorem a3B:aVE C:=
 {tU:=λf lv cnt d=>(c.r219.go (a0H (a7Z c) f d lv cnt) rfl).seen
  lost:=λsc set m e i p=>c.r220.go (a0A (Pg c) sc e i set p m) rfl
  all:=λf bjH d=>(c.r216.go (a6T (aGX c) f d bjH) rfl).seen
  int:=asP c
  less:=(CY c).less
  O7:=baW c
  modest:=λl u n w=>c.r234.go (Hx (XG c) l u n w) rfl }
theorem a9V(f:aE)(d:f.Ok):aH C 161 [.agg f.cells] .nil (aF (.bool (cQ f))):=(c.r161.go (aTP (EO c) f d) rfl).seen
theorem a6M(f:aE)(room:List Int)(d:f.Ok):aH C 152 [.agg f.cells,ints room] .nil (aF (ints (rW f room))):=(c.r152.go (aTO (a9V c) f d room) rfl).freeze
theorem a2T:aHS C:=
 {vald:=EO c
  prices:=λl p d n=>c.r335.go (aIV (λx i=>c.r348.go (aPJ (qB c) x i) rfl) l p d n) rfl
  number:=λn e=>c.r336.go (Br (qB c) n e) rfl
  demands:=λf hV hp w=>(c.r337.go (atP f hV hp w) rfl).seen
  plus:=λs x u i n e=>c.r338.go (aWD (qB c) (λn e=>c.r336.go (Br (qB c) n e) rfl) (λx y i A=>(c.r349.go (a4F (qB c).toLS x y i A) rfl).seen) s x u i n e) rfl
  room:=a6M c }
theorem a9S:Zs C:=
 {a2T c with
  tU:=(aGW c).tU
  ord:=(qB c).ord
  price:=a1Y c }
theorem a2U:aHT C:=
 {prices:=λf a b d i u hb=>c.r339.go (aMS (ZO c) (λl w n e=>c.r234.go (Hx (XG c) l w n e) rfl) f d i a b u hb) rfl
  int:=asP c
  demand:=λf hV hp A=>(c.r340.go (aMI f hV hp A) rfl).seen
  plus:=λs x i p n e=>c.r341.go (a0F (asP c) (λx y p B=>(c.r350.go (a7T (CZ c) x y p B) rfl).seen) (CY c).plus s x i p n e) rfl
  room:=λf room d=>(c.r85.go (aTJ (ZO c) f d room) rfl).seen }
theorem a9T:aOM C:=
 {a2U c with
  tU:=(a3B c).tU
  sign:=(CY c).sign
  less:=(CY c).less
  price:=λf bjH lv cnt prices i d e=>(c.r233.go (aSU (a3B c) f i bjH lv cnt prices d e) rfl).seen }
theorem aCR(hi:JB C):avN C:=
 {new:=(xl c hi).new
  tfleet:=(xl c hi).fleet
  nt:=λl v T o a f i e=>exactly (c.r6.go (aYZ (SD c hi) T o a f i e) rfl)
  next:=λl v T o n a p e=>(SD c hi).next l v T o n a p e
  fmk:=λn d p i=>(c.r50.go (arT (N3 c) n d p i) rfl).seen }
theorem a9U(hi:JB C)(y:aH C 332 [] .nil (aF (.bool true))):a2G C:=
 {read:=λl hb A=>c.r326.go (aWE (aCR c hi).toaON l hb A 7 3 aU aU) rfl
  prs:=λl v T o n sh a B w d=>exactly (c.r327.go (aKZ (aCR c hi) l v T o n sh a B w d) rfl)
  bound:=λf room a b i _ d hb p u=>(c.r328.go (aPB (a2T c) f i room a b d hb Om Om (a2V room) (λh=>by have:=Zg h;omega)) rfl).seen
  KP:=λf room a b i _ d hb p u=>(c.r329.go (aSM (a2U c) f i room a b d hb p u (a2V room) Zg) rfl).seen
  priced:=λf lv cnt a b i _ d hb e p u=>c.r330.go (aIU (a9S c) f i lv cnt a b d hb e p u (λh=>by have:=Zg h;omega)) rfl
  DB:=λf lv cnt a b i _ d hb e p u=>c.r331.go (aMR (a9T c) f i lv cnt a b d hb e p u Zg) rfl
  frac:=λx E=>c.r235.go (aWS (λa b d hb=>c.r236.go (a3Y a b d hb) rfl) x E) rfl
  DM:=y }
end L
variable{C:Ctx}
theorem aKQ(c:NV C)(hi:JB C)(e:aH C 332 [] .nil (aF (.bool true)))(r:bQ C 323 mo)(l:List Nat)(hb:∀x∈l,x<256)(p:Z' l<=9223372036854775807)(a b:List RF)(i:∀x∈a,x.Ok)(d:∀x∈b,x.Ok)(u:Z' a<=9223372036854775807)(w:Z' b<=9223372036854775807) :
  aH C 323 [.sl 1 (mG l),frs a,frs b] .nil (aF (.bool true)):=r.go (aKX (L.a9U c hi e) l hb p a b i d u w) rfl
end Go.PM
