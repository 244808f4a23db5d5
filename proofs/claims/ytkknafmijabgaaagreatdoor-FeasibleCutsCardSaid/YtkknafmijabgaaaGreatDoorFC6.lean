/-
  Texts of ours, joined. No condition.
-/
import Derived.Test.YtkknafmijabgaaaGreatDoorFC1
import Derived.Test.YtkknafmijabgaaaGreatDoorFC2
import Derived.Test.YtkknafmijabgaaaGreatDoorFC3
import Derived.Test.YtkknafmijabgaaaGreatDoorFC4
import Derived.Test.YtkknafmijabgaaaGreatDoorFC5
import Derived.Shelf.Sort.Plain
import Derived.Shelf.Slices.CompactI
import Derived.Shelf.Slices.In.SortNone
set_option linter.unusedSimpArgs false
set_option linter.unusedVariables false
open Nat renaming reduceEqDiff→γ,reduceAdd→δ,reduceSub→ε,reduceMul→ζ,reduceLT→η,reduceLeDiff→θ,reduceBEq→τ
open Int renaming reduceLT→ι,reduceLE→κ,reduceEq→μ,reduceToNat→ν,reduceAdd→ξ,reduceNeg→ο,reduceBEq→ρ,reduceBNe→σ
open List renaming reduceReplicate→υ
open List renaming range→a3U,length_map→a3V,replicate→a3W,getElem_mem→a3Y,length_append→a3Z,getElem?_eq_getElem→a4C,getD_eq_getElem?_getD→a4D,length_singleton→a4E,mem_cons→a4J,length_take→a4M,take_of_length_le→a4N,getElem?_map→a4Q,mem_range→a4S,not_mem_nil→a4U,mem_map→a4W,mem_singleton→a4X,getElem?_eq_some_iff→a5A,append_assoc→a5C,mem_append→a5E,take_length→a5F,getElem?_eq_none→a5K,map_append→a5L,length_drop→a5M,append_nil→a5O,length_cons→a5P,length_set→a5Q,mem_of_getElem?→a5S,getElem?_append_left→a5U,getElem?_append_right→a5V,take_succ_eq_append_getElem→a5W,map_congr_left→a6A,Sublist→a6B,length_nil→a6F,Perm→a6I,getElem?_range→a6K,length_range→a6M,range_succ→a6N,getElem?_take→a6S,nodup_append→a6V,map_map→a7A,mem_cons_of_mem→a7B,nil_append→a7C,getElem?_drop→a7I,length_replicate→a7J,mem_append_left→a7K,cons_append→a7L,mem_filter→a7M,getElem?_set→a7N,contains_iff_mem→a7T,getElem?_replicate→a7V
open Nat renaming gcd→a3X,zero_le→a4A,le_refl→a4B,zero_add→a4I,lt_or_ge→a4R,mul_le_mul_right→a4Z,add_zero→a5H,eq_zero_or_pos→a6C,succ_mul→a6D,le_trans→a6T,div_le_self→a7E,mul_le_mul→a7G
open Bool renaming not_true→a4H,true_and→a4K,not_false→a4O,and_eq_true→a4P,and_false→a5I
open Option renaming map_some→a5B,getD_some→a6R
open Int renaming toNat_natCast→a6U
open List renaming length→Z'
set_option maxRecDepth 100000
set_option maxHeartbeats 800000
noncomputable section
namespace Go.PM
open Go Go.Na
abbrev fF(xs:List Nat):List (List PV):=xs.map λx=>[PV.int .i64 ((x:Nat):Int)]
theorem kL{xs:List Nat}{i:Nat}(h:i<Z' xs):(fF xs)[i]?=some [.int .i64 ((xs.getD i 0:Nat):Int)]:=by
 rw[a4Q,a4C h,a4D,a4C h];rfl
abbrev xR(n:cH)(fo m:Nat)(out:PV):cD:=.rows 6 [[.int .i64 (n.nodes:Nat),.int .i64 (n.source:Nat),.int .i64 (n.sink:Nat),Bm n.arcs,.osl fo 1 0 m,out]]
abbrev sH(n:cH)(e fo:Nat)(xs:List Nat)(out:PV):PH:=(PH.nil.set e (xR n fo xs.length out)).set fo (.rows 1 (fF xs))
def stI(s:dB):Int:=if s.2=true then(s.1:Int)else -1-(s.1:Int)
structure pW(n:cH)(xs:List Nat):Prop where
 len:Z' xs=Z' n.arcs
 le:∀i,i<Z' n.arcs→xs.getD i 0≤(bX n i).cap
theorem nZ{n:cH}{i:Nat}(h:i<Z' n.arcs):n.arcs[i]=bX n i:=(xF (a4C h)).symm
theorem lD{n:cH}{i:Nat}(h:i<Z' n.arcs):(n.arcs.map bR.cells)[i]?=some (bX n i).cells:=by rw[AJ h,nZ h]
theorem aJA{C:Ctx}(n:cH)(K:fD n)(w fo:Nat)(u:¬w=fo)(xs:List Nat)(M:pW n xs)(out:PV)(s:dB)(l:s.1<Z' n.arcs) :
  DS.wp C (aV Nw.res (λr H'=>r=.tup [.int .i64 ((gG n s:Nat):Int),.int .i64 ((eA n xs s:Nat):Int)]∧H'=sH n w fo xs out)) (PF.args [.ptr w 6 0 0,.int .i64 (stI s)]) (sH n w fo xs out):=by
 have j:¬fo=w:=λe=>u e.symm;obtain⟨i,b⟩:=s;have l:i<Z' n.arcs:=l;have A:i<Z' xs:=by rw[M.len];exact l
 have y:(i:Int)<(Z' xs:Nat):=Om;have N:=M.le i l;have x:=(K.ends _ (a3Y l)).2.2;rw[nZ l]at x;have O:=K.num;cases b with
 |true=>
  have E:stI (i,true)=(i:Int):=rfl;have F:gG n (i,true)=(bX n i).dst:=rfl;have I:eA n xs (i,true)=(bX n i).cap-xs.getD i 0:=rfl;rw[E,F,I];have B:(i:Int)≥0:=Om;have J:IntKind.i64.wrap (((bX n i).cap:Int)-((xs.getD i 0:Nat):Int))=(((bX n i).cap-xs.getD i 0:Nat):Int):=by rw[wrap_i64 Om Om];omega
  simp only[go_sem,DS,me,Nw,mf,B];refine aZ .nil cI a_ ?_;simp only[go_sem,Va,u,j,lD l,y,kL A,J];exact bD (vs:=[.int .i64 (((bX n i).dst:Nat):Int),.int .i64 (((bX n i).cap-xs.getD i 0:Nat):Int)]) (.inr rfl) (sH n w fo xs out) rfl (λ_ _ h=>h) ⟨rfl,rfl⟩
 |false=>
  have E:stI (i,false)=-1-(i:Int):=rfl;have F:gG n (i,false)=(bX n i).src:=rfl;have I:eA n xs (i,false)=xs.getD i 0:=rfl;rw[E,F,I];have B:¬(-1-(i:Int))≥0:=Om;have J:IntKind.i64.wrap (-1-(-1-(i:Int)))=(i:Int):=by rw[wrap_i64 Om Om];omega
  simp only[go_sem,DS,me,Nw,mf,B];refine aZ .nil cI a_ ?_;simp only[go_sem,Vb,u,j,J,lD l,y,kL A];exact bD (vs:=[.int .i64 (((bX n i).src:Nat):Int),.int .i64 ((xs.getD i 0:Nat):Int)]) (.inr rfl) (sH n w fo xs out) rfl (λ_ _ h=>h) ⟨rfl,rfl⟩
theorem aIY{C:Ctx}(n:cH)(E:fD n)(u fo:Nat)(l:¬u=fo)(xs:List Nat)(out:PV)(s:dB)(w:s.1<Z' n.arcs) :
  DQ.wp C (aV Nv.res (λr H'=>r=.int .i64 ((dW n s:Nat):Int)∧H'=sH n u fo xs out)) (PF.args [.ptr u 6 0 0,.int .i64 (stI s)]) (sH n u fo xs out):=by
 have j:¬fo=u:=λe=>l e.symm;obtain⟨i,b⟩:=s;have w:i<Z' n.arcs:=w;have F:=E.num;cases b with
 |true =>have y:stI (i,true)=(i:Int):=rfl;have A:dW n (i,true)=(bX n i).src:=rfl;rw[y,A];have x:(i:Int)≥0:=Om;simp only[go_sem,DQ,ma,Nv,mb,x,U6,l,j,lD w];exact bD (vs:=[.int .i64 (((bX n i).src:Nat):Int)]) (.inr rfl) (sH n u fo xs out) rfl (λ_ _ h=>h) ⟨rfl,rfl⟩
 |false=>
  have y:stI (i,false)=-1-(i:Int):=rfl;have A:dW n (i,false)=(bX n i).dst:=rfl;rw[y,A];have x:¬(-1-(i:Int))≥0:=Om;have B:IntKind.i64.wrap (-1-(-1-(i:Int)))=(i:Int):=by rw[wrap_i64 Om Om];omega
  simp only[go_sem,DQ,ma,Nv,mb,x,U7,l,j,B,lD w];exact bD (vs:=[.int .i64 (((bX n i).dst:Nat):Int)]) (.inr rfl) (sH n u fo xs out) rfl (λ_ _ h=>h) ⟨rfl,rfl⟩
def HR(way:Nat→dB)(v:Nat)(s:dB):Nat→dB:=λw=>if w=v then s else way w
theorem ye{n:cH}(l:fD n)(xs:List Nat)(way:Nat→dB):rA n xs [n.source] way:=by
 refine⟨⟨[],rfl⟩,by simp,λv e=>?_,λv e j=>?_⟩
 ·rw[a4X]at e;subst e;exact l.source
 ·exact absurd (a4X.1 e) j
theorem ll{Q:List Nat}{v a:Nat}(h:v∈Q):(Q++[a]).idxOf v=Q.idxOf v:=by
 rw[List.idxOf_append,aL h]
theorem aET{n:cH}(N:fD n){xs Q:List Nat}{way:Nat→dB}(j:rA n xs Q way){s:dB}(w:s.1<Z' n.arcs)(l:dW n s∈Q)(x:gG n s ∉ Q)(O:0<eA n xs s) :
  rA n xs (Q++[gG n s]) (HR way (gG n s) s):=by
 obtain⟨t,K⟩:=j.first;have y:gG n s<n.nodes:=by have:=N.ends _ (a3Y w);rw[show n.arcs[s.1]=bX n s.1 from(xF (a4C w)).symm]at this;unfold gG;split<;>omega
 refine⟨⟨t++[gG n s],by rw[K];rfl⟩,?_,λv A=>?_,λv A u=>?_⟩
 ·rw[a6V];refine⟨j.nd,by simp,λa M b hb=>?_⟩;rw[a4X]at hb;subst hb;rintro rfl;exact x M
 ·rcases a5E.1 A with h|h
  ·exact j.lt v h
  ·rw[a4X]at h;subst h;exact y
 ·rcases a5E.1 A with h|h
  ·have B:v≠gG n s:=λe=>x (e ▸ h);obtain⟨E,I,J,F,h5⟩:=j.way v h u;unfold HR;rw[aG B];exact⟨E,I,J,a7K _ F,by rw[ll F,ll h];exact h5⟩
  ·rw[a4X]at h;subst h;unfold HR;rw[aL rfl];refine⟨w,rfl,O,a7K _ l,?_⟩;rw[ll l];have E:=List.idxOf_lt_length_of_mem l;rw[List.idxOf_append,aG x];omega
theorem Uq:∀(n:Nat)(Q:List Nat),Q.Nodup→(∀v∈Q,v<n)→Z' Q≤n
 |0,[],_,_=>a4B _
 |0,v::Q,_,h=>absurd (h v aW) Om
 |n+1,Q,l,h=>by
  by_cases e:n∈Q
  ·have u:=Uq n (Q.erase n) (l.erase n) λv j=>by have x:=(l.mem_erase_iff).1 j;have:=h v x.2;omega
   rw[List.length_erase_of_mem e]at u;omega
  ·have u:=Uq n Q l λv j=>by have:=h v j;have:v≠n:=λw=>e (w ▸ j);omega
   omega
theorem HI{n:cH}{xs Q:List Nat}{way:Nat→dB}(e:rA n xs Q way):Z' Q≤n.nodes:=Uq _ _ e.nd e.lt
theorem Em(n:cH)(xs Q:List Nat):GF n xs Q 0:=λv e=>by simp at e
theorem aBA{n:cH}{xs Q:List Nat}{k:Nat}(h:GF n xs Q k)(w:k≤Z' Q)(a:Nat):GF n xs (Q++[a]) k:=λv e s j l u=>by
 rw[List.take_append_of_le_length w]at e;exact a7K _ (h v e s j l u)
theorem El{n:cH}{xs Q:List Nat}{k v:Nat}(h:GF n xs Q k)(B:Q[k]?=some v)(j:∀s:dB,s.1<Z' n.arcs→dW n s=v→0<eA n xs s→gG n s∈Q):GF n xs Q (k+1):=λw y s l u x=>by
 obtain⟨A,e⟩:=a5A.1 B;rw[a5W A,e]at y;rcases a5E.1 y with g|g
 ·exact h w g s l u x
 ·rw[a4X]at g;subst g;exact j s l u x
structure Nq(n:cH)(outL:List (List Int)):Prop where
 len:Z' outL=n.nodes
 all:∀s:dB,s.1<Z' n.arcs→stI s∈outL.getD (dW n s) []
 only:∀v c,c∈outL.getD v []→∃s:dB,s.1<Z' n.arcs∧dW n s=v∧c=stI s
 few:∀v,(outL.getD v []).length≤1000000
def byL(cd:dB→Int)(n:cH)(Q:List Nat)(way:Nat→dB):List Int:=(a3U n.nodes).map λv=>if v∈Q∧v≠n.source then cd (way v)else 0
def seL(n:cH)(Q:List Nat):List Bool:=(a3U n.nodes).map λv=>Q.contains v
theorem qX{α:Type}(g h:Nat→α)(N t:Nat)(x:α)(w:h t=x)(u:∀v,v≠t→h v=g v):((a3U N).map g).set t x=(a3U N).map h:=by
 refine List.ext_getElem? λi=>?_;rw[a7N,a3V,a6M,a4Q,a4Q];by_cases e:t=i
 ·subst e;rw[aL rfl];by_cases l:t<N
  ·rw[aL l,a6K l,←w];rfl
  ·rw[aG l,a5K (by simpa using l)];rfl
 ·rw[aG e];by_cases l:i<N
  ·rw[a6K l,a5B,a5B,u i λj=>e j.symm]
  ·rw[a5K (by simpa using l)];rfl
theorem Bp{cd:dB→Int}{n:cH}{Q:List Nat}{way:Nat→dB}{t:Nat}{s:dB}(l:n.source∈Q)(u:t ∉ Q):(byL cd n Q way).set t (cd s)=byL cd n (Q++[t]) (HR way t s):=by
 refine qX _ _ _ _ _ ?_ λv j=>?_
 ·have:t≠n.source:=λe=>u (e ▸ l);rw[aL ⟨by simp,this⟩,HR,aL rfl]
 ·rw[HR,aG j];have:(v∈Q++[t])↔v∈Q:=by simp[j]
  simp only[this]
theorem Ds(n:cH)(Q:List Nat)(t:Nat):(seL n Q).set t true=seL n (Q++[t]):=by
 refine qX _ _ _ _ _ ?_ λv e=>?_
 ·simp
 ·simp[e]
theorem O3(cd:dB→Int)(n:cH)(way:Nat→dB):a3W n.nodes [PV.int .i64 0]=cC (byL cd n [n.source] way):=by
 refine List.ext_getElem? λi=>?_;unfold cC byL;rw[a7V,a4Q,a4Q];by_cases l:i<n.nodes
 ·rw[aL l,a6K l,a5B,a5B,aG aW]
 ·rw[aG l,a5K (by simpa using l)];rfl
theorem Z4(n:cH):(a3W n.nodes [PV.bool false]).set n.source [PV.bool true]=bC (seL n [n.source]):=by
 have w:a3W n.nodes [PV.bool false]=(a3U n.nodes).map λ_=>[PV.bool false]:=by
  refine List.ext_getElem? λi=>?_;rw[a7V,a4Q];by_cases l:i<n.nodes
  ·rw[aL l,a6K l];rfl
  ·rw[aG l,a5K (by simpa using l)];rfl
 have j:[n.source].contains n.source=true:=by simp
 have u:∀v,v≠n.source→[n.source].contains v=false:=by intro v e;simp[e]
 have x:=qX (λ_=>[PV.bool false]) (λv=>[PV.bool ([n.source].contains v)]) n.nodes n.source [PV.bool true] (by rw[j]) (λv e=>by rw[u v e]);rw[w,x];unfold bC seL;rw[a7A];rfl
theorem NE(cd:dB→Int)(n:cH)(Q:List Nat)(way:Nat→dB):(byL cd n Q way).length=n.nodes:=by simp[byL]
theorem BC(n:cH)(Q:List Nat):(seL n Q).length=n.nodes:=by simp[seL]
theorem NX{n:cH}{Q:List Nat}{v:Nat}(h:v<n.nodes):(seL n Q).getD v false=Q.contains v:=by
 unfold seL;rw[a4D,a4Q,a6K h];rfl
structure RS where
 Q:List Nat
 k:Nat
 way:Nat→dB
 v:PV
 q:Nat
 H:PH
 d:Nat
structure pY(n:cH)(xs:List Nat)(X:PH)(cd:dB→Int)(b e:Nat)(a:RS):Prop where
 seen:rA n xs a.Q a.way
 done:GF n xs a.Q a.d
 dk:a.d≤a.k
 k:a.k≤Z' a.Q
 base:X.le a.H
 hb:a.H b=some (.rows 1 (cC (byL cd n a.Q a.way)))
 he:a.H e=some (.rows 1 (bC (seL n a.Q)))
 hq:yR a.H 1 a.q a.v (fF (a.Q.drop a.k))
 ne:X a.q=none∧a.q≠b∧a.q≠e
theorem tB{X H:PH}{o:Nat}{y:cD}(h:X.le H)(j:X o=none):X.le (H.set o y):=λq x hq=>by
 rw[aU,aG (λe=>by subst e;rw[j]at hq;cases hq)];exact h q x hq
def aAR(n:cH)(e fo:Nat)(xs:List Nat)(out:PV)(r:PV)(H:PH):Prop:=
 ∃Q way,rA n xs Q way∧GF n xs Q Q.length∧r=.tup [ints (byL stI n Q way),.sl 1 (bC (seL n Q))]∧H=sH n e fo xs out
theorem pY.step{n:cH}(U:fD n){xs:List Nat}{X:PH}{cd:dB→Int}{b e:Nat}{a:RS}(h:pY n xs X cd b e a)(hd:X b=none∧X e=none∧¬b=e){s:dB}(hs:s.1<Z' n.arcs)(hf:dW n s∈a.Q)(ht:gG n s ∉ a.Q)(hr:0<eA n xs s)
  {K:PV→PH→Prop} (hK:∀w:RS,pY n xs X cd b e w→w.Q=a.Q++[gG n s]→w.k=a.k→w.d=a.d→K w.v w.H) :
  pC ((a.H.set e (.rows 1 (bC (seL n (a.Q++[gG n s]))))).set b (.rows 1 (cC (byL cd n (a.Q++[gG n s]) (HR a.way (gG n s) s))))) 1 8 a.v (.sl 1 [[.int .i64 ((gG n s:Nat):Int)]]) K:=by
 obtain⟨W,Y,Z⟩:=hd;obtain⟨V,N,O⟩:=h.ne;have R:=aET U h.seen hs hf ht hr;have y:=HI R;rw[a3Z,a4E]at y;have S:=U.few;have hq:yR ((a.H.set e (.rows 1 (bC (seL n (a.Q++[gG n s]))))).set b (.rows 1 (cC (byL cd n (a.Q++[gG n s]) (HR a.way (gG n s) s))))) 1 a.q a.v (fF (a.Q.drop a.k)):=h.hq.ext λx j=>by rw[aU,aG N,aU,aG O];exact j
 refine hq.append (src:=[[.int .i64 ((gG n s:Nat):Int)]]) rfl ?_ λE v' H' g1 g2 g3 g4=>?_
 ·unfold roomFor;rw[a3V,a5M,a4E];simp only[maxLen];omega
 have J:∀o x,o≠a.q→a.H o=some x→o≠b→o≠e→H' o=some x:=λo x hq M hb he=>g3 o x hq (by rw[aU,aG hb,aU,aG he];exact M);have I:fF (a.Q.drop a.k)++[[PV.int .i64 ((gG n s:Nat):Int)]]=fF ((a.Q++[gG n s]).drop a.k):=by rw[List.drop_append_of_le_length h.k,show ∀A B:List Nat,fF (A++B)=fF A++fF B from λA B=>a5L];rfl
 rw[I]at g1;have u:∀o x,a.H o=some x→o≠a.q→E≠o:=λo x M hq l=>by
  subst l;rcases g2 with g|g
  ·exact hq g
  ·rw[aU]at g;split at g
   ·cases g
   ·rw[aU]at g;split at g
    ·cases g
    ·rw[M]at g;cases g
 have F:X E=none:=by
  cases j:X E with
  |none=>rfl
  |some x=>exact absurd rfl (u E x (h.base _ _ j) λl=>by rw[l,V]at j;cases j)
 refine hK ⟨a.Q++[gG n s],a.k,HR a.way (gG n s) s,v',E,H',a.d⟩ ⟨R,aBA h.done (a6T h.dk h.k) _,h.dk,?_,λo x j=>J o x (λl=>by rw[l,V]at j;cases j) (h.base _ _ j) (λl=>by rw[l,W]at j;cases j) (λl=>by rw[l,Y]at j;cases j),?_,?_,g1,?_⟩ rfl rfl rfl
 ·have:=h.k;show a.k≤(a.Q++[gG n s]).length;rw[a3Z];omega
 ·exact g3 b _ N.symm (by rw[bT])
 ·exact g3 e _ O.symm (by rw[aU,aG (λl=>Z l.symm),bT])
 ·exact⟨F,u _ _ h.hb N.symm,u _ _ h.he O.symm⟩

def aNK(c:UInt8)(n:Nat):List UInt8:=[c,UInt8.ofNat (97+n/26%26),UInt8.ofNat (97+n%26)]
def Pe(ds:List dM)(level parent a3B:Nat):List dM:=ds++[⟨aNK 110 ds.length,(level:Nat),(parent:Nat),(a3B:Nat),nT⟩]
theorem aJF(a b:Nat)(l:a<4294967296)(hb:b<4294967296):(mkT (a:Int) (b:Int)).Ok:=by
 rw[amJ];have e:=a7E a (a3X a b);have j:=a7E b (a3X a b);have k1:nl (a/a3X a b)≤1:=(mO _ _).2 Om;have k2:nl (b/a3X a b)≤1:=(mO _ _).2 Om;refine⟨bB _,bB _,?_,?_⟩
 ·show(aM _).length≤_;rw[bH];omega
 ·show(aM _).length≤_;rw[bH];omega
theorem T5{n:Nat}(h:n≤1000000):eP (n:Int):=by unfold eP;omega
def Oa(ds:List dM):Prop:=∀x∈ds,x.a2W.Ok∧eP x.level∧eP x.parent
theorem Oa.dom{ds:List dM}(h:Oa ds){level parent a3B:Nat}(j:level≤1000)(l:parent≤1000):Oa (Pe ds level parent a3B):=λx e=>by
 unfold Pe at e;rw[a5E,a4X]at e;rcases e with e|rfl
 ·exact h x e
 ·exact⟨aJF 0 1 aX aX,T5 Om,T5 Om⟩
structure FM(f:aD):Prop where
 ok:f.Ok
 km:∀p∈f.a2K,1≤p.k∧p.k≤2∧0≤p.m∧p.m≤2
 a2G:Z' f.a2G≤9
 pols:1≤Z' f.a2K∧Z' f.a2K≤2
 vols:∀x∈f.a2I,0≤x.a2T∧x.a2T<Z' f.a2K
theorem FM.pol{f:aD}(h:FM f){v:Nat}(j:v<Z' f.a2I):DD f v<Z' f.a2K∧cX f v∈f.a2K:=by
 have l:=h.vols _ (a3Y j);have u:DD f v=(f.a2I[v]).a2T.toNat:=by rw[DD,getD_at j]
 have e:DD f v<Z' f.a2K:=Om;refine⟨e,?_⟩;unfold cX;rw[a4D,a4C e,a6R];exact a3Y e
theorem FM.Qw{f:aD}(h:FM f){v:Nat}(e:v<Z' f.a2I):1≤qO f v∧qO f v≤4:=by
 have:=h.km _ (h.pol e).2;unfold qO;omega
abbrev aWW(l:List Int)(a:Nat):cD:=.rows 2 [[ints l,.int .i64 (a:Nat)]]
section
variable {C:Ctx} {F:PF} {H Hs:PH} {l:List Int} {o a:Nat}
end
structure ME where
 o:Nat
 o4:Nat
 o5:Nat
 vols:Nat
abbrev ME.boxes(E:ME)(l:List Int)(ext e j u w wp wv:PV)(a:Nat):List BX:=[(E.o5,flB ext e j u w wp wv),(E.o,aWW l a),(E.o4,flZ)]





def aYV(ds:List dM)(i:Nat)(d:dM):Prop:=∃lev p u:Nat,d.name=aNK 110 (i+1)∧d.level=lev∧1≤lev∧lev≤4∧d.parent=p∧p≤i∧(lvs ds)[p]?=some ((lev:Int)-1)∧d.a3B=u∧1≤u∧u≤64∧d.a2W=nT
structure DV(ds:List dM):Prop where
 root:ds[0]?=some qS
 dom:∀i (hi:i+1<Z' ds),aYV ds i ds[i+1]
theorem DV.new{ds:List dM}(h:DV ds){level parent up:Nat}(x:1≤level)(y:level≤4)(e:(lvs ds)[parent]?=some ((level:Int)-1))(B:1≤up)(E:up≤64) :
  DV (Pe ds level parent up)∧(lvs (Pe ds level parent up))[Z' ds]?=some (level:Int):=by
 have A:parent<Z' ds:=by
  have:=(a5A.1 e).1
  rwa[a3V]at this
 unfold Pe;refine⟨⟨by rw[a5U Om];exact h.root,λi hi=>?_⟩,?_⟩
 ·simp only[a3Z,a4E]at hi;by_cases hlt:i+1<Z' ds
  ·rw[List.getElem_append_left hlt];obtain⟨lev,p,v,g1,g2,g3,g4,j,l,u,w⟩:=h.dom i hlt;exact⟨lev,p,v,g1,g2,g3,g4,j,l,FT u,w⟩
  ·have:i+1=Z' ds:=Om;rw[List.getElem_append_right Om];simp only[List.getElem_singleton];exact⟨level,parent,up,by rw[this],rfl,x,y,rfl,by omega,FT e,rfl,B,E,rfl⟩
 ·unfold lvs;rw[a5L,a5V (by rw[a3V];exact a4B _),a3V,Nat.sub_self];rfl




theorem aN.store{H:PH}{B:List BX}{L:List LI}(h:aN H B L)(i:Nat){q s n:Nat}{rows:List (List PV)}(hi:L[i]?=some (.osl q s 0 n,s,rows))(k:Nat)(c:List PV) :
  ∃rs,H q=some (.rows s rs)∧n≤Z' rs∧rs.take n=rows∧aN (H.set q (.rows s (rs.set k c))) B (L.set i (.osl q s 0 n,s,rows.set k c)):=by
 obtain⟨rs,u,w,j,l⟩:=(h.own i hi).id rfl;injection w with _ _ _ x
 subst x;refine⟨rs,u,j,l,h.TD i hi (.inr ⟨q,rs.set k c,by rw[a5Q],by rw[bT],by rw[a5Q,a5Q];exact j,by rw[a5Q,List.take_set,l]⟩) (λp e=>.inl e) λp _ e=>?_⟩;have:p≠q:=e q rfl;rw[aU,aG this]

open Go Go.RowKit Go.Sort Go.Shelf Go.Proofs
section
variable {E:Env} {H:PH} {w:World}
end
section
variable {C:Ctx} {ρ:Ren} {name:Nat}
end
abbrev lists(ws:List (List Int)):PV:=.sl 1 (ws.map λw=>[ints w])
abbrev WPs:=List (PV × List Int)
def eE(ps:WPs):List (List PV):=ps.map λp=>[p.1]
def jK(ps:WPs):List LI:=ps.map λp=>(p.1,1,cC p.2)
def wls(ps:WPs):List (List Int):=ps.map (·.2)
def tC(e:PV)(ps:WPs):List LI:=(e,1,eE ps)::jK ps
section
variable {H:PH} {B:List BX}
theorem CO(ps:WPs):(eE ps).length=Z' ps:=a3V _
theorem FQ{ps:WPs}{i:Nat}{v:PV}{w:List Int}(hi:ps[i]?=some (v,w)):(jK ps)[i]?=some (v,1,cC w):=by
 unfold jK;rw[a4Q,hi];rfl
theorem xO{ps:WPs}{i:Nat}{v:PV}{w:List Int}(hi:ps[i]?=some (v,w)):(eE ps)[i]?=some [v]:=by
 unfold eE;rw[a4Q,hi];rfl
theorem aN.aNL(h:aN H B []):aN H B (tC .aE []):=h.lW 1
theorem aN.inner{e:PV}{ps:WPs}(h:aN H B (tC e ps)){i:Nat}{v:PV}{w:List Int}(hi:ps[i]?=some (v,w)):cZ H 1 v (cC w):=h.own (i+1) (FQ hi)
theorem aN.outer{e:PV}{ps:WPs}(h:aN H B (tC e ps)):cZ H 1 e (eE ps):=h.own 0 rfl
theorem GZ(a b:List Int):cC (a++b)=cC a++cC b:=a5L
theorem aN.aNO{x:PV}{ps:WPs}(h:aN H B (tC x ps)){i b:Nat}{v y:PV}{w src:List Int}{K:PV→PH→Prop}(hi:ps[i]?=some (v,w))(I:fY H 1 y=some (cC src))(E:roomFor w.length src.length b)(l:src≠[])
  (A:∀q H',aN H' B ((x,1,eE ps)::(jK ps).set i (.osl q 1 0 (w++src).length,1,cC (w++src)))→K (.osl q 1 0 (w++src).length) H'):pC H 1 b v y K:=by
 have j:cC src≠[]:=λe=>l (List.map_eq_nil_iff.1 e);refine h.append (i+1) (FQ hi) I (by rw[jR,jR];exact E) λv' H' u F=>?_;obtain⟨q,rfl⟩:=F j;rw[←GZ,jR]at u ⊢;exact A q H' u
theorem aN.aEV{j n i:Nat}{ps:WPs}{v':PV}{l:List Int}(h:aN H B ((.osl j 1 0 n,1,eE ps)::(jK ps).set i (v',1,cC l))) :
  ∃rs,H j=some (.rows 1 rs)∧n≤Z' rs∧rs.take n=eE ps∧aN (H.set j (.rows 1 (rs.set i [v']))) B (tC (.osl j 1 0 n) (ps.set i (v',l))):=by
 obtain⟨rs,u,w,x,y⟩:=h.store 0 rfl i [v'];refine⟨rs,u,w,x,?_⟩;have e:tC (.osl j 1 0 n) (ps.set i (v',l))=((.osl j 1 0 n,1,eE ps)::(jK ps).set i (v',1,cC l)).set 0 (.osl j 1 0 n,1,(eE ps).set i [v']):=by unfold tC eE jK;rw[List.map_set,List.map_set];rfl
 rw[e];exact y
def pE(e:List (List PV))(ws:List (List Int)):Prop:=Z' e=Z' ws∧∀(i:Nat) r w,e[i]?=some r→ws[i]?=some w→r=[ints w]∨(r=[.aE]∧w=[])
theorem pE.nil:pE [] []:=⟨rfl,λi r w h=>by cases h⟩
theorem pE.snoc{l:List (List PV)}{ws:List (List Int)}{u:PV}{w:List Int}(h:pE l ws)(y:u=ints w∨(u=.aE∧w=[])):pE (l++[[u]]) (ws++[w]):=by
 refine⟨by simp[h.1],λi r x e j=>?_⟩;rcases Nat.lt_trichotomy i l.length with c|c|c
 ·rw[a5U c]at e;rw[a5U (by rw[←h.1];exact c)]at j;exact h.2 i r x e j
 ·subst c;rw[a5V (a4B _),Nat.sub_self]at e;rw[h.1,a5V (a4B _),Nat.sub_self]at j;cases e;cases j;rcases y with rfl|⟨rfl,rfl⟩
  ·exact .inl rfl
  ·exact .inr ⟨rfl,rfl⟩
 ·rw[a5V Om,a5K (by simp;omega)]at e;cases e
theorem pE.flat{j:List (List PV)}{ws:List (List Int)}(h:pE j ws):Flat j:=Flat.of λr u c e q s rs=>by
 obtain⟨i,hi⟩:=List.mem_iff_getElem?.1 u;have l:=(a5A.1 hi).1;rcases h.2 i r _ hi (a4C (by rw[←h.1];exact l))with rfl|⟨rfl,-⟩
 ·rw[a4X]at e;subst e;rfl
 ·rw[a4X]at e;subst e;rfl
theorem pE.co{y:List (List PV)}{ws:List (List Int)}(h:pE y ws):Co (.sl 1 y) (lists ws):=by
 have x:∀(i:Nat) r t,y[i]?=some r→(ws.map λw=>[ints w])[i]?=some t→∃w,t=[ints w]∧(r=[ints w]∨(r=[.aE]∧w=[])):=λi r t u e=>by
  rw[a4Q]at e;cases E:ws[i]? with
  |none=>rw[E]at e;cases e
  |some w =>rw[E]at e;cases e;exact⟨w,rfl,h.2 i r w u E⟩
 refine .sl (by rw[a3V,h.1]) (λi r t u e=>?_) (λi j p q l hq=>?_)
 ·obtain⟨w,rfl,A|⟨A,-⟩⟩:=x i r t u e<;>subst A<;>rfl
 ·unfold at2 at l hq;cases u:y[i]? with
  |none=>rw[u]at l;cases l
  |some r=>
   cases e:(ws.map λw=>[ints w])[i]? with
   |none=>rw[e]at hq;cases hq
   |some t=>
    rw[u]at l;rw[e]at hq;obtain⟨w,rfl,A⟩:=x i r t u e;rcases A with rfl|⟨rfl,rfl⟩
    ·have:some p=some q:=l.symm.trans hq;cases this;exact .refl _
    ·cases j with
     |zero=>cases l;cases hq;exact .nil 1
     |succ j=>cases l
end
def Fx(u:PV):Prop:=∀q s rs,PV.frz q s rs u=u
theorem Fx.int(k:IntKind)(n:Int):Fx (.int k n):=λ_ _ _=>rfl
theorem Fx.bool(b:Bool):Fx (.bool b):=λ_ _ _=>rfl
theorem Fx.sl(n:Nat)(r:List (List PV)):Fx (.sl n r):=λ_ _ _=>rfl
theorem Fx.aE:Fx .aE:=λ_ _ _=>rfl
theorem Fx.ptr(q z i c:Nat):Fx (.ptr q z i c):=λ_ _ _=>rfl
theorem Fx.bU(c:List PV):Fx (.bU c):=λ_ _ _=>rfl
theorem cZ.cT{H:PH}{s:Nat}{v:PV}{rows:List (List PV)}(h:cZ H s v rows)(q z:Nat)(rs:List (List PV)):PV.frz q z rs v=PV.cT q z rs v:=by
 rcases h with⟨-,rfl⟩|⟨p,rs',rfl,-⟩<;>rfl
def MJ(φ:PV→PV)(F:PF):PF:=λi=>(F i).map φ
theorem wE(φ:PV→PV)(F:PF)(i:Nat):MJ φ F i=(F i).map φ:=rfl
theorem RE:∀(ps:WPs){H:PH}{B:List BX}{A:PV}(y:List (List PV)) (l:List (List Int)),pE y l→aN H B ((A,1,y++eE ps)::jK ps)→(∀b∈B,∀q s rs,cD.frz q s rs b.2=b.2) →
  ∃(φ:PV→PV)(E:PH),Co (φ A) (lists (l++wls ps))∧(∀u,Fx u→φ u=u)∧(∀e:Int,φ (.tup [A,.int .i64 e])=.tup [φ A,.int .i64 e])∧aN E B []∧(∀F:PF,lN F H (MJ φ F) E)∧∀o,(H o=none∨A.oid=some o∨∃p∈ps,p.1.oid=some o)→E o=none
 |[],H,B,A,y,l,J,h,hB=>by
  have M:y++eE []=y:=a5O y;have e1:l++wls []=l:=a5O l;rw[M]at h;rw[e1];rcases h.own 0 rfl with⟨R,rfl⟩|⟨q,rs,rfl,_⟩
  ·refine⟨id,H,?_,λ_ _=>rfl,λ_=>rfl,h.cg 0,λF=>?_,λo ho=>?_⟩
   ·subst R;have:l=[]:=List.length_eq_zero_iff.1 J.1.symm;subst this;exact .nil 1
   ·have:MJ id F=F:=funext λi=>by rw[wE];simp
    rw[this];exact .refl _ _
   ·rcases ho with ho|ho|⟨p,hp,-⟩
    ·exact ho
    ·cases ho
    ·cases hp
  ·obtain⟨rs,X,Y,Z,z4,K⟩:=h.frz 0 rfl;refine⟨PV.frz q 1 rs,H.frz q 1 rs,?_,λu N=>N _ _ _,λe=>?_,?_,λF=>.step q X (.refl _ _),λo ho=>?_⟩
   ·rw[Z];exact J.co
   ·show PV.tup [PV.cT q 1 rs (.osl q 1 0 y.length),.int .i64 e]=_;rw[Y,Z]
   ·have O:(B.map λb=>(b.1,b.2.frz q 1 rs))=B:=by
     conv=>rhs;rw[←List.map_id B]
     refine a6A λb hb=>?_;rw[hB b hb q 1 rs];rfl
    rw[O]at K;exact K
   ·rw[FP];rcases ho with ho|ho|⟨p,hp,-⟩
    ·rw[ho];split<;>rfl
    ·have:q=o:=by injection ho
     rw[aL this.symm]
    ·cases hp
 |(v,w)::ps,H,B,A,y,l,J,h,hB=>by
  have eo:∀u:PV,y++[[u]]++eE ps=y++[u]::eE ps:=λu=>by rw[a5C];rfl
  have ew:l++[w]++wls ps=l++wls ((v,w)::ps):=by rw[a5C];rfl
  have ho:cZ H 1 v (cC w):=h.own 1 rfl;rcases ho with⟨R,rfl⟩|⟨q,rs,rfl,_⟩
  ·have hw:w=[]:=List.map_eq_nil_iff.1 R;have h2:=h.cg 1;obtain⟨φ,E,k1,k2,S,U,V,W⟩:=RE ps (y++[[.aE]]) (l++[w]) (J.snoc (.inr ⟨rfl,hw⟩)) (by rw[eo];exact h2) hB;rw[ew]at k1;refine⟨φ,E,k1,k2,S,U,V,λo ho=>W o ?_⟩;rcases ho with ho|ho|⟨p,hp,ho⟩
   ·exact .inl ho
   ·exact .inr (.inl ho)
   ·rcases a4J.1 hp with rfl|hp
    ·cases ho
    ·exact .inr (.inr ⟨p,hp,ho⟩)
  ·obtain⟨rs,X,Y,Z,z4,K⟩:=h.frz 1 rfl;have O:(B.map λb=>(b.1,b.2.frz q 1 rs))=B:=by
    conv=>rhs;rw[←List.map_id B]
    refine a6A λb hb=>?_;rw[hB b hb q 1 rs];rfl
   have y0:PV.cT q 1 rs A=A:=z4 0 _ aX rfl;have I:PV.frz q 1 rs A=A:=((h.own 0 rfl).cT q 1 rs).trans y0;have yp:∀p∈ps,PV.cT q 1 rs p.1=p.1:=λp hp=>by obtain⟨j,hj⟩:=List.mem_iff_getElem?.1 hp;exact z4 (j+2) (p.1,1,cC p.2) Om (FQ hj)
   have er:(y++eE ((.osl q 1 0 (cC w).length,w)::ps)).map (λr=>r.map (PV.cT q 1 rs))=y++[[ints w]]++eE ps:=by
    rw[a5L,J.flat,a5C];congr 1;show[PV.cT q 1 rs (.osl q 1 0 (cC w).length)]::(eE ps).map _=_;rw[Y];have:(eE ps).map (λr=>r.map (PV.cT q 1 rs))=eE ps:=by unfold eE;rw[a7A];refine a6A λp hp=>?_;show[PV.cT q 1 rs p.1]=_;rw[yp p hp]
    rw[this];rfl
   have ei:(jK ps).map (λx=>(x.1,x.2.1,x.2.2.map λr=>r.map (PV.cT q 1 rs)))=jK ps:=by unfold jK;rw[a7A];refine a6A λp _=>?_;show(p.1,1,(cC p.2).map λr=>r.map (PV.cT q 1 rs))=_;rw[show(cC p.2).map (λr=>r.map (PV.cT q 1 rs))=cC p.2 from Flat.map p.2 (λx c hc q s rs=>by rw[a4X]at hc;subst hc;rfl) q 1 rs]
   have z6:aN (H.frz q 1 rs) B ((A,1,y++[[ints w]]++eE ps)::jK ps):=by rw[O]at K;have z7:aN (H.frz q 1 rs) B ((A,1,(y++eE ((.osl q 1 0 (cC w).length,w)::ps)).map (λr=>r.map (PV.cT q 1 rs)))::(jK ps).map (λx=>(x.1,x.2.1,x.2.2.map λr=>r.map (PV.cT q 1 rs)))):=K;rw[er,ei]at z7;exact z7
   obtain⟨φ,E,k1,k2,S,U,V,W⟩:=RE ps (y++[[ints w]]) (l++[w]) (J.snoc (.inl rfl)) z6 hB;rw[ew]at k1;refine⟨λu=>φ (PV.frz q 1 rs u),E,?_,λu N=>?_,λe=>?_,U,λF=>.step q X ?_,λo ho=>W o ?_⟩
   ·simp only;rw[I];exact k1
   ·simp only;rw[N,k2 u N]
   ·simp only;rw[I];have yt:PV.frz q 1 rs (.tup [A,.int .i64 e])=.tup [PV.frz q 1 rs A,.int .i64 e]:=by rcases h.own 0 rfl with⟨-,M⟩|⟨p,rs',M,-⟩<;>(subst M;rfl)
    rw[yt,I,S]
   ·have:MJ (λu=>φ (PV.frz q 1 rs u)) F=MJ φ (F.frz q 1 rs):=funext λi=>by rw[wE,wE,sG,Option.map_map];rfl
    rw[this];exact V _
   ·rw[FP];rcases ho with ho|ho|⟨p,hp,ho⟩
    ·left;rw[ho];split<;>rfl
    ·exact .inr (.inl ho)
    ·rcases a4J.1 hp with rfl|hp
     ·have:q=o:=by injection ho
      left;rw[aL this.symm]
     ·exact .inr (.inr ⟨p,hp,ho⟩)
theorem ZE{res:List fC}{F:PF}{H:PH}{l:PV}{ps:WPs}{c:Int}{e:nN}(he:e=.normal∨e=.ret)(h:fC.evs F H res=some [l,.int .i64 c])(w:aN H [] (tC l ps)):aV res (cY (.tup [lists (wls ps),.int .i64 c])) e F H:=by
 obtain⟨φ,A,k1,-,x,-,y,-⟩:=RE ps [] [] .nil w (λb hb=>by cases hb);refine oA he h ⟨_,_,.nil,y _,a_,φ (cE [l,.int .i64 c]),?_,?_⟩
 ·rw[wE,pF,aL rfl];rfl
 ·show cY _ (φ (.tup [l,.int .i64 c])) .nil;rw[x];refine⟨.tup rfl λj p q u hq=>?_,rfl⟩
  match j with
  |0=>cases u;cases hq;exact k1
  |1=>cases u;cases hq;exact .refl _
  |j+2=>cases u
theorem xK{H:PH}{o q s:Nat}{rs:List (List PV)}{x:cD}(h:H o=some x)(e:¬o=q)(j:cD.frz q s rs x=x):(H.frz q s rs) o=some x:=by
 show(if o=q then none else(H o).map (cD.frz q s rs))=some x;rw[aG e,h,a5B,j]
theorem xJ{q s:Nat}{rs r:List (List PV)}(h:Flat r)(z:Nat):cD.frz q s rs (.rows z r)=.rows z r:=by
 show cD.rows z (r.map λc=>c.map (PV.cT q s rs))=_;rw[h]
theorem E9{H H2:PH}{b e m:Nat}{j l:List (List PV)}{R:PV→PH→Prop}(hb:H b=some (.rows 1 j))(he:H e=some (.rows 1 l))(u:¬e=b)(x:Flat l)(A:Z' j=m)(le:Z' l=m)
  (w:H2.le ((H.frz b 1 j).frz e 1 l)) (y:R (.tup [.sl 1 j,.sl 1 l]) H2):sV (.tup [.osl b 1 0 m,.osl e 1 0 m]) H R:=by
 have B:PV.frz b 1 j (.tup [.osl b 1 0 m,.osl e 1 0 m])=.tup [.sl 1 j,.osl e 1 0 m]:=by simp[PV.frz,PV.uO,PV.cT,u,←A]
 have E:PV.frz e 1 l (.tup [.sl 1 j,.osl e 1 0 m])=.tup [.sl 1 j,.sl 1 l]:=by simp[PV.frz,PV.uO,PV.cT,←le]
 refine .step hb ?_;rw[B];refine .step (xK he u (xJ x 1)) ?_;rw[E];exact .done y w
theorem avT(l:List Bool):Flat (bC l):=Flat.map l λx c e q s rs=>by
 rw[a4X]at e;subst e;rfl
abbrev mX(e:List (List PV)):PV:=.sl 1 e
theorem pE.at{j:List (List PV)}{ws:List (List Int)}(h:pE j ws){i:Nat}(hi:i<Z' ws):∃u,j[i]?=some [u]∧(u=ints (ws.getD i [])∨(u=.aE∧ws.getD i []=[])):=by
 have l:i<Z' j:=by rw[h.1];exact hi
 have w:ws.getD i []=ws[i]:=by rw[a4D,a4C hi];rfl
 rw[w];rcases h.2 i j[i] ws[i] (a4C l) (a4C hi)with e|⟨e,e2⟩
 ·exact⟨_,by rw[a4C l,e],.inl rfl⟩
 ·exact⟨_,by rw[a4C l,e],.inr ⟨rfl,e2⟩⟩
theorem aCK {C : Ctx} (hends : ∀ (n : cH) (so fo : Nat) (xs : List Nat) (out : PV) (s : dB), fD n → ¬ so = fo → pW n xs → s.1 < n.arcs.length → aJ C 294 [.ptr so 6 0 0, .int .i64 (stI s)] (sH n so fo xs out) (fun r H' => r = .tup [.int .i64 ((gG n s : Nat) : Int), .int .i64 ((eA n xs s : Nat) : Int)] ∧ H' = sH n so fo xs out))
    (n : cH) (hn : fD n) (so fo : Nat) (hne : ¬ so = fo) (xs : List Nat) (hx : pW n xs) (fs : List (List PV)) (outL : List (List Int)) (hSh : pE fs outL) (hO : Nq n outL) :
    KJ.wp C (aV Wa.res (aAR n so fo xs (mX fs))) (PF.args [.ptr so 6 0 0]) (sH n so fo xs (mX fs)) := by
  have a3G : ¬ fo = so := fun e => hne e.symm;have hfew := hn.few;have hsrc := hn.source;have hb1 : (n.nodes : Int) * ((8 : Nat) : Int) ≤ 140737488355328 := Om;have hb2 : (n.nodes : Int) ≤ 9223372036854775807 := Om;have hb3 : (n.nodes : Int) * ((1 : Nat) : Int) ≤ 140737488355328 := Om;have hs1 : (n.source : Int) < (n.nodes : Nat) := Om;simp only[go_sem,KJ,Gy,Wa];refine aZ .nil cI a_ ?_;simp only[go_sem,Gz,hne,a3G,hb1,hb2,hb3];refine aQ fun b hb => ?_;simp only[go_sem];have b1 : ¬ so = b := fun e => by rw [← e, aU, aG hne, bT] at hb; cases hb
  have b2 : ¬ fo = b := fun e => by rw [← e, bT] at hb; cases hb
  have b1' : ¬ b = so := fun e => b1 e.symm;have b2' : ¬ b = fo := fun e => b2 e.symm;simp only[go_sem,hne,a3G,b1,b2,hb1,hb2,hb3];refine aQ fun e he => ?_;have e1 : ¬ so = e := fun e0 => by rw [← e0, aU, aG b1, aU, aG hne, bT] at he; cases he
  have e2 : ¬ fo = e := fun e0 => by rw [← e0, aU, aG b2, bT] at he; cases he
  have e3 : ¬ b = e := fun e0 => by rw [← e0, bT] at he; cases he
  have e1' : ¬ e = so := fun e0 => e1 e0.symm;have e2' : ¬ e = fo := fun e0 => e2 e0.symm;have e3' : ¬ e = b := fun e0 => e3 e0.symm;have hrl : n.source < (a3W n.nodes [PV.bool false]).length := by simpa using hsrc
  simp only[go_sem,G0,hne,a3G,b1,b2,e1,e2,e3,hs1,a7V,a7J,hsrc,a4I];have hsoX : (sH n so fo xs (mX fs)) so = some (xR n fo xs.length (mX fs)) := by rw [aU, aG hne, bT]
  have hfoX : (sH n so fo xs (mX fs)) fo = some (.rows 1 (fF xs)) := by rw [bT]
  have hXe : (sH n so fo xs (mX fs)) e = none := by rw [aU, aG e3'] at he; exact he
  simp only[go_sem,G1,hne,a3G,b1,b2,e1,e2,e3];refine aQ fun q hq => ?_;have q1 : ¬ so = q := fun e0 => by rw [← e0, aU, aG e1, aU, aG b1, aU, aG hne, bT] at hq; cases hq
  have q2 : ¬ fo = q := fun e0 => by rw [← e0, aU, aG e2, aU, aG b2, bT] at hq; cases hq
  have q3 : ¬ b = q := fun e0 => by rw [← e0, aU, aG e3, bT] at hq; cases hq
  have q4 : ¬ e = q := fun e0 => by rw [← e0, bT] at hq; cases hq
  have hXq : (sH n so fo xs (mX fs)) q = none := by rw [aU, aG (fun h => q4 h.symm), aU, aG (fun h => q3 h.symm)] at hq; exact hq
  simp only[go_sem];rw [O3 stI n (fun _ => (0, true)), Z4];refine wp_loop (α := RS) (fun a => ((((PF.nil.set 0 (.ptr so 6 0 0)).set 4 (.osl b 1 0 n.nodes)).set 5 (.osl e 1 0 n.nodes)).set 6 (a.v))) (fun a => a.H) (fun a => pY n xs (sH n so fo xs (mX fs)) stI b e a ∧ a.d = a.k) (fun a => n.nodes - a.k)
    ⟨[n.source], 0, fun _ => (0, true), .osl q 1 0 1, q, (((sH n so fo xs (mX fs)).set b (.rows 1 (cC (byL stI n [n.source] (fun _ => (0, true)))))).set e (.rows 1 (bC (seL n [n.source])))).set q (.rows 1 [[.int .i64 (n.source : Nat)]]), 0⟩
    ⟨⟨ye hn xs _, Em n xs _, a4B _, a4A _, tB (tB (tB (fun _ _ h => h) hb) hXe) hXq,
      by rw [aU, aG q3, aU, aG e3, bT], by rw [aU, aG q4, bT], ⟨[[.int .i64 (n.source : Nat)]], 0, rfl, by rw [bT], by simp, rfl⟩, hXq, fun h => q3 h.symm, fun h => q4 h.symm⟩, rfl⟩ Lq (fun _ _ h => h) ?_
  rintro a ⟨hI, hdk⟩;obtain ⟨rs, off, hv, hq1, hq2, hq3⟩ := hI.hq;rw [a3V, a5M] at hv hq2 hq3;simp only[go_sem,vr,G2,hv];by_cases hk : a.k < a.Q.length
  · have c0 : ((a.Q.length - a.k : Nat) : Int) > 0 := Om
    have hw : a.Q[a.k] < n.nodes := hI.seen.lt _ (a3Y hk);have hwo : a.Q[a.k] < outL.length := by rw [hO.len]; exact hw
    have hwi : ((a.Q[a.k] : Nat) : Int) < (outL.length : Nat) := Om;have hc0 : (0 : Int) < ((a.Q.length - a.k : Nat) : Int) := c0;have hrs : rs[off]? = some [.int .i64 ((a.Q[a.k] : Nat) : Int)] := by
      have h5 : ((rs.drop off).take (a.Q.length - a.k))[0]? = (fF (a.Q.drop a.k))[0]? := by rw [hq3]
      rw [a6S, aL Om, a7I, a5H, a4Q, a7I, a5H, a4C hk] at h5;exact h5
    obtain ⟨lv, hol, hlv⟩ := hSh.at hwo;have hlen : PV.zA lv = some (.int .i64 ((outL.getD a.Q[a.k] []).length : Nat)) := by
      rcases hlv with rfl | ⟨rfl, e⟩
      · simp [PV.zA]
      · rw [e]; rfl
    simp only[go_sem,c0];refine aZ .nil cI a_ ?_;simp only[go_sem,G3,(hI.base _ _ hsoX),hc0,hq1,a5H,hrs,hol,hlen];have hLf := hO.few a.Q[a.k];have hLo := hO.only a.Q[a.k];have hLa := fun s h => hO.all s h;generalize hL : outL.getD a.Q[a.k] [] = L at *
    have hkn := HI hI.seen;refine wp_loop (α := RS × Nat) (fun c => (((((((PF.nil.set 0 (.ptr so 6 0 0)).set 4 (.osl b 1 0 n.nodes)).set 5 (.osl e 1 0 n.nodes)).set 6 (c.1.v)).set 49 (lv)).set 50 (.int .i64 (L.length : Nat))).set 51 (.int .i64 (c.2 : Nat)))) (fun c => c.1.H)
      (fun c => pY n xs (sH n so fo xs (mX fs)) stI b e c.1 ∧ c.1.d = a.k ∧ c.1.k = a.k ∧ c.1.Q[a.k]? = some a.Q[a.k] ∧ c.2 ≤ L.length ∧ ∀ s : dB, s.1 < n.arcs.length → stI s ∈ L.take c.2 → 0 < eA n xs s → gG n s ∈ c.1.Q) (fun c => L.length - c.2) (a, 0)
      ⟨hI, hdk, rfl, a4C hk, a4A _, fun s _ h => by simp at h⟩ (by (repeat' (first|exact c_|refine d_ ?_ ?_)) <;> first|(simp only[go_sem,hv] <;> rfl)|rfl) (fun _ _ h => h) ?_
    rintro ⟨a', j⟩ ⟨hI', hd', hk', hQk, hj, a3N⟩;dsimp only at hI' hd' hk' hQk hj a3N;simp only[go_sem,vq,G4];by_cases hlt : j < L.length
    · have a2N : (j : Int) < (L.length : Nat) := Om
      obtain ⟨s, hs1, hs2, hs3⟩ := hLo L[j] (a3Y hlt);have hLj : (L.map fun n => [PV.int .i64 n])[j]? = some [.int .i64 (stI s)] := by rw [a4Q, a4C hlt, hs3]; rfl
      have htake : L.take (j + 1) = L.take j ++ [stI s] := by rw [a5W hlt, hs3]
      have hwQ : a.Q[a.k] ∈ a'.Q := a5S hQk;have hto : gG n s < n.nodes := by have := hn.ends _ (a3Y hs1);rw [nZ hs1] at this;unfold gG;split <;> omega
      have hto' : ((gG n s : Nat) : Int) < (n.nodes : Nat) := Om;have hstI : ∀ s2 : dB, stI s2 = stI s → s2 = s := fun s2 h => by
        obtain ⟨i2, b2⟩ := s2;obtain ⟨i1, b1⟩ := s;unfold stI at h;cases b1 <;> cases b2 <;> simp only [reduceIte, reduceCtorEq] at h ⊢
        · rw [show i2 = i1 by omega]
        · omega
        · omega
        · rw [show i2 = i1 by omega]
      have hlv' : lv = ints L := by
        rcases hlv with e | ⟨_, e⟩
        · exact e
        · rw [e] at hlt; exact absurd hlt (Nat.not_lt_zero _)
      subst hlv';simp only[go_sem,a2N,G5,hLj,G6];refine eY (hends n so fo xs (mX fs) s hn hne hx hs1) Ev (hI'.base) ?_;rintro r H' ⟨rfl, rfl⟩ -;rw [PH.over_self _ (hI'.base)];have hmore : ∀ Q2 : List Nat, (∀ v ∈ a'.Q, v ∈ Q2) → (0 < eA n xs s → gG n s ∈ Q2) → ∀ s2 : dB, s2.1 < n.arcs.length → stI s2 ∈ L.take (j + 1) → 0 < eA n xs s2 → gG n s2 ∈ Q2 := fun Q2 g1 g2 s2 g3 g4 g5 => by
        rw [htake] at g4;rcases a5E.1 g4 with g | g
        · exact g1 _ (a3N s2 g3 g g5)
        · have := hstI s2 (a4X.1 g)
          subst this;exact g2 g5
      have hjw := wZz j;by_cases hr : 0 < eA n xs s
      · have hr' : ((eA n xs s : Nat) : Int) > 0 := Om
        have hsel : gG n s < (seL n a'.Q).length := by rw [BC]; exact hto
        have hbyl : gG n s < (byL stI n a'.Q a'.way).length := by rw [NE]; exact hto
        have hbr := fA hsel;rw [NX hto] at hbr;have hir := AS hbyl;cases hc : a'.Q.contains (gG n s) with
        | true =>rw [hc] at hbr;have hin : gG n s ∈ a'.Q := a7T.1 hc;simp only[go_sem,IS,hr',hto',hI'.he,hbr,a4I,EE,hjw];exact aH (a', j + 1) ⟨hI', hd', hk', hQk, hlt, hmore _ (fun _ h => h) fun _ => hin⟩ (by dsimp only; omega) Lq (fun _ _ h => h)
        | false =>
          rw [hc] at hbr;have hnin : gG n s ∉ a'.Q := fun h => by rw [a7T.2 h] at hc; cases hc
          have hsQ : n.source ∈ a'.Q := by obtain ⟨t, ht⟩ := hI'.seen.first; rw [ht]; simp
          simp only[go_sem,IS,hr',hto',hI'.he,hI'.hb,hbr,hir,a4I,e3,e3',vt,vu,jN,sQ,Ds,Bp hsQ hnin];refine pY.step hn hI' ⟨hb, hXe, e3⟩ hs1 (by rw [hs2]; exact hwQ) hnin hr fun a2 hI2 hQ2 hk2 hd2 => ?_;simp only[go_sem,EE,hjw];have hQk2 : a2.Q[a.k]? = some a.Q[a.k] := by obtain ⟨l1, l2⟩ := a5A.1 hQk;rw [hQ2, a5U l1];exact hQk
          exact aH (a2, j + 1) ⟨hI2, hd2.trans hd', hk2.trans hk', hQk2, hlt, hmore _ (fun v h => by rw [hQ2]; exact a7K _ h) fun _ => by rw [hQ2]; simp⟩ (by dsimp only; omega) Lq (fun _ _ h => h)
      · have hr' : ¬ ((eA n xs s : Nat) : Int) > 0 := Om
        simp only[go_sem,IS,hr',EE,hjw];exact aH (a', j + 1) ⟨hI', hd', hk', hQk, hlt, hmore _ (fun _ h => h) fun h => absurd h hr⟩ (by dsimp only; omega) Lq (fun _ _ h => h)
    · have a2N : ¬ (j : Int) < (L.length : Nat) := Om
      obtain ⟨rs', off', hv', hq1', hq2', hq3'⟩ := hI'.hq;obtain ⟨l1, l2⟩ := a5A.1 hQk;rw [a3V, a5M, hk'] at hv' hq2' hq3';have hc1 : (1 : Int) ≤ ((a'.Q.length - a.k : Nat) : Int) := Om;simp only[go_sem,a2N,vw,hv',hc1,Int.le_refl];have hLt : L.take j = L := a4N Om;have hdn : GF n xs a'.Q (a.k + 1) := El (by rw [← hd']; exact hI'.done) hQk fun s g1 g2 g3 => by refine a3N s g1 ?_ g3;have := hLa s g1;rw [g2, hL] at this;rw [hLt];exact this
      have hfl : (fF (a'.Q.drop (a.k + 1))).length = a'.Q.length - a.k - 1 := by rw [a3V, a5M, Nat.sub_sub]
      have hsl := HI hI'.seen;refine aH ⟨a'.Q, a.k + 1, a'.way, .osl a'.q 1 (off' + 1) (a'.Q.length - a.k - 1), a'.q, a'.H, a.k + 1⟩ ⟨⟨hI'.seen, hdn, a4B _, by dsimp only; omega, hI'.base, hI'.hb, hI'.he, ⟨rs', off' + 1, by rw [hfl], hq1', by rw [hfl]; omega, ?_⟩, hI'.ne⟩, rfl⟩ (by dsimp only; omega) Lq (fun _ _ h => h);rw [hfl];have h7 := congrArg (List.drop 1) hq3';rw [List.drop_take, List.drop_drop] at h7;rw [h7];show List.drop 1 (List.map _ _) = _;rw [← List.map_drop, List.drop_drop]
  · have c0 : ¬ ((a.Q.length - a.k : Nat) : Int) > 0 := Om
    have hkk : a.k = a.Q.length := by have := hI.k; omega
    simp only[go_sem,c0,vz];have hfo : ∀ q, ¬ fo = q → ∀ rs, cD.frz q 1 rs (xR n fo xs.length (mX fs)) = xR n fo xs.length (mX fs) := fun q hq rs => by simp [cD.frz, PV.cT, hq]
    refine oA (vs := [.osl b 1 0 n.nodes, .osl e 1 0 n.nodes]) (.inr rfl) Ev ?_;refine E9 (H2 := sH n so fo xs (mX fs)) hI.hb hI.he e3' (avT _) (by unfold cC; rw [a3V, NE]) (by rw [hJ, BC]) ?_ ⟨a.Q, a.way, hI.seen, by rw [← hkk, ← hdk]; exact hI.done, rfl, rfl⟩;have flx : Flat (fF xs) := Flat.map xs fun x c hc q s rs => by rw [a4X] at hc;subst hc;rfl
    exact e_ (e_ a_ (xK (xK (hI.base _ _ hsoX) b1 (hfo b b2 _)) e1 (hfo e e2 _))) (xK (xK (hI.base _ _ hfoX) b2 (xJ flx 1)) e2 (xJ flx 1))
theorem aNF{n:cH}{Q:List Nat}{way:Nat→dB}{v:Nat}(h:v<n.nodes)(j:v∈Q)(e:v≠n.source):((byL stI n Q way).map λx=>[PV.int .i64 x])[v]?=some [.int .i64 (stI (way v))]:=by
 unfold byL;rw[a4Q,a4Q,a6K h,a5B,a5B,aL ⟨j,e⟩]
theorem room_le{n:cH}(l:fD n){xs:List Nat}(u:pW n xs){s:dB}(e:s.1<Z' n.arcs):eA n xs s≤2147483647:=by
 have j:=(l.ends _ (a3Y e)).2.2;rw[nZ e]at j;have w:=u.le _ e;unfold eA;split<;>omega
theorem IY(xs:List Nat)(i x:Nat):(fF xs).set i [.int .i64 (x:Nat)]=fF (xs.set i x):=by
 exact(List.map_set ..).symm
theorem jM.in{n:cH}{xs:List Nat}(h:jM n xs):pW n xs:=⟨h.len,λi hi=>by
 have e:i<Z' xs:=by rw[h.len];exact hi
 have:=h.le i n.arcs[i] xs[i] (a4C hi) (a4C e);rw[nZ hi]at this;rw[a4D,a4C e];exact this⟩
def aSL(n:cH)(l fo:Nat)(xs:List Nat)(out:PV)(r:PV)(H:PH):Prop:=
 ∃(j:List Nat)(e:Nat),0<e∧jM n j∧kM n j=kM n xs+e∧r=.int .i64 (e:Nat)∧H=sH n l fo j out
theorem aPR{C:Ctx}(Z:∀(n:cH)(l fo:Nat)(xs:List Nat)(out:PV)(s:dB),fD n→¬l=fo→pW n xs→s.1<Z' n.arcs→aJ C 294 [.ptr l 6 0 0,.int .i64 (stI s)] (sH n l fo xs out) (λr H'=>r=.tup [.int .i64 ((gG n s:Nat):Int),.int .i64 ((eA n xs s:Nat):Int)]∧H'=sH n l fo xs out))
  (y:∀(n:cH)(l fo:Nat)(xs:List Nat)(out:PV)(s:dB),fD n→¬l=fo→s.1<Z' n.arcs→aJ C 295 [.ptr l 6 0 0,.int .i64 (stI s)] (sH n l fo xs out) (λr H'=>r=.int .i64 ((dW n s:Nat):Int)∧H'=sH n l fo xs out))
  (n:cH) (I:fD n) (l fo:Nat) (w:¬l=fo) (xs:List Nat) (hF:jM n xs) (out:PV) (Q:List Nat) (way:Nat→dB) (hS:rA n xs Q way) (γ:n.sink∈Q) :
  XG.wp C (aV aIW.res (aSL n l fo xs out)) (PF.args [.ptr l 6 0 0,ints (byL stI n Q way)]) (sH n l fo xs out):=by
 have A:¬fo=l:=λe=>w e.symm;have hx:=hF.in;obtain⟨L0,W,-⟩:=Eg hS _ n.sink rfl γ;simp only[go_sem,XG,alT,aIW,alU,alV,w,A];refine wp_loop (α:=Nat × List dB × List dB × Int) (λc=>((((PF.nil.set 0 (.ptr l 6 0 0)).set 1 (ints (byL stI n Q way))).set 5 (.int .i64 c.2.2.2)).set 6 (.int .i64 (c.1:Nat)))) (λ_=>sH n l fo xs out)
  (λc=>c.1∈Q∧wH n Q way c.1 c.2.1∧c.2.2.1++c.2.1=L0∧(c.2.2.1=[]→c.2.2.2=-1)∧(c.2.2.1≠[]→0<c.2.2.2∧c.2.2.2≤2147483647∧∀s∈c.2.2.1,c.2.2.2≤eA n xs s)) (λc=>c.2.1.length) (n.sink,L0,[],-1)
  ⟨γ,W,rfl,λ_=>rfl,λh=>absurd rfl h⟩ Lq (λ_ _ h=>h) ?_
 rintro⟨v,L,P,z⟩ ⟨hv,hB,O,κ,δ⟩;dsimp only at hv hB O κ δ;simp only[go_sem,alS,alW,w,A];have σ:=hS.lt v hv;have χ:(v:Int)<(n.nodes:Nat):=Om;by_cases R:v=n.source
 ·have hL:L=[]:=by
   cases hB with
   |nil=>rfl
   |cons _ h _=>exact absurd R h
  subst hL;rw[a5O]at O;subst O;have Y:(v:Int)=n.source:=Om;have ξ:P≠[]:=by
   rintro rfl;have:=I.apart;generalize hk:n.sink=k at *
   cases W;exact this rfl
  obtain⟨z0,z1,F⟩:=δ ξ;obtain⟨j,rfl⟩:∃j:Nat,z=j:=⟨z.toNat,by omega⟩;simp only[go_sem,bW Y,alY,w,A];refine wp_loop (α:=Nat × List dB × List Nat) (λc=>((((PF.nil.set 0 (.ptr l 6 0 0)).set 1 (ints (byL stI n Q way))).set 5 (.int .i64 (j:Nat))).set 9 (.int .i64 (c.1:Nat)))) (λc=>sH n l fo c.2.2 out)
   (λc=>c.1∈Q∧wH n Q way c.1 c.2.1∧ca n xs c.2.2 j c.1 c.2.1∧∀s∈c.2.1,j≤eA n xs s) (λc=>c.2.1.length) (n.sink,P,xs)
   ⟨γ,W,Gw hF j P,λs M=>by have:=F s M;omega⟩ Lq (λ_ _ h=>h) ?_
  rintro⟨u,L,x⟩ ⟨hu,J,hM,E⟩;dsimp only at hu J hM E;simp only[go_sem,U1,U2,w,A];have ρ:=hS.lt u hu;have φ:(u:Int)<(n.nodes:Nat):=Om;by_cases N:u=n.source
  ·have hL:L=[]:=by
    cases J with
    |nil=>rfl
    |cons _ h _=>exact absurd N h
   subst hL;subst N;obtain⟨k1,k2⟩:=Vq I hF hM;simp only[go_sem,bW (show(n.source:Int)=n.source from rfl),U5];exact bD (vs:=[.int .i64 (j:Nat)]) (.inr rfl) (sH n l fo x out) rfl (λ_ _ h=>h) ⟨x,j,by omega,k1,k2,rfl,rfl⟩
  ·have ε:¬(u:Int)=n.source:=Om;have ν:=J;cases J with
   |nil=>exact absurd rfl N
   |@cons _ L _ _ J=>
   have ο:=E _ (List.mem_cons_self ..);obtain⟨g1,g2,g3⟩:=Vs hS hM ν hu ο;obtain⟨s1,s2,s3,s4,s5⟩:=hS.way u hu N;have β:=hM.same _ (List.mem_cons_self ..);have B:=aNF (way:=way) ρ hu N;generalize M:way u=s at *
   obtain⟨i,S⟩:=s;have s1:i<Z' n.arcs:=s1;have ι:i<Z' x:=by rw[hM.len];exact s1
   have θ:(i:Int)<(Z' x:Nat):=Om;have τ:=room_le I hx (s:=(i,S)) s1;have ψ:=hx.le i s1;have X:=(I.ends _ (a3Y s1)).2.2;rw[nZ s1]at X;have hk:=I.num;dsimp only at β;have η:((sH n l fo x out).set fo (.rows 1 (fF (push j x (i,S)))))=sH n l fo (push j x (i,S)) out:=by show(((PH.nil.set l (xR n fo x.length out)).set fo _).set fo _)=(PH.nil.set l (xR n fo (push j x (i,S)).length out)).set fo _;rw[PH.set_set,oi]
   have V:((PH.nil.set l (xR n fo x.length out)).set fo (.rows 1 (fF (push j x (i,S)))))=sH n l fo (push j x (i,S)) out:=by show _=(PH.nil.set l (xR n fo (push j x (i,S)).length out)).set fo _;rw[oi]
   have U:∀s∈L,j≤eA n xs s:=λs M=>E s (a7B _ M);cases S with
   |true=>
    have e0:stI (i,true)=(i:Int):=rfl;have hp:push j x (i,true)=x.set i (x.getD i 0+j):=rfl;have e2:eA n xs (i,true)=(bX n i).cap-xs.getD i 0:=rfl;have ew:IntKind.i64.wrap (((x.getD i 0:Nat):Int)+((j:Nat):Int))=((x.getD i 0+j:Nat):Int):=by rw[wrap_i64 Om Om];omega
    simp only[go_sem,cU ε,l7,B,l8,e0,show(i:Int)≥0 by omega,U3,w,A,θ,kL ι,ew,IY,a4I];rw[←hp]
    first|rw[η]|rw[V]
    simp only[go_sem,l9,B];refine eY (y n l fo _ out (i,true) I w s1) rfl (λ_ _ h=>h) ?_;rintro r H' ⟨rfl,rfl⟩ -;rw[PH.over_self _ (λ_ _ h=>h)];simp only[go_sem];exact aH (dW n (i,true),L,push j x (i,true)) ⟨g1,g2,g3,U⟩ aW Lq (λ_ _ h=>h)
   |false=>
    have e0:stI (i,false)=-1-(i:Int):=rfl;have hp:push j x (i,false)=x.set i (x.getD i 0-j):=rfl;have e2:eA n xs (i,false)=xs.getD i 0:=rfl;have ei:IntKind.i64.wrap (-1-(-1-(i:Int)))=(i:Int):=by rw[wrap_i64 Om Om];omega
    have ew:IntKind.i64.wrap (((x.getD i 0:Nat):Int)-((j:Nat):Int))=((x.getD i 0-j:Nat):Int):=by rw[wrap_i64 Om Om];omega
    simp only[go_sem,cU ε,l7,B,l8,e0,show ¬(-1-(i:Int))≥0 by omega,U4,ei,w,A,θ,kL ι,ew,IY,a4I];rw[←hp]
    first|rw[η]|rw[V]
    simp only[go_sem,l9,B,←e0];refine eY (y n l fo _ out (i,false) I w s1) rfl (λ_ _ h=>h) ?_;rintro r H' ⟨rfl,rfl⟩ -;rw[PH.over_self _ (λ_ _ h=>h)];simp only[go_sem];exact aH (dW n (i,false),L,push j x (i,false)) ⟨g1,g2,g3,U⟩ aW Lq (λ_ _ h=>h)
 ·have Y:¬(v:Int)=n.source:=Om;cases hB with
  |nil=>exact absurd rfl R
  |@cons _ L _ _ hB=>
  obtain⟨s1,s2,s3,s4,s5⟩:=hS.way v hv R;have B:=aNF (way:=way) σ hv R;have υ:=room_le I hx s1;simp only[go_sem,cU Y,alX,B];refine eY (Z n l fo xs out (way v) I w hx s1) rfl (λ_ _ h=>h) ?_;rintro r H' ⟨rfl,rfl⟩ -;rw[PH.over_self _ (λ_ _ h=>h)];have K:∀F:Int,0<F→F≤eA n xs (way v)→(∀s∈P,F≤eA n xs s)→dW n (way v)∈Q∧wH n Q way (dW n (way v)) L∧(P++[way v])++L=L0∧(P++[way v]=[]→F=-1)∧(P++[way v]≠[]→0<F∧F≤2147483647∧∀s∈P++[way v],F≤eA n xs s):=λF h0 h1 h2=>
   ⟨s4,hB,by rw[a5C];exact O,λh=>by simp at h,λ_=>⟨h0,by omega,λs M=>by
    rcases a5E.1 M with g|g
    ·exact h2 s g
    ·rw[a4X]at g;subst g;exact h1⟩⟩
  by_cases hP:P=[]
  ·have hz:=κ hP;subst hz;simp only[go_sem,c7,Ck,c8,B];refine eY (y n l fo xs out (way v) I w s1) rfl (λ_ _ h=>h) ?_;rintro r H' ⟨rfl,rfl⟩ -;rw[PH.over_self _ (λ_ _ h=>h)];simp only[go_sem];exact aH (dW n (way v),L,P++[way v],((eA n xs (way v):Nat):Int)) (K ((eA n xs (way v):Nat):Int) Om (Int.le_refl _) λs M=>by rw[hP]at M;cases M) aW Lq (λ_ _ h=>h)
  ·obtain⟨z0,z1,F⟩:=δ hP;have μ:¬z<0:=Om;by_cases ζ:((eA n xs (way v):Nat):Int)<z
   ·simp only[go_sem,c7,μ,ζ,Ck,c8,B];refine eY (y n l fo xs out (way v) I w s1) rfl (λ_ _ h=>h) ?_;rintro r H' ⟨rfl,rfl⟩ -;rw[PH.over_self _ (λ_ _ h=>h)];simp only[go_sem];exact aH (dW n (way v),L,P++[way v],((eA n xs (way v):Nat):Int)) (K ((eA n xs (way v):Nat):Int) Om (Int.le_refl _) λs M=>by have:=F s M;omega) aW Lq (λ_ _ h=>h)
   ·simp only[go_sem,c7,μ,ζ,c8,B];refine eY (y n l fo xs out (way v) I w s1) rfl (λ_ _ h=>h) ?_;rintro r H' ⟨rfl,rfl⟩ -;rw[PH.over_self _ (λ_ _ h=>h)];simp only[go_sem];exact aH (dW n (way v),L,P++[way v],z) (K z z0 Om F) aW Lq (λ_ _ h=>h)
theorem Ht:∀{l:List bR}{xs:List Nat}(a:bR)(x w:Nat),Z' l=Z' xs→hZ (l++[a]) (xs++[x]) w=hZ l xs w+(if a.src=w then(x:Int)else 0)-(if a.dst=w then(x:Int)else 0)
 |[],[],a,x,w,_=>by show(if a.src=w then(x:Int)else 0)-(if a.dst=w then(x:Int)else 0)+0=0+(if a.src=w then(x:Int)else 0)-(if a.dst=w then(x:Int)else 0);omega
 |b::l,y::xs,a,x,w,h=>by rw[a7L,a7L,hZ,hZ,Ht (l:=l) (xs:=xs) a x w (by simpa using h)];omega
def tD(n:cH)(xs:List Nat)(k w:Nat):Int:=hZ (n.arcs.take k) (xs.take k) w
def HD(n:cH)(xs:List Nat)(k:Nat):List Int:=(a3U n.nodes).map (tD n xs k)
theorem Hu{n:cH}{xs:List Nat}(l:pW n xs){k:Nat}(j:k<Z' n.arcs)(w:Nat):tD n xs (k+1) w=tD n xs k w+(if(bX n k).src=w then((xs.getD k 0:Nat):Int)else 0)-(if(bX n k).dst=w then((xs.getD k 0:Nat):Int)else 0):=by
 have e:k<Z' xs:=by rw[l.len];exact j
 unfold tD;rw[a5W j,a5W e,Ht _ _ _ (by rw[a4M,a4M,l.len]),nZ j];rw[a4D,a4C e];rfl
theorem RH{n:cH}(l:fD n){xs:List Nat}(j:pW n xs)(w:Nat):∀(k:Nat),k≤Z' n.arcs→-((k:Int)*2147483647)≤tD n xs k w∧tD n xs k w≤(k:Int)*2147483647
 |0,_=>by have:tD n xs 0 w=0:=rfl;omega
 |k+1,h=>by have x:=RH l j w k Om;have e:k<Z' n.arcs:=Om;have y:=j.le k e;have u:=(l.ends _ (a3Y e)).2.2;rw[nZ e]at u;rw[Hu j e w];split<;>split<;>omega
theorem aDT{C:Ctx}(hc:∀n:cH,fD n→aJ C 299 [.agg n.cells] .nil (aK (.bool true)))(n:cH)(M:fD n)(xs:List Nat)(hF:jM n xs) :
  LJ.wp C (aV Ya.res (aK (.tup [.int .i64 (kM n xs),.bool true]))) (PF.args [.agg n.cells,.sl 1 (fF xs)]) .nil:=by
 have N:=hF.in;have ο:=M.few;have hk:=M.num;have Z:(n.nodes:Int)*((8:Nat):Int)≤140737488355328:=Om;have β:(n.nodes:Int)≤9223372036854775807:=Om;have hl:(Z' xs:Int)=(Z' n.arcs:Nat):=by have:=N.len;omega
 have hz:a3W n.nodes [PV.int .i64 0]=cC (HD n xs 0):=by
  refine List.ext_getElem? λi=>?_;unfold cC HD;rw[a7V,a4Q,a4Q];by_cases l:i<n.nodes
  ·rw[aL l,a6K l];rfl
  ·rw[aG l,a5K (by simpa using l)];rfl
 simp only[go_sem,LJ,Ji,Ya,Jj];refine aB (hc n M) rfl ?_;simp only[go_sem,a3V,bW hl,Jk,Z,β];refine aQ λb hb=>?_;simp only[go_sem,Jl];rw[hz];refine wp_loop (α:=Nat) (λk=>((((PF.nil.set 1 (.sl 1 (fF xs))).set 2 (.bU n.cells)).set 6 (.osl b 1 0 n.nodes)).set 7 (.int .i64 (k:Nat)))) (λk=>PH.nil.set b (.rows 1 (cC (HD n xs k)))) (λk=>k≤Z' n.arcs) (λk=>Z' n.arcs-k) 0 (a4A _) Lq (λ_ _ h=>h) ?_;intro k O;simp only[go_sem,xy,Jm,a3V];by_cases hlt:k<Z' n.arcs
 ·have R:k<Z' xs:=by rw[N.len];exact hlt
  have E:(k:Int)<(Z' xs:Nat):=Om;obtain⟨e1,e2,e3⟩:=M.ends _ (a3Y hlt);rw[nZ hlt]at e1 e2 e3;have ε:=N.le k hlt;have S:¬((xs.getD k 0:Nat):Int)<0:=Om;have U:¬((xs.getD k 0:Nat):Int)>((bX n k).cap:Int):=Om;have V:(((bX n k).src:Nat):Int)<(n.nodes:Nat):=Om;have W:(((bX n k).dst:Nat):Int)<(n.nodes:Nat):=Om;simp only[go_sem,E,Jn,lD hlt];refine aQ λp hp=>?_;have F:¬p=b:=λe=>by rw[e,bT]at hp;cases hp
  have y:¬b=p:=λe=>F e.symm;simp only[go_sem,F,y];refine aZ .nil cI a_ ?_;simp only[go_sem,Jo,F,y,kL R,S,U];obtain⟨r1,r2⟩:=RH M N (bX n k).src k O;obtain⟨r3,r4⟩:=RH M N (bX n k).dst k O;have I:=Hu N hlt;have ξ:=ε;generalize μ:xs.getD k 0=x at *
  generalize ν:bX n k=a at *
  have A:∀(g:Nat→Int)(t:Nat),t<n.nodes→(cC ((a3U n.nodes).map g))[t]?=some [.int .i64 (g t)]:=λg t ht=>by unfold cC;rw[a4Q,a4Q,a6K ht];rfl
  let g1:Nat→Int:=λw=>tD n xs k w+(if a.src=w then(x:Int)else 0)
  have γ:g1 a.src=tD n xs k a.src+x:=by show _+(if a.src=a.src then(x:Int)else 0)=_;rw[aL rfl]
  have η:(cC (HD n xs k)).set a.src [.int .i64 (tD n xs k a.src+x)]=cC ((a3U n.nodes).map g1):=by rw[sQ];unfold HD;rw[qX (tD n xs k) g1 n.nodes a.src _ γ λv hv=>by show _+(if a.src=v then(x:Int)else 0)=_;rw[aG λe=>hv e.symm,Int.add_zero]]
  have θ:(cC ((a3U n.nodes).map g1)).set a.dst [.int .i64 (g1 a.dst-x)]=cC (HD n xs (k+1)):=by rw[sQ];unfold HD;rw[qX g1 (tD n xs (k+1)) n.nodes a.dst (g1 a.dst-x) (by rw[I,aL rfl]) λv hv=>by rw[I,aG (c:=a.dst=v) (λe=>hv e.symm),Int.sub_zero]]
  have X:(cC (HD n xs k))[a.src]?=some [.int .i64 (tD n xs k a.src)]:=A _ _ e1;have Y:(cC ((a3U n.nodes).map g1))[a.dst]?=some [.int .i64 (g1 a.dst)]:=A _ _ e2;have ρ:g1 a.dst=tD n xs k a.dst∨g1 a.dst=tD n xs k a.dst+x:=by
   show _+(if a.src=a.dst then(x:Int)else 0)=_∨_+(if a.src=a.dst then(x:Int)else 0)=_;split
   ·exact .inr rfl
   ·exact .inl (Int.add_zero _)
  have ι:IntKind.i64.wrap (tD n xs k a.src+(x:Int))=tD n xs k a.src+x:=wrap_i64 Om Om;have κ:IntKind.i64.wrap (g1 a.dst-(x:Int))=g1 a.dst-x:=wrap_i64 Om Om;have B:=wZz k;have J:=kL R;rw[μ]at J;generalize g1=g2 at *
  refine aZ .nil cI a_ ?_;simp only[go_sem,Jp,F,y,V,a4I,X,J,ι,η];refine⟨a_,?_⟩;refine aZ .nil cI a_ ?_;simp only[go_sem,x2,F,y,W,a4I,Y,J,κ,θ];refine⟨a_,?_⟩;simp only[go_sem,x3,B];exact aH (k+1) hlt Om Lq (e_ a_ (by rw[bT]))
 ·have E:¬(k:Int)<(Z' xs:Nat):=Om;have δ:k=Z' n.arcs:=Om;subst δ;simp only[go_sem,E,x4];have K:∀w,tD n xs n.arcs.length w=hZ n.arcs xs w:=λw=>by unfold tD;rw[a4N (a4B _),a4N (by rw[N.len];exact a4B _)]
  have A:∀t,t<n.nodes→(cC (HD n xs n.arcs.length))[t]?=some [.int .i64 (hZ n.arcs xs t)]:=λt ht=>by unfold cC HD;rw[a4Q,a4Q,a6K ht,←K];rfl
  refine wp_loop (α:=Nat) (λi=>((((PF.nil.set 1 (.sl 1 (fF xs))).set 2 (.bU n.cells)).set 6 (.osl b 1 0 n.nodes)).set 9 (.int .i64 (i:Nat)))) (λ_=>PH.nil.set b (.rows 1 (cC (HD n xs n.arcs.length)))) (λi=>i≤n.nodes) (λi=>n.nodes-i) 0 (a4A _) Lq (λ_ _ h=>h) ?_;intro i hi;simp only[go_sem,xz,x5];by_cases u:i<n.nodes
  ·have j:(i:Int)<(n.nodes:Nat):=Om;have B:=wZz i;by_cases S:i=n.source
   ·simp only[go_sem,j,EH,bW (Om:((i:Nat):Int)=n.source),EI,B];exact aH (i+1) u Om Lq (λ_ _ h=>h)
   ·by_cases U:i=n.sink
    ·simp only[go_sem,j,EH,cU (Om:¬((i:Nat):Int)=n.source),bW (Om:((i:Nat):Int)=n.sink),EI,B];exact aH (i+1) u Om Lq (λ_ _ h=>h)
    ·have h0:=A i u;rw[hF.node i u S U]at h0;simp only[go_sem,j,EH,cU (Om:¬((i:Nat):Int)=n.source),cU (Om:¬((i:Nat):Int)=n.sink),a4I,h0,EI,B];exact aH (i+1) u Om Lq (λ_ _ h=>h)
  ·have j:¬(i:Int)<(n.nodes:Nat):=Om;have hs:=M.source;have ζ:(n.source:Int)<(n.nodes:Nat):=Om;simp only[go_sem,j,x6,ζ,a4I,A n.source hs];refine aT (.inr rfl) rfl ?_;rfl
theorem wp_cut{C:Ctx}{a c:aC}{K:cP}[Up K]{F:PF}{H:PH}{α:Type}(u:α→PF)(Hs:α→PH)(P:α→Prop)(w:a.wp C (λe l H'=>e=.normal∧∃x,P x∧(u x).le l∧Hs x=H') F H)
  (y:∀x,P x→c.wp C K (u x) (Hs x)):a.wp C (kT C (c.wp C) K) F H:=by
 refine uB a (λe I J H' j B=>?_) (λi v h=>h) w;obtain⟨rfl,x,E,A,rfl⟩:=B;exact uB c (λe F l H a h=>Up.up a h) (PF.le_trans A j) (y x E)
def stO(m:Nat)(s:dB):Int:=if s.2=true then(s.1:Int)else((m+s.1:Nat):Int)
abbrev oX(fo:Nat)(xs:List Nat):PH:=PH.nil.set fo (.rows 1 (fF xs))
def aAQ(n:cH)(fo:Nat)(xs:List Nat)(r:PV)(H:PH):Prop:=
 ∃Q way,rA n xs Q way∧GF n xs Q Q.length∧r=.tup [.sl 1 (bC (seL n Q)),ints (byL (stO n.arcs.length) n Q way)]∧H=oX fo xs
theorem pY.new{n:cH}{xs:List Nat}{X:PH}{cd:dB→Int}{b e:Nat}{a:RS}(h:pY n xs X cd b e a){p:Nat}(w:a.H p=none)(y:cD):pY n xs X cd b e { a with H:=a.H.set p y }:=by
 have l:∀o x,a.H o=some x→(a.H.set p y) o=some x:=λo x j=>by rw[aU,aG (λu=>by subst u;rw[w]at j;cases j)];exact j
 exact⟨h.seen,h.done,h.dk,h.k,λo x j=>l o x (h.base o x j),l _ _ h.hb,l _ _ h.he,h.hq.ext λx A=>l _ x A,h.ne⟩
theorem pY.box{n:cH}{xs:List Nat}{X:PH}{cd:dB→Int}{b e:Nat}{a:RS}(h:pY n xs X cd b e a){p:Nat}(A:a.H p=none)(y:cD):pY n xs (X.set p y) cd b e { a with H:=a.H.set p y }:=by
 have u:∀o x,a.H o=some x→(a.H.set p y) o=some x:=λo x j=>by rw[aU,aG (λl=>by subst l;rw[A]at j;cases j)];exact j
 have hq:a.q≠p:=λl=>by obtain⟨rs,E,_,w,_⟩:=h.hq;rw[l,A]at w;cases w
 refine⟨h.seen,h.done,h.dk,h.k,λo x j=>?_,u _ _ h.hb,u _ _ h.he,h.hq.ext λx B=>u _ x B,?_,h.ne.2⟩
 ·show(a.H.set p y) o=some x;rw[aU]at j ⊢;by_cases l:o=p
  ·rw[aL l]at j ⊢;exact j
  ·rw[aG l]at j ⊢;exact h.base o x j
 ·rw[aU,aG hq];exact h.ne.1
theorem pY.unbox{n:cH}{xs:List Nat}{X:PH}{cd:dB→Int}{b e:Nat}{a:RS}{p:Nat}{y:cD}(h:pY n xs (X.set p y) cd b e a)(w:X p=none):pY n xs X cd b e a:=by
 have u:∀o x,X o=some x→(X.set p y) o=some x:=λo x j=>by rw[aU,aG (λl=>by subst l;rw[w]at j;cases j)];exact j
 refine⟨h.seen,h.done,h.dk,h.k,λo x j=>h.base o x (u o x j),h.hb,h.he,h.hq,?_,h.ne.2⟩;have:=h.ne.1;rw[aU]at this;split at this
 ·cases this
 ·exact this
theorem aRZ{C:Ctx}{a1 a2 c:aC}{K:cP}[Up K]{F:PF}{H:PH}{α:Type}(j:α→PF)(Hs:α→PH)(P:α→Prop)(u:a1.wp C (kT C (a2.wp C) (λe l H'=>e=.normal∧∃x,P x∧(j x).le l∧Hs x=H')) F H)
  (w:∀x,P x→c.wp C K (j x) (Hs x)):a1.wp C (kT C (a2.wp C) (kT C (c.wp C) K)) F H:=wp_cut (a:=.seq a1 a2) j Hs P u w
theorem aDN {C : Ctx} (n : cH) (hn : fD n) (fo : Nat) (xs : List Nat) (hx : pW n xs) :
    LF.wp C (aV X8.res (aAQ n fo xs)) (PF.args [.agg n.cells, .osl fo 1 0 xs.length]) (oX fo xs) := by
  have hfew := hn.few;have hsrc := hn.source;have hmany := hn.num;have hb1 : (n.nodes : Int) * ((8 : Nat) : Int) ≤ 140737488355328 := Om;have hb2 : (n.nodes : Int) ≤ 9223372036854775807 := Om;have hb3 : (n.nodes : Int) * ((1 : Nat) : Int) ≤ 140737488355328 := Om;have hs1 : (n.source : Int) < (n.nodes : Nat) := Om;simp only[go_sem,LF,Is,X8];refine aZ .nil cI a_ ?_;simp only[go_sem,It,hb1,hb2,hb3];refine aQ fun e he => ?_;have e1 : ¬ fo = e := fun e0 => by rw [← e0, bT] at he; cases he
  have e1' : ¬ e = fo := fun e0 => e1 e0.symm;simp only[go_sem,hb1,hb2,hb3];refine aQ fun b hb => ?_;have b1 : ¬ fo = b := fun e0 => by rw [← e0, aU, aG e1, bT] at hb; cases hb
  have b2 : ¬ e = b := fun e0 => by rw [← e0, bT] at hb; cases hb
  have b2' : ¬ b = e := fun e0 => b2 e0.symm;have hXb : (oX fo xs) b = none := by rw [aU, aG b2'] at hb; exact hb
  simp only[go_sem,Iu,b2,b2',hs1,a7V,a7J,hsrc,a4I,Iv];refine aQ fun q hq => ?_;have q3 : ¬ b = q := fun e0 => by rw [← e0, aU, aG b2', bT] at hq; cases hq
  have q4 : ¬ e = q := fun e0 => by rw [← e0, bT] at hq; cases hq
  have hXq : (oX fo xs) q = none := by rw [aU, aG (fun h => q4 h.symm), aU, aG (fun h => q3 h.symm), aU, aG (fun h => q4 h.symm)] at hq; exact hq
  have hfoX : (oX fo xs) fo = some (.rows 1 (fF xs)) := by rw [bT]
  simp only[go_sem];rw [O3 (stO n.arcs.length) n (fun _ => (0, true)), Z4];refine wp_loop (α := RS) (fun a => (((((PF.nil.set 1 (.osl fo 1 0 xs.length)).set 2 (.bU n.cells)).set 6 (.osl e 1 0 n.nodes)).set 7 (.osl b 1 0 n.nodes)).set 8 (a.v))) (fun a => a.H) (fun a => pY n xs (oX fo xs) (stO n.arcs.length) b e a ∧ a.d = a.k) (fun a => n.nodes - a.k)
    ⟨[n.source], 0, fun _ => (0, true), .osl q 1 0 1, q, ((((oX fo xs).set e (.rows 1 (a3W n.nodes [.bool false]))).set b (.rows 1 (cC (byL (stO n.arcs.length) n [n.source] (fun _ => (0, true)))))).set e (.rows 1 (bC (seL n [n.source])))).set q (.rows 1 [[.int .i64 (n.source : Nat)]]), 0⟩
    ⟨⟨ye hn xs _, Em n xs _, a4B _, a4A _, tB (tB (tB (tB (fun _ _ h => h) he) hXb) he) hXq,
      by rw [aU, aG q3, aU, aG b2', bT], by rw [aU, aG q4, bT], ⟨[[.int .i64 (n.source : Nat)]], 0, rfl, by rw [bT], by simp, rfl⟩, hXq, fun h => q3 h.symm, fun h => q4 h.symm⟩, rfl⟩ Lq (fun _ _ h => h) ?_
  rintro a ⟨hI, hdk⟩;obtain ⟨rs, off, hv, hq1, hq2, hq3⟩ := hI.hq;rw [a3V, a5M] at hv hq2 hq3;simp only[go_sem,xe,Iw,hv];by_cases hk : a.k < a.Q.length
  · have c0 : ((a.Q.length - a.k : Nat) : Int) > 0 := Om
    have hc0 : (0 : Int) < ((a.Q.length - a.k : Nat) : Int) := c0;have hc1 : (1 : Int) ≤ ((a.Q.length - a.k : Nat) : Int) := Om;have hrs : rs[off]? = some [.int .i64 ((a.Q[a.k] : Nat) : Int)] := by
      have h5 : ((rs.drop off).take (a.Q.length - a.k))[0]? = (fF (a.Q.drop a.k))[0]? := by rw [hq3]
      rw [a6S, aL Om, a7I, a5H, a4Q, a7I, a5H, a4C hk] at h5;exact h5
    simp only[go_sem,c0,Ix,hc0,hq1,a5H,hrs,Iy,hc1,Int.le_refl,Iz];have hkn := HI hI.seen;have hI0 : pY n xs (oX fo xs) (stO n.arcs.length) b e ⟨a.Q, a.k + 1, a.way, .osl a.q 1 (off + 1) (a.Q.length - a.k - 1), a.q, a.H, a.d⟩ := by
      have hfl : (fF (a.Q.drop (a.k + 1))).length = a.Q.length - a.k - 1 := by rw [a3V, a5M, Nat.sub_sub]
      refine ⟨hI.seen, hI.done, Nat.le_succ_of_le hI.dk, hk, hI.base, hI.hb, hI.he, ⟨rs, off + 1, by rw [hfl], hq1, by rw [hfl]; omega, ?_⟩, hI.ne⟩;rw [hfl];have h7 := congrArg (List.drop 1) hq3;rw [List.drop_take, List.drop_drop] at h7;rw [h7];show List.drop 1 (List.map _ _) = _;rw [← List.map_drop, List.drop_drop]
    refine wp_loop (α := RS × Nat) (fun c => (((((((PF.nil.set 1 (.osl fo 1 0 xs.length)).set 2 (.bU n.cells)).set 6 (.osl e 1 0 n.nodes)).set 7 (.osl b 1 0 n.nodes)).set 8 (c.1.v)).set 9 (.int .i64 ((a.Q[a.k] : Nat) : Int))).set 10 (.int .i64 (c.2 : Nat)))) (fun c => c.1.H)
      (fun c => pY n xs (oX fo xs) (stO n.arcs.length) b e c.1 ∧ c.1.d = a.k ∧ c.1.k = a.k + 1 ∧ c.1.Q[a.k]? = some a.Q[a.k] ∧ c.2 ≤ n.arcs.length ∧ ∀ s : dB, s.1 < c.2 → dW n s = a.Q[a.k] → 0 < eA n xs s → gG n s ∈ c.1.Q) (fun c => n.arcs.length - c.2) (⟨a.Q, a.k + 1, a.way, .osl a.q 1 (off + 1) (a.Q.length - a.k - 1), a.q, a.H, a.d⟩, 0)
      ⟨hI0, hdk, rfl, a4C hk, a4A _, fun s h => by omega⟩ Lq (fun _ _ h => h) ?_
    rintro ⟨a', j⟩ ⟨hI', hd', hk', hQk, hj, a3N⟩;dsimp only at hI' hd' hk' hQk hj a3N;simp only[go_sem,xd,I0,a3V];by_cases hlt : j < n.arcs.length
    · have a2N : (j : Int) < (n.arcs.length : Nat) := Om
      have hjx : j < xs.length := by rw [hx.len]; exact hlt
      have hjx' : (j : Int) < (xs.length : Nat) := Om;have hm := hn.num;obtain ⟨z1, z2, z3⟩ := hn.ends _ (a3Y hlt);rw [nZ hlt] at z1 z2 z3;have z1' : (((bX n j).src : Nat) : Int) < (n.nodes : Nat) := Om;have z2' : (((bX n j).dst : Nat) : Int) < (n.nodes : Nat) := Om;have hxle := hx.le j hlt;have hjw := wZz j;have hmw : IntKind.i64.wrap ((n.arcs.length : Int) + (j : Int)) = ((n.arcs.length + j : Nat) : Int) := by rw [wrap_i64 Om Om]; omega
      have hwQ : a.Q[a.k] ∈ a'.Q := a5S hQk;simp only[go_sem,a2N,I1,lD hlt];refine aQ fun p hp => ?_;have hXp : (oX fo xs) p = none := by
        cases hxp : (oX fo xs) p with
        | none => rfl
        | some y => rw [hI'.base _ _ hxp] at hp; cases hp
      have p1 : ¬ p = fo := fun e0 => by rw [e0, hfoX] at hXp; cases hXp
      have p1' : ¬ fo = p := fun e0 => p1 e0.symm;have p2 : ¬ p = e := fun e0 => by rw [e0, hI'.he] at hp; cases hp
      have p2' : ¬ e = p := fun e0 => p2 e0.symm;have p3 : ¬ p = b := fun e0 => by rw [e0, hI'.hb] at hp; cases hp
      have p3' : ¬ b = p := fun e0 => p3 e0.symm;simp only[go_sem];have hI1 := hI'.box hp (.rows 4 [(bX n j).cells]);have hQk1 : ({ a' with H := a'.H.set p (.rows 4 [(bX n j).cells]) } : RS).Q[a.k]? = some a.Q[a.k] := hQk;have hd1 : ({ a' with H := a'.H.set p (.rows 4 [(bX n j).cells]) } : RS).d = a.k := hd';have hk1 : ({ a' with H := a'.H.set p (.rows 4 [(bX n j).cells]) } : RS).k = a.k + 1 := hk';have hX1 : ((oX fo xs).set p (.rows 4 [(bX n j).cells])) b = none ∧ ((oX fo xs).set p (.rows 4 [(bX n j).cells])) e = none ∧ ¬ b = e := ⟨by rw [aU, aG p3']; exact hXb, by rw [aU, aG p2']; exact he, b2'⟩;have hQs : ∀ Q : List Nat, Q[a.k]? = some a.Q[a.k] → ∀ t, (Q ++ [t])[a.k]? = some a.Q[a.k] := fun Q h t => by obtain ⟨l1, l2⟩ := a5A.1 h;rw [a5U l1]; exact h
      have hsrcQ : ∀ c : RS, pY n xs ((oX fo xs).set p (.rows 4 [(bX n j).cells])) (stO n.arcs.length) b e c → n.source ∈ c.Q := fun c h => by obtain ⟨t, ht⟩ := h.seen.first; rw [ht]; simp
      refine aRZ (α := RS) (fun c => ((((((((PF.nil.set 1 (.osl fo 1 0 xs.length)).set 2 (.bU n.cells)).set 6 (.osl e 1 0 n.nodes)).set 7 (.osl b 1 0 n.nodes)).set 8 (c.v)).set 9 (.int .i64 ((a.Q[a.k] : Nat) : Int))).set 10 (.int .i64 (j : Nat))).set 11 (.ptr p 4 0 0))) (fun c => c.H)
        (fun c => pY n xs ((oX fo xs).set p (.rows 4 [(bX n j).cells])) (stO n.arcs.length) b e c ∧ c.d = a.k ∧ c.k = a.k + 1 ∧ c.Q[a.k]? = some a.Q[a.k] ∧ (∀ v ∈ a'.Q, v ∈ c.Q) ∧ ((bX n j).src = a.Q[a.k] → xs.getD j 0 < (bX n j).cap → (bX n j).dst ∈ c.Q)) ?_ ?_
      · have hel : (bX n j).dst < (seL n a'.Q).length := by rw [BC]; exact z2
        have hbl : (bX n j).dst < (byL (stO n.arcs.length) n a'.Q a'.way).length := by rw [NE]; exact z2
        have hbr := fA hel;rw [NX z2] at hbr;have hir := AS hbl;by_cases c1 : (bX n j).src = a.Q[a.k]
        · have c1' : ((((bX n j).src : Nat) : Int) == ((a.Q[a.k] : Nat) : Int)) = true := cA Om
          cases hc : a'.Q.contains (bX n j).dst with
          | true =>rw [hc] at hbr;refine aZ .nil cI a_ ?_;simp only[go_sem,zL,c1',p2,p2',z2',hI'.he,a4I,hbr];exact ⟨_, ⟨hI1, hd1, hk1, hQk1, fun _ h => h, fun _ _ => a7T.1 hc⟩, by exact Lq, rfl⟩
          | false =>
            rw [hc] at hbr;have hnin : (bX n j).dst ∉ a'.Q := fun h => by rw [a7T.2 h] at hc; cases hc
            by_cases c3 : xs.getD j 0 < (bX n j).cap
            · have c3' : ((xs.getD j 0 : Nat) : Int) < ((bX n j).cap : Int) := Om
              have hs1 : (cC (byL (stO n.arcs.length) n a'.Q a'.way)).set (bX n j).dst [.int .i64 (j : Int)] = cC (byL (stO n.arcs.length) n (a'.Q ++ [(bX n j).dst]) (HR a'.way (bX n j).dst (j, true))) := by rw [sQ]; exact congrArg cC (Bp (s := (j, true)) (by obtain ⟨t, ht⟩ := hI'.seen.first; rw [ht]; simp) hnin)
              refine aZ .nil cI a_ ?_;simp only[go_sem,zL,c1',p2,p2',z2',hI'.he,a4I,hbr,p1,p1',hI'.base _ _ hfoX,hjx',kL hjx,c3'];refine aZ (PH.nil.set p (.rows 4 [(bX n j).cells])) cI (e_ a_ (by rw [bT])) ?_;simp only[go_sem,xf,p2,p2',z2',hI'.he,a4I,hbr];refine ⟨e_ a_ (by rw [aU, aG p2, bT]), ?_⟩;refine aZ .nil cI a_ ?_;simp only[go_sem,xg,b2,b2',p3,p3',hI'.hb,a4I,hir,hs1,jN,Ds];refine ⟨a_, ?_⟩;simp only[go_sem,xh,p2,p2',p3,p3'];refine pY.step hn hI1 hX1 (s := (j, true)) hlt (by rw [show dW n (j, true) = (bX n j).src from rfl, c1]; exact hwQ) hnin (by show 0 < (bX n j).cap - xs.getD j 0; omega) fun a2 g1 g2 g3 g4 => ?_;exact ⟨a2, ⟨g1, g4.trans hd', g3.trans hk', by rw [g2]; exact hQs _ hQk _, fun v h => by rw [g2]; exact a7K _ h, fun _ _ => by rw [g2]; exact List.mem_append_right _ (a4X.2 rfl)⟩, by exact Lq, rfl⟩
            · have c3' : ¬ ((xs.getD j 0 : Nat) : Int) < ((bX n j).cap : Int) := Om
              refine aZ .nil cI a_ ?_;simp only[go_sem,zL,c1',p2,p2',z2',hI'.he,a4I,hbr,p1,p1',hI'.base _ _ hfoX,hjx',kL hjx,c3'];exact ⟨_, ⟨hI1, hd1, hk1, hQk1, fun _ h => h, fun _ h => absurd h c3⟩, by exact Lq, rfl⟩
        · have c1' : ((((bX n j).src : Nat) : Int) == ((a.Q[a.k] : Nat) : Int)) = false := bJ Om
          refine aZ .nil cI a_ ?_;simp only[go_sem,zL,c1'];exact ⟨_, ⟨hI1, hd1, hk1, hQk1, fun _ h => h, fun h => absurd h c1⟩, by exact Lq, rfl⟩
      · rintro a2 ⟨hI2, hd2, hk2, hQk2, hup, hf⟩
        have hpp : a2.H p = some (.rows 4 [(bX n j).cells]) := hI2.base _ _ (by rw [bT]);have hfo2 : a2.H fo = some (.rows 1 (fF xs)) := hI2.base _ _ (by rw [aU, aG p1']; exact hfoX);have hel : (bX n j).src < (seL n a2.Q).length := by rw [BC]; exact z1
        have hbl : (bX n j).src < (byL (stO n.arcs.length) n a2.Q a2.way).length := by rw [NE]; exact z1
        have hbr := fA hel;rw [NX z1] at hbr;have hir := AS hbl;have hend : ∀ c : RS, pY n xs ((oX fo xs).set p (.rows 4 [(bX n j).cells])) (stO n.arcs.length) b e c → (∀ v ∈ a2.Q, v ∈ c.Q) → ((bX n j).dst = a.Q[a.k] → 0 < xs.getD j 0 → (bX n j).src ∈ c.Q) → ∀ s : dB, s.1 < j + 1 → dW n s = a.Q[a.k] → 0 < eA n xs s → gG n s ∈ c.Q := fun c _ g2 g3 s g4 g5 g6 => by
          rcases a4R s.1 j with h | h
          · exact g2 _ (hup _ (a3N s h g5 g6))
          · obtain ⟨i, bb⟩ := s
            have hij : i = j := by have : i < j + 1 := g4; have : j ≤ i := h; omega
            subst hij;cases bb with
            | true => exact g2 _ (hf g5 (by have : 0 < (bX n i).cap - xs.getD i 0 := g6; omega))
            | false => exact g3 g5 g6
        by_cases c1 : (bX n j).dst = a.Q[a.k]
        · have c1' : ((((bX n j).dst : Nat) : Int) == ((a.Q[a.k] : Nat) : Int)) = true := cA Om
          cases hc : a2.Q.contains (bX n j).src with
          | true =>rw [hc] at hbr;simp only[go_sem,zM,c1',hpp,z1',hI2.he,a4I,hbr,zN,hjw];exact aH (a2, j + 1) ⟨hI2.unbox hXp, hd2, hk2, hQk2, hlt, hend a2 hI2 (fun _ h => h) fun _ _ => a7T.1 hc⟩ (by dsimp only; omega) Lq (fun _ _ h => h)
          | false =>
            rw [hc] at hbr;have hnin : (bX n j).src ∉ a2.Q := fun h => by rw [a7T.2 h] at hc; cases hc
            by_cases c3 : 0 < xs.getD j 0
            · have c3' : ((xs.getD j 0 : Nat) : Int) > 0 := Om
              have hs1 : (cC (byL (stO n.arcs.length) n a2.Q a2.way)).set (bX n j).src [.int .i64 ((n.arcs.length + j : Nat) : Int)] = cC (byL (stO n.arcs.length) n (a2.Q ++ [(bX n j).src]) (HR a2.way (bX n j).src (j, false))) := by rw [sQ]; exact congrArg cC (Bp (s := (j, false)) (hsrcQ _ hI2) hnin)
              simp only[go_sem,zM,c1',hpp,z1',hI2.he,a4I,hbr,hfo2,hjx',kL hjx,c3'];refine aZ (PH.nil.set p (.rows 4 [(bX n j).cells])) cI (e_ a_ hpp) ?_;simp only[go_sem,xi,p2,p2',hpp,z1',hI2.he,a4I,hbr,a3V,hmw];refine ⟨e_ a_ (by rw [aU, aG p2]; exact hpp), ?_⟩;refine aZ .nil cI a_ ?_;simp only[go_sem,xj,b2,b2',p3,p3',hI2.hb,a4I,hir,hs1,jN,Ds];refine ⟨a_, ?_⟩;simp only[go_sem,xk,p2,p2',p3,p3',hpp];refine pY.step hn hI2 hX1 (s := (j, false)) hlt (by rw [show dW n (j, false) = (bX n j).dst from rfl, c1]; exact a5S hQk2) hnin c3 fun a3 g1 g2 g3 g4 => ?_;simp only[go_sem,zN,hjw];exact aH (a3, j + 1) ⟨g1.unbox hXp, g4.trans hd2, g3.trans hk2, by rw [g2]; exact hQs _ hQk2 _, hlt, hend a3 g1 (fun v h => by rw [g2]; exact a7K _ h) fun _ _ => by rw [g2]; exact List.mem_append_right _ (a4X.2 rfl)⟩ (by dsimp only; omega) Lq (fun _ _ h => h)
            · have c3' : ¬ ((xs.getD j 0 : Nat) : Int) > 0 := Om
              simp only[go_sem,zM,c1',hpp,z1',hI2.he,a4I,hbr,hfo2,hjx',kL hjx,c3',zN,hjw];exact aH (a2, j + 1) ⟨hI2.unbox hXp, hd2, hk2, hQk2, hlt, hend a2 hI2 (fun _ h => h) fun _ h => absurd h c3⟩ (by dsimp only; omega) Lq (fun _ _ h => h)
        · have c1' : ((((bX n j).dst : Nat) : Int) == ((a.Q[a.k] : Nat) : Int)) = false := bJ Om
          simp only[go_sem,zM,c1',hpp,zN,hjw];exact aH (a2, j + 1) ⟨hI2.unbox hXp, hd2, hk2, hQk2, hlt, hend a2 hI2 (fun _ h => h) fun h => absurd h c1⟩ (by dsimp only; omega) Lq (fun _ _ h => h)
    · have a2N : ¬ (j : Int) < (n.arcs.length : Nat) := Om
      have hdn : GF n xs a'.Q (a.k + 1) := El (by rw [← hd']; exact hI'.done) hQk fun s g1 g2 g3 => a3N s Om g2 g3;have hsl := HI hI'.seen;obtain ⟨l1, l2⟩ := a5A.1 hQk;simp only[go_sem,a2N];exact aH { a' with d := a.k + 1 } ⟨⟨hI'.seen, hdn, by show a.k + 1 ≤ a'.k; omega, hI'.k, hI'.base, hI'.hb, hI'.he, hI'.hq, hI'.ne⟩, hk'.symm⟩ (by show n.nodes - a'.k < n.nodes - a.k; omega) Lq (fun _ _ h => h)
  · have c0 : ¬ ((a.Q.length - a.k : Nat) : Int) > 0 := Om
    have hkk : a.k = a.Q.length := by have := hI.k; omega
    simp only[go_sem,c0,xl];refine oA (vs := [.osl e 1 0 n.nodes, .osl b 1 0 n.nodes]) (.inr rfl) rfl ?_;refine E9 (H2 := oX fo xs) hI.he hI.hb b2' (Flat.map _ fun x c hc q s rs => by rw [a4X] at hc; subst hc; rfl) (by rw [hJ, BC]) (by unfold cC; rw [a3V, NE]) ?_ ⟨a.Q, a.way, hI.seen, by rw [← hkk, ← hdk]; exact hI.done, rfl, rfl⟩;have flx : Flat (fF xs) := Flat.map xs fun x c hc q s rs => by rw [a4X] at hc;subst hc;rfl
    exact e_ a_ (xK (xK (hI.base _ _ hfoX) e1 (xJ flx 1)) b1 (xJ flx 1))
theorem aAU{cd:dB→Int}{n:cH}{Q:List Nat}{way:Nat→dB}{v:Nat}(h:v<n.nodes)(j:v∈Q)(e:v≠n.source):((byL cd n Q way).map λx=>[PV.int .i64 x])[v]?=some [.int .i64 (cd (way v))]:=by
 unfold byL;rw[a4Q,a4Q,a6K h,a5B,a5B,aL ⟨j,e⟩]
def VR(n:cH)(r:PV)(H:PH):Prop:=
 ∃xs S,jM n xs∧kM n xs=eD S n.arcs∧S n.source=true∧S n.sink=false∧r=.tup [.sl 1 (fF xs),.int .i64 (kM n xs),.sl 1 (bC ((a3U n.nodes).map S)),.int .i64 0]∧H=PH.nil
def avF(n:cH):Nat:=eD (λv=>decide (v=n.source)) n.arcs
theorem adA{n:cH}(j:fD n){xs:List Nat}(h:jM n xs):kM n xs≤avF n:=h.aCB j aW (by simpa using λe=>j.apart e.symm)
theorem EL(m:Nat):a3W m [PV.int .i64 0]=fF (a3W m 0):=by
 show _=List.map _ (a3W m 0);rw[List.map_replicate];rfl
theorem aDO{C:Ctx}(S:∀n:cH,fD n→aJ C 299 [.agg n.cells] .nil (aK (.bool true)))
  (U:∀(n:cH)(xs:List Nat),fD n→jM n xs→aJ C 300 [.agg n.cells,.sl 1 (fF xs)] .nil (aK (.tup [.int .i64 (kM n xs),.bool true])))
  (O:∀(n:cH)(fo:Nat)(xs:List Nat),fD n→pW n xs→aJ C 302 [.agg n.cells,.osl fo 1 0 n.arcs.length] (oX fo xs) (aAQ n fo xs))
  (n:cH) (x:fD n):LG.wp C (aV YS.res (VR n)) (PF.args [.agg n.cells]) .nil:=by
 have hm:=x.num;have ο:(Z' n.arcs:Int)*((8:Nat):Int)≤140737488355328:=Om;have ρ:(Z' n.arcs:Int)≤9223372036854775807:=Om;have Θ:(n.sink:Int)<(n.nodes:Nat):=by have:=x.sink;omega
 simp only[go_sem,LG,I2,YS,I3];refine aB (S n x) rfl ?_;simp only[go_sem,I4,a3V,ο,ρ];refine aQ λfo ω=>?_;simp only[go_sem];rw[EL];refine wp_loop (α:=List Nat) (λ_=>((PF.nil.set 1 (.bU n.cells)).set 6 (.osl fo 1 0 n.arcs.length))) (λxs=>oX fo xs) (λxs=>jM n xs) (λxs=>(avF n-kM n xs).toNat) (a3W n.arcs.length 0) (IE n).1 Lq (λ_ _ h=>h) ?_;intro xs Z;have hx:=Z.in;have κ:=Z.len;simp only[go_sem,xo,I5];refine eY (O n fo xs x hx) rfl (λ_ _ h=>h) ?_;rintro r H' ⟨Q,way,W,hD,rfl,rfl⟩ -;rw[PH.over_self _ (λ_ _ h=>h)];have I:=fA (R:=seL n Q) (i:=n.sink) (by rw[BC];exact x.sink);rw[NX x.sink]at I;cases hc:Q.contains n.sink with
 |false=>
  rw[hc]at I;simp only[go_sem,YT,I,I6];have ι:n.sink ∉ Q:=λh=>by rw[a7T.2 h]at hc;cases hc
  have hT:(fF xs).take n.arcs.length=fF xs:=a4N (by rw[a3V,κ];exact a4B _);have θ:Z' n.arcs≤Z' xs:=Om;refine tX (o:=fo) (s:=1) (rs:=fF xs) (U n xs x Z) Sq (by simp only[go_sem,hT,θ];rfl) ?_;simp only[go_sem,I7,hT,θ];refine bD (vs:=[.sl 1 (fF xs),.int .i64 (kM n xs),.sl 1 (bC (seL n Q)),.int .i64 0]) (.inr rfl) .nil rfl a_ ⟨xs,λv=>Q.contains v,Z,Z6 x Z W hD ι,?_,hc,rfl,rfl⟩;obtain⟨t,ht⟩:=W.first;rw[ht];simp
 |true=>
  rw[hc]at I;have J:n.sink∈Q:=a7T.1 hc;simp only[go_sem,YT,I,I8,I9];obtain⟨L0,ζ,-⟩:=Eg W _ n.sink rfl J;refine wp_loop (α:=Nat × List dB × List dB × Int) (λc=>(((((PF.nil.set 1 (.bU n.cells)).set 6 (.osl fo 1 0 n.arcs.length)).set 8 (ints (byL (stO n.arcs.length) n Q way))).set 11 (.int .i64 c.2.2.2)).set 12 (.int .i64 (c.1:Nat)))) (λ_=>oX fo xs)
   (λc=>c.1∈Q∧wH n Q way c.1 c.2.1∧c.2.2.1++c.2.1=L0∧0<c.2.2.2∧c.2.2.2≤2147483647∧∀s∈c.2.2.1,c.2.2.2≤eA n xs s) (λc=>c.2.1.length) (n.sink,L0,[],2147483647)
   ⟨J,ζ,rfl,(show(0:Int)<2147483647 by decide),(show(2147483647:Int)≤2147483647 by decide),λs h=>by cases h⟩ Lq (λ_ _ h=>h) ?_
  rintro⟨v,L,P,z⟩ ⟨hv,hB,M,δ,φ,ε⟩;dsimp only at hv hB M δ φ ε;have υ:=W.lt v hv;have Ξ:(v:Int)<(n.nodes:Nat):=Om;simp only[go_sem,xm,xp];by_cases V:v=n.source
  ·have hL:L=[]:=by
    cases hB with
    |nil=>rfl
    |cons _ h _=>exact absurd V h
   subst hL;rw[a5O]at M;subst M;have N:(v:Int)=n.source:=Om;obtain⟨e,rfl⟩:∃e:Nat,z=e:=⟨z.toNat,by omega⟩;simp only[go_sem,bW N,xq];refine wp_loop (α:=Nat × List dB × List Nat) (λc=>(((((PF.nil.set 1 (.bU n.cells)).set 6 (.osl fo 1 0 n.arcs.length)).set 8 (ints (byL (stO n.arcs.length) n Q way))).set 11 (.int .i64 (e:Nat))).set 14 (.int .i64 (c.1:Nat)))) (λc=>oX fo c.2.2)
    (λc=>c.1∈Q∧wH n Q way c.1 c.2.1∧ca n xs c.2.2 e c.1 c.2.1∧∀s∈c.2.1,e≤eA n xs s) (λc=>c.2.1.length) (n.sink,P,xs)
    ⟨J,ζ,Gw Z e P,λs hs=>by have:=ε s hs;omega⟩ Lq (λ_ _ h=>h) ?_
   rintro⟨u,L,A⟩ ⟨hu,E,hM,l⟩;dsimp only at hu E hM l;simp only[go_sem,xn,xr];have τ:=W.lt u hu;have Λ:(u:Int)<(n.nodes:Nat):=Om;by_cases K:u=n.source
   ·have hL:L=[]:=by
     cases E with
     |nil=>rfl
     |cons _ h _=>exact absurd K h
    subst hL;subst K;obtain⟨k1,k2⟩:=Vq x Z hM;have ψ:=adA x k1;simp only[go_sem,bW (show(n.source:Int)=n.source from rfl)];exact aH A k1 Om Lq (λ_ _ h=>h)
   ·have η:¬(u:Int)=n.source:=Om;have ξ:=E;cases E with
    |nil=>exact absurd rfl K
    |@cons _ L _ _ E=>
    have σ:=l _ (List.mem_cons_self ..);obtain⟨g1,g2,g3⟩:=Vs W hM ξ hu σ;obtain⟨s1,s2,s3,s4,s5⟩:=W.way u hu K;have γ:=hM.same _ (List.mem_cons_self ..);have F:=aAU (cd:=stO n.arcs.length) (way:=way) τ hu K;generalize hs:way u=s at *
    obtain⟨i,bb⟩:=s;have s1:i<Z' n.arcs:=s1;have ν:i<Z' A:=by rw[hM.len];exact s1
    have μ:(i:Int)<(Z' n.arcs:Nat):=Om;have χ:=room_le x hx (s:=(i,bb)) s1;have B:=hx.le i s1;have j:=(x.ends _ (a3Y s1)).2.2;rw[nZ s1]at j;dsimp only at γ;have X:∀s∈L,e≤eA n xs s:=λs hs=>l s (a7B _ hs);cases bb with
    |true=>
     have Y:stO n.arcs.length (i,true)=(i:Int):=rfl;have hp:push e A (i,true)=A.set i (A.getD i 0+e):=rfl;have e2:eA n xs (i,true)=(bX n i).cap-xs.getD i 0:=rfl;have ew:IntKind.i64.wrap (((A.getD i 0:Nat):Int)+((e:Nat):Int))=((A.getD i 0+e:Nat):Int):=by rw[wrap_i64 Om Om];omega
     simp only[go_sem,cU η,RZ,F,Y,SA,a3V,μ,xt,kL ν,a4I,ew,IY,PH.set_set,xu,lD s1];rw[←hp];exact aH (dW n (i,true),L,push e A (i,true)) ⟨g1,g2,g3,X⟩ aW Lq (λ_ _ h=>h)
    |false=>
     have Y:stO n.arcs.length (i,false)=((Z' n.arcs+i:Nat):Int):=rfl;have hp:push e A (i,false)=A.set i (A.getD i 0-e):=rfl;have e2:eA n xs (i,false)=xs.getD i 0:=rfl;have β:¬((Z' n.arcs+i:Nat):Int)<(Z' n.arcs:Nat):=Om;have ei:IntKind.i64.wrap (((Z' n.arcs+i:Nat):Int)-(Z' n.arcs:Int))=(i:Int):=by rw[wrap_i64 Om Om];omega
     have ew:IntKind.i64.wrap (((A.getD i 0:Nat):Int)-((e:Nat):Int))=((A.getD i 0-e:Nat):Int):=by rw[wrap_i64 Om Om];omega
     simp only[go_sem,cU η,RZ,F,Y,SA,a3V,β];refine aZ .nil cI a_ ?_;simp only[go_sem,xv,a3V,ei,μ,kL ν,a4I,ew,IY,PH.set_set];rw[←hp];refine⟨a_,?_⟩;simp only[go_sem,xw,a3V,ei,lD s1];exact aH (dW n (i,false),L,push e A (i,false)) ⟨g1,g2,g3,X⟩ aW Lq (λ_ _ h=>h)
  ·have N:¬(v:Int)=n.source:=Om;cases hB with
   |nil=>exact absurd rfl V
   |@cons _ L _ _ hB=>
   obtain⟨s1,s2,s3,s4,s5⟩:=W.way v hv V;have F:=aAU (cd:=stO n.arcs.length) (way:=way) υ hv V;have Δ:=room_le x hx s1;have w:∀z2:Int,0<z2→z2≤z→z2≤eA n xs (way v)→dW n (way v)∈Q∧wH n Q way (dW n (way v)) L∧(P++[way v])++L=L0∧0<z2∧z2≤2147483647∧∀s∈P++[way v],z2≤eA n xs s:=λz2 h0 h1 h2=>
    ⟨s4,hB,by rw[a5C];exact M,h0,by omega,λs hs=>by
     rcases a5E.1 hs with g|g
     ·have:=ε s g;omega
     ·rw[a4X]at g;subst g;exact h2⟩
   generalize hs:way v=s at *
   obtain⟨i,bb⟩:=s;have s1:i<Z' n.arcs:=s1;have y:i<Z' xs:=by rw[κ];exact s1
   have B:(i:Int)<(Z' n.arcs:Nat):=Om;have Γ:=hx.le i s1;have j:=(x.ends _ (a3Y s1)).2.2;rw[nZ s1]at j;cases bb with
   |true=>
    have Y:stO n.arcs.length (i,true)=(i:Int):=rfl;have e2:eA n xs (i,true)=(bX n i).cap-xs.getD i 0:=rfl;have ew:IntKind.i64.wrap (((bX n i).cap:Int)-((xs.getD i 0:Nat):Int))=((eA n xs (i,true):Nat):Int):=by rw[wrap_i64 Om Om,e2];omega
    simp only[go_sem,cU N,RV,F,Y,RW,a3V,B];refine aZ .nil cI a_ ?_;by_cases hlt:((eA n xs (i,true):Nat):Int)<z
    ·simp only[go_sem,RX,lD s1,B,kL y,a4I,ew,hlt];exact aH (dW n (i,true),L,P++[(i,true)],((eA n xs (i,true):Nat):Int)) (w ((eA n xs (i,true):Nat):Int) Om Om (Int.le_refl _)) aW Lq (λ_ _ h=>h)
    ·simp only[go_sem,RX,lD s1,B,kL y,a4I,ew,hlt];exact aH (dW n (i,true),L,P++[(i,true)],z) (w z δ (Int.le_refl _) Om) aW Lq (λ_ _ h=>h)
   |false=>
    have Y:stO n.arcs.length (i,false)=((Z' n.arcs+i:Nat):Int):=rfl;have e2:eA n xs (i,false)=xs.getD i 0:=rfl;have β:¬((Z' n.arcs+i:Nat):Int)<(Z' n.arcs:Nat):=Om;have ei:IntKind.i64.wrap (((Z' n.arcs+i:Nat):Int)-(Z' n.arcs:Int))=(i:Int):=by rw[wrap_i64 Om Om];omega
    simp only[go_sem,cU N,RV,F,Y,RW,a3V,β];refine aZ .nil cI a_ ?_;by_cases hlt:((xs.getD i 0:Nat):Int)<z
    ·simp only[go_sem,RY,a3V,ei,lD s1,B,kL y,a4I,hlt];exact aH (dW n (i,false),L,P++[(i,false)],((xs.getD i 0:Nat):Int)) (w ((xs.getD i 0:Nat):Int) Om Om (Int.le_refl _)) aW Lq (λ_ _ h=>h)
    ·simp only[go_sem,RY,a3V,ei,lD s1,B,kL y,a4I,hlt];exact aH (dW n (i,false),L,P++[(i,false)],z) (w z δ (Int.le_refl _) Om) aW Lq (λ_ _ h=>h)
theorem nj:∀(ps:WPs){H:PH}{B:List BX}{J:PV}(y:List (List PV)) (l:List (List Int)),pE y l→aN H B ((J,1,y++eE ps)::jK ps)→(∀b∈B,∀q∈eR (jK ps),∀s rs,cD.frz q s rs b.2=b.2) →
  ∃(φ:PV→PV)(I:PH)(A:List (List PV)),pE A (l++wls ps)∧aN I B [(J,1,A)]∧(∀u,Fx u→φ u=u)∧∀F,lN F H (MJ φ F) I
 |[],H,B,J,y,l,K,h,_=>⟨id,H,y,by rw[show wls []=[]from rfl,a5O];exact K,by rw[show y++eE []=y from a5O _]at h;exact h,λ_ _=>rfl,λF=>by
   have:MJ id F=F:=funext λi=>by rw[wE,Option.map_id];rfl
   rw[this];exact .refl _ _⟩
 |(v,w)::ps,H,B,J,y,l,K,h,hB=>by
  have eo:∀u:PV,y++[[u]]++eE ps=y++[u]::eE ps:=λu=>by rw[a5C];rfl
  have S:l++[w]++wls ps=l++wls ((v,w)::ps):=by rw[a5C];rfl
  have ho:cZ H 1 v (cC w):=h.own 1 rfl;have E:∀q,q∈eR (jK ps)→q∈eR (jK ((v,w)::ps)):=λq hq=>by obtain⟨x,hx,e⟩:=List.mem_filterMap.1 hq;exact List.mem_filterMap.2 ⟨x,a7B _ hx,e⟩
  rcases ho with⟨h1,rfl⟩|⟨q,rs,rfl,_⟩
  ·have hw:w=[]:=List.map_eq_nil_iff.1 h1;have h2:=h.cg 1;obtain⟨φ,I,A,k1,k2,O,R⟩:=nj ps (y++[[.aE]]) (l++[w]) (K.snoc (.inr ⟨rfl,hw⟩)) (by rw[eo];exact h2) (λb hb q hq=>hB b hb q (E q hq));rw[S]at k1;exact⟨φ,I,A,k1,k2,O,R⟩
  ·obtain⟨rs,z1,z2,z3,z4,W⟩:=h.frz 1 rfl;have N:q∈eR (jK ((.osl q 1 0 (cC w).length,w)::ps)):=List.mem_filterMap.2 ⟨_,List.mem_cons_self ..,rfl⟩;have Y:(B.map λb=>(b.1,b.2.frz q 1 rs))=B:=by
    conv=>rhs;rw[←List.map_id B]
    refine a6A λb hb=>?_;rw[hB b hb q N 1 rs];rfl
   have yp:∀p∈ps,PV.cT q 1 rs p.1=p.1:=λp M=>by obtain⟨j,hj⟩:=List.mem_iff_getElem?.1 M;exact z4 (j+2) (p.1,1,cC p.2) Om (FQ hj)
   have er:(y++eE ((.osl q 1 0 (cC w).length,w)::ps)).map (λr=>r.map (PV.cT q 1 rs))=y++[[ints w]]++eE ps:=by
    rw[a5L,K.flat,a5C];congr 1;show[PV.cT q 1 rs (.osl q 1 0 (cC w).length)]::(eE ps).map _=_;rw[z2];have:(eE ps).map (λr=>r.map (PV.cT q 1 rs))=eE ps:=by unfold eE;rw[a7A];refine a6A λp M=>?_;show[PV.cT q 1 rs p.1]=_;rw[yp p M]
    rw[this];rfl
   have Z:(jK ps).map (λx=>(x.1,x.2.1,x.2.2.map λr=>r.map (PV.cT q 1 rs)))=jK ps:=by unfold jK;rw[a7A];refine a6A λp _=>?_;show(p.1,1,(cC p.2).map λr=>r.map (PV.cT q 1 rs))=_;rw[show(cC p.2).map (λr=>r.map (PV.cT q 1 rs))=cC p.2 from Flat.map p.2 (λx c U q s rs=>by rw[a4X]at U;subst U;rfl) q 1 rs]
   have z6:aN (H.frz q 1 rs) B ((J,1,y++[[ints w]]++eE ps)::jK ps):=by rw[Y]at W;have X:aN (H.frz q 1 rs) B ((J,1,(y++eE ((.osl q 1 0 (cC w).length,w)::ps)).map (λr=>r.map (PV.cT q 1 rs)))::(jK ps).map (λx=>(x.1,x.2.1,x.2.2.map λr=>r.map (PV.cT q 1 rs)))):=W;rw[er,Z]at X;exact X
   obtain⟨φ,I,A,k1,k2,O,R⟩:=nj ps (y++[[ints w]]) (l++[w]) (K.snoc (.inl rfl)) z6 (λb hb q hq=>hB b hb q (E q hq));rw[S]at k1;refine⟨λu=>φ (PV.frz q 1 rs u),I,A,k1,k2,λu V=>?_,λF=>.step q z1 ?_⟩
   ·simp only;rw[V,O u V]
   ·have:MJ (λu=>φ (PV.frz q 1 rs u)) F=MJ φ (F.frz q 1 rs):=funext λi=>by rw[wE,wE,sG,Option.map_map];rfl
    rw[this];exact R _
theorem agZ{C:Ctx}{c:aC}{K:cP}{F l:PF}{H u:PH}(B:lN F H l u)(h:aC.wp C (.loop c) K l u):aC.wp C (.loop c) K F H:=by
 obtain⟨α,x,Hs,y,m,A,w,H2,j,e⟩:=h;exact⟨α,x,Hs,y,m,A,w,H2,B.trans j,e⟩
theorem azS{φ:PV→PV}(j:∀u,Fx u→φ u=u){F:PF}{i o s:Nat}{rs:List (List PV)}{u:PV}(h:F i=some u)(e:Fx u):((MJ φ F).frz o s rs) i=some u:=by
 rw[sG,wE,h,a5B,a5B,j u e,e]
theorem aN.axX{H:PH}{B:List BX}{L:List LI}(h:aN H B L):∀N:Nat,aN H B (L++a3W N (.aE,1,[]))
 |0=>by rw[List.replicate_zero,a5O];exact h
 |N+1=>by rw[List.replicate_succ',←a5C];exact(h.axX N).lW 1
structure CY(n:cH)(T:dB→Prop)(c:Nat)(ws:List (List Int)):Prop where
 len:Z' ws=n.nodes
 all:∀s:dB,T s→stI s∈ws.getD (dW n s) []
 only:∀v c,c∈ws.getD v []→∃s:dB,T s∧dW n s=v∧c=stI s
 few:∀v,(ws.getD v []).length≤c
theorem CY.add{n:cH}{T:dB→Prop}{c:Nat}{ws:List (List Int)}(h:CY n T c ws){s0:dB}(l:dW n s0<n.nodes) :
  CY n (λs=>T s∨s=s0) (c+1) (ws.set (dW n s0) (ws.getD (dW n s0) []++[stI s0])):=by
 have E:dW n s0<Z' ws:=by rw[h.len];exact l
 have j:∀v,(ws.set (dW n s0) (ws.getD (dW n s0) []++[stI s0])).getD v []=if v=dW n s0 then ws.getD v []++[stI s0]else ws.getD v []:=λv=>by
  rw[a4D,a7N];by_cases e:v=dW n s0
  ·subst e;rw[aL rfl,aL E,aL rfl];rfl
  ·rw[aG (λB=>e B.symm),aG e,←a4D]
 refine⟨by rw[a5Q];exact h.len,λs l=>?_,λv x u=>?_,λv=>?_⟩
 ·rw[j];rcases l with l|rfl
  ·split
   ·exact a7K _ (h.all s l)
   ·exact h.all s l
  ·rw[aL rfl];simp
 ·rw[j]at u;split at u
  ·rename_i e;rcases a5E.1 u with g|g
   ·obtain⟨s,w,y,A⟩:=h.only v x g;exact⟨s,.inl w,y,A⟩
   ·rw[a4X]at g;exact⟨s0,.inr rfl,e.symm,g⟩
  ·obtain⟨s,w,y,A⟩:=h.only v x u;exact⟨s,.inl w,y,A⟩
 ·have:=h.few v;rw[j];split
  ·rw[a3Z,a4E];omega
  ·omega
theorem CY.zero(n:cH):CY n (λs=>s.1<0) 0 (a3W n.nodes []):=by
 have:∀v,(a3W n.nodes ([]:List Int)).getD v []=[]:=λv=>by rw[a4D,a7V];split<;>rfl
 exact⟨by simp,λs j=>absurd j (Nat.not_lt_zero _),λv c e=>(by rw[this]at e;cases e),λv=>by rw[this];exact a4B _⟩
theorem CY.ok{n:cH}(e:fD n){ws:List (List Int)}(h:CY n (λs=>s.1<Z' n.arcs) (2*Z' n.arcs) ws):Nq n ws:=
 ⟨h.len,h.all,h.only,λv=>by have:=h.few v;have:=e.num;omega⟩
theorem dy(ps:WPs)(i:Nat)(p:PV × List Int):wls (ps.set i p)=(wls ps).set i p.2:=List.map_set ..
theorem dx{ps:WPs}{i:Nat}{p:PV × List Int}(h:ps[i]?=some p):(wls ps).getD i []=p.2:=by
 unfold wls;rw[a4D,a4Q,h];rfl
theorem aNZ{n:cH}(e:fD n):avF n≤2500*2147483647:=by
 have j:=Br (λv=>decide (v=n.source)) (M:=2147483647) (l:=n.arcs) λa u=>(e.ends a u).2.2;exact a6T j (a4Z 2147483647 e.num)
structure aSP where
 k:Nat
 ps:WPs
 H:PH
abbrev aNI(n:cH)(j fo e:Nat):List BX:=[(fo,.rows 1 (fF (a3W n.arcs.length 0))),(j,xR n fo n.arcs.length (.osl e 1 0 n.nodes))]
structure aVL(n:cH)(so fo oo:Nat)(a:aSP):Prop where
 k:a.k≤Z' n.arcs
 len:Z' a.ps=n.nodes
 heap:aN a.H (aNI n so fo oo) (tC (.osl oo 1 0 n.nodes) a.ps)
 out:CY n (λs=>s.1<a.k) (2*a.k) (wls a.ps)
theorem aoE{H:PH}{B:List BX}{u N:Nat}{ps:WPs}(h:aN H B (tC (.osl u 1 0 N) ps))(E:Z' ps=N){i:Nat}(hi:i<N):∃rs v w,H u=some (.rows 1 rs)∧ps[i]?=some (v,w)∧rs[i]?=some [v]:=by
 obtain⟨rs,x,y,A,j⟩:=h.outer.id rfl;rw[CO]at y A j;have e:i<Z' ps:=Om;refine⟨rs,(ps[i]).1,(ps[i]).2,x,a4C e,?_⟩;have h5:=congrArg (λl=>l[i]?) j
 try simp only at h5
 rw[a6S,aL e]at h5;rw[h5];exact xO (a4C e)
theorem aCL{C:Ctx}(Y:∀n:cH,fD n→aJ C 292 [.agg n.cells] .nil (aK (.bool true)))
  (X:∀(n:cH)(j fo:Nat)(xs:List Nat)(y:List (List PV)) (ε:List (List Int)),fD n→¬j=fo→pW n xs→pE y ε→Nq n ε→aJ C 296 [.ptr j 6 0 0] (sH n j fo xs (mX y)) (aAR n j fo xs (mX y)))
  (κ:∀(n:cH)(j fo:Nat)(xs:List Nat)(out:PV)(Q:List Nat)(way:Nat→dB),fD n→¬j=fo→jM n xs→rA n xs Q way→n.sink∈Q→aJ C 297 [.ptr j 6 0 0,ints (byL stI n Q way)] (sH n j fo xs out) (aSL n j fo xs out))
  (n:cH) (J:fD n):KK.wp C (aV Wm.res (VR n)) (PF.args [.agg n.cells]) .nil:=by
 have hm:=J.num;have j':=J.few;have μ:(Z' n.arcs:Int)*((8:Nat):Int)≤140737488355328:=Om;have ν:(Z' n.arcs:Int)≤9223372036854775807:=Om;have ξ:(n.nodes:Int)*((24:Nat):Int)≤140737488355328:=Om;have ο:(n.nodes:Int)≤9223372036854775807:=Om;have o':(n.sink:Int)<(n.nodes:Nat):=by have:=J.sink;omega
 simp only[go_sem,KK,G7,Wm,G8];refine aB (Y n J) rfl ?_;simp only[go_sem];refine aZ .nil cI a_ ?_;simp only[go_sem,G9,a3V,μ,ν,ξ,ο];refine aQ λfo Ω=>?_;simp only[go_sem,μ,ν,ξ,ο];refine aQ λu τ=>?_;simp only[go_sem];refine aQ λj A=>?_;have V:¬j=fo:=λe=>by
  rw[e,aU]at A;split at A
  ·cases A
  ·rw[bT]at A;cases A
 simp only[go_sem,Ha,a3V];rw[EL];have h0:aN PH.nil ([]:List BX) ([]:List LI):=aN.nil;have h1:=(h0.new Ω (.rows 1 (fF (a3W n.arcs.length 0))));rw[EL]at τ;have S:=(h1.C2 (s:=1) (rows:=a3W n.nodes [.aE]) τ);rw[EL]at A;have h3:=(S.new A (xR n fo n.arcs.length (.osl u 1 0 n.nodes)));have h4:=h3.axX n.nodes;have e4:([]++[((.osl u 1 0 (a3W n.nodes [PV.aE]).length:PV),1,a3W n.nodes [PV.aE])]:List LI)++a3W n.nodes (.aE,1,[])=tC (.osl u 1 0 n.nodes) (a3W n.nodes (.aE,[])):=by unfold tC eE jK;rw[List.map_replicate,List.map_replicate,a7J];rfl
 rw[e4]at h4;refine wp_loop (α:=aSP) (λa=>(((((PF.nil.set 1 (.bU n.cells)).set 6 (.ptr j 6 0 0)).set 26 (Bm n.arcs)).set 27 (.int .i64 (Z' n.arcs:Nat))).set 28 (.int .i64 (a.k:Nat)))) (λa=>a.H) (aVL n j fo u) (λa=>Z' n.arcs-a.k) ⟨0,a3W n.nodes (.aE,[]),_⟩
  ⟨a4A _,a7J,h4,by
   have:wls (a3W n.nodes ((.aE,[]):PV × List Int))=a3W n.nodes []:=by unfold wls;rw[List.map_replicate]
   show CY n _ _ (wls (a3W n.nodes ((.aE,[]):PV × List Int)));rw[this];exact CY.zero n⟩ Lq (λ_ _ h=>h) ?_
 rintro⟨k,ps,H⟩ ⟨hk,ζ,hH,hO⟩;dsimp only at hk ζ hH hO;simp only[go_sem,v6,Hb];by_cases hlt:k<Z' n.arcs
 ·have M:(k:Int)<(Z' n.arcs:Nat):=Om;obtain⟨z1,z2,z3⟩:=J.ends _ (a3Y hlt);rw[nZ hlt]at z1 z2 z3;have Δ:(((bX n k).src:Nat):Int)<(n.nodes:Nat):=Om;have Θ:(((bX n k).dst:Nat):Int)<(n.nodes:Nat):=Om;have b':=wZz k;have c':IntKind.i64.wrap (-1-(k:Int))=-1-(k:Int):=wrap_i64 Om Om;simp only[go_sem,M,Hc,lD hlt];refine aQ λp hp=>?_;have k':H fo=some _:=hH.at 0 rfl;have O:H j=some _:=hH.at 1 rfl;have p1:¬j=p:=λe0=>by rw[e0,hp]at O;cases O
  have Γ:¬p=j:=λe0=>p1 e0.symm;have F:=hH.new hp (.rows 4 [(bX n k).cells]);obtain⟨rs,v,w,g1,g2,g3⟩:=aoE F ζ z1;have I:(wls ps).getD (bX n k).src []=w:=dx g2;have Z:=hO.few (bX n k).src;rw[I]at Z;have ω:(H.set p (.rows 4 [(bX n k).cells])) j=some _:=F.at 1 rfl;have υ:(H.set p (.rows 4 [(bX n k).cells])) p=some _:=F.at 2 rfl;have op:¬u=p:=λe0=>by rw[e0,υ]at g1;injection g1 with g1;injection g1 with g1;cases g1
  simp only[go_sem];refine aZ ((PH.nil.set j (xR n fo n.arcs.length (.osl u 1 0 n.nodes))).set p (.rows 4 [(bX n k).cells])) cI (e_ (e_ a_ ω) υ) ?_;rw[aU,aG op]at g1;simp only[go_sem,Hd,p1,Γ,op,O,Δ,g1,a4I,g3];refine F.aNO (src:=[(k:Int)]) g2 (by simp[fY,cC]) (by unfold roomFor;simp only[a4E,maxLen];omega) aW λq H2 S=>?_;refine⟨e_ (e_ a_ (S.at 1 rfl)) (S.at 2 rfl),?_⟩
  try simp only[go_sem,Δ]
  refine aZ .nil cI a_ ?_;obtain⟨rs2,j1,j2,j3,j4⟩:=S.aEV;have W:rs2[(bX n k).src]?=some [v]:=by
   have h5:=congrArg (λl=>l[(bX n k).src]?) j3
   try simp only at h5
   rw[a6S,aL z1]at h5;rw[h5];exact xO g2
  simp only[go_sem,He,j1,a4I,W];refine⟨a_,?_⟩;generalize γ:ps.set (bX n k).src (.osl q 1 0 (w++[(k:Int)]).length,w++[(k:Int)])=K at *
  have β:Z' K=n.nodes:=by rw[←γ,a5Q];exact ζ
  have θ:CY n (λs=>s.1<k∨s=(k,true)) (2*k+1) (wls K):=by have:=hO.add (s0:=(k,true)) z1;rw[show dW n (k,true)=(bX n k).src from rfl,I]at this;rw[←γ,dy];exact this
  generalize H2.set u (.rows 1 (rs2.set (bX n k).src [.osl q 1 0 (w++[(k:Int)]).length]))=H3 at *
  clear j1 j2 j3 W S g1 g2 g3 I Z;obtain⟨rs,v2,w2,g1,g2,g3⟩:=aoE j4 β z2;have I:(wls K).getD (bX n k).dst []=w2:=dx g2;have Z:=θ.few (bX n k).dst;rw[I]at Z;have δ:H3 j=some _:=j4.at 1 rfl;have χ:H3 p=some _:=j4.at 2 rfl;refine aZ ((PH.nil.set j (xR n fo n.arcs.length (.osl u 1 0 n.nodes))).set p (.rows 4 [(bX n k).cells])) cI (e_ (e_ a_ δ) χ) ?_;simp only[go_sem,Hf,p1,Γ,op,δ,χ,Θ,g1,a4I,g3,c'];refine j4.aNO (src:=[-1-(k:Int)]) g2 (by simp[fY,cC]) (by unfold roomFor;simp only[a4E,maxLen];omega) aW λq2 H4 h4=>?_;refine⟨e_ (e_ a_ (h4.at 1 rfl)) (h4.at 2 rfl),?_⟩
  try simp only[go_sem,Θ]
  refine aZ .nil cI a_ ?_;obtain⟨rs2,i1,i2,i3,i4⟩:=h4.aEV;have W:rs2[(bX n k).dst]?=some [v2]:=by
   have h5:=congrArg (λl=>l[(bX n k).dst]?) i3
   try simp only at h5
   rw[a6S,aL z2]at h5;rw[h5];exact xO g2
  simp only[go_sem,v8,i1,a4I,W];refine⟨a_,?_⟩;simp only[go_sem,wa,b'];have U:CY n (λs=>(s.1<k∨s=(k,true))∨s=(k,false)) (2*k+1+1) (wls (K.set (bX n k).dst (.osl q2 1 0 (w2++[-1-(k:Int)]).length,w2++[-1-(k:Int)]))):=by have:=θ.add (s0:=(k,false)) z2;rw[show dW n (k,false)=(bX n k).dst from rfl,I]at this;rw[dy];exact this
  refine aH ⟨k+1,K.set (bX n k).dst (.osl q2 1 0 (w2++[-1-(k:Int)]).length,w2++[-1-(k:Int)]),_⟩ ⟨hlt,by show(K.set _ _).length=_;rw[a5Q];exact β,aN.dropLast (B:=aNI n j fo u) i4,⟨U.len,λs hs=>U.all s ?_,λv c E=>?_,λv=>by have:=U.few v;show _≤2*(k+1);omega⟩⟩ (by show n.arcs.length-(k+1)<Z' n.arcs-k;omega) Lq (λ_ _ h=>h)
  ·obtain⟨i,b⟩:=s;have hs:i<k+1:=hs;rcases a4R i k with c|c
   ·exact .inl (.inl c)
   ·have:i=k:=Om;subst this;cases b
    ·exact .inr rfl
    ·exact .inl (.inr rfl)
  ·obtain⟨s,h1,S,h3⟩:=U.only v c E;refine⟨s,?_,S,h3⟩;rcases h1 with(h1|rfl)|rfl
   ·exact Nat.lt_succ_of_lt h1
   ·exact Nat.lt_succ_self _
   ·exact Nat.lt_succ_self _
 ·have M:¬(k:Int)<(Z' n.arcs:Nat):=Om;have a':k=Z' n.arcs:=Om;subst a';have Ψ:Nq n (wls ps):=hO.ok J;have e':∀q∈eR (jK ps),¬fo=q∧¬u=q:=λq hq=>by refine⟨hH.ndX (o:=fo) (by simp[fK]) (by show q∈u::eR (jK ps);exact a7B _ hq),λe=>?_⟩;have h5:(u::eR (jK ps)).Nodup:=hH.ndL;exact(List.nodup_cons.1 h5).1 (e ▸ hq)
  obtain⟨φ,H1,y,ι,F,g',hz⟩:=nj ps [] [] .nil (show aN H _ ((.osl u 1 0 n.nodes,1,[]++eE ps)::jK ps)from hH) (λb hb q hq s rs=>by
   obtain⟨q1,q2⟩:=e' q hq;rcases a4J.1 hb with rfl|hb
   ·exact xJ (Flat.map _ λx c E q s rs=>by rw[a4X]at E;subst E;rfl) 1
   ·rw[a4X]at hb;subst hb;simp[cD.frz,PV.cT,q1,q2])
  rw[a7C]at ι;obtain⟨rs,y1,y2,y3,y4,y5⟩:=F.frz 0 rfl;have of:¬fo=u:=λe=>by have:=hH.ndX (o:=fo) (q:=u) (by simp[fK]) (by simp[eR,tC,PV.oid]);exact this e
  have Ξ:cD.frz u 1 rs (.rows 1 (fF (a3W n.arcs.length 0)))=.rows 1 (fF (a3W n.arcs.length 0)):=xJ (Flat.map _ λx c E q s rs=>by rw[a4X]at E;subst E;rfl) 1;have Φ:cD.frz u 1 rs (xR n fo n.arcs.length (.osl u 1 0 n.nodes))=xR n fo n.arcs.length (mX y):=by show cD.rows 6 [[_,_,_,_,PV.cT u 1 rs (.osl fo 1 0 n.arcs.length),PV.cT u 1 rs (.osl u 1 0 n.nodes)]]=_;rw[y2];simp[PV.cT,of]
  have h':(H1.frz u 1 rs) fo=some (.rows 1 (fF (a3W n.arcs.length 0))):=by have:=y5.at 0 rfl;rw[Ξ]at this;exact this
  have i':(H1.frz u 1 rs) j=some (xR n fo n.arcs.length (mX y)):=by have:=y5.at 1 rfl;rw[Φ]at this;exact this
  simp only[go_sem,M,wb];refine agZ ((hz _).trans (.step u y1 (.refl _ _))) ?_;refine wp_loop (α:=List Nat) (λxs=>(((PF.nil.set 1 (.bU n.cells)).set 6 (.ptr j 6 0 0)).set 9 (.int .i64 (kM n xs)))) (λxs=>sH n j fo xs (mX y)) (λxs=>jM n xs∧0≤kM n xs) (λxs=>(avF n-kM n xs).toNat) (a3W n.arcs.length 0) ⟨(IE n).1,by rw[(IE n).2];decide⟩
   (d_ (d_ (d_ c_ (azS g' rfl (Fx.bU _))) (azS g' rfl (Fx.ptr _ _ _ _))) (azS g' (by simp only[go_sem,(IE n).2]) (Fx.int _ _))) (e_ (e_ a_ (by rw[a7J];exact i')) h') ?_
  rintro xs ⟨hF,p'⟩;have hx:=hF.in;have q':=hF.len;simp only[go_sem,v7,wc];refine eY (X n j fo xs y (wls ps) J V hx ι Ψ) rfl (λ_ _ h=>h) ?_;rintro r H' ⟨Q,way,hS,hD,rfl,rfl⟩ -;rw[PH.over_self _ (λ_ _ h=>h)];have N:=fA (R:=seL n Q) (i:=n.sink) (by rw[BC];exact J.sink);rw[NX J.sink]at N;have ρ:¬fo=j:=λe=>V e.symm;cases E:Q.contains n.sink with
  |false=>
   rw[E]at N;simp only[go_sem,RC,N,wd,V,ρ];have σ:n.sink ∉ Q:=λh=>by rw[a7T.2 h]at E;cases E
   refine oA (vs:=[.osl fo 1 0 xs.length,.int .i64 (kM n xs),.sl 1 (bC (seL n Q)),.int .i64 0]) (.inr rfl) rfl ?_;refine sV.step (q:=fo) (s:=1) (rs:=fF xs) (by rw[bT]) ?_;have ev:PV.frz fo 1 (fF xs) (cE [.osl fo 1 0 xs.length,.int .i64 (kM n xs),.sl 1 (bC (seL n Q)),.int .i64 0])=.tup [.sl 1 (fF xs),.int .i64 (kM n xs),.sl 1 (bC (seL n Q)),.int .i64 0]:=by have hT:(fF xs).take xs.length=fF xs:=a4N (by rw[a3V];exact a4B _);simp[cE,PV.frz,PV.uO,PV.cT,hT]
   rw[ev];refine sV.done (H2:=.nil) ⟨xs,λv=>Q.contains v,hF,Z6 J hF hS hD σ,?_,E,rfl,rfl⟩ a_;obtain⟨t,ht⟩:=hS.first;rw[ht];simp
  |true=>
   rw[E]at N;have ψ:n.sink∈Q:=a7T.1 E;simp only[go_sem,RC,N,we];refine eY (κ n j fo xs (mX y) Q way J V hF hS ψ) rfl (λ_ _ h=>h) ?_;rintro r H' ⟨ys,Λ,ha,η,hv,rfl,rfl⟩ l';have d':(sH n j fo xs (mX y)).over (sH n j fo xs (mX y)) (sH n j fo ys (mX y))=sH n j fo ys (mX y):=PH.ext λo=>by
    show(match(sH n j fo ys (mX y)) o with|some x=>some x|none=>match(sH n j fo xs (mX y)) o with|some _=>some .dead|none=>(sH n j fo xs (mX y)) o)=(sH n j fo ys (mX y)) o;have e1:∀(zs:List Nat),¬o=fo→¬o=j→(sH n j fo zs (mX y)) o=none:=λzs h1 S=>by rw[aU,aG h1,aU,aG S];rfl
    by_cases c1:o=fo
    ·subst c1;rw[bT]
    ·by_cases c2:o=j
     ·subst c2;rw[aU,aG c1,bT]
     ·rw[e1 ys c1 c2,e1 xs c1 c2]
   rw[d'];have m':=adA J η;have n':=aNZ J;have f':IntKind.i64.wrap (kM n xs+((Λ:Nat):Int))=kM n ys:=by rw[wrap_i64 Om Om,hv]
   simp only[go_sem,f'];exact aH ys ⟨η,by omega⟩ Om Lq (λ_ _ h=>h)
def oL(f:aD)(l:List bR)(xs:List Nat)(k:Nat):List (List Int):=(a3U f.a2I.length).map λv=>nS f v (l.take k) (xs.take k)
theorem lz(f:aD)(l:List bR)(xs:List Nat)(k:Nat):(oL f l xs k).length=Z' f.a2I:=by simp[oL]
theorem F6(f:aD)(l:List bR)(xs:List Nat):oL f l xs 0=a3W f.a2I.length []:=by
 refine List.ext_getElem (by simp[oL]) λi e j=>?_;simp[oL,nS]
theorem T9{f:aD}{l:List bR}{xs:List Nat}(h:Z' xs=Z' l):oL f l xs l.length=KD f l xs:=by
 unfold oL KD;rw[a5F,a4N Om]
theorem SM(f:aD)(v:Nat){l:List bR}{xs:List Nat}(u:Z' xs=Z' l){k:Nat}(j:k<Z' l):nS f v (l.take (k+1)) (xs.take (k+1))=nS f v (l.take k) (xs.take k)++zQ f v l[k] (xs.getD k 0):=by
 have e:k<Z' xs:=Om;rw[a5W j,a5W e,uV f v _ _ (by rw[a4M,a4M,u])];rw[show xs.getD k 0=xs[k] by simp[a4D,e]];simp[nS]
theorem F0{f:aD}{l:List bR}{xs:List Nat}(j:Z' xs=Z' l){k:Nat}(e:k<Z' l)(h:l[k].dst<bG f 0∨xs.getD k 0=0):oL f l xs (k+1)=oL f l xs k:=by
 unfold oL;refine a6A λv _=>?_;rw[SM f v j e];have:zQ f v l[k] (xs.getD k 0)=[]:=by
  unfold zQ YW;rcases h with h|h
  ·rw[cF Om];rfl
  ·rw[h];simp
 rw[this,a5O]
theorem Ua{f:aD}{l:List bR}{xs:List Nat}(u:Z' xs=Z' l){k:Nat}(j:k<Z' l)(w:bG f 0≤l[k].dst)(x:xs.getD k 0≠0)(B:EV f l[k]<Z' f.a2I) :
  (oL f l xs k).set (EV f l[k]) ((oL f l xs k).getD (EV f l[k]) []++[((l[k].dst-bG f 0:Nat):Int)])=oL f l xs (k+1):=by
 have y:(oL f l xs k).getD (EV f l[k]) []=nS f (EV f l[k]) (l.take k) (xs.take k):=by unfold oL;rw[a4D,a4Q,a6K B];rfl
 rw[y];unfold oL;refine qX _ _ _ _ _ ?_ λv A=>?_
 ·rw[SM f _ u j];unfold zQ YW;rw[cB w,cB x,cB rfl];rfl
 ·rw[SM f _ u j];unfold zQ YW;rw[cF (show ¬EV f l[k]=v from λe=>A e.symm),a5I,a5I];simp
theorem ahF{f:aD}(hV:VF f){room:List Int}{a:bR}(ha:a∈eU f room)(h:bG f 0≤a.dst):∃v d,v<Z' f.a2I∧d<Z' f.a2G∧a=eT f v d:=by
 unfold eU at ha;rcases a5E.1 ha with ha|ha
 ·obtain⟨v,e,ha⟩:=List.mem_flatMap.1 ha;have e:=a4S.1 e;unfold fV at ha;rcases a4J.1 ha with rfl|ha
  ·have:=(kE hV e hV.root.1).2;simp only[cJ,if_true]at this;simp only at h;omega
  ·rcases a5E.1 ha with ha|ha
   ·obtain⟨i,hi,rfl⟩:=a4W.1 ha;have:=a4S.1 hi;have:=(kE (i:=i+1) hV e Om).2;simp only[kW]at h;omega
   ·obtain⟨d,j,rfl⟩:=a4W.1 ha;exact⟨v,d,e,a4S.1 (a7M.1 j).1,rfl⟩
 ·obtain⟨d,j,rfl⟩:=a4W.1 ha;simp only[oR,bG]at h;omega
theorem l5{f:aD}(hV:VF f){d:Nat}(u:d<Z' f.a2G):0<fR f d∧fR f d<Z' f.a2J:=by
 have j:=hV.drive d u;refine⟨?_,j.2.2.2.1⟩;rcases a6C (fR f d)with e|e
 ·have l:=j.2.2.2.2;rw[e,hV.root.2.1]at l;omega
 ·exact e
theorem aRK{f:aD}(hV:VF f){v d:Nat}(e:d<Z' f.a2G):2+Z' f.a2I≤(eT f v d).src:=by
 have:=l5 hV e;simp only[eT,cJ];rw[aG Om];omega
theorem aN.aTC{H:PH}{B:List BX}{L:List LI}{o s:Nat}{rows:List (List PV)}(h:aN H ((o,.rows s rows)::B) L):aN H B ((.osl o s 0 rows.length,s,rows)::L):=by
 refine⟨λb hb=>h.box b (a7B _ hb),λx hx=>?_,?_⟩
 ·rcases a4J.1 hx with rfl|hx
  ·exact .inr ⟨o,rows,rfl,h.box _ (List.mem_cons_self ..),a4B _,a5F⟩
  ·exact h.lst x hx
 ·have e:eR ((.osl o s 0 rows.length,s,rows)::L)=o::eR L:=rfl;rw[e];exact(List.perm_middle.nodup_iff).2 h.nd
theorem aN.aNM{H:PH}{B:List BX}(h:aN H B [])(N:Nat):aN H B (jK (a3W N ((.aE,[]):PV × List Int))):=by
 have j:=h.axX N;have e:jK (a3W N ((.aE,[]):PV × List Int))=[]++a3W N (.aE,1,[]):=by unfold jK;rw[List.map_replicate];rfl
 rw[e];exact j
theorem J9{res:List fC}{R A:PV→PH→Prop}{e:nN}{F:PF}{H:PH}(B:∀r H',R r H'→A r H')(h:aV res R e F H):aV res A e F H:=by
 cases e with
 |exit=>exact h
 |normal =>obtain⟨vs,u,j,l,H2,w,x,v,y,h5⟩:=h;exact⟨vs,u,j,l,H2,w,x,v,y,B _ _ h5⟩
 |ret =>obtain⟨vs,u,j,l,H2,w,x,v,y,h5⟩:=h;exact⟨vs,u,j,l,H2,w,x,v,y,B _ _ h5⟩
def NC(f:aD)(room:List Int)(ws:List (List Int))(c:Int):Prop:=
 (dX f=false∧ws=[]∧c=1)∨(dX f=true∧(∃u,yM f room u∧ws=xM f u)∧c=0)∨(dX f=true∧¬GG f room∧ws=[]∧c=12)
def Oh(f:aD)(room:List Int)(r:PV)(H:PH):Prop:=∃ws c,NC f room ws c∧cY (.tup [lists ws,.int .i64 c]) r H
def Og(f:aD)(room:List Int)(r:PV)(H:PH):Prop:=∃ws c,NC f room ws c∧r=.tup [lists ws,.int .i64 c]∧H=PH.nil
theorem aJ.place{C:Ctx}{name:Nat}{args:List PV}{f:aD}{room:List Int}(h:aJ C name args .nil (Oh f room)):aJ C name args .nil (Og f room):=
 h.post λr H' ⟨ws,c,e,j,l⟩=>⟨_,j,ws,c,e,rfl,l⟩
structure VO(C:Ctx):Prop extends pX C where
 net:∀(f:aD)(room:List Int),f.Ok→aJ C 286 [.agg f.cells,ints room] .nil (aK (AV f room))
 solve:∀n:cH,fD n→aJ C 298 [.agg n.cells] .nil (VR n)
 demand:∀f:aD,VF f→aJ C 287 [.agg f.cells] .nil (aK (.int .i64 ((qT f:Nat):Int)))
theorem qb(f:aD)(v:Nat):∀(l:List bR)(xs:List Nat),(nS f v l xs).length≤Z' l
 |[],_=>by simp[nS]
 |_::_,[]=>by simp[nS]
 |a::l,x::xs=>by
  have e:=qb f v l xs;have j:(zQ f v a x).length≤1:=by unfold zQ;split<;>simp
  rw[nS,a3Z,a5P];omega
def plF(f:aD)(n:cH)(xs:List Nat)(e j k:Nat):PF:=((((((PF.nil.set 8 (.sl 1 (fF xs))).set 12 (.ptr e 2 0 0)).set 13 (.osl j 1 0 f.a2I.length)).set 49 (Bm n.arcs)).set 50 (.int .i64 (Z' n.arcs:Nat))).set 51 (.int .i64 (k:Nat)))
theorem agB{C:Ctx}(Lb:VO C){K:cP}[Up K](f:aD)(hV:VF f)(room:List Int)(xs:List Nat)(hx:pW (cW f room) xs)(e I:Nat){F:PF}{H:PH}
  (hH:aN H [(I,.rows 1 (eE (a3W f.a2I.length (.aE,[])))),(e,iV f)] (jK (a3W f.a2I.length (.aE,[])))) (hF:(plF f (cW f room) xs e I 0).le F)
  (hK:∀ps H',aN H' [(e,iV f)] (tC (.osl I 1 0 f.a2I.length) ps)→wls ps=KD f (eU f room) xs→K (.exit 0) ((PF.nil.set 13 (.osl I 1 0 f.a2I.length))) H'):aC.wp C (.loop OX) K F H:=by
 have hs:=hV.small;have hr:=hV.root;have hn:=HC hV room;have hm:=hn.num;have ρ:=hn.few;have Y:Z' xs=(eU f room).length:=hx.len;refine wp_loop (α:=Nat × WPs × PH) (λs=>plF f (cW f room) xs e I s.1) (λs=>s.2.2) (λs=>s.1≤(cW f room).arcs.length∧wls s.2.1=oL f (eU f room) xs s.1∧aN s.2.2 [(I,.rows 1 (eE s.2.1)),(e,iV f)] (jK s.2.1)) (λs=>(cW f room).arcs.length-s.1) (0,a3W f.a2I.length (.aE,[]),H) ⟨a4A _,?_,hH⟩ hF b_ ?_
 ·rw[F6];unfold wls;simp only[List.map_replicate]
 rintro⟨k,ps,H0⟩ ⟨hk,j,hH⟩;simp only at hk j hH;have ξ:Z' ps=Z' f.a2I:=by have:=congrArg List.length j;rw[lz]at this;unfold wls at this;rw[a3V]at this;exact this
 simp only[go_sem,OX,tj,plF];by_cases hlt:k<(cW f room).arcs.length
 ·have J:(k:Int)<((cW f room).arcs.length:Nat):=Om;have V:=wZz k;have U:k<(eU f room).length:=hlt;have μ:k<Z' xs:=Om;have γ:=lD hlt;have ι:bX (cW f room) k=(eU f room)[k]:=(nZ hlt).symm;rw[ι]at γ;have κ:=a3Y U;obtain⟨z1,z2,z3⟩:=hn.ends _ (a3Y hlt);have z1:((eU f room)[k]).src<(cW f room).nodes:=z1;have z2:((eU f room)[k]).dst<(cW f room).nodes:=z2;have τ:bG f 0≤(cW f room).nodes:=by show bG f 0≤bG f f.a2G.length;unfold bG;omega
  have W:=F0 (f:=f) (l:=eU f room) (xs:=xs) Y U;have A:=Ua (f:=f) (l:=eU f room) (xs:=xs) Y U;have δ:=ahF hV (room:=room) κ;generalize(eU f room)[k]=a at *
  simp only[go_sem,J,tk,γ];refine hH.uI λq H1 h1=>?_;have q1:=h1.qA;have O:=h1.wD (.rows 4 [a.cells]);simp only[go_sem,q1];generalize H1.set q (.rows 4 [[.int .i64 a.src,.int .i64 a.dst,.int .i64 a.cap,.int .i64 0]])=H2 at *
  have E:H2 q=some (.rows 4 [a.cells]):=O.qA;have N:H2 e=some (iV f):=O.at 1 rfl;have β:H2 I=some (.rows 1 (eE ps)):=O.at 0 rfl;have S:(a.dst<bG f 0∨xs.getD k 0=0)→iR (λs:Nat × WPs × PH=>plF f (cW f room) xs e I s.1) (λs=>s.2.2) (λs=>s.1≤(cW f room).arcs.length∧wls s.2.1=oL f (eU f room) xs s.1∧aN s.2.2 [(I,.rows 1 (eE s.2.1)),(e,iV f)] (jK s.2.1)) (λs=>(cW f room).arcs.length-s.1) ((cW f room).arcs.length-k) K .normal (plF f (cW f room) xs e I (k+1)) H2:=λh=>
   aH (k+1,ps,H2) ⟨hlt,by rw[W h];exact j,aN.dropLast (B:=[(I,.rows 1 (eE ps)),(e,iV f)]) O⟩ (by simp only;omega) (λ_ _ h=>h) b_
  refine aZ (PH.nil.set q (.rows 4 [a.cells])) (GK f [] (λ_ _=>True)) (e_ a_ E) ?_;by_cases c1:a.dst<bG f 0
  ·have M:(a.dst:Int)<((bG f 0:Nat):Int):=Om;simp only[go_sem,OY,N];refine GN Lb.topX hs (i:=0) aX rfl (e_ a_ E) ?_;simp only[go_sem,M,DN,V];exact Up.up (by unfold plF;exact Lq) (S (.inl c1))
  ·have M:¬(a.dst:Int)<((bG f 0:Nat):Int):=Om;simp only[go_sem,OY,N];refine GN Lb.topX hs (i:=0) aX rfl (e_ a_ E) ?_;have θ:=kL μ;by_cases c2:xs.getD k 0=0
   ·simp only[go_sem,M,θ,cA (Om:((xs.getD k 0:Nat):Int)=0),DN,V];exact Up.up (by unfold plF;exact Lq) (S (.inr c2))
   ·obtain⟨v,d,hv,hd,rfl⟩:=δ Om;have X:=zl hV (v:=v) hd;have A:=A Om c2 (by rw[X];exact hv);rw[X]at A;have σ:=aRK hV (v:=v) hd;have υ:=l5 hV hd;have φ:=hs.a2J;have χ:=hs.a2I;have w1:IntKind.i64.wrap (((eT f v d).src:Int)-2)=(((eT f v d).src-2:Nat):Int):=by rw[wrap_i64 Om Om];omega
    have w2:IntKind.i64.wrap ((((eT f v d).src-2:Nat):Int)-(Z' f.a2I:Nat))=(((eT f v d).src-2-Z' f.a2I:Nat):Int):=by rw[wrap_i64 Om Om];omega
    have w3:IntKind.i64.wrap ((Z' f.a2J:Int)-1)=((Z' f.a2J-1:Nat):Int):=by rw[wrap_i64 Om Om];omega
    have w4:¬((Z' f.a2J-1:Nat):Int)=0:=Om;have w5:Int.tdiv (((eT f v d).src-2-Z' f.a2I:Nat):Int) ((Z' f.a2J-1:Nat):Int)=((v:Nat):Int):=by exact(Int.ofNat_tdiv _ _).symm.trans (congrArg (λx:Nat=>(x:Int)) X)
    have w6:IntKind.i64.wrap ((v:Nat):Int)=((v:Nat):Int):=wrap_i64 Om Om;have w7:IntKind.i64.wrap (((eT f v d).dst:Int)-((bG f 0:Nat):Int))=(d:Int):=by
     have:(eT f v d).dst=bG f 0+d:=by simp only[eT,bG];omega
     rw[wrap_i64 Om Om,this];omega
    simp only[go_sem,M,θ,bJ (Om:¬((xs.getD k 0:Nat):Int)=0),tp,E,N,w1,w2,w3,w4,w5,w6];have ζ:v<Z' ps:=Om;obtain⟨u,w,R⟩:∃u w,ps[v]?=some (u,w):=⟨(ps[v]).1,(ps[v]).2,a4C ζ⟩;have η:(wls ps).getD v []=w:=dx R;have ε:(v:Int)<(Z' f.a2I:Nat):=Om;have ο:¬I=q:=O.ne 0 2 rfl rfl aX;obtain⟨Hs,s1,s2,Z⟩:=uh (x:=.rows 1 (eE ps)) (y:=.rows 4 [(eT f v d).cells]) ο;refine aZ Hs (GK f [] (λ_ _=>True)) (Z _ β E) ?_;simp only[go_sem,tq,N,ε,s1,s2,a4I,xO R];refine GN Lb.topX hs (i:=0) aX rfl (Z _ β E) ?_;simp only[go_sem,w7];have ω:Z' w≤k:=by
     have h9:w=(oL f (eU f room) xs k).getD v []:=by rw[←j,η]
     rw[h9];unfold oL;rw[a4D,a4Q,a6K hv];exact a6T (qb f v _ _) (by rw[a4M];omega)
    refine O.append v (FQ R) (src:=cC [(d:Int)]) rfl (by unfold roomFor;rw[jR,jR];simp only[a4E,maxLen];omega) λu' H3 h3 hu=>?_;obtain⟨q',rfl⟩:=hu (by simp[cC]);rw[←GZ]at h3 ⊢;refine⟨Z _ (h3.at 0 rfl) (h3.at 2 rfl),?_⟩;simp only[go_sem,ε];refine aZ .nil cI a_ ?_;have e3:=h3.at 0 rfl;have ν:v<(eE ps).length:=by rw[CO];exact ζ
    simp only[go_sem,tr,e3,a4I,xO R,ν];refine⟨a_,?_⟩;simp only[go_sem,DN,V];have h4:=h3.set 0 rfl (.rows 1 ((eE ps).set v [.osl q' 1 0 (cC (w++[(d:Int)])).length]));generalize ψ:PV.osl q' 1 0 (cC (w++[(d:Int)])).length=u' at *
    refine aH (k+1,ps.set v (u',w++[(d:Int)]),_) ⟨hlt,?_,?_⟩ (by simp only;omega) Lq b_
    ·simp only;rw[dy,←A,j,←η,j];have:((eT f v d).dst-bG f 0:Nat)=d:=by simp only[eT,bG];omega
     rw[this]
    ·simp only;have e5:eE (ps.set v (u',w++[(d:Int)]))=(eE ps).set v [u']:=List.map_set ..;have e6:jK (ps.set v (u',w++[(d:Int)]))=(jK ps).set v (u',1,cC (w++[(d:Int)])):=List.map_set ..;rw[e5,e6];exact aN.dropLast (B:=[(I,.rows 1 ((eE ps).set v [u'])),(e,iV f)]) h4
 ·have J:¬(k:Int)<((cW f room).arcs.length:Nat):=Om;have:k=(cW f room).arcs.length:=Om;subst this;simp only[go_sem,J];have O:=hH.aTC;rw[CO,ξ]at O;refine Up.up Lq (hK ps H0 O ?_);rw[j];exact T9 Y
theorem Yg{res:List fC}{f:aD}{room:List Int}{ws:List (List Int)}{c:Int}{e:nN}{F:PF}{H:PH}(j:NC f room ws c)(h:aV res (cY (.tup [lists ws,.int .i64 c])) e F H):aV res (Oh f room) e F H:=
 J9 (λr H' l=>⟨ws,c,j,l⟩) h
theorem yj{f:aD}(hV:VF f){room:List Int}{xs:List Nat}{S:Nat→Bool}(u:jM (cW f room) xs)(e:kM (cW f room) xs=eD S (cW f room).arcs)(j:S (cW f room).source=true)(l:S (cW f room).sink=false):¬kM (cW f room) xs<(qT f:Int)↔GG f room:=by
 rw[Int.not_lt];exact Er hV u j l e
theorem aBH{f:aD}(hV:VF f){room:List Int}{xs:List Nat}(e:jM (cW f room) xs)(h:¬kM (cW f room) xs<(qT f:Int)):∃u,yM f room u∧KD f (eU f room) xs=xM f u:=by
 obtain⟨s,g,j,t,rfl⟩:=tc f room e.len;exact⟨oT f j,P2 hV e (Int.not_lt.1 h),aIR hV room s g j t⟩
theorem aBO{C:Ctx}(x:VO C)(f:aD)(hf:f.Ok)(room:List Int) :
  JU.wp C (aV Qu.res (Oh f room)) (PF.args [.agg f.cells,ints room]) .nil:=by
 simp only[go_sem,JU,Eu,Qu,Ew];refine aB (x.net f room hf) rfl ?_;simp only[go_sem,AV];refine aQ λq hq=>?_;have R:aN (PH.nil.set q jJ) [(q,jJ)] []:=aN.nil.new hq jJ;generalize(PH.nil.set q jJ)=Y at *
 have q1:=R.at 0 rfl;have l:=R.set 0 rfl (tE (HB f room));simp only[go_sem,q1];generalize Y.set q (.rows 4 [(HB f room).cells])=H2 at *
 have X:=l.at 0 rfl;cases e:dX f with
 |false =>simp only[go_sem,WP,FW e,Ex];refine Yg (ws:=[]) (c:=1) (.inl ⟨e,rfl,rfl⟩) ?_;exact ZE (.inr rfl) rfl (aN.aNL (l.wX 0))
 |true=>
  have hV:=VF.of e;have W:=hV.small;have hn:=HC hV room;have E:(Z' f.a2I:Int)*((24:Nat):Int)≤140737488355328:=by have:=W.a2I;omega
  have F:(Z' f.a2I:Int)≤9223372036854775807:=by have:=W.a2I;omega
  have I:(0:Int)≤(Z' f.a2I:Int):=Om;rw[FX e]at X l;simp only[go_sem,WP,qY e,Ey,X];refine eY (x.solve _ hn) rfl a_ ?_;rintro r H' ⟨xs,S,y,w,A,B,rfl,rfl⟩ -;rw[PH.qK];have J:=yj hV y w A B;simp only[go_sem,Ez];refine aB (x.demand f hV) rfl ?_;by_cases hlt:kM (cW f room) xs<((qT f:Nat):Int)
  ·simp only[go_sem,hlt,E0];refine Yg (ws:=[]) (c:=12) (.inr (.inr ⟨e,λh=>J.2 h hlt,rfl,rfl⟩)) ?_;exact ZE (.inr rfl) rfl (aN.aNL (l.wX 0))
  ·obtain⟨u,hA,K⟩:=aBH hV y hlt;simp only[go_sem,hlt,E4,a3V];refine l.uI λj Z U=>?_;have g3:=U.at 1 rfl;have h4:=U.set 1 rfl (iV f);simp only[go_sem,g3];generalize Z.set j (.rows 2 [[.int .i64 (Z' f.a2I:Nat),.int .i64 (Z' f.a2J:Nat)]])=H4 at *
   simp only[go_sem,E5,a3V,E,F,I,Int.le_refl,a6U];refine aQ λN M=>?_;have h5:=h4.new M (.rows 1 (a3W f.a2I.length [.aE]));generalize H4.set N (.rows 1 (a3W f.a2I.length [.aE]))=O at *
   have V:aN O [(N,.rows 1 (a3W f.a2I.length [.aE])),(j,iV f),(q,tE (cW f room))] []:=by refine h5.perm ?_ (a6I.refl _);exact(List.reverse_perm _).symm
   have q5:=V.at 2 rfl;have eo:eE (a3W f.a2I.length ((.aE,[]):PV × List Int))=a3W f.a2I.length [.aE]:=by unfold eE;rw[List.map_replicate]
   simp only[go_sem,E6,q5];refine agB x f hV room xs y.in j N (H:=O) (by rw[eo];exact(V.wX 2).aNM _) (by unfold plF;(repeat' (first|exact c_|refine d_ ?_ ?_))<;>first|(simp only[go_sem,a3V]<;>rfl)|rfl) λps H6 h7 hw=>?_;simp only[go_sem,tt];refine Yg (ws:=wls ps) (c:=0) (.inr (.inl ⟨e,⟨u,hA,by rw[hw,K]⟩,rfl⟩)) ?_;exact ZE (.inr rfl) rfl (h7.wX 0)
theorem aN.awI:∀(L:List LI){H:PH}{B:List BX},aN H B L→(∀x∈L,Flat x.2.2)→(∀b∈B,∀q s rs,cD.frz q s rs b.2=b.2) →
  ∃(φ:PV→PV)(y:PH),(∀x∈L,Seen x.2.1 (φ x.1) x.2.2)∧(∀u,u.oid=none→φ u=u)∧aN y B []∧∀cs (b:Bool) R,sV (.tup [.agg (cs.map φ),.bool b]) y R→sV (.tup [.agg cs,.bool b]) H R
 |[],H,B,h,_,_=>⟨id,H,by simp,λ_ _=>rfl,h,λcs b R F=>by rwa[List.map_id]at F⟩
 |(w,s,rows)::L,H,B,h,E,hB=>by
  have l:∀q z rs,(L.map λx=>(x.1,x.2.1,x.2.2.map λr=>r.map (PV.cT q z rs)))=L:=λq z rs=>by
   conv=>rhs;rw[←List.map_id L]
   refine a6A λx hx=>?_;rw[E x (by simp[hx]) q z rs];rfl
  rcases h.own 0 rfl with⟨A,O⟩|⟨q,rs,A,_⟩
  ·obtain⟨φ,y,k1,k2,I,J⟩:=aN.awI L (h.cg 0) (λx hx=>E x (by simp[hx])) hB;refine⟨φ,y,λx hx=>?_,k2,I,J⟩;rw[a4J]at hx;rcases hx with rfl|hx
   ·exact .inl ⟨A,by simp only;rw[O];exact k2 _ rfl⟩
   ·exact k1 x hx
  ·subst A;obtain⟨rs,U,V,Y,W,M⟩:=h.frz 0 rfl;have X:aN (H.frz q s rs) B L:=by
    have N:(B.map λb=>(b.1,b.2.frz q s rs))=B:=by
     conv=>rhs;rw[←List.map_id B]
     refine a6A λb hb=>?_;rw[hB b hb q s rs];rfl
    rw[N]at M;have:=M;simp only[List.eraseIdx_cons_zero]at this
    rwa[l q s rs]at this
   obtain⟨φ,y,k1,k2,I,J⟩:=aN.awI L X (λx hx=>E x (by simp[hx])) hB;refine⟨λu=>φ (PV.cT q s rs u),y,λx hx=>?_,λu K=>?_,I,λcs b R F=>?_⟩
   ·rw[a4J]at hx;rcases hx with rfl|hx
    ·simp only;rw[V];exact .inr (k2 _ rfl)
    ·obtain⟨j,S⟩:=List.mem_iff_getElem?.1 hx;have:=W (j+1) x Om (by simpa using S);simp only;rw[this];exact k1 x hx
   ·simp only;rw[PA K,k2 u K]
   ·refine .step U ?_;have e:PV.frz q s rs (.tup [.agg cs,.bool b])=.tup [.agg (cs.map (PV.cT q s rs)),.bool b]:=rfl;rw[e];refine J _ b R ?_;rw[a7A];exact F
def rB(e:List (List PV))(ws:List (List Bool)):Prop:=Z' e=Z' ws∧∀(i:Nat) r w,e[i]?=some r→ws[i]?=some w→r=[kC w]∨(r=[.aE]∧w=[])
theorem rB.nil:rB [] []:=⟨rfl,λi r w h=>by cases h⟩
theorem rB.snoc{l:List (List PV)}{ws:List (List Bool)}{u:PV}{w:List Bool}(h:rB l ws)(y:u=kC w∨(u=.aE∧w=[])):rB (l++[[u]]) (ws++[w]):=by
 refine⟨by simp[h.1],λi r x e j=>?_⟩;rcases Nat.lt_trichotomy i l.length with c|c|c
 ·rw[a5U c]at e;rw[a5U (by rw[←h.1];exact c)]at j;exact h.2 i r x e j
 ·subst c;rw[a5V (a4B _),Nat.sub_self]at e;rw[h.1,a5V (a4B _),Nat.sub_self]at j;cases e;cases j;rcases y with rfl|⟨rfl,rfl⟩
  ·exact .inl rfl
  ·exact .inr ⟨rfl,rfl⟩
 ·rw[a5V Om,a5K (by simp;omega)]at e;cases e
theorem rB.flat{j:List (List PV)}{ws:List (List Bool)}(h:rB j ws):Flat j:=Flat.of λr u c e q s rs=>by
 obtain⟨i,hi⟩:=List.mem_iff_getElem?.1 u;have l:=(a5A.1 hi).1;rcases h.2 i r _ hi (a4C (by rw[←h.1];exact l))with rfl|⟨rfl,-⟩
 ·rw[a4X]at e;subst e;rfl
 ·rw[a4X]at e;subst e;rfl
abbrev VX(ws:List (List Bool)):PV:=.sl 1 (ws.map λw=>[kC w])
theorem rB.co{y:List (List PV)}{ws:List (List Bool)}(h:rB y ws):Co (.sl 1 y) (VX ws):=by
 have x:∀(i:Nat) r t,y[i]?=some r→(ws.map λw=>[kC w])[i]?=some t→∃w,t=[kC w]∧(r=[kC w]∨(r=[.aE]∧w=[])):=λi r t u e=>by
  rw[a4Q]at e;cases B:ws[i]? with
  |none=>rw[B]at e;cases e
  |some w =>rw[B]at e;cases e;exact⟨w,rfl,h.2 i r w u B⟩
 refine .sl (by rw[a3V,h.1]) (λi r t u e=>?_) (λi j p q l hq=>?_)
 ·obtain⟨w,rfl,A|⟨A,-⟩⟩:=x i r t u e<;>subst A<;>rfl
 ·unfold at2 at l hq;cases u:y[i]? with
  |none=>rw[u]at l;cases l
  |some r=>
   cases e:(ws.map λw=>[kC w])[i]? with
   |none=>rw[e]at hq;cases hq
   |some t=>
    rw[u]at l;rw[e]at hq;obtain⟨w,rfl,A⟩:=x i r t u e;rcases A with rfl|⟨rfl,rfl⟩
    ·have:some p=some q:=l.symm.trans hq;cases this;exact .refl _
    ·cases j with
     |zero=>cases l;cases hq;exact .nil 1
     |succ j=>cases l
abbrev fM.cells(c:fM):List PV:=[kC c.vols,VX c.a2Q,kC c.a3A]
theorem vG(l:List Bool):Flat (bC l):=Flat.map l λx c e q s rs=>by rw[a4X]at e;subst e;rfl
theorem Zu{res:List fC}{F:PF}{H:PH}{y u w:PV}{V R:List Bool}{A:List (List PV)}{ws:List (List Bool)}{b:Bool}{e:nN}(he:e=.normal∨e=.ret)(h:fC.evs F H res=some [.agg [y,u,w],.bool b])
  (B:rB A ws) (N:aN H [] [(y,1,bC V),(u,1,A),(w,1,bC R)]):aV res (cY (.tup [.agg (fM.cells ⟨V,ws,R⟩),.bool b])) e F H:=by
 obtain⟨φ,S,k1,-,-,O⟩:=aN.awI _ N (λx I=>by
  simp only[a4J,a4U,or_false]at I;rcases I with rfl|rfl|rfl
  ·exact vG V
  ·exact B.flat
  ·exact vG R) (λb hb=>by cases hb)
 refine oA he h ?_;refine O [y,u,w] b _ (.done (H2:=.nil) ⟨?_,rfl⟩ a_);have J:=(k1 (y,1,bC V) aW).co;have K:Co (φ u) (VX ws):=by
  rcases k1 (u,1,A) aW with⟨E,h2⟩|h2
  ·simp only at E h2;rw[h2];have:ws=[]:=List.length_eq_zero_iff.1 (by rw[←B.1,E];rfl);subst this;exact .nil 1
  ·simp only at h2;rw[h2];exact B.co
 have M:=(k1 (w,1,bC R) aW).co;refine .tup rfl λj p q l hq=>?_
 match j with
 |0=>
  cases l;cases hq;refine .agg rfl λj p q l hq=>?_
  match j with
  |0=>cases l;cases hq;exact J
  |1=>cases l;cases hq;exact K
  |2=>cases l;cases hq;exact M
  |j+3=>cases l
 |1=>cases l;cases hq;exact .refl _
 |j+2=>cases l
def js:fM:=⟨[],[],[]⟩
def Ns(f:aD)(room:List Int)(c:fM)(b:Bool):Prop:=
 (dX f=false∧c=js∧b=false)∨(dX f=true∧GG f room∧c=js∧b=false)∨(dX f=true∧¬GG f room∧uL f room c=true∧b=true)
def aGN(f:aD)(room:List Int)(r:PV)(H:PH):Prop:=∃c b,Ns f room c b∧cY (.tup [.agg c.cells,.bool b]) r H
def aSU(f:aD)(room:List Int)(r:PV)(H:PH):Prop:=∃c b,Ns f room c b∧r=.tup [.agg c.cells,.bool b]∧H=PH.nil
theorem aJ.why{C:Ctx}{name:Nat}{args:List PV}{f:aD}{room:List Int}(h:aJ C name args .nil (aGN f room)):aJ C name args .nil (aSU f room):=
 h.post λr H' ⟨ws,c,e,j,l⟩=>⟨_,j,ws,c,e,rfl,l⟩
theorem aMM{res:List fC}{f:aD}{room:List Int}{c:fM}{b:Bool}{e:nN}{F:PF}{H:PH}(j:Ns f room c b)(h:aV res (cY (.tup [.agg c.cells,.bool b])) e F H):aV res (aGN f room) e F H:=
 J9 (λr H' l=>⟨c,b,j,l⟩) h
abbrev gT(l e j:PV):cD:=.rows 3 [[l,e,j]]
def JS(f:aD)(S:Nat→Bool)(k:Nat):List Bool:=(a3U k).map λv=>S (cJ f v 0)
def yU(f:aD)(S:Nat→Bool)(v k:Nat):List Bool:=(a3U k).map λi=>S (cJ f v (i+1))
def cf(f:aD)(S:Nat→Bool)(k:Nat):List (List Bool):=(a3U k).map λv=>yU f S v (Z' f.a2J-1)
def WC(f:aD)(S:Nat→Bool)(k:Nat):List Bool:=(a3U k).map λd=>S (bG f d)
theorem vP{α:Type}(g:Nat→α)(k:Nat):(a3U (k+1)).map g=(a3U k).map g++[g k]:=by rw[a6N,a5L];rfl
theorem vH(l:List Bool)(b:Bool):bC l++[[.bool b]]=bC (l++[b]):=by simp[bC]
theorem aGY(f:aD)(S:Nat→Bool):BK f S=⟨JS f S f.a2I.length,cf f S f.a2I.length,WC f S f.a2G.length⟩:=rfl
theorem qf{S:Nat→Bool}{N i:Nat}(h:i<N):(bC ((a3U N).map S))[i]?=some [.bool (S i)]:=by
 rw[fA (by simp[h])];rw[a4D,a4Q,a6K h];rfl
def sf(v:PV):Prop:=∀(E e:Env)(u:Value),bF E v u→bF e v u
theorem sf.pair(n:Int)(b:Bool):sf (.tup [.int .i64 n,.bool b]):=λE y u h=>by
 cases h with
 |tup vs l w=>
  refine .tup vs l λj p v e x=>?_;have:=w j p v e x
  match j with
  |0=>cases e;cases this;exact .int _ _
  |1=>cases e;cases this;exact .bool _
  |j+2=>cases e
theorem aJ.aNH{C:Ctx}{name o s:Nat}{rs:List (List PV)}{args:List PV}{v:PV}(V:sf v)(h:aJ C name (args.map (PV.frz o s rs)) .nil (aK v)) :
  aJ C name args (PH.nil.set o (.rows s rs)) (λr H'=>r=v∧H'=PH.nil.set o (.rows s rs)):=by
 refine⟨h.1,λE w vs M hW F=>?_⟩;have W:lN (PF.args args) (PH.nil.set o (.rows s rs)) _ _:=.step o (s:=s) (rs:=rs) (by simp only[aU,if_true]) (.refl _ _);obtain⟨J,k1,k2,X⟩:=W.sound hW;rw[B6]at k1 k2;have B:=F.len;have I:gS J (args.map (PV.frz o s rs)) vs.toList:=by
  refine gS.of _ _ (by rw[a3V];exact B) λi p u R U=>?_;have:=X (λi=>(vs.toList[i]?).getD undef) (λj q K=>by have O:=(a5A.1 K).1;have A:j<Z' vs.toList:=Om;simp only[a4C A,a6R];exact F.at_ j q _ K (a4C A)) i p (by rw[sG,args_at,←a4Q];exact R)
  simp only[U,a6R]at this;exact this
 refine(h.2 J w vs (k2.env.num.trans M) k1 I).mono λe Y he=>?_;obtain⟨u,pv,Z,H2,rfl,N,S,y,rfl,rfl⟩:=he;have l:∀b,b<w.heap.size→Y.heap[b]?=w.heap[b]?:=λb hb=>y.block b hb rfl;exact⟨u,pv,E,_,rfl,hW.same y.size (λb hb _=>l b hb) (λq x hq=>l q (hW.h q x hq).1),V _ _ _ S,⟨.refl E,y.os,y.tape,y.output,y.size,λb hb _=>l b hb,λq x hq=>.inl ⟨x,hq⟩,λb cs hb=>.inl hb⟩,rfl,rfl⟩
def aTD(name:Nat)(v:PV):Spec:=λe vs=>if e=name then match vs with
 |[_,.osl o _ _ _]=>some ([o],λG r H'=>r=v∧H'=G)
 |_=>none
 else none
def qD(f:aD)(room:List Int)(c:fM):Bool:=dX f&&uL f room c
def yb(f:aD)(c:fM)(k:Nat):Prop:=∀r∈c.a2Q.take k,Z' r=Z' f.a2J-1
theorem aEM{f:aD}{c:fM}{k:Nat}(h:yb f c k):(c.a2Q.take k).flatten.length≤k*(Z' f.a2J-1):=by
 rw[CF h];exact a4Z _ (by rw[a4M];omega)
theorem aaC{f:aD}{c:fM}{k:Nat}(e:k<Z' c.a2Q)(h:c.a2Q[k].length≠Z' f.a2J-1):c.shape f=false:=by
 cases j:c.shape f with
 |false=>rfl
 |true=>exact absurd ((CP.1 j).r _ (a3Y e)) h
def aGT(f:aD)(c:fM)(o7:Nat)(v:PV)(k:Nat):PF:=(((((((PF.nil.set 3 (.bU f.cells)).set 5 (.bU c.cells)).set 7 (.ptr o7 4 0 0)).set 9 (v)).set 54 (VX c.a2Q)).set 55 (.int .i64 (Z' c.a2Q:Nat))).set 56 (.int .i64 (k:Nat)))
theorem aOM{C:Ctx}(Lb:VO C)(I:∀(n:cH)(cut:List Bool),fD n→b8 n cut→aJ C 293 [.agg n.cells,kC cut] .nil (aK (.tup [.int .i64 ((eD (λw=>cut.getD w false) n.arcs:Nat):Int),.bool true])))
  (f:aD) (hf:f.Ok) (room:List Int) (c:fM) (hc:Z' c.vols≤1000000∧Z' c.a2Q≤1000000∧Z' c.a3A≤1000000) :
  WI.wp C (aV aHL.res (aK (.bool (qD f room c)))) (PF.args [.agg f.cells,ints room,.agg c.cells]) .nil:=by
 have B:qD f room c=(dX f&&(c.shape f&&decide (eD (wI c) (eU f room)<qT f))):=rfl;obtain⟨δ,ε,ζ⟩:=hc;simp only[go_sem,WI,aiF,aHL,aiG];refine aB (Lb.net f room hf) rfl ?_;simp only[go_sem,AV];refine aQ λq hq=>?_;have h1:aN (PH.nil.set q jJ) [(q,jJ)] []:=aN.nil.new hq jJ;generalize(PH.nil.set q jJ)=H1 at *
 have q1:=h1.at 0 rfl;have h2:=h1.set 0 rfl (tE (HB f room));simp only[go_sem,q1];generalize H1.set q (.rows 4 [(HB f room).cells])=H2 at *
 cases A:dX f with
 |false =>simp only[go_sem,FH,FW A,NH];exact lH (b:=false) rfl (by rw[B,A];rfl)
 |true=>
  have hV:=VF.of A;have hs:=hV.small;have hr:=hV.root;have θ:=hs.a2J;have ι:=hs.a2G;have κ:=hs.a2I;have hn:=HC hV room;rw[FX A]at h2;rw[A,a4K]at B;by_cases c1:Z' c.vols=Z' f.a2I
  ·by_cases c2:Z' c.a2Q=Z' f.a2I
   ·by_cases c3:Z' c.a3A=Z' f.a2G
    ·simp only[go_sem,FH,qY A,fM.cells,a3V,bW (Om:(Z' c.vols:Int)=(Z' f.a2I:Nat)),bW (Om:(Z' c.a2Q:Int)=(Z' f.a2I:Nat)),bW (Om:(Z' c.a3A:Int)=(Z' f.a2G:Nat)),aiH];refine aQ λo ho=>?_;have h3:=h2.C2 (s:=1) (rows:=[[.bool true],[.bool false]]) ho;generalize H2.set o (.rows 1 [[.bool true],[.bool false]])=H3 at *
     simp only[go_sem];refine h3.append 0 (src:=bC c.vols) rfl rfl (by unfold roomFor;rw[hJ];simp only[a5P,a6F,maxLen];omega) λv4 H4 h4 _=>?_;simp only[go_sem,aiI,a3V];refine wp_loop (α:=Nat × PV × PH) (λs=>aGT f c q s.2.1 s.1) (λs=>s.2.2) (λs=>s.1≤Z' c.a2Q∧yb f c s.1∧aN s.2.2 [(q,tE (cW f room))] [(s.2.1,1,bC (true::false::(c.vols++(c.a2Q.take s.1).flatten)))]) (λs=>Z' c.a2Q-s.1) (0,v4,H4) ⟨a4A _,λr h=>by simp at h,by simpa using h4⟩ (by unfold aGT;(repeat' (first|exact c_|refine d_ ?_ ?_))<;>first|(simp only[go_sem,a3V,fM.cells]<;>rfl)|rfl) b_ ?_;rintro⟨k,v,H5⟩ ⟨hk,y,F⟩;simp only at hk y F;have Y:=aEM y;have η:k*(Z' f.a2J-1)≤12*40:=a7G Om Om;simp only[go_sem,Po,aiJ,aGT];by_cases hlt:k<Z' c.a2Q
     ·have l:(k:Int)<(Z' c.a2Q:Nat):=Om;have β:=wZz k;have W:(c.a2Q.map λw=>[kC w])[k]?=some [kC c.a2Q[k]]:=by simp[hlt]
      have hw:IntKind.i64.wrap ((Z' f.a2J:Int)-1)=((Z' f.a2J-1:Nat):Int):=by rw[wrap_i64 Om Om];omega
      have J:c.a2Q.take (k+1)=c.a2Q.take k++[c.a2Q[k]]:=a5W hlt;have γ:=aaC (f:=f) hlt;generalize c.a2Q[k]=row at *
      simp only[go_sem,l,aiK,W,aiL,a3V,hw];by_cases cr:Z' row=Z' f.a2J-1
      ·simp only[go_sem,bW (Om:(Z' row:Int)=((Z' f.a2J-1:Nat):Int)),Pp];refine F.append 0 (src:=bC row) rfl rfl (by unfold roomFor;rw[hJ,hJ];simp only[a5P,a3Z,maxLen];omega) λv' H' S _=>?_;simp only[go_sem,Pq,β];refine aH (k+1,v',H') ⟨hlt,?_,?_⟩ (by simp only;omega) Lq b_
       ·intro r hr;simp only at hr;rw[J]at hr;rcases a5E.1 hr with hr|hr
        ·exact y r hr
        ·rw[a4X]at hr;subst hr;exact cr
       ·simp only;have O:bC (true::false::(c.vols++(c.a2Q.take (k+1)).flatten))=bC (true::false::(c.vols++(c.a2Q.take k).flatten))++bC row:=by rw[J];simp[bC]
        show aN H' _ [(v',1,bC (true::false::(c.vols++(c.a2Q.take (k+1)).flatten)))];rw[O];exact S
      ·simp only[go_sem,cU (Om:¬(Z' row:Int)=((Z' f.a2J-1:Nat):Int)),aiM];exact lH (b:=false) rfl (by rw[B,γ cr];rfl)
     ·have l:¬(k:Int)<(Z' c.a2Q:Nat):=Om;have Z:k=Z' c.a2Q:=Om;subst Z;have e:Shape f c:=⟨c1,c2,c3,by have:=y;unfold yb at this;rwa[a5F]at this⟩;rw[a5F]at F Y;have E:H5 q=some (tE (cW f room)):=F.at 0 rfl;have j:sD c=true::false::(c.vols++(c.a2Q.flatten++c.a3A)):=rfl;have U:b8 (cW f room) (sD c):=⟨aGX hV e,rfl,rfl⟩;have X:=I (cW f room) (sD c) hn U;simp only[go_sem,l];refine aZ (PH.nil.set q (tE (cW f room))) (aTD 293 (.tup [.int .i64 ((eD (λw=>(sD c).getD w false) (cW f room).arcs:Nat):Int),.bool true])) (e_ a_ E) ?_;simp only[go_sem,Ps,E];refine F.append 0 (src:=bC c.a3A) rfl rfl (by unfold roomFor;rw[hJ,hJ];simp only[a5P,a3Z,maxLen];omega) λv' H' S _=>?_;have O:bC (true::false::(c.vols++c.a2Q.flatten))++bC c.a3A=bC (sD c):=by rw[j];simp[bC]
      have u:aN H' [(q,tE (cW f room))] [(v',1,bC (sD c))]:=by rw[←O];exact S
      obtain⟨p,rfl⟩:=(u.own 0 rfl).one (by rw[hJ,j];simp);obtain⟨rs,r1,r2,r3,r4⟩:=(u.own 0 rfl).id rfl;refine⟨e_ a_ (u.at 0 rfl),?_⟩;refine OL (o:=p) (x:=.rows 1 rs) (v:=.tup [.int .i64 ((eD (λw=>(sD c).getD w false) (cW f room).arcs:Nat):Int),.bool true]) (vs:=[.agg (cW f room).cells,.osl p 1 0 (bC (sD c)).length]) (R:=λG r H'=>r=(.tup [.int .i64 ((eD (λw=>(sD c).getD w false) (cW f room).arcs:Nat):Int),.bool true])∧H'=G) (by unfold aTD;rw[aL rfl]) r1 (aJ.aNH (sf.pair _ _) ?_) ⟨rfl,rfl⟩ (λr H' h=>h) rfl (e_ a_ (u.at 0 rfl)) ?_
      ·have e3:([.agg (cW f room).cells,.osl p 1 0 (bC (sD c)).length]:List PV).map (PV.frz p 1 rs)=[.agg (cW f room).cells,kC (sD c)]:=by show[PV.agg _,PV.frz p 1 rs (.osl p 1 0 (bC (sD c)).length)]=_;rw[yA r3,r4];rfl
       rw[e3];exact X
      ·rw[CP.2 e,a4K]at B;have V:qD f room c=decide (((eD (λw=>(sD c).getD w false) (cW f room).arcs:Nat):Int)<((qT f:Nat):Int)):=by rw[B];exact decide_eq_decide.2 ⟨λh=>Int.ofNat_lt.2 h,λh=>Int.ofNat_lt.1 h⟩
       generalize eD (λw=>(sD c).getD w false) (cW f room).arcs=cp at *
       simp only[go_sem,Pt];refine aB (Lb.demand f hV) rfl ?_;simp only[go_sem];exact lH rfl V.symm
    ·have N:¬(Z' c.a3A:Int)=(Z' f.a2G:Nat):=Om;simp only[go_sem,FH,qY A,fM.cells,a3V,bW (Om:(Z' c.vols:Int)=(Z' f.a2I:Nat)),bW (Om:(Z' c.a2Q:Int)=(Z' f.a2I:Nat)),cU N,NH];exact lH (b:=false) rfl (by rw[B,fM.shape,cF c3];simp)
   ·have M:¬(Z' c.a2Q:Int)=(Z' f.a2I:Nat):=Om;simp only[go_sem,FH,qY A,fM.cells,a3V,bW (Om:(Z' c.vols:Int)=(Z' f.a2I:Nat)),cU M,NH];exact lH (b:=false) rfl (by rw[B,fM.shape,cF c2];simp)
  ·have K:¬(Z' c.vols:Int)=(Z' f.a2I:Nat):=Om;simp only[go_sem,FH,qY A,fM.cells,a3V,cU K,NH];exact lH (b:=false) rfl (by rw[B,fM.shape,cF c1];simp)
theorem yi:Z' gX.a2I=1∧Z' gX.a2G=1:=by decide +kernel
theorem ayW:xC gX [[0]]:=⟨by decide +kernel,by decide +kernel,by decide +kernel⟩
theorem yg:GG gX []:=(aHO nA).2 ⟨_,ayW,agS⟩
theorem yh:¬GG gX [0]:=by
 rintro⟨u,A⟩;obtain⟨j,l⟩:=yi;have e:(0:Nat)<Z' gX.a2I:=Om;have w:(0:Nat)<Z' gX.a2G:=Om;have a1:=A.num 0 e;have a2:=A.room 0 w;have a3:=(nD (VF.of nA) e).2.1;have a4:SL gX [0] 0=0:=by decide +kernel
 rw[l]at a1;rw[j,a4]at a2;have x:iU (u 0) 1=one (u 0 0):=by simp[iU,dK]
 have y:iU (λv=>u v 0) 1=one (u 0 0):=by simp[iU,dK]
 omega
theorem aEX{u:Nat→Nat→Bool}(A:yM gX [] u):xM gX u=[[0]]:=by
 obtain⟨w,e⟩:=yi;have j:(0:Nat)<Z' gX.a2I:=Om;have a1:=A.num 0 j;have a3:=(nD (VF.of nA) j).2.1;rw[e]at a1;have l:iU (u 0) 1=one (u 0 0):=by simp[iU,dK]
 have x:u 0 0=true:=by
  cases h:u 0 0 with
  |true=>rfl
  |false=>rw[l,h,BS]at a1;omega
 unfold xM sK;rw[w,e];simp[x,Wt,a6N]
theorem agT{ws:List (List Int)}{c:Int}(h:NC gX [] ws c):ws=[[0]]∧c=0:=by
 rcases h with⟨h,-⟩|⟨-,⟨u,A,rfl⟩,rfl⟩|⟨-,h,-⟩
 ·rw[nA]at h;cases h
 ·exact⟨aEX A,rfl⟩
 ·exact absurd yg h
theorem ayX{ws:List (List Int)}{c:Int}(h:NC gX [0] ws c):ws=[]∧c=12:=by
 rcases h with⟨h,-⟩|⟨-,⟨u,A,-⟩,-⟩|⟨-,-,h⟩
 ·rw[nA]at h;cases h
 ·exact absurd ⟨u,A⟩ yh
 ·exact h
def pZ(c:fM):Prop:=Z' c.vols≤1000000∧Z' c.a2Q≤1000000∧Z' c.a3A≤1000000
theorem pZ.of{f:aD}(hV:VF f){c:fM}(h:Shape f c):pZ c:=by
 have e:=h.v;have j:=h.i;have l:=h.d;have u:=hV.small.a2I;have h5:=hV.small.a2G;unfold pZ;omega
theorem afY{f:aD}{room:List Int}{c:fM}(h:uL f room c=true):Shape f c:=by
 unfold uL at h;rw[a4P]at h;exact CP.1 h.1
theorem aEY{c:fM}{b:Bool}(h:Ns gX [0] c b):b=true∧uL gX [0] c=true∧uL gX [] c=false∧pZ c:=by
 have hV:=VF.of nA;rcases h with⟨h,-⟩|⟨-,h,-⟩|⟨-,-,h,rfl⟩
 ·rw[nA]at h;cases h
 ·exact absurd h yh
 ·refine⟨rfl,h,?_,.of hV (afY h)⟩;cases e:uL gX [] c with
  |false=>rfl
  |true=>exact absurd yg (check_sound hV e)
structure aAL(C:Ctx):Prop where
 fleet:∀(l:List Nat),(∀x∈l,x<256)→Z' l≤9223372036854775807→∀a2G a2I:Nat,a2G≤60→a2I≤50 →
  aJ C 27 [.sl 1 (mF l),.int .i64 a2G,.int .i64 a2I] .nil (aK (.agg (iH (l.take 400) a2G a2I 0).1.cells))
 place:∀(f:aD)(room:List Int),f.Ok→aJ C 288 [.agg f.cells,ints room] .nil (Og f room)
 why:∀(f:aD)(room:List Int),f.Ok→aJ C 289 [.agg f.cells,ints room] .nil (aSU f room)
 chk:∀(f:aD)(room:List Int)(c:fM),f.Ok→pZ c→aJ C 290 [.agg f.cells,ints room,.agg c.cells] .nil (aK (.bool (qD f room c)))
theorem aGB{C:Ctx}(L:aAL C):MT.wp C (aV aeI.res (aK (.bool true))) (PF.args []) .nil:=by
 have h:=L.fleet [] (λx I=>by cases I) aX 1 0 aX aX;have J:=(L.place gX [] yF).args (args:=[.agg gX.cells,.aE]) (.IA (.refl _) (.IA (.nil 1) .aJW));have K:=L.place gX [0] yF;have M:=L.why gX [0] yF;simp only[go_sem,MT,L9,Ma,aeI];refine aB (h.args (.IA (.nil 1) (.IA (.refl _) (.IA (.refl _) .aJW)))) rfl ?_;simp only[go_sem];refine aQ λo V=>?_;simp only[go_sem,Mb,a4J,a4U,or_false,forall_eq];show wpOps C bf _ _ (PH.nil.set o (.rows 7 [gX.cells]));have u:(PH.nil.set o (.rows 7 [gX.cells])) o=some (.rows 7 [gX.cells]):=by rw[bT]
 generalize U:(PH.nil.set o (.rows 7 [gX.cells]))=S at *
 have F:=yF;have w:=nA;have N:=λws c h=>agT (ws:=ws) (c:=c) h;have O:=λws c h=>ayX (ws:=ws) (c:=c) h;have R:=λc b h=>aEY (c:=c) (b:=b) h;have B:=λc=>L.chk gX [0] c yF;have E:=λc (h:pZ c)=>(L.chk gX [] c yF h).args (args:=[.agg gX.cells,.aE,.agg c.cells]) (.IA (.refl _) (.IA (.nil 1) (.IA (.refl _) .aJW)));generalize gX=f at *
 simp only[go_sem,bf,u];refine eY J rfl a_ ?_;rintro r H' ⟨ws,c,A,rfl,rfl⟩ -;rw[PH.qK];obtain⟨rfl,rfl⟩:=N _ _ A;simp only[go_sem,Mc,u];refine eY K rfl a_ ?_;rintro r H' ⟨ws,c,A,rfl,rfl⟩ -;rw[PH.qK];obtain⟨rfl,rfl⟩:=O _ _ A;simp only[go_sem,Md,u];refine eY M rfl a_ ?_;rintro r H' ⟨ct,b,A,rfl,rfl⟩ -;rw[PH.qK];obtain⟨rfl,g1,g2,g3⟩:=R _ _ A;have k1:=B ct g3;have k2:=E ct g3;rw[qD,w,a4K,g1]at k1;rw[qD,w,a4K,g2]at k2;simp only[go_sem];refine aQ λo2 y=>?_;have l:¬o=o2:=λe=>by rw[←e,u]at y;cases y
 have j:¬o2=o:=λe=>l e.symm;simp only[go_sem,Me,u,l,j,cA (show(0:Int)=0 from rfl),cA (show(12:Int)=12 from rfl),cA (show((1:Nat):Int)=1 from rfl),a3V,a5P,a6F];refine aB k1 rfl ?_;simp only[go_sem,u,l,j];refine aB k2 rfl ?_;simp only[go_sem];refine aT (.inr rfl) rfl ?_;rfl


abbrev ru(C:Ctx):Prop:=∀(l:List Nat)(v:PV),Tp l v→∀(o n a:Nat),n≤1000000→a≤Z' l→aJ C 4 [.ptr o 2 0 0,.int .i64 n] (PH.nil.set o (bE v a)) (cb l v o n a)
def aMY(l:List Nat)(v:PV)(o:Nat)(r:PV)(H:PH):Prop:=∃c a,pZ c∧a≤Z' l∧Co r (.agg c.cells)∧H=PH.nil.set o (bE v a)
def onS(o:Nat)(R:PV→PH→Prop):Spec:=λ_ _=>some ([o],λ_=>R)
theorem aAX{C:Ctx}{F:PF}{H Hs:PH}{st:Bool}{args:List aR}{d:Option Nat}{K:PF→PH→Prop}{name o:Nat}{x y:cD}{r:PV}{vs:List PV}(w:H o=some x)(h:aJ C name vs (PH.nil.set o x) (λe H'=>e=r∧H'=PH.nil.set o y))(l:aR.evs F args=some vs)
  (j:Hs.le (H.set o y)) (u:K (F.put d r) (H.set o y)):dOp C Hs (onS o (λe H'=>e=r∧H'=PH.nil.set o y)) st (.call name args) d K F H:=
 O8 (R:=λ_ e H'=>e=r∧H'=PH.nil.set o y) rfl w h ⟨rfl,rfl⟩ (λ_ _ h=>h) l j u
def ztF(f:aD)(o o4 o5 k:Nat):PF:=(((((PF.nil.set 0 (.ptr o 2 0 0)).set 3 (.bU f.cells)).set 4 (.ptr o4 3 0 0)).set 5 (.ptr o5 3 0 0)).set 6 (.int .i64 (k:Nat)))
def ztG(f:aD)(o o4 o5 k:Nat)(w:PV)(i:Nat):PF:=((ztF f o o4 o5 k).set 7 w).set 8 (.int .i64 ((i+1:Nat):Int))
def ztD(f:aD)(o o4 o5 k:Nat):PF:=(((((PF.nil.set 0 (.ptr o 2 0 0)).set 3 (.bU f.cells)).set 4 (.ptr o4 3 0 0)).set 5 (.ptr o5 3 0 0)).set 9 (.int .i64 (k:Nat)))
theorem aGC{C:Ctx}(W:ru C){K:cP}[Up K](f:aD)(hV:VF f){l:List Nat}{v:PV}(T:Tp l v)(o o4 o5 k a:Nat)(j:a≤Z' l)(x L1:LI)(B:List BX){F:PF}{H:PH}
  (u:aN H ((o,bE v a)::B) [x,L1,(.aE,1,[])]) (U:(ztG f o o4 o5 k .aE 0).le F)
  (V:∀y R N H',N≤Z' l→aN H' ((o,bE v N)::B) [x,L1,(y,1,bC R)]→K (.exit 2) ((ztF f o o4 o5 k).set 7 y) H'):aC.wp C (.loop bg) K F H:=by
 have Y:=hV.small;have X:=hV.root;have Z:=Y.a2J;refine wp_loop (α:=Nat × PV × List Bool × Nat × PH) (λs=>ztG f o o4 o5 k s.2.1 s.1) (λs=>s.2.2.2.2) (λs=>s.1+1≤Z' f.a2J∧s.2.2.1.length=s.1∧s.2.2.2.1≤Z' l∧aN s.2.2.2.2 ((o,bE v s.2.2.2.1)::B) [x,L1,(s.2.1,1,bC s.2.2.1)]) (λs=>Z' f.a2J-s.1) (0,.aE,[],a,H) ⟨by have:=X.1;omega,rfl,j,u⟩ U b_ ?_;rintro⟨i,w,R,a,H0⟩ ⟨hi,E,j,u⟩;simp only at hi E j u;simp only[go_sem,bg,aeR,ztG,ztF,a3V];by_cases hlt:i+1<Z' f.a2J
 ·have e:((i+1:Nat):Int)<(Z' f.a2J:Nat):=Om;have I:=eI (Om:i+1<9223372036854775807);have M:=W l v T o 2 a aX j;have J:=bZ l 2 j;simp only[go_sem,e,aeS];refine u.aLK 0 rfl M rfl λS A=>?_;have A:aN S ((o,bE v (aI l 2 a).2)::B) [x,L1,(w,1,bC R)]:=A;simp only[go_sem];refine A.append 2 (src:=[[.bool (((aI l 2 a).1:Int)==1)]]) rfl rfl (by unfold roomFor;rw[hJ,E];simp only[a4E,maxLen];omega) λy H' O _=>?_;rw[vH]at O;simp only[go_sem,Mf,I];exact aH (i+1,y,R++[((aI l 2 a).1:Int)==1],(aI l 2 a).2,H') ⟨hlt,by simp[E],J,O⟩ (by simp only;omega) (by(repeat' (first|exact c_|refine d_ ?_ ?_))<;>first|(simp only[go_sem,ztG,ztF]<;>rfl)|rfl) b_
 ·have e:¬((i+1:Nat):Int)<(Z' f.a2J:Nat):=Om;simp only[go_sem,e];exact Up.up (by(repeat' (first|exact c_|refine d_ ?_ ?_))<;>first|(simp only[go_sem,ztG,ztF]<;>rfl)|rfl) (V w R a H0 j u)
abbrev ztB(o o4 o5:Nat)(v l e j:PV)(a:Nat):List BX:=[(o,bE v a),(o5,gT l e j),(o4,gT .aE .aE .aE)]
theorem aAI{C:Ctx}(hn:ru C){K:cP}[Up K](f:aD)(hV:VF f){l:List Nat}{v:PV}(T:Tp l v)(o o4 o5 a:Nat)(X:a≤Z' l){F:PF}{H:PH}
  (W:aN H (ztB o o4 o5 v .aE .aE .aE a) [(.aE,1,[]),(.aE,1,[])]) (hF:(ztF f o o4 o5 0).le F)
  (hK:∀Y O e V ws M H',Z' V=Z' f.a2I→rB e ws→Z' ws=Z' f.a2I→M≤Z' l→aN H' (ztB o o4 o5 v Y O .aE M) [(Y,1,bC V),(O,1,e)]→K (.exit 0) (ztF f o o4 o5 f.a2I.length) H'):aC.wp C (.loop bi) K F H:=by
 have hs:=hV.small;have ξ:=hs.a2I;refine wp_loop (α:=Nat × PV × PV × (List (List PV) × List Bool × List (List Bool)) × Nat × PH) (λs=>ztF f o o4 o5 s.1) (λs=>s.2.2.2.2.2) (λs=>s.1≤Z' f.a2I∧s.2.2.2.1.2.1.length=s.1∧rB s.2.2.2.1.1 s.2.2.2.1.2.2∧s.2.2.2.1.2.2.length=s.1∧s.2.2.2.2.1≤Z' l∧aN s.2.2.2.2.2 (ztB o o4 o5 v s.2.1 s.2.2.1 .aE s.2.2.2.2.1) [(s.2.1,1,bC s.2.2.2.1.2.1),(s.2.2.1,1,s.2.2.2.1.1)]) (λs=>Z' f.a2I-s.1) (0,.aE,.aE,([],[],[]),a,H) ⟨a4A _,rfl,.nil,rfl,X,W⟩ hF b_ ?_;rintro⟨k,Y,O,⟨e,V,ws⟩,a,H0⟩ ⟨hk,N,j,J,X,W⟩;simp only at hk N j J X W;simp only[go_sem,bi,aeM,ztF,a3V];by_cases hlt:k<Z' f.a2I
 ·have B:(k:Int)<(Z' f.a2I:Nat):=Om;have δ:=wZz k;have γ:Z' e=k:=by rw[j.1];exact J
  have μ:=hn l v T o 2 a aX X;have ι:=bZ l 2 X;have ec:H0 o5=some (gT Y O .aE):=W.at 1 rfl;have h1:=W.set 0 rfl (bE v (aI l 2 a).2);simp only[go_sem,B];refine aZ (PH.nil.set o5 (gT Y O .aE)) (onS o (λr' H'=>r'=.int .i64 ((aI l 2 a).1:Nat)∧H'=PH.nil.set o (bE v (aI l 2 a).2))) (e_ a_ ec) ?_;simp only[go_sem,aeN];refine aAX (W.at 0 rfl) μ rfl (e_ a_ (h1.at 1 rfl)) ?_;simp only[go_sem];refine h1.append 0 (src:=[[.bool (((aI l 2 a).1:Int)==1)]]) rfl rfl (by unfold roomFor;rw[hJ,N];simp only[a4E,maxLen];omega) λρ H2 h2 I=>?_;obtain⟨w,ε⟩:=I aW;generalize ν:((bC V++[[PV.bool (((aI l 2 a).1:Int)==1)]]).length)=u at ε;subst ε;rw[vH]at h2;refine⟨e_ a_ (h2.at 1 rfl),?_⟩;refine aZ .nil cI a_ ?_;have η:=h2.at 1 rfl;have h3:=h2.set 1 rfl (gT (.osl w 1 0 u) O .aE);generalize θ:V++[((aI l 2 a).1:Int)==1]=V' at *
  have S:Z' V'=k+1:=by rw[←θ,a3Z,N];rfl
  simp only[go_sem,aeO,η];refine⟨a_,?_⟩;generalize H2.set o5 (.rows 3 [[.osl w 1 0 u,O,.aE]])=H3 at *
  have h4:=h3.lW 1;simp only[go_sem,aeP,aeQ];refine aGC hn f hV T o o4 o5 k (aI l 2 a).2 ι _ _ _ h4 (by(repeat' (first|exact c_|refine d_ ?_ ?_))<;>first|(simp only[go_sem,ztG,ztF]<;>rfl)|rfl) λw' R M H4 β h5=>?_;have Z:=h5.at 1 rfl;rcases h5.own 2 rfl with⟨hz,rfl⟩|⟨q,rs0,rfl,-⟩
  ·have ο:R=[]:=List.map_eq_nil_iff.1 hz;simp only[go_sem,bk,ztF,Z];refine h5.append 1 (src:=[[.aE]]) rfl rfl (by unfold roomFor;rw[γ];simp only[a4E,maxLen];omega) λζ H5 h6 I=>?_;obtain⟨A,E⟩:=I aW;have U:=h6.at 1 rfl;generalize κ:(e++[[PV.aE]]).length=y at E;subst E;have h7:=h6.set 1 rfl (gT (.osl w 1 0 u) (.osl A 1 0 y) .aE);simp only[go_sem,U];generalize H5.set o5 (.rows 3 [[.osl w 1 0 u,.osl A 1 0 y,.aE]])=H6 at *
   refine⟨_,aL (λx hx=>by rw[a4X]at hx;subst hx;rfl),?_⟩;simp only[go_sem,bn,δ];exact aH (k+1,PV.osl w 1 0 u,PV.osl A 1 0 y,(e++[[PV.aE]],V',ws++[[]]),M,H6) ⟨hlt,S,j.snoc (.inr ⟨rfl,rfl⟩),by simp[J],β,h7.cg 2⟩ (by simp only;omega) (by(repeat' (first|exact c_|refine d_ ?_ ?_))<;>first|(simp only[go_sem,ztF]<;>rfl)|rfl) b_
  ·simp only[go_sem,bk,ztF,Z];refine h5.append 1 (src:=[[.osl q 1 0 (bC R).length]]) rfl Sq (by unfold roomFor;rw[γ];simp only[a4E,maxLen];omega) λζ H5 h6 I=>?_;obtain⟨A,E⟩:=I aW;have U:=h6.at 1 rfl;generalize κ:(e++[[PV.osl q 1 0 (bC R).length]]).length=y at E;subst E;have h7:=h6.set 1 rfl (gT (.osl w 1 0 u) (.osl A 1 0 y) .aE);simp only[go_sem,U];generalize H5.set o5 (.rows 3 [[.osl w 1 0 u,.osl A 1 0 y,.aE]])=H6 at *
   refine⟨_,aL (λx hx=>by rw[a4X]at hx;subst hx;rfl),?_⟩;obtain⟨rs,z1,z2,z3,z4,z5⟩:=h7.frz 2 rfl;have y0:=z4 0 _ aX rfl;have y1:=z4 1 _ aX rfl;simp only at y0 y1;simp only[go_sem,bn,δ];refine IQ (k+1,PV.osl w 1 0 u,PV.osl A 1 0 y,(e++[[kC R]],V',ws++[R]),M,H6.frz q 1 rs) z1 ⟨hlt,S,j.snoc (.inl rfl),by simp[J],β,?_⟩ (by simp only;omega) (by(repeat' (first|exact c_|refine d_ ?_ ?_))<;>first|(simp only[go_sem,ztF]<;>rfl)|rfl) b_;simp only;have eB:(ztB o o4 o5 v (.osl w 1 0 u) (.osl A 1 0 y) .aE M).map (λb=>(b.1,b.2.frz q 1 rs))=ztB o o4 o5 v (.osl w 1 0 u) (.osl A 1 0 y) .aE M:=by show[(o,cD.rows 2 [[PV.cT q 1 rs v,.int .i64 M]]),(o5,cD.rows 3 [[PV.cT q 1 rs (.osl w 1 0 u),PV.cT q 1 rs (.osl A 1 0 y),.aE]]),(o4,gT .aE .aE .aE)]=_;rw[y0,y1,T.frz]
   have e5:(e++[[PV.osl q 1 0 (bC R).length]]).map (λr=>r.map (PV.cT q 1 rs))=e++[[kC R]]:=by rw[a5L,j.flat];show e++[[PV.cT q 1 rs (.osl q 1 0 (bC R).length)]]=_;rw[z2]
   have z6:aN (H6.frz q 1 rs) ((ztB o o4 o5 v (.osl w 1 0 u) (.osl A 1 0 y) .aE M).map (λb=>(b.1,b.2.frz q 1 rs))) [(.osl w 1 0 u,1,(bC V').map λr=>r.map (PV.cT q 1 rs)),(.osl A 1 0 y,1,(e++[[PV.osl q 1 0 (bC R).length]]).map λr=>r.map (PV.cT q 1 rs))]:=z5;rw[eB,e5,vG]at z6;exact z6
 ·have B:¬(k:Int)<(Z' f.a2I:Nat):=Om;have:k=Z' f.a2I:=Om;subst this;simp only[go_sem,B];exact Up.up (by(repeat' (first|exact c_|refine d_ ?_ ?_))<;>first|(simp only[go_sem,ztF]<;>rfl)|rfl) (hK Y O e V ws a H0 N j J X W)
theorem aAH{C:Ctx}(hn:ru C){K:cP}[Up K](f:aD)(hV:VF f){l:List Nat}{v:PV}(T:Tp l v)(o o4 o5 a:Nat)(w:a≤Z' l)(I:LI)(j y:PV)(M:List (List PV)){F:PF}{H:PH}
  (u:aN H (ztB o o4 o5 v y j .aE a) [I,(j,1,M),(.aE,1,[])]) (hF:(ztD f o o4 o5 0).le F)
  (hK:∀x R V H',Z' R=Z' f.a2G→V≤Z' l→aN H' (ztB o o4 o5 v y j x V) [I,(j,1,M),(x,1,bC R)]→K (.exit 4) (ztD f o o4 o5 f.a2G.length) H'):aC.wp C (.loop bj) K F H:=by
 have hs:=hV.small;have γ:=hs.a2G;refine wp_loop (α:=Nat × PV × List Bool × Nat × PH) (λs=>ztD f o o4 o5 s.1) (λs=>s.2.2.2.2) (λs=>s.1≤Z' f.a2G∧s.2.2.1.length=s.1∧s.2.2.2.1≤Z' l∧aN s.2.2.2.2 (ztB o o4 o5 v y j s.2.1 s.2.2.2.1) [I,(j,1,M),(s.2.1,1,bC s.2.2.1)]) (λs=>Z' f.a2G-s.1) (0,.aE,[],a,H) ⟨a4A _,rfl,w,u⟩ hF b_ ?_;rintro⟨k,x,R,a,H0⟩ ⟨hk,E,w,u⟩;simp only at hk E w u;simp only[go_sem,bj,Mh,ztD,a3V];by_cases hlt:k<Z' f.a2G
 ·have e:(k:Int)<(Z' f.a2G:Nat):=Om;have N:=wZz k;have S:=hn l v T o 2 a aX w;have O:=bZ l 2 w;have Z:H0 o5=some (gT y j x):=u.at 1 rfl;have W:=u.set 0 rfl (bE v (aI l 2 a).2);simp only[go_sem,e];refine aZ (PH.nil.set o5 (gT y j x)) (onS o (λr' H'=>r'=.int .i64 ((aI l 2 a).1:Nat)∧H'=PH.nil.set o (bE v (aI l 2 a).2))) (e_ a_ Z) ?_;simp only[go_sem,Mi];refine aAX (u.at 0 rfl) S rfl (e_ a_ (W.at 1 rfl)) ?_;simp only[go_sem];refine W.append 2 (src:=[[.bool (((aI l 2 a).1:Int)==1)]]) rfl rfl (by unfold roomFor;rw[hJ,E];simp only[a4E,maxLen];omega) λδ H2 B U=>?_;obtain⟨Y,A⟩:=U aW;generalize β:((bC R++[[PV.bool (((aI l 2 a).1:Int)==1)]]).length)=X at A;subst A;rw[vH]at B;refine⟨e_ a_ (B.at 1 rfl),?_⟩;refine aZ .nil cI a_ ?_;have J:=B.at 1 rfl;have h3:=B.set 1 rfl (gT y j (.osl Y 1 0 X));simp only[go_sem,Mj,J];refine⟨a_,?_⟩;simp only[go_sem,Mk,N];exact aH (k+1,.osl Y 1 0 X,R++[((aI l 2 a).1:Int)==1],(aI l 2 a).2,_) ⟨hlt,by simp[E],O,h3⟩ (by simp only;omega) (by(repeat' (first|exact c_|refine d_ ?_ ?_))<;>first|(simp only[go_sem,ztD]<;>rfl)|rfl) b_
 ·have e:¬(k:Int)<(Z' f.a2G:Nat):=Om;have:k=Z' f.a2G:=Om;subst this;simp only[go_sem,e];exact Up.up (by(repeat' (first|exact c_|refine d_ ?_ ?_))<;>first|(simp only[go_sem,ztD]<;>rfl)|rfl) (hK x R a H0 E w u)
theorem aMO{C:Ctx}(U:ru C)(f:aD)(hV:VF f){l:List Nat}{v:PV}(T:Tp l v)(o a:Nat)(ha:a≤Z' l) :
  UE.wp C (aV aAG.res (aMY l v o)) (PF.args [.ptr o 2 0 0,.agg f.cells]) (PH.nil.set o (bE v a)):=by
 have W:=hV.small;have α:=W.a2G;have β:=W.a2I;have h0:aN (PH.nil.set o (bE v a)) [(o,bE v a)] []:=aN.nil.new (H:=PH.nil) rfl _;generalize(PH.nil.set o (bE v a))=H0 at *
 simp only[go_sem,UE,aeJ,aAG];refine h0.uI λo4 H1 A=>?_;simp only[go_sem,aeK];refine A.uI λo5 H2 h2=>?_;have h3:aN H2 (ztB o o4 o5 v .aE .aE .aE a) [(.aE,1,[]),(.aE,1,[])]:=by refine((h2.lW 1).lW 1).perm ?_ (a6I.refl _);exact .cons _ (.swap _ _ _)
 simp only[go_sem,aeL];refine aAI U f hV T o o4 o5 a ha h3 (by(repeat' (first|exact c_|refine d_ ?_ ?_))<;>first|(simp only[go_sem,ztF]<;>rfl)|rfl) λw e F V ws a1 H3 I u M J h4=>?_;simp only[go_sem,Mg,ztF];refine aAH U f hV T o o4 o5 a1 J (w,1,bC V) e w F (h4.lW 1) (by(repeat' (first|exact c_|refine d_ ?_ ?_))<;>first|(simp only[go_sem,ztD]<;>rfl)|rfl) λy R a2 H4 hR K h5=>?_;have e5:=h5.at 1 rfl;have e4:=h5.at 2 rfl;have B:=h5.set 2 rfl (gT w e y);simp only[go_sem,Ml,ztD,e5,e4];refine⟨_,aL ?_,?_⟩
 ·rcases B.own 0 rfl with⟨_,N⟩|⟨q1,rs1,N,_⟩<;>rcases B.own 1 rfl with⟨_,O⟩|⟨q2,rs2,O,_⟩<;>rcases B.own 2 rfl with⟨_,S⟩|⟨q3,rs3,S,_⟩<;>rw[N,O,S]<;>rfl
 have h7:aN _ [(o,bE v a2)] [(w,1,bC V),(e,1,F),(y,1,bC R)]:=(B.wX 2).wX 1;obtain⟨φ,H5,k1,-,k3,k4⟩:=aN.giveUp _ h7 (λx X=>by
  simp only[a4J,a4U,or_false]at X;rcases X with rfl|rfl|rfl
  ·exact vG V
  ·exact u.flat
  ·exact vG R) (λb hb q s rs=>by
  rw[a4X]at hb;subst hb;show cD.rows 2 [[PV.cT q s rs v,.int .i64 a2]]=_;rw[T.frz])
 refine oA (vs:=[.agg [w,e,y]]) (.inr rfl) Sq ?_;refine k4 [w,e,y] _ (.done (H2:=PH.nil.set o (bE v a2)) ⟨⟨V,ws,R⟩,a2,⟨by rw[I];omega,by rw[M];omega,by rw[hR];omega⟩,K,?_,rfl⟩ (e_ a_ (k3.at 0 rfl)));have Y:=(k1 (w,1,bC V) aW).co;have Z:Co (φ e) (VX ws):=by
  rcases k1 (e,1,F) aW with⟨A,h2⟩|h2
  ·simp only at A h2;rw[h2];have:ws=[]:=List.length_eq_zero_iff.1 (by rw[←u.1,A];rfl);subst this;exact .nil 1
  ·simp only at h2;rw[h2];exact u.co
 have c3:=(k1 (y,1,bC R) aW).co;refine .agg rfl λj p q E hq=>?_
 match j with
 |0=>cases E;cases hq;exact Y
 |1=>cases E;cases hq;exact Z
 |2=>cases E;cases hq;exact c3
 |j+3=>cases E
structure aAM(C:Ctx):Prop where
 new:∀(l:List Nat),(∀x∈l,x<256)→Z' l≤9223372036854775807→aJ C 28 [.sl 1 (mF l)] .nil (OE l)
 tfleet:∀(l:List Nat)(v:PV),Tp l v→∀(o a2G a2I a:Nat),a2G≤60→a2I≤50→a≤Z' l →
  aJ C 0 [.ptr o 2 0 0,.int .i64 a2G,.int .i64 a2I] (PH.nil.set o (bE v a)) (λr H=>r=.agg (iH l a2G a2I a).1.cells∧H=PH.nil.set o (bE v (iH l a2G a2I a).2))
 dr:∀(l:List Nat)(v:PV),Tp l v→∀(o a:Nat)(f:aD),Z' f.a2G≤1000→a≤Z' l→aJ C 6 [.ptr o 2 0 0,.agg f.cells] (PH.nil.set o (bE v a)) (λr H=>r=ints (tG l f a).1∧H=PH.nil.set o (bE v (tG l f a).2))
theorem aN.aWX{C:Ctx}{F:PF}{H:PH}{B:List BX}{L:List LI}{args:List aR}{d:Option Nat}{K:PF→PH→Prop}(h:aN H B L){l:List Nat}(w:aJ C 28 [.sl 1 (mF l)] .nil (OE l))(j:aR.evs F args=some [.sl 1 (mF l)])(u:∀o v H',Tp (l.take 400) v→aN H' (B++[(o,bE v 0)]) L→K (F.put d (.ptr o 2 0 0)) H'):jX C 28 args [] d K F H:=by
 refine eY w j a_ ?_;rintro r H' ⟨o,v,rfl,T,rfl⟩ e;rw[PH.qL];exact u o v _ T (h.new (e o (bE v 0) (by rw[bT]) rfl) _)
theorem aTQ{l:List Nat}(hb:∀x∈l,x<256)(G:PH):∃r H',OE l r H'∧oP G .nil H':=by
 obtain⟨o,u⟩:=PH.fresh G;refine⟨.ptr o 2 0 0,_,⟨o,.sl 1 (mF (l.take 400)),rfl,⟨.inr rfl,λx w=>hb x (List.mem_of_mem_take w),by rw[a4M];omega⟩,rfl⟩,λp x j _=>?_⟩;rw[aU]at j;by_cases e:p=o
 ·subst e;exact u
 ·rw[aG e]at j;cases j
def aMX(o:Nat)(r:PV)(H:PH):Prop:=∃c v a,pZ c∧r=.agg c.cells∧H=PH.nil.set o (bE v a)
def aWD(l:List Nat):Spec:=λname vs=>if name=28 then some ([],λ_=>OE l)else match vs with
 | .ptr o _ _ _::_=>some ([o],λ_=>aMX o)
 |_=>none
structure ahC(C:Ctx):Prop extends aAM C where
 awake:aJ C 312 [] .nil (aK (.bool true))
 bits:∀(f:aD)(l:List Nat)(v:PV)(o a:Nat),VF f→Tp l v→a≤Z' l→aJ C 314 [.ptr o 2 0 0,.agg f.cells] (PH.nil.set o (bE v a)) (aMY l v o)
 place:∀(f:aD)(room:List Int),f.Ok→aJ C 288 [.agg f.cells,ints room] .nil (Og f room)
 chk:∀(f:aD)(room:List Int)(c:fM),f.Ok→pZ c→aJ C 290 [.agg f.cells,ints room,.agg c.cells] .nil (aK (.bool (qD f room c)))
 Dk:∀(f:aD)(room:List Int)(c:fM),f.Ok→pZ c→aJ C 311 [.agg f.cells,ints room,.agg c.cells] .nil (aK (.bool (qD f room c)))
theorem aWP(l:List Nat)(d v:Nat):(iH (l.take 400) d v 0).2≤(l.take 400).length:=aBK (l.take 400) d v (a4A _)
theorem aMP{C:Ctx}(e:ahC C)(l m:List Nat)(hb:∀x∈l,x<256)(hl:Z' l≤9223372036854775807)(B:∀x∈m,x<256)(hm:Z' m≤9223372036854775807) :
  UF.wp C (aV N8.res (aK (.bool true))) (PF.args [.sl 1 (mF l),.sl 1 (mF m)]) .nil:=by
 obtain⟨X,S⟩:=aHJ l (d:=6) (v:=3) aX aX;have hV:=VF.of X;have hd:=hV.small.a2G;have a1:=aWP l 6 3;have U:(iH (l.take 400) 6 3 0).1=fT l 6 3:=rfl;have k0:=λv T o=>e.tfleet (l.take 400) v T o 6 3 0 aX aX (a4A _);have k1:=λv T o=>e.dr (l.take 400) v T o (iH (l.take 400) 6 3 0).2 (fT l 6 3) Om a1;rw[U]at k0;have k2:=λv T o=>e.bits (fT l 6 3) (m.take 400) v o 0 hV T (a4A _);have k3:=e.place (fT l 6 3) (tG (l.take 400) (fT l 6 3) (iH (l.take 400) 6 3 0).2).1 S;have k4:=λc h=>e.chk (fT l 6 3) (tG (l.take 400) (fT l 6 3) (iH (l.take 400) 6 3 0).2).1 c S h;have k5:=λc h=>e.Dk (fT l 6 3) (tG (l.take 400) (fT l 6 3) (iH (l.take 400) 6 3 0).2).1 c S h;generalize(tG (l.take 400) (fT l 6 3) (iH (l.take 400) 6 3 0).2)=rt at *
 generalize(iH (l.take 400) 6 3 0).2=α at *
 generalize fT l 6 3=f at *
 simp only[go_sem,UF,aeT,aeU,N8];refine aN.nil.aWX (e.new l hb hl) rfl λo v H1 T M=>?_;have M:aN H1 [(o,bE v 0)] []:=M;simp only[go_sem,aeV];refine M.aLK 0 rfl (k0 v T o) rfl λH2 h2=>?_;simp only[go_sem];refine h2.uI λq H3 Z=>?_;have e3:=Z.at 1 rfl;have h4:=Z.set 1 rfl (.rows 7 [f.cells]);simp only[go_sem,e3];generalize H3.set q (.rows 7 [f.cells])=H4 at *
 have e4:=h4.at 1 rfl;simp only[go_sem,aeW,e4];refine h4.aLK 0 rfl (k1 v T o) rfl λK h5=>?_;have e5:=h5.at 1 rfl;have E:(PH.nil.set q (.rows 7 [f.cells])).le K:=e_ a_ e5;simp only[go_sem];refine aZ (PH.nil.set q (.rows 7 [f.cells])) (aWD m) E ?_;simp only[go_sem,aeX];refine Bt (R:=OE m) rfl (e.new m B hm) rfl (λG=>aTQ B G) ?_;rintro r H' ⟨o2,I,rfl,T2,rfl⟩ N;rw[PH.qL];have W:K o2=none:=N o2 (bE I 0) (by rw[bT]) rfl;have J:=h5.new W (bE I 0);refine⟨e_ a_ (J.at 1 rfl),?_⟩;have e6:=J.at 1 rfl;have A:=J.at 2 rfl;generalize K.set o2 (bE I 0)=H6 at *
 simp only[go_sem];have w:=oc A;refine⟨[.ptr o2 2 0 0,.agg f.cells],[o2],λ_=>aMX o2,by simp only[go_sem],rfl,λp j=>?_,?_,λG=>⟨.agg js.cells,PH.nil.set o2 (bE .aE 0),⟨js,_,_,⟨a4A _,a4A _,a4A _⟩,rfl,rfl⟩,λp x j y=>?_⟩,?_⟩
 ·rw[a4X]at j;subst j;exact⟨_,A⟩
 ·rw[w];exact(k2 I T2 o2).post λr H' ⟨c,a,g1,g2,g3,g4⟩=>⟨_,g3,c,I,a,g1,rfl,g4⟩
 ·rw[w]at y;rw[aU]at j y;split at y
  ·cases y
  ·rename_i V;rw[aG V]at j;cases j
 rintro r H' ⟨c,v3,a3,F,rfl,rfl⟩ -;rw[w,PH.sI];have h7:=J.set 2 rfl (bE v3 a3);refine⟨e_ a_ (h7.at 1 rfl),?_⟩;generalize H6.set o2 (bE v3 a3)=H7 at *
 simp only[go_sem];refine h7.uI λo8 H8 h8=>?_;have e8:=h8.at 3 rfl;simp only[go_sem];refine aZ .nil cI a_ ?_;have h9:=h8.set 3 rfl (.rows 3 [c.cells]);simp only[go_sem,aeY,e8];refine⟨a_,?_⟩;generalize H8.set o8 (.rows 3 [c.cells])=H9 at *
 have Y:=h9.at 1 rfl;have q2:=h9.at 3 rfl;simp only[go_sem,aeZ,Y];refine eY k3 rfl a_ ?_;rintro r H' ⟨ws,p,j,rfl,rfl⟩ -;rw[PH.qK];simp only[go_sem,afA,Y,q2];refine aB (k4 c F) rfl ?_;simp only[go_sem,afB,Y,q2];refine aB (k5 c F) rfl ?_;have O:qD f rt.1 c=true→p=12:=λh=>by
  rw[qD,X,a4K]at h;have y:=check_sound hV h;rcases j with⟨a,-⟩|⟨-,⟨u,b,-⟩,-⟩|⟨-,-,-,rfl⟩
  ·rw[X]at a;cases a
  ·exact absurd ⟨u,b⟩ y
  ·rfl
 cases hc:qD f rt.1 c with
 |false =>simp only[go_sem,beq_self_eq_true,a4O];refine aB e.awake rfl ?_;simp only[go_sem];exact lH rfl rfl
 |true =>simp only[go_sem,beq_self_eq_true,a4H,cA (O hc)];refine aB e.awake rfl ?_;simp only[go_sem];exact lH rfl rfl
structure AI(C:Ctx):Prop where
 node:∀(f:aD),Small f→0<Z' f.a2J→∀v i:Nat,v≤100→i≤100→aJ C 304 [.agg f.cells,.int .i64 (v:Nat),.int .i64 (i:Nat)] .nil (aK (.int .i64 ((cJ f v i:Nat):Int)))
 drv:∀(f:aD),Small f→∀d:Nat,d≤100→aJ C 305 [.agg f.cells,.int .i64 (d:Nat)] .nil (aK (.int .i64 ((bG f d:Nat):Int)))
 total:∀f:aD,VF f→aJ C 306 [.agg f.cells] .nil (aK (.int .i64 ((qT f:Nat):Int)))
 qvalid:∀f:aD,f.Ok→aJ C 67 [.agg f.cells] .nil (aK (.bool (dX f)))
 allowed:∀(f:aD)(p:eG)(d:Nat),VF f→Fits p.a2H→d<Z' f.a2G→aJ C 77 [.agg p.cells,.agg f.cells,.int .i64 d] .nil (aK (.bool (p.a2H.contains ((mdl f d:Nat):Int))))
 qroom:∀(f:aD)(room:List Int),f.Ok→aJ C 85 [.agg f.cells,ints room] .nil (aK (ints (JB f room)))
def quS(f:aD):Spec:=λname vs=>match name,vs with
 |304,[_,.int _ v,.int _ i]=>some ([],λ_=>aK (.int .i64 ((cJ f v.toNat i.toNat:Nat):Int)))
 |305,[_,.int _ d]=>some ([],λ_=>aK (.int .i64 ((bG f d.toNat:Nat):Int)))
 |_,_=>none
section
variable {C:Ctx} {F:PF} {H Hs:PH} {st:Bool} {f:aD} {args:List aR} {d:Option Nat} {K:PF→PH→Prop}
theorem uM(j:AI C)(x:Small f)(l:0<Z' f.a2J){v i:Nat}(y:v≤100)(hi:i≤100)(u:aR.evs F args=some [.agg f.cells,.int .i64 (v:Nat),.int .i64 (i:Nat)])(e:Hs.le H)(w:K (F.put d (.int .i64 ((cJ f v i:Nat):Int))) H):dOp C Hs (quS f) st (.call 304 args) d K F H:=
 cS (v:=.int .i64 ((cJ f v i:Nat):Int)) (by rfl) (j.node f x l v i y hi) u e w
theorem OK(j:AI C)(w:Small f){i:Nat}(hi:i≤100)(l:aR.evs F args=some [.agg f.cells,.int .i64 (i:Nat)])(e:Hs.le H)(u:K (F.put d (.int .i64 ((bG f i:Nat):Int))) H):dOp C Hs (quS f) st (.call 305 args) d K F H:=
 cS (v:=.int .i64 ((bG f i:Nat):Int)) (by rfl) (j.drv f w i hi) l e u
end
theorem DH{H:PH}{B:List BX}{v:PV}{l:List bR}{K:PV→PH→Prop}(a:bR)(h:aN H B [(v,4,l.map bR.cells)])(w:Z' l≤1000000)(u:∀q n H',aN H' B [(.osl q 4 0 n,4,(l++[a]).map bR.cells)]→K (.osl q 4 0 n) H'):pC H 4 32 v (.sl 4 [a.cells]) K:=by
 refine h.append 0 (src:=[a.cells]) rfl rfl (by unfold roomFor;rw[a3V];simp only[a4E,maxLen];omega) λv' H' j e=>?_;obtain⟨q,hq⟩:=e aW;generalize((l.map bR.cells++[a.cells]).length)=n at hq;subst hq;refine u q n H' ?_;rw[a5L];exact j
structure QO where
 o:Nat
 z:Nat
 p:Nat
def oV(f:aD)(room:List Int)(e:QO)(k:Nat):PF:=(((((PF.nil.set 1 (ints room)).set 2 (.bU f.cells)).set 4 (.ptr e.z 4 0 0)).set 6 (.ptr e.o 4 0 0)).set 7 (.int .i64 (k:Nat)))
def HF(f:aD)(room:List Int)(e:QO)(k i:Nat):PF:=((oV f room e k).set 8 (.ptr e.p 17 0 0)).set 9 (.int .i64 ((i+1:Nat):Int))
def o9(f:aD)(room:List Int)(e:QO)(k i:Nat):PF:=((oV f room e k).set 8 (.ptr e.p 17 0 0)).set 11 (.int .i64 (i:Nat))
theorem agN{C:Ctx}(f:aD)(p:eG){i:Nat}(hi:i<Z' f.a2J)(I:0≤lvl f i)(J:lvl f i<5){op:Nat}(K:PF→PH→Prop)(F:PF)(H:PH)(x:F 2=some (.bU f.cells))(y:F 9=some (.int .i64 (i:Nat)))(h8:F 8=some (.ptr op 17 0 0))(u:H op=some (rS p))
  (w:∀e:PF,e 10=some (.int .i64 (p.spread (lvl f i).toNat))→(∀G:PF,G.le F→(∀j,62≤j→j<71→G j=none)→G 10=none→G.le e)→K e H):wpOps C pj K F H:=by
 have h5:lvl f i<((5:Nat):Int):=Om;simp only[go_sem,pj,x,y,h8,pI hi,Ur hi,I,h5,Nat.mul_one];have B:lvl f i=0∨lvl f i=1∨lvl f i=2∨lvl f i=3∨lvl f i=4:=Om;have fin:∀e:PF,e 10=some (.int .i64 (p.spread (lvl f i).toNat))→(∀G:PF,G.le F→(∀j,62≤j→j<71→G j=none)→G 10=none→G.le e)→K e H:=w;clear w;rcases B with h|h|h|h|h
 all_goals
  rw[h]at fin ⊢;simp only[go_sem,u];refine fin _ rfl λG A E l=>?_
  repeat' (first|exact A|exact l|(exact E _ aX aX)|refine NN ?_ ?_)
theorem aEC{C:Ctx}(Lb:AI C){K:cP}[Up K](f:aD)(hV:VF f)(room:List Int)(e:QO)(N k:Nat)(hk:k<Z' f.a2I)(pre:List bR)(γ:Z' pre≤900000){F:PF}{H:PH}{B:List BX}(v:PV)
  (E:B[0]?=some (e.p,rS (cX f k)))
  (w:aN H ((e.o,cV N v)::B) [(v,4,pre.map bR.cells)]) (hF:(HF f room e k 0).le F)
  (hK:∀v' H',aN H' ((e.o,cV N v')::B) [(v',4,(pre++(a3U (Z' f.a2J-1)).map (kW f k)).map bR.cells)]→K (.exit 2) ((oV f room e k).set 8 (.ptr e.p 17 0 0)) H'):aC.wp C (.loop pd) K F H:=by
 have R:=hV.small;have hr:=hV.root;have ε:=R.a2J;have ζ:=R.a2I;have δ:¬e.o=e.p:=w.ne 0 1 rfl E aX;refine wp_loop (α:=Nat × PV × PH) (λs=>HF f room e k s.1) (λs=>s.2.2) (λs=>s.1+1≤Z' f.a2J∧aN s.2.2 ((e.o,cV N s.2.1)::B) [(s.2.1,4,(pre++(a3U s.1).map (kW f k)).map bR.cells)]) (λs=>Z' f.a2J-s.1) (0,v,H) ⟨by have:=hr.1;omega,by simpa using w⟩ hF b_ ?_;rintro⟨i,v,H0⟩ ⟨hi,w⟩;simp only at hi w;simp only[go_sem,pd,Y4,HF,oV,a3V];by_cases hlt:i+1<Z' f.a2J
 ·have u:((i+1:Nat):Int)<(Z' f.a2J:Nat):=Om;have Z:=eI (Om:i+1<9223372036854775807);obtain⟨d1,d2,d3,d4,d5⟩:=hV.dom (i+1) Om hlt;have β:=hV.Dg (Om:0<i+1) hlt;have A:H0 e.p=some (rS (cX f k)):=w.at 1 E;have V:H0 e.o=some (cV N v):=w.at 0 rfl;obtain⟨b1,b2,b3,b4⟩:=nD hV hk;obtain⟨hp,he⟩:=rT hV hk;have x:=hV.a2T _ (a3Y hp);rw[he]at x;have U:IntKind.i64.wrap ((cX f k).k+(cX f k).m)=((fQ f k:Nat):Int):=by rw[b3];exact wrap_i64 Om Om
  have η:=x.2.2.2.2.2.2.1 (lvl f (i+1)).toNat;have l:((vQ f k (i+1):Nat):Int)=if(cX f k).spread (lvl f (i+1)).toNat=0 then((fQ f k:Nat):Int)else(cX f k).spread (lvl f (i+1)).toNat:=by
   unfold vQ gZ;split
   ·rfl
   ·omega
  simp only[go_sem,u];refine agN f (cX f k) hlt Om Om (op:=e.p) _ _ _ rfl rfl rfl A λF1 y J=>?_;have Y:=J (HF f room e k i) (by(repeat' (first|exact c_|refine d_ ?_ ?_))<;>first|(simp only[go_sem,HF,oV]<;>rfl)|rfl) (λj O h2=>by have:j=62∨j=63∨j=64∨j=65∨j=66∨j=67∨j=68∨j=69∨j=70:=Om;rcases this with rfl|rfl|rfl|rfl|rfl|rfl|rfl|rfl|rfl<;>rfl) rfl
  clear J;have I:∀S:PF,((HF f room e k i).set 10 (.int .i64 ((vQ f k (i+1):Nat):Int))).le S →
    aC.wp C (.draw po) (kT C (aC.wp C (.draw pq)) (gP 3 (kT C (aC.wp C (.region pt)) (iR (λs:Nat × PV × PH=>HF f room e k s.1) (λs=>s.2.2) (λs=>s.1+1≤Z' f.a2J∧aN s.2.2 ((e.o,cV N s.2.1)::B) [(s.2.1,4,(pre++(a3U s.1).map (kW f k)).map bR.cells)]) (λs=>Z' f.a2J-s.1) (Z' f.a2J-i) K)))) S H0:=by
   intro S X;refine uB _ (λ_ _ _ _ a b=>Up.up a b) X ?_;refine aZ (PH.nil.set e.o (cV N v)) (quS f) (e_ a_ V) ?_;simp only[go_sem,po,HF,oV,pI hlt,Yd hlt,β];refine uM Lb R hr.1 (v:=k) (i:=kK f (i+1)) Om Om rfl (e_ a_ V) ?_;simp only[go_sem];refine uM Lb R hr.1 (v:=k) (i:=i+1) Om Om rfl (e_ a_ V) ?_;simp only[go_sem];refine DH (kW f k i) w (by rw[a3Z,a3V,a6M];omega) λq n H1 O=>?_;refine⟨e_ a_ (O.at 0 rfl),?_⟩;have W:=O.at 0 rfl;refine aZ .nil cI a_ ?_;simp only[go_sem,pq,W];refine⟨a_,?_⟩;have h2:=O.set 0 rfl (cV N (.osl q 4 0 n));simp only[go_sem,pt,Z];refine aH (i+1,.osl q 4 0 n,_) ⟨hlt,?_⟩ (by simp only;omega) (by(repeat' (first|exact c_|refine d_ ?_ ?_))<;>first|(simp only[go_sem,HF,oV]<;>rfl)|rfl) b_;simp only;rw[OH];exact h2
  by_cases M:(cX f k).spread (lvl f (i+1)).toNat=0
  ·rw[aL M]at l;have f8:=Y 8 _ rfl;simp only[go_sem,pn,y,cA M,Y5,f8,A,U];refine I _ (d_ ?_ (by simp only[go_sem,l]))
   repeat' (first|exact Y|refine NN ?_ rfl)
  ·rw[aG M]at l;simp only[go_sem,pn,y,bJ M];refine I _ (d_ ?_ (by simp only[go_sem,y,l]))
   repeat' (first|exact Y|refine NN ?_ rfl)
 ·have u:¬((i+1:Nat):Int)<(Z' f.a2J:Nat):=Om;have:i=Z' f.a2J-1:=Om;subst this;simp only[go_sem,u];exact Up.up (by(repeat' (first|exact c_|refine d_ ?_ ?_))<;>first|(simp only[go_sem,HF,oV]<;>rfl)|rfl) (hK v H0 w)
theorem aED{C:Ctx}(A:AI C){K:cP}[Up K](f:aD)(hV:VF f)(room:List Int)(e:QO)(N k:Nat)(hk:k<Z' f.a2I)(w:Fits (cX f k).a2H)(pre:List bR)(U:Z' pre≤900000){F:PF}{H:PH}{B:List BX}(v:PV)
  (O:B[0]?=some (e.p,rS (cX f k)))
  (l:aN H ((e.o,cV N v)::B) [(v,4,pre.map bR.cells)]) (X:(o9 f room e k 0).le F)
  (Y:∀v' H',aN H' ((e.o,cV N v')::B) [(v',4,(pre++((a3U f.a2G.length).filter (okD f k)).map (eT f k)).map bR.cells)]→K (.exit 4) (oV f room e k) H'):aC.wp C (.loop pe) K F H:=by
 have y:=hV.small;have Z:=hV.root;have β:=y.a2J;have γ:=y.a2G;have δ:=y.a2I;refine wp_loop (α:=Nat × PV × PH) (λs=>o9 f room e k s.1) (λs=>s.2.2) (λs=>s.1≤Z' f.a2G∧aN s.2.2 ((e.o,cV N s.2.1)::B) [(s.2.1,4,(pre++((a3U s.1).filter (okD f k)).map (eT f k)).map bR.cells)]) (λs=>Z' f.a2G-s.1) (0,v,H) ⟨a4A _,by simpa using l⟩ X b_ ?_;rintro⟨i,v,H0⟩ ⟨hi,l⟩;simp only at hi l;simp only[go_sem,pe,Y7,o9,oV,a3V];by_cases hlt:i<Z' f.a2G
 ·have j:(i:Int)<(Z' f.a2G:Nat):=Om;have x:=wZz i;obtain⟨d1,d2,d3,d4,d5⟩:=hV.drive i hlt;have S:okD f k i=(cX f k).a2H.contains ((mdl f i:Nat):Int):=rfl;have E:H0 e.p=some (rS (cX f k)):=l.at 1 O;have I:H0 e.o=some (cV N v):=l.at 0 rfl;have u:=ep (okD f k) i;simp only[go_sem,j,Y8,E];refine aB (A.allowed f (cX f k) i hV w hlt) rfl ?_;rw[←S];cases hb:okD f k i with
  |false =>rw[hb,aG aX,a5O]at u;rw[←u]at l;simp only[go_sem,pu,x];exact aH (i+1,v,H0) ⟨hlt,l⟩ (by simp only;omega) (by(repeat' (first|exact c_|refine d_ ?_ ?_))<;>first|(simp only[go_sem,o9,oV]<;>rfl)|rfl) b_
  |true=>
   rw[hb,aL rfl]at u;have R:=List.length_filter_le (okD f k) (a3U i);rw[a6M]at R;simp only[go_sem];refine aZ (PH.nil.set e.o (cV N v)) (quS f) (e_ a_ I) ?_;simp only[go_sem,Y9,rE hlt,hV.cz hlt];refine uM A y Z.1 (v:=k) (i:=fR f i) Om Om rfl (e_ a_ I) ?_;simp only[go_sem];refine OK A y (i:=i) Om rfl (e_ a_ I) ?_;simp only[go_sem];refine DH (eT f k i) l (by rw[a3Z,a3V];omega) λq n H1 M=>?_;refine⟨e_ a_ (M.at 0 rfl),?_⟩;have J:=M.at 0 rfl;refine aZ .nil cI a_ ?_;simp only[go_sem,Za,J];refine⟨a_,?_⟩;have W:=M.set 0 rfl (cV N (.osl q 4 0 n));simp only[go_sem,pu,x];refine aH (i+1,.osl q 4 0 n,_) ⟨hlt,?_⟩ (by simp only;omega) (by(repeat' (first|exact c_|refine d_ ?_ ?_))<;>first|(simp only[go_sem,o9,oV]<;>rfl)|rfl) b_;simp only;have V:pre++((a3U (i+1)).filter (okD f k)).map (eT f k)=pre++((a3U i).filter (okD f k)).map (eT f k)++[eT f k i]:=by rw[u,a5L,←a5C];rfl
   rw[V];exact W
 ·have j:¬(i:Int)<(Z' f.a2G:Nat):=Om;have:i=Z' f.a2G:=Om;subst this;simp only[go_sem,j];exact Up.up (by(repeat' (first|exact c_|refine d_ ?_ ?_))<;>first|(simp only[go_sem,o9,oV]<;>rfl)|rfl) (Y v H0 l)
theorem aEE{C:Ctx}(J:AI C){K:cP}[Up K](f:aD)(hf:f.Ok)(hV:VF f)(room:List Int)(o z:Nat)(N:Nat){F:PF}{H:PH}
  (u:aN H [(o,cV N .aE),(z,jJ)] [(.aE,4,[])]) (hF:(oV f room ⟨o,z,0⟩ 0).le F)
  (hK:∀v' H',aN H' [(o,cV N v'),(z,jJ)] [(v',4,((a3U f.a2I.length).flatMap (fV f)).map bR.cells)]→K (.exit 0) (oV f room ⟨o,z,0⟩ f.a2I.length) H'):aC.wp C (.loop pg) K F H:=by
 have A:=hV.small;have hr:=hV.root;have γ:=A.a2J;have δ:=A.a2G;have ε:=A.a2I;refine wp_loop (α:=Nat × PV × PH) (λs=>oV f room ⟨o,z,0⟩ s.1) (λs=>s.2.2) (λs=>s.1≤Z' f.a2I∧aN s.2.2 [(o,cV N s.2.1),(z,jJ)] [(s.2.1,4,((a3U s.1).flatMap (fV f)).map bR.cells)]) (λs=>Z' f.a2I-s.1) (0,.aE,H) ⟨a4A _,by simpa using u⟩ hF b_ ?_;rintro⟨k,v,H0⟩ ⟨hk,u⟩;simp only at hk u;simp only[go_sem,pg,aqR,oV,a3V];by_cases hlt:k<Z' f.a2I
 ·have e:(k:Int)<(Z' f.a2I:Nat):=Om;have S:=wZz k;obtain⟨V,he⟩:=rT hV hlt;have j:=(hf.a2T _ (a3Y V)).a2H;rw[he]at j;have w:=hV.a2T _ (a3Y V);rw[he]at w;obtain⟨b1,b2,b3,b4⟩:=nD hV hlt;have M:IntKind.i64.wrap ((cX f k).k+(cX f k).m)=((fQ f k:Nat):Int):=by rw[b3];exact wrap_i64 Om Om
  have β:=CR A k;simp only[go_sem,e];refine aZ .nil cI a_ ?_;simp only[go_sem,aqS,AA hlt,hV.YV hlt,tR V,he];refine u.uI λp Z Y=>?_;have g1:=Y.qA;have h2:=Y.wD (rS (cX f k));simp only[go_sem,g1];refine⟨a_,?_⟩;generalize Z.set p (.rows 17 [(cX f k).cells])=H2 at *
  have E:aN H2 [(o,cV N v),(p,rS (cX f k)),(z,jJ)] [(v,4,((a3U k).flatMap (fV f)).map bR.cells)]:=by refine h2.perm ?_ (a6I.refl _);exact .cons _ (.swap _ _ _)
  have W:H2 o=some (cV N v):=E.at 0 rfl;have X:H2 p=some (rS (cX f k)):=E.at 1 rfl;have U:¬o=p:=E.ne 0 1 rfl rfl aX;obtain⟨Hs,so,sp,l⟩:=uh (x:=cV N v) (y:=rS (cX f k)) U;refine aZ Hs (quS f) (l _ W X) ?_;simp only[go_sem,aqT,so];refine uM J A hr.1 (v:=k) (i:=0) Om Om rfl (l _ W X) ?_;simp only[go_sem,sp,M];refine DH (⟨0,cJ f k 0,fQ f k⟩:bR) E Om λq n H3 I=>?_;refine⟨l _ (I.at 0 rfl) (I.at 1 rfl),?_⟩;have O:=I.at 0 rfl;refine aZ .nil cI a_ ?_;simp only[go_sem,aqU,O];refine⟨a_,?_⟩;have h5:=I.set 0 rfl (cV N (.osl q 4 0 n));simp only[go_sem,aqV];refine aEC J f hV room ⟨o,z,p⟩ N k hlt ((a3U k).flatMap (fV f)++[(⟨0,cJ f k 0,fQ f k⟩:bR)]) (by rw[a3Z,a4E];omega) (.osl q 4 0 n) (B:=[(p,rS (cX f k)),(z,jJ)]) rfl h5 (by(repeat' (first|exact c_|refine d_ ?_ ?_))<;>first|(simp only[go_sem,HF,oV]<;>rfl)|rfl) λv2 H8 h9=>?_;simp only[go_sem,Y6,oV];refine aED J f hV room ⟨o,z,p⟩ N k hlt j ((a3U k).flatMap (fV f)++[(⟨0,cJ f k 0,fQ f k⟩:bR)]++(a3U (Z' f.a2J-1)).map (kW f k)) (by rw[a3Z,a3Z,a4E,a3V,a6M];omega) (B:=[(p,rS (cX f k)),(z,jJ)]) v2 rfl h9 (by(repeat' (first|exact c_|refine d_ ?_ ?_))<;>first|(simp only[go_sem,o9,oV]<;>rfl)|rfl) λv3 H9 R=>?_;simp only[go_sem,Zb,oV,S];refine aH (k+1,v3,H9) ⟨hlt,?_⟩ (by simp only;omega) (by(repeat' (first|exact c_|refine d_ ?_ ?_))<;>first|(simp only[go_sem,oV]<;>rfl)|rfl) b_;simp only;have ev:(a3U (k+1)).flatMap (fV f)=(a3U k).flatMap (fV f)++[(⟨0,cJ f k 0,fQ f k⟩:bR)]++(a3U (Z' f.a2J-1)).map (kW f k)++((a3U f.a2G.length).filter (okD f k)).map (eT f k):=by rw[TU];unfold fV;simp[cJ]
  rw[ev];exact R.wX 1
 ·have e:¬(k:Int)<(Z' f.a2I:Nat):=Om;have:k=Z' f.a2I:=Om;subst this;simp only[go_sem,e];exact Up.up (by(repeat' (first|exact c_|refine d_ ?_ ?_))<;>first|(simp only[go_sem,oV]<;>rfl)|rfl) (hK v H0 u)
theorem ayK{C:Ctx}(I:AI C){K:cP}[Up K](f:aD)(hV:VF f)(room:List Int)(o z N:Nat)(pre:List bR)(B:Z' pre≤900000){F:PF}{H:PH}(v:PV)
  (j:aN H [(o,cV N v),(z,jJ)] [(v,4,pre.map bR.cells)])
  (M:((((((PF.nil.set 2 (.bU f.cells)).set 4 (.ptr z 4 0 0)).set 6 (.ptr o 4 0 0)).set 12 (.sl 1 (cC (nP f room)))).set 13 (.int .i64 0))).le F)
  (O:∀v' H',aN H' [(o,cV N v'),(z,jJ)] [(v',4,(pre++(a3U f.a2G.length).map (oR f room)).map bR.cells)]→K (.exit 6) (((PF.nil.set 4 (.ptr z 4 0 0)).set 6 (.ptr o 4 0 0))) H'):aC.wp C (.loop pi) K F H:=by
 have E:=hV.small;have R:=E.a2G;refine wp_loop (α:=Nat × PV × PH) (λs=>(((((PF.nil.set 2 (.bU f.cells)).set 4 (.ptr z 4 0 0)).set 6 (.ptr o 4 0 0)).set 12 (.sl 1 (cC (nP f room)))).set 13 (.int .i64 (s.1:Nat)))) (λs=>s.2.2) (λs=>s.1≤Z' f.a2G∧aN s.2.2 [(o,cV N s.2.1),(z,jJ)] [(s.2.1,4,(pre++(a3U s.1).map (oR f room)).map bR.cells)]) (λs=>Z' f.a2G-s.1) (0,v,H) ⟨a4A _,by simpa using j⟩ M b_ ?_;rintro⟨i,v,H0⟩ ⟨hi,j⟩;simp only at hi j;simp only[go_sem,pi,Ze,a3V];by_cases hlt:i<Z' f.a2G
 ·have e:(i:Int)<(Z' f.a2G:Nat):=Om;have x:=wZz i;have y:i<(nP f room).length:=by rw[sS];exact hlt
  have l:=AS y;obtain⟨r1,r2⟩:=zT hV room hlt;rw[SK,←r2]at l;have A:=j.at 0 rfl;simp only[go_sem,e];refine aZ (PH.nil.set o (cV N v)) (quS f) (e_ a_ A) ?_;simp only[go_sem,Zf];refine OK I E (i:=i) Om rfl (e_ a_ A) ?_;simp only[go_sem,l,jR,sS,e];refine DH (oR f room i) j (by rw[a3Z,a3V,a6M];omega) λq n S w=>?_;refine⟨e_ a_ (w.at 0 rfl),?_⟩;have u:=w.at 0 rfl;refine aZ .nil cI a_ ?_;simp only[go_sem,Zg,u];refine⟨a_,?_⟩;have J:=w.set 0 rfl (cV N (.osl q 4 0 n));simp only[go_sem,Zh,x];refine aH (i+1,.osl q 4 0 n,_) ⟨hlt,?_⟩ (by simp only;omega) Lq b_;simp only;rw[OH];exact J
 ·have e:¬(i:Int)<(Z' f.a2G:Nat):=Om;have:i=Z' f.a2G:=Om;subst this;simp only[go_sem,e];exact Up.up Lq (O v H0 j)
theorem aRA{C:Ctx}(l:AI C)(f:aD)(y:f.Ok)(room:List Int) :
  ZB.wp C (aV Dm.res (cY (AV f room))) (PF.args [.agg f.cells,ints room]) .nil:=by
 simp only[go_sem,ZB,aqM,Dm];refine aQ λz N=>?_;simp only[go_sem,aqN];refine aB (l.qvalid f y) rfl ?_;have x:aN (PH.nil.set z jJ) [(z,jJ)] []:=aN.nil.new N jJ;generalize(PH.nil.set z jJ)=R at *
 have I:=x.at 0 rfl;cases j:dX f with
 |false =>simp only[go_sem,a4O,aqO,I];rw[AV,aoF j,FW j];have J:=(x.set 0 rfl jJ).lW 4;refine oA (vs:=[.agg [.int .i64 0,.int .i64 0,.int .i64 0,.aE],.int .i64 1]) (.inr rfl) Sq ?_;exact cl J
 |true=>
  have hV:=VF.of j;have w:=hV.small;rw[AV,FX j,qY j];simp only[go_sem,a4H,aqP,a3V];refine aB (l.drv f w f.a2G.length (by have:=w.a2G;omega)) rfl ?_;simp only[go_sem];refine x.uI λo E A=>?_;have g4:=A.at 1 rfl;have h5:=A.set 1 rfl (cV (bG f f.a2G.length) .aE);simp only[go_sem,g4];generalize E.set o (.rows 4 [[.int .i64 ((bG f f.a2G.length:Nat):Int),.int .i64 0,.int .i64 1,.aE]])=F at *
  have K:aN F [(o,cV (bG f f.a2G.length) .aE),(z,jJ)] [(.aE,4,[])]:=by refine(h5.lW 4).perm ?_ (a6I.refl _);exact(List.reverse_perm _).symm
  simp only[go_sem,aqQ];refine aEE l f y hV room o z _ K (by(repeat' (first|exact c_|refine d_ ?_ ?_))<;>first|(simp only[go_sem,oV]<;>rfl)|rfl) λO S h7=>?_;have u:=l.qroom f room y;rw[JB,aL j]at u;simp only[go_sem,Zc,oV];refine aB u rfl ?_;simp only[go_sem,Zd];refine ayK l f hV room o z _ ((a3U f.a2I.length).flatMap (fV f)) (by have:=CR w f.a2I.length;have:=w.a2I;omega) O h7 Lq λB U h8=>?_;have a7:=h8.at 0 rfl;have a4:=h8.at 1 rfl;have M:=h8.set 1 rfl (cV (bG f f.a2G.length) B);simp only[go_sem,Zi,a7,a4];refine⟨_,aL ?_,?_⟩
  ·rcases h8.own 0 rfl with⟨_,e⟩|⟨q,rs,e,_⟩<;>rw[e]
  refine oA (vs:=[.agg [.int .i64 ((bG f f.a2G.length:Nat):Int),.int .i64 0,.int .i64 1,B],.int .i64 0]) (.inr rfl) Sq ?_;exact cl M
theorem ayO{res:List fC}{F:PF}{H:PH}{j:PV}{ps:WPs}{e:nN}(he:e=.normal∨e=.ret)(h:fC.evs F H res=some [j])(l:aN H [] (tC j ps)):aV res (cY (lists (wls ps))) e F H:=by
 obtain⟨φ,w,k1,-,-,-,u,-⟩:=RE ps [] [] .nil l (λb hb=>by cases hb);refine oA he h ⟨_,_,.nil,u _,a_,φ (cE [j]),?_,?_⟩
 ·rw[wE,pF,aL rfl];rfl
 ·exact⟨k1,rfl⟩
theorem aAY{f:aD}{v w i:Nat}(e:0<i)(hi:i<Z' f.a2J)(h:cJ f v i=cJ f w i):v=w:=by
 unfold cJ at h;rw[aG Om,aG Om]at h;rcases Nat.lt_trichotomy v w with c|c|c
 ·have:=a4Z (Z' f.a2J-1) (Om:v+1≤w);rw[a6D]at this;omega
 ·exact c
 ·have:=a4Z (Z' f.a2J-1) (Om:w+1≤v);rw[a6D]at this;omega
def wL(f:aD)(n:cH)(xs:List Nat)(e k:Nat):PF:=(((((PF.nil.set 2 (.sl 1 (fF xs))).set 3 (.bU f.cells)).set 4 (.bU n.cells)).set 7 (.osl e 1 0 f.a2I.length)).set 8 (.int .i64 (k:Nat)))
def ou(f:aD)(n:cH)(xs:List Nat)(e k:Nat)(d j:Nat):PF:=((wL f n xs e k).set 9 (.int .i64 (d:Nat))).set 10 (.int .i64 (j:Nat))
theorem aKQ{C:Ctx}(Lb:AI C){K:cP}[Up K](f:aD)(hV:VF f)(room:List Int)(xs:List Nat)(M k v d:Nat)(hk:k<(cW f room).arcs.length)(hv:v<Z' f.a2I)(hd:d<Z' f.a2G)(ha:bX (cW f room) k=eT f v d)(W Y:List (List Int))(hW:Z' W=Z' f.a2I)(δ:(W.getD v []).length≤1000000)
  (R:W.set v (W.getD v []++[(d:Int)])=Y) (ps:WPs) (l:wls ps=W) {F:PF} {H:PH} (E:aN H [(M,.rows 1 (eE ps))] (jK ps)) (hF:(ou f (cW f room) xs M k d 0).le F)
  (hK:∀J H',wls J=Y→aN H' [(M,.rows 1 (eE J))] (jK J)→K (.exit 2) (wL f (cW f room) xs M k) H'):aC.wp C (.loop ov) K F H:=by
 have hs:=hV.small;have hr:=hV.root;have θ:=hs.a2J;have ι:=hs.a2I;have X:=l5 hV hd;refine wp_loop (α:=Nat × WPs × PH) (λs=>ou f (cW f room) xs M k d s.1) (λs=>s.2.2) (λs=>s.1≤Z' f.a2I∧wls s.2.1=(if v<s.1 then Y else W)∧aN s.2.2 [(M,.rows 1 (eE s.2.1))] (jK s.2.1)) (λs=>Z' f.a2I-s.1) (0,ps,H) ⟨a4A _,by simpa using l,E⟩ hF b_ ?_;rintro⟨j,ps,H0⟩ ⟨hj,l,E⟩;simp only at hj l E;have O:Z' Y=Z' f.a2I:=by rw[←R,a5Q,hW]
 have η:Z' ps=Z' f.a2I:=by
  have:=congrArg List.length l;unfold wls at this;rw[a3V]at this;rw[this];split
  ·exact O
  ·exact hW
 simp only[go_sem,ov,aqJ,ou,wL,a3V];by_cases hlt:j<Z' f.a2I
 ·have y:(j:Int)<(Z' f.a2I:Nat):=Om;have V:=wZz j;have S:=lD hk;rw[ha]at S;have ζ:(k:Int)<((cW f room).arcs.length:Nat):=Om;have ε:(d:Int)<(Z' f.a2G:Nat):=Om;simp only[go_sem,y];refine aZ .nil (quS f) a_ ?_;simp only[go_sem,aqK,S,rE hd,hV.cz hd];refine uM Lb hs hr.1 (v:=j) (i:=fR f d) Om Om rfl a_ ?_;have B:(eT f v d).src=cJ f v (fR f d):=rfl;by_cases c:j=v
  ·subst c;rw[aG (Nat.lt_irrefl _)]at l;have U:j<Z' ps:=Om;obtain⟨u,w,A⟩:∃u w,ps[j]?=some (u,w):=⟨(ps[j]).1,(ps[j]).2,a4C U⟩;have I:(wls ps).getD j []=w:=dx A;rw[l]at I;have Z:=E.at 0 rfl;simp only[go_sem,cA (show(((eT f j d).src:Nat):Int)=((cJ f j (fR f d):Nat):Int) by rw[B]),aqL,y,Z,a4I,xO A];refine E.append j (FQ A) (src:=cC [(d:Int)]) rfl (by unfold roomFor;rw[jR,jR,←I];simp only[a4E,maxLen];omega) λN H3 h3 hu=>?_;obtain⟨q',rfl⟩:=hu (by simp[cC]);rw[←GZ]at h3 ⊢;have e3:=h3.at 0 rfl;have γ:j<(eE ps).length:=by rw[CO];exact U
   have h4:=h3.set 0 rfl (.rows 1 ((eE ps).set j [.osl q' 1 0 (cC (w++[(d:Int)])).length]));generalize(cC (w++[(d:Int)])).length=nn at *
   simp only[go_sem,y,e3,a4I,xO A,γ];refine⟨_,aL (λx hx=>by rw[a4X]at hx;subst hx;rfl),?_⟩;generalize κ:PV.osl q' 1 0 nn=N at *
   simp only[go_sem,ow,V];refine aH (j+1,ps.set j (N,w++[(d:Int)]),_) ⟨hlt,?_,?_⟩ (by simp only;omega) (by(repeat' (first|exact c_|refine d_ ?_ ?_))<;>first|(simp only[go_sem,ou,wL]<;>rfl)|rfl) b_
   ·simp only;rw[aL (Nat.lt_succ_self _),dy,l,←I];exact R
   ·simp only;have e5:eE (ps.set j (N,w++[(d:Int)]))=(eE ps).set j [N]:=List.map_set ..;have e6:jK (ps.set j (N,w++[(d:Int)]))=(jK ps).set j (N,1,cC (w++[(d:Int)])):=List.map_set ..;rw[e5,e6];exact h4
  ·have β:¬(((eT f v d).src:Nat):Int)=((cJ f j (fR f d):Nat):Int):=by rw[B];intro e;exact c (aAY X.1 X.2 Om).symm
   simp only[go_sem,bJ β,ow,V];refine aH (j+1,ps,H0) ⟨hlt,?_,E⟩ (by simp only;omega) (by(repeat' (first|exact c_|refine d_ ?_ ?_))<;>first|(simp only[go_sem,ou,wL]<;>rfl)|rfl) b_;simp only;rw[l];by_cases c2:v<j
   ·rw[aL c2,aL Om]
   ·rw[aG c2,aG Om]
 ·have y:¬(j:Int)<(Z' f.a2I:Nat):=Om;rw[aL Om]at l;simp only[go_sem,y];exact Up.up (by(repeat' (first|exact c_|refine d_ ?_ ?_))<;>first|(simp only[go_sem,ou,wL]<;>rfl)|rfl) (hK ps H0 l E)
theorem aQZ{C:Ctx}(Lb:AI C)(f:aD)(hV:VF f)(room:List Int)(xs:List Nat)(hx:pW (cW f room) xs) :
  ZA.wp C (aV Dl.res (cY (lists (KD f (eU f room) xs)))) (PF.args [.agg f.cells,.agg (cW f room).cells,.sl 1 (fF xs)]) .nil:=by
 have hs:=hV.small;have ι:=hs.a2I;have hn:=HC hV room;have hm:=hn.num;have η:=hn.few;have F:Z' xs=(eU f room).length:=hx.len;have V:(Z' f.a2I:Int)*((24:Nat):Int)≤140737488355328:=Om;have W:(Z' f.a2I:Int)≤9223372036854775807:=Om;have X:(0:Int)≤(Z' f.a2I:Int):=Om;have eo:eE (a3W f.a2I.length ((.aE,[]):PV × List Int))=a3W f.a2I.length [.aE]:=by unfold eE;rw[List.map_replicate]
 simp only[go_sem,ZA,aqD,Dl,aqE,a3V,V,W,X,Int.le_refl,a6U];refine aQ λI γ=>?_;have h1:=(aN.nil.new γ (.rows 1 (a3W f.a2I.length [.aE]))).aNM f.a2I.length;generalize PH.nil.set I (.rows 1 (a3W f.a2I.length [.aE]))=H1 at *
 rw[←eo]at h1;simp only[go_sem,aqF];refine wp_loop (α:=Nat × WPs × PH) (λs=>wL f (cW f room) xs I s.1) (λs=>s.2.2) (λs=>s.1≤(cW f room).arcs.length∧wls s.2.1=oL f (eU f room) xs s.1∧aN s.2.2 [(I,.rows 1 (eE s.2.1))] (jK s.2.1)) (λs=>(cW f room).arcs.length-s.1) (0,a3W f.a2I.length (.aE,[]),H1) ⟨a4A _,?_,h1⟩ (by(repeat' (first|exact c_|refine d_ ?_ ?_))<;>first|(simp only[go_sem,wL]<;>rfl)|rfl) b_ ?_
 ·rw[F6];unfold wls;simp only[List.map_replicate]
 rintro⟨k,ps,H0⟩ ⟨hk,x,U⟩;simp only at hk x U;have δ:Z' ps=Z' f.a2I:=by have:=congrArg List.length x;rw[lz]at this;unfold wls at this;rw[a3V]at this;exact this
 simp only[go_sem,Y3,aqG,wL,a3V];by_cases hlt:k<(cW f room).arcs.length
 ·have w:(k:Int)<((cW f room).arcs.length:Nat):=Om;have B:=wZz k;have A:k<(eU f room).length:=hlt;have β:k<Z' xs:=Om;have K:=lD hlt;have J:bX (cW f room) k=(eU f room)[k]:=(nZ hlt).symm;rw[J]at K;have Z:=a3Y A;obtain⟨z1,z2,z3⟩:=hn.ends _ (a3Y hlt);have z1:((eU f room)[k]).src<(cW f room).nodes:=z1;have z2:((eU f room)[k]).dst<(cW f room).nodes:=z2;have θ:bG f 0≤(cW f room).nodes:=by show bG f 0≤bG f f.a2G.length;unfold bG;omega
  have E:=F0 (f:=f) (l:=eU f room) (xs:=xs) F A;have j:=Ua (f:=f) (l:=eU f room) (xs:=xs) F A;have N:=ahF hV (room:=room) Z;generalize(eU f room)[k]=a at *
  have y:(a.dst<bG f 0∨xs.getD k 0=0)→iR (λs:Nat × WPs × PH=>wL f (cW f room) xs I s.1) (λs=>s.2.2) (λs=>s.1≤(cW f room).arcs.length∧wls s.2.1=oL f (eU f room) xs s.1∧aN s.2.2 [(I,.rows 1 (eE s.2.1))] (jK s.2.1)) (λs=>(cW f room).arcs.length-s.1) ((cW f room).arcs.length-k) (gP 0 (kT C (aC.wp C (.seq (.region oz) .ret)) (aV Dl.res (cY (lists (KD f (eU f room) xs)))))) .normal (wL f (cW f room) xs I (k+1)) H0:=λh=>
   aH (k+1,ps,H0) ⟨hlt,by rw[E h];exact x,U⟩ (by simp only;omega) (λ_ _ h=>h) b_
  have w7:IntKind.i64.wrap ((a.dst:Int)-((bG f 0:Nat):Int))=(a.dst:Int)-((bG f 0:Nat):Int):=wrap_i64 Om Om;simp only[go_sem,w];refine aZ .nil (quS f) a_ ?_;simp only[go_sem,aqH,K];refine OK Lb hs (i:=0) aX rfl a_ ?_;by_cases c1:a.dst<bG f 0
  ·have u:(a.dst:Int)-((bG f 0:Nat):Int)<0:=Om;simp only[go_sem,w7,di,u,SE,B];exact Up.up (by unfold wL;exact Lq) (y (.inl c1))
  ·have u:¬(a.dst:Int)-((bG f 0:Nat):Int)<0:=Om;have S:=kL β;by_cases c2:xs.getD k 0=0
   ·simp only[go_sem,w7,di,u,S,cA (Om:((xs.getD k 0:Nat):Int)=0),SE,B];exact Up.up (by unfold wL;exact Lq) (y (.inr c2))
   ·obtain⟨v,d,hv,hd,rfl⟩:=N Om;have R:=zl hV (v:=v) hd;have j:=j Om c2 (by rw[R];exact hv);rw[R]at j;have Y:((eT f v d).dst-bG f 0:Nat)=d:=by simp only[eT,bG];omega
    have M:((eT f v d).dst:Int)-((bG f 0:Nat):Int)=(d:Int):=Om;rw[Y]at j;rw[M]at u;have ε:((oL f (eU f room) xs k).getD v []).length≤1000000:=by unfold oL;rw[a4D,a4Q,a6K hv];exact a6T (qb f v _ _) (by rw[a4M];omega)
    have w8:IntKind.i64.wrap (d:Int)=(d:Int):=wrap_i64 Om Om;simp only[go_sem,M,w8,di,u,S,bJ (Om:¬((xs.getD k 0:Nat):Int)=0),aqI];refine aKQ Lb f hV room xs I k v d hlt hv hd J (oL f (eU f room) xs k) (oL f (eU f room) xs (k+1)) (lz ..) ε j ps x U (by(repeat' (first|exact c_|refine d_ ?_ ?_))<;>first|(simp only[go_sem,ou,wL]<;>rfl)|rfl) λζ H' O h'=>?_;simp only[go_sem,SE,wL,B];exact aH (k+1,ζ,H') ⟨hlt,O,h'⟩ (by simp only;omega) (by(repeat' (first|exact c_|refine d_ ?_ ?_))<;>first|(simp only[go_sem,wL]<;>rfl)|rfl) b_
 ·have w:¬(k:Int)<((cW f room).arcs.length:Nat):=Om;have:k=(cW f room).arcs.length:=Om;subst this;have h2:=U.aTC;rw[CO,δ]at h2;have e:KD f (eU f room) xs=wls ps:=by rw[x];exact(T9 F).symm
  rw[e];simp only[go_sem,w,oz];exact ayO (.inr rfl) rfl h2
structure aSQ(C:Ctx):Prop extends AI C where
 Dm:∀(f:aD)(room:List Int),f.Ok→aJ C 307 [.agg f.cells,ints room] .nil (aK (AV f room))
 YS:∀n:cH,fD n→aJ C 303 [.agg n.cells] .nil (VR n)
 Dl:∀(f:aD)(room:List Int)(xs:List Nat),VF f→pW (cW f room) xs→aJ C 308 [.agg f.cells,.agg (cW f room).cells,.sl 1 (fF xs)] .nil (aK (lists (KD f (eU f room) xs)))
def tK(c:fM)(L:List Bool)(Q:Nat→Prop):Prop:=∀x,Q x→L.getD x false=wI c x
theorem tK.set{c:fM}{L:List Bool}{Q:Nat→Prop}(h:tK c L Q){x:Nat}(l:x<Z' L){b:Bool}(hb:b=wI c x):tK c (L.set x b) (λy=>Q y∨y=x):=λy u=>by
 rw[a4D,a7N];by_cases e:x=y
 ·subst e;rw[aL rfl,aL l];exact hb
 ·rw[aG e,←a4D];exact h y (u.resolve_right λj=>e j.symm)
def qN(f:aD)(k:Nat)(x:Nat):Prop:=x=0∨x=1∨∃v i,v<k∧i<Z' f.a2J∧x=cJ f v i
def qR(f:aD)(k:Nat)(x:Nat):Prop:=qN f f.a2I.length x∨∃d,d<k∧x=bG f d
def HE(f:aD)(c:fM)(o7 e N k:Nat):PF:=(((((PF.nil.set 3 (.bU f.cells)).set 5 (.bU c.cells)).set 7 (.ptr o7 4 0 0)).set 9 (.osl e 1 0 N)).set 10 (.int .i64 (k:Nat)))
def Dj(f:aD)(c:fM)(o7 e N k i:Nat):PF:=(HE f c o7 e N k).set 11 (.int .i64 ((i+1:Nat):Int))
def YX(f:aD)(c:fM)(o7 e N k:Nat):PF:=(((((PF.nil.set 3 (.bU f.cells)).set 5 (.bU c.cells)).set 7 (.ptr o7 4 0 0)).set 9 (.osl e 1 0 N)).set 12 (.int .i64 (k:Nat)))
def qcH(n:cH)(o7 e:Nat)(L:List Bool):PH:=(PH.nil.set o7 (tE n)).set e (.rows 1 (bC L))
theorem aKO{C:Ctx}(Lb:AI C){K:cP}[Up K](f:aD)(hV:VF f)(n:cH)(c:fM)(o7 e:Nat)(β:¬o7=e)(N:Nat)(hN:N=bG f f.a2G.length)(k:Nat)(Y:k<Z' f.a2I)(row:List Bool)(y:c.a2Q[k]?=some row)(δ:Z' row=Z' f.a2J-1)(γ:Z' c.a2Q=Z' f.a2I)(L:List Bool)(B:Z' L=N)(Q:Nat→Prop)(E:Shape f c→tK c L Q){F:PF}
  (hF:(Dj f c o7 e N k 0).le F)
  (hK:∀L',Z' L'=N→(Shape f c→tK c L' (λx=>Q x∨∃i,i<Z' f.a2J-1∧x=cJ f k (i+1)))→K (.exit 2) (HE f c o7 e N k) (qcH n o7 e L')):aC.wp C (.loop oq) K F (qcH n o7 e L):=by
 have X:=hV.small;have Z:=hV.root;have ε:=X.a2J;have ζ:=X.a2I;refine wp_loop (α:=Nat × List Bool) (λs=>Dj f c o7 e N k s.1) (λs=>qcH n o7 e s.2) (λs=>s.1+1≤Z' f.a2J∧s.2.length=N∧(Shape f c→tK c s.2 (λx=>Q x∨∃i,i<s.1∧x=cJ f k (i+1)))) (λs=>Z' f.a2J-s.1) (0,L) ⟨by have:=Z.1;omega,B,λh x A=>E h x (A.resolve_right λ⟨i,hi,_⟩=>by omega)⟩ hF b_ ?_;rintro⟨i,L⟩ ⟨hi,B,E⟩;simp only at hi B E;simp only[go_sem,oq,Yr,Dj,HE,a3V];by_cases hlt:i+1<Z' f.a2J
 ·have u:((i+1:Nat):Int)<(Z' f.a2J:Nat):=Om;have V:=eI (Om:i+1<9223372036854775807);have I:IntKind.i64.wrap (((i+1:Nat):Int)-1)=(i:Int):=by rw[wrap_i64 Om Om];omega
  obtain⟨d1,d2⟩:=kE hV Y hlt;have d3:cJ f k (i+1)<N:=Nat.lt_of_lt_of_le d2 (by rw[hN];unfold bG;omega);have d4:((cJ f k (i+1):Nat):Int)<(N:Nat):=Om;have d5:=fA (R:=L) (i:=cJ f k (i+1)) Om;have J:(c.a2Q.map λw=>[kC w])[k]?=some [kC row]:=by rw[a4Q,y];rfl
  have W:(k:Int)<(Z' c.a2Q:Nat):=Om;have U:i<Z' row:=Om;have S:(i:Int)<(Z' row:Nat):=Om;have M:(row.map λb=>[PV.bool b])[i]?=some [.bool (row.getD i false)]:=fA U;simp only[go_sem,u];refine aZ .nil (quS f) a_ ?_;simp only[go_sem,Ys];refine uM Lb X Z.1 (v:=k) (i:=i+1) Om Om rfl a_ ?_;simp only[go_sem,a3V,W,J,I,S,M,d4];refine aZ .nil cI a_ ?_;have e9:(qcH n o7 e L) e=some (.rows 1 (bC L)):=by unfold qcH;rw[bT]
  have O:(qcH n o7 e L).set e (.rows 1 ((bC L).set (cJ f k (i+1)) [.bool (row.getD i false)]))=qcH n o7 e (L.set (cJ f k (i+1)) (row.getD i false)):=by unfold qcH;rw[PH.set_set,jN]
  simp only[go_sem,Yt,e9,a4I,d5,O];refine⟨a_,?_⟩;simp only[go_sem,Yu,V];refine aH (i+1,L.set (cJ f k (i+1)) (row.getD i false)) ⟨hlt,by simp only[a5Q];exact B,λh x A=>?_⟩ (by simp only;omega) (by(repeat' (first|exact c_|refine d_ ?_ ?_))<;>first|(simp only[go_sem,Dj,HE]<;>rfl)|rfl) b_;refine(E h).set Om ?_ x ?_
  ·rw[ahK h Y Om,a4D (l:=c.a2Q),y];rfl
  ·rcases A with A|⟨j,hj,A⟩
   ·exact .inl (.inl A)
   ·simp only at hj;rcases a4R j i with c1|c1
    ·exact .inl (.inr ⟨j,c1,A⟩)
    ·have:j=i:=Om;subst this;exact .inr A
 ·have u:¬((i+1:Nat):Int)<(Z' f.a2J:Nat):=Om;have:i=Z' f.a2J-1:=Om;subst this;simp only[go_sem,u];exact Up.up (by(repeat' (first|exact c_|refine d_ ?_ ?_))<;>first|(simp only[go_sem,Dj,HE]<;>rfl)|rfl) (hK L B E)
theorem aEB{C:Ctx}(O:AI C){K:cP}[Up K](f:aD)(hV:VF f)(n:cH)(c:fM)(A:Shape f c)(o7 e:Nat)(W:¬o7=e)(N:Nat)(Z:N=bG f f.a2G.length)(L:List Bool)(w:Z' L=N)(y:tK c L (qN f f.a2I.length)){F:PF}
  (X:(YX f c o7 e N 0).le F)
  (Y:∀L',Z' L'=N→tK c L' (qR f f.a2G.length)→K (.exit 4) (YX f c o7 e N f.a2G.length) (qcH n o7 e L')):aC.wp C (.loop ot) K F (qcH n o7 e L):=by
 have M:=hV.small;have γ:=M.a2G;refine wp_loop (α:=Nat × List Bool) (λs=>YX f c o7 e N s.1) (λs=>qcH n o7 e s.2) (λs=>s.1≤Z' f.a2G∧s.2.length=N∧tK c s.2 (qR f s.1)) (λs=>Z' f.a2G-s.1) (0,L) ⟨a4A _,w,λx u=>y x (u.resolve_right λ⟨i,hi,_⟩=>by omega)⟩ X b_ ?_;rintro⟨i,L⟩ ⟨hi,w,y⟩;simp only at hi w y;simp only[go_sem,ot,Yx,YX,a3V];by_cases hlt:i<Z' f.a2G
 ·have l:(i:Int)<(Z' f.a2G:Nat):=Om;have J:=wZz i;have d3:bG f i<N:=by rw[Z];unfold bG;omega
  have S:((bG f i:Nat):Int)<(N:Nat):=Om;have U:=fA (R:=L) (i:=bG f i) Om;have β:=A.d;have I:(i:Int)<(Z' c.a3A:Nat):=Om;have B:(c.a3A.map λb=>[PV.bool b])[i]?=some [.bool (c.a3A.getD i false)]:=fA Om;simp only[go_sem,l];refine aZ .nil (quS f) a_ ?_;simp only[go_sem,Yy];refine OK O M (i:=i) Om rfl a_ ?_;simp only[go_sem,a3V,I,B,S];refine aZ .nil cI a_ ?_;have V:(qcH n o7 e L) e=some (.rows 1 (bC L)):=by unfold qcH;rw[bT]
  have E:(qcH n o7 e L).set e (.rows 1 ((bC L).set (bG f i) [.bool (c.a3A.getD i false)]))=qcH n o7 e (L.set (bG f i) (c.a3A.getD i false)):=by unfold qcH;rw[PH.set_set,jN]
  simp only[go_sem,Yz,V,a4I,U,E];refine⟨a_,?_⟩;simp only[go_sem,Y0,J];refine aH (i+1,L.set (bG f i) (c.a3A.getD i false)) ⟨hlt,by simp only[a5Q];exact w,λx u=>?_⟩ (by simp only;omega) (by(repeat' (first|exact c_|refine d_ ?_ ?_))<;>first|(simp only[go_sem,YX]<;>rfl)|rfl) b_;refine y.set Om (ahL hV A).symm x ?_;rcases u with u|⟨j,hj,u⟩
  ·exact .inl (.inl u)
  ·simp only at hj;rcases a4R j i with c1|c1
   ·exact .inl (.inr ⟨j,c1,u⟩)
   ·have:j=i:=Om;subst this;exact .inr u
 ·have l:¬(i:Int)<(Z' f.a2G:Nat):=Om;have:i=Z' f.a2G:=Om;subst this;simp only[go_sem,l];exact Up.up (by(repeat' (first|exact c_|refine d_ ?_ ?_))<;>first|(simp only[go_sem,YX]<;>rfl)|rfl) (Y L w y)
theorem afW(n:Nat):a3W n [PV.bool false]=bC (a3W n false):=by
 show _=List.map _ (a3W n false);rw[List.map_replicate]
theorem aQX{C:Ctx}(N:aSQ C)(U:∀(n:cH)(cut:List Bool),fD n→b8 n cut→aJ C 301 [.agg n.cells,kC cut] .nil (aK (.tup [.int .i64 ((eD (λw=>cut.getD w false) n.arcs:Nat):Int),.bool true])))
  (f:aD) (hf:f.Ok) (room:List Int) (c:fM) (hc:Z' c.vols≤1000000∧Z' c.a2Q≤1000000∧Z' c.a3A≤1000000) :
  YY.wp C (aV Dk.res (aK (.bool (qD f room c)))) (PF.args [.agg f.cells,ints room,.agg c.cells]) .nil:=by
 have J:qD f room c=(dX f&&(c.shape f&&decide (eD (wI c) (eU f room)<qT f))):=rfl;obtain⟨Φ,Ψ,Ω⟩:=hc;simp only[go_sem,YY,apT,Dk,apU];refine aB (N.Dm f room hf) rfl ?_;simp only[go_sem,AV];refine aQ λq hq=>?_;have h1:aN (PH.nil.set q jJ) [(q,jJ)] []:=aN.nil.new hq jJ;cases E:dX f with
 |false=>
  generalize(PH.nil.set q jJ)=H1 at *
  have q1:=h1.at 0 rfl;simp only[go_sem,q1];generalize H1.set q (.rows 4 [(HB f room).cells])=H2 at *
  simp only[go_sem,GA,FW E,NT];exact lH (b:=false) rfl (by rw[J,E];rfl)
 |true=>
  have hV:=VF.of E;have hs:=hV.small;have hr:=hV.root;have a':=hs.a2J;have b':=hs.a2G;have c':=hs.a2I;have hn:=HC hV room;have Λ:=hn.few;have Ξ:=hn.two;have ψ:(cW f room).nodes=bG f f.a2G.length:=rfl;rw[E,a4K]at J;have Γ:=FX E room;simp only[go_sem,Γ];by_cases c1:Z' c.vols=Z' f.a2I
  ·by_cases Z:Z' c.a2Q=Z' f.a2I
   ·by_cases c3:Z' c.a3A=Z' f.a2G
    ·have μ:((bG f f.a2G.length:Nat):Int)*((1:Nat):Int)≤140737488355328:=Om;have ν:((bG f f.a2G.length:Nat):Int)≤9223372036854775807:=Om;have ξ:(0:Int)≤((bG f f.a2G.length:Nat):Int):=Om;simp only[go_sem,GA,qY E,a3V,bW (Om:(Z' c.vols:Int)=(Z' f.a2I:Nat)),bW (Om:(Z' c.a2Q:Int)=(Z' f.a2I:Nat)),bW (Om:(Z' c.a3A:Int)=(Z' f.a2G:Nat)),apV,ψ,μ,ν,ξ,Int.le_refl,a6U];refine aQ λo ho=>?_;rw[afW];have I:¬q=o:=λe=>by rw[←e,bT]at ho;cases ho
     have ε:(0:Int)<((bG f f.a2G.length:Nat):Int):=Om;have Θ:=fA (R:=a3W (bG f f.a2G.length) false) (i:=0) (by rw[a7J];omega);generalize A:(a3W (bG f f.a2G.length) false).set 0 true=M;have S:Z' M=bG f f.a2G.length:=by rw[←A,a5Q,a7J]
     have O:tK c M (qN f 0):=λx hx=>by
      rcases hx with rfl|rfl|⟨v,i,E,_⟩
      ·rw[←A,a4D,List.getElem?_set_self (by rw[a7J];omega)];rfl
      ·rw[←A,a4D,List.getElem?_set_ne aX,a7V];split<;>rfl
      ·omega
     have η:((PH.nil.set q (.rows 4 [(cW f room).cells])).set o (.rows 1 ((bC (a3W (bG f f.a2G.length) false)).set 0 [.bool true])))=qcH (cW f room) q o M:=by unfold qcH;rw[jN,A]
     simp only[go_sem,apW,ε,a4I,Θ];have χ:(qcH (cW f room) q o M).le ((PH.nil.set q (.rows 4 [(cW f room).cells])).set o (.rows 1 ((bC (a3W (bG f f.a2G.length) false)).set 0 [.bool true]))):=by rw[η];exact b_
     simp only[go_sem,apX];refine wp_loop (α:=Nat × List Bool) (λs=>HE f c q o (bG f f.a2G.length) s.1) (λs=>qcH (cW f room) q o s.2) (λs=>s.1≤Z' f.a2I∧yb f c s.1∧s.2.length=bG f f.a2G.length∧(Shape f c→tK c s.2 (qN f s.1))) (λs=>Z' f.a2I-s.1) (0,M) ⟨a4A _,λr h=>by simp at h,S,λ_=>O⟩ (by(repeat' (first|exact c_|refine d_ ?_ ?_))<;>first|(simp only[go_sem,HE]<;>rfl)|rfl) (by first|exact χ|(unfold qcH;exact e_ (e_ a_ (by simp only[go_sem,I])) (by simp only[go_sem,jN,A]))) ?_;rintro⟨k,L⟩ ⟨hk,K,hL,hQ⟩;simp only at hk K hL hQ;simp only[go_sem,Yn,apY,HE,a3V];by_cases hlt:k<Z' f.a2I
     ·have B:(k:Int)<(Z' f.a2I:Nat):=Om;have φ:=wZz k;have F:k<Z' c.a2Q:=Om;have X:(k:Int)<(Z' c.a2Q:Nat):=Om;have κ:(c.a2Q.map λw=>[kC w])[k]?=some [kC c.a2Q[k]]:=by simp[F]
      have W:c.a2Q[k]?=some c.a2Q[k]:=a4C F;have hw:IntKind.i64.wrap ((Z' f.a2J:Int)-1)=((Z' f.a2J-1:Nat):Int):=by rw[wrap_i64 Om Om];omega
      have Δ:c.a2Q.take (k+1)=c.a2Q.take k++[c.a2Q[k]]:=a5W F;have ω:=aaC (f:=f) F;generalize c.a2Q[k]=row at *
      simp only[go_sem,B];refine aZ .nil cI a_ ?_;simp only[go_sem,apZ,a3V,X,κ,hw];by_cases cr:Z' row=Z' f.a2J-1
      ·simp only[go_sem,bW (Om:(Z' row:Int)=((Z' f.a2J-1:Nat):Int))];have d2:=(kE hV hlt hr.1).2;have d3:cJ f k 0<bG f f.a2G.length:=Nat.lt_of_lt_of_le d2 (by unfold bG;omega);have d4:((cJ f k 0:Nat):Int)<((bG f f.a2G.length:Nat):Int):=Om;have d5:=fA (R:=L) (i:=cJ f k 0) Om;have υ:(k:Int)<(Z' c.vols:Nat):=Om;have ο:(c.vols.map λb=>[PV.bool b])[k]?=some [.bool (c.vols.getD k false)]:=fA Om;have e9:(qcH (cW f room) q o L) o=some (.rows 1 (bC L)):=by unfold qcH;rw[bT]
       have σ:(qcH (cW f room) q o L).set o (.rows 1 ((bC L).set (cJ f k 0) [.bool (c.vols.getD k false)]))=qcH (cW f room) q o (L.set (cJ f k 0) (c.vols.getD k false)):=by unfold qcH;rw[PH.set_set,jN]
       refine aZ .nil (quS f) a_ ?_;simp only[go_sem,Yo];refine uM N.toAI hs hr.1 (v:=k) (i:=0) Om Om rfl a_ ?_;simp only[go_sem,a3V,υ,ο,d4];refine aZ .nil cI a_ ?_;simp only[go_sem,Yp,e9,a4I,d5,σ];refine⟨a_,?_⟩;have ι:Shape f c→tK c (L.set (cJ f k 0) (c.vols.getD k false)) (λy=>qN f k y∨y=cJ f k 0):=λh=>(hQ h).set Om (ahM h hlt).symm;simp only[go_sem,Yq];refine aKO N.toAI f hV (cW f room) c q o I _ rfl k hlt row W cr Z (L.set (cJ f k 0) (c.vols.getD k false)) (by rw[a5Q];exact hL) _ ι (by(repeat' (first|exact c_|refine d_ ?_ ?_))<;>first|(simp only[go_sem,Dj,HE]<;>rfl)|rfl) λL' u l=>?_;simp only[go_sem,Yv,HE,φ];refine aH (k+1,L') ⟨hlt,?_,u,λh x hx=>l h x ?_⟩ (by simp only;omega) (by(repeat' (first|exact c_|refine d_ ?_ ?_))<;>first|(simp only[go_sem,HE]<;>rfl)|rfl) b_
       ·intro r hr;simp only at hr;rw[Δ]at hr;rcases a5E.1 hr with hr|hr
        ·exact K r hr
        ·rw[a4X]at hr;subst hr;exact cr
       ·simp only at hx;rcases hx with hx|hx|⟨v,i,g1,g2,g3⟩
        ·exact .inl (.inl (.inl hx))
        ·exact .inl (.inl (.inr (.inl hx)))
        ·rcases a4R v k with c4|c4
         ·exact .inl (.inl (.inr (.inr ⟨v,i,c4,g2,g3⟩)))
         ·have:v=k:=Om;subst this;cases i with
          |zero=>exact .inl (.inr g3)
          |succ i=>exact .inr ⟨i,by omega,g3⟩
      ·simp only[go_sem,cU (Om:¬(Z' row:Int)=((Z' f.a2J-1:Nat):Int)),aqA];exact lH (b:=false) rfl (by rw[J,ω cr];rfl)
     ·have B:¬(k:Int)<(Z' f.a2I:Nat):=Om;have τ:k=Z' f.a2I:=Om;subst τ;have j:Shape f c:=⟨c1,Z,c3,by have:=K;unfold yb at this;rwa[←Z,a5F]at this⟩;simp only[go_sem,B,Yw];refine aEB N.toAI f hV (cW f room) c j q o I _ rfl L hL (hQ j) (by(repeat' (first|exact c_|refine d_ ?_ ?_))<;>first|(simp only[go_sem,YX]<;>rfl)|rfl) λL' u l=>?_;have ζ:b8 (cW f room) L':=⟨u,l 0 (.inl (.inl rfl)),l 1 (.inl (.inr (.inl rfl)))⟩;have V:=U (cW f room) L' hn ζ;have ρ:eD (λw=>L'.getD w false) (cW f room).arcs=eD (wI c) (eU f room):=O5 hV room (l 0 (.inl (.inl rfl))) (l 1 (.inl (.inr (.inl rfl)))) (λv i g1 g2=>l _ (.inl (.inr (.inr ⟨v,i,g1,g2,rfl⟩)))) λd g1=>l _ (.inr ⟨d,g1,rfl⟩);rw[ρ]at V;have e7:(qcH (cW f room) q o L') q=some (.rows 4 [(cW f room).cells]):=by unfold qcH;rw[aU,aG I,bT]
      have e9:(qcH (cW f room) q o L') o=some (.rows 1 (bC L')):=by unfold qcH;rw[bT]
      have Y:PH.le (PH.nil.set o (.rows 1 (bC L'))) (qcH (cW f room) q o L'):=e_ a_ e9;simp only[go_sem,Y1,YX,e7];refine eY (H0:=PH.nil.set o (.rows 1 (bC L'))) (vs:=[.agg (cW f room).cells,.osl o 1 0 (bG f f.a2G.length)]) (aJ.aNH (sf.pair _ _) (v:=.tup [.int .i64 ((eD (wI c) (eU f room):Nat):Int),.bool true]) ?_) rfl Y ?_
      ·have e3:([.agg (cW f room).cells,.osl o 1 0 (bG f f.a2G.length)]:List PV).map (PV.frz o 1 (bC L'))=[.agg (cW f room).cells,kC L']:=by show[PV.agg _,PV.frz o 1 (bC L') (.osl o 1 0 (bG f f.a2G.length))]=_;rw[yA (by rw[hJ,u];exact a4B _),a4N (by rw[hJ,u];exact a4B _)];rfl
       rw[e3];exact V
      ·rintro r H' ⟨rfl,rfl⟩ -;rw[PH.over_self _ Y];rw[CP.2 j,a4K]at J;have θ:qD f room c=decide (((eD (wI c) (eU f room):Nat):Int)<((qT f:Nat):Int)):=by rw[J];exact decide_eq_decide.2 ⟨λh=>Int.ofNat_lt.2 h,λh=>Int.ofNat_lt.1 h⟩
       generalize eD (wI c) (eU f room)=cp at *
       simp only[go_sem,Y2];refine aB (N.total f hV) rfl ?_;simp only[go_sem];exact lH rfl θ.symm
    ·have δ:¬(Z' c.a3A:Int)=(Z' f.a2G:Nat):=Om;simp only[go_sem,GA,qY E,a3V,bW (Om:(Z' c.vols:Int)=(Z' f.a2I:Nat)),bW (Om:(Z' c.a2Q:Int)=(Z' f.a2I:Nat)),cU δ,NT];exact lH (b:=false) rfl (by rw[J,fM.shape,cF c3];simp)
   ·have γ:¬(Z' c.a2Q:Int)=(Z' f.a2I:Nat):=Om;simp only[go_sem,GA,qY E,a3V,bW (Om:(Z' c.vols:Int)=(Z' f.a2I:Nat)),cU γ,NT];exact lH (b:=false) rfl (by rw[J,fM.shape,cF Z];simp)
  ·have β:¬(Z' c.vols:Int)=(Z' f.a2I:Nat):=Om;simp only[go_sem,GA,qY E,a3V,cU β,NT];exact lH (b:=false) rfl (by rw[J,fM.shape,cF c1];simp)
structure WO where
 z:Nat
 n:Nat
 c:Nat
def xV(f:aD)(S:Nat→Bool)(e:WO)(k:Nat):PF:=(((((((PF.nil.set 2 (.bU f.cells)).set 4 (.ptr e.z 3 0 0)).set 10 (.sl 1 (bC ((a3U (bG f f.a2G.length)).map S)))).set 12 (.ptr e.n 2 0 0)).set 13 (.ptr e.c 3 0 0)).set 48 (.int .i64 (Z' f.a2I:Nat))).set 49 (.int .i64 (k:Nat)))
def D8(f:aD)(S:Nat→Bool)(e:WO)(k:Nat)(w:PV)(i:Nat):PF:=(((xV f S e k).set 14 (.int .i64 (k:Nat))).set 15 w).set 16 (.int .i64 ((i+1:Nat):Int))
def ba(f:aD)(S:Nat→Bool)(e:WO)(k:Nat):PF:=((((((PF.nil.set 4 (.ptr e.z 3 0 0)).set 10 (.sl 1 (bC ((a3U (bG f f.a2G.length)).map S)))).set 12 (.ptr e.n 2 0 0)).set 13 (.ptr e.c 3 0 0)).set 93 (.int .i64 (Z' f.a2G:Nat))).set 94 (.int .i64 (k:Nat)))
theorem aHU{C:Ctx}(R:pX C){K:cP}[Up K](f:aD)(hV:VF f)(S:Nat→Bool)(e:WO)(k:Nat)(hk:k<Z' f.a2I)(y L1:LI)(B:List BX)(w:PV)(x:∃q n,w=.osl q 1 0 n){F:PF}{H:PH}
  (Y:B[0]?=some (e.n,iV f)) (l:aN H B [y,L1,(w,1,[])]) (Z:(D8 f S e k w 0).le F)
  (hK:∀u H',(∃q n,u=.osl q 1 0 n)→aN H' B [y,L1,(u,1,bC (yU f S k (Z' f.a2J-1)))]→K (.exit 2) ((xV f S e k).set 15 u) H'):aC.wp C (.loop kg) K F H:=by
 have E:=hV.small;have O:=hV.root;have β:=E.a2J;have γ:=E.a2I;refine wp_loop (α:=Nat × PV × PH) (λs=>D8 f S e k s.2.1 s.1) (λs=>s.2.2) (λs=>s.1+1≤Z' f.a2J∧(∃q n,s.2.1=.osl q 1 0 n)∧aN s.2.2 B [y,L1,(s.2.1,1,bC (yU f S k s.1))]) (λs=>Z' f.a2J-s.1) (0,w,H) ⟨by have:=O.1;omega,x,l⟩ Z b_ ?_;rintro⟨i,w,H0⟩ ⟨hi,x,l⟩;simp only at hi x l;simp only[go_sem,kg,Q9,D8,xV,a3V];by_cases hlt:i+1<Z' f.a2J
 ·have j:((i+1:Nat):Int)<(Z' f.a2J:Nat):=Om;have A:=eI (Om:i+1<9223372036854775807);have X:H0 e.n=some (iV f):=l.at 0 Y;obtain⟨d1,U⟩:=kE hV hk hlt;have V:cJ f k (i+1)<bG f f.a2G.length:=Nat.lt_of_lt_of_le U (by unfold bG;omega);have W:((cJ f k (i+1):Nat):Int)<((bG f f.a2G.length:Nat):Int):=Om;have I:=qf (S:=S) V;have M:(yU f S k i).length=i:=by simp[yU]
  simp only[go_sem,j,Ra,X];refine aB (R.dom f E O.1 k (i+1) Om Om) rfl ?_;simp only[go_sem,a3V,a6M,W,I];refine l.append 2 (src:=[[.bool (S (cJ f k (i+1)))]]) rfl rfl (by unfold roomFor;rw[hJ,M];simp only[a4E,maxLen];omega) λu H' N J=>?_;obtain⟨q,hq⟩:=J aW;rw[vH,show yU f S k i++[S (cJ f k (i+1))]=yU f S k (i+1)from(vP _ _).symm]at N;simp only[go_sem,Rb,A];exact aH (i+1,u,H') ⟨hlt,⟨q,_,hq⟩,N⟩ (by simp only;omega) (by(repeat' (first|exact c_|refine d_ ?_ ?_))<;>first|(simp only[go_sem,D8,xV]<;>rfl)|rfl) b_
 ·have j:¬((i+1:Nat):Int)<(Z' f.a2J:Nat):=Om;have:i=Z' f.a2J-1:=Om;subst this;simp only[go_sem,j];exact Up.up (by(repeat' (first|exact c_|refine d_ ?_ ?_))<;>first|(simp only[go_sem,D8,xV]<;>rfl)|rfl) (hK w H0 x l)
theorem aBS{C:Ctx}(Lb:pX C){K:cP}[Up K](f:aD)(hV:VF f)(S:Nat→Bool)(e:WO){F:PF}{H:PH}
  (I:aN H [(e.n,iV f),(e.c,gT .aE .aE .aE),(e.z,gT .aE .aE .aE)] [(.aE,1,[]),(.aE,1,[])]) (hF:(xV f S e 0).le F)
  (hK:∀M A j H',rB j (cf f S f.a2I.length)→aN H' [(e.n,iV f),(e.c,gT M A .aE),(e.z,gT .aE .aE .aE)] [(M,1,bC (JS f S f.a2I.length)),(A,1,j)]→K (.exit 0) (xV f S e f.a2I.length) H'):aC.wp C (.loop kh) K F H:=by
 have hs:=hV.small;have hr:=hV.root;have ν:=hs.a2J;have ξ:=hs.a2I;have Y:(Z' f.a2J:Int)*((1:Nat):Int)≤140737488355328:=Om;have Z:(Z' f.a2J:Int)≤9223372036854775807:=Om;have β:(0:Int)≤(Z' f.a2J:Int):=Om;refine wp_loop (α:=Nat × PV × PV × List (List PV) × PH) (λs=>xV f S e s.1) (λs=>s.2.2.2.2) (λs=>s.1≤Z' f.a2I∧rB s.2.2.2.1 (cf f S s.1)∧aN s.2.2.2.2 [(e.n,iV f),(e.c,gT s.2.1 s.2.2.1 .aE),(e.z,gT .aE .aE .aE)] [(s.2.1,1,bC (JS f S s.1)),(s.2.2.1,1,s.2.2.2.1)]) (λs=>Z' f.a2I-s.1) (0,.aE,.aE,[],H) ⟨a4A _,.nil,I⟩ hF b_ ?_;rintro⟨k,M,A,j,H0⟩ ⟨hk,u,I⟩;simp only at hk u I;simp only[go_sem,kh,Q3,xV];by_cases hlt:k<Z' f.a2I
 ·have l:(k:Int)<(Z' f.a2I:Nat):=Om;have δ:=wZz k;have d2:=(kE hV hlt hr.1).2;have d3:2+k<bG f f.a2G.length:=by rw[aAZ]at d2;exact Nat.lt_of_lt_of_le d2 (by unfold bG;omega)
  have d4:((2+k:Nat):Int)<((bG f f.a2G.length:Nat):Int):=Om;have ζ:=qf (S:=S) d3;have η:(JS f S k).length=k:=by simp[JS]
  have γ:Z' j=k:=by rw[u.1];simp[cf]
  have e6:H0 e.n=some (iV f):=I.at 0 rfl;have ec:H0 e.c=some (gT M A .aE):=I.at 1 rfl;simp only[go_sem,l,Q4];refine aZ (PH.nil.set e.c (gT M A .aE)) (GK f [] (λ_ _=>True)) (e_ a_ ec) ?_;simp only[go_sem,Q5,e6];refine O7 Lb (v:=k) Om rfl (e_ a_ ec) ?_;simp only[go_sem,a3V,a6M,d4,ζ];refine I.append 0 (src:=[[.bool (S (2+k))]]) rfl rfl (by unfold roomFor;rw[hJ,η];simp only[a4E,maxLen];omega) λο H1 R J=>?_;obtain⟨y,N⟩:=J aW;rw[vH,show JS f S k++[S (2+k)]=JS f S (k+1)from(vP _ _).symm]at R;refine⟨e_ a_ (R.at 1 rfl),?_⟩;refine aZ .nil cI a_ ?_;have U:=R.at 1 rfl;generalize κ:((bC (JS f S k)++[[PV.bool (S (2+k))]]).length)=w at N;subst N;simp only[go_sem,Q6,U];refine⟨a_,?_⟩;have h2:=R.set 1 rfl (gT (.osl y 1 0 w) A .aE);generalize H1.set e.c (.rows 3 [[.osl y 1 0 w,A,.aE]])=H2 at *
  simp only[go_sem,Q7,a3V,Y,Z,β,Int.le_refl,a6U];refine aQ λqr ε=>?_;have h3:=h2.C2 (s:=1) (rows:=[]) ε;simp only[go_sem,Q8];refine aHU Lb f hV S e k hlt _ _ _ (.osl qr 1 0 0) ⟨_,_,rfl⟩ rfl h3 (by(repeat' (first|exact c_|refine d_ ?_ ?_))<;>first|(simp only[go_sem,D8,xV]<;>rfl)|rfl) λw' H4 θ X=>?_;obtain⟨q,n,rfl⟩:=θ;have V:=X.at 1 rfl;have hn:n=(bC (yU f S k (Z' f.a2J-1))).length:=by obtain⟨rs,-,e2,-⟩:=(X.own 2 rfl).id rfl;injection e2
  simp only[go_sem,Rc,xV,V];refine X.append 1 (src:=[[.osl q 1 0 n]]) rfl rfl (by unfold roomFor;rw[γ];simp only[a4E,maxLen];omega) λι H5 h5 J=>?_;obtain⟨E,O⟩:=J aW;have W:=h5.at 1 rfl;generalize μ:(j++[[PV.osl q 1 0 n]]).length=B at O;subst O;have h6:=h5.set 1 rfl (gT (.osl y 1 0 w) (.osl E 1 0 B) .aE);simp only[go_sem,W];generalize H5.set e.c (.rows 3 [[.osl y 1 0 w,.osl E 1 0 B,.aE]])=H6 at *
  refine⟨_,aL (λx hx=>by rw[a4X]at hx;subst hx;rfl),?_⟩;subst hn;obtain⟨rs,z1,z2,z3,z4,z5⟩:=h6.frz 2 rfl;have y0:=z4 0 _ aX rfl;have y1:=z4 1 _ aX rfl;simp only at y0 y1;simp only[go_sem,Re,δ];refine IQ (k+1,PV.osl y 1 0 w,PV.osl E 1 0 B,j++[[kC (yU f S k (Z' f.a2J-1))]],H6.frz q 1 rs) z1 ⟨hlt,?_,?_⟩ (by simp only;omega) (by(repeat' (first|exact c_|refine d_ ?_ ?_))<;>first|(simp only[go_sem,xV]<;>rfl)|rfl) b_
  ·simp only;rw[show cf f S (k+1)=cf f S k++[yU f S k (Z' f.a2J-1)]from vP _ _];exact u.snoc (.inl rfl)
  ·simp only;have eB:([(e.n,iV f),(e.c,gT (.osl y 1 0 w) (.osl E 1 0 B) .aE),(e.z,gT .aE .aE .aE)]:List BX).map (λb=>(b.1,b.2.frz q 1 rs))=[(e.n,iV f),(e.c,gT (.osl y 1 0 w) (.osl E 1 0 B) .aE),(e.z,gT .aE .aE .aE)]:=by show[(e.n,iV f),(e.c,cD.rows 3 [[PV.cT q 1 rs (.osl y 1 0 w),PV.cT q 1 rs (.osl E 1 0 B),.aE]]),(e.z,gT .aE .aE .aE)]=_;rw[y0,y1]
   have e5:(j++[[PV.osl q 1 0 (bC (yU f S k (Z' f.a2J-1))).length]]).map (λr=>r.map (PV.cT q 1 rs))=j++[[kC (yU f S k (Z' f.a2J-1))]]:=by rw[a5L,u.flat];show j++[[PV.cT q 1 rs (.osl q 1 0 (bC (yU f S k (Z' f.a2J-1))).length)]]=_;rw[z2]
   have z6:aN (H6.frz q 1 rs) ([(e.n,iV f),(e.c,gT (.osl y 1 0 w) (.osl E 1 0 B) .aE),(e.z,gT .aE .aE .aE)].map (λb=>(b.1,b.2.frz q 1 rs))) [(.osl y 1 0 w,1,(bC (JS f S (k+1))).map λr=>r.map (PV.cT q 1 rs)),(.osl E 1 0 B,1,(j++[[PV.osl q 1 0 (bC (yU f S k (Z' f.a2J-1))).length]]).map λr=>r.map (PV.cT q 1 rs))]:=z5;rw[eB,e5,vG]at z6;exact z6
 ·have l:¬(k:Int)<(Z' f.a2I:Nat):=Om;have:k=Z' f.a2I:=Om;subst this;simp only[go_sem,l];exact Up.up (by(repeat' (first|exact c_|refine d_ ?_ ?_))<;>first|(simp only[go_sem,xV]<;>rfl)|rfl) (hK M A j H0 u I)
theorem aBR{C:Ctx}(X:pX C){K:cP}[Up K](f:aD)(hV:VF f)(S:Nat→Bool)(e:WO)(B:LI)(l x:PV)(I:List (List PV)){F:PF}{H:PH}
  (u:aN H [(e.n,iV f),(e.c,gT x l .aE),(e.z,gT .aE .aE .aE)] [B,(l,1,I),(.aE,1,[])]) (hF:(ba f S e 0).le F)
  (hK:∀w H',aN H' [(e.n,iV f),(e.c,gT x l w),(e.z,gT .aE .aE .aE)] [B,(l,1,I),(w,1,bC (WC f S f.a2G.length))]→K (.exit 4) (ba f S e f.a2G.length) H'):aC.wp C (.loop ki) K F H:=by
 have U:=hV.small;have γ:=U.a2G;refine wp_loop (α:=Nat × PV × PH) (λs=>ba f S e s.1) (λs=>s.2.2) (λs=>s.1≤Z' f.a2G∧aN s.2.2 [(e.n,iV f),(e.c,gT x l s.2.1),(e.z,gT .aE .aE .aE)] [B,(l,1,I),(s.2.1,1,bC (WC f S s.1))]) (λs=>Z' f.a2G-s.1) (0,.aE,H) ⟨a4A _,u⟩ hF b_ ?_;rintro⟨k,w,H0⟩ ⟨hk,u⟩;simp only at hk u;simp only[go_sem,ki,Rh,ba];by_cases hlt:k<Z' f.a2G
 ·have j:(k:Int)<(Z' f.a2G:Nat):=Om;have J:=wZz k;have Y:bG f k<bG f f.a2G.length:=by unfold bG;omega
  have Z:((bG f k:Nat):Int)<((bG f f.a2G.length:Nat):Int):=Om;have M:=qf (S:=S) Y;have O:(WC f S k).length=k:=by simp[WC]
  have e6:H0 e.n=some (iV f):=u.at 0 rfl;have R:H0 e.c=some (gT x l w):=u.at 1 rfl;simp only[go_sem,j,Ri];refine aZ (PH.nil.set e.c (gT x l w)) (GK f [] (λ_ _=>True)) (e_ a_ R) ?_;simp only[go_sem,Rj,e6];refine GN X U (i:=k) Om rfl (e_ a_ R) ?_;simp only[go_sem,a3V,a6M,Z,M];refine u.append 2 (src:=[[.bool (S (bG f k))]]) rfl rfl (by unfold roomFor;rw[hJ,O];simp only[a4E,maxLen];omega) λδ H1 A N=>?_;obtain⟨W,y⟩:=N aW;rw[vH,show WC f S k++[S (bG f k)]=WC f S (k+1)from(vP _ _).symm]at A;refine⟨e_ a_ (A.at 1 rfl),?_⟩;refine aZ .nil cI a_ ?_;have E:=A.at 1 rfl;generalize β:((bC (WC f S k)++[[PV.bool (S (bG f k))]]).length)=V at y;subst y;simp only[go_sem,Rk,E];refine⟨a_,?_⟩;have h2:=A.set 1 rfl (gT x l (.osl W 1 0 V));simp only[go_sem,Rl,J];exact aH (k+1,.osl W 1 0 V,_) ⟨hlt,h2⟩ (by simp only;omega) (by(repeat' (first|exact c_|refine d_ ?_ ?_))<;>first|(simp only[go_sem,ba]<;>rfl)|rfl) b_
 ·have j:¬(k:Int)<(Z' f.a2G:Nat):=Om;have:k=Z' f.a2G:=Om;subst this;simp only[go_sem,j];exact Up.up (by(repeat' (first|exact c_|refine d_ ?_ ?_))<;>first|(simp only[go_sem,ba]<;>rfl)|rfl) (hK w H0 u)
theorem aOV{C:Ctx}(x:VO C)(f:aD)(hf:f.Ok)(room:List Int) :
  WR.wp C (aV aHT.res (aGN f room)) (PF.args [.agg f.cells,ints room]) .nil:=by
 simp only[go_sem,WR,ajS,aHT];refine aQ λz hz=>?_;have h0:aN (PH.nil.set z (gT .aE .aE .aE)) [(z,gT .aE .aE .aE)] []:=aN.nil.new hz (gT .aE .aE .aE);generalize(PH.nil.set z (.rows 3 [[.aE,.aE,.aE]]))=H0 at *
 simp only[go_sem,ajT];refine aB (x.net f room hf) rfl ?_;simp only[go_sem,AV];refine h0.uI λq H1 Y=>?_;have q1:=Y.at 1 rfl;have y:=Y.set 1 rfl (tE (HB f room));simp only[go_sem,q1];generalize H1.set q (.rows 4 [(HB f room).cells])=H2 at *
 have q2:=y.at 1 rfl;have z2:=y.at 0 rfl;have no:∀(F:PF)(H:PH),aN H [(z,gT .aE .aE .aE),(q,tE (HB f room))] []→F 4=some (.ptr z 3 0 0)→F 5=some (.bool false)→aV [.cell 4 (some 3),.tmp 5] (cY (.tup [.agg (fM.cells js),.bool false])) .ret F H:=by intro F H h f4 f5;have e0:=h.at 0 rfl;have h':aN H [] [(.aE,1,bC []),(.aE,1,[]),(.aE,1,bC [])]:=(((h.sub (List.nil_sublist _) (a6B.refl _)).lW 1).lW 1).lW 1;exact Zu (.inr rfl) (by simp only[go_sem,f4,f5,e0]) .nil h'
 cases w:dX f with
 |false =>simp only[go_sem,B8,FW w,ajU,z2];refine aMM (c:=js) (b:=false) (.inl ⟨w,rfl,rfl⟩) ?_;exact no _ _ (y.set 0 rfl (gT .aE .aE .aE)) rfl rfl
 |true=>
  have hV:=VF.of w;have hs:=hV.small;have hn:=HC hV room;have O:=q2;rw[FX w]at O;simp only[go_sem,B8,qY w,ajV,O];refine eY (x.solve _ hn) rfl a_ ?_;rintro r H' ⟨xs,S,M,u,A,B,rfl,rfl⟩ -;rw[PH.qK];have I:=yj hV M u A B;have α:=aUI hV M;simp only[go_sem,ajW];refine aB (x.demand f hV) rfl ?_;by_cases E:kM (cW f room) xs=((qT f:Nat):Int)
  ·simp only[go_sem,cA E,ajX,z2];refine aMM (c:=js) (b:=false) (.inr (.inl ⟨w,I.1 Om,rfl,rfl⟩)) ?_;exact no _ _ (y.set 0 rfl (gT .aE .aE .aE)) rfl rfl
  ·have J:¬GG f room:=λh=>I.2 h Om;simp only[go_sem,bJ E,ajY,a3V];refine y.uI λe H3 Z=>?_;have g3:=Z.at 2 rfl;have h4:=Z.set 2 rfl (iV f);simp only[go_sem,g3];generalize H3.set e (.rows 2 [[.int .i64 (Z' f.a2I:Nat),.int .i64 (Z' f.a2J:Nat)]])=H4 at *
   simp only[go_sem,ajZ];refine h4.uI λj H5 h5=>?_;have h6:aN H5 [(e,iV f),(j,gT .aE .aE .aE),(z,gT .aE .aE .aE)] [(.aE,1,[]),(.aE,1,[])]:=by refine((((h5.wX 1).lW 1).lW 1).perm ?_ (a6I.refl _));exact List.perm_append_comm (l₁:=[(z,gT .aE .aE .aE)]) (l₂:=[(e,iV f),(j,gT .aE .aE .aE)])
   simp only[go_sem,akA,a3V];refine aBS x.topX f hV S ⟨z,e,j⟩ h6 (by(repeat' (first|exact c_|refine d_ ?_ ?_))<;>first|(simp only[go_sem,xV]<;>rfl)|rfl) λR U fs H6 N h7=>?_;simp only[go_sem,Rf,xV,a3V];refine aBR x.topX f hV S ⟨z,e,j⟩ (R,1,bC (JS f S f.a2I.length)) U R fs (h7.lW 1) (by(repeat' (first|exact c_|refine d_ ?_ ?_))<;>first|(simp only[go_sem,ba]<;>rfl)|rfl) λrv H7 h8=>?_;have ec:=h8.at 1 rfl;have ez:=h8.at 2 rfl;have K:=h8.set 2 rfl (gT R U rv);simp only[go_sem,Rm,ba,ec,ez];have l:=aFY hV M (S:=S) A B u J;rw[aGY]at l;refine⟨_,aL ?_,?_⟩
   ·rcases K.own 0 rfl with⟨_,V⟩|⟨q1,rs1,V,_⟩<;>rcases K.own 1 rfl with⟨_,W⟩|⟨q2,rs2,W,_⟩<;>rcases K.own 2 rfl with⟨_,X⟩|⟨O,rs3,X,_⟩<;>rw[V,W,X]<;>rfl
   refine aMM (b:=true) (.inr (.inr ⟨w,J,l,rfl⟩)) ?_;exact Zu (.inr rfl) Sq N (K.sub (List.nil_sublist _) (a6B.refl _))
theorem aOO {C : Ctx} (f : aD) (hV : VF f) : WK.wp C (aV aHN.res (aK (.int .i64 ((qT f : Nat) : Int)))) (PF.args [.agg f.cells]) .nil := by
  have hs := hV.small.a2I;simp only[go_sem,WK,aiS,aiT,aiU,aHN,a3V];refine wp_loop (α := Nat) (fun k => (((((PF.nil.set 1 (.bU f.cells)).set 3 (.int .i64 ((dK (fQ f) k : Nat) : Int))).set 7 (.sl 2 (f.a2I.map hC.cells))).set 8 (.int .i64 (f.a2I.length : Nat))).set 9 (.int .i64 (k : Nat)))) (fun _ => .nil) (fun k => k ≤ f.a2I.length) (fun k => f.a2I.length - k) 0 (a4A _) (by (repeat' (first|exact c_|refine d_ ?_ ?_)) <;> first|(simp only[go_sem,dK] <;> rfl)|rfl) a_ ?_;intro k hk;simp only[go_sem,aiR,aiV];by_cases hlt : k < f.a2I.length
  · have a2N : (k : Int) < (f.a2I.length : Nat) := Om
    obtain ⟨b1, b2, b3, -⟩ := nD hV hlt;have b4 := ahD hV k hk;obtain ⟨hp, he⟩ := rT hV hlt;have hpol := hV.a2T _ (a3Y hp);rw [he] at hpol;have e0 : IntKind.i64.wrap ((cX f k).k + (cX f k).m) = qO f k := wrap_i64 Om Om;have e : IntKind.i64.wrap (((dK (fQ f) k : Nat) : Int) + qO f k) = ((dK (fQ f) (k + 1) : Nat) : Int) := by rw [dK, ← b3, wrap_i64 Om Om]; omega
    simp only[go_sem,a2N,aiW,AA hlt];refine aQ fun o ho => ?_;simp only[go_sem];refine aZ .nil cI a_ ?_;simp only[go_sem,aiX,hV.YV hlt,tR hp,he,e0,e,B0,wZz k]
    first
      | exact aH (k + 1) hlt Om Lq a_
      | (refine ⟨a_, ?_⟩
         simp only[go_sem,B0,wZz k];exact aH (k + 1) hlt Om Lq a_)
  · have a2N : ¬ (k : Int) < (f.a2I.length : Nat) := Om
    have : k = f.a2I.length := Om;subst this;simp only[go_sem,a2N,aiY];refine aT (.inr rfl) rfl ?_;rfl
structure cQ(C:Ctx):Prop where
 r0:bN C 0 Vd
 r1:bN C 1 axG
 r2:bN C 2 aJG
 r4:bN C 4 Ny
 r5:bN C 5 aJL
 r6:bN C 6 axM
 r7:bN C 7 Nx
 r27:bN C 27 Us
 r28:bN C 28 aJJ
 r29:bN C 29 axJ
 r30:bN C 30 aLL
 r31:bN C 31 azD
 r32:bN C 32 aLN
 r33:bN C 33 udiv
 r34:bN C 34 aLR
 r35:bN C 35 azJ
 r36:bN C 36 aLT
 r37:bN C 37 aMA
 r38:bN C 38 azN
 r39:bN C 39 Dy
 r40:bN C 40 azH
 r41:bN C 41 acI
 r42:bN C 42 acL
 r43:bN C 43 azL
 r44:bN C 44 acS
 r45:bN C 45 uup
 r46:bN C 46 azO
 r47:bN C 47 aMF
 r48:bN C 48 adH
 r49:bN C 49 azU
 r50:bN C 50 N5
 r51:bN C 51 adQ
 r52:bN C 52 D5
 r53:bN C 53 azX
 r54:bN C 54 azY
 r55:bN C 55 aML
 r56:bN C 56 aeB
 r57:bN C 57 azR
 r58:bN C 58 D4
 r59:bN C 59 azZ
 r60:bN C 60 aeA
 r61:bN C 61 SO
 r62:bN C 62 Ea
 r63:bN C 63 aeC
 r64:bN C 64 D9
 r65:bN C 65 Eb
 r66:bN C 66 aMW
 r67:bN C 67 afT
 r68:bN C 68 aMU
 r69:bN C 69 aMQ
 r70:bN C 70 afD
 r71:bN C 71 afE
 r72:bN C 72 rp
 r73:bN C 73 afR
 r74:bN C 74 afS
 r75:bN C 75 Ee
 r76:bN C 76 dz
 r77:bN C 77 qd
 r82:bN C 82 ayU
 r85:bN C 85 azA
 r88:bN C 88 Z2
 r95:bN C 95 aIB
 r96:bN C 96 aIJ
 r97:bN C 97 Rp
 r98:bN C 98 awB
 r99:bN C 99 awC
 r100:bN C 100 awD
 r101:bN C 101 gone
 r102:bN C 102 awH
 r103:bN C 103 Sl
 r104:bN C 104 gin
 r105:bN C 105 aIC
 r106:bN C 106 aID
 r107:bN C 107 awJ
 r108:bN C 108 awK
 r109:bN C 109 S1
 r110:bN C 110 awN
 r111:bN C 111 awF
 r112:bN C 112 aIF
 r113:bN C 113 Bv
 r114:bN C 114 aHM
 r115:bN C 115 Nt
 r116:bN C 116 ck
 r117:bN C 117 Qy
 r118:bN C 118 Q1
 r119:bN C 119 aHK
 r120:bN C 120 AL
 r121:bN C 121 Q0
 r122:bN C 122 avZ
 r123:bN C 123 Nu
 r124:bN C 124 ul
 r125:bN C 125 uo
 r126:bN C 126 cx
 r127:bN C 127 aJN
 r128:bN C 128 axP
 r129:bN C 129 aJQ
 r130:bN C 130 aJR
 r131:bN C 131 aJV
 r132:bN C 132 ayB
 r133:bN C 133 aJY
 r134:bN C 134 aKA
 r135:bN C 135 ayD
 r136:bN C 136 Cy
 r137:bN C 137 Xg
 r138:bN C 138 NR
 r139:bN C 139 ny
 r140:bN C 140 Xt
 r141:bN C 141 Xu
 r142:bN C 142 YC
 r143:bN C 143 nup
 r152:bN C 152 dr
 r156:bN C 156 azC
 r161:bN C 161 abI
 r282:bN C 282 aKD
 r283:bN C 283 axU
 r284:bN C 284 aJS
 r285:bN C 285 aJO
 r286:bN C 286 aHR
 r287:bN C 287 aHN
 r288:bN C 288 Qu
 r289:bN C 289 aHT
 r290:bN C 290 aHL
 r291:bN C 291 axK
 r292:bN C 292 Wn
 r293:bN C 293 aIZ
 r294:bN C 294 Nw
 r295:bN C 295 Nv
 r296:bN C 296 Wa
 r297:bN C 297 aIW
 r298:bN C 298 Wm
 r299:bN C 299 X9
 r300:bN C 300 Ya
 r301:bN C 301 aKE
 r302:bN C 302 X8
 r303:bN C 303 YS
 r304:bN C 304 Nz
 r305:bN C 305 aKP
 r306:bN C 306 Zl
 r307:bN C 307 Dm
 r308:bN C 308 Dl
 r311:bN C 311 Dk
 r312:bN C 312 aeI
 r314:bN C 314 aAG
namespace Z
theorem vS{C:Ctx}(c:cQ C):wV C:=
 have len:∀xs,Lim xs→Z' xs≤35184372087808→aJ C 138 [aO xs] .nil (aK (.int .i64 (nl (val xs):Nat))):=λxs h l=>c.r138.go (ayA xs h l) rfl
 {length:=len
  large:=λxs h l=>c.r137.go (aCT xs (len xs h l)) rfl
  sized:=λxs h l=>(c.r141.go (aCW xs h (len xs h l)) rfl).seen
  trim:=λxs h l=>(c.r135.go (aKB xs h l (len xs h l)) rfl).seen
  make:=λv h=>c.r132.go (aJX v h len) rfl
  cmp:=λxs x e j u w=>c.r129.go (aQC xs x e j u w (len xs e u) (len x j w)) rfl }
theorem aPY{C:Ctx}(c:cQ C):Np C:=
 {subtract:=λA W Z v f o hW u l j w e=>c.r142.go (X0 A W Z v f hW u l j w e o) rfl
  restore:=λA W Z v o hW u l j=>c.r139.go (agL A W Z v hW u l j o) rfl }
theorem axN{C:Ctx}(c:cQ C):Of C:=
 {L:=vS c
  D:=aPY c
  up:=λa s j x e=>c.r143.go (aTT a s j x e) rfl
  short:=λa d j l u e=>c.r140.go (aCV (vS c) a d j l u e) rfl
  lengthO:=λxs o y w=>c.r138.go (agK xs y w o) rfl }
theorem wi{C:Ctx}(c:cQ C)(A B:Nat)(hB:B≠0)(j:nl A≤900)(e:nl B≤900):aJ C 136 [aO (aM A),aO (aM B)] .nil (aK (wJ A B)):=
 (c.r136.go (axT (axN c) A B hB j e) rfl).seen
theorem xN{C:Ctx}(c:cQ C):yQ C:=
 {vS c with
  bits:=λxs h l=>c.r128.go (aJP xs h l ((vS c).length xs h l)) rfl
  add:=λxs x e j u w=>(c.r127.go (aPZ (vS c) xs x e j u w) rfl).seen
  sub:=λxs x e j u w=>(c.r134.go (aQK (vS c) xs x e j u w) rfl).seen
  mul:=λxs x e j u w=>(c.r133.go (aQJ (vS c) xs x e j u w) rfl).seen
  gcd:=λxs x e j u w=>(c.r131.go (aQI (vS c) (wi c) xs x e j u w) rfl).seen
  div:=λxs x e j u w=>(c.r130.go (aQD (vS c) (wi c) xs x e j u w) rfl).seen }
theorem FK{C:Ctx}(c:cQ C):OD C:=
 {xN c with
  times:=λa b e hb j l u w=>c.r121.go (aBP (xN c) a b e hb j l u w) rfl
  zero:=λneg a b e j=>c.r122.go (aHV (xN c) neg a b e j) rfl
  valid:=λneg a b e hb j l=>c.r118.go (aBQ (xN c) neg a b e hb j l) rfl
  abs:=λv y A=>c.r119.go (aOK (xN c) v y A) rfl
  lowest:=λneg a b e hb j l u w x=>(c.r120.go (avU (xN c) neg a b e hb j l u w x) rfl).seen }
theorem Qv{C:Ctx}(c:cQ C)(x y:RF)(e:x.Ok)(j:y.Ok):aJ C 113 [.agg x.cells,.agg y.cells] .nil (aK (frV (lC x.v y.v))):=
 (c.r113.go (aOL (FK c) x.neg y.neg x.num x.den y.num y.den e.1 e.2.1 j.1 j.2.1 e.2.2.1 e.2.2.2 j.2.2.1 j.2.2.2) rfl).seen
theorem B5{C:Ctx}(c:cQ C):No C:=
 {FK c with
  frac:=λn d A u=>(c.r115.go (aHQ (FK c) n d A.1 A.2 u.1 u.2) rfl).seen
  red:=λx e=>by rw[←ayM];exact(c.r116.go (avX (FK c) x.neg x.num x.den e.1 e.2.1 e.2.2.1 e.2.2.2) rfl).seen
  ord:=λx y e j=>(c.r114.go (aON (FK c) x.neg y.neg x.num x.den y.num y.den e.1 e.2.1 j.1 j.2.1 e.2.2.1 e.2.2.2 j.2.2.1 j.2.2.2) rfl).seen
  plus:=Qv c
  tot:=λl w=>(c.r117.go (aOU (FK c) (Qv c) l w.all w.fits) rfl).seen }
theorem FJ{C:Ctx}(c:cQ C):yN C:=
 have inn:∀n lo hi:Int,aJ C 104 [.int .i64 n,.int .i64 lo,.int .i64 hi] .nil (aK (.bool (within n lo hi))):=λn lo hi=>(c.r104.go (aTJ n lo hi) rfl).seen;have wW:∀x:RF,x.Ok→aJ C 97 [.agg x.cells] .nil (aK (.bool (bV x))):=λx u=>(c.r97.go (aBT (xN c) x u) rfl).seen;have lim:∀x:RF,x.Ok→aJ C 105 [.agg x.cells] .nil (aK (.bool (eC x))):=λx u=>(c.r105.go (aOY (B5 c) x u) rfl).seen;have e:∀n:Nat,aJ C 126 [.int .u8 n] .nil (aK (.bool (iW n))):=λn=>c.r126.go (axC n) rfl;have j:∀n:Nat,aJ C 124 [.int .u8 n] .nil (aK (.bool (rD n))):=λn=>c.r124.go (aCA n) rfl
 {B5 c with
  inn:=inn
  wW:=wW
  lim:=lim
  one:=λx u=>(c.r101.go (aPA (B5 c) x u) rfl).seen
  allf:=λp fn l w h=>(c.r99.go (aHX p fn l w h) rfl).seen
  alli:=λp fn l w h=>(c.r100.go (aHY p fn l w h) rfl).seen
  allb:=λp fn l w h=>(c.r98.go (aHW p fn l w h) rfl).seen
  ends1:=λb=>(c.r103.go (aBU b) rfl).seen
  num1:=λn=>(c.r107.go (aIE inn n) rfl).seen
  rate1:=λx u=>(c.r109.go (aBW lim wW x u) rfl).seen
  name:=λs=>c.r123.go (aIU e (λn=>c.r125.go (aCE e j n) rfl) s) rfl }
theorem Pw{C:Ctx}(c:cQ C):Ob C:=
 {FJ c with
  num:=λp e=>(c.r106.go (aOZ (FJ c) p e) rfl).seen
  rate:=λp e=>(c.r108.go (aIG (FJ c) p e) rfl).seen
  uniq:=λl j=>(c.r110.go (aII (FJ c) l j) rfl).seen }
theorem Px{C:Ctx}(c:cQ C):rx C:=
 {Pw c with
  ends:=λl e he=>(c.r102.go (aIA (FJ c) l e he) rfl).seen }
theorem aHP{C:Ctx}(c:cQ C):pD C:=
 {Px c with
  law:=λl j=>(c.r95.go (aOX (Px c) l j) rfl).seen
  pol:=λp n w u=>(c.r112.go (aPB (Pw c) p w n u) rfl).seen
  a2Q:=λf e=>(c.r111.go (aOW (FJ c) f e) rfl).seen }
theorem Es{C:Ctx}(c:cQ C)(f:aD)(e:f.Ok):aJ C 96 [.agg f.cells] .nil (aK (.int .i64 (DF f))):=(c.r96.go (aPD (aHP c) f e) rfl).seen
theorem aRM{C:Ctx}(c:cQ C):aNC C:=
 {valid:=λf e=>(c.r161.go (aFB (Es c) f e) rfl).seen
  Qw:=λf v j h=>(c.r156.go (aLG f j v h) rfl).seen }
theorem tT{C:Ctx}(c:cQ C):vF C:={ trimM:=λxs h l=>c.r38.go (aMB xs h l) rfl }
theorem Zm{C:Ctx}(c:cQ C):Oi C:=
 {tT c with
  make:=λv h=>(c.r35.go (aLS (tT c) v h) rfl).seen
  large:=λxs h l=>(c.r41.go (aFE (tT c) xs h l) rfl).seen
  cmp:=λxs x e j u w=>c.r32.go (aRO (tT c) xs x e j u w) rfl }
theorem Zo{C:Ctx}(c:cQ C):Ol C:=
 {Zm c with
  minus:=λa b j hb l w e=>(c.r42.go (aFF (tT c) a b j hb l w e) rfl).seen
  times:=λa b j hb e u=>(c.r44.go (aFG (tT c) a b j hb e u) rfl).seen }
theorem p8{C:Ctx}(c:cQ C):sd C:=
 {Zo c with
  plus:=λa b l hb e j=>(c.r43.go (aLY (tT c) a b l hb e j) rfl).seen }
theorem aKS{C:Ctx}(c:cQ C):VQ C:=
 {p8 c with
  bits:=λxs h l=>c.r31.go (aLM (tT c) xs h l) rfl
  upM:=λa n j e u w=>c.r45.go (aUH (tT c) a n j e u w) rfl
  down:=λa n j e u=>(c.r40.go (aLQ (tT c) a n j e u) rfl).seen }
theorem p7{C:Ctx}(c:cQ C):sa C:=
 {Zm c with
  divide:=λA B hB j e=>(c.r39.go (azG (aKS c) A B hB j e) rfl).seen }
theorem Zn{C:Ctx}(c:cQ C):Oj C:=
 {p7 c with
  gcd:=λa b e hb j l=>(c.r34.go (aRQ (p7 c) a b e hb j l) rfl).seen
  div:=λa b e hb j l=>(c.r33.go (aRP (p7 c) a b e hb j l) rfl).seen }
theorem aqW{C:Ctx}(c:cQ C):auQ C:=
 {Zn c with
  lowest:=λneg a b l hb u w x y j=>(c.r58.go (azV (Zn c) neg a b l hb u w x y j) rfl).seen
  size:=λv e=>c.r59.go (aMK v e.1 e.2) rfl }
theorem SF{C:Ctx}(c:cQ C):sb C:=
 {aqW c with
  fmk:=λn d j e=>(c.r50.go (aMH (aqW c) n d j e) rfl).seen }
theorem db{C:Ctx}(c:cQ C)(hi:CX C):HZ C:=
 {SF c with
  int:=λn e=>(c.r47.go (atG (SF c) n e) rfl).seen
  itoa:=hi
  next:=λl v T o n a e j=>c.r4.go (V5 T o n a e j) rfl }
theorem Vt{C:Ctx}(c:cQ C)(hi:CX C):Od C:=
 {db c hi with
  frac:=λl v T o a e=>c.r1.go (aJE (db c hi) T o a e) rfl }
theorem Vu{C:Ctx}(c:cQ C)(hi:CX C):yP C:=
 {Vt c hi with
  rep:=λl v T o a m j e=>c.r5.go (aPX (Vt c hi) T o a m j e) rfl
  name:=λs n w u=>c.r29.go (aJI (db c hi) s n w u) rfl }
theorem Vv{C:Ctx}(c:cQ C)(hi:CX C):sB C:=
 {Vu c hi with
  law:=λl v T o gZ a u e j=>c.r2.go (aPV (Vu c hi) T o gZ a u e j) rfl }
theorem Vw{C:Ctx}(c:cQ C)(hi:CX C):Oe C:=
 {Vv c hi with
  grow:=λl v T mc a2G e j u=>S8 (Vv c hi) T mc a2G e j u (λargs H R w h=>c.r7 args H R (by rw[w];decide) h) 4 (a4B _) }
theorem mi{C:Ctx}(c:cQ C)(hi:CX C):aAN C:=
 {Vw c hi with
  new:=λl hb w=>c.r28.go (aPW l hb w) rfl
  fleet:=λl v T o a2G a2I a e j u=>VN.exact (c.r0.go (aCH (Vw c hi) T o a2G a2I a e j u) rfl) }
theorem Dn{C:Ctx}(c:cQ C):Nr C:=
 {SF c with
  int:=λn u=>(c.r47.go (atG (SF c) n u) rfl).seen
  mul:=λa b e hb j l=>(c.r36.go (aRR (Zo c) a b e hb j l) rfl).seen
  add:=λa b e hb j l=>(c.r30.go (aRN (p8 c) a b e hb j l) rfl).seen
  sub:=λa b e hb j l=>(c.r37.go (aRU (p8 c) a b e hb j l) rfl).seen }
theorem p9{C:Ctx}(c:cQ C):se C:=
 {Dn c with
  valid:=λx e=>c.r56.go (aFW (Dn c) x.neg x.num x.den e.1 e.2.1 e.2.2.1 e.2.2.2) rfl
  big:=λx=>c.r48.go (aFT x.1 (aM x.2.1) (aM x.2.2)) rfl }
theorem Zp{C:Ctx}(c:cQ C):On C:=
 {p9 c with
  fits:=λx=>(c.r57.go (aMD (p9 c) x) rfl).seen
  red:=λx j=>(c.r52.go (azW (p9 c) x j) rfl).seen
  prod:=λa b e hb l u w y=>c.r60.go (aFV (Dn c) a b e hb l u w y) rfl }
theorem HG{C:Ctx}(c:cQ C):GH C:=
 {Zp c with
  order:=λx y e j l u=>c.r51.go (aFU (Zp c) x y e j l u) rfl }
theorem aqX{C:Ctx}(c:cQ C):auR C:=
 {HG c with
  less:=λx y e j l u=>c.r49.go (aMG (HG c) x y e j l u) rfl
  same:=λx y e j l u=>c.r53.go (aMI (HG c) x y e j l u) rfl
  sign:=λx e l=>c.r54.go (aMJ (HG c) x e l) rfl
  plus:=λx y e j=>(c.r46.go (aRV (HG c) x y e j) rfl).seen }
theorem p5{C:Ctx}(c:cQ C):r9 C:=
 {aqX c with
  sum:=λl j e=>(c.r55.go (aRX (aqX c) l j e) rfl).seen
  inn:=λn lo hi=>c.r76.go (aAK n lo hi) rfl
  code:=λk m=>c.r61.go (aKZ k m) rfl }
theorem J3{C:Ctx}(c:cQ C):Bg C:=
 {p5 c with
  small:=λx e=>c.r74.go (aGH (p5 c) x e) rfl
  nums:=λk m q s0 s1 s2 s3 s4=>c.r72.go (ahB (p5 c) k m q s0 s1 s2 s3 s4) rfl
  sizes:=λj l u w y A=>c.r73.go (aGG j l u w y A) rfl }
theorem J4{C:Ctx}(c:cQ C):Bh C:=
 {J3 c with
  smalls:=λl e n=>c.r75.go (aAJ (J3 c) l e n) rfl }
theorem J5{C:Ctx}(c:cQ C):Bi C:=
 {J4 c with
  reps:=λl e m=>c.r66.go (aSC (J4 c) l e m) rfl }
theorem J6{C:Ctx}(c:cQ C):Bj C:=
 have e:∀n:Nat,aJ C 65 [.int .u8 n] .nil (aK (.bool (iW n))):=λn=>c.r65.go (aAC n) rfl;have j:∀n:Nat,aJ C 63 [.int .u8 n] .nil (aK (.bool (rD n))):=λn=>c.r63.go (aFX n) rfl
 {J5 c with
  name:=λs=>c.r62.go (aAB e (λn=>c.r64.go (aAA e j n) rfl) s) rfl
  index:=λl u s=>c.r71.go (aGE l u s) rfl }
theorem J7{C:Ctx}(c:cQ C):vE C:=
 {J6 c with
  fresh:=λl j s w H e=>c.r70.go (aGD (J6 c) l j s w H e) rfl }
theorem aEG{C:Ctx}(c:cQ C):xX C:=
 {J7 c with
  law:=λl e=>c.r68.go (aSB (J7 c) l e) rfl }
theorem aEH{C:Ctx}(c:cQ C):Bk C:=
 {aEG c with
  dur:=λm rep j t h l e=>c.r69.go (aSA (J5 c) m rep j t h l e) rfl }
theorem p6{C:Ctx}(c:cQ C):aAP C:=
 {valid:=λf w=>c.r67.go (aGK (aEH c) f w) rfl
  wW:=λf d level e u j l=>c.r88.go (aEP f e d u level j l) rfl
  Qw:=λf v e h=>(c.r82.go (aLB f e v h) rfl).seen }
theorem aEA{C:Ctx}(c:cQ C)(f:aD)(v:Nat)(e:v≤100):aJ C 282 [.agg (xA f),.int .i64 (v:Nat)] .nil (aK (.int .i64 ((2+v:Nat):Int))):=c.r282.go (aQM f v e) rfl
theorem Jt{C:Ctx}(c:cQ C):pX C:=
 {vol:=aEA c
  dom:=λf j e v i y hi=>c.r283.go (aQE (aEA c) f j e v i y hi) rfl
  drv:=λf j d e=>c.r284.go (aQF f j d e) rfl
  arc:=λo N a v l x H u=>c.r285.go (aQB o N a.src a.dst a.cap v l x H u) rfl
  valid:=Es c
  roomM:=λf room w=>c.r152.go (aLJ (aRM c) f w room) rfl }
theorem apS{C:Ctx}(c:cQ C)(n:cH)(e:fD n):aJ C 292 [.agg n.cells] .nil (aK (.bool true)):=c.r292.go (aCN (λn o x j=>c.r291.go (aJK n o x j) rfl) n e) rfl
theorem apR{C:Ctx}(c:cQ C)(n:cH)(e fo:Nat)(xs:List Nat)(out:PV)(s:dB)(l:fD n)(j:¬e=fo)(w:pW n xs)(u:s.1<Z' n.arcs):aJ C 294 [.ptr e 6 0 0,.int .i64 (stI s)] (sH n e fo xs out) (λr H'=>r=.tup [.int .i64 ((gG n s:Nat):Int),.int .i64 ((eA n xs s:Nat):Int)]∧H'=sH n e fo xs out):=c.r294.go (aJA n l e fo j xs w out s u) rfl
theorem aKN{C:Ctx}(c:cQ C)(n:cH)(j:fD n):aJ C 298 [.agg n.cells] .nil (VR n):=
 c.r298.go (aCL (apS c) (λn u fo xs y l j e I w B=>c.r296.go (aCK (apR c) n j u fo e xs I y l w B) rfl)
  (λn u fo xs out Q way j e A E x=>c.r297.go (aPR (apR c) (λn u fo xs out s j e F=>c.r295.go (aIY n j u fo e xs out s F) rfl) n j u fo e xs A out Q way E x) rfl) n j) rfl
theorem Ym{C:Ctx}(c:cQ C):VO C:=
 {Jt c with
  net:=λf room e=>(c.r286.go (aOR (Jt c) f e room) rfl).ayT
  solve:=aKN c
  demand:=λf hV=>c.r287.go (aOO f hV) rfl }
theorem Di{C:Ctx}(c:cQ C)(hi:CX C):aAL C:=
 {fleet:=λl hb y a2G a2I j w=>(c.r27.go (aCF (mi c hi) l hb y a2G a2I j w) rfl).seen
  place:=λf room e=>(c.r288.go (aBO (Ym c) f e room) rfl).place
  why:=λf room e=>(c.r289.go (aOV (Ym c) f e room) rfl).why
  chk:=λf room ct e u=>c.r290.go (aOM (Ym c) (λn cut A x=>c.r293.go (aPT (apS c) n A cut x) rfl) f e room ct u) rfl }
theorem aKM{C:Ctx}(c:cQ C)(hi:CX C):aJ C 312 [] .nil (aK (.bool true)):=c.r312.go (aGB (Di c hi)) rfl
theorem aQW{C:Ctx}(c:cQ C)(hi:CX C):aAM C:=
 {new:=(mi c hi).new
  tfleet:=(mi c hi).fleet
  dr:=λl v T o a f j e=>exactly (c.r6.go (aJM (db c hi) T o a f j e) rfl) }
theorem Yl{C:Ctx}(c:cQ C):AI C:=
 {node:=λf j e v i w hi=>c.r304.go (aKR f j e v i w hi) rfl
  drv:=λf j d e=>c.r305.go (aQY f j d e) rfl
  total:=λf hV=>c.r306.go (aEF (p6 c).Qw f hV) rfl
  qvalid:=(p6 c).valid
  allowed:=λf p d hV u e=>c.r77.go (agP f hV p u d e) rfl
  qroom:=λf room l=>(c.r85.go (aLD (p6 c) f l room) rfl).seen }
theorem aQV{C:Ctx}(c:cQ C)(f:aD)(room:List Int)(e:f.Ok):aJ C 307 [.agg f.cells,ints room] .nil (aK (AV f room)):=(c.r307.go (aRA (Yl c) f e room) rfl).ayT
theorem Dh{C:Ctx}(c:cQ C)(n:cH)(e:fD n):aJ C 299 [.agg n.cells] .nil (aK (.bool true)):=c.r299.go (aDQ n e) rfl
theorem aQU{C:Ctx}(c:cQ C):aSQ C:=
 {Yl c with
  Dm:=aQV c
  YS:=λn e=>c.r303.go (aDO (Dh c) (λn xs e l=>c.r300.go (aDT (Dh c) n e xs l) rfl) (λn fo xs e j=>by rw[←j.len];exact c.r302.go (aDN n e fo xs j) rfl) n e) rfl
  Dl:=λf room xs hV j=>(c.r308.go (aQZ (Yl c) f hV room xs j) rfl).ayT }
theorem aQT{C:Ctx}(c:cQ C)(f:aD)(room:List Int)(ct:fM)(l:f.Ok)(e:pZ ct):aJ C 311 [.agg f.cells,ints room,.agg ct.cells] .nil (aK (.bool (qD f room ct))):=c.r311.go (aQX (aQU c) (λn cut u j=>c.r301.go (aQN (Dh c) n u cut j) rfl) f l room ct e) rfl
theorem aTX{C:Ctx}(c:cQ C)(hi:CX C):ahC C:=
 {aQW c hi with
  awake:=aKM c hi
  bits:=λf l v o a hV T e=>c.r314.go (aMO (λl v T o n a j e=>c.r4.go (V5 T o n a j e) rfl) f hV T o a e) rfl
  place:=(Di c hi).place
  chk:=(Di c hi).chk
  Dk:=aQT c }
end Z
theorem aHI{C:Ctx}(c:cQ C)(hi:CX C)(r:bN C 318 N8)(l m:List Nat)(hb:∀x∈l,x<256)(j:Z' l≤9223372036854775807)(e:∀x∈m,x<256)(u:Z' m≤9223372036854775807):aJ C 318 [.sl 1 (mF l),.sl 1 (mF m)] .nil (aK (.bool true)):=r.go (aMP (Z.aTX c hi) l m hb j e u) rfl
end Go.PM
