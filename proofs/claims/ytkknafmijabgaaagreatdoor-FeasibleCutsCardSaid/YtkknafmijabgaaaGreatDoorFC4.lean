/-
  Texts of ours, joined. No condition.
-/
import Derived.Test.YtkknafmijabgaaaGreatDoorFC1
import Derived.Test.YtkknafmijabgaaaGreatDoorFC2
import Derived.Test.YtkknafmijabgaaaGreatDoorFC3
import Derived.RangeFuncRecord
set_option linter.unusedSimpArgs false
set_option linter.unusedVariables false
open Nat renaming reduceEqDiff→γ,reduceAdd→δ,reduceSub→ε,reduceMul→ζ,reduceLT→η,reduceLeDiff→θ,reduceBEq→τ
open Int renaming reduceLT→ι,reduceLE→κ,reduceEq→μ,reduceToNat→ν,reduceAdd→ξ,reduceNeg→ο,reduceBEq→ρ,reduceBNe→σ
open List renaming reduceReplicate→υ
open List renaming length_map→a3V,replicate→a3W,getElem_mem→a3Y,length_append→a3Z,mem_cons→a4J,length_take→a4M,take_of_length_le→a4N,append_assoc→a5C,drop_zero→a5J,length_cons→a5P,length_nil→a6F,drop_eq_getElem_cons→a6J,nil_append→a7C,length_replicate→a7J,set_append_right→a7O
open Nat renaming le_refl→a4B,zero_add→a4I,mul_add→a4L,lt_or_ge→a4R,mul_assoc→a4V,mul_comm→a4Y,mul_le_mul_right→a4Z,add_mul→a5G,add_zero→a5H,mod_eq_of_lt→a5N,mod_lt→a5T,eq_zero_or_pos→a6C,min_eq_left→a6G,mul_le_mul_left→a6P,pos_of_ne_zero→a6Q,le_trans→a6T,pow_pos→a6X,div_eq_of_lt→a7D,div_lt_iff_lt_mul→a7F,div_add_mod→a7P
open Bool renaming false_eq_true→a6Z
open Option renaming map_eq_some_iff→a4G
open Array renaming getElem?_eq_some_iff→a7X
open List renaming length→Z'
set_option maxRecDepth 100000
set_option maxHeartbeats 800000
noncomputable section
namespace Go.PM
open Go Go.Na
def aLO(a:List Nat)(d q k r:Nat):PF:=(((((PF.nil.set 0 (aO a)).set 1 (aO [d])).set 6 (.osl q 1 0 a.length)).set 7 (.int .u64 r)).set 8 (.int .i64 ((k:Int)-1)))
theorem azF{C:Ctx}(L:VQ C)(a:List Nat)(d:Nat)(ha:Lim a)(l:0<d)(hd:d<4294967296)(h1:Z' a≤1000)(F:PF)(f0:F 0=some (aO a))(f1:F 1=some (aO [d])) :
  aC.wp C (.seq (.region TF) (.seq (.region TG) (.seq (.seq (.region TH) (.block 0 (.loop LP))) (.seq (.region LQ) .ret)))) (aV [.tmp 4,.tmp 5] (cY (wJ (val a) d))) F .nil:=by
 have Y:(Z' a:Int)*((4:Nat):Int)≤140737488355328:=Om;have Z:(Z' a:Int)≤9223372036854775807:=Om;have hz:a3W a.length [PV.int .u32 0]=aP (a3W a.length 0++[]):=by simp[aP]
 simp only[go_sem,TF,f0,a3V,Y,Z,hz];refine aQ λo ho=>?_;simp only[go_sem,TG,TH,f0,a3V];refine wp_loop (α:=Nat × List Nat × Nat) (λt=>aLO a d o t.1 t.2.2) (λt=>PH.nil.set o (.rows 1 (aP (a3W t.1 0++t.2.1))))
  (λt=>t.1+t.2.1.length=Z' a∧Lim t.2.1∧t.2.2<d∧val t.2.1*d+t.2.2=val (a.drop t.1)) (λt=>t.1) (Z' a,[],0) ⟨by simp,by simp[Lim],l,by simp[val]⟩ ?_ ?_ ?_
 ·unfold aLO
  (repeat' (first|exact c_|refine d_ ?_ ?_))<;>first|(simp only[go_sem,f0,f1,wrap_i64 (Om:-9223372036854775808≤(Z' a:Int)-1) (Om:(Z' a:Int)-1≤9223372036854775807)]<;>rfl)|rfl
 ·exact e_ a_ Sq
 rintro⟨k,S,r⟩ ⟨hk,j,N,e⟩;simp only at hk j N e;simp only[go_sem,LP,yv,aLO];by_cases h0:0<k
 ·obtain⟨m,rfl⟩:∃m,k=m+1:=⟨k-1,by omega⟩;have A:((m+1:Nat):Int)-1=(m:Int):=Om;have W:(m:Int)≥0:=Om;have w:m<Z' a:=Om;have hlt:(m:Int)<(Z' a:Nat):=Om;have γ:=ha _ (a3Y w);have u:val (a.drop m)=a[m]+4294967296*val (a.drop (m+1)):=by rw[a6J w];rfl
  have U:=cM a w;generalize hx:a[m]=x at *
  have ex:IntKind.u64.wrap ((x:Nat):Int)=((x:Nat):Int):=bO Om;have ed:IntKind.u64.wrap ((d:Nat):Int)=((d:Nat):Int):=bO Om;have J:shift .shl .u64 (r:Int) 32=some (.int .u64 ((2^32*r:Nat):Int)):=SS (s:=32) Om Om;have O:(2:Nat)^32=4294967296:=by decide
  have B:=orI (a:=2^32*r) (b:=x) (n:=2^32*r+x) Om Om (Nat.two_pow_add_eq_or_of_lt Om r).symm Om;rw[O]at J B;have hq:(4294967296*r+x)/d<4294967296:=by rw[a7F l];have:4294967296*(r+1)≤4294967296*d:=a6P _ N;omega
  have V:¬((d:Nat):Int)=0:=Om;have E:IntKind.u64.wrap (Int.tdiv ((4294967296*r+x:Nat):Int) ((d:Nat):Int))=(((4294967296*r+x)/d:Nat):Int):=by rw[show Int.tdiv ((4294967296*r+x:Nat):Int) ((d:Nat):Int)=(((4294967296*r+x)/d:Nat):Int)from rfl];exact bO Om
  have I:Int.tmod ((4294967296*r+x:Nat):Int) ((d:Nat):Int)=(((4294967296*r+x)%d:Nat):Int):=rfl;have ec:IntKind.u32.wrap (((4294967296*r+x)/d:Nat):Int)=(((4294967296*r+x)/d:Nat):Int):=by rw[dU,a5N hq]
  have K:a3W (m+1) 0++S=a3W m 0++(0::S):=by rw[List.replicate_succ',a5C];rfl
  have X:(aP (a3W m 0++(0::S)))[m]?=some [.int .u32 ((0:Nat):Int)]:=by rw[cM _ aW];simp
  have M:(aP (a3W m 0++(0::S))).set m [.int .u32 (((4294967296*r+x)/d:Nat):Int)]=aP (a3W m 0++(((4294967296*r+x)/d)::S)):=by rw[jW,a7O _ _ aW];simp
  simp only[go_sem,A,W,yw,J,U,ex,B,yx,ed,V,E,ec,hlt,K,X,M,im,I,io];refine aH (m,((4294967296*r+x)/d)::S,(4294967296*r+x)%d) ⟨by simp only[a5P];omega,λy hy=>?_,a5T _ l,?_⟩ (by simp only;omega) ?_ (e_ a_ Sq)
  ·rw[a4J]at hy;rcases hy with rfl|hy
   ·exact hq
   ·exact j y hy
  ·simp only[val];rw[u,←e,a5G,a4L,a4V];have:=a7P (4294967296*r+x) d;rw[a4Y d]at this;omega
  ·(repeat' (first|exact c_|refine d_ ?_ ?_))<;>first|(simp only[go_sem,wrap_i64 (Om:-9223372036854775808≤(m:Int)-1) (Om:(m:Int)-1≤9223372036854775807)]<;>rfl)|rfl
 ·have:k=0:=Om;subst this;have A:¬((0:Nat):Int)-1≥0:=by decide
  rw[a5J]at e;have hS:Z' S=Z' a:=Om;have hq:val S=val a/d:=by rw[←e,a4Y,Nat.mul_add_div l,a7D N,a5H]
  have β:r=val a%d:=by rw[←e,a4Y,Nat.mul_add_mod,a5N N]
  have δ:a3W 0 0++S=S:=by simp
  have hl:=L.trim S j Om;have R:(aP S).take a.length=aP S:=a4N (by rw[dE];omega);simp only[go_sem,A,LQ,a7C];refine tX (o:=o) (s:=1) (rs:=aP S) hl Sq (by simp only[go_sem,R,show a.length≤S.length by omega]) ?_;simp only[go_sem];refine aB (L.make r Om) Sq ?_;simp only[go_sem];refine bD (vs:=[aO (aM (val S)),aO (aM r)]) (.inr rfl) .nil Ev a_ ⟨?_,rfl⟩;rw[hq,β];exact .refl _
theorem aNW{B m:Nat}(h:nl B=m+1):32*m<dV B∧dV B≤32*(m+1):=by
 refine⟨?_,(qW B (m+1)).2 Om⟩;rcases a4R (32*m) (dV B)with h1|h1
 ·exact h1
 ·have:=(qW B m).1 h1;omega
theorem aNX{B:Nat}(h:B≠0):2^(dV B-1)≤B:=by
 rcases a4R B (2^(dV B-1))with h1|h1
 ·have j:=(qV B _).2 h1;have l:dV B≠0:=λe=>h (oG.1 e);omega
 ·exact h1
theorem azG{C:Ctx}(L:VQ C)(A B:Nat)(hB:B≠0)(hA:nl A≤512)(Ψ:nl B≤512) :
  HN.wp C (aV Dy.res (cY (wJ A B))) (PF.args [aO (aM A),aO (aM B)]) .nil:=by
 have R:=bB A;have LB:=bB B;have vA:=aY A;have vB:=aY B;have lA:(aM A).length=nl A:=rfl;have lB:(aM B).length=nl B:=rfl;simp only[go_sem,HN,yo,yq,Dy];refine aB (L.cmp _ _ R LB Om Om) rfl ?_;rw[vA,vB];by_cases c1:A<B
 ·have hc:fB A B<0:=by simp[fB,c1]
  simp only[go_sem,hc,yr];refine aB (L.trim _ R Om) rfl ?_;rw[vA];simp only[go_sem];refine bD (vs:=[.aE,aO (aM A)]) (.inr rfl) .nil rfl a_ ⟨?_,rfl⟩;rw[wJ,a7D c1,a5N c1,jY];exact CoL.tup (CoL.cons (.nil 1) (CoL.cons (.refl _) .nil))
 have hc:¬fB A B<0:=by unfold fB;rw[aG c1];split<;>decide
 have τ:0<B:=a6Q hB;have e':nl B≠0:=λh=>hB (mA.1 h);simp only[go_sem,hc,yu,a3V,lB];by_cases c2:nl B=1
 ·have S:B<4294967296:=by have:=(mO B 1).1 Om;simpa using this
  have ω:aM B=[B]:=tO hB S;have sh:=azF (C:=C) L (aM A) B R τ S Om;rw[vA]at sh;simp only[aC.wp,go_sem]at sh;simp only[go_sem,cA (Om:((nl B:Nat):Int)=1)];exact sh _ rfl (by simp only[go_sem,ω])
 obtain⟨m,hm⟩:∃m,nl B=m+1:=⟨nl B-1,by omega⟩;have d':1≤m:=Om;obtain⟨b',β⟩:=aNW hm;obtain⟨n,hn⟩:∃n,n+dV B=32*(m+1):=⟨32*(m+1)-dV B,by omega⟩;have δ:n<32:=Om;have K:0<2^n:=a6X aX;have V:B<2^dV B:=(qV B _).1 (a4B _);have U:=aNX hB;have Y:B*2^n<4294967296^(m+1):=by have:B*2^n<2^dV B*2^n:=Nat.mul_lt_mul_of_pos_right V K;rw[←Nat.pow_add,show dV B+n=32*(m+1) by omega,Nat.pow_mul]at this;exact this
 have Ξ:4294967296^m*2147483648≤B*2^n:=by have:2^(dV B-1)*2^n≤B*2^n:=a4Z _ U;rw[←Nat.pow_add,show dV B-1+n=32*m+31 by omega,Nat.pow_add,Nat.pow_mul]at this;exact this
 have nV:nl (B*2^n)=m+1:=by
  have I:=(mO (B*2^n) (m+1)).2 Y;rcases a4R (nl (B*2^n)) (m+1)with h|h
  ·have:=(mO (B*2^n) m).1 Om;have Δ:0<4294967296^m:=a6X aX;omega
  ·omega
 have a':B*2^n≠0:=Nat.mul_ne_zero hB Om;have g':nl (A*2^n)≤nl A+1:=qJ (a4B _) (tF (by rw[Nat.pow_one];exact Nat.pow_lt_pow_right (a:=2) (m:=n) (n:=32) aX δ));have χ:B*2^n≤A*2^n:=a4Z _ Om;have h':m+1≤nl (A*2^n):=by rw[←nV];exact kF χ
 have Ω:A*2^n≠0:=Om;have μ:IntKind.i64.wrap (32*((nl B:Nat):Int))=((32*(m+1):Nat):Int):=by rw[wrap_i64 Om Om];omega
 have en:IntKind.i64.wrap (((32*(m+1):Nat):Int)-((dV B:Nat):Int))=(n:Int):=by rw[wrap_i64 Om Om];omega
 have bt:=L.bits (aM B) LB Om;rw[vB]at bt;have ua:=L.upM (aM A) n R Om Om (λh=>by have:=jH R;rw[h]at this;omega);have ub:=(L.upM (aM B) n LB Om Om (λh=>by have:=jH LB;rw[h]at this;omega)).freeze;rw[vA]at ua;rw[vB]at ub;have tail:∀(o:Nat)(F:PF)(H:PH),F 0=some (aO (aM A))→F 1=some (aO (aM B))→F 10=some (.int .i64 n)→F 11=some (.osl o 1 0 (nl (A*2^n)+2))→F 12=some (aO (aM (B*2^n)))→H o=some (.rows 1 (aP (aM (A*2^n))++[[.int .u32 0],[.int .u32 0]])) →
   aC.wp C (.seq (.region LS) (.seq (.region LW) (.seq (.region LX) (.seq (.seq (.region LY) (.block 2 (.loop BW))) (.seq (.region MF) .ret))))) (aV [.tmp 4,.tmp 5] (cY (wJ A B))) F H:=by
  intro o F H f0 f1 ν f11 ξ hH;have LU:=bB (A*2^n);have LV:=bB (B*2^n);have vU:=aY (A*2^n);have vV:=aY (B*2^n);have lU:(aM (A*2^n)).length=nl (A*2^n):=rfl;have lV:(aM (B*2^n)).length=m+1:=nV;have eu:IntKind.i64.wrap (((nl (A*2^n):Nat):Int)+1)=((nl (A*2^n)+1:Nat):Int):=eI Om;have b1:((nl (A*2^n)+1:Nat):Int)≤((nl (A*2^n)+2:Nat):Int):=Om;simp only[go_sem,LS,f11,f0,ν];refine aB ua.freeze rfl ?_;obtain⟨e,c'⟩:∃e,nl (A*2^n)+1-(m+1)=e:=⟨_,rfl⟩;have Γ:nl (A*2^n)+1=e+(m+1):=Om;have em:IntKind.i64.wrap (((m+1:Nat):Int)-1)=((m:Nat):Int):=by rw[wrap_i64 Om Om];omega
  have u:m<(aM (B*2^n)).length:=Om;have rm:=cM (aM (B*2^n)) u;have tl:=LV _ (a3Y u);have htop:0<(aM (B*2^n))[m]:=by
   have I:=dL (aM (B*2^n)) u;rw[a4N Om,vV]at I;have h2:=jH (LV.take m);rw[a4M,a6G Om]at h2;have Δ:0<4294967296^m:=a6X aX;rcases a6C (aM (B*2^n))[m]with h|h
   ·rw[h]at I;omega
   ·exact h
  have κ:2147483648≤(aM (B*2^n))[m]:=by
   have I:=dL (aM (B*2^n)) u;rw[a4N Om,vV]at I;have h2:=jH (LV.take m);rw[a4M,a6G Om]at h2;rcases a4R (aM (B*2^n))[m] 2147483648 with h|h
   ·exfalso;have h3:4294967296^m*((aM (B*2^n))[m]+1)≤4294967296^m*2147483648:=a6P _ h;rw[a4L,Nat.mul_one]at h3;omega
   ·exact h
  have y:=aFD (C:=C) L (A*2^n) n o (nl (A*2^n)+1) e;have hI:uD (A*2^n) (val (aM (B*2^n))) (m+1) (nl (A*2^n)+1) e e (aM (A*2^n)++[0]) (a3W e 0):=by
   refine⟨by rw[a3Z,lU];rfl,a7J,LU.app λx O=>by simp at O;omega,CJ _,?_,?_,λi x _ O=>afC O⟩
   ·rw[kP,vU,yJ];simp[val]
   ·have Φ:(aM (A*2^n)++[0]).length=nl (A*2^n)+1:=by rw[a3Z,lU];rfl
    have Λ:val (aM (A*2^n)++[0])=A*2^n:=by rw[kP,vU];simp[val]
    rw[BG (LU.app λx O=>by simp at O;omega) Om,Λ,vV,a7F (a6X aX)];have I:A*2^n<4294967296^nl (A*2^n):=(mO _ _).1 (a4B _);have O:nl (A*2^n)=m+e:=Om;rw[O,Nat.pow_add]at I;have h2:4294967296^m*4294967296^e≤(B*2^n)*4294967296^e:=a4Z _ Om;omega
  have M:aP (aM (A*2^n))++[[PV.int .u32 0],[PV.int .u32 0]]=fW (aM (A*2^n)++[0]) (aP [0]):=by simp[fW,aP]
  rw[M]at hH;generalize θ:(aM (B*2^n))[m]=ι at *
  have et:IntKind.u64.wrap ((ι:Nat):Int)=((ι:Nat):Int):=bO Om;have k2:IntKind.i64.wrap (((nl (A*2^n)+1:Nat):Int)-((m+1:Nat):Int))=((e:Nat):Int):=by rw[wrap_i64 Om Om];omega
  have k3:((e:Nat):Int)*((4:Nat):Int)≤140737488355328:=Om;have k4:((e:Nat):Int)≤9223372036854775807:=Om;have hz:a3W e [PV.int .u32 0]=aP (a3W e 0):=by simp[aP]
  have jq:IntKind.i64.wrap ((e:Int)-1)=(e:Int)-1:=wrap_i64 Om Om;simp only[go_sem,a3V,lU,eu,b1,LW,ξ,lV,em,rm,et,LX,k2,k3,k4,hz];refine aQ λE η=>?_;have ε:E≠o:=by rintro rfl;rw[hH]at η;cases η
  have l:¬o=E:=λh=>ε h.symm;have w:=y E m (aM (B*2^n)) [0] ε LV lV (by rw[θ];exact htop) Γ Om _ hI;rw[θ]at w;simp only[go_sem]at w;simp only[go_sem,LY,jq];refine w _ _ _ ?_ ?_ ?_
  ·unfold duF;exact Lq
  ·refine e_ (e_ a_ ?_) ?_
   ·simp only[go_sem,l,hH]
   ·simp only[go_sem]
  clear w y;intro X Q F1 H1 j J W;have ο:F1 10=some (.int .i64 n):=J 10 _ (by unfold duF;simp only[go_sem]);have ρ:F1 11=some (.osl o 1 0 (nl (A*2^n)+1)):=J 11 _ (by unfold duF;simp only[go_sem]);have σ:F1 14=some (.osl E 1 0 e):=J 14 _ (by unfold duF;simp only[go_sem]);have ζ:H1 o=some (.rows 1 (fW X (aP [0]))):=W o _ (by simp only[go_sem,l]);have Θ:H1 E=some (.rows 1 (aP Q)):=W E _ Sq;have hu:val X<val (aM (B*2^n)):=by have:=j.r;rwa[a5J]at this
  have N:=j.v;rw[vV]at hu N;have φ:val Q=A/B:=by
   have:A*2^n/(B*2^n)=val Q:=by rw[←N,Nat.add_mul_div_right _ _ Om,a7D hu,a4I]
   rw[←this,Nat.mul_div_mul_right _ _ K]
  have ψ:val X/2^n=A%B:=by
   have:A*2^n%(B*2^n)=val X:=by rw[←N,Nat.add_mul_mod_self_right,a5N hu]
   rw[←this,Nat.mul_mod_mul_right,Nat.mul_div_cancel _ K]
  have lX:=j.lu';have lQ:=j.lq';have υ:(aP Q).take e=aP Q:=a4N (by rw[dE];omega);have α:(fW X (aP [0])).take (nl (A*2^n)+1)=aP X:=by rw[fW,List.take_append_of_le_length (by rw[dE];omega),a4N (by rw[dE];omega)]
  have Z:nl (A*2^n)+1≤(fW X (aP [0])).length:=by rw[fW,a3Z,dE];omega
  have γ:(fW X (aP [0])).map (λr=>r.map (PV.cT E 1 (aP Q)))=fW X (aP [0]):=by
   have:fW X (aP [0])=aP (X++[0]):=by simp[fW,aP]
   rw[this];exact xZ _ _ _ _
  have nX:=jV j.limU;have t1:=L.trim Q j.limQ Om;have t2:=L.trim X j.limU Om;have dn:=L.down (aM (val X)) n (bB _) (by rw[bH];omega) Om;rw[aY,ψ]at dn;rw[φ]at t1;generalize aP [0]=Z0 at ζ α Z γ;simp only[go_sem,MF,σ];refine tX (o:=E) (s:=1) (rs:=aP Q) t1 Θ (by simp only[go_sem,υ,show e≤Q.length by omega]) ?_;simp only[go_sem,ρ,l];refine tX (o:=o) (s:=1) (rs:=fW X Z0) t2 (by simp only[go_sem,l,ζ,cD.frz,γ]) (by simp only[go_sem,α,Z]) ?_;simp only[go_sem,ο];refine aB dn rfl ?_;simp only[go_sem];exact bD (vs:=[aO (aM (A/B)),aO (aM (A%B))]) (.inr rfl) .nil rfl a_ ⟨.refl _,rfl⟩
 simp only[aC.wp,go_sem]at tail;simp only[go_sem,bJ (Om:¬((nl B:Nat):Int)=1),ip,a3V,lB];refine aB bt rfl ?_;simp only[go_sem,μ,en,iq];refine eY ua rfl a_ λr H1 hr _=>?_;have β:(2:Nat)*1≤16777216:=by decide
 rcases hr with⟨h0,_⟩|⟨o,rs,rfl,rfl,hrl,hrt⟩
 ·exfalso;have:=congrArg List.length h0;rw[dE,bH]at this;simp at this;omega
 rw[PH.qL];rw[dE,bH]at hrl hrt;simp only[go_sem,β,dE,bH];refine aeD (src:=[[.int .u32 0],[.int .u32 0]]) (rs:=rs) rfl ?_ Sq hrl ?_ λo' f'=>?_
 ·unfold roomFor;simp only[maxLen,a5P,a6F];omega
 ·rw[hrt];simp only[go_sem];refine aB ub rfl ?_;simp only[go_sem];exact tail o _ _ rfl rfl rfl rfl rfl Sq
 ·rw[hrt];simp only[go_sem];refine aB ub rfl ?_;simp only[go_sem];exact tail o' _ _ rfl rfl rfl rfl rfl Sq
def bN(C:Ctx)(k:Nat)(e:bA):Prop:=∀(args:List PV)(H:PH)(R:PV→PH→Prop),Z' args≤e.ntmps→e.body.wp C (aV e.res R) (PF.args args) H→aJ C k args H R
theorem bN.go{C:Ctx}{k:Nat}{e:bA}(r:bN C k e){args:List PV}{H:PH}{R:PV→PH→Prop}(h:e.body.wp C (aV e.res R) (PF.args args) H)(j:Nat.ble args.length e.ntmps=true):aJ C k args H R:=r args H R (Nat.le_of_ble_eq_true j) h
abbrev CX(C:Ctx):Prop:=∀n:Nat,n<100→aJ C 195 [.int .i64 n] .nil (aK (.str (dC n)))
section
variable {C:Ctx} {F F':PF} {H:PH}
theorem dY(e:F.le F'){x:aR}{v:PV}(h:x.ev F=some v):x.ev F'=some v:=by
 cases x
 ·exact e _ _ h
 all_goals exact h
theorem NG(e:F.le F'):∀{xs:List aR}{vs:List PV},aR.evs F xs=some vs→aR.evs F' xs=some vs
 |[],_,h=>h
 |x::xs,vs,h=>by
  rw[GO]at h ⊢;cases l:x.ev F with
  |none=>simp[l]at h
  |some v=>
   cases j:aR.evs F xs with
   |none=>simp[j]at h
   |some ws =>rw[l,j]at h;rw[dY e l,NG e j];exact h
theorem Pu(e:F.le F'):∀{ps:List (Nat × Nat × aR)}{cs ds:List PV},vJ cs F ps=some ds→vJ cs F' ps=some ds
 |[],_,_,h=>h
 |(u,size,x)::ps,cs,ds,h=>by
  simp only[vJ]at h ⊢;cases j:x.ev F with
  |none=>simp[j]at h
  |some v=>
   rw[j]at h;rw[dY e j];simp only at h ⊢;split at h
   ·rename_i l;rw[aL l];exact Pu e h
   ·cases h
theorem JT(e:F.le F'){size:Nat}:∀{ps:List (Nat × aR)}{cs ds:List (List PV)},lF size cs F ps=some ds→lF size cs F' ps=some ds
 |[],_,_,h=>h
 |(i,x)::ps,cs,ds,h=>by
  simp only[lF]at h ⊢;cases j:x.ev F with
  |none=>simp[j]at h
  |some v=>
   rw[j]at h;rw[dY e j];simp only at h ⊢;split at h
   ·rename_i l;rw[aL l];exact JT e h
   ·cases h
theorem VV(e:F.le F'){d n:Int}{x:Option aR}(h:bnd F d x=some n):bnd F' d x=some n:=by
 cases x with
 |none=>exact h
 |some x=>
  simp only[bnd]at h ⊢;cases j:x.ev F with
  |none=>simp[j]at h
  |some v=>rw[dY e j,←j];exact h
theorem Yf{op:POp}{v:PV}(j:F.le F')(h:aS op F H=some v):aS op F' H=some v:=by
 cases op
 case mv x=>exact dY j h
 case pick c a b=>
  simp only[aS]at h ⊢;cases I:c.ev F with
  |none=>simp[I]at h
  |some t=>
   rw[I]at h;rw[dY j I];cases t<;>simp only at h ⊢<;>try cases h
   rename_i t;cases t
   ·simp only[a6Z,if_false]at h ⊢;exact dY j h
   ·simp only[if_true]at h ⊢;exact dY j h
 case same x=>
  simp only[aS]at h ⊢;cases e:x.ev F with
  |none=>simp[e]at h
  |some a=>rw[dY j e,←e];exact h
 case un o x=>
  simp only[aS]at h ⊢;cases e:x.ev F with
  |none=>simp[e]at h
  |some a=>rw[dY j e,←e];exact h
 case conv k x=>
  simp only[aS]at h ⊢;cases e:x.ev F with
  |none=>simp[e]at h
  |some a=>rw[dY j e,←e];exact h
 case a2U x=>
  simp only[aS]at h ⊢;cases e:x.ev F with
  |none=>simp[e]at h
  |some a=>rw[dY j e,←e];exact h
 case a3L o x=>
  simp only[aS]at h ⊢;cases e:x.ev F with
  |none=>simp[e]at h
  |some a=>rw[dY j e,←e];exact h
 case field o n x=>
  simp only[aS]at h ⊢;cases e:x.ev F with
  |none=>simp[e]at h
  |some a=>rw[dY j e,←e];exact h
 case a3I x=>
  simp only[aS]at h ⊢;cases e:x.ev F with
  |none=>simp[e]at h
  |some a=>rw[dY j e,←e];exact h
 case isNil n x=>
  simp only[aS]at h ⊢;cases e:x.ev F with
  |none=>simp[e]at h
  |some a=>rw[dY j e,←e];exact h
 case lenM x=>
  simp only[aS]at h ⊢;cases e:x.ev F with
  |none=>simp[e]at h
  |some a=>rw[dY j e,←e];exact h
 case a3T x=>
  simp only[aS]at h ⊢;cases e:x.ev F with
  |none=>simp[e]at h
  |some a=>rw[dY j e,←e];exact h
 case extract x i=>
  simp only[aS]at h ⊢;cases e:x.ev F with
  |none=>simp[e]at h
  |some a=>rw[dY j e,←e];exact h
 case a2V x=>
  simp only[aS]at h ⊢;cases e:x.ev F with
  |none=>simp[e]at h
  |some a=>rw[dY j e,←e];exact h
 case len x=>
  simp only[aS]at h ⊢;cases e:x.ev F with
  |none=>simp[e]at h
  |some a=>rw[dY j e,←e];exact h
 case box r x=>
  cases r
  ·cases h
  simp only[aS]at h ⊢;cases e:x.ev F with
  |none=>simp[e]at h
  |some a=>rw[dY j e,←e];exact h
 case load n p=>
  cases n
  all_goals
   simp only[aS]at h ⊢;cases e:p.ev F with
   |none=>simp[e]at h
   |some a=>rw[dY j e,←e];exact h
 case bin o x y=>
  simp only[aS]at h ⊢;cases e:x.ev F with
  |none=>simp[e]at h
  |some a=>
   cases A:y.ev F with
   |none=>simp[e,A]at h
   |some b=>rw[dY j e,dY j A,←e,←A];exact h
 case eqb n x y=>
  simp only[aS]at h ⊢;cases e:x.ev F with
  |none=>simp[e]at h
  |some a=>
   cases A:y.ev F with
   |none=>simp[e,A]at h
   |some b=>rw[dY j e,dY j A,←e,←A];exact h
 case eqs n k x y=>
  simp only[aS]at h ⊢;cases e:x.ev F with
  |none=>simp[e]at h
  |some a=>
   cases A:y.ev F with
   |none=>simp[e,A]at h
   |some b=>rw[dY j e,dY j A,←e,←A];exact h
 case a2Y s x i=>
  simp only[aS]at h ⊢;cases e:x.ev F with
  |none=>simp[e]at h
  |some a=>
   cases A:i.ev F with
   |none=>simp[e,A]at h
   |some b=>rw[dY j e,dY j A,←e,←A];exact h
 case idxA n s x i=>
  simp only[aS]at h ⊢;cases e:x.ev F with
  |none=>simp[e]at h
  |some a=>
   cases A:i.ev F with
   |none=>simp[e,A]at h
   |some b=>rw[dY j e,dY j A,←e,←A];exact h
 case idxV n s g x i=>
  simp only[aS]at h ⊢;cases e:x.ev F with
  |none=>simp[e]at h
  |some a=>
   cases A:i.ev F with
   |none=>simp[e,A]at h
   |some b=>rw[dY j e,dY j A,←e,←A];exact h
 case a3J x i=>
  simp only[aS]at h ⊢;cases e:x.ev F with
  |none=>simp[e]at h
  |some a=>
   cases A:i.ev F with
   |none=>simp[e,A]at h
   |some b=>rw[dY j e,dY j A,←e,←A];exact h
 case a3C m x y=>
  simp only[aS]at h ⊢;cases e:x.ev F with
  |none=>simp[e]at h
  |some a=>
   cases A:y.ev F with
   |none=>simp[e,A]at h
   |some b=>rw[dY j e,dY j A,←e,←A];exact h
 case lookup sh z x k ok=>
  simp only[aS]at h ⊢;cases e:x.ev F with
  |none=>simp[e]at h
  |some a=>
   cases A:k.ev F with
   |none=>simp[e,A]at h
   |some b=>rw[dY j e,dY j A,←e,←A];exact h
 case build z ps =>simp only[aS,a4G]at h ⊢;obtain⟨cs,B,E⟩:=h;exact⟨cs,Pu j B,E⟩
 case a2M r s l z ps=>
  cases r
  ·cases h
  simp only[aS]at h ⊢;split at h
  ·rename_i I;rw[aL I];rw[a4G]at h ⊢;obtain⟨cs,B,E⟩:=h;exact⟨cs,JT j B,E⟩
  ·cases h
 case mkfn n cs =>simp only[aS,a4G]at h ⊢;obtain⟨vs,B,E⟩:=h;exact⟨vs,NG j B,E⟩
 case sliceA n s x lo hi mx=>
  cases lo<;>cases hi<;>cases mx<;>simp only[aS]at h ⊢<;>try cases h
  cases e:x.ev F with
  |none=>simp[e]at h
  |some a=>rw[dY j e,←e];exact h
 case a3E x lo hi=>
  simp only[aS]at h ⊢;cases e:x.ev F with
  |none=>simp[e]at h
  |some a=>
   rw[e]at h;rw[dY j e];cases a<;>simp only at h ⊢<;>try cases h
   cases B:bnd F 0 lo with
   |none=>simp[B]at h
   |some l=>
    rename_i s;cases E:bnd F s.length hi with
    |none=>simp[B,E]at h
    |some u=>rw[VV j B,VV j E,←B,←E];exact h
 case slice s x lo hi mx=>
  simp only[aS]at h ⊢;cases e:x.ev F with
  |none=>simp[e]at h
  |some a=>
   rw[e]at h;rw[dY j e];have K:∀(d:Int)(w:PV),(match bnd F 0 lo,bnd F d hi with
     |some a1,some a2=>match(generalizing:=false) mx with
      |none=>PV.slice s w a1 a2 none
      |some m=>(bnd F 0 (some m)).bind λm=>PV.slice s w a1 a2 (some m)
     |_,_=>none)=some v→(match bnd F' 0 lo,bnd F' d hi with
     |some a1,some a2=>match(generalizing:=false) mx with
      |none=>PV.slice s w a1 a2 none
      |some m=>(bnd F' 0 (some m)).bind λm=>PV.slice s w a1 a2 (some m)
     |_,_=>none)=some v:=by
    intro d w h;cases B:bnd F 0 lo with
    |none=>simp[B]at h
    |some l=>
     cases E:bnd F d hi with
     |none=>simp[B,E]at h
     |some u=>
      rw[B,E]at h;rw[VV j B,VV j E];cases mx with
      |none=>exact h
      |some m=>
       simp only at h ⊢;cases J:bnd F 0 (some m)with
       |none=>simp[J]at h
       |some q=>rw[VV j J,←J];exact h
   cases a<;>simp only at h ⊢<;>first|exact K _ _ h|cases h
 all_goals exact h
theorem Ox{op:POp}{r:(Nat→PV) × cD}(e:F.le F')(h:eN op F=some r):eN op F'=some r:=by
 cases op
 case box b x=>
  cases b
  ·simp only[eN]at h ⊢;cases j:x.ev F with
   |none=>simp[j]at h
   |some a=>rw[dY e j,←j];exact h
  ·cases h
 case a2M b s l z ps=>
  cases b
  ·simp only[eN]at h ⊢;split at h
   ·rename_i A;rw[aL A];rw[a4G]at h ⊢;obtain⟨cs,w,y⟩:=h;exact⟨cs,JT e w,y⟩
   ·cases h
  ·cases h
 case a2P s b z l c=>
  simp only[eN]at h ⊢;cases j:l.ev F with
  |none=>simp[j]at h
  |some a=>
   cases u:c.ev F with
   |none=>simp[j,u]at h
   |some b=>rw[dY e j,dY e u,←j,←u];exact h
 all_goals exact h
theorem aeH{op:POp}{K:PV→PH→Prop}(e:F.le F')(h:dH op F H K):dH op F' H K:=by
 cases op
 case store n x y=>
  simp only[dH]at h ⊢;cases j:x.ev F with
  |none=>simp[j]at h
  |some a=>
   cases l:y.ev F with
   |none=>simp[j,l]at h
   |some b=>rw[dY e j,dY e l];rw[j,l]at h;exact h
 case append s b x y=>
  simp only[dH]at h ⊢;cases j:x.ev F with
  |none=>simp[j]at h
  |some a=>
   cases l:y.ev F with
   |none=>simp[j,l]at h
   |some b=>rw[dY e j,dY e l];rw[j,l]at h;exact h
 case a2Z sh x y z=>
  simp only[dH]at h ⊢;cases j:x.ev F with
  |none=>simp[j]at h
  |some a=>
   cases l:y.ev F with
   |none=>simp[j,l]at h
   |some b=>
    cases u:z.ev F with
    |none=>simp[j,l,u]at h
    |some c=>rw[dY e j,dY e l,dY e u];rw[j,l,u]at h;exact h
 case insert sh x y z=>
  simp only[dH]at h ⊢;cases j:x.ev F with
  |none=>simp[j]at h
  |some a=>
   cases l:y.ev F with
   |none=>simp[j,l]at h
   |some b=>
    cases u:z.ev F with
    |none=>simp[j,l,u]at h
    |some c=>rw[dY e j,dY e l,dY e u];rw[j,l,u]at h;exact h
 all_goals exact h
theorem PF.aUD(l:F.le F')(i:Nat)(v:PV):(F.set i v).le (F'.set i v):=by
 intro j u h;rw[pF]at h ⊢;split at h
 ·rename_i e;rw[aL e];exact h
 ·rename_i e;rw[aG e];exact l j u h
theorem PF.zR(e:F.le F')(d:Option Nat)(v:PV):(F.put d v).le (F'.put d v):=by
 cases d with
 |none=>exact e
 |some d=>exact PF.aUD e d v
theorem PF.aTI(e:F.le F')(o s:Nat)(rs:List (List PV)):(F.frz o s rs).le (F'.frz o s rs):=by
 intro j u h;rw[sG,a4G]at h ⊢;obtain⟨x,l,w⟩:=h;exact⟨x,e j x l,w⟩
theorem PF.le_trans{A B D:PF}(h:A.le B)(k:B.le D):A.le D:=λi v hi=>k i v (h i v hi)
theorem lN.up{l:PF}{u:PH}(h:lN F H l u):∀{F':PF},F.le F'→∃e,lN F' H e u∧l.le e:=by
 induction h with
 |refl F H=>exact λ{F'} j=>⟨F',.refl _ _,j⟩
 |step o y _ A =>intro F' j;obtain⟨e,w,x⟩:=A (PF.aTI j o _ _);exact⟨e,.step o y w,x⟩
theorem sr{name:Nat}{args:Option (List PV)}{d:Option Nat}{K1 K2:PF→PH→Prop}(y:∀F F' H,F.le F'→K1 F H→K2 F' H)(j:F.le F'){e:Option (List PV)}(A:∀vs,args=some vs→e=some vs)(h:yL C name args d K1 F H):yL C name e d K2 F' H:=by
 obtain⟨vs,H0,R,l,u,w,x⟩:=h;exact⟨vs,H0,R,A _ l,u,w,λr H' a b=>y _ _ _ (PF.zR j d r) (x r H' a b)⟩
theorem Uu{cs:List PV}{args:List aR}(e:F.le F')(vs:List PV)(h:(aR.evs F args).map (·++cs)=some vs):(aR.evs F' args).map (·++cs)=some vs:=by
 rw[a4G]at h ⊢;obtain⟨x,j,l⟩:=h;exact⟨x,NG e j,l⟩
theorem ahI{name:Nat}{args:List aR}{cs:List PV}{d:Option Nat}{K1 K2:PF→PH→Prop}(l:∀F F' H,F.le F'→K1 F H→K2 F' H)(e:F.le F')(h:jX C name args cs d K1 F H):jX C name args cs d K2 F' H:=by
 rcases h with h|⟨F1,H1,h1,h2⟩
 ·exact .inl (sr l e (Uu e) h)
 ·obtain⟨j,k1,k2⟩:=h1.up e;exact .inr ⟨j,H1,k1,sr l k2 (Uu k2) h2⟩
theorem XV{op:POp}{d:Option Nat}{K1 K2:PF→PH→Prop}(u:∀F F' H,F.le F'→K1 F H→K2 F' H)(e:F.le F')(h:rO (eN op F) d K1 F H):rO (eN op F') d K2 F' H:=by
 obtain⟨y,x,j,l⟩:=h;exact⟨y,x,Ox e j,λo w=>u _ _ _ (PF.zR e d _) (l o w)⟩
theorem Bq{op:POp}{d:Option Nat}{K1 K2:PF→PH→Prop}(u:∀F F' H,F.le F'→K1 F H→K2 F' H)(e:F.le F')(h:cR (aS op F H) d K1 F H):cR (aS op F' H) d K2 F' H:=by
 obtain⟨v,j,l⟩:=h;exact⟨v,Yf e j,u _ _ _ (PF.zR e d v) l⟩
theorem N7{op:POp}{d:Option Nat}{K1 K2:PF→PH→Prop}(j:∀F F' H,F.le F'→K1 F H→K2 F' H)(e:F.le F')(h:dH op F H λr H'=>K1 (F.put d r) H'):dH op F' H λr H'=>K2 (F'.put d r) H':=
 aeH e (HW (λv H' l=>j _ _ _ (PF.zR e d v) l) h)
theorem aNN{op:POp}{d:Option Nat}{K1 K2:PF→PH→Prop}(j:∀F F' H,F.le F'→K1 F H→K2 F' H)(e:F.le F')(h:wpOp C op d K1 F H):wpOp C op d K2 F' H:=by
 cases op
 case call n a=>exact ahI j e h
 case a3K x a=>
  have w:BJ C (x.ev F) a d K1 F H:=h;show BJ C (x.ev F') a d K2 F' H;cases J:x.ev F with
  |none=>rw[J]at w;exact w.elim
  |some u=>
   rw[dY e J];rw[J]at w;cases u<;>first|exact ahI j e w|exact w.elim|skip
   obtain⟨l,M,A⟩:=w;refine⟨l,M,?_⟩;rcases A with⟨vs,H0,R,A,E,I,h5⟩|⟨F1,H1,k1,vs,H0,R,A,E,I,h5⟩
   ·exact .inl ⟨vs,H0,R,NG e A,E,I,λr H' p q=>j _ _ _ (PF.zR e d r) (h5 r H' p q)⟩
   ·obtain⟨B,k2,K⟩:=k1.up e;exact .inr ⟨B,H1,k2,vs,H0,R,NG K A,E,I,λr H' p q=>j _ _ _ (PF.zR K d r) (h5 r H' p q)⟩
 case box r x=>cases r<;>first|exact XV (op:=.box false x) j e h|exact Bq (op:=.box true x) j e h
 case a2M r s l z ps=>cases r<;>first|exact XV (op:=.a2M false s l z ps) j e h|exact Bq (op:=.a2M true s l z ps) j e h
 case alloc cs=>exact XV (op:=.alloc cs) j e h
 case a2P s b z l c=>exact XV (op:=.a2P s b z l c) j e h
 case a3P sh=>exact XV (op:=.a3P sh) j e h
 case store n x y=>exact N7 (op:=.store n x y) j e h
 case append s b x y=>exact N7 (op:=.append s b x y) j e h
 case a2Z sh x y z=>exact N7 (op:=.a2Z sh x y z) j e h
 case insert sh x y z=>exact N7 (op:=.insert sh x y z) j e h
 all_goals exact Bq j e h
theorem YR{K1 K2:PF→PH→Prop}(l:∀F F' H,F.le F'→K1 F H→K2 F' H):∀{ops:List bK}{F F':PF}{H:PH},F.le F'→wpOps C ops K1 F H→wpOps C ops K2 F' H
 |[],_,_,_,j,h=>l _ _ _ j h
 |⟨d,op,none⟩::u,_,_,_,j,h=>aNN (λ_ _ _ a b=>YR l a b) j h
 |⟨d,op,some (t,w)⟩::u,F,F',H,j,h=>by
  rw[agX]at h ⊢;unfold CH at h;split at h
  ·rename_i b hb;rw[j t _ hb];unfold CH;simp only;split at h
   ·rename_i e;rw[aL e];exact aNN (λ_ _ _ a b=>YR l a b) j h
   ·rename_i e;rw[aG e];exact YR l (PF.zR j d _) h
  ·rename_i hb;rw[j t _ hb];exact YR l (PF.zR j d _) h
  ·exact h.elim
theorem X6{Hs:PH}{S:Spec}{st:Bool}{op:POp}{K:PV→PH→Prop}(e:F.le F')(h:(op.kind F).run C Hs S st K H):(op.kind F').run C Hs S st K H:=by
 have new:∀op:POp,(Kind.new (eN op F)).run C Hs S st K H→(Kind.new (eN op F')).run C Hs S st K H:=λop h=>by obtain⟨N,x,j,w⟩:=h;exact⟨N,x,Ox e j,w⟩
 have calm:∀op:POp,(Kind.calm (aS op F)).run C Hs S st K H→(Kind.calm (aS op F')).run C Hs S st K H:=λop h=>by obtain⟨v,j,w⟩:=h;exact⟨v,Yf e j,w⟩
 have M:∀op:POp,(Kind.write λH K=>dH op F H K).run C Hs S st K H→(Kind.write λH K=>dH op F' H K).run C Hs S st K H:=λop h=>aeH (op:=op) e (show dH op F H (λr H'=>Hs.le H'∧K r H')from h);cases op
 case call n a =>obtain⟨vs,D,R,j,w⟩:=h;exact⟨vs,D,R,NG e j,w⟩
 case a3K x a=>
  unfold POp.kind at h ⊢;simp only at h ⊢;cases A:x.ev F with
  |none=>rw[A]at h;exact h.elim
  |some u=>
   rw[A]at h;rw[dY e A];cases u<;>simp only at h ⊢<;>first|exact h|skip
   obtain⟨vs,D,R,j,w⟩:=h;exact⟨vs,D,R,Uu e _ j,w⟩
 case insert sh x k v=>
  obtain⟨o,J,I,u,g,j,w⟩:=h;refine⟨o,J,I,u,g,?_,w⟩;cases A:x.ev F with
  |none=>simp[A]at j
  |some a=>
   cases B:k.ev F with
   |none=>simp[A,B]at j
   |some b=>
    cases E:v.ev F with
    |none=>simp[A,B,E]at j
    |some c=>rw[dY e A,dY e B,dY e E];rw[A,B,E]at j;exact j
 case box r x=>cases r<;>first|exact new (.box false x) h|exact calm (.box true x) h
 case a2M r s l z ps=>cases r<;>first|exact new (.a2M false s l z ps) h|exact calm (.a2M true s l z ps) h
 case alloc cs=>exact new (.alloc cs) h
 case a2P s b z l c=>exact new (.a2P s b z l c) h
 case a3P sh=>exact new (.a3P sh) h
 case store n x y=>exact M (.store n x y) h
 case append s b x y=>exact M (.append s b x y) h
 case a2Z sh x y z=>exact M (.a2Z sh x y z) h
 all_goals exact calm _ h
theorem aIN{Hs:PH}{S:Spec}{st:Bool}{i:bK}{K:PV→PH→Prop}(j:F.le F')(h:(i.kind F).run C Hs S st K H):(i.kind F').run C Hs S st K H:=by
 unfold bK.kind at h ⊢;split
 ·rename_i l;rw[l]at h;exact X6 j h
 ·rename_i t u l;rw[l]at h;simp only at h;split at h
  ·rename_i b hb;rw[j t _ hb];simp only;split at h
   ·rename_i e;rw[aL e];exact X6 j h
   ·rename_i e;rw[aG e];exact h
  ·rename_i hb;rw[j t _ hb];exact h
  ·exact h.elim
theorem aFZ{Hs:PH}{S:Spec}{K1 K2:PF→PH→Prop}(u:∀F F' H,F.le F'→K1 F H→K2 F' H):∀{ops:List (bK × Bool)}{F F':PF}{H:PH},Hs.le H→F.le F'→wpD C Hs S ops K1 F H→wpD C Hs S ops K2 F' H
 |[],_,_,_,_,e,h=>u _ _ _ e h
 |i::j,F,F',H,y,e,h=>by have w:(i.1.kind F).run C Hs S i.2 (λv H'=>wpD C Hs S j K1 (F.put i.1.dst v) H') H:=h;exact aIN e (Kind.xQ (xL _ _) (λv H' l x=>aFZ u l (PF.zR e _ v) x) y w)
class Up(K:cP):Prop where
 up:∀{e:nN}{F F':PF}{H:PH},F.le F'→K e F H→K e F' H
theorem uB:∀(c:aC){K1 K2:cP}(_:∀e F F' H,F.le F'→K1 e F H→K2 e F' H){F F':PF}{H:PH},F.le F'→c.wp C K1 F H→c.wp C K2 F' H
 | .skip,_,_,u,_,_,_,l,h=>u _ _ _ _ l h
 | .region ops,_,_,u,_,_,_,l,h=>YR (u .normal) l h
 | .draw ops,_,_,u,_,_,_,l,⟨Hs,S,y,J⟩=>⟨Hs,S,y,aFZ (u .normal) y l J⟩
 | .seq a b,K1,K2,u,_,_,_,l,h=>uB a (K1:=kT C (b.wp C) K1) (K2:=kT C (b.wp C) K2) (λe F F' H x w=>by
   cases e with
   |normal=>exact uB b u x w
   |exit id=>exact u (.exit id) _ _ _ x w
   |ret=>exact u .ret _ _ _ x w) l h
 | .cond c a b,K1,K2,u,F,F',H,l,h=>by
  rw[aMN]at h ⊢;unfold ce at h;split at h
  ·rename_i t U;rw[dY l U];unfold ce;simp only;split at h
   ·rename_i e;rw[aL e];exact uB a u l h
   ·rename_i e;rw[aG e];exact uB b u l h
  ·exact h.elim
 | .block id c,K1,K2,u,_,_,_,l,h=>uB c (K1:=gP id K1) (K2:=gP id K2) (λe F F' H x w=>by
   cases e with
   |normal=>exact u .normal _ _ _ x w
   |exit j=>
    rw[JQ]at w ⊢;split at w
    ·rename_i e;rw[aL e];exact u .normal _ _ _ x w
    ·rename_i e;rw[aG e];exact u (.exit j) _ _ _ x w
   |ret=>exact u .ret _ _ _ x w) l h
 | .loop c,K1,K2,u,F,F',H,l,⟨α,E,Hs,I,m,M,F1,K,y,J,N,O,h5⟩=>by
  obtain⟨A,k1,k2⟩:=y.up l;refine⟨α,E,Hs,I,m,M,A,K,k1,J,PF.le_trans N k2,O,λa R=>?_⟩;refine uB c (K1:=iR E Hs I m (m a) K1) (K2:=iR E Hs I m (m a) K2) (λe F F' H x w=>?_) PF.le_refl (h5 a R);cases e with
  |normal =>obtain⟨b,F2,H2,X,Y,Z,z4,z5⟩:=w;obtain⟨B,V,W⟩:=X.up x;exact⟨b,B,H2,V,Y,Z,PF.le_trans z4 W,z5⟩
  |exit id=>exact u (.exit id) _ _ _ x w
  |ret=>exact u .ret _ _ _ x w
 | .exit id,_,_,u,_,_,_,l,h=>u (.exit id) _ _ _ l h
 | .ret,_,_,u,_,_,_,l,h=>u .ret _ _ _ l h
instance Up.seq{K:cP}[Up K](b:aC):Up (kT C (b.wp C) K) where
 up {e} {F} {F'} {H} hl hh:=by
  cases e with
  |normal=>exact uB b (λe F F' H a h=>Up.up a h) hl hh
  |exit id=>exact Up.up (K:=K) (e:=.exit id) hl hh
  |ret=>exact Up.up (K:=K) (e:=.ret) hl hh
instance Up.block{K:cP}[Up K](id:Nat):Up (gP id K) where
 up {e} {F} {F'} {H} hl hh:=by
  cases e with
  |normal=>exact Up.up (K:=K) (e:=.normal) hl hh
  |exit j=>
   rw[JQ]at hh ⊢;split at hh
   ·rename_i e;rw[aL e];exact Up.up (K:=K) (e:=.normal) hl hh
   ·rename_i e;rw[aG e];exact Up.up (K:=K) (e:=.exit j) hl hh
  |ret=>exact Up.up (K:=K) (e:=.ret) hl hh
instance Up.loop{K:cP}[Up K]{α:Type}(l:α→PF)(Hs:α→PH)(u:α→Prop)(m:α→Nat)(n:Nat):Up (iR l Hs u m n K) where
 up {e} {F} {F'} {H} hl hh:=by
  cases e with
  |normal =>obtain⟨b,J,H2,y,A,B,E,I⟩:=hh;obtain⟨j,w,x⟩:=y.up hl;exact⟨b,j,H2,w,A,B,PF.le_trans E x,I⟩
  |exit id=>exact Up.up (K:=K) (e:=.exit id) hl hh
  |ret=>exact Up.up (K:=K) (e:=.ret) hl hh
theorem aTZ{H:PH}(e:F.le F'){x:fC}{v:PV}(h:x.ev F H=some v):x.ev F' H=some v:=by
 cases x with
 |tmp t=>exact e t v h
 |cell t n=>
  cases n<;>simp only[fC.ev]at h ⊢<;>(cases j:F t with
   |none=>simp[j]at h
   |some a=>rw[e t a j,←j];exact h)
theorem Dq{H:PH}(e:F.le F'):∀{xs:List fC}{vs:List PV},fC.evs F H xs=some vs→fC.evs F' H xs=some vs
 |[],_,h=>h
 |x::xs,vs,h=>by
  rw[oY]at h ⊢;cases l:x.ev F H with
  |none=>simp[l]at h
  |some v=>
   cases j:fC.evs F H xs with
   |none=>simp[j]at h
   |some ws =>rw[l,j]at h;rw[aTZ e l,Dq e j];exact h
instance Up.ret(res:List fC)(R:PV→PH→Prop):Up (aV res R) where
 up {e} {F} {F'} {H} hl hh:=by
  cases e with
  |exit id=>exact hh
  |normal=>obtain⟨vs,j,l⟩:=hh;exact⟨vs,Dq hl j,l⟩
  |ret=>obtain⟨vs,j,l⟩:=hh;exact⟨vs,Dq hl j,l⟩
end
open Go Go.RowKit
def aWO(R:PH→Prop):cP
 | .normal,_,H=>R H
 |_,_,_=>False
theorem cK.setObj{E:Env}{H:PH}{w:World}{l:Nat}{o:Obj}{x:cD}(hW:cK E H w)(u:w.heap[l]?=some o)(F:∀c t b,o≠.cells c t b)(I:VP E w l x):cK E (H.set l x) w:=by
 refine⟨λb cs h=>?_,λq y h=>?_,hW.s⟩
 ·obtain⟨B,ty,A,j⟩:=hW.g b cs h;have:¬b=l:=λe=>by rw[e,u]at j;exact F _ _ _ (by injection j)
  refine⟨λy J=>B y ?_,ty,A,j⟩
  rwa[aU,aG this]at J
 ·rw[aU]at h;split at h
  ·rename_i e;cases h;subst e;exact⟨(a7X.1 u).1,I⟩
  ·exact hW.h q y h
section
variable {C:Ctx} {T:Tbl}
end
open Go Go.RowKit
abbrev aNJ(D:Nat):Deferred:={ target:=.collected D,args:=#[] }
theorem cK.alloc{E:Env}{H:PH}{w:World}(hW:cK E H w)(o:Obj):cK E H (w.alloc o):=by
 have e:(w.alloc o).heap.size=w.heap.size+1:=World.size_alloc w o;have hb:∀b,b<w.heap.size→(w.alloc o).heap[b]?=w.heap[b]?:=λb hlt=>Below.heap_alloc w o b hlt;exact hW.same Om (λb hlt _=>hb b hlt) (λq x hq=>hb q (hW.h q x hq).1)
section
variable {C:Ctx} {T:Tbl} {ds:List Deferred} {fu:Nat}
def aSO(C:Ctx)(name:Nat)(cs:List PV)(F:PF)(H:PH)(n t:Nat)(e j:Code)(u:PH→Prop):Prop:=
 ∀l,H l=none→aJ C name (aUM l::cs) (H.set l (.loop F n t e j)) (λ_ H'=>∃H2,u H2∧H2.le H'∧H2 l=none∧H' l=some (.loop F n t e j))
end
open Go Go.RowKit
inductive r8 where
 |seq (a:aC) (t:r8)
 |range (g:aR) (n t:Nat) (asg bdy:Code) (pas pbd rest:aC)
def r8.wp (C : Ctx) : r8 → cP → PF → PH → Prop
  | .seq a t, K, F, H => a.wp C (kT C (t.wp C) K) F H
  | .range g n t asg bdy pas pbd rest, K, F, H => ∃ name cs KH, g.ev F = some (.fn name cs) ∧
      ((∀ (l : Nat) (x : PV) (J : PH) (J' : PH → Prop), J l = none → pas.wp C (kT C (pbd.wp C) (aWO J')) (F.set t x) J →
        aAS C l [x] (J.set l (.loop F n t asg bdy)) (fun r H' => r = .bool true ∧ ∃ H2, J' H2 ∧ H2 l = none ∧ H' = H2.set l (.loop F n t asg bdy))) → aSO C name cs F H n t asg bdy KH) ∧
      ∀ H2, KH H2 → rest.wp C K F H2
namespace Tbl
variable (T:Tbl)
def tail(n:Nat):Code→Option r8
 | .seq (.rangeFunc g ps e j) l=>match T.opd g,T.code n e,T.code n j,T.code n l with
  |some y,some u,some w,some A=>match ps.toList with
   |[t]=>if t<n then some (.range y n t e j u w A)else none
   |_=>none
  |_,_,_,_=>none
 | .seq (.seq a (.block _ (.rangeFunc g ps e j))) l=>match T.code n a,T.opd g,T.code n e,T.code n j,T.code n l with
  |some x,some y,some u,some w,some A=>match ps.toList with
   |[t]=>if t<n then some (.seq x (.range y n t e j u w A))else none
   |_=>none
  |_,_,_,_,_=>none
 | .seq a b=>match T.code n a,tail n b with
  |some x,some B=>some (.seq x B)
  |_,_=>none
 |_=>none
end Tbl
section
variable {C:Ctx} {T:Tbl} {fu:Nat}
def Oo(n:Nat)(E:Env)(H:PH)(w:World)(K:cP)(Q:Exit→Act→World→Prop):Prop:=
 ∀ds,(ds=[]∨∃D,ds=[aNJ D])→∀e l u H' x j,fJ ds n l u x→cK l H' j→Ext E H w l H' j→(∀D,ds=[aNJ D]→j.heap[D]?=some (.deferred (some []))∧H' D=none∧w.heap.size≤D)→K e u H'→Q e.out x j
theorem Oo.after{n:Nat}{E u:Env}{H H':PH}{w y:World}{K:cP}{Q:Exit→Act→World→Prop}(h:Oo n E H w K Q)(x:Ext E H w u H' y):Oo n u H' y K Q:=
 λds j e A B H2 a2 M F hW J l I=>h ds j e A B H2 a2 M F hW (x.trans J) (λD hD=>⟨(l D hD).1,(l D hD).2.1,a6T x.size (l D hD).2.2⟩) I
end
structure aAO where
 nparams:Nat
 ntmps:Nat
 body:r8
 res:List fC
namespace Tbl
variable (T:Tbl)
end Tbl
end Go.PM
namespace Go.PM
open Go
def aNB(C:Ctx)(k:Nat)(e:aAO):Prop:=∀(args:List PV)(H:PH)(R:PV→PH→Prop),Z' args≤e.ntmps→e.body.wp C (aV e.res R) (PF.args args) H→aJ C k args H R
theorem aNB.go{C:Ctx}{k:Nat}{e:aAO}(r:aNB C k e){args:List PV}{H:PH}{R:PV→PH→Prop}(h:e.body.wp C (aV e.res R) (PF.args args) H)(j:Nat.ble args.length e.ntmps=true):aJ C k args H R:=r args H R (Nat.le_of_ble_eq_true j) h
end Go.PM
