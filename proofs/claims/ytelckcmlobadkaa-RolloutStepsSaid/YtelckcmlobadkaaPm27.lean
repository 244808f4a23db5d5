/-
  PM27: a row's proof from its law's contract over pure values. No condition.
-/
import Derived.Test.YtelckcmlobadkaaPm26
set_option linter.unusedSimpArgs false
set_option linter.unusedVariables false
namespace Go.PM
open Go Go.RowKit Go.ChangeShapes Go.WideShapes

/-- Kinds of arguments. -/
inductive AT where
  | one (ct : CT)
  | struct (cts : List CT)
  deriving Inhabited

def argTy (P : Program) (n : Nat) (t : TypeId) : Option AT :=
  match P.underlying t with
  | some .bool => some (.one .bool)
  | some (.int k) => some (.one (.int k))
  | some .string => some (.one .str)
  | some (.slice _) => match cellsTy P n t with
    | some [ct] => some (.one ct)
    | _ => none
  | some (.struct _) => (cellsTy P n t).map .struct
  | _ => none

def argTys (P : Program) (n : Nat) : List TypeId → Option (List AT)
  | [] => some []
  | t :: ts => match argTy P n t, argTys P n ts with
    | some a, some as => some (a :: as)
    | _, _ => none

inductive AT.Ty : AT → PV → Prop
  | one {ct : CT} {pv : PV} (h : PV.Ty ct pv) : AT.Ty (.one ct) pv
  | struct {cts : List CT} {pvs : List PV} (hl : pvs.length = cts.length) (h : ∀ (j : Nat) pv ct, pvs[j]? = some pv → cts[j]? = some ct → PV.Ty ct pv) : AT.Ty (.struct cts) (.agg pvs)

def AT.TyL : List AT → List PV → Prop
  | [], [] => True
  | a :: as, p :: ps => AT.Ty a p ∧ AT.TyL as ps
  | _, _ => False

section
variable {H : Type} {enc : TypeId × Value → H} {P : Program} {W : World} {sp : Nat → Bool} {held : Bool}

theorem arg_of {r : Reach} {base : Nat} (num : Nat → FuncId) {t : TypeId} {v : Value} {d : DataW H} {ps : List MemPlace} {n : Nat} {a : AT}
    (hval : Value.okWide P W r base t v) (hd : DataW.Trod enc P W 0 sp held t v d ps) (ha : argTy P n t = some a) : ∃ pv, RepV (Env.of W num) pv v ∧ AT.Ty a pv := by
  unfold argTy at ha
  cases n with
  | zero =>
    split at ha
    · rename_i hu
      cases ha
      obtain ⟨b, rfl⟩ := okWide_bool hu hval
      obtain ⟨pv, h1, h2⟩ := arg_one (n := 1) (ct := .bool) num (by simp [Value.cells]) hd (by simp [cellsTy, hu])
      exact ⟨pv, h1, .one h2⟩
    · rename_i k hu
      cases ha
      obtain ⟨b, rfl⟩ := okWide_int hu hval
      obtain ⟨pv, h1, h2⟩ := arg_one (n := 1) (ct := .int k) num (by simp [Value.cells]) hd (by simp [cellsTy, hu])
      exact ⟨pv, h1, .one h2⟩
    · rename_i hu
      cases ha
      obtain ⟨b, rfl⟩ := okWide_string hu hval
      obtain ⟨pv, h1, h2⟩ := arg_one (n := 1) (ct := .str) num (by simp [Value.cells]) hd (by simp [cellsTy, hu])
      exact ⟨pv, h1, .one h2⟩
    · simp [cellsTy] at ha
    · simp [cellsTy] at ha
    · cases ha
  | succ n =>
    split at ha
    · rename_i hu
      cases ha
      obtain ⟨b, rfl⟩ := okWide_bool hu hval
      obtain ⟨pv, h1, h2⟩ := arg_one (n := n + 1) (ct := .bool) num (by simp [Value.cells]) hd (by simp [cellsTy, hu])
      exact ⟨pv, h1, .one h2⟩
    · rename_i k hu
      cases ha
      obtain ⟨b, rfl⟩ := okWide_int hu hval
      obtain ⟨pv, h1, h2⟩ := arg_one (n := n + 1) (ct := .int k) num (by simp [Value.cells]) hd (by simp [cellsTy, hu])
      exact ⟨pv, h1, .one h2⟩
    · rename_i hu
      cases ha
      obtain ⟨b, rfl⟩ := okWide_string hu hval
      obtain ⟨pv, h1, h2⟩ := arg_one (n := n + 1) (ct := .str) num (by simp [Value.cells]) hd (by simp [cellsTy, hu])
      exact ⟨pv, h1, .one h2⟩
    · rename_i e hu
      split at ha
      · rename_i ct hc
        cases ha
        obtain ⟨x, len, cap, rfl⟩ := okWide_slice hu hval
        obtain ⟨pv, h1, h2⟩ := arg_one num (by simp [Value.cells]) hd hc
        exact ⟨pv, h1, .one h2⟩
      · cases ha
    · rename_i fs hu
      rw [Option.map_eq_some_iff] at ha
      obtain ⟨cts, hc, rfl⟩ := ha
      obtain ⟨pvs, h1, h2, h3⟩ := arg_struct num hu hval hd hc
      exact ⟨_, h1, .struct h2 h3⟩
    · cases ha

theorem args_of {r : Reach} {base : Nat} (num : Nat → FuncId) {n : Nat} : ∀ {ts : List TypeId} {vs : List Value} {ds : List (DataW H)} {ps : List MemPlace} {as : List AT}, DataW.TrodAll enc P W 0 sp held ts vs ds ps →
    (∀ (j : Nat) t v, ts[j]? = some t → vs[j]? = some v → Value.okWide P W r base t v) → argTys P n ts = some as → ∃ pvs, RepVs (Env.of W num) pvs vs ∧ AT.TyL as pvs
  | [], [], _, _, as, _, _, h => by
    simp [argTys] at h
    subst h
    exact ⟨[], .nil, trivial⟩
  | [], _ :: _, _, _, _, h, _, _ => h.elim
  | _ :: _, [], [], _, _, h, _, _ => h.elim
  | _ :: _, [], _ :: _, _, _, h, _, _ => h.elim
  | _ :: _, _ :: _, [], _, _, h, _, _ => h.elim
  | t :: ts, v :: vs, d :: ds, ps, as, h, hv, ha => by
    obtain ⟨p, q, h1, h2, rfl⟩ := h
    simp only [argTys] at ha
    split at ha
    · rename_i a as' e1 e2
      cases ha
      obtain ⟨pv, r1, t1⟩ := arg_of num (hv 0 t v rfl rfl) h1 e1
      obtain ⟨pvs, r2, t2⟩ := args_of num h2 (fun j t v a b => hv (j + 1) t v (by simpa using a) (by simpa using b)) e2
      exact ⟨pv :: pvs, .cons r1 r2, t1, t2⟩
    · cases ha

theorem TrodAll.length : ∀ {ts : List TypeId} {vs : List Value} {ds : List (DataW H)} {ps : List MemPlace}, DataW.TrodAll enc P W 0 sp held ts vs ds ps → ds.length = ts.length
  | [], [], [], _, _ => rfl
  | [], [], _ :: _, _, h => h.elim
  | [], _ :: _, _, _, h => h.elim
  | _ :: _, [], [], _, h => h.elim
  | _ :: _, [], _ :: _, _, h => h.elim
  | _ :: _, _ :: _, [], _, h => h.elim
  | t :: ts, v :: vs, d :: ds, ps, h => by
    obtain ⟨p, q, h1, h2, rfl⟩ := h
    simp [TrodAll.length h2]
end

/-- A law's row: from the contract of the law at all typed arguments. -/
theorem calls_of_law {H : Type} {enc : TypeId × Value → H} {P : Program} {f : FuncId} {fn : Func} {s : ChangeSpec} {apart fresh handsOn : Bool} {bt : TypeId} {num : Nat → FuncId} {name n : Nat} {ats : List AT}
    (hl : laidOutB P = true) (hts : fn.params.toList.all (fun t => P.readableRec t && decide (t < P.types.size)) = true) (hrt : fn.resultTypes = #[bt]) (hbt : P.underlying bt = some .bool) (hv : s.vars = [])
    (hs : ∀ ds : List (DataW H), ds.length = fn.params.toList.length → (s.fn H ds).results = [.lit (.bool true)] ∧ (s.fn H ds).args = ds ∧ (s.fn H ds).vars = [])
    (hnum : num name = f) (ha : argTys P n fn.params.toList = some ats) (h : ∀ pvs, AT.TyL ats pvs → ECalls ⟨P, num⟩ name pvs PH.nil (Gives (.bool true)))
    {W : World} {base : Nat} {args : Array Value} {ds gs : List (DataW H)} {before : List MemPlace}
    (hval : ∀ (j : Nat) t v, fn.params[j]? = some t → args[j]? = some v → Value.okWide P W .any base t v) (hW : DataW.Whole enc P fn.params.toList s.vars apart W args.toList ds gs before) :
    Calls P f args W fun e W' => ∃ v, e = .returned v ∧ s.post enc P fn apart fresh handsOn false W args v W' := by
  have hts' : ∀ t ∈ fn.params.toList, P.readableRec t = true ∧ t < P.types.size := fun t ht => by
    have := List.all_eq_true.1 hts t ht
    simpa using this
  have hW' := hW
  obtain ⟨p, q, hA, hV, rfl, hz, hn⟩ := hW
  rw [hv] at hV
  obtain ⟨rfl, rfl⟩ := trodVars_none hV
  obtain ⟨pvs, hr, ht⟩ := args_of num hA (fun j t v a b => hval j t v (by simpa using a) (by simpa using b)) ha
  have hlen := TrodAll.length hA
  subst hnum
  obtain ⟨r1, r2, r3⟩ := hs (ds ++ []) (by simpa using hlen)
  refine (law_calls (C := ⟨P, num⟩) (h pvs ht) hr).mono fun e W' he => ?_
  obtain ⟨rfl, hb⟩ := he
  exact ⟨_, rfl, post_true hl hW' hb hts' hrt hbt hv r1 (by rw [r2]; simp) r3⟩
end Go.PM
