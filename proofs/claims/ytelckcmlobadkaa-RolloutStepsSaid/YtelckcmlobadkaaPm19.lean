/-
  PM19: code without regions that draw their order is sound. No condition.
-/
import Derived.Test.YtelckcmlobadkaaPm18d
import Derived.Deep.LoopGhost
set_option linter.unusedSimpArgs false
set_option linter.unusedVariables false
namespace Go.PM
open Go Go.RowKit

def PExit.out : PExit → Exit
  | .normal => .normal
  | .exit id => .exit id
  | .ret => .ret

section
variable {T : Tbl} {n : Nat} {E : Env} {F : PF} {H : PH} {a : Act} {w : World}

theorem ops_sound {C : Ctx} (hCP : C.P = T.P) (hCN : C.num = T.num) {ops : Array Oper} {K : PF → PH → Prop} {Q : Exit → Act → World → Prop} : ∀ (l : List Oper) (il : List PInstr) (E : Env) (F : PF) (H : PH) (a : Act) (w : World),
    T.instrs n ops l = some il → wpOps C il K F H → ARel n E F a → WRel E H w → E.num = T.num → Takes n E H w K (Q .normal) → wpList T.P ops Q l a w
  | [], il, E, F, H, a, w, h1, h2, hA, hW, _, hT => by
    simp [Tbl.instrs] at h1
    subst h1
    exact hT E F H a w hA hW (.refl E H w) h2
  | o :: l, il, E, F, H, a, w, h1, h2, hA, hW, hN, hT => by
    simp only [Tbl.instrs] at h1
    split at h1
    · rename_i i is hi his
      cases h1
      obtain ⟨hop, hd, hlt, hg⟩ := instr_spec hi
      have hnext : ∀ (E' : Env) (F' : PF) (H' : PH) (a' : Act) (w' : World), E'.num = T.num → ARel n E' F' a' → WRel E' H' w' → Ext E H w E' H' w' → wpOps C is K F' H' → wpList T.P ops Q l a' w' :=
        fun E' F' H' a' w' hN' hA' hW' hE hK => ops_sound hCP hCN l is E' F' H' a' w' his hK hA' hW' hN' (hT.after hE)
      have hTk : Takes n E H w (wpOps C is K) (wpList T.P ops Q l) := fun E' F' H' a' w' hA' hW' hE hK => hnext E' F' H' a' w' (hE.env.num.trans hN) hA' hW' hE hK
      unfold wpList
      simp only [wpOps] at h2
      rcases hg with ⟨hg1, hg2⟩ | ⟨j, want, t, hg1, hg2, ht⟩
      · rw [hg2] at h2
        rw [if_pos (by simp [Region.wanted, hg1])]
        exact .inl (opS_sound hCP hCN hop hd hlt h2 hA hW hN hTk)
      · rw [hg2] at h2
        simp only at h2
        split at h2
        · rename_i b hb
          rw [wanted_spec hg1 ht (bool_slot hA hb)]
          split at h2
          · rename_i hbw
            rw [if_pos (by simp [hbw])]
            exact .inl (opS_sound hCP hCN hop hd hlt h2 hA hW hN hTk)
          · rename_i hbw
            rw [if_neg (by simpa using hbw)]
            exact hnext E _ H _ w hN (by rw [← hd]; exact hA.put hlt rep_skip) hW (.refl E H w) h2
        · rename_i hb
          rw [skipped_spec hg1 ht (skip_slot hA hb), if_neg (by simp)]
          exact hnext E _ H _ w hN (by rw [← hd]; exact hA.put hlt rep_skip) hW (.refl E H w) h2
        · exact h2.elim
    · cases h1

def TakesK (n : Nat) (E : Env) (H : PH) (w : World) (K : Kont) (Q : Exit → Act → World → Prop) : Prop :=
  ∀ e E' F' H' a' w', ARel n E' F' a' → WRel E' H' w' → Ext E H w E' H' w' → K e F' H' → Q e.out a' w'

theorem TakesK.after {E' : Env} {H' : PH} {w' : World} {K : Kont} {Q : Exit → Act → World → Prop} (h : TakesK n E H w K Q) (hE : Ext E H w E' H' w') : TakesK n E' H' w' K Q :=
  fun e E2 F2 H2 a2 w2 hA hW hX hK => h e E2 F2 H2 a2 w2 hA hW (hE.trans hX) hK

theorem code_sound {C : Ctx} (hCP : C.P = T.P) (hCN : C.num = T.num) : ∀ (c : Code) (pc : PCode) (K : Kont) (Q : Exit → Act → World → Prop) (E : Env) (F : PF) (H : PH) (a : Act) (w : World),
    T.code n c = some pc → pc.wp C K F H → ARel n E F a → WRel E H w → E.num = T.num → TakesK n E H w K Q → c.wp T.P Q a w := by
  intro c
  induction c with
  | skip =>
    intro pc K Q E F H a w hc hK hA hW hN hT
    simp [Tbl.code] at hc; subst hc
    exact wp_skip (hT .normal E F H a w hA hW (.refl E H w) hK)
  | region id ops d =>
    intro pc K Q E F H a w hc hK hA hW hN hT
    simp only [Tbl.code] at hc
    split at hc
    · rename_i hd
      simp only [Option.map_eq_some_iff] at hc
      obtain ⟨il, hil, rfl⟩ := hc
      subst hd
      exact draw_sound hCP hCN hil hK hA hW hN fun E' F' H' a' w' h1 h2 h3 h4 => hT .normal E' F' H' a' w' h1 h2 h3 h4
    · rename_i hd
      simp only [Option.map_eq_some_iff] at hc
      obtain ⟨il, hil, rfl⟩ := hc
      have : d = false := by simpa using hd
      subst this
      exact wp_region_list (ops_sound hCP hCN ops.toList il E F H a w hil hK hA hW hN fun E' F' H' a' w' h1 h2 h3 h4 => hT .normal E' F' H' a' w' h1 h2 h3 h4)
  | seq x y ihx ihy =>
    intro pc K Q E F H a w hc hK hA hW hN hT
    simp only [Tbl.code] at hc
    split at hc
    · rename_i px py hx hy
      cases hc
      refine wp_seq (ihx px (seqK C (py.wp C) K) _ E F H a w hx hK hA hW hN fun e E' F' H' a' w' h1 h2 h3 h4 => ?_)
      cases e with
      | normal => exact ihy py K Q E' F' H' a' w' hy h4 h1 h2 (h3.env.num.trans hN) (hT.after h3)
      | exit id => exact hT (.exit id) E' F' H' a' w' h1 h2 h3 h4
      | ret => exact hT .ret E' F' H' a' w' h1 h2 h3 h4
    · cases hc
  | cond c x y ihx ihy =>
    intro pc K Q E F H a w hc hK hA hW hN hT
    simp only [Tbl.code] at hc
    split at hc
    · rename_i pcnd px py hcnd hx hy
      cases hc
      simp only [PCode.wp] at hK
      split at hK
      · rename_i t hev
        have r := opd_sound hcnd hev hA hN
        have hb : a.eval c = .bool t := by
          generalize a.eval c = v at r
          cases r
          rfl
        refine wp_cond hb ?_
        cases t with
        | true => exact ihx px K Q E F H a w hx (by simpa using hK) hA hW hN hT
        | false => exact ihy py K Q E F H a w hy (by simpa using hK) hA hW hN hT
      · exact hK.elim
    · cases hc
  | block id c ih =>
    intro pc K Q E F H a w hc hK hA hW hN hT
    simp only [Tbl.code, Option.map_eq_some_iff] at hc
    obtain ⟨px, hx, rfl⟩ := hc
    refine wp_block (ih px (blockK id K) _ E F H a w hx hK hA hW hN fun e E' F' H' a' w' h1 h2 h3 h4 => ?_)
    cases e with
    | normal => exact hT .normal E' F' H' a' w' h1 h2 h3 h4
    | exit id' =>
      simp only [blockK] at h4
      simp only [PExit.out, Exit.inBlock]
      split at h4
      · rename_i e
        rw [if_pos e]
        exact hT .normal E' F' H' a' w' h1 h2 h3 h4
      · rename_i e
        rw [if_neg e]
        exact hT (.exit id') E' F' H' a' w' h1 h2 h3 h4
    | ret => exact hT .ret E' F' H' a' w' h1 h2 h3 h4
  | loop c ih =>
    intro pc K Q E F H a w hc hK hA hW hN hT
    simp only [Tbl.code, Option.map_eq_some_iff] at hc
    obtain ⟨px, hx, rfl⟩ := hc
    obtain ⟨α, Fs, Hs, Pr, m, a0, F1, H1, hfz, hp0, hF0, hH0, hround⟩ := hK
    obtain ⟨E1, hA1, hW1, hE1⟩ := hA.frz hW hfz
    refine wp_loop_ghost (fun k a' w' => ∃ (E' : Env) (s : α), Pr s ∧ m s = k ∧ ARel n E' (Fs s) a' ∧ WRel E' (Hs s) w' ∧ Ext E H w E' (Hs s) w') (m a0) ⟨E1, a0, hp0, rfl, hA1.weaken hF0, hW1.weaken hH0, hE1.drop hH0⟩ ?_
    rintro k a' w' ⟨E', s, hp, rfl, hA', hW', hE'⟩
    refine ih px (loopK Fs Hs Pr m (m s) K) _ E' (Fs s) (Hs s) a' w' hx (hround s hp) hA' hW' (hE'.env.num.trans hN) fun e E2 F2 H2 a2 w2 h1 h2 h3 h4 => ?_
    cases e with
    | normal =>
      obtain ⟨s', F3, H3, hfz', hp', hlt, hF', hH'⟩ := h4
      obtain ⟨E3, hA3, hW3, hE3⟩ := h1.frz h2 hfz'
      exact ⟨m s', hlt, E3, s', hp', rfl, hA3.weaken hF', hW3.weaken hH', ((hE'.trans h3).trans hE3).drop hH'⟩
    | exit id => exact hT (.exit id) E2 F2 H2 a2 w2 h1 h2 (hE'.trans h3) h4
    | ret => exact hT .ret E2 F2 H2 a2 w2 h1 h2 (hE'.trans h3) h4
  | exit id =>
    intro pc K Q E F H a w hc hK hA hW hN hT
    simp [Tbl.code] at hc; subst hc
    exact wp_exit (hT (.exit id) E F H a w hA hW (.refl E H w) hK)
  | ret =>
    intro pc K Q E F H a w hc hK hA hW hN hT
    simp [Tbl.code] at hc; subst hc
    exact wp_ret (hT .ret E F H a w hA hW (.refl E H w) hK)
  | rangeFunc => intro pc K Q E F H a w hc; simp [Tbl.code] at hc
  | scope => intro pc K Q E F H a w hc; simp [Tbl.code] at hc
  | label => intro pc K Q E F H a w hc; simp [Tbl.code] at hc
  | goto => intro pc K Q E F H a w hc; simp [Tbl.code] at hc
  | refuse => intro pc K Q E F H a w hc; simp [Tbl.code] at hc

end
end Go.PM
