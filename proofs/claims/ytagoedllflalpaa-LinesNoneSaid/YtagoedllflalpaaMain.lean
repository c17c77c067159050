/- Each compiled operation does what its small form hands on. Generic over the program: no condition. -/
import Derived.Test.YtagoedllflalpaaSound6
namespace Go.EG
open Go.RowKit
set_option linter.unusedVariables false

section
variable {P : Program} {w0 : World} {fp0 : List Nat} {n : Nat} {e : Env} {a : Act} {L : List Ent} {w : World} {k : SV → List Ent → Prop} {o : Oper} {i : I} {fl : Bool}

theorem VI_does (hc : cI P fl o.dst o.op = some i) (hA : Agree n e a) (hR : R w0 fp0 L w) (h : VI P w0 fp0 i e L k) : Does P w0 fp0 o a w i k := by
  cases ho : o.op with
  | move x => rw [ho] at hc; simp only [cI, Option.some.injEq] at hc; subst hc; exact .inl (does_mv x (.inl ho) hA hR h)
  | assign x => rw [ho] at hc; simp only [cI, Option.some.injEq] at hc; subst hc; exact .inl (does_mv x (.inr ho) hA hR h)
  | pick c x y => rw [ho] at hc; simp only [cI, Option.some.injEq] at hc; subst hc; exact .inl (does_pick c x y ho hA hR h)
  | alloc t =>
    rw [ho] at hc; simp only [cI] at hc
    split at hc
    · rename_i j hj
      split at hc
      · rename_i z hz
        simp only [Option.some.injEq] at hc; subst hc
        exact .inr (.inl ⟨rfl, does_alc ho hj hz hA hR h⟩)
      · cases hc
    · cases hc
  | box t x => rw [ho] at hc; simp only [cI, Option.some.injEq] at hc; subst hc; exact .inr (.inl ⟨rfl, does_box ho hA hR h⟩)
  | build t ps =>
    rw [ho] at hc; simp only [cI] at hc
    split at hc
    · rename_i fs j ht hj
      split at hc
      · cases hc
      · rename_i hall
        split at hc
        · rename_i z hz
          obtain ⟨l, hl, rfl⟩ := Option.map_eq_some_iff.1 hc
          exact .inl (does_bld ho ht hj hz (by simpa only [Bool.not_eq_false] using hall) hl hA hR h)
        · cases hc
    · cases hc
  | buildSlice t m ps =>
    rw [ho] at hc; simp only [cI] at hc
    split at hc
    · rename_i el ht
      split at hc
      · rename_i j hj
        split at hc
        · rename_i z hz
          split at hc
          · rename_i hcond
            simp only [Option.some.injEq] at hc; subst hc
            exact .inr (.inl ⟨rfl, does_bsl ho ht hj hz hcond.1 hcond.2.1 hcond.2.2.1 hcond.2.2.2 hA hR h⟩)
          · cases hc
        · cases hc
      · cases hc
    · cases hc
  | load t x =>
    rw [ho] at hc; simp only [cI] at hc
    split at hc
    · rename_i lk hlk
      simp only [Option.some.injEq] at hc; subst hc
      exact .inl (does_ld ho hlk hA hR h)
    · split at hc
      · rename_i fs j ht hj
        split at hc
        · rename_i hpos
          simp only [Option.some.injEq] at hc; subst hc
          exact .inl (does_lda ho (.inl ⟨_, ht⟩) hj hpos hA hR h)
        · cases hc
      · rename_i m el j ht hj
        split at hc
        · rename_i hpos
          simp only [Option.some.injEq] at hc; subst hc
          exact .inl (does_lda ho (.inr ⟨_, _, ht⟩) hj hpos hA hR h)
        · cases hc
      · cases hc
  | store t x y =>
    rw [ho] at hc; simp only [cI] at hc
    split at hc
    · rename_i j hj
      split at hc
      · rename_i hpos
        simp only [Option.some.injEq] at hc; subst hc
        exact .inr (.inr (.inl ⟨rfl, does_st ho hj hpos hA hR h⟩))
      · cases hc
    · cases hc
  | nilCheck x => rw [ho] at hc; simp only [cI, Option.some.injEq] at hc; subst hc; exact .inl (does_nil ho hA hR h)
  | binOp op t x y yt =>
    rw [ho] at hc; simp only [cI] at hc
    split at hc
    · rename_i kd ht
      split at hc
      · rename_i hop
        simp only [Option.some.injEq] at hc; subst hc
        cases fl
        · exact .inl (does_ar ho hop hA hR (.inl h))
        · exact .inl (does_ar ho hop hA hR (.inr h))
      · split at hc
        · rename_i hop
          simp only [Option.some.injEq] at hc; subst hc
          exact .inl (does_cmp ho hop hA hR h)
        · split at hc
          · rename_i hop
            simp only [Option.some.injEq] at hc; subst hc
            exact .inl (does_bit ho hop hA hR h)
          · split at hc
            · simp only [Option.some.injEq] at hc; subst hc
              cases fl
              · exact .inl (does_dv ho (rem := false) rfl hA hR (.inl h))
              · exact .inl (does_dv ho (rem := false) rfl hA hR (.inr h))
            · simp only [Option.some.injEq] at hc; subst hc
              cases fl
              · exact .inl (does_dv ho (rem := true) rfl hA hR (.inl h))
              · exact .inl (does_dv ho (rem := true) rfl hA hR (.inr h))
            · simp only [Option.some.injEq] at hc; subst hc
              exact .inl (does_sh ho (left := true) rfl hA hR h)
            · simp only [Option.some.injEq] at hc; subst hc
              exact .inl (does_sh ho (left := false) rfl hA hR h)
            · cases hc
    · rename_i ht
      split at hc
      · simp only [Option.some.injEq] at hc; subst hc; exact .inl (does_eqb ho (ng := false) rfl ht hA hR h)
      · simp only [Option.some.injEq] at hc; subst hc; exact .inl (does_eqb ho (ng := true) rfl ht hA hR h)
      · cases hc
    · rename_i ht
      split at hc
      · simp only [Option.some.injEq] at hc; subst hc; exact .inl (does_eqs ho (ng := false) rfl hA hR h)
      · simp only [Option.some.injEq] at hc; subst hc; exact .inl (does_eqs ho (ng := true) rfl hA hR h)
      · cases hc
    · rename_i fs ht
      split at hc
      · rename_i hcond
        split at hc
        · rename_i ks hks
          split at hc
          · simp only [Option.some.injEq] at hc; subst hc; exact .inl (does_eqa ho (ng := false) rfl ht hcond.1 hcond.2 hks hA hR h)
          · simp only [Option.some.injEq] at hc; subst hc; exact .inl (does_eqa ho (ng := true) rfl ht hcond.1 hcond.2 hks hA hR h)
          · cases hc
        · cases hc
      · cases hc
    · split at hc
      · rename_i nk hnk
        split at hc
        · rename_i hnil
          split at hc
          · simp only [Option.some.injEq] at hc; subst hc; exact .inl (does_eqn ho (ng := false) rfl hnk hnil hA hR h)
          · simp only [Option.some.injEq] at hc; subst hc; exact .inl (does_eqn ho (ng := true) rfl hnk hnil hA hR h)
          · cases hc
        · split at hc
          · rename_i el hel
            split at hc
            · rename_i j hj
              split at hc
              · rename_i hpos
                split at hc
                · simp only [Option.some.injEq] at hc; subst hc; exact .inl (does_eqp ho (ng := false) rfl hel hj hpos hA hR h)
                · simp only [Option.some.injEq] at hc; subst hc; exact .inl (does_eqp ho (ng := true) rfl hel hj hpos hA hR h)
                · cases hc
              · cases hc
            · cases hc
          · cases hc
      · cases hc
  | unOp u t x =>
    rw [ho] at hc
    cases u with
    | not => simp only [cI, Option.some.injEq] at hc; subst hc; exact .inl (does_not ho hA hR h)
    | neg =>
      simp only [cI] at hc
      split at hc
      · simp only [Option.some.injEq] at hc; subst hc; exact .inl (does_neg ho hA hR h)
      · cases hc
    | _ => simp [cI] at hc
  | convert s t x =>
    rw [ho] at hc; simp only [cI] at hc
    split at hc
    · rename_i ks kd hs ht
      simp only [Option.some.injEq] at hc; subst hc
      cases fl
      · exact .inl (does_cv ho hs ht hA hR (.inl h))
      · exact .inl (does_cv ho hs ht hA hR (.inr h))
    · rename_i e0 hs ht
      split at hc
      · rename_i he
        simp only [Option.some.injEq] at hc; subst hc
        exact .inl (does_cvs ho hs he ht hA hR h)
      · cases hc
    · cases hc
  | makeInterface t x =>
    rw [ho] at hc; simp only [cI] at hc
    split at hc
    · cases hc
    · cases hc
    · rename_i d hd hn
      simp only [Option.some.injEq] at hc; subst hc
      exact .inl (does_mki ho hn (fun ms he => by subst he; exact hd _ rfl) hA hR h)
  | makeFunc fn first captured => rw [ho] at hc; simp only [cI, Option.some.injEq] at hc; subst hc; exact .inl (does_mkf ho hA hR h)
  | makeSlice t x y =>
    rw [ho] at hc; simp only [cI] at hc
    split at hc
    · rename_i el ht
      split at hc
      · rename_i j hj
        split at hc
        · rename_i z hz
          split at hc
          · rename_i hcond
            simp only [Option.some.injEq] at hc; subst hc
            exact .inr (.inl ⟨rfl, does_mks ho ht hj hz hcond.1 hcond.2 hA hR h⟩)
          · cases hc
        · cases hc
      · cases hc
    · cases hc
  | slice t x lo hi mx =>
    rw [ho] at hc
    cases mx with
    | some m => simp [cI] at hc
    | none =>
      simp only [cI] at hc
      split at hc
      · rename_i el ht
        split at hc
        · rename_i j hj
          split at hc
          · simp only [Option.some.injEq] at hc; subst hc
            exact .inr (.inl ⟨rfl, does_slo ho ht hj hA hR h⟩)
          · simp only [Option.some.injEq] at hc; subst hc
            exact .inl (does_slc ho ht hj hA hR h)
        · cases hc
      · cases hc
  | fieldAddr t x f =>
    rw [ho] at hc; simp only [cI] at hc
    split at hc
    · rename_i fs ht
      split at hc
      · rename_i fd hf
        split at hc
        · rename_i j hj
          split at hc
          · rename_i hpos
            simp only [Option.some.injEq] at hc; subst hc
            exact .inl (does_fa ho ht hf hj hpos hA hR h)
          · cases hc
        · cases hc
      · cases hc
    · cases hc
  | field t x f =>
    rw [ho] at hc; simp only [cI] at hc
    split at hc
    · rename_i fs ht
      split at hc
      · rename_i fd hf
        split at hc
        · rename_i lk hlk
          simp only [Option.some.injEq] at hc; subst hc
          exact .inl (does_fld ho ht hf hlk hA hR h)
        · split at hc
          · rename_i fs' j hu hj
            split at hc
            · simp only [Option.some.injEq] at hc; subst hc
              exact .inl (does_fls ho ht hf hu hj hA hR h)
            · cases hc
          · cases hc
      · cases hc
    · cases hc
  | indexAddr t x y =>
    rw [ho] at hc; simp only [cI] at hc
    split at hc
    · rename_i el ht
      split at hc
      · rename_i j hj
        simp only [Option.some.injEq] at hc; subst hc
        exact .inl (does_ia ho ht hj hA hR h)
      · cases hc
    · rename_i len el ht
      split at hc
      · rename_i j hj
        simp only [Option.some.injEq] at hc; subst hc
        exact .inl (does_iaa ho ht hj hA hR h)
      · cases hc
    · cases hc
  | makeMap t r =>
    rw [ho] at hc; simp only [cI] at hc
    split at hc
    · rename_i kt et ht
      obtain ⟨kk, hk, rfl⟩ := Option.map_eq_some_iff.1 hc
      exact .inr (.inl ⟨rfl, does_mkm ho ht hA hR h⟩)
    · cases hc
  | lookup t x y ok =>
    rw [ho] at hc; simp only [cI] at hc
    split at hc
    · rename_i kt et ht
      split at hc
      · rename_i kk j hk hj
        split at hc
        · rename_i z hz
          simp only [Option.some.injEq] at hc; subst hc
          exact .inl (does_lku ho ht hk hj hz hA hR h)
        · cases hc
      · cases hc
    · cases hc
  | mapUpdate t x y z =>
    rw [ho] at hc; simp only [cI] at hc
    split at hc
    · rename_i kt et ht
      obtain ⟨kk, hk, rfl⟩ := Option.map_eq_some_iff.1 hc
      exact .inr (.inr (.inl ⟨rfl, does_mup ho ht hk hA hR h⟩))
    · cases hc
  | typeAssert x xt t ok =>
    rw [ho] at hc; simp only [cI] at hc
    split at hc
    · cases hc
    · rename_i hti
      split at hc
      · rename_i j hj
        split at hc
        · rename_i z hz
          simp only [Option.some.injEq] at hc; subst hc
          exact .inl (does_tas ho (by simpa only [Bool.not_eq_true] using hti) hj hz hA hR h)
        · cases hc
      · cases hc
  | extract x m => rw [ho] at hc; simp only [cI, Option.some.injEq] at hc; subst hc; exact .inl (does_ext ho hA hR h)
  | call c =>
    rw [ho] at hc; simp only [cI] at hc
    obtain ⟨callee, args, ts⟩ := c
    obtain ⟨args⟩ := args
    obtain ⟨ts⟩ := ts
    simp only at hc
    split at hc
    · rename_i f
      split at hc
      · rename_i hf
        simp only [Option.some.injEq] at hc; subst hc
        exact does_call ho rfl hf hA hR h
      · cases hc
    · simp only [Option.some.injEq] at hc; subst hc
      exact does_cald ho rfl hA hR h
    · split at hc
      · split at hc
        · rename_i el hel
          simp only [Option.some.injEq] at hc; subst hc
          exact .inl (does_lens (ty := 0) ho hel hA hR h)
        · rename_i hel
          simp only [Option.some.injEq] at hc; subst hc
          exact .inl (does_lent ho hel hA hR h)
        · cases hc
      · cases hc
    · split at hc
      · split at hc
        · simp only [Option.some.injEq] at hc; subst hc
          exact .inl (does_mm (mx := true) ho hA hR h)
        · cases hc
      · cases hc
    · split at hc
      · split at hc
        · simp only [Option.some.injEq] at hc; subst hc
          exact .inl (does_mm (mx := false) ho hA hR h)
        · cases hc
      · cases hc
    · split at hc
      · split at hc
        · rename_i htu
          subst htu
          split at hc
          · rename_i el hel
            split at hc
            · rename_i j hj
              split at hc
              · rename_i z hz
                split at hc
                · rename_i hcond
                  simp only [Option.some.injEq] at hc; subst hc
                  cases fl
                  · exact .inr (.inl ⟨rfl, does_app (ty := 0) ho hel hj hz hcond.1 hcond.2 hA hR h⟩)
                  · exact .inr (.inl ⟨rfl, does_apc ho hel hj hcond.2 hA hR h⟩)
                · cases hc
              · cases hc
            · cases hc
          · cases hc
        · split at hc
          · rename_i el ki hel hki
            split at hc
            · rename_i j hj
              split at hc
              · rename_i z hz
                split at hc
                · rename_i hcond
                  simp only [Option.some.injEq] at hc; subst hc
                  exact .inr (.inl ⟨rfl, does_apz ho hel hki hj hz hcond.1 hcond.2 hA hR h⟩)
                · cases hc
              · cases hc
            · cases hc
          · cases hc
      · cases hc
    · cases hc
  | _ => rw [ho] at hc; simp [cI] at hc
end
end Go.EG
