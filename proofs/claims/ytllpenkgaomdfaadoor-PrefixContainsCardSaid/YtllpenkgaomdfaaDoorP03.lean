/- Runs that end in one way; loops and steps of such runs. -/
import Derived.Test.YtllpenkgaomdfaaDoorP02
import Derived.FnData
import Derived.Below
set_option linter.all false
namespace Go.Proofs.YtllpenkgaomdfaaDoor.Vm
open Go
variable [Tabs]

/-- all runs from a state on end in one and the same state, of which R holds -/
@[irreducible] def RunD (P : Program) (n : NN) (c : Cfg) (R : Exit → List AV → List VObj → Prop) : Prop :=
  ∃ e t s, R e t s ∧ Run P n c fun e' t' s' => e' = e ∧ t' = t ∧ s' = s

@[irreducible] def LoopRunD (P : Program) (n : NN) (body : Code) (c : Cfg) (R : Exit → List AV → List VObj → Prop) : Prop := RunD P n ⟨c.t, c.s, .code (.loop body) :: c.todo⟩ R

def OutHoldsD (P : Program) (n : NN) (R : Exit → List AV → List VObj → Prop) : Out → Prop
  | .fail => False
  | .more c => RunD P n c R
  | .br b c c' => (b = true → RunD P n c R) ∧ (b = false → RunD P n c' R)
  | .op o f => OpHolds P o fun v s fp => RunD P n (f v s fp) R
  | .loop body c => LoopRunD P n body c R
  | .done e t s => R e t s

section
variable {P : Program} {E : Env} {N : NN} {R : Exit → List AV → List VObj → Prop}

theorem RunD.run {c : Cfg} (h : RunD P N c R) : Run P N c R := by
  unfold RunD at h
  obtain ⟨e, t, s, hR, h⟩ := h
  exact run_mono h fun _ _ _ ⟨h1, h2, h3⟩ => by subst h1; subst h2; subst h3; exact hR

theorem RunD.map {c c' : Cfg} (f : ∀ R', Run P N c R' → Run P N c' R') (h : RunD P N c R) : RunD P N c' R := by
  unfold RunD at h ⊢
  obtain ⟨e, t, s, hR, h⟩ := h
  exact ⟨e, t, s, hR, f _ h⟩

theorem RunD.mono {c : Cfg} {R' : Exit → List AV → List VObj → Prop} (h : RunD P N c R) (hR : ∀ e t s, R e t s → R' e t s) : RunD P N c R' := by
  unfold RunD at h ⊢
  obtain ⟨e, t, s, h1, h⟩ := h
  exact ⟨e, t, s, hR _ _ _ h1, h⟩

theorem RunD.intro {c : Cfg} {e : Exit} {t : List AV} {s : List VObj} (h : Run P N c fun e' t' s' => e' = e ∧ t' = t ∧ s' = s) (hR : R e t s) : RunD P N c R := by
  unfold RunD; exact ⟨e, t, s, hR, h⟩

/-- a run that ends at once -/
theorem run_end {t : List AV} {s : List VObj} {R : Exit → List AV → List VObj → Prop} (h : R .normal t s) : Run P N ⟨t, s, []⟩ R :=
  run_intro (fun _ B g0 w0 hf g a w hS => ⟨t, s, g, hS, h⟩) (fun x r e => nomatch e)
theorem run_skip {t : List AV} {s : List VObj} {todo : List VItem} {R : Exit → List AV → List VObj → Prop} (h : Run P N ⟨t, s, todo⟩ R) : Run P N ⟨t, s, .code .skip :: todo⟩ R :=
  run_intro (fun ht B g0 w0 hf g a w hS => wp_skip (run_elim h (any_tail ht) hf hS)) (fun x r' e => by cases e; rfl)
theorem run_inBlock {t : List AV} {s : List VObj} {id : Nat} {todo : List VItem} {R : Exit → List AV → List VObj → Prop} (h : Run P N ⟨t, s, todo⟩ R) : Run P N ⟨t, s, .inBlock id :: todo⟩ R :=
  run_intro (fun ht B g0 w0 hf g a w hS => run_elim h (any_tail ht) hf hS) (fun x r' e => by cases e; rfl)
theorem run_seq {t : List AV} {s : List VObj} {x y : Code} {todo : List VItem} {R : Exit → List AV → List VObj → Prop} (h : Run P N ⟨t, s, .code x :: .code y :: todo⟩ R) : Run P N ⟨t, s, .code (.seq x y) :: todo⟩ R := by
  refine run_intro (fun ht B g0 w0 hf g a w hS => ?_) (fun x r' e => by cases e; rfl)
  have := run_elim h (todo := .code x :: .code y :: todo) (any_cons rfl (any_cons rfl (any_tail ht))) hf hS
  refine wp_seq (wp_mono this fun e a w he => ?_)
  cases e <;> first | exact he | exact wp_mono he fun e a w he => by cases e <;> exact he
theorem run_cond {t : List AV} {s : List VObj} {c : Operand} {x y : Code} {b : Bool} {todo : List VItem} {R : Exit → List AV → List VObj → Prop} (hb : evV t c = .bool b) (h : Run P N ⟨t, s, .code (if b then x else y) :: todo⟩ R) : Run P N ⟨t, s, .code (.cond c x y) :: todo⟩ R := by
  refine run_intro (fun ht B g0 w0 hf g a w hS => ?_) (fun x r' e => by cases e; rfl)
  have hv := evGv_rel (x := c) hS.rt
  rw [hb] at hv
  have := run_elim h (todo := .code (if b then x else y) :: todo) (any_cons rfl (any_tail ht)) hf hS
  cases b with
  | true => exact wp_mono (wp_cond_true (rel_bool hv) this) fun e a w he => by cases e <;> exact he
  | false => exact wp_mono (wp_cond_false (rel_bool hv) this) fun e a w he => by cases e <;> exact he
theorem run_block {t : List AV} {s : List VObj} {id : Nat} {b : Code} {todo : List VItem} {R : Exit → List AV → List VObj → Prop} (h : Run P N ⟨t, s, .code b :: .inBlock id :: todo⟩ R) : Run P N ⟨t, s, .code (.block id b) :: todo⟩ R := by
  refine run_intro (fun ht B g0 w0 hf g a w hS => ?_) (fun x r' e => by cases e; rfl)
  have := run_elim h (todo := .code b :: .inBlock id :: todo) (any_cons rfl (any_cons rfl (any_tail ht))) hf hS
  have hb : (Code.block id b).wp P (after P (conc B g0 w0 R) todo) a w := wp_block (wp_mono this fun e a w he => by cases e <;> exact he)
  exact wp_mono hb fun e a w he => by cases e <;> exact he

theorem run_inScope {t : List AV} {s : List VObj} {todo : List VItem} {R : Exit → List AV → List VObj → Prop} (h : Run P N ⟨t, s, todo⟩ R) : Run P N ⟨t, s, .inScope :: todo⟩ R :=
  run_intro (fun ht B g0 w0 hf g a w hS => run_elim h (any_tail ht) hf hS) (fun x r' e => by cases e; rfl)
theorem run_label {t : List AV} {s : List VObj} {l : Nat} {todo : List VItem} {R : Exit → List AV → List VObj → Prop} (h : Run P N ⟨t, s, todo⟩ R) : Run P N ⟨t, s, .code (.label l) :: todo⟩ R :=
  run_intro (fun ht B g0 w0 hf g a w hS => wp_label (run_elim h (any_tail ht) hf hS)) (fun x r' e => by cases e; rfl)
theorem run_scope {t : List AV} {s : List VObj} {b : Code} {todo : List VItem} {R : Exit → List AV → List VObj → Prop} (h : Run P N ⟨t, s, .code b :: .inScope :: todo⟩ R) : Run P N ⟨t, s, .code (.scope b) :: todo⟩ R := by
  refine run_intro (fun ht B g0 w0 hf g a w hS => ?_) (fun x r' e => by cases e; rfl)
  have := run_elim h (todo := .code b :: .inScope :: todo) (any_cons rfl (any_cons rfl (any_tail ht))) hf hS
  have hb : (Code.scope b).wp P (after P (conc B g0 w0 R) todo) a w := wp_scope_straight (wp_mono this fun e a w he => by cases e <;> exact he)
  exact wp_mono hb fun e a w he => by cases e <;> exact he

theorem popTo_any (id : Nat) : ∀ (todo r : List VItem), popTo id todo = some r → todo.any isOps = false → r.any isOps = false := by
  intro todo
  induction todo with
  | nil => intro r h; exact nomatch h
  | cons x todo ih2 =>
    intro r h hh
    rw [List.any_cons, Bool.or_eq_false_iff] at hh
    cases x with
    | inBlock id' =>
      simp only [popTo] at h
      split at h
      · cases h; exact hh.2
      · exact ih2 r h hh.2
    | _ => exact ih2 r h hh.2

theorem run_exit_in {t : List AV} {s : List VObj} {id : Nat} {todo r : List VItem} {R : Exit → List AV → List VObj → Prop} (hr : popTo id todo = some r) (h : Run P N ⟨t, s, r⟩ R) : Run P N ⟨t, s, .code (.exit id) :: todo⟩ R := by
  refine run_intro (fun ht B g0 w0 hf g a w hS => wp_exit ?_) (fun x r' e => by cases e; rfl)
  show after P (conc B g0 w0 R) todo (.exit id) a w
  refine after_exit todo ?_
  rw [hr]
  exact run_elim h (popTo_any id todo r hr (any_tail ht)) hf hS
theorem run_exit_out {t : List AV} {s : List VObj} {id : Nat} {todo : List VItem} {R : Exit → List AV → List VObj → Prop} (hr : popTo id todo = none) (h : R (.exit id) t s) : Run P N ⟨t, s, .code (.exit id) :: todo⟩ R := by
  refine run_intro (fun ht B g0 w0 hf g a w hS => wp_exit ?_) (fun x r' e => by cases e; rfl)
  show after P (conc B g0 w0 R) todo (.exit id) a w
  refine after_exit todo ?_
  rw [hr]
  exact ⟨t, s, g, hS, h⟩
theorem run_ret {t : List AV} {s : List VObj} {todo : List VItem} {R : Exit → List AV → List VObj → Prop} (h : R .ret t s) : Run P N ⟨t, s, .code .ret :: todo⟩ R := by
  refine run_intro (fun ht B g0 w0 hf g a w hS => wp_ret ?_) (fun x r' e => by cases e; rfl)
  exact after_ret ⟨t, s, g, hS, h⟩ todo

/-- the evaluator of code is sound for such runs -/
theorem vrun_soundD (hE : E.Fits P) (hQ : E.EqOk P) : ∀ (n : Nat) (t : List AV) (s : List VObj) (todo : List VItem), vrun E n t s todo (OutHoldsD P N R) → RunD P N ⟨t, s, todo⟩ R := by
  intro n
  induction n with
  | zero => intro t s todo h; exact h
  | succ n ih =>
    intro t s todo h
    have hops : ∀ (all : Array Oper) (draw : Bool) (o : Oper) (os : List Oper) (fps : List FP) (todo : List VItem), GuardYes all o t →
        vval E (fun out => match out with
          | .ok v s' fp => putK t o.dst v fun t' => vrun E n t' s' (.ops all draw os (fp :: fps) :: todo) (OutHoldsD P N R)
          | .fail => OutHoldsD P N R .fail
          | out => OutHoldsD P N R (.op out fun v s' fp => ⟨putT t o.dst v, s', .ops all draw os (fp :: fps) :: todo⟩)) o.dst o.op t s → RunD P N ⟨t, s, .ops all draw (o :: os) fps :: todo⟩ R := by
      intro all draw o os fps todo hg h
      obtain ⟨v, s2, fp, hop, hR⟩ := vval_sound (ty := o.type) (pos := o.pos) (after := o.after) (guard := o.guard) (R := fun v s' fp => RunD P N ⟨putT t o.dst v, s', .ops all draw os (fp :: fps) :: todo⟩ R) hE hQ (fun out hout => by
        cases out with
        | ok v s' fp =>
          dsimp only at hout
          rw [putK_eq] at hout
          exact ih _ _ _ hout
        | fail => exact hout
        | need p v s fp => exact hout
        | look p r f s fp => exact hout
        | br b v v' s => exact hout
        | idx p es i m f fp => exact hout
        | sidx b i s => exact hout
        | cas m i f s => exact hout
        | call fid args s => exact hout) h
      exact hR.map fun R' => run_done_op (.inl ⟨hg, hop⟩)
    cases todo with
    | nil => exact .intro (run_end ⟨rfl, rfl, rfl⟩) h
    | cons x todo =>
      cases x with
      | inBlock id => exact (ih t s todo h).map fun R' => run_inBlock
      | inScope => exact (ih t s todo h).map fun R' => run_inScope
      | ops all draw left fps =>
        cases left with
        | nil =>
          cases draw with
          | false => exact (ih t s todo h).map fun R' => run_ops_end (fun h => nomatch h)
          | true =>
            simp only [vrun] at h
            split at h
            · rename_i hok
              rw [Bool.and_eq_true] at hok
              exact (ih t s todo h).map fun R' => run_ops_end (fun _ => hok)
            · exact h.elim
        | cons o os =>
          simp only [vrun] at h
          split at h
          · rename_i hg
            exact hops all draw o os fps todo (by unfold GuardYes; rw [hg]; trivial) h
          · rename_i j want hg
            split at h
            · exact h.elim
            · rename_i d hd
              rw [getS_eq] at h
              split at h
              · rename_i b hb
                obtain ⟨g1, g2⟩ := guard_of hg hd hb
                split at h
                · rename_i hx; exact hops all draw o os fps todo (g1 hx) h
                · rename_i hx
                  rw [putK_eq] at h
                  exact (ih _ _ _ h).map fun R' => run_done_op (.inr ⟨g2 hx, rfl, rfl, rfl⟩)
              · rename_i b hb
                obtain ⟨h1, h2⟩ := h
                cases b with
                | true => exact (h1 rfl).map fun R' => run_told (sameU_set hb rfl)
                | false => exact (h2 rfl).map fun R' => run_told (sameU_set hb rfl)
              · rename_i hb
                rw [putK_eq] at h
                refine (ih _ _ _ h).map fun R' => run_done_op (.inr ⟨?_, rfl, rfl, rfl⟩)
                unfold GuardNo
                rw [hg]
                exact ⟨d, hd, .inr (by rw [hb]; rfl)⟩
              · exact h.elim
      | code c =>
        cases c with
        | skip => exact (ih t s todo h).map fun R' => run_skip
        | region id all draw => exact (ih t s _ h).map fun R' => run_ops_start
        | seq x y => exact (ih t s _ h).map fun R' => run_seq
        | cond c x y =>
          simp only [vrun, evG_eq] at h
          have hc := unkb_evGv t c
          split at h
          · rename_i b hb
            rw [hb] at hc
            split at h
            · exact (ih t s _ h).map fun R' h => run_cond hc.symm h
            · exact (ih t s _ h).map fun R' h => run_cond hc.symm h
          · rename_i b hb
            rw [hb] at hc
            obtain ⟨h1, h2⟩ := h
            cases b with
            | true => exact (h1 rfl).map fun R' h => run_cond hc.symm h
            | false => exact (h2 rfl).map fun R' h => run_cond hc.symm h
          · exact h.elim
        | block id b => exact (ih t s _ h).map fun R' => run_block
        | scope b => exact (ih t s _ h).map fun R' => run_scope
        | label l => exact (ih t s _ h).map fun R' => run_label
        | loop b =>
          have h : LoopRunD P N b ⟨t, s, todo⟩ R := h
          unfold LoopRunD at h
          exact h
        | exit id =>
          simp only [vrun] at h
          split at h
          · rename_i r hr
            exact (ih t s r h).map fun R' => run_exit_in hr
          · rename_i hr
            exact .intro (run_exit_out hr ⟨rfl, rfl, rfl⟩) h
        | ret => exact .intro (run_ret ⟨rfl, rfl, rfl⟩) h
        | _ => exact h.elim

theorem run_stepD (hE : E.Fits P) (hQ : E.EqOk P) (fuel : Nat) {c : Cfg} (h : vrunC E fuel c (OutHoldsD P N R)) : RunD P N c R := by
  obtain ⟨t, s, todo⟩ := c
  simp only [vrunC, forceC_eq, forceS_eq] at h
  exact vrun_soundD hE hQ fuel t s todo h

/- Loops. -/
def LoopRD (P : Program) (N : NN) (todo : List VItem) (R : Exit → List AV → List VObj → Prop) (again : List AV → List VObj → Prop) : Exit → List AV → List VObj → Prop
  | .normal, t, s => again t s
  | .exit id, t, s => match popTo id todo with
    | some r => RunD P N ⟨t, s, r⟩ R
    | none => R (.exit id) t s
  | .ret, t, s => R .ret t s
  | _, _, _ => False

/-- where a loop's rounds lead from an index on -/
inductive LoopTo {ι : Type} (P : Program) (N : NN) (body : Code) (todo : List VItem) (T : ι → List AV) (S : ι → List VObj) (μ : ι → Nat) (R : Exit → List AV → List VObj → Prop) : ι → Prop
  | out (i : ι) (e : Exit) (t : List AV) (s : List VObj) (h : Run P N ⟨T i, S i, [.code body]⟩ fun e' t' s' => e' = e ∧ t' = t ∧ s' = s) (hR : LoopR P N todo R (fun _ _ => False) e t s) : LoopTo P N body todo T S μ R i
  | more (i j : ι) (t : List AV) (s : List VObj) (h : Run P N ⟨T i, S i, [.code body]⟩ fun e' t' s' => e' = .normal ∧ t' = t ∧ s' = s) (hm : μ j < μ i) (hw : Weak N t s (T j) (S j)) (h' : LoopTo P N body todo T S μ R j) : LoopTo P N body todo T S μ R i

theorem LoopTo.run {ι : Type} {body : Code} {todo : List VItem} {T : ι → List AV} {S : ι → List VObj} {μ : ι → Nat} {i0 : ι} {t : List AV} {s : List VObj} (h0 : Weak N t s (T i0) (S i0)) (h : LoopTo P N body todo T S μ R i0) :
    Run P N ⟨t, s, .code (.loop body) :: todo⟩ R := by
  refine run_loop (ι := { i : ι // LoopTo P N body todo T S μ R i }) (fun i => T i.1) (fun i => S i.1) (fun i => μ i.1) ⟨i0, h⟩ h0 fun i => ?_
  obtain ⟨i, hi⟩ := i
  cases hi with
  | out _ e t s h hR =>
    refine run_mono h fun e' t' s' ⟨h1, h2, h3⟩ => ?_
    subst h1; subst h2; subst h3
    cases e' <;> first | exact hR | exact hR.elim
  | more _ j t s h hm hw h' =>
    refine run_mono h fun e' t' s' ⟨h1, h2, h3⟩ => ?_
    subst h1; subst h2; subst h3
    exact ⟨⟨j, h'⟩, hm, hw⟩

theorem loop_ruleD {ι : Type} (T : ι → List AV) (S : ι → List VObj) (μ : ι → Nat) (i0 : ι) {t : List AV} {s : List VObj} {body : Code} {todo : List VItem} (h0 : Weak N t s (T i0) (S i0))
    (round : ∀ i, RunD P N ⟨T i, S i, [.code body]⟩ (LoopRD P N todo R fun t' s' => ∃ j, μ j < μ i ∧ Weak N t' s' (T j) (S j))) : LoopRunD P N body ⟨t, s, todo⟩ R := by
  have key : ∀ n i, μ i = n → ∃ e t s, R e t s ∧ LoopTo P N body todo T S μ (fun e' t' s' => e' = e ∧ t' = t ∧ s' = s) i := by
    intro n
    induction n using Nat.strongRecOn with
    | _ n ih =>
      intro i hn
      have hr := round i
      unfold RunD at hr
      obtain ⟨e, t1, s1, hR, hrun⟩ := hr
      cases e with
      | normal =>
        obtain ⟨j, hm, hw⟩ := hR
        obtain ⟨e2, t2, s2, hR2, hl⟩ := ih (μ j) (hn ▸ hm) j rfl
        exact ⟨e2, t2, s2, hR2, .more i j t1 s1 hrun hm hw hl⟩
      | exit id =>
        simp only [LoopRD] at hR
        split at hR
        · rename_i r hr
          unfold RunD at hR
          obtain ⟨e2, t2, s2, hR2, hrun2⟩ := hR
          refine ⟨e2, t2, s2, hR2, .out i _ t1 s1 hrun ?_⟩
          simp only [LoopR, hr]; exact hrun2
        · rename_i hr
          refine ⟨_, t1, s1, hR, .out i _ t1 s1 hrun ?_⟩
          simp only [LoopR, hr]; exact ⟨trivial, trivial, trivial⟩
      | ret => exact ⟨_, t1, s1, hR, .out i _ t1 s1 hrun ⟨rfl, rfl, rfl⟩⟩
      | _ => exact hR.elim
  obtain ⟨e, t1, s1, hR, hl⟩ := key _ i0 rfl
  unfold LoopRunD
  exact .intro (hl.run h0) hR

/-- a loop: the slots 'keep' and the objects below n are as they were before it, but for what U and V say; under an invariant -/
theorem loop_invD {ι : Type} (I : ι → Prop) (keep : List Nat) (n : Nat) (U : ι → List (Nat × AV)) (V : ι → List (Nat × VObj)) (μ : ι → Nat) (i0 : ι) {t : List AV} {s : List VObj} {body : Code} {todo : List VItem} (hl : N.l ≤ n) (hn : N.v ≤ n)
    (h0 : updT (canonT N.v keep n s t) (U i0) = canonT N.v keep n s t) (h1 : updS (canonS N.v n s) (V i0) = canonS N.v n s) (hI : I i0)
    (round : ∀ i, I i → RunD P N ⟨updT (canonT N.v keep n s t) (U i), updS (canonS N.v n s) (V i), [.code body]⟩
      (LoopRD P N todo R fun t' s' => ∃ j, I j ∧ μ j < μ i ∧ canonT N.v keep n s' t' = updT (canonT N.v keep n s t) (U j) ∧ canonS N.v n s' = updS (canonS N.v n s) (V j))) : LoopRunD P N body ⟨t, s, todo⟩ R := by
  refine loop_ruleD (ι := { i : ι // I i }) (fun i => updT (canonT N.v keep n s t) (U i.1)) (fun i => updS (canonS N.v n s) (V i.1)) (fun i => μ i.1) ⟨i0, hI⟩ (weak_canon keep hl hn h0.symm h1.symm) fun i => (round i.1 i.2).mono fun e t' s' h => ?_
  cases e with
  | normal =>
    obtain ⟨j, q0, q1, q2, q3⟩ := h
    exact ⟨⟨j, q0⟩, q1, weak_canon keep hl hn q2 q3⟩
  | _ => exact h

theorem loop_promoteD {k esz : Nat} {full : Bool} {t : List AV} {s : List VObj} {body : Code} {todo : List VItem} (hk : t[k]? = some (.sl (some true) full [])) (h0 : 0 < esz) (h : LoopRunD P N body ⟨t.set k (.sall s.length 0), setO s s.length (.arr 0 esz none [] false), todo⟩ R) :
    LoopRunD P N body ⟨t, s, todo⟩ R := by
  unfold LoopRunD at h ⊢
  exact h.map fun R' => run_weak (weak_promote hk h0) (fun x r e => by cases e; rfl)

/-- rounds one by one, n at the most -/
def LoopFD (P : Program) (N : NN) (body : Code) (todo : List VItem) (R : Exit → List AV → List VObj → Prop) : Nat → List AV → List VObj → Prop
  | 0, _, _ => False
  | n + 1, t, s => RunD P N ⟨t, s, [.code body]⟩ (LoopRD P N todo R (LoopFD P N body todo R n))

theorem loop_fuelD (n : Nat) {t : List AV} {s : List VObj} {body : Code} {todo : List VItem} (h : LoopFD P N body todo R n t s) : LoopRunD P N body ⟨t, s, todo⟩ R := by
  refine loop_ruleD (ι := { x : Nat × List AV × List VObj // LoopFD P N body todo R x.1 x.2.1 x.2.2 }) (fun x => x.1.2.1) (fun x => x.1.2.2) (fun x => x.1.1) ⟨(n, t, s), h⟩ (Weak.refl t s) fun x => ?_
  obtain ⟨⟨m, t1, s1⟩, hx⟩ := x
  cases m with
  | zero => exact hx.elim
  | succ m =>
    refine RunD.mono (show RunD P N ⟨t1, s1, [.code body]⟩ (LoopRD P N todo R (LoopFD P N body todo R m)) from hx) fun e t' s' he => ?_
    cases e with
    | normal => exact ⟨⟨(m, t', s'), he⟩, Nat.lt_succ_self m, Weak.refl t' s'⟩
    | _ => exact he

theorem contractD {E : Env} (hE : E.Fits P) {fid : FuncId} {fn : Func} {args : List AV} {v : AV} (hk : Known P fid fn) (h : RunD P ⟨0, 0⟩ (start fn args) (RetR E fn.results.toList v)) : PureCall P fid args v := contract hE hk h.run

end
end Go.Proofs.YtllpenkgaomdfaaDoor.Vm
/- Calls that are walked in place, over the caller's own objects. -/
set_option linter.all false
namespace Go.Proofs.YtllpenkgaomdfaaDoor.Vm
open Go
variable [Tabs]

/-- a value leads into these objects alone -/
def sub : Nat → List Nat → AV → Bool
  | _, ids, .ptr id _ => ids.contains id
  | _, ids, .eptr id _ _ _ _ => ids.contains id
  | _, ids, .sall id _ => ids.contains id
  | _, ids, .sref id _ _ _ _ => ids.contains id
  | _, ids, .map id => ids.contains id
  | n + 1, ids, .agg cs => cs.all (sub n ids)
  | n + 1, ids, .tuple cs => cs.all (sub n ids)
  | n + 1, ids, .func _ a b => a.all (sub n ids) && b.all (sub n ids)
  | n + 1, ids, .iface _ x => sub n ids x
  | n + 1, ids, .vptr cs _ => cs.all (sub n ids)
  | 0, _, .agg _ => false
  | 0, _, .tuple _ => false
  | 0, _, .func .. => false
  | 0, _, .iface .. => false
  | 0, _, .vptr .. => false
  | _, _, _ => true

def onlyG (g : Gh) (ids : List Nat) : Gh := ⟨fun id => if id ∈ ids then g.loc id else none, fun id => if id ∈ ids then g.hdr id else none, g.stab⟩

theorem Rel.only {g : Gh} {w : World} {ids : List Nat} : ∀ (n : Nat) {x : AV} {v : Value}, Rel g w x v → sub n ids x = true → Rel (onlyG g ids) w x v := by
  intro n
  induction n with
  | zero =>
    intro x v h hs
    cases h with
    | ptr h => have : _ ∈ ids := List.contains_iff_mem.1 hs; exact .ptr (by simp only [onlyG, if_pos this]; exact h)
    | eptr h1 h2 h3 => have : _ ∈ ids := List.contains_iff_mem.1 hs; exact .eptr (by simp only [onlyG, if_pos this]; exact h1) h2 h3
    | sall h1 h2 h3 => have : _ ∈ ids := List.contains_iff_mem.1 hs; exact .sall (by simp only [onlyG, if_pos this]; exact h1) h2 h3
    | sref h1 h2 h3 => have : _ ∈ ids := List.contains_iff_mem.1 hs; exact .sref (by simp only [onlyG, if_pos this]; exact h1) h2 h3
    | map h => have : _ ∈ ids := List.contains_iff_mem.1 hs; exact .map (by simp only [onlyG, if_pos this]; exact h)
    | sl vs h0 h1 h2 h3 h4 h5 h6 => exact Rel.pureG (g := g) (g' := onlyG g ids) (fun _ _ h => h) (.sl vs h0 h1 h2 h3 h4 h5 h6) rfl
    | dead => exact .dead _
    | bool => exact .bool _
    | kb => exact .kb _
    | int => exact .int _ _
    | str => exact .str _
    | nilptr => exact .nilptr
    | slnil h h' => exact .slnil h h'
    | nilmap => exact .nilmap
    | nilfunc => exact .nilfunc
    | nilif => exact .nilif
    | _ => exact nomatch hs
  | succ n ih =>
    intro x v h hs
    cases h with
    | ptr h => have : _ ∈ ids := List.contains_iff_mem.1 hs; exact .ptr (by simp only [onlyG, if_pos this]; exact h)
    | eptr h1 h2 h3 => have : _ ∈ ids := List.contains_iff_mem.1 hs; exact .eptr (by simp only [onlyG, if_pos this]; exact h1) h2 h3
    | sall h1 h2 h3 => have : _ ∈ ids := List.contains_iff_mem.1 hs; exact .sall (by simp only [onlyG, if_pos this]; exact h1) h2 h3
    | sref h1 h2 h3 => have : _ ∈ ids := List.contains_iff_mem.1 hs; exact .sref (by simp only [onlyG, if_pos this]; exact h1) h2 h3
    | map h => have : _ ∈ ids := List.contains_iff_mem.1 hs; exact .map (by simp only [onlyG, if_pos this]; exact h)
    | sl vs h0 h1 h2 h3 h4 h5 h6 => exact Rel.pureG (g := g) (g' := onlyG g ids) (fun _ _ h => h) (.sl vs h0 h1 h2 h3 h4 h5 h6) rfl
    | dead => exact .dead _
    | bool => exact .bool _
    | kb => exact .kb _
    | int => exact .int _ _
    | str => exact .str _
    | nilptr => exact .nilptr
    | slnil h h' => exact .slnil h h'
    | nilmap => exact .nilmap
    | nilfunc => exact .nilfunc
    | nilif => exact .nilif
    | agg h1 h2 => exact .agg h1 fun i x v hx hv => ih (h2 i x v hx hv) (List.all_eq_true.1 hs x (List.mem_of_getElem? hx))
    | tuple h1 h2 => exact .tuple h1 fun i x v hx hv => ih (h2 i x v hx hv) (List.all_eq_true.1 hs x (List.mem_of_getElem? hx))
    | func h1 h2 h3 h4 =>
      simp only [sub, Bool.and_eq_true] at hs
      exact .func h1 h2 (fun i x v hx hv => ih (h3 i x v hx hv) (List.all_eq_true.1 hs.1 x (List.mem_of_getElem? hx))) (fun i x v hx hv => ih (h4 i x v hx hv) (List.all_eq_true.1 hs.2 x (List.mem_of_getElem? hx)))
    | iface h => exact .iface (ih h hs)
    | vptr vs h1 h2 h3 => exact .vptr vs h1 (fun j c hc => ih (h2 j c hc) (List.all_eq_true.1 hs c (List.mem_of_getElem? hc))) h3

/-- .. and so what an object holds -/
def subO (ids : List Nat) : VObj → Bool
  | .box cs _ => cs.all (sub 4 ids)
  | .tbox _ cs => cs.all (sub 4 ids)
  | _ => true

/-- the objects of a list, and no others -/
def maskS (ids : List Nat) : Nat → List VObj → List VObj
  | _, [] => []
  | i, o :: s => (match ids.contains i with | true => o | false => .gone) :: maskS ids (i + 1) s

theorem getO_maskS (ids : List Nat) : ∀ (s : List VObj) (i k : Nat), getO (maskS ids i s) k = if i + k ∈ ids then getO s k else .gone := by
  intro s
  induction s with
  | nil => intro i k; simp [maskS, getO]
  | cons o s ih =>
    intro i k
    cases k with
    | zero =>
      simp only [maskS, getO, List.getD_cons_zero, Nat.add_zero]
      by_cases h : i ∈ ids
      · rw [if_pos h, List.contains_iff_mem.2 h]
      · rw [if_neg h]
        cases hc : ids.contains i with
        | true => exact (h (List.contains_iff_mem.1 hc)).elim
        | false => rfl
    | succ k =>
      have := ih (i + 1) k
      simp only [getO] at this ⊢
      simp only [maskS, List.getD_cons_succ, this]
      rw [show i + 1 + k = i + (k + 1) by omega]

/-- where what a call may touch is found: the objects that values lead to -/
def refsN : Nat → AV → List Nat
  | _, .ptr id _ => [id]
  | _, .eptr id _ _ _ _ => [id]
  | _, .sall id _ => [id]
  | _, .sref id _ _ _ _ => [id]
  | _, .map id => [id]
  | n + 1, .agg cs => cs.flatMap (refsN n)
  | n + 1, .tuple cs => cs.flatMap (refsN n)
  | n + 1, .func _ a b => a.flatMap (refsN n) ++ b.flatMap (refsN n)
  | n + 1, .iface _ x => refsN n x
  | n + 1, .vptr cs _ => cs.flatMap (refsN n)
  | _, _ => []
def refsObj : VObj → List Nat
  | .box cs _ => cs.flatMap (refsN 4)
  | .tbox _ cs => cs.flatMap (refsN 4)
  | _ => []
def addNew (l : List Nat) : List Nat → List Nat
  | [] => l
  | i :: r => match l.contains i with
    | true => addNew l r
    | false => addNew (l ++ [i]) r
/-- fuel, done, to do -/
def reach (s : List VObj) : Nat → List Nat → List Nat → List Nat
  | 0, d, _ => d
  | _, d, [] => d
  | n + 1, d, i :: r => match d.contains i with
    | true => reach s n d r
    | false => reach s n (d ++ [i]) (refsObj (getO s i) ++ r)
def reachA (s : List VObj) (args : List AV) : List Nat := reach s 60 [] (args.flatMap (refsN 4))

def goneOut (ids : List Nat) (s2 : List VObj) : Nat → Bool
  | 0 => true
  | n + 1 => (match ids.contains n with
    | true => true
    | false => match getO s2 n with
      | .gone => true
      | _ => false) && goneOut ids s2 n

theorem goneOut_spec {ids : List Nat} {s2 : List VObj} : ∀ {n : Nat}, goneOut ids s2 n = true → ∀ k, k < n → k ∉ ids → getO s2 k = .gone := by
  intro n
  induction n with
  | zero => intro _ k hk; omega
  | succ n ih =>
    intro h k hk hn
    simp only [goneOut, Bool.and_eq_true] at h
    by_cases e : k = n
    · subst e
      cases hc : ids.contains k with
      | true => exact (hn (List.contains_iff_mem.1 hc)).elim
      | false =>
        rw [hc] at h
        obtain ⟨h1, _⟩ := h
        dsimp only at h1
        split at h1
        · assumption
        · exact nomatch h1
    · exact ih h.2 k (by omega) hn

/-- the caller's objects, behind the call -/
def backS (ids : List Nat) (s2 : List VObj) : Nat → List VObj → List VObj
  | k, [] => s2.drop k
  | k, o :: s => (match ids.contains k with | true => getO s2 k | false => o) :: backS ids s2 (k + 1) s

theorem getO_backS (ids : List Nat) (s2 : List VObj) : ∀ (s : List VObj) (k i : Nat), getO (backS ids s2 k s) i = if i < s.length then (if k + i ∈ ids then getO s2 (k + i) else getO s i) else getO s2 (k + i) := by
  intro s
  induction s with
  | nil => intro k i; simp [backS, getO, List.getD_eq_getElem?_getD, List.getElem?_drop]
  | cons o s ih =>
    intro k i
    cases i with
    | zero =>
      simp only [backS, getO, List.getD_cons_zero, Nat.add_zero, List.length_cons, if_pos (Nat.succ_pos _)]
      by_cases h : k ∈ ids
      · rw [if_pos h, List.contains_iff_mem.2 h]
      · rw [if_neg h]
        cases hc : ids.contains k with
        | true => exact (h (List.contains_iff_mem.1 hc)).elim
        | false => rfl
    | succ i =>
      have := ih (k + 1) i
      simp only [getO] at this ⊢
      simp only [backS, List.getD_cons_succ, this, List.length_cons, Nat.succ_lt_succ_iff]
      rw [show k + 1 + i = k + (i + 1) by omega]

def newIds (n : Nat) : Nat → List Nat
  | 0 => []
  | m + 1 => n :: newIds (n + 1) m
theorem mem_newIds : ∀ (m n i : Nat), i ∈ newIds n m ↔ n ≤ i ∧ i < n + m := by
  intro m
  induction m with
  | zero => intro n i; simp [newIds]
  | succ m ih => intro n i; simp only [newIds, List.mem_cons, ih]; omega

/-- what a call that is walked in place must end in -/
def InR (E : Env) (rs : List ResultVar) (ids : List Nat) (s : List VObj) (R : AV → List VObj → FP → Prop) (e : Exit) (t : List AV) (s2 : List VObj) : Prop :=
  match e with
  | .ret => match resO E rs t s2, goneOut ids s2 s.length with
    | some v, true => R v (backS ids s2 0 s) ⟨[], ids ++ newIds s.length (s2.length - s.length)⟩
    | _, _ => False
  | .normal => match resO E rs t s2, goneOut ids s2 s.length with
    | some v, true => R v (backS ids s2 0 s) ⟨[], ids ++ newIds s.length (s2.length - s.length)⟩
    | _, _ => False
  | _ => False

def startIn (fn : Func) (args : List AV) (s : List VObj) : Cfg := ⟨args ++ List.replicate (fn.ntmps - args.length) .dead, s, [.code (fn.body.getD .skip)]⟩

theorem blk_only {g : Gh} {ids : List Nat} {id b : Nat} : blk (onlyG g ids) id b ↔ id ∈ ids ∧ blk g id b := by
  unfold blk onlyG
  by_cases h : id ∈ ids
  · simp [h]
  · simp [h]

theorem ObjRel.sub {g g' : Gh} {w : World} {id : Nat} {o : VObj} (hl : g'.loc id = g.loc id) (hh : g'.hdr id = g.hdr id) (hst : ∀ b x, g'.stab b x ↔ g.stab b x)
    (r : ObjRel g w id o) (hbox : ∀ cs fz, o = .box cs fz → ∀ c ∈ cs, ∀ v, Rel g w c v → Rel g' w c v) (htb : ∀ T cs, o = .tbox T cs → ∀ c ∈ cs, ∀ v, Rel g w c v → Rel g' w c v) : ObjRel g' w id o := by
  cases o with
  | gone => exact ⟨hl.trans r.1, hh.trans r.2⟩
  | box cs fz =>
    obtain ⟨h1, b, o, vs, h2, h3, h4, h5, h6, h7⟩ := r
    exact ⟨hh.trans h1, b, o, vs, hl.trans h2, h3, h4, fun j c hc => ⟨(h5 j c hc).1, hbox cs fz rfl c (List.mem_of_getElem? hc) _ (h5 j c hc).2⟩, fun hf j hj => (hst _ _).2 (h6 hf j hj), fun hf x hx => h7 hf x ((hst _ _).1 hx)⟩
  | arr ver esz nn es fz =>
    obtain ⟨h1, h2, h3, h3', h4⟩ := r
    refine ⟨hl.trans h1, h2, h3, h3', ?_⟩
    rcases h4 with ⟨a, k1, k2, k3⟩ | ⟨b, o, cap, vs, k1, k0, k2, k3, k4, k5, k6, k7, k8, k9⟩
    · exact .inl ⟨a, hh.trans k1, k2, k3⟩
    · exact .inr ⟨b, o, cap, vs, hh.trans k1, k0, k2, k3, k4, k5, k6, fun i c j x hi hj => ⟨(k7 i c j x hi hj).1, (k7 i c j x hi hj).2.pureG (fun b o h => (hst b o).2 h) (h2 c (List.mem_of_getElem? hi) x (List.mem_of_getElem? hj))⟩,
        fun hf => ⟨fun i j hi hj => (hst _ _).2 ((k8 hf).1 i j hi hj), fun x hx hs => (k8 hf).2 x hx ((hst _ _).1 hs)⟩, fun hf x hx => k9 hf x ((hst _ _).1 hx)⟩
  | map kt vt es =>
    obtain ⟨h1, b, clock, en, h2, h3, h4, h5, h6, h7, h8⟩ := r
    exact ⟨hh.trans h1, b, clock, en, hl.trans h2, h3, h4, h5, fun i x e hx he => ⟨(h6 i x e hx he).1.flatG (fun b o h => (hst b o).2 h) (h7 x (List.mem_of_getElem? hx)).1, (h6 i x e hx he).2.flatG (fun b o h => (hst b o).2 h) (h7 x (List.mem_of_getElem? hx)).2⟩, h7, fun x hx => h8 x ((hst _ _).1 hx)⟩
  | tbox T cs =>
    obtain ⟨h1, b, vs, h2, h3, h4, h5, h6, h7⟩ := r
    exact ⟨hh.trans h1, b, vs, hl.trans h2, h3, h4, h5, fun j c hc => ⟨(h6 j c hc).1, htb T cs rfl c (List.mem_of_getElem? hc) _ (h6 j c hc).2⟩, fun x hx => h7 x ((hst _ _).1 hx)⟩
  | buf T ver bs =>
    obtain ⟨h1, b, cap, k1, k0, k2, k3, k4, k5, k6, k7, k8⟩ := r
    exact ⟨hl.trans h1, b, cap, hh.trans k1, k0, k2, k3, k4, k5, k6, k7, fun x hx => k8 x ((hst _ _).1 hx)⟩
  | spent ver =>
    obtain ⟨h1, b, n, cap, k1, k2⟩ := r
    exact ⟨hl.trans h1, b, n, cap, hh.trans k1, k2⟩

section
variable {P : Program} {E : Env}

theorem vcall_in (hE : E.Fits P) {fid : FuncId} {fn : Func} {args : List AV} {s : List VObj} {R : AV → List VObj → FP → Prop} (hk : Known P fid fn) (ids : List Nat)
    (hi : ids.all (fun i => Nat.blt i s.length && subO ids (getO s i)) = true) (ha : args.all (sub 4 ids) = true)
    (h : RunD P ⟨s.length, s.length⟩ (startIn fn args (maskS ids 0 s)) (InR E fn.results.toList ids s R)) : VCall P fid args s R := by
  have hi1 : ∀ i ∈ ids, i < s.length ∧ subO ids (getO s i) = true := fun i hm => by
    have := List.all_eq_true.1 hi i hm
    rw [Bool.and_eq_true] at this
    exact ⟨Nat.le_of_ble_eq_true this.1, this.2⟩
  unfold RunD at h
  obtain ⟨e, t2, s2, hR, hrun⟩ := h
  have hR : ∃ v, (e = .ret ∨ e = .normal) ∧ resO E fn.results.toList t2 s2 = some v ∧ goneOut ids s2 s.length = true ∧ R v (backS ids s2 0 s) ⟨[], ids ++ newIds s.length (s2.length - s.length)⟩ := by
    cases e with
    | ret =>
      simp only [InR] at hR
      split at hR
      · exact ⟨_, .inl rfl, ‹_›, ‹_›, hR⟩
      · exact hR.elim
    | normal =>
      simp only [InR] at hR
      split at hR
      · exact ⟨_, .inr rfl, ‹_›, ‹_›, hR⟩
      · exact hR.elim
    | _ => exact hR.elim
  obtain ⟨v, hee, hres, hgo, hR⟩ := hR
  have hgo := goneOut_spec hgo
  unfold VCall
  have hwr : ∀ id, id ∈ ids ++ newIds s.length (s2.length - s.length) ↔ id ∈ ids ∨ (s.length ≤ id ∧ id < s2.length) := fun id => by
    rw [List.mem_append, mem_newIds]
    constructor
    · rintro (h | h)
      · exact .inl h
      · exact .inr (by omega)
    · rintro (h | h)
      · exact .inl h
      · exact .inr (by omega)
  have hgone : ∀ id, ¬ (id ∈ ids ++ newIds s.length (s2.length - s.length)) → getO s2 id = .gone := fun id hn => by
    rw [hwr] at hn
    by_cases h1 : id < s.length
    · exact hgo id h1 fun h => hn (.inl h)
    · have : s2.length ≤ id := by
        rcases Nat.lt_or_ge id s2.length with h | h
        · exact (hn (.inr ⟨by omega, h⟩)).elim
        · exact h
      simp [getO, this]
  have hback : ∀ id, getO (backS ids s2 0 s) id = if id ∈ ids ++ newIds s.length (s2.length - s.length) then getO s2 id else getO s id := fun id => by
    rw [getO_backS, Nat.zero_add]
    by_cases h1 : id < s.length
    · rw [if_pos h1]
      by_cases h2 : id ∈ ids
      · rw [if_pos h2, if_pos ((hwr id).2 (.inl h2))]
      · rw [if_neg h2, if_neg (fun h => by rcases (hwr id).1 h with h | h; exact h2 h; omega)]
    · rw [if_neg h1]
      by_cases h2 : id ∈ ids ++ newIds s.length (s2.length - s.length)
      · rw [if_pos h2]
      · rw [if_neg h2, hgone id h2]
        have : s.length ≤ id := by omega
        simp [getO, this]
  refine ⟨v, _, _, hR, fun id hid => by rw [hback, if_neg hid], ⟨fn, hk.funcs, hk.body, hk.name⟩, fun B g w vals σ hB hl hrel hag hs htab => ?_⟩
  have hag : ∀ id, id ∈ ids ++ newIds s.length (s2.length - s.length) → σ id = getO s id := fun id h => hag id (.inr h)
  obtain ⟨c, hc⟩ := Option.isSome_iff_exists.1 hk.body
  let g0 := onlyG g ids
  let B0 : Nat → Prop := fun b => (∃ id ∈ ids, blk g id b) ∨ w.heap.size ≤ b
  have hni : ∀ id, s.length ≤ id → id ∉ ids := fun id hid h => by have := (hi1 id h).1; omega
  have hfrm : Frm ⟨s.length, s.length⟩ B0 g0 w := ⟨fun _ h => .inr h, fun id hid => by simp only [g0, onlyG, if_neg (hni id hid)], fun id hid => by simp only [g0, onlyG, if_neg (hni id hid)], htab⟩
  have hS : StRel B0 g0 w g0 w (args ++ List.replicate (fn.ntmps - args.length) .dead) (maskS ids 0 s) { tmps := vals ++ Array.replicate (fn.ntmps - vals.size) undef, defers := [] } := by
    refine ⟨Ext.refl _ _ _, ⟨fun id => ?_, fun i j b h1 h2 => ?_, fun id b h => ?_, hs.sb⟩, ⟨by simp [hl], fun i x u hx hu => ?_⟩, rfl⟩
    · rw [getO_maskS, Nat.zero_add]
      by_cases hm : id ∈ ids
      · rw [if_pos hm]
        have ho := hs.obj id
        rw [hag id (List.mem_append_left _ hm)] at ho
        refine ObjRel.sub (g := g) (g' := g0) (by simp only [g0, onlyG, if_pos hm]) (by simp only [g0, onlyG, if_pos hm]) (fun _ _ => Iff.rfl) (r := ho) (fun cs fz he c hc v hv => ?_) (fun T cs he c hc v hv => ?_)
        · have := (hi1 id hm).2
          rw [he] at this
          exact hv.only 4 (List.all_eq_true.1 this c hc)
        · have := (hi1 id hm).2
          rw [he] at this
          exact hv.only 4 (List.all_eq_true.1 this c hc)
      · rw [if_neg hm]
        exact ⟨by simp only [g0, onlyG, if_neg hm], by simp only [g0, onlyG, if_neg hm]⟩
    · exact hs.apart i j b (blk_only.1 h1).2 (blk_only.1 h2).2
    · exact .inl ⟨id, (blk_only.1 h).1, (blk_only.1 h).2⟩
    · rw [List.getElem?_append] at hx
      rw [Array.getElem?_append] at hu
      by_cases hil : i < args.length
      · rw [if_pos hil] at hx
        rw [if_pos (by omega)] at hu
        exact (hrel i x u hx hu).only 4 (List.all_eq_true.1 ha x (List.mem_of_getElem? hx))
      · rw [if_neg hil, List.getElem?_replicate] at hx
        split at hx
        · cases hx; exact .dead _
        · exact nomatch hx
  have hw := run_elim (t := args ++ List.replicate (fn.ntmps - args.length) .dead) (s := maskS ids 0 s) (todo := [.code c]) (by rw [startIn, hc] at hrun; exact hrun) rfl hfrm hS
  refine calls_of_wp hk.funcs hc (wp_mono (show c.wp P _ _ _ from hw) fun e' a w' he => ?_)
  have key : ∀ e', after P (conc B0 g0 w fun e' t' s' => e' = e ∧ t' = t2 ∧ s' = s2) [] e' a w' → (e' = .ret ∨ e' = .normal) ∧ a.defers = [] ∧ ∃ u, (results fn a.tmps).run P w' = .ok u w' ∧ ∃ g2 val, Ending.returned u = .returned val ∧ Ext B g w g2 w' ∧ RelS B g2 w' (over σ (getO (backS ids s2 0 s)) (ids ++ newIds s.length (s2.length - s.length))) ∧ Rel g2 w' v val := by
    rintro e' ⟨t', s', g1, hS', rfl, rfl, rfl⟩
    obtain ⟨u, hrunr, hval⟩ := run_results hE hS'.rs hS'.rt rfl hres
    refine ⟨hee, hS'.defers, u, hrunr, ?_⟩
    have hdec : ∀ id : Nat, Decidable (id ∈ ids ++ newIds s.length (s'.length - s.length)) := fun _ => inferInstance
    let g2 : Gh := ⟨fun id => if id ∈ ids ++ newIds s.length (s'.length - s.length) then g1.loc id else g.loc id, fun id => if id ∈ ids ++ newIds s.length (s'.length - s.length) then g1.hdr id else g.hdr id, g1.stab⟩
    have h0 := hS'.ext
    have hnew : ∀ id, id ∈ ids ++ newIds s.length (s'.length - s.length) → id ∉ ids → g.loc id = none ∧ g.hdr id = none := fun id hm hn => by
      have := hs.obj id
      rw [hag id hm] at this
      have hge : s.length ≤ id := by rcases (hwr id).1 hm with h | h; exact (hn h).elim; exact h.1
      rw [show getO s id = .gone by simp [getO, hge]] at this
      exact this
    have hblk0 : ∀ b, B0 b → B b := fun b hb => by
      rcases hb with ⟨id, hm, hb⟩ | hb
      · exact hs.inB id b hb
      · exact hB b hb
    have hnone : ∀ id, id ∉ ids ++ newIds s.length (s'.length - s.length) → g1.loc id = none ∧ g1.hdr id = none := fun id hn => by
      have := hS'.rs.obj id
      rw [hgone id hn] at this
      exact this
    -- from the callee's ghost to the merged one
    have e12 : Ext B0 g1 w' g2 w' :=
      { size := Nat.le_refl _
        stab := fun _ _ h => h
        same := fun _ _ _ => rfl
        keep := fun _ _ => rfl
        keepS := fun _ _ _ h => h
        loc := fun id x hx => by
          by_cases hm : id ∈ ids ++ newIds s.length (s'.length - s.length)
          · simp only [g2, if_pos hm]; exact hx
          · rw [(hnone id hm).1] at hx; exact nomatch hx
        hdr := fun id ver hd hx => by
          by_cases hm : id ∈ ids ++ newIds s.length (s'.length - s.length)
          · exact ⟨ver, hd, by simp only [g2, if_pos hm]; exact hx, Nat.le_refl _, fun _ => rfl⟩
          · rw [(hnone id hm).2] at hx; exact nomatch hx
        low := Low.refl _ }
    have e02 : Ext B g w g2 w' :=
      { size := h0.size
        stab := h0.stab
        same := h0.same
        keep := fun b hb => h0.keep b fun h => hb (hblk0 b h)
        keepS := fun b o hb h => h0.keepS b o (fun h => hb (hblk0 b h)) h
        loc := fun id x hx => by
          by_cases hm : id ∈ ids ++ newIds s.length (s'.length - s.length)
          · simp only [g2, if_pos hm]
            by_cases hn : id ∈ ids
            · exact h0.loc id x (by simp only [g0, onlyG, if_pos hn]; exact hx)
            · rw [(hnew id hm hn).1] at hx; exact nomatch hx
          · simp only [g2, if_neg hm]; exact hx
        hdr := fun id ver hd hx => by
          by_cases hm : id ∈ ids ++ newIds s.length (s'.length - s.length)
          · simp only [g2, if_pos hm]
            by_cases hn : id ∈ ids
            · exact h0.hdr id ver hd (by simp only [g0, onlyG, if_pos hn]; exact hx)
            · rw [(hnew id hm hn).2] at hx; exact nomatch hx
          · exact ⟨ver, hd, by simp only [g2, if_neg hm]; exact hx, Nat.le_refl _, fun _ => rfl⟩
        low := h0.low }
    have hb1 : ∀ id b, id ∈ ids ++ newIds s.length (s'.length - s.length) → blk g2 id b → blk g1 id b := fun id b hm h => by
      unfold blk at h ⊢
      simp only [g2, if_pos hm] at h; exact h
    have hb2 : ∀ id b, id ∉ ids ++ newIds s.length (s'.length - s.length) → blk g2 id b → blk g id b := fun id b hm h => by
      unfold blk at h ⊢
      simp only [g2, if_neg hm] at h; exact h
    have hout : ∀ id b, id ∉ ids ++ newIds s.length (s'.length - s.length) → blk g id b → ¬ B0 b := fun id b hm h hb => by
      rcases hb with ⟨id', hm', hb⟩ | hb
      · have := hs.apart id id' b h hb
        subst this; exact hm (List.mem_append_left _ hm')
      · have := hs.lt h; omega
    refine ⟨g2, u, rfl, e02, ⟨fun id => ?_, fun i j b h1 h2 => ?_, fun id b h => ?_, fun b x h => hS'.rs.sb b x h⟩, hval.mono e12⟩
    · unfold over
      by_cases hm : id ∈ ids ++ newIds s.length (s'.length - s.length)
      · rw [if_pos hm, hback, if_pos hm]
        exact (hS'.rs.obj id).keep e12 (by simp only [g2, if_pos hm]) (by simp only [g2, if_pos hm]) fun b _ => ⟨rfl, fun _ => Iff.rfl⟩
      · rw [if_neg hm]
        refine (hs.obj id).keep e02 (by simp only [g2, if_neg hm]) (by simp only [g2, if_neg hm]) fun b hk => ?_
        have hnb := hout id b hm hk
        exact ⟨h0.keep b hnb, fun x => ⟨fun h => h0.keepS b x hnb h, fun h => h0.stab b x h⟩⟩
    · by_cases hi' : i ∈ ids ++ newIds s.length (s'.length - s.length)
      · by_cases hj' : j ∈ ids ++ newIds s.length (s'.length - s.length)
        · exact hS'.rs.apart i j b (hb1 i b hi' h1) (hb1 j b hj' h2)
        · exact (hout j b hj' (hb2 j b hj' h2) (hS'.rs.inB i b (hb1 i b hi' h1))).elim
      · by_cases hj' : j ∈ ids ++ newIds s.length (s'.length - s.length)
        · exact (hout i b hi' (hb2 i b hi' h1) (hS'.rs.inB j b (hb1 j b hj' h2))).elim
        · exact hs.apart i j b (hb2 i b hi' h1) (hb2 j b hj' h2)
    · by_cases hm : id ∈ ids ++ newIds s.length (s'.length - s.length)
      · exact hblk0 b (hS'.rs.inB id b (hb1 id b hm h))
      · exact hs.inB id b (hb2 id b hm h)
  cases e' with
  | normal => exact (key _ he).2
  | ret => exact (key _ he).2
  | _ => obtain ⟨h, _⟩ := key _ he; rcases h with h | h <;> exact nomatch h

end
end Go.Proofs.YtllpenkgaomdfaaDoor.Vm
/- Contracts of functions that are handed objects; their use over any store. -/
set_option linter.all false
namespace Go.Proofs.YtllpenkgaomdfaaDoor.Vm
open Go
variable [Tabs]

/-- the ghost as a callee's run may take it for given: where variables lie; where keep, the slices' heads too -/
def g0O (keep : Bool) (g : Gh) : Gh := ⟨g.loc, if keep then g.hdr else fun _ => none, g.stab⟩

/-- a function that is handed the objects s (and no others), in an order of their own, with versions 0, and leaves s2 -/
def ObjCall (P : Program) (keep : Bool) (fid : FuncId) (args : List AV) (s : List VObj) (v : AV) (s2 : List VObj) : Prop :=
  (∃ fn, P.funcs[fid]? = some fn ∧ fn.body.isSome = true ∧ (fn.name == "runtime.NumGoroutine") = false) ∧
  ∀ (B : Nat → Prop) (g : Gh) (w : World) (vals : Array Value), (∀ b, w.heap.size ≤ b → B b) → args.length = vals.size → (∀ (i : Nat) (x : AV) (u : Value), args[i]? = some x → vals[i]? = some u → Rel g w x u) → RelS B g w (getO s) → Tabs.ok g.stab w →
    Calls P fid vals w fun e w' => ∃ g' val, e = .returned val ∧ Ext B (g0O keep g) w g' w' ∧ RelS B g' w' (getO s2) ∧ Rel g' w' v val

/-- what such a function's run must end in -/
def RetO (E : Env) (rs : List ResultVar) (keep : Bool) (n : Nat) (v : AV) (s2 : List VObj) : Exit → List AV → List VObj → Prop
  | .ret, t, s => match resO E rs t s with
    | some r => nrmD s r = v ∧ canonS (cond keep n 0) n (freeze s (refsD r)) = s2
    | none => False
  | .normal, t, s => match resO E rs t s with
    | some r => nrmD s r = v ∧ canonS (cond keep n 0) n (freeze s (refsD r)) = s2
    | none => False
  | _, _, _ => False

section
variable {P : Program} {E : Env}

theorem objCall (hE : E.Fits P) {keep : Bool} {fid : FuncId} {fn : Func} {args : List AV} {s : List VObj} {v : AV} {s2 : List VObj} (hk : Known P fid fn) (h : RunD P ⟨cond keep s.length 0, s.length⟩ (startIn fn args s) (RetO E fn.results.toList keep s.length v s2)) : ObjCall P keep fid args s v s2 := by
  have h := h.run
  obtain ⟨c, hc⟩ := Option.isSome_iff_exists.1 hk.body
  refine ⟨⟨fn, hk.funcs, hk.body, hk.name⟩, fun B g w vals hB hl hrel hs htab => ?_⟩
  have hgone : ∀ id, s.length ≤ id → g.loc id = none ∧ g.hdr id = none := fun id hid => by
    have := hs.obj id
    rw [show getO s id = .gone by simp [getO, hid]] at this
    exact this
  have hfrm : Frm ⟨cond keep s.length 0, s.length⟩ B (g0O keep g) w := ⟨hB, fun id hid => (hgone id hid).1, fun id hid => by
    cases keep with
    | true => exact (hgone id hid).2
    | false => rfl, htab⟩
  have hS : StRel B (g0O keep g) w g w (args ++ List.replicate (fn.ntmps - args.length) .dead) s { tmps := vals ++ Array.replicate (fn.ntmps - vals.size) undef, defers := [] } := by
    refine ⟨{ Ext.refl B g w with loc := fun _ _ h => h, stab := fun _ _ h => h, keepS := fun _ _ _ h => h, same := fun _ _ _ => rfl, hdr := fun id ver hd e => ?_ }, hs, ⟨by simp [hl], fun i x u hx hu => ?_⟩, rfl⟩
    · cases keep with
      | true => exact ⟨ver, hd, e, Nat.le_refl _, fun _ => rfl⟩
      | false => exact nomatch e
    · rw [List.getElem?_append] at hx
      rw [Array.getElem?_append] at hu
      by_cases hil : i < args.length
      · rw [if_pos hil] at hx
        rw [if_pos (by omega)] at hu
        exact hrel i x u hx hu
      · rw [if_neg hil, List.getElem?_replicate] at hx
        split at hx
        · cases hx; exact .dead _
        · exact nomatch hx
  have hw := run_elim (t := args ++ List.replicate (fn.ntmps - args.length) .dead) (s := s) (todo := [.code c]) (by rw [startIn, hc] at h; exact h) rfl hfrm hS
  refine calls_of_wp hk.funcs hc (wp_mono (show c.wp P _ _ _ from hw) fun e a w' he => ?_)
  have key : ∀ e, e = .ret ∨ e = .normal → after P (conc B (g0O keep g) w (RetO E fn.results.toList keep s.length v s2)) [] e a w' →
      a.defers = [] ∧ ∃ u, (results fn a.tmps).run P w' = .ok u w' ∧ ∃ g' val, Ending.returned u = .returned val ∧ Ext B (g0O keep g) w g' w' ∧ RelS B g' w' (getO s2) ∧ Rel g' w' v val := by
    rintro e hee ⟨t, s', g1, hS', hR⟩
    have hR : ∃ r, resO E fn.results.toList t s' = some r ∧ nrmD s' r = v ∧ canonS (cond keep s.length 0) s.length (freeze s' (refsD r)) = s2 := by
      rcases hee with rfl | rfl
      all_goals
        simp only [RetO] at hR
        split at hR
        · rename_i r hr; exact ⟨r, hr, hR⟩
        · exact hR.elim
    obtain ⟨r, hr, rfl, rfl⟩ := hR
    obtain ⟨u, hrun, hval⟩ := run_results hE hS'.rs hS'.rt rfl hr
    refine ⟨hS'.defers, u, hrun, ?_⟩
    obtain ⟨g2, e2, r2, l2, k2⟩ := freeze_list (w := w') (g := g1) (s := s') (refsD r) hS'.rs (fun id _ => rfl)
    have hov : over (getO s') (getO (freeze s' (refsD r))) (refsD r) = getO (freeze s' (refsD r)) := by
      funext id
      unfold over
      by_cases hid : id ∈ refsD r
      · rw [if_pos hid]
      · rw [if_neg hid, getO_freeze, if_neg hid]
    have hnv := nrmD_rel (s := s') r2 (hval.mono e2) fun id hid => by simp only [over, if_pos hid, getO_freeze]
    rw [hov] at r2
    have hn : cond keep s.length 0 ≤ s.length := by cases keep <;> simp
    refine ⟨revG (cond keep s.length 0) s.length g2, u, rfl, revG_ext (M := ⟨cond keep s.length 0, s.length⟩) (Nat.le_refl _) hn hfrm (hS'.ext.trans e2), revS_rel hn r2, flatD_rel (g := g2) (g' := revG (cond keep s.length 0) s.length g2) (fun _ _ h => h) hnv (nrmD_flat s' r)⟩
  cases e with
  | normal => exact key _ (.inr rfl) he
  | ret => exact key _ (.inl rfl) he
  | _ => obtain ⟨t, s, g, _, hR⟩ := he; exact hR.elim

/-- an object's place in a list -/
def idxK : List Nat → Nat → Option Nat
  | [], _ => none
  | i :: r, id => match Nat.beq i id with
    | true => some 0
    | false => match idxK r id with
      | some k => some (k + 1)
      | none => none

theorem idxK_some : ∀ {ρ : List Nat} {id k : Nat}, idxK ρ id = some k → ρ[k]? = some id
  | [], id, k, h => nomatch h
  | i :: r, id, k, h => by
    unfold idxK at h
    split at h
    · rename_i e; cases h; rw [Nat.eq_of_beq_eq_true e]; rfl
    · split at h
      · rename_i k' hk; cases h; simpa using idxK_some hk
      · exact nomatch h
theorem idxK_none : ∀ {ρ : List Nat} {id : Nat}, idxK ρ id = none ↔ id ∉ ρ
  | [], id => by simp [idxK]
  | i :: r, id => by
    unfold idxK
    by_cases e : i = id
    · subst e; rw [show Nat.beq i i = true from Nat.beq_refl i]; simp
    · have : Nat.beq i id = false := by
        cases h : Nat.beq i id with
        | true => exact (e (Nat.eq_of_beq_eq_true h)).elim
        | false => rfl
      rw [this]
      have ih := idxK_none (ρ := r) (id := id)
      cases hk : idxK r id with
      | none => simp [ih.1 hk, Ne.symm e]
      | some k =>
        have hm : id ∈ r := Classical.byContradiction fun hn => by rw [ih.2 hn] at hk; exact nomatch hk
        simp [hm]
theorem idxK_at : ∀ {ρ : List Nat} (hn : ρ.Nodup) {id k : Nat}, ρ[k]? = some id → idxK ρ id = some k
  | [], _, id, k, h => by simp at h
  | i :: r, hn, id, k, h => by
    rw [List.nodup_cons] at hn
    unfold idxK
    cases k with
    | zero => cases h; rw [show Nat.beq i i = true from Nat.beq_refl i]
    | succ k =>
      have h : r[k]? = some id := by simpa using h
      have : Nat.beq i id = false := by
        cases hb : Nat.beq i id with
        | true => exact (hn.1 ((Nat.eq_of_beq_eq_true hb) ▸ List.mem_of_getElem? h)).elim
        | false => rfl
      rw [this, idxK_at hn.2 h]

def verO : VObj → Nat
  | .arr ver _ _ _ _ => ver
  | .buf _ ver _ => ver
  | .spent ver => ver
  | _ => 0

/-- a value of the caller's, in the callee's numbers -/
def invN (ρ : List Nat) (S : List VObj) : Nat → AV → AV
  | _, .ptr id off => match idxK ρ id with
    | some k => .ptr k off
    | none => .dead
  | _, .map id => match idxK ρ id with
    | some k => .map k
    | none => .dead
  | _, .sall id ver => match idxK ρ id, Nat.beq ver (verO (getO S id)) with
    | some k, true => .sall k 0
    | _, _ => .dead
  | _, .sref id ver esz off len => match idxK ρ id, Nat.beq ver (verO (getO S id)) with
    | some k, true => .sref k 0 esz off len
    | _, _ => .dead
  | _, .eptr id ver esz i off => match idxK ρ id, Nat.beq ver (verO (getO S id)) with
    | some k, true => .eptr k 0 esz i off
    | _, _ => .dead
  | n + 1, .agg cs => .agg (cs.map (invN ρ S n))
  | n + 1, .tuple cs => .tuple (cs.map (invN ρ S n))
  | n + 1, .func fn a b => .func fn (a.map (invN ρ S n)) (b.map (invN ρ S n))
  | n + 1, .iface t x => .iface t (invN ρ S n x)
  | n + 1, .vptr cs off => .vptr (cs.map (invN ρ S n)) off
  | 0, .agg _ => .dead
  | 0, .tuple _ => .dead
  | 0, .func .. => .dead
  | 0, .iface .. => .dead
  | 0, .vptr .. => .dead
  | _, v => v
def invO (ρ : List Nat) (S : List VObj) : VObj → VObj
  | .box cs fz => .box (cs.map (invN ρ S 3)) fz
  | .arr _ esz nn es fz => .arr 0 esz nn es fz
  | .tbox T cs => .tbox T (cs.map (invN ρ S 3))
  | .buf T _ bs => .buf T 0 bs
  | .spent _ => .spent 0
  | o => o

/-- a value of the callee's, in the caller's numbers; δ: by how much versions have gone on -/
def renN (ρ : List Nat) (δ : Nat → Nat) : Nat → AV → AV
  | _, .ptr k off => match ρ[k]? with
    | some id => .ptr id off
    | none => .dead
  | _, .map k => match ρ[k]? with
    | some id => .map id
    | none => .dead
  | _, .sall k ver => match ρ[k]? with
    | some id => .sall id (δ k + ver)
    | none => .dead
  | _, .sref k ver esz off len => match ρ[k]? with
    | some id => .sref id (δ k + ver) esz off len
    | none => .dead
  | _, .eptr k ver esz i off => match ρ[k]? with
    | some id => .eptr id (δ k + ver) esz i off
    | none => .dead
  | n + 1, .agg cs => .agg (cs.map (renN ρ δ n))
  | n + 1, .tuple cs => .tuple (cs.map (renN ρ δ n))
  | n + 1, .func fn a b => .func fn (a.map (renN ρ δ n)) (b.map (renN ρ δ n))
  | n + 1, .iface t x => .iface t (renN ρ δ n x)
  | n + 1, .vptr cs off => .vptr (cs.map (renN ρ δ n)) off
  | 0, .agg _ => .dead
  | 0, .tuple _ => .dead
  | 0, .func .. => .dead
  | 0, .iface .. => .dead
  | 0, .vptr .. => .dead
  | _, v => v
def renO (ρ : List Nat) (δ : Nat → Nat) (k : Nat) : VObj → VObj
  | .box cs fz => .box (cs.map (renN ρ δ 3)) fz
  | .arr ver esz nn es fz => .arr (δ k + ver) esz nn es fz
  | .tbox T cs => .tbox T (cs.map (renN ρ δ 3))
  | .buf T ver bs => .buf T (δ k + ver) bs
  | .spent ver => .spent (δ k + ver)
  | o => o

/-- the caller's objects behind the call -/
def putR (ρ0 : List Nat) (δ : Nat → Nat) (s2 : List VObj) : Nat → List Nat → List VObj → List VObj
  | _, [], S => S
  | k, id :: r, S => putR ρ0 δ s2 (k + 1) r (setO S id (renO ρ0 δ k (getO s2 k)))

theorem getO_putR (ρ0 : List Nat) (δ : Nat → Nat) (s2 : List VObj) : ∀ (ρ : List Nat) (k : Nat) (S : List VObj), ρ.Nodup → ∀ id, getO (putR ρ0 δ s2 k ρ S) id = match idxK ρ id with | some j => renO ρ0 δ (k + j) (getO s2 (k + j)) | none => getO S id := by
  intro ρ
  induction ρ with
  | nil => intro k S _ id; rfl
  | cons i r ih =>
    intro k S hn id
    rw [List.nodup_cons] at hn
    simp only [putR, ih (k + 1) _ hn.2, idxK]
    by_cases e : i = id
    · subst e
      rw [show Nat.beq i i = true from Nat.beq_refl i, idxK_none.2 hn.1]
      simp [getO_setO]
    · have : Nat.beq i id = false := by
        cases h : Nat.beq i id with
        | true => exact (e (Nat.eq_of_beq_eq_true h)).elim
        | false => rfl
      rw [this]
      cases hk : idxK r id with
      | none => simp [getO_setO, Ne.symm e]
      | some j => simp only []; rw [show k + 1 + j = k + (j + 1) by omega]

/-- the ghosts between caller and callee -/
def inG (ρ : List Nat) (S : List VObj) (g : Gh) : Gh := ⟨fun k => (ρ[k]?).bind g.loc, fun k => (ρ[k]?).bind fun id => (g.hdr id).map fun p => (p.1 - verO (getO S id), p.2), g.stab⟩
def outG (ρ : List Nat) (δ : Nat → Nat) (g g1 : Gh) : Gh := ⟨fun id => match idxK ρ id with | some k => g1.loc k | none => g.loc id, fun id => match idxK ρ id with | some k => (g1.hdr k).map fun p => (δ k + p.1, p.2) | none => g.hdr id, g1.stab⟩

theorem inv_rel {g : Gh} {w : World} {ρ : List Nat} {S : List VObj} (hv : ∀ id, id ∈ ρ → ∀ v h, g.hdr id = some (v, h) → v = verO (getO S id)) : ∀ (n : Nat) {x : AV} {v : Value}, Rel g w x v → Rel (inG ρ S g) w (invN ρ S n x) v := by
  have leaf : ∀ (n : Nat) {x : AV} {v : Value}, Rel g w x v → ((∃ id off, x = .ptr id off) ∨ (∃ id, x = .map id) ∨ (∃ id ver, x = .sall id ver) ∨ (∃ id ver esz off len, x = .sref id ver esz off len) ∨ ∃ id ver esz i off, x = .eptr id ver esz i off) → Rel (inG ρ S g) w (invN ρ S n x) v := by
    intro n x v h hx
    have hhdr : ∀ {id k ver0 : Nat} {h : Value}, idxK ρ id = some k → g.hdr id = some (ver0, h) → (inG ρ S g).hdr k = some (0, h) ∧ ver0 = verO (getO S id) := fun hk hh => by
      have hr := idxK_some hk
      have := hv _ (List.mem_of_getElem? hr) _ _ hh
      simp only [inG, hr, Option.bind_some, hh, Option.map_some, this, Nat.sub_self]
      exact ⟨trivial, trivial⟩
    rcases hx with ⟨id, off, rfl⟩ | ⟨id, rfl⟩ | ⟨id, ver, rfl⟩ | ⟨id, ver, esz, off, len, rfl⟩ | ⟨id, ver, esz, i, off, rfl⟩
    · have e : invN ρ S n (.ptr id off) = match idxK ρ id with | some k => .ptr k off | none => .dead := by cases n <;> rfl
      rw [e]
      obtain ⟨b, o, hl, rfl⟩ := inv_ptr h
      cases hk : idxK ρ id with
      | none => exact .dead _
      | some k => exact .ptr (by simp only [inG, idxK_some hk, Option.bind_some]; exact hl)
    · have e : invN ρ S n (.map id) = match idxK ρ id with | some k => .map k | none => .dead := by cases n <;> rfl
      rw [e]
      obtain ⟨b, hl, rfl⟩ := inv_map h
      cases hk : idxK ρ id with
      | none => exact .dead _
      | some k => exact .map (by simp only [inG, idxK_some hk, Option.bind_some]; exact hl)
    · have e : invN ρ S n (.sall id ver) = match idxK ρ id, Nat.beq ver (verO (getO S id)) with | some k, true => .sall k 0 | _, _ => .dead := by cases n <;> rfl
      rw [e]
      obtain ⟨ver0, hd, a, len, cap, h1, h2, h3, rfl⟩ := inv_sall h
      split
      · rename_i k hk hb
        obtain ⟨q1, q2⟩ := hhdr hk h1
        have := Nat.eq_of_beq_eq_true hb
        exact .sall q1 (Nat.le_refl _) fun _ => h3 (by omega)
      · exact .dead _
    · have e : invN ρ S n (.sref id ver esz off len) = match idxK ρ id, Nat.beq ver (verO (getO S id)) with | some k, true => .sref k 0 esz off len | _, _ => .dead := by cases n <;> rfl
      rw [e]
      obtain ⟨ver0, hd, a, cap, h1, h2, h3, rfl⟩ := inv_sref h
      split
      · rename_i k hk hb
        obtain ⟨q1, q2⟩ := hhdr hk h1
        have := Nat.eq_of_beq_eq_true hb
        exact .sref q1 (Nat.le_refl _) fun _ => h3 (by omega)
      · exact .dead _
    · have e : invN ρ S n (.eptr id ver esz i off) = match idxK ρ id, Nat.beq ver (verO (getO S id)) with | some k, true => .eptr k 0 esz i off | _, _ => .dead := by cases n <;> rfl
      rw [e]
      obtain ⟨ver0, hd, a, h1, h2, h3, rfl⟩ := inv_eptr h
      split
      · rename_i k hk hb
        obtain ⟨q1, q2⟩ := hhdr hk h1
        have := Nat.eq_of_beq_eq_true hb
        exact .eptr q1 (Nat.le_refl _) fun _ => h3 (by omega)
      · exact .dead _
  intro n
  induction n with
  | zero =>
    intro x v h
    cases x with
    | ptr id off => exact leaf 0 h (.inl ⟨_, _, rfl⟩)
    | map id => exact leaf 0 h (.inr (.inl ⟨_, rfl⟩))
    | sall id ver => exact leaf 0 h (.inr (.inr (.inl ⟨_, _, rfl⟩)))
    | sref id ver esz off len => exact leaf 0 h (.inr (.inr (.inr (.inl ⟨_, _, _, _, _, rfl⟩))))
    | eptr id ver esz i off => exact leaf 0 h (.inr (.inr (.inr (.inr ⟨_, _, _, _, _, rfl⟩))))
    | agg _ => exact .dead _
    | tuple _ => exact .dead _
    | func _ _ _ => exact .dead _
    | iface _ _ => exact .dead _
    | vptr _ _ => exact .dead _
    | kb b => have := rel_bool h.unkb; subst this; exact .kb b
    | _ => exact h.pureG (g := g) (g' := inG ρ S g) (fun _ _ h => h) rfl
  | succ n ih =>
    intro x v h
    have hm : ∀ (cs : List AV) (f : Nat → Value → Prop), (∀ (i : Nat) (x : AV) (v : Value), cs[i]? = some x → f i v → Rel g w x v) → ∀ (i : Nat) (x : AV) (v : Value), (cs.map (invN ρ S n))[i]? = some x → f i v → Rel (inG ρ S g) w x v := by
      intro cs f hc i x v hx hv
      rw [List.getElem?_map] at hx
      cases hi : cs[i]? with
      | none => rw [hi] at hx; exact nomatch hx
      | some y => rw [hi] at hx; cases hx; exact ih (hc i y v hi hv)
    cases x with
    | ptr id off => exact leaf _ h (.inl ⟨_, _, rfl⟩)
    | map id => exact leaf _ h (.inr (.inl ⟨_, rfl⟩))
    | sall id ver => exact leaf _ h (.inr (.inr (.inl ⟨_, _, rfl⟩)))
    | sref id ver esz off len => exact leaf _ h (.inr (.inr (.inr (.inl ⟨_, _, _, _, _, rfl⟩))))
    | eptr id ver esz i off => exact leaf _ h (.inr (.inr (.inr (.inr ⟨_, _, _, _, _, rfl⟩))))
    | agg cs =>
      obtain ⟨vs, h1, h2, rfl⟩ := inv_agg h
      exact .agg (by simpa using h1) (hm cs (fun i v => vs[i]? = some v) h2)
    | tuple cs =>
      obtain ⟨vs, h1, h2, rfl⟩ := inv_tuple h
      exact .tuple (by simpa using h1) (hm cs (fun i v => vs[i]? = some v) h2)
    | func fn first cap =>
      obtain ⟨fv, cv, h1, h2, h3, h4, rfl⟩ := inv_func h
      exact .func (by simpa using h1) (by simpa using h2) (hm first (fun i v => fv[i]? = some v) h3) (hm cap (fun i v => cv[i]? = some v) h4)
    | iface t x =>
      cases h with
      | iface h => exact .iface (ih h)
    | vptr cs off =>
      obtain ⟨b, o, vs, h1, h2, rfl⟩ := inv_vptr h
      refine .vptr vs (fun j c hc => ?_) (fun j c hc => ?_) (fun j hj => h2 j (by simpa using hj))
      · rw [List.getElem?_map] at hc
        cases hj : cs[j]? with
        | none => rw [hj] at hc; exact nomatch hc
        | some y => exact (h1 j y hj).1
      · exact hm cs (fun i v => v = vs i) (fun i x v hx hv => hv ▸ (h1 i x hx).2) j c _ hc rfl
    | kb b => have := rel_bool h.unkb; subst this; exact .kb b
    | _ => exact h.pureG (g := g) (g' := inG ρ S g) (fun _ _ h => h) rfl

theorem ren_rel {g g1 : Gh} {w : World} {ρ : List Nat} {δ : Nat → Nat} (hn : ρ.Nodup) : ∀ (n : Nat) {x : AV} {v : Value}, Rel g1 w x v → Rel (outG ρ δ g g1) w (renN ρ δ n x) v := by
  have leaf : ∀ (n : Nat) {x : AV} {v : Value}, Rel g1 w x v → ((∃ id off, x = .ptr id off) ∨ (∃ id, x = .map id) ∨ (∃ id ver, x = .sall id ver) ∨ (∃ id ver esz off len, x = .sref id ver esz off len) ∨ ∃ id ver esz i off, x = .eptr id ver esz i off) → Rel (outG ρ δ g g1) w (renN ρ δ n x) v := by
    intro n x v h hx
    have hhdr : ∀ {id k ver0 : Nat} {h : Value}, ρ[k]? = some id → g1.hdr k = some (ver0, h) → (outG ρ δ g g1).hdr id = some (δ k + ver0, h) := fun hk hh => by
      simp only [outG, idxK_at hn hk, hh, Option.map_some]
    have hloc : ∀ {id k : Nat} {p : Nat × Nat}, ρ[k]? = some id → g1.loc k = some p → (outG ρ δ g g1).loc id = some p := fun hk hh => by
      simp only [outG, idxK_at hn hk, hh]
    rcases hx with ⟨id, off, rfl⟩ | ⟨id, rfl⟩ | ⟨id, ver, rfl⟩ | ⟨id, ver, esz, off, len, rfl⟩ | ⟨id, ver, esz, i, off, rfl⟩
    · have e : renN ρ δ n (.ptr id off) = match ρ[id]? with | some k => .ptr k off | none => .dead := by cases n <;> rfl
      rw [e]
      obtain ⟨b, o, hl, rfl⟩ := inv_ptr h
      cases hk : ρ[id]? with
      | none => exact .dead _
      | some k => exact .ptr (hloc hk hl)
    · have e : renN ρ δ n (.map id) = match ρ[id]? with | some k => .map k | none => .dead := by cases n <;> rfl
      rw [e]
      obtain ⟨b, hl, rfl⟩ := inv_map h
      cases hk : ρ[id]? with
      | none => exact .dead _
      | some k => exact .map (hloc hk hl)
    · have e : renN ρ δ n (.sall id ver) = match ρ[id]? with | some k => .sall k (δ id + ver) | none => .dead := by cases n <;> rfl
      rw [e]
      obtain ⟨ver0, hd, a, len, cap, h1, h2, h3, rfl⟩ := inv_sall h
      cases hk : ρ[id]? with
      | none => exact .dead _
      | some k => exact .sall (hhdr hk h1) (by omega) fun _ => h3 (by omega)
    · have e : renN ρ δ n (.sref id ver esz off len) = match ρ[id]? with | some k => .sref k (δ id + ver) esz off len | none => .dead := by cases n <;> rfl
      rw [e]
      obtain ⟨ver0, hd, a, cap, h1, h2, h3, rfl⟩ := inv_sref h
      cases hk : ρ[id]? with
      | none => exact .dead _
      | some k => exact .sref (hhdr hk h1) (by omega) fun _ => h3 (by omega)
    · have e : renN ρ δ n (.eptr id ver esz i off) = match ρ[id]? with | some k => .eptr k (δ id + ver) esz i off | none => .dead := by cases n <;> rfl
      rw [e]
      obtain ⟨ver0, hd, a, h1, h2, h3, rfl⟩ := inv_eptr h
      cases hk : ρ[id]? with
      | none => exact .dead _
      | some k => exact .eptr (hhdr hk h1) (by omega) fun _ => h3 (by omega)
  intro n
  induction n with
  | zero =>
    intro x v h
    cases x with
    | ptr id off => exact leaf 0 h (.inl ⟨_, _, rfl⟩)
    | map id => exact leaf 0 h (.inr (.inl ⟨_, rfl⟩))
    | sall id ver => exact leaf 0 h (.inr (.inr (.inl ⟨_, _, rfl⟩)))
    | sref id ver esz off len => exact leaf 0 h (.inr (.inr (.inr (.inl ⟨_, _, _, _, _, rfl⟩))))
    | eptr id ver esz i off => exact leaf 0 h (.inr (.inr (.inr (.inr ⟨_, _, _, _, _, rfl⟩))))
    | agg _ => exact .dead _
    | tuple _ => exact .dead _
    | func _ _ _ => exact .dead _
    | iface _ _ => exact .dead _
    | vptr _ _ => exact .dead _
    | kb b => have := rel_bool h.unkb; subst this; exact .kb b
    | _ => exact h.pureG (g := g1) (g' := outG ρ δ g g1) (fun _ _ h => h) rfl
  | succ n ih =>
    intro x v h
    have hm : ∀ (cs : List AV) (f : Nat → Value → Prop), (∀ (i : Nat) (x : AV) (v : Value), cs[i]? = some x → f i v → Rel g1 w x v) → ∀ (i : Nat) (x : AV) (v : Value), (cs.map (renN ρ δ n))[i]? = some x → f i v → Rel (outG ρ δ g g1) w x v := by
      intro cs f hc i x v hx hv
      rw [List.getElem?_map] at hx
      cases hi : cs[i]? with
      | none => rw [hi] at hx; exact nomatch hx
      | some y => rw [hi] at hx; cases hx; exact ih (hc i y v hi hv)
    cases x with
    | ptr id off => exact leaf _ h (.inl ⟨_, _, rfl⟩)
    | map id => exact leaf _ h (.inr (.inl ⟨_, rfl⟩))
    | sall id ver => exact leaf _ h (.inr (.inr (.inl ⟨_, _, rfl⟩)))
    | sref id ver esz off len => exact leaf _ h (.inr (.inr (.inr (.inl ⟨_, _, _, _, _, rfl⟩))))
    | eptr id ver esz i off => exact leaf _ h (.inr (.inr (.inr (.inr ⟨_, _, _, _, _, rfl⟩))))
    | agg cs =>
      obtain ⟨vs, h1, h2, rfl⟩ := inv_agg h
      exact .agg (by simpa using h1) (hm cs (fun i v => vs[i]? = some v) h2)
    | tuple cs =>
      obtain ⟨vs, h1, h2, rfl⟩ := inv_tuple h
      exact .tuple (by simpa using h1) (hm cs (fun i v => vs[i]? = some v) h2)
    | func fn first cap =>
      obtain ⟨fv, cv, h1, h2, h3, h4, rfl⟩ := inv_func h
      exact .func (by simpa using h1) (by simpa using h2) (hm first (fun i v => fv[i]? = some v) h3) (hm cap (fun i v => cv[i]? = some v) h4)
    | iface t x =>
      cases h with
      | iface h => exact .iface (ih h)
    | vptr cs off =>
      obtain ⟨b, o, vs, h1, h2, rfl⟩ := inv_vptr h
      refine .vptr vs (fun j c hc => ?_) (fun j c hc => ?_) (fun j hj => h2 j (by simpa using hj))
      · rw [List.getElem?_map] at hc
        cases hj : cs[j]? with
        | none => rw [hj] at hc; exact nomatch hc
        | some y => exact (h1 j y hj).1
      · exact hm cs (fun i v => v = vs i) (fun i x v hx hv => hv ▸ (h1 i x hx).2) j c _ hc rfl
    | kb b => have := rel_bool h.unkb; subst this; exact .kb b
    | _ => exact h.pureG (g := g1) (g' := outG ρ δ g g1) (fun _ _ h => h) rfl

def mapO (f : AV → AV) (ver' : Nat) : VObj → VObj
  | .box cs fz => .box (cs.map f) fz
  | .arr _ esz nn es fz => .arr ver' esz nn es fz
  | .tbox T cs => .tbox T (cs.map f)
  | .buf T _ bs => .buf T ver' bs
  | .spent _ => .spent ver'
  | o => o
theorem invO_map (ρ : List Nat) (S : List VObj) (o : VObj) : invO ρ S o = mapO (invN ρ S 3) 0 o := by cases o <;> rfl
theorem renO_map (ρ : List Nat) (δ : Nat → Nat) (k : Nat) (o : VObj) : renO ρ δ k o = mapO (renN ρ δ 3) (δ k + verO o) o := by cases o <;> rfl

/-- an object under another ghost and number, its cells' values seen anew -/
theorem ObjRel.as {g g' : Gh} {w : World} {id id' ver' : Nat} {o : VObj} (f : AV → AV) (hl : g'.loc id' = g.loc id) (hh : ∀ v h, g.hdr id = some (v, h) → v = verO o ∧ g'.hdr id' = some (ver', h)) (hn : g.hdr id = none → g'.hdr id' = none) (hst : ∀ b x, g'.stab b x ↔ g.stab b x)
    (hf : ∀ x v, Rel g w x v → Rel g' w (f x) v) (r : ObjRel g w id o) : ObjRel g' w id' (mapO f ver' o) := by
  cases o with
  | gone => exact ⟨hl.trans r.1, hn r.2⟩
  | box cs fz =>
    obtain ⟨h1, b, o, vs, h2, h3, h4, h5, h6, h7⟩ := r
    refine ⟨hn h1, b, o, vs, hl.trans h2, h3, h4, fun j c hc => ?_, fun hz j hj => (hst _ _).2 (h6 hz j (by simpa using hj)), fun hz x hx => h7 hz x ((hst _ _).1 hx)⟩
    rw [List.getElem?_map] at hc
    cases hj : cs[j]? with
    | none => rw [hj] at hc; exact nomatch hc
    | some y => rw [hj] at hc; cases hc; exact ⟨(h5 j y hj).1, hf _ _ (h5 j y hj).2⟩
  | arr ver esz nn es fz =>
    obtain ⟨h1, h2, h3, h3', h4⟩ := r
    refine ⟨hl.trans h1, h2, h3, h3', ?_⟩
    rcases h4 with ⟨a, k1, k2, k3⟩ | ⟨b, o, cap, vs, k1, k0, k2, k3, k4, k5, k6, k7, k8, k9⟩
    · exact .inl ⟨a, (hh _ _ k1).2, k2, k3⟩
    · exact .inr ⟨b, o, cap, vs, (hh _ _ k1).2, k0, k2, k3, k4, k5, k6, fun i c j x hi hj => ⟨(k7 i c j x hi hj).1, (k7 i c j x hi hj).2.pureG (fun b o h => (hst b o).2 h) (h2 c (List.mem_of_getElem? hi) x (List.mem_of_getElem? hj))⟩,
        fun hf => ⟨fun i j hi hj => (hst _ _).2 ((k8 hf).1 i j hi hj), fun x hx hs => (k8 hf).2 x hx ((hst _ _).1 hs)⟩, fun hf x hx => k9 hf x ((hst _ _).1 hx)⟩
  | map kt vt es =>
    obtain ⟨h1, b, clock, en, h2, h3, h4, h5, h6, h7, h8⟩ := r
    exact ⟨hn h1, b, clock, en, hl.trans h2, h3, h4, h5, fun i x e hx he => ⟨(h6 i x e hx he).1.flatG (fun b o h => (hst b o).2 h) (h7 x (List.mem_of_getElem? hx)).1, (h6 i x e hx he).2.flatG (fun b o h => (hst b o).2 h) (h7 x (List.mem_of_getElem? hx)).2⟩, h7, fun x hx => h8 x ((hst _ _).1 hx)⟩
  | tbox T cs =>
    obtain ⟨h1, b, vs, h2, h3, h4, h5, h6, h7⟩ := r
    refine ⟨hn h1, b, vs, hl.trans h2, h3, h4, by rw [List.length_map]; exact h5, fun j c hc => ?_, fun x hx => h7 x ((hst _ _).1 hx)⟩
    rw [List.getElem?_map] at hc
    cases hj : cs[j]? with
    | none => rw [hj] at hc; exact nomatch hc
    | some y => rw [hj] at hc; cases hc; exact ⟨(h6 j y hj).1, hf _ _ (h6 j y hj).2⟩
  | buf T ver bs =>
    obtain ⟨h1, b, cap, k1, k0, k2, k3, k4, k5, k6, k7, k8⟩ := r
    exact ⟨hl.trans h1, b, cap, (hh _ _ k1).2, k0, k2, k3, k4, k5, k6, k7, fun x hx => k8 x ((hst _ _).1 hx)⟩
  | spent ver =>
    obtain ⟨h1, b, n, cap, k1, k2⟩ := r
    exact ⟨hl.trans h1, b, n, cap, (hh _ _ k1).2, k2⟩

theorem hdr_verO {B : Nat → Prop} {g : Gh} {w : World} {σ : Nat → VObj} (hs : RelS B g w σ) {id v : Nat} {h : Value} (hh : g.hdr id = some (v, h)) : v = verO (σ id) := by
  have := hs.obj id
  cases ho : σ id with
  | gone => rw [ho] at this; rw [this.2] at hh; exact nomatch hh
  | box cs fz => rw [ho] at this; rw [this.1] at hh; exact nomatch hh
  | map kt vt es => rw [ho] at this; rw [this.1] at hh; exact nomatch hh
  | arr ver esz nn es fz =>
    rw [ho] at this
    obtain ⟨_, _, _, _, hc⟩ := this
    rcases hc with ⟨a, k, _⟩ | ⟨b, o, cap, vs, k, _⟩ <;> (rw [hh] at k; cases k; rfl)
  | tbox T cs => rw [ho] at this; rw [this.1] at hh; exact nomatch hh
  | buf T ver bs =>
    rw [ho] at this
    obtain ⟨_, b, cap, k, _⟩ := this
    rw [hh] at k; cases k; rfl
  | spent ver =>
    rw [ho] at this
    obtain ⟨_, b, n, cap, k, _⟩ := this
    rw [hh] at k; cases k; rfl

def nodupB : List Nat → Bool
  | [] => true
  | i :: r => !r.contains i && nodupB r
theorem nodupB_spec : ∀ {l : List Nat}, nodupB l = true → l.Nodup
  | [], _ => .nil
  | i :: r, h => by
    simp only [nodupB, Bool.and_eq_true, Bool.not_eq_true'] at h
    exact List.nodup_cons.2 ⟨fun hm => (by rw [List.contains_iff_mem.2 hm] at h; exact nomatch h.1), nodupB_spec h.2⟩

def kindsOk (s2 : List VObj) : Nat → List VObj → Bool
  | _, [] => true
  | k, .arr .. :: s => (match getO s2 k with
    | .arr .. => true
    | _ => false) && kindsOk s2 (k + 1) s
  | k, .buf .. :: s => (match getO s2 k with
    | .buf .. => true
    | .spent _ => true
    | _ => false) && kindsOk s2 (k + 1) s
  | _, .spent .. :: _ => false
  | k, _ :: s => kindsOk s2 (k + 1) s
theorem kindsOk_spec (s2 : List VObj) : ∀ (s : List VObj) (i : Nat), kindsOk s2 i s = true → ∀ k ver esz nn es fz, getO s k = .arr ver esz nn es fz → ∃ ver esz nn es fz, getO s2 (i + k) = .arr ver esz nn es fz := by
  intro s
  induction s with
  | nil => intro i _ k ver esz nn es fz h; simp [getO] at h
  | cons o s ih =>
    intro i h k ver esz nn es fz hk
    cases k with
    | zero =>
      have : o = .arr ver esz nn es fz := hk
      subst this
      simp only [kindsOk, Bool.and_eq_true] at h
      obtain ⟨h, _⟩ := h
      split at h
      · rename_i e; exact ⟨_, _, _, _, _, e⟩
      · exact nomatch h
    | succ k =>
      have hk : getO s k = .arr ver esz nn es fz := hk
      rw [show i + (k + 1) = i + 1 + k by omega]
      refine ih (i + 1) ?_ k ver esz nn es fz hk
      cases o <;> simp [kindsOk] at h <;> first | exact h | exact h.2

theorem kindsOk_no (s2 : List VObj) : ∀ (s : List VObj) (i : Nat), kindsOk s2 i s = true → ∀ k, (∀ T ver bs, getO s k = .buf T ver bs → (∃ T ver bs, getO s2 (i + k) = .buf T ver bs) ∨ ∃ ver, getO s2 (i + k) = .spent ver) ∧ ∀ ver, getO s k ≠ .spent ver := by
  intro s
  induction s with
  | nil => intro i _ k; exact ⟨fun T ver bs h => by simp [getO] at h, fun ver h => by simp [getO] at h⟩
  | cons o s ih =>
    intro i h k
    cases k with
    | zero =>
      refine ⟨fun T ver bs e => ?_, fun ver e => ?_⟩
      · have : o = .buf T ver bs := e
        subst this
        simp only [kindsOk, Bool.and_eq_true] at h
        have h := h.1
        split at h
        · rename_i e; exact .inl ⟨_, _, _, e⟩
        · rename_i e; exact .inr ⟨_, e⟩
        · exact nomatch h
      · have : o = .spent ver := e
        subst this; simp [kindsOk] at h
    | succ k =>
      have h' : kindsOk s2 (i + 1) s = true := by cases o <;> simp [kindsOk] at h <;> first | exact h | exact h.2
      have := ih (i + 1) h' k
      rw [show i + (k + 1) = i + 1 + k by omega]
      exact this

/-- a call of such a function, over any store: ρ: the caller's numbers of the objects -/
theorem vcall_obj {keep : Bool} {fid : FuncId} {args args' : List AV} {s s2 S : List VObj} {v : AV} {R : AV → List VObj → FP → Prop} (hc : ObjCall P keep fid args s v s2) (ρ : List Nat) (hv : flatD v = true) (hn : nodupB ρ = true) (hl : s.length = ρ.length) (hl2 : s2.length ≤ ρ.length) (hkd : kindsOk s2 0 s = true)
    (ha : args'.map (invN ρ S 3) = args) (hs : ρ.map (fun id => invO ρ S (getO S id)) = s)
    (hR : R v (putR ρ (fun k : Nat => (match ρ[k]? with | some id => verO (getO S id) | none => 0) + cond keep 0 1) s2 0 ρ S) ⟨[], ρ⟩) : VCall P fid args' S R := by
  have hn := nodupB_spec hn
  unfold VCall
  obtain ⟨hfn, hc⟩ := hc
  generalize hδ : (fun k : Nat => (match ρ[k]? with | some id => verO (getO S id) | none => 0) + cond keep 0 1) = δ at hR
  have hδ' : ∀ k id, ρ[k]? = some id → δ k = verO (getO S id) + cond keep 0 1 := fun k id hk => by subst hδ; simp only [hk]
  refine ⟨v, _, _, hR, fun id hid => by rw [getO_putR _ _ _ _ _ _ hn, idxK_none.2 hid], hfn, fun B g w vals σ hB hlen hrel hag hsr htab => ?_⟩
  have hag : ∀ id, id ∈ ρ → σ id = getO S id := fun id h => hag id (.inr h)
  have hver : ∀ id, id ∈ ρ → ∀ v h, g.hdr id = some (v, h) → v = verO (getO S id) := fun id hid v h hh => by rw [← hag id hid]; exact hdr_verO hsr hh
  have hlt : ∀ k id, ρ[k]? = some id → k < s.length := fun k id h => by rw [hl]; exact (List.getElem?_eq_some_iff.1 h).1
  let g0 := inG ρ S g
  let B0 : Nat → Prop := fun b => (∃ id ∈ ρ, blk g id b) ∨ w.heap.size ≤ b
  have hblk0 : ∀ k b, blk g0 k b → ∃ id, ρ[k]? = some id ∧ blk g id b := fun k b h => by
    cases hk : ρ[k]? with
    | none => rcases h with ⟨o, h⟩ | ⟨ver, o, len, cap, h, _⟩ <;> simp only [g0, inG, hk, Option.bind_none] at h <;> exact nomatch h
    | some id =>
      refine ⟨id, rfl, ?_⟩
      rcases h with ⟨o, h⟩ | ⟨ver, o, len, cap, h, hcap⟩
      · simp only [g0, inG, hk, Option.bind_some] at h; exact .inl ⟨o, h⟩
      · simp only [g0, inG, hk, Option.bind_some] at h
        cases hh : g.hdr id with
        | none => rw [hh] at h; exact nomatch h
        | some p => obtain ⟨v', x⟩ := p; rw [hh] at h; cases h; exact .inr ⟨v', o, len, cap, hh, hcap⟩
  have hS0 : RelS B0 g0 w (getO s) := by
    refine ⟨fun k => ?_, fun i j b h1 h2 => ?_, fun k b h => ?_, hsr.sb⟩
    · cases hk : ρ[k]? with
      | none =>
        have : s.length ≤ k := by rw [hl]; exact List.getElem?_eq_none_iff.1 hk
        rw [show getO s k = .gone by simp [getO, this]]
        exact ⟨by simp only [g0, inG, hk, Option.bind_none], by simp only [g0, inG, hk, Option.bind_none]⟩
      | some id =>
        have hob : getO s k = invO ρ S (getO S id) := by
          rw [← hs]; simp [getO, hk]
        rw [hob]
        have ho := hsr.obj id
        rw [hag id (List.mem_of_getElem? hk)] at ho
        have := ObjRel.as (r := ho) (g := g) (g' := g0) (id := id) (id' := k) (ver' := 0) (invN ρ S 3) (by simp only [g0, inG, hk, Option.bind_some]) (fun v h hh => by
          have := hver id (List.mem_of_getElem? hk) v h hh
          exact ⟨this, by simp only [g0, inG, hk, Option.bind_some, hh, Option.map_some, this, Nat.sub_self]⟩) (fun hh => by simp only [g0, inG, hk, Option.bind_some, hh, Option.map_none]) (fun _ _ => Iff.rfl) (fun x v h => inv_rel hver 3 h)
        rw [invO_map]; exact this
    · obtain ⟨id1, k1, q1⟩ := hblk0 i b h1
      obtain ⟨id2, k2, q2⟩ := hblk0 j b h2
      have := hsr.apart id1 id2 b q1 q2
      subst this
      have e1 := idxK_at hn k1
      have e2 := idxK_at hn k2
      rw [e1] at e2; cases e2; rfl
    · obtain ⟨id1, k1, q1⟩ := hblk0 k b h
      exact .inl ⟨id1, List.mem_of_getElem? k1, q1⟩
  have hcall := hc B0 g0 w vals (fun b h => .inr h) (by rw [← ha, List.length_map]; exact hlen) (fun i x u hx hu => by
    rw [← ha, List.getElem?_map] at hx
    cases hi : args'[i]? with
    | none => rw [hi] at hx; exact nomatch hx
    | some y => rw [hi] at hx; cases hx; exact inv_rel hver 3 (hrel i y u hi hu)) hS0 htab
  refine Calls.mono hcall fun e w' he => ?_
  obtain ⟨g1, val, rfl, h0, r1, hval⟩ := he
  have hgone1 : ∀ k, ρ[k]? = none → g1.loc k = none ∧ g1.hdr k = none := fun k hk => by
    have := r1.obj k
    have hle : s2.length ≤ k := Nat.le_trans hl2 (List.getElem?_eq_none_iff.1 hk)
    rw [show getO s2 k = .gone by simp [getO, hle]] at this
    exact this
  let g2 := outG ρ δ g g1
  have hb0 : ∀ b, B0 b → B b := fun b hb => by
    rcases hb with ⟨id, hm, hb⟩ | hb
    · exact hsr.inB id b hb
    · exact hB b hb
  have hst : ∀ b x, g2.stab b x ↔ g1.stab b x := fun _ _ => Iff.rfl
  have e02 : Ext B g w g2 w' :=
    { size := h0.size
      stab := h0.stab
      same := h0.same
      keep := fun b hb => h0.keep b fun h => hb (hb0 b h)
      keepS := fun b o hb h => h0.keepS b o (fun h => hb (hb0 b h)) h
      loc := fun id x hx => by
        cases hk : idxK ρ id with
        | none => simp only [g2, outG, hk]; exact hx
        | some k =>
          simp only [g2, outG, hk]
          refine h0.loc k x ?_
          simp only [g0O, g0, inG, idxK_some hk, Option.bind_some]
          exact hx
      hdr := fun id ver hd hx => by
        cases hk : idxK ρ id with
        | none => exact ⟨ver, hd, by simp only [g2, outG, hk]; exact hx, Nat.le_refl _, fun _ => rfl⟩
        | some k =>
          have hkk := idxK_some hk
          have hmem := List.mem_of_getElem? hkk
          have hv := hver id hmem ver hd hx
          -- the object is an array still
          have hex : ∃ v1 h1, g1.hdr k = some (v1, h1) := by
            have h00 : g0.hdr k = some (0, hd) := by simp only [g0, inG, hkk, Option.bind_some, hx, Option.map_some, hv, Nat.sub_self]
            have ha := hS0.obj k
            have hb := r1.obj k
            cases ho : getO s k with
            | gone => rw [ho] at ha; rw [ha.2] at h00; exact nomatch h00
            | box cs fz => rw [ho] at ha; rw [ha.1] at h00; exact nomatch h00
            | map kt vt es => rw [ho] at ha; rw [ha.1] at h00; exact nomatch h00
            | arr ver esz nn es fz =>
              obtain ⟨v2, esz2, nn2, es2, fz2, ho2⟩ := kindsOk_spec s2 s 0 hkd k ver esz nn es fz ho
              rw [Nat.zero_add] at ho2
              rw [ho2] at hb
              obtain ⟨_, _, _, _, hc⟩ := hb
              rcases hc with ⟨a, k1, _⟩ | ⟨b, o, cap, vs, k1, _⟩ <;> exact ⟨_, _, k1⟩
            | tbox T cs => rw [ho] at ha; rw [ha.1] at h00; exact nomatch h00
            | buf T ver bs =>
              rcases (kindsOk_no s2 s 0 hkd k).1 T ver bs ho with ⟨T2, v2, b2, ho2⟩ | ⟨v2, ho2⟩
              · rw [Nat.zero_add] at ho2
                rw [ho2] at hb
                obtain ⟨_, b, cap, k1, _⟩ := hb
                exact ⟨_, _, k1⟩
              · rw [Nat.zero_add] at ho2
                rw [ho2] at hb
                obtain ⟨_, b, n, cap, k1, _⟩ := hb
                exact ⟨_, _, k1⟩
            | spent ver => exact absurd ho ((kindsOk_no s2 s 0 hkd k).2 ver)
          obtain ⟨v1, h1, hh1⟩ := hex
          refine ⟨δ k + v1, h1, by simp only [g2, outG, hk, hh1, Option.map_some], by rw [hδ' k id hkk]; omega, fun he => ?_⟩
          rw [hδ' k id hkk] at he
          cases keep with
          | false => simp at he; omega
          | true =>
            have hz : v1 = 0 := by simp at he; omega
            subst hz
            obtain ⟨v', h', q1, q2, q3⟩ := h0.hdr k 0 hd (by simp only [g0O, if_true, g0, inG, hkk, Option.bind_some, hx, Option.map_some, hv, Nat.sub_self])
            rw [hh1] at q1; cases q1
            exact q3 rfl
      low := h0.low }
  have hb2 : ∀ id b k, idxK ρ id = some k → blk g2 id b → blk g1 k b := fun id b k hk h => by
    rcases h with ⟨o, h⟩ | ⟨ver, o, len, cap, h, hcap⟩
    · simp only [g2, outG, hk] at h; exact .inl ⟨o, h⟩
    · simp only [g2, outG, hk] at h
      cases hh : g1.hdr k with
      | none => rw [hh] at h; exact nomatch h
      | some p => obtain ⟨v', x⟩ := p; rw [hh] at h; cases h; exact .inr ⟨v', o, len, cap, hh, hcap⟩
  have hb3 : ∀ id b, idxK ρ id = none → blk g2 id b → blk g id b := fun id b hk h => by
    unfold blk at h ⊢
    simp only [g2, outG, hk] at h; exact h
  have hout : ∀ id b, idxK ρ id = none → blk g id b → ¬ B0 b := fun id b hk h hb => by
    rcases hb with ⟨id', hm', hb⟩ | hb
    · have := hsr.apart id id' b h hb
      subst this; exact idxK_none.1 hk hm'
    · have := hsr.lt h; omega
  refine ⟨g2, val, rfl, e02, ⟨fun id => ?_, fun i j b h1 h2 => ?_, fun id b h => ?_, fun b x h => r1.sb b x h⟩, flatD_rel (g := g1) (g' := g2) (fun _ _ h => h) hval hv⟩
  · unfold over
    cases hk : idxK ρ id with
    | some k =>
      have hkk := idxK_some hk
      rw [if_pos (List.mem_of_getElem? hkk), getO_putR _ _ _ _ _ _ hn, hk]
      simp only [Nat.zero_add]
      have := ObjRel.as (r := r1.obj k) (g := g1) (g' := g2) (id := k) (id' := id) (ver' := δ k + verO (getO s2 k)) (renN ρ δ 3) (by simp only [g2, outG, hk]) (fun v h hh => by
        have := hdr_verO r1 hh
        exact ⟨this, by simp only [g2, outG, hk, hh, Option.map_some, this]⟩) (fun hh => by simp only [g2, outG, hk, hh, Option.map_none]) hst (fun x v h => ren_rel hn 3 h)
      rw [renO_map]; exact this
    | none =>
      rw [if_neg (idxK_none.1 hk)]
      refine (hsr.obj id).keep e02 (by simp only [g2, outG, hk]) (by simp only [g2, outG, hk]) fun b hkb => ?_
      have hnb := hout id b hk hkb
      exact ⟨h0.keep b hnb, fun x => ⟨fun h => h0.keepS b x hnb h, fun h => h0.stab b x h⟩⟩
  · cases hi : idxK ρ i with
    | some ki =>
      cases hj : idxK ρ j with
      | some kj =>
        have := r1.apart ki kj b (hb2 i b ki hi h1) (hb2 j b kj hj h2)
        subst this
        have e1 := idxK_some hi
        have e2 := idxK_some hj
        rw [e1] at e2; cases e2; rfl
      | none => exact (hout j b hj (hb3 j b hj h2) (r1.inB ki b (hb2 i b ki hi h1))).elim
    | none =>
      cases hj : idxK ρ j with
      | some kj => exact (hout i b hi (hb3 i b hi h1) (r1.inB kj b (hb2 j b kj hj h2))).elim
      | none => exact hsr.apart i j b (hb3 i b hi h1) (hb3 j b hj h2)
  · cases hi : idxK ρ id with
    | some k => exact hb0 b (r1.inB k b (hb2 id b k hi h))
    | none => exact hsr.inB id b (hb3 id b hi h)

end
end Go.Proofs.YtllpenkgaomdfaaDoor.Vm
/- Strict forms of what runs must end in, and of loops. -/
set_option linter.all false
namespace Go.Proofs.YtllpenkgaomdfaaDoor.Vm
open Go
variable [Tabs]

section
variable {A : Type}
def force1 (v : AV) (k : AV → A) : A :=
  match v with
  | .agg cs => forceC cs fun cs => k (.agg cs)
  | v => force v k
def forceC1 : List AV → (List AV → A) → A
  | [], k => k []
  | x :: xs, k => force1 x fun y => forceC1 xs fun ys => k (y :: ys)
def force2 (v : AV) (k : AV → A) : A :=
  match v with
  | .agg cs => forceC cs fun cs => k (.agg cs)
  | .tuple cs => forceC1 cs fun cs => k (.tuple cs)
  | v => force v k

theorem force1_eq (v : AV) (k : AV → A) : force1 v k = k v := by
  cases v <;> first | rfl | exact forceC_eq _ _
theorem forceC1_eq (l : List AV) (k : List AV → A) : forceC1 l k = k l := by
  induction l generalizing k with
  | nil => rfl
  | cons x xs ih => simp only [forceC1, force1_eq, ih]
theorem force2_eq (v : AV) (k : AV → A) : force2 v k = k v := by
  cases v <;> first | rfl | exact forceC_eq _ _ | exact forceC1_eq _ _
end

def RetRS (E : Env) (rs : List ResultVar) (v : AV) : Exit → List AV → List VObj → Prop
  | .ret, t, s => match resO E rs t s with
    | some r => force2 (nrmD s r) fun r => r = v
    | none => False
  | .normal, t, s => match resO E rs t s with
    | some r => force2 (nrmD s r) fun r => r = v
    | none => False
  | _, _, _ => False

theorem RetRS_eq {E : Env} {rs : List ResultVar} {v : AV} {e : Exit} {t : List AV} {s : List VObj} (h : RetRS E rs v e t s) : RetR E rs v e t s := by
  cases e <;> simp only [RetRS, force2_eq] at h <;> exact h

section
variable {P : Program} {E : Env} {N : NN} {R : Exit → List AV → List VObj → Prop}

theorem contractS {E : Env} (hE : E.Fits P) {fid : FuncId} {fn : Func} {args : List AV} {v : AV} (hk : Known P fid fn) (h : RunD P ⟨0, 0⟩ (start fn args) (RetRS E fn.results.toList v)) : PureCall P fid args v := contractD hE hk (h.mono fun e t s h => RetRS_eq h)

/-- what a loop's round must come to -/
def LoopRS (P : Program) (N : NN) (todo : List VItem) (R : Exit → List AV → List VObj → Prop) (keep : List Nat) (n : Nat) (again : List AV → List VObj → Prop) : Exit → List AV → List VObj → Prop
  | .normal, t, s => forceC (canonT N.v keep n s t) fun t' => forceS (canonS N.v n s) fun s' => again t' s'
  | .exit id, t, s => match popTo id todo with
    | some r => RunD P N ⟨t, s, r⟩ R
    | none => R (.exit id) t s
  | .ret, t, s => R .ret t s
  | _, _, _ => False

theorem loop_invS {ι : Type} (I : ι → Prop) (keep : List Nat) (n : Nat) (U : ι → List (Nat × AV)) (V : ι → List (Nat × VObj)) (μ : ι → Nat) (i0 : ι) {t : List AV} {s : List VObj} {body : Code} {todo : List VItem} (hl : N.l ≤ n) (hn : N.v ≤ n)
    (h : forceC (canonT N.v keep n s t) fun t0 => forceS (canonS N.v n s) fun s0 => updT t0 (U i0) = t0 ∧ updS s0 (V i0) = s0 ∧ I i0 ∧ ∀ i, I i → RunD P N ⟨updT t0 (U i), updS s0 (V i), [.code body]⟩
      (LoopRS P N todo R keep n fun t' s' => ∃ j, I j ∧ μ j < μ i ∧ t' = updT t0 (U j) ∧ s' = updS s0 (V j))) : LoopRunD P N body ⟨t, s, todo⟩ R := by
  rw [forceC_eq, forceS_eq] at h
  obtain ⟨h0, h1, hI, h⟩ := h
  refine loop_invD I keep n U V μ i0 hl hn h0 h1 hI fun i hi => (h i hi).mono fun e t' s' h => ?_
  cases e with
  | normal => simp only [LoopRS, forceC_eq, forceS_eq] at h; exact h
  | _ => exact h

/-- rounds one by one -/
theorem loop_nextD {t : List AV} {s : List VObj} {body : Code} {todo : List VItem} (n : Nat) (h : RunD P N ⟨t, s, [.code body]⟩ (LoopRD P N todo R (LoopFD P N body todo R n))) : LoopRunD P N body ⟨t, s, todo⟩ R :=
  loop_fuelD (n + 1) h

/-- a nil slice in a variable becomes an array object -/
theorem weak_promoteB {id k esz : Nat} {full : Bool} {t : List AV} {s : List VObj} {cs : List AV} (ho : getO s id = .box cs false) (hk : cs[k]? = some (.sl (some true) full [])) (h0 : 0 < esz) :
    Weak N t s t (setO (setO s s.length (.arr 0 esz none [] false)) id (.box (cs.set k (.sall s.length 0)) false)) := by
  intro B g0 w0 hf g a w hS
  have hobj := hS.rs.obj s.length
  rw [getO_len] at hobj
  obtain ⟨g', e1, r1, v1⟩ := set_arr_nil (id := s.length) (ver := 0) (esz := esz) (nn := none) (a := none) hS.rs hobj.1 (fun v h e => by rw [hobj.2] at e; exact nomatch e) h0 nofun nofun false
  have hid : id ≠ s.length := fun e => by rw [e, getO_len] at ho; exact nomatch ho
  have hb := r1.obj id
  rw [updF_other _ _ hid, ho] at hb
  obtain ⟨q1, b, o, vs, q2, q3, q4, q5, q6, q7⟩ := hb
  have hvk : vs k = .slice none 0 0 := by
    have := (q5 k _ hk).2
    generalize vs k = u at this
    cases this with
    | slnil h h' =>
      rename_i ad
      cases ad with
      | none => rfl
      | some ad => exact (h' ad rfl rfl).elim
    | sl vs h => exact (h rfl).elim
  have r2 := r1.upd (id := id) (o := .box (cs.set k (.sall s.length 0)) false) (Ext.refl B g' w) (fun _ _ => ⟨rfl, rfl⟩) (fun _ _ _ _ => ⟨rfl, fun _ => Iff.rfl⟩)
    ⟨q1, b, o, vs, q2, q3, q4, fun j c hj => by
      rw [List.getElem?_set] at hj
      split at hj
      · rename_i hkj; subst hkj
        split at hj
        · cases hj
          exact ⟨(q5 k _ hk).1, by rw [hvk]; exact v1⟩
        · exact nomatch hj
      · exact q5 j c hj, nofun, q7⟩
    (fun b hb => ⟨r1.inB id b hb, fun j hj hk => hj (r1.apart j id b hk hb)⟩) r1.sb
  refine ⟨g', hS.ext.trans e1, ?_, hS.rt.mono e1, hS.defers⟩
  have : getO (setO (setO s s.length (.arr 0 esz none [] false)) id (.box (cs.set k (.sall s.length 0)) false)) = updF (updF (getO s) s.length (.arr 0 esz none [] false)) id (.box (cs.set k (.sall s.length 0)) false) := by
    funext j
    rw [getO_setO]
    unfold updF
    split
    · rfl
    · rw [getO_setO]
  rw [this]; exact r2

theorem loop_promoteBD {id k esz : Nat} {full : Bool} {t : List AV} {s : List VObj} {cs : List AV} {body : Code} {todo : List VItem} (ho : getO s id = .box cs false) (hk : cs[k]? = some (.sl (some true) full [])) (h0 : 0 < esz)
    (h : LoopRunD P N body ⟨t, setO (setO s s.length (.arr 0 esz none [] false)) id (.box (cs.set k (.sall s.length 0)) false), todo⟩ R) : LoopRunD P N body ⟨t, s, todo⟩ R := by
  unfold LoopRunD at h ⊢
  exact h.map fun R' => run_weak (weak_promoteB ho hk h0) (fun x r e => by cases e; rfl)

/-- a call that is walked in place -/
def InRS (E : Env) (rs : List ResultVar) (ids : List Nat) (s : List VObj) (R : AV → List VObj → FP → Prop) (e : Exit) (t : List AV) (s2 : List VObj) : Prop :=
  match e with
  | .ret => match resO E rs t s2, goneOut ids s2 s.length with
    | some v, true => force2 v fun v => forceS (backS ids s2 0 s) fun s3 => R v s3 ⟨[], ids ++ newIds s.length (s2.length - s.length)⟩
    | _, _ => False
  | .normal => match resO E rs t s2, goneOut ids s2 s.length with
    | some v, true => force2 v fun v => forceS (backS ids s2 0 s) fun s3 => R v s3 ⟨[], ids ++ newIds s.length (s2.length - s.length)⟩
    | _, _ => False
  | _ => False

def allB (s : List VObj) (ids : List Nat) : Bool := ids.all fun i => Nat.blt i s.length && subO ids (getO s i)

theorem vcall_inS (hE : E.Fits P) {fid : FuncId} {fn : Func} {args : List AV} {s : List VObj} {R : AV → List VObj → FP → Prop} (hk : Known P fid fn)
    (hi : allB s (reachA s args) = true) (ha : args.all (sub 4 (reachA s args)) = true)
    (h : RunD P ⟨s.length, s.length⟩ (startIn fn args (maskS (reachA s args) 0 s)) (InRS E fn.results.toList (reachA s args) s R)) : VCall P fid args s R := by
  refine vcall_in hE hk (reachA s args) hi ha (h.mono fun e t s2 h => ?_)
  cases e <;> simp only [InRS, force2_eq, forceS_eq] at h <;> exact h

/-- a contract over objects -/
def RetOS (E : Env) (rs : List ResultVar) (keep : Bool) (n : Nat) (v : AV) (s2 : List VObj) : Exit → List AV → List VObj → Prop
  | .ret, t, s => match resO E rs t s with
    | some r => force2 (nrmD s r) fun r' => forceS (canonS (cond keep n 0) n (freeze s (refsD r))) fun s' => r' = v ∧ s' = s2
    | none => False
  | .normal, t, s => match resO E rs t s with
    | some r => force2 (nrmD s r) fun r' => forceS (canonS (cond keep n 0) n (freeze s (refsD r))) fun s' => r' = v ∧ s' = s2
    | none => False
  | _, _, _ => False

theorem objCallS (hE : E.Fits P) {keep : Bool} {fid : FuncId} {fn : Func} {args : List AV} {s : List VObj} {v : AV} {s2 : List VObj} (hk : Known P fid fn) (h : RunD P ⟨cond keep s.length 0, s.length⟩ (startIn fn args s) (RetOS E fn.results.toList keep s.length v s2)) : ObjCall P keep fid args s v s2 :=
  objCall hE hk (h.mono fun e t s h => by cases e <;> simp only [RetOS, force2_eq, forceS_eq] at h <;> exact h)

end
end Go.Proofs.YtllpenkgaomdfaaDoor.Vm
/- Functions whose results are new memory: their arguments stay as they are, frozen or not. -/
set_option linter.all false
namespace Go.Proofs.YtllpenkgaomdfaaDoor.Vm
open Go
variable [Tabs]

/-- a cell without memory behind it -/
def AV.scal : AV → Bool
  | .dead | .bool _ | .kb _ | .int _ _ | .str _ | .nilptr | .nilmap | .nilfunc | .nilif => true
  | .sl _ _ [] => true
  | _ => false
theorem scal_rel {g g' : Gh} {w w' : World} {x : AV} {v : Value} (h : Rel g w x v) (hs : x.scal = true) : Rel g' w' x v := by
  cases x with
  | dead => exact .dead _
  | bool b => rw [rel_bool h]; exact .bool _
  | kb b => have := rel_bool h.unkb; subst this; exact .kb b
  | int k n => rw [rel_int h]; exact .int _ _
  | str s => rw [rel_str h]; exact .str _
  | nilptr => cases h; exact .nilptr
  | nilmap => cases h; exact .nilmap
  | nilfunc => cases h; exact .nilfunc
  | nilif => cases h; exact .nilif
  | sl nn full es =>
    cases es with
    | cons c es => exact nomatch hs
    | nil =>
      rcases inv_sl h with ⟨_, a, h1, h2, rfl⟩ | ⟨b, o, cap, vs, h0, h1, h2, h3, h4, h5, rfl⟩
      · exact .slnil h1 h2
      · exact .sl vs h0 h1 h2 (fun c hc => nomatch hc) (fun i c j x hi => by simp at hi) (fun i c j x hi => by simp at hi) (fun i c j hi => by simp at hi)
  | _ => exact nomatch hs

def inBlocks (g : Gh) (B : Nat → Prop) : Gh := ⟨fun _ => none, fun _ => none, fun b o => g.stab b o ∧ B b⟩

theorem sl_in {g : Gh} {w : World} {B : Nat → Prop} {nn : Option Bool} {full : Bool} {es : List (List AV)} {v : Value} (h : Rel g w (.sl nn full es) v) (hs : ∀ c ∈ es, ∀ x ∈ c, x.scal = true) (hb : ∀ b o l c, v = .slice (some ⟨b, o, none⟩) l c → c ≠ 0 → B b) :
    Rel (inBlocks g B) w (.sl nn full es) v := by
  rcases inv_sl h with ⟨rfl, a, h1, h2, rfl⟩ | ⟨b, o, cap, vs, h0, h1, h2, h3, h4, h5, rfl⟩
  · exact .slnil h1 h2
  · refine .sl vs h0 h1 h2 h3 (fun i c j x hi hj => (h4 i c j x hi hj).1) (fun i c j x hi hj => scal_rel (h4 i c j x hi hj).2 (hs c (List.mem_of_getElem? hi) x (List.mem_of_getElem? hj))) fun i c j hi hj => ⟨h5 i c j hi hj, hb b o _ _ rfl ?_⟩
    have := (List.getElem?_eq_some_iff.1 hi).1
    omega

/-- what a leaf leads to is the function's own -/
def newL (s : List VObj) : AV → Prop
  | .sall id _ => match getO s id with
    | .arr _ _ _ es _ => ∀ c ∈ es, ∀ x ∈ c, x.scal = true
    | _ => True
  | .sref id _ _ off len => match getO s id with
    | .arr _ _ _ es _ => ∀ c ∈ (es.drop off).take len, ∀ x ∈ c, x.scal = true
    | _ => True
  | .sl _ _ es => es = []
  | _ => True
def newLs (s : List VObj) : List AV → Prop
  | [] => True
  | x :: r => newL s x ∧ newLs s r
theorem newLs_mem {s : List VObj} : ∀ {l : List AV}, newLs s l → ∀ x ∈ l, newL s x
  | [], _, x, h => nomatch h
  | y :: r, h, x, hx => by
    rcases List.mem_cons.1 hx with rfl | hx
    · exact h.1
    · exact newLs_mem h.2 x hx
def new1 (s : List VObj) : AV → Prop
  | .agg cs => newLs s cs
  | .iface _ x => newL s x
  | v => newL s v
def new1s (s : List VObj) : List AV → Prop
  | [] => True
  | x :: r => new1 s x ∧ new1s s r
theorem new1s_mem {s : List VObj} : ∀ {l : List AV}, new1s s l → ∀ x ∈ l, new1 s x
  | [], _, x, h => nomatch h
  | y :: r, h, x, hx => by
    rcases List.mem_cons.1 hx with rfl | hx
    · exact h.1
    · exact new1s_mem h.2 x hx
def newD (s : List VObj) : AV → Prop
  | .tuple cs => new1s s cs
  | .func _ _ _ => False
  | v => new1 s v

section
variable {B : Nat → Prop} {g : Gh} {w : World} {σ : Nat → VObj} {s : List VObj}

theorem newL_rel (hs : RelS B g w σ) {x : AV} {v : Value} (hr : Rel g w x v) (hag : ∀ id ∈ refsOf x, σ id = (getO s id).fzd) (hn : newL s x) : Rel (inBlocks g B) w (nrm s x) v := by
  have hnr := nrm_rel hs hr hag
  have hhdr : ∀ {id ver ver0 : Nat} {h : Value} {b o l c : Nat}, g.hdr id = some (ver0, h) → h = .slice (some ⟨b, o, none⟩) l c → c ≠ 0 → B b := fun {id ver ver0 h b o l c} h1 h2 h3 => by
    subst h2; exact hs.inB id b (.inr ⟨_, o, l, c, h1, h3⟩)
  cases x with
  | sall id ver =>
    simp only [nrm] at hnr ⊢
    simp only [newL] at hn
    cases ho : getO s id with
    | arr ver' esz nn es fz =>
      rw [ho] at hnr hn
      dsimp only at hnr hn ⊢
      split
      · rename_i hb
        rw [hb] at hnr
        refine sl_in hnr hn fun b o l c hv hc => ?_
        obtain ⟨ver0, hd, a, len, cap, h1, h2, h3, h4⟩ := inv_sall hr
        rw [h4] at hv; cases hv
        have hver : ver0 = verO (σ id) := by
          have := hs.obj id
          rw [hag id (by simp [refsOf]), ho] at this ⊢
          obtain ⟨_, _, _, _, hcase⟩ := this
          rcases hcase with ⟨a, k, _⟩ | ⟨b, o, cap, vs, k, _⟩ <;> (rw [h1] at k; cases k; rfl)
        rw [hag id (by simp [refsOf]), ho] at hver
        have hve : ver = ver0 := by rw [hver]; exact Nat.eq_of_beq_eq_true hb
        exact hhdr (ver := ver) h1 (h3 hve).symm hc
      · exact .dead _
    | _ => exact .dead _
  | sref id ver esz off len =>
    simp only [nrm] at hnr ⊢
    simp only [newL] at hn
    cases ho : getO s id with
    | arr ver' esz' nn es fz =>
      rw [ho] at hnr hn
      dsimp only at hnr hn ⊢
      split
      · rename_i hb
        rw [hb] at hnr
        refine sl_in hnr hn fun b o l c hv hc => ?_
        obtain ⟨ver0, hd, a, cap, h1, h2, h3, h4⟩ := inv_sref hr
        rw [h4] at hv; cases hv
        simp only [Bool.and_eq_true] at hb
        have hver : ver0 = verO (σ id) := by
          have := hs.obj id
          rw [hag id (by simp [refsOf]), ho] at this ⊢
          obtain ⟨_, _, _, _, hcase⟩ := this
          rcases hcase with ⟨a, k, _⟩ | ⟨b, o, cap, vs, k, _⟩ <;> (rw [h1] at k; cases k; rfl)
        rw [hag id (by simp [refsOf]), ho] at hver
        have hve : ver = ver0 := by rw [hver]; exact Nat.eq_of_beq_eq_true hb.1.1
        rcases h3 hve with ⟨_, _, _, hz⟩ | ⟨b', o', len0, cap0, o'', q1, q2, q3, q4, q5⟩
        · exact (hc hz).elim
        · cases q2
          have hcz : cap0 ≠ 0 := fun hz => hc (Nat.le_zero.1 (hz ▸ Nat.le_trans (Nat.le_add_left _ _) q4))
          exact hhdr (ver := ver) h1 q1 hcz
      · exact .dead _
    | _ => exact .dead _
  | sl nn full es =>
    simp only [newL] at hn
    subst hn
    exact scal_rel hnr rfl
  | dead => exact .dead _
  | bool b => exact scal_rel hnr rfl
  | kb b => exact scal_rel hnr rfl
  | int k n => exact scal_rel hnr rfl
  | str b => exact scal_rel hnr rfl
  | nilptr => exact scal_rel hnr rfl
  | nilmap => exact scal_rel hnr rfl
  | nilfunc => exact scal_rel hnr rfl
  | nilif => exact scal_rel hnr rfl
  | _ => exact .dead _

theorem new1_rel (hs : RelS B g w σ) {x : AV} {v : Value} (hr : Rel g w x v) (hag : ∀ id ∈ refs1 x, σ id = (getO s id).fzd) (hn : new1 s x) : Rel (inBlocks g B) w (nrm1 s x) v := by
  cases x with
  | agg cs =>
    obtain ⟨vs, h1, h2, rfl⟩ := inv_agg hr
    refine .agg (by simpa using h1) fun i x v hx hv => ?_
    rw [List.getElem?_map] at hx
    cases hi : cs[i]? with
    | none => rw [hi] at hx; exact nomatch hx
    | some y => rw [hi] at hx; cases hx; exact newL_rel hs (h2 i y v hi hv) (fun id hid => hag id (refs_mem (List.mem_of_getElem? hi) hid)) (newLs_mem hn y (List.mem_of_getElem? hi))
  | iface t x => cases hr with | iface h => exact .iface (newL_rel hs h hag hn)
  | _ => exact newL_rel hs hr hag hn
theorem newD_rel (hs : RelS B g w σ) {x : AV} {v : Value} (hr : Rel g w x v) (hag : ∀ id ∈ refsD x, σ id = (getO s id).fzd) (hn : newD s x) : Rel (inBlocks g B) w (nrmD s x) v := by
  cases x with
  | tuple cs =>
    obtain ⟨vs, h1, h2, rfl⟩ := inv_tuple hr
    refine .tuple (by simpa using h1) fun i x v hx hv => ?_
    rw [List.getElem?_map] at hx
    cases hi : cs[i]? with
    | none => rw [hi] at hx; exact nomatch hx
    | some y => rw [hi] at hx; cases hx; exact new1_rel hs (h2 i y v hi hv) (fun id hid => hag id (List.mem_flatMap.2 ⟨y, List.mem_of_getElem? hi, hid⟩)) (new1s_mem hn y (List.mem_of_getElem? hi))
  | func fn a b => exact hn.elim
  | _ => exact new1_rel hs hr hag hn
end

/-- a function's result, in new memory alone -/
def PureNew (P : Program) (fid : FuncId) (args : List AV) (v : AV) : Prop :=
  (∃ fn, P.funcs[fid]? = some fn ∧ fn.body.isSome = true ∧ (fn.name == "runtime.NumGoroutine") = false) ∧
  ∀ (st : Nat → Nat → Prop) (w : World) (vals : Array Value), (∀ b x, st b x → b < w.heap.size) → Tabs.ok st w → args.length = vals.size → (∀ (i : Nat) (x : AV) (u : Value), args[i]? = some x → vals[i]? = some u → Rel (stG st) w x u) →
    Calls P fid vals w fun e w' => ∃ st' val, e = .returned val ∧ Ext (fun b => w.heap.size ≤ b) (stG st) w (stG st') w' ∧ (∀ b x, st' b x → b < w'.heap.size) ∧ Rel (inBlocks (stG st') (fun b => w.heap.size ≤ b)) w' v val

theorem PureNew.pure {P : Program} {fid : FuncId} {args : List AV} {v : AV} (h : PureNew P fid args v) (hv : flatD v = true) : PureCall P fid args v := by
  refine ⟨h.1, fun st w vals h1 ht h2 h3 => Calls.mono (h.2 st w vals h1 ht h2 h3) fun e w' he => ?_⟩
  obtain ⟨st', val, q1, q2, q3, q4⟩ := he
  exact ⟨st', val, q1, q2, q3, flatD_rel (g := inBlocks (stG st') (fun b => w.heap.size ≤ b)) (g' := stG st') (fun b o h => h.1) q4 hv⟩

/-- no memory behind a value -/
def scalD : AV → Bool
  | .tuple cs => cs.all fun x => match x with
    | .agg ds => ds.all AV.scal
    | x => x.scal
  | .agg ds => ds.all AV.scal
  | x => x.scal
theorem scalD_rel {g g' : Gh} {w : World} {v : AV} {u : Value} (h : Rel g w v u) (hs : scalD v = true) : Rel g' w v u := by
  cases v with
  | agg ds =>
    obtain ⟨vs, h1, h2, rfl⟩ := inv_agg h
    exact .agg h1 fun i x v hx hv => scal_rel (h2 i x v hx hv) (List.all_eq_true.1 hs x (List.mem_of_getElem? hx))
  | tuple cs =>
    obtain ⟨vs, h1, h2, rfl⟩ := inv_tuple h
    refine .tuple h1 fun i x v hx hv => ?_
    have hm := List.all_eq_true.1 hs x (List.mem_of_getElem? hx)
    have hr := h2 i x v hx hv
    cases x with
    | agg ds =>
      obtain ⟨us, q1, q2, rfl⟩ := inv_agg hr
      exact .agg q1 fun i x v hx hv => scal_rel (q2 i x v hx hv) (List.all_eq_true.1 hm x (List.mem_of_getElem? hx))
    | _ => exact scal_rel hr hm
  | _ => exact scal_rel h hs
theorem PureCall.new {P : Program} {fid : FuncId} {args : List AV} {v : AV} (h : PureCall P fid args v) (hv : scalD v = true) : PureNew P fid args v := by
  refine ⟨h.1, fun st w vals h1 ht h2 h3 => Calls.mono (h.2 st w vals h1 ht h2 h3) fun e w' he => ?_⟩
  obtain ⟨st', val, q1, q2, q3, q4⟩ := he
  exact ⟨st', val, q1, q2, q3, scalD_rel q4 hv⟩

/-- what the run of such a function must end in -/
def RetRN (E : Env) (rs : List ResultVar) (v : AV) : Exit → List AV → List VObj → Prop
  | .ret, t, s => match resO E rs t s with
    | some r => force2 (nrmD s r) fun r' => newD s r ∧ r' = v
    | none => False
  | .normal, t, s => match resO E rs t s with
    | some r => force2 (nrmD s r) fun r' => newD s r ∧ r' = v
    | none => False
  | _, _, _ => False

section
variable {P : Program} {E : Env}

theorem contractN (hE : E.Fits P) {fid : FuncId} {fn : Func} {args : List AV} {v : AV} (hk : Known P fid fn) (h : RunD P ⟨0, 0⟩ (start fn args) (RetRN E fn.results.toList v)) : PureNew P fid args v := by
  have h := h.run
  obtain ⟨c, hc⟩ := Option.isSome_iff_exists.1 hk.body
  refine ⟨⟨fn, hk.funcs, hk.body, hk.name⟩, fun st w vals hsb htab hl hrel => ?_⟩
  have hfrm : Frm ⟨0, 0⟩ (fun b => w.heap.size ≤ b) (stG st) w := ⟨fun _ h => h, fun _ _ => rfl, fun _ _ => rfl, htab⟩
  have hS : StRel (fun b => w.heap.size ≤ b) (stG st) w (stG st) w (args ++ List.replicate (fn.ntmps - args.length) .dead) [] { tmps := vals ++ Array.replicate (fn.ntmps - vals.size) undef, defers := [] } := by
    refine ⟨Ext.refl _ _ _, ⟨fun id => ⟨rfl, rfl⟩, ?_, ?_, hsb⟩, ⟨by simp [hl], fun i x u hx hu => ?_⟩, rfl⟩
    · rintro id id' b (⟨o, h⟩ | ⟨ver, o, len, cap, h, _⟩) _ <;> exact nomatch h
    · rintro id b (⟨o, h⟩ | ⟨ver, o, len, cap, h, _⟩) <;> exact nomatch h
    · rw [List.getElem?_append] at hx
      rw [Array.getElem?_append] at hu
      by_cases hi : i < args.length
      · rw [if_pos hi] at hx
        rw [if_pos (by omega)] at hu
        exact hrel i x u hx hu
      · rw [if_neg hi, List.getElem?_replicate] at hx
        split at hx
        · cases hx; exact .dead _
        · exact nomatch hx
  have hw := run_elim (t := args ++ List.replicate (fn.ntmps - args.length) .dead) (s := []) (todo := [.code c]) (by rw [start, hc] at h; exact h) rfl hfrm hS
  refine calls_of_wp hk.funcs hc (wp_mono (show c.wp P _ _ _ from hw) fun e a w' he => ?_)
  have key : ∀ e, e = .ret ∨ e = .normal → after P (conc (fun b => w.heap.size ≤ b) (stG st) w (RetRN E fn.results.toList v)) [] e a w' →
      a.defers = [] ∧ ∃ u, (results fn a.tmps).run P w' = .ok u w' ∧ ∃ st' val, Ending.returned u = .returned val ∧ Ext (fun b => w.heap.size ≤ b) (stG st) w (stG st') w' ∧ (∀ b x, st' b x → b < w'.heap.size) ∧ Rel (inBlocks (stG st') (fun b => w.heap.size ≤ b)) w' v val := by
    rintro e hee ⟨t, s, g, hS', hR⟩
    have hR : ∃ r, resO E fn.results.toList t s = some r ∧ newD s r ∧ nrmD s r = v := by
      rcases hee with rfl | rfl
      all_goals
        simp only [RetRN, force2_eq] at hR
        split at hR
        · rename_i r hr; exact ⟨r, hr, hR⟩
        · exact hR.elim
    obtain ⟨r, hr, hnew, hR⟩ := hR
    obtain ⟨u, hrun, hval⟩ := run_results hE hS'.rs hS'.rt rfl hr
    refine ⟨hS'.defers, u, hrun, ?_⟩
    obtain ⟨g1, e1, r1, l1, k1⟩ := freeze_list (w := w') (g := g) (s := s) (refsD r) hS'.rs (fun id _ => rfl)
    have hnv := newD_rel (s := s) r1 (hval.mono e1) (fun id hid => by simp only [over, if_pos hid, getO_freeze]) hnew
    rw [hR] at hnv
    have hE : Ext (fun b => w.heap.size ≤ b) (stG st) w (stG g1.stab) w' :=
      { hS'.ext.trans e1 with
        stab := (hS'.ext.trans e1).stab
        keepS := (hS'.ext.trans e1).keepS
        loc := fun _ _ h => nomatch h
        hdr := fun _ _ _ h => nomatch h }
    exact ⟨g1.stab, _, rfl, hE, r1.sb, hnv⟩
  cases e with
  | normal => exact key _ (.inr rfl) he
  | ret => exact key _ (.inl rfl) he
  | _ => obtain ⟨t, s, g, _, hR⟩ := he; exact hR.elim

/-- a call of such a function: nothing is frozen -/
theorem vcall_new {fid : FuncId} {args : List AV} {s : List VObj} {R : AV → List VObj → FP → Prop} {v : AV} (hc : PureNew P fid (args.map (nrmD s)) v) (hv : flatD v = true)
    (hR : R v s ⟨args.flatMap refsD, []⟩) : VCall P fid args s R := by
  unfold VCall
  obtain ⟨hfn, hc⟩ := hc
  refine ⟨v, _, _, hR, fun id hid => rfl, hfn, fun B g w vals σ hB hl hrel hag hs htab => ?_⟩
  rw [over_nil]
  obtain ⟨g1, e1, r1, l1, k1⟩ := freeze_list (w := w) (g := g) (args.flatMap refsD) hs (fun id hid => hag id (.inl hid))
  have hcall := hc g1.stab w vals (fun b x h => r1.sb b x h) (Tabs.ext htab e1) (by simpa using hl) (fun i x u hx hu => by
    rw [List.getElem?_map] at hx
    cases hi : args[i]? with
    | none => rw [hi] at hx; exact nomatch hx
    | some y =>
      rw [hi] at hx; cases hx
      have := nrmD_rel (s := s) r1 ((hrel i y u hi hu).mono e1) fun id hid => by
        have hm : id ∈ args.flatMap refsD := List.mem_flatMap.2 ⟨y, List.mem_of_getElem? hi, hid⟩
        simp only [over, if_pos hm, getO_freeze]
      exact flatD_rel (g := g1) (g' := stG g1.stab) (fun _ _ h => h) this (nrmD_flat s y))
  refine Calls.mono hcall fun e w' he => ?_
  obtain ⟨st', val, rfl, e2, hsb, hval⟩ := he
  let g2 : Gh := { g with stab := fun b o => g.stab b o ∨ (st' b o ∧ w.heap.size ≤ b) }
  have hold : ∀ b o, b < w.heap.size → (g2.stab b o ↔ g.stab b o) := fun b o hb => ⟨fun h => h.elim id fun h => by omega, .inl⟩
  have e3 : Ext B g w g2 w' :=
    { size := e2.size
      stab := fun b o h => .inl h
      same := fun b o h => e2.same b o (e1.stab b o h)
      keep := fun b hb => e2.keep b fun h => hb (hB b h)
      keepS := fun b o hb h => h.elim id fun h => (hb (hB b h.2)).elim
      loc := fun _ _ h => h
      hdr := fun _ ver h e => ⟨ver, h, e, Nat.le_refl _, fun _ => rfl⟩
      low := e2.low }
  refine ⟨g2, val, rfl, e3, ?_, flatD_rel (g := inBlocks (stG st') (fun b => w.heap.size ≤ b)) (g' := g2) (fun b o h => .inr h) hval hv⟩
  refine ⟨fun id => (hs.obj id).keep e3 rfl rfl fun b hk => ⟨e2.keep b (by have := hs.lt hk; omega), fun x => hold b x (hs.lt hk)⟩, hs.apart, hs.inB, fun b x h => ?_⟩
  rcases h with h | h
  · have := hs.sb b x h; have := e2.size; omega
  · exact hsb b x h.1

theorem call_new {fid : FuncId} {args args' : List AV} {s : List VObj} {R : AV → List VObj → FP → Prop} {v : AV} (hc : PureNew P fid args' v) (ha : args.map (nrmD s) = args') (hv : flatD v = true)
    (hR : R v s ⟨args.flatMap refsD, []⟩) : VCall P fid args s R := vcall_new (ha ▸ hc) hv hR
/-- .. of a function whose result has no memory behind it -/
theorem call_scal {fid : FuncId} {args args' : List AV} {s : List VObj} {R : AV → List VObj → FP → Prop} {v : AV} (hc : PureCall P fid args' v) (ha : args.map (nrmD s) = args') (hv : flatD v = true) (hs : scalD v = true)
    (hR : R v s ⟨args.flatMap refsD, []⟩) : VCall P fid args s R := vcall_new (ha ▸ hc.new hs) hv hR

end
end Go.Proofs.YtllpenkgaomdfaaDoor.Vm
/- Weaker states: an array object's slice as a window on all of it. -/
set_option linter.all false
namespace Go.Proofs.YtllpenkgaomdfaaDoor.Vm
open Go
variable [Tabs]
/- Branches, their conditions told. -/
theorem br_dec {p A B : Prop} [Decidable p] (h1 : p → A) (h2 : ¬ p → B) : (decide p = true → A) ∧ (decide p = false → B) := ⟨fun h => h1 (of_decide_eq_true h), fun h => h2 (of_decide_eq_false h)⟩
theorem br_ndec {p A B : Prop} [Decidable p] (h1 : ¬ p → A) (h2 : p → B) : ((!decide p) = true → A) ∧ ((!decide p) = false → B) := ⟨fun h => h1 (by simpa using h), fun h => h2 (by simpa using h)⟩
theorem br_not {b : Bool} {A B : Prop} (h1 : b = false → A) (h2 : b = true → B) : ((!b) = true → A) ∧ ((!b) = false → B) := ⟨fun h => h1 (by simpa using h), fun h => h2 (by simpa using h)⟩

section
variable {P : Program} {N : NN} {R : Exit → List AV → List VObj → Prop}

theorem weak_sref {k id ver esz : Nat} {nn : Option Bool} {es : List (List AV)} {fz : Bool} {t : List AV} {s : List VObj} (hk : t[k]? = some (.sall id ver)) (ho : getO s id = .arr ver esz nn es fz) : Weak N t s (t.set k (.sref id ver esz 0 es.length)) s := by
  intro B g0 w0 hf g a w hS
  refine ⟨g, hS.ext, hS.rs, ⟨by rw [List.length_set]; exact hS.rt.size, fun i x v hx hv => ?_⟩, hS.defers⟩
  rw [List.getElem?_set] at hx
  split at hx
  · rename_i hki
    subst hki
    split at hx
    · cases hx
      have hr := hS.rt.rel k _ v hk hv
      obtain ⟨ver0, hd, ad, len, cap, r1, r2, r3, rfl⟩ := inv_sall hr
      have hobj := hS.rs.obj id
      rw [ho] at hobj
      obtain ⟨_, _, _, _, hcase⟩ := hobj
      rcases hcase with ⟨a', k1, rfl, k3, k4⟩ | ⟨b, o, cap', vs, k1, k0, k2, k3, _⟩
      · have k1' := k1
        rw [k1] at r1; cases r1
        have r3 := r3 rfl; cases r3
        exact .sref k1' (Nat.le_refl _) fun _ => .inl ⟨rfl, rfl, rfl, rfl⟩
      · have k1' := k1
        rw [k1] at r1; cases r1
        have r3 := r3 rfl; cases r3
        exact .sref k1' (Nat.le_refl _) fun _ => .inr ⟨b, o, _, _, o, rfl, rfl, fun _ => by omega, by omega, k3⟩
    · exact nomatch hx
  · exact hS.rt.rel i x v hx hv

theorem loop_srefD {k id ver esz : Nat} {nn : Option Bool} {es : List (List AV)} {fz : Bool} {t : List AV} {s : List VObj} {body : Code} {todo : List VItem} (hk : t[k]? = some (.sall id ver)) (ho : getO s id = .arr ver esz nn es fz)
    (h : LoopRunD P N body ⟨t.set k (.sref id ver esz 0 es.length), s, todo⟩ R) : LoopRunD P N body ⟨t, s, todo⟩ R := by
  unfold LoopRunD at h ⊢
  exact h.map fun R' => run_weak (weak_sref hk ho) (fun x r e => by cases e; rfl)

/-- a loop's state, with what is no longer looked at let go -/
theorem loop_canonD (keep : List Nat) (n : Nat) {t : List AV} {s : List VObj} {body : Code} {todo : List VItem} (hl : N.l ≤ n) (hn : N.v ≤ n)
    (h : forceC (canonT N.v keep n s t) fun t' => forceS (canonS N.v n s) fun s' => LoopRunD P N body ⟨t', s', todo⟩ R) : LoopRunD P N body ⟨t, s, todo⟩ R := by
  rw [forceC_eq, forceS_eq] at h
  unfold LoopRunD at h ⊢
  exact h.map fun R' => run_weak (weak_canon keep hl hn rfl rfl) (fun x r e => by cases e; rfl)
end
end Go.Proofs.YtllpenkgaomdfaaDoor.Vm
/- The abstract machine, all of it. -/
/- A box takes another one's place: loops whose variable is made anew in each round. -/
set_option linter.all false
namespace Go.Proofs.YtllpenkgaomdfaaDoor.Vm
open Go
variable [Tabs]

def mvV (h m : Nat) : AV → Bool
  | .ptr id _ => !(Nat.beq id h) && !(Nat.beq id m)
  | .sall .. | .sref .. | .eptr .. | .kb _ => true
  | x => x.flat
def mvT (k h m : Nat) : Nat → List AV → Bool
  | _, [] => true
  | i, x :: xs => (Nat.beq i k || mvV h m x) && mvT k h m (i + 1) xs
def mvC (h m : Nat) : VObj → Bool
  | .box cs _ => cs.all (mvV h m)
  | .tbox _ cs => cs.all (mvV h m)
  | _ => true
def mvO (h m : Nat) : Nat → List VObj → Bool
  | _, [] => true
  | i, x :: xs => (Nat.beq i h || mvC h m x) && mvO h m (i + 1) xs

theorem mvT_at {k h m : Nat} : ∀ {t : List AV} {i0 i : Nat} {x : AV}, mvT k h m i0 t = true → t[i]? = some x → i0 + i ≠ k → mvV h m x = true := by
  intro t
  induction t with
  | nil => intro i0 i x _ hx; exact nomatch hx
  | cons y t ih =>
    intro i0 i x hm hx hk
    simp only [mvT, Bool.and_eq_true, Bool.or_eq_true] at hm
    cases i with
    | zero =>
      cases hx
      rcases hm.1 with e | e
      · exact (hk (by simpa using Nat.eq_of_beq_eq_true e)).elim
      · exact e
    | succ i => exact ih hm.2 (by simpa using hx) (by omega)
theorem mvO_at {h m : Nat} : ∀ {s : List VObj} {i0 i : Nat} {cs : List AV} {fz : Bool}, mvO h m i0 s = true → getO s i = .box cs fz → i0 + i ≠ h → ∀ x ∈ cs, mvV h m x = true := by
  intro s
  induction s with
  | nil => intro i0 i cs fz _ hx; simp [getO] at hx
  | cons y s ih =>
    intro i0 i cs fz hm hx hk
    simp only [mvO, Bool.and_eq_true, Bool.or_eq_true] at hm
    cases i with
    | zero =>
      have hx : y = .box cs fz := hx
      subst hx
      rcases hm.1 with e | e
      · exact (hk (by simpa using Nat.eq_of_beq_eq_true e)).elim
      · simpa [mvC] using e
    | succ i => exact ih hm.2 hx (by omega)

theorem mvO_at2 {h m : Nat} : ∀ {s : List VObj} {i0 i : Nat} {T : TypeId} {cs : List AV}, mvO h m i0 s = true → getO s i = .tbox T cs → i0 + i ≠ h → ∀ x ∈ cs, mvV h m x = true := by
  intro s
  induction s with
  | nil => intro i0 i T cs hm hx; simp [getO] at hx
  | cons y s ih =>
    intro i0 i T cs hm hx hk
    simp only [mvO, Bool.and_eq_true, Bool.or_eq_true] at hm
    cases i with
    | zero =>
      have hx : y = .tbox T cs := hx
      subst hx
      rcases hm.1 with e | e
      · exact (hk (by simpa using Nat.eq_of_beq_eq_true e)).elim
      · simpa [mvC] using e
    | succ i => exact ih hm.2 hx (by omega)

def mvG (h m : Nat) (g : Gh) : Gh := { g with loc := fun id => if id = h then g.loc m else if id = m then none else g.loc id }

section
variable {h m : Nat} {g : Gh} {w : World} {B : Nat → Prop} {s : List VObj}

theorem mv_rel {x : AV} {v : Value} (hr : Rel g w x v) (hx : mvV h m x = true) : Rel (mvG h m g) w x v := by
  cases x with
  | ptr id off =>
    obtain ⟨b, o, hl, rfl⟩ := inv_ptr hr
    simp only [mvV, Bool.and_eq_true, Bool.not_eq_true'] at hx
    have h1 : id ≠ h := fun e => by rw [e, Nat.beq_refl] at hx; exact nomatch hx.1
    have h2 : id ≠ m := fun e => by rw [e, Nat.beq_refl] at hx; exact nomatch hx.2
    exact .ptr (by simp only [mvG, if_neg h1, if_neg h2]; exact hl)
  | sall id ver =>
    obtain ⟨ver0, hd, ad, len, cap, r1, r2, r3, rfl⟩ := inv_sall hr
    exact .sall (g := mvG h m g) r1 r2 r3
  | sref id ver esz off len =>
    obtain ⟨ver0, hd, a, cap, r1, r2, r3, rfl⟩ := inv_sref hr
    exact .sref (g := mvG h m g) r1 r2 r3
  | eptr id ver esz i off =>
    obtain ⟨ver0, hd, a, r1, r2, r3, rfl⟩ := inv_eptr hr
    exact .eptr (g := mvG h m g) r1 r2 r3
  | kb b => cases hr with | kb => exact .kb b
  | _ => exact Rel.flatG (g := g) (g' := mvG h m g) (fun _ _ e => e) hr hx

def mvI (h m id : Nat) : Nat := if id = h then m else id
theorem mv_blk {id b : Nat} (hh : g.hdr h = none) (hm : g.hdr m = none) (hb : blk (mvG h m g) id b) : blk g (mvI h m id) b ∧ id ≠ m ∨ blk g (mvI h m id) b ∧ h = m := by
  rcases hb with ⟨o, e⟩ | ⟨ver, o, len, cap, e, hc⟩
  · simp only [mvG] at e
    split at e
    · rename_i hi; subst hi
      by_cases hq : id = m
      · right; exact ⟨.inl ⟨o, by rw [mvI, if_pos rfl]; exact e⟩, hq⟩
      · left; exact ⟨.inl ⟨o, by rw [mvI, if_pos rfl]; exact e⟩, hq⟩
    · split at e
      · exact nomatch e
      · rename_i h1 h2
        left; exact ⟨.inl ⟨o, by rw [mvI, if_neg h1]; exact e⟩, h2⟩
  · have e : g.hdr id = some (ver, .slice (some ⟨b, o, none⟩) len cap) := e
    have h1 : id ≠ h := fun q => by rw [q, hh] at e; exact nomatch e
    have h2 : id ≠ m := fun q => by rw [q, hm] at e; exact nomatch e
    left; exact ⟨.inr ⟨ver, o, len, cap, by rw [mvI, if_neg h1]; exact e, hc⟩, h2⟩

theorem mv_relS {cs c0 : List AV} {fz fz0 : Bool} (hne : h ≠ m) (ho : getO s m = .box cs fz) (ho0 : getO s h = .box c0 fz0) (hok : mvO h m 0 s = true) (hs : RelS B g w (getO s)) :
    RelS B (mvG h m g) w (getO (setO (setO s h (.box cs fz)) m .gone)) := by
  have obm := hs.obj m
  rw [ho] at obm
  have obh := hs.obj h
  rw [ho0] at obh
  have hh := obh.1
  have hm := obm.1
  have hbk : ∀ {id b}, blk (mvG h m g) id b → blk g (mvI h m id) b ∧ id ≠ m := fun hb => by
    rcases mv_blk hh hm hb with q | q
    · exact q
    · exact (hne q.2).elim
  refine ⟨fun id => ?_, fun id id' b q q' => ?_, fun id b q => hs.inB _ b (hbk q).1, hs.sb⟩
  · rw [getO_setO, getO_setO]
    by_cases h1 : id = m
    · rw [if_pos h1]
      subst h1
      exact ⟨by simp only [mvG, if_neg (Ne.symm hne)]; rfl, hm⟩
    rw [if_neg h1]
    by_cases h2 : id = h
    · rw [if_pos h2]
      subst h2
      obtain ⟨_, b, o, vs, k2, k3, k4, k5, k6, k7⟩ := obm
      refine ⟨hh, b, o, vs, by simp only [mvG, if_true]; exact k2, k3, k4, fun j c hj => ⟨(k5 j c hj).1, mv_rel (k5 j c hj).2 (mvO_at hok ho (by omega) c (List.mem_of_getElem? hj))⟩, k6, k7⟩
    rw [if_neg h2]
    have hobj := hs.obj id
    have hloc : (mvG h m g).loc id = g.loc id := by simp only [mvG, if_neg h1, if_neg h2]
    cases hoi : getO s id with
    | gone => rw [hoi] at hobj; exact ⟨hloc.trans hobj.1, hobj.2⟩
    | map kt vt es =>
      rw [hoi] at hobj
      obtain ⟨k1, b, clock, en, k2, k3, k4, k5, k6, k7, k8⟩ := hobj
      refine ⟨k1, b, clock, en, hloc.trans k2, k3, k4, k5, fun i x e hx he => ?_, k7, k8⟩
      have hf := k7 x (List.mem_of_getElem? hx)
      exact ⟨(k6 i x e hx he).1.flatG (g := g) (g' := mvG h m g) (fun _ _ h => h) hf.1, (k6 i x e hx he).2.flatG (g := g) (g' := mvG h m g) (fun _ _ h => h) hf.2⟩
    | box cs' fz' =>
      rw [hoi] at hobj
      obtain ⟨k1, b, o, vs, k2, k3, k4, k5, k6, k7⟩ := hobj
      exact ⟨k1, b, o, vs, hloc.trans k2, k3, k4, fun j c hj => ⟨(k5 j c hj).1, mv_rel (k5 j c hj).2 (mvO_at hok hoi (by omega) c (List.mem_of_getElem? hj))⟩, k6, k7⟩
    | tbox T cs' =>
      rw [hoi] at hobj
      obtain ⟨k1, b, vs, k2, k3, k4, k5, k6, k7⟩ := hobj
      exact ⟨k1, b, vs, hloc.trans k2, k3, k4, k5, fun j c hj => ⟨(k6 j c hj).1, mv_rel (k6 j c hj).2 (mvO_at2 hok hoi (by omega) c (List.mem_of_getElem? hj))⟩, k7⟩
    | buf T ver bs =>
      rw [hoi] at hobj
      obtain ⟨k1, b, cap, q1, q2⟩ := hobj
      exact ⟨hloc.trans k1, b, cap, q1, q2⟩
    | spent ver =>
      rw [hoi] at hobj
      obtain ⟨k1, b, n, cap, q1, q2⟩ := hobj
      exact ⟨hloc.trans k1, b, n, cap, q1, q2⟩
    | arr ver esz nn es fz' =>
      rw [hoi] at hobj
      obtain ⟨k1, k2, k3, k4, hcase⟩ := hobj
      refine ⟨hloc.trans k1, k2, k3, k4, ?_⟩
      rcases hcase with ⟨a, q1, q2, q3⟩ | ⟨b, o, cap, vs, q1, q0, q2, q3, q4, q5, q6, q7, q8, q9⟩
      · exact .inl ⟨a, q1, q2, q3⟩
      · exact .inr ⟨b, o, cap, vs, q1, q0, q2, q3, q4, q5, q6, fun i c j x hi hj => ⟨(q7 i c j x hi hj).1, (q7 i c j x hi hj).2.pureG (g := g) (g' := mvG h m g) (fun _ _ h => h) (k2 c (List.mem_of_getElem? hi) x (List.mem_of_getElem? hj))⟩, q8, q9⟩
  · obtain ⟨q1, n1⟩ := hbk q
    obtain ⟨q2, n2⟩ := hbk q'
    have := hs.apart _ _ b q1 q2
    simp only [mvI] at this
    split at this <;> split at this <;> omega
end

section
variable {P : Program} {N : NN} {R : Exit → List AV → List VObj → Prop}

theorem weak_move {k h m : Nat} {t : List AV} {s : List VObj} {cs c0 : List AV} {fz fz0 : Bool} (hh : N.l ≤ h) (hm : N.l ≤ m) (hne : h ≠ m) (hk : t[k]? = some (.ptr m 0)) (ho : getO s m = .box cs fz) (ho0 : getO s h = .box c0 fz0)
    (hok : mvO h m 0 s = true) (hot : mvT k h m 0 t = true) : Weak N t s (t.set k (.ptr h 0)) (setO (setO s h (.box cs fz)) m .gone) := by
  intro B g0 w0 hf g a w hS
  refine ⟨mvG h m g, ?_, mv_relS hne ho ho0 hok hS.rs, ⟨by rw [List.length_set]; exact hS.rt.size, fun i x v hx hv => ?_⟩, hS.defers⟩
  · exact { hS.ext with
      stab := hS.ext.stab
      keepS := hS.ext.keepS
      loc := fun id x e => by
        have hid : id < N.l := by
          rcases Nat.lt_or_ge id N.l with h' | h'
          · exact h'
          · rw [hf.ownl id h'] at e; exact nomatch e
        simp only [mvG, if_neg (show id ≠ h by omega), if_neg (show id ≠ m by omega)]
        exact hS.ext.loc id x e
      hdr := hS.ext.hdr }
  · rw [List.getElem?_set] at hx
    split at hx
    · rename_i hki
      subst hki
      split at hx
      · cases hx
        obtain ⟨b, o, hl, rfl⟩ := inv_ptr (hS.rt.rel k _ v hk hv)
        exact .ptr (by simp only [mvG, if_true]; exact hl)
      · exact nomatch hx
    · rename_i hki
      exact mv_rel (hS.rt.rel i x v hx hv) (mvT_at hot hx (by omega))

/-- the round's end: the variable of slot k, made anew, takes its old place h -/
def mvEnd (N : NN) (keep : List Nat) (n k h : Nat) (t : List AV) (s : List VObj) (again : List AV → List VObj → Prop) : Prop :=
  match t.getD k .dead with
  | .ptr m 0 => Nat.blt h m = true ∧ forceC (canonT N.v keep (m + 1) s t) fun t1 => forceS (canonS N.v (m + 1) s) fun s1 =>
      match t1[k]?, getO s1 m, getO s1 h with
      | some (.ptr m' 0), .box cs fz, .box _ _ => Nat.beq m m' = true ∧ mvO h m 0 s1 = true ∧ mvT k h m 0 t1 = true ∧
          forceC (canonT N.v keep n (setO (setO s1 h (.box cs fz)) m .gone) (t1.set k (.ptr h 0))) fun t2 => forceS (canonS N.v n (setO (setO s1 h (.box cs fz)) m .gone)) fun s2 => again t2 s2
      | _, _, _ => False
  | _ => False
def LoopRM (P : Program) (N : NN) (todo : List VItem) (R : Exit → List AV → List VObj → Prop) (keep : List Nat) (n k h : Nat) (again : List AV → List VObj → Prop) : Exit → List AV → List VObj → Prop
  | .normal, t, s => mvEnd N keep n k h t s again
  | .exit id, t, s => match popTo id todo with
    | some r => RunD P N ⟨t, s, r⟩ R
    | none => R (.exit id) t s
  | .ret, t, s => R .ret t s
  | _, _, _ => False

theorem mvEnd_weak {keep : List Nat} {n k h : Nat} {t : List AV} {s : List VObj} {again : List AV → List VObj → Prop} (hl : N.l ≤ n) (hn : N.v ≤ n) (hh : N.l ≤ h) (hv : N.v ≤ h) (e : mvEnd N keep n k h t s again) : ∃ t' s', again t' s' ∧ Weak N t s t' s' := by
  unfold mvEnd at e
  split at e
  · rename_i m _
    rw [forceC_eq, forceS_eq] at e
    obtain ⟨e1, e⟩ := e
    have hlt : h < m := Nat.le_of_ble_eq_true e1
    split at e
    · rename_i m' cs fz c0 fz0 h1 h2 h3
      obtain ⟨e2, e3, e4, e⟩ := e
      have := Nat.eq_of_beq_eq_true e2
      subst this
      rw [forceC_eq, forceS_eq] at e
      exact ⟨_, _, e, ((weak_canon (n := m + 1) keep (by omega) (by omega) rfl rfl).trans (weak_move hh (by omega) (by omega) h1 h2 h3 e3 e4)).trans (weak_canon (n := n) keep hl hn rfl rfl)⟩
    · exact e.elim
  · exact e.elim

theorem loop_moveD {ι : Type} (I : ι → Prop) (keep : List Nat) (n k h : Nat) (U : ι → List (Nat × AV)) (V : ι → List (Nat × VObj)) (μ : ι → Nat) (i0 : ι) {t : List AV} {s : List VObj} {body : Code} {todo : List VItem} (hl : N.l ≤ n) (hn : N.v ≤ n) (hh : N.l ≤ h) (hv : N.v ≤ h)
    (hb : forceC (canonT N.v keep n s t) fun t0 => forceS (canonS N.v n s) fun s0 => updT t0 (U i0) = t0 ∧ updS s0 (V i0) = s0 ∧ I i0 ∧ ∀ i, I i → RunD P N ⟨updT t0 (U i), updS s0 (V i), [.code body]⟩
      (LoopRM P N todo R keep n k h fun t' s' => ∃ j, I j ∧ μ j < μ i ∧ t' = updT t0 (U j) ∧ s' = updS s0 (V j))) : LoopRunD P N body ⟨t, s, todo⟩ R := by
  rw [forceC_eq, forceS_eq] at hb
  obtain ⟨h0, h1, hI, hb⟩ := hb
  refine loop_ruleD (ι := { i : ι // I i }) (fun i => updT (canonT N.v keep n s t) (U i.1)) (fun i => updS (canonS N.v n s) (V i.1)) (fun i => μ i.1) ⟨i0, hI⟩ (weak_canon keep hl hn h0.symm h1.symm) fun i => (hb i.1 i.2).mono fun e t' s' q => ?_
  cases e with
  | normal =>
    obtain ⟨t2, s2, ⟨j, q0, q1, q2, q3⟩, hw⟩ := mvEnd_weak hl hn hh hv (show mvEnd N keep n k h t' s' _ from q)
    subst q2; subst q3
    exact ⟨⟨j, q0⟩, q1, hw⟩
  | _ => exact q
end
end Go.Proofs.YtllpenkgaomdfaaDoor.Vm
/- Contracts of the library's functions, in the machine's words; what is known of the program's tables. -/
set_option linter.all false
namespace Go.Proofs.YtllpenkgaomdfaaDoor.Vm
open Go Go.RowKit

/-- variables whose cells are known to satisfy something -/
abbrev tabsOf (P : Program) (l : List (String × (Array Value → Prop))) : Tabs where
  ok st w := ∀ n q, (n, q) ∈ l → ∃ g cs, P.globalNamed n = some g ∧ (∀ o, st g o) ∧ w.var? P n = some cs ∧ 0 < cs.size ∧ q cs
  mono {st st' w w'} h h1 h2 := by
    intro n q hm
    obtain ⟨g, cs, k1, k2, k3, k4, k5⟩ := h n q hm
    refine ⟨g, cs, k1, fun o => h1 _ _ (k2 o), ?_, k4, k5⟩
    have hc : ∀ o, w'.cell? ⟨g, o, none⟩ = cs[o]? := fun o => by rw [h2 g o (k2 o), World.var?_cell k1 k3 o]
    have h0 := hc 0
    rw [Array.getElem?_eq_getElem k4] at h0
    simp only [World.var?, k1, Option.bind_some]
    simp only [World.cell?] at hc h0
    split
    · rename_i cs' t z hh
      simp only [hh] at hc
      congr 1
      apply Array.ext_getElem?
      intro o
      simpa using hc o
    · rename_i hne
      exfalso
      cases hh : w'.heap[g]? with
      | none => simp [hh] at h0
      | some ob => cases ob <;> simp_all

/-- a small number, written out -/
def forceN {A : Type} : Nat → (Nat → A) → A
  | 0, k => k 0
  | n + 1, k => forceN n fun m => k (Nat.succ m)
theorem forceN_eq {A : Type} : ∀ (n : Nat) (k : Nat → A), forceN n k = k n
  | 0, k => rfl
  | n + 1, k => forceN_eq n fun m => k (Nat.succ m)
def verL {A : Type} (S : List VObj) : List Nat → (List Nat → A) → A
  | [], k => k []
  | id :: r, k => forceN (verO (getO S id)) fun v => verL S r fun vs => k (v :: vs)
theorem verL_eq {A : Type} (S : List VObj) : ∀ (ρ : List Nat) (k : List Nat → A), verL S ρ k = k (ρ.map fun id => verO (getO S id))
  | [], k => rfl
  | id :: r, k => by rw [verL, forceN_eq, verL_eq S r]; rfl
section
variable [Tabs] {P : Program}
/-- vcall_obj, with the versions written out -/
theorem vcall_objS {keep : Bool} {fid : FuncId} {args args' : List AV} {s s2 S : List VObj} {v : AV} {R : AV → List VObj → FP → Prop} (hc : ObjCall P keep fid args s v s2) (ρ : List Nat) (hv : flatD v = true) (hn : nodupB ρ = true) (hl : s.length = ρ.length) (hl2 : s2.length ≤ ρ.length) (hkd : kindsOk s2 0 s = true)
    (ha : args'.map (invN ρ S 3) = args) (hs : ρ.map (fun id => invO ρ S (getO S id)) = s)
    (hR : verL S ρ fun vs => R v (putR ρ (fun k : Nat => vs.getD k 0 + cond keep 0 1) s2 0 ρ S) ⟨[], ρ⟩) : VCall P fid args' S R := by
  refine vcall_obj hc ρ hv hn hl hl2 hkd ha hs ?_
  rw [verL_eq] at hR
  have : (fun k : Nat => (ρ.map fun id => verO (getO S id)).getD k 0 + cond keep 0 1) = fun k : Nat => (match ρ[k]? with | some id => verO (getO S id) | none => 0) + cond keep 0 1 := by
    funext k
    rw [List.getD_eq_getElem?_getD, List.getElem?_map]
    cases ρ[k]? <;> rfl
  rw [this] at hR
  exact hR

theorem ext_of_below {st st' : Nat → Nat → Prop} {w w' : World} (hb : Below w.heap.size w w') (hlt : ∀ b x, st b x → b < w.heap.size) (h1 : ∀ b o, st b o → st' b o) (h2 : ∀ b o, b < w.heap.size → st' b o → st b o) :
    Ext (fun b => w.heap.size ≤ b) (stG st) w (stG st') w' where
  size := hb.size
  stab := h1
  same b o h := hb.cell (hlt b o h)
  keep b h := hb.block b (by omega)
  keepS b o h h' := h2 b o (by omega) h'
  loc _ _ h := nomatch h
  hdr _ _ _ h := nomatch h
  low := ⟨hb.os, hb.tape, hb.output⟩

/-- a function of the library whose result has no memory behind it -/
theorem pure_of_calls {fid : FuncId} {args : List AV} {v : AV} (hfn : ∃ fn, P.funcs[fid]? = some fn ∧ fn.body.isSome = true ∧ (fn.name == "runtime.NumGoroutine") = false)
    (h : ∀ (st : Nat → Nat → Prop) (w : World) (vals : Array Value), (∀ b x, st b x → b < w.heap.size) → Tabs.ok st w → args.length = vals.size → (∀ (i : Nat) (x : AV) (u : Value), args[i]? = some x → vals[i]? = some u → Rel (stG st) w x u) →
      Calls P fid vals w fun e w' => ∃ val, e = .returned val ∧ Below w.heap.size w w' ∧ Rel (stG st) w' v val) : PureCall P fid args v :=
  ⟨hfn, fun st w vals hlt htab hl hrel => (h st w vals hlt htab hl hrel).mono fun e w' ⟨val, he, hb, hv⟩ =>
    ⟨st, val, he, ext_of_below hb hlt (fun _ _ h => h) (fun _ _ _ h => h), fun b x h => Nat.lt_of_lt_of_le (hlt b x h) hb.size, hv⟩⟩

/-- .. whose result lies in new memory -/
theorem new_of_calls {fid : FuncId} {args : List AV} {v : AV} (hf : flatD v = true) (hfn : ∃ fn, P.funcs[fid]? = some fn ∧ fn.body.isSome = true ∧ (fn.name == "runtime.NumGoroutine") = false)
    (h : ∀ (st : Nat → Nat → Prop) (w : World) (vals : Array Value), (∀ b x, st b x → b < w.heap.size) → Tabs.ok st w → args.length = vals.size → (∀ (i : Nat) (x : AV) (u : Value), args[i]? = some x → vals[i]? = some u → Rel (stG st) w x u) →
      Calls P fid vals w fun e w' => ∃ val, e = .returned val ∧ Below w.heap.size w w' ∧ Rel (stG fun b _ => w.heap.size ≤ b ∧ b < w'.heap.size) w' v val) : PureNew P fid args v :=
  ⟨hfn, fun st w vals hlt htab hl hrel => (h st w vals hlt htab hl hrel).mono fun e w' ⟨val, he, hb, hv⟩ =>
    ⟨fun b o => st b o ∨ (w.heap.size ≤ b ∧ b < w'.heap.size), val, he, ext_of_below hb hlt (fun _ _ h => .inl h) (fun b o hl h => h.elim id fun h => by omega), fun b x h => by
      rcases h with h | h
      · exact Nat.lt_of_lt_of_le (hlt b x h) hb.size
      · exact h.2,
      flatD_rel (g := stG fun b _ => w.heap.size ≤ b ∧ b < w'.heap.size) (g' := inBlocks (stG fun b o => st b o ∨ (w.heap.size ≤ b ∧ b < w'.heap.size)) fun b => w.heap.size ≤ b) (fun b o h => ⟨.inr h, h.1⟩) hv hf⟩⟩
end
end Go.Proofs.YtllpenkgaomdfaaDoor.Vm
