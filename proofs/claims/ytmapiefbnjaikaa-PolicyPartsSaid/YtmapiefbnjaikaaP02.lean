/- Functions: contracts, and calls of functions that have one. -/
import Derived.Test.YtmapiefbnjaikaaP01
import Derived.Deep.Slices
import Derived.Carry
import Derived.OpenShut
import Derived.WalkKit
import Derived.ProofKit
import Derived.JoinedCond
set_option linter.all false
namespace Go.Proofs.Ytmapiefbnjaikaa.Vm
open Go

/-- the ghost of a memory of which only stable cells are known -/
def stG (st : Nat → Nat → Prop) : Gh := ⟨fun _ => none, fun _ => none, st⟩

/-- a function's result, from arguments that lead into no object: 'v', with a stable memory behind it -/
def PureCall (P : Program) (fid : FuncId) (args : List AV) (v : AV) : Prop :=
  (∃ fn, P.funcs[fid]? = some fn ∧ fn.body.isSome = true ∧ (fn.name == "runtime.NumGoroutine") = false) ∧
  ∀ (st : Nat → Nat → Prop) (w : World) (vals : Array Value), (∀ b x, st b x → b < w.heap.size) → args.length = vals.size → (∀ (i : Nat) (x : AV) (u : Value), args[i]? = some x → vals[i]? = some u → Rel (stG st) w x u) →
    Calls P fid vals w fun e w' => ∃ st' val, e = .returned val ∧ Ext (fun b => w.heap.size ≤ b) (stG st) w (stG st') w' ∧ (∀ b x, st' b x → b < w'.heap.size) ∧ Rel (stG st') w' v val

/-- a value once all it leads to is frozen -/
def nrm1 (s : List VObj) : AV → AV
  | .agg cs => .agg (cs.map (nrm s))
  | .iface t x => .iface t (nrm s x)
  | v => nrm s v
def nrmD (s : List VObj) : AV → AV
  | .tuple cs => .tuple (cs.map (nrm1 s))
  | .func fn first cap => .func fn (first.map (nrm1 s)) (cap.map (nrm1 s))
  | v => nrm1 s v
def refs1 : AV → List Nat
  | .agg cs => cellsRefs cs
  | .iface _ x => refsOf x
  | v => refsOf v
def refsD : AV → List Nat
  | .tuple cs => cs.flatMap refs1
  | .func _ first cap => first.flatMap refs1 ++ cap.flatMap refs1
  | v => refs1 v

section
variable {P : Program} {N : NN}

theorem nrm1_rel {B : Nat → Prop} {g : Gh} {w : World} {σ : Nat → VObj} {s : List VObj} (hs : RelS B g w σ) {x : AV} {v : Value} (hr : Rel g w x v) (hag : ∀ id ∈ refs1 x, σ id = (getO s id).fzd) : Rel g w (nrm1 s x) v := by
  cases x with
  | agg cs =>
    obtain ⟨vs, h1, h2, rfl⟩ := inv_agg hr
    refine .agg (by simpa using h1) fun i x v hx hv => ?_
    rw [List.getElem?_map] at hx
    cases hi : cs[i]? with
    | none => rw [hi] at hx; exact nomatch hx
    | some y => rw [hi] at hx; cases hx; exact nrm_rel hs (h2 i y v hi hv) fun id hid => hag id (refs_mem (List.mem_of_getElem? hi) hid)
  | iface t x => cases hr with | iface h => exact .iface (nrm_rel hs h hag)
  | _ => exact nrm_rel hs hr hag

theorem nrmD_rel {B : Nat → Prop} {g : Gh} {w : World} {σ : Nat → VObj} {s : List VObj} (hs : RelS B g w σ) {x : AV} {v : Value} (hr : Rel g w x v) (hag : ∀ id ∈ refsD x, σ id = (getO s id).fzd) : Rel g w (nrmD s x) v := by
  have hm : ∀ (cs : List AV) (f : Nat → Value → Prop), (∀ id ∈ cs.flatMap refs1, σ id = (getO s id).fzd) → (∀ (i : Nat) (x : AV) (v : Value), cs[i]? = some x → f i v → Rel g w x v) → ∀ (i : Nat) (x : AV) (v : Value), (cs.map (nrm1 s))[i]? = some x → f i v → Rel g w x v := by
    intro cs f hag hc i x v hx hv
    rw [List.getElem?_map] at hx
    cases hi : cs[i]? with
    | none => rw [hi] at hx; exact nomatch hx
    | some y => rw [hi] at hx; cases hx; exact nrm1_rel hs (hc i y v hi hv) fun id hid => hag id (List.mem_flatMap.2 ⟨y, List.mem_of_getElem? hi, hid⟩)
  cases x with
  | tuple cs =>
    obtain ⟨vs, h1, h2, rfl⟩ := inv_tuple hr
    exact .tuple (by simpa using h1) (hm cs (fun i v => vs[i]? = some v) hag h2)
  | func fn first cap =>
    obtain ⟨fv, cv, h1, h2, h3, h4, rfl⟩ := inv_func hr
    exact .func (by simpa using h1) (by simpa using h2) (hm first (fun i v => fv[i]? = some v) (fun id hid => hag id (List.mem_append_left _ hid)) h3) (hm cap (fun i v => cv[i]? = some v) (fun id hid => hag id (List.mem_append_right _ hid)) h4)
  | _ => exact nrm1_rel hs hr hag

/-- leads into no object, at the outermost levels -/
def flat0 : AV → Bool
  | .kb _ => true
  | v => v.pure
def flat1 : AV → Bool
  | .agg cs => cs.all flat0
  | .iface _ x => flat0 x
  | v => flat0 v
def flatD : AV → Bool
  | .tuple cs => cs.all flat1
  | .func _ first cap => first.all flat1 && cap.all flat1
  | v => flat1 v

theorem flat0_rel {g g' : Gh} {w : World} (hs : ∀ b o, g.stab b o → g'.stab b o) {x : AV} {v : Value} (h : Rel g w x v) (hf : flat0 x = true) : Rel g' w x v := by
  cases x with
  | kb b => have := rel_bool h.unkb; subst this; exact .kb b
  | _ => exact h.pureG hs hf
theorem flat1_rel {g g' : Gh} {w : World} (hs : ∀ b o, g.stab b o → g'.stab b o) {x : AV} {v : Value} (h : Rel g w x v) (hf : flat1 x = true) : Rel g' w x v := by
  cases x with
  | agg cs =>
    obtain ⟨vs, h1, h2, rfl⟩ := inv_agg h
    exact .agg h1 fun i x v hx hv => flat0_rel hs (h2 i x v hx hv) (List.all_eq_true.1 hf x (List.mem_of_getElem? hx))
  | iface t x => cases h with | iface h => exact .iface (flat0_rel hs h hf)
  | _ => exact flat0_rel hs h hf
theorem flatD_rel {g g' : Gh} {w : World} (hs : ∀ b o, g.stab b o → g'.stab b o) {x : AV} {v : Value} (h : Rel g w x v) (hf : flatD x = true) : Rel g' w x v := by
  cases x with
  | tuple cs =>
    obtain ⟨vs, h1, h2, rfl⟩ := inv_tuple h
    exact .tuple h1 fun i x v hx hv => flat1_rel hs (h2 i x v hx hv) (List.all_eq_true.1 hf x (List.mem_of_getElem? hx))
  | func fn first cap =>
    obtain ⟨fv, cv, h1, h2, h3, h4, rfl⟩ := inv_func h
    simp only [flatD, Bool.and_eq_true] at hf
    exact .func h1 h2 (fun i x v hx hv => flat1_rel hs (h3 i x v hx hv) (List.all_eq_true.1 hf.1 x (List.mem_of_getElem? hx))) (fun i x v hx hv => flat1_rel hs (h4 i x v hx hv) (List.all_eq_true.1 hf.2 x (List.mem_of_getElem? hx)))
  | _ => exact flat1_rel hs h hf

theorem nrm_flat (s : List VObj) (x : AV) : flat0 (nrm s x) = true := by
  have := nrm_pure s x
  cases h : nrm s x <;> rw [h] at this <;> first | exact this | rfl
theorem nrm1_cases (s : List VObj) (x : AV) : (∃ cs, x = .agg cs) ∨ (∃ t y, x = .iface t y) ∨ nrm1 s x = nrm s x := by
  cases x <;> first | exact .inl ⟨_, rfl⟩ | exact .inr (.inl ⟨_, _, rfl⟩) | exact .inr (.inr rfl)
theorem nrmD_cases (s : List VObj) (x : AV) : (∃ cs, x = .tuple cs) ∨ (∃ f a b, x = .func f a b) ∨ nrmD s x = nrm1 s x := by
  cases x <;> first | exact .inl ⟨_, rfl⟩ | exact .inr (.inl ⟨_, _, _, rfl⟩) | exact .inr (.inr rfl)
theorem flat0_1 {x : AV} (h : flat0 x = true) : flat1 x = true := by cases x <;> first | exact h | exact nomatch h
theorem flat1_D {x : AV} (h : flat1 x = true) : flatD x = true := by cases x <;> first | exact h | exact nomatch h
theorem nrm1_flat (s : List VObj) (x : AV) : flat1 (nrm1 s x) = true := by
  rcases nrm1_cases s x with ⟨cs, rfl⟩ | ⟨t, y, rfl⟩ | h
  · exact List.all_eq_true.2 fun y hy => by obtain ⟨z, _, rfl⟩ := List.mem_map.1 hy; exact nrm_flat s z
  · exact nrm_flat s y
  · rw [h]; exact flat0_1 (nrm_flat s x)
theorem nrmD_flat (s : List VObj) (x : AV) : flatD (nrmD s x) = true := by
  rcases nrmD_cases s x with ⟨cs, rfl⟩ | ⟨f, a, b, rfl⟩ | h
  · exact List.all_eq_true.2 fun y hy => by obtain ⟨z, _, rfl⟩ := List.mem_map.1 hy; exact nrm1_flat s z
  · simp only [nrmD, flatD, Bool.and_eq_true]
    exact ⟨List.all_eq_true.2 fun y hy => by obtain ⟨z, _, rfl⟩ := List.mem_map.1 hy; exact nrm1_flat s z, List.all_eq_true.2 fun y hy => by obtain ⟨z, _, rfl⟩ := List.mem_map.1 hy; exact nrm1_flat s z⟩
  · rw [h]; exact flat1_D (nrm1_flat s x)

/-- a call of a function that has a contract: what the arguments lead to is frozen -/
theorem vcall_pure {fid : FuncId} {args : List AV} {s : List VObj} {R : AV → List VObj → FP → Prop} {v : AV} (hc : PureCall P fid (args.map (nrmD s)) v) (hv : flatD v = true)
    (hR : R v (freeze s (args.flatMap refsD)) ⟨[], args.flatMap refsD⟩) : VCall P fid args s R := by
  unfold VCall
  obtain ⟨hfn, hc⟩ := hc
  refine ⟨v, _, _, hR, fun id hid => by rw [getO_freeze, if_neg hid], hfn, fun B g w vals σ hB hl hrel hag hs => ?_⟩
  obtain ⟨g1, e1, r1, l1, k1⟩ := freeze_list (w := w) (g := g) (args.flatMap refsD) hs (fun id hid => hag id (.inr hid))
  have hcall := hc g1.stab w vals (fun b x h => r1.sb b x h) (by simpa using hl) (fun i x u hx hu => by
    rw [List.getElem?_map] at hx
    cases hi : args[i]? with
    | none => rw [hi] at hx; exact nomatch hx
    | some y =>
      rw [hi] at hx; cases hx
      have := nrmD_rel (s := s) r1 ((hrel i y u hi hu).mono e1) fun id hid => by
        have hm : id ∈ args.flatMap refsD := List.mem_flatMap.2 ⟨y, List.mem_of_getElem? hi, hid⟩
        simp only [over, if_pos hm, getO_freeze]
      exact flatD_rel (g := g1) (g' := stG g1.stab) (fun _ _ h => h) this (nrmD_flat s y))
  refine Calls.mono hcall fun e w' he => ?_
  obtain ⟨st', val, rfl, e2, hsb, hval⟩ := he
  let g2 : Gh := { g1 with stab := st' }
  have e3 : Ext B g1 w g2 w' :=
    { size := e2.size
      stab := e2.stab
      same := e2.same
      keep := fun b hb => e2.keep b fun h => hb (hB b h)
      keepS := fun b o hb h => e2.keepS b o (fun h => hb (hB b h)) h
      loc := fun _ _ h => h
      hdr := fun _ ver h e => ⟨ver, h, e, Nat.le_refl _, fun _ => rfl⟩
      low := e2.low }
  have hlow : ∀ b, b < w.heap.size → w'.heap[b]? = w.heap[b]? ∧ ∀ x, st' b x ↔ g1.stab b x := fun b hb =>
    ⟨e2.keep b (by omega), fun x => ⟨fun h => e2.keepS b x (by omega) h, fun h => e2.stab b x h⟩⟩
  refine ⟨g2, val, rfl, e1.trans e3, ?_, flatD_rel (g := stG st') (g' := g2) (fun _ _ h => h) hval hv⟩
  exact ⟨fun id => (r1.obj id).keep e3 rfl rfl fun b hk => hlow b (r1.lt hk), r1.apart, r1.inB, hsb⟩

theorem call_pure {fid : FuncId} {args args' : List AV} {s : List VObj} {R : AV → List VObj → FP → Prop} {v : AV} (hc : PureCall P fid args' v) (ha : args.map (nrmD s) = args') (hv : flatD v = true)
    (hR : R v (freeze s (args.flatMap refsD)) ⟨[], args.flatMap refsD⟩) : VCall P fid args s R := vcall_pure (ha ▸ hc) hv hR

/-- a result that lies in a variable -/
def cellAt (E : Env) (t : List AV) (s : List VObj) (a ty : Nat) : Option AV :=
  match t.getD a .dead with
  | .ptr id off => match getO s id, E.ti ty with
    | .box cs _, ⟨kind, size, _, _⟩ => match Nat.ble (off + size) cs.length && Nat.blt 0 size && (kind.isAgg || Nat.beq size 1) with
      | true => some (mkv kind.isAgg ((cs.drop off).take size))
      | false => none
    | _, _ => none
  | _ => none

def resL (E : Env) (t : List AV) (s : List VObj) : List ResultVar → Option (List AV)
  | [] => some []
  | .tmp i :: r => match resL E t s r with
    | some l => some (t.getD i .dead :: l)
    | none => none
  | .cell a ty :: r => match cellAt E t s a ty, resL E t s r with
    | some v, some l => some (v :: l)
    | _, _ => none

/-- a function's result -/
def resO (E : Env) (rs : List ResultVar) (t : List AV) (s : List VObj) : Option AV :=
  match resL E t s rs with
  | some [v] => some v
  | some l => some (.tuple l)
  | none => none

/-- what a function's run must end in -/
def RetR (E : Env) (rs : List ResultVar) (v : AV) : Exit → List AV → List VObj → Prop
  | .ret, t, s => match resO E rs t s with
    | some r => nrmD s r = v
    | none => False
  | .normal, t, s => match resO E rs t s with
    | some r => nrmD s r = v
    | none => False
  | _, _, _ => False

theorem resL_run {E : Env} (hE : E.Fits P) {B : Nat → Prop} {g : Gh} {w : World} {t : List AV} {s : List VObj} {a : Act} (hs : RelS B g w (getO s)) (ht : RelT g w t a.tmps) {f : ResultVar → Sem Value} (hf1 : ∀ i, f (.tmp i) = pure (a.tmps.getD i undef))
    (hf2 : ∀ i ty, f (.cell i ty) = do loadVar ty (← asAddr (a.tmps.getD i undef))) : ∀ (rs : List ResultVar) (l : List AV), resL E t s rs = some l → ∃ vs : List Value, (rs.mapM f).run P w = .ok vs w ∧ l.length = vs.length ∧ ∀ (i : Nat) (x : AV) (u : Value), l[i]? = some x → vs[i]? = some u → Rel g w x u := by
  have hslot : ∀ i, Rel g w (t.getD i .dead) (a.tmps.getD i undef) := fun i => by
    cases hi : a.tmps[i]? with
    | none =>
      have : t.length ≤ i := by rw [ht.size]; exact Array.getElem?_eq_none_iff.1 hi
      rw [show t.getD i .dead = .dead by simp [this]]; exact .dead _
    | some u =>
      have hlt : i < t.length := by rw [ht.size]; exact (Array.getElem?_eq_some_iff.1 hi).1
      have := ht.rel i _ u (List.getElem?_eq_getElem hlt) hi
      rw [show t.getD i .dead = t[i] by simp [hlt], Array.getD_eq_getD_getElem?, hi]; exact this
  have hcons : ∀ (r : ResultVar) (rs : List ResultVar) (v : AV) (u : Value) (l : List AV), (f r).run P w = .ok u w → Rel g w v u →
      (∃ vs : List Value, (rs.mapM f).run P w = .ok vs w ∧ l.length = vs.length ∧ ∀ (i : Nat) (x : AV) (u : Value), l[i]? = some x → vs[i]? = some u → Rel g w x u) →
      ∃ vs : List Value, ((r :: rs).mapM f).run P w = .ok vs w ∧ (v :: l).length = vs.length ∧ ∀ (i : Nat) (x : AV) (u : Value), (v :: l)[i]? = some x → vs[i]? = some u → Rel g w x u := by
    intro r rs v u l hr hv ⟨vs, h1, h2, h3⟩
    refine ⟨u :: vs, by simp only [List.mapM_cons, Sem.run_bind, hr, Result.andThen_ok, h1, Sem.run_pure], by simp [h2], fun i x u' hx hu => ?_⟩
    cases i with
    | zero => cases hx; cases hu; exact hv
    | succ i => exact h3 i x u' hx hu
  intro rs
  induction rs with
  | nil => intro l h; cases h; exact ⟨[], rfl, rfl, fun i x u h => by simp at h⟩
  | cons r rs ih =>
    intro l h
    cases r with
    | tmp i =>
      simp only [resL] at h
      split at h
      · rename_i l' hl; cases h
        exact hcons _ _ _ (a.tmps.getD i undef) _ (by rw [hf1]; rfl) (hslot i) (ih l' hl)
      · exact nomatch h
    | cell i ty =>
      simp only [resL] at h
      split at h
      · rename_i v l' hv hl; cases h
        unfold cellAt at hv
        split at hv
        · rename_i id off hp
          split at hv
          · rename_i cs fz kind size b z ho e
            split at hv
            · rename_i hb
              cases hv
              simp only [Bool.and_eq_true, Bool.or_eq_true] at hb
              obtain ⟨⟨b1, b2⟩, b3⟩ := hb
              have b1 := Nat.le_of_ble_eq_true b1
              have b2 := Nat.le_of_ble_eq_true b2
              obtain ⟨inf, d, zv, h1, h2, h3, h4, h5, h6, h7, h8, h9⟩ := ti_at hE e (.inr (.inl b2))
              have hr := hslot i
              rw [hp] at hr
              obtain ⟨b', o', hloc, hval⟩ := inv_ptr hr
              have hobj := hs.obj id
              rw [ho] at hobj
              obtain ⟨_, b, o, vs, hl2, _, _, hc, _, _⟩ := hobj
              rw [hl2] at hloc; cases hloc
              obtain ⟨val, hrun, hrel⟩ := loadVar_rel (off := off) h1 h2 hc (by omega) (fun ha => by
                rcases b3 with h | h
                · rw [h6] at h; rw [h] at ha; exact nomatch ha
                · rw [h7]; exact Nat.eq_of_beq_eq_true h)
              refine hcons _ _ _ val _ ?_ (by rw [h6, ← h7]; exact hrel) (ih l' hl)
              rw [hf2, hval]
              simp only [Sem.run_bind, asAddr, Sem.run_pure, Result.andThen_ok, hrun]
            · exact nomatch hv
          · exact nomatch hv
        · exact nomatch hv
      · exact nomatch h

theorem run_results {E : Env} (hE : E.Fits P) {B : Nat → Prop} {g : Gh} {w : World} {t : List AV} {s : List VObj} {a : Act} (hs : RelS B g w (getO s)) (ht : RelT g w t a.tmps) {fn : Func} {rs : List ResultVar} (h : fn.results.toList = rs) {r : AV} (hr : resO E rs t s = some r) :
    ∃ u, (results fn a.tmps).run P w = .ok u w ∧ Rel g w r u := by
  unfold resO at hr
  have key : ∀ l, resL E t s rs = some l → ∃ vs : List Value, (results fn a.tmps).run P w = .ok (if h : vs.toArray.size = 1 then vs.toArray[0] else .tuple vs.toArray) w ∧ l.length = vs.length ∧ ∀ (i : Nat) (x : AV) (u : Value), l[i]? = some x → vs[i]? = some u → Rel g w x u := fun l hl => by
    obtain ⟨vs, h1, h2, h3⟩ := resL_run (f := fun | .tmp t => pure (a.tmps.getD t undef) | .cell x t => do loadVar t (← asAddr (a.tmps.getD x undef))) hE hs ht (fun i => rfl) (fun i ty => rfl) rs l hl
    refine ⟨vs, ?_, h2, h3⟩
    unfold results
    rw [Array.mapM_eq_mapM_toList, h]
    simp only [map_eq_pure_bind, Sem.run_bind]
    erw [h1]
    simp only [Result.andThen_ok, Sem.run_pure]
  split at hr
  · rename_i v hl
    cases hr
    obtain ⟨vs, h1, h2, h3⟩ := key _ hl
    obtain ⟨u, rfl⟩ := List.length_eq_one_iff.1 h2.symm
    exact ⟨u, h1, h3 0 _ _ rfl rfl⟩
  · rename_i l hn hl
    cases hr
    obtain ⟨vs, h1, h2, h3⟩ := key _ hl
    have : ¬ vs.toArray.size = 1 := fun hh => by
      have hl1 : l.length = 1 := by rw [h2]; simpa using hh
      obtain ⟨v, rfl⟩ := List.length_eq_one_iff.1 hl1
      exact hn v rfl
    rw [dif_neg this] at h1
    exact ⟨_, h1, .tuple (by simpa using h2) fun i x u hx hu => h3 i x u hx (by simpa using hu)⟩
  · exact nomatch hr

theorem pure_of_run {E : Env} (hE : E.Fits P) {fid : FuncId} {fn : Func} {c : Code} {args : List AV} {v : AV} {rs : List ResultVar} (hf : P.funcs[fid]? = some fn) (hb : fn.body = some c) (hname : (fn.name == "runtime.NumGoroutine") = false) (hres : fn.results.toList = rs)
    (h : Run P ⟨0, 0⟩ ⟨args ++ List.replicate (fn.ntmps - args.length) .dead, [], [.code c]⟩ (RetR E rs v)) : PureCall P fid args v := by
  refine ⟨⟨fn, hf, by rw [hb]; rfl, hname⟩, fun st w vals hsb hl hrel => ?_⟩
  have hfrm : Frm ⟨0, 0⟩ (fun b => w.heap.size ≤ b) (stG st) w := ⟨fun _ h => h, fun _ _ => rfl, fun _ _ => rfl⟩
  have hS : StRel (fun b => w.heap.size ≤ b) (stG st) w (stG st) w (args ++ List.replicate (fn.ntmps - args.length) .dead) [] { tmps := vals ++ Array.replicate (fn.ntmps - vals.size) undef, defers := [] } := by
    refine ⟨Ext.refl _ _ _, ⟨fun id => ⟨rfl, rfl⟩, ?_, ?_, hsb⟩, ⟨by simp [hl], fun i x u hx hu => ?_⟩, rfl⟩
    · rintro id id' b (⟨o, h⟩ | ⟨ver, o, len, cap, h, _⟩) _ <;> exact nomatch h
    · rintro id b (⟨o, h⟩ | ⟨ver, o, len, cap, h, _⟩) <;> exact nomatch h
    · rw [List.getElem?_append] at hx
      rw [Array.getElem?_append] at hu
      by_cases hi : i < args.length
      · rw [if_pos hi] at hx
        rw [if_pos (by omega)] at hu
        exact hrel i x u hx hu
      · rw [if_neg hi, List.getElem?_replicate] at hx
        split at hx
        · cases hx; exact .dead _
        · exact nomatch hx
  have hw := run_elim h rfl hfrm hS
  refine calls_of_wp hf hb (wp_mono (show c.wp P _ _ _ from hw) fun e a w' he => ?_)
  have key : ∀ e, e = .ret ∨ e = .normal → after P (conc (fun b => w.heap.size ≤ b) (stG st) w (RetR E rs v)) [] e a w' →
      a.defers = [] ∧ ∃ u, (results fn a.tmps).run P w' = .ok u w' ∧ ∃ st' val, Ending.returned u = .returned val ∧ Ext (fun b => w.heap.size ≤ b) (stG st) w (stG st') w' ∧ (∀ b x, st' b x → b < w'.heap.size) ∧ Rel (stG st') w' v val := by
    rintro e hee ⟨t, s, g, hS', hR⟩
    have hR : ∃ r, resO E rs t s = some r ∧ nrmD s r = v := by
      rcases hee with rfl | rfl
      all_goals
        simp only [RetR] at hR
        split at hR
        · rename_i r hr; exact ⟨r, hr, hR⟩
        · exact hR.elim
    obtain ⟨r, hr, hR⟩ := hR
    obtain ⟨u, hrun, hval⟩ := run_results hE hS'.rs hS'.rt hres hr
    refine ⟨hS'.defers, u, hrun, ?_⟩
    obtain ⟨g1, e1, r1, l1, k1⟩ := freeze_list (w := w') (g := g) (s := s) (refsD r) hS'.rs (fun id _ => rfl)
    have hnv := nrmD_rel (s := s) r1 (hval.mono e1) fun id hid => by simp only [over, if_pos hid, getO_freeze]
    rw [hR] at hnv
    have hE : Ext (fun b => w.heap.size ≤ b) (stG st) w (stG g1.stab) w' :=
      { hS'.ext.trans e1 with
        stab := (hS'.ext.trans e1).stab
        keepS := (hS'.ext.trans e1).keepS
        loc := fun _ _ h => nomatch h
        hdr := fun _ _ _ h => nomatch h }
    exact ⟨g1.stab, _, rfl, hE, r1.sb, flatD_rel (g := g1) (g' := stG g1.stab) (fun _ _ h => h) hnv (hR ▸ nrmD_flat s _)⟩
  cases e with
  | normal => exact key _ (.inr rfl) he
  | ret => exact key _ (.inl rfl) he
  | _ => obtain ⟨t, s, g, _, hR⟩ := he; exact hR.elim

end
end Go.Proofs.Ytmapiefbnjaikaa.Vm
/- The program's side: its table of types, its functions. -/
set_option linter.all false
namespace Go.Proofs.Ytmapiefbnjaikaa.Vm
open Go

theorem Env.fits {E : Env} {P : Program} (n : Nat) (hl : E.T.length * 16 ≤ n) (h : ((List.range n).map fun t => (tiOf P t).getD ⟨.other, 0, 0, []⟩) = (List.range n).map E.ti) : E.Fits P := by
  intro t
  by_cases ht : t < n
  · have := congrArg (fun l : List TI => l[t]?) h
    simp [ht] at this
    cases hq : tiOf P t with
    | none => rw [hq] at this; exact .inl this.symm
    | some x => rw [hq] at this; exact .inr (by rw [← this]; rfl)
  · left
    unfold Env.ti
    have : E.T.length ≤ t / 16 := (Nat.le_div_iff_mul_le (by omega)).2 (Nat.le_trans hl (Nat.le_of_not_lt ht))
    rw [show E.T.getD (t / 16) [] = [] by simp [this]]
    simp

def eqOkB (P : Program) : List (Nat × List LK) → Bool
  | [] => true
  | (t, ks) :: r => decide (plainB P 4 t = some ks) && aggB P t && !P.eqGuardType P.depth t && eqOkB P r

theorem Env.eqOk {E : Env} {P : Program} (h : eqOkB P E.eqs = true) : E.EqOk P := by
  intro ty ks hk
  generalize E.eqs = l at h hk
  induction l with
  | nil => exact nomatch hk
  | cons x r ih =>
    obtain ⟨t, k⟩ := x
    simp only [eqOkB, Bool.and_eq_true, decide_eq_true_eq, Bool.not_eq_true'] at h
    simp only [lookK] at hk
    split at hk
    · rename_i e
      cases hk
      rw [← Nat.eq_of_beq_eq_true e]
      exact ⟨h.1.1.1, h.1.1.2, h.1.2⟩
    · exact ih h.2 hk

/-- what the program says of a function -/
structure Known (P : Program) (fid : FuncId) (fn : Func) : Prop where
  funcs : P.funcs[fid]? = some fn
  body : fn.body.isSome = true
  name : (fn.name == "runtime.NumGoroutine") = false

/-- where a function's run starts -/
def start (fn : Func) (args : List AV) : Cfg := ⟨args ++ List.replicate (fn.ntmps - args.length) .dead, [], [.code (fn.body.getD .skip)]⟩

theorem contract {P : Program} {E : Env} (hE : E.Fits P) {fid : FuncId} {fn : Func} {args : List AV} {v : AV} (hk : Known P fid fn) (h : Run P ⟨0, 0⟩ (start fn args) (RetR E fn.results.toList v)) : PureCall P fid args v := by
  obtain ⟨c, hc⟩ := Option.isSome_iff_exists.1 hk.body
  refine pure_of_run hE hk.funcs hc hk.name rfl ?_
  unfold start at h
  rw [hc] at h
  exact h

/-- one element of a slice that is made element by element -/
theorem idx_map {α : Type} {enc : α → List AV} {xs : List α} {i : Nat} {n : Nat} {R : List AV → Prop} (hi : i < xs.length) (hl : (enc xs[i]).length = n) (h : R (enc xs[i])) :
    True ∧ 0 ≤ (i : Int) ∧ ∃ c, (xs.map enc)[(i : Int).toNat]? = some c ∧ c.length = n ∧ R c :=
  ⟨trivial, by omega, _, by simp [hi], hl, h⟩

end Go.Proofs.Ytmapiefbnjaikaa.Vm
/- Data: what an argument's reading says of it. -/
set_option linter.all false
namespace Go.Proofs.Ytmapiefbnjaikaa.Vm
open Go

/-- all cells of the blocks that are there -/
def oldS (w : World) : Nat → Nat → Prop := fun b _ => b < w.heap.size

structure RelL (g : Gh) (w : World) (as : List AV) (cs : List Value) : Prop where
  len : as.length = cs.length
  rel : ∀ (j : Nat) (a : AV) (v : Value), as[j]? = some a → cs[j]? = some v → Rel g w a v

/-- a measure of data: at least so much -/
structure UOk (U : (H : Type) → DataW H → Nat) : Prop where
  str : ∀ H (b : List UInt8), b.length + 1 ≤ U H (.lit (.string b))
  lit : ∀ H l, 1 ≤ U H (.lit l)
  nil : ∀ H, 1 ≤ U H .nil
  slice : ∀ H (es sp : List (DataW H)), (es.map (U H)).sum + 1 ≤ U H (.slice es sp)
  agg : ∀ H (ps : List (DataW H)), (ps.map (U H)).sum + 1 ≤ U H (.agg ps)

/-- whatever a reading of type t takes, it is some x of α's -/
structure Opens (P : Program) (U : (H : Type) → DataW H → Nat) (t : TypeId) (α : Type) (n : Nat) (enc : α → List AV) (ok : α → Prop) (bulk : α → Nat) : Prop where
  size : P.cellsOf t = n
  pos : 0 < n
  len : ∀ x, (enc x).length = n
  pure : ∀ x, ∀ a ∈ enc x, a.pure = true
  op : ∀ {H : Type} (eh : TypeId × Value → H) (w : World) (base : Nat) (held : Bool) (fuel : Nat) (cs : List Value) (d : DataW H) (ps : List MemPlace),
    DataW.trod eh P w base (fun _ => true) held fuel t cs = some (d, ps) → ∃ x, RelL (stG (oldS w)) w (enc x) cs ∧ ok x ∧ bulk x ≤ U H d

section
variable {P : Program} {U : (H : Type) → DataW H → Nat}

theorem relL_one {g : Gh} {w : World} {a : AV} {v : Value} (h : Rel g w a v) : RelL g w [a] [v] := ⟨rfl, fun j x u hx hu => by
  cases j with
  | zero => cases hx; cases hu; exact h
  | succ j => simp at hx⟩

theorem opens_int (hU : UOk U) {t : TypeId} {k : IntKind} (ht : P.underlying t = some (.int k)) (hc : P.cellsOf t = 1) : Opens P U t Int 1 (fun n => [.int k n]) (fun n => k.min ≤ n ∧ n ≤ k.max) (fun _ => 1) where
  size := hc
  pos := by omega
  len _ := rfl
  pure x a h := by simp at h; subst h; rfl
  op eh w base held fuel cs d ps h := by
    obtain ⟨n, rfl, h2, h3⟩ := DataW.trod_int ht h
    cases h2
    exact ⟨n, relL_one (.int _ _), by simpa [Lit.wf, Bool.and_eq_true, decide_eq_true_eq] using h3, hU.lit _ _⟩

theorem opens_bool (hU : UOk U) {t : TypeId} (ht : P.underlying t = some .bool) (hc : P.cellsOf t = 1) : Opens P U t Bool 1 (fun b => [.bool b]) (fun _ => True) (fun _ => 1) where
  size := hc
  pos := by omega
  len _ := rfl
  pure x a h := by simp at h; subst h; rfl
  op eh w base held fuel cs d ps h := by
    obtain ⟨b, rfl, h2⟩ := DataW.trod_bool ht h
    cases h2
    exact ⟨b, relL_one (.bool _), trivial, hU.lit _ _⟩

theorem opens_str (hU : UOk U) {t : TypeId} (ht : P.underlying t = some .string) (hc : P.cellsOf t = 1) : Opens P U t (List UInt8) 1 (fun s => [.str s]) (fun s => s.length ≤ maxLen) (fun s => s.length + 1) where
  size := hc
  pos := by omega
  len _ := rfl
  pure x a h := by simp at h; subst h; rfl
  op eh w base held fuel cs d ps h := by
    obtain ⟨s, rfl, h2, h3⟩ := DataW.trod_string ht h
    obtain ⟨⟨l⟩⟩ := s
    cases h2
    rw [size_mk] at h3
    exact ⟨l, relL_one (.str l), h3, hU.str _ _⟩

theorem Opens.map {t : TypeId} {α β : Type} {n : Nat} {enc : α → List AV} {ok : α → Prop} {bulk : α → Nat} (h : Opens P U t α n enc ok bulk) (f : α → β) {enc' : β → List AV} {ok' : β → Prop} {bulk' : β → Nat}
    (hl : ∀ y, (enc' y).length = n) (hp : ∀ y, ∀ a ∈ enc' y, a.pure = true) (he : ∀ x, enc' (f x) = enc x) (ho : ∀ x, ok x → ok' (f x)) (hb : ∀ x, bulk' (f x) ≤ bulk x) : Opens P U t β n enc' ok' bulk' where
  size := h.size
  pos := h.pos
  len := hl
  pure := hp
  op eh w base held fuel cs d ps hd := by
    obtain ⟨x, h1, h2, h3⟩ := h.op eh w base held fuel cs d ps hd
    exact ⟨f x, by rw [he]; exact h1, ho x h2, Nat.le_trans (hb x) h3⟩

/-- a struct's fields from one on -/
structure OpensF (P : Program) (U : (H : Type) → DataW H → Nat) (fs : List Field) (o : Nat) (β : Type) (n : Nat) (enc : β → List AV) (ok : β → Prop) (bulk : β → Nat) : Prop where
  len : ∀ x, (enc x).length = n
  pure : ∀ x, ∀ a ∈ enc x, a.pure = true
  op : ∀ {H : Type} (eh : TypeId × Value → H) (w : World) (base : Nat) (held : Bool) (m : Nat) (cs : List Value) (xs : List (DataW H × List MemPlace)), o + n ≤ cs.length → xs.length = fs.length →
    (∀ (i : Nat) (f : Field), fs[i]? = some f → DataW.trod eh P w base (fun _ => true) held m f.type ((cs.drop f.offset).take (P.cellsOf f.type)) = xs[i]?) →
    ∃ x, RelL (stG (oldS w)) w (enc x) ((cs.drop o).take n) ∧ ok x ∧ bulk x ≤ (xs.map fun p => U H p.1).sum

theorem opens_nil {o : Nat} : OpensF P U [] o Unit 0 (fun _ => []) (fun _ => True) (fun _ => 0) where
  len _ := rfl
  pure _ a h := by simp at h
  op eh w base held m cs xs _ _ _ := ⟨(), ⟨by simp, fun j a v h => by simp at h⟩, trivial, Nat.zero_le _⟩

theorem opens_cons {f : Field} {fs : List Field} {α β : Type} {n1 n2 : Nat} {enc1 : α → List AV} {enc2 : β → List AV} {ok1 : α → Prop} {ok2 : β → Prop} {b1 : α → Nat} {b2 : β → Nat}
    (h1 : Opens P U f.type α n1 enc1 ok1 b1) (h2 : OpensF P U fs (f.offset + n1) β n2 enc2 ok2 b2) :
    OpensF P U (f :: fs) f.offset (α × β) (n1 + n2) (fun x => enc1 x.1 ++ enc2 x.2) (fun x => ok1 x.1 ∧ ok2 x.2) (fun x => b1 x.1 + b2 x.2) where
  len x := by rw [List.length_append, h1.len, h2.len]
  pure x a h := by
    rcases List.mem_append.1 h with h | h
    · exact h1.pure _ a h
    · exact h2.pure _ a h
  op eh w base held m cs xs hl hx hf := by
    cases xs with
    | nil => simp at hx
    | cons y xs =>
      have hy := hf 0 f rfl
      simp only [List.getElem?_cons_zero] at hy
      obtain ⟨d, ps⟩ := y
      obtain ⟨x1, q1, q2, q3⟩ := h1.op eh w base held m _ d ps hy
      obtain ⟨x2, r1, r2, r3⟩ := h2.op eh w base held m cs xs (by omega) (by simpa using hx) (fun i f' hi => hf (i + 1) f' (by simpa using hi))
      rw [h1.size] at q1
      have hsplit : (cs.drop f.offset).take (n1 + n2) = (cs.drop f.offset).take n1 ++ (cs.drop (f.offset + n1)).take n2 := by
        rw [List.take_add, List.drop_drop]
      refine ⟨(x1, x2), ?_, ⟨q2, r2⟩, ?_⟩
      · rw [hsplit]
        refine ⟨by rw [List.length_append, List.length_append, q1.len, r1.len], fun j a v ha hv => ?_⟩
        rw [List.getElem?_append] at ha hv
        rw [q1.len] at ha
        split at ha
        · rename_i hj; rw [if_pos hj] at hv; exact q1.rel _ _ _ ha hv
        · rename_i hj; rw [if_neg hj] at hv; exact r1.rel _ _ _ ha hv
      · simp only [List.map_cons, List.sum_cons]
        omega

theorem opens_struct (hU : UOk U) {t : TypeId} {fs : Array Field} {β : Type} {n : Nat} {enc : β → List AV} {ok : β → Prop} {bulk : β → Nat} (ht : P.underlying t = some (.struct fs)) (hc : P.cellsOf t = n) (h0 : 0 < n)
    (h : OpensF P U fs.toList 0 β n enc ok bulk) : Opens P U t β n enc ok (fun x => bulk x + 1) where
  size := hc
  pos := h0
  len := h.len
  pure := h.pure
  op eh w base held fuel cs d ps hd := by
    obtain ⟨xs, m, _, h2, h3, h4, h5⟩ := DataW.trod_struct ht hd
    cases h2
    obtain ⟨x, q1, q2, q3⟩ := h.op eh w base held m cs xs (by omega) (by simpa using h4) (fun i f hi => h5 i f (by simpa using hi))
    rw [List.drop_zero, ← hc, ← h3, List.take_length] at q1
    refine ⟨x, q1, q2, ?_⟩
    have := hU.agg _ (xs.map (·.1))
    rw [List.map_map] at this
    exact Nat.le_trans (Nat.succ_le_succ q3) this

theorem opens_two (hU : UOk U) {t e : TypeId} {α : Type} {n : Nat} {enc : α → List AV} {ok : α → Prop} {bulk : α → Nat} (ht : P.underlying t = some (.array 2 e)) (hc : P.cellsOf t = n + n) (h : Opens P U e α n enc ok bulk) :
    Opens P U t (α × α) (n + n) (fun x => enc x.1 ++ enc x.2) (fun x => ok x.1 ∧ ok x.2) (fun x => bulk x.1 + bulk x.2 + 1) where
  size := hc
  pos := by have := h.pos; omega
  len x := by rw [List.length_append, h.len, h.len]
  pure x a hh := by
    rcases List.mem_append.1 hh with hh | hh
    · exact h.pure _ a hh
    · exact h.pure _ a hh
  op eh w base held fuel cs d ps hd := by
    obtain ⟨xs, m, _, h2, h3, h4, h5⟩ := DataW.trod_array ht hd
    cases h2
    match xs, h4 with
    | [(d1, p1), (d2, p2)], _ =>
      have e1 := h5 0 (by omega)
      have e2 := h5 1 (by omega)
      rw [h.size] at e1 e2
      simp only [Nat.zero_mul, List.drop_zero, List.getElem?_cons_zero, Nat.one_mul, List.getElem?_cons_succ] at e1 e2
      obtain ⟨x1, q1, q2, q3⟩ := h.op eh w base held m _ d1 p1 e1
      obtain ⟨x2, r1, r2, r3⟩ := h.op eh w base held m _ d2 p2 e2
      have hsplit : cs = cs.take n ++ (cs.drop n).take n := by
        rw [← List.take_add, ← hc, ← h3, List.take_length]
      refine ⟨(x1, x2), ?_, ⟨q2, r2⟩, ?_⟩
      · rw [hsplit]
        refine ⟨by rw [List.length_append, List.length_append, q1.len, r1.len], fun j a v ha hv => ?_⟩
        rw [List.getElem?_append] at ha hv
        rw [q1.len] at ha
        split at ha
        · rename_i hj; rw [if_pos hj] at hv; exact q1.rel _ _ _ ha hv
        · rename_i hj; rw [if_neg hj] at hv; exact r1.rel _ _ _ ha hv
      · have := hU.agg _ [d1, d2]
        simp only [List.map_cons, List.map_nil, List.sum_cons, List.sum_nil] at this ⊢
        omega

theorem list_choose {α : Type} {p : Nat → α → Prop} : ∀ n, (∀ i, i < n → ∃ x, p i x) → ∃ xs : List α, xs.length = n ∧ ∀ i x, xs[i]? = some x → p i x := by
  intro n
  induction n with
  | zero => intro _; exact ⟨[], rfl, fun i x h => by simp at h⟩
  | succ n ih =>
    intro h
    obtain ⟨xs, h1, h2⟩ := ih fun i hi => h i (by omega)
    obtain ⟨x, hx⟩ := h n (by omega)
    refine ⟨xs ++ [x], by simp [h1], fun i y hy => ?_⟩
    rw [List.getElem?_append] at hy
    split at hy
    · exact h2 i y hy
    · rename_i hi
      have : i = n := by
        have := (List.getElem?_eq_some_iff.1 hy).1
        simp at this; omega
      subst this
      rw [h1, Nat.sub_self] at hy
      cases hy; exact hx

theorem sum_le {α : Type} {f g : α → Nat} : ∀ (l : List α), (∀ x ∈ l, f x ≤ g x) → (l.map f).sum ≤ (l.map g).sum := by
  intro l; induction l with
  | nil => intro _; exact Nat.le_refl _
  | cons x l ih =>
    intro h
    have h1 := h x (by simp)
    have h2 := ih fun y hy => h y (by simp [hy])
    simp only [List.map_cons, List.sum_cons]; omega

theorem sum_range {α : Type} {f : α → Nat} {g : Nat → Nat} : ∀ (xs : List α) (n : Nat), xs.length = n → (∀ i x, xs[i]? = some x → f x ≤ g i) → (xs.map f).sum ≤ ((List.range n).map g).sum := by
  intro xs n hl h
  have : xs.map f = (List.range n).map fun i => ((xs[i]?).map f).getD 0 := by
    apply List.ext_getElem?
    intro i
    by_cases hi : i < n
    · have hx := List.getElem?_eq_getElem (l := xs) (show i < xs.length by omega)
      simp [hi, hx]
    · simp [hi]; omega
  rw [this]
  refine sum_le _ fun i hi => ?_
  have hi := List.mem_range.1 hi
  have hx := List.getElem?_eq_getElem (l := xs) (show i < xs.length by omega)
  rw [hx]
  exact h i _ hx

theorem opens_slice (hU : UOk U) {t e : TypeId} {α : Type} {n : Nat} {enc : α → List AV} {ok : α → Prop} {bulk : α → Nat} (ht : P.underlying t = some (.slice e)) (hc : P.cellsOf t = 1) (h : Opens P U e α n enc ok bulk) :
    Opens P U t (List α) 1 (fun xs => [.sl none false (xs.map enc)]) (fun xs => (∀ x ∈ xs, ok x) ∧ xs.length ≤ maxLen) (fun xs => (xs.map bulk).sum + 1) where
  size := hc
  pos := by omega
  len _ := rfl
  pure x a hh := by simp at hh; subst hh; rfl
  op eh w base held fuel cs d ps hd := by
    rcases Go.Deep.open_slice ht hd with ⟨rfl, hx⟩ | ⟨a, len, cap, m, fu, D, Pl, rfl, hb, hl, hm, hmm, hx, hel⟩
    · cases hx
      exact ⟨[], relL_one (.slnil nofun nofun), ⟨fun x hx => by simp at hx, Nat.zero_le _⟩, hU.nil _⟩
    · cases hx
      simp only [if_true] at hmm
      subst hmm
      obtain ⟨xs, hxl, hxs⟩ := list_choose (α := α) (p := fun i x => ∃ cs', w.cells? base (a.add (i * P.cellsOf e)) (P.cellsOf e) = some cs' ∧ RelL (stG (oldS w)) w (enc x) cs' ∧ ok x ∧ bulk x ≤ U _ (D i)) len fun i hi => by
        obtain ⟨cs', q1, q2⟩ := hel i (by omega)
        obtain ⟨x, r1, r2, r3⟩ := h.op eh w base held fu cs' _ _ q2
        exact ⟨x, cs', q1, r1, r2, r3⟩
      refine ⟨xs, relL_one ?_, ⟨fun x hx => ?_, by omega⟩, ?_⟩
      · by_cases hc0 : m = 0
        · subst hc0
          have : xs = [] := List.eq_nil_of_length_eq_zero (by omega)
          subst this
          have : len = 0 := by omega
          subst this
          exact .slnil nofun nofun
        · have hsp : a = ⟨a.block, a.off, none⟩ := by
            obtain ⟨cs', q1, _⟩ := hel 0 (by omega)
            obtain ⟨_, q2, q3⟩ := World.cells?_some q1
            have q3 := q3 0 (by rw [h.size]; exact h.pos)
            rw [Nat.zero_mul, Addr.add_zero', Addr.add_zero'] at q3
            have hlt : 0 < cs'.length := by rw [q2, h.size]; exact h.pos
            rw [List.getElem?_eq_getElem hlt] at q3
            obtain ⟨b, o, sp⟩ := a
            cases sp with
            | none => rfl
            | some k =>
              unfold World.cell? at q3
              split at q3
              · simp at q3
              · exact nomatch q3
          obtain ⟨b, o, sp⟩ := a
          injection hsp with _ _ hsp
          subst hsp
          have hcell : ∀ i x j v, xs[i]? = some x → (enc x)[j]? = some v → ∃ u, w.cell? ⟨b, o + i * n + j, none⟩ = some u ∧ Rel (stG (oldS w)) w v u := fun i x j v hi hj => by
            obtain ⟨cs', q1, q2, _, _⟩ := hxs i x hi
            obtain ⟨_, q3, q4⟩ := World.cells?_some q1
            have hjl := (List.getElem?_eq_some_iff.1 hj).1
            rw [q2.len] at hjl
            have q4 := q4 j (by omega)
            rw [add_none, add_none, h.size, List.getElem?_eq_getElem hjl] at q4
            exact ⟨_, q4, q2.rel j v _ hj (List.getElem?_eq_getElem hjl)⟩
          have hget : ∀ i c, (xs.map enc)[i]? = some c → ∃ x, xs[i]? = some x ∧ c = enc x := fun i c hc => by
            rw [List.getElem?_map] at hc
            cases hi : xs[i]? with
            | none => rw [hi] at hc; exact nomatch hc
            | some x => rw [hi] at hc; cases hc; exact ⟨x, hi, rfl⟩
          have := Rel.sl (g := stG (oldS w)) (w := w) (nn := none) (full := false) (es := xs.map enc) (b := b) (o := o) (cap := m) (fun i j => (w.cell? ⟨b, o + i * n + j, none⟩).getD undef) nofun (by simp; omega) nofun
            (fun c hc x hx => by obtain ⟨y, _, rfl⟩ := List.mem_map.1 hc; exact h.pure y x hx)
            (fun i c j x hi hj => by
              obtain ⟨y, hy, rfl⟩ := hget i c hi
              obtain ⟨u, hu, _⟩ := hcell i y j x hy hj
              rw [h.len, hu]; rfl)
            (fun i c j x hi hj => by
              obtain ⟨y, hy, rfl⟩ := hget i c hi
              obtain ⟨u, hu, hr⟩ := hcell i y j x hy hj
              rw [hu]; exact hr)
            (fun i c j hi hj => by
              obtain ⟨y, hy, rfl⟩ := hget i c hi
              obtain ⟨u, hu, _⟩ := hcell i y j _ hy (List.getElem?_eq_getElem hj)
              show b < w.heap.size
              unfold World.cell? at hu
              split at hu
              · rename_i hh; exact (Array.getElem?_eq_some_iff.1 hh).1
              · exact nomatch hu)
          rw [List.length_map, hxl] at this
          exact this
      · obtain ⟨i, hi⟩ := List.getElem?_of_mem hx
        obtain ⟨_, _, _, r2, _⟩ := hxs i x hi
        exact r2
      · have h1 := sum_range (f := bulk) (g := fun i => U _ (D i)) xs len hxl fun i x hi => by
          obtain ⟨_, _, _, _, r3⟩ := hxs i x hi
          exact r3
        have h2 := hU.slice _ ((List.range len).map D) ((List.range (m - len)).map fun j => D (len + j))
        rw [List.map_map] at h2
        exact Nat.le_trans (Nat.succ_le_succ h1) h2

end
end Go.Proofs.Ytmapiefbnjaikaa.Vm
/- From a function's contract to what a row asks. -/
set_option linter.all false
namespace Go.Proofs.Ytmapiefbnjaikaa.Vm
open Go Go.ChangeShapes Go.WideShapes Go.ChangeAt Go.RowKit

theorem below_of {g g' : Gh} {w w' : World} (h : Ext (fun b => w.heap.size ≤ b) g w g' w') : Below w.heap.size w w' :=
  ⟨h.low.os, h.low.tape, h.low.output, h.size, fun k hk => h.keep k (by omega)⟩

section
variable {H : Type} {eh : TypeId × Value → H} {P : Program}

theorem trodAll_stays (hl : laidOutB P = true) {W W' : World} (hb : Below W.heap.size W W') : ∀ {ts : List TypeId} {vs : List Value} {ds : List (DataW H)} {p : List MemPlace}, (∀ t ∈ ts, P.readableRec t = true ∧ t < P.types.size) →
    DataW.TrodAll eh P W 0 (fun _ => true) true ts vs ds p → (∀ x ∈ p, x.block < W.heap.size) → ∀ sp : Nat → Bool, (∀ x ∈ p, sp x.block = true) → DataW.TrodAll eh P W' 0 sp true ts vs ds p := by
  intro ts
  induction ts with
  | nil =>
    intro vs ds p _ h _ sp _
    obtain ⟨rfl, rfl, rfl⟩ := trodAll_nil h
    exact trodAll_mk0
  | cons t ts ih =>
    intro vs ds p ht h hlt sp hsp
    obtain ⟨v, vs1, d, ds1, a, b, rfl, rfl, rfl, h1, h2⟩ := trodAll_cons h
    refine trodAll_cons_mk (WideElems.Trod_stays hl (ht t (by simp)).1 (ht t (by simp)).2 h1 (fun x hx => hb.same (hlt x (by simp [hx]))) fun x hx => hsp x (by simp [hx])) (ih (fun t' h' => ht t' (by simp [h'])) h2 (fun x hx => hlt x (by simp [hx])) sp fun x hx => hsp x (by simp [hx]))

/-- what a law's row asks behind a call that has answered true and left old memory alone -/
theorem law_post (hl : laidOutB P = true) {f : Func} {s : ChangeSpec} {W W' : World} {args : Array Value} {ds gs : List (DataW H)} {before : List MemPlace} {tb : TypeId}
    (hpar : ∀ t ∈ f.params.toList, P.readableRec t = true ∧ t < P.types.size) (hvars : s.vars = []) (hres : (s.fn H (ds ++ gs)).results = [.lit (.bool true)]) (hargs : (s.fn H (ds ++ gs)).args = ds) (hv : (s.fn H (ds ++ gs)).vars = [])
    (hrt : f.resultTypes = #[tb]) (hb : P.underlying tb = some .bool) (hW : DataW.Whole eh P f.params.toList s.vars false W args.toList ds gs before) {g g' : Gh} (hE : Ext (fun b => W.heap.size ≤ b) g W g' W') :
    s.post eh P f false true false false W args (.bool true) W' := by
  have hW' := hW
  have hlt := fun x hx => hW'.lt x hx
  obtain ⟨p, q, hA, hV, hps, hfz, hnd⟩ := hW
  rw [hvars] at hV
  obtain ⟨rfl, rfl⟩ := trodVars_none hV
  rw [List.append_nil] at hps
  subst hps
  have hbel := below_of hE
  refine post_of_same (pa := before) (pv := []) hW' (fun b sp hd => ?_) (fun sp hsp => ?_) (fun sp _ => ?_) (by simp) (hbel.frame _) hE.low.frz ?_
  · rw [hres, hrt]
    exact trodAll_cons_mk (shut_bool hb _) trodAll_mk0
  · rw [hargs]
    exact trodAll_stays hl hbel hpar hA (fun x hx => hlt x hx) sp hsp
  · rw [hv, hvars]
    rfl
  · exact ok_one hrt rfl (okWide_bool_mk hb _)

/-- arguments, one by one -/
theorem rel_args {g : Gh} {W : World} {as : List AV} {args : Array Value} (hl : as.length = args.size) (h : ∀ (i : Nat) (a : AV) (v : Value), as[i]? = some a → args.toList[i]? = some v → Rel g W a v) :
    ∀ (i : Nat) (a : AV) (v : Value), as[i]? = some a → args[i]? = some v → Rel g W a v := fun i a v ha hv => h i a v ha (by simpa using hv)

theorem okWide_cell {W : World} {r : Reach} {base : Nat} {t : TypeId} {v : Value} {d : TypeDesc} (hd : P.underlying t = some d) (hs : ∀ fs, d ≠ .struct fs) (ha : ∀ n e, d ≠ .array n e) (h : Value.okWide P W r base t v) : v.cells = #[v] := by
  unfold Value.okWide at h
  rw [hd] at h
  cases v with
  | agg cs =>
    exfalso
    cases d <;> first
      | exact hs _ rfl
      | exact ha _ _ rfl
      | (simp [Cell.okWide, Cell.ok, hd] at h)
  | _ => rfl

theorem okWide_struct {W : World} {r : Reach} {base : Nat} {t : TypeId} {v : Value} {fs : Array Field} (hd : P.underlying t = some (.struct fs)) (h : Value.okWide P W r base t v) : ∃ cs, v = .agg cs := by
  unfold Value.okWide at h
  rw [hd] at h
  obtain ⟨cs, rfl, _⟩ := h
  exact ⟨cs, rfl⟩

/-- an argument that is one cell -/
theorem arg_cell {U : (H : Type) → DataW H → Nat} {t : TypeId} {α : Type} {enc : α → AV} {ok : α → Prop} {bulk : α → Nat} (h : Opens P U t α 1 (fun x => [enc x]) ok bulk) {W : World} {r : Reach} {base : Nat} {v : Value} {d : DataW H} {p : List MemPlace} {de : TypeDesc}
    (hd : P.underlying t = some de) (hs : ∀ fs, de ≠ .struct fs) (ha : ∀ n e, de ≠ .array n e) (hval : Value.okWide P W r base t v) (ht : DataW.Trod eh P W 0 (fun _ => true) true t v d p) :
    ∃ x, Rel (stG (oldS W)) W (enc x) v ∧ ok x ∧ bulk x ≤ U H d := by
  obtain ⟨fuel, ht⟩ := ht
  rw [okWide_cell hd hs ha hval] at ht
  obtain ⟨x, h1, h2, h3⟩ := h.op eh W 0 true fuel _ d p ht
  exact ⟨x, h1.rel 0 _ _ rfl rfl, h2, h3⟩

/-- an argument that is a struct -/
theorem arg_struct {U : (H : Type) → DataW H → Nat} {t : TypeId} {α : Type} {n : Nat} {enc : α → List AV} {ok : α → Prop} {bulk : α → Nat} (h : Opens P U t α n enc ok bulk) {W : World} {r : Reach} {base : Nat} {v : Value} {d : DataW H} {p : List MemPlace} {fs : Array Field}
    (hd : P.underlying t = some (.struct fs)) (hval : Value.okWide P W r base t v) (ht : DataW.Trod eh P W 0 (fun _ => true) true t v d p) :
    ∃ x, Rel (stG (oldS W)) W (.agg (enc x)) v ∧ ok x ∧ bulk x ≤ U H d := by
  obtain ⟨cs, rfl⟩ := okWide_struct hd hval
  obtain ⟨fuel, ht⟩ := ht
  obtain ⟨x, h1, h2, h3⟩ := h.op eh W 0 true fuel _ d p ht
  refine ⟨x, .agg (h1.len.trans (by simp [Value.cells])) fun i a u ha hu => h1.rel i a u ha ?_, h2, h3⟩
  show cs.toList[i]? = some u
  simpa using hu

/-- a call of a function that answers true -/
theorem law_calls {fid : FuncId} {W : World} {as : List AV} {args : Array Value} (hc : PureCall P fid as (.bool true)) (hl : as.length = args.size) (hr : ∀ (i : Nat) (a : AV) (v : Value), as[i]? = some a → args[i]? = some v → Rel (stG (oldS W)) W a v) :
    Calls P fid args W fun e W' => e = .returned (.bool true) ∧ ∃ g g', Ext (fun b => W.heap.size ≤ b) g W g' W' :=
  (hc.2 (oldS W) W args (fun b x h => h) hl hr).mono fun e W' ⟨st', val, he, hE, _, hv⟩ => by
    have := rel_bool hv
    subst this
    exact ⟨he, _, _, hE⟩

end
end Go.Proofs.Ytmapiefbnjaikaa.Vm
/- Runs that end in one way; loops and steps of such runs. -/
set_option linter.all false
namespace Go.Proofs.Ytmapiefbnjaikaa.Vm
open Go

/-- all runs from a state on end in one and the same state, of which R holds -/
@[irreducible] def RunD (P : Program) (n : NN) (c : Cfg) (R : Exit → List AV → List VObj → Prop) : Prop :=
  ∃ e t s, R e t s ∧ Run P n c fun e' t' s' => e' = e ∧ t' = t ∧ s' = s

@[irreducible] def LoopRunD (P : Program) (n : NN) (body : Code) (c : Cfg) (R : Exit → List AV → List VObj → Prop) : Prop := RunD P n ⟨c.t, c.s, .code (.loop body) :: c.todo⟩ R

def OutHoldsD (P : Program) (n : NN) (R : Exit → List AV → List VObj → Prop) : Out → Prop
  | .fail => False
  | .more c => RunD P n c R
  | .br b c c' => (b = true → RunD P n c R) ∧ (b = false → RunD P n c' R)
  | .op o f => OpHolds P o fun v s fp => RunD P n (f v s fp) R
  | .loop body c => LoopRunD P n body c R
  | .done e t s => R e t s

section
variable {P : Program} {E : Env} {N : NN} {R : Exit → List AV → List VObj → Prop}

theorem RunD.run {c : Cfg} (h : RunD P N c R) : Run P N c R := by
  unfold RunD at h
  obtain ⟨e, t, s, hR, h⟩ := h
  exact run_mono h fun _ _ _ ⟨h1, h2, h3⟩ => by subst h1; subst h2; subst h3; exact hR

theorem RunD.map {c c' : Cfg} (f : ∀ R', Run P N c R' → Run P N c' R') (h : RunD P N c R) : RunD P N c' R := by
  unfold RunD at h ⊢
  obtain ⟨e, t, s, hR, h⟩ := h
  exact ⟨e, t, s, hR, f _ h⟩

theorem RunD.mono {c : Cfg} {R' : Exit → List AV → List VObj → Prop} (h : RunD P N c R) (hR : ∀ e t s, R e t s → R' e t s) : RunD P N c R' := by
  unfold RunD at h ⊢
  obtain ⟨e, t, s, h1, h⟩ := h
  exact ⟨e, t, s, hR _ _ _ h1, h⟩

theorem RunD.intro {c : Cfg} {e : Exit} {t : List AV} {s : List VObj} (h : Run P N c fun e' t' s' => e' = e ∧ t' = t ∧ s' = s) (hR : R e t s) : RunD P N c R := by
  unfold RunD; exact ⟨e, t, s, hR, h⟩

/-- a run that ends at once -/
theorem run_end {t : List AV} {s : List VObj} {R : Exit → List AV → List VObj → Prop} (h : R .normal t s) : Run P N ⟨t, s, []⟩ R :=
  run_intro (fun _ B g0 w0 hf g a w hS => ⟨t, s, g, hS, h⟩) (fun x r e => nomatch e)
theorem run_skip {t : List AV} {s : List VObj} {todo : List VItem} {R : Exit → List AV → List VObj → Prop} (h : Run P N ⟨t, s, todo⟩ R) : Run P N ⟨t, s, .code .skip :: todo⟩ R :=
  run_intro (fun ht B g0 w0 hf g a w hS => wp_skip (run_elim h (any_tail ht) hf hS)) (fun x r' e => by cases e; rfl)
theorem run_inBlock {t : List AV} {s : List VObj} {id : Nat} {todo : List VItem} {R : Exit → List AV → List VObj → Prop} (h : Run P N ⟨t, s, todo⟩ R) : Run P N ⟨t, s, .inBlock id :: todo⟩ R :=
  run_intro (fun ht B g0 w0 hf g a w hS => run_elim h (any_tail ht) hf hS) (fun x r' e => by cases e; rfl)
theorem run_seq {t : List AV} {s : List VObj} {x y : Code} {todo : List VItem} {R : Exit → List AV → List VObj → Prop} (h : Run P N ⟨t, s, .code x :: .code y :: todo⟩ R) : Run P N ⟨t, s, .code (.seq x y) :: todo⟩ R := by
  refine run_intro (fun ht B g0 w0 hf g a w hS => ?_) (fun x r' e => by cases e; rfl)
  have := run_elim h (todo := .code x :: .code y :: todo) (any_cons rfl (any_cons rfl (any_tail ht))) hf hS
  refine wp_seq (wp_mono this fun e a w he => ?_)
  cases e <;> first | exact he | exact wp_mono he fun e a w he => by cases e <;> exact he
theorem run_cond {t : List AV} {s : List VObj} {c : Operand} {x y : Code} {b : Bool} {todo : List VItem} {R : Exit → List AV → List VObj → Prop} (hb : evV t c = .bool b) (h : Run P N ⟨t, s, .code (if b then x else y) :: todo⟩ R) : Run P N ⟨t, s, .code (.cond c x y) :: todo⟩ R := by
  refine run_intro (fun ht B g0 w0 hf g a w hS => ?_) (fun x r' e => by cases e; rfl)
  have hv := evGv_rel (x := c) hS.rt
  rw [hb] at hv
  have := run_elim h (todo := .code (if b then x else y) :: todo) (any_cons rfl (any_tail ht)) hf hS
  cases b with
  | true => exact wp_mono (wp_cond_true (rel_bool hv) this) fun e a w he => by cases e <;> exact he
  | false => exact wp_mono (wp_cond_false (rel_bool hv) this) fun e a w he => by cases e <;> exact he
theorem run_block {t : List AV} {s : List VObj} {id : Nat} {b : Code} {todo : List VItem} {R : Exit → List AV → List VObj → Prop} (h : Run P N ⟨t, s, .code b :: .inBlock id :: todo⟩ R) : Run P N ⟨t, s, .code (.block id b) :: todo⟩ R := by
  refine run_intro (fun ht B g0 w0 hf g a w hS => ?_) (fun x r' e => by cases e; rfl)
  have := run_elim h (todo := .code b :: .inBlock id :: todo) (any_cons rfl (any_cons rfl (any_tail ht))) hf hS
  have hb : (Code.block id b).wp P (after P (conc B g0 w0 R) todo) a w := wp_block (wp_mono this fun e a w he => by cases e <;> exact he)
  exact wp_mono hb fun e a w he => by cases e <;> exact he

theorem popTo_any (id : Nat) : ∀ (todo r : List VItem), popTo id todo = some r → todo.any isOps = false → r.any isOps = false := by
  intro todo
  induction todo with
  | nil => intro r h; exact nomatch h
  | cons x todo ih2 =>
    intro r h hh
    rw [List.any_cons, Bool.or_eq_false_iff] at hh
    cases x with
    | inBlock id' =>
      simp only [popTo] at h
      split at h
      · cases h; exact hh.2
      · exact ih2 r h hh.2
    | _ => exact ih2 r h hh.2

theorem run_exit_in {t : List AV} {s : List VObj} {id : Nat} {todo r : List VItem} {R : Exit → List AV → List VObj → Prop} (hr : popTo id todo = some r) (h : Run P N ⟨t, s, r⟩ R) : Run P N ⟨t, s, .code (.exit id) :: todo⟩ R := by
  refine run_intro (fun ht B g0 w0 hf g a w hS => wp_exit ?_) (fun x r' e => by cases e; rfl)
  show after P (conc B g0 w0 R) todo (.exit id) a w
  refine after_exit todo ?_
  rw [hr]
  exact run_elim h (popTo_any id todo r hr (any_tail ht)) hf hS
theorem run_exit_out {t : List AV} {s : List VObj} {id : Nat} {todo : List VItem} {R : Exit → List AV → List VObj → Prop} (hr : popTo id todo = none) (h : R (.exit id) t s) : Run P N ⟨t, s, .code (.exit id) :: todo⟩ R := by
  refine run_intro (fun ht B g0 w0 hf g a w hS => wp_exit ?_) (fun x r' e => by cases e; rfl)
  show after P (conc B g0 w0 R) todo (.exit id) a w
  refine after_exit todo ?_
  rw [hr]
  exact ⟨t, s, g, hS, h⟩
theorem run_ret {t : List AV} {s : List VObj} {todo : List VItem} {R : Exit → List AV → List VObj → Prop} (h : R .ret t s) : Run P N ⟨t, s, .code .ret :: todo⟩ R := by
  refine run_intro (fun ht B g0 w0 hf g a w hS => wp_ret ?_) (fun x r' e => by cases e; rfl)
  exact after_ret ⟨t, s, g, hS, h⟩ todo

/-- the evaluator of code is sound for such runs -/
theorem vrun_soundD (hE : E.Fits P) (hQ : E.EqOk P) : ∀ (n : Nat) (t : List AV) (s : List VObj) (todo : List VItem), vrun E n t s todo (OutHoldsD P N R) → RunD P N ⟨t, s, todo⟩ R := by
  intro n
  induction n with
  | zero => intro t s todo h; exact h
  | succ n ih =>
    intro t s todo h
    have hops : ∀ (all : Array Oper) (draw : Bool) (o : Oper) (os : List Oper) (fps : List FP) (todo : List VItem), GuardYes all o t →
        vval E (fun out => match out with
          | .ok v s' fp => putK t o.dst v fun t' => vrun E n t' s' (.ops all draw os (fp :: fps) :: todo) (OutHoldsD P N R)
          | .fail => OutHoldsD P N R .fail
          | out => OutHoldsD P N R (.op out fun v s' fp => ⟨putT t o.dst v, s', .ops all draw os (fp :: fps) :: todo⟩)) o.dst o.op t s → RunD P N ⟨t, s, .ops all draw (o :: os) fps :: todo⟩ R := by
      intro all draw o os fps todo hg h
      obtain ⟨v, s2, fp, hop, hR⟩ := vval_sound (ty := o.type) (pos := o.pos) (after := o.after) (guard := o.guard) (R := fun v s' fp => RunD P N ⟨putT t o.dst v, s', .ops all draw os (fp :: fps) :: todo⟩ R) hE hQ (fun out hout => by
        cases out with
        | ok v s' fp =>
          dsimp only at hout
          rw [putK_eq] at hout
          exact ih _ _ _ hout
        | fail => exact hout
        | need p v s fp => exact hout
        | look p r f s fp => exact hout
        | br b v v' s => exact hout
        | idx p es i m f fp => exact hout
        | sidx b i s => exact hout
        | cas m i f s => exact hout
        | call fid args s => exact hout) h
      exact hR.map fun R' => run_done_op (.inl ⟨hg, hop⟩)
    cases todo with
    | nil => exact .intro (run_end ⟨rfl, rfl, rfl⟩) h
    | cons x todo =>
      cases x with
      | inBlock id => exact (ih t s todo h).map fun R' => run_inBlock
      | ops all draw left fps =>
        cases left with
        | nil =>
          cases draw with
          | false => exact (ih t s todo h).map fun R' => run_ops_end (fun h => nomatch h)
          | true =>
            simp only [vrun] at h
            split at h
            · rename_i hok
              rw [Bool.and_eq_true] at hok
              exact (ih t s todo h).map fun R' => run_ops_end (fun _ => hok)
            · exact h.elim
        | cons o os =>
          simp only [vrun] at h
          split at h
          · rename_i hg
            exact hops all draw o os fps todo (by unfold GuardYes; rw [hg]; trivial) h
          · rename_i j want hg
            split at h
            · exact h.elim
            · rename_i d hd
              rw [getS_eq] at h
              split at h
              · rename_i b hb
                obtain ⟨g1, g2⟩ := guard_of hg hd hb
                split at h
                · rename_i hx; exact hops all draw o os fps todo (g1 hx) h
                · rename_i hx
                  rw [putK_eq] at h
                  exact (ih _ _ _ h).map fun R' => run_done_op (.inr ⟨g2 hx, rfl, rfl, rfl⟩)
              · rename_i b hb
                obtain ⟨h1, h2⟩ := h
                cases b with
                | true => exact (h1 rfl).map fun R' => run_told (sameU_set hb rfl)
                | false => exact (h2 rfl).map fun R' => run_told (sameU_set hb rfl)
              · rename_i hb
                rw [putK_eq] at h
                refine (ih _ _ _ h).map fun R' => run_done_op (.inr ⟨?_, rfl, rfl, rfl⟩)
                unfold GuardNo
                rw [hg]
                exact ⟨d, hd, .inr (by rw [hb]; rfl)⟩
              · exact h.elim
      | code c =>
        cases c with
        | skip => exact (ih t s todo h).map fun R' => run_skip
        | region id all draw => exact (ih t s _ h).map fun R' => run_ops_start
        | seq x y => exact (ih t s _ h).map fun R' => run_seq
        | cond c x y =>
          simp only [vrun, evG_eq] at h
          have hc := unkb_evGv t c
          split at h
          · rename_i b hb
            rw [hb] at hc
            split at h
            · exact (ih t s _ h).map fun R' h => run_cond hc.symm h
            · exact (ih t s _ h).map fun R' h => run_cond hc.symm h
          · rename_i b hb
            rw [hb] at hc
            obtain ⟨h1, h2⟩ := h
            cases b with
            | true => exact (h1 rfl).map fun R' h => run_cond hc.symm h
            | false => exact (h2 rfl).map fun R' h => run_cond hc.symm h
          · exact h.elim
        | block id b => exact (ih t s _ h).map fun R' => run_block
        | loop b =>
          have h : LoopRunD P N b ⟨t, s, todo⟩ R := h
          unfold LoopRunD at h
          exact h
        | exit id =>
          simp only [vrun] at h
          split at h
          · rename_i r hr
            exact (ih t s r h).map fun R' => run_exit_in hr
          · rename_i hr
            exact .intro (run_exit_out hr ⟨rfl, rfl, rfl⟩) h
        | ret => exact .intro (run_ret ⟨rfl, rfl, rfl⟩) h
        | _ => exact h.elim

theorem run_stepD (hE : E.Fits P) (hQ : E.EqOk P) (fuel : Nat) {c : Cfg} (h : vrunC E fuel c (OutHoldsD P N R)) : RunD P N c R := by
  obtain ⟨t, s, todo⟩ := c
  simp only [vrunC, forceC_eq, forceS_eq] at h
  exact vrun_soundD hE hQ fuel t s todo h

/- Loops. -/
def LoopRD (P : Program) (N : NN) (todo : List VItem) (R : Exit → List AV → List VObj → Prop) (again : List AV → List VObj → Prop) : Exit → List AV → List VObj → Prop
  | .normal, t, s => again t s
  | .exit id, t, s => match popTo id todo with
    | some r => RunD P N ⟨t, s, r⟩ R
    | none => R (.exit id) t s
  | .ret, t, s => R .ret t s
  | _, _, _ => False

/-- where a loop's rounds lead from an index on -/
inductive LoopTo {ι : Type} (P : Program) (N : NN) (body : Code) (todo : List VItem) (T : ι → List AV) (S : ι → List VObj) (μ : ι → Nat) (R : Exit → List AV → List VObj → Prop) : ι → Prop
  | out (i : ι) (e : Exit) (t : List AV) (s : List VObj) (h : Run P N ⟨T i, S i, [.code body]⟩ fun e' t' s' => e' = e ∧ t' = t ∧ s' = s) (hR : LoopR P N todo R (fun _ _ => False) e t s) : LoopTo P N body todo T S μ R i
  | more (i j : ι) (t : List AV) (s : List VObj) (h : Run P N ⟨T i, S i, [.code body]⟩ fun e' t' s' => e' = .normal ∧ t' = t ∧ s' = s) (hm : μ j < μ i) (hw : Weak N t s (T j) (S j)) (h' : LoopTo P N body todo T S μ R j) : LoopTo P N body todo T S μ R i

theorem LoopTo.run {ι : Type} {body : Code} {todo : List VItem} {T : ι → List AV} {S : ι → List VObj} {μ : ι → Nat} {i0 : ι} {t : List AV} {s : List VObj} (h0 : Weak N t s (T i0) (S i0)) (h : LoopTo P N body todo T S μ R i0) :
    Run P N ⟨t, s, .code (.loop body) :: todo⟩ R := by
  refine run_loop (ι := { i : ι // LoopTo P N body todo T S μ R i }) (fun i => T i.1) (fun i => S i.1) (fun i => μ i.1) ⟨i0, h⟩ h0 fun i => ?_
  obtain ⟨i, hi⟩ := i
  cases hi with
  | out _ e t s h hR =>
    refine run_mono h fun e' t' s' ⟨h1, h2, h3⟩ => ?_
    subst h1; subst h2; subst h3
    cases e' <;> first | exact hR | exact hR.elim
  | more _ j t s h hm hw h' =>
    refine run_mono h fun e' t' s' ⟨h1, h2, h3⟩ => ?_
    subst h1; subst h2; subst h3
    exact ⟨⟨j, h'⟩, hm, hw⟩

theorem loop_ruleD {ι : Type} (T : ι → List AV) (S : ι → List VObj) (μ : ι → Nat) (i0 : ι) {t : List AV} {s : List VObj} {body : Code} {todo : List VItem} (h0 : Weak N t s (T i0) (S i0))
    (round : ∀ i, RunD P N ⟨T i, S i, [.code body]⟩ (LoopRD P N todo R fun t' s' => ∃ j, μ j < μ i ∧ Weak N t' s' (T j) (S j))) : LoopRunD P N body ⟨t, s, todo⟩ R := by
  have key : ∀ n i, μ i = n → ∃ e t s, R e t s ∧ LoopTo P N body todo T S μ (fun e' t' s' => e' = e ∧ t' = t ∧ s' = s) i := by
    intro n
    induction n using Nat.strongRecOn with
    | _ n ih =>
      intro i hn
      have hr := round i
      unfold RunD at hr
      obtain ⟨e, t1, s1, hR, hrun⟩ := hr
      cases e with
      | normal =>
        obtain ⟨j, hm, hw⟩ := hR
        obtain ⟨e2, t2, s2, hR2, hl⟩ := ih (μ j) (hn ▸ hm) j rfl
        exact ⟨e2, t2, s2, hR2, .more i j t1 s1 hrun hm hw hl⟩
      | exit id =>
        simp only [LoopRD] at hR
        split at hR
        · rename_i r hr
          unfold RunD at hR
          obtain ⟨e2, t2, s2, hR2, hrun2⟩ := hR
          refine ⟨e2, t2, s2, hR2, .out i _ t1 s1 hrun ?_⟩
          simp only [LoopR, hr]; exact hrun2
        · rename_i hr
          refine ⟨_, t1, s1, hR, .out i _ t1 s1 hrun ?_⟩
          simp only [LoopR, hr]; exact ⟨trivial, trivial, trivial⟩
      | ret => exact ⟨_, t1, s1, hR, .out i _ t1 s1 hrun ⟨rfl, rfl, rfl⟩⟩
      | _ => exact hR.elim
  obtain ⟨e, t1, s1, hR, hl⟩ := key _ i0 rfl
  unfold LoopRunD
  exact .intro (hl.run h0) hR

/-- a loop: the slots 'keep' and the objects below n are as they were before it, but for what U and V say; under an invariant -/
theorem loop_invD {ι : Type} (I : ι → Prop) (keep : List Nat) (n : Nat) (U : ι → List (Nat × AV)) (V : ι → List (Nat × VObj)) (μ : ι → Nat) (i0 : ι) {t : List AV} {s : List VObj} {body : Code} {todo : List VItem} (hl : N.l ≤ n) (hn : N.v ≤ n)
    (h0 : updT (canonT N.v keep n s t) (U i0) = canonT N.v keep n s t) (h1 : updS (canonS N.v n s) (V i0) = canonS N.v n s) (hI : I i0)
    (round : ∀ i, I i → RunD P N ⟨updT (canonT N.v keep n s t) (U i), updS (canonS N.v n s) (V i), [.code body]⟩
      (LoopRD P N todo R fun t' s' => ∃ j, I j ∧ μ j < μ i ∧ canonT N.v keep n s' t' = updT (canonT N.v keep n s t) (U j) ∧ canonS N.v n s' = updS (canonS N.v n s) (V j))) : LoopRunD P N body ⟨t, s, todo⟩ R := by
  refine loop_ruleD (ι := { i : ι // I i }) (fun i => updT (canonT N.v keep n s t) (U i.1)) (fun i => updS (canonS N.v n s) (V i.1)) (fun i => μ i.1) ⟨i0, hI⟩ (weak_canon keep hl hn h0.symm h1.symm) fun i => (round i.1 i.2).mono fun e t' s' h => ?_
  cases e with
  | normal =>
    obtain ⟨j, q0, q1, q2, q3⟩ := h
    exact ⟨⟨j, q0⟩, q1, weak_canon keep hl hn q2 q3⟩
  | _ => exact h

theorem loop_promoteD {k esz : Nat} {full : Bool} {t : List AV} {s : List VObj} {body : Code} {todo : List VItem} (hk : t[k]? = some (.sl (some true) full [])) (h0 : 0 < esz) (h : LoopRunD P N body ⟨t.set k (.sall s.length 0), setO s s.length (.arr 0 esz none [] false), todo⟩ R) :
    LoopRunD P N body ⟨t, s, todo⟩ R := by
  unfold LoopRunD at h ⊢
  exact h.map fun R' => run_weak (weak_promote hk h0) (fun x r e => by cases e; rfl)

/-- rounds one by one, n at the most -/
def LoopFD (P : Program) (N : NN) (body : Code) (todo : List VItem) (R : Exit → List AV → List VObj → Prop) : Nat → List AV → List VObj → Prop
  | 0, _, _ => False
  | n + 1, t, s => RunD P N ⟨t, s, [.code body]⟩ (LoopRD P N todo R (LoopFD P N body todo R n))

theorem loop_fuelD (n : Nat) {t : List AV} {s : List VObj} {body : Code} {todo : List VItem} (h : LoopFD P N body todo R n t s) : LoopRunD P N body ⟨t, s, todo⟩ R := by
  refine loop_ruleD (ι := { x : Nat × List AV × List VObj // LoopFD P N body todo R x.1 x.2.1 x.2.2 }) (fun x => x.1.2.1) (fun x => x.1.2.2) (fun x => x.1.1) ⟨(n, t, s), h⟩ (Weak.refl t s) fun x => ?_
  obtain ⟨⟨m, t1, s1⟩, hx⟩ := x
  cases m with
  | zero => exact hx.elim
  | succ m =>
    refine RunD.mono (show RunD P N ⟨t1, s1, [.code body]⟩ (LoopRD P N todo R (LoopFD P N body todo R m)) from hx) fun e t' s' he => ?_
    cases e with
    | normal => exact ⟨⟨(m, t', s'), he⟩, Nat.lt_succ_self m, Weak.refl t' s'⟩
    | _ => exact he

theorem contractD {E : Env} (hE : E.Fits P) {fid : FuncId} {fn : Func} {args : List AV} {v : AV} (hk : Known P fid fn) (h : RunD P ⟨0, 0⟩ (start fn args) (RetR E fn.results.toList v)) : PureCall P fid args v := contract hE hk h.run

end
end Go.Proofs.Ytmapiefbnjaikaa.Vm
/- Calls that are walked in place, over the caller's own objects. -/
set_option linter.all false
namespace Go.Proofs.Ytmapiefbnjaikaa.Vm
open Go

/-- a value leads into these objects alone -/
def sub : Nat → List Nat → AV → Bool
  | _, ids, .ptr id _ => ids.contains id
  | _, ids, .eptr id _ _ _ _ => ids.contains id
  | _, ids, .sall id _ => ids.contains id
  | _, ids, .sref id _ _ _ _ => ids.contains id
  | _, ids, .map id => ids.contains id
  | n + 1, ids, .agg cs => cs.all (sub n ids)
  | n + 1, ids, .tuple cs => cs.all (sub n ids)
  | n + 1, ids, .func _ a b => a.all (sub n ids) && b.all (sub n ids)
  | n + 1, ids, .iface _ x => sub n ids x
  | n + 1, ids, .vptr cs _ => cs.all (sub n ids)
  | 0, _, .agg _ => false
  | 0, _, .tuple _ => false
  | 0, _, .func .. => false
  | 0, _, .iface .. => false
  | 0, _, .vptr .. => false
  | _, _, _ => true

def onlyG (g : Gh) (ids : List Nat) : Gh := ⟨fun id => if id ∈ ids then g.loc id else none, fun id => if id ∈ ids then g.hdr id else none, g.stab⟩

theorem Rel.only {g : Gh} {w : World} {ids : List Nat} : ∀ (n : Nat) {x : AV} {v : Value}, Rel g w x v → sub n ids x = true → Rel (onlyG g ids) w x v := by
  intro n
  induction n with
  | zero =>
    intro x v h hs
    cases h with
    | ptr h => have : _ ∈ ids := List.contains_iff_mem.1 hs; exact .ptr (by simp only [onlyG, if_pos this]; exact h)
    | eptr h1 h2 h3 => have : _ ∈ ids := List.contains_iff_mem.1 hs; exact .eptr (by simp only [onlyG, if_pos this]; exact h1) h2 h3
    | sall h1 h2 h3 => have : _ ∈ ids := List.contains_iff_mem.1 hs; exact .sall (by simp only [onlyG, if_pos this]; exact h1) h2 h3
    | sref h1 h2 h3 => have : _ ∈ ids := List.contains_iff_mem.1 hs; exact .sref (by simp only [onlyG, if_pos this]; exact h1) h2 h3
    | map h => have : _ ∈ ids := List.contains_iff_mem.1 hs; exact .map (by simp only [onlyG, if_pos this]; exact h)
    | sl vs h0 h1 h2 h3 h4 h5 h6 => exact Rel.pureG (g := g) (g' := onlyG g ids) (fun _ _ h => h) (.sl vs h0 h1 h2 h3 h4 h5 h6) rfl
    | dead => exact .dead _
    | bool => exact .bool _
    | kb => exact .kb _
    | int => exact .int _ _
    | str => exact .str _
    | nilptr => exact .nilptr
    | slnil h h' => exact .slnil h h'
    | nilmap => exact .nilmap
    | nilfunc => exact .nilfunc
    | nilif => exact .nilif
    | _ => exact nomatch hs
  | succ n ih =>
    intro x v h hs
    cases h with
    | ptr h => have : _ ∈ ids := List.contains_iff_mem.1 hs; exact .ptr (by simp only [onlyG, if_pos this]; exact h)
    | eptr h1 h2 h3 => have : _ ∈ ids := List.contains_iff_mem.1 hs; exact .eptr (by simp only [onlyG, if_pos this]; exact h1) h2 h3
    | sall h1 h2 h3 => have : _ ∈ ids := List.contains_iff_mem.1 hs; exact .sall (by simp only [onlyG, if_pos this]; exact h1) h2 h3
    | sref h1 h2 h3 => have : _ ∈ ids := List.contains_iff_mem.1 hs; exact .sref (by simp only [onlyG, if_pos this]; exact h1) h2 h3
    | map h => have : _ ∈ ids := List.contains_iff_mem.1 hs; exact .map (by simp only [onlyG, if_pos this]; exact h)
    | sl vs h0 h1 h2 h3 h4 h5 h6 => exact Rel.pureG (g := g) (g' := onlyG g ids) (fun _ _ h => h) (.sl vs h0 h1 h2 h3 h4 h5 h6) rfl
    | dead => exact .dead _
    | bool => exact .bool _
    | kb => exact .kb _
    | int => exact .int _ _
    | str => exact .str _
    | nilptr => exact .nilptr
    | slnil h h' => exact .slnil h h'
    | nilmap => exact .nilmap
    | nilfunc => exact .nilfunc
    | nilif => exact .nilif
    | agg h1 h2 => exact .agg h1 fun i x v hx hv => ih (h2 i x v hx hv) (List.all_eq_true.1 hs x (List.mem_of_getElem? hx))
    | tuple h1 h2 => exact .tuple h1 fun i x v hx hv => ih (h2 i x v hx hv) (List.all_eq_true.1 hs x (List.mem_of_getElem? hx))
    | func h1 h2 h3 h4 =>
      simp only [sub, Bool.and_eq_true] at hs
      exact .func h1 h2 (fun i x v hx hv => ih (h3 i x v hx hv) (List.all_eq_true.1 hs.1 x (List.mem_of_getElem? hx))) (fun i x v hx hv => ih (h4 i x v hx hv) (List.all_eq_true.1 hs.2 x (List.mem_of_getElem? hx)))
    | iface h => exact .iface (ih h hs)
    | vptr vs h1 h2 h3 => exact .vptr vs h1 (fun j c hc => ih (h2 j c hc) (List.all_eq_true.1 hs c (List.mem_of_getElem? hc))) h3

/-- .. and so what an object holds -/
def subO (ids : List Nat) : VObj → Bool
  | .box cs _ => cs.all (sub 4 ids)
  | _ => true

/-- the objects of a list, and no others -/
def maskS (ids : List Nat) : Nat → List VObj → List VObj
  | _, [] => []
  | i, o :: s => (match ids.contains i with | true => o | false => .gone) :: maskS ids (i + 1) s

theorem getO_maskS (ids : List Nat) : ∀ (s : List VObj) (i k : Nat), getO (maskS ids i s) k = if i + k ∈ ids then getO s k else .gone := by
  intro s
  induction s with
  | nil => intro i k; simp [maskS, getO]
  | cons o s ih =>
    intro i k
    cases k with
    | zero =>
      simp only [maskS, getO, List.getD_cons_zero, Nat.add_zero]
      by_cases h : i ∈ ids
      · rw [if_pos h, List.contains_iff_mem.2 h]
      · rw [if_neg h]
        cases hc : ids.contains i with
        | true => exact (h (List.contains_iff_mem.1 hc)).elim
        | false => rfl
    | succ k =>
      have := ih (i + 1) k
      simp only [getO] at this ⊢
      simp only [maskS, List.getD_cons_succ, this]
      rw [show i + 1 + k = i + (k + 1) by omega]

/-- where what a call may touch is found: the objects that values lead to -/
def refsN : Nat → AV → List Nat
  | _, .ptr id _ => [id]
  | _, .eptr id _ _ _ _ => [id]
  | _, .sall id _ => [id]
  | _, .sref id _ _ _ _ => [id]
  | _, .map id => [id]
  | n + 1, .agg cs => cs.flatMap (refsN n)
  | n + 1, .tuple cs => cs.flatMap (refsN n)
  | n + 1, .func _ a b => a.flatMap (refsN n) ++ b.flatMap (refsN n)
  | n + 1, .iface _ x => refsN n x
  | n + 1, .vptr cs _ => cs.flatMap (refsN n)
  | _, _ => []
def refsObj : VObj → List Nat
  | .box cs _ => cs.flatMap (refsN 4)
  | _ => []
def addNew (l : List Nat) : List Nat → List Nat
  | [] => l
  | i :: r => match l.contains i with
    | true => addNew l r
    | false => addNew (l ++ [i]) r
/-- fuel, done, to do -/
def reach (s : List VObj) : Nat → List Nat → List Nat → List Nat
  | 0, d, _ => d
  | _, d, [] => d
  | n + 1, d, i :: r => match d.contains i with
    | true => reach s n d r
    | false => reach s n (d ++ [i]) (refsObj (getO s i) ++ r)
def reachA (s : List VObj) (args : List AV) : List Nat := reach s 60 [] (args.flatMap (refsN 4))

def goneOut (ids : List Nat) (s2 : List VObj) : Nat → Bool
  | 0 => true
  | n + 1 => (match ids.contains n with
    | true => true
    | false => match getO s2 n with
      | .gone => true
      | _ => false) && goneOut ids s2 n

theorem goneOut_spec {ids : List Nat} {s2 : List VObj} : ∀ {n : Nat}, goneOut ids s2 n = true → ∀ k, k < n → k ∉ ids → getO s2 k = .gone := by
  intro n
  induction n with
  | zero => intro _ k hk; omega
  | succ n ih =>
    intro h k hk hn
    simp only [goneOut, Bool.and_eq_true] at h
    by_cases e : k = n
    · subst e
      cases hc : ids.contains k with
      | true => exact (hn (List.contains_iff_mem.1 hc)).elim
      | false =>
        rw [hc] at h
        obtain ⟨h1, _⟩ := h
        dsimp only at h1
        split at h1
        · assumption
        · exact nomatch h1
    · exact ih h.2 k (by omega) hn

/-- the caller's objects, behind the call -/
def backS (ids : List Nat) (s2 : List VObj) : Nat → List VObj → List VObj
  | k, [] => s2.drop k
  | k, o :: s => (match ids.contains k with | true => getO s2 k | false => o) :: backS ids s2 (k + 1) s

theorem getO_backS (ids : List Nat) (s2 : List VObj) : ∀ (s : List VObj) (k i : Nat), getO (backS ids s2 k s) i = if i < s.length then (if k + i ∈ ids then getO s2 (k + i) else getO s i) else getO s2 (k + i) := by
  intro s
  induction s with
  | nil => intro k i; simp [backS, getO, List.getD_eq_getElem?_getD, List.getElem?_drop]
  | cons o s ih =>
    intro k i
    cases i with
    | zero =>
      simp only [backS, getO, List.getD_cons_zero, Nat.add_zero, List.length_cons, if_pos (Nat.succ_pos _)]
      by_cases h : k ∈ ids
      · rw [if_pos h, List.contains_iff_mem.2 h]
      · rw [if_neg h]
        cases hc : ids.contains k with
        | true => exact (h (List.contains_iff_mem.1 hc)).elim
        | false => rfl
    | succ i =>
      have := ih (k + 1) i
      simp only [getO] at this ⊢
      simp only [backS, List.getD_cons_succ, this, List.length_cons, Nat.succ_lt_succ_iff]
      rw [show k + 1 + i = k + (i + 1) by omega]

def newIds (n : Nat) : Nat → List Nat
  | 0 => []
  | m + 1 => n :: newIds (n + 1) m
theorem mem_newIds : ∀ (m n i : Nat), i ∈ newIds n m ↔ n ≤ i ∧ i < n + m := by
  intro m
  induction m with
  | zero => intro n i; simp [newIds]
  | succ m ih => intro n i; simp only [newIds, List.mem_cons, ih]; omega

/-- what a call that is walked in place must end in -/
def InR (E : Env) (rs : List ResultVar) (ids : List Nat) (s : List VObj) (R : AV → List VObj → FP → Prop) (e : Exit) (t : List AV) (s2 : List VObj) : Prop :=
  match e with
  | .ret => match resO E rs t s2, goneOut ids s2 s.length with
    | some v, true => R v (backS ids s2 0 s) ⟨[], ids ++ newIds s.length (s2.length - s.length)⟩
    | _, _ => False
  | .normal => match resO E rs t s2, goneOut ids s2 s.length with
    | some v, true => R v (backS ids s2 0 s) ⟨[], ids ++ newIds s.length (s2.length - s.length)⟩
    | _, _ => False
  | _ => False

def startIn (fn : Func) (args : List AV) (s : List VObj) : Cfg := ⟨args ++ List.replicate (fn.ntmps - args.length) .dead, s, [.code (fn.body.getD .skip)]⟩

theorem blk_only {g : Gh} {ids : List Nat} {id b : Nat} : blk (onlyG g ids) id b ↔ id ∈ ids ∧ blk g id b := by
  unfold blk onlyG
  by_cases h : id ∈ ids
  · simp [h]
  · simp [h]

theorem ObjRel.sub {g g' : Gh} {w : World} {id : Nat} {o : VObj} (hl : g'.loc id = g.loc id) (hh : g'.hdr id = g.hdr id) (hst : ∀ b x, g'.stab b x ↔ g.stab b x)
    (r : ObjRel g w id o) (hbox : ∀ cs fz, o = .box cs fz → ∀ c ∈ cs, ∀ v, Rel g w c v → Rel g' w c v) : ObjRel g' w id o := by
  cases o with
  | gone => exact ⟨hl.trans r.1, hh.trans r.2⟩
  | box cs fz =>
    obtain ⟨h1, b, o, vs, h2, h3, h4, h5, h6, h7⟩ := r
    exact ⟨hh.trans h1, b, o, vs, hl.trans h2, h3, h4, fun j c hc => ⟨(h5 j c hc).1, hbox cs fz rfl c (List.mem_of_getElem? hc) _ (h5 j c hc).2⟩, fun hf j hj => (hst _ _).2 (h6 hf j hj), fun hf x hx => h7 hf x ((hst _ _).1 hx)⟩
  | arr ver esz nn es fz =>
    obtain ⟨h1, h2, h3, h3', h4⟩ := r
    refine ⟨hl.trans h1, h2, h3, h3', ?_⟩
    rcases h4 with ⟨a, k1, k2, k3⟩ | ⟨b, o, cap, vs, k1, k0, k2, k3, k4, k5, k6, k7, k8, k9⟩
    · exact .inl ⟨a, hh.trans k1, k2, k3⟩
    · exact .inr ⟨b, o, cap, vs, hh.trans k1, k0, k2, k3, k4, k5, k6, fun i c j x hi hj => ⟨(k7 i c j x hi hj).1, (k7 i c j x hi hj).2.pureG (fun b o h => (hst b o).2 h) (h2 c (List.mem_of_getElem? hi) x (List.mem_of_getElem? hj))⟩,
        fun hf => ⟨fun i j hi hj => (hst _ _).2 ((k8 hf).1 i j hi hj), fun x hx hs => (k8 hf).2 x hx ((hst _ _).1 hs)⟩, fun hf x hx => k9 hf x ((hst _ _).1 hx)⟩
  | map kt vt es =>
    obtain ⟨h1, b, clock, en, h2, h3, h4, h5, h6, h7, h8⟩ := r
    exact ⟨hh.trans h1, b, clock, en, hl.trans h2, h3, h4, h5, fun i x e hx he => ⟨(h6 i x e hx he).1.flatG (fun b o h => (hst b o).2 h) (h7 x (List.mem_of_getElem? hx)).1, (h6 i x e hx he).2.flatG (fun b o h => (hst b o).2 h) (h7 x (List.mem_of_getElem? hx)).2⟩, h7, fun x hx => h8 x ((hst _ _).1 hx)⟩

section
variable {P : Program} {E : Env}

theorem vcall_in (hE : E.Fits P) {fid : FuncId} {fn : Func} {args : List AV} {s : List VObj} {R : AV → List VObj → FP → Prop} (hk : Known P fid fn) (ids : List Nat)
    (hi : ids.all (fun i => Nat.blt i s.length && subO ids (getO s i)) = true) (ha : args.all (sub 4 ids) = true)
    (h : RunD P ⟨s.length, s.length⟩ (startIn fn args (maskS ids 0 s)) (InR E fn.results.toList ids s R)) : VCall P fid args s R := by
  have hi1 : ∀ i ∈ ids, i < s.length ∧ subO ids (getO s i) = true := fun i hm => by
    have := List.all_eq_true.1 hi i hm
    rw [Bool.and_eq_true] at this
    exact ⟨Nat.le_of_ble_eq_true this.1, this.2⟩
  unfold RunD at h
  obtain ⟨e, t2, s2, hR, hrun⟩ := h
  have hR : ∃ v, (e = .ret ∨ e = .normal) ∧ resO E fn.results.toList t2 s2 = some v ∧ goneOut ids s2 s.length = true ∧ R v (backS ids s2 0 s) ⟨[], ids ++ newIds s.length (s2.length - s.length)⟩ := by
    cases e with
    | ret =>
      simp only [InR] at hR
      split at hR
      · exact ⟨_, .inl rfl, ‹_›, ‹_›, hR⟩
      · exact hR.elim
    | normal =>
      simp only [InR] at hR
      split at hR
      · exact ⟨_, .inr rfl, ‹_›, ‹_›, hR⟩
      · exact hR.elim
    | _ => exact hR.elim
  obtain ⟨v, hee, hres, hgo, hR⟩ := hR
  have hgo := goneOut_spec hgo
  unfold VCall
  have hwr : ∀ id, id ∈ ids ++ newIds s.length (s2.length - s.length) ↔ id ∈ ids ∨ (s.length ≤ id ∧ id < s2.length) := fun id => by
    rw [List.mem_append, mem_newIds]
    constructor
    · rintro (h | h)
      · exact .inl h
      · exact .inr (by omega)
    · rintro (h | h)
      · exact .inl h
      · exact .inr (by omega)
  have hgone : ∀ id, ¬ (id ∈ ids ++ newIds s.length (s2.length - s.length)) → getO s2 id = .gone := fun id hn => by
    rw [hwr] at hn
    by_cases h1 : id < s.length
    · exact hgo id h1 fun h => hn (.inl h)
    · have : s2.length ≤ id := by
        rcases Nat.lt_or_ge id s2.length with h | h
        · exact (hn (.inr ⟨by omega, h⟩)).elim
        · exact h
      simp [getO, this]
  have hback : ∀ id, getO (backS ids s2 0 s) id = if id ∈ ids ++ newIds s.length (s2.length - s.length) then getO s2 id else getO s id := fun id => by
    rw [getO_backS, Nat.zero_add]
    by_cases h1 : id < s.length
    · rw [if_pos h1]
      by_cases h2 : id ∈ ids
      · rw [if_pos h2, if_pos ((hwr id).2 (.inl h2))]
      · rw [if_neg h2, if_neg (fun h => by rcases (hwr id).1 h with h | h; exact h2 h; omega)]
    · rw [if_neg h1]
      by_cases h2 : id ∈ ids ++ newIds s.length (s2.length - s.length)
      · rw [if_pos h2]
      · rw [if_neg h2, hgone id h2]
        have : s.length ≤ id := by omega
        simp [getO, this]
  refine ⟨v, _, _, hR, fun id hid => by rw [hback, if_neg hid], ⟨fn, hk.funcs, hk.body, hk.name⟩, fun B g w vals σ hB hl hrel hag hs => ?_⟩
  have hag : ∀ id, id ∈ ids ++ newIds s.length (s2.length - s.length) → σ id = getO s id := fun id h => hag id (.inr h)
  obtain ⟨c, hc⟩ := Option.isSome_iff_exists.1 hk.body
  let g0 := onlyG g ids
  let B0 : Nat → Prop := fun b => (∃ id ∈ ids, blk g id b) ∨ w.heap.size ≤ b
  have hni : ∀ id, s.length ≤ id → id ∉ ids := fun id hid h => by have := (hi1 id h).1; omega
  have hfrm : Frm ⟨s.length, s.length⟩ B0 g0 w := ⟨fun _ h => .inr h, fun id hid => by simp only [g0, onlyG, if_neg (hni id hid)], fun id hid => by simp only [g0, onlyG, if_neg (hni id hid)]⟩
  have hS : StRel B0 g0 w g0 w (args ++ List.replicate (fn.ntmps - args.length) .dead) (maskS ids 0 s) { tmps := vals ++ Array.replicate (fn.ntmps - vals.size) undef, defers := [] } := by
    refine ⟨Ext.refl _ _ _, ⟨fun id => ?_, fun i j b h1 h2 => ?_, fun id b h => ?_, hs.sb⟩, ⟨by simp [hl], fun i x u hx hu => ?_⟩, rfl⟩
    · rw [getO_maskS, Nat.zero_add]
      by_cases hm : id ∈ ids
      · rw [if_pos hm]
        have ho := hs.obj id
        rw [hag id (List.mem_append_left _ hm)] at ho
        refine ObjRel.sub (g := g) (g' := g0) (by simp only [g0, onlyG, if_pos hm]) (by simp only [g0, onlyG, if_pos hm]) (fun _ _ => Iff.rfl) (r := ho) fun cs fz he c hc v hv => ?_
        have := (hi1 id hm).2
        rw [he] at this
        exact hv.only 4 (List.all_eq_true.1 this c hc)
      · rw [if_neg hm]
        exact ⟨by simp only [g0, onlyG, if_neg hm], by simp only [g0, onlyG, if_neg hm]⟩
    · exact hs.apart i j b (blk_only.1 h1).2 (blk_only.1 h2).2
    · exact .inl ⟨id, (blk_only.1 h).1, (blk_only.1 h).2⟩
    · rw [List.getElem?_append] at hx
      rw [Array.getElem?_append] at hu
      by_cases hil : i < args.length
      · rw [if_pos hil] at hx
        rw [if_pos (by omega)] at hu
        exact (hrel i x u hx hu).only 4 (List.all_eq_true.1 ha x (List.mem_of_getElem? hx))
      · rw [if_neg hil, List.getElem?_replicate] at hx
        split at hx
        · cases hx; exact .dead _
        · exact nomatch hx
  have hw := run_elim (t := args ++ List.replicate (fn.ntmps - args.length) .dead) (s := maskS ids 0 s) (todo := [.code c]) (by rw [startIn, hc] at hrun; exact hrun) rfl hfrm hS
  refine calls_of_wp hk.funcs hc (wp_mono (show c.wp P _ _ _ from hw) fun e' a w' he => ?_)
  have key : ∀ e', after P (conc B0 g0 w fun e' t' s' => e' = e ∧ t' = t2 ∧ s' = s2) [] e' a w' → (e' = .ret ∨ e' = .normal) ∧ a.defers = [] ∧ ∃ u, (results fn a.tmps).run P w' = .ok u w' ∧ ∃ g2 val, Ending.returned u = .returned val ∧ Ext B g w g2 w' ∧ RelS B g2 w' (over σ (getO (backS ids s2 0 s)) (ids ++ newIds s.length (s2.length - s.length))) ∧ Rel g2 w' v val := by
    rintro e' ⟨t', s', g1, hS', rfl, rfl, rfl⟩
    obtain ⟨u, hrunr, hval⟩ := run_results hE hS'.rs hS'.rt rfl hres
    refine ⟨hee, hS'.defers, u, hrunr, ?_⟩
    have hdec : ∀ id : Nat, Decidable (id ∈ ids ++ newIds s.length (s'.length - s.length)) := fun _ => inferInstance
    let g2 : Gh := ⟨fun id => if id ∈ ids ++ newIds s.length (s'.length - s.length) then g1.loc id else g.loc id, fun id => if id ∈ ids ++ newIds s.length (s'.length - s.length) then g1.hdr id else g.hdr id, g1.stab⟩
    have h0 := hS'.ext
    have hnew : ∀ id, id ∈ ids ++ newIds s.length (s'.length - s.length) → id ∉ ids → g.loc id = none ∧ g.hdr id = none := fun id hm hn => by
      have := hs.obj id
      rw [hag id hm] at this
      have hge : s.length ≤ id := by rcases (hwr id).1 hm with h | h; exact (hn h).elim; exact h.1
      rw [show getO s id = .gone by simp [getO, hge]] at this
      exact this
    have hblk0 : ∀ b, B0 b → B b := fun b hb => by
      rcases hb with ⟨id, hm, hb⟩ | hb
      · exact hs.inB id b hb
      · exact hB b hb
    have hnone : ∀ id, id ∉ ids ++ newIds s.length (s'.length - s.length) → g1.loc id = none ∧ g1.hdr id = none := fun id hn => by
      have := hS'.rs.obj id
      rw [hgone id hn] at this
      exact this
    -- from the callee's ghost to the merged one
    have e12 : Ext B0 g1 w' g2 w' :=
      { size := Nat.le_refl _
        stab := fun _ _ h => h
        same := fun _ _ _ => rfl
        keep := fun _ _ => rfl
        keepS := fun _ _ _ h => h
        loc := fun id x hx => by
          by_cases hm : id ∈ ids ++ newIds s.length (s'.length - s.length)
          · simp only [g2, if_pos hm]; exact hx
          · rw [(hnone id hm).1] at hx; exact nomatch hx
        hdr := fun id ver hd hx => by
          by_cases hm : id ∈ ids ++ newIds s.length (s'.length - s.length)
          · exact ⟨ver, hd, by simp only [g2, if_pos hm]; exact hx, Nat.le_refl _, fun _ => rfl⟩
          · rw [(hnone id hm).2] at hx; exact nomatch hx
        low := Low.refl _ }
    have e02 : Ext B g w g2 w' :=
      { size := h0.size
        stab := h0.stab
        same := h0.same
        keep := fun b hb => h0.keep b fun h => hb (hblk0 b h)
        keepS := fun b o hb h => h0.keepS b o (fun h => hb (hblk0 b h)) h
        loc := fun id x hx => by
          by_cases hm : id ∈ ids ++ newIds s.length (s'.length - s.length)
          · simp only [g2, if_pos hm]
            by_cases hn : id ∈ ids
            · exact h0.loc id x (by simp only [g0, onlyG, if_pos hn]; exact hx)
            · rw [(hnew id hm hn).1] at hx; exact nomatch hx
          · simp only [g2, if_neg hm]; exact hx
        hdr := fun id ver hd hx => by
          by_cases hm : id ∈ ids ++ newIds s.length (s'.length - s.length)
          · simp only [g2, if_pos hm]
            by_cases hn : id ∈ ids
            · exact h0.hdr id ver hd (by simp only [g0, onlyG, if_pos hn]; exact hx)
            · rw [(hnew id hm hn).2] at hx; exact nomatch hx
          · exact ⟨ver, hd, by simp only [g2, if_neg hm]; exact hx, Nat.le_refl _, fun _ => rfl⟩
        low := h0.low }
    have hb1 : ∀ id b, id ∈ ids ++ newIds s.length (s'.length - s.length) → blk g2 id b → blk g1 id b := fun id b hm h => by
      unfold blk at h ⊢
      simp only [g2, if_pos hm] at h; exact h
    have hb2 : ∀ id b, id ∉ ids ++ newIds s.length (s'.length - s.length) → blk g2 id b → blk g id b := fun id b hm h => by
      unfold blk at h ⊢
      simp only [g2, if_neg hm] at h; exact h
    have hout : ∀ id b, id ∉ ids ++ newIds s.length (s'.length - s.length) → blk g id b → ¬ B0 b := fun id b hm h hb => by
      rcases hb with ⟨id', hm', hb⟩ | hb
      · have := hs.apart id id' b h hb
        subst this; exact hm (List.mem_append_left _ hm')
      · have := hs.lt h; omega
    refine ⟨g2, u, rfl, e02, ⟨fun id => ?_, fun i j b h1 h2 => ?_, fun id b h => ?_, fun b x h => hS'.rs.sb b x h⟩, hval.mono e12⟩
    · unfold over
      by_cases hm : id ∈ ids ++ newIds s.length (s'.length - s.length)
      · rw [if_pos hm, hback, if_pos hm]
        exact (hS'.rs.obj id).keep e12 (by simp only [g2, if_pos hm]) (by simp only [g2, if_pos hm]) fun b _ => ⟨rfl, fun _ => Iff.rfl⟩
      · rw [if_neg hm]
        refine (hs.obj id).keep e02 (by simp only [g2, if_neg hm]) (by simp only [g2, if_neg hm]) fun b hk => ?_
        have hnb := hout id b hm hk
        exact ⟨h0.keep b hnb, fun x => ⟨fun h => h0.keepS b x hnb h, fun h => h0.stab b x h⟩⟩
    · by_cases hi' : i ∈ ids ++ newIds s.length (s'.length - s.length)
      · by_cases hj' : j ∈ ids ++ newIds s.length (s'.length - s.length)
        · exact hS'.rs.apart i j b (hb1 i b hi' h1) (hb1 j b hj' h2)
        · exact (hout j b hj' (hb2 j b hj' h2) (hS'.rs.inB i b (hb1 i b hi' h1))).elim
      · by_cases hj' : j ∈ ids ++ newIds s.length (s'.length - s.length)
        · exact (hout i b hi' (hb2 i b hi' h1) (hS'.rs.inB j b (hb1 j b hj' h2))).elim
        · exact hs.apart i j b (hb2 i b hi' h1) (hb2 j b hj' h2)
    · by_cases hm : id ∈ ids ++ newIds s.length (s'.length - s.length)
      · exact hblk0 b (hS'.rs.inB id b (hb1 id b hm h))
      · exact hs.inB id b (hb2 id b hm h)
  cases e' with
  | normal => exact (key _ he).2
  | ret => exact (key _ he).2
  | _ => obtain ⟨h, _⟩ := key _ he; rcases h with h | h <;> exact nomatch h

end
end Go.Proofs.Ytmapiefbnjaikaa.Vm
/- Contracts of functions that are handed objects; their use over any store. -/
set_option linter.all false
namespace Go.Proofs.Ytmapiefbnjaikaa.Vm
open Go

/-- the ghost as a callee's run may take it for given: where variables lie; where keep, the slices' heads too -/
def g0O (keep : Bool) (g : Gh) : Gh := ⟨g.loc, if keep then g.hdr else fun _ => none, g.stab⟩

/-- a function that is handed the objects s (and no others), in an order of their own, with versions 0, and leaves s2 -/
def ObjCall (P : Program) (keep : Bool) (fid : FuncId) (args : List AV) (s : List VObj) (v : AV) (s2 : List VObj) : Prop :=
  (∃ fn, P.funcs[fid]? = some fn ∧ fn.body.isSome = true ∧ (fn.name == "runtime.NumGoroutine") = false) ∧
  ∀ (B : Nat → Prop) (g : Gh) (w : World) (vals : Array Value), (∀ b, w.heap.size ≤ b → B b) → args.length = vals.size → (∀ (i : Nat) (x : AV) (u : Value), args[i]? = some x → vals[i]? = some u → Rel g w x u) → RelS B g w (getO s) →
    Calls P fid vals w fun e w' => ∃ g' val, e = .returned val ∧ Ext B (g0O keep g) w g' w' ∧ RelS B g' w' (getO s2) ∧ Rel g' w' v val

/-- what such a function's run must end in -/
def RetO (E : Env) (rs : List ResultVar) (keep : Bool) (n : Nat) (v : AV) (s2 : List VObj) : Exit → List AV → List VObj → Prop
  | .ret, t, s => match resO E rs t s with
    | some r => nrmD s r = v ∧ canonS (cond keep n 0) n (freeze s (refsD r)) = s2
    | none => False
  | .normal, t, s => match resO E rs t s with
    | some r => nrmD s r = v ∧ canonS (cond keep n 0) n (freeze s (refsD r)) = s2
    | none => False
  | _, _, _ => False

section
variable {P : Program} {E : Env}

theorem objCall (hE : E.Fits P) {keep : Bool} {fid : FuncId} {fn : Func} {args : List AV} {s : List VObj} {v : AV} {s2 : List VObj} (hk : Known P fid fn) (h : RunD P ⟨cond keep s.length 0, s.length⟩ (startIn fn args s) (RetO E fn.results.toList keep s.length v s2)) : ObjCall P keep fid args s v s2 := by
  have h := h.run
  obtain ⟨c, hc⟩ := Option.isSome_iff_exists.1 hk.body
  refine ⟨⟨fn, hk.funcs, hk.body, hk.name⟩, fun B g w vals hB hl hrel hs => ?_⟩
  have hgone : ∀ id, s.length ≤ id → g.loc id = none ∧ g.hdr id = none := fun id hid => by
    have := hs.obj id
    rw [show getO s id = .gone by simp [getO, hid]] at this
    exact this
  have hfrm : Frm ⟨cond keep s.length 0, s.length⟩ B (g0O keep g) w := ⟨hB, fun id hid => (hgone id hid).1, fun id hid => by
    cases keep with
    | true => exact (hgone id hid).2
    | false => rfl⟩
  have hS : StRel B (g0O keep g) w g w (args ++ List.replicate (fn.ntmps - args.length) .dead) s { tmps := vals ++ Array.replicate (fn.ntmps - vals.size) undef, defers := [] } := by
    refine ⟨{ Ext.refl B g w with loc := fun _ _ h => h, stab := fun _ _ h => h, keepS := fun _ _ _ h => h, same := fun _ _ _ => rfl, hdr := fun id ver hd e => ?_ }, hs, ⟨by simp [hl], fun i x u hx hu => ?_⟩, rfl⟩
    · cases keep with
      | true => exact ⟨ver, hd, e, Nat.le_refl _, fun _ => rfl⟩
      | false => exact nomatch e
    · rw [List.getElem?_append] at hx
      rw [Array.getElem?_append] at hu
      by_cases hil : i < args.length
      · rw [if_pos hil] at hx
        rw [if_pos (by omega)] at hu
        exact hrel i x u hx hu
      · rw [if_neg hil, List.getElem?_replicate] at hx
        split at hx
        · cases hx; exact .dead _
        · exact nomatch hx
  have hw := run_elim (t := args ++ List.replicate (fn.ntmps - args.length) .dead) (s := s) (todo := [.code c]) (by rw [startIn, hc] at h; exact h) rfl hfrm hS
  refine calls_of_wp hk.funcs hc (wp_mono (show c.wp P _ _ _ from hw) fun e a w' he => ?_)
  have key : ∀ e, e = .ret ∨ e = .normal → after P (conc B (g0O keep g) w (RetO E fn.results.toList keep s.length v s2)) [] e a w' →
      a.defers = [] ∧ ∃ u, (results fn a.tmps).run P w' = .ok u w' ∧ ∃ g' val, Ending.returned u = .returned val ∧ Ext B (g0O keep g) w g' w' ∧ RelS B g' w' (getO s2) ∧ Rel g' w' v val := by
    rintro e hee ⟨t, s', g1, hS', hR⟩
    have hR : ∃ r, resO E fn.results.toList t s' = some r ∧ nrmD s' r = v ∧ canonS (cond keep s.length 0) s.length (freeze s' (refsD r)) = s2 := by
      rcases hee with rfl | rfl
      all_goals
        simp only [RetO] at hR
        split at hR
        · rename_i r hr; exact ⟨r, hr, hR⟩
        · exact hR.elim
    obtain ⟨r, hr, rfl, rfl⟩ := hR
    obtain ⟨u, hrun, hval⟩ := run_results hE hS'.rs hS'.rt rfl hr
    refine ⟨hS'.defers, u, hrun, ?_⟩
    obtain ⟨g2, e2, r2, l2, k2⟩ := freeze_list (w := w') (g := g1) (s := s') (refsD r) hS'.rs (fun id _ => rfl)
    have hov : over (getO s') (getO (freeze s' (refsD r))) (refsD r) = getO (freeze s' (refsD r)) := by
      funext id
      unfold over
      by_cases hid : id ∈ refsD r
      · rw [if_pos hid]
      · rw [if_neg hid, getO_freeze, if_neg hid]
    have hnv := nrmD_rel (s := s') r2 (hval.mono e2) fun id hid => by simp only [over, if_pos hid, getO_freeze]
    rw [hov] at r2
    have hn : cond keep s.length 0 ≤ s.length := by cases keep <;> simp
    refine ⟨revG (cond keep s.length 0) s.length g2, u, rfl, revG_ext (M := ⟨cond keep s.length 0, s.length⟩) (Nat.le_refl _) hn hfrm (hS'.ext.trans e2), revS_rel hn r2, flatD_rel (g := g2) (g' := revG (cond keep s.length 0) s.length g2) (fun _ _ h => h) hnv (nrmD_flat s' r)⟩
  cases e with
  | normal => exact key _ (.inr rfl) he
  | ret => exact key _ (.inl rfl) he
  | _ => obtain ⟨t, s, g, _, hR⟩ := he; exact hR.elim

/-- an object's place in a list -/
def idxK : List Nat → Nat → Option Nat
  | [], _ => none
  | i :: r, id => match Nat.beq i id with
    | true => some 0
    | false => match idxK r id with
      | some k => some (k + 1)
      | none => none

theorem idxK_some : ∀ {ρ : List Nat} {id k : Nat}, idxK ρ id = some k → ρ[k]? = some id
  | [], id, k, h => nomatch h
  | i :: r, id, k, h => by
    unfold idxK at h
    split at h
    · rename_i e; cases h; rw [Nat.eq_of_beq_eq_true e]; rfl
    · split at h
      · rename_i k' hk; cases h; simpa using idxK_some hk
      · exact nomatch h
theorem idxK_none : ∀ {ρ : List Nat} {id : Nat}, idxK ρ id = none ↔ id ∉ ρ
  | [], id => by simp [idxK]
  | i :: r, id => by
    unfold idxK
    by_cases e : i = id
    · subst e; rw [show Nat.beq i i = true from Nat.beq_refl i]; simp
    · have : Nat.beq i id = false := by
        cases h : Nat.beq i id with
        | true => exact (e (Nat.eq_of_beq_eq_true h)).elim
        | false => rfl
      rw [this]
      have ih := idxK_none (ρ := r) (id := id)
      cases hk : idxK r id with
      | none => simp [ih.1 hk, Ne.symm e]
      | some k =>
        have hm : id ∈ r := Classical.byContradiction fun hn => by rw [ih.2 hn] at hk; exact nomatch hk
        simp [hm]
theorem idxK_at : ∀ {ρ : List Nat} (hn : ρ.Nodup) {id k : Nat}, ρ[k]? = some id → idxK ρ id = some k
  | [], _, id, k, h => by simp at h
  | i :: r, hn, id, k, h => by
    rw [List.nodup_cons] at hn
    unfold idxK
    cases k with
    | zero => cases h; rw [show Nat.beq i i = true from Nat.beq_refl i]
    | succ k =>
      have h : r[k]? = some id := by simpa using h
      have : Nat.beq i id = false := by
        cases hb : Nat.beq i id with
        | true => exact (hn.1 ((Nat.eq_of_beq_eq_true hb) ▸ List.mem_of_getElem? h)).elim
        | false => rfl
      rw [this, idxK_at hn.2 h]

def verO : VObj → Nat
  | .arr ver _ _ _ _ => ver
  | _ => 0

/-- a value of the caller's, in the callee's numbers -/
def invN (ρ : List Nat) (S : List VObj) : Nat → AV → AV
  | _, .ptr id off => match idxK ρ id with
    | some k => .ptr k off
    | none => .dead
  | _, .map id => match idxK ρ id with
    | some k => .map k
    | none => .dead
  | _, .sall id ver => match idxK ρ id, Nat.beq ver (verO (getO S id)) with
    | some k, true => .sall k 0
    | _, _ => .dead
  | _, .sref id ver esz off len => match idxK ρ id, Nat.beq ver (verO (getO S id)) with
    | some k, true => .sref k 0 esz off len
    | _, _ => .dead
  | _, .eptr id ver esz i off => match idxK ρ id, Nat.beq ver (verO (getO S id)) with
    | some k, true => .eptr k 0 esz i off
    | _, _ => .dead
  | n + 1, .agg cs => .agg (cs.map (invN ρ S n))
  | n + 1, .tuple cs => .tuple (cs.map (invN ρ S n))
  | n + 1, .func fn a b => .func fn (a.map (invN ρ S n)) (b.map (invN ρ S n))
  | n + 1, .iface t x => .iface t (invN ρ S n x)
  | n + 1, .vptr cs off => .vptr (cs.map (invN ρ S n)) off
  | 0, .agg _ => .dead
  | 0, .tuple _ => .dead
  | 0, .func .. => .dead
  | 0, .iface .. => .dead
  | 0, .vptr .. => .dead
  | _, v => v
def invO (ρ : List Nat) (S : List VObj) : VObj → VObj
  | .box cs fz => .box (cs.map (invN ρ S 3)) fz
  | .arr _ esz nn es fz => .arr 0 esz nn es fz
  | o => o

/-- a value of the callee's, in the caller's numbers; δ: by how much versions have gone on -/
def renN (ρ : List Nat) (δ : Nat → Nat) : Nat → AV → AV
  | _, .ptr k off => match ρ[k]? with
    | some id => .ptr id off
    | none => .dead
  | _, .map k => match ρ[k]? with
    | some id => .map id
    | none => .dead
  | _, .sall k ver => match ρ[k]? with
    | some id => .sall id (δ k + ver)
    | none => .dead
  | _, .sref k ver esz off len => match ρ[k]? with
    | some id => .sref id (δ k + ver) esz off len
    | none => .dead
  | _, .eptr k ver esz i off => match ρ[k]? with
    | some id => .eptr id (δ k + ver) esz i off
    | none => .dead
  | n + 1, .agg cs => .agg (cs.map (renN ρ δ n))
  | n + 1, .tuple cs => .tuple (cs.map (renN ρ δ n))
  | n + 1, .func fn a b => .func fn (a.map (renN ρ δ n)) (b.map (renN ρ δ n))
  | n + 1, .iface t x => .iface t (renN ρ δ n x)
  | n + 1, .vptr cs off => .vptr (cs.map (renN ρ δ n)) off
  | 0, .agg _ => .dead
  | 0, .tuple _ => .dead
  | 0, .func .. => .dead
  | 0, .iface .. => .dead
  | 0, .vptr .. => .dead
  | _, v => v
def renO (ρ : List Nat) (δ : Nat → Nat) (k : Nat) : VObj → VObj
  | .box cs fz => .box (cs.map (renN ρ δ 3)) fz
  | .arr ver esz nn es fz => .arr (δ k + ver) esz nn es fz
  | o => o

/-- the caller's objects behind the call -/
def putR (ρ0 : List Nat) (δ : Nat → Nat) (s2 : List VObj) : Nat → List Nat → List VObj → List VObj
  | _, [], S => S
  | k, id :: r, S => putR ρ0 δ s2 (k + 1) r (setO S id (renO ρ0 δ k (getO s2 k)))

theorem getO_putR (ρ0 : List Nat) (δ : Nat → Nat) (s2 : List VObj) : ∀ (ρ : List Nat) (k : Nat) (S : List VObj), ρ.Nodup → ∀ id, getO (putR ρ0 δ s2 k ρ S) id = match idxK ρ id with | some j => renO ρ0 δ (k + j) (getO s2 (k + j)) | none => getO S id := by
  intro ρ
  induction ρ with
  | nil => intro k S _ id; rfl
  | cons i r ih =>
    intro k S hn id
    rw [List.nodup_cons] at hn
    simp only [putR, ih (k + 1) _ hn.2, idxK]
    by_cases e : i = id
    · subst e
      rw [show Nat.beq i i = true from Nat.beq_refl i, idxK_none.2 hn.1]
      simp [getO_setO]
    · have : Nat.beq i id = false := by
        cases h : Nat.beq i id with
        | true => exact (e (Nat.eq_of_beq_eq_true h)).elim
        | false => rfl
      rw [this]
      cases hk : idxK r id with
      | none => simp [getO_setO, Ne.symm e]
      | some j => simp only []; rw [show k + 1 + j = k + (j + 1) by omega]

/-- the ghosts between caller and callee -/
def inG (ρ : List Nat) (S : List VObj) (g : Gh) : Gh := ⟨fun k => (ρ[k]?).bind g.loc, fun k => (ρ[k]?).bind fun id => (g.hdr id).map fun p => (p.1 - verO (getO S id), p.2), g.stab⟩
def outG (ρ : List Nat) (δ : Nat → Nat) (g g1 : Gh) : Gh := ⟨fun id => match idxK ρ id with | some k => g1.loc k | none => g.loc id, fun id => match idxK ρ id with | some k => (g1.hdr k).map fun p => (δ k + p.1, p.2) | none => g.hdr id, g1.stab⟩

theorem inv_rel {g : Gh} {w : World} {ρ : List Nat} {S : List VObj} (hv : ∀ id, id ∈ ρ → ∀ v h, g.hdr id = some (v, h) → v = verO (getO S id)) : ∀ (n : Nat) {x : AV} {v : Value}, Rel g w x v → Rel (inG ρ S g) w (invN ρ S n x) v := by
  have leaf : ∀ (n : Nat) {x : AV} {v : Value}, Rel g w x v → ((∃ id off, x = .ptr id off) ∨ (∃ id, x = .map id) ∨ (∃ id ver, x = .sall id ver) ∨ (∃ id ver esz off len, x = .sref id ver esz off len) ∨ ∃ id ver esz i off, x = .eptr id ver esz i off) → Rel (inG ρ S g) w (invN ρ S n x) v := by
    intro n x v h hx
    have hhdr : ∀ {id k ver0 : Nat} {h : Value}, idxK ρ id = some k → g.hdr id = some (ver0, h) → (inG ρ S g).hdr k = some (0, h) ∧ ver0 = verO (getO S id) := fun hk hh => by
      have hr := idxK_some hk
      have := hv _ (List.mem_of_getElem? hr) _ _ hh
      simp only [inG, hr, Option.bind_some, hh, Option.map_some, this, Nat.sub_self]
      exact ⟨trivial, trivial⟩
    rcases hx with ⟨id, off, rfl⟩ | ⟨id, rfl⟩ | ⟨id, ver, rfl⟩ | ⟨id, ver, esz, off, len, rfl⟩ | ⟨id, ver, esz, i, off, rfl⟩
    · have e : invN ρ S n (.ptr id off) = match idxK ρ id with | some k => .ptr k off | none => .dead := by cases n <;> rfl
      rw [e]
      obtain ⟨b, o, hl, rfl⟩ := inv_ptr h
      cases hk : idxK ρ id with
      | none => exact .dead _
      | some k => exact .ptr (by simp only [inG, idxK_some hk, Option.bind_some]; exact hl)
    · have e : invN ρ S n (.map id) = match idxK ρ id with | some k => .map k | none => .dead := by cases n <;> rfl
      rw [e]
      obtain ⟨b, hl, rfl⟩ := inv_map h
      cases hk : idxK ρ id with
      | none => exact .dead _
      | some k => exact .map (by simp only [inG, idxK_some hk, Option.bind_some]; exact hl)
    · have e : invN ρ S n (.sall id ver) = match idxK ρ id, Nat.beq ver (verO (getO S id)) with | some k, true => .sall k 0 | _, _ => .dead := by cases n <;> rfl
      rw [e]
      obtain ⟨ver0, hd, a, len, cap, h1, h2, h3, rfl⟩ := inv_sall h
      split
      · rename_i k hk hb
        obtain ⟨q1, q2⟩ := hhdr hk h1
        have := Nat.eq_of_beq_eq_true hb
        exact .sall q1 (Nat.le_refl _) fun _ => h3 (by omega)
      · exact .dead _
    · have e : invN ρ S n (.sref id ver esz off len) = match idxK ρ id, Nat.beq ver (verO (getO S id)) with | some k, true => .sref k 0 esz off len | _, _ => .dead := by cases n <;> rfl
      rw [e]
      obtain ⟨ver0, hd, a, cap, h1, h2, h3, rfl⟩ := inv_sref h
      split
      · rename_i k hk hb
        obtain ⟨q1, q2⟩ := hhdr hk h1
        have := Nat.eq_of_beq_eq_true hb
        exact .sref q1 (Nat.le_refl _) fun _ => h3 (by omega)
      · exact .dead _
    · have e : invN ρ S n (.eptr id ver esz i off) = match idxK ρ id, Nat.beq ver (verO (getO S id)) with | some k, true => .eptr k 0 esz i off | _, _ => .dead := by cases n <;> rfl
      rw [e]
      obtain ⟨ver0, hd, a, h1, h2, h3, rfl⟩ := inv_eptr h
      split
      · rename_i k hk hb
        obtain ⟨q1, q2⟩ := hhdr hk h1
        have := Nat.eq_of_beq_eq_true hb
        exact .eptr q1 (Nat.le_refl _) fun _ => h3 (by omega)
      · exact .dead _
  intro n
  induction n with
  | zero =>
    intro x v h
    cases x with
    | ptr id off => exact leaf 0 h (.inl ⟨_, _, rfl⟩)
    | map id => exact leaf 0 h (.inr (.inl ⟨_, rfl⟩))
    | sall id ver => exact leaf 0 h (.inr (.inr (.inl ⟨_, _, rfl⟩)))
    | sref id ver esz off len => exact leaf 0 h (.inr (.inr (.inr (.inl ⟨_, _, _, _, _, rfl⟩))))
    | eptr id ver esz i off => exact leaf 0 h (.inr (.inr (.inr (.inr ⟨_, _, _, _, _, rfl⟩))))
    | agg _ => exact .dead _
    | tuple _ => exact .dead _
    | func _ _ _ => exact .dead _
    | iface _ _ => exact .dead _
    | vptr _ _ => exact .dead _
    | kb b => have := rel_bool h.unkb; subst this; exact .kb b
    | _ => exact h.pureG (g := g) (g' := inG ρ S g) (fun _ _ h => h) rfl
  | succ n ih =>
    intro x v h
    have hm : ∀ (cs : List AV) (f : Nat → Value → Prop), (∀ (i : Nat) (x : AV) (v : Value), cs[i]? = some x → f i v → Rel g w x v) → ∀ (i : Nat) (x : AV) (v : Value), (cs.map (invN ρ S n))[i]? = some x → f i v → Rel (inG ρ S g) w x v := by
      intro cs f hc i x v hx hv
      rw [List.getElem?_map] at hx
      cases hi : cs[i]? with
      | none => rw [hi] at hx; exact nomatch hx
      | some y => rw [hi] at hx; cases hx; exact ih (hc i y v hi hv)
    cases x with
    | ptr id off => exact leaf _ h (.inl ⟨_, _, rfl⟩)
    | map id => exact leaf _ h (.inr (.inl ⟨_, rfl⟩))
    | sall id ver => exact leaf _ h (.inr (.inr (.inl ⟨_, _, rfl⟩)))
    | sref id ver esz off len => exact leaf _ h (.inr (.inr (.inr (.inl ⟨_, _, _, _, _, rfl⟩))))
    | eptr id ver esz i off => exact leaf _ h (.inr (.inr (.inr (.inr ⟨_, _, _, _, _, rfl⟩))))
    | agg cs =>
      obtain ⟨vs, h1, h2, rfl⟩ := inv_agg h
      exact .agg (by simpa using h1) (hm cs (fun i v => vs[i]? = some v) h2)
    | tuple cs =>
      obtain ⟨vs, h1, h2, rfl⟩ := inv_tuple h
      exact .tuple (by simpa using h1) (hm cs (fun i v => vs[i]? = some v) h2)
    | func fn first cap =>
      obtain ⟨fv, cv, h1, h2, h3, h4, rfl⟩ := inv_func h
      exact .func (by simpa using h1) (by simpa using h2) (hm first (fun i v => fv[i]? = some v) h3) (hm cap (fun i v => cv[i]? = some v) h4)
    | iface t x =>
      cases h with
      | iface h => exact .iface (ih h)
    | vptr cs off =>
      obtain ⟨b, o, vs, h1, h2, rfl⟩ := inv_vptr h
      refine .vptr vs (fun j c hc => ?_) (fun j c hc => ?_) (fun j hj => h2 j (by simpa using hj))
      · rw [List.getElem?_map] at hc
        cases hj : cs[j]? with
        | none => rw [hj] at hc; exact nomatch hc
        | some y => exact (h1 j y hj).1
      · exact hm cs (fun i v => v = vs i) (fun i x v hx hv => hv ▸ (h1 i x hx).2) j c _ hc rfl
    | kb b => have := rel_bool h.unkb; subst this; exact .kb b
    | _ => exact h.pureG (g := g) (g' := inG ρ S g) (fun _ _ h => h) rfl

theorem ren_rel {g g1 : Gh} {w : World} {ρ : List Nat} {δ : Nat → Nat} (hn : ρ.Nodup) : ∀ (n : Nat) {x : AV} {v : Value}, Rel g1 w x v → Rel (outG ρ δ g g1) w (renN ρ δ n x) v := by
  have leaf : ∀ (n : Nat) {x : AV} {v : Value}, Rel g1 w x v → ((∃ id off, x = .ptr id off) ∨ (∃ id, x = .map id) ∨ (∃ id ver, x = .sall id ver) ∨ (∃ id ver esz off len, x = .sref id ver esz off len) ∨ ∃ id ver esz i off, x = .eptr id ver esz i off) → Rel (outG ρ δ g g1) w (renN ρ δ n x) v := by
    intro n x v h hx
    have hhdr : ∀ {id k ver0 : Nat} {h : Value}, ρ[k]? = some id → g1.hdr k = some (ver0, h) → (outG ρ δ g g1).hdr id = some (δ k + ver0, h) := fun hk hh => by
      simp only [outG, idxK_at hn hk, hh, Option.map_some]
    have hloc : ∀ {id k : Nat} {p : Nat × Nat}, ρ[k]? = some id → g1.loc k = some p → (outG ρ δ g g1).loc id = some p := fun hk hh => by
      simp only [outG, idxK_at hn hk, hh]
    rcases hx with ⟨id, off, rfl⟩ | ⟨id, rfl⟩ | ⟨id, ver, rfl⟩ | ⟨id, ver, esz, off, len, rfl⟩ | ⟨id, ver, esz, i, off, rfl⟩
    · have e : renN ρ δ n (.ptr id off) = match ρ[id]? with | some k => .ptr k off | none => .dead := by cases n <;> rfl
      rw [e]
      obtain ⟨b, o, hl, rfl⟩ := inv_ptr h
      cases hk : ρ[id]? with
      | none => exact .dead _
      | some k => exact .ptr (hloc hk hl)
    · have e : renN ρ δ n (.map id) = match ρ[id]? with | some k => .map k | none => .dead := by cases n <;> rfl
      rw [e]
      obtain ⟨b, hl, rfl⟩ := inv_map h
      cases hk : ρ[id]? with
      | none => exact .dead _
      | some k => exact .map (hloc hk hl)
    · have e : renN ρ δ n (.sall id ver) = match ρ[id]? with | some k => .sall k (δ id + ver) | none => .dead := by cases n <;> rfl
      rw [e]
      obtain ⟨ver0, hd, a, len, cap, h1, h2, h3, rfl⟩ := inv_sall h
      cases hk : ρ[id]? with
      | none => exact .dead _
      | some k => exact .sall (hhdr hk h1) (by omega) fun _ => h3 (by omega)
    · have e : renN ρ δ n (.sref id ver esz off len) = match ρ[id]? with | some k => .sref k (δ id + ver) esz off len | none => .dead := by cases n <;> rfl
      rw [e]
      obtain ⟨ver0, hd, a, cap, h1, h2, h3, rfl⟩ := inv_sref h
      cases hk : ρ[id]? with
      | none => exact .dead _
      | some k => exact .sref (hhdr hk h1) (by omega) fun _ => h3 (by omega)
    · have e : renN ρ δ n (.eptr id ver esz i off) = match ρ[id]? with | some k => .eptr k (δ id + ver) esz i off | none => .dead := by cases n <;> rfl
      rw [e]
      obtain ⟨ver0, hd, a, h1, h2, h3, rfl⟩ := inv_eptr h
      cases hk : ρ[id]? with
      | none => exact .dead _
      | some k => exact .eptr (hhdr hk h1) (by omega) fun _ => h3 (by omega)
  intro n
  induction n with
  | zero =>
    intro x v h
    cases x with
    | ptr id off => exact leaf 0 h (.inl ⟨_, _, rfl⟩)
    | map id => exact leaf 0 h (.inr (.inl ⟨_, rfl⟩))
    | sall id ver => exact leaf 0 h (.inr (.inr (.inl ⟨_, _, rfl⟩)))
    | sref id ver esz off len => exact leaf 0 h (.inr (.inr (.inr (.inl ⟨_, _, _, _, _, rfl⟩))))
    | eptr id ver esz i off => exact leaf 0 h (.inr (.inr (.inr (.inr ⟨_, _, _, _, _, rfl⟩))))
    | agg _ => exact .dead _
    | tuple _ => exact .dead _
    | func _ _ _ => exact .dead _
    | iface _ _ => exact .dead _
    | vptr _ _ => exact .dead _
    | kb b => have := rel_bool h.unkb; subst this; exact .kb b
    | _ => exact h.pureG (g := g1) (g' := outG ρ δ g g1) (fun _ _ h => h) rfl
  | succ n ih =>
    intro x v h
    have hm : ∀ (cs : List AV) (f : Nat → Value → Prop), (∀ (i : Nat) (x : AV) (v : Value), cs[i]? = some x → f i v → Rel g1 w x v) → ∀ (i : Nat) (x : AV) (v : Value), (cs.map (renN ρ δ n))[i]? = some x → f i v → Rel (outG ρ δ g g1) w x v := by
      intro cs f hc i x v hx hv
      rw [List.getElem?_map] at hx
      cases hi : cs[i]? with
      | none => rw [hi] at hx; exact nomatch hx
      | some y => rw [hi] at hx; cases hx; exact ih (hc i y v hi hv)
    cases x with
    | ptr id off => exact leaf _ h (.inl ⟨_, _, rfl⟩)
    | map id => exact leaf _ h (.inr (.inl ⟨_, rfl⟩))
    | sall id ver => exact leaf _ h (.inr (.inr (.inl ⟨_, _, rfl⟩)))
    | sref id ver esz off len => exact leaf _ h (.inr (.inr (.inr (.inl ⟨_, _, _, _, _, rfl⟩))))
    | eptr id ver esz i off => exact leaf _ h (.inr (.inr (.inr (.inr ⟨_, _, _, _, _, rfl⟩))))
    | agg cs =>
      obtain ⟨vs, h1, h2, rfl⟩ := inv_agg h
      exact .agg (by simpa using h1) (hm cs (fun i v => vs[i]? = some v) h2)
    | tuple cs =>
      obtain ⟨vs, h1, h2, rfl⟩ := inv_tuple h
      exact .tuple (by simpa using h1) (hm cs (fun i v => vs[i]? = some v) h2)
    | func fn first cap =>
      obtain ⟨fv, cv, h1, h2, h3, h4, rfl⟩ := inv_func h
      exact .func (by simpa using h1) (by simpa using h2) (hm first (fun i v => fv[i]? = some v) h3) (hm cap (fun i v => cv[i]? = some v) h4)
    | iface t x =>
      cases h with
      | iface h => exact .iface (ih h)
    | vptr cs off =>
      obtain ⟨b, o, vs, h1, h2, rfl⟩ := inv_vptr h
      refine .vptr vs (fun j c hc => ?_) (fun j c hc => ?_) (fun j hj => h2 j (by simpa using hj))
      · rw [List.getElem?_map] at hc
        cases hj : cs[j]? with
        | none => rw [hj] at hc; exact nomatch hc
        | some y => exact (h1 j y hj).1
      · exact hm cs (fun i v => v = vs i) (fun i x v hx hv => hv ▸ (h1 i x hx).2) j c _ hc rfl
    | kb b => have := rel_bool h.unkb; subst this; exact .kb b
    | _ => exact h.pureG (g := g1) (g' := outG ρ δ g g1) (fun _ _ h => h) rfl

def mapO (f : AV → AV) (ver' : Nat) : VObj → VObj
  | .box cs fz => .box (cs.map f) fz
  | .arr _ esz nn es fz => .arr ver' esz nn es fz
  | o => o
theorem invO_map (ρ : List Nat) (S : List VObj) (o : VObj) : invO ρ S o = mapO (invN ρ S 3) 0 o := by cases o <;> rfl
theorem renO_map (ρ : List Nat) (δ : Nat → Nat) (k : Nat) (o : VObj) : renO ρ δ k o = mapO (renN ρ δ 3) (δ k + verO o) o := by cases o <;> rfl

/-- an object under another ghost and number, its cells' values seen anew -/
theorem ObjRel.as {g g' : Gh} {w : World} {id id' ver' : Nat} {o : VObj} (f : AV → AV) (hl : g'.loc id' = g.loc id) (hh : ∀ v h, g.hdr id = some (v, h) → v = verO o ∧ g'.hdr id' = some (ver', h)) (hn : g.hdr id = none → g'.hdr id' = none) (hst : ∀ b x, g'.stab b x ↔ g.stab b x)
    (hf : ∀ x v, Rel g w x v → Rel g' w (f x) v) (r : ObjRel g w id o) : ObjRel g' w id' (mapO f ver' o) := by
  cases o with
  | gone => exact ⟨hl.trans r.1, hn r.2⟩
  | box cs fz =>
    obtain ⟨h1, b, o, vs, h2, h3, h4, h5, h6, h7⟩ := r
    refine ⟨hn h1, b, o, vs, hl.trans h2, h3, h4, fun j c hc => ?_, fun hz j hj => (hst _ _).2 (h6 hz j (by simpa using hj)), fun hz x hx => h7 hz x ((hst _ _).1 hx)⟩
    rw [List.getElem?_map] at hc
    cases hj : cs[j]? with
    | none => rw [hj] at hc; exact nomatch hc
    | some y => rw [hj] at hc; cases hc; exact ⟨(h5 j y hj).1, hf _ _ (h5 j y hj).2⟩
  | arr ver esz nn es fz =>
    obtain ⟨h1, h2, h3, h3', h4⟩ := r
    refine ⟨hl.trans h1, h2, h3, h3', ?_⟩
    rcases h4 with ⟨a, k1, k2, k3⟩ | ⟨b, o, cap, vs, k1, k0, k2, k3, k4, k5, k6, k7, k8, k9⟩
    · exact .inl ⟨a, (hh _ _ k1).2, k2, k3⟩
    · exact .inr ⟨b, o, cap, vs, (hh _ _ k1).2, k0, k2, k3, k4, k5, k6, fun i c j x hi hj => ⟨(k7 i c j x hi hj).1, (k7 i c j x hi hj).2.pureG (fun b o h => (hst b o).2 h) (h2 c (List.mem_of_getElem? hi) x (List.mem_of_getElem? hj))⟩,
        fun hf => ⟨fun i j hi hj => (hst _ _).2 ((k8 hf).1 i j hi hj), fun x hx hs => (k8 hf).2 x hx ((hst _ _).1 hs)⟩, fun hf x hx => k9 hf x ((hst _ _).1 hx)⟩
  | map kt vt es =>
    obtain ⟨h1, b, clock, en, h2, h3, h4, h5, h6, h7, h8⟩ := r
    exact ⟨hn h1, b, clock, en, hl.trans h2, h3, h4, h5, fun i x e hx he => ⟨(h6 i x e hx he).1.flatG (fun b o h => (hst b o).2 h) (h7 x (List.mem_of_getElem? hx)).1, (h6 i x e hx he).2.flatG (fun b o h => (hst b o).2 h) (h7 x (List.mem_of_getElem? hx)).2⟩, h7, fun x hx => h8 x ((hst _ _).1 hx)⟩

theorem hdr_verO {B : Nat → Prop} {g : Gh} {w : World} {σ : Nat → VObj} (hs : RelS B g w σ) {id v : Nat} {h : Value} (hh : g.hdr id = some (v, h)) : v = verO (σ id) := by
  have := hs.obj id
  cases ho : σ id with
  | gone => rw [ho] at this; rw [this.2] at hh; exact nomatch hh
  | box cs fz => rw [ho] at this; rw [this.1] at hh; exact nomatch hh
  | map kt vt es => rw [ho] at this; rw [this.1] at hh; exact nomatch hh
  | arr ver esz nn es fz =>
    rw [ho] at this
    obtain ⟨_, _, _, _, hc⟩ := this
    rcases hc with ⟨a, k, _⟩ | ⟨b, o, cap, vs, k, _⟩ <;> (rw [hh] at k; cases k; rfl)

def nodupB : List Nat → Bool
  | [] => true
  | i :: r => !r.contains i && nodupB r
theorem nodupB_spec : ∀ {l : List Nat}, nodupB l = true → l.Nodup
  | [], _ => .nil
  | i :: r, h => by
    simp only [nodupB, Bool.and_eq_true, Bool.not_eq_true'] at h
    exact List.nodup_cons.2 ⟨fun hm => (by rw [List.contains_iff_mem.2 hm] at h; exact nomatch h.1), nodupB_spec h.2⟩

def kindsOk (s2 : List VObj) : Nat → List VObj → Bool
  | _, [] => true
  | k, .arr .. :: s => (match getO s2 k with
    | .arr .. => true
    | _ => false) && kindsOk s2 (k + 1) s
  | k, _ :: s => kindsOk s2 (k + 1) s
theorem kindsOk_spec (s2 : List VObj) : ∀ (s : List VObj) (i : Nat), kindsOk s2 i s = true → ∀ k ver esz nn es fz, getO s k = .arr ver esz nn es fz → ∃ ver esz nn es fz, getO s2 (i + k) = .arr ver esz nn es fz := by
  intro s
  induction s with
  | nil => intro i _ k ver esz nn es fz h; simp [getO] at h
  | cons o s ih =>
    intro i h k ver esz nn es fz hk
    cases k with
    | zero =>
      have : o = .arr ver esz nn es fz := hk
      subst this
      simp only [kindsOk, Bool.and_eq_true] at h
      obtain ⟨h, _⟩ := h
      split at h
      · rename_i e; exact ⟨_, _, _, _, _, e⟩
      · exact nomatch h
    | succ k =>
      have hk : getO s k = .arr ver esz nn es fz := hk
      rw [show i + (k + 1) = i + 1 + k by omega]
      refine ih (i + 1) ?_ k ver esz nn es fz hk
      cases o <;> simp [kindsOk] at h <;> first | exact h | exact h.2

/-- a call of such a function, over any store: ρ: the caller's numbers of the objects -/
theorem vcall_obj {keep : Bool} {fid : FuncId} {args args' : List AV} {s s2 S : List VObj} {v : AV} {R : AV → List VObj → FP → Prop} (hc : ObjCall P keep fid args s v s2) (ρ : List Nat) (hv : flatD v = true) (hn : nodupB ρ = true) (hl : s.length = ρ.length) (hl2 : s2.length ≤ ρ.length) (hkd : kindsOk s2 0 s = true)
    (ha : args'.map (invN ρ S 3) = args) (hs : ρ.map (fun id => invO ρ S (getO S id)) = s)
    (hR : R v (putR ρ (fun k : Nat => (match ρ[k]? with | some id => verO (getO S id) | none => 0) + cond keep 0 1) s2 0 ρ S) ⟨[], ρ⟩) : VCall P fid args' S R := by
  have hn := nodupB_spec hn
  unfold VCall
  obtain ⟨hfn, hc⟩ := hc
  generalize hδ : (fun k : Nat => (match ρ[k]? with | some id => verO (getO S id) | none => 0) + cond keep 0 1) = δ at hR
  have hδ' : ∀ k id, ρ[k]? = some id → δ k = verO (getO S id) + cond keep 0 1 := fun k id hk => by subst hδ; simp only [hk]
  refine ⟨v, _, _, hR, fun id hid => by rw [getO_putR _ _ _ _ _ _ hn, idxK_none.2 hid], hfn, fun B g w vals σ hB hlen hrel hag hsr => ?_⟩
  have hag : ∀ id, id ∈ ρ → σ id = getO S id := fun id h => hag id (.inr h)
  have hver : ∀ id, id ∈ ρ → ∀ v h, g.hdr id = some (v, h) → v = verO (getO S id) := fun id hid v h hh => by rw [← hag id hid]; exact hdr_verO hsr hh
  have hlt : ∀ k id, ρ[k]? = some id → k < s.length := fun k id h => by rw [hl]; exact (List.getElem?_eq_some_iff.1 h).1
  let g0 := inG ρ S g
  let B0 : Nat → Prop := fun b => (∃ id ∈ ρ, blk g id b) ∨ w.heap.size ≤ b
  have hblk0 : ∀ k b, blk g0 k b → ∃ id, ρ[k]? = some id ∧ blk g id b := fun k b h => by
    cases hk : ρ[k]? with
    | none => rcases h with ⟨o, h⟩ | ⟨ver, o, len, cap, h, _⟩ <;> simp only [g0, inG, hk, Option.bind_none] at h <;> exact nomatch h
    | some id =>
      refine ⟨id, rfl, ?_⟩
      rcases h with ⟨o, h⟩ | ⟨ver, o, len, cap, h, hcap⟩
      · simp only [g0, inG, hk, Option.bind_some] at h; exact .inl ⟨o, h⟩
      · simp only [g0, inG, hk, Option.bind_some] at h
        cases hh : g.hdr id with
        | none => rw [hh] at h; exact nomatch h
        | some p => obtain ⟨v', x⟩ := p; rw [hh] at h; cases h; exact .inr ⟨v', o, len, cap, hh, hcap⟩
  have hS0 : RelS B0 g0 w (getO s) := by
    refine ⟨fun k => ?_, fun i j b h1 h2 => ?_, fun k b h => ?_, hsr.sb⟩
    · cases hk : ρ[k]? with
      | none =>
        have : s.length ≤ k := by rw [hl]; exact List.getElem?_eq_none_iff.1 hk
        rw [show getO s k = .gone by simp [getO, this]]
        exact ⟨by simp only [g0, inG, hk, Option.bind_none], by simp only [g0, inG, hk, Option.bind_none]⟩
      | some id =>
        have hob : getO s k = invO ρ S (getO S id) := by
          rw [← hs]; simp [getO, hk]
        rw [hob]
        have ho := hsr.obj id
        rw [hag id (List.mem_of_getElem? hk)] at ho
        have := ObjRel.as (r := ho) (g := g) (g' := g0) (id := id) (id' := k) (ver' := 0) (invN ρ S 3) (by simp only [g0, inG, hk, Option.bind_some]) (fun v h hh => by
          have := hver id (List.mem_of_getElem? hk) v h hh
          exact ⟨this, by simp only [g0, inG, hk, Option.bind_some, hh, Option.map_some, this, Nat.sub_self]⟩) (fun hh => by simp only [g0, inG, hk, Option.bind_some, hh, Option.map_none]) (fun _ _ => Iff.rfl) (fun x v h => inv_rel hver 3 h)
        rw [invO_map]; exact this
    · obtain ⟨id1, k1, q1⟩ := hblk0 i b h1
      obtain ⟨id2, k2, q2⟩ := hblk0 j b h2
      have := hsr.apart id1 id2 b q1 q2
      subst this
      have e1 := idxK_at hn k1
      have e2 := idxK_at hn k2
      rw [e1] at e2; cases e2; rfl
    · obtain ⟨id1, k1, q1⟩ := hblk0 k b h
      exact .inl ⟨id1, List.mem_of_getElem? k1, q1⟩
  have hcall := hc B0 g0 w vals (fun b h => .inr h) (by rw [← ha, List.length_map]; exact hlen) (fun i x u hx hu => by
    rw [← ha, List.getElem?_map] at hx
    cases hi : args'[i]? with
    | none => rw [hi] at hx; exact nomatch hx
    | some y => rw [hi] at hx; cases hx; exact inv_rel hver 3 (hrel i y u hi hu)) hS0
  refine Calls.mono hcall fun e w' he => ?_
  obtain ⟨g1, val, rfl, h0, r1, hval⟩ := he
  have hgone1 : ∀ k, ρ[k]? = none → g1.loc k = none ∧ g1.hdr k = none := fun k hk => by
    have := r1.obj k
    have hle : s2.length ≤ k := Nat.le_trans hl2 (List.getElem?_eq_none_iff.1 hk)
    rw [show getO s2 k = .gone by simp [getO, hle]] at this
    exact this
  let g2 := outG ρ δ g g1
  have hb0 : ∀ b, B0 b → B b := fun b hb => by
    rcases hb with ⟨id, hm, hb⟩ | hb
    · exact hsr.inB id b hb
    · exact hB b hb
  have hst : ∀ b x, g2.stab b x ↔ g1.stab b x := fun _ _ => Iff.rfl
  have e02 : Ext B g w g2 w' :=
    { size := h0.size
      stab := h0.stab
      same := h0.same
      keep := fun b hb => h0.keep b fun h => hb (hb0 b h)
      keepS := fun b o hb h => h0.keepS b o (fun h => hb (hb0 b h)) h
      loc := fun id x hx => by
        cases hk : idxK ρ id with
        | none => simp only [g2, outG, hk]; exact hx
        | some k =>
          simp only [g2, outG, hk]
          refine h0.loc k x ?_
          simp only [g0O, g0, inG, idxK_some hk, Option.bind_some]
          exact hx
      hdr := fun id ver hd hx => by
        cases hk : idxK ρ id with
        | none => exact ⟨ver, hd, by simp only [g2, outG, hk]; exact hx, Nat.le_refl _, fun _ => rfl⟩
        | some k =>
          have hkk := idxK_some hk
          have hmem := List.mem_of_getElem? hkk
          have hv := hver id hmem ver hd hx
          -- the object is an array still
          have hex : ∃ v1 h1, g1.hdr k = some (v1, h1) := by
            have h00 : g0.hdr k = some (0, hd) := by simp only [g0, inG, hkk, Option.bind_some, hx, Option.map_some, hv, Nat.sub_self]
            have ha := hS0.obj k
            have hb := r1.obj k
            cases ho : getO s k with
            | gone => rw [ho] at ha; rw [ha.2] at h00; exact nomatch h00
            | box cs fz => rw [ho] at ha; rw [ha.1] at h00; exact nomatch h00
            | map kt vt es => rw [ho] at ha; rw [ha.1] at h00; exact nomatch h00
            | arr ver esz nn es fz =>
              obtain ⟨v2, esz2, nn2, es2, fz2, ho2⟩ := kindsOk_spec s2 s 0 hkd k ver esz nn es fz ho
              rw [Nat.zero_add] at ho2
              rw [ho2] at hb
              obtain ⟨_, _, _, _, hc⟩ := hb
              rcases hc with ⟨a, k1, _⟩ | ⟨b, o, cap, vs, k1, _⟩ <;> exact ⟨_, _, k1⟩
          obtain ⟨v1, h1, hh1⟩ := hex
          refine ⟨δ k + v1, h1, by simp only [g2, outG, hk, hh1, Option.map_some], by rw [hδ' k id hkk]; omega, fun he => ?_⟩
          rw [hδ' k id hkk] at he
          cases keep with
          | false => simp at he; omega
          | true =>
            have hz : v1 = 0 := by simp at he; omega
            subst hz
            obtain ⟨v', h', q1, q2, q3⟩ := h0.hdr k 0 hd (by simp only [g0O, if_true, g0, inG, hkk, Option.bind_some, hx, Option.map_some, hv, Nat.sub_self])
            rw [hh1] at q1; cases q1
            exact q3 rfl
      low := h0.low }
  have hb2 : ∀ id b k, idxK ρ id = some k → blk g2 id b → blk g1 k b := fun id b k hk h => by
    rcases h with ⟨o, h⟩ | ⟨ver, o, len, cap, h, hcap⟩
    · simp only [g2, outG, hk] at h; exact .inl ⟨o, h⟩
    · simp only [g2, outG, hk] at h
      cases hh : g1.hdr k with
      | none => rw [hh] at h; exact nomatch h
      | some p => obtain ⟨v', x⟩ := p; rw [hh] at h; cases h; exact .inr ⟨v', o, len, cap, hh, hcap⟩
  have hb3 : ∀ id b, idxK ρ id = none → blk g2 id b → blk g id b := fun id b hk h => by
    unfold blk at h ⊢
    simp only [g2, outG, hk] at h; exact h
  have hout : ∀ id b, idxK ρ id = none → blk g id b → ¬ B0 b := fun id b hk h hb => by
    rcases hb with ⟨id', hm', hb⟩ | hb
    · have := hsr.apart id id' b h hb
      subst this; exact idxK_none.1 hk hm'
    · have := hsr.lt h; omega
  refine ⟨g2, val, rfl, e02, ⟨fun id => ?_, fun i j b h1 h2 => ?_, fun id b h => ?_, fun b x h => r1.sb b x h⟩, flatD_rel (g := g1) (g' := g2) (fun _ _ h => h) hval hv⟩
  · unfold over
    cases hk : idxK ρ id with
    | some k =>
      have hkk := idxK_some hk
      rw [if_pos (List.mem_of_getElem? hkk), getO_putR _ _ _ _ _ _ hn, hk]
      simp only [Nat.zero_add]
      have := ObjRel.as (r := r1.obj k) (g := g1) (g' := g2) (id := k) (id' := id) (ver' := δ k + verO (getO s2 k)) (renN ρ δ 3) (by simp only [g2, outG, hk]) (fun v h hh => by
        have := hdr_verO r1 hh
        exact ⟨this, by simp only [g2, outG, hk, hh, Option.map_some, this]⟩) (fun hh => by simp only [g2, outG, hk, hh, Option.map_none]) hst (fun x v h => ren_rel hn 3 h)
      rw [renO_map]; exact this
    | none =>
      rw [if_neg (idxK_none.1 hk)]
      refine (hsr.obj id).keep e02 (by simp only [g2, outG, hk]) (by simp only [g2, outG, hk]) fun b hkb => ?_
      have hnb := hout id b hk hkb
      exact ⟨h0.keep b hnb, fun x => ⟨fun h => h0.keepS b x hnb h, fun h => h0.stab b x h⟩⟩
  · cases hi : idxK ρ i with
    | some ki =>
      cases hj : idxK ρ j with
      | some kj =>
        have := r1.apart ki kj b (hb2 i b ki hi h1) (hb2 j b kj hj h2)
        subst this
        have e1 := idxK_some hi
        have e2 := idxK_some hj
        rw [e1] at e2; cases e2; rfl
      | none => exact (hout j b hj (hb3 j b hj h2) (r1.inB ki b (hb2 i b ki hi h1))).elim
    | none =>
      cases hj : idxK ρ j with
      | some kj => exact (hout i b hi (hb3 i b hi h1) (r1.inB kj b (hb2 j b kj hj h2))).elim
      | none => exact hsr.apart i j b (hb3 i b hi h1) (hb3 j b hj h2)
  · cases hi : idxK ρ id with
    | some k => exact hb0 b (r1.inB k b (hb2 id b k hi h))
    | none => exact hsr.inB id b (hb3 id b hi h)

end
end Go.Proofs.Ytmapiefbnjaikaa.Vm
/- Strict forms of what runs must end in, and of loops. -/
set_option linter.all false
namespace Go.Proofs.Ytmapiefbnjaikaa.Vm
open Go

section
variable {A : Type}
def force1 (v : AV) (k : AV → A) : A :=
  match v with
  | .agg cs => forceC cs fun cs => k (.agg cs)
  | v => force v k
def forceC1 : List AV → (List AV → A) → A
  | [], k => k []
  | x :: xs, k => force1 x fun y => forceC1 xs fun ys => k (y :: ys)
def force2 (v : AV) (k : AV → A) : A :=
  match v with
  | .agg cs => forceC cs fun cs => k (.agg cs)
  | .tuple cs => forceC1 cs fun cs => k (.tuple cs)
  | v => force v k

theorem force1_eq (v : AV) (k : AV → A) : force1 v k = k v := by
  cases v <;> first | rfl | exact forceC_eq _ _
theorem forceC1_eq (l : List AV) (k : List AV → A) : forceC1 l k = k l := by
  induction l generalizing k with
  | nil => rfl
  | cons x xs ih => simp only [forceC1, force1_eq, ih]
theorem force2_eq (v : AV) (k : AV → A) : force2 v k = k v := by
  cases v <;> first | rfl | exact forceC_eq _ _ | exact forceC1_eq _ _
end

def RetRS (E : Env) (rs : List ResultVar) (v : AV) : Exit → List AV → List VObj → Prop
  | .ret, t, s => match resO E rs t s with
    | some r => force2 (nrmD s r) fun r => r = v
    | none => False
  | .normal, t, s => match resO E rs t s with
    | some r => force2 (nrmD s r) fun r => r = v
    | none => False
  | _, _, _ => False

theorem RetRS_eq {E : Env} {rs : List ResultVar} {v : AV} {e : Exit} {t : List AV} {s : List VObj} (h : RetRS E rs v e t s) : RetR E rs v e t s := by
  cases e <;> simp only [RetRS, force2_eq] at h <;> exact h

section
variable {P : Program} {E : Env} {N : NN} {R : Exit → List AV → List VObj → Prop}

theorem contractS {E : Env} (hE : E.Fits P) {fid : FuncId} {fn : Func} {args : List AV} {v : AV} (hk : Known P fid fn) (h : RunD P ⟨0, 0⟩ (start fn args) (RetRS E fn.results.toList v)) : PureCall P fid args v := contractD hE hk (h.mono fun e t s h => RetRS_eq h)

/-- what a loop's round must come to -/
def LoopRS (P : Program) (N : NN) (todo : List VItem) (R : Exit → List AV → List VObj → Prop) (keep : List Nat) (n : Nat) (again : List AV → List VObj → Prop) : Exit → List AV → List VObj → Prop
  | .normal, t, s => forceC (canonT N.v keep n s t) fun t' => forceS (canonS N.v n s) fun s' => again t' s'
  | .exit id, t, s => match popTo id todo with
    | some r => RunD P N ⟨t, s, r⟩ R
    | none => R (.exit id) t s
  | .ret, t, s => R .ret t s
  | _, _, _ => False

theorem loop_invS {ι : Type} (I : ι → Prop) (keep : List Nat) (n : Nat) (U : ι → List (Nat × AV)) (V : ι → List (Nat × VObj)) (μ : ι → Nat) (i0 : ι) {t : List AV} {s : List VObj} {body : Code} {todo : List VItem} (hl : N.l ≤ n) (hn : N.v ≤ n)
    (h : forceC (canonT N.v keep n s t) fun t0 => forceS (canonS N.v n s) fun s0 => updT t0 (U i0) = t0 ∧ updS s0 (V i0) = s0 ∧ I i0 ∧ ∀ i, I i → RunD P N ⟨updT t0 (U i), updS s0 (V i), [.code body]⟩
      (LoopRS P N todo R keep n fun t' s' => ∃ j, I j ∧ μ j < μ i ∧ t' = updT t0 (U j) ∧ s' = updS s0 (V j))) : LoopRunD P N body ⟨t, s, todo⟩ R := by
  rw [forceC_eq, forceS_eq] at h
  obtain ⟨h0, h1, hI, h⟩ := h
  refine loop_invD I keep n U V μ i0 hl hn h0 h1 hI fun i hi => (h i hi).mono fun e t' s' h => ?_
  cases e with
  | normal => simp only [LoopRS, forceC_eq, forceS_eq] at h; exact h
  | _ => exact h

/-- rounds one by one -/
theorem loop_nextD {t : List AV} {s : List VObj} {body : Code} {todo : List VItem} (n : Nat) (h : RunD P N ⟨t, s, [.code body]⟩ (LoopRD P N todo R (LoopFD P N body todo R n))) : LoopRunD P N body ⟨t, s, todo⟩ R :=
  loop_fuelD (n + 1) h

/-- a nil slice in a variable becomes an array object -/
theorem weak_promoteB {id k esz : Nat} {full : Bool} {t : List AV} {s : List VObj} {cs : List AV} (ho : getO s id = .box cs false) (hk : cs[k]? = some (.sl (some true) full [])) (h0 : 0 < esz) :
    Weak N t s t (setO (setO s s.length (.arr 0 esz none [] false)) id (.box (cs.set k (.sall s.length 0)) false)) := by
  intro B g0 w0 hf g a w hS
  have hobj := hS.rs.obj s.length
  rw [getO_len] at hobj
  obtain ⟨g', e1, r1, v1⟩ := set_arr_nil (id := s.length) (ver := 0) (esz := esz) (nn := none) (a := none) hS.rs hobj.1 (fun v h e => by rw [hobj.2] at e; exact nomatch e) h0 nofun nofun false
  have hid : id ≠ s.length := fun e => by rw [e, getO_len] at ho; exact nomatch ho
  have hb := r1.obj id
  rw [updF_other _ _ hid, ho] at hb
  obtain ⟨q1, b, o, vs, q2, q3, q4, q5, q6, q7⟩ := hb
  have hvk : vs k = .slice none 0 0 := by
    have := (q5 k _ hk).2
    generalize vs k = u at this
    cases this with
    | slnil h h' =>
      rename_i ad
      cases ad with
      | none => rfl
      | some ad => exact (h' ad rfl rfl).elim
    | sl vs h => exact (h rfl).elim
  have r2 := r1.upd (id := id) (o := .box (cs.set k (.sall s.length 0)) false) (Ext.refl B g' w) (fun _ _ => ⟨rfl, rfl⟩) (fun _ _ _ _ => ⟨rfl, fun _ => Iff.rfl⟩)
    ⟨q1, b, o, vs, q2, q3, q4, fun j c hj => by
      rw [List.getElem?_set] at hj
      split at hj
      · rename_i hkj; subst hkj
        split at hj
        · cases hj
          exact ⟨(q5 k _ hk).1, by rw [hvk]; exact v1⟩
        · exact nomatch hj
      · exact q5 j c hj, nofun, q7⟩
    (fun b hb => ⟨r1.inB id b hb, fun j hj hk => hj (r1.apart j id b hk hb)⟩) r1.sb
  refine ⟨g', hS.ext.trans e1, ?_, hS.rt.mono e1, hS.defers⟩
  have : getO (setO (setO s s.length (.arr 0 esz none [] false)) id (.box (cs.set k (.sall s.length 0)) false)) = updF (updF (getO s) s.length (.arr 0 esz none [] false)) id (.box (cs.set k (.sall s.length 0)) false) := by
    funext j
    rw [getO_setO]
    unfold updF
    split
    · rfl
    · rw [getO_setO]
  rw [this]; exact r2

theorem loop_promoteBD {id k esz : Nat} {full : Bool} {t : List AV} {s : List VObj} {cs : List AV} {body : Code} {todo : List VItem} (ho : getO s id = .box cs false) (hk : cs[k]? = some (.sl (some true) full [])) (h0 : 0 < esz)
    (h : LoopRunD P N body ⟨t, setO (setO s s.length (.arr 0 esz none [] false)) id (.box (cs.set k (.sall s.length 0)) false), todo⟩ R) : LoopRunD P N body ⟨t, s, todo⟩ R := by
  unfold LoopRunD at h ⊢
  exact h.map fun R' => run_weak (weak_promoteB ho hk h0) (fun x r e => by cases e; rfl)

/-- a call that is walked in place -/
def InRS (E : Env) (rs : List ResultVar) (ids : List Nat) (s : List VObj) (R : AV → List VObj → FP → Prop) (e : Exit) (t : List AV) (s2 : List VObj) : Prop :=
  match e with
  | .ret => match resO E rs t s2, goneOut ids s2 s.length with
    | some v, true => force2 v fun v => forceS (backS ids s2 0 s) fun s3 => R v s3 ⟨[], ids ++ newIds s.length (s2.length - s.length)⟩
    | _, _ => False
  | .normal => match resO E rs t s2, goneOut ids s2 s.length with
    | some v, true => force2 v fun v => forceS (backS ids s2 0 s) fun s3 => R v s3 ⟨[], ids ++ newIds s.length (s2.length - s.length)⟩
    | _, _ => False
  | _ => False

def allB (s : List VObj) (ids : List Nat) : Bool := ids.all fun i => Nat.blt i s.length && subO ids (getO s i)

theorem vcall_inS (hE : E.Fits P) {fid : FuncId} {fn : Func} {args : List AV} {s : List VObj} {R : AV → List VObj → FP → Prop} (hk : Known P fid fn)
    (hi : allB s (reachA s args) = true) (ha : args.all (sub 4 (reachA s args)) = true)
    (h : RunD P ⟨s.length, s.length⟩ (startIn fn args (maskS (reachA s args) 0 s)) (InRS E fn.results.toList (reachA s args) s R)) : VCall P fid args s R := by
  refine vcall_in hE hk (reachA s args) hi ha (h.mono fun e t s2 h => ?_)
  cases e <;> simp only [InRS, force2_eq, forceS_eq] at h <;> exact h

/-- a contract over objects -/
def RetOS (E : Env) (rs : List ResultVar) (keep : Bool) (n : Nat) (v : AV) (s2 : List VObj) : Exit → List AV → List VObj → Prop
  | .ret, t, s => match resO E rs t s with
    | some r => force2 (nrmD s r) fun r' => forceS (canonS (cond keep n 0) n (freeze s (refsD r))) fun s' => r' = v ∧ s' = s2
    | none => False
  | .normal, t, s => match resO E rs t s with
    | some r => force2 (nrmD s r) fun r' => forceS (canonS (cond keep n 0) n (freeze s (refsD r))) fun s' => r' = v ∧ s' = s2
    | none => False
  | _, _, _ => False

theorem objCallS (hE : E.Fits P) {keep : Bool} {fid : FuncId} {fn : Func} {args : List AV} {s : List VObj} {v : AV} {s2 : List VObj} (hk : Known P fid fn) (h : RunD P ⟨cond keep s.length 0, s.length⟩ (startIn fn args s) (RetOS E fn.results.toList keep s.length v s2)) : ObjCall P keep fid args s v s2 :=
  objCall hE hk (h.mono fun e t s h => by cases e <;> simp only [RetOS, force2_eq, forceS_eq] at h <;> exact h)

end
end Go.Proofs.Ytmapiefbnjaikaa.Vm
/- Functions whose results are new memory: their arguments stay as they are, frozen or not. -/
set_option linter.all false
namespace Go.Proofs.Ytmapiefbnjaikaa.Vm
open Go

/-- a cell without memory behind it -/
def AV.scal : AV → Bool
  | .dead | .bool _ | .kb _ | .int _ _ | .str _ | .nilptr | .nilmap | .nilfunc | .nilif => true
  | .sl _ _ [] => true
  | _ => false
theorem scal_rel {g g' : Gh} {w w' : World} {x : AV} {v : Value} (h : Rel g w x v) (hs : x.scal = true) : Rel g' w' x v := by
  cases x with
  | dead => exact .dead _
  | bool b => rw [rel_bool h]; exact .bool _
  | kb b => have := rel_bool h.unkb; subst this; exact .kb b
  | int k n => rw [rel_int h]; exact .int _ _
  | str s => rw [rel_str h]; exact .str _
  | nilptr => cases h; exact .nilptr
  | nilmap => cases h; exact .nilmap
  | nilfunc => cases h; exact .nilfunc
  | nilif => cases h; exact .nilif
  | sl nn full es =>
    cases es with
    | cons c es => exact nomatch hs
    | nil =>
      rcases inv_sl h with ⟨_, a, h1, h2, rfl⟩ | ⟨b, o, cap, vs, h0, h1, h2, h3, h4, h5, rfl⟩
      · exact .slnil h1 h2
      · exact .sl vs h0 h1 h2 (fun c hc => nomatch hc) (fun i c j x hi => by simp at hi) (fun i c j x hi => by simp at hi) (fun i c j hi => by simp at hi)
  | _ => exact nomatch hs

def inBlocks (g : Gh) (B : Nat → Prop) : Gh := ⟨fun _ => none, fun _ => none, fun b o => g.stab b o ∧ B b⟩

theorem sl_in {g : Gh} {w : World} {B : Nat → Prop} {nn : Option Bool} {full : Bool} {es : List (List AV)} {v : Value} (h : Rel g w (.sl nn full es) v) (hs : ∀ c ∈ es, ∀ x ∈ c, x.scal = true) (hb : ∀ b o l c, v = .slice (some ⟨b, o, none⟩) l c → c ≠ 0 → B b) :
    Rel (inBlocks g B) w (.sl nn full es) v := by
  rcases inv_sl h with ⟨rfl, a, h1, h2, rfl⟩ | ⟨b, o, cap, vs, h0, h1, h2, h3, h4, h5, rfl⟩
  · exact .slnil h1 h2
  · refine .sl vs h0 h1 h2 h3 (fun i c j x hi hj => (h4 i c j x hi hj).1) (fun i c j x hi hj => scal_rel (h4 i c j x hi hj).2 (hs c (List.mem_of_getElem? hi) x (List.mem_of_getElem? hj))) fun i c j hi hj => ⟨h5 i c j hi hj, hb b o _ _ rfl ?_⟩
    have := (List.getElem?_eq_some_iff.1 hi).1
    omega

/-- what a leaf leads to is the function's own -/
def newL (s : List VObj) : AV → Prop
  | .sall id _ => match getO s id with
    | .arr _ _ _ es _ => ∀ c ∈ es, ∀ x ∈ c, x.scal = true
    | _ => True
  | .sref id _ _ off len => match getO s id with
    | .arr _ _ _ es _ => ∀ c ∈ (es.drop off).take len, ∀ x ∈ c, x.scal = true
    | _ => True
  | .sl _ _ es => es = []
  | _ => True
def newLs (s : List VObj) : List AV → Prop
  | [] => True
  | x :: r => newL s x ∧ newLs s r
theorem newLs_mem {s : List VObj} : ∀ {l : List AV}, newLs s l → ∀ x ∈ l, newL s x
  | [], _, x, h => nomatch h
  | y :: r, h, x, hx => by
    rcases List.mem_cons.1 hx with rfl | hx
    · exact h.1
    · exact newLs_mem h.2 x hx
def new1 (s : List VObj) : AV → Prop
  | .agg cs => newLs s cs
  | .iface _ x => newL s x
  | v => newL s v
def new1s (s : List VObj) : List AV → Prop
  | [] => True
  | x :: r => new1 s x ∧ new1s s r
theorem new1s_mem {s : List VObj} : ∀ {l : List AV}, new1s s l → ∀ x ∈ l, new1 s x
  | [], _, x, h => nomatch h
  | y :: r, h, x, hx => by
    rcases List.mem_cons.1 hx with rfl | hx
    · exact h.1
    · exact new1s_mem h.2 x hx
def newD (s : List VObj) : AV → Prop
  | .tuple cs => new1s s cs
  | .func _ _ _ => False
  | v => new1 s v

section
variable {B : Nat → Prop} {g : Gh} {w : World} {σ : Nat → VObj} {s : List VObj}

theorem newL_rel (hs : RelS B g w σ) {x : AV} {v : Value} (hr : Rel g w x v) (hag : ∀ id ∈ refsOf x, σ id = (getO s id).fzd) (hn : newL s x) : Rel (inBlocks g B) w (nrm s x) v := by
  have hnr := nrm_rel hs hr hag
  have hhdr : ∀ {id ver ver0 : Nat} {h : Value} {b o l c : Nat}, g.hdr id = some (ver0, h) → h = .slice (some ⟨b, o, none⟩) l c → c ≠ 0 → B b := fun {id ver ver0 h b o l c} h1 h2 h3 => by
    subst h2; exact hs.inB id b (.inr ⟨_, o, l, c, h1, h3⟩)
  cases x with
  | sall id ver =>
    simp only [nrm] at hnr ⊢
    simp only [newL] at hn
    cases ho : getO s id with
    | arr ver' esz nn es fz =>
      rw [ho] at hnr hn
      dsimp only at hnr hn ⊢
      split
      · rename_i hb
        rw [hb] at hnr
        refine sl_in hnr hn fun b o l c hv hc => ?_
        obtain ⟨ver0, hd, a, len, cap, h1, h2, h3, h4⟩ := inv_sall hr
        rw [h4] at hv; cases hv
        have hver : ver0 = verO (σ id) := by
          have := hs.obj id
          rw [hag id (by simp [refsOf]), ho] at this ⊢
          obtain ⟨_, _, _, _, hcase⟩ := this
          rcases hcase with ⟨a, k, _⟩ | ⟨b, o, cap, vs, k, _⟩ <;> (rw [h1] at k; cases k; rfl)
        rw [hag id (by simp [refsOf]), ho] at hver
        have hve : ver = ver0 := by rw [hver]; exact Nat.eq_of_beq_eq_true hb
        exact hhdr (ver := ver) h1 (h3 hve).symm hc
      · exact .dead _
    | _ => exact .dead _
  | sref id ver esz off len =>
    simp only [nrm] at hnr ⊢
    simp only [newL] at hn
    cases ho : getO s id with
    | arr ver' esz' nn es fz =>
      rw [ho] at hnr hn
      dsimp only at hnr hn ⊢
      split
      · rename_i hb
        rw [hb] at hnr
        refine sl_in hnr hn fun b o l c hv hc => ?_
        obtain ⟨ver0, hd, a, cap, h1, h2, h3, h4⟩ := inv_sref hr
        rw [h4] at hv; cases hv
        simp only [Bool.and_eq_true] at hb
        have hver : ver0 = verO (σ id) := by
          have := hs.obj id
          rw [hag id (by simp [refsOf]), ho] at this ⊢
          obtain ⟨_, _, _, _, hcase⟩ := this
          rcases hcase with ⟨a, k, _⟩ | ⟨b, o, cap, vs, k, _⟩ <;> (rw [h1] at k; cases k; rfl)
        rw [hag id (by simp [refsOf]), ho] at hver
        have hve : ver = ver0 := by rw [hver]; exact Nat.eq_of_beq_eq_true hb.1.1
        rcases h3 hve with ⟨_, _, _, hz⟩ | ⟨b', o', len0, cap0, o'', q1, q2, q3, q4, q5⟩
        · exact (hc hz).elim
        · cases q2
          have hcz : cap0 ≠ 0 := fun hz => hc (Nat.le_zero.1 (hz ▸ Nat.le_trans (Nat.le_add_left _ _) q4))
          exact hhdr (ver := ver) h1 q1 hcz
      · exact .dead _
    | _ => exact .dead _
  | sl nn full es =>
    simp only [newL] at hn
    subst hn
    exact scal_rel hnr rfl
  | dead => exact .dead _
  | bool b => exact scal_rel hnr rfl
  | kb b => exact scal_rel hnr rfl
  | int k n => exact scal_rel hnr rfl
  | str b => exact scal_rel hnr rfl
  | nilptr => exact scal_rel hnr rfl
  | nilmap => exact scal_rel hnr rfl
  | nilfunc => exact scal_rel hnr rfl
  | nilif => exact scal_rel hnr rfl
  | _ => exact .dead _

theorem new1_rel (hs : RelS B g w σ) {x : AV} {v : Value} (hr : Rel g w x v) (hag : ∀ id ∈ refs1 x, σ id = (getO s id).fzd) (hn : new1 s x) : Rel (inBlocks g B) w (nrm1 s x) v := by
  cases x with
  | agg cs =>
    obtain ⟨vs, h1, h2, rfl⟩ := inv_agg hr
    refine .agg (by simpa using h1) fun i x v hx hv => ?_
    rw [List.getElem?_map] at hx
    cases hi : cs[i]? with
    | none => rw [hi] at hx; exact nomatch hx
    | some y => rw [hi] at hx; cases hx; exact newL_rel hs (h2 i y v hi hv) (fun id hid => hag id (refs_mem (List.mem_of_getElem? hi) hid)) (newLs_mem hn y (List.mem_of_getElem? hi))
  | iface t x => cases hr with | iface h => exact .iface (newL_rel hs h hag hn)
  | _ => exact newL_rel hs hr hag hn
theorem newD_rel (hs : RelS B g w σ) {x : AV} {v : Value} (hr : Rel g w x v) (hag : ∀ id ∈ refsD x, σ id = (getO s id).fzd) (hn : newD s x) : Rel (inBlocks g B) w (nrmD s x) v := by
  cases x with
  | tuple cs =>
    obtain ⟨vs, h1, h2, rfl⟩ := inv_tuple hr
    refine .tuple (by simpa using h1) fun i x v hx hv => ?_
    rw [List.getElem?_map] at hx
    cases hi : cs[i]? with
    | none => rw [hi] at hx; exact nomatch hx
    | some y => rw [hi] at hx; cases hx; exact new1_rel hs (h2 i y v hi hv) (fun id hid => hag id (List.mem_flatMap.2 ⟨y, List.mem_of_getElem? hi, hid⟩)) (new1s_mem hn y (List.mem_of_getElem? hi))
  | func fn a b => exact hn.elim
  | _ => exact new1_rel hs hr hag hn
end

/-- a function's result, in new memory alone -/
def PureNew (P : Program) (fid : FuncId) (args : List AV) (v : AV) : Prop :=
  (∃ fn, P.funcs[fid]? = some fn ∧ fn.body.isSome = true ∧ (fn.name == "runtime.NumGoroutine") = false) ∧
  ∀ (st : Nat → Nat → Prop) (w : World) (vals : Array Value), (∀ b x, st b x → b < w.heap.size) → args.length = vals.size → (∀ (i : Nat) (x : AV) (u : Value), args[i]? = some x → vals[i]? = some u → Rel (stG st) w x u) →
    Calls P fid vals w fun e w' => ∃ st' val, e = .returned val ∧ Ext (fun b => w.heap.size ≤ b) (stG st) w (stG st') w' ∧ (∀ b x, st' b x → b < w'.heap.size) ∧ Rel (inBlocks (stG st') (fun b => w.heap.size ≤ b)) w' v val

theorem PureNew.pure {P : Program} {fid : FuncId} {args : List AV} {v : AV} (h : PureNew P fid args v) (hv : flatD v = true) : PureCall P fid args v := by
  refine ⟨h.1, fun st w vals h1 h2 h3 => Calls.mono (h.2 st w vals h1 h2 h3) fun e w' he => ?_⟩
  obtain ⟨st', val, q1, q2, q3, q4⟩ := he
  exact ⟨st', val, q1, q2, q3, flatD_rel (g := inBlocks (stG st') (fun b => w.heap.size ≤ b)) (g' := stG st') (fun b o h => h.1) q4 hv⟩

/-- no memory behind a value -/
def scalD : AV → Bool
  | .tuple cs => cs.all fun x => match x with
    | .agg ds => ds.all AV.scal
    | x => x.scal
  | .agg ds => ds.all AV.scal
  | x => x.scal
theorem scalD_rel {g g' : Gh} {w : World} {v : AV} {u : Value} (h : Rel g w v u) (hs : scalD v = true) : Rel g' w v u := by
  cases v with
  | agg ds =>
    obtain ⟨vs, h1, h2, rfl⟩ := inv_agg h
    exact .agg h1 fun i x v hx hv => scal_rel (h2 i x v hx hv) (List.all_eq_true.1 hs x (List.mem_of_getElem? hx))
  | tuple cs =>
    obtain ⟨vs, h1, h2, rfl⟩ := inv_tuple h
    refine .tuple h1 fun i x v hx hv => ?_
    have hm := List.all_eq_true.1 hs x (List.mem_of_getElem? hx)
    have hr := h2 i x v hx hv
    cases x with
    | agg ds =>
      obtain ⟨us, q1, q2, rfl⟩ := inv_agg hr
      exact .agg q1 fun i x v hx hv => scal_rel (q2 i x v hx hv) (List.all_eq_true.1 hm x (List.mem_of_getElem? hx))
    | _ => exact scal_rel hr hm
  | _ => exact scal_rel h hs
theorem PureCall.new {P : Program} {fid : FuncId} {args : List AV} {v : AV} (h : PureCall P fid args v) (hv : scalD v = true) : PureNew P fid args v := by
  refine ⟨h.1, fun st w vals h1 h2 h3 => Calls.mono (h.2 st w vals h1 h2 h3) fun e w' he => ?_⟩
  obtain ⟨st', val, q1, q2, q3, q4⟩ := he
  exact ⟨st', val, q1, q2, q3, scalD_rel q4 hv⟩

/-- what the run of such a function must end in -/
def RetRN (E : Env) (rs : List ResultVar) (v : AV) : Exit → List AV → List VObj → Prop
  | .ret, t, s => match resO E rs t s with
    | some r => force2 (nrmD s r) fun r' => newD s r ∧ r' = v
    | none => False
  | .normal, t, s => match resO E rs t s with
    | some r => force2 (nrmD s r) fun r' => newD s r ∧ r' = v
    | none => False
  | _, _, _ => False

section
variable {P : Program} {E : Env}

theorem contractN (hE : E.Fits P) {fid : FuncId} {fn : Func} {args : List AV} {v : AV} (hk : Known P fid fn) (h : RunD P ⟨0, 0⟩ (start fn args) (RetRN E fn.results.toList v)) : PureNew P fid args v := by
  have h := h.run
  obtain ⟨c, hc⟩ := Option.isSome_iff_exists.1 hk.body
  refine ⟨⟨fn, hk.funcs, hk.body, hk.name⟩, fun st w vals hsb hl hrel => ?_⟩
  have hfrm : Frm ⟨0, 0⟩ (fun b => w.heap.size ≤ b) (stG st) w := ⟨fun _ h => h, fun _ _ => rfl, fun _ _ => rfl⟩
  have hS : StRel (fun b => w.heap.size ≤ b) (stG st) w (stG st) w (args ++ List.replicate (fn.ntmps - args.length) .dead) [] { tmps := vals ++ Array.replicate (fn.ntmps - vals.size) undef, defers := [] } := by
    refine ⟨Ext.refl _ _ _, ⟨fun id => ⟨rfl, rfl⟩, ?_, ?_, hsb⟩, ⟨by simp [hl], fun i x u hx hu => ?_⟩, rfl⟩
    · rintro id id' b (⟨o, h⟩ | ⟨ver, o, len, cap, h, _⟩) _ <;> exact nomatch h
    · rintro id b (⟨o, h⟩ | ⟨ver, o, len, cap, h, _⟩) <;> exact nomatch h
    · rw [List.getElem?_append] at hx
      rw [Array.getElem?_append] at hu
      by_cases hi : i < args.length
      · rw [if_pos hi] at hx
        rw [if_pos (by omega)] at hu
        exact hrel i x u hx hu
      · rw [if_neg hi, List.getElem?_replicate] at hx
        split at hx
        · cases hx; exact .dead _
        · exact nomatch hx
  have hw := run_elim (t := args ++ List.replicate (fn.ntmps - args.length) .dead) (s := []) (todo := [.code c]) (by rw [start, hc] at h; exact h) rfl hfrm hS
  refine calls_of_wp hk.funcs hc (wp_mono (show c.wp P _ _ _ from hw) fun e a w' he => ?_)
  have key : ∀ e, e = .ret ∨ e = .normal → after P (conc (fun b => w.heap.size ≤ b) (stG st) w (RetRN E fn.results.toList v)) [] e a w' →
      a.defers = [] ∧ ∃ u, (results fn a.tmps).run P w' = .ok u w' ∧ ∃ st' val, Ending.returned u = .returned val ∧ Ext (fun b => w.heap.size ≤ b) (stG st) w (stG st') w' ∧ (∀ b x, st' b x → b < w'.heap.size) ∧ Rel (inBlocks (stG st') (fun b => w.heap.size ≤ b)) w' v val := by
    rintro e hee ⟨t, s, g, hS', hR⟩
    have hR : ∃ r, resO E fn.results.toList t s = some r ∧ newD s r ∧ nrmD s r = v := by
      rcases hee with rfl | rfl
      all_goals
        simp only [RetRN, force2_eq] at hR
        split at hR
        · rename_i r hr; exact ⟨r, hr, hR⟩
        · exact hR.elim
    obtain ⟨r, hr, hnew, hR⟩ := hR
    obtain ⟨u, hrun, hval⟩ := run_results hE hS'.rs hS'.rt rfl hr
    refine ⟨hS'.defers, u, hrun, ?_⟩
    obtain ⟨g1, e1, r1, l1, k1⟩ := freeze_list (w := w') (g := g) (s := s) (refsD r) hS'.rs (fun id _ => rfl)
    have hnv := newD_rel (s := s) r1 (hval.mono e1) (fun id hid => by simp only [over, if_pos hid, getO_freeze]) hnew
    rw [hR] at hnv
    have hE : Ext (fun b => w.heap.size ≤ b) (stG st) w (stG g1.stab) w' :=
      { hS'.ext.trans e1 with
        stab := (hS'.ext.trans e1).stab
        keepS := (hS'.ext.trans e1).keepS
        loc := fun _ _ h => nomatch h
        hdr := fun _ _ _ h => nomatch h }
    exact ⟨g1.stab, _, rfl, hE, r1.sb, hnv⟩
  cases e with
  | normal => exact key _ (.inr rfl) he
  | ret => exact key _ (.inl rfl) he
  | _ => obtain ⟨t, s, g, _, hR⟩ := he; exact hR.elim

/-- a call of such a function: nothing is frozen -/
theorem vcall_new {fid : FuncId} {args : List AV} {s : List VObj} {R : AV → List VObj → FP → Prop} {v : AV} (hc : PureNew P fid (args.map (nrmD s)) v) (hv : flatD v = true)
    (hR : R v s ⟨args.flatMap refsD, []⟩) : VCall P fid args s R := by
  unfold VCall
  obtain ⟨hfn, hc⟩ := hc
  refine ⟨v, _, _, hR, fun id hid => rfl, hfn, fun B g w vals σ hB hl hrel hag hs => ?_⟩
  rw [over_nil]
  obtain ⟨g1, e1, r1, l1, k1⟩ := freeze_list (w := w) (g := g) (args.flatMap refsD) hs (fun id hid => hag id (.inl hid))
  have hcall := hc g1.stab w vals (fun b x h => r1.sb b x h) (by simpa using hl) (fun i x u hx hu => by
    rw [List.getElem?_map] at hx
    cases hi : args[i]? with
    | none => rw [hi] at hx; exact nomatch hx
    | some y =>
      rw [hi] at hx; cases hx
      have := nrmD_rel (s := s) r1 ((hrel i y u hi hu).mono e1) fun id hid => by
        have hm : id ∈ args.flatMap refsD := List.mem_flatMap.2 ⟨y, List.mem_of_getElem? hi, hid⟩
        simp only [over, if_pos hm, getO_freeze]
      exact flatD_rel (g := g1) (g' := stG g1.stab) (fun _ _ h => h) this (nrmD_flat s y))
  refine Calls.mono hcall fun e w' he => ?_
  obtain ⟨st', val, rfl, e2, hsb, hval⟩ := he
  let g2 : Gh := { g with stab := fun b o => g.stab b o ∨ (st' b o ∧ w.heap.size ≤ b) }
  have hold : ∀ b o, b < w.heap.size → (g2.stab b o ↔ g.stab b o) := fun b o hb => ⟨fun h => h.elim id fun h => by omega, .inl⟩
  have e3 : Ext B g w g2 w' :=
    { size := e2.size
      stab := fun b o h => .inl h
      same := fun b o h => e2.same b o (e1.stab b o h)
      keep := fun b hb => e2.keep b fun h => hb (hB b h)
      keepS := fun b o hb h => h.elim id fun h => (hb (hB b h.2)).elim
      loc := fun _ _ h => h
      hdr := fun _ ver h e => ⟨ver, h, e, Nat.le_refl _, fun _ => rfl⟩
      low := e2.low }
  refine ⟨g2, val, rfl, e3, ?_, flatD_rel (g := inBlocks (stG st') (fun b => w.heap.size ≤ b)) (g' := g2) (fun b o h => .inr h) hval hv⟩
  refine ⟨fun id => (hs.obj id).keep e3 rfl rfl fun b hk => ⟨e2.keep b (by have := hs.lt hk; omega), fun x => hold b x (hs.lt hk)⟩, hs.apart, hs.inB, fun b x h => ?_⟩
  rcases h with h | h
  · have := hs.sb b x h; have := e2.size; omega
  · exact hsb b x h.1

theorem call_new {fid : FuncId} {args args' : List AV} {s : List VObj} {R : AV → List VObj → FP → Prop} {v : AV} (hc : PureNew P fid args' v) (ha : args.map (nrmD s) = args') (hv : flatD v = true)
    (hR : R v s ⟨args.flatMap refsD, []⟩) : VCall P fid args s R := vcall_new (ha ▸ hc) hv hR
/-- .. of a function whose result has no memory behind it -/
theorem call_scal {fid : FuncId} {args args' : List AV} {s : List VObj} {R : AV → List VObj → FP → Prop} {v : AV} (hc : PureCall P fid args' v) (ha : args.map (nrmD s) = args') (hv : flatD v = true) (hs : scalD v = true)
    (hR : R v s ⟨args.flatMap refsD, []⟩) : VCall P fid args s R := vcall_new (ha ▸ hc.new hs) hv hR

end
end Go.Proofs.Ytmapiefbnjaikaa.Vm
/- The abstract machine, all of it. -/
