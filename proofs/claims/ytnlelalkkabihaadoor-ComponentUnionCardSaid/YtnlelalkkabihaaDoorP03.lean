/- Contracts of functions that are handed objects; their use over any store. -/
import Derived.Test.YtnlelalkkabihaaDoorP02
set_option linter.all false
namespace Go.Proofs.YtnlelalkkabihaaDoor.Vm
open Go

/-- the ghost as a callee's run may take it for given: where variables lie; where keep, the slices' heads too -/
def g0O (keep : Bool) (g : Gh) : Gh := ⟨g.loc, if keep then g.hdr else fun _ => none, g.stab⟩

/-- a function that is handed the objects s (and no others), in an order of their own, with versions 0, and leaves s2 -/
def ObjCall (P : Program) (keep : Bool) (fid : FuncId) (args : List AV) (s : List VObj) (v : AV) (s2 : List VObj) : Prop :=
  (∃ fn, P.funcs[fid]? = some fn ∧ fn.body.isSome = true ∧ (fn.name == "runtime.NumGoroutine") = false) ∧
  ∀ (B : Nat → Prop) (g : Gh) (w : World) (vals : Array Value), (∀ b, w.heap.size ≤ b → B b) → args.length = vals.size → (∀ (i : Nat) (x : AV) (u : Value), args[i]? = some x → vals[i]? = some u → Rel g w x u) → RelS B g w (getO s) →
    Calls P fid vals w fun e w' => ∃ g' val, e = .returned val ∧ Ext B (g0O keep g) w g' w' ∧ RelS B g' w' (getO s2) ∧ Rel g' w' v val

/-- what such a function's run must end in -/
def RetO (E : Env) (rs : List ResultVar) (keep : Bool) (n : Nat) (v : AV) (s2 : List VObj) : Exit → List AV → List VObj → Prop
  | .ret, t, s => match resO E rs t s with
    | some r => nrmD s r = v ∧ canonS (cond keep n 0) n (freeze s (refsD r)) = s2
    | none => False
  | .normal, t, s => match resO E rs t s with
    | some r => nrmD s r = v ∧ canonS (cond keep n 0) n (freeze s (refsD r)) = s2
    | none => False
  | _, _, _ => False

section
variable {P : Program} {E : Env}

theorem objCall (hE : E.Fits P) {keep : Bool} {fid : FuncId} {fn : Func} {args : List AV} {s : List VObj} {v : AV} {s2 : List VObj} (hk : Known P fid fn) (h : RunD P ⟨cond keep s.length 0, s.length⟩ (startIn fn args s) (RetO E fn.results.toList keep s.length v s2)) : ObjCall P keep fid args s v s2 := by
  have h := h.run
  obtain ⟨c, hc⟩ := Option.isSome_iff_exists.1 hk.body
  refine ⟨⟨fn, hk.funcs, hk.body, hk.name⟩, fun B g w vals hB hl hrel hs => ?_⟩
  have hgone : ∀ id, s.length ≤ id → g.loc id = none ∧ g.hdr id = none := fun id hid => by
    have := hs.obj id
    rw [show getO s id = .gone by simp [getO, hid]] at this
    exact this
  have hfrm : Frm ⟨cond keep s.length 0, s.length⟩ B (g0O keep g) w := ⟨hB, fun id hid => (hgone id hid).1, fun id hid => by
    cases keep with
    | true => exact (hgone id hid).2
    | false => rfl⟩
  have hS : StRel B (g0O keep g) w g w (args ++ List.replicate (fn.ntmps - args.length) .dead) s { tmps := vals ++ Array.replicate (fn.ntmps - vals.size) undef, defers := [] } := by
    refine ⟨{ Ext.refl B g w with loc := fun _ _ h => h, stab := fun _ _ h => h, keepS := fun _ _ _ h => h, same := fun _ _ _ => rfl, hdr := fun id ver hd e => ?_ }, hs, ⟨by simp [hl], fun i x u hx hu => ?_⟩, rfl⟩
    · cases keep with
      | true => exact ⟨ver, hd, e, Nat.le_refl _, fun _ => rfl⟩
      | false => exact nomatch e
    · rw [List.getElem?_append] at hx
      rw [Array.getElem?_append] at hu
      by_cases hil : i < args.length
      · rw [if_pos hil] at hx
        rw [if_pos (by omega)] at hu
        exact hrel i x u hx hu
      · rw [if_neg hil, List.getElem?_replicate] at hx
        split at hx
        · cases hx; exact .dead _
        · exact nomatch hx
  have hw := run_elim (t := args ++ List.replicate (fn.ntmps - args.length) .dead) (s := s) (todo := [.code c]) (by rw [startIn, hc] at h; exact h) rfl hfrm hS
  refine calls_of_wp hk.funcs hc (wp_mono (show c.wp P _ _ _ from hw) fun e a w' he => ?_)
  have key : ∀ e, e = .ret ∨ e = .normal → after P (conc B (g0O keep g) w (RetO E fn.results.toList keep s.length v s2)) [] e a w' →
      a.defers = [] ∧ ∃ u, (results fn a.tmps).run P w' = .ok u w' ∧ ∃ g' val, Ending.returned u = .returned val ∧ Ext B (g0O keep g) w g' w' ∧ RelS B g' w' (getO s2) ∧ Rel g' w' v val := by
    rintro e hee ⟨t, s', g1, hS', hR⟩
    have hR : ∃ r, resO E fn.results.toList t s' = some r ∧ nrmD s' r = v ∧ canonS (cond keep s.length 0) s.length (freeze s' (refsD r)) = s2 := by
      rcases hee with rfl | rfl
      all_goals
        simp only [RetO] at hR
        split at hR
        · rename_i r hr; exact ⟨r, hr, hR⟩
        · exact hR.elim
    obtain ⟨r, hr, rfl, rfl⟩ := hR
    obtain ⟨u, hrun, hval⟩ := run_results hE hS'.rs hS'.rt rfl hr
    refine ⟨hS'.defers, u, hrun, ?_⟩
    obtain ⟨g2, e2, r2, l2, k2⟩ := freeze_list (w := w') (g := g1) (s := s') (refsD r) hS'.rs (fun id _ => rfl)
    have hov : over (getO s') (getO (freeze s' (refsD r))) (refsD r) = getO (freeze s' (refsD r)) := by
      funext id
      unfold over
      by_cases hid : id ∈ refsD r
      · rw [if_pos hid]
      · rw [if_neg hid, getO_freeze, if_neg hid]
    have hnv := nrmD_rel (s := s') r2 (hval.mono e2) fun id hid => by simp only [over, if_pos hid, getO_freeze]
    rw [hov] at r2
    have hn : cond keep s.length 0 ≤ s.length := by cases keep <;> simp
    refine ⟨revG (cond keep s.length 0) s.length g2, u, rfl, revG_ext (M := ⟨cond keep s.length 0, s.length⟩) (Nat.le_refl _) hn hfrm (hS'.ext.trans e2), revS_rel hn r2, flatD_rel (g := g2) (g' := revG (cond keep s.length 0) s.length g2) (fun _ _ h => h) hnv (nrmD_flat s' r)⟩
  cases e with
  | normal => exact key _ (.inr rfl) he
  | ret => exact key _ (.inl rfl) he
  | _ => obtain ⟨t, s, g, _, hR⟩ := he; exact hR.elim

/-- an object's place in a list -/
def idxK : List Nat → Nat → Option Nat
  | [], _ => none
  | i :: r, id => match Nat.beq i id with
    | true => some 0
    | false => match idxK r id with
      | some k => some (k + 1)
      | none => none

theorem idxK_some : ∀ {ρ : List Nat} {id k : Nat}, idxK ρ id = some k → ρ[k]? = some id
  | [], id, k, h => nomatch h
  | i :: r, id, k, h => by
    unfold idxK at h
    split at h
    · rename_i e; cases h; rw [Nat.eq_of_beq_eq_true e]; rfl
    · split at h
      · rename_i k' hk; cases h; simpa using idxK_some hk
      · exact nomatch h
theorem idxK_none : ∀ {ρ : List Nat} {id : Nat}, idxK ρ id = none ↔ id ∉ ρ
  | [], id => by simp [idxK]
  | i :: r, id => by
    unfold idxK
    by_cases e : i = id
    · subst e; rw [show Nat.beq i i = true from Nat.beq_refl i]; simp
    · have : Nat.beq i id = false := by
        cases h : Nat.beq i id with
        | true => exact (e (Nat.eq_of_beq_eq_true h)).elim
        | false => rfl
      rw [this]
      have ih := idxK_none (ρ := r) (id := id)
      cases hk : idxK r id with
      | none => simp [ih.1 hk, Ne.symm e]
      | some k =>
        have hm : id ∈ r := Classical.byContradiction fun hn => by rw [ih.2 hn] at hk; exact nomatch hk
        simp [hm]
theorem idxK_at : ∀ {ρ : List Nat} (hn : ρ.Nodup) {id k : Nat}, ρ[k]? = some id → idxK ρ id = some k
  | [], _, id, k, h => by simp at h
  | i :: r, hn, id, k, h => by
    rw [List.nodup_cons] at hn
    unfold idxK
    cases k with
    | zero => cases h; rw [show Nat.beq i i = true from Nat.beq_refl i]
    | succ k =>
      have h : r[k]? = some id := by simpa using h
      have : Nat.beq i id = false := by
        cases hb : Nat.beq i id with
        | true => exact (hn.1 ((Nat.eq_of_beq_eq_true hb) ▸ List.mem_of_getElem? h)).elim
        | false => rfl
      rw [this, idxK_at hn.2 h]

def verO : VObj → Nat
  | .arr ver _ _ _ _ => ver
  | _ => 0

/-- a value of the caller's, in the callee's numbers -/
def invN (ρ : List Nat) (S : List VObj) : Nat → AV → AV
  | _, .ptr id off => match idxK ρ id with
    | some k => .ptr k off
    | none => .dead
  | _, .map id => match idxK ρ id with
    | some k => .map k
    | none => .dead
  | _, .sall id ver => match idxK ρ id, Nat.beq ver (verO (getO S id)) with
    | some k, true => .sall k 0
    | _, _ => .dead
  | _, .sref id ver esz off len => match idxK ρ id, Nat.beq ver (verO (getO S id)) with
    | some k, true => .sref k 0 esz off len
    | _, _ => .dead
  | _, .eptr id ver esz i off => match idxK ρ id, Nat.beq ver (verO (getO S id)) with
    | some k, true => .eptr k 0 esz i off
    | _, _ => .dead
  | n + 1, .agg cs => .agg (cs.map (invN ρ S n))
  | n + 1, .tuple cs => .tuple (cs.map (invN ρ S n))
  | n + 1, .func fn a b => .func fn (a.map (invN ρ S n)) (b.map (invN ρ S n))
  | n + 1, .iface t x => .iface t (invN ρ S n x)
  | n + 1, .vptr cs off => .vptr (cs.map (invN ρ S n)) off
  | 0, .agg _ => .dead
  | 0, .tuple _ => .dead
  | 0, .func .. => .dead
  | 0, .iface .. => .dead
  | 0, .vptr .. => .dead
  | _, v => v
def invO (ρ : List Nat) (S : List VObj) : VObj → VObj
  | .box cs fz => .box (cs.map (invN ρ S 3)) fz
  | .arr _ esz nn es fz => .arr 0 esz nn es fz
  | o => o

/-- a value of the callee's, in the caller's numbers; δ: by how much versions have gone on -/
def renN (ρ : List Nat) (δ : Nat → Nat) : Nat → AV → AV
  | _, .ptr k off => match ρ[k]? with
    | some id => .ptr id off
    | none => .dead
  | _, .map k => match ρ[k]? with
    | some id => .map id
    | none => .dead
  | _, .sall k ver => match ρ[k]? with
    | some id => .sall id (δ k + ver)
    | none => .dead
  | _, .sref k ver esz off len => match ρ[k]? with
    | some id => .sref id (δ k + ver) esz off len
    | none => .dead
  | _, .eptr k ver esz i off => match ρ[k]? with
    | some id => .eptr id (δ k + ver) esz i off
    | none => .dead
  | n + 1, .agg cs => .agg (cs.map (renN ρ δ n))
  | n + 1, .tuple cs => .tuple (cs.map (renN ρ δ n))
  | n + 1, .func fn a b => .func fn (a.map (renN ρ δ n)) (b.map (renN ρ δ n))
  | n + 1, .iface t x => .iface t (renN ρ δ n x)
  | n + 1, .vptr cs off => .vptr (cs.map (renN ρ δ n)) off
  | 0, .agg _ => .dead
  | 0, .tuple _ => .dead
  | 0, .func .. => .dead
  | 0, .iface .. => .dead
  | 0, .vptr .. => .dead
  | _, v => v
def renO (ρ : List Nat) (δ : Nat → Nat) (k : Nat) : VObj → VObj
  | .box cs fz => .box (cs.map (renN ρ δ 3)) fz
  | .arr ver esz nn es fz => .arr (δ k + ver) esz nn es fz
  | o => o

/-- the caller's objects behind the call -/
def putR (ρ0 : List Nat) (δ : Nat → Nat) (s2 : List VObj) : Nat → List Nat → List VObj → List VObj
  | _, [], S => S
  | k, id :: r, S => putR ρ0 δ s2 (k + 1) r (setO S id (renO ρ0 δ k (getO s2 k)))

theorem getO_putR (ρ0 : List Nat) (δ : Nat → Nat) (s2 : List VObj) : ∀ (ρ : List Nat) (k : Nat) (S : List VObj), ρ.Nodup → ∀ id, getO (putR ρ0 δ s2 k ρ S) id = match idxK ρ id with | some j => renO ρ0 δ (k + j) (getO s2 (k + j)) | none => getO S id := by
  intro ρ
  induction ρ with
  | nil => intro k S _ id; rfl
  | cons i r ih =>
    intro k S hn id
    rw [List.nodup_cons] at hn
    simp only [putR, ih (k + 1) _ hn.2, idxK]
    by_cases e : i = id
    · subst e
      rw [show Nat.beq i i = true from Nat.beq_refl i, idxK_none.2 hn.1]
      simp [getO_setO]
    · have : Nat.beq i id = false := by
        cases h : Nat.beq i id with
        | true => exact (e (Nat.eq_of_beq_eq_true h)).elim
        | false => rfl
      rw [this]
      cases hk : idxK r id with
      | none => simp [getO_setO, Ne.symm e]
      | some j => simp only []; rw [show k + 1 + j = k + (j + 1) by omega]

/-- the ghosts between caller and callee -/
def inG (ρ : List Nat) (S : List VObj) (g : Gh) : Gh := ⟨fun k => (ρ[k]?).bind g.loc, fun k => (ρ[k]?).bind fun id => (g.hdr id).map fun p => (p.1 - verO (getO S id), p.2), g.stab⟩
def outG (ρ : List Nat) (δ : Nat → Nat) (g g1 : Gh) : Gh := ⟨fun id => match idxK ρ id with | some k => g1.loc k | none => g.loc id, fun id => match idxK ρ id with | some k => (g1.hdr k).map fun p => (δ k + p.1, p.2) | none => g.hdr id, g1.stab⟩

theorem inv_rel {g : Gh} {w : World} {ρ : List Nat} {S : List VObj} (hv : ∀ id, id ∈ ρ → ∀ v h, g.hdr id = some (v, h) → v = verO (getO S id)) : ∀ (n : Nat) {x : AV} {v : Value}, Rel g w x v → Rel (inG ρ S g) w (invN ρ S n x) v := by
  have leaf : ∀ (n : Nat) {x : AV} {v : Value}, Rel g w x v → ((∃ id off, x = .ptr id off) ∨ (∃ id, x = .map id) ∨ (∃ id ver, x = .sall id ver) ∨ (∃ id ver esz off len, x = .sref id ver esz off len) ∨ ∃ id ver esz i off, x = .eptr id ver esz i off) → Rel (inG ρ S g) w (invN ρ S n x) v := by
    intro n x v h hx
    have hhdr : ∀ {id k ver0 : Nat} {h : Value}, idxK ρ id = some k → g.hdr id = some (ver0, h) → (inG ρ S g).hdr k = some (0, h) ∧ ver0 = verO (getO S id) := fun hk hh => by
      have hr := idxK_some hk
      have := hv _ (List.mem_of_getElem? hr) _ _ hh
      simp only [inG, hr, Option.bind_some, hh, Option.map_some, this, Nat.sub_self]
      exact ⟨trivial, trivial⟩
    rcases hx with ⟨id, off, rfl⟩ | ⟨id, rfl⟩ | ⟨id, ver, rfl⟩ | ⟨id, ver, esz, off, len, rfl⟩ | ⟨id, ver, esz, i, off, rfl⟩
    · have e : invN ρ S n (.ptr id off) = match idxK ρ id with | some k => .ptr k off | none => .dead := by cases n <;> rfl
      rw [e]
      obtain ⟨b, o, hl, rfl⟩ := inv_ptr h
      cases hk : idxK ρ id with
      | none => exact .dead _
      | some k => exact .ptr (by simp only [inG, idxK_some hk, Option.bind_some]; exact hl)
    · have e : invN ρ S n (.map id) = match idxK ρ id with | some k => .map k | none => .dead := by cases n <;> rfl
      rw [e]
      obtain ⟨b, hl, rfl⟩ := inv_map h
      cases hk : idxK ρ id with
      | none => exact .dead _
      | some k => exact .map (by simp only [inG, idxK_some hk, Option.bind_some]; exact hl)
    · have e : invN ρ S n (.sall id ver) = match idxK ρ id, Nat.beq ver (verO (getO S id)) with | some k, true => .sall k 0 | _, _ => .dead := by cases n <;> rfl
      rw [e]
      obtain ⟨ver0, hd, a, len, cap, h1, h2, h3, rfl⟩ := inv_sall h
      split
      · rename_i k hk hb
        obtain ⟨q1, q2⟩ := hhdr hk h1
        have := Nat.eq_of_beq_eq_true hb
        exact .sall q1 (Nat.le_refl _) fun _ => h3 (by omega)
      · exact .dead _
    · have e : invN ρ S n (.sref id ver esz off len) = match idxK ρ id, Nat.beq ver (verO (getO S id)) with | some k, true => .sref k 0 esz off len | _, _ => .dead := by cases n <;> rfl
      rw [e]
      obtain ⟨ver0, hd, a, cap, h1, h2, h3, rfl⟩ := inv_sref h
      split
      · rename_i k hk hb
        obtain ⟨q1, q2⟩ := hhdr hk h1
        have := Nat.eq_of_beq_eq_true hb
        exact .sref q1 (Nat.le_refl _) fun _ => h3 (by omega)
      · exact .dead _
    · have e : invN ρ S n (.eptr id ver esz i off) = match idxK ρ id, Nat.beq ver (verO (getO S id)) with | some k, true => .eptr k 0 esz i off | _, _ => .dead := by cases n <;> rfl
      rw [e]
      obtain ⟨ver0, hd, a, h1, h2, h3, rfl⟩ := inv_eptr h
      split
      · rename_i k hk hb
        obtain ⟨q1, q2⟩ := hhdr hk h1
        have := Nat.eq_of_beq_eq_true hb
        exact .eptr q1 (Nat.le_refl _) fun _ => h3 (by omega)
      · exact .dead _
  intro n
  induction n with
  | zero =>
    intro x v h
    cases x with
    | ptr id off => exact leaf 0 h (.inl ⟨_, _, rfl⟩)
    | map id => exact leaf 0 h (.inr (.inl ⟨_, rfl⟩))
    | sall id ver => exact leaf 0 h (.inr (.inr (.inl ⟨_, _, rfl⟩)))
    | sref id ver esz off len => exact leaf 0 h (.inr (.inr (.inr (.inl ⟨_, _, _, _, _, rfl⟩))))
    | eptr id ver esz i off => exact leaf 0 h (.inr (.inr (.inr (.inr ⟨_, _, _, _, _, rfl⟩))))
    | agg _ => exact .dead _
    | tuple _ => exact .dead _
    | func _ _ _ => exact .dead _
    | iface _ _ => exact .dead _
    | vptr _ _ => exact .dead _
    | kb b => have := rel_bool h.unkb; subst this; exact .kb b
    | _ => exact h.pureG (g := g) (g' := inG ρ S g) (fun _ _ h => h) rfl
  | succ n ih =>
    intro x v h
    have hm : ∀ (cs : List AV) (f : Nat → Value → Prop), (∀ (i : Nat) (x : AV) (v : Value), cs[i]? = some x → f i v → Rel g w x v) → ∀ (i : Nat) (x : AV) (v : Value), (cs.map (invN ρ S n))[i]? = some x → f i v → Rel (inG ρ S g) w x v := by
      intro cs f hc i x v hx hv
      rw [List.getElem?_map] at hx
      cases hi : cs[i]? with
      | none => rw [hi] at hx; exact nomatch hx
      | some y => rw [hi] at hx; cases hx; exact ih (hc i y v hi hv)
    cases x with
    | ptr id off => exact leaf _ h (.inl ⟨_, _, rfl⟩)
    | map id => exact leaf _ h (.inr (.inl ⟨_, rfl⟩))
    | sall id ver => exact leaf _ h (.inr (.inr (.inl ⟨_, _, rfl⟩)))
    | sref id ver esz off len => exact leaf _ h (.inr (.inr (.inr (.inl ⟨_, _, _, _, _, rfl⟩))))
    | eptr id ver esz i off => exact leaf _ h (.inr (.inr (.inr (.inr ⟨_, _, _, _, _, rfl⟩))))
    | agg cs =>
      obtain ⟨vs, h1, h2, rfl⟩ := inv_agg h
      exact .agg (by simpa using h1) (hm cs (fun i v => vs[i]? = some v) h2)
    | tuple cs =>
      obtain ⟨vs, h1, h2, rfl⟩ := inv_tuple h
      exact .tuple (by simpa using h1) (hm cs (fun i v => vs[i]? = some v) h2)
    | func fn first cap =>
      obtain ⟨fv, cv, h1, h2, h3, h4, rfl⟩ := inv_func h
      exact .func (by simpa using h1) (by simpa using h2) (hm first (fun i v => fv[i]? = some v) h3) (hm cap (fun i v => cv[i]? = some v) h4)
    | iface t x =>
      cases h with
      | iface h => exact .iface (ih h)
    | vptr cs off =>
      obtain ⟨b, o, vs, h1, h2, rfl⟩ := inv_vptr h
      refine .vptr vs (fun j c hc => ?_) (fun j c hc => ?_) (fun j hj => h2 j (by simpa using hj))
      · rw [List.getElem?_map] at hc
        cases hj : cs[j]? with
        | none => rw [hj] at hc; exact nomatch hc
        | some y => exact (h1 j y hj).1
      · exact hm cs (fun i v => v = vs i) (fun i x v hx hv => hv ▸ (h1 i x hx).2) j c _ hc rfl
    | kb b => have := rel_bool h.unkb; subst this; exact .kb b
    | _ => exact h.pureG (g := g) (g' := inG ρ S g) (fun _ _ h => h) rfl

theorem ren_rel {g g1 : Gh} {w : World} {ρ : List Nat} {δ : Nat → Nat} (hn : ρ.Nodup) : ∀ (n : Nat) {x : AV} {v : Value}, Rel g1 w x v → Rel (outG ρ δ g g1) w (renN ρ δ n x) v := by
  have leaf : ∀ (n : Nat) {x : AV} {v : Value}, Rel g1 w x v → ((∃ id off, x = .ptr id off) ∨ (∃ id, x = .map id) ∨ (∃ id ver, x = .sall id ver) ∨ (∃ id ver esz off len, x = .sref id ver esz off len) ∨ ∃ id ver esz i off, x = .eptr id ver esz i off) → Rel (outG ρ δ g g1) w (renN ρ δ n x) v := by
    intro n x v h hx
    have hhdr : ∀ {id k ver0 : Nat} {h : Value}, ρ[k]? = some id → g1.hdr k = some (ver0, h) → (outG ρ δ g g1).hdr id = some (δ k + ver0, h) := fun hk hh => by
      simp only [outG, idxK_at hn hk, hh, Option.map_some]
    have hloc : ∀ {id k : Nat} {p : Nat × Nat}, ρ[k]? = some id → g1.loc k = some p → (outG ρ δ g g1).loc id = some p := fun hk hh => by
      simp only [outG, idxK_at hn hk, hh]
    rcases hx with ⟨id, off, rfl⟩ | ⟨id, rfl⟩ | ⟨id, ver, rfl⟩ | ⟨id, ver, esz, off, len, rfl⟩ | ⟨id, ver, esz, i, off, rfl⟩
    · have e : renN ρ δ n (.ptr id off) = match ρ[id]? with | some k => .ptr k off | none => .dead := by cases n <;> rfl
      rw [e]
      obtain ⟨b, o, hl, rfl⟩ := inv_ptr h
      cases hk : ρ[id]? with
      | none => exact .dead _
      | some k => exact .ptr (hloc hk hl)
    · have e : renN ρ δ n (.map id) = match ρ[id]? with | some k => .map k | none => .dead := by cases n <;> rfl
      rw [e]
      obtain ⟨b, hl, rfl⟩ := inv_map h
      cases hk : ρ[id]? with
      | none => exact .dead _
      | some k => exact .map (hloc hk hl)
    · have e : renN ρ δ n (.sall id ver) = match ρ[id]? with | some k => .sall k (δ id + ver) | none => .dead := by cases n <;> rfl
      rw [e]
      obtain ⟨ver0, hd, a, len, cap, h1, h2, h3, rfl⟩ := inv_sall h
      cases hk : ρ[id]? with
      | none => exact .dead _
      | some k => exact .sall (hhdr hk h1) (by omega) fun _ => h3 (by omega)
    · have e : renN ρ δ n (.sref id ver esz off len) = match ρ[id]? with | some k => .sref k (δ id + ver) esz off len | none => .dead := by cases n <;> rfl
      rw [e]
      obtain ⟨ver0, hd, a, cap, h1, h2, h3, rfl⟩ := inv_sref h
      cases hk : ρ[id]? with
      | none => exact .dead _
      | some k => exact .sref (hhdr hk h1) (by omega) fun _ => h3 (by omega)
    · have e : renN ρ δ n (.eptr id ver esz i off) = match ρ[id]? with | some k => .eptr k (δ id + ver) esz i off | none => .dead := by cases n <;> rfl
      rw [e]
      obtain ⟨ver0, hd, a, h1, h2, h3, rfl⟩ := inv_eptr h
      cases hk : ρ[id]? with
      | none => exact .dead _
      | some k => exact .eptr (hhdr hk h1) (by omega) fun _ => h3 (by omega)
  intro n
  induction n with
  | zero =>
    intro x v h
    cases x with
    | ptr id off => exact leaf 0 h (.inl ⟨_, _, rfl⟩)
    | map id => exact leaf 0 h (.inr (.inl ⟨_, rfl⟩))
    | sall id ver => exact leaf 0 h (.inr (.inr (.inl ⟨_, _, rfl⟩)))
    | sref id ver esz off len => exact leaf 0 h (.inr (.inr (.inr (.inl ⟨_, _, _, _, _, rfl⟩))))
    | eptr id ver esz i off => exact leaf 0 h (.inr (.inr (.inr (.inr ⟨_, _, _, _, _, rfl⟩))))
    | agg _ => exact .dead _
    | tuple _ => exact .dead _
    | func _ _ _ => exact .dead _
    | iface _ _ => exact .dead _
    | vptr _ _ => exact .dead _
    | kb b => have := rel_bool h.unkb; subst this; exact .kb b
    | _ => exact h.pureG (g := g1) (g' := outG ρ δ g g1) (fun _ _ h => h) rfl
  | succ n ih =>
    intro x v h
    have hm : ∀ (cs : List AV) (f : Nat → Value → Prop), (∀ (i : Nat) (x : AV) (v : Value), cs[i]? = some x → f i v → Rel g1 w x v) → ∀ (i : Nat) (x : AV) (v : Value), (cs.map (renN ρ δ n))[i]? = some x → f i v → Rel (outG ρ δ g g1) w x v := by
      intro cs f hc i x v hx hv
      rw [List.getElem?_map] at hx
      cases hi : cs[i]? with
      | none => rw [hi] at hx; exact nomatch hx
      | some y => rw [hi] at hx; cases hx; exact ih (hc i y v hi hv)
    cases x with
    | ptr id off => exact leaf _ h (.inl ⟨_, _, rfl⟩)
    | map id => exact leaf _ h (.inr (.inl ⟨_, rfl⟩))
    | sall id ver => exact leaf _ h (.inr (.inr (.inl ⟨_, _, rfl⟩)))
    | sref id ver esz off len => exact leaf _ h (.inr (.inr (.inr (.inl ⟨_, _, _, _, _, rfl⟩))))
    | eptr id ver esz i off => exact leaf _ h (.inr (.inr (.inr (.inr ⟨_, _, _, _, _, rfl⟩))))
    | agg cs =>
      obtain ⟨vs, h1, h2, rfl⟩ := inv_agg h
      exact .agg (by simpa using h1) (hm cs (fun i v => vs[i]? = some v) h2)
    | tuple cs =>
      obtain ⟨vs, h1, h2, rfl⟩ := inv_tuple h
      exact .tuple (by simpa using h1) (hm cs (fun i v => vs[i]? = some v) h2)
    | func fn first cap =>
      obtain ⟨fv, cv, h1, h2, h3, h4, rfl⟩ := inv_func h
      exact .func (by simpa using h1) (by simpa using h2) (hm first (fun i v => fv[i]? = some v) h3) (hm cap (fun i v => cv[i]? = some v) h4)
    | iface t x =>
      cases h with
      | iface h => exact .iface (ih h)
    | vptr cs off =>
      obtain ⟨b, o, vs, h1, h2, rfl⟩ := inv_vptr h
      refine .vptr vs (fun j c hc => ?_) (fun j c hc => ?_) (fun j hj => h2 j (by simpa using hj))
      · rw [List.getElem?_map] at hc
        cases hj : cs[j]? with
        | none => rw [hj] at hc; exact nomatch hc
        | some y => exact (h1 j y hj).1
      · exact hm cs (fun i v => v = vs i) (fun i x v hx hv => hv ▸ (h1 i x hx).2) j c _ hc rfl
    | kb b => have := rel_bool h.unkb; subst this; exact .kb b
    | _ => exact h.pureG (g := g1) (g' := outG ρ δ g g1) (fun _ _ h => h) rfl

def mapO (f : AV → AV) (ver' : Nat) : VObj → VObj
  | .box cs fz => .box (cs.map f) fz
  | .arr _ esz nn es fz => .arr ver' esz nn es fz
  | o => o
theorem invO_map (ρ : List Nat) (S : List VObj) (o : VObj) : invO ρ S o = mapO (invN ρ S 3) 0 o := by cases o <;> rfl
theorem renO_map (ρ : List Nat) (δ : Nat → Nat) (k : Nat) (o : VObj) : renO ρ δ k o = mapO (renN ρ δ 3) (δ k + verO o) o := by cases o <;> rfl

/-- an object under another ghost and number, its cells' values seen anew -/
theorem ObjRel.as {g g' : Gh} {w : World} {id id' ver' : Nat} {o : VObj} (f : AV → AV) (hl : g'.loc id' = g.loc id) (hh : ∀ v h, g.hdr id = some (v, h) → v = verO o ∧ g'.hdr id' = some (ver', h)) (hn : g.hdr id = none → g'.hdr id' = none) (hst : ∀ b x, g'.stab b x ↔ g.stab b x)
    (hf : ∀ x v, Rel g w x v → Rel g' w (f x) v) (r : ObjRel g w id o) : ObjRel g' w id' (mapO f ver' o) := by
  cases o with
  | gone => exact ⟨hl.trans r.1, hn r.2⟩
  | box cs fz =>
    obtain ⟨h1, b, o, vs, h2, h3, h4, h5, h6, h7⟩ := r
    refine ⟨hn h1, b, o, vs, hl.trans h2, h3, h4, fun j c hc => ?_, fun hz j hj => (hst _ _).2 (h6 hz j (by simpa using hj)), fun hz x hx => h7 hz x ((hst _ _).1 hx)⟩
    rw [List.getElem?_map] at hc
    cases hj : cs[j]? with
    | none => rw [hj] at hc; exact nomatch hc
    | some y => rw [hj] at hc; cases hc; exact ⟨(h5 j y hj).1, hf _ _ (h5 j y hj).2⟩
  | arr ver esz nn es fz =>
    obtain ⟨h1, h2, h3, h3', h4⟩ := r
    refine ⟨hl.trans h1, h2, h3, h3', ?_⟩
    rcases h4 with ⟨a, k1, k2, k3⟩ | ⟨b, o, cap, vs, k1, k0, k2, k3, k4, k5, k6, k7, k8, k9⟩
    · exact .inl ⟨a, (hh _ _ k1).2, k2, k3⟩
    · exact .inr ⟨b, o, cap, vs, (hh _ _ k1).2, k0, k2, k3, k4, k5, k6, fun i c j x hi hj => ⟨(k7 i c j x hi hj).1, (k7 i c j x hi hj).2.pureG (fun b o h => (hst b o).2 h) (h2 c (List.mem_of_getElem? hi) x (List.mem_of_getElem? hj))⟩,
        fun hf => ⟨fun i j hi hj => (hst _ _).2 ((k8 hf).1 i j hi hj), fun x hx hs => (k8 hf).2 x hx ((hst _ _).1 hs)⟩, fun hf x hx => k9 hf x ((hst _ _).1 hx)⟩
  | map kt vt es =>
    obtain ⟨h1, b, clock, en, h2, h3, h4, h5, h6, h7, h8⟩ := r
    exact ⟨hn h1, b, clock, en, hl.trans h2, h3, h4, h5, fun i x e hx he => ⟨(h6 i x e hx he).1.flatG (fun b o h => (hst b o).2 h) (h7 x (List.mem_of_getElem? hx)).1, (h6 i x e hx he).2.flatG (fun b o h => (hst b o).2 h) (h7 x (List.mem_of_getElem? hx)).2⟩, h7, fun x hx => h8 x ((hst _ _).1 hx)⟩

theorem hdr_verO {B : Nat → Prop} {g : Gh} {w : World} {σ : Nat → VObj} (hs : RelS B g w σ) {id v : Nat} {h : Value} (hh : g.hdr id = some (v, h)) : v = verO (σ id) := by
  have := hs.obj id
  cases ho : σ id with
  | gone => rw [ho] at this; rw [this.2] at hh; exact nomatch hh
  | box cs fz => rw [ho] at this; rw [this.1] at hh; exact nomatch hh
  | map kt vt es => rw [ho] at this; rw [this.1] at hh; exact nomatch hh
  | arr ver esz nn es fz =>
    rw [ho] at this
    obtain ⟨_, _, _, _, hc⟩ := this
    rcases hc with ⟨a, k, _⟩ | ⟨b, o, cap, vs, k, _⟩ <;> (rw [hh] at k; cases k; rfl)

def nodupB : List Nat → Bool
  | [] => true
  | i :: r => !r.contains i && nodupB r
theorem nodupB_spec : ∀ {l : List Nat}, nodupB l = true → l.Nodup
  | [], _ => .nil
  | i :: r, h => by
    simp only [nodupB, Bool.and_eq_true, Bool.not_eq_true'] at h
    exact List.nodup_cons.2 ⟨fun hm => (by rw [List.contains_iff_mem.2 hm] at h; exact nomatch h.1), nodupB_spec h.2⟩

def kindsOk (s2 : List VObj) : Nat → List VObj → Bool
  | _, [] => true
  | k, .arr .. :: s => (match getO s2 k with
    | .arr .. => true
    | _ => false) && kindsOk s2 (k + 1) s
  | k, _ :: s => kindsOk s2 (k + 1) s
theorem kindsOk_spec (s2 : List VObj) : ∀ (s : List VObj) (i : Nat), kindsOk s2 i s = true → ∀ k ver esz nn es fz, getO s k = .arr ver esz nn es fz → ∃ ver esz nn es fz, getO s2 (i + k) = .arr ver esz nn es fz := by
  intro s
  induction s with
  | nil => intro i _ k ver esz nn es fz h; simp [getO] at h
  | cons o s ih =>
    intro i h k ver esz nn es fz hk
    cases k with
    | zero =>
      have : o = .arr ver esz nn es fz := hk
      subst this
      simp only [kindsOk, Bool.and_eq_true] at h
      obtain ⟨h, _⟩ := h
      split at h
      · rename_i e; exact ⟨_, _, _, _, _, e⟩
      · exact nomatch h
    | succ k =>
      have hk : getO s k = .arr ver esz nn es fz := hk
      rw [show i + (k + 1) = i + 1 + k by omega]
      refine ih (i + 1) ?_ k ver esz nn es fz hk
      cases o <;> simp [kindsOk] at h <;> first | exact h | exact h.2

/-- a call of such a function, over any store: ρ: the caller's numbers of the objects -/
theorem vcall_obj {keep : Bool} {fid : FuncId} {args args' : List AV} {s s2 S : List VObj} {v : AV} {R : AV → List VObj → FP → Prop} (hc : ObjCall P keep fid args s v s2) (ρ : List Nat) (hv : flatD v = true) (hn : nodupB ρ = true) (hl : s.length = ρ.length) (hl2 : s2.length ≤ ρ.length) (hkd : kindsOk s2 0 s = true)
    (ha : args'.map (invN ρ S 3) = args) (hs : ρ.map (fun id => invO ρ S (getO S id)) = s)
    (hR : R v (putR ρ (fun k : Nat => (match ρ[k]? with | some id => verO (getO S id) | none => 0) + cond keep 0 1) s2 0 ρ S) ⟨[], ρ⟩) : VCall P fid args' S R := by
  have hn := nodupB_spec hn
  unfold VCall
  obtain ⟨hfn, hc⟩ := hc
  generalize hδ : (fun k : Nat => (match ρ[k]? with | some id => verO (getO S id) | none => 0) + cond keep 0 1) = δ at hR
  have hδ' : ∀ k id, ρ[k]? = some id → δ k = verO (getO S id) + cond keep 0 1 := fun k id hk => by subst hδ; simp only [hk]
  refine ⟨v, _, _, hR, fun id hid => by rw [getO_putR _ _ _ _ _ _ hn, idxK_none.2 hid], hfn, fun B g w vals σ hB hlen hrel hag hsr => ?_⟩
  have hag : ∀ id, id ∈ ρ → σ id = getO S id := fun id h => hag id (.inr h)
  have hver : ∀ id, id ∈ ρ → ∀ v h, g.hdr id = some (v, h) → v = verO (getO S id) := fun id hid v h hh => by rw [← hag id hid]; exact hdr_verO hsr hh
  have hlt : ∀ k id, ρ[k]? = some id → k < s.length := fun k id h => by rw [hl]; exact (List.getElem?_eq_some_iff.1 h).1
  let g0 := inG ρ S g
  let B0 : Nat → Prop := fun b => (∃ id ∈ ρ, blk g id b) ∨ w.heap.size ≤ b
  have hblk0 : ∀ k b, blk g0 k b → ∃ id, ρ[k]? = some id ∧ blk g id b := fun k b h => by
    cases hk : ρ[k]? with
    | none => rcases h with ⟨o, h⟩ | ⟨ver, o, len, cap, h, _⟩ <;> simp only [g0, inG, hk, Option.bind_none] at h <;> exact nomatch h
    | some id =>
      refine ⟨id, rfl, ?_⟩
      rcases h with ⟨o, h⟩ | ⟨ver, o, len, cap, h, hcap⟩
      · simp only [g0, inG, hk, Option.bind_some] at h; exact .inl ⟨o, h⟩
      · simp only [g0, inG, hk, Option.bind_some] at h
        cases hh : g.hdr id with
        | none => rw [hh] at h; exact nomatch h
        | some p => obtain ⟨v', x⟩ := p; rw [hh] at h; cases h; exact .inr ⟨v', o, len, cap, hh, hcap⟩
  have hS0 : RelS B0 g0 w (getO s) := by
    refine ⟨fun k => ?_, fun i j b h1 h2 => ?_, fun k b h => ?_, hsr.sb⟩
    · cases hk : ρ[k]? with
      | none =>
        have : s.length ≤ k := by rw [hl]; exact List.getElem?_eq_none_iff.1 hk
        rw [show getO s k = .gone by simp [getO, this]]
        exact ⟨by simp only [g0, inG, hk, Option.bind_none], by simp only [g0, inG, hk, Option.bind_none]⟩
      | some id =>
        have hob : getO s k = invO ρ S (getO S id) := by
          rw [← hs]; simp [getO, hk]
        rw [hob]
        have ho := hsr.obj id
        rw [hag id (List.mem_of_getElem? hk)] at ho
        have := ObjRel.as (r := ho) (g := g) (g' := g0) (id := id) (id' := k) (ver' := 0) (invN ρ S 3) (by simp only [g0, inG, hk, Option.bind_some]) (fun v h hh => by
          have := hver id (List.mem_of_getElem? hk) v h hh
          exact ⟨this, by simp only [g0, inG, hk, Option.bind_some, hh, Option.map_some, this, Nat.sub_self]⟩) (fun hh => by simp only [g0, inG, hk, Option.bind_some, hh, Option.map_none]) (fun _ _ => Iff.rfl) (fun x v h => inv_rel hver 3 h)
        rw [invO_map]; exact this
    · obtain ⟨id1, k1, q1⟩ := hblk0 i b h1
      obtain ⟨id2, k2, q2⟩ := hblk0 j b h2
      have := hsr.apart id1 id2 b q1 q2
      subst this
      have e1 := idxK_at hn k1
      have e2 := idxK_at hn k2
      rw [e1] at e2; cases e2; rfl
    · obtain ⟨id1, k1, q1⟩ := hblk0 k b h
      exact .inl ⟨id1, List.mem_of_getElem? k1, q1⟩
  have hcall := hc B0 g0 w vals (fun b h => .inr h) (by rw [← ha, List.length_map]; exact hlen) (fun i x u hx hu => by
    rw [← ha, List.getElem?_map] at hx
    cases hi : args'[i]? with
    | none => rw [hi] at hx; exact nomatch hx
    | some y => rw [hi] at hx; cases hx; exact inv_rel hver 3 (hrel i y u hi hu)) hS0
  refine Calls.mono hcall fun e w' he => ?_
  obtain ⟨g1, val, rfl, h0, r1, hval⟩ := he
  have hgone1 : ∀ k, ρ[k]? = none → g1.loc k = none ∧ g1.hdr k = none := fun k hk => by
    have := r1.obj k
    have hle : s2.length ≤ k := Nat.le_trans hl2 (List.getElem?_eq_none_iff.1 hk)
    rw [show getO s2 k = .gone by simp [getO, hle]] at this
    exact this
  let g2 := outG ρ δ g g1
  have hb0 : ∀ b, B0 b → B b := fun b hb => by
    rcases hb with ⟨id, hm, hb⟩ | hb
    · exact hsr.inB id b hb
    · exact hB b hb
  have hst : ∀ b x, g2.stab b x ↔ g1.stab b x := fun _ _ => Iff.rfl
  have e02 : Ext B g w g2 w' :=
    { size := h0.size
      stab := h0.stab
      same := h0.same
      keep := fun b hb => h0.keep b fun h => hb (hb0 b h)
      keepS := fun b o hb h => h0.keepS b o (fun h => hb (hb0 b h)) h
      loc := fun id x hx => by
        cases hk : idxK ρ id with
        | none => simp only [g2, outG, hk]; exact hx
        | some k =>
          simp only [g2, outG, hk]
          refine h0.loc k x ?_
          simp only [g0O, g0, inG, idxK_some hk, Option.bind_some]
          exact hx
      hdr := fun id ver hd hx => by
        cases hk : idxK ρ id with
        | none => exact ⟨ver, hd, by simp only [g2, outG, hk]; exact hx, Nat.le_refl _, fun _ => rfl⟩
        | some k =>
          have hkk := idxK_some hk
          have hmem := List.mem_of_getElem? hkk
          have hv := hver id hmem ver hd hx
          -- the object is an array still
          have hex : ∃ v1 h1, g1.hdr k = some (v1, h1) := by
            have h00 : g0.hdr k = some (0, hd) := by simp only [g0, inG, hkk, Option.bind_some, hx, Option.map_some, hv, Nat.sub_self]
            have ha := hS0.obj k
            have hb := r1.obj k
            cases ho : getO s k with
            | gone => rw [ho] at ha; rw [ha.2] at h00; exact nomatch h00
            | box cs fz => rw [ho] at ha; rw [ha.1] at h00; exact nomatch h00
            | map kt vt es => rw [ho] at ha; rw [ha.1] at h00; exact nomatch h00
            | arr ver esz nn es fz =>
              obtain ⟨v2, esz2, nn2, es2, fz2, ho2⟩ := kindsOk_spec s2 s 0 hkd k ver esz nn es fz ho
              rw [Nat.zero_add] at ho2
              rw [ho2] at hb
              obtain ⟨_, _, _, _, hc⟩ := hb
              rcases hc with ⟨a, k1, _⟩ | ⟨b, o, cap, vs, k1, _⟩ <;> exact ⟨_, _, k1⟩
          obtain ⟨v1, h1, hh1⟩ := hex
          refine ⟨δ k + v1, h1, by simp only [g2, outG, hk, hh1, Option.map_some], by rw [hδ' k id hkk]; omega, fun he => ?_⟩
          rw [hδ' k id hkk] at he
          cases keep with
          | false => simp at he; omega
          | true =>
            have hz : v1 = 0 := by simp at he; omega
            subst hz
            obtain ⟨v', h', q1, q2, q3⟩ := h0.hdr k 0 hd (by simp only [g0O, if_true, g0, inG, hkk, Option.bind_some, hx, Option.map_some, hv, Nat.sub_self])
            rw [hh1] at q1; cases q1
            exact q3 rfl
      low := h0.low }
  have hb2 : ∀ id b k, idxK ρ id = some k → blk g2 id b → blk g1 k b := fun id b k hk h => by
    rcases h with ⟨o, h⟩ | ⟨ver, o, len, cap, h, hcap⟩
    · simp only [g2, outG, hk] at h; exact .inl ⟨o, h⟩
    · simp only [g2, outG, hk] at h
      cases hh : g1.hdr k with
      | none => rw [hh] at h; exact nomatch h
      | some p => obtain ⟨v', x⟩ := p; rw [hh] at h; cases h; exact .inr ⟨v', o, len, cap, hh, hcap⟩
  have hb3 : ∀ id b, idxK ρ id = none → blk g2 id b → blk g id b := fun id b hk h => by
    unfold blk at h ⊢
    simp only [g2, outG, hk] at h; exact h
  have hout : ∀ id b, idxK ρ id = none → blk g id b → ¬ B0 b := fun id b hk h hb => by
    rcases hb with ⟨id', hm', hb⟩ | hb
    · have := hsr.apart id id' b h hb
      subst this; exact idxK_none.1 hk hm'
    · have := hsr.lt h; omega
  refine ⟨g2, val, rfl, e02, ⟨fun id => ?_, fun i j b h1 h2 => ?_, fun id b h => ?_, fun b x h => r1.sb b x h⟩, flatD_rel (g := g1) (g' := g2) (fun _ _ h => h) hval hv⟩
  · unfold over
    cases hk : idxK ρ id with
    | some k =>
      have hkk := idxK_some hk
      rw [if_pos (List.mem_of_getElem? hkk), getO_putR _ _ _ _ _ _ hn, hk]
      simp only [Nat.zero_add]
      have := ObjRel.as (r := r1.obj k) (g := g1) (g' := g2) (id := k) (id' := id) (ver' := δ k + verO (getO s2 k)) (renN ρ δ 3) (by simp only [g2, outG, hk]) (fun v h hh => by
        have := hdr_verO r1 hh
        exact ⟨this, by simp only [g2, outG, hk, hh, Option.map_some, this]⟩) (fun hh => by simp only [g2, outG, hk, hh, Option.map_none]) hst (fun x v h => ren_rel hn 3 h)
      rw [renO_map]; exact this
    | none =>
      rw [if_neg (idxK_none.1 hk)]
      refine (hsr.obj id).keep e02 (by simp only [g2, outG, hk]) (by simp only [g2, outG, hk]) fun b hkb => ?_
      have hnb := hout id b hk hkb
      exact ⟨h0.keep b hnb, fun x => ⟨fun h => h0.keepS b x hnb h, fun h => h0.stab b x h⟩⟩
  · cases hi : idxK ρ i with
    | some ki =>
      cases hj : idxK ρ j with
      | some kj =>
        have := r1.apart ki kj b (hb2 i b ki hi h1) (hb2 j b kj hj h2)
        subst this
        have e1 := idxK_some hi
        have e2 := idxK_some hj
        rw [e1] at e2; cases e2; rfl
      | none => exact (hout j b hj (hb3 j b hj h2) (r1.inB ki b (hb2 i b ki hi h1))).elim
    | none =>
      cases hj : idxK ρ j with
      | some kj => exact (hout i b hi (hb3 i b hi h1) (r1.inB kj b (hb2 j b kj hj h2))).elim
      | none => exact hsr.apart i j b (hb3 i b hi h1) (hb3 j b hj h2)
  · cases hi : idxK ρ id with
    | some k => exact hb0 b (r1.inB k b (hb2 id b k hi h))
    | none => exact hsr.inB id b (hb3 id b hi h)

end
end Go.Proofs.YtnlelalkkabihaaDoor.Vm
/- Strict forms of what runs must end in, and of loops. -/
set_option linter.all false
namespace Go.Proofs.YtnlelalkkabihaaDoor.Vm
open Go

section
variable {A : Type}
def force1 (v : AV) (k : AV → A) : A :=
  match v with
  | .agg cs => forceC cs fun cs => k (.agg cs)
  | v => force v k
def forceC1 : List AV → (List AV → A) → A
  | [], k => k []
  | x :: xs, k => force1 x fun y => forceC1 xs fun ys => k (y :: ys)
def force2 (v : AV) (k : AV → A) : A :=
  match v with
  | .agg cs => forceC cs fun cs => k (.agg cs)
  | .tuple cs => forceC1 cs fun cs => k (.tuple cs)
  | v => force v k

theorem force1_eq (v : AV) (k : AV → A) : force1 v k = k v := by
  cases v <;> first | rfl | exact forceC_eq _ _
theorem forceC1_eq (l : List AV) (k : List AV → A) : forceC1 l k = k l := by
  induction l generalizing k with
  | nil => rfl
  | cons x xs ih => simp only [forceC1, force1_eq, ih]
theorem force2_eq (v : AV) (k : AV → A) : force2 v k = k v := by
  cases v <;> first | rfl | exact forceC_eq _ _ | exact forceC1_eq _ _
end

def RetRS (E : Env) (rs : List ResultVar) (v : AV) : Exit → List AV → List VObj → Prop
  | .ret, t, s => match resO E rs t s with
    | some r => force2 (nrmD s r) fun r => r = v
    | none => False
  | .normal, t, s => match resO E rs t s with
    | some r => force2 (nrmD s r) fun r => r = v
    | none => False
  | _, _, _ => False

theorem RetRS_eq {E : Env} {rs : List ResultVar} {v : AV} {e : Exit} {t : List AV} {s : List VObj} (h : RetRS E rs v e t s) : RetR E rs v e t s := by
  cases e <;> simp only [RetRS, force2_eq] at h <;> exact h

section
variable {P : Program} {E : Env} {N : NN} {R : Exit → List AV → List VObj → Prop}

theorem contractS {E : Env} (hE : E.Fits P) {fid : FuncId} {fn : Func} {args : List AV} {v : AV} (hk : Known P fid fn) (h : RunD P ⟨0, 0⟩ (start fn args) (RetRS E fn.results.toList v)) : PureCall P fid args v := contractD hE hk (h.mono fun e t s h => RetRS_eq h)

/-- what a loop's round must come to -/
def LoopRS (P : Program) (N : NN) (todo : List VItem) (R : Exit → List AV → List VObj → Prop) (keep : List Nat) (n : Nat) (again : List AV → List VObj → Prop) : Exit → List AV → List VObj → Prop
  | .normal, t, s => forceC (canonT N.v keep n s t) fun t' => forceS (canonS N.v n s) fun s' => again t' s'
  | .exit id, t, s => match popTo id todo with
    | some r => RunD P N ⟨t, s, r⟩ R
    | none => R (.exit id) t s
  | .ret, t, s => R .ret t s
  | _, _, _ => False

theorem loop_invS {ι : Type} (I : ι → Prop) (keep : List Nat) (n : Nat) (U : ι → List (Nat × AV)) (V : ι → List (Nat × VObj)) (μ : ι → Nat) (i0 : ι) {t : List AV} {s : List VObj} {body : Code} {todo : List VItem} (hl : N.l ≤ n) (hn : N.v ≤ n)
    (h : forceC (canonT N.v keep n s t) fun t0 => forceS (canonS N.v n s) fun s0 => updT t0 (U i0) = t0 ∧ updS s0 (V i0) = s0 ∧ I i0 ∧ ∀ i, I i → RunD P N ⟨updT t0 (U i), updS s0 (V i), [.code body]⟩
      (LoopRS P N todo R keep n fun t' s' => ∃ j, I j ∧ μ j < μ i ∧ t' = updT t0 (U j) ∧ s' = updS s0 (V j))) : LoopRunD P N body ⟨t, s, todo⟩ R := by
  rw [forceC_eq, forceS_eq] at h
  obtain ⟨h0, h1, hI, h⟩ := h
  refine loop_invD I keep n U V μ i0 hl hn h0 h1 hI fun i hi => (h i hi).mono fun e t' s' h => ?_
  cases e with
  | normal => simp only [LoopRS, forceC_eq, forceS_eq] at h; exact h
  | _ => exact h

/-- rounds one by one -/
theorem loop_nextD {t : List AV} {s : List VObj} {body : Code} {todo : List VItem} (n : Nat) (h : RunD P N ⟨t, s, [.code body]⟩ (LoopRD P N todo R (LoopFD P N body todo R n))) : LoopRunD P N body ⟨t, s, todo⟩ R :=
  loop_fuelD (n + 1) h

/-- a nil slice in a variable becomes an array object -/
theorem weak_promoteB {id k esz : Nat} {full : Bool} {t : List AV} {s : List VObj} {cs : List AV} (ho : getO s id = .box cs false) (hk : cs[k]? = some (.sl (some true) full [])) (h0 : 0 < esz) :
    Weak N t s t (setO (setO s s.length (.arr 0 esz none [] false)) id (.box (cs.set k (.sall s.length 0)) false)) := by
  intro B g0 w0 hf g a w hS
  have hobj := hS.rs.obj s.length
  rw [getO_len] at hobj
  obtain ⟨g', e1, r1, v1⟩ := set_arr_nil (id := s.length) (ver := 0) (esz := esz) (nn := none) (a := none) hS.rs hobj.1 (fun v h e => by rw [hobj.2] at e; exact nomatch e) h0 nofun nofun false
  have hid : id ≠ s.length := fun e => by rw [e, getO_len] at ho; exact nomatch ho
  have hb := r1.obj id
  rw [updF_other _ _ hid, ho] at hb
  obtain ⟨q1, b, o, vs, q2, q3, q4, q5, q6, q7⟩ := hb
  have hvk : vs k = .slice none 0 0 := by
    have := (q5 k _ hk).2
    generalize vs k = u at this
    cases this with
    | slnil h h' =>
      rename_i ad
      cases ad with
      | none => rfl
      | some ad => exact (h' ad rfl rfl).elim
    | sl vs h => exact (h rfl).elim
  have r2 := r1.upd (id := id) (o := .box (cs.set k (.sall s.length 0)) false) (Ext.refl B g' w) (fun _ _ => ⟨rfl, rfl⟩) (fun _ _ _ _ => ⟨rfl, fun _ => Iff.rfl⟩)
    ⟨q1, b, o, vs, q2, q3, q4, fun j c hj => by
      rw [List.getElem?_set] at hj
      split at hj
      · rename_i hkj; subst hkj
        split at hj
        · cases hj
          exact ⟨(q5 k _ hk).1, by rw [hvk]; exact v1⟩
        · exact nomatch hj
      · exact q5 j c hj, nofun, q7⟩
    (fun b hb => ⟨r1.inB id b hb, fun j hj hk => hj (r1.apart j id b hk hb)⟩) r1.sb
  refine ⟨g', hS.ext.trans e1, ?_, hS.rt.mono e1, hS.defers⟩
  have : getO (setO (setO s s.length (.arr 0 esz none [] false)) id (.box (cs.set k (.sall s.length 0)) false)) = updF (updF (getO s) s.length (.arr 0 esz none [] false)) id (.box (cs.set k (.sall s.length 0)) false) := by
    funext j
    rw [getO_setO]
    unfold updF
    split
    · rfl
    · rw [getO_setO]
  rw [this]; exact r2

theorem loop_promoteBD {id k esz : Nat} {full : Bool} {t : List AV} {s : List VObj} {cs : List AV} {body : Code} {todo : List VItem} (ho : getO s id = .box cs false) (hk : cs[k]? = some (.sl (some true) full [])) (h0 : 0 < esz)
    (h : LoopRunD P N body ⟨t, setO (setO s s.length (.arr 0 esz none [] false)) id (.box (cs.set k (.sall s.length 0)) false), todo⟩ R) : LoopRunD P N body ⟨t, s, todo⟩ R := by
  unfold LoopRunD at h ⊢
  exact h.map fun R' => run_weak (weak_promoteB ho hk h0) (fun x r e => by cases e; rfl)

/-- a call that is walked in place -/
def InRS (E : Env) (rs : List ResultVar) (ids : List Nat) (s : List VObj) (R : AV → List VObj → FP → Prop) (e : Exit) (t : List AV) (s2 : List VObj) : Prop :=
  match e with
  | .ret => match resO E rs t s2, goneOut ids s2 s.length with
    | some v, true => force2 v fun v => forceS (backS ids s2 0 s) fun s3 => R v s3 ⟨[], ids ++ newIds s.length (s2.length - s.length)⟩
    | _, _ => False
  | .normal => match resO E rs t s2, goneOut ids s2 s.length with
    | some v, true => force2 v fun v => forceS (backS ids s2 0 s) fun s3 => R v s3 ⟨[], ids ++ newIds s.length (s2.length - s.length)⟩
    | _, _ => False
  | _ => False

def allB (s : List VObj) (ids : List Nat) : Bool := ids.all fun i => Nat.blt i s.length && subO ids (getO s i)

theorem vcall_inS (hE : E.Fits P) {fid : FuncId} {fn : Func} {args : List AV} {s : List VObj} {R : AV → List VObj → FP → Prop} (hk : Known P fid fn)
    (hi : allB s (reachA s args) = true) (ha : args.all (sub 4 (reachA s args)) = true)
    (h : RunD P ⟨s.length, s.length⟩ (startIn fn args (maskS (reachA s args) 0 s)) (InRS E fn.results.toList (reachA s args) s R)) : VCall P fid args s R := by
  refine vcall_in hE hk (reachA s args) hi ha (h.mono fun e t s2 h => ?_)
  cases e <;> simp only [InRS, force2_eq, forceS_eq] at h <;> exact h

/-- a contract over objects -/
def RetOS (E : Env) (rs : List ResultVar) (keep : Bool) (n : Nat) (v : AV) (s2 : List VObj) : Exit → List AV → List VObj → Prop
  | .ret, t, s => match resO E rs t s with
    | some r => force2 (nrmD s r) fun r' => forceS (canonS (cond keep n 0) n (freeze s (refsD r))) fun s' => r' = v ∧ s' = s2
    | none => False
  | .normal, t, s => match resO E rs t s with
    | some r => force2 (nrmD s r) fun r' => forceS (canonS (cond keep n 0) n (freeze s (refsD r))) fun s' => r' = v ∧ s' = s2
    | none => False
  | _, _, _ => False

theorem objCallS (hE : E.Fits P) {keep : Bool} {fid : FuncId} {fn : Func} {args : List AV} {s : List VObj} {v : AV} {s2 : List VObj} (hk : Known P fid fn) (h : RunD P ⟨cond keep s.length 0, s.length⟩ (startIn fn args s) (RetOS E fn.results.toList keep s.length v s2)) : ObjCall P keep fid args s v s2 :=
  objCall hE hk (h.mono fun e t s h => by cases e <;> simp only [RetOS, force2_eq, forceS_eq] at h <;> exact h)

end
end Go.Proofs.YtnlelalkkabihaaDoor.Vm
/- Functions whose results are new memory: their arguments stay as they are, frozen or not. -/
set_option linter.all false
namespace Go.Proofs.YtnlelalkkabihaaDoor.Vm
open Go

/-- a cell without memory behind it -/
def AV.scal : AV → Bool
  | .dead | .bool _ | .kb _ | .int _ _ | .str _ | .nilptr | .nilmap | .nilfunc | .nilif => true
  | .sl _ _ [] => true
  | _ => false
theorem scal_rel {g g' : Gh} {w w' : World} {x : AV} {v : Value} (h : Rel g w x v) (hs : x.scal = true) : Rel g' w' x v := by
  cases x with
  | dead => exact .dead _
  | bool b => rw [rel_bool h]; exact .bool _
  | kb b => have := rel_bool h.unkb; subst this; exact .kb b
  | int k n => rw [rel_int h]; exact .int _ _
  | str s => rw [rel_str h]; exact .str _
  | nilptr => cases h; exact .nilptr
  | nilmap => cases h; exact .nilmap
  | nilfunc => cases h; exact .nilfunc
  | nilif => cases h; exact .nilif
  | sl nn full es =>
    cases es with
    | cons c es => exact nomatch hs
    | nil =>
      rcases inv_sl h with ⟨_, a, h1, h2, rfl⟩ | ⟨b, o, cap, vs, h0, h1, h2, h3, h4, h5, rfl⟩
      · exact .slnil h1 h2
      · exact .sl vs h0 h1 h2 (fun c hc => nomatch hc) (fun i c j x hi => by simp at hi) (fun i c j x hi => by simp at hi) (fun i c j hi => by simp at hi)
  | _ => exact nomatch hs

def inBlocks (g : Gh) (B : Nat → Prop) : Gh := ⟨fun _ => none, fun _ => none, fun b o => g.stab b o ∧ B b⟩

theorem sl_in {g : Gh} {w : World} {B : Nat → Prop} {nn : Option Bool} {full : Bool} {es : List (List AV)} {v : Value} (h : Rel g w (.sl nn full es) v) (hs : ∀ c ∈ es, ∀ x ∈ c, x.scal = true) (hb : ∀ b o l c, v = .slice (some ⟨b, o, none⟩) l c → c ≠ 0 → B b) :
    Rel (inBlocks g B) w (.sl nn full es) v := by
  rcases inv_sl h with ⟨rfl, a, h1, h2, rfl⟩ | ⟨b, o, cap, vs, h0, h1, h2, h3, h4, h5, rfl⟩
  · exact .slnil h1 h2
  · refine .sl vs h0 h1 h2 h3 (fun i c j x hi hj => (h4 i c j x hi hj).1) (fun i c j x hi hj => scal_rel (h4 i c j x hi hj).2 (hs c (List.mem_of_getElem? hi) x (List.mem_of_getElem? hj))) fun i c j hi hj => ⟨h5 i c j hi hj, hb b o _ _ rfl ?_⟩
    have := (List.getElem?_eq_some_iff.1 hi).1
    omega

/-- what a leaf leads to is the function's own -/
def newL (s : List VObj) : AV → Prop
  | .sall id _ => match getO s id with
    | .arr _ _ _ es _ => ∀ c ∈ es, ∀ x ∈ c, x.scal = true
    | _ => True
  | .sref id _ _ off len => match getO s id with
    | .arr _ _ _ es _ => ∀ c ∈ (es.drop off).take len, ∀ x ∈ c, x.scal = true
    | _ => True
  | .sl _ _ es => es = []
  | _ => True
def newLs (s : List VObj) : List AV → Prop
  | [] => True
  | x :: r => newL s x ∧ newLs s r
theorem newLs_mem {s : List VObj} : ∀ {l : List AV}, newLs s l → ∀ x ∈ l, newL s x
  | [], _, x, h => nomatch h
  | y :: r, h, x, hx => by
    rcases List.mem_cons.1 hx with rfl | hx
    · exact h.1
    · exact newLs_mem h.2 x hx
def new1 (s : List VObj) : AV → Prop
  | .agg cs => newLs s cs
  | .iface _ x => newL s x
  | v => newL s v
def new1s (s : List VObj) : List AV → Prop
  | [] => True
  | x :: r => new1 s x ∧ new1s s r
theorem new1s_mem {s : List VObj} : ∀ {l : List AV}, new1s s l → ∀ x ∈ l, new1 s x
  | [], _, x, h => nomatch h
  | y :: r, h, x, hx => by
    rcases List.mem_cons.1 hx with rfl | hx
    · exact h.1
    · exact new1s_mem h.2 x hx
def newD (s : List VObj) : AV → Prop
  | .tuple cs => new1s s cs
  | .func _ _ _ => False
  | v => new1 s v

section
variable {B : Nat → Prop} {g : Gh} {w : World} {σ : Nat → VObj} {s : List VObj}

theorem newL_rel (hs : RelS B g w σ) {x : AV} {v : Value} (hr : Rel g w x v) (hag : ∀ id ∈ refsOf x, σ id = (getO s id).fzd) (hn : newL s x) : Rel (inBlocks g B) w (nrm s x) v := by
  have hnr := nrm_rel hs hr hag
  have hhdr : ∀ {id ver ver0 : Nat} {h : Value} {b o l c : Nat}, g.hdr id = some (ver0, h) → h = .slice (some ⟨b, o, none⟩) l c → c ≠ 0 → B b := fun {id ver ver0 h b o l c} h1 h2 h3 => by
    subst h2; exact hs.inB id b (.inr ⟨_, o, l, c, h1, h3⟩)
  cases x with
  | sall id ver =>
    simp only [nrm] at hnr ⊢
    simp only [newL] at hn
    cases ho : getO s id with
    | arr ver' esz nn es fz =>
      rw [ho] at hnr hn
      dsimp only at hnr hn ⊢
      split
      · rename_i hb
        rw [hb] at hnr
        refine sl_in hnr hn fun b o l c hv hc => ?_
        obtain ⟨ver0, hd, a, len, cap, h1, h2, h3, h4⟩ := inv_sall hr
        rw [h4] at hv; cases hv
        have hver : ver0 = verO (σ id) := by
          have := hs.obj id
          rw [hag id (by simp [refsOf]), ho] at this ⊢
          obtain ⟨_, _, _, _, hcase⟩ := this
          rcases hcase with ⟨a, k, _⟩ | ⟨b, o, cap, vs, k, _⟩ <;> (rw [h1] at k; cases k; rfl)
        rw [hag id (by simp [refsOf]), ho] at hver
        have hve : ver = ver0 := by rw [hver]; exact Nat.eq_of_beq_eq_true hb
        exact hhdr (ver := ver) h1 (h3 hve).symm hc
      · exact .dead _
    | _ => exact .dead _
  | sref id ver esz off len =>
    simp only [nrm] at hnr ⊢
    simp only [newL] at hn
    cases ho : getO s id with
    | arr ver' esz' nn es fz =>
      rw [ho] at hnr hn
      dsimp only at hnr hn ⊢
      split
      · rename_i hb
        rw [hb] at hnr
        refine sl_in hnr hn fun b o l c hv hc => ?_
        obtain ⟨ver0, hd, a, cap, h1, h2, h3, h4⟩ := inv_sref hr
        rw [h4] at hv; cases hv
        simp only [Bool.and_eq_true] at hb
        have hver : ver0 = verO (σ id) := by
          have := hs.obj id
          rw [hag id (by simp [refsOf]), ho] at this ⊢
          obtain ⟨_, _, _, _, hcase⟩ := this
          rcases hcase with ⟨a, k, _⟩ | ⟨b, o, cap, vs, k, _⟩ <;> (rw [h1] at k; cases k; rfl)
        rw [hag id (by simp [refsOf]), ho] at hver
        have hve : ver = ver0 := by rw [hver]; exact Nat.eq_of_beq_eq_true hb.1.1
        rcases h3 hve with ⟨_, _, _, hz⟩ | ⟨b', o', len0, cap0, o'', q1, q2, q3, q4, q5⟩
        · exact (hc hz).elim
        · cases q2
          have hcz : cap0 ≠ 0 := fun hz => hc (Nat.le_zero.1 (hz ▸ Nat.le_trans (Nat.le_add_left _ _) q4))
          exact hhdr (ver := ver) h1 q1 hcz
      · exact .dead _
    | _ => exact .dead _
  | sl nn full es =>
    simp only [newL] at hn
    subst hn
    exact scal_rel hnr rfl
  | dead => exact .dead _
  | bool b => exact scal_rel hnr rfl
  | kb b => exact scal_rel hnr rfl
  | int k n => exact scal_rel hnr rfl
  | str b => exact scal_rel hnr rfl
  | nilptr => exact scal_rel hnr rfl
  | nilmap => exact scal_rel hnr rfl
  | nilfunc => exact scal_rel hnr rfl
  | nilif => exact scal_rel hnr rfl
  | _ => exact .dead _

theorem new1_rel (hs : RelS B g w σ) {x : AV} {v : Value} (hr : Rel g w x v) (hag : ∀ id ∈ refs1 x, σ id = (getO s id).fzd) (hn : new1 s x) : Rel (inBlocks g B) w (nrm1 s x) v := by
  cases x with
  | agg cs =>
    obtain ⟨vs, h1, h2, rfl⟩ := inv_agg hr
    refine .agg (by simpa using h1) fun i x v hx hv => ?_
    rw [List.getElem?_map] at hx
    cases hi : cs[i]? with
    | none => rw [hi] at hx; exact nomatch hx
    | some y => rw [hi] at hx; cases hx; exact newL_rel hs (h2 i y v hi hv) (fun id hid => hag id (refs_mem (List.mem_of_getElem? hi) hid)) (newLs_mem hn y (List.mem_of_getElem? hi))
  | iface t x => cases hr with | iface h => exact .iface (newL_rel hs h hag hn)
  | _ => exact newL_rel hs hr hag hn
theorem newD_rel (hs : RelS B g w σ) {x : AV} {v : Value} (hr : Rel g w x v) (hag : ∀ id ∈ refsD x, σ id = (getO s id).fzd) (hn : newD s x) : Rel (inBlocks g B) w (nrmD s x) v := by
  cases x with
  | tuple cs =>
    obtain ⟨vs, h1, h2, rfl⟩ := inv_tuple hr
    refine .tuple (by simpa using h1) fun i x v hx hv => ?_
    rw [List.getElem?_map] at hx
    cases hi : cs[i]? with
    | none => rw [hi] at hx; exact nomatch hx
    | some y => rw [hi] at hx; cases hx; exact new1_rel hs (h2 i y v hi hv) (fun id hid => hag id (List.mem_flatMap.2 ⟨y, List.mem_of_getElem? hi, hid⟩)) (new1s_mem hn y (List.mem_of_getElem? hi))
  | func fn a b => exact hn.elim
  | _ => exact new1_rel hs hr hag hn
end

/-- a function's result, in new memory alone -/
def PureNew (P : Program) (fid : FuncId) (args : List AV) (v : AV) : Prop :=
  (∃ fn, P.funcs[fid]? = some fn ∧ fn.body.isSome = true ∧ (fn.name == "runtime.NumGoroutine") = false) ∧
  ∀ (st : Nat → Nat → Prop) (w : World) (vals : Array Value), (∀ b x, st b x → b < w.heap.size) → args.length = vals.size → (∀ (i : Nat) (x : AV) (u : Value), args[i]? = some x → vals[i]? = some u → Rel (stG st) w x u) →
    Calls P fid vals w fun e w' => ∃ st' val, e = .returned val ∧ Ext (fun b => w.heap.size ≤ b) (stG st) w (stG st') w' ∧ (∀ b x, st' b x → b < w'.heap.size) ∧ Rel (inBlocks (stG st') (fun b => w.heap.size ≤ b)) w' v val

theorem PureNew.pure {P : Program} {fid : FuncId} {args : List AV} {v : AV} (h : PureNew P fid args v) (hv : flatD v = true) : PureCall P fid args v := by
  refine ⟨h.1, fun st w vals h1 h2 h3 => Calls.mono (h.2 st w vals h1 h2 h3) fun e w' he => ?_⟩
  obtain ⟨st', val, q1, q2, q3, q4⟩ := he
  exact ⟨st', val, q1, q2, q3, flatD_rel (g := inBlocks (stG st') (fun b => w.heap.size ≤ b)) (g' := stG st') (fun b o h => h.1) q4 hv⟩

/-- no memory behind a value -/
def scalD : AV → Bool
  | .tuple cs => cs.all fun x => match x with
    | .agg ds => ds.all AV.scal
    | x => x.scal
  | .agg ds => ds.all AV.scal
  | x => x.scal
theorem scalD_rel {g g' : Gh} {w : World} {v : AV} {u : Value} (h : Rel g w v u) (hs : scalD v = true) : Rel g' w v u := by
  cases v with
  | agg ds =>
    obtain ⟨vs, h1, h2, rfl⟩ := inv_agg h
    exact .agg h1 fun i x v hx hv => scal_rel (h2 i x v hx hv) (List.all_eq_true.1 hs x (List.mem_of_getElem? hx))
  | tuple cs =>
    obtain ⟨vs, h1, h2, rfl⟩ := inv_tuple h
    refine .tuple h1 fun i x v hx hv => ?_
    have hm := List.all_eq_true.1 hs x (List.mem_of_getElem? hx)
    have hr := h2 i x v hx hv
    cases x with
    | agg ds =>
      obtain ⟨us, q1, q2, rfl⟩ := inv_agg hr
      exact .agg q1 fun i x v hx hv => scal_rel (q2 i x v hx hv) (List.all_eq_true.1 hm x (List.mem_of_getElem? hx))
    | _ => exact scal_rel hr hm
  | _ => exact scal_rel h hs
theorem PureCall.new {P : Program} {fid : FuncId} {args : List AV} {v : AV} (h : PureCall P fid args v) (hv : scalD v = true) : PureNew P fid args v := by
  refine ⟨h.1, fun st w vals h1 h2 h3 => Calls.mono (h.2 st w vals h1 h2 h3) fun e w' he => ?_⟩
  obtain ⟨st', val, q1, q2, q3, q4⟩ := he
  exact ⟨st', val, q1, q2, q3, scalD_rel q4 hv⟩

/-- what the run of such a function must end in -/
def RetRN (E : Env) (rs : List ResultVar) (v : AV) : Exit → List AV → List VObj → Prop
  | .ret, t, s => match resO E rs t s with
    | some r => force2 (nrmD s r) fun r' => newD s r ∧ r' = v
    | none => False
  | .normal, t, s => match resO E rs t s with
    | some r => force2 (nrmD s r) fun r' => newD s r ∧ r' = v
    | none => False
  | _, _, _ => False

section
variable {P : Program} {E : Env}

theorem contractN (hE : E.Fits P) {fid : FuncId} {fn : Func} {args : List AV} {v : AV} (hk : Known P fid fn) (h : RunD P ⟨0, 0⟩ (start fn args) (RetRN E fn.results.toList v)) : PureNew P fid args v := by
  have h := h.run
  obtain ⟨c, hc⟩ := Option.isSome_iff_exists.1 hk.body
  refine ⟨⟨fn, hk.funcs, hk.body, hk.name⟩, fun st w vals hsb hl hrel => ?_⟩
  have hfrm : Frm ⟨0, 0⟩ (fun b => w.heap.size ≤ b) (stG st) w := ⟨fun _ h => h, fun _ _ => rfl, fun _ _ => rfl⟩
  have hS : StRel (fun b => w.heap.size ≤ b) (stG st) w (stG st) w (args ++ List.replicate (fn.ntmps - args.length) .dead) [] { tmps := vals ++ Array.replicate (fn.ntmps - vals.size) undef, defers := [] } := by
    refine ⟨Ext.refl _ _ _, ⟨fun id => ⟨rfl, rfl⟩, ?_, ?_, hsb⟩, ⟨by simp [hl], fun i x u hx hu => ?_⟩, rfl⟩
    · rintro id id' b (⟨o, h⟩ | ⟨ver, o, len, cap, h, _⟩) _ <;> exact nomatch h
    · rintro id b (⟨o, h⟩ | ⟨ver, o, len, cap, h, _⟩) <;> exact nomatch h
    · rw [List.getElem?_append] at hx
      rw [Array.getElem?_append] at hu
      by_cases hi : i < args.length
      · rw [if_pos hi] at hx
        rw [if_pos (by omega)] at hu
        exact hrel i x u hx hu
      · rw [if_neg hi, List.getElem?_replicate] at hx
        split at hx
        · cases hx; exact .dead _
        · exact nomatch hx
  have hw := run_elim (t := args ++ List.replicate (fn.ntmps - args.length) .dead) (s := []) (todo := [.code c]) (by rw [start, hc] at h; exact h) rfl hfrm hS
  refine calls_of_wp hk.funcs hc (wp_mono (show c.wp P _ _ _ from hw) fun e a w' he => ?_)
  have key : ∀ e, e = .ret ∨ e = .normal → after P (conc (fun b => w.heap.size ≤ b) (stG st) w (RetRN E fn.results.toList v)) [] e a w' →
      a.defers = [] ∧ ∃ u, (results fn a.tmps).run P w' = .ok u w' ∧ ∃ st' val, Ending.returned u = .returned val ∧ Ext (fun b => w.heap.size ≤ b) (stG st) w (stG st') w' ∧ (∀ b x, st' b x → b < w'.heap.size) ∧ Rel (inBlocks (stG st') (fun b => w.heap.size ≤ b)) w' v val := by
    rintro e hee ⟨t, s, g, hS', hR⟩
    have hR : ∃ r, resO E fn.results.toList t s = some r ∧ newD s r ∧ nrmD s r = v := by
      rcases hee with rfl | rfl
      all_goals
        simp only [RetRN, force2_eq] at hR
        split at hR
        · rename_i r hr; exact ⟨r, hr, hR⟩
        · exact hR.elim
    obtain ⟨r, hr, hnew, hR⟩ := hR
    obtain ⟨u, hrun, hval⟩ := run_results hE hS'.rs hS'.rt rfl hr
    refine ⟨hS'.defers, u, hrun, ?_⟩
    obtain ⟨g1, e1, r1, l1, k1⟩ := freeze_list (w := w') (g := g) (s := s) (refsD r) hS'.rs (fun id _ => rfl)
    have hnv := newD_rel (s := s) r1 (hval.mono e1) (fun id hid => by simp only [over, if_pos hid, getO_freeze]) hnew
    rw [hR] at hnv
    have hE : Ext (fun b => w.heap.size ≤ b) (stG st) w (stG g1.stab) w' :=
      { hS'.ext.trans e1 with
        stab := (hS'.ext.trans e1).stab
        keepS := (hS'.ext.trans e1).keepS
        loc := fun _ _ h => nomatch h
        hdr := fun _ _ _ h => nomatch h }
    exact ⟨g1.stab, _, rfl, hE, r1.sb, hnv⟩
  cases e with
  | normal => exact key _ (.inr rfl) he
  | ret => exact key _ (.inl rfl) he
  | _ => obtain ⟨t, s, g, _, hR⟩ := he; exact hR.elim

/-- a call of such a function: nothing is frozen -/
theorem vcall_new {fid : FuncId} {args : List AV} {s : List VObj} {R : AV → List VObj → FP → Prop} {v : AV} (hc : PureNew P fid (args.map (nrmD s)) v) (hv : flatD v = true)
    (hR : R v s ⟨args.flatMap refsD, []⟩) : VCall P fid args s R := by
  unfold VCall
  obtain ⟨hfn, hc⟩ := hc
  refine ⟨v, _, _, hR, fun id hid => rfl, hfn, fun B g w vals σ hB hl hrel hag hs => ?_⟩
  rw [over_nil]
  obtain ⟨g1, e1, r1, l1, k1⟩ := freeze_list (w := w) (g := g) (args.flatMap refsD) hs (fun id hid => hag id (.inl hid))
  have hcall := hc g1.stab w vals (fun b x h => r1.sb b x h) (by simpa using hl) (fun i x u hx hu => by
    rw [List.getElem?_map] at hx
    cases hi : args[i]? with
    | none => rw [hi] at hx; exact nomatch hx
    | some y =>
      rw [hi] at hx; cases hx
      have := nrmD_rel (s := s) r1 ((hrel i y u hi hu).mono e1) fun id hid => by
        have hm : id ∈ args.flatMap refsD := List.mem_flatMap.2 ⟨y, List.mem_of_getElem? hi, hid⟩
        simp only [over, if_pos hm, getO_freeze]
      exact flatD_rel (g := g1) (g' := stG g1.stab) (fun _ _ h => h) this (nrmD_flat s y))
  refine Calls.mono hcall fun e w' he => ?_
  obtain ⟨st', val, rfl, e2, hsb, hval⟩ := he
  let g2 : Gh := { g with stab := fun b o => g.stab b o ∨ (st' b o ∧ w.heap.size ≤ b) }
  have hold : ∀ b o, b < w.heap.size → (g2.stab b o ↔ g.stab b o) := fun b o hb => ⟨fun h => h.elim id fun h => by omega, .inl⟩
  have e3 : Ext B g w g2 w' :=
    { size := e2.size
      stab := fun b o h => .inl h
      same := fun b o h => e2.same b o (e1.stab b o h)
      keep := fun b hb => e2.keep b fun h => hb (hB b h)
      keepS := fun b o hb h => h.elim id fun h => (hb (hB b h.2)).elim
      loc := fun _ _ h => h
      hdr := fun _ ver h e => ⟨ver, h, e, Nat.le_refl _, fun _ => rfl⟩
      low := e2.low }
  refine ⟨g2, val, rfl, e3, ?_, flatD_rel (g := inBlocks (stG st') (fun b => w.heap.size ≤ b)) (g' := g2) (fun b o h => .inr h) hval hv⟩
  refine ⟨fun id => (hs.obj id).keep e3 rfl rfl fun b hk => ⟨e2.keep b (by have := hs.lt hk; omega), fun x => hold b x (hs.lt hk)⟩, hs.apart, hs.inB, fun b x h => ?_⟩
  rcases h with h | h
  · have := hs.sb b x h; have := e2.size; omega
  · exact hsb b x h.1

theorem call_new {fid : FuncId} {args args' : List AV} {s : List VObj} {R : AV → List VObj → FP → Prop} {v : AV} (hc : PureNew P fid args' v) (ha : args.map (nrmD s) = args') (hv : flatD v = true)
    (hR : R v s ⟨args.flatMap refsD, []⟩) : VCall P fid args s R := vcall_new (ha ▸ hc) hv hR
/-- .. of a function whose result has no memory behind it -/
theorem call_scal {fid : FuncId} {args args' : List AV} {s : List VObj} {R : AV → List VObj → FP → Prop} {v : AV} (hc : PureCall P fid args' v) (ha : args.map (nrmD s) = args') (hv : flatD v = true) (hs : scalD v = true)
    (hR : R v s ⟨args.flatMap refsD, []⟩) : VCall P fid args s R := vcall_new (ha ▸ hc.new hs) hv hR

end
end Go.Proofs.YtnlelalkkabihaaDoor.Vm
/- Weaker states: an array object's slice as a window on all of it. -/
set_option linter.all false
namespace Go.Proofs.YtnlelalkkabihaaDoor.Vm
open Go
/- Branches, their conditions told. -/
theorem br_dec {p A B : Prop} [Decidable p] (h1 : p → A) (h2 : ¬ p → B) : (decide p = true → A) ∧ (decide p = false → B) := ⟨fun h => h1 (of_decide_eq_true h), fun h => h2 (of_decide_eq_false h)⟩
theorem br_ndec {p A B : Prop} [Decidable p] (h1 : ¬ p → A) (h2 : p → B) : ((!decide p) = true → A) ∧ ((!decide p) = false → B) := ⟨fun h => h1 (by simpa using h), fun h => h2 (by simpa using h)⟩
theorem br_not {b : Bool} {A B : Prop} (h1 : b = false → A) (h2 : b = true → B) : ((!b) = true → A) ∧ ((!b) = false → B) := ⟨fun h => h1 (by simpa using h), fun h => h2 (by simpa using h)⟩

section
variable {P : Program} {N : NN} {R : Exit → List AV → List VObj → Prop}

theorem weak_sref {k id ver esz : Nat} {nn : Option Bool} {es : List (List AV)} {fz : Bool} {t : List AV} {s : List VObj} (hk : t[k]? = some (.sall id ver)) (ho : getO s id = .arr ver esz nn es fz) : Weak N t s (t.set k (.sref id ver esz 0 es.length)) s := by
  intro B g0 w0 hf g a w hS
  refine ⟨g, hS.ext, hS.rs, ⟨by rw [List.length_set]; exact hS.rt.size, fun i x v hx hv => ?_⟩, hS.defers⟩
  rw [List.getElem?_set] at hx
  split at hx
  · rename_i hki
    subst hki
    split at hx
    · cases hx
      have hr := hS.rt.rel k _ v hk hv
      obtain ⟨ver0, hd, ad, len, cap, r1, r2, r3, rfl⟩ := inv_sall hr
      have hobj := hS.rs.obj id
      rw [ho] at hobj
      obtain ⟨_, _, _, _, hcase⟩ := hobj
      rcases hcase with ⟨a', k1, rfl, k3, k4⟩ | ⟨b, o, cap', vs, k1, k0, k2, k3, _⟩
      · have k1' := k1
        rw [k1] at r1; cases r1
        have r3 := r3 rfl; cases r3
        exact .sref k1' (Nat.le_refl _) fun _ => .inl ⟨rfl, rfl, rfl, rfl⟩
      · have k1' := k1
        rw [k1] at r1; cases r1
        have r3 := r3 rfl; cases r3
        exact .sref k1' (Nat.le_refl _) fun _ => .inr ⟨b, o, _, _, o, rfl, rfl, fun _ => by omega, by omega, k3⟩
    · exact nomatch hx
  · exact hS.rt.rel i x v hx hv

theorem loop_srefD {k id ver esz : Nat} {nn : Option Bool} {es : List (List AV)} {fz : Bool} {t : List AV} {s : List VObj} {body : Code} {todo : List VItem} (hk : t[k]? = some (.sall id ver)) (ho : getO s id = .arr ver esz nn es fz)
    (h : LoopRunD P N body ⟨t.set k (.sref id ver esz 0 es.length), s, todo⟩ R) : LoopRunD P N body ⟨t, s, todo⟩ R := by
  unfold LoopRunD at h ⊢
  exact h.map fun R' => run_weak (weak_sref hk ho) (fun x r e => by cases e; rfl)

/-- a loop's state, with what is no longer looked at let go -/
theorem loop_canonD (keep : List Nat) (n : Nat) {t : List AV} {s : List VObj} {body : Code} {todo : List VItem} (hl : N.l ≤ n) (hn : N.v ≤ n)
    (h : forceC (canonT N.v keep n s t) fun t' => forceS (canonS N.v n s) fun s' => LoopRunD P N body ⟨t', s', todo⟩ R) : LoopRunD P N body ⟨t, s, todo⟩ R := by
  rw [forceC_eq, forceS_eq] at h
  unfold LoopRunD at h ⊢
  exact h.map fun R' => run_weak (weak_canon keep hl hn rfl rfl) (fun x r e => by cases e; rfl)
end
end Go.Proofs.YtnlelalkkabihaaDoor.Vm
/- The abstract machine, all of it. -/
