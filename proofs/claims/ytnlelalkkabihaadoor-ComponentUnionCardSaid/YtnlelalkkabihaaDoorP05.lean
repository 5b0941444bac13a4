/- A box takes another one's place: loops whose variable is made anew in each round. -/
import Derived.Test.YtnlelalkkabihaaDoorP03
import Derived.Test.YtnlelalkkabihaaDoorP04
import Derived.Test.YtnlelalkkabihaaDoorRows
import Derived.Test.YtnlelalkkabihaaDoorCards
import Derived.Test.YtnlelalkkabihaaDoorTie
import Derived.Test.YtnlelalkkabihaaDoorP02
import Derived.JoinedCond
import Derived.SizedLaws
import Derived.ProofKit
import Derived.OpenShut
import Derived.LaidMore
import Derived.Lay
import Derived.SevenTiedAt
import Derived.Stop.Joined
set_option linter.all false
namespace Go.Proofs.YtnlelalkkabihaaDoor.Vm
open Go

def mvV (h m : Nat) : AV → Bool
  | .ptr id _ => !(Nat.beq id h) && !(Nat.beq id m)
  | .sall .. | .sref .. | .eptr .. | .kb _ => true
  | x => x.flat
def mvT (k h m : Nat) : Nat → List AV → Bool
  | _, [] => true
  | i, x :: xs => (Nat.beq i k || mvV h m x) && mvT k h m (i + 1) xs
def mvC (h m : Nat) : VObj → Bool
  | .box cs _ => cs.all (mvV h m)
  | _ => true
def mvO (h m : Nat) : Nat → List VObj → Bool
  | _, [] => true
  | i, x :: xs => (Nat.beq i h || mvC h m x) && mvO h m (i + 1) xs

theorem mvT_at {k h m : Nat} : ∀ {t : List AV} {i0 i : Nat} {x : AV}, mvT k h m i0 t = true → t[i]? = some x → i0 + i ≠ k → mvV h m x = true := by
  intro t
  induction t with
  | nil => intro i0 i x _ hx; exact nomatch hx
  | cons y t ih =>
    intro i0 i x hm hx hk
    simp only [mvT, Bool.and_eq_true, Bool.or_eq_true] at hm
    cases i with
    | zero =>
      cases hx
      rcases hm.1 with e | e
      · exact (hk (by simpa using Nat.eq_of_beq_eq_true e)).elim
      · exact e
    | succ i => exact ih hm.2 (by simpa using hx) (by omega)
theorem mvO_at {h m : Nat} : ∀ {s : List VObj} {i0 i : Nat} {cs : List AV} {fz : Bool}, mvO h m i0 s = true → getO s i = .box cs fz → i0 + i ≠ h → ∀ x ∈ cs, mvV h m x = true := by
  intro s
  induction s with
  | nil => intro i0 i cs fz _ hx; simp [getO] at hx
  | cons y s ih =>
    intro i0 i cs fz hm hx hk
    simp only [mvO, Bool.and_eq_true, Bool.or_eq_true] at hm
    cases i with
    | zero =>
      have hx : y = .box cs fz := hx
      subst hx
      rcases hm.1 with e | e
      · exact (hk (by simpa using Nat.eq_of_beq_eq_true e)).elim
      · simpa [mvC] using e
    | succ i => exact ih hm.2 hx (by omega)

def mvG (h m : Nat) (g : Gh) : Gh := { g with loc := fun id => if id = h then g.loc m else if id = m then none else g.loc id }

section
variable {h m : Nat} {g : Gh} {w : World} {B : Nat → Prop} {s : List VObj}

theorem mv_rel {x : AV} {v : Value} (hr : Rel g w x v) (hx : mvV h m x = true) : Rel (mvG h m g) w x v := by
  cases x with
  | ptr id off =>
    obtain ⟨b, o, hl, rfl⟩ := inv_ptr hr
    simp only [mvV, Bool.and_eq_true, Bool.not_eq_true'] at hx
    have h1 : id ≠ h := fun e => by rw [e, Nat.beq_refl] at hx; exact nomatch hx.1
    have h2 : id ≠ m := fun e => by rw [e, Nat.beq_refl] at hx; exact nomatch hx.2
    exact .ptr (by simp only [mvG, if_neg h1, if_neg h2]; exact hl)
  | sall id ver =>
    obtain ⟨ver0, hd, ad, len, cap, r1, r2, r3, rfl⟩ := inv_sall hr
    exact .sall (g := mvG h m g) r1 r2 r3
  | sref id ver esz off len =>
    obtain ⟨ver0, hd, a, cap, r1, r2, r3, rfl⟩ := inv_sref hr
    exact .sref (g := mvG h m g) r1 r2 r3
  | eptr id ver esz i off =>
    obtain ⟨ver0, hd, a, r1, r2, r3, rfl⟩ := inv_eptr hr
    exact .eptr (g := mvG h m g) r1 r2 r3
  | kb b => cases hr with | kb => exact .kb b
  | _ => exact Rel.flatG (g := g) (g' := mvG h m g) (fun _ _ e => e) hr hx

def mvI (h m id : Nat) : Nat := if id = h then m else id
theorem mv_blk {id b : Nat} (hh : g.hdr h = none) (hm : g.hdr m = none) (hb : blk (mvG h m g) id b) : blk g (mvI h m id) b ∧ id ≠ m ∨ blk g (mvI h m id) b ∧ h = m := by
  rcases hb with ⟨o, e⟩ | ⟨ver, o, len, cap, e, hc⟩
  · simp only [mvG] at e
    split at e
    · rename_i hi; subst hi
      by_cases hq : id = m
      · right; exact ⟨.inl ⟨o, by rw [mvI, if_pos rfl]; exact e⟩, hq⟩
      · left; exact ⟨.inl ⟨o, by rw [mvI, if_pos rfl]; exact e⟩, hq⟩
    · split at e
      · exact nomatch e
      · rename_i h1 h2
        left; exact ⟨.inl ⟨o, by rw [mvI, if_neg h1]; exact e⟩, h2⟩
  · have e : g.hdr id = some (ver, .slice (some ⟨b, o, none⟩) len cap) := e
    have h1 : id ≠ h := fun q => by rw [q, hh] at e; exact nomatch e
    have h2 : id ≠ m := fun q => by rw [q, hm] at e; exact nomatch e
    left; exact ⟨.inr ⟨ver, o, len, cap, by rw [mvI, if_neg h1]; exact e, hc⟩, h2⟩

theorem mv_relS {cs c0 : List AV} {fz fz0 : Bool} (hne : h ≠ m) (ho : getO s m = .box cs fz) (ho0 : getO s h = .box c0 fz0) (hok : mvO h m 0 s = true) (hs : RelS B g w (getO s)) :
    RelS B (mvG h m g) w (getO (setO (setO s h (.box cs fz)) m .gone)) := by
  have obm := hs.obj m
  rw [ho] at obm
  have obh := hs.obj h
  rw [ho0] at obh
  have hh := obh.1
  have hm := obm.1
  have hbk : ∀ {id b}, blk (mvG h m g) id b → blk g (mvI h m id) b ∧ id ≠ m := fun hb => by
    rcases mv_blk hh hm hb with q | q
    · exact q
    · exact (hne q.2).elim
  refine ⟨fun id => ?_, fun id id' b q q' => ?_, fun id b q => hs.inB _ b (hbk q).1, hs.sb⟩
  · rw [getO_setO, getO_setO]
    by_cases h1 : id = m
    · rw [if_pos h1]
      subst h1
      exact ⟨by simp only [mvG, if_neg (Ne.symm hne)]; rfl, hm⟩
    rw [if_neg h1]
    by_cases h2 : id = h
    · rw [if_pos h2]
      subst h2
      obtain ⟨_, b, o, vs, k2, k3, k4, k5, k6, k7⟩ := obm
      refine ⟨hh, b, o, vs, by simp only [mvG, if_true]; exact k2, k3, k4, fun j c hj => ⟨(k5 j c hj).1, mv_rel (k5 j c hj).2 (mvO_at hok ho (by omega) c (List.mem_of_getElem? hj))⟩, k6, k7⟩
    rw [if_neg h2]
    have hobj := hs.obj id
    have hloc : (mvG h m g).loc id = g.loc id := by simp only [mvG, if_neg h1, if_neg h2]
    cases hoi : getO s id with
    | gone => rw [hoi] at hobj; exact ⟨hloc.trans hobj.1, hobj.2⟩
    | map kt vt es =>
      rw [hoi] at hobj
      obtain ⟨k1, b, clock, en, k2, k3, k4, k5, k6, k7, k8⟩ := hobj
      refine ⟨k1, b, clock, en, hloc.trans k2, k3, k4, k5, fun i x e hx he => ?_, k7, k8⟩
      have hf := k7 x (List.mem_of_getElem? hx)
      exact ⟨(k6 i x e hx he).1.flatG (g := g) (g' := mvG h m g) (fun _ _ h => h) hf.1, (k6 i x e hx he).2.flatG (g := g) (g' := mvG h m g) (fun _ _ h => h) hf.2⟩
    | box cs' fz' =>
      rw [hoi] at hobj
      obtain ⟨k1, b, o, vs, k2, k3, k4, k5, k6, k7⟩ := hobj
      exact ⟨k1, b, o, vs, hloc.trans k2, k3, k4, fun j c hj => ⟨(k5 j c hj).1, mv_rel (k5 j c hj).2 (mvO_at hok hoi (by omega) c (List.mem_of_getElem? hj))⟩, k6, k7⟩
    | arr ver esz nn es fz' =>
      rw [hoi] at hobj
      obtain ⟨k1, k2, k3, k4, hcase⟩ := hobj
      refine ⟨hloc.trans k1, k2, k3, k4, ?_⟩
      rcases hcase with ⟨a, q1, q2, q3⟩ | ⟨b, o, cap, vs, q1, q0, q2, q3, q4, q5, q6, q7, q8, q9⟩
      · exact .inl ⟨a, q1, q2, q3⟩
      · exact .inr ⟨b, o, cap, vs, q1, q0, q2, q3, q4, q5, q6, fun i c j x hi hj => ⟨(q7 i c j x hi hj).1, (q7 i c j x hi hj).2.pureG (g := g) (g' := mvG h m g) (fun _ _ h => h) (k2 c (List.mem_of_getElem? hi) x (List.mem_of_getElem? hj))⟩, q8, q9⟩
  · obtain ⟨q1, n1⟩ := hbk q
    obtain ⟨q2, n2⟩ := hbk q'
    have := hs.apart _ _ b q1 q2
    simp only [mvI] at this
    split at this <;> split at this <;> omega
end

section
variable {P : Program} {N : NN} {R : Exit → List AV → List VObj → Prop}

theorem weak_move {k h m : Nat} {t : List AV} {s : List VObj} {cs c0 : List AV} {fz fz0 : Bool} (hh : N.l ≤ h) (hm : N.l ≤ m) (hne : h ≠ m) (hk : t[k]? = some (.ptr m 0)) (ho : getO s m = .box cs fz) (ho0 : getO s h = .box c0 fz0)
    (hok : mvO h m 0 s = true) (hot : mvT k h m 0 t = true) : Weak N t s (t.set k (.ptr h 0)) (setO (setO s h (.box cs fz)) m .gone) := by
  intro B g0 w0 hf g a w hS
  refine ⟨mvG h m g, ?_, mv_relS hne ho ho0 hok hS.rs, ⟨by rw [List.length_set]; exact hS.rt.size, fun i x v hx hv => ?_⟩, hS.defers⟩
  · exact { hS.ext with
      stab := hS.ext.stab
      keepS := hS.ext.keepS
      loc := fun id x e => by
        have hid : id < N.l := by
          rcases Nat.lt_or_ge id N.l with h' | h'
          · exact h'
          · rw [hf.ownl id h'] at e; exact nomatch e
        simp only [mvG, if_neg (show id ≠ h by omega), if_neg (show id ≠ m by omega)]
        exact hS.ext.loc id x e
      hdr := hS.ext.hdr }
  · rw [List.getElem?_set] at hx
    split at hx
    · rename_i hki
      subst hki
      split at hx
      · cases hx
        obtain ⟨b, o, hl, rfl⟩ := inv_ptr (hS.rt.rel k _ v hk hv)
        exact .ptr (by simp only [mvG, if_true]; exact hl)
      · exact nomatch hx
    · rename_i hki
      exact mv_rel (hS.rt.rel i x v hx hv) (mvT_at hot hx (by omega))

/-- the round's end: the variable of slot k, made anew, takes its old place h -/
def mvEnd (N : NN) (keep : List Nat) (n k h : Nat) (t : List AV) (s : List VObj) (again : List AV → List VObj → Prop) : Prop :=
  match t.getD k .dead with
  | .ptr m 0 => Nat.blt h m = true ∧ forceC (canonT N.v keep (m + 1) s t) fun t1 => forceS (canonS N.v (m + 1) s) fun s1 =>
      match t1[k]?, getO s1 m, getO s1 h with
      | some (.ptr m' 0), .box cs fz, .box _ _ => Nat.beq m m' = true ∧ mvO h m 0 s1 = true ∧ mvT k h m 0 t1 = true ∧
          forceC (canonT N.v keep n (setO (setO s1 h (.box cs fz)) m .gone) (t1.set k (.ptr h 0))) fun t2 => forceS (canonS N.v n (setO (setO s1 h (.box cs fz)) m .gone)) fun s2 => again t2 s2
      | _, _, _ => False
  | _ => False
def LoopRM (P : Program) (N : NN) (todo : List VItem) (R : Exit → List AV → List VObj → Prop) (keep : List Nat) (n k h : Nat) (again : List AV → List VObj → Prop) : Exit → List AV → List VObj → Prop
  | .normal, t, s => mvEnd N keep n k h t s again
  | .exit id, t, s => match popTo id todo with
    | some r => RunD P N ⟨t, s, r⟩ R
    | none => R (.exit id) t s
  | .ret, t, s => R .ret t s
  | _, _, _ => False

theorem mvEnd_weak {keep : List Nat} {n k h : Nat} {t : List AV} {s : List VObj} {again : List AV → List VObj → Prop} (hl : N.l ≤ n) (hn : N.v ≤ n) (hh : N.l ≤ h) (hv : N.v ≤ h) (e : mvEnd N keep n k h t s again) : ∃ t' s', again t' s' ∧ Weak N t s t' s' := by
  unfold mvEnd at e
  split at e
  · rename_i m _
    rw [forceC_eq, forceS_eq] at e
    obtain ⟨e1, e⟩ := e
    have hlt : h < m := Nat.le_of_ble_eq_true e1
    split at e
    · rename_i m' cs fz c0 fz0 h1 h2 h3
      obtain ⟨e2, e3, e4, e⟩ := e
      have := Nat.eq_of_beq_eq_true e2
      subst this
      rw [forceC_eq, forceS_eq] at e
      exact ⟨_, _, e, ((weak_canon (n := m + 1) keep (by omega) (by omega) rfl rfl).trans (weak_move hh (by omega) (by omega) h1 h2 h3 e3 e4)).trans (weak_canon (n := n) keep hl hn rfl rfl)⟩
    · exact e.elim
  · exact e.elim

theorem loop_moveD {ι : Type} (I : ι → Prop) (keep : List Nat) (n k h : Nat) (U : ι → List (Nat × AV)) (V : ι → List (Nat × VObj)) (μ : ι → Nat) (i0 : ι) {t : List AV} {s : List VObj} {body : Code} {todo : List VItem} (hl : N.l ≤ n) (hn : N.v ≤ n) (hh : N.l ≤ h) (hv : N.v ≤ h)
    (hb : forceC (canonT N.v keep n s t) fun t0 => forceS (canonS N.v n s) fun s0 => updT t0 (U i0) = t0 ∧ updS s0 (V i0) = s0 ∧ I i0 ∧ ∀ i, I i → RunD P N ⟨updT t0 (U i), updS s0 (V i), [.code body]⟩
      (LoopRM P N todo R keep n k h fun t' s' => ∃ j, I j ∧ μ j < μ i ∧ t' = updT t0 (U j) ∧ s' = updS s0 (V j))) : LoopRunD P N body ⟨t, s, todo⟩ R := by
  rw [forceC_eq, forceS_eq] at hb
  obtain ⟨h0, h1, hI, hb⟩ := hb
  refine loop_ruleD (ι := { i : ι // I i }) (fun i => updT (canonT N.v keep n s t) (U i.1)) (fun i => updS (canonS N.v n s) (V i.1)) (fun i => μ i.1) ⟨i0, hI⟩ (weak_canon keep hl hn h0.symm h1.symm) fun i => (hb i.1 i.2).mono fun e t' s' q => ?_
  cases e with
  | normal =>
    obtain ⟨t2, s2, ⟨j, q0, q1, q2, q3⟩, hw⟩ := mvEnd_weak hl hn hh hv (show mvEnd N keep n k h t' s' _ from q)
    subst q2; subst q3
    exact ⟨⟨j, q0⟩, q1, hw⟩
  | _ => exact q
end
end Go.Proofs.YtnlelalkkabihaaDoor.Vm
/- Contracts: components' arcs. -/
set_option linter.all false
namespace Go.Proofs.YtnlelalkkabihaaDoor.Vm
open Go
set_option maxRecDepth 100000
set_option maxHeartbeats 4000000

/-- of an arc, by its number -/
def Comp.arcN (t : Topology) (c : Comp) (a : Nat) : Bool := c.has ((a / 2 : Nat) : Int) (t.links.getD (a / 2) default)
theorem arcN_eq (t : Topology) (c : Comp) (a : Nat) : c.arc t (a : Int) = c.arcN t a := by
  have e : ((a : Int) / 2) = ((a / 2 : Nat) : Int) := by omega
  simp only [Comp.arc, Comp.arcN, Topology.at_, e, Int.toNat_natCast]
theorem within10_c (t : Topology) (c d : Comp) : PureCall Tryd.prog F.ref10_Within [.agg t.enc, .agg c.enc, .agg d.enc] (.bool (withinB t c d)) := by
  refine contractS fits K.ref10_Within ?_
  have hlm : (t.links.map Link.enc).length = t.links.length := List.length_map ..
  repeat' (first
      | ((with_reducible refine step ?_); conv => whnf) | ((with_reducible refine br_dec (fun h => ?_) (fun h => ?_)) <;> try (exfalso; omega)) | ((with_reducible refine br_ndec (fun h => ?_) (fun h => ?_)) <;> try (exfalso; omega)) | (with_reducible refine br_not (fun h => ?_) (fun h => ?_)) | (with_reducible refine And.intro (fun h => ?_) (fun h => ?_))
      | (refine call_pure (comp10Valid_c t _) rfl rfl ?_; conv => whnf)
      | fail)
  · simp only [withinB, *, Bool.and_false, Bool.false_and]
  · simp only [withinB, *, Bool.and_false, Bool.false_and]
  · have hll := valid_links (validC_links ‹c.valid t = true›)
    refine loop_invS (fun i => i ≤ 2 * t.links.length ∧ ∀ k < i, (!(c.arc t (k : Nat)) || d.arc t (k : Nat)) = true) [3, 4, 5, 7] 3 (fun i => [(7, ai i)]) (fun _ => []) (fun i => 2 * t.links.length - i) 0 (by decide) (by decide) ?_
    conv => whnf
    refine ⟨rfl, rfl, ⟨by omega, nofun⟩, fun i ⟨hi, hp⟩ => ?_⟩
    have hw2 : IntKind.i64.wrap (2 * ((t.links.map Link.enc).length : Int)) = 2 * t.links.length := by rw [hlm, wrap_in (by omega)]
    repeat' (first
      | ((with_reducible refine step ?_); conv => whnf) | ((with_reducible refine br_dec (fun h => ?_) (fun h => ?_)) <;> try (exfalso; omega)) | ((with_reducible refine br_ndec (fun h => ?_) (fun h => ?_)) <;> try (exfalso; omega)) | (with_reducible refine br_not (fun h => ?_) (fun h => ?_)) | (with_reducible refine And.intro (fun h => ?_) (fun h => ?_))
      | (have hlt : i < 2 * t.links.length := (by omega); refine call_pure (compOf10_c t _ (i : Int) (by omega) (by omega) (by omega)) rfl rfl ?_; conv => whnf)
      | fail)
    · rw [show withinB t c d = false by
        simp only [withinB, Bool.and_eq_false_iff]; right
        refine range_no (i := i / 2) (by omega) ?_
        simp only [arcN_eq, Comp.arcN] at *
        simp only [*]; rfl]
    · exact ⟨i + 1, ⟨by omega, succ_all hp (by simp [*])⟩, by omega, by rw [wrap_succ (by omega)]; rfl, rfl⟩
    · exact ⟨i + 1, ⟨by omega, succ_all hp (by simp [*])⟩, by omega, by rw [wrap_succ (by omega)]; rfl, rfl⟩
    · rw [show withinB t c d = true by
        simp only [withinB, Bool.and_eq_true]
        refine ⟨⟨by assumption, by assumption⟩, ?_⟩
        refine range_yes (i := t.links.length) (by omega) fun k hk => ?_
        have := hp (2 * k) (by omega)
        simp only [arcN_eq, Comp.arcN, show 2 * k / 2 = k by omega] at this
        exact this]

def maskF (n : Nat) (f : Nat → Bool) : List Bool := (List.range n).map f
def eMask (n : Nat) (f : Nat → Bool) : List (List AV) := (List.range n).map fun a => [.bool (f a)]
theorem eMask_eq (n : Nat) (f : Nat → Bool) : (maskF n f).map eBool = eMask n f := by simp [maskF, eMask, eBool]
theorem eMask_len (n : Nat) (f : Nat → Bool) : (eMask n f).length = n := by simp [eMask]
theorem eMask_zero (n : Nat) : eMask n (fun _ => false) = List.replicate n [.bool false] := by simp [eMask, List.map_const']
theorem eMask_get {n a : Nat} (f : Nat → Bool) (h : a < n) : (eMask n f)[a]? = some [.bool (f a)] := by simp [eMask, h]
theorem eMask_set (n a : Nat) (f : Nat → Bool) : (eMask n f).set a [.bool true] = eMask n (fun k => f k || decide (k = a)) := by
  apply List.ext_getElem?
  intro k
  rw [List.getElem?_set]
  by_cases hk : k < n
  · rw [eMask_get _ hk, eMask_get _ hk, eMask_len]
    by_cases e : a = k
    · subst e; rw [if_pos rfl, if_pos hk]; simp
    · rw [if_neg e]; simp [show ¬ k = a by omega]
  · have h1 : (eMask n f)[k]? = none := List.getElem?_eq_none (by rw [eMask_len]; omega)
    have h2 : (eMask n (fun k => f k || decide (k = a)))[k]? = none := List.getElem?_eq_none (by rw [eMask_len]; omega)
    rw [h1, h2, eMask_len]
    split
    · split
      · omega
      · rfl
    · rfl
theorem eMask_congr {n : Nat} {f g : Nat → Bool} (h : ∀ a, a < n → f a = g a) : eMask n f = eMask n g := by
  unfold eMask; apply List.map_congr_left; intro a ha; rw [h a (List.mem_range.1 ha)]

def unionB (t : Topology) (cs : List Comp) : List Bool × Int :=
  if t.valid = true ∧ cs.all (·.valid t) = true then (maskF (2 * t.links.length) fun a => cs.any fun c => c.arcN t a, 0) else ([], 1)
theorem all_no {cs : List Comp} {t : Topology} {j : Nat} (hj : j < cs.length) (h : (cs[j]).valid t = false) : cs.all (·.valid t) = false := by
  rw [List.all_eq_false]; exact ⟨cs[j], List.getElem_mem hj, by simp [h]⟩
theorem take_any {cs : List Comp} {t : Topology} {j : Nat} (hj : j < cs.length) (a : Nat) : (cs.take (j + 1)).any (fun c => c.arcN t a) = ((cs.take j).any (fun c => c.arcN t a) || (cs[j]).arcN t a) := by
  rw [List.take_succ_eq_append_getElem hj, List.any_append]; simp
theorem all_take {cs : List Comp} {t : Topology} {j : Nat} (hj : j < cs.length) (h : (cs.take j).all (·.valid t) = true) (h1 : (cs[j]).valid t = true) : (cs.take (j + 1)).all (·.valid t) = true := by
  rw [List.take_succ_eq_append_getElem hj, List.all_append, h]; simp [h1]

theorem arcN_has {t : Topology} {c : Comp} {i a : Nat} (hi : i < t.links.length) (ha : a / 2 = i) {b : Bool} (h : c.has (i : Int) t.links[i] = b) : c.arcN t a = b := by
  rw [Comp.arcN, ha, getD_at hi]; exact h
theorem mask_yes {t : Topology} {c : Comp} {X : Nat → Bool} {i : Nat} (hi : i < t.links.length) (h : c.has (i : Int) t.links[i] = true) (a : Nat) :
    (((X a || (decide (a / 2 < i) && c.arcN t a)) || decide (a = 2 * i)) || decide (a = 2 * i + 1)) = (X a || (decide (a / 2 < i + 1) && c.arcN t a)) := by
  by_cases e : a / 2 = i
  · rw [arcN_has hi e h, decide_eq_true (show a / 2 < i + 1 by omega), decide_eq_false (show ¬ a / 2 < i by omega)]
    rcases (show a = 2 * i ∨ a = 2 * i + 1 by omega) with h2 | h2
    · rw [decide_eq_true h2]; simp
    · rw [decide_eq_true h2]; simp
  · rw [decide_eq_false (show ¬ a = 2 * i by omega), decide_eq_false (show ¬ a = 2 * i + 1 by omega), show decide (a / 2 < i + 1) = decide (a / 2 < i) from decide_eq_decide.2 (by omega)]; simp
theorem mask_no {t : Topology} {c : Comp} {X : Nat → Bool} {i : Nat} (hi : i < t.links.length) (h : c.has (i : Int) t.links[i] = false) (a : Nat) :
    (X a || (decide (a / 2 < i) && c.arcN t a)) = (X a || (decide (a / 2 < i + 1) && c.arcN t a)) := by
  by_cases e : a / 2 = i
  · rw [arcN_has hi e h]; simp
  · rw [show decide (a / 2 < i + 1) = decide (a / 2 < i) from decide_eq_decide.2 (by omega)]
theorem union_c (t : Topology) (cs : List Comp) (hc : cs.length < 4611686018427387904) : PureCall Tryd.prog F.component_Union [.agg t.enc, asl (cs.map Comp.enc)] (.tuple [asl ((unionB t cs).1.map eBool), ai (unionB t cs).2]) := by
  refine contractS fits K.component_Union ?_
  have hlm : (t.links.map Link.enc).length = t.links.length := List.length_map ..
  have hcm : (cs.map Comp.enc).length = cs.length := List.length_map ..
  repeat' (first
      | ((with_reducible refine step ?_); conv => whnf) | ((with_reducible refine br_dec (fun h => ?_) (fun h => ?_)) <;> try (exfalso; omega)) | ((with_reducible refine br_ndec (fun h => ?_) (fun h => ?_)) <;> try (exfalso; omega)) | (with_reducible refine br_not (fun h => ?_) (fun h => ?_)) | (with_reducible refine And.intro (fun h => ?_) (fun h => ?_))
      | (refine call_pure (valid_c t) rfl rfl ?_; conv => whnf)
      | fail)
  · rw [unionB, if_neg (by simp [*])]; rfl
  have hv : t.valid = true := by assumption
  have hll := valid_links hv
  have hw2 : IntKind.i64.wrap (2 * ((t.links.map Link.enc).length : Int)) = 2 * t.links.length := by rw [hlm, wrap_in (by omega)]
  repeat' (first
      | ((with_reducible refine step ?_); conv => whnf) | ((with_reducible refine br_dec (fun h => ?_) (fun h => ?_)) <;> try (exfalso; omega)) | ((with_reducible refine br_ndec (fun h => ?_) (fun h => ?_)) <;> try (exfalso; omega)) | (with_reducible refine br_not (fun h => ?_) (fun h => ?_)) | (with_reducible refine And.intro (fun h => ?_) (fun h => ?_))
      | (refine And.intro (by rw [hw2]; simp only [big]; omega) ?_; conv => whnf)
      | fail)
  refine loop_invS (fun j => j ≤ cs.length ∧ (cs.take j).all (·.valid t) = true) [2, 6, 19, 20, 21] 2 (fun j => [(21, ai j)]) (fun j => [(1, .arr 0 1 (some false) (eMask (2 * t.links.length) fun a => (cs.take j).any fun c => c.arcN t a) false)]) (fun j => cs.length - j) 0 (by decide) (by decide) ?_
  conv => whnf
  refine ⟨rfl, ?_, ⟨by omega, by simp⟩, fun j ⟨hj, hp⟩ => ?_⟩
  · have e0 : (eMask (2 * t.links.length) fun a => (cs.take 0).any fun c => c.arcN t a) = List.replicate (IntKind.i64.wrap (2 * ((t.links.map Link.enc).length : Int))).toNat [AV.bool false] := by
      rw [hw2, show (2 * (t.links.length : Int)).toNat = 2 * t.links.length by omega, ← eMask_zero]; rfl
    rw [← e0]; rfl
  have hm0 : ∀ f, (eMask (2 * t.links.length) f).length = 2 * t.links.length := fun f => eMask_len ..
  repeat' (first
      | ((with_reducible refine step ?_); conv => whnf) | ((with_reducible refine br_dec (fun h => ?_) (fun h => ?_)) <;> try (exfalso; omega)) | ((with_reducible refine br_ndec (fun h => ?_) (fun h => ?_)) <;> try (exfalso; omega)) | (with_reducible refine br_not (fun h => ?_) (fun h => ?_)) | (with_reducible refine And.intro (fun h => ?_) (fun h => ?_))
      | (have hlt : j < cs.length := (by omega); refine idx_nat hlt rfl ?_; conv => whnf)
      | (refine call_pure (compValid_c t _) rfl rfl ?_; conv => whnf)
      | fail)
  · have hlt : j < cs.length := by omega
    rw [unionB, if_neg (fun hq => by
      have := all_no (t := t) hlt (by assumption)
      rw [this] at hq; exact nomatch hq.2)]; rfl
  · have hlt : j < cs.length := by omega
    have hcv : (cs[j]).valid t = true := by assumption
    refine loop_invS (fun i => i ≤ t.links.length) [2, 6, 8, 19, 20, 21, 30, 31, 32] 3 (fun i => [(32, ai i)]) (fun i => [(1, .arr 0 1 (some false) (eMask (2 * t.links.length) fun a => ((cs.take j).any fun c => c.arcN t a) || (decide (a / 2 < i) && (cs[j]).arcN t a)) false)]) (fun i => t.links.length - i) 0 (by decide) (by decide) ?_
    conv => whnf
    refine ⟨rfl, ?_, by omega, fun i hi => ?_⟩
    · have e0 : (eMask (2 * t.links.length) fun a => ((cs.take j).any fun c => c.arcN t a) || (decide (a / 2 < 0) && (cs[j]).arcN t a)) = eMask (2 * t.links.length) fun a => (cs.take j).any fun c => c.arcN t a := eMask_congr fun a _ => by simp
      rw [e0]; rfl
    have hm1 : ∀ f, (eMask (2 * t.links.length) f).length = 2 * t.links.length := fun f => eMask_len ..
    repeat' (first
      | ((with_reducible refine step ?_); conv => whnf) | ((with_reducible refine br_dec (fun h => ?_) (fun h => ?_)) <;> try (exfalso; omega)) | ((with_reducible refine br_ndec (fun h => ?_) (fun h => ?_)) <;> try (exfalso; omega)) | (with_reducible refine br_not (fun h => ?_) (fun h => ?_)) | (with_reducible refine And.intro (fun h => ?_) (fun h => ?_))
      | (have hlt : i < t.links.length := (by omega); refine idx_nat hlt rfl ?_; conv => whnf)
      | (refine call_pure (compOf_c _ _ _) rfl rfl ?_; conv => whnf)
      | (have hlt : i < t.links.length := (by omega); have w2 := wrap_in (show -9223372036854775808 ≤ 2 * (i : Int) ∧ 2 * (i : Int) ≤ 9223372036854775807 by omega); have w3 := wrap_in (show -9223372036854775808 ≤ 2 * (i : Int) + 1 ∧ 2 * (i : Int) + 1 ≤ 9223372036854775807 by omega); refine And.intro ⟨rfl, (by first | (rw [w2]; omega) | (rw [w2, w3]; omega)), (by first | (rw [eMask_len, w2]; omega) | (rw [List.length_set, eMask_len, w2, w3]; omega))⟩ ?_; conv => whnf)
      | (refine idx_at (j := 2 * i) rfl (by rw [w2]; omega) (eMask_get _ (by omega)) rfl ?_; conv => whnf)
      | (refine idx_at (j := 2 * i + 1) rfl (by rw [w2, w3]; omega) ((List.getElem?_set_ne (by rw [w2]; omega)).trans (eMask_get _ (by omega))) rfl ?_; conv => whnf)
      | fail)
    · refine ⟨i + 1, by omega, by omega, by rw [wrap_succ (by omega)]; rfl, ?_⟩
      have hlti : i < t.links.length := by omega
      have w2 : IntKind.i64.wrap (2 * (i : Int)) = 2 * i := wrap_in (by omega)
      have e1 : ((eMask (2 * t.links.length) fun a => ((cs.take j).any fun c => c.arcN t a) || (decide (a / 2 < i) && (cs[j]).arcN t a)).set (IntKind.i64.wrap (2 * (i : Int))).toNat [.bool true]).set (IntKind.i64.wrap (IntKind.i64.wrap (2 * (i : Int)) + 1)).toNat [.bool true] = eMask (2 * t.links.length) fun a => ((cs.take j).any fun c => c.arcN t a) || (decide (a / 2 < i + 1) && (cs[j]).arcN t a) := by
        rw [w2, wrap_in (by omega), show (2 * (i : Int)).toNat = 2 * i by omega, show (2 * (i : Int) + 1).toNat = 2 * i + 1 by omega, eMask_set, eMask_set]
        exact eMask_congr fun a _ => mask_yes (X := fun a => (cs.take j).any fun c => c.arcN t a) hlti (by assumption) a
      rw [← e1]; rfl
    · refine ⟨i + 1, by omega, by omega, by rw [wrap_succ (by omega)]; rfl, ?_⟩
      have hlti : i < t.links.length := by omega
      have e1 : (eMask (2 * t.links.length) fun a => ((cs.take j).any fun c => c.arcN t a) || (decide (a / 2 < i) && (cs[j]).arcN t a)) = eMask (2 * t.links.length) fun a => ((cs.take j).any fun c => c.arcN t a) || (decide (a / 2 < i + 1) && (cs[j]).arcN t a) :=
        eMask_congr fun a _ => mask_no (X := fun a => (cs.take j).any fun c => c.arcN t a) hlti (by assumption) a
      rw [← e1]; rfl
    · refine ⟨j + 1, ⟨by omega, all_take hlt hp hcv⟩, by omega, by rw [wrap_succ (by omega)]; rfl, ?_⟩
      have e1 : (eMask (2 * t.links.length) fun a => ((cs.take j).any fun c => c.arcN t a) || (decide (a / 2 < i) && (cs[j]).arcN t a)) = eMask (2 * t.links.length) fun a => (cs.take (j + 1)).any fun c => c.arcN t a := eMask_congr fun a ha => by
        rw [take_any hlt, decide_eq_true (show a / 2 < i by omega), Bool.true_and]
      rw [← e1]; rfl
  · obtain rfl : j = cs.length := by omega
    rw [List.take_length] at *
    rw [unionB, if_pos ⟨hv, hp⟩, eMask_eq]
theorem union10_c (t : Topology) (cs : List Comp) (hc : cs.length < 4611686018427387904) : PureCall Tryd.prog F.ref10_Union [.agg t.enc, asl (cs.map Comp.enc)] (.tuple [asl ((unionB t cs).1.map eBool), ai (unionB t cs).2]) := by
  refine contractS fits K.ref10_Union ?_
  have hlm : (t.links.map Link.enc).length = t.links.length := List.length_map ..
  have hcm : (cs.map Comp.enc).length = cs.length := List.length_map ..
  repeat' (first
      | ((with_reducible refine step ?_); conv => whnf) | ((with_reducible refine br_dec (fun h => ?_) (fun h => ?_)) <;> try (exfalso; omega)) | ((with_reducible refine br_ndec (fun h => ?_) (fun h => ?_)) <;> try (exfalso; omega)) | (with_reducible refine br_not (fun h => ?_) (fun h => ?_)) | (with_reducible refine And.intro (fun h => ?_) (fun h => ?_))
      | (refine call_pure (valid9_c t) rfl rfl ?_; conv => whnf)
      | fail)
  · rw [unionB, if_neg (by simp [*])]; rfl
  have hv : t.valid = true := by assumption
  have hll := valid_links hv
  have hw2 : IntKind.i64.wrap (2 * ((t.links.map Link.enc).length : Int)) = 2 * t.links.length := by rw [hlm, wrap_in (by omega)]
  repeat' (first
      | ((with_reducible refine step ?_); conv => whnf) | ((with_reducible refine br_dec (fun h => ?_) (fun h => ?_)) <;> try (exfalso; omega)) | ((with_reducible refine br_ndec (fun h => ?_) (fun h => ?_)) <;> try (exfalso; omega)) | (with_reducible refine br_not (fun h => ?_) (fun h => ?_)) | (with_reducible refine And.intro (fun h => ?_) (fun h => ?_))
      | (refine And.intro (by rw [hw2]; simp only [big]; omega) ?_; conv => whnf)
      | fail)
  refine loop_invS (fun j => j ≤ cs.length ∧ (cs.take j).all (·.valid t) = true) [1, 2, 6, 7] 2 (fun j => [(7, ai j)]) (fun j => [(1, .arr 0 1 (some false) (eMask (2 * t.links.length) fun a => (cs.take j).any fun c => c.arcN t a) false)]) (fun j => cs.length - j) 0 (by decide) (by decide) ?_
  conv => whnf
  refine ⟨rfl, ?_, ⟨by omega, by simp⟩, fun j ⟨hj, hp⟩ => ?_⟩
  · have e0 : (eMask (2 * t.links.length) fun a => (cs.take 0).any fun c => c.arcN t a) = List.replicate (IntKind.i64.wrap (2 * ((t.links.map Link.enc).length : Int))).toNat [AV.bool false] := by
      rw [hw2, show (2 * (t.links.length : Int)).toNat = 2 * t.links.length by omega, ← eMask_zero]; rfl
    rw [← e0]; rfl
  repeat' (first
      | ((with_reducible refine step ?_); conv => whnf) | ((with_reducible refine br_dec (fun h => ?_) (fun h => ?_)) <;> try (exfalso; omega)) | ((with_reducible refine br_ndec (fun h => ?_) (fun h => ?_)) <;> try (exfalso; omega)) | (with_reducible refine br_not (fun h => ?_) (fun h => ?_)) | (with_reducible refine And.intro (fun h => ?_) (fun h => ?_))
      | (have hlt : j < cs.length := (by omega); refine idx_nat hlt rfl ?_; conv => whnf)
      | (refine call_pure (comp10Valid_c t _) rfl rfl ?_; conv => whnf)
      | fail)
  · have hlt : j < cs.length := by omega
    rw [unionB, if_neg (fun hq => by
      have := all_no (t := t) hlt (by assumption)
      rw [this] at hq; exact nomatch hq.2)]; rfl
  · have hlt : j < cs.length := by omega
    have hcv : (cs[j]).valid t = true := by assumption
    refine loop_invS (fun i => i ≤ 2 * t.links.length) [1, 2, 6, 7, 8] 2 (fun i => [(8, ai i)]) (fun i => [(1, .arr 0 1 (some false) (eMask (2 * t.links.length) fun a => ((cs.take j).any fun c => c.arcN t a) || (decide (a < i) && (cs[j]).arcN t a)) false)]) (fun i => 2 * t.links.length - i) 0 (by decide) (by decide) ?_
    conv => whnf
    refine ⟨rfl, ?_, by omega, fun i hi => ?_⟩
    · have e0 : (eMask (2 * t.links.length) fun a => ((cs.take j).any fun c => c.arcN t a) || (decide (a < 0) && (cs[j]).arcN t a)) = eMask (2 * t.links.length) fun a => (cs.take j).any fun c => c.arcN t a := eMask_congr fun a _ => by simp
      rw [e0]; rfl
    have hml : (eMask (2 * t.links.length) fun a => ((cs.take j).any fun c => c.arcN t a) || (decide (a < i) && (cs[j]).arcN t a)).length = 2 * t.links.length := eMask_len ..
    repeat' (first
      | ((with_reducible refine step ?_); conv => whnf) | ((with_reducible refine br_dec (fun h => ?_) (fun h => ?_)) <;> try (exfalso; omega)) | ((with_reducible refine br_ndec (fun h => ?_) (fun h => ?_)) <;> try (exfalso; omega)) | (with_reducible refine br_not (fun h => ?_) (fun h => ?_)) | (with_reducible refine And.intro (fun h => ?_) (fun h => ?_))
      | (refine idx_nat hlt rfl ?_; conv => whnf)
      | (have hlti : i < 2 * t.links.length := (by omega); refine call_pure (compOf10_c t _ (i : Int) (by omega) (by omega) (by omega)) rfl rfl ?_; conv => whnf)
      | (have hlti : i < 2 * t.links.length := (by omega); refine And.intro ⟨rfl, by omega, by omega⟩ ?_; conv => whnf)
      | (have hlti : i < 2 * t.links.length := (by omega); refine idx_at (j := i) rfl (by omega) (eMask_get _ (by omega)) rfl ?_; conv => whnf)
      | (refine And.intro rfl ?_; conv => whnf)
      | fail)
    · refine ⟨i + 1, by omega, by omega, by rw [wrap_succ (by omega)]; rfl, ?_⟩
      have e1 : ((eMask (2 * t.links.length) fun a => ((cs.take j).any fun c => c.arcN t a) || (decide (a < i) && (cs[j]).arcN t a)).set ((i : Int)).toNat [.bool true]) = eMask (2 * t.links.length) fun a => ((cs.take j).any fun c => c.arcN t a) || (decide (a < i + 1) && (cs[j]).arcN t a) := by
        rw [show (i : Int).toNat = i by omega, eMask_set]
        refine eMask_congr fun a _ => ?_
        rcases Nat.lt_trichotomy a i with h1 | h1 | h1
        · rw [decide_eq_true h1, decide_eq_true (show a < i + 1 by omega), decide_eq_false (show ¬ a = i by omega)]; simp
        · subst h1
          rw [arcN_eq] at *
          rw [decide_eq_true (show a < a + 1 by omega), decide_eq_false (show ¬ a < a by omega), ‹Comp.arcN t _ a = true›]; simp
        · rw [decide_eq_false (show ¬ a < i by omega), decide_eq_false (show ¬ a < i + 1 by omega), decide_eq_false (show ¬ a = i by omega)]; simp
      rw [← e1]; rfl
    · refine ⟨i + 1, by omega, by omega, by rw [wrap_succ (by omega)]; rfl, ?_⟩
      have e1 : (eMask (2 * t.links.length) fun a => ((cs.take j).any fun c => c.arcN t a) || (decide (a < i) && (cs[j]).arcN t a)) = eMask (2 * t.links.length) fun a => ((cs.take j).any fun c => c.arcN t a) || (decide (a < i + 1) && (cs[j]).arcN t a) := by
        refine eMask_congr fun a _ => ?_
        rcases Nat.lt_trichotomy a i with h1 | h1 | h1
        · rw [decide_eq_true h1, decide_eq_true (show a < i + 1 by omega)]
        · subst h1
          rw [arcN_eq] at *
          rw [‹Comp.arcN t _ a = false›]; simp
        · rw [decide_eq_false (show ¬ a < i by omega), decide_eq_false (show ¬ a < i + 1 by omega)]
      rw [← e1]; rfl
    · refine ⟨j + 1, ⟨by omega, all_take hlt hp hcv⟩, by omega, by rw [wrap_succ (by omega)]; rfl, ?_⟩
      have e1 : (eMask (2 * t.links.length) fun a => ((cs.take j).any fun c => c.arcN t a) || (decide (a < i) && (cs[j]).arcN t a)) = eMask (2 * t.links.length) fun a => (cs.take (j + 1)).any fun c => c.arcN t a := eMask_congr fun a ha => by
        rw [take_any hlt, decide_eq_true (show a < i by omega), Bool.true_and]
      rw [← e1]; rfl
  · obtain rfl : j = cs.length := by omega
    rw [List.take_length] at *
    rw [unionB, if_pos ⟨hv, hp⟩, eMask_eq]
end Go.Proofs.YtnlelalkkabihaaDoor.Vm
/- Contracts: components' arcs, masks. -/
set_option linter.all false
namespace Go.Proofs.YtnlelalkkabihaaDoor.Vm
open Go
set_option maxRecDepth 100000
set_option maxHeartbeats 4000000

theorem sameBools_c (a b : List Bool) (ha : a.length < 4611686018427387904) : PureCall Tryd.prog F.ref10_SameBools [asl (a.map eBool), asl (b.map eBool)] (.bool (decide (a = b))) := by
  refine contractS fits K.ref10_SameBools ?_
  repeat' (first
    | ((with_reducible refine step ?_); conv => whnf)
    | (with_reducible refine And.intro (fun h => ?_) (fun h => ?_)))
  · simp at h
    refine congrArg AV.bool ?_
    symm; rw [decide_eq_false_iff_not]; exact fun e => by subst e; exact h rfl
  · simp at h
    have h : a.length = b.length := by omega
    refine loop_invS (fun i => i ≤ a.length ∧ a.take i = b.take i) [0, 1, 5] 0 (fun i => [(5, ai i)]) (fun _ => []) (fun i => a.length - i) 0 (by decide) (by decide) ?_
    conv => whnf
    refine ⟨rfl, rfl, by simp, fun i ⟨hi, hp⟩ => ?_⟩
    repeat' (first
        | ((with_reducible refine step ?_); conv => whnf)
        | (with_reducible refine And.intro (fun _ => ?_) (fun _ => ?_))
        | (have hlt : i < a.length := (by simp_all); have hlb : i < b.length := h ▸ hlt; refine idx_nat hlt rfl ?_; conv => whnf)
        | (refine idx_nat (h ▸ hlt) rfl ?_; conv => whnf))
    all_goals try simp only [List.length_map, Bool.not_eq_true', Bool.not_eq_false', Bool.and_eq_true, Bool.and_eq_false_iff, decide_eq_true_eq, decide_eq_false_iff_not] at *
    · refine congrArg AV.bool ?_
      symm; rw [decide_eq_false_iff_not]
      refine ne_of_get hlt hlb fun e => ?_
      simp_all
    · refine ⟨i + 1, ⟨hlt, take_succ_eq hlt hlb hp (by simp_all)⟩, by omega, by rw [wrap_succ (by omega)]; rfl, rfl⟩
    · refine congrArg AV.bool ?_
      symm; rw [decide_eq_true_eq]; exact eq_of_take h (by omega) hp

theorem mask_c (t : Topology) (c : Comp) : PureCall Tryd.prog F.component_Mask [.agg t.enc, .agg c.enc] (.tuple [asl ((unionB t [c]).1.map eBool), ai (unionB t [c]).2]) := by
  refine contractS fits K.component_Mask ?_
  repeat' (first
      | ((with_reducible refine step ?_); conv => whnf) | ((with_reducible refine br_dec (fun h => ?_) (fun h => ?_)) <;> try (exfalso; omega)) | ((with_reducible refine br_ndec (fun h => ?_) (fun h => ?_)) <;> try (exfalso; omega)) | (with_reducible refine br_not (fun h => ?_) (fun h => ?_)) | (with_reducible refine And.intro (fun h => ?_) (fun h => ?_))
      | (refine call_pure (union_c t [c] (show 1 < 4611686018427387904 by decide)) rfl rfl ?_; conv => whnf)
      | fail)
  all_goals rfl
theorem mask10_c (t : Topology) (c : Comp) : PureCall Tryd.prog F.ref10_Mask [.agg t.enc, .agg c.enc] (.tuple [asl ((unionB t [c]).1.map eBool), ai (unionB t [c]).2]) := by
  refine contractS fits K.ref10_Mask ?_
  repeat' (first
      | ((with_reducible refine step ?_); conv => whnf) | ((with_reducible refine br_dec (fun h => ?_) (fun h => ?_)) <;> try (exfalso; omega)) | ((with_reducible refine br_ndec (fun h => ?_) (fun h => ?_)) <;> try (exfalso; omega)) | (with_reducible refine br_not (fun h => ?_) (fun h => ?_)) | (with_reducible refine And.intro (fun h => ?_) (fun h => ?_))
      | (refine call_pure (union10_c t [c] (show 1 < 4611686018427387904 by decide)) rfl rfl ?_; conv => whnf)
      | fail)
  all_goals rfl

def sel (f : Nat → Bool) (i : Nat) : List Int := (((List.range i).filter f : List Nat)).map fun (a : Nat) => (a : Int)
theorem sel_len (f : Nat → Bool) (i : Nat) : (sel f i).length ≤ i := by
  unfold sel; rw [List.length_map]; exact Nat.le_trans (List.length_filter_le _ _) (by simp)
theorem sel_yes {f : Nat → Bool} {i : Nat} (h : f i = true) : sel f (i + 1) = sel f i ++ [(i : Int)] := by
  simp [sel, List.range_succ, List.filter_append, h]
theorem sel_no {f : Nat → Bool} {i : Nat} (h : f i = false) : sel f (i + 1) = sel f i := by
  simp [sel, List.range_succ, List.filter_append, h]
def arcsB (t : Topology) (c : Comp) : List Int × Int := if c.valid t = true then (sel (c.arcN t) (2 * t.links.length), 0) else ([], 1)
theorem union_one (t : Topology) (c : Comp) : unionB t [c] = if c.valid t = true then (maskF (2 * t.links.length) (c.arcN t), 0) else ([], 1) := by
  unfold unionB
  by_cases h : c.valid t = true
  · rw [if_pos ⟨validC_links h, by simp [h]⟩, if_pos h]; simp
  · rw [if_neg (fun hq => h (by simpa using hq.2)), if_neg h]

theorem arcsC_c (t : Topology) (c : Comp) : PureCall Tryd.prog F.component_Arcs [.agg t.enc, .agg c.enc] (.tuple [asl ((arcsB t c).1.map eInt), ai (arcsB t c).2]) := by
  refine contractS fits K.component_Arcs ?_
  have hm := mask_c t c
  rw [union_one] at hm
  rw [arcsB]
  by_cases hc : c.valid t = true
  · rw [if_pos hc] at hm ⊢
    have hll := valid_links (validC_links hc)
    rw [eMask_eq] at hm
    repeat' (first
      | ((with_reducible refine step ?_); conv => whnf) | ((with_reducible refine br_dec (fun h => ?_) (fun h => ?_)) <;> try (exfalso; omega)) | ((with_reducible refine br_ndec (fun h => ?_) (fun h => ?_)) <;> try (exfalso; omega)) | (with_reducible refine br_not (fun h => ?_) (fun h => ?_)) | (with_reducible refine And.intro (fun h => ?_) (fun h => ?_))
      | (refine call_pure hm rfl rfl ?_; conv => whnf)
      | fail)
    have hml : (eMask (2 * t.links.length) (c.arcN t)).length = 2 * t.links.length := eMask_len ..
    refine loop_promoteD (k := 8) (esz := 1) rfl (by decide) ?_
    refine loop_invS (fun i => i ≤ 2 * t.links.length) [8, 20, 21, 22] 3 (fun i => [(22, ai i)]) (fun i => [(2, .arr 0 1 none ((sel (c.arcN t) i).map eInt) false)]) (fun i => 2 * t.links.length - i) 0 (by decide) (by decide) ?_
    conv => whnf
    refine ⟨rfl, rfl, by omega, fun i hi => ?_⟩
    have hsl := sel_len (c.arcN t) i
    repeat' (first
      | ((with_reducible refine step ?_); conv => whnf) | ((with_reducible refine br_dec (fun h => ?_) (fun h => ?_)) <;> try (exfalso; omega)) | ((with_reducible refine br_ndec (fun h => ?_) (fun h => ?_)) <;> try (exfalso; omega)) | (with_reducible refine br_not (fun h => ?_) (fun h => ?_)) | (with_reducible refine And.intro (fun h => ?_) (fun h => ?_))
      | (have hlt : i < 2 * t.links.length := (by omega); refine idx_at (j := i) trivial rfl (eMask_get _ hlt) rfl ?_; conv => whnf)
      | (refine And.intro ?_ ?_; (focus (simp [elemsOk, AV.oneC, big]; (try omega); done)); conv => whnf)
      | fail)
    · exact ⟨i + 1, by omega, by omega, by rw [wrap_succ (by omega)]; rfl, by rw [sel_yes (by assumption), List.map_append]; rfl⟩
    · exact ⟨i + 1, by omega, by omega, by rw [wrap_succ (by omega)]; rfl, by rw [sel_no (by assumption)]; rfl⟩
    · obtain rfl : i = 2 * t.links.length := by omega
      rfl
  · rw [if_neg hc] at hm ⊢
    repeat' (first
      | ((with_reducible refine step ?_); conv => whnf) | ((with_reducible refine br_dec (fun h => ?_) (fun h => ?_)) <;> try (exfalso; omega)) | ((with_reducible refine br_ndec (fun h => ?_) (fun h => ?_)) <;> try (exfalso; omega)) | (with_reducible refine br_not (fun h => ?_) (fun h => ?_)) | (with_reducible refine And.intro (fun h => ?_) (fun h => ?_))
      | (refine call_pure hm rfl rfl ?_; conv => whnf)
      | fail)
    all_goals rfl
theorem arcs10C_c (t : Topology) (c : Comp) : PureCall Tryd.prog F.ref10_Arcs [.agg t.enc, .agg c.enc] (.tuple [asl ((arcsB t c).1.map eInt), ai (arcsB t c).2]) := by
  refine contractS fits K.ref10_Arcs ?_
  have hlm : (t.links.map Link.enc).length = t.links.length := List.length_map ..
  rw [arcsB]
  repeat' (first
      | ((with_reducible refine step ?_); conv => whnf) | ((with_reducible refine br_dec (fun h => ?_) (fun h => ?_)) <;> try (exfalso; omega)) | ((with_reducible refine br_ndec (fun h => ?_) (fun h => ?_)) <;> try (exfalso; omega)) | (with_reducible refine br_not (fun h => ?_) (fun h => ?_)) | (with_reducible refine And.intro (fun h => ?_) (fun h => ?_))
      | (refine call_pure (comp10Valid_c t _) rfl rfl ?_; conv => whnf)
      | fail)
  · rw [if_neg (by simp [*])]; rfl
  · have hc : c.valid t = true := by assumption
    rw [if_pos hc]
    have hll := valid_links (validC_links hc)
    have hw2 : IntKind.i64.wrap (2 * ((t.links.map Link.enc).length : Int)) = 2 * t.links.length := by rw [hlm, wrap_in (by omega)]
    refine loop_promoteD (k := 6) (esz := 1) rfl (by decide) ?_
    refine loop_invS (fun i => i ≤ 2 * t.links.length) [2, 3, 6, 7] 3 (fun i => [(7, ai i)]) (fun i => [(2, .arr 0 1 none ((sel (c.arcN t) i).map eInt) false)]) (fun i => 2 * t.links.length - i) 0 (by decide) (by decide) ?_
    conv => whnf
    refine ⟨rfl, rfl, by omega, fun i hi => ?_⟩
    have hsl := sel_len (c.arcN t) i
    repeat' (first
      | ((with_reducible refine step ?_); conv => whnf) | ((with_reducible refine br_dec (fun h => ?_) (fun h => ?_)) <;> try (exfalso; omega)) | ((with_reducible refine br_ndec (fun h => ?_) (fun h => ?_)) <;> try (exfalso; omega)) | (with_reducible refine br_not (fun h => ?_) (fun h => ?_)) | (with_reducible refine And.intro (fun h => ?_) (fun h => ?_))
      | (have hlt : i < 2 * t.links.length := (by omega); refine call_pure (compOf10_c t _ (i : Int) (by omega) (by omega) (by omega)) rfl rfl ?_; conv => whnf)
      | (refine And.intro ?_ ?_; (focus (simp [elemsOk, AV.oneC, big]; (try omega); done)); conv => whnf)
      | fail)
    · exact ⟨i + 1, by omega, by omega, by rw [wrap_succ (by omega)]; rfl, by rw [arcN_eq] at *; rw [sel_yes (by assumption), List.map_append]; rfl⟩
    · exact ⟨i + 1, by omega, by omega, by rw [wrap_succ (by omega)]; rfl, by rw [arcN_eq] at *; rw [sel_no (by assumption)]; rfl⟩
    · obtain rfl : i = 2 * t.links.length := by omega
      rfl
end Go.Proofs.YtnlelalkkabihaaDoor.Vm
/- Contracts: all components. -/
set_option linter.all false
namespace Go.Proofs.YtnlelalkkabihaaDoor.Vm
open Go
set_option maxRecDepth 100000
set_option maxHeartbeats 4000000

def nums (k : Int) (i : Nat) : List Comp := (List.range i).map fun (a : Nat) => (⟨k, a⟩ : Comp)
theorem nums_len (k : Int) (i : Nat) : (nums k i).length = i := by simp [nums]
theorem nums_succ (k : Int) (i : Nat) : nums k (i + 1) = nums k i ++ [⟨k, (i : Nat)⟩] := by simp [nums, List.range_succ]
def hasG (t : Topology) (g : Int) : Bool := t.links.any fun l => decide (l.group = g)
def grps (t : Topology) (i : Nat) : List Comp := ((List.range i).filter fun (a : Nat) => hasG t ((a : Int) + 1)).map fun (a : Nat) => (⟨3, (a : Int) + 1⟩ : Comp)
theorem grps_len (t : Topology) (i : Nat) : (grps t i).length ≤ i := by
  unfold grps; rw [List.length_map]; exact Nat.le_trans (List.length_filter_le _ _) (by simp)
theorem grps_yes {t : Topology} {i : Nat} (h : hasG t ((i : Int) + 1) = true) : grps t (i + 1) = grps t i ++ [⟨3, (i : Int) + 1⟩] := by
  simp [grps, List.range_succ, List.filter_append, h]
theorem grps_no {t : Topology} {i : Nat} (h : hasG t ((i : Int) + 1) = false) : grps t (i + 1) = grps t i := by
  simp [grps, List.range_succ, List.filter_append, h]
def compsB (t : Topology) : List Comp := if t.valid = true then nums 1 t.links.length ++ nums 2 t.nodes.toNat ++ grps t 64 else []
theorem hasG_no {t : Topology} {g : Int} {i : Nat} (hi : t.links.length ≤ i) (h : ∀ k < i, (t.links.getD k default).group ≠ g) : hasG t g = false := by
  rw [hasG, List.any_eq_false]
  intro l hl
  obtain ⟨k, hk, rfl⟩ := List.getElem_of_mem hl
  have := h k (by omega)
  rw [getD_at hk] at this
  simpa using this
theorem hasG_yes {t : Topology} {g : Int} {i : Nat} (hi : i < t.links.length) (h : t.links[i].group = g) : hasG t g = true := by
  rw [hasG, List.any_eq_true]; exact ⟨t.links[i], List.getElem_mem hi, by simpa using h⟩

theorem all_c (t : Topology) : PureCall Tryd.prog F.component_All [.agg t.enc] (asl ((compsB t).map Comp.enc)) := by
  refine contractS fits K.component_All ?_
  have hlm : (t.links.map Link.enc).length = t.links.length := List.length_map ..
  repeat' (first
      | ((with_reducible refine step ?_); conv => whnf) | ((with_reducible refine br_dec (fun h => ?_) (fun h => ?_)) <;> try (exfalso; omega)) | ((with_reducible refine br_ndec (fun h => ?_) (fun h => ?_)) <;> try (exfalso; omega)) | (with_reducible refine br_not (fun h => ?_) (fun h => ?_)) | (with_reducible refine And.intro (fun h => ?_) (fun h => ?_))
      | (refine call_pure (valid_c t) rfl rfl ?_; conv => whnf)
      | fail)
  · rw [compsB, if_neg (by simp [*])]; rfl
  have hv : t.valid = true := by assumption
  have hll := valid_links hv
  have hnn := valid_nodes hv
  refine loop_promoteD (k := 3) (esz := 2) rfl (by decide) ?_
  refine loop_invS (fun i => i ≤ t.links.length) [1, 3, 12, 13] 2 (fun i => [(13, ai i)]) (fun i => [(1, .arr 0 2 none ((nums 1 i).map Comp.enc) false)]) (fun i => t.links.length - i) 0 (by decide) (by decide) ?_
  conv => whnf
  refine ⟨rfl, rfl, by omega, fun i hi => ?_⟩
  have hsl := nums_len 1 i
  repeat' (first
      | ((with_reducible refine step ?_); conv => whnf) | ((with_reducible refine br_dec (fun h => ?_) (fun h => ?_)) <;> try (exfalso; omega)) | ((with_reducible refine br_ndec (fun h => ?_) (fun h => ?_)) <;> try (exfalso; omega)) | (with_reducible refine br_not (fun h => ?_) (fun h => ?_)) | (with_reducible refine And.intro (fun h => ?_) (fun h => ?_))
      | (refine And.intro ?_ ?_; (focus (simp [elemsOk, AV.oneC, big]; (try omega); done)); conv => whnf)
      | fail)
  · exact ⟨i + 1, by omega, by omega, by rw [wrap_succ (by omega)]; rfl, by rw [nums_succ, List.map_append]; rfl⟩
  obtain rfl : i = t.links.length := by omega
  clear hi
  refine loop_invS (fun i => i ≤ t.nodes.toNat) [1, 3, 23, 24] 2 (fun i => [(24, ai i)]) (fun i => [(1, .arr 0 2 none ((nums 1 t.links.length ++ nums 2 i).map Comp.enc) false)]) (fun i => t.nodes.toNat - i) 0 (by decide) (by decide) ?_
  conv => whnf
  refine ⟨rfl, by rw [show nums 2 0 = [] from rfl, List.append_nil]; rfl, by omega, fun i hi => ?_⟩
  have hs2 := nums_len 2 i
  repeat' (first
      | ((with_reducible refine step ?_); conv => whnf) | ((with_reducible refine br_dec (fun h => ?_) (fun h => ?_)) <;> try (exfalso; omega)) | ((with_reducible refine br_ndec (fun h => ?_) (fun h => ?_)) <;> try (exfalso; omega)) | (with_reducible refine br_not (fun h => ?_) (fun h => ?_)) | (with_reducible refine And.intro (fun h => ?_) (fun h => ?_))
      | (refine And.intro ?_ ?_; (focus (simp [elemsOk, AV.oneC, big]; (try omega); done)); conv => whnf)
      | fail)
  · exact ⟨i + 1, by omega, by omega, by rw [wrap_succ (by omega)]; rfl, by rw [nums_succ, ← List.append_assoc, List.map_append (l₁ := nums 1 t.links.length ++ nums 2 i)]; rfl⟩
  obtain rfl : i = t.nodes.toNat := by omega
  clear hi
  refine loop_moveD (fun i => i ≤ 64) [1, 3, 6] 3 6 2 (fun i => [(6, .ptr 2 0)]) (fun i => [(1, .arr 0 2 none ((nums 1 t.links.length ++ nums 2 t.nodes.toNat ++ grps t i).map Comp.enc) false), (2, .box [ai ((i : Int) + 1)] false)]) (fun i => 64 - i) 0 (by decide) (by decide) (by decide) (by decide) ?_
  conv => whnf
  refine ⟨rfl, by rw [show grps t 0 = [] from rfl, List.append_nil]; rfl, by omega, fun i hi => ?_⟩
  have hs3 := grps_len t i
  repeat' (first
      | ((with_reducible refine step ?_); conv => whnf) | ((with_reducible refine br_dec (fun h => ?_) (fun h => ?_)) <;> try (exfalso; omega)) | ((with_reducible refine br_ndec (fun h => ?_) (fun h => ?_)) <;> try (exfalso; omega)) | (with_reducible refine br_not (fun h => ?_) (fun h => ?_)) | (with_reducible refine And.intro (fun h => ?_) (fun h => ?_))
      | (refine vcall_inS fits K.slices_ContainsFunc_Link rfl rfl ?_; conv => whnf)
      | (refine vcall_inS fits K.slices_IndexFunc_Link rfl rfl ?_; conv => whnf)
      | fail)
  · have hno : ∀ k : Int, k = (i : Int) + 1 → True := fun _ _ => trivial
    refine loop_invS (fun j => j ≤ t.links.length ∧ ∀ k < j, (t.links.getD k default).group ≠ (i : Int) + 1) [0, 1, 7, 8] 3 (fun j => [(8, ai j)]) (fun _ => []) (fun j => t.links.length - j) 0 (show 3 ≤ 3 by decide) (show 3 ≤ 3 by decide) ?_
    conv => whnf
    refine ⟨rfl, rfl, ⟨by omega, nofun⟩, fun j ⟨hj, hp⟩ => ?_⟩
    repeat' (first
      | ((with_reducible refine step ?_); conv => whnf) | ((with_reducible refine br_dec (fun h => ?_) (fun h => ?_)) <;> try (exfalso; omega)) | ((with_reducible refine br_ndec (fun h => ?_) (fun h => ?_)) <;> try (exfalso; omega)) | (with_reducible refine br_not (fun h => ?_) (fun h => ?_)) | (with_reducible refine And.intro (fun h => ?_) (fun h => ?_))
      | (have hlt : j < t.links.length := (by omega); refine idx_nat hlt rfl ?_; conv => whnf)
      | (refine vcall_inS fits K.component_All_1 rfl rfl ?_; conv => whnf)
      | (refine And.intro ?_ ?_; (focus (simp [elemsOk, AV.oneC, big]; (try omega); done)); conv => whnf)
      | fail)
    · have hg : hasG t ((i : Int) + 1) = true := hasG_yes (i := j) (by omega) (by assumption)
      refine ⟨rfl, rfl, ?_⟩
      conv => whnf
      have hw : IntKind.i64.wrap ((i : Int) + 1 + 1) = ((i + 1 : Nat) : Int) + 1 := by rw [wrap_in (by omega)]; omega
      exact ⟨i + 1, by omega, by omega, rfl, by rw [grps_yes hg, ← List.append_assoc, List.map_append (l₁ := nums 1 t.links.length ++ nums 2 t.nodes.toNat ++ grps t i), hw]; rfl⟩
    · have hlt : j < t.links.length := by omega
      have hq : (t.links.getD j default).group ≠ (i : Int) + 1 := by rw [getD_at hlt]; assumption
      exact ⟨j + 1, ⟨by omega, succ_all hp hq⟩, by omega, by rw [wrap_succ (by omega)]; rfl, rfl⟩
    · have hg : hasG t ((i : Int) + 1) = false := hasG_no (i := j) (by omega) hp
      refine ⟨rfl, rfl, ?_⟩
      conv => whnf
      have hw : IntKind.i64.wrap ((i : Int) + 1 + 1) = ((i + 1 : Nat) : Int) + 1 := by rw [wrap_in (by omega)]; omega
      exact ⟨i + 1, by omega, by omega, rfl, by rw [grps_no hg, hw]; rfl⟩
  · obtain rfl : i = 64 := by omega
    rw [compsB, if_pos hv]
theorem sel_pos {f : Nat → Bool} {n : Nat} : 0 < (sel f n).length ↔ ∃ a, a < n ∧ f a = true := by
  rw [sel, List.length_map, List.length_pos_iff_exists_mem]
  simp [List.mem_filter, List.mem_range]
theorem grp_pos {t : Topology} (hv : t.valid = true) {g : Int} (h1 : 1 ≤ g) (h2 : g ≤ 64) : 0 < (arcsB t ⟨3, g⟩).1.length ↔ hasG t g = true := by
  have hc : Comp.valid t ⟨3, g⟩ = true := by simp [Comp.valid, hv, h1, h2]
  rw [arcsB, if_pos hc]
  show 0 < (sel (Comp.arcN t ⟨3, g⟩) (2 * t.links.length)).length ↔ _
  rw [sel_pos]
  constructor
  · rintro ⟨a, ha, hf⟩
    have hlt : a / 2 < t.links.length := by omega
    refine hasG_yes hlt ?_
    rw [Comp.arcN, getD_at hlt] at hf
    simpa [Comp.has] using hf
  · intro hg
    rw [hasG, List.any_eq_true] at hg
    obtain ⟨l, hl, hq⟩ := hg
    obtain ⟨k, hk, rfl⟩ := List.getElem_of_mem hl
    refine ⟨2 * k, by omega, ?_⟩
    simpa [Comp.arcN, Comp.has, show 2 * k / 2 = k by omega, hk] using hq

theorem all10_c (t : Topology) : PureCall Tryd.prog F.ref10_All [.agg t.enc] (asl ((compsB t).map Comp.enc)) := by
  refine contractS fits K.ref10_All ?_
  have hlm : (t.links.map Link.enc).length = t.links.length := List.length_map ..
  repeat' (first
      | ((with_reducible refine step ?_); conv => whnf) | ((with_reducible refine br_dec (fun h => ?_) (fun h => ?_)) <;> try (exfalso; omega)) | ((with_reducible refine br_ndec (fun h => ?_) (fun h => ?_)) <;> try (exfalso; omega)) | (with_reducible refine br_not (fun h => ?_) (fun h => ?_)) | (with_reducible refine And.intro (fun h => ?_) (fun h => ?_))
      | (refine call_pure (valid9_c t) rfl rfl ?_; conv => whnf)
      | fail)
  · rw [compsB, if_neg (by simp [*])]; rfl
  have hv : t.valid = true := by assumption
  have hll := valid_links hv
  have hnn := valid_nodes hv
  refine loop_promoteD (k := 3) (esz := 2) rfl (by decide) ?_
  refine loop_invS (fun i => i ≤ t.links.length) [1, 3, 4] 2 (fun i => [(4, ai i)]) (fun i => [(1, .arr 0 2 none ((nums 1 i).map Comp.enc) false)]) (fun i => t.links.length - i) 0 (by decide) (by decide) ?_
  conv => whnf
  refine ⟨rfl, rfl, by omega, fun i hi => ?_⟩
  have hsl := nums_len 1 i
  repeat' (first
      | ((with_reducible refine step ?_); conv => whnf) | ((with_reducible refine br_dec (fun h => ?_) (fun h => ?_)) <;> try (exfalso; omega)) | ((with_reducible refine br_ndec (fun h => ?_) (fun h => ?_)) <;> try (exfalso; omega)) | (with_reducible refine br_not (fun h => ?_) (fun h => ?_)) | (with_reducible refine And.intro (fun h => ?_) (fun h => ?_))
      | (refine And.intro ?_ ?_; (focus (simp [elemsOk, AV.oneC, big]; (try omega); done)); conv => whnf)
      | fail)
  · exact ⟨i + 1, by omega, by omega, by rw [wrap_succ (by omega)]; rfl, by rw [nums_succ, List.map_append]; rfl⟩
  obtain rfl : i = t.links.length := by omega
  clear hi
  refine loop_invS (fun i => i ≤ t.nodes.toNat) [1, 3, 5] 2 (fun i => [(5, ai i)]) (fun i => [(1, .arr 0 2 none ((nums 1 t.links.length ++ nums 2 i).map Comp.enc) false)]) (fun i => t.nodes.toNat - i) 0 (by decide) (by decide) ?_
  conv => whnf
  refine ⟨rfl, by rw [show nums 2 0 = [] from rfl, List.append_nil]; rfl, by omega, fun i hi => ?_⟩
  have hs2 := nums_len 2 i
  repeat' (first
      | ((with_reducible refine step ?_); conv => whnf) | ((with_reducible refine br_dec (fun h => ?_) (fun h => ?_)) <;> try (exfalso; omega)) | ((with_reducible refine br_ndec (fun h => ?_) (fun h => ?_)) <;> try (exfalso; omega)) | (with_reducible refine br_not (fun h => ?_) (fun h => ?_)) | (with_reducible refine And.intro (fun h => ?_) (fun h => ?_))
      | (refine And.intro ?_ ?_; (focus (simp [elemsOk, AV.oneC, big]; (try omega); done)); conv => whnf)
      | fail)
  · exact ⟨i + 1, by omega, by omega, by rw [wrap_succ (by omega)]; rfl, by rw [nums_succ, ← List.append_assoc, List.map_append (l₁ := nums 1 t.links.length ++ nums 2 i)]; rfl⟩
  obtain rfl : i = t.nodes.toNat := by omega
  clear hi
  refine loop_invS (fun (i : Nat) => i ≤ 64) [1, 3, 6] 2 (fun (i : Nat) => [(6, ai ((i : Int) + 1))]) (fun i => [(1, .arr 0 2 none ((nums 1 t.links.length ++ nums 2 t.nodes.toNat ++ grps t i).map Comp.enc) false)]) (fun i => 64 - i) 0 (by decide) (by decide) ?_
  conv => whnf
  refine ⟨rfl, by rw [show grps t 0 = [] from rfl, List.append_nil]; rfl, by omega, fun i hi => ?_⟩
  have hs3 := grps_len t i
  have hgp := fun (h2 : (i : Int) + 1 ≤ 64) => grp_pos hv (show 1 ≤ (i : Int) + 1 by omega) h2
  have hlm2 : ((arcsB t ⟨3, (i : Int) + 1⟩).1.map eInt).length = (arcsB t ⟨3, (i : Int) + 1⟩).1.length := List.length_map ..
  have hw := fun (h2 : (i : Int) + 1 ≤ 64) => show IntKind.i64.wrap ((i : Int) + 1 + 1) = ((i + 1 : Nat) : Int) + 1 by rw [wrap_in (by omega)]; omega
  repeat' (first
      | ((with_reducible refine step ?_); conv => whnf) | ((with_reducible refine br_dec (fun h => ?_) (fun h => ?_)) <;> try (exfalso; omega)) | ((with_reducible refine br_ndec (fun h => ?_) (fun h => ?_)) <;> try (exfalso; omega)) | (with_reducible refine br_not (fun h => ?_) (fun h => ?_)) | (with_reducible refine And.intro (fun h => ?_) (fun h => ?_))
      | (refine call_pure (arcs10C_c t ⟨3, (i : Int) + 1⟩) rfl rfl ?_; conv => whnf)
      | (refine And.intro ?_ ?_; (focus (simp [elemsOk, AV.oneC, big]; (try omega); done)); conv => whnf)
      | fail)
  · have hg : hasG t ((i : Int) + 1) = true := (hgp (by omega)).1 (by omega)
    exact ⟨i + 1, by omega, by omega, by rw [hw (by omega)]; rfl, by rw [grps_yes hg, ← List.append_assoc, List.map_append (l₁ := nums 1 t.links.length ++ nums 2 t.nodes.toNat ++ grps t i)]; rfl⟩
  · have hg : hasG t ((i : Int) + 1) = false := by
      cases hc : hasG t ((i : Int) + 1) with
      | false => rfl
      | true => have := (hgp (by omega)).2 hc; omega
    exact ⟨i + 1, by omega, by omega, by rw [hw (by omega)]; rfl, by rw [grps_no hg]; rfl⟩
  · obtain rfl : i = 64 := by omega
    rw [compsB, if_pos hv]
end Go.Proofs.YtnlelalkkabihaaDoor.Vm
/- Contracts: the example that every statement of the set 10 checks first. -/
set_option linter.all false
namespace Go.Proofs.YtnlelalkkabihaaDoor.Vm
open Go
set_option maxRecDepth 100000
set_option maxHeartbeats 4000000

theorem ex10_1_c (a b g : Int) : PureCall Tryd.prog F.law10_example_1 [ai a, ai b, ai g] (.agg (Link.enc ⟨a, b, 1, 1, 0, 1, g⟩)) := by
  refine contractS fits K.law10_example_1 ?_
  repeat' (first
      | ((with_reducible refine step ?_); conv => whnf) | ((with_reducible refine br_dec (fun h => ?_) (fun h => ?_)) <;> try (exfalso; omega)) | ((with_reducible refine br_ndec (fun h => ?_) (fun h => ?_)) <;> try (exfalso; omega)) | (with_reducible refine br_not (fun h => ?_) (fun h => ?_)) | (with_reducible refine And.intro (fun h => ?_) (fun h => ?_))
      | fail)
  all_goals rfl
def ex10 : Topology := ⟨3, [], [⟨0, 1, 1, 1, 0, 1, 1⟩, ⟨1, 2, 1, 1, 0, 1, 0⟩, ⟨2, 0, 1, 1, 0, 1, 1⟩]⟩
theorem ex10_c : PureCall Tryd.prog F.law10_example [] (.agg ex10.enc) := by
  refine contractS fits K.law10_example ?_
  repeat' (first
      | ((with_reducible refine step ?_); conv => whnf) | ((with_reducible refine br_dec (fun h => ?_) (fun h => ?_)) <;> try (exfalso; omega)) | ((with_reducible refine br_ndec (fun h => ?_) (fun h => ?_)) <;> try (exfalso; omega)) | (with_reducible refine br_not (fun h => ?_) (fun h => ?_)) | (with_reducible refine And.intro (fun h => ?_) (fun h => ?_))
      | (refine call_pure (ex10_1_c _ _ _) rfl rfl ?_; conv => whnf)
      | fail)
  all_goals rfl
theorem words_c : PureCall Tryd.prog F.component_words [] (.agg [.str [], .str [108, 105, 110, 107], .str [110, 111, 100, 101], .str [103, 114, 111, 117, 112]]) := by
  refine contractS fits K.component_words ?_
  repeat' (first
      | ((with_reducible refine step ?_); conv => whnf) | ((with_reducible refine br_dec (fun h => ?_) (fun h => ?_)) <;> try (exfalso; omega)) | ((with_reducible refine br_ndec (fun h => ?_) (fun h => ?_)) <;> try (exfalso; omega)) | (with_reducible refine br_not (fun h => ?_) (fun h => ?_)) | (with_reducible refine And.intro (fun h => ?_) (fun h => ?_))
      | fail)
  all_goals rfl
theorem small_c : PureCall Tryd.prog F.internal_strconv_small [ai 1] (.str [49]) := by
  refine contractS fits K.internal_strconv_small ?_
  repeat' (first
      | ((with_reducible refine step ?_); conv => whnf) | ((with_reducible refine br_dec (fun h => ?_) (fun h => ?_)) <;> try (exfalso; omega)) | ((with_reducible refine br_ndec (fun h => ?_) (fun h => ?_)) <;> try (exfalso; omega)) | (with_reducible refine br_not (fun h => ?_) (fun h => ?_)) | (with_reducible refine And.intro (fun h => ?_) (fun h => ?_))
      | (refine And.intro (by decide) ?_; conv => whnf)
      | fail)
  all_goals rfl
theorem formatInt_c : PureCall Tryd.prog F.internal_strconv_FormatInt [ai 1, ai 10] (.str [49]) := by
  refine contractS fits K.internal_strconv_FormatInt ?_
  repeat' (first
      | ((with_reducible refine step ?_); conv => whnf) | ((with_reducible refine br_dec (fun h => ?_) (fun h => ?_)) <;> try (exfalso; omega)) | ((with_reducible refine br_ndec (fun h => ?_) (fun h => ?_)) <;> try (exfalso; omega)) | (with_reducible refine br_not (fun h => ?_) (fun h => ?_)) | (with_reducible refine And.intro (fun h => ?_) (fun h => ?_))
      | (refine call_pure small_c rfl rfl ?_; conv => whnf)
      | fail)
  all_goals rfl
theorem itoa0_c : PureCall Tryd.prog F.internal_strconv_Itoa [ai 1] (.str [49]) := by
  refine contractS fits K.internal_strconv_Itoa ?_
  repeat' (first
      | ((with_reducible refine step ?_); conv => whnf) | ((with_reducible refine br_dec (fun h => ?_) (fun h => ?_)) <;> try (exfalso; omega)) | ((with_reducible refine br_ndec (fun h => ?_) (fun h => ?_)) <;> try (exfalso; omega)) | (with_reducible refine br_not (fun h => ?_) (fun h => ?_)) | (with_reducible refine And.intro (fun h => ?_) (fun h => ?_))
      | (refine call_pure formatInt_c rfl rfl ?_; conv => whnf)
      | fail)
  all_goals rfl
theorem itoa_c : PureCall Tryd.prog F.strconv_Itoa [ai 1] (.str [49]) := by
  refine contractS fits K.strconv_Itoa ?_
  repeat' (first
      | ((with_reducible refine step ?_); conv => whnf) | ((with_reducible refine br_dec (fun h => ?_) (fun h => ?_)) <;> try (exfalso; omega)) | ((with_reducible refine br_ndec (fun h => ?_) (fun h => ?_)) <;> try (exfalso; omega)) | (with_reducible refine br_not (fun h => ?_) (fun h => ?_)) | (with_reducible refine And.intro (fun h => ?_) (fun h => ?_))
      | (refine call_pure itoa0_c rfl rfl ?_; conv => whnf)
      | fail)
  all_goals rfl
theorem text31_c : PureCall Tryd.prog F.component_Text [.agg (Comp.enc ⟨3, 1⟩)] (.str [103, 114, 111, 117, 112, 32, 49]) := by
  show PureCall Tryd.prog F.component_Text [.agg [ai 3, ai 1]] _
  refine contractS fits K.component_Text ?_
  repeat' (first
      | ((with_reducible refine step ?_); conv => whnf) | ((with_reducible refine br_dec (fun h => ?_) (fun h => ?_)) <;> try (exfalso; omega)) | ((with_reducible refine br_ndec (fun h => ?_) (fun h => ?_)) <;> try (exfalso; omega)) | (with_reducible refine br_not (fun h => ?_) (fun h => ?_)) | (with_reducible refine And.intro (fun h => ?_) (fun h => ?_))
      | (refine call_pure words_c rfl rfl ?_; conv => whnf)
      | (refine call_pure itoa_c rfl rfl ?_; conv => whnf)
      | (refine ⟨3, rfl, by decide, ?_⟩; conv => whnf)
      | (refine And.intro (by decide) ?_; conv => whnf)
      | fail)
  all_goals rfl
theorem large10_c (t : Topology) : PureCall Tryd.prog F.law10_large [.agg t.enc] (.bool (decide (200 < t.overload.length) || decide (300 < t.links.length))) := by
  refine contractS fits K.law10_large ?_
  have hlm : (t.links.map Link.enc).length = t.links.length := List.length_map ..
  have hom : (t.overload.map eBool).length = t.overload.length := List.length_map ..
  repeat' (first
      | ((with_reducible refine step ?_); conv => whnf) | ((with_reducible refine br_dec (fun h => ?_) (fun h => ?_)) <;> try (exfalso; omega)) | ((with_reducible refine br_ndec (fun h => ?_) (fun h => ?_)) <;> try (exfalso; omega)) | (with_reducible refine br_not (fun h => ?_) (fun h => ?_)) | (with_reducible refine And.intro (fun h => ?_) (fun h => ?_))
      | fail)
  all_goals refine congrArg AV.bool ?_
  all_goals grind
theorem awake10_c : PureCall Tryd.prog F.law10_awake [] (.bool true) := by
  refine contractS fits K.law10_awake ?_
  have a2 := arcsC_c ex10 ⟨2, 1⟩
  have a3 := arcsC_c ex10 ⟨3, 1⟩
  have al := all_c ex10
  rw [show arcsB ex10 ⟨2, 1⟩ = ([0, 1, 2, 3], 0) by decide +kernel] at a2
  rw [show arcsB ex10 ⟨3, 1⟩ = ([0, 1, 4, 5], 0) by decide +kernel] at a3
  have s2 := sameInts_c [0, 1, 2, 3] [0, 1, 2, 3] (by decide)
  have s3 := sameInts_c [0, 1, 4, 5] [0, 1, 4, 5] (by decide)
  have hal : (compsB ex10).length = 7 := by decide +kernel
  have hal2 : ((compsB ex10).map Comp.enc).length = 7 := by rw [List.length_map, hal]
  repeat' (first
      | contradiction
      | (exfalso; revert h; decide)
      | ((with_reducible refine step ?_); conv => whnf) | ((with_reducible refine br_dec (fun h => ?_) (fun h => ?_)) <;> try (exfalso; omega)) | ((with_reducible refine br_ndec (fun h => ?_) (fun h => ?_)) <;> try (exfalso; omega)) | (with_reducible refine br_not (fun h => ?_) (fun h => ?_)) | (with_reducible refine And.intro (fun h => ?_) (fun h => ?_))
      | (refine call_pure ex10_c rfl rfl ?_; conv => whnf)
      | (refine call_pure a2 rfl rfl ?_; conv => whnf)
      | (refine call_pure a3 rfl rfl ?_; conv => whnf)
      | (refine call_pure al rfl rfl ?_; conv => whnf)
      | (refine call_pure s2 rfl rfl ?_; conv => whnf)
      | (refine call_pure s3 rfl rfl ?_; conv => whnf)
      | (refine call_pure text31_c rfl rfl ?_; conv => whnf)
      | fail)
  all_goals first | rfl
end Go.Proofs.YtnlelalkkabihaaDoor.Vm
/- The statements of the set 10. -/
set_option linter.all false
namespace Go.Proofs.YtnlelalkkabihaaDoor.Vm
open Go
set_option maxRecDepth 100000
set_option maxHeartbeats 4000000

theorem arcsB_len (t : Topology) (c : Comp) : (arcsB t c).1.length ≤ 2 * t.links.length := by
  unfold arcsB; split
  · exact sel_len ..
  · exact Nat.zero_le _
theorem unionB_len (t : Topology) (cs : List Comp) : (unionB t cs).1.length ≤ 2 * t.links.length := by
  unfold unionB; split
  · simp [maskF]
  · exact Nat.zero_le _
theorem not_large {t : Topology} (h : (decide (200 < t.overload.length) || decide (300 < t.links.length)) = false) : t.links.length ≤ 300 := by
  simp at h; omega

theorem sMask_c (t : Topology) (c : Comp) : PureCall Tryd.prog F.law10_ComponentMask [.agg t.enc, .agg c.enc] (.bool true) := by
  refine contractS fits K.law10_ComponentMask ?_
  have ha := arcsB_len t c
  have hu := unionB_len t [c]
  repeat' (first
      | contradiction
      | ((with_reducible refine step ?_); conv => whnf) | ((with_reducible refine br_dec (fun h => ?_) (fun h => ?_)) <;> try (exfalso; omega)) | ((with_reducible refine br_ndec (fun h => ?_) (fun h => ?_)) <;> try (exfalso; omega)) | (with_reducible refine br_not (fun h => ?_) (fun h => ?_)) | (with_reducible refine And.intro (fun h => ?_) (fun h => ?_))
      | (refine call_pure awake10_c rfl rfl ?_; conv => whnf)
      | (refine call_pure (large10_c t) rfl rfl ?_; conv => whnf)
      | (have hl := not_large ‹_›; refine call_pure (arcsC_c t c) rfl rfl ?_; conv => whnf)
      | (refine call_pure (arcs10C_c t c) rfl rfl ?_; conv => whnf)
      | (refine call_pure (mask_c t c) rfl rfl ?_; conv => whnf)
      | (refine call_pure (mask10_c t c) rfl rfl ?_; conv => whnf)
      | (refine call_pure (compValid_c t c) rfl rfl ?_; conv => whnf)
      | (refine call_pure (comp10Valid_c t c) rfl rfl ?_; conv => whnf)
      | (refine call_pure (sameInts_c (arcsB t c).1 (arcsB t c).1 (by omega)) rfl rfl ?_; conv => whnf)
      | (refine call_pure (sameBools_c (unionB t [c]).1 (unionB t [c]).1 (by omega)) rfl rfl ?_; conv => whnf)
      | fail)
  all_goals first | rfl | (exfalso; simp_all; done) | (refine congrArg AV.bool ?_; simp_all; done)
theorem sUnion_c (t : Topology) (cs : List Comp) (hc : cs.length < 4611686018427387904) : PureCall Tryd.prog F.law10_ComponentUnion [.agg t.enc, asl (cs.map Comp.enc)] (.bool true) := by
  refine contractS fits K.law10_ComponentUnion ?_
  have hu := unionB_len t cs
  have hcm : (cs.map Comp.enc).length = cs.length := List.length_map ..
  repeat' (first
      | contradiction
      | ((with_reducible refine step ?_); conv => whnf) | ((with_reducible refine br_dec (fun h => ?_) (fun h => ?_)) <;> try (exfalso; omega)) | ((with_reducible refine br_ndec (fun h => ?_) (fun h => ?_)) <;> try (exfalso; omega)) | (with_reducible refine br_not (fun h => ?_) (fun h => ?_)) | (with_reducible refine And.intro (fun h => ?_) (fun h => ?_))
      | (refine call_pure awake10_c rfl rfl ?_; conv => whnf)
      | (refine call_pure (large10_c t) rfl rfl ?_; conv => whnf)
      | (have hl := not_large ‹_›; refine call_pure (union_c t cs hc) rfl rfl ?_; conv => whnf)
      | (refine call_pure (union10_c t cs hc) rfl rfl ?_; conv => whnf)
      | (refine call_pure (sameBools_c (unionB t cs).1 (unionB t cs).1 (by omega)) rfl rfl ?_; conv => whnf)
      | fail)
  all_goals first | rfl | (exfalso; simp_all; done) | (refine congrArg AV.bool ?_; simp_all; done)
theorem sWithin_c (t : Topology) (c d : Comp) : PureCall Tryd.prog F.law10_ComponentWithin [.agg t.enc, .agg c.enc, .agg d.enc] (.bool true) := by
  refine contractS fits K.law10_ComponentWithin ?_
  repeat' (first
      | contradiction
      | ((with_reducible refine step ?_); conv => whnf) | ((with_reducible refine br_dec (fun h => ?_) (fun h => ?_)) <;> try (exfalso; omega)) | ((with_reducible refine br_ndec (fun h => ?_) (fun h => ?_)) <;> try (exfalso; omega)) | (with_reducible refine br_not (fun h => ?_) (fun h => ?_)) | (with_reducible refine And.intro (fun h => ?_) (fun h => ?_))
      | (refine call_pure awake10_c rfl rfl ?_; conv => whnf)
      | (refine call_pure (large10_c t) rfl rfl ?_; conv => whnf)
      | (refine call_pure (within_c10 t c d) rfl rfl ?_; conv => whnf)
      | (refine call_pure (within10_c t c d) rfl rfl ?_; conv => whnf)
      | fail)
  all_goals first | rfl | (exfalso; simp_all; done) | (refine congrArg AV.bool ?_; simp_all; done)
theorem comps_valid {t : Topology} (hv : t.valid = true) {c : Comp} (hc : c ∈ compsB t) : c.valid t = true := by
  have hnn := valid_nodes hv
  rw [compsB, if_pos hv] at hc
  simp only [List.mem_append, nums, grps, List.mem_map, List.mem_range, List.mem_filter] at hc
  rcases hc with (⟨a, ha, rfl⟩ | ⟨a, ha, rfl⟩) | ⟨a, ha, rfl⟩
  · simp [Comp.valid, hv]; omega
  · simp [Comp.valid, hv]; omega
  · simp [Comp.valid, hv]; omega
theorem comps_valid' {t : Topology} {c : Comp} (hc : c ∈ compsB t) : c.valid t = true := by
  by_cases hv : t.valid = true
  · exact comps_valid hv hc
  · rw [compsB, if_neg hv] at hc; simp at hc
theorem sAll_c (t : Topology) : PureCall Tryd.prog F.law10_ComponentAll [.agg t.enc] (.bool true) := by
  refine contractS fits K.law10_ComponentAll ?_
  repeat' (first
      | contradiction
      | ((with_reducible refine step ?_); conv => whnf) | ((with_reducible refine br_dec (fun h => ?_) (fun h => ?_)) <;> try (exfalso; omega)) | ((with_reducible refine br_ndec (fun h => ?_) (fun h => ?_)) <;> try (exfalso; omega)) | (with_reducible refine br_not (fun h => ?_) (fun h => ?_)) | (with_reducible refine And.intro (fun h => ?_) (fun h => ?_))
      | (refine call_pure awake10_c rfl rfl ?_; conv => whnf)
      | (refine call_pure (large10_c t) rfl rfl ?_; conv => whnf)
      | (refine call_pure (all_c t) rfl rfl ?_; conv => whnf)
      | (refine call_pure (all10_c t) rfl rfl ?_; conv => whnf)
      | fail)
  · have hl := not_large ‹_›
    have hlen : (compsB t).length ≤ 428 := by
      unfold compsB; split
      · have := valid_links ‹_›; have := valid_nodes ‹_›; have := grps_len t 64
        simp only [List.length_append, nums_len]; omega
      · simp
    have hcm : ((compsB t).map Comp.enc).length = (compsB t).length := List.length_map ..
    refine loop_invS (fun i => i ≤ (compsB t).length) [1, 3, 4, 20, 21] 1 (fun i => [(21, ai i)]) (fun _ => []) (fun i => (compsB t).length - i) 0 (by decide) (by decide) ?_
    conv => whnf
    refine ⟨rfl, rfl, by omega, fun i hi => ?_⟩
    repeat' (first
      | contradiction
      | ((with_reducible refine step ?_); conv => whnf) | ((with_reducible refine br_dec (fun h => ?_) (fun h => ?_)) <;> try (exfalso; omega)) | ((with_reducible refine br_ndec (fun h => ?_) (fun h => ?_)) <;> try (exfalso; omega)) | (with_reducible refine br_not (fun h => ?_) (fun h => ?_)) | (with_reducible refine And.intro (fun h => ?_) (fun h => ?_))
      | (have hlt : i < (compsB t).length := (by omega); refine idx_nat hlt rfl ?_; conv => whnf)
      | (refine call_pure (compValid_c t _) rfl rfl ?_; conv => whnf)
      | fail)
    · exfalso; revert h; simp
    · exfalso; rw [comps_valid' (List.getElem_mem hlt)] at h; exact nomatch h
    · exact ⟨i + 1, by omega, by omega, by rw [wrap_succ (by omega)]; rfl, rfl⟩

theorem within_iff {t : Topology} {c d : Comp} : withinB t c d = true ↔ c.valid t = true ∧ d.valid t = true ∧ ∀ i (hi : i < t.links.length), c.has i t.links[i] = true → d.has i t.links[i] = true := by
  rw [withinB, Bool.and_eq_true, Bool.and_eq_true, List.all_eq_true]
  constructor
  · rintro ⟨⟨h1, h2⟩, h⟩
    refine ⟨h1, h2, fun i hi hc => ?_⟩
    have := h i (List.mem_range.2 hi)
    rw [getD_at hi, hc] at this
    simpa using this
  · rintro ⟨h1, h2, h⟩
    refine ⟨⟨h1, h2⟩, fun i hi => ?_⟩
    have hi := List.mem_range.1 hi
    rw [getD_at hi]
    cases hc : c.has i t.links[i] with
    | false => rfl
    | true => rw [h i hi hc]; rfl
theorem within_trans {t : Topology} {a b c : Comp} (h1 : withinB t a b = true) (h2 : withinB t b c = true) : withinB t a c = true := by
  rw [within_iff] at *
  exact ⟨h1.1, h2.2.1, fun i hi h => h2.2.2 i hi (h1.2.2 i hi h)⟩
theorem within_refl (t : Topology) (a : Comp) : withinB t a a = a.valid t := by
  rw [Bool.eq_iff_iff, within_iff]
  exact ⟨fun h => h.1, fun h => ⟨h, h, fun _ _ q => q⟩⟩
theorem within_link {t : Topology} (hv : t.valid = true) {i : Nat} (hi : i < t.links.length) : withinB t ⟨1, i⟩ ⟨2, t.links[i].a⟩ = true ∧ withinB t ⟨1, i⟩ ⟨2, t.links[i].b⟩ = true ∧ (t.links[i].group ≠ 0 → withinB t ⟨1, i⟩ ⟨3, t.links[i].group⟩ = true) := by
  have hnn := valid_nodes hv
  have hp : t.links[i].proper t.nodes = true := by
    have hv' := hv
    simp only [Topology.valid, Bool.and_eq_true, List.all_eq_true] at hv'
    exact hv'.2 _ (List.getElem_mem hi)
  simp only [Link.proper, Bool.and_eq_true, decide_eq_true_eq] at hp
  rw [wrap_in (by omega)] at hp
  have h1 : Comp.valid t ⟨1, (i : Int)⟩ = true := by simp [Comp.valid, hv]; omega
  refine ⟨within_iff.2 ⟨h1, ?_, fun k hk h => ?_⟩, within_iff.2 ⟨h1, ?_, fun k hk h => ?_⟩, fun hg => within_iff.2 ⟨h1, ?_, fun k hk h => ?_⟩⟩
  · simp [Comp.valid, hv]; omega
  · have : k = i := by have h : (k : Int) = i := (by simpa [Comp.has] using h); omega
    subst this; simp [Comp.has]
  · simp [Comp.valid, hv]; omega
  · have : k = i := by have h : (k : Int) = i := (by simpa [Comp.has] using h); omega
    subst this; simp [Comp.has]
  · simp [Comp.valid, hv]; omega
  · have : k = i := by have h : (k : Int) = i := (by simpa [Comp.has] using h); omega
    subst this; simp [Comp.has]

end Go.Proofs.YtnlelalkkabihaaDoor.Vm
/- The statement Order of the set 10. -/
set_option linter.all false
namespace Go.Proofs.YtnlelalkkabihaaDoor.Vm
open Go
set_option maxRecDepth 100000
set_option maxHeartbeats 4000000

theorem sOrder_c (t : Topology) (a b c : Comp) (l : Int) : PureCall Tryd.prog F.law10_ComponentOrder [.agg t.enc, .agg (a.enc ++ b.enc ++ c.enc), ai l] (.bool true) := by
  show PureCall Tryd.prog F.law10_ComponentOrder [.agg t.enc, .agg [ai a.kind, ai a.num, ai b.kind, ai b.num, ai c.kind, ai c.num], ai l] (.bool true)
  refine contractS fits K.law10_ComponentOrder ?_
  have hlm : (t.links.map Link.enc).length = t.links.length := List.length_map ..
  have c1 := within_c10 t a b
  have c2 := within_c10 t b c
  have c3 := within_c10 t a c
  have c4 := within_c10 t a a
  have c5 := compValid_c t a
  have htr : withinB t a b = true → withinB t b c = true → withinB t a c = true := within_trans
  rw [within_refl] at c4
  generalize withinB t a b = w1 at c1 htr
  generalize withinB t b c = w2 at c2 htr
  generalize withinB t a c = w3 at c3 htr
  have hlk := fun (hv : t.valid = true) (h0 : 0 ≤ l) (h : l < t.links.length) => by
    have := within_link hv (i := l.toNat) (by omega)
    rw [show ((l.toNat : Nat) : Int) = l by omega] at this
    exact this
  generalize a.valid t = v at c4 c5
  repeat' (first
      | contradiction
      | ((with_reducible refine step ?_); conv => whnf) | ((with_reducible refine br_dec (fun h => ?_) (fun h => ?_)) <;> try (exfalso; omega)) | ((with_reducible refine br_ndec (fun h => ?_) (fun h => ?_)) <;> try (exfalso; omega)) | (with_reducible refine br_not (fun h => ?_) (fun h => ?_)) | (with_reducible refine And.intro (fun h => ?_) (fun h => ?_))
      | (refine call_pure awake10_c rfl rfl ?_; conv => whnf)
      | (refine call_pure (large10_c t) rfl rfl ?_; conv => whnf)
      | (refine call_pure (valid9_c t) rfl rfl ?_; conv => whnf)
      | (refine call_pure c1 rfl rfl ?_; conv => whnf)
      | (refine call_pure c2 rfl rfl ?_; conv => whnf)
      | (refine call_pure c3 rfl rfl ?_; conv => whnf)
      | (refine call_pure c4 rfl rfl ?_; conv => whnf)
      | (refine call_pure c5 rfl rfl ?_; conv => whnf)
      | (refine ⟨0, rfl, by decide, ?_⟩; conv => whnf)
      | (refine ⟨1, rfl, by decide, ?_⟩; conv => whnf)
      | (refine ⟨2, rfl, by decide, ?_⟩; conv => whnf)
      | fail)
  all_goals first
    | rfl
    | (exfalso; have := htr (by assumption) (by assumption); rw [this] at h; exact nomatch h)
    | (exfalso; revert h; simp; done)
    | skip
  all_goals
    have hv : t.valid = true := by assumption
    have hr1 : ¬ l < 0 := by assumption
    have hr2 : ¬ ((t.links.map Link.enc).length : Int) ≤ l := by assumption
    have hl0 : l.toNat < t.links.length := by omega
    obtain ⟨k1, k2, k3⟩ := hlk hv (by omega) (by omega)
    have d1 := within_c10 t ⟨1, l⟩ ⟨2, (t.links[l.toNat]).a⟩
    have d2 := within_c10 t ⟨1, l⟩ ⟨2, (t.links[l.toNat]).b⟩
    have d3 := fun h => (congrArg (fun b => PureCall Tryd.prog F.component_Within [.agg t.enc, .agg (Comp.enc ⟨1, l⟩), .agg (Comp.enc ⟨3, (t.links[l.toNat]).group⟩)] (.bool b)) (k3 h)).mp (within_c10 t ⟨1, l⟩ ⟨3, (t.links[l.toNat]).group⟩)
    rw [k1] at d1
    rw [k2] at d2
    clear c1 c2 c3 c4 c5 htr hlk k1 k2 k3
    repeat' (first
      | contradiction
      | ((with_reducible refine step ?_); conv => whnf) | ((with_reducible refine br_dec (fun h => ?_) (fun h => ?_)) <;> try (exfalso; omega)) | ((with_reducible refine br_ndec (fun h => ?_) (fun h => ?_)) <;> try (exfalso; omega)) | (with_reducible refine br_not (fun h => ?_) (fun h => ?_)) | (with_reducible refine And.intro (fun h => ?_) (fun h => ?_))
      | (refine idx_int (j := l.toNat) (by omega) hl0 rfl ?_; conv => whnf)
      | (refine call_pure d1 rfl rfl ?_; conv => whnf)
      | (refine call_pure d2 rfl rfl ?_; conv => whnf)
      | (refine call_pure (d3 (by assumption)) rfl rfl ?_; conv => whnf)
      | fail)
  all_goals first | rfl
end Go.Proofs.YtnlelalkkabihaaDoor.Vm
/- Data and rows of the seat tc (tied cards). -/
set_option linter.all false
namespace Go.Proofs.YtnlelalkkabihaaDoor.Vm
open Go Go.ChangeShapes Go.WideShapes Go.ChangeAt Go.RowKit Go.Proofs.YtnlelalkkabihaaDoor
set_option maxRecDepth 100000
theorem sum_bulk {H : Type} : ∀ (l : List (DataW H)), (l.map (Rows.uptoBulk (H := H))).sum = Rows.uptoBulkAll l := by
  intro l; induction l with
  | nil => simp [Rows.uptoBulkAll]
  | cons x l ih => simp [Rows.uptoBulkAll, ih]
theorem uok : UOk (fun H => Rows.uptoBulk (H := H)) where
  str H b := by simp [Rows.uptoBulk]
  lit H l := by cases l <;> simp [Rows.uptoBulk]
  nil H := by simp [Rows.uptoBulk]
  slice H es sp := by simp [Rows.uptoBulk, sum_bulk]
  agg H ps := by simp [Rows.uptoBulk, sum_bulk]
theorem ownKn : ownKnob Tryd.prog.godebug = none := by kernel_rfl
abbrev UB : (H : Type) → DataW H → Nat := fun H => Rows.uptoBulk (H := H)
theorem laid : laidOutB Tryd.prog = true := by kernel_rfl
def okAny (α : Type) : α → Prop := fun _ => True
def bulk0 (α : Type) : α → Nat := fun _ => 0

/-- a struct's fields, as far as they matter -/
def fldsOf (P : Program) (t : TypeId) : Option (List (TypeId × Nat)) := match P.underlying t with
  | some (.struct fs) => some (fs.toList.map fun f => (f.type, f.offset))
  | _ => none
def fld (x : TypeId × Nat) : Field := ⟨ "", x.1, x.2, false, "", "", 0⟩
theorem OpensF.congr {P : Program} {U : (H : Type) → DataW H → Nat} {fs fs' : List Field} {o : Nat} {β : Type} {n : Nat} {enc : β → List AV} {ok : β → Prop} {bulk : β → Nat} (h : OpensF P U fs' o β n enc ok bulk) (he : fs.map (fun f => (f.type, f.offset)) = fs'.map fun f => (f.type, f.offset)) : OpensF P U fs o β n enc ok bulk where
  len := h.len
  pure := h.pure
  op eh w base held m cs xs h1 h2 h3 hwt := by
    have ht : fs.map (·.type) = fs'.map (·.type) := by
      have := congrArg (List.map Prod.fst) he
      rw [List.map_map, List.map_map] at this
      exact this
    rw [ht] at hwt
    refine h.op eh w base held m cs xs h1 (by rw [h2, ← List.length_map (f := fun f : Field => (f.type, f.offset)), he, List.length_map]) (fun i f hf => ?_) hwt
    have := congrArg (fun l : List (TypeId × Nat) => l[i]?) he
    simp only [List.getElem?_map, hf, Option.map_some, Option.map_eq_some_iff, Prod.mk.injEq] at this
    obtain ⟨f', q1, q2, q3⟩ := this
    have := h3 i f' q1
    rw [q2, q3] at this
    exact this
theorem opens_flds {P : Program} {U : (H : Type) → DataW H → Nat} (hU : UOk U) {t : TypeId} {l : List (TypeId × Nat)} {β : Type} {n : Nat} {enc : β → List AV} {ok : β → Prop} {bulk : β → Nat} (ht : fldsOf P t = some l) (hc : P.cellsOf t = n) (h0 : 0 < n)
    (h : OpensF P U (l.map fld) 0 β n enc ok bulk) : Opens P U t β n enc ok (fun x => bulk x + 1) := by
  unfold fldsOf at ht
  split at ht
  · rename_i fs hfs
    refine opens_struct hU hfs hc h0 (h.congr ?_)
    cases ht
    rw [List.map_map]
    exact (List.map_id _).symm
  · exact nomatch ht
theorem struct_flds {P : Program} {t : TypeId} {l : List (TypeId × Nat)} (ht : fldsOf P t = some l) : ∃ fs, P.underlying t = some (.struct fs) := by
  unfold fldsOf at ht
  split at ht
  · rename_i fs hfs; exact ⟨fs, hfs⟩
  · exact nomatch ht

theorem o_int : Opens Tryd.prog UB 3 Int 1 (fun n => [.int .i64 n]) (okAny _) (bulk0 _) := (opens_int uok (k := .i64) (by kernel_rfl) (by kernel_rfl)).map id (fun _ => rfl) (fun y a h => by simp at h; subst h; rfl) (fun _ => rfl) (fun _ _ => trivial) (fun _ => Nat.zero_le _)
theorem o_bool : Opens Tryd.prog UB 4 Bool 1 (fun b => [.bool b]) (fun _ => True) (fun _ => 1) := opens_bool uok (by kernel_rfl) (by kernel_rfl)
theorem o_cost : Opens Tryd.prog UB 55 (Int × Int) 2 (fun x => [.int .i64 x.1] ++ [.int .i64 x.2]) (okAny _) (bulk0 _) := (opens_two uok (e := 3) (by kernel_rfl) (by kernel_rfl) o_int).map id (fun _ => rfl) (fun y a h => by simp at h; rcases h with rfl | rfl <;> rfl) (fun _ => rfl) (fun _ _ => trivial) (fun _ => Nat.zero_le _)
theorem o_link : Opens Tryd.prog UB 57 Link 7 Link.enc (okAny _) (bulk0 _) :=
  (opens_flds uok (l := [(3, 0), (3, 1), (55, 2), (3, 4), (3, 5), (3, 6)]) (by kernel_rfl) (by kernel_rfl) (by decide)
    (opens_cons (f := fld (3, 0)) o_int (opens_cons (f := fld (3, 1)) o_int (opens_cons (f := fld (55, 2)) o_cost (opens_cons (f := fld (3, 4)) o_int (opens_cons (f := fld (3, 5)) o_int (opens_cons (f := fld (3, 6)) o_int opens_nil))))))).map
    (fun x => ⟨x.1, x.2.1, x.2.2.1.1, x.2.2.1.2, x.2.2.2.1, x.2.2.2.2.1, x.2.2.2.2.2.1⟩) (fun _ => rfl) (fun y a h => by
      simp only [Link.enc, List.mem_cons, List.mem_nil_iff, or_false] at h; rcases h with rfl | rfl | rfl | rfl | rfl | rfl | rfl <;> rfl) (fun _ => rfl) (fun _ _ => trivial) (fun _ => Nat.zero_le _)
theorem o_list {t e : TypeId} {α : Type} {n : Nat} {enc : α → List AV} (ht : Tryd.prog.underlying t = some (.slice e)) (hc : Tryd.prog.cellsOf t = 1) (h : Opens Tryd.prog UB e α n enc (okAny _) (bulk0 _)) :
    Opens Tryd.prog UB t (List α) 1 (fun xs => [asl (xs.map enc)]) (okAny _) (bulk0 _) :=
  (opens_slice uok ht hc h).map id (fun _ => rfl) (fun y a h => by simp at h; subst h; rfl) (fun _ => rfl) (fun _ _ => trivial) (fun _ => Nat.zero_le _)
theorem o_bools : Opens Tryd.prog UB 22 (List Bool) 1 (fun xs => [asl (xs.map eBool)]) (okAny _) (bulk0 _) := o_list (by kernel_rfl) (by kernel_rfl) (o_bool.map id (enc' := eBool) (fun _ => rfl) (fun y a h => by simp [eBool] at h; subst h; rfl) (fun _ => rfl) (fun _ _ => trivial) (fun _ => Nat.zero_le _))
theorem o_links : Opens Tryd.prog UB 23 (List Link) 1 (fun xs => [asl (xs.map Link.enc)]) (okAny _) (bulk0 _) := o_list (by kernel_rfl) (by kernel_rfl) o_link
theorem o_topology : Opens Tryd.prog UB 25 Topology 3 Topology.enc (okAny _) (bulk0 _) :=
  (opens_flds uok (l := [(3, 0), (22, 1), (23, 2)]) (by kernel_rfl) (by kernel_rfl) (by decide)
    (opens_cons (f := fld (3, 0)) o_int (opens_cons (f := fld (22, 1)) o_bools (opens_cons (f := fld (23, 2)) o_links opens_nil)))).map
    (fun x => ⟨x.1, x.2.1, x.2.2.1⟩) (fun _ => rfl) (fun y a h => by
      simp only [Topology.enc, List.mem_cons, List.mem_nil_iff, or_false] at h; rcases h with rfl | rfl | rfl <;> rfl) (fun _ => rfl) (fun _ _ => trivial) (fun _ => Nat.zero_le _)
theorem reach_len {n b : Nat} (hb : 1 ≤ b) (h : n * b ≤ reachBytes) : n ≤ 140737488355328 :=
  Nat.le_trans (Nat.le_mul_of_pos_right n hb) (Nat.le_trans h (by decide))
theorem o_listK {t e : TypeId} {α : Type} {n : Nat} {enc : α → List AV} {ok : α → Prop} (hb : 1 ≤ Tryd.prog.bytesOf e) (ht : Tryd.prog.underlying t = some (.slice e)) (hc : Tryd.prog.cellsOf t = 1) (h : Opens Tryd.prog UB e α n enc ok (bulk0 _)) :
    Opens Tryd.prog UB t (List α) 1 (fun xs => [asl (xs.map enc)]) (fun xs => (∀ x ∈ xs, ok x) ∧ xs.length ≤ 140737488355328) (bulk0 _) :=
  (opens_slice uok ht hc h).map id (fun _ => rfl) (fun y a h => by simp at h; subst h; rfl) (fun _ => rfl) (fun _ h => ⟨h.1, reach_len hb h.2⟩) (fun _ => Nat.zero_le _)
theorem o_comp : Opens Tryd.prog UB 42 Comp 2 Comp.enc (okAny _) (bulk0 _) :=
  (opens_flds uok (l := [(3, 0), (3, 1)]) (by kernel_rfl) (by kernel_rfl) (by decide)
    (opens_cons (f := fld (3, 0)) o_int (opens_cons (f := fld (3, 1)) o_int opens_nil))).map
    (fun x => ⟨x.1, x.2.1⟩) (fun _ => rfl) (fun y a h => by
      simp only [Comp.enc, List.mem_cons, List.mem_nil_iff, or_false] at h; rcases h with rfl | rfl <;> rfl) (fun _ => rfl) (fun _ _ => trivial) (fun _ => Nat.zero_le _)
theorem o_comps : Opens Tryd.prog UB 49 (List Comp) 1 (fun xs => [asl (xs.map Comp.enc)]) (fun xs => xs.length ≤ 140737488355328) (bulk0 _) :=
  (o_listK (by decide +kernel) (by kernel_rfl) (by kernel_rfl) o_comp).map id (fun _ => rfl) (fun y a h => by simp at h; subst h; rfl) (fun _ => rfl) (fun _ h => h.2) (fun _ => Nat.zero_le _)

theorem opens_three {P : Program} {U : (H : Type) → DataW H → Nat} (hU : UOk U) {t e : TypeId} {α : Type} {n : Nat} {enc : α → List AV} {ok : α → Prop} {bulk : α → Nat} (ht : P.underlying t = some (.array 3 e)) (hc : P.cellsOf t = n + n + n) (h : Opens P U e α n enc ok bulk) :
    Opens P U t (α × α × α) (n + n + n) (fun x => enc x.1 ++ enc x.2.1 ++ enc x.2.2) (fun _ => True) (fun _ => 0) where
  size := hc
  pos := by have := h.pos; omega
  len x := by rw [List.length_append, List.length_append, h.len, h.len, h.len]
  pure x a hh := by
    rcases List.mem_append.1 hh with hh | hh
    · rcases List.mem_append.1 hh with hh | hh
      · exact h.pure _ a hh
      · exact h.pure _ a hh
    · exact h.pure _ a hh
  op eh w base held fuel cs d ps hd hwt := by
    obtain ⟨xs, m, _, h2, h3, h4, h5⟩ := DataW.trod_array ht hd
    cases h2
    simp only [DataW.weights, ht] at hwt
    match xs, h4 with
    | [(d1, p1), (d2, p2), (d3, p3)], _ =>
      have e1 := h5 0 (by omega)
      have e2 := h5 1 (by omega)
      have e3 := h5 2 (by omega)
      rw [h.size] at e1 e2 e3
      simp only [Nat.zero_mul, List.drop_zero, List.getElem?_cons_zero, Nat.one_mul, List.getElem?_cons_succ] at e1 e2 e3
      simp only [List.map_cons, List.map_nil, DataW.weightsAll, List.mem_append, List.append_nil] at hwt
      obtain ⟨x1, q1, _, _⟩ := h.op eh w base held m _ d1 p1 e1 fun n hn => hwt n (.inl hn)
      obtain ⟨x2, r1, _, _⟩ := h.op eh w base held m _ d2 p2 e2 fun n hn => hwt n (.inr (.inl hn))
      obtain ⟨x3, s1, _, _⟩ := h.op eh w base held m _ d3 p3 e3 fun n hn => hwt n (.inr (.inr hn))
      have hsplit : cs = cs.take n ++ (cs.drop n).take n ++ (cs.drop (2 * n)).take n := by
        rw [← List.take_add, show 2 * n = n + n by omega, ← List.take_add, ← hc, ← h3, List.take_length]
      refine ⟨(x1, x2, x3), ?_, trivial, Nat.zero_le _⟩
      rw [hsplit]
      have app : ∀ {a1 a2 : List AV} {v1 v2 : List Value}, RelL (stG (oldS w)) w a1 v1 → RelL (stG (oldS w)) w a2 v2 → RelL (stG (oldS w)) w (a1 ++ a2) (v1 ++ v2) := by
        intro a1 a2 v1 v2 k1 k2
        refine ⟨by rw [List.length_append, List.length_append, k1.len, k2.len], fun j a v ha hv => ?_⟩
        rw [List.getElem?_append] at ha hv
        rw [k1.len] at ha
        split at ha
        · rename_i hj; rw [if_pos hj] at hv; exact k1.rel _ _ _ ha hv
        · rename_i hj; rw [if_neg hj] at hv; exact k2.rel _ _ _ ha hv
      exact app (app q1 r1) s1
theorem o_comp3 : Opens Tryd.prog UB 54 (Comp × Comp × Comp) 6 (fun x => x.1.enc ++ x.2.1.enc ++ x.2.2.enc) (okAny _) (bulk0 _) :=
  (opens_three uok (by kernel_rfl) (by kernel_rfl) o_comp).map id (fun _ => rfl) (fun y a h => by
      simp only [Comp.enc, List.mem_append, List.mem_cons, List.mem_nil_iff, or_false] at h; rcases h with ((rfl | rfl) | (rfl | rfl)) | (rfl | rfl) <;> rfl) (fun _ => rfl) (fun _ _ => trivial) (fun _ => Nat.zero_le _)

/-- an argument, as it is handed in -/
def Arg (t : TypeId) (α : Type) (enc : α → AV) (ok : α → Prop) : Prop :=
  ∀ (H : Type) (eh : TypeId × Value → H) (W : World) (base : Nat) (v : Value) (d : DataW H) (p : List MemPlace), Value.okWide Tryd.prog W .any base t v → DataW.Trod eh Tryd.prog W 0 (fun _ => true) true t v d p → (∀ n ∈ DataW.weights Tryd.prog t d, n ≤ reachBytes) →
    ∃ x, Rel (stG (oldS W)) W (enc x) v ∧ ok x
theorem a_struct {t : TypeId} {α : Type} {n : Nat} {enc : α → List AV} {ok : α → Prop} {l : List (TypeId × Nat)} (hO : Opens Tryd.prog UB t α n enc ok (bulk0 _)) (hl : fldsOf Tryd.prog t = some l) : Arg t α (fun x => .agg (enc x)) ok :=
  fun H eh W base v d p h1 h2 h3 => by
    obtain ⟨fs, hfs⟩ := struct_flds hl
    obtain ⟨x, k1, k2, _⟩ := arg_struct hO hfs h1 h2 h3
    exact ⟨x, k1, k2⟩
theorem a_cell {t : TypeId} {α : Type} {enc : α → AV} {ok : α → Prop} {d2 : TypeDesc} (hO : Opens Tryd.prog UB t α 1 (fun x => [enc x]) ok (bulk0 _)) (hd2 : Tryd.prog.underlying t = some d2) (hn1 : ∀ fs, d2 ≠ .struct fs) (hn2 : ∀ n e, d2 ≠ .array n e) : Arg t α enc ok :=
  fun H eh W base v d p h1 h2 h3 => by
    obtain ⟨x, k1, k2, _⟩ := arg_cell hO hd2 hn1 hn2 h1 h2 h3
    exact ⟨x, k1, k2⟩
theorem a_array {t e : TypeId} {α : Type} {n m : Nat} {enc : α → List AV} {ok : α → Prop} (hO : Opens Tryd.prog UB t α n enc ok (bulk0 _)) (hd : Tryd.prog.underlying t = some (.array m e)) : Arg t α (fun x => .agg (enc x)) ok :=
  fun H eh W base v d p h1 h2 h3 => by
    have : ∃ cs, v = .agg cs := by
      unfold Value.okWide at h1
      rw [hd] at h1
      obtain ⟨cs, rfl, _⟩ := h1
      exact ⟨cs, rfl⟩
    obtain ⟨cs, rfl⟩ := this
    obtain ⟨fuel, ht⟩ := h2
    obtain ⟨x, k1, k2, _⟩ := hO.op eh W 0 true fuel _ d p ht h3
    refine ⟨x, .agg (k1.len.trans (by simp [Value.cells])) fun i a u ha hu => k1.rel i a u ha ?_, k2⟩
    show cs.toList[i]? = some u
    simpa using hu
abbrev Rd (t : TypeId) : Prop := Tryd.prog.readableRec t = true ∧ t < Tryd.prog.types.size

theorem rowA1 {fn : Func} {fid : FuncId} {s : ChangeSpec} {α : Type} {enc : α → AV} {ok : α → Prop} {t : TypeId} (hO : Arg t α enc ok)
    (hp : ∀ x, ok x → PureCall Tryd.prog fid [enc x] (.bool true)) (hpar : fn.params = #[t]) (hrd : Rd t) (hvars : s.vars = []) (hspec : ∀ (H : Type) (d : DataW H), s.fn H [d] = { results := [.lit (.bool true)], args := [d] }) (hrt : fn.resultTypes = #[4])
    (H : Type) (eh : TypeId × Value → H) (W : World) (base : Nat) (args : Array Value) (ds gs : List (DataW H)) (before : List MemPlace)
    (hval : ∀ (j : Nat) t v, fn.params[j]? = some t → args[j]? = some v → Value.okWide Tryd.prog W .any base t v)
    (hW : DataW.Whole eh Tryd.prog fn.params.toList s.vars false W args.toList ds gs before)
    (hsz : (DataW.weightsEach Tryd.prog (fn.params.toList ++ s.plain.varTypes Tryd.prog) (ds ++ gs)).all (· ≤ reachBytes) = true) :
    Calls Tryd.prog fid args W fun e W' => ∃ v, e = .returned v ∧ s.post eh Tryd.prog fn false true false false W args v W' := by
  have hW' := hW
  obtain ⟨p, q, hA, hV, hps, hfz, hnd⟩ := hW
  have hwe : ∀ {j : Nat} {t : TypeId} {d : DataW H}, fn.params.toList[j]? = some t → ds[j]? = some d → ∀ n ∈ DataW.weights Tryd.prog t d, n ≤ reachBytes := fun {j t d} ht hd n hn => by
    have := List.all_eq_true.1 hsz n (DataW.weights_mem_each (j := j) (by rw [List.getElem?_append_left (List.getElem?_eq_some_iff.1 ht).1]; exact ht) (by rw [List.getElem?_append_left (List.getElem?_eq_some_iff.1 hd).1]; exact hd) n hn)
    simpa using this
  rw [hpar] at hA hval hwe
  rw [hvars] at hV
  obtain ⟨v0, vs0, d0, ds0, p0, q0, hargs, rfl, rfl, h0, r0⟩ := trodAll_cons hA
  obtain ⟨rfl, rfl, rfl⟩ := trodAll_nil r0
  obtain rfl : args = #[v0] := by cases args; simp_all
  obtain ⟨rfl, rfl⟩ := trodVars_none hV
  obtain ⟨x, h1, h2⟩ := hO H eh W base v0 d0 p0 (hval 0 t v0 rfl rfl) h0 (hwe (j := 0) rfl rfl)
  refine (law_calls (hp x h2) rfl (fun i a v ha hv => ?_)).mono fun e W' ⟨he, g, g', hE⟩ => ?_
  · cases i with
    | zero => cases ha; cases hv; exact h1
    | succ i => simp at ha
  · subst he
    have hs := hspec H d0
    exact ⟨_, rfl, law_post (tb := 4) laid (by rw [hpar]; intro t' ht'; simp at ht'; subst ht'; exact hrd) hvars (by rw [List.append_nil, hs]) (by rw [List.append_nil, hs]) (by rw [List.append_nil, hs]) hrt (by kernel_rfl) hW' hE⟩
theorem rowA2 {fn : Func} {fid : FuncId} {s : ChangeSpec} {α β : Type} {enc : α → AV} {ok : α → Prop} {enc2 : β → AV} {ok2 : β → Prop} {t t2 : TypeId} (hO : Arg t α enc ok) (hO2 : Arg t2 β enc2 ok2)
    (hp : ∀ x b, ok x → ok2 b → PureCall Tryd.prog fid [enc x, enc2 b] (.bool true)) (hpar : fn.params = #[t, t2]) (hrd : Rd t) (hrd2 : Rd t2) (hvars : s.vars = []) (hspec : ∀ (H : Type) (d d' : DataW H), s.fn H [d, d'] = { results := [.lit (.bool true)], args := [d, d'] }) (hrt : fn.resultTypes = #[4])
    (H : Type) (eh : TypeId × Value → H) (W : World) (base : Nat) (args : Array Value) (ds gs : List (DataW H)) (before : List MemPlace)
    (hval : ∀ (j : Nat) t v, fn.params[j]? = some t → args[j]? = some v → Value.okWide Tryd.prog W .any base t v)
    (hW : DataW.Whole eh Tryd.prog fn.params.toList s.vars false W args.toList ds gs before)
    (hsz : (DataW.weightsEach Tryd.prog (fn.params.toList ++ s.plain.varTypes Tryd.prog) (ds ++ gs)).all (· ≤ reachBytes) = true) :
    Calls Tryd.prog fid args W fun e W' => ∃ v, e = .returned v ∧ s.post eh Tryd.prog fn false true false false W args v W' := by
  have hW' := hW
  obtain ⟨p, q, hA, hV, hps, hfz, hnd⟩ := hW
  have hwe : ∀ {j : Nat} {t : TypeId} {d : DataW H}, fn.params.toList[j]? = some t → ds[j]? = some d → ∀ n ∈ DataW.weights Tryd.prog t d, n ≤ reachBytes := fun {j t d} ht hd n hn => by
    have := List.all_eq_true.1 hsz n (DataW.weights_mem_each (j := j) (by rw [List.getElem?_append_left (List.getElem?_eq_some_iff.1 ht).1]; exact ht) (by rw [List.getElem?_append_left (List.getElem?_eq_some_iff.1 hd).1]; exact hd) n hn)
    simpa using this
  rw [hpar] at hA hval hwe
  rw [hvars] at hV
  obtain ⟨v0, vs0, d0, ds0, p0, q0, hargs, rfl, rfl, h0, r0⟩ := trodAll_cons hA
  obtain ⟨v1, vs1, d1, ds1, p1, q1, hargs1, rfl, rfl, h1, r1⟩ := trodAll_cons r0
  obtain ⟨rfl, rfl, rfl⟩ := trodAll_nil r1
  subst hargs1
  obtain rfl : args = #[v0, v1] := by cases args; simp_all
  obtain ⟨rfl, rfl⟩ := trodVars_none hV
  obtain ⟨x, hx, hx2⟩ := hO H eh W base v0 d0 p0 (hval 0 t v0 rfl rfl) h0 (hwe (j := 0) rfl rfl)
  obtain ⟨b, hb, hb2⟩ := hO2 H eh W base v1 d1 p1 (hval 1 t2 v1 rfl rfl) h1 (hwe (j := 1) rfl rfl)
  refine (law_calls (hp x b hx2 hb2) rfl (fun i a v ha hv => ?_)).mono fun e W' ⟨he, g, g', hE⟩ => ?_
  · match i with
    | 0 => cases ha; cases hv; exact hx
    | 1 => cases ha; cases hv; exact hb
    | i + 2 => simp at ha
  · subst he
    have hs := hspec H d0 d1
    exact ⟨_, rfl, law_post (tb := 4) laid (by rw [hpar]; intro t' ht'; simp at ht'; rcases ht' with rfl | rfl; exact hrd; exact hrd2) hvars (by rw [List.append_nil, hs]) (by rw [List.append_nil, hs]) (by rw [List.append_nil, hs]) hrt (by kernel_rfl) hW' hE⟩
theorem rowA3 {fn : Func} {fid : FuncId} {s : ChangeSpec} {α β γ : Type} {enc : α → AV} {ok : α → Prop} {enc2 : β → AV} {ok2 : β → Prop} {enc3 : γ → AV} {ok3 : γ → Prop} {t t2 t3 : TypeId} (hO : Arg t α enc ok) (hO2 : Arg t2 β enc2 ok2) (hO3 : Arg t3 γ enc3 ok3)
    (hp : ∀ x b c, ok x → ok2 b → ok3 c → PureCall Tryd.prog fid [enc x, enc2 b, enc3 c] (.bool true)) (hpar : fn.params = #[t, t2, t3]) (hrd : Rd t) (hrd2 : Rd t2) (hrd3 : Rd t3) (hvars : s.vars = []) (hspec : ∀ (H : Type) (d d' d'' : DataW H), s.fn H [d, d', d''] = { results := [.lit (.bool true)], args := [d, d', d''] }) (hrt : fn.resultTypes = #[4])
    (H : Type) (eh : TypeId × Value → H) (W : World) (base : Nat) (args : Array Value) (ds gs : List (DataW H)) (before : List MemPlace)
    (hval : ∀ (j : Nat) t v, fn.params[j]? = some t → args[j]? = some v → Value.okWide Tryd.prog W .any base t v)
    (hW : DataW.Whole eh Tryd.prog fn.params.toList s.vars false W args.toList ds gs before)
    (hsz : (DataW.weightsEach Tryd.prog (fn.params.toList ++ s.plain.varTypes Tryd.prog) (ds ++ gs)).all (· ≤ reachBytes) = true) :
    Calls Tryd.prog fid args W fun e W' => ∃ v, e = .returned v ∧ s.post eh Tryd.prog fn false true false false W args v W' := by
  have hW' := hW
  obtain ⟨p, q, hA, hV, hps, hfz, hnd⟩ := hW
  have hwe : ∀ {j : Nat} {t : TypeId} {d : DataW H}, fn.params.toList[j]? = some t → ds[j]? = some d → ∀ n ∈ DataW.weights Tryd.prog t d, n ≤ reachBytes := fun {j t d} ht hd n hn => by
    have := List.all_eq_true.1 hsz n (DataW.weights_mem_each (j := j) (by rw [List.getElem?_append_left (List.getElem?_eq_some_iff.1 ht).1]; exact ht) (by rw [List.getElem?_append_left (List.getElem?_eq_some_iff.1 hd).1]; exact hd) n hn)
    simpa using this
  rw [hpar] at hA hval hwe
  rw [hvars] at hV
  obtain ⟨v0, vs0, d0, ds0, p0, q0, hargs, rfl, rfl, h0, r0⟩ := trodAll_cons hA
  obtain ⟨v1, vs1, d1, ds1, p1, q1, hargs1, rfl, rfl, h1, r1⟩ := trodAll_cons r0
  obtain ⟨v2, vs2, d2, ds2, p2, q2, hargs2, rfl, rfl, h2, r2⟩ := trodAll_cons r1
  obtain ⟨rfl, rfl, rfl⟩ := trodAll_nil r2
  subst hargs2
  subst hargs1
  obtain rfl : args = #[v0, v1, v2] := by cases args; simp_all
  obtain ⟨rfl, rfl⟩ := trodVars_none hV
  obtain ⟨x, hx, hx2⟩ := hO H eh W base v0 d0 p0 (hval 0 t v0 rfl rfl) h0 (hwe (j := 0) rfl rfl)
  obtain ⟨b, hb, hb2⟩ := hO2 H eh W base v1 d1 p1 (hval 1 t2 v1 rfl rfl) h1 (hwe (j := 1) rfl rfl)
  obtain ⟨c, hc, hc2⟩ := hO3 H eh W base v2 d2 p2 (hval 2 t3 v2 rfl rfl) h2 (hwe (j := 2) rfl rfl)
  refine (law_calls (hp x b c hx2 hb2 hc2) rfl (fun i a v ha hv => ?_)).mono fun e W' ⟨he, g, g', hE⟩ => ?_
  · match i with
    | 0 => cases ha; cases hv; exact hx
    | 1 => cases ha; cases hv; exact hb
    | 2 => cases ha; cases hv; exact hc
    | i + 3 => simp at ha
  · subst he
    have hs := hspec H d0 d1 d2
    exact ⟨_, rfl, law_post (tb := 4) laid (by rw [hpar]; intro t' ht'; simp at ht'; rcases ht' with rfl | rfl | rfl; exact hrd; exact hrd2; exact hrd3) hvars (by rw [List.append_nil, hs]) (by rw [List.append_nil, hs]) (by rw [List.append_nil, hs]) hrt (by kernel_rfl) hW' hE⟩
end Go.Proofs.YtnlelalkkabihaaDoor.Vm
