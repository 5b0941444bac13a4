/- Contracts: the program's step of a packet. -/
import Derived.Test.YtmapiefbnjaikaaP04
set_option linter.all false
namespace Go.Proofs.Ytmapiefbnjaikaa.Vm
open Go
set_option maxRecDepth 100000
set_option maxHeartbeats 8000000

theorem stepR_eq {t : Topology} {x : Table} {p : Packet} {S : List Segment} {w : Way} (h1 : x.valid t = true) (h2 : ¬ p.dst < 0) (h3 : ¬ t.nodes ≤ p.dst) (h4 : ¬ 32 < (p.stack.length : Int)) (hS : S = p.stack.dropWhile (own x)) (hw : route t x p S = w) :
    stepR t x p = (w.1, (if w.2.2 = -1 then { p with stack := [] } else if w.2.2 = 0 then { p with stack := w.2.1, hops := IntKind.i64.wrap (p.hops + 1) } else p), w.2.2) := by
  unfold stepR
  rw [← hS, hw, if_neg (by rw [h1]; simp; omega), if_neg (by omega)]
  split
  · rfl
  · split <;> rfl
theorem segLen (l : List Segment) : ∀ c ∈ l.map Segment.enc, c.length = 2 := by
  intro c hc; obtain ⟨y, -, rfl⟩ := List.mem_map.1 hc; rfl
theorem concat_d (a b : List Segment) (k : Nat) (ha : a.length < 1099511627776) (hb : b.length < 1099511627776) : PureCall Try.prog F.slices_Concat_Segment [asl [[asl (a.map Segment.enc)], [asl ((b.map Segment.enc).drop k)]]] (asl ((a ++ b.drop k).map Segment.enc)) := by
  rw [← List.map_drop]
  exact concat_c a (b.drop k) ha (by rw [List.length_drop]; omega)
theorem fstep_c (t : Topology) (x : Table) (p : Packet) (hf : Fit t x) : PureCall Try.prog F.forward_Step [.agg t.enc, .agg x.enc, .agg p.enc] (eStep (stepR t x p)) := by
  refine contractS fits K.forward_Step ?_
  have hval := tableValid_c t x hf
  repeat' (first
      | (exfalso; revert h; decide)
      | ((with_reducible refine step ?_); conv => whnf)
      | (refine call_pure hval rfl rfl ?_; conv => whnf)
      | (refine call_pure (cloneS_c p.stack (by simp only [List.length_map, decide_eq_false_iff_not] at h; omega)) rfl rfl ?_; conv => whnf)
      | (with_reducible refine And.intro (fun h => ?_) (fun h => ?_))
      | fail)
  all_goals try simp only [List.length_map, decide_eq_true_eq, decide_eq_false_iff_not, Bool.not_eq_true', Bool.not_eq_false'] at *
  iterate 4 (focus (unfold stepR; (repeat' split) <;> first | rfl | contradiction | (exfalso; omega) | (exfalso; simp_all; done) | (exfalso; simp_all; omega)))
  rename_i hd0 hd1 hl
  have hv : x.valid t = true := by assumption
  refine loop_invS (fun i => i ≤ p.stack.length ∧ ∀ s ∈ p.stack.take i, own x s = true) [3, 4, 5, 7, 9] 4 (fun i => [(9, asl ((p.stack.drop i).map Segment.enc))]) (fun _ => []) (fun i => p.stack.length - i) 0 (by decide) (by decide) ?_
  conv => whnf
  refine ⟨rfl, rfl, by simp, fun i ⟨hi, hp⟩ => ?_⟩
  repeat' (first
      | (exfalso; revert h; decide)
      | ((with_reducible refine step ?_); conv => whnf)
      | (with_reducible refine And.intro (fun h => ?_) (fun h => ?_))
      | (have hlt : i < p.stack.length := (by simp at h; omega); refine idx_int (xs := p.stack.drop i) (j := 0) rfl (by rw [List.length_drop]; omega) rfl ?_; conv => whnf)
      | (refine And.intro ⟨segLen _, by decide, by simp; omega⟩ ?_; conv => whnf)
      | fail)
  · refine ⟨i + 1, ⟨by omega, all_take_succ hlt hp ?_⟩, by omega, ?_, rfl⟩
    · have h0 : (p.stack.drop i)[0]'(by rw [List.length_drop]; omega) = p.stack[i] := by simp
      rw [h0] at h
      generalize p.stack[i] = y at h
      obtain ⟨y1, y2⟩ := y
      simpa [own] using h
    · have : List.drop (Int.toNat 1) (List.map Segment.enc (List.drop i p.stack)) = (p.stack.drop (i + 1)).map Segment.enc := by
        rw [← List.map_drop, List.drop_drop]; rfl
      rw [this]; rfl
  all_goals
    have hdw : p.stack.drop i = p.stack.dropWhile (own x) := dropWhile_at p.stack i hp (fun hlt' => by
      first
      | (exfalso; simp at h; omega)
      | (have h0 : (p.stack.drop i)[0]'(by rw [List.length_drop]; omega) = p.stack[i] := by simp
         rw [h0] at h
         generalize p.stack[i] = y at h
         obtain ⟨y1, y2⟩ := y
         simpa [own] using h))
    refine loop_canonD [3, 4, 5, 7, 9] 4 (by decide) (by decide) ?_
    conv => whnf
    have hSl : (p.stack.drop i).length ≤ 32 := by rw [List.length_drop]; omega
    have hto := (valid_to hv).1
    have hpu := (valid_to hv).2
    have hdown := hf.down
    have hnodes := hf.to
    clear hp hi h hval
    try clear hlt
    generalize p.stack.drop i = S at hdw hSl
    have hlm : (S.map Segment.enc).length = S.length := List.length_map ..
    refine loop_nextD 1 ?_
    repeat' (first
      | ((with_reducible refine step ?_); conv => whnf)
      | ((with_reducible refine br_dec (fun h => ?_) (fun h => ?_)) <;> try (exfalso; omega))
      | ((with_reducible refine br_ndec (fun h => ?_) (fun h => ?_)) <;> try (exfalso; omega))
      | (with_reducible refine And.intro (fun h => ?_) (fun h => ?_))
      | (refine call_pure (tail_c t _) rfl rfl ?_; conv => whnf)
      | (refine call_pure (contains_c x.down _ (by omega)) rfl rfl ?_; conv => whnf)
      | (have h0 : 0 < S.length := (by omega); refine idx_int (j := 0) rfl h0 rfl ?_; conv => whnf)
      | (refine And.intro ⟨segLen _, by omega, by omega⟩ ?_; conv => whnf)
      | (refine And.intro ⟨segLen [], by decide, by decide⟩ ?_; conv => whnf)
      | (have hdl : p.dst.toNat < x.to.length := (by omega); refine idx_int (i := p.dst) (j := p.dst.toNat) (by omega) hdl rfl ?_; conv => whnf)
      | (have hdl : S[0].num.toNat < x.to.length := (by omega); refine idx_int (i := S[0].num) (j := S[0].num.toNat) (by omega) hdl rfl ?_; conv => whnf)
      | (have hpl := hpu _ hdl; rw [getD_at hdl] at hpl; refine call_pure (concat_d _ S _ (by omega) (by omega)) rfl rfl ?_; conv => whnf)
      | (have hpl := hpu _ hdl; rw [getD_at hdl] at hpl; refine call_pure (concat_d _ [] _ (by omega) (by decide)) rfl rfl ?_; conv => whnf)
      | (have hal := hf.arcs _ (List.getElem_mem hdl); refine call_pure (cloneI_c _ hal) rfl rfl ?_; conv => whnf)
      | fail)
    all_goals
      clear hlm
      try simp only [List.length_map, List.length_append, List.length_drop, List.length_nil] at *
      generalize hw : route t x p S = w
      rw [stepR_eq hv (by omega) (by omega) (by omega) hdw hw]
      unfold route routeG fwd at hw
      try simp only [List.length_nil, true_and] at hw
      try rw [getD_at (l := S) (i := 0) (by omega)] at hw
      try rw [getD_at (l := x.to) (i := p.dst.toNat) (by omega)] at hw
      try rw [getD_at (l := x.to) (i := (S[0]'(by omega)).num.toNat) (by omega)] at hw
      repeat (first | rw [if_pos (by first | assumption | omega)] at hw | rw [if_neg (by first | assumption | omega | (rw [Bool.not_eq_true]; assumption))] at hw)
      subst hw
      first
      | (exfalso; omega)
      | rfl
      | (simp only [List.drop_nil, List.append_nil]; rfl)
      | (rw [show (min 1 (S.length : Int)).toNat = 1 by omega]; rfl)
      | (rw [← List.map_drop]; rfl)
      | (rw [show S = [] from List.eq_nil_of_length_eq_zero (by omega)]; simp only [List.drop_nil, List.append_nil]; rfl)
end Go.Proofs.Ytmapiefbnjaikaa.Vm
/- Contracts: the program's expansion. -/
set_option linter.all false
namespace Go.Proofs.Ytmapiefbnjaikaa.Vm
open Go
set_option maxRecDepth 100000

def eSegs (l : List Segment) : AV := asl (l.map Segment.enc)
def polL (ps : List Policy) : List ((Int × Int) × List Segment) := ps.map fun p => (p.key, p.list)
def opnL (opn : List (Int × Int)) : List ((Int × Int) × Bool) := opn.map fun k => (k, true)
/-- the objects of an expansion: the receiver, the policies, those that are open, what was kept -/
def xS (t : Topology) (ps : List Policy) (opn : List (Int × Int)) (s : Exp) : List VObj :=
  [.box [ai t.nodes, asl (t.overload.map eBool), asl (t.links.map Link.enc), .map 1, .map 2, ai s.at_, .sall 3 0] false, .map 0 0 (eMap eSegs (polL ps)), .map 0 0 (eMap eB (opnL opn)), .arr 0 2 none (s.out.map Segment.enc) false]
def keepP (s : Exp) (x : Segment) : Exp × Int := if s.out.length = 32 then (s, 6) else (⟨s.out ++ [x], s.at_⟩, 0)
theorem keepP_len {s : Exp} {x : Segment} (h : s.out.length ≤ 32) : (keepP s x).1.out.length ≤ 32 := by
  unfold keepP; split
  · exact h
  · simp; omega

theorem keep_o (t : Topology) (ps : List Policy) (opn : List (Int × Int)) (s : Exp) (x : Segment) (h32 : s.out.length ≤ 32) :
    ObjCall Try.prog false F.policy_expansion_keep [.ptr 0 0, .agg x.enc] (xS t ps opn s) (ai (keepP s x).2) (xS t ps opn (keepP s x).1) := by
  refine objCallS fits K.policy_expansion_keep ?_
  repeat' (first
      | ((with_reducible refine step ?_); conv => whnf)
      | (with_reducible refine And.intro (fun h => ?_) (fun h => ?_))
      | (refine And.intro ?_ ?_; (focus (simp [elemsOk, AV.oneC, big, Segment.enc]; (try omega); done)); conv => whnf)
      | fail)
  all_goals simp only [decide_eq_true_eq, decide_eq_false_iff_not, List.length_map] at *
  · rw [keepP, if_pos (by omega)]; exact ⟨rfl, rfl⟩
  · rw [keepP, if_neg (by omega)]; refine ⟨rfl, ?_⟩; simp [xS, Segment.enc]; rfl

def oneP (t : Topology) (ps : List Policy) (opn : List (Int × Int)) (s : Exp) (x : Segment) (deep : List Segment → Exp × Int) : Exp × Int :=
  if x.kind = 1 then keepP ⟨s.out, x.num⟩ x
  else if x.kind = 3 then keepP ⟨s.out, -1⟩ x
  else if s.at_ < 0 then (s, 7)
  else if x.kind = 2 then (if t.tail x.num ≠ s.at_ then (s, 4) else keepP ⟨s.out, t.head x.num⟩ x)
  else match (polL ps).lookup (s.at_, x.num) with
    | none => (s, 8)
    | some l => if (s.at_, x.num) ∈ opn then (s, 16) else deep l
theorem opnL_none {opn : List (Int × Int)} {k : Int × Int} : (opnL opn).lookup k = none ↔ k ∉ opn := by
  rw [lookup_none]; simp [opnL, Function.comp_def]
theorem opnL_val {opn : List (Int × Int)} {k : Int × Int} {b : Bool} (h : (opnL opn).lookup k = some b) : b = true ∧ k ∈ opn := by
  induction opn with
  | nil => simp [opnL] at h
  | cons p ps ih =>
    simp only [opnL, List.map_cons, List.lookup_cons] at h
    by_cases hk : k = p
    · subst hk; simp at h; simp [h]
    · have : (k == p) = false := by simp [hk]
      rw [this] at h
      obtain ⟨h1, h2⟩ := ih h
      exact ⟨h1, by simp [h2]⟩
theorem opn_put {opn : List (Int × Int)} {a b : Int} (h : (opnL opn).lookup (a, b) = none) : putM ks2 (.agg [ai a, ai b]) (.bool true) (eMap eB (opnL opn)) = eMap eB (opnL (opn ++ [(a, b)])) := by
  have := putM2 (a, b) eB true _ h
  rw [show opnL (opn ++ [(a, b)]) = opnL opn ++ [((a, b), true)] by unfold opnL; rw [List.map_append]; rfl]
  exact this
theorem opn_del {opn : List (Int × Int)} {a b : Int} (h : (opnL opn).lookup (a, b) = none) : delM ks2 (.agg [ai a, ai b]) (eMap eB (opnL (opn ++ [(a, b)]))) = eMap eB (opnL opn) := by
  have := delM2 (a, b) eB true _ h
  rw [show opnL (opn ++ [(a, b)]) = opnL opn ++ [((a, b), true)] by unfold opnL; rw [List.map_append]; rfl]
  exact this

/-- .. of one segment, where deeper lists have their contract -/
theorem seg_o (t : Topology) (ps : List Policy) (opn : List (Int × Int)) (s : Exp) (x : Segment) (h32 : s.out.length ≤ 32) (deep : List Segment → Exp × Int)
    (hall : ∀ l, (polL ps).lookup (s.at_, x.num) = some l → (s.at_, x.num) ∉ opn → (deep l).1.out.length ≤ 32 ∧ ObjCall Try.prog false F.policy_expansion_list [.ptr 0 0, eSegs l] (xS t ps (opn ++ [(s.at_, x.num)]) s) (ai (deep l).2) (xS t ps (opn ++ [(s.at_, x.num)]) (deep l).1)) :
    ObjCall Try.prog false F.policy_expansion_segment [.ptr 0 0, .agg x.enc] (xS t ps opn s) (ai (oneP t ps opn s x deep).2) (xS t ps opn (oneP t ps opn s x deep).1) := by
  refine objCallS fits K.policy_expansion_segment ?_
  repeat' (first
      | (exfalso; revert h; decide)
      | ((with_reducible refine step ?_); conv => whnf)
      | (with_reducible refine And.intro (fun h => ?_) (fun h => ?_))
      | (refine vcall_obj (keep_o t ps opn ⟨s.out, x.num⟩ x h32) [0, 1, 2, 3] rfl rfl rfl (Nat.le_refl 4) rfl rfl rfl ?_; conv => whnf)
      | (refine vcall_obj (keep_o t ps opn ⟨s.out, -1⟩ x h32) [0, 1, 2, 3] rfl rfl rfl (Nat.le_refl 4) rfl rfl rfl ?_; conv => whnf)
      | (refine vcall_obj (keep_o t ps opn ⟨s.out, t.head x.num⟩ x h32) [0, 1, 2, 3] rfl rfl rfl (Nat.le_refl 4) rfl rfl rfl ?_; conv => whnf)
      | (refine call_pure (tail_c _ _) rfl rfl ?_; conv => whnf)
      | (refine call_pure (head_c _ _) rfl rfl ?_; conv => whnf)
      | (refine look2 (s.at_, x.num) eSegs _ (fun hlk => ?_) (fun l hlk => ?_) <;> (conv => whnf))
      | (refine look2 (s.at_, x.num) eB _ (fun hopn => ?_) (fun b hopn => ?_) <;> (conv => whnf))
      | (refine And.intro (hasKs2 (s.at_, x.num) eB _) ?_; (conv => whnf); first | rw [opn_put hopn] | rw [opn_del hopn])
      | (refine vcall_obj (hall l hlk (opnL_none.1 hopn)).2 [0, 1, 2, 3] rfl rfl rfl (Nat.le_refl 4) rfl rfl rfl ?_; conv => whnf)
      | fail)
  all_goals simp only [decide_eq_true_eq, decide_eq_false_iff_not, decide_not, Bool.not_eq_true', Bool.not_eq_false'] at *
  all_goals first
    | (exact absurd ((opnL_val hopn).1.symm.trans ‹b = false›) (by decide))
    | (have hm := (opnL_val hopn).2; constructor <;> (simp only [oneP, *, ↓reduceIte, not_false_eq_true, not_true_eq_false, ne_eq]; first | done | rfl); done)
    | (have hm := opnL_none.1 hopn; constructor <;> (simp only [oneP, *, ↓reduceIte, not_false_eq_true, not_true_eq_false, ne_eq]; first | done | rfl); done)
    | (constructor <;> (simp only [oneP, *, ↓reduceIte, not_false_eq_true, not_true_eq_false, ne_eq]; first | done | rfl); done)

def segP (t : Topology) (ps : List Policy) : Nat → List (Int × Int) → Exp → Segment → Exp × Int
  | 0, opn, s, x => oneP t ps opn s x fun _ => (s, 16)
  | n + 1, opn, s, x => oneP t ps opn s x fun l => runL (segP t ps n (opn ++ [(s.at_, x.num)])) s l
theorem oneP_len {t : Topology} {ps : List Policy} {opn : List (Int × Int)} {s : Exp} {x : Segment} {deep : List Segment → Exp × Int} (h : s.out.length ≤ 32) (hd : ∀ i, (deep i).1.out.length ≤ 32) : (oneP t ps opn s x deep).1.out.length ≤ 32 := by
  unfold oneP
  repeat' split
  all_goals first | exact h | exact keepP_len h | exact hd _
theorem segP_len (t : Topology) (ps : List Policy) : ∀ (n : Nat) (opn : List (Int × Int)) (s : Exp) (x : Segment), s.out.length ≤ 32 → (segP t ps n opn s x).1.out.length ≤ 32 := by
  intro n
  induction n with
  | zero => intro opn s x h; exact oneP_len h fun _ => h
  | succ n ih => intro opn s x h; exact oneP_len h fun i => runL_len (fun s x h => ih _ s x h) _ _ h

/-- .. of a list -/
theorem list_o (t : Topology) (ps : List Policy) (opn : List (Int × Int)) (f : Exp → Segment → Exp × Int)
    (hf : ∀ (s : Exp) (x : Segment), s.out.length ≤ 32 → (f s x).1.out.length ≤ 32 ∧ ObjCall Try.prog false F.policy_expansion_segment [.ptr 0 0, .agg x.enc] (xS t ps opn s) (ai (f s x).2) (xS t ps opn (f s x).1))
    (s : Exp) (l : List Segment) (h32 : s.out.length ≤ 32) (hlen : l.length < 4611686018427387904) :
    ObjCall Try.prog false F.policy_expansion_list [.ptr 0 0, eSegs l] (xS t ps opn s) (ai (runL f s l).2) (xS t ps opn (runL f s l).1) := by
  refine objCallS fits K.policy_expansion_list ?_
  repeat' (first
      | ((with_reducible refine step ?_); conv => whnf)
      | fail)
  refine loop_invS (fun i => i ≤ l.length ∧ (runL f s (l.take i)).2 = 0) [0, 8, 9, 10] 4 (fun i => [(10, ai i)]) (fun i => [(0, (xS t ps opn (runL f s (l.take i)).1).getD 0 .gone), (3, (xS t ps opn (runL f s (l.take i)).1).getD 3 .gone)]) (fun i => l.length - i) 0 (Nat.le_refl 4) (Nat.zero_le 4) ?_
  conv => whnf
  refine ⟨rfl, rfl, ⟨by omega, rfl⟩, fun i ⟨hi, hp⟩ => ?_⟩
  have h32i : (runL f s (l.take i)).1.out.length ≤ 32 := runL_len (fun s x h => (hf s x h).1) _ _ h32
  repeat' (first
      | ((with_reducible refine step ?_); conv => whnf)
      | (with_reducible refine And.intro (fun h => ?_) (fun h => ?_))
      | (have hlt : i < l.length := (by simp_all); refine idx_nat hlt rfl ?_; conv => whnf)
      | (refine vcall_obj (hf (runL f s (l.take i)).1 l[i] h32i).2 [0, 1, 2, 3] rfl rfl rfl (Nat.le_refl 4) rfl rfl rfl ?_; conv => whnf)
      | fail)
  all_goals try simp only [List.length_map, Bool.not_eq_true', Bool.not_eq_false', decide_not, decide_eq_true_eq, decide_eq_false_iff_not] at *
  · rw [runL_stop hlt hp h]; exact ⟨rfl, rfl⟩
  · refine ⟨i + 1, ⟨hlt, ?_⟩, by omega, by rw [wrap_succ (by omega)]; rfl, ?_⟩
    · rw [runL_at hlt hp, if_neg (by simp [h])]
    · rw [runL_at hlt hp, if_neg (by simp [h])]; rfl
  · rw [List.take_of_length_le (by omega)] at hp ⊢
    rw [hp]; exact ⟨rfl, rfl⟩
/-- what the recursion needs: as many policies as are not open -/
structure KeyOk (ps : List Policy) (opn : List (Int × Int)) (n : Nat) : Prop where
  nodup : opn.Nodup
  sub : ∀ k ∈ opn, k ∈ ps.map Policy.key
  fuel : ps.length ≤ opn.length + n
theorem KeyOk.succ {ps : List Policy} {opn : List (Int × Int)} {n : Nat} {k : Int × Int} (h : KeyOk ps opn (n + 1)) (hk : k ∈ ps.map Policy.key) (hn : k ∉ opn) : KeyOk ps (opn ++ [k]) n :=
  ⟨by rw [List.nodup_append]; exact ⟨h.nodup, by simp, fun a ha b hb => by simp at hb; subst hb; exact fun e => hn (e ▸ ha)⟩, fun j hj => by
    rcases List.mem_append.1 hj with hj | hj
    · exact h.sub j hj
    · simp at hj; subst hj; exact hk, by have := h.fuel; simp; omega⟩
theorem KeyOk.zero {ps : List Policy} {opn : List (Int × Int)} {k : Int × Int} (h : KeyOk ps opn 0) (hk : k ∈ ps.map Policy.key) (hn : k ∉ opn) : False := by
  have h1 := h.fuel
  have : (opn ++ [k]).length ≤ (ps.map Policy.key).length := List.Nodup.length_le_of_subset (by rw [List.nodup_append]; exact ⟨h.nodup, by simp, fun a ha b hb => by simp at hb; subst hb; exact fun e => hn (e ▸ ha)⟩) fun j hj => by
    rcases List.mem_append.1 hj with hj | hj
    · exact h.sub j hj
    · simp at hj; subst hj; exact hk
  simp at this; omega
theorem polL_mem {ps : List Policy} {k : Int × Int} {l : List Segment} (h : (polL ps).lookup k = some l) : k ∈ ps.map Policy.key ∧ ∃ p ∈ ps, p.list = l := by
  induction ps with
  | nil => simp [polL] at h
  | cons p ps ih =>
    simp only [polL, List.map_cons, List.lookup_cons] at h
    by_cases hk : k = p.key
    · subst hk; simp at h; exact ⟨by simp, p, by simp, h⟩
    · have : (k == p.key) = false := by simp [hk]
      rw [this] at h
      obtain ⟨h1, q, h2, h3⟩ := ih h
      exact ⟨by simp [h1], q, by simp [h2], h3⟩

theorem segP_o (t : Topology) (ps : List Policy) (hls : ∀ p ∈ ps, p.list.length < 4611686018427387904) : ∀ (n : Nat) (opn : List (Int × Int)) (s : Exp) (x : Segment), KeyOk ps opn n → s.out.length ≤ 32 →
    ObjCall Try.prog false F.policy_expansion_segment [.ptr 0 0, .agg x.enc] (xS t ps opn s) (ai (segP t ps n opn s x).2) (xS t ps opn (segP t ps n opn s x).1) := by
  intro n
  induction n with
  | zero =>
    intro opn s x ho h32
    exact seg_o t ps opn s x h32 _ fun l hl hn => (ho.zero (polL_mem hl).1 hn).elim
  | succ n ih =>
    intro opn s x ho h32
    refine seg_o t ps opn s x h32 _ fun l hl hn => ?_
    obtain ⟨hk, p, hp, rfl⟩ := polL_mem hl
    have ho' := ho.succ hk hn
    exact ⟨runL_len (fun s x h => segP_len t ps n _ s x h) _ _ h32, list_o t ps _ _ (fun s x h => ⟨segP_len t ps n _ s x h, ih _ s x ho' h⟩) s p.list h32 (hls p hp)⟩

/-- the program's expansion of a list -/
def expandP (t : Topology) (ps : List Policy) (node : Int) (l : List Segment) : List Segment × Int :=
  if polsValid t ps = false ∨ l.all (·.valid t) = false then ([], 1)
  else if node < 0 ∨ t.nodes ≤ node then ([], 2)
  else if (runL (segP t ps ps.length []) ⟨[], node⟩ l).2 ≠ 0 then ([], (runL (segP t ps ps.length []) ⟨[], node⟩ l).2) else ((runL (segP t ps ps.length []) ⟨[], node⟩ l).1.out, 0)
theorem pol_put {ps : List Policy} {i : Nat} (hi : i < ps.length) (hn : (ps.map Policy.key).Nodup) : putM ks2 (.agg [ai ps[i].node, ai ps[i].binding]) (asl (ps[i].list.map Segment.enc)) (eMap eSegs (polL (ps.take i))) = eMap eSegs (polL (ps.take (i + 1))) := by
  have hk : (polL (ps.take i)).lookup ps[i].key = none := by
    rw [lookup_none]
    intro hm
    rw [show (polL (ps.take i)).map (·.1) = (ps.take i).map Policy.key by simp [polL, Function.comp_def]] at hm
    exact dup_all hi hm hn
  have := putM2 ps[i].key eSegs ps[i].list _ hk
  rw [List.take_succ_eq_append_getElem hi, show polL (ps.take i ++ [ps[i]]) = polL (ps.take i) ++ [(ps[i].key, ps[i].list)] by unfold polL; rw [List.map_append]; rfl]
  exact this

theorem expandP_n (t : Topology) (ps : List Policy) (node : Int) (l : List Segment) (hls : ∀ p ∈ ps, p.list.length < 4611686018427387904) (h1000 : ps.length ≤ 1000) (hlen : l.length < 4611686018427387904) :
    PureNew Try.prog F.policy_Expand [.agg t.enc, asl (ps.map Policy.enc), ai node, asl (l.map Segment.enc)] (.tuple [asl ((expandP t ps node l).1.map Segment.enc), ai (expandP t ps node l).2]) := by
  refine contractN fits K.policy_Expand ?_
  have hall := list_o t ps [] (segP t ps ps.length []) (fun s x h => ⟨segP_len t ps _ _ s x h, segP_o t ps hls ps.length [] s x ⟨.nil, by simp, by simp⟩ h⟩) ⟨[], node⟩ l (by simp) hlen
  repeat' (first
      | ((with_reducible refine step ?_); conv => whnf)
      | (with_reducible refine And.intro (fun h => ?_) (fun h => ?_))
      | (refine call_pure (polsValid_c t ps (by omega) hls) rfl rfl ?_; conv => whnf)
      | (refine call_pure (segsValid_c t l hlen) rfl rfl ?_; conv => whnf)
      | (have hnd : (ps.map Policy.key).Nodup := (by simp_all [polsValid])
         refine loop_promoteBD (id := 3) (k := 6) (esz := 2) rfl rfl (by decide) ?_
         refine loop_invS (fun i => i ≤ ps.length) [3, 10, 40, 41, 42] 5 (fun i => [(42, ai i)]) (fun i => [(1, .map 0 0 (eMap eSegs (polL (ps.take i))))]) (fun i => ps.length - i) 0 (by decide) (by decide) ?_
         (conv => whnf)
         refine ⟨rfl, rfl, by omega, fun i hi => ?_⟩)
      | (have hlt : i < ps.length := (by simp_all); refine idx_nat hlt rfl ?_; conv => whnf)
      | (refine And.intro (hasKs2 ps[i].key eSegs _) ?_; (conv => whnf); rw [pol_put hlt hnd])
      | (obtain rfl : i = ps.length := (by simp at h; omega)
         rw [List.take_length]
         refine vcall_obj hall [3, 1, 2, 4] rfl rfl rfl (Nat.le_refl 4) rfl rfl rfl ?_
         (conv => whnf))
      | fail)
  all_goals try (refine And.intro ?_ ?_; focus (first
    | exact And.intro rfl (And.intro trivial trivial)
    | (refine And.intro (fun c hc x hx => ?_) (And.intro trivial trivial)
       obtain ⟨y, _, rfl⟩ := List.mem_map.1 hc
       simp only [Segment.enc, List.mem_cons, List.mem_nil_iff, or_false] at hx
       rcases hx with rfl | rfl <;> rfl)))
  all_goals try simp only [List.length_map, decide_eq_true_eq, decide_eq_false_iff_not, decide_not, Bool.not_eq_true', Bool.not_eq_false'] at *
  all_goals first
    | exact ⟨i + 1, hlt, by omega, by rw [wrap_succ (by omega)]; rfl, rfl⟩
    | (simp only [expandP, *, ↓reduceIte, not_false_eq_true, not_true_eq_false, ne_eq, or_true, true_or, Bool.true_eq_false, or_self, or_false, false_or]; first | done | rfl)
theorem expandP_c (t : Topology) (ps : List Policy) (node : Int) (l : List Segment) (hls : ∀ p ∈ ps, p.list.length < 4611686018427387904) (h1000 : ps.length ≤ 1000) (hlen : l.length < 4611686018427387904) :
    PureCall Try.prog F.policy_Expand [.agg t.enc, asl (ps.map Policy.enc), ai node, asl (l.map Segment.enc)] (.tuple [asl ((expandP t ps node l).1.map Segment.enc), ai (expandP t ps node l).2]) := (expandP_n t ps node l hls h1000 hlen).pure rfl
end Go.Proofs.Ytmapiefbnjaikaa.Vm
/- Contracts: numbers and texts of the references. -/
set_option linter.all false
namespace Go.Proofs.Ytmapiefbnjaikaa.Vm
open Go
set_option maxRecDepth 100000

def dig (n : Nat) : UInt8 := UInt8.ofNat (48 + n % 10)
def digF : Nat → Nat → List UInt8
  | 0, _ => []
  | k + 1, n => if n < 10 then [dig n] else digF k (n / 10) ++ [dig (n % 10)]
def digits (n : Nat) : List UInt8 := digF 20 n
theorem digF_len : ∀ (k n : Nat), (digF k n).length ≤ k := by
  intro k
  induction k with
  | zero => intro n; exact Nat.le_refl _
  | succ k ih =>
    intro n
    unfold digF
    split
    · simp
    · have := ih (n / 10); simp; omega
theorem u8_dig {n : Int} (h0 : 0 ≤ n) (h : n < 10) : UInt8.ofNat (IntKind.u8.wrap (IntKind.u64.wrap (48 + n))).toNat = dig n.toNat := by
  have e : IntKind.u8.wrap (IntKind.u64.wrap (48 + n)) = 48 + n := by
    obtain ⟨m, rfl⟩ := Int.eq_ofNat_of_zero_le h0
    have : m < 10 := by omega
    rcases m with _ | _ | _ | _ | _ | _ | _ | _ | _ | _ | m <;> first | rfl | omega
  rw [e]; unfold dig; congr 1; omega
theorem wrap_u64 {n : Int} (h0 : 0 ≤ n) (h : n < 18446744073709551616) : IntKind.u64.wrap n = n := by
  show (n % 18446744073709551616 : Int) = n
  omega

theorem digits_c : ∀ (k : Nat) (n : Int), k ≤ 20 → 0 ≤ n → n < 18446744073709551616 → n < (10 : Int) ^ k → 1 ≤ k → PureCall Try.prog F.ref09_digits [.int .u64 n] (.str (digF k n.toNat)) := by
  intro k
  induction k with
  | zero => intro n _ _ _ _ h; omega
  | succ k ih =>
    intro n hk h0 h1 h2 _
    refine contractS fits K.ref09_digits ?_
    have hrec : ¬ n < 10 → PureCall Try.prog F.ref09_digits [.int .u64 (IntKind.u64.wrap (n.tdiv 10))] (.str (digF k (n / 10).toNat)) := fun h10 => by
      rw [Int.tdiv_eq_ediv_of_nonneg h0, wrap_u64 (by omega) (by omega)]
      have hk1 : 1 ≤ k := by
        rcases Nat.eq_zero_or_pos k with rfl | h
        · simp at h2; omega
        · exact h
      exact ih (n / 10) (by omega) (by omega) (by omega) (by rw [Int.pow_succ] at h2; omega) hk1
    repeat' (first
      | (exfalso; revert h; decide)
      | ((with_reducible refine step ?_); conv => whnf)
      | (with_reducible refine And.intro (fun h => ?_) (fun h => ?_))
      | (with_reducible refine And.intro (show (_ : Int) ≠ 0 by decide) ?_; conv => whnf)
      | (refine call_pure (hrec (by simpa using h)) rfl rfl ?_; conv => whnf)
      | (refine And.intro (by have := digF_len k (n / 10).toNat; show _ + 1 ≤ _; omega) ?_; conv => whnf)
      | fail)
    all_goals simp only [decide_eq_true_eq, decide_eq_false_iff_not] at h
    · rw [u8_dig h0 h, digF, if_pos (by omega)]
    · rw [Int.tmod_eq_emod_of_nonneg h0, u8_dig (by omega) (by omega), digF, if_neg (by omega), show (n / 10).toNat = n.toNat / 10 by omega, show (n % 10).toNat = n.toNat % 10 by omega]

def number (n : Int) : List UInt8 := if n < 0 then 45 :: digits (-n).toNat else digits n.toNat
theorem number_len (n : Int) : (number n).length ≤ 21 := by
  unfold number digits
  split
  · have := digF_len 20 (-n).toNat; simp; omega
  · have := digF_len 20 n.toNat; omega
theorem number_c (n : Int) (h : i64 n) : PureCall Try.prog F.ref09_Number [ai n] (.str (number n)) := by
  unfold i64 at h
  refine contractS fits K.ref09_Number ?_
  have hneg : n < 0 → PureCall Try.prog F.ref09_digits [.int .u64 (IntKind.u64.wrap (IntKind.u64.wrap (IntKind.i64.wrap (0 - IntKind.i64.wrap (n + 1))) + 1))] (.str (digits (-n).toNat)) := fun h0 => by
    rw [wrap_in (n := n + 1) (by omega), wrap_in (by omega), wrap_u64 (n := 0 - (n + 1)) (by omega) (by omega), wrap_u64 (by omega) (by omega)]
    have := digits_c 20 (0 - (n + 1) + 1) (by omega) (by omega) (by omega) (by omega) (by omega)
    rwa [show (0 - (n + 1) + 1).toNat = (-n).toNat by omega] at this
  have hpos : ¬ n < 0 → PureCall Try.prog F.ref09_digits [.int .u64 (IntKind.u64.wrap n)] (.str (digits n.toNat)) := fun h0 => by
    rw [wrap_u64 (by omega) (by omega)]
    exact digits_c 20 n (by omega) (by omega) (by omega) (by omega) (by omega)
  repeat' (first
      | ((with_reducible refine step ?_); conv => whnf)
      | (with_reducible refine And.intro (fun h => ?_) (fun h => ?_))
      | (refine call_pure (hneg (by simpa using h)) rfl rfl ?_; conv => whnf)
      | (refine call_pure (hpos (by simpa using h)) rfl rfl ?_; conv => whnf)
      | (refine And.intro (by have := digF_len 20 (-n).toNat; show 1 + (digF 20 (-n).toNat).length ≤ _; omega) ?_; conv => whnf)
      | fail)
  all_goals simp only [decide_eq_true_eq, decide_eq_false_iff_not] at *
  · rw [number, if_pos (by assumption)]; rfl
  · rw [number, if_neg (by assumption)]

/-- the number that a text is read as -/
def valueF (l : List UInt8) : Int := (l.take 9).foldl (fun v c => 10 * v + (c.toNat : Int) - 48) 0
def bnd (i : Nat) : Int := 30 * ((10 : Int) ^ i - 1)
theorem value_bnd (l : List UInt8) : - bnd l.length ≤ l.foldl (fun v (c : UInt8) => 10 * v + (c.toNat : Int) - 48) 0 ∧ l.foldl (fun v (c : UInt8) => 10 * v + (c.toNat : Int) - 48) 0 ≤ bnd l.length := by
  rw [← List.reverse_reverse l]
  generalize l.reverse = r
  induction r with
  | nil => decide
  | cons c r ih =>
    rw [List.reverse_cons, List.foldl_append, List.length_append]
    simp only [List.foldl_cons, List.foldl_nil, List.length_cons, List.length_nil]
    generalize (r.reverse.foldl (fun v (c : UInt8) => 10 * v + (c.toNat : Int) - 48) 0) = v at ih ⊢
    generalize r.reverse.length = n at ih ⊢
    unfold bnd at ih ⊢
    have hc : (c.toNat : Int) < 256 := by have := c.toNat_lt; omega
    rw [show n + (0 + 1) = n + 1 by omega, Int.pow_succ]
    generalize (10 : Int) ^ n = p at ih ⊢
    omega
theorem bnd9 {i : Nat} (h : i ≤ 9) : bnd i ≤ 29999999970 := by
  unfold bnd
  have : i = 0 ∨ i = 1 ∨ i = 2 ∨ i = 3 ∨ i = 4 ∨ i = 5 ∨ i = 6 ∨ i = 7 ∨ i = 8 ∨ i = 9 := by omega
  rcases this with rfl | rfl | rfl | rfl | rfl | rfl | rfl | rfl | rfl | rfl <;> decide
theorem foldl_take_succ (l : List UInt8) (i : Nat) (hi : i < l.length) : (l.take (i + 1)).foldl (fun v (c : UInt8) => 10 * v + (c.toNat : Int) - 48) 0 = 10 * (l.take i).foldl (fun v (c : UInt8) => 10 * v + (c.toNat : Int) - 48) 0 + (l[i].toNat : Int) - 48 := by
  rw [List.take_succ_eq_append_getElem hi, List.foldl_append]; rfl
theorem u8_i64 (c : UInt8) : IntKind.i64.wrap (c.toNat : Int) = c.toNat := wrap_in (by have := c.toNat_lt; omega)

theorem value_c (l : List UInt8) (hl : l.length < 4611686018427387904) : PureCall Try.prog F.ref09_Value [.str l] (ai (valueF l)) := by
  refine contractS fits K.ref09_Value ?_
  repeat' (first
      | ((with_reducible refine step ?_); conv => whnf)
      | fail)
  refine loop_invS (fun i => i ≤ l.length ∧ i ≤ 9) [0, 3, 4] 0 (fun i => [(3, ai ((l.take i).foldl (fun v (c : UInt8) => 10 * v + (c.toNat : Int) - 48) 0)), (4, ai i)]) (fun _ => []) (fun i => 9 - i) 0 (by decide) (by decide) ?_
  conv => whnf
  refine ⟨rfl, rfl, by omega, fun i ⟨hi, h9⟩ => ?_⟩
  repeat' (first
      | ((with_reducible refine step ?_); conv => whnf)
      | (with_reducible refine And.intro (fun h => ?_) (fun h => ?_))
      | (refine And.intro (Int.natCast_nonneg i) (Exists.intro l[i] (And.intro (by simp) ?_)); conv => whnf)
      | (have hlt : i < l.length := (by simp_all); refine And.intro (Int.natCast_nonneg i) (Exists.intro l[i] (And.intro (by simp) ?_)); conv => whnf)
      | fail)
  all_goals simp only [decide_eq_true_eq, decide_eq_false_iff_not] at *
  · refine ⟨i + 1, by omega, by omega, ?_, rfl⟩
    have b1 := value_bnd (l.take i)
    have b2 := bnd9 (i := (l.take i).length) (by rw [List.length_take]; omega)
    have hc : (l[i].toNat : Int) < 256 := by have := l[i].toNat_lt; omega
    rw [foldl_take_succ l i hlt]
    generalize (l.take i).foldl (fun v (c : UInt8) => 10 * v + (c.toNat : Int) - 48) 0 = v at b1 ⊢
    generalize bnd (l.take i).length = bb at b1 b2
    rw [u8_i64, wrap_in (n := 10 * v) (by omega), wrap_in (n := 10 * v + _) (by omega), wrap_in (by omega), wrap_succ (by omega)]
    rfl
  · have : i = 9 := by omega
    subst this; rfl
  · rw [valueF, show l.take i = l.take 9 by rw [List.take_of_length_le (by omega), List.take_of_length_le (by omega)]]

def eStr (l : List UInt8) : List AV := [.str l]
/-- the parts of a text that end with a byte, and what follows the last one -/
def splitF (e : UInt8) : List UInt8 → List UInt8 → List (List UInt8) × List UInt8
  | [], cur => ([], cur)
  | c :: l, cur => if c = e then (cur :: (splitF e l []).1, (splitF e l []).2) else splitF e l (cur ++ [c])
theorem splitF_snoc (e c : UInt8) : ∀ (l cur : List UInt8), splitF e (l ++ [c]) cur = if c = e then ((splitF e l cur).1 ++ [(splitF e l cur).2], []) else ((splitF e l cur).1, (splitF e l cur).2 ++ [c]) := by
  intro l
  induction l with
  | nil =>
    intro cur
    show (if c = e then ([cur], []) else ([], cur ++ [c])) = _
    split <;> rfl
  | cons x l ih =>
    intro cur
    show (if x = e then (cur :: (splitF e (l ++ [c]) []).1, (splitF e (l ++ [c]) []).2) else splitF e (l ++ [c]) (cur ++ [x])) = _
    by_cases hx : x = e
    · rw [if_pos hx, ih]
      have : splitF e (x :: l) cur = (cur :: (splitF e l []).1, (splitF e l []).2) := by show (if x = e then _ else _) = _; rw [if_pos hx]
      rw [this]
      by_cases hc : c = e
      · rw [if_pos hc, if_pos hc]; rfl
      · rw [if_neg hc, if_neg hc]
    · rw [if_neg hx, ih]
      have : splitF e (x :: l) cur = splitF e l (cur ++ [x]) := by show (if x = e then _ else _) = _; rw [if_neg hx]
      rw [this]
theorem splitF_cur (e : UInt8) (l : List UInt8) : (splitF e l []).2.length ≤ l.length ∧ l.drop (l.length - (splitF e l []).2.length) = (splitF e l []).2 ∧ (splitF e l []).1.length ≤ l.length := by
  rw [← List.reverse_reverse l]
  generalize l.reverse = r
  induction r with
  | nil => exact ⟨Nat.le_refl _, rfl, Nat.le_refl _⟩
  | cons c r ih =>
    rw [List.reverse_cons, splitF_snoc]
    obtain ⟨h1, h2, h3⟩ := ih
    have hrr : r.reverse.length = r.length := List.length_reverse
    split
    · refine ⟨by simp, by simp, by simp; omega⟩
    · refine ⟨by simp; omega, ?_, by simp; omega⟩
      simp only [List.length_append, List.length_cons, List.length_nil]
      rw [show r.reverse.length + (0 + 1) - ((splitF e r.reverse []).2.length + (0 + 1)) = r.reverse.length - (splitF e r.reverse []).2.length by omega, List.drop_append_of_le_length (by omega), h2]

def split9 (l : List UInt8) (e : UInt8) : List (List UInt8) × Bool := ((splitF e l []).1, decide ((splitF e l []).2 = []))
theorem split9_c (l : List UInt8) (e : UInt8) (hl : l.length < 1099511627776) : PureCall Try.prog F.ref09_Split [.str l, .int .u8 e.toNat] (.tuple [asl ((split9 l e).1.map eStr), .bool (split9 l e).2]) := by
  refine contractS fits K.ref09_Split ?_
  repeat' (first
      | ((with_reducible refine step ?_); conv => whnf)
      | fail)
  refine loop_promoteD (k := 6) (esz := 1) rfl (by decide) ?_
  refine loop_invS (fun i => i ≤ l.length) [0, 1, 6, 7, 8] 1 (fun i => [(7, ai ((i - (splitF e (l.take i) []).2.length : Nat) : Int)), (8, ai i)]) (fun i => [(0, .arr 0 1 none ((splitF e (l.take i) []).1.map eStr) false)]) (fun i => l.length - i) 0 (by decide) (by decide) ?_
  conv => whnf
  refine ⟨rfl, rfl, by omega, fun i hi => ?_⟩
  have hcur := splitF_cur e (l.take i)
  have hti : (l.take i).length = i := by rw [List.length_take]; omega
  rw [hti] at hcur
  repeat' (first
      | ((with_reducible refine step ?_); conv => whnf)
      | (with_reducible refine And.intro (fun h => ?_) (fun h => ?_))
      | (have hlt : i < l.length := (by simp_all); refine And.intro (Int.natCast_nonneg i) (Exists.intro l[i] (And.intro (by simp) ?_)); conv => whnf)
      | (refine And.intro ⟨Int.natCast_nonneg _, Int.ofNat_le.2 (Nat.sub_le _ _), Int.ofNat_le.2 hi⟩ ?_; conv => whnf)
      | (refine And.intro ?_ ?_; (focus (simp [elemsOk, AV.oneC, big]; (try omega); done)); conv => whnf)
      | fail)
  all_goals try simp only [decide_eq_true_eq, decide_eq_false_iff_not] at *
  · have hce : l[i] = e := UInt8.toNat_inj.1 (by omega)
    have hs : splitF e (l.take (i + 1)) [] = ((splitF e (l.take i) []).1 ++ [(splitF e (l.take i) []).2], []) := by rw [List.take_succ_eq_append_getElem hlt, splitF_snoc, if_pos hce]
    refine ⟨i + 1, by omega, by omega, ?_, ?_⟩
    · rw [hs, wrap_succ (by omega)]; rfl
    · rw [hs, List.map_append, Int.toNat_natCast, Int.toNat_natCast, hcur.2.1]; rfl
  · have hce : ¬ l[i] = e := fun he => h (by rw [he])
    have hs : splitF e (l.take (i + 1)) [] = ((splitF e (l.take i) []).1, (splitF e (l.take i) []).2 ++ [l[i]]) := by rw [List.take_succ_eq_append_getElem hlt, splitF_snoc, if_neg hce]
    refine ⟨i + 1, by omega, by omega, ?_, ?_⟩
    · rw [hs, wrap_succ (by omega), show i + 1 - ((splitF e (l.take i) []).2 ++ [l[i]]).length = i - (splitF e (l.take i) []).2.length by simp]; rfl
    · rw [hs]; rfl
  · have hil : i = l.length := by omega
    subst hil
    rw [List.take_length] at hcur ⊢
    have : decide (((l.length - (splitF e l []).2.length : Nat) : Int) = (l.length : Int)) = decide ((splitF e l []).2 = []) := by
      rw [decide_eq_decide]
      constructor
      · intro h; exact List.eq_nil_of_length_eq_zero (by omega)
      · intro h; rw [h]; simp
    rw [this]; rfl

/-- a segment's text -/
def letter (k : Int) : UInt8 := if k = 1 then 110 else if k = 2 then 97 else if k = 3 then 103 else 98
def segText (s : Segment) : List UInt8 := if 1 ≤ s.kind ∧ s.kind ≤ 4 ∧ 0 ≤ s.num ∧ s.num ≤ 999999999 then letter s.kind :: number s.num else []
theorem segText_len (s : Segment) : (segText s).length ≤ 22 := by
  unfold segText
  split
  · have := number_len s.num; simp; omega
  · simp
theorem segText_c (s : Segment) : PureCall Try.prog F.ref18_Text [.agg s.enc] (.str (segText s)) := by
  have hno : (s.kind < 1 ∨ 4 < s.kind ∨ s.num < 0 ∨ 999999999 < s.num) → segText s = [] := fun h => by rw [segText, if_neg (by omega)]
  by_cases hk : s.kind = 1 ∨ s.kind = 2 ∨ s.kind = 3 ∨ s.kind = 4
  · obtain ⟨kind, n⟩ := s
    dsimp only at hk hno
    rcases hk with rfl | rfl | rfl | rfl
    all_goals
      refine contractS fits K.ref18_Text ?_
      repeat' (first
        | (exfalso; revert h; decide)
        | ((with_reducible refine step ?_); conv => whnf)
        | (with_reducible refine And.intro (fun h => ?_) (fun h => ?_))
        | (refine call_pure (number_c n (by simp at *; unfold i64; omega)) rfl rfl ?_; conv => whnf)
        | (refine Exists.intro _ (And.intro rfl (And.intro (by decide) ?_)); conv => whnf)
        | (refine And.intro (by have := number_len n; show 1 + (number n).length ≤ _; omega) ?_; conv => whnf)
        | fail)
      all_goals simp only [decide_eq_true_eq, decide_eq_false_iff_not] at *
      all_goals first
        | (rw [hno (by omega)]; done)
        | (rw [segText, if_pos (by simp; omega)]; rfl)
  · refine contractS fits K.ref18_Text ?_
    repeat' (first
        | (exfalso; revert h; decide)
        | ((with_reducible refine step ?_); conv => whnf)
        | (with_reducible refine And.intro (fun h => ?_) (fun h => ?_))
        | fail)
    all_goals simp only [decide_eq_true_eq, decide_eq_false_iff_not] at *
    all_goals first
        | (rw [hno (by omega)]; done)
        | (exfalso; omega)
/-- the segment with a text -/
def segParse (l : List UInt8) : Segment × Int :=
  if l.length ≤ 1 then (⟨0, 0⟩, 3)
  else if segText ⟨1, valueF (l.drop 1)⟩ = l then (⟨1, valueF (l.drop 1)⟩, 0)
  else if segText ⟨2, valueF (l.drop 1)⟩ = l then (⟨2, valueF (l.drop 1)⟩, 0)
  else if segText ⟨3, valueF (l.drop 1)⟩ = l then (⟨3, valueF (l.drop 1)⟩, 0)
  else if segText ⟨4, valueF (l.drop 1)⟩ = l then (⟨4, valueF (l.drop 1)⟩, 0)
  else (⟨0, 0⟩, 3)
theorem segParse_c (l : List UInt8) (hl : l.length < 1099511627776) : PureCall Try.prog F.ref18_Parse [.str l] (.tuple [.agg (segParse l).1.enc, ai (segParse l).2]) := by
  refine contractS fits K.ref18_Parse ?_
  have hv := value_c (l.drop 1) (by simp; omega)
  repeat' (first
      | (exfalso; revert h; decide)
      | ((with_reducible refine step ?_); conv => whnf)
      | (with_reducible refine And.intro (fun h => ?_) (fun h => ?_))
      | (refine loop_fuelD 6 ?_; conv => whnf)
      | (refine call_pure hv rfl rfl ?_; conv => whnf)
      | (refine call_pure (segText_c ⟨1, valueF (l.drop 1)⟩) rfl rfl ?_; conv => whnf)
      | (refine call_pure (segText_c ⟨2, valueF (l.drop 1)⟩) rfl rfl ?_; conv => whnf)
      | (refine call_pure (segText_c ⟨3, valueF (l.drop 1)⟩) rfl rfl ?_; conv => whnf)
      | (refine call_pure (segText_c ⟨4, valueF (l.drop 1)⟩) rfl rfl ?_; conv => whnf)
      | (refine And.intro ⟨by decide, by simp at *; omega⟩ ?_; conv => whnf)
      | fail)
  all_goals try simp only [decide_eq_true_eq, decide_eq_false_iff_not] at *
  · rw [segParse, if_neg (by omega), if_pos (by assumption)]; rfl
  · rw [segParse, if_neg (by omega), if_neg (by assumption), if_pos (by assumption)]; rfl
  · rw [segParse, if_neg (by omega), if_neg (by assumption), if_neg (by assumption), if_pos (by assumption)]; rfl
  · rw [segParse, if_neg (by omega), if_neg (by assumption), if_neg (by assumption), if_neg (by assumption), if_pos (by assumption)]; rfl
  · rw [segParse, if_neg (by omega), if_neg (by assumption), if_neg (by assumption), if_neg (by assumption), if_neg (by assumption)]; rfl
  all_goals (rw [segParse, if_pos (by omega)]; rfl)
end Go.Proofs.Ytmapiefbnjaikaa.Vm
/- Contracts: lists of segments and their texts; what a query may be. -/
set_option linter.all false
namespace Go.Proofs.Ytmapiefbnjaikaa.Vm
open Go
set_option maxRecDepth 100000

/-- words with spaces between them -/
def joinSp : List (List UInt8) → List UInt8
  | [] => []
  | x :: l => match l with
    | [] => x
    | _ => x ++ 32 :: joinSp l
theorem joinSp_snoc (x : List UInt8) : ∀ l : List (List UInt8), joinSp (l ++ [x]) = if l = [] then x else joinSp l ++ [32] ++ x := by
  intro l
  induction l with
  | nil => rfl
  | cons y l ih =>
    cases l with
    | nil => simp [joinSp]
    | cons z l =>
      rw [if_neg (by simp)] at ih ⊢
      show y ++ 32 :: joinSp (z :: l ++ [x]) = y ++ 32 :: joinSp (z :: l) ++ [32] ++ x
      rw [ih]; simp
theorem joinSp_len (n : Nat) : ∀ l : List (List UInt8), (∀ x ∈ l, x.length ≤ n) → (joinSp l).length ≤ (n + 1) * l.length := by
  intro l
  induction l with
  | nil => intro _; exact Nat.le_refl _
  | cons y l ih =>
    intro h
    have h1 := h y (by simp)
    have h2 := ih fun x hx => h x (List.mem_cons_of_mem _ hx)
    cases l with
    | nil => simp [joinSp]; omega
    | cons z l =>
      show (y ++ 32 :: joinSp (z :: l)).length ≤ _
      rw [List.length_append, List.length_cons, List.length_cons (a := y), Nat.mul_succ]
      omega
def textList (l : List Segment) : List UInt8 := if l.all fun s => decide (segText s ≠ []) then joinSp (l.map segText) else []
theorem joinSp_step {l : List Segment} {i : Nat} (hi : i < l.length) : joinSp ((l.take (i + 1)).map segText) = if i = 0 then segText l[i] else joinSp ((l.take i).map segText) ++ [32] ++ segText l[i] := by
  rw [List.take_succ_eq_append_getElem hi, List.map_append]
  show joinSp (_ ++ [segText l[i]]) = _
  rw [joinSp_snoc]
  by_cases h0 : i = 0
  · subst h0; rfl
  · rw [if_neg h0, if_neg]
    rw [List.map_eq_nil_iff, List.take_eq_nil_iff]
    rintro (h | h)
    · exact h0 h
    · rw [h] at hi; exact nomatch hi
theorem joinSp_take {l : List Segment} (i : Nat) : (joinSp ((l.take i).map segText)).length ≤ 23 * l.length := by
  refine Nat.le_trans (joinSp_len 22 _ ?_) ?_
  · simp only [List.mem_map]
    rintro x ⟨s, _, rfl⟩
    exact segText_len s
  · simp only [List.length_map, List.length_take]; omega

theorem textList_c (l : List Segment) (hl : l.length < 1099511627776) : PureCall Try.prog F.ref18_TextList [asl (l.map Segment.enc)] (.str (textList l)) := by
  refine contractS fits K.ref18_TextList ?_
  repeat' (first
      | ((with_reducible refine step ?_); conv => whnf)
      | fail)
  refine loop_invS (fun i => i ≤ l.length ∧ ∀ s ∈ l.take i, decide (segText s ≠ []) = true) [0, 3, 4] 0 (fun i => [(3, .str (joinSp ((l.take i).map segText))), (4, ai i)]) (fun _ => []) (fun i => l.length - i) 0 (by decide) (by decide) ?_
  conv => whnf
  refine ⟨rfl, rfl, by simp, fun i ⟨hi, hp⟩ => ?_⟩
  have hlen := joinSp_take (l := l) i
  repeat' (first
      | ((with_reducible refine step ?_); conv => whnf)
      | (with_reducible refine And.intro (fun h => ?_) (fun h => ?_))
      | (have hlt : i < l.length := (by first | assumption | simp_all); refine idx_nat hlt rfl ?_; conv => whnf)
      | (refine call_pure (segText_c _) rfl rfl ?_; conv => whnf)
      | (refine And.intro (by have h1 := segText_len l[i]; have h2 : [(32 : UInt8)].length = 1 := rfl; (try simp only [List.length_append]); omega) ?_; conv => whnf)
      | fail)
  all_goals try simp only [List.length_map, decide_eq_true_eq, decide_eq_false_iff_not] at *
  · rw [textList, if_neg]
    rw [List.all_eq_true]; intro hh
    have := hh l[i] (List.getElem_mem hlt)
    simp at this; exact this h
  · refine ⟨i + 1, ⟨by omega, fun s hs => ?_⟩, by omega, by rw [wrap_succ (by omega), joinSp_step hlt, if_neg (by omega)]; rfl, rfl⟩
    rw [List.take_succ_eq_append_getElem hlt, List.mem_append] at hs
    rcases hs with hs | hs
    · exact hp s hs
    · simp at hs; subst hs; assumption
  · have h0 : i = 0 := by omega
    subst h0
    refine ⟨0 + 1, ⟨by omega, fun s hs => ?_⟩, by omega, by rw [wrap_succ (by omega), joinSp_step hlt, if_pos rfl]; rfl, rfl⟩
    rw [List.take_succ_eq_append_getElem hlt, List.mem_append] at hs
    rcases hs with hs | hs
    · exact hp s hs
    · simp at hs; subst hs; assumption
  · obtain rfl : i = l.length := by omega
    rw [List.take_length] at hp ⊢
    rw [textList, if_pos]
    rw [List.all_eq_true]; intro s hs; simpa using hp s hs

/-- the list with a text -/
def parseL : List (List UInt8) → List Segment × Int
  | [] => ([], 0)
  | w :: l => if (segParse w).2 ≠ 0 then ([], (segParse w).2) else if (parseL l).2 ≠ 0 then ([], (parseL l).2) else ((segParse w).1 :: (parseL l).1, 0)
theorem parseL_ok : ∀ ws : List (List UInt8), (∀ w ∈ ws, (segParse w).2 = 0) → parseL ws = (ws.map fun w => (segParse w).1, 0) := by
  intro ws
  induction ws with
  | nil => intro _; rfl
  | cons w ws ih =>
    intro h
    rw [parseL, if_neg (by rw [h w (by simp)]; simp), ih fun x hx => h x (List.mem_cons_of_mem _ hx)]
    rfl
theorem parseL_no (w : List UInt8) (post : List (List UInt8)) (hw : (segParse w).2 ≠ 0) : ∀ ws : List (List UInt8), (∀ w ∈ ws, (segParse w).2 = 0) → parseL (ws ++ w :: post) = ([], (segParse w).2) := by
  intro ws
  induction ws with
  | nil => intro _; rw [List.nil_append, parseL, if_pos hw]
  | cons v ws ih =>
    intro h
    rw [List.cons_append, parseL, if_neg (by rw [h v (by simp)]; simp), ih fun x hx => h x (List.mem_cons_of_mem _ hx), if_pos hw]
def textParse (l : List UInt8) : List Segment × Int := if l = [] then ([], 0) else parseL (split9 (l ++ [32]) 32).1
theorem splitF_in (e : UInt8) : ∀ (l cur : List UInt8) (w : List UInt8), w ∈ (splitF e l cur).1 → w.length ≤ cur.length + l.length := by
  intro l
  induction l with
  | nil => intro cur w h; exact nomatch h
  | cons c l ih =>
    intro cur w h
    unfold splitF at h
    split at h
    · rcases List.mem_cons.1 h with rfl | h
      · simp
      · have := ih _ _ h; simp at this ⊢; omega
    · have := ih _ _ h; simp at this ⊢; omega
theorem textParse_c (l : List UInt8) (hl : l.length < 1073741824) : PureCall Try.prog F.ref18_ParseList [.str l] (.tuple [asl ((textParse l).1.map Segment.enc), ai (textParse l).2]) := by
  refine contractS fits K.ref18_ParseList ?_
  have hw : ∀ w ∈ (split9 (l ++ [32]) 32).1, w.length < 1099511627776 := fun w hw => by
    have := splitF_in _ _ _ _ hw
    simp at this; omega
  have hn := (splitF_cur 32 (l ++ [32])).2.2
  rw [List.length_append, List.length_singleton] at hn
  have hdef : l ≠ [] → textParse l = parseL (split9 (l ++ [32]) 32).1 := fun h => by rw [textParse, if_neg h]
  have hnn : (split9 (l ++ [32]) 32).1.length ≤ l.length + 1 := hn
  have hs9 := split9_c (l ++ [32]) 32 (by simp; omega)
  generalize split9 (l ++ [32]) 32 = ws at hw hnn hdef hs9
  obtain ⟨ws, wb⟩ := ws
  dsimp only at hw hnn hdef hs9
  repeat' (first
      | ((with_reducible refine step ?_); conv => whnf)
      | (with_reducible refine And.intro (fun h => ?_) (fun h => ?_))
      | (refine call_pure hs9 rfl rfl ?_; conv => whnf)
      | (refine And.intro (by simp [big]; omega) ?_; conv => whnf)
      | fail)
  · rw [textParse, if_pos (by simpa using h)]; rfl
  rw [hdef (by simpa using h)]
  refine loop_promoteD (k := 6) (esz := 2) rfl (by decide) ?_
  refine loop_invS (fun i => i ≤ ws.length ∧ ∀ w ∈ ws.take i, (segParse w).2 = 0) [4, 6, 7] 1 (fun i => [(7, ai i)]) (fun i => [(0, .arr 0 2 none ((ws.take i).map fun w => (segParse w).1.enc) false)]) (fun i => ws.length - i) 0 (by decide) (by decide) ?_
  conv => whnf
  refine ⟨rfl, rfl, by simp, fun i ⟨hi, hp⟩ => ?_⟩
  repeat' (first
      | ((with_reducible refine step ?_); conv => whnf)
      | (with_reducible refine And.intro (fun h => ?_) (fun h => ?_))
      | (have hlt : i < ws.length := (by first | assumption | simp_all); refine idx_nat hlt rfl ?_; conv => whnf)
      | (refine call_pure (segParse_c ws[i] (hw _ (List.getElem_mem hlt))) rfl rfl ?_; conv => whnf)
      | (refine And.intro ?_ ?_; (focus (simp [elemsOk, AV.oneC, big]; (try omega); done)); conv => whnf)
      | fail)
  all_goals try simp only [List.length_map, decide_eq_true_eq, decide_eq_false_iff_not, Bool.not_eq_true', Bool.not_eq_false'] at *
  · have hd : ws = ws.take i ++ ws[i] :: ws.drop (i + 1) := by rw [List.getElem_cons_drop_succ_eq_drop, List.take_append_drop]
    have he : parseL ws = ([], (segParse ws[i]).2) := by
      rw [congrArg parseL hd]; exact parseL_no _ _ h _ hp
    rw [he]; rfl
  · refine ⟨i + 1, ⟨by omega, fun s hs => ?_⟩, by omega, by rw [wrap_succ (by omega)]; rfl, by rw [List.take_succ_eq_append_getElem hlt, List.map_append]; rfl⟩
    rw [List.take_succ_eq_append_getElem hlt, List.mem_append] at hs
    rcases hs with hs | hs
    · exact hp s hs
    · simp at hs; subst hs; exact h
  · obtain rfl : i = ws.length := by omega
    rw [List.take_length] at hp ⊢
    rw [parseL_ok _ hp, List.map_map]; rfl

theorem list21_c (s : List UInt8) (hl : s.length < 1073741824) : PureCall Try.prog F.law21_list [.str s] (asl ((textParse s).1.map Segment.enc)) := by
  refine contractS fits K.law21_list ?_
  repeat' (first
      | ((with_reducible refine step ?_); conv => whnf)
      | (refine call_pure (textParse_c s hl) rfl rfl ?_; conv => whnf)
      | fail)
  all_goals rfl
def lineT : Topology := ⟨4, [], [⟨0, 1, 1, 1, 0, 1, 0⟩, ⟨1, 2, 1, 1, 0, 1, 0⟩, ⟨2, 3, 1, 1, 0, 1, 0⟩]⟩
theorem line21_c : PureCall Try.prog F.law21_line [] (.agg lineT.enc) := by
  refine contractS fits K.law21_line ?_
  repeat' (first
      | (exfalso; revert h; decide)
      | ((with_reducible refine step ?_); conv => whnf)
      | (with_reducible refine And.intro (fun h => ?_) (fun h => ?_))
      | (refine loop_promoteBD (id := 1) (k := 2) (esz := 7) rfl rfl (by decide) ?_; refine loop_fuelD 5 ?_; conv => whnf)
      | (refine And.intro ?_ ?_; (focus (simp [elemsOk, AV.oneC, big]; (try omega); done)); conv => whnf)
      | fail)
  all_goals rfl
end Go.Proofs.Ytmapiefbnjaikaa.Vm
/- Contracts: the examples that every statement of the set 23 checks first. -/
set_option linter.all false
namespace Go.Proofs.Ytmapiefbnjaikaa.Vm
open Go
set_option maxRecDepth 100000
set_option maxHeartbeats 4000000

theorem list23_c (s : List UInt8) (hl : s.length < 1073741824) : PureCall Try.prog F.law23_list [.str s] (asl ((textParse s).1.map Segment.enc)) := by
  refine contractS fits K.law23_list ?_
  repeat' (first
      | ((with_reducible refine step ?_); conv => whnf)
      | (refine call_pure (textParse_c s hl) rfl rfl ?_; conv => whnf)
      | fail)
  all_goals rfl
def ring : Topology := ⟨4, [], [⟨0, 1, 1, 1, 0, 1, 0⟩, ⟨1, 2, 1, 1, 0, 1, 0⟩, ⟨2, 3, 1, 1, 0, 1, 0⟩, ⟨3, 0, 1, 1, 0, 1, 0⟩]⟩
theorem ring_valid : ring.valid = true := by decide +kernel
def ringK (d : Nat) : Nat := if d = 3 then 3 else 2
theorem lt_all {p : Nat → Prop} : ∀ {k : Nat}, (∀ i, i < k → p i) → p k → ∀ i, i < k + 1 → p i := fun h hk i hi => by
  rcases Nat.lt_or_ge i _ with hlt | hge
  · exact h i hlt
  · have := Nat.le_antisymm (Nat.le_of_lt_succ hi) hge; subst this; exact hk
theorem ring_dist : ∀ d : Nat, (d : Int) < ring.nodes → DistOk ring [] d (ringK d) := by
  intro d hd
  have : d = 0 ∨ d = 1 ∨ d = 2 ∨ d = 3 := by have : ring.nodes = 4 := rfl; omega
  rcases this with rfl | rfl | rfl | rfl
  · exact ⟨by decide +kernel, by decide, by decide, by decide +kernel, lt_all (lt_all nofun (by decide +kernel)) (by decide +kernel)⟩
  · exact ⟨by decide +kernel, by decide, by decide, by decide +kernel, lt_all (lt_all nofun (by decide +kernel)) (by decide +kernel)⟩
  · exact ⟨by decide +kernel, by decide, by decide, by decide +kernel, lt_all (lt_all nofun (by decide +kernel)) (by decide +kernel)⟩
  · exact ⟨by decide +kernel, by decide, by decide, by decide +kernel, lt_all (lt_all (lt_all nofun (by decide +kernel)) (by decide +kernel)) (by decide +kernel)⟩
def ringT : Table := ⟨0, [⟨[], false, []⟩, ⟨[0], false, []⟩, ⟨[0, 7], false, []⟩, ⟨[7], false, []⟩], []⟩
theorem ring_table : routesT ring 0 ringK 4 = ringT.to := by decide +kernel
theorem ring_c : PureCall Try.prog F.ref22_Routes [.agg ring.enc, asl [], ai 0] (.tuple [.agg ringT.enc, ai 0]) := by
  have := routes22_c ring 0 ringK ring_dist (by decide) (by decide) ring_valid
  rw [show ring.nodes.toNat = 4 from rfl, ring_table] at this
  exact this

theorem ring_fit (x : Table) (hd : x.down.length ≤ 1) (ht : x.to = ringT.to) : Fit ring x where
  links := by decide
  down := by omega
  to := by rw [ht]; decide
  arcs := by rw [ht]; decide
  push := by rw [ht]; decide
def rT1 : List UInt8 := [110, 48, 32, 110, 51]
def rT2 : List UInt8 := [97, 48, 32, 110, 50]
def rT3 : List UInt8 := [97, 50]
def rT4 : List UInt8 := [97, 48, 32, 110, 51]
theorem rP0 : (textParse []).1 = [] := by kernel_rfl
theorem rP1 : (textParse rT1).1 = [⟨1, 0⟩, ⟨1, 3⟩] := by kernel_rfl
theorem rP2 : (textParse rT2).1 = [⟨2, 0⟩, ⟨1, 2⟩] := by kernel_rfl
theorem rP3 : (textParse rT3).1 = [⟨2, 2⟩] := by kernel_rfl
theorem rP4 : (textParse rT4).1 = [⟨2, 0⟩, ⟨1, 3⟩] := by kernel_rfl
def pk (l : List Segment) : Packet := ⟨0, 0, 2, 0, l, 0⟩
def ringD : Table := { ringT with down := [0] }
theorem rS0 : stepR ring ringT (pk []) = ([0, 7], ⟨0, 0, 2, 0, [], 1⟩, 0) := by decide +kernel
theorem rS1 : stepR ring ringT (pk [⟨1, 0⟩, ⟨1, 3⟩]) = ([7], ⟨0, 0, 2, 0, [⟨1, 3⟩], 1⟩, 0) := by decide +kernel
theorem rS2 : stepR ring ringT (pk [⟨2, 0⟩, ⟨1, 2⟩]) = ([0], ⟨0, 0, 2, 0, [⟨1, 2⟩], 1⟩, 0) := by decide +kernel
theorem rS3 : stepR ring ringT (pk [⟨2, 2⟩]) = ([], pk [⟨2, 2⟩], 2) := by decide +kernel
theorem rS4 : stepR ring ringD (pk [⟨2, 0⟩, ⟨1, 3⟩]) = ([0, 7], ⟨0, 0, 2, 0, [], 1⟩, 0) := by decide +kernel
theorem awake23_c : PureCall Try.prog F.law23_awake [] (.bool true) := by
  refine contractS fits K.law23_awake ?_
  have l0 := list23_c [] (by decide)
  have l1 := list23_c rT1 (by decide)
  have l2 := list23_c rT2 (by decide)
  have l3 := list23_c rT3 (by decide)
  have l4 := list23_c rT4 (by decide)
  rw [rP0] at l0
  rw [rP1] at l1
  rw [rP2] at l2
  rw [rP3] at l3
  rw [rP4] at l4
  have s0 := fstep_c ring ringT (pk []) (ring_fit _ (by decide) rfl)
  have s1 := fstep_c ring ringT (pk [⟨1, 0⟩, ⟨1, 3⟩]) (ring_fit _ (by decide) rfl)
  have s2 := fstep_c ring ringT (pk [⟨2, 0⟩, ⟨1, 2⟩]) (ring_fit _ (by decide) rfl)
  have s3 := fstep_c ring ringT (pk [⟨2, 2⟩]) (ring_fit _ (by decide) rfl)
  have s4 := fstep_c ring ringD (pk [⟨2, 0⟩, ⟨1, 3⟩]) (ring_fit _ (by decide) rfl)
  rw [rS0] at s0
  rw [rS1] at s1
  rw [rS2] at s2
  rw [rS3] at s3
  rw [rS4] at s4
  have t0 := textList_c [] (by decide)
  have t1 := textList_c [⟨1, 3⟩] (by decide)
  have t2 := textList_c [⟨1, 2⟩] (by decide)
  rw [show textList [] = [] by kernel_rfl] at t0
  rw [show textList [⟨1, 3⟩] = [110, 51] by kernel_rfl] at t1
  rw [show textList [⟨1, 2⟩] = [110, 50] by kernel_rfl] at t2
  have i0 := sameInts_c [0, 7] [0, 7] (by decide)
  have i1 := sameInts_c [7] [7] (by decide)
  have i2 := sameInts_c [0] [0] (by decide)
  have i3 := sameInts_c [] [] (by decide)
  rw [show decide (([0, 7] : List Int) = [0, 7]) = true from rfl] at i0
  rw [show decide (([7] : List Int) = [7]) = true from rfl] at i1
  rw [show decide (([0] : List Int) = [0]) = true from rfl] at i2
  rw [show decide (([] : List Int) = []) = true from rfl] at i3
  repeat' (first
      | contradiction
      | (exfalso; revert h; decide)
      | ((with_reducible refine step ?_); conv => whnf) | ((with_reducible refine br_dec (fun h => ?_) (fun h => ?_)) <;> try (exfalso; omega)) | ((with_reducible refine br_ndec (fun h => ?_) (fun h => ?_)) <;> try (exfalso; omega)) | (with_reducible refine br_not (fun h => ?_) (fun h => ?_)) | (with_reducible refine And.intro (fun h => ?_) (fun h => ?_))
      | (refine loop_promoteD (k := 1) (esz := 7) rfl (by decide) ?_; refine loop_fuelD 5 ?_; conv => whnf)
      | (with_reducible refine And.intro (show (_ : Int) ≠ 0 by decide) ?_; conv => whnf)
      | (refine call_pure ring_c rfl rfl ?_; conv => whnf)
      | (refine call_pure l0 rfl rfl ?_; conv => whnf)
      | (refine call_pure l1 rfl rfl ?_; conv => whnf)
      | (refine call_pure l2 rfl rfl ?_; conv => whnf)
      | (refine call_pure l3 rfl rfl ?_; conv => whnf)
      | (refine call_pure l4 rfl rfl ?_; conv => whnf)
      | (refine call_pure s0 rfl rfl ?_; conv => whnf)
      | (refine call_pure s1 rfl rfl ?_; conv => whnf)
      | (refine call_pure s2 rfl rfl ?_; conv => whnf)
      | (refine call_pure s3 rfl rfl ?_; conv => whnf)
      | (refine call_pure s4 rfl rfl ?_; conv => whnf)
      | (refine call_pure t0 rfl rfl ?_; conv => whnf)
      | (refine call_pure t1 rfl rfl ?_; conv => whnf)
      | (refine call_pure t2 rfl rfl ?_; conv => whnf)
      | (refine call_pure i0 rfl rfl ?_; conv => whnf)
      | (refine call_pure i1 rfl rfl ?_; conv => whnf)
      | (refine call_pure i2 rfl rfl ?_; conv => whnf)
      | (refine call_pure i3 rfl rfl ?_; conv => whnf)
      | (refine vcall_inS fits K.law23_awake_1 rfl rfl ?_; conv => whnf)
      | (refine And.intro ?_ ?_; (focus (simp [elemsOk, AV.oneC, big]; (try omega); done)); conv => whnf)
      | fail)
  all_goals exact congrArg AV.bool (decide_eq_true rfl)
end Go.Proofs.Ytmapiefbnjaikaa.Vm
/- Laws: what a step leads to. -/
set_option linter.all false
namespace Go.Proofs.Ytmapiefbnjaikaa.Vm
open Go
set_option maxRecDepth 100000
set_option maxHeartbeats 4000000

theorem goes_tail {p : Int → Bool} {l : List Int} (h : goes p l = true) : ∀ a ∈ l, p a = true := by
  intro a ha
  obtain ⟨i, hi⟩ := List.getElem?_of_mem ha
  obtain ⟨hlt, rfl⟩ := List.getElem?_eq_some_iff.1 hi
  simp only [goes, List.all_eq_true, List.mem_range] at h
  have := h i hlt
  simp only [okAt, Bool.and_eq_true, getD_at hlt] at this
  exact this.1
structure WayOk (t : Topology) (x : Table) (p : Packet) (w : Way) : Prop where
  len : w.1.length < 1099511627776
  push : w.2.1.length ≤ 32
  arcs : w.2.2 = 0 → 0 < w.1.length ∧ 0 ≤ p.hops ∧ p.hops < 255 ∧ ∀ a ∈ w.1, t.tail a = x.node
  no : w.2.2 ≠ 0 → w.1 = [] ∧ (w.2.2 = -1 ∨ (1 ≤ w.2.2 ∧ w.2.2 ≤ 5 ∧ w.2.2 ≠ 3))
theorem valid_entry {t : Topology} {x : Table} (h : x.valid t = true) {d : Nat} (hd : d < x.to.length) : (∀ a ∈ (x.to.getD d default).arcs, t.tail a = x.node) ∧ ((x.to.getD d default).replace = false → (x.to.getD d default).push = []) := by
  simp only [Table.valid, Bool.and_eq_true, List.all_eq_true, List.mem_range] at h
  have := h.2 d hd
  simp only [entryOk, Bool.and_eq_true, Bool.not_eq_true', Bool.and_eq_false_iff, Bool.or_eq_false_iff, decide_eq_false_iff_not] at this
  refine ⟨fun a ha => by simpa using goes_tail this.1.1.1.1 a ha, fun hr => ?_⟩
  have h2 := this.1.1.2
  rw [hr] at h2
  rcases h2 with h2 | h2
  · exact nomatch h2
  · exact List.eq_nil_of_length_eq_zero (by omega)
theorem fwd_ok {t : Topology} {x : Table} {p : Packet} {stack : List Segment} {again : Way} {to : Int} (hf : Fit t x) (hv : x.valid t = true) (hs : stack.length ≤ 32) (hh : 0 ≤ p.hops ∧ p.hops < 255) (ha : 0 < stack.length → WayOk t x p again) : WayOk t x p (fwd t x stack again to) := by
  have hto := (valid_to hv).1
  unfold fwd
  split
  · split
    · exact ha (by assumption)
    · exact ⟨by simp, by simp, fun h => by simp at h, fun _ => by simp⟩
  · rename_i h
    have hd : to.toNat < x.to.length := by omega
    have hal : (x.to.getD to.toNat default).arcs.length < 1099511627776 := by rw [getD_at hd]; exact hf.arcs _ (List.getElem_mem hd)
    obtain ⟨e1, e2⟩ := valid_entry hv hd
    split
    · split
      · exact ⟨by simp, by simp, fun h => by simp at h, fun _ => by simp⟩
      · exact ⟨hal, by simp only [List.length_append, List.length_drop]; omega, fun _ => ⟨by show 0 < _; simp only; omega, hh.1, hh.2, e1⟩, fun h => by simp at h⟩
    · exact ⟨hal, hs, fun _ => ⟨by show 0 < _; simp only; omega, hh.1, hh.2, e1⟩, fun h => by simp at h⟩
theorem routeG_ok {t : Topology} {x : Table} {p : Packet} {stack : List Segment} {again : Way} (hf : Fit t x) (hv : x.valid t = true) (hs : stack.length ≤ 32) (ha : 0 < stack.length → WayOk t x p again) : WayOk t x p (routeG t x p stack again) := by
  unfold routeG
  split
  · exact ⟨by simp, by simp, fun h => by simp at h, fun _ => by simp⟩
  split
  · exact ⟨by simp, by simp, fun h => by simp at h, fun _ => by simp⟩
  rename_i h1 h2
  split
  · split
    · split
      · exact ⟨by simp, by simp, fun h => by simp at h, fun _ => by simp⟩
      split
      · exact ha (by assumption)
      · rename_i h4 h5
        exact ⟨by simp, by simp; omega, fun _ => ⟨by simp, by omega, by omega, fun a ha => by simp at ha; subst ha; simpa using h4⟩, fun h => by simp at h⟩
    split
    · exact fwd_ok hf hv hs (by omega) ha
    · exact ⟨by simp, by simp, fun h => by simp at h, fun _ => by simp⟩
  · exact fwd_ok hf hv hs (by omega) ha
theorem route_ok {t : Topology} {x : Table} {p : Packet} {stack : List Segment} (hf : Fit t x) (hv : x.valid t = true) (hs : stack.length ≤ 32) : WayOk t x p (route t x p stack) :=
  routeG_ok hf hv hs fun _ => routeG_ok hf hv (by simp) fun h => by simp at h
theorem own_len (x : Table) (l : List Segment) : (l.dropWhile (own x)).length ≤ l.length := by
  induction l with
  | nil => simp
  | cons a l ih => rw [List.dropWhile_cons]; split <;> simp; omega
/-- what a step leads to -/
structure StepOk (t : Topology) (x : Table) (p : Packet) (r : Stepped) : Prop where
  len : r.1.length < 1099511627776
  stack : r.2.1.stack.length ≤ p.stack.length ∨ r.2.1.stack.length ≤ 32
  same : r.2.1.id = p.id ∧ r.2.1.src = p.src ∧ r.2.1.dst = p.dst ∧ r.2.1.flow = p.flow
  yes : r.2.2 = 0 → 0 < r.1.length ∧ 0 ≤ p.hops ∧ p.hops < 255 ∧ (∀ a ∈ r.1, t.tail a = x.node) ∧ r.2.1.stack.length ≤ 32 ∧ r.2.1.hops = IntKind.i64.wrap (p.hops + 1)
  no : r.2.2 ≠ 0 → r.1 = [] ∧ (r.2.2 = -1 ∨ (1 ≤ r.2.2 ∧ r.2.2 ≤ 5 ∧ r.2.2 ≠ 3)) ∧ r.2.1.hops = p.hops
theorem stepR_ok {t : Topology} {x : Table} {p : Packet} (hf : Fit t x) : StepOk t x p (stepR t x p) := by
  unfold stepR
  split
  · exact ⟨by simp, .inl (Nat.le_refl _), ⟨rfl, rfl, rfl, rfl⟩, fun h => by simp at h, fun _ => by simp⟩
  split
  · exact ⟨by simp, .inl (Nat.le_refl _), ⟨rfl, rfl, rfl, rfl⟩, fun h => by simp at h, fun _ => by simp⟩
  rename_i h1 h2
  have hv : x.valid t = true := by
    cases hx : x.valid t with
    | true => rfl
    | false => exact absurd (.inl hx) h1
  have hw := route_ok (p := p) (stack := p.stack.dropWhile (own x)) hf hv (by have := own_len x p.stack; omega)
  generalize route t x p (p.stack.dropWhile (own x)) = w at hw
  obtain ⟨w1, w2, w3, w4⟩ := hw
  split
  · rename_i h3
    have := w4 (by omega)
    exact ⟨w1, .inl (Nat.zero_le _), ⟨rfl, rfl, rfl, rfl⟩, fun h => by simp at h; omega, fun _ => ⟨this.1, this.2, rfl⟩⟩
  split
  · rename_i h3 h4
    have := w3 h4
    exact ⟨w1, .inr w2, ⟨rfl, rfl, rfl, rfl⟩, fun _ => ⟨this.1, this.2.1, this.2.2.1, this.2.2.2, w2, rfl⟩, fun h => absurd h4 h⟩
  · rename_i h3 h4
    have := w4 h4
    exact ⟨w1, .inl (Nat.le_refl _), ⟨rfl, rfl, rfl, rfl⟩, fun h => absurd h h4, fun _ => ⟨this.1, this.2, rfl⟩⟩
end Go.Proofs.Ytmapiefbnjaikaa.Vm
/- Contracts: statements of the set 23. -/
set_option linter.all false
namespace Go.Proofs.Ytmapiefbnjaikaa.Vm
open Go
set_option maxRecDepth 100000
set_option maxHeartbeats 4000000

theorem segDrop0 (l : List Segment) : elemsOk 2 (l.map Segment.enc) := segDrop l 0
theorem sameRefl_c (p : Packet) (h : p.stack.length < 4611686018427387904) : PureCall Try.prog F.ref23_Same [.agg p.enc, .agg p.enc] (.bool true) := by
  have := samePacket_c p p h
  rwa [decide_eq_true rfl] at this
theorem sameIntsRefl_c (l : List Int) (h : l.length < 4611686018427387904) : PureCall Try.prog F.ref09_SameInts [asl (l.map eInt), asl (l.map eInt)] (.bool true) := by
  have := sameInts_c l l h
  rwa [decide_eq_true rfl] at this
theorem forwardStep_c (c : Case) (hc : c.Ok) : PureCall Try.prog F.law23_ForwardStep [.agg c.enc] (.bool true) := by
  refine contractS fits K.law23_ForwardStep ?_
  have hlg := large23_c c (Nat.lt_of_le_of_lt hc.to (by decide))
  obtain ⟨t, x, p⟩ := c
  have hfit := fun (h : large23 ⟨t, x, p⟩ = false) => large23_no hc h
  dsimp only at hfit
  repeat' (first
      | contradiction
      | ((with_reducible refine step ?_); conv => whnf) | ((with_reducible refine br_dec (fun h => ?_) (fun h => ?_)) <;> try (exfalso; omega)) | ((with_reducible refine br_ndec (fun h => ?_) (fun h => ?_)) <;> try (exfalso; omega)) | (with_reducible refine br_not (fun h => ?_) (fun h => ?_)) | (with_reducible refine And.intro (fun h => ?_) (fun h => ?_))
      | (refine call_pure awake23_c rfl rfl ?_; conv => whnf)
      | (refine call_pure hlg rfl rfl ?_; conv => whnf)
      | (have hF := hfit (by assumption); have hok := stepR_ok (p := p) hF.1; refine And.intro ⟨trivial, rfl, segDrop0 p.stack, by simp [big]; omega⟩ ?_; conv => whnf)
      | fail)
  have h1 := fstep_c t x p hF.1
  have h2 := step23_c t x p hF.1
  have h3 := sameIntsRefl_c (stepR t x p).1 (by have := hok.len; omega)
  have h4 := sameRefl_c (stepR t x p).2.1 (by have := hok.stack; omega)
  have h5 := sameRefl_c p (by omega)
  generalize stepR t x p = r at h1 h2 h3 h4 hok
  obtain ⟨r1, ⟨q1, q2, q3, q4, q5, q6⟩, r3⟩ := r
  repeat' (first
      | contradiction
      | (refine call_pure h1 rfl rfl ?_; conv => whnf)
      | (refine call_pure h2 rfl rfl ?_; conv => whnf)
      | (refine call_pure h3 rfl rfl ?_; conv => whnf)
      | (refine call_pure h4 rfl rfl ?_; conv => whnf)
      | (refine call_pure h5 rfl rfl ?_; conv => whnf)
      | ((with_reducible refine step ?_); conv => whnf) | ((with_reducible refine br_dec (fun h => ?_) (fun h => ?_)) <;> try (exfalso; omega)) | ((with_reducible refine br_ndec (fun h => ?_) (fun h => ?_)) <;> try (exfalso; omega)) | (with_reducible refine br_not (fun h => ?_) (fun h => ?_)) | (with_reducible refine And.intro (fun h => ?_) (fun h => ?_))
      | fail)
end Go.Proofs.Ytmapiefbnjaikaa.Vm
/- Laws and contracts: statements of the set 23. -/
set_option linter.all false
namespace Go.Proofs.Ytmapiefbnjaikaa.Vm
open Go
set_option maxRecDepth 100000
set_option maxHeartbeats 4000000

theorem stepR_plain {t : Topology} {x : Table} {p : Packet} (hv : x.valid t = true) (h0 : 0 ≤ p.dst) (h1 : p.dst < t.nodes) (h2 : 0 ≤ p.hops) (h3 : p.hops < 255) (hs : p.stack = []) :
    stepR t x p = if p.dst = x.node then ([], p, -1) else if (x.to.getD p.dst.toNat default).arcs.length = 0 then ([], p, 1)
      else ((x.to.getD p.dst.toNat default).arcs, { p with stack := (x.to.getD p.dst.toNat default).push, hops := IntKind.i64.wrap (p.hops + 1) }, 0) := by
  obtain ⟨a, b, c, d, e, f⟩ := p
  dsimp only at *
  subst hs
  have hto := (valid_to hv).1
  have hd : c.toNat < x.to.length := by omega
  have hpu := (valid_to hv).2 _ hd
  have he := (valid_entry hv hd).2
  generalize hr : route t x ⟨a, b, c, d, [], f⟩ [] = w
  rw [stepR_eq (S := []) hv (by show ¬ c < 0; omega) (by show ¬ t.nodes ≤ c; omega) (by simp) rfl hr]
  unfold route routeG fwd at hr
  simp only [List.length_nil, true_and] at hr
  by_cases hc : c = x.node
  · rw [if_pos hc] at hr; subst hr; rw [if_pos hc]; rfl
  · rw [if_neg hc, if_neg (by omega), if_neg (by omega)] at hr
    rw [if_neg hc]
    by_cases ha : (x.to.getD c.toNat default).arcs.length = 0
    · rw [if_pos (by omega), if_neg (by omega)] at hr; subst hr; rw [if_pos ha]; rfl
    · rw [if_neg (by omega)] at hr
      rw [if_neg ha]
      cases hrep : (x.to.getD c.toNat default).replace with
      | true =>
        rw [hrep, if_pos rfl, if_neg (by omega)] at hr
        subst hr
        simp only [List.drop_nil, List.append_nil]; rfl
      | false =>
        rw [hrep, if_neg (by simp)] at hr
        subst hr
        rw [he hrep]; rfl

theorem forwardPlain_c (c : Case) (hc : c.Ok) : PureCall Try.prog F.law23_ForwardPlain [.agg c.enc] (.bool true) := by
  obtain ⟨t, x, p⟩ := c
  show PureCall Try.prog F.law23_ForwardPlain [.agg (t.enc ++ x.enc ++ p.enc)] _
  refine contractS fits K.law23_ForwardPlain ?_
  have hlg : PureCall Try.prog F.law23_large [.agg (t.enc ++ x.enc ++ p.enc)] (.bool (large23 ⟨t, x, p⟩)) := large23_c ⟨t, x, p⟩ (Nat.lt_of_le_of_lt hc.to (by decide))
  have hfit := fun (h : large23 ⟨t, x, p⟩ = false) => large23_no hc h
  dsimp only at hfit
  have hS := @stepR_plain t x { p with stack := [] }
  dsimp only at hS
  repeat' (first
      | contradiction
      | ((with_reducible refine step ?_); conv => whnf) | ((with_reducible refine br_dec (fun h => ?_) (fun h => ?_)) <;> try (exfalso; omega)) | ((with_reducible refine br_ndec (fun h => ?_) (fun h => ?_)) <;> try (exfalso; omega)) | (with_reducible refine br_not (fun h => ?_) (fun h => ?_)) | (with_reducible refine And.intro (fun h => ?_) (fun h => ?_))
      | (refine call_pure awake23_c rfl rfl ?_; conv => whnf)
      | (refine call_pure hlg rfl rfl ?_; conv => whnf)
      | (have hF := hfit (by assumption); refine call_pure (tableValid22_c t x hF.1) rfl rfl ?_; conv => whnf)
      | fail)
  have hv : x.valid t = true := by assumption
  have hto := (valid_to hv).1
  have hd : p.dst.toNat < x.to.length := by omega
  have hpu := (valid_to hv).2 _ hd
  have h1 := fstep_c t x { p with stack := [] } hF.1
  rw [hS hv (by omega) (by omega) (by omega) (by omega) rfl, getD_at hd] at h1
  rw [getD_at hd] at hpu
  have hal := hF.2.2.2.1 _ (List.getElem_mem hd)
  have hdI : p.dst = ((p.dst.toNat : Nat) : Int) := by omega
  have hi1 := sameIntsRefl_c x.to[p.dst.toNat].arcs (by omega)
  have hi2 := same18_c x.to[p.dst.toNat].push x.to[p.dst.toNat].push (by omega)
  rw [decide_eq_true rfl] at hi2
  clear hS hlg hfit
  have hmap : (x.to[p.dst.toNat].arcs.map eInt).length = x.to[p.dst.toNat].arcs.length := List.length_map ..
  by_cases hc1 : p.dst = x.node
  · rw [if_pos hc1] at h1
    repeat' (first
      | contradiction
      | (refine call_pure h1 rfl rfl ?_; conv => whnf)
      | (refine idx_int hdI hd rfl ?_; conv => whnf)
      | ((with_reducible refine step ?_); conv => whnf) | ((with_reducible refine br_dec (fun h => ?_) (fun h => ?_)) <;> try (exfalso; omega)) | ((with_reducible refine br_ndec (fun h => ?_) (fun h => ?_)) <;> try (exfalso; omega)) | (with_reducible refine br_not (fun h => ?_) (fun h => ?_)) | (with_reducible refine And.intro (fun h => ?_) (fun h => ?_))
      | fail)
    all_goals rfl
  rw [if_neg hc1] at h1
  by_cases hc2 : x.to[p.dst.toNat].arcs.length = 0
  · rw [if_pos hc2] at h1
    repeat' (first
      | contradiction
      | (refine call_pure h1 rfl rfl ?_; conv => whnf)
      | (refine idx_int hdI hd rfl ?_; conv => whnf)
      | ((with_reducible refine step ?_); conv => whnf) | ((with_reducible refine br_dec (fun h => ?_) (fun h => ?_)) <;> try (exfalso; omega)) | ((with_reducible refine br_ndec (fun h => ?_) (fun h => ?_)) <;> try (exfalso; omega)) | (with_reducible refine br_not (fun h => ?_) (fun h => ?_)) | (with_reducible refine And.intro (fun h => ?_) (fun h => ?_))
      | fail)
    all_goals rfl
  · rw [if_neg hc2] at h1
    repeat' (first
      | contradiction
      | (refine call_pure h1 rfl rfl ?_; conv => whnf)
      | (refine call_pure hi1 rfl rfl ?_; conv => whnf)
      | (refine call_pure hi2 rfl rfl ?_; conv => whnf)
      | (refine idx_int hdI hd rfl ?_; conv => whnf)
      | ((with_reducible refine step ?_); conv => whnf) | ((with_reducible refine br_dec (fun h => ?_) (fun h => ?_)) <;> try (exfalso; omega)) | ((with_reducible refine br_ndec (fun h => ?_) (fun h => ?_)) <;> try (exfalso; omega)) | (with_reducible refine br_not (fun h => ?_) (fun h => ?_)) | (with_reducible refine And.intro (fun h => ?_) (fun h => ?_))
      | fail)
    all_goals first | rfl | exact congrArg AV.bool (decide_eq_true rfl)

theorem forwardBounds_c (c : Case) (hc : c.Ok) : PureCall Try.prog F.law23_ForwardBounds [.agg c.enc] (.bool true) := by
  obtain ⟨t, x, p⟩ := c
  show PureCall Try.prog F.law23_ForwardBounds [.agg (t.enc ++ x.enc ++ p.enc)] _
  refine contractS fits K.law23_ForwardBounds ?_
  have hlg : PureCall Try.prog F.law23_large [.agg (t.enc ++ x.enc ++ p.enc)] (.bool (large23 ⟨t, x, p⟩)) := large23_c ⟨t, x, p⟩ (Nat.lt_of_le_of_lt hc.to (by decide))
  have hfit := fun (h : large23 ⟨t, x, p⟩ = false) => large23_no hc h
  dsimp only at hfit
  repeat' (first
      | contradiction
      | ((with_reducible refine step ?_); conv => whnf) | ((with_reducible refine br_dec (fun h => ?_) (fun h => ?_)) <;> try (exfalso; omega)) | ((with_reducible refine br_ndec (fun h => ?_) (fun h => ?_)) <;> try (exfalso; omega)) | (with_reducible refine br_not (fun h => ?_) (fun h => ?_)) | (with_reducible refine And.intro (fun h => ?_) (fun h => ?_))
      | (refine call_pure awake23_c rfl rfl ?_; conv => whnf)
      | (refine call_pure hlg rfl rfl ?_; conv => whnf)
      | fail)
  have hF := hfit (by assumption)
  have hok := stepR_ok (p := p) hF.1
  have h1 := fstep_c t x p hF.1
  generalize stepR t x p = r at h1 hok
  obtain ⟨r1, ⟨q1, q2, q3, q4, q5, q6⟩, r3⟩ := r
  obtain ⟨k1, k2, ⟨k3, k4, k5, k6⟩, k7, k8⟩ := hok
  have h1 : PureCall Try.prog F.forward_Step [.agg t.enc, .agg x.enc, .agg p.enc] (.tuple [asl (r1.map eInt), .agg [ai q1, ai q2, ai q3, ai q4, asl (q5.map Segment.enc), ai q6], ai r3]) := h1
  dsimp only at k1 k2 k3 k4 k5 k6 k7 k8
  subst k3; subst k4; subst k5; subst k6
  have hm : (r1.map eInt).length = r1.length := List.length_map ..
  by_cases hr : r3 = 0
  · obtain ⟨y1, y2, y3, y4, y5, y6⟩ := k7 hr
    subst hr
    have hw : IntKind.i64.wrap (p.hops + 1) = p.hops + 1 := wrap_in (by omega)
    have hm2 : (q5.map Segment.enc).length = q5.length := List.length_map ..
    repeat' (first
      | contradiction
      | (refine call_pure h1 rfl rfl ?_; conv => whnf)
      | ((with_reducible refine step ?_); conv => whnf) | ((with_reducible refine br_dec (fun h => ?_) (fun h => ?_)) <;> try (exfalso; omega)) | ((with_reducible refine br_ndec (fun h => ?_) (fun h => ?_)) <;> try (exfalso; omega)) | (with_reducible refine br_not (fun h => ?_) (fun h => ?_)) | (with_reducible refine And.intro (fun h => ?_) (fun h => ?_))
      | fail)
    · exfalso
      have hne : r1 ≠ [] := fun e => by subst e; exact absurd y1 (by decide)
      simp [hne] at h
    refine loop_invS (fun i => i ≤ r1.length) [1, 4, 85, 86, 87] 2 (fun i => [(87, ai i)]) (fun _ => []) (fun i => r1.length - i) 0 (by decide) (by decide) ?_
    conv => whnf
    refine ⟨rfl, rfl, by omega, fun i hi => ?_⟩
    repeat' (first
      | contradiction
      | ((with_reducible refine step ?_); conv => whnf) | ((with_reducible refine br_dec (fun h => ?_) (fun h => ?_)) <;> try (exfalso; omega)) | ((with_reducible refine br_ndec (fun h => ?_) (fun h => ?_)) <;> try (exfalso; omega)) | (with_reducible refine br_not (fun h => ?_) (fun h => ?_)) | (with_reducible refine And.intro (fun h => ?_) (fun h => ?_))
      | (have hlt : i < r1.length := (by omega); refine idx_nat hlt rfl ?_; conv => whnf)
      | (refine call_pure (tail9_c t _) rfl rfl ?_; conv => whnf)
      | fail)
    · exact absurd (y4 _ (List.getElem_mem hlt)) (by assumption)
    · exact ⟨i + 1, by omega, by omega, by rw [wrap_succ (by omega)]; rfl, rfl⟩
    all_goals first
      | (exfalso; omega)
      | (refine congrArg AV.bool (decide_eq_true ?_); omega)
      | (refine congrArg AV.bool (decide_eq_true ?_); rw [y6])
  · obtain ⟨y1, y2, y3⟩ := k8 hr
    subst y1; subst y3
    repeat' (first
      | contradiction
      | (refine call_pure h1 rfl rfl ?_; conv => whnf)
      | ((with_reducible refine step ?_); conv => whnf) | ((with_reducible refine br_dec (fun h => ?_) (fun h => ?_)) <;> try (exfalso; omega)) | ((with_reducible refine br_ndec (fun h => ?_) (fun h => ?_)) <;> try (exfalso; omega)) | (with_reducible refine br_not (fun h => ?_) (fun h => ?_)) | (with_reducible refine And.intro (fun h => ?_) (fun h => ?_))
      | fail)
    all_goals first
      | rfl
      | (exfalso; omega)
      | (refine congrArg AV.bool (decide_eq_true ?_); first | rfl | omega)
      | (exfalso; simp [hr] at h; done)
end Go.Proofs.Ytmapiefbnjaikaa.Vm
/- Laws and contracts: more statements of the set 23. -/
set_option linter.all false
namespace Go.Proofs.Ytmapiefbnjaikaa.Vm
open Go
set_option maxRecDepth 100000
set_option maxHeartbeats 4000000

/-- two steps that are alike -/
structure Alike (r s : Stepped) : Prop where
  arcs : r.1 = s.1
  reason : r.2.2 = s.2.2
  packet : 0 < r.2.2 ∨ r.2.1 = s.2.1
theorem stepR_alike {t : Topology} {x : Table} {p : Packet} {l l' : List Segment} (hf : Fit t x) (hl : l.length ≤ 32) (hl' : l'.length ≤ 32)
    (h : x.valid t = true → ¬ p.dst < 0 → ¬ t.nodes ≤ p.dst → route t x p (l.dropWhile (own x)) = route t x p (l'.dropWhile (own x))) : Alike (stepR t x { p with stack := l }) (stepR t x { p with stack := l' }) := by
  by_cases h1 : x.valid t = false ∨ p.dst < 0 ∨ t.nodes ≤ p.dst
  · unfold stepR
    rw [if_pos h1, if_pos h1]
    exact ⟨rfl, rfl, .inl (show (0 : Int) < 1 by decide)⟩
  · have hv : x.valid t = true := by
      cases hx : x.valid t with
      | true => rfl
      | false => exact absurd (.inl hx) h1
    have hw := h hv (by omega) (by omega)
    generalize hr : route t x p (l.dropWhile (own x)) = w at hw
    rw [stepR_eq (p := { p with stack := l }) (w := w) hv (by show ¬ p.dst < 0; omega) (by show ¬ t.nodes ≤ p.dst; omega) (by show ¬ 32 < (l.length : Int); omega) rfl hr,
      stepR_eq (p := { p with stack := l' }) (w := w) hv (by show ¬ p.dst < 0; omega) (by show ¬ t.nodes ≤ p.dst; omega) (by show ¬ 32 < (l'.length : Int); omega) rfl hw.symm]
    refine ⟨rfl, rfl, ?_⟩
    have hb := route_ok (p := p) (stack := l.dropWhile (own x)) (t := t) (x := x) hf hv (by have := own_len x l; omega)
    rw [hr] at hb
    by_cases h2 : w.2.2 = -1
    · right; simp only [if_pos h2]
    · by_cases h3 : w.2.2 = 0
      · right; simp only [if_neg h2, if_pos h3]
      · left
        show 0 < w.2.2
        have := (hb.no h3).2
        omega
theorem own_rep (x : Table) (l : List Segment) (m : Nat) : (List.replicate m (⟨1, x.node⟩ : Segment) ++ l).dropWhile (own x) = l.dropWhile (own x) := by
  induction m with
  | zero => rfl
  | succ m ih => rw [List.replicate_succ, List.cons_append, List.dropWhile_cons_of_pos (by simp [own]), ih]

theorem forwardReached_c (c : Case) (b : Int) (hc : c.Ok) (hb : 0 ≤ b ∧ b ≤ 255) : PureCall Try.prog F.law23_ForwardReached [.agg c.enc, .int .u8 b] (.bool true) := by
  obtain ⟨t, x, p⟩ := c
  show PureCall Try.prog F.law23_ForwardReached [.agg (t.enc ++ x.enc ++ p.enc), .int .u8 b] _
  refine contractS fits K.law23_ForwardReached ?_
  have hlg : PureCall Try.prog F.law23_large [.agg (t.enc ++ x.enc ++ p.enc)] (.bool (large23 ⟨t, x, p⟩)) := large23_c ⟨t, x, p⟩ (Nat.lt_of_le_of_lt hc.to (by decide))
  have hfit := fun (h : large23 ⟨t, x, p⟩ = false) => large23_no hc h
  dsimp only at hfit
  have hw : IntKind.i64.wrap (b.tmod 5) = ((b % 5).toNat : Int) := by rw [Int.tmod_eq_emod_of_nonneg hb.1, wrap_in (by omega)]; omega
  have hlm : (p.stack.map Segment.enc).length = p.stack.length := List.length_map ..
  repeat' (first
      | contradiction
      | ((with_reducible refine step ?_); conv => whnf) | ((with_reducible refine br_dec (fun h => ?_) (fun h => ?_)) <;> try (exfalso; omega)) | ((with_reducible refine br_ndec (fun h => ?_) (fun h => ?_)) <;> try (exfalso; omega)) | (with_reducible refine br_not (fun h => ?_) (fun h => ?_)) | (with_reducible refine And.intro (fun h => ?_) (fun h => ?_))
      | (refine call_pure awake23_c rfl rfl ?_; conv => whnf)
      | (refine call_pure hlg rfl rfl ?_; conv => whnf)
      | (with_reducible refine And.intro (show (_ : Int) ≠ 0 by decide) ?_; conv => whnf)
      | fail)
  have hF := hfit (by assumption)
  have hsum := h
  clear h
  rw [hw] at hsum
  have hm : (b % 5).toNat < 5 := by omega
  rw [hw]
  generalize (b % 5).toNat = m at hm hsum
  rw [wrap_in (by omega)] at hsum
  refine loop_promoteBD (id := 1) (k := 4) (esz := 2) rfl rfl (by decide) ?_
  conv => whnf
  refine loop_invS (fun i => i ≤ m) [2, 5, 32, 33] 3 (fun i => [(33, ai i)]) (fun i => [(2, .arr 0 2 none (List.replicate i [ai 1, ai x.node]) false)]) (fun i => m - i) 0 (by decide) (by decide) ?_
  conv => whnf
  refine ⟨rfl, rfl, by omega, fun i hi => ?_⟩
  repeat' (first
      | contradiction
      | ((with_reducible refine step ?_); conv => whnf) | ((with_reducible refine br_dec (fun h => ?_) (fun h => ?_)) <;> try (exfalso; omega)) | ((with_reducible refine br_ndec (fun h => ?_) (fun h => ?_)) <;> try (exfalso; omega)) | (with_reducible refine br_not (fun h => ?_) (fun h => ?_)) | (with_reducible refine And.intro (fun h => ?_) (fun h => ?_))
      | (refine And.intro ⟨trivial, rfl, segDrop0 p.stack, by simp [big]; omega⟩ ?_; conv => whnf)
      | (refine And.intro ⟨trivial, rfl, segDrop0 [⟨1, x.node⟩], by simp [big]; omega⟩ ?_; conv => whnf)
      | fail)
  · exact ⟨i + 1, by omega, by omega, by rw [wrap_succ (by omega)]; rfl, by rw [List.replicate_succ']; rfl⟩
  obtain rfl : i = m := by omega
  have hms : (List.replicate i (⟨1, x.node⟩ : Segment) ++ p.stack).length ≤ 32 := by simp; omega
  have h1 := fstep_c t x { p with stack := List.replicate i (⟨1, x.node⟩ : Segment) ++ p.stack } hF.1
  have h2 := fstep_c t x p hF.1
  have hA := stepR_alike (t := t) (x := x) (p := p) (l := List.replicate i (⟨1, x.node⟩ : Segment) ++ p.stack) (l' := p.stack) hF.1 hms (by omega) (fun _ _ _ => by rw [own_rep])
  have ho1 := stepR_ok (t := t) (x := x) (p := { p with stack := List.replicate i (⟨1, x.node⟩ : Segment) ++ p.stack }) hF.1
  have ho2 := stepR_ok (t := t) (x := x) (p := p) hF.1
  have hpp : { p with stack := p.stack } = p := rfl
  rw [hpp] at hA
  generalize stepR t x p = s at h2 hA ho2
  generalize stepR t x { p with stack := List.replicate i (⟨1, x.node⟩ : Segment) ++ p.stack } = r at h1 hA ho1
  have h1 : PureCall Try.prog F.forward_Step [.agg t.enc, .agg x.enc, .agg [ai p.id, ai p.src, ai p.dst, ai p.flow, asl (List.replicate i [ai 1, ai x.node] ++ p.stack.map Segment.enc), ai p.hops]] (eStep r) := by
    have he : (List.replicate i (⟨1, x.node⟩ : Segment) ++ p.stack).map Segment.enc = List.replicate i [ai 1, ai x.node] ++ p.stack.map Segment.enc := by
      rw [List.map_append, List.map_replicate]; rfl
    rw [← he]; exact h1
  obtain ⟨r1, ⟨q1, q2, q3, q4, q5, q6⟩, r3⟩ := r
  obtain ⟨s1, ⟨u1, u2, u3, u4, u5, u6⟩, s3⟩ := s
  have l1 := ho1.len
  have l2 := ho1.stack
  obtain ⟨a1, a2, a3⟩ := hA
  dsimp only at a1 a2 a3 l1 l2
  subst a1; subst a2
  have h1 : PureCall Try.prog F.forward_Step [.agg t.enc, .agg x.enc, .agg [ai p.id, ai p.src, ai p.dst, ai p.flow, asl (List.replicate i [ai 1, ai x.node] ++ p.stack.map Segment.enc), ai p.hops]] (.tuple [asl (r1.map eInt), .agg [ai q1, ai q2, ai q3, ai q4, asl (q5.map Segment.enc), ai q6], ai r3]) := h1
  have h2 : PureCall Try.prog F.forward_Step [.agg t.enc, .agg x.enc, .agg p.enc] (.tuple [asl (r1.map eInt), .agg [ai u1, ai u2, ai u3, ai u4, asl (u5.map Segment.enc), ai u6], ai r3]) := h2
  have h3 := sameIntsRefl_c r1 (by omega)
  have h4 := samePacket_c ⟨q1, q2, q3, q4, q5, q6⟩ ⟨u1, u2, u3, u4, u5, u6⟩ (by show q5.length < _; omega)
  repeat' (first
      | contradiction
      | (refine call_pure h1 rfl rfl ?_; conv => whnf)
      | (refine call_pure h2 rfl rfl ?_; conv => whnf)
      | (refine call_pure h3 rfl rfl ?_; conv => whnf)
      | (refine call_pure h4 rfl rfl ?_; conv => whnf)
      | ((with_reducible refine step ?_); conv => whnf) | ((with_reducible refine br_dec (fun h => ?_) (fun h => ?_)) <;> try (exfalso; omega)) | ((with_reducible refine br_ndec (fun h => ?_) (fun h => ?_)) <;> try (exfalso; omega)) | (with_reducible refine br_not (fun h => ?_) (fun h => ?_)) | (with_reducible refine And.intro (fun h => ?_) (fun h => ?_))
      | (refine And.intro ⟨trivial, rfl, segDrop0 p.stack, by simp [big]; omega⟩ ?_; conv => whnf)
      | fail)
  all_goals exact congrArg AV.bool (decide_eq_true (a3.resolve_left (by assumption)))

/-- a packet whose first segment does not lead on -/
theorem route_bypass {t : Topology} {x : Table} {p : Packet} {s : Segment} {l : List Segment} (hv : x.valid t = true) (h2 : 0 ≤ p.hops) (h3 : p.hops < 255)
    (h : (s.kind = 2 ∧ x.down.contains s.num = true) ∨ (s.kind = 1 ∧ s.num ≠ x.node ∧ (s.num < 0 ∨ t.nodes ≤ s.num ∨ (x.to.getD s.num.toNat default).arcs.length = 0))) :
    route t x p ((s :: l).dropWhile (own x)) = route t x p (([] : List Segment).dropWhile (own x)) := by
  have hown : own x s = false := by
    obtain ⟨k, n⟩ := s
    simp only [own, decide_eq_false_iff_not, Segment.mk.injEq]
    rcases h with h | h
    · exact fun e => by have := h.1; dsimp only at this; omega
    · exact fun e => h.2.1 e.2
  rw [List.dropWhile_cons_of_neg (by rw [hown]; simp), List.dropWhile_nil]
  have hag : routeG t x p [] (routeG t x p [] ([], [], 0)) = routeG t x p [] ([], [], 0) := by
    unfold routeG fwd
    simp
  show routeG t x p (s :: l) (routeG t x p [] ([], [], 0)) = routeG t x p [] (routeG t x p [] ([], [], 0))
  rw [hag]
  generalize routeG t x p [] ([], [], 0) = w
  unfold routeG fwd
  have hs : (s :: l).getD 0 default = s := rfl
  rw [hs, if_neg (by simp), if_neg (by omega), if_pos (by simp)]
  have hdown : x.down.contains s.num = true → t.tail s.num = x.node := by
    intro hc
    simp only [Table.valid, Bool.and_eq_true] at hv
    simpa using goes_tail hv.1.2 s.num (List.contains_iff_mem.1 hc)
  rcases h with ⟨k1, k2⟩ | ⟨k1, k2, k3⟩
  · rw [if_pos k1, if_neg (by rw [hdown k2]; simp), if_pos k2]
  · rw [if_neg (by omega), if_pos k1, if_pos k3, if_pos (by simp)]
theorem forwardBypass_c (c : Case) (hc : c.Ok) : PureCall Try.prog F.law23_ForwardBypass [.agg c.enc] (.bool true) := by
  obtain ⟨t, x, ⟨p1, p2, p3, p4, ps, p6⟩⟩ := c
  show PureCall Try.prog F.law23_ForwardBypass [.agg (t.enc ++ x.enc ++ [ai p1, ai p2, ai p3, ai p4, asl (ps.map Segment.enc), ai p6])] _
  refine contractS fits K.law23_ForwardBypass ?_
  have hlg : PureCall Try.prog F.law23_large [.agg (t.enc ++ x.enc ++ [ai p1, ai p2, ai p3, ai p4, asl (ps.map Segment.enc), ai p6])] (.bool (large23 ⟨t, x, ⟨p1, p2, p3, p4, ps, p6⟩⟩)) := large23_c ⟨t, x, ⟨p1, p2, p3, p4, ps, p6⟩⟩ (Nat.lt_of_le_of_lt hc.to (by decide))
  have hfit := fun (h : large23 ⟨t, x, ⟨p1, p2, p3, p4, ps, p6⟩⟩ = false) => large23_no hc h
  dsimp only at hfit
  have hlm : (ps.map Segment.enc).length = ps.length := List.length_map ..
  cases ps with
  | nil =>
    repeat' (first
      | contradiction
      | ((with_reducible refine step ?_); conv => whnf) | ((with_reducible refine br_dec (fun h => ?_) (fun h => ?_)) <;> try (exfalso; omega)) | ((with_reducible refine br_ndec (fun h => ?_) (fun h => ?_)) <;> try (exfalso; omega)) | (with_reducible refine br_not (fun h => ?_) (fun h => ?_)) | (with_reducible refine And.intro (fun h => ?_) (fun h => ?_))
      | (refine call_pure awake23_c rfl rfl ?_; conv => whnf)
      | (refine call_pure hlg rfl rfl ?_; conv => whnf)
      | (have hF := hfit (by assumption); refine call_pure (tableValid22_c t x hF.1) rfl rfl ?_; conv => whnf)
      | fail)
    all_goals first | rfl | (exfalso; exact absurd rfl (by assumption))
  | cons s l =>
    repeat' (first
      | contradiction
      | ((with_reducible refine step ?_); conv => whnf) | ((with_reducible refine br_dec (fun h => ?_) (fun h => ?_)) <;> try (exfalso; omega)) | ((with_reducible refine br_ndec (fun h => ?_) (fun h => ?_)) <;> try (exfalso; omega)) | (with_reducible refine br_not (fun h => ?_) (fun h => ?_)) | (with_reducible refine And.intro (fun h => ?_) (fun h => ?_))
      | (refine call_pure awake23_c rfl rfl ?_; conv => whnf)
      | (refine call_pure hlg rfl rfl ?_; conv => whnf)
      | (have hF := hfit (by assumption); refine call_pure (tableValid22_c t x hF.1) rfl rfl ?_; conv => whnf)
      | (refine And.intro trivial (And.intro (by decide) (Exists.intro _ (And.intro rfl (And.intro rfl ?_)))); conv => whnf)
      | (refine call_pure (has9_c x.down _ (by omega)) rfl rfl ?_; conv => whnf)
      | (have hto := (valid_to (t := t) (x := x) (by assumption)).1; have hdl : s.num.toNat < x.to.length := (by omega); refine idx_int (i := s.num) (j := s.num.toNat) (by omega) hdl rfl ?_; conv => whnf)
      | fail)
    all_goals
      have hv : x.valid t = true := by assumption
      have hwhy : (s.kind = 2 ∧ x.down.contains s.num = true) ∨ (s.kind = 1 ∧ s.num ≠ x.node ∧ (s.num < 0 ∨ t.nodes ≤ s.num ∨ (x.to.getD s.num.toNat default).arcs.length = 0)) := by
        first
        | exact .inl ⟨by assumption, by assumption⟩
        | exact .inr ⟨by assumption, by assumption, .inl (by assumption)⟩
        | exact .inr ⟨by assumption, by assumption, .inr (.inl (by assumption))⟩
        | exact .inr ⟨by assumption, by assumption, .inr (.inr (by rw [getD_at hdl]; simp only [List.length_map] at *; omega))⟩
      have hl32 : (s :: l).length ≤ 32 := by simp only [List.length_map, List.length_cons] at *; omega
      have h1 := fstep_c t x ⟨p1, p2, p3, p4, s :: l, p6⟩ hF.1
      have h2 := fstep_c t x ⟨p1, p2, p3, p4, [], p6⟩ hF.1
      have ho1 := stepR_ok (t := t) (x := x) (p := ⟨p1, p2, p3, p4, s :: l, p6⟩) hF.1
      have hA := fun (hh : 0 ≤ p6 ∧ p6 < 255) => stepR_alike (t := t) (x := x) (p := ⟨p1, p2, p3, p4, [], p6⟩) (l := s :: l) (l' := []) hF.1 hl32 (by simp) (fun _ _ _ => route_bypass (p := ⟨p1, p2, p3, p4, [], p6⟩) hv hh.1 hh.2 hwhy)
      dsimp only at hA
      generalize stepR t x ⟨p1, p2, p3, p4, [], p6⟩ = s' at h2 hA
      generalize stepR t x ⟨p1, p2, p3, p4, s :: l, p6⟩ = r at h1 hA ho1
      obtain ⟨r1, ⟨q1, q2, q3, q4, q5, q6⟩, r3⟩ := r
      obtain ⟨s1, ⟨u1, u2, u3, u4, u5, u6⟩, s3⟩ := s'
      have l1 := ho1.len
      have l2 := ho1.stack
      have hA' := fun hh => (hA hh).arcs
      have hB' := fun hh => (hA hh).reason
      have hC' := fun hh => (hA hh).packet
      dsimp only at hA' hB' hC' l1 l2
      have h1 : PureCall Try.prog F.forward_Step [.agg t.enc, .agg x.enc, .agg (Packet.enc ⟨p1, p2, p3, p4, s :: l, p6⟩)] (.tuple [asl (r1.map eInt), .agg [ai q1, ai q2, ai q3, ai q4, asl (q5.map Segment.enc), ai q6], ai r3]) := h1
      have h2 : PureCall Try.prog F.forward_Step [.agg t.enc, .agg x.enc, .agg (Packet.enc ⟨p1, p2, p3, p4, [], p6⟩)] (.tuple [asl (s1.map eInt), .agg [ai u1, ai u2, ai u3, ai u4, asl (u5.map Segment.enc), ai u6], ai s3]) := h2
      have h3 := sameInts_c r1 s1 (by omega)
      have h4 := samePacket_c ⟨q1, q2, q3, q4, q5, q6⟩ ⟨u1, u2, u3, u4, u5, u6⟩ (by show q5.length < _; omega)
      clear hA hwhy hlg hfit ho1
      repeat' (first
        | contradiction
        | (refine call_pure h1 rfl rfl ?_; conv => whnf)
        | (refine call_pure h2 rfl rfl ?_; conv => whnf)
        | (refine call_pure h3 rfl rfl ?_; conv => whnf)
        | (refine call_pure h4 rfl rfl ?_; conv => whnf)
        | ((with_reducible refine step ?_); conv => whnf) | ((with_reducible refine br_dec (fun h => ?_) (fun h => ?_)) <;> try (exfalso; omega)) | ((with_reducible refine br_ndec (fun h => ?_) (fun h => ?_)) <;> try (exfalso; omega)) | (with_reducible refine br_not (fun h => ?_) (fun h => ?_)) | (with_reducible refine And.intro (fun h => ?_) (fun h => ?_))
        | fail)
      all_goals first
        | rfl
        | (refine congrArg AV.bool (decide_eq_true (Decidable.byContradiction fun hn => ?_))
           have hh : 0 ≤ p6 ∧ p6 < 255 := ⟨by omega, by omega⟩
           first
           | exact absurd (hB' hh) (by assumption)
           | exact absurd (hA' hh) (by assumption)
           | exact absurd ((hC' hh).resolve_left (by assumption)) (by assumption))
end Go.Proofs.Ytmapiefbnjaikaa.Vm
