/- The statements of the set 10. -/
import Derived.Test.YtnlelalkkabihaaDoorP04
set_option linter.all false
namespace Go.Proofs.YtnlelalkkabihaaDoor.Vm
open Go
set_option maxRecDepth 100000
set_option maxHeartbeats 4000000

theorem arcsB_len (t : Topology) (c : Comp) : (arcsB t c).1.length ≤ 2 * t.links.length := by
  unfold arcsB; split
  · exact sel_len ..
  · exact Nat.zero_le _
theorem unionB_len (t : Topology) (cs : List Comp) : (unionB t cs).1.length ≤ 2 * t.links.length := by
  unfold unionB; split
  · simp [maskF]
  · exact Nat.zero_le _
theorem not_large {t : Topology} (h : (decide (200 < t.overload.length) || decide (300 < t.links.length)) = false) : t.links.length ≤ 300 := by
  simp at h; omega

theorem sMask_c (t : Topology) (c : Comp) : PureCall Tryd.prog F.law10_ComponentMask [.agg t.enc, .agg c.enc] (.bool true) := by
  refine contractS fits K.law10_ComponentMask ?_
  have ha := arcsB_len t c
  have hu := unionB_len t [c]
  repeat' (first
      | contradiction
      | ((with_reducible refine step ?_); conv => whnf) | ((with_reducible refine br_dec (fun h => ?_) (fun h => ?_)) <;> try (exfalso; omega)) | ((with_reducible refine br_ndec (fun h => ?_) (fun h => ?_)) <;> try (exfalso; omega)) | (with_reducible refine br_not (fun h => ?_) (fun h => ?_)) | (with_reducible refine And.intro (fun h => ?_) (fun h => ?_))
      | (refine call_pure awake10_c rfl rfl ?_; conv => whnf)
      | (refine call_pure (large10_c t) rfl rfl ?_; conv => whnf)
      | (have hl := not_large ‹_›; refine call_pure (arcsC_c t c) rfl rfl ?_; conv => whnf)
      | (refine call_pure (arcs10C_c t c) rfl rfl ?_; conv => whnf)
      | (refine call_pure (mask_c t c) rfl rfl ?_; conv => whnf)
      | (refine call_pure (mask10_c t c) rfl rfl ?_; conv => whnf)
      | (refine call_pure (compValid_c t c) rfl rfl ?_; conv => whnf)
      | (refine call_pure (comp10Valid_c t c) rfl rfl ?_; conv => whnf)
      | (refine call_pure (sameInts_c (arcsB t c).1 (arcsB t c).1 (by omega)) rfl rfl ?_; conv => whnf)
      | (refine call_pure (sameBools_c (unionB t [c]).1 (unionB t [c]).1 (by omega)) rfl rfl ?_; conv => whnf)
      | fail)
  all_goals first | rfl | (exfalso; simp_all; done) | (refine congrArg AV.bool ?_; simp_all; done)
theorem sUnion_c (t : Topology) (cs : List Comp) (hc : cs.length < 4611686018427387904) : PureCall Tryd.prog F.law10_ComponentUnion [.agg t.enc, asl (cs.map Comp.enc)] (.bool true) := by
  refine contractS fits K.law10_ComponentUnion ?_
  have hu := unionB_len t cs
  have hcm : (cs.map Comp.enc).length = cs.length := List.length_map ..
  repeat' (first
      | contradiction
      | ((with_reducible refine step ?_); conv => whnf) | ((with_reducible refine br_dec (fun h => ?_) (fun h => ?_)) <;> try (exfalso; omega)) | ((with_reducible refine br_ndec (fun h => ?_) (fun h => ?_)) <;> try (exfalso; omega)) | (with_reducible refine br_not (fun h => ?_) (fun h => ?_)) | (with_reducible refine And.intro (fun h => ?_) (fun h => ?_))
      | (refine call_pure awake10_c rfl rfl ?_; conv => whnf)
      | (refine call_pure (large10_c t) rfl rfl ?_; conv => whnf)
      | (have hl := not_large ‹_›; refine call_pure (union_c t cs hc) rfl rfl ?_; conv => whnf)
      | (refine call_pure (union10_c t cs hc) rfl rfl ?_; conv => whnf)
      | (refine call_pure (sameBools_c (unionB t cs).1 (unionB t cs).1 (by omega)) rfl rfl ?_; conv => whnf)
      | fail)
  all_goals first | rfl | (exfalso; simp_all; done) | (refine congrArg AV.bool ?_; simp_all; done)
theorem sWithin_c (t : Topology) (c d : Comp) : PureCall Tryd.prog F.law10_ComponentWithin [.agg t.enc, .agg c.enc, .agg d.enc] (.bool true) := by
  refine contractS fits K.law10_ComponentWithin ?_
  repeat' (first
      | contradiction
      | ((with_reducible refine step ?_); conv => whnf) | ((with_reducible refine br_dec (fun h => ?_) (fun h => ?_)) <;> try (exfalso; omega)) | ((with_reducible refine br_ndec (fun h => ?_) (fun h => ?_)) <;> try (exfalso; omega)) | (with_reducible refine br_not (fun h => ?_) (fun h => ?_)) | (with_reducible refine And.intro (fun h => ?_) (fun h => ?_))
      | (refine call_pure awake10_c rfl rfl ?_; conv => whnf)
      | (refine call_pure (large10_c t) rfl rfl ?_; conv => whnf)
      | (refine call_pure (within_c10 t c d) rfl rfl ?_; conv => whnf)
      | (refine call_pure (within10_c t c d) rfl rfl ?_; conv => whnf)
      | fail)
  all_goals first | rfl | (exfalso; simp_all; done) | (refine congrArg AV.bool ?_; simp_all; done)
theorem comps_valid {t : Topology} (hv : t.valid = true) {c : Comp} (hc : c ∈ compsB t) : c.valid t = true := by
  have hnn := valid_nodes hv
  rw [compsB, if_pos hv] at hc
  simp only [List.mem_append, nums, grps, List.mem_map, List.mem_range, List.mem_filter] at hc
  rcases hc with (⟨a, ha, rfl⟩ | ⟨a, ha, rfl⟩) | ⟨a, ha, rfl⟩
  · simp [Comp.valid, hv]; omega
  · simp [Comp.valid, hv]; omega
  · simp [Comp.valid, hv]; omega
theorem comps_valid' {t : Topology} {c : Comp} (hc : c ∈ compsB t) : c.valid t = true := by
  by_cases hv : t.valid = true
  · exact comps_valid hv hc
  · rw [compsB, if_neg hv] at hc; simp at hc
theorem sAll_c (t : Topology) : PureCall Tryd.prog F.law10_ComponentAll [.agg t.enc] (.bool true) := by
  refine contractS fits K.law10_ComponentAll ?_
  repeat' (first
      | contradiction
      | ((with_reducible refine step ?_); conv => whnf) | ((with_reducible refine br_dec (fun h => ?_) (fun h => ?_)) <;> try (exfalso; omega)) | ((with_reducible refine br_ndec (fun h => ?_) (fun h => ?_)) <;> try (exfalso; omega)) | (with_reducible refine br_not (fun h => ?_) (fun h => ?_)) | (with_reducible refine And.intro (fun h => ?_) (fun h => ?_))
      | (refine call_pure awake10_c rfl rfl ?_; conv => whnf)
      | (refine call_pure (large10_c t) rfl rfl ?_; conv => whnf)
      | (refine call_pure (all_c t) rfl rfl ?_; conv => whnf)
      | (refine call_pure (all10_c t) rfl rfl ?_; conv => whnf)
      | fail)
  · have hl := not_large ‹_›
    have hlen : (compsB t).length ≤ 428 := by
      unfold compsB; split
      · have := valid_links ‹_›; have := valid_nodes ‹_›; have := grps_len t 64
        simp only [List.length_append, nums_len]; omega
      · simp
    have hcm : ((compsB t).map Comp.enc).length = (compsB t).length := List.length_map ..
    refine loop_invS (fun i => i ≤ (compsB t).length) [1, 3, 4, 20, 21] 1 (fun i => [(21, ai i)]) (fun _ => []) (fun i => (compsB t).length - i) 0 (by decide) (by decide) ?_
    conv => whnf
    refine ⟨rfl, rfl, by omega, fun i hi => ?_⟩
    repeat' (first
      | contradiction
      | ((with_reducible refine step ?_); conv => whnf) | ((with_reducible refine br_dec (fun h => ?_) (fun h => ?_)) <;> try (exfalso; omega)) | ((with_reducible refine br_ndec (fun h => ?_) (fun h => ?_)) <;> try (exfalso; omega)) | (with_reducible refine br_not (fun h => ?_) (fun h => ?_)) | (with_reducible refine And.intro (fun h => ?_) (fun h => ?_))
      | (have hlt : i < (compsB t).length := (by omega); refine idx_nat hlt rfl ?_; conv => whnf)
      | (refine call_pure (compValid_c t _) rfl rfl ?_; conv => whnf)
      | fail)
    · exfalso; revert h; simp
    · exfalso; rw [comps_valid' (List.getElem_mem hlt)] at h; exact nomatch h
    · exact ⟨i + 1, by omega, by omega, by rw [wrap_succ (by omega)]; rfl, rfl⟩

theorem within_iff {t : Topology} {c d : Comp} : withinB t c d = true ↔ c.valid t = true ∧ d.valid t = true ∧ ∀ i (hi : i < t.links.length), c.has i t.links[i] = true → d.has i t.links[i] = true := by
  rw [withinB, Bool.and_eq_true, Bool.and_eq_true, List.all_eq_true]
  constructor
  · rintro ⟨⟨h1, h2⟩, h⟩
    refine ⟨h1, h2, fun i hi hc => ?_⟩
    have := h i (List.mem_range.2 hi)
    rw [getD_at hi, hc] at this
    simpa using this
  · rintro ⟨h1, h2, h⟩
    refine ⟨⟨h1, h2⟩, fun i hi => ?_⟩
    have hi := List.mem_range.1 hi
    rw [getD_at hi]
    cases hc : c.has i t.links[i] with
    | false => rfl
    | true => rw [h i hi hc]; rfl
theorem within_trans {t : Topology} {a b c : Comp} (h1 : withinB t a b = true) (h2 : withinB t b c = true) : withinB t a c = true := by
  rw [within_iff] at *
  exact ⟨h1.1, h2.2.1, fun i hi h => h2.2.2 i hi (h1.2.2 i hi h)⟩
theorem within_refl (t : Topology) (a : Comp) : withinB t a a = a.valid t := by
  rw [Bool.eq_iff_iff, within_iff]
  exact ⟨fun h => h.1, fun h => ⟨h, h, fun _ _ q => q⟩⟩
theorem within_link {t : Topology} (hv : t.valid = true) {i : Nat} (hi : i < t.links.length) : withinB t ⟨1, i⟩ ⟨2, t.links[i].a⟩ = true ∧ withinB t ⟨1, i⟩ ⟨2, t.links[i].b⟩ = true ∧ (t.links[i].group ≠ 0 → withinB t ⟨1, i⟩ ⟨3, t.links[i].group⟩ = true) := by
  have hnn := valid_nodes hv
  have hp : t.links[i].proper t.nodes = true := by
    have hv' := hv
    simp only [Topology.valid, Bool.and_eq_true, List.all_eq_true] at hv'
    exact hv'.2 _ (List.getElem_mem hi)
  simp only [Link.proper, Bool.and_eq_true, decide_eq_true_eq] at hp
  rw [wrap_in (by omega)] at hp
  have h1 : Comp.valid t ⟨1, (i : Int)⟩ = true := by simp [Comp.valid, hv]; omega
  refine ⟨within_iff.2 ⟨h1, ?_, fun k hk h => ?_⟩, within_iff.2 ⟨h1, ?_, fun k hk h => ?_⟩, fun hg => within_iff.2 ⟨h1, ?_, fun k hk h => ?_⟩⟩
  · simp [Comp.valid, hv]; omega
  · have : k = i := by have h : (k : Int) = i := (by simpa [Comp.has] using h); omega
    subst this; simp [Comp.has]
  · simp [Comp.valid, hv]; omega
  · have : k = i := by have h : (k : Int) = i := (by simpa [Comp.has] using h); omega
    subst this; simp [Comp.has]
  · simp [Comp.valid, hv]; omega
  · have : k = i := by have h : (k : Int) = i := (by simpa [Comp.has] using h); omega
    subst this; simp [Comp.has]

end Go.Proofs.YtnlelalkkabihaaDoor.Vm
/- Contracts: topology. -/
set_option linter.all false
namespace Go.Proofs.YtnlelalkkabihaaDoor.Vm
open Go
set_option maxRecDepth 100000
set_option maxHeartbeats 4000000

theorem large9_c (t : Topology) : PureCall Tryd.prog F.law09_large [.agg t.enc] (.bool (decide (200 < t.overload.length) || decide (300 < t.links.length))) := by
  refine contractS fits K.law09_large ?_
  have hlm : (t.links.map Link.enc).length = t.links.length := List.length_map ..
  have hom : (t.overload.map eBool).length = t.overload.length := List.length_map ..
  repeat' (first
      | ((with_reducible refine step ?_); conv => whnf) | ((with_reducible refine br_dec (fun h => ?_) (fun h => ?_)) <;> try (exfalso; omega)) | ((with_reducible refine br_ndec (fun h => ?_) (fun h => ?_)) <;> try (exfalso; omega)) | (with_reducible refine br_not (fun h => ?_) (fun h => ?_)) | (with_reducible refine And.intro (fun h => ?_) (fun h => ?_))
      | fail)
  all_goals refine congrArg AV.bool ?_
  all_goals grind
theorem overloaded_c (t : Topology) (n : Int) : PureCall Tryd.prog F.topology_Overloaded [.agg t.enc, ai n] (.bool (t.ovl n)) := by
  refine contractS fits K.topology_Overloaded ?_
  have hom : (t.overload.map eBool).length = t.overload.length := List.length_map ..
  repeat' (first
      | ((with_reducible refine step ?_); conv => whnf) | ((with_reducible refine br_dec (fun h => ?_) (fun h => ?_)) <;> try (exfalso; omega)) | ((with_reducible refine br_ndec (fun h => ?_) (fun h => ?_)) <;> try (exfalso; omega)) | (with_reducible refine br_not (fun h => ?_) (fun h => ?_)) | (with_reducible refine And.intro (fun h => ?_) (fun h => ?_))
      | (have hq : n.toNat < t.overload.length := (by omega); refine idx_int (j := n.toNat) (by omega) hq rfl ?_; conv => whnf)
      | (refine call_pure (valid_c t) rfl rfl ?_; conv => whnf)
      | fail)
  all_goals refine congrArg AV.bool ?_
  all_goals unfold Topology.ovl
  all_goals try rw [getD_at hq]
  all_goals grind
theorem cost_c (t : Topology) (a : Int) : PureCall Tryd.prog F.topology_Cost [.agg t.enc, ai a] (ai (t.cost a)) := by
  refine contractS fits K.topology_Cost ?_
  repeat' (first
      | ((with_reducible refine step ?_); conv => whnf) | ((with_reducible refine br_dec (fun h => ?_) (fun h => ?_)) <;> try (exfalso; omega)) | ((with_reducible refine br_ndec (fun h => ?_) (fun h => ?_)) <;> try (exfalso; omega)) | (with_reducible refine br_not (fun h => ?_) (fun h => ?_)) | (with_reducible refine And.intro (fun h => ?_) (fun h => ?_))
      | (refine call_pure (ends_c t a) rfl rfl ?_; conv => whnf)
      | fail)
  all_goals rfl
theorem in_c (t : Topology) (n : Int) (hl : t.links.length < 1099511627776) : PureCall Tryd.prog F.topology_In [.agg t.enc, ai n] (asl ((t.arcs1 n false).map eInt)) := by
  refine contractS fits K.topology_In ?_
  repeat' (first
      | ((with_reducible refine step ?_); conv => whnf) | ((with_reducible refine br_dec (fun h => ?_) (fun h => ?_)) <;> try (exfalso; omega)) | ((with_reducible refine br_ndec (fun h => ?_) (fun h => ?_)) <;> try (exfalso; omega)) | (with_reducible refine br_not (fun h => ?_) (fun h => ?_)) | (with_reducible refine And.intro (fun h => ?_) (fun h => ?_))
      | (refine call_pure (arcs1_c t n false hl) rfl rfl ?_; conv => whnf)
      | fail)
  all_goals rfl

def pathL (t : Topology) : Nat → Int → Int → List Int → Int × Int × Int
  | _, n, c, [] => (n, c, 0)
  | i, n, c, a :: l => if t.tail a < 0 then (0, 0, 2) else if t.tail a ≠ n ∨ (0 < i ∧ t.ovl n = true) then (0, 0, 4) else pathL t (i + 1) (t.head a) (IntKind.i64.wrap (c + t.cost a)) l
def pathR (t : Topology) (n : Int) (l : List Int) : Int × Int × Int := if t.valid = false then (0, 0, 1) else if n < 0 ∨ t.nodes ≤ n then (0, 0, 2) else pathL t 0 n 0 l
def pathS (t : Topology) (n : Int) (l : List Int) (i : Nat) : Int × Int := (l.take i).foldl (fun s a => (t.head a, IntKind.i64.wrap (s.2 + t.cost a))) (n, 0)
theorem pathS_succ {t : Topology} {n : Int} {l : List Int} {i : Nat} (h : i < l.length) : pathS t n l (i + 1) = (t.head l[i], IntKind.i64.wrap ((pathS t n l i).2 + t.cost l[i])) := by
  rw [pathS, List.take_succ_eq_append_getElem h, List.foldl_append]; rfl
def ePath (r : Int × Int × Int) : AV := .tuple [ai r.1, ai r.2.1, ai r.2.2]
def pathI (t : Topology) (n : Int) (l : List Int) (i : Nat) : Prop := pathL t 0 n 0 l = pathL t i (pathS t n l i).1 (pathS t n l i).2 (l.drop i)
theorem pathI_next {t : Topology} {n : Int} {l : List Int} {i : Nat} (h : i < l.length) (hp : pathI t n l i) (h1 : ¬ t.tail l[i] < 0) (h2 : t.tail l[i] = (pathS t n l i).1) (h3 : 0 < i → t.ovl (pathS t n l i).1 = false) : pathI t n l (i + 1) := by
  unfold pathI at hp ⊢
  rw [hp, List.drop_eq_getElem_cons h, pathL, if_neg h1, if_neg (fun hq => by
    rcases hq with hq | ⟨q1, q2⟩
    · exact hq h2
    · rw [h3 q1] at q2; exact nomatch q2), pathS_succ h]
theorem pathI_two {t : Topology} {n : Int} {l : List Int} {i : Nat} (h : i < l.length) (hp : pathI t n l i) (h1 : t.tail l[i] < 0) : pathL t 0 n 0 l = (0, 0, 2) := by
  unfold pathI at hp
  rw [hp, List.drop_eq_getElem_cons h, pathL, if_pos h1]
theorem pathI_four {t : Topology} {n : Int} {l : List Int} {i : Nat} (h : i < l.length) (hp : pathI t n l i) (h1 : ¬ t.tail l[i] < 0) (h2 : t.tail l[i] ≠ (pathS t n l i).1 ∨ (0 < i ∧ t.ovl (pathS t n l i).1 = true)) : pathL t 0 n 0 l = (0, 0, 4) := by
  unfold pathI at hp
  rw [hp, List.drop_eq_getElem_cons h, pathL, if_neg h1, if_pos h2]
theorem pathI_end {t : Topology} {n : Int} {l : List Int} {i : Nat} (h : l.length ≤ i) (hp : pathI t n l i) : pathL t 0 n 0 l = ((pathS t n l i).1, (pathS t n l i).2, 0) := by
  unfold pathI at hp
  rw [hp, List.drop_of_length_le h, pathL]
theorem tail_neg {t : Topology} (hv : t.valid = true) {a : Int} : t.tail a < 0 ↔ a < 0 ∨ t.arcs ≤ a := by
  constructor
  · intro h
    by_cases h1 : a < 0
    · exact .inl h1
    · by_cases h2 : t.arcs ≤ a
      · exact .inr h2
      · have := ends_range (t := t) (a := a) (by omega) (by omega); omega
  · intro h
    rw [Topology.tail, if_pos h]; decide

theorem path_c (t : Topology) (n : Int) (l : List Int) (ha : l.length < 4611686018427387904) : PureCall Tryd.prog F.topology_Path [.agg t.enc, ai n, asl (l.map eInt)] (ePath (pathR t n l)) := by
  refine contractS fits K.topology_Path ?_
  have ham : (l.map eInt).length = l.length := List.length_map ..
  repeat' (first
      | ((with_reducible refine step ?_); conv => whnf) | ((with_reducible refine br_dec (fun h => ?_) (fun h => ?_)) <;> try (exfalso; omega)) | ((with_reducible refine br_ndec (fun h => ?_) (fun h => ?_)) <;> try (exfalso; omega)) | (with_reducible refine br_not (fun h => ?_) (fun h => ?_)) | (with_reducible refine And.intro (fun h => ?_) (fun h => ?_))
      | (refine call_pure (valid_c t) rfl rfl ?_; conv => whnf)
      | (refine call_pure (inside_c _ _ _) rfl rfl ?_; conv => whnf)
      | fail)
  · rw [pathR, if_pos (by assumption)]; rfl
  · have hv : t.valid = true := by assumption
    have hnn := valid_nodes hv
    rw [wrap_in (by omega)] at h
    rw [pathR, if_neg (by simp [hv]), if_pos (by simp at h; omega)]; rfl
  have hv : t.valid = true := by assumption
  have hnn := valid_nodes hv
  rw [wrap_in (by omega)] at h
  rw [pathR, if_neg (by simp [hv]), if_neg (by simp at h; omega)]
  clear h
  refine loop_invS (fun i => i ≤ l.length ∧ pathI t n l i) [3, 6, 7, 26, 27, 28] 1 (fun i => [(6, ai (pathS t n l i).1), (7, ai (pathS t n l i).2), (28, ai i)]) (fun _ => []) (fun i => l.length - i) 0 (by decide) (by decide) ?_
  conv => whnf
  refine ⟨rfl, rfl, ⟨by omega, rfl⟩, fun i ⟨hi, hp⟩ => ?_⟩
  repeat' (first
      | ((with_reducible refine step ?_); conv => whnf) | ((with_reducible refine br_dec (fun h => ?_) (fun h => ?_)) <;> try (exfalso; omega)) | ((with_reducible refine br_ndec (fun h => ?_) (fun h => ?_)) <;> try (exfalso; omega)) | (with_reducible refine br_not (fun h => ?_) (fun h => ?_)) | (with_reducible refine And.intro (fun h => ?_) (fun h => ?_))
      | (have hlt : i < l.length := (by omega); refine idx_nat hlt rfl ?_; conv => whnf)
      | (refine call_pure (ends_c t _) rfl rfl ?_; conv => whnf)
      | (refine call_pure (overloaded_c t _) rfl rfl ?_; conv => whnf)
      | fail)
  · rw [pathI_two hlt hp h]; rfl
  · rw [pathI_four hlt hp (by assumption) (.inl h)]; rfl
  · rw [pathI_four hlt hp (by assumption) (.inr ⟨by omega, h⟩)]; rfl
  · exact ⟨i + 1, ⟨by omega, pathI_next hlt hp (by assumption) (by assumption) fun _ => h⟩, by omega, by rw [pathS_succ hlt, wrap_succ (by omega)]; rfl, rfl⟩
  · exact ⟨i + 1, ⟨by omega, pathI_next hlt hp (by assumption) (by assumption) fun h0 => absurd h0 (by omega)⟩, by omega, by rw [pathS_succ hlt, wrap_succ (by omega)]; rfl, rfl⟩
  · rw [pathI_end (by omega) hp]; rfl
theorem path9_c (t : Topology) (n : Int) (l : List Int) (ha : l.length < 4611686018427387904) : PureCall Tryd.prog F.ref09_Path [.agg t.enc, ai n, asl (l.map eInt)] (ePath (pathR t n l)) := by
  refine contractS fits K.ref09_Path ?_
  have ham : (l.map eInt).length = l.length := List.length_map ..
  repeat' (first
      | ((with_reducible refine step ?_); conv => whnf) | ((with_reducible refine br_dec (fun h => ?_) (fun h => ?_)) <;> try (exfalso; omega)) | ((with_reducible refine br_ndec (fun h => ?_) (fun h => ?_)) <;> try (exfalso; omega)) | (with_reducible refine br_not (fun h => ?_) (fun h => ?_)) | (with_reducible refine And.intro (fun h => ?_) (fun h => ?_))
      | (refine call_pure (valid9_c t) rfl rfl ?_; conv => whnf)
      | fail)
  · rw [pathR, if_pos (by assumption)]; rfl
  · rw [pathR, if_neg (by simp [*]), if_pos (by omega)]; rfl
  · rw [pathR, if_neg (by simp [*]), if_pos (by omega)]; rfl
  have hv : t.valid = true := by assumption
  have hnn := valid_nodes hv
  rw [pathR, if_neg (by simp [hv]), if_neg (by omega)]
  clear h
  refine loop_invS (fun i => i ≤ l.length ∧ pathI t n l i) [1, 2, 3, 9, 10] 1 (fun i => [(1, ai (pathS t n l i).1), (9, ai (pathS t n l i).2), (10, ai i)]) (fun _ => []) (fun i => l.length - i) 0 (by decide) (by decide) ?_
  conv => whnf
  refine ⟨rfl, rfl, ⟨by omega, rfl⟩, fun i ⟨hi, hp⟩ => ?_⟩
  repeat' (first
      | ((with_reducible refine step ?_); conv => whnf) | ((with_reducible refine br_dec (fun h => ?_) (fun h => ?_)) <;> try (exfalso; omega)) | ((with_reducible refine br_ndec (fun h => ?_) (fun h => ?_)) <;> try (exfalso; omega)) | (with_reducible refine br_not (fun h => ?_) (fun h => ?_)) | (with_reducible refine And.intro (fun h => ?_) (fun h => ?_))
      | (have hlt : i < l.length := (by omega); refine idx_nat hlt rfl ?_; conv => whnf)
      | (refine call_pure (arcs9_c t) rfl rfl ?_; conv => whnf)
      | (refine call_pure (tail9_c t _) rfl rfl ?_; conv => whnf)
      | (refine call_pure (head9_c t _) rfl rfl ?_; conv => whnf)
      | (refine call_pure (cost9_c t _) rfl rfl ?_; conv => whnf)
      | (refine call_pure (overloaded9_c t _) rfl rfl ?_; conv => whnf)
      | fail)
  · rw [pathI_two hlt hp ((tail_neg hv).2 (.inl h))]; rfl
  · rw [pathI_two hlt hp ((tail_neg hv).2 (.inr h))]; rfl
  · rw [pathI_four hlt hp (fun q => by rcases (tail_neg hv).1 q with q | q <;> contradiction) (.inl h)]; rfl
  · rw [pathI_four hlt hp (fun q => by rcases (tail_neg hv).1 q with q | q <;> contradiction) (.inr ⟨by omega, h⟩)]; rfl
  · exact ⟨i + 1, ⟨by omega, pathI_next hlt hp (fun q => by rcases (tail_neg hv).1 q with q | q <;> contradiction) (by assumption) fun _ => h⟩, by omega, by rw [pathS_succ hlt, wrap_succ (by omega)]; rfl, rfl⟩
  · exact ⟨i + 1, ⟨by omega, pathI_next hlt hp (fun q => by rcases (tail_neg hv).1 q with q | q <;> contradiction) (by assumption) fun h0 => absurd h0 (by omega)⟩, by omega, by rw [pathS_succ hlt, wrap_succ (by omega)]; rfl, rfl⟩
  · rw [pathI_end (by omega) hp]; rfl

theorem sel_two (f : Nat → Bool) (i : Nat) : sel f (2 * (i + 1)) = sel f (2 * i) ++ ((if f (2 * i) = true then [2 * (i : Int)] else []) ++ (if f (2 * i + 1) = true then [2 * (i : Int) + 1] else [])) := by
  have e1 : sel f (2 * i + 1) = sel f (2 * i) ++ (if f (2 * i) = true then [2 * (i : Int)] else []) := by
    cases h : f (2 * i) with
    | true => rw [sel_yes h, if_pos rfl]; simp
    | false => rw [sel_no h]; simp
  have e2 : sel f (2 * i + 1 + 1) = sel f (2 * i + 1) ++ (if f (2 * i + 1) = true then [2 * (i : Int) + 1] else []) := by
    cases h : f (2 * i + 1) with
    | true => rw [sel_yes h, if_pos rfl]; simp
    | false => rw [sel_no h]; simp
  rw [show 2 * (i + 1) = 2 * i + 1 + 1 by omega, e2, e1, List.append_assoc]
theorem ends_at {t : Topology} (hv : t.valid = true) {i : Nat} (hi : i < t.links.length) : t.tail ((2 * i : Nat) : Int) = t.links[i].a ∧ t.tail ((2 * i + 1 : Nat) : Int) = t.links[i].b ∧ t.head ((2 * i : Nat) : Int) = t.links[i].b ∧ t.head ((2 * i + 1 : Nat) : Int) = t.links[i].a := by
  have ha : t.arcs = 2 * t.links.length := by simp [Topology.arcs, hv]
  have h1 : t.at_ ((2 * i : Nat) : Int) = t.links[i] := by
    unfold Topology.at_; rw [show (((2 * i : Nat) : Int) / 2).toNat = i by omega, getD_at hi]
  have h2 : t.at_ ((2 * i + 1 : Nat) : Int) = t.links[i] := by
    unfold Topology.at_; rw [show (((2 * i + 1 : Nat) : Int) / 2).toNat = i by omega, getD_at hi]
  refine ⟨?_, ?_, ?_, ?_⟩
  · rw [Topology.tail, if_neg (by omega), if_pos (by omega), h1]
  · rw [Topology.tail, if_neg (by omega), if_neg (by omega), h2]
  · rw [Topology.head, if_neg (by omega), if_pos (by omega), h1]
  · rw [Topology.head, if_neg (by omega), if_neg (by omega), h2]
def endOf (t : Topology) (out : Bool) (a : Int) : Int := if out then t.tail a else t.head a
theorem arcs_sel {t : Topology} (hv : t.valid = true) (n : Int) (out : Bool) : ∀ i, i ≤ t.links.length → arcsN n out 0 (t.links.take i) = sel (fun a => decide (endOf t out (a : Nat) = n)) (2 * i) := by
  intro i
  induction i with
  | zero => intro _; rfl
  | succ i ih =>
    intro hi
    have hlt : i < t.links.length := by omega
    rw [List.take_succ_eq_append_getElem hlt, arcsN_snoc, ih (by omega), sel_two, List.length_take, Nat.min_eq_left (by omega), Nat.zero_add]
    congr 1
    obtain ⟨q1, q2, q3, q4⟩ := ends_at hv hlt
    have hne := (valid_ne hv (List.getElem_mem hlt)).1
    cases out
    · simp only [endOf, Bool.false_eq_true, if_false, q3, q4, arcOf, decide_eq_true_eq]
      by_cases h1 : t.links[i].a = n
      · have h2 : ¬ t.links[i].b = n := fun e => hne (h1.trans e.symm)
        simp [h1, h2]
      · by_cases h2 : t.links[i].b = n
        · simp [h1, h2]
        · simp [h1, h2]
    · simp only [endOf, if_true, q1, q2, arcOf, decide_eq_true_eq]
      by_cases h1 : t.links[i].a = n
      · have h2 : ¬ t.links[i].b = n := fun e => hne (h1.trans e.symm)
        simp [h1, h2]
      · by_cases h2 : t.links[i].b = n
        · simp [h1, h2]
        · simp [h1, h2]
theorem arcs1_sel (t : Topology) (n : Int) (out : Bool) : t.arcs1 n out = sel (fun a => decide (endOf t out (a : Nat) = n)) t.arcs.toNat := by
  unfold Topology.arcs1 Topology.arcs
  by_cases hv : t.valid = true
  · rw [if_pos hv, if_pos hv, show (2 * (t.links.length : Int)).toNat = 2 * t.links.length by omega, ← arcs_sel hv n out _ (Nat.le_refl _), List.take_length]
  · rw [if_neg hv, if_neg hv]; rfl
theorem arcs_bound (t : Topology) : 0 ≤ t.arcs ∧ t.arcs ≤ 512 := by
  unfold Topology.arcs
  split
  · have := valid_links ‹_›; omega
  · omega
theorem out9_c (t : Topology) (n : Int) : PureCall Tryd.prog F.ref09_Out [.agg t.enc, ai n] (asl ((t.arcs1 n true).map eInt)) := by
  refine contractS fits K.ref09_Out ?_
  have hab := arcs_bound t
  rw [arcs1_sel]
  repeat' (first
      | ((with_reducible refine step ?_); conv => whnf) | ((with_reducible refine br_dec (fun h => ?_) (fun h => ?_)) <;> try (exfalso; omega)) | ((with_reducible refine br_ndec (fun h => ?_) (fun h => ?_)) <;> try (exfalso; omega)) | (with_reducible refine br_not (fun h => ?_) (fun h => ?_)) | (with_reducible refine And.intro (fun h => ?_) (fun h => ?_))
      | fail)
  refine loop_promoteD (k := 5) (esz := 1) rfl (by decide) ?_
  refine loop_invS (fun i => i ≤ t.arcs.toNat) [1, 2, 5, 6] 2 (fun i => [(6, ai i)]) (fun i => [(1, .arr 0 1 none ((sel (fun a => decide (endOf t true (a : Nat) = n)) i).map eInt) false)]) (fun i => t.arcs.toNat - i) 0 (by decide) (by decide) ?_
  conv => whnf
  refine ⟨rfl, rfl, by omega, fun i hi => ?_⟩
  have hsl := sel_len (fun a => decide (endOf t true (a : Nat) = n)) i
  repeat' (first
      | ((with_reducible refine step ?_); conv => whnf) | ((with_reducible refine br_dec (fun h => ?_) (fun h => ?_)) <;> try (exfalso; omega)) | ((with_reducible refine br_ndec (fun h => ?_) (fun h => ?_)) <;> try (exfalso; omega)) | (with_reducible refine br_not (fun h => ?_) (fun h => ?_)) | (with_reducible refine And.intro (fun h => ?_) (fun h => ?_))
      | (refine call_pure (arcs9_c t) rfl rfl ?_; conv => whnf)
      | (refine call_pure (tail9_c t (i : Int)) rfl rfl ?_; conv => whnf)
      | (refine And.intro ?_ ?_; (focus (simp [elemsOk, AV.oneC, big]; (try omega); done)); conv => whnf)
      | fail)
  · exact ⟨i + 1, by omega, by omega, by rw [wrap_succ (by omega)]; rfl, by rw [sel_yes (by simpa [endOf] using ‹t.tail (i : Int) = n›), List.map_append]; rfl⟩
  · exact ⟨i + 1, by omega, by omega, by rw [wrap_succ (by omega)]; rfl, by rw [sel_no (by simpa [endOf] using ‹¬ t.tail (i : Int) = n›)]; rfl⟩
  · obtain rfl : i = t.arcs.toNat := by omega
    rfl
theorem in9_c (t : Topology) (n : Int) : PureCall Tryd.prog F.ref09_In [.agg t.enc, ai n] (asl ((t.arcs1 n false).map eInt)) := by
  refine contractS fits K.ref09_In ?_
  have hab := arcs_bound t
  rw [arcs1_sel]
  repeat' (first
      | ((with_reducible refine step ?_); conv => whnf) | ((with_reducible refine br_dec (fun h => ?_) (fun h => ?_)) <;> try (exfalso; omega)) | ((with_reducible refine br_ndec (fun h => ?_) (fun h => ?_)) <;> try (exfalso; omega)) | (with_reducible refine br_not (fun h => ?_) (fun h => ?_)) | (with_reducible refine And.intro (fun h => ?_) (fun h => ?_))
      | fail)
  refine loop_promoteD (k := 5) (esz := 1) rfl (by decide) ?_
  refine loop_invS (fun i => i ≤ t.arcs.toNat) [1, 2, 5, 6] 2 (fun i => [(6, ai i)]) (fun i => [(1, .arr 0 1 none ((sel (fun a => decide (endOf t false (a : Nat) = n)) i).map eInt) false)]) (fun i => t.arcs.toNat - i) 0 (by decide) (by decide) ?_
  conv => whnf
  refine ⟨rfl, rfl, by omega, fun i hi => ?_⟩
  have hsl := sel_len (fun a => decide (endOf t false (a : Nat) = n)) i
  repeat' (first
      | ((with_reducible refine step ?_); conv => whnf) | ((with_reducible refine br_dec (fun h => ?_) (fun h => ?_)) <;> try (exfalso; omega)) | ((with_reducible refine br_ndec (fun h => ?_) (fun h => ?_)) <;> try (exfalso; omega)) | (with_reducible refine br_not (fun h => ?_) (fun h => ?_)) | (with_reducible refine And.intro (fun h => ?_) (fun h => ?_))
      | (refine call_pure (arcs9_c t) rfl rfl ?_; conv => whnf)
      | (refine call_pure (head9_c t (i : Int)) rfl rfl ?_; conv => whnf)
      | (refine And.intro ?_ ?_; (focus (simp [elemsOk, AV.oneC, big]; (try omega); done)); conv => whnf)
      | fail)
  · exact ⟨i + 1, by omega, by omega, by rw [wrap_succ (by omega)]; rfl, by rw [sel_yes (by simpa [endOf] using ‹t.head (i : Int) = n›), List.map_append]; rfl⟩
  · exact ⟨i + 1, by omega, by omega, by rw [wrap_succ (by omega)]; rfl, by rw [sel_no (by simpa [endOf] using ‹¬ t.head (i : Int) = n›)]; rfl⟩
  · obtain rfl : i = t.arcs.toNat := by omega
    rfl
end Go.Proofs.YtnlelalkkabihaaDoor.Vm
/- The statements of the set 09, but for its self-check. -/
set_option linter.all false
namespace Go.Proofs.YtnlelalkkabihaaDoor.Vm
open Go
set_option maxRecDepth 100000
set_option maxHeartbeats 4000000
abbrev Awake9 : Prop := PureCall Tryd.prog F.law09_awake [] (.bool true)

theorem sPath_c (hw : Awake9) (t : Topology) (n : Int) (l : List Int) (hl : l.length < 4611686018427387904) : PureCall Tryd.prog F.law09_TopologyPath [.agg t.enc, ai n, asl (l.map eInt)] (.bool true) := by
  refine contractS fits K.law09_TopologyPath ?_
  have hp1 := path_c t n l hl
  have hp2 := path9_c t n l hl
  generalize pathR t n l = r at hp1 hp2
  repeat' (first
      | contradiction
      | ((with_reducible refine step ?_); conv => whnf) | ((with_reducible refine br_dec (fun h => ?_) (fun h => ?_)) <;> try (exfalso; omega)) | ((with_reducible refine br_ndec (fun h => ?_) (fun h => ?_)) <;> try (exfalso; omega)) | (with_reducible refine br_not (fun h => ?_) (fun h => ?_)) | (with_reducible refine And.intro (fun h => ?_) (fun h => ?_))
      | (refine call_pure hw rfl rfl ?_; conv => whnf)
      | (refine call_pure (large9_c t) rfl rfl ?_; conv => whnf)
      | (refine call_pure hp1 rfl rfl ?_; conv => whnf)
      | (refine call_pure hp2 rfl rfl ?_; conv => whnf)
      | fail)
  all_goals first | rfl | (exfalso; simp_all; done) | (refine congrArg AV.bool ?_; simp_all; done)
theorem arcs1_le (t : Topology) (n : Int) (out : Bool) : (t.arcs1 n out).length < 4611686018427387904 := by
  have := arcs_bound t
  rw [arcs1_sel]
  have := sel_len (fun a => decide (endOf t out (a : Nat) = n)) t.arcs.toNat
  omega
theorem sArcs_c (hw : Awake9) (t : Topology) (n : Int) (hl : t.links.length < 1099511627776) : PureCall Tryd.prog F.law09_TopologyArcs [.agg t.enc, ai n] (.bool true) := by
  refine contractS fits K.law09_TopologyArcs ?_
  have ho := sameInts_c (t.arcs1 n true) (t.arcs1 n true) (arcs1_le ..)
  have hi := sameInts_c (t.arcs1 n false) (t.arcs1 n false) (arcs1_le ..)
  rw [decide_eq_true rfl] at ho hi
  repeat' (first
      | contradiction
      | ((with_reducible refine step ?_); conv => whnf) | ((with_reducible refine br_dec (fun h => ?_) (fun h => ?_)) <;> try (exfalso; omega)) | ((with_reducible refine br_ndec (fun h => ?_) (fun h => ?_)) <;> try (exfalso; omega)) | (with_reducible refine br_not (fun h => ?_) (fun h => ?_)) | (with_reducible refine And.intro (fun h => ?_) (fun h => ?_))
      | (refine call_pure hw rfl rfl ?_; conv => whnf)
      | (refine call_pure (large9_c t) rfl rfl ?_; conv => whnf)
      | (refine call_pure (overloaded_c t n) rfl rfl ?_; conv => whnf)
      | (refine call_pure (overloaded9_c t n) rfl rfl ?_; conv => whnf)
      | (refine call_pure (arcs_c t) rfl rfl ?_; conv => whnf)
      | (refine call_pure (arcs9_c t) rfl rfl ?_; conv => whnf)
      | (refine call_pure (tail_c t n) rfl rfl ?_; conv => whnf)
      | (refine call_pure (tail9_c t n) rfl rfl ?_; conv => whnf)
      | (refine call_pure (head_c t n) rfl rfl ?_; conv => whnf)
      | (refine call_pure (head9_c t n) rfl rfl ?_; conv => whnf)
      | (refine call_pure (cost_c t n) rfl rfl ?_; conv => whnf)
      | (refine call_pure (cost9_c t n) rfl rfl ?_; conv => whnf)
      | (refine call_pure (out_c t n hl) rfl rfl ?_; conv => whnf)
      | (refine call_pure (out9_c t n) rfl rfl ?_; conv => whnf)
      | (refine call_pure (in_c t n hl) rfl rfl ?_; conv => whnf)
      | (refine call_pure (in9_c t n) rfl rfl ?_; conv => whnf)
      | (refine call_pure ho rfl rfl ?_; conv => whnf)
      | (refine call_pure hi rfl rfl ?_; conv => whnf)
      | fail)
  all_goals first | rfl | (exfalso; revert h; simp; done)
end Go.Proofs.YtnlelalkkabihaaDoor.Vm
/- The self-check of the set 09. -/
set_option linter.all false
namespace Go.Proofs.YtnlelalkkabihaaDoor.Vm
open Go
set_option maxRecDepth 100000
set_option maxHeartbeats 4000000
def ex09 : Topology := ⟨3, [], [⟨0, 1, 2, 3, 10, 1, 0⟩, ⟨1, 2, 4, 5, 0, 1, 0⟩]⟩
def ex09o : Topology := ⟨3, [false, true, false], [⟨0, 1, 2, 3, 10, 1, 0⟩, ⟨1, 2, 4, 5, 0, 1, 0⟩]⟩
theorem ex09_c : PureCall Tryd.prog F.law09_example [] (.agg ex09.enc) := by
  refine contractS fits K.law09_example ?_
  repeat' (first
      | ((with_reducible refine step ?_); conv => whnf) | ((with_reducible refine br_dec (fun h => ?_) (fun h => ?_)) <;> try (exfalso; omega)) | ((with_reducible refine br_ndec (fun h => ?_) (fun h => ?_)) <;> try (exfalso; omega)) | (with_reducible refine br_not (fun h => ?_) (fun h => ?_)) | (with_reducible refine And.intro (fun h => ?_) (fun h => ?_))
      | fail)
  all_goals rfl
theorem num1 {n : Nat} (h : n < 10) : num n = [UInt8.ofNat (48 + n)] := by
  unfold num Lib.itoa
  rw [if_neg (by omega), Lib.decDigits, dif_pos (by omega)]
  rfl
theorem num10 : num 10 = [49, 48] := by
  unfold num Lib.itoa
  rw [if_neg (by omega)]
  simp [Lib.decDigits]
theorem text09 : textT ex09 = [110, 111, 100, 101, 115, 32, 51, 10, 108, 105, 110, 107, 32, 48, 32, 49, 32, 50, 32, 51, 32, 49, 48, 32, 49, 32, 48, 10, 108, 105, 110, 107, 32, 49, 32, 50, 32, 52, 32, 53, 32, 48, 32, 49, 32, 48, 10] := by
  have h0 : num 0 = [48] := num1 (n := 0) (by decide)
  have h1 : num 1 = [49] := num1 (n := 1) (by decide)
  have h2 : num 2 = [50] := num1 (n := 2) (by decide)
  have h3 : num 3 = [51] := num1 (n := 3) (by decide)
  have h4 : num 4 = [52] := num1 (n := 4) (by decide)
  have h5 : num 5 = [53] := num1 (n := 5) (by decide)
  simp only [textT, headT, ovT, ex09, List.flatMap_cons, List.flatMap_nil, linkT, h0, h1, h2, h3, h4, h5, num10]
  rfl
theorem awake09_c : Awake9 := by
  refine contractS fits K.law09_awake ?_
  have p1 := path_c ex09 0 [0, 2] (by decide)
  have p2 := path_c ex09 2 [3, 1] (by decide)
  have p3 := path_c ex09o 0 [0, 2] (by decide)
  rw [show pathR ex09 0 [0, 2] = (2, 6, 0) by decide +kernel] at p1
  rw [show pathR ex09 2 [3, 1] = (0, 8, 0) by decide +kernel] at p2
  rw [show pathR ex09o 0 [0, 2] = (0, 0, 4) by decide +kernel] at p3
  have tx := text_c numC ex09 (by decide +kernel)
  rw [text09] at tx
  repeat' (first
      | contradiction
      | (exfalso; revert h; decide)
      | ((with_reducible refine step ?_); conv => whnf) | ((with_reducible refine br_dec (fun h => ?_) (fun h => ?_)) <;> try (exfalso; omega)) | ((with_reducible refine br_ndec (fun h => ?_) (fun h => ?_)) <;> try (exfalso; omega)) | (with_reducible refine br_not (fun h => ?_) (fun h => ?_)) | (with_reducible refine And.intro (fun h => ?_) (fun h => ?_))
      | (refine call_pure ex09_c rfl rfl ?_; conv => whnf)
      | (refine call_pure p1 rfl rfl ?_; conv => whnf)
      | (refine call_pure p2 rfl rfl ?_; conv => whnf)
      | (refine call_pure p3 rfl rfl ?_; conv => whnf)
      | (refine call_pure tx rfl rfl ?_; conv => whnf)
      | fail)
  all_goals first | rfl
end Go.Proofs.YtnlelalkkabihaaDoor.Vm
/- The statements of the set 09, but for its self-check: twins. -/
set_option linter.all false
namespace Go.Proofs.YtnlelalkkabihaaDoor.Vm
open Go
set_option maxRecDepth 100000
set_option maxHeartbeats 4000000

def xor1 (a : Int) : Int := IntKind.i64.wrap ((BitVec.ofInt IntKind.i64.bits a ^^^ BitVec.ofInt IntKind.i64.bits 1).toNat : Nat)
theorem xor1_nat : ∀ k, k < 512 → xor1 ((k : Nat) : Int) = if k % 2 = 0 then ((k + 1 : Nat) : Int) else ((k - 1 : Nat) : Int) := by decide +kernel
theorem sel_mem {f : Nat → Bool} {n k : Nat} : (k : Int) ∈ sel f n ↔ k < n ∧ f k = true := by
  simp only [sel, List.mem_map, List.mem_filter, List.mem_range]
  constructor
  · rintro ⟨a, h, e⟩
    obtain rfl : a = k := by omega
    exact h
  · exact fun h => ⟨k, h, rfl⟩
theorem arcs_has {t : Topology} {a n : Int} (h0 : 0 ≤ a) (h : a < t.arcs) (out : Bool) : (t.arcs1 n out).contains a = decide (endOf t out a = n) := by
  obtain ⟨k, rfl⟩ : ∃ k : Nat, a = k := ⟨a.toNat, by omega⟩
  rw [Bool.eq_iff_iff, List.contains_iff_mem, arcs1_sel, sel_mem]
  constructor
  · exact fun q => q.2
  · exact fun q => ⟨by omega, q⟩
theorem twins {t : Topology} (hv : t.valid = true) {a : Int} (h0 : 0 ≤ a) (h : a < 2 * t.links.length) : t.tail a = t.head (xor1 a) ∧ t.head a = t.tail (xor1 a) ∧ t.tail a ≠ t.head a := by
  have hll := valid_links hv
  obtain ⟨k, rfl⟩ : ∃ k : Nat, a = k := ⟨a.toNat, by omega⟩
  have hi : k / 2 < t.links.length := by omega
  obtain ⟨q1, q2, q3, q4⟩ := ends_at hv hi
  have hne := (valid_ne hv (List.getElem_mem hi)).1
  rw [xor1_nat k (by omega)]
  by_cases hk : k % 2 = 0
  · rw [if_pos hk]
    have e1 : k = 2 * (k / 2) := by omega
    have e2 : k + 1 = 2 * (k / 2) + 1 := by omega
    rw [e2, q2, q4]
    rw [← e1] at q1 q3
    rw [q1, q3]
    exact ⟨rfl, rfl, hne⟩
  · rw [if_neg hk]
    have e1 : k - 1 = 2 * (k / 2) := by omega
    have e2 : k = 2 * (k / 2) + 1 := by omega
    rw [e1, q1, q3]
    rw [← e2] at q2 q4
    rw [q2, q4]
    exact ⟨rfl, rfl, fun e => hne e.symm⟩

theorem sTwins_c (hw : Awake9) (t : Topology) (a : Int) : PureCall Tryd.prog F.law09_TopologyTwins [.agg t.enc, ai a] (.bool true) := by
  refine contractS fits K.law09_TopologyTwins ?_
  have hlm : (t.links.map Link.enc).length = t.links.length := List.length_map ..
  repeat' (first
      | contradiction
      | ((with_reducible refine step ?_); conv => whnf)
      | (refine call_pure hw rfl rfl ?_; conv => whnf)
      | (refine call_pure (large9_c t) rfl rfl ?_; conv => whnf)
      | (refine call_pure (valid9_c t) rfl rfl ?_; conv => whnf)
      | (refine call_pure (tail_c t a) rfl rfl ?_; conv => whnf)
      | ((with_reducible refine step ?_); conv => whnf) | ((with_reducible refine br_dec (fun h => ?_) (fun h => ?_)) <;> try (exfalso; omega)) | ((with_reducible refine br_ndec (fun h => ?_) (fun h => ?_)) <;> try (exfalso; omega)) | (with_reducible refine br_not (fun h => ?_) (fun h => ?_)) | (with_reducible refine And.intro (fun h => ?_) (fun h => ?_))
      | fail)
  all_goals first | rfl | skip
  have hv : t.valid = true := by assumption
  have hll := valid_links hv
  have hnn := valid_nodes hv
  have har : t.arcs = 2 * t.links.length := by simp [Topology.arcs, hv]
  rw [hlm, wrap_in (by omega)] at h
  obtain ⟨k1, k2, k3⟩ := twins hv (a := a) (by omega) (by omega)
  have hx : IntKind.i64.wrap ((BitVec.ofInt IntKind.i64.bits a ^^^ BitVec.ofInt IntKind.i64.bits 1).toNat : Nat) = xor1 a := rfl
  rw [hx]
  generalize xor1 a = x at k1 k2
  clear hx
  have hout := fun n => arcs_has (t := t) (a := a) (n := n) (by omega) (by omega) true
  have hin := fun n => arcs_has (t := t) (a := a) (n := n) (by omega) (by omega) false
  repeat' (first
      | contradiction
      | ((with_reducible refine step ?_); conv => whnf) | ((with_reducible refine br_dec (fun h => ?_) (fun h => ?_)) <;> try (exfalso; omega)) | ((with_reducible refine br_ndec (fun h => ?_) (fun h => ?_)) <;> try (exfalso; omega)) | (with_reducible refine br_not (fun h => ?_) (fun h => ?_)) | (with_reducible refine And.intro (fun h => ?_) (fun h => ?_))
      | (refine call_pure (tail_c t _) rfl rfl ?_; conv => whnf)
      | (refine call_pure (head_c t _) rfl rfl ?_; conv => whnf)
      | fail)
  refine loop_invS (fun i => i ≤ t.nodes.toNat) [1, 2, 56, 57] 1 (fun i => [(57, ai i)]) (fun _ => []) (fun i => t.nodes.toNat - i) 0 (by decide) (by decide) ?_
  conv => whnf
  refine ⟨rfl, rfl, by omega, fun i hi => ?_⟩
  repeat' (first
      | contradiction
      | ((with_reducible refine step ?_); conv => whnf) | ((with_reducible refine br_dec (fun h => ?_) (fun h => ?_)) <;> try (exfalso; omega)) | ((with_reducible refine br_ndec (fun h => ?_) (fun h => ?_)) <;> try (exfalso; omega)) | (with_reducible refine br_not (fun h => ?_) (fun h => ?_)) | (with_reducible refine And.intro (fun h => ?_) (fun h => ?_))
      | (refine call_pure (out_c t _ (by omega)) rfl rfl ?_; conv => whnf)
      | (refine call_pure (in_c t _ (by omega)) rfl rfl ?_; conv => whnf)
      | (refine call_pure (has9_c (t.arcs1 (i : Int) true) a (arcs1_le ..)) rfl rfl ?_; conv => whnf)
      | (refine call_pure (has9_c (t.arcs1 (i : Int) false) a (arcs1_le ..)) rfl rfl ?_; conv => whnf)
      | (refine call_pure (tail_c t _) rfl rfl ?_; conv => whnf)
      | (refine call_pure (head_c t _) rfl rfl ?_; conv => whnf)
      | fail)
  all_goals first | rfl | skip
  · exfalso
    rw [hout, show decide (endOf t true a = (i : Int)) = decide ((i : Int) = t.tail a) from decide_eq_decide.2 eq_comm] at h
    simp at h
  · exfalso
    rw [hin, show decide (endOf t false a = (i : Int)) = decide ((i : Int) = t.head a) from decide_eq_decide.2 eq_comm] at h
    simp at h
  · exact ⟨i + 1, by omega, by omega, by rw [wrap_succ (by omega)]; rfl, rfl⟩
end Go.Proofs.YtnlelalkkabihaaDoor.Vm
/- The statements of the set 09, but for its self-check: joined paths. -/
set_option linter.all false
namespace Go.Proofs.YtnlelalkkabihaaDoor.Vm
open Go
set_option maxRecDepth 100000
set_option maxHeartbeats 4000000

theorem wrap_wrap_add (a b : Int) : IntKind.i64.wrap (IntKind.i64.wrap a + b) = IntKind.i64.wrap (a + b) := by
  simp only [IntKind.wrap_i64]; omega
theorem wrap_add_wrap (a b : Int) : IntKind.i64.wrap (a + IntKind.i64.wrap b) = IntKind.i64.wrap (a + b) := by
  simp only [IntKind.wrap_i64]; omega
theorem wrap_wrap (a : Int) : IntKind.i64.wrap (IntKind.i64.wrap a) = IntKind.i64.wrap a := by
  simp only [IntKind.wrap_i64]; omega
theorem path_append (t : Topology) (ys : List Int) : ∀ (xs : List Int) (i : Nat) (n c : Int), pathL t i n c (xs ++ ys) = if (pathL t i n c xs).2.2 = 0 then pathL t (i + xs.length) (pathL t i n c xs).1 (pathL t i n c xs).2.1 ys else pathL t i n c xs := by
  intro xs
  induction xs with
  | nil => intro i n c; simp [pathL]
  | cons x xs ih =>
    intro i n c
    simp only [List.cons_append, pathL]
    split
    · simp
    · split
      · simp
      · rw [ih, List.length_cons, show i + 1 + xs.length = i + (xs.length + 1) by omega]
theorem path_idx (t : Topology) : ∀ (ys : List Int) (i j : Nat) (n c : Int), pathL t (i + 1) n c ys = pathL t (j + 1) n c ys := by
  intro ys
  induction ys with
  | nil => intro i j n c; rfl
  | cons y ys ih =>
    intro i j n c
    simp only [pathL]
    rw [ih (i + 1) (j + 1)]
    simp
theorem path_shift (t : Topology) (k : Int) : ∀ (ys : List Int) (i : Nat) (n c : Int), pathL t i n (IntKind.i64.wrap (k + c)) ys = if (pathL t i n c ys).2.2 = 0 then ((pathL t i n c ys).1, IntKind.i64.wrap (k + (pathL t i n c ys).2.1), 0) else pathL t i n c ys := by
  intro ys
  induction ys with
  | nil => intro i n c; simp [pathL]
  | cons y ys ih =>
    intro i n c
    simp only [pathL]
    split
    · simp
    · split
      · simp
      · rw [wrap_wrap_add, Int.add_assoc, ← wrap_add_wrap k, ih]
theorem path_range (t : Topology) (hv : t.valid = true) : ∀ (ys : List Int) (i : Nat) (n c : Int), 0 ≤ n → n < t.nodes → 0 ≤ (pathL t i n c ys).1 ∧ (pathL t i n c ys).1 < t.nodes := by
  have hnn := valid_nodes hv
  intro ys
  induction ys with
  | nil => intro i n c h0 h; exact ⟨h0, h⟩
  | cons y ys ih =>
    intro i n c h0 h
    simp only [pathL]
    split
    · exact ⟨by show (0 : Int) ≤ 0; omega, by show (0 : Int) < _; omega⟩
    · split
      · exact ⟨by show (0 : Int) ≤ 0; omega, by show (0 : Int) < _; omega⟩
      · rename_i h1 _
        have hr : ¬ (y < 0 ∨ t.arcs ≤ y) := fun q => h1 ((tail_neg hv).2 q)
        have := ends_range (t := t) (a := y) (by omega) (by omega)
        exact ih _ _ _ this.2.2.1 this.2.2.2
theorem path_wrap (t : Topology) : ∀ (ys : List Int) (i : Nat) (n c : Int), IntKind.i64.wrap c = c → IntKind.i64.wrap (pathL t i n c ys).2.1 = (pathL t i n c ys).2.1 := by
  intro ys
  induction ys with
  | nil => intro i n c h; exact h
  | cons y ys ih =>
    intro i n c h
    simp only [pathL]
    split
    · decide
    · split
      · decide
      · exact ih _ _ _ (wrap_wrap _)
/-- the second part of a path behind a first one -/
theorem path_second (t : Topology) (ys : List Int) (j : Nat) (n c : Int) (hc : IntKind.i64.wrap c = c) :
    (ys ≠ [] → 0 < j → t.ovl n = true → (pathL t j n c ys).2.2 ≠ 0) ∧ ((ys = [] ∨ j = 0 ∨ t.ovl n = false) → pathL t j n c ys = if (pathL t 0 n 0 ys).2.2 = 0 then ((pathL t 0 n 0 ys).1, IntKind.i64.wrap (c + (pathL t 0 n 0 ys).2.1), 0) else pathL t 0 n 0 ys) := by
  constructor
  · intro hy hj ho
    cases ys with
    | nil => exact absurd rfl hy
    | cons y ys =>
      simp only [pathL]
      split
      · decide
      · rw [if_pos (.inr ⟨hj, ho⟩)]; decide
  · intro h
    have key : pathL t j n c ys = pathL t 0 n c ys := by
      cases ys with
      | nil => rfl
      | cons y ys =>
        have hc2 : (0 < j ∧ t.ovl n = true) ↔ (0 < 0 ∧ t.ovl n = true) := by
          rcases h with h | h | h
          · exact absurd h (by simp)
          · subst h; exact Iff.rfl
          · simp [h]
        simp only [pathL]
        rw [path_idx t ys j 0]
        simp only [hc2]
    have hs := path_shift t c ys 0 n 0
    rw [Int.add_zero, hc] at hs
    rw [key, hs]
/-- paths of two parts -/
theorem path_joined (t : Topology) (hv : t.valid = true) (n : Int) (l : List Int) (m : Nat) (hm : m ≤ l.length) :
    ((pathR t n (l.take m)).2.2 ≠ 0 → (pathR t n l).2.2 ≠ 0) ∧
    ((pathR t n (l.take m)).2.2 = 0 →
      ((pathR t (pathR t n (l.take m)).1 (l.drop m)).2.2 ≠ 0 ∨ (0 < m ∧ m < l.length ∧ t.ovl (pathR t n (l.take m)).1 = true) → (pathR t n l).2.2 ≠ 0) ∧
      ((pathR t (pathR t n (l.take m)).1 (l.drop m)).2.2 = 0 → ¬ (0 < m ∧ m < l.length ∧ t.ovl (pathR t n (l.take m)).1 = true) → (pathR t n l).2.2 = 0 ∧ (pathR t n l).1 = (pathR t (pathR t n (l.take m)).1 (l.drop m)).1 ∧
        (pathR t n l).2.1 = IntKind.i64.wrap ((pathR t n (l.take m)).2.1 + (pathR t (pathR t n (l.take m)).1 (l.drop m)).2.1))) := by
  have hR : ∀ n l, pathR t n l = if n < 0 ∨ t.nodes ≤ n then (0, 0, 2) else pathL t 0 n 0 l := fun n l => by rw [pathR, if_neg (by simp [hv])]
  by_cases hn : n < 0 ∨ t.nodes ≤ n
  · rw [hR n l, hR n (l.take m), if_pos hn, if_pos hn]
    exact ⟨fun _ => by decide, fun h => absurd h (by decide)⟩
  rw [hR n l, hR n (l.take m), if_neg hn, if_neg hn]
  have ha := path_append t (l.drop m) (l.take m) 0 n 0
  rw [List.take_append_drop, Nat.zero_add, List.length_take, Nat.min_eq_left hm] at ha
  have hr := path_range t hv (l.take m) 0 n 0 (by omega) (by omega)
  have hw := path_wrap t (l.take m) 0 n 0 (by decide)
  generalize pathL t 0 n 0 (l.take m) = r at ha hr hw
  rw [hR r.1, if_neg (by omega)]
  by_cases h0 : r.2.2 = 0
  · rw [if_pos h0] at ha
    refine ⟨fun h => absurd h0 h, fun _ => ?_⟩
    obtain ⟨s1, s2⟩ := path_second t (l.drop m) m r.1 r.2.1 hw
    have hd : (l.drop m = [] ↔ ¬ m < l.length) := by rw [List.drop_eq_nil_iff]; omega
    rw [ha]
    by_cases ho : 0 < m ∧ m < l.length ∧ t.ovl r.1 = true
    · refine ⟨fun _ => s1 (fun e => absurd ho.2.1 (hd.1 e)) ho.1 ho.2.2, fun _ h => absurd ho h⟩
    · have s2 := s2 (by
        by_cases q1 : m < l.length
        · by_cases q2 : 0 < m
          · right; right
            cases hq : t.ovl r.1 with
            | false => rfl
            | true => exact absurd ⟨q2, q1, hq⟩ ho
          · right; left; omega
        · left; exact hd.2 q1)
      rw [s2]
      constructor
      · rintro (q | q)
        · rw [if_neg q]; exact q
        · exact absurd q ho
      · intro q _
        rw [if_pos q]
        exact ⟨rfl, rfl, rfl⟩
  · rw [if_neg h0] at ha
    rw [ha]
    exact ⟨fun _ => h0, fun h => absurd h h0⟩

theorem sJoined_c (hw : Awake9) (t : Topology) (n : Int) (l : List Int) (c : Int) (hc : 0 ≤ c ∧ c ≤ 255) (hl : l.length ≤ 140737488355328) : PureCall Tryd.prog F.law09_TopologyJoined [.agg t.enc, ai n, asl (l.map eInt), .int .u8 c] (.bool true) := by
  refine contractS fits K.law09_TopologyJoined ?_
  have hlm : (l.map eInt).length = l.length := List.length_map ..
  repeat' (first
      | contradiction
      | ((with_reducible refine step ?_); conv => whnf) | ((with_reducible refine br_dec (fun h => ?_) (fun h => ?_)) <;> try (exfalso; omega)) | ((with_reducible refine br_ndec (fun h => ?_) (fun h => ?_)) <;> try (exfalso; omega)) | (with_reducible refine br_not (fun h => ?_) (fun h => ?_)) | (with_reducible refine And.intro (fun h => ?_) (fun h => ?_))
      | (refine call_pure hw rfl rfl ?_; conv => whnf)
      | (refine call_pure (large9_c t) rfl rfl ?_; conv => whnf)
      | (refine call_pure (valid9_c t) rfl rfl ?_; conv => whnf)
      | fail)
  all_goals first | rfl | skip
  have hlen : l.length ≤ 300 := by omega
  have hv : t.valid = true := by assumption
  refine And.intro (by rw [wrap_in (by omega)]; omega) ?_
  conv => whnf
  repeat' (first
      | ((with_reducible refine step ?_); conv => whnf)
      | (refine call_pure (path_c t n l (by omega)) rfl rfl ?_; conv => whnf)
      | fail)
  have hM : 0 ≤ (IntKind.i64.wrap c).tmod (IntKind.i64.wrap ((l.map eInt).length + 1)) ∧ (IntKind.i64.wrap c).tmod (IntKind.i64.wrap ((l.map eInt).length + 1)) ≤ l.length := by
    rw [wrap_in (by omega), wrap_in (by omega), hlm, Int.tmod_eq_emod_of_nonneg hc.1]
    have h1 := Int.emod_nonneg c (show (l.length : Int) + 1 ≠ 0 by omega)
    have h2 := Int.emod_lt_of_pos c (show 0 < (l.length : Int) + 1 by omega)
    omega
  generalize (IntKind.i64.wrap c).tmod (IntKind.i64.wrap ((l.map eInt).length + 1)) = e at hM ⊢
  obtain ⟨m, rfl⟩ : ∃ m : Nat, e = m := ⟨e.toNat, by omega⟩
  have hm : m ≤ l.length := by omega
  have hJ := path_joined t hv n l m hm
  have p1 := path_c t n (l.take m) (by rw [List.length_take]; omega)
  generalize pathR t n (l.take m) = r1 at hJ p1
  have p2 := path_c t r1.1 (l.drop m) (by rw [List.length_drop]; omega)
  generalize pathR t r1.1 (l.drop m) = r2 at hJ p2
  generalize pathR t n l = r at hJ
  rw [List.map_take] at p1
  rw [List.map_drop] at p2
  refine And.intro ⟨by omega, by omega⟩ ?_
  conv => whnf
  repeat' (first
      | ((with_reducible refine step ?_); conv => whnf)
      | (refine call_pure p1 rfl rfl ?_; conv => whnf)
      | fail)
  repeat' (first
      | contradiction
      | ((with_reducible refine step ?_); conv => whnf) | ((with_reducible refine br_dec (fun h => ?_) (fun h => ?_)) <;> try (exfalso; omega)) | ((with_reducible refine br_ndec (fun h => ?_) (fun h => ?_)) <;> try (exfalso; omega)) | (with_reducible refine br_not (fun h => ?_) (fun h => ?_)) | (with_reducible refine And.intro (fun h => ?_) (fun h => ?_))
      | (refine call_pure p2 rfl rfl ?_; conv => whnf)
      | (refine call_pure (overloaded_c t _) rfl rfl ?_; conv => whnf)
      | (refine And.intro ⟨fun c hc => (by obtain ⟨x, -, rfl⟩ := List.mem_map.1 hc; rfl), by omega, by omega⟩ ?_; conv => whnf)
      | fail)
  · refine congrArg AV.bool ?_
    rw [decide_eq_false (hJ.1 h)]; rfl
  all_goals obtain ⟨j1, j2⟩ := hJ.2 (by assumption)
  all_goals clear hJ p1 p2 hw
  all_goals first
    | (refine congrArg AV.bool ?_; rw [decide_eq_false (j1 (.inl (by assumption)))]; rfl)
    | (refine congrArg AV.bool ?_; rw [decide_eq_false (j1 (.inr ⟨by omega, by omega, by assumption⟩))]; rfl)
    | skip
  all_goals obtain ⟨k1, k2, k3⟩ := j2 (by assumption) (fun q => by
    first
    | (exfalso; have q1 := q.1; have q2 := q.2.1; omega)
    | (have q3 := q.2.2; have e : t.ovl r1.fst = false := (by assumption); rw [e] at q3; exact nomatch q3))
  all_goals first
    | (exact absurd k1 (by assumption))
    | (exact absurd k2 (by assumption))
    | (refine congrArg AV.bool ?_; exact decide_eq_true k3)
end Go.Proofs.YtnlelalkkabihaaDoor.Vm
/- The statements of the set 09, but for its self-check: equal topologies. -/
set_option linter.all false
namespace Go.Proofs.YtnlelalkkabihaaDoor.Vm
open Go
set_option maxRecDepth 100000
set_option maxHeartbeats 4000000

theorem eqBools_c (a b : List Bool) (ha : a.length < 4611686018427387904) : PureCall Tryd.prog F.slices_Equal_bool [asl (a.map eBool), asl (b.map eBool)] (.bool (decide (a = b))) := by
  refine contractS fits K.slices_Equal_bool ?_
  repeat' (first
    | ((with_reducible refine step ?_); conv => whnf)
    | (with_reducible refine And.intro (fun h => ?_) (fun h => ?_)))
  · simp at h
    refine congrArg AV.bool ?_
    symm; rw [decide_eq_false_iff_not]; exact fun e => by subst e; exact h rfl
  · simp at h
    have h : a.length = b.length := by omega
    refine loop_invS (fun i => i ≤ a.length ∧ a.take i = b.take i) [0, 1, 12, 13] 0 (fun i => [(13, ai i)]) (fun _ => []) (fun i => a.length - i) 0 (by decide) (by decide) ?_
    conv => whnf
    refine ⟨rfl, rfl, by simp, fun i ⟨hi, hp⟩ => ?_⟩
    repeat' (first
        | ((with_reducible refine step ?_); conv => whnf)
        | (with_reducible refine And.intro (fun _ => ?_) (fun _ => ?_))
        | (have hlt : i < a.length := (by simp_all); have hlb : i < b.length := h ▸ hlt; refine idx_nat hlt rfl ?_; conv => whnf)
        | (refine idx_nat (h ▸ hlt) rfl ?_; conv => whnf))
    all_goals try simp only [List.length_map, Bool.not_eq_true', Bool.not_eq_false', Bool.and_eq_true, Bool.and_eq_false_iff, decide_eq_true_eq, decide_eq_false_iff_not] at *
    · refine congrArg AV.bool ?_
      symm; rw [decide_eq_false_iff_not]
      refine ne_of_get hlt hlb fun e => ?_
      simp_all
    · refine ⟨i + 1, ⟨hlt, take_succ_eq hlt hlb hp (by simp_all)⟩, by omega, by rw [wrap_succ (by omega)]; rfl, rfl⟩
    · refine congrArg AV.bool ?_
      symm; rw [decide_eq_true_eq]; exact eq_of_take h (by omega) hp
theorem linkEq (x y : Link) : (decide (x.a = y.a) && (decide (x.b = y.b) && (decide (x.c0 = y.c0) && (decide (x.c1 = y.c1) && (decide (x.cap = y.cap) && (decide (x.delay = y.delay) && (decide (x.group = y.group) && true))))))) = decide (x = y) := by
  cases x; cases y
  rw [Bool.eq_iff_iff]; simp
theorem eqLinks_c (a b : List Link) (ha : a.length < 4611686018427387904) : PureCall Tryd.prog F.slices_Equal_Link [asl (a.map Link.enc), asl (b.map Link.enc)] (.bool (decide (a = b))) := by
  refine contractS fits K.slices_Equal_Link ?_
  repeat' (first
    | ((with_reducible refine step ?_); conv => whnf)
    | (with_reducible refine And.intro (fun h => ?_) (fun h => ?_)))
  · simp at h
    refine congrArg AV.bool ?_
    symm; rw [decide_eq_false_iff_not]; exact fun e => by subst e; exact h rfl
  · simp at h
    have h : a.length = b.length := by omega
    refine loop_invS (fun i => i ≤ a.length ∧ a.take i = b.take i) [0, 1, 12, 13] 0 (fun i => [(13, ai i)]) (fun _ => []) (fun i => a.length - i) 0 (by decide) (by decide) ?_
    conv => whnf
    refine ⟨rfl, rfl, by simp, fun i ⟨hi, hp⟩ => ?_⟩
    repeat' (first
        | ((with_reducible refine step ?_); conv => whnf)
        | (with_reducible refine And.intro (fun _ => ?_) (fun _ => ?_))
        | (have hlt : i < a.length := (by simp_all); have hlb : i < b.length := h ▸ hlt; refine idx_nat hlt rfl ?_; conv => whnf)
        | (refine idx_nat (h ▸ hlt) rfl ?_; conv => whnf))
    all_goals try rw [linkEq] at *
    all_goals try simp only [List.length_map, Bool.not_eq_true', Bool.not_eq_false', Bool.and_eq_true, Bool.and_eq_false_iff, decide_eq_true_eq, decide_eq_false_iff_not] at *
    · refine congrArg AV.bool ?_
      symm; rw [decide_eq_false_iff_not]
      exact ne_of_get hlt hlb (by assumption)
    · refine ⟨i + 1, ⟨hlt, take_succ_eq hlt hlb hp (by assumption)⟩, by omega, by rw [wrap_succ (by omega)]; rfl, rfl⟩
    · refine congrArg AV.bool ?_
      symm; rw [decide_eq_true_eq]; exact eq_of_take h (by omega) hp
/-- where the first one that is true stands -/
def anyO (l : List Bool) : Int := match l.findIdx? fun x => (true == x) with
  | some i => i
  | none => -1
theorem indexB_c (l : List Bool) (hl : l.length < 4611686018427387904) : PureCall Tryd.prog F.slices_Index_bool [asl (l.map eBool), .bool true] (ai (anyO l)) := by
  refine contractS fits K.slices_Index_bool ?_
  repeat' (first
    | ((with_reducible refine step ?_); conv => whnf)
    | (with_reducible refine And.intro (fun h => ?_) (fun h => ?_)))
  refine loop_invS (fun i => i ≤ l.length ∧ ∀ p ∈ l.take i, (true == p) = false) [0, 1, 7, 8] 0 (fun i => [(8, ai i)]) (fun _ => []) (fun i => l.length - i) 0 (by decide) (by decide) ?_
  conv => whnf
  refine ⟨rfl, rfl, by simp, fun i ⟨hi, hp⟩ => ?_⟩
  repeat' (first
        | ((with_reducible refine step ?_); conv => whnf)
        | (with_reducible refine And.intro (fun h => ?_) (fun h => ?_))
        | (have hlt : i < l.length := (by simp_all); refine idx_nat hlt rfl ?_; conv => whnf))
  · rw [anyO, findIdx_some hlt hp h]
  · exact ⟨i + 1, ⟨hlt, none_take_succ hlt hp h⟩, by omega, by rw [wrap_succ (by omega)]; rfl, rfl⟩
  · rw [anyO, findIdx_none (by simp at h; omega) hp]
theorem anyO_eq (l : List Bool) : decide (0 ≤ anyO l) = l.any id := by
  unfold anyO
  cases hi : l.findIdx? fun x => (true == x) with
  | none =>
    rw [List.findIdx?_eq_none_iff] at hi
    symm; rw [show decide (0 ≤ (-1 : Int)) = false from rfl, List.any_eq_false]
    intro x hx
    have := hi x hx
    cases x <;> simp_all
  | some i =>
    rw [List.findIdx?_eq_some_iff_getElem] at hi
    obtain ⟨hil, h, _⟩ := hi
    show decide (0 ≤ (i : Int)) = l.any id
    rw [show decide (0 ≤ (i : Int)) = true by simp]
    symm; rw [List.any_eq_true]
    refine ⟨l[i], List.getElem_mem hil, ?_⟩
    cases hq : l[i] with
    | true => rfl
    | false => rw [hq] at h; exact nomatch h
theorem containsB_c (l : List Bool) (hl : l.length < 4611686018427387904) : PureCall Tryd.prog F.slices_Contains_bool [asl (l.map eBool), .bool true] (.bool (l.any id)) := by
  refine contractS fits K.slices_Contains_bool ?_
  repeat' (first
    | ((with_reducible refine step ?_); conv => whnf) | ((with_reducible refine br_dec (fun h => ?_) (fun h => ?_)) <;> try (exfalso; omega)) | ((with_reducible refine br_ndec (fun h => ?_) (fun h => ?_)) <;> try (exfalso; omega)) | (with_reducible refine br_not (fun h => ?_) (fun h => ?_)) | (with_reducible refine And.intro (fun h => ?_) (fun h => ?_))
    | (refine call_pure (indexB_c l hl) rfl rfl ?_; conv => whnf)
    | fail)
  all_goals (refine congrArg AV.bool ?_; rw [← anyO_eq])
def marksL (t : Topology) : List Bool := if t.overload.any id = true then t.overload else []
theorem marks_c (t : Topology) (hl : t.overload.length < 4611686018427387904) : PureCall Tryd.prog F.topology_marks [.agg t.enc] (asl ((marksL t).map eBool)) := by
  refine contractS fits K.topology_marks ?_
  repeat' (first
    | ((with_reducible refine step ?_); conv => whnf) | ((with_reducible refine br_dec (fun h => ?_) (fun h => ?_)) <;> try (exfalso; omega)) | ((with_reducible refine br_ndec (fun h => ?_) (fun h => ?_)) <;> try (exfalso; omega)) | (with_reducible refine br_not (fun h => ?_) (fun h => ?_)) | (with_reducible refine And.intro (fun h => ?_) (fun h => ?_))
    | (refine call_pure (containsB_c t.overload hl) rfl rfl ?_; conv => whnf)
    | fail)
  · rw [marksL, if_neg (by simp [*])]; rfl
  · rw [marksL, if_pos (by assumption)]
theorem busy_c (t : Topology) (hl : t.overload.length < 4611686018427387904) : PureCall Tryd.prog F.ref09_busy [.agg t.enc] (.bool (t.overload.any id)) := by
  refine contractS fits K.ref09_busy ?_
  have hom : (t.overload.map eBool).length = t.overload.length := List.length_map ..
  repeat' (first
    | ((with_reducible refine step ?_); conv => whnf)
    | fail)
  refine loop_invS (fun i => i ≤ t.overload.length ∧ ∀ p ∈ t.overload.take i, (true == p) = false) [1, 3] 1 (fun i => [(3, ai i)]) (fun _ => []) (fun i => t.overload.length - i) 0 (by decide) (by decide) ?_
  conv => whnf
  refine ⟨rfl, rfl, by simp, fun i ⟨hi, hp⟩ => ?_⟩
  repeat' (first
    | ((with_reducible refine step ?_); conv => whnf) | ((with_reducible refine br_dec (fun h => ?_) (fun h => ?_)) <;> try (exfalso; omega)) | ((with_reducible refine br_ndec (fun h => ?_) (fun h => ?_)) <;> try (exfalso; omega)) | (with_reducible refine br_not (fun h => ?_) (fun h => ?_)) | (with_reducible refine And.intro (fun h => ?_) (fun h => ?_))
    | (have hlt : i < t.overload.length := (by omega); refine idx_nat hlt rfl ?_; conv => whnf)
    | fail)
  · refine congrArg AV.bool ?_
    symm; rw [List.any_eq_true]; exact ⟨_, List.getElem_mem hlt, h⟩
  · exact ⟨i + 1, ⟨hlt, none_take_succ hlt hp (by rw [h]; rfl)⟩, by omega, by rw [wrap_succ (by omega)]; rfl, rfl⟩
  · refine congrArg AV.bool ?_
    rw [List.take_of_length_le (by omega)] at hp
    symm; rw [List.any_eq_false]
    intro x hx
    have := hp x hx
    cases x <;> simp_all
def sameB (a b : Topology) : Bool := decide (a.nodes = b.nodes) && decide (a.links = b.links) && decide (marksL a = marksL b)
theorem same_c (a b : Topology) (ha : a.overload.length < 4611686018427387904) (hb : b.overload.length < 4611686018427387904) (hl : a.links.length < 4611686018427387904) : PureCall Tryd.prog F.topology_Same [.agg a.enc, .agg b.enc] (.bool (sameB a b)) := by
  refine contractS fits K.topology_Same ?_
  have hm : (marksL a).length < 4611686018427387904 := by
    unfold marksL; split
    · exact ha
    · exact (show 0 < 4611686018427387904 by decide)
  repeat' (first
    | ((with_reducible refine step ?_); conv => whnf) | ((with_reducible refine br_dec (fun h => ?_) (fun h => ?_)) <;> try (exfalso; omega)) | ((with_reducible refine br_ndec (fun h => ?_) (fun h => ?_)) <;> try (exfalso; omega)) | (with_reducible refine br_not (fun h => ?_) (fun h => ?_)) | (with_reducible refine And.intro (fun h => ?_) (fun h => ?_))
    | (refine call_pure (eqLinks_c a.links b.links hl) rfl rfl ?_; conv => whnf)
    | (refine call_pure (marks_c a ha) rfl rfl ?_; conv => whnf)
    | (refine call_pure (marks_c b hb) rfl rfl ?_; conv => whnf)
    | (refine call_pure (eqBools_c (marksL a) (marksL b) hm) rfl rfl ?_; conv => whnf)
    | fail)
  all_goals refine congrArg AV.bool ?_
  all_goals unfold sameB
  all_goals simp [*]
theorem marks_any (t : Topology) : (marksL t).any id = t.overload.any id := by
  unfold marksL
  split
  · rfl
  · rename_i h; rw [Bool.not_eq_true] at h; rw [h]; rfl
theorem same9_c (a b : Topology) (ha : a.overload.length < 4611686018427387904) (hb : b.overload.length < 4611686018427387904) (hl : a.links.length < 4611686018427387904) : PureCall Tryd.prog F.ref09_Same [.agg a.enc, .agg b.enc] (.bool (sameB a b)) := by
  refine contractS fits K.ref09_Same ?_
  have hm1 : (a.links.map Link.enc).length = a.links.length := List.length_map ..
  have hm2 : (b.links.map Link.enc).length = b.links.length := List.length_map ..
  have hm3 : (a.overload.map eBool).length = a.overload.length := List.length_map ..
  have hm4 : (b.overload.map eBool).length = b.overload.length := List.length_map ..
  repeat' (first
    | ((with_reducible refine step ?_); conv => whnf) | ((with_reducible refine br_dec (fun h => ?_) (fun h => ?_)) <;> try (exfalso; omega)) | ((with_reducible refine br_ndec (fun h => ?_) (fun h => ?_)) <;> try (exfalso; omega)) | (with_reducible refine br_not (fun h => ?_) (fun h => ?_)) | (with_reducible refine And.intro (fun h => ?_) (fun h => ?_))
    | (refine call_pure (busy_c a ha) rfl rfl ?_; conv => whnf)
    | (refine call_pure (busy_c b hb) rfl rfl ?_; conv => whnf)
    | fail)
  · refine congrArg AV.bool ?_
    rw [sameB, decide_eq_false h]; rfl
  · refine congrArg AV.bool ?_
    rw [sameB, decide_eq_false (show ¬ a.links = b.links from fun e => h (by rw [e]))]; simp
  · refine congrArg AV.bool ?_
    rw [sameB, decide_eq_false (show ¬ marksL a = marksL b from fun e => by
      rw [← marks_any a, ← marks_any b, e] at h; simp at h)]; simp
  have hN : a.nodes = b.nodes := by assumption
  have hL : a.links.length = b.links.length := by omega
  have hB : a.overload.any id = b.overload.any id := by simpa using h
  rw [sameB, decide_eq_true hN, Bool.true_and]
  clear h
  refine loop_invS (fun i => i ≤ a.links.length ∧ a.links.take i = b.links.take i) [2, 3, 5] 2 (fun i => [(5, ai i)]) (fun _ => []) (fun i => a.links.length - i) 0 (by decide) (by decide) ?_
  conv => whnf
  refine ⟨rfl, rfl, by simp, fun i ⟨hi, hp⟩ => ?_⟩
  repeat' (first
    | ((with_reducible refine step ?_); conv => whnf) | ((with_reducible refine br_dec (fun h => ?_) (fun h => ?_)) <;> try (exfalso; omega)) | ((with_reducible refine br_ndec (fun h => ?_) (fun h => ?_)) <;> try (exfalso; omega)) | (with_reducible refine br_not (fun h => ?_) (fun h => ?_)) | (with_reducible refine And.intro (fun h => ?_) (fun h => ?_))
    | (have hlt : i < a.links.length := (by omega); have hlb : i < b.links.length := (by omega); refine idx_nat hlt rfl ?_; conv => whnf)
    | (refine idx_nat hlb rfl ?_; conv => whnf)
    | (refine call_pure (busy_c a ha) rfl rfl ?_; conv => whnf)
    | (refine call_pure (busy_c b hb) rfl rfl ?_; conv => whnf)
    | fail)
  · rw [linkEq] at h
    refine congrArg AV.bool ?_
    rw [decide_eq_false (ne_of_get hlt hlb (of_decide_eq_false h))]; rfl
  · rw [linkEq] at h
    exact ⟨i + 1, ⟨hlt, take_succ_eq hlt hlb hp (of_decide_eq_true h)⟩, by omega, by rw [wrap_succ (by omega)]; rfl, rfl⟩
  · have hLk : a.links = b.links := eq_of_take hL (by omega) hp
    refine congrArg AV.bool ?_
    rw [decide_eq_true hLk, marksL, marksL, if_neg (by rw [h]; decide), if_neg (by rw [← hB, h]; decide)]; rfl
  · have hLk : a.links = b.links := eq_of_take hL (by omega) hp
    have hq : a.overload.any id = true := by assumption
    refine congrArg AV.bool ?_
    rw [decide_eq_true hLk, marksL, marksL, if_pos hq, if_pos (by rw [← hB, hq]), decide_eq_false (fun e => h (by rw [e]))]; rfl
  · have hLk : a.links = b.links := eq_of_take hL (by omega) hp
    have hq : a.overload.any id = true := by assumption
    have hO : a.overload.length = b.overload.length := by omega
    rw [decide_eq_true hLk, marksL, marksL, if_pos hq, if_pos (by rw [← hB, hq]), Bool.true_and]
    clear h hp hi
    refine loop_invS (fun i => i ≤ a.overload.length ∧ a.overload.take i = b.overload.take i) [2, 3, 6] 2 (fun i => [(6, ai i)]) (fun _ => []) (fun i => a.overload.length - i) 0 (by decide) (by decide) ?_
    conv => whnf
    refine ⟨rfl, rfl, by simp, fun k ⟨hi, hp⟩ => ?_⟩
    repeat' (first
      | ((with_reducible refine step ?_); conv => whnf) | ((with_reducible refine br_dec (fun h => ?_) (fun h => ?_)) <;> try (exfalso; omega)) | ((with_reducible refine br_ndec (fun h => ?_) (fun h => ?_)) <;> try (exfalso; omega)) | (with_reducible refine br_not (fun h => ?_) (fun h => ?_)) | (with_reducible refine And.intro (fun h => ?_) (fun h => ?_))
      | (have hlt : k < a.overload.length := (by omega); have hlb : k < b.overload.length := (by omega); refine idx_nat hlt rfl ?_; conv => whnf)
      | (refine idx_nat hlb rfl ?_; conv => whnf)
      | fail)
    · refine congrArg AV.bool ?_
      rw [decide_eq_false (ne_of_get hlt hlb fun e => by rw [e] at h; simp at h)]
    · exact ⟨k + 1, ⟨hlt, take_succ_eq hlt hlb hp (by simpa using h)⟩, by omega, by rw [wrap_succ (by omega)]; rfl, rfl⟩
    · refine congrArg AV.bool ?_
      rw [decide_eq_true (eq_of_take hO (by omega) hp)]
theorem sValid_c (hw : Awake9) (a b : Topology) : PureCall Tryd.prog F.law09_TopologyValid [.agg a.enc, .agg b.enc] (.bool true) := by
  refine contractS fits K.law09_TopologyValid ?_
  have hsym : sameB b a = sameB a b := by
    unfold sameB
    rw [show decide (b.nodes = a.nodes) = decide (a.nodes = b.nodes) from decide_eq_decide.2 eq_comm, show decide (b.links = a.links) = decide (a.links = b.links) from decide_eq_decide.2 eq_comm, show decide (marksL b = marksL a) = decide (marksL a = marksL b) from decide_eq_decide.2 eq_comm]
  have hrefl : sameB a a = true := by simp [sameB]
  by_cases hbig : (decide (200 < a.overload.length) || decide (300 < a.links.length)) = true ∨ (decide (200 < b.overload.length) || decide (300 < b.links.length)) = true
  · repeat' (first
      | contradiction
      | ((with_reducible refine step ?_); conv => whnf) | ((with_reducible refine br_dec (fun h => ?_) (fun h => ?_)) <;> try (exfalso; omega)) | ((with_reducible refine br_ndec (fun h => ?_) (fun h => ?_)) <;> try (exfalso; omega)) | (with_reducible refine br_not (fun h => ?_) (fun h => ?_)) | (with_reducible refine And.intro (fun h => ?_) (fun h => ?_))
      | (refine call_pure hw rfl rfl ?_; conv => whnf)
      | (refine call_pure (large9_c a) rfl rfl ?_; conv => whnf)
      | (refine call_pure (large9_c b) rfl rfl ?_; conv => whnf)
      | (exfalso; rcases hbig with q | q <;> (rw [q] at *; contradiction))
      | fail)
    all_goals first | rfl | (exfalso; rcases hbig with q | q <;> simp_all)
  · have h1 : a.overload.length ≤ 200 ∧ a.links.length ≤ 300 := by simp at hbig; omega
    have h2 : b.overload.length ≤ 200 ∧ b.links.length ≤ 300 := by simp at hbig; omega
    have c1 := same_c a b (by omega) (by omega) (by omega)
    have c2 := same9_c a b (by omega) (by omega) (by omega)
    have c3 := same_c b a (by omega) (by omega) (by omega)
    have c4 := same_c a a (by omega) (by omega) (by omega)
    rw [hsym] at c3
    rw [hrefl] at c4
    generalize sameB a b = v at c1 c2 c3
    clear hbig hsym hrefl
    repeat' (first
      | contradiction
      | ((with_reducible refine step ?_); conv => whnf) | ((with_reducible refine br_dec (fun h => ?_) (fun h => ?_)) <;> try (exfalso; omega)) | ((with_reducible refine br_ndec (fun h => ?_) (fun h => ?_)) <;> try (exfalso; omega)) | (with_reducible refine br_not (fun h => ?_) (fun h => ?_)) | (with_reducible refine And.intro (fun h => ?_) (fun h => ?_))
      | (refine call_pure hw rfl rfl ?_; conv => whnf)
      | (refine call_pure (large9_c a) rfl rfl ?_; conv => whnf)
      | (refine call_pure (large9_c b) rfl rfl ?_; conv => whnf)
      | (refine call_pure (valid_c a) rfl rfl ?_; conv => whnf)
      | (refine call_pure (valid9_c a) rfl rfl ?_; conv => whnf)
      | (refine call_pure c1 rfl rfl ?_; conv => whnf)
      | (refine call_pure c2 rfl rfl ?_; conv => whnf)
      | (refine call_pure c3 rfl rfl ?_; conv => whnf)
      | (refine call_pure c4 rfl rfl ?_; conv => whnf)
      | fail)
    all_goals first | rfl | (exfalso; revert h; simp; done)
end Go.Proofs.YtnlelalkkabihaaDoor.Vm
/- TopologyArcs at any topology. -/
set_option linter.all false
namespace Go.Proofs.YtnlelalkkabihaaDoor.Vm
open Go
set_option maxRecDepth 100000
set_option maxHeartbeats 4000000
theorem sArcsA_c (hw : Awake9) (t : Topology) (n : Int) : PureCall Tryd.prog F.law09_TopologyArcs [.agg t.enc, ai n] (.bool true) := by
  by_cases hl : t.links.length < 1099511627776
  · exact sArcs_c hw t n hl
  · refine contractS fits K.law09_TopologyArcs ?_
    have hb : (decide (200 < t.overload.length) || decide (300 < t.links.length)) = true := by simp; omega
    have hg := large9_c t
    rw [hb] at hg
    repeat' (first
      | contradiction
      | ((with_reducible refine step ?_); conv => whnf) | ((with_reducible refine br_dec (fun h => ?_) (fun h => ?_)) <;> try (exfalso; omega)) | ((with_reducible refine br_ndec (fun h => ?_) (fun h => ?_)) <;> try (exfalso; omega)) | (with_reducible refine br_not (fun h => ?_) (fun h => ?_)) | (with_reducible refine And.intro (fun h => ?_) (fun h => ?_))
      | (refine call_pure hw rfl rfl ?_; conv => whnf)
      | (refine call_pure hg rfl rfl ?_; conv => whnf)
      | fail)
    all_goals rfl
end Go.Proofs.YtnlelalkkabihaaDoor.Vm
