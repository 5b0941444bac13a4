/- Contracts: the example that every statement of the set 10 checks first. -/
import Derived.Test.YtakkfpiibeokiaaDoorP04
import Derived.Lib.Join
set_option linter.all false
namespace Go.Proofs.YtakkfpiibeokiaaDoor.Vm
open Go
set_option maxRecDepth 100000
set_option maxHeartbeats 4000000

theorem ex10_1_c (a b g : Int) : PureCall Tryd.prog F.law10_example_1 [ai a, ai b, ai g] (.agg (Link.enc ⟨a, b, 1, 1, 0, 1, g⟩)) := by
  refine contractS fits K.law10_example_1 ?_
  repeat' (first
      | ((with_reducible refine step ?_); conv => whnf) | ((with_reducible refine br_dec (fun h => ?_) (fun h => ?_)) <;> try (exfalso; omega)) | ((with_reducible refine br_ndec (fun h => ?_) (fun h => ?_)) <;> try (exfalso; omega)) | (with_reducible refine br_not (fun h => ?_) (fun h => ?_)) | (with_reducible refine And.intro (fun h => ?_) (fun h => ?_))
      | fail)
  all_goals rfl
def ex10 : Topology := ⟨3, [], [⟨0, 1, 1, 1, 0, 1, 1⟩, ⟨1, 2, 1, 1, 0, 1, 0⟩, ⟨2, 0, 1, 1, 0, 1, 1⟩]⟩
theorem ex10_c : PureCall Tryd.prog F.law10_example [] (.agg ex10.enc) := by
  refine contractS fits K.law10_example ?_
  repeat' (first
      | ((with_reducible refine step ?_); conv => whnf) | ((with_reducible refine br_dec (fun h => ?_) (fun h => ?_)) <;> try (exfalso; omega)) | ((with_reducible refine br_ndec (fun h => ?_) (fun h => ?_)) <;> try (exfalso; omega)) | (with_reducible refine br_not (fun h => ?_) (fun h => ?_)) | (with_reducible refine And.intro (fun h => ?_) (fun h => ?_))
      | (refine call_pure (ex10_1_c _ _ _) rfl rfl ?_; conv => whnf)
      | fail)
  all_goals rfl
theorem words_c : PureCall Tryd.prog F.component_words [] (.agg [.str [], .str [108, 105, 110, 107], .str [110, 111, 100, 101], .str [103, 114, 111, 117, 112]]) := by
  refine contractS fits K.component_words ?_
  repeat' (first
      | ((with_reducible refine step ?_); conv => whnf) | ((with_reducible refine br_dec (fun h => ?_) (fun h => ?_)) <;> try (exfalso; omega)) | ((with_reducible refine br_ndec (fun h => ?_) (fun h => ?_)) <;> try (exfalso; omega)) | (with_reducible refine br_not (fun h => ?_) (fun h => ?_)) | (with_reducible refine And.intro (fun h => ?_) (fun h => ?_))
      | fail)
  all_goals rfl
theorem small_c : PureCall Tryd.prog F.internal_strconv_small [ai 1] (.str [49]) := by
  refine contractS fits K.internal_strconv_small ?_
  repeat' (first
      | ((with_reducible refine step ?_); conv => whnf) | ((with_reducible refine br_dec (fun h => ?_) (fun h => ?_)) <;> try (exfalso; omega)) | ((with_reducible refine br_ndec (fun h => ?_) (fun h => ?_)) <;> try (exfalso; omega)) | (with_reducible refine br_not (fun h => ?_) (fun h => ?_)) | (with_reducible refine And.intro (fun h => ?_) (fun h => ?_))
      | (refine And.intro (by decide) ?_; conv => whnf)
      | fail)
  all_goals rfl
theorem formatInt_c : PureCall Tryd.prog F.internal_strconv_FormatInt [ai 1, ai 10] (.str [49]) := by
  refine contractS fits K.internal_strconv_FormatInt ?_
  repeat' (first
      | ((with_reducible refine step ?_); conv => whnf) | ((with_reducible refine br_dec (fun h => ?_) (fun h => ?_)) <;> try (exfalso; omega)) | ((with_reducible refine br_ndec (fun h => ?_) (fun h => ?_)) <;> try (exfalso; omega)) | (with_reducible refine br_not (fun h => ?_) (fun h => ?_)) | (with_reducible refine And.intro (fun h => ?_) (fun h => ?_))
      | (refine call_pure small_c rfl rfl ?_; conv => whnf)
      | fail)
  all_goals rfl
theorem itoa0_c : PureCall Tryd.prog F.internal_strconv_Itoa [ai 1] (.str [49]) := by
  refine contractS fits K.internal_strconv_Itoa ?_
  repeat' (first
      | ((with_reducible refine step ?_); conv => whnf) | ((with_reducible refine br_dec (fun h => ?_) (fun h => ?_)) <;> try (exfalso; omega)) | ((with_reducible refine br_ndec (fun h => ?_) (fun h => ?_)) <;> try (exfalso; omega)) | (with_reducible refine br_not (fun h => ?_) (fun h => ?_)) | (with_reducible refine And.intro (fun h => ?_) (fun h => ?_))
      | (refine call_pure formatInt_c rfl rfl ?_; conv => whnf)
      | fail)
  all_goals rfl
theorem itoa_c : PureCall Tryd.prog F.strconv_Itoa [ai 1] (.str [49]) := by
  refine contractS fits K.strconv_Itoa ?_
  repeat' (first
      | ((with_reducible refine step ?_); conv => whnf) | ((with_reducible refine br_dec (fun h => ?_) (fun h => ?_)) <;> try (exfalso; omega)) | ((with_reducible refine br_ndec (fun h => ?_) (fun h => ?_)) <;> try (exfalso; omega)) | (with_reducible refine br_not (fun h => ?_) (fun h => ?_)) | (with_reducible refine And.intro (fun h => ?_) (fun h => ?_))
      | (refine call_pure itoa0_c rfl rfl ?_; conv => whnf)
      | fail)
  all_goals rfl
theorem text31_c : PureCall Tryd.prog F.component_Text [.agg (Comp.enc ⟨3, 1⟩)] (.str [103, 114, 111, 117, 112, 32, 49]) := by
  show PureCall Tryd.prog F.component_Text [.agg [ai 3, ai 1]] _
  refine contractS fits K.component_Text ?_
  repeat' (first
      | ((with_reducible refine step ?_); conv => whnf) | ((with_reducible refine br_dec (fun h => ?_) (fun h => ?_)) <;> try (exfalso; omega)) | ((with_reducible refine br_ndec (fun h => ?_) (fun h => ?_)) <;> try (exfalso; omega)) | (with_reducible refine br_not (fun h => ?_) (fun h => ?_)) | (with_reducible refine And.intro (fun h => ?_) (fun h => ?_))
      | (refine call_pure words_c rfl rfl ?_; conv => whnf)
      | (refine call_pure itoa_c rfl rfl ?_; conv => whnf)
      | (refine ⟨3, rfl, by decide, ?_⟩; conv => whnf)
      | (refine And.intro (by decide) ?_; conv => whnf)
      | fail)
  all_goals rfl
theorem awake10_c : PureCall Tryd.prog F.law10_awake [] (.bool true) := by
  refine contractS fits K.law10_awake ?_
  have a2 := arcsC_c ex10 ⟨2, 1⟩
  have a3 := arcsC_c ex10 ⟨3, 1⟩
  have al := all_c ex10
  rw [show arcsB ex10 ⟨2, 1⟩ = ([0, 1, 2, 3], 0) by decide +kernel] at a2
  rw [show arcsB ex10 ⟨3, 1⟩ = ([0, 1, 4, 5], 0) by decide +kernel] at a3
  have s2 := sameInts_c [0, 1, 2, 3] [0, 1, 2, 3] (by decide)
  have s3 := sameInts_c [0, 1, 4, 5] [0, 1, 4, 5] (by decide)
  have hal : (compsB ex10).length = 7 := by decide +kernel
  have hal2 : ((compsB ex10).map Comp.enc).length = 7 := by rw [List.length_map, hal]
  repeat' (first
      | contradiction
      | (exfalso; revert h; decide)
      | ((with_reducible refine step ?_); conv => whnf) | ((with_reducible refine br_dec (fun h => ?_) (fun h => ?_)) <;> try (exfalso; omega)) | ((with_reducible refine br_ndec (fun h => ?_) (fun h => ?_)) <;> try (exfalso; omega)) | (with_reducible refine br_not (fun h => ?_) (fun h => ?_)) | (with_reducible refine And.intro (fun h => ?_) (fun h => ?_))
      | (refine call_pure ex10_c rfl rfl ?_; conv => whnf)
      | (refine call_pure a2 rfl rfl ?_; conv => whnf)
      | (refine call_pure a3 rfl rfl ?_; conv => whnf)
      | (refine call_pure al rfl rfl ?_; conv => whnf)
      | (refine call_pure s2 rfl rfl ?_; conv => whnf)
      | (refine call_pure s3 rfl rfl ?_; conv => whnf)
      | (refine call_pure text31_c rfl rfl ?_; conv => whnf)
      | fail)
  all_goals first | rfl
end Go.Proofs.YtakkfpiibeokiaaDoor.Vm
/- The statements of the set 10. -/
set_option linter.all false
namespace Go.Proofs.YtakkfpiibeokiaaDoor.Vm
open Go
set_option maxRecDepth 100000
set_option maxHeartbeats 4000000

theorem arcsB_len (t : Topology) (c : Comp) : (arcsB t c).1.length ≤ 2 * t.links.length := by
  unfold arcsB; split
  · exact sel_len ..
  · exact Nat.zero_le _
theorem unionB_len (t : Topology) (cs : List Comp) : (unionB t cs).1.length ≤ 2 * t.links.length := by
  unfold unionB; split
  · simp [maskF]
  · exact Nat.zero_le _
theorem not_large {t : Topology} (h : (decide (200 < t.overload.length) || decide (300 < t.links.length)) = false) : t.links.length ≤ 300 := by
  simp at h; omega

theorem comps_valid {t : Topology} (hv : t.valid = true) {c : Comp} (hc : c ∈ compsB t) : c.valid t = true := by
  have hnn := valid_nodes hv
  rw [compsB, if_pos hv] at hc
  simp only [List.mem_append, nums, grps, List.mem_map, List.mem_range, List.mem_filter] at hc
  rcases hc with (⟨a, ha, rfl⟩ | ⟨a, ha, rfl⟩) | ⟨a, ha, rfl⟩
  · simp [Comp.valid, hv]; omega
  · simp [Comp.valid, hv]; omega
  · simp [Comp.valid, hv]; omega
theorem comps_valid' {t : Topology} {c : Comp} (hc : c ∈ compsB t) : c.valid t = true := by
  by_cases hv : t.valid = true
  · exact comps_valid hv hc
  · rw [compsB, if_neg hv] at hc; simp at hc
theorem within_iff {t : Topology} {c d : Comp} : withinB t c d = true ↔ c.valid t = true ∧ d.valid t = true ∧ ∀ i (hi : i < t.links.length), c.has i t.links[i] = true → d.has i t.links[i] = true := by
  rw [withinB, Bool.and_eq_true, Bool.and_eq_true, List.all_eq_true]
  constructor
  · rintro ⟨⟨h1, h2⟩, h⟩
    refine ⟨h1, h2, fun i hi hc => ?_⟩
    have := h i (List.mem_range.2 hi)
    rw [getD_at hi, hc] at this
    simpa using this
  · rintro ⟨h1, h2, h⟩
    refine ⟨⟨h1, h2⟩, fun i hi => ?_⟩
    have hi := List.mem_range.1 hi
    rw [getD_at hi]
    cases hc : c.has i t.links[i] with
    | false => rfl
    | true => rw [h i hi hc]; rfl
theorem within_trans {t : Topology} {a b c : Comp} (h1 : withinB t a b = true) (h2 : withinB t b c = true) : withinB t a c = true := by
  rw [within_iff] at *
  exact ⟨h1.1, h2.2.1, fun i hi h => h2.2.2 i hi (h1.2.2 i hi h)⟩
theorem within_refl (t : Topology) (a : Comp) : withinB t a a = a.valid t := by
  rw [Bool.eq_iff_iff, within_iff]
  exact ⟨fun h => h.1, fun h => ⟨h, h, fun _ _ q => q⟩⟩
theorem within_link {t : Topology} (hv : t.valid = true) {i : Nat} (hi : i < t.links.length) : withinB t ⟨1, i⟩ ⟨2, t.links[i].a⟩ = true ∧ withinB t ⟨1, i⟩ ⟨2, t.links[i].b⟩ = true ∧ (t.links[i].group ≠ 0 → withinB t ⟨1, i⟩ ⟨3, t.links[i].group⟩ = true) := by
  have hnn := valid_nodes hv
  have hp : t.links[i].proper t.nodes = true := by
    have hv' := hv
    simp only [Topology.valid, Bool.and_eq_true, List.all_eq_true] at hv'
    exact hv'.2 _ (List.getElem_mem hi)
  simp only [Link.proper, Bool.and_eq_true, decide_eq_true_eq] at hp
  rw [wrap_in (by omega)] at hp
  have h1 : Comp.valid t ⟨1, (i : Int)⟩ = true := by simp [Comp.valid, hv]; omega
  refine ⟨within_iff.2 ⟨h1, ?_, fun k hk h => ?_⟩, within_iff.2 ⟨h1, ?_, fun k hk h => ?_⟩, fun hg => within_iff.2 ⟨h1, ?_, fun k hk h => ?_⟩⟩
  · simp [Comp.valid, hv]; omega
  · have : k = i := by have h : (k : Int) = i := (by simpa [Comp.has] using h); omega
    subst this; simp [Comp.has]
  · simp [Comp.valid, hv]; omega
  · have : k = i := by have h : (k : Int) = i := (by simpa [Comp.has] using h); omega
    subst this; simp [Comp.has]
  · simp [Comp.valid, hv]; omega
  · have : k = i := by have h : (k : Int) = i := (by simpa [Comp.has] using h); omega
    subst this; simp [Comp.has]

end Go.Proofs.YtakkfpiibeokiaaDoor.Vm
/- Contracts: topology. -/
set_option linter.all false
namespace Go.Proofs.YtakkfpiibeokiaaDoor.Vm
open Go
set_option maxRecDepth 100000
set_option maxHeartbeats 4000000

theorem large9_c (t : Topology) : PureCall Tryd.prog F.law09_large [.agg t.enc] (.bool (decide (200 < t.overload.length) || decide (300 < t.links.length))) := by
  refine contractS fits K.law09_large ?_
  have hlm : (t.links.map Link.enc).length = t.links.length := List.length_map ..
  have hom : (t.overload.map eBool).length = t.overload.length := List.length_map ..
  repeat' (first
      | ((with_reducible refine step ?_); conv => whnf) | ((with_reducible refine br_dec (fun h => ?_) (fun h => ?_)) <;> try (exfalso; omega)) | ((with_reducible refine br_ndec (fun h => ?_) (fun h => ?_)) <;> try (exfalso; omega)) | (with_reducible refine br_not (fun h => ?_) (fun h => ?_)) | (with_reducible refine And.intro (fun h => ?_) (fun h => ?_))
      | fail)
  all_goals refine congrArg AV.bool ?_
  all_goals grind
theorem overloaded_c (t : Topology) (n : Int) : PureCall Tryd.prog F.topology_Overloaded [.agg t.enc, ai n] (.bool (t.ovl n)) := by
  refine contractS fits K.topology_Overloaded ?_
  have hom : (t.overload.map eBool).length = t.overload.length := List.length_map ..
  repeat' (first
      | ((with_reducible refine step ?_); conv => whnf) | ((with_reducible refine br_dec (fun h => ?_) (fun h => ?_)) <;> try (exfalso; omega)) | ((with_reducible refine br_ndec (fun h => ?_) (fun h => ?_)) <;> try (exfalso; omega)) | (with_reducible refine br_not (fun h => ?_) (fun h => ?_)) | (with_reducible refine And.intro (fun h => ?_) (fun h => ?_))
      | (have hq : n.toNat < t.overload.length := (by omega); refine idx_int (j := n.toNat) (by omega) hq rfl ?_; conv => whnf)
      | (refine call_pure (valid_c t) rfl rfl ?_; conv => whnf)
      | fail)
  all_goals refine congrArg AV.bool ?_
  all_goals unfold Topology.ovl
  all_goals try rw [getD_at hq]
  all_goals grind
def pathL (t : Topology) : Nat → Int → Int → List Int → Int × Int × Int
  | _, n, c, [] => (n, c, 0)
  | i, n, c, a :: l => if t.tail a < 0 then (0, 0, 2) else if t.tail a ≠ n ∨ (0 < i ∧ t.ovl n = true) then (0, 0, 4) else pathL t (i + 1) (t.head a) (IntKind.i64.wrap (c + t.cost a)) l
def pathR (t : Topology) (n : Int) (l : List Int) : Int × Int × Int := if t.valid = false then (0, 0, 1) else if n < 0 ∨ t.nodes ≤ n then (0, 0, 2) else pathL t 0 n 0 l
def pathS (t : Topology) (n : Int) (l : List Int) (i : Nat) : Int × Int := (l.take i).foldl (fun s a => (t.head a, IntKind.i64.wrap (s.2 + t.cost a))) (n, 0)
theorem pathS_succ {t : Topology} {n : Int} {l : List Int} {i : Nat} (h : i < l.length) : pathS t n l (i + 1) = (t.head l[i], IntKind.i64.wrap ((pathS t n l i).2 + t.cost l[i])) := by
  rw [pathS, List.take_succ_eq_append_getElem h, List.foldl_append]; rfl
def ePath (r : Int × Int × Int) : AV := .tuple [ai r.1, ai r.2.1, ai r.2.2]
def pathI (t : Topology) (n : Int) (l : List Int) (i : Nat) : Prop := pathL t 0 n 0 l = pathL t i (pathS t n l i).1 (pathS t n l i).2 (l.drop i)
theorem pathI_next {t : Topology} {n : Int} {l : List Int} {i : Nat} (h : i < l.length) (hp : pathI t n l i) (h1 : ¬ t.tail l[i] < 0) (h2 : t.tail l[i] = (pathS t n l i).1) (h3 : 0 < i → t.ovl (pathS t n l i).1 = false) : pathI t n l (i + 1) := by
  unfold pathI at hp ⊢
  rw [hp, List.drop_eq_getElem_cons h, pathL, if_neg h1, if_neg (fun hq => by
    rcases hq with hq | ⟨q1, q2⟩
    · exact hq h2
    · rw [h3 q1] at q2; exact nomatch q2), pathS_succ h]
theorem pathI_two {t : Topology} {n : Int} {l : List Int} {i : Nat} (h : i < l.length) (hp : pathI t n l i) (h1 : t.tail l[i] < 0) : pathL t 0 n 0 l = (0, 0, 2) := by
  unfold pathI at hp
  rw [hp, List.drop_eq_getElem_cons h, pathL, if_pos h1]
theorem pathI_four {t : Topology} {n : Int} {l : List Int} {i : Nat} (h : i < l.length) (hp : pathI t n l i) (h1 : ¬ t.tail l[i] < 0) (h2 : t.tail l[i] ≠ (pathS t n l i).1 ∨ (0 < i ∧ t.ovl (pathS t n l i).1 = true)) : pathL t 0 n 0 l = (0, 0, 4) := by
  unfold pathI at hp
  rw [hp, List.drop_eq_getElem_cons h, pathL, if_neg h1, if_pos h2]
theorem pathI_end {t : Topology} {n : Int} {l : List Int} {i : Nat} (h : l.length ≤ i) (hp : pathI t n l i) : pathL t 0 n 0 l = ((pathS t n l i).1, (pathS t n l i).2, 0) := by
  unfold pathI at hp
  rw [hp, List.drop_of_length_le h, pathL]
theorem tail_neg {t : Topology} (hv : t.valid = true) {a : Int} : t.tail a < 0 ↔ a < 0 ∨ t.arcs ≤ a := by
  constructor
  · intro h
    by_cases h1 : a < 0
    · exact .inl h1
    · by_cases h2 : t.arcs ≤ a
      · exact .inr h2
      · have := ends_range (t := t) (a := a) (by omega) (by omega); omega
  · intro h
    rw [Topology.tail, if_pos h]; decide

theorem path_c (t : Topology) (n : Int) (l : List Int) (ha : l.length < 4611686018427387904) : PureCall Tryd.prog F.topology_Path [.agg t.enc, ai n, asl (l.map eInt)] (ePath (pathR t n l)) := by
  refine contractS fits K.topology_Path ?_
  have ham : (l.map eInt).length = l.length := List.length_map ..
  repeat' (first
      | ((with_reducible refine step ?_); conv => whnf) | ((with_reducible refine br_dec (fun h => ?_) (fun h => ?_)) <;> try (exfalso; omega)) | ((with_reducible refine br_ndec (fun h => ?_) (fun h => ?_)) <;> try (exfalso; omega)) | (with_reducible refine br_not (fun h => ?_) (fun h => ?_)) | (with_reducible refine And.intro (fun h => ?_) (fun h => ?_))
      | (refine call_pure (valid_c t) rfl rfl ?_; conv => whnf)
      | (refine call_pure (inside_c _ _ _) rfl rfl ?_; conv => whnf)
      | fail)
  · rw [pathR, if_pos (by assumption)]; rfl
  · have hv : t.valid = true := by assumption
    have hnn := valid_nodes hv
    rw [wrap_in (by omega)] at h
    rw [pathR, if_neg (by simp [hv]), if_pos (by simp at h; omega)]; rfl
  have hv : t.valid = true := by assumption
  have hnn := valid_nodes hv
  rw [wrap_in (by omega)] at h
  rw [pathR, if_neg (by simp [hv]), if_neg (by simp at h; omega)]
  clear h
  refine loop_invS (fun i => i ≤ l.length ∧ pathI t n l i) [3, 6, 7, 26, 27, 28] 1 (fun i => [(6, ai (pathS t n l i).1), (7, ai (pathS t n l i).2), (28, ai i)]) (fun _ => []) (fun i => l.length - i) 0 (by decide) (by decide) ?_
  conv => whnf
  refine ⟨rfl, rfl, ⟨by omega, rfl⟩, fun i ⟨hi, hp⟩ => ?_⟩
  repeat' (first
      | ((with_reducible refine step ?_); conv => whnf) | ((with_reducible refine br_dec (fun h => ?_) (fun h => ?_)) <;> try (exfalso; omega)) | ((with_reducible refine br_ndec (fun h => ?_) (fun h => ?_)) <;> try (exfalso; omega)) | (with_reducible refine br_not (fun h => ?_) (fun h => ?_)) | (with_reducible refine And.intro (fun h => ?_) (fun h => ?_))
      | (have hlt : i < l.length := (by omega); refine idx_nat hlt rfl ?_; conv => whnf)
      | (refine call_pure (ends_c t _) rfl rfl ?_; conv => whnf)
      | (refine call_pure (overloaded_c t _) rfl rfl ?_; conv => whnf)
      | fail)
  · rw [pathI_two hlt hp h]; rfl
  · rw [pathI_four hlt hp (by assumption) (.inl h)]; rfl
  · rw [pathI_four hlt hp (by assumption) (.inr ⟨by omega, h⟩)]; rfl
  · exact ⟨i + 1, ⟨by omega, pathI_next hlt hp (by assumption) (by assumption) fun _ => h⟩, by omega, by rw [pathS_succ hlt, wrap_succ (by omega)]; rfl, rfl⟩
  · exact ⟨i + 1, ⟨by omega, pathI_next hlt hp (by assumption) (by assumption) fun h0 => absurd h0 (by omega)⟩, by omega, by rw [pathS_succ hlt, wrap_succ (by omega)]; rfl, rfl⟩
  · rw [pathI_end (by omega) hp]; rfl
theorem sel_two (f : Nat → Bool) (i : Nat) : sel f (2 * (i + 1)) = sel f (2 * i) ++ ((if f (2 * i) = true then [2 * (i : Int)] else []) ++ (if f (2 * i + 1) = true then [2 * (i : Int) + 1] else [])) := by
  have e1 : sel f (2 * i + 1) = sel f (2 * i) ++ (if f (2 * i) = true then [2 * (i : Int)] else []) := by
    cases h : f (2 * i) with
    | true => rw [sel_yes h, if_pos rfl]; simp
    | false => rw [sel_no h]; simp
  have e2 : sel f (2 * i + 1 + 1) = sel f (2 * i + 1) ++ (if f (2 * i + 1) = true then [2 * (i : Int) + 1] else []) := by
    cases h : f (2 * i + 1) with
    | true => rw [sel_yes h, if_pos rfl]; simp
    | false => rw [sel_no h]; simp
  rw [show 2 * (i + 1) = 2 * i + 1 + 1 by omega, e2, e1, List.append_assoc]
theorem ends_at {t : Topology} (hv : t.valid = true) {i : Nat} (hi : i < t.links.length) : t.tail ((2 * i : Nat) : Int) = t.links[i].a ∧ t.tail ((2 * i + 1 : Nat) : Int) = t.links[i].b ∧ t.head ((2 * i : Nat) : Int) = t.links[i].b ∧ t.head ((2 * i + 1 : Nat) : Int) = t.links[i].a := by
  have ha : t.arcs = 2 * t.links.length := by simp [Topology.arcs, hv]
  have h1 : t.at_ ((2 * i : Nat) : Int) = t.links[i] := by
    unfold Topology.at_; rw [show (((2 * i : Nat) : Int) / 2).toNat = i by omega, getD_at hi]
  have h2 : t.at_ ((2 * i + 1 : Nat) : Int) = t.links[i] := by
    unfold Topology.at_; rw [show (((2 * i + 1 : Nat) : Int) / 2).toNat = i by omega, getD_at hi]
  refine ⟨?_, ?_, ?_, ?_⟩
  · rw [Topology.tail, if_neg (by omega), if_pos (by omega), h1]
  · rw [Topology.tail, if_neg (by omega), if_neg (by omega), h2]
  · rw [Topology.head, if_neg (by omega), if_pos (by omega), h1]
  · rw [Topology.head, if_neg (by omega), if_neg (by omega), h2]
def endOf (t : Topology) (out : Bool) (a : Int) : Int := if out then t.tail a else t.head a
theorem arcs_sel {t : Topology} (hv : t.valid = true) (n : Int) (out : Bool) : ∀ i, i ≤ t.links.length → arcsN n out 0 (t.links.take i) = sel (fun a => decide (endOf t out (a : Nat) = n)) (2 * i) := by
  intro i
  induction i with
  | zero => intro _; rfl
  | succ i ih =>
    intro hi
    have hlt : i < t.links.length := by omega
    rw [List.take_succ_eq_append_getElem hlt, arcsN_snoc, ih (by omega), sel_two, List.length_take, Nat.min_eq_left (by omega), Nat.zero_add]
    congr 1
    obtain ⟨q1, q2, q3, q4⟩ := ends_at hv hlt
    have hne := (valid_ne hv (List.getElem_mem hlt)).1
    cases out
    · simp only [endOf, Bool.false_eq_true, if_false, q3, q4, arcOf, decide_eq_true_eq]
      by_cases h1 : t.links[i].a = n
      · have h2 : ¬ t.links[i].b = n := fun e => hne (h1.trans e.symm)
        simp [h1, h2]
      · by_cases h2 : t.links[i].b = n
        · simp [h1, h2]
        · simp [h1, h2]
    · simp only [endOf, if_true, q1, q2, arcOf, decide_eq_true_eq]
      by_cases h1 : t.links[i].a = n
      · have h2 : ¬ t.links[i].b = n := fun e => hne (h1.trans e.symm)
        simp [h1, h2]
      · by_cases h2 : t.links[i].b = n
        · simp [h1, h2]
        · simp [h1, h2]
theorem arcs1_sel (t : Topology) (n : Int) (out : Bool) : t.arcs1 n out = sel (fun a => decide (endOf t out (a : Nat) = n)) t.arcs.toNat := by
  unfold Topology.arcs1 Topology.arcs
  by_cases hv : t.valid = true
  · rw [if_pos hv, if_pos hv, show (2 * (t.links.length : Int)).toNat = 2 * t.links.length by omega, ← arcs_sel hv n out _ (Nat.le_refl _), List.take_length]
  · rw [if_neg hv, if_neg hv]; rfl
theorem arcs_bound (t : Topology) : 0 ≤ t.arcs ∧ t.arcs ≤ 512 := by
  unfold Topology.arcs
  split
  · have := valid_links ‹_›; omega
  · omega
end Go.Proofs.YtakkfpiibeokiaaDoor.Vm
/- The statements of the set 09, but for its self-check. -/
set_option linter.all false
namespace Go.Proofs.YtakkfpiibeokiaaDoor.Vm
open Go
set_option maxRecDepth 100000
set_option maxHeartbeats 4000000
abbrev Awake9 : Prop := PureCall Tryd.prog F.law09_awake [] (.bool true)

theorem arcs1_le (t : Topology) (n : Int) (out : Bool) : (t.arcs1 n out).length < 4611686018427387904 := by
  have := arcs_bound t
  rw [arcs1_sel]
  have := sel_len (fun a => decide (endOf t out (a : Nat) = n)) t.arcs.toNat
  omega
end Go.Proofs.YtakkfpiibeokiaaDoor.Vm
/- Contracts: ends of segments. -/
set_option linter.all false
namespace Go.Proofs.YtakkfpiibeokiaaDoor.Vm
open Go
set_option maxRecDepth 100000
set_option maxHeartbeats 4000000
/-- the end of a segment that begins at a node, and the error -/
def endR (t : Topology) (s : Segment) (n : Int) : Int × Int :=
  if s.valid t = false then (0, 1) else if n < 0 ∨ t.nodes ≤ n then (0, 2) else if s.kind = 1 then (s.num, 0) else if s.kind ≠ 2 then (0, 7) else if t.tail s.num ≠ n then (0, 4) else (t.head s.num, 0)
theorem end_c (t : Topology) (s : Segment) (n : Int) : PureCall Tryd.prog F.segment_End [.agg t.enc, .agg s.enc, ai n] (.tuple [ai (endR t s n).1, ai (endR t s n).2]) := by
  refine contractS fits K.segment_End ?_
  repeat' (first
      | contradiction
      | ((with_reducible refine step ?_); conv => whnf) | ((with_reducible refine br_dec (fun h => ?_) (fun h => ?_)) <;> try (exfalso; omega)) | ((with_reducible refine br_ndec (fun h => ?_) (fun h => ?_)) <;> try (exfalso; omega)) | (with_reducible refine br_not (fun h => ?_) (fun h => ?_)) | (with_reducible refine And.intro (fun h => ?_) (fun h => ?_))
      | (refine call_pure (segValid_c t s) rfl rfl ?_; conv => whnf)
      | (refine call_pure (tail_c t s.num) rfl rfl ?_; conv => whnf)
      | (refine call_pure (head_c t s.num) rfl rfl ?_; conv => whnf)
      | fail)
  all_goals first | (unfold endR; simp [*]; done)
theorem end18_c (t : Topology) (s : Segment) (n : Int) : PureCall Tryd.prog F.ref18_End [.agg t.enc, .agg s.enc, ai n] (.tuple [ai (endR t s n).1, ai (endR t s n).2]) := by
  refine contractS fits K.ref18_End ?_
  repeat' (first
      | contradiction
      | ((with_reducible refine step ?_); conv => whnf) | ((with_reducible refine br_dec (fun h => ?_) (fun h => ?_)) <;> try (exfalso; omega)) | ((with_reducible refine br_ndec (fun h => ?_) (fun h => ?_)) <;> try (exfalso; omega)) | (with_reducible refine br_not (fun h => ?_) (fun h => ?_)) | (with_reducible refine And.intro (fun h => ?_) (fun h => ?_))
      | (refine call_pure (segValid18_c t s) rfl rfl ?_; conv => whnf)
      | (refine call_pure (tail9_c t s.num) rfl rfl ?_; conv => whnf)
      | (refine call_pure (head9_c t s.num) rfl rfl ?_; conv => whnf)
      | fail)
  all_goals first | (unfold endR; simp [*]; done)
def endsL (t : Topology) : Int → List Segment → List Int × Int
  | _, [] => ([], 0)
  | n, s :: l => if (endR t s n).2 ≠ 0 then ([], (endR t s n).2) else if (endsL t (endR t s n).1 l).2 ≠ 0 then ([], (endsL t (endR t s n).1 l).2) else ((endR t s n).1 :: (endsL t (endR t s n).1 l).1, 0)
def endsR (t : Topology) (l : List Segment) (n : Int) : List Int × Int :=
  if t.valid = false then ([], 1) else if n < 0 ∨ t.nodes ≤ n then ([], 2) else endsL t n l
def joinE (out : List Int) (q : List Int × Int) : List Int × Int := if q.2 ≠ 0 then ([], q.2) else (out ++ q.1, 0)
theorem endsL_err {t : Topology} {n : Int} {s : Segment} {l : List Segment} {out : List Int} (h : (endR t s n).2 ≠ 0) : joinE out (endsL t n (s :: l)) = ([], (endR t s n).2) := by
  have : endsL t n (s :: l) = ([], (endR t s n).2) := by rw [endsL, if_pos h]
  rw [this, joinE, if_pos h]
theorem endsL_ok {t : Topology} {n : Int} {s : Segment} {l : List Segment} {out : List Int} (h : (endR t s n).2 = 0) : joinE out (endsL t n (s :: l)) = joinE (out ++ [(endR t s n).1]) (endsL t (endR t s n).1 l) := by
  rw [endsL, if_neg (by simp [h])]
  by_cases h2 : (endsL t (endR t s n).1 l).2 ≠ 0
  · rw [if_pos h2, joinE, if_pos h2, joinE, if_pos h2]
  · rw [if_neg h2, joinE, if_neg (by simp), joinE, if_neg h2]; simp
theorem endsL_start (t : Topology) (n : Int) (l : List Segment) : endsL t n l = joinE [] (endsL t n l) := by
  unfold joinE
  split
  · rename_i h
    cases l with
    | nil => exact absurd rfl h
    | cons s l =>
      rw [endsL] at h ⊢
      split at h
      · rename_i h1; rw [if_pos h1]
      · split at h
        · rename_i h1 h2; rw [if_neg h1, if_pos h2]
        · exact absurd rfl h
  · rename_i h
    cases l with
    | nil => rfl
    | cons s l =>
      rw [endsL] at h ⊢
      split at h
      · rename_i h1; exact absurd h1 h
      · split at h
        · rename_i h1 h2; exact absurd h2 h
        · rename_i h1 h2; rw [if_neg h1, if_neg h2]; rfl
theorem sends_c (t : Topology) (l : List Segment) (n : Int) (hl : l.length ≤ 1000) : PureCall Tryd.prog F.segment_Ends [.agg t.enc, asl (l.map Segment.enc), ai n] (.tuple [asl ((endsR t l n).1.map eInt), ai (endsR t l n).2]) := by
  refine contractS fits K.segment_Ends ?_
  have hlm : (l.map Segment.enc).length = l.length := List.length_map ..
  repeat' (first
      | contradiction
      | ((with_reducible refine step ?_); conv => whnf) | ((with_reducible refine br_dec (fun h => ?_) (fun h => ?_)) <;> try (exfalso; omega)) | ((with_reducible refine br_ndec (fun h => ?_) (fun h => ?_)) <;> try (exfalso; omega)) | (with_reducible refine br_not (fun h => ?_) (fun h => ?_)) | (with_reducible refine And.intro (fun h => ?_) (fun h => ?_))
      | (refine call_pure (valid_c t) rfl rfl ?_; conv => whnf)
      | fail)
  · rw [endsR, if_pos (by simp_all)]; rfl
  · rw [endsR, if_neg (by simp_all), if_pos (by omega)]; rfl
  · rw [endsR, if_neg (by simp_all), if_pos (by omega)]; rfl
  have hv : t.valid = true := by simp_all
  rw [endsR, if_neg (by simp_all), if_neg (by omega)]
  refine loop_promoteD (k := 8) (esz := 1) rfl (by decide) ?_
  refine loop_invS (ι := Nat × List Int × Int) (fun x => x.1 ≤ l.length ∧ x.2.1.length = x.1 ∧ endsL t n l = joinE x.2.1 (endsL t x.2.2 (l.drop x.1))) [2, 3, 8, 26, 27, 28] 2 (fun x => [(28, ai x.1), (2, ai x.2.2)]) (fun x => [(1, .arr 0 1 none (x.2.1.map eInt) false)]) (fun x => l.length - x.1) (0, [], n) (by decide) (by decide) ?_
  conv => whnf
  refine ⟨rfl, rfl, ⟨Nat.zero_le _, rfl, endsL_start t n l⟩, fun ⟨i, out, c⟩ ⟨hi, hlen, he⟩ => ?_⟩
  dsimp only at hi hlen he ⊢
  have hle : (out.map eInt).length = i := by rw [List.length_map, hlen]
  repeat' (first
      | contradiction
      | ((with_reducible refine step ?_); conv => whnf) | ((with_reducible refine br_dec (fun h => ?_) (fun h => ?_)) <;> try (exfalso; omega)) | ((with_reducible refine br_ndec (fun h => ?_) (fun h => ?_)) <;> try (exfalso; omega)) | (with_reducible refine br_not (fun h => ?_) (fun h => ?_)) | (with_reducible refine And.intro (fun h => ?_) (fun h => ?_))
      | (have hlt : i < l.length := (by omega); refine idx_nat hlt rfl ?_; conv => whnf)
      | (refine call_pure (end_c t l[i] c) rfl rfl ?_; conv => whnf)
      | (refine And.intro ⟨trivial, rfl, by simp [elemsOk, AV.oneC], by simp [big]; omega⟩ ?_; conv => whnf)
      | fail)
  · rw [he, List.drop_eq_getElem_cons hlt, endsL_err h]; rfl
  · refine ⟨(i + 1, out ++ [(endR t l[i] c).1], (endR t l[i] c).1), ⟨hlt, by simp [hlen], ?_⟩, by omega, by rw [wrap_succ (by omega)]; rfl, by rw [List.map_append]; rfl⟩
    rw [he, List.drop_eq_getElem_cons hlt, endsL_ok h]
  · rw [he, List.drop_of_length_le (by omega)]
    simp [joinE, endsL]
theorem sends18_c (t : Topology) (l : List Segment) (n : Int) (hl : l.length ≤ 1000) : PureCall Tryd.prog F.ref18_Ends [.agg t.enc, asl (l.map Segment.enc), ai n] (.tuple [asl ((endsR t l n).1.map eInt), ai (endsR t l n).2]) := by
  refine contractS fits K.ref18_Ends ?_
  have hlm : (l.map Segment.enc).length = l.length := List.length_map ..
  repeat' (first
      | contradiction
      | ((with_reducible refine step ?_); conv => whnf) | ((with_reducible refine br_dec (fun h => ?_) (fun h => ?_)) <;> try (exfalso; omega)) | ((with_reducible refine br_ndec (fun h => ?_) (fun h => ?_)) <;> try (exfalso; omega)) | (with_reducible refine br_not (fun h => ?_) (fun h => ?_)) | (with_reducible refine And.intro (fun h => ?_) (fun h => ?_))
      | (refine call_pure (valid9_c t) rfl rfl ?_; conv => whnf)
      | fail)
  · rw [endsR, if_pos (by simp_all)]; rfl
  · rw [endsR, if_neg (by simp_all), if_pos (by omega)]; rfl
  · rw [endsR, if_neg (by simp_all), if_pos (by omega)]; rfl
  have hv : t.valid = true := by simp_all
  rw [endsR, if_neg (by simp_all), if_neg (by omega)]
  refine loop_promoteD (k := 8) (esz := 1) rfl (by decide) ?_
  refine loop_invS (ι := Nat × List Int × Int) (fun x => x.1 ≤ l.length ∧ x.2.1.length = x.1 ∧ endsL t n l = joinE x.2.1 (endsL t x.2.2 (l.drop x.1))) [1, 2, 3, 8, 9] 2 (fun x => [(9, ai x.1), (2, ai x.2.2)]) (fun x => [(1, .arr 0 1 none (x.2.1.map eInt) false)]) (fun x => l.length - x.1) (0, [], n) (by decide) (by decide) ?_
  conv => whnf
  refine ⟨rfl, rfl, ⟨Nat.zero_le _, rfl, endsL_start t n l⟩, fun ⟨i, out, c⟩ ⟨hi, hlen, he⟩ => ?_⟩
  dsimp only at hi hlen he ⊢
  have hle : (out.map eInt).length = i := by rw [List.length_map, hlen]
  repeat' (first
      | contradiction
      | ((with_reducible refine step ?_); conv => whnf) | ((with_reducible refine br_dec (fun h => ?_) (fun h => ?_)) <;> try (exfalso; omega)) | ((with_reducible refine br_ndec (fun h => ?_) (fun h => ?_)) <;> try (exfalso; omega)) | (with_reducible refine br_not (fun h => ?_) (fun h => ?_)) | (with_reducible refine And.intro (fun h => ?_) (fun h => ?_))
      | (have hlt : i < l.length := (by omega); refine idx_nat hlt rfl ?_; conv => whnf)
      | (refine call_pure (end18_c t l[i] c) rfl rfl ?_; conv => whnf)
      | (refine And.intro ⟨trivial, rfl, by simp [elemsOk, AV.oneC], by simp [big]; omega⟩ ?_; conv => whnf)
      | fail)
  · rw [he, List.drop_eq_getElem_cons hlt, endsL_err h]; rfl
  · refine ⟨(i + 1, out ++ [(endR t l[i] c).1], (endR t l[i] c).1), ⟨hlt, by simp [hlen], ?_⟩, by omega, by rw [wrap_succ (by omega)]; rfl, by rw [List.map_append]; rfl⟩
    rw [he, List.drop_eq_getElem_cons hlt, endsL_ok h]
  · rw [he, List.drop_of_length_le (by omega)]
    simp [joinE, endsL]
end Go.Proofs.YtakkfpiibeokiaaDoor.Vm
/- Contracts: the program's expansion. -/
set_option linter.all false
namespace Go.Proofs.YtakkfpiibeokiaaDoor.Vm
open Go
set_option maxRecDepth 100000

def eSegs (l : List Segment) : AV := asl (l.map Segment.enc)
def polL (ps : List Policy) : List ((Int × Int) × List Segment) := ps.map fun p => (p.key, p.list)
def opnL (opn : List (Int × Int)) : List ((Int × Int) × Bool) := opn.map fun k => (k, true)
/-- the objects of an expansion: the receiver, the policies, those that are open, what was kept -/
def xS (t : Topology) (ps : List Policy) (opn : List (Int × Int)) (s : Exp) : List VObj :=
  [.box [ai t.nodes, asl (t.overload.map eBool), asl (t.links.map Link.enc), .map 1, .map 2, ai s.at_, .sall 3 0] false, .map 0 0 (eMap eSegs (polL ps)), .map 0 0 (eMap eB (opnL opn)), .arr 0 2 none (s.out.map Segment.enc) false]
def keepP (s : Exp) (x : Segment) : Exp × Int := if s.out.length = 32 then (s, 6) else (⟨s.out ++ [x], s.at_⟩, 0)
theorem keepP_len {s : Exp} {x : Segment} (h : s.out.length ≤ 32) : (keepP s x).1.out.length ≤ 32 := by
  unfold keepP; split
  · exact h
  · simp; omega

def oneP (t : Topology) (ps : List Policy) (opn : List (Int × Int)) (s : Exp) (x : Segment) (deep : List Segment → Exp × Int) : Exp × Int :=
  if x.kind = 1 then keepP ⟨s.out, x.num⟩ x
  else if x.kind = 3 then keepP ⟨s.out, -1⟩ x
  else if s.at_ < 0 then (s, 7)
  else if x.kind = 2 then (if t.tail x.num ≠ s.at_ then (s, 4) else keepP ⟨s.out, t.head x.num⟩ x)
  else match (polL ps).lookup (s.at_, x.num) with
    | none => (s, 8)
    | some l => if (s.at_, x.num) ∈ opn then (s, 16) else deep l
theorem opnL_none {opn : List (Int × Int)} {k : Int × Int} : (opnL opn).lookup k = none ↔ k ∉ opn := by
  rw [lookup_none]; simp [opnL, Function.comp_def]
theorem opnL_val {opn : List (Int × Int)} {k : Int × Int} {b : Bool} (h : (opnL opn).lookup k = some b) : b = true ∧ k ∈ opn := by
  induction opn with
  | nil => simp [opnL] at h
  | cons p ps ih =>
    simp only [opnL, List.map_cons, List.lookup_cons] at h
    by_cases hk : k = p
    · subst hk; simp at h; simp [h]
    · have : (k == p) = false := by simp [hk]
      rw [this] at h
      obtain ⟨h1, h2⟩ := ih h
      exact ⟨h1, by simp [h2]⟩
theorem opn_put {opn : List (Int × Int)} {a b : Int} (h : (opnL opn).lookup (a, b) = none) : putM ks2 (.agg [ai a, ai b]) (.bool true) (eMap eB (opnL opn)) = eMap eB (opnL (opn ++ [(a, b)])) := by
  have := putM2 (a, b) eB true _ h
  rw [show opnL (opn ++ [(a, b)]) = opnL opn ++ [((a, b), true)] by unfold opnL; rw [List.map_append]; rfl]
  exact this
theorem opn_del {opn : List (Int × Int)} {a b : Int} (h : (opnL opn).lookup (a, b) = none) : delM ks2 (.agg [ai a, ai b]) (eMap eB (opnL (opn ++ [(a, b)]))) = eMap eB (opnL opn) := by
  have := delM2 (a, b) eB true _ h
  rw [show opnL (opn ++ [(a, b)]) = opnL opn ++ [((a, b), true)] by unfold opnL; rw [List.map_append]; rfl]
  exact this

def segP (t : Topology) (ps : List Policy) : Nat → List (Int × Int) → Exp → Segment → Exp × Int
  | 0, opn, s, x => oneP t ps opn s x fun _ => (s, 16)
  | n + 1, opn, s, x => oneP t ps opn s x fun l => runL (segP t ps n (opn ++ [(s.at_, x.num)])) s l
theorem oneP_len {t : Topology} {ps : List Policy} {opn : List (Int × Int)} {s : Exp} {x : Segment} {deep : List Segment → Exp × Int} (h : s.out.length ≤ 32) (hd : ∀ i, (deep i).1.out.length ≤ 32) : (oneP t ps opn s x deep).1.out.length ≤ 32 := by
  unfold oneP
  repeat' split
  all_goals first | exact h | exact keepP_len h | exact hd _
theorem segP_len (t : Topology) (ps : List Policy) : ∀ (n : Nat) (opn : List (Int × Int)) (s : Exp) (x : Segment), s.out.length ≤ 32 → (segP t ps n opn s x).1.out.length ≤ 32 := by
  intro n
  induction n with
  | zero => intro opn s x h; exact oneP_len h fun _ => h
  | succ n ih => intro opn s x h; exact oneP_len h fun i => runL_len (fun s x h => ih _ s x h) _ _ h

/-- what the recursion needs: as many policies as are not open -/
structure KeyOk (ps : List Policy) (opn : List (Int × Int)) (n : Nat) : Prop where
  nodup : opn.Nodup
  sub : ∀ k ∈ opn, k ∈ ps.map Policy.key
  fuel : ps.length ≤ opn.length + n
theorem KeyOk.succ {ps : List Policy} {opn : List (Int × Int)} {n : Nat} {k : Int × Int} (h : KeyOk ps opn (n + 1)) (hk : k ∈ ps.map Policy.key) (hn : k ∉ opn) : KeyOk ps (opn ++ [k]) n :=
  ⟨by rw [List.nodup_append]; exact ⟨h.nodup, by simp, fun a ha b hb => by simp at hb; subst hb; exact fun e => hn (e ▸ ha)⟩, fun j hj => by
    rcases List.mem_append.1 hj with hj | hj
    · exact h.sub j hj
    · simp at hj; subst hj; exact hk, by have := h.fuel; simp; omega⟩
theorem KeyOk.zero {ps : List Policy} {opn : List (Int × Int)} {k : Int × Int} (h : KeyOk ps opn 0) (hk : k ∈ ps.map Policy.key) (hn : k ∉ opn) : False := by
  have h1 := h.fuel
  have : (opn ++ [k]).length ≤ (ps.map Policy.key).length := List.Nodup.length_le_of_subset (by rw [List.nodup_append]; exact ⟨h.nodup, by simp, fun a ha b hb => by simp at hb; subst hb; exact fun e => hn (e ▸ ha)⟩) fun j hj => by
    rcases List.mem_append.1 hj with hj | hj
    · exact h.sub j hj
    · simp at hj; subst hj; exact hk
  simp at this; omega
theorem polL_mem {ps : List Policy} {k : Int × Int} {l : List Segment} (h : (polL ps).lookup k = some l) : k ∈ ps.map Policy.key ∧ ∃ p ∈ ps, p.list = l := by
  induction ps with
  | nil => simp [polL] at h
  | cons p ps ih =>
    simp only [polL, List.map_cons, List.lookup_cons] at h
    by_cases hk : k = p.key
    · subst hk; simp at h; exact ⟨by simp, p, by simp, h⟩
    · have : (k == p.key) = false := by simp [hk]
      rw [this] at h
      obtain ⟨h1, q, h2, h3⟩ := ih h
      exact ⟨by simp [h1], q, by simp [h2], h3⟩

/-- the program's expansion of a list -/
def expandP (t : Topology) (ps : List Policy) (node : Int) (l : List Segment) : List Segment × Int :=
  if polsValid t ps = false ∨ l.all (·.valid t) = false then ([], 1)
  else if node < 0 ∨ t.nodes ≤ node then ([], 2)
  else if (runL (segP t ps ps.length []) ⟨[], node⟩ l).2 ≠ 0 then ([], (runL (segP t ps ps.length []) ⟨[], node⟩ l).2) else ((runL (segP t ps ps.length []) ⟨[], node⟩ l).1.out, 0)
theorem pol_put {ps : List Policy} {i : Nat} (hi : i < ps.length) (hn : (ps.map Policy.key).Nodup) : putM ks2 (.agg [ai ps[i].node, ai ps[i].binding]) (asl (ps[i].list.map Segment.enc)) (eMap eSegs (polL (ps.take i))) = eMap eSegs (polL (ps.take (i + 1))) := by
  have hk : (polL (ps.take i)).lookup ps[i].key = none := by
    rw [lookup_none]
    intro hm
    rw [show (polL (ps.take i)).map (·.1) = (ps.take i).map Policy.key by simp [polL, Function.comp_def]] at hm
    exact dup_all hi hm hn
  have := putM2 ps[i].key eSegs ps[i].list _ hk
  rw [List.take_succ_eq_append_getElem hi, show polL (ps.take i ++ [ps[i]]) = polL (ps.take i) ++ [(ps[i].key, ps[i].list)] by unfold polL; rw [List.map_append]; rfl]
  exact this

end Go.Proofs.YtakkfpiibeokiaaDoor.Vm
/- Contracts: numbers and texts of the references. -/
set_option linter.all false
namespace Go.Proofs.YtakkfpiibeokiaaDoor.Vm
open Go
set_option maxRecDepth 100000

def dig (n : Nat) : UInt8 := UInt8.ofNat (48 + n % 10)
def digF : Nat → Nat → List UInt8
  | 0, _ => []
  | k + 1, n => if n < 10 then [dig n] else digF k (n / 10) ++ [dig (n % 10)]
def digits (n : Nat) : List UInt8 := digF 20 n
theorem digF_len : ∀ (k n : Nat), (digF k n).length ≤ k := by
  intro k
  induction k with
  | zero => intro n; exact Nat.le_refl _
  | succ k ih =>
    intro n
    unfold digF
    split
    · simp
    · have := ih (n / 10); simp; omega
theorem u8_dig {n : Int} (h0 : 0 ≤ n) (h : n < 10) : UInt8.ofNat (IntKind.u8.wrap (IntKind.u64.wrap (48 + n))).toNat = dig n.toNat := by
  have e : IntKind.u8.wrap (IntKind.u64.wrap (48 + n)) = 48 + n := by
    obtain ⟨m, rfl⟩ := Int.eq_ofNat_of_zero_le h0
    have : m < 10 := by omega
    rcases m with _ | _ | _ | _ | _ | _ | _ | _ | _ | _ | m <;> first | rfl | omega
  rw [e]; unfold dig; congr 1; omega
theorem wrap_u64 {n : Int} (h0 : 0 ≤ n) (h : n < 18446744073709551616) : IntKind.u64.wrap n = n := by
  show (n % 18446744073709551616 : Int) = n
  omega

theorem digits_c : ∀ (k : Nat) (n : Int), k ≤ 20 → 0 ≤ n → n < 18446744073709551616 → n < (10 : Int) ^ k → 1 ≤ k → PureCall Tryd.prog F.ref09_digits [.int .u64 n] (.str (digF k n.toNat)) := by
  intro k
  induction k with
  | zero => intro n _ _ _ _ h; omega
  | succ k ih =>
    intro n hk h0 h1 h2 _
    refine contractS fits K.ref09_digits ?_
    have hrec : ¬ n < 10 → PureCall Tryd.prog F.ref09_digits [.int .u64 (IntKind.u64.wrap (n.tdiv 10))] (.str (digF k (n / 10).toNat)) := fun h10 => by
      rw [Int.tdiv_eq_ediv_of_nonneg h0, wrap_u64 (by omega) (by omega)]
      have hk1 : 1 ≤ k := by
        rcases Nat.eq_zero_or_pos k with rfl | h
        · simp at h2; omega
        · exact h
      exact ih (n / 10) (by omega) (by omega) (by omega) (by rw [Int.pow_succ] at h2; omega) hk1
    repeat' (first
      | (exfalso; revert h; decide)
      | ((with_reducible refine step ?_); conv => whnf)
      | (with_reducible refine And.intro (fun h => ?_) (fun h => ?_))
      | (with_reducible refine And.intro (show (_ : Int) ≠ 0 by decide) ?_; conv => whnf)
      | (refine call_pure (hrec (by simpa using h)) rfl rfl ?_; conv => whnf)
      | (refine And.intro (by have := digF_len k (n / 10).toNat; show _ + 1 ≤ _; omega) ?_; conv => whnf)
      | fail)
    all_goals simp only [decide_eq_true_eq, decide_eq_false_iff_not] at h
    · rw [u8_dig h0 h, digF, if_pos (by omega)]
    · rw [Int.tmod_eq_emod_of_nonneg h0, u8_dig (by omega) (by omega), digF, if_neg (by omega), show (n / 10).toNat = n.toNat / 10 by omega, show (n % 10).toNat = n.toNat % 10 by omega]

def number (n : Int) : List UInt8 := if n < 0 then 45 :: digits (-n).toNat else digits n.toNat
theorem number_len (n : Int) : (number n).length ≤ 21 := by
  unfold number digits
  split
  · have := digF_len 20 (-n).toNat; simp; omega
  · have := digF_len 20 n.toNat; omega
theorem number_c (n : Int) (h : i64 n) : PureCall Tryd.prog F.ref09_Number [ai n] (.str (number n)) := by
  unfold i64 at h
  refine contractS fits K.ref09_Number ?_
  have hneg : n < 0 → PureCall Tryd.prog F.ref09_digits [.int .u64 (IntKind.u64.wrap (IntKind.u64.wrap (IntKind.i64.wrap (0 - IntKind.i64.wrap (n + 1))) + 1))] (.str (digits (-n).toNat)) := fun h0 => by
    rw [wrap_in (n := n + 1) (by omega), wrap_in (by omega), wrap_u64 (n := 0 - (n + 1)) (by omega) (by omega), wrap_u64 (by omega) (by omega)]
    have := digits_c 20 (0 - (n + 1) + 1) (by omega) (by omega) (by omega) (by omega) (by omega)
    rwa [show (0 - (n + 1) + 1).toNat = (-n).toNat by omega] at this
  have hpos : ¬ n < 0 → PureCall Tryd.prog F.ref09_digits [.int .u64 (IntKind.u64.wrap n)] (.str (digits n.toNat)) := fun h0 => by
    rw [wrap_u64 (by omega) (by omega)]
    exact digits_c 20 n (by omega) (by omega) (by omega) (by omega) (by omega)
  repeat' (first
      | ((with_reducible refine step ?_); conv => whnf)
      | (with_reducible refine And.intro (fun h => ?_) (fun h => ?_))
      | (refine call_pure (hneg (by simpa using h)) rfl rfl ?_; conv => whnf)
      | (refine call_pure (hpos (by simpa using h)) rfl rfl ?_; conv => whnf)
      | (refine And.intro (by have := digF_len 20 (-n).toNat; show 1 + (digF 20 (-n).toNat).length ≤ _; omega) ?_; conv => whnf)
      | fail)
  all_goals simp only [decide_eq_true_eq, decide_eq_false_iff_not] at *
  · rw [number, if_pos (by assumption)]; rfl
  · rw [number, if_neg (by assumption)]

/-- the number that a text is read as -/
def valueF (l : List UInt8) : Int := (l.take 9).foldl (fun v c => 10 * v + (c.toNat : Int) - 48) 0
def bnd (i : Nat) : Int := 30 * ((10 : Int) ^ i - 1)
theorem value_bnd (l : List UInt8) : - bnd l.length ≤ l.foldl (fun v (c : UInt8) => 10 * v + (c.toNat : Int) - 48) 0 ∧ l.foldl (fun v (c : UInt8) => 10 * v + (c.toNat : Int) - 48) 0 ≤ bnd l.length := by
  rw [← List.reverse_reverse l]
  generalize l.reverse = r
  induction r with
  | nil => decide
  | cons c r ih =>
    rw [List.reverse_cons, List.foldl_append, List.length_append]
    simp only [List.foldl_cons, List.foldl_nil, List.length_cons, List.length_nil]
    generalize (r.reverse.foldl (fun v (c : UInt8) => 10 * v + (c.toNat : Int) - 48) 0) = v at ih ⊢
    generalize r.reverse.length = n at ih ⊢
    unfold bnd at ih ⊢
    have hc : (c.toNat : Int) < 256 := by have := c.toNat_lt; omega
    rw [show n + (0 + 1) = n + 1 by omega, Int.pow_succ]
    generalize (10 : Int) ^ n = p at ih ⊢
    omega
theorem bnd9 {i : Nat} (h : i ≤ 9) : bnd i ≤ 29999999970 := by
  unfold bnd
  have : i = 0 ∨ i = 1 ∨ i = 2 ∨ i = 3 ∨ i = 4 ∨ i = 5 ∨ i = 6 ∨ i = 7 ∨ i = 8 ∨ i = 9 := by omega
  rcases this with rfl | rfl | rfl | rfl | rfl | rfl | rfl | rfl | rfl | rfl <;> decide
theorem foldl_take_succ (l : List UInt8) (i : Nat) (hi : i < l.length) : (l.take (i + 1)).foldl (fun v (c : UInt8) => 10 * v + (c.toNat : Int) - 48) 0 = 10 * (l.take i).foldl (fun v (c : UInt8) => 10 * v + (c.toNat : Int) - 48) 0 + (l[i].toNat : Int) - 48 := by
  rw [List.take_succ_eq_append_getElem hi, List.foldl_append]; rfl
theorem u8_i64 (c : UInt8) : IntKind.i64.wrap (c.toNat : Int) = c.toNat := wrap_in (by have := c.toNat_lt; omega)

theorem value_c (l : List UInt8) (hl : l.length < 4611686018427387904) : PureCall Tryd.prog F.ref09_Value [.str l] (ai (valueF l)) := by
  refine contractS fits K.ref09_Value ?_
  repeat' (first
      | ((with_reducible refine step ?_); conv => whnf)
      | fail)
  refine loop_invS (fun i => i ≤ l.length ∧ i ≤ 9) [0, 3, 4] 0 (fun i => [(3, ai ((l.take i).foldl (fun v (c : UInt8) => 10 * v + (c.toNat : Int) - 48) 0)), (4, ai i)]) (fun _ => []) (fun i => 9 - i) 0 (by decide) (by decide) ?_
  conv => whnf
  refine ⟨rfl, rfl, by omega, fun i ⟨hi, h9⟩ => ?_⟩
  repeat' (first
      | ((with_reducible refine step ?_); conv => whnf)
      | (with_reducible refine And.intro (fun h => ?_) (fun h => ?_))
      | (refine And.intro (Int.natCast_nonneg i) (Exists.intro l[i] (And.intro (by simp) ?_)); conv => whnf)
      | (have hlt : i < l.length := (by simp_all); refine And.intro (Int.natCast_nonneg i) (Exists.intro l[i] (And.intro (by simp) ?_)); conv => whnf)
      | fail)
  all_goals simp only [decide_eq_true_eq, decide_eq_false_iff_not] at *
  · refine ⟨i + 1, by omega, by omega, ?_, rfl⟩
    have b1 := value_bnd (l.take i)
    have b2 := bnd9 (i := (l.take i).length) (by rw [List.length_take]; omega)
    have hc : (l[i].toNat : Int) < 256 := by have := l[i].toNat_lt; omega
    rw [foldl_take_succ l i hlt]
    generalize (l.take i).foldl (fun v (c : UInt8) => 10 * v + (c.toNat : Int) - 48) 0 = v at b1 ⊢
    generalize bnd (l.take i).length = bb at b1 b2
    rw [u8_i64, wrap_in (n := 10 * v) (by omega), wrap_in (n := 10 * v + _) (by omega), wrap_in (by omega), wrap_succ (by omega)]
    rfl
  · have : i = 9 := by omega
    subst this; rfl
  · rw [valueF, show l.take i = l.take 9 by rw [List.take_of_length_le (by omega), List.take_of_length_le (by omega)]]

def eStr (l : List UInt8) : List AV := [.str l]
/-- the parts of a text that end with a byte, and what follows the last one -/
def splitF (e : UInt8) : List UInt8 → List UInt8 → List (List UInt8) × List UInt8
  | [], cur => ([], cur)
  | c :: l, cur => if c = e then (cur :: (splitF e l []).1, (splitF e l []).2) else splitF e l (cur ++ [c])
theorem splitF_snoc (e c : UInt8) : ∀ (l cur : List UInt8), splitF e (l ++ [c]) cur = if c = e then ((splitF e l cur).1 ++ [(splitF e l cur).2], []) else ((splitF e l cur).1, (splitF e l cur).2 ++ [c]) := by
  intro l
  induction l with
  | nil =>
    intro cur
    show (if c = e then ([cur], []) else ([], cur ++ [c])) = _
    split <;> rfl
  | cons x l ih =>
    intro cur
    show (if x = e then (cur :: (splitF e (l ++ [c]) []).1, (splitF e (l ++ [c]) []).2) else splitF e (l ++ [c]) (cur ++ [x])) = _
    by_cases hx : x = e
    · rw [if_pos hx, ih]
      have : splitF e (x :: l) cur = (cur :: (splitF e l []).1, (splitF e l []).2) := by show (if x = e then _ else _) = _; rw [if_pos hx]
      rw [this]
      by_cases hc : c = e
      · rw [if_pos hc, if_pos hc]; rfl
      · rw [if_neg hc, if_neg hc]
    · rw [if_neg hx, ih]
      have : splitF e (x :: l) cur = splitF e l (cur ++ [x]) := by show (if x = e then _ else _) = _; rw [if_neg hx]
      rw [this]
theorem splitF_cur (e : UInt8) (l : List UInt8) : (splitF e l []).2.length ≤ l.length ∧ l.drop (l.length - (splitF e l []).2.length) = (splitF e l []).2 ∧ (splitF e l []).1.length ≤ l.length := by
  rw [← List.reverse_reverse l]
  generalize l.reverse = r
  induction r with
  | nil => exact ⟨Nat.le_refl _, rfl, Nat.le_refl _⟩
  | cons c r ih =>
    rw [List.reverse_cons, splitF_snoc]
    obtain ⟨h1, h2, h3⟩ := ih
    have hrr : r.reverse.length = r.length := List.length_reverse
    split
    · refine ⟨by simp, by simp, by simp; omega⟩
    · refine ⟨by simp; omega, ?_, by simp; omega⟩
      simp only [List.length_append, List.length_cons, List.length_nil]
      rw [show r.reverse.length + (0 + 1) - ((splitF e r.reverse []).2.length + (0 + 1)) = r.reverse.length - (splitF e r.reverse []).2.length by omega, List.drop_append_of_le_length (by omega), h2]

def split9 (l : List UInt8) (e : UInt8) : List (List UInt8) × Bool := ((splitF e l []).1, decide ((splitF e l []).2 = []))
theorem split9_c (l : List UInt8) (e : UInt8) (hl : l.length < 1099511627776) : PureCall Tryd.prog F.ref09_Split [.str l, .int .u8 e.toNat] (.tuple [asl ((split9 l e).1.map eStr), .bool (split9 l e).2]) := by
  refine contractS fits K.ref09_Split ?_
  repeat' (first
      | ((with_reducible refine step ?_); conv => whnf)
      | fail)
  refine loop_promoteD (k := 6) (esz := 1) rfl (by decide) ?_
  refine loop_invS (fun i => i ≤ l.length) [0, 1, 6, 7, 8] 1 (fun i => [(7, ai ((i - (splitF e (l.take i) []).2.length : Nat) : Int)), (8, ai i)]) (fun i => [(0, .arr 0 1 none ((splitF e (l.take i) []).1.map eStr) false)]) (fun i => l.length - i) 0 (by decide) (by decide) ?_
  conv => whnf
  refine ⟨rfl, rfl, by omega, fun i hi => ?_⟩
  have hcur := splitF_cur e (l.take i)
  have hti : (l.take i).length = i := by rw [List.length_take]; omega
  rw [hti] at hcur
  repeat' (first
      | ((with_reducible refine step ?_); conv => whnf)
      | (with_reducible refine And.intro (fun h => ?_) (fun h => ?_))
      | (have hlt : i < l.length := (by simp_all); refine And.intro (Int.natCast_nonneg i) (Exists.intro l[i] (And.intro (by simp) ?_)); conv => whnf)
      | (refine And.intro ⟨Int.natCast_nonneg _, Int.ofNat_le.2 (Nat.sub_le _ _), Int.ofNat_le.2 hi⟩ ?_; conv => whnf)
      | (refine And.intro ?_ ?_; (focus (simp [elemsOk, AV.oneC, big]; (try omega); done)); conv => whnf)
      | fail)
  all_goals try simp only [decide_eq_true_eq, decide_eq_false_iff_not] at *
  · have hce : l[i] = e := UInt8.toNat_inj.1 (by omega)
    have hs : splitF e (l.take (i + 1)) [] = ((splitF e (l.take i) []).1 ++ [(splitF e (l.take i) []).2], []) := by rw [List.take_succ_eq_append_getElem hlt, splitF_snoc, if_pos hce]
    refine ⟨i + 1, by omega, by omega, ?_, ?_⟩
    · rw [hs, wrap_succ (by omega)]; rfl
    · rw [hs, List.map_append, Int.toNat_natCast, Int.toNat_natCast, hcur.2.1]; rfl
  · have hce : ¬ l[i] = e := fun he => h (by rw [he])
    have hs : splitF e (l.take (i + 1)) [] = ((splitF e (l.take i) []).1, (splitF e (l.take i) []).2 ++ [l[i]]) := by rw [List.take_succ_eq_append_getElem hlt, splitF_snoc, if_neg hce]
    refine ⟨i + 1, by omega, by omega, ?_, ?_⟩
    · rw [hs, wrap_succ (by omega), show i + 1 - ((splitF e (l.take i) []).2 ++ [l[i]]).length = i - (splitF e (l.take i) []).2.length by simp]; rfl
    · rw [hs]; rfl
  · have hil : i = l.length := by omega
    subst hil
    rw [List.take_length] at hcur ⊢
    have : decide (((l.length - (splitF e l []).2.length : Nat) : Int) = (l.length : Int)) = decide ((splitF e l []).2 = []) := by
      rw [decide_eq_decide]
      constructor
      · intro h; exact List.eq_nil_of_length_eq_zero (by omega)
      · intro h; rw [h]; simp
    rw [this]; rfl

/-- a segment's text -/
def letter (k : Int) : UInt8 := if k = 1 then 110 else if k = 2 then 97 else if k = 3 then 103 else 98
def segText (s : Segment) : List UInt8 := if 1 ≤ s.kind ∧ s.kind ≤ 4 ∧ 0 ≤ s.num ∧ s.num ≤ 999999999 then letter s.kind :: number s.num else []
theorem segText_len (s : Segment) : (segText s).length ≤ 22 := by
  unfold segText
  split
  · have := number_len s.num; simp; omega
  · simp
theorem segText_c (s : Segment) : PureCall Tryd.prog F.ref18_Text [.agg s.enc] (.str (segText s)) := by
  have hno : (s.kind < 1 ∨ 4 < s.kind ∨ s.num < 0 ∨ 999999999 < s.num) → segText s = [] := fun h => by rw [segText, if_neg (by omega)]
  by_cases hk : s.kind = 1 ∨ s.kind = 2 ∨ s.kind = 3 ∨ s.kind = 4
  · obtain ⟨kind, n⟩ := s
    dsimp only at hk hno
    rcases hk with rfl | rfl | rfl | rfl
    all_goals
      refine contractS fits K.ref18_Text ?_
      repeat' (first
        | (exfalso; revert h; decide)
        | ((with_reducible refine step ?_); conv => whnf)
        | (with_reducible refine And.intro (fun h => ?_) (fun h => ?_))
        | (refine call_pure (number_c n (by simp at *; unfold i64; omega)) rfl rfl ?_; conv => whnf)
        | (refine Exists.intro _ (And.intro rfl (And.intro (by decide) ?_)); conv => whnf)
        | (refine And.intro (by have := number_len n; show 1 + (number n).length ≤ _; omega) ?_; conv => whnf)
        | fail)
      all_goals simp only [decide_eq_true_eq, decide_eq_false_iff_not] at *
      all_goals first
        | (rw [hno (by omega)]; done)
        | (rw [segText, if_pos (by simp; omega)]; rfl)
  · refine contractS fits K.ref18_Text ?_
    repeat' (first
        | (exfalso; revert h; decide)
        | ((with_reducible refine step ?_); conv => whnf)
        | (with_reducible refine And.intro (fun h => ?_) (fun h => ?_))
        | fail)
    all_goals simp only [decide_eq_true_eq, decide_eq_false_iff_not] at *
    all_goals first
        | (rw [hno (by omega)]; done)
        | (exfalso; omega)
/-- the segment with a text -/
def segParse (l : List UInt8) : Segment × Int :=
  if l.length ≤ 1 then (⟨0, 0⟩, 3)
  else if segText ⟨1, valueF (l.drop 1)⟩ = l then (⟨1, valueF (l.drop 1)⟩, 0)
  else if segText ⟨2, valueF (l.drop 1)⟩ = l then (⟨2, valueF (l.drop 1)⟩, 0)
  else if segText ⟨3, valueF (l.drop 1)⟩ = l then (⟨3, valueF (l.drop 1)⟩, 0)
  else if segText ⟨4, valueF (l.drop 1)⟩ = l then (⟨4, valueF (l.drop 1)⟩, 0)
  else (⟨0, 0⟩, 3)
theorem segParse_c (l : List UInt8) (hl : l.length < 1099511627776) : PureCall Tryd.prog F.ref18_Parse [.str l] (.tuple [.agg (segParse l).1.enc, ai (segParse l).2]) := by
  refine contractS fits K.ref18_Parse ?_
  have hv := value_c (l.drop 1) (by simp; omega)
  repeat' (first
      | (exfalso; revert h; decide)
      | ((with_reducible refine step ?_); conv => whnf)
      | (with_reducible refine And.intro (fun h => ?_) (fun h => ?_))
      | (refine loop_fuelD 6 ?_; conv => whnf)
      | (refine call_pure hv rfl rfl ?_; conv => whnf)
      | (refine call_pure (segText_c ⟨1, valueF (l.drop 1)⟩) rfl rfl ?_; conv => whnf)
      | (refine call_pure (segText_c ⟨2, valueF (l.drop 1)⟩) rfl rfl ?_; conv => whnf)
      | (refine call_pure (segText_c ⟨3, valueF (l.drop 1)⟩) rfl rfl ?_; conv => whnf)
      | (refine call_pure (segText_c ⟨4, valueF (l.drop 1)⟩) rfl rfl ?_; conv => whnf)
      | (refine And.intro ⟨by decide, by simp at *; omega⟩ ?_; conv => whnf)
      | fail)
  all_goals try simp only [decide_eq_true_eq, decide_eq_false_iff_not] at *
  · rw [segParse, if_neg (by omega), if_pos (by assumption)]; rfl
  · rw [segParse, if_neg (by omega), if_neg (by assumption), if_pos (by assumption)]; rfl
  · rw [segParse, if_neg (by omega), if_neg (by assumption), if_neg (by assumption), if_pos (by assumption)]; rfl
  · rw [segParse, if_neg (by omega), if_neg (by assumption), if_neg (by assumption), if_neg (by assumption), if_pos (by assumption)]; rfl
  · rw [segParse, if_neg (by omega), if_neg (by assumption), if_neg (by assumption), if_neg (by assumption), if_neg (by assumption)]; rfl
  all_goals (rw [segParse, if_pos (by omega)]; rfl)
end Go.Proofs.YtakkfpiibeokiaaDoor.Vm
/- Contracts: lists of segments and their texts; what a query may be. -/
set_option linter.all false
namespace Go.Proofs.YtakkfpiibeokiaaDoor.Vm
open Go
set_option maxRecDepth 100000

/-- words with spaces between them -/
def joinSp : List (List UInt8) → List UInt8
  | [] => []
  | x :: l => match l with
    | [] => x
    | _ => x ++ 32 :: joinSp l
theorem joinSp_snoc (x : List UInt8) : ∀ l : List (List UInt8), joinSp (l ++ [x]) = if l = [] then x else joinSp l ++ [32] ++ x := by
  intro l
  induction l with
  | nil => rfl
  | cons y l ih =>
    cases l with
    | nil => simp [joinSp]
    | cons z l =>
      rw [if_neg (by simp)] at ih ⊢
      show y ++ 32 :: joinSp (z :: l ++ [x]) = y ++ 32 :: joinSp (z :: l) ++ [32] ++ x
      rw [ih]; simp
theorem joinSp_len (n : Nat) : ∀ l : List (List UInt8), (∀ x ∈ l, x.length ≤ n) → (joinSp l).length ≤ (n + 1) * l.length := by
  intro l
  induction l with
  | nil => intro _; exact Nat.le_refl _
  | cons y l ih =>
    intro h
    have h1 := h y (by simp)
    have h2 := ih fun x hx => h x (List.mem_cons_of_mem _ hx)
    cases l with
    | nil => simp [joinSp]; omega
    | cons z l =>
      show (y ++ 32 :: joinSp (z :: l)).length ≤ _
      rw [List.length_append, List.length_cons, List.length_cons (a := y), Nat.mul_succ]
      omega
def textList (l : List Segment) : List UInt8 := if l.all fun s => decide (segText s ≠ []) then joinSp (l.map segText) else []
theorem joinSp_step {l : List Segment} {i : Nat} (hi : i < l.length) : joinSp ((l.take (i + 1)).map segText) = if i = 0 then segText l[i] else joinSp ((l.take i).map segText) ++ [32] ++ segText l[i] := by
  rw [List.take_succ_eq_append_getElem hi, List.map_append]
  show joinSp (_ ++ [segText l[i]]) = _
  rw [joinSp_snoc]
  by_cases h0 : i = 0
  · subst h0; rfl
  · rw [if_neg h0, if_neg]
    rw [List.map_eq_nil_iff, List.take_eq_nil_iff]
    rintro (h | h)
    · exact h0 h
    · rw [h] at hi; exact nomatch hi
theorem joinSp_take {l : List Segment} (i : Nat) : (joinSp ((l.take i).map segText)).length ≤ 23 * l.length := by
  refine Nat.le_trans (joinSp_len 22 _ ?_) ?_
  · simp only [List.mem_map]
    rintro x ⟨s, _, rfl⟩
    exact segText_len s
  · simp only [List.length_map, List.length_take]; omega

theorem textList_c (l : List Segment) (hl : l.length < 1099511627776) : PureCall Tryd.prog F.ref18_TextList [asl (l.map Segment.enc)] (.str (textList l)) := by
  refine contractS fits K.ref18_TextList ?_
  repeat' (first
      | ((with_reducible refine step ?_); conv => whnf)
      | fail)
  refine loop_invS (fun i => i ≤ l.length ∧ ∀ s ∈ l.take i, decide (segText s ≠ []) = true) [0, 3, 4] 0 (fun i => [(3, .str (joinSp ((l.take i).map segText))), (4, ai i)]) (fun _ => []) (fun i => l.length - i) 0 (by decide) (by decide) ?_
  conv => whnf
  refine ⟨rfl, rfl, by simp, fun i ⟨hi, hp⟩ => ?_⟩
  have hlen := joinSp_take (l := l) i
  repeat' (first
      | ((with_reducible refine step ?_); conv => whnf)
      | (with_reducible refine And.intro (fun h => ?_) (fun h => ?_))
      | (have hlt : i < l.length := (by first | assumption | simp_all); refine idx_nat hlt rfl ?_; conv => whnf)
      | (refine call_pure (segText_c _) rfl rfl ?_; conv => whnf)
      | (refine And.intro (by have h1 := segText_len l[i]; have h2 : [(32 : UInt8)].length = 1 := rfl; (try simp only [List.length_append]); omega) ?_; conv => whnf)
      | fail)
  all_goals try simp only [List.length_map, decide_eq_true_eq, decide_eq_false_iff_not] at *
  · rw [textList, if_neg]
    rw [List.all_eq_true]; intro hh
    have := hh l[i] (List.getElem_mem hlt)
    simp at this; exact this h
  · refine ⟨i + 1, ⟨by omega, fun s hs => ?_⟩, by omega, by rw [wrap_succ (by omega), joinSp_step hlt, if_neg (by omega)]; rfl, rfl⟩
    rw [List.take_succ_eq_append_getElem hlt, List.mem_append] at hs
    rcases hs with hs | hs
    · exact hp s hs
    · simp at hs; subst hs; assumption
  · have h0 : i = 0 := by omega
    subst h0
    refine ⟨0 + 1, ⟨by omega, fun s hs => ?_⟩, by omega, by rw [wrap_succ (by omega), joinSp_step hlt, if_pos rfl]; rfl, rfl⟩
    rw [List.take_succ_eq_append_getElem hlt, List.mem_append] at hs
    rcases hs with hs | hs
    · exact hp s hs
    · simp at hs; subst hs; assumption
  · obtain rfl : i = l.length := by omega
    rw [List.take_length] at hp ⊢
    rw [textList, if_pos]
    rw [List.all_eq_true]; intro s hs; simpa using hp s hs

/-- the list with a text -/
def parseL : List (List UInt8) → List Segment × Int
  | [] => ([], 0)
  | w :: l => if (segParse w).2 ≠ 0 then ([], (segParse w).2) else if (parseL l).2 ≠ 0 then ([], (parseL l).2) else ((segParse w).1 :: (parseL l).1, 0)
theorem parseL_ok : ∀ ws : List (List UInt8), (∀ w ∈ ws, (segParse w).2 = 0) → parseL ws = (ws.map fun w => (segParse w).1, 0) := by
  intro ws
  induction ws with
  | nil => intro _; rfl
  | cons w ws ih =>
    intro h
    rw [parseL, if_neg (by rw [h w (by simp)]; simp), ih fun x hx => h x (List.mem_cons_of_mem _ hx)]
    rfl
theorem parseL_no (w : List UInt8) (post : List (List UInt8)) (hw : (segParse w).2 ≠ 0) : ∀ ws : List (List UInt8), (∀ w ∈ ws, (segParse w).2 = 0) → parseL (ws ++ w :: post) = ([], (segParse w).2) := by
  intro ws
  induction ws with
  | nil => intro _; rw [List.nil_append, parseL, if_pos hw]
  | cons v ws ih =>
    intro h
    rw [List.cons_append, parseL, if_neg (by rw [h v (by simp)]; simp), ih fun x hx => h x (List.mem_cons_of_mem _ hx), if_pos hw]
def textParse (l : List UInt8) : List Segment × Int := if l = [] then ([], 0) else parseL (split9 (l ++ [32]) 32).1
theorem splitF_in (e : UInt8) : ∀ (l cur : List UInt8) (w : List UInt8), w ∈ (splitF e l cur).1 → w.length ≤ cur.length + l.length := by
  intro l
  induction l with
  | nil => intro cur w h; exact nomatch h
  | cons c l ih =>
    intro cur w h
    unfold splitF at h
    split at h
    · rcases List.mem_cons.1 h with rfl | h
      · simp
      · have := ih _ _ h; simp at this ⊢; omega
    · have := ih _ _ h; simp at this ⊢; omega
theorem textParse_c (l : List UInt8) (hl : l.length < 1073741824) : PureCall Tryd.prog F.ref18_ParseList [.str l] (.tuple [asl ((textParse l).1.map Segment.enc), ai (textParse l).2]) := by
  refine contractS fits K.ref18_ParseList ?_
  have hw : ∀ w ∈ (split9 (l ++ [32]) 32).1, w.length < 1099511627776 := fun w hw => by
    have := splitF_in _ _ _ _ hw
    simp at this; omega
  have hn := (splitF_cur 32 (l ++ [32])).2.2
  rw [List.length_append, List.length_singleton] at hn
  have hdef : l ≠ [] → textParse l = parseL (split9 (l ++ [32]) 32).1 := fun h => by rw [textParse, if_neg h]
  have hnn : (split9 (l ++ [32]) 32).1.length ≤ l.length + 1 := hn
  have hs9 := split9_c (l ++ [32]) 32 (by simp; omega)
  generalize split9 (l ++ [32]) 32 = ws at hw hnn hdef hs9
  obtain ⟨ws, wb⟩ := ws
  dsimp only at hw hnn hdef hs9
  repeat' (first
      | ((with_reducible refine step ?_); conv => whnf)
      | (with_reducible refine And.intro (fun h => ?_) (fun h => ?_))
      | (refine call_pure hs9 rfl rfl ?_; conv => whnf)
      | (refine And.intro (by simp [big]; omega) ?_; conv => whnf)
      | fail)
  · rw [textParse, if_pos (by simpa using h)]; rfl
  rw [hdef (by simpa using h)]
  refine loop_promoteD (k := 6) (esz := 2) rfl (by decide) ?_
  refine loop_invS (fun i => i ≤ ws.length ∧ ∀ w ∈ ws.take i, (segParse w).2 = 0) [4, 6, 7] 1 (fun i => [(7, ai i)]) (fun i => [(0, .arr 0 2 none ((ws.take i).map fun w => (segParse w).1.enc) false)]) (fun i => ws.length - i) 0 (by decide) (by decide) ?_
  conv => whnf
  refine ⟨rfl, rfl, by simp, fun i ⟨hi, hp⟩ => ?_⟩
  repeat' (first
      | ((with_reducible refine step ?_); conv => whnf)
      | (with_reducible refine And.intro (fun h => ?_) (fun h => ?_))
      | (have hlt : i < ws.length := (by first | assumption | simp_all); refine idx_nat hlt rfl ?_; conv => whnf)
      | (refine call_pure (segParse_c ws[i] (hw _ (List.getElem_mem hlt))) rfl rfl ?_; conv => whnf)
      | (refine And.intro ?_ ?_; (focus (simp [elemsOk, AV.oneC, big]; (try omega); done)); conv => whnf)
      | fail)
  all_goals try simp only [List.length_map, decide_eq_true_eq, decide_eq_false_iff_not, Bool.not_eq_true', Bool.not_eq_false'] at *
  · have hd : ws = ws.take i ++ ws[i] :: ws.drop (i + 1) := by rw [List.getElem_cons_drop_succ_eq_drop, List.take_append_drop]
    have he : parseL ws = ([], (segParse ws[i]).2) := by
      rw [congrArg parseL hd]; exact parseL_no _ _ h _ hp
    rw [he]; rfl
  · refine ⟨i + 1, ⟨by omega, fun s hs => ?_⟩, by omega, by rw [wrap_succ (by omega)]; rfl, by rw [List.take_succ_eq_append_getElem hlt, List.map_append]; rfl⟩
    rw [List.take_succ_eq_append_getElem hlt, List.mem_append] at hs
    rcases hs with hs | hs
    · exact hp s hs
    · simp at hs; subst hs; exact h
  · obtain rfl : i = ws.length := by omega
    rw [List.take_length] at hp ⊢
    rw [parseL_ok _ hp, List.map_map]; rfl

def lineT : Topology := ⟨4, [], [⟨0, 1, 1, 1, 0, 1, 0⟩, ⟨1, 2, 1, 1, 0, 1, 0⟩, ⟨2, 3, 1, 1, 0, 1, 0⟩]⟩
end Go.Proofs.YtakkfpiibeokiaaDoor.Vm
/- Contracts: texts of segments; lists of strings. -/
set_option linter.all false
namespace Go.Proofs.YtakkfpiibeokiaaDoor.Vm
open Go Go.RowKit
set_option maxRecDepth 100000
set_option maxHeartbeats 4000000
theorem vals1 {vals : Array Value} (h : 1 = vals.size) : ∃ a, vals = #[a] := by
  refine ⟨vals[0], ?_⟩
  ext i hi hi'
  · simp; omega
  · have : i = 0 := by omega
    subst this; rfl
theorem vals2 {vals : Array Value} (h : 2 = vals.size) : ∃ a b, vals = #[a, b] := by
  refine ⟨vals[0], vals[1], ?_⟩
  ext i hi hi'
  · simp; omega
  · have : i = 0 ∨ i = 1 := by omega
    rcases this with rfl | rfl <;> rfl
/-- a list of strings, in memory -/
theorem strs_of {g : Gh} {w : World} {ws : List (List UInt8)} {v : Value} (h : Rel g w (asl (ws.map eStr)) v) (hs : ∀ b x, g.stab b x → b < w.heap.size) :
    (ws = [] ∧ ∃ a c, v = .slice a 0 c) ∨ ∃ b o cap, v = .slice (some ⟨b, o, none⟩) ws.length cap ∧ ws.length ≤ cap ∧ b < w.heap.size ∧ ∀ (j : Nat) x, ws[j]? = some x → w.cell? ⟨b, o + j, none⟩ = some (.string ⟨x.toArray⟩) := by
  rcases inv_sl h with ⟨h0, a, h1, h2, rfl⟩ | ⟨b, o, cap, vs, h0, h1, h2, h3, h4, h5, rfl⟩
  · exact .inl ⟨by simpa using h0, a, 0, rfl⟩
  · by_cases hw : ws = []
    · subst hw; exact .inl ⟨rfl, _, cap, rfl⟩
    · refine .inr ⟨b, o, cap, by rw [List.length_map], by simpa using h1, ?_, fun j x hj => ?_⟩
      · obtain ⟨x, r, rfl⟩ := List.exists_cons_of_ne_nil hw
        exact hs b _ (h5 0 [.str x] 0 rfl (Nat.zero_lt_one))
      · have hc : (ws.map eStr)[j]? = some [.str x] := by rw [List.getElem?_map, hj]; rfl
        obtain ⟨q1, q2⟩ := h4 j [.str x] 0 (.str x) hc rfl
        have := rel_str q2
        simp only [List.length_cons, List.length_nil, Nat.zero_add, Nat.mul_one, Nat.add_zero] at q1
        rw [q1, this]
theorem bytes_list (x : List UInt8) : (ByteArray.mk x.toArray).data.toList = x := by simp
theorem join_c (ws : List (List UInt8)) (sep : List UInt8) (hl : ws.length ≤ 140737488355328) (hj : (Lib.join ws sep).length ≤ 140737488355328) : PureCall Tryd.prog F.strings_Join [asl (ws.map eStr), .str sep] (.str (Lib.join ws sep)) := by
  refine pure_of_calls (known_of K.strings_Join) fun st w vals hlt htab hl2 hrel => ?_
  obtain ⟨a, b, rfl⟩ := vals2 hl2
  have hb := rel_str (hrel 1 _ b rfl rfl)
  subst hb
  rcases strs_of (hrel 0 _ a rfl rfl) hlt with ⟨rfl, p, c, rfl⟩ | ⟨bk, o, cap, rfl, h1, h2, h3⟩
  · refine (Tryd.strings_Join_none p c ⟨sep.toArray⟩ w).mono fun e w' ⟨he, hw⟩ => ?_
    subst hw
    exact ⟨_, he, Below.refl _ _, .str _⟩
  · have hm : (ws.map fun l => ByteArray.mk l.toArray).map (·.data.toList) = ws := by
      rw [List.map_map]; exact (List.map_congr_left fun x _ => bytes_list x).trans (List.map_id ws)
    have := Tryd.strings_Join bk o cap (ws.map fun l => ⟨l.toArray⟩) ⟨sep.toArray⟩ w (fun j x hx => by
      rw [List.getElem?_map] at hx
      cases hj : ws[j]? with
      | none => rw [hj] at hx; exact nomatch hx
      | some y => rw [hj] at hx; cases hx; exact h3 j y hj) h2 (by simpa using hl) (by simpa using h1) (by rw [hm, bytes_list]; exact hj)
    rw [hm, bytes_list, List.length_map] at this
    exact this.mono fun e w' ⟨he, hb⟩ => ⟨_, he, hb, .str _⟩
end Go.Proofs.YtakkfpiibeokiaaDoor.Vm
/- Contracts: texts of segments (the program's). -/
set_option linter.all false
namespace Go.Proofs.YtakkfpiibeokiaaDoor.Vm
open Go
set_option maxRecDepth 100000
set_option maxHeartbeats 4000000
theorem decDigits_digF : ∀ (k u : Nat), u < 10 ^ (k + 1) → Lib.decDigits u = digF (k + 1) u := by
  intro k
  induction k with
  | zero =>
    intro u h
    have h : u < 10 := by simpa using h
    rw [Lib.decDigits, dif_pos h, digF, if_pos h, dig, Nat.mod_eq_of_lt h]
  | succ k ih =>
    intro u h
    rw [Lib.decDigits]
    split
    · rename_i h'; rw [digF, if_pos h', dig, Nat.mod_eq_of_lt h']
    · rename_i h'
      rw [digF, if_neg h', ih (u / 10) (by rw [Nat.div_lt_iff_lt_mul (by decide)]; rw [Nat.pow_succ] at h; exact h), dig, Nat.mod_mod]
theorem num_number {n : Int} (h : i64 n) : num n = number n := by
  unfold i64 at h
  unfold num Lib.itoa number digits
  split
  · rw [show n.natAbs = (-n).toNat by omega, decDigits_digF 19 _ (by omega)]
  · rw [decDigits_digF 19 _ (by omega)]
theorem itoaN_c (n : Int) (h0 : 0 ≤ n) (h1 : n ≤ 999999999) : PureCall Tryd.prog F.strconv_Itoa [ai n] (.str (number n)) := by
  rw [← num_number (by unfold i64; omega)]
  exact numC n h0 (by omega)
theorem segTextP_c (s : Segment) : PureCall Tryd.prog F.segment_Text [.agg s.enc] (.str (segText s)) := by
  have hno : (s.kind < 1 ∨ 4 < s.kind ∨ s.num < 0 ∨ 999999999 < s.num) → segText s = [] := fun h => by rw [segText, if_neg (by omega)]
  by_cases hk : s.kind = 1 ∨ s.kind = 2 ∨ s.kind = 3 ∨ s.kind = 4
  · obtain ⟨kind, n⟩ := s
    dsimp only at hk hno
    rcases hk with rfl | rfl | rfl | rfl
    · show PureCall Tryd.prog F.segment_Text [.agg [ai 1, ai n]] _
      refine contractS fits K.segment_Text ?_
      repeat' (first
        | (exfalso; revert h; decide)
        | ((with_reducible refine step ?_); conv => whnf)
        | (with_reducible refine And.intro (fun h => ?_) (fun h => ?_))
        | (refine call_pure (itoaN_c n (by simp at *; omega) (by simp at *; omega)) rfl rfl ?_; conv => whnf)
        | (refine And.intro (by refine ⟨?_, ?_, ?_⟩ <;> decide +kernel) ?_; conv => whnf)
        | (refine And.intro (by have := number_len n; show 1 + (number n).length ≤ _; omega) ?_; conv => whnf)
        | fail)
      all_goals simp only [decide_eq_true_eq, decide_eq_false_iff_not] at *
      all_goals first
        | (rw [hno (by omega)]; done)
        | (rw [segText, if_pos (by simp; omega)]; rfl)
    · show PureCall Tryd.prog F.segment_Text [.agg [ai 2, ai n]] _
      refine contractS fits K.segment_Text ?_
      repeat' (first
        | (exfalso; revert h; decide)
        | ((with_reducible refine step ?_); conv => whnf)
        | (with_reducible refine And.intro (fun h => ?_) (fun h => ?_))
        | (refine call_pure (itoaN_c n (by simp at *; omega) (by simp at *; omega)) rfl rfl ?_; conv => whnf)
        | (refine And.intro (by refine ⟨?_, ?_, ?_⟩ <;> decide +kernel) ?_; conv => whnf)
        | (refine And.intro (by have := number_len n; show 1 + (number n).length ≤ _; omega) ?_; conv => whnf)
        | fail)
      all_goals simp only [decide_eq_true_eq, decide_eq_false_iff_not] at *
      all_goals first
        | (rw [hno (by omega)]; done)
        | (rw [segText, if_pos (by simp; omega)]; rfl)
    · show PureCall Tryd.prog F.segment_Text [.agg [ai 3, ai n]] _
      refine contractS fits K.segment_Text ?_
      repeat' (first
        | (exfalso; revert h; decide)
        | ((with_reducible refine step ?_); conv => whnf)
        | (with_reducible refine And.intro (fun h => ?_) (fun h => ?_))
        | (refine call_pure (itoaN_c n (by simp at *; omega) (by simp at *; omega)) rfl rfl ?_; conv => whnf)
        | (refine And.intro (by refine ⟨?_, ?_, ?_⟩ <;> decide +kernel) ?_; conv => whnf)
        | (refine And.intro (by have := number_len n; show 1 + (number n).length ≤ _; omega) ?_; conv => whnf)
        | fail)
      all_goals simp only [decide_eq_true_eq, decide_eq_false_iff_not] at *
      all_goals first
        | (rw [hno (by omega)]; done)
        | (rw [segText, if_pos (by simp; omega)]; rfl)
    · show PureCall Tryd.prog F.segment_Text [.agg [ai 4, ai n]] _
      refine contractS fits K.segment_Text ?_
      repeat' (first
        | (exfalso; revert h; decide)
        | ((with_reducible refine step ?_); conv => whnf)
        | (with_reducible refine And.intro (fun h => ?_) (fun h => ?_))
        | (refine call_pure (itoaN_c n (by simp at *; omega) (by simp at *; omega)) rfl rfl ?_; conv => whnf)
        | (refine And.intro (by refine ⟨?_, ?_, ?_⟩ <;> decide +kernel) ?_; conv => whnf)
        | (refine And.intro (by have := number_len n; show 1 + (number n).length ≤ _; omega) ?_; conv => whnf)
        | fail)
      all_goals simp only [decide_eq_true_eq, decide_eq_false_iff_not] at *
      all_goals first
        | (rw [hno (by omega)]; done)
        | (rw [segText, if_pos (by simp; omega)]; rfl)
  · refine contractS fits K.segment_Text ?_
    repeat' (first
        | (exfalso; revert h; decide)
        | ((with_reducible refine step ?_); conv => whnf)
        | (with_reducible refine And.intro (fun h => ?_) (fun h => ?_))
        | fail)
    all_goals simp only [decide_eq_true_eq, decide_eq_false_iff_not] at *
    all_goals first
        | (rw [hno (by omega)]; done)
        | (exfalso; omega)
def idxStr (l : List (List UInt8)) (x : List UInt8) : Int := match l.findIdx? fun y => decide (x = y) with
  | some i => i
  | none => -1
theorem indexS_c (l : List (List UInt8)) (x : List UInt8) (hl : l.length < 4611686018427387904) : PureCall Tryd.prog F.slices_Index_string [asl (l.map eStr), .str x] (ai (idxStr l x)) := by
  refine contractS fits K.slices_Index_string ?_
  repeat' (first
    | ((with_reducible refine step ?_); conv => whnf)
    | (with_reducible refine And.intro (fun h => ?_) (fun h => ?_)))
  refine loop_invS (fun i => i ≤ l.length ∧ ∀ p ∈ l.take i, (decide (x = p)) = false) [0, 1, 7, 8] 0 (fun i => [(8, ai i)]) (fun _ => []) (fun i => l.length - i) 0 (by decide) (by decide) ?_
  conv => whnf
  refine ⟨rfl, rfl, by simp, fun i ⟨hi, hp⟩ => ?_⟩
  repeat' (first
        | ((with_reducible refine step ?_); conv => whnf)
        | (with_reducible refine And.intro (fun h => ?_) (fun h => ?_))
        | (have hlt : i < l.length := (by simp_all); refine idx_nat hlt rfl ?_; conv => whnf))
  · rw [idxStr, findIdx_some hlt hp h]
  · exact ⟨i + 1, ⟨hlt, none_take_succ hlt hp h⟩, by omega, by rw [wrap_succ (by omega)]; rfl, rfl⟩
  · rw [idxStr, findIdx_none (by simp at h; omega) hp]
theorem idxStr_any (l : List (List UInt8)) (x : List UInt8) : decide (0 ≤ idxStr l x) = l.any fun y => decide (x = y) := by
  unfold idxStr
  cases hi : l.findIdx? fun y => decide (x = y) with
  | none =>
    rw [List.findIdx?_eq_none_iff] at hi
    symm; rw [show decide (0 ≤ (-1 : Int)) = false from rfl, List.any_eq_false]
    intro y hy
    simpa using hi y hy
  | some i =>
    rw [List.findIdx?_eq_some_iff_getElem] at hi
    obtain ⟨hil, h, _⟩ := hi
    show decide (0 ≤ (i : Int)) = _
    rw [show decide (0 ≤ (i : Int)) = true by simp]
    symm; rw [List.any_eq_true]
    exact ⟨l[i], List.getElem_mem hil, h⟩
theorem containsS_c (l : List (List UInt8)) (x : List UInt8) (hl : l.length < 4611686018427387904) : PureCall Tryd.prog F.slices_Contains_string [asl (l.map eStr), .str x] (.bool (l.any fun y => decide (x = y))) := by
  refine contractS fits K.slices_Contains_string ?_
  repeat' (first
    | ((with_reducible refine step ?_); conv => whnf) | ((with_reducible refine br_dec (fun h => ?_) (fun h => ?_)) <;> try (exfalso; omega)) | ((with_reducible refine br_ndec (fun h => ?_) (fun h => ?_)) <;> try (exfalso; omega)) | (with_reducible refine br_not (fun h => ?_) (fun h => ?_)) | (with_reducible refine And.intro (fun h => ?_) (fun h => ?_))
    | (refine call_pure (indexS_c l x hl) rfl rfl ?_; conv => whnf)
    | fail)
  all_goals (refine congrArg AV.bool ?_; rw [← idxStr_any])
theorem join_sp : ∀ l : List (List UInt8), Lib.join l [32] = joinSp l := by
  intro l
  induction l with
  | nil => rfl
  | cons x l ih =>
    cases l with
    | nil => simp [Lib.join, joinSp]
    | cons y l =>
      show _ = x ++ 32 :: joinSp (y :: l)
      rw [← ih]
      simp [Lib.join, List.intercalate, List.intersperse]
theorem textListP_c (l : List Segment) (hl : l.length ≤ 100000) : PureCall Tryd.prog F.segment_TextList [asl (l.map Segment.enc)] (.str (textList l)) := by
  refine contractS fits K.segment_TextList ?_
  have hlm : (l.map Segment.enc).length = l.length := List.length_map ..
  have hct := containsS_c (l.map segText) [] (by simp; omega)
  have hjn := join_c (l.map segText) [32] (by simp; omega) (by rw [join_sp]; have := joinSp_take (l := l) l.length; rw [List.take_length] at this; omega)
  rw [join_sp] at hjn
  repeat' (first
      | contradiction
      | ((with_reducible refine step ?_); conv => whnf) | ((with_reducible refine br_dec (fun h => ?_) (fun h => ?_)) <;> try (exfalso; omega)) | ((with_reducible refine br_ndec (fun h => ?_) (fun h => ?_)) <;> try (exfalso; omega)) | (with_reducible refine br_not (fun h => ?_) (fun h => ?_)) | (with_reducible refine And.intro (fun h => ?_) (fun h => ?_))
      | fail)
  refine loop_promoteD (k := 3) (esz := 1) rfl (by decide) ?_
  refine loop_invS (fun i => i ≤ l.length) [3, 6, 7, 8] 1 (fun i => [(8, ai i)]) (fun i => [(0, .arr 0 1 none (((l.take i).map segText).map eStr) false)]) (fun i => l.length - i) 0 (by decide) (by decide) ?_
  conv => whnf
  refine ⟨rfl, rfl, Nat.zero_le _, fun i hi => ?_⟩
  have hle : (((l.take i).map segText).map eStr).length = i := by simp; omega
  repeat' (first
      | contradiction
      | ((with_reducible refine step ?_); conv => whnf) | ((with_reducible refine br_dec (fun h => ?_) (fun h => ?_)) <;> try (exfalso; omega)) | ((with_reducible refine br_ndec (fun h => ?_) (fun h => ?_)) <;> try (exfalso; omega)) | (with_reducible refine br_not (fun h => ?_) (fun h => ?_)) | (with_reducible refine And.intro (fun h => ?_) (fun h => ?_))
      | (have hlt : i < l.length := (by omega); refine idx_nat hlt rfl ?_; conv => whnf)
      | (refine call_pure (segTextP_c l[i]) rfl rfl ?_; conv => whnf)
      | (refine And.intro ⟨trivial, rfl, by simp [elemsOk, AV.oneC], by simp [big]; omega⟩ ?_; conv => whnf)
      | (have hie : i = l.length := (by omega); subst hie; rw [List.take_length]; refine call_pure hct rfl rfl ?_; conv => whnf)
      | (refine call_pure hct rfl rfl ?_; conv => whnf)
      | (refine call_pure hjn rfl rfl ?_; conv => whnf)
      | fail)
  · refine ⟨i + 1, hlt, by omega, by rw [wrap_succ (by omega)]; rfl, ?_⟩
    rw [List.take_succ_eq_append_getElem hlt, List.map_append, List.map_append]; rfl
  · rw [textList, if_neg]
    simp only [List.any_map, List.any_eq_true, List.all_eq_true, decide_eq_true_eq, Function.comp_apply] at h ⊢
    obtain ⟨x, hx, h2⟩ := h
    exact fun q => q x hx h2.symm
  · rw [textList, if_pos]
    simp only [List.any_map, List.any_eq_false, List.all_eq_true, decide_eq_true_eq, Function.comp_apply] at h ⊢
    exact fun x hx e => h x hx e.symm
end Go.Proofs.YtakkfpiibeokiaaDoor.Vm
/- The self-check of the set 18; SegmentValid, SegmentEnds. -/
set_option linter.all false
namespace Go.Proofs.YtakkfpiibeokiaaDoor.Vm
open Go
set_option maxRecDepth 100000
set_option maxHeartbeats 4000000
theorem large18_c (t : Topology) : PureCall Tryd.prog F.law18_large [.agg t.enc] (.bool (decide (200 < t.overload.length) || decide (300 < t.links.length))) := by
  refine contractS fits K.law18_large ?_
  have hlm : (t.links.map Link.enc).length = t.links.length := List.length_map ..
  have hom : (t.overload.map eBool).length = t.overload.length := List.length_map ..
  repeat' (first
      | ((with_reducible refine step ?_); conv => whnf) | ((with_reducible refine br_dec (fun h => ?_) (fun h => ?_)) <;> try (exfalso; omega)) | ((with_reducible refine br_ndec (fun h => ?_) (fun h => ?_)) <;> try (exfalso; omega)) | (with_reducible refine br_not (fun h => ?_) (fun h => ?_)) | (with_reducible refine And.intro (fun h => ?_) (fun h => ?_))
      | fail)
  all_goals refine congrArg AV.bool ?_
  all_goals grind
def ex18 : Topology := ⟨2, [], [⟨0, 1, 1, 1, 0, 1, 0⟩]⟩
theorem awake18_c : PureCall Tryd.prog F.law18_awake [] (.bool true) := by
  refine contractS fits K.law18_awake ?_
  have e1 := end_c ex18 ⟨2, 1⟩ 1
  have e2 := end_c ex18 ⟨2, 1⟩ 0
  rw [show endR ex18 ⟨2, 1⟩ 1 = (0, 0) by decide +kernel] at e1
  rw [show endR ex18 ⟨2, 1⟩ 0 = (0, 4) by decide +kernel] at e2
  have tx := textListP_c [⟨1, 3⟩, ⟨2, 7⟩, ⟨3, 2⟩] (by decide)
  rw [show textList [⟨1, 3⟩, ⟨2, 7⟩, ⟨3, 2⟩] = [110, 51, 32, 97, 55, 32, 103, 50] by decide +kernel] at tx
  repeat' (first
      | contradiction
      | (exfalso; revert h; decide)
      | ((with_reducible refine step ?_); conv => whnf) | ((with_reducible refine br_dec (fun h => ?_) (fun h => ?_)) <;> try (exfalso; omega)) | ((with_reducible refine br_ndec (fun h => ?_) (fun h => ?_)) <;> try (exfalso; omega)) | (with_reducible refine br_not (fun h => ?_) (fun h => ?_)) | (with_reducible refine And.intro (fun h => ?_) (fun h => ?_))
      | (refine call_pure e1 rfl rfl ?_; conv => whnf)
      | (refine call_pure e2 rfl rfl ?_; conv => whnf)
      | (refine call_pure tx rfl rfl ?_; conv => whnf)
      | fail)
  all_goals first | rfl
theorem sSegValid_c (t : Topology) (s : Segment) : PureCall Tryd.prog F.law18_SegmentValid [.agg t.enc, .agg s.enc] (.bool true) := by
  refine contractS fits K.law18_SegmentValid ?_
  have c1 := segValid_c t s
  have c2 := segValid18_c t s
  generalize s.valid t = v at c1 c2
  repeat' (first
      | contradiction
      | ((with_reducible refine step ?_); conv => whnf) | ((with_reducible refine br_dec (fun h => ?_) (fun h => ?_)) <;> try (exfalso; omega)) | ((with_reducible refine br_ndec (fun h => ?_) (fun h => ?_)) <;> try (exfalso; omega)) | (with_reducible refine br_not (fun h => ?_) (fun h => ?_)) | (with_reducible refine And.intro (fun h => ?_) (fun h => ?_))
      | (refine call_pure awake18_c rfl rfl ?_; conv => whnf)
      | (refine call_pure (large18_c t) rfl rfl ?_; conv => whnf)
      | (refine call_pure c1 rfl rfl ?_; conv => whnf)
      | (refine call_pure c2 rfl rfl ?_; conv => whnf)
      | fail)
  all_goals first | rfl | (refine congrArg AV.bool ?_; simp; done)
theorem endsL_len : ∀ (t : Topology) (l : List Segment) (n : Int), (endsL t n l).1.length ≤ l.length := by
  intro t l
  induction l with
  | nil => intro n; exact Nat.le_refl _
  | cons s l ih =>
    intro n
    rw [endsL]
    split
    · exact Nat.zero_le _
    · split
      · exact Nat.zero_le _
      · exact Nat.succ_le_succ (ih _)
theorem endsR_len (t : Topology) (l : List Segment) (n : Int) : (endsR t l n).1.length ≤ l.length := by
  unfold endsR; split
  · exact Nat.zero_le _
  · split
    · exact Nat.zero_le _
    · exact endsL_len t l n
theorem sSegEnds_c (t : Topology) (l : List Segment) (n : Int) (hl : l.length ≤ 140737488355328) : PureCall Tryd.prog F.law18_SegmentEnds [.agg t.enc, asl (l.map Segment.enc), ai n] (.bool true) := by
  have hlm : (l.map Segment.enc).length = l.length := List.length_map ..
  by_cases hb : l.length ≤ 100
  · have c1 := sends_c t l n (by omega)
    have c2 := sends18_c t l n (by omega)
    have hle := endsR_len t l n
    have c3 := sameInts_c (endsR t l n).1 (endsR t l n).1 (by omega)
    rw [decide_eq_true rfl] at c3
    cases l with
    | nil =>
      refine contractS fits K.law18_SegmentEnds ?_
      repeat' (first
        | contradiction
        | ((with_reducible refine step ?_); conv => whnf) | ((with_reducible refine br_dec (fun h => ?_) (fun h => ?_)) <;> try (exfalso; omega)) | ((with_reducible refine br_ndec (fun h => ?_) (fun h => ?_)) <;> try (exfalso; omega)) | (with_reducible refine br_not (fun h => ?_) (fun h => ?_)) | (with_reducible refine And.intro (fun h => ?_) (fun h => ?_))
        | (refine call_pure awake18_c rfl rfl ?_; conv => whnf)
        | (refine call_pure (large18_c t) rfl rfl ?_; conv => whnf)
        | (refine call_pure c1 rfl rfl ?_; conv => whnf)
        | (refine call_pure c2 rfl rfl ?_; conv => whnf)
        | (refine call_pure c3 rfl rfl ?_; conv => whnf)
        | fail)
      all_goals first | rfl | (exfalso; simp_all; done) | (refine congrArg AV.bool ?_; simp; done)
    | cons s l =>
      have c4 := end_c t s n
      have c5 := end18_c t s n
      generalize endR t s n = r at c4 c5
      generalize endsR t (s :: l) n = q at c1 c2 c3 hle
      refine contractS fits K.law18_SegmentEnds ?_
      repeat' (first
        | contradiction
        | ((with_reducible refine step ?_); conv => whnf) | ((with_reducible refine br_dec (fun h => ?_) (fun h => ?_)) <;> try (exfalso; omega)) | ((with_reducible refine br_ndec (fun h => ?_) (fun h => ?_)) <;> try (exfalso; omega)) | (with_reducible refine br_not (fun h => ?_) (fun h => ?_)) | (with_reducible refine And.intro (fun h => ?_) (fun h => ?_))
        | (refine call_pure awake18_c rfl rfl ?_; conv => whnf)
        | (refine call_pure (large18_c t) rfl rfl ?_; conv => whnf)
        | (refine call_pure c1 rfl rfl ?_; conv => whnf)
        | (refine call_pure c2 rfl rfl ?_; conv => whnf)
        | (refine call_pure c3 rfl rfl ?_; conv => whnf)
        | (refine call_pure c4 rfl rfl ?_; conv => whnf)
        | (refine call_pure c5 rfl rfl ?_; conv => whnf)
        | (refine idx_nat (xs := s :: l) (i := 0) (Nat.succ_pos _) rfl ?_; conv => whnf)
        | fail)
      all_goals first | rfl | (exfalso; simp_all; done) | (refine congrArg AV.bool ?_; simp; done)
  · refine contractS fits K.law18_SegmentEnds ?_
    repeat' (first
        | contradiction
        | ((with_reducible refine step ?_); conv => whnf) | ((with_reducible refine br_dec (fun h => ?_) (fun h => ?_)) <;> try (exfalso; omega)) | ((with_reducible refine br_ndec (fun h => ?_) (fun h => ?_)) <;> try (exfalso; omega)) | (with_reducible refine br_not (fun h => ?_) (fun h => ?_)) | (with_reducible refine And.intro (fun h => ?_) (fun h => ?_))
        | (refine call_pure awake18_c rfl rfl ?_; conv => whnf)
        | (refine call_pure (large18_c t) rfl rfl ?_; conv => whnf)
        | fail)
    all_goals rfl
end Go.Proofs.YtakkfpiibeokiaaDoor.Vm
/- SegmentJoined. -/
set_option linter.all false
namespace Go.Proofs.YtakkfpiibeokiaaDoor.Vm
open Go
set_option maxRecDepth 100000
set_option maxHeartbeats 4000000
def lastE (n : Int) (xs : List Int) : Int := xs.getLast?.getD n
theorem lastE_cons (n x : Int) (xs : List Int) : lastE n (x :: xs) = lastE x xs := by
  unfold lastE
  cases xs with
  | nil => rfl
  | cons y ys => rw [List.getLast?_cons_cons]; cases h : (y :: ys).getLast? with
    | none => simp at h
    | some z => rfl
theorem endsL_append (t : Topology) (b : List Segment) : ∀ (a : List Segment) (n : Int),
    endsL t n (a ++ b) = if (endsL t n a).2 ≠ 0 then ([], (endsL t n a).2) else joinE (endsL t n a).1 (endsL t (lastE n (endsL t n a).1) b) := by
  intro a
  induction a with
  | nil =>
    intro n
    rw [if_neg (by simp [endsL])]
    exact endsL_start t n b
  | cons s a ih =>
    intro n
    rw [List.cons_append]
    by_cases h1 : (endR t s n).2 ≠ 0
    · rw [endsL, if_pos h1, endsL, if_pos h1, if_pos h1]
    · have h1 : (endR t s n).2 = 0 := by simpa using h1
      rw [endsL_start t n (s :: (a ++ b)), endsL_ok h1, ih]
      have h3 : endsL t n (s :: a) = joinE [(endR t s n).1] (endsL t (endR t s n).1 a) := by rw [endsL_start t n (s :: a), endsL_ok h1]; rfl
      by_cases h2 : (endsL t (endR t s n).1 a).2 ≠ 0
      · rw [if_pos h2, h3, joinE, if_pos h2, joinE, if_pos h2, if_pos h2]
      · rw [if_neg h2, h3]
        have h4 : joinE [(endR t s n).1] (endsL t (endR t s n).1 a) = ((endR t s n).1 :: (endsL t (endR t s n).1 a).1, 0) := by rw [joinE, if_neg h2]; rfl
        rw [h4, if_neg (by simp), lastE_cons]
        unfold joinE
        split
        · rfl
        · rename_i h5; rw [if_neg (by simp)]; rfl
theorem endR_range {t : Topology} {s : Segment} {n : Int} (h : (endR t s n).2 = 0) : 0 ≤ (endR t s n).1 ∧ (endR t s n).1 < t.nodes := by
  unfold endR at h ⊢
  split at h
  · exact absurd h (by decide)
  · rename_i hv
    rw [if_neg hv]
    have hv : s.valid t = true := by simpa using hv
    split at h
    · exact absurd h (by decide)
    · rename_i hr
      rw [if_neg hr]
      split at h
      · rename_i hk
        rw [if_pos hk]
        unfold Segment.valid at hv
        split at hv
        · exact nomatch hv
        · rename_i hv2
          try rw [if_pos hk] at hv
          have hv : s.num < t.nodes := by simpa using hv
          exact ⟨by show 0 ≤ s.num; omega, hv⟩
      · rename_i hk
        rw [if_neg hk]
        split at h
        · exact absurd h (by decide)
        · rename_i hk2
          rw [if_neg hk2]
          split at h
          · exact absurd h (by decide)
          · rename_i hk3
            rw [if_neg hk3]
            have hk2 : s.kind = 2 := by simpa using hk2
            unfold Segment.valid at hv
            split at hv
            · exact nomatch hv
            · rename_i hv2
              try rw [if_neg hk, if_pos hk2] at hv
              have hv : s.num < t.arcs := by simpa [hk, hk2] using hv
              have := ends_range (t := t) (a := s.num) (by omega) hv
              exact ⟨this.2.2.1, this.2.2.2⟩
theorem endsL_good (t : Topology) : ∀ (a : List Segment) (n : Int), 0 ≤ n → n < t.nodes → (endsL t n a).2 = 0 → (endsL t n a).1.length = a.length ∧ 0 ≤ lastE n (endsL t n a).1 ∧ lastE n (endsL t n a).1 < t.nodes := by
  intro a
  induction a with
  | nil => intro n h0 h1 _; exact ⟨rfl, h0, h1⟩
  | cons s a ih =>
    intro n h0 h1 h
    by_cases h2 : (endR t s n).2 ≠ 0
    · rw [endsL, if_pos h2] at h; exact absurd h h2
    · have h2 : (endR t s n).2 = 0 := by simpa using h2
      have h3 : endsL t n (s :: a) = joinE [(endR t s n).1] (endsL t (endR t s n).1 a) := by rw [endsL_start t n (s :: a), endsL_ok h2]; rfl
      by_cases h4 : (endsL t (endR t s n).1 a).2 ≠ 0
      · rw [h3, joinE, if_pos h4] at h; exact absurd h h4
      · have h5 : endsL t n (s :: a) = ((endR t s n).1 :: (endsL t (endR t s n).1 a).1, 0) := by rw [h3, joinE, if_neg h4]; rfl
        have hr := endR_range h2
        obtain ⟨k1, k2, k3⟩ := ih (endR t s n).1 hr.1 hr.2 (by simpa using h4)
        rw [h5]
        refine ⟨by simp [k1], ?_, ?_⟩
        · rw [lastE_cons]; exact k2
        · rw [lastE_cons]; exact k3
theorem ends_joined (t : Topology) (l : List Segment) (n : Int) (m : Nat) (hm : m ≤ l.length) :
    ((endsR t (l.take m) n).2 ≠ 0 → (endsR t l n).2 = (endsR t (l.take m) n).2) ∧
    ((endsR t (l.take m) n).2 = 0 → (endsR t (l.take m) n).1.length = m ∧ (endsR t l n).2 = (endsR t (l.drop m) (lastE n (endsR t (l.take m) n).1)).2 ∧
      ((endsR t l n).2 = 0 → (endsR t l n).1 = (endsR t (l.take m) n).1 ++ (endsR t (l.drop m) (lastE n (endsR t (l.take m) n).1)).1)) := by
  by_cases hv : t.valid = false
  · have : ∀ l n, endsR t l n = ([], 1) := fun l n => by rw [endsR, if_pos hv]
    rw [this, this]
    exact ⟨fun _ => rfl, fun h => absurd h (by decide)⟩
  · by_cases hr : n < 0 ∨ t.nodes ≤ n
    · have : ∀ l, endsR t l n = ([], 2) := fun l => by rw [endsR, if_neg hv, if_pos hr]
      rw [this, this]
      exact ⟨fun _ => rfl, fun h => absurd h (by decide)⟩
    · have hE : ∀ l n, 0 ≤ n → n < t.nodes → endsR t l n = endsL t n l := fun l n h0 h1 => by rw [endsR, if_neg hv, if_neg (by omega)]
      rw [hE _ n (by omega) (by omega), hE _ n (by omega) (by omega)]
      have ha := endsL_append t (l.drop m) (l.take m) n
      rw [List.take_append_drop] at ha
      have hg := endsL_good t (l.take m) n (by omega) (by omega)
      refine ⟨fun h => ?_, fun h => ?_⟩
      · rw [ha, if_pos h]
      · obtain ⟨g1, g2, g3⟩ := hg h
        rw [if_neg (by simp [h])] at ha
        rw [hE _ _ g2 g3, ha]
        refine ⟨by rw [g1, List.length_take]; omega, ?_, fun h2 => ?_⟩
        · unfold joinE; split
          · rfl
          · rename_i h3; simp at h3; exact h3.symm
        · unfold joinE at h2 ⊢
          split at h2
          · rename_i h3; exact absurd h2 h3
          · rename_i h3; rw [if_neg h3]
theorem elems_int (xs : List Int) : elemsOk 1 (xs.map eInt) := fun c hc => by
  obtain ⟨x, -, rfl⟩ := List.mem_map.1 hc
  exact ⟨rfl, fun y hy => by simp [eInt] at hy; subst hy; rfl⟩
theorem sSegJoined_c (t : Topology) (l : List Segment) (n : Int) (c : Int) (hc : 0 ≤ c ∧ c ≤ 255) (hl : l.length ≤ 140737488355328) : PureCall Tryd.prog F.law18_SegmentJoined [.agg t.enc, asl (l.map Segment.enc), ai n, .int .u8 c] (.bool true) := by
  refine contractS fits K.law18_SegmentJoined ?_
  have hlm : (l.map Segment.enc).length = l.length := List.length_map ..
  repeat' (first
      | contradiction
      | ((with_reducible refine step ?_); conv => whnf) | ((with_reducible refine br_dec (fun h => ?_) (fun h => ?_)) <;> try (exfalso; omega)) | ((with_reducible refine br_ndec (fun h => ?_) (fun h => ?_)) <;> try (exfalso; omega)) | (with_reducible refine br_not (fun h => ?_) (fun h => ?_)) | (with_reducible refine And.intro (fun h => ?_) (fun h => ?_))
      | (refine call_pure awake18_c rfl rfl ?_; conv => whnf)
      | (refine call_pure (large18_c t) rfl rfl ?_; conv => whnf)
      | fail)
  all_goals first | rfl | skip
  have hlen : l.length ≤ 100 := by omega
  refine And.intro (by rw [wrap_in (by omega)]; omega) ?_
  conv => whnf
  have p0 := sends_c t l n (by omega)
  repeat' (first
      | ((with_reducible refine step ?_); conv => whnf)
      | (refine call_pure p0 rfl rfl ?_; conv => whnf)
      | fail)
  have hM : 0 ≤ (IntKind.i64.wrap c).tmod (IntKind.i64.wrap ((l.map Segment.enc).length + 1)) ∧ (IntKind.i64.wrap c).tmod (IntKind.i64.wrap ((l.map Segment.enc).length + 1)) ≤ l.length := by
    rw [wrap_in (by omega), wrap_in (by omega), hlm, Int.tmod_eq_emod_of_nonneg hc.1]
    have h1 := Int.emod_nonneg c (show (l.length : Int) + 1 ≠ 0 by omega)
    have h2 := Int.emod_lt_of_pos c (show 0 < (l.length : Int) + 1 by omega)
    omega
  generalize (IntKind.i64.wrap c).tmod (IntKind.i64.wrap ((l.map Segment.enc).length + 1)) = e at hM ⊢
  obtain ⟨m, rfl⟩ : ∃ m : Nat, e = m := ⟨e.toNat, by omega⟩
  have hm : m ≤ l.length := by omega
  have hJ := ends_joined t l n m hm
  have p1 := sends_c t (l.take m) n (by rw [List.length_take]; omega)
  have q1 := endsR_len t (l.take m) n
  generalize endsR t (l.take m) n = r1 at hJ p1 q1
  have p2 := sends_c t (l.drop m) (lastE n r1.1) (by rw [List.length_drop]; omega)
  have q2 := endsR_len t (l.drop m) (lastE n r1.1)
  generalize endsR t (l.drop m) (lastE n r1.1) = r2 at hJ p2 q2
  have q0 := endsR_len t l n
  generalize endsR t l n = r at hJ q0 ⊢
  rw [List.map_take] at p1
  rw [List.map_drop] at p2
  rw [List.length_take] at q1
  rw [List.length_drop] at q2
  have hs : PureCall Tryd.prog F.ref09_SameInts [asl (r.1.map eInt), asl ([] ++ r1.1.map eInt ++ r2.1.map eInt)] (.bool (decide (r.1 = r1.1 ++ r2.1))) := by
    rw [List.nil_append, ← List.map_append]; exact sameInts_c _ _ (by omega)
  refine And.intro ⟨by omega, by omega⟩ ?_
  conv => whnf
  repeat' (first
      | ((with_reducible refine step ?_); conv => whnf)
      | (refine call_pure p1 rfl rfl ?_; conv => whnf)
      | fail)
  have hl1 : (r1.1.map eInt).length = r1.1.length := List.length_map ..
  have hl2 : (r2.1.map eInt).length = r2.1.length := List.length_map ..
  have hl0 : (r.1.map eInt).length = r.1.length := List.length_map ..
  by_cases hz : r1.2 = 0
  · obtain ⟨g1, g2, g3⟩ := hJ.2 hz
    clear hJ
    by_cases m0 : m = 0
    · subst m0
      have hr : r1.1 = [] := List.eq_nil_of_length_eq_zero g1
      rw [show lastE n r1.1 = n by rw [hr]; rfl] at p2
      repeat' (first
        | contradiction
        | ((with_reducible refine step ?_); conv => whnf) | ((with_reducible refine br_dec (fun h => ?_) (fun h => ?_)) <;> try (exfalso; omega)) | ((with_reducible refine br_ndec (fun h => ?_) (fun h => ?_)) <;> try (exfalso; omega)) | (with_reducible refine br_not (fun h => ?_) (fun h => ?_)) | (with_reducible refine And.intro (fun h => ?_) (fun h => ?_))
        | (refine call_pure p2 rfl rfl ?_; conv => whnf)
        | (refine call_pure hs rfl rfl ?_; conv => whnf)
        | (refine And.intro ⟨fun c hc => (by obtain ⟨x, -, rfl⟩ := List.mem_map.1 hc; rfl), by omega, by omega⟩ ?_; conv => whnf)
        | (refine And.intro ⟨trivial, rfl, elems_int _, by simp [big]; omega⟩ ?_; conv => whnf)
        | fail)
      all_goals first | rfl | (refine congrArg AV.bool ?_; rw [decide_eq_true (g3 (by assumption))]; done) | (exfalso; omega)
    · have hlt : m - 1 < r1.1.length := by omega
      have hlast : lastE n r1.1 = r1.1[m - 1] := by
        unfold lastE
        rw [List.getLast?_eq_getElem?, show r1.1.length - 1 = m - 1 by omega, List.getElem?_eq_getElem hlt]; rfl
      rw [hlast] at p2
      repeat' (first
        | contradiction
        | ((with_reducible refine step ?_); conv => whnf) | ((with_reducible refine br_dec (fun h => ?_) (fun h => ?_)) <;> try (exfalso; omega)) | ((with_reducible refine br_ndec (fun h => ?_) (fun h => ?_)) <;> try (exfalso; omega)) | (with_reducible refine br_not (fun h => ?_) (fun h => ?_)) | (with_reducible refine And.intro (fun h => ?_) (fun h => ?_))
        | (refine call_pure p2 rfl rfl ?_; conv => whnf)
        | (refine call_pure hs rfl rfl ?_; conv => whnf)
        | (refine idx_int (j := m - 1) (by rw [wrap_in (by omega)]; omega) hlt rfl ?_; conv => whnf)
        | (refine And.intro ⟨fun c hc => (by obtain ⟨x, -, rfl⟩ := List.mem_map.1 hc; rfl), by omega, by omega⟩ ?_; conv => whnf)
        | (refine And.intro ⟨trivial, rfl, elems_int _, by simp [big]; omega⟩ ?_; conv => whnf)
        | fail)
      all_goals first | rfl | (refine congrArg AV.bool ?_; rw [decide_eq_true (g3 (by assumption))]; done) | (exfalso; omega)
  · have e0 := hJ.1 hz
    repeat' (first
        | contradiction
        | ((with_reducible refine step ?_); conv => whnf) | ((with_reducible refine br_dec (fun h => ?_) (fun h => ?_)) <;> try (exfalso; omega)) | ((with_reducible refine br_ndec (fun h => ?_) (fun h => ?_)) <;> try (exfalso; omega)) | (with_reducible refine br_not (fun h => ?_) (fun h => ?_)) | (with_reducible refine And.intro (fun h => ?_) (fun h => ?_))
        | fail)
    all_goals first | rfl | (refine congrArg AV.bool ?_; rw [decide_eq_true e0]; done) | (exfalso; omega)
end Go.Proofs.YtakkfpiibeokiaaDoor.Vm
