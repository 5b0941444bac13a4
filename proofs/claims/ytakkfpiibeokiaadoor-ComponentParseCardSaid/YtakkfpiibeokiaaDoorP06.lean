/- ComponentText, ComponentParse. -/
import Derived.Test.YtakkfpiibeokiaaDoorP05
set_option linter.all false
namespace Go.Proofs.YtakkfpiibeokiaaDoor.Vm
open Go Go.RowKit
set_option maxRecDepth 100000
set_option maxHeartbeats 4000000
theorem compWord_nosp (k : Int) : ∀ c ∈ compWord k, c ≠ 32 := by
  unfold compWord
  split
  · decide
  · split <;> decide
theorem compText_inv {x : Comp} {l : List UInt8} (h : compText x = l) (hl : l ≠ []) : (x.kind = 1 ∨ x.kind = 2 ∨ x.kind = 3) ∧ 0 ≤ x.num ∧ x.num ≤ 999999999 ∧ l = compWord x.kind ++ 32 :: number x.num := by
  unfold compText at h
  split at h
  · rename_i hk
    exact ⟨by omega, hk.2.2.1, hk.2.2.2, by rw [← h]; simp⟩
  · exact absurd h.symm hl
theorem compText_ok {k n : Int} (h : k = 1 ∨ k = 2 ∨ k = 3) (h0 : 0 ≤ n) (h1 : n ≤ 999999999) : compText ⟨k, n⟩ = compWord k ++ 32 :: number n := by
  rw [compText, if_pos ⟨by show 1 ≤ k; omega, by show k ≤ 3; omega, h0, h1⟩]; simp
theorem indexByte_pre (e : UInt8) (post : List UInt8) : ∀ pre : List UInt8, (∀ c ∈ pre, c ≠ e) → Lib.indexByte (pre ++ e :: post) e = pre.length := by
  intro pre
  induction pre with
  | nil => intro _; rw [List.nil_append, Lib.indexByte, if_pos (by simp)]; rfl
  | cons c pre ih =>
    intro h
    have hc := h c (List.mem_cons_self ..)
    have := ih fun x hx => h x (List.mem_cons_of_mem _ hx)
    rw [List.cons_append, Lib.indexByte, if_neg (by simpa using hc), this, if_neg (by simp)]
    simp
theorem cut_pre (post : List UInt8) {pre : List UInt8} (h : ∀ c ∈ pre, c ≠ 32) : Lib.cut (pre ++ 32 :: post) [32] = (pre, post, true) := by
  have hi : Lib.index (pre ++ 32 :: post) [32] = pre.length := by rw [Lib.index_one, indexByte_pre 32 post pre h]
  unfold Lib.cut
  rw [hi, if_pos (by omega)]
  have e : ((pre.length : Nat) : Int).toNat = pre.length := by omega
  rw [e, List.take_left, List.drop_append]
  simp
theorem parts_two {pre post pre2 post2 : List UInt8} (h : ∀ c ∈ pre, c ≠ 32) (h2 : ∀ c ∈ pre2, c ≠ 32) (e : pre ++ 32 :: post = pre2 ++ 32 :: post2) : pre = pre2 ∧ post = post2 := by
  have := cut_pre post h
  rw [e, cut_pre post2 h2] at this
  injection this with e1 e2
  injection e2 with e2 e3
  exact ⟨e1.symm, e2.symm⟩
theorem compWord_inj {j k : Int} (hj : j = 1 ∨ j = 2 ∨ j = 3) (hk : k = 1 ∨ k = 2 ∨ k = 3) (h : compWord j = compWord k) : j = k := by
  rcases hj with rfl | rfl | rfl <;> rcases hk with rfl | rfl | rfl <;> first | rfl | exact absurd h (by decide)
theorem number_inj {m n : Int} (h0 : 0 ≤ m) (h1 : m ≤ 999999999) (h2 : 0 ≤ n) (h3 : n ≤ 999999999) (h : number m = number n) : m = n := by
  rw [← valueF_number h0 h1, ← valueF_number h2 h3, h]
theorem compText_inj {x y : Comp} {l : List UInt8} (hl : l ≠ []) (hx : compText x = l) (hy : compText y = l) : x = y := by
  obtain ⟨a1, a2, a3, a4⟩ := compText_inv hx hl
  obtain ⟨b1, b2, b3, b4⟩ := compText_inv hy hl
  rw [a4] at b4
  obtain ⟨e1, e2⟩ := parts_two (compWord_nosp _) (compWord_nosp _) b4
  cases x; cases y
  have k1 := compWord_inj a1 b1 e1
  have k2 := number_inj a2 a3 b2 b3 e2
  dsimp only at k1 k2
  subst k1; subst k2; rfl
/-- the component with a text -/
def compParse (l : List UInt8) : Comp × Int :=
  if compWord 1 = (Lib.cut l [32]).1 ∧ compText ⟨1, atoiV (Lib.cut l [32]).2.1⟩ = l then (⟨1, atoiV (Lib.cut l [32]).2.1⟩, 0)
  else if compWord 2 = (Lib.cut l [32]).1 ∧ compText ⟨2, atoiV (Lib.cut l [32]).2.1⟩ = l then (⟨2, atoiV (Lib.cut l [32]).2.1⟩, 0)
  else if compWord 3 = (Lib.cut l [32]).1 ∧ compText ⟨3, atoiV (Lib.cut l [32]).2.1⟩ = l then (⟨3, atoiV (Lib.cut l [32]).2.1⟩, 0)
  else (⟨0, 0⟩, 3)
theorem compParse_ok {l : List UInt8} (h : (compParse l).2 = 0) : compText (compParse l).1 = l ∧ l ≠ [] := by
  have hne : ∀ k, compWord k = (Lib.cut l [32]).1 → l ≠ [] := fun k hk e => by
    subst e
    have : (Lib.cut [] [32]).1 = [] := by decide +kernel
    rw [this] at hk
    unfold compWord at hk
    repeat' split at hk
    all_goals exact nomatch hk
  unfold compParse at h ⊢
  split at h
  · rename_i h1; rw [if_pos h1]; exact ⟨h1.2, hne 1 h1.1⟩
  · rename_i h1
    rw [if_neg h1]
    split at h
    · rename_i h2; rw [if_pos h2]; exact ⟨h2.2, hne 2 h2.1⟩
    · rename_i h2
      rw [if_neg h2]
      split at h
      · rename_i h3; rw [if_pos h3]; exact ⟨h3.2, hne 3 h3.1⟩
      · exact absurd h (by decide)
theorem compParse_two (l : List UInt8) : (compParse l).2 = 0 ∨ compParse l = (⟨0, 0⟩, 3) := by
  unfold compParse
  repeat' split
  all_goals first | exact .inl rfl | exact .inr rfl
theorem compParse_of {x : Comp} {l : List UInt8} (h : compText x = l) (hl : l ≠ []) : compParse l = (x, 0) := by
  obtain ⟨hk, h0, h1, e⟩ := compText_inv h hl
  have hc : Lib.cut l [32] = (compWord x.kind, number x.num, true) := by rw [e, cut_pre _ (compWord_nosp _)]
  have hz : (compParse l).2 = 0 := by
    obtain ⟨k, n⟩ := x
    dsimp only at hk h0 h1 hc e
    unfold compParse
    rw [hc]
    dsimp only
    rw [atoiV_number h0 h1]
    rcases hk with rfl | rfl | rfl
    · rw [if_pos ⟨rfl, h⟩]
    · rw [if_neg (fun q => absurd q.1 (by decide)), if_pos ⟨rfl, h⟩]
    · rw [if_neg (fun q => absurd q.1 (by decide)), if_neg (fun q => absurd q.1 (by decide)), if_pos ⟨rfl, h⟩]
  have := compText_inj hl (compParse_ok hz).1 h
  have e2 : compParse l = ((compParse l).1, (compParse l).2) := rfl
  rw [e2, this, hz]
theorem compParseP_c (l : List UInt8) (hl : l.length ≤ 1000000) : PureCall Tryd.prog F.component_Parse [.str l] (.tuple [.agg (compParse l).1.enc, ai (compParse l).2]) := by
  have hcut := cut_c l [32] (by omega)
  have hsl : (Lib.cut l [32]).2.1.length ≤ l.length := by
    unfold Lib.cut
    split
    · simp
    · simp
  have hat := atoiD_c (Lib.cut l [32]).2.1 (by omega)
  have ht1 := compTextP_c ⟨1, atoiV (Lib.cut l [32]).2.1⟩
  have ht2 := compTextP_c ⟨2, atoiV (Lib.cut l [32]).2.1⟩
  have ht3 := compTextP_c ⟨3, atoiV (Lib.cut l [32]).2.1⟩
  have hdef : compParse l = if compWord 1 = (Lib.cut l [32]).1 ∧ compText ⟨1, atoiV (Lib.cut l [32]).2.1⟩ = l then (⟨1, atoiV (Lib.cut l [32]).2.1⟩, 0)
    else if compWord 2 = (Lib.cut l [32]).1 ∧ compText ⟨2, atoiV (Lib.cut l [32]).2.1⟩ = l then (⟨2, atoiV (Lib.cut l [32]).2.1⟩, 0)
    else if compWord 3 = (Lib.cut l [32]).1 ∧ compText ⟨3, atoiV (Lib.cut l [32]).2.1⟩ = l then (⟨3, atoiV (Lib.cut l [32]).2.1⟩, 0)
    else (⟨0, 0⟩, 3) := rfl
  rw [hdef]
  rw [show compWord 1 = [108, 105, 110, 107] from rfl, show compWord 2 = [110, 111, 100, 101] from rfl, show compWord 3 = [103, 114, 111, 117, 112] from rfl]
  clear hdef
  generalize Lib.cut l [32] = q at hcut hsl hat ht1 ht2 ht3
  obtain ⟨w, r, b⟩ := q
  dsimp only at hcut hsl hat ht1 ht2 ht3 ⊢
  generalize atoiV r = n at hat ht1 ht2 ht3
  generalize hx1 : compText ⟨1, n⟩ = x1 at ht1
  generalize hx2 : compText ⟨2, n⟩ = x2 at ht2
  generalize hx3 : compText ⟨3, n⟩ = x3 at ht3
  refine contractS fits K.component_Parse ?_
  repeat' (first
      | contradiction
      | ((with_reducible refine step ?_); conv => whnf) | ((with_reducible refine br_dec (fun h => ?_) (fun h => ?_)) <;> try (exfalso; omega)) | ((with_reducible refine br_ndec (fun h => ?_) (fun h => ?_)) <;> try (exfalso; omega)) | (with_reducible refine br_not (fun h => ?_) (fun h => ?_)) | (with_reducible refine And.intro (fun h => ?_) (fun h => ?_))
      | (refine loop_fuelD 5 ?_; conv => whnf)
      | (refine call_pure hcut rfl rfl ?_; conv => whnf)
      | (refine call_pure hat rfl rfl ?_; conv => whnf)
      | (refine call_pure words_c rfl rfl ?_; conv => whnf)
      | (refine call_pure ht1 rfl rfl ?_; conv => whnf)
      | (refine call_pure ht2 rfl rfl ?_; conv => whnf)
      | (refine call_pure ht3 rfl rfl ?_; conv => whnf)
      | (refine ⟨0, rfl, by decide, ?_⟩; conv => whnf)
      | (refine ⟨1, rfl, by decide, ?_⟩; conv => whnf)
      | (refine ⟨2, rfl, by decide, ?_⟩; conv => whnf)
      | (refine ⟨3, rfl, by decide, ?_⟩; conv => whnf)
      | fail)
  all_goals clear hx1 hx2 hx3 ht1 ht2 ht3 hat hcut
  all_goals first
    | (exfalso; simp_all; done)
    | (rw [if_pos ⟨by assumption, by assumption⟩]; rfl)
    | (rw [if_neg (fun q => by simp_all), if_pos ⟨by assumption, by assumption⟩]; rfl)
    | (rw [if_neg (fun q => by simp_all), if_neg (fun q => by simp_all), if_pos ⟨by assumption, by assumption⟩]; rfl)
    | (rw [if_neg (fun q => by simp_all), if_neg (fun q => by simp_all), if_neg (fun q => by simp_all)]; rfl)
   
theorem compParse10_c (l : List UInt8) (hl : l.length ≤ 1000000) : PureCall Tryd.prog F.ref10_Parse [.str l] (.tuple [.agg (compParse l).1.enc, ai (compParse l).2]) := by
  refine contractS fits K.ref10_Parse ?_
  have hyes : ∀ (k : Int) (i : Nat), i < l.length → compText ⟨k, valueF (l.drop i)⟩ = l → compParse l = (⟨k, valueF (l.drop i)⟩, 0) := fun k i hi h => compParse_of h (fun e => by subst e; simp at hi)
  have hno : (∀ k : Nat, k < 3 → ∀ i : Nat, i < l.length → ¬ compText ⟨(k : Int) + 1, valueF (l.drop i)⟩ = l) → compParse l = (⟨0, 0⟩, 3) := fun h => by
    rcases compParse_two l with h2 | h2
    · exfalso
      obtain ⟨h3, hne⟩ := compParse_ok h2
      generalize (compParse l).1 = x at h3
      obtain ⟨hk, h0, h1, e⟩ := compText_inv h3 hne
      have hd : l.drop ((compWord x.kind).length + 1) = number x.num := by rw [e, List.drop_append]; simp
      refine h (x.kind - 1).toNat (by omega) ((compWord x.kind).length + 1) ?_ ?_
      · have : number x.num ≠ [] := by rw [number_pos h0]; exact digF_ne 19 _
        have := List.length_pos_iff.2 this
        rw [e]; simp; omega
      · rw [hd, valueF_number h0 h1, show (((x.kind - 1).toNat : Nat) : Int) + 1 = x.kind by omega]
        exact h3
    · exact h2
  generalize compParse l = q at hyes hno
  repeat' (first
      | contradiction
      | ((with_reducible refine step ?_); conv => whnf) | ((with_reducible refine br_dec (fun h => ?_) (fun h => ?_)) <;> try (exfalso; omega)) | ((with_reducible refine br_ndec (fun h => ?_) (fun h => ?_)) <;> try (exfalso; omega)) | (with_reducible refine br_not (fun h => ?_) (fun h => ?_)) | (with_reducible refine And.intro (fun h => ?_) (fun h => ?_))
      | fail)
  refine loop_invS (fun k => k ≤ 3 ∧ ∀ k' : Nat, k' < k → ∀ i : Nat, i < l.length → ¬ compText ⟨(k' : Int) + 1, valueF (l.drop i)⟩ = l) [0, 2, 4] 1 (fun k => [(4, ai ((k : Int) + 1))]) (fun _ => []) (fun k => 3 - k) 0 (by decide) (by decide) ?_
  conv => whnf
  refine ⟨rfl, rfl, ⟨by decide, fun k' h => absurd h (Nat.not_lt_zero _)⟩, fun k ⟨hk, hp⟩ => ?_⟩
  repeat' (first
      | contradiction
      | ((with_reducible refine step ?_); conv => whnf) | ((with_reducible refine br_dec (fun h => ?_) (fun h => ?_)) <;> try (exfalso; omega)) | ((with_reducible refine br_ndec (fun h => ?_) (fun h => ?_)) <;> try (exfalso; omega)) | (with_reducible refine br_not (fun h => ?_) (fun h => ?_)) | (with_reducible refine And.intro (fun h => ?_) (fun h => ?_))
      | fail)
  · refine loop_invS (fun i => i ≤ l.length ∧ ∀ j : Nat, j < i → ¬ compText ⟨(k : Int) + 1, valueF (l.drop j)⟩ = l) [0, 2, 4, 5] 1 (fun i => [(5, ai i)]) (fun _ => []) (fun i => l.length - i) 0 (by decide) (by decide) ?_
    conv => whnf
    refine ⟨rfl, rfl, ⟨Nat.zero_le _, fun j h => absurd h (Nat.not_lt_zero _)⟩, fun i ⟨hi, hq⟩ => ?_⟩
    have hv := value_c (l.drop i) (by simp; omega)
    have ht := compText10_c ⟨(k : Int) + 1, valueF (l.drop i)⟩
    repeat' (first
      | contradiction
      | ((with_reducible refine step ?_); conv => whnf) | ((with_reducible refine br_dec (fun h => ?_) (fun h => ?_)) <;> try (exfalso; omega)) | ((with_reducible refine br_ndec (fun h => ?_) (fun h => ?_)) <;> try (exfalso; omega)) | (with_reducible refine br_not (fun h => ?_) (fun h => ?_)) | (with_reducible refine And.intro (fun h => ?_) (fun h => ?_))
      | (refine call_pure hv rfl rfl ?_; conv => whnf)
      | (refine call_pure ht rfl rfl ?_; conv => whnf)
      | (refine And.intro ⟨by omega, by omega⟩ ?_; conv => whnf)
      | fail)
    · rw [hyes ((k : Int) + 1) i (by omega) (by assumption)]; rfl
    · refine ⟨i + 1, ⟨by omega, fun j hj => ?_⟩, by omega, by rw [wrap_succ (by omega)]; rfl, rfl⟩
      by_cases e : j = i
      · subst e; assumption
      · exact hq j (by omega)
    · refine ⟨k + 1, ⟨by omega, fun k' hk' j hj => ?_⟩, by omega, ?_, rfl⟩
      · by_cases e : k' = k
        · subst e; exact hq j (by omega)
        · exact hp k' (by omega) j hj
      · have e : IntKind.i64.wrap ((k : Int) + 1 + 1) = ((k + 1 : Nat) : Int) + 1 := by rw [wrap_in (by omega)]; omega
        rw [e]; rfl
  · rw [hno fun k' hk' j hj => hp k' (by omega) j hj]; rfl
end Go.Proofs.YtakkfpiibeokiaaDoor.Vm
/- ComponentText, ComponentParse: the statements. -/
set_option linter.all false
namespace Go.Proofs.YtakkfpiibeokiaaDoor.Vm
open Go
set_option maxRecDepth 100000
set_option maxHeartbeats 4000000
theorem sCompText_c (c : Comp) : PureCall Tryd.prog F.law10_ComponentText [.agg c.enc] (.bool true) := by
  have hlen := compText_len c
  have c1 := compTextP_c c
  have c2 := compText10_c c
  have c3 := compParseP_c (compText c) (by omega)
  cases hx : compText c with
  | nil =>
    rw [hx] at c1 c2 c3
    rw [show compParse [] = (⟨0, 0⟩, 3) by decide +kernel] at c3
    refine contractS fits K.law10_ComponentText ?_
    repeat' (first
      | contradiction
      | ((with_reducible refine step ?_); conv => whnf) | ((with_reducible refine br_dec (fun h => ?_) (fun h => ?_)) <;> try (exfalso; omega)) | ((with_reducible refine br_ndec (fun h => ?_) (fun h => ?_)) <;> try (exfalso; omega)) | (with_reducible refine br_not (fun h => ?_) (fun h => ?_)) | (with_reducible refine And.intro (fun h => ?_) (fun h => ?_))
      | (refine call_pure awake10_c rfl rfl ?_; conv => whnf)
      | (refine call_pure c1 rfl rfl ?_; conv => whnf)
      | (refine call_pure c2 rfl rfl ?_; conv => whnf)
      | (refine call_pure c3 rfl rfl ?_; conv => whnf)
      | fail)
    all_goals first | rfl | (exfalso; simp_all; done)
  | cons b r =>
    have hp := compParse_of hx (by simp)
    rw [hx] at c1 c2 c3
    rw [hp] at c3
    refine contractS fits K.law10_ComponentText ?_
    repeat' (first
      | contradiction
      | ((with_reducible refine step ?_); conv => whnf) | ((with_reducible refine br_dec (fun h => ?_) (fun h => ?_)) <;> try (exfalso; omega)) | ((with_reducible refine br_ndec (fun h => ?_) (fun h => ?_)) <;> try (exfalso; omega)) | (with_reducible refine br_not (fun h => ?_) (fun h => ?_)) | (with_reducible refine And.intro (fun h => ?_) (fun h => ?_))
      | (refine call_pure awake10_c rfl rfl ?_; conv => whnf)
      | (refine call_pure c1 rfl rfl ?_; conv => whnf)
      | (refine call_pure c2 rfl rfl ?_; conv => whnf)
      | (refine call_pure c3 rfl rfl ?_; conv => whnf)
      | fail)
    all_goals first | rfl | (exfalso; simp_all; done) | (refine congrArg AV.bool ?_; simp; done)
theorem sCompParse_c (l : List UInt8) (hl : l.length ≤ 140737488355328) : PureCall Tryd.prog F.law10_ComponentParse [.str l] (.bool true) := by
  by_cases hb : l.length ≤ 60
  · have c1 := compParseP_c l (by omega)
    have c2 := compParse10_c l (by omega)
    have c3 := compTextP_c (compParse l).1
    have hok := fun h => (@compParse_ok l h).1
    generalize compParse l = q at c1 c2 c3 hok
    refine contractS fits K.law10_ComponentParse ?_
    repeat' (first
      | contradiction
      | ((with_reducible refine step ?_); conv => whnf) | ((with_reducible refine br_dec (fun h => ?_) (fun h => ?_)) <;> try (exfalso; omega)) | ((with_reducible refine br_ndec (fun h => ?_) (fun h => ?_)) <;> try (exfalso; omega)) | (with_reducible refine br_not (fun h => ?_) (fun h => ?_)) | (with_reducible refine And.intro (fun h => ?_) (fun h => ?_))
      | (refine call_pure awake10_c rfl rfl ?_; conv => whnf)
      | (refine call_pure c1 rfl rfl ?_; conv => whnf)
      | (refine call_pure c2 rfl rfl ?_; conv => whnf)
      | (refine call_pure c3 rfl rfl ?_; conv => whnf)
      | fail)
    all_goals first | rfl | (exfalso; simp_all; done) | (refine congrArg AV.bool ?_; simp_all; done)
  · refine contractS fits K.law10_ComponentParse ?_
    repeat' (first
      | contradiction
      | ((with_reducible refine step ?_); conv => whnf) | ((with_reducible refine br_dec (fun h => ?_) (fun h => ?_)) <;> try (exfalso; omega)) | ((with_reducible refine br_ndec (fun h => ?_) (fun h => ?_)) <;> try (exfalso; omega)) | (with_reducible refine br_not (fun h => ?_) (fun h => ?_)) | (with_reducible refine And.intro (fun h => ?_) (fun h => ?_))
      | (refine call_pure awake10_c rfl rfl ?_; conv => whnf)
      | fail)
    all_goals first | rfl | (exfalso; omega)
end Go.Proofs.YtakkfpiibeokiaaDoor.Vm
